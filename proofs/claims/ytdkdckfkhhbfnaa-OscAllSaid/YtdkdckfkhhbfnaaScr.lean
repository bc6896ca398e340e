/-
  A script: a slice of structs of two numbers, as an argument.
-/
import Derived.Test.YtdkdckfkhhbfnaaCf
import Derived.Test.YtdkdckfkhhbfnaaOp
import Derived.Deep.SlicePairs
namespace Go.Proofs.Ytdkdckfkhhbfnaa
open Go.RowKit Go.ChangeShapes Go.WideShapes Go.Deep

def Script2 (w : World) (v : Value) (n : Nat) (f g : Nat → Int) : Prop := ∃ (a : Option Addr) (cap : Nat), v = .slice a n cap ∧ n ≤ 9223372036854775807 ∧ n ≤ cap ∧ cap ≤ 9223372036854775807 ∧
  ∀ i, i < n → ∃ b o, a = some ⟨b, o, none⟩ ∧ b < w.heap.size ∧ I64 (f i) ∧ I64 (g i) ∧ w.cell? ⟨b, o + i * 2, none⟩ = some (.int .i64 (f i)) ∧ w.cell? ⟨b, o + i * 2 + 1, none⟩ = some (.int .i64 (g i))

section
variable {H : Type} {enc : TypeId × Value → H} {P : Program} {w : World} {base : Nat} {spare : Nat → Bool} {held : Bool} {t e u : TypeId} {v : Value} {d : DataW H} {ps : List MemPlace} {r : Reach} {b0 : Nat}

theorem add_off {b o n : Nat} {spot : Option Nat} (h : spot = none) : (⟨b, o, spot⟩ : Addr).add n = ⟨b, o + n, none⟩ := by
  subst h
  unfold Addr.add
  split
  · rename_i h; subst h; rfl
  · rfl

theorem open_script {f0 f1 : Field} (ht : P.underlying t = some (.slice e)) (he : P.underlying e = some (.struct #[f0, f1])) (hu : P.underlying u = some (.int .i64))
    (hk : (f0.type == u && f1.type == u && f0.offset == 0 && f1.offset == 1 && P.cellsOf u == 1 && P.cellsOf e == 2) = true) (h : DataW.Trod enc P w base spare held t v d ps) (hv : ∃ a l c, v = .slice a l c) :
    ∃ n f g, Script2 w v n f g := by
  simp only [Bool.and_eq_true, beq_iff_eq] at hk
  obtain ⟨⟨⟨⟨⟨k0, k1⟩, o0⟩, o1⟩, kc⟩, kt⟩ := hk
  obtain ⟨a0, l0, c0, rfl⟩ := hv
  obtain ⟨fuel, hf⟩ := h
  have hf' : DataW.trod enc P w base spare held fuel t [.slice a0 l0 c0] = some (d, ps) := by simpa [Value.cells] using hf
  rcases open_slice_pairs ht he kt o0 o1 (by rw [k0]; exact kc) (by rw [k1]; exact kc) hf' with ⟨hc, _⟩ | ⟨a, len, cap, m, k, V0, V1, D0, D1, P0, P1, hc, _, hl, hm, hmm, _, hall⟩
  · simp only [List.cons.injEq, and_true] at hc
    rw [hc]
    exact ⟨0, fun _ => 0, fun _ => 0, none, 0, rfl, by omega, by omega, by omega, fun i hi => absurd hi (Nat.not_lt_zero _)⟩
  · simp only [List.cons.injEq, and_true] at hc
    rw [hc]
    have hlm : len ≤ m := by rw [hmm]; split <;> omega
    have key : ∀ i, ∃ q : Int × Int, i < len → V0 i = .int .i64 q.1 ∧ V1 i = .int .i64 q.2 ∧ I64 q.1 ∧ I64 q.2 := by
      intro i
      by_cases hi : i < len
      · have hi' := hall i (by omega)
        have h0 := hi'.2.2.1
        have h1 := hi'.2.2.2
        rw [k0] at h0
        rw [k1] at h1
        obtain ⟨x, e0, wx⟩ := cells_int hu h0
        obtain ⟨y, e1, wy⟩ := cells_int hu h1
        simp only [List.cons.injEq, and_true] at e0 e1
        exact ⟨(x, y), fun _ => ⟨e0, e1, wx, wy⟩⟩
      · exact ⟨(0, 0), fun h => absurd h hi⟩
    have hml : cap ≤ 9223372036854775807 := hm
    refine ⟨len, fun i => (key i).choose.1, fun i => (key i).choose.2, some a, cap, rfl, by omega, hl, hml, fun i hi => ?_⟩
    obtain ⟨q0, q1, w0, w1⟩ := (key i).choose_spec hi
    have hi' := hall i (by omega)
    obtain ⟨b, o, spot⟩ := a
    have hspot : spot = none := by
      have := (hall 0 (by omega)).1
      simpa [Addr.add] using World.cell?_spot this
    have c0 := hi'.1
    have c1 := hi'.2.1
    rw [add_off hspot, q0] at c0
    rw [add_off hspot, q1] at c1
    have hb : b < w.heap.size := ltc c0
    subst hspot
    exact ⟨b, o, rfl, hb, w0, w1, c0, c1⟩
end
end Go.Proofs.Ytdkdckfkhhbfnaa
