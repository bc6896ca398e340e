/-
  A script: a slice of arrays of three numbers, as an argument.
-/
import Derived.Test.YtdkdckfkhhbfnaaScr
import Derived.Test.YtdkdckfkhhbfnaaMo
namespace Go.Proofs.Ytdkdckfkhhbfnaa
open Go.RowKit Go.ChangeShapes Go.WideShapes Go.Deep

def Script3 (w : World) (v : Value) (n : Nat) (f g h : Nat → Int) : Prop := ∃ (a : Option Addr) (cap : Nat), v = .slice a n cap ∧ n ≤ 9223372036854775807 ∧ n ≤ cap ∧ cap ≤ 9223372036854775807 ∧
  ∀ i, i < n → ∃ b o, a = some ⟨b, o, none⟩ ∧ b < w.heap.size ∧ I64 (f i) ∧ I64 (g i) ∧ I64 (h i) ∧ w.cell? ⟨b, o + i * 3, none⟩ = some (.int .i64 (f i)) ∧ w.cell? ⟨b, o + i * 3 + 1, none⟩ = some (.int .i64 (g i)) ∧ w.cell? ⟨b, o + i * 3 + 2, none⟩ = some (.int .i64 (h i))

/-- Behind Go: an error, and nothing changed; or so much time has passed. -/
theorem go_time {l a bd p q l' a' r : Int} (hg : goP l a bd p q = (l', a', r)) : (r = 190 ∧ l' = l ∧ a' = a) ∨ (r = 0 ∧ a' = a + p ∧ a + p ≤ 2305843009213693952) := by
  rcases go_cases l a bd p q with e | ⟨n, hn, hq, hp, h1, h2, e⟩
  · rw [e] at hg
    obtain ⟨rfl, rfl, rfl⟩ : l = l' ∧ a = a' ∧ 190 = r := by simpa using hg
    exact .inl ⟨rfl, rfl, rfl⟩
  · rw [e] at hg
    obtain ⟨rfl, rfl, rfl⟩ : l + p + n = l' ∧ a + p = a' ∧ 0 = r := by simpa using hg
    exact .inr ⟨rfl, rfl, h2⟩

section
variable {H : Type} {enc : TypeId × Value → H} {P : Program} {w : World} {base : Nat} {spare : Nat → Bool} {held : Bool} {t e u : TypeId} {v : Value} {d : DataW H} {ps : List MemPlace} {r : Reach} {b0 : Nat}

theorem cells_arr3 {t e : TypeId} {fuel : Nat} {cs : List Value} {x : DataW H × List MemPlace} (ht : P.underlying t = some (.array 3 e)) (he : P.underlying e = some (.int .i64))
    (hk : (P.cellsOf e == 1 && P.cellsOf t == 3) = true) (h : DataW.trod enc P w base spare held fuel t cs = some x) : ∃ a b c, cs = [.int .i64 a, .int .i64 b, .int .i64 c] ∧ I64 a ∧ I64 b ∧ I64 c := by
  simp only [Bool.and_eq_true, beq_iff_eq] at hk
  obtain ⟨xs, n, _, _, hl, hx, hf⟩ := DataW.trod_array ht h
  rw [hk.2] at hl
  obtain ⟨c0, c1, c2, rfl⟩ := list3 hl
  obtain ⟨y0, y1, y2, rfl⟩ := list3 hx
  have h0 := hf 0 (by omega)
  have h1 := hf 1 (by omega)
  have h2 := hf 2 (by omega)
  rw [hk.1] at h0 h1 h2
  obtain ⟨a, e0, wa⟩ := cells_int he (h0.trans rfl)
  obtain ⟨b, e1, wb⟩ := cells_int he (h1.trans rfl)
  obtain ⟨c, e2, wc⟩ := cells_int he (h2.trans rfl)
  simp at e0 e1 e2
  exact ⟨a, b, c, by rw [e0, e1, e2], wa, wb, wc⟩

theorem open_script3 (ht : P.underlying t = some (.slice e)) (he : P.underlying e = some (.array 3 u)) (hu : P.underlying u = some (.int .i64))
    (hk : (P.cellsOf u == 1 && P.cellsOf e == 3) = true) (h : DataW.Trod enc P w base spare held t v d ps) (hv : ∃ a l c, v = .slice a l c) :
    ∃ n f g h, Script3 w v n f g h := by
  have hk' := hk
  simp only [Bool.and_eq_true, beq_iff_eq] at hk
  obtain ⟨kc, kt⟩ := hk
  obtain ⟨a0, l0, c0, rfl⟩ := hv
  obtain ⟨fuel, hf⟩ := h
  have hf' : DataW.trod enc P w base spare held fuel t [.slice a0 l0 c0] = some (d, ps) := by simpa [Value.cells] using hf
  rcases open_slice ht hf' with ⟨hc, _⟩ | ⟨a, len, cap, m, k, D, Pl, hc, _, hl, hm, hmm, _, hall⟩
  · simp only [List.cons.injEq, and_true] at hc
    rw [hc]
    exact ⟨0, fun _ => 0, fun _ => 0, fun _ => 0, none, 0, rfl, by omega, by omega, by omega, fun i hi => absurd hi (Nat.not_lt_zero _)⟩
  · simp only [List.cons.injEq, and_true] at hc
    rw [hc]
    have hlm : len ≤ m := by rw [hmm]; split <;> omega
    have key : ∀ i, ∃ q : Int × Int × Int, i < len → I64 q.1 ∧ I64 q.2.1 ∧ I64 q.2.2 ∧ w.cell? (a.add (i * 3)) = some (.int .i64 q.1) ∧ w.cell? ((a.add (i * 3)).add 1) = some (.int .i64 q.2.1) ∧ w.cell? ((a.add (i * 3)).add 2) = some (.int .i64 q.2.2) := by
      intro i
      by_cases hi : i < len
      · obtain ⟨cs', h1, h2⟩ := hall i (by omega)
        obtain ⟨x, y, z, rfl, wx, wy, wz⟩ := cells_arr3 he hu hk' h2
        rw [kt] at h1
        obtain ⟨_, _, hcell⟩ := World.cells?_some h1
        have e0 := hcell 0 (by omega)
        have e1 := hcell 1 (by omega)
        have e2 := hcell 2 (by omega)
        exact ⟨(x, y, z), fun _ => ⟨wx, wy, wz, by simpa [Addr.add] using e0, by simpa using e1, by simpa using e2⟩⟩
      · exact ⟨(0, 0, 0), fun h => absurd h hi⟩
    have hml : cap ≤ 9223372036854775807 := hm
    refine ⟨len, fun i => (key i).choose.1, fun i => (key i).choose.2.1, fun i => (key i).choose.2.2, some a, cap, rfl, by omega, hl, hml, fun i hi => ?_⟩
    obtain ⟨w0, w1, w2, c0, c1, c2⟩ := (key i).choose_spec hi
    obtain ⟨b, o, spot⟩ := a
    have hspot : spot = none := by
      obtain ⟨_, _, _, d0, _⟩ := (key 0).choose_spec (by omega)
      simpa [Addr.add] using World.cell?_spot d0
    have a0 : (⟨b, o, spot⟩ : Addr).add (i * 3) = ⟨b, o + i * 3, none⟩ := add_off hspot
    have a1 : ((⟨b, o, spot⟩ : Addr).add (i * 3)).add 1 = ⟨b, o + i * 3 + 1, none⟩ := by rw [a0, add_off rfl]
    have a2 : ((⟨b, o, spot⟩ : Addr).add (i * 3)).add 2 = ⟨b, o + i * 3 + 2, none⟩ := by rw [a0, add_off rfl]
    have d0 := (congrArg w.cell? a0).symm.trans c0
    exact ⟨b, o, by rw [hspot], ltc d0, w0, w1, w2, d0, (congrArg w.cell? a1).symm.trans c1, (congrArg w.cell? a2).symm.trans c2⟩
end
end Go.Proofs.Ytdkdckfkhhbfnaa
