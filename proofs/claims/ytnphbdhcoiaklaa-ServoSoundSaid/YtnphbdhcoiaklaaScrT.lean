/-
  Turns: a slice of structs of two numbers, a truth and two numbers more, as an argument.
-/
import Derived.Test.YtnphbdhcoiaklaaGD
namespace Go.Proofs.Ytnphbdhcoiaklaa
open Go.RowKit Go.ChangeShapes Go.WideShapes Go.Deep

/-- What the i-th turn is. -/
structure TurnIs where
  pa : Int
  ch : Int
  te : Bool
  w0 : Int
  w1 : Int
def ScriptT (w : World) (v : Value) (n : Nat) (f : Nat → TurnIs) : Prop := ∃ (a : Option Addr) (cap : Nat), v = .slice a n cap ∧ n ≤ 9223372036854775807 ∧ n ≤ cap ∧ cap ≤ 9223372036854775807 ∧
  ∀ i, i < n → ∃ b o, a = some ⟨b, o, none⟩ ∧ b < w.heap.size ∧ I64 (f i).pa ∧ I64 (f i).ch ∧ I64 (f i).w0 ∧ I64 (f i).w1 ∧
    w.cell? ⟨b, o + i * 5, none⟩ = some (.int .i64 (f i).pa) ∧ w.cell? ⟨b, o + i * 5 + 1, none⟩ = some (.int .i64 (f i).ch) ∧ w.cell? ⟨b, o + i * 5 + 2, none⟩ = some (.bool (f i).te) ∧ w.cell? ⟨b, o + i * 5 + 3, none⟩ = some (.int .i64 (f i).w0) ∧ w.cell? ⟨b, o + i * 5 + 4, none⟩ = some (.int .i64 (f i).w1)

section
variable {H : Type} {enc : TypeId × Value → H} {P : Program} {w : World} {base : Nat} {spare : Nat → Bool} {held : Bool} {t e u : TypeId} {v : Value} {d : DataW H} {ps : List MemPlace} {r : Reach} {b0 : Nat}

theorem cells_turn {t e s u : TypeId} {f0 f1 f2 f3 : Field} {fuel : Nat} {cs : List Value} {x : DataW H × List MemPlace} (ht : P.underlying t = some (.struct #[f0, f1, f2, f3])) (hs : P.underlying s = some (.array 2 e)) (he : P.underlying e = some (.int .i64)) (hu : P.underlying u = some .bool)
    (hk : (f0.type == e && f1.type == e && f2.type == u && f3.type == s && f0.offset == 0 && f1.offset == 1 && f2.offset == 2 && f3.offset == 3 && P.cellsOf e == 1 && P.cellsOf u == 1 && P.cellsOf s == 2 && P.cellsOf t == 5) = true) (h : DataW.trod enc P w base spare held fuel t cs = some x) :
    ∃ q : TurnIs, cs = [.int .i64 q.pa, .int .i64 q.ch, .bool q.te, .int .i64 q.w0, .int .i64 q.w1] ∧ I64 q.pa ∧ I64 q.ch ∧ I64 q.w0 ∧ I64 q.w1 := by
  simp only [Bool.and_eq_true, beq_iff_eq] at hk
  obtain ⟨⟨⟨⟨⟨⟨⟨⟨⟨⟨⟨k0, k1⟩, k2⟩, k3⟩, o0⟩, o1⟩, o2⟩, o3⟩, kc⟩, ku⟩, ks⟩, kt⟩ := hk
  obtain ⟨xs, n, _, _, hl, hlen, hf⟩ := DataW.trod_struct ht h
  rw [kt] at hl
  match cs, hl, xs, hlen with
  | [c0, c1, c2, c3, c4], _, [y0, y1, y2, y3], _ =>
    have h0 := hf 0 f0 rfl
    have h1 := hf 1 f1 rfl
    have h2 := hf 2 f2 rfl
    have h3 := hf 3 f3 rfl
    rw [k0, o0, kc] at h0
    rw [k1, o1, kc] at h1
    rw [k2, o2, ku] at h2
    rw [k3, o3, ks] at h3
    obtain ⟨a, e0, wa⟩ := cells_int he (h0.trans rfl)
    obtain ⟨b, e1, wb⟩ := cells_int he (h1.trans rfl)
    obtain ⟨c, e2, _⟩ := DataW.trod_bool hu (h2.trans rfl)
    obtain ⟨y, z, e3, wy, wz⟩ := cells_arr2 hs he (by rw [kc, ks]; rfl) (h3.trans rfl)
    simp at e0 e1 e2 e3
    exact ⟨⟨a, b, c, y, z⟩, by rw [e0, e1, e2, e3.1, e3.2], wa, wb, wy, wz⟩

theorem open_scriptT {s b : TypeId} {f0 f1 f2 f3 : Field} (ht : P.underlying t = some (.slice e)) (he : P.underlying e = some (.struct #[f0, f1, f2, f3])) (hs : P.underlying s = some (.array 2 u)) (hu : P.underlying u = some (.int .i64)) (hb : P.underlying b = some .bool)
    (hk : (f0.type == u && f1.type == u && f2.type == b && f3.type == s && f0.offset == 0 && f1.offset == 1 && f2.offset == 2 && f3.offset == 3 && P.cellsOf u == 1 && P.cellsOf b == 1 && P.cellsOf s == 2 && P.cellsOf e == 5) = true)
    (h : DataW.Trod enc P w base spare held t v d ps) (hv : ∃ a l c, v = .slice a l c) : ∃ n f, ScriptT w v n f := by
  have kt : P.cellsOf e = 5 := by simp only [Bool.and_eq_true, beq_iff_eq] at hk; exact hk.2
  obtain ⟨a0, l0, c0, rfl⟩ := hv
  obtain ⟨fuel, hf⟩ := h
  have hf' : DataW.trod enc P w base spare held fuel t [.slice a0 l0 c0] = some (d, ps) := by simpa [Value.cells] using hf
  rcases open_slice ht hf' with ⟨hc, _⟩ | ⟨a, len, cap, m, k, D, Pl, hc, _, hl, hm, hmm, _, hall⟩
  · simp only [List.cons.injEq, and_true] at hc
    rw [hc]
    exact ⟨0, fun _ => ⟨0, 0, false, 0, 0⟩, none, 0, rfl, by omega, by omega, by omega, fun i hi => absurd hi (Nat.not_lt_zero _)⟩
  · simp only [List.cons.injEq, and_true] at hc
    rw [hc]
    have hlm : len ≤ m := by rw [hmm]; split <;> omega
    have key : ∀ i, ∃ q : TurnIs, i < len → I64 q.pa ∧ I64 q.ch ∧ I64 q.w0 ∧ I64 q.w1 ∧ w.cell? (a.add (i * 5)) = some (.int .i64 q.pa) ∧ w.cell? ((a.add (i * 5)).add 1) = some (.int .i64 q.ch) ∧ w.cell? ((a.add (i * 5)).add 2) = some (.bool q.te) ∧ w.cell? ((a.add (i * 5)).add 3) = some (.int .i64 q.w0) ∧ w.cell? ((a.add (i * 5)).add 4) = some (.int .i64 q.w1) := by
      intro i
      by_cases hi : i < len
      · obtain ⟨cs', h1, h2⟩ := hall i (by omega)
        obtain ⟨q, rfl, wa, wb, wx, wy⟩ := cells_turn he hs hu hb hk h2
        rw [kt] at h1
        obtain ⟨_, _, hcell⟩ := World.cells?_some h1
        have e0 := hcell 0 (by omega)
        have e1 := hcell 1 (by omega)
        have e2 := hcell 2 (by omega)
        have e3 := hcell 3 (by omega)
        have e4 := hcell 4 (by omega)
        exact ⟨q, fun _ => ⟨wa, wb, wx, wy, by simpa [Addr.add] using e0, by simpa using e1, by simpa using e2, by simpa using e3, by simpa using e4⟩⟩
      · exact ⟨⟨0, 0, false, 0, 0⟩, fun h => absurd h hi⟩
    have hml : cap ≤ 9223372036854775807 := hm
    refine ⟨len, fun i => (key i).choose, some a, cap, rfl, by omega, hl, hml, fun i hi => ?_⟩
    obtain ⟨w0, w1, w2, w3, c0, c1, c2, c3, c4⟩ := (key i).choose_spec hi
    obtain ⟨b, o, spot⟩ := a
    have hspot : spot = none := by
      obtain ⟨_, _, _, _, d0, _⟩ := (key 0).choose_spec (by omega)
      simpa [Addr.add] using World.cell?_spot d0
    have a0 : (⟨b, o, spot⟩ : Addr).add (i * 5) = ⟨b, o + i * 5, none⟩ := add_off5 hspot
    have ai : ∀ j, ((⟨b, o, spot⟩ : Addr).add (i * 5)).add j = ⟨b, o + i * 5 + j, none⟩ := fun j => by rw [a0, add_off5 rfl]
    have d0 := (congrArg w.cell? a0).symm.trans c0
    exact ⟨b, o, by rw [hspot], ltc d0, w0, w1, w2, w3, d0, (congrArg w.cell? (ai 1)).symm.trans c1, (congrArg w.cell? (ai 2)).symm.trans c2, (congrArg w.cell? (ai 3)).symm.trans c3, (congrArg w.cell? (ai 4)).symm.trans c4⟩
end
end Go.Proofs.Ytnphbdhcoiaklaa
