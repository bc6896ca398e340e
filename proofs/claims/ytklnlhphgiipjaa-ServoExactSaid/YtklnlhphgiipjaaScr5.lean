/-
  A script of a servo: a slice of structs of two numbers and a span, as an argument.
-/
import Derived.Test.YtklnlhphgiipjaaOp
import Derived.Test.YtklnlhphgiipjaaWa
import Derived.Deep.SlicePairs
namespace Go.Proofs.Ytklnlhphgiipjaa
open Go.RowKit Go.ChangeShapes Go.WideShapes Go.Deep

/-- What the i-th call of a script is. -/
structure OpIs where
  kd : Int
  at_ : Int
  lo : Int
  hi : Int
  kn : Bool
def Script5 (w : World) (v : Value) (n : Nat) (f : Nat → OpIs) : Prop := ∃ (a : Option Addr) (cap : Nat), v = .slice a n cap ∧ n ≤ 9223372036854775807 ∧ n ≤ cap ∧ cap ≤ 9223372036854775807 ∧
  ∀ i, i < n → ∃ b o, a = some ⟨b, o, none⟩ ∧ b < w.heap.size ∧ I64 (f i).kd ∧ I64 (f i).at_ ∧ I64 (f i).lo ∧ I64 (f i).hi ∧
    w.cell? ⟨b, o + i * 5, none⟩ = some (.int .i64 (f i).kd) ∧ w.cell? ⟨b, o + i * 5 + 1, none⟩ = some (.int .i64 (f i).at_) ∧ w.cell? ⟨b, o + i * 5 + 2, none⟩ = some (.int .i64 (f i).lo) ∧ w.cell? ⟨b, o + i * 5 + 3, none⟩ = some (.int .i64 (f i).hi) ∧ w.cell? ⟨b, o + i * 5 + 4, none⟩ = some (.bool (f i).kn)

section
variable {H : Type} {enc : TypeId × Value → H} {P : Program} {w : World} {base : Nat} {spare : Nat → Bool} {held : Bool} {t e u : TypeId} {v : Value} {d : DataW H} {ps : List MemPlace} {r : Reach} {b0 : Nat}

theorem add_off5 {b o n : Nat} {spot : Option Nat} (h : spot = none) : (⟨b, o, spot⟩ : Addr).add n = ⟨b, o + n, none⟩ := by
  subst h
  unfold Addr.add
  split
  · rename_i h; subst h; rfl
  · rfl

theorem cells_op {t e s u : TypeId} {f0 f1 f2 g0 g1 g2 : Field} {fuel : Nat} {cs : List Value} {x : DataW H × List MemPlace} (ht : P.underlying t = some (.struct #[f0, f1, f2])) (hs : P.underlying s = some (.struct #[g0, g1, g2])) (he : P.underlying e = some (.int .i64)) (hu : P.underlying u = some .bool)
    (hk : (f0.type == e && f1.type == e && f2.type == s && f0.offset == 0 && f1.offset == 1 && f2.offset == 2 && P.cellsOf e == 1 && P.cellsOf s == 3 && P.cellsOf t == 5) = true)
    (hk2 : (g0.type == e && g1.type == e && g2.type == u && g0.offset == 0 && g1.offset == 1 && g2.offset == 2 && P.cellsOf e == 1 && P.cellsOf u == 1 && P.cellsOf s == 3) = true) (h : DataW.trod enc P w base spare held fuel t cs = some x) :
    ∃ q : OpIs, cs = [.int .i64 q.kd, .int .i64 q.at_, .int .i64 q.lo, .int .i64 q.hi, .bool q.kn] ∧ I64 q.kd ∧ I64 q.at_ ∧ I64 q.lo ∧ I64 q.hi := by
  simp only [Bool.and_eq_true, beq_iff_eq] at hk
  obtain ⟨⟨⟨⟨⟨⟨⟨⟨k0, k1⟩, k2⟩, o0⟩, o1⟩, o2⟩, kc⟩, ku⟩, kt⟩ := hk
  obtain ⟨y0, y1, y2, n, _, hl, h0, h1, h2⟩ := Deep.trod_struct3 ht h
  rw [kt] at hl
  match cs, hl with
  | [c0, c1, c2, c3, c4], _ =>
    rw [k0, o0, kc] at h0
    rw [k1, o1, kc] at h1
    rw [k2, o2, ku] at h2
    obtain ⟨a, e0, wa⟩ := cells_int he h0
    obtain ⟨b, e1, wb⟩ := cells_int he h1
    obtain ⟨x, y, z, e2, wx, wy⟩ := cells_span hs he hu hk2 h2
    simp at e0 e1 e2
    exact ⟨⟨a, b, x, y, z⟩, by rw [e0, e1, e2.1, e2.2.1, e2.2.2], wa, wb, wx, wy⟩

theorem open_script5 {s b : TypeId} {f0 f1 f2 g0 g1 g2 : Field} (ht : P.underlying t = some (.slice e)) (he : P.underlying e = some (.struct #[f0, f1, f2])) (hs : P.underlying s = some (.struct #[g0, g1, g2])) (hu : P.underlying u = some (.int .i64)) (hb : P.underlying b = some .bool)
    (hk : (f0.type == u && f1.type == u && f2.type == s && f0.offset == 0 && f1.offset == 1 && f2.offset == 2 && P.cellsOf u == 1 && P.cellsOf s == 3 && P.cellsOf e == 5) = true)
    (hk2 : (g0.type == u && g1.type == u && g2.type == b && g0.offset == 0 && g1.offset == 1 && g2.offset == 2 && P.cellsOf u == 1 && P.cellsOf b == 1 && P.cellsOf s == 3) = true)
    (h : DataW.Trod enc P w base spare held t v d ps) (hv : ∃ a l c, v = .slice a l c) : ∃ n f, Script5 w v n f := by
  have kt : P.cellsOf e = 5 := by simp only [Bool.and_eq_true, beq_iff_eq] at hk; exact hk.2
  obtain ⟨a0, l0, c0, rfl⟩ := hv
  obtain ⟨fuel, hf⟩ := h
  have hf' : DataW.trod enc P w base spare held fuel t [.slice a0 l0 c0] = some (d, ps) := by simpa [Value.cells] using hf
  rcases open_slice ht hf' with ⟨hc, _⟩ | ⟨a, len, cap, m, k, D, Pl, hc, _, hl, hm, hmm, _, hall⟩
  · simp only [List.cons.injEq, and_true] at hc
    rw [hc]
    exact ⟨0, fun _ => ⟨0, 0, 0, 0, false⟩, none, 0, rfl, by omega, by omega, by omega, fun i hi => absurd hi (Nat.not_lt_zero _)⟩
  · simp only [List.cons.injEq, and_true] at hc
    rw [hc]
    have hlm : len ≤ m := by rw [hmm]; split <;> omega
    have key : ∀ i, ∃ q : OpIs, i < len → I64 q.kd ∧ I64 q.at_ ∧ I64 q.lo ∧ I64 q.hi ∧ w.cell? (a.add (i * 5)) = some (.int .i64 q.kd) ∧ w.cell? ((a.add (i * 5)).add 1) = some (.int .i64 q.at_) ∧ w.cell? ((a.add (i * 5)).add 2) = some (.int .i64 q.lo) ∧ w.cell? ((a.add (i * 5)).add 3) = some (.int .i64 q.hi) ∧ w.cell? ((a.add (i * 5)).add 4) = some (.bool q.kn) := by
      intro i
      by_cases hi : i < len
      · obtain ⟨cs', h1, h2⟩ := hall i (by omega)
        obtain ⟨q, rfl, wa, wb, wx, wy⟩ := cells_op he hs hu hb hk hk2 h2
        rw [kt] at h1
        obtain ⟨_, _, hcell⟩ := World.cells?_some h1
        have e0 := hcell 0 (by omega)
        have e1 := hcell 1 (by omega)
        have e2 := hcell 2 (by omega)
        have e3 := hcell 3 (by omega)
        have e4 := hcell 4 (by omega)
        exact ⟨q, fun _ => ⟨wa, wb, wx, wy, by simpa [Addr.add] using e0, by simpa using e1, by simpa using e2, by simpa using e3, by simpa using e4⟩⟩
      · exact ⟨⟨0, 0, 0, 0, false⟩, fun h => absurd h hi⟩
    have hml : cap ≤ 9223372036854775807 := hm
    refine ⟨len, fun i => (key i).choose, some a, cap, rfl, by omega, hl, hml, fun i hi => ?_⟩
    obtain ⟨w0, w1, w2, w3, c0, c1, c2, c3, c4⟩ := (key i).choose_spec hi
    obtain ⟨b, o, spot⟩ := a
    have hspot : spot = none := by
      obtain ⟨_, _, _, _, d0, _⟩ := (key 0).choose_spec (by omega)
      simpa [Addr.add] using World.cell?_spot d0
    have a0 : (⟨b, o, spot⟩ : Addr).add (i * 5) = ⟨b, o + i * 5, none⟩ := add_off5 hspot
    have ai : ∀ j, ((⟨b, o, spot⟩ : Addr).add (i * 5)).add j = ⟨b, o + i * 5 + j, none⟩ := fun j => by rw [a0, add_off5 rfl]
    have d0 := (congrArg w.cell? a0).symm.trans c0
    exact ⟨b, o, by rw [hspot], ltc d0, w0, w1, w2, w3, d0, (congrArg w.cell? (ai 1)).symm.trans c1, (congrArg w.cell? (ai 2)).symm.trans c2, (congrArg w.cell? (ai 3)).symm.trans c3, (congrArg w.cell? (ai 4)).symm.trans c4⟩
end
end Go.Proofs.Ytklnlhphgiipjaa
