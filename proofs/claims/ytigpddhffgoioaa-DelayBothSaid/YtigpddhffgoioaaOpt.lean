/-
  A struct of three numbers, an array of two, and a number, as an argument.
-/
import Derived.Test.YtigpddhffgoioaaOp
namespace Go.Proofs.Ytigpddhffgoioaa
open Go.RowKit Go.ChangeShapes Go.WideShapes

section
variable {H : Type} {enc : TypeId × Value → H} {P : Program} {w : World} {base : Nat} {spare : Nat → Bool} {held : Bool} {t e u : TypeId} {v : Value} {d : DataW H} {ps : List MemPlace} {r : Reach} {b0 : Nat}
theorem cells_truth {f0 f1 f2 f3 f4 : Field} {fuel : Nat} {cs : List Value} {x : DataW H × List MemPlace} (ht : P.underlying t = some (.struct #[f0, f1, f2, f3, f4])) (hu : P.underlying u = some (.array 2 e)) (he : P.underlying e = some (.int .i64))
    (hk : (f0.type == e && f1.type == e && f2.type == e && f3.type == u && f4.type == e && f0.offset == 0 && f1.offset == 1 && f2.offset == 2 && f3.offset == 3 && f4.offset == 5 && P.cellsOf e == 1 && P.cellsOf u == 2 && P.cellsOf t == 6) = true) (h : DataW.trod enc P w base spare held fuel t cs = some x) :
    ∃ a b c y z n, cs = [.int .i64 a, .int .i64 b, .int .i64 c, .int .i64 y, .int .i64 z, .int .i64 n] ∧ I64 a ∧ I64 b ∧ I64 c ∧ I64 y ∧ I64 z ∧ I64 n := by
  simp only [Bool.and_eq_true, beq_iff_eq] at hk
  obtain ⟨⟨⟨⟨⟨⟨⟨⟨⟨⟨⟨⟨k0, k1⟩, k2⟩, k3⟩, k4⟩, o0⟩, o1⟩, o2⟩, o3⟩, o4⟩, kc⟩, ku⟩, kt⟩ := hk
  obtain ⟨xs, n, _, _, hl, hlen, hf⟩ := DataW.trod_struct ht h
  rw [kt] at hl
  match cs, hl, xs, hlen with
  | [c0, c1, c2, c3, c4, c5], _, [y0, y1, y2, y3, y4], _ =>
    have h0 := hf 0 f0 rfl
    have h1 := hf 1 f1 rfl
    have h2 := hf 2 f2 rfl
    have h3 := hf 3 f3 rfl
    have h4 := hf 4 f4 rfl
    rw [k0, o0, kc] at h0
    rw [k1, o1, kc] at h1
    rw [k2, o2, kc] at h2
    rw [k3, o3, ku] at h3
    rw [k4, o4, kc] at h4
    obtain ⟨a, e0, wa⟩ := cells_int he (h0.trans rfl)
    obtain ⟨b, e1, wb⟩ := cells_int he (h1.trans rfl)
    obtain ⟨c, e2, wc⟩ := cells_int he (h2.trans rfl)
    obtain ⟨y, z, e3, wy, wz⟩ := cells_arr2 hu he (by rw [kc, ku]; rfl) (h3.trans rfl)
    obtain ⟨m, e4, wm⟩ := cells_int he (h4.trans rfl)
    simp at e0 e1 e2 e3 e4
    exact ⟨a, b, c, y, z, m, by rw [e0, e1, e2, e3.1, e3.2, e4], wa, wb, wc, wy, wz, wm⟩
theorem open_truth {f0 f1 f2 f3 f4 : Field} (ht : P.underlying t = some (.struct #[f0, f1, f2, f3, f4])) (hu : P.underlying u = some (.array 2 e)) (he : P.underlying e = some (.int .i64))
    (hk : (f0.type == e && f1.type == e && f2.type == e && f3.type == u && f4.type == e && f0.offset == 0 && f1.offset == 1 && f2.offset == 2 && f3.offset == 3 && f4.offset == 5 && P.cellsOf e == 1 && P.cellsOf u == 2 && P.cellsOf t == 6) = true) (hv : Value.okWide P w r b0 t v) (h : DataW.Trod enc P w base spare held t v d ps) :
    ∃ a b c y z n, v = .agg #[.int .i64 a, .int .i64 b, .int .i64 c, .int .i64 y, .int .i64 z, .int .i64 n] ∧ I64 a ∧ I64 b ∧ I64 c ∧ I64 y ∧ I64 z ∧ I64 n := by
  obtain ⟨cs, n, x, rfl, hf⟩ := agg_struct ht hv h
  obtain ⟨a, b, c, y, z, m, rfl, g⟩ := cells_truth ht hu he hk hf
  exact ⟨a, b, c, y, z, m, rfl, g⟩
end
end Go.Proofs.Ytigpddhffgoioaa
