/-
  The walks of package delay's wider's function.
-/
import Derived.Test.YtigpddhffgoioaaDa
import Derived.Test.YtigpddhffgoioaaSd
import Derived.Test.YtigpddhffgoioaaInvb
import Derived.Test.YtigpddhffgoioaaSpt
import Derived.BigQuiet
import Derived.Deep.QuietTactic
import Derived.Deep.Cut
import Derived.Deep.CutRange
import Derived.Deep.DeepCutAuto
namespace Go.Proofs.Ytigpddhffgoioaa
open Go.RowKit


theorem wider1_no (mn mx g t lo hi : Int) (k : Bool) (h : Hid (pRight mn mx g = false)) (bp bt : Nat) (w : World) (A : CellF w ⟨bp, 0, none⟩ (.int .i64 mn)) (B : CellF w ⟨bp, 1, none⟩ (.int .i64 mx)) (C : CellF w ⟨bp, 2, none⟩ (.int .i64 g)) (D : CellF w ⟨bt, 0, none⟩ (.int .i64 t)) :
    Calls Try.prog 51 #[.agg #[.int .i64 lo, .int .i64 hi, .bool k], .pointer (some ⟨bp, 0, none⟩), .pointer (some ⟨bt, 0, none⟩)] w fun e w' => e = .returned (.agg #[.int .i64 0, .int .i64 0, .bool false]) ∧ Below w.heap.size w w' := by
  have a0 := A.1
  have b0 := B.1
  have c0 := C.1
  have d0 := D.1
  have ha := ltc A.1
  have hb := ltc D.1
  clear A B C D
  go_enter Try.func51, Try.ntmps51
  go_wp2_with fail
  refine (PRight_is _ _ _ _ h _).mono ?_
  rintro e w1 ⟨rfl, hb1⟩
  have q1_1_0 : CellF w1 ⟨w.heap.size + 1, 0, none⟩ (.int .i64 0) := (by refine CellF.keep hb1 ?_; refine ⟨?_, ?_⟩ <;> go_simp)
  have c1_1_0 := q1_1_0.1
  have g1_1_0 := q1_1_0.2
  have q1_1_1 : CellF w1 ⟨w.heap.size + 1, 1, none⟩ (.int .i64 0) := (by refine CellF.keep hb1 ?_; refine ⟨?_, ?_⟩ <;> go_simp)
  have c1_1_1 := q1_1_1.1
  have g1_1_1 := q1_1_1.2
  have q1_1_2 : CellF w1 ⟨w.heap.size + 1, 2, none⟩ (.bool false) := (by refine CellF.keep hb1 ?_; refine ⟨?_, ?_⟩ <;> go_simp)
  have c1_1_2 := q1_1_2.1
  have g1_1_2 := q1_1_2.2
  have z1_1 : w.heap.size + 1 < w1.heap.size := ltc c1_1_0
  go_wp2_with fail
  refine (Unknown_is _).mono ?_
  rintro e w2 ⟨rfl, hb2⟩
  have q2_2_0 : CellF w2 ⟨w.heap.size + 1, 0, none⟩ (.int .i64 0) := (by first | exact CellF.keep hb2 q1_1_0 | exact CellF.keep hb2 (CellF.past _ q1_1_0) | exact CellF.keep hb2 (CellF.past _ (CellF.past _ q1_1_0)) | exact CellF.keep hb2 (CellF.drewN _ q1_1_0))
  have c2_2_0 := q2_2_0.1
  have g2_2_0 := q2_2_0.2
  have q2_2_1 : CellF w2 ⟨w.heap.size + 1, 1, none⟩ (.int .i64 0) := (by first | exact CellF.keep hb2 q1_1_1 | exact CellF.keep hb2 (CellF.past _ q1_1_1) | exact CellF.keep hb2 (CellF.past _ (CellF.past _ q1_1_1)) | exact CellF.keep hb2 (CellF.drewN _ q1_1_1))
  have c2_2_1 := q2_2_1.1
  have g2_2_1 := q2_2_1.2
  have q2_2_2 : CellF w2 ⟨w.heap.size + 1, 2, none⟩ (.bool false) := (by first | exact CellF.keep hb2 q1_1_2 | exact CellF.keep hb2 (CellF.past _ q1_1_2) | exact CellF.keep hb2 (CellF.past _ (CellF.past _ q1_1_2)) | exact CellF.keep hb2 (CellF.drewN _ q1_1_2))
  have c2_2_2 := q2_2_2.1
  have g2_2_2 := q2_2_2.2
  have z2_2 : w.heap.size + 1 < w2.heap.size := ltc c2_2_0
  go_wp2
  exact bodyPost_ret (v := .agg #[.int .i64 0, .int .i64 0, .bool false]) (by simp [results, Try.results51, go_sem, c2_2_0, c2_2_1, c2_2_2]) rfl ⟨rfl, (by repeat (first | exact brefl _ | refine balloc ?_ _ | refine bdrewN ?_ _ | refine bset ?_ (by dsimp only; omega) _ | refine bstep ?_ (by assumption)))⟩

theorem wider1_yes (mn mx g t lo hi x y : Int) (k z : Bool) (h : Hid (pRight mn mx g = true)) (ht0 : 0 ≤ t) (ht : t ≤ 4) (H : Hid (spWider ⟨lo, hi, k⟩ (t * g) (t * g) = ⟨x, y, z⟩)) (bp bt : Nat) (w : World) (A : CellF w ⟨bp, 0, none⟩ (.int .i64 mn)) (B : CellF w ⟨bp, 1, none⟩ (.int .i64 mx)) (C : CellF w ⟨bp, 2, none⟩ (.int .i64 g)) (D : CellF w ⟨bt, 0, none⟩ (.int .i64 t)) :
    Calls Try.prog 51 #[.agg #[.int .i64 lo, .int .i64 hi, .bool k], .pointer (some ⟨bp, 0, none⟩), .pointer (some ⟨bt, 0, none⟩)] w fun e w' => e = .returned (.agg #[.int .i64 x, .int .i64 y, .bool z]) ∧ Below w.heap.size w w' := by
  have a0 := A.1
  have b0 := B.1
  have c0 := C.1
  have d0 := D.1
  have ha := ltc A.1
  have hb := ltc D.1
  have hr := pRight_iff.1 h.out
  have hm : 0 ≤ t * g ∧ t * g ≤ 4000000000 := by
    have h1 := Int.mul_nonneg ht0 hr.2.2.2.1
    have h2 : t * g ≤ 4 * 1000000000 := Int.mul_le_mul ht hr.2.2.2.2 hr.2.2.2.1 (by omega)
    omega
  clear hr
  have hmw : IntKind.i64.wrap (t * g) = t * g := by rw [IntKind.wrap_i64]; omega
  go_enter Try.func51, Try.ntmps51
  go_wp2_with fail
  refine (PRight_is _ _ _ _ h _).mono ?_
  rintro e w1 ⟨rfl, hb1⟩
  have q1_1_0 : CellF w1 ⟨w.heap.size + 1, 0, none⟩ (.int .i64 0) := (by refine CellF.keep hb1 ?_; refine ⟨?_, ?_⟩ <;> go_simp)
  have c1_1_0 := q1_1_0.1
  have g1_1_0 := q1_1_0.2
  have q1_1_1 : CellF w1 ⟨w.heap.size + 1, 1, none⟩ (.int .i64 0) := (by refine CellF.keep hb1 ?_; refine ⟨?_, ?_⟩ <;> go_simp)
  have c1_1_1 := q1_1_1.1
  have g1_1_1 := q1_1_1.2
  have q1_1_2 : CellF w1 ⟨w.heap.size + 1, 2, none⟩ (.bool false) := (by refine CellF.keep hb1 ?_; refine ⟨?_, ?_⟩ <;> go_simp)
  have c1_1_2 := q1_1_2.1
  have g1_1_2 := q1_1_2.2
  have z1_1 : w.heap.size + 1 < w1.heap.size := ltc c1_1_0
  have q1_2_0 : CellF w1 ⟨w.heap.size, 0, none⟩ (.int .i64 lo) := (by refine CellF.keep hb1 ?_; refine ⟨?_, ?_⟩ <;> go_simp)
  have c1_2_0 := q1_2_0.1
  have q1_2_1 : CellF w1 ⟨w.heap.size, 1, none⟩ (.int .i64 hi) := (by refine CellF.keep hb1 ?_; refine ⟨?_, ?_⟩ <;> go_simp)
  have c1_2_1 := q1_2_1.1
  have q1_2_2 : CellF w1 ⟨w.heap.size, 2, none⟩ (.bool k) := (by refine CellF.keep hb1 ?_; refine ⟨?_, ?_⟩ <;> go_simp)
  have c1_2_2 := q1_2_2.1
  have z1_2 : w.heap.size < w1.heap.size := ltc c1_2_0
  have f0 := (A.keep (a := w) (b := w) (Below.refl _ _)).1
  have g2 : w1.cell? ⟨bp, 2, none⟩ = some (.int .i64 g) := (CellF.keep hb1 (CellF.past _ (CellF.past _ C))).1
  have g3 : w1.cell? ⟨bt, 0, none⟩ = some (.int .i64 t) := (CellF.keep hb1 (CellF.past _ (CellF.past _ D))).1
  clear A B C D f0
  go_wp2_with fail
  refine (Wider_is _ _ _ _ _ _ _ _ H _).mono ?_
  rintro e w2 ⟨rfl, hb2⟩
  have q2_3_0 : CellF w2 ⟨w.heap.size + 1, 0, none⟩ (.int .i64 0) := (by first | exact CellF.keep hb2 q1_1_0 | exact CellF.keep hb2 (CellF.past _ q1_1_0) | exact CellF.keep hb2 (CellF.past _ (CellF.past _ q1_1_0)) | exact CellF.keep hb2 (CellF.drewN _ q1_1_0))
  have c2_3_0 := q2_3_0.1
  have g2_3_0 := q2_3_0.2
  have q2_3_1 : CellF w2 ⟨w.heap.size + 1, 1, none⟩ (.int .i64 0) := (by first | exact CellF.keep hb2 q1_1_1 | exact CellF.keep hb2 (CellF.past _ q1_1_1) | exact CellF.keep hb2 (CellF.past _ (CellF.past _ q1_1_1)) | exact CellF.keep hb2 (CellF.drewN _ q1_1_1))
  have c2_3_1 := q2_3_1.1
  have g2_3_1 := q2_3_1.2
  have q2_3_2 : CellF w2 ⟨w.heap.size + 1, 2, none⟩ (.bool false) := (by first | exact CellF.keep hb2 q1_1_2 | exact CellF.keep hb2 (CellF.past _ q1_1_2) | exact CellF.keep hb2 (CellF.past _ (CellF.past _ q1_1_2)) | exact CellF.keep hb2 (CellF.drewN _ q1_1_2))
  have c2_3_2 := q2_3_2.1
  have g2_3_2 := q2_3_2.2
  have z2_3 : w.heap.size + 1 < w2.heap.size := ltc c2_3_0
  go_wp2
  exact bodyPost_ret (v := .agg #[.int .i64 x, .int .i64 y, .bool z]) (by simp [results, Try.results51, go_sem, c2_3_0, c2_3_1, c2_3_2]) rfl ⟨rfl, (by repeat (first | exact brefl _ | refine balloc ?_ _ | refine bdrewN ?_ _ | refine bset ?_ (by dsimp only; omega) _ | refine bstep ?_ (by assumption)))⟩

theorem wider1_is (mn mx g t lo hi x y : Int) (k z : Bool) (ht0 : 0 ≤ t) (ht : t ≤ 4) (H : Hid (dWider mn mx g t ⟨lo, hi, k⟩ = ⟨x, y, z⟩)) (bp bt : Nat) (w : World) (A : CellF w ⟨bp, 0, none⟩ (.int .i64 mn)) (B : CellF w ⟨bp, 1, none⟩ (.int .i64 mx)) (C : CellF w ⟨bp, 2, none⟩ (.int .i64 g)) (D : CellF w ⟨bt, 0, none⟩ (.int .i64 t)) :
    Calls Try.prog 51 #[.agg #[.int .i64 lo, .int .i64 hi, .bool k], .pointer (some ⟨bp, 0, none⟩), .pointer (some ⟨bt, 0, none⟩)] w fun e w' => e = .returned (.agg #[.int .i64 x, .int .i64 y, .bool z]) ∧ Below w.heap.size w w' := by
  have hx := H.out
  unfold dWider at hx
  cases hr : pRight mn mx g with
  | false =>
    rw [hr, if_neg (by decide)] at hx
    cases hx
    exact wider1_no mn mx g t lo hi k (Lib.hid hr) bp bt w A B C D
  | true =>
    rw [hr, if_pos rfl] at hx
    exact wider1_yes mn mx g t lo hi x y k z (Lib.hid hr) ht0 ht (Lib.hid hx) bp bt w A B C D
end Go.Proofs.Ytigpddhffgoioaa
