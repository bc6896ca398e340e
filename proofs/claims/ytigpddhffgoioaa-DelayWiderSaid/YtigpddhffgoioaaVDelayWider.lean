/-
  The walk of the law DelayWider.
-/
import Derived.Test.YtigpddhffgoioaaAlDelay
import Derived.Test.YtigpddhffgoioaaDf
import Derived.Test.YtigpddhffgoioaaSc
import Derived.Test.YtigpddhffgoioaaInvb
import Derived.Test.YtigpddhffgoioaaSpt
import Derived.Deep.RegionHeld3
import Derived.Deep.Cut
import Derived.Deep.CutRange
import Derived.Deep.DeepCutAuto
namespace Go.Proofs.Ytigpddhffgoioaa
open Go.RowKit

set_option maxRecDepth 100000 in
set_option maxHeartbeats 4000000 in
theorem DelayWider_walk (m1 n1 g1 m2 n2 g2 x0 x1 x2 x3 : Int) (w : World) (_ : I64 m1) (_ : I64 n1) (_ : I64 g1) (_ : I64 m2) (_ : I64 n2) (_ : I64 g2) (_ : I64 x0) (hx1 : I64 x1) (_ : I64 x2) (_ : I64 x3) :
    Calls Try.prog 7 #[.agg #[.int .i64 m1, .int .i64 n1, .int .i64 g1], .agg #[.int .i64 m2, .int .i64 n2, .int .i64 g2], .agg #[.int .i64 x0, .int .i64 x1, .int .i64 x2, .int .i64 x3]] w fun e w' => e = .returned (.bool true) ∧ Below w.heap.size w w' := by
  obtain ⟨r1, h1⟩ : ∃ r, pRight m1 n1 g1 = r := ⟨_, rfl⟩
  have R1 := Lib.hid h1
  obtain ⟨r2, h2⟩ : ∃ r, pRight m2 n2 g2 = r := ⟨_, rfl⟩
  have R2 := Lib.hid h2
  cases r1 with
  | false =>
    go_enter Try.func7, Try.ntmps7
    go_wp2_with fail
    refine (rPRight_is _ _ _ _ R1 _).mono ?_
    rintro e w1 ⟨rfl, hb1⟩
    have q1_1_0 : CellF w1 ⟨w.heap.size, 0, none⟩ (.int .i64 m1) := (by refine CellF.keep hb1 ?_; (first | ((repeat (first | (with_reducible refine CellF.at_ ?_ rfl; (first | rfl | (simp; done))) | with_reducible refine CellF.past _ ?_ | with_reducible refine CellF.drew ?_ | with_reducible refine CellF.drewN _ ?_)); done) | (refine ⟨?_, ?_⟩ <;> go_simp)))
    have c1_1_0 := q1_1_0.1
    have q1_1_1 : CellF w1 ⟨w.heap.size, 1, none⟩ (.int .i64 n1) := (by refine CellF.keep hb1 ?_; (first | ((repeat (first | (with_reducible refine CellF.at_ ?_ rfl; (first | rfl | (simp; done))) | with_reducible refine CellF.past _ ?_ | with_reducible refine CellF.drew ?_ | with_reducible refine CellF.drewN _ ?_)); done) | (refine ⟨?_, ?_⟩ <;> go_simp)))
    have c1_1_1 := q1_1_1.1
    have q1_1_2 : CellF w1 ⟨w.heap.size, 2, none⟩ (.int .i64 g1) := (by refine CellF.keep hb1 ?_; (first | ((repeat (first | (with_reducible refine CellF.at_ ?_ rfl; (first | rfl | (simp; done))) | with_reducible refine CellF.past _ ?_ | with_reducible refine CellF.drew ?_ | with_reducible refine CellF.drewN _ ?_)); done) | (refine ⟨?_, ?_⟩ <;> go_simp)))
    have c1_1_2 := q1_1_2.1
    have z1_1 : w.heap.size < w1.heap.size := ltc c1_1_0
    have q1_2_0 : CellF w1 ⟨(w.heap.size + 1), 0, none⟩ (.int .i64 m2) := (by refine CellF.keep hb1 ?_; (first | ((repeat (first | (with_reducible refine CellF.at_ ?_ rfl; (first | rfl | (simp; done))) | with_reducible refine CellF.past _ ?_ | with_reducible refine CellF.drew ?_ | with_reducible refine CellF.drewN _ ?_)); done) | (refine ⟨?_, ?_⟩ <;> go_simp)))
    have c1_2_0 := q1_2_0.1
    have q1_2_1 : CellF w1 ⟨(w.heap.size + 1), 1, none⟩ (.int .i64 n2) := (by refine CellF.keep hb1 ?_; (first | ((repeat (first | (with_reducible refine CellF.at_ ?_ rfl; (first | rfl | (simp; done))) | with_reducible refine CellF.past _ ?_ | with_reducible refine CellF.drew ?_ | with_reducible refine CellF.drewN _ ?_)); done) | (refine ⟨?_, ?_⟩ <;> go_simp)))
    have c1_2_1 := q1_2_1.1
    have q1_2_2 : CellF w1 ⟨(w.heap.size + 1), 2, none⟩ (.int .i64 g2) := (by refine CellF.keep hb1 ?_; (first | ((repeat (first | (with_reducible refine CellF.at_ ?_ rfl; (first | rfl | (simp; done))) | with_reducible refine CellF.past _ ?_ | with_reducible refine CellF.drew ?_ | with_reducible refine CellF.drewN _ ?_)); done) | (refine ⟨?_, ?_⟩ <;> go_simp)))
    have c1_2_2 := q1_2_2.1
    have z1_2 : (w.heap.size + 1) < w1.heap.size := ltc c1_2_0
    have q1_3_0 : CellF w1 ⟨(w.heap.size + 2), 0, none⟩ (.int .i64 x0) := (by refine CellF.keep hb1 ?_; (first | ((repeat (first | (with_reducible refine CellF.at_ ?_ rfl; (first | rfl | (simp; done))) | with_reducible refine CellF.past _ ?_ | with_reducible refine CellF.drew ?_ | with_reducible refine CellF.drewN _ ?_)); done) | (refine ⟨?_, ?_⟩ <;> go_simp)))
    have c1_3_0 := q1_3_0.1
    have q1_3_1 : CellF w1 ⟨(w.heap.size + 2), 1, none⟩ (.int .i64 x1) := (by refine CellF.keep hb1 ?_; (first | ((repeat (first | (with_reducible refine CellF.at_ ?_ rfl; (first | rfl | (simp; done))) | with_reducible refine CellF.past _ ?_ | with_reducible refine CellF.drew ?_ | with_reducible refine CellF.drewN _ ?_)); done) | (refine ⟨?_, ?_⟩ <;> go_simp)))
    have c1_3_1 := q1_3_1.1
    have q1_3_2 : CellF w1 ⟨(w.heap.size + 2), 2, none⟩ (.int .i64 x2) := (by refine CellF.keep hb1 ?_; (first | ((repeat (first | (with_reducible refine CellF.at_ ?_ rfl; (first | rfl | (simp; done))) | with_reducible refine CellF.past _ ?_ | with_reducible refine CellF.drew ?_ | with_reducible refine CellF.drewN _ ?_)); done) | (refine ⟨?_, ?_⟩ <;> go_simp)))
    have c1_3_2 := q1_3_2.1
    have q1_3_3 : CellF w1 ⟨(w.heap.size + 2), 3, none⟩ (.int .i64 x3) := (by refine CellF.keep hb1 ?_; (first | ((repeat (first | (with_reducible refine CellF.at_ ?_ rfl; (first | rfl | (simp; done))) | with_reducible refine CellF.past _ ?_ | with_reducible refine CellF.drew ?_ | with_reducible refine CellF.drewN _ ?_)); done) | (refine ⟨?_, ?_⟩ <;> go_simp)))
    have c1_3_3 := q1_3_3.1
    have z1_3 : (w.heap.size + 2) < w1.heap.size := ltc c1_3_0
    go_wp2_with fail
    refine (alive_is _).mono ?_
    rintro e w2 ⟨rfl, hb2⟩
    have q2_4_0 : CellF w2 ⟨w.heap.size, 0, none⟩ (.int .i64 m1) := (by refine CellF.keep hb2 ?_; repeat (first | with_reducible exact q1_1_0 | (with_reducible refine CellF.at_ ?_ rfl; (first | rfl | (simp; done))) | with_reducible refine CellF.past _ ?_ | with_reducible refine CellF.drew ?_ | with_reducible refine CellF.drewN _ ?_))
    have c2_4_0 := q2_4_0.1
    have q2_4_1 : CellF w2 ⟨w.heap.size, 1, none⟩ (.int .i64 n1) := (by refine CellF.keep hb2 ?_; repeat (first | with_reducible exact q1_1_1 | (with_reducible refine CellF.at_ ?_ rfl; (first | rfl | (simp; done))) | with_reducible refine CellF.past _ ?_ | with_reducible refine CellF.drew ?_ | with_reducible refine CellF.drewN _ ?_))
    have c2_4_1 := q2_4_1.1
    have q2_4_2 : CellF w2 ⟨w.heap.size, 2, none⟩ (.int .i64 g1) := (by refine CellF.keep hb2 ?_; repeat (first | with_reducible exact q1_1_2 | (with_reducible refine CellF.at_ ?_ rfl; (first | rfl | (simp; done))) | with_reducible refine CellF.past _ ?_ | with_reducible refine CellF.drew ?_ | with_reducible refine CellF.drewN _ ?_))
    have c2_4_2 := q2_4_2.1
    have z2_4 : w.heap.size < w2.heap.size := ltc c2_4_0
    have q2_5_0 : CellF w2 ⟨(w.heap.size + 1), 0, none⟩ (.int .i64 m2) := (by refine CellF.keep hb2 ?_; repeat (first | with_reducible exact q1_2_0 | (with_reducible refine CellF.at_ ?_ rfl; (first | rfl | (simp; done))) | with_reducible refine CellF.past _ ?_ | with_reducible refine CellF.drew ?_ | with_reducible refine CellF.drewN _ ?_))
    have c2_5_0 := q2_5_0.1
    have q2_5_1 : CellF w2 ⟨(w.heap.size + 1), 1, none⟩ (.int .i64 n2) := (by refine CellF.keep hb2 ?_; repeat (first | with_reducible exact q1_2_1 | (with_reducible refine CellF.at_ ?_ rfl; (first | rfl | (simp; done))) | with_reducible refine CellF.past _ ?_ | with_reducible refine CellF.drew ?_ | with_reducible refine CellF.drewN _ ?_))
    have c2_5_1 := q2_5_1.1
    have q2_5_2 : CellF w2 ⟨(w.heap.size + 1), 2, none⟩ (.int .i64 g2) := (by refine CellF.keep hb2 ?_; repeat (first | with_reducible exact q1_2_2 | (with_reducible refine CellF.at_ ?_ rfl; (first | rfl | (simp; done))) | with_reducible refine CellF.past _ ?_ | with_reducible refine CellF.drew ?_ | with_reducible refine CellF.drewN _ ?_))
    have c2_5_2 := q2_5_2.1
    have z2_5 : (w.heap.size + 1) < w2.heap.size := ltc c2_5_0
    have q2_6_0 : CellF w2 ⟨(w.heap.size + 2), 0, none⟩ (.int .i64 x0) := (by refine CellF.keep hb2 ?_; repeat (first | with_reducible exact q1_3_0 | (with_reducible refine CellF.at_ ?_ rfl; (first | rfl | (simp; done))) | with_reducible refine CellF.past _ ?_ | with_reducible refine CellF.drew ?_ | with_reducible refine CellF.drewN _ ?_))
    have c2_6_0 := q2_6_0.1
    have q2_6_1 : CellF w2 ⟨(w.heap.size + 2), 1, none⟩ (.int .i64 x1) := (by refine CellF.keep hb2 ?_; repeat (first | with_reducible exact q1_3_1 | (with_reducible refine CellF.at_ ?_ rfl; (first | rfl | (simp; done))) | with_reducible refine CellF.past _ ?_ | with_reducible refine CellF.drew ?_ | with_reducible refine CellF.drewN _ ?_))
    have c2_6_1 := q2_6_1.1
    have q2_6_2 : CellF w2 ⟨(w.heap.size + 2), 2, none⟩ (.int .i64 x2) := (by refine CellF.keep hb2 ?_; repeat (first | with_reducible exact q1_3_2 | (with_reducible refine CellF.at_ ?_ rfl; (first | rfl | (simp; done))) | with_reducible refine CellF.past _ ?_ | with_reducible refine CellF.drew ?_ | with_reducible refine CellF.drewN _ ?_))
    have c2_6_2 := q2_6_2.1
    have q2_6_3 : CellF w2 ⟨(w.heap.size + 2), 3, none⟩ (.int .i64 x3) := (by refine CellF.keep hb2 ?_; repeat (first | with_reducible exact q1_3_3 | (with_reducible refine CellF.at_ ?_ rfl; (first | rfl | (simp; done))) | with_reducible refine CellF.past _ ?_ | with_reducible refine CellF.drew ?_ | with_reducible refine CellF.drewN _ ?_))
    have c2_6_3 := q2_6_3.1
    have z2_6 : (w.heap.size + 2) < w2.heap.size := ltc c2_6_0
    clear q1_1_0 c1_1_0 q1_1_1 c1_1_1 q1_1_2 c1_1_2 z1_1 q1_2_0 c1_2_0 q1_2_1 c1_2_1 q1_2_2 c1_2_2 z1_2 q1_3_0 c1_3_0 q1_3_1 c1_3_1 q1_3_2 c1_3_2 q1_3_3 c1_3_3 z1_3
    all_goals (go_wp2; go_ret; exact ⟨rfl, (by repeat (first | exact brefl _ | refine balloc ?_ _ | refine bdrewN ?_ _ | refine bset ?_ (by dsimp only; omega) _ | refine bstep ?_ (by assumption)))⟩)
  | true =>
    cases r2 with
    | false =>
      go_enter Try.func7, Try.ntmps7
      go_wp2_with fail
      refine (rPRight_is _ _ _ _ R1 _).mono ?_
      rintro e w1 ⟨rfl, hb1⟩
      have q1_1_0 : CellF w1 ⟨w.heap.size, 0, none⟩ (.int .i64 m1) := (by refine CellF.keep hb1 ?_; (first | ((repeat (first | (with_reducible refine CellF.at_ ?_ rfl; (first | rfl | (simp; done))) | with_reducible refine CellF.past _ ?_ | with_reducible refine CellF.drew ?_ | with_reducible refine CellF.drewN _ ?_)); done) | (refine ⟨?_, ?_⟩ <;> go_simp)))
      have c1_1_0 := q1_1_0.1
      have q1_1_1 : CellF w1 ⟨w.heap.size, 1, none⟩ (.int .i64 n1) := (by refine CellF.keep hb1 ?_; (first | ((repeat (first | (with_reducible refine CellF.at_ ?_ rfl; (first | rfl | (simp; done))) | with_reducible refine CellF.past _ ?_ | with_reducible refine CellF.drew ?_ | with_reducible refine CellF.drewN _ ?_)); done) | (refine ⟨?_, ?_⟩ <;> go_simp)))
      have c1_1_1 := q1_1_1.1
      have q1_1_2 : CellF w1 ⟨w.heap.size, 2, none⟩ (.int .i64 g1) := (by refine CellF.keep hb1 ?_; (first | ((repeat (first | (with_reducible refine CellF.at_ ?_ rfl; (first | rfl | (simp; done))) | with_reducible refine CellF.past _ ?_ | with_reducible refine CellF.drew ?_ | with_reducible refine CellF.drewN _ ?_)); done) | (refine ⟨?_, ?_⟩ <;> go_simp)))
      have c1_1_2 := q1_1_2.1
      have z1_1 : w.heap.size < w1.heap.size := ltc c1_1_0
      have q1_2_0 : CellF w1 ⟨(w.heap.size + 1), 0, none⟩ (.int .i64 m2) := (by refine CellF.keep hb1 ?_; (first | ((repeat (first | (with_reducible refine CellF.at_ ?_ rfl; (first | rfl | (simp; done))) | with_reducible refine CellF.past _ ?_ | with_reducible refine CellF.drew ?_ | with_reducible refine CellF.drewN _ ?_)); done) | (refine ⟨?_, ?_⟩ <;> go_simp)))
      have c1_2_0 := q1_2_0.1
      have q1_2_1 : CellF w1 ⟨(w.heap.size + 1), 1, none⟩ (.int .i64 n2) := (by refine CellF.keep hb1 ?_; (first | ((repeat (first | (with_reducible refine CellF.at_ ?_ rfl; (first | rfl | (simp; done))) | with_reducible refine CellF.past _ ?_ | with_reducible refine CellF.drew ?_ | with_reducible refine CellF.drewN _ ?_)); done) | (refine ⟨?_, ?_⟩ <;> go_simp)))
      have c1_2_1 := q1_2_1.1
      have q1_2_2 : CellF w1 ⟨(w.heap.size + 1), 2, none⟩ (.int .i64 g2) := (by refine CellF.keep hb1 ?_; (first | ((repeat (first | (with_reducible refine CellF.at_ ?_ rfl; (first | rfl | (simp; done))) | with_reducible refine CellF.past _ ?_ | with_reducible refine CellF.drew ?_ | with_reducible refine CellF.drewN _ ?_)); done) | (refine ⟨?_, ?_⟩ <;> go_simp)))
      have c1_2_2 := q1_2_2.1
      have z1_2 : (w.heap.size + 1) < w1.heap.size := ltc c1_2_0
      have q1_3_0 : CellF w1 ⟨(w.heap.size + 2), 0, none⟩ (.int .i64 x0) := (by refine CellF.keep hb1 ?_; (first | ((repeat (first | (with_reducible refine CellF.at_ ?_ rfl; (first | rfl | (simp; done))) | with_reducible refine CellF.past _ ?_ | with_reducible refine CellF.drew ?_ | with_reducible refine CellF.drewN _ ?_)); done) | (refine ⟨?_, ?_⟩ <;> go_simp)))
      have c1_3_0 := q1_3_0.1
      have q1_3_1 : CellF w1 ⟨(w.heap.size + 2), 1, none⟩ (.int .i64 x1) := (by refine CellF.keep hb1 ?_; (first | ((repeat (first | (with_reducible refine CellF.at_ ?_ rfl; (first | rfl | (simp; done))) | with_reducible refine CellF.past _ ?_ | with_reducible refine CellF.drew ?_ | with_reducible refine CellF.drewN _ ?_)); done) | (refine ⟨?_, ?_⟩ <;> go_simp)))
      have c1_3_1 := q1_3_1.1
      have q1_3_2 : CellF w1 ⟨(w.heap.size + 2), 2, none⟩ (.int .i64 x2) := (by refine CellF.keep hb1 ?_; (first | ((repeat (first | (with_reducible refine CellF.at_ ?_ rfl; (first | rfl | (simp; done))) | with_reducible refine CellF.past _ ?_ | with_reducible refine CellF.drew ?_ | with_reducible refine CellF.drewN _ ?_)); done) | (refine ⟨?_, ?_⟩ <;> go_simp)))
      have c1_3_2 := q1_3_2.1
      have q1_3_3 : CellF w1 ⟨(w.heap.size + 2), 3, none⟩ (.int .i64 x3) := (by refine CellF.keep hb1 ?_; (first | ((repeat (first | (with_reducible refine CellF.at_ ?_ rfl; (first | rfl | (simp; done))) | with_reducible refine CellF.past _ ?_ | with_reducible refine CellF.drew ?_ | with_reducible refine CellF.drewN _ ?_)); done) | (refine ⟨?_, ?_⟩ <;> go_simp)))
      have c1_3_3 := q1_3_3.1
      have z1_3 : (w.heap.size + 2) < w1.heap.size := ltc c1_3_0
      go_wp2_with fail
      refine (rPRight_is _ _ _ _ R2 _).mono ?_
      rintro e w2 ⟨rfl, hb2⟩
      have q2_4_0 : CellF w2 ⟨w.heap.size, 0, none⟩ (.int .i64 m1) := (by refine CellF.keep hb2 ?_; repeat (first | with_reducible exact q1_1_0 | (with_reducible refine CellF.at_ ?_ rfl; (first | rfl | (simp; done))) | with_reducible refine CellF.past _ ?_ | with_reducible refine CellF.drew ?_ | with_reducible refine CellF.drewN _ ?_))
      have c2_4_0 := q2_4_0.1
      have q2_4_1 : CellF w2 ⟨w.heap.size, 1, none⟩ (.int .i64 n1) := (by refine CellF.keep hb2 ?_; repeat (first | with_reducible exact q1_1_1 | (with_reducible refine CellF.at_ ?_ rfl; (first | rfl | (simp; done))) | with_reducible refine CellF.past _ ?_ | with_reducible refine CellF.drew ?_ | with_reducible refine CellF.drewN _ ?_))
      have c2_4_1 := q2_4_1.1
      have q2_4_2 : CellF w2 ⟨w.heap.size, 2, none⟩ (.int .i64 g1) := (by refine CellF.keep hb2 ?_; repeat (first | with_reducible exact q1_1_2 | (with_reducible refine CellF.at_ ?_ rfl; (first | rfl | (simp; done))) | with_reducible refine CellF.past _ ?_ | with_reducible refine CellF.drew ?_ | with_reducible refine CellF.drewN _ ?_))
      have c2_4_2 := q2_4_2.1
      have z2_4 : w.heap.size < w2.heap.size := ltc c2_4_0
      have q2_5_0 : CellF w2 ⟨(w.heap.size + 1), 0, none⟩ (.int .i64 m2) := (by refine CellF.keep hb2 ?_; repeat (first | with_reducible exact q1_2_0 | (with_reducible refine CellF.at_ ?_ rfl; (first | rfl | (simp; done))) | with_reducible refine CellF.past _ ?_ | with_reducible refine CellF.drew ?_ | with_reducible refine CellF.drewN _ ?_))
      have c2_5_0 := q2_5_0.1
      have q2_5_1 : CellF w2 ⟨(w.heap.size + 1), 1, none⟩ (.int .i64 n2) := (by refine CellF.keep hb2 ?_; repeat (first | with_reducible exact q1_2_1 | (with_reducible refine CellF.at_ ?_ rfl; (first | rfl | (simp; done))) | with_reducible refine CellF.past _ ?_ | with_reducible refine CellF.drew ?_ | with_reducible refine CellF.drewN _ ?_))
      have c2_5_1 := q2_5_1.1
      have q2_5_2 : CellF w2 ⟨(w.heap.size + 1), 2, none⟩ (.int .i64 g2) := (by refine CellF.keep hb2 ?_; repeat (first | with_reducible exact q1_2_2 | (with_reducible refine CellF.at_ ?_ rfl; (first | rfl | (simp; done))) | with_reducible refine CellF.past _ ?_ | with_reducible refine CellF.drew ?_ | with_reducible refine CellF.drewN _ ?_))
      have c2_5_2 := q2_5_2.1
      have z2_5 : (w.heap.size + 1) < w2.heap.size := ltc c2_5_0
      have q2_6_0 : CellF w2 ⟨(w.heap.size + 2), 0, none⟩ (.int .i64 x0) := (by refine CellF.keep hb2 ?_; repeat (first | with_reducible exact q1_3_0 | (with_reducible refine CellF.at_ ?_ rfl; (first | rfl | (simp; done))) | with_reducible refine CellF.past _ ?_ | with_reducible refine CellF.drew ?_ | with_reducible refine CellF.drewN _ ?_))
      have c2_6_0 := q2_6_0.1
      have q2_6_1 : CellF w2 ⟨(w.heap.size + 2), 1, none⟩ (.int .i64 x1) := (by refine CellF.keep hb2 ?_; repeat (first | with_reducible exact q1_3_1 | (with_reducible refine CellF.at_ ?_ rfl; (first | rfl | (simp; done))) | with_reducible refine CellF.past _ ?_ | with_reducible refine CellF.drew ?_ | with_reducible refine CellF.drewN _ ?_))
      have c2_6_1 := q2_6_1.1
      have q2_6_2 : CellF w2 ⟨(w.heap.size + 2), 2, none⟩ (.int .i64 x2) := (by refine CellF.keep hb2 ?_; repeat (first | with_reducible exact q1_3_2 | (with_reducible refine CellF.at_ ?_ rfl; (first | rfl | (simp; done))) | with_reducible refine CellF.past _ ?_ | with_reducible refine CellF.drew ?_ | with_reducible refine CellF.drewN _ ?_))
      have c2_6_2 := q2_6_2.1
      have q2_6_3 : CellF w2 ⟨(w.heap.size + 2), 3, none⟩ (.int .i64 x3) := (by refine CellF.keep hb2 ?_; repeat (first | with_reducible exact q1_3_3 | (with_reducible refine CellF.at_ ?_ rfl; (first | rfl | (simp; done))) | with_reducible refine CellF.past _ ?_ | with_reducible refine CellF.drew ?_ | with_reducible refine CellF.drewN _ ?_))
      have c2_6_3 := q2_6_3.1
      have z2_6 : (w.heap.size + 2) < w2.heap.size := ltc c2_6_0
      clear q1_1_0 c1_1_0 q1_1_1 c1_1_1 q1_1_2 c1_1_2 z1_1 q1_2_0 c1_2_0 q1_2_1 c1_2_1 q1_2_2 c1_2_2 z1_2 q1_3_0 c1_3_0 q1_3_1 c1_3_1 q1_3_2 c1_3_2 q1_3_3 c1_3_3 z1_3
      go_wp2_with fail
      refine (alive_is _).mono ?_
      rintro e w3 ⟨rfl, hb3⟩
      have q3_7_0 : CellF w3 ⟨w.heap.size, 0, none⟩ (.int .i64 m1) := (by refine CellF.keep hb3 ?_; repeat (first | with_reducible exact q2_4_0 | (with_reducible refine CellF.at_ ?_ rfl; (first | rfl | (simp; done))) | with_reducible refine CellF.past _ ?_ | with_reducible refine CellF.drew ?_ | with_reducible refine CellF.drewN _ ?_))
      have c3_7_0 := q3_7_0.1
      have q3_7_1 : CellF w3 ⟨w.heap.size, 1, none⟩ (.int .i64 n1) := (by refine CellF.keep hb3 ?_; repeat (first | with_reducible exact q2_4_1 | (with_reducible refine CellF.at_ ?_ rfl; (first | rfl | (simp; done))) | with_reducible refine CellF.past _ ?_ | with_reducible refine CellF.drew ?_ | with_reducible refine CellF.drewN _ ?_))
      have c3_7_1 := q3_7_1.1
      have q3_7_2 : CellF w3 ⟨w.heap.size, 2, none⟩ (.int .i64 g1) := (by refine CellF.keep hb3 ?_; repeat (first | with_reducible exact q2_4_2 | (with_reducible refine CellF.at_ ?_ rfl; (first | rfl | (simp; done))) | with_reducible refine CellF.past _ ?_ | with_reducible refine CellF.drew ?_ | with_reducible refine CellF.drewN _ ?_))
      have c3_7_2 := q3_7_2.1
      have z3_7 : w.heap.size < w3.heap.size := ltc c3_7_0
      have q3_8_0 : CellF w3 ⟨(w.heap.size + 1), 0, none⟩ (.int .i64 m2) := (by refine CellF.keep hb3 ?_; repeat (first | with_reducible exact q2_5_0 | (with_reducible refine CellF.at_ ?_ rfl; (first | rfl | (simp; done))) | with_reducible refine CellF.past _ ?_ | with_reducible refine CellF.drew ?_ | with_reducible refine CellF.drewN _ ?_))
      have c3_8_0 := q3_8_0.1
      have q3_8_1 : CellF w3 ⟨(w.heap.size + 1), 1, none⟩ (.int .i64 n2) := (by refine CellF.keep hb3 ?_; repeat (first | with_reducible exact q2_5_1 | (with_reducible refine CellF.at_ ?_ rfl; (first | rfl | (simp; done))) | with_reducible refine CellF.past _ ?_ | with_reducible refine CellF.drew ?_ | with_reducible refine CellF.drewN _ ?_))
      have c3_8_1 := q3_8_1.1
      have q3_8_2 : CellF w3 ⟨(w.heap.size + 1), 2, none⟩ (.int .i64 g2) := (by refine CellF.keep hb3 ?_; repeat (first | with_reducible exact q2_5_2 | (with_reducible refine CellF.at_ ?_ rfl; (first | rfl | (simp; done))) | with_reducible refine CellF.past _ ?_ | with_reducible refine CellF.drew ?_ | with_reducible refine CellF.drewN _ ?_))
      have c3_8_2 := q3_8_2.1
      have z3_8 : (w.heap.size + 1) < w3.heap.size := ltc c3_8_0
      have q3_9_0 : CellF w3 ⟨(w.heap.size + 2), 0, none⟩ (.int .i64 x0) := (by refine CellF.keep hb3 ?_; repeat (first | with_reducible exact q2_6_0 | (with_reducible refine CellF.at_ ?_ rfl; (first | rfl | (simp; done))) | with_reducible refine CellF.past _ ?_ | with_reducible refine CellF.drew ?_ | with_reducible refine CellF.drewN _ ?_))
      have c3_9_0 := q3_9_0.1
      have q3_9_1 : CellF w3 ⟨(w.heap.size + 2), 1, none⟩ (.int .i64 x1) := (by refine CellF.keep hb3 ?_; repeat (first | with_reducible exact q2_6_1 | (with_reducible refine CellF.at_ ?_ rfl; (first | rfl | (simp; done))) | with_reducible refine CellF.past _ ?_ | with_reducible refine CellF.drew ?_ | with_reducible refine CellF.drewN _ ?_))
      have c3_9_1 := q3_9_1.1
      have q3_9_2 : CellF w3 ⟨(w.heap.size + 2), 2, none⟩ (.int .i64 x2) := (by refine CellF.keep hb3 ?_; repeat (first | with_reducible exact q2_6_2 | (with_reducible refine CellF.at_ ?_ rfl; (first | rfl | (simp; done))) | with_reducible refine CellF.past _ ?_ | with_reducible refine CellF.drew ?_ | with_reducible refine CellF.drewN _ ?_))
      have c3_9_2 := q3_9_2.1
      have q3_9_3 : CellF w3 ⟨(w.heap.size + 2), 3, none⟩ (.int .i64 x3) := (by refine CellF.keep hb3 ?_; repeat (first | with_reducible exact q2_6_3 | (with_reducible refine CellF.at_ ?_ rfl; (first | rfl | (simp; done))) | with_reducible refine CellF.past _ ?_ | with_reducible refine CellF.drew ?_ | with_reducible refine CellF.drewN _ ?_))
      have c3_9_3 := q3_9_3.1
      have z3_9 : (w.heap.size + 2) < w3.heap.size := ltc c3_9_0
      clear q2_4_0 c2_4_0 q2_4_1 c2_4_1 q2_4_2 c2_4_2 z2_4 q2_5_0 c2_5_0 q2_5_1 c2_5_1 q2_5_2 c2_5_2 z2_5 q2_6_0 c2_6_0 q2_6_1 c2_6_1 q2_6_2 c2_6_2 q2_6_3 c2_6_3 z2_6
      all_goals (go_wp2; go_ret; exact ⟨rfl, (by repeat (first | exact brefl _ | refine balloc ?_ _ | refine bdrewN ?_ _ | refine bset ?_ (by dsimp only; omega) _ | refine bstep ?_ (by assumption)))⟩)
    | true =>
      by_cases z0 : m1 < m2
      ·
        go_enter Try.func7, Try.ntmps7
        go_wp2_with fail
        refine (rPRight_is _ _ _ _ R1 _).mono ?_
        rintro e w1 ⟨rfl, hb1⟩
        have q1_1_0 : CellF w1 ⟨w.heap.size, 0, none⟩ (.int .i64 m1) := (by refine CellF.keep hb1 ?_; (first | ((repeat (first | (with_reducible refine CellF.at_ ?_ rfl; (first | rfl | (simp; done))) | with_reducible refine CellF.past _ ?_ | with_reducible refine CellF.drew ?_ | with_reducible refine CellF.drewN _ ?_)); done) | (refine ⟨?_, ?_⟩ <;> go_simp)))
        have c1_1_0 := q1_1_0.1
        have q1_1_1 : CellF w1 ⟨w.heap.size, 1, none⟩ (.int .i64 n1) := (by refine CellF.keep hb1 ?_; (first | ((repeat (first | (with_reducible refine CellF.at_ ?_ rfl; (first | rfl | (simp; done))) | with_reducible refine CellF.past _ ?_ | with_reducible refine CellF.drew ?_ | with_reducible refine CellF.drewN _ ?_)); done) | (refine ⟨?_, ?_⟩ <;> go_simp)))
        have c1_1_1 := q1_1_1.1
        have q1_1_2 : CellF w1 ⟨w.heap.size, 2, none⟩ (.int .i64 g1) := (by refine CellF.keep hb1 ?_; (first | ((repeat (first | (with_reducible refine CellF.at_ ?_ rfl; (first | rfl | (simp; done))) | with_reducible refine CellF.past _ ?_ | with_reducible refine CellF.drew ?_ | with_reducible refine CellF.drewN _ ?_)); done) | (refine ⟨?_, ?_⟩ <;> go_simp)))
        have c1_1_2 := q1_1_2.1
        have z1_1 : w.heap.size < w1.heap.size := ltc c1_1_0
        have q1_2_0 : CellF w1 ⟨(w.heap.size + 1), 0, none⟩ (.int .i64 m2) := (by refine CellF.keep hb1 ?_; (first | ((repeat (first | (with_reducible refine CellF.at_ ?_ rfl; (first | rfl | (simp; done))) | with_reducible refine CellF.past _ ?_ | with_reducible refine CellF.drew ?_ | with_reducible refine CellF.drewN _ ?_)); done) | (refine ⟨?_, ?_⟩ <;> go_simp)))
        have c1_2_0 := q1_2_0.1
        have q1_2_1 : CellF w1 ⟨(w.heap.size + 1), 1, none⟩ (.int .i64 n2) := (by refine CellF.keep hb1 ?_; (first | ((repeat (first | (with_reducible refine CellF.at_ ?_ rfl; (first | rfl | (simp; done))) | with_reducible refine CellF.past _ ?_ | with_reducible refine CellF.drew ?_ | with_reducible refine CellF.drewN _ ?_)); done) | (refine ⟨?_, ?_⟩ <;> go_simp)))
        have c1_2_1 := q1_2_1.1
        have q1_2_2 : CellF w1 ⟨(w.heap.size + 1), 2, none⟩ (.int .i64 g2) := (by refine CellF.keep hb1 ?_; (first | ((repeat (first | (with_reducible refine CellF.at_ ?_ rfl; (first | rfl | (simp; done))) | with_reducible refine CellF.past _ ?_ | with_reducible refine CellF.drew ?_ | with_reducible refine CellF.drewN _ ?_)); done) | (refine ⟨?_, ?_⟩ <;> go_simp)))
        have c1_2_2 := q1_2_2.1
        have z1_2 : (w.heap.size + 1) < w1.heap.size := ltc c1_2_0
        have q1_3_0 : CellF w1 ⟨(w.heap.size + 2), 0, none⟩ (.int .i64 x0) := (by refine CellF.keep hb1 ?_; (first | ((repeat (first | (with_reducible refine CellF.at_ ?_ rfl; (first | rfl | (simp; done))) | with_reducible refine CellF.past _ ?_ | with_reducible refine CellF.drew ?_ | with_reducible refine CellF.drewN _ ?_)); done) | (refine ⟨?_, ?_⟩ <;> go_simp)))
        have c1_3_0 := q1_3_0.1
        have q1_3_1 : CellF w1 ⟨(w.heap.size + 2), 1, none⟩ (.int .i64 x1) := (by refine CellF.keep hb1 ?_; (first | ((repeat (first | (with_reducible refine CellF.at_ ?_ rfl; (first | rfl | (simp; done))) | with_reducible refine CellF.past _ ?_ | with_reducible refine CellF.drew ?_ | with_reducible refine CellF.drewN _ ?_)); done) | (refine ⟨?_, ?_⟩ <;> go_simp)))
        have c1_3_1 := q1_3_1.1
        have q1_3_2 : CellF w1 ⟨(w.heap.size + 2), 2, none⟩ (.int .i64 x2) := (by refine CellF.keep hb1 ?_; (first | ((repeat (first | (with_reducible refine CellF.at_ ?_ rfl; (first | rfl | (simp; done))) | with_reducible refine CellF.past _ ?_ | with_reducible refine CellF.drew ?_ | with_reducible refine CellF.drewN _ ?_)); done) | (refine ⟨?_, ?_⟩ <;> go_simp)))
        have c1_3_2 := q1_3_2.1
        have q1_3_3 : CellF w1 ⟨(w.heap.size + 2), 3, none⟩ (.int .i64 x3) := (by refine CellF.keep hb1 ?_; (first | ((repeat (first | (with_reducible refine CellF.at_ ?_ rfl; (first | rfl | (simp; done))) | with_reducible refine CellF.past _ ?_ | with_reducible refine CellF.drew ?_ | with_reducible refine CellF.drewN _ ?_)); done) | (refine ⟨?_, ?_⟩ <;> go_simp)))
        have c1_3_3 := q1_3_3.1
        have z1_3 : (w.heap.size + 2) < w1.heap.size := ltc c1_3_0
        go_wp2_with fail
        refine (rPRight_is _ _ _ _ R2 _).mono ?_
        rintro e w2 ⟨rfl, hb2⟩
        have q2_4_0 : CellF w2 ⟨w.heap.size, 0, none⟩ (.int .i64 m1) := (by refine CellF.keep hb2 ?_; repeat (first | with_reducible exact q1_1_0 | (with_reducible refine CellF.at_ ?_ rfl; (first | rfl | (simp; done))) | with_reducible refine CellF.past _ ?_ | with_reducible refine CellF.drew ?_ | with_reducible refine CellF.drewN _ ?_))
        have c2_4_0 := q2_4_0.1
        have q2_4_1 : CellF w2 ⟨w.heap.size, 1, none⟩ (.int .i64 n1) := (by refine CellF.keep hb2 ?_; repeat (first | with_reducible exact q1_1_1 | (with_reducible refine CellF.at_ ?_ rfl; (first | rfl | (simp; done))) | with_reducible refine CellF.past _ ?_ | with_reducible refine CellF.drew ?_ | with_reducible refine CellF.drewN _ ?_))
        have c2_4_1 := q2_4_1.1
        have q2_4_2 : CellF w2 ⟨w.heap.size, 2, none⟩ (.int .i64 g1) := (by refine CellF.keep hb2 ?_; repeat (first | with_reducible exact q1_1_2 | (with_reducible refine CellF.at_ ?_ rfl; (first | rfl | (simp; done))) | with_reducible refine CellF.past _ ?_ | with_reducible refine CellF.drew ?_ | with_reducible refine CellF.drewN _ ?_))
        have c2_4_2 := q2_4_2.1
        have z2_4 : w.heap.size < w2.heap.size := ltc c2_4_0
        have q2_5_0 : CellF w2 ⟨(w.heap.size + 1), 0, none⟩ (.int .i64 m2) := (by refine CellF.keep hb2 ?_; repeat (first | with_reducible exact q1_2_0 | (with_reducible refine CellF.at_ ?_ rfl; (first | rfl | (simp; done))) | with_reducible refine CellF.past _ ?_ | with_reducible refine CellF.drew ?_ | with_reducible refine CellF.drewN _ ?_))
        have c2_5_0 := q2_5_0.1
        have q2_5_1 : CellF w2 ⟨(w.heap.size + 1), 1, none⟩ (.int .i64 n2) := (by refine CellF.keep hb2 ?_; repeat (first | with_reducible exact q1_2_1 | (with_reducible refine CellF.at_ ?_ rfl; (first | rfl | (simp; done))) | with_reducible refine CellF.past _ ?_ | with_reducible refine CellF.drew ?_ | with_reducible refine CellF.drewN _ ?_))
        have c2_5_1 := q2_5_1.1
        have q2_5_2 : CellF w2 ⟨(w.heap.size + 1), 2, none⟩ (.int .i64 g2) := (by refine CellF.keep hb2 ?_; repeat (first | with_reducible exact q1_2_2 | (with_reducible refine CellF.at_ ?_ rfl; (first | rfl | (simp; done))) | with_reducible refine CellF.past _ ?_ | with_reducible refine CellF.drew ?_ | with_reducible refine CellF.drewN _ ?_))
        have c2_5_2 := q2_5_2.1
        have z2_5 : (w.heap.size + 1) < w2.heap.size := ltc c2_5_0
        have q2_6_0 : CellF w2 ⟨(w.heap.size + 2), 0, none⟩ (.int .i64 x0) := (by refine CellF.keep hb2 ?_; repeat (first | with_reducible exact q1_3_0 | (with_reducible refine CellF.at_ ?_ rfl; (first | rfl | (simp; done))) | with_reducible refine CellF.past _ ?_ | with_reducible refine CellF.drew ?_ | with_reducible refine CellF.drewN _ ?_))
        have c2_6_0 := q2_6_0.1
        have q2_6_1 : CellF w2 ⟨(w.heap.size + 2), 1, none⟩ (.int .i64 x1) := (by refine CellF.keep hb2 ?_; repeat (first | with_reducible exact q1_3_1 | (with_reducible refine CellF.at_ ?_ rfl; (first | rfl | (simp; done))) | with_reducible refine CellF.past _ ?_ | with_reducible refine CellF.drew ?_ | with_reducible refine CellF.drewN _ ?_))
        have c2_6_1 := q2_6_1.1
        have q2_6_2 : CellF w2 ⟨(w.heap.size + 2), 2, none⟩ (.int .i64 x2) := (by refine CellF.keep hb2 ?_; repeat (first | with_reducible exact q1_3_2 | (with_reducible refine CellF.at_ ?_ rfl; (first | rfl | (simp; done))) | with_reducible refine CellF.past _ ?_ | with_reducible refine CellF.drew ?_ | with_reducible refine CellF.drewN _ ?_))
        have c2_6_2 := q2_6_2.1
        have q2_6_3 : CellF w2 ⟨(w.heap.size + 2), 3, none⟩ (.int .i64 x3) := (by refine CellF.keep hb2 ?_; repeat (first | with_reducible exact q1_3_3 | (with_reducible refine CellF.at_ ?_ rfl; (first | rfl | (simp; done))) | with_reducible refine CellF.past _ ?_ | with_reducible refine CellF.drew ?_ | with_reducible refine CellF.drewN _ ?_))
        have c2_6_3 := q2_6_3.1
        have z2_6 : (w.heap.size + 2) < w2.heap.size := ltc c2_6_0
        clear q1_1_0 c1_1_0 q1_1_1 c1_1_1 q1_1_2 c1_1_2 z1_1 q1_2_0 c1_2_0 q1_2_1 c1_2_1 q1_2_2 c1_2_2 z1_2 q1_3_0 c1_3_0 q1_3_1 c1_3_1 q1_3_2 c1_3_2 q1_3_3 c1_3_3 z1_3
        go_wp2_with fail
        refine (alive_is _).mono ?_
        rintro e w3 ⟨rfl, hb3⟩
        have q3_7_0 : CellF w3 ⟨w.heap.size, 0, none⟩ (.int .i64 m1) := (by refine CellF.keep hb3 ?_; repeat (first | with_reducible exact q2_4_0 | (with_reducible refine CellF.at_ ?_ rfl; (first | rfl | (simp; done))) | with_reducible refine CellF.past _ ?_ | with_reducible refine CellF.drew ?_ | with_reducible refine CellF.drewN _ ?_))
        have c3_7_0 := q3_7_0.1
        have q3_7_1 : CellF w3 ⟨w.heap.size, 1, none⟩ (.int .i64 n1) := (by refine CellF.keep hb3 ?_; repeat (first | with_reducible exact q2_4_1 | (with_reducible refine CellF.at_ ?_ rfl; (first | rfl | (simp; done))) | with_reducible refine CellF.past _ ?_ | with_reducible refine CellF.drew ?_ | with_reducible refine CellF.drewN _ ?_))
        have c3_7_1 := q3_7_1.1
        have q3_7_2 : CellF w3 ⟨w.heap.size, 2, none⟩ (.int .i64 g1) := (by refine CellF.keep hb3 ?_; repeat (first | with_reducible exact q2_4_2 | (with_reducible refine CellF.at_ ?_ rfl; (first | rfl | (simp; done))) | with_reducible refine CellF.past _ ?_ | with_reducible refine CellF.drew ?_ | with_reducible refine CellF.drewN _ ?_))
        have c3_7_2 := q3_7_2.1
        have z3_7 : w.heap.size < w3.heap.size := ltc c3_7_0
        have q3_8_0 : CellF w3 ⟨(w.heap.size + 1), 0, none⟩ (.int .i64 m2) := (by refine CellF.keep hb3 ?_; repeat (first | with_reducible exact q2_5_0 | (with_reducible refine CellF.at_ ?_ rfl; (first | rfl | (simp; done))) | with_reducible refine CellF.past _ ?_ | with_reducible refine CellF.drew ?_ | with_reducible refine CellF.drewN _ ?_))
        have c3_8_0 := q3_8_0.1
        have q3_8_1 : CellF w3 ⟨(w.heap.size + 1), 1, none⟩ (.int .i64 n2) := (by refine CellF.keep hb3 ?_; repeat (first | with_reducible exact q2_5_1 | (with_reducible refine CellF.at_ ?_ rfl; (first | rfl | (simp; done))) | with_reducible refine CellF.past _ ?_ | with_reducible refine CellF.drew ?_ | with_reducible refine CellF.drewN _ ?_))
        have c3_8_1 := q3_8_1.1
        have q3_8_2 : CellF w3 ⟨(w.heap.size + 1), 2, none⟩ (.int .i64 g2) := (by refine CellF.keep hb3 ?_; repeat (first | with_reducible exact q2_5_2 | (with_reducible refine CellF.at_ ?_ rfl; (first | rfl | (simp; done))) | with_reducible refine CellF.past _ ?_ | with_reducible refine CellF.drew ?_ | with_reducible refine CellF.drewN _ ?_))
        have c3_8_2 := q3_8_2.1
        have z3_8 : (w.heap.size + 1) < w3.heap.size := ltc c3_8_0
        have q3_9_0 : CellF w3 ⟨(w.heap.size + 2), 0, none⟩ (.int .i64 x0) := (by refine CellF.keep hb3 ?_; repeat (first | with_reducible exact q2_6_0 | (with_reducible refine CellF.at_ ?_ rfl; (first | rfl | (simp; done))) | with_reducible refine CellF.past _ ?_ | with_reducible refine CellF.drew ?_ | with_reducible refine CellF.drewN _ ?_))
        have c3_9_0 := q3_9_0.1
        have q3_9_1 : CellF w3 ⟨(w.heap.size + 2), 1, none⟩ (.int .i64 x1) := (by refine CellF.keep hb3 ?_; repeat (first | with_reducible exact q2_6_1 | (with_reducible refine CellF.at_ ?_ rfl; (first | rfl | (simp; done))) | with_reducible refine CellF.past _ ?_ | with_reducible refine CellF.drew ?_ | with_reducible refine CellF.drewN _ ?_))
        have c3_9_1 := q3_9_1.1
        have q3_9_2 : CellF w3 ⟨(w.heap.size + 2), 2, none⟩ (.int .i64 x2) := (by refine CellF.keep hb3 ?_; repeat (first | with_reducible exact q2_6_2 | (with_reducible refine CellF.at_ ?_ rfl; (first | rfl | (simp; done))) | with_reducible refine CellF.past _ ?_ | with_reducible refine CellF.drew ?_ | with_reducible refine CellF.drewN _ ?_))
        have c3_9_2 := q3_9_2.1
        have q3_9_3 : CellF w3 ⟨(w.heap.size + 2), 3, none⟩ (.int .i64 x3) := (by refine CellF.keep hb3 ?_; repeat (first | with_reducible exact q2_6_3 | (with_reducible refine CellF.at_ ?_ rfl; (first | rfl | (simp; done))) | with_reducible refine CellF.past _ ?_ | with_reducible refine CellF.drew ?_ | with_reducible refine CellF.drewN _ ?_))
        have c3_9_3 := q3_9_3.1
        have z3_9 : (w.heap.size + 2) < w3.heap.size := ltc c3_9_0
        clear q2_4_0 c2_4_0 q2_4_1 c2_4_1 q2_4_2 c2_4_2 z2_4 q2_5_0 c2_5_0 q2_5_1 c2_5_1 q2_5_2 c2_5_2 z2_5 q2_6_0 c2_6_0 q2_6_1 c2_6_1 q2_6_2 c2_6_2 q2_6_3 c2_6_3 z2_6
        all_goals (go_wp2; go_ret; exact ⟨rfl, (by repeat (first | exact brefl _ | refine balloc ?_ _ | refine bdrewN ?_ _ | refine bset ?_ (by dsimp only; omega) _ | refine bstep ?_ (by assumption)))⟩)
      have nd0 := decide_eq_false z0
      have y0 := Int.not_lt.1 z0
      clear z0
      by_cases z1 : n2 < n1
      ·
        go_enter Try.func7, Try.ntmps7
        go_wp2_with fail
        refine (rPRight_is _ _ _ _ R1 _).mono ?_
        rintro e w1 ⟨rfl, hb1⟩
        have q1_1_0 : CellF w1 ⟨w.heap.size, 0, none⟩ (.int .i64 m1) := (by refine CellF.keep hb1 ?_; (first | ((repeat (first | (with_reducible refine CellF.at_ ?_ rfl; (first | rfl | (simp; done))) | with_reducible refine CellF.past _ ?_ | with_reducible refine CellF.drew ?_ | with_reducible refine CellF.drewN _ ?_)); done) | (refine ⟨?_, ?_⟩ <;> go_simp)))
        have c1_1_0 := q1_1_0.1
        have q1_1_1 : CellF w1 ⟨w.heap.size, 1, none⟩ (.int .i64 n1) := (by refine CellF.keep hb1 ?_; (first | ((repeat (first | (with_reducible refine CellF.at_ ?_ rfl; (first | rfl | (simp; done))) | with_reducible refine CellF.past _ ?_ | with_reducible refine CellF.drew ?_ | with_reducible refine CellF.drewN _ ?_)); done) | (refine ⟨?_, ?_⟩ <;> go_simp)))
        have c1_1_1 := q1_1_1.1
        have q1_1_2 : CellF w1 ⟨w.heap.size, 2, none⟩ (.int .i64 g1) := (by refine CellF.keep hb1 ?_; (first | ((repeat (first | (with_reducible refine CellF.at_ ?_ rfl; (first | rfl | (simp; done))) | with_reducible refine CellF.past _ ?_ | with_reducible refine CellF.drew ?_ | with_reducible refine CellF.drewN _ ?_)); done) | (refine ⟨?_, ?_⟩ <;> go_simp)))
        have c1_1_2 := q1_1_2.1
        have z1_1 : w.heap.size < w1.heap.size := ltc c1_1_0
        have q1_2_0 : CellF w1 ⟨(w.heap.size + 1), 0, none⟩ (.int .i64 m2) := (by refine CellF.keep hb1 ?_; (first | ((repeat (first | (with_reducible refine CellF.at_ ?_ rfl; (first | rfl | (simp; done))) | with_reducible refine CellF.past _ ?_ | with_reducible refine CellF.drew ?_ | with_reducible refine CellF.drewN _ ?_)); done) | (refine ⟨?_, ?_⟩ <;> go_simp)))
        have c1_2_0 := q1_2_0.1
        have q1_2_1 : CellF w1 ⟨(w.heap.size + 1), 1, none⟩ (.int .i64 n2) := (by refine CellF.keep hb1 ?_; (first | ((repeat (first | (with_reducible refine CellF.at_ ?_ rfl; (first | rfl | (simp; done))) | with_reducible refine CellF.past _ ?_ | with_reducible refine CellF.drew ?_ | with_reducible refine CellF.drewN _ ?_)); done) | (refine ⟨?_, ?_⟩ <;> go_simp)))
        have c1_2_1 := q1_2_1.1
        have q1_2_2 : CellF w1 ⟨(w.heap.size + 1), 2, none⟩ (.int .i64 g2) := (by refine CellF.keep hb1 ?_; (first | ((repeat (first | (with_reducible refine CellF.at_ ?_ rfl; (first | rfl | (simp; done))) | with_reducible refine CellF.past _ ?_ | with_reducible refine CellF.drew ?_ | with_reducible refine CellF.drewN _ ?_)); done) | (refine ⟨?_, ?_⟩ <;> go_simp)))
        have c1_2_2 := q1_2_2.1
        have z1_2 : (w.heap.size + 1) < w1.heap.size := ltc c1_2_0
        have q1_3_0 : CellF w1 ⟨(w.heap.size + 2), 0, none⟩ (.int .i64 x0) := (by refine CellF.keep hb1 ?_; (first | ((repeat (first | (with_reducible refine CellF.at_ ?_ rfl; (first | rfl | (simp; done))) | with_reducible refine CellF.past _ ?_ | with_reducible refine CellF.drew ?_ | with_reducible refine CellF.drewN _ ?_)); done) | (refine ⟨?_, ?_⟩ <;> go_simp)))
        have c1_3_0 := q1_3_0.1
        have q1_3_1 : CellF w1 ⟨(w.heap.size + 2), 1, none⟩ (.int .i64 x1) := (by refine CellF.keep hb1 ?_; (first | ((repeat (first | (with_reducible refine CellF.at_ ?_ rfl; (first | rfl | (simp; done))) | with_reducible refine CellF.past _ ?_ | with_reducible refine CellF.drew ?_ | with_reducible refine CellF.drewN _ ?_)); done) | (refine ⟨?_, ?_⟩ <;> go_simp)))
        have c1_3_1 := q1_3_1.1
        have q1_3_2 : CellF w1 ⟨(w.heap.size + 2), 2, none⟩ (.int .i64 x2) := (by refine CellF.keep hb1 ?_; (first | ((repeat (first | (with_reducible refine CellF.at_ ?_ rfl; (first | rfl | (simp; done))) | with_reducible refine CellF.past _ ?_ | with_reducible refine CellF.drew ?_ | with_reducible refine CellF.drewN _ ?_)); done) | (refine ⟨?_, ?_⟩ <;> go_simp)))
        have c1_3_2 := q1_3_2.1
        have q1_3_3 : CellF w1 ⟨(w.heap.size + 2), 3, none⟩ (.int .i64 x3) := (by refine CellF.keep hb1 ?_; (first | ((repeat (first | (with_reducible refine CellF.at_ ?_ rfl; (first | rfl | (simp; done))) | with_reducible refine CellF.past _ ?_ | with_reducible refine CellF.drew ?_ | with_reducible refine CellF.drewN _ ?_)); done) | (refine ⟨?_, ?_⟩ <;> go_simp)))
        have c1_3_3 := q1_3_3.1
        have z1_3 : (w.heap.size + 2) < w1.heap.size := ltc c1_3_0
        go_wp2_with fail
        refine (rPRight_is _ _ _ _ R2 _).mono ?_
        rintro e w2 ⟨rfl, hb2⟩
        have q2_4_0 : CellF w2 ⟨w.heap.size, 0, none⟩ (.int .i64 m1) := (by refine CellF.keep hb2 ?_; repeat (first | with_reducible exact q1_1_0 | (with_reducible refine CellF.at_ ?_ rfl; (first | rfl | (simp; done))) | with_reducible refine CellF.past _ ?_ | with_reducible refine CellF.drew ?_ | with_reducible refine CellF.drewN _ ?_))
        have c2_4_0 := q2_4_0.1
        have q2_4_1 : CellF w2 ⟨w.heap.size, 1, none⟩ (.int .i64 n1) := (by refine CellF.keep hb2 ?_; repeat (first | with_reducible exact q1_1_1 | (with_reducible refine CellF.at_ ?_ rfl; (first | rfl | (simp; done))) | with_reducible refine CellF.past _ ?_ | with_reducible refine CellF.drew ?_ | with_reducible refine CellF.drewN _ ?_))
        have c2_4_1 := q2_4_1.1
        have q2_4_2 : CellF w2 ⟨w.heap.size, 2, none⟩ (.int .i64 g1) := (by refine CellF.keep hb2 ?_; repeat (first | with_reducible exact q1_1_2 | (with_reducible refine CellF.at_ ?_ rfl; (first | rfl | (simp; done))) | with_reducible refine CellF.past _ ?_ | with_reducible refine CellF.drew ?_ | with_reducible refine CellF.drewN _ ?_))
        have c2_4_2 := q2_4_2.1
        have z2_4 : w.heap.size < w2.heap.size := ltc c2_4_0
        have q2_5_0 : CellF w2 ⟨(w.heap.size + 1), 0, none⟩ (.int .i64 m2) := (by refine CellF.keep hb2 ?_; repeat (first | with_reducible exact q1_2_0 | (with_reducible refine CellF.at_ ?_ rfl; (first | rfl | (simp; done))) | with_reducible refine CellF.past _ ?_ | with_reducible refine CellF.drew ?_ | with_reducible refine CellF.drewN _ ?_))
        have c2_5_0 := q2_5_0.1
        have q2_5_1 : CellF w2 ⟨(w.heap.size + 1), 1, none⟩ (.int .i64 n2) := (by refine CellF.keep hb2 ?_; repeat (first | with_reducible exact q1_2_1 | (with_reducible refine CellF.at_ ?_ rfl; (first | rfl | (simp; done))) | with_reducible refine CellF.past _ ?_ | with_reducible refine CellF.drew ?_ | with_reducible refine CellF.drewN _ ?_))
        have c2_5_1 := q2_5_1.1
        have q2_5_2 : CellF w2 ⟨(w.heap.size + 1), 2, none⟩ (.int .i64 g2) := (by refine CellF.keep hb2 ?_; repeat (first | with_reducible exact q1_2_2 | (with_reducible refine CellF.at_ ?_ rfl; (first | rfl | (simp; done))) | with_reducible refine CellF.past _ ?_ | with_reducible refine CellF.drew ?_ | with_reducible refine CellF.drewN _ ?_))
        have c2_5_2 := q2_5_2.1
        have z2_5 : (w.heap.size + 1) < w2.heap.size := ltc c2_5_0
        have q2_6_0 : CellF w2 ⟨(w.heap.size + 2), 0, none⟩ (.int .i64 x0) := (by refine CellF.keep hb2 ?_; repeat (first | with_reducible exact q1_3_0 | (with_reducible refine CellF.at_ ?_ rfl; (first | rfl | (simp; done))) | with_reducible refine CellF.past _ ?_ | with_reducible refine CellF.drew ?_ | with_reducible refine CellF.drewN _ ?_))
        have c2_6_0 := q2_6_0.1
        have q2_6_1 : CellF w2 ⟨(w.heap.size + 2), 1, none⟩ (.int .i64 x1) := (by refine CellF.keep hb2 ?_; repeat (first | with_reducible exact q1_3_1 | (with_reducible refine CellF.at_ ?_ rfl; (first | rfl | (simp; done))) | with_reducible refine CellF.past _ ?_ | with_reducible refine CellF.drew ?_ | with_reducible refine CellF.drewN _ ?_))
        have c2_6_1 := q2_6_1.1
        have q2_6_2 : CellF w2 ⟨(w.heap.size + 2), 2, none⟩ (.int .i64 x2) := (by refine CellF.keep hb2 ?_; repeat (first | with_reducible exact q1_3_2 | (with_reducible refine CellF.at_ ?_ rfl; (first | rfl | (simp; done))) | with_reducible refine CellF.past _ ?_ | with_reducible refine CellF.drew ?_ | with_reducible refine CellF.drewN _ ?_))
        have c2_6_2 := q2_6_2.1
        have q2_6_3 : CellF w2 ⟨(w.heap.size + 2), 3, none⟩ (.int .i64 x3) := (by refine CellF.keep hb2 ?_; repeat (first | with_reducible exact q1_3_3 | (with_reducible refine CellF.at_ ?_ rfl; (first | rfl | (simp; done))) | with_reducible refine CellF.past _ ?_ | with_reducible refine CellF.drew ?_ | with_reducible refine CellF.drewN _ ?_))
        have c2_6_3 := q2_6_3.1
        have z2_6 : (w.heap.size + 2) < w2.heap.size := ltc c2_6_0
        clear q1_1_0 c1_1_0 q1_1_1 c1_1_1 q1_1_2 c1_1_2 z1_1 q1_2_0 c1_2_0 q1_2_1 c1_2_1 q1_2_2 c1_2_2 z1_2 q1_3_0 c1_3_0 q1_3_1 c1_3_1 q1_3_2 c1_3_2 q1_3_3 c1_3_3 z1_3
        go_wp2_with fail
        refine (alive_is _).mono ?_
        rintro e w3 ⟨rfl, hb3⟩
        have q3_7_0 : CellF w3 ⟨w.heap.size, 0, none⟩ (.int .i64 m1) := (by refine CellF.keep hb3 ?_; repeat (first | with_reducible exact q2_4_0 | (with_reducible refine CellF.at_ ?_ rfl; (first | rfl | (simp; done))) | with_reducible refine CellF.past _ ?_ | with_reducible refine CellF.drew ?_ | with_reducible refine CellF.drewN _ ?_))
        have c3_7_0 := q3_7_0.1
        have q3_7_1 : CellF w3 ⟨w.heap.size, 1, none⟩ (.int .i64 n1) := (by refine CellF.keep hb3 ?_; repeat (first | with_reducible exact q2_4_1 | (with_reducible refine CellF.at_ ?_ rfl; (first | rfl | (simp; done))) | with_reducible refine CellF.past _ ?_ | with_reducible refine CellF.drew ?_ | with_reducible refine CellF.drewN _ ?_))
        have c3_7_1 := q3_7_1.1
        have q3_7_2 : CellF w3 ⟨w.heap.size, 2, none⟩ (.int .i64 g1) := (by refine CellF.keep hb3 ?_; repeat (first | with_reducible exact q2_4_2 | (with_reducible refine CellF.at_ ?_ rfl; (first | rfl | (simp; done))) | with_reducible refine CellF.past _ ?_ | with_reducible refine CellF.drew ?_ | with_reducible refine CellF.drewN _ ?_))
        have c3_7_2 := q3_7_2.1
        have z3_7 : w.heap.size < w3.heap.size := ltc c3_7_0
        have q3_8_0 : CellF w3 ⟨(w.heap.size + 1), 0, none⟩ (.int .i64 m2) := (by refine CellF.keep hb3 ?_; repeat (first | with_reducible exact q2_5_0 | (with_reducible refine CellF.at_ ?_ rfl; (first | rfl | (simp; done))) | with_reducible refine CellF.past _ ?_ | with_reducible refine CellF.drew ?_ | with_reducible refine CellF.drewN _ ?_))
        have c3_8_0 := q3_8_0.1
        have q3_8_1 : CellF w3 ⟨(w.heap.size + 1), 1, none⟩ (.int .i64 n2) := (by refine CellF.keep hb3 ?_; repeat (first | with_reducible exact q2_5_1 | (with_reducible refine CellF.at_ ?_ rfl; (first | rfl | (simp; done))) | with_reducible refine CellF.past _ ?_ | with_reducible refine CellF.drew ?_ | with_reducible refine CellF.drewN _ ?_))
        have c3_8_1 := q3_8_1.1
        have q3_8_2 : CellF w3 ⟨(w.heap.size + 1), 2, none⟩ (.int .i64 g2) := (by refine CellF.keep hb3 ?_; repeat (first | with_reducible exact q2_5_2 | (with_reducible refine CellF.at_ ?_ rfl; (first | rfl | (simp; done))) | with_reducible refine CellF.past _ ?_ | with_reducible refine CellF.drew ?_ | with_reducible refine CellF.drewN _ ?_))
        have c3_8_2 := q3_8_2.1
        have z3_8 : (w.heap.size + 1) < w3.heap.size := ltc c3_8_0
        have q3_9_0 : CellF w3 ⟨(w.heap.size + 2), 0, none⟩ (.int .i64 x0) := (by refine CellF.keep hb3 ?_; repeat (first | with_reducible exact q2_6_0 | (with_reducible refine CellF.at_ ?_ rfl; (first | rfl | (simp; done))) | with_reducible refine CellF.past _ ?_ | with_reducible refine CellF.drew ?_ | with_reducible refine CellF.drewN _ ?_))
        have c3_9_0 := q3_9_0.1
        have q3_9_1 : CellF w3 ⟨(w.heap.size + 2), 1, none⟩ (.int .i64 x1) := (by refine CellF.keep hb3 ?_; repeat (first | with_reducible exact q2_6_1 | (with_reducible refine CellF.at_ ?_ rfl; (first | rfl | (simp; done))) | with_reducible refine CellF.past _ ?_ | with_reducible refine CellF.drew ?_ | with_reducible refine CellF.drewN _ ?_))
        have c3_9_1 := q3_9_1.1
        have q3_9_2 : CellF w3 ⟨(w.heap.size + 2), 2, none⟩ (.int .i64 x2) := (by refine CellF.keep hb3 ?_; repeat (first | with_reducible exact q2_6_2 | (with_reducible refine CellF.at_ ?_ rfl; (first | rfl | (simp; done))) | with_reducible refine CellF.past _ ?_ | with_reducible refine CellF.drew ?_ | with_reducible refine CellF.drewN _ ?_))
        have c3_9_2 := q3_9_2.1
        have q3_9_3 : CellF w3 ⟨(w.heap.size + 2), 3, none⟩ (.int .i64 x3) := (by refine CellF.keep hb3 ?_; repeat (first | with_reducible exact q2_6_3 | (with_reducible refine CellF.at_ ?_ rfl; (first | rfl | (simp; done))) | with_reducible refine CellF.past _ ?_ | with_reducible refine CellF.drew ?_ | with_reducible refine CellF.drewN _ ?_))
        have c3_9_3 := q3_9_3.1
        have z3_9 : (w.heap.size + 2) < w3.heap.size := ltc c3_9_0
        clear q2_4_0 c2_4_0 q2_4_1 c2_4_1 q2_4_2 c2_4_2 z2_4 q2_5_0 c2_5_0 q2_5_1 c2_5_1 q2_5_2 c2_5_2 z2_5 q2_6_0 c2_6_0 q2_6_1 c2_6_1 q2_6_2 c2_6_2 q2_6_3 c2_6_3 z2_6
        all_goals (go_wp2; go_ret; exact ⟨rfl, (by repeat (first | exact brefl _ | refine balloc ?_ _ | refine bdrewN ?_ _ | refine bset ?_ (by dsimp only; omega) _ | refine bstep ?_ (by assumption)))⟩)
      have nd1 := decide_eq_false z1
      have y1 := Int.not_lt.1 z1
      clear z1
      by_cases z2 : g2 < g1
      ·
        go_enter Try.func7, Try.ntmps7
        go_wp2_with fail
        refine (rPRight_is _ _ _ _ R1 _).mono ?_
        rintro e w1 ⟨rfl, hb1⟩
        have q1_1_0 : CellF w1 ⟨w.heap.size, 0, none⟩ (.int .i64 m1) := (by refine CellF.keep hb1 ?_; (first | ((repeat (first | (with_reducible refine CellF.at_ ?_ rfl; (first | rfl | (simp; done))) | with_reducible refine CellF.past _ ?_ | with_reducible refine CellF.drew ?_ | with_reducible refine CellF.drewN _ ?_)); done) | (refine ⟨?_, ?_⟩ <;> go_simp)))
        have c1_1_0 := q1_1_0.1
        have q1_1_1 : CellF w1 ⟨w.heap.size, 1, none⟩ (.int .i64 n1) := (by refine CellF.keep hb1 ?_; (first | ((repeat (first | (with_reducible refine CellF.at_ ?_ rfl; (first | rfl | (simp; done))) | with_reducible refine CellF.past _ ?_ | with_reducible refine CellF.drew ?_ | with_reducible refine CellF.drewN _ ?_)); done) | (refine ⟨?_, ?_⟩ <;> go_simp)))
        have c1_1_1 := q1_1_1.1
        have q1_1_2 : CellF w1 ⟨w.heap.size, 2, none⟩ (.int .i64 g1) := (by refine CellF.keep hb1 ?_; (first | ((repeat (first | (with_reducible refine CellF.at_ ?_ rfl; (first | rfl | (simp; done))) | with_reducible refine CellF.past _ ?_ | with_reducible refine CellF.drew ?_ | with_reducible refine CellF.drewN _ ?_)); done) | (refine ⟨?_, ?_⟩ <;> go_simp)))
        have c1_1_2 := q1_1_2.1
        have z1_1 : w.heap.size < w1.heap.size := ltc c1_1_0
        have q1_2_0 : CellF w1 ⟨(w.heap.size + 1), 0, none⟩ (.int .i64 m2) := (by refine CellF.keep hb1 ?_; (first | ((repeat (first | (with_reducible refine CellF.at_ ?_ rfl; (first | rfl | (simp; done))) | with_reducible refine CellF.past _ ?_ | with_reducible refine CellF.drew ?_ | with_reducible refine CellF.drewN _ ?_)); done) | (refine ⟨?_, ?_⟩ <;> go_simp)))
        have c1_2_0 := q1_2_0.1
        have q1_2_1 : CellF w1 ⟨(w.heap.size + 1), 1, none⟩ (.int .i64 n2) := (by refine CellF.keep hb1 ?_; (first | ((repeat (first | (with_reducible refine CellF.at_ ?_ rfl; (first | rfl | (simp; done))) | with_reducible refine CellF.past _ ?_ | with_reducible refine CellF.drew ?_ | with_reducible refine CellF.drewN _ ?_)); done) | (refine ⟨?_, ?_⟩ <;> go_simp)))
        have c1_2_1 := q1_2_1.1
        have q1_2_2 : CellF w1 ⟨(w.heap.size + 1), 2, none⟩ (.int .i64 g2) := (by refine CellF.keep hb1 ?_; (first | ((repeat (first | (with_reducible refine CellF.at_ ?_ rfl; (first | rfl | (simp; done))) | with_reducible refine CellF.past _ ?_ | with_reducible refine CellF.drew ?_ | with_reducible refine CellF.drewN _ ?_)); done) | (refine ⟨?_, ?_⟩ <;> go_simp)))
        have c1_2_2 := q1_2_2.1
        have z1_2 : (w.heap.size + 1) < w1.heap.size := ltc c1_2_0
        have q1_3_0 : CellF w1 ⟨(w.heap.size + 2), 0, none⟩ (.int .i64 x0) := (by refine CellF.keep hb1 ?_; (first | ((repeat (first | (with_reducible refine CellF.at_ ?_ rfl; (first | rfl | (simp; done))) | with_reducible refine CellF.past _ ?_ | with_reducible refine CellF.drew ?_ | with_reducible refine CellF.drewN _ ?_)); done) | (refine ⟨?_, ?_⟩ <;> go_simp)))
        have c1_3_0 := q1_3_0.1
        have q1_3_1 : CellF w1 ⟨(w.heap.size + 2), 1, none⟩ (.int .i64 x1) := (by refine CellF.keep hb1 ?_; (first | ((repeat (first | (with_reducible refine CellF.at_ ?_ rfl; (first | rfl | (simp; done))) | with_reducible refine CellF.past _ ?_ | with_reducible refine CellF.drew ?_ | with_reducible refine CellF.drewN _ ?_)); done) | (refine ⟨?_, ?_⟩ <;> go_simp)))
        have c1_3_1 := q1_3_1.1
        have q1_3_2 : CellF w1 ⟨(w.heap.size + 2), 2, none⟩ (.int .i64 x2) := (by refine CellF.keep hb1 ?_; (first | ((repeat (first | (with_reducible refine CellF.at_ ?_ rfl; (first | rfl | (simp; done))) | with_reducible refine CellF.past _ ?_ | with_reducible refine CellF.drew ?_ | with_reducible refine CellF.drewN _ ?_)); done) | (refine ⟨?_, ?_⟩ <;> go_simp)))
        have c1_3_2 := q1_3_2.1
        have q1_3_3 : CellF w1 ⟨(w.heap.size + 2), 3, none⟩ (.int .i64 x3) := (by refine CellF.keep hb1 ?_; (first | ((repeat (first | (with_reducible refine CellF.at_ ?_ rfl; (first | rfl | (simp; done))) | with_reducible refine CellF.past _ ?_ | with_reducible refine CellF.drew ?_ | with_reducible refine CellF.drewN _ ?_)); done) | (refine ⟨?_, ?_⟩ <;> go_simp)))
        have c1_3_3 := q1_3_3.1
        have z1_3 : (w.heap.size + 2) < w1.heap.size := ltc c1_3_0
        go_wp2_with fail
        refine (rPRight_is _ _ _ _ R2 _).mono ?_
        rintro e w2 ⟨rfl, hb2⟩
        have q2_4_0 : CellF w2 ⟨w.heap.size, 0, none⟩ (.int .i64 m1) := (by refine CellF.keep hb2 ?_; repeat (first | with_reducible exact q1_1_0 | (with_reducible refine CellF.at_ ?_ rfl; (first | rfl | (simp; done))) | with_reducible refine CellF.past _ ?_ | with_reducible refine CellF.drew ?_ | with_reducible refine CellF.drewN _ ?_))
        have c2_4_0 := q2_4_0.1
        have q2_4_1 : CellF w2 ⟨w.heap.size, 1, none⟩ (.int .i64 n1) := (by refine CellF.keep hb2 ?_; repeat (first | with_reducible exact q1_1_1 | (with_reducible refine CellF.at_ ?_ rfl; (first | rfl | (simp; done))) | with_reducible refine CellF.past _ ?_ | with_reducible refine CellF.drew ?_ | with_reducible refine CellF.drewN _ ?_))
        have c2_4_1 := q2_4_1.1
        have q2_4_2 : CellF w2 ⟨w.heap.size, 2, none⟩ (.int .i64 g1) := (by refine CellF.keep hb2 ?_; repeat (first | with_reducible exact q1_1_2 | (with_reducible refine CellF.at_ ?_ rfl; (first | rfl | (simp; done))) | with_reducible refine CellF.past _ ?_ | with_reducible refine CellF.drew ?_ | with_reducible refine CellF.drewN _ ?_))
        have c2_4_2 := q2_4_2.1
        have z2_4 : w.heap.size < w2.heap.size := ltc c2_4_0
        have q2_5_0 : CellF w2 ⟨(w.heap.size + 1), 0, none⟩ (.int .i64 m2) := (by refine CellF.keep hb2 ?_; repeat (first | with_reducible exact q1_2_0 | (with_reducible refine CellF.at_ ?_ rfl; (first | rfl | (simp; done))) | with_reducible refine CellF.past _ ?_ | with_reducible refine CellF.drew ?_ | with_reducible refine CellF.drewN _ ?_))
        have c2_5_0 := q2_5_0.1
        have q2_5_1 : CellF w2 ⟨(w.heap.size + 1), 1, none⟩ (.int .i64 n2) := (by refine CellF.keep hb2 ?_; repeat (first | with_reducible exact q1_2_1 | (with_reducible refine CellF.at_ ?_ rfl; (first | rfl | (simp; done))) | with_reducible refine CellF.past _ ?_ | with_reducible refine CellF.drew ?_ | with_reducible refine CellF.drewN _ ?_))
        have c2_5_1 := q2_5_1.1
        have q2_5_2 : CellF w2 ⟨(w.heap.size + 1), 2, none⟩ (.int .i64 g2) := (by refine CellF.keep hb2 ?_; repeat (first | with_reducible exact q1_2_2 | (with_reducible refine CellF.at_ ?_ rfl; (first | rfl | (simp; done))) | with_reducible refine CellF.past _ ?_ | with_reducible refine CellF.drew ?_ | with_reducible refine CellF.drewN _ ?_))
        have c2_5_2 := q2_5_2.1
        have z2_5 : (w.heap.size + 1) < w2.heap.size := ltc c2_5_0
        have q2_6_0 : CellF w2 ⟨(w.heap.size + 2), 0, none⟩ (.int .i64 x0) := (by refine CellF.keep hb2 ?_; repeat (first | with_reducible exact q1_3_0 | (with_reducible refine CellF.at_ ?_ rfl; (first | rfl | (simp; done))) | with_reducible refine CellF.past _ ?_ | with_reducible refine CellF.drew ?_ | with_reducible refine CellF.drewN _ ?_))
        have c2_6_0 := q2_6_0.1
        have q2_6_1 : CellF w2 ⟨(w.heap.size + 2), 1, none⟩ (.int .i64 x1) := (by refine CellF.keep hb2 ?_; repeat (first | with_reducible exact q1_3_1 | (with_reducible refine CellF.at_ ?_ rfl; (first | rfl | (simp; done))) | with_reducible refine CellF.past _ ?_ | with_reducible refine CellF.drew ?_ | with_reducible refine CellF.drewN _ ?_))
        have c2_6_1 := q2_6_1.1
        have q2_6_2 : CellF w2 ⟨(w.heap.size + 2), 2, none⟩ (.int .i64 x2) := (by refine CellF.keep hb2 ?_; repeat (first | with_reducible exact q1_3_2 | (with_reducible refine CellF.at_ ?_ rfl; (first | rfl | (simp; done))) | with_reducible refine CellF.past _ ?_ | with_reducible refine CellF.drew ?_ | with_reducible refine CellF.drewN _ ?_))
        have c2_6_2 := q2_6_2.1
        have q2_6_3 : CellF w2 ⟨(w.heap.size + 2), 3, none⟩ (.int .i64 x3) := (by refine CellF.keep hb2 ?_; repeat (first | with_reducible exact q1_3_3 | (with_reducible refine CellF.at_ ?_ rfl; (first | rfl | (simp; done))) | with_reducible refine CellF.past _ ?_ | with_reducible refine CellF.drew ?_ | with_reducible refine CellF.drewN _ ?_))
        have c2_6_3 := q2_6_3.1
        have z2_6 : (w.heap.size + 2) < w2.heap.size := ltc c2_6_0
        clear q1_1_0 c1_1_0 q1_1_1 c1_1_1 q1_1_2 c1_1_2 z1_1 q1_2_0 c1_2_0 q1_2_1 c1_2_1 q1_2_2 c1_2_2 z1_2 q1_3_0 c1_3_0 q1_3_1 c1_3_1 q1_3_2 c1_3_2 q1_3_3 c1_3_3 z1_3
        go_wp2_with fail
        refine (alive_is _).mono ?_
        rintro e w3 ⟨rfl, hb3⟩
        have q3_7_0 : CellF w3 ⟨w.heap.size, 0, none⟩ (.int .i64 m1) := (by refine CellF.keep hb3 ?_; repeat (first | with_reducible exact q2_4_0 | (with_reducible refine CellF.at_ ?_ rfl; (first | rfl | (simp; done))) | with_reducible refine CellF.past _ ?_ | with_reducible refine CellF.drew ?_ | with_reducible refine CellF.drewN _ ?_))
        have c3_7_0 := q3_7_0.1
        have q3_7_1 : CellF w3 ⟨w.heap.size, 1, none⟩ (.int .i64 n1) := (by refine CellF.keep hb3 ?_; repeat (first | with_reducible exact q2_4_1 | (with_reducible refine CellF.at_ ?_ rfl; (first | rfl | (simp; done))) | with_reducible refine CellF.past _ ?_ | with_reducible refine CellF.drew ?_ | with_reducible refine CellF.drewN _ ?_))
        have c3_7_1 := q3_7_1.1
        have q3_7_2 : CellF w3 ⟨w.heap.size, 2, none⟩ (.int .i64 g1) := (by refine CellF.keep hb3 ?_; repeat (first | with_reducible exact q2_4_2 | (with_reducible refine CellF.at_ ?_ rfl; (first | rfl | (simp; done))) | with_reducible refine CellF.past _ ?_ | with_reducible refine CellF.drew ?_ | with_reducible refine CellF.drewN _ ?_))
        have c3_7_2 := q3_7_2.1
        have z3_7 : w.heap.size < w3.heap.size := ltc c3_7_0
        have q3_8_0 : CellF w3 ⟨(w.heap.size + 1), 0, none⟩ (.int .i64 m2) := (by refine CellF.keep hb3 ?_; repeat (first | with_reducible exact q2_5_0 | (with_reducible refine CellF.at_ ?_ rfl; (first | rfl | (simp; done))) | with_reducible refine CellF.past _ ?_ | with_reducible refine CellF.drew ?_ | with_reducible refine CellF.drewN _ ?_))
        have c3_8_0 := q3_8_0.1
        have q3_8_1 : CellF w3 ⟨(w.heap.size + 1), 1, none⟩ (.int .i64 n2) := (by refine CellF.keep hb3 ?_; repeat (first | with_reducible exact q2_5_1 | (with_reducible refine CellF.at_ ?_ rfl; (first | rfl | (simp; done))) | with_reducible refine CellF.past _ ?_ | with_reducible refine CellF.drew ?_ | with_reducible refine CellF.drewN _ ?_))
        have c3_8_1 := q3_8_1.1
        have q3_8_2 : CellF w3 ⟨(w.heap.size + 1), 2, none⟩ (.int .i64 g2) := (by refine CellF.keep hb3 ?_; repeat (first | with_reducible exact q2_5_2 | (with_reducible refine CellF.at_ ?_ rfl; (first | rfl | (simp; done))) | with_reducible refine CellF.past _ ?_ | with_reducible refine CellF.drew ?_ | with_reducible refine CellF.drewN _ ?_))
        have c3_8_2 := q3_8_2.1
        have z3_8 : (w.heap.size + 1) < w3.heap.size := ltc c3_8_0
        have q3_9_0 : CellF w3 ⟨(w.heap.size + 2), 0, none⟩ (.int .i64 x0) := (by refine CellF.keep hb3 ?_; repeat (first | with_reducible exact q2_6_0 | (with_reducible refine CellF.at_ ?_ rfl; (first | rfl | (simp; done))) | with_reducible refine CellF.past _ ?_ | with_reducible refine CellF.drew ?_ | with_reducible refine CellF.drewN _ ?_))
        have c3_9_0 := q3_9_0.1
        have q3_9_1 : CellF w3 ⟨(w.heap.size + 2), 1, none⟩ (.int .i64 x1) := (by refine CellF.keep hb3 ?_; repeat (first | with_reducible exact q2_6_1 | (with_reducible refine CellF.at_ ?_ rfl; (first | rfl | (simp; done))) | with_reducible refine CellF.past _ ?_ | with_reducible refine CellF.drew ?_ | with_reducible refine CellF.drewN _ ?_))
        have c3_9_1 := q3_9_1.1
        have q3_9_2 : CellF w3 ⟨(w.heap.size + 2), 2, none⟩ (.int .i64 x2) := (by refine CellF.keep hb3 ?_; repeat (first | with_reducible exact q2_6_2 | (with_reducible refine CellF.at_ ?_ rfl; (first | rfl | (simp; done))) | with_reducible refine CellF.past _ ?_ | with_reducible refine CellF.drew ?_ | with_reducible refine CellF.drewN _ ?_))
        have c3_9_2 := q3_9_2.1
        have q3_9_3 : CellF w3 ⟨(w.heap.size + 2), 3, none⟩ (.int .i64 x3) := (by refine CellF.keep hb3 ?_; repeat (first | with_reducible exact q2_6_3 | (with_reducible refine CellF.at_ ?_ rfl; (first | rfl | (simp; done))) | with_reducible refine CellF.past _ ?_ | with_reducible refine CellF.drew ?_ | with_reducible refine CellF.drewN _ ?_))
        have c3_9_3 := q3_9_3.1
        have z3_9 : (w.heap.size + 2) < w3.heap.size := ltc c3_9_0
        clear q2_4_0 c2_4_0 q2_4_1 c2_4_1 q2_4_2 c2_4_2 z2_4 q2_5_0 c2_5_0 q2_5_1 c2_5_1 q2_5_2 c2_5_2 z2_5 q2_6_0 c2_6_0 q2_6_1 c2_6_1 q2_6_2 c2_6_2 q2_6_3 c2_6_3 z2_6
        all_goals (go_wp2; go_ret; exact ⟨rfl, (by repeat (first | exact brefl _ | refine balloc ?_ _ | refine bdrewN ?_ _ | refine bset ?_ (by dsimp only; omega) _ | refine bstep ?_ (by assumption)))⟩)
      have nd2 := decide_eq_false z2
      have y2 := Int.not_lt.1 z2
      clear z2
      obtain ⟨⟨a1, a2, a3⟩, ea⟩ : ∃ s, dSync m1 n1 g1 x0 x1 x2 = s := ⟨_, rfl⟩
      have Ha := Lib.hid ea
      obtain ⟨⟨b1, b2, b3⟩, eb⟩ : ∃ s, dSync m2 n2 g2 x0 x1 x2 = s := ⟨_, rfl⟩
      have Hb := Lib.hid eb
      obtain ⟨⟨c1, c2, c3⟩, ec⟩ : ∃ s, dReq m1 n1 g1 x0 x1 x2 = s := ⟨_, rfl⟩
      have Hc := Lib.hid ec
      obtain ⟨⟨d1, d2, d3⟩, ed⟩ : ∃ s, dReq m2 n2 g2 x0 x1 x2 = s := ⟨_, rfl⟩
      have Hd := Lib.hid ed
      have V1 := Lib.hid (sync_wider (t1 := x0) (t2 := x2) hx1 h1 y0 y1 y2)
      rw [ea, eb] at V1
      have V2 := Lib.hid (req_wider (t3 := x0) (t4 := x2) hx1 h1 y0 y1 y2)
      rw [ec, ed] at V2
      clear ea eb ec ed
      go_enter Try.func7, Try.ntmps7
      go_wp2_with fail
      refine (rPRight_is _ _ _ _ R1 _).mono ?_
      rintro e w1 ⟨rfl, hb1⟩
      have q1_1_0 : CellF w1 ⟨w.heap.size, 0, none⟩ (.int .i64 m1) := (by refine CellF.keep hb1 ?_; (first | ((repeat (first | (with_reducible refine CellF.at_ ?_ rfl; (first | rfl | (simp; done))) | with_reducible refine CellF.past _ ?_ | with_reducible refine CellF.drew ?_ | with_reducible refine CellF.drewN _ ?_)); done) | (refine ⟨?_, ?_⟩ <;> go_simp)))
      have c1_1_0 := q1_1_0.1
      have q1_1_1 : CellF w1 ⟨w.heap.size, 1, none⟩ (.int .i64 n1) := (by refine CellF.keep hb1 ?_; (first | ((repeat (first | (with_reducible refine CellF.at_ ?_ rfl; (first | rfl | (simp; done))) | with_reducible refine CellF.past _ ?_ | with_reducible refine CellF.drew ?_ | with_reducible refine CellF.drewN _ ?_)); done) | (refine ⟨?_, ?_⟩ <;> go_simp)))
      have c1_1_1 := q1_1_1.1
      have q1_1_2 : CellF w1 ⟨w.heap.size, 2, none⟩ (.int .i64 g1) := (by refine CellF.keep hb1 ?_; (first | ((repeat (first | (with_reducible refine CellF.at_ ?_ rfl; (first | rfl | (simp; done))) | with_reducible refine CellF.past _ ?_ | with_reducible refine CellF.drew ?_ | with_reducible refine CellF.drewN _ ?_)); done) | (refine ⟨?_, ?_⟩ <;> go_simp)))
      have c1_1_2 := q1_1_2.1
      have z1_1 : w.heap.size < w1.heap.size := ltc c1_1_0
      have q1_2_0 : CellF w1 ⟨(w.heap.size + 1), 0, none⟩ (.int .i64 m2) := (by refine CellF.keep hb1 ?_; (first | ((repeat (first | (with_reducible refine CellF.at_ ?_ rfl; (first | rfl | (simp; done))) | with_reducible refine CellF.past _ ?_ | with_reducible refine CellF.drew ?_ | with_reducible refine CellF.drewN _ ?_)); done) | (refine ⟨?_, ?_⟩ <;> go_simp)))
      have c1_2_0 := q1_2_0.1
      have q1_2_1 : CellF w1 ⟨(w.heap.size + 1), 1, none⟩ (.int .i64 n2) := (by refine CellF.keep hb1 ?_; (first | ((repeat (first | (with_reducible refine CellF.at_ ?_ rfl; (first | rfl | (simp; done))) | with_reducible refine CellF.past _ ?_ | with_reducible refine CellF.drew ?_ | with_reducible refine CellF.drewN _ ?_)); done) | (refine ⟨?_, ?_⟩ <;> go_simp)))
      have c1_2_1 := q1_2_1.1
      have q1_2_2 : CellF w1 ⟨(w.heap.size + 1), 2, none⟩ (.int .i64 g2) := (by refine CellF.keep hb1 ?_; (first | ((repeat (first | (with_reducible refine CellF.at_ ?_ rfl; (first | rfl | (simp; done))) | with_reducible refine CellF.past _ ?_ | with_reducible refine CellF.drew ?_ | with_reducible refine CellF.drewN _ ?_)); done) | (refine ⟨?_, ?_⟩ <;> go_simp)))
      have c1_2_2 := q1_2_2.1
      have z1_2 : (w.heap.size + 1) < w1.heap.size := ltc c1_2_0
      have q1_3_0 : CellF w1 ⟨(w.heap.size + 2), 0, none⟩ (.int .i64 x0) := (by refine CellF.keep hb1 ?_; (first | ((repeat (first | (with_reducible refine CellF.at_ ?_ rfl; (first | rfl | (simp; done))) | with_reducible refine CellF.past _ ?_ | with_reducible refine CellF.drew ?_ | with_reducible refine CellF.drewN _ ?_)); done) | (refine ⟨?_, ?_⟩ <;> go_simp)))
      have c1_3_0 := q1_3_0.1
      have q1_3_1 : CellF w1 ⟨(w.heap.size + 2), 1, none⟩ (.int .i64 x1) := (by refine CellF.keep hb1 ?_; (first | ((repeat (first | (with_reducible refine CellF.at_ ?_ rfl; (first | rfl | (simp; done))) | with_reducible refine CellF.past _ ?_ | with_reducible refine CellF.drew ?_ | with_reducible refine CellF.drewN _ ?_)); done) | (refine ⟨?_, ?_⟩ <;> go_simp)))
      have c1_3_1 := q1_3_1.1
      have q1_3_2 : CellF w1 ⟨(w.heap.size + 2), 2, none⟩ (.int .i64 x2) := (by refine CellF.keep hb1 ?_; (first | ((repeat (first | (with_reducible refine CellF.at_ ?_ rfl; (first | rfl | (simp; done))) | with_reducible refine CellF.past _ ?_ | with_reducible refine CellF.drew ?_ | with_reducible refine CellF.drewN _ ?_)); done) | (refine ⟨?_, ?_⟩ <;> go_simp)))
      have c1_3_2 := q1_3_2.1
      have q1_3_3 : CellF w1 ⟨(w.heap.size + 2), 3, none⟩ (.int .i64 x3) := (by refine CellF.keep hb1 ?_; (first | ((repeat (first | (with_reducible refine CellF.at_ ?_ rfl; (first | rfl | (simp; done))) | with_reducible refine CellF.past _ ?_ | with_reducible refine CellF.drew ?_ | with_reducible refine CellF.drewN _ ?_)); done) | (refine ⟨?_, ?_⟩ <;> go_simp)))
      have c1_3_3 := q1_3_3.1
      have z1_3 : (w.heap.size + 2) < w1.heap.size := ltc c1_3_0
      go_wp2_with fail
      refine (rPRight_is _ _ _ _ R2 _).mono ?_
      rintro e w2 ⟨rfl, hb2⟩
      have q2_4_0 : CellF w2 ⟨w.heap.size, 0, none⟩ (.int .i64 m1) := (by refine CellF.keep hb2 ?_; repeat (first | with_reducible exact q1_1_0 | (with_reducible refine CellF.at_ ?_ rfl; (first | rfl | (simp; done))) | with_reducible refine CellF.past _ ?_ | with_reducible refine CellF.drew ?_ | with_reducible refine CellF.drewN _ ?_))
      have c2_4_0 := q2_4_0.1
      have q2_4_1 : CellF w2 ⟨w.heap.size, 1, none⟩ (.int .i64 n1) := (by refine CellF.keep hb2 ?_; repeat (first | with_reducible exact q1_1_1 | (with_reducible refine CellF.at_ ?_ rfl; (first | rfl | (simp; done))) | with_reducible refine CellF.past _ ?_ | with_reducible refine CellF.drew ?_ | with_reducible refine CellF.drewN _ ?_))
      have c2_4_1 := q2_4_1.1
      have q2_4_2 : CellF w2 ⟨w.heap.size, 2, none⟩ (.int .i64 g1) := (by refine CellF.keep hb2 ?_; repeat (first | with_reducible exact q1_1_2 | (with_reducible refine CellF.at_ ?_ rfl; (first | rfl | (simp; done))) | with_reducible refine CellF.past _ ?_ | with_reducible refine CellF.drew ?_ | with_reducible refine CellF.drewN _ ?_))
      have c2_4_2 := q2_4_2.1
      have z2_4 : w.heap.size < w2.heap.size := ltc c2_4_0
      have q2_5_0 : CellF w2 ⟨(w.heap.size + 1), 0, none⟩ (.int .i64 m2) := (by refine CellF.keep hb2 ?_; repeat (first | with_reducible exact q1_2_0 | (with_reducible refine CellF.at_ ?_ rfl; (first | rfl | (simp; done))) | with_reducible refine CellF.past _ ?_ | with_reducible refine CellF.drew ?_ | with_reducible refine CellF.drewN _ ?_))
      have c2_5_0 := q2_5_0.1
      have q2_5_1 : CellF w2 ⟨(w.heap.size + 1), 1, none⟩ (.int .i64 n2) := (by refine CellF.keep hb2 ?_; repeat (first | with_reducible exact q1_2_1 | (with_reducible refine CellF.at_ ?_ rfl; (first | rfl | (simp; done))) | with_reducible refine CellF.past _ ?_ | with_reducible refine CellF.drew ?_ | with_reducible refine CellF.drewN _ ?_))
      have c2_5_1 := q2_5_1.1
      have q2_5_2 : CellF w2 ⟨(w.heap.size + 1), 2, none⟩ (.int .i64 g2) := (by refine CellF.keep hb2 ?_; repeat (first | with_reducible exact q1_2_2 | (with_reducible refine CellF.at_ ?_ rfl; (first | rfl | (simp; done))) | with_reducible refine CellF.past _ ?_ | with_reducible refine CellF.drew ?_ | with_reducible refine CellF.drewN _ ?_))
      have c2_5_2 := q2_5_2.1
      have z2_5 : (w.heap.size + 1) < w2.heap.size := ltc c2_5_0
      have q2_6_0 : CellF w2 ⟨(w.heap.size + 2), 0, none⟩ (.int .i64 x0) := (by refine CellF.keep hb2 ?_; repeat (first | with_reducible exact q1_3_0 | (with_reducible refine CellF.at_ ?_ rfl; (first | rfl | (simp; done))) | with_reducible refine CellF.past _ ?_ | with_reducible refine CellF.drew ?_ | with_reducible refine CellF.drewN _ ?_))
      have c2_6_0 := q2_6_0.1
      have q2_6_1 : CellF w2 ⟨(w.heap.size + 2), 1, none⟩ (.int .i64 x1) := (by refine CellF.keep hb2 ?_; repeat (first | with_reducible exact q1_3_1 | (with_reducible refine CellF.at_ ?_ rfl; (first | rfl | (simp; done))) | with_reducible refine CellF.past _ ?_ | with_reducible refine CellF.drew ?_ | with_reducible refine CellF.drewN _ ?_))
      have c2_6_1 := q2_6_1.1
      have q2_6_2 : CellF w2 ⟨(w.heap.size + 2), 2, none⟩ (.int .i64 x2) := (by refine CellF.keep hb2 ?_; repeat (first | with_reducible exact q1_3_2 | (with_reducible refine CellF.at_ ?_ rfl; (first | rfl | (simp; done))) | with_reducible refine CellF.past _ ?_ | with_reducible refine CellF.drew ?_ | with_reducible refine CellF.drewN _ ?_))
      have c2_6_2 := q2_6_2.1
      have q2_6_3 : CellF w2 ⟨(w.heap.size + 2), 3, none⟩ (.int .i64 x3) := (by refine CellF.keep hb2 ?_; repeat (first | with_reducible exact q1_3_3 | (with_reducible refine CellF.at_ ?_ rfl; (first | rfl | (simp; done))) | with_reducible refine CellF.past _ ?_ | with_reducible refine CellF.drew ?_ | with_reducible refine CellF.drewN _ ?_))
      have c2_6_3 := q2_6_3.1
      have z2_6 : (w.heap.size + 2) < w2.heap.size := ltc c2_6_0
      clear q1_1_0 c1_1_0 q1_1_1 c1_1_1 q1_1_2 c1_1_2 z1_1 q1_2_0 c1_2_0 q1_2_1 c1_2_1 q1_2_2 c1_2_2 z1_2 q1_3_0 c1_3_0 q1_3_1 c1_3_1 q1_3_2 c1_3_2 q1_3_3 c1_3_3 z1_3
      go_upto_region 3 with (fail)
      go_cut [7, 8] (fun v7 v8 wd => ∃ ba bb, v7 = .pointer (some ⟨ba, 0, none⟩) ∧ v8 = .pointer (some ⟨bb, 0, none⟩) ∧ Hid (Below w.heap.size w wd) ∧ Hid (CellF wd ⟨w.heap.size, 0, none⟩ (.int .i64 m1) ∧ CellF wd ⟨w.heap.size, 1, none⟩ (.int .i64 n1) ∧ CellF wd ⟨w.heap.size, 2, none⟩ (.int .i64 g1)) ∧ Hid (CellF wd ⟨(w.heap.size + 1), 0, none⟩ (.int .i64 m2) ∧ CellF wd ⟨(w.heap.size + 1), 1, none⟩ (.int .i64 n2) ∧ CellF wd ⟨(w.heap.size + 1), 2, none⟩ (.int .i64 g2)) ∧ Hid (CellF wd ⟨(w.heap.size + 2), 0, none⟩ (.int .i64 x0) ∧ CellF wd ⟨(w.heap.size + 2), 1, none⟩ (.int .i64 x1) ∧ CellF wd ⟨(w.heap.size + 2), 2, none⟩ (.int .i64 x2) ∧ CellF wd ⟨(w.heap.size + 2), 3, none⟩ (.int .i64 x3)) ∧ Hid (SpanAt wd ba a1 a2 a3) ∧ Hid (SpanAt wd bb b1 b2 b3))
      case first =>
        refine wp_region_inv (by kernel_rfl) (fun ls ac w' => ∃ v7 v8 v41 v42 v43 v44 v45 v46 v47 v48 v49 v50 v51 v52 v53 v54 v55 v56, ac = ⟨#[.agg #[.int .i64 m1, .int .i64 n1, .int .i64 g1], .agg #[.int .i64 m2, .int .i64 n2, .int .i64 g2], .agg #[.int .i64 x0, .int .i64 x1, .int .i64 x2, .int .i64 x3], .pointer (some ⟨w.heap.size, 0, none⟩), .pointer (some ⟨w.heap.size + 1, 0, none⟩), .pointer (some ⟨w.heap.size + 2, 0, none⟩), .bool false, v7, v8, undef, undef, .agg #[.int .i64 m1, .int .i64 n1, .int .i64 g1], .bool true, .bool false, .bool false, .agg #[.int .i64 m2, .int .i64 n2, .int .i64 g2], .bool true, .bool false, .bool false, .bool false, .pointer (some ⟨w.heap.size + 1, 0, none⟩), .int .i64 m2, .pointer (some ⟨w.heap.size, 0, none⟩), .int .i64 m1, .bool false, .bool false, .bool false, .pointer (some ⟨w.heap.size + 1, 1, none⟩), .int .i64 n2, .pointer (some ⟨w.heap.size, 1, none⟩), .int .i64 n1, .bool false, .bool false, .bool false, .pointer (some ⟨w.heap.size + 1, 2, none⟩), .int .i64 g2, .pointer (some ⟨w.heap.size, 2, none⟩), .int .i64 g1, .bool false, .bool false, undef, v41, v42, v43, v44, v45, v46, v47, v48, v49, v50, v51, v52, v53, v54, v55, v56, undef, undef, undef, undef, undef, undef, undef, undef, undef, undef, undef, undef, undef, undef, undef, undef, undef, undef, undef, undef, undef, undef, undef, undef, undef, undef, undef], []⟩ ∧ ls.size = 20 ∧ Below w2.heap.size w2 w' ∧ (ls.getD 0 false = true → v41 = .agg #[.int .i64 m1, .int .i64 n1, .int .i64 g1]) ∧ (ls.getD 1 false = true → v42 = .pointer (some ⟨w.heap.size + 2, 0, none⟩)) ∧ (ls.getD 2 false = true → v43 = .int .i64 x0) ∧ (ls.getD 3 false = true → v44 = .pointer (some ⟨w.heap.size + 2, 1, none⟩)) ∧ (ls.getD 4 false = true → v45 = .int .i64 x1) ∧ (ls.getD 5 false = true → v46 = .pointer (some ⟨w.heap.size + 2, 2, none⟩)) ∧ (ls.getD 6 false = true → v47 = .int .i64 x2) ∧ (ls.getD 7 false = true → v48 = .agg #[.int .i64 a1, .int .i64 a2, .bool a3]) ∧ (ls.getD 8 false = true → v49 = .agg #[.int .i64 m2, .int .i64 n2, .int .i64 g2]) ∧ (ls.getD 9 false = true → v50 = .pointer (some ⟨w.heap.size + 2, 0, none⟩)) ∧ (ls.getD 10 false = true → v51 = .int .i64 x0) ∧ (ls.getD 11 false = true → v52 = .pointer (some ⟨w.heap.size + 2, 1, none⟩)) ∧ (ls.getD 12 false = true → v53 = .int .i64 x1) ∧ (ls.getD 13 false = true → v54 = .pointer (some ⟨w.heap.size + 2, 2, none⟩)) ∧ (ls.getD 14 false = true → v55 = .int .i64 x2) ∧ (ls.getD 15 false = true → v56 = .agg #[.int .i64 b1, .int .i64 b2, .bool b3]) ∧ (ls.getD 16 false = true → ∃ b, v7 = .pointer (some ⟨b, 0, none⟩) ∧ w2.heap.size ≤ b ∧ (ls.getD 17 false = true → v8 ≠ .pointer (some ⟨b, 0, none⟩)) ∧ (ls.getD 18 false = false → SpanAt w' b 0 0 false) ∧ (ls.getD 18 false = true → SpanAt w' b a1 a2 a3)) ∧ (ls.getD 17 false = true → ∃ b, v8 = .pointer (some ⟨b, 0, none⟩) ∧ w2.heap.size ≤ b ∧ (ls.getD 19 false = false → SpanAt w' b 0 0 false) ∧ (ls.getD 19 false = true → SpanAt w' b b1 b2 b3)) ∧ (ls.getD 18 false = true → ls.getD 16 false = true) ∧ (ls.getD 19 false = true → ls.getD 17 false = true)) ?_ ?_ ?_
        · exact ⟨_, _, _, _, _, _, _, _, _, _, _, _, _, _, _, _, _, _, rfl, rfl, bdrew (brefl _), fun h => (by cases h), fun h => (by cases h), fun h => (by cases h), fun h => (by cases h), fun h => (by cases h), fun h => (by cases h), fun h => (by cases h), fun h => (by cases h), fun h => (by cases h), fun h => (by cases h), fun h => (by cases h), fun h => (by cases h), fun h => (by cases h), fun h => (by cases h), fun h => (by cases h), fun h => (by cases h), fun h => (by cases h), fun h => (by cases h), fun h => (by cases h), fun h => (by cases h)⟩
        · intro i hii
          have hin : i < 20 := hii
          have hor : i = 0 ∨ i = 1 ∨ i = 2 ∨ i = 3 ∨ i = 4 ∨ i = 5 ∨ i = 6 ∨ i = 7 ∨ i = 8 ∨ i = 9 ∨ i = 10 ∨ i = 11 ∨ i = 12 ∨ i = 13 ∨ i = 14 ∨ i = 15 ∨ i = 16 ∨ i = 17 ∨ i = 18 ∨ i = 19 := by omega
          rcases hor with rfl | rfl | rfl | rfl | rfl | rfl | rfl | rfl | rfl | rfl | rfl | rfl | rfl | rfl | rfl | rfl | rfl | rfl | rfl | rfl
          · rintro ls ac w' hr ⟨v7, v8, v41, v42, v43, v44, v45, v46, v47, v48, v49, v50, v51, v52, v53, v54, v55, v56, rfl, hl, hB, zg0, zg1, zg2, zg3, zg4, zg5, zg6, zg7, zg8, zg9, zg10, zg11, zg12, zg13, zg14, zg15, zh1, zh2, zk1, zk2⟩
            have a0 := (hB.cell (ltc c2_4_0)).trans c2_4_0
            have a1 := (hB.cell (ltc c2_4_1)).trans c2_4_1
            have a2 := (hB.cell (ltc c2_4_2)).trans c2_4_2
            have a3 := (hB.cell (ltc c2_5_0)).trans c2_5_0
            have a4 := (hB.cell (ltc c2_5_1)).trans c2_5_1
            have a5 := (hB.cell (ltc c2_5_2)).trans c2_5_2
            have a6 := (hB.cell (ltc c2_6_0)).trans c2_6_0
            have a7 := (hB.cell (ltc c2_6_1)).trans c2_6_1
            have a8 := (hB.cell (ltc c2_6_2)).trans c2_6_2
            have a9 := (hB.cell (ltc c2_6_3)).trans c2_6_3
            refine wpOp_step rfl (fun K hK => ?_)
            clear hr
            go_simp
            refine hK _ _ ?_
            simp only [getD_own (l := ls) (i := 0) (by omega), getD_set ls (i := 0) (j := 1) (by decide), getD_set ls (i := 0) (j := 2) (by decide), getD_set ls (i := 0) (j := 3) (by decide), getD_set ls (i := 0) (j := 4) (by decide), getD_set ls (i := 0) (j := 5) (by decide), getD_set ls (i := 0) (j := 6) (by decide), getD_set ls (i := 0) (j := 7) (by decide), getD_set ls (i := 0) (j := 8) (by decide), getD_set ls (i := 0) (j := 9) (by decide), getD_set ls (i := 0) (j := 10) (by decide), getD_set ls (i := 0) (j := 11) (by decide), getD_set ls (i := 0) (j := 12) (by decide), getD_set ls (i := 0) (j := 13) (by decide), getD_set ls (i := 0) (j := 14) (by decide), getD_set ls (i := 0) (j := 15) (by decide), getD_set ls (i := 0) (j := 16) (by decide), getD_set ls (i := 0) (j := 17) (by decide), getD_set ls (i := 0) (j := 18) (by decide), getD_set ls (i := 0) (j := 19) (by decide)]
            exact ⟨v7, v8, _, v42, v43, v44, v45, v46, v47, v48, v49, v50, v51, v52, v53, v54, v55, v56, rfl, by simp [hl], hB, fun _ => rfl, zg1, zg2, zg3, zg4, zg5, zg6, zg7, zg8, zg9, zg10, zg11, zg12, zg13, zg14, zg15, zh1, zh2, zk1, zk2⟩
          · rintro ls ac w' hr ⟨v7, v8, v41, v42, v43, v44, v45, v46, v47, v48, v49, v50, v51, v52, v53, v54, v55, v56, rfl, hl, hB, zg0, zg1, zg2, zg3, zg4, zg5, zg6, zg7, zg8, zg9, zg10, zg11, zg12, zg13, zg14, zg15, zh1, zh2, zk1, zk2⟩
            refine wpOp_step rfl (fun K hK => ?_)
            clear hr
            go_simp
            refine hK _ _ ?_
            simp only [getD_own (l := ls) (i := 1) (by omega), getD_set ls (i := 1) (j := 0) (by decide), getD_set ls (i := 1) (j := 2) (by decide), getD_set ls (i := 1) (j := 3) (by decide), getD_set ls (i := 1) (j := 4) (by decide), getD_set ls (i := 1) (j := 5) (by decide), getD_set ls (i := 1) (j := 6) (by decide), getD_set ls (i := 1) (j := 7) (by decide), getD_set ls (i := 1) (j := 8) (by decide), getD_set ls (i := 1) (j := 9) (by decide), getD_set ls (i := 1) (j := 10) (by decide), getD_set ls (i := 1) (j := 11) (by decide), getD_set ls (i := 1) (j := 12) (by decide), getD_set ls (i := 1) (j := 13) (by decide), getD_set ls (i := 1) (j := 14) (by decide), getD_set ls (i := 1) (j := 15) (by decide), getD_set ls (i := 1) (j := 16) (by decide), getD_set ls (i := 1) (j := 17) (by decide), getD_set ls (i := 1) (j := 18) (by decide), getD_set ls (i := 1) (j := 19) (by decide)]
            exact ⟨v7, v8, v41, _, v43, v44, v45, v46, v47, v48, v49, v50, v51, v52, v53, v54, v55, v56, rfl, by simp [hl], hB, zg0, fun _ => rfl, zg2, zg3, zg4, zg5, zg6, zg7, zg8, zg9, zg10, zg11, zg12, zg13, zg14, zg15, zh1, zh2, zk1, zk2⟩
          · rintro ls ac w' hr ⟨v7, v8, v41, v42, v43, v44, v45, v46, v47, v48, v49, v50, v51, v52, v53, v54, v55, v56, rfl, hl, hB, zg0, zg1, zg2, zg3, zg4, zg5, zg6, zg7, zg8, zg9, zg10, zg11, zg12, zg13, zg14, zg15, zh1, zh2, zk1, zk2⟩
            have zd1 : ls.getD 1 false = true := (ready_dep hr rfl).2 ⟨1, .data⟩ (by simp) rfl
            obtain rfl := zg1 zd1
            have a0 := (hB.cell (ltc c2_4_0)).trans c2_4_0
            have a1 := (hB.cell (ltc c2_4_1)).trans c2_4_1
            have a2 := (hB.cell (ltc c2_4_2)).trans c2_4_2
            have a3 := (hB.cell (ltc c2_5_0)).trans c2_5_0
            have a4 := (hB.cell (ltc c2_5_1)).trans c2_5_1
            have a5 := (hB.cell (ltc c2_5_2)).trans c2_5_2
            have a6 := (hB.cell (ltc c2_6_0)).trans c2_6_0
            have a7 := (hB.cell (ltc c2_6_1)).trans c2_6_1
            have a8 := (hB.cell (ltc c2_6_2)).trans c2_6_2
            have a9 := (hB.cell (ltc c2_6_3)).trans c2_6_3
            refine wpOp_step rfl (fun K hK => ?_)
            clear hr
            go_simp
            refine hK _ _ ?_
            simp only [getD_own (l := ls) (i := 2) (by omega), getD_set ls (i := 2) (j := 0) (by decide), getD_set ls (i := 2) (j := 1) (by decide), getD_set ls (i := 2) (j := 3) (by decide), getD_set ls (i := 2) (j := 4) (by decide), getD_set ls (i := 2) (j := 5) (by decide), getD_set ls (i := 2) (j := 6) (by decide), getD_set ls (i := 2) (j := 7) (by decide), getD_set ls (i := 2) (j := 8) (by decide), getD_set ls (i := 2) (j := 9) (by decide), getD_set ls (i := 2) (j := 10) (by decide), getD_set ls (i := 2) (j := 11) (by decide), getD_set ls (i := 2) (j := 12) (by decide), getD_set ls (i := 2) (j := 13) (by decide), getD_set ls (i := 2) (j := 14) (by decide), getD_set ls (i := 2) (j := 15) (by decide), getD_set ls (i := 2) (j := 16) (by decide), getD_set ls (i := 2) (j := 17) (by decide), getD_set ls (i := 2) (j := 18) (by decide), getD_set ls (i := 2) (j := 19) (by decide)]
            exact ⟨v7, v8, v41, _, _, v44, v45, v46, v47, v48, v49, v50, v51, v52, v53, v54, v55, v56, rfl, by simp [hl], hB, zg0, fun _ => rfl, fun _ => rfl, zg3, zg4, zg5, zg6, zg7, zg8, zg9, zg10, zg11, zg12, zg13, zg14, zg15, zh1, zh2, zk1, zk2⟩
          · rintro ls ac w' hr ⟨v7, v8, v41, v42, v43, v44, v45, v46, v47, v48, v49, v50, v51, v52, v53, v54, v55, v56, rfl, hl, hB, zg0, zg1, zg2, zg3, zg4, zg5, zg6, zg7, zg8, zg9, zg10, zg11, zg12, zg13, zg14, zg15, zh1, zh2, zk1, zk2⟩
            refine wpOp_step rfl (fun K hK => ?_)
            clear hr
            go_simp
            refine hK _ _ ?_
            simp only [getD_own (l := ls) (i := 3) (by omega), getD_set ls (i := 3) (j := 0) (by decide), getD_set ls (i := 3) (j := 1) (by decide), getD_set ls (i := 3) (j := 2) (by decide), getD_set ls (i := 3) (j := 4) (by decide), getD_set ls (i := 3) (j := 5) (by decide), getD_set ls (i := 3) (j := 6) (by decide), getD_set ls (i := 3) (j := 7) (by decide), getD_set ls (i := 3) (j := 8) (by decide), getD_set ls (i := 3) (j := 9) (by decide), getD_set ls (i := 3) (j := 10) (by decide), getD_set ls (i := 3) (j := 11) (by decide), getD_set ls (i := 3) (j := 12) (by decide), getD_set ls (i := 3) (j := 13) (by decide), getD_set ls (i := 3) (j := 14) (by decide), getD_set ls (i := 3) (j := 15) (by decide), getD_set ls (i := 3) (j := 16) (by decide), getD_set ls (i := 3) (j := 17) (by decide), getD_set ls (i := 3) (j := 18) (by decide), getD_set ls (i := 3) (j := 19) (by decide)]
            exact ⟨v7, v8, v41, v42, v43, _, v45, v46, v47, v48, v49, v50, v51, v52, v53, v54, v55, v56, rfl, by simp [hl], hB, zg0, zg1, zg2, fun _ => rfl, zg4, zg5, zg6, zg7, zg8, zg9, zg10, zg11, zg12, zg13, zg14, zg15, zh1, zh2, zk1, zk2⟩
          · rintro ls ac w' hr ⟨v7, v8, v41, v42, v43, v44, v45, v46, v47, v48, v49, v50, v51, v52, v53, v54, v55, v56, rfl, hl, hB, zg0, zg1, zg2, zg3, zg4, zg5, zg6, zg7, zg8, zg9, zg10, zg11, zg12, zg13, zg14, zg15, zh1, zh2, zk1, zk2⟩
            have zd3 : ls.getD 3 false = true := (ready_dep hr rfl).2 ⟨3, .data⟩ (by simp) rfl
            obtain rfl := zg3 zd3
            have a0 := (hB.cell (ltc c2_4_0)).trans c2_4_0
            have a1 := (hB.cell (ltc c2_4_1)).trans c2_4_1
            have a2 := (hB.cell (ltc c2_4_2)).trans c2_4_2
            have a3 := (hB.cell (ltc c2_5_0)).trans c2_5_0
            have a4 := (hB.cell (ltc c2_5_1)).trans c2_5_1
            have a5 := (hB.cell (ltc c2_5_2)).trans c2_5_2
            have a6 := (hB.cell (ltc c2_6_0)).trans c2_6_0
            have a7 := (hB.cell (ltc c2_6_1)).trans c2_6_1
            have a8 := (hB.cell (ltc c2_6_2)).trans c2_6_2
            have a9 := (hB.cell (ltc c2_6_3)).trans c2_6_3
            refine wpOp_step rfl (fun K hK => ?_)
            clear hr
            go_simp
            refine hK _ _ ?_
            simp only [getD_own (l := ls) (i := 4) (by omega), getD_set ls (i := 4) (j := 0) (by decide), getD_set ls (i := 4) (j := 1) (by decide), getD_set ls (i := 4) (j := 2) (by decide), getD_set ls (i := 4) (j := 3) (by decide), getD_set ls (i := 4) (j := 5) (by decide), getD_set ls (i := 4) (j := 6) (by decide), getD_set ls (i := 4) (j := 7) (by decide), getD_set ls (i := 4) (j := 8) (by decide), getD_set ls (i := 4) (j := 9) (by decide), getD_set ls (i := 4) (j := 10) (by decide), getD_set ls (i := 4) (j := 11) (by decide), getD_set ls (i := 4) (j := 12) (by decide), getD_set ls (i := 4) (j := 13) (by decide), getD_set ls (i := 4) (j := 14) (by decide), getD_set ls (i := 4) (j := 15) (by decide), getD_set ls (i := 4) (j := 16) (by decide), getD_set ls (i := 4) (j := 17) (by decide), getD_set ls (i := 4) (j := 18) (by decide), getD_set ls (i := 4) (j := 19) (by decide)]
            exact ⟨v7, v8, v41, v42, v43, _, _, v46, v47, v48, v49, v50, v51, v52, v53, v54, v55, v56, rfl, by simp [hl], hB, zg0, zg1, zg2, fun _ => rfl, fun _ => rfl, zg5, zg6, zg7, zg8, zg9, zg10, zg11, zg12, zg13, zg14, zg15, zh1, zh2, zk1, zk2⟩
          · rintro ls ac w' hr ⟨v7, v8, v41, v42, v43, v44, v45, v46, v47, v48, v49, v50, v51, v52, v53, v54, v55, v56, rfl, hl, hB, zg0, zg1, zg2, zg3, zg4, zg5, zg6, zg7, zg8, zg9, zg10, zg11, zg12, zg13, zg14, zg15, zh1, zh2, zk1, zk2⟩
            refine wpOp_step rfl (fun K hK => ?_)
            clear hr
            go_simp
            refine hK _ _ ?_
            simp only [getD_own (l := ls) (i := 5) (by omega), getD_set ls (i := 5) (j := 0) (by decide), getD_set ls (i := 5) (j := 1) (by decide), getD_set ls (i := 5) (j := 2) (by decide), getD_set ls (i := 5) (j := 3) (by decide), getD_set ls (i := 5) (j := 4) (by decide), getD_set ls (i := 5) (j := 6) (by decide), getD_set ls (i := 5) (j := 7) (by decide), getD_set ls (i := 5) (j := 8) (by decide), getD_set ls (i := 5) (j := 9) (by decide), getD_set ls (i := 5) (j := 10) (by decide), getD_set ls (i := 5) (j := 11) (by decide), getD_set ls (i := 5) (j := 12) (by decide), getD_set ls (i := 5) (j := 13) (by decide), getD_set ls (i := 5) (j := 14) (by decide), getD_set ls (i := 5) (j := 15) (by decide), getD_set ls (i := 5) (j := 16) (by decide), getD_set ls (i := 5) (j := 17) (by decide), getD_set ls (i := 5) (j := 18) (by decide), getD_set ls (i := 5) (j := 19) (by decide)]
            exact ⟨v7, v8, v41, v42, v43, v44, v45, _, v47, v48, v49, v50, v51, v52, v53, v54, v55, v56, rfl, by simp [hl], hB, zg0, zg1, zg2, zg3, zg4, fun _ => rfl, zg6, zg7, zg8, zg9, zg10, zg11, zg12, zg13, zg14, zg15, zh1, zh2, zk1, zk2⟩
          · rintro ls ac w' hr ⟨v7, v8, v41, v42, v43, v44, v45, v46, v47, v48, v49, v50, v51, v52, v53, v54, v55, v56, rfl, hl, hB, zg0, zg1, zg2, zg3, zg4, zg5, zg6, zg7, zg8, zg9, zg10, zg11, zg12, zg13, zg14, zg15, zh1, zh2, zk1, zk2⟩
            have zd5 : ls.getD 5 false = true := (ready_dep hr rfl).2 ⟨5, .data⟩ (by simp) rfl
            obtain rfl := zg5 zd5
            have a0 := (hB.cell (ltc c2_4_0)).trans c2_4_0
            have a1 := (hB.cell (ltc c2_4_1)).trans c2_4_1
            have a2 := (hB.cell (ltc c2_4_2)).trans c2_4_2
            have a3 := (hB.cell (ltc c2_5_0)).trans c2_5_0
            have a4 := (hB.cell (ltc c2_5_1)).trans c2_5_1
            have a5 := (hB.cell (ltc c2_5_2)).trans c2_5_2
            have a6 := (hB.cell (ltc c2_6_0)).trans c2_6_0
            have a7 := (hB.cell (ltc c2_6_1)).trans c2_6_1
            have a8 := (hB.cell (ltc c2_6_2)).trans c2_6_2
            have a9 := (hB.cell (ltc c2_6_3)).trans c2_6_3
            refine wpOp_step rfl (fun K hK => ?_)
            clear hr
            go_simp
            refine hK _ _ ?_
            simp only [getD_own (l := ls) (i := 6) (by omega), getD_set ls (i := 6) (j := 0) (by decide), getD_set ls (i := 6) (j := 1) (by decide), getD_set ls (i := 6) (j := 2) (by decide), getD_set ls (i := 6) (j := 3) (by decide), getD_set ls (i := 6) (j := 4) (by decide), getD_set ls (i := 6) (j := 5) (by decide), getD_set ls (i := 6) (j := 7) (by decide), getD_set ls (i := 6) (j := 8) (by decide), getD_set ls (i := 6) (j := 9) (by decide), getD_set ls (i := 6) (j := 10) (by decide), getD_set ls (i := 6) (j := 11) (by decide), getD_set ls (i := 6) (j := 12) (by decide), getD_set ls (i := 6) (j := 13) (by decide), getD_set ls (i := 6) (j := 14) (by decide), getD_set ls (i := 6) (j := 15) (by decide), getD_set ls (i := 6) (j := 16) (by decide), getD_set ls (i := 6) (j := 17) (by decide), getD_set ls (i := 6) (j := 18) (by decide), getD_set ls (i := 6) (j := 19) (by decide)]
            exact ⟨v7, v8, v41, v42, v43, v44, v45, _, _, v48, v49, v50, v51, v52, v53, v54, v55, v56, rfl, by simp [hl], hB, zg0, zg1, zg2, zg3, zg4, fun _ => rfl, fun _ => rfl, zg7, zg8, zg9, zg10, zg11, zg12, zg13, zg14, zg15, zh1, zh2, zk1, zk2⟩
          · rintro ls ac w' hr ⟨v7, v8, v41, v42, v43, v44, v45, v46, v47, v48, v49, v50, v51, v52, v53, v54, v55, v56, rfl, hl, hB, zg0, zg1, zg2, zg3, zg4, zg5, zg6, zg7, zg8, zg9, zg10, zg11, zg12, zg13, zg14, zg15, zh1, zh2, zk1, zk2⟩
            have zd0 : ls.getD 0 false = true := (ready_dep hr rfl).2 ⟨0, .data⟩ (by simp) rfl
            have zd2 : ls.getD 2 false = true := (ready_dep hr rfl).2 ⟨2, .data⟩ (by simp) rfl
            have zd4 : ls.getD 4 false = true := (ready_dep hr rfl).2 ⟨4, .data⟩ (by simp) rfl
            have zd6 : ls.getD 6 false = true := (ready_dep hr rfl).2 ⟨6, .data⟩ (by simp) rfl
            obtain rfl := zg0 zd0
            obtain rfl := zg2 zd2
            obtain rfl := zg4 zd4
            obtain rfl := zg6 zd6
            refine wpOp_step rfl (fun K hK => ?_)
            clear hr
            go_simp
            refine (Sync_is _ _ _ _ _ _ _ _ _ hx1 Ha _).mono ?_
            rintro e w1 ⟨rfl, hk⟩
            dsimp only
            refine hK _ _ ?_
            simp only [getD_own (l := ls) (i := 7) (by omega), getD_set ls (i := 7) (j := 0) (by decide), getD_set ls (i := 7) (j := 1) (by decide), getD_set ls (i := 7) (j := 2) (by decide), getD_set ls (i := 7) (j := 3) (by decide), getD_set ls (i := 7) (j := 4) (by decide), getD_set ls (i := 7) (j := 5) (by decide), getD_set ls (i := 7) (j := 6) (by decide), getD_set ls (i := 7) (j := 8) (by decide), getD_set ls (i := 7) (j := 9) (by decide), getD_set ls (i := 7) (j := 10) (by decide), getD_set ls (i := 7) (j := 11) (by decide), getD_set ls (i := 7) (j := 12) (by decide), getD_set ls (i := 7) (j := 13) (by decide), getD_set ls (i := 7) (j := 14) (by decide), getD_set ls (i := 7) (j := 15) (by decide), getD_set ls (i := 7) (j := 16) (by decide), getD_set ls (i := 7) (j := 17) (by decide), getD_set ls (i := 7) (j := 18) (by decide), getD_set ls (i := 7) (j := 19) (by decide)]
            exact ⟨v7, v8, _, v42, _, v44, _, v46, _, _, v49, v50, v51, v52, v53, v54, v55, v56, rfl, by simp [hl], bstep hB hk, fun _ => rfl, zg1, fun _ => rfl, zg3, fun _ => rfl, zg5, fun _ => rfl, fun _ => rfl, zg8, zg9, zg10, zg11, zg12, zg13, zg14, zg15, fun h => (by obtain ⟨b, e1, e2, e3, e4, e5⟩ := zh1 h; exact ⟨b, e1, e2, e3, fun h => (e4 h).keep hk, fun h => (e5 h).keep hk⟩), fun h => (by obtain ⟨b, e1, e2, e4, e5⟩ := zh2 h; exact ⟨b, e1, e2, fun h => (e4 h).keep hk, fun h => (e5 h).keep hk⟩), zk1, zk2⟩
          · rintro ls ac w' hr ⟨v7, v8, v41, v42, v43, v44, v45, v46, v47, v48, v49, v50, v51, v52, v53, v54, v55, v56, rfl, hl, hB, zg0, zg1, zg2, zg3, zg4, zg5, zg6, zg7, zg8, zg9, zg10, zg11, zg12, zg13, zg14, zg15, zh1, zh2, zk1, zk2⟩
            have a0 := (hB.cell (ltc c2_4_0)).trans c2_4_0
            have a1 := (hB.cell (ltc c2_4_1)).trans c2_4_1
            have a2 := (hB.cell (ltc c2_4_2)).trans c2_4_2
            have a3 := (hB.cell (ltc c2_5_0)).trans c2_5_0
            have a4 := (hB.cell (ltc c2_5_1)).trans c2_5_1
            have a5 := (hB.cell (ltc c2_5_2)).trans c2_5_2
            have a6 := (hB.cell (ltc c2_6_0)).trans c2_6_0
            have a7 := (hB.cell (ltc c2_6_1)).trans c2_6_1
            have a8 := (hB.cell (ltc c2_6_2)).trans c2_6_2
            have a9 := (hB.cell (ltc c2_6_3)).trans c2_6_3
            refine wpOp_step rfl (fun K hK => ?_)
            clear hr
            go_simp
            refine hK _ _ ?_
            simp only [getD_own (l := ls) (i := 8) (by omega), getD_set ls (i := 8) (j := 0) (by decide), getD_set ls (i := 8) (j := 1) (by decide), getD_set ls (i := 8) (j := 2) (by decide), getD_set ls (i := 8) (j := 3) (by decide), getD_set ls (i := 8) (j := 4) (by decide), getD_set ls (i := 8) (j := 5) (by decide), getD_set ls (i := 8) (j := 6) (by decide), getD_set ls (i := 8) (j := 7) (by decide), getD_set ls (i := 8) (j := 9) (by decide), getD_set ls (i := 8) (j := 10) (by decide), getD_set ls (i := 8) (j := 11) (by decide), getD_set ls (i := 8) (j := 12) (by decide), getD_set ls (i := 8) (j := 13) (by decide), getD_set ls (i := 8) (j := 14) (by decide), getD_set ls (i := 8) (j := 15) (by decide), getD_set ls (i := 8) (j := 16) (by decide), getD_set ls (i := 8) (j := 17) (by decide), getD_set ls (i := 8) (j := 18) (by decide), getD_set ls (i := 8) (j := 19) (by decide)]
            exact ⟨v7, v8, v41, v42, v43, v44, v45, v46, v47, v48, _, v50, v51, v52, v53, v54, v55, v56, rfl, by simp [hl], hB, zg0, zg1, zg2, zg3, zg4, zg5, zg6, zg7, fun _ => rfl, zg9, zg10, zg11, zg12, zg13, zg14, zg15, zh1, zh2, zk1, zk2⟩
          · rintro ls ac w' hr ⟨v7, v8, v41, v42, v43, v44, v45, v46, v47, v48, v49, v50, v51, v52, v53, v54, v55, v56, rfl, hl, hB, zg0, zg1, zg2, zg3, zg4, zg5, zg6, zg7, zg8, zg9, zg10, zg11, zg12, zg13, zg14, zg15, zh1, zh2, zk1, zk2⟩
            refine wpOp_step rfl (fun K hK => ?_)
            clear hr
            go_simp
            refine hK _ _ ?_
            simp only [getD_own (l := ls) (i := 9) (by omega), getD_set ls (i := 9) (j := 0) (by decide), getD_set ls (i := 9) (j := 1) (by decide), getD_set ls (i := 9) (j := 2) (by decide), getD_set ls (i := 9) (j := 3) (by decide), getD_set ls (i := 9) (j := 4) (by decide), getD_set ls (i := 9) (j := 5) (by decide), getD_set ls (i := 9) (j := 6) (by decide), getD_set ls (i := 9) (j := 7) (by decide), getD_set ls (i := 9) (j := 8) (by decide), getD_set ls (i := 9) (j := 10) (by decide), getD_set ls (i := 9) (j := 11) (by decide), getD_set ls (i := 9) (j := 12) (by decide), getD_set ls (i := 9) (j := 13) (by decide), getD_set ls (i := 9) (j := 14) (by decide), getD_set ls (i := 9) (j := 15) (by decide), getD_set ls (i := 9) (j := 16) (by decide), getD_set ls (i := 9) (j := 17) (by decide), getD_set ls (i := 9) (j := 18) (by decide), getD_set ls (i := 9) (j := 19) (by decide)]
            exact ⟨v7, v8, v41, v42, v43, v44, v45, v46, v47, v48, v49, _, v51, v52, v53, v54, v55, v56, rfl, by simp [hl], hB, zg0, zg1, zg2, zg3, zg4, zg5, zg6, zg7, zg8, fun _ => rfl, zg10, zg11, zg12, zg13, zg14, zg15, zh1, zh2, zk1, zk2⟩
          · rintro ls ac w' hr ⟨v7, v8, v41, v42, v43, v44, v45, v46, v47, v48, v49, v50, v51, v52, v53, v54, v55, v56, rfl, hl, hB, zg0, zg1, zg2, zg3, zg4, zg5, zg6, zg7, zg8, zg9, zg10, zg11, zg12, zg13, zg14, zg15, zh1, zh2, zk1, zk2⟩
            have zd9 : ls.getD 9 false = true := (ready_dep hr rfl).2 ⟨9, .data⟩ (by simp) rfl
            obtain rfl := zg9 zd9
            have a0 := (hB.cell (ltc c2_4_0)).trans c2_4_0
            have a1 := (hB.cell (ltc c2_4_1)).trans c2_4_1
            have a2 := (hB.cell (ltc c2_4_2)).trans c2_4_2
            have a3 := (hB.cell (ltc c2_5_0)).trans c2_5_0
            have a4 := (hB.cell (ltc c2_5_1)).trans c2_5_1
            have a5 := (hB.cell (ltc c2_5_2)).trans c2_5_2
            have a6 := (hB.cell (ltc c2_6_0)).trans c2_6_0
            have a7 := (hB.cell (ltc c2_6_1)).trans c2_6_1
            have a8 := (hB.cell (ltc c2_6_2)).trans c2_6_2
            have a9 := (hB.cell (ltc c2_6_3)).trans c2_6_3
            refine wpOp_step rfl (fun K hK => ?_)
            clear hr
            go_simp
            refine hK _ _ ?_
            simp only [getD_own (l := ls) (i := 10) (by omega), getD_set ls (i := 10) (j := 0) (by decide), getD_set ls (i := 10) (j := 1) (by decide), getD_set ls (i := 10) (j := 2) (by decide), getD_set ls (i := 10) (j := 3) (by decide), getD_set ls (i := 10) (j := 4) (by decide), getD_set ls (i := 10) (j := 5) (by decide), getD_set ls (i := 10) (j := 6) (by decide), getD_set ls (i := 10) (j := 7) (by decide), getD_set ls (i := 10) (j := 8) (by decide), getD_set ls (i := 10) (j := 9) (by decide), getD_set ls (i := 10) (j := 11) (by decide), getD_set ls (i := 10) (j := 12) (by decide), getD_set ls (i := 10) (j := 13) (by decide), getD_set ls (i := 10) (j := 14) (by decide), getD_set ls (i := 10) (j := 15) (by decide), getD_set ls (i := 10) (j := 16) (by decide), getD_set ls (i := 10) (j := 17) (by decide), getD_set ls (i := 10) (j := 18) (by decide), getD_set ls (i := 10) (j := 19) (by decide)]
            exact ⟨v7, v8, v41, v42, v43, v44, v45, v46, v47, v48, v49, _, _, v52, v53, v54, v55, v56, rfl, by simp [hl], hB, zg0, zg1, zg2, zg3, zg4, zg5, zg6, zg7, zg8, fun _ => rfl, fun _ => rfl, zg11, zg12, zg13, zg14, zg15, zh1, zh2, zk1, zk2⟩
          · rintro ls ac w' hr ⟨v7, v8, v41, v42, v43, v44, v45, v46, v47, v48, v49, v50, v51, v52, v53, v54, v55, v56, rfl, hl, hB, zg0, zg1, zg2, zg3, zg4, zg5, zg6, zg7, zg8, zg9, zg10, zg11, zg12, zg13, zg14, zg15, zh1, zh2, zk1, zk2⟩
            refine wpOp_step rfl (fun K hK => ?_)
            clear hr
            go_simp
            refine hK _ _ ?_
            simp only [getD_own (l := ls) (i := 11) (by omega), getD_set ls (i := 11) (j := 0) (by decide), getD_set ls (i := 11) (j := 1) (by decide), getD_set ls (i := 11) (j := 2) (by decide), getD_set ls (i := 11) (j := 3) (by decide), getD_set ls (i := 11) (j := 4) (by decide), getD_set ls (i := 11) (j := 5) (by decide), getD_set ls (i := 11) (j := 6) (by decide), getD_set ls (i := 11) (j := 7) (by decide), getD_set ls (i := 11) (j := 8) (by decide), getD_set ls (i := 11) (j := 9) (by decide), getD_set ls (i := 11) (j := 10) (by decide), getD_set ls (i := 11) (j := 12) (by decide), getD_set ls (i := 11) (j := 13) (by decide), getD_set ls (i := 11) (j := 14) (by decide), getD_set ls (i := 11) (j := 15) (by decide), getD_set ls (i := 11) (j := 16) (by decide), getD_set ls (i := 11) (j := 17) (by decide), getD_set ls (i := 11) (j := 18) (by decide), getD_set ls (i := 11) (j := 19) (by decide)]
            exact ⟨v7, v8, v41, v42, v43, v44, v45, v46, v47, v48, v49, v50, v51, _, v53, v54, v55, v56, rfl, by simp [hl], hB, zg0, zg1, zg2, zg3, zg4, zg5, zg6, zg7, zg8, zg9, zg10, fun _ => rfl, zg12, zg13, zg14, zg15, zh1, zh2, zk1, zk2⟩
          · rintro ls ac w' hr ⟨v7, v8, v41, v42, v43, v44, v45, v46, v47, v48, v49, v50, v51, v52, v53, v54, v55, v56, rfl, hl, hB, zg0, zg1, zg2, zg3, zg4, zg5, zg6, zg7, zg8, zg9, zg10, zg11, zg12, zg13, zg14, zg15, zh1, zh2, zk1, zk2⟩
            have zd11 : ls.getD 11 false = true := (ready_dep hr rfl).2 ⟨11, .data⟩ (by simp) rfl
            obtain rfl := zg11 zd11
            have a0 := (hB.cell (ltc c2_4_0)).trans c2_4_0
            have a1 := (hB.cell (ltc c2_4_1)).trans c2_4_1
            have a2 := (hB.cell (ltc c2_4_2)).trans c2_4_2
            have a3 := (hB.cell (ltc c2_5_0)).trans c2_5_0
            have a4 := (hB.cell (ltc c2_5_1)).trans c2_5_1
            have a5 := (hB.cell (ltc c2_5_2)).trans c2_5_2
            have a6 := (hB.cell (ltc c2_6_0)).trans c2_6_0
            have a7 := (hB.cell (ltc c2_6_1)).trans c2_6_1
            have a8 := (hB.cell (ltc c2_6_2)).trans c2_6_2
            have a9 := (hB.cell (ltc c2_6_3)).trans c2_6_3
            refine wpOp_step rfl (fun K hK => ?_)
            clear hr
            go_simp
            refine hK _ _ ?_
            simp only [getD_own (l := ls) (i := 12) (by omega), getD_set ls (i := 12) (j := 0) (by decide), getD_set ls (i := 12) (j := 1) (by decide), getD_set ls (i := 12) (j := 2) (by decide), getD_set ls (i := 12) (j := 3) (by decide), getD_set ls (i := 12) (j := 4) (by decide), getD_set ls (i := 12) (j := 5) (by decide), getD_set ls (i := 12) (j := 6) (by decide), getD_set ls (i := 12) (j := 7) (by decide), getD_set ls (i := 12) (j := 8) (by decide), getD_set ls (i := 12) (j := 9) (by decide), getD_set ls (i := 12) (j := 10) (by decide), getD_set ls (i := 12) (j := 11) (by decide), getD_set ls (i := 12) (j := 13) (by decide), getD_set ls (i := 12) (j := 14) (by decide), getD_set ls (i := 12) (j := 15) (by decide), getD_set ls (i := 12) (j := 16) (by decide), getD_set ls (i := 12) (j := 17) (by decide), getD_set ls (i := 12) (j := 18) (by decide), getD_set ls (i := 12) (j := 19) (by decide)]
            exact ⟨v7, v8, v41, v42, v43, v44, v45, v46, v47, v48, v49, v50, v51, _, _, v54, v55, v56, rfl, by simp [hl], hB, zg0, zg1, zg2, zg3, zg4, zg5, zg6, zg7, zg8, zg9, zg10, fun _ => rfl, fun _ => rfl, zg13, zg14, zg15, zh1, zh2, zk1, zk2⟩
          · rintro ls ac w' hr ⟨v7, v8, v41, v42, v43, v44, v45, v46, v47, v48, v49, v50, v51, v52, v53, v54, v55, v56, rfl, hl, hB, zg0, zg1, zg2, zg3, zg4, zg5, zg6, zg7, zg8, zg9, zg10, zg11, zg12, zg13, zg14, zg15, zh1, zh2, zk1, zk2⟩
            refine wpOp_step rfl (fun K hK => ?_)
            clear hr
            go_simp
            refine hK _ _ ?_
            simp only [getD_own (l := ls) (i := 13) (by omega), getD_set ls (i := 13) (j := 0) (by decide), getD_set ls (i := 13) (j := 1) (by decide), getD_set ls (i := 13) (j := 2) (by decide), getD_set ls (i := 13) (j := 3) (by decide), getD_set ls (i := 13) (j := 4) (by decide), getD_set ls (i := 13) (j := 5) (by decide), getD_set ls (i := 13) (j := 6) (by decide), getD_set ls (i := 13) (j := 7) (by decide), getD_set ls (i := 13) (j := 8) (by decide), getD_set ls (i := 13) (j := 9) (by decide), getD_set ls (i := 13) (j := 10) (by decide), getD_set ls (i := 13) (j := 11) (by decide), getD_set ls (i := 13) (j := 12) (by decide), getD_set ls (i := 13) (j := 14) (by decide), getD_set ls (i := 13) (j := 15) (by decide), getD_set ls (i := 13) (j := 16) (by decide), getD_set ls (i := 13) (j := 17) (by decide), getD_set ls (i := 13) (j := 18) (by decide), getD_set ls (i := 13) (j := 19) (by decide)]
            exact ⟨v7, v8, v41, v42, v43, v44, v45, v46, v47, v48, v49, v50, v51, v52, v53, _, v55, v56, rfl, by simp [hl], hB, zg0, zg1, zg2, zg3, zg4, zg5, zg6, zg7, zg8, zg9, zg10, zg11, zg12, fun _ => rfl, zg14, zg15, zh1, zh2, zk1, zk2⟩
          · rintro ls ac w' hr ⟨v7, v8, v41, v42, v43, v44, v45, v46, v47, v48, v49, v50, v51, v52, v53, v54, v55, v56, rfl, hl, hB, zg0, zg1, zg2, zg3, zg4, zg5, zg6, zg7, zg8, zg9, zg10, zg11, zg12, zg13, zg14, zg15, zh1, zh2, zk1, zk2⟩
            have zd13 : ls.getD 13 false = true := (ready_dep hr rfl).2 ⟨13, .data⟩ (by simp) rfl
            obtain rfl := zg13 zd13
            have a0 := (hB.cell (ltc c2_4_0)).trans c2_4_0
            have a1 := (hB.cell (ltc c2_4_1)).trans c2_4_1
            have a2 := (hB.cell (ltc c2_4_2)).trans c2_4_2
            have a3 := (hB.cell (ltc c2_5_0)).trans c2_5_0
            have a4 := (hB.cell (ltc c2_5_1)).trans c2_5_1
            have a5 := (hB.cell (ltc c2_5_2)).trans c2_5_2
            have a6 := (hB.cell (ltc c2_6_0)).trans c2_6_0
            have a7 := (hB.cell (ltc c2_6_1)).trans c2_6_1
            have a8 := (hB.cell (ltc c2_6_2)).trans c2_6_2
            have a9 := (hB.cell (ltc c2_6_3)).trans c2_6_3
            refine wpOp_step rfl (fun K hK => ?_)
            clear hr
            go_simp
            refine hK _ _ ?_
            simp only [getD_own (l := ls) (i := 14) (by omega), getD_set ls (i := 14) (j := 0) (by decide), getD_set ls (i := 14) (j := 1) (by decide), getD_set ls (i := 14) (j := 2) (by decide), getD_set ls (i := 14) (j := 3) (by decide), getD_set ls (i := 14) (j := 4) (by decide), getD_set ls (i := 14) (j := 5) (by decide), getD_set ls (i := 14) (j := 6) (by decide), getD_set ls (i := 14) (j := 7) (by decide), getD_set ls (i := 14) (j := 8) (by decide), getD_set ls (i := 14) (j := 9) (by decide), getD_set ls (i := 14) (j := 10) (by decide), getD_set ls (i := 14) (j := 11) (by decide), getD_set ls (i := 14) (j := 12) (by decide), getD_set ls (i := 14) (j := 13) (by decide), getD_set ls (i := 14) (j := 15) (by decide), getD_set ls (i := 14) (j := 16) (by decide), getD_set ls (i := 14) (j := 17) (by decide), getD_set ls (i := 14) (j := 18) (by decide), getD_set ls (i := 14) (j := 19) (by decide)]
            exact ⟨v7, v8, v41, v42, v43, v44, v45, v46, v47, v48, v49, v50, v51, v52, v53, _, _, v56, rfl, by simp [hl], hB, zg0, zg1, zg2, zg3, zg4, zg5, zg6, zg7, zg8, zg9, zg10, zg11, zg12, fun _ => rfl, fun _ => rfl, zg15, zh1, zh2, zk1, zk2⟩
          · rintro ls ac w' hr ⟨v7, v8, v41, v42, v43, v44, v45, v46, v47, v48, v49, v50, v51, v52, v53, v54, v55, v56, rfl, hl, hB, zg0, zg1, zg2, zg3, zg4, zg5, zg6, zg7, zg8, zg9, zg10, zg11, zg12, zg13, zg14, zg15, zh1, zh2, zk1, zk2⟩
            have zd8 : ls.getD 8 false = true := (ready_dep hr rfl).2 ⟨8, .data⟩ (by simp) rfl
            have zd10 : ls.getD 10 false = true := (ready_dep hr rfl).2 ⟨10, .data⟩ (by simp) rfl
            have zd12 : ls.getD 12 false = true := (ready_dep hr rfl).2 ⟨12, .data⟩ (by simp) rfl
            have zd14 : ls.getD 14 false = true := (ready_dep hr rfl).2 ⟨14, .data⟩ (by simp) rfl
            obtain rfl := zg8 zd8
            obtain rfl := zg10 zd10
            obtain rfl := zg12 zd12
            obtain rfl := zg14 zd14
            refine wpOp_step rfl (fun K hK => ?_)
            clear hr
            go_simp
            refine (Sync_is _ _ _ _ _ _ _ _ _ hx1 Hb _).mono ?_
            rintro e w1 ⟨rfl, hk⟩
            dsimp only
            refine hK _ _ ?_
            simp only [getD_own (l := ls) (i := 15) (by omega), getD_set ls (i := 15) (j := 0) (by decide), getD_set ls (i := 15) (j := 1) (by decide), getD_set ls (i := 15) (j := 2) (by decide), getD_set ls (i := 15) (j := 3) (by decide), getD_set ls (i := 15) (j := 4) (by decide), getD_set ls (i := 15) (j := 5) (by decide), getD_set ls (i := 15) (j := 6) (by decide), getD_set ls (i := 15) (j := 7) (by decide), getD_set ls (i := 15) (j := 8) (by decide), getD_set ls (i := 15) (j := 9) (by decide), getD_set ls (i := 15) (j := 10) (by decide), getD_set ls (i := 15) (j := 11) (by decide), getD_set ls (i := 15) (j := 12) (by decide), getD_set ls (i := 15) (j := 13) (by decide), getD_set ls (i := 15) (j := 14) (by decide), getD_set ls (i := 15) (j := 16) (by decide), getD_set ls (i := 15) (j := 17) (by decide), getD_set ls (i := 15) (j := 18) (by decide), getD_set ls (i := 15) (j := 19) (by decide)]
            exact ⟨v7, v8, v41, v42, v43, v44, v45, v46, v47, v48, _, v50, _, v52, _, v54, _, _, rfl, by simp [hl], bstep hB hk, zg0, zg1, zg2, zg3, zg4, zg5, zg6, zg7, fun _ => rfl, zg9, fun _ => rfl, zg11, fun _ => rfl, zg13, fun _ => rfl, fun _ => rfl, fun h => (by obtain ⟨b, e1, e2, e3, e4, e5⟩ := zh1 h; exact ⟨b, e1, e2, e3, fun h => (e4 h).keep hk, fun h => (e5 h).keep hk⟩), fun h => (by obtain ⟨b, e1, e2, e4, e5⟩ := zh2 h; exact ⟨b, e1, e2, fun h => (e4 h).keep hk, fun h => (e5 h).keep hk⟩), zk1, zk2⟩
          · rintro ls ac w' hr ⟨v7, v8, v41, v42, v43, v44, v45, v46, v47, v48, v49, v50, v51, v52, v53, v54, v55, v56, rfl, hl, hB, zg0, zg1, zg2, zg3, zg4, zg5, zg6, zg7, zg8, zg9, zg10, zg11, zg12, zg13, zg14, zg15, zh1, zh2, zk1, zk2⟩
            have hz := hB.size
            have lt2 : ∀ b, (ls.getD 19 false = false → SpanAt w' b 0 0 false) → (ls.getD 19 false = true → SpanAt w' b b1 b2 b3) → b < w'.heap.size := fun b x y => by cases hc : ls.getD 19 false with | false => exact (x hc).lt | true => exact (y hc).lt
            have hn := (ready_dep hr rfl).1
            have hna : ls.getD 16 false = false := by cases hc : ls.getD 16 false with | false => rfl | true => (exfalso; have hs4 := getD_both hc; rw [hs4] at hn; cases hn)
            have hus : ls.getD 18 false = false := by cases hc : ls.getD 18 false with | false => rfl | true => (rw [zk1 hc] at hna; cases hna)
            refine wpOp_step rfl (fun K hK => ?_)
            clear hr
            go_simp
            refine hK _ _ ?_
            simp only [getD_own (l := ls) (i := 16) (by omega), getD_set ls (i := 16) (j := 0) (by decide), getD_set ls (i := 16) (j := 1) (by decide), getD_set ls (i := 16) (j := 2) (by decide), getD_set ls (i := 16) (j := 3) (by decide), getD_set ls (i := 16) (j := 4) (by decide), getD_set ls (i := 16) (j := 5) (by decide), getD_set ls (i := 16) (j := 6) (by decide), getD_set ls (i := 16) (j := 7) (by decide), getD_set ls (i := 16) (j := 8) (by decide), getD_set ls (i := 16) (j := 9) (by decide), getD_set ls (i := 16) (j := 10) (by decide), getD_set ls (i := 16) (j := 11) (by decide), getD_set ls (i := 16) (j := 12) (by decide), getD_set ls (i := 16) (j := 13) (by decide), getD_set ls (i := 16) (j := 14) (by decide), getD_set ls (i := 16) (j := 15) (by decide), getD_set ls (i := 16) (j := 17) (by decide), getD_set ls (i := 16) (j := 18) (by decide), getD_set ls (i := 16) (j := 19) (by decide)]
            exact ⟨_, v8, v41, v42, v43, v44, v45, v46, v47, v48, v49, v50, v51, v52, v53, v54, v55, v56, rfl, by simp [hl], balloc hB _, zg0, zg1, zg2, zg3, zg4, zg5, zg6, zg7, zg8, zg9, zg10, zg11, zg12, zg13, zg14, zg15, fun _ => ⟨_, rfl, hz, fun h => (by obtain ⟨b, e1, e2, e4, e5⟩ := zh2 h; rw [e1]; exact ptr_ne (Nat.ne_of_lt (lt2 b e4 e5))), fun _ => SpanAt.new rfl, fun h => (by rw [hus] at h; cases h)⟩, fun h => (by obtain ⟨b, e1, e2, e4, e5⟩ := zh2 h; exact ⟨b, e1, e2, fun h => (e4 h).keep (balloc (brefl _) _), fun h => (e5 h).keep (balloc (brefl _) _)⟩), fun _ => (by first | rfl | trivial), zk2⟩
          · rintro ls ac w' hr ⟨v7, v8, v41, v42, v43, v44, v45, v46, v47, v48, v49, v50, v51, v52, v53, v54, v55, v56, rfl, hl, hB, zg0, zg1, zg2, zg3, zg4, zg5, zg6, zg7, zg8, zg9, zg10, zg11, zg12, zg13, zg14, zg15, zh1, zh2, zk1, zk2⟩
            have hz := hB.size
            have lt1 : ∀ b, (ls.getD 18 false = false → SpanAt w' b 0 0 false) → (ls.getD 18 false = true → SpanAt w' b a1 a2 a3) → b < w'.heap.size := fun b x y => by cases hc : ls.getD 18 false with | false => exact (x hc).lt | true => exact (y hc).lt
            have hn := (ready_dep hr rfl).1
            have hna : ls.getD 17 false = false := by cases hc : ls.getD 17 false with | false => rfl | true => (exfalso; have hs4 := getD_both hc; rw [hs4] at hn; cases hn)
            have hus : ls.getD 19 false = false := by cases hc : ls.getD 19 false with | false => rfl | true => (rw [zk2 hc] at hna; cases hna)
            refine wpOp_step rfl (fun K hK => ?_)
            clear hr
            go_simp
            refine hK _ _ ?_
            simp only [getD_own (l := ls) (i := 17) (by omega), getD_set ls (i := 17) (j := 0) (by decide), getD_set ls (i := 17) (j := 1) (by decide), getD_set ls (i := 17) (j := 2) (by decide), getD_set ls (i := 17) (j := 3) (by decide), getD_set ls (i := 17) (j := 4) (by decide), getD_set ls (i := 17) (j := 5) (by decide), getD_set ls (i := 17) (j := 6) (by decide), getD_set ls (i := 17) (j := 7) (by decide), getD_set ls (i := 17) (j := 8) (by decide), getD_set ls (i := 17) (j := 9) (by decide), getD_set ls (i := 17) (j := 10) (by decide), getD_set ls (i := 17) (j := 11) (by decide), getD_set ls (i := 17) (j := 12) (by decide), getD_set ls (i := 17) (j := 13) (by decide), getD_set ls (i := 17) (j := 14) (by decide), getD_set ls (i := 17) (j := 15) (by decide), getD_set ls (i := 17) (j := 16) (by decide), getD_set ls (i := 17) (j := 18) (by decide), getD_set ls (i := 17) (j := 19) (by decide)]
            exact ⟨v7, _, v41, v42, v43, v44, v45, v46, v47, v48, v49, v50, v51, v52, v53, v54, v55, v56, rfl, by simp [hl], balloc hB _, zg0, zg1, zg2, zg3, zg4, zg5, zg6, zg7, zg8, zg9, zg10, zg11, zg12, zg13, zg14, zg15, fun h => (by obtain ⟨b, e1, e2, e3, e4, e5⟩ := zh1 h; exact ⟨b, e1, e2, fun _ => ptr_ne (Nat.ne_of_gt (lt1 b e4 e5)), fun h => (e4 h).keep (balloc (brefl _) _), fun h => (e5 h).keep (balloc (brefl _) _)⟩), fun _ => ⟨_, rfl, hz, fun _ => SpanAt.new rfl, fun h => (by rw [hus] at h; cases h)⟩, zk1, fun _ => (by first | rfl | trivial)⟩
          · rintro ls ac w' hr ⟨v7, v8, v41, v42, v43, v44, v45, v46, v47, v48, v49, v50, v51, v52, v53, v54, v55, v56, rfl, hl, hB, zg0, zg1, zg2, zg3, zg4, zg5, zg6, zg7, zg8, zg9, zg10, zg11, zg12, zg13, zg14, zg15, zh1, zh2, zk1, zk2⟩
            have zd16 : ls.getD 16 false = true := (ready_dep hr rfl).2 ⟨16, .data⟩ (by simp) rfl
            have zd7 : ls.getD 7 false = true := (ready_dep hr rfl).2 ⟨7, .data⟩ (by simp) rfl
            obtain rfl := zg7 zd7
            have hn := (ready_dep hr rfl).1
            have hns : ls.getD 18 false = false := by cases hc : ls.getD 18 false with | false => rfl | true => (exfalso; have hs4 := getD_both hc; rw [hs4] at hn; cases hn)
            obtain ⟨b, rfl, hub, hne, e4, _⟩ := zh1 zd16
            have hS := e4 hns
            have hT := span_sets (x := a1) (y := a2) (z := a3) hS
            have zs0 := (hS).1.1
            have zs1 := (hS).2.1.1
            have zs2 := (hS).2.2.1
            have zs3 := (hS).1.2
            have zs4 := (hS).2.1.2
            have zs5 := (hS).2.2.2
            refine wpOp_step rfl (fun K hK => ?_)
            clear hr
            clear hS e4
            go_simp
            refine hK _ _ ?_
            simp only [getD_own (l := ls) (i := 18) (by omega), getD_set ls (i := 18) (j := 0) (by decide), getD_set ls (i := 18) (j := 1) (by decide), getD_set ls (i := 18) (j := 2) (by decide), getD_set ls (i := 18) (j := 3) (by decide), getD_set ls (i := 18) (j := 4) (by decide), getD_set ls (i := 18) (j := 5) (by decide), getD_set ls (i := 18) (j := 6) (by decide), getD_set ls (i := 18) (j := 7) (by decide), getD_set ls (i := 18) (j := 8) (by decide), getD_set ls (i := 18) (j := 9) (by decide), getD_set ls (i := 18) (j := 10) (by decide), getD_set ls (i := 18) (j := 11) (by decide), getD_set ls (i := 18) (j := 12) (by decide), getD_set ls (i := 18) (j := 13) (by decide), getD_set ls (i := 18) (j := 14) (by decide), getD_set ls (i := 18) (j := 15) (by decide), getD_set ls (i := 18) (j := 16) (by decide), getD_set ls (i := 18) (j := 17) (by decide), getD_set ls (i := 18) (j := 19) (by decide)]
            exact ⟨_, v8, v41, v42, v43, v44, v45, v46, v47, _, v49, v50, v51, v52, v53, v54, v55, v56, rfl, by simp [hl], hB.trans (hT.2.2 _ hub), zg0, zg1, zg2, zg3, zg4, zg5, zg6, fun _ => rfl, zg8, zg9, zg10, zg11, zg12, zg13, zg14, zg15, fun _ => ⟨b, rfl, hub, hne, fun h => (by cases h), fun _ => hT.1⟩, fun h => (by obtain ⟨b', e1, e2, x4, x5⟩ := zh2 h; have hbb : b' ≠ b := fun hh => hne h (by rw [e1, hh]); exact ⟨b', e1, e2, fun h => hT.2.1 _ _ _ _ hbb (x4 h), fun h => hT.2.1 _ _ _ _ hbb (x5 h)⟩), fun _ => zd16, zk2⟩
          · rintro ls ac w' hr ⟨v7, v8, v41, v42, v43, v44, v45, v46, v47, v48, v49, v50, v51, v52, v53, v54, v55, v56, rfl, hl, hB, zg0, zg1, zg2, zg3, zg4, zg5, zg6, zg7, zg8, zg9, zg10, zg11, zg12, zg13, zg14, zg15, zh1, zh2, zk1, zk2⟩
            have zd17 : ls.getD 17 false = true := (ready_dep hr rfl).2 ⟨17, .data⟩ (by simp) rfl
            have zd15 : ls.getD 15 false = true := (ready_dep hr rfl).2 ⟨15, .data⟩ (by simp) rfl
            obtain rfl := zg15 zd15
            have hn := (ready_dep hr rfl).1
            have hns : ls.getD 19 false = false := by cases hc : ls.getD 19 false with | false => rfl | true => (exfalso; have hs4 := getD_both hc; rw [hs4] at hn; cases hn)
            obtain ⟨b, rfl, hub, e4, _⟩ := zh2 zd17
            have hS := e4 hns
            have hT := span_sets (x := b1) (y := b2) (z := b3) hS
            have zs0 := (hS).1.1
            have zs1 := (hS).2.1.1
            have zs2 := (hS).2.2.1
            have zs3 := (hS).1.2
            have zs4 := (hS).2.1.2
            have zs5 := (hS).2.2.2
            refine wpOp_step rfl (fun K hK => ?_)
            clear hr
            clear hS e4
            go_simp
            refine hK _ _ ?_
            simp only [getD_own (l := ls) (i := 19) (by omega), getD_set ls (i := 19) (j := 0) (by decide), getD_set ls (i := 19) (j := 1) (by decide), getD_set ls (i := 19) (j := 2) (by decide), getD_set ls (i := 19) (j := 3) (by decide), getD_set ls (i := 19) (j := 4) (by decide), getD_set ls (i := 19) (j := 5) (by decide), getD_set ls (i := 19) (j := 6) (by decide), getD_set ls (i := 19) (j := 7) (by decide), getD_set ls (i := 19) (j := 8) (by decide), getD_set ls (i := 19) (j := 9) (by decide), getD_set ls (i := 19) (j := 10) (by decide), getD_set ls (i := 19) (j := 11) (by decide), getD_set ls (i := 19) (j := 12) (by decide), getD_set ls (i := 19) (j := 13) (by decide), getD_set ls (i := 19) (j := 14) (by decide), getD_set ls (i := 19) (j := 15) (by decide), getD_set ls (i := 19) (j := 16) (by decide), getD_set ls (i := 19) (j := 17) (by decide), getD_set ls (i := 19) (j := 18) (by decide)]
            exact ⟨v7, _, v41, v42, v43, v44, v45, v46, v47, v48, v49, v50, v51, v52, v53, v54, v55, _, rfl, by simp [hl], hB.trans (hT.2.2 _ hub), zg0, zg1, zg2, zg3, zg4, zg5, zg6, zg7, zg8, zg9, zg10, zg11, zg12, zg13, zg14, fun _ => rfl, fun h => (by obtain ⟨b', e1, e2, x3, x4, x5⟩ := zh1 h; have hbb : b' ≠ b := fun hh => x3 zd17 (by rw [hh]); exact ⟨b', e1, e2, x3, fun h => hT.2.1 _ _ _ _ hbb (x4 h), fun h => hT.2.1 _ _ _ _ hbb (x5 h)⟩), fun _ => ⟨b, rfl, hub, fun h => (by cases h), fun _ => hT.1⟩, zk1, fun _ => zd17⟩
        · rintro ls ac w' ⟨v7, v8, v41, v42, v43, v44, v45, v46, v47, v48, v49, v50, v51, v52, v53, v54, v55, v56, rfl, hl, hB, zg0, zg1, zg2, zg3, zg4, zg5, zg6, zg7, zg8, zg9, zg10, zg11, zg12, zg13, zg14, zg15, zh1, zh2, zk1, zk2⟩ hr
          have hall := ready_allb (by decide) hl hr
          obtain ⟨b1, rfl, hub1, _, _, f1⟩ := zh1 (hall 16 (by decide))
          have F1 := f1 (hall 18 (by decide))
          obtain ⟨b2, rfl, hub2, _, f2⟩ := zh2 (hall 17 (by decide))
          have F2 := f2 (hall 19 (by decide))
          go_wp2_with fail
          go_meet
          exact ⟨b1, b2, rfl, rfl, Lib.hid (Below.trans (show Below w.heap.size w w2 from (by repeat (first | exact brefl _ | refine balloc ?_ _ | refine bdrewN ?_ _ | refine bset ?_ (by dsimp only; omega) _ | refine bstep ?_ (by assumption)))) (hB.mono (Below.size (show Below w.heap.size w w2 from (by repeat (first | exact brefl _ | refine balloc ?_ _ | refine bdrewN ?_ _ | refine bset ?_ (by dsimp only; omega) _ | refine bstep ?_ (by assumption))))))), Lib.hid ⟨CellF.keep hB q2_4_0, CellF.keep hB q2_4_1, CellF.keep hB q2_4_2⟩, Lib.hid ⟨CellF.keep hB q2_5_0, CellF.keep hB q2_5_1, CellF.keep hB q2_5_2⟩, Lib.hid ⟨CellF.keep hB q2_6_0, CellF.keep hB q2_6_1, CellF.keep hB q2_6_2, CellF.keep hB q2_6_3⟩, Lib.hid F1, Lib.hid F2⟩
      case rest =>
        obtain ⟨ba, bb, rfl, rfl, HB, HA0, HA1, HA2, XA0, XA1⟩ := hcut
        have hwA := HB.out
        have qHA0_0 := HA0.out.1
        have cHA0_0 := qHA0_0.1
        have qHA0_1 := HA0.out.2.1
        have cHA0_1 := qHA0_1.1
        have qHA0_2 := HA0.out.2.2
        have cHA0_2 := qHA0_2.1
        have zHA0 := ltc cHA0_0
        have qHA1_0 := HA1.out.1
        have cHA1_0 := qHA1_0.1
        have qHA1_1 := HA1.out.2.1
        have cHA1_1 := qHA1_1.1
        have qHA1_2 := HA1.out.2.2
        have cHA1_2 := qHA1_2.1
        have zHA1 := ltc cHA1_0
        have qHA2_0 := HA2.out.1
        have cHA2_0 := qHA2_0.1
        have qHA2_1 := HA2.out.2.1
        have cHA2_1 := qHA2_1.1
        have qHA2_2 := HA2.out.2.2.1
        have cHA2_2 := qHA2_2.1
        have qHA2_3 := HA2.out.2.2.2
        have cHA2_3 := qHA2_3.1
        have zHA2 := ltc cHA2_0
        have qXA0_0 := XA0.out.1
        have cXA0_0 := qXA0_0.1
        have qXA0_1 := XA0.out.2.1
        have cXA0_1 := qXA0_1.1
        have qXA0_2 := XA0.out.2.2
        have cXA0_2 := qXA0_2.1
        have zXA0 := ltc cXA0_0
        have qXA1_0 := XA1.out.1
        have cXA1_0 := qXA1_0.1
        have qXA1_1 := XA1.out.2.1
        have cXA1_1 := qXA1_1.1
        have qXA1_2 := XA1.out.2.2
        have cXA1_2 := qXA1_2.1
        have zXA1 := ltc cXA1_0
        clear HB HA0 HA1 HA2 XA0 XA1
        go_upto_region 4 with (fail)
        go_cut [9, 10] (fun v9 v10 wd => ∃ bc bd, v9 = .pointer (some ⟨bc, 0, none⟩) ∧ v10 = .pointer (some ⟨bd, 0, none⟩) ∧ Hid (Below w.heap.size w wd) ∧ Hid (CellF wd ⟨w.heap.size, 0, none⟩ (.int .i64 m1) ∧ CellF wd ⟨w.heap.size, 1, none⟩ (.int .i64 n1) ∧ CellF wd ⟨w.heap.size, 2, none⟩ (.int .i64 g1)) ∧ Hid (CellF wd ⟨(w.heap.size + 1), 0, none⟩ (.int .i64 m2) ∧ CellF wd ⟨(w.heap.size + 1), 1, none⟩ (.int .i64 n2) ∧ CellF wd ⟨(w.heap.size + 1), 2, none⟩ (.int .i64 g2)) ∧ Hid (CellF wd ⟨(w.heap.size + 2), 0, none⟩ (.int .i64 x0) ∧ CellF wd ⟨(w.heap.size + 2), 1, none⟩ (.int .i64 x1) ∧ CellF wd ⟨(w.heap.size + 2), 2, none⟩ (.int .i64 x2) ∧ CellF wd ⟨(w.heap.size + 2), 3, none⟩ (.int .i64 x3)) ∧ Hid (CellF wd ⟨ba, 0, none⟩ (.int .i64 a1) ∧ CellF wd ⟨ba, 1, none⟩ (.int .i64 a2) ∧ CellF wd ⟨ba, 2, none⟩ (.bool a3)) ∧ Hid (CellF wd ⟨bb, 0, none⟩ (.int .i64 b1) ∧ CellF wd ⟨bb, 1, none⟩ (.int .i64 b2) ∧ CellF wd ⟨bb, 2, none⟩ (.bool b3)) ∧ Hid (SpanAt wd bc c1 c2 c3) ∧ Hid (SpanAt wd bd d1 d2 d3))
        case first =>
          refine wp_region_inv (by kernel_rfl) (fun ls ac w' => ∃ v9 v10 v57 v58 v59 v60 v61 v62 v63 v64 v65 v66 v67 v68 v69 v70 v71 v72, ac = ⟨#[.agg #[.int .i64 m1, .int .i64 n1, .int .i64 g1], .agg #[.int .i64 m2, .int .i64 n2, .int .i64 g2], .agg #[.int .i64 x0, .int .i64 x1, .int .i64 x2, .int .i64 x3], .pointer (some ⟨w.heap.size, 0, none⟩), .pointer (some ⟨w.heap.size + 1, 0, none⟩), .pointer (some ⟨w.heap.size + 2, 0, none⟩), .bool false, .pointer (some ⟨ba, 0, none⟩), .pointer (some ⟨bb, 0, none⟩), v9, v10, u11, u12, u13, u14, u15, u16, u17, u18, u19, u20, u21, u22, u23, u24, u25, u26, u27, u28, u29, u30, u31, u32, u33, u34, u35, u36, u37, u38, u39, u40, u41, u42, u43, u44, u45, u46, u47, u48, u49, u50, u51, u52, u53, u54, u55, u56, v57, v58, v59, v60, v61, v62, v63, v64, v65, v66, v67, v68, v69, v70, v71, v72, u73, u74, u75, u76, u77, u78, u79, u80, u81, u82, u83], []⟩ ∧ ls.size = 20 ∧ Below wc.heap.size wc w' ∧ (ls.getD 0 false = true → v57 = .agg #[.int .i64 m1, .int .i64 n1, .int .i64 g1]) ∧ (ls.getD 1 false = true → v58 = .pointer (some ⟨w.heap.size + 2, 0, none⟩)) ∧ (ls.getD 2 false = true → v59 = .int .i64 x0) ∧ (ls.getD 3 false = true → v60 = .pointer (some ⟨w.heap.size + 2, 1, none⟩)) ∧ (ls.getD 4 false = true → v61 = .int .i64 x1) ∧ (ls.getD 5 false = true → v62 = .pointer (some ⟨w.heap.size + 2, 2, none⟩)) ∧ (ls.getD 6 false = true → v63 = .int .i64 x2) ∧ (ls.getD 7 false = true → v64 = .agg #[.int .i64 c1, .int .i64 c2, .bool c3]) ∧ (ls.getD 8 false = true → v65 = .agg #[.int .i64 m2, .int .i64 n2, .int .i64 g2]) ∧ (ls.getD 9 false = true → v66 = .pointer (some ⟨w.heap.size + 2, 0, none⟩)) ∧ (ls.getD 10 false = true → v67 = .int .i64 x0) ∧ (ls.getD 11 false = true → v68 = .pointer (some ⟨w.heap.size + 2, 1, none⟩)) ∧ (ls.getD 12 false = true → v69 = .int .i64 x1) ∧ (ls.getD 13 false = true → v70 = .pointer (some ⟨w.heap.size + 2, 2, none⟩)) ∧ (ls.getD 14 false = true → v71 = .int .i64 x2) ∧ (ls.getD 15 false = true → v72 = .agg #[.int .i64 d1, .int .i64 d2, .bool d3]) ∧ (ls.getD 16 false = true → ∃ b, v9 = .pointer (some ⟨b, 0, none⟩) ∧ wc.heap.size ≤ b ∧ (ls.getD 17 false = true → v10 ≠ .pointer (some ⟨b, 0, none⟩)) ∧ (ls.getD 18 false = false → SpanAt w' b 0 0 false) ∧ (ls.getD 18 false = true → SpanAt w' b c1 c2 c3)) ∧ (ls.getD 17 false = true → ∃ b, v10 = .pointer (some ⟨b, 0, none⟩) ∧ wc.heap.size ≤ b ∧ (ls.getD 19 false = false → SpanAt w' b 0 0 false) ∧ (ls.getD 19 false = true → SpanAt w' b d1 d2 d3)) ∧ (ls.getD 18 false = true → ls.getD 16 false = true) ∧ (ls.getD 19 false = true → ls.getD 17 false = true)) ?_ ?_ ?_
          · exact ⟨_, _, _, _, _, _, _, _, _, _, _, _, _, _, _, _, _, _, rfl, rfl, bdrew (brefl _), fun h => (by cases h), fun h => (by cases h), fun h => (by cases h), fun h => (by cases h), fun h => (by cases h), fun h => (by cases h), fun h => (by cases h), fun h => (by cases h), fun h => (by cases h), fun h => (by cases h), fun h => (by cases h), fun h => (by cases h), fun h => (by cases h), fun h => (by cases h), fun h => (by cases h), fun h => (by cases h), fun h => (by cases h), fun h => (by cases h), fun h => (by cases h), fun h => (by cases h)⟩
          · intro i hii
            have hin : i < 20 := hii
            have hor : i = 0 ∨ i = 1 ∨ i = 2 ∨ i = 3 ∨ i = 4 ∨ i = 5 ∨ i = 6 ∨ i = 7 ∨ i = 8 ∨ i = 9 ∨ i = 10 ∨ i = 11 ∨ i = 12 ∨ i = 13 ∨ i = 14 ∨ i = 15 ∨ i = 16 ∨ i = 17 ∨ i = 18 ∨ i = 19 := by omega
            rcases hor with rfl | rfl | rfl | rfl | rfl | rfl | rfl | rfl | rfl | rfl | rfl | rfl | rfl | rfl | rfl | rfl | rfl | rfl | rfl | rfl
            · rintro ls ac w' hr ⟨v9, v10, v57, v58, v59, v60, v61, v62, v63, v64, v65, v66, v67, v68, v69, v70, v71, v72, rfl, hl, hB, zg0, zg1, zg2, zg3, zg4, zg5, zg6, zg7, zg8, zg9, zg10, zg11, zg12, zg13, zg14, zg15, zh1, zh2, zk1, zk2⟩
              have a0 := (hB.cell (ltc cHA0_0)).trans cHA0_0
              have a1 := (hB.cell (ltc cHA0_1)).trans cHA0_1
              have a2 := (hB.cell (ltc cHA0_2)).trans cHA0_2
              have a3 := (hB.cell (ltc cHA1_0)).trans cHA1_0
              have a4 := (hB.cell (ltc cHA1_1)).trans cHA1_1
              have a5 := (hB.cell (ltc cHA1_2)).trans cHA1_2
              have a6 := (hB.cell (ltc cHA2_0)).trans cHA2_0
              have a7 := (hB.cell (ltc cHA2_1)).trans cHA2_1
              have a8 := (hB.cell (ltc cHA2_2)).trans cHA2_2
              have a9 := (hB.cell (ltc cHA2_3)).trans cHA2_3
              have a10 := (hB.cell (ltc cXA0_0)).trans cXA0_0
              have a11 := (hB.cell (ltc cXA0_1)).trans cXA0_1
              have a12 := (hB.cell (ltc cXA0_2)).trans cXA0_2
              have a13 := (hB.cell (ltc cXA1_0)).trans cXA1_0
              have a14 := (hB.cell (ltc cXA1_1)).trans cXA1_1
              have a15 := (hB.cell (ltc cXA1_2)).trans cXA1_2
              refine wpOp_step rfl (fun K hK => ?_)
              clear hr
              go_simp
              refine hK _ _ ?_
              simp only [getD_own (l := ls) (i := 0) (by omega), getD_set ls (i := 0) (j := 1) (by decide), getD_set ls (i := 0) (j := 2) (by decide), getD_set ls (i := 0) (j := 3) (by decide), getD_set ls (i := 0) (j := 4) (by decide), getD_set ls (i := 0) (j := 5) (by decide), getD_set ls (i := 0) (j := 6) (by decide), getD_set ls (i := 0) (j := 7) (by decide), getD_set ls (i := 0) (j := 8) (by decide), getD_set ls (i := 0) (j := 9) (by decide), getD_set ls (i := 0) (j := 10) (by decide), getD_set ls (i := 0) (j := 11) (by decide), getD_set ls (i := 0) (j := 12) (by decide), getD_set ls (i := 0) (j := 13) (by decide), getD_set ls (i := 0) (j := 14) (by decide), getD_set ls (i := 0) (j := 15) (by decide), getD_set ls (i := 0) (j := 16) (by decide), getD_set ls (i := 0) (j := 17) (by decide), getD_set ls (i := 0) (j := 18) (by decide), getD_set ls (i := 0) (j := 19) (by decide)]
              exact ⟨v9, v10, _, v58, v59, v60, v61, v62, v63, v64, v65, v66, v67, v68, v69, v70, v71, v72, rfl, by simp [hl], hB, fun _ => rfl, zg1, zg2, zg3, zg4, zg5, zg6, zg7, zg8, zg9, zg10, zg11, zg12, zg13, zg14, zg15, zh1, zh2, zk1, zk2⟩
            · rintro ls ac w' hr ⟨v9, v10, v57, v58, v59, v60, v61, v62, v63, v64, v65, v66, v67, v68, v69, v70, v71, v72, rfl, hl, hB, zg0, zg1, zg2, zg3, zg4, zg5, zg6, zg7, zg8, zg9, zg10, zg11, zg12, zg13, zg14, zg15, zh1, zh2, zk1, zk2⟩
              refine wpOp_step rfl (fun K hK => ?_)
              clear hr
              go_simp
              refine hK _ _ ?_
              simp only [getD_own (l := ls) (i := 1) (by omega), getD_set ls (i := 1) (j := 0) (by decide), getD_set ls (i := 1) (j := 2) (by decide), getD_set ls (i := 1) (j := 3) (by decide), getD_set ls (i := 1) (j := 4) (by decide), getD_set ls (i := 1) (j := 5) (by decide), getD_set ls (i := 1) (j := 6) (by decide), getD_set ls (i := 1) (j := 7) (by decide), getD_set ls (i := 1) (j := 8) (by decide), getD_set ls (i := 1) (j := 9) (by decide), getD_set ls (i := 1) (j := 10) (by decide), getD_set ls (i := 1) (j := 11) (by decide), getD_set ls (i := 1) (j := 12) (by decide), getD_set ls (i := 1) (j := 13) (by decide), getD_set ls (i := 1) (j := 14) (by decide), getD_set ls (i := 1) (j := 15) (by decide), getD_set ls (i := 1) (j := 16) (by decide), getD_set ls (i := 1) (j := 17) (by decide), getD_set ls (i := 1) (j := 18) (by decide), getD_set ls (i := 1) (j := 19) (by decide)]
              exact ⟨v9, v10, v57, _, v59, v60, v61, v62, v63, v64, v65, v66, v67, v68, v69, v70, v71, v72, rfl, by simp [hl], hB, zg0, fun _ => rfl, zg2, zg3, zg4, zg5, zg6, zg7, zg8, zg9, zg10, zg11, zg12, zg13, zg14, zg15, zh1, zh2, zk1, zk2⟩
            · rintro ls ac w' hr ⟨v9, v10, v57, v58, v59, v60, v61, v62, v63, v64, v65, v66, v67, v68, v69, v70, v71, v72, rfl, hl, hB, zg0, zg1, zg2, zg3, zg4, zg5, zg6, zg7, zg8, zg9, zg10, zg11, zg12, zg13, zg14, zg15, zh1, zh2, zk1, zk2⟩
              have zd1 : ls.getD 1 false = true := (ready_dep hr rfl).2 ⟨1, .data⟩ (by simp) rfl
              obtain rfl := zg1 zd1
              have a0 := (hB.cell (ltc cHA0_0)).trans cHA0_0
              have a1 := (hB.cell (ltc cHA0_1)).trans cHA0_1
              have a2 := (hB.cell (ltc cHA0_2)).trans cHA0_2
              have a3 := (hB.cell (ltc cHA1_0)).trans cHA1_0
              have a4 := (hB.cell (ltc cHA1_1)).trans cHA1_1
              have a5 := (hB.cell (ltc cHA1_2)).trans cHA1_2
              have a6 := (hB.cell (ltc cHA2_0)).trans cHA2_0
              have a7 := (hB.cell (ltc cHA2_1)).trans cHA2_1
              have a8 := (hB.cell (ltc cHA2_2)).trans cHA2_2
              have a9 := (hB.cell (ltc cHA2_3)).trans cHA2_3
              have a10 := (hB.cell (ltc cXA0_0)).trans cXA0_0
              have a11 := (hB.cell (ltc cXA0_1)).trans cXA0_1
              have a12 := (hB.cell (ltc cXA0_2)).trans cXA0_2
              have a13 := (hB.cell (ltc cXA1_0)).trans cXA1_0
              have a14 := (hB.cell (ltc cXA1_1)).trans cXA1_1
              have a15 := (hB.cell (ltc cXA1_2)).trans cXA1_2
              refine wpOp_step rfl (fun K hK => ?_)
              clear hr
              go_simp
              refine hK _ _ ?_
              simp only [getD_own (l := ls) (i := 2) (by omega), getD_set ls (i := 2) (j := 0) (by decide), getD_set ls (i := 2) (j := 1) (by decide), getD_set ls (i := 2) (j := 3) (by decide), getD_set ls (i := 2) (j := 4) (by decide), getD_set ls (i := 2) (j := 5) (by decide), getD_set ls (i := 2) (j := 6) (by decide), getD_set ls (i := 2) (j := 7) (by decide), getD_set ls (i := 2) (j := 8) (by decide), getD_set ls (i := 2) (j := 9) (by decide), getD_set ls (i := 2) (j := 10) (by decide), getD_set ls (i := 2) (j := 11) (by decide), getD_set ls (i := 2) (j := 12) (by decide), getD_set ls (i := 2) (j := 13) (by decide), getD_set ls (i := 2) (j := 14) (by decide), getD_set ls (i := 2) (j := 15) (by decide), getD_set ls (i := 2) (j := 16) (by decide), getD_set ls (i := 2) (j := 17) (by decide), getD_set ls (i := 2) (j := 18) (by decide), getD_set ls (i := 2) (j := 19) (by decide)]
              exact ⟨v9, v10, v57, _, _, v60, v61, v62, v63, v64, v65, v66, v67, v68, v69, v70, v71, v72, rfl, by simp [hl], hB, zg0, fun _ => rfl, fun _ => rfl, zg3, zg4, zg5, zg6, zg7, zg8, zg9, zg10, zg11, zg12, zg13, zg14, zg15, zh1, zh2, zk1, zk2⟩
            · rintro ls ac w' hr ⟨v9, v10, v57, v58, v59, v60, v61, v62, v63, v64, v65, v66, v67, v68, v69, v70, v71, v72, rfl, hl, hB, zg0, zg1, zg2, zg3, zg4, zg5, zg6, zg7, zg8, zg9, zg10, zg11, zg12, zg13, zg14, zg15, zh1, zh2, zk1, zk2⟩
              refine wpOp_step rfl (fun K hK => ?_)
              clear hr
              go_simp
              refine hK _ _ ?_
              simp only [getD_own (l := ls) (i := 3) (by omega), getD_set ls (i := 3) (j := 0) (by decide), getD_set ls (i := 3) (j := 1) (by decide), getD_set ls (i := 3) (j := 2) (by decide), getD_set ls (i := 3) (j := 4) (by decide), getD_set ls (i := 3) (j := 5) (by decide), getD_set ls (i := 3) (j := 6) (by decide), getD_set ls (i := 3) (j := 7) (by decide), getD_set ls (i := 3) (j := 8) (by decide), getD_set ls (i := 3) (j := 9) (by decide), getD_set ls (i := 3) (j := 10) (by decide), getD_set ls (i := 3) (j := 11) (by decide), getD_set ls (i := 3) (j := 12) (by decide), getD_set ls (i := 3) (j := 13) (by decide), getD_set ls (i := 3) (j := 14) (by decide), getD_set ls (i := 3) (j := 15) (by decide), getD_set ls (i := 3) (j := 16) (by decide), getD_set ls (i := 3) (j := 17) (by decide), getD_set ls (i := 3) (j := 18) (by decide), getD_set ls (i := 3) (j := 19) (by decide)]
              exact ⟨v9, v10, v57, v58, v59, _, v61, v62, v63, v64, v65, v66, v67, v68, v69, v70, v71, v72, rfl, by simp [hl], hB, zg0, zg1, zg2, fun _ => rfl, zg4, zg5, zg6, zg7, zg8, zg9, zg10, zg11, zg12, zg13, zg14, zg15, zh1, zh2, zk1, zk2⟩
            · rintro ls ac w' hr ⟨v9, v10, v57, v58, v59, v60, v61, v62, v63, v64, v65, v66, v67, v68, v69, v70, v71, v72, rfl, hl, hB, zg0, zg1, zg2, zg3, zg4, zg5, zg6, zg7, zg8, zg9, zg10, zg11, zg12, zg13, zg14, zg15, zh1, zh2, zk1, zk2⟩
              have zd3 : ls.getD 3 false = true := (ready_dep hr rfl).2 ⟨3, .data⟩ (by simp) rfl
              obtain rfl := zg3 zd3
              have a0 := (hB.cell (ltc cHA0_0)).trans cHA0_0
              have a1 := (hB.cell (ltc cHA0_1)).trans cHA0_1
              have a2 := (hB.cell (ltc cHA0_2)).trans cHA0_2
              have a3 := (hB.cell (ltc cHA1_0)).trans cHA1_0
              have a4 := (hB.cell (ltc cHA1_1)).trans cHA1_1
              have a5 := (hB.cell (ltc cHA1_2)).trans cHA1_2
              have a6 := (hB.cell (ltc cHA2_0)).trans cHA2_0
              have a7 := (hB.cell (ltc cHA2_1)).trans cHA2_1
              have a8 := (hB.cell (ltc cHA2_2)).trans cHA2_2
              have a9 := (hB.cell (ltc cHA2_3)).trans cHA2_3
              have a10 := (hB.cell (ltc cXA0_0)).trans cXA0_0
              have a11 := (hB.cell (ltc cXA0_1)).trans cXA0_1
              have a12 := (hB.cell (ltc cXA0_2)).trans cXA0_2
              have a13 := (hB.cell (ltc cXA1_0)).trans cXA1_0
              have a14 := (hB.cell (ltc cXA1_1)).trans cXA1_1
              have a15 := (hB.cell (ltc cXA1_2)).trans cXA1_2
              refine wpOp_step rfl (fun K hK => ?_)
              clear hr
              go_simp
              refine hK _ _ ?_
              simp only [getD_own (l := ls) (i := 4) (by omega), getD_set ls (i := 4) (j := 0) (by decide), getD_set ls (i := 4) (j := 1) (by decide), getD_set ls (i := 4) (j := 2) (by decide), getD_set ls (i := 4) (j := 3) (by decide), getD_set ls (i := 4) (j := 5) (by decide), getD_set ls (i := 4) (j := 6) (by decide), getD_set ls (i := 4) (j := 7) (by decide), getD_set ls (i := 4) (j := 8) (by decide), getD_set ls (i := 4) (j := 9) (by decide), getD_set ls (i := 4) (j := 10) (by decide), getD_set ls (i := 4) (j := 11) (by decide), getD_set ls (i := 4) (j := 12) (by decide), getD_set ls (i := 4) (j := 13) (by decide), getD_set ls (i := 4) (j := 14) (by decide), getD_set ls (i := 4) (j := 15) (by decide), getD_set ls (i := 4) (j := 16) (by decide), getD_set ls (i := 4) (j := 17) (by decide), getD_set ls (i := 4) (j := 18) (by decide), getD_set ls (i := 4) (j := 19) (by decide)]
              exact ⟨v9, v10, v57, v58, v59, _, _, v62, v63, v64, v65, v66, v67, v68, v69, v70, v71, v72, rfl, by simp [hl], hB, zg0, zg1, zg2, fun _ => rfl, fun _ => rfl, zg5, zg6, zg7, zg8, zg9, zg10, zg11, zg12, zg13, zg14, zg15, zh1, zh2, zk1, zk2⟩
            · rintro ls ac w' hr ⟨v9, v10, v57, v58, v59, v60, v61, v62, v63, v64, v65, v66, v67, v68, v69, v70, v71, v72, rfl, hl, hB, zg0, zg1, zg2, zg3, zg4, zg5, zg6, zg7, zg8, zg9, zg10, zg11, zg12, zg13, zg14, zg15, zh1, zh2, zk1, zk2⟩
              refine wpOp_step rfl (fun K hK => ?_)
              clear hr
              go_simp
              refine hK _ _ ?_
              simp only [getD_own (l := ls) (i := 5) (by omega), getD_set ls (i := 5) (j := 0) (by decide), getD_set ls (i := 5) (j := 1) (by decide), getD_set ls (i := 5) (j := 2) (by decide), getD_set ls (i := 5) (j := 3) (by decide), getD_set ls (i := 5) (j := 4) (by decide), getD_set ls (i := 5) (j := 6) (by decide), getD_set ls (i := 5) (j := 7) (by decide), getD_set ls (i := 5) (j := 8) (by decide), getD_set ls (i := 5) (j := 9) (by decide), getD_set ls (i := 5) (j := 10) (by decide), getD_set ls (i := 5) (j := 11) (by decide), getD_set ls (i := 5) (j := 12) (by decide), getD_set ls (i := 5) (j := 13) (by decide), getD_set ls (i := 5) (j := 14) (by decide), getD_set ls (i := 5) (j := 15) (by decide), getD_set ls (i := 5) (j := 16) (by decide), getD_set ls (i := 5) (j := 17) (by decide), getD_set ls (i := 5) (j := 18) (by decide), getD_set ls (i := 5) (j := 19) (by decide)]
              exact ⟨v9, v10, v57, v58, v59, v60, v61, _, v63, v64, v65, v66, v67, v68, v69, v70, v71, v72, rfl, by simp [hl], hB, zg0, zg1, zg2, zg3, zg4, fun _ => rfl, zg6, zg7, zg8, zg9, zg10, zg11, zg12, zg13, zg14, zg15, zh1, zh2, zk1, zk2⟩
            · rintro ls ac w' hr ⟨v9, v10, v57, v58, v59, v60, v61, v62, v63, v64, v65, v66, v67, v68, v69, v70, v71, v72, rfl, hl, hB, zg0, zg1, zg2, zg3, zg4, zg5, zg6, zg7, zg8, zg9, zg10, zg11, zg12, zg13, zg14, zg15, zh1, zh2, zk1, zk2⟩
              have zd5 : ls.getD 5 false = true := (ready_dep hr rfl).2 ⟨5, .data⟩ (by simp) rfl
              obtain rfl := zg5 zd5
              have a0 := (hB.cell (ltc cHA0_0)).trans cHA0_0
              have a1 := (hB.cell (ltc cHA0_1)).trans cHA0_1
              have a2 := (hB.cell (ltc cHA0_2)).trans cHA0_2
              have a3 := (hB.cell (ltc cHA1_0)).trans cHA1_0
              have a4 := (hB.cell (ltc cHA1_1)).trans cHA1_1
              have a5 := (hB.cell (ltc cHA1_2)).trans cHA1_2
              have a6 := (hB.cell (ltc cHA2_0)).trans cHA2_0
              have a7 := (hB.cell (ltc cHA2_1)).trans cHA2_1
              have a8 := (hB.cell (ltc cHA2_2)).trans cHA2_2
              have a9 := (hB.cell (ltc cHA2_3)).trans cHA2_3
              have a10 := (hB.cell (ltc cXA0_0)).trans cXA0_0
              have a11 := (hB.cell (ltc cXA0_1)).trans cXA0_1
              have a12 := (hB.cell (ltc cXA0_2)).trans cXA0_2
              have a13 := (hB.cell (ltc cXA1_0)).trans cXA1_0
              have a14 := (hB.cell (ltc cXA1_1)).trans cXA1_1
              have a15 := (hB.cell (ltc cXA1_2)).trans cXA1_2
              refine wpOp_step rfl (fun K hK => ?_)
              clear hr
              go_simp
              refine hK _ _ ?_
              simp only [getD_own (l := ls) (i := 6) (by omega), getD_set ls (i := 6) (j := 0) (by decide), getD_set ls (i := 6) (j := 1) (by decide), getD_set ls (i := 6) (j := 2) (by decide), getD_set ls (i := 6) (j := 3) (by decide), getD_set ls (i := 6) (j := 4) (by decide), getD_set ls (i := 6) (j := 5) (by decide), getD_set ls (i := 6) (j := 7) (by decide), getD_set ls (i := 6) (j := 8) (by decide), getD_set ls (i := 6) (j := 9) (by decide), getD_set ls (i := 6) (j := 10) (by decide), getD_set ls (i := 6) (j := 11) (by decide), getD_set ls (i := 6) (j := 12) (by decide), getD_set ls (i := 6) (j := 13) (by decide), getD_set ls (i := 6) (j := 14) (by decide), getD_set ls (i := 6) (j := 15) (by decide), getD_set ls (i := 6) (j := 16) (by decide), getD_set ls (i := 6) (j := 17) (by decide), getD_set ls (i := 6) (j := 18) (by decide), getD_set ls (i := 6) (j := 19) (by decide)]
              exact ⟨v9, v10, v57, v58, v59, v60, v61, _, _, v64, v65, v66, v67, v68, v69, v70, v71, v72, rfl, by simp [hl], hB, zg0, zg1, zg2, zg3, zg4, fun _ => rfl, fun _ => rfl, zg7, zg8, zg9, zg10, zg11, zg12, zg13, zg14, zg15, zh1, zh2, zk1, zk2⟩
            · rintro ls ac w' hr ⟨v9, v10, v57, v58, v59, v60, v61, v62, v63, v64, v65, v66, v67, v68, v69, v70, v71, v72, rfl, hl, hB, zg0, zg1, zg2, zg3, zg4, zg5, zg6, zg7, zg8, zg9, zg10, zg11, zg12, zg13, zg14, zg15, zh1, zh2, zk1, zk2⟩
              have zd0 : ls.getD 0 false = true := (ready_dep hr rfl).2 ⟨0, .data⟩ (by simp) rfl
              have zd2 : ls.getD 2 false = true := (ready_dep hr rfl).2 ⟨2, .data⟩ (by simp) rfl
              have zd4 : ls.getD 4 false = true := (ready_dep hr rfl).2 ⟨4, .data⟩ (by simp) rfl
              have zd6 : ls.getD 6 false = true := (ready_dep hr rfl).2 ⟨6, .data⟩ (by simp) rfl
              obtain rfl := zg0 zd0
              obtain rfl := zg2 zd2
              obtain rfl := zg4 zd4
              obtain rfl := zg6 zd6
              refine wpOp_step rfl (fun K hK => ?_)
              clear hr
              go_simp
              refine (Req_is _ _ _ _ _ _ _ _ _ hx1 Hc _).mono ?_
              rintro e w1 ⟨rfl, hk⟩
              dsimp only
              refine hK _ _ ?_
              simp only [getD_own (l := ls) (i := 7) (by omega), getD_set ls (i := 7) (j := 0) (by decide), getD_set ls (i := 7) (j := 1) (by decide), getD_set ls (i := 7) (j := 2) (by decide), getD_set ls (i := 7) (j := 3) (by decide), getD_set ls (i := 7) (j := 4) (by decide), getD_set ls (i := 7) (j := 5) (by decide), getD_set ls (i := 7) (j := 6) (by decide), getD_set ls (i := 7) (j := 8) (by decide), getD_set ls (i := 7) (j := 9) (by decide), getD_set ls (i := 7) (j := 10) (by decide), getD_set ls (i := 7) (j := 11) (by decide), getD_set ls (i := 7) (j := 12) (by decide), getD_set ls (i := 7) (j := 13) (by decide), getD_set ls (i := 7) (j := 14) (by decide), getD_set ls (i := 7) (j := 15) (by decide), getD_set ls (i := 7) (j := 16) (by decide), getD_set ls (i := 7) (j := 17) (by decide), getD_set ls (i := 7) (j := 18) (by decide), getD_set ls (i := 7) (j := 19) (by decide)]
              exact ⟨v9, v10, _, v58, _, v60, _, v62, _, _, v65, v66, v67, v68, v69, v70, v71, v72, rfl, by simp [hl], bstep hB hk, fun _ => rfl, zg1, fun _ => rfl, zg3, fun _ => rfl, zg5, fun _ => rfl, fun _ => rfl, zg8, zg9, zg10, zg11, zg12, zg13, zg14, zg15, fun h => (by obtain ⟨b, e1, e2, e3, e4, e5⟩ := zh1 h; exact ⟨b, e1, e2, e3, fun h => (e4 h).keep hk, fun h => (e5 h).keep hk⟩), fun h => (by obtain ⟨b, e1, e2, e4, e5⟩ := zh2 h; exact ⟨b, e1, e2, fun h => (e4 h).keep hk, fun h => (e5 h).keep hk⟩), zk1, zk2⟩
            · rintro ls ac w' hr ⟨v9, v10, v57, v58, v59, v60, v61, v62, v63, v64, v65, v66, v67, v68, v69, v70, v71, v72, rfl, hl, hB, zg0, zg1, zg2, zg3, zg4, zg5, zg6, zg7, zg8, zg9, zg10, zg11, zg12, zg13, zg14, zg15, zh1, zh2, zk1, zk2⟩
              have a0 := (hB.cell (ltc cHA0_0)).trans cHA0_0
              have a1 := (hB.cell (ltc cHA0_1)).trans cHA0_1
              have a2 := (hB.cell (ltc cHA0_2)).trans cHA0_2
              have a3 := (hB.cell (ltc cHA1_0)).trans cHA1_0
              have a4 := (hB.cell (ltc cHA1_1)).trans cHA1_1
              have a5 := (hB.cell (ltc cHA1_2)).trans cHA1_2
              have a6 := (hB.cell (ltc cHA2_0)).trans cHA2_0
              have a7 := (hB.cell (ltc cHA2_1)).trans cHA2_1
              have a8 := (hB.cell (ltc cHA2_2)).trans cHA2_2
              have a9 := (hB.cell (ltc cHA2_3)).trans cHA2_3
              have a10 := (hB.cell (ltc cXA0_0)).trans cXA0_0
              have a11 := (hB.cell (ltc cXA0_1)).trans cXA0_1
              have a12 := (hB.cell (ltc cXA0_2)).trans cXA0_2
              have a13 := (hB.cell (ltc cXA1_0)).trans cXA1_0
              have a14 := (hB.cell (ltc cXA1_1)).trans cXA1_1
              have a15 := (hB.cell (ltc cXA1_2)).trans cXA1_2
              refine wpOp_step rfl (fun K hK => ?_)
              clear hr
              go_simp
              refine hK _ _ ?_
              simp only [getD_own (l := ls) (i := 8) (by omega), getD_set ls (i := 8) (j := 0) (by decide), getD_set ls (i := 8) (j := 1) (by decide), getD_set ls (i := 8) (j := 2) (by decide), getD_set ls (i := 8) (j := 3) (by decide), getD_set ls (i := 8) (j := 4) (by decide), getD_set ls (i := 8) (j := 5) (by decide), getD_set ls (i := 8) (j := 6) (by decide), getD_set ls (i := 8) (j := 7) (by decide), getD_set ls (i := 8) (j := 9) (by decide), getD_set ls (i := 8) (j := 10) (by decide), getD_set ls (i := 8) (j := 11) (by decide), getD_set ls (i := 8) (j := 12) (by decide), getD_set ls (i := 8) (j := 13) (by decide), getD_set ls (i := 8) (j := 14) (by decide), getD_set ls (i := 8) (j := 15) (by decide), getD_set ls (i := 8) (j := 16) (by decide), getD_set ls (i := 8) (j := 17) (by decide), getD_set ls (i := 8) (j := 18) (by decide), getD_set ls (i := 8) (j := 19) (by decide)]
              exact ⟨v9, v10, v57, v58, v59, v60, v61, v62, v63, v64, _, v66, v67, v68, v69, v70, v71, v72, rfl, by simp [hl], hB, zg0, zg1, zg2, zg3, zg4, zg5, zg6, zg7, fun _ => rfl, zg9, zg10, zg11, zg12, zg13, zg14, zg15, zh1, zh2, zk1, zk2⟩
            · rintro ls ac w' hr ⟨v9, v10, v57, v58, v59, v60, v61, v62, v63, v64, v65, v66, v67, v68, v69, v70, v71, v72, rfl, hl, hB, zg0, zg1, zg2, zg3, zg4, zg5, zg6, zg7, zg8, zg9, zg10, zg11, zg12, zg13, zg14, zg15, zh1, zh2, zk1, zk2⟩
              refine wpOp_step rfl (fun K hK => ?_)
              clear hr
              go_simp
              refine hK _ _ ?_
              simp only [getD_own (l := ls) (i := 9) (by omega), getD_set ls (i := 9) (j := 0) (by decide), getD_set ls (i := 9) (j := 1) (by decide), getD_set ls (i := 9) (j := 2) (by decide), getD_set ls (i := 9) (j := 3) (by decide), getD_set ls (i := 9) (j := 4) (by decide), getD_set ls (i := 9) (j := 5) (by decide), getD_set ls (i := 9) (j := 6) (by decide), getD_set ls (i := 9) (j := 7) (by decide), getD_set ls (i := 9) (j := 8) (by decide), getD_set ls (i := 9) (j := 10) (by decide), getD_set ls (i := 9) (j := 11) (by decide), getD_set ls (i := 9) (j := 12) (by decide), getD_set ls (i := 9) (j := 13) (by decide), getD_set ls (i := 9) (j := 14) (by decide), getD_set ls (i := 9) (j := 15) (by decide), getD_set ls (i := 9) (j := 16) (by decide), getD_set ls (i := 9) (j := 17) (by decide), getD_set ls (i := 9) (j := 18) (by decide), getD_set ls (i := 9) (j := 19) (by decide)]
              exact ⟨v9, v10, v57, v58, v59, v60, v61, v62, v63, v64, v65, _, v67, v68, v69, v70, v71, v72, rfl, by simp [hl], hB, zg0, zg1, zg2, zg3, zg4, zg5, zg6, zg7, zg8, fun _ => rfl, zg10, zg11, zg12, zg13, zg14, zg15, zh1, zh2, zk1, zk2⟩
            · rintro ls ac w' hr ⟨v9, v10, v57, v58, v59, v60, v61, v62, v63, v64, v65, v66, v67, v68, v69, v70, v71, v72, rfl, hl, hB, zg0, zg1, zg2, zg3, zg4, zg5, zg6, zg7, zg8, zg9, zg10, zg11, zg12, zg13, zg14, zg15, zh1, zh2, zk1, zk2⟩
              have zd9 : ls.getD 9 false = true := (ready_dep hr rfl).2 ⟨9, .data⟩ (by simp) rfl
              obtain rfl := zg9 zd9
              have a0 := (hB.cell (ltc cHA0_0)).trans cHA0_0
              have a1 := (hB.cell (ltc cHA0_1)).trans cHA0_1
              have a2 := (hB.cell (ltc cHA0_2)).trans cHA0_2
              have a3 := (hB.cell (ltc cHA1_0)).trans cHA1_0
              have a4 := (hB.cell (ltc cHA1_1)).trans cHA1_1
              have a5 := (hB.cell (ltc cHA1_2)).trans cHA1_2
              have a6 := (hB.cell (ltc cHA2_0)).trans cHA2_0
              have a7 := (hB.cell (ltc cHA2_1)).trans cHA2_1
              have a8 := (hB.cell (ltc cHA2_2)).trans cHA2_2
              have a9 := (hB.cell (ltc cHA2_3)).trans cHA2_3
              have a10 := (hB.cell (ltc cXA0_0)).trans cXA0_0
              have a11 := (hB.cell (ltc cXA0_1)).trans cXA0_1
              have a12 := (hB.cell (ltc cXA0_2)).trans cXA0_2
              have a13 := (hB.cell (ltc cXA1_0)).trans cXA1_0
              have a14 := (hB.cell (ltc cXA1_1)).trans cXA1_1
              have a15 := (hB.cell (ltc cXA1_2)).trans cXA1_2
              refine wpOp_step rfl (fun K hK => ?_)
              clear hr
              go_simp
              refine hK _ _ ?_
              simp only [getD_own (l := ls) (i := 10) (by omega), getD_set ls (i := 10) (j := 0) (by decide), getD_set ls (i := 10) (j := 1) (by decide), getD_set ls (i := 10) (j := 2) (by decide), getD_set ls (i := 10) (j := 3) (by decide), getD_set ls (i := 10) (j := 4) (by decide), getD_set ls (i := 10) (j := 5) (by decide), getD_set ls (i := 10) (j := 6) (by decide), getD_set ls (i := 10) (j := 7) (by decide), getD_set ls (i := 10) (j := 8) (by decide), getD_set ls (i := 10) (j := 9) (by decide), getD_set ls (i := 10) (j := 11) (by decide), getD_set ls (i := 10) (j := 12) (by decide), getD_set ls (i := 10) (j := 13) (by decide), getD_set ls (i := 10) (j := 14) (by decide), getD_set ls (i := 10) (j := 15) (by decide), getD_set ls (i := 10) (j := 16) (by decide), getD_set ls (i := 10) (j := 17) (by decide), getD_set ls (i := 10) (j := 18) (by decide), getD_set ls (i := 10) (j := 19) (by decide)]
              exact ⟨v9, v10, v57, v58, v59, v60, v61, v62, v63, v64, v65, _, _, v68, v69, v70, v71, v72, rfl, by simp [hl], hB, zg0, zg1, zg2, zg3, zg4, zg5, zg6, zg7, zg8, fun _ => rfl, fun _ => rfl, zg11, zg12, zg13, zg14, zg15, zh1, zh2, zk1, zk2⟩
            · rintro ls ac w' hr ⟨v9, v10, v57, v58, v59, v60, v61, v62, v63, v64, v65, v66, v67, v68, v69, v70, v71, v72, rfl, hl, hB, zg0, zg1, zg2, zg3, zg4, zg5, zg6, zg7, zg8, zg9, zg10, zg11, zg12, zg13, zg14, zg15, zh1, zh2, zk1, zk2⟩
              refine wpOp_step rfl (fun K hK => ?_)
              clear hr
              go_simp
              refine hK _ _ ?_
              simp only [getD_own (l := ls) (i := 11) (by omega), getD_set ls (i := 11) (j := 0) (by decide), getD_set ls (i := 11) (j := 1) (by decide), getD_set ls (i := 11) (j := 2) (by decide), getD_set ls (i := 11) (j := 3) (by decide), getD_set ls (i := 11) (j := 4) (by decide), getD_set ls (i := 11) (j := 5) (by decide), getD_set ls (i := 11) (j := 6) (by decide), getD_set ls (i := 11) (j := 7) (by decide), getD_set ls (i := 11) (j := 8) (by decide), getD_set ls (i := 11) (j := 9) (by decide), getD_set ls (i := 11) (j := 10) (by decide), getD_set ls (i := 11) (j := 12) (by decide), getD_set ls (i := 11) (j := 13) (by decide), getD_set ls (i := 11) (j := 14) (by decide), getD_set ls (i := 11) (j := 15) (by decide), getD_set ls (i := 11) (j := 16) (by decide), getD_set ls (i := 11) (j := 17) (by decide), getD_set ls (i := 11) (j := 18) (by decide), getD_set ls (i := 11) (j := 19) (by decide)]
              exact ⟨v9, v10, v57, v58, v59, v60, v61, v62, v63, v64, v65, v66, v67, _, v69, v70, v71, v72, rfl, by simp [hl], hB, zg0, zg1, zg2, zg3, zg4, zg5, zg6, zg7, zg8, zg9, zg10, fun _ => rfl, zg12, zg13, zg14, zg15, zh1, zh2, zk1, zk2⟩
            · rintro ls ac w' hr ⟨v9, v10, v57, v58, v59, v60, v61, v62, v63, v64, v65, v66, v67, v68, v69, v70, v71, v72, rfl, hl, hB, zg0, zg1, zg2, zg3, zg4, zg5, zg6, zg7, zg8, zg9, zg10, zg11, zg12, zg13, zg14, zg15, zh1, zh2, zk1, zk2⟩
              have zd11 : ls.getD 11 false = true := (ready_dep hr rfl).2 ⟨11, .data⟩ (by simp) rfl
              obtain rfl := zg11 zd11
              have a0 := (hB.cell (ltc cHA0_0)).trans cHA0_0
              have a1 := (hB.cell (ltc cHA0_1)).trans cHA0_1
              have a2 := (hB.cell (ltc cHA0_2)).trans cHA0_2
              have a3 := (hB.cell (ltc cHA1_0)).trans cHA1_0
              have a4 := (hB.cell (ltc cHA1_1)).trans cHA1_1
              have a5 := (hB.cell (ltc cHA1_2)).trans cHA1_2
              have a6 := (hB.cell (ltc cHA2_0)).trans cHA2_0
              have a7 := (hB.cell (ltc cHA2_1)).trans cHA2_1
              have a8 := (hB.cell (ltc cHA2_2)).trans cHA2_2
              have a9 := (hB.cell (ltc cHA2_3)).trans cHA2_3
              have a10 := (hB.cell (ltc cXA0_0)).trans cXA0_0
              have a11 := (hB.cell (ltc cXA0_1)).trans cXA0_1
              have a12 := (hB.cell (ltc cXA0_2)).trans cXA0_2
              have a13 := (hB.cell (ltc cXA1_0)).trans cXA1_0
              have a14 := (hB.cell (ltc cXA1_1)).trans cXA1_1
              have a15 := (hB.cell (ltc cXA1_2)).trans cXA1_2
              refine wpOp_step rfl (fun K hK => ?_)
              clear hr
              go_simp
              refine hK _ _ ?_
              simp only [getD_own (l := ls) (i := 12) (by omega), getD_set ls (i := 12) (j := 0) (by decide), getD_set ls (i := 12) (j := 1) (by decide), getD_set ls (i := 12) (j := 2) (by decide), getD_set ls (i := 12) (j := 3) (by decide), getD_set ls (i := 12) (j := 4) (by decide), getD_set ls (i := 12) (j := 5) (by decide), getD_set ls (i := 12) (j := 6) (by decide), getD_set ls (i := 12) (j := 7) (by decide), getD_set ls (i := 12) (j := 8) (by decide), getD_set ls (i := 12) (j := 9) (by decide), getD_set ls (i := 12) (j := 10) (by decide), getD_set ls (i := 12) (j := 11) (by decide), getD_set ls (i := 12) (j := 13) (by decide), getD_set ls (i := 12) (j := 14) (by decide), getD_set ls (i := 12) (j := 15) (by decide), getD_set ls (i := 12) (j := 16) (by decide), getD_set ls (i := 12) (j := 17) (by decide), getD_set ls (i := 12) (j := 18) (by decide), getD_set ls (i := 12) (j := 19) (by decide)]
              exact ⟨v9, v10, v57, v58, v59, v60, v61, v62, v63, v64, v65, v66, v67, _, _, v70, v71, v72, rfl, by simp [hl], hB, zg0, zg1, zg2, zg3, zg4, zg5, zg6, zg7, zg8, zg9, zg10, fun _ => rfl, fun _ => rfl, zg13, zg14, zg15, zh1, zh2, zk1, zk2⟩
            · rintro ls ac w' hr ⟨v9, v10, v57, v58, v59, v60, v61, v62, v63, v64, v65, v66, v67, v68, v69, v70, v71, v72, rfl, hl, hB, zg0, zg1, zg2, zg3, zg4, zg5, zg6, zg7, zg8, zg9, zg10, zg11, zg12, zg13, zg14, zg15, zh1, zh2, zk1, zk2⟩
              refine wpOp_step rfl (fun K hK => ?_)
              clear hr
              go_simp
              refine hK _ _ ?_
              simp only [getD_own (l := ls) (i := 13) (by omega), getD_set ls (i := 13) (j := 0) (by decide), getD_set ls (i := 13) (j := 1) (by decide), getD_set ls (i := 13) (j := 2) (by decide), getD_set ls (i := 13) (j := 3) (by decide), getD_set ls (i := 13) (j := 4) (by decide), getD_set ls (i := 13) (j := 5) (by decide), getD_set ls (i := 13) (j := 6) (by decide), getD_set ls (i := 13) (j := 7) (by decide), getD_set ls (i := 13) (j := 8) (by decide), getD_set ls (i := 13) (j := 9) (by decide), getD_set ls (i := 13) (j := 10) (by decide), getD_set ls (i := 13) (j := 11) (by decide), getD_set ls (i := 13) (j := 12) (by decide), getD_set ls (i := 13) (j := 14) (by decide), getD_set ls (i := 13) (j := 15) (by decide), getD_set ls (i := 13) (j := 16) (by decide), getD_set ls (i := 13) (j := 17) (by decide), getD_set ls (i := 13) (j := 18) (by decide), getD_set ls (i := 13) (j := 19) (by decide)]
              exact ⟨v9, v10, v57, v58, v59, v60, v61, v62, v63, v64, v65, v66, v67, v68, v69, _, v71, v72, rfl, by simp [hl], hB, zg0, zg1, zg2, zg3, zg4, zg5, zg6, zg7, zg8, zg9, zg10, zg11, zg12, fun _ => rfl, zg14, zg15, zh1, zh2, zk1, zk2⟩
            · rintro ls ac w' hr ⟨v9, v10, v57, v58, v59, v60, v61, v62, v63, v64, v65, v66, v67, v68, v69, v70, v71, v72, rfl, hl, hB, zg0, zg1, zg2, zg3, zg4, zg5, zg6, zg7, zg8, zg9, zg10, zg11, zg12, zg13, zg14, zg15, zh1, zh2, zk1, zk2⟩
              have zd13 : ls.getD 13 false = true := (ready_dep hr rfl).2 ⟨13, .data⟩ (by simp) rfl
              obtain rfl := zg13 zd13
              have a0 := (hB.cell (ltc cHA0_0)).trans cHA0_0
              have a1 := (hB.cell (ltc cHA0_1)).trans cHA0_1
              have a2 := (hB.cell (ltc cHA0_2)).trans cHA0_2
              have a3 := (hB.cell (ltc cHA1_0)).trans cHA1_0
              have a4 := (hB.cell (ltc cHA1_1)).trans cHA1_1
              have a5 := (hB.cell (ltc cHA1_2)).trans cHA1_2
              have a6 := (hB.cell (ltc cHA2_0)).trans cHA2_0
              have a7 := (hB.cell (ltc cHA2_1)).trans cHA2_1
              have a8 := (hB.cell (ltc cHA2_2)).trans cHA2_2
              have a9 := (hB.cell (ltc cHA2_3)).trans cHA2_3
              have a10 := (hB.cell (ltc cXA0_0)).trans cXA0_0
              have a11 := (hB.cell (ltc cXA0_1)).trans cXA0_1
              have a12 := (hB.cell (ltc cXA0_2)).trans cXA0_2
              have a13 := (hB.cell (ltc cXA1_0)).trans cXA1_0
              have a14 := (hB.cell (ltc cXA1_1)).trans cXA1_1
              have a15 := (hB.cell (ltc cXA1_2)).trans cXA1_2
              refine wpOp_step rfl (fun K hK => ?_)
              clear hr
              go_simp
              refine hK _ _ ?_
              simp only [getD_own (l := ls) (i := 14) (by omega), getD_set ls (i := 14) (j := 0) (by decide), getD_set ls (i := 14) (j := 1) (by decide), getD_set ls (i := 14) (j := 2) (by decide), getD_set ls (i := 14) (j := 3) (by decide), getD_set ls (i := 14) (j := 4) (by decide), getD_set ls (i := 14) (j := 5) (by decide), getD_set ls (i := 14) (j := 6) (by decide), getD_set ls (i := 14) (j := 7) (by decide), getD_set ls (i := 14) (j := 8) (by decide), getD_set ls (i := 14) (j := 9) (by decide), getD_set ls (i := 14) (j := 10) (by decide), getD_set ls (i := 14) (j := 11) (by decide), getD_set ls (i := 14) (j := 12) (by decide), getD_set ls (i := 14) (j := 13) (by decide), getD_set ls (i := 14) (j := 15) (by decide), getD_set ls (i := 14) (j := 16) (by decide), getD_set ls (i := 14) (j := 17) (by decide), getD_set ls (i := 14) (j := 18) (by decide), getD_set ls (i := 14) (j := 19) (by decide)]
              exact ⟨v9, v10, v57, v58, v59, v60, v61, v62, v63, v64, v65, v66, v67, v68, v69, _, _, v72, rfl, by simp [hl], hB, zg0, zg1, zg2, zg3, zg4, zg5, zg6, zg7, zg8, zg9, zg10, zg11, zg12, fun _ => rfl, fun _ => rfl, zg15, zh1, zh2, zk1, zk2⟩
            · rintro ls ac w' hr ⟨v9, v10, v57, v58, v59, v60, v61, v62, v63, v64, v65, v66, v67, v68, v69, v70, v71, v72, rfl, hl, hB, zg0, zg1, zg2, zg3, zg4, zg5, zg6, zg7, zg8, zg9, zg10, zg11, zg12, zg13, zg14, zg15, zh1, zh2, zk1, zk2⟩
              have zd8 : ls.getD 8 false = true := (ready_dep hr rfl).2 ⟨8, .data⟩ (by simp) rfl
              have zd10 : ls.getD 10 false = true := (ready_dep hr rfl).2 ⟨10, .data⟩ (by simp) rfl
              have zd12 : ls.getD 12 false = true := (ready_dep hr rfl).2 ⟨12, .data⟩ (by simp) rfl
              have zd14 : ls.getD 14 false = true := (ready_dep hr rfl).2 ⟨14, .data⟩ (by simp) rfl
              obtain rfl := zg8 zd8
              obtain rfl := zg10 zd10
              obtain rfl := zg12 zd12
              obtain rfl := zg14 zd14
              refine wpOp_step rfl (fun K hK => ?_)
              clear hr
              go_simp
              refine (Req_is _ _ _ _ _ _ _ _ _ hx1 Hd _).mono ?_
              rintro e w1 ⟨rfl, hk⟩
              dsimp only
              refine hK _ _ ?_
              simp only [getD_own (l := ls) (i := 15) (by omega), getD_set ls (i := 15) (j := 0) (by decide), getD_set ls (i := 15) (j := 1) (by decide), getD_set ls (i := 15) (j := 2) (by decide), getD_set ls (i := 15) (j := 3) (by decide), getD_set ls (i := 15) (j := 4) (by decide), getD_set ls (i := 15) (j := 5) (by decide), getD_set ls (i := 15) (j := 6) (by decide), getD_set ls (i := 15) (j := 7) (by decide), getD_set ls (i := 15) (j := 8) (by decide), getD_set ls (i := 15) (j := 9) (by decide), getD_set ls (i := 15) (j := 10) (by decide), getD_set ls (i := 15) (j := 11) (by decide), getD_set ls (i := 15) (j := 12) (by decide), getD_set ls (i := 15) (j := 13) (by decide), getD_set ls (i := 15) (j := 14) (by decide), getD_set ls (i := 15) (j := 16) (by decide), getD_set ls (i := 15) (j := 17) (by decide), getD_set ls (i := 15) (j := 18) (by decide), getD_set ls (i := 15) (j := 19) (by decide)]
              exact ⟨v9, v10, v57, v58, v59, v60, v61, v62, v63, v64, _, v66, _, v68, _, v70, _, _, rfl, by simp [hl], bstep hB hk, zg0, zg1, zg2, zg3, zg4, zg5, zg6, zg7, fun _ => rfl, zg9, fun _ => rfl, zg11, fun _ => rfl, zg13, fun _ => rfl, fun _ => rfl, fun h => (by obtain ⟨b, e1, e2, e3, e4, e5⟩ := zh1 h; exact ⟨b, e1, e2, e3, fun h => (e4 h).keep hk, fun h => (e5 h).keep hk⟩), fun h => (by obtain ⟨b, e1, e2, e4, e5⟩ := zh2 h; exact ⟨b, e1, e2, fun h => (e4 h).keep hk, fun h => (e5 h).keep hk⟩), zk1, zk2⟩
            · rintro ls ac w' hr ⟨v9, v10, v57, v58, v59, v60, v61, v62, v63, v64, v65, v66, v67, v68, v69, v70, v71, v72, rfl, hl, hB, zg0, zg1, zg2, zg3, zg4, zg5, zg6, zg7, zg8, zg9, zg10, zg11, zg12, zg13, zg14, zg15, zh1, zh2, zk1, zk2⟩
              have hz := hB.size
              have lt2 : ∀ b, (ls.getD 19 false = false → SpanAt w' b 0 0 false) → (ls.getD 19 false = true → SpanAt w' b d1 d2 d3) → b < w'.heap.size := fun b x y => by cases hc : ls.getD 19 false with | false => exact (x hc).lt | true => exact (y hc).lt
              have hn := (ready_dep hr rfl).1
              have hna : ls.getD 16 false = false := by cases hc : ls.getD 16 false with | false => rfl | true => (exfalso; have hs4 := getD_both hc; rw [hs4] at hn; cases hn)
              have hus : ls.getD 18 false = false := by cases hc : ls.getD 18 false with | false => rfl | true => (rw [zk1 hc] at hna; cases hna)
              refine wpOp_step rfl (fun K hK => ?_)
              clear hr
              go_simp
              refine hK _ _ ?_
              simp only [getD_own (l := ls) (i := 16) (by omega), getD_set ls (i := 16) (j := 0) (by decide), getD_set ls (i := 16) (j := 1) (by decide), getD_set ls (i := 16) (j := 2) (by decide), getD_set ls (i := 16) (j := 3) (by decide), getD_set ls (i := 16) (j := 4) (by decide), getD_set ls (i := 16) (j := 5) (by decide), getD_set ls (i := 16) (j := 6) (by decide), getD_set ls (i := 16) (j := 7) (by decide), getD_set ls (i := 16) (j := 8) (by decide), getD_set ls (i := 16) (j := 9) (by decide), getD_set ls (i := 16) (j := 10) (by decide), getD_set ls (i := 16) (j := 11) (by decide), getD_set ls (i := 16) (j := 12) (by decide), getD_set ls (i := 16) (j := 13) (by decide), getD_set ls (i := 16) (j := 14) (by decide), getD_set ls (i := 16) (j := 15) (by decide), getD_set ls (i := 16) (j := 17) (by decide), getD_set ls (i := 16) (j := 18) (by decide), getD_set ls (i := 16) (j := 19) (by decide)]
              exact ⟨_, v10, v57, v58, v59, v60, v61, v62, v63, v64, v65, v66, v67, v68, v69, v70, v71, v72, rfl, by simp [hl], balloc hB _, zg0, zg1, zg2, zg3, zg4, zg5, zg6, zg7, zg8, zg9, zg10, zg11, zg12, zg13, zg14, zg15, fun _ => ⟨_, rfl, hz, fun h => (by obtain ⟨b, e1, e2, e4, e5⟩ := zh2 h; rw [e1]; exact ptr_ne (Nat.ne_of_lt (lt2 b e4 e5))), fun _ => SpanAt.new rfl, fun h => (by rw [hus] at h; cases h)⟩, fun h => (by obtain ⟨b, e1, e2, e4, e5⟩ := zh2 h; exact ⟨b, e1, e2, fun h => (e4 h).keep (balloc (brefl _) _), fun h => (e5 h).keep (balloc (brefl _) _)⟩), fun _ => (by first | rfl | trivial), zk2⟩
            · rintro ls ac w' hr ⟨v9, v10, v57, v58, v59, v60, v61, v62, v63, v64, v65, v66, v67, v68, v69, v70, v71, v72, rfl, hl, hB, zg0, zg1, zg2, zg3, zg4, zg5, zg6, zg7, zg8, zg9, zg10, zg11, zg12, zg13, zg14, zg15, zh1, zh2, zk1, zk2⟩
              have hz := hB.size
              have lt1 : ∀ b, (ls.getD 18 false = false → SpanAt w' b 0 0 false) → (ls.getD 18 false = true → SpanAt w' b c1 c2 c3) → b < w'.heap.size := fun b x y => by cases hc : ls.getD 18 false with | false => exact (x hc).lt | true => exact (y hc).lt
              have hn := (ready_dep hr rfl).1
              have hna : ls.getD 17 false = false := by cases hc : ls.getD 17 false with | false => rfl | true => (exfalso; have hs4 := getD_both hc; rw [hs4] at hn; cases hn)
              have hus : ls.getD 19 false = false := by cases hc : ls.getD 19 false with | false => rfl | true => (rw [zk2 hc] at hna; cases hna)
              refine wpOp_step rfl (fun K hK => ?_)
              clear hr
              go_simp
              refine hK _ _ ?_
              simp only [getD_own (l := ls) (i := 17) (by omega), getD_set ls (i := 17) (j := 0) (by decide), getD_set ls (i := 17) (j := 1) (by decide), getD_set ls (i := 17) (j := 2) (by decide), getD_set ls (i := 17) (j := 3) (by decide), getD_set ls (i := 17) (j := 4) (by decide), getD_set ls (i := 17) (j := 5) (by decide), getD_set ls (i := 17) (j := 6) (by decide), getD_set ls (i := 17) (j := 7) (by decide), getD_set ls (i := 17) (j := 8) (by decide), getD_set ls (i := 17) (j := 9) (by decide), getD_set ls (i := 17) (j := 10) (by decide), getD_set ls (i := 17) (j := 11) (by decide), getD_set ls (i := 17) (j := 12) (by decide), getD_set ls (i := 17) (j := 13) (by decide), getD_set ls (i := 17) (j := 14) (by decide), getD_set ls (i := 17) (j := 15) (by decide), getD_set ls (i := 17) (j := 16) (by decide), getD_set ls (i := 17) (j := 18) (by decide), getD_set ls (i := 17) (j := 19) (by decide)]
              exact ⟨v9, _, v57, v58, v59, v60, v61, v62, v63, v64, v65, v66, v67, v68, v69, v70, v71, v72, rfl, by simp [hl], balloc hB _, zg0, zg1, zg2, zg3, zg4, zg5, zg6, zg7, zg8, zg9, zg10, zg11, zg12, zg13, zg14, zg15, fun h => (by obtain ⟨b, e1, e2, e3, e4, e5⟩ := zh1 h; exact ⟨b, e1, e2, fun _ => ptr_ne (Nat.ne_of_gt (lt1 b e4 e5)), fun h => (e4 h).keep (balloc (brefl _) _), fun h => (e5 h).keep (balloc (brefl _) _)⟩), fun _ => ⟨_, rfl, hz, fun _ => SpanAt.new rfl, fun h => (by rw [hus] at h; cases h)⟩, zk1, fun _ => (by first | rfl | trivial)⟩
            · rintro ls ac w' hr ⟨v9, v10, v57, v58, v59, v60, v61, v62, v63, v64, v65, v66, v67, v68, v69, v70, v71, v72, rfl, hl, hB, zg0, zg1, zg2, zg3, zg4, zg5, zg6, zg7, zg8, zg9, zg10, zg11, zg12, zg13, zg14, zg15, zh1, zh2, zk1, zk2⟩
              have zd16 : ls.getD 16 false = true := (ready_dep hr rfl).2 ⟨16, .data⟩ (by simp) rfl
              have zd7 : ls.getD 7 false = true := (ready_dep hr rfl).2 ⟨7, .data⟩ (by simp) rfl
              obtain rfl := zg7 zd7
              have hn := (ready_dep hr rfl).1
              have hns : ls.getD 18 false = false := by cases hc : ls.getD 18 false with | false => rfl | true => (exfalso; have hs4 := getD_both hc; rw [hs4] at hn; cases hn)
              obtain ⟨b, rfl, hub, hne, e4, _⟩ := zh1 zd16
              have hS := e4 hns
              have hT := span_sets (x := c1) (y := c2) (z := c3) hS
              have zs0 := (hS).1.1
              have zs1 := (hS).2.1.1
              have zs2 := (hS).2.2.1
              have zs3 := (hS).1.2
              have zs4 := (hS).2.1.2
              have zs5 := (hS).2.2.2
              refine wpOp_step rfl (fun K hK => ?_)
              clear hr
              clear hS e4
              go_simp
              refine hK _ _ ?_
              simp only [getD_own (l := ls) (i := 18) (by omega), getD_set ls (i := 18) (j := 0) (by decide), getD_set ls (i := 18) (j := 1) (by decide), getD_set ls (i := 18) (j := 2) (by decide), getD_set ls (i := 18) (j := 3) (by decide), getD_set ls (i := 18) (j := 4) (by decide), getD_set ls (i := 18) (j := 5) (by decide), getD_set ls (i := 18) (j := 6) (by decide), getD_set ls (i := 18) (j := 7) (by decide), getD_set ls (i := 18) (j := 8) (by decide), getD_set ls (i := 18) (j := 9) (by decide), getD_set ls (i := 18) (j := 10) (by decide), getD_set ls (i := 18) (j := 11) (by decide), getD_set ls (i := 18) (j := 12) (by decide), getD_set ls (i := 18) (j := 13) (by decide), getD_set ls (i := 18) (j := 14) (by decide), getD_set ls (i := 18) (j := 15) (by decide), getD_set ls (i := 18) (j := 16) (by decide), getD_set ls (i := 18) (j := 17) (by decide), getD_set ls (i := 18) (j := 19) (by decide)]
              exact ⟨_, v10, v57, v58, v59, v60, v61, v62, v63, _, v65, v66, v67, v68, v69, v70, v71, v72, rfl, by simp [hl], hB.trans (hT.2.2 _ hub), zg0, zg1, zg2, zg3, zg4, zg5, zg6, fun _ => rfl, zg8, zg9, zg10, zg11, zg12, zg13, zg14, zg15, fun _ => ⟨b, rfl, hub, hne, fun h => (by cases h), fun _ => hT.1⟩, fun h => (by obtain ⟨b', e1, e2, x4, x5⟩ := zh2 h; have hbb : b' ≠ b := fun hh => hne h (by rw [e1, hh]); exact ⟨b', e1, e2, fun h => hT.2.1 _ _ _ _ hbb (x4 h), fun h => hT.2.1 _ _ _ _ hbb (x5 h)⟩), fun _ => zd16, zk2⟩
            · rintro ls ac w' hr ⟨v9, v10, v57, v58, v59, v60, v61, v62, v63, v64, v65, v66, v67, v68, v69, v70, v71, v72, rfl, hl, hB, zg0, zg1, zg2, zg3, zg4, zg5, zg6, zg7, zg8, zg9, zg10, zg11, zg12, zg13, zg14, zg15, zh1, zh2, zk1, zk2⟩
              have zd17 : ls.getD 17 false = true := (ready_dep hr rfl).2 ⟨17, .data⟩ (by simp) rfl
              have zd15 : ls.getD 15 false = true := (ready_dep hr rfl).2 ⟨15, .data⟩ (by simp) rfl
              obtain rfl := zg15 zd15
              have hn := (ready_dep hr rfl).1
              have hns : ls.getD 19 false = false := by cases hc : ls.getD 19 false with | false => rfl | true => (exfalso; have hs4 := getD_both hc; rw [hs4] at hn; cases hn)
              obtain ⟨b, rfl, hub, e4, _⟩ := zh2 zd17
              have hS := e4 hns
              have hT := span_sets (x := d1) (y := d2) (z := d3) hS
              have zs0 := (hS).1.1
              have zs1 := (hS).2.1.1
              have zs2 := (hS).2.2.1
              have zs3 := (hS).1.2
              have zs4 := (hS).2.1.2
              have zs5 := (hS).2.2.2
              refine wpOp_step rfl (fun K hK => ?_)
              clear hr
              clear hS e4
              go_simp
              refine hK _ _ ?_
              simp only [getD_own (l := ls) (i := 19) (by omega), getD_set ls (i := 19) (j := 0) (by decide), getD_set ls (i := 19) (j := 1) (by decide), getD_set ls (i := 19) (j := 2) (by decide), getD_set ls (i := 19) (j := 3) (by decide), getD_set ls (i := 19) (j := 4) (by decide), getD_set ls (i := 19) (j := 5) (by decide), getD_set ls (i := 19) (j := 6) (by decide), getD_set ls (i := 19) (j := 7) (by decide), getD_set ls (i := 19) (j := 8) (by decide), getD_set ls (i := 19) (j := 9) (by decide), getD_set ls (i := 19) (j := 10) (by decide), getD_set ls (i := 19) (j := 11) (by decide), getD_set ls (i := 19) (j := 12) (by decide), getD_set ls (i := 19) (j := 13) (by decide), getD_set ls (i := 19) (j := 14) (by decide), getD_set ls (i := 19) (j := 15) (by decide), getD_set ls (i := 19) (j := 16) (by decide), getD_set ls (i := 19) (j := 17) (by decide), getD_set ls (i := 19) (j := 18) (by decide)]
              exact ⟨v9, _, v57, v58, v59, v60, v61, v62, v63, v64, v65, v66, v67, v68, v69, v70, v71, _, rfl, by simp [hl], hB.trans (hT.2.2 _ hub), zg0, zg1, zg2, zg3, zg4, zg5, zg6, zg7, zg8, zg9, zg10, zg11, zg12, zg13, zg14, fun _ => rfl, fun h => (by obtain ⟨b', e1, e2, x3, x4, x5⟩ := zh1 h; have hbb : b' ≠ b := fun hh => x3 zd17 (by rw [hh]); exact ⟨b', e1, e2, x3, fun h => hT.2.1 _ _ _ _ hbb (x4 h), fun h => hT.2.1 _ _ _ _ hbb (x5 h)⟩), fun _ => ⟨b, rfl, hub, fun h => (by cases h), fun _ => hT.1⟩, zk1, fun _ => zd17⟩
          · rintro ls ac w' ⟨v9, v10, v57, v58, v59, v60, v61, v62, v63, v64, v65, v66, v67, v68, v69, v70, v71, v72, rfl, hl, hB, zg0, zg1, zg2, zg3, zg4, zg5, zg6, zg7, zg8, zg9, zg10, zg11, zg12, zg13, zg14, zg15, zh1, zh2, zk1, zk2⟩ hr
            have hall := ready_allb (by decide) hl hr
            obtain ⟨b1, rfl, hub1, _, _, f1⟩ := zh1 (hall 16 (by decide))
            have F1 := f1 (hall 18 (by decide))
            obtain ⟨b2, rfl, hub2, _, f2⟩ := zh2 (hall 17 (by decide))
            have F2 := f2 (hall 19 (by decide))
            go_wp2_with fail
            go_meet
            exact ⟨b1, b2, rfl, rfl, Lib.hid (Below.trans hwA (hB.mono (Below.size hwA))), Lib.hid ⟨CellF.keep hB qHA0_0, CellF.keep hB qHA0_1, CellF.keep hB qHA0_2⟩, Lib.hid ⟨CellF.keep hB qHA1_0, CellF.keep hB qHA1_1, CellF.keep hB qHA1_2⟩, Lib.hid ⟨CellF.keep hB qHA2_0, CellF.keep hB qHA2_1, CellF.keep hB qHA2_2, CellF.keep hB qHA2_3⟩, Lib.hid ⟨CellF.keep hB qXA0_0, CellF.keep hB qXA0_1, CellF.keep hB qXA0_2⟩, Lib.hid ⟨CellF.keep hB qXA1_0, CellF.keep hB qXA1_1, CellF.keep hB qXA1_2⟩, Lib.hid F1, Lib.hid F2⟩
        case rest =>
          obtain ⟨bc, bd, rfl, rfl, HB, HC0, HC1, HC2, HC3, HC4, XC0, XC1⟩ := hcut
          have hwC := HB.out
          have qHC0_0 := HC0.out.1
          have cHC0_0 := qHC0_0.1
          have qHC0_1 := HC0.out.2.1
          have cHC0_1 := qHC0_1.1
          have qHC0_2 := HC0.out.2.2
          have cHC0_2 := qHC0_2.1
          have zHC0 := ltc cHC0_0
          have qHC1_0 := HC1.out.1
          have cHC1_0 := qHC1_0.1
          have qHC1_1 := HC1.out.2.1
          have cHC1_1 := qHC1_1.1
          have qHC1_2 := HC1.out.2.2
          have cHC1_2 := qHC1_2.1
          have zHC1 := ltc cHC1_0
          have qHC2_0 := HC2.out.1
          have cHC2_0 := qHC2_0.1
          have qHC2_1 := HC2.out.2.1
          have cHC2_1 := qHC2_1.1
          have qHC2_2 := HC2.out.2.2.1
          have cHC2_2 := qHC2_2.1
          have qHC2_3 := HC2.out.2.2.2
          have cHC2_3 := qHC2_3.1
          have zHC2 := ltc cHC2_0
          have qHC3_0 := HC3.out.1
          have cHC3_0 := qHC3_0.1
          have qHC3_1 := HC3.out.2.1
          have cHC3_1 := qHC3_1.1
          have qHC3_2 := HC3.out.2.2
          have cHC3_2 := qHC3_2.1
          have zHC3 := ltc cHC3_0
          have qHC4_0 := HC4.out.1
          have cHC4_0 := qHC4_0.1
          have qHC4_1 := HC4.out.2.1
          have cHC4_1 := qHC4_1.1
          have qHC4_2 := HC4.out.2.2
          have cHC4_2 := qHC4_2.1
          have zHC4 := ltc cHC4_0
          have qXC0_0 := XC0.out.1
          have cXC0_0 := qXC0_0.1
          have qXC0_1 := XC0.out.2.1
          have cXC0_1 := qXC0_1.1
          have qXC0_2 := XC0.out.2.2
          have cXC0_2 := qXC0_2.1
          have zXC0 := ltc cXC0_0
          have qXC1_0 := XC1.out.1
          have cXC1_0 := qXC1_0.1
          have qXC1_1 := XC1.out.2.1
          have cXC1_1 := qXC1_1.1
          have qXC1_2 := XC1.out.2.2
          have cXC1_2 := qXC1_2.1
          have zXC1 := ltc cXC1_0
          clear HB HC0 HC1 HC2 HC3 HC4 XC0 XC1
          go_wp2_with fail
          refine (alive_is _).mono ?_
          rintro e w3 ⟨rfl, hb3⟩
          have q3_7_0 : CellF w3 ⟨ba, 0, none⟩ (.int .i64 a1) := (by refine CellF.keep hb3 ?_; repeat (first | with_reducible exact qHC3_0 | (with_reducible refine CellF.at_ ?_ rfl; (first | rfl | (simp; done))) | with_reducible refine CellF.past _ ?_ | with_reducible refine CellF.drew ?_ | with_reducible refine CellF.drewN _ ?_))
          have c3_7_0 := q3_7_0.1
          have q3_7_1 : CellF w3 ⟨ba, 1, none⟩ (.int .i64 a2) := (by refine CellF.keep hb3 ?_; repeat (first | with_reducible exact qHC3_1 | (with_reducible refine CellF.at_ ?_ rfl; (first | rfl | (simp; done))) | with_reducible refine CellF.past _ ?_ | with_reducible refine CellF.drew ?_ | with_reducible refine CellF.drewN _ ?_))
          have c3_7_1 := q3_7_1.1
          have q3_7_2 : CellF w3 ⟨ba, 2, none⟩ (.bool a3) := (by refine CellF.keep hb3 ?_; repeat (first | with_reducible exact qHC3_2 | (with_reducible refine CellF.at_ ?_ rfl; (first | rfl | (simp; done))) | with_reducible refine CellF.past _ ?_ | with_reducible refine CellF.drew ?_ | with_reducible refine CellF.drewN _ ?_))
          have c3_7_2 := q3_7_2.1
          have z3_7 : ba < w3.heap.size := ltc c3_7_0
          have q3_8_0 : CellF w3 ⟨bb, 0, none⟩ (.int .i64 b1) := (by refine CellF.keep hb3 ?_; repeat (first | with_reducible exact qHC4_0 | (with_reducible refine CellF.at_ ?_ rfl; (first | rfl | (simp; done))) | with_reducible refine CellF.past _ ?_ | with_reducible refine CellF.drew ?_ | with_reducible refine CellF.drewN _ ?_))
          have c3_8_0 := q3_8_0.1
          have q3_8_1 : CellF w3 ⟨bb, 1, none⟩ (.int .i64 b2) := (by refine CellF.keep hb3 ?_; repeat (first | with_reducible exact qHC4_1 | (with_reducible refine CellF.at_ ?_ rfl; (first | rfl | (simp; done))) | with_reducible refine CellF.past _ ?_ | with_reducible refine CellF.drew ?_ | with_reducible refine CellF.drewN _ ?_))
          have c3_8_1 := q3_8_1.1
          have q3_8_2 : CellF w3 ⟨bb, 2, none⟩ (.bool b3) := (by refine CellF.keep hb3 ?_; repeat (first | with_reducible exact qHC4_2 | (with_reducible refine CellF.at_ ?_ rfl; (first | rfl | (simp; done))) | with_reducible refine CellF.past _ ?_ | with_reducible refine CellF.drew ?_ | with_reducible refine CellF.drewN _ ?_))
          have c3_8_2 := q3_8_2.1
          have z3_8 : bb < w3.heap.size := ltc c3_8_0
          have q3_9_0 : CellF w3 ⟨bc, 0, none⟩ (.int .i64 c1) := (by refine CellF.keep hb3 ?_; repeat (first | with_reducible exact qXC0_0 | (with_reducible refine CellF.at_ ?_ rfl; (first | rfl | (simp; done))) | with_reducible refine CellF.past _ ?_ | with_reducible refine CellF.drew ?_ | with_reducible refine CellF.drewN _ ?_))
          have c3_9_0 := q3_9_0.1
          have q3_9_1 : CellF w3 ⟨bc, 1, none⟩ (.int .i64 c2) := (by refine CellF.keep hb3 ?_; repeat (first | with_reducible exact qXC0_1 | (with_reducible refine CellF.at_ ?_ rfl; (first | rfl | (simp; done))) | with_reducible refine CellF.past _ ?_ | with_reducible refine CellF.drew ?_ | with_reducible refine CellF.drewN _ ?_))
          have c3_9_1 := q3_9_1.1
          have q3_9_2 : CellF w3 ⟨bc, 2, none⟩ (.bool c3) := (by refine CellF.keep hb3 ?_; repeat (first | with_reducible exact qXC0_2 | (with_reducible refine CellF.at_ ?_ rfl; (first | rfl | (simp; done))) | with_reducible refine CellF.past _ ?_ | with_reducible refine CellF.drew ?_ | with_reducible refine CellF.drewN _ ?_))
          have c3_9_2 := q3_9_2.1
          have z3_9 : bc < w3.heap.size := ltc c3_9_0
          have q3_10_0 : CellF w3 ⟨bd, 0, none⟩ (.int .i64 d1) := (by refine CellF.keep hb3 ?_; repeat (first | with_reducible exact qXC1_0 | (with_reducible refine CellF.at_ ?_ rfl; (first | rfl | (simp; done))) | with_reducible refine CellF.past _ ?_ | with_reducible refine CellF.drew ?_ | with_reducible refine CellF.drewN _ ?_))
          have c3_10_0 := q3_10_0.1
          have q3_10_1 : CellF w3 ⟨bd, 1, none⟩ (.int .i64 d2) := (by refine CellF.keep hb3 ?_; repeat (first | with_reducible exact qXC1_1 | (with_reducible refine CellF.at_ ?_ rfl; (first | rfl | (simp; done))) | with_reducible refine CellF.past _ ?_ | with_reducible refine CellF.drew ?_ | with_reducible refine CellF.drewN _ ?_))
          have c3_10_1 := q3_10_1.1
          have q3_10_2 : CellF w3 ⟨bd, 2, none⟩ (.bool d3) := (by refine CellF.keep hb3 ?_; repeat (first | with_reducible exact qXC1_2 | (with_reducible refine CellF.at_ ?_ rfl; (first | rfl | (simp; done))) | with_reducible refine CellF.past _ ?_ | with_reducible refine CellF.drew ?_ | with_reducible refine CellF.drewN _ ?_))
          have c3_10_2 := q3_10_2.1
          have z3_10 : bd < w3.heap.size := ltc c3_10_0
          clear qHC0_0 cHC0_0 qHC0_1 cHC0_1 qHC0_2 cHC0_2 zHC0 qHC1_0 cHC1_0 qHC1_1 cHC1_1 qHC1_2 cHC1_2 zHC1 qHC2_0 cHC2_0 qHC2_1 cHC2_1 qHC2_2 cHC2_2 qHC2_3 cHC2_3 zHC2 qHC3_0 cHC3_0 qHC3_1 cHC3_1 qHC3_2 cHC3_2 zHC3 qHC4_0 cHC4_0 qHC4_1 cHC4_1 qHC4_2 cHC4_2 zHC4 qXC0_0 cXC0_0 qXC0_1 cXC0_1 qXC0_2 cXC0_2 zXC0 qXC1_0 cXC1_0 qXC1_1 cXC1_1 qXC1_2 cXC1_2 zXC1
          go_wp2_with fail
          refine (Within_is _ _ _ _ _ _ _ V1 _).mono ?_
          rintro e w4 ⟨rfl, hb4⟩
          have q4_11_0 : CellF w4 ⟨ba, 0, none⟩ (.int .i64 a1) := (by refine CellF.keep hb4 ?_; repeat (first | with_reducible exact q3_7_0 | (with_reducible refine CellF.at_ ?_ rfl; (first | rfl | (simp; done))) | with_reducible refine CellF.past _ ?_ | with_reducible refine CellF.drew ?_ | with_reducible refine CellF.drewN _ ?_))
          have c4_11_0 := q4_11_0.1
          have q4_11_1 : CellF w4 ⟨ba, 1, none⟩ (.int .i64 a2) := (by refine CellF.keep hb4 ?_; repeat (first | with_reducible exact q3_7_1 | (with_reducible refine CellF.at_ ?_ rfl; (first | rfl | (simp; done))) | with_reducible refine CellF.past _ ?_ | with_reducible refine CellF.drew ?_ | with_reducible refine CellF.drewN _ ?_))
          have c4_11_1 := q4_11_1.1
          have q4_11_2 : CellF w4 ⟨ba, 2, none⟩ (.bool a3) := (by refine CellF.keep hb4 ?_; repeat (first | with_reducible exact q3_7_2 | (with_reducible refine CellF.at_ ?_ rfl; (first | rfl | (simp; done))) | with_reducible refine CellF.past _ ?_ | with_reducible refine CellF.drew ?_ | with_reducible refine CellF.drewN _ ?_))
          have c4_11_2 := q4_11_2.1
          have z4_11 : ba < w4.heap.size := ltc c4_11_0
          have q4_12_0 : CellF w4 ⟨bb, 0, none⟩ (.int .i64 b1) := (by refine CellF.keep hb4 ?_; repeat (first | with_reducible exact q3_8_0 | (with_reducible refine CellF.at_ ?_ rfl; (first | rfl | (simp; done))) | with_reducible refine CellF.past _ ?_ | with_reducible refine CellF.drew ?_ | with_reducible refine CellF.drewN _ ?_))
          have c4_12_0 := q4_12_0.1
          have q4_12_1 : CellF w4 ⟨bb, 1, none⟩ (.int .i64 b2) := (by refine CellF.keep hb4 ?_; repeat (first | with_reducible exact q3_8_1 | (with_reducible refine CellF.at_ ?_ rfl; (first | rfl | (simp; done))) | with_reducible refine CellF.past _ ?_ | with_reducible refine CellF.drew ?_ | with_reducible refine CellF.drewN _ ?_))
          have c4_12_1 := q4_12_1.1
          have q4_12_2 : CellF w4 ⟨bb, 2, none⟩ (.bool b3) := (by refine CellF.keep hb4 ?_; repeat (first | with_reducible exact q3_8_2 | (with_reducible refine CellF.at_ ?_ rfl; (first | rfl | (simp; done))) | with_reducible refine CellF.past _ ?_ | with_reducible refine CellF.drew ?_ | with_reducible refine CellF.drewN _ ?_))
          have c4_12_2 := q4_12_2.1
          have z4_12 : bb < w4.heap.size := ltc c4_12_0
          have q4_13_0 : CellF w4 ⟨bc, 0, none⟩ (.int .i64 c1) := (by refine CellF.keep hb4 ?_; repeat (first | with_reducible exact q3_9_0 | (with_reducible refine CellF.at_ ?_ rfl; (first | rfl | (simp; done))) | with_reducible refine CellF.past _ ?_ | with_reducible refine CellF.drew ?_ | with_reducible refine CellF.drewN _ ?_))
          have c4_13_0 := q4_13_0.1
          have q4_13_1 : CellF w4 ⟨bc, 1, none⟩ (.int .i64 c2) := (by refine CellF.keep hb4 ?_; repeat (first | with_reducible exact q3_9_1 | (with_reducible refine CellF.at_ ?_ rfl; (first | rfl | (simp; done))) | with_reducible refine CellF.past _ ?_ | with_reducible refine CellF.drew ?_ | with_reducible refine CellF.drewN _ ?_))
          have c4_13_1 := q4_13_1.1
          have q4_13_2 : CellF w4 ⟨bc, 2, none⟩ (.bool c3) := (by refine CellF.keep hb4 ?_; repeat (first | with_reducible exact q3_9_2 | (with_reducible refine CellF.at_ ?_ rfl; (first | rfl | (simp; done))) | with_reducible refine CellF.past _ ?_ | with_reducible refine CellF.drew ?_ | with_reducible refine CellF.drewN _ ?_))
          have c4_13_2 := q4_13_2.1
          have z4_13 : bc < w4.heap.size := ltc c4_13_0
          have q4_14_0 : CellF w4 ⟨bd, 0, none⟩ (.int .i64 d1) := (by refine CellF.keep hb4 ?_; repeat (first | with_reducible exact q3_10_0 | (with_reducible refine CellF.at_ ?_ rfl; (first | rfl | (simp; done))) | with_reducible refine CellF.past _ ?_ | with_reducible refine CellF.drew ?_ | with_reducible refine CellF.drewN _ ?_))
          have c4_14_0 := q4_14_0.1
          have q4_14_1 : CellF w4 ⟨bd, 1, none⟩ (.int .i64 d2) := (by refine CellF.keep hb4 ?_; repeat (first | with_reducible exact q3_10_1 | (with_reducible refine CellF.at_ ?_ rfl; (first | rfl | (simp; done))) | with_reducible refine CellF.past _ ?_ | with_reducible refine CellF.drew ?_ | with_reducible refine CellF.drewN _ ?_))
          have c4_14_1 := q4_14_1.1
          have q4_14_2 : CellF w4 ⟨bd, 2, none⟩ (.bool d3) := (by refine CellF.keep hb4 ?_; repeat (first | with_reducible exact q3_10_2 | (with_reducible refine CellF.at_ ?_ rfl; (first | rfl | (simp; done))) | with_reducible refine CellF.past _ ?_ | with_reducible refine CellF.drew ?_ | with_reducible refine CellF.drewN _ ?_))
          have c4_14_2 := q4_14_2.1
          have z4_14 : bd < w4.heap.size := ltc c4_14_0
          clear q3_7_0 c3_7_0 q3_7_1 c3_7_1 q3_7_2 c3_7_2 z3_7 q3_8_0 c3_8_0 q3_8_1 c3_8_1 q3_8_2 c3_8_2 z3_8 q3_9_0 c3_9_0 q3_9_1 c3_9_1 q3_9_2 c3_9_2 z3_9 q3_10_0 c3_10_0 q3_10_1 c3_10_1 q3_10_2 c3_10_2 z3_10
          go_wp2_with fail
          refine (Within_is _ _ _ _ _ _ _ V2 _).mono ?_
          rintro e w5 ⟨rfl, hb5⟩
          have q5_15_0 : CellF w5 ⟨ba, 0, none⟩ (.int .i64 a1) := (by refine CellF.keep hb5 ?_; repeat (first | with_reducible exact q4_11_0 | (with_reducible refine CellF.at_ ?_ rfl; (first | rfl | (simp; done))) | with_reducible refine CellF.past _ ?_ | with_reducible refine CellF.drew ?_ | with_reducible refine CellF.drewN _ ?_))
          have c5_15_0 := q5_15_0.1
          have q5_15_1 : CellF w5 ⟨ba, 1, none⟩ (.int .i64 a2) := (by refine CellF.keep hb5 ?_; repeat (first | with_reducible exact q4_11_1 | (with_reducible refine CellF.at_ ?_ rfl; (first | rfl | (simp; done))) | with_reducible refine CellF.past _ ?_ | with_reducible refine CellF.drew ?_ | with_reducible refine CellF.drewN _ ?_))
          have c5_15_1 := q5_15_1.1
          have q5_15_2 : CellF w5 ⟨ba, 2, none⟩ (.bool a3) := (by refine CellF.keep hb5 ?_; repeat (first | with_reducible exact q4_11_2 | (with_reducible refine CellF.at_ ?_ rfl; (first | rfl | (simp; done))) | with_reducible refine CellF.past _ ?_ | with_reducible refine CellF.drew ?_ | with_reducible refine CellF.drewN _ ?_))
          have c5_15_2 := q5_15_2.1
          have z5_15 : ba < w5.heap.size := ltc c5_15_0
          have q5_16_0 : CellF w5 ⟨bb, 0, none⟩ (.int .i64 b1) := (by refine CellF.keep hb5 ?_; repeat (first | with_reducible exact q4_12_0 | (with_reducible refine CellF.at_ ?_ rfl; (first | rfl | (simp; done))) | with_reducible refine CellF.past _ ?_ | with_reducible refine CellF.drew ?_ | with_reducible refine CellF.drewN _ ?_))
          have c5_16_0 := q5_16_0.1
          have q5_16_1 : CellF w5 ⟨bb, 1, none⟩ (.int .i64 b2) := (by refine CellF.keep hb5 ?_; repeat (first | with_reducible exact q4_12_1 | (with_reducible refine CellF.at_ ?_ rfl; (first | rfl | (simp; done))) | with_reducible refine CellF.past _ ?_ | with_reducible refine CellF.drew ?_ | with_reducible refine CellF.drewN _ ?_))
          have c5_16_1 := q5_16_1.1
          have q5_16_2 : CellF w5 ⟨bb, 2, none⟩ (.bool b3) := (by refine CellF.keep hb5 ?_; repeat (first | with_reducible exact q4_12_2 | (with_reducible refine CellF.at_ ?_ rfl; (first | rfl | (simp; done))) | with_reducible refine CellF.past _ ?_ | with_reducible refine CellF.drew ?_ | with_reducible refine CellF.drewN _ ?_))
          have c5_16_2 := q5_16_2.1
          have z5_16 : bb < w5.heap.size := ltc c5_16_0
          have q5_17_0 : CellF w5 ⟨bc, 0, none⟩ (.int .i64 c1) := (by refine CellF.keep hb5 ?_; repeat (first | with_reducible exact q4_13_0 | (with_reducible refine CellF.at_ ?_ rfl; (first | rfl | (simp; done))) | with_reducible refine CellF.past _ ?_ | with_reducible refine CellF.drew ?_ | with_reducible refine CellF.drewN _ ?_))
          have c5_17_0 := q5_17_0.1
          have q5_17_1 : CellF w5 ⟨bc, 1, none⟩ (.int .i64 c2) := (by refine CellF.keep hb5 ?_; repeat (first | with_reducible exact q4_13_1 | (with_reducible refine CellF.at_ ?_ rfl; (first | rfl | (simp; done))) | with_reducible refine CellF.past _ ?_ | with_reducible refine CellF.drew ?_ | with_reducible refine CellF.drewN _ ?_))
          have c5_17_1 := q5_17_1.1
          have q5_17_2 : CellF w5 ⟨bc, 2, none⟩ (.bool c3) := (by refine CellF.keep hb5 ?_; repeat (first | with_reducible exact q4_13_2 | (with_reducible refine CellF.at_ ?_ rfl; (first | rfl | (simp; done))) | with_reducible refine CellF.past _ ?_ | with_reducible refine CellF.drew ?_ | with_reducible refine CellF.drewN _ ?_))
          have c5_17_2 := q5_17_2.1
          have z5_17 : bc < w5.heap.size := ltc c5_17_0
          have q5_18_0 : CellF w5 ⟨bd, 0, none⟩ (.int .i64 d1) := (by refine CellF.keep hb5 ?_; repeat (first | with_reducible exact q4_14_0 | (with_reducible refine CellF.at_ ?_ rfl; (first | rfl | (simp; done))) | with_reducible refine CellF.past _ ?_ | with_reducible refine CellF.drew ?_ | with_reducible refine CellF.drewN _ ?_))
          have c5_18_0 := q5_18_0.1
          have q5_18_1 : CellF w5 ⟨bd, 1, none⟩ (.int .i64 d2) := (by refine CellF.keep hb5 ?_; repeat (first | with_reducible exact q4_14_1 | (with_reducible refine CellF.at_ ?_ rfl; (first | rfl | (simp; done))) | with_reducible refine CellF.past _ ?_ | with_reducible refine CellF.drew ?_ | with_reducible refine CellF.drewN _ ?_))
          have c5_18_1 := q5_18_1.1
          have q5_18_2 : CellF w5 ⟨bd, 2, none⟩ (.bool d3) := (by refine CellF.keep hb5 ?_; repeat (first | with_reducible exact q4_14_2 | (with_reducible refine CellF.at_ ?_ rfl; (first | rfl | (simp; done))) | with_reducible refine CellF.past _ ?_ | with_reducible refine CellF.drew ?_ | with_reducible refine CellF.drewN _ ?_))
          have c5_18_2 := q5_18_2.1
          have z5_18 : bd < w5.heap.size := ltc c5_18_0
          clear q4_11_0 c4_11_0 q4_11_1 c4_11_1 q4_11_2 c4_11_2 z4_11 q4_12_0 c4_12_0 q4_12_1 c4_12_1 q4_12_2 c4_12_2 z4_12 q4_13_0 c4_13_0 q4_13_1 c4_13_1 q4_13_2 c4_13_2 z4_13 q4_14_0 c4_14_0 q4_14_1 c4_14_1 q4_14_2 c4_14_2 z4_14
          all_goals (go_wp2; go_ret; exact ⟨rfl, (by repeat (first | exact brefl _ | refine balloc ?_ _ | refine bdrewN ?_ _ | refine bset ?_ (by dsimp only; omega) _ | refine bstep ?_ (by assumption)))⟩)
end Go.Proofs.Ytigpddhffgoioaa
