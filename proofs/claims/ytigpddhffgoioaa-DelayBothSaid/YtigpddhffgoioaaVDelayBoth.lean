/-
  The walk of the law DelayBoth.
-/
import Derived.Test.YtigpddhffgoioaaAlDelay
import Derived.Test.YtigpddhffgoioaaDf
import Derived.Test.YtigpddhffgoioaaSb
import Derived.Test.YtigpddhffgoioaaDg
import Derived.Test.YtigpddhffgoioaaInvb
import Derived.Test.YtigpddhffgoioaaSpt
import Derived.Deep.RegionHeld3
import Derived.Deep.Cut
import Derived.Deep.CutRange
import Derived.Deep.DeepCutAuto
namespace Go.Proofs.Ytigpddhffgoioaa
open Go.RowKit

set_option maxRecDepth 100000 in
set_option maxHeartbeats 40000000 in
theorem DelayBoth_walk (mn mx g a o k y0 y1 n a' o' k' y0' y1' n' : Int) (w : World) (_ : I64 mn) (_ : I64 mx) (_ : I64 g) (_ : I64 a) (_ : I64 o) (_ : I64 k) (_ : I64 y0) (_ : I64 y1) (_ : I64 n) (_ : I64 a') (_ : I64 o') (_ : I64 k') (_ : I64 y0') (_ : I64 y1') (_ : I64 n') :
    Calls Try.prog 3 #[.agg #[.int .i64 mn, .int .i64 mx, .int .i64 g], .agg #[.int .i64 a, .int .i64 o, .int .i64 k, .int .i64 y0, .int .i64 y1, .int .i64 n], .agg #[.int .i64 a', .int .i64 o', .int .i64 k', .int .i64 y0', .int .i64 y1', .int .i64 n']] w fun e w' => e = .returned (.bool true) ∧ Below w.heap.size w w' := by
  obtain ⟨m, hm⟩ : ∃ m, mayB mn mx g a o k n y0 y1 = m := ⟨_, rfl⟩
  have HM := Lib.hid hm
  obtain ⟨m', hm'⟩ : ∃ m, mayB mn mx g a' o' k' n' y0' y1' = m := ⟨_, rfl⟩
  have HM' := Lib.hid hm'
  cases m with
  | false =>
    go_enter Try.func3, Try.ntmps3
    go_wp2_with fail
    refine (may_is _ _ _ _ _ _ _ _ _ _ HM _).mono ?_
    rintro e w1 ⟨rfl, hb1⟩
    have q1_1_0 : CellF w1 ⟨w.heap.size, 0, none⟩ (.int .i64 mn) := (by refine CellF.keep hb1 ?_; (first | ((repeat (first | (with_reducible refine CellF.at_ ?_ rfl; (first | rfl | (simp; done))) | with_reducible refine CellF.past _ ?_ | with_reducible refine CellF.drew ?_ | with_reducible refine CellF.drewN _ ?_)); done) | (refine ⟨?_, ?_⟩ <;> go_simp)))
    have c1_1_0 := q1_1_0.1
    have q1_1_1 : CellF w1 ⟨w.heap.size, 1, none⟩ (.int .i64 mx) := (by refine CellF.keep hb1 ?_; (first | ((repeat (first | (with_reducible refine CellF.at_ ?_ rfl; (first | rfl | (simp; done))) | with_reducible refine CellF.past _ ?_ | with_reducible refine CellF.drew ?_ | with_reducible refine CellF.drewN _ ?_)); done) | (refine ⟨?_, ?_⟩ <;> go_simp)))
    have c1_1_1 := q1_1_1.1
    have q1_1_2 : CellF w1 ⟨w.heap.size, 2, none⟩ (.int .i64 g) := (by refine CellF.keep hb1 ?_; (first | ((repeat (first | (with_reducible refine CellF.at_ ?_ rfl; (first | rfl | (simp; done))) | with_reducible refine CellF.past _ ?_ | with_reducible refine CellF.drew ?_ | with_reducible refine CellF.drewN _ ?_)); done) | (refine ⟨?_, ?_⟩ <;> go_simp)))
    have c1_1_2 := q1_1_2.1
    have z1_1 : w.heap.size < w1.heap.size := ltc c1_1_0
    have q1_2_0 : CellF w1 ⟨(w.heap.size + 1), 0, none⟩ (.int .i64 a) := (by refine CellF.keep hb1 ?_; (first | ((repeat (first | (with_reducible refine CellF.at_ ?_ rfl; (first | rfl | (simp; done))) | with_reducible refine CellF.past _ ?_ | with_reducible refine CellF.drew ?_ | with_reducible refine CellF.drewN _ ?_)); done) | (refine ⟨?_, ?_⟩ <;> go_simp)))
    have c1_2_0 := q1_2_0.1
    have q1_2_1 : CellF w1 ⟨(w.heap.size + 1), 1, none⟩ (.int .i64 o) := (by refine CellF.keep hb1 ?_; (first | ((repeat (first | (with_reducible refine CellF.at_ ?_ rfl; (first | rfl | (simp; done))) | with_reducible refine CellF.past _ ?_ | with_reducible refine CellF.drew ?_ | with_reducible refine CellF.drewN _ ?_)); done) | (refine ⟨?_, ?_⟩ <;> go_simp)))
    have c1_2_1 := q1_2_1.1
    have q1_2_2 : CellF w1 ⟨(w.heap.size + 1), 2, none⟩ (.int .i64 k) := (by refine CellF.keep hb1 ?_; (first | ((repeat (first | (with_reducible refine CellF.at_ ?_ rfl; (first | rfl | (simp; done))) | with_reducible refine CellF.past _ ?_ | with_reducible refine CellF.drew ?_ | with_reducible refine CellF.drewN _ ?_)); done) | (refine ⟨?_, ?_⟩ <;> go_simp)))
    have c1_2_2 := q1_2_2.1
    have q1_2_3 : CellF w1 ⟨(w.heap.size + 1), 3, none⟩ (.int .i64 y0) := (by refine CellF.keep hb1 ?_; (first | ((repeat (first | (with_reducible refine CellF.at_ ?_ rfl; (first | rfl | (simp; done))) | with_reducible refine CellF.past _ ?_ | with_reducible refine CellF.drew ?_ | with_reducible refine CellF.drewN _ ?_)); done) | (refine ⟨?_, ?_⟩ <;> go_simp)))
    have c1_2_3 := q1_2_3.1
    have q1_2_4 : CellF w1 ⟨(w.heap.size + 1), 4, none⟩ (.int .i64 y1) := (by refine CellF.keep hb1 ?_; (first | ((repeat (first | (with_reducible refine CellF.at_ ?_ rfl; (first | rfl | (simp; done))) | with_reducible refine CellF.past _ ?_ | with_reducible refine CellF.drew ?_ | with_reducible refine CellF.drewN _ ?_)); done) | (refine ⟨?_, ?_⟩ <;> go_simp)))
    have c1_2_4 := q1_2_4.1
    have q1_2_5 : CellF w1 ⟨(w.heap.size + 1), 5, none⟩ (.int .i64 n) := (by refine CellF.keep hb1 ?_; (first | ((repeat (first | (with_reducible refine CellF.at_ ?_ rfl; (first | rfl | (simp; done))) | with_reducible refine CellF.past _ ?_ | with_reducible refine CellF.drew ?_ | with_reducible refine CellF.drewN _ ?_)); done) | (refine ⟨?_, ?_⟩ <;> go_simp)))
    have c1_2_5 := q1_2_5.1
    have z1_2 : (w.heap.size + 1) < w1.heap.size := ltc c1_2_0
    have q1_3_0 : CellF w1 ⟨(w.heap.size + 2), 0, none⟩ (.int .i64 a') := (by refine CellF.keep hb1 ?_; (first | ((repeat (first | (with_reducible refine CellF.at_ ?_ rfl; (first | rfl | (simp; done))) | with_reducible refine CellF.past _ ?_ | with_reducible refine CellF.drew ?_ | with_reducible refine CellF.drewN _ ?_)); done) | (refine ⟨?_, ?_⟩ <;> go_simp)))
    have c1_3_0 := q1_3_0.1
    have q1_3_1 : CellF w1 ⟨(w.heap.size + 2), 1, none⟩ (.int .i64 o') := (by refine CellF.keep hb1 ?_; (first | ((repeat (first | (with_reducible refine CellF.at_ ?_ rfl; (first | rfl | (simp; done))) | with_reducible refine CellF.past _ ?_ | with_reducible refine CellF.drew ?_ | with_reducible refine CellF.drewN _ ?_)); done) | (refine ⟨?_, ?_⟩ <;> go_simp)))
    have c1_3_1 := q1_3_1.1
    have q1_3_2 : CellF w1 ⟨(w.heap.size + 2), 2, none⟩ (.int .i64 k') := (by refine CellF.keep hb1 ?_; (first | ((repeat (first | (with_reducible refine CellF.at_ ?_ rfl; (first | rfl | (simp; done))) | with_reducible refine CellF.past _ ?_ | with_reducible refine CellF.drew ?_ | with_reducible refine CellF.drewN _ ?_)); done) | (refine ⟨?_, ?_⟩ <;> go_simp)))
    have c1_3_2 := q1_3_2.1
    have q1_3_3 : CellF w1 ⟨(w.heap.size + 2), 3, none⟩ (.int .i64 y0') := (by refine CellF.keep hb1 ?_; (first | ((repeat (first | (with_reducible refine CellF.at_ ?_ rfl; (first | rfl | (simp; done))) | with_reducible refine CellF.past _ ?_ | with_reducible refine CellF.drew ?_ | with_reducible refine CellF.drewN _ ?_)); done) | (refine ⟨?_, ?_⟩ <;> go_simp)))
    have c1_3_3 := q1_3_3.1
    have q1_3_4 : CellF w1 ⟨(w.heap.size + 2), 4, none⟩ (.int .i64 y1') := (by refine CellF.keep hb1 ?_; (first | ((repeat (first | (with_reducible refine CellF.at_ ?_ rfl; (first | rfl | (simp; done))) | with_reducible refine CellF.past _ ?_ | with_reducible refine CellF.drew ?_ | with_reducible refine CellF.drewN _ ?_)); done) | (refine ⟨?_, ?_⟩ <;> go_simp)))
    have c1_3_4 := q1_3_4.1
    have q1_3_5 : CellF w1 ⟨(w.heap.size + 2), 5, none⟩ (.int .i64 n') := (by refine CellF.keep hb1 ?_; (first | ((repeat (first | (with_reducible refine CellF.at_ ?_ rfl; (first | rfl | (simp; done))) | with_reducible refine CellF.past _ ?_ | with_reducible refine CellF.drew ?_ | with_reducible refine CellF.drewN _ ?_)); done) | (refine ⟨?_, ?_⟩ <;> go_simp)))
    have c1_3_5 := q1_3_5.1
    have z1_3 : (w.heap.size + 2) < w1.heap.size := ltc c1_3_0
    go_wp2_with fail
    refine (alive_is _).mono ?_
    rintro e w2 ⟨rfl, hb2⟩
    have q2_4_0 : CellF w2 ⟨w.heap.size, 0, none⟩ (.int .i64 mn) := (by refine CellF.keep hb2 ?_; repeat (first | with_reducible exact q1_1_0 | (with_reducible refine CellF.at_ ?_ rfl; (first | rfl | (simp; done))) | with_reducible refine CellF.past _ ?_ | with_reducible refine CellF.drew ?_ | with_reducible refine CellF.drewN _ ?_))
    have c2_4_0 := q2_4_0.1
    have q2_4_1 : CellF w2 ⟨w.heap.size, 1, none⟩ (.int .i64 mx) := (by refine CellF.keep hb2 ?_; repeat (first | with_reducible exact q1_1_1 | (with_reducible refine CellF.at_ ?_ rfl; (first | rfl | (simp; done))) | with_reducible refine CellF.past _ ?_ | with_reducible refine CellF.drew ?_ | with_reducible refine CellF.drewN _ ?_))
    have c2_4_1 := q2_4_1.1
    have q2_4_2 : CellF w2 ⟨w.heap.size, 2, none⟩ (.int .i64 g) := (by refine CellF.keep hb2 ?_; repeat (first | with_reducible exact q1_1_2 | (with_reducible refine CellF.at_ ?_ rfl; (first | rfl | (simp; done))) | with_reducible refine CellF.past _ ?_ | with_reducible refine CellF.drew ?_ | with_reducible refine CellF.drewN _ ?_))
    have c2_4_2 := q2_4_2.1
    have z2_4 : w.heap.size < w2.heap.size := ltc c2_4_0
    have q2_5_0 : CellF w2 ⟨(w.heap.size + 1), 0, none⟩ (.int .i64 a) := (by refine CellF.keep hb2 ?_; repeat (first | with_reducible exact q1_2_0 | (with_reducible refine CellF.at_ ?_ rfl; (first | rfl | (simp; done))) | with_reducible refine CellF.past _ ?_ | with_reducible refine CellF.drew ?_ | with_reducible refine CellF.drewN _ ?_))
    have c2_5_0 := q2_5_0.1
    have q2_5_1 : CellF w2 ⟨(w.heap.size + 1), 1, none⟩ (.int .i64 o) := (by refine CellF.keep hb2 ?_; repeat (first | with_reducible exact q1_2_1 | (with_reducible refine CellF.at_ ?_ rfl; (first | rfl | (simp; done))) | with_reducible refine CellF.past _ ?_ | with_reducible refine CellF.drew ?_ | with_reducible refine CellF.drewN _ ?_))
    have c2_5_1 := q2_5_1.1
    have q2_5_2 : CellF w2 ⟨(w.heap.size + 1), 2, none⟩ (.int .i64 k) := (by refine CellF.keep hb2 ?_; repeat (first | with_reducible exact q1_2_2 | (with_reducible refine CellF.at_ ?_ rfl; (first | rfl | (simp; done))) | with_reducible refine CellF.past _ ?_ | with_reducible refine CellF.drew ?_ | with_reducible refine CellF.drewN _ ?_))
    have c2_5_2 := q2_5_2.1
    have q2_5_3 : CellF w2 ⟨(w.heap.size + 1), 3, none⟩ (.int .i64 y0) := (by refine CellF.keep hb2 ?_; repeat (first | with_reducible exact q1_2_3 | (with_reducible refine CellF.at_ ?_ rfl; (first | rfl | (simp; done))) | with_reducible refine CellF.past _ ?_ | with_reducible refine CellF.drew ?_ | with_reducible refine CellF.drewN _ ?_))
    have c2_5_3 := q2_5_3.1
    have q2_5_4 : CellF w2 ⟨(w.heap.size + 1), 4, none⟩ (.int .i64 y1) := (by refine CellF.keep hb2 ?_; repeat (first | with_reducible exact q1_2_4 | (with_reducible refine CellF.at_ ?_ rfl; (first | rfl | (simp; done))) | with_reducible refine CellF.past _ ?_ | with_reducible refine CellF.drew ?_ | with_reducible refine CellF.drewN _ ?_))
    have c2_5_4 := q2_5_4.1
    have q2_5_5 : CellF w2 ⟨(w.heap.size + 1), 5, none⟩ (.int .i64 n) := (by refine CellF.keep hb2 ?_; repeat (first | with_reducible exact q1_2_5 | (with_reducible refine CellF.at_ ?_ rfl; (first | rfl | (simp; done))) | with_reducible refine CellF.past _ ?_ | with_reducible refine CellF.drew ?_ | with_reducible refine CellF.drewN _ ?_))
    have c2_5_5 := q2_5_5.1
    have z2_5 : (w.heap.size + 1) < w2.heap.size := ltc c2_5_0
    have q2_6_0 : CellF w2 ⟨(w.heap.size + 2), 0, none⟩ (.int .i64 a') := (by refine CellF.keep hb2 ?_; repeat (first | with_reducible exact q1_3_0 | (with_reducible refine CellF.at_ ?_ rfl; (first | rfl | (simp; done))) | with_reducible refine CellF.past _ ?_ | with_reducible refine CellF.drew ?_ | with_reducible refine CellF.drewN _ ?_))
    have c2_6_0 := q2_6_0.1
    have q2_6_1 : CellF w2 ⟨(w.heap.size + 2), 1, none⟩ (.int .i64 o') := (by refine CellF.keep hb2 ?_; repeat (first | with_reducible exact q1_3_1 | (with_reducible refine CellF.at_ ?_ rfl; (first | rfl | (simp; done))) | with_reducible refine CellF.past _ ?_ | with_reducible refine CellF.drew ?_ | with_reducible refine CellF.drewN _ ?_))
    have c2_6_1 := q2_6_1.1
    have q2_6_2 : CellF w2 ⟨(w.heap.size + 2), 2, none⟩ (.int .i64 k') := (by refine CellF.keep hb2 ?_; repeat (first | with_reducible exact q1_3_2 | (with_reducible refine CellF.at_ ?_ rfl; (first | rfl | (simp; done))) | with_reducible refine CellF.past _ ?_ | with_reducible refine CellF.drew ?_ | with_reducible refine CellF.drewN _ ?_))
    have c2_6_2 := q2_6_2.1
    have q2_6_3 : CellF w2 ⟨(w.heap.size + 2), 3, none⟩ (.int .i64 y0') := (by refine CellF.keep hb2 ?_; repeat (first | with_reducible exact q1_3_3 | (with_reducible refine CellF.at_ ?_ rfl; (first | rfl | (simp; done))) | with_reducible refine CellF.past _ ?_ | with_reducible refine CellF.drew ?_ | with_reducible refine CellF.drewN _ ?_))
    have c2_6_3 := q2_6_3.1
    have q2_6_4 : CellF w2 ⟨(w.heap.size + 2), 4, none⟩ (.int .i64 y1') := (by refine CellF.keep hb2 ?_; repeat (first | with_reducible exact q1_3_4 | (with_reducible refine CellF.at_ ?_ rfl; (first | rfl | (simp; done))) | with_reducible refine CellF.past _ ?_ | with_reducible refine CellF.drew ?_ | with_reducible refine CellF.drewN _ ?_))
    have c2_6_4 := q2_6_4.1
    have q2_6_5 : CellF w2 ⟨(w.heap.size + 2), 5, none⟩ (.int .i64 n') := (by refine CellF.keep hb2 ?_; repeat (first | with_reducible exact q1_3_5 | (with_reducible refine CellF.at_ ?_ rfl; (first | rfl | (simp; done))) | with_reducible refine CellF.past _ ?_ | with_reducible refine CellF.drew ?_ | with_reducible refine CellF.drewN _ ?_))
    have c2_6_5 := q2_6_5.1
    have z2_6 : (w.heap.size + 2) < w2.heap.size := ltc c2_6_0
    clear q1_1_0 c1_1_0 q1_1_1 c1_1_1 q1_1_2 c1_1_2 z1_1 q1_2_0 c1_2_0 q1_2_1 c1_2_1 q1_2_2 c1_2_2 q1_2_3 c1_2_3 q1_2_4 c1_2_4 q1_2_5 c1_2_5 z1_2 q1_3_0 c1_3_0 q1_3_1 c1_3_1 q1_3_2 c1_3_2 q1_3_3 c1_3_3 q1_3_4 c1_3_4 q1_3_5 c1_3_5 z1_3
    all_goals (go_wp2; go_ret; exact ⟨rfl, (by repeat (first | exact brefl _ | refine balloc ?_ _ | refine bdrewN ?_ _ | refine bset ?_ (by dsimp only; omega) _ | refine bstep ?_ (by assumption)))⟩)
  | true =>
    cases m' with
    | false =>
      go_enter Try.func3, Try.ntmps3
      go_wp2_with fail
      refine (may_is _ _ _ _ _ _ _ _ _ _ HM _).mono ?_
      rintro e w1 ⟨rfl, hb1⟩
      have q1_1_0 : CellF w1 ⟨w.heap.size, 0, none⟩ (.int .i64 mn) := (by refine CellF.keep hb1 ?_; (first | ((repeat (first | (with_reducible refine CellF.at_ ?_ rfl; (first | rfl | (simp; done))) | with_reducible refine CellF.past _ ?_ | with_reducible refine CellF.drew ?_ | with_reducible refine CellF.drewN _ ?_)); done) | (refine ⟨?_, ?_⟩ <;> go_simp)))
      have c1_1_0 := q1_1_0.1
      have q1_1_1 : CellF w1 ⟨w.heap.size, 1, none⟩ (.int .i64 mx) := (by refine CellF.keep hb1 ?_; (first | ((repeat (first | (with_reducible refine CellF.at_ ?_ rfl; (first | rfl | (simp; done))) | with_reducible refine CellF.past _ ?_ | with_reducible refine CellF.drew ?_ | with_reducible refine CellF.drewN _ ?_)); done) | (refine ⟨?_, ?_⟩ <;> go_simp)))
      have c1_1_1 := q1_1_1.1
      have q1_1_2 : CellF w1 ⟨w.heap.size, 2, none⟩ (.int .i64 g) := (by refine CellF.keep hb1 ?_; (first | ((repeat (first | (with_reducible refine CellF.at_ ?_ rfl; (first | rfl | (simp; done))) | with_reducible refine CellF.past _ ?_ | with_reducible refine CellF.drew ?_ | with_reducible refine CellF.drewN _ ?_)); done) | (refine ⟨?_, ?_⟩ <;> go_simp)))
      have c1_1_2 := q1_1_2.1
      have z1_1 : w.heap.size < w1.heap.size := ltc c1_1_0
      have q1_2_0 : CellF w1 ⟨(w.heap.size + 1), 0, none⟩ (.int .i64 a) := (by refine CellF.keep hb1 ?_; (first | ((repeat (first | (with_reducible refine CellF.at_ ?_ rfl; (first | rfl | (simp; done))) | with_reducible refine CellF.past _ ?_ | with_reducible refine CellF.drew ?_ | with_reducible refine CellF.drewN _ ?_)); done) | (refine ⟨?_, ?_⟩ <;> go_simp)))
      have c1_2_0 := q1_2_0.1
      have q1_2_1 : CellF w1 ⟨(w.heap.size + 1), 1, none⟩ (.int .i64 o) := (by refine CellF.keep hb1 ?_; (first | ((repeat (first | (with_reducible refine CellF.at_ ?_ rfl; (first | rfl | (simp; done))) | with_reducible refine CellF.past _ ?_ | with_reducible refine CellF.drew ?_ | with_reducible refine CellF.drewN _ ?_)); done) | (refine ⟨?_, ?_⟩ <;> go_simp)))
      have c1_2_1 := q1_2_1.1
      have q1_2_2 : CellF w1 ⟨(w.heap.size + 1), 2, none⟩ (.int .i64 k) := (by refine CellF.keep hb1 ?_; (first | ((repeat (first | (with_reducible refine CellF.at_ ?_ rfl; (first | rfl | (simp; done))) | with_reducible refine CellF.past _ ?_ | with_reducible refine CellF.drew ?_ | with_reducible refine CellF.drewN _ ?_)); done) | (refine ⟨?_, ?_⟩ <;> go_simp)))
      have c1_2_2 := q1_2_2.1
      have q1_2_3 : CellF w1 ⟨(w.heap.size + 1), 3, none⟩ (.int .i64 y0) := (by refine CellF.keep hb1 ?_; (first | ((repeat (first | (with_reducible refine CellF.at_ ?_ rfl; (first | rfl | (simp; done))) | with_reducible refine CellF.past _ ?_ | with_reducible refine CellF.drew ?_ | with_reducible refine CellF.drewN _ ?_)); done) | (refine ⟨?_, ?_⟩ <;> go_simp)))
      have c1_2_3 := q1_2_3.1
      have q1_2_4 : CellF w1 ⟨(w.heap.size + 1), 4, none⟩ (.int .i64 y1) := (by refine CellF.keep hb1 ?_; (first | ((repeat (first | (with_reducible refine CellF.at_ ?_ rfl; (first | rfl | (simp; done))) | with_reducible refine CellF.past _ ?_ | with_reducible refine CellF.drew ?_ | with_reducible refine CellF.drewN _ ?_)); done) | (refine ⟨?_, ?_⟩ <;> go_simp)))
      have c1_2_4 := q1_2_4.1
      have q1_2_5 : CellF w1 ⟨(w.heap.size + 1), 5, none⟩ (.int .i64 n) := (by refine CellF.keep hb1 ?_; (first | ((repeat (first | (with_reducible refine CellF.at_ ?_ rfl; (first | rfl | (simp; done))) | with_reducible refine CellF.past _ ?_ | with_reducible refine CellF.drew ?_ | with_reducible refine CellF.drewN _ ?_)); done) | (refine ⟨?_, ?_⟩ <;> go_simp)))
      have c1_2_5 := q1_2_5.1
      have z1_2 : (w.heap.size + 1) < w1.heap.size := ltc c1_2_0
      have q1_3_0 : CellF w1 ⟨(w.heap.size + 2), 0, none⟩ (.int .i64 a') := (by refine CellF.keep hb1 ?_; (first | ((repeat (first | (with_reducible refine CellF.at_ ?_ rfl; (first | rfl | (simp; done))) | with_reducible refine CellF.past _ ?_ | with_reducible refine CellF.drew ?_ | with_reducible refine CellF.drewN _ ?_)); done) | (refine ⟨?_, ?_⟩ <;> go_simp)))
      have c1_3_0 := q1_3_0.1
      have q1_3_1 : CellF w1 ⟨(w.heap.size + 2), 1, none⟩ (.int .i64 o') := (by refine CellF.keep hb1 ?_; (first | ((repeat (first | (with_reducible refine CellF.at_ ?_ rfl; (first | rfl | (simp; done))) | with_reducible refine CellF.past _ ?_ | with_reducible refine CellF.drew ?_ | with_reducible refine CellF.drewN _ ?_)); done) | (refine ⟨?_, ?_⟩ <;> go_simp)))
      have c1_3_1 := q1_3_1.1
      have q1_3_2 : CellF w1 ⟨(w.heap.size + 2), 2, none⟩ (.int .i64 k') := (by refine CellF.keep hb1 ?_; (first | ((repeat (first | (with_reducible refine CellF.at_ ?_ rfl; (first | rfl | (simp; done))) | with_reducible refine CellF.past _ ?_ | with_reducible refine CellF.drew ?_ | with_reducible refine CellF.drewN _ ?_)); done) | (refine ⟨?_, ?_⟩ <;> go_simp)))
      have c1_3_2 := q1_3_2.1
      have q1_3_3 : CellF w1 ⟨(w.heap.size + 2), 3, none⟩ (.int .i64 y0') := (by refine CellF.keep hb1 ?_; (first | ((repeat (first | (with_reducible refine CellF.at_ ?_ rfl; (first | rfl | (simp; done))) | with_reducible refine CellF.past _ ?_ | with_reducible refine CellF.drew ?_ | with_reducible refine CellF.drewN _ ?_)); done) | (refine ⟨?_, ?_⟩ <;> go_simp)))
      have c1_3_3 := q1_3_3.1
      have q1_3_4 : CellF w1 ⟨(w.heap.size + 2), 4, none⟩ (.int .i64 y1') := (by refine CellF.keep hb1 ?_; (first | ((repeat (first | (with_reducible refine CellF.at_ ?_ rfl; (first | rfl | (simp; done))) | with_reducible refine CellF.past _ ?_ | with_reducible refine CellF.drew ?_ | with_reducible refine CellF.drewN _ ?_)); done) | (refine ⟨?_, ?_⟩ <;> go_simp)))
      have c1_3_4 := q1_3_4.1
      have q1_3_5 : CellF w1 ⟨(w.heap.size + 2), 5, none⟩ (.int .i64 n') := (by refine CellF.keep hb1 ?_; (first | ((repeat (first | (with_reducible refine CellF.at_ ?_ rfl; (first | rfl | (simp; done))) | with_reducible refine CellF.past _ ?_ | with_reducible refine CellF.drew ?_ | with_reducible refine CellF.drewN _ ?_)); done) | (refine ⟨?_, ?_⟩ <;> go_simp)))
      have c1_3_5 := q1_3_5.1
      have z1_3 : (w.heap.size + 2) < w1.heap.size := ltc c1_3_0
      go_wp2_with fail
      refine (may_is _ _ _ _ _ _ _ _ _ _ HM' _).mono ?_
      rintro e w2 ⟨rfl, hb2⟩
      have q2_4_0 : CellF w2 ⟨w.heap.size, 0, none⟩ (.int .i64 mn) := (by refine CellF.keep hb2 ?_; repeat (first | with_reducible exact q1_1_0 | (with_reducible refine CellF.at_ ?_ rfl; (first | rfl | (simp; done))) | with_reducible refine CellF.past _ ?_ | with_reducible refine CellF.drew ?_ | with_reducible refine CellF.drewN _ ?_))
      have c2_4_0 := q2_4_0.1
      have q2_4_1 : CellF w2 ⟨w.heap.size, 1, none⟩ (.int .i64 mx) := (by refine CellF.keep hb2 ?_; repeat (first | with_reducible exact q1_1_1 | (with_reducible refine CellF.at_ ?_ rfl; (first | rfl | (simp; done))) | with_reducible refine CellF.past _ ?_ | with_reducible refine CellF.drew ?_ | with_reducible refine CellF.drewN _ ?_))
      have c2_4_1 := q2_4_1.1
      have q2_4_2 : CellF w2 ⟨w.heap.size, 2, none⟩ (.int .i64 g) := (by refine CellF.keep hb2 ?_; repeat (first | with_reducible exact q1_1_2 | (with_reducible refine CellF.at_ ?_ rfl; (first | rfl | (simp; done))) | with_reducible refine CellF.past _ ?_ | with_reducible refine CellF.drew ?_ | with_reducible refine CellF.drewN _ ?_))
      have c2_4_2 := q2_4_2.1
      have z2_4 : w.heap.size < w2.heap.size := ltc c2_4_0
      have q2_5_0 : CellF w2 ⟨(w.heap.size + 1), 0, none⟩ (.int .i64 a) := (by refine CellF.keep hb2 ?_; repeat (first | with_reducible exact q1_2_0 | (with_reducible refine CellF.at_ ?_ rfl; (first | rfl | (simp; done))) | with_reducible refine CellF.past _ ?_ | with_reducible refine CellF.drew ?_ | with_reducible refine CellF.drewN _ ?_))
      have c2_5_0 := q2_5_0.1
      have q2_5_1 : CellF w2 ⟨(w.heap.size + 1), 1, none⟩ (.int .i64 o) := (by refine CellF.keep hb2 ?_; repeat (first | with_reducible exact q1_2_1 | (with_reducible refine CellF.at_ ?_ rfl; (first | rfl | (simp; done))) | with_reducible refine CellF.past _ ?_ | with_reducible refine CellF.drew ?_ | with_reducible refine CellF.drewN _ ?_))
      have c2_5_1 := q2_5_1.1
      have q2_5_2 : CellF w2 ⟨(w.heap.size + 1), 2, none⟩ (.int .i64 k) := (by refine CellF.keep hb2 ?_; repeat (first | with_reducible exact q1_2_2 | (with_reducible refine CellF.at_ ?_ rfl; (first | rfl | (simp; done))) | with_reducible refine CellF.past _ ?_ | with_reducible refine CellF.drew ?_ | with_reducible refine CellF.drewN _ ?_))
      have c2_5_2 := q2_5_2.1
      have q2_5_3 : CellF w2 ⟨(w.heap.size + 1), 3, none⟩ (.int .i64 y0) := (by refine CellF.keep hb2 ?_; repeat (first | with_reducible exact q1_2_3 | (with_reducible refine CellF.at_ ?_ rfl; (first | rfl | (simp; done))) | with_reducible refine CellF.past _ ?_ | with_reducible refine CellF.drew ?_ | with_reducible refine CellF.drewN _ ?_))
      have c2_5_3 := q2_5_3.1
      have q2_5_4 : CellF w2 ⟨(w.heap.size + 1), 4, none⟩ (.int .i64 y1) := (by refine CellF.keep hb2 ?_; repeat (first | with_reducible exact q1_2_4 | (with_reducible refine CellF.at_ ?_ rfl; (first | rfl | (simp; done))) | with_reducible refine CellF.past _ ?_ | with_reducible refine CellF.drew ?_ | with_reducible refine CellF.drewN _ ?_))
      have c2_5_4 := q2_5_4.1
      have q2_5_5 : CellF w2 ⟨(w.heap.size + 1), 5, none⟩ (.int .i64 n) := (by refine CellF.keep hb2 ?_; repeat (first | with_reducible exact q1_2_5 | (with_reducible refine CellF.at_ ?_ rfl; (first | rfl | (simp; done))) | with_reducible refine CellF.past _ ?_ | with_reducible refine CellF.drew ?_ | with_reducible refine CellF.drewN _ ?_))
      have c2_5_5 := q2_5_5.1
      have z2_5 : (w.heap.size + 1) < w2.heap.size := ltc c2_5_0
      have q2_6_0 : CellF w2 ⟨(w.heap.size + 2), 0, none⟩ (.int .i64 a') := (by refine CellF.keep hb2 ?_; repeat (first | with_reducible exact q1_3_0 | (with_reducible refine CellF.at_ ?_ rfl; (first | rfl | (simp; done))) | with_reducible refine CellF.past _ ?_ | with_reducible refine CellF.drew ?_ | with_reducible refine CellF.drewN _ ?_))
      have c2_6_0 := q2_6_0.1
      have q2_6_1 : CellF w2 ⟨(w.heap.size + 2), 1, none⟩ (.int .i64 o') := (by refine CellF.keep hb2 ?_; repeat (first | with_reducible exact q1_3_1 | (with_reducible refine CellF.at_ ?_ rfl; (first | rfl | (simp; done))) | with_reducible refine CellF.past _ ?_ | with_reducible refine CellF.drew ?_ | with_reducible refine CellF.drewN _ ?_))
      have c2_6_1 := q2_6_1.1
      have q2_6_2 : CellF w2 ⟨(w.heap.size + 2), 2, none⟩ (.int .i64 k') := (by refine CellF.keep hb2 ?_; repeat (first | with_reducible exact q1_3_2 | (with_reducible refine CellF.at_ ?_ rfl; (first | rfl | (simp; done))) | with_reducible refine CellF.past _ ?_ | with_reducible refine CellF.drew ?_ | with_reducible refine CellF.drewN _ ?_))
      have c2_6_2 := q2_6_2.1
      have q2_6_3 : CellF w2 ⟨(w.heap.size + 2), 3, none⟩ (.int .i64 y0') := (by refine CellF.keep hb2 ?_; repeat (first | with_reducible exact q1_3_3 | (with_reducible refine CellF.at_ ?_ rfl; (first | rfl | (simp; done))) | with_reducible refine CellF.past _ ?_ | with_reducible refine CellF.drew ?_ | with_reducible refine CellF.drewN _ ?_))
      have c2_6_3 := q2_6_3.1
      have q2_6_4 : CellF w2 ⟨(w.heap.size + 2), 4, none⟩ (.int .i64 y1') := (by refine CellF.keep hb2 ?_; repeat (first | with_reducible exact q1_3_4 | (with_reducible refine CellF.at_ ?_ rfl; (first | rfl | (simp; done))) | with_reducible refine CellF.past _ ?_ | with_reducible refine CellF.drew ?_ | with_reducible refine CellF.drewN _ ?_))
      have c2_6_4 := q2_6_4.1
      have q2_6_5 : CellF w2 ⟨(w.heap.size + 2), 5, none⟩ (.int .i64 n') := (by refine CellF.keep hb2 ?_; repeat (first | with_reducible exact q1_3_5 | (with_reducible refine CellF.at_ ?_ rfl; (first | rfl | (simp; done))) | with_reducible refine CellF.past _ ?_ | with_reducible refine CellF.drew ?_ | with_reducible refine CellF.drewN _ ?_))
      have c2_6_5 := q2_6_5.1
      have z2_6 : (w.heap.size + 2) < w2.heap.size := ltc c2_6_0
      clear q1_1_0 c1_1_0 q1_1_1 c1_1_1 q1_1_2 c1_1_2 z1_1 q1_2_0 c1_2_0 q1_2_1 c1_2_1 q1_2_2 c1_2_2 q1_2_3 c1_2_3 q1_2_4 c1_2_4 q1_2_5 c1_2_5 z1_2 q1_3_0 c1_3_0 q1_3_1 c1_3_1 q1_3_2 c1_3_2 q1_3_3 c1_3_3 q1_3_4 c1_3_4 q1_3_5 c1_3_5 z1_3
      go_wp2_with fail
      refine (alive_is _).mono ?_
      rintro e w3 ⟨rfl, hb3⟩
      have q3_7_0 : CellF w3 ⟨w.heap.size, 0, none⟩ (.int .i64 mn) := (by refine CellF.keep hb3 ?_; repeat (first | with_reducible exact q2_4_0 | (with_reducible refine CellF.at_ ?_ rfl; (first | rfl | (simp; done))) | with_reducible refine CellF.past _ ?_ | with_reducible refine CellF.drew ?_ | with_reducible refine CellF.drewN _ ?_))
      have c3_7_0 := q3_7_0.1
      have q3_7_1 : CellF w3 ⟨w.heap.size, 1, none⟩ (.int .i64 mx) := (by refine CellF.keep hb3 ?_; repeat (first | with_reducible exact q2_4_1 | (with_reducible refine CellF.at_ ?_ rfl; (first | rfl | (simp; done))) | with_reducible refine CellF.past _ ?_ | with_reducible refine CellF.drew ?_ | with_reducible refine CellF.drewN _ ?_))
      have c3_7_1 := q3_7_1.1
      have q3_7_2 : CellF w3 ⟨w.heap.size, 2, none⟩ (.int .i64 g) := (by refine CellF.keep hb3 ?_; repeat (first | with_reducible exact q2_4_2 | (with_reducible refine CellF.at_ ?_ rfl; (first | rfl | (simp; done))) | with_reducible refine CellF.past _ ?_ | with_reducible refine CellF.drew ?_ | with_reducible refine CellF.drewN _ ?_))
      have c3_7_2 := q3_7_2.1
      have z3_7 : w.heap.size < w3.heap.size := ltc c3_7_0
      have q3_8_0 : CellF w3 ⟨(w.heap.size + 1), 0, none⟩ (.int .i64 a) := (by refine CellF.keep hb3 ?_; repeat (first | with_reducible exact q2_5_0 | (with_reducible refine CellF.at_ ?_ rfl; (first | rfl | (simp; done))) | with_reducible refine CellF.past _ ?_ | with_reducible refine CellF.drew ?_ | with_reducible refine CellF.drewN _ ?_))
      have c3_8_0 := q3_8_0.1
      have q3_8_1 : CellF w3 ⟨(w.heap.size + 1), 1, none⟩ (.int .i64 o) := (by refine CellF.keep hb3 ?_; repeat (first | with_reducible exact q2_5_1 | (with_reducible refine CellF.at_ ?_ rfl; (first | rfl | (simp; done))) | with_reducible refine CellF.past _ ?_ | with_reducible refine CellF.drew ?_ | with_reducible refine CellF.drewN _ ?_))
      have c3_8_1 := q3_8_1.1
      have q3_8_2 : CellF w3 ⟨(w.heap.size + 1), 2, none⟩ (.int .i64 k) := (by refine CellF.keep hb3 ?_; repeat (first | with_reducible exact q2_5_2 | (with_reducible refine CellF.at_ ?_ rfl; (first | rfl | (simp; done))) | with_reducible refine CellF.past _ ?_ | with_reducible refine CellF.drew ?_ | with_reducible refine CellF.drewN _ ?_))
      have c3_8_2 := q3_8_2.1
      have q3_8_3 : CellF w3 ⟨(w.heap.size + 1), 3, none⟩ (.int .i64 y0) := (by refine CellF.keep hb3 ?_; repeat (first | with_reducible exact q2_5_3 | (with_reducible refine CellF.at_ ?_ rfl; (first | rfl | (simp; done))) | with_reducible refine CellF.past _ ?_ | with_reducible refine CellF.drew ?_ | with_reducible refine CellF.drewN _ ?_))
      have c3_8_3 := q3_8_3.1
      have q3_8_4 : CellF w3 ⟨(w.heap.size + 1), 4, none⟩ (.int .i64 y1) := (by refine CellF.keep hb3 ?_; repeat (first | with_reducible exact q2_5_4 | (with_reducible refine CellF.at_ ?_ rfl; (first | rfl | (simp; done))) | with_reducible refine CellF.past _ ?_ | with_reducible refine CellF.drew ?_ | with_reducible refine CellF.drewN _ ?_))
      have c3_8_4 := q3_8_4.1
      have q3_8_5 : CellF w3 ⟨(w.heap.size + 1), 5, none⟩ (.int .i64 n) := (by refine CellF.keep hb3 ?_; repeat (first | with_reducible exact q2_5_5 | (with_reducible refine CellF.at_ ?_ rfl; (first | rfl | (simp; done))) | with_reducible refine CellF.past _ ?_ | with_reducible refine CellF.drew ?_ | with_reducible refine CellF.drewN _ ?_))
      have c3_8_5 := q3_8_5.1
      have z3_8 : (w.heap.size + 1) < w3.heap.size := ltc c3_8_0
      have q3_9_0 : CellF w3 ⟨(w.heap.size + 2), 0, none⟩ (.int .i64 a') := (by refine CellF.keep hb3 ?_; repeat (first | with_reducible exact q2_6_0 | (with_reducible refine CellF.at_ ?_ rfl; (first | rfl | (simp; done))) | with_reducible refine CellF.past _ ?_ | with_reducible refine CellF.drew ?_ | with_reducible refine CellF.drewN _ ?_))
      have c3_9_0 := q3_9_0.1
      have q3_9_1 : CellF w3 ⟨(w.heap.size + 2), 1, none⟩ (.int .i64 o') := (by refine CellF.keep hb3 ?_; repeat (first | with_reducible exact q2_6_1 | (with_reducible refine CellF.at_ ?_ rfl; (first | rfl | (simp; done))) | with_reducible refine CellF.past _ ?_ | with_reducible refine CellF.drew ?_ | with_reducible refine CellF.drewN _ ?_))
      have c3_9_1 := q3_9_1.1
      have q3_9_2 : CellF w3 ⟨(w.heap.size + 2), 2, none⟩ (.int .i64 k') := (by refine CellF.keep hb3 ?_; repeat (first | with_reducible exact q2_6_2 | (with_reducible refine CellF.at_ ?_ rfl; (first | rfl | (simp; done))) | with_reducible refine CellF.past _ ?_ | with_reducible refine CellF.drew ?_ | with_reducible refine CellF.drewN _ ?_))
      have c3_9_2 := q3_9_2.1
      have q3_9_3 : CellF w3 ⟨(w.heap.size + 2), 3, none⟩ (.int .i64 y0') := (by refine CellF.keep hb3 ?_; repeat (first | with_reducible exact q2_6_3 | (with_reducible refine CellF.at_ ?_ rfl; (first | rfl | (simp; done))) | with_reducible refine CellF.past _ ?_ | with_reducible refine CellF.drew ?_ | with_reducible refine CellF.drewN _ ?_))
      have c3_9_3 := q3_9_3.1
      have q3_9_4 : CellF w3 ⟨(w.heap.size + 2), 4, none⟩ (.int .i64 y1') := (by refine CellF.keep hb3 ?_; repeat (first | with_reducible exact q2_6_4 | (with_reducible refine CellF.at_ ?_ rfl; (first | rfl | (simp; done))) | with_reducible refine CellF.past _ ?_ | with_reducible refine CellF.drew ?_ | with_reducible refine CellF.drewN _ ?_))
      have c3_9_4 := q3_9_4.1
      have q3_9_5 : CellF w3 ⟨(w.heap.size + 2), 5, none⟩ (.int .i64 n') := (by refine CellF.keep hb3 ?_; repeat (first | with_reducible exact q2_6_5 | (with_reducible refine CellF.at_ ?_ rfl; (first | rfl | (simp; done))) | with_reducible refine CellF.past _ ?_ | with_reducible refine CellF.drew ?_ | with_reducible refine CellF.drewN _ ?_))
      have c3_9_5 := q3_9_5.1
      have z3_9 : (w.heap.size + 2) < w3.heap.size := ltc c3_9_0
      clear q2_4_0 c2_4_0 q2_4_1 c2_4_1 q2_4_2 c2_4_2 z2_4 q2_5_0 c2_5_0 q2_5_1 c2_5_1 q2_5_2 c2_5_2 q2_5_3 c2_5_3 q2_5_4 c2_5_4 q2_5_5 c2_5_5 z2_5 q2_6_0 c2_6_0 q2_6_1 c2_6_1 q2_6_2 c2_6_2 q2_6_3 c2_6_3 q2_6_4 c2_6_4 q2_6_5 c2_6_5 z2_6
      all_goals (go_wp2; go_ret; exact ⟨rfl, (by repeat (first | exact brefl _ | refine balloc ?_ _ | refine bdrewN ?_ _ | refine bset ?_ (by dsimp only; omega) _ | refine bstep ?_ (by assumption)))⟩)
    | true =>
      have hp := mayB_iff.1 hm
      have hp' := mayB_iff.1 hm'
      have Q := Lib.hid hp
      have Q' := Lib.hid hp'
      obtain ⟨hr, i1, i2, i3, i4, r1, r2, j1, j2, j3, j4⟩ := hp
      obtain ⟨_, i1', i2', i3', i4', r1', r2', j1', j2', j3', j4'⟩ := hp'
      obtain ⟨g2, _, g3, g0, g1⟩ := pRight_iff.1 hr
      clear hr hm hm'
      unfold InQ at i1 i2 i3 i4 i1' i2' i3' i4'
      obtain ⟨q, hq⟩ : ∃ q, (inQb (n * 16) && (inQb (n' * 16))) = q := ⟨_, rfl⟩
      cases q with
      | false =>
        have HQ := Lib.hid hq
        clear hq Q Q'
        go_enter Try.func3, Try.ntmps3
        go_wp2_with fail
        refine (may_is _ _ _ _ _ _ _ _ _ _ HM _).mono ?_
        rintro e w1 ⟨rfl, hb1⟩
        have q1_1_0 : CellF w1 ⟨w.heap.size, 0, none⟩ (.int .i64 mn) := (by refine CellF.keep hb1 ?_; (first | ((repeat (first | (with_reducible refine CellF.at_ ?_ rfl; (first | rfl | (simp; done))) | with_reducible refine CellF.past _ ?_ | with_reducible refine CellF.drew ?_ | with_reducible refine CellF.drewN _ ?_)); done) | (refine ⟨?_, ?_⟩ <;> go_simp)))
        have c1_1_0 := q1_1_0.1
        have q1_1_1 : CellF w1 ⟨w.heap.size, 1, none⟩ (.int .i64 mx) := (by refine CellF.keep hb1 ?_; (first | ((repeat (first | (with_reducible refine CellF.at_ ?_ rfl; (first | rfl | (simp; done))) | with_reducible refine CellF.past _ ?_ | with_reducible refine CellF.drew ?_ | with_reducible refine CellF.drewN _ ?_)); done) | (refine ⟨?_, ?_⟩ <;> go_simp)))
        have c1_1_1 := q1_1_1.1
        have q1_1_2 : CellF w1 ⟨w.heap.size, 2, none⟩ (.int .i64 g) := (by refine CellF.keep hb1 ?_; (first | ((repeat (first | (with_reducible refine CellF.at_ ?_ rfl; (first | rfl | (simp; done))) | with_reducible refine CellF.past _ ?_ | with_reducible refine CellF.drew ?_ | with_reducible refine CellF.drewN _ ?_)); done) | (refine ⟨?_, ?_⟩ <;> go_simp)))
        have c1_1_2 := q1_1_2.1
        have z1_1 : w.heap.size < w1.heap.size := ltc c1_1_0
        have q1_2_0 : CellF w1 ⟨(w.heap.size + 1), 0, none⟩ (.int .i64 a) := (by refine CellF.keep hb1 ?_; (first | ((repeat (first | (with_reducible refine CellF.at_ ?_ rfl; (first | rfl | (simp; done))) | with_reducible refine CellF.past _ ?_ | with_reducible refine CellF.drew ?_ | with_reducible refine CellF.drewN _ ?_)); done) | (refine ⟨?_, ?_⟩ <;> go_simp)))
        have c1_2_0 := q1_2_0.1
        have q1_2_1 : CellF w1 ⟨(w.heap.size + 1), 1, none⟩ (.int .i64 o) := (by refine CellF.keep hb1 ?_; (first | ((repeat (first | (with_reducible refine CellF.at_ ?_ rfl; (first | rfl | (simp; done))) | with_reducible refine CellF.past _ ?_ | with_reducible refine CellF.drew ?_ | with_reducible refine CellF.drewN _ ?_)); done) | (refine ⟨?_, ?_⟩ <;> go_simp)))
        have c1_2_1 := q1_2_1.1
        have q1_2_2 : CellF w1 ⟨(w.heap.size + 1), 2, none⟩ (.int .i64 k) := (by refine CellF.keep hb1 ?_; (first | ((repeat (first | (with_reducible refine CellF.at_ ?_ rfl; (first | rfl | (simp; done))) | with_reducible refine CellF.past _ ?_ | with_reducible refine CellF.drew ?_ | with_reducible refine CellF.drewN _ ?_)); done) | (refine ⟨?_, ?_⟩ <;> go_simp)))
        have c1_2_2 := q1_2_2.1
        have q1_2_3 : CellF w1 ⟨(w.heap.size + 1), 3, none⟩ (.int .i64 y0) := (by refine CellF.keep hb1 ?_; (first | ((repeat (first | (with_reducible refine CellF.at_ ?_ rfl; (first | rfl | (simp; done))) | with_reducible refine CellF.past _ ?_ | with_reducible refine CellF.drew ?_ | with_reducible refine CellF.drewN _ ?_)); done) | (refine ⟨?_, ?_⟩ <;> go_simp)))
        have c1_2_3 := q1_2_3.1
        have q1_2_4 : CellF w1 ⟨(w.heap.size + 1), 4, none⟩ (.int .i64 y1) := (by refine CellF.keep hb1 ?_; (first | ((repeat (first | (with_reducible refine CellF.at_ ?_ rfl; (first | rfl | (simp; done))) | with_reducible refine CellF.past _ ?_ | with_reducible refine CellF.drew ?_ | with_reducible refine CellF.drewN _ ?_)); done) | (refine ⟨?_, ?_⟩ <;> go_simp)))
        have c1_2_4 := q1_2_4.1
        have q1_2_5 : CellF w1 ⟨(w.heap.size + 1), 5, none⟩ (.int .i64 n) := (by refine CellF.keep hb1 ?_; (first | ((repeat (first | (with_reducible refine CellF.at_ ?_ rfl; (first | rfl | (simp; done))) | with_reducible refine CellF.past _ ?_ | with_reducible refine CellF.drew ?_ | with_reducible refine CellF.drewN _ ?_)); done) | (refine ⟨?_, ?_⟩ <;> go_simp)))
        have c1_2_5 := q1_2_5.1
        have z1_2 : (w.heap.size + 1) < w1.heap.size := ltc c1_2_0
        have q1_3_0 : CellF w1 ⟨(w.heap.size + 2), 0, none⟩ (.int .i64 a') := (by refine CellF.keep hb1 ?_; (first | ((repeat (first | (with_reducible refine CellF.at_ ?_ rfl; (first | rfl | (simp; done))) | with_reducible refine CellF.past _ ?_ | with_reducible refine CellF.drew ?_ | with_reducible refine CellF.drewN _ ?_)); done) | (refine ⟨?_, ?_⟩ <;> go_simp)))
        have c1_3_0 := q1_3_0.1
        have q1_3_1 : CellF w1 ⟨(w.heap.size + 2), 1, none⟩ (.int .i64 o') := (by refine CellF.keep hb1 ?_; (first | ((repeat (first | (with_reducible refine CellF.at_ ?_ rfl; (first | rfl | (simp; done))) | with_reducible refine CellF.past _ ?_ | with_reducible refine CellF.drew ?_ | with_reducible refine CellF.drewN _ ?_)); done) | (refine ⟨?_, ?_⟩ <;> go_simp)))
        have c1_3_1 := q1_3_1.1
        have q1_3_2 : CellF w1 ⟨(w.heap.size + 2), 2, none⟩ (.int .i64 k') := (by refine CellF.keep hb1 ?_; (first | ((repeat (first | (with_reducible refine CellF.at_ ?_ rfl; (first | rfl | (simp; done))) | with_reducible refine CellF.past _ ?_ | with_reducible refine CellF.drew ?_ | with_reducible refine CellF.drewN _ ?_)); done) | (refine ⟨?_, ?_⟩ <;> go_simp)))
        have c1_3_2 := q1_3_2.1
        have q1_3_3 : CellF w1 ⟨(w.heap.size + 2), 3, none⟩ (.int .i64 y0') := (by refine CellF.keep hb1 ?_; (first | ((repeat (first | (with_reducible refine CellF.at_ ?_ rfl; (first | rfl | (simp; done))) | with_reducible refine CellF.past _ ?_ | with_reducible refine CellF.drew ?_ | with_reducible refine CellF.drewN _ ?_)); done) | (refine ⟨?_, ?_⟩ <;> go_simp)))
        have c1_3_3 := q1_3_3.1
        have q1_3_4 : CellF w1 ⟨(w.heap.size + 2), 4, none⟩ (.int .i64 y1') := (by refine CellF.keep hb1 ?_; (first | ((repeat (first | (with_reducible refine CellF.at_ ?_ rfl; (first | rfl | (simp; done))) | with_reducible refine CellF.past _ ?_ | with_reducible refine CellF.drew ?_ | with_reducible refine CellF.drewN _ ?_)); done) | (refine ⟨?_, ?_⟩ <;> go_simp)))
        have c1_3_4 := q1_3_4.1
        have q1_3_5 : CellF w1 ⟨(w.heap.size + 2), 5, none⟩ (.int .i64 n') := (by refine CellF.keep hb1 ?_; (first | ((repeat (first | (with_reducible refine CellF.at_ ?_ rfl; (first | rfl | (simp; done))) | with_reducible refine CellF.past _ ?_ | with_reducible refine CellF.drew ?_ | with_reducible refine CellF.drewN _ ?_)); done) | (refine ⟨?_, ?_⟩ <;> go_simp)))
        have c1_3_5 := q1_3_5.1
        have z1_3 : (w.heap.size + 2) < w1.heap.size := ltc c1_3_0
        go_wp2_with fail
        refine (may_is _ _ _ _ _ _ _ _ _ _ HM' _).mono ?_
        rintro e w2 ⟨rfl, hb2⟩
        have q2_4_0 : CellF w2 ⟨w.heap.size, 0, none⟩ (.int .i64 mn) := (by refine CellF.keep hb2 ?_; repeat (first | with_reducible exact q1_1_0 | (with_reducible refine CellF.at_ ?_ rfl; (first | rfl | (simp; done))) | with_reducible refine CellF.past _ ?_ | with_reducible refine CellF.drew ?_ | with_reducible refine CellF.drewN _ ?_))
        have c2_4_0 := q2_4_0.1
        have q2_4_1 : CellF w2 ⟨w.heap.size, 1, none⟩ (.int .i64 mx) := (by refine CellF.keep hb2 ?_; repeat (first | with_reducible exact q1_1_1 | (with_reducible refine CellF.at_ ?_ rfl; (first | rfl | (simp; done))) | with_reducible refine CellF.past _ ?_ | with_reducible refine CellF.drew ?_ | with_reducible refine CellF.drewN _ ?_))
        have c2_4_1 := q2_4_1.1
        have q2_4_2 : CellF w2 ⟨w.heap.size, 2, none⟩ (.int .i64 g) := (by refine CellF.keep hb2 ?_; repeat (first | with_reducible exact q1_1_2 | (with_reducible refine CellF.at_ ?_ rfl; (first | rfl | (simp; done))) | with_reducible refine CellF.past _ ?_ | with_reducible refine CellF.drew ?_ | with_reducible refine CellF.drewN _ ?_))
        have c2_4_2 := q2_4_2.1
        have z2_4 : w.heap.size < w2.heap.size := ltc c2_4_0
        have q2_5_0 : CellF w2 ⟨(w.heap.size + 1), 0, none⟩ (.int .i64 a) := (by refine CellF.keep hb2 ?_; repeat (first | with_reducible exact q1_2_0 | (with_reducible refine CellF.at_ ?_ rfl; (first | rfl | (simp; done))) | with_reducible refine CellF.past _ ?_ | with_reducible refine CellF.drew ?_ | with_reducible refine CellF.drewN _ ?_))
        have c2_5_0 := q2_5_0.1
        have q2_5_1 : CellF w2 ⟨(w.heap.size + 1), 1, none⟩ (.int .i64 o) := (by refine CellF.keep hb2 ?_; repeat (first | with_reducible exact q1_2_1 | (with_reducible refine CellF.at_ ?_ rfl; (first | rfl | (simp; done))) | with_reducible refine CellF.past _ ?_ | with_reducible refine CellF.drew ?_ | with_reducible refine CellF.drewN _ ?_))
        have c2_5_1 := q2_5_1.1
        have q2_5_2 : CellF w2 ⟨(w.heap.size + 1), 2, none⟩ (.int .i64 k) := (by refine CellF.keep hb2 ?_; repeat (first | with_reducible exact q1_2_2 | (with_reducible refine CellF.at_ ?_ rfl; (first | rfl | (simp; done))) | with_reducible refine CellF.past _ ?_ | with_reducible refine CellF.drew ?_ | with_reducible refine CellF.drewN _ ?_))
        have c2_5_2 := q2_5_2.1
        have q2_5_3 : CellF w2 ⟨(w.heap.size + 1), 3, none⟩ (.int .i64 y0) := (by refine CellF.keep hb2 ?_; repeat (first | with_reducible exact q1_2_3 | (with_reducible refine CellF.at_ ?_ rfl; (first | rfl | (simp; done))) | with_reducible refine CellF.past _ ?_ | with_reducible refine CellF.drew ?_ | with_reducible refine CellF.drewN _ ?_))
        have c2_5_3 := q2_5_3.1
        have q2_5_4 : CellF w2 ⟨(w.heap.size + 1), 4, none⟩ (.int .i64 y1) := (by refine CellF.keep hb2 ?_; repeat (first | with_reducible exact q1_2_4 | (with_reducible refine CellF.at_ ?_ rfl; (first | rfl | (simp; done))) | with_reducible refine CellF.past _ ?_ | with_reducible refine CellF.drew ?_ | with_reducible refine CellF.drewN _ ?_))
        have c2_5_4 := q2_5_4.1
        have q2_5_5 : CellF w2 ⟨(w.heap.size + 1), 5, none⟩ (.int .i64 n) := (by refine CellF.keep hb2 ?_; repeat (first | with_reducible exact q1_2_5 | (with_reducible refine CellF.at_ ?_ rfl; (first | rfl | (simp; done))) | with_reducible refine CellF.past _ ?_ | with_reducible refine CellF.drew ?_ | with_reducible refine CellF.drewN _ ?_))
        have c2_5_5 := q2_5_5.1
        have z2_5 : (w.heap.size + 1) < w2.heap.size := ltc c2_5_0
        have q2_6_0 : CellF w2 ⟨(w.heap.size + 2), 0, none⟩ (.int .i64 a') := (by refine CellF.keep hb2 ?_; repeat (first | with_reducible exact q1_3_0 | (with_reducible refine CellF.at_ ?_ rfl; (first | rfl | (simp; done))) | with_reducible refine CellF.past _ ?_ | with_reducible refine CellF.drew ?_ | with_reducible refine CellF.drewN _ ?_))
        have c2_6_0 := q2_6_0.1
        have q2_6_1 : CellF w2 ⟨(w.heap.size + 2), 1, none⟩ (.int .i64 o') := (by refine CellF.keep hb2 ?_; repeat (first | with_reducible exact q1_3_1 | (with_reducible refine CellF.at_ ?_ rfl; (first | rfl | (simp; done))) | with_reducible refine CellF.past _ ?_ | with_reducible refine CellF.drew ?_ | with_reducible refine CellF.drewN _ ?_))
        have c2_6_1 := q2_6_1.1
        have q2_6_2 : CellF w2 ⟨(w.heap.size + 2), 2, none⟩ (.int .i64 k') := (by refine CellF.keep hb2 ?_; repeat (first | with_reducible exact q1_3_2 | (with_reducible refine CellF.at_ ?_ rfl; (first | rfl | (simp; done))) | with_reducible refine CellF.past _ ?_ | with_reducible refine CellF.drew ?_ | with_reducible refine CellF.drewN _ ?_))
        have c2_6_2 := q2_6_2.1
        have q2_6_3 : CellF w2 ⟨(w.heap.size + 2), 3, none⟩ (.int .i64 y0') := (by refine CellF.keep hb2 ?_; repeat (first | with_reducible exact q1_3_3 | (with_reducible refine CellF.at_ ?_ rfl; (first | rfl | (simp; done))) | with_reducible refine CellF.past _ ?_ | with_reducible refine CellF.drew ?_ | with_reducible refine CellF.drewN _ ?_))
        have c2_6_3 := q2_6_3.1
        have q2_6_4 : CellF w2 ⟨(w.heap.size + 2), 4, none⟩ (.int .i64 y1') := (by refine CellF.keep hb2 ?_; repeat (first | with_reducible exact q1_3_4 | (with_reducible refine CellF.at_ ?_ rfl; (first | rfl | (simp; done))) | with_reducible refine CellF.past _ ?_ | with_reducible refine CellF.drew ?_ | with_reducible refine CellF.drewN _ ?_))
        have c2_6_4 := q2_6_4.1
        have q2_6_5 : CellF w2 ⟨(w.heap.size + 2), 5, none⟩ (.int .i64 n') := (by refine CellF.keep hb2 ?_; repeat (first | with_reducible exact q1_3_5 | (with_reducible refine CellF.at_ ?_ rfl; (first | rfl | (simp; done))) | with_reducible refine CellF.past _ ?_ | with_reducible refine CellF.drew ?_ | with_reducible refine CellF.drewN _ ?_))
        have c2_6_5 := q2_6_5.1
        have z2_6 : (w.heap.size + 2) < w2.heap.size := ltc c2_6_0
        clear q1_1_0 c1_1_0 q1_1_1 c1_1_1 q1_1_2 c1_1_2 z1_1 q1_2_0 c1_2_0 q1_2_1 c1_2_1 q1_2_2 c1_2_2 q1_2_3 c1_2_3 q1_2_4 c1_2_4 q1_2_5 c1_2_5 z1_2 q1_3_0 c1_3_0 q1_3_1 c1_3_1 q1_3_2 c1_3_2 q1_3_3 c1_3_3 q1_3_4 c1_3_4 q1_3_5 c1_3_5 z1_3
        go_wp2_with fail
        refine (smallQ2 _ _ _ HQ.out _ _ (by first | go_simp) (by first | go_simp)).mono ?_
        rintro e _ ⟨rfl, rfl⟩
        go_wp2_with fail
        refine (alive_is _).mono ?_
        rintro e w3 ⟨rfl, hb3⟩
        have q3_7_0 : CellF w3 ⟨w.heap.size, 0, none⟩ (.int .i64 mn) := (by refine CellF.keep hb3 ?_; repeat (first | with_reducible exact q2_4_0 | (with_reducible refine CellF.at_ ?_ rfl; (first | rfl | (simp; done))) | with_reducible refine CellF.past _ ?_ | with_reducible refine CellF.drew ?_ | with_reducible refine CellF.drewN _ ?_))
        have c3_7_0 := q3_7_0.1
        have q3_7_1 : CellF w3 ⟨w.heap.size, 1, none⟩ (.int .i64 mx) := (by refine CellF.keep hb3 ?_; repeat (first | with_reducible exact q2_4_1 | (with_reducible refine CellF.at_ ?_ rfl; (first | rfl | (simp; done))) | with_reducible refine CellF.past _ ?_ | with_reducible refine CellF.drew ?_ | with_reducible refine CellF.drewN _ ?_))
        have c3_7_1 := q3_7_1.1
        have q3_7_2 : CellF w3 ⟨w.heap.size, 2, none⟩ (.int .i64 g) := (by refine CellF.keep hb3 ?_; repeat (first | with_reducible exact q2_4_2 | (with_reducible refine CellF.at_ ?_ rfl; (first | rfl | (simp; done))) | with_reducible refine CellF.past _ ?_ | with_reducible refine CellF.drew ?_ | with_reducible refine CellF.drewN _ ?_))
        have c3_7_2 := q3_7_2.1
        have z3_7 : w.heap.size < w3.heap.size := ltc c3_7_0
        have q3_8_0 : CellF w3 ⟨(w.heap.size + 1), 0, none⟩ (.int .i64 a) := (by refine CellF.keep hb3 ?_; repeat (first | with_reducible exact q2_5_0 | (with_reducible refine CellF.at_ ?_ rfl; (first | rfl | (simp; done))) | with_reducible refine CellF.past _ ?_ | with_reducible refine CellF.drew ?_ | with_reducible refine CellF.drewN _ ?_))
        have c3_8_0 := q3_8_0.1
        have q3_8_1 : CellF w3 ⟨(w.heap.size + 1), 1, none⟩ (.int .i64 o) := (by refine CellF.keep hb3 ?_; repeat (first | with_reducible exact q2_5_1 | (with_reducible refine CellF.at_ ?_ rfl; (first | rfl | (simp; done))) | with_reducible refine CellF.past _ ?_ | with_reducible refine CellF.drew ?_ | with_reducible refine CellF.drewN _ ?_))
        have c3_8_1 := q3_8_1.1
        have q3_8_2 : CellF w3 ⟨(w.heap.size + 1), 2, none⟩ (.int .i64 k) := (by refine CellF.keep hb3 ?_; repeat (first | with_reducible exact q2_5_2 | (with_reducible refine CellF.at_ ?_ rfl; (first | rfl | (simp; done))) | with_reducible refine CellF.past _ ?_ | with_reducible refine CellF.drew ?_ | with_reducible refine CellF.drewN _ ?_))
        have c3_8_2 := q3_8_2.1
        have q3_8_3 : CellF w3 ⟨(w.heap.size + 1), 3, none⟩ (.int .i64 y0) := (by refine CellF.keep hb3 ?_; repeat (first | with_reducible exact q2_5_3 | (with_reducible refine CellF.at_ ?_ rfl; (first | rfl | (simp; done))) | with_reducible refine CellF.past _ ?_ | with_reducible refine CellF.drew ?_ | with_reducible refine CellF.drewN _ ?_))
        have c3_8_3 := q3_8_3.1
        have q3_8_4 : CellF w3 ⟨(w.heap.size + 1), 4, none⟩ (.int .i64 y1) := (by refine CellF.keep hb3 ?_; repeat (first | with_reducible exact q2_5_4 | (with_reducible refine CellF.at_ ?_ rfl; (first | rfl | (simp; done))) | with_reducible refine CellF.past _ ?_ | with_reducible refine CellF.drew ?_ | with_reducible refine CellF.drewN _ ?_))
        have c3_8_4 := q3_8_4.1
        have q3_8_5 : CellF w3 ⟨(w.heap.size + 1), 5, none⟩ (.int .i64 n) := (by refine CellF.keep hb3 ?_; repeat (first | with_reducible exact q2_5_5 | (with_reducible refine CellF.at_ ?_ rfl; (first | rfl | (simp; done))) | with_reducible refine CellF.past _ ?_ | with_reducible refine CellF.drew ?_ | with_reducible refine CellF.drewN _ ?_))
        have c3_8_5 := q3_8_5.1
        have z3_8 : (w.heap.size + 1) < w3.heap.size := ltc c3_8_0
        have q3_9_0 : CellF w3 ⟨(w.heap.size + 2), 0, none⟩ (.int .i64 a') := (by refine CellF.keep hb3 ?_; repeat (first | with_reducible exact q2_6_0 | (with_reducible refine CellF.at_ ?_ rfl; (first | rfl | (simp; done))) | with_reducible refine CellF.past _ ?_ | with_reducible refine CellF.drew ?_ | with_reducible refine CellF.drewN _ ?_))
        have c3_9_0 := q3_9_0.1
        have q3_9_1 : CellF w3 ⟨(w.heap.size + 2), 1, none⟩ (.int .i64 o') := (by refine CellF.keep hb3 ?_; repeat (first | with_reducible exact q2_6_1 | (with_reducible refine CellF.at_ ?_ rfl; (first | rfl | (simp; done))) | with_reducible refine CellF.past _ ?_ | with_reducible refine CellF.drew ?_ | with_reducible refine CellF.drewN _ ?_))
        have c3_9_1 := q3_9_1.1
        have q3_9_2 : CellF w3 ⟨(w.heap.size + 2), 2, none⟩ (.int .i64 k') := (by refine CellF.keep hb3 ?_; repeat (first | with_reducible exact q2_6_2 | (with_reducible refine CellF.at_ ?_ rfl; (first | rfl | (simp; done))) | with_reducible refine CellF.past _ ?_ | with_reducible refine CellF.drew ?_ | with_reducible refine CellF.drewN _ ?_))
        have c3_9_2 := q3_9_2.1
        have q3_9_3 : CellF w3 ⟨(w.heap.size + 2), 3, none⟩ (.int .i64 y0') := (by refine CellF.keep hb3 ?_; repeat (first | with_reducible exact q2_6_3 | (with_reducible refine CellF.at_ ?_ rfl; (first | rfl | (simp; done))) | with_reducible refine CellF.past _ ?_ | with_reducible refine CellF.drew ?_ | with_reducible refine CellF.drewN _ ?_))
        have c3_9_3 := q3_9_3.1
        have q3_9_4 : CellF w3 ⟨(w.heap.size + 2), 4, none⟩ (.int .i64 y1') := (by refine CellF.keep hb3 ?_; repeat (first | with_reducible exact q2_6_4 | (with_reducible refine CellF.at_ ?_ rfl; (first | rfl | (simp; done))) | with_reducible refine CellF.past _ ?_ | with_reducible refine CellF.drew ?_ | with_reducible refine CellF.drewN _ ?_))
        have c3_9_4 := q3_9_4.1
        have q3_9_5 : CellF w3 ⟨(w.heap.size + 2), 5, none⟩ (.int .i64 n') := (by refine CellF.keep hb3 ?_; repeat (first | with_reducible exact q2_6_5 | (with_reducible refine CellF.at_ ?_ rfl; (first | rfl | (simp; done))) | with_reducible refine CellF.past _ ?_ | with_reducible refine CellF.drew ?_ | with_reducible refine CellF.drewN _ ?_))
        have c3_9_5 := q3_9_5.1
        have z3_9 : (w.heap.size + 2) < w3.heap.size := ltc c3_9_0
        clear q2_4_0 c2_4_0 q2_4_1 c2_4_1 q2_4_2 c2_4_2 z2_4 q2_5_0 c2_5_0 q2_5_1 c2_5_1 q2_5_2 c2_5_2 q2_5_3 c2_5_3 q2_5_4 c2_5_4 q2_5_5 c2_5_5 z2_5 q2_6_0 c2_6_0 q2_6_1 c2_6_1 q2_6_2 c2_6_2 q2_6_3 c2_6_3 q2_6_4 c2_6_4 q2_6_5 c2_6_5 z2_6
        all_goals (go_wp2; go_ret; exact ⟨rfl, (by repeat (first | exact brefl _ | refine balloc ?_ _ | refine bdrewN ?_ _ | refine bset ?_ (by dsimp only; omega) _ | refine bstep ?_ (by assumption)))⟩)
      | true =>
        have hq1 := inQb_iff.1 (Bool.and_eq_true_iff.1 hq).1
        have hq2 := inQb_iff.1 (Bool.and_eq_true_iff.1 hq).2
        have HQ := Lib.hid hq
        clear hq
        obtain ⟨l, u, l2, u2, e1, e2, e3, e4⟩ := both_true Q.out Q'.out hq1 hq2
        have HB := Lib.hid e1
        have HH := Lib.hid e2
        have HC := Lib.hid e3
        have hk2 : (k + k').tdiv 2 = (k + k') / 2 := Int.tdiv_eq_ediv_of_nonneg (by omega)
        have HK := Lib.hid (show spHas ⟨l2, u2, true⟩ ((k + k').tdiv 2) = true by rw [hk2]; exact e4)
        have hc0 := corr64 hq1
        have hc1 := corr64 hq2
        unfold InQ at hq1 hq2
        clear e1 e2 e3 e4 Q Q' hk2
        go_enter Try.func3, Try.ntmps3
        go_wp2_with fail
        refine (may_is _ _ _ _ _ _ _ _ _ _ HM _).mono ?_
        rintro e w1 ⟨rfl, hb1⟩
        have q1_1_0 : CellF w1 ⟨w.heap.size, 0, none⟩ (.int .i64 mn) := (by refine CellF.keep hb1 ?_; (first | ((repeat (first | (with_reducible refine CellF.at_ ?_ rfl; (first | rfl | (simp; done))) | with_reducible refine CellF.past _ ?_ | with_reducible refine CellF.drew ?_ | with_reducible refine CellF.drewN _ ?_)); done) | (refine ⟨?_, ?_⟩ <;> go_simp)))
        have c1_1_0 := q1_1_0.1
        have q1_1_1 : CellF w1 ⟨w.heap.size, 1, none⟩ (.int .i64 mx) := (by refine CellF.keep hb1 ?_; (first | ((repeat (first | (with_reducible refine CellF.at_ ?_ rfl; (first | rfl | (simp; done))) | with_reducible refine CellF.past _ ?_ | with_reducible refine CellF.drew ?_ | with_reducible refine CellF.drewN _ ?_)); done) | (refine ⟨?_, ?_⟩ <;> go_simp)))
        have c1_1_1 := q1_1_1.1
        have q1_1_2 : CellF w1 ⟨w.heap.size, 2, none⟩ (.int .i64 g) := (by refine CellF.keep hb1 ?_; (first | ((repeat (first | (with_reducible refine CellF.at_ ?_ rfl; (first | rfl | (simp; done))) | with_reducible refine CellF.past _ ?_ | with_reducible refine CellF.drew ?_ | with_reducible refine CellF.drewN _ ?_)); done) | (refine ⟨?_, ?_⟩ <;> go_simp)))
        have c1_1_2 := q1_1_2.1
        have z1_1 : w.heap.size < w1.heap.size := ltc c1_1_0
        have q1_2_0 : CellF w1 ⟨(w.heap.size + 1), 0, none⟩ (.int .i64 a) := (by refine CellF.keep hb1 ?_; (first | ((repeat (first | (with_reducible refine CellF.at_ ?_ rfl; (first | rfl | (simp; done))) | with_reducible refine CellF.past _ ?_ | with_reducible refine CellF.drew ?_ | with_reducible refine CellF.drewN _ ?_)); done) | (refine ⟨?_, ?_⟩ <;> go_simp)))
        have c1_2_0 := q1_2_0.1
        have q1_2_1 : CellF w1 ⟨(w.heap.size + 1), 1, none⟩ (.int .i64 o) := (by refine CellF.keep hb1 ?_; (first | ((repeat (first | (with_reducible refine CellF.at_ ?_ rfl; (first | rfl | (simp; done))) | with_reducible refine CellF.past _ ?_ | with_reducible refine CellF.drew ?_ | with_reducible refine CellF.drewN _ ?_)); done) | (refine ⟨?_, ?_⟩ <;> go_simp)))
        have c1_2_1 := q1_2_1.1
        have q1_2_2 : CellF w1 ⟨(w.heap.size + 1), 2, none⟩ (.int .i64 k) := (by refine CellF.keep hb1 ?_; (first | ((repeat (first | (with_reducible refine CellF.at_ ?_ rfl; (first | rfl | (simp; done))) | with_reducible refine CellF.past _ ?_ | with_reducible refine CellF.drew ?_ | with_reducible refine CellF.drewN _ ?_)); done) | (refine ⟨?_, ?_⟩ <;> go_simp)))
        have c1_2_2 := q1_2_2.1
        have q1_2_3 : CellF w1 ⟨(w.heap.size + 1), 3, none⟩ (.int .i64 y0) := (by refine CellF.keep hb1 ?_; (first | ((repeat (first | (with_reducible refine CellF.at_ ?_ rfl; (first | rfl | (simp; done))) | with_reducible refine CellF.past _ ?_ | with_reducible refine CellF.drew ?_ | with_reducible refine CellF.drewN _ ?_)); done) | (refine ⟨?_, ?_⟩ <;> go_simp)))
        have c1_2_3 := q1_2_3.1
        have q1_2_4 : CellF w1 ⟨(w.heap.size + 1), 4, none⟩ (.int .i64 y1) := (by refine CellF.keep hb1 ?_; (first | ((repeat (first | (with_reducible refine CellF.at_ ?_ rfl; (first | rfl | (simp; done))) | with_reducible refine CellF.past _ ?_ | with_reducible refine CellF.drew ?_ | with_reducible refine CellF.drewN _ ?_)); done) | (refine ⟨?_, ?_⟩ <;> go_simp)))
        have c1_2_4 := q1_2_4.1
        have q1_2_5 : CellF w1 ⟨(w.heap.size + 1), 5, none⟩ (.int .i64 n) := (by refine CellF.keep hb1 ?_; (first | ((repeat (first | (with_reducible refine CellF.at_ ?_ rfl; (first | rfl | (simp; done))) | with_reducible refine CellF.past _ ?_ | with_reducible refine CellF.drew ?_ | with_reducible refine CellF.drewN _ ?_)); done) | (refine ⟨?_, ?_⟩ <;> go_simp)))
        have c1_2_5 := q1_2_5.1
        have z1_2 : (w.heap.size + 1) < w1.heap.size := ltc c1_2_0
        have q1_3_0 : CellF w1 ⟨(w.heap.size + 2), 0, none⟩ (.int .i64 a') := (by refine CellF.keep hb1 ?_; (first | ((repeat (first | (with_reducible refine CellF.at_ ?_ rfl; (first | rfl | (simp; done))) | with_reducible refine CellF.past _ ?_ | with_reducible refine CellF.drew ?_ | with_reducible refine CellF.drewN _ ?_)); done) | (refine ⟨?_, ?_⟩ <;> go_simp)))
        have c1_3_0 := q1_3_0.1
        have q1_3_1 : CellF w1 ⟨(w.heap.size + 2), 1, none⟩ (.int .i64 o') := (by refine CellF.keep hb1 ?_; (first | ((repeat (first | (with_reducible refine CellF.at_ ?_ rfl; (first | rfl | (simp; done))) | with_reducible refine CellF.past _ ?_ | with_reducible refine CellF.drew ?_ | with_reducible refine CellF.drewN _ ?_)); done) | (refine ⟨?_, ?_⟩ <;> go_simp)))
        have c1_3_1 := q1_3_1.1
        have q1_3_2 : CellF w1 ⟨(w.heap.size + 2), 2, none⟩ (.int .i64 k') := (by refine CellF.keep hb1 ?_; (first | ((repeat (first | (with_reducible refine CellF.at_ ?_ rfl; (first | rfl | (simp; done))) | with_reducible refine CellF.past _ ?_ | with_reducible refine CellF.drew ?_ | with_reducible refine CellF.drewN _ ?_)); done) | (refine ⟨?_, ?_⟩ <;> go_simp)))
        have c1_3_2 := q1_3_2.1
        have q1_3_3 : CellF w1 ⟨(w.heap.size + 2), 3, none⟩ (.int .i64 y0') := (by refine CellF.keep hb1 ?_; (first | ((repeat (first | (with_reducible refine CellF.at_ ?_ rfl; (first | rfl | (simp; done))) | with_reducible refine CellF.past _ ?_ | with_reducible refine CellF.drew ?_ | with_reducible refine CellF.drewN _ ?_)); done) | (refine ⟨?_, ?_⟩ <;> go_simp)))
        have c1_3_3 := q1_3_3.1
        have q1_3_4 : CellF w1 ⟨(w.heap.size + 2), 4, none⟩ (.int .i64 y1') := (by refine CellF.keep hb1 ?_; (first | ((repeat (first | (with_reducible refine CellF.at_ ?_ rfl; (first | rfl | (simp; done))) | with_reducible refine CellF.past _ ?_ | with_reducible refine CellF.drew ?_ | with_reducible refine CellF.drewN _ ?_)); done) | (refine ⟨?_, ?_⟩ <;> go_simp)))
        have c1_3_4 := q1_3_4.1
        have q1_3_5 : CellF w1 ⟨(w.heap.size + 2), 5, none⟩ (.int .i64 n') := (by refine CellF.keep hb1 ?_; (first | ((repeat (first | (with_reducible refine CellF.at_ ?_ rfl; (first | rfl | (simp; done))) | with_reducible refine CellF.past _ ?_ | with_reducible refine CellF.drew ?_ | with_reducible refine CellF.drewN _ ?_)); done) | (refine ⟨?_, ?_⟩ <;> go_simp)))
        have c1_3_5 := q1_3_5.1
        have z1_3 : (w.heap.size + 2) < w1.heap.size := ltc c1_3_0
        go_wp2_with fail
        refine (may_is _ _ _ _ _ _ _ _ _ _ HM' _).mono ?_
        rintro e w2 ⟨rfl, hb2⟩
        have q2_4_0 : CellF w2 ⟨w.heap.size, 0, none⟩ (.int .i64 mn) := (by refine CellF.keep hb2 ?_; repeat (first | with_reducible exact q1_1_0 | (with_reducible refine CellF.at_ ?_ rfl; (first | rfl | (simp; done))) | with_reducible refine CellF.past _ ?_ | with_reducible refine CellF.drew ?_ | with_reducible refine CellF.drewN _ ?_))
        have c2_4_0 := q2_4_0.1
        have q2_4_1 : CellF w2 ⟨w.heap.size, 1, none⟩ (.int .i64 mx) := (by refine CellF.keep hb2 ?_; repeat (first | with_reducible exact q1_1_1 | (with_reducible refine CellF.at_ ?_ rfl; (first | rfl | (simp; done))) | with_reducible refine CellF.past _ ?_ | with_reducible refine CellF.drew ?_ | with_reducible refine CellF.drewN _ ?_))
        have c2_4_1 := q2_4_1.1
        have q2_4_2 : CellF w2 ⟨w.heap.size, 2, none⟩ (.int .i64 g) := (by refine CellF.keep hb2 ?_; repeat (first | with_reducible exact q1_1_2 | (with_reducible refine CellF.at_ ?_ rfl; (first | rfl | (simp; done))) | with_reducible refine CellF.past _ ?_ | with_reducible refine CellF.drew ?_ | with_reducible refine CellF.drewN _ ?_))
        have c2_4_2 := q2_4_2.1
        have z2_4 : w.heap.size < w2.heap.size := ltc c2_4_0
        have q2_5_0 : CellF w2 ⟨(w.heap.size + 1), 0, none⟩ (.int .i64 a) := (by refine CellF.keep hb2 ?_; repeat (first | with_reducible exact q1_2_0 | (with_reducible refine CellF.at_ ?_ rfl; (first | rfl | (simp; done))) | with_reducible refine CellF.past _ ?_ | with_reducible refine CellF.drew ?_ | with_reducible refine CellF.drewN _ ?_))
        have c2_5_0 := q2_5_0.1
        have q2_5_1 : CellF w2 ⟨(w.heap.size + 1), 1, none⟩ (.int .i64 o) := (by refine CellF.keep hb2 ?_; repeat (first | with_reducible exact q1_2_1 | (with_reducible refine CellF.at_ ?_ rfl; (first | rfl | (simp; done))) | with_reducible refine CellF.past _ ?_ | with_reducible refine CellF.drew ?_ | with_reducible refine CellF.drewN _ ?_))
        have c2_5_1 := q2_5_1.1
        have q2_5_2 : CellF w2 ⟨(w.heap.size + 1), 2, none⟩ (.int .i64 k) := (by refine CellF.keep hb2 ?_; repeat (first | with_reducible exact q1_2_2 | (with_reducible refine CellF.at_ ?_ rfl; (first | rfl | (simp; done))) | with_reducible refine CellF.past _ ?_ | with_reducible refine CellF.drew ?_ | with_reducible refine CellF.drewN _ ?_))
        have c2_5_2 := q2_5_2.1
        have q2_5_3 : CellF w2 ⟨(w.heap.size + 1), 3, none⟩ (.int .i64 y0) := (by refine CellF.keep hb2 ?_; repeat (first | with_reducible exact q1_2_3 | (with_reducible refine CellF.at_ ?_ rfl; (first | rfl | (simp; done))) | with_reducible refine CellF.past _ ?_ | with_reducible refine CellF.drew ?_ | with_reducible refine CellF.drewN _ ?_))
        have c2_5_3 := q2_5_3.1
        have q2_5_4 : CellF w2 ⟨(w.heap.size + 1), 4, none⟩ (.int .i64 y1) := (by refine CellF.keep hb2 ?_; repeat (first | with_reducible exact q1_2_4 | (with_reducible refine CellF.at_ ?_ rfl; (first | rfl | (simp; done))) | with_reducible refine CellF.past _ ?_ | with_reducible refine CellF.drew ?_ | with_reducible refine CellF.drewN _ ?_))
        have c2_5_4 := q2_5_4.1
        have q2_5_5 : CellF w2 ⟨(w.heap.size + 1), 5, none⟩ (.int .i64 n) := (by refine CellF.keep hb2 ?_; repeat (first | with_reducible exact q1_2_5 | (with_reducible refine CellF.at_ ?_ rfl; (first | rfl | (simp; done))) | with_reducible refine CellF.past _ ?_ | with_reducible refine CellF.drew ?_ | with_reducible refine CellF.drewN _ ?_))
        have c2_5_5 := q2_5_5.1
        have z2_5 : (w.heap.size + 1) < w2.heap.size := ltc c2_5_0
        have q2_6_0 : CellF w2 ⟨(w.heap.size + 2), 0, none⟩ (.int .i64 a') := (by refine CellF.keep hb2 ?_; repeat (first | with_reducible exact q1_3_0 | (with_reducible refine CellF.at_ ?_ rfl; (first | rfl | (simp; done))) | with_reducible refine CellF.past _ ?_ | with_reducible refine CellF.drew ?_ | with_reducible refine CellF.drewN _ ?_))
        have c2_6_0 := q2_6_0.1
        have q2_6_1 : CellF w2 ⟨(w.heap.size + 2), 1, none⟩ (.int .i64 o') := (by refine CellF.keep hb2 ?_; repeat (first | with_reducible exact q1_3_1 | (with_reducible refine CellF.at_ ?_ rfl; (first | rfl | (simp; done))) | with_reducible refine CellF.past _ ?_ | with_reducible refine CellF.drew ?_ | with_reducible refine CellF.drewN _ ?_))
        have c2_6_1 := q2_6_1.1
        have q2_6_2 : CellF w2 ⟨(w.heap.size + 2), 2, none⟩ (.int .i64 k') := (by refine CellF.keep hb2 ?_; repeat (first | with_reducible exact q1_3_2 | (with_reducible refine CellF.at_ ?_ rfl; (first | rfl | (simp; done))) | with_reducible refine CellF.past _ ?_ | with_reducible refine CellF.drew ?_ | with_reducible refine CellF.drewN _ ?_))
        have c2_6_2 := q2_6_2.1
        have q2_6_3 : CellF w2 ⟨(w.heap.size + 2), 3, none⟩ (.int .i64 y0') := (by refine CellF.keep hb2 ?_; repeat (first | with_reducible exact q1_3_3 | (with_reducible refine CellF.at_ ?_ rfl; (first | rfl | (simp; done))) | with_reducible refine CellF.past _ ?_ | with_reducible refine CellF.drew ?_ | with_reducible refine CellF.drewN _ ?_))
        have c2_6_3 := q2_6_3.1
        have q2_6_4 : CellF w2 ⟨(w.heap.size + 2), 4, none⟩ (.int .i64 y1') := (by refine CellF.keep hb2 ?_; repeat (first | with_reducible exact q1_3_4 | (with_reducible refine CellF.at_ ?_ rfl; (first | rfl | (simp; done))) | with_reducible refine CellF.past _ ?_ | with_reducible refine CellF.drew ?_ | with_reducible refine CellF.drewN _ ?_))
        have c2_6_4 := q2_6_4.1
        have q2_6_5 : CellF w2 ⟨(w.heap.size + 2), 5, none⟩ (.int .i64 n') := (by refine CellF.keep hb2 ?_; repeat (first | with_reducible exact q1_3_5 | (with_reducible refine CellF.at_ ?_ rfl; (first | rfl | (simp; done))) | with_reducible refine CellF.past _ ?_ | with_reducible refine CellF.drew ?_ | with_reducible refine CellF.drewN _ ?_))
        have c2_6_5 := q2_6_5.1
        have z2_6 : (w.heap.size + 2) < w2.heap.size := ltc c2_6_0
        clear q1_1_0 c1_1_0 q1_1_1 c1_1_1 q1_1_2 c1_1_2 z1_1 q1_2_0 c1_2_0 q1_2_1 c1_2_1 q1_2_2 c1_2_2 q1_2_3 c1_2_3 q1_2_4 c1_2_4 q1_2_5 c1_2_5 z1_2 q1_3_0 c1_3_0 q1_3_1 c1_3_1 q1_3_2 c1_3_2 q1_3_3 c1_3_3 q1_3_4 c1_3_4 q1_3_5 c1_3_5 z1_3
        go_wp2_with fail
        refine (smallQ2 _ _ _ HQ.out _ _ (by go_simp) (by go_simp)).mono ?_
        rintro e _ ⟨rfl, rfl⟩
        have f2_4_0 := q2_4_0.2
        have f2_4_1 := q2_4_1.2
        have f2_4_2 := q2_4_2.2
        have f2_5_0 := q2_5_0.2
        have f2_5_1 := q2_5_1.2
        have f2_5_2 := q2_5_2.2
        have f2_5_3 := q2_5_3.2
        have f2_5_4 := q2_5_4.2
        have f2_5_5 := q2_5_5.2
        have f2_6_0 := q2_6_0.2
        have f2_6_1 := q2_6_1.2
        have f2_6_2 := q2_6_2.2
        have f2_6_3 := q2_6_3.2
        have f2_6_4 := q2_6_4.2
        have f2_6_5 := q2_6_5.2
        go_upto_region 5 with (fail)
        go_cut [8] (fun v8 wd => ∃ bc, v8 = .pointer (some ⟨bc, 0, none⟩) ∧ Hid (Below w.heap.size w wd) ∧ Hid (CellF wd ⟨w.heap.size, 0, none⟩ (.int .i64 mn) ∧ CellF wd ⟨w.heap.size, 1, none⟩ (.int .i64 mx) ∧ CellF wd ⟨w.heap.size, 2, none⟩ (.int .i64 g)) ∧ Hid (CellF wd ⟨(w.heap.size + 1), 0, none⟩ (.int .i64 a) ∧ CellF wd ⟨(w.heap.size + 1), 1, none⟩ (.int .i64 o) ∧ CellF wd ⟨(w.heap.size + 1), 2, none⟩ (.int .i64 k) ∧ CellF wd ⟨(w.heap.size + 1), 3, none⟩ (.int .i64 y0) ∧ CellF wd ⟨(w.heap.size + 1), 4, none⟩ (.int .i64 y1) ∧ CellF wd ⟨(w.heap.size + 1), 5, none⟩ (.int .i64 n)) ∧ Hid (CellF wd ⟨(w.heap.size + 2), 0, none⟩ (.int .i64 a') ∧ CellF wd ⟨(w.heap.size + 2), 1, none⟩ (.int .i64 o) ∧ CellF wd ⟨(w.heap.size + 2), 2, none⟩ (.int .i64 k') ∧ CellF wd ⟨(w.heap.size + 2), 3, none⟩ (.int .i64 y0') ∧ CellF wd ⟨(w.heap.size + 2), 4, none⟩ (.int .i64 y1') ∧ CellF wd ⟨(w.heap.size + 2), 5, none⟩ (.int .i64 n')) ∧ Hid (CellF wd ⟨(w2.heap.size + 1), 0, none⟩ (.int .i64 (a + y0)) ∧ CellF wd ⟨(w2.heap.size + 1), 1, none⟩ (.int .i64 (a + k + n - o + y1)) ∧ CellF wd ⟨(w2.heap.size + 1), 2, none⟩ (.int .i64 (a' - o + y0')) ∧ CellF wd ⟨(w2.heap.size + 1), 3, none⟩ (.int .i64 (a' + k' + n' + y1'))) ∧ Hid (CellF wd ⟨bc, 0, none⟩ (.int .i64 (n * 65536)) ∧ CellF wd ⟨bc, 1, none⟩ (.int .i64 (n' * 65536))))
        case first =>
          go_wp2_with fail
          go_meet
          exact ⟨_, rfl, Lib.hid (by repeat (first | exact brefl _ | refine balloc ?_ _ | refine bset ?_ (by dsimp only; omega) _ | refine bstep ?_ (by assumption))), Lib.hid (by refine ⟨?_, ?_, ?_⟩ <;> (repeat (first | with_reducible exact q2_4_0 | with_reducible exact q2_4_1 | with_reducible exact q2_4_2 | with_reducible exact q2_5_0 | with_reducible exact q2_5_1 | with_reducible exact q2_5_2 | with_reducible exact q2_5_3 | with_reducible exact q2_5_4 | with_reducible exact q2_5_5 | with_reducible exact q2_6_0 | with_reducible exact q2_6_1 | with_reducible exact q2_6_2 | with_reducible exact q2_6_3 | with_reducible exact q2_6_4 | with_reducible exact q2_6_5 | with_reducible exact CellF.set_same' _ q2_6_1 | (with_reducible refine CellF.at_ ?_ rfl; (first | rfl | (simp; done) | (simp [World.size_setCell]; done))) | with_reducible refine CellF.past _ ?_ | with_reducible refine CellF.drew ?_ | (with_reducible refine CellF.set_other' _ (fun e => by first | cases e | (injection e with e1 e2; omega)) ?_)))), Lib.hid (by refine ⟨?_, ?_, ?_, ?_, ?_, ?_⟩ <;> (repeat (first | with_reducible exact q2_4_0 | with_reducible exact q2_4_1 | with_reducible exact q2_4_2 | with_reducible exact q2_5_0 | with_reducible exact q2_5_1 | with_reducible exact q2_5_2 | with_reducible exact q2_5_3 | with_reducible exact q2_5_4 | with_reducible exact q2_5_5 | with_reducible exact q2_6_0 | with_reducible exact q2_6_1 | with_reducible exact q2_6_2 | with_reducible exact q2_6_3 | with_reducible exact q2_6_4 | with_reducible exact q2_6_5 | with_reducible exact CellF.set_same' _ q2_6_1 | (with_reducible refine CellF.at_ ?_ rfl; (first | rfl | (simp; done) | (simp [World.size_setCell]; done))) | with_reducible refine CellF.past _ ?_ | with_reducible refine CellF.drew ?_ | (with_reducible refine CellF.set_other' _ (fun e => by first | cases e | (injection e with e1 e2; omega)) ?_)))), Lib.hid (by refine ⟨?_, ?_, ?_, ?_, ?_, ?_⟩ <;> (repeat (first | with_reducible exact q2_4_0 | with_reducible exact q2_4_1 | with_reducible exact q2_4_2 | with_reducible exact q2_5_0 | with_reducible exact q2_5_1 | with_reducible exact q2_5_2 | with_reducible exact q2_5_3 | with_reducible exact q2_5_4 | with_reducible exact q2_5_5 | with_reducible exact q2_6_0 | with_reducible exact q2_6_1 | with_reducible exact q2_6_2 | with_reducible exact q2_6_3 | with_reducible exact q2_6_4 | with_reducible exact q2_6_5 | with_reducible exact CellF.set_same' _ q2_6_1 | (with_reducible refine CellF.at_ ?_ rfl; (first | rfl | (simp; done) | (simp [World.size_setCell]; done))) | with_reducible refine CellF.past _ ?_ | with_reducible refine CellF.drew ?_ | (with_reducible refine CellF.set_other' _ (fun e => by first | cases e | (injection e with e1 e2; omega)) ?_)))), Lib.hid (by refine ⟨?_, ?_, ?_, ?_⟩ <;> (repeat (first | with_reducible exact q2_4_0 | with_reducible exact q2_4_1 | with_reducible exact q2_4_2 | with_reducible exact q2_5_0 | with_reducible exact q2_5_1 | with_reducible exact q2_5_2 | with_reducible exact q2_5_3 | with_reducible exact q2_5_4 | with_reducible exact q2_5_5 | with_reducible exact q2_6_0 | with_reducible exact q2_6_1 | with_reducible exact q2_6_2 | with_reducible exact q2_6_3 | with_reducible exact q2_6_4 | with_reducible exact q2_6_5 | with_reducible exact CellF.set_same' _ q2_6_1 | (with_reducible refine CellF.at_ ?_ rfl; (first | rfl | (simp; done) | (simp [World.size_setCell]; done))) | with_reducible refine CellF.past _ ?_ | with_reducible refine CellF.drew ?_ | (with_reducible refine CellF.set_other' _ (fun e => by first | cases e | (injection e with e1 e2; omega)) ?_)))), Lib.hid (by refine ⟨?_, ?_⟩ <;> (repeat (first | with_reducible exact q2_4_0 | with_reducible exact q2_4_1 | with_reducible exact q2_4_2 | with_reducible exact q2_5_0 | with_reducible exact q2_5_1 | with_reducible exact q2_5_2 | with_reducible exact q2_5_3 | with_reducible exact q2_5_4 | with_reducible exact q2_5_5 | with_reducible exact q2_6_0 | with_reducible exact q2_6_1 | with_reducible exact q2_6_2 | with_reducible exact q2_6_3 | with_reducible exact q2_6_4 | with_reducible exact q2_6_5 | with_reducible exact CellF.set_same' _ q2_6_1 | (with_reducible refine CellF.at_ ?_ rfl; (first | rfl | (simp; done) | (simp [World.size_setCell]; done))) | with_reducible refine CellF.past _ ?_ | with_reducible refine CellF.drew ?_ | (with_reducible refine CellF.set_other' _ (fun e => by first | cases e | (injection e with e1 e2; omega)) ?_))))⟩
        case rest =>
          obtain ⟨bc, rfl, HBB, HH0, HH1, HH2, HH3, HH4⟩ := hcut
          have hwA := HBB.out
          have qHH0_0 := HH0.out.1
          have cHH0_0 := qHH0_0.1
          have qHH0_1 := HH0.out.2.1
          have cHH0_1 := qHH0_1.1
          have qHH0_2 := HH0.out.2.2
          have cHH0_2 := qHH0_2.1
          have zHH0 := ltc cHH0_0
          have qHH1_0 := HH1.out.1
          have cHH1_0 := qHH1_0.1
          have qHH1_1 := HH1.out.2.1
          have cHH1_1 := qHH1_1.1
          have qHH1_2 := HH1.out.2.2.1
          have cHH1_2 := qHH1_2.1
          have qHH1_3 := HH1.out.2.2.2.1
          have cHH1_3 := qHH1_3.1
          have qHH1_4 := HH1.out.2.2.2.2.1
          have cHH1_4 := qHH1_4.1
          have qHH1_5 := HH1.out.2.2.2.2.2
          have cHH1_5 := qHH1_5.1
          have zHH1 := ltc cHH1_0
          have qHH2_0 := HH2.out.1
          have cHH2_0 := qHH2_0.1
          have qHH2_1 := HH2.out.2.1
          have cHH2_1 := qHH2_1.1
          have qHH2_2 := HH2.out.2.2.1
          have cHH2_2 := qHH2_2.1
          have qHH2_3 := HH2.out.2.2.2.1
          have cHH2_3 := qHH2_3.1
          have qHH2_4 := HH2.out.2.2.2.2.1
          have cHH2_4 := qHH2_4.1
          have qHH2_5 := HH2.out.2.2.2.2.2
          have cHH2_5 := qHH2_5.1
          have zHH2 := ltc cHH2_0
          have qHH3_0 := HH3.out.1
          have cHH3_0 := qHH3_0.1
          have qHH3_1 := HH3.out.2.1
          have cHH3_1 := qHH3_1.1
          have qHH3_2 := HH3.out.2.2.1
          have cHH3_2 := qHH3_2.1
          have qHH3_3 := HH3.out.2.2.2
          have cHH3_3 := qHH3_3.1
          have zHH3 := ltc cHH3_0
          have qHH4_0 := HH4.out.1
          have cHH4_0 := qHH4_0.1
          have qHH4_1 := HH4.out.2
          have cHH4_1 := qHH4_1.1
          have zHH4 := ltc cHH4_0
          clear HBB HH0 HH1 HH2 HH3 HH4
          go_upto_region 6 with (fail)
          go_cut [9, 10] (fun v9 v10 wd => ∃ bs bm, v9 = .pointer (some ⟨bs, 0, none⟩) ∧ v10 = .pointer (some ⟨bm, 0, none⟩) ∧ Hid (Below w.heap.size w wd) ∧ Hid (CellF wd ⟨w.heap.size, 0, none⟩ (.int .i64 mn) ∧ CellF wd ⟨w.heap.size, 1, none⟩ (.int .i64 mx) ∧ CellF wd ⟨w.heap.size, 2, none⟩ (.int .i64 g)) ∧ Hid (CellF wd ⟨(w.heap.size + 1), 0, none⟩ (.int .i64 a) ∧ CellF wd ⟨(w.heap.size + 1), 1, none⟩ (.int .i64 o) ∧ CellF wd ⟨(w.heap.size + 1), 2, none⟩ (.int .i64 k) ∧ CellF wd ⟨(w.heap.size + 1), 3, none⟩ (.int .i64 y0) ∧ CellF wd ⟨(w.heap.size + 1), 4, none⟩ (.int .i64 y1) ∧ CellF wd ⟨(w.heap.size + 1), 5, none⟩ (.int .i64 n)) ∧ Hid (CellF wd ⟨(w.heap.size + 2), 0, none⟩ (.int .i64 a') ∧ CellF wd ⟨(w.heap.size + 2), 1, none⟩ (.int .i64 o) ∧ CellF wd ⟨(w.heap.size + 2), 2, none⟩ (.int .i64 k') ∧ CellF wd ⟨(w.heap.size + 2), 3, none⟩ (.int .i64 y0') ∧ CellF wd ⟨(w.heap.size + 2), 4, none⟩ (.int .i64 y1') ∧ CellF wd ⟨(w.heap.size + 2), 5, none⟩ (.int .i64 n')) ∧ Hid (CellF wd ⟨(w2.heap.size + 1), 0, none⟩ (.int .i64 (a + y0)) ∧ CellF wd ⟨(w2.heap.size + 1), 1, none⟩ (.int .i64 (a + k + n - o + y1)) ∧ CellF wd ⟨(w2.heap.size + 1), 2, none⟩ (.int .i64 (a' - o + y0')) ∧ CellF wd ⟨(w2.heap.size + 1), 3, none⟩ (.int .i64 (a' + k' + n' + y1'))) ∧ Hid (CellF wd ⟨bc, 0, none⟩ (.int .i64 (n * 65536)) ∧ CellF wd ⟨bc, 1, none⟩ (.int .i64 (n' * 65536))) ∧ Hid (SpanAt wd bs l u true) ∧ Hid (SpanAt wd bm l2 u2 true))
          case first =>
            refine wp_region_inv (by kernel_rfl) (fun ls ac w' => ∃ v9 v10 v87 v88 v89 v90 v91 v92 v93 v94, ac = ⟨#[.agg #[.int .i64 mn, .int .i64 mx, .int .i64 g], .agg #[.int .i64 a, .int .i64 o, .int .i64 k, .int .i64 y0, .int .i64 y1, .int .i64 n], .agg #[.int .i64 a', .int .i64 o', .int .i64 k', .int .i64 y0', .int .i64 y1', .int .i64 n'], .pointer (some ⟨w.heap.size, 0, none⟩), .pointer (some ⟨w.heap.size + 1, 0, none⟩), .pointer (some ⟨w.heap.size + 1 + 1, 0, none⟩), .bool false, .pointer (some ⟨w2.heap.size + 1, 0, none⟩), .pointer (some ⟨bc, 0, none⟩), v9, v10, undef, u12, u13, u14, u15, u16, u17, u18, u19, u20, u21, u22, u23, u24, u25, u26, u27, u28, u29, u30, u31, u32, u33, u34, u35, u36, u37, u38, u39, u40, u41, u42, u43, u44, u45, u46, u47, u48, u49, u50, u51, u52, u53, u54, u55, u56, u57, u58, u59, u60, u61, u62, u63, u64, u65, u66, u67, u68, u69, u70, u71, u72, u73, u74, u75, u76, u77, u78, u79, u80, u81, u82, u83, u84, u85, u86, v87, v88, v89, v90, v91, v92, v93, v94, u95, u96, u97, u98, u99, u100, u101, u102, u103, u104, u105, u106, u107, u108, u109, u110, u111, u112, u113, u114, u115, u116, u117, u118, u119, u120, u121, u122, u123, u124, u125, u126, u127, u128, u129], []⟩ ∧ ls.size = 12 ∧ Below wc.heap.size wc w' ∧ (ls.getD 0 false = true → v87 = .agg #[.int .i64 mn, .int .i64 mx, .int .i64 g]) ∧ (ls.getD 1 false = true → v88 = .agg #[.int .i64 (a + y0), .int .i64 (a + k + n - o + y1), .int .i64 (a' - o + y0'), .int .i64 (a' + k' + n' + y1')]) ∧ (ls.getD 2 false = true → v89 = .agg #[.int .i64 (n * 65536), .int .i64 (n' * 65536)]) ∧ (ls.getD 3 false = true → v90 = .agg #[.int .i64 l, .int .i64 u, .bool true]) ∧ (ls.getD 4 false = true → v91 = .agg #[.int .i64 mn, .int .i64 mx, .int .i64 g]) ∧ (ls.getD 5 false = true → v92 = .agg #[.int .i64 (a + y0), .int .i64 (a + k + n - o + y1), .int .i64 (a' - o + y0'), .int .i64 (a' + k' + n' + y1')]) ∧ (ls.getD 6 false = true → v93 = .agg #[.int .i64 (n * 65536), .int .i64 (n' * 65536)]) ∧ (ls.getD 7 false = true → v94 = .agg #[.int .i64 l2, .int .i64 u2, .bool true]) ∧ (ls.getD 8 false = true → ∃ b, v9 = .pointer (some ⟨b, 0, none⟩) ∧ wc.heap.size ≤ b ∧ (ls.getD 9 false = true → v10 ≠ .pointer (some ⟨b, 0, none⟩)) ∧ (ls.getD 10 false = false → SpanAt w' b 0 0 false) ∧ (ls.getD 10 false = true → SpanAt w' b l u true)) ∧ (ls.getD 9 false = true → ∃ b, v10 = .pointer (some ⟨b, 0, none⟩) ∧ wc.heap.size ≤ b ∧ (ls.getD 11 false = false → SpanAt w' b 0 0 false) ∧ (ls.getD 11 false = true → SpanAt w' b l2 u2 true)) ∧ (ls.getD 10 false = true → ls.getD 8 false = true) ∧ (ls.getD 11 false = true → ls.getD 9 false = true)) ?_ ?_ ?_
            · exact ⟨_, _, _, _, _, _, _, _, _, _, rfl, rfl, bdrew (brefl _), fun h => (by cases h), fun h => (by cases h), fun h => (by cases h), fun h => (by cases h), fun h => (by cases h), fun h => (by cases h), fun h => (by cases h), fun h => (by cases h), fun h => (by cases h), fun h => (by cases h), fun h => (by cases h), fun h => (by cases h)⟩
            · intro i hii
              have hin : i < 12 := hii
              have hor : i = 0 ∨ i = 1 ∨ i = 2 ∨ i = 3 ∨ i = 4 ∨ i = 5 ∨ i = 6 ∨ i = 7 ∨ i = 8 ∨ i = 9 ∨ i = 10 ∨ i = 11 := by omega
              rcases hor with rfl | rfl | rfl | rfl | rfl | rfl | rfl | rfl | rfl | rfl | rfl | rfl
              · rintro ls ac w' hr ⟨v9, v10, v87, v88, v89, v90, v91, v92, v93, v94, rfl, hl, hB, zg0, zg1, zg2, zg3, zg4, zg5, zg6, zg7, zh1, zh2, zk1, zk2⟩
                have a0 := (hB.cell (ltc cHH0_0)).trans cHH0_0
                have a1 := (hB.cell (ltc cHH0_1)).trans cHH0_1
                have a2 := (hB.cell (ltc cHH0_2)).trans cHH0_2
                have a3 := (hB.cell (ltc cHH1_0)).trans cHH1_0
                have a4 := (hB.cell (ltc cHH1_1)).trans cHH1_1
                have a5 := (hB.cell (ltc cHH1_2)).trans cHH1_2
                have a6 := (hB.cell (ltc cHH1_3)).trans cHH1_3
                have a7 := (hB.cell (ltc cHH1_4)).trans cHH1_4
                have a8 := (hB.cell (ltc cHH1_5)).trans cHH1_5
                have a9 := (hB.cell (ltc cHH2_0)).trans cHH2_0
                have a10 := (hB.cell (ltc cHH2_1)).trans cHH2_1
                have a11 := (hB.cell (ltc cHH2_2)).trans cHH2_2
                have a12 := (hB.cell (ltc cHH2_3)).trans cHH2_3
                have a13 := (hB.cell (ltc cHH2_4)).trans cHH2_4
                have a14 := (hB.cell (ltc cHH2_5)).trans cHH2_5
                have a15 := (hB.cell (ltc cHH3_0)).trans cHH3_0
                have a16 := (hB.cell (ltc cHH3_1)).trans cHH3_1
                have a17 := (hB.cell (ltc cHH3_2)).trans cHH3_2
                have a18 := (hB.cell (ltc cHH3_3)).trans cHH3_3
                have a19 := (hB.cell (ltc cHH4_0)).trans cHH4_0
                have a20 := (hB.cell (ltc cHH4_1)).trans cHH4_1
                refine wpOp_step rfl (fun K hK => ?_)
                clear hr
                go_simp
                refine hK _ _ ?_
                simp only [getD_own (l := ls) (i := 0) (by omega), getD_set ls (i := 0) (j := 1) (by decide), getD_set ls (i := 0) (j := 2) (by decide), getD_set ls (i := 0) (j := 3) (by decide), getD_set ls (i := 0) (j := 4) (by decide), getD_set ls (i := 0) (j := 5) (by decide), getD_set ls (i := 0) (j := 6) (by decide), getD_set ls (i := 0) (j := 7) (by decide), getD_set ls (i := 0) (j := 8) (by decide), getD_set ls (i := 0) (j := 9) (by decide), getD_set ls (i := 0) (j := 10) (by decide), getD_set ls (i := 0) (j := 11) (by decide)]
                exact ⟨v9, v10, _, v88, v89, v90, v91, v92, v93, v94, rfl, by simp [hl], hB, fun _ => rfl, zg1, zg2, zg3, zg4, zg5, zg6, zg7, zh1, zh2, zk1, zk2⟩
              · rintro ls ac w' hr ⟨v9, v10, v87, v88, v89, v90, v91, v92, v93, v94, rfl, hl, hB, zg0, zg1, zg2, zg3, zg4, zg5, zg6, zg7, zh1, zh2, zk1, zk2⟩
                have a0 := (hB.cell (ltc cHH0_0)).trans cHH0_0
                have a1 := (hB.cell (ltc cHH0_1)).trans cHH0_1
                have a2 := (hB.cell (ltc cHH0_2)).trans cHH0_2
                have a3 := (hB.cell (ltc cHH1_0)).trans cHH1_0
                have a4 := (hB.cell (ltc cHH1_1)).trans cHH1_1
                have a5 := (hB.cell (ltc cHH1_2)).trans cHH1_2
                have a6 := (hB.cell (ltc cHH1_3)).trans cHH1_3
                have a7 := (hB.cell (ltc cHH1_4)).trans cHH1_4
                have a8 := (hB.cell (ltc cHH1_5)).trans cHH1_5
                have a9 := (hB.cell (ltc cHH2_0)).trans cHH2_0
                have a10 := (hB.cell (ltc cHH2_1)).trans cHH2_1
                have a11 := (hB.cell (ltc cHH2_2)).trans cHH2_2
                have a12 := (hB.cell (ltc cHH2_3)).trans cHH2_3
                have a13 := (hB.cell (ltc cHH2_4)).trans cHH2_4
                have a14 := (hB.cell (ltc cHH2_5)).trans cHH2_5
                have a15 := (hB.cell (ltc cHH3_0)).trans cHH3_0
                have a16 := (hB.cell (ltc cHH3_1)).trans cHH3_1
                have a17 := (hB.cell (ltc cHH3_2)).trans cHH3_2
                have a18 := (hB.cell (ltc cHH3_3)).trans cHH3_3
                have a19 := (hB.cell (ltc cHH4_0)).trans cHH4_0
                have a20 := (hB.cell (ltc cHH4_1)).trans cHH4_1
                refine wpOp_step rfl (fun K hK => ?_)
                clear hr
                go_simp
                refine hK _ _ ?_
                simp only [getD_own (l := ls) (i := 1) (by omega), getD_set ls (i := 1) (j := 0) (by decide), getD_set ls (i := 1) (j := 2) (by decide), getD_set ls (i := 1) (j := 3) (by decide), getD_set ls (i := 1) (j := 4) (by decide), getD_set ls (i := 1) (j := 5) (by decide), getD_set ls (i := 1) (j := 6) (by decide), getD_set ls (i := 1) (j := 7) (by decide), getD_set ls (i := 1) (j := 8) (by decide), getD_set ls (i := 1) (j := 9) (by decide), getD_set ls (i := 1) (j := 10) (by decide), getD_set ls (i := 1) (j := 11) (by decide)]
                exact ⟨v9, v10, v87, _, v89, v90, v91, v92, v93, v94, rfl, by simp [hl], hB, zg0, fun _ => rfl, zg2, zg3, zg4, zg5, zg6, zg7, zh1, zh2, zk1, zk2⟩
              · rintro ls ac w' hr ⟨v9, v10, v87, v88, v89, v90, v91, v92, v93, v94, rfl, hl, hB, zg0, zg1, zg2, zg3, zg4, zg5, zg6, zg7, zh1, zh2, zk1, zk2⟩
                have a0 := (hB.cell (ltc cHH0_0)).trans cHH0_0
                have a1 := (hB.cell (ltc cHH0_1)).trans cHH0_1
                have a2 := (hB.cell (ltc cHH0_2)).trans cHH0_2
                have a3 := (hB.cell (ltc cHH1_0)).trans cHH1_0
                have a4 := (hB.cell (ltc cHH1_1)).trans cHH1_1
                have a5 := (hB.cell (ltc cHH1_2)).trans cHH1_2
                have a6 := (hB.cell (ltc cHH1_3)).trans cHH1_3
                have a7 := (hB.cell (ltc cHH1_4)).trans cHH1_4
                have a8 := (hB.cell (ltc cHH1_5)).trans cHH1_5
                have a9 := (hB.cell (ltc cHH2_0)).trans cHH2_0
                have a10 := (hB.cell (ltc cHH2_1)).trans cHH2_1
                have a11 := (hB.cell (ltc cHH2_2)).trans cHH2_2
                have a12 := (hB.cell (ltc cHH2_3)).trans cHH2_3
                have a13 := (hB.cell (ltc cHH2_4)).trans cHH2_4
                have a14 := (hB.cell (ltc cHH2_5)).trans cHH2_5
                have a15 := (hB.cell (ltc cHH3_0)).trans cHH3_0
                have a16 := (hB.cell (ltc cHH3_1)).trans cHH3_1
                have a17 := (hB.cell (ltc cHH3_2)).trans cHH3_2
                have a18 := (hB.cell (ltc cHH3_3)).trans cHH3_3
                have a19 := (hB.cell (ltc cHH4_0)).trans cHH4_0
                have a20 := (hB.cell (ltc cHH4_1)).trans cHH4_1
                refine wpOp_step rfl (fun K hK => ?_)
                clear hr
                go_simp
                refine hK _ _ ?_
                simp only [getD_own (l := ls) (i := 2) (by omega), getD_set ls (i := 2) (j := 0) (by decide), getD_set ls (i := 2) (j := 1) (by decide), getD_set ls (i := 2) (j := 3) (by decide), getD_set ls (i := 2) (j := 4) (by decide), getD_set ls (i := 2) (j := 5) (by decide), getD_set ls (i := 2) (j := 6) (by decide), getD_set ls (i := 2) (j := 7) (by decide), getD_set ls (i := 2) (j := 8) (by decide), getD_set ls (i := 2) (j := 9) (by decide), getD_set ls (i := 2) (j := 10) (by decide), getD_set ls (i := 2) (j := 11) (by decide)]
                exact ⟨v9, v10, v87, v88, _, v90, v91, v92, v93, v94, rfl, by simp [hl], hB, zg0, zg1, fun _ => rfl, zg3, zg4, zg5, zg6, zg7, zh1, zh2, zk1, zk2⟩
              · rintro ls ac w' hr ⟨v9, v10, v87, v88, v89, v90, v91, v92, v93, v94, rfl, hl, hB, zg0, zg1, zg2, zg3, zg4, zg5, zg6, zg7, zh1, zh2, zk1, zk2⟩
                have zd0 : ls.getD 0 false = true := (ready_dep hr rfl).2 ⟨0, .data⟩ (by simp) rfl
                have zd1 : ls.getD 1 false = true := (ready_dep hr rfl).2 ⟨1, .data⟩ (by simp) rfl
                have zd2 : ls.getD 2 false = true := (ready_dep hr rfl).2 ⟨2, .data⟩ (by simp) rfl
                obtain rfl := zg0 zd0
                obtain rfl := zg1 zd1
                obtain rfl := zg2 zd2
                refine wpOp_step rfl (fun K hK => ?_)
                clear hr
                go_simp
                refine (Both_is _ _ _ _ _ _ _ _ _ _ _ _ hc0 hc1 HB _).mono ?_
                rintro e w1 ⟨rfl, hk⟩
                dsimp only
                refine hK _ _ ?_
                simp only [getD_own (l := ls) (i := 3) (by omega), getD_set ls (i := 3) (j := 0) (by decide), getD_set ls (i := 3) (j := 1) (by decide), getD_set ls (i := 3) (j := 2) (by decide), getD_set ls (i := 3) (j := 4) (by decide), getD_set ls (i := 3) (j := 5) (by decide), getD_set ls (i := 3) (j := 6) (by decide), getD_set ls (i := 3) (j := 7) (by decide), getD_set ls (i := 3) (j := 8) (by decide), getD_set ls (i := 3) (j := 9) (by decide), getD_set ls (i := 3) (j := 10) (by decide), getD_set ls (i := 3) (j := 11) (by decide)]
                exact ⟨v9, v10, _, _, _, _, v91, v92, v93, v94, rfl, by simp [hl], bstep hB hk, fun _ => rfl, fun _ => rfl, fun _ => rfl, fun _ => rfl, zg4, zg5, zg6, zg7, fun h => (by obtain ⟨b, e1, e2, e3, e4, e5⟩ := zh1 h; exact ⟨b, e1, e2, e3, fun h => (e4 h).keep hk, fun h => (e5 h).keep hk⟩), fun h => (by obtain ⟨b, e1, e2, e4, e5⟩ := zh2 h; exact ⟨b, e1, e2, fun h => (e4 h).keep hk, fun h => (e5 h).keep hk⟩), zk1, zk2⟩
              · rintro ls ac w' hr ⟨v9, v10, v87, v88, v89, v90, v91, v92, v93, v94, rfl, hl, hB, zg0, zg1, zg2, zg3, zg4, zg5, zg6, zg7, zh1, zh2, zk1, zk2⟩
                have a0 := (hB.cell (ltc cHH0_0)).trans cHH0_0
                have a1 := (hB.cell (ltc cHH0_1)).trans cHH0_1
                have a2 := (hB.cell (ltc cHH0_2)).trans cHH0_2
                have a3 := (hB.cell (ltc cHH1_0)).trans cHH1_0
                have a4 := (hB.cell (ltc cHH1_1)).trans cHH1_1
                have a5 := (hB.cell (ltc cHH1_2)).trans cHH1_2
                have a6 := (hB.cell (ltc cHH1_3)).trans cHH1_3
                have a7 := (hB.cell (ltc cHH1_4)).trans cHH1_4
                have a8 := (hB.cell (ltc cHH1_5)).trans cHH1_5
                have a9 := (hB.cell (ltc cHH2_0)).trans cHH2_0
                have a10 := (hB.cell (ltc cHH2_1)).trans cHH2_1
                have a11 := (hB.cell (ltc cHH2_2)).trans cHH2_2
                have a12 := (hB.cell (ltc cHH2_3)).trans cHH2_3
                have a13 := (hB.cell (ltc cHH2_4)).trans cHH2_4
                have a14 := (hB.cell (ltc cHH2_5)).trans cHH2_5
                have a15 := (hB.cell (ltc cHH3_0)).trans cHH3_0
                have a16 := (hB.cell (ltc cHH3_1)).trans cHH3_1
                have a17 := (hB.cell (ltc cHH3_2)).trans cHH3_2
                have a18 := (hB.cell (ltc cHH3_3)).trans cHH3_3
                have a19 := (hB.cell (ltc cHH4_0)).trans cHH4_0
                have a20 := (hB.cell (ltc cHH4_1)).trans cHH4_1
                refine wpOp_step rfl (fun K hK => ?_)
                clear hr
                go_simp
                refine hK _ _ ?_
                simp only [getD_own (l := ls) (i := 4) (by omega), getD_set ls (i := 4) (j := 0) (by decide), getD_set ls (i := 4) (j := 1) (by decide), getD_set ls (i := 4) (j := 2) (by decide), getD_set ls (i := 4) (j := 3) (by decide), getD_set ls (i := 4) (j := 5) (by decide), getD_set ls (i := 4) (j := 6) (by decide), getD_set ls (i := 4) (j := 7) (by decide), getD_set ls (i := 4) (j := 8) (by decide), getD_set ls (i := 4) (j := 9) (by decide), getD_set ls (i := 4) (j := 10) (by decide), getD_set ls (i := 4) (j := 11) (by decide)]
                exact ⟨v9, v10, v87, v88, v89, v90, _, v92, v93, v94, rfl, by simp [hl], hB, zg0, zg1, zg2, zg3, fun _ => rfl, zg5, zg6, zg7, zh1, zh2, zk1, zk2⟩
              · rintro ls ac w' hr ⟨v9, v10, v87, v88, v89, v90, v91, v92, v93, v94, rfl, hl, hB, zg0, zg1, zg2, zg3, zg4, zg5, zg6, zg7, zh1, zh2, zk1, zk2⟩
                have a0 := (hB.cell (ltc cHH0_0)).trans cHH0_0
                have a1 := (hB.cell (ltc cHH0_1)).trans cHH0_1
                have a2 := (hB.cell (ltc cHH0_2)).trans cHH0_2
                have a3 := (hB.cell (ltc cHH1_0)).trans cHH1_0
                have a4 := (hB.cell (ltc cHH1_1)).trans cHH1_1
                have a5 := (hB.cell (ltc cHH1_2)).trans cHH1_2
                have a6 := (hB.cell (ltc cHH1_3)).trans cHH1_3
                have a7 := (hB.cell (ltc cHH1_4)).trans cHH1_4
                have a8 := (hB.cell (ltc cHH1_5)).trans cHH1_5
                have a9 := (hB.cell (ltc cHH2_0)).trans cHH2_0
                have a10 := (hB.cell (ltc cHH2_1)).trans cHH2_1
                have a11 := (hB.cell (ltc cHH2_2)).trans cHH2_2
                have a12 := (hB.cell (ltc cHH2_3)).trans cHH2_3
                have a13 := (hB.cell (ltc cHH2_4)).trans cHH2_4
                have a14 := (hB.cell (ltc cHH2_5)).trans cHH2_5
                have a15 := (hB.cell (ltc cHH3_0)).trans cHH3_0
                have a16 := (hB.cell (ltc cHH3_1)).trans cHH3_1
                have a17 := (hB.cell (ltc cHH3_2)).trans cHH3_2
                have a18 := (hB.cell (ltc cHH3_3)).trans cHH3_3
                have a19 := (hB.cell (ltc cHH4_0)).trans cHH4_0
                have a20 := (hB.cell (ltc cHH4_1)).trans cHH4_1
                refine wpOp_step rfl (fun K hK => ?_)
                clear hr
                go_simp
                refine hK _ _ ?_
                simp only [getD_own (l := ls) (i := 5) (by omega), getD_set ls (i := 5) (j := 0) (by decide), getD_set ls (i := 5) (j := 1) (by decide), getD_set ls (i := 5) (j := 2) (by decide), getD_set ls (i := 5) (j := 3) (by decide), getD_set ls (i := 5) (j := 4) (by decide), getD_set ls (i := 5) (j := 6) (by decide), getD_set ls (i := 5) (j := 7) (by decide), getD_set ls (i := 5) (j := 8) (by decide), getD_set ls (i := 5) (j := 9) (by decide), getD_set ls (i := 5) (j := 10) (by decide), getD_set ls (i := 5) (j := 11) (by decide)]
                exact ⟨v9, v10, v87, v88, v89, v90, v91, _, v93, v94, rfl, by simp [hl], hB, zg0, zg1, zg2, zg3, zg4, fun _ => rfl, zg6, zg7, zh1, zh2, zk1, zk2⟩
              · rintro ls ac w' hr ⟨v9, v10, v87, v88, v89, v90, v91, v92, v93, v94, rfl, hl, hB, zg0, zg1, zg2, zg3, zg4, zg5, zg6, zg7, zh1, zh2, zk1, zk2⟩
                have a0 := (hB.cell (ltc cHH0_0)).trans cHH0_0
                have a1 := (hB.cell (ltc cHH0_1)).trans cHH0_1
                have a2 := (hB.cell (ltc cHH0_2)).trans cHH0_2
                have a3 := (hB.cell (ltc cHH1_0)).trans cHH1_0
                have a4 := (hB.cell (ltc cHH1_1)).trans cHH1_1
                have a5 := (hB.cell (ltc cHH1_2)).trans cHH1_2
                have a6 := (hB.cell (ltc cHH1_3)).trans cHH1_3
                have a7 := (hB.cell (ltc cHH1_4)).trans cHH1_4
                have a8 := (hB.cell (ltc cHH1_5)).trans cHH1_5
                have a9 := (hB.cell (ltc cHH2_0)).trans cHH2_0
                have a10 := (hB.cell (ltc cHH2_1)).trans cHH2_1
                have a11 := (hB.cell (ltc cHH2_2)).trans cHH2_2
                have a12 := (hB.cell (ltc cHH2_3)).trans cHH2_3
                have a13 := (hB.cell (ltc cHH2_4)).trans cHH2_4
                have a14 := (hB.cell (ltc cHH2_5)).trans cHH2_5
                have a15 := (hB.cell (ltc cHH3_0)).trans cHH3_0
                have a16 := (hB.cell (ltc cHH3_1)).trans cHH3_1
                have a17 := (hB.cell (ltc cHH3_2)).trans cHH3_2
                have a18 := (hB.cell (ltc cHH3_3)).trans cHH3_3
                have a19 := (hB.cell (ltc cHH4_0)).trans cHH4_0
                have a20 := (hB.cell (ltc cHH4_1)).trans cHH4_1
                refine wpOp_step rfl (fun K hK => ?_)
                clear hr
                go_simp
                refine hK _ _ ?_
                simp only [getD_own (l := ls) (i := 6) (by omega), getD_set ls (i := 6) (j := 0) (by decide), getD_set ls (i := 6) (j := 1) (by decide), getD_set ls (i := 6) (j := 2) (by decide), getD_set ls (i := 6) (j := 3) (by decide), getD_set ls (i := 6) (j := 4) (by decide), getD_set ls (i := 6) (j := 5) (by decide), getD_set ls (i := 6) (j := 7) (by decide), getD_set ls (i := 6) (j := 8) (by decide), getD_set ls (i := 6) (j := 9) (by decide), getD_set ls (i := 6) (j := 10) (by decide), getD_set ls (i := 6) (j := 11) (by decide)]
                exact ⟨v9, v10, v87, v88, v89, v90, v91, v92, _, v94, rfl, by simp [hl], hB, zg0, zg1, zg2, zg3, zg4, zg5, fun _ => rfl, zg7, zh1, zh2, zk1, zk2⟩
              · rintro ls ac w' hr ⟨v9, v10, v87, v88, v89, v90, v91, v92, v93, v94, rfl, hl, hB, zg0, zg1, zg2, zg3, zg4, zg5, zg6, zg7, zh1, zh2, zk1, zk2⟩
                have zd4 : ls.getD 4 false = true := (ready_dep hr rfl).2 ⟨4, .data⟩ (by simp) rfl
                have zd5 : ls.getD 5 false = true := (ready_dep hr rfl).2 ⟨5, .data⟩ (by simp) rfl
                have zd6 : ls.getD 6 false = true := (ready_dep hr rfl).2 ⟨6, .data⟩ (by simp) rfl
                obtain rfl := zg4 zd4
                obtain rfl := zg5 zd5
                obtain rfl := zg6 zd6
                refine wpOp_step rfl (fun K hK => ?_)
                clear hr
                go_simp
                refine (Mean_is _ _ _ _ _ _ _ _ _ _ _ _ hc0 hc1 HC _).mono ?_
                rintro e w1 ⟨rfl, hk⟩
                dsimp only
                refine hK _ _ ?_
                simp only [getD_own (l := ls) (i := 7) (by omega), getD_set ls (i := 7) (j := 0) (by decide), getD_set ls (i := 7) (j := 1) (by decide), getD_set ls (i := 7) (j := 2) (by decide), getD_set ls (i := 7) (j := 3) (by decide), getD_set ls (i := 7) (j := 4) (by decide), getD_set ls (i := 7) (j := 5) (by decide), getD_set ls (i := 7) (j := 6) (by decide), getD_set ls (i := 7) (j := 8) (by decide), getD_set ls (i := 7) (j := 9) (by decide), getD_set ls (i := 7) (j := 10) (by decide), getD_set ls (i := 7) (j := 11) (by decide)]
                exact ⟨v9, v10, v87, v88, v89, v90, _, _, _, _, rfl, by simp [hl], bstep hB hk, zg0, zg1, zg2, zg3, fun _ => rfl, fun _ => rfl, fun _ => rfl, fun _ => rfl, fun h => (by obtain ⟨b, e1, e2, e3, e4, e5⟩ := zh1 h; exact ⟨b, e1, e2, e3, fun h => (e4 h).keep hk, fun h => (e5 h).keep hk⟩), fun h => (by obtain ⟨b, e1, e2, e4, e5⟩ := zh2 h; exact ⟨b, e1, e2, fun h => (e4 h).keep hk, fun h => (e5 h).keep hk⟩), zk1, zk2⟩
              · rintro ls ac w' hr ⟨v9, v10, v87, v88, v89, v90, v91, v92, v93, v94, rfl, hl, hB, zg0, zg1, zg2, zg3, zg4, zg5, zg6, zg7, zh1, zh2, zk1, zk2⟩
                have hz := hB.size
                have lt2 : ∀ b, (ls.getD 11 false = false → SpanAt w' b 0 0 false) → (ls.getD 11 false = true → SpanAt w' b l2 u2 true) → b < w'.heap.size := fun b x y => by cases hc : ls.getD 11 false with | false => exact (x hc).lt | true => exact (y hc).lt
                have hn := (ready_dep hr rfl).1
                have hna : ls.getD 8 false = false := by cases hc : ls.getD 8 false with | false => rfl | true => (exfalso; have hs4 := getD_both hc; rw [hs4] at hn; cases hn)
                have hus : ls.getD 10 false = false := by cases hc : ls.getD 10 false with | false => rfl | true => (rw [zk1 hc] at hna; cases hna)
                refine wpOp_step rfl (fun K hK => ?_)
                clear hr
                go_simp
                refine hK _ _ ?_
                simp only [getD_own (l := ls) (i := 8) (by omega), getD_set ls (i := 8) (j := 0) (by decide), getD_set ls (i := 8) (j := 1) (by decide), getD_set ls (i := 8) (j := 2) (by decide), getD_set ls (i := 8) (j := 3) (by decide), getD_set ls (i := 8) (j := 4) (by decide), getD_set ls (i := 8) (j := 5) (by decide), getD_set ls (i := 8) (j := 6) (by decide), getD_set ls (i := 8) (j := 7) (by decide), getD_set ls (i := 8) (j := 9) (by decide), getD_set ls (i := 8) (j := 10) (by decide), getD_set ls (i := 8) (j := 11) (by decide)]
                exact ⟨_, v10, v87, v88, v89, v90, v91, v92, v93, v94, rfl, by simp [hl], balloc hB _, zg0, zg1, zg2, zg3, zg4, zg5, zg6, zg7, fun _ => ⟨_, rfl, hz, fun h => (by obtain ⟨b, e1, e2, e4, e5⟩ := zh2 h; rw [e1]; exact ptr_ne (Nat.ne_of_lt (lt2 b e4 e5))), fun _ => SpanAt.new rfl, fun h => (by rw [hus] at h; cases h)⟩, fun h => (by obtain ⟨b, e1, e2, e4, e5⟩ := zh2 h; exact ⟨b, e1, e2, fun h => (e4 h).keep (balloc (brefl _) _), fun h => (e5 h).keep (balloc (brefl _) _)⟩), fun _ => (by first | rfl | trivial), zk2⟩
              · rintro ls ac w' hr ⟨v9, v10, v87, v88, v89, v90, v91, v92, v93, v94, rfl, hl, hB, zg0, zg1, zg2, zg3, zg4, zg5, zg6, zg7, zh1, zh2, zk1, zk2⟩
                have hz := hB.size
                have lt1 : ∀ b, (ls.getD 10 false = false → SpanAt w' b 0 0 false) → (ls.getD 10 false = true → SpanAt w' b l u true) → b < w'.heap.size := fun b x y => by cases hc : ls.getD 10 false with | false => exact (x hc).lt | true => exact (y hc).lt
                have hn := (ready_dep hr rfl).1
                have hna : ls.getD 9 false = false := by cases hc : ls.getD 9 false with | false => rfl | true => (exfalso; have hs4 := getD_both hc; rw [hs4] at hn; cases hn)
                have hus : ls.getD 11 false = false := by cases hc : ls.getD 11 false with | false => rfl | true => (rw [zk2 hc] at hna; cases hna)
                refine wpOp_step rfl (fun K hK => ?_)
                clear hr
                go_simp
                refine hK _ _ ?_
                simp only [getD_own (l := ls) (i := 9) (by omega), getD_set ls (i := 9) (j := 0) (by decide), getD_set ls (i := 9) (j := 1) (by decide), getD_set ls (i := 9) (j := 2) (by decide), getD_set ls (i := 9) (j := 3) (by decide), getD_set ls (i := 9) (j := 4) (by decide), getD_set ls (i := 9) (j := 5) (by decide), getD_set ls (i := 9) (j := 6) (by decide), getD_set ls (i := 9) (j := 7) (by decide), getD_set ls (i := 9) (j := 8) (by decide), getD_set ls (i := 9) (j := 10) (by decide), getD_set ls (i := 9) (j := 11) (by decide)]
                exact ⟨v9, _, v87, v88, v89, v90, v91, v92, v93, v94, rfl, by simp [hl], balloc hB _, zg0, zg1, zg2, zg3, zg4, zg5, zg6, zg7, fun h => (by obtain ⟨b, e1, e2, e3, e4, e5⟩ := zh1 h; exact ⟨b, e1, e2, fun _ => ptr_ne (Nat.ne_of_gt (lt1 b e4 e5)), fun h => (e4 h).keep (balloc (brefl _) _), fun h => (e5 h).keep (balloc (brefl _) _)⟩), fun _ => ⟨_, rfl, hz, fun _ => SpanAt.new rfl, fun h => (by rw [hus] at h; cases h)⟩, zk1, fun _ => (by first | rfl | trivial)⟩
              · rintro ls ac w' hr ⟨v9, v10, v87, v88, v89, v90, v91, v92, v93, v94, rfl, hl, hB, zg0, zg1, zg2, zg3, zg4, zg5, zg6, zg7, zh1, zh2, zk1, zk2⟩
                have zd8 : ls.getD 8 false = true := (ready_dep hr rfl).2 ⟨8, .data⟩ (by simp) rfl
                have zd3 : ls.getD 3 false = true := (ready_dep hr rfl).2 ⟨3, .data⟩ (by simp) rfl
                obtain rfl := zg3 zd3
                have hn := (ready_dep hr rfl).1
                have hns : ls.getD 10 false = false := by cases hc : ls.getD 10 false with | false => rfl | true => (exfalso; have hs4 := getD_both hc; rw [hs4] at hn; cases hn)
                obtain ⟨b, rfl, hub, hne, e4, _⟩ := zh1 zd8
                have hS := e4 hns
                have hT := span_sets (x := l) (y := u) (z := true) hS
                have zs0 := (hS).1.1
                have zs1 := (hS).2.1.1
                have zs2 := (hS).2.2.1
                have zs3 := (hS).1.2
                have zs4 := (hS).2.1.2
                have zs5 := (hS).2.2.2
                refine wpOp_step rfl (fun K hK => ?_)
                clear hr
                clear hS e4
                go_simp
                refine hK _ _ ?_
                simp only [getD_own (l := ls) (i := 10) (by omega), getD_set ls (i := 10) (j := 0) (by decide), getD_set ls (i := 10) (j := 1) (by decide), getD_set ls (i := 10) (j := 2) (by decide), getD_set ls (i := 10) (j := 3) (by decide), getD_set ls (i := 10) (j := 4) (by decide), getD_set ls (i := 10) (j := 5) (by decide), getD_set ls (i := 10) (j := 6) (by decide), getD_set ls (i := 10) (j := 7) (by decide), getD_set ls (i := 10) (j := 8) (by decide), getD_set ls (i := 10) (j := 9) (by decide), getD_set ls (i := 10) (j := 11) (by decide)]
                exact ⟨_, v10, v87, v88, v89, _, v91, v92, v93, v94, rfl, by simp [hl], hB.trans (hT.2.2 _ hub), zg0, zg1, zg2, fun _ => rfl, zg4, zg5, zg6, zg7, fun _ => ⟨b, rfl, hub, hne, fun h => (by cases h), fun _ => hT.1⟩, fun h => (by obtain ⟨b', e1, e2, x4, x5⟩ := zh2 h; have hbb : b' ≠ b := fun hh => hne h (by rw [e1, hh]); exact ⟨b', e1, e2, fun h => hT.2.1 _ _ _ _ hbb (x4 h), fun h => hT.2.1 _ _ _ _ hbb (x5 h)⟩), fun _ => zd8, zk2⟩
              · rintro ls ac w' hr ⟨v9, v10, v87, v88, v89, v90, v91, v92, v93, v94, rfl, hl, hB, zg0, zg1, zg2, zg3, zg4, zg5, zg6, zg7, zh1, zh2, zk1, zk2⟩
                have zd9 : ls.getD 9 false = true := (ready_dep hr rfl).2 ⟨9, .data⟩ (by simp) rfl
                have zd7 : ls.getD 7 false = true := (ready_dep hr rfl).2 ⟨7, .data⟩ (by simp) rfl
                obtain rfl := zg7 zd7
                have hn := (ready_dep hr rfl).1
                have hns : ls.getD 11 false = false := by cases hc : ls.getD 11 false with | false => rfl | true => (exfalso; have hs4 := getD_both hc; rw [hs4] at hn; cases hn)
                obtain ⟨b, rfl, hub, e4, _⟩ := zh2 zd9
                have hS := e4 hns
                have hT := span_sets (x := l2) (y := u2) (z := true) hS
                have zs0 := (hS).1.1
                have zs1 := (hS).2.1.1
                have zs2 := (hS).2.2.1
                have zs3 := (hS).1.2
                have zs4 := (hS).2.1.2
                have zs5 := (hS).2.2.2
                refine wpOp_step rfl (fun K hK => ?_)
                clear hr
                clear hS e4
                go_simp
                refine hK _ _ ?_
                simp only [getD_own (l := ls) (i := 11) (by omega), getD_set ls (i := 11) (j := 0) (by decide), getD_set ls (i := 11) (j := 1) (by decide), getD_set ls (i := 11) (j := 2) (by decide), getD_set ls (i := 11) (j := 3) (by decide), getD_set ls (i := 11) (j := 4) (by decide), getD_set ls (i := 11) (j := 5) (by decide), getD_set ls (i := 11) (j := 6) (by decide), getD_set ls (i := 11) (j := 7) (by decide), getD_set ls (i := 11) (j := 8) (by decide), getD_set ls (i := 11) (j := 9) (by decide), getD_set ls (i := 11) (j := 10) (by decide)]
                exact ⟨v9, _, v87, v88, v89, v90, v91, v92, v93, _, rfl, by simp [hl], hB.trans (hT.2.2 _ hub), zg0, zg1, zg2, zg3, zg4, zg5, zg6, fun _ => rfl, fun h => (by obtain ⟨b', e1, e2, x3, x4, x5⟩ := zh1 h; have hbb : b' ≠ b := fun hh => x3 zd9 (by rw [hh]); exact ⟨b', e1, e2, x3, fun h => hT.2.1 _ _ _ _ hbb (x4 h), fun h => hT.2.1 _ _ _ _ hbb (x5 h)⟩), fun _ => ⟨b, rfl, hub, fun h => (by cases h), fun _ => hT.1⟩, zk1, fun _ => zd9⟩
            · rintro ls ac w' ⟨v9, v10, v87, v88, v89, v90, v91, v92, v93, v94, rfl, hl, hB, zg0, zg1, zg2, zg3, zg4, zg5, zg6, zg7, zh1, zh2, zk1, zk2⟩ hr
              have hall := ready_allb (by decide) hl hr
              obtain ⟨b1, rfl, hub1, _, _, f1⟩ := zh1 (hall 8 (by decide))
              have F1 := f1 (hall 10 (by decide))
              obtain ⟨b2, rfl, hub2, _, f2⟩ := zh2 (hall 9 (by decide))
              have F2 := f2 (hall 11 (by decide))
              go_wp2_with fail
              go_meet
              exact ⟨b1, b2, rfl, rfl, Lib.hid (Below.trans hwA (hB.mono (Below.size hwA))), Lib.hid ⟨CellF.keep hB qHH0_0, CellF.keep hB qHH0_1, CellF.keep hB qHH0_2⟩, Lib.hid ⟨CellF.keep hB qHH1_0, CellF.keep hB qHH1_1, CellF.keep hB qHH1_2, CellF.keep hB qHH1_3, CellF.keep hB qHH1_4, CellF.keep hB qHH1_5⟩, Lib.hid ⟨CellF.keep hB qHH2_0, CellF.keep hB qHH2_1, CellF.keep hB qHH2_2, CellF.keep hB qHH2_3, CellF.keep hB qHH2_4, CellF.keep hB qHH2_5⟩, Lib.hid ⟨CellF.keep hB qHH3_0, CellF.keep hB qHH3_1, CellF.keep hB qHH3_2, CellF.keep hB qHH3_3⟩, Lib.hid ⟨CellF.keep hB qHH4_0, CellF.keep hB qHH4_1⟩, Lib.hid F1, Lib.hid F2⟩
          case rest =>
            obtain ⟨bs, bm, rfl, rfl, HB, HD0, HD1, HD2, HD3, HD4, XD0, XD1⟩ := hcut
            have hwD := HB.out
            have qHD0_0 := HD0.out.1
            have cHD0_0 := qHD0_0.1
            have qHD0_1 := HD0.out.2.1
            have cHD0_1 := qHD0_1.1
            have qHD0_2 := HD0.out.2.2
            have cHD0_2 := qHD0_2.1
            have zHD0 := ltc cHD0_0
            have qHD1_0 := HD1.out.1
            have cHD1_0 := qHD1_0.1
            have qHD1_1 := HD1.out.2.1
            have cHD1_1 := qHD1_1.1
            have qHD1_2 := HD1.out.2.2.1
            have cHD1_2 := qHD1_2.1
            have qHD1_3 := HD1.out.2.2.2.1
            have cHD1_3 := qHD1_3.1
            have qHD1_4 := HD1.out.2.2.2.2.1
            have cHD1_4 := qHD1_4.1
            have qHD1_5 := HD1.out.2.2.2.2.2
            have cHD1_5 := qHD1_5.1
            have zHD1 := ltc cHD1_0
            have qHD2_0 := HD2.out.1
            have cHD2_0 := qHD2_0.1
            have qHD2_1 := HD2.out.2.1
            have cHD2_1 := qHD2_1.1
            have qHD2_2 := HD2.out.2.2.1
            have cHD2_2 := qHD2_2.1
            have qHD2_3 := HD2.out.2.2.2.1
            have cHD2_3 := qHD2_3.1
            have qHD2_4 := HD2.out.2.2.2.2.1
            have cHD2_4 := qHD2_4.1
            have qHD2_5 := HD2.out.2.2.2.2.2
            have cHD2_5 := qHD2_5.1
            have zHD2 := ltc cHD2_0
            have qHD3_0 := HD3.out.1
            have cHD3_0 := qHD3_0.1
            have qHD3_1 := HD3.out.2.1
            have cHD3_1 := qHD3_1.1
            have qHD3_2 := HD3.out.2.2.1
            have cHD3_2 := qHD3_2.1
            have qHD3_3 := HD3.out.2.2.2
            have cHD3_3 := qHD3_3.1
            have zHD3 := ltc cHD3_0
            have qHD4_0 := HD4.out.1
            have cHD4_0 := qHD4_0.1
            have qHD4_1 := HD4.out.2
            have cHD4_1 := qHD4_1.1
            have zHD4 := ltc cHD4_0
            have qXD0_0 := XD0.out.1
            have cXD0_0 := qXD0_0.1
            have qXD0_1 := XD0.out.2.1
            have cXD0_1 := qXD0_1.1
            have qXD0_2 := XD0.out.2.2
            have cXD0_2 := qXD0_2.1
            have zXD0 := ltc cXD0_0
            have qXD1_0 := XD1.out.1
            have cXD1_0 := qXD1_0.1
            have qXD1_1 := XD1.out.2.1
            have cXD1_1 := qXD1_1.1
            have qXD1_2 := XD1.out.2.2
            have cXD1_2 := qXD1_2.1
            have zXD1 := ltc cXD1_0
            clear HB HD0 HD1 HD2 HD3 HD4 XD0 XD1
            have hkk : 0 ≤ k + k' ∧ k + k' ≤ 2251799813685248 := by omega
            have hk0 : 0 ≤ k := by omega
            have hk1 : 0 ≤ k' := by omega
            have hk2 : k ≤ 1125899906842624 := i3.2
            have hk3 : k' ≤ 1125899906842624 := i3'.2
            have HK2 : Hid (spHas ⟨l2, u2, true⟩ ((k + k') / 2) = true) := by have := HK.out; rw [Int.tdiv_eq_ediv_of_nonneg hkk.1] at this; exact Lib.hid this
            clear i1 i2 i3 i4 i1' i2' i3' i4' r1 r2 r1' r2' j1 j2 j3 j4 j1' j2' j3' j4' g0 g1 g2 g3 hq1 hq2 hc0 hc1 HB HC HQ
            go_upto_region 7 with (fail)
            go_cut [11] (fun v11 wd => ∃ s, v11 = .int .i64 s ∧ Hid (0 ≤ s ∧ s ≤ 2251799813685248) ∧ Hid (spHas ⟨l2, u2, true⟩ (s / 2) = true) ∧ Hid (Below w.heap.size w wd) ∧ Hid (CellF wd ⟨(w.heap.size + 1), 0, none⟩ (.int .i64 a) ∧ CellF wd ⟨(w.heap.size + 1), 1, none⟩ (.int .i64 o) ∧ CellF wd ⟨(w.heap.size + 1), 2, none⟩ (.int .i64 k) ∧ CellF wd ⟨(w.heap.size + 1), 3, none⟩ (.int .i64 y0) ∧ CellF wd ⟨(w.heap.size + 1), 4, none⟩ (.int .i64 y1) ∧ CellF wd ⟨(w.heap.size + 1), 5, none⟩ (.int .i64 n)) ∧ Hid (CellF wd ⟨bs, 0, none⟩ (.int .i64 l) ∧ CellF wd ⟨bs, 1, none⟩ (.int .i64 u) ∧ CellF wd ⟨bs, 2, none⟩ (.bool true)) ∧ Hid (CellF wd ⟨bm, 0, none⟩ (.int .i64 l2) ∧ CellF wd ⟨bm, 1, none⟩ (.int .i64 u2) ∧ CellF wd ⟨bm, 2, none⟩ (.bool true)))
            case first =>
              go_wp2_with fail
              go_meet
              exact ⟨k + k', rfl, Lib.hid hkk, HK2, Lib.hid hwD, Lib.hid ⟨qHD1_0, qHD1_1, qHD1_2, qHD1_3, qHD1_4, qHD1_5⟩, Lib.hid ⟨qXD0_0, qXD0_1, qXD0_2⟩, Lib.hid ⟨qXD1_0, qXD1_1, qXD1_2⟩⟩
            case rest =>
              obtain ⟨s, rfl, HS0, HS2, HBE, HE0, HE1, HE2⟩ := hcut
              have hwE := HBE.out
              clear qHD0_0 cHD0_0 qHD0_1 cHD0_1 qHD0_2 cHD0_2 zHD0 qHD1_0 cHD1_0 qHD1_1 cHD1_1 qHD1_2 cHD1_2 qHD1_3 cHD1_3 qHD1_4 cHD1_4 qHD1_5 cHD1_5 zHD1 qHD2_0 cHD2_0 qHD2_1 cHD2_1 qHD2_2 cHD2_2 qHD2_3 cHD2_3 qHD2_4 cHD2_4 qHD2_5 cHD2_5 zHD2 qHD3_0 cHD3_0 qHD3_1 cHD3_1 qHD3_2 cHD3_2 qHD3_3 cHD3_3 zHD3 qHD4_0 cHD4_0 qHD4_1 cHD4_1 zHD4 qXD0_0 cXD0_0 qXD0_1 cXD0_1 qXD0_2 cXD0_2 zXD0 qXD1_0 cXD1_0 qXD1_1 cXD1_1 qXD1_2 cXD1_2 zXD1
              clear hkk hk0 hk1 hk2 hk3 HK HK2
              have qHE0_0 := HE0.out.1
              have cHE0_0 := qHE0_0.1
              have qHE0_1 := HE0.out.2.1
              have cHE0_1 := qHE0_1.1
              have qHE0_2 := HE0.out.2.2.1
              have cHE0_2 := qHE0_2.1
              have qHE0_3 := HE0.out.2.2.2.1
              have cHE0_3 := qHE0_3.1
              have qHE0_4 := HE0.out.2.2.2.2.1
              have cHE0_4 := qHE0_4.1
              have qHE0_5 := HE0.out.2.2.2.2.2
              have cHE0_5 := qHE0_5.1
              have zHE0 := ltc cHE0_0
              have qHE1_0 := HE1.out.1
              have cHE1_0 := qHE1_0.1
              have qHE1_1 := HE1.out.2.1
              have cHE1_1 := qHE1_1.1
              have qHE1_2 := HE1.out.2.2
              have cHE1_2 := qHE1_2.1
              have zHE1 := ltc cHE1_0
              have qHE2_0 := HE2.out.1
              have cHE2_0 := qHE2_0.1
              have qHE2_1 := HE2.out.2.1
              have cHE2_1 := qHE2_1.1
              have qHE2_2 := HE2.out.2.2
              have cHE2_2 := qHE2_2.1
              have zHE2 := ltc cHE2_0
              clear HBE HE0 HE1 HE2
              obtain ⟨hs0, hs1⟩ := HS0.out
              clear HS0
              go_wp2_with fail
              refine (alive_is _).mono ?_
              rintro e w3 ⟨rfl, hb3⟩
              have q3_7_0 : CellF w3 ⟨(w.heap.size + 1), 0, none⟩ (.int .i64 a) := (by refine CellF.keep hb3 ?_; repeat (first | with_reducible exact qHE0_0 | (with_reducible refine CellF.at_ ?_ rfl; (first | rfl | (simp; done))) | with_reducible refine CellF.past _ ?_ | with_reducible refine CellF.drew ?_ | with_reducible refine CellF.drewN _ ?_))
              have c3_7_0 := q3_7_0.1
              have q3_7_1 : CellF w3 ⟨(w.heap.size + 1), 1, none⟩ (.int .i64 o) := (by refine CellF.keep hb3 ?_; repeat (first | with_reducible exact qHE0_1 | (with_reducible refine CellF.at_ ?_ rfl; (first | rfl | (simp; done))) | with_reducible refine CellF.past _ ?_ | with_reducible refine CellF.drew ?_ | with_reducible refine CellF.drewN _ ?_))
              have c3_7_1 := q3_7_1.1
              have q3_7_2 : CellF w3 ⟨(w.heap.size + 1), 2, none⟩ (.int .i64 k) := (by refine CellF.keep hb3 ?_; repeat (first | with_reducible exact qHE0_2 | (with_reducible refine CellF.at_ ?_ rfl; (first | rfl | (simp; done))) | with_reducible refine CellF.past _ ?_ | with_reducible refine CellF.drew ?_ | with_reducible refine CellF.drewN _ ?_))
              have c3_7_2 := q3_7_2.1
              have q3_7_3 : CellF w3 ⟨(w.heap.size + 1), 3, none⟩ (.int .i64 y0) := (by refine CellF.keep hb3 ?_; repeat (first | with_reducible exact qHE0_3 | (with_reducible refine CellF.at_ ?_ rfl; (first | rfl | (simp; done))) | with_reducible refine CellF.past _ ?_ | with_reducible refine CellF.drew ?_ | with_reducible refine CellF.drewN _ ?_))
              have c3_7_3 := q3_7_3.1
              have q3_7_4 : CellF w3 ⟨(w.heap.size + 1), 4, none⟩ (.int .i64 y1) := (by refine CellF.keep hb3 ?_; repeat (first | with_reducible exact qHE0_4 | (with_reducible refine CellF.at_ ?_ rfl; (first | rfl | (simp; done))) | with_reducible refine CellF.past _ ?_ | with_reducible refine CellF.drew ?_ | with_reducible refine CellF.drewN _ ?_))
              have c3_7_4 := q3_7_4.1
              have q3_7_5 : CellF w3 ⟨(w.heap.size + 1), 5, none⟩ (.int .i64 n) := (by refine CellF.keep hb3 ?_; repeat (first | with_reducible exact qHE0_5 | (with_reducible refine CellF.at_ ?_ rfl; (first | rfl | (simp; done))) | with_reducible refine CellF.past _ ?_ | with_reducible refine CellF.drew ?_ | with_reducible refine CellF.drewN _ ?_))
              have c3_7_5 := q3_7_5.1
              have z3_7 : (w.heap.size + 1) < w3.heap.size := ltc c3_7_0
              have q3_8_0 : CellF w3 ⟨bs, 0, none⟩ (.int .i64 l) := (by refine CellF.keep hb3 ?_; repeat (first | with_reducible exact qHE1_0 | (with_reducible refine CellF.at_ ?_ rfl; (first | rfl | (simp; done))) | with_reducible refine CellF.past _ ?_ | with_reducible refine CellF.drew ?_ | with_reducible refine CellF.drewN _ ?_))
              have c3_8_0 := q3_8_0.1
              have q3_8_1 : CellF w3 ⟨bs, 1, none⟩ (.int .i64 u) := (by refine CellF.keep hb3 ?_; repeat (first | with_reducible exact qHE1_1 | (with_reducible refine CellF.at_ ?_ rfl; (first | rfl | (simp; done))) | with_reducible refine CellF.past _ ?_ | with_reducible refine CellF.drew ?_ | with_reducible refine CellF.drewN _ ?_))
              have c3_8_1 := q3_8_1.1
              have q3_8_2 : CellF w3 ⟨bs, 2, none⟩ (.bool true) := (by refine CellF.keep hb3 ?_; repeat (first | with_reducible exact qHE1_2 | (with_reducible refine CellF.at_ ?_ rfl; (first | rfl | (simp; done))) | with_reducible refine CellF.past _ ?_ | with_reducible refine CellF.drew ?_ | with_reducible refine CellF.drewN _ ?_))
              have c3_8_2 := q3_8_2.1
              have z3_8 : bs < w3.heap.size := ltc c3_8_0
              have q3_9_0 : CellF w3 ⟨bm, 0, none⟩ (.int .i64 l2) := (by refine CellF.keep hb3 ?_; repeat (first | with_reducible exact qHE2_0 | (with_reducible refine CellF.at_ ?_ rfl; (first | rfl | (simp; done))) | with_reducible refine CellF.past _ ?_ | with_reducible refine CellF.drew ?_ | with_reducible refine CellF.drewN _ ?_))
              have c3_9_0 := q3_9_0.1
              have q3_9_1 : CellF w3 ⟨bm, 1, none⟩ (.int .i64 u2) := (by refine CellF.keep hb3 ?_; repeat (first | with_reducible exact qHE2_1 | (with_reducible refine CellF.at_ ?_ rfl; (first | rfl | (simp; done))) | with_reducible refine CellF.past _ ?_ | with_reducible refine CellF.drew ?_ | with_reducible refine CellF.drewN _ ?_))
              have c3_9_1 := q3_9_1.1
              have q3_9_2 : CellF w3 ⟨bm, 2, none⟩ (.bool true) := (by refine CellF.keep hb3 ?_; repeat (first | with_reducible exact qHE2_2 | (with_reducible refine CellF.at_ ?_ rfl; (first | rfl | (simp; done))) | with_reducible refine CellF.past _ ?_ | with_reducible refine CellF.drew ?_ | with_reducible refine CellF.drewN _ ?_))
              have c3_9_2 := q3_9_2.1
              have z3_9 : bm < w3.heap.size := ltc c3_9_0
              clear qHE0_0 cHE0_0 qHE0_1 cHE0_1 qHE0_2 cHE0_2 qHE0_3 cHE0_3 qHE0_4 cHE0_4 qHE0_5 cHE0_5 zHE0 qHE1_0 cHE1_0 qHE1_1 cHE1_1 qHE1_2 cHE1_2 zHE1 qHE2_0 cHE2_0 qHE2_1 cHE2_1 qHE2_2 cHE2_2 zHE2
              go_wp2_with fail
              refine (Has_is _ _ _ _ _ HH _).mono ?_
              rintro e w4 ⟨rfl, hb4⟩
              have q4_10_0 : CellF w4 ⟨(w.heap.size + 1), 0, none⟩ (.int .i64 a) := (by refine CellF.keep hb4 ?_; repeat (first | with_reducible exact q3_7_0 | (with_reducible refine CellF.at_ ?_ rfl; (first | rfl | (simp; done))) | with_reducible refine CellF.past _ ?_ | with_reducible refine CellF.drew ?_ | with_reducible refine CellF.drewN _ ?_))
              have c4_10_0 := q4_10_0.1
              have q4_10_1 : CellF w4 ⟨(w.heap.size + 1), 1, none⟩ (.int .i64 o) := (by refine CellF.keep hb4 ?_; repeat (first | with_reducible exact q3_7_1 | (with_reducible refine CellF.at_ ?_ rfl; (first | rfl | (simp; done))) | with_reducible refine CellF.past _ ?_ | with_reducible refine CellF.drew ?_ | with_reducible refine CellF.drewN _ ?_))
              have c4_10_1 := q4_10_1.1
              have q4_10_2 : CellF w4 ⟨(w.heap.size + 1), 2, none⟩ (.int .i64 k) := (by refine CellF.keep hb4 ?_; repeat (first | with_reducible exact q3_7_2 | (with_reducible refine CellF.at_ ?_ rfl; (first | rfl | (simp; done))) | with_reducible refine CellF.past _ ?_ | with_reducible refine CellF.drew ?_ | with_reducible refine CellF.drewN _ ?_))
              have c4_10_2 := q4_10_2.1
              have q4_10_3 : CellF w4 ⟨(w.heap.size + 1), 3, none⟩ (.int .i64 y0) := (by refine CellF.keep hb4 ?_; repeat (first | with_reducible exact q3_7_3 | (with_reducible refine CellF.at_ ?_ rfl; (first | rfl | (simp; done))) | with_reducible refine CellF.past _ ?_ | with_reducible refine CellF.drew ?_ | with_reducible refine CellF.drewN _ ?_))
              have c4_10_3 := q4_10_3.1
              have q4_10_4 : CellF w4 ⟨(w.heap.size + 1), 4, none⟩ (.int .i64 y1) := (by refine CellF.keep hb4 ?_; repeat (first | with_reducible exact q3_7_4 | (with_reducible refine CellF.at_ ?_ rfl; (first | rfl | (simp; done))) | with_reducible refine CellF.past _ ?_ | with_reducible refine CellF.drew ?_ | with_reducible refine CellF.drewN _ ?_))
              have c4_10_4 := q4_10_4.1
              have q4_10_5 : CellF w4 ⟨(w.heap.size + 1), 5, none⟩ (.int .i64 n) := (by refine CellF.keep hb4 ?_; repeat (first | with_reducible exact q3_7_5 | (with_reducible refine CellF.at_ ?_ rfl; (first | rfl | (simp; done))) | with_reducible refine CellF.past _ ?_ | with_reducible refine CellF.drew ?_ | with_reducible refine CellF.drewN _ ?_))
              have c4_10_5 := q4_10_5.1
              have z4_10 : (w.heap.size + 1) < w4.heap.size := ltc c4_10_0
              have q4_11_0 : CellF w4 ⟨bs, 0, none⟩ (.int .i64 l) := (by refine CellF.keep hb4 ?_; repeat (first | with_reducible exact q3_8_0 | (with_reducible refine CellF.at_ ?_ rfl; (first | rfl | (simp; done))) | with_reducible refine CellF.past _ ?_ | with_reducible refine CellF.drew ?_ | with_reducible refine CellF.drewN _ ?_))
              have c4_11_0 := q4_11_0.1
              have q4_11_1 : CellF w4 ⟨bs, 1, none⟩ (.int .i64 u) := (by refine CellF.keep hb4 ?_; repeat (first | with_reducible exact q3_8_1 | (with_reducible refine CellF.at_ ?_ rfl; (first | rfl | (simp; done))) | with_reducible refine CellF.past _ ?_ | with_reducible refine CellF.drew ?_ | with_reducible refine CellF.drewN _ ?_))
              have c4_11_1 := q4_11_1.1
              have q4_11_2 : CellF w4 ⟨bs, 2, none⟩ (.bool true) := (by refine CellF.keep hb4 ?_; repeat (first | with_reducible exact q3_8_2 | (with_reducible refine CellF.at_ ?_ rfl; (first | rfl | (simp; done))) | with_reducible refine CellF.past _ ?_ | with_reducible refine CellF.drew ?_ | with_reducible refine CellF.drewN _ ?_))
              have c4_11_2 := q4_11_2.1
              have z4_11 : bs < w4.heap.size := ltc c4_11_0
              have q4_12_0 : CellF w4 ⟨bm, 0, none⟩ (.int .i64 l2) := (by refine CellF.keep hb4 ?_; repeat (first | with_reducible exact q3_9_0 | (with_reducible refine CellF.at_ ?_ rfl; (first | rfl | (simp; done))) | with_reducible refine CellF.past _ ?_ | with_reducible refine CellF.drew ?_ | with_reducible refine CellF.drewN _ ?_))
              have c4_12_0 := q4_12_0.1
              have q4_12_1 : CellF w4 ⟨bm, 1, none⟩ (.int .i64 u2) := (by refine CellF.keep hb4 ?_; repeat (first | with_reducible exact q3_9_1 | (with_reducible refine CellF.at_ ?_ rfl; (first | rfl | (simp; done))) | with_reducible refine CellF.past _ ?_ | with_reducible refine CellF.drew ?_ | with_reducible refine CellF.drewN _ ?_))
              have c4_12_1 := q4_12_1.1
              have q4_12_2 : CellF w4 ⟨bm, 2, none⟩ (.bool true) := (by refine CellF.keep hb4 ?_; repeat (first | with_reducible exact q3_9_2 | (with_reducible refine CellF.at_ ?_ rfl; (first | rfl | (simp; done))) | with_reducible refine CellF.past _ ?_ | with_reducible refine CellF.drew ?_ | with_reducible refine CellF.drewN _ ?_))
              have c4_12_2 := q4_12_2.1
              have z4_12 : bm < w4.heap.size := ltc c4_12_0
              clear q3_7_0 c3_7_0 q3_7_1 c3_7_1 q3_7_2 c3_7_2 q3_7_3 c3_7_3 q3_7_4 c3_7_4 q3_7_5 c3_7_5 z3_7 q3_8_0 c3_8_0 q3_8_1 c3_8_1 q3_8_2 c3_8_2 z3_8 q3_9_0 c3_9_0 q3_9_1 c3_9_1 q3_9_2 c3_9_2 z3_9
              go_wp2_with fail
              refine (Has_is _ _ _ _ _ HS2 _).mono ?_
              rintro e w5 ⟨rfl, hb5⟩
              all_goals (go_wp2; go_ret; exact ⟨rfl, (by repeat (first | exact brefl _ | refine balloc ?_ _ | refine bdrewN ?_ _ | refine bset ?_ (by dsimp only; omega) _ | refine bstep ?_ (by assumption)))⟩)
end Go.Proofs.Ytigpddhffgoioaa
