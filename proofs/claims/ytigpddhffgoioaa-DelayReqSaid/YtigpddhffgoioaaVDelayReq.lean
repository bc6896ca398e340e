/-
  The walk of the law DelayReq.
-/
import Derived.Test.YtigpddhffgoioaaAlDelay
import Derived.Test.YtigpddhffgoioaaDf
import Derived.Test.YtigpddhffgoioaaSb
import Derived.Test.YtigpddhffgoioaaDd
import Derived.Deep.RegionHeld3
namespace Go.Proofs.Ytigpddhffgoioaa
open Go.RowKit

set_option maxRecDepth 100000 in
set_option maxHeartbeats 4000000 in
theorem DelayReq_walk (mn mx g a o k y0 y1 n : Int) (w : World) (_ : I64 mn) (_ : I64 mx) (_ : I64 g) (_ : I64 a) (_ : I64 o) (_ : I64 k) (_ : I64 y0) (_ : I64 y1) (_ : I64 n) :
    Calls Try.prog 6 #[.agg #[.int .i64 mn, .int .i64 mx, .int .i64 g], .agg #[.int .i64 a, .int .i64 o, .int .i64 k, .int .i64 y0, .int .i64 y1, .int .i64 n]] w fun e w' => e = .returned (.bool true) ∧ Below w.heap.size w w' := by
  obtain ⟨m, hm⟩ : ∃ m, mayB mn mx g a o k n y0 y1 = m := ⟨_, rfl⟩
  have HM := Lib.hid hm
  cases m with
  | false =>
    go_enter Try.func6, Try.ntmps6
    go_wp2_with fail
    refine (may_is _ _ _ _ _ _ _ _ _ _ HM _).mono ?_
    rintro e w1 ⟨rfl, hb1⟩
    have q1_1_0 : CellF w1 ⟨w.heap.size, 0, none⟩ (.int .i64 mn) := (by refine CellF.keep hb1 ?_; (first | ((repeat (first | (with_reducible refine CellF.at_ ?_ rfl; (first | rfl | (simp; done))) | with_reducible refine CellF.past _ ?_ | with_reducible refine CellF.drew ?_ | with_reducible refine CellF.drewN _ ?_)); done) | (refine ⟨?_, ?_⟩ <;> go_simp)))
    have c1_1_0 := q1_1_0.1
    have q1_1_1 : CellF w1 ⟨w.heap.size, 1, none⟩ (.int .i64 mx) := (by refine CellF.keep hb1 ?_; (first | ((repeat (first | (with_reducible refine CellF.at_ ?_ rfl; (first | rfl | (simp; done))) | with_reducible refine CellF.past _ ?_ | with_reducible refine CellF.drew ?_ | with_reducible refine CellF.drewN _ ?_)); done) | (refine ⟨?_, ?_⟩ <;> go_simp)))
    have c1_1_1 := q1_1_1.1
    have q1_1_2 : CellF w1 ⟨w.heap.size, 2, none⟩ (.int .i64 g) := (by refine CellF.keep hb1 ?_; (first | ((repeat (first | (with_reducible refine CellF.at_ ?_ rfl; (first | rfl | (simp; done))) | with_reducible refine CellF.past _ ?_ | with_reducible refine CellF.drew ?_ | with_reducible refine CellF.drewN _ ?_)); done) | (refine ⟨?_, ?_⟩ <;> go_simp)))
    have c1_1_2 := q1_1_2.1
    have z1_1 : w.heap.size < w1.heap.size := ltc c1_1_0
    have q1_2_0 : CellF w1 ⟨(w.heap.size + 1), 0, none⟩ (.int .i64 a) := (by refine CellF.keep hb1 ?_; (first | ((repeat (first | (with_reducible refine CellF.at_ ?_ rfl; (first | rfl | (simp; done))) | with_reducible refine CellF.past _ ?_ | with_reducible refine CellF.drew ?_ | with_reducible refine CellF.drewN _ ?_)); done) | (refine ⟨?_, ?_⟩ <;> go_simp)))
    have c1_2_0 := q1_2_0.1
    have q1_2_1 : CellF w1 ⟨(w.heap.size + 1), 1, none⟩ (.int .i64 o) := (by refine CellF.keep hb1 ?_; (first | ((repeat (first | (with_reducible refine CellF.at_ ?_ rfl; (first | rfl | (simp; done))) | with_reducible refine CellF.past _ ?_ | with_reducible refine CellF.drew ?_ | with_reducible refine CellF.drewN _ ?_)); done) | (refine ⟨?_, ?_⟩ <;> go_simp)))
    have c1_2_1 := q1_2_1.1
    have q1_2_2 : CellF w1 ⟨(w.heap.size + 1), 2, none⟩ (.int .i64 k) := (by refine CellF.keep hb1 ?_; (first | ((repeat (first | (with_reducible refine CellF.at_ ?_ rfl; (first | rfl | (simp; done))) | with_reducible refine CellF.past _ ?_ | with_reducible refine CellF.drew ?_ | with_reducible refine CellF.drewN _ ?_)); done) | (refine ⟨?_, ?_⟩ <;> go_simp)))
    have c1_2_2 := q1_2_2.1
    have q1_2_3 : CellF w1 ⟨(w.heap.size + 1), 3, none⟩ (.int .i64 y0) := (by refine CellF.keep hb1 ?_; (first | ((repeat (first | (with_reducible refine CellF.at_ ?_ rfl; (first | rfl | (simp; done))) | with_reducible refine CellF.past _ ?_ | with_reducible refine CellF.drew ?_ | with_reducible refine CellF.drewN _ ?_)); done) | (refine ⟨?_, ?_⟩ <;> go_simp)))
    have c1_2_3 := q1_2_3.1
    have q1_2_4 : CellF w1 ⟨(w.heap.size + 1), 4, none⟩ (.int .i64 y1) := (by refine CellF.keep hb1 ?_; (first | ((repeat (first | (with_reducible refine CellF.at_ ?_ rfl; (first | rfl | (simp; done))) | with_reducible refine CellF.past _ ?_ | with_reducible refine CellF.drew ?_ | with_reducible refine CellF.drewN _ ?_)); done) | (refine ⟨?_, ?_⟩ <;> go_simp)))
    have c1_2_4 := q1_2_4.1
    have q1_2_5 : CellF w1 ⟨(w.heap.size + 1), 5, none⟩ (.int .i64 n) := (by refine CellF.keep hb1 ?_; (first | ((repeat (first | (with_reducible refine CellF.at_ ?_ rfl; (first | rfl | (simp; done))) | with_reducible refine CellF.past _ ?_ | with_reducible refine CellF.drew ?_ | with_reducible refine CellF.drewN _ ?_)); done) | (refine ⟨?_, ?_⟩ <;> go_simp)))
    have c1_2_5 := q1_2_5.1
    have z1_2 : (w.heap.size + 1) < w1.heap.size := ltc c1_2_0
    go_wp2_with fail
    refine (alive_is _).mono ?_
    rintro e w2 ⟨rfl, hb2⟩
    have q2_3_0 : CellF w2 ⟨w.heap.size, 0, none⟩ (.int .i64 mn) := (by refine CellF.keep hb2 ?_; repeat (first | with_reducible exact q1_1_0 | (with_reducible refine CellF.at_ ?_ rfl; (first | rfl | (simp; done))) | with_reducible refine CellF.past _ ?_ | with_reducible refine CellF.drew ?_ | with_reducible refine CellF.drewN _ ?_))
    have c2_3_0 := q2_3_0.1
    have q2_3_1 : CellF w2 ⟨w.heap.size, 1, none⟩ (.int .i64 mx) := (by refine CellF.keep hb2 ?_; repeat (first | with_reducible exact q1_1_1 | (with_reducible refine CellF.at_ ?_ rfl; (first | rfl | (simp; done))) | with_reducible refine CellF.past _ ?_ | with_reducible refine CellF.drew ?_ | with_reducible refine CellF.drewN _ ?_))
    have c2_3_1 := q2_3_1.1
    have q2_3_2 : CellF w2 ⟨w.heap.size, 2, none⟩ (.int .i64 g) := (by refine CellF.keep hb2 ?_; repeat (first | with_reducible exact q1_1_2 | (with_reducible refine CellF.at_ ?_ rfl; (first | rfl | (simp; done))) | with_reducible refine CellF.past _ ?_ | with_reducible refine CellF.drew ?_ | with_reducible refine CellF.drewN _ ?_))
    have c2_3_2 := q2_3_2.1
    have z2_3 : w.heap.size < w2.heap.size := ltc c2_3_0
    have q2_4_0 : CellF w2 ⟨(w.heap.size + 1), 0, none⟩ (.int .i64 a) := (by refine CellF.keep hb2 ?_; repeat (first | with_reducible exact q1_2_0 | (with_reducible refine CellF.at_ ?_ rfl; (first | rfl | (simp; done))) | with_reducible refine CellF.past _ ?_ | with_reducible refine CellF.drew ?_ | with_reducible refine CellF.drewN _ ?_))
    have c2_4_0 := q2_4_0.1
    have q2_4_1 : CellF w2 ⟨(w.heap.size + 1), 1, none⟩ (.int .i64 o) := (by refine CellF.keep hb2 ?_; repeat (first | with_reducible exact q1_2_1 | (with_reducible refine CellF.at_ ?_ rfl; (first | rfl | (simp; done))) | with_reducible refine CellF.past _ ?_ | with_reducible refine CellF.drew ?_ | with_reducible refine CellF.drewN _ ?_))
    have c2_4_1 := q2_4_1.1
    have q2_4_2 : CellF w2 ⟨(w.heap.size + 1), 2, none⟩ (.int .i64 k) := (by refine CellF.keep hb2 ?_; repeat (first | with_reducible exact q1_2_2 | (with_reducible refine CellF.at_ ?_ rfl; (first | rfl | (simp; done))) | with_reducible refine CellF.past _ ?_ | with_reducible refine CellF.drew ?_ | with_reducible refine CellF.drewN _ ?_))
    have c2_4_2 := q2_4_2.1
    have q2_4_3 : CellF w2 ⟨(w.heap.size + 1), 3, none⟩ (.int .i64 y0) := (by refine CellF.keep hb2 ?_; repeat (first | with_reducible exact q1_2_3 | (with_reducible refine CellF.at_ ?_ rfl; (first | rfl | (simp; done))) | with_reducible refine CellF.past _ ?_ | with_reducible refine CellF.drew ?_ | with_reducible refine CellF.drewN _ ?_))
    have c2_4_3 := q2_4_3.1
    have q2_4_4 : CellF w2 ⟨(w.heap.size + 1), 4, none⟩ (.int .i64 y1) := (by refine CellF.keep hb2 ?_; repeat (first | with_reducible exact q1_2_4 | (with_reducible refine CellF.at_ ?_ rfl; (first | rfl | (simp; done))) | with_reducible refine CellF.past _ ?_ | with_reducible refine CellF.drew ?_ | with_reducible refine CellF.drewN _ ?_))
    have c2_4_4 := q2_4_4.1
    have q2_4_5 : CellF w2 ⟨(w.heap.size + 1), 5, none⟩ (.int .i64 n) := (by refine CellF.keep hb2 ?_; repeat (first | with_reducible exact q1_2_5 | (with_reducible refine CellF.at_ ?_ rfl; (first | rfl | (simp; done))) | with_reducible refine CellF.past _ ?_ | with_reducible refine CellF.drew ?_ | with_reducible refine CellF.drewN _ ?_))
    have c2_4_5 := q2_4_5.1
    have z2_4 : (w.heap.size + 1) < w2.heap.size := ltc c2_4_0
    clear q1_1_0 c1_1_0 q1_1_1 c1_1_1 q1_1_2 c1_1_2 z1_1 q1_2_0 c1_2_0 q1_2_1 c1_2_1 q1_2_2 c1_2_2 q1_2_3 c1_2_3 q1_2_4 c1_2_4 q1_2_5 c1_2_5 z1_2
    all_goals (go_wp2; go_ret; exact ⟨rfl, (by repeat (first | exact brefl _ | refine balloc ?_ _ | refine bdrewN ?_ _ | refine bset ?_ (by dsimp only; omega) _ | refine bstep ?_ (by assumption)))⟩)
  | true =>
    have hp := mayB_iff.1 hm
    obtain ⟨hr, i1, i2, i3, i4, _, _, j1, j2, j3, j4⟩ := id hp
    obtain ⟨_, _, _, g0, g1⟩ := pRight_iff.1 hr
    have Q := Lib.hid hp
    clear hp hr hm
    unfold InQ at i1 i2 i3 i4
    by_cases hq : InQ (n * 16)
    ·
      obtain ⟨l, u, e1, l1, l2, l3, l4⟩ := req_true Q.out hq
      have HS := Lib.hid e1
      have hc := corr64 hq
      have hb := Lib.hid (inQb_iff.2 hq)
      have HH := Lib.hid (show spHas ⟨l, u, true⟩ o = true from spHas_iff.2 fun _ => ⟨l3, l4⟩)
      have hq' := hq
      unfold InQ at hq'
      clear e1 l1 l2 l3 l4 Q hq
      go_enter Try.func6, Try.ntmps6
      go_wp2_with fail
      refine (may_is _ _ _ _ _ _ _ _ _ _ HM _).mono ?_
      rintro e w1 ⟨rfl, hb1⟩
      have q1_1_0 : CellF w1 ⟨w.heap.size, 0, none⟩ (.int .i64 mn) := (by refine CellF.keep hb1 ?_; (first | ((repeat (first | (with_reducible refine CellF.at_ ?_ rfl; (first | rfl | (simp; done))) | with_reducible refine CellF.past _ ?_ | with_reducible refine CellF.drew ?_ | with_reducible refine CellF.drewN _ ?_)); done) | (refine ⟨?_, ?_⟩ <;> go_simp)))
      have c1_1_0 := q1_1_0.1
      have q1_1_1 : CellF w1 ⟨w.heap.size, 1, none⟩ (.int .i64 mx) := (by refine CellF.keep hb1 ?_; (first | ((repeat (first | (with_reducible refine CellF.at_ ?_ rfl; (first | rfl | (simp; done))) | with_reducible refine CellF.past _ ?_ | with_reducible refine CellF.drew ?_ | with_reducible refine CellF.drewN _ ?_)); done) | (refine ⟨?_, ?_⟩ <;> go_simp)))
      have c1_1_1 := q1_1_1.1
      have q1_1_2 : CellF w1 ⟨w.heap.size, 2, none⟩ (.int .i64 g) := (by refine CellF.keep hb1 ?_; (first | ((repeat (first | (with_reducible refine CellF.at_ ?_ rfl; (first | rfl | (simp; done))) | with_reducible refine CellF.past _ ?_ | with_reducible refine CellF.drew ?_ | with_reducible refine CellF.drewN _ ?_)); done) | (refine ⟨?_, ?_⟩ <;> go_simp)))
      have c1_1_2 := q1_1_2.1
      have z1_1 : w.heap.size < w1.heap.size := ltc c1_1_0
      have q1_2_0 : CellF w1 ⟨(w.heap.size + 1), 0, none⟩ (.int .i64 a) := (by refine CellF.keep hb1 ?_; (first | ((repeat (first | (with_reducible refine CellF.at_ ?_ rfl; (first | rfl | (simp; done))) | with_reducible refine CellF.past _ ?_ | with_reducible refine CellF.drew ?_ | with_reducible refine CellF.drewN _ ?_)); done) | (refine ⟨?_, ?_⟩ <;> go_simp)))
      have c1_2_0 := q1_2_0.1
      have q1_2_1 : CellF w1 ⟨(w.heap.size + 1), 1, none⟩ (.int .i64 o) := (by refine CellF.keep hb1 ?_; (first | ((repeat (first | (with_reducible refine CellF.at_ ?_ rfl; (first | rfl | (simp; done))) | with_reducible refine CellF.past _ ?_ | with_reducible refine CellF.drew ?_ | with_reducible refine CellF.drewN _ ?_)); done) | (refine ⟨?_, ?_⟩ <;> go_simp)))
      have c1_2_1 := q1_2_1.1
      have q1_2_2 : CellF w1 ⟨(w.heap.size + 1), 2, none⟩ (.int .i64 k) := (by refine CellF.keep hb1 ?_; (first | ((repeat (first | (with_reducible refine CellF.at_ ?_ rfl; (first | rfl | (simp; done))) | with_reducible refine CellF.past _ ?_ | with_reducible refine CellF.drew ?_ | with_reducible refine CellF.drewN _ ?_)); done) | (refine ⟨?_, ?_⟩ <;> go_simp)))
      have c1_2_2 := q1_2_2.1
      have q1_2_3 : CellF w1 ⟨(w.heap.size + 1), 3, none⟩ (.int .i64 y0) := (by refine CellF.keep hb1 ?_; (first | ((repeat (first | (with_reducible refine CellF.at_ ?_ rfl; (first | rfl | (simp; done))) | with_reducible refine CellF.past _ ?_ | with_reducible refine CellF.drew ?_ | with_reducible refine CellF.drewN _ ?_)); done) | (refine ⟨?_, ?_⟩ <;> go_simp)))
      have c1_2_3 := q1_2_3.1
      have q1_2_4 : CellF w1 ⟨(w.heap.size + 1), 4, none⟩ (.int .i64 y1) := (by refine CellF.keep hb1 ?_; (first | ((repeat (first | (with_reducible refine CellF.at_ ?_ rfl; (first | rfl | (simp; done))) | with_reducible refine CellF.past _ ?_ | with_reducible refine CellF.drew ?_ | with_reducible refine CellF.drewN _ ?_)); done) | (refine ⟨?_, ?_⟩ <;> go_simp)))
      have c1_2_4 := q1_2_4.1
      have q1_2_5 : CellF w1 ⟨(w.heap.size + 1), 5, none⟩ (.int .i64 n) := (by refine CellF.keep hb1 ?_; (first | ((repeat (first | (with_reducible refine CellF.at_ ?_ rfl; (first | rfl | (simp; done))) | with_reducible refine CellF.past _ ?_ | with_reducible refine CellF.drew ?_ | with_reducible refine CellF.drewN _ ?_)); done) | (refine ⟨?_, ?_⟩ <;> go_simp)))
      have c1_2_5 := q1_2_5.1
      have z1_2 : (w.heap.size + 1) < w1.heap.size := ltc c1_2_0
      go_wp2_with fail
      refine (Req_is mn mx g (a - o + y0) (n * 65536) (a + k + n + y1) _ _ _ hc HS _).mono ?_
      rintro e w2 ⟨rfl, hb2⟩
      have q2_3_0 : CellF w2 ⟨w.heap.size, 0, none⟩ (.int .i64 mn) := (by refine CellF.keep hb2 ?_; repeat (first | with_reducible exact q1_1_0 | (with_reducible refine CellF.at_ ?_ rfl; (first | rfl | (simp; done))) | with_reducible refine CellF.past _ ?_ | with_reducible refine CellF.drew ?_ | with_reducible refine CellF.drewN _ ?_))
      have c2_3_0 := q2_3_0.1
      have q2_3_1 : CellF w2 ⟨w.heap.size, 1, none⟩ (.int .i64 mx) := (by refine CellF.keep hb2 ?_; repeat (first | with_reducible exact q1_1_1 | (with_reducible refine CellF.at_ ?_ rfl; (first | rfl | (simp; done))) | with_reducible refine CellF.past _ ?_ | with_reducible refine CellF.drew ?_ | with_reducible refine CellF.drewN _ ?_))
      have c2_3_1 := q2_3_1.1
      have q2_3_2 : CellF w2 ⟨w.heap.size, 2, none⟩ (.int .i64 g) := (by refine CellF.keep hb2 ?_; repeat (first | with_reducible exact q1_1_2 | (with_reducible refine CellF.at_ ?_ rfl; (first | rfl | (simp; done))) | with_reducible refine CellF.past _ ?_ | with_reducible refine CellF.drew ?_ | with_reducible refine CellF.drewN _ ?_))
      have c2_3_2 := q2_3_2.1
      have z2_3 : w.heap.size < w2.heap.size := ltc c2_3_0
      have q2_4_0 : CellF w2 ⟨(w.heap.size + 1), 0, none⟩ (.int .i64 a) := (by refine CellF.keep hb2 ?_; repeat (first | with_reducible exact q1_2_0 | (with_reducible refine CellF.at_ ?_ rfl; (first | rfl | (simp; done))) | with_reducible refine CellF.past _ ?_ | with_reducible refine CellF.drew ?_ | with_reducible refine CellF.drewN _ ?_))
      have c2_4_0 := q2_4_0.1
      have q2_4_1 : CellF w2 ⟨(w.heap.size + 1), 1, none⟩ (.int .i64 o) := (by refine CellF.keep hb2 ?_; repeat (first | with_reducible exact q1_2_1 | (with_reducible refine CellF.at_ ?_ rfl; (first | rfl | (simp; done))) | with_reducible refine CellF.past _ ?_ | with_reducible refine CellF.drew ?_ | with_reducible refine CellF.drewN _ ?_))
      have c2_4_1 := q2_4_1.1
      have q2_4_2 : CellF w2 ⟨(w.heap.size + 1), 2, none⟩ (.int .i64 k) := (by refine CellF.keep hb2 ?_; repeat (first | with_reducible exact q1_2_2 | (with_reducible refine CellF.at_ ?_ rfl; (first | rfl | (simp; done))) | with_reducible refine CellF.past _ ?_ | with_reducible refine CellF.drew ?_ | with_reducible refine CellF.drewN _ ?_))
      have c2_4_2 := q2_4_2.1
      have q2_4_3 : CellF w2 ⟨(w.heap.size + 1), 3, none⟩ (.int .i64 y0) := (by refine CellF.keep hb2 ?_; repeat (first | with_reducible exact q1_2_3 | (with_reducible refine CellF.at_ ?_ rfl; (first | rfl | (simp; done))) | with_reducible refine CellF.past _ ?_ | with_reducible refine CellF.drew ?_ | with_reducible refine CellF.drewN _ ?_))
      have c2_4_3 := q2_4_3.1
      have q2_4_4 : CellF w2 ⟨(w.heap.size + 1), 4, none⟩ (.int .i64 y1) := (by refine CellF.keep hb2 ?_; repeat (first | with_reducible exact q1_2_4 | (with_reducible refine CellF.at_ ?_ rfl; (first | rfl | (simp; done))) | with_reducible refine CellF.past _ ?_ | with_reducible refine CellF.drew ?_ | with_reducible refine CellF.drewN _ ?_))
      have c2_4_4 := q2_4_4.1
      have q2_4_5 : CellF w2 ⟨(w.heap.size + 1), 5, none⟩ (.int .i64 n) := (by refine CellF.keep hb2 ?_; repeat (first | with_reducible exact q1_2_5 | (with_reducible refine CellF.at_ ?_ rfl; (first | rfl | (simp; done))) | with_reducible refine CellF.past _ ?_ | with_reducible refine CellF.drew ?_ | with_reducible refine CellF.drewN _ ?_))
      have c2_4_5 := q2_4_5.1
      have z2_4 : (w.heap.size + 1) < w2.heap.size := ltc c2_4_0
      clear q1_1_0 c1_1_0 q1_1_1 c1_1_1 q1_1_2 c1_1_2 z1_1 q1_2_0 c1_2_0 q1_2_1 c1_2_1 q1_2_2 c1_2_2 q1_2_3 c1_2_3 q1_2_4 c1_2_4 q1_2_5 c1_2_5 z1_2
      go_wp2_with fail
      refine (alive_is _).mono ?_
      rintro e w3 ⟨rfl, hb3⟩
      have q3_5_0 : CellF w3 ⟨(w.heap.size + 1), 0, none⟩ (.int .i64 a) := (by refine CellF.keep hb3 ?_; repeat (first | with_reducible exact q2_4_0 | (with_reducible refine CellF.at_ ?_ rfl; (first | rfl | (simp; done))) | with_reducible refine CellF.past _ ?_ | with_reducible refine CellF.drew ?_ | with_reducible refine CellF.drewN _ ?_))
      have c3_5_0 := q3_5_0.1
      have q3_5_1 : CellF w3 ⟨(w.heap.size + 1), 1, none⟩ (.int .i64 o) := (by refine CellF.keep hb3 ?_; repeat (first | with_reducible exact q2_4_1 | (with_reducible refine CellF.at_ ?_ rfl; (first | rfl | (simp; done))) | with_reducible refine CellF.past _ ?_ | with_reducible refine CellF.drew ?_ | with_reducible refine CellF.drewN _ ?_))
      have c3_5_1 := q3_5_1.1
      have q3_5_2 : CellF w3 ⟨(w.heap.size + 1), 2, none⟩ (.int .i64 k) := (by refine CellF.keep hb3 ?_; repeat (first | with_reducible exact q2_4_2 | (with_reducible refine CellF.at_ ?_ rfl; (first | rfl | (simp; done))) | with_reducible refine CellF.past _ ?_ | with_reducible refine CellF.drew ?_ | with_reducible refine CellF.drewN _ ?_))
      have c3_5_2 := q3_5_2.1
      have q3_5_3 : CellF w3 ⟨(w.heap.size + 1), 3, none⟩ (.int .i64 y0) := (by refine CellF.keep hb3 ?_; repeat (first | with_reducible exact q2_4_3 | (with_reducible refine CellF.at_ ?_ rfl; (first | rfl | (simp; done))) | with_reducible refine CellF.past _ ?_ | with_reducible refine CellF.drew ?_ | with_reducible refine CellF.drewN _ ?_))
      have c3_5_3 := q3_5_3.1
      have q3_5_4 : CellF w3 ⟨(w.heap.size + 1), 4, none⟩ (.int .i64 y1) := (by refine CellF.keep hb3 ?_; repeat (first | with_reducible exact q2_4_4 | (with_reducible refine CellF.at_ ?_ rfl; (first | rfl | (simp; done))) | with_reducible refine CellF.past _ ?_ | with_reducible refine CellF.drew ?_ | with_reducible refine CellF.drewN _ ?_))
      have c3_5_4 := q3_5_4.1
      have q3_5_5 : CellF w3 ⟨(w.heap.size + 1), 5, none⟩ (.int .i64 n) := (by refine CellF.keep hb3 ?_; repeat (first | with_reducible exact q2_4_5 | (with_reducible refine CellF.at_ ?_ rfl; (first | rfl | (simp; done))) | with_reducible refine CellF.past _ ?_ | with_reducible refine CellF.drew ?_ | with_reducible refine CellF.drewN _ ?_))
      have c3_5_5 := q3_5_5.1
      have z3_5 : (w.heap.size + 1) < w3.heap.size := ltc c3_5_0
      have q3_6_0 : CellF w3 ⟨w2.heap.size, 0, none⟩ (.int .i64 l) := (by refine CellF.keep hb3 ?_; (first | ((repeat (first | (with_reducible refine CellF.at_ ?_ rfl; (first | rfl | (simp; done))) | with_reducible refine CellF.past _ ?_ | with_reducible refine CellF.drew ?_ | with_reducible refine CellF.drewN _ ?_)); done) | (refine ⟨?_, ?_⟩ <;> go_simp)))
      have c3_6_0 := q3_6_0.1
      have q3_6_1 : CellF w3 ⟨w2.heap.size, 1, none⟩ (.int .i64 u) := (by refine CellF.keep hb3 ?_; (first | ((repeat (first | (with_reducible refine CellF.at_ ?_ rfl; (first | rfl | (simp; done))) | with_reducible refine CellF.past _ ?_ | with_reducible refine CellF.drew ?_ | with_reducible refine CellF.drewN _ ?_)); done) | (refine ⟨?_, ?_⟩ <;> go_simp)))
      have c3_6_1 := q3_6_1.1
      have q3_6_2 : CellF w3 ⟨w2.heap.size, 2, none⟩ (.bool true) := (by refine CellF.keep hb3 ?_; (first | ((repeat (first | (with_reducible refine CellF.at_ ?_ rfl; (first | rfl | (simp; done))) | with_reducible refine CellF.past _ ?_ | with_reducible refine CellF.drew ?_ | with_reducible refine CellF.drewN _ ?_)); done) | (refine ⟨?_, ?_⟩ <;> go_simp)))
      have c3_6_2 := q3_6_2.1
      have z3_6 : w2.heap.size < w3.heap.size := ltc c3_6_0
      clear q2_3_0 c2_3_0 q2_3_1 c2_3_1 q2_3_2 c2_3_2 z2_3 q2_4_0 c2_4_0 q2_4_1 c2_4_1 q2_4_2 c2_4_2 q2_4_3 c2_4_3 q2_4_4 c2_4_4 q2_4_5 c2_4_5 z2_4
      go_wp2_with fail
      refine (smallQ1 _ _ hb.out _ _ (by go_simp)).mono ?_
      rintro e _ ⟨rfl, rfl⟩
      go_wp2_with fail
      refine (Has_is _ _ _ _ _ HH _).mono ?_
      rintro e w4 ⟨rfl, hb4⟩
      have q4_7_0 : CellF w4 ⟨(w.heap.size + 1), 0, none⟩ (.int .i64 a) := (by refine CellF.keep hb4 ?_; repeat (first | with_reducible exact q3_5_0 | (with_reducible refine CellF.at_ ?_ rfl; (first | rfl | (simp; done))) | with_reducible refine CellF.past _ ?_ | with_reducible refine CellF.drew ?_ | with_reducible refine CellF.drewN _ ?_))
      have c4_7_0 := q4_7_0.1
      have q4_7_1 : CellF w4 ⟨(w.heap.size + 1), 1, none⟩ (.int .i64 o) := (by refine CellF.keep hb4 ?_; repeat (first | with_reducible exact q3_5_1 | (with_reducible refine CellF.at_ ?_ rfl; (first | rfl | (simp; done))) | with_reducible refine CellF.past _ ?_ | with_reducible refine CellF.drew ?_ | with_reducible refine CellF.drewN _ ?_))
      have c4_7_1 := q4_7_1.1
      have q4_7_2 : CellF w4 ⟨(w.heap.size + 1), 2, none⟩ (.int .i64 k) := (by refine CellF.keep hb4 ?_; repeat (first | with_reducible exact q3_5_2 | (with_reducible refine CellF.at_ ?_ rfl; (first | rfl | (simp; done))) | with_reducible refine CellF.past _ ?_ | with_reducible refine CellF.drew ?_ | with_reducible refine CellF.drewN _ ?_))
      have c4_7_2 := q4_7_2.1
      have q4_7_3 : CellF w4 ⟨(w.heap.size + 1), 3, none⟩ (.int .i64 y0) := (by refine CellF.keep hb4 ?_; repeat (first | with_reducible exact q3_5_3 | (with_reducible refine CellF.at_ ?_ rfl; (first | rfl | (simp; done))) | with_reducible refine CellF.past _ ?_ | with_reducible refine CellF.drew ?_ | with_reducible refine CellF.drewN _ ?_))
      have c4_7_3 := q4_7_3.1
      have q4_7_4 : CellF w4 ⟨(w.heap.size + 1), 4, none⟩ (.int .i64 y1) := (by refine CellF.keep hb4 ?_; repeat (first | with_reducible exact q3_5_4 | (with_reducible refine CellF.at_ ?_ rfl; (first | rfl | (simp; done))) | with_reducible refine CellF.past _ ?_ | with_reducible refine CellF.drew ?_ | with_reducible refine CellF.drewN _ ?_))
      have c4_7_4 := q4_7_4.1
      have q4_7_5 : CellF w4 ⟨(w.heap.size + 1), 5, none⟩ (.int .i64 n) := (by refine CellF.keep hb4 ?_; repeat (first | with_reducible exact q3_5_5 | (with_reducible refine CellF.at_ ?_ rfl; (first | rfl | (simp; done))) | with_reducible refine CellF.past _ ?_ | with_reducible refine CellF.drew ?_ | with_reducible refine CellF.drewN _ ?_))
      have c4_7_5 := q4_7_5.1
      have z4_7 : (w.heap.size + 1) < w4.heap.size := ltc c4_7_0
      have q4_8_0 : CellF w4 ⟨w2.heap.size, 0, none⟩ (.int .i64 l) := (by refine CellF.keep hb4 ?_; repeat (first | with_reducible exact q3_6_0 | (with_reducible refine CellF.at_ ?_ rfl; (first | rfl | (simp; done))) | with_reducible refine CellF.past _ ?_ | with_reducible refine CellF.drew ?_ | with_reducible refine CellF.drewN _ ?_))
      have c4_8_0 := q4_8_0.1
      have q4_8_1 : CellF w4 ⟨w2.heap.size, 1, none⟩ (.int .i64 u) := (by refine CellF.keep hb4 ?_; repeat (first | with_reducible exact q3_6_1 | (with_reducible refine CellF.at_ ?_ rfl; (first | rfl | (simp; done))) | with_reducible refine CellF.past _ ?_ | with_reducible refine CellF.drew ?_ | with_reducible refine CellF.drewN _ ?_))
      have c4_8_1 := q4_8_1.1
      have q4_8_2 : CellF w4 ⟨w2.heap.size, 2, none⟩ (.bool true) := (by refine CellF.keep hb4 ?_; repeat (first | with_reducible exact q3_6_2 | (with_reducible refine CellF.at_ ?_ rfl; (first | rfl | (simp; done))) | with_reducible refine CellF.past _ ?_ | with_reducible refine CellF.drew ?_ | with_reducible refine CellF.drewN _ ?_))
      have c4_8_2 := q4_8_2.1
      have z4_8 : w2.heap.size < w4.heap.size := ltc c4_8_0
      clear q3_5_0 c3_5_0 q3_5_1 c3_5_1 q3_5_2 c3_5_2 q3_5_3 c3_5_3 q3_5_4 c3_5_4 q3_5_5 c3_5_5 z3_5 q3_6_0 c3_6_0 q3_6_1 c3_6_1 q3_6_2 c3_6_2 z3_6
      all_goals (go_wp2; go_ret; exact ⟨rfl, (by repeat (first | exact brefl _ | refine balloc ?_ _ | refine bdrewN ?_ _ | refine bset ?_ (by dsimp only; omega) _ | refine bstep ?_ (by assumption)))⟩)
    ·
      have hx : ∃ c, IntKind.i64.wrap (n * 65536) = c ∧ I64 c := ⟨_, rfl, by unfold I64; rw [IntKind.wrap_i64]; omega⟩
      obtain ⟨c, hw, hc⟩ := hx
      obtain ⟨⟨x1, x2, x3⟩, e1⟩ : ∃ s, dReq mn mx g (a - o + y0) c (a + k + n + y1) = s := ⟨_, rfl⟩
      have HS := Lib.hid e1
      clear e1 Q
      have hb : inQb (n * 16) = false := by cases h : inQb (n * 16) with | false => rfl | true => exact absurd (inQb_iff.1 h) hq
      have HB := Lib.hid hb
      clear hb hq
      have HW := Lib.hid hw
      clear hw
      go_enter Try.func6, Try.ntmps6
      go_wp2_with fail
      refine (may_is _ _ _ _ _ _ _ _ _ _ HM _).mono ?_
      rintro e w1 ⟨rfl, hb1⟩
      have q1_1_0 : CellF w1 ⟨w.heap.size, 0, none⟩ (.int .i64 mn) := (by refine CellF.keep hb1 ?_; (first | ((repeat (first | (with_reducible refine CellF.at_ ?_ rfl; (first | rfl | (simp; done))) | with_reducible refine CellF.past _ ?_ | with_reducible refine CellF.drew ?_ | with_reducible refine CellF.drewN _ ?_)); done) | (refine ⟨?_, ?_⟩ <;> go_simp)))
      have c1_1_0 := q1_1_0.1
      have q1_1_1 : CellF w1 ⟨w.heap.size, 1, none⟩ (.int .i64 mx) := (by refine CellF.keep hb1 ?_; (first | ((repeat (first | (with_reducible refine CellF.at_ ?_ rfl; (first | rfl | (simp; done))) | with_reducible refine CellF.past _ ?_ | with_reducible refine CellF.drew ?_ | with_reducible refine CellF.drewN _ ?_)); done) | (refine ⟨?_, ?_⟩ <;> go_simp)))
      have c1_1_1 := q1_1_1.1
      have q1_1_2 : CellF w1 ⟨w.heap.size, 2, none⟩ (.int .i64 g) := (by refine CellF.keep hb1 ?_; (first | ((repeat (first | (with_reducible refine CellF.at_ ?_ rfl; (first | rfl | (simp; done))) | with_reducible refine CellF.past _ ?_ | with_reducible refine CellF.drew ?_ | with_reducible refine CellF.drewN _ ?_)); done) | (refine ⟨?_, ?_⟩ <;> go_simp)))
      have c1_1_2 := q1_1_2.1
      have z1_1 : w.heap.size < w1.heap.size := ltc c1_1_0
      have q1_2_0 : CellF w1 ⟨(w.heap.size + 1), 0, none⟩ (.int .i64 a) := (by refine CellF.keep hb1 ?_; (first | ((repeat (first | (with_reducible refine CellF.at_ ?_ rfl; (first | rfl | (simp; done))) | with_reducible refine CellF.past _ ?_ | with_reducible refine CellF.drew ?_ | with_reducible refine CellF.drewN _ ?_)); done) | (refine ⟨?_, ?_⟩ <;> go_simp)))
      have c1_2_0 := q1_2_0.1
      have q1_2_1 : CellF w1 ⟨(w.heap.size + 1), 1, none⟩ (.int .i64 o) := (by refine CellF.keep hb1 ?_; (first | ((repeat (first | (with_reducible refine CellF.at_ ?_ rfl; (first | rfl | (simp; done))) | with_reducible refine CellF.past _ ?_ | with_reducible refine CellF.drew ?_ | with_reducible refine CellF.drewN _ ?_)); done) | (refine ⟨?_, ?_⟩ <;> go_simp)))
      have c1_2_1 := q1_2_1.1
      have q1_2_2 : CellF w1 ⟨(w.heap.size + 1), 2, none⟩ (.int .i64 k) := (by refine CellF.keep hb1 ?_; (first | ((repeat (first | (with_reducible refine CellF.at_ ?_ rfl; (first | rfl | (simp; done))) | with_reducible refine CellF.past _ ?_ | with_reducible refine CellF.drew ?_ | with_reducible refine CellF.drewN _ ?_)); done) | (refine ⟨?_, ?_⟩ <;> go_simp)))
      have c1_2_2 := q1_2_2.1
      have q1_2_3 : CellF w1 ⟨(w.heap.size + 1), 3, none⟩ (.int .i64 y0) := (by refine CellF.keep hb1 ?_; (first | ((repeat (first | (with_reducible refine CellF.at_ ?_ rfl; (first | rfl | (simp; done))) | with_reducible refine CellF.past _ ?_ | with_reducible refine CellF.drew ?_ | with_reducible refine CellF.drewN _ ?_)); done) | (refine ⟨?_, ?_⟩ <;> go_simp)))
      have c1_2_3 := q1_2_3.1
      have q1_2_4 : CellF w1 ⟨(w.heap.size + 1), 4, none⟩ (.int .i64 y1) := (by refine CellF.keep hb1 ?_; (first | ((repeat (first | (with_reducible refine CellF.at_ ?_ rfl; (first | rfl | (simp; done))) | with_reducible refine CellF.past _ ?_ | with_reducible refine CellF.drew ?_ | with_reducible refine CellF.drewN _ ?_)); done) | (refine ⟨?_, ?_⟩ <;> go_simp)))
      have c1_2_4 := q1_2_4.1
      have q1_2_5 : CellF w1 ⟨(w.heap.size + 1), 5, none⟩ (.int .i64 n) := (by refine CellF.keep hb1 ?_; (first | ((repeat (first | (with_reducible refine CellF.at_ ?_ rfl; (first | rfl | (simp; done))) | with_reducible refine CellF.past _ ?_ | with_reducible refine CellF.drew ?_ | with_reducible refine CellF.drewN _ ?_)); done) | (refine ⟨?_, ?_⟩ <;> go_simp)))
      have c1_2_5 := q1_2_5.1
      have z1_2 : (w.heap.size + 1) < w1.heap.size := ltc c1_2_0
      have hw := HW.out
      go_wp2_with fail
      clear hw
      skip
      refine (Req_is mn mx g (a - o + y0) c (a + k + n + y1) _ _ _ hc HS _).mono ?_
      rintro e w2 ⟨rfl, hb2⟩
      have q2_3_0 : CellF w2 ⟨w.heap.size, 0, none⟩ (.int .i64 mn) := (by refine CellF.keep hb2 ?_; repeat (first | with_reducible exact q1_1_0 | (with_reducible refine CellF.at_ ?_ rfl; (first | rfl | (simp; done))) | with_reducible refine CellF.past _ ?_ | with_reducible refine CellF.drew ?_ | with_reducible refine CellF.drewN _ ?_))
      have c2_3_0 := q2_3_0.1
      have q2_3_1 : CellF w2 ⟨w.heap.size, 1, none⟩ (.int .i64 mx) := (by refine CellF.keep hb2 ?_; repeat (first | with_reducible exact q1_1_1 | (with_reducible refine CellF.at_ ?_ rfl; (first | rfl | (simp; done))) | with_reducible refine CellF.past _ ?_ | with_reducible refine CellF.drew ?_ | with_reducible refine CellF.drewN _ ?_))
      have c2_3_1 := q2_3_1.1
      have q2_3_2 : CellF w2 ⟨w.heap.size, 2, none⟩ (.int .i64 g) := (by refine CellF.keep hb2 ?_; repeat (first | with_reducible exact q1_1_2 | (with_reducible refine CellF.at_ ?_ rfl; (first | rfl | (simp; done))) | with_reducible refine CellF.past _ ?_ | with_reducible refine CellF.drew ?_ | with_reducible refine CellF.drewN _ ?_))
      have c2_3_2 := q2_3_2.1
      have z2_3 : w.heap.size < w2.heap.size := ltc c2_3_0
      have q2_4_0 : CellF w2 ⟨(w.heap.size + 1), 0, none⟩ (.int .i64 a) := (by refine CellF.keep hb2 ?_; repeat (first | with_reducible exact q1_2_0 | (with_reducible refine CellF.at_ ?_ rfl; (first | rfl | (simp; done))) | with_reducible refine CellF.past _ ?_ | with_reducible refine CellF.drew ?_ | with_reducible refine CellF.drewN _ ?_))
      have c2_4_0 := q2_4_0.1
      have q2_4_1 : CellF w2 ⟨(w.heap.size + 1), 1, none⟩ (.int .i64 o) := (by refine CellF.keep hb2 ?_; repeat (first | with_reducible exact q1_2_1 | (with_reducible refine CellF.at_ ?_ rfl; (first | rfl | (simp; done))) | with_reducible refine CellF.past _ ?_ | with_reducible refine CellF.drew ?_ | with_reducible refine CellF.drewN _ ?_))
      have c2_4_1 := q2_4_1.1
      have q2_4_2 : CellF w2 ⟨(w.heap.size + 1), 2, none⟩ (.int .i64 k) := (by refine CellF.keep hb2 ?_; repeat (first | with_reducible exact q1_2_2 | (with_reducible refine CellF.at_ ?_ rfl; (first | rfl | (simp; done))) | with_reducible refine CellF.past _ ?_ | with_reducible refine CellF.drew ?_ | with_reducible refine CellF.drewN _ ?_))
      have c2_4_2 := q2_4_2.1
      have q2_4_3 : CellF w2 ⟨(w.heap.size + 1), 3, none⟩ (.int .i64 y0) := (by refine CellF.keep hb2 ?_; repeat (first | with_reducible exact q1_2_3 | (with_reducible refine CellF.at_ ?_ rfl; (first | rfl | (simp; done))) | with_reducible refine CellF.past _ ?_ | with_reducible refine CellF.drew ?_ | with_reducible refine CellF.drewN _ ?_))
      have c2_4_3 := q2_4_3.1
      have q2_4_4 : CellF w2 ⟨(w.heap.size + 1), 4, none⟩ (.int .i64 y1) := (by refine CellF.keep hb2 ?_; repeat (first | with_reducible exact q1_2_4 | (with_reducible refine CellF.at_ ?_ rfl; (first | rfl | (simp; done))) | with_reducible refine CellF.past _ ?_ | with_reducible refine CellF.drew ?_ | with_reducible refine CellF.drewN _ ?_))
      have c2_4_4 := q2_4_4.1
      have q2_4_5 : CellF w2 ⟨(w.heap.size + 1), 5, none⟩ (.int .i64 n) := (by refine CellF.keep hb2 ?_; repeat (first | with_reducible exact q1_2_5 | (with_reducible refine CellF.at_ ?_ rfl; (first | rfl | (simp; done))) | with_reducible refine CellF.past _ ?_ | with_reducible refine CellF.drew ?_ | with_reducible refine CellF.drewN _ ?_))
      have c2_4_5 := q2_4_5.1
      have z2_4 : (w.heap.size + 1) < w2.heap.size := ltc c2_4_0
      clear q1_1_0 c1_1_0 q1_1_1 c1_1_1 q1_1_2 c1_1_2 z1_1 q1_2_0 c1_2_0 q1_2_1 c1_2_1 q1_2_2 c1_2_2 q1_2_3 c1_2_3 q1_2_4 c1_2_4 q1_2_5 c1_2_5 z1_2
      go_wp2_with fail
      refine (alive_is _).mono ?_
      rintro e w3 ⟨rfl, hb3⟩
      have q3_5_0 : CellF w3 ⟨(w.heap.size + 1), 0, none⟩ (.int .i64 a) := (by refine CellF.keep hb3 ?_; repeat (first | with_reducible exact q2_4_0 | (with_reducible refine CellF.at_ ?_ rfl; (first | rfl | (simp; done))) | with_reducible refine CellF.past _ ?_ | with_reducible refine CellF.drew ?_ | with_reducible refine CellF.drewN _ ?_))
      have c3_5_0 := q3_5_0.1
      have q3_5_1 : CellF w3 ⟨(w.heap.size + 1), 1, none⟩ (.int .i64 o) := (by refine CellF.keep hb3 ?_; repeat (first | with_reducible exact q2_4_1 | (with_reducible refine CellF.at_ ?_ rfl; (first | rfl | (simp; done))) | with_reducible refine CellF.past _ ?_ | with_reducible refine CellF.drew ?_ | with_reducible refine CellF.drewN _ ?_))
      have c3_5_1 := q3_5_1.1
      have q3_5_2 : CellF w3 ⟨(w.heap.size + 1), 2, none⟩ (.int .i64 k) := (by refine CellF.keep hb3 ?_; repeat (first | with_reducible exact q2_4_2 | (with_reducible refine CellF.at_ ?_ rfl; (first | rfl | (simp; done))) | with_reducible refine CellF.past _ ?_ | with_reducible refine CellF.drew ?_ | with_reducible refine CellF.drewN _ ?_))
      have c3_5_2 := q3_5_2.1
      have q3_5_3 : CellF w3 ⟨(w.heap.size + 1), 3, none⟩ (.int .i64 y0) := (by refine CellF.keep hb3 ?_; repeat (first | with_reducible exact q2_4_3 | (with_reducible refine CellF.at_ ?_ rfl; (first | rfl | (simp; done))) | with_reducible refine CellF.past _ ?_ | with_reducible refine CellF.drew ?_ | with_reducible refine CellF.drewN _ ?_))
      have c3_5_3 := q3_5_3.1
      have q3_5_4 : CellF w3 ⟨(w.heap.size + 1), 4, none⟩ (.int .i64 y1) := (by refine CellF.keep hb3 ?_; repeat (first | with_reducible exact q2_4_4 | (with_reducible refine CellF.at_ ?_ rfl; (first | rfl | (simp; done))) | with_reducible refine CellF.past _ ?_ | with_reducible refine CellF.drew ?_ | with_reducible refine CellF.drewN _ ?_))
      have c3_5_4 := q3_5_4.1
      have q3_5_5 : CellF w3 ⟨(w.heap.size + 1), 5, none⟩ (.int .i64 n) := (by refine CellF.keep hb3 ?_; repeat (first | with_reducible exact q2_4_5 | (with_reducible refine CellF.at_ ?_ rfl; (first | rfl | (simp; done))) | with_reducible refine CellF.past _ ?_ | with_reducible refine CellF.drew ?_ | with_reducible refine CellF.drewN _ ?_))
      have c3_5_5 := q3_5_5.1
      have z3_5 : (w.heap.size + 1) < w3.heap.size := ltc c3_5_0
      have q3_6_0 : CellF w3 ⟨w2.heap.size, 0, none⟩ (.int .i64 x1) := (by refine CellF.keep hb3 ?_; (first | ((repeat (first | (with_reducible refine CellF.at_ ?_ rfl; (first | rfl | (simp; done))) | with_reducible refine CellF.past _ ?_ | with_reducible refine CellF.drew ?_ | with_reducible refine CellF.drewN _ ?_)); done) | (refine ⟨?_, ?_⟩ <;> go_simp)))
      have c3_6_0 := q3_6_0.1
      have q3_6_1 : CellF w3 ⟨w2.heap.size, 1, none⟩ (.int .i64 x2) := (by refine CellF.keep hb3 ?_; (first | ((repeat (first | (with_reducible refine CellF.at_ ?_ rfl; (first | rfl | (simp; done))) | with_reducible refine CellF.past _ ?_ | with_reducible refine CellF.drew ?_ | with_reducible refine CellF.drewN _ ?_)); done) | (refine ⟨?_, ?_⟩ <;> go_simp)))
      have c3_6_1 := q3_6_1.1
      have q3_6_2 : CellF w3 ⟨w2.heap.size, 2, none⟩ (.bool x3) := (by refine CellF.keep hb3 ?_; (first | ((repeat (first | (with_reducible refine CellF.at_ ?_ rfl; (first | rfl | (simp; done))) | with_reducible refine CellF.past _ ?_ | with_reducible refine CellF.drew ?_ | with_reducible refine CellF.drewN _ ?_)); done) | (refine ⟨?_, ?_⟩ <;> go_simp)))
      have c3_6_2 := q3_6_2.1
      have z3_6 : w2.heap.size < w3.heap.size := ltc c3_6_0
      clear q2_3_0 c2_3_0 q2_3_1 c2_3_1 q2_3_2 c2_3_2 z2_3 q2_4_0 c2_4_0 q2_4_1 c2_4_1 q2_4_2 c2_4_2 q2_4_3 c2_4_3 q2_4_4 c2_4_4 q2_4_5 c2_4_5 z2_4
      go_wp2_with fail
      refine (smallQ1 _ _ HB.out _ _ (by go_simp)).mono ?_
      rintro e _ ⟨rfl, rfl⟩
      all_goals (go_wp2; go_ret; exact ⟨rfl, (by repeat (first | exact brefl _ | refine balloc ?_ _ | refine bdrewN ?_ _ | refine bset ?_ (by dsimp only; omega) _ | refine bstep ?_ (by assumption)))⟩)
end Go.Proofs.Ytigpddhffgoioaa
