/-
  alive, of layer 13: so the program's delays do what the law asks.
-/
import Derived.Test.YtigpddhffgoioaaDc
import Derived.Test.YtigpddhffgoioaaDd
import Derived.Test.YtigpddhffgoioaaDe
namespace Go.Proofs.Ytigpddhffgoioaa
open Go.RowKit

deriving instance DecidableEq for Sp
theorem d_1 : dSync 10 20 0 1000 0 900 = ⟨110, 120, true⟩ := by decide +kernel
theorem d_2 : dReq 10 20 0 900 0 1030 = ⟨110, 120, true⟩ := by decide +kernel
theorem d_3 : dMean 10 20 0 0 10 10 20 0 0 = ⟨10, 10, true⟩ := by decide +kernel
theorem o_1 : spOf 110 120 = ⟨110, 120, true⟩ := by decide +kernel
theorem o_2 : spOf 10 10 = ⟨10, 10, true⟩ := by decide +kernel
theorem p_1 : pRight 10 20 0 = true := by decide +kernel

theorem alive_is (w : World) : Calls Try.prog 12 #[] w fun e w' => e = .returned (.bool true) ∧ Below w.heap.size w w' := by
  have Hd1 := Lib.hid d_1
  have Hd2 := Lib.hid d_2
  have Hd3 := Lib.hid d_3
  have Ho1 := Lib.hid o_1
  have Ho2 := Lib.hid o_2
  have Hp1 := Lib.hid p_1
  go_enter Try.func12, Try.ntmps12
  go_wp2_with fail
  refine (Sync_is _ _ _ _ _ _ _ _ _ (by unfold I64; omega) Hd1 _).mono ?_
  rintro e w1 ⟨rfl, hb1⟩
  have q1_1_0 : CellF w1 ⟨w.heap.size, 0, none⟩ (.int .i64 10) := (by refine CellF.keep hb1 ?_; (first | ((repeat (first | with_reducible exact CellF.at_ (by simp) rfl | with_reducible refine CellF.past _ ?_ | with_reducible refine CellF.drew ?_ | with_reducible refine CellF.drewN _ ?_)); done) | (refine ⟨?_, ?_⟩ <;> go_simp)))
  have c1_1_0 := q1_1_0.1
  have q1_1_1 : CellF w1 ⟨w.heap.size, 1, none⟩ (.int .i64 20) := (by refine CellF.keep hb1 ?_; (first | ((repeat (first | with_reducible exact CellF.at_ (by simp) rfl | with_reducible refine CellF.past _ ?_ | with_reducible refine CellF.drew ?_ | with_reducible refine CellF.drewN _ ?_)); done) | (refine ⟨?_, ?_⟩ <;> go_simp)))
  have c1_1_1 := q1_1_1.1
  have q1_1_2 : CellF w1 ⟨w.heap.size, 2, none⟩ (.int .i64 0) := (by refine CellF.keep hb1 ?_; (first | ((repeat (first | with_reducible exact CellF.at_ (by simp) rfl | with_reducible refine CellF.past _ ?_ | with_reducible refine CellF.drew ?_ | with_reducible refine CellF.drewN _ ?_)); done) | (refine ⟨?_, ?_⟩ <;> go_simp)))
  have c1_1_2 := q1_1_2.1
  have z1_1 : w.heap.size < w1.heap.size := ltc c1_1_0
  go_wp2_with fail
  refine (Of_is _ _ _ _ _ Ho1 _).mono ?_
  rintro e w2 ⟨rfl, hb2⟩
  have q2_2_0 : CellF w2 ⟨w.heap.size, 0, none⟩ (.int .i64 10) := (by refine CellF.keep hb2 ?_; repeat (first | with_reducible exact q1_1_0 | with_reducible exact CellF.at_ (by simp) rfl | with_reducible refine CellF.past _ ?_ | with_reducible refine CellF.drew ?_ | with_reducible refine CellF.drewN _ ?_))
  have c2_2_0 := q2_2_0.1
  have q2_2_1 : CellF w2 ⟨w.heap.size, 1, none⟩ (.int .i64 20) := (by refine CellF.keep hb2 ?_; repeat (first | with_reducible exact q1_1_1 | with_reducible exact CellF.at_ (by simp) rfl | with_reducible refine CellF.past _ ?_ | with_reducible refine CellF.drew ?_ | with_reducible refine CellF.drewN _ ?_))
  have c2_2_1 := q2_2_1.1
  have q2_2_2 : CellF w2 ⟨w.heap.size, 2, none⟩ (.int .i64 0) := (by refine CellF.keep hb2 ?_; repeat (first | with_reducible exact q1_1_2 | with_reducible exact CellF.at_ (by simp) rfl | with_reducible refine CellF.past _ ?_ | with_reducible refine CellF.drew ?_ | with_reducible refine CellF.drewN _ ?_))
  have c2_2_2 := q2_2_2.1
  have z2_2 : w.heap.size < w2.heap.size := ltc c2_2_0
  clear q1_1_0 c1_1_0 q1_1_1 c1_1_1 q1_1_2 c1_1_2 z1_1
  go_wp2_with fail
  refine (Req_is _ _ _ _ _ _ _ _ _ (by unfold I64; omega) Hd2 _).mono ?_
  rintro e w3 ⟨rfl, hb3⟩
  have q3_3_0 : CellF w3 ⟨w.heap.size, 0, none⟩ (.int .i64 10) := (by refine CellF.keep hb3 ?_; repeat (first | with_reducible exact q2_2_0 | with_reducible exact CellF.at_ (by simp) rfl | with_reducible refine CellF.past _ ?_ | with_reducible refine CellF.drew ?_ | with_reducible refine CellF.drewN _ ?_))
  have c3_3_0 := q3_3_0.1
  have q3_3_1 : CellF w3 ⟨w.heap.size, 1, none⟩ (.int .i64 20) := (by refine CellF.keep hb3 ?_; repeat (first | with_reducible exact q2_2_1 | with_reducible exact CellF.at_ (by simp) rfl | with_reducible refine CellF.past _ ?_ | with_reducible refine CellF.drew ?_ | with_reducible refine CellF.drewN _ ?_))
  have c3_3_1 := q3_3_1.1
  have q3_3_2 : CellF w3 ⟨w.heap.size, 2, none⟩ (.int .i64 0) := (by refine CellF.keep hb3 ?_; repeat (first | with_reducible exact q2_2_2 | with_reducible exact CellF.at_ (by simp) rfl | with_reducible refine CellF.past _ ?_ | with_reducible refine CellF.drew ?_ | with_reducible refine CellF.drewN _ ?_))
  have c3_3_2 := q3_3_2.1
  have z3_3 : w.heap.size < w3.heap.size := ltc c3_3_0
  clear q2_2_0 c2_2_0 q2_2_1 c2_2_1 q2_2_2 c2_2_2 z2_2
  go_wp2_with fail
  refine (Of_is _ _ _ _ _ Ho1 _).mono ?_
  rintro e w4 ⟨rfl, hb4⟩
  have q4_4_0 : CellF w4 ⟨w.heap.size, 0, none⟩ (.int .i64 10) := (by refine CellF.keep hb4 ?_; repeat (first | with_reducible exact q3_3_0 | with_reducible exact CellF.at_ (by simp) rfl | with_reducible refine CellF.past _ ?_ | with_reducible refine CellF.drew ?_ | with_reducible refine CellF.drewN _ ?_))
  have c4_4_0 := q4_4_0.1
  have q4_4_1 : CellF w4 ⟨w.heap.size, 1, none⟩ (.int .i64 20) := (by refine CellF.keep hb4 ?_; repeat (first | with_reducible exact q3_3_1 | with_reducible exact CellF.at_ (by simp) rfl | with_reducible refine CellF.past _ ?_ | with_reducible refine CellF.drew ?_ | with_reducible refine CellF.drewN _ ?_))
  have c4_4_1 := q4_4_1.1
  have q4_4_2 : CellF w4 ⟨w.heap.size, 2, none⟩ (.int .i64 0) := (by refine CellF.keep hb4 ?_; repeat (first | with_reducible exact q3_3_2 | with_reducible exact CellF.at_ (by simp) rfl | with_reducible refine CellF.past _ ?_ | with_reducible refine CellF.drew ?_ | with_reducible refine CellF.drewN _ ?_))
  have c4_4_2 := q4_4_2.1
  have z4_4 : w.heap.size < w4.heap.size := ltc c4_4_0
  clear q3_3_0 c3_3_0 q3_3_1 c3_3_1 q3_3_2 c3_3_2 z3_3
  go_wp2_with fail
  refine (Mean_is _ _ _ _ _ _ _ _ _ _ _ _ (by unfold I64; omega) (by unfold I64; omega) Hd3 _).mono ?_
  rintro e w5 ⟨rfl, hb5⟩
  have q5_5_0 : CellF w5 ⟨w.heap.size, 0, none⟩ (.int .i64 10) := (by refine CellF.keep hb5 ?_; repeat (first | with_reducible exact q4_4_0 | with_reducible exact CellF.at_ (by simp) rfl | with_reducible refine CellF.past _ ?_ | with_reducible refine CellF.drew ?_ | with_reducible refine CellF.drewN _ ?_))
  have c5_5_0 := q5_5_0.1
  have q5_5_1 : CellF w5 ⟨w.heap.size, 1, none⟩ (.int .i64 20) := (by refine CellF.keep hb5 ?_; repeat (first | with_reducible exact q4_4_1 | with_reducible exact CellF.at_ (by simp) rfl | with_reducible refine CellF.past _ ?_ | with_reducible refine CellF.drew ?_ | with_reducible refine CellF.drewN _ ?_))
  have c5_5_1 := q5_5_1.1
  have q5_5_2 : CellF w5 ⟨w.heap.size, 2, none⟩ (.int .i64 0) := (by refine CellF.keep hb5 ?_; repeat (first | with_reducible exact q4_4_2 | with_reducible exact CellF.at_ (by simp) rfl | with_reducible refine CellF.past _ ?_ | with_reducible refine CellF.drew ?_ | with_reducible refine CellF.drewN _ ?_))
  have c5_5_2 := q5_5_2.1
  have z5_5 : w.heap.size < w5.heap.size := ltc c5_5_0
  clear q4_4_0 c4_4_0 q4_4_1 c4_4_1 q4_4_2 c4_4_2 z4_4
  go_wp2_with fail
  refine (Of_is _ _ _ _ _ Ho2 _).mono ?_
  rintro e w6 ⟨rfl, hb6⟩
  have q6_6_0 : CellF w6 ⟨w.heap.size, 0, none⟩ (.int .i64 10) := (by refine CellF.keep hb6 ?_; repeat (first | with_reducible exact q5_5_0 | with_reducible exact CellF.at_ (by simp) rfl | with_reducible refine CellF.past _ ?_ | with_reducible refine CellF.drew ?_ | with_reducible refine CellF.drewN _ ?_))
  have c6_6_0 := q6_6_0.1
  have q6_6_1 : CellF w6 ⟨w.heap.size, 1, none⟩ (.int .i64 20) := (by refine CellF.keep hb6 ?_; repeat (first | with_reducible exact q5_5_1 | with_reducible exact CellF.at_ (by simp) rfl | with_reducible refine CellF.past _ ?_ | with_reducible refine CellF.drew ?_ | with_reducible refine CellF.drewN _ ?_))
  have c6_6_1 := q6_6_1.1
  have q6_6_2 : CellF w6 ⟨w.heap.size, 2, none⟩ (.int .i64 0) := (by refine CellF.keep hb6 ?_; repeat (first | with_reducible exact q5_5_2 | with_reducible exact CellF.at_ (by simp) rfl | with_reducible refine CellF.past _ ?_ | with_reducible refine CellF.drew ?_ | with_reducible refine CellF.drewN _ ?_))
  have c6_6_2 := q6_6_2.1
  have z6_6 : w.heap.size < w6.heap.size := ltc c6_6_0
  clear q5_5_0 c5_5_0 q5_5_1 c5_5_1 q5_5_2 c5_5_2 z5_5
  go_wp2_with fail
  refine (PRight_is _ _ _ _ Hp1 _).mono ?_
  rintro e w7 ⟨rfl, hb7⟩
  have q7_7_0 : CellF w7 ⟨w.heap.size, 0, none⟩ (.int .i64 10) := (by refine CellF.keep hb7 ?_; repeat (first | with_reducible exact q6_6_0 | with_reducible exact CellF.at_ (by simp) rfl | with_reducible refine CellF.past _ ?_ | with_reducible refine CellF.drew ?_ | with_reducible refine CellF.drewN _ ?_))
  have c7_7_0 := q7_7_0.1
  have q7_7_1 : CellF w7 ⟨w.heap.size, 1, none⟩ (.int .i64 20) := (by refine CellF.keep hb7 ?_; repeat (first | with_reducible exact q6_6_1 | with_reducible exact CellF.at_ (by simp) rfl | with_reducible refine CellF.past _ ?_ | with_reducible refine CellF.drew ?_ | with_reducible refine CellF.drewN _ ?_))
  have c7_7_1 := q7_7_1.1
  have q7_7_2 : CellF w7 ⟨w.heap.size, 2, none⟩ (.int .i64 0) := (by refine CellF.keep hb7 ?_; repeat (first | with_reducible exact q6_6_2 | with_reducible exact CellF.at_ (by simp) rfl | with_reducible refine CellF.past _ ?_ | with_reducible refine CellF.drew ?_ | with_reducible refine CellF.drewN _ ?_))
  have c7_7_2 := q7_7_2.1
  have z7_7 : w.heap.size < w7.heap.size := ltc c7_7_0
  clear q6_6_0 c6_6_0 q6_6_1 c6_6_1 q6_6_2 c6_6_2 z6_6
  all_goals (go_wp2; go_ret; exact ⟨rfl, (by repeat (first | exact brefl _ | refine balloc ?_ _ | refine bdrewN ?_ _ | refine bset ?_ (by dsimp only; omega) _ | refine bstep ?_ (by assumption)))⟩)
end Go.Proofs.Ytigpddhffgoioaa
