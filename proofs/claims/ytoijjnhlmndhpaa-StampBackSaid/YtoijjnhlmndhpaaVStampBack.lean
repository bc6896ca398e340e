/-
  The walk of the law StampBack.
-/
import Derived.Test.YtoijjnhlmndhpaaAlStamp
import Derived.Test.YtoijjnhlmndhpaaTh
namespace Go.Proofs.Ytoijjnhlmndhpaa
open Go.RowKit

set_option maxRecDepth 100000 in
set_option maxHeartbeats 4000000 in
theorem StampBack_walk (n s m : Int) (w : World) (hn : I64 n) (_ : I64 s) (_ : I64 m) :
    Calls Try.prog 10 #[.int .i64 n, .agg #[.int .i64 s, .int .i64 m]] w fun e w' => e = .returned (.bool true) ∧ Below w.heap.size w w' := by
  obtain ⟨x, y, q, e1⟩ : ∃ x y q, stOf n = (x, y, q) := ⟨_, _, _, rfl⟩
  obtain ⟨r, e3⟩ : ∃ q, stRight s m = q := ⟨_, rfl⟩
  have X1 := Lib.hid e1
  have X3 := Lib.hid e3
  have HB : q = true → Hid (stRight x y = true) ∧ Hid (stNanos x y = (n, true)) := fun h => by rw [h] at e1; exact ⟨Lib.hid (of_back e1).1, Lib.hid (of_back e1).2.1⟩
  clear e1 e3
  go_enter Try.func10, Try.ntmps10
  go_wp2_with fail
  refine (StOf_is _ _ _ _ hn X1 _).mono ?_
  rintro e w1 ⟨rfl, hb1⟩
  have q1_1_0 : CellF w1 ⟨w.heap.size, 0, none⟩ (.int .i64 s) := (by refine CellF.keep hb1 ?_; (first | ((repeat (first | ((with_reducible refine CellF.at_ ?_ ?_); (first | (simp; done) | rfl); rfl) | with_reducible refine CellF.past _ ?_ | with_reducible refine CellF.drew ?_ | with_reducible refine CellF.drewN _ ?_)); done) | (refine ⟨?_, ?_⟩ <;> go_simp)))
  have c1_1_0 := q1_1_0.1
  have q1_1_1 : CellF w1 ⟨w.heap.size, 1, none⟩ (.int .i64 m) := (by refine CellF.keep hb1 ?_; (first | ((repeat (first | ((with_reducible refine CellF.at_ ?_ ?_); (first | (simp; done) | rfl); rfl) | with_reducible refine CellF.past _ ?_ | with_reducible refine CellF.drew ?_ | with_reducible refine CellF.drewN _ ?_)); done) | (refine ⟨?_, ?_⟩ <;> go_simp)))
  have c1_1_1 := q1_1_1.1
  have z1_1 : w.heap.size < w1.heap.size := ltc c1_1_0
  cases q with
  | false =>
    cases r with
    | false =>
      go_wp2_with fail
      refine (Put_no s m X3 _).mono ?_
      rintro e w2 ⟨rfl, hb2⟩
      have q2_2_0 : CellF w2 ⟨w.heap.size, 0, none⟩ (.int .i64 s) := (by refine CellF.keep hb2 ?_; repeat (first | with_reducible exact q1_1_0 | ((with_reducible refine CellF.at_ ?_ ?_); (first | (simp; done) | rfl); rfl) | with_reducible refine CellF.past _ ?_ | with_reducible refine CellF.drew ?_ | with_reducible refine CellF.drewN _ ?_))
      have c2_2_0 := q2_2_0.1
      have q2_2_1 : CellF w2 ⟨w.heap.size, 1, none⟩ (.int .i64 m) := (by refine CellF.keep hb2 ?_; repeat (first | with_reducible exact q1_1_1 | ((with_reducible refine CellF.at_ ?_ ?_); (first | (simp; done) | rfl); rfl) | with_reducible refine CellF.past _ ?_ | with_reducible refine CellF.drew ?_ | with_reducible refine CellF.drewN _ ?_))
      have c2_2_1 := q2_2_1.1
      have z2_2 : w.heap.size < w2.heap.size := ltc c2_2_0
      clear q1_1_0 c1_1_0 q1_1_1 c1_1_1 z1_1
      go_wp2_with fail
      refine (alive_is _).mono ?_
      rintro e w3 ⟨rfl, hb3⟩
      have q3_3_0 : CellF w3 ⟨w.heap.size, 0, none⟩ (.int .i64 s) := (by refine CellF.keep hb3 ?_; repeat (first | with_reducible exact q2_2_0 | ((with_reducible refine CellF.at_ ?_ ?_); (first | (simp; done) | rfl); rfl) | with_reducible refine CellF.past _ ?_ | with_reducible refine CellF.drew ?_ | with_reducible refine CellF.drewN _ ?_))
      have c3_3_0 := q3_3_0.1
      have q3_3_1 : CellF w3 ⟨w.heap.size, 1, none⟩ (.int .i64 m) := (by refine CellF.keep hb3 ?_; repeat (first | with_reducible exact q2_2_1 | ((with_reducible refine CellF.at_ ?_ ?_); (first | (simp; done) | rfl); rfl) | with_reducible refine CellF.past _ ?_ | with_reducible refine CellF.drew ?_ | with_reducible refine CellF.drewN _ ?_))
      have c3_3_1 := q3_3_1.1
      have z3_3 : w.heap.size < w3.heap.size := ltc c3_3_0
      clear q2_2_0 c2_2_0 q2_2_1 c2_2_1 z2_2
      go_wp2_with fail
      refine (StRight_is _ _ _ X3 _).mono ?_
      rintro e w4 ⟨rfl, hb4⟩
      have q4_4_0 : CellF w4 ⟨w.heap.size, 0, none⟩ (.int .i64 s) := (by refine CellF.keep hb4 ?_; repeat (first | with_reducible exact q3_3_0 | ((with_reducible refine CellF.at_ ?_ ?_); (first | (simp; done) | rfl); rfl) | with_reducible refine CellF.past _ ?_ | with_reducible refine CellF.drew ?_ | with_reducible refine CellF.drewN _ ?_))
      have c4_4_0 := q4_4_0.1
      have q4_4_1 : CellF w4 ⟨w.heap.size, 1, none⟩ (.int .i64 m) := (by refine CellF.keep hb4 ?_; repeat (first | with_reducible exact q3_3_1 | ((with_reducible refine CellF.at_ ?_ ?_); (first | (simp; done) | rfl); rfl) | with_reducible refine CellF.past _ ?_ | with_reducible refine CellF.drew ?_ | with_reducible refine CellF.drewN _ ?_))
      have c4_4_1 := q4_4_1.1
      have z4_4 : w.heap.size < w4.heap.size := ltc c4_4_0
      clear q3_3_0 c3_3_0 q3_3_1 c3_3_1 z3_3
      all_goals (go_wp2; go_ret; exact ⟨rfl, (by repeat (first | exact brefl _ | refine balloc ?_ _ | refine bdrewN ?_ _ | refine bset ?_ (by dsimp only; omega) _ | refine bstep ?_ (by assumption)))⟩)
    | true =>
      go_wp2_with fail
      refine (Put_ten s m X3 _).mono ?_
      rintro e w2 ⟨b, rfl, hb2, hbb, hp⟩
      have q2_2_0 : CellF w2 ⟨w.heap.size, 0, none⟩ (.int .i64 s) := (by refine CellF.keep hb2 ?_; repeat (first | with_reducible exact q1_1_0 | ((with_reducible refine CellF.at_ ?_ ?_); (first | (simp; done) | rfl); rfl) | with_reducible refine CellF.past _ ?_ | with_reducible refine CellF.drew ?_ | with_reducible refine CellF.drewN _ ?_))
      have c2_2_0 := q2_2_0.1
      have q2_2_1 : CellF w2 ⟨w.heap.size, 1, none⟩ (.int .i64 m) := (by refine CellF.keep hb2 ?_; repeat (first | with_reducible exact q1_1_1 | ((with_reducible refine CellF.at_ ?_ ?_); (first | (simp; done) | rfl); rfl) | with_reducible refine CellF.past _ ?_ | with_reducible refine CellF.drew ?_ | with_reducible refine CellF.drewN _ ?_))
      have c2_2_1 := q2_2_1.1
      have z2_2 : w.heap.size < w2.heap.size := ltc c2_2_0
      clear q1_1_0 c1_1_0 q1_1_1 c1_1_1 z1_1
      go_wp2_with fail
      refine (Get_ok (tenB s m) b 0 10 s m (tenB_bd X3.out) (tenB_sec X3.out) (tenB_ns X3.out) X3 _ (ltc (hp 0 (by omega)).1) (fun i hi => by rw [Nat.zero_add]; exact (hp i hi).1)).mono ?_
      rintro e w3 ⟨rfl, hb3⟩
      have q3_3_0 : CellF w3 ⟨w.heap.size, 0, none⟩ (.int .i64 s) := (by refine CellF.keep hb3 ?_; repeat (first | with_reducible exact q2_2_0 | ((with_reducible refine CellF.at_ ?_ ?_); (first | (simp; done) | rfl); rfl) | with_reducible refine CellF.past _ ?_ | with_reducible refine CellF.drew ?_ | with_reducible refine CellF.drewN _ ?_))
      have c3_3_0 := q3_3_0.1
      have q3_3_1 : CellF w3 ⟨w.heap.size, 1, none⟩ (.int .i64 m) := (by refine CellF.keep hb3 ?_; repeat (first | with_reducible exact q2_2_1 | ((with_reducible refine CellF.at_ ?_ ?_); (first | (simp; done) | rfl); rfl) | with_reducible refine CellF.past _ ?_ | with_reducible refine CellF.drew ?_ | with_reducible refine CellF.drewN _ ?_))
      have c3_3_1 := q3_3_1.1
      have z3_3 : w.heap.size < w3.heap.size := ltc c3_3_0
      clear q2_2_0 c2_2_0 q2_2_1 c2_2_1 z2_2
      go_wp2_with fail
      refine (alive_is _).mono ?_
      rintro e w4 ⟨rfl, hb4⟩
      have q4_4_0 : CellF w4 ⟨w.heap.size, 0, none⟩ (.int .i64 s) := (by refine CellF.keep hb4 ?_; repeat (first | with_reducible exact q3_3_0 | ((with_reducible refine CellF.at_ ?_ ?_); (first | (simp; done) | rfl); rfl) | with_reducible refine CellF.past _ ?_ | with_reducible refine CellF.drew ?_ | with_reducible refine CellF.drewN _ ?_))
      have c4_4_0 := q4_4_0.1
      have q4_4_1 : CellF w4 ⟨w.heap.size, 1, none⟩ (.int .i64 m) := (by refine CellF.keep hb4 ?_; repeat (first | with_reducible exact q3_3_1 | ((with_reducible refine CellF.at_ ?_ ?_); (first | (simp; done) | rfl); rfl) | with_reducible refine CellF.past _ ?_ | with_reducible refine CellF.drew ?_ | with_reducible refine CellF.drewN _ ?_))
      have c4_4_1 := q4_4_1.1
      have z4_4 : w.heap.size < w4.heap.size := ltc c4_4_0
      have q4_5_0 : CellF w4 ⟨w3.heap.size, 0, none⟩ (.int .i64 s) := (by refine CellF.keep hb4 ?_; (first | ((repeat (first | ((with_reducible refine CellF.at_ ?_ ?_); (first | (simp; done) | rfl); rfl) | with_reducible refine CellF.past _ ?_ | with_reducible refine CellF.drew ?_ | with_reducible refine CellF.drewN _ ?_)); done) | (refine ⟨?_, ?_⟩ <;> go_simp)))
      have c4_5_0 := q4_5_0.1
      have q4_5_1 : CellF w4 ⟨w3.heap.size, 1, none⟩ (.int .i64 m) := (by refine CellF.keep hb4 ?_; (first | ((repeat (first | ((with_reducible refine CellF.at_ ?_ ?_); (first | (simp; done) | rfl); rfl) | with_reducible refine CellF.past _ ?_ | with_reducible refine CellF.drew ?_ | with_reducible refine CellF.drewN _ ?_)); done) | (refine ⟨?_, ?_⟩ <;> go_simp)))
      have c4_5_1 := q4_5_1.1
      have z4_5 : w3.heap.size < w4.heap.size := ltc c4_5_0
      clear q3_3_0 c3_3_0 q3_3_1 c3_3_1 z3_3
      all_goals (go_wp2; go_ret; exact ⟨rfl, (by repeat (first | exact brefl _ | refine balloc ?_ _ | refine bdrewN ?_ _ | refine bset ?_ (by dsimp only; omega) _ | refine bstep ?_ (by assumption)))⟩)
  | true =>
    obtain ⟨Y1, Y2⟩ := HB rfl
    go_wp2_with fail
    refine (Nanos_is _ _ _ _ Y2 _).mono ?_
    rintro e w2 ⟨rfl, hb2⟩
    have q2_2_0 : CellF w2 ⟨w.heap.size, 0, none⟩ (.int .i64 s) := (by refine CellF.keep hb2 ?_; repeat (first | with_reducible exact q1_1_0 | ((with_reducible refine CellF.at_ ?_ ?_); (first | (simp; done) | rfl); rfl) | with_reducible refine CellF.past _ ?_ | with_reducible refine CellF.drew ?_ | with_reducible refine CellF.drewN _ ?_))
    have c2_2_0 := q2_2_0.1
    have q2_2_1 : CellF w2 ⟨w.heap.size, 1, none⟩ (.int .i64 m) := (by refine CellF.keep hb2 ?_; repeat (first | with_reducible exact q1_1_1 | ((with_reducible refine CellF.at_ ?_ ?_); (first | (simp; done) | rfl); rfl) | with_reducible refine CellF.past _ ?_ | with_reducible refine CellF.drew ?_ | with_reducible refine CellF.drewN _ ?_))
    have c2_2_1 := q2_2_1.1
    have z2_2 : w.heap.size < w2.heap.size := ltc c2_2_0
    have q2_3_0 : CellF w2 ⟨w1.heap.size, 0, none⟩ (.int .i64 x) := (by refine CellF.keep hb2 ?_; (first | ((repeat (first | ((with_reducible refine CellF.at_ ?_ ?_); (first | (simp; done) | rfl); rfl) | with_reducible refine CellF.past _ ?_ | with_reducible refine CellF.drew ?_ | with_reducible refine CellF.drewN _ ?_)); done) | (refine ⟨?_, ?_⟩ <;> go_simp)))
    have c2_3_0 := q2_3_0.1
    have q2_3_1 : CellF w2 ⟨w1.heap.size, 1, none⟩ (.int .i64 y) := (by refine CellF.keep hb2 ?_; (first | ((repeat (first | ((with_reducible refine CellF.at_ ?_ ?_); (first | (simp; done) | rfl); rfl) | with_reducible refine CellF.past _ ?_ | with_reducible refine CellF.drew ?_ | with_reducible refine CellF.drewN _ ?_)); done) | (refine ⟨?_, ?_⟩ <;> go_simp)))
    have c2_3_1 := q2_3_1.1
    have z2_3 : w1.heap.size < w2.heap.size := ltc c2_3_0
    clear q1_1_0 c1_1_0 q1_1_1 c1_1_1 z1_1
    go_wp2_with fail
    refine (StRight_is _ _ _ Y1 _).mono ?_
    rintro e w3 ⟨rfl, hb3⟩
    have q3_4_0 : CellF w3 ⟨w.heap.size, 0, none⟩ (.int .i64 s) := (by refine CellF.keep hb3 ?_; repeat (first | with_reducible exact q2_2_0 | ((with_reducible refine CellF.at_ ?_ ?_); (first | (simp; done) | rfl); rfl) | with_reducible refine CellF.past _ ?_ | with_reducible refine CellF.drew ?_ | with_reducible refine CellF.drewN _ ?_))
    have c3_4_0 := q3_4_0.1
    have q3_4_1 : CellF w3 ⟨w.heap.size, 1, none⟩ (.int .i64 m) := (by refine CellF.keep hb3 ?_; repeat (first | with_reducible exact q2_2_1 | ((with_reducible refine CellF.at_ ?_ ?_); (first | (simp; done) | rfl); rfl) | with_reducible refine CellF.past _ ?_ | with_reducible refine CellF.drew ?_ | with_reducible refine CellF.drewN _ ?_))
    have c3_4_1 := q3_4_1.1
    have z3_4 : w.heap.size < w3.heap.size := ltc c3_4_0
    have q3_5_0 : CellF w3 ⟨w1.heap.size, 0, none⟩ (.int .i64 x) := (by refine CellF.keep hb3 ?_; repeat (first | with_reducible exact q2_3_0 | ((with_reducible refine CellF.at_ ?_ ?_); (first | (simp; done) | rfl); rfl) | with_reducible refine CellF.past _ ?_ | with_reducible refine CellF.drew ?_ | with_reducible refine CellF.drewN _ ?_))
    have c3_5_0 := q3_5_0.1
    have q3_5_1 : CellF w3 ⟨w1.heap.size, 1, none⟩ (.int .i64 y) := (by refine CellF.keep hb3 ?_; repeat (first | with_reducible exact q2_3_1 | ((with_reducible refine CellF.at_ ?_ ?_); (first | (simp; done) | rfl); rfl) | with_reducible refine CellF.past _ ?_ | with_reducible refine CellF.drew ?_ | with_reducible refine CellF.drewN _ ?_))
    have c3_5_1 := q3_5_1.1
    have z3_5 : w1.heap.size < w3.heap.size := ltc c3_5_0
    clear q2_2_0 c2_2_0 q2_2_1 c2_2_1 z2_2 q2_3_0 c2_3_0 q2_3_1 c2_3_1 z2_3
    cases r with
    | false =>
      go_wp2_with fail
      refine (Put_no s m X3 _).mono ?_
      rintro e w4 ⟨rfl, hb4⟩
      have q4_6_0 : CellF w4 ⟨w.heap.size, 0, none⟩ (.int .i64 s) := (by refine CellF.keep hb4 ?_; repeat (first | with_reducible exact q3_4_0 | ((with_reducible refine CellF.at_ ?_ ?_); (first | (simp; done) | rfl); rfl) | with_reducible refine CellF.past _ ?_ | with_reducible refine CellF.drew ?_ | with_reducible refine CellF.drewN _ ?_))
      have c4_6_0 := q4_6_0.1
      have q4_6_1 : CellF w4 ⟨w.heap.size, 1, none⟩ (.int .i64 m) := (by refine CellF.keep hb4 ?_; repeat (first | with_reducible exact q3_4_1 | ((with_reducible refine CellF.at_ ?_ ?_); (first | (simp; done) | rfl); rfl) | with_reducible refine CellF.past _ ?_ | with_reducible refine CellF.drew ?_ | with_reducible refine CellF.drewN _ ?_))
      have c4_6_1 := q4_6_1.1
      have z4_6 : w.heap.size < w4.heap.size := ltc c4_6_0
      clear q3_5_0 c3_5_0 q3_5_1 c3_5_1 z3_5 q3_4_0 c3_4_0 q3_4_1 c3_4_1 z3_4
      go_wp2_with fail
      refine (alive_is _).mono ?_
      rintro e w5 ⟨rfl, hb5⟩
      have q5_7_0 : CellF w5 ⟨w.heap.size, 0, none⟩ (.int .i64 s) := (by refine CellF.keep hb5 ?_; repeat (first | with_reducible exact q4_6_0 | ((with_reducible refine CellF.at_ ?_ ?_); (first | (simp; done) | rfl); rfl) | with_reducible refine CellF.past _ ?_ | with_reducible refine CellF.drew ?_ | with_reducible refine CellF.drewN _ ?_))
      have c5_7_0 := q5_7_0.1
      have q5_7_1 : CellF w5 ⟨w.heap.size, 1, none⟩ (.int .i64 m) := (by refine CellF.keep hb5 ?_; repeat (first | with_reducible exact q4_6_1 | ((with_reducible refine CellF.at_ ?_ ?_); (first | (simp; done) | rfl); rfl) | with_reducible refine CellF.past _ ?_ | with_reducible refine CellF.drew ?_ | with_reducible refine CellF.drewN _ ?_))
      have c5_7_1 := q5_7_1.1
      have z5_7 : w.heap.size < w5.heap.size := ltc c5_7_0
      clear q4_6_0 c4_6_0 q4_6_1 c4_6_1 z4_6
      go_wp2_with fail
      refine (StRight_is _ _ _ X3 _).mono ?_
      rintro e w6 ⟨rfl, hb6⟩
      have q6_8_0 : CellF w6 ⟨w.heap.size, 0, none⟩ (.int .i64 s) := (by refine CellF.keep hb6 ?_; repeat (first | with_reducible exact q5_7_0 | ((with_reducible refine CellF.at_ ?_ ?_); (first | (simp; done) | rfl); rfl) | with_reducible refine CellF.past _ ?_ | with_reducible refine CellF.drew ?_ | with_reducible refine CellF.drewN _ ?_))
      have c6_8_0 := q6_8_0.1
      have q6_8_1 : CellF w6 ⟨w.heap.size, 1, none⟩ (.int .i64 m) := (by refine CellF.keep hb6 ?_; repeat (first | with_reducible exact q5_7_1 | ((with_reducible refine CellF.at_ ?_ ?_); (first | (simp; done) | rfl); rfl) | with_reducible refine CellF.past _ ?_ | with_reducible refine CellF.drew ?_ | with_reducible refine CellF.drewN _ ?_))
      have c6_8_1 := q6_8_1.1
      have z6_8 : w.heap.size < w6.heap.size := ltc c6_8_0
      clear q5_7_0 c5_7_0 q5_7_1 c5_7_1 z5_7
      all_goals (go_wp2; go_ret; exact ⟨rfl, (by repeat (first | exact brefl _ | refine balloc ?_ _ | refine bdrewN ?_ _ | refine bset ?_ (by dsimp only; omega) _ | refine bstep ?_ (by assumption)))⟩)
    | true =>
      go_wp2_with fail
      refine (Put_ten s m X3 _).mono ?_
      rintro e w4 ⟨b, rfl, hb4, hbb, hp⟩
      have q4_6_0 : CellF w4 ⟨w.heap.size, 0, none⟩ (.int .i64 s) := (by refine CellF.keep hb4 ?_; repeat (first | with_reducible exact q3_4_0 | ((with_reducible refine CellF.at_ ?_ ?_); (first | (simp; done) | rfl); rfl) | with_reducible refine CellF.past _ ?_ | with_reducible refine CellF.drew ?_ | with_reducible refine CellF.drewN _ ?_))
      have c4_6_0 := q4_6_0.1
      have q4_6_1 : CellF w4 ⟨w.heap.size, 1, none⟩ (.int .i64 m) := (by refine CellF.keep hb4 ?_; repeat (first | with_reducible exact q3_4_1 | ((with_reducible refine CellF.at_ ?_ ?_); (first | (simp; done) | rfl); rfl) | with_reducible refine CellF.past _ ?_ | with_reducible refine CellF.drew ?_ | with_reducible refine CellF.drewN _ ?_))
      have c4_6_1 := q4_6_1.1
      have z4_6 : w.heap.size < w4.heap.size := ltc c4_6_0
      clear q3_5_0 c3_5_0 q3_5_1 c3_5_1 z3_5 q3_4_0 c3_4_0 q3_4_1 c3_4_1 z3_4
      go_wp2_with fail
      refine (Get_ok (tenB s m) b 0 10 s m (tenB_bd X3.out) (tenB_sec X3.out) (tenB_ns X3.out) X3 _ (ltc (hp 0 (by omega)).1) (fun i hi => by rw [Nat.zero_add]; exact (hp i hi).1)).mono ?_
      rintro e w5 ⟨rfl, hb5⟩
      have q5_7_0 : CellF w5 ⟨w.heap.size, 0, none⟩ (.int .i64 s) := (by refine CellF.keep hb5 ?_; repeat (first | with_reducible exact q4_6_0 | ((with_reducible refine CellF.at_ ?_ ?_); (first | (simp; done) | rfl); rfl) | with_reducible refine CellF.past _ ?_ | with_reducible refine CellF.drew ?_ | with_reducible refine CellF.drewN _ ?_))
      have c5_7_0 := q5_7_0.1
      have q5_7_1 : CellF w5 ⟨w.heap.size, 1, none⟩ (.int .i64 m) := (by refine CellF.keep hb5 ?_; repeat (first | with_reducible exact q4_6_1 | ((with_reducible refine CellF.at_ ?_ ?_); (first | (simp; done) | rfl); rfl) | with_reducible refine CellF.past _ ?_ | with_reducible refine CellF.drew ?_ | with_reducible refine CellF.drewN _ ?_))
      have c5_7_1 := q5_7_1.1
      have z5_7 : w.heap.size < w5.heap.size := ltc c5_7_0
      clear q4_6_0 c4_6_0 q4_6_1 c4_6_1 z4_6
      go_wp2_with fail
      refine (alive_is _).mono ?_
      rintro e w6 ⟨rfl, hb6⟩
      have q6_8_0 : CellF w6 ⟨w.heap.size, 0, none⟩ (.int .i64 s) := (by refine CellF.keep hb6 ?_; repeat (first | with_reducible exact q5_7_0 | ((with_reducible refine CellF.at_ ?_ ?_); (first | (simp; done) | rfl); rfl) | with_reducible refine CellF.past _ ?_ | with_reducible refine CellF.drew ?_ | with_reducible refine CellF.drewN _ ?_))
      have c6_8_0 := q6_8_0.1
      have q6_8_1 : CellF w6 ⟨w.heap.size, 1, none⟩ (.int .i64 m) := (by refine CellF.keep hb6 ?_; repeat (first | with_reducible exact q5_7_1 | ((with_reducible refine CellF.at_ ?_ ?_); (first | (simp; done) | rfl); rfl) | with_reducible refine CellF.past _ ?_ | with_reducible refine CellF.drew ?_ | with_reducible refine CellF.drewN _ ?_))
      have c6_8_1 := q6_8_1.1
      have z6_8 : w.heap.size < w6.heap.size := ltc c6_8_0
      have q6_9_0 : CellF w6 ⟨w5.heap.size, 0, none⟩ (.int .i64 s) := (by refine CellF.keep hb6 ?_; (first | ((repeat (first | ((with_reducible refine CellF.at_ ?_ ?_); (first | (simp; done) | rfl); rfl) | with_reducible refine CellF.past _ ?_ | with_reducible refine CellF.drew ?_ | with_reducible refine CellF.drewN _ ?_)); done) | (refine ⟨?_, ?_⟩ <;> go_simp)))
      have c6_9_0 := q6_9_0.1
      have q6_9_1 : CellF w6 ⟨w5.heap.size, 1, none⟩ (.int .i64 m) := (by refine CellF.keep hb6 ?_; (first | ((repeat (first | ((with_reducible refine CellF.at_ ?_ ?_); (first | (simp; done) | rfl); rfl) | with_reducible refine CellF.past _ ?_ | with_reducible refine CellF.drew ?_ | with_reducible refine CellF.drewN _ ?_)); done) | (refine ⟨?_, ?_⟩ <;> go_simp)))
      have c6_9_1 := q6_9_1.1
      have z6_9 : w5.heap.size < w6.heap.size := ltc c6_9_0
      clear q5_7_0 c5_7_0 q5_7_1 c5_7_1 z5_7
      all_goals (go_wp2; go_ret; exact ⟨rfl, (by repeat (first | exact brefl _ | refine balloc ?_ _ | refine bdrewN ?_ _ | refine bset ?_ (by dsimp only; omega) _ | refine bstep ?_ (by assumption)))⟩)
end Go.Proofs.Ytoijjnhlmndhpaa
