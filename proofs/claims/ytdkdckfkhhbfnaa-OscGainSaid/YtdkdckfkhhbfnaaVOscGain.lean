/-
  The walk of the law OscGain.
-/
import Derived.Test.YtdkdckfkhhbfnaaAlOsc
namespace Go.Proofs.Ytdkdckfkhhbfnaa
open Go.RowKit

set_option maxRecDepth 100000 in
set_option maxHeartbeats 4000000 in
theorem OscGain_walk (p q r s : Int) (w : World) (hp : I64 p) (hq : I64 q) (hr : I64 r) (hs : I64 s) :
    Calls Try.prog 6 #[.agg #[.int .i64 p, .int .i64 q], .agg #[.int .i64 r, .int .i64 s]] w fun e w' => e = .returned (.bool true) ∧ Below w.heap.size w w' := by
  obtain ⟨m, i, e1⟩ : ∃ m i, gainP p q = (m, i) := ⟨_, _, rfl⟩
  have E1 := Lib.hid e1
  obtain ⟨n, j, e2⟩ : ∃ m i, gainP r s = (m, i) := ⟨_, _, rfl⟩
  have E2 := Lib.hid e2
  cases i with
  | false =>
    go_enter Try.func6, Try.ntmps6
    go_wp2_with fail
    refine (Gain_is _ _ _ _ hp hq E1 _).mono ?_
    rintro e w1 ⟨rfl, hb1⟩
    have q1_1_0 : CellF w1 ⟨w.heap.size, 0, none⟩ (.int .i64 p) := (by refine CellF.keep hb1 ?_; (first | ((repeat (first | with_reducible exact CellF.at_ (by simp) rfl | with_reducible refine CellF.past _ ?_ | with_reducible refine CellF.drew ?_ | with_reducible refine CellF.drewN _ ?_)); done) | (refine ⟨?_, ?_⟩ <;> go_simp)))
    have c1_1_0 := q1_1_0.1
    have q1_1_1 : CellF w1 ⟨w.heap.size, 1, none⟩ (.int .i64 q) := (by refine CellF.keep hb1 ?_; (first | ((repeat (first | with_reducible exact CellF.at_ (by simp) rfl | with_reducible refine CellF.past _ ?_ | with_reducible refine CellF.drew ?_ | with_reducible refine CellF.drewN _ ?_)); done) | (refine ⟨?_, ?_⟩ <;> go_simp)))
    have c1_1_1 := q1_1_1.1
    have z1_1 : w.heap.size < w1.heap.size := ltc c1_1_0
    have q1_2_0 : CellF w1 ⟨(w.heap.size + 1), 0, none⟩ (.int .i64 r) := (by refine CellF.keep hb1 ?_; (first | ((repeat (first | with_reducible exact CellF.at_ (by simp) rfl | with_reducible refine CellF.past _ ?_ | with_reducible refine CellF.drew ?_ | with_reducible refine CellF.drewN _ ?_)); done) | (refine ⟨?_, ?_⟩ <;> go_simp)))
    have c1_2_0 := q1_2_0.1
    have q1_2_1 : CellF w1 ⟨(w.heap.size + 1), 1, none⟩ (.int .i64 s) := (by refine CellF.keep hb1 ?_; (first | ((repeat (first | with_reducible exact CellF.at_ (by simp) rfl | with_reducible refine CellF.past _ ?_ | with_reducible refine CellF.drew ?_ | with_reducible refine CellF.drewN _ ?_)); done) | (refine ⟨?_, ?_⟩ <;> go_simp)))
    have c1_2_1 := q1_2_1.1
    have z1_2 : (w.heap.size + 1) < w1.heap.size := ltc c1_2_0
    go_wp2_with fail
    refine (Gain_is _ _ _ _ hr hs E2 _).mono ?_
    rintro e w2 ⟨rfl, hb2⟩
    have q2_3_0 : CellF w2 ⟨w.heap.size, 0, none⟩ (.int .i64 p) := (by refine CellF.keep hb2 ?_; repeat (first | with_reducible exact q1_1_0 | with_reducible exact CellF.at_ (by simp) rfl | with_reducible refine CellF.past _ ?_ | with_reducible refine CellF.drew ?_ | with_reducible refine CellF.drewN _ ?_))
    have c2_3_0 := q2_3_0.1
    have q2_3_1 : CellF w2 ⟨w.heap.size, 1, none⟩ (.int .i64 q) := (by refine CellF.keep hb2 ?_; repeat (first | with_reducible exact q1_1_1 | with_reducible exact CellF.at_ (by simp) rfl | with_reducible refine CellF.past _ ?_ | with_reducible refine CellF.drew ?_ | with_reducible refine CellF.drewN _ ?_))
    have c2_3_1 := q2_3_1.1
    have z2_3 : w.heap.size < w2.heap.size := ltc c2_3_0
    have q2_4_0 : CellF w2 ⟨(w.heap.size + 1), 0, none⟩ (.int .i64 r) := (by refine CellF.keep hb2 ?_; repeat (first | with_reducible exact q1_2_0 | with_reducible exact CellF.at_ (by simp) rfl | with_reducible refine CellF.past _ ?_ | with_reducible refine CellF.drew ?_ | with_reducible refine CellF.drewN _ ?_))
    have c2_4_0 := q2_4_0.1
    have q2_4_1 : CellF w2 ⟨(w.heap.size + 1), 1, none⟩ (.int .i64 s) := (by refine CellF.keep hb2 ?_; repeat (first | with_reducible exact q1_2_1 | with_reducible exact CellF.at_ (by simp) rfl | with_reducible refine CellF.past _ ?_ | with_reducible refine CellF.drew ?_ | with_reducible refine CellF.drewN _ ?_))
    have c2_4_1 := q2_4_1.1
    have z2_4 : (w.heap.size + 1) < w2.heap.size := ltc c2_4_0
    clear q1_1_0 c1_1_0 q1_1_1 c1_1_1 z1_1 q1_2_0 c1_2_0 q1_2_1 c1_2_1 z1_2
    go_wp2_with fail
    refine (alive_is _).mono ?_
    rintro e w3 ⟨rfl, hb3⟩
    have q3_5_0 : CellF w3 ⟨w.heap.size, 0, none⟩ (.int .i64 p) := (by refine CellF.keep hb3 ?_; repeat (first | with_reducible exact q2_3_0 | with_reducible exact CellF.at_ (by simp) rfl | with_reducible refine CellF.past _ ?_ | with_reducible refine CellF.drew ?_ | with_reducible refine CellF.drewN _ ?_))
    have c3_5_0 := q3_5_0.1
    have q3_5_1 : CellF w3 ⟨w.heap.size, 1, none⟩ (.int .i64 q) := (by refine CellF.keep hb3 ?_; repeat (first | with_reducible exact q2_3_1 | with_reducible exact CellF.at_ (by simp) rfl | with_reducible refine CellF.past _ ?_ | with_reducible refine CellF.drew ?_ | with_reducible refine CellF.drewN _ ?_))
    have c3_5_1 := q3_5_1.1
    have z3_5 : w.heap.size < w3.heap.size := ltc c3_5_0
    have q3_6_0 : CellF w3 ⟨(w.heap.size + 1), 0, none⟩ (.int .i64 r) := (by refine CellF.keep hb3 ?_; repeat (first | with_reducible exact q2_4_0 | with_reducible exact CellF.at_ (by simp) rfl | with_reducible refine CellF.past _ ?_ | with_reducible refine CellF.drew ?_ | with_reducible refine CellF.drewN _ ?_))
    have c3_6_0 := q3_6_0.1
    have q3_6_1 : CellF w3 ⟨(w.heap.size + 1), 1, none⟩ (.int .i64 s) := (by refine CellF.keep hb3 ?_; repeat (first | with_reducible exact q2_4_1 | with_reducible exact CellF.at_ (by simp) rfl | with_reducible refine CellF.past _ ?_ | with_reducible refine CellF.drew ?_ | with_reducible refine CellF.drewN _ ?_))
    have c3_6_1 := q3_6_1.1
    have z3_6 : (w.heap.size + 1) < w3.heap.size := ltc c3_6_0
    clear q2_3_0 c2_3_0 q2_3_1 c2_3_1 z2_3 q2_4_0 c2_4_0 q2_4_1 c2_4_1 z2_4
    all_goals (go_wp2; go_ret; exact ⟨rfl, (by repeat (first | exact brefl _ | refine balloc ?_ _ | refine bdrewN ?_ _ | refine bset ?_ (by dsimp only; omega) _ | refine bstep ?_ (by assumption)))⟩)
  | true =>
    cases j with
    | false =>
      go_enter Try.func6, Try.ntmps6
      go_wp2_with fail
      refine (Gain_is _ _ _ _ hp hq E1 _).mono ?_
      rintro e w1 ⟨rfl, hb1⟩
      have q1_1_0 : CellF w1 ⟨w.heap.size, 0, none⟩ (.int .i64 p) := (by refine CellF.keep hb1 ?_; (first | ((repeat (first | with_reducible exact CellF.at_ (by simp) rfl | with_reducible refine CellF.past _ ?_ | with_reducible refine CellF.drew ?_ | with_reducible refine CellF.drewN _ ?_)); done) | (refine ⟨?_, ?_⟩ <;> go_simp)))
      have c1_1_0 := q1_1_0.1
      have q1_1_1 : CellF w1 ⟨w.heap.size, 1, none⟩ (.int .i64 q) := (by refine CellF.keep hb1 ?_; (first | ((repeat (first | with_reducible exact CellF.at_ (by simp) rfl | with_reducible refine CellF.past _ ?_ | with_reducible refine CellF.drew ?_ | with_reducible refine CellF.drewN _ ?_)); done) | (refine ⟨?_, ?_⟩ <;> go_simp)))
      have c1_1_1 := q1_1_1.1
      have z1_1 : w.heap.size < w1.heap.size := ltc c1_1_0
      have q1_2_0 : CellF w1 ⟨(w.heap.size + 1), 0, none⟩ (.int .i64 r) := (by refine CellF.keep hb1 ?_; (first | ((repeat (first | with_reducible exact CellF.at_ (by simp) rfl | with_reducible refine CellF.past _ ?_ | with_reducible refine CellF.drew ?_ | with_reducible refine CellF.drewN _ ?_)); done) | (refine ⟨?_, ?_⟩ <;> go_simp)))
      have c1_2_0 := q1_2_0.1
      have q1_2_1 : CellF w1 ⟨(w.heap.size + 1), 1, none⟩ (.int .i64 s) := (by refine CellF.keep hb1 ?_; (first | ((repeat (first | with_reducible exact CellF.at_ (by simp) rfl | with_reducible refine CellF.past _ ?_ | with_reducible refine CellF.drew ?_ | with_reducible refine CellF.drewN _ ?_)); done) | (refine ⟨?_, ?_⟩ <;> go_simp)))
      have c1_2_1 := q1_2_1.1
      have z1_2 : (w.heap.size + 1) < w1.heap.size := ltc c1_2_0
      go_wp2_with fail
      refine (Gain_is _ _ _ _ hr hs E2 _).mono ?_
      rintro e w2 ⟨rfl, hb2⟩
      have q2_3_0 : CellF w2 ⟨w.heap.size, 0, none⟩ (.int .i64 p) := (by refine CellF.keep hb2 ?_; repeat (first | with_reducible exact q1_1_0 | with_reducible exact CellF.at_ (by simp) rfl | with_reducible refine CellF.past _ ?_ | with_reducible refine CellF.drew ?_ | with_reducible refine CellF.drewN _ ?_))
      have c2_3_0 := q2_3_0.1
      have q2_3_1 : CellF w2 ⟨w.heap.size, 1, none⟩ (.int .i64 q) := (by refine CellF.keep hb2 ?_; repeat (first | with_reducible exact q1_1_1 | with_reducible exact CellF.at_ (by simp) rfl | with_reducible refine CellF.past _ ?_ | with_reducible refine CellF.drew ?_ | with_reducible refine CellF.drewN _ ?_))
      have c2_3_1 := q2_3_1.1
      have z2_3 : w.heap.size < w2.heap.size := ltc c2_3_0
      have q2_4_0 : CellF w2 ⟨(w.heap.size + 1), 0, none⟩ (.int .i64 r) := (by refine CellF.keep hb2 ?_; repeat (first | with_reducible exact q1_2_0 | with_reducible exact CellF.at_ (by simp) rfl | with_reducible refine CellF.past _ ?_ | with_reducible refine CellF.drew ?_ | with_reducible refine CellF.drewN _ ?_))
      have c2_4_0 := q2_4_0.1
      have q2_4_1 : CellF w2 ⟨(w.heap.size + 1), 1, none⟩ (.int .i64 s) := (by refine CellF.keep hb2 ?_; repeat (first | with_reducible exact q1_2_1 | with_reducible exact CellF.at_ (by simp) rfl | with_reducible refine CellF.past _ ?_ | with_reducible refine CellF.drew ?_ | with_reducible refine CellF.drewN _ ?_))
      have c2_4_1 := q2_4_1.1
      have z2_4 : (w.heap.size + 1) < w2.heap.size := ltc c2_4_0
      clear q1_1_0 c1_1_0 q1_1_1 c1_1_1 z1_1 q1_2_0 c1_2_0 q1_2_1 c1_2_1 z1_2
      go_wp2_with fail
      refine (alive_is _).mono ?_
      rintro e w3 ⟨rfl, hb3⟩
      have q3_5_0 : CellF w3 ⟨w.heap.size, 0, none⟩ (.int .i64 p) := (by refine CellF.keep hb3 ?_; repeat (first | with_reducible exact q2_3_0 | with_reducible exact CellF.at_ (by simp) rfl | with_reducible refine CellF.past _ ?_ | with_reducible refine CellF.drew ?_ | with_reducible refine CellF.drewN _ ?_))
      have c3_5_0 := q3_5_0.1
      have q3_5_1 : CellF w3 ⟨w.heap.size, 1, none⟩ (.int .i64 q) := (by refine CellF.keep hb3 ?_; repeat (first | with_reducible exact q2_3_1 | with_reducible exact CellF.at_ (by simp) rfl | with_reducible refine CellF.past _ ?_ | with_reducible refine CellF.drew ?_ | with_reducible refine CellF.drewN _ ?_))
      have c3_5_1 := q3_5_1.1
      have z3_5 : w.heap.size < w3.heap.size := ltc c3_5_0
      have q3_6_0 : CellF w3 ⟨(w.heap.size + 1), 0, none⟩ (.int .i64 r) := (by refine CellF.keep hb3 ?_; repeat (first | with_reducible exact q2_4_0 | with_reducible exact CellF.at_ (by simp) rfl | with_reducible refine CellF.past _ ?_ | with_reducible refine CellF.drew ?_ | with_reducible refine CellF.drewN _ ?_))
      have c3_6_0 := q3_6_0.1
      have q3_6_1 : CellF w3 ⟨(w.heap.size + 1), 1, none⟩ (.int .i64 s) := (by refine CellF.keep hb3 ?_; repeat (first | with_reducible exact q2_4_1 | with_reducible exact CellF.at_ (by simp) rfl | with_reducible refine CellF.past _ ?_ | with_reducible refine CellF.drew ?_ | with_reducible refine CellF.drewN _ ?_))
      have c3_6_1 := q3_6_1.1
      have z3_6 : (w.heap.size + 1) < w3.heap.size := ltc c3_6_0
      clear q2_3_0 c2_3_0 q2_3_1 c2_3_1 z2_3 q2_4_0 c2_4_0 q2_4_1 c2_4_1 z2_4
      all_goals (go_wp2; go_ret; exact ⟨rfl, (by repeat (first | exact brefl _ | refine balloc ?_ _ | refine bdrewN ?_ _ | refine bset ?_ (by dsimp only; omega) _ | refine bstep ?_ (by assumption)))⟩)
    | true =>
      by_cases z : r < p
      ·
        go_enter Try.func6, Try.ntmps6
        go_wp2_with fail
        refine (Gain_is _ _ _ _ hp hq E1 _).mono ?_
        rintro e w1 ⟨rfl, hb1⟩
        have q1_1_0 : CellF w1 ⟨w.heap.size, 0, none⟩ (.int .i64 p) := (by refine CellF.keep hb1 ?_; (first | ((repeat (first | with_reducible exact CellF.at_ (by simp) rfl | with_reducible refine CellF.past _ ?_ | with_reducible refine CellF.drew ?_ | with_reducible refine CellF.drewN _ ?_)); done) | (refine ⟨?_, ?_⟩ <;> go_simp)))
        have c1_1_0 := q1_1_0.1
        have q1_1_1 : CellF w1 ⟨w.heap.size, 1, none⟩ (.int .i64 q) := (by refine CellF.keep hb1 ?_; (first | ((repeat (first | with_reducible exact CellF.at_ (by simp) rfl | with_reducible refine CellF.past _ ?_ | with_reducible refine CellF.drew ?_ | with_reducible refine CellF.drewN _ ?_)); done) | (refine ⟨?_, ?_⟩ <;> go_simp)))
        have c1_1_1 := q1_1_1.1
        have z1_1 : w.heap.size < w1.heap.size := ltc c1_1_0
        have q1_2_0 : CellF w1 ⟨(w.heap.size + 1), 0, none⟩ (.int .i64 r) := (by refine CellF.keep hb1 ?_; (first | ((repeat (first | with_reducible exact CellF.at_ (by simp) rfl | with_reducible refine CellF.past _ ?_ | with_reducible refine CellF.drew ?_ | with_reducible refine CellF.drewN _ ?_)); done) | (refine ⟨?_, ?_⟩ <;> go_simp)))
        have c1_2_0 := q1_2_0.1
        have q1_2_1 : CellF w1 ⟨(w.heap.size + 1), 1, none⟩ (.int .i64 s) := (by refine CellF.keep hb1 ?_; (first | ((repeat (first | with_reducible exact CellF.at_ (by simp) rfl | with_reducible refine CellF.past _ ?_ | with_reducible refine CellF.drew ?_ | with_reducible refine CellF.drewN _ ?_)); done) | (refine ⟨?_, ?_⟩ <;> go_simp)))
        have c1_2_1 := q1_2_1.1
        have z1_2 : (w.heap.size + 1) < w1.heap.size := ltc c1_2_0
        go_wp2_with fail
        refine (Gain_is _ _ _ _ hr hs E2 _).mono ?_
        rintro e w2 ⟨rfl, hb2⟩
        have q2_3_0 : CellF w2 ⟨w.heap.size, 0, none⟩ (.int .i64 p) := (by refine CellF.keep hb2 ?_; repeat (first | with_reducible exact q1_1_0 | with_reducible exact CellF.at_ (by simp) rfl | with_reducible refine CellF.past _ ?_ | with_reducible refine CellF.drew ?_ | with_reducible refine CellF.drewN _ ?_))
        have c2_3_0 := q2_3_0.1
        have q2_3_1 : CellF w2 ⟨w.heap.size, 1, none⟩ (.int .i64 q) := (by refine CellF.keep hb2 ?_; repeat (first | with_reducible exact q1_1_1 | with_reducible exact CellF.at_ (by simp) rfl | with_reducible refine CellF.past _ ?_ | with_reducible refine CellF.drew ?_ | with_reducible refine CellF.drewN _ ?_))
        have c2_3_1 := q2_3_1.1
        have z2_3 : w.heap.size < w2.heap.size := ltc c2_3_0
        have q2_4_0 : CellF w2 ⟨(w.heap.size + 1), 0, none⟩ (.int .i64 r) := (by refine CellF.keep hb2 ?_; repeat (first | with_reducible exact q1_2_0 | with_reducible exact CellF.at_ (by simp) rfl | with_reducible refine CellF.past _ ?_ | with_reducible refine CellF.drew ?_ | with_reducible refine CellF.drewN _ ?_))
        have c2_4_0 := q2_4_0.1
        have q2_4_1 : CellF w2 ⟨(w.heap.size + 1), 1, none⟩ (.int .i64 s) := (by refine CellF.keep hb2 ?_; repeat (first | with_reducible exact q1_2_1 | with_reducible exact CellF.at_ (by simp) rfl | with_reducible refine CellF.past _ ?_ | with_reducible refine CellF.drew ?_ | with_reducible refine CellF.drewN _ ?_))
        have c2_4_1 := q2_4_1.1
        have z2_4 : (w.heap.size + 1) < w2.heap.size := ltc c2_4_0
        clear q1_1_0 c1_1_0 q1_1_1 c1_1_1 z1_1 q1_2_0 c1_2_0 q1_2_1 c1_2_1 z1_2
        go_wp2_with fail
        refine (alive_is _).mono ?_
        rintro e w3 ⟨rfl, hb3⟩
        have q3_5_0 : CellF w3 ⟨w.heap.size, 0, none⟩ (.int .i64 p) := (by refine CellF.keep hb3 ?_; repeat (first | with_reducible exact q2_3_0 | with_reducible exact CellF.at_ (by simp) rfl | with_reducible refine CellF.past _ ?_ | with_reducible refine CellF.drew ?_ | with_reducible refine CellF.drewN _ ?_))
        have c3_5_0 := q3_5_0.1
        have q3_5_1 : CellF w3 ⟨w.heap.size, 1, none⟩ (.int .i64 q) := (by refine CellF.keep hb3 ?_; repeat (first | with_reducible exact q2_3_1 | with_reducible exact CellF.at_ (by simp) rfl | with_reducible refine CellF.past _ ?_ | with_reducible refine CellF.drew ?_ | with_reducible refine CellF.drewN _ ?_))
        have c3_5_1 := q3_5_1.1
        have z3_5 : w.heap.size < w3.heap.size := ltc c3_5_0
        have q3_6_0 : CellF w3 ⟨(w.heap.size + 1), 0, none⟩ (.int .i64 r) := (by refine CellF.keep hb3 ?_; repeat (first | with_reducible exact q2_4_0 | with_reducible exact CellF.at_ (by simp) rfl | with_reducible refine CellF.past _ ?_ | with_reducible refine CellF.drew ?_ | with_reducible refine CellF.drewN _ ?_))
        have c3_6_0 := q3_6_0.1
        have q3_6_1 : CellF w3 ⟨(w.heap.size + 1), 1, none⟩ (.int .i64 s) := (by refine CellF.keep hb3 ?_; repeat (first | with_reducible exact q2_4_1 | with_reducible exact CellF.at_ (by simp) rfl | with_reducible refine CellF.past _ ?_ | with_reducible refine CellF.drew ?_ | with_reducible refine CellF.drewN _ ?_))
        have c3_6_1 := q3_6_1.1
        have z3_6 : (w.heap.size + 1) < w3.heap.size := ltc c3_6_0
        clear q2_3_0 c2_3_0 q2_3_1 c2_3_1 z2_3 q2_4_0 c2_4_0 q2_4_1 c2_4_1 z2_4
        all_goals (go_wp2; go_ret; exact ⟨rfl, (by repeat (first | exact brefl _ | refine balloc ?_ _ | refine bdrewN ?_ _ | refine bset ?_ (by dsimp only; omega) _ | refine bstep ?_ (by assumption)))⟩)
      have zrp := Int.not_lt.1 z
      clear z
      by_cases z : s < q
      ·
        go_enter Try.func6, Try.ntmps6
        go_wp2_with fail
        refine (Gain_is _ _ _ _ hp hq E1 _).mono ?_
        rintro e w1 ⟨rfl, hb1⟩
        have q1_1_0 : CellF w1 ⟨w.heap.size, 0, none⟩ (.int .i64 p) := (by refine CellF.keep hb1 ?_; (first | ((repeat (first | with_reducible exact CellF.at_ (by simp) rfl | with_reducible refine CellF.past _ ?_ | with_reducible refine CellF.drew ?_ | with_reducible refine CellF.drewN _ ?_)); done) | (refine ⟨?_, ?_⟩ <;> go_simp)))
        have c1_1_0 := q1_1_0.1
        have q1_1_1 : CellF w1 ⟨w.heap.size, 1, none⟩ (.int .i64 q) := (by refine CellF.keep hb1 ?_; (first | ((repeat (first | with_reducible exact CellF.at_ (by simp) rfl | with_reducible refine CellF.past _ ?_ | with_reducible refine CellF.drew ?_ | with_reducible refine CellF.drewN _ ?_)); done) | (refine ⟨?_, ?_⟩ <;> go_simp)))
        have c1_1_1 := q1_1_1.1
        have z1_1 : w.heap.size < w1.heap.size := ltc c1_1_0
        have q1_2_0 : CellF w1 ⟨(w.heap.size + 1), 0, none⟩ (.int .i64 r) := (by refine CellF.keep hb1 ?_; (first | ((repeat (first | with_reducible exact CellF.at_ (by simp) rfl | with_reducible refine CellF.past _ ?_ | with_reducible refine CellF.drew ?_ | with_reducible refine CellF.drewN _ ?_)); done) | (refine ⟨?_, ?_⟩ <;> go_simp)))
        have c1_2_0 := q1_2_0.1
        have q1_2_1 : CellF w1 ⟨(w.heap.size + 1), 1, none⟩ (.int .i64 s) := (by refine CellF.keep hb1 ?_; (first | ((repeat (first | with_reducible exact CellF.at_ (by simp) rfl | with_reducible refine CellF.past _ ?_ | with_reducible refine CellF.drew ?_ | with_reducible refine CellF.drewN _ ?_)); done) | (refine ⟨?_, ?_⟩ <;> go_simp)))
        have c1_2_1 := q1_2_1.1
        have z1_2 : (w.heap.size + 1) < w1.heap.size := ltc c1_2_0
        go_wp2_with fail
        refine (Gain_is _ _ _ _ hr hs E2 _).mono ?_
        rintro e w2 ⟨rfl, hb2⟩
        have q2_3_0 : CellF w2 ⟨w.heap.size, 0, none⟩ (.int .i64 p) := (by refine CellF.keep hb2 ?_; repeat (first | with_reducible exact q1_1_0 | with_reducible exact CellF.at_ (by simp) rfl | with_reducible refine CellF.past _ ?_ | with_reducible refine CellF.drew ?_ | with_reducible refine CellF.drewN _ ?_))
        have c2_3_0 := q2_3_0.1
        have q2_3_1 : CellF w2 ⟨w.heap.size, 1, none⟩ (.int .i64 q) := (by refine CellF.keep hb2 ?_; repeat (first | with_reducible exact q1_1_1 | with_reducible exact CellF.at_ (by simp) rfl | with_reducible refine CellF.past _ ?_ | with_reducible refine CellF.drew ?_ | with_reducible refine CellF.drewN _ ?_))
        have c2_3_1 := q2_3_1.1
        have z2_3 : w.heap.size < w2.heap.size := ltc c2_3_0
        have q2_4_0 : CellF w2 ⟨(w.heap.size + 1), 0, none⟩ (.int .i64 r) := (by refine CellF.keep hb2 ?_; repeat (first | with_reducible exact q1_2_0 | with_reducible exact CellF.at_ (by simp) rfl | with_reducible refine CellF.past _ ?_ | with_reducible refine CellF.drew ?_ | with_reducible refine CellF.drewN _ ?_))
        have c2_4_0 := q2_4_0.1
        have q2_4_1 : CellF w2 ⟨(w.heap.size + 1), 1, none⟩ (.int .i64 s) := (by refine CellF.keep hb2 ?_; repeat (first | with_reducible exact q1_2_1 | with_reducible exact CellF.at_ (by simp) rfl | with_reducible refine CellF.past _ ?_ | with_reducible refine CellF.drew ?_ | with_reducible refine CellF.drewN _ ?_))
        have c2_4_1 := q2_4_1.1
        have z2_4 : (w.heap.size + 1) < w2.heap.size := ltc c2_4_0
        clear q1_1_0 c1_1_0 q1_1_1 c1_1_1 z1_1 q1_2_0 c1_2_0 q1_2_1 c1_2_1 z1_2
        go_wp2_with fail
        refine (alive_is _).mono ?_
        rintro e w3 ⟨rfl, hb3⟩
        have q3_5_0 : CellF w3 ⟨w.heap.size, 0, none⟩ (.int .i64 p) := (by refine CellF.keep hb3 ?_; repeat (first | with_reducible exact q2_3_0 | with_reducible exact CellF.at_ (by simp) rfl | with_reducible refine CellF.past _ ?_ | with_reducible refine CellF.drew ?_ | with_reducible refine CellF.drewN _ ?_))
        have c3_5_0 := q3_5_0.1
        have q3_5_1 : CellF w3 ⟨w.heap.size, 1, none⟩ (.int .i64 q) := (by refine CellF.keep hb3 ?_; repeat (first | with_reducible exact q2_3_1 | with_reducible exact CellF.at_ (by simp) rfl | with_reducible refine CellF.past _ ?_ | with_reducible refine CellF.drew ?_ | with_reducible refine CellF.drewN _ ?_))
        have c3_5_1 := q3_5_1.1
        have z3_5 : w.heap.size < w3.heap.size := ltc c3_5_0
        have q3_6_0 : CellF w3 ⟨(w.heap.size + 1), 0, none⟩ (.int .i64 r) := (by refine CellF.keep hb3 ?_; repeat (first | with_reducible exact q2_4_0 | with_reducible exact CellF.at_ (by simp) rfl | with_reducible refine CellF.past _ ?_ | with_reducible refine CellF.drew ?_ | with_reducible refine CellF.drewN _ ?_))
        have c3_6_0 := q3_6_0.1
        have q3_6_1 : CellF w3 ⟨(w.heap.size + 1), 1, none⟩ (.int .i64 s) := (by refine CellF.keep hb3 ?_; repeat (first | with_reducible exact q2_4_1 | with_reducible exact CellF.at_ (by simp) rfl | with_reducible refine CellF.past _ ?_ | with_reducible refine CellF.drew ?_ | with_reducible refine CellF.drewN _ ?_))
        have c3_6_1 := q3_6_1.1
        have z3_6 : (w.heap.size + 1) < w3.heap.size := ltc c3_6_0
        clear q2_3_0 c2_3_0 q2_3_1 c2_3_1 z2_3 q2_4_0 c2_4_0 q2_4_1 c2_4_1 z2_4
        all_goals (go_wp2; go_ret; exact ⟨rfl, (by repeat (first | exact brefl _ | refine balloc ?_ _ | refine bdrewN ?_ _ | refine bset ?_ (by dsimp only; omega) _ | refine bstep ?_ (by assumption)))⟩)
      have zsq := Int.not_lt.1 z
      clear z
      by_cases z : q < 0
      ·
        go_enter Try.func6, Try.ntmps6
        go_wp2_with fail
        refine (Gain_is _ _ _ _ hp hq E1 _).mono ?_
        rintro e w1 ⟨rfl, hb1⟩
        have q1_1_0 : CellF w1 ⟨w.heap.size, 0, none⟩ (.int .i64 p) := (by refine CellF.keep hb1 ?_; (first | ((repeat (first | with_reducible exact CellF.at_ (by simp) rfl | with_reducible refine CellF.past _ ?_ | with_reducible refine CellF.drew ?_ | with_reducible refine CellF.drewN _ ?_)); done) | (refine ⟨?_, ?_⟩ <;> go_simp)))
        have c1_1_0 := q1_1_0.1
        have q1_1_1 : CellF w1 ⟨w.heap.size, 1, none⟩ (.int .i64 q) := (by refine CellF.keep hb1 ?_; (first | ((repeat (first | with_reducible exact CellF.at_ (by simp) rfl | with_reducible refine CellF.past _ ?_ | with_reducible refine CellF.drew ?_ | with_reducible refine CellF.drewN _ ?_)); done) | (refine ⟨?_, ?_⟩ <;> go_simp)))
        have c1_1_1 := q1_1_1.1
        have z1_1 : w.heap.size < w1.heap.size := ltc c1_1_0
        have q1_2_0 : CellF w1 ⟨(w.heap.size + 1), 0, none⟩ (.int .i64 r) := (by refine CellF.keep hb1 ?_; (first | ((repeat (first | with_reducible exact CellF.at_ (by simp) rfl | with_reducible refine CellF.past _ ?_ | with_reducible refine CellF.drew ?_ | with_reducible refine CellF.drewN _ ?_)); done) | (refine ⟨?_, ?_⟩ <;> go_simp)))
        have c1_2_0 := q1_2_0.1
        have q1_2_1 : CellF w1 ⟨(w.heap.size + 1), 1, none⟩ (.int .i64 s) := (by refine CellF.keep hb1 ?_; (first | ((repeat (first | with_reducible exact CellF.at_ (by simp) rfl | with_reducible refine CellF.past _ ?_ | with_reducible refine CellF.drew ?_ | with_reducible refine CellF.drewN _ ?_)); done) | (refine ⟨?_, ?_⟩ <;> go_simp)))
        have c1_2_1 := q1_2_1.1
        have z1_2 : (w.heap.size + 1) < w1.heap.size := ltc c1_2_0
        go_wp2_with fail
        refine (Gain_is _ _ _ _ hr hs E2 _).mono ?_
        rintro e w2 ⟨rfl, hb2⟩
        have q2_3_0 : CellF w2 ⟨w.heap.size, 0, none⟩ (.int .i64 p) := (by refine CellF.keep hb2 ?_; repeat (first | with_reducible exact q1_1_0 | with_reducible exact CellF.at_ (by simp) rfl | with_reducible refine CellF.past _ ?_ | with_reducible refine CellF.drew ?_ | with_reducible refine CellF.drewN _ ?_))
        have c2_3_0 := q2_3_0.1
        have q2_3_1 : CellF w2 ⟨w.heap.size, 1, none⟩ (.int .i64 q) := (by refine CellF.keep hb2 ?_; repeat (first | with_reducible exact q1_1_1 | with_reducible exact CellF.at_ (by simp) rfl | with_reducible refine CellF.past _ ?_ | with_reducible refine CellF.drew ?_ | with_reducible refine CellF.drewN _ ?_))
        have c2_3_1 := q2_3_1.1
        have z2_3 : w.heap.size < w2.heap.size := ltc c2_3_0
        have q2_4_0 : CellF w2 ⟨(w.heap.size + 1), 0, none⟩ (.int .i64 r) := (by refine CellF.keep hb2 ?_; repeat (first | with_reducible exact q1_2_0 | with_reducible exact CellF.at_ (by simp) rfl | with_reducible refine CellF.past _ ?_ | with_reducible refine CellF.drew ?_ | with_reducible refine CellF.drewN _ ?_))
        have c2_4_0 := q2_4_0.1
        have q2_4_1 : CellF w2 ⟨(w.heap.size + 1), 1, none⟩ (.int .i64 s) := (by refine CellF.keep hb2 ?_; repeat (first | with_reducible exact q1_2_1 | with_reducible exact CellF.at_ (by simp) rfl | with_reducible refine CellF.past _ ?_ | with_reducible refine CellF.drew ?_ | with_reducible refine CellF.drewN _ ?_))
        have c2_4_1 := q2_4_1.1
        have z2_4 : (w.heap.size + 1) < w2.heap.size := ltc c2_4_0
        clear q1_1_0 c1_1_0 q1_1_1 c1_1_1 z1_1 q1_2_0 c1_2_0 q1_2_1 c1_2_1 z1_2
        go_wp2_with fail
        refine (alive_is _).mono ?_
        rintro e w3 ⟨rfl, hb3⟩
        have q3_5_0 : CellF w3 ⟨w.heap.size, 0, none⟩ (.int .i64 p) := (by refine CellF.keep hb3 ?_; repeat (first | with_reducible exact q2_3_0 | with_reducible exact CellF.at_ (by simp) rfl | with_reducible refine CellF.past _ ?_ | with_reducible refine CellF.drew ?_ | with_reducible refine CellF.drewN _ ?_))
        have c3_5_0 := q3_5_0.1
        have q3_5_1 : CellF w3 ⟨w.heap.size, 1, none⟩ (.int .i64 q) := (by refine CellF.keep hb3 ?_; repeat (first | with_reducible exact q2_3_1 | with_reducible exact CellF.at_ (by simp) rfl | with_reducible refine CellF.past _ ?_ | with_reducible refine CellF.drew ?_ | with_reducible refine CellF.drewN _ ?_))
        have c3_5_1 := q3_5_1.1
        have z3_5 : w.heap.size < w3.heap.size := ltc c3_5_0
        have q3_6_0 : CellF w3 ⟨(w.heap.size + 1), 0, none⟩ (.int .i64 r) := (by refine CellF.keep hb3 ?_; repeat (first | with_reducible exact q2_4_0 | with_reducible exact CellF.at_ (by simp) rfl | with_reducible refine CellF.past _ ?_ | with_reducible refine CellF.drew ?_ | with_reducible refine CellF.drewN _ ?_))
        have c3_6_0 := q3_6_0.1
        have q3_6_1 : CellF w3 ⟨(w.heap.size + 1), 1, none⟩ (.int .i64 s) := (by refine CellF.keep hb3 ?_; repeat (first | with_reducible exact q2_4_1 | with_reducible exact CellF.at_ (by simp) rfl | with_reducible refine CellF.past _ ?_ | with_reducible refine CellF.drew ?_ | with_reducible refine CellF.drewN _ ?_))
        have c3_6_1 := q3_6_1.1
        have z3_6 : (w.heap.size + 1) < w3.heap.size := ltc c3_6_0
        clear q2_3_0 c2_3_0 q2_3_1 c2_3_1 z2_3 q2_4_0 c2_4_0 q2_4_1 c2_4_1 z2_4
        all_goals (go_wp2; go_ret; exact ⟨rfl, (by repeat (first | exact brefl _ | refine balloc ?_ _ | refine bdrewN ?_ _ | refine bset ?_ (by dsimp only; omega) _ | refine bstep ?_ (by assumption)))⟩)
      have zq0 := Int.not_lt.1 z
      clear z
      obtain ⟨l1, l2, l3⟩ := gain_law e1 e2 zrp zsq zq0
      have E3 := Lib.hid l2
      have bm := gain_bd e1
      clear e1 e2 l2
      have hnq : I64 (-q) := by unfold I64 at hq ⊢; omega
      have hq2 := hq
      unfold I64 at hq2
      go_enter Try.func6, Try.ntmps6
      go_wp2_with fail
      refine (Gain_is _ _ _ _ hp hq E1 _).mono ?_
      rintro e w1 ⟨rfl, hb1⟩
      have q1_1_0 : CellF w1 ⟨w.heap.size, 0, none⟩ (.int .i64 p) := (by refine CellF.keep hb1 ?_; (first | ((repeat (first | with_reducible exact CellF.at_ (by simp) rfl | with_reducible refine CellF.past _ ?_ | with_reducible refine CellF.drew ?_ | with_reducible refine CellF.drewN _ ?_)); done) | (refine ⟨?_, ?_⟩ <;> go_simp)))
      have c1_1_0 := q1_1_0.1
      have q1_1_1 : CellF w1 ⟨w.heap.size, 1, none⟩ (.int .i64 q) := (by refine CellF.keep hb1 ?_; (first | ((repeat (first | with_reducible exact CellF.at_ (by simp) rfl | with_reducible refine CellF.past _ ?_ | with_reducible refine CellF.drew ?_ | with_reducible refine CellF.drewN _ ?_)); done) | (refine ⟨?_, ?_⟩ <;> go_simp)))
      have c1_1_1 := q1_1_1.1
      have z1_1 : w.heap.size < w1.heap.size := ltc c1_1_0
      have q1_2_0 : CellF w1 ⟨(w.heap.size + 1), 0, none⟩ (.int .i64 r) := (by refine CellF.keep hb1 ?_; (first | ((repeat (first | with_reducible exact CellF.at_ (by simp) rfl | with_reducible refine CellF.past _ ?_ | with_reducible refine CellF.drew ?_ | with_reducible refine CellF.drewN _ ?_)); done) | (refine ⟨?_, ?_⟩ <;> go_simp)))
      have c1_2_0 := q1_2_0.1
      have q1_2_1 : CellF w1 ⟨(w.heap.size + 1), 1, none⟩ (.int .i64 s) := (by refine CellF.keep hb1 ?_; (first | ((repeat (first | with_reducible exact CellF.at_ (by simp) rfl | with_reducible refine CellF.past _ ?_ | with_reducible refine CellF.drew ?_ | with_reducible refine CellF.drewN _ ?_)); done) | (refine ⟨?_, ?_⟩ <;> go_simp)))
      have c1_2_1 := q1_2_1.1
      have z1_2 : (w.heap.size + 1) < w1.heap.size := ltc c1_2_0
      go_wp2_with fail
      refine (Gain_is _ _ _ _ hr hs E2 _).mono ?_
      rintro e w2 ⟨rfl, hb2⟩
      have q2_3_0 : CellF w2 ⟨w.heap.size, 0, none⟩ (.int .i64 p) := (by refine CellF.keep hb2 ?_; repeat (first | with_reducible exact q1_1_0 | with_reducible exact CellF.at_ (by simp) rfl | with_reducible refine CellF.past _ ?_ | with_reducible refine CellF.drew ?_ | with_reducible refine CellF.drewN _ ?_))
      have c2_3_0 := q2_3_0.1
      have q2_3_1 : CellF w2 ⟨w.heap.size, 1, none⟩ (.int .i64 q) := (by refine CellF.keep hb2 ?_; repeat (first | with_reducible exact q1_1_1 | with_reducible exact CellF.at_ (by simp) rfl | with_reducible refine CellF.past _ ?_ | with_reducible refine CellF.drew ?_ | with_reducible refine CellF.drewN _ ?_))
      have c2_3_1 := q2_3_1.1
      have z2_3 : w.heap.size < w2.heap.size := ltc c2_3_0
      have q2_4_0 : CellF w2 ⟨(w.heap.size + 1), 0, none⟩ (.int .i64 r) := (by refine CellF.keep hb2 ?_; repeat (first | with_reducible exact q1_2_0 | with_reducible exact CellF.at_ (by simp) rfl | with_reducible refine CellF.past _ ?_ | with_reducible refine CellF.drew ?_ | with_reducible refine CellF.drewN _ ?_))
      have c2_4_0 := q2_4_0.1
      have q2_4_1 : CellF w2 ⟨(w.heap.size + 1), 1, none⟩ (.int .i64 s) := (by refine CellF.keep hb2 ?_; repeat (first | with_reducible exact q1_2_1 | with_reducible exact CellF.at_ (by simp) rfl | with_reducible refine CellF.past _ ?_ | with_reducible refine CellF.drew ?_ | with_reducible refine CellF.drewN _ ?_))
      have c2_4_1 := q2_4_1.1
      have z2_4 : (w.heap.size + 1) < w2.heap.size := ltc c2_4_0
      clear q1_1_0 c1_1_0 q1_1_1 c1_1_1 z1_1 q1_2_0 c1_2_0 q1_2_1 c1_2_1 z1_2
      go_wp2_with fail
      refine (Gain_is _ _ _ _ hp hnq E3 _).mono ?_
      rintro e w3 ⟨rfl, hb3⟩
      have q3_5_0 : CellF w3 ⟨w.heap.size, 0, none⟩ (.int .i64 p) := (by refine CellF.keep hb3 ?_; repeat (first | with_reducible exact q2_3_0 | with_reducible exact CellF.at_ (by simp) rfl | with_reducible refine CellF.past _ ?_ | with_reducible refine CellF.drew ?_ | with_reducible refine CellF.drewN _ ?_))
      have c3_5_0 := q3_5_0.1
      have q3_5_1 : CellF w3 ⟨w.heap.size, 1, none⟩ (.int .i64 q) := (by refine CellF.keep hb3 ?_; repeat (first | with_reducible exact q2_3_1 | with_reducible exact CellF.at_ (by simp) rfl | with_reducible refine CellF.past _ ?_ | with_reducible refine CellF.drew ?_ | with_reducible refine CellF.drewN _ ?_))
      have c3_5_1 := q3_5_1.1
      have z3_5 : w.heap.size < w3.heap.size := ltc c3_5_0
      have q3_6_0 : CellF w3 ⟨(w.heap.size + 1), 0, none⟩ (.int .i64 r) := (by refine CellF.keep hb3 ?_; repeat (first | with_reducible exact q2_4_0 | with_reducible exact CellF.at_ (by simp) rfl | with_reducible refine CellF.past _ ?_ | with_reducible refine CellF.drew ?_ | with_reducible refine CellF.drewN _ ?_))
      have c3_6_0 := q3_6_0.1
      have q3_6_1 : CellF w3 ⟨(w.heap.size + 1), 1, none⟩ (.int .i64 s) := (by refine CellF.keep hb3 ?_; repeat (first | with_reducible exact q2_4_1 | with_reducible exact CellF.at_ (by simp) rfl | with_reducible refine CellF.past _ ?_ | with_reducible refine CellF.drew ?_ | with_reducible refine CellF.drewN _ ?_))
      have c3_6_1 := q3_6_1.1
      have z3_6 : (w.heap.size + 1) < w3.heap.size := ltc c3_6_0
      clear q2_3_0 c2_3_0 q2_3_1 c2_3_1 z2_3 q2_4_0 c2_4_0 q2_4_1 c2_4_1 z2_4
      go_wp2_with fail
      refine (alive_is _).mono ?_
      rintro e w4 ⟨rfl, hb4⟩
      have q4_7_0 : CellF w4 ⟨w.heap.size, 0, none⟩ (.int .i64 p) := (by refine CellF.keep hb4 ?_; repeat (first | with_reducible exact q3_5_0 | with_reducible exact CellF.at_ (by simp) rfl | with_reducible refine CellF.past _ ?_ | with_reducible refine CellF.drew ?_ | with_reducible refine CellF.drewN _ ?_))
      have c4_7_0 := q4_7_0.1
      have q4_7_1 : CellF w4 ⟨w.heap.size, 1, none⟩ (.int .i64 q) := (by refine CellF.keep hb4 ?_; repeat (first | with_reducible exact q3_5_1 | with_reducible exact CellF.at_ (by simp) rfl | with_reducible refine CellF.past _ ?_ | with_reducible refine CellF.drew ?_ | with_reducible refine CellF.drewN _ ?_))
      have c4_7_1 := q4_7_1.1
      have z4_7 : w.heap.size < w4.heap.size := ltc c4_7_0
      have q4_8_0 : CellF w4 ⟨(w.heap.size + 1), 0, none⟩ (.int .i64 r) := (by refine CellF.keep hb4 ?_; repeat (first | with_reducible exact q3_6_0 | with_reducible exact CellF.at_ (by simp) rfl | with_reducible refine CellF.past _ ?_ | with_reducible refine CellF.drew ?_ | with_reducible refine CellF.drewN _ ?_))
      have c4_8_0 := q4_8_0.1
      have q4_8_1 : CellF w4 ⟨(w.heap.size + 1), 1, none⟩ (.int .i64 s) := (by refine CellF.keep hb4 ?_; repeat (first | with_reducible exact q3_6_1 | with_reducible exact CellF.at_ (by simp) rfl | with_reducible refine CellF.past _ ?_ | with_reducible refine CellF.drew ?_ | with_reducible refine CellF.drewN _ ?_))
      have c4_8_1 := q4_8_1.1
      have z4_8 : (w.heap.size + 1) < w4.heap.size := ltc c4_8_0
      clear q3_5_0 c3_5_0 q3_5_1 c3_5_1 z3_5 q3_6_0 c3_6_0 q3_6_1 c3_6_1 z3_6
      all_goals (go_wp2; go_ret; exact ⟨rfl, (by repeat (first | exact brefl _ | refine balloc ?_ _ | refine bdrewN ?_ _ | refine bset ?_ (by dsimp only; omega) _ | refine bstep ?_ (by assumption)))⟩)
end Go.Proofs.Ytdkdckfkhhbfnaa
