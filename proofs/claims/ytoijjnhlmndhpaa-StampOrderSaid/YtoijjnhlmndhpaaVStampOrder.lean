/-
  The walk of the law StampOrder.
-/
import Derived.Test.YtoijjnhlmndhpaaAlStamp
import Derived.Test.YtoijjnhlmndhpaaTo
namespace Go.Proofs.Ytoijjnhlmndhpaa
open Go.RowKit

theorem order_law {m n x y x2 y2 : Int} (h : stOf m = (x, y, true)) (h2 : stOf n = (x2, y2, true)) : stLess x y x2 y2 = decide (m < n) ∧ Op.bytesLess (strOfNums (tenL x y)).toList (strOfNums (tenL x2 y2)).toList = decide (m < n) := by
  obtain ⟨a1, _, a2, a3, a4⟩ := of_back h
  obtain ⟨b1, _, b2, b3, b4⟩ := of_back h2
  constructor
  · unfold stLess
    by_cases hl : m < n
    · rw [decide_eq_true hl]
      by_cases h3 : x < x2
      · simp [h3]
      · have e1 : x = x2 := by omega
        have e2 : y < y2 := by omega
        simp [e1, e2]
    · rw [decide_eq_false hl]
      have h3 : ¬ x < x2 := by omega
      by_cases h4 : x = x2
      · have e2 : ¬ y < y2 := by omega
        simp [h4, e2]
      · simp [h3, h4]
  · rw [str_less a1 b1]
    exact decide_eq_decide.2 (by omega)

set_option maxRecDepth 100000 in
set_option maxHeartbeats 4000000 in
theorem StampOrder_walk (m n : Int) (w : World) (hm : I64 m) (hn : I64 n) :
    Calls Try.prog 5 #[.int .i64 m, .int .i64 n] w fun e w' => e = .returned (.bool true) ∧ Below w.heap.size w w' := by
  obtain ⟨x, y, q, e1⟩ : ∃ x y q, stOf m = (x, y, q) := ⟨_, _, _, rfl⟩
  obtain ⟨x2, y2, q2, e2⟩ : ∃ x y q, stOf n = (x, y, q) := ⟨_, _, _, rfl⟩
  have X1 := Lib.hid e1
  have X2 := Lib.hid e2
  clear e1 e2
  go_enter Try.func5, Try.ntmps5
  go_wp2_with fail
  refine (StOf_is _ _ _ _ hm X1 _).mono ?_
  rintro e w1 ⟨rfl, hb1⟩
  go_wp2_with fail
  refine (StOf_is _ _ _ _ hn X2 _).mono ?_
  rintro e w2 ⟨rfl, hb2⟩
  have q2_1_0 : CellF w2 ⟨w1.heap.size, 0, none⟩ (.int .i64 x) := (by refine CellF.keep hb2 ?_; (first | ((repeat (first | ((with_reducible refine CellF.at_ ?_ ?_); (first | (simp; done) | rfl); rfl) | with_reducible refine CellF.past _ ?_ | with_reducible refine CellF.drew ?_ | with_reducible refine CellF.drewN _ ?_)); done) | (refine ⟨?_, ?_⟩ <;> go_simp)))
  have c2_1_0 := q2_1_0.1
  have q2_1_1 : CellF w2 ⟨w1.heap.size, 1, none⟩ (.int .i64 y) := (by refine CellF.keep hb2 ?_; (first | ((repeat (first | ((with_reducible refine CellF.at_ ?_ ?_); (first | (simp; done) | rfl); rfl) | with_reducible refine CellF.past _ ?_ | with_reducible refine CellF.drew ?_ | with_reducible refine CellF.drewN _ ?_)); done) | (refine ⟨?_, ?_⟩ <;> go_simp)))
  have c2_1_1 := q2_1_1.1
  have z2_1 : w1.heap.size < w2.heap.size := ltc c2_1_0
  cases q with
  | false =>
    go_wp2_with fail
    refine (alive_is _).mono ?_
    rintro e w3 ⟨rfl, hb3⟩
    have q3_2_0 : CellF w3 ⟨w1.heap.size, 0, none⟩ (.int .i64 x) := (by refine CellF.keep hb3 ?_; repeat (first | with_reducible exact q2_1_0 | ((with_reducible refine CellF.at_ ?_ ?_); (first | (simp; done) | rfl); rfl) | with_reducible refine CellF.past _ ?_ | with_reducible refine CellF.drew ?_ | with_reducible refine CellF.drewN _ ?_))
    have c3_2_0 := q3_2_0.1
    have q3_2_1 : CellF w3 ⟨w1.heap.size, 1, none⟩ (.int .i64 y) := (by refine CellF.keep hb3 ?_; repeat (first | with_reducible exact q2_1_1 | ((with_reducible refine CellF.at_ ?_ ?_); (first | (simp; done) | rfl); rfl) | with_reducible refine CellF.past _ ?_ | with_reducible refine CellF.drew ?_ | with_reducible refine CellF.drewN _ ?_))
    have c3_2_1 := q3_2_1.1
    have z3_2 : w1.heap.size < w3.heap.size := ltc c3_2_0
    have q3_3_0 : CellF w3 ⟨w2.heap.size, 0, none⟩ (.int .i64 x2) := (by refine CellF.keep hb3 ?_; (first | ((repeat (first | ((with_reducible refine CellF.at_ ?_ ?_); (first | (simp; done) | rfl); rfl) | with_reducible refine CellF.past _ ?_ | with_reducible refine CellF.drew ?_ | with_reducible refine CellF.drewN _ ?_)); done) | (refine ⟨?_, ?_⟩ <;> go_simp)))
    have c3_3_0 := q3_3_0.1
    have q3_3_1 : CellF w3 ⟨w2.heap.size, 1, none⟩ (.int .i64 y2) := (by refine CellF.keep hb3 ?_; (first | ((repeat (first | ((with_reducible refine CellF.at_ ?_ ?_); (first | (simp; done) | rfl); rfl) | with_reducible refine CellF.past _ ?_ | with_reducible refine CellF.drew ?_ | with_reducible refine CellF.drewN _ ?_)); done) | (refine ⟨?_, ?_⟩ <;> go_simp)))
    have c3_3_1 := q3_3_1.1
    have z3_3 : w2.heap.size < w3.heap.size := ltc c3_3_0
    clear q2_1_0 c2_1_0 q2_1_1 c2_1_1 z2_1
    all_goals (go_wp2; go_ret; exact ⟨rfl, (by repeat (first | exact brefl _ | refine balloc ?_ _ | refine bdrewN ?_ _ | refine bset ?_ (by dsimp only; omega) _ | refine bstep ?_ (by assumption)))⟩)
  | true =>
    cases q2 with
    | false =>
      go_wp2_with fail
      refine (alive_is _).mono ?_
      rintro e w3 ⟨rfl, hb3⟩
      have q3_2_0 : CellF w3 ⟨w1.heap.size, 0, none⟩ (.int .i64 x) := (by refine CellF.keep hb3 ?_; repeat (first | with_reducible exact q2_1_0 | ((with_reducible refine CellF.at_ ?_ ?_); (first | (simp; done) | rfl); rfl) | with_reducible refine CellF.past _ ?_ | with_reducible refine CellF.drew ?_ | with_reducible refine CellF.drewN _ ?_))
      have c3_2_0 := q3_2_0.1
      have q3_2_1 : CellF w3 ⟨w1.heap.size, 1, none⟩ (.int .i64 y) := (by refine CellF.keep hb3 ?_; repeat (first | with_reducible exact q2_1_1 | ((with_reducible refine CellF.at_ ?_ ?_); (first | (simp; done) | rfl); rfl) | with_reducible refine CellF.past _ ?_ | with_reducible refine CellF.drew ?_ | with_reducible refine CellF.drewN _ ?_))
      have c3_2_1 := q3_2_1.1
      have z3_2 : w1.heap.size < w3.heap.size := ltc c3_2_0
      have q3_3_0 : CellF w3 ⟨w2.heap.size, 0, none⟩ (.int .i64 x2) := (by refine CellF.keep hb3 ?_; (first | ((repeat (first | ((with_reducible refine CellF.at_ ?_ ?_); (first | (simp; done) | rfl); rfl) | with_reducible refine CellF.past _ ?_ | with_reducible refine CellF.drew ?_ | with_reducible refine CellF.drewN _ ?_)); done) | (refine ⟨?_, ?_⟩ <;> go_simp)))
      have c3_3_0 := q3_3_0.1
      have q3_3_1 : CellF w3 ⟨w2.heap.size, 1, none⟩ (.int .i64 y2) := (by refine CellF.keep hb3 ?_; (first | ((repeat (first | ((with_reducible refine CellF.at_ ?_ ?_); (first | (simp; done) | rfl); rfl) | with_reducible refine CellF.past _ ?_ | with_reducible refine CellF.drew ?_ | with_reducible refine CellF.drewN _ ?_)); done) | (refine ⟨?_, ?_⟩ <;> go_simp)))
      have c3_3_1 := q3_3_1.1
      have z3_3 : w2.heap.size < w3.heap.size := ltc c3_3_0
      clear q2_1_0 c2_1_0 q2_1_1 c2_1_1 z2_1
      all_goals (go_wp2; go_ret; exact ⟨rfl, (by repeat (first | exact brefl _ | refine balloc ?_ _ | refine bdrewN ?_ _ | refine bset ?_ (by dsimp only; omega) _ | refine bstep ?_ (by assumption)))⟩)
    | true =>
      have hol := order_law X1.out X2.out
      have Y1 := Lib.hid (of_back X1.out).1
      have Y2 := Lib.hid (of_back X2.out).1
      go_wp2_with fail
      refine (Put_ten x y Y1 _).mono ?_
      rintro e w3 ⟨b1, rfl, hb3, hbb1, hp1⟩
      have q3_2_0 : CellF w3 ⟨w1.heap.size, 0, none⟩ (.int .i64 x) := (by refine CellF.keep hb3 ?_; repeat (first | with_reducible exact q2_1_0 | ((with_reducible refine CellF.at_ ?_ ?_); (first | (simp; done) | rfl); rfl) | with_reducible refine CellF.past _ ?_ | with_reducible refine CellF.drew ?_ | with_reducible refine CellF.drewN _ ?_))
      have c3_2_0 := q3_2_0.1
      have q3_2_1 : CellF w3 ⟨w1.heap.size, 1, none⟩ (.int .i64 y) := (by refine CellF.keep hb3 ?_; repeat (first | with_reducible exact q2_1_1 | ((with_reducible refine CellF.at_ ?_ ?_); (first | (simp; done) | rfl); rfl) | with_reducible refine CellF.past _ ?_ | with_reducible refine CellF.drew ?_ | with_reducible refine CellF.drewN _ ?_))
      have c3_2_1 := q3_2_1.1
      have z3_2 : w1.heap.size < w3.heap.size := ltc c3_2_0
      have q3_3_0 : CellF w3 ⟨w2.heap.size, 0, none⟩ (.int .i64 x2) := (by refine CellF.keep hb3 ?_; (first | ((repeat (first | ((with_reducible refine CellF.at_ ?_ ?_); (first | (simp; done) | rfl); rfl) | with_reducible refine CellF.past _ ?_ | with_reducible refine CellF.drew ?_ | with_reducible refine CellF.drewN _ ?_)); done) | (refine ⟨?_, ?_⟩ <;> go_simp)))
      have c3_3_0 := q3_3_0.1
      have q3_3_1 : CellF w3 ⟨w2.heap.size, 1, none⟩ (.int .i64 y2) := (by refine CellF.keep hb3 ?_; (first | ((repeat (first | ((with_reducible refine CellF.at_ ?_ ?_); (first | (simp; done) | rfl); rfl) | with_reducible refine CellF.past _ ?_ | with_reducible refine CellF.drew ?_ | with_reducible refine CellF.drewN _ ?_)); done) | (refine ⟨?_, ?_⟩ <;> go_simp)))
      have c3_3_1 := q3_3_1.1
      have z3_3 : w2.heap.size < w3.heap.size := ltc c3_3_0
      clear q2_1_0 c2_1_0 q2_1_1 c2_1_1 z2_1
      go_wp2_with fail
      refine (Put_ten x2 y2 Y2 _).mono ?_
      rintro e w4 ⟨b2, rfl, hb4, hbb2, hp2⟩
      have q4_4_0 : CellF w4 ⟨w1.heap.size, 0, none⟩ (.int .i64 x) := (by refine CellF.keep hb4 ?_; repeat (first | with_reducible exact q3_2_0 | ((with_reducible refine CellF.at_ ?_ ?_); (first | (simp; done) | rfl); rfl) | with_reducible refine CellF.past _ ?_ | with_reducible refine CellF.drew ?_ | with_reducible refine CellF.drewN _ ?_))
      have c4_4_0 := q4_4_0.1
      have q4_4_1 : CellF w4 ⟨w1.heap.size, 1, none⟩ (.int .i64 y) := (by refine CellF.keep hb4 ?_; repeat (first | with_reducible exact q3_2_1 | ((with_reducible refine CellF.at_ ?_ ?_); (first | (simp; done) | rfl); rfl) | with_reducible refine CellF.past _ ?_ | with_reducible refine CellF.drew ?_ | with_reducible refine CellF.drewN _ ?_))
      have c4_4_1 := q4_4_1.1
      have z4_4 : w1.heap.size < w4.heap.size := ltc c4_4_0
      have q4_5_0 : CellF w4 ⟨w2.heap.size, 0, none⟩ (.int .i64 x2) := (by refine CellF.keep hb4 ?_; repeat (first | with_reducible exact q3_3_0 | ((with_reducible refine CellF.at_ ?_ ?_); (first | (simp; done) | rfl); rfl) | with_reducible refine CellF.past _ ?_ | with_reducible refine CellF.drew ?_ | with_reducible refine CellF.drewN _ ?_))
      have c4_5_0 := q4_5_0.1
      have q4_5_1 : CellF w4 ⟨w2.heap.size, 1, none⟩ (.int .i64 y2) := (by refine CellF.keep hb4 ?_; repeat (first | with_reducible exact q3_3_1 | ((with_reducible refine CellF.at_ ?_ ?_); (first | (simp; done) | rfl); rfl) | with_reducible refine CellF.past _ ?_ | with_reducible refine CellF.drew ?_ | with_reducible refine CellF.drewN _ ?_))
      have c4_5_1 := q4_5_1.1
      have z4_5 : w2.heap.size < w4.heap.size := ltc c4_5_0
      clear q3_2_0 c3_2_0 q3_2_1 c3_2_1 z3_2 q3_3_0 c3_3_0 q3_3_1 c3_3_1 z3_3
      have hp1_4 := fun (i : Nat) (hi : i < 10) => CellF.keep hb4 (hp1 i hi)
      have hp2_4 := hp2
      clear hp1 hp2
      have HP1 := Lib.hid hp1_4
      have HP2 := Lib.hid hp2_4
      clear hp1_4 hp2_4
      go_wp2_with fail
      refine (alive_is _).mono ?_
      rintro e w5 ⟨rfl, hb5⟩
      have q5_6_0 : CellF w5 ⟨w1.heap.size, 0, none⟩ (.int .i64 x) := (by refine CellF.keep hb5 ?_; repeat (first | with_reducible exact q4_4_0 | ((with_reducible refine CellF.at_ ?_ ?_); (first | (simp; done) | rfl); rfl) | with_reducible refine CellF.past _ ?_ | with_reducible refine CellF.drew ?_ | with_reducible refine CellF.drewN _ ?_))
      have c5_6_0 := q5_6_0.1
      have q5_6_1 : CellF w5 ⟨w1.heap.size, 1, none⟩ (.int .i64 y) := (by refine CellF.keep hb5 ?_; repeat (first | with_reducible exact q4_4_1 | ((with_reducible refine CellF.at_ ?_ ?_); (first | (simp; done) | rfl); rfl) | with_reducible refine CellF.past _ ?_ | with_reducible refine CellF.drew ?_ | with_reducible refine CellF.drewN _ ?_))
      have c5_6_1 := q5_6_1.1
      have z5_6 : w1.heap.size < w5.heap.size := ltc c5_6_0
      have q5_7_0 : CellF w5 ⟨w2.heap.size, 0, none⟩ (.int .i64 x2) := (by refine CellF.keep hb5 ?_; repeat (first | with_reducible exact q4_5_0 | ((with_reducible refine CellF.at_ ?_ ?_); (first | (simp; done) | rfl); rfl) | with_reducible refine CellF.past _ ?_ | with_reducible refine CellF.drew ?_ | with_reducible refine CellF.drewN _ ?_))
      have c5_7_0 := q5_7_0.1
      have q5_7_1 : CellF w5 ⟨w2.heap.size, 1, none⟩ (.int .i64 y2) := (by refine CellF.keep hb5 ?_; repeat (first | with_reducible exact q4_5_1 | ((with_reducible refine CellF.at_ ?_ ?_); (first | (simp; done) | rfl); rfl) | with_reducible refine CellF.past _ ?_ | with_reducible refine CellF.drew ?_ | with_reducible refine CellF.drewN _ ?_))
      have c5_7_1 := q5_7_1.1
      have z5_7 : w2.heap.size < w5.heap.size := ltc c5_7_0
      clear q4_4_0 c4_4_0 q4_4_1 c4_4_1 z4_4 q4_5_0 c4_5_0 q4_5_1 c4_5_1 z4_5
      by_cases hmn : m < n
      ·
        have hol1 := hol.1
        have hol2 := hol.2
        rw [decide_eq_true hmn] at hol1 hol2
        have Z := Lib.hid hol1
        obtain ⟨S1, hS1⟩ : ∃ S, strOfNums (tenL x y) = S := ⟨_, rfl⟩
        obtain ⟨S2, hS2⟩ : ∃ S, strOfNums (tenL x2 y2) = S := ⟨_, rfl⟩
        rw [hS1, hS2] at hol2
        clear hol hol1
        go_wp2_with fail
        refine (Less_is _ _ _ _ _ Z _).mono ?_
        rintro e w6 ⟨rfl, hb6⟩
        have q6_8_0 : CellF w6 ⟨w1.heap.size, 0, none⟩ (.int .i64 x) := (by refine CellF.keep hb6 ?_; repeat (first | with_reducible exact q5_6_0 | ((with_reducible refine CellF.at_ ?_ ?_); (first | (simp; done) | rfl); rfl) | with_reducible refine CellF.past _ ?_ | with_reducible refine CellF.drew ?_ | with_reducible refine CellF.drewN _ ?_))
        have c6_8_0 := q6_8_0.1
        have q6_8_1 : CellF w6 ⟨w1.heap.size, 1, none⟩ (.int .i64 y) := (by refine CellF.keep hb6 ?_; repeat (first | with_reducible exact q5_6_1 | ((with_reducible refine CellF.at_ ?_ ?_); (first | (simp; done) | rfl); rfl) | with_reducible refine CellF.past _ ?_ | with_reducible refine CellF.drew ?_ | with_reducible refine CellF.drewN _ ?_))
        have c6_8_1 := q6_8_1.1
        have z6_8 : w1.heap.size < w6.heap.size := ltc c6_8_0
        have q6_9_0 : CellF w6 ⟨w2.heap.size, 0, none⟩ (.int .i64 x2) := (by refine CellF.keep hb6 ?_; repeat (first | with_reducible exact q5_7_0 | ((with_reducible refine CellF.at_ ?_ ?_); (first | (simp; done) | rfl); rfl) | with_reducible refine CellF.past _ ?_ | with_reducible refine CellF.drew ?_ | with_reducible refine CellF.drewN _ ?_))
        have c6_9_0 := q6_9_0.1
        have q6_9_1 : CellF w6 ⟨w2.heap.size, 1, none⟩ (.int .i64 y2) := (by refine CellF.keep hb6 ?_; repeat (first | with_reducible exact q5_7_1 | ((with_reducible refine CellF.at_ ?_ ?_); (first | (simp; done) | rfl); rfl) | with_reducible refine CellF.past _ ?_ | with_reducible refine CellF.drew ?_ | with_reducible refine CellF.drewN _ ?_))
        have c6_9_1 := q6_9_1.1
        have z6_9 : w2.heap.size < w6.heap.size := ltc c6_9_0
        clear q5_6_0 c5_6_0 q5_6_1 c5_6_1 z5_6 q5_7_0 c5_7_0 q5_7_1 c5_7_1 z5_7
        have hc1 := conv_ten (s := x) (n := y) (b := b1) (w := w6) (src := 39) (dst := 9) (e := 5) (by kernel_rfl) (by kernel_rfl) (by kernel_rfl) (fun i hi => (CellF.keep hb6 (CellF.keep hb5 (HP1.out i hi))).1)
        have hc2 := conv_ten (s := x2) (n := y2) (b := b2) (w := w6) (src := 39) (dst := 9) (e := 5) (by kernel_rfl) (by kernel_rfl) (by kernel_rfl) (fun i hi => (CellF.keep hb6 (CellF.keep hb5 (HP2.out i hi))).1)
        rw [hS1] at hc1
        rw [hS2] at hc2
        clear hS1 hS2
        go_wp2
        go_ret
        exact ⟨by first | rfl | (simp; omega), (by repeat (first | exact brefl _ | refine balloc ?_ _ | refine bdrewN ?_ _ | refine bset ?_ (by dsimp only; omega) _ | refine bstep ?_ (by assumption)))⟩
      ·
        have hol1 := hol.1
        have hol2 := hol.2
        rw [decide_eq_false hmn] at hol1 hol2
        have Z := Lib.hid hol1
        obtain ⟨S1, hS1⟩ : ∃ S, strOfNums (tenL x y) = S := ⟨_, rfl⟩
        obtain ⟨S2, hS2⟩ : ∃ S, strOfNums (tenL x2 y2) = S := ⟨_, rfl⟩
        rw [hS1, hS2] at hol2
        clear hol hol1
        go_wp2_with fail
        refine (Less_is _ _ _ _ _ Z _).mono ?_
        rintro e w6 ⟨rfl, hb6⟩
        have q6_8_0 : CellF w6 ⟨w1.heap.size, 0, none⟩ (.int .i64 x) := (by refine CellF.keep hb6 ?_; repeat (first | with_reducible exact q5_6_0 | ((with_reducible refine CellF.at_ ?_ ?_); (first | (simp; done) | rfl); rfl) | with_reducible refine CellF.past _ ?_ | with_reducible refine CellF.drew ?_ | with_reducible refine CellF.drewN _ ?_))
        have c6_8_0 := q6_8_0.1
        have q6_8_1 : CellF w6 ⟨w1.heap.size, 1, none⟩ (.int .i64 y) := (by refine CellF.keep hb6 ?_; repeat (first | with_reducible exact q5_6_1 | ((with_reducible refine CellF.at_ ?_ ?_); (first | (simp; done) | rfl); rfl) | with_reducible refine CellF.past _ ?_ | with_reducible refine CellF.drew ?_ | with_reducible refine CellF.drewN _ ?_))
        have c6_8_1 := q6_8_1.1
        have z6_8 : w1.heap.size < w6.heap.size := ltc c6_8_0
        have q6_9_0 : CellF w6 ⟨w2.heap.size, 0, none⟩ (.int .i64 x2) := (by refine CellF.keep hb6 ?_; repeat (first | with_reducible exact q5_7_0 | ((with_reducible refine CellF.at_ ?_ ?_); (first | (simp; done) | rfl); rfl) | with_reducible refine CellF.past _ ?_ | with_reducible refine CellF.drew ?_ | with_reducible refine CellF.drewN _ ?_))
        have c6_9_0 := q6_9_0.1
        have q6_9_1 : CellF w6 ⟨w2.heap.size, 1, none⟩ (.int .i64 y2) := (by refine CellF.keep hb6 ?_; repeat (first | with_reducible exact q5_7_1 | ((with_reducible refine CellF.at_ ?_ ?_); (first | (simp; done) | rfl); rfl) | with_reducible refine CellF.past _ ?_ | with_reducible refine CellF.drew ?_ | with_reducible refine CellF.drewN _ ?_))
        have c6_9_1 := q6_9_1.1
        have z6_9 : w2.heap.size < w6.heap.size := ltc c6_9_0
        clear q5_6_0 c5_6_0 q5_6_1 c5_6_1 z5_6 q5_7_0 c5_7_0 q5_7_1 c5_7_1 z5_7
        have hc1 := conv_ten (s := x) (n := y) (b := b1) (w := w6) (src := 39) (dst := 9) (e := 5) (by kernel_rfl) (by kernel_rfl) (by kernel_rfl) (fun i hi => (CellF.keep hb6 (CellF.keep hb5 (HP1.out i hi))).1)
        have hc2 := conv_ten (s := x2) (n := y2) (b := b2) (w := w6) (src := 39) (dst := 9) (e := 5) (by kernel_rfl) (by kernel_rfl) (by kernel_rfl) (fun i hi => (CellF.keep hb6 (CellF.keep hb5 (HP2.out i hi))).1)
        rw [hS1] at hc1
        rw [hS2] at hc2
        clear hS1 hS2
        go_wp2
        go_ret
        exact ⟨by first | rfl | (simp; omega), (by repeat (first | exact brefl _ | refine balloc ?_ _ | refine bdrewN ?_ _ | refine bset ?_ (by dsimp only; omega) _ | refine bstep ?_ (by assumption)))⟩
end Go.Proofs.Ytoijjnhlmndhpaa
