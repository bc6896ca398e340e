/-
  The document's spans: Hull.
  The document's spans: Sub.
  The document's spans: Width.
-/
import Derived.Test.YtnphbdhcoiaklaaZGF
import Derived.Test.YtnphbdhcoiaklaaZGR
namespace Go.Proofs.Ytnphbdhcoiaklaa
open Go.RowKit

end Go.Proofs.Ytnphbdhcoiaklaa
namespace Go.Proofs.Ytnphbdhcoiaklaa
open Go.RowKit

set_option maxRecDepth 100000 in
set_option maxHeartbeats 4000000 in
theorem r3Sub_is (lo hi : Int) (k : Bool) (lo2 hi2 : Int) (k2 : Bool) (x y : Int) (z : Bool) (H : Hid (spSub ⟨lo, hi, k⟩ ⟨lo2, hi2, k2⟩ = ⟨x, y, z⟩)) (w : World) :
    Calls Try.prog 42 #[.agg #[.int .i64 lo, .int .i64 hi, .bool k], .agg #[.int .i64 lo2, .int .i64 hi2, .bool k2]] w fun e w' => e = .returned (.agg #[.int .i64 x, .int .i64 y, .bool z]) ∧ Below w.heap.size w w' := by
  have hx := H.out
  rw [← r3_sub] at hx
  obtain ⟨⟨a, b, c⟩, h1⟩ : ∃ s, spTold ⟨lo, hi, k⟩ = s := ⟨_, rfl⟩
  obtain ⟨⟨d, e', f⟩, h2⟩ : ∃ s, spTold ⟨lo2, hi2, k2⟩ = s := ⟨_, rfl⟩
  rw [h1, h2] at hx
  dsimp only at hx
  obtain ⟨l, i, h3⟩ : ∃ l i, subP a e' = (l, i) := ⟨_, _, rfl⟩
  obtain ⟨h, j, h4⟩ : ∃ l i, subP b d = (l, i) := ⟨_, _, rfl⟩
  rw [h3, h4] at hx
  dsimp only at hx
  have H1 := Lib.hid h1
  have H2 := Lib.hid h2
  have H3 := Lib.hid h3
  have H4 := Lib.hid h4
  clear H h1 h2 h3 h4
  go_enter Try.func42, Try.ntmps42
  go_wp2_with fail
  refine (r3Told_is _ _ _ _ _ _ H1 _).mono ?_
  rintro e w1 ⟨rfl, hb1⟩
  have q1_1_0 : CellF w1 ⟨w.heap.size, 0, none⟩ (.int .i64 lo) := CellF.keep hb1 (CellF.past _ (CellF.past _ (CellF.at_ rfl rfl)))
  have c1_1_0 := q1_1_0.1
  have g1_1_0 := q1_1_0.2
  have q1_1_1 : CellF w1 ⟨w.heap.size, 1, none⟩ (.int .i64 hi) := CellF.keep hb1 (CellF.past _ (CellF.past _ (CellF.at_ rfl rfl)))
  have c1_1_1 := q1_1_1.1
  have g1_1_1 := q1_1_1.2
  have q1_1_2 : CellF w1 ⟨w.heap.size, 2, none⟩ (.bool k) := CellF.keep hb1 (CellF.past _ (CellF.past _ (CellF.at_ rfl rfl)))
  have c1_1_2 := q1_1_2.1
  have g1_1_2 := q1_1_2.2
  have z1_1 : w.heap.size < w1.heap.size := ltc c1_1_0
  have q1_2_0 : CellF w1 ⟨(w.heap.size + 1), 0, none⟩ (.int .i64 lo2) := CellF.keep hb1 (CellF.past _ (CellF.at_ (by simp) rfl))
  have c1_2_0 := q1_2_0.1
  have g1_2_0 := q1_2_0.2
  have q1_2_1 : CellF w1 ⟨(w.heap.size + 1), 1, none⟩ (.int .i64 hi2) := CellF.keep hb1 (CellF.past _ (CellF.at_ (by simp) rfl))
  have c1_2_1 := q1_2_1.1
  have g1_2_1 := q1_2_1.2
  have q1_2_2 : CellF w1 ⟨(w.heap.size + 1), 2, none⟩ (.bool k2) := CellF.keep hb1 (CellF.past _ (CellF.at_ (by simp) rfl))
  have c1_2_2 := q1_2_2.1
  have g1_2_2 := q1_2_2.2
  have z1_2 : (w.heap.size + 1) < w1.heap.size := ltc c1_2_0
  have q1_3_0 : CellF w1 ⟨(w.heap.size + 1 + 1), 0, none⟩ (.int .i64 0) := CellF.keep hb1 (CellF.at_ (by simp) rfl)
  have c1_3_0 := q1_3_0.1
  have g1_3_0 := q1_3_0.2
  have q1_3_1 : CellF w1 ⟨(w.heap.size + 1 + 1), 1, none⟩ (.int .i64 0) := CellF.keep hb1 (CellF.at_ (by simp) rfl)
  have c1_3_1 := q1_3_1.1
  have g1_3_1 := q1_3_1.2
  have q1_3_2 : CellF w1 ⟨(w.heap.size + 1 + 1), 2, none⟩ (.bool false) := CellF.keep hb1 (CellF.at_ (by simp) rfl)
  have c1_3_2 := q1_3_2.1
  have g1_3_2 := q1_3_2.2
  have z1_3 : (w.heap.size + 1 + 1) < w1.heap.size := ltc c1_3_0
  go_wp2_with fail
  refine (r3Told_is _ _ _ _ _ _ H2 _).mono ?_
  rintro e w2 ⟨rfl, hb2⟩
  have q2_4_0 : CellF w2 ⟨w.heap.size, 0, none⟩ (.int .i64 a) := CellF.keep hb2 ((span_sets (show SpanAt _ w.heap.size _ _ _ from ⟨q1_1_0, q1_1_1, q1_1_2⟩)).1.1)
  have c2_4_0 := q2_4_0.1
  have g2_4_0 := q2_4_0.2
  have q2_4_1 : CellF w2 ⟨w.heap.size, 1, none⟩ (.int .i64 b) := CellF.keep hb2 ((span_sets (show SpanAt _ w.heap.size _ _ _ from ⟨q1_1_0, q1_1_1, q1_1_2⟩)).1.2.1)
  have c2_4_1 := q2_4_1.1
  have g2_4_1 := q2_4_1.2
  have q2_4_2 : CellF w2 ⟨w.heap.size, 2, none⟩ (.bool c) := CellF.keep hb2 ((span_sets (show SpanAt _ w.heap.size _ _ _ from ⟨q1_1_0, q1_1_1, q1_1_2⟩)).1.2.2)
  have c2_4_2 := q2_4_2.1
  have g2_4_2 := q2_4_2.2
  have z2_4 : w.heap.size < w2.heap.size := ltc c2_4_0
  have q2_5_0 : CellF w2 ⟨(w.heap.size + 1), 0, none⟩ (.int .i64 lo2) := CellF.keep hb2 (CellF.set_other' _ (by intro e; injection e with e1 e2; omega) (CellF.set_other' _ (by intro e; injection e with e1 e2; omega) (CellF.set_other' _ (by intro e; injection e with e1 e2; omega) q1_2_0)))
  have c2_5_0 := q2_5_0.1
  have g2_5_0 := q2_5_0.2
  have q2_5_1 : CellF w2 ⟨(w.heap.size + 1), 1, none⟩ (.int .i64 hi2) := CellF.keep hb2 (CellF.set_other' _ (by intro e; injection e with e1 e2; omega) (CellF.set_other' _ (by intro e; injection e with e1 e2; omega) (CellF.set_other' _ (by intro e; injection e with e1 e2; omega) q1_2_1)))
  have c2_5_1 := q2_5_1.1
  have g2_5_1 := q2_5_1.2
  have q2_5_2 : CellF w2 ⟨(w.heap.size + 1), 2, none⟩ (.bool k2) := CellF.keep hb2 (CellF.set_other' _ (by intro e; injection e with e1 e2; omega) (CellF.set_other' _ (by intro e; injection e with e1 e2; omega) (CellF.set_other' _ (by intro e; injection e with e1 e2; omega) q1_2_2)))
  have c2_5_2 := q2_5_2.1
  have g2_5_2 := q2_5_2.2
  have z2_5 : (w.heap.size + 1) < w2.heap.size := ltc c2_5_0
  have q2_6_0 : CellF w2 ⟨(w.heap.size + 1 + 1), 0, none⟩ (.int .i64 0) := CellF.keep hb2 (CellF.set_other' _ (by intro e; injection e with e1 e2; omega) (CellF.set_other' _ (by intro e; injection e with e1 e2; omega) (CellF.set_other' _ (by intro e; injection e with e1 e2; omega) q1_3_0)))
  have c2_6_0 := q2_6_0.1
  have g2_6_0 := q2_6_0.2
  have q2_6_1 : CellF w2 ⟨(w.heap.size + 1 + 1), 1, none⟩ (.int .i64 0) := CellF.keep hb2 (CellF.set_other' _ (by intro e; injection e with e1 e2; omega) (CellF.set_other' _ (by intro e; injection e with e1 e2; omega) (CellF.set_other' _ (by intro e; injection e with e1 e2; omega) q1_3_1)))
  have c2_6_1 := q2_6_1.1
  have g2_6_1 := q2_6_1.2
  have q2_6_2 : CellF w2 ⟨(w.heap.size + 1 + 1), 2, none⟩ (.bool false) := CellF.keep hb2 (CellF.set_other' _ (by intro e; injection e with e1 e2; omega) (CellF.set_other' _ (by intro e; injection e with e1 e2; omega) (CellF.set_other' _ (by intro e; injection e with e1 e2; omega) q1_3_2)))
  have c2_6_2 := q2_6_2.1
  have g2_6_2 := q2_6_2.2
  have z2_6 : (w.heap.size + 1 + 1) < w2.heap.size := ltc c2_6_0
  clear q1_1_0 c1_1_0 g1_1_0 q1_1_1 c1_1_1 g1_1_1 q1_1_2 c1_1_2 g1_1_2 z1_1 q1_2_0 c1_2_0 g1_2_0 q1_2_1 c1_2_1 g1_2_1 q1_2_2 c1_2_2 g1_2_2 z1_2 q1_3_0 c1_3_0 g1_3_0 q1_3_1 c1_3_1 g1_3_1 q1_3_2 c1_3_2 g1_3_2 z1_3
  go_wp2_with fail
  refine (rSub_is _ _ _ _ H3 _).mono ?_
  rintro e w3 ⟨rfl, hb3⟩
  have q3_7_0 : CellF w3 ⟨w.heap.size, 0, none⟩ (.int .i64 a) := CellF.keep hb3 (CellF.set_other' _ (by intro e; injection e with e1 e2; omega) (CellF.set_other' _ (by intro e; injection e with e1 e2; omega) (CellF.set_other' _ (by intro e; injection e with e1 e2; omega) q2_4_0)))
  have c3_7_0 := q3_7_0.1
  have g3_7_0 := q3_7_0.2
  have q3_7_1 : CellF w3 ⟨w.heap.size, 1, none⟩ (.int .i64 b) := CellF.keep hb3 (CellF.set_other' _ (by intro e; injection e with e1 e2; omega) (CellF.set_other' _ (by intro e; injection e with e1 e2; omega) (CellF.set_other' _ (by intro e; injection e with e1 e2; omega) q2_4_1)))
  have c3_7_1 := q3_7_1.1
  have g3_7_1 := q3_7_1.2
  have q3_7_2 : CellF w3 ⟨w.heap.size, 2, none⟩ (.bool c) := CellF.keep hb3 (CellF.set_other' _ (by intro e; injection e with e1 e2; omega) (CellF.set_other' _ (by intro e; injection e with e1 e2; omega) (CellF.set_other' _ (by intro e; injection e with e1 e2; omega) q2_4_2)))
  have c3_7_2 := q3_7_2.1
  have g3_7_2 := q3_7_2.2
  have z3_7 : w.heap.size < w3.heap.size := ltc c3_7_0
  have q3_8_0 : CellF w3 ⟨(w.heap.size + 1), 0, none⟩ (.int .i64 d) := CellF.keep hb3 ((span_sets (show SpanAt _ (w.heap.size + 1) _ _ _ from ⟨q2_5_0, q2_5_1, q2_5_2⟩)).1.1)
  have c3_8_0 := q3_8_0.1
  have g3_8_0 := q3_8_0.2
  have q3_8_1 : CellF w3 ⟨(w.heap.size + 1), 1, none⟩ (.int .i64 e') := CellF.keep hb3 ((span_sets (show SpanAt _ (w.heap.size + 1) _ _ _ from ⟨q2_5_0, q2_5_1, q2_5_2⟩)).1.2.1)
  have c3_8_1 := q3_8_1.1
  have g3_8_1 := q3_8_1.2
  have q3_8_2 : CellF w3 ⟨(w.heap.size + 1), 2, none⟩ (.bool f) := CellF.keep hb3 ((span_sets (show SpanAt _ (w.heap.size + 1) _ _ _ from ⟨q2_5_0, q2_5_1, q2_5_2⟩)).1.2.2)
  have c3_8_2 := q3_8_2.1
  have g3_8_2 := q3_8_2.2
  have z3_8 : (w.heap.size + 1) < w3.heap.size := ltc c3_8_0
  have q3_9_0 : CellF w3 ⟨(w.heap.size + 1 + 1), 0, none⟩ (.int .i64 0) := CellF.keep hb3 (CellF.set_other' _ (by intro e; injection e with e1 e2; omega) (CellF.set_other' _ (by intro e; injection e with e1 e2; omega) (CellF.set_other' _ (by intro e; injection e with e1 e2; omega) q2_6_0)))
  have c3_9_0 := q3_9_0.1
  have g3_9_0 := q3_9_0.2
  have q3_9_1 : CellF w3 ⟨(w.heap.size + 1 + 1), 1, none⟩ (.int .i64 0) := CellF.keep hb3 (CellF.set_other' _ (by intro e; injection e with e1 e2; omega) (CellF.set_other' _ (by intro e; injection e with e1 e2; omega) (CellF.set_other' _ (by intro e; injection e with e1 e2; omega) q2_6_1)))
  have c3_9_1 := q3_9_1.1
  have g3_9_1 := q3_9_1.2
  have q3_9_2 : CellF w3 ⟨(w.heap.size + 1 + 1), 2, none⟩ (.bool false) := CellF.keep hb3 (CellF.set_other' _ (by intro e; injection e with e1 e2; omega) (CellF.set_other' _ (by intro e; injection e with e1 e2; omega) (CellF.set_other' _ (by intro e; injection e with e1 e2; omega) q2_6_2)))
  have c3_9_2 := q3_9_2.1
  have g3_9_2 := q3_9_2.2
  have z3_9 : (w.heap.size + 1 + 1) < w3.heap.size := ltc c3_9_0
  clear q2_4_0 c2_4_0 g2_4_0 q2_4_1 c2_4_1 g2_4_1 q2_4_2 c2_4_2 g2_4_2 z2_4 q2_5_0 c2_5_0 g2_5_0 q2_5_1 c2_5_1 g2_5_1 q2_5_2 c2_5_2 g2_5_2 z2_5 q2_6_0 c2_6_0 g2_6_0 q2_6_1 c2_6_1 g2_6_1 q2_6_2 c2_6_2 g2_6_2 z2_6
  go_wp2_with fail
  refine (rSub_is _ _ _ _ H4 _).mono ?_
  rintro e w4 ⟨rfl, hb4⟩
  have q4_10_0 : CellF w4 ⟨w.heap.size, 0, none⟩ (.int .i64 a) := CellF.keep hb4 (q3_7_0)
  have c4_10_0 := q4_10_0.1
  have g4_10_0 := q4_10_0.2
  have q4_10_1 : CellF w4 ⟨w.heap.size, 1, none⟩ (.int .i64 b) := CellF.keep hb4 (q3_7_1)
  have c4_10_1 := q4_10_1.1
  have g4_10_1 := q4_10_1.2
  have q4_10_2 : CellF w4 ⟨w.heap.size, 2, none⟩ (.bool c) := CellF.keep hb4 (q3_7_2)
  have c4_10_2 := q4_10_2.1
  have g4_10_2 := q4_10_2.2
  have z4_10 : w.heap.size < w4.heap.size := ltc c4_10_0
  have q4_11_0 : CellF w4 ⟨(w.heap.size + 1), 0, none⟩ (.int .i64 d) := CellF.keep hb4 (q3_8_0)
  have c4_11_0 := q4_11_0.1
  have g4_11_0 := q4_11_0.2
  have q4_11_1 : CellF w4 ⟨(w.heap.size + 1), 1, none⟩ (.int .i64 e') := CellF.keep hb4 (q3_8_1)
  have c4_11_1 := q4_11_1.1
  have g4_11_1 := q4_11_1.2
  have q4_11_2 : CellF w4 ⟨(w.heap.size + 1), 2, none⟩ (.bool f) := CellF.keep hb4 (q3_8_2)
  have c4_11_2 := q4_11_2.1
  have g4_11_2 := q4_11_2.2
  have z4_11 : (w.heap.size + 1) < w4.heap.size := ltc c4_11_0
  have q4_12_0 : CellF w4 ⟨(w.heap.size + 1 + 1), 0, none⟩ (.int .i64 0) := CellF.keep hb4 (q3_9_0)
  have c4_12_0 := q4_12_0.1
  have g4_12_0 := q4_12_0.2
  have q4_12_1 : CellF w4 ⟨(w.heap.size + 1 + 1), 1, none⟩ (.int .i64 0) := CellF.keep hb4 (q3_9_1)
  have c4_12_1 := q4_12_1.1
  have g4_12_1 := q4_12_1.2
  have q4_12_2 : CellF w4 ⟨(w.heap.size + 1 + 1), 2, none⟩ (.bool false) := CellF.keep hb4 (q3_9_2)
  have c4_12_2 := q4_12_2.1
  have g4_12_2 := q4_12_2.2
  have z4_12 : (w.heap.size + 1 + 1) < w4.heap.size := ltc c4_12_0
  clear q3_7_0 c3_7_0 g3_7_0 q3_7_1 c3_7_1 g3_7_1 q3_7_2 c3_7_2 g3_7_2 z3_7 q3_8_0 c3_8_0 g3_8_0 q3_8_1 c3_8_1 g3_8_1 q3_8_2 c3_8_2 g3_8_2 z3_8 q3_9_0 c3_9_0 g3_9_0 q3_9_1 c3_9_1 g3_9_1 q3_9_2 c3_9_2 g3_9_2 z3_9
  cases c with
  | false =>
    rw [if_neg (by simp)] at hx
    cases hx
    go_wp2
    exact bodyPost_ret (v := .agg #[.int .i64 0, .int .i64 0, .bool false]) (by simp [results, Try.results42, go_sem, c4_12_0, c4_12_1, c4_12_2]) rfl ⟨rfl, (by repeat (first | with_reducible assumption | with_reducible exact brefl _ | with_reducible refine balloc ?_ _ | with_reducible refine bdrewN ?_ _ | with_reducible refine bset ?_ ?_ _ | (dsimp only; omega) | refine bstep ?_ (by assumption)))⟩
  | true =>
    cases f with
    | false =>
      rw [if_neg (by simp)] at hx
      cases hx
      go_wp2
      exact bodyPost_ret (v := .agg #[.int .i64 0, .int .i64 0, .bool false]) (by simp [results, Try.results42, go_sem, c4_12_0, c4_12_1, c4_12_2]) rfl ⟨rfl, (by repeat (first | with_reducible assumption | with_reducible exact brefl _ | with_reducible refine balloc ?_ _ | with_reducible refine bdrewN ?_ _ | with_reducible refine bset ?_ ?_ _ | (dsimp only; omega) | refine bstep ?_ (by assumption)))⟩
    | true =>
      cases i with
      | false =>
        rw [if_neg (by simp)] at hx
        cases hx
        go_wp2
        exact bodyPost_ret (v := .agg #[.int .i64 0, .int .i64 0, .bool false]) (by simp [results, Try.results42, go_sem, c4_12_0, c4_12_1, c4_12_2]) rfl ⟨rfl, (by repeat (first | with_reducible assumption | with_reducible exact brefl _ | with_reducible refine balloc ?_ _ | with_reducible refine bdrewN ?_ _ | with_reducible refine bset ?_ ?_ _ | (dsimp only; omega) | refine bstep ?_ (by assumption)))⟩
      | true =>
        cases j with
        | false =>
          rw [if_neg (by simp)] at hx
          cases hx
          go_wp2
          exact bodyPost_ret (v := .agg #[.int .i64 0, .int .i64 0, .bool false]) (by simp [results, Try.results42, go_sem, c4_12_0, c4_12_1, c4_12_2]) rfl ⟨rfl, (by repeat (first | with_reducible assumption | with_reducible exact brefl _ | with_reducible refine balloc ?_ _ | with_reducible refine bdrewN ?_ _ | with_reducible refine bset ?_ ?_ _ | (dsimp only; omega) | refine bstep ?_ (by assumption)))⟩
        | true =>
          rw [if_pos (by decide)] at hx
          have HX := Lib.hid hx
          clear hx
          go_wp2_with fail
          refine (r3Of_is _ _ _ _ _ HX _).mono ?_
          rintro e w5 ⟨rfl, hb5⟩
          have q5_13_0 : CellF w5 ⟨w.heap.size, 0, none⟩ (.int .i64 a) := CellF.keep hb5 (q4_10_0)
          have c5_13_0 := q5_13_0.1
          have g5_13_0 := q5_13_0.2
          have q5_13_1 : CellF w5 ⟨w.heap.size, 1, none⟩ (.int .i64 b) := CellF.keep hb5 (q4_10_1)
          have c5_13_1 := q5_13_1.1
          have g5_13_1 := q5_13_1.2
          have q5_13_2 : CellF w5 ⟨w.heap.size, 2, none⟩ (.bool true) := CellF.keep hb5 (q4_10_2)
          have c5_13_2 := q5_13_2.1
          have g5_13_2 := q5_13_2.2
          have z5_13 : w.heap.size < w5.heap.size := ltc c5_13_0
          have q5_14_0 : CellF w5 ⟨(w.heap.size + 1), 0, none⟩ (.int .i64 d) := CellF.keep hb5 (q4_11_0)
          have c5_14_0 := q5_14_0.1
          have g5_14_0 := q5_14_0.2
          have q5_14_1 : CellF w5 ⟨(w.heap.size + 1), 1, none⟩ (.int .i64 e') := CellF.keep hb5 (q4_11_1)
          have c5_14_1 := q5_14_1.1
          have g5_14_1 := q5_14_1.2
          have q5_14_2 : CellF w5 ⟨(w.heap.size + 1), 2, none⟩ (.bool true) := CellF.keep hb5 (q4_11_2)
          have c5_14_2 := q5_14_2.1
          have g5_14_2 := q5_14_2.2
          have z5_14 : (w.heap.size + 1) < w5.heap.size := ltc c5_14_0
          have q5_15_0 : CellF w5 ⟨(w.heap.size + 1 + 1), 0, none⟩ (.int .i64 0) := CellF.keep hb5 (q4_12_0)
          have c5_15_0 := q5_15_0.1
          have g5_15_0 := q5_15_0.2
          have q5_15_1 : CellF w5 ⟨(w.heap.size + 1 + 1), 1, none⟩ (.int .i64 0) := CellF.keep hb5 (q4_12_1)
          have c5_15_1 := q5_15_1.1
          have g5_15_1 := q5_15_1.2
          have q5_15_2 : CellF w5 ⟨(w.heap.size + 1 + 1), 2, none⟩ (.bool false) := CellF.keep hb5 (q4_12_2)
          have c5_15_2 := q5_15_2.1
          have g5_15_2 := q5_15_2.2
          have z5_15 : (w.heap.size + 1 + 1) < w5.heap.size := ltc c5_15_0
          clear q4_10_0 c4_10_0 g4_10_0 q4_10_1 c4_10_1 g4_10_1 q4_10_2 c4_10_2 g4_10_2 z4_10 q4_11_0 c4_11_0 g4_11_0 q4_11_1 c4_11_1 g4_11_1 q4_11_2 c4_11_2 g4_11_2 z4_11 q4_12_0 c4_12_0 g4_12_0 q4_12_1 c4_12_1 g4_12_1 q4_12_2 c4_12_2 g4_12_2 z4_12
          go_wp2
          exact bodyPost_ret (v := .agg #[.int .i64 x, .int .i64 y, .bool z]) (by simp [results, Try.results42, go_sem, c5_15_0, c5_15_1, c5_15_2]) rfl ⟨rfl, (by repeat (first | with_reducible assumption | with_reducible exact brefl _ | with_reducible refine balloc ?_ _ | with_reducible refine bdrewN ?_ _ | with_reducible refine bset ?_ ?_ _ | (dsimp only; omega) | refine bstep ?_ (by assumption)))⟩
end Go.Proofs.Ytnphbdhcoiaklaa
namespace Go.Proofs.Ytnphbdhcoiaklaa
open Go.RowKit

end Go.Proofs.Ytnphbdhcoiaklaa
