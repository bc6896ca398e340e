/-
  The walk of the law SpanDrifts.
-/
import Derived.Test.YtldgcigdoncgdaaOwn
import Derived.Test.YtldgcigdoncgdaaInv
import Derived.BigQuiet
import Derived.Deep.QuietTactic
import Derived.Test.YtldgcigdoncgdaaMsd
import Derived.Test.YtldgcigdoncgdaaSi
namespace Go.Proofs.Ytldgcigdoncgdaa
open Go.RowKit

set_option maxRecDepth 100000 in
set_option maxHeartbeats 4000000 in
theorem SpanDrifts_walk (lo hi : Int) (k : Bool) (n p0 p1 : Int) (w : World) (_ : I64 lo) (_ : I64 hi) (_ : I64 n) (_ : I64 p0) (_ : I64 p1) :
    Calls Try.prog 7 #[.agg #[.int .i64 lo, .int .i64 hi, .bool k], .int .i64 n, .agg #[.int .i64 p0, .int .i64 p1]] w fun e w' => e = .returned (.bool true) ∧ Below w.heap.size w w' := by
  go_enter Try.func7, Try.ntmps7
  obtain ⟨⟨dr1, dr2, dr3⟩, e1⟩ : ∃ s, spDrift ⟨lo, hi, k⟩ n p0 = s := ⟨_, rfl⟩
  have X1 := Lib.hid e1
  obtain ⟨⟨dt1, dt2, dt3⟩, e2⟩ : ∃ s, spDrift ⟨lo, hi, k⟩ n p1 = s := ⟨_, rfl⟩
  have X2 := Lib.hid e2
  obtain ⟨⟨sr1, sr2, sr3⟩, e3⟩ : ∃ s, spScale ⟨lo, hi, k⟩ p0 = s := ⟨_, rfl⟩
  have X3 := Lib.hid e3
  obtain ⟨⟨st1, st2, st3⟩, e4⟩ : ∃ s, spScale ⟨lo, hi, k⟩ p1 = s := ⟨_, rfl⟩
  have X4 := Lib.hid e4
  obtain ⟨r, hr⟩ : ∃ p, spRight ⟨lo, hi, k⟩ = p := ⟨_, rfl⟩
  have R := Lib.hid hr
  go_wp2_with fail
  refine (own_is _ _ _ _).mono ?_
  rintro e w1 ⟨rfl, hb1⟩
  have q1_1_0 : CellF w1 ⟨(w.heap.size + 1), 0, none⟩ (.int .i64 p0) := (by refine CellF.keep hb1 ?_; (first | ((repeat (first | with_reducible exact CellF.at_ (by simp) rfl | with_reducible refine CellF.past _ ?_ | with_reducible refine CellF.drew ?_ | with_reducible refine CellF.drewN _ ?_)); done) | (refine ⟨?_, ?_⟩ <;> go_simp)))
  have c1_1_0 := q1_1_0.1
  have q1_1_1 : CellF w1 ⟨(w.heap.size + 1), 1, none⟩ (.int .i64 p1) := (by refine CellF.keep hb1 ?_; (first | ((repeat (first | with_reducible exact CellF.at_ (by simp) rfl | with_reducible refine CellF.past _ ?_ | with_reducible refine CellF.drew ?_ | with_reducible refine CellF.drewN _ ?_)); done) | (refine ⟨?_, ?_⟩ <;> go_simp)))
  have c1_1_1 := q1_1_1.1
  have z1_1 : (w.heap.size + 1) < w1.heap.size := ltc c1_1_0
  go_wp2_with fail
  refine (Right_is _ _ _ _ R _).mono ?_
  rintro e w2 ⟨rfl, hb2⟩
  have q2_2_0 : CellF w2 ⟨(w.heap.size + 1), 0, none⟩ (.int .i64 p0) := (by refine CellF.keep hb2 ?_; repeat (first | with_reducible exact q1_1_0 | with_reducible exact CellF.at_ (by simp) rfl | with_reducible refine CellF.past _ ?_ | with_reducible refine CellF.drew ?_ | with_reducible refine CellF.drewN _ ?_))
  have c2_2_0 := q2_2_0.1
  have q2_2_1 : CellF w2 ⟨(w.heap.size + 1), 1, none⟩ (.int .i64 p1) := (by refine CellF.keep hb2 ?_; repeat (first | with_reducible exact q1_1_1 | with_reducible exact CellF.at_ (by simp) rfl | with_reducible refine CellF.past _ ?_ | with_reducible refine CellF.drew ?_ | with_reducible refine CellF.drewN _ ?_))
  have c2_2_1 := q2_2_1.1
  have z2_2 : (w.heap.size + 1) < w2.heap.size := ltc c2_2_0
  have q2_3_0 : CellF w2 ⟨w1.heap.size, 0, none⟩ (.int .i64 lo) := (by refine CellF.keep hb2 ?_; (first | ((repeat (first | with_reducible exact CellF.at_ (by simp) rfl | with_reducible refine CellF.past _ ?_ | with_reducible refine CellF.drew ?_ | with_reducible refine CellF.drewN _ ?_)); done) | (refine ⟨?_, ?_⟩ <;> go_simp)))
  have c2_3_0 := q2_3_0.1
  have q2_3_1 : CellF w2 ⟨w1.heap.size, 1, none⟩ (.int .i64 hi) := (by refine CellF.keep hb2 ?_; (first | ((repeat (first | with_reducible exact CellF.at_ (by simp) rfl | with_reducible refine CellF.past _ ?_ | with_reducible refine CellF.drew ?_ | with_reducible refine CellF.drewN _ ?_)); done) | (refine ⟨?_, ?_⟩ <;> go_simp)))
  have c2_3_1 := q2_3_1.1
  have q2_3_2 : CellF w2 ⟨w1.heap.size, 2, none⟩ (.bool k) := (by refine CellF.keep hb2 ?_; (first | ((repeat (first | with_reducible exact CellF.at_ (by simp) rfl | with_reducible refine CellF.past _ ?_ | with_reducible refine CellF.drew ?_ | with_reducible refine CellF.drewN _ ?_)); done) | (refine ⟨?_, ?_⟩ <;> go_simp)))
  have c2_3_2 := q2_3_2.1
  have z2_3 : w1.heap.size < w2.heap.size := ltc c2_3_0
  clear q1_1_0 c1_1_0 q1_1_1 c1_1_1 z1_1
  cases r with
  | false =>
    have hn := drift_unknown (n := n) (p := p0) (not_right hr)
    have Z1 : Hid (spDrift ⟨lo, hi, k⟩ n p0 = ⟨0, 0, false⟩) := Lib.hid hn
    go_wp2_with fail
    refine (alive_is _).mono ?_
    rintro e w3 ⟨rfl, hb3⟩
    have q3_4_0 : CellF w3 ⟨(w.heap.size + 1), 0, none⟩ (.int .i64 p0) := (by refine CellF.keep hb3 ?_; repeat (first | with_reducible exact q2_2_0 | with_reducible exact CellF.at_ (by simp) rfl | with_reducible refine CellF.past _ ?_ | with_reducible refine CellF.drew ?_ | with_reducible refine CellF.drewN _ ?_))
    have c3_4_0 := q3_4_0.1
    have q3_4_1 : CellF w3 ⟨(w.heap.size + 1), 1, none⟩ (.int .i64 p1) := (by refine CellF.keep hb3 ?_; repeat (first | with_reducible exact q2_2_1 | with_reducible exact CellF.at_ (by simp) rfl | with_reducible refine CellF.past _ ?_ | with_reducible refine CellF.drew ?_ | with_reducible refine CellF.drewN _ ?_))
    have c3_4_1 := q3_4_1.1
    have z3_4 : (w.heap.size + 1) < w3.heap.size := ltc c3_4_0
    have q3_5_0 : CellF w3 ⟨w1.heap.size, 0, none⟩ (.int .i64 lo) := (by refine CellF.keep hb3 ?_; repeat (first | with_reducible exact q2_3_0 | with_reducible exact CellF.at_ (by simp) rfl | with_reducible refine CellF.past _ ?_ | with_reducible refine CellF.drew ?_ | with_reducible refine CellF.drewN _ ?_))
    have c3_5_0 := q3_5_0.1
    have q3_5_1 : CellF w3 ⟨w1.heap.size, 1, none⟩ (.int .i64 hi) := (by refine CellF.keep hb3 ?_; repeat (first | with_reducible exact q2_3_1 | with_reducible exact CellF.at_ (by simp) rfl | with_reducible refine CellF.past _ ?_ | with_reducible refine CellF.drew ?_ | with_reducible refine CellF.drewN _ ?_))
    have c3_5_1 := q3_5_1.1
    have q3_5_2 : CellF w3 ⟨w1.heap.size, 2, none⟩ (.bool k) := (by refine CellF.keep hb3 ?_; repeat (first | with_reducible exact q2_3_2 | with_reducible exact CellF.at_ (by simp) rfl | with_reducible refine CellF.past _ ?_ | with_reducible refine CellF.drew ?_ | with_reducible refine CellF.drewN _ ?_))
    have c3_5_2 := q3_5_2.1
    have z3_5 : w1.heap.size < w3.heap.size := ltc c3_5_0
    clear q2_2_0 c2_2_0 q2_2_1 c2_2_1 z2_2 q2_3_0 c2_3_0 q2_3_1 c2_3_1 q2_3_2 c2_3_2 z2_3
    go_wp2_with fail
    refine (Drift_is _ _ _ _ 0 0 _ false Z1 _).mono ?_
    rintro e w4 ⟨rfl, hb4⟩
    have q4_6_0 : CellF w4 ⟨(w.heap.size + 1), 0, none⟩ (.int .i64 p0) := (by refine CellF.keep hb4 ?_; repeat (first | with_reducible exact q3_4_0 | with_reducible exact CellF.at_ (by simp) rfl | with_reducible refine CellF.past _ ?_ | with_reducible refine CellF.drew ?_ | with_reducible refine CellF.drewN _ ?_))
    have c4_6_0 := q4_6_0.1
    have q4_6_1 : CellF w4 ⟨(w.heap.size + 1), 1, none⟩ (.int .i64 p1) := (by refine CellF.keep hb4 ?_; repeat (first | with_reducible exact q3_4_1 | with_reducible exact CellF.at_ (by simp) rfl | with_reducible refine CellF.past _ ?_ | with_reducible refine CellF.drew ?_ | with_reducible refine CellF.drewN _ ?_))
    have c4_6_1 := q4_6_1.1
    have z4_6 : (w.heap.size + 1) < w4.heap.size := ltc c4_6_0
    have q4_7_0 : CellF w4 ⟨w1.heap.size, 0, none⟩ (.int .i64 lo) := (by refine CellF.keep hb4 ?_; repeat (first | with_reducible exact q3_5_0 | with_reducible exact CellF.at_ (by simp) rfl | with_reducible refine CellF.past _ ?_ | with_reducible refine CellF.drew ?_ | with_reducible refine CellF.drewN _ ?_))
    have c4_7_0 := q4_7_0.1
    have q4_7_1 : CellF w4 ⟨w1.heap.size, 1, none⟩ (.int .i64 hi) := (by refine CellF.keep hb4 ?_; repeat (first | with_reducible exact q3_5_1 | with_reducible exact CellF.at_ (by simp) rfl | with_reducible refine CellF.past _ ?_ | with_reducible refine CellF.drew ?_ | with_reducible refine CellF.drewN _ ?_))
    have c4_7_1 := q4_7_1.1
    have q4_7_2 : CellF w4 ⟨w1.heap.size, 2, none⟩ (.bool k) := (by refine CellF.keep hb4 ?_; repeat (first | with_reducible exact q3_5_2 | with_reducible exact CellF.at_ (by simp) rfl | with_reducible refine CellF.past _ ?_ | with_reducible refine CellF.drew ?_ | with_reducible refine CellF.drewN _ ?_))
    have c4_7_2 := q4_7_2.1
    have z4_7 : w1.heap.size < w4.heap.size := ltc c4_7_0
    clear q3_4_0 c3_4_0 q3_4_1 c3_4_1 z3_4 q3_5_0 c3_5_0 q3_5_1 c3_5_1 q3_5_2 c3_5_2 z3_5
    go_wp2_with fail
    refine (Unknown_is _).mono ?_
    rintro e w5 ⟨rfl, hb5⟩
    have q5_8_0 : CellF w5 ⟨(w.heap.size + 1), 0, none⟩ (.int .i64 p0) := (by refine CellF.keep hb5 ?_; repeat (first | with_reducible exact q4_6_0 | with_reducible exact CellF.at_ (by simp) rfl | with_reducible refine CellF.past _ ?_ | with_reducible refine CellF.drew ?_ | with_reducible refine CellF.drewN _ ?_))
    have c5_8_0 := q5_8_0.1
    have q5_8_1 : CellF w5 ⟨(w.heap.size + 1), 1, none⟩ (.int .i64 p1) := (by refine CellF.keep hb5 ?_; repeat (first | with_reducible exact q4_6_1 | with_reducible exact CellF.at_ (by simp) rfl | with_reducible refine CellF.past _ ?_ | with_reducible refine CellF.drew ?_ | with_reducible refine CellF.drewN _ ?_))
    have c5_8_1 := q5_8_1.1
    have z5_8 : (w.heap.size + 1) < w5.heap.size := ltc c5_8_0
    have q5_9_0 : CellF w5 ⟨w1.heap.size, 0, none⟩ (.int .i64 lo) := (by refine CellF.keep hb5 ?_; repeat (first | with_reducible exact q4_7_0 | with_reducible exact CellF.at_ (by simp) rfl | with_reducible refine CellF.past _ ?_ | with_reducible refine CellF.drew ?_ | with_reducible refine CellF.drewN _ ?_))
    have c5_9_0 := q5_9_0.1
    have q5_9_1 : CellF w5 ⟨w1.heap.size, 1, none⟩ (.int .i64 hi) := (by refine CellF.keep hb5 ?_; repeat (first | with_reducible exact q4_7_1 | with_reducible exact CellF.at_ (by simp) rfl | with_reducible refine CellF.past _ ?_ | with_reducible refine CellF.drew ?_ | with_reducible refine CellF.drewN _ ?_))
    have c5_9_1 := q5_9_1.1
    have q5_9_2 : CellF w5 ⟨w1.heap.size, 2, none⟩ (.bool k) := (by refine CellF.keep hb5 ?_; repeat (first | with_reducible exact q4_7_2 | with_reducible exact CellF.at_ (by simp) rfl | with_reducible refine CellF.past _ ?_ | with_reducible refine CellF.drew ?_ | with_reducible refine CellF.drewN _ ?_))
    have c5_9_2 := q5_9_2.1
    have z5_9 : w1.heap.size < w5.heap.size := ltc c5_9_0
    clear q4_6_0 c4_6_0 q4_6_1 c4_6_1 z4_6 q4_7_0 c4_7_0 q4_7_1 c4_7_1 q4_7_2 c4_7_2 z4_7
    all_goals (go_wp2; go_ret; exact ⟨rfl, (by repeat (first | exact brefl _ | refine balloc ?_ _ | refine bdrewN ?_ _ | refine bset ?_ (by dsimp only; omega) _ | refine bstep ?_ (by assumption)))⟩)
  | true =>
    go_upto_region 4 with (fail)
    go_cut [8, 9] (fun v8 v9 wd => ∃ bd be, v8 = .pointer (some ⟨bd, 0, none⟩) ∧ v9 = .pointer (some ⟨be, 0, none⟩) ∧ Hid (Below w.heap.size w wd) ∧ Hid (CellF wd ⟨(w.heap.size + 1), 0, none⟩ (.int .i64 p0) ∧ CellF wd ⟨(w.heap.size + 1), 1, none⟩ (.int .i64 p1)) ∧ Hid (CellF wd ⟨w1.heap.size, 0, none⟩ (.int .i64 lo) ∧ CellF wd ⟨w1.heap.size, 1, none⟩ (.int .i64 hi) ∧ CellF wd ⟨w1.heap.size, 2, none⟩ (.bool k)) ∧ Hid (SpanAt wd bd dr1 dr2 dr3) ∧ Hid (SpanAt wd be dt1 dt2 dt3))
    case first =>
      refine wp_region_inv (by kernel_rfl) (fun l a w' => ∃ v8 v9 v27 v28 v29 v30 v31 v32 v33 v34 v35 v36, a = ⟨#[.agg #[.int .i64 lo, .int .i64 hi, .bool k], .int .i64 n, .agg #[.int .i64 p0, .int .i64 p1], .pointer (some ⟨w.heap.size, 0, none⟩), undef, .pointer (some ⟨w.heap.size + 1, 0, none⟩), .bool false, .pointer (some ⟨w1.heap.size, 0, none⟩), v8, v9, undef, undef, .agg #[.int .i64 lo, .int .i64 hi, .bool k], .agg #[.int .i64 lo, .int .i64 hi, .bool k], .agg #[.int .i64 lo, .int .i64 hi, .bool k], .bool true, .bool false, undef, undef, undef, undef, undef, undef, undef, undef, undef, undef, v27, v28, v29, v30, v31, v32, v33, v34, v35, v36, undef, undef, undef, undef, undef, undef, undef, undef, undef, undef, undef, undef, undef, undef, undef, undef, undef, undef, undef, undef, undef, undef, undef, undef, undef, undef, undef, undef, undef, undef, undef, undef, undef, undef, undef, undef, undef, undef, undef, undef, undef, undef, undef, undef, undef], []⟩ ∧ l.size = 14 ∧ Below w2.heap.size w2 w' ∧ (l.getD 0 false = true → v27 = .agg #[.int .i64 lo, .int .i64 hi, .bool k]) ∧ (l.getD 1 false = true → v28 = .int .i64 n) ∧ (l.getD 2 false = true → v29 = .pointer (some ⟨w.heap.size + 1, 0, none⟩)) ∧ (l.getD 3 false = true → v30 = .int .i64 p0) ∧ (l.getD 4 false = true → v31 = .agg #[.int .i64 dr1, .int .i64 dr2, .bool dr3]) ∧ (l.getD 5 false = true → v32 = .agg #[.int .i64 lo, .int .i64 hi, .bool k]) ∧ (l.getD 6 false = true → v33 = .int .i64 n) ∧ (l.getD 7 false = true → v34 = .pointer (some ⟨w.heap.size + 1, 1, none⟩)) ∧ (l.getD 8 false = true → v35 = .int .i64 p1) ∧ (l.getD 9 false = true → v36 = .agg #[.int .i64 dt1, .int .i64 dt2, .bool dt3]) ∧ (l.getD 10 false = true → ∃ b, v8 = .pointer (some ⟨b, 0, none⟩) ∧ w2.heap.size ≤ b ∧ (l.getD 11 false = true → v9 ≠ .pointer (some ⟨b, 0, none⟩)) ∧ (l.getD 12 false = false → SpanAt w' b 0 0 false) ∧ (l.getD 12 false = true → SpanAt w' b dr1 dr2 dr3)) ∧ (l.getD 11 false = true → ∃ b, v9 = .pointer (some ⟨b, 0, none⟩) ∧ w2.heap.size ≤ b ∧ (l.getD 13 false = false → SpanAt w' b 0 0 false) ∧ (l.getD 13 false = true → SpanAt w' b dt1 dt2 dt3)) ∧ (l.getD 12 false = true → l.getD 10 false = true) ∧ (l.getD 13 false = true → l.getD 11 false = true)) ?_ ?_ ?_
      · exact ⟨_, _, _, _, _, _, _, _, _, _, _, _, rfl, rfl, bdrew (brefl _), fun h => (by cases h), fun h => (by cases h), fun h => (by cases h), fun h => (by cases h), fun h => (by cases h), fun h => (by cases h), fun h => (by cases h), fun h => (by cases h), fun h => (by cases h), fun h => (by cases h), fun h => (by cases h), fun h => (by cases h), fun h => (by cases h), fun h => (by cases h)⟩
      · intro i hii
        have hin : i < 14 := hii
        have hor : i = 0 ∨ i = 1 ∨ i = 2 ∨ i = 3 ∨ i = 4 ∨ i = 5 ∨ i = 6 ∨ i = 7 ∨ i = 8 ∨ i = 9 ∨ i = 10 ∨ i = 11 ∨ i = 12 ∨ i = 13 := by omega
        rcases hor with rfl | rfl | rfl | rfl | rfl | rfl | rfl | rfl | rfl | rfl | rfl | rfl | rfl | rfl
        · rintro l a w' hr ⟨v8, v9, v27, v28, v29, v30, v31, v32, v33, v34, v35, v36, rfl, hl, hB, g0, g1, g2, g3, g4, g5, g6, g7, g8, g9, h1, h2, k1, k2⟩
          have a0 := (hB.cell (ltc c2_3_0)).trans c2_3_0
          have a1 := (hB.cell (ltc c2_3_1)).trans c2_3_1
          have a2 := (hB.cell (ltc c2_3_2)).trans c2_3_2
          have a3 := (hB.cell (ltc c2_2_0)).trans c2_2_0
          have a4 := (hB.cell (ltc c2_2_1)).trans c2_2_1
          refine wpOp_step rfl (fun K hK => ?_)
          clear hr
          go_simp
          refine hK _ _ ?_
          simp only [getD_own (l := l) (i := 0) (by omega), getD_set l (i := 0) (j := 1) (by decide), getD_set l (i := 0) (j := 2) (by decide), getD_set l (i := 0) (j := 3) (by decide), getD_set l (i := 0) (j := 4) (by decide), getD_set l (i := 0) (j := 5) (by decide), getD_set l (i := 0) (j := 6) (by decide), getD_set l (i := 0) (j := 7) (by decide), getD_set l (i := 0) (j := 8) (by decide), getD_set l (i := 0) (j := 9) (by decide), getD_set l (i := 0) (j := 10) (by decide), getD_set l (i := 0) (j := 11) (by decide), getD_set l (i := 0) (j := 12) (by decide), getD_set l (i := 0) (j := 13) (by decide)]
          exact ⟨v8, v9, _, v28, v29, v30, v31, v32, v33, v34, v35, v36, rfl, by simp [hl], hB, fun _ => rfl, g1, g2, g3, g4, g5, g6, g7, g8, g9, h1, h2, k1, k2⟩
        · rintro l a w' hr ⟨v8, v9, v27, v28, v29, v30, v31, v32, v33, v34, v35, v36, rfl, hl, hB, g0, g1, g2, g3, g4, g5, g6, g7, g8, g9, h1, h2, k1, k2⟩
          refine wpOp_step rfl (fun K hK => ?_)
          clear hr
          go_simp
          refine hK _ _ ?_
          simp only [getD_own (l := l) (i := 1) (by omega), getD_set l (i := 1) (j := 0) (by decide), getD_set l (i := 1) (j := 2) (by decide), getD_set l (i := 1) (j := 3) (by decide), getD_set l (i := 1) (j := 4) (by decide), getD_set l (i := 1) (j := 5) (by decide), getD_set l (i := 1) (j := 6) (by decide), getD_set l (i := 1) (j := 7) (by decide), getD_set l (i := 1) (j := 8) (by decide), getD_set l (i := 1) (j := 9) (by decide), getD_set l (i := 1) (j := 10) (by decide), getD_set l (i := 1) (j := 11) (by decide), getD_set l (i := 1) (j := 12) (by decide), getD_set l (i := 1) (j := 13) (by decide)]
          exact ⟨v8, v9, v27, _, v29, v30, v31, v32, v33, v34, v35, v36, rfl, by simp [hl], hB, g0, fun _ => rfl, g2, g3, g4, g5, g6, g7, g8, g9, h1, h2, k1, k2⟩
        · rintro l a w' hr ⟨v8, v9, v27, v28, v29, v30, v31, v32, v33, v34, v35, v36, rfl, hl, hB, g0, g1, g2, g3, g4, g5, g6, g7, g8, g9, h1, h2, k1, k2⟩
          refine wpOp_step rfl (fun K hK => ?_)
          clear hr
          go_simp
          refine hK _ _ ?_
          simp only [getD_own (l := l) (i := 2) (by omega), getD_set l (i := 2) (j := 0) (by decide), getD_set l (i := 2) (j := 1) (by decide), getD_set l (i := 2) (j := 3) (by decide), getD_set l (i := 2) (j := 4) (by decide), getD_set l (i := 2) (j := 5) (by decide), getD_set l (i := 2) (j := 6) (by decide), getD_set l (i := 2) (j := 7) (by decide), getD_set l (i := 2) (j := 8) (by decide), getD_set l (i := 2) (j := 9) (by decide), getD_set l (i := 2) (j := 10) (by decide), getD_set l (i := 2) (j := 11) (by decide), getD_set l (i := 2) (j := 12) (by decide), getD_set l (i := 2) (j := 13) (by decide)]
          exact ⟨v8, v9, v27, v28, _, v30, v31, v32, v33, v34, v35, v36, rfl, by simp [hl], hB, g0, g1, fun _ => rfl, g3, g4, g5, g6, g7, g8, g9, h1, h2, k1, k2⟩
        · rintro l a w' hr ⟨v8, v9, v27, v28, v29, v30, v31, v32, v33, v34, v35, v36, rfl, hl, hB, g0, g1, g2, g3, g4, g5, g6, g7, g8, g9, h1, h2, k1, k2⟩
          have d2 : l.getD 2 false = true := (ready_dep hr rfl).2 ⟨2, .data⟩ (by simp) rfl
          obtain rfl := g2 d2
          have a0 := (hB.cell (ltc c2_3_0)).trans c2_3_0
          have a1 := (hB.cell (ltc c2_3_1)).trans c2_3_1
          have a2 := (hB.cell (ltc c2_3_2)).trans c2_3_2
          have a3 := (hB.cell (ltc c2_2_0)).trans c2_2_0
          have a4 := (hB.cell (ltc c2_2_1)).trans c2_2_1
          refine wpOp_step rfl (fun K hK => ?_)
          clear hr
          go_simp
          refine hK _ _ ?_
          simp only [getD_own (l := l) (i := 3) (by omega), getD_set l (i := 3) (j := 0) (by decide), getD_set l (i := 3) (j := 1) (by decide), getD_set l (i := 3) (j := 2) (by decide), getD_set l (i := 3) (j := 4) (by decide), getD_set l (i := 3) (j := 5) (by decide), getD_set l (i := 3) (j := 6) (by decide), getD_set l (i := 3) (j := 7) (by decide), getD_set l (i := 3) (j := 8) (by decide), getD_set l (i := 3) (j := 9) (by decide), getD_set l (i := 3) (j := 10) (by decide), getD_set l (i := 3) (j := 11) (by decide), getD_set l (i := 3) (j := 12) (by decide), getD_set l (i := 3) (j := 13) (by decide)]
          exact ⟨v8, v9, v27, v28, _, _, v31, v32, v33, v34, v35, v36, rfl, by simp [hl], hB, g0, g1, fun _ => rfl, fun _ => rfl, g4, g5, g6, g7, g8, g9, h1, h2, k1, k2⟩
        · rintro l a w' hr ⟨v8, v9, v27, v28, v29, v30, v31, v32, v33, v34, v35, v36, rfl, hl, hB, g0, g1, g2, g3, g4, g5, g6, g7, g8, g9, h1, h2, k1, k2⟩
          have d0 : l.getD 0 false = true := (ready_dep hr rfl).2 ⟨0, .data⟩ (by simp) rfl
          have d1 : l.getD 1 false = true := (ready_dep hr rfl).2 ⟨1, .data⟩ (by simp) rfl
          have d3 : l.getD 3 false = true := (ready_dep hr rfl).2 ⟨3, .data⟩ (by simp) rfl
          obtain rfl := g0 d0
          obtain rfl := g1 d1
          obtain rfl := g3 d3
          refine wpOp_step rfl (fun K hK => ?_)
          clear hr
          go_simp
          refine (Drift_is _ _ _ _ _ _ _ _ X1 _).mono ?_
          rintro e w1 ⟨rfl, hk⟩
          dsimp only
          refine hK _ _ ?_
          simp only [getD_own (l := l) (i := 4) (by omega), getD_set l (i := 4) (j := 0) (by decide), getD_set l (i := 4) (j := 1) (by decide), getD_set l (i := 4) (j := 2) (by decide), getD_set l (i := 4) (j := 3) (by decide), getD_set l (i := 4) (j := 5) (by decide), getD_set l (i := 4) (j := 6) (by decide), getD_set l (i := 4) (j := 7) (by decide), getD_set l (i := 4) (j := 8) (by decide), getD_set l (i := 4) (j := 9) (by decide), getD_set l (i := 4) (j := 10) (by decide), getD_set l (i := 4) (j := 11) (by decide), getD_set l (i := 4) (j := 12) (by decide), getD_set l (i := 4) (j := 13) (by decide)]
          exact ⟨v8, v9, _, _, v29, _, _, v32, v33, v34, v35, v36, rfl, by simp [hl], bstep hB hk, fun _ => rfl, fun _ => rfl, g2, fun _ => rfl, fun _ => rfl, g5, g6, g7, g8, g9, fun h => (by obtain ⟨b, e1, e2, e3, e4, e5⟩ := h1 h; exact ⟨b, e1, e2, e3, fun h => (e4 h).keep hk, fun h => (e5 h).keep hk⟩), fun h => (by obtain ⟨b, e1, e2, e4, e5⟩ := h2 h; exact ⟨b, e1, e2, fun h => (e4 h).keep hk, fun h => (e5 h).keep hk⟩), k1, k2⟩
        · rintro l a w' hr ⟨v8, v9, v27, v28, v29, v30, v31, v32, v33, v34, v35, v36, rfl, hl, hB, g0, g1, g2, g3, g4, g5, g6, g7, g8, g9, h1, h2, k1, k2⟩
          have a0 := (hB.cell (ltc c2_3_0)).trans c2_3_0
          have a1 := (hB.cell (ltc c2_3_1)).trans c2_3_1
          have a2 := (hB.cell (ltc c2_3_2)).trans c2_3_2
          have a3 := (hB.cell (ltc c2_2_0)).trans c2_2_0
          have a4 := (hB.cell (ltc c2_2_1)).trans c2_2_1
          refine wpOp_step rfl (fun K hK => ?_)
          clear hr
          go_simp
          refine hK _ _ ?_
          simp only [getD_own (l := l) (i := 5) (by omega), getD_set l (i := 5) (j := 0) (by decide), getD_set l (i := 5) (j := 1) (by decide), getD_set l (i := 5) (j := 2) (by decide), getD_set l (i := 5) (j := 3) (by decide), getD_set l (i := 5) (j := 4) (by decide), getD_set l (i := 5) (j := 6) (by decide), getD_set l (i := 5) (j := 7) (by decide), getD_set l (i := 5) (j := 8) (by decide), getD_set l (i := 5) (j := 9) (by decide), getD_set l (i := 5) (j := 10) (by decide), getD_set l (i := 5) (j := 11) (by decide), getD_set l (i := 5) (j := 12) (by decide), getD_set l (i := 5) (j := 13) (by decide)]
          exact ⟨v8, v9, v27, v28, v29, v30, v31, _, v33, v34, v35, v36, rfl, by simp [hl], hB, g0, g1, g2, g3, g4, fun _ => rfl, g6, g7, g8, g9, h1, h2, k1, k2⟩
        · rintro l a w' hr ⟨v8, v9, v27, v28, v29, v30, v31, v32, v33, v34, v35, v36, rfl, hl, hB, g0, g1, g2, g3, g4, g5, g6, g7, g8, g9, h1, h2, k1, k2⟩
          refine wpOp_step rfl (fun K hK => ?_)
          clear hr
          go_simp
          refine hK _ _ ?_
          simp only [getD_own (l := l) (i := 6) (by omega), getD_set l (i := 6) (j := 0) (by decide), getD_set l (i := 6) (j := 1) (by decide), getD_set l (i := 6) (j := 2) (by decide), getD_set l (i := 6) (j := 3) (by decide), getD_set l (i := 6) (j := 4) (by decide), getD_set l (i := 6) (j := 5) (by decide), getD_set l (i := 6) (j := 7) (by decide), getD_set l (i := 6) (j := 8) (by decide), getD_set l (i := 6) (j := 9) (by decide), getD_set l (i := 6) (j := 10) (by decide), getD_set l (i := 6) (j := 11) (by decide), getD_set l (i := 6) (j := 12) (by decide), getD_set l (i := 6) (j := 13) (by decide)]
          exact ⟨v8, v9, v27, v28, v29, v30, v31, v32, _, v34, v35, v36, rfl, by simp [hl], hB, g0, g1, g2, g3, g4, g5, fun _ => rfl, g7, g8, g9, h1, h2, k1, k2⟩
        · rintro l a w' hr ⟨v8, v9, v27, v28, v29, v30, v31, v32, v33, v34, v35, v36, rfl, hl, hB, g0, g1, g2, g3, g4, g5, g6, g7, g8, g9, h1, h2, k1, k2⟩
          refine wpOp_step rfl (fun K hK => ?_)
          clear hr
          go_simp
          refine hK _ _ ?_
          simp only [getD_own (l := l) (i := 7) (by omega), getD_set l (i := 7) (j := 0) (by decide), getD_set l (i := 7) (j := 1) (by decide), getD_set l (i := 7) (j := 2) (by decide), getD_set l (i := 7) (j := 3) (by decide), getD_set l (i := 7) (j := 4) (by decide), getD_set l (i := 7) (j := 5) (by decide), getD_set l (i := 7) (j := 6) (by decide), getD_set l (i := 7) (j := 8) (by decide), getD_set l (i := 7) (j := 9) (by decide), getD_set l (i := 7) (j := 10) (by decide), getD_set l (i := 7) (j := 11) (by decide), getD_set l (i := 7) (j := 12) (by decide), getD_set l (i := 7) (j := 13) (by decide)]
          exact ⟨v8, v9, v27, v28, v29, v30, v31, v32, v33, _, v35, v36, rfl, by simp [hl], hB, g0, g1, g2, g3, g4, g5, g6, fun _ => rfl, g8, g9, h1, h2, k1, k2⟩
        · rintro l a w' hr ⟨v8, v9, v27, v28, v29, v30, v31, v32, v33, v34, v35, v36, rfl, hl, hB, g0, g1, g2, g3, g4, g5, g6, g7, g8, g9, h1, h2, k1, k2⟩
          have d7 : l.getD 7 false = true := (ready_dep hr rfl).2 ⟨7, .data⟩ (by simp) rfl
          obtain rfl := g7 d7
          have a0 := (hB.cell (ltc c2_3_0)).trans c2_3_0
          have a1 := (hB.cell (ltc c2_3_1)).trans c2_3_1
          have a2 := (hB.cell (ltc c2_3_2)).trans c2_3_2
          have a3 := (hB.cell (ltc c2_2_0)).trans c2_2_0
          have a4 := (hB.cell (ltc c2_2_1)).trans c2_2_1
          refine wpOp_step rfl (fun K hK => ?_)
          clear hr
          go_simp
          refine hK _ _ ?_
          simp only [getD_own (l := l) (i := 8) (by omega), getD_set l (i := 8) (j := 0) (by decide), getD_set l (i := 8) (j := 1) (by decide), getD_set l (i := 8) (j := 2) (by decide), getD_set l (i := 8) (j := 3) (by decide), getD_set l (i := 8) (j := 4) (by decide), getD_set l (i := 8) (j := 5) (by decide), getD_set l (i := 8) (j := 6) (by decide), getD_set l (i := 8) (j := 7) (by decide), getD_set l (i := 8) (j := 9) (by decide), getD_set l (i := 8) (j := 10) (by decide), getD_set l (i := 8) (j := 11) (by decide), getD_set l (i := 8) (j := 12) (by decide), getD_set l (i := 8) (j := 13) (by decide)]
          exact ⟨v8, v9, v27, v28, v29, v30, v31, v32, v33, _, _, v36, rfl, by simp [hl], hB, g0, g1, g2, g3, g4, g5, g6, fun _ => rfl, fun _ => rfl, g9, h1, h2, k1, k2⟩
        · rintro l a w' hr ⟨v8, v9, v27, v28, v29, v30, v31, v32, v33, v34, v35, v36, rfl, hl, hB, g0, g1, g2, g3, g4, g5, g6, g7, g8, g9, h1, h2, k1, k2⟩
          have d5 : l.getD 5 false = true := (ready_dep hr rfl).2 ⟨5, .data⟩ (by simp) rfl
          have d6 : l.getD 6 false = true := (ready_dep hr rfl).2 ⟨6, .data⟩ (by simp) rfl
          have d8 : l.getD 8 false = true := (ready_dep hr rfl).2 ⟨8, .data⟩ (by simp) rfl
          obtain rfl := g5 d5
          obtain rfl := g6 d6
          obtain rfl := g8 d8
          refine wpOp_step rfl (fun K hK => ?_)
          clear hr
          go_simp
          refine (Drift_is _ _ _ _ _ _ _ _ X2 _).mono ?_
          rintro e w1 ⟨rfl, hk⟩
          dsimp only
          refine hK _ _ ?_
          simp only [getD_own (l := l) (i := 9) (by omega), getD_set l (i := 9) (j := 0) (by decide), getD_set l (i := 9) (j := 1) (by decide), getD_set l (i := 9) (j := 2) (by decide), getD_set l (i := 9) (j := 3) (by decide), getD_set l (i := 9) (j := 4) (by decide), getD_set l (i := 9) (j := 5) (by decide), getD_set l (i := 9) (j := 6) (by decide), getD_set l (i := 9) (j := 7) (by decide), getD_set l (i := 9) (j := 8) (by decide), getD_set l (i := 9) (j := 10) (by decide), getD_set l (i := 9) (j := 11) (by decide), getD_set l (i := 9) (j := 12) (by decide), getD_set l (i := 9) (j := 13) (by decide)]
          exact ⟨v8, v9, v27, v28, v29, v30, v31, _, _, v34, _, _, rfl, by simp [hl], bstep hB hk, g0, g1, g2, g3, g4, fun _ => rfl, fun _ => rfl, g7, fun _ => rfl, fun _ => rfl, fun h => (by obtain ⟨b, e1, e2, e3, e4, e5⟩ := h1 h; exact ⟨b, e1, e2, e3, fun h => (e4 h).keep hk, fun h => (e5 h).keep hk⟩), fun h => (by obtain ⟨b, e1, e2, e4, e5⟩ := h2 h; exact ⟨b, e1, e2, fun h => (e4 h).keep hk, fun h => (e5 h).keep hk⟩), k1, k2⟩
        · rintro l a w' hr ⟨v8, v9, v27, v28, v29, v30, v31, v32, v33, v34, v35, v36, rfl, hl, hB, g0, g1, g2, g3, g4, g5, g6, g7, g8, g9, h1, h2, k1, k2⟩
          have hz := hB.size
          have lt2 : ∀ b, (l.getD 13 false = false → SpanAt w' b 0 0 false) → (l.getD 13 false = true → SpanAt w' b dt1 dt2 dt3) → b < w'.heap.size := fun b x y => by cases hc : l.getD 13 false with | false => exact (x hc).lt | true => exact (y hc).lt
          have hn := (ready_dep hr rfl).1
          have hna : l.getD 10 false = false := by cases hc : l.getD 10 false with | false => rfl | true => (exfalso; have hs4 := getD_both hc; rw [hs4] at hn; cases hn)
          have hus : l.getD 12 false = false := by cases hc : l.getD 12 false with | false => rfl | true => (rw [k1 hc] at hna; cases hna)
          refine wpOp_step rfl (fun K hK => ?_)
          clear hr
          go_simp
          refine hK _ _ ?_
          simp only [getD_own (l := l) (i := 10) (by omega), getD_set l (i := 10) (j := 0) (by decide), getD_set l (i := 10) (j := 1) (by decide), getD_set l (i := 10) (j := 2) (by decide), getD_set l (i := 10) (j := 3) (by decide), getD_set l (i := 10) (j := 4) (by decide), getD_set l (i := 10) (j := 5) (by decide), getD_set l (i := 10) (j := 6) (by decide), getD_set l (i := 10) (j := 7) (by decide), getD_set l (i := 10) (j := 8) (by decide), getD_set l (i := 10) (j := 9) (by decide), getD_set l (i := 10) (j := 11) (by decide), getD_set l (i := 10) (j := 12) (by decide), getD_set l (i := 10) (j := 13) (by decide)]
          exact ⟨_, v9, v27, v28, v29, v30, v31, v32, v33, v34, v35, v36, rfl, by simp [hl], balloc hB _, g0, g1, g2, g3, g4, g5, g6, g7, g8, g9, fun _ => ⟨_, rfl, hz, fun h => (by obtain ⟨b, e1, e2, e4, e5⟩ := h2 h; rw [e1]; exact ptr_ne (Nat.ne_of_lt (lt2 b e4 e5))), fun _ => SpanAt.new rfl, fun h => (by rw [hus] at h; cases h)⟩, fun h => (by obtain ⟨b, e1, e2, e4, e5⟩ := h2 h; exact ⟨b, e1, e2, fun h => (e4 h).keep (balloc (brefl _) _), fun h => (e5 h).keep (balloc (brefl _) _)⟩), fun _ => (by first | rfl | trivial), k2⟩
        · rintro l a w' hr ⟨v8, v9, v27, v28, v29, v30, v31, v32, v33, v34, v35, v36, rfl, hl, hB, g0, g1, g2, g3, g4, g5, g6, g7, g8, g9, h1, h2, k1, k2⟩
          have hz := hB.size
          have lt1 : ∀ b, (l.getD 12 false = false → SpanAt w' b 0 0 false) → (l.getD 12 false = true → SpanAt w' b dr1 dr2 dr3) → b < w'.heap.size := fun b x y => by cases hc : l.getD 12 false with | false => exact (x hc).lt | true => exact (y hc).lt
          have hn := (ready_dep hr rfl).1
          have hna : l.getD 11 false = false := by cases hc : l.getD 11 false with | false => rfl | true => (exfalso; have hs4 := getD_both hc; rw [hs4] at hn; cases hn)
          have hus : l.getD 13 false = false := by cases hc : l.getD 13 false with | false => rfl | true => (rw [k2 hc] at hna; cases hna)
          refine wpOp_step rfl (fun K hK => ?_)
          clear hr
          go_simp
          refine hK _ _ ?_
          simp only [getD_own (l := l) (i := 11) (by omega), getD_set l (i := 11) (j := 0) (by decide), getD_set l (i := 11) (j := 1) (by decide), getD_set l (i := 11) (j := 2) (by decide), getD_set l (i := 11) (j := 3) (by decide), getD_set l (i := 11) (j := 4) (by decide), getD_set l (i := 11) (j := 5) (by decide), getD_set l (i := 11) (j := 6) (by decide), getD_set l (i := 11) (j := 7) (by decide), getD_set l (i := 11) (j := 8) (by decide), getD_set l (i := 11) (j := 9) (by decide), getD_set l (i := 11) (j := 10) (by decide), getD_set l (i := 11) (j := 12) (by decide), getD_set l (i := 11) (j := 13) (by decide)]
          exact ⟨v8, _, v27, v28, v29, v30, v31, v32, v33, v34, v35, v36, rfl, by simp [hl], balloc hB _, g0, g1, g2, g3, g4, g5, g6, g7, g8, g9, fun h => (by obtain ⟨b, e1, e2, e3, e4, e5⟩ := h1 h; exact ⟨b, e1, e2, fun _ => ptr_ne (Nat.ne_of_gt (lt1 b e4 e5)), fun h => (e4 h).keep (balloc (brefl _) _), fun h => (e5 h).keep (balloc (brefl _) _)⟩), fun _ => ⟨_, rfl, hz, fun _ => SpanAt.new rfl, fun h => (by rw [hus] at h; cases h)⟩, k1, fun _ => (by first | rfl | trivial)⟩
        · rintro l a w' hr ⟨v8, v9, v27, v28, v29, v30, v31, v32, v33, v34, v35, v36, rfl, hl, hB, g0, g1, g2, g3, g4, g5, g6, g7, g8, g9, h1, h2, k1, k2⟩
          have d10 : l.getD 10 false = true := (ready_dep hr rfl).2 ⟨10, .data⟩ (by simp) rfl
          have d4 : l.getD 4 false = true := (ready_dep hr rfl).2 ⟨4, .data⟩ (by simp) rfl
          obtain rfl := g4 d4
          have hn := (ready_dep hr rfl).1
          have hns : l.getD 12 false = false := by cases hc : l.getD 12 false with | false => rfl | true => (exfalso; have hs4 := getD_both hc; rw [hs4] at hn; cases hn)
          obtain ⟨b, rfl, hub, hne, e4, _⟩ := h1 d10
          have hS := e4 hns
          have hT := span_sets (x := dr1) (y := dr2) (z := dr3) hS
          have s0 := (hS).1.1
          have s1 := (hS).2.1.1
          have s2 := (hS).2.2.1
          have s3 := (hS).1.2
          have s4 := (hS).2.1.2
          have s5 := (hS).2.2.2
          refine wpOp_step rfl (fun K hK => ?_)
          clear hr
          clear hS e4
          go_simp
          refine hK _ _ ?_
          simp only [getD_own (l := l) (i := 12) (by omega), getD_set l (i := 12) (j := 0) (by decide), getD_set l (i := 12) (j := 1) (by decide), getD_set l (i := 12) (j := 2) (by decide), getD_set l (i := 12) (j := 3) (by decide), getD_set l (i := 12) (j := 4) (by decide), getD_set l (i := 12) (j := 5) (by decide), getD_set l (i := 12) (j := 6) (by decide), getD_set l (i := 12) (j := 7) (by decide), getD_set l (i := 12) (j := 8) (by decide), getD_set l (i := 12) (j := 9) (by decide), getD_set l (i := 12) (j := 10) (by decide), getD_set l (i := 12) (j := 11) (by decide), getD_set l (i := 12) (j := 13) (by decide)]
          exact ⟨_, v9, v27, v28, v29, v30, _, v32, v33, v34, v35, v36, rfl, by simp [hl], hB.trans (hT.2.2 _ hub), g0, g1, g2, g3, fun _ => rfl, g5, g6, g7, g8, g9, fun _ => ⟨b, rfl, hub, hne, fun h => (by cases h), fun _ => hT.1⟩, fun h => (by obtain ⟨b', e1, e2, x4, x5⟩ := h2 h; have hbb : b' ≠ b := fun hh => hne h (by rw [e1, hh]); exact ⟨b', e1, e2, fun h => hT.2.1 _ _ _ _ hbb (x4 h), fun h => hT.2.1 _ _ _ _ hbb (x5 h)⟩), fun _ => d10, k2⟩
        · rintro l a w' hr ⟨v8, v9, v27, v28, v29, v30, v31, v32, v33, v34, v35, v36, rfl, hl, hB, g0, g1, g2, g3, g4, g5, g6, g7, g8, g9, h1, h2, k1, k2⟩
          have d11 : l.getD 11 false = true := (ready_dep hr rfl).2 ⟨11, .data⟩ (by simp) rfl
          have d9 : l.getD 9 false = true := (ready_dep hr rfl).2 ⟨9, .data⟩ (by simp) rfl
          obtain rfl := g9 d9
          have hn := (ready_dep hr rfl).1
          have hns : l.getD 13 false = false := by cases hc : l.getD 13 false with | false => rfl | true => (exfalso; have hs4 := getD_both hc; rw [hs4] at hn; cases hn)
          obtain ⟨b, rfl, hub, e4, _⟩ := h2 d11
          have hS := e4 hns
          have hT := span_sets (x := dt1) (y := dt2) (z := dt3) hS
          have s0 := (hS).1.1
          have s1 := (hS).2.1.1
          have s2 := (hS).2.2.1
          have s3 := (hS).1.2
          have s4 := (hS).2.1.2
          have s5 := (hS).2.2.2
          refine wpOp_step rfl (fun K hK => ?_)
          clear hr
          clear hS e4
          go_simp
          refine hK _ _ ?_
          simp only [getD_own (l := l) (i := 13) (by omega), getD_set l (i := 13) (j := 0) (by decide), getD_set l (i := 13) (j := 1) (by decide), getD_set l (i := 13) (j := 2) (by decide), getD_set l (i := 13) (j := 3) (by decide), getD_set l (i := 13) (j := 4) (by decide), getD_set l (i := 13) (j := 5) (by decide), getD_set l (i := 13) (j := 6) (by decide), getD_set l (i := 13) (j := 7) (by decide), getD_set l (i := 13) (j := 8) (by decide), getD_set l (i := 13) (j := 9) (by decide), getD_set l (i := 13) (j := 10) (by decide), getD_set l (i := 13) (j := 11) (by decide), getD_set l (i := 13) (j := 12) (by decide)]
          exact ⟨v8, _, v27, v28, v29, v30, v31, v32, v33, v34, v35, _, rfl, by simp [hl], hB.trans (hT.2.2 _ hub), g0, g1, g2, g3, g4, g5, g6, g7, g8, fun _ => rfl, fun h => (by obtain ⟨b', e1, e2, x3, x4, x5⟩ := h1 h; have hbb : b' ≠ b := fun hh => x3 d11 (by rw [hh]); exact ⟨b', e1, e2, x3, fun h => hT.2.1 _ _ _ _ hbb (x4 h), fun h => hT.2.1 _ _ _ _ hbb (x5 h)⟩), fun _ => ⟨b, rfl, hub, fun h => (by cases h), fun _ => hT.1⟩, k1, fun _ => d11⟩
      · rintro l a w' ⟨v8, v9, v27, v28, v29, v30, v31, v32, v33, v34, v35, v36, rfl, hl, hB, g0, g1, g2, g3, g4, g5, g6, g7, g8, g9, h1, h2, k1, k2⟩ hr
        have hall := ready_all (by decide) hl hr
        obtain ⟨b1, rfl, hub1, _, _, f1⟩ := h1 (hall 10 (by decide))
        have F1 := f1 (hall 12 (by decide))
        obtain ⟨b2, rfl, hub2, _, f2⟩ := h2 (hall 11 (by decide))
        have F2 := f2 (hall 13 (by decide))
        go_wp2_with fail
        go_meet
        exact ⟨b1, b2, rfl, rfl, Lib.hid (Below.trans (show Below w.heap.size w w2 from (by repeat (first | exact brefl _ | refine balloc ?_ _ | refine bdrewN ?_ _ | refine bset ?_ (by dsimp only; omega) _ | refine bstep ?_ (by assumption)))) (hB.mono (Below.size (show Below w.heap.size w w2 from (by repeat (first | exact brefl _ | refine balloc ?_ _ | refine bdrewN ?_ _ | refine bset ?_ (by dsimp only; omega) _ | refine bstep ?_ (by assumption))))))), Lib.hid ⟨CellF.keep hB q2_2_0, CellF.keep hB q2_2_1⟩, Lib.hid ⟨CellF.keep hB q2_3_0, CellF.keep hB q2_3_1, CellF.keep hB q2_3_2⟩, Lib.hid F1, Lib.hid F2⟩
    case rest =>
      obtain ⟨bd, be, rfl, rfl, HB, Hdr0, Hdr1, HX, HY⟩ := hcut
      have hwd4 := HB.out
      have qHdr0_0 := Hdr0.out.1
      have cHdr0_0 := qHdr0_0.1
      have qHdr0_1 := Hdr0.out.2
      have cHdr0_1 := qHdr0_1.1
      have zHdr0 := ltc cHdr0_0
      have qHdr1_0 := Hdr1.out.1
      have cHdr1_0 := qHdr1_0.1
      have qHdr1_1 := Hdr1.out.2.1
      have cHdr1_1 := qHdr1_1.1
      have qHdr1_2 := Hdr1.out.2.2
      have cHdr1_2 := qHdr1_2.1
      have zHdr1 := ltc cHdr1_0
      have qHX4_0 := HX.out.1
      have cHX4_0 := qHX4_0.1
      have qHX4_1 := HX.out.2.1
      have cHX4_1 := qHX4_1.1
      have qHX4_2 := HX.out.2.2
      have cHX4_2 := qHX4_2.1
      have zHX4 := ltc cHX4_0
      have qHY4_0 := HY.out.1
      have cHY4_0 := qHY4_0.1
      have qHY4_1 := HY.out.2.1
      have cHY4_1 := qHY4_1.1
      have qHY4_2 := HY.out.2.2
      have cHY4_2 := qHY4_2.1
      have zHY4 := ltc cHY4_0
      clear HB HX HY Hdr0 Hdr1
      go_upto_region 5 with (fail)
      go_cut [10, 11] (fun v10 v11 wd => ∃ bf bg, v10 = .pointer (some ⟨bf, 0, none⟩) ∧ v11 = .pointer (some ⟨bg, 0, none⟩) ∧ Hid (Below w.heap.size w wd) ∧ Hid (CellF wd ⟨(w.heap.size + 1), 0, none⟩ (.int .i64 p0) ∧ CellF wd ⟨(w.heap.size + 1), 1, none⟩ (.int .i64 p1)) ∧ Hid (CellF wd ⟨w1.heap.size, 0, none⟩ (.int .i64 lo) ∧ CellF wd ⟨w1.heap.size, 1, none⟩ (.int .i64 hi) ∧ CellF wd ⟨w1.heap.size, 2, none⟩ (.bool k)) ∧ Hid (CellF wd ⟨bd, 0, none⟩ (.int .i64 dr1) ∧ CellF wd ⟨bd, 1, none⟩ (.int .i64 dr2) ∧ CellF wd ⟨bd, 2, none⟩ (.bool dr3)) ∧ Hid (CellF wd ⟨be, 0, none⟩ (.int .i64 dt1) ∧ CellF wd ⟨be, 1, none⟩ (.int .i64 dt2) ∧ CellF wd ⟨be, 2, none⟩ (.bool dt3)) ∧ Hid (SpanAt wd bf sr1 sr2 sr3) ∧ Hid (SpanAt wd bg st1 st2 st3))
      case first =>
        refine wp_region_inv (by kernel_rfl) (fun l a w' => ∃ v10 v11 v37 v38 v39 v40 v41 v42 v43 v44, a = ⟨#[.agg #[.int .i64 lo, .int .i64 hi, .bool k], .int .i64 n, .agg #[.int .i64 p0, .int .i64 p1], .pointer (some ⟨w.heap.size, 0, none⟩), undef, .pointer (some ⟨w.heap.size + 1, 0, none⟩), .bool false, .pointer (some ⟨w1.heap.size, 0, none⟩), .pointer (some ⟨bd, 0, none⟩), .pointer (some ⟨be, 0, none⟩), v10, v11, u12, u13, u14, u15, u16, u17, u18, u19, u20, u21, u22, u23, u24, u25, u26, u27, u28, u29, u30, u31, u32, u33, u34, u35, u36, v37, v38, v39, v40, v41, v42, v43, v44, u45, u46, u47, u48, u49, u50, u51, u52, u53, u54, u55, u56, u57, u58, u59, u60, u61, u62, u63, u64, u65, u66, u67, u68, u69, u70, u71, u72, u73, u74, u75, u76, u77, u78, u79, u80, u81], []⟩ ∧ l.size = 12 ∧ Below wc.heap.size wc w' ∧ (l.getD 0 false = true → v37 = .agg #[.int .i64 lo, .int .i64 hi, .bool k]) ∧ (l.getD 1 false = true → v38 = .pointer (some ⟨w.heap.size + 1, 0, none⟩)) ∧ (l.getD 2 false = true → v39 = .int .i64 p0) ∧ (l.getD 3 false = true → v40 = .agg #[.int .i64 sr1, .int .i64 sr2, .bool sr3]) ∧ (l.getD 4 false = true → v41 = .agg #[.int .i64 lo, .int .i64 hi, .bool k]) ∧ (l.getD 5 false = true → v42 = .pointer (some ⟨w.heap.size + 1, 1, none⟩)) ∧ (l.getD 6 false = true → v43 = .int .i64 p1) ∧ (l.getD 7 false = true → v44 = .agg #[.int .i64 st1, .int .i64 st2, .bool st3]) ∧ (l.getD 8 false = true → ∃ b, v10 = .pointer (some ⟨b, 0, none⟩) ∧ wc.heap.size ≤ b ∧ (l.getD 9 false = true → v11 ≠ .pointer (some ⟨b, 0, none⟩)) ∧ (l.getD 10 false = false → SpanAt w' b 0 0 false) ∧ (l.getD 10 false = true → SpanAt w' b sr1 sr2 sr3)) ∧ (l.getD 9 false = true → ∃ b, v11 = .pointer (some ⟨b, 0, none⟩) ∧ wc.heap.size ≤ b ∧ (l.getD 11 false = false → SpanAt w' b 0 0 false) ∧ (l.getD 11 false = true → SpanAt w' b st1 st2 st3)) ∧ (l.getD 10 false = true → l.getD 8 false = true) ∧ (l.getD 11 false = true → l.getD 9 false = true)) ?_ ?_ ?_
        · exact ⟨_, _, _, _, _, _, _, _, _, _, rfl, rfl, bdrew (brefl _), fun h => (by cases h), fun h => (by cases h), fun h => (by cases h), fun h => (by cases h), fun h => (by cases h), fun h => (by cases h), fun h => (by cases h), fun h => (by cases h), fun h => (by cases h), fun h => (by cases h), fun h => (by cases h), fun h => (by cases h)⟩
        · intro i hii
          have hin : i < 12 := hii
          have hor : i = 0 ∨ i = 1 ∨ i = 2 ∨ i = 3 ∨ i = 4 ∨ i = 5 ∨ i = 6 ∨ i = 7 ∨ i = 8 ∨ i = 9 ∨ i = 10 ∨ i = 11 := by omega
          rcases hor with rfl | rfl | rfl | rfl | rfl | rfl | rfl | rfl | rfl | rfl | rfl | rfl
          · rintro l a w' hr ⟨v10, v11, v37, v38, v39, v40, v41, v42, v43, v44, rfl, hl, hB, g0, g1, g2, g3, g4, g5, g6, g7, h1, h2, k1, k2⟩
            have a0 := (hB.cell (ltc cHdr1_0)).trans cHdr1_0
            have a1 := (hB.cell (ltc cHdr1_1)).trans cHdr1_1
            have a2 := (hB.cell (ltc cHdr1_2)).trans cHdr1_2
            have a3 := (hB.cell (ltc cHdr0_0)).trans cHdr0_0
            have a4 := (hB.cell (ltc cHdr0_1)).trans cHdr0_1
            refine wpOp_step rfl (fun K hK => ?_)
            clear hr
            go_simp
            refine hK _ _ ?_
            simp only [getD_own (l := l) (i := 0) (by omega), getD_set l (i := 0) (j := 1) (by decide), getD_set l (i := 0) (j := 2) (by decide), getD_set l (i := 0) (j := 3) (by decide), getD_set l (i := 0) (j := 4) (by decide), getD_set l (i := 0) (j := 5) (by decide), getD_set l (i := 0) (j := 6) (by decide), getD_set l (i := 0) (j := 7) (by decide), getD_set l (i := 0) (j := 8) (by decide), getD_set l (i := 0) (j := 9) (by decide), getD_set l (i := 0) (j := 10) (by decide), getD_set l (i := 0) (j := 11) (by decide)]
            exact ⟨v10, v11, _, v38, v39, v40, v41, v42, v43, v44, rfl, by simp [hl], hB, fun _ => rfl, g1, g2, g3, g4, g5, g6, g7, h1, h2, k1, k2⟩
          · rintro l a w' hr ⟨v10, v11, v37, v38, v39, v40, v41, v42, v43, v44, rfl, hl, hB, g0, g1, g2, g3, g4, g5, g6, g7, h1, h2, k1, k2⟩
            refine wpOp_step rfl (fun K hK => ?_)
            clear hr
            go_simp
            refine hK _ _ ?_
            simp only [getD_own (l := l) (i := 1) (by omega), getD_set l (i := 1) (j := 0) (by decide), getD_set l (i := 1) (j := 2) (by decide), getD_set l (i := 1) (j := 3) (by decide), getD_set l (i := 1) (j := 4) (by decide), getD_set l (i := 1) (j := 5) (by decide), getD_set l (i := 1) (j := 6) (by decide), getD_set l (i := 1) (j := 7) (by decide), getD_set l (i := 1) (j := 8) (by decide), getD_set l (i := 1) (j := 9) (by decide), getD_set l (i := 1) (j := 10) (by decide), getD_set l (i := 1) (j := 11) (by decide)]
            exact ⟨v10, v11, v37, _, v39, v40, v41, v42, v43, v44, rfl, by simp [hl], hB, g0, fun _ => rfl, g2, g3, g4, g5, g6, g7, h1, h2, k1, k2⟩
          · rintro l a w' hr ⟨v10, v11, v37, v38, v39, v40, v41, v42, v43, v44, rfl, hl, hB, g0, g1, g2, g3, g4, g5, g6, g7, h1, h2, k1, k2⟩
            have d1 : l.getD 1 false = true := (ready_dep hr rfl).2 ⟨1, .data⟩ (by simp) rfl
            obtain rfl := g1 d1
            have a0 := (hB.cell (ltc cHdr1_0)).trans cHdr1_0
            have a1 := (hB.cell (ltc cHdr1_1)).trans cHdr1_1
            have a2 := (hB.cell (ltc cHdr1_2)).trans cHdr1_2
            have a3 := (hB.cell (ltc cHdr0_0)).trans cHdr0_0
            have a4 := (hB.cell (ltc cHdr0_1)).trans cHdr0_1
            refine wpOp_step rfl (fun K hK => ?_)
            clear hr
            go_simp
            refine hK _ _ ?_
            simp only [getD_own (l := l) (i := 2) (by omega), getD_set l (i := 2) (j := 0) (by decide), getD_set l (i := 2) (j := 1) (by decide), getD_set l (i := 2) (j := 3) (by decide), getD_set l (i := 2) (j := 4) (by decide), getD_set l (i := 2) (j := 5) (by decide), getD_set l (i := 2) (j := 6) (by decide), getD_set l (i := 2) (j := 7) (by decide), getD_set l (i := 2) (j := 8) (by decide), getD_set l (i := 2) (j := 9) (by decide), getD_set l (i := 2) (j := 10) (by decide), getD_set l (i := 2) (j := 11) (by decide)]
            exact ⟨v10, v11, v37, _, _, v40, v41, v42, v43, v44, rfl, by simp [hl], hB, g0, fun _ => rfl, fun _ => rfl, g3, g4, g5, g6, g7, h1, h2, k1, k2⟩
          · rintro l a w' hr ⟨v10, v11, v37, v38, v39, v40, v41, v42, v43, v44, rfl, hl, hB, g0, g1, g2, g3, g4, g5, g6, g7, h1, h2, k1, k2⟩
            have d0 : l.getD 0 false = true := (ready_dep hr rfl).2 ⟨0, .data⟩ (by simp) rfl
            have d2 : l.getD 2 false = true := (ready_dep hr rfl).2 ⟨2, .data⟩ (by simp) rfl
            obtain rfl := g0 d0
            obtain rfl := g2 d2
            refine wpOp_step rfl (fun K hK => ?_)
            clear hr
            go_simp
            refine (Scale_is _ _ _ _ _ _ _ X3 _).mono ?_
            rintro e w1 ⟨rfl, hk⟩
            dsimp only
            refine hK _ _ ?_
            simp only [getD_own (l := l) (i := 3) (by omega), getD_set l (i := 3) (j := 0) (by decide), getD_set l (i := 3) (j := 1) (by decide), getD_set l (i := 3) (j := 2) (by decide), getD_set l (i := 3) (j := 4) (by decide), getD_set l (i := 3) (j := 5) (by decide), getD_set l (i := 3) (j := 6) (by decide), getD_set l (i := 3) (j := 7) (by decide), getD_set l (i := 3) (j := 8) (by decide), getD_set l (i := 3) (j := 9) (by decide), getD_set l (i := 3) (j := 10) (by decide), getD_set l (i := 3) (j := 11) (by decide)]
            exact ⟨v10, v11, _, v38, _, _, v41, v42, v43, v44, rfl, by simp [hl], bstep hB hk, fun _ => rfl, g1, fun _ => rfl, fun _ => rfl, g4, g5, g6, g7, fun h => (by obtain ⟨b, e1, e2, e3, e4, e5⟩ := h1 h; exact ⟨b, e1, e2, e3, fun h => (e4 h).keep hk, fun h => (e5 h).keep hk⟩), fun h => (by obtain ⟨b, e1, e2, e4, e5⟩ := h2 h; exact ⟨b, e1, e2, fun h => (e4 h).keep hk, fun h => (e5 h).keep hk⟩), k1, k2⟩
          · rintro l a w' hr ⟨v10, v11, v37, v38, v39, v40, v41, v42, v43, v44, rfl, hl, hB, g0, g1, g2, g3, g4, g5, g6, g7, h1, h2, k1, k2⟩
            have a0 := (hB.cell (ltc cHdr1_0)).trans cHdr1_0
            have a1 := (hB.cell (ltc cHdr1_1)).trans cHdr1_1
            have a2 := (hB.cell (ltc cHdr1_2)).trans cHdr1_2
            have a3 := (hB.cell (ltc cHdr0_0)).trans cHdr0_0
            have a4 := (hB.cell (ltc cHdr0_1)).trans cHdr0_1
            refine wpOp_step rfl (fun K hK => ?_)
            clear hr
            go_simp
            refine hK _ _ ?_
            simp only [getD_own (l := l) (i := 4) (by omega), getD_set l (i := 4) (j := 0) (by decide), getD_set l (i := 4) (j := 1) (by decide), getD_set l (i := 4) (j := 2) (by decide), getD_set l (i := 4) (j := 3) (by decide), getD_set l (i := 4) (j := 5) (by decide), getD_set l (i := 4) (j := 6) (by decide), getD_set l (i := 4) (j := 7) (by decide), getD_set l (i := 4) (j := 8) (by decide), getD_set l (i := 4) (j := 9) (by decide), getD_set l (i := 4) (j := 10) (by decide), getD_set l (i := 4) (j := 11) (by decide)]
            exact ⟨v10, v11, v37, v38, v39, v40, _, v42, v43, v44, rfl, by simp [hl], hB, g0, g1, g2, g3, fun _ => rfl, g5, g6, g7, h1, h2, k1, k2⟩
          · rintro l a w' hr ⟨v10, v11, v37, v38, v39, v40, v41, v42, v43, v44, rfl, hl, hB, g0, g1, g2, g3, g4, g5, g6, g7, h1, h2, k1, k2⟩
            refine wpOp_step rfl (fun K hK => ?_)
            clear hr
            go_simp
            refine hK _ _ ?_
            simp only [getD_own (l := l) (i := 5) (by omega), getD_set l (i := 5) (j := 0) (by decide), getD_set l (i := 5) (j := 1) (by decide), getD_set l (i := 5) (j := 2) (by decide), getD_set l (i := 5) (j := 3) (by decide), getD_set l (i := 5) (j := 4) (by decide), getD_set l (i := 5) (j := 6) (by decide), getD_set l (i := 5) (j := 7) (by decide), getD_set l (i := 5) (j := 8) (by decide), getD_set l (i := 5) (j := 9) (by decide), getD_set l (i := 5) (j := 10) (by decide), getD_set l (i := 5) (j := 11) (by decide)]
            exact ⟨v10, v11, v37, v38, v39, v40, v41, _, v43, v44, rfl, by simp [hl], hB, g0, g1, g2, g3, g4, fun _ => rfl, g6, g7, h1, h2, k1, k2⟩
          · rintro l a w' hr ⟨v10, v11, v37, v38, v39, v40, v41, v42, v43, v44, rfl, hl, hB, g0, g1, g2, g3, g4, g5, g6, g7, h1, h2, k1, k2⟩
            have d5 : l.getD 5 false = true := (ready_dep hr rfl).2 ⟨5, .data⟩ (by simp) rfl
            obtain rfl := g5 d5
            have a0 := (hB.cell (ltc cHdr1_0)).trans cHdr1_0
            have a1 := (hB.cell (ltc cHdr1_1)).trans cHdr1_1
            have a2 := (hB.cell (ltc cHdr1_2)).trans cHdr1_2
            have a3 := (hB.cell (ltc cHdr0_0)).trans cHdr0_0
            have a4 := (hB.cell (ltc cHdr0_1)).trans cHdr0_1
            refine wpOp_step rfl (fun K hK => ?_)
            clear hr
            go_simp
            refine hK _ _ ?_
            simp only [getD_own (l := l) (i := 6) (by omega), getD_set l (i := 6) (j := 0) (by decide), getD_set l (i := 6) (j := 1) (by decide), getD_set l (i := 6) (j := 2) (by decide), getD_set l (i := 6) (j := 3) (by decide), getD_set l (i := 6) (j := 4) (by decide), getD_set l (i := 6) (j := 5) (by decide), getD_set l (i := 6) (j := 7) (by decide), getD_set l (i := 6) (j := 8) (by decide), getD_set l (i := 6) (j := 9) (by decide), getD_set l (i := 6) (j := 10) (by decide), getD_set l (i := 6) (j := 11) (by decide)]
            exact ⟨v10, v11, v37, v38, v39, v40, v41, _, _, v44, rfl, by simp [hl], hB, g0, g1, g2, g3, g4, fun _ => rfl, fun _ => rfl, g7, h1, h2, k1, k2⟩
          · rintro l a w' hr ⟨v10, v11, v37, v38, v39, v40, v41, v42, v43, v44, rfl, hl, hB, g0, g1, g2, g3, g4, g5, g6, g7, h1, h2, k1, k2⟩
            have d4 : l.getD 4 false = true := (ready_dep hr rfl).2 ⟨4, .data⟩ (by simp) rfl
            have d6 : l.getD 6 false = true := (ready_dep hr rfl).2 ⟨6, .data⟩ (by simp) rfl
            obtain rfl := g4 d4
            obtain rfl := g6 d6
            refine wpOp_step rfl (fun K hK => ?_)
            clear hr
            go_simp
            refine (Scale_is _ _ _ _ _ _ _ X4 _).mono ?_
            rintro e w1 ⟨rfl, hk⟩
            dsimp only
            refine hK _ _ ?_
            simp only [getD_own (l := l) (i := 7) (by omega), getD_set l (i := 7) (j := 0) (by decide), getD_set l (i := 7) (j := 1) (by decide), getD_set l (i := 7) (j := 2) (by decide), getD_set l (i := 7) (j := 3) (by decide), getD_set l (i := 7) (j := 4) (by decide), getD_set l (i := 7) (j := 5) (by decide), getD_set l (i := 7) (j := 6) (by decide), getD_set l (i := 7) (j := 8) (by decide), getD_set l (i := 7) (j := 9) (by decide), getD_set l (i := 7) (j := 10) (by decide), getD_set l (i := 7) (j := 11) (by decide)]
            exact ⟨v10, v11, v37, v38, v39, v40, _, v42, _, _, rfl, by simp [hl], bstep hB hk, g0, g1, g2, g3, fun _ => rfl, g5, fun _ => rfl, fun _ => rfl, fun h => (by obtain ⟨b, e1, e2, e3, e4, e5⟩ := h1 h; exact ⟨b, e1, e2, e3, fun h => (e4 h).keep hk, fun h => (e5 h).keep hk⟩), fun h => (by obtain ⟨b, e1, e2, e4, e5⟩ := h2 h; exact ⟨b, e1, e2, fun h => (e4 h).keep hk, fun h => (e5 h).keep hk⟩), k1, k2⟩
          · rintro l a w' hr ⟨v10, v11, v37, v38, v39, v40, v41, v42, v43, v44, rfl, hl, hB, g0, g1, g2, g3, g4, g5, g6, g7, h1, h2, k1, k2⟩
            have hz := hB.size
            have lt2 : ∀ b, (l.getD 11 false = false → SpanAt w' b 0 0 false) → (l.getD 11 false = true → SpanAt w' b st1 st2 st3) → b < w'.heap.size := fun b x y => by cases hc : l.getD 11 false with | false => exact (x hc).lt | true => exact (y hc).lt
            have hn := (ready_dep hr rfl).1
            have hna : l.getD 8 false = false := by cases hc : l.getD 8 false with | false => rfl | true => (exfalso; have hs4 := getD_both hc; rw [hs4] at hn; cases hn)
            have hus : l.getD 10 false = false := by cases hc : l.getD 10 false with | false => rfl | true => (rw [k1 hc] at hna; cases hna)
            refine wpOp_step rfl (fun K hK => ?_)
            clear hr
            go_simp
            refine hK _ _ ?_
            simp only [getD_own (l := l) (i := 8) (by omega), getD_set l (i := 8) (j := 0) (by decide), getD_set l (i := 8) (j := 1) (by decide), getD_set l (i := 8) (j := 2) (by decide), getD_set l (i := 8) (j := 3) (by decide), getD_set l (i := 8) (j := 4) (by decide), getD_set l (i := 8) (j := 5) (by decide), getD_set l (i := 8) (j := 6) (by decide), getD_set l (i := 8) (j := 7) (by decide), getD_set l (i := 8) (j := 9) (by decide), getD_set l (i := 8) (j := 10) (by decide), getD_set l (i := 8) (j := 11) (by decide)]
            exact ⟨_, v11, v37, v38, v39, v40, v41, v42, v43, v44, rfl, by simp [hl], balloc hB _, g0, g1, g2, g3, g4, g5, g6, g7, fun _ => ⟨_, rfl, hz, fun h => (by obtain ⟨b, e1, e2, e4, e5⟩ := h2 h; rw [e1]; exact ptr_ne (Nat.ne_of_lt (lt2 b e4 e5))), fun _ => SpanAt.new rfl, fun h => (by rw [hus] at h; cases h)⟩, fun h => (by obtain ⟨b, e1, e2, e4, e5⟩ := h2 h; exact ⟨b, e1, e2, fun h => (e4 h).keep (balloc (brefl _) _), fun h => (e5 h).keep (balloc (brefl _) _)⟩), fun _ => (by first | rfl | trivial), k2⟩
          · rintro l a w' hr ⟨v10, v11, v37, v38, v39, v40, v41, v42, v43, v44, rfl, hl, hB, g0, g1, g2, g3, g4, g5, g6, g7, h1, h2, k1, k2⟩
            have hz := hB.size
            have lt1 : ∀ b, (l.getD 10 false = false → SpanAt w' b 0 0 false) → (l.getD 10 false = true → SpanAt w' b sr1 sr2 sr3) → b < w'.heap.size := fun b x y => by cases hc : l.getD 10 false with | false => exact (x hc).lt | true => exact (y hc).lt
            have hn := (ready_dep hr rfl).1
            have hna : l.getD 9 false = false := by cases hc : l.getD 9 false with | false => rfl | true => (exfalso; have hs4 := getD_both hc; rw [hs4] at hn; cases hn)
            have hus : l.getD 11 false = false := by cases hc : l.getD 11 false with | false => rfl | true => (rw [k2 hc] at hna; cases hna)
            refine wpOp_step rfl (fun K hK => ?_)
            clear hr
            go_simp
            refine hK _ _ ?_
            simp only [getD_own (l := l) (i := 9) (by omega), getD_set l (i := 9) (j := 0) (by decide), getD_set l (i := 9) (j := 1) (by decide), getD_set l (i := 9) (j := 2) (by decide), getD_set l (i := 9) (j := 3) (by decide), getD_set l (i := 9) (j := 4) (by decide), getD_set l (i := 9) (j := 5) (by decide), getD_set l (i := 9) (j := 6) (by decide), getD_set l (i := 9) (j := 7) (by decide), getD_set l (i := 9) (j := 8) (by decide), getD_set l (i := 9) (j := 10) (by decide), getD_set l (i := 9) (j := 11) (by decide)]
            exact ⟨v10, _, v37, v38, v39, v40, v41, v42, v43, v44, rfl, by simp [hl], balloc hB _, g0, g1, g2, g3, g4, g5, g6, g7, fun h => (by obtain ⟨b, e1, e2, e3, e4, e5⟩ := h1 h; exact ⟨b, e1, e2, fun _ => ptr_ne (Nat.ne_of_gt (lt1 b e4 e5)), fun h => (e4 h).keep (balloc (brefl _) _), fun h => (e5 h).keep (balloc (brefl _) _)⟩), fun _ => ⟨_, rfl, hz, fun _ => SpanAt.new rfl, fun h => (by rw [hus] at h; cases h)⟩, k1, fun _ => (by first | rfl | trivial)⟩
          · rintro l a w' hr ⟨v10, v11, v37, v38, v39, v40, v41, v42, v43, v44, rfl, hl, hB, g0, g1, g2, g3, g4, g5, g6, g7, h1, h2, k1, k2⟩
            have d8 : l.getD 8 false = true := (ready_dep hr rfl).2 ⟨8, .data⟩ (by simp) rfl
            have d3 : l.getD 3 false = true := (ready_dep hr rfl).2 ⟨3, .data⟩ (by simp) rfl
            obtain rfl := g3 d3
            have hn := (ready_dep hr rfl).1
            have hns : l.getD 10 false = false := by cases hc : l.getD 10 false with | false => rfl | true => (exfalso; have hs4 := getD_both hc; rw [hs4] at hn; cases hn)
            obtain ⟨b, rfl, hub, hne, e4, _⟩ := h1 d8
            have hS := e4 hns
            have hT := span_sets (x := sr1) (y := sr2) (z := sr3) hS
            have s0 := (hS).1.1
            have s1 := (hS).2.1.1
            have s2 := (hS).2.2.1
            have s3 := (hS).1.2
            have s4 := (hS).2.1.2
            have s5 := (hS).2.2.2
            refine wpOp_step rfl (fun K hK => ?_)
            clear hr
            clear hS e4
            go_simp
            refine hK _ _ ?_
            simp only [getD_own (l := l) (i := 10) (by omega), getD_set l (i := 10) (j := 0) (by decide), getD_set l (i := 10) (j := 1) (by decide), getD_set l (i := 10) (j := 2) (by decide), getD_set l (i := 10) (j := 3) (by decide), getD_set l (i := 10) (j := 4) (by decide), getD_set l (i := 10) (j := 5) (by decide), getD_set l (i := 10) (j := 6) (by decide), getD_set l (i := 10) (j := 7) (by decide), getD_set l (i := 10) (j := 8) (by decide), getD_set l (i := 10) (j := 9) (by decide), getD_set l (i := 10) (j := 11) (by decide)]
            exact ⟨_, v11, v37, v38, v39, _, v41, v42, v43, v44, rfl, by simp [hl], hB.trans (hT.2.2 _ hub), g0, g1, g2, fun _ => rfl, g4, g5, g6, g7, fun _ => ⟨b, rfl, hub, hne, fun h => (by cases h), fun _ => hT.1⟩, fun h => (by obtain ⟨b', e1, e2, x4, x5⟩ := h2 h; have hbb : b' ≠ b := fun hh => hne h (by rw [e1, hh]); exact ⟨b', e1, e2, fun h => hT.2.1 _ _ _ _ hbb (x4 h), fun h => hT.2.1 _ _ _ _ hbb (x5 h)⟩), fun _ => d8, k2⟩
          · rintro l a w' hr ⟨v10, v11, v37, v38, v39, v40, v41, v42, v43, v44, rfl, hl, hB, g0, g1, g2, g3, g4, g5, g6, g7, h1, h2, k1, k2⟩
            have d9 : l.getD 9 false = true := (ready_dep hr rfl).2 ⟨9, .data⟩ (by simp) rfl
            have d7 : l.getD 7 false = true := (ready_dep hr rfl).2 ⟨7, .data⟩ (by simp) rfl
            obtain rfl := g7 d7
            have hn := (ready_dep hr rfl).1
            have hns : l.getD 11 false = false := by cases hc : l.getD 11 false with | false => rfl | true => (exfalso; have hs4 := getD_both hc; rw [hs4] at hn; cases hn)
            obtain ⟨b, rfl, hub, e4, _⟩ := h2 d9
            have hS := e4 hns
            have hT := span_sets (x := st1) (y := st2) (z := st3) hS
            have s0 := (hS).1.1
            have s1 := (hS).2.1.1
            have s2 := (hS).2.2.1
            have s3 := (hS).1.2
            have s4 := (hS).2.1.2
            have s5 := (hS).2.2.2
            refine wpOp_step rfl (fun K hK => ?_)
            clear hr
            clear hS e4
            go_simp
            refine hK _ _ ?_
            simp only [getD_own (l := l) (i := 11) (by omega), getD_set l (i := 11) (j := 0) (by decide), getD_set l (i := 11) (j := 1) (by decide), getD_set l (i := 11) (j := 2) (by decide), getD_set l (i := 11) (j := 3) (by decide), getD_set l (i := 11) (j := 4) (by decide), getD_set l (i := 11) (j := 5) (by decide), getD_set l (i := 11) (j := 6) (by decide), getD_set l (i := 11) (j := 7) (by decide), getD_set l (i := 11) (j := 8) (by decide), getD_set l (i := 11) (j := 9) (by decide), getD_set l (i := 11) (j := 10) (by decide)]
            exact ⟨v10, _, v37, v38, v39, v40, v41, v42, v43, _, rfl, by simp [hl], hB.trans (hT.2.2 _ hub), g0, g1, g2, g3, g4, g5, g6, fun _ => rfl, fun h => (by obtain ⟨b', e1, e2, x3, x4, x5⟩ := h1 h; have hbb : b' ≠ b := fun hh => x3 d9 (by rw [hh]); exact ⟨b', e1, e2, x3, fun h => hT.2.1 _ _ _ _ hbb (x4 h), fun h => hT.2.1 _ _ _ _ hbb (x5 h)⟩), fun _ => ⟨b, rfl, hub, fun h => (by cases h), fun _ => hT.1⟩, k1, fun _ => d9⟩
        · rintro l a w' ⟨v10, v11, v37, v38, v39, v40, v41, v42, v43, v44, rfl, hl, hB, g0, g1, g2, g3, g4, g5, g6, g7, h1, h2, k1, k2⟩ hr
          have hall := ready_all (by decide) hl hr
          obtain ⟨b1, rfl, hub1, _, _, f1⟩ := h1 (hall 8 (by decide))
          have F1 := f1 (hall 10 (by decide))
          obtain ⟨b2, rfl, hub2, _, f2⟩ := h2 (hall 9 (by decide))
          have F2 := f2 (hall 11 (by decide))
          go_wp2_with fail
          go_meet
          exact ⟨b1, b2, rfl, rfl, Lib.hid (Below.trans hwd4 (hB.mono (Below.size hwd4))), Lib.hid ⟨CellF.keep hB qHdr0_0, CellF.keep hB qHdr0_1⟩, Lib.hid ⟨CellF.keep hB qHdr1_0, CellF.keep hB qHdr1_1, CellF.keep hB qHdr1_2⟩, Lib.hid ⟨CellF.keep hB qHX4_0, CellF.keep hB qHX4_1, CellF.keep hB qHX4_2⟩, Lib.hid ⟨CellF.keep hB qHY4_0, CellF.keep hB qHY4_1, CellF.keep hB qHY4_2⟩, Lib.hid F1, Lib.hid F2⟩
      case rest =>
        obtain ⟨bf, bg, rfl, rfl, HB, Hsr0, Hsr1, Hsr2, Hsr3, HX, HY⟩ := hcut
        have hwd5 := HB.out
        have qHsr0_0 := Hsr0.out.1
        have cHsr0_0 := qHsr0_0.1
        have qHsr0_1 := Hsr0.out.2
        have cHsr0_1 := qHsr0_1.1
        have zHsr0 := ltc cHsr0_0
        have qHsr1_0 := Hsr1.out.1
        have cHsr1_0 := qHsr1_0.1
        have qHsr1_1 := Hsr1.out.2.1
        have cHsr1_1 := qHsr1_1.1
        have qHsr1_2 := Hsr1.out.2.2
        have cHsr1_2 := qHsr1_2.1
        have zHsr1 := ltc cHsr1_0
        have qHsr2_0 := Hsr2.out.1
        have cHsr2_0 := qHsr2_0.1
        have qHsr2_1 := Hsr2.out.2.1
        have cHsr2_1 := qHsr2_1.1
        have qHsr2_2 := Hsr2.out.2.2
        have cHsr2_2 := qHsr2_2.1
        have zHsr2 := ltc cHsr2_0
        have qHsr3_0 := Hsr3.out.1
        have cHsr3_0 := qHsr3_0.1
        have qHsr3_1 := Hsr3.out.2.1
        have cHsr3_1 := qHsr3_1.1
        have qHsr3_2 := Hsr3.out.2.2
        have cHsr3_2 := qHsr3_2.1
        have zHsr3 := ltc cHsr3_0
        have qHX5_0 := HX.out.1
        have cHX5_0 := qHX5_0.1
        have qHX5_1 := HX.out.2.1
        have cHX5_1 := qHX5_1.1
        have qHX5_2 := HX.out.2.2
        have cHX5_2 := qHX5_2.1
        have zHX5 := ltc cHX5_0
        have qHY5_0 := HY.out.1
        have cHY5_0 := qHY5_0.1
        have qHY5_1 := HY.out.2.1
        have cHY5_1 := qHY5_1.1
        have qHY5_2 := HY.out.2.2
        have cHY5_2 := qHY5_2.1
        have zHY5 := ltc cHY5_0
        clear HB HX HY Hsr0 Hsr1 Hsr2 Hsr3
        have V1 := Lib.hid (e1 ▸ drift_within (s := ⟨lo, hi, k⟩) (n := n) (p := p0))
        have V2 := Lib.hid (e3 ▸ scale_within (s := ⟨lo, hi, k⟩) (p := p0))
        go_wp2_with fail
        refine (Within_is _ _ _ _ _ _ _ V1 _).mono ?_
        rintro e w3 ⟨rfl, hb3⟩
        have q3_4_0 : CellF w3 ⟨(w.heap.size + 1), 0, none⟩ (.int .i64 p0) := (by refine CellF.keep hb3 ?_; repeat (first | with_reducible exact qHsr0_0 | with_reducible exact CellF.at_ (by simp) rfl | with_reducible refine CellF.past _ ?_ | with_reducible refine CellF.drew ?_ | with_reducible refine CellF.drewN _ ?_))
        have c3_4_0 := q3_4_0.1
        have q3_4_1 : CellF w3 ⟨(w.heap.size + 1), 1, none⟩ (.int .i64 p1) := (by refine CellF.keep hb3 ?_; repeat (first | with_reducible exact qHsr0_1 | with_reducible exact CellF.at_ (by simp) rfl | with_reducible refine CellF.past _ ?_ | with_reducible refine CellF.drew ?_ | with_reducible refine CellF.drewN _ ?_))
        have c3_4_1 := q3_4_1.1
        have z3_4 : (w.heap.size + 1) < w3.heap.size := ltc c3_4_0
        have q3_5_0 : CellF w3 ⟨w1.heap.size, 0, none⟩ (.int .i64 lo) := (by refine CellF.keep hb3 ?_; repeat (first | with_reducible exact qHsr1_0 | with_reducible exact CellF.at_ (by simp) rfl | with_reducible refine CellF.past _ ?_ | with_reducible refine CellF.drew ?_ | with_reducible refine CellF.drewN _ ?_))
        have c3_5_0 := q3_5_0.1
        have q3_5_1 : CellF w3 ⟨w1.heap.size, 1, none⟩ (.int .i64 hi) := (by refine CellF.keep hb3 ?_; repeat (first | with_reducible exact qHsr1_1 | with_reducible exact CellF.at_ (by simp) rfl | with_reducible refine CellF.past _ ?_ | with_reducible refine CellF.drew ?_ | with_reducible refine CellF.drewN _ ?_))
        have c3_5_1 := q3_5_1.1
        have q3_5_2 : CellF w3 ⟨w1.heap.size, 2, none⟩ (.bool k) := (by refine CellF.keep hb3 ?_; repeat (first | with_reducible exact qHsr1_2 | with_reducible exact CellF.at_ (by simp) rfl | with_reducible refine CellF.past _ ?_ | with_reducible refine CellF.drew ?_ | with_reducible refine CellF.drewN _ ?_))
        have c3_5_2 := q3_5_2.1
        have z3_5 : w1.heap.size < w3.heap.size := ltc c3_5_0
        have q3_6_0 : CellF w3 ⟨bd, 0, none⟩ (.int .i64 dr1) := (by refine CellF.keep hb3 ?_; repeat (first | with_reducible exact qHsr2_0 | with_reducible exact CellF.at_ (by simp) rfl | with_reducible refine CellF.past _ ?_ | with_reducible refine CellF.drew ?_ | with_reducible refine CellF.drewN _ ?_))
        have c3_6_0 := q3_6_0.1
        have q3_6_1 : CellF w3 ⟨bd, 1, none⟩ (.int .i64 dr2) := (by refine CellF.keep hb3 ?_; repeat (first | with_reducible exact qHsr2_1 | with_reducible exact CellF.at_ (by simp) rfl | with_reducible refine CellF.past _ ?_ | with_reducible refine CellF.drew ?_ | with_reducible refine CellF.drewN _ ?_))
        have c3_6_1 := q3_6_1.1
        have q3_6_2 : CellF w3 ⟨bd, 2, none⟩ (.bool dr3) := (by refine CellF.keep hb3 ?_; repeat (first | with_reducible exact qHsr2_2 | with_reducible exact CellF.at_ (by simp) rfl | with_reducible refine CellF.past _ ?_ | with_reducible refine CellF.drew ?_ | with_reducible refine CellF.drewN _ ?_))
        have c3_6_2 := q3_6_2.1
        have z3_6 : bd < w3.heap.size := ltc c3_6_0
        have q3_7_0 : CellF w3 ⟨be, 0, none⟩ (.int .i64 dt1) := (by refine CellF.keep hb3 ?_; repeat (first | with_reducible exact qHsr3_0 | with_reducible exact CellF.at_ (by simp) rfl | with_reducible refine CellF.past _ ?_ | with_reducible refine CellF.drew ?_ | with_reducible refine CellF.drewN _ ?_))
        have c3_7_0 := q3_7_0.1
        have q3_7_1 : CellF w3 ⟨be, 1, none⟩ (.int .i64 dt2) := (by refine CellF.keep hb3 ?_; repeat (first | with_reducible exact qHsr3_1 | with_reducible exact CellF.at_ (by simp) rfl | with_reducible refine CellF.past _ ?_ | with_reducible refine CellF.drew ?_ | with_reducible refine CellF.drewN _ ?_))
        have c3_7_1 := q3_7_1.1
        have q3_7_2 : CellF w3 ⟨be, 2, none⟩ (.bool dt3) := (by refine CellF.keep hb3 ?_; repeat (first | with_reducible exact qHsr3_2 | with_reducible exact CellF.at_ (by simp) rfl | with_reducible refine CellF.past _ ?_ | with_reducible refine CellF.drew ?_ | with_reducible refine CellF.drewN _ ?_))
        have c3_7_2 := q3_7_2.1
        have z3_7 : be < w3.heap.size := ltc c3_7_0
        have q3_8_0 : CellF w3 ⟨bf, 0, none⟩ (.int .i64 sr1) := (by refine CellF.keep hb3 ?_; repeat (first | with_reducible exact qHX5_0 | with_reducible exact CellF.at_ (by simp) rfl | with_reducible refine CellF.past _ ?_ | with_reducible refine CellF.drew ?_ | with_reducible refine CellF.drewN _ ?_))
        have c3_8_0 := q3_8_0.1
        have q3_8_1 : CellF w3 ⟨bf, 1, none⟩ (.int .i64 sr2) := (by refine CellF.keep hb3 ?_; repeat (first | with_reducible exact qHX5_1 | with_reducible exact CellF.at_ (by simp) rfl | with_reducible refine CellF.past _ ?_ | with_reducible refine CellF.drew ?_ | with_reducible refine CellF.drewN _ ?_))
        have c3_8_1 := q3_8_1.1
        have q3_8_2 : CellF w3 ⟨bf, 2, none⟩ (.bool sr3) := (by refine CellF.keep hb3 ?_; repeat (first | with_reducible exact qHX5_2 | with_reducible exact CellF.at_ (by simp) rfl | with_reducible refine CellF.past _ ?_ | with_reducible refine CellF.drew ?_ | with_reducible refine CellF.drewN _ ?_))
        have c3_8_2 := q3_8_2.1
        have z3_8 : bf < w3.heap.size := ltc c3_8_0
        have q3_9_0 : CellF w3 ⟨bg, 0, none⟩ (.int .i64 st1) := (by refine CellF.keep hb3 ?_; repeat (first | with_reducible exact qHY5_0 | with_reducible exact CellF.at_ (by simp) rfl | with_reducible refine CellF.past _ ?_ | with_reducible refine CellF.drew ?_ | with_reducible refine CellF.drewN _ ?_))
        have c3_9_0 := q3_9_0.1
        have q3_9_1 : CellF w3 ⟨bg, 1, none⟩ (.int .i64 st2) := (by refine CellF.keep hb3 ?_; repeat (first | with_reducible exact qHY5_1 | with_reducible exact CellF.at_ (by simp) rfl | with_reducible refine CellF.past _ ?_ | with_reducible refine CellF.drew ?_ | with_reducible refine CellF.drewN _ ?_))
        have c3_9_1 := q3_9_1.1
        have q3_9_2 : CellF w3 ⟨bg, 2, none⟩ (.bool st3) := (by refine CellF.keep hb3 ?_; repeat (first | with_reducible exact qHY5_2 | with_reducible exact CellF.at_ (by simp) rfl | with_reducible refine CellF.past _ ?_ | with_reducible refine CellF.drew ?_ | with_reducible refine CellF.drewN _ ?_))
        have c3_9_2 := q3_9_2.1
        have z3_9 : bg < w3.heap.size := ltc c3_9_0
        clear qHsr0_0 cHsr0_0 qHsr0_1 cHsr0_1 zHsr0 qHsr1_0 cHsr1_0 qHsr1_1 cHsr1_1 qHsr1_2 cHsr1_2 zHsr1 qHsr2_0 cHsr2_0 qHsr2_1 cHsr2_1 qHsr2_2 cHsr2_2 zHsr2 qHsr3_0 cHsr3_0 qHsr3_1 cHsr3_1 qHsr3_2 cHsr3_2 zHsr3 qHX5_0 cHX5_0 qHX5_1 cHX5_1 qHX5_2 cHX5_2 zHX5 qHY5_0 cHY5_0 qHY5_1 cHY5_1 qHY5_2 cHY5_2 zHY5
        go_wp2_with fail
        refine (Within_is _ _ _ _ _ _ _ V2 _).mono ?_
        rintro e w4 ⟨rfl, hb4⟩
        have q4_10_0 : CellF w4 ⟨(w.heap.size + 1), 0, none⟩ (.int .i64 p0) := (by refine CellF.keep hb4 ?_; repeat (first | with_reducible exact q3_4_0 | with_reducible exact CellF.at_ (by simp) rfl | with_reducible refine CellF.past _ ?_ | with_reducible refine CellF.drew ?_ | with_reducible refine CellF.drewN _ ?_))
        have c4_10_0 := q4_10_0.1
        have q4_10_1 : CellF w4 ⟨(w.heap.size + 1), 1, none⟩ (.int .i64 p1) := (by refine CellF.keep hb4 ?_; repeat (first | with_reducible exact q3_4_1 | with_reducible exact CellF.at_ (by simp) rfl | with_reducible refine CellF.past _ ?_ | with_reducible refine CellF.drew ?_ | with_reducible refine CellF.drewN _ ?_))
        have c4_10_1 := q4_10_1.1
        have z4_10 : (w.heap.size + 1) < w4.heap.size := ltc c4_10_0
        have q4_11_0 : CellF w4 ⟨w1.heap.size, 0, none⟩ (.int .i64 lo) := (by refine CellF.keep hb4 ?_; repeat (first | with_reducible exact q3_5_0 | with_reducible exact CellF.at_ (by simp) rfl | with_reducible refine CellF.past _ ?_ | with_reducible refine CellF.drew ?_ | with_reducible refine CellF.drewN _ ?_))
        have c4_11_0 := q4_11_0.1
        have q4_11_1 : CellF w4 ⟨w1.heap.size, 1, none⟩ (.int .i64 hi) := (by refine CellF.keep hb4 ?_; repeat (first | with_reducible exact q3_5_1 | with_reducible exact CellF.at_ (by simp) rfl | with_reducible refine CellF.past _ ?_ | with_reducible refine CellF.drew ?_ | with_reducible refine CellF.drewN _ ?_))
        have c4_11_1 := q4_11_1.1
        have q4_11_2 : CellF w4 ⟨w1.heap.size, 2, none⟩ (.bool k) := (by refine CellF.keep hb4 ?_; repeat (first | with_reducible exact q3_5_2 | with_reducible exact CellF.at_ (by simp) rfl | with_reducible refine CellF.past _ ?_ | with_reducible refine CellF.drew ?_ | with_reducible refine CellF.drewN _ ?_))
        have c4_11_2 := q4_11_2.1
        have z4_11 : w1.heap.size < w4.heap.size := ltc c4_11_0
        have q4_12_0 : CellF w4 ⟨bd, 0, none⟩ (.int .i64 dr1) := (by refine CellF.keep hb4 ?_; repeat (first | with_reducible exact q3_6_0 | with_reducible exact CellF.at_ (by simp) rfl | with_reducible refine CellF.past _ ?_ | with_reducible refine CellF.drew ?_ | with_reducible refine CellF.drewN _ ?_))
        have c4_12_0 := q4_12_0.1
        have q4_12_1 : CellF w4 ⟨bd, 1, none⟩ (.int .i64 dr2) := (by refine CellF.keep hb4 ?_; repeat (first | with_reducible exact q3_6_1 | with_reducible exact CellF.at_ (by simp) rfl | with_reducible refine CellF.past _ ?_ | with_reducible refine CellF.drew ?_ | with_reducible refine CellF.drewN _ ?_))
        have c4_12_1 := q4_12_1.1
        have q4_12_2 : CellF w4 ⟨bd, 2, none⟩ (.bool dr3) := (by refine CellF.keep hb4 ?_; repeat (first | with_reducible exact q3_6_2 | with_reducible exact CellF.at_ (by simp) rfl | with_reducible refine CellF.past _ ?_ | with_reducible refine CellF.drew ?_ | with_reducible refine CellF.drewN _ ?_))
        have c4_12_2 := q4_12_2.1
        have z4_12 : bd < w4.heap.size := ltc c4_12_0
        have q4_13_0 : CellF w4 ⟨be, 0, none⟩ (.int .i64 dt1) := (by refine CellF.keep hb4 ?_; repeat (first | with_reducible exact q3_7_0 | with_reducible exact CellF.at_ (by simp) rfl | with_reducible refine CellF.past _ ?_ | with_reducible refine CellF.drew ?_ | with_reducible refine CellF.drewN _ ?_))
        have c4_13_0 := q4_13_0.1
        have q4_13_1 : CellF w4 ⟨be, 1, none⟩ (.int .i64 dt2) := (by refine CellF.keep hb4 ?_; repeat (first | with_reducible exact q3_7_1 | with_reducible exact CellF.at_ (by simp) rfl | with_reducible refine CellF.past _ ?_ | with_reducible refine CellF.drew ?_ | with_reducible refine CellF.drewN _ ?_))
        have c4_13_1 := q4_13_1.1
        have q4_13_2 : CellF w4 ⟨be, 2, none⟩ (.bool dt3) := (by refine CellF.keep hb4 ?_; repeat (first | with_reducible exact q3_7_2 | with_reducible exact CellF.at_ (by simp) rfl | with_reducible refine CellF.past _ ?_ | with_reducible refine CellF.drew ?_ | with_reducible refine CellF.drewN _ ?_))
        have c4_13_2 := q4_13_2.1
        have z4_13 : be < w4.heap.size := ltc c4_13_0
        have q4_14_0 : CellF w4 ⟨bf, 0, none⟩ (.int .i64 sr1) := (by refine CellF.keep hb4 ?_; repeat (first | with_reducible exact q3_8_0 | with_reducible exact CellF.at_ (by simp) rfl | with_reducible refine CellF.past _ ?_ | with_reducible refine CellF.drew ?_ | with_reducible refine CellF.drewN _ ?_))
        have c4_14_0 := q4_14_0.1
        have q4_14_1 : CellF w4 ⟨bf, 1, none⟩ (.int .i64 sr2) := (by refine CellF.keep hb4 ?_; repeat (first | with_reducible exact q3_8_1 | with_reducible exact CellF.at_ (by simp) rfl | with_reducible refine CellF.past _ ?_ | with_reducible refine CellF.drew ?_ | with_reducible refine CellF.drewN _ ?_))
        have c4_14_1 := q4_14_1.1
        have q4_14_2 : CellF w4 ⟨bf, 2, none⟩ (.bool sr3) := (by refine CellF.keep hb4 ?_; repeat (first | with_reducible exact q3_8_2 | with_reducible exact CellF.at_ (by simp) rfl | with_reducible refine CellF.past _ ?_ | with_reducible refine CellF.drew ?_ | with_reducible refine CellF.drewN _ ?_))
        have c4_14_2 := q4_14_2.1
        have z4_14 : bf < w4.heap.size := ltc c4_14_0
        have q4_15_0 : CellF w4 ⟨bg, 0, none⟩ (.int .i64 st1) := (by refine CellF.keep hb4 ?_; repeat (first | with_reducible exact q3_9_0 | with_reducible exact CellF.at_ (by simp) rfl | with_reducible refine CellF.past _ ?_ | with_reducible refine CellF.drew ?_ | with_reducible refine CellF.drewN _ ?_))
        have c4_15_0 := q4_15_0.1
        have q4_15_1 : CellF w4 ⟨bg, 1, none⟩ (.int .i64 st2) := (by refine CellF.keep hb4 ?_; repeat (first | with_reducible exact q3_9_1 | with_reducible exact CellF.at_ (by simp) rfl | with_reducible refine CellF.past _ ?_ | with_reducible refine CellF.drew ?_ | with_reducible refine CellF.drewN _ ?_))
        have c4_15_1 := q4_15_1.1
        have q4_15_2 : CellF w4 ⟨bg, 2, none⟩ (.bool st3) := (by refine CellF.keep hb4 ?_; repeat (first | with_reducible exact q3_9_2 | with_reducible exact CellF.at_ (by simp) rfl | with_reducible refine CellF.past _ ?_ | with_reducible refine CellF.drew ?_ | with_reducible refine CellF.drewN _ ?_))
        have c4_15_2 := q4_15_2.1
        have z4_15 : bg < w4.heap.size := ltc c4_15_0
        clear q3_4_0 c3_4_0 q3_4_1 c3_4_1 z3_4 q3_5_0 c3_5_0 q3_5_1 c3_5_1 q3_5_2 c3_5_2 z3_5 q3_6_0 c3_6_0 q3_6_1 c3_6_1 q3_6_2 c3_6_2 z3_6 q3_7_0 c3_7_0 q3_7_1 c3_7_1 q3_7_2 c3_7_2 z3_7 q3_8_0 c3_8_0 q3_8_1 c3_8_1 q3_8_2 c3_8_2 z3_8 q3_9_0 c3_9_0 q3_9_1 c3_9_1 q3_9_2 c3_9_2 z3_9
        by_cases z1 : p1 < p0
        ·
          go_wp2_with fail
          refine (alive_is _).mono ?_
          rintro e w5 ⟨rfl, hb5⟩
          have q5_16_0 : CellF w5 ⟨(w.heap.size + 1), 0, none⟩ (.int .i64 p0) := (by refine CellF.keep hb5 ?_; repeat (first | with_reducible exact q4_10_0 | with_reducible exact CellF.at_ (by simp) rfl | with_reducible refine CellF.past _ ?_ | with_reducible refine CellF.drew ?_ | with_reducible refine CellF.drewN _ ?_))
          have c5_16_0 := q5_16_0.1
          have q5_16_1 : CellF w5 ⟨(w.heap.size + 1), 1, none⟩ (.int .i64 p1) := (by refine CellF.keep hb5 ?_; repeat (first | with_reducible exact q4_10_1 | with_reducible exact CellF.at_ (by simp) rfl | with_reducible refine CellF.past _ ?_ | with_reducible refine CellF.drew ?_ | with_reducible refine CellF.drewN _ ?_))
          have c5_16_1 := q5_16_1.1
          have z5_16 : (w.heap.size + 1) < w5.heap.size := ltc c5_16_0
          have q5_17_0 : CellF w5 ⟨bd, 0, none⟩ (.int .i64 dr1) := (by refine CellF.keep hb5 ?_; repeat (first | with_reducible exact q4_12_0 | with_reducible exact CellF.at_ (by simp) rfl | with_reducible refine CellF.past _ ?_ | with_reducible refine CellF.drew ?_ | with_reducible refine CellF.drewN _ ?_))
          have c5_17_0 := q5_17_0.1
          have q5_17_1 : CellF w5 ⟨bd, 1, none⟩ (.int .i64 dr2) := (by refine CellF.keep hb5 ?_; repeat (first | with_reducible exact q4_12_1 | with_reducible exact CellF.at_ (by simp) rfl | with_reducible refine CellF.past _ ?_ | with_reducible refine CellF.drew ?_ | with_reducible refine CellF.drewN _ ?_))
          have c5_17_1 := q5_17_1.1
          have q5_17_2 : CellF w5 ⟨bd, 2, none⟩ (.bool dr3) := (by refine CellF.keep hb5 ?_; repeat (first | with_reducible exact q4_12_2 | with_reducible exact CellF.at_ (by simp) rfl | with_reducible refine CellF.past _ ?_ | with_reducible refine CellF.drew ?_ | with_reducible refine CellF.drewN _ ?_))
          have c5_17_2 := q5_17_2.1
          have z5_17 : bd < w5.heap.size := ltc c5_17_0
          have q5_18_0 : CellF w5 ⟨be, 0, none⟩ (.int .i64 dt1) := (by refine CellF.keep hb5 ?_; repeat (first | with_reducible exact q4_13_0 | with_reducible exact CellF.at_ (by simp) rfl | with_reducible refine CellF.past _ ?_ | with_reducible refine CellF.drew ?_ | with_reducible refine CellF.drewN _ ?_))
          have c5_18_0 := q5_18_0.1
          have q5_18_1 : CellF w5 ⟨be, 1, none⟩ (.int .i64 dt2) := (by refine CellF.keep hb5 ?_; repeat (first | with_reducible exact q4_13_1 | with_reducible exact CellF.at_ (by simp) rfl | with_reducible refine CellF.past _ ?_ | with_reducible refine CellF.drew ?_ | with_reducible refine CellF.drewN _ ?_))
          have c5_18_1 := q5_18_1.1
          have q5_18_2 : CellF w5 ⟨be, 2, none⟩ (.bool dt3) := (by refine CellF.keep hb5 ?_; repeat (first | with_reducible exact q4_13_2 | with_reducible exact CellF.at_ (by simp) rfl | with_reducible refine CellF.past _ ?_ | with_reducible refine CellF.drew ?_ | with_reducible refine CellF.drewN _ ?_))
          have c5_18_2 := q5_18_2.1
          have z5_18 : be < w5.heap.size := ltc c5_18_0
          have q5_19_0 : CellF w5 ⟨bf, 0, none⟩ (.int .i64 sr1) := (by refine CellF.keep hb5 ?_; repeat (first | with_reducible exact q4_14_0 | with_reducible exact CellF.at_ (by simp) rfl | with_reducible refine CellF.past _ ?_ | with_reducible refine CellF.drew ?_ | with_reducible refine CellF.drewN _ ?_))
          have c5_19_0 := q5_19_0.1
          have q5_19_1 : CellF w5 ⟨bf, 1, none⟩ (.int .i64 sr2) := (by refine CellF.keep hb5 ?_; repeat (first | with_reducible exact q4_14_1 | with_reducible exact CellF.at_ (by simp) rfl | with_reducible refine CellF.past _ ?_ | with_reducible refine CellF.drew ?_ | with_reducible refine CellF.drewN _ ?_))
          have c5_19_1 := q5_19_1.1
          have q5_19_2 : CellF w5 ⟨bf, 2, none⟩ (.bool sr3) := (by refine CellF.keep hb5 ?_; repeat (first | with_reducible exact q4_14_2 | with_reducible exact CellF.at_ (by simp) rfl | with_reducible refine CellF.past _ ?_ | with_reducible refine CellF.drew ?_ | with_reducible refine CellF.drewN _ ?_))
          have c5_19_2 := q5_19_2.1
          have z5_19 : bf < w5.heap.size := ltc c5_19_0
          have q5_20_0 : CellF w5 ⟨bg, 0, none⟩ (.int .i64 st1) := (by refine CellF.keep hb5 ?_; repeat (first | with_reducible exact q4_15_0 | with_reducible exact CellF.at_ (by simp) rfl | with_reducible refine CellF.past _ ?_ | with_reducible refine CellF.drew ?_ | with_reducible refine CellF.drewN _ ?_))
          have c5_20_0 := q5_20_0.1
          have q5_20_1 : CellF w5 ⟨bg, 1, none⟩ (.int .i64 st2) := (by refine CellF.keep hb5 ?_; repeat (first | with_reducible exact q4_15_1 | with_reducible exact CellF.at_ (by simp) rfl | with_reducible refine CellF.past _ ?_ | with_reducible refine CellF.drew ?_ | with_reducible refine CellF.drewN _ ?_))
          have c5_20_1 := q5_20_1.1
          have q5_20_2 : CellF w5 ⟨bg, 2, none⟩ (.bool st3) := (by refine CellF.keep hb5 ?_; repeat (first | with_reducible exact q4_15_2 | with_reducible exact CellF.at_ (by simp) rfl | with_reducible refine CellF.past _ ?_ | with_reducible refine CellF.drew ?_ | with_reducible refine CellF.drewN _ ?_))
          have c5_20_2 := q5_20_2.1
          have z5_20 : bg < w5.heap.size := ltc c5_20_0
          clear q4_11_0 c4_11_0 q4_11_1 c4_11_1 q4_11_2 c4_11_2 z4_11 q4_10_0 c4_10_0 q4_10_1 c4_10_1 z4_10 q4_12_0 c4_12_0 q4_12_1 c4_12_1 q4_12_2 c4_12_2 z4_12 q4_13_0 c4_13_0 q4_13_1 c4_13_1 q4_13_2 c4_13_2 z4_13 q4_14_0 c4_14_0 q4_14_1 c4_14_1 q4_14_2 c4_14_2 z4_14 q4_15_0 c4_15_0 q4_15_1 c4_15_1 q4_15_2 c4_15_2 z4_15
          all_goals (go_wp2; go_ret; exact ⟨rfl, (by repeat (first | exact brefl _ | refine balloc ?_ _ | refine bdrewN ?_ _ | refine bset ?_ (by dsimp only; omega) _ | refine bstep ?_ (by assumption)))⟩)
        have q1 := Int.not_lt.1 z1
        by_cases z2 : p0 < 0
        ·
          go_wp2_with fail
          refine (alive_is _).mono ?_
          rintro e w5 ⟨rfl, hb5⟩
          have q5_16_0 : CellF w5 ⟨(w.heap.size + 1), 0, none⟩ (.int .i64 p0) := (by refine CellF.keep hb5 ?_; repeat (first | with_reducible exact q4_10_0 | with_reducible exact CellF.at_ (by simp) rfl | with_reducible refine CellF.past _ ?_ | with_reducible refine CellF.drew ?_ | with_reducible refine CellF.drewN _ ?_))
          have c5_16_0 := q5_16_0.1
          have q5_16_1 : CellF w5 ⟨(w.heap.size + 1), 1, none⟩ (.int .i64 p1) := (by refine CellF.keep hb5 ?_; repeat (first | with_reducible exact q4_10_1 | with_reducible exact CellF.at_ (by simp) rfl | with_reducible refine CellF.past _ ?_ | with_reducible refine CellF.drew ?_ | with_reducible refine CellF.drewN _ ?_))
          have c5_16_1 := q5_16_1.1
          have z5_16 : (w.heap.size + 1) < w5.heap.size := ltc c5_16_0
          have q5_17_0 : CellF w5 ⟨bd, 0, none⟩ (.int .i64 dr1) := (by refine CellF.keep hb5 ?_; repeat (first | with_reducible exact q4_12_0 | with_reducible exact CellF.at_ (by simp) rfl | with_reducible refine CellF.past _ ?_ | with_reducible refine CellF.drew ?_ | with_reducible refine CellF.drewN _ ?_))
          have c5_17_0 := q5_17_0.1
          have q5_17_1 : CellF w5 ⟨bd, 1, none⟩ (.int .i64 dr2) := (by refine CellF.keep hb5 ?_; repeat (first | with_reducible exact q4_12_1 | with_reducible exact CellF.at_ (by simp) rfl | with_reducible refine CellF.past _ ?_ | with_reducible refine CellF.drew ?_ | with_reducible refine CellF.drewN _ ?_))
          have c5_17_1 := q5_17_1.1
          have q5_17_2 : CellF w5 ⟨bd, 2, none⟩ (.bool dr3) := (by refine CellF.keep hb5 ?_; repeat (first | with_reducible exact q4_12_2 | with_reducible exact CellF.at_ (by simp) rfl | with_reducible refine CellF.past _ ?_ | with_reducible refine CellF.drew ?_ | with_reducible refine CellF.drewN _ ?_))
          have c5_17_2 := q5_17_2.1
          have z5_17 : bd < w5.heap.size := ltc c5_17_0
          have q5_18_0 : CellF w5 ⟨be, 0, none⟩ (.int .i64 dt1) := (by refine CellF.keep hb5 ?_; repeat (first | with_reducible exact q4_13_0 | with_reducible exact CellF.at_ (by simp) rfl | with_reducible refine CellF.past _ ?_ | with_reducible refine CellF.drew ?_ | with_reducible refine CellF.drewN _ ?_))
          have c5_18_0 := q5_18_0.1
          have q5_18_1 : CellF w5 ⟨be, 1, none⟩ (.int .i64 dt2) := (by refine CellF.keep hb5 ?_; repeat (first | with_reducible exact q4_13_1 | with_reducible exact CellF.at_ (by simp) rfl | with_reducible refine CellF.past _ ?_ | with_reducible refine CellF.drew ?_ | with_reducible refine CellF.drewN _ ?_))
          have c5_18_1 := q5_18_1.1
          have q5_18_2 : CellF w5 ⟨be, 2, none⟩ (.bool dt3) := (by refine CellF.keep hb5 ?_; repeat (first | with_reducible exact q4_13_2 | with_reducible exact CellF.at_ (by simp) rfl | with_reducible refine CellF.past _ ?_ | with_reducible refine CellF.drew ?_ | with_reducible refine CellF.drewN _ ?_))
          have c5_18_2 := q5_18_2.1
          have z5_18 : be < w5.heap.size := ltc c5_18_0
          have q5_19_0 : CellF w5 ⟨bf, 0, none⟩ (.int .i64 sr1) := (by refine CellF.keep hb5 ?_; repeat (first | with_reducible exact q4_14_0 | with_reducible exact CellF.at_ (by simp) rfl | with_reducible refine CellF.past _ ?_ | with_reducible refine CellF.drew ?_ | with_reducible refine CellF.drewN _ ?_))
          have c5_19_0 := q5_19_0.1
          have q5_19_1 : CellF w5 ⟨bf, 1, none⟩ (.int .i64 sr2) := (by refine CellF.keep hb5 ?_; repeat (first | with_reducible exact q4_14_1 | with_reducible exact CellF.at_ (by simp) rfl | with_reducible refine CellF.past _ ?_ | with_reducible refine CellF.drew ?_ | with_reducible refine CellF.drewN _ ?_))
          have c5_19_1 := q5_19_1.1
          have q5_19_2 : CellF w5 ⟨bf, 2, none⟩ (.bool sr3) := (by refine CellF.keep hb5 ?_; repeat (first | with_reducible exact q4_14_2 | with_reducible exact CellF.at_ (by simp) rfl | with_reducible refine CellF.past _ ?_ | with_reducible refine CellF.drew ?_ | with_reducible refine CellF.drewN _ ?_))
          have c5_19_2 := q5_19_2.1
          have z5_19 : bf < w5.heap.size := ltc c5_19_0
          have q5_20_0 : CellF w5 ⟨bg, 0, none⟩ (.int .i64 st1) := (by refine CellF.keep hb5 ?_; repeat (first | with_reducible exact q4_15_0 | with_reducible exact CellF.at_ (by simp) rfl | with_reducible refine CellF.past _ ?_ | with_reducible refine CellF.drew ?_ | with_reducible refine CellF.drewN _ ?_))
          have c5_20_0 := q5_20_0.1
          have q5_20_1 : CellF w5 ⟨bg, 1, none⟩ (.int .i64 st2) := (by refine CellF.keep hb5 ?_; repeat (first | with_reducible exact q4_15_1 | with_reducible exact CellF.at_ (by simp) rfl | with_reducible refine CellF.past _ ?_ | with_reducible refine CellF.drew ?_ | with_reducible refine CellF.drewN _ ?_))
          have c5_20_1 := q5_20_1.1
          have q5_20_2 : CellF w5 ⟨bg, 2, none⟩ (.bool st3) := (by refine CellF.keep hb5 ?_; repeat (first | with_reducible exact q4_15_2 | with_reducible exact CellF.at_ (by simp) rfl | with_reducible refine CellF.past _ ?_ | with_reducible refine CellF.drew ?_ | with_reducible refine CellF.drewN _ ?_))
          have c5_20_2 := q5_20_2.1
          have z5_20 : bg < w5.heap.size := ltc c5_20_0
          clear q4_11_0 c4_11_0 q4_11_1 c4_11_1 q4_11_2 c4_11_2 z4_11 q4_10_0 c4_10_0 q4_10_1 c4_10_1 z4_10 q4_12_0 c4_12_0 q4_12_1 c4_12_1 q4_12_2 c4_12_2 z4_12 q4_13_0 c4_13_0 q4_13_1 c4_13_1 q4_13_2 c4_13_2 z4_13 q4_14_0 c4_14_0 q4_14_1 c4_14_1 q4_14_2 c4_14_2 z4_14 q4_15_0 c4_15_0 q4_15_1 c4_15_1 q4_15_2 c4_15_2 z4_15
          all_goals (go_wp2; go_ret; exact ⟨rfl, (by repeat (first | exact brefl _ | refine balloc ?_ _ | refine bdrewN ?_ _ | refine bset ?_ (by dsimp only; omega) _ | refine bstep ?_ (by assumption)))⟩)
        have q2 := Int.not_lt.1 z2
        by_cases z3 : 1000000000 < p1
        ·
          go_wp2_with fail
          refine (alive_is _).mono ?_
          rintro e w5 ⟨rfl, hb5⟩
          have q5_16_0 : CellF w5 ⟨(w.heap.size + 1), 0, none⟩ (.int .i64 p0) := (by refine CellF.keep hb5 ?_; repeat (first | with_reducible exact q4_10_0 | with_reducible exact CellF.at_ (by simp) rfl | with_reducible refine CellF.past _ ?_ | with_reducible refine CellF.drew ?_ | with_reducible refine CellF.drewN _ ?_))
          have c5_16_0 := q5_16_0.1
          have q5_16_1 : CellF w5 ⟨(w.heap.size + 1), 1, none⟩ (.int .i64 p1) := (by refine CellF.keep hb5 ?_; repeat (first | with_reducible exact q4_10_1 | with_reducible exact CellF.at_ (by simp) rfl | with_reducible refine CellF.past _ ?_ | with_reducible refine CellF.drew ?_ | with_reducible refine CellF.drewN _ ?_))
          have c5_16_1 := q5_16_1.1
          have z5_16 : (w.heap.size + 1) < w5.heap.size := ltc c5_16_0
          have q5_17_0 : CellF w5 ⟨bd, 0, none⟩ (.int .i64 dr1) := (by refine CellF.keep hb5 ?_; repeat (first | with_reducible exact q4_12_0 | with_reducible exact CellF.at_ (by simp) rfl | with_reducible refine CellF.past _ ?_ | with_reducible refine CellF.drew ?_ | with_reducible refine CellF.drewN _ ?_))
          have c5_17_0 := q5_17_0.1
          have q5_17_1 : CellF w5 ⟨bd, 1, none⟩ (.int .i64 dr2) := (by refine CellF.keep hb5 ?_; repeat (first | with_reducible exact q4_12_1 | with_reducible exact CellF.at_ (by simp) rfl | with_reducible refine CellF.past _ ?_ | with_reducible refine CellF.drew ?_ | with_reducible refine CellF.drewN _ ?_))
          have c5_17_1 := q5_17_1.1
          have q5_17_2 : CellF w5 ⟨bd, 2, none⟩ (.bool dr3) := (by refine CellF.keep hb5 ?_; repeat (first | with_reducible exact q4_12_2 | with_reducible exact CellF.at_ (by simp) rfl | with_reducible refine CellF.past _ ?_ | with_reducible refine CellF.drew ?_ | with_reducible refine CellF.drewN _ ?_))
          have c5_17_2 := q5_17_2.1
          have z5_17 : bd < w5.heap.size := ltc c5_17_0
          have q5_18_0 : CellF w5 ⟨be, 0, none⟩ (.int .i64 dt1) := (by refine CellF.keep hb5 ?_; repeat (first | with_reducible exact q4_13_0 | with_reducible exact CellF.at_ (by simp) rfl | with_reducible refine CellF.past _ ?_ | with_reducible refine CellF.drew ?_ | with_reducible refine CellF.drewN _ ?_))
          have c5_18_0 := q5_18_0.1
          have q5_18_1 : CellF w5 ⟨be, 1, none⟩ (.int .i64 dt2) := (by refine CellF.keep hb5 ?_; repeat (first | with_reducible exact q4_13_1 | with_reducible exact CellF.at_ (by simp) rfl | with_reducible refine CellF.past _ ?_ | with_reducible refine CellF.drew ?_ | with_reducible refine CellF.drewN _ ?_))
          have c5_18_1 := q5_18_1.1
          have q5_18_2 : CellF w5 ⟨be, 2, none⟩ (.bool dt3) := (by refine CellF.keep hb5 ?_; repeat (first | with_reducible exact q4_13_2 | with_reducible exact CellF.at_ (by simp) rfl | with_reducible refine CellF.past _ ?_ | with_reducible refine CellF.drew ?_ | with_reducible refine CellF.drewN _ ?_))
          have c5_18_2 := q5_18_2.1
          have z5_18 : be < w5.heap.size := ltc c5_18_0
          have q5_19_0 : CellF w5 ⟨bf, 0, none⟩ (.int .i64 sr1) := (by refine CellF.keep hb5 ?_; repeat (first | with_reducible exact q4_14_0 | with_reducible exact CellF.at_ (by simp) rfl | with_reducible refine CellF.past _ ?_ | with_reducible refine CellF.drew ?_ | with_reducible refine CellF.drewN _ ?_))
          have c5_19_0 := q5_19_0.1
          have q5_19_1 : CellF w5 ⟨bf, 1, none⟩ (.int .i64 sr2) := (by refine CellF.keep hb5 ?_; repeat (first | with_reducible exact q4_14_1 | with_reducible exact CellF.at_ (by simp) rfl | with_reducible refine CellF.past _ ?_ | with_reducible refine CellF.drew ?_ | with_reducible refine CellF.drewN _ ?_))
          have c5_19_1 := q5_19_1.1
          have q5_19_2 : CellF w5 ⟨bf, 2, none⟩ (.bool sr3) := (by refine CellF.keep hb5 ?_; repeat (first | with_reducible exact q4_14_2 | with_reducible exact CellF.at_ (by simp) rfl | with_reducible refine CellF.past _ ?_ | with_reducible refine CellF.drew ?_ | with_reducible refine CellF.drewN _ ?_))
          have c5_19_2 := q5_19_2.1
          have z5_19 : bf < w5.heap.size := ltc c5_19_0
          have q5_20_0 : CellF w5 ⟨bg, 0, none⟩ (.int .i64 st1) := (by refine CellF.keep hb5 ?_; repeat (first | with_reducible exact q4_15_0 | with_reducible exact CellF.at_ (by simp) rfl | with_reducible refine CellF.past _ ?_ | with_reducible refine CellF.drew ?_ | with_reducible refine CellF.drewN _ ?_))
          have c5_20_0 := q5_20_0.1
          have q5_20_1 : CellF w5 ⟨bg, 1, none⟩ (.int .i64 st2) := (by refine CellF.keep hb5 ?_; repeat (first | with_reducible exact q4_15_1 | with_reducible exact CellF.at_ (by simp) rfl | with_reducible refine CellF.past _ ?_ | with_reducible refine CellF.drew ?_ | with_reducible refine CellF.drewN _ ?_))
          have c5_20_1 := q5_20_1.1
          have q5_20_2 : CellF w5 ⟨bg, 2, none⟩ (.bool st3) := (by refine CellF.keep hb5 ?_; repeat (first | with_reducible exact q4_15_2 | with_reducible exact CellF.at_ (by simp) rfl | with_reducible refine CellF.past _ ?_ | with_reducible refine CellF.drew ?_ | with_reducible refine CellF.drewN _ ?_))
          have c5_20_2 := q5_20_2.1
          have z5_20 : bg < w5.heap.size := ltc c5_20_0
          clear q4_11_0 c4_11_0 q4_11_1 c4_11_1 q4_11_2 c4_11_2 z4_11 q4_10_0 c4_10_0 q4_10_1 c4_10_1 z4_10 q4_12_0 c4_12_0 q4_12_1 c4_12_1 q4_12_2 c4_12_2 z4_12 q4_13_0 c4_13_0 q4_13_1 c4_13_1 q4_13_2 c4_13_2 z4_13 q4_14_0 c4_14_0 q4_14_1 c4_14_1 q4_14_2 c4_14_2 z4_14 q4_15_0 c4_15_0 q4_15_1 c4_15_1 q4_15_2 c4_15_2 z4_15
          all_goals (go_wp2; go_ret; exact ⟨rfl, (by repeat (first | exact brefl _ | refine balloc ?_ _ | refine bdrewN ?_ _ | refine bset ?_ (by dsimp only; omega) _ | refine bstep ?_ (by assumption)))⟩)
        have q3 := Int.not_lt.1 z3
        have V3 := Lib.hid (drift_more (s := ⟨lo, hi, k⟩) (n := n) q2 q1 q3)
        rw [e1, e2] at V3
        have V4 := Lib.hid (scale_more (s := ⟨lo, hi, k⟩) q2 q1 q3)
        rw [e3, e4] at V4
        go_wp2_with fail
        refine (alive_is _).mono ?_
        rintro e w5 ⟨rfl, hb5⟩
        have q5_16_0 : CellF w5 ⟨(w.heap.size + 1), 0, none⟩ (.int .i64 p0) := (by refine CellF.keep hb5 ?_; repeat (first | with_reducible exact q4_10_0 | with_reducible exact CellF.at_ (by simp) rfl | with_reducible refine CellF.past _ ?_ | with_reducible refine CellF.drew ?_ | with_reducible refine CellF.drewN _ ?_))
        have c5_16_0 := q5_16_0.1
        have q5_16_1 : CellF w5 ⟨(w.heap.size + 1), 1, none⟩ (.int .i64 p1) := (by refine CellF.keep hb5 ?_; repeat (first | with_reducible exact q4_10_1 | with_reducible exact CellF.at_ (by simp) rfl | with_reducible refine CellF.past _ ?_ | with_reducible refine CellF.drew ?_ | with_reducible refine CellF.drewN _ ?_))
        have c5_16_1 := q5_16_1.1
        have z5_16 : (w.heap.size + 1) < w5.heap.size := ltc c5_16_0
        have q5_17_0 : CellF w5 ⟨bd, 0, none⟩ (.int .i64 dr1) := (by refine CellF.keep hb5 ?_; repeat (first | with_reducible exact q4_12_0 | with_reducible exact CellF.at_ (by simp) rfl | with_reducible refine CellF.past _ ?_ | with_reducible refine CellF.drew ?_ | with_reducible refine CellF.drewN _ ?_))
        have c5_17_0 := q5_17_0.1
        have q5_17_1 : CellF w5 ⟨bd, 1, none⟩ (.int .i64 dr2) := (by refine CellF.keep hb5 ?_; repeat (first | with_reducible exact q4_12_1 | with_reducible exact CellF.at_ (by simp) rfl | with_reducible refine CellF.past _ ?_ | with_reducible refine CellF.drew ?_ | with_reducible refine CellF.drewN _ ?_))
        have c5_17_1 := q5_17_1.1
        have q5_17_2 : CellF w5 ⟨bd, 2, none⟩ (.bool dr3) := (by refine CellF.keep hb5 ?_; repeat (first | with_reducible exact q4_12_2 | with_reducible exact CellF.at_ (by simp) rfl | with_reducible refine CellF.past _ ?_ | with_reducible refine CellF.drew ?_ | with_reducible refine CellF.drewN _ ?_))
        have c5_17_2 := q5_17_2.1
        have z5_17 : bd < w5.heap.size := ltc c5_17_0
        have q5_18_0 : CellF w5 ⟨be, 0, none⟩ (.int .i64 dt1) := (by refine CellF.keep hb5 ?_; repeat (first | with_reducible exact q4_13_0 | with_reducible exact CellF.at_ (by simp) rfl | with_reducible refine CellF.past _ ?_ | with_reducible refine CellF.drew ?_ | with_reducible refine CellF.drewN _ ?_))
        have c5_18_0 := q5_18_0.1
        have q5_18_1 : CellF w5 ⟨be, 1, none⟩ (.int .i64 dt2) := (by refine CellF.keep hb5 ?_; repeat (first | with_reducible exact q4_13_1 | with_reducible exact CellF.at_ (by simp) rfl | with_reducible refine CellF.past _ ?_ | with_reducible refine CellF.drew ?_ | with_reducible refine CellF.drewN _ ?_))
        have c5_18_1 := q5_18_1.1
        have q5_18_2 : CellF w5 ⟨be, 2, none⟩ (.bool dt3) := (by refine CellF.keep hb5 ?_; repeat (first | with_reducible exact q4_13_2 | with_reducible exact CellF.at_ (by simp) rfl | with_reducible refine CellF.past _ ?_ | with_reducible refine CellF.drew ?_ | with_reducible refine CellF.drewN _ ?_))
        have c5_18_2 := q5_18_2.1
        have z5_18 : be < w5.heap.size := ltc c5_18_0
        have q5_19_0 : CellF w5 ⟨bf, 0, none⟩ (.int .i64 sr1) := (by refine CellF.keep hb5 ?_; repeat (first | with_reducible exact q4_14_0 | with_reducible exact CellF.at_ (by simp) rfl | with_reducible refine CellF.past _ ?_ | with_reducible refine CellF.drew ?_ | with_reducible refine CellF.drewN _ ?_))
        have c5_19_0 := q5_19_0.1
        have q5_19_1 : CellF w5 ⟨bf, 1, none⟩ (.int .i64 sr2) := (by refine CellF.keep hb5 ?_; repeat (first | with_reducible exact q4_14_1 | with_reducible exact CellF.at_ (by simp) rfl | with_reducible refine CellF.past _ ?_ | with_reducible refine CellF.drew ?_ | with_reducible refine CellF.drewN _ ?_))
        have c5_19_1 := q5_19_1.1
        have q5_19_2 : CellF w5 ⟨bf, 2, none⟩ (.bool sr3) := (by refine CellF.keep hb5 ?_; repeat (first | with_reducible exact q4_14_2 | with_reducible exact CellF.at_ (by simp) rfl | with_reducible refine CellF.past _ ?_ | with_reducible refine CellF.drew ?_ | with_reducible refine CellF.drewN _ ?_))
        have c5_19_2 := q5_19_2.1
        have z5_19 : bf < w5.heap.size := ltc c5_19_0
        have q5_20_0 : CellF w5 ⟨bg, 0, none⟩ (.int .i64 st1) := (by refine CellF.keep hb5 ?_; repeat (first | with_reducible exact q4_15_0 | with_reducible exact CellF.at_ (by simp) rfl | with_reducible refine CellF.past _ ?_ | with_reducible refine CellF.drew ?_ | with_reducible refine CellF.drewN _ ?_))
        have c5_20_0 := q5_20_0.1
        have q5_20_1 : CellF w5 ⟨bg, 1, none⟩ (.int .i64 st2) := (by refine CellF.keep hb5 ?_; repeat (first | with_reducible exact q4_15_1 | with_reducible exact CellF.at_ (by simp) rfl | with_reducible refine CellF.past _ ?_ | with_reducible refine CellF.drew ?_ | with_reducible refine CellF.drewN _ ?_))
        have c5_20_1 := q5_20_1.1
        have q5_20_2 : CellF w5 ⟨bg, 2, none⟩ (.bool st3) := (by refine CellF.keep hb5 ?_; repeat (first | with_reducible exact q4_15_2 | with_reducible exact CellF.at_ (by simp) rfl | with_reducible refine CellF.past _ ?_ | with_reducible refine CellF.drew ?_ | with_reducible refine CellF.drewN _ ?_))
        have c5_20_2 := q5_20_2.1
        have z5_20 : bg < w5.heap.size := ltc c5_20_0
        clear q4_11_0 c4_11_0 q4_11_1 c4_11_1 q4_11_2 c4_11_2 z4_11 q4_10_0 c4_10_0 q4_10_1 c4_10_1 z4_10 q4_12_0 c4_12_0 q4_12_1 c4_12_1 q4_12_2 c4_12_2 z4_12 q4_13_0 c4_13_0 q4_13_1 c4_13_1 q4_13_2 c4_13_2 z4_13 q4_14_0 c4_14_0 q4_14_1 c4_14_1 q4_14_2 c4_14_2 z4_14 q4_15_0 c4_15_0 q4_15_1 c4_15_1 q4_15_2 c4_15_2 z4_15
        go_wp2_with fail
        refine (Within_is _ _ _ _ _ _ _ V3 _).mono ?_
        rintro e w6 ⟨rfl, hb6⟩
        have q6_21_0 : CellF w6 ⟨(w.heap.size + 1), 0, none⟩ (.int .i64 p0) := (by refine CellF.keep hb6 ?_; repeat (first | with_reducible exact q5_16_0 | with_reducible exact CellF.at_ (by simp) rfl | with_reducible refine CellF.past _ ?_ | with_reducible refine CellF.drew ?_ | with_reducible refine CellF.drewN _ ?_))
        have c6_21_0 := q6_21_0.1
        have q6_21_1 : CellF w6 ⟨(w.heap.size + 1), 1, none⟩ (.int .i64 p1) := (by refine CellF.keep hb6 ?_; repeat (first | with_reducible exact q5_16_1 | with_reducible exact CellF.at_ (by simp) rfl | with_reducible refine CellF.past _ ?_ | with_reducible refine CellF.drew ?_ | with_reducible refine CellF.drewN _ ?_))
        have c6_21_1 := q6_21_1.1
        have z6_21 : (w.heap.size + 1) < w6.heap.size := ltc c6_21_0
        have q6_22_0 : CellF w6 ⟨bd, 0, none⟩ (.int .i64 dr1) := (by refine CellF.keep hb6 ?_; repeat (first | with_reducible exact q5_17_0 | with_reducible exact CellF.at_ (by simp) rfl | with_reducible refine CellF.past _ ?_ | with_reducible refine CellF.drew ?_ | with_reducible refine CellF.drewN _ ?_))
        have c6_22_0 := q6_22_0.1
        have q6_22_1 : CellF w6 ⟨bd, 1, none⟩ (.int .i64 dr2) := (by refine CellF.keep hb6 ?_; repeat (first | with_reducible exact q5_17_1 | with_reducible exact CellF.at_ (by simp) rfl | with_reducible refine CellF.past _ ?_ | with_reducible refine CellF.drew ?_ | with_reducible refine CellF.drewN _ ?_))
        have c6_22_1 := q6_22_1.1
        have q6_22_2 : CellF w6 ⟨bd, 2, none⟩ (.bool dr3) := (by refine CellF.keep hb6 ?_; repeat (first | with_reducible exact q5_17_2 | with_reducible exact CellF.at_ (by simp) rfl | with_reducible refine CellF.past _ ?_ | with_reducible refine CellF.drew ?_ | with_reducible refine CellF.drewN _ ?_))
        have c6_22_2 := q6_22_2.1
        have z6_22 : bd < w6.heap.size := ltc c6_22_0
        have q6_23_0 : CellF w6 ⟨be, 0, none⟩ (.int .i64 dt1) := (by refine CellF.keep hb6 ?_; repeat (first | with_reducible exact q5_18_0 | with_reducible exact CellF.at_ (by simp) rfl | with_reducible refine CellF.past _ ?_ | with_reducible refine CellF.drew ?_ | with_reducible refine CellF.drewN _ ?_))
        have c6_23_0 := q6_23_0.1
        have q6_23_1 : CellF w6 ⟨be, 1, none⟩ (.int .i64 dt2) := (by refine CellF.keep hb6 ?_; repeat (first | with_reducible exact q5_18_1 | with_reducible exact CellF.at_ (by simp) rfl | with_reducible refine CellF.past _ ?_ | with_reducible refine CellF.drew ?_ | with_reducible refine CellF.drewN _ ?_))
        have c6_23_1 := q6_23_1.1
        have q6_23_2 : CellF w6 ⟨be, 2, none⟩ (.bool dt3) := (by refine CellF.keep hb6 ?_; repeat (first | with_reducible exact q5_18_2 | with_reducible exact CellF.at_ (by simp) rfl | with_reducible refine CellF.past _ ?_ | with_reducible refine CellF.drew ?_ | with_reducible refine CellF.drewN _ ?_))
        have c6_23_2 := q6_23_2.1
        have z6_23 : be < w6.heap.size := ltc c6_23_0
        have q6_24_0 : CellF w6 ⟨bf, 0, none⟩ (.int .i64 sr1) := (by refine CellF.keep hb6 ?_; repeat (first | with_reducible exact q5_19_0 | with_reducible exact CellF.at_ (by simp) rfl | with_reducible refine CellF.past _ ?_ | with_reducible refine CellF.drew ?_ | with_reducible refine CellF.drewN _ ?_))
        have c6_24_0 := q6_24_0.1
        have q6_24_1 : CellF w6 ⟨bf, 1, none⟩ (.int .i64 sr2) := (by refine CellF.keep hb6 ?_; repeat (first | with_reducible exact q5_19_1 | with_reducible exact CellF.at_ (by simp) rfl | with_reducible refine CellF.past _ ?_ | with_reducible refine CellF.drew ?_ | with_reducible refine CellF.drewN _ ?_))
        have c6_24_1 := q6_24_1.1
        have q6_24_2 : CellF w6 ⟨bf, 2, none⟩ (.bool sr3) := (by refine CellF.keep hb6 ?_; repeat (first | with_reducible exact q5_19_2 | with_reducible exact CellF.at_ (by simp) rfl | with_reducible refine CellF.past _ ?_ | with_reducible refine CellF.drew ?_ | with_reducible refine CellF.drewN _ ?_))
        have c6_24_2 := q6_24_2.1
        have z6_24 : bf < w6.heap.size := ltc c6_24_0
        have q6_25_0 : CellF w6 ⟨bg, 0, none⟩ (.int .i64 st1) := (by refine CellF.keep hb6 ?_; repeat (first | with_reducible exact q5_20_0 | with_reducible exact CellF.at_ (by simp) rfl | with_reducible refine CellF.past _ ?_ | with_reducible refine CellF.drew ?_ | with_reducible refine CellF.drewN _ ?_))
        have c6_25_0 := q6_25_0.1
        have q6_25_1 : CellF w6 ⟨bg, 1, none⟩ (.int .i64 st2) := (by refine CellF.keep hb6 ?_; repeat (first | with_reducible exact q5_20_1 | with_reducible exact CellF.at_ (by simp) rfl | with_reducible refine CellF.past _ ?_ | with_reducible refine CellF.drew ?_ | with_reducible refine CellF.drewN _ ?_))
        have c6_25_1 := q6_25_1.1
        have q6_25_2 : CellF w6 ⟨bg, 2, none⟩ (.bool st3) := (by refine CellF.keep hb6 ?_; repeat (first | with_reducible exact q5_20_2 | with_reducible exact CellF.at_ (by simp) rfl | with_reducible refine CellF.past _ ?_ | with_reducible refine CellF.drew ?_ | with_reducible refine CellF.drewN _ ?_))
        have c6_25_2 := q6_25_2.1
        have z6_25 : bg < w6.heap.size := ltc c6_25_0
        clear q5_16_0 c5_16_0 q5_16_1 c5_16_1 z5_16 q5_17_0 c5_17_0 q5_17_1 c5_17_1 q5_17_2 c5_17_2 z5_17 q5_18_0 c5_18_0 q5_18_1 c5_18_1 q5_18_2 c5_18_2 z5_18 q5_19_0 c5_19_0 q5_19_1 c5_19_1 q5_19_2 c5_19_2 z5_19 q5_20_0 c5_20_0 q5_20_1 c5_20_1 q5_20_2 c5_20_2 z5_20
        go_wp2_with fail
        refine (Within_is _ _ _ _ _ _ _ V4 _).mono ?_
        rintro e w7 ⟨rfl, hb7⟩
        have q7_26_0 : CellF w7 ⟨(w.heap.size + 1), 0, none⟩ (.int .i64 p0) := (by refine CellF.keep hb7 ?_; repeat (first | with_reducible exact q6_21_0 | with_reducible exact CellF.at_ (by simp) rfl | with_reducible refine CellF.past _ ?_ | with_reducible refine CellF.drew ?_ | with_reducible refine CellF.drewN _ ?_))
        have c7_26_0 := q7_26_0.1
        have q7_26_1 : CellF w7 ⟨(w.heap.size + 1), 1, none⟩ (.int .i64 p1) := (by refine CellF.keep hb7 ?_; repeat (first | with_reducible exact q6_21_1 | with_reducible exact CellF.at_ (by simp) rfl | with_reducible refine CellF.past _ ?_ | with_reducible refine CellF.drew ?_ | with_reducible refine CellF.drewN _ ?_))
        have c7_26_1 := q7_26_1.1
        have z7_26 : (w.heap.size + 1) < w7.heap.size := ltc c7_26_0
        have q7_27_0 : CellF w7 ⟨bd, 0, none⟩ (.int .i64 dr1) := (by refine CellF.keep hb7 ?_; repeat (first | with_reducible exact q6_22_0 | with_reducible exact CellF.at_ (by simp) rfl | with_reducible refine CellF.past _ ?_ | with_reducible refine CellF.drew ?_ | with_reducible refine CellF.drewN _ ?_))
        have c7_27_0 := q7_27_0.1
        have q7_27_1 : CellF w7 ⟨bd, 1, none⟩ (.int .i64 dr2) := (by refine CellF.keep hb7 ?_; repeat (first | with_reducible exact q6_22_1 | with_reducible exact CellF.at_ (by simp) rfl | with_reducible refine CellF.past _ ?_ | with_reducible refine CellF.drew ?_ | with_reducible refine CellF.drewN _ ?_))
        have c7_27_1 := q7_27_1.1
        have q7_27_2 : CellF w7 ⟨bd, 2, none⟩ (.bool dr3) := (by refine CellF.keep hb7 ?_; repeat (first | with_reducible exact q6_22_2 | with_reducible exact CellF.at_ (by simp) rfl | with_reducible refine CellF.past _ ?_ | with_reducible refine CellF.drew ?_ | with_reducible refine CellF.drewN _ ?_))
        have c7_27_2 := q7_27_2.1
        have z7_27 : bd < w7.heap.size := ltc c7_27_0
        have q7_28_0 : CellF w7 ⟨be, 0, none⟩ (.int .i64 dt1) := (by refine CellF.keep hb7 ?_; repeat (first | with_reducible exact q6_23_0 | with_reducible exact CellF.at_ (by simp) rfl | with_reducible refine CellF.past _ ?_ | with_reducible refine CellF.drew ?_ | with_reducible refine CellF.drewN _ ?_))
        have c7_28_0 := q7_28_0.1
        have q7_28_1 : CellF w7 ⟨be, 1, none⟩ (.int .i64 dt2) := (by refine CellF.keep hb7 ?_; repeat (first | with_reducible exact q6_23_1 | with_reducible exact CellF.at_ (by simp) rfl | with_reducible refine CellF.past _ ?_ | with_reducible refine CellF.drew ?_ | with_reducible refine CellF.drewN _ ?_))
        have c7_28_1 := q7_28_1.1
        have q7_28_2 : CellF w7 ⟨be, 2, none⟩ (.bool dt3) := (by refine CellF.keep hb7 ?_; repeat (first | with_reducible exact q6_23_2 | with_reducible exact CellF.at_ (by simp) rfl | with_reducible refine CellF.past _ ?_ | with_reducible refine CellF.drew ?_ | with_reducible refine CellF.drewN _ ?_))
        have c7_28_2 := q7_28_2.1
        have z7_28 : be < w7.heap.size := ltc c7_28_0
        have q7_29_0 : CellF w7 ⟨bf, 0, none⟩ (.int .i64 sr1) := (by refine CellF.keep hb7 ?_; repeat (first | with_reducible exact q6_24_0 | with_reducible exact CellF.at_ (by simp) rfl | with_reducible refine CellF.past _ ?_ | with_reducible refine CellF.drew ?_ | with_reducible refine CellF.drewN _ ?_))
        have c7_29_0 := q7_29_0.1
        have q7_29_1 : CellF w7 ⟨bf, 1, none⟩ (.int .i64 sr2) := (by refine CellF.keep hb7 ?_; repeat (first | with_reducible exact q6_24_1 | with_reducible exact CellF.at_ (by simp) rfl | with_reducible refine CellF.past _ ?_ | with_reducible refine CellF.drew ?_ | with_reducible refine CellF.drewN _ ?_))
        have c7_29_1 := q7_29_1.1
        have q7_29_2 : CellF w7 ⟨bf, 2, none⟩ (.bool sr3) := (by refine CellF.keep hb7 ?_; repeat (first | with_reducible exact q6_24_2 | with_reducible exact CellF.at_ (by simp) rfl | with_reducible refine CellF.past _ ?_ | with_reducible refine CellF.drew ?_ | with_reducible refine CellF.drewN _ ?_))
        have c7_29_2 := q7_29_2.1
        have z7_29 : bf < w7.heap.size := ltc c7_29_0
        have q7_30_0 : CellF w7 ⟨bg, 0, none⟩ (.int .i64 st1) := (by refine CellF.keep hb7 ?_; repeat (first | with_reducible exact q6_25_0 | with_reducible exact CellF.at_ (by simp) rfl | with_reducible refine CellF.past _ ?_ | with_reducible refine CellF.drew ?_ | with_reducible refine CellF.drewN _ ?_))
        have c7_30_0 := q7_30_0.1
        have q7_30_1 : CellF w7 ⟨bg, 1, none⟩ (.int .i64 st2) := (by refine CellF.keep hb7 ?_; repeat (first | with_reducible exact q6_25_1 | with_reducible exact CellF.at_ (by simp) rfl | with_reducible refine CellF.past _ ?_ | with_reducible refine CellF.drew ?_ | with_reducible refine CellF.drewN _ ?_))
        have c7_30_1 := q7_30_1.1
        have q7_30_2 : CellF w7 ⟨bg, 2, none⟩ (.bool st3) := (by refine CellF.keep hb7 ?_; repeat (first | with_reducible exact q6_25_2 | with_reducible exact CellF.at_ (by simp) rfl | with_reducible refine CellF.past _ ?_ | with_reducible refine CellF.drew ?_ | with_reducible refine CellF.drewN _ ?_))
        have c7_30_2 := q7_30_2.1
        have z7_30 : bg < w7.heap.size := ltc c7_30_0
        clear q6_21_0 c6_21_0 q6_21_1 c6_21_1 z6_21 q6_22_0 c6_22_0 q6_22_1 c6_22_1 q6_22_2 c6_22_2 z6_22 q6_23_0 c6_23_0 q6_23_1 c6_23_1 q6_23_2 c6_23_2 z6_23 q6_24_0 c6_24_0 q6_24_1 c6_24_1 q6_24_2 c6_24_2 z6_24 q6_25_0 c6_25_0 q6_25_1 c6_25_1 q6_25_2 c6_25_2 z6_25
        all_goals (go_wp2; go_ret; exact ⟨rfl, (by repeat (first | exact brefl _ | refine balloc ?_ _ | refine bdrewN ?_ _ | refine bset ?_ (by dsimp only; omega) _ | refine bstep ?_ (by assumption)))⟩)
end Go.Proofs.Ytldgcigdoncgdaa
