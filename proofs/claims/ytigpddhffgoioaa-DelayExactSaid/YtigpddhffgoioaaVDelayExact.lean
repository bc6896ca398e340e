/-
  The walk of the law DelayExact.
-/
import Derived.Test.YtigpddhffgoioaaAlDelay
import Derived.Test.YtigpddhffgoioaaDf
import Derived.Deep.RegionHeld3
namespace Go.Proofs.Ytigpddhffgoioaa
open Go.RowKit

set_option maxRecDepth 100000 in
set_option maxHeartbeats 4000000 in
theorem DelayExact_walk (k x y : Int) (w : World) (_ : I64 k) (_ : I64 x) (_ : I64 y) :
    Calls Try.prog 4 #[.int .i64 k, .int .i64 x, .int .i64 y] w fun e w' => e = .returned (.bool true) ∧ Below w.heap.size w w' := by
  obtain ⟨q, hq⟩ : ∃ q, (inQb x && (inQb y)) = q := ⟨_, rfl⟩
  cases q with
  | false =>
    go_enter Try.func4, Try.ntmps4
    go_wp2_with fail
    refine (smallQ2 _ _ _ hq _ _ (by go_simp) (by go_simp)).mono ?_
    rintro e _ ⟨rfl, rfl⟩
    go_wp2_with fail
    refine (alive_is _).mono ?_
    rintro e w1 ⟨rfl, hb1⟩
    all_goals (go_wp2; go_ret; exact ⟨rfl, (by repeat (first | exact brefl _ | refine balloc ?_ _ | refine bdrewN ?_ _ | refine bset ?_ (by dsimp only; omega) _ | refine bstep ?_ (by assumption)))⟩)
  | true =>
    by_cases h1 : k < 0
    ·
      go_enter Try.func4, Try.ntmps4
      go_wp2_with fail
      refine (smallQ2 _ _ _ hq _ _ (by go_simp) (by go_simp)).mono ?_
      rintro e _ ⟨rfl, rfl⟩
      go_wp2_with fail
      refine (alive_is _).mono ?_
      rintro e w1 ⟨rfl, hb1⟩
      all_goals (go_wp2; go_ret; exact ⟨rfl, (by repeat (first | exact brefl _ | refine balloc ?_ _ | refine bdrewN ?_ _ | refine bset ?_ (by dsimp only; omega) _ | refine bstep ?_ (by assumption)))⟩)
    have h1 := Int.not_lt.1 h1
    by_cases h2 : 1000000000 < k
    ·
      go_enter Try.func4, Try.ntmps4
      go_wp2_with fail
      refine (smallQ2 _ _ _ hq _ _ (by go_simp) (by go_simp)).mono ?_
      rintro e _ ⟨rfl, rfl⟩
      go_wp2_with fail
      refine (alive_is _).mono ?_
      rintro e w1 ⟨rfl, hb1⟩
      all_goals (go_wp2; go_ret; exact ⟨rfl, (by repeat (first | exact brefl _ | refine balloc ?_ _ | refine bdrewN ?_ _ | refine bset ?_ (by dsimp only; omega) _ | refine bstep ?_ (by assumption)))⟩)
    have h2 := Int.not_lt.1 h2
    have hx := inQb_iff.1 (Bool.and_eq_true_iff.1 hq).1
    have hy := inQb_iff.1 (Bool.and_eq_true_iff.1 hq).2
    have hd := delay_exact hx hy h1 h2
    have HS := Lib.hid hd.1
    have HR := Lib.hid hd.2
    clear hd
    have hx' := hx
    have hy' := hy
    unfold InQ at hx' hy'
    have HO := Lib.hid (of_kn (a := y) (b := y) (by unfold InS; omega) (by unfold InS; omega) (Int.le_refl _))
    have e1 : IntKind.i64.wrap (x + k) = x + k := by rw [IntKind.wrap_i64]; omega
    have e2 : IntKind.i64.wrap (x + k - y) = x + k - y := by rw [IntKind.wrap_i64]; omega
    have e3 : IntKind.i64.wrap (x - y) = x - y := by rw [IntKind.wrap_i64]; omega
    have E := Lib.hid (And.intro e1 (And.intro e2 e3))
    clear e1 e2 e3 hx hy
    go_enter Try.func4, Try.ntmps4
    go_wp2_with fail
    refine (smallQ2 _ _ _ hq _ _ (by go_simp) (by go_simp)).mono ?_
    rintro e _ ⟨rfl, rfl⟩
    go_wp2_with fail
    refine (Of_is _ _ _ _ _ HO _).mono ?_
    rintro e w1 ⟨rfl, hb1⟩
    have q1_1_0 : CellF w1 ⟨(w.heap.size + 1), 0, none⟩ (.int .i64 k) := (by refine CellF.keep hb1 ?_; (first | ((repeat (first | with_reducible exact CellF.at_ (by simp) rfl | with_reducible refine CellF.past _ ?_ | with_reducible refine CellF.drew ?_ | with_reducible refine CellF.drewN _ ?_)); done) | (refine ⟨?_, ?_⟩ <;> go_simp)))
    have c1_1_0 := q1_1_0.1
    have q1_1_1 : CellF w1 ⟨(w.heap.size + 1), 1, none⟩ (.int .i64 k) := (by refine CellF.keep hb1 ?_; (first | ((repeat (first | with_reducible exact CellF.at_ (by simp) rfl | with_reducible refine CellF.past _ ?_ | with_reducible refine CellF.drew ?_ | with_reducible refine CellF.drewN _ ?_)); done) | (refine ⟨?_, ?_⟩ <;> go_simp)))
    have c1_1_1 := q1_1_1.1
    have q1_1_2 : CellF w1 ⟨(w.heap.size + 1), 2, none⟩ (.int .i64 0) := (by refine CellF.keep hb1 ?_; (first | ((repeat (first | with_reducible exact CellF.at_ (by simp) rfl | with_reducible refine CellF.past _ ?_ | with_reducible refine CellF.drew ?_ | with_reducible refine CellF.drewN _ ?_)); done) | (refine ⟨?_, ?_⟩ <;> go_simp)))
    have c1_1_2 := q1_1_2.1
    have z1_1 : (w.heap.size + 1) < w1.heap.size := ltc c1_1_0
    go_wp2_with fail
    have e1 := E.out.1
    have e2 := E.out.2.1
    have e3 := E.out.2.2
    go_wp2_with fail
    go_region_held3 (fun w' => w'.cell? ⟨(w.heap.size + 1), 0, none⟩ = some (.int .i64 k) ∧ w'.cell? ⟨(w.heap.size + 1), 1, none⟩ = some (.int .i64 k) ∧ w'.cell? ⟨(w.heap.size + 1), 2, none⟩ = some (.int .i64 0) ∧ w'.cell? ⟨w1.heap.size, 0, none⟩ = some (.int .i64 y) ∧ w'.cell? ⟨w1.heap.size, 1, none⟩ = some (.int .i64 y) ∧ w'.cell? ⟨w1.heap.size, 2, none⟩ = some (.bool true))
      (go_keep)
      (first | (go_at_call 12; ((with_reducible refine (alive_is _).mono ?_)); rintro e w2 ⟨rfl, hb2⟩; have q2_2_0 : CellF w2 ⟨(w.heap.size + 1), 0, none⟩ (.int .i64 k) := (by refine CellF.keep hb2 ?_; repeat (first | with_reducible exact q1_1_0 | with_reducible exact CellF.at_ (by simp) rfl | with_reducible refine CellF.past _ ?_ | with_reducible refine CellF.drew ?_ | with_reducible refine CellF.drewN _ ?_)); have c2_2_0 := q2_2_0.1; have q2_2_1 : CellF w2 ⟨(w.heap.size + 1), 1, none⟩ (.int .i64 k) := (by refine CellF.keep hb2 ?_; repeat (first | with_reducible exact q1_1_1 | with_reducible exact CellF.at_ (by simp) rfl | with_reducible refine CellF.past _ ?_ | with_reducible refine CellF.drew ?_ | with_reducible refine CellF.drewN _ ?_)); have c2_2_1 := q2_2_1.1; have q2_2_2 : CellF w2 ⟨(w.heap.size + 1), 2, none⟩ (.int .i64 0) := (by refine CellF.keep hb2 ?_; repeat (first | with_reducible exact q1_1_2 | with_reducible exact CellF.at_ (by simp) rfl | with_reducible refine CellF.past _ ?_ | with_reducible refine CellF.drew ?_ | with_reducible refine CellF.drewN _ ?_)); have c2_2_2 := q2_2_2.1; have z2_2 : (w.heap.size + 1) < w2.heap.size := ltc c2_2_0; have q2_3_0 : CellF w2 ⟨w1.heap.size, 0, none⟩ (.int .i64 y) := (by refine CellF.keep hb2 ?_; (first | ((repeat (first | with_reducible exact CellF.at_ (by simp) rfl | with_reducible refine CellF.past _ ?_ | with_reducible refine CellF.drew ?_ | with_reducible refine CellF.drewN _ ?_)); done) | (refine ⟨?_, ?_⟩ <;> go_simp))); have c2_3_0 := q2_3_0.1; have q2_3_1 : CellF w2 ⟨w1.heap.size, 1, none⟩ (.int .i64 y) := (by refine CellF.keep hb2 ?_; (first | ((repeat (first | with_reducible exact CellF.at_ (by simp) rfl | with_reducible refine CellF.past _ ?_ | with_reducible refine CellF.drew ?_ | with_reducible refine CellF.drewN _ ?_)); done) | (refine ⟨?_, ?_⟩ <;> go_simp))); have c2_3_1 := q2_3_1.1; have q2_3_2 : CellF w2 ⟨w1.heap.size, 2, none⟩ (.bool true) := (by refine CellF.keep hb2 ?_; (first | ((repeat (first | with_reducible exact CellF.at_ (by simp) rfl | with_reducible refine CellF.past _ ?_ | with_reducible refine CellF.drew ?_ | with_reducible refine CellF.drewN _ ?_)); done) | (refine ⟨?_, ?_⟩ <;> go_simp))); have c2_3_2 := q2_3_2.1; have z2_3 : w1.heap.size < w2.heap.size := ltc c2_3_0) | (go_at_call 17; ((with_reducible refine (Sync_is _ _ _ _ _ _ _ _ _ zero64 HS _).mono ?_)); rintro e w3 ⟨rfl, hb3⟩; have q3_4_0 : CellF w3 ⟨(w.heap.size + 1), 0, none⟩ (.int .i64 k) := (by refine CellF.keep hb3 ?_; repeat (first | with_reducible exact q2_2_0 | with_reducible exact CellF.at_ (by simp) rfl | with_reducible refine CellF.past _ ?_ | with_reducible refine CellF.drew ?_ | with_reducible refine CellF.drewN _ ?_)); have c3_4_0 := q3_4_0.1; have q3_4_1 : CellF w3 ⟨(w.heap.size + 1), 1, none⟩ (.int .i64 k) := (by refine CellF.keep hb3 ?_; repeat (first | with_reducible exact q2_2_1 | with_reducible exact CellF.at_ (by simp) rfl | with_reducible refine CellF.past _ ?_ | with_reducible refine CellF.drew ?_ | with_reducible refine CellF.drewN _ ?_)); have c3_4_1 := q3_4_1.1; have q3_4_2 : CellF w3 ⟨(w.heap.size + 1), 2, none⟩ (.int .i64 0) := (by refine CellF.keep hb3 ?_; repeat (first | with_reducible exact q2_2_2 | with_reducible exact CellF.at_ (by simp) rfl | with_reducible refine CellF.past _ ?_ | with_reducible refine CellF.drew ?_ | with_reducible refine CellF.drewN _ ?_)); have c3_4_2 := q3_4_2.1; have z3_4 : (w.heap.size + 1) < w3.heap.size := ltc c3_4_0; have q3_5_0 : CellF w3 ⟨w1.heap.size, 0, none⟩ (.int .i64 y) := (by refine CellF.keep hb3 ?_; repeat (first | with_reducible exact q2_3_0 | with_reducible exact CellF.at_ (by simp) rfl | with_reducible refine CellF.past _ ?_ | with_reducible refine CellF.drew ?_ | with_reducible refine CellF.drewN _ ?_)); have c3_5_0 := q3_5_0.1; have q3_5_1 : CellF w3 ⟨w1.heap.size, 1, none⟩ (.int .i64 y) := (by refine CellF.keep hb3 ?_; repeat (first | with_reducible exact q2_3_1 | with_reducible exact CellF.at_ (by simp) rfl | with_reducible refine CellF.past _ ?_ | with_reducible refine CellF.drew ?_ | with_reducible refine CellF.drewN _ ?_)); have c3_5_1 := q3_5_1.1; have q3_5_2 : CellF w3 ⟨w1.heap.size, 2, none⟩ (.bool true) := (by refine CellF.keep hb3 ?_; repeat (first | with_reducible exact q2_3_2 | with_reducible exact CellF.at_ (by simp) rfl | with_reducible refine CellF.past _ ?_ | with_reducible refine CellF.drew ?_ | with_reducible refine CellF.drewN _ ?_)); have c3_5_2 := q3_5_2.1; have z3_5 : w1.heap.size < w3.heap.size := ltc c3_5_0) | (go_at_call 18; ((with_reducible refine (Req_is _ _ _ _ _ _ _ _ _ zero64 HR _).mono ?_)); rintro e w4 ⟨rfl, hb4⟩; have q4_6_0 : CellF w4 ⟨(w.heap.size + 1), 0, none⟩ (.int .i64 k) := (by refine CellF.keep hb4 ?_; repeat (first | with_reducible exact q3_4_0 | with_reducible exact CellF.at_ (by simp) rfl | with_reducible refine CellF.past _ ?_ | with_reducible refine CellF.drew ?_ | with_reducible refine CellF.drewN _ ?_)); have c4_6_0 := q4_6_0.1; have q4_6_1 : CellF w4 ⟨(w.heap.size + 1), 1, none⟩ (.int .i64 k) := (by refine CellF.keep hb4 ?_; repeat (first | with_reducible exact q3_4_1 | with_reducible exact CellF.at_ (by simp) rfl | with_reducible refine CellF.past _ ?_ | with_reducible refine CellF.drew ?_ | with_reducible refine CellF.drewN _ ?_)); have c4_6_1 := q4_6_1.1; have q4_6_2 : CellF w4 ⟨(w.heap.size + 1), 2, none⟩ (.int .i64 0) := (by refine CellF.keep hb4 ?_; repeat (first | with_reducible exact q3_4_2 | with_reducible exact CellF.at_ (by simp) rfl | with_reducible refine CellF.past _ ?_ | with_reducible refine CellF.drew ?_ | with_reducible refine CellF.drewN _ ?_)); have c4_6_2 := q4_6_2.1; have z4_6 : (w.heap.size + 1) < w4.heap.size := ltc c4_6_0; have q4_7_0 : CellF w4 ⟨w1.heap.size, 0, none⟩ (.int .i64 y) := (by refine CellF.keep hb4 ?_; repeat (first | with_reducible exact q3_5_0 | with_reducible exact CellF.at_ (by simp) rfl | with_reducible refine CellF.past _ ?_ | with_reducible refine CellF.drew ?_ | with_reducible refine CellF.drewN _ ?_)); have c4_7_0 := q4_7_0.1; have q4_7_1 : CellF w4 ⟨w1.heap.size, 1, none⟩ (.int .i64 y) := (by refine CellF.keep hb4 ?_; repeat (first | with_reducible exact q3_5_1 | with_reducible exact CellF.at_ (by simp) rfl | with_reducible refine CellF.past _ ?_ | with_reducible refine CellF.drew ?_ | with_reducible refine CellF.drewN _ ?_)); have c4_7_1 := q4_7_1.1; have q4_7_2 : CellF w4 ⟨w1.heap.size, 2, none⟩ (.bool true) := (by refine CellF.keep hb4 ?_; repeat (first | with_reducible exact q3_5_2 | with_reducible exact CellF.at_ (by simp) rfl | with_reducible refine CellF.past _ ?_ | with_reducible refine CellF.drew ?_ | with_reducible refine CellF.drewN _ ?_)); have c4_7_2 := q4_7_2.1; have z4_7 : w1.heap.size < w4.heap.size := ltc c4_7_0))
    all_goals (go_wp2; go_ret; exact ⟨rfl, (by repeat (first | exact brefl _ | refine balloc ?_ _ | refine bdrewN ?_ _ | refine bset ?_ (by dsimp only; omega) _ | refine bstep ?_ (by assumption)))⟩)
end Go.Proofs.Ytigpddhffgoioaa
