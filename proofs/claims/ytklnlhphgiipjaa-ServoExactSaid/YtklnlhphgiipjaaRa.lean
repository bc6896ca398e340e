/-
  The document's spans: Small, and whether one is right.
-/
import Derived.Test.YtklnlhphgiipjaaMp
import Derived.Test.YtklnlhphgiipjaaSpt
namespace Go.Proofs.Ytklnlhphgiipjaa
open Go.RowKit

theorem rSm_is (n : Int) (q : Bool) (H : Hid (smallB n = q)) (w : World) :
    Calls Try.prog 32 #[.int .i64 n] w fun e w' => e = .returned (.bool q) ∧ Below w.heap.size w w' := by
  have hq := H.out
  clear H
  by_cases h1 : n < -4611686018427387904
  · rw [smallB_low h1] at hq
    subst hq
    go_enter Try.func32, Try.ntmps32
    go_wp2
    go_ret
    exact ⟨rfl, (by repeat (first | exact brefl _ | refine balloc ?_ _ | refine bdrewN ?_ _ | refine bset ?_ (by dsimp only; omega) _ | refine bstep ?_ (by assumption)))⟩
  by_cases h2 : 4611686018427387904 < n
  · rw [smallB_high h2] at hq
    subst hq
    go_enter Try.func32, Try.ntmps32
    go_wp2
    go_ret
    exact ⟨by simp; omega, (by repeat (first | exact brefl _ | refine balloc ?_ _ | refine bdrewN ?_ _ | refine bset ?_ (by dsimp only; omega) _ | refine bstep ?_ (by assumption)))⟩
  · rw [smallB_true (by omega) (by omega)] at hq
    subst hq
    go_enter Try.func32, Try.ntmps32
    go_wp2
    go_ret
    exact ⟨rfl, (by repeat (first | exact brefl _ | refine balloc ?_ _ | refine bdrewN ?_ _ | refine bset ?_ (by dsimp only; omega) _ | refine bstep ?_ (by assumption)))⟩

theorem r3Right_is (x y : Int) (z q : Bool) (H : Hid (spRight ⟨x, y, z⟩ = q)) (w : World) :
    Calls Try.prog 12 #[.agg #[.int .i64 x, .int .i64 y, .bool z]] w fun e w' => e = .returned (.bool q) ∧ Below w.heap.size w w' := by
  have hq := H.out
  clear H
  unfold spRight at hq
  dsimp only at hq
  cases z with
  | false =>
    rw [if_neg (by decide)] at hq
    by_cases h0 : x = 0
    · rw [decide_eq_true h0] at hq
      by_cases h1 : y = 0
      · rw [decide_eq_true h1] at hq
        obtain rfl : true = q := by rw [← hq] <;> (first | rfl | simp)
        clear hq
        go_enter Try.func12, Try.ntmps12
        go_wp2
        go_ret
        exact ⟨by first | rfl | (simp; done) | (simp; omega), (by repeat (first | exact brefl _ | refine balloc ?_ _ | refine bdrewN ?_ _ | refine bset ?_ (by dsimp only; omega) _ | refine bstep ?_ (by assumption)))⟩
      · rw [decide_eq_false h1] at hq
        obtain rfl : false = q := by rw [← hq] <;> (first | rfl | simp)
        clear hq
        go_enter Try.func12, Try.ntmps12
        go_wp2
        go_ret
        exact ⟨by first | rfl | (simp; done) | (simp; omega), (by repeat (first | exact brefl _ | refine balloc ?_ _ | refine bdrewN ?_ _ | refine bset ?_ (by dsimp only; omega) _ | refine bstep ?_ (by assumption)))⟩
    · rw [decide_eq_false h0] at hq
      obtain rfl : false = q := by rw [← hq] <;> (first | rfl | simp)
      clear hq
      go_enter Try.func12, Try.ntmps12
      go_wp2
      go_ret
      exact ⟨by first | rfl | (simp; done) | (simp; omega), (by repeat (first | exact brefl _ | refine balloc ?_ _ | refine bdrewN ?_ _ | refine bset ?_ (by dsimp only; omega) _ | refine bstep ?_ (by assumption)))⟩
  | true =>
    rw [if_pos rfl] at hq
    by_cases h0 : x ≤ y
    · rw [decide_eq_true h0, Bool.and_true] at hq
      obtain ⟨a, ha⟩ : ∃ a, smallB x = a := ⟨_, rfl⟩
      obtain ⟨b, hb⟩ : ∃ b, smallB y = b := ⟨_, rfl⟩
      rw [ha, hb] at hq
      have HA := Lib.hid ha
      have HB := Lib.hid hb
      clear ha hb
      go_enter Try.func12, Try.ntmps12
      go_wp2_with fail
      refine (rSm_is _ _ HA _).mono ?_
      rintro e w1 ⟨rfl, hb1⟩
      have q1_1_0 : CellF w1 ⟨w.heap.size, 0, none⟩ (.int .i64 x) := (by refine CellF.keep hb1 ?_; (first | ((repeat (first | ((with_reducible refine CellF.at_ ?_ ?_); (first | (simp; done) | rfl); rfl) | with_reducible refine CellF.past _ ?_ | with_reducible refine CellF.drew ?_ | with_reducible refine CellF.drewN _ ?_)); done) | (refine ⟨?_, ?_⟩ <;> go_simp)))
      have c1_1_0 := q1_1_0.1
      have q1_1_1 : CellF w1 ⟨w.heap.size, 1, none⟩ (.int .i64 y) := (by refine CellF.keep hb1 ?_; (first | ((repeat (first | ((with_reducible refine CellF.at_ ?_ ?_); (first | (simp; done) | rfl); rfl) | with_reducible refine CellF.past _ ?_ | with_reducible refine CellF.drew ?_ | with_reducible refine CellF.drewN _ ?_)); done) | (refine ⟨?_, ?_⟩ <;> go_simp)))
      have c1_1_1 := q1_1_1.1
      have q1_1_2 : CellF w1 ⟨w.heap.size, 2, none⟩ (.bool true) := (by refine CellF.keep hb1 ?_; (first | ((repeat (first | ((with_reducible refine CellF.at_ ?_ ?_); (first | (simp; done) | rfl); rfl) | with_reducible refine CellF.past _ ?_ | with_reducible refine CellF.drew ?_ | with_reducible refine CellF.drewN _ ?_)); done) | (refine ⟨?_, ?_⟩ <;> go_simp)))
      have c1_1_2 := q1_1_2.1
      have z1_1 : w.heap.size < w1.heap.size := ltc c1_1_0
      cases a with
      | false =>
        obtain rfl : false = q := by rw [← hq] <;> rfl
        clear hq
        go_wp2
        go_ret
        exact ⟨rfl, (by repeat (first | exact brefl _ | refine balloc ?_ _ | refine bdrewN ?_ _ | refine bset ?_ (by dsimp only; omega) _ | refine bstep ?_ (by assumption)))⟩
      | true =>
        go_wp2_with fail
        refine (rSm_is _ _ HB _).mono ?_
        rintro e w2 ⟨rfl, hb2⟩
        have q2_2_0 : CellF w2 ⟨w.heap.size, 0, none⟩ (.int .i64 x) := (by refine CellF.keep hb2 ?_; repeat (first | with_reducible exact q1_1_0 | ((with_reducible refine CellF.at_ ?_ ?_); (first | (simp; done) | rfl); rfl) | with_reducible refine CellF.past _ ?_ | with_reducible refine CellF.drew ?_ | with_reducible refine CellF.drewN _ ?_))
        have c2_2_0 := q2_2_0.1
        have q2_2_1 : CellF w2 ⟨w.heap.size, 1, none⟩ (.int .i64 y) := (by refine CellF.keep hb2 ?_; repeat (first | with_reducible exact q1_1_1 | ((with_reducible refine CellF.at_ ?_ ?_); (first | (simp; done) | rfl); rfl) | with_reducible refine CellF.past _ ?_ | with_reducible refine CellF.drew ?_ | with_reducible refine CellF.drewN _ ?_))
        have c2_2_1 := q2_2_1.1
        have q2_2_2 : CellF w2 ⟨w.heap.size, 2, none⟩ (.bool true) := (by refine CellF.keep hb2 ?_; repeat (first | with_reducible exact q1_1_2 | ((with_reducible refine CellF.at_ ?_ ?_); (first | (simp; done) | rfl); rfl) | with_reducible refine CellF.past _ ?_ | with_reducible refine CellF.drew ?_ | with_reducible refine CellF.drewN _ ?_))
        have c2_2_2 := q2_2_2.1
        have z2_2 : w.heap.size < w2.heap.size := ltc c2_2_0
        clear q1_1_0 c1_1_0 q1_1_1 c1_1_1 q1_1_2 c1_1_2 z1_1
        obtain rfl : b = q := by rw [← hq] <;> rfl
        clear hq
        go_wp2
        go_ret
        exact ⟨rfl, (by repeat (first | exact brefl _ | refine balloc ?_ _ | refine bdrewN ?_ _ | refine bset ?_ (by dsimp only; omega) _ | refine bstep ?_ (by assumption)))⟩
    · rw [decide_eq_false h0, Bool.and_false] at hq
      obtain rfl : false = q := by rw [← hq] <;> (first | rfl | simp)
      clear hq
      go_enter Try.func12, Try.ntmps12
      go_wp2
      go_ret
      exact ⟨by first | rfl | (simp; done) | (simp; omega), (by repeat (first | exact brefl _ | refine balloc ?_ _ | refine bdrewN ?_ _ | refine bset ?_ (by dsimp only; omega) _ | refine bstep ?_ (by assumption)))⟩
end Go.Proofs.Ytklnlhphgiipjaa
