/-
  The document's spans: Small, and whether one is right.
  The document's spans: Of, Told, Has, Within.
  The document's spans: Meet.
  The document's spans: Add.
  The document's spans: Wider, Drift, Width.
-/
import Derived.Test.YtnphbdhcoiaklaaZGA
import Derived.Test.YtnphbdhcoiaklaaZGB
import Derived.Test.YtnphbdhcoiaklaaZGR
namespace Go.Proofs.Ytnphbdhcoiaklaa
open Go.RowKit

theorem rSm_is (n : Int) (q : Bool) (H : Hid (smallB n = q)) (w : World) :
    Calls Try.prog 19 #[.int .i64 n] w fun e w' => e = .returned (.bool q) ∧ Below w.heap.size w w' := by
  have hq := H.out
  clear H
  by_cases h1 : n < -4611686018427387904
  · rw [smallB_low h1] at hq
    subst hq
    go_enter Try.func19, Try.ntmps19
    go_wp2
    go_ret
    exact ⟨rfl, (by repeat (first | exact brefl _ | refine balloc ?_ _ | refine bdrewN ?_ _ | refine bset ?_ (by dsimp only; omega) _ | refine bstep ?_ (by assumption)))⟩
  by_cases h2 : 4611686018427387904 < n
  · rw [smallB_high h2] at hq
    subst hq
    go_enter Try.func19, Try.ntmps19
    go_wp2
    go_ret
    exact ⟨by simp; omega, (by repeat (first | exact brefl _ | refine balloc ?_ _ | refine bdrewN ?_ _ | refine bset ?_ (by dsimp only; omega) _ | refine bstep ?_ (by assumption)))⟩
  · rw [smallB_true (by omega) (by omega)] at hq
    subst hq
    go_enter Try.func19, Try.ntmps19
    go_wp2
    go_ret
    exact ⟨rfl, (by repeat (first | exact brefl _ | refine balloc ?_ _ | refine bdrewN ?_ _ | refine bset ?_ (by dsimp only; omega) _ | refine bstep ?_ (by assumption)))⟩

theorem r3Right_is (x y : Int) (z q : Bool) (H : Hid (spRight ⟨x, y, z⟩ = q)) (w : World) :
    Calls Try.prog 57 #[.agg #[.int .i64 x, .int .i64 y, .bool z]] w fun e w' => e = .returned (.bool q) ∧ Below w.heap.size w w' := by
  have hq := H.out
  clear H
  unfold spRight at hq
  dsimp only at hq
  cases z with
  | false =>
    rw [if_neg (by decide)] at hq
    by_cases h0 : x = 0
    · rw [decide_eq_true h0] at hq
      by_cases h1 : y = 0
      · rw [decide_eq_true h1] at hq
        obtain rfl : true = q := by rw [← hq] <;> (first | rfl | simp)
        clear hq
        go_enter Try.func57, Try.ntmps57
        go_wp2
        go_ret
        exact ⟨by first | rfl | (simp; done) | (simp; omega), (by repeat (first | exact brefl _ | refine balloc ?_ _ | refine bdrewN ?_ _ | refine bset ?_ (by dsimp only; omega) _ | refine bstep ?_ (by assumption)))⟩
      · rw [decide_eq_false h1] at hq
        obtain rfl : false = q := by rw [← hq] <;> (first | rfl | simp)
        clear hq
        go_enter Try.func57, Try.ntmps57
        go_wp2
        go_ret
        exact ⟨by first | rfl | (simp; done) | (simp; omega), (by repeat (first | exact brefl _ | refine balloc ?_ _ | refine bdrewN ?_ _ | refine bset ?_ (by dsimp only; omega) _ | refine bstep ?_ (by assumption)))⟩
    · rw [decide_eq_false h0] at hq
      obtain rfl : false = q := by rw [← hq] <;> (first | rfl | simp)
      clear hq
      go_enter Try.func57, Try.ntmps57
      go_wp2
      go_ret
      exact ⟨by first | rfl | (simp; done) | (simp; omega), (by repeat (first | exact brefl _ | refine balloc ?_ _ | refine bdrewN ?_ _ | refine bset ?_ (by dsimp only; omega) _ | refine bstep ?_ (by assumption)))⟩
  | true =>
    rw [if_pos rfl] at hq
    by_cases h0 : x ≤ y
    · rw [decide_eq_true h0, Bool.and_true] at hq
      obtain ⟨a, ha⟩ : ∃ a, smallB x = a := ⟨_, rfl⟩
      obtain ⟨b, hb⟩ : ∃ b, smallB y = b := ⟨_, rfl⟩
      rw [ha, hb] at hq
      have HA := Lib.hid ha
      have HB := Lib.hid hb
      clear ha hb
      go_enter Try.func57, Try.ntmps57
      go_wp2_with fail
      refine (rSm_is _ _ HA _).mono ?_
      rintro e w1 ⟨rfl, hb1⟩
      have q1_1_0 : CellF w1 ⟨w.heap.size, 0, none⟩ (.int .i64 x) := (by refine CellF.keep hb1 ?_; (first | ((repeat (first | ((with_reducible refine CellF.at_ ?_ ?_); (first | (simp; done) | rfl); rfl) | with_reducible refine CellF.past _ ?_ | with_reducible refine CellF.drew ?_ | with_reducible refine CellF.drewN _ ?_)); done) | (refine ⟨?_, ?_⟩ <;> go_simp)))
      have c1_1_0 := q1_1_0.1
      have q1_1_1 : CellF w1 ⟨w.heap.size, 1, none⟩ (.int .i64 y) := (by refine CellF.keep hb1 ?_; (first | ((repeat (first | ((with_reducible refine CellF.at_ ?_ ?_); (first | (simp; done) | rfl); rfl) | with_reducible refine CellF.past _ ?_ | with_reducible refine CellF.drew ?_ | with_reducible refine CellF.drewN _ ?_)); done) | (refine ⟨?_, ?_⟩ <;> go_simp)))
      have c1_1_1 := q1_1_1.1
      have q1_1_2 : CellF w1 ⟨w.heap.size, 2, none⟩ (.bool true) := (by refine CellF.keep hb1 ?_; (first | ((repeat (first | ((with_reducible refine CellF.at_ ?_ ?_); (first | (simp; done) | rfl); rfl) | with_reducible refine CellF.past _ ?_ | with_reducible refine CellF.drew ?_ | with_reducible refine CellF.drewN _ ?_)); done) | (refine ⟨?_, ?_⟩ <;> go_simp)))
      have c1_1_2 := q1_1_2.1
      have z1_1 : w.heap.size < w1.heap.size := ltc c1_1_0
      cases a with
      | false =>
        obtain rfl : false = q := by rw [← hq] <;> rfl
        clear hq
        go_wp2
        go_ret
        exact ⟨rfl, (by repeat (first | exact brefl _ | refine balloc ?_ _ | refine bdrewN ?_ _ | refine bset ?_ (by dsimp only; omega) _ | refine bstep ?_ (by assumption)))⟩
      | true =>
        go_wp2_with fail
        refine (rSm_is _ _ HB _).mono ?_
        rintro e w2 ⟨rfl, hb2⟩
        have q2_2_0 : CellF w2 ⟨w.heap.size, 0, none⟩ (.int .i64 x) := (by first | exact q1_1_0.keep hb2 | exact q1_1_0.drew.keep hb2 | exact (q1_1_0.past _).keep hb2 | exact (q1_1_0.past _).drew.keep hb2)
        have c2_2_0 := q2_2_0.1
        have q2_2_1 : CellF w2 ⟨w.heap.size, 1, none⟩ (.int .i64 y) := (by first | exact q1_1_1.keep hb2 | exact q1_1_1.drew.keep hb2 | exact (q1_1_1.past _).keep hb2 | exact (q1_1_1.past _).drew.keep hb2)
        have c2_2_1 := q2_2_1.1
        have q2_2_2 : CellF w2 ⟨w.heap.size, 2, none⟩ (.bool true) := (by first | exact q1_1_2.keep hb2 | exact q1_1_2.drew.keep hb2 | exact (q1_1_2.past _).keep hb2 | exact (q1_1_2.past _).drew.keep hb2)
        have c2_2_2 := q2_2_2.1
        have z2_2 : w.heap.size < w2.heap.size := ltc c2_2_0
        clear q1_1_0 c1_1_0 q1_1_1 c1_1_1 q1_1_2 c1_1_2 z1_1
        obtain rfl : b = q := by rw [← hq] <;> rfl
        clear hq
        go_wp2
        go_ret
        exact ⟨rfl, (by repeat (first | exact brefl _ | refine balloc ?_ _ | refine bdrewN ?_ _ | refine bset ?_ (by dsimp only; omega) _ | refine bstep ?_ (by assumption)))⟩
    · rw [decide_eq_false h0, Bool.and_false] at hq
      obtain rfl : false = q := by rw [← hq] <;> (first | rfl | simp)
      clear hq
      go_enter Try.func57, Try.ntmps57
      go_wp2
      go_ret
      exact ⟨by first | rfl | (simp; done) | (simp; omega), (by repeat (first | exact brefl _ | refine balloc ?_ _ | refine bdrewN ?_ _ | refine bset ?_ (by dsimp only; omega) _ | refine bstep ?_ (by assumption)))⟩
end Go.Proofs.Ytnphbdhcoiaklaa
namespace Go.Proofs.Ytnphbdhcoiaklaa
open Go.RowKit

/-- A span as it is told: unknown, if it is not right. -/
def spTold (s : Sp) : Sp := if spK s = true then s else spNo
theorem told_in {s t : Sp} (h : spTold s = t) : (spK s = true ∧ t = s ∧ t.kn = true) ∨ (spK s = false ∧ t = spNo) := by
  unfold spTold at h
  split at h
  · rename_i hk
    exact .inl ⟨hk, h.symm, by rw [← h]; exact (spK_iff.1 hk).1⟩
  · rename_i hk
    exact .inr ⟨by cases hh : spK s <;> simp_all, h.symm⟩
theorem told_right (s : Sp) : (if spRight s = true then s else spNo) = spTold s := by
  obtain ⟨lo, hi, k⟩ := s
  unfold spTold spK
  cases k with
  | true => simp
  | false =>
    simp only [Bool.false_and, Bool.false_eq_true, if_false]
    split
    · rename_i h
      unfold spRight at h
      simp at h
      rw [h.1, h.2]; rfl
    · rfl
theorem r3_add (s o : Sp) : (if ((((spTold s).kn && (spTold o).kn) && (addP (spTold s).lo (spTold o).lo).2) && (addP (spTold s).hi (spTold o).hi).2) = true then spOf (addP (spTold s).lo (spTold o).lo).1 (addP (spTold s).hi (spTold o).hi).1 else spNo) = spAdd s o := by
  rcases told_in (s := s) rfl with ⟨hk, ht, hn⟩ | ⟨hk, ht⟩
  · rcases told_in (s := o) rfl with ⟨gk, gt, gn⟩ | ⟨gk, gt⟩
    · unfold spAdd spMade; rw [hn, gn, ht, gt, hk, gk]; rfl
    · unfold spAdd; rw [hn, gt, hk, gk]; rfl
  · unfold spAdd; rw [ht, hk]; rfl
theorem r3_sub (s o : Sp) : (if ((((spTold s).kn && (spTold o).kn) && (subP (spTold s).lo (spTold o).hi).2) && (subP (spTold s).hi (spTold o).lo).2) = true then spOf (subP (spTold s).lo (spTold o).hi).1 (subP (spTold s).hi (spTold o).lo).1 else spNo) = spSub s o := by
  rcases told_in (s := s) rfl with ⟨hk, ht, hn⟩ | ⟨hk, ht⟩
  · rcases told_in (s := o) rfl with ⟨gk, gt, gn⟩ | ⟨gk, gt⟩
    · unfold spSub spMade; rw [hn, gn, ht, gt, hk, gk]; rfl
    · unfold spSub; rw [hn, gt, hk, gk]; rfl
  · unfold spSub; rw [ht, hk]; rfl
theorem r3_meet (s o : Sp) : (if (spTold s).kn = true then (if (spTold o).kn = true then spOf (if (spTold o).lo ≤ (spTold s).lo then (spTold s).lo else (spTold o).lo) (if (spTold s).hi ≤ (spTold o).hi then (spTold s).hi else (spTold o).hi) else spTold s) else spTold o) = spMeet s o := by
  rcases told_in (s := s) rfl with ⟨hk, ht, hn⟩ | ⟨hk, ht⟩
  · rcases told_in (s := o) rfl with ⟨gk, gt, gn⟩ | ⟨gk, gt⟩
    · unfold spMeet; rw [hn, gn, ht, gt, hk, gk]; rfl
    · unfold spMeet; rw [hn, ht, gt, hk, gk]; rfl
  · unfold spMeet
    rw [ht, hk]
    rcases told_in (s := o) rfl with ⟨gk, gt, gn⟩ | ⟨gk, gt⟩
    · rw [gt, gk]; rfl
    · rw [gt, gk]; rfl
theorem sub_as_add (a b : Int) : subP a b = addP a (-b) := by unfold subP addP; rw [smallB_neg, Int.sub_eq_add_neg]
theorem small_low {a b : Int} (h : smallB b = false) : addP a b = (0, false) := by unfold addP; rw [h, Bool.and_false]; rfl
theorem r3_wider (s : Sp) (low high : Int) : (if (((((spTold s).kn && decide (0 ≤ low)) && decide (0 ≤ high)) && (subP (spTold s).lo low).2) && (addP (spTold s).hi high).2) = true then spOf (subP (spTold s).lo low).1 (addP (spTold s).hi high).1 else spNo) = spWider s low high := by
  rw [sub_as_add]
  by_cases h1 : low < 0
  · have hw : spWider s low high = spNo := by unfold spWider; rw [if_pos (.inl h1)]
    rw [hw, decide_eq_false (show ¬ 0 ≤ low by omega)]; simp
  by_cases h2 : high < 0
  · have hw : spWider s low high = spNo := by unfold spWider; rw [if_pos (.inr (.inl h2))]
    rw [hw, decide_eq_false (show ¬ 0 ≤ high by omega)]; simp
  cases h3 : smallB low with
  | false =>
    have hw : spWider s low high = spNo := by unfold spWider; rw [if_pos (.inr (.inr (by rw [h3]; rfl)))]
    rw [hw, small_low (b := -low) (by rw [smallB_neg]; exact h3)]; simp
  | true =>
    cases h4 : smallB high with
    | false =>
      have hw : spWider s low high = spNo := by unfold spWider; rw [if_pos (.inr (.inr (by rw [h3, h4]; rfl)))]
      rw [hw, small_low h4]; simp
    | true =>
      have hof : spOf (-low) high = ⟨-low, high, true⟩ := spOf_yes (by rw [smallB_neg, h3, h4]; rfl) (by omega)
      have hk : spK ⟨-low, high, true⟩ = true := spK_iff.2 ⟨rfl, by rw [smallB_neg]; exact h3, h4, by omega⟩
      have ht : spTold ⟨-low, high, true⟩ = ⟨-low, high, true⟩ := by unfold spTold; rw [if_pos hk]
      have hw : spWider s low high = spAdd s ⟨-low, high, true⟩ := by unfold spWider; rw [if_neg (by rintro (z | z | z) <;> first | omega | (rw [h3, h4] at z; cases z)), hof]
      rw [hw, ← r3_add, ht, decide_eq_true (show 0 ≤ low by omega), decide_eq_true (show 0 ≤ high by omega)]
      simp
set_option maxRecDepth 100000 in
set_option maxHeartbeats 4000000 in
theorem r3Of_is (lo hi : Int) (x y : Int) (z : Bool) (H : Hid (spOf lo hi = ⟨x, y, z⟩)) (w : World) :
    Calls Try.prog 51 #[.int .i64 lo, .int .i64 hi] w fun e w' => e = .returned (.agg #[.int .i64 x, .int .i64 y, .bool z]) ∧ Below w.heap.size w w' := by
  have hx := H.out
  clear H
  by_cases h0 : hi < lo
  · rw [spOf_no2 h0] at hx
    cases hx
    go_enter Try.func51, Try.ntmps51
    go_wp2
    exact bodyPost_ret (v := .agg #[.int .i64 0, .int .i64 0, .bool false]) (by simp [results, Try.results51, go_sem]) rfl ⟨rfl, (by repeat (first | exact brefl _ | refine balloc ?_ _ | refine bdrewN ?_ _ | refine bset ?_ (by dsimp only; omega) _ | refine bstep ?_ (by assumption)))⟩
  obtain ⟨a, ha⟩ : ∃ a, smallB lo = a := ⟨_, rfl⟩
  obtain ⟨b, hb⟩ : ∃ b, smallB hi = b := ⟨_, rfl⟩
  have HA := Lib.hid ha
  have HB := Lib.hid hb
  have hx : (if (a && b) = true then (⟨lo, hi, true⟩ : Sp) else spNo) = ⟨x, y, z⟩ := by rw [← hx, ← ha, ← hb]; unfold spOf; cases hq : (smallB lo && smallB hi) with | false => simp | true => simp [show lo ≤ hi by omega]
  clear ha hb
  go_enter Try.func51, Try.ntmps51
  go_wp2_with fail
  refine (rSm_is _ _ HA _).mono ?_
  rintro e w1 ⟨rfl, hb1⟩
  have q1_1_0 : CellF w1 ⟨w.heap.size, 0, none⟩ (.int .i64 0) := CellF.keep hb1 (CellF.at_ rfl rfl)
  have c1_1_0 := q1_1_0.1
  have g1_1_0 := q1_1_0.2
  have q1_1_1 : CellF w1 ⟨w.heap.size, 1, none⟩ (.int .i64 0) := CellF.keep hb1 (CellF.at_ rfl rfl)
  have c1_1_1 := q1_1_1.1
  have g1_1_1 := q1_1_1.2
  have q1_1_2 : CellF w1 ⟨w.heap.size, 2, none⟩ (.bool false) := CellF.keep hb1 (CellF.at_ rfl rfl)
  have c1_1_2 := q1_1_2.1
  have g1_1_2 := q1_1_2.2
  have z1_1 : w.heap.size < w1.heap.size := ltc c1_1_0
  cases a with
  | false =>
    cases hx
    go_wp2
    exact bodyPost_ret (v := .agg #[.int .i64 0, .int .i64 0, .bool false]) (by simp [results, Try.results51, go_sem, c1_1_0, c1_1_1, c1_1_2]) rfl ⟨rfl, (by repeat (first | with_reducible assumption | with_reducible exact brefl _ | with_reducible refine balloc ?_ _ | with_reducible refine bdrewN ?_ _ | with_reducible refine bset ?_ ?_ _ | (dsimp only; omega) | refine bstep ?_ (by assumption)))⟩
  | true =>
    go_wp2_with fail
    refine (rSm_is _ _ HB _).mono ?_
    rintro e w2 ⟨rfl, hb2⟩
    have q2_2_0 : CellF w2 ⟨w.heap.size, 0, none⟩ (.int .i64 0) := CellF.keep hb2 (q1_1_0)
    have c2_2_0 := q2_2_0.1
    have g2_2_0 := q2_2_0.2
    have q2_2_1 : CellF w2 ⟨w.heap.size, 1, none⟩ (.int .i64 0) := CellF.keep hb2 (q1_1_1)
    have c2_2_1 := q2_2_1.1
    have g2_2_1 := q2_2_1.2
    have q2_2_2 : CellF w2 ⟨w.heap.size, 2, none⟩ (.bool false) := CellF.keep hb2 (q1_1_2)
    have c2_2_2 := q2_2_2.1
    have g2_2_2 := q2_2_2.2
    have z2_2 : w.heap.size < w2.heap.size := ltc c2_2_0
    clear q1_1_0 c1_1_0 g1_1_0 q1_1_1 c1_1_1 g1_1_1 q1_1_2 c1_1_2 g1_1_2 z1_1
    cases b with
    | false =>
      cases hx
      go_wp2
      exact bodyPost_ret (v := .agg #[.int .i64 0, .int .i64 0, .bool false]) (by simp [results, Try.results51, go_sem, c2_2_0, c2_2_1, c2_2_2]) rfl ⟨rfl, (by repeat (first | with_reducible assumption | with_reducible exact brefl _ | with_reducible refine balloc ?_ _ | with_reducible refine bdrewN ?_ _ | with_reducible refine bset ?_ ?_ _ | (dsimp only; omega) | refine bstep ?_ (by assumption)))⟩
    | true =>
      cases hx
      go_wp2
      exact bodyPost_ret (v := .agg #[.int .i64 lo, .int .i64 hi, .bool true]) (by simp [results, Try.results51, go_sem, c2_2_0, c2_2_1, c2_2_2]) rfl ⟨rfl, (by repeat (first | with_reducible assumption | with_reducible exact brefl _ | with_reducible refine balloc ?_ _ | with_reducible refine bdrewN ?_ _ | with_reducible refine bset ?_ ?_ _ | (dsimp only; omega) | refine bstep ?_ (by assumption)))⟩

set_option maxRecDepth 100000 in
set_option maxHeartbeats 4000000 in
theorem r3Told_is (lo hi : Int) (k : Bool) (x y : Int) (z : Bool) (H : Hid (spTold ⟨lo, hi, k⟩ = ⟨x, y, z⟩)) (w : World) :
    Calls Try.prog 98 #[.agg #[.int .i64 lo, .int .i64 hi, .bool k]] w fun e w' => e = .returned (.agg #[.int .i64 x, .int .i64 y, .bool z]) ∧ Below w.heap.size w w' := by
  have hx := H.out
  rw [← told_right] at hx
  obtain ⟨q, hq⟩ : ∃ q, spRight ⟨lo, hi, k⟩ = q := ⟨_, rfl⟩
  rw [hq] at hx
  have HQ := Lib.hid hq
  clear H hq
  go_enter Try.func98, Try.ntmps98
  go_wp2_with fail
  refine (r3Right_is _ _ _ _ HQ _).mono ?_
  rintro e w1 ⟨rfl, hb1⟩
  have q1_1_0 : CellF w1 ⟨w.heap.size, 0, none⟩ (.int .i64 lo) := CellF.keep hb1 (CellF.past _ (CellF.at_ rfl rfl))
  have c1_1_0 := q1_1_0.1
  have g1_1_0 := q1_1_0.2
  have q1_1_1 : CellF w1 ⟨w.heap.size, 1, none⟩ (.int .i64 hi) := CellF.keep hb1 (CellF.past _ (CellF.at_ rfl rfl))
  have c1_1_1 := q1_1_1.1
  have g1_1_1 := q1_1_1.2
  have q1_1_2 : CellF w1 ⟨w.heap.size, 2, none⟩ (.bool k) := CellF.keep hb1 (CellF.past _ (CellF.at_ rfl rfl))
  have c1_1_2 := q1_1_2.1
  have g1_1_2 := q1_1_2.2
  have z1_1 : w.heap.size < w1.heap.size := ltc c1_1_0
  have q1_2_0 : CellF w1 ⟨(w.heap.size + 1), 0, none⟩ (.int .i64 0) := CellF.keep hb1 (CellF.at_ (by simp) rfl)
  have c1_2_0 := q1_2_0.1
  have g1_2_0 := q1_2_0.2
  have q1_2_1 : CellF w1 ⟨(w.heap.size + 1), 1, none⟩ (.int .i64 0) := CellF.keep hb1 (CellF.at_ (by simp) rfl)
  have c1_2_1 := q1_2_1.1
  have g1_2_1 := q1_2_1.2
  have q1_2_2 : CellF w1 ⟨(w.heap.size + 1), 2, none⟩ (.bool false) := CellF.keep hb1 (CellF.at_ (by simp) rfl)
  have c1_2_2 := q1_2_2.1
  have g1_2_2 := q1_2_2.2
  have z1_2 : (w.heap.size + 1) < w1.heap.size := ltc c1_2_0
  cases q with
  | false =>
    cases hx
    go_wp2
    exact bodyPost_ret (v := .agg #[.int .i64 0, .int .i64 0, .bool false]) (by simp [results, Try.results98, go_sem, c1_2_0, c1_2_1, c1_2_2]) rfl ⟨rfl, (by repeat (first | with_reducible assumption | with_reducible exact brefl _ | with_reducible refine balloc ?_ _ | with_reducible refine bdrewN ?_ _ | with_reducible refine bset ?_ ?_ _ | (dsimp only; omega) | refine bstep ?_ (by assumption)))⟩
  | true =>
    cases hx
    go_wp2
    exact bodyPost_ret (v := .agg #[.int .i64 lo, .int .i64 hi, .bool k]) (by simp [results, Try.results98, go_sem, c1_2_0, c1_2_1, c1_2_2]) rfl ⟨rfl, (by repeat (first | with_reducible assumption | with_reducible exact brefl _ | with_reducible refine balloc ?_ _ | with_reducible refine bdrewN ?_ _ | with_reducible refine bset ?_ ?_ _ | (dsimp only; omega) | refine bstep ?_ (by assumption)))⟩

end Go.Proofs.Ytnphbdhcoiaklaa
namespace Go.Proofs.Ytnphbdhcoiaklaa
open Go.RowKit

set_option maxRecDepth 100000 in
set_option maxHeartbeats 4000000 in
theorem r3Meet_is (lo hi : Int) (k : Bool) (lo2 hi2 : Int) (k2 : Bool) (x y : Int) (z : Bool) (H : Hid (spMeet ⟨lo, hi, k⟩ ⟨lo2, hi2, k2⟩ = ⟨x, y, z⟩)) (w : World) :
    Calls Try.prog 44 #[.agg #[.int .i64 lo, .int .i64 hi, .bool k], .agg #[.int .i64 lo2, .int .i64 hi2, .bool k2]] w fun e w' => e = .returned (.agg #[.int .i64 x, .int .i64 y, .bool z]) ∧ Below w.heap.size w w' := by
  have hx := H.out
  rw [← r3_meet] at hx
  obtain ⟨⟨a, b, c⟩, h1⟩ : ∃ s, spTold ⟨lo, hi, k⟩ = s := ⟨_, rfl⟩
  obtain ⟨⟨d, e', f⟩, h2⟩ : ∃ s, spTold ⟨lo2, hi2, k2⟩ = s := ⟨_, rfl⟩
  rw [h1, h2] at hx
  dsimp only at hx
  have H1 := Lib.hid h1
  have H2 := Lib.hid h2
  clear H h1 h2
  go_enter Try.func44, Try.ntmps44
  go_wp2_with fail
  refine (r3Told_is _ _ _ _ _ _ H1 _).mono ?_
  rintro e w1 ⟨rfl, hb1⟩
  have q1_1_0 : CellF w1 ⟨w.heap.size, 0, none⟩ (.int .i64 lo) := CellF.keep hb1 (CellF.past _ (CellF.past _ (CellF.at_ rfl rfl)))
  have c1_1_0 := q1_1_0.1
  have g1_1_0 := q1_1_0.2
  have q1_1_1 : CellF w1 ⟨w.heap.size, 1, none⟩ (.int .i64 hi) := CellF.keep hb1 (CellF.past _ (CellF.past _ (CellF.at_ rfl rfl)))
  have c1_1_1 := q1_1_1.1
  have g1_1_1 := q1_1_1.2
  have q1_1_2 : CellF w1 ⟨w.heap.size, 2, none⟩ (.bool k) := CellF.keep hb1 (CellF.past _ (CellF.past _ (CellF.at_ rfl rfl)))
  have c1_1_2 := q1_1_2.1
  have g1_1_2 := q1_1_2.2
  have z1_1 : w.heap.size < w1.heap.size := ltc c1_1_0
  have q1_2_0 : CellF w1 ⟨(w.heap.size + 1), 0, none⟩ (.int .i64 lo2) := CellF.keep hb1 (CellF.past _ (CellF.at_ (by simp) rfl))
  have c1_2_0 := q1_2_0.1
  have g1_2_0 := q1_2_0.2
  have q1_2_1 : CellF w1 ⟨(w.heap.size + 1), 1, none⟩ (.int .i64 hi2) := CellF.keep hb1 (CellF.past _ (CellF.at_ (by simp) rfl))
  have c1_2_1 := q1_2_1.1
  have g1_2_1 := q1_2_1.2
  have q1_2_2 : CellF w1 ⟨(w.heap.size + 1), 2, none⟩ (.bool k2) := CellF.keep hb1 (CellF.past _ (CellF.at_ (by simp) rfl))
  have c1_2_2 := q1_2_2.1
  have g1_2_2 := q1_2_2.2
  have z1_2 : (w.heap.size + 1) < w1.heap.size := ltc c1_2_0
  have q1_3_0 : CellF w1 ⟨(w.heap.size + 1 + 1), 0, none⟩ (.int .i64 0) := CellF.keep hb1 (CellF.at_ (by simp) rfl)
  have c1_3_0 := q1_3_0.1
  have g1_3_0 := q1_3_0.2
  have q1_3_1 : CellF w1 ⟨(w.heap.size + 1 + 1), 1, none⟩ (.int .i64 0) := CellF.keep hb1 (CellF.at_ (by simp) rfl)
  have c1_3_1 := q1_3_1.1
  have g1_3_1 := q1_3_1.2
  have q1_3_2 : CellF w1 ⟨(w.heap.size + 1 + 1), 2, none⟩ (.bool false) := CellF.keep hb1 (CellF.at_ (by simp) rfl)
  have c1_3_2 := q1_3_2.1
  have g1_3_2 := q1_3_2.2
  have z1_3 : (w.heap.size + 1 + 1) < w1.heap.size := ltc c1_3_0
  go_wp2_with fail
  refine (r3Told_is _ _ _ _ _ _ H2 _).mono ?_
  rintro e w2 ⟨rfl, hb2⟩
  have q2_4_0 : CellF w2 ⟨w.heap.size, 0, none⟩ (.int .i64 a) := CellF.keep hb2 ((span_sets (show SpanAt _ w.heap.size _ _ _ from ⟨q1_1_0, q1_1_1, q1_1_2⟩)).1.1)
  have c2_4_0 := q2_4_0.1
  have g2_4_0 := q2_4_0.2
  have q2_4_1 : CellF w2 ⟨w.heap.size, 1, none⟩ (.int .i64 b) := CellF.keep hb2 ((span_sets (show SpanAt _ w.heap.size _ _ _ from ⟨q1_1_0, q1_1_1, q1_1_2⟩)).1.2.1)
  have c2_4_1 := q2_4_1.1
  have g2_4_1 := q2_4_1.2
  have q2_4_2 : CellF w2 ⟨w.heap.size, 2, none⟩ (.bool c) := CellF.keep hb2 ((span_sets (show SpanAt _ w.heap.size _ _ _ from ⟨q1_1_0, q1_1_1, q1_1_2⟩)).1.2.2)
  have c2_4_2 := q2_4_2.1
  have g2_4_2 := q2_4_2.2
  have z2_4 : w.heap.size < w2.heap.size := ltc c2_4_0
  have q2_5_0 : CellF w2 ⟨(w.heap.size + 1), 0, none⟩ (.int .i64 lo2) := CellF.keep hb2 (CellF.set_other' _ (by intro e; injection e with e1 e2; omega) (CellF.set_other' _ (by intro e; injection e with e1 e2; omega) (CellF.set_other' _ (by intro e; injection e with e1 e2; omega) q1_2_0)))
  have c2_5_0 := q2_5_0.1
  have g2_5_0 := q2_5_0.2
  have q2_5_1 : CellF w2 ⟨(w.heap.size + 1), 1, none⟩ (.int .i64 hi2) := CellF.keep hb2 (CellF.set_other' _ (by intro e; injection e with e1 e2; omega) (CellF.set_other' _ (by intro e; injection e with e1 e2; omega) (CellF.set_other' _ (by intro e; injection e with e1 e2; omega) q1_2_1)))
  have c2_5_1 := q2_5_1.1
  have g2_5_1 := q2_5_1.2
  have q2_5_2 : CellF w2 ⟨(w.heap.size + 1), 2, none⟩ (.bool k2) := CellF.keep hb2 (CellF.set_other' _ (by intro e; injection e with e1 e2; omega) (CellF.set_other' _ (by intro e; injection e with e1 e2; omega) (CellF.set_other' _ (by intro e; injection e with e1 e2; omega) q1_2_2)))
  have c2_5_2 := q2_5_2.1
  have g2_5_2 := q2_5_2.2
  have z2_5 : (w.heap.size + 1) < w2.heap.size := ltc c2_5_0
  have q2_6_0 : CellF w2 ⟨(w.heap.size + 1 + 1), 0, none⟩ (.int .i64 0) := CellF.keep hb2 (CellF.set_other' _ (by intro e; injection e with e1 e2; omega) (CellF.set_other' _ (by intro e; injection e with e1 e2; omega) (CellF.set_other' _ (by intro e; injection e with e1 e2; omega) q1_3_0)))
  have c2_6_0 := q2_6_0.1
  have g2_6_0 := q2_6_0.2
  have q2_6_1 : CellF w2 ⟨(w.heap.size + 1 + 1), 1, none⟩ (.int .i64 0) := CellF.keep hb2 (CellF.set_other' _ (by intro e; injection e with e1 e2; omega) (CellF.set_other' _ (by intro e; injection e with e1 e2; omega) (CellF.set_other' _ (by intro e; injection e with e1 e2; omega) q1_3_1)))
  have c2_6_1 := q2_6_1.1
  have g2_6_1 := q2_6_1.2
  have q2_6_2 : CellF w2 ⟨(w.heap.size + 1 + 1), 2, none⟩ (.bool false) := CellF.keep hb2 (CellF.set_other' _ (by intro e; injection e with e1 e2; omega) (CellF.set_other' _ (by intro e; injection e with e1 e2; omega) (CellF.set_other' _ (by intro e; injection e with e1 e2; omega) q1_3_2)))
  have c2_6_2 := q2_6_2.1
  have g2_6_2 := q2_6_2.2
  have z2_6 : (w.heap.size + 1 + 1) < w2.heap.size := ltc c2_6_0
  clear q1_1_0 c1_1_0 g1_1_0 q1_1_1 c1_1_1 g1_1_1 q1_1_2 c1_1_2 g1_1_2 z1_1 q1_2_0 c1_2_0 g1_2_0 q1_2_1 c1_2_1 g1_2_1 q1_2_2 c1_2_2 g1_2_2 z1_2 q1_3_0 c1_3_0 g1_3_0 q1_3_1 c1_3_1 g1_3_1 q1_3_2 c1_3_2 g1_3_2 z1_3
  cases c with
  | false =>
    cases hx
    go_wp2
    exact bodyPost_ret (v := .agg #[.int .i64 x, .int .i64 y, .bool z]) (by simp [results, Try.results44, go_sem, c2_6_0, c2_6_1, c2_6_2]) rfl ⟨rfl, (by repeat (first | with_reducible assumption | with_reducible exact brefl _ | with_reducible refine balloc ?_ _ | with_reducible refine bdrewN ?_ _ | with_reducible refine bset ?_ ?_ _ | (dsimp only; omega) | refine bstep ?_ (by assumption)))⟩
  | true =>
    cases f with
    | false =>
      cases hx
      go_wp2
      exact bodyPost_ret (v := .agg #[.int .i64 x, .int .i64 y, .bool true]) (by simp [results, Try.results44, go_sem, c2_6_0, c2_6_1, c2_6_2]) rfl ⟨rfl, (by repeat (first | with_reducible assumption | with_reducible exact brefl _ | with_reducible refine balloc ?_ _ | with_reducible refine bdrewN ?_ _ | with_reducible refine bset ?_ ?_ _ | (dsimp only; omega) | refine bstep ?_ (by assumption)))⟩
    | true =>
      by_cases n1 : d ≤ a
      ·
        by_cases n2 : b ≤ e'
        ·
          have HX : Hid (spOf a b = ⟨x, y, z⟩) := Lib.hid (by rw [← hx]; simp [*])
          clear hx
          go_wp2_with fail
          refine (r3Of_is _ _ _ _ _ HX _).mono ?_
          rintro e w3 ⟨rfl, hb3⟩
          have q3_7_0 : CellF w3 ⟨w.heap.size, 0, none⟩ (.int .i64 a) := CellF.keep hb3 (CellF.set_other' _ (by intro e; injection e with e1 e2; omega) (CellF.set_other' _ (by intro e; injection e with e1 e2; omega) (CellF.set_other' _ (by intro e; injection e with e1 e2; omega) q2_4_0)))
          have c3_7_0 := q3_7_0.1
          have g3_7_0 := q3_7_0.2
          have q3_7_1 : CellF w3 ⟨w.heap.size, 1, none⟩ (.int .i64 b) := CellF.keep hb3 (CellF.set_other' _ (by intro e; injection e with e1 e2; omega) (CellF.set_other' _ (by intro e; injection e with e1 e2; omega) (CellF.set_other' _ (by intro e; injection e with e1 e2; omega) q2_4_1)))
          have c3_7_1 := q3_7_1.1
          have g3_7_1 := q3_7_1.2
          have q3_7_2 : CellF w3 ⟨w.heap.size, 2, none⟩ (.bool true) := CellF.keep hb3 (CellF.set_other' _ (by intro e; injection e with e1 e2; omega) (CellF.set_other' _ (by intro e; injection e with e1 e2; omega) (CellF.set_other' _ (by intro e; injection e with e1 e2; omega) q2_4_2)))
          have c3_7_2 := q3_7_2.1
          have g3_7_2 := q3_7_2.2
          have z3_7 : w.heap.size < w3.heap.size := ltc c3_7_0
          have q3_8_0 : CellF w3 ⟨(w.heap.size + 1), 0, none⟩ (.int .i64 d) := CellF.keep hb3 ((span_sets (show SpanAt _ (w.heap.size + 1) _ _ _ from ⟨q2_5_0, q2_5_1, q2_5_2⟩)).1.1)
          have c3_8_0 := q3_8_0.1
          have g3_8_0 := q3_8_0.2
          have q3_8_1 : CellF w3 ⟨(w.heap.size + 1), 1, none⟩ (.int .i64 e') := CellF.keep hb3 ((span_sets (show SpanAt _ (w.heap.size + 1) _ _ _ from ⟨q2_5_0, q2_5_1, q2_5_2⟩)).1.2.1)
          have c3_8_1 := q3_8_1.1
          have g3_8_1 := q3_8_1.2
          have q3_8_2 : CellF w3 ⟨(w.heap.size + 1), 2, none⟩ (.bool true) := CellF.keep hb3 ((span_sets (show SpanAt _ (w.heap.size + 1) _ _ _ from ⟨q2_5_0, q2_5_1, q2_5_2⟩)).1.2.2)
          have c3_8_2 := q3_8_2.1
          have g3_8_2 := q3_8_2.2
          have z3_8 : (w.heap.size + 1) < w3.heap.size := ltc c3_8_0
          have q3_9_0 : CellF w3 ⟨(w.heap.size + 1 + 1), 0, none⟩ (.int .i64 0) := CellF.keep hb3 (CellF.set_other' _ (by intro e; injection e with e1 e2; omega) (CellF.set_other' _ (by intro e; injection e with e1 e2; omega) (CellF.set_other' _ (by intro e; injection e with e1 e2; omega) q2_6_0)))
          have c3_9_0 := q3_9_0.1
          have g3_9_0 := q3_9_0.2
          have q3_9_1 : CellF w3 ⟨(w.heap.size + 1 + 1), 1, none⟩ (.int .i64 0) := CellF.keep hb3 (CellF.set_other' _ (by intro e; injection e with e1 e2; omega) (CellF.set_other' _ (by intro e; injection e with e1 e2; omega) (CellF.set_other' _ (by intro e; injection e with e1 e2; omega) q2_6_1)))
          have c3_9_1 := q3_9_1.1
          have g3_9_1 := q3_9_1.2
          have q3_9_2 : CellF w3 ⟨(w.heap.size + 1 + 1), 2, none⟩ (.bool false) := CellF.keep hb3 (CellF.set_other' _ (by intro e; injection e with e1 e2; omega) (CellF.set_other' _ (by intro e; injection e with e1 e2; omega) (CellF.set_other' _ (by intro e; injection e with e1 e2; omega) q2_6_2)))
          have c3_9_2 := q3_9_2.1
          have g3_9_2 := q3_9_2.2
          have z3_9 : (w.heap.size + 1 + 1) < w3.heap.size := ltc c3_9_0
          clear q2_4_0 c2_4_0 g2_4_0 q2_4_1 c2_4_1 g2_4_1 q2_4_2 c2_4_2 g2_4_2 z2_4 q2_5_0 c2_5_0 g2_5_0 q2_5_1 c2_5_1 g2_5_1 q2_5_2 c2_5_2 g2_5_2 z2_5 q2_6_0 c2_6_0 g2_6_0 q2_6_1 c2_6_1 g2_6_1 q2_6_2 c2_6_2 g2_6_2 z2_6
          go_wp2
          exact bodyPost_ret (v := .agg #[.int .i64 x, .int .i64 y, .bool z]) (by simp [results, Try.results44, go_sem, c3_9_0, c3_9_1, c3_9_2]) rfl ⟨rfl, (by repeat (first | with_reducible assumption | with_reducible exact brefl _ | with_reducible refine balloc ?_ _ | with_reducible refine bdrewN ?_ _ | with_reducible refine bset ?_ ?_ _ | (dsimp only; omega) | refine bstep ?_ (by assumption)))⟩
        ·
          have HX : Hid (spOf a e' = ⟨x, y, z⟩) := Lib.hid (by rw [← hx]; simp [*])
          clear hx
          go_wp2_with fail
          refine (r3Of_is _ _ _ _ _ HX _).mono ?_
          rintro e w3 ⟨rfl, hb3⟩
          have q3_7_0 : CellF w3 ⟨w.heap.size, 0, none⟩ (.int .i64 a) := CellF.keep hb3 (CellF.set_other' _ (by intro e; injection e with e1 e2; omega) (CellF.set_other' _ (by intro e; injection e with e1 e2; omega) (CellF.set_other' _ (by intro e; injection e with e1 e2; omega) q2_4_0)))
          have c3_7_0 := q3_7_0.1
          have g3_7_0 := q3_7_0.2
          have q3_7_1 : CellF w3 ⟨w.heap.size, 1, none⟩ (.int .i64 b) := CellF.keep hb3 (CellF.set_other' _ (by intro e; injection e with e1 e2; omega) (CellF.set_other' _ (by intro e; injection e with e1 e2; omega) (CellF.set_other' _ (by intro e; injection e with e1 e2; omega) q2_4_1)))
          have c3_7_1 := q3_7_1.1
          have g3_7_1 := q3_7_1.2
          have q3_7_2 : CellF w3 ⟨w.heap.size, 2, none⟩ (.bool true) := CellF.keep hb3 (CellF.set_other' _ (by intro e; injection e with e1 e2; omega) (CellF.set_other' _ (by intro e; injection e with e1 e2; omega) (CellF.set_other' _ (by intro e; injection e with e1 e2; omega) q2_4_2)))
          have c3_7_2 := q3_7_2.1
          have g3_7_2 := q3_7_2.2
          have z3_7 : w.heap.size < w3.heap.size := ltc c3_7_0
          have q3_8_0 : CellF w3 ⟨(w.heap.size + 1), 0, none⟩ (.int .i64 d) := CellF.keep hb3 ((span_sets (show SpanAt _ (w.heap.size + 1) _ _ _ from ⟨q2_5_0, q2_5_1, q2_5_2⟩)).1.1)
          have c3_8_0 := q3_8_0.1
          have g3_8_0 := q3_8_0.2
          have q3_8_1 : CellF w3 ⟨(w.heap.size + 1), 1, none⟩ (.int .i64 e') := CellF.keep hb3 ((span_sets (show SpanAt _ (w.heap.size + 1) _ _ _ from ⟨q2_5_0, q2_5_1, q2_5_2⟩)).1.2.1)
          have c3_8_1 := q3_8_1.1
          have g3_8_1 := q3_8_1.2
          have q3_8_2 : CellF w3 ⟨(w.heap.size + 1), 2, none⟩ (.bool true) := CellF.keep hb3 ((span_sets (show SpanAt _ (w.heap.size + 1) _ _ _ from ⟨q2_5_0, q2_5_1, q2_5_2⟩)).1.2.2)
          have c3_8_2 := q3_8_2.1
          have g3_8_2 := q3_8_2.2
          have z3_8 : (w.heap.size + 1) < w3.heap.size := ltc c3_8_0
          have q3_9_0 : CellF w3 ⟨(w.heap.size + 1 + 1), 0, none⟩ (.int .i64 0) := CellF.keep hb3 (CellF.set_other' _ (by intro e; injection e with e1 e2; omega) (CellF.set_other' _ (by intro e; injection e with e1 e2; omega) (CellF.set_other' _ (by intro e; injection e with e1 e2; omega) q2_6_0)))
          have c3_9_0 := q3_9_0.1
          have g3_9_0 := q3_9_0.2
          have q3_9_1 : CellF w3 ⟨(w.heap.size + 1 + 1), 1, none⟩ (.int .i64 0) := CellF.keep hb3 (CellF.set_other' _ (by intro e; injection e with e1 e2; omega) (CellF.set_other' _ (by intro e; injection e with e1 e2; omega) (CellF.set_other' _ (by intro e; injection e with e1 e2; omega) q2_6_1)))
          have c3_9_1 := q3_9_1.1
          have g3_9_1 := q3_9_1.2
          have q3_9_2 : CellF w3 ⟨(w.heap.size + 1 + 1), 2, none⟩ (.bool false) := CellF.keep hb3 (CellF.set_other' _ (by intro e; injection e with e1 e2; omega) (CellF.set_other' _ (by intro e; injection e with e1 e2; omega) (CellF.set_other' _ (by intro e; injection e with e1 e2; omega) q2_6_2)))
          have c3_9_2 := q3_9_2.1
          have g3_9_2 := q3_9_2.2
          have z3_9 : (w.heap.size + 1 + 1) < w3.heap.size := ltc c3_9_0
          clear q2_4_0 c2_4_0 g2_4_0 q2_4_1 c2_4_1 g2_4_1 q2_4_2 c2_4_2 g2_4_2 z2_4 q2_5_0 c2_5_0 g2_5_0 q2_5_1 c2_5_1 g2_5_1 q2_5_2 c2_5_2 g2_5_2 z2_5 q2_6_0 c2_6_0 g2_6_0 q2_6_1 c2_6_1 g2_6_1 q2_6_2 c2_6_2 g2_6_2 z2_6
          go_wp2
          exact bodyPost_ret (v := .agg #[.int .i64 x, .int .i64 y, .bool z]) (by simp [results, Try.results44, go_sem, c3_9_0, c3_9_1, c3_9_2]) rfl ⟨rfl, (by repeat (first | with_reducible assumption | with_reducible exact brefl _ | with_reducible refine balloc ?_ _ | with_reducible refine bdrewN ?_ _ | with_reducible refine bset ?_ ?_ _ | (dsimp only; omega) | refine bstep ?_ (by assumption)))⟩
      ·
        by_cases n2 : b ≤ e'
        ·
          have HX : Hid (spOf d b = ⟨x, y, z⟩) := Lib.hid (by rw [← hx]; simp [*])
          clear hx
          go_wp2_with fail
          refine (r3Of_is _ _ _ _ _ HX _).mono ?_
          rintro e w3 ⟨rfl, hb3⟩
          have q3_7_0 : CellF w3 ⟨w.heap.size, 0, none⟩ (.int .i64 a) := CellF.keep hb3 (CellF.set_other' _ (by intro e; injection e with e1 e2; omega) (CellF.set_other' _ (by intro e; injection e with e1 e2; omega) (CellF.set_other' _ (by intro e; injection e with e1 e2; omega) q2_4_0)))
          have c3_7_0 := q3_7_0.1
          have g3_7_0 := q3_7_0.2
          have q3_7_1 : CellF w3 ⟨w.heap.size, 1, none⟩ (.int .i64 b) := CellF.keep hb3 (CellF.set_other' _ (by intro e; injection e with e1 e2; omega) (CellF.set_other' _ (by intro e; injection e with e1 e2; omega) (CellF.set_other' _ (by intro e; injection e with e1 e2; omega) q2_4_1)))
          have c3_7_1 := q3_7_1.1
          have g3_7_1 := q3_7_1.2
          have q3_7_2 : CellF w3 ⟨w.heap.size, 2, none⟩ (.bool true) := CellF.keep hb3 (CellF.set_other' _ (by intro e; injection e with e1 e2; omega) (CellF.set_other' _ (by intro e; injection e with e1 e2; omega) (CellF.set_other' _ (by intro e; injection e with e1 e2; omega) q2_4_2)))
          have c3_7_2 := q3_7_2.1
          have g3_7_2 := q3_7_2.2
          have z3_7 : w.heap.size < w3.heap.size := ltc c3_7_0
          have q3_8_0 : CellF w3 ⟨(w.heap.size + 1), 0, none⟩ (.int .i64 d) := CellF.keep hb3 ((span_sets (show SpanAt _ (w.heap.size + 1) _ _ _ from ⟨q2_5_0, q2_5_1, q2_5_2⟩)).1.1)
          have c3_8_0 := q3_8_0.1
          have g3_8_0 := q3_8_0.2
          have q3_8_1 : CellF w3 ⟨(w.heap.size + 1), 1, none⟩ (.int .i64 e') := CellF.keep hb3 ((span_sets (show SpanAt _ (w.heap.size + 1) _ _ _ from ⟨q2_5_0, q2_5_1, q2_5_2⟩)).1.2.1)
          have c3_8_1 := q3_8_1.1
          have g3_8_1 := q3_8_1.2
          have q3_8_2 : CellF w3 ⟨(w.heap.size + 1), 2, none⟩ (.bool true) := CellF.keep hb3 ((span_sets (show SpanAt _ (w.heap.size + 1) _ _ _ from ⟨q2_5_0, q2_5_1, q2_5_2⟩)).1.2.2)
          have c3_8_2 := q3_8_2.1
          have g3_8_2 := q3_8_2.2
          have z3_8 : (w.heap.size + 1) < w3.heap.size := ltc c3_8_0
          have q3_9_0 : CellF w3 ⟨(w.heap.size + 1 + 1), 0, none⟩ (.int .i64 0) := CellF.keep hb3 (CellF.set_other' _ (by intro e; injection e with e1 e2; omega) (CellF.set_other' _ (by intro e; injection e with e1 e2; omega) (CellF.set_other' _ (by intro e; injection e with e1 e2; omega) q2_6_0)))
          have c3_9_0 := q3_9_0.1
          have g3_9_0 := q3_9_0.2
          have q3_9_1 : CellF w3 ⟨(w.heap.size + 1 + 1), 1, none⟩ (.int .i64 0) := CellF.keep hb3 (CellF.set_other' _ (by intro e; injection e with e1 e2; omega) (CellF.set_other' _ (by intro e; injection e with e1 e2; omega) (CellF.set_other' _ (by intro e; injection e with e1 e2; omega) q2_6_1)))
          have c3_9_1 := q3_9_1.1
          have g3_9_1 := q3_9_1.2
          have q3_9_2 : CellF w3 ⟨(w.heap.size + 1 + 1), 2, none⟩ (.bool false) := CellF.keep hb3 (CellF.set_other' _ (by intro e; injection e with e1 e2; omega) (CellF.set_other' _ (by intro e; injection e with e1 e2; omega) (CellF.set_other' _ (by intro e; injection e with e1 e2; omega) q2_6_2)))
          have c3_9_2 := q3_9_2.1
          have g3_9_2 := q3_9_2.2
          have z3_9 : (w.heap.size + 1 + 1) < w3.heap.size := ltc c3_9_0
          clear q2_4_0 c2_4_0 g2_4_0 q2_4_1 c2_4_1 g2_4_1 q2_4_2 c2_4_2 g2_4_2 z2_4 q2_5_0 c2_5_0 g2_5_0 q2_5_1 c2_5_1 g2_5_1 q2_5_2 c2_5_2 g2_5_2 z2_5 q2_6_0 c2_6_0 g2_6_0 q2_6_1 c2_6_1 g2_6_1 q2_6_2 c2_6_2 g2_6_2 z2_6
          go_wp2
          exact bodyPost_ret (v := .agg #[.int .i64 x, .int .i64 y, .bool z]) (by simp [results, Try.results44, go_sem, c3_9_0, c3_9_1, c3_9_2]) rfl ⟨rfl, (by repeat (first | with_reducible assumption | with_reducible exact brefl _ | with_reducible refine balloc ?_ _ | with_reducible refine bdrewN ?_ _ | with_reducible refine bset ?_ ?_ _ | (dsimp only; omega) | refine bstep ?_ (by assumption)))⟩
        ·
          have HX : Hid (spOf d e' = ⟨x, y, z⟩) := Lib.hid (by rw [← hx]; simp [*])
          clear hx
          go_wp2_with fail
          refine (r3Of_is _ _ _ _ _ HX _).mono ?_
          rintro e w3 ⟨rfl, hb3⟩
          have q3_7_0 : CellF w3 ⟨w.heap.size, 0, none⟩ (.int .i64 a) := CellF.keep hb3 (CellF.set_other' _ (by intro e; injection e with e1 e2; omega) (CellF.set_other' _ (by intro e; injection e with e1 e2; omega) (CellF.set_other' _ (by intro e; injection e with e1 e2; omega) q2_4_0)))
          have c3_7_0 := q3_7_0.1
          have g3_7_0 := q3_7_0.2
          have q3_7_1 : CellF w3 ⟨w.heap.size, 1, none⟩ (.int .i64 b) := CellF.keep hb3 (CellF.set_other' _ (by intro e; injection e with e1 e2; omega) (CellF.set_other' _ (by intro e; injection e with e1 e2; omega) (CellF.set_other' _ (by intro e; injection e with e1 e2; omega) q2_4_1)))
          have c3_7_1 := q3_7_1.1
          have g3_7_1 := q3_7_1.2
          have q3_7_2 : CellF w3 ⟨w.heap.size, 2, none⟩ (.bool true) := CellF.keep hb3 (CellF.set_other' _ (by intro e; injection e with e1 e2; omega) (CellF.set_other' _ (by intro e; injection e with e1 e2; omega) (CellF.set_other' _ (by intro e; injection e with e1 e2; omega) q2_4_2)))
          have c3_7_2 := q3_7_2.1
          have g3_7_2 := q3_7_2.2
          have z3_7 : w.heap.size < w3.heap.size := ltc c3_7_0
          have q3_8_0 : CellF w3 ⟨(w.heap.size + 1), 0, none⟩ (.int .i64 d) := CellF.keep hb3 ((span_sets (show SpanAt _ (w.heap.size + 1) _ _ _ from ⟨q2_5_0, q2_5_1, q2_5_2⟩)).1.1)
          have c3_8_0 := q3_8_0.1
          have g3_8_0 := q3_8_0.2
          have q3_8_1 : CellF w3 ⟨(w.heap.size + 1), 1, none⟩ (.int .i64 e') := CellF.keep hb3 ((span_sets (show SpanAt _ (w.heap.size + 1) _ _ _ from ⟨q2_5_0, q2_5_1, q2_5_2⟩)).1.2.1)
          have c3_8_1 := q3_8_1.1
          have g3_8_1 := q3_8_1.2
          have q3_8_2 : CellF w3 ⟨(w.heap.size + 1), 2, none⟩ (.bool true) := CellF.keep hb3 ((span_sets (show SpanAt _ (w.heap.size + 1) _ _ _ from ⟨q2_5_0, q2_5_1, q2_5_2⟩)).1.2.2)
          have c3_8_2 := q3_8_2.1
          have g3_8_2 := q3_8_2.2
          have z3_8 : (w.heap.size + 1) < w3.heap.size := ltc c3_8_0
          have q3_9_0 : CellF w3 ⟨(w.heap.size + 1 + 1), 0, none⟩ (.int .i64 0) := CellF.keep hb3 (CellF.set_other' _ (by intro e; injection e with e1 e2; omega) (CellF.set_other' _ (by intro e; injection e with e1 e2; omega) (CellF.set_other' _ (by intro e; injection e with e1 e2; omega) q2_6_0)))
          have c3_9_0 := q3_9_0.1
          have g3_9_0 := q3_9_0.2
          have q3_9_1 : CellF w3 ⟨(w.heap.size + 1 + 1), 1, none⟩ (.int .i64 0) := CellF.keep hb3 (CellF.set_other' _ (by intro e; injection e with e1 e2; omega) (CellF.set_other' _ (by intro e; injection e with e1 e2; omega) (CellF.set_other' _ (by intro e; injection e with e1 e2; omega) q2_6_1)))
          have c3_9_1 := q3_9_1.1
          have g3_9_1 := q3_9_1.2
          have q3_9_2 : CellF w3 ⟨(w.heap.size + 1 + 1), 2, none⟩ (.bool false) := CellF.keep hb3 (CellF.set_other' _ (by intro e; injection e with e1 e2; omega) (CellF.set_other' _ (by intro e; injection e with e1 e2; omega) (CellF.set_other' _ (by intro e; injection e with e1 e2; omega) q2_6_2)))
          have c3_9_2 := q3_9_2.1
          have g3_9_2 := q3_9_2.2
          have z3_9 : (w.heap.size + 1 + 1) < w3.heap.size := ltc c3_9_0
          clear q2_4_0 c2_4_0 g2_4_0 q2_4_1 c2_4_1 g2_4_1 q2_4_2 c2_4_2 g2_4_2 z2_4 q2_5_0 c2_5_0 g2_5_0 q2_5_1 c2_5_1 g2_5_1 q2_5_2 c2_5_2 g2_5_2 z2_5 q2_6_0 c2_6_0 g2_6_0 q2_6_1 c2_6_1 g2_6_1 q2_6_2 c2_6_2 g2_6_2 z2_6
          go_wp2
          exact bodyPost_ret (v := .agg #[.int .i64 x, .int .i64 y, .bool z]) (by simp [results, Try.results44, go_sem, c3_9_0, c3_9_1, c3_9_2]) rfl ⟨rfl, (by repeat (first | with_reducible assumption | with_reducible exact brefl _ | with_reducible refine balloc ?_ _ | with_reducible refine bdrewN ?_ _ | with_reducible refine bset ?_ ?_ _ | (dsimp only; omega) | refine bstep ?_ (by assumption)))⟩

end Go.Proofs.Ytnphbdhcoiaklaa
namespace Go.Proofs.Ytnphbdhcoiaklaa
open Go.RowKit

set_option maxRecDepth 100000 in
set_option maxHeartbeats 4000000 in
theorem r3Add_is (lo hi : Int) (k : Bool) (lo2 hi2 : Int) (k2 : Bool) (x y : Int) (z : Bool) (H : Hid (spAdd ⟨lo, hi, k⟩ ⟨lo2, hi2, k2⟩ = ⟨x, y, z⟩)) (w : World) :
    Calls Try.prog 40 #[.agg #[.int .i64 lo, .int .i64 hi, .bool k], .agg #[.int .i64 lo2, .int .i64 hi2, .bool k2]] w fun e w' => e = .returned (.agg #[.int .i64 x, .int .i64 y, .bool z]) ∧ Below w.heap.size w w' := by
  have hx := H.out
  rw [← r3_add] at hx
  obtain ⟨⟨a, b, c⟩, h1⟩ : ∃ s, spTold ⟨lo, hi, k⟩ = s := ⟨_, rfl⟩
  obtain ⟨⟨d, e', f⟩, h2⟩ : ∃ s, spTold ⟨lo2, hi2, k2⟩ = s := ⟨_, rfl⟩
  rw [h1, h2] at hx
  dsimp only at hx
  obtain ⟨l, i, h3⟩ : ∃ l i, addP a d = (l, i) := ⟨_, _, rfl⟩
  obtain ⟨h, j, h4⟩ : ∃ l i, addP b e' = (l, i) := ⟨_, _, rfl⟩
  rw [h3, h4] at hx
  dsimp only at hx
  have H1 := Lib.hid h1
  have H2 := Lib.hid h2
  have H3 := Lib.hid h3
  have H4 := Lib.hid h4
  clear H h1 h2 h3 h4
  go_enter Try.func40, Try.ntmps40
  go_wp2_with fail
  refine (r3Told_is _ _ _ _ _ _ H1 _).mono ?_
  rintro e w1 ⟨rfl, hb1⟩
  have q1_1_0 : CellF w1 ⟨w.heap.size, 0, none⟩ (.int .i64 lo) := CellF.keep hb1 (CellF.past _ (CellF.past _ (CellF.at_ rfl rfl)))
  have c1_1_0 := q1_1_0.1
  have g1_1_0 := q1_1_0.2
  have q1_1_1 : CellF w1 ⟨w.heap.size, 1, none⟩ (.int .i64 hi) := CellF.keep hb1 (CellF.past _ (CellF.past _ (CellF.at_ rfl rfl)))
  have c1_1_1 := q1_1_1.1
  have g1_1_1 := q1_1_1.2
  have q1_1_2 : CellF w1 ⟨w.heap.size, 2, none⟩ (.bool k) := CellF.keep hb1 (CellF.past _ (CellF.past _ (CellF.at_ rfl rfl)))
  have c1_1_2 := q1_1_2.1
  have g1_1_2 := q1_1_2.2
  have z1_1 : w.heap.size < w1.heap.size := ltc c1_1_0
  have q1_2_0 : CellF w1 ⟨(w.heap.size + 1), 0, none⟩ (.int .i64 lo2) := CellF.keep hb1 (CellF.past _ (CellF.at_ (by simp) rfl))
  have c1_2_0 := q1_2_0.1
  have g1_2_0 := q1_2_0.2
  have q1_2_1 : CellF w1 ⟨(w.heap.size + 1), 1, none⟩ (.int .i64 hi2) := CellF.keep hb1 (CellF.past _ (CellF.at_ (by simp) rfl))
  have c1_2_1 := q1_2_1.1
  have g1_2_1 := q1_2_1.2
  have q1_2_2 : CellF w1 ⟨(w.heap.size + 1), 2, none⟩ (.bool k2) := CellF.keep hb1 (CellF.past _ (CellF.at_ (by simp) rfl))
  have c1_2_2 := q1_2_2.1
  have g1_2_2 := q1_2_2.2
  have z1_2 : (w.heap.size + 1) < w1.heap.size := ltc c1_2_0
  have q1_3_0 : CellF w1 ⟨(w.heap.size + 1 + 1), 0, none⟩ (.int .i64 0) := CellF.keep hb1 (CellF.at_ (by simp) rfl)
  have c1_3_0 := q1_3_0.1
  have g1_3_0 := q1_3_0.2
  have q1_3_1 : CellF w1 ⟨(w.heap.size + 1 + 1), 1, none⟩ (.int .i64 0) := CellF.keep hb1 (CellF.at_ (by simp) rfl)
  have c1_3_1 := q1_3_1.1
  have g1_3_1 := q1_3_1.2
  have q1_3_2 : CellF w1 ⟨(w.heap.size + 1 + 1), 2, none⟩ (.bool false) := CellF.keep hb1 (CellF.at_ (by simp) rfl)
  have c1_3_2 := q1_3_2.1
  have g1_3_2 := q1_3_2.2
  have z1_3 : (w.heap.size + 1 + 1) < w1.heap.size := ltc c1_3_0
  go_wp2_with fail
  refine (r3Told_is _ _ _ _ _ _ H2 _).mono ?_
  rintro e w2 ⟨rfl, hb2⟩
  have q2_4_0 : CellF w2 ⟨w.heap.size, 0, none⟩ (.int .i64 a) := CellF.keep hb2 ((span_sets (show SpanAt _ w.heap.size _ _ _ from ⟨q1_1_0, q1_1_1, q1_1_2⟩)).1.1)
  have c2_4_0 := q2_4_0.1
  have g2_4_0 := q2_4_0.2
  have q2_4_1 : CellF w2 ⟨w.heap.size, 1, none⟩ (.int .i64 b) := CellF.keep hb2 ((span_sets (show SpanAt _ w.heap.size _ _ _ from ⟨q1_1_0, q1_1_1, q1_1_2⟩)).1.2.1)
  have c2_4_1 := q2_4_1.1
  have g2_4_1 := q2_4_1.2
  have q2_4_2 : CellF w2 ⟨w.heap.size, 2, none⟩ (.bool c) := CellF.keep hb2 ((span_sets (show SpanAt _ w.heap.size _ _ _ from ⟨q1_1_0, q1_1_1, q1_1_2⟩)).1.2.2)
  have c2_4_2 := q2_4_2.1
  have g2_4_2 := q2_4_2.2
  have z2_4 : w.heap.size < w2.heap.size := ltc c2_4_0
  have q2_5_0 : CellF w2 ⟨(w.heap.size + 1), 0, none⟩ (.int .i64 lo2) := CellF.keep hb2 (CellF.set_other' _ (by intro e; injection e with e1 e2; omega) (CellF.set_other' _ (by intro e; injection e with e1 e2; omega) (CellF.set_other' _ (by intro e; injection e with e1 e2; omega) q1_2_0)))
  have c2_5_0 := q2_5_0.1
  have g2_5_0 := q2_5_0.2
  have q2_5_1 : CellF w2 ⟨(w.heap.size + 1), 1, none⟩ (.int .i64 hi2) := CellF.keep hb2 (CellF.set_other' _ (by intro e; injection e with e1 e2; omega) (CellF.set_other' _ (by intro e; injection e with e1 e2; omega) (CellF.set_other' _ (by intro e; injection e with e1 e2; omega) q1_2_1)))
  have c2_5_1 := q2_5_1.1
  have g2_5_1 := q2_5_1.2
  have q2_5_2 : CellF w2 ⟨(w.heap.size + 1), 2, none⟩ (.bool k2) := CellF.keep hb2 (CellF.set_other' _ (by intro e; injection e with e1 e2; omega) (CellF.set_other' _ (by intro e; injection e with e1 e2; omega) (CellF.set_other' _ (by intro e; injection e with e1 e2; omega) q1_2_2)))
  have c2_5_2 := q2_5_2.1
  have g2_5_2 := q2_5_2.2
  have z2_5 : (w.heap.size + 1) < w2.heap.size := ltc c2_5_0
  have q2_6_0 : CellF w2 ⟨(w.heap.size + 1 + 1), 0, none⟩ (.int .i64 0) := CellF.keep hb2 (CellF.set_other' _ (by intro e; injection e with e1 e2; omega) (CellF.set_other' _ (by intro e; injection e with e1 e2; omega) (CellF.set_other' _ (by intro e; injection e with e1 e2; omega) q1_3_0)))
  have c2_6_0 := q2_6_0.1
  have g2_6_0 := q2_6_0.2
  have q2_6_1 : CellF w2 ⟨(w.heap.size + 1 + 1), 1, none⟩ (.int .i64 0) := CellF.keep hb2 (CellF.set_other' _ (by intro e; injection e with e1 e2; omega) (CellF.set_other' _ (by intro e; injection e with e1 e2; omega) (CellF.set_other' _ (by intro e; injection e with e1 e2; omega) q1_3_1)))
  have c2_6_1 := q2_6_1.1
  have g2_6_1 := q2_6_1.2
  have q2_6_2 : CellF w2 ⟨(w.heap.size + 1 + 1), 2, none⟩ (.bool false) := CellF.keep hb2 (CellF.set_other' _ (by intro e; injection e with e1 e2; omega) (CellF.set_other' _ (by intro e; injection e with e1 e2; omega) (CellF.set_other' _ (by intro e; injection e with e1 e2; omega) q1_3_2)))
  have c2_6_2 := q2_6_2.1
  have g2_6_2 := q2_6_2.2
  have z2_6 : (w.heap.size + 1 + 1) < w2.heap.size := ltc c2_6_0
  clear q1_1_0 c1_1_0 g1_1_0 q1_1_1 c1_1_1 g1_1_1 q1_1_2 c1_1_2 g1_1_2 z1_1 q1_2_0 c1_2_0 g1_2_0 q1_2_1 c1_2_1 g1_2_1 q1_2_2 c1_2_2 g1_2_2 z1_2 q1_3_0 c1_3_0 g1_3_0 q1_3_1 c1_3_1 g1_3_1 q1_3_2 c1_3_2 g1_3_2 z1_3
  go_wp2_with fail
  refine (rAdd_is _ _ _ _ H3 _).mono ?_
  rintro e w3 ⟨rfl, hb3⟩
  have q3_7_0 : CellF w3 ⟨w.heap.size, 0, none⟩ (.int .i64 a) := CellF.keep hb3 (CellF.set_other' _ (by intro e; injection e with e1 e2; omega) (CellF.set_other' _ (by intro e; injection e with e1 e2; omega) (CellF.set_other' _ (by intro e; injection e with e1 e2; omega) q2_4_0)))
  have c3_7_0 := q3_7_0.1
  have g3_7_0 := q3_7_0.2
  have q3_7_1 : CellF w3 ⟨w.heap.size, 1, none⟩ (.int .i64 b) := CellF.keep hb3 (CellF.set_other' _ (by intro e; injection e with e1 e2; omega) (CellF.set_other' _ (by intro e; injection e with e1 e2; omega) (CellF.set_other' _ (by intro e; injection e with e1 e2; omega) q2_4_1)))
  have c3_7_1 := q3_7_1.1
  have g3_7_1 := q3_7_1.2
  have q3_7_2 : CellF w3 ⟨w.heap.size, 2, none⟩ (.bool c) := CellF.keep hb3 (CellF.set_other' _ (by intro e; injection e with e1 e2; omega) (CellF.set_other' _ (by intro e; injection e with e1 e2; omega) (CellF.set_other' _ (by intro e; injection e with e1 e2; omega) q2_4_2)))
  have c3_7_2 := q3_7_2.1
  have g3_7_2 := q3_7_2.2
  have z3_7 : w.heap.size < w3.heap.size := ltc c3_7_0
  have q3_8_0 : CellF w3 ⟨(w.heap.size + 1), 0, none⟩ (.int .i64 d) := CellF.keep hb3 ((span_sets (show SpanAt _ (w.heap.size + 1) _ _ _ from ⟨q2_5_0, q2_5_1, q2_5_2⟩)).1.1)
  have c3_8_0 := q3_8_0.1
  have g3_8_0 := q3_8_0.2
  have q3_8_1 : CellF w3 ⟨(w.heap.size + 1), 1, none⟩ (.int .i64 e') := CellF.keep hb3 ((span_sets (show SpanAt _ (w.heap.size + 1) _ _ _ from ⟨q2_5_0, q2_5_1, q2_5_2⟩)).1.2.1)
  have c3_8_1 := q3_8_1.1
  have g3_8_1 := q3_8_1.2
  have q3_8_2 : CellF w3 ⟨(w.heap.size + 1), 2, none⟩ (.bool f) := CellF.keep hb3 ((span_sets (show SpanAt _ (w.heap.size + 1) _ _ _ from ⟨q2_5_0, q2_5_1, q2_5_2⟩)).1.2.2)
  have c3_8_2 := q3_8_2.1
  have g3_8_2 := q3_8_2.2
  have z3_8 : (w.heap.size + 1) < w3.heap.size := ltc c3_8_0
  have q3_9_0 : CellF w3 ⟨(w.heap.size + 1 + 1), 0, none⟩ (.int .i64 0) := CellF.keep hb3 (CellF.set_other' _ (by intro e; injection e with e1 e2; omega) (CellF.set_other' _ (by intro e; injection e with e1 e2; omega) (CellF.set_other' _ (by intro e; injection e with e1 e2; omega) q2_6_0)))
  have c3_9_0 := q3_9_0.1
  have g3_9_0 := q3_9_0.2
  have q3_9_1 : CellF w3 ⟨(w.heap.size + 1 + 1), 1, none⟩ (.int .i64 0) := CellF.keep hb3 (CellF.set_other' _ (by intro e; injection e with e1 e2; omega) (CellF.set_other' _ (by intro e; injection e with e1 e2; omega) (CellF.set_other' _ (by intro e; injection e with e1 e2; omega) q2_6_1)))
  have c3_9_1 := q3_9_1.1
  have g3_9_1 := q3_9_1.2
  have q3_9_2 : CellF w3 ⟨(w.heap.size + 1 + 1), 2, none⟩ (.bool false) := CellF.keep hb3 (CellF.set_other' _ (by intro e; injection e with e1 e2; omega) (CellF.set_other' _ (by intro e; injection e with e1 e2; omega) (CellF.set_other' _ (by intro e; injection e with e1 e2; omega) q2_6_2)))
  have c3_9_2 := q3_9_2.1
  have g3_9_2 := q3_9_2.2
  have z3_9 : (w.heap.size + 1 + 1) < w3.heap.size := ltc c3_9_0
  clear q2_4_0 c2_4_0 g2_4_0 q2_4_1 c2_4_1 g2_4_1 q2_4_2 c2_4_2 g2_4_2 z2_4 q2_5_0 c2_5_0 g2_5_0 q2_5_1 c2_5_1 g2_5_1 q2_5_2 c2_5_2 g2_5_2 z2_5 q2_6_0 c2_6_0 g2_6_0 q2_6_1 c2_6_1 g2_6_1 q2_6_2 c2_6_2 g2_6_2 z2_6
  go_wp2_with fail
  refine (rAdd_is _ _ _ _ H4 _).mono ?_
  rintro e w4 ⟨rfl, hb4⟩
  have q4_10_0 : CellF w4 ⟨w.heap.size, 0, none⟩ (.int .i64 a) := CellF.keep hb4 (q3_7_0)
  have c4_10_0 := q4_10_0.1
  have g4_10_0 := q4_10_0.2
  have q4_10_1 : CellF w4 ⟨w.heap.size, 1, none⟩ (.int .i64 b) := CellF.keep hb4 (q3_7_1)
  have c4_10_1 := q4_10_1.1
  have g4_10_1 := q4_10_1.2
  have q4_10_2 : CellF w4 ⟨w.heap.size, 2, none⟩ (.bool c) := CellF.keep hb4 (q3_7_2)
  have c4_10_2 := q4_10_2.1
  have g4_10_2 := q4_10_2.2
  have z4_10 : w.heap.size < w4.heap.size := ltc c4_10_0
  have q4_11_0 : CellF w4 ⟨(w.heap.size + 1), 0, none⟩ (.int .i64 d) := CellF.keep hb4 (q3_8_0)
  have c4_11_0 := q4_11_0.1
  have g4_11_0 := q4_11_0.2
  have q4_11_1 : CellF w4 ⟨(w.heap.size + 1), 1, none⟩ (.int .i64 e') := CellF.keep hb4 (q3_8_1)
  have c4_11_1 := q4_11_1.1
  have g4_11_1 := q4_11_1.2
  have q4_11_2 : CellF w4 ⟨(w.heap.size + 1), 2, none⟩ (.bool f) := CellF.keep hb4 (q3_8_2)
  have c4_11_2 := q4_11_2.1
  have g4_11_2 := q4_11_2.2
  have z4_11 : (w.heap.size + 1) < w4.heap.size := ltc c4_11_0
  have q4_12_0 : CellF w4 ⟨(w.heap.size + 1 + 1), 0, none⟩ (.int .i64 0) := CellF.keep hb4 (q3_9_0)
  have c4_12_0 := q4_12_0.1
  have g4_12_0 := q4_12_0.2
  have q4_12_1 : CellF w4 ⟨(w.heap.size + 1 + 1), 1, none⟩ (.int .i64 0) := CellF.keep hb4 (q3_9_1)
  have c4_12_1 := q4_12_1.1
  have g4_12_1 := q4_12_1.2
  have q4_12_2 : CellF w4 ⟨(w.heap.size + 1 + 1), 2, none⟩ (.bool false) := CellF.keep hb4 (q3_9_2)
  have c4_12_2 := q4_12_2.1
  have g4_12_2 := q4_12_2.2
  have z4_12 : (w.heap.size + 1 + 1) < w4.heap.size := ltc c4_12_0
  clear q3_7_0 c3_7_0 g3_7_0 q3_7_1 c3_7_1 g3_7_1 q3_7_2 c3_7_2 g3_7_2 z3_7 q3_8_0 c3_8_0 g3_8_0 q3_8_1 c3_8_1 g3_8_1 q3_8_2 c3_8_2 g3_8_2 z3_8 q3_9_0 c3_9_0 g3_9_0 q3_9_1 c3_9_1 g3_9_1 q3_9_2 c3_9_2 g3_9_2 z3_9
  cases c with
  | false =>
    rw [if_neg (by simp)] at hx
    cases hx
    go_wp2
    exact bodyPost_ret (v := .agg #[.int .i64 0, .int .i64 0, .bool false]) (by simp [results, Try.results40, go_sem, c4_12_0, c4_12_1, c4_12_2]) rfl ⟨rfl, (by repeat (first | with_reducible assumption | with_reducible exact brefl _ | with_reducible refine balloc ?_ _ | with_reducible refine bdrewN ?_ _ | with_reducible refine bset ?_ ?_ _ | (dsimp only; omega) | refine bstep ?_ (by assumption)))⟩
  | true =>
    cases f with
    | false =>
      rw [if_neg (by simp)] at hx
      cases hx
      go_wp2
      exact bodyPost_ret (v := .agg #[.int .i64 0, .int .i64 0, .bool false]) (by simp [results, Try.results40, go_sem, c4_12_0, c4_12_1, c4_12_2]) rfl ⟨rfl, (by repeat (first | with_reducible assumption | with_reducible exact brefl _ | with_reducible refine balloc ?_ _ | with_reducible refine bdrewN ?_ _ | with_reducible refine bset ?_ ?_ _ | (dsimp only; omega) | refine bstep ?_ (by assumption)))⟩
    | true =>
      cases i with
      | false =>
        rw [if_neg (by simp)] at hx
        cases hx
        go_wp2
        exact bodyPost_ret (v := .agg #[.int .i64 0, .int .i64 0, .bool false]) (by simp [results, Try.results40, go_sem, c4_12_0, c4_12_1, c4_12_2]) rfl ⟨rfl, (by repeat (first | with_reducible assumption | with_reducible exact brefl _ | with_reducible refine balloc ?_ _ | with_reducible refine bdrewN ?_ _ | with_reducible refine bset ?_ ?_ _ | (dsimp only; omega) | refine bstep ?_ (by assumption)))⟩
      | true =>
        cases j with
        | false =>
          rw [if_neg (by simp)] at hx
          cases hx
          go_wp2
          exact bodyPost_ret (v := .agg #[.int .i64 0, .int .i64 0, .bool false]) (by simp [results, Try.results40, go_sem, c4_12_0, c4_12_1, c4_12_2]) rfl ⟨rfl, (by repeat (first | with_reducible assumption | with_reducible exact brefl _ | with_reducible refine balloc ?_ _ | with_reducible refine bdrewN ?_ _ | with_reducible refine bset ?_ ?_ _ | (dsimp only; omega) | refine bstep ?_ (by assumption)))⟩
        | true =>
          rw [if_pos (by decide)] at hx
          have HX := Lib.hid hx
          clear hx
          go_wp2_with fail
          refine (r3Of_is _ _ _ _ _ HX _).mono ?_
          rintro e w5 ⟨rfl, hb5⟩
          have q5_13_0 : CellF w5 ⟨w.heap.size, 0, none⟩ (.int .i64 a) := CellF.keep hb5 (q4_10_0)
          have c5_13_0 := q5_13_0.1
          have g5_13_0 := q5_13_0.2
          have q5_13_1 : CellF w5 ⟨w.heap.size, 1, none⟩ (.int .i64 b) := CellF.keep hb5 (q4_10_1)
          have c5_13_1 := q5_13_1.1
          have g5_13_1 := q5_13_1.2
          have q5_13_2 : CellF w5 ⟨w.heap.size, 2, none⟩ (.bool true) := CellF.keep hb5 (q4_10_2)
          have c5_13_2 := q5_13_2.1
          have g5_13_2 := q5_13_2.2
          have z5_13 : w.heap.size < w5.heap.size := ltc c5_13_0
          have q5_14_0 : CellF w5 ⟨(w.heap.size + 1), 0, none⟩ (.int .i64 d) := CellF.keep hb5 (q4_11_0)
          have c5_14_0 := q5_14_0.1
          have g5_14_0 := q5_14_0.2
          have q5_14_1 : CellF w5 ⟨(w.heap.size + 1), 1, none⟩ (.int .i64 e') := CellF.keep hb5 (q4_11_1)
          have c5_14_1 := q5_14_1.1
          have g5_14_1 := q5_14_1.2
          have q5_14_2 : CellF w5 ⟨(w.heap.size + 1), 2, none⟩ (.bool true) := CellF.keep hb5 (q4_11_2)
          have c5_14_2 := q5_14_2.1
          have g5_14_2 := q5_14_2.2
          have z5_14 : (w.heap.size + 1) < w5.heap.size := ltc c5_14_0
          have q5_15_0 : CellF w5 ⟨(w.heap.size + 1 + 1), 0, none⟩ (.int .i64 0) := CellF.keep hb5 (q4_12_0)
          have c5_15_0 := q5_15_0.1
          have g5_15_0 := q5_15_0.2
          have q5_15_1 : CellF w5 ⟨(w.heap.size + 1 + 1), 1, none⟩ (.int .i64 0) := CellF.keep hb5 (q4_12_1)
          have c5_15_1 := q5_15_1.1
          have g5_15_1 := q5_15_1.2
          have q5_15_2 : CellF w5 ⟨(w.heap.size + 1 + 1), 2, none⟩ (.bool false) := CellF.keep hb5 (q4_12_2)
          have c5_15_2 := q5_15_2.1
          have g5_15_2 := q5_15_2.2
          have z5_15 : (w.heap.size + 1 + 1) < w5.heap.size := ltc c5_15_0
          clear q4_10_0 c4_10_0 g4_10_0 q4_10_1 c4_10_1 g4_10_1 q4_10_2 c4_10_2 g4_10_2 z4_10 q4_11_0 c4_11_0 g4_11_0 q4_11_1 c4_11_1 g4_11_1 q4_11_2 c4_11_2 g4_11_2 z4_11 q4_12_0 c4_12_0 g4_12_0 q4_12_1 c4_12_1 g4_12_1 q4_12_2 c4_12_2 g4_12_2 z4_12
          go_wp2
          exact bodyPost_ret (v := .agg #[.int .i64 x, .int .i64 y, .bool z]) (by simp [results, Try.results40, go_sem, c5_15_0, c5_15_1, c5_15_2]) rfl ⟨rfl, (by repeat (first | with_reducible assumption | with_reducible exact brefl _ | with_reducible refine balloc ?_ _ | with_reducible refine bdrewN ?_ _ | with_reducible refine bset ?_ ?_ _ | (dsimp only; omega) | refine bstep ?_ (by assumption)))⟩
end Go.Proofs.Ytnphbdhcoiaklaa
namespace Go.Proofs.Ytnphbdhcoiaklaa
open Go.RowKit

set_option maxRecDepth 100000 in
set_option maxHeartbeats 4000000 in
theorem r3Wider_is (lo hi : Int) (k : Bool) (low high : Int) (x y : Int) (z : Bool) (H : Hid (spWider ⟨lo, hi, k⟩ low high = ⟨x, y, z⟩)) (w : World) :
    Calls Try.prog 59 #[.agg #[.int .i64 lo, .int .i64 hi, .bool k], .int .i64 low, .int .i64 high] w fun e w' => e = .returned (.agg #[.int .i64 x, .int .i64 y, .bool z]) ∧ Below w.heap.size w w' := by
  have hx := H.out
  rw [← r3_wider] at hx
  obtain ⟨⟨a, b, c⟩, h1⟩ : ∃ s, spTold ⟨lo, hi, k⟩ = s := ⟨_, rfl⟩
  rw [h1] at hx
  dsimp only at hx
  obtain ⟨l, i, h3⟩ : ∃ l i, subP a low = (l, i) := ⟨_, _, rfl⟩
  obtain ⟨h, j, h4⟩ : ∃ l i, addP b high = (l, i) := ⟨_, _, rfl⟩
  rw [h3, h4] at hx
  dsimp only at hx
  have H1 := Lib.hid h1
  have H3 := Lib.hid h3
  have H4 := Lib.hid h4
  clear H h1 h3 h4
  go_enter Try.func59, Try.ntmps59
  go_wp2_with fail
  refine (r3Told_is _ _ _ _ _ _ H1 _).mono ?_
  rintro e w1 ⟨rfl, hb1⟩
  have q1_1_0 : CellF w1 ⟨w.heap.size, 0, none⟩ (.int .i64 lo) := CellF.keep hb1 (CellF.past _ (CellF.at_ rfl rfl))
  have c1_1_0 := q1_1_0.1
  have g1_1_0 := q1_1_0.2
  have q1_1_1 : CellF w1 ⟨w.heap.size, 1, none⟩ (.int .i64 hi) := CellF.keep hb1 (CellF.past _ (CellF.at_ rfl rfl))
  have c1_1_1 := q1_1_1.1
  have g1_1_1 := q1_1_1.2
  have q1_1_2 : CellF w1 ⟨w.heap.size, 2, none⟩ (.bool k) := CellF.keep hb1 (CellF.past _ (CellF.at_ rfl rfl))
  have c1_1_2 := q1_1_2.1
  have g1_1_2 := q1_1_2.2
  have z1_1 : w.heap.size < w1.heap.size := ltc c1_1_0
  have q1_2_0 : CellF w1 ⟨(w.heap.size + 1), 0, none⟩ (.int .i64 0) := CellF.keep hb1 (CellF.at_ (by simp) rfl)
  have c1_2_0 := q1_2_0.1
  have g1_2_0 := q1_2_0.2
  have q1_2_1 : CellF w1 ⟨(w.heap.size + 1), 1, none⟩ (.int .i64 0) := CellF.keep hb1 (CellF.at_ (by simp) rfl)
  have c1_2_1 := q1_2_1.1
  have g1_2_1 := q1_2_1.2
  have q1_2_2 : CellF w1 ⟨(w.heap.size + 1), 2, none⟩ (.bool false) := CellF.keep hb1 (CellF.at_ (by simp) rfl)
  have c1_2_2 := q1_2_2.1
  have g1_2_2 := q1_2_2.2
  have z1_2 : (w.heap.size + 1) < w1.heap.size := ltc c1_2_0
  go_wp2_with fail
  refine (rSub_is _ _ _ _ H3 _).mono ?_
  rintro e w2 ⟨rfl, hb2⟩
  have q2_3_0 : CellF w2 ⟨w.heap.size, 0, none⟩ (.int .i64 a) := CellF.keep hb2 ((span_sets (show SpanAt _ w.heap.size _ _ _ from ⟨q1_1_0, q1_1_1, q1_1_2⟩)).1.1)
  have c2_3_0 := q2_3_0.1
  have g2_3_0 := q2_3_0.2
  have q2_3_1 : CellF w2 ⟨w.heap.size, 1, none⟩ (.int .i64 b) := CellF.keep hb2 ((span_sets (show SpanAt _ w.heap.size _ _ _ from ⟨q1_1_0, q1_1_1, q1_1_2⟩)).1.2.1)
  have c2_3_1 := q2_3_1.1
  have g2_3_1 := q2_3_1.2
  have q2_3_2 : CellF w2 ⟨w.heap.size, 2, none⟩ (.bool c) := CellF.keep hb2 ((span_sets (show SpanAt _ w.heap.size _ _ _ from ⟨q1_1_0, q1_1_1, q1_1_2⟩)).1.2.2)
  have c2_3_2 := q2_3_2.1
  have g2_3_2 := q2_3_2.2
  have z2_3 : w.heap.size < w2.heap.size := ltc c2_3_0
  have q2_4_0 : CellF w2 ⟨(w.heap.size + 1), 0, none⟩ (.int .i64 0) := CellF.keep hb2 (CellF.set_other' _ (by intro e; injection e with e1 e2; omega) (CellF.set_other' _ (by intro e; injection e with e1 e2; omega) (CellF.set_other' _ (by intro e; injection e with e1 e2; omega) q1_2_0)))
  have c2_4_0 := q2_4_0.1
  have g2_4_0 := q2_4_0.2
  have q2_4_1 : CellF w2 ⟨(w.heap.size + 1), 1, none⟩ (.int .i64 0) := CellF.keep hb2 (CellF.set_other' _ (by intro e; injection e with e1 e2; omega) (CellF.set_other' _ (by intro e; injection e with e1 e2; omega) (CellF.set_other' _ (by intro e; injection e with e1 e2; omega) q1_2_1)))
  have c2_4_1 := q2_4_1.1
  have g2_4_1 := q2_4_1.2
  have q2_4_2 : CellF w2 ⟨(w.heap.size + 1), 2, none⟩ (.bool false) := CellF.keep hb2 (CellF.set_other' _ (by intro e; injection e with e1 e2; omega) (CellF.set_other' _ (by intro e; injection e with e1 e2; omega) (CellF.set_other' _ (by intro e; injection e with e1 e2; omega) q1_2_2)))
  have c2_4_2 := q2_4_2.1
  have g2_4_2 := q2_4_2.2
  have z2_4 : (w.heap.size + 1) < w2.heap.size := ltc c2_4_0
  clear q1_1_0 c1_1_0 g1_1_0 q1_1_1 c1_1_1 g1_1_1 q1_1_2 c1_1_2 g1_1_2 z1_1 q1_2_0 c1_2_0 g1_2_0 q1_2_1 c1_2_1 g1_2_1 q1_2_2 c1_2_2 g1_2_2 z1_2
  go_wp2_with fail
  refine (rAdd_is _ _ _ _ H4 _).mono ?_
  rintro e w3 ⟨rfl, hb3⟩
  have q3_5_0 : CellF w3 ⟨w.heap.size, 0, none⟩ (.int .i64 a) := CellF.keep hb3 (q2_3_0)
  have c3_5_0 := q3_5_0.1
  have g3_5_0 := q3_5_0.2
  have q3_5_1 : CellF w3 ⟨w.heap.size, 1, none⟩ (.int .i64 b) := CellF.keep hb3 (q2_3_1)
  have c3_5_1 := q3_5_1.1
  have g3_5_1 := q3_5_1.2
  have q3_5_2 : CellF w3 ⟨w.heap.size, 2, none⟩ (.bool c) := CellF.keep hb3 (q2_3_2)
  have c3_5_2 := q3_5_2.1
  have g3_5_2 := q3_5_2.2
  have z3_5 : w.heap.size < w3.heap.size := ltc c3_5_0
  have q3_6_0 : CellF w3 ⟨(w.heap.size + 1), 0, none⟩ (.int .i64 0) := CellF.keep hb3 (q2_4_0)
  have c3_6_0 := q3_6_0.1
  have g3_6_0 := q3_6_0.2
  have q3_6_1 : CellF w3 ⟨(w.heap.size + 1), 1, none⟩ (.int .i64 0) := CellF.keep hb3 (q2_4_1)
  have c3_6_1 := q3_6_1.1
  have g3_6_1 := q3_6_1.2
  have q3_6_2 : CellF w3 ⟨(w.heap.size + 1), 2, none⟩ (.bool false) := CellF.keep hb3 (q2_4_2)
  have c3_6_2 := q3_6_2.1
  have g3_6_2 := q3_6_2.2
  have z3_6 : (w.heap.size + 1) < w3.heap.size := ltc c3_6_0
  clear q2_3_0 c2_3_0 g2_3_0 q2_3_1 c2_3_1 g2_3_1 q2_3_2 c2_3_2 g2_3_2 z2_3 q2_4_0 c2_4_0 g2_4_0 q2_4_1 c2_4_1 g2_4_1 q2_4_2 c2_4_2 g2_4_2 z2_4
  cases c with
  | false =>
    rw [if_neg (by simp [*])] at hx
    cases hx
    go_wp2
    exact bodyPost_ret (v := .agg #[.int .i64 0, .int .i64 0, .bool false]) (by simp [results, Try.results59, go_sem, c3_6_0, c3_6_1, c3_6_2]) rfl ⟨rfl, (by repeat (first | with_reducible assumption | with_reducible exact brefl _ | with_reducible refine balloc ?_ _ | with_reducible refine bdrewN ?_ _ | with_reducible refine bset ?_ ?_ _ | (dsimp only; omega) | refine bstep ?_ (by assumption)))⟩
  | true =>
    by_cases n1 : low < 0
    ·
      have n1' : ¬ 0 ≤ low := by omega
      rw [if_neg (by simp [*])] at hx
      cases hx
      go_wp2
      exact bodyPost_ret (v := .agg #[.int .i64 0, .int .i64 0, .bool false]) (by simp [results, Try.results59, go_sem, c3_6_0, c3_6_1, c3_6_2]) rfl ⟨rfl, (by repeat (first | with_reducible assumption | with_reducible exact brefl _ | with_reducible refine balloc ?_ _ | with_reducible refine bdrewN ?_ _ | with_reducible refine bset ?_ ?_ _ | (dsimp only; omega) | refine bstep ?_ (by assumption)))⟩
    have n1' : 0 ≤ low := by omega
    by_cases n2 : high < 0
    ·
      have n2' : ¬ 0 ≤ high := by omega
      rw [if_neg (by simp [*])] at hx
      cases hx
      go_wp2
      exact bodyPost_ret (v := .agg #[.int .i64 0, .int .i64 0, .bool false]) (by simp [results, Try.results59, go_sem, c3_6_0, c3_6_1, c3_6_2]) rfl ⟨rfl, (by repeat (first | with_reducible assumption | with_reducible exact brefl _ | with_reducible refine balloc ?_ _ | with_reducible refine bdrewN ?_ _ | with_reducible refine bset ?_ ?_ _ | (dsimp only; omega) | refine bstep ?_ (by assumption)))⟩
    have n2' : 0 ≤ high := by omega
    cases i with
    | false =>
      rw [if_neg (by simp [*])] at hx
      cases hx
      go_wp2
      exact bodyPost_ret (v := .agg #[.int .i64 0, .int .i64 0, .bool false]) (by simp [results, Try.results59, go_sem, c3_6_0, c3_6_1, c3_6_2]) rfl ⟨rfl, (by repeat (first | with_reducible assumption | with_reducible exact brefl _ | with_reducible refine balloc ?_ _ | with_reducible refine bdrewN ?_ _ | with_reducible refine bset ?_ ?_ _ | (dsimp only; omega) | refine bstep ?_ (by assumption)))⟩
    | true =>
      cases j with
      | false =>
        rw [if_neg (by simp [*])] at hx
        cases hx
        go_wp2
        exact bodyPost_ret (v := .agg #[.int .i64 0, .int .i64 0, .bool false]) (by simp [results, Try.results59, go_sem, c3_6_0, c3_6_1, c3_6_2]) rfl ⟨rfl, (by repeat (first | with_reducible assumption | with_reducible exact brefl _ | with_reducible refine balloc ?_ _ | with_reducible refine bdrewN ?_ _ | with_reducible refine bset ?_ ?_ _ | (dsimp only; omega) | refine bstep ?_ (by assumption)))⟩
      | true =>
        rw [if_pos (by simp [*])] at hx
        have HX := Lib.hid hx
        clear hx
        go_wp2_with fail
        refine (r3Of_is _ _ _ _ _ HX _).mono ?_
        rintro e w4 ⟨rfl, hb4⟩
        have q4_7_0 : CellF w4 ⟨w.heap.size, 0, none⟩ (.int .i64 a) := CellF.keep hb4 (q3_5_0)
        have c4_7_0 := q4_7_0.1
        have g4_7_0 := q4_7_0.2
        have q4_7_1 : CellF w4 ⟨w.heap.size, 1, none⟩ (.int .i64 b) := CellF.keep hb4 (q3_5_1)
        have c4_7_1 := q4_7_1.1
        have g4_7_1 := q4_7_1.2
        have q4_7_2 : CellF w4 ⟨w.heap.size, 2, none⟩ (.bool true) := CellF.keep hb4 (q3_5_2)
        have c4_7_2 := q4_7_2.1
        have g4_7_2 := q4_7_2.2
        have z4_7 : w.heap.size < w4.heap.size := ltc c4_7_0
        have q4_8_0 : CellF w4 ⟨(w.heap.size + 1), 0, none⟩ (.int .i64 0) := CellF.keep hb4 (q3_6_0)
        have c4_8_0 := q4_8_0.1
        have g4_8_0 := q4_8_0.2
        have q4_8_1 : CellF w4 ⟨(w.heap.size + 1), 1, none⟩ (.int .i64 0) := CellF.keep hb4 (q3_6_1)
        have c4_8_1 := q4_8_1.1
        have g4_8_1 := q4_8_1.2
        have q4_8_2 : CellF w4 ⟨(w.heap.size + 1), 2, none⟩ (.bool false) := CellF.keep hb4 (q3_6_2)
        have c4_8_2 := q4_8_2.1
        have g4_8_2 := q4_8_2.2
        have z4_8 : (w.heap.size + 1) < w4.heap.size := ltc c4_8_0
        clear q3_5_0 c3_5_0 g3_5_0 q3_5_1 c3_5_1 g3_5_1 q3_5_2 c3_5_2 g3_5_2 z3_5 q3_6_0 c3_6_0 g3_6_0 q3_6_1 c3_6_1 g3_6_1 q3_6_2 c3_6_2 g3_6_2 z3_6
        go_wp2
        exact bodyPost_ret (v := .agg #[.int .i64 x, .int .i64 y, .bool z]) (by simp [results, Try.results59, go_sem, c4_8_0, c4_8_1, c4_8_2]) rfl ⟨rfl, (by repeat (first | with_reducible assumption | with_reducible exact brefl _ | with_reducible refine balloc ?_ _ | with_reducible refine bdrewN ?_ _ | with_reducible refine bset ?_ ?_ _ | (dsimp only; omega) | refine bstep ?_ (by assumption)))⟩

end Go.Proofs.Ytnphbdhcoiaklaa
