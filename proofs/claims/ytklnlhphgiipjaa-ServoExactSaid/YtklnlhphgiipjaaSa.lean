/-
  The walks of package span's Of and Right.
-/
import Derived.Test.YtklnlhphgiipjaaMp
import Derived.BigQuiet
import Derived.Deep.QuietTactic
import Derived.Deep.RegionHeld3
namespace Go.Proofs.Ytklnlhphgiipjaa
open Go.RowKit

theorem Of_is (lo hi x y : Int) (k : Bool) (H : Hid (spOf lo hi = ⟨x, y, k⟩)) (w : World) :
    Calls Try.prog 18 #[.int .i64 lo, .int .i64 hi] w fun e w' => e = .returned (.agg #[.int .i64 x, .int .i64 y, .bool k]) ∧ Below w.heap.size w w' := by
  cases hs : (smallB lo && smallB hi) with
  | false =>
    have h := (spOf_no1 hs).symm.trans H.out
    cases h
    clear H
    go_enter Try.func18, Try.ntmps18
    go_wp2_with fail
    refine (small2 lo hi _ hs _ _ (by simp) (by simp)).mono ?_
    rintro e w1 ⟨rfl, rfl⟩
    go_wp2
    exact bodyPost_ret (v := .agg #[.int .i64 0, .int .i64 0, .bool false]) (by simp [results, Try.results18, go_sem]) rfl ⟨rfl, (by repeat (first | exact brefl _ | refine balloc ?_ _ | refine bdrewN ?_ _ | refine bset ?_ (by dsimp only; omega) _ | refine bstep ?_ (by assumption)))⟩
  | true =>
    by_cases hle : hi < lo
    · have h := (spOf_no2 hle).symm.trans H.out
      cases h
      clear H
      go_enter Try.func18, Try.ntmps18
      go_wp2_with fail
      refine (small2 lo hi _ hs _ _ (by simp) (by simp)).mono ?_
      rintro e w1 ⟨rfl, rfl⟩
      go_wp2
      exact bodyPost_ret (v := .agg #[.int .i64 0, .int .i64 0, .bool false]) (by simp [results, Try.results18, go_sem]) rfl ⟨rfl, (by repeat (first | exact brefl _ | refine balloc ?_ _ | refine bdrewN ?_ _ | refine bset ?_ (by dsimp only; omega) _ | refine bstep ?_ (by assumption)))⟩
    · have h := (spOf_yes hs (by omega)).symm.trans H.out
      cases h
      clear H
      go_enter Try.func18, Try.ntmps18
      go_wp2_with fail
      refine (small2 lo hi _ hs _ _ (by simp) (by simp)).mono ?_
      rintro e w1 ⟨rfl, rfl⟩
      go_wp2
      exact bodyPost_ret (v := .agg #[.int .i64 lo, .int .i64 hi, .bool true]) (by simp [results, Try.results18, go_sem]) rfl ⟨rfl, (by repeat (first | exact brefl _ | refine balloc ?_ _ | refine bdrewN ?_ _ | refine bset ?_ (by dsimp only; omega) _ | refine bstep ?_ (by assumption)))⟩

theorem cases3 (lo hi : Int) : (lo == 0) = false ∨ (lo = 0 ∧ (hi == 0) = false) ∨ (lo = 0 ∧ hi = 0) := by
  by_cases h1 : lo = 0
  · by_cases h2 : hi = 0
    · exact .inr (.inr ⟨h1, h2⟩)
    · exact .inr (.inl ⟨h1, beq_eq_false_iff_ne.2 h2⟩)
  · exact .inl (beq_eq_false_iff_ne.2 h1)

theorem Right_is (lo hi : Int) (k p : Bool) (H : Hid (spRight ⟨lo, hi, k⟩ = p)) (w : World) :
    Calls Try.prog 29 #[.agg #[.int .i64 lo, .int .i64 hi, .bool k]] w fun e w' => e = .returned (.bool p) ∧ Below w.heap.size w w' := by
  cases k with
  | false =>
    rcases cases3 lo hi with e1 | ⟨rfl, e2⟩ | ⟨rfl, rfl⟩
    · obtain rfl : false = p := by rw [← H.out]; have := beq_eq_false_iff_ne.1 e1; simp [spRight, this]
      clear H
      go_enter Try.func29, Try.ntmps29
      go_wp2_with fail
      go_quiet (fail)
      go_wp2
      go_ret
      exact ⟨rfl, (by repeat (first | exact brefl _ | refine balloc ?_ _ | refine bdrewN ?_ _ | refine bset ?_ (by dsimp only; omega) _ | refine bstep ?_ (by assumption)))⟩
    · obtain rfl : false = p := by rw [← H.out]; have := beq_eq_false_iff_ne.1 e2; simp [spRight, this]
      clear H
      go_enter Try.func29, Try.ntmps29
      go_wp2_with fail
      go_quiet (fail)
      go_wp2
      go_ret
      exact ⟨rfl, (by repeat (first | exact brefl _ | refine balloc ?_ _ | refine bdrewN ?_ _ | refine bset ?_ (by dsimp only; omega) _ | refine bstep ?_ (by assumption)))⟩
    · obtain rfl : true = p := H.out
      clear H
      go_enter Try.func29, Try.ntmps29
      go_wp2_with fail
      go_quiet (fail)
      go_wp2
      go_ret
      exact ⟨rfl, (by repeat (first | exact brefl _ | refine balloc ?_ _ | refine bdrewN ?_ _ | refine bset ?_ (by dsimp only; omega) _ | refine bstep ?_ (by assumption)))⟩
  | true =>
    by_cases hok : spOf lo hi = ⟨lo, hi, true⟩
    · obtain rfl : true = p := by
        rw [← H.out]
        symm
        have := spK_of hok
        rw [spK_iff] at this
        simp [spRight, this]
      have HO := Lib.hid hok
      clear H hok
      rcases cases3 lo hi with e1 | ⟨rfl, e2⟩ | ⟨rfl, rfl⟩
      · go_enter Try.func29, Try.ntmps29
        go_wp2_with fail
        have hB0 := balloc (brefl w) (.cells #[.int .i64 lo, .int .i64 hi, .bool true] 30)
        have hB1 := hB0.drew
        go_region_held3 (fun w' => w'.cell? ⟨w.heap.size, 0, none⟩ = some (.int .i64 lo) ∧ w'.cell? ⟨w.heap.size, 1, none⟩ = some (.int .i64 hi) ∧ w'.cell? ⟨w.heap.size, 2, none⟩ = some (.bool true) ∧ w.heap.size < w'.heap.size ∧ Below w.heap.size w w')
          (go_keep)
          (first | (go_at_call 18; refine (Of_is _ _ _ _ _ HO _).mono ?_; rintro e w1 ⟨rfl, hb1⟩; have hk := (bcell hb1).1; have hz := Nat.lt_of_lt_of_le (‹_ ∧ _ ∧ _ ∧ w.heap.size < _ ∧ Below w.heap.size w _›).2.2.2.1 hb1.size; have hB := bstep (w := w) (‹_ ∧ _ ∧ _ ∧ _ ∧ Below w.heap.size w _›).2.2.2.2 hb1))
        go_wp2
        go_ret
        exact ⟨rfl, hB⟩
      · go_enter Try.func29, Try.ntmps29
        go_wp2_with fail
        have hB0 := balloc (brefl w) (.cells #[.int .i64 0, .int .i64 hi, .bool true] 30)
        have hB1 := hB0.drew
        go_region_held3 (fun w' => w'.cell? ⟨w.heap.size, 0, none⟩ = some (.int .i64 0) ∧ w'.cell? ⟨w.heap.size, 1, none⟩ = some (.int .i64 hi) ∧ w'.cell? ⟨w.heap.size, 2, none⟩ = some (.bool true) ∧ w.heap.size < w'.heap.size ∧ Below w.heap.size w w')
          (go_keep)
          (first | (go_at_call 18; refine (Of_is _ _ _ _ _ HO _).mono ?_; rintro e w1 ⟨rfl, hb1⟩; have hk := (bcell hb1).1; have hz := Nat.lt_of_lt_of_le (‹_ ∧ _ ∧ _ ∧ w.heap.size < _ ∧ Below w.heap.size w _›).2.2.2.1 hb1.size; have hB := bstep (w := w) (‹_ ∧ _ ∧ _ ∧ _ ∧ Below w.heap.size w _›).2.2.2.2 hb1))
        go_wp2
        go_ret
        exact ⟨rfl, hB⟩
      · go_enter Try.func29, Try.ntmps29
        go_wp2_with fail
        have hB0 := balloc (brefl w) (.cells #[.int .i64 0, .int .i64 0, .bool true] 30)
        have hB1 := hB0.drew
        go_region_held3 (fun w' => w'.cell? ⟨w.heap.size, 0, none⟩ = some (.int .i64 0) ∧ w'.cell? ⟨w.heap.size, 1, none⟩ = some (.int .i64 0) ∧ w'.cell? ⟨w.heap.size, 2, none⟩ = some (.bool true) ∧ w.heap.size < w'.heap.size ∧ Below w.heap.size w w')
          (go_keep)
          (first | (go_at_call 18; refine (Of_is _ _ _ _ _ HO _).mono ?_; rintro e w1 ⟨rfl, hb1⟩; have hk := (bcell hb1).1; have hz := Nat.lt_of_lt_of_le (‹_ ∧ _ ∧ _ ∧ w.heap.size < _ ∧ Below w.heap.size w _›).2.2.2.1 hb1.size; have hB := bstep (w := w) (‹_ ∧ _ ∧ _ ∧ _ ∧ Below w.heap.size w _›).2.2.2.2 hb1))
        go_wp2
        go_ret
        exact ⟨rfl, hB⟩
    · have hno : spOf lo hi = spNo := by
        unfold spOf at hok ⊢
        split
        · rename_i h; rw [if_pos h] at hok; exact absurd rfl hok
        · rfl
      obtain rfl : false = p := by
        rw [← H.out]
        symm
        cases h : spRight ⟨lo, hi, true⟩
        · rfl
        · simp [spRight] at h
          exact absurd (spOf_yes (by simp [h]) h.2) hok
      have HO : Hid (spOf lo hi = ⟨0, 0, false⟩) := hno
      clear H hno hok
      rcases cases3 lo hi with e1 | ⟨rfl, e2⟩ | ⟨rfl, rfl⟩
      · go_enter Try.func29, Try.ntmps29
        go_wp2_with fail
        have hB0 := balloc (brefl w) (.cells #[.int .i64 lo, .int .i64 hi, .bool true] 30)
        have hB1 := hB0.drew
        go_region_held3 (fun w' => w'.cell? ⟨w.heap.size, 0, none⟩ = some (.int .i64 lo) ∧ w'.cell? ⟨w.heap.size, 1, none⟩ = some (.int .i64 hi) ∧ w'.cell? ⟨w.heap.size, 2, none⟩ = some (.bool true) ∧ w.heap.size < w'.heap.size ∧ Below w.heap.size w w')
          (go_keep)
          (first | (go_at_call 18; refine (Of_is _ _ _ _ _ HO _).mono ?_; rintro e w1 ⟨rfl, hb1⟩; have hk := (bcell hb1).1; have hz := Nat.lt_of_lt_of_le (‹_ ∧ _ ∧ _ ∧ w.heap.size < _ ∧ Below w.heap.size w _›).2.2.2.1 hb1.size; have hB := bstep (w := w) (‹_ ∧ _ ∧ _ ∧ _ ∧ Below w.heap.size w _›).2.2.2.2 hb1))
        go_wp2
        go_ret
        exact ⟨rfl, hB⟩
      · go_enter Try.func29, Try.ntmps29
        go_wp2_with fail
        have hB0 := balloc (brefl w) (.cells #[.int .i64 0, .int .i64 hi, .bool true] 30)
        have hB1 := hB0.drew
        go_region_held3 (fun w' => w'.cell? ⟨w.heap.size, 0, none⟩ = some (.int .i64 0) ∧ w'.cell? ⟨w.heap.size, 1, none⟩ = some (.int .i64 hi) ∧ w'.cell? ⟨w.heap.size, 2, none⟩ = some (.bool true) ∧ w.heap.size < w'.heap.size ∧ Below w.heap.size w w')
          (go_keep)
          (first | (go_at_call 18; refine (Of_is _ _ _ _ _ HO _).mono ?_; rintro e w1 ⟨rfl, hb1⟩; have hk := (bcell hb1).1; have hz := Nat.lt_of_lt_of_le (‹_ ∧ _ ∧ _ ∧ w.heap.size < _ ∧ Below w.heap.size w _›).2.2.2.1 hb1.size; have hB := bstep (w := w) (‹_ ∧ _ ∧ _ ∧ _ ∧ Below w.heap.size w _›).2.2.2.2 hb1))
        go_wp2
        go_ret
        exact ⟨rfl, hB⟩
      · have hno := HO.out
        cases hno
end Go.Proofs.Ytklnlhphgiipjaa
