/-
  The walks of package span's Of and Right.
  The walks of package span's known, Has, Within, Width.
  The walks of package span's Within and made.
  The walks of package span's Add, Sub, Shift, Wider.
  The walk of package span's Wider.
  The walks of package span's Unknown, Meet, Hull, Drift.
  The walks of package span's Unknown, Hull, Drift.
  Plain spans: what is scaled.
  Plain spans: what holds of sums, differences, what is moved, what two have in common.
  Plain laws of spans that drift and of spans that are scaled.
  A region that draws its order, by one invariant: each operation is shown once, whatever has come up before it.
  At the end of a region all has come up: only the edges that bind in this mode need lead backward.
  A span in a block.
-/
import Derived.Test.YtnphbdhcoiaklaaGA
import Derived.BigQuiet
import Derived.Deep.QuietTactic
import Derived.Deep.RegionHeld3
import Derived.Deep.RegionWith
import Derived.RegionTactic
import Derived.BigRegion
import Derived.Deep.Cut
import Derived.Deep.CutRange
import Derived.Deep.DeepCutAuto
namespace Go.Proofs.Ytnphbdhcoiaklaa
open Go.RowKit

theorem Of_is (lo hi x y : Int) (k : Bool) (H : Hid (spOf lo hi = ⟨x, y, k⟩)) (w : World) :
    Calls Try.prog 64 #[.int .i64 lo, .int .i64 hi] w fun e w' => e = .returned (.agg #[.int .i64 x, .int .i64 y, .bool k]) ∧ Below w.heap.size w w' := by
  cases hs : (smallB lo && smallB hi) with
  | false =>
    have h := (spOf_no1 hs).symm.trans H.out
    cases h
    clear H
    go_enter Try.func64, Try.ntmps64
    go_wp2_with fail
    refine (small2 lo hi _ hs _ _ (by simp) (by simp)).mono ?_
    rintro e w1 ⟨rfl, rfl⟩
    go_wp2
    exact bodyPost_ret (v := .agg #[.int .i64 0, .int .i64 0, .bool false]) (by simp [results, Try.results64, go_sem]) rfl ⟨rfl, (by repeat (first | exact brefl _ | refine balloc ?_ _ | refine bdrewN ?_ _ | refine bset ?_ (by dsimp only; omega) _ | refine bstep ?_ (by assumption)))⟩
  | true =>
    by_cases hle : hi < lo
    · have h := (spOf_no2 hle).symm.trans H.out
      cases h
      clear H
      go_enter Try.func64, Try.ntmps64
      go_wp2_with fail
      refine (small2 lo hi _ hs _ _ (by simp) (by simp)).mono ?_
      rintro e w1 ⟨rfl, rfl⟩
      go_wp2
      exact bodyPost_ret (v := .agg #[.int .i64 0, .int .i64 0, .bool false]) (by simp [results, Try.results64, go_sem]) rfl ⟨rfl, (by repeat (first | exact brefl _ | refine balloc ?_ _ | refine bdrewN ?_ _ | refine bset ?_ (by dsimp only; omega) _ | refine bstep ?_ (by assumption)))⟩
    · have h := (spOf_yes hs (by omega)).symm.trans H.out
      cases h
      clear H
      go_enter Try.func64, Try.ntmps64
      go_wp2_with fail
      refine (small2 lo hi _ hs _ _ (by simp) (by simp)).mono ?_
      rintro e w1 ⟨rfl, rfl⟩
      go_wp2
      exact bodyPost_ret (v := .agg #[.int .i64 lo, .int .i64 hi, .bool true]) (by simp [results, Try.results64, go_sem]) rfl ⟨rfl, (by repeat (first | exact brefl _ | refine balloc ?_ _ | refine bdrewN ?_ _ | refine bset ?_ (by dsimp only; omega) _ | refine bstep ?_ (by assumption)))⟩

theorem cases3 (lo hi : Int) : (lo == 0) = false ∨ (lo = 0 ∧ (hi == 0) = false) ∨ (lo = 0 ∧ hi = 0) := by
  by_cases h1 : lo = 0
  · by_cases h2 : hi = 0
    · exact .inr (.inr ⟨h1, h2⟩)
    · exact .inr (.inl ⟨h1, beq_eq_false_iff_ne.2 h2⟩)
  · exact .inl (beq_eq_false_iff_ne.2 h1)

theorem Right_is (lo hi : Int) (k p : Bool) (H : Hid (spRight ⟨lo, hi, k⟩ = p)) (w : World) :
    Calls Try.prog 56 #[.agg #[.int .i64 lo, .int .i64 hi, .bool k]] w fun e w' => e = .returned (.bool p) ∧ Below w.heap.size w w' := by
  cases k with
  | false =>
    rcases cases3 lo hi with e1 | ⟨rfl, e2⟩ | ⟨rfl, rfl⟩
    · obtain rfl : false = p := by rw [← H.out]; have := beq_eq_false_iff_ne.1 e1; simp [spRight, this]
      clear H
      go_enter Try.func56, Try.ntmps56
      go_wp2_with fail
      go_quiet (fail)
      go_wp2
      go_ret
      exact ⟨rfl, (by repeat (first | exact brefl _ | refine balloc ?_ _ | refine bdrewN ?_ _ | refine bset ?_ (by dsimp only; omega) _ | refine bstep ?_ (by assumption)))⟩
    · obtain rfl : false = p := by rw [← H.out]; have := beq_eq_false_iff_ne.1 e2; simp [spRight, this]
      clear H
      go_enter Try.func56, Try.ntmps56
      go_wp2_with fail
      go_quiet (fail)
      go_wp2
      go_ret
      exact ⟨rfl, (by repeat (first | exact brefl _ | refine balloc ?_ _ | refine bdrewN ?_ _ | refine bset ?_ (by dsimp only; omega) _ | refine bstep ?_ (by assumption)))⟩
    · obtain rfl : true = p := H.out
      clear H
      go_enter Try.func56, Try.ntmps56
      go_wp2_with fail
      go_quiet (fail)
      go_wp2
      go_ret
      exact ⟨rfl, (by repeat (first | exact brefl _ | refine balloc ?_ _ | refine bdrewN ?_ _ | refine bset ?_ (by dsimp only; omega) _ | refine bstep ?_ (by assumption)))⟩
  | true =>
    by_cases hok : spOf lo hi = ⟨lo, hi, true⟩
    · obtain rfl : true = p := by
        rw [← H.out]
        symm
        have := spK_of hok
        rw [spK_iff] at this
        simp [spRight, this]
      have HO := Lib.hid hok
      clear H hok
      rcases cases3 lo hi with e1 | ⟨rfl, e2⟩ | ⟨rfl, rfl⟩
      · go_enter Try.func56, Try.ntmps56
        go_wp2_with fail
        have hB0 := balloc (brefl w) (.cells #[.int .i64 lo, .int .i64 hi, .bool true] 50)
        have hB1 := hB0.drew
        go_region_held3 (fun w' => w'.cell? ⟨w.heap.size, 0, none⟩ = some (.int .i64 lo) ∧ w'.cell? ⟨w.heap.size, 1, none⟩ = some (.int .i64 hi) ∧ w'.cell? ⟨w.heap.size, 2, none⟩ = some (.bool true) ∧ w.heap.size < w'.heap.size ∧ Below w.heap.size w w')
          (go_keep)
          (first | (go_at_call 64; refine (Of_is _ _ _ _ _ HO _).mono ?_; rintro e w1 ⟨rfl, hb1⟩; have hk := (bcell hb1).1; have hz := Nat.lt_of_lt_of_le (‹_ ∧ _ ∧ _ ∧ w.heap.size < _ ∧ Below w.heap.size w _›).2.2.2.1 hb1.size; have hB := bstep (w := w) (‹_ ∧ _ ∧ _ ∧ _ ∧ Below w.heap.size w _›).2.2.2.2 hb1))
        go_wp2
        go_ret
        exact ⟨rfl, hB⟩
      · go_enter Try.func56, Try.ntmps56
        go_wp2_with fail
        have hB0 := balloc (brefl w) (.cells #[.int .i64 0, .int .i64 hi, .bool true] 50)
        have hB1 := hB0.drew
        go_region_held3 (fun w' => w'.cell? ⟨w.heap.size, 0, none⟩ = some (.int .i64 0) ∧ w'.cell? ⟨w.heap.size, 1, none⟩ = some (.int .i64 hi) ∧ w'.cell? ⟨w.heap.size, 2, none⟩ = some (.bool true) ∧ w.heap.size < w'.heap.size ∧ Below w.heap.size w w')
          (go_keep)
          (first | (go_at_call 64; refine (Of_is _ _ _ _ _ HO _).mono ?_; rintro e w1 ⟨rfl, hb1⟩; have hk := (bcell hb1).1; have hz := Nat.lt_of_lt_of_le (‹_ ∧ _ ∧ _ ∧ w.heap.size < _ ∧ Below w.heap.size w _›).2.2.2.1 hb1.size; have hB := bstep (w := w) (‹_ ∧ _ ∧ _ ∧ _ ∧ Below w.heap.size w _›).2.2.2.2 hb1))
        go_wp2
        go_ret
        exact ⟨rfl, hB⟩
      · go_enter Try.func56, Try.ntmps56
        go_wp2_with fail
        have hB0 := balloc (brefl w) (.cells #[.int .i64 0, .int .i64 0, .bool true] 50)
        have hB1 := hB0.drew
        go_region_held3 (fun w' => w'.cell? ⟨w.heap.size, 0, none⟩ = some (.int .i64 0) ∧ w'.cell? ⟨w.heap.size, 1, none⟩ = some (.int .i64 0) ∧ w'.cell? ⟨w.heap.size, 2, none⟩ = some (.bool true) ∧ w.heap.size < w'.heap.size ∧ Below w.heap.size w w')
          (go_keep)
          (first | (go_at_call 64; refine (Of_is _ _ _ _ _ HO _).mono ?_; rintro e w1 ⟨rfl, hb1⟩; have hk := (bcell hb1).1; have hz := Nat.lt_of_lt_of_le (‹_ ∧ _ ∧ _ ∧ w.heap.size < _ ∧ Below w.heap.size w _›).2.2.2.1 hb1.size; have hB := bstep (w := w) (‹_ ∧ _ ∧ _ ∧ _ ∧ Below w.heap.size w _›).2.2.2.2 hb1))
        go_wp2
        go_ret
        exact ⟨rfl, hB⟩
    · have hno : spOf lo hi = spNo := by
        unfold spOf at hok ⊢
        split
        · rename_i h; rw [if_pos h] at hok; exact absurd rfl hok
        · rfl
      obtain rfl : false = p := by
        rw [← H.out]
        symm
        cases h : spRight ⟨lo, hi, true⟩
        · rfl
        · simp [spRight] at h
          exact absurd (spOf_yes (by simp [h]) h.2) hok
      have HO : Hid (spOf lo hi = ⟨0, 0, false⟩) := hno
      clear H hno hok
      rcases cases3 lo hi with e1 | ⟨rfl, e2⟩ | ⟨rfl, rfl⟩
      · go_enter Try.func56, Try.ntmps56
        go_wp2_with fail
        have hB0 := balloc (brefl w) (.cells #[.int .i64 lo, .int .i64 hi, .bool true] 50)
        have hB1 := hB0.drew
        go_region_held3 (fun w' => w'.cell? ⟨w.heap.size, 0, none⟩ = some (.int .i64 lo) ∧ w'.cell? ⟨w.heap.size, 1, none⟩ = some (.int .i64 hi) ∧ w'.cell? ⟨w.heap.size, 2, none⟩ = some (.bool true) ∧ w.heap.size < w'.heap.size ∧ Below w.heap.size w w')
          (go_keep)
          (first | (go_at_call 64; refine (Of_is _ _ _ _ _ HO _).mono ?_; rintro e w1 ⟨rfl, hb1⟩; have hk := (bcell hb1).1; have hz := Nat.lt_of_lt_of_le (‹_ ∧ _ ∧ _ ∧ w.heap.size < _ ∧ Below w.heap.size w _›).2.2.2.1 hb1.size; have hB := bstep (w := w) (‹_ ∧ _ ∧ _ ∧ _ ∧ Below w.heap.size w _›).2.2.2.2 hb1))
        go_wp2
        go_ret
        exact ⟨rfl, hB⟩
      · go_enter Try.func56, Try.ntmps56
        go_wp2_with fail
        have hB0 := balloc (brefl w) (.cells #[.int .i64 0, .int .i64 hi, .bool true] 50)
        have hB1 := hB0.drew
        go_region_held3 (fun w' => w'.cell? ⟨w.heap.size, 0, none⟩ = some (.int .i64 0) ∧ w'.cell? ⟨w.heap.size, 1, none⟩ = some (.int .i64 hi) ∧ w'.cell? ⟨w.heap.size, 2, none⟩ = some (.bool true) ∧ w.heap.size < w'.heap.size ∧ Below w.heap.size w w')
          (go_keep)
          (first | (go_at_call 64; refine (Of_is _ _ _ _ _ HO _).mono ?_; rintro e w1 ⟨rfl, hb1⟩; have hk := (bcell hb1).1; have hz := Nat.lt_of_lt_of_le (‹_ ∧ _ ∧ _ ∧ w.heap.size < _ ∧ Below w.heap.size w _›).2.2.2.1 hb1.size; have hB := bstep (w := w) (‹_ ∧ _ ∧ _ ∧ _ ∧ Below w.heap.size w _›).2.2.2.2 hb1))
        go_wp2
        go_ret
        exact ⟨rfl, hB⟩
      · have hno := HO.out
        cases hno
end Go.Proofs.Ytnphbdhcoiaklaa
namespace Go.Proofs.Ytnphbdhcoiaklaa
open Go.RowKit

/-- What a cell of the call's own holds; it may be written. -/
def CellF (w : World) (p : Addr) (v : Value) : Prop := w.cell? p = some v ∧ w.frozen? p = false
theorem CellF.keep {a b : World} (hb : Below a.heap.size a b) {p : Addr} {v : Value} (h : CellF a p v) : CellF b p v := ⟨keepc hb h.1, keepf hb h.1 h.2⟩
theorem CellF.past {a : World} (o : Obj) {p : Addr} {v : Value} (h : CellF a p v) : CellF (a.alloc o) p v := ⟨allocc o h.1, allocf o h.1 h.2⟩
theorem CellF.drewN {a : World} (n : Nat) {p : Addr} {v : Value} (h : CellF a p v) : CellF (a.drewN n) p v := h

theorem CellF.drew {a : World} {p : Addr} {v : Value} (h : CellF a p v) : CellF a.drew p v := h
/-- 'Small' of two, the world behind it under a name of its own. -/
theorem small2b (x y : Int) (p : Bool) (hp : (smallB x && smallB y) = p) (b : Nat) (w : World) (h0 : w.cell? ⟨b, 0, none⟩ = some (.int .i64 x)) (h1 : w.cell? ⟨b, 1, none⟩ = some (.int .i64 y)) :
    Calls Try.prog 18 #[.slice (some ⟨b, 0, none⟩) 2 2] w fun e w' => e = .returned (.bool p) ∧ Below w.heap.size w w' :=
  (small2 x y p hp b w h0 h1).mono fun _ _ ⟨he, hw⟩ => ⟨he, hw ▸ brefl w⟩

theorem known1 (lo hi : Int) (k p : Bool) (hp : Hid (spK ⟨lo, hi, k⟩ = p)) (b : Nat) (w : World) (c0 : w.cell? ⟨b, 0, none⟩ = some (.int .i64 lo)) (c1 : w.cell? ⟨b, 1, none⟩ = some (.int .i64 hi)) (c2 : w.cell? ⟨b, 2, none⟩ = some (.bool k)) :
    Calls Try.prog 96 #[.slice (some ⟨b, 0, none⟩) 1 1] w fun e w' => e = .returned (.bool p) ∧ Below w.heap.size w w' := by
  cases k with
  | false =>
    obtain rfl : false = p := hp.out
    clear hp
    go_enter Try.func96, Try.ntmps96
    go_wp2_with fail
    refine wp_loop_rounds 1 ?_
    rw [rounds_succ]
    go_wp2
    go_ret
    exact ⟨rfl, (by repeat (first | exact brefl _ | refine balloc ?_ _ | refine bdrewN ?_ _ | refine bset ?_ (by dsimp only; omega) _ | refine bstep ?_ (by assumption)))⟩
  | true =>
    have H : Hid (spRight ⟨lo, hi, true⟩ = p) := hp.out
    clear hp
    cases p with
    | false =>
      go_enter Try.func96, Try.ntmps96
      go_wp2_with fail
      refine wp_loop_rounds 1 ?_
      rw [rounds_succ]
      go_wp2_with fail
      refine (Right_is _ _ _ _ H _).mono ?_
      rintro e w1 ⟨rfl, hb1⟩
      go_wp2
      go_ret
      exact ⟨rfl, (by repeat (first | exact brefl _ | refine balloc ?_ _ | refine bdrewN ?_ _ | refine bset ?_ (by dsimp only; omega) _ | refine bstep ?_ (by assumption)))⟩
    | true =>
      go_enter Try.func96, Try.ntmps96
      go_wp2_with fail
      refine wp_loop_rounds 2 ?_
      rw [rounds_succ]
      go_wp2_with fail
      refine (Right_is _ _ _ _ H _).mono ?_
      rintro e w1 ⟨rfl, hb1⟩
      go_wp2
      rw [rounds_succ]
      go_wp2
      go_ret
      exact ⟨rfl, (by repeat (first | exact brefl _ | refine balloc ?_ _ | refine bdrewN ?_ _ | refine bset ?_ (by dsimp only; omega) _ | refine bstep ?_ (by assumption)))⟩

theorem known2 (lo hi lo2 hi2 : Int) (k k2 p : Bool) (hp : Hid ((spK ⟨lo, hi, k⟩ && spK ⟨lo2, hi2, k2⟩) = p)) (b : Nat) (w : World) (hbs : b < w.heap.size)
    (c0 : w.cell? ⟨b, 0, none⟩ = some (.int .i64 lo)) (c1 : w.cell? ⟨b, 1, none⟩ = some (.int .i64 hi)) (c2 : w.cell? ⟨b, 2, none⟩ = some (.bool k))
    (c3 : w.cell? ⟨b, 3, none⟩ = some (.int .i64 lo2)) (c4 : w.cell? ⟨b, 4, none⟩ = some (.int .i64 hi2)) (c5 : w.cell? ⟨b, 5, none⟩ = some (.bool k2)) :
    Calls Try.prog 96 #[.slice (some ⟨b, 0, none⟩) 2 2] w fun e w' => e = .returned (.bool p) ∧ Below w.heap.size w w' := by
  cases k with
  | false =>
    obtain rfl : false = p := hp.out
    clear hp
    go_enter Try.func96, Try.ntmps96
    go_wp2_with fail
    refine wp_loop_rounds 1 ?_
    rw [rounds_succ]
    go_wp2
    go_ret
    exact ⟨rfl, (by repeat (first | exact brefl _ | refine balloc ?_ _ | refine bdrewN ?_ _ | refine bset ?_ (by dsimp only; omega) _ | refine bstep ?_ (by assumption)))⟩
  | true =>
    obtain ⟨r, hr⟩ : ∃ r, spRight ⟨lo, hi, true⟩ = r := ⟨_, rfl⟩
    cases r with
    | false =>
      obtain rfl : false = p := by rw [← hp.out]; simp [spK, hr]
      have H := Lib.hid hr
      clear hp hr
      go_enter Try.func96, Try.ntmps96
      go_wp2_with fail
      refine wp_loop_rounds 1 ?_
      rw [rounds_succ]
      go_wp2_with fail
      refine (Right_is _ _ _ _ H _).mono ?_
      rintro e w1 ⟨rfl, hb1⟩
      go_wp2
      go_ret
      exact ⟨rfl, (by repeat (first | exact brefl _ | refine balloc ?_ _ | refine bdrewN ?_ _ | refine bset ?_ (by dsimp only; omega) _ | refine bstep ?_ (by assumption)))⟩
    | true =>
      have h2 : spK ⟨lo2, hi2, k2⟩ = p := by rw [← hp.out]; simp [spK, hr]
      have H := Lib.hid hr
      clear hp hr
      have hb2 : b < w.heap.size + 1 := by omega
      cases k2 with
      | false =>
        obtain rfl : false = p := h2
        go_enter Try.func96, Try.ntmps96
        go_wp2_with fail
        refine wp_loop_rounds 2 ?_
        rw [rounds_succ]
        go_wp2_with fail
        refine (Right_is _ _ _ _ H _).mono ?_
        rintro e w1 ⟨rfl, hb1⟩
        have hk1 := (bcell hb1).1
        go_wp2
        rw [rounds_succ]
        go_wp2
        go_ret
        exact ⟨rfl, (by repeat (first | exact brefl _ | refine balloc ?_ _ | refine bdrewN ?_ _ | refine bset ?_ (by dsimp only; omega) _ | refine bstep ?_ (by assumption)))⟩
      | true =>
        have H2 : Hid (spRight ⟨lo2, hi2, true⟩ = p) := h2
        clear h2
        cases p with
        | false =>
          go_enter Try.func96, Try.ntmps96
          go_wp2_with fail
          refine wp_loop_rounds 2 ?_
          rw [rounds_succ]
          go_wp2_with fail
          refine (Right_is _ _ _ _ H _).mono ?_
          rintro e w1 ⟨rfl, hb1⟩
          have hk1 := (bcell hb1).1
          go_wp2
          rw [rounds_succ]
          go_wp2_with fail
          refine (Right_is _ _ _ _ H2 _).mono ?_
          rintro e w2 ⟨rfl, hb2⟩
          go_wp2
          go_ret
          exact ⟨rfl, (by repeat (first | exact brefl _ | refine balloc ?_ _ | refine bdrewN ?_ _ | refine bset ?_ (by dsimp only; omega) _ | refine bstep ?_ (by assumption)))⟩
        | true =>
          go_enter Try.func96, Try.ntmps96
          go_wp2_with fail
          refine wp_loop_rounds 3 ?_
          rw [rounds_succ]
          go_wp2_with fail
          refine (Right_is _ _ _ _ H _).mono ?_
          rintro e w1 ⟨rfl, hb1⟩
          have hk1 := (bcell hb1).1
          go_wp2
          rw [rounds_succ]
          go_wp2_with fail
          refine (Right_is _ _ _ _ H2 _).mono ?_
          rintro e w2 ⟨rfl, hb2⟩
          go_wp2
          rw [rounds_succ]
          go_wp2
          go_ret
          exact ⟨rfl, (by repeat (first | exact brefl _ | refine balloc ?_ _ | refine bdrewN ?_ _ | refine bset ?_ (by dsimp only; omega) _ | refine bstep ?_ (by assumption)))⟩

theorem Has_is (lo hi n : Int) (k p : Bool) (H : Hid (spHas ⟨lo, hi, k⟩ n = p)) (w : World) :
    Calls Try.prog 52 #[.agg #[.int .i64 lo, .int .i64 hi, .bool k], .int .i64 n] w fun e w' => e = .returned (.bool p) ∧ Below w.heap.size w w' := by
  obtain ⟨q, hq⟩ : ∃ q, spK ⟨lo, hi, k⟩ = q := ⟨_, rfl⟩
  have hp : (!q || (decide (lo ≤ n) && decide (n ≤ hi))) = p := by rw [← H.out, ← hq]; rfl
  have HQ := Lib.hid hq
  clear H hq
  cases q with
  | false =>
    obtain rfl : true = p := by simpa using hp
    clear hp
    go_enter Try.func52, Try.ntmps52
    go_wp2_with fail
    refine (known1 _ _ _ _ HQ _ _ (by simp) (by simp) (by simp)).mono ?_
    rintro e w1 ⟨rfl, hb1⟩
    go_wp2
    go_ret
    exact ⟨rfl, (by repeat (first | exact brefl _ | refine balloc ?_ _ | refine bdrewN ?_ _ | refine bset ?_ (by dsimp only; omega) _ | refine bstep ?_ (by assumption)))⟩
  | true =>
    by_cases h1 : lo ≤ n
    · by_cases h2 : n ≤ hi
      · obtain rfl : true = p := by simpa [h1, h2] using hp
        clear hp
        go_enter Try.func52, Try.ntmps52
        go_wp2_with fail
        refine (known1 _ _ _ _ HQ _ _ (by simp) (by simp) (by simp)).mono ?_
        rintro e w1 ⟨rfl, hb1⟩
        have hk1 := (bcell hb1).1
        go_wp2
        go_ret
        exact ⟨rfl, (by repeat (first | exact brefl _ | refine balloc ?_ _ | refine bdrewN ?_ _ | refine bset ?_ (by dsimp only; omega) _ | refine bstep ?_ (by assumption)))⟩
      · obtain rfl : false = p := by simpa [h1, h2] using hp
        clear hp
        have d2 : decide (n ≤ hi) = false := decide_eq_false h2
        go_enter Try.func52, Try.ntmps52
        go_wp2_with fail
        refine (known1 _ _ _ _ HQ _ _ (by simp) (by simp) (by simp)).mono ?_
        rintro e w1 ⟨rfl, hb1⟩
        have hk1 := (bcell hb1).1
        go_wp2
        go_ret
        exact ⟨rfl, (by repeat (first | exact brefl _ | refine balloc ?_ _ | refine bdrewN ?_ _ | refine bset ?_ (by dsimp only; omega) _ | refine bstep ?_ (by assumption)))⟩
    · obtain rfl : false = p := by simpa [h1] using hp
      clear hp
      have d1 : decide (lo ≤ n) = false := decide_eq_false h1
      go_enter Try.func52, Try.ntmps52
      go_wp2_with fail
      refine (known1 _ _ _ _ HQ _ _ (by simp) (by simp) (by simp)).mono ?_
      rintro e w1 ⟨rfl, hb1⟩
      have hk1 := (bcell hb1).1
      go_wp2
      go_ret
      exact ⟨rfl, (by repeat (first | exact brefl _ | refine balloc ?_ _ | refine bdrewN ?_ _ | refine bset ?_ (by dsimp only; omega) _ | refine bstep ?_ (by assumption)))⟩

theorem Width_is (lo hi x : Int) (k p : Bool) (H : Hid (spWidth ⟨lo, hi, k⟩ = (x, p))) (w : World) :
    Calls Try.prog 47 #[.agg #[.int .i64 lo, .int .i64 hi, .bool k]] w fun e w' => e = .returned (.tuple #[.int .i64 x, .bool p]) ∧ Below w.heap.size w w' := by
  obtain ⟨q, hq⟩ : ∃ q, spK ⟨lo, hi, k⟩ = q := ⟨_, rfl⟩
  have hp := H.out
  unfold spWidth at hp
  rw [hq] at hp
  have HQ := Lib.hid hq
  clear H hq
  cases q with
  | false =>
    obtain ⟨rfl, rfl⟩ := Prod.mk.inj hp
    clear hp
    go_enter Try.func47, Try.ntmps47
    go_wp2_with fail
    refine (known1 _ _ _ _ HQ _ _ (by simp) (by simp) (by simp)).mono ?_
    rintro e w1 ⟨rfl, hb1⟩
    go_wp2
    go_ret2
    exact ⟨rfl, (by repeat (first | exact brefl _ | refine balloc ?_ _ | refine bdrewN ?_ _ | refine bset ?_ (by dsimp only; omega) _ | refine bstep ?_ (by assumption)))⟩
  | true =>
    have HP : Hid (subP hi lo = (x, p)) := hp
    clear hp
    go_enter Try.func47, Try.ntmps47
    go_wp2_with fail
    refine (known1 _ _ _ _ HQ _ _ (by simp) (by simp) (by simp)).mono ?_
    rintro e w1 ⟨rfl, hb1⟩
    have hk1 := (bcell hb1).1
    go_wp2_with fail
    refine (Sub_is _ _ _ _ HP _).mono ?_
    rintro e w2 ⟨rfl, hb2⟩
    go_wp2
    go_ret2
    exact ⟨rfl, (by repeat (first | exact brefl _ | refine balloc ?_ _ | refine bdrewN ?_ _ | refine bset ?_ (by dsimp only; omega) _ | refine bstep ?_ (by assumption)))⟩
end Go.Proofs.Ytnphbdhcoiaklaa
namespace Go.Proofs.Ytnphbdhcoiaklaa
open Go.RowKit

theorem Within_is (lo hi lo2 hi2 : Int) (k k2 p : Bool) (H : Hid (spWithin ⟨lo, hi, k⟩ ⟨lo2, hi2, k2⟩ = p)) (w : World) :
    Calls Try.prog 54 #[.agg #[.int .i64 lo, .int .i64 hi, .bool k], .agg #[.int .i64 lo2, .int .i64 hi2, .bool k2]] w fun e w' => e = .returned (.bool p) ∧ Below w.heap.size w w' := by
  obtain ⟨r, hr⟩ : ∃ q, spK ⟨lo2, hi2, k2⟩ = q := ⟨_, rfl⟩
  obtain ⟨q, hq⟩ : ∃ q, spK ⟨lo, hi, k⟩ = q := ⟨_, rfl⟩
  have hp : (!r || ((q && decide (lo2 ≤ lo)) && decide (hi ≤ hi2))) = p := by rw [← H.out, ← hq, ← hr]; rfl
  have HQ := Lib.hid hq
  have HR := Lib.hid hr
  clear H hq hr
  cases r with
  | false =>
    obtain rfl : true = p := by simpa using hp
    clear hp
    go_enter Try.func54, Try.ntmps54
    go_wp2_with fail
    refine (known1 _ _ _ _ HR _ _ (by go_simp) (by go_simp) (by go_simp)).mono ?_
    rintro e w1 ⟨rfl, hb1⟩
    go_wp2
    go_ret
    exact ⟨rfl, (by repeat (first | exact brefl _ | refine balloc ?_ _ | refine bdrewN ?_ _ | refine bset ?_ (by dsimp only; omega) _ | refine bstep ?_ (by assumption)))⟩
  | true =>
    cases q with
    | false =>
      obtain rfl : false = p := by simpa using hp
      clear hp
      go_enter Try.func54, Try.ntmps54
      go_wp2_with fail
      refine (known1 _ _ _ _ HR _ _ (by go_simp) (by go_simp) (by go_simp)).mono ?_
      rintro e w1 ⟨rfl, hb1⟩
      have q1_1_0 : CellF w1 ⟨w.heap.size, 0, none⟩ (.int .i64 lo) := (by refine CellF.keep hb1 ?_; refine ⟨?_, ?_⟩ <;> go_simp)
      have c1_1_0 := q1_1_0.1
      have q1_1_1 : CellF w1 ⟨w.heap.size, 1, none⟩ (.int .i64 hi) := (by refine CellF.keep hb1 ?_; refine ⟨?_, ?_⟩ <;> go_simp)
      have c1_1_1 := q1_1_1.1
      have q1_1_2 : CellF w1 ⟨w.heap.size, 2, none⟩ (.bool k) := (by refine CellF.keep hb1 ?_; refine ⟨?_, ?_⟩ <;> go_simp)
      have c1_1_2 := q1_1_2.1
      have z1_1 : w.heap.size < w1.heap.size := ltc c1_1_0
      have q1_2_0 : CellF w1 ⟨w.heap.size + 1, 0, none⟩ (.int .i64 lo2) := (by refine CellF.keep hb1 ?_; refine ⟨?_, ?_⟩ <;> go_simp)
      have c1_2_0 := q1_2_0.1
      have q1_2_1 : CellF w1 ⟨w.heap.size + 1, 1, none⟩ (.int .i64 hi2) := (by refine CellF.keep hb1 ?_; refine ⟨?_, ?_⟩ <;> go_simp)
      have c1_2_1 := q1_2_1.1
      have q1_2_2 : CellF w1 ⟨w.heap.size + 1, 2, none⟩ (.bool k2) := (by refine CellF.keep hb1 ?_; refine ⟨?_, ?_⟩ <;> go_simp)
      have c1_2_2 := q1_2_2.1
      have z1_2 : w.heap.size + 1 < w1.heap.size := ltc c1_2_0
      go_wp2_with fail
      refine (known1 _ _ _ _ HQ _ _ (by go_simp) (by go_simp) (by go_simp)).mono ?_
      rintro e w2 ⟨rfl, hb2⟩
      go_wp2
      go_ret
      exact ⟨rfl, (by repeat (first | exact brefl _ | refine balloc ?_ _ | refine bdrewN ?_ _ | refine bset ?_ (by dsimp only; omega) _ | refine bstep ?_ (by assumption)))⟩
    | true =>
      by_cases h1 : lo2 ≤ lo
      · by_cases h2 : hi ≤ hi2
        · obtain rfl : true = p := by simpa [h1, h2] using hp
          clear hp
          go_enter Try.func54, Try.ntmps54
          go_wp2_with fail
          refine (known1 _ _ _ _ HR _ _ (by go_simp) (by go_simp) (by go_simp)).mono ?_
          rintro e w1 ⟨rfl, hb1⟩
          have q1_1_0 : CellF w1 ⟨w.heap.size, 0, none⟩ (.int .i64 lo) := (by refine CellF.keep hb1 ?_; refine ⟨?_, ?_⟩ <;> go_simp)
          have c1_1_0 := q1_1_0.1
          have q1_1_1 : CellF w1 ⟨w.heap.size, 1, none⟩ (.int .i64 hi) := (by refine CellF.keep hb1 ?_; refine ⟨?_, ?_⟩ <;> go_simp)
          have c1_1_1 := q1_1_1.1
          have q1_1_2 : CellF w1 ⟨w.heap.size, 2, none⟩ (.bool k) := (by refine CellF.keep hb1 ?_; refine ⟨?_, ?_⟩ <;> go_simp)
          have c1_1_2 := q1_1_2.1
          have z1_1 : w.heap.size < w1.heap.size := ltc c1_1_0
          have q1_2_0 : CellF w1 ⟨w.heap.size + 1, 0, none⟩ (.int .i64 lo2) := (by refine CellF.keep hb1 ?_; refine ⟨?_, ?_⟩ <;> go_simp)
          have c1_2_0 := q1_2_0.1
          have q1_2_1 : CellF w1 ⟨w.heap.size + 1, 1, none⟩ (.int .i64 hi2) := (by refine CellF.keep hb1 ?_; refine ⟨?_, ?_⟩ <;> go_simp)
          have c1_2_1 := q1_2_1.1
          have q1_2_2 : CellF w1 ⟨w.heap.size + 1, 2, none⟩ (.bool k2) := (by refine CellF.keep hb1 ?_; refine ⟨?_, ?_⟩ <;> go_simp)
          have c1_2_2 := q1_2_2.1
          have z1_2 : w.heap.size + 1 < w1.heap.size := ltc c1_2_0
          go_wp2_with fail
          refine (known1 _ _ _ _ HQ _ _ (by go_simp) (by go_simp) (by go_simp)).mono ?_
          rintro e w2 ⟨rfl, hb2⟩
          have q2_3_0 : CellF w2 ⟨w.heap.size, 0, none⟩ (.int .i64 lo) := (by first | exact CellF.keep hb2 q1_1_0 | exact CellF.keep hb2 (CellF.past _ q1_1_0) | exact CellF.keep hb2 (CellF.past _ (CellF.past _ q1_1_0)) | exact CellF.keep hb2 (CellF.drewN _ q1_1_0))
          have c2_3_0 := q2_3_0.1
          have q2_3_1 : CellF w2 ⟨w.heap.size, 1, none⟩ (.int .i64 hi) := (by first | exact CellF.keep hb2 q1_1_1 | exact CellF.keep hb2 (CellF.past _ q1_1_1) | exact CellF.keep hb2 (CellF.past _ (CellF.past _ q1_1_1)) | exact CellF.keep hb2 (CellF.drewN _ q1_1_1))
          have c2_3_1 := q2_3_1.1
          have q2_3_2 : CellF w2 ⟨w.heap.size, 2, none⟩ (.bool k) := (by first | exact CellF.keep hb2 q1_1_2 | exact CellF.keep hb2 (CellF.past _ q1_1_2) | exact CellF.keep hb2 (CellF.past _ (CellF.past _ q1_1_2)) | exact CellF.keep hb2 (CellF.drewN _ q1_1_2))
          have c2_3_2 := q2_3_2.1
          have z2_3 : w.heap.size < w2.heap.size := ltc c2_3_0
          have q2_4_0 : CellF w2 ⟨w.heap.size + 1, 0, none⟩ (.int .i64 lo2) := (by first | exact CellF.keep hb2 q1_2_0 | exact CellF.keep hb2 (CellF.past _ q1_2_0) | exact CellF.keep hb2 (CellF.past _ (CellF.past _ q1_2_0)) | exact CellF.keep hb2 (CellF.drewN _ q1_2_0))
          have c2_4_0 := q2_4_0.1
          have q2_4_1 : CellF w2 ⟨w.heap.size + 1, 1, none⟩ (.int .i64 hi2) := (by first | exact CellF.keep hb2 q1_2_1 | exact CellF.keep hb2 (CellF.past _ q1_2_1) | exact CellF.keep hb2 (CellF.past _ (CellF.past _ q1_2_1)) | exact CellF.keep hb2 (CellF.drewN _ q1_2_1))
          have c2_4_1 := q2_4_1.1
          have q2_4_2 : CellF w2 ⟨w.heap.size + 1, 2, none⟩ (.bool k2) := (by first | exact CellF.keep hb2 q1_2_2 | exact CellF.keep hb2 (CellF.past _ q1_2_2) | exact CellF.keep hb2 (CellF.past _ (CellF.past _ q1_2_2)) | exact CellF.keep hb2 (CellF.drewN _ q1_2_2))
          have c2_4_2 := q2_4_2.1
          have z2_4 : w.heap.size + 1 < w2.heap.size := ltc c2_4_0
          go_wp2
          go_ret
          exact ⟨rfl, (by repeat (first | exact brefl _ | refine balloc ?_ _ | refine bdrewN ?_ _ | refine bset ?_ (by dsimp only; omega) _ | refine bstep ?_ (by assumption)))⟩
        · obtain rfl : false = p := by simpa [h1, h2] using hp
          clear hp
          have d2 : decide (hi ≤ hi2) = false := decide_eq_false h2
          go_enter Try.func54, Try.ntmps54
          go_wp2_with fail
          refine (known1 _ _ _ _ HR _ _ (by go_simp) (by go_simp) (by go_simp)).mono ?_
          rintro e w1 ⟨rfl, hb1⟩
          have q1_1_0 : CellF w1 ⟨w.heap.size, 0, none⟩ (.int .i64 lo) := (by refine CellF.keep hb1 ?_; refine ⟨?_, ?_⟩ <;> go_simp)
          have c1_1_0 := q1_1_0.1
          have q1_1_1 : CellF w1 ⟨w.heap.size, 1, none⟩ (.int .i64 hi) := (by refine CellF.keep hb1 ?_; refine ⟨?_, ?_⟩ <;> go_simp)
          have c1_1_1 := q1_1_1.1
          have q1_1_2 : CellF w1 ⟨w.heap.size, 2, none⟩ (.bool k) := (by refine CellF.keep hb1 ?_; refine ⟨?_, ?_⟩ <;> go_simp)
          have c1_1_2 := q1_1_2.1
          have z1_1 : w.heap.size < w1.heap.size := ltc c1_1_0
          have q1_2_0 : CellF w1 ⟨w.heap.size + 1, 0, none⟩ (.int .i64 lo2) := (by refine CellF.keep hb1 ?_; refine ⟨?_, ?_⟩ <;> go_simp)
          have c1_2_0 := q1_2_0.1
          have q1_2_1 : CellF w1 ⟨w.heap.size + 1, 1, none⟩ (.int .i64 hi2) := (by refine CellF.keep hb1 ?_; refine ⟨?_, ?_⟩ <;> go_simp)
          have c1_2_1 := q1_2_1.1
          have q1_2_2 : CellF w1 ⟨w.heap.size + 1, 2, none⟩ (.bool k2) := (by refine CellF.keep hb1 ?_; refine ⟨?_, ?_⟩ <;> go_simp)
          have c1_2_2 := q1_2_2.1
          have z1_2 : w.heap.size + 1 < w1.heap.size := ltc c1_2_0
          go_wp2_with fail
          refine (known1 _ _ _ _ HQ _ _ (by go_simp) (by go_simp) (by go_simp)).mono ?_
          rintro e w2 ⟨rfl, hb2⟩
          have q2_3_0 : CellF w2 ⟨w.heap.size, 0, none⟩ (.int .i64 lo) := (by first | exact CellF.keep hb2 q1_1_0 | exact CellF.keep hb2 (CellF.past _ q1_1_0) | exact CellF.keep hb2 (CellF.past _ (CellF.past _ q1_1_0)) | exact CellF.keep hb2 (CellF.drewN _ q1_1_0))
          have c2_3_0 := q2_3_0.1
          have q2_3_1 : CellF w2 ⟨w.heap.size, 1, none⟩ (.int .i64 hi) := (by first | exact CellF.keep hb2 q1_1_1 | exact CellF.keep hb2 (CellF.past _ q1_1_1) | exact CellF.keep hb2 (CellF.past _ (CellF.past _ q1_1_1)) | exact CellF.keep hb2 (CellF.drewN _ q1_1_1))
          have c2_3_1 := q2_3_1.1
          have q2_3_2 : CellF w2 ⟨w.heap.size, 2, none⟩ (.bool k) := (by first | exact CellF.keep hb2 q1_1_2 | exact CellF.keep hb2 (CellF.past _ q1_1_2) | exact CellF.keep hb2 (CellF.past _ (CellF.past _ q1_1_2)) | exact CellF.keep hb2 (CellF.drewN _ q1_1_2))
          have c2_3_2 := q2_3_2.1
          have z2_3 : w.heap.size < w2.heap.size := ltc c2_3_0
          have q2_4_0 : CellF w2 ⟨w.heap.size + 1, 0, none⟩ (.int .i64 lo2) := (by first | exact CellF.keep hb2 q1_2_0 | exact CellF.keep hb2 (CellF.past _ q1_2_0) | exact CellF.keep hb2 (CellF.past _ (CellF.past _ q1_2_0)) | exact CellF.keep hb2 (CellF.drewN _ q1_2_0))
          have c2_4_0 := q2_4_0.1
          have q2_4_1 : CellF w2 ⟨w.heap.size + 1, 1, none⟩ (.int .i64 hi2) := (by first | exact CellF.keep hb2 q1_2_1 | exact CellF.keep hb2 (CellF.past _ q1_2_1) | exact CellF.keep hb2 (CellF.past _ (CellF.past _ q1_2_1)) | exact CellF.keep hb2 (CellF.drewN _ q1_2_1))
          have c2_4_1 := q2_4_1.1
          have q2_4_2 : CellF w2 ⟨w.heap.size + 1, 2, none⟩ (.bool k2) := (by first | exact CellF.keep hb2 q1_2_2 | exact CellF.keep hb2 (CellF.past _ q1_2_2) | exact CellF.keep hb2 (CellF.past _ (CellF.past _ q1_2_2)) | exact CellF.keep hb2 (CellF.drewN _ q1_2_2))
          have c2_4_2 := q2_4_2.1
          have z2_4 : w.heap.size + 1 < w2.heap.size := ltc c2_4_0
          go_wp2
          go_ret
          exact ⟨rfl, (by repeat (first | exact brefl _ | refine balloc ?_ _ | refine bdrewN ?_ _ | refine bset ?_ (by dsimp only; omega) _ | refine bstep ?_ (by assumption)))⟩
      · obtain rfl : false = p := by simpa [h1] using hp
        clear hp
        have d1 : decide (lo2 ≤ lo) = false := decide_eq_false h1
        go_enter Try.func54, Try.ntmps54
        go_wp2_with fail
        refine (known1 _ _ _ _ HR _ _ (by go_simp) (by go_simp) (by go_simp)).mono ?_
        rintro e w1 ⟨rfl, hb1⟩
        have q1_1_0 : CellF w1 ⟨w.heap.size, 0, none⟩ (.int .i64 lo) := (by refine CellF.keep hb1 ?_; refine ⟨?_, ?_⟩ <;> go_simp)
        have c1_1_0 := q1_1_0.1
        have q1_1_1 : CellF w1 ⟨w.heap.size, 1, none⟩ (.int .i64 hi) := (by refine CellF.keep hb1 ?_; refine ⟨?_, ?_⟩ <;> go_simp)
        have c1_1_1 := q1_1_1.1
        have q1_1_2 : CellF w1 ⟨w.heap.size, 2, none⟩ (.bool k) := (by refine CellF.keep hb1 ?_; refine ⟨?_, ?_⟩ <;> go_simp)
        have c1_1_2 := q1_1_2.1
        have z1_1 : w.heap.size < w1.heap.size := ltc c1_1_0
        have q1_2_0 : CellF w1 ⟨w.heap.size + 1, 0, none⟩ (.int .i64 lo2) := (by refine CellF.keep hb1 ?_; refine ⟨?_, ?_⟩ <;> go_simp)
        have c1_2_0 := q1_2_0.1
        have q1_2_1 : CellF w1 ⟨w.heap.size + 1, 1, none⟩ (.int .i64 hi2) := (by refine CellF.keep hb1 ?_; refine ⟨?_, ?_⟩ <;> go_simp)
        have c1_2_1 := q1_2_1.1
        have q1_2_2 : CellF w1 ⟨w.heap.size + 1, 2, none⟩ (.bool k2) := (by refine CellF.keep hb1 ?_; refine ⟨?_, ?_⟩ <;> go_simp)
        have c1_2_2 := q1_2_2.1
        have z1_2 : w.heap.size + 1 < w1.heap.size := ltc c1_2_0
        go_wp2_with fail
        refine (known1 _ _ _ _ HQ _ _ (by go_simp) (by go_simp) (by go_simp)).mono ?_
        rintro e w2 ⟨rfl, hb2⟩
        have q2_3_0 : CellF w2 ⟨w.heap.size, 0, none⟩ (.int .i64 lo) := (by first | exact CellF.keep hb2 q1_1_0 | exact CellF.keep hb2 (CellF.past _ q1_1_0) | exact CellF.keep hb2 (CellF.past _ (CellF.past _ q1_1_0)) | exact CellF.keep hb2 (CellF.drewN _ q1_1_0))
        have c2_3_0 := q2_3_0.1
        have q2_3_1 : CellF w2 ⟨w.heap.size, 1, none⟩ (.int .i64 hi) := (by first | exact CellF.keep hb2 q1_1_1 | exact CellF.keep hb2 (CellF.past _ q1_1_1) | exact CellF.keep hb2 (CellF.past _ (CellF.past _ q1_1_1)) | exact CellF.keep hb2 (CellF.drewN _ q1_1_1))
        have c2_3_1 := q2_3_1.1
        have q2_3_2 : CellF w2 ⟨w.heap.size, 2, none⟩ (.bool k) := (by first | exact CellF.keep hb2 q1_1_2 | exact CellF.keep hb2 (CellF.past _ q1_1_2) | exact CellF.keep hb2 (CellF.past _ (CellF.past _ q1_1_2)) | exact CellF.keep hb2 (CellF.drewN _ q1_1_2))
        have c2_3_2 := q2_3_2.1
        have z2_3 : w.heap.size < w2.heap.size := ltc c2_3_0
        have q2_4_0 : CellF w2 ⟨w.heap.size + 1, 0, none⟩ (.int .i64 lo2) := (by first | exact CellF.keep hb2 q1_2_0 | exact CellF.keep hb2 (CellF.past _ q1_2_0) | exact CellF.keep hb2 (CellF.past _ (CellF.past _ q1_2_0)) | exact CellF.keep hb2 (CellF.drewN _ q1_2_0))
        have c2_4_0 := q2_4_0.1
        have q2_4_1 : CellF w2 ⟨w.heap.size + 1, 1, none⟩ (.int .i64 hi2) := (by first | exact CellF.keep hb2 q1_2_1 | exact CellF.keep hb2 (CellF.past _ q1_2_1) | exact CellF.keep hb2 (CellF.past _ (CellF.past _ q1_2_1)) | exact CellF.keep hb2 (CellF.drewN _ q1_2_1))
        have c2_4_1 := q2_4_1.1
        have q2_4_2 : CellF w2 ⟨w.heap.size + 1, 2, none⟩ (.bool k2) := (by first | exact CellF.keep hb2 q1_2_2 | exact CellF.keep hb2 (CellF.past _ q1_2_2) | exact CellF.keep hb2 (CellF.past _ (CellF.past _ q1_2_2)) | exact CellF.keep hb2 (CellF.drewN _ q1_2_2))
        have c2_4_2 := q2_4_2.1
        have z2_4 : w.heap.size + 1 < w2.heap.size := ltc c2_4_0
        go_wp2
        go_ret
        exact ⟨rfl, (by repeat (first | exact brefl _ | refine balloc ?_ _ | refine bdrewN ?_ _ | refine bset ?_ (by dsimp only; omega) _ | refine bstep ?_ (by assumption)))⟩

set_option maxHeartbeats 1000000 in
theorem made_add (l0 l1 h0 h1 x y : Int) (z : Bool) (H : Hid (spMade (addP l0 l1) (addP h0 h1) = ⟨x, y, z⟩)) (w : World) :
    Calls Try.prog 97 #[.func (.func 11) #[] #[], .agg #[.int .i64 l0, .int .i64 l1], .agg #[.int .i64 h0, .int .i64 h1]] w fun e w' => e = .returned (.agg #[.int .i64 x, .int .i64 y, .bool z]) ∧ Below w.heap.size w w' := by
  obtain ⟨a, p, ha⟩ : ∃ a p, addP l0 l1 = (a, p) := ⟨_, _, rfl⟩
  obtain ⟨b, q, hb⟩ : ∃ a p, addP h0 h1 = (a, p) := ⟨_, _, rfl⟩
  have hm := H.out
  rw [ha, hb] at hm
  have HA := Lib.hid ha
  have HB := Lib.hid hb
  clear H ha hb
  cases p with
  | false =>
    cases hm
    go_enter Try.func97, Try.ntmps97
    go_wp2_with fail
    refine (Add_is _ _ _ _ HA _).mono ?_
    rintro e w1 ⟨rfl, hb1⟩
    have q1_1_0 : CellF w1 ⟨w.heap.size + 1, 0, none⟩ (.int .i64 h0) := (by refine CellF.keep hb1 ?_; refine ⟨?_, ?_⟩ <;> go_simp)
    have c1_1_0 := q1_1_0.1
    have q1_1_1 : CellF w1 ⟨w.heap.size + 1, 1, none⟩ (.int .i64 h1) := (by refine CellF.keep hb1 ?_; refine ⟨?_, ?_⟩ <;> go_simp)
    have c1_1_1 := q1_1_1.1
    have z1_1 : w.heap.size + 1 < w1.heap.size := ltc c1_1_0
    have q1_2_0 : CellF w1 ⟨w.heap.size + 1 + 1, 0, none⟩ (.int .i64 0) := (by refine CellF.keep hb1 ?_; refine ⟨?_, ?_⟩ <;> go_simp)
    have c1_2_0 := q1_2_0.1
    have g1_2_0 := q1_2_0.2
    have q1_2_1 : CellF w1 ⟨w.heap.size + 1 + 1, 1, none⟩ (.int .i64 0) := (by refine CellF.keep hb1 ?_; refine ⟨?_, ?_⟩ <;> go_simp)
    have c1_2_1 := q1_2_1.1
    have g1_2_1 := q1_2_1.2
    have q1_2_2 : CellF w1 ⟨w.heap.size + 1 + 1, 2, none⟩ (.bool false) := (by refine CellF.keep hb1 ?_; refine ⟨?_, ?_⟩ <;> go_simp)
    have c1_2_2 := q1_2_2.1
    have g1_2_2 := q1_2_2.2
    have z1_2 : w.heap.size + 1 + 1 < w1.heap.size := ltc c1_2_0
    go_wp2_with fail
    refine (Add_is _ _ _ _ HB _).mono ?_
    rintro e w2 ⟨rfl, hb2⟩
    have q2_3_0 : CellF w2 ⟨w.heap.size + 1 + 1, 0, none⟩ (.int .i64 0) := (by first | exact CellF.keep hb2 q1_2_0 | exact CellF.keep hb2 (CellF.past _ q1_2_0) | exact CellF.keep hb2 (CellF.past _ (CellF.past _ q1_2_0)) | exact CellF.keep hb2 (CellF.drewN _ q1_2_0))
    have c2_3_0 := q2_3_0.1
    have g2_3_0 := q2_3_0.2
    have q2_3_1 : CellF w2 ⟨w.heap.size + 1 + 1, 1, none⟩ (.int .i64 0) := (by first | exact CellF.keep hb2 q1_2_1 | exact CellF.keep hb2 (CellF.past _ q1_2_1) | exact CellF.keep hb2 (CellF.past _ (CellF.past _ q1_2_1)) | exact CellF.keep hb2 (CellF.drewN _ q1_2_1))
    have c2_3_1 := q2_3_1.1
    have g2_3_1 := q2_3_1.2
    have q2_3_2 : CellF w2 ⟨w.heap.size + 1 + 1, 2, none⟩ (.bool false) := (by first | exact CellF.keep hb2 q1_2_2 | exact CellF.keep hb2 (CellF.past _ q1_2_2) | exact CellF.keep hb2 (CellF.past _ (CellF.past _ q1_2_2)) | exact CellF.keep hb2 (CellF.drewN _ q1_2_2))
    have c2_3_2 := q2_3_2.1
    have g2_3_2 := q2_3_2.2
    have z2_3 : w.heap.size + 1 + 1 < w2.heap.size := ltc c2_3_0
    go_wp2
    exact bodyPost_ret (v := .agg #[.int .i64 0, .int .i64 0, .bool false]) (by simp [results, Try.results97, go_sem, c2_3_0, c2_3_1, c2_3_2]) rfl ⟨rfl, (by repeat (first | exact brefl _ | refine balloc ?_ _ | refine bdrewN ?_ _ | refine bset ?_ (by dsimp only; omega) _ | refine bstep ?_ (by assumption)))⟩
  | true =>
    cases q with
    | false =>
      cases hm
      go_enter Try.func97, Try.ntmps97
      go_wp2_with fail
      refine (Add_is _ _ _ _ HA _).mono ?_
      rintro e w1 ⟨rfl, hb1⟩
      have q1_1_0 : CellF w1 ⟨w.heap.size + 1, 0, none⟩ (.int .i64 h0) := (by refine CellF.keep hb1 ?_; refine ⟨?_, ?_⟩ <;> go_simp)
      have c1_1_0 := q1_1_0.1
      have q1_1_1 : CellF w1 ⟨w.heap.size + 1, 1, none⟩ (.int .i64 h1) := (by refine CellF.keep hb1 ?_; refine ⟨?_, ?_⟩ <;> go_simp)
      have c1_1_1 := q1_1_1.1
      have z1_1 : w.heap.size + 1 < w1.heap.size := ltc c1_1_0
      have q1_2_0 : CellF w1 ⟨w.heap.size + 1 + 1, 0, none⟩ (.int .i64 0) := (by refine CellF.keep hb1 ?_; refine ⟨?_, ?_⟩ <;> go_simp)
      have c1_2_0 := q1_2_0.1
      have g1_2_0 := q1_2_0.2
      have q1_2_1 : CellF w1 ⟨w.heap.size + 1 + 1, 1, none⟩ (.int .i64 0) := (by refine CellF.keep hb1 ?_; refine ⟨?_, ?_⟩ <;> go_simp)
      have c1_2_1 := q1_2_1.1
      have g1_2_1 := q1_2_1.2
      have q1_2_2 : CellF w1 ⟨w.heap.size + 1 + 1, 2, none⟩ (.bool false) := (by refine CellF.keep hb1 ?_; refine ⟨?_, ?_⟩ <;> go_simp)
      have c1_2_2 := q1_2_2.1
      have g1_2_2 := q1_2_2.2
      have z1_2 : w.heap.size + 1 + 1 < w1.heap.size := ltc c1_2_0
      go_wp2_with fail
      refine (Add_is _ _ _ _ HB _).mono ?_
      rintro e w2 ⟨rfl, hb2⟩
      have q2_3_0 : CellF w2 ⟨w.heap.size + 1 + 1, 0, none⟩ (.int .i64 0) := (by first | exact CellF.keep hb2 q1_2_0 | exact CellF.keep hb2 (CellF.past _ q1_2_0) | exact CellF.keep hb2 (CellF.past _ (CellF.past _ q1_2_0)) | exact CellF.keep hb2 (CellF.drewN _ q1_2_0))
      have c2_3_0 := q2_3_0.1
      have g2_3_0 := q2_3_0.2
      have q2_3_1 : CellF w2 ⟨w.heap.size + 1 + 1, 1, none⟩ (.int .i64 0) := (by first | exact CellF.keep hb2 q1_2_1 | exact CellF.keep hb2 (CellF.past _ q1_2_1) | exact CellF.keep hb2 (CellF.past _ (CellF.past _ q1_2_1)) | exact CellF.keep hb2 (CellF.drewN _ q1_2_1))
      have c2_3_1 := q2_3_1.1
      have g2_3_1 := q2_3_1.2
      have q2_3_2 : CellF w2 ⟨w.heap.size + 1 + 1, 2, none⟩ (.bool false) := (by first | exact CellF.keep hb2 q1_2_2 | exact CellF.keep hb2 (CellF.past _ q1_2_2) | exact CellF.keep hb2 (CellF.past _ (CellF.past _ q1_2_2)) | exact CellF.keep hb2 (CellF.drewN _ q1_2_2))
      have c2_3_2 := q2_3_2.1
      have g2_3_2 := q2_3_2.2
      have z2_3 : w.heap.size + 1 + 1 < w2.heap.size := ltc c2_3_0
      go_wp2
      exact bodyPost_ret (v := .agg #[.int .i64 0, .int .i64 0, .bool false]) (by simp [results, Try.results97, go_sem, c2_3_0, c2_3_1, c2_3_2]) rfl ⟨rfl, (by repeat (first | exact brefl _ | refine balloc ?_ _ | refine bdrewN ?_ _ | refine bset ?_ (by dsimp only; omega) _ | refine bstep ?_ (by assumption)))⟩
    | true =>
      have HM : Hid (spOf a b = ⟨x, y, z⟩) := hm
      clear hm
      go_enter Try.func97, Try.ntmps97
      go_wp2_with fail
      refine (Add_is _ _ _ _ HA _).mono ?_
      rintro e w1 ⟨rfl, hb1⟩
      have q1_1_0 : CellF w1 ⟨w.heap.size + 1, 0, none⟩ (.int .i64 h0) := (by refine CellF.keep hb1 ?_; refine ⟨?_, ?_⟩ <;> go_simp)
      have c1_1_0 := q1_1_0.1
      have q1_1_1 : CellF w1 ⟨w.heap.size + 1, 1, none⟩ (.int .i64 h1) := (by refine CellF.keep hb1 ?_; refine ⟨?_, ?_⟩ <;> go_simp)
      have c1_1_1 := q1_1_1.1
      have z1_1 : w.heap.size + 1 < w1.heap.size := ltc c1_1_0
      have q1_2_0 : CellF w1 ⟨w.heap.size + 1 + 1, 0, none⟩ (.int .i64 0) := (by refine CellF.keep hb1 ?_; refine ⟨?_, ?_⟩ <;> go_simp)
      have c1_2_0 := q1_2_0.1
      have g1_2_0 := q1_2_0.2
      have q1_2_1 : CellF w1 ⟨w.heap.size + 1 + 1, 1, none⟩ (.int .i64 0) := (by refine CellF.keep hb1 ?_; refine ⟨?_, ?_⟩ <;> go_simp)
      have c1_2_1 := q1_2_1.1
      have g1_2_1 := q1_2_1.2
      have q1_2_2 : CellF w1 ⟨w.heap.size + 1 + 1, 2, none⟩ (.bool false) := (by refine CellF.keep hb1 ?_; refine ⟨?_, ?_⟩ <;> go_simp)
      have c1_2_2 := q1_2_2.1
      have g1_2_2 := q1_2_2.2
      have z1_2 : w.heap.size + 1 + 1 < w1.heap.size := ltc c1_2_0
      go_wp2_with fail
      refine (Add_is _ _ _ _ HB _).mono ?_
      rintro e w2 ⟨rfl, hb2⟩
      have q2_3_0 : CellF w2 ⟨w.heap.size + 1 + 1, 0, none⟩ (.int .i64 0) := (by first | exact CellF.keep hb2 q1_2_0 | exact CellF.keep hb2 (CellF.past _ q1_2_0) | exact CellF.keep hb2 (CellF.past _ (CellF.past _ q1_2_0)) | exact CellF.keep hb2 (CellF.drewN _ q1_2_0))
      have c2_3_0 := q2_3_0.1
      have g2_3_0 := q2_3_0.2
      have q2_3_1 : CellF w2 ⟨w.heap.size + 1 + 1, 1, none⟩ (.int .i64 0) := (by first | exact CellF.keep hb2 q1_2_1 | exact CellF.keep hb2 (CellF.past _ q1_2_1) | exact CellF.keep hb2 (CellF.past _ (CellF.past _ q1_2_1)) | exact CellF.keep hb2 (CellF.drewN _ q1_2_1))
      have c2_3_1 := q2_3_1.1
      have g2_3_1 := q2_3_1.2
      have q2_3_2 : CellF w2 ⟨w.heap.size + 1 + 1, 2, none⟩ (.bool false) := (by first | exact CellF.keep hb2 q1_2_2 | exact CellF.keep hb2 (CellF.past _ q1_2_2) | exact CellF.keep hb2 (CellF.past _ (CellF.past _ q1_2_2)) | exact CellF.keep hb2 (CellF.drewN _ q1_2_2))
      have c2_3_2 := q2_3_2.1
      have g2_3_2 := q2_3_2.2
      have z2_3 : w.heap.size + 1 + 1 < w2.heap.size := ltc c2_3_0
      go_wp2_with fail
      refine (Of_is _ _ _ _ _ HM _).mono ?_
      rintro e w3 ⟨rfl, hb3⟩
      have q3_4_0 : CellF w3 ⟨w.heap.size + 1 + 1, 0, none⟩ (.int .i64 0) := (by first | exact CellF.keep hb3 q2_3_0 | exact CellF.keep hb3 (CellF.past _ q2_3_0) | exact CellF.keep hb3 (CellF.past _ (CellF.past _ q2_3_0)) | exact CellF.keep hb3 (CellF.drewN _ q2_3_0))
      have c3_4_0 := q3_4_0.1
      have g3_4_0 := q3_4_0.2
      have q3_4_1 : CellF w3 ⟨w.heap.size + 1 + 1, 1, none⟩ (.int .i64 0) := (by first | exact CellF.keep hb3 q2_3_1 | exact CellF.keep hb3 (CellF.past _ q2_3_1) | exact CellF.keep hb3 (CellF.past _ (CellF.past _ q2_3_1)) | exact CellF.keep hb3 (CellF.drewN _ q2_3_1))
      have c3_4_1 := q3_4_1.1
      have g3_4_1 := q3_4_1.2
      have q3_4_2 : CellF w3 ⟨w.heap.size + 1 + 1, 2, none⟩ (.bool false) := (by first | exact CellF.keep hb3 q2_3_2 | exact CellF.keep hb3 (CellF.past _ q2_3_2) | exact CellF.keep hb3 (CellF.past _ (CellF.past _ q2_3_2)) | exact CellF.keep hb3 (CellF.drewN _ q2_3_2))
      have c3_4_2 := q3_4_2.1
      have g3_4_2 := q3_4_2.2
      have z3_4 : w.heap.size + 1 + 1 < w3.heap.size := ltc c3_4_0
      go_wp2
      exact bodyPost_ret (v := .agg #[.int .i64 x, .int .i64 y, .bool z]) (by simp [results, Try.results97, go_sem, c3_4_0, c3_4_1, c3_4_2]) rfl ⟨rfl, (by repeat (first | exact brefl _ | refine balloc ?_ _ | refine bdrewN ?_ _ | refine bset ?_ (by dsimp only; omega) _ | refine bstep ?_ (by assumption)))⟩

set_option maxHeartbeats 1000000 in
theorem made_sub (l0 l1 h0 h1 x y : Int) (z : Bool) (H : Hid (spMade (subP l0 l1) (subP h0 h1) = ⟨x, y, z⟩)) (w : World) :
    Calls Try.prog 97 #[.func (.func 13) #[] #[], .agg #[.int .i64 l0, .int .i64 l1], .agg #[.int .i64 h0, .int .i64 h1]] w fun e w' => e = .returned (.agg #[.int .i64 x, .int .i64 y, .bool z]) ∧ Below w.heap.size w w' := by
  obtain ⟨a, p, ha⟩ : ∃ a p, subP l0 l1 = (a, p) := ⟨_, _, rfl⟩
  obtain ⟨b, q, hb⟩ : ∃ a p, subP h0 h1 = (a, p) := ⟨_, _, rfl⟩
  have hm := H.out
  rw [ha, hb] at hm
  have HA := Lib.hid ha
  have HB := Lib.hid hb
  clear H ha hb
  cases p with
  | false =>
    cases hm
    go_enter Try.func97, Try.ntmps97
    go_wp2_with fail
    refine (Sub_is _ _ _ _ HA _).mono ?_
    rintro e w1 ⟨rfl, hb1⟩
    have q1_1_0 : CellF w1 ⟨w.heap.size + 1, 0, none⟩ (.int .i64 h0) := (by refine CellF.keep hb1 ?_; refine ⟨?_, ?_⟩ <;> go_simp)
    have c1_1_0 := q1_1_0.1
    have q1_1_1 : CellF w1 ⟨w.heap.size + 1, 1, none⟩ (.int .i64 h1) := (by refine CellF.keep hb1 ?_; refine ⟨?_, ?_⟩ <;> go_simp)
    have c1_1_1 := q1_1_1.1
    have z1_1 : w.heap.size + 1 < w1.heap.size := ltc c1_1_0
    have q1_2_0 : CellF w1 ⟨w.heap.size + 1 + 1, 0, none⟩ (.int .i64 0) := (by refine CellF.keep hb1 ?_; refine ⟨?_, ?_⟩ <;> go_simp)
    have c1_2_0 := q1_2_0.1
    have g1_2_0 := q1_2_0.2
    have q1_2_1 : CellF w1 ⟨w.heap.size + 1 + 1, 1, none⟩ (.int .i64 0) := (by refine CellF.keep hb1 ?_; refine ⟨?_, ?_⟩ <;> go_simp)
    have c1_2_1 := q1_2_1.1
    have g1_2_1 := q1_2_1.2
    have q1_2_2 : CellF w1 ⟨w.heap.size + 1 + 1, 2, none⟩ (.bool false) := (by refine CellF.keep hb1 ?_; refine ⟨?_, ?_⟩ <;> go_simp)
    have c1_2_2 := q1_2_2.1
    have g1_2_2 := q1_2_2.2
    have z1_2 : w.heap.size + 1 + 1 < w1.heap.size := ltc c1_2_0
    go_wp2_with fail
    refine (Sub_is _ _ _ _ HB _).mono ?_
    rintro e w2 ⟨rfl, hb2⟩
    have q2_3_0 : CellF w2 ⟨w.heap.size + 1 + 1, 0, none⟩ (.int .i64 0) := (by first | exact CellF.keep hb2 q1_2_0 | exact CellF.keep hb2 (CellF.past _ q1_2_0) | exact CellF.keep hb2 (CellF.past _ (CellF.past _ q1_2_0)) | exact CellF.keep hb2 (CellF.drewN _ q1_2_0))
    have c2_3_0 := q2_3_0.1
    have g2_3_0 := q2_3_0.2
    have q2_3_1 : CellF w2 ⟨w.heap.size + 1 + 1, 1, none⟩ (.int .i64 0) := (by first | exact CellF.keep hb2 q1_2_1 | exact CellF.keep hb2 (CellF.past _ q1_2_1) | exact CellF.keep hb2 (CellF.past _ (CellF.past _ q1_2_1)) | exact CellF.keep hb2 (CellF.drewN _ q1_2_1))
    have c2_3_1 := q2_3_1.1
    have g2_3_1 := q2_3_1.2
    have q2_3_2 : CellF w2 ⟨w.heap.size + 1 + 1, 2, none⟩ (.bool false) := (by first | exact CellF.keep hb2 q1_2_2 | exact CellF.keep hb2 (CellF.past _ q1_2_2) | exact CellF.keep hb2 (CellF.past _ (CellF.past _ q1_2_2)) | exact CellF.keep hb2 (CellF.drewN _ q1_2_2))
    have c2_3_2 := q2_3_2.1
    have g2_3_2 := q2_3_2.2
    have z2_3 : w.heap.size + 1 + 1 < w2.heap.size := ltc c2_3_0
    go_wp2
    exact bodyPost_ret (v := .agg #[.int .i64 0, .int .i64 0, .bool false]) (by simp [results, Try.results97, go_sem, c2_3_0, c2_3_1, c2_3_2]) rfl ⟨rfl, (by repeat (first | exact brefl _ | refine balloc ?_ _ | refine bdrewN ?_ _ | refine bset ?_ (by dsimp only; omega) _ | refine bstep ?_ (by assumption)))⟩
  | true =>
    cases q with
    | false =>
      cases hm
      go_enter Try.func97, Try.ntmps97
      go_wp2_with fail
      refine (Sub_is _ _ _ _ HA _).mono ?_
      rintro e w1 ⟨rfl, hb1⟩
      have q1_1_0 : CellF w1 ⟨w.heap.size + 1, 0, none⟩ (.int .i64 h0) := (by refine CellF.keep hb1 ?_; refine ⟨?_, ?_⟩ <;> go_simp)
      have c1_1_0 := q1_1_0.1
      have q1_1_1 : CellF w1 ⟨w.heap.size + 1, 1, none⟩ (.int .i64 h1) := (by refine CellF.keep hb1 ?_; refine ⟨?_, ?_⟩ <;> go_simp)
      have c1_1_1 := q1_1_1.1
      have z1_1 : w.heap.size + 1 < w1.heap.size := ltc c1_1_0
      have q1_2_0 : CellF w1 ⟨w.heap.size + 1 + 1, 0, none⟩ (.int .i64 0) := (by refine CellF.keep hb1 ?_; refine ⟨?_, ?_⟩ <;> go_simp)
      have c1_2_0 := q1_2_0.1
      have g1_2_0 := q1_2_0.2
      have q1_2_1 : CellF w1 ⟨w.heap.size + 1 + 1, 1, none⟩ (.int .i64 0) := (by refine CellF.keep hb1 ?_; refine ⟨?_, ?_⟩ <;> go_simp)
      have c1_2_1 := q1_2_1.1
      have g1_2_1 := q1_2_1.2
      have q1_2_2 : CellF w1 ⟨w.heap.size + 1 + 1, 2, none⟩ (.bool false) := (by refine CellF.keep hb1 ?_; refine ⟨?_, ?_⟩ <;> go_simp)
      have c1_2_2 := q1_2_2.1
      have g1_2_2 := q1_2_2.2
      have z1_2 : w.heap.size + 1 + 1 < w1.heap.size := ltc c1_2_0
      go_wp2_with fail
      refine (Sub_is _ _ _ _ HB _).mono ?_
      rintro e w2 ⟨rfl, hb2⟩
      have q2_3_0 : CellF w2 ⟨w.heap.size + 1 + 1, 0, none⟩ (.int .i64 0) := (by first | exact CellF.keep hb2 q1_2_0 | exact CellF.keep hb2 (CellF.past _ q1_2_0) | exact CellF.keep hb2 (CellF.past _ (CellF.past _ q1_2_0)) | exact CellF.keep hb2 (CellF.drewN _ q1_2_0))
      have c2_3_0 := q2_3_0.1
      have g2_3_0 := q2_3_0.2
      have q2_3_1 : CellF w2 ⟨w.heap.size + 1 + 1, 1, none⟩ (.int .i64 0) := (by first | exact CellF.keep hb2 q1_2_1 | exact CellF.keep hb2 (CellF.past _ q1_2_1) | exact CellF.keep hb2 (CellF.past _ (CellF.past _ q1_2_1)) | exact CellF.keep hb2 (CellF.drewN _ q1_2_1))
      have c2_3_1 := q2_3_1.1
      have g2_3_1 := q2_3_1.2
      have q2_3_2 : CellF w2 ⟨w.heap.size + 1 + 1, 2, none⟩ (.bool false) := (by first | exact CellF.keep hb2 q1_2_2 | exact CellF.keep hb2 (CellF.past _ q1_2_2) | exact CellF.keep hb2 (CellF.past _ (CellF.past _ q1_2_2)) | exact CellF.keep hb2 (CellF.drewN _ q1_2_2))
      have c2_3_2 := q2_3_2.1
      have g2_3_2 := q2_3_2.2
      have z2_3 : w.heap.size + 1 + 1 < w2.heap.size := ltc c2_3_0
      go_wp2
      exact bodyPost_ret (v := .agg #[.int .i64 0, .int .i64 0, .bool false]) (by simp [results, Try.results97, go_sem, c2_3_0, c2_3_1, c2_3_2]) rfl ⟨rfl, (by repeat (first | exact brefl _ | refine balloc ?_ _ | refine bdrewN ?_ _ | refine bset ?_ (by dsimp only; omega) _ | refine bstep ?_ (by assumption)))⟩
    | true =>
      have HM : Hid (spOf a b = ⟨x, y, z⟩) := hm
      clear hm
      go_enter Try.func97, Try.ntmps97
      go_wp2_with fail
      refine (Sub_is _ _ _ _ HA _).mono ?_
      rintro e w1 ⟨rfl, hb1⟩
      have q1_1_0 : CellF w1 ⟨w.heap.size + 1, 0, none⟩ (.int .i64 h0) := (by refine CellF.keep hb1 ?_; refine ⟨?_, ?_⟩ <;> go_simp)
      have c1_1_0 := q1_1_0.1
      have q1_1_1 : CellF w1 ⟨w.heap.size + 1, 1, none⟩ (.int .i64 h1) := (by refine CellF.keep hb1 ?_; refine ⟨?_, ?_⟩ <;> go_simp)
      have c1_1_1 := q1_1_1.1
      have z1_1 : w.heap.size + 1 < w1.heap.size := ltc c1_1_0
      have q1_2_0 : CellF w1 ⟨w.heap.size + 1 + 1, 0, none⟩ (.int .i64 0) := (by refine CellF.keep hb1 ?_; refine ⟨?_, ?_⟩ <;> go_simp)
      have c1_2_0 := q1_2_0.1
      have g1_2_0 := q1_2_0.2
      have q1_2_1 : CellF w1 ⟨w.heap.size + 1 + 1, 1, none⟩ (.int .i64 0) := (by refine CellF.keep hb1 ?_; refine ⟨?_, ?_⟩ <;> go_simp)
      have c1_2_1 := q1_2_1.1
      have g1_2_1 := q1_2_1.2
      have q1_2_2 : CellF w1 ⟨w.heap.size + 1 + 1, 2, none⟩ (.bool false) := (by refine CellF.keep hb1 ?_; refine ⟨?_, ?_⟩ <;> go_simp)
      have c1_2_2 := q1_2_2.1
      have g1_2_2 := q1_2_2.2
      have z1_2 : w.heap.size + 1 + 1 < w1.heap.size := ltc c1_2_0
      go_wp2_with fail
      refine (Sub_is _ _ _ _ HB _).mono ?_
      rintro e w2 ⟨rfl, hb2⟩
      have q2_3_0 : CellF w2 ⟨w.heap.size + 1 + 1, 0, none⟩ (.int .i64 0) := (by first | exact CellF.keep hb2 q1_2_0 | exact CellF.keep hb2 (CellF.past _ q1_2_0) | exact CellF.keep hb2 (CellF.past _ (CellF.past _ q1_2_0)) | exact CellF.keep hb2 (CellF.drewN _ q1_2_0))
      have c2_3_0 := q2_3_0.1
      have g2_3_0 := q2_3_0.2
      have q2_3_1 : CellF w2 ⟨w.heap.size + 1 + 1, 1, none⟩ (.int .i64 0) := (by first | exact CellF.keep hb2 q1_2_1 | exact CellF.keep hb2 (CellF.past _ q1_2_1) | exact CellF.keep hb2 (CellF.past _ (CellF.past _ q1_2_1)) | exact CellF.keep hb2 (CellF.drewN _ q1_2_1))
      have c2_3_1 := q2_3_1.1
      have g2_3_1 := q2_3_1.2
      have q2_3_2 : CellF w2 ⟨w.heap.size + 1 + 1, 2, none⟩ (.bool false) := (by first | exact CellF.keep hb2 q1_2_2 | exact CellF.keep hb2 (CellF.past _ q1_2_2) | exact CellF.keep hb2 (CellF.past _ (CellF.past _ q1_2_2)) | exact CellF.keep hb2 (CellF.drewN _ q1_2_2))
      have c2_3_2 := q2_3_2.1
      have g2_3_2 := q2_3_2.2
      have z2_3 : w.heap.size + 1 + 1 < w2.heap.size := ltc c2_3_0
      go_wp2_with fail
      refine (Of_is _ _ _ _ _ HM _).mono ?_
      rintro e w3 ⟨rfl, hb3⟩
      have q3_4_0 : CellF w3 ⟨w.heap.size + 1 + 1, 0, none⟩ (.int .i64 0) := (by first | exact CellF.keep hb3 q2_3_0 | exact CellF.keep hb3 (CellF.past _ q2_3_0) | exact CellF.keep hb3 (CellF.past _ (CellF.past _ q2_3_0)) | exact CellF.keep hb3 (CellF.drewN _ q2_3_0))
      have c3_4_0 := q3_4_0.1
      have g3_4_0 := q3_4_0.2
      have q3_4_1 : CellF w3 ⟨w.heap.size + 1 + 1, 1, none⟩ (.int .i64 0) := (by first | exact CellF.keep hb3 q2_3_1 | exact CellF.keep hb3 (CellF.past _ q2_3_1) | exact CellF.keep hb3 (CellF.past _ (CellF.past _ q2_3_1)) | exact CellF.keep hb3 (CellF.drewN _ q2_3_1))
      have c3_4_1 := q3_4_1.1
      have g3_4_1 := q3_4_1.2
      have q3_4_2 : CellF w3 ⟨w.heap.size + 1 + 1, 2, none⟩ (.bool false) := (by first | exact CellF.keep hb3 q2_3_2 | exact CellF.keep hb3 (CellF.past _ q2_3_2) | exact CellF.keep hb3 (CellF.past _ (CellF.past _ q2_3_2)) | exact CellF.keep hb3 (CellF.drewN _ q2_3_2))
      have c3_4_2 := q3_4_2.1
      have g3_4_2 := q3_4_2.2
      have z3_4 : w.heap.size + 1 + 1 < w3.heap.size := ltc c3_4_0
      go_wp2
      exact bodyPost_ret (v := .agg #[.int .i64 x, .int .i64 y, .bool z]) (by simp [results, Try.results97, go_sem, c3_4_0, c3_4_1, c3_4_2]) rfl ⟨rfl, (by repeat (first | exact brefl _ | refine balloc ?_ _ | refine bdrewN ?_ _ | refine bset ?_ (by dsimp only; omega) _ | refine bstep ?_ (by assumption)))⟩

end Go.Proofs.Ytnphbdhcoiaklaa
namespace Go.Proofs.Ytnphbdhcoiaklaa
open Go.RowKit

theorem SpAdd_is (lo hi lo2 hi2 x y : Int) (k k2 z : Bool) (H : Hid (spAdd ⟨lo, hi, k⟩ ⟨lo2, hi2, k2⟩ = ⟨x, y, z⟩)) (w : World) :
    Calls Try.prog 39 #[.agg #[.int .i64 lo, .int .i64 hi, .bool k], .agg #[.int .i64 lo2, .int .i64 hi2, .bool k2]] w fun e w' => e = .returned (.agg #[.int .i64 x, .int .i64 y, .bool z]) ∧ Below w.heap.size w w' := by
  obtain ⟨q, hq⟩ : ∃ q, (spK ⟨lo, hi, k⟩ && spK ⟨lo2, hi2, k2⟩) = q := ⟨_, rfl⟩
  have hp := H.out
  unfold spAdd at hp
  rw [hq] at hp
  have HQ := Lib.hid hq
  clear H hq
  cases q with
  | false =>
    cases hp
    go_enter Try.func39, Try.ntmps39
    go_wp2_with fail
    refine (known2 _ _ _ _ _ _ _ HQ _ _ (by go_simp) (by go_simp) (by go_simp) (by go_simp) (by go_simp) (by go_simp) (by go_simp)).mono ?_
    rintro e w1 ⟨rfl, hb1⟩
    have q1_1_0 : CellF w1 ⟨w.heap.size + 1 + 1, 0, none⟩ (.int .i64 0) := (by refine CellF.keep hb1 ?_; refine ⟨?_, ?_⟩ <;> go_simp)
    have c1_1_0 := q1_1_0.1
    have g1_1_0 := q1_1_0.2
    have q1_1_1 : CellF w1 ⟨w.heap.size + 1 + 1, 1, none⟩ (.int .i64 0) := (by refine CellF.keep hb1 ?_; refine ⟨?_, ?_⟩ <;> go_simp)
    have c1_1_1 := q1_1_1.1
    have g1_1_1 := q1_1_1.2
    have q1_1_2 : CellF w1 ⟨w.heap.size + 1 + 1, 2, none⟩ (.bool false) := (by refine CellF.keep hb1 ?_; refine ⟨?_, ?_⟩ <;> go_simp)
    have c1_1_2 := q1_1_2.1
    have g1_1_2 := q1_1_2.2
    have z1_1 : w.heap.size + 1 + 1 < w1.heap.size := ltc c1_1_0
    go_wp2
    exact bodyPost_ret (v := .agg #[.int .i64 0, .int .i64 0, .bool false]) (by simp [results, Try.results39, go_sem, c1_1_0, c1_1_1, c1_1_2]) rfl ⟨rfl, (by repeat (first | exact brefl _ | refine balloc ?_ _ | refine bdrewN ?_ _ | refine bset ?_ (by dsimp only; omega) _ | refine bstep ?_ (by assumption)))⟩
  | true =>
    go_enter Try.func39, Try.ntmps39
    go_wp2_with fail
    refine (known2 _ _ _ _ _ _ _ HQ _ _ (by go_simp) (by go_simp) (by go_simp) (by go_simp) (by go_simp) (by go_simp) (by go_simp)).mono ?_
    rintro e w1 ⟨rfl, hb1⟩
    have q1_1_0 : CellF w1 ⟨w.heap.size, 0, none⟩ (.int .i64 lo) := (by refine CellF.keep hb1 ?_; refine ⟨?_, ?_⟩ <;> go_simp)
    have c1_1_0 := q1_1_0.1
    have q1_1_1 : CellF w1 ⟨w.heap.size, 1, none⟩ (.int .i64 hi) := (by refine CellF.keep hb1 ?_; refine ⟨?_, ?_⟩ <;> go_simp)
    have c1_1_1 := q1_1_1.1
    have q1_1_2 : CellF w1 ⟨w.heap.size, 2, none⟩ (.bool k) := (by refine CellF.keep hb1 ?_; refine ⟨?_, ?_⟩ <;> go_simp)
    have c1_1_2 := q1_1_2.1
    have z1_1 : w.heap.size < w1.heap.size := ltc c1_1_0
    have q1_2_0 : CellF w1 ⟨w.heap.size + 1, 0, none⟩ (.int .i64 lo2) := (by refine CellF.keep hb1 ?_; refine ⟨?_, ?_⟩ <;> go_simp)
    have c1_2_0 := q1_2_0.1
    have q1_2_1 : CellF w1 ⟨w.heap.size + 1, 1, none⟩ (.int .i64 hi2) := (by refine CellF.keep hb1 ?_; refine ⟨?_, ?_⟩ <;> go_simp)
    have c1_2_1 := q1_2_1.1
    have q1_2_2 : CellF w1 ⟨w.heap.size + 1, 2, none⟩ (.bool k2) := (by refine CellF.keep hb1 ?_; refine ⟨?_, ?_⟩ <;> go_simp)
    have c1_2_2 := q1_2_2.1
    have z1_2 : w.heap.size + 1 < w1.heap.size := ltc c1_2_0
    have q1_3_0 : CellF w1 ⟨w.heap.size + 1 + 1, 0, none⟩ (.int .i64 0) := (by refine CellF.keep hb1 ?_; refine ⟨?_, ?_⟩ <;> go_simp)
    have c1_3_0 := q1_3_0.1
    have g1_3_0 := q1_3_0.2
    have q1_3_1 : CellF w1 ⟨w.heap.size + 1 + 1, 1, none⟩ (.int .i64 0) := (by refine CellF.keep hb1 ?_; refine ⟨?_, ?_⟩ <;> go_simp)
    have c1_3_1 := q1_3_1.1
    have g1_3_1 := q1_3_1.2
    have q1_3_2 : CellF w1 ⟨w.heap.size + 1 + 1, 2, none⟩ (.bool false) := (by refine CellF.keep hb1 ?_; refine ⟨?_, ?_⟩ <;> go_simp)
    have c1_3_2 := q1_3_2.1
    have g1_3_2 := q1_3_2.2
    have z1_3 : w.heap.size + 1 + 1 < w1.heap.size := ltc c1_3_0
    have HM : Hid (spMade (addP lo lo2) (addP hi hi2) = ⟨x, y, z⟩) := by rw [if_pos trivial] at hp; exact hp
    clear hp
    go_wp2_with fail
    refine (made_add _ _ _ _ _ _ _ HM _).mono ?_
    rintro e w2 ⟨rfl, hb2⟩
    have q2_4_0 : CellF w2 ⟨w.heap.size + 1 + 1, 0, none⟩ (.int .i64 0) := (by first | exact CellF.keep hb2 q1_3_0 | exact CellF.keep hb2 (CellF.past _ q1_3_0) | exact CellF.keep hb2 (CellF.past _ (CellF.past _ q1_3_0)) | exact CellF.keep hb2 (CellF.drewN _ q1_3_0))
    have c2_4_0 := q2_4_0.1
    have g2_4_0 := q2_4_0.2
    have q2_4_1 : CellF w2 ⟨w.heap.size + 1 + 1, 1, none⟩ (.int .i64 0) := (by first | exact CellF.keep hb2 q1_3_1 | exact CellF.keep hb2 (CellF.past _ q1_3_1) | exact CellF.keep hb2 (CellF.past _ (CellF.past _ q1_3_1)) | exact CellF.keep hb2 (CellF.drewN _ q1_3_1))
    have c2_4_1 := q2_4_1.1
    have g2_4_1 := q2_4_1.2
    have q2_4_2 : CellF w2 ⟨w.heap.size + 1 + 1, 2, none⟩ (.bool false) := (by first | exact CellF.keep hb2 q1_3_2 | exact CellF.keep hb2 (CellF.past _ q1_3_2) | exact CellF.keep hb2 (CellF.past _ (CellF.past _ q1_3_2)) | exact CellF.keep hb2 (CellF.drewN _ q1_3_2))
    have c2_4_2 := q2_4_2.1
    have g2_4_2 := q2_4_2.2
    have z2_4 : w.heap.size + 1 + 1 < w2.heap.size := ltc c2_4_0
    go_wp2
    exact bodyPost_ret (v := .agg #[.int .i64 x, .int .i64 y, .bool z]) (by simp [results, Try.results39, go_sem, c2_4_0, c2_4_1, c2_4_2]) rfl ⟨rfl, (by repeat (first | exact brefl _ | refine balloc ?_ _ | refine bdrewN ?_ _ | refine bset ?_ (by dsimp only; omega) _ | refine bstep ?_ (by assumption)))⟩
theorem SpSub_is (lo hi lo2 hi2 x y : Int) (k k2 z : Bool) (H : Hid (spSub ⟨lo, hi, k⟩ ⟨lo2, hi2, k2⟩ = ⟨x, y, z⟩)) (w : World) :
    Calls Try.prog 41 #[.agg #[.int .i64 lo, .int .i64 hi, .bool k], .agg #[.int .i64 lo2, .int .i64 hi2, .bool k2]] w fun e w' => e = .returned (.agg #[.int .i64 x, .int .i64 y, .bool z]) ∧ Below w.heap.size w w' := by
  obtain ⟨q, hq⟩ : ∃ q, (spK ⟨lo, hi, k⟩ && spK ⟨lo2, hi2, k2⟩) = q := ⟨_, rfl⟩
  have hp := H.out
  unfold spSub at hp
  rw [hq] at hp
  have HQ := Lib.hid hq
  clear H hq
  cases q with
  | false =>
    cases hp
    go_enter Try.func41, Try.ntmps41
    go_wp2_with fail
    refine (known2 _ _ _ _ _ _ _ HQ _ _ (by go_simp) (by go_simp) (by go_simp) (by go_simp) (by go_simp) (by go_simp) (by go_simp)).mono ?_
    rintro e w1 ⟨rfl, hb1⟩
    have q1_1_0 : CellF w1 ⟨w.heap.size + 1 + 1, 0, none⟩ (.int .i64 0) := (by refine CellF.keep hb1 ?_; refine ⟨?_, ?_⟩ <;> go_simp)
    have c1_1_0 := q1_1_0.1
    have g1_1_0 := q1_1_0.2
    have q1_1_1 : CellF w1 ⟨w.heap.size + 1 + 1, 1, none⟩ (.int .i64 0) := (by refine CellF.keep hb1 ?_; refine ⟨?_, ?_⟩ <;> go_simp)
    have c1_1_1 := q1_1_1.1
    have g1_1_1 := q1_1_1.2
    have q1_1_2 : CellF w1 ⟨w.heap.size + 1 + 1, 2, none⟩ (.bool false) := (by refine CellF.keep hb1 ?_; refine ⟨?_, ?_⟩ <;> go_simp)
    have c1_1_2 := q1_1_2.1
    have g1_1_2 := q1_1_2.2
    have z1_1 : w.heap.size + 1 + 1 < w1.heap.size := ltc c1_1_0
    go_wp2
    exact bodyPost_ret (v := .agg #[.int .i64 0, .int .i64 0, .bool false]) (by simp [results, Try.results41, go_sem, c1_1_0, c1_1_1, c1_1_2]) rfl ⟨rfl, (by repeat (first | exact brefl _ | refine balloc ?_ _ | refine bdrewN ?_ _ | refine bset ?_ (by dsimp only; omega) _ | refine bstep ?_ (by assumption)))⟩
  | true =>
    go_enter Try.func41, Try.ntmps41
    go_wp2_with fail
    refine (known2 _ _ _ _ _ _ _ HQ _ _ (by go_simp) (by go_simp) (by go_simp) (by go_simp) (by go_simp) (by go_simp) (by go_simp)).mono ?_
    rintro e w1 ⟨rfl, hb1⟩
    have q1_1_0 : CellF w1 ⟨w.heap.size, 0, none⟩ (.int .i64 lo) := (by refine CellF.keep hb1 ?_; refine ⟨?_, ?_⟩ <;> go_simp)
    have c1_1_0 := q1_1_0.1
    have q1_1_1 : CellF w1 ⟨w.heap.size, 1, none⟩ (.int .i64 hi) := (by refine CellF.keep hb1 ?_; refine ⟨?_, ?_⟩ <;> go_simp)
    have c1_1_1 := q1_1_1.1
    have q1_1_2 : CellF w1 ⟨w.heap.size, 2, none⟩ (.bool k) := (by refine CellF.keep hb1 ?_; refine ⟨?_, ?_⟩ <;> go_simp)
    have c1_1_2 := q1_1_2.1
    have z1_1 : w.heap.size < w1.heap.size := ltc c1_1_0
    have q1_2_0 : CellF w1 ⟨w.heap.size + 1, 0, none⟩ (.int .i64 lo2) := (by refine CellF.keep hb1 ?_; refine ⟨?_, ?_⟩ <;> go_simp)
    have c1_2_0 := q1_2_0.1
    have q1_2_1 : CellF w1 ⟨w.heap.size + 1, 1, none⟩ (.int .i64 hi2) := (by refine CellF.keep hb1 ?_; refine ⟨?_, ?_⟩ <;> go_simp)
    have c1_2_1 := q1_2_1.1
    have q1_2_2 : CellF w1 ⟨w.heap.size + 1, 2, none⟩ (.bool k2) := (by refine CellF.keep hb1 ?_; refine ⟨?_, ?_⟩ <;> go_simp)
    have c1_2_2 := q1_2_2.1
    have z1_2 : w.heap.size + 1 < w1.heap.size := ltc c1_2_0
    have q1_3_0 : CellF w1 ⟨w.heap.size + 1 + 1, 0, none⟩ (.int .i64 0) := (by refine CellF.keep hb1 ?_; refine ⟨?_, ?_⟩ <;> go_simp)
    have c1_3_0 := q1_3_0.1
    have g1_3_0 := q1_3_0.2
    have q1_3_1 : CellF w1 ⟨w.heap.size + 1 + 1, 1, none⟩ (.int .i64 0) := (by refine CellF.keep hb1 ?_; refine ⟨?_, ?_⟩ <;> go_simp)
    have c1_3_1 := q1_3_1.1
    have g1_3_1 := q1_3_1.2
    have q1_3_2 : CellF w1 ⟨w.heap.size + 1 + 1, 2, none⟩ (.bool false) := (by refine CellF.keep hb1 ?_; refine ⟨?_, ?_⟩ <;> go_simp)
    have c1_3_2 := q1_3_2.1
    have g1_3_2 := q1_3_2.2
    have z1_3 : w.heap.size + 1 + 1 < w1.heap.size := ltc c1_3_0
    have HM : Hid (spMade (subP lo hi2) (subP hi lo2) = ⟨x, y, z⟩) := by rw [if_pos trivial] at hp; exact hp
    clear hp
    go_wp2_with fail
    refine (made_sub _ _ _ _ _ _ _ HM _).mono ?_
    rintro e w2 ⟨rfl, hb2⟩
    have q2_4_0 : CellF w2 ⟨w.heap.size + 1 + 1, 0, none⟩ (.int .i64 0) := (by first | exact CellF.keep hb2 q1_3_0 | exact CellF.keep hb2 (CellF.past _ q1_3_0) | exact CellF.keep hb2 (CellF.past _ (CellF.past _ q1_3_0)) | exact CellF.keep hb2 (CellF.drewN _ q1_3_0))
    have c2_4_0 := q2_4_0.1
    have g2_4_0 := q2_4_0.2
    have q2_4_1 : CellF w2 ⟨w.heap.size + 1 + 1, 1, none⟩ (.int .i64 0) := (by first | exact CellF.keep hb2 q1_3_1 | exact CellF.keep hb2 (CellF.past _ q1_3_1) | exact CellF.keep hb2 (CellF.past _ (CellF.past _ q1_3_1)) | exact CellF.keep hb2 (CellF.drewN _ q1_3_1))
    have c2_4_1 := q2_4_1.1
    have g2_4_1 := q2_4_1.2
    have q2_4_2 : CellF w2 ⟨w.heap.size + 1 + 1, 2, none⟩ (.bool false) := (by first | exact CellF.keep hb2 q1_3_2 | exact CellF.keep hb2 (CellF.past _ q1_3_2) | exact CellF.keep hb2 (CellF.past _ (CellF.past _ q1_3_2)) | exact CellF.keep hb2 (CellF.drewN _ q1_3_2))
    have c2_4_2 := q2_4_2.1
    have g2_4_2 := q2_4_2.2
    have z2_4 : w.heap.size + 1 + 1 < w2.heap.size := ltc c2_4_0
    go_wp2
    exact bodyPost_ret (v := .agg #[.int .i64 x, .int .i64 y, .bool z]) (by simp [results, Try.results41, go_sem, c2_4_0, c2_4_1, c2_4_2]) rfl ⟨rfl, (by repeat (first | exact brefl _ | refine balloc ?_ _ | refine bdrewN ?_ _ | refine bset ?_ (by dsimp only; omega) _ | refine bstep ?_ (by assumption)))⟩

theorem Shift_is (lo hi n x y : Int) (k z : Bool) (H : Hid (spShift ⟨lo, hi, k⟩ n = ⟨x, y, z⟩)) (w : World) :
    Calls Try.prog 50 #[.agg #[.int .i64 lo, .int .i64 hi, .bool k], .int .i64 n] w fun e w' => e = .returned (.agg #[.int .i64 x, .int .i64 y, .bool z]) ∧ Below w.heap.size w w' := by
  obtain ⟨⟨a, b, c⟩, hm⟩ : ∃ s, spOf n n = s := ⟨_, rfl⟩
  have HA : Hid (spAdd ⟨lo, hi, k⟩ ⟨a, b, c⟩ = ⟨x, y, z⟩) := by have h := H.out; unfold spShift at h; rw [hm] at h; exact h
  have HM := Lib.hid hm
  clear H hm
  have hmf : ∀ (fn : Fn) (first cap : Array Value) (w : World), (Instr.makeFunc fn first cap).run Try.prog w = .ok (.func fn first cap) w := fun _ _ _ _ => rfl
  go_enter Try.func50, Try.ntmps50
  go_wp2_with fail
  refine (Of_is _ _ _ _ _ HM _).mono ?_
  rintro e w1 ⟨rfl, hb1⟩
  have q1_1_0 : CellF w1 ⟨w.heap.size + 1, 0, none⟩ (.int .i64 0) := (by refine CellF.keep hb1 ?_; refine ⟨?_, ?_⟩ <;> go_simp)
  have c1_1_0 := q1_1_0.1
  have g1_1_0 := q1_1_0.2
  have q1_1_1 : CellF w1 ⟨w.heap.size + 1, 1, none⟩ (.int .i64 0) := (by refine CellF.keep hb1 ?_; refine ⟨?_, ?_⟩ <;> go_simp)
  have c1_1_1 := q1_1_1.1
  have g1_1_1 := q1_1_1.2
  have q1_1_2 : CellF w1 ⟨w.heap.size + 1, 2, none⟩ (.bool false) := (by refine CellF.keep hb1 ?_; refine ⟨?_, ?_⟩ <;> go_simp)
  have c1_1_2 := q1_1_2.1
  have g1_1_2 := q1_1_2.2
  have z1_1 : w.heap.size + 1 < w1.heap.size := ltc c1_1_0
  go_wp2_with fail
  refine (SpAdd_is _ _ _ _ _ _ _ _ _ HA _).mono ?_
  rintro e w2 ⟨rfl, hb2⟩
  have q2_2_0 : CellF w2 ⟨w.heap.size + 1, 0, none⟩ (.int .i64 0) := (by first | exact CellF.keep hb2 q1_1_0 | exact CellF.keep hb2 (CellF.past _ q1_1_0) | exact CellF.keep hb2 (CellF.past _ (CellF.past _ q1_1_0)) | exact CellF.keep hb2 (CellF.drewN _ q1_1_0))
  have c2_2_0 := q2_2_0.1
  have g2_2_0 := q2_2_0.2
  have q2_2_1 : CellF w2 ⟨w.heap.size + 1, 1, none⟩ (.int .i64 0) := (by first | exact CellF.keep hb2 q1_1_1 | exact CellF.keep hb2 (CellF.past _ q1_1_1) | exact CellF.keep hb2 (CellF.past _ (CellF.past _ q1_1_1)) | exact CellF.keep hb2 (CellF.drewN _ q1_1_1))
  have c2_2_1 := q2_2_1.1
  have g2_2_1 := q2_2_1.2
  have q2_2_2 : CellF w2 ⟨w.heap.size + 1, 2, none⟩ (.bool false) := (by first | exact CellF.keep hb2 q1_1_2 | exact CellF.keep hb2 (CellF.past _ q1_1_2) | exact CellF.keep hb2 (CellF.past _ (CellF.past _ q1_1_2)) | exact CellF.keep hb2 (CellF.drewN _ q1_1_2))
  have c2_2_2 := q2_2_2.1
  have g2_2_2 := q2_2_2.2
  have z2_2 : w.heap.size + 1 < w2.heap.size := ltc c2_2_0
  go_wp2
  exact bodyPost_ret (v := .agg #[.int .i64 x, .int .i64 y, .bool z]) (by simp [results, Try.results50, go_sem, c2_2_0, c2_2_1, c2_2_2]) rfl ⟨rfl, (by repeat (first | exact brefl _ | refine balloc ?_ _ | refine bdrewN ?_ _ | refine bset ?_ (by dsimp only; omega) _ | refine bstep ?_ (by assumption)))⟩
end Go.Proofs.Ytnphbdhcoiaklaa
namespace Go.Proofs.Ytnphbdhcoiaklaa
open Go.RowKit

set_option maxHeartbeats 400000 in
theorem Wider_yes (lo hi low high x y : Int) (k z : Bool) (h1 : 0 ≤ low) (h2 : 0 ≤ high) (h3 : (smallB low && smallB high) = true) (H : Hid (spAdd ⟨lo, hi, k⟩ (spOf (-low) high) = ⟨x, y, z⟩)) (w : World) :
    Calls Try.prog 58 #[.agg #[.int .i64 lo, .int .i64 hi, .bool k], .int .i64 low, .int .i64 high] w fun e w' => e = .returned (.agg #[.int .i64 x, .int .i64 y, .bool z]) ∧ Below w.heap.size w w' := by
  obtain ⟨⟨a, b, c⟩, hm⟩ : ∃ s, spOf (-low) high = s := ⟨_, rfl⟩
  have HA : Hid (spAdd ⟨lo, hi, k⟩ ⟨a, b, c⟩ = ⟨x, y, z⟩) := by have h := H.out; rw [hm] at h; exact h
  have HM := Lib.hid hm
  have hl := smallB_iff.1 (Bool.and_eq_true_iff.1 h3).1
  clear H hm
  go_enter Try.func58, Try.ntmps58
  have hneg : IntKind.i64.wrap (-low) = -low := by rw [IntWalk.i64_left]; exact IntWalk.wrap64_in _ (by omega)
  go_wp2_with fail
  refine (small2b low high _ h3 _ _ (by go_simp) (by go_simp)).mono ?_
  rintro e w1 ⟨rfl, hb1⟩
  have q1_1_0 : CellF w1 ⟨w.heap.size, 0, none⟩ (.int .i64 lo) := (by refine CellF.keep hb1 ?_; refine ⟨?_, ?_⟩ <;> go_simp)
  have c1_1_0 := q1_1_0.1
  have q1_1_1 : CellF w1 ⟨w.heap.size, 1, none⟩ (.int .i64 hi) := (by refine CellF.keep hb1 ?_; refine ⟨?_, ?_⟩ <;> go_simp)
  have c1_1_1 := q1_1_1.1
  have q1_1_2 : CellF w1 ⟨w.heap.size, 2, none⟩ (.bool k) := (by refine CellF.keep hb1 ?_; refine ⟨?_, ?_⟩ <;> go_simp)
  have c1_1_2 := q1_1_2.1
  have z1_1 : w.heap.size < w1.heap.size := ltc c1_1_0
  have q1_2_0 : CellF w1 ⟨w.heap.size + 1, 0, none⟩ (.int .i64 0) := (by refine CellF.keep hb1 ?_; refine ⟨?_, ?_⟩ <;> go_simp)
  have c1_2_0 := q1_2_0.1
  have g1_2_0 := q1_2_0.2
  have q1_2_1 : CellF w1 ⟨w.heap.size + 1, 1, none⟩ (.int .i64 0) := (by refine CellF.keep hb1 ?_; refine ⟨?_, ?_⟩ <;> go_simp)
  have c1_2_1 := q1_2_1.1
  have g1_2_1 := q1_2_1.2
  have q1_2_2 : CellF w1 ⟨w.heap.size + 1, 2, none⟩ (.bool false) := (by refine CellF.keep hb1 ?_; refine ⟨?_, ?_⟩ <;> go_simp)
  have c1_2_2 := q1_2_2.1
  have g1_2_2 := q1_2_2.2
  have z1_2 : w.heap.size + 1 < w1.heap.size := ltc c1_2_0
  go_wp2_with fail
  go_region_held3 (fun w' => w'.cell? ⟨w.heap.size, 0, none⟩ = some (.int .i64 lo) ∧ w'.cell? ⟨w.heap.size, 1, none⟩ = some (.int .i64 hi) ∧ w'.cell? ⟨w.heap.size, 2, none⟩ = some (.bool k))
    (go_keep)
    (first | (go_at_call 64; ((with_reducible refine (Of_is _ _ _ _ _ HM _).mono ?_)); rintro e w2 ⟨rfl, hb2⟩; have s0 := keepc hb2 c1_1_0; have s1 := keepc hb2 c1_1_1; have s2 := keepc hb2 c1_1_2; have r0 := CellF.keep hb2 q1_2_0.drew; have r1 := CellF.keep hb2 q1_2_1.drew; have r2 := CellF.keep hb2 q1_2_2.drew) | (go_at_call 39; ((with_reducible refine (SpAdd_is _ _ _ _ _ _ _ _ _ HA _).mono ?_)); rintro e w3 ⟨rfl, hb3⟩; have s3 := keepc hb3 s0; have s4 := keepc hb3 s1; have s5 := keepc hb3 s2; have r3 := CellF.keep hb3 r0; have r4 := CellF.keep hb3 r1; have r5 := CellF.keep hb3 r2; have c3 := r3.1; have c4 := r4.1; have c5 := r5.1; have g3 := r3.2; have g4 := r4.2; have g5 := r5.2; have z3 := ltc c3))
  go_wp2
  exact bodyPost_ret (v := .agg #[.int .i64 x, .int .i64 y, .bool z]) (by simp [results, Try.results58, go_sem, c3, c4, c5]) rfl ⟨rfl, (by repeat (first | exact brefl _ | refine balloc ?_ _ | refine bdrewN ?_ _ | refine bset ?_ (by dsimp only; omega) _ | refine bstep ?_ (by assumption)))⟩

theorem Wider_is (lo hi low high x y : Int) (k z : Bool) (H : Hid (spWider ⟨lo, hi, k⟩ low high = ⟨x, y, z⟩)) (w : World) :
    Calls Try.prog 58 #[.agg #[.int .i64 lo, .int .i64 hi, .bool k], .int .i64 low, .int .i64 high] w fun e w' => e = .returned (.agg #[.int .i64 x, .int .i64 y, .bool z]) ∧ Below w.heap.size w w' := by
  by_cases h1 : low < 0
  · have h : spNo = ⟨x, y, z⟩ := by rw [← H.out]; unfold spWider; rw [if_pos (.inl h1)]
    cases h
    clear H
    go_enter Try.func58, Try.ntmps58
    go_wp2
    exact bodyPost_ret (v := .agg #[.int .i64 0, .int .i64 0, .bool false]) (by simp [results, Try.results58, go_sem]) rfl ⟨rfl, (by repeat (first | exact brefl _ | refine balloc ?_ _ | refine bdrewN ?_ _ | refine bset ?_ (by dsimp only; omega) _ | refine bstep ?_ (by assumption)))⟩
  · by_cases h2 : high < 0
    · have h : spNo = ⟨x, y, z⟩ := by rw [← H.out]; unfold spWider; rw [if_pos (.inr (.inl h2))]
      cases h
      clear H
      go_enter Try.func58, Try.ntmps58
      go_wp2
      exact bodyPost_ret (v := .agg #[.int .i64 0, .int .i64 0, .bool false]) (by simp [results, Try.results58, go_sem]) rfl ⟨rfl, (by repeat (first | exact brefl _ | refine balloc ?_ _ | refine bdrewN ?_ _ | refine bset ?_ (by dsimp only; omega) _ | refine bstep ?_ (by assumption)))⟩
    · cases h3 : (smallB low && smallB high) with
      | false =>
        have h : spNo = ⟨x, y, z⟩ := by rw [← H.out]; unfold spWider; rw [if_pos (.inr (.inr h3))]
        cases h
        clear H
        go_enter Try.func58, Try.ntmps58
        go_wp2_with fail
        refine (small2 low high _ h3 _ _ (by go_simp) (by go_simp)).mono ?_
        rintro e w1 ⟨rfl, rfl⟩
        go_wp2
        exact bodyPost_ret (v := .agg #[.int .i64 0, .int .i64 0, .bool false]) (by simp [results, Try.results58, go_sem]) rfl ⟨rfl, (by repeat (first | exact brefl _ | refine balloc ?_ _ | refine bdrewN ?_ _ | refine bset ?_ (by dsimp only; omega) _ | refine bstep ?_ (by assumption)))⟩
      | true =>
        refine Wider_yes lo hi low high x y k z (by omega) (by omega) h3 ?_ w
        have h := H.out
        unfold spWider at h
        rw [if_neg (by rw [h3]; simp; omega)] at h
        exact h
end Go.Proofs.Ytnphbdhcoiaklaa
namespace Go.Proofs.Ytnphbdhcoiaklaa
open Go.RowKit

set_option maxHeartbeats 1000000 in
theorem Meet_is (lo hi lo2 hi2 x y : Int) (k k2 z : Bool) (H : Hid (spMeet ⟨lo, hi, k⟩ ⟨lo2, hi2, k2⟩ = ⟨x, y, z⟩)) (w : World) :
    Calls Try.prog 43 #[.agg #[.int .i64 lo, .int .i64 hi, .bool k], .agg #[.int .i64 lo2, .int .i64 hi2, .bool k2]] w fun e w' => e = .returned (.agg #[.int .i64 x, .int .i64 y, .bool z]) ∧ Below w.heap.size w w' := by
  obtain ⟨q, hq⟩ : ∃ q, spK ⟨lo, hi, k⟩ = q := ⟨_, rfl⟩
  obtain ⟨r, hr⟩ : ∃ q, spK ⟨lo2, hi2, k2⟩ = q := ⟨_, rfl⟩
  have hp := H.out
  unfold spMeet at hp
  rw [hq, hr] at hp
  have HQ := Lib.hid hq
  have HR := Lib.hid hr
  clear H hq hr
  cases q with
  | false =>
    cases r with
    | false =>
      cases hp
      go_enter Try.func43, Try.ntmps43
      go_wp2_with fail
      refine (known1 _ _ _ _ HQ _ _ (by go_simp) (by go_simp) (by go_simp)).mono ?_
      rintro e w1 ⟨rfl, hb1⟩
      have q1_1_0 : CellF w1 ⟨w.heap.size, 0, none⟩ (.int .i64 lo) := (by refine CellF.keep hb1 ?_; refine ⟨?_, ?_⟩ <;> go_simp)
      have c1_1_0 := q1_1_0.1
      have q1_1_1 : CellF w1 ⟨w.heap.size, 1, none⟩ (.int .i64 hi) := (by refine CellF.keep hb1 ?_; refine ⟨?_, ?_⟩ <;> go_simp)
      have c1_1_1 := q1_1_1.1
      have q1_1_2 : CellF w1 ⟨w.heap.size, 2, none⟩ (.bool k) := (by refine CellF.keep hb1 ?_; refine ⟨?_, ?_⟩ <;> go_simp)
      have c1_1_2 := q1_1_2.1
      have z1_1 : w.heap.size < w1.heap.size := ltc c1_1_0
      have q1_2_0 : CellF w1 ⟨w.heap.size + 1, 0, none⟩ (.int .i64 lo2) := (by refine CellF.keep hb1 ?_; refine ⟨?_, ?_⟩ <;> go_simp)
      have c1_2_0 := q1_2_0.1
      have q1_2_1 : CellF w1 ⟨w.heap.size + 1, 1, none⟩ (.int .i64 hi2) := (by refine CellF.keep hb1 ?_; refine ⟨?_, ?_⟩ <;> go_simp)
      have c1_2_1 := q1_2_1.1
      have q1_2_2 : CellF w1 ⟨w.heap.size + 1, 2, none⟩ (.bool k2) := (by refine CellF.keep hb1 ?_; refine ⟨?_, ?_⟩ <;> go_simp)
      have c1_2_2 := q1_2_2.1
      have z1_2 : w.heap.size + 1 < w1.heap.size := ltc c1_2_0
      have q1_3_0 : CellF w1 ⟨w.heap.size + 1 + 1, 0, none⟩ (.int .i64 0) := (by refine CellF.keep hb1 ?_; refine ⟨?_, ?_⟩ <;> go_simp)
      have c1_3_0 := q1_3_0.1
      have g1_3_0 := q1_3_0.2
      have q1_3_1 : CellF w1 ⟨w.heap.size + 1 + 1, 1, none⟩ (.int .i64 0) := (by refine CellF.keep hb1 ?_; refine ⟨?_, ?_⟩ <;> go_simp)
      have c1_3_1 := q1_3_1.1
      have g1_3_1 := q1_3_1.2
      have q1_3_2 : CellF w1 ⟨w.heap.size + 1 + 1, 2, none⟩ (.bool false) := (by refine CellF.keep hb1 ?_; refine ⟨?_, ?_⟩ <;> go_simp)
      have c1_3_2 := q1_3_2.1
      have g1_3_2 := q1_3_2.2
      have z1_3 : w.heap.size + 1 + 1 < w1.heap.size := ltc c1_3_0
      go_wp2_with fail
      refine (known1 _ _ _ _ HR _ _ (by go_simp) (by go_simp) (by go_simp)).mono ?_
      rintro e w2 ⟨rfl, hb2⟩
      have q2_4_0 : CellF w2 ⟨w.heap.size, 0, none⟩ (.int .i64 lo) := (by first | exact CellF.keep hb2 q1_1_0 | exact CellF.keep hb2 (CellF.past _ q1_1_0) | exact CellF.keep hb2 (CellF.past _ (CellF.past _ q1_1_0)) | exact CellF.keep hb2 (CellF.drewN _ q1_1_0))
      have c2_4_0 := q2_4_0.1
      have q2_4_1 : CellF w2 ⟨w.heap.size, 1, none⟩ (.int .i64 hi) := (by first | exact CellF.keep hb2 q1_1_1 | exact CellF.keep hb2 (CellF.past _ q1_1_1) | exact CellF.keep hb2 (CellF.past _ (CellF.past _ q1_1_1)) | exact CellF.keep hb2 (CellF.drewN _ q1_1_1))
      have c2_4_1 := q2_4_1.1
      have q2_4_2 : CellF w2 ⟨w.heap.size, 2, none⟩ (.bool k) := (by first | exact CellF.keep hb2 q1_1_2 | exact CellF.keep hb2 (CellF.past _ q1_1_2) | exact CellF.keep hb2 (CellF.past _ (CellF.past _ q1_1_2)) | exact CellF.keep hb2 (CellF.drewN _ q1_1_2))
      have c2_4_2 := q2_4_2.1
      have z2_4 : w.heap.size < w2.heap.size := ltc c2_4_0
      have q2_5_0 : CellF w2 ⟨w.heap.size + 1, 0, none⟩ (.int .i64 lo2) := (by first | exact CellF.keep hb2 q1_2_0 | exact CellF.keep hb2 (CellF.past _ q1_2_0) | exact CellF.keep hb2 (CellF.past _ (CellF.past _ q1_2_0)) | exact CellF.keep hb2 (CellF.drewN _ q1_2_0))
      have c2_5_0 := q2_5_0.1
      have q2_5_1 : CellF w2 ⟨w.heap.size + 1, 1, none⟩ (.int .i64 hi2) := (by first | exact CellF.keep hb2 q1_2_1 | exact CellF.keep hb2 (CellF.past _ q1_2_1) | exact CellF.keep hb2 (CellF.past _ (CellF.past _ q1_2_1)) | exact CellF.keep hb2 (CellF.drewN _ q1_2_1))
      have c2_5_1 := q2_5_1.1
      have q2_5_2 : CellF w2 ⟨w.heap.size + 1, 2, none⟩ (.bool k2) := (by first | exact CellF.keep hb2 q1_2_2 | exact CellF.keep hb2 (CellF.past _ q1_2_2) | exact CellF.keep hb2 (CellF.past _ (CellF.past _ q1_2_2)) | exact CellF.keep hb2 (CellF.drewN _ q1_2_2))
      have c2_5_2 := q2_5_2.1
      have z2_5 : w.heap.size + 1 < w2.heap.size := ltc c2_5_0
      have q2_6_0 : CellF w2 ⟨w.heap.size + 1 + 1, 0, none⟩ (.int .i64 0) := (by first | exact CellF.keep hb2 q1_3_0 | exact CellF.keep hb2 (CellF.past _ q1_3_0) | exact CellF.keep hb2 (CellF.past _ (CellF.past _ q1_3_0)) | exact CellF.keep hb2 (CellF.drewN _ q1_3_0))
      have c2_6_0 := q2_6_0.1
      have g2_6_0 := q2_6_0.2
      have q2_6_1 : CellF w2 ⟨w.heap.size + 1 + 1, 1, none⟩ (.int .i64 0) := (by first | exact CellF.keep hb2 q1_3_1 | exact CellF.keep hb2 (CellF.past _ q1_3_1) | exact CellF.keep hb2 (CellF.past _ (CellF.past _ q1_3_1)) | exact CellF.keep hb2 (CellF.drewN _ q1_3_1))
      have c2_6_1 := q2_6_1.1
      have g2_6_1 := q2_6_1.2
      have q2_6_2 : CellF w2 ⟨w.heap.size + 1 + 1, 2, none⟩ (.bool false) := (by first | exact CellF.keep hb2 q1_3_2 | exact CellF.keep hb2 (CellF.past _ q1_3_2) | exact CellF.keep hb2 (CellF.past _ (CellF.past _ q1_3_2)) | exact CellF.keep hb2 (CellF.drewN _ q1_3_2))
      have c2_6_2 := q2_6_2.1
      have g2_6_2 := q2_6_2.2
      have z2_6 : w.heap.size + 1 + 1 < w2.heap.size := ltc c2_6_0
      go_wp2
      exact bodyPost_ret (v := .agg #[.int .i64 0, .int .i64 0, .bool false]) (by simp [results, Try.results43, go_sem, c2_6_0, c2_6_1, c2_6_2]) rfl ⟨rfl, (by repeat (first | exact brefl _ | refine balloc ?_ _ | refine bdrewN ?_ _ | refine bset ?_ (by dsimp only; omega) _ | refine bstep ?_ (by assumption)))⟩
    | true =>
      cases hp
      go_enter Try.func43, Try.ntmps43
      go_wp2_with fail
      refine (known1 _ _ _ _ HQ _ _ (by go_simp) (by go_simp) (by go_simp)).mono ?_
      rintro e w1 ⟨rfl, hb1⟩
      have q1_1_0 : CellF w1 ⟨w.heap.size, 0, none⟩ (.int .i64 lo) := (by refine CellF.keep hb1 ?_; refine ⟨?_, ?_⟩ <;> go_simp)
      have c1_1_0 := q1_1_0.1
      have q1_1_1 : CellF w1 ⟨w.heap.size, 1, none⟩ (.int .i64 hi) := (by refine CellF.keep hb1 ?_; refine ⟨?_, ?_⟩ <;> go_simp)
      have c1_1_1 := q1_1_1.1
      have q1_1_2 : CellF w1 ⟨w.heap.size, 2, none⟩ (.bool k) := (by refine CellF.keep hb1 ?_; refine ⟨?_, ?_⟩ <;> go_simp)
      have c1_1_2 := q1_1_2.1
      have z1_1 : w.heap.size < w1.heap.size := ltc c1_1_0
      have q1_2_0 : CellF w1 ⟨w.heap.size + 1, 0, none⟩ (.int .i64 lo2) := (by refine CellF.keep hb1 ?_; refine ⟨?_, ?_⟩ <;> go_simp)
      have c1_2_0 := q1_2_0.1
      have q1_2_1 : CellF w1 ⟨w.heap.size + 1, 1, none⟩ (.int .i64 hi2) := (by refine CellF.keep hb1 ?_; refine ⟨?_, ?_⟩ <;> go_simp)
      have c1_2_1 := q1_2_1.1
      have q1_2_2 : CellF w1 ⟨w.heap.size + 1, 2, none⟩ (.bool k2) := (by refine CellF.keep hb1 ?_; refine ⟨?_, ?_⟩ <;> go_simp)
      have c1_2_2 := q1_2_2.1
      have z1_2 : w.heap.size + 1 < w1.heap.size := ltc c1_2_0
      have q1_3_0 : CellF w1 ⟨w.heap.size + 1 + 1, 0, none⟩ (.int .i64 0) := (by refine CellF.keep hb1 ?_; refine ⟨?_, ?_⟩ <;> go_simp)
      have c1_3_0 := q1_3_0.1
      have g1_3_0 := q1_3_0.2
      have q1_3_1 : CellF w1 ⟨w.heap.size + 1 + 1, 1, none⟩ (.int .i64 0) := (by refine CellF.keep hb1 ?_; refine ⟨?_, ?_⟩ <;> go_simp)
      have c1_3_1 := q1_3_1.1
      have g1_3_1 := q1_3_1.2
      have q1_3_2 : CellF w1 ⟨w.heap.size + 1 + 1, 2, none⟩ (.bool false) := (by refine CellF.keep hb1 ?_; refine ⟨?_, ?_⟩ <;> go_simp)
      have c1_3_2 := q1_3_2.1
      have g1_3_2 := q1_3_2.2
      have z1_3 : w.heap.size + 1 + 1 < w1.heap.size := ltc c1_3_0
      go_wp2_with fail
      refine (known1 _ _ _ _ HR _ _ (by go_simp) (by go_simp) (by go_simp)).mono ?_
      rintro e w2 ⟨rfl, hb2⟩
      have q2_4_0 : CellF w2 ⟨w.heap.size, 0, none⟩ (.int .i64 lo) := (by first | exact CellF.keep hb2 q1_1_0 | exact CellF.keep hb2 (CellF.past _ q1_1_0) | exact CellF.keep hb2 (CellF.past _ (CellF.past _ q1_1_0)) | exact CellF.keep hb2 (CellF.drewN _ q1_1_0))
      have c2_4_0 := q2_4_0.1
      have q2_4_1 : CellF w2 ⟨w.heap.size, 1, none⟩ (.int .i64 hi) := (by first | exact CellF.keep hb2 q1_1_1 | exact CellF.keep hb2 (CellF.past _ q1_1_1) | exact CellF.keep hb2 (CellF.past _ (CellF.past _ q1_1_1)) | exact CellF.keep hb2 (CellF.drewN _ q1_1_1))
      have c2_4_1 := q2_4_1.1
      have q2_4_2 : CellF w2 ⟨w.heap.size, 2, none⟩ (.bool k) := (by first | exact CellF.keep hb2 q1_1_2 | exact CellF.keep hb2 (CellF.past _ q1_1_2) | exact CellF.keep hb2 (CellF.past _ (CellF.past _ q1_1_2)) | exact CellF.keep hb2 (CellF.drewN _ q1_1_2))
      have c2_4_2 := q2_4_2.1
      have z2_4 : w.heap.size < w2.heap.size := ltc c2_4_0
      have q2_5_0 : CellF w2 ⟨w.heap.size + 1, 0, none⟩ (.int .i64 lo2) := (by first | exact CellF.keep hb2 q1_2_0 | exact CellF.keep hb2 (CellF.past _ q1_2_0) | exact CellF.keep hb2 (CellF.past _ (CellF.past _ q1_2_0)) | exact CellF.keep hb2 (CellF.drewN _ q1_2_0))
      have c2_5_0 := q2_5_0.1
      have q2_5_1 : CellF w2 ⟨w.heap.size + 1, 1, none⟩ (.int .i64 hi2) := (by first | exact CellF.keep hb2 q1_2_1 | exact CellF.keep hb2 (CellF.past _ q1_2_1) | exact CellF.keep hb2 (CellF.past _ (CellF.past _ q1_2_1)) | exact CellF.keep hb2 (CellF.drewN _ q1_2_1))
      have c2_5_1 := q2_5_1.1
      have q2_5_2 : CellF w2 ⟨w.heap.size + 1, 2, none⟩ (.bool k2) := (by first | exact CellF.keep hb2 q1_2_2 | exact CellF.keep hb2 (CellF.past _ q1_2_2) | exact CellF.keep hb2 (CellF.past _ (CellF.past _ q1_2_2)) | exact CellF.keep hb2 (CellF.drewN _ q1_2_2))
      have c2_5_2 := q2_5_2.1
      have z2_5 : w.heap.size + 1 < w2.heap.size := ltc c2_5_0
      have q2_6_0 : CellF w2 ⟨w.heap.size + 1 + 1, 0, none⟩ (.int .i64 0) := (by first | exact CellF.keep hb2 q1_3_0 | exact CellF.keep hb2 (CellF.past _ q1_3_0) | exact CellF.keep hb2 (CellF.past _ (CellF.past _ q1_3_0)) | exact CellF.keep hb2 (CellF.drewN _ q1_3_0))
      have c2_6_0 := q2_6_0.1
      have g2_6_0 := q2_6_0.2
      have q2_6_1 : CellF w2 ⟨w.heap.size + 1 + 1, 1, none⟩ (.int .i64 0) := (by first | exact CellF.keep hb2 q1_3_1 | exact CellF.keep hb2 (CellF.past _ q1_3_1) | exact CellF.keep hb2 (CellF.past _ (CellF.past _ q1_3_1)) | exact CellF.keep hb2 (CellF.drewN _ q1_3_1))
      have c2_6_1 := q2_6_1.1
      have g2_6_1 := q2_6_1.2
      have q2_6_2 : CellF w2 ⟨w.heap.size + 1 + 1, 2, none⟩ (.bool false) := (by first | exact CellF.keep hb2 q1_3_2 | exact CellF.keep hb2 (CellF.past _ q1_3_2) | exact CellF.keep hb2 (CellF.past _ (CellF.past _ q1_3_2)) | exact CellF.keep hb2 (CellF.drewN _ q1_3_2))
      have c2_6_2 := q2_6_2.1
      have g2_6_2 := q2_6_2.2
      have z2_6 : w.heap.size + 1 + 1 < w2.heap.size := ltc c2_6_0
      go_wp2_with fail
      refine (known1 _ _ _ _ HQ _ _ (by go_simp) (by go_simp) (by go_simp)).mono ?_
      rintro e w3 ⟨rfl, hb3⟩
      have q3_7_0 : CellF w3 ⟨w.heap.size, 0, none⟩ (.int .i64 lo) := (by first | exact CellF.keep hb3 q2_4_0 | exact CellF.keep hb3 (CellF.past _ q2_4_0) | exact CellF.keep hb3 (CellF.past _ (CellF.past _ q2_4_0)) | exact CellF.keep hb3 (CellF.drewN _ q2_4_0))
      have c3_7_0 := q3_7_0.1
      have q3_7_1 : CellF w3 ⟨w.heap.size, 1, none⟩ (.int .i64 hi) := (by first | exact CellF.keep hb3 q2_4_1 | exact CellF.keep hb3 (CellF.past _ q2_4_1) | exact CellF.keep hb3 (CellF.past _ (CellF.past _ q2_4_1)) | exact CellF.keep hb3 (CellF.drewN _ q2_4_1))
      have c3_7_1 := q3_7_1.1
      have q3_7_2 : CellF w3 ⟨w.heap.size, 2, none⟩ (.bool k) := (by first | exact CellF.keep hb3 q2_4_2 | exact CellF.keep hb3 (CellF.past _ q2_4_2) | exact CellF.keep hb3 (CellF.past _ (CellF.past _ q2_4_2)) | exact CellF.keep hb3 (CellF.drewN _ q2_4_2))
      have c3_7_2 := q3_7_2.1
      have z3_7 : w.heap.size < w3.heap.size := ltc c3_7_0
      have q3_8_0 : CellF w3 ⟨w.heap.size + 1, 0, none⟩ (.int .i64 lo2) := (by first | exact CellF.keep hb3 q2_5_0 | exact CellF.keep hb3 (CellF.past _ q2_5_0) | exact CellF.keep hb3 (CellF.past _ (CellF.past _ q2_5_0)) | exact CellF.keep hb3 (CellF.drewN _ q2_5_0))
      have c3_8_0 := q3_8_0.1
      have q3_8_1 : CellF w3 ⟨w.heap.size + 1, 1, none⟩ (.int .i64 hi2) := (by first | exact CellF.keep hb3 q2_5_1 | exact CellF.keep hb3 (CellF.past _ q2_5_1) | exact CellF.keep hb3 (CellF.past _ (CellF.past _ q2_5_1)) | exact CellF.keep hb3 (CellF.drewN _ q2_5_1))
      have c3_8_1 := q3_8_1.1
      have q3_8_2 : CellF w3 ⟨w.heap.size + 1, 2, none⟩ (.bool k2) := (by first | exact CellF.keep hb3 q2_5_2 | exact CellF.keep hb3 (CellF.past _ q2_5_2) | exact CellF.keep hb3 (CellF.past _ (CellF.past _ q2_5_2)) | exact CellF.keep hb3 (CellF.drewN _ q2_5_2))
      have c3_8_2 := q3_8_2.1
      have z3_8 : w.heap.size + 1 < w3.heap.size := ltc c3_8_0
      have q3_9_0 : CellF w3 ⟨w.heap.size + 1 + 1, 0, none⟩ (.int .i64 0) := (by first | exact CellF.keep hb3 q2_6_0 | exact CellF.keep hb3 (CellF.past _ q2_6_0) | exact CellF.keep hb3 (CellF.past _ (CellF.past _ q2_6_0)) | exact CellF.keep hb3 (CellF.drewN _ q2_6_0))
      have c3_9_0 := q3_9_0.1
      have g3_9_0 := q3_9_0.2
      have q3_9_1 : CellF w3 ⟨w.heap.size + 1 + 1, 1, none⟩ (.int .i64 0) := (by first | exact CellF.keep hb3 q2_6_1 | exact CellF.keep hb3 (CellF.past _ q2_6_1) | exact CellF.keep hb3 (CellF.past _ (CellF.past _ q2_6_1)) | exact CellF.keep hb3 (CellF.drewN _ q2_6_1))
      have c3_9_1 := q3_9_1.1
      have g3_9_1 := q3_9_1.2
      have q3_9_2 : CellF w3 ⟨w.heap.size + 1 + 1, 2, none⟩ (.bool false) := (by first | exact CellF.keep hb3 q2_6_2 | exact CellF.keep hb3 (CellF.past _ q2_6_2) | exact CellF.keep hb3 (CellF.past _ (CellF.past _ q2_6_2)) | exact CellF.keep hb3 (CellF.drewN _ q2_6_2))
      have c3_9_2 := q3_9_2.1
      have g3_9_2 := q3_9_2.2
      have z3_9 : w.heap.size + 1 + 1 < w3.heap.size := ltc c3_9_0
      go_wp2
      exact bodyPost_ret (v := .agg #[.int .i64 lo2, .int .i64 hi2, .bool k2]) (by simp [results, Try.results43, go_sem, c3_9_0, c3_9_1, c3_9_2]) rfl ⟨rfl, (by repeat (first | exact brefl _ | refine balloc ?_ _ | refine bdrewN ?_ _ | refine bset ?_ (by dsimp only; omega) _ | refine bstep ?_ (by assumption)))⟩
  | true =>
    cases r with
    | false =>
      cases hp
      go_enter Try.func43, Try.ntmps43
      go_wp2_with fail
      refine (known1 _ _ _ _ HQ _ _ (by go_simp) (by go_simp) (by go_simp)).mono ?_
      rintro e w1 ⟨rfl, hb1⟩
      have q1_1_0 : CellF w1 ⟨w.heap.size, 0, none⟩ (.int .i64 lo) := (by refine CellF.keep hb1 ?_; refine ⟨?_, ?_⟩ <;> go_simp)
      have c1_1_0 := q1_1_0.1
      have q1_1_1 : CellF w1 ⟨w.heap.size, 1, none⟩ (.int .i64 hi) := (by refine CellF.keep hb1 ?_; refine ⟨?_, ?_⟩ <;> go_simp)
      have c1_1_1 := q1_1_1.1
      have q1_1_2 : CellF w1 ⟨w.heap.size, 2, none⟩ (.bool k) := (by refine CellF.keep hb1 ?_; refine ⟨?_, ?_⟩ <;> go_simp)
      have c1_1_2 := q1_1_2.1
      have z1_1 : w.heap.size < w1.heap.size := ltc c1_1_0
      have q1_2_0 : CellF w1 ⟨w.heap.size + 1, 0, none⟩ (.int .i64 lo2) := (by refine CellF.keep hb1 ?_; refine ⟨?_, ?_⟩ <;> go_simp)
      have c1_2_0 := q1_2_0.1
      have q1_2_1 : CellF w1 ⟨w.heap.size + 1, 1, none⟩ (.int .i64 hi2) := (by refine CellF.keep hb1 ?_; refine ⟨?_, ?_⟩ <;> go_simp)
      have c1_2_1 := q1_2_1.1
      have q1_2_2 : CellF w1 ⟨w.heap.size + 1, 2, none⟩ (.bool k2) := (by refine CellF.keep hb1 ?_; refine ⟨?_, ?_⟩ <;> go_simp)
      have c1_2_2 := q1_2_2.1
      have z1_2 : w.heap.size + 1 < w1.heap.size := ltc c1_2_0
      have q1_3_0 : CellF w1 ⟨w.heap.size + 1 + 1, 0, none⟩ (.int .i64 0) := (by refine CellF.keep hb1 ?_; refine ⟨?_, ?_⟩ <;> go_simp)
      have c1_3_0 := q1_3_0.1
      have g1_3_0 := q1_3_0.2
      have q1_3_1 : CellF w1 ⟨w.heap.size + 1 + 1, 1, none⟩ (.int .i64 0) := (by refine CellF.keep hb1 ?_; refine ⟨?_, ?_⟩ <;> go_simp)
      have c1_3_1 := q1_3_1.1
      have g1_3_1 := q1_3_1.2
      have q1_3_2 : CellF w1 ⟨w.heap.size + 1 + 1, 2, none⟩ (.bool false) := (by refine CellF.keep hb1 ?_; refine ⟨?_, ?_⟩ <;> go_simp)
      have c1_3_2 := q1_3_2.1
      have g1_3_2 := q1_3_2.2
      have z1_3 : w.heap.size + 1 + 1 < w1.heap.size := ltc c1_3_0
      go_wp2_with fail
      refine (known1 _ _ _ _ HQ _ _ (by go_simp) (by go_simp) (by go_simp)).mono ?_
      rintro e w2 ⟨rfl, hb2⟩
      have q2_4_0 : CellF w2 ⟨w.heap.size, 0, none⟩ (.int .i64 lo) := (by first | exact CellF.keep hb2 q1_1_0 | exact CellF.keep hb2 (CellF.past _ q1_1_0) | exact CellF.keep hb2 (CellF.past _ (CellF.past _ q1_1_0)) | exact CellF.keep hb2 (CellF.drewN _ q1_1_0))
      have c2_4_0 := q2_4_0.1
      have q2_4_1 : CellF w2 ⟨w.heap.size, 1, none⟩ (.int .i64 hi) := (by first | exact CellF.keep hb2 q1_1_1 | exact CellF.keep hb2 (CellF.past _ q1_1_1) | exact CellF.keep hb2 (CellF.past _ (CellF.past _ q1_1_1)) | exact CellF.keep hb2 (CellF.drewN _ q1_1_1))
      have c2_4_1 := q2_4_1.1
      have q2_4_2 : CellF w2 ⟨w.heap.size, 2, none⟩ (.bool k) := (by first | exact CellF.keep hb2 q1_1_2 | exact CellF.keep hb2 (CellF.past _ q1_1_2) | exact CellF.keep hb2 (CellF.past _ (CellF.past _ q1_1_2)) | exact CellF.keep hb2 (CellF.drewN _ q1_1_2))
      have c2_4_2 := q2_4_2.1
      have z2_4 : w.heap.size < w2.heap.size := ltc c2_4_0
      have q2_5_0 : CellF w2 ⟨w.heap.size + 1, 0, none⟩ (.int .i64 lo2) := (by first | exact CellF.keep hb2 q1_2_0 | exact CellF.keep hb2 (CellF.past _ q1_2_0) | exact CellF.keep hb2 (CellF.past _ (CellF.past _ q1_2_0)) | exact CellF.keep hb2 (CellF.drewN _ q1_2_0))
      have c2_5_0 := q2_5_0.1
      have q2_5_1 : CellF w2 ⟨w.heap.size + 1, 1, none⟩ (.int .i64 hi2) := (by first | exact CellF.keep hb2 q1_2_1 | exact CellF.keep hb2 (CellF.past _ q1_2_1) | exact CellF.keep hb2 (CellF.past _ (CellF.past _ q1_2_1)) | exact CellF.keep hb2 (CellF.drewN _ q1_2_1))
      have c2_5_1 := q2_5_1.1
      have q2_5_2 : CellF w2 ⟨w.heap.size + 1, 2, none⟩ (.bool k2) := (by first | exact CellF.keep hb2 q1_2_2 | exact CellF.keep hb2 (CellF.past _ q1_2_2) | exact CellF.keep hb2 (CellF.past _ (CellF.past _ q1_2_2)) | exact CellF.keep hb2 (CellF.drewN _ q1_2_2))
      have c2_5_2 := q2_5_2.1
      have z2_5 : w.heap.size + 1 < w2.heap.size := ltc c2_5_0
      have q2_6_0 : CellF w2 ⟨w.heap.size + 1 + 1, 0, none⟩ (.int .i64 0) := (by first | exact CellF.keep hb2 q1_3_0 | exact CellF.keep hb2 (CellF.past _ q1_3_0) | exact CellF.keep hb2 (CellF.past _ (CellF.past _ q1_3_0)) | exact CellF.keep hb2 (CellF.drewN _ q1_3_0))
      have c2_6_0 := q2_6_0.1
      have g2_6_0 := q2_6_0.2
      have q2_6_1 : CellF w2 ⟨w.heap.size + 1 + 1, 1, none⟩ (.int .i64 0) := (by first | exact CellF.keep hb2 q1_3_1 | exact CellF.keep hb2 (CellF.past _ q1_3_1) | exact CellF.keep hb2 (CellF.past _ (CellF.past _ q1_3_1)) | exact CellF.keep hb2 (CellF.drewN _ q1_3_1))
      have c2_6_1 := q2_6_1.1
      have g2_6_1 := q2_6_1.2
      have q2_6_2 : CellF w2 ⟨w.heap.size + 1 + 1, 2, none⟩ (.bool false) := (by first | exact CellF.keep hb2 q1_3_2 | exact CellF.keep hb2 (CellF.past _ q1_3_2) | exact CellF.keep hb2 (CellF.past _ (CellF.past _ q1_3_2)) | exact CellF.keep hb2 (CellF.drewN _ q1_3_2))
      have c2_6_2 := q2_6_2.1
      have g2_6_2 := q2_6_2.2
      have z2_6 : w.heap.size + 1 + 1 < w2.heap.size := ltc c2_6_0
      go_wp2_with fail
      refine (known1 _ _ _ _ HR _ _ (by go_simp) (by go_simp) (by go_simp)).mono ?_
      rintro e w3 ⟨rfl, hb3⟩
      have q3_7_0 : CellF w3 ⟨w.heap.size, 0, none⟩ (.int .i64 lo) := (by first | exact CellF.keep hb3 q2_4_0 | exact CellF.keep hb3 (CellF.past _ q2_4_0) | exact CellF.keep hb3 (CellF.past _ (CellF.past _ q2_4_0)) | exact CellF.keep hb3 (CellF.drewN _ q2_4_0))
      have c3_7_0 := q3_7_0.1
      have q3_7_1 : CellF w3 ⟨w.heap.size, 1, none⟩ (.int .i64 hi) := (by first | exact CellF.keep hb3 q2_4_1 | exact CellF.keep hb3 (CellF.past _ q2_4_1) | exact CellF.keep hb3 (CellF.past _ (CellF.past _ q2_4_1)) | exact CellF.keep hb3 (CellF.drewN _ q2_4_1))
      have c3_7_1 := q3_7_1.1
      have q3_7_2 : CellF w3 ⟨w.heap.size, 2, none⟩ (.bool k) := (by first | exact CellF.keep hb3 q2_4_2 | exact CellF.keep hb3 (CellF.past _ q2_4_2) | exact CellF.keep hb3 (CellF.past _ (CellF.past _ q2_4_2)) | exact CellF.keep hb3 (CellF.drewN _ q2_4_2))
      have c3_7_2 := q3_7_2.1
      have z3_7 : w.heap.size < w3.heap.size := ltc c3_7_0
      have q3_8_0 : CellF w3 ⟨w.heap.size + 1, 0, none⟩ (.int .i64 lo2) := (by first | exact CellF.keep hb3 q2_5_0 | exact CellF.keep hb3 (CellF.past _ q2_5_0) | exact CellF.keep hb3 (CellF.past _ (CellF.past _ q2_5_0)) | exact CellF.keep hb3 (CellF.drewN _ q2_5_0))
      have c3_8_0 := q3_8_0.1
      have q3_8_1 : CellF w3 ⟨w.heap.size + 1, 1, none⟩ (.int .i64 hi2) := (by first | exact CellF.keep hb3 q2_5_1 | exact CellF.keep hb3 (CellF.past _ q2_5_1) | exact CellF.keep hb3 (CellF.past _ (CellF.past _ q2_5_1)) | exact CellF.keep hb3 (CellF.drewN _ q2_5_1))
      have c3_8_1 := q3_8_1.1
      have q3_8_2 : CellF w3 ⟨w.heap.size + 1, 2, none⟩ (.bool k2) := (by first | exact CellF.keep hb3 q2_5_2 | exact CellF.keep hb3 (CellF.past _ q2_5_2) | exact CellF.keep hb3 (CellF.past _ (CellF.past _ q2_5_2)) | exact CellF.keep hb3 (CellF.drewN _ q2_5_2))
      have c3_8_2 := q3_8_2.1
      have z3_8 : w.heap.size + 1 < w3.heap.size := ltc c3_8_0
      have q3_9_0 : CellF w3 ⟨w.heap.size + 1 + 1, 0, none⟩ (.int .i64 0) := (by first | exact CellF.keep hb3 q2_6_0 | exact CellF.keep hb3 (CellF.past _ q2_6_0) | exact CellF.keep hb3 (CellF.past _ (CellF.past _ q2_6_0)) | exact CellF.keep hb3 (CellF.drewN _ q2_6_0))
      have c3_9_0 := q3_9_0.1
      have g3_9_0 := q3_9_0.2
      have q3_9_1 : CellF w3 ⟨w.heap.size + 1 + 1, 1, none⟩ (.int .i64 0) := (by first | exact CellF.keep hb3 q2_6_1 | exact CellF.keep hb3 (CellF.past _ q2_6_1) | exact CellF.keep hb3 (CellF.past _ (CellF.past _ q2_6_1)) | exact CellF.keep hb3 (CellF.drewN _ q2_6_1))
      have c3_9_1 := q3_9_1.1
      have g3_9_1 := q3_9_1.2
      have q3_9_2 : CellF w3 ⟨w.heap.size + 1 + 1, 2, none⟩ (.bool false) := (by first | exact CellF.keep hb3 q2_6_2 | exact CellF.keep hb3 (CellF.past _ q2_6_2) | exact CellF.keep hb3 (CellF.past _ (CellF.past _ q2_6_2)) | exact CellF.keep hb3 (CellF.drewN _ q2_6_2))
      have c3_9_2 := q3_9_2.1
      have g3_9_2 := q3_9_2.2
      have z3_9 : w.heap.size + 1 + 1 < w3.heap.size := ltc c3_9_0
      go_wp2
      exact bodyPost_ret (v := .agg #[.int .i64 lo, .int .i64 hi, .bool k]) (by simp [results, Try.results43, go_sem, c3_9_0, c3_9_1, c3_9_2]) rfl ⟨rfl, (by repeat (first | exact brefl _ | refine balloc ?_ _ | refine bdrewN ?_ _ | refine bset ?_ (by dsimp only; omega) _ | refine bstep ?_ (by assumption)))⟩
    | true =>
      rw [if_pos rfl, if_pos rfl] at hp
      by_cases h1 : lo2 ≤ lo
      · rw [if_pos h1] at hp
        by_cases h2 : hi ≤ hi2
        · rw [if_pos h2] at hp
          have HM := Lib.hid hp
          clear hp
          go_enter Try.func43, Try.ntmps43
          go_wp2_with fail
          refine (known1 _ _ _ _ HQ _ _ (by go_simp) (by go_simp) (by go_simp)).mono ?_
          rintro e w1 ⟨rfl, hb1⟩
          have q1_1_0 : CellF w1 ⟨w.heap.size, 0, none⟩ (.int .i64 lo) := (by refine CellF.keep hb1 ?_; refine ⟨?_, ?_⟩ <;> go_simp)
          have c1_1_0 := q1_1_0.1
          have q1_1_1 : CellF w1 ⟨w.heap.size, 1, none⟩ (.int .i64 hi) := (by refine CellF.keep hb1 ?_; refine ⟨?_, ?_⟩ <;> go_simp)
          have c1_1_1 := q1_1_1.1
          have q1_1_2 : CellF w1 ⟨w.heap.size, 2, none⟩ (.bool k) := (by refine CellF.keep hb1 ?_; refine ⟨?_, ?_⟩ <;> go_simp)
          have c1_1_2 := q1_1_2.1
          have z1_1 : w.heap.size < w1.heap.size := ltc c1_1_0
          have q1_2_0 : CellF w1 ⟨w.heap.size + 1, 0, none⟩ (.int .i64 lo2) := (by refine CellF.keep hb1 ?_; refine ⟨?_, ?_⟩ <;> go_simp)
          have c1_2_0 := q1_2_0.1
          have q1_2_1 : CellF w1 ⟨w.heap.size + 1, 1, none⟩ (.int .i64 hi2) := (by refine CellF.keep hb1 ?_; refine ⟨?_, ?_⟩ <;> go_simp)
          have c1_2_1 := q1_2_1.1
          have q1_2_2 : CellF w1 ⟨w.heap.size + 1, 2, none⟩ (.bool k2) := (by refine CellF.keep hb1 ?_; refine ⟨?_, ?_⟩ <;> go_simp)
          have c1_2_2 := q1_2_2.1
          have z1_2 : w.heap.size + 1 < w1.heap.size := ltc c1_2_0
          have q1_3_0 : CellF w1 ⟨w.heap.size + 1 + 1, 0, none⟩ (.int .i64 0) := (by refine CellF.keep hb1 ?_; refine ⟨?_, ?_⟩ <;> go_simp)
          have c1_3_0 := q1_3_0.1
          have g1_3_0 := q1_3_0.2
          have q1_3_1 : CellF w1 ⟨w.heap.size + 1 + 1, 1, none⟩ (.int .i64 0) := (by refine CellF.keep hb1 ?_; refine ⟨?_, ?_⟩ <;> go_simp)
          have c1_3_1 := q1_3_1.1
          have g1_3_1 := q1_3_1.2
          have q1_3_2 : CellF w1 ⟨w.heap.size + 1 + 1, 2, none⟩ (.bool false) := (by refine CellF.keep hb1 ?_; refine ⟨?_, ?_⟩ <;> go_simp)
          have c1_3_2 := q1_3_2.1
          have g1_3_2 := q1_3_2.2
          have z1_3 : w.heap.size + 1 + 1 < w1.heap.size := ltc c1_3_0
          go_wp2_with fail
          refine (known1 _ _ _ _ HQ _ _ (by go_simp) (by go_simp) (by go_simp)).mono ?_
          rintro e w2 ⟨rfl, hb2⟩
          have q2_4_0 : CellF w2 ⟨w.heap.size, 0, none⟩ (.int .i64 lo) := (by first | exact CellF.keep hb2 q1_1_0 | exact CellF.keep hb2 (CellF.past _ q1_1_0) | exact CellF.keep hb2 (CellF.past _ (CellF.past _ q1_1_0)) | exact CellF.keep hb2 (CellF.drewN _ q1_1_0))
          have c2_4_0 := q2_4_0.1
          have q2_4_1 : CellF w2 ⟨w.heap.size, 1, none⟩ (.int .i64 hi) := (by first | exact CellF.keep hb2 q1_1_1 | exact CellF.keep hb2 (CellF.past _ q1_1_1) | exact CellF.keep hb2 (CellF.past _ (CellF.past _ q1_1_1)) | exact CellF.keep hb2 (CellF.drewN _ q1_1_1))
          have c2_4_1 := q2_4_1.1
          have q2_4_2 : CellF w2 ⟨w.heap.size, 2, none⟩ (.bool k) := (by first | exact CellF.keep hb2 q1_1_2 | exact CellF.keep hb2 (CellF.past _ q1_1_2) | exact CellF.keep hb2 (CellF.past _ (CellF.past _ q1_1_2)) | exact CellF.keep hb2 (CellF.drewN _ q1_1_2))
          have c2_4_2 := q2_4_2.1
          have z2_4 : w.heap.size < w2.heap.size := ltc c2_4_0
          have q2_5_0 : CellF w2 ⟨w.heap.size + 1, 0, none⟩ (.int .i64 lo2) := (by first | exact CellF.keep hb2 q1_2_0 | exact CellF.keep hb2 (CellF.past _ q1_2_0) | exact CellF.keep hb2 (CellF.past _ (CellF.past _ q1_2_0)) | exact CellF.keep hb2 (CellF.drewN _ q1_2_0))
          have c2_5_0 := q2_5_0.1
          have q2_5_1 : CellF w2 ⟨w.heap.size + 1, 1, none⟩ (.int .i64 hi2) := (by first | exact CellF.keep hb2 q1_2_1 | exact CellF.keep hb2 (CellF.past _ q1_2_1) | exact CellF.keep hb2 (CellF.past _ (CellF.past _ q1_2_1)) | exact CellF.keep hb2 (CellF.drewN _ q1_2_1))
          have c2_5_1 := q2_5_1.1
          have q2_5_2 : CellF w2 ⟨w.heap.size + 1, 2, none⟩ (.bool k2) := (by first | exact CellF.keep hb2 q1_2_2 | exact CellF.keep hb2 (CellF.past _ q1_2_2) | exact CellF.keep hb2 (CellF.past _ (CellF.past _ q1_2_2)) | exact CellF.keep hb2 (CellF.drewN _ q1_2_2))
          have c2_5_2 := q2_5_2.1
          have z2_5 : w.heap.size + 1 < w2.heap.size := ltc c2_5_0
          have q2_6_0 : CellF w2 ⟨w.heap.size + 1 + 1, 0, none⟩ (.int .i64 0) := (by first | exact CellF.keep hb2 q1_3_0 | exact CellF.keep hb2 (CellF.past _ q1_3_0) | exact CellF.keep hb2 (CellF.past _ (CellF.past _ q1_3_0)) | exact CellF.keep hb2 (CellF.drewN _ q1_3_0))
          have c2_6_0 := q2_6_0.1
          have g2_6_0 := q2_6_0.2
          have q2_6_1 : CellF w2 ⟨w.heap.size + 1 + 1, 1, none⟩ (.int .i64 0) := (by first | exact CellF.keep hb2 q1_3_1 | exact CellF.keep hb2 (CellF.past _ q1_3_1) | exact CellF.keep hb2 (CellF.past _ (CellF.past _ q1_3_1)) | exact CellF.keep hb2 (CellF.drewN _ q1_3_1))
          have c2_6_1 := q2_6_1.1
          have g2_6_1 := q2_6_1.2
          have q2_6_2 : CellF w2 ⟨w.heap.size + 1 + 1, 2, none⟩ (.bool false) := (by first | exact CellF.keep hb2 q1_3_2 | exact CellF.keep hb2 (CellF.past _ q1_3_2) | exact CellF.keep hb2 (CellF.past _ (CellF.past _ q1_3_2)) | exact CellF.keep hb2 (CellF.drewN _ q1_3_2))
          have c2_6_2 := q2_6_2.1
          have g2_6_2 := q2_6_2.2
          have z2_6 : w.heap.size + 1 + 1 < w2.heap.size := ltc c2_6_0
          go_wp2_with fail
          refine (known1 _ _ _ _ HR _ _ (by go_simp) (by go_simp) (by go_simp)).mono ?_
          rintro e w3 ⟨rfl, hb3⟩
          have q3_7_0 : CellF w3 ⟨w.heap.size, 0, none⟩ (.int .i64 lo) := (by first | exact CellF.keep hb3 q2_4_0 | exact CellF.keep hb3 (CellF.past _ q2_4_0) | exact CellF.keep hb3 (CellF.past _ (CellF.past _ q2_4_0)) | exact CellF.keep hb3 (CellF.drewN _ q2_4_0))
          have c3_7_0 := q3_7_0.1
          have q3_7_1 : CellF w3 ⟨w.heap.size, 1, none⟩ (.int .i64 hi) := (by first | exact CellF.keep hb3 q2_4_1 | exact CellF.keep hb3 (CellF.past _ q2_4_1) | exact CellF.keep hb3 (CellF.past _ (CellF.past _ q2_4_1)) | exact CellF.keep hb3 (CellF.drewN _ q2_4_1))
          have c3_7_1 := q3_7_1.1
          have q3_7_2 : CellF w3 ⟨w.heap.size, 2, none⟩ (.bool k) := (by first | exact CellF.keep hb3 q2_4_2 | exact CellF.keep hb3 (CellF.past _ q2_4_2) | exact CellF.keep hb3 (CellF.past _ (CellF.past _ q2_4_2)) | exact CellF.keep hb3 (CellF.drewN _ q2_4_2))
          have c3_7_2 := q3_7_2.1
          have z3_7 : w.heap.size < w3.heap.size := ltc c3_7_0
          have q3_8_0 : CellF w3 ⟨w.heap.size + 1, 0, none⟩ (.int .i64 lo2) := (by first | exact CellF.keep hb3 q2_5_0 | exact CellF.keep hb3 (CellF.past _ q2_5_0) | exact CellF.keep hb3 (CellF.past _ (CellF.past _ q2_5_0)) | exact CellF.keep hb3 (CellF.drewN _ q2_5_0))
          have c3_8_0 := q3_8_0.1
          have q3_8_1 : CellF w3 ⟨w.heap.size + 1, 1, none⟩ (.int .i64 hi2) := (by first | exact CellF.keep hb3 q2_5_1 | exact CellF.keep hb3 (CellF.past _ q2_5_1) | exact CellF.keep hb3 (CellF.past _ (CellF.past _ q2_5_1)) | exact CellF.keep hb3 (CellF.drewN _ q2_5_1))
          have c3_8_1 := q3_8_1.1
          have q3_8_2 : CellF w3 ⟨w.heap.size + 1, 2, none⟩ (.bool k2) := (by first | exact CellF.keep hb3 q2_5_2 | exact CellF.keep hb3 (CellF.past _ q2_5_2) | exact CellF.keep hb3 (CellF.past _ (CellF.past _ q2_5_2)) | exact CellF.keep hb3 (CellF.drewN _ q2_5_2))
          have c3_8_2 := q3_8_2.1
          have z3_8 : w.heap.size + 1 < w3.heap.size := ltc c3_8_0
          have q3_9_0 : CellF w3 ⟨w.heap.size + 1 + 1, 0, none⟩ (.int .i64 0) := (by first | exact CellF.keep hb3 q2_6_0 | exact CellF.keep hb3 (CellF.past _ q2_6_0) | exact CellF.keep hb3 (CellF.past _ (CellF.past _ q2_6_0)) | exact CellF.keep hb3 (CellF.drewN _ q2_6_0))
          have c3_9_0 := q3_9_0.1
          have g3_9_0 := q3_9_0.2
          have q3_9_1 : CellF w3 ⟨w.heap.size + 1 + 1, 1, none⟩ (.int .i64 0) := (by first | exact CellF.keep hb3 q2_6_1 | exact CellF.keep hb3 (CellF.past _ q2_6_1) | exact CellF.keep hb3 (CellF.past _ (CellF.past _ q2_6_1)) | exact CellF.keep hb3 (CellF.drewN _ q2_6_1))
          have c3_9_1 := q3_9_1.1
          have g3_9_1 := q3_9_1.2
          have q3_9_2 : CellF w3 ⟨w.heap.size + 1 + 1, 2, none⟩ (.bool false) := (by first | exact CellF.keep hb3 q2_6_2 | exact CellF.keep hb3 (CellF.past _ q2_6_2) | exact CellF.keep hb3 (CellF.past _ (CellF.past _ q2_6_2)) | exact CellF.keep hb3 (CellF.drewN _ q2_6_2))
          have c3_9_2 := q3_9_2.1
          have g3_9_2 := q3_9_2.2
          have z3_9 : w.heap.size + 1 + 1 < w3.heap.size := ltc c3_9_0
          go_wp2_with fail
          refine (Of_is _ _ _ _ _ HM _).mono ?_
          rintro e w4 ⟨rfl, hb4⟩
          have q4_10_0 : CellF w4 ⟨w.heap.size + 1 + 1, 0, none⟩ (.int .i64 0) := (by first | exact CellF.keep hb4 q3_9_0 | exact CellF.keep hb4 (CellF.past _ q3_9_0) | exact CellF.keep hb4 (CellF.past _ (CellF.past _ q3_9_0)) | exact CellF.keep hb4 (CellF.drewN _ q3_9_0))
          have c4_10_0 := q4_10_0.1
          have g4_10_0 := q4_10_0.2
          have q4_10_1 : CellF w4 ⟨w.heap.size + 1 + 1, 1, none⟩ (.int .i64 0) := (by first | exact CellF.keep hb4 q3_9_1 | exact CellF.keep hb4 (CellF.past _ q3_9_1) | exact CellF.keep hb4 (CellF.past _ (CellF.past _ q3_9_1)) | exact CellF.keep hb4 (CellF.drewN _ q3_9_1))
          have c4_10_1 := q4_10_1.1
          have g4_10_1 := q4_10_1.2
          have q4_10_2 : CellF w4 ⟨w.heap.size + 1 + 1, 2, none⟩ (.bool false) := (by first | exact CellF.keep hb4 q3_9_2 | exact CellF.keep hb4 (CellF.past _ q3_9_2) | exact CellF.keep hb4 (CellF.past _ (CellF.past _ q3_9_2)) | exact CellF.keep hb4 (CellF.drewN _ q3_9_2))
          have c4_10_2 := q4_10_2.1
          have g4_10_2 := q4_10_2.2
          have z4_10 : w.heap.size + 1 + 1 < w4.heap.size := ltc c4_10_0
          go_wp2
          exact bodyPost_ret (v := .agg #[.int .i64 x, .int .i64 y, .bool z]) (by simp [results, Try.results43, go_sem, c4_10_0, c4_10_1, c4_10_2]) rfl ⟨rfl, (by repeat (first | exact brefl _ | refine balloc ?_ _ | refine bdrewN ?_ _ | refine bset ?_ (by dsimp only; omega) _ | refine bstep ?_ (by assumption)))⟩
        · rw [if_neg h2] at hp
          have HM := Lib.hid hp
          clear hp
          go_enter Try.func43, Try.ntmps43
          go_wp2_with fail
          refine (known1 _ _ _ _ HQ _ _ (by go_simp) (by go_simp) (by go_simp)).mono ?_
          rintro e w1 ⟨rfl, hb1⟩
          have q1_1_0 : CellF w1 ⟨w.heap.size, 0, none⟩ (.int .i64 lo) := (by refine CellF.keep hb1 ?_; refine ⟨?_, ?_⟩ <;> go_simp)
          have c1_1_0 := q1_1_0.1
          have q1_1_1 : CellF w1 ⟨w.heap.size, 1, none⟩ (.int .i64 hi) := (by refine CellF.keep hb1 ?_; refine ⟨?_, ?_⟩ <;> go_simp)
          have c1_1_1 := q1_1_1.1
          have q1_1_2 : CellF w1 ⟨w.heap.size, 2, none⟩ (.bool k) := (by refine CellF.keep hb1 ?_; refine ⟨?_, ?_⟩ <;> go_simp)
          have c1_1_2 := q1_1_2.1
          have z1_1 : w.heap.size < w1.heap.size := ltc c1_1_0
          have q1_2_0 : CellF w1 ⟨w.heap.size + 1, 0, none⟩ (.int .i64 lo2) := (by refine CellF.keep hb1 ?_; refine ⟨?_, ?_⟩ <;> go_simp)
          have c1_2_0 := q1_2_0.1
          have q1_2_1 : CellF w1 ⟨w.heap.size + 1, 1, none⟩ (.int .i64 hi2) := (by refine CellF.keep hb1 ?_; refine ⟨?_, ?_⟩ <;> go_simp)
          have c1_2_1 := q1_2_1.1
          have q1_2_2 : CellF w1 ⟨w.heap.size + 1, 2, none⟩ (.bool k2) := (by refine CellF.keep hb1 ?_; refine ⟨?_, ?_⟩ <;> go_simp)
          have c1_2_2 := q1_2_2.1
          have z1_2 : w.heap.size + 1 < w1.heap.size := ltc c1_2_0
          have q1_3_0 : CellF w1 ⟨w.heap.size + 1 + 1, 0, none⟩ (.int .i64 0) := (by refine CellF.keep hb1 ?_; refine ⟨?_, ?_⟩ <;> go_simp)
          have c1_3_0 := q1_3_0.1
          have g1_3_0 := q1_3_0.2
          have q1_3_1 : CellF w1 ⟨w.heap.size + 1 + 1, 1, none⟩ (.int .i64 0) := (by refine CellF.keep hb1 ?_; refine ⟨?_, ?_⟩ <;> go_simp)
          have c1_3_1 := q1_3_1.1
          have g1_3_1 := q1_3_1.2
          have q1_3_2 : CellF w1 ⟨w.heap.size + 1 + 1, 2, none⟩ (.bool false) := (by refine CellF.keep hb1 ?_; refine ⟨?_, ?_⟩ <;> go_simp)
          have c1_3_2 := q1_3_2.1
          have g1_3_2 := q1_3_2.2
          have z1_3 : w.heap.size + 1 + 1 < w1.heap.size := ltc c1_3_0
          go_wp2_with fail
          refine (known1 _ _ _ _ HQ _ _ (by go_simp) (by go_simp) (by go_simp)).mono ?_
          rintro e w2 ⟨rfl, hb2⟩
          have q2_4_0 : CellF w2 ⟨w.heap.size, 0, none⟩ (.int .i64 lo) := (by first | exact CellF.keep hb2 q1_1_0 | exact CellF.keep hb2 (CellF.past _ q1_1_0) | exact CellF.keep hb2 (CellF.past _ (CellF.past _ q1_1_0)) | exact CellF.keep hb2 (CellF.drewN _ q1_1_0))
          have c2_4_0 := q2_4_0.1
          have q2_4_1 : CellF w2 ⟨w.heap.size, 1, none⟩ (.int .i64 hi) := (by first | exact CellF.keep hb2 q1_1_1 | exact CellF.keep hb2 (CellF.past _ q1_1_1) | exact CellF.keep hb2 (CellF.past _ (CellF.past _ q1_1_1)) | exact CellF.keep hb2 (CellF.drewN _ q1_1_1))
          have c2_4_1 := q2_4_1.1
          have q2_4_2 : CellF w2 ⟨w.heap.size, 2, none⟩ (.bool k) := (by first | exact CellF.keep hb2 q1_1_2 | exact CellF.keep hb2 (CellF.past _ q1_1_2) | exact CellF.keep hb2 (CellF.past _ (CellF.past _ q1_1_2)) | exact CellF.keep hb2 (CellF.drewN _ q1_1_2))
          have c2_4_2 := q2_4_2.1
          have z2_4 : w.heap.size < w2.heap.size := ltc c2_4_0
          have q2_5_0 : CellF w2 ⟨w.heap.size + 1, 0, none⟩ (.int .i64 lo2) := (by first | exact CellF.keep hb2 q1_2_0 | exact CellF.keep hb2 (CellF.past _ q1_2_0) | exact CellF.keep hb2 (CellF.past _ (CellF.past _ q1_2_0)) | exact CellF.keep hb2 (CellF.drewN _ q1_2_0))
          have c2_5_0 := q2_5_0.1
          have q2_5_1 : CellF w2 ⟨w.heap.size + 1, 1, none⟩ (.int .i64 hi2) := (by first | exact CellF.keep hb2 q1_2_1 | exact CellF.keep hb2 (CellF.past _ q1_2_1) | exact CellF.keep hb2 (CellF.past _ (CellF.past _ q1_2_1)) | exact CellF.keep hb2 (CellF.drewN _ q1_2_1))
          have c2_5_1 := q2_5_1.1
          have q2_5_2 : CellF w2 ⟨w.heap.size + 1, 2, none⟩ (.bool k2) := (by first | exact CellF.keep hb2 q1_2_2 | exact CellF.keep hb2 (CellF.past _ q1_2_2) | exact CellF.keep hb2 (CellF.past _ (CellF.past _ q1_2_2)) | exact CellF.keep hb2 (CellF.drewN _ q1_2_2))
          have c2_5_2 := q2_5_2.1
          have z2_5 : w.heap.size + 1 < w2.heap.size := ltc c2_5_0
          have q2_6_0 : CellF w2 ⟨w.heap.size + 1 + 1, 0, none⟩ (.int .i64 0) := (by first | exact CellF.keep hb2 q1_3_0 | exact CellF.keep hb2 (CellF.past _ q1_3_0) | exact CellF.keep hb2 (CellF.past _ (CellF.past _ q1_3_0)) | exact CellF.keep hb2 (CellF.drewN _ q1_3_0))
          have c2_6_0 := q2_6_0.1
          have g2_6_0 := q2_6_0.2
          have q2_6_1 : CellF w2 ⟨w.heap.size + 1 + 1, 1, none⟩ (.int .i64 0) := (by first | exact CellF.keep hb2 q1_3_1 | exact CellF.keep hb2 (CellF.past _ q1_3_1) | exact CellF.keep hb2 (CellF.past _ (CellF.past _ q1_3_1)) | exact CellF.keep hb2 (CellF.drewN _ q1_3_1))
          have c2_6_1 := q2_6_1.1
          have g2_6_1 := q2_6_1.2
          have q2_6_2 : CellF w2 ⟨w.heap.size + 1 + 1, 2, none⟩ (.bool false) := (by first | exact CellF.keep hb2 q1_3_2 | exact CellF.keep hb2 (CellF.past _ q1_3_2) | exact CellF.keep hb2 (CellF.past _ (CellF.past _ q1_3_2)) | exact CellF.keep hb2 (CellF.drewN _ q1_3_2))
          have c2_6_2 := q2_6_2.1
          have g2_6_2 := q2_6_2.2
          have z2_6 : w.heap.size + 1 + 1 < w2.heap.size := ltc c2_6_0
          go_wp2_with fail
          refine (known1 _ _ _ _ HR _ _ (by go_simp) (by go_simp) (by go_simp)).mono ?_
          rintro e w3 ⟨rfl, hb3⟩
          have q3_7_0 : CellF w3 ⟨w.heap.size, 0, none⟩ (.int .i64 lo) := (by first | exact CellF.keep hb3 q2_4_0 | exact CellF.keep hb3 (CellF.past _ q2_4_0) | exact CellF.keep hb3 (CellF.past _ (CellF.past _ q2_4_0)) | exact CellF.keep hb3 (CellF.drewN _ q2_4_0))
          have c3_7_0 := q3_7_0.1
          have q3_7_1 : CellF w3 ⟨w.heap.size, 1, none⟩ (.int .i64 hi) := (by first | exact CellF.keep hb3 q2_4_1 | exact CellF.keep hb3 (CellF.past _ q2_4_1) | exact CellF.keep hb3 (CellF.past _ (CellF.past _ q2_4_1)) | exact CellF.keep hb3 (CellF.drewN _ q2_4_1))
          have c3_7_1 := q3_7_1.1
          have q3_7_2 : CellF w3 ⟨w.heap.size, 2, none⟩ (.bool k) := (by first | exact CellF.keep hb3 q2_4_2 | exact CellF.keep hb3 (CellF.past _ q2_4_2) | exact CellF.keep hb3 (CellF.past _ (CellF.past _ q2_4_2)) | exact CellF.keep hb3 (CellF.drewN _ q2_4_2))
          have c3_7_2 := q3_7_2.1
          have z3_7 : w.heap.size < w3.heap.size := ltc c3_7_0
          have q3_8_0 : CellF w3 ⟨w.heap.size + 1, 0, none⟩ (.int .i64 lo2) := (by first | exact CellF.keep hb3 q2_5_0 | exact CellF.keep hb3 (CellF.past _ q2_5_0) | exact CellF.keep hb3 (CellF.past _ (CellF.past _ q2_5_0)) | exact CellF.keep hb3 (CellF.drewN _ q2_5_0))
          have c3_8_0 := q3_8_0.1
          have q3_8_1 : CellF w3 ⟨w.heap.size + 1, 1, none⟩ (.int .i64 hi2) := (by first | exact CellF.keep hb3 q2_5_1 | exact CellF.keep hb3 (CellF.past _ q2_5_1) | exact CellF.keep hb3 (CellF.past _ (CellF.past _ q2_5_1)) | exact CellF.keep hb3 (CellF.drewN _ q2_5_1))
          have c3_8_1 := q3_8_1.1
          have q3_8_2 : CellF w3 ⟨w.heap.size + 1, 2, none⟩ (.bool k2) := (by first | exact CellF.keep hb3 q2_5_2 | exact CellF.keep hb3 (CellF.past _ q2_5_2) | exact CellF.keep hb3 (CellF.past _ (CellF.past _ q2_5_2)) | exact CellF.keep hb3 (CellF.drewN _ q2_5_2))
          have c3_8_2 := q3_8_2.1
          have z3_8 : w.heap.size + 1 < w3.heap.size := ltc c3_8_0
          have q3_9_0 : CellF w3 ⟨w.heap.size + 1 + 1, 0, none⟩ (.int .i64 0) := (by first | exact CellF.keep hb3 q2_6_0 | exact CellF.keep hb3 (CellF.past _ q2_6_0) | exact CellF.keep hb3 (CellF.past _ (CellF.past _ q2_6_0)) | exact CellF.keep hb3 (CellF.drewN _ q2_6_0))
          have c3_9_0 := q3_9_0.1
          have g3_9_0 := q3_9_0.2
          have q3_9_1 : CellF w3 ⟨w.heap.size + 1 + 1, 1, none⟩ (.int .i64 0) := (by first | exact CellF.keep hb3 q2_6_1 | exact CellF.keep hb3 (CellF.past _ q2_6_1) | exact CellF.keep hb3 (CellF.past _ (CellF.past _ q2_6_1)) | exact CellF.keep hb3 (CellF.drewN _ q2_6_1))
          have c3_9_1 := q3_9_1.1
          have g3_9_1 := q3_9_1.2
          have q3_9_2 : CellF w3 ⟨w.heap.size + 1 + 1, 2, none⟩ (.bool false) := (by first | exact CellF.keep hb3 q2_6_2 | exact CellF.keep hb3 (CellF.past _ q2_6_2) | exact CellF.keep hb3 (CellF.past _ (CellF.past _ q2_6_2)) | exact CellF.keep hb3 (CellF.drewN _ q2_6_2))
          have c3_9_2 := q3_9_2.1
          have g3_9_2 := q3_9_2.2
          have z3_9 : w.heap.size + 1 + 1 < w3.heap.size := ltc c3_9_0
          go_wp2_with fail
          refine (Of_is _ _ _ _ _ HM _).mono ?_
          rintro e w4 ⟨rfl, hb4⟩
          have q4_10_0 : CellF w4 ⟨w.heap.size + 1 + 1, 0, none⟩ (.int .i64 0) := (by first | exact CellF.keep hb4 q3_9_0 | exact CellF.keep hb4 (CellF.past _ q3_9_0) | exact CellF.keep hb4 (CellF.past _ (CellF.past _ q3_9_0)) | exact CellF.keep hb4 (CellF.drewN _ q3_9_0))
          have c4_10_0 := q4_10_0.1
          have g4_10_0 := q4_10_0.2
          have q4_10_1 : CellF w4 ⟨w.heap.size + 1 + 1, 1, none⟩ (.int .i64 0) := (by first | exact CellF.keep hb4 q3_9_1 | exact CellF.keep hb4 (CellF.past _ q3_9_1) | exact CellF.keep hb4 (CellF.past _ (CellF.past _ q3_9_1)) | exact CellF.keep hb4 (CellF.drewN _ q3_9_1))
          have c4_10_1 := q4_10_1.1
          have g4_10_1 := q4_10_1.2
          have q4_10_2 : CellF w4 ⟨w.heap.size + 1 + 1, 2, none⟩ (.bool false) := (by first | exact CellF.keep hb4 q3_9_2 | exact CellF.keep hb4 (CellF.past _ q3_9_2) | exact CellF.keep hb4 (CellF.past _ (CellF.past _ q3_9_2)) | exact CellF.keep hb4 (CellF.drewN _ q3_9_2))
          have c4_10_2 := q4_10_2.1
          have g4_10_2 := q4_10_2.2
          have z4_10 : w.heap.size + 1 + 1 < w4.heap.size := ltc c4_10_0
          go_wp2
          exact bodyPost_ret (v := .agg #[.int .i64 x, .int .i64 y, .bool z]) (by simp [results, Try.results43, go_sem, c4_10_0, c4_10_1, c4_10_2]) rfl ⟨rfl, (by repeat (first | exact brefl _ | refine balloc ?_ _ | refine bdrewN ?_ _ | refine bset ?_ (by dsimp only; omega) _ | refine bstep ?_ (by assumption)))⟩
      · rw [if_neg h1] at hp
        by_cases h2 : hi ≤ hi2
        · rw [if_pos h2] at hp
          have HM := Lib.hid hp
          clear hp
          go_enter Try.func43, Try.ntmps43
          go_wp2_with fail
          refine (known1 _ _ _ _ HQ _ _ (by go_simp) (by go_simp) (by go_simp)).mono ?_
          rintro e w1 ⟨rfl, hb1⟩
          have q1_1_0 : CellF w1 ⟨w.heap.size, 0, none⟩ (.int .i64 lo) := (by refine CellF.keep hb1 ?_; refine ⟨?_, ?_⟩ <;> go_simp)
          have c1_1_0 := q1_1_0.1
          have q1_1_1 : CellF w1 ⟨w.heap.size, 1, none⟩ (.int .i64 hi) := (by refine CellF.keep hb1 ?_; refine ⟨?_, ?_⟩ <;> go_simp)
          have c1_1_1 := q1_1_1.1
          have q1_1_2 : CellF w1 ⟨w.heap.size, 2, none⟩ (.bool k) := (by refine CellF.keep hb1 ?_; refine ⟨?_, ?_⟩ <;> go_simp)
          have c1_1_2 := q1_1_2.1
          have z1_1 : w.heap.size < w1.heap.size := ltc c1_1_0
          have q1_2_0 : CellF w1 ⟨w.heap.size + 1, 0, none⟩ (.int .i64 lo2) := (by refine CellF.keep hb1 ?_; refine ⟨?_, ?_⟩ <;> go_simp)
          have c1_2_0 := q1_2_0.1
          have q1_2_1 : CellF w1 ⟨w.heap.size + 1, 1, none⟩ (.int .i64 hi2) := (by refine CellF.keep hb1 ?_; refine ⟨?_, ?_⟩ <;> go_simp)
          have c1_2_1 := q1_2_1.1
          have q1_2_2 : CellF w1 ⟨w.heap.size + 1, 2, none⟩ (.bool k2) := (by refine CellF.keep hb1 ?_; refine ⟨?_, ?_⟩ <;> go_simp)
          have c1_2_2 := q1_2_2.1
          have z1_2 : w.heap.size + 1 < w1.heap.size := ltc c1_2_0
          have q1_3_0 : CellF w1 ⟨w.heap.size + 1 + 1, 0, none⟩ (.int .i64 0) := (by refine CellF.keep hb1 ?_; refine ⟨?_, ?_⟩ <;> go_simp)
          have c1_3_0 := q1_3_0.1
          have g1_3_0 := q1_3_0.2
          have q1_3_1 : CellF w1 ⟨w.heap.size + 1 + 1, 1, none⟩ (.int .i64 0) := (by refine CellF.keep hb1 ?_; refine ⟨?_, ?_⟩ <;> go_simp)
          have c1_3_1 := q1_3_1.1
          have g1_3_1 := q1_3_1.2
          have q1_3_2 : CellF w1 ⟨w.heap.size + 1 + 1, 2, none⟩ (.bool false) := (by refine CellF.keep hb1 ?_; refine ⟨?_, ?_⟩ <;> go_simp)
          have c1_3_2 := q1_3_2.1
          have g1_3_2 := q1_3_2.2
          have z1_3 : w.heap.size + 1 + 1 < w1.heap.size := ltc c1_3_0
          go_wp2_with fail
          refine (known1 _ _ _ _ HQ _ _ (by go_simp) (by go_simp) (by go_simp)).mono ?_
          rintro e w2 ⟨rfl, hb2⟩
          have q2_4_0 : CellF w2 ⟨w.heap.size, 0, none⟩ (.int .i64 lo) := (by first | exact CellF.keep hb2 q1_1_0 | exact CellF.keep hb2 (CellF.past _ q1_1_0) | exact CellF.keep hb2 (CellF.past _ (CellF.past _ q1_1_0)) | exact CellF.keep hb2 (CellF.drewN _ q1_1_0))
          have c2_4_0 := q2_4_0.1
          have q2_4_1 : CellF w2 ⟨w.heap.size, 1, none⟩ (.int .i64 hi) := (by first | exact CellF.keep hb2 q1_1_1 | exact CellF.keep hb2 (CellF.past _ q1_1_1) | exact CellF.keep hb2 (CellF.past _ (CellF.past _ q1_1_1)) | exact CellF.keep hb2 (CellF.drewN _ q1_1_1))
          have c2_4_1 := q2_4_1.1
          have q2_4_2 : CellF w2 ⟨w.heap.size, 2, none⟩ (.bool k) := (by first | exact CellF.keep hb2 q1_1_2 | exact CellF.keep hb2 (CellF.past _ q1_1_2) | exact CellF.keep hb2 (CellF.past _ (CellF.past _ q1_1_2)) | exact CellF.keep hb2 (CellF.drewN _ q1_1_2))
          have c2_4_2 := q2_4_2.1
          have z2_4 : w.heap.size < w2.heap.size := ltc c2_4_0
          have q2_5_0 : CellF w2 ⟨w.heap.size + 1, 0, none⟩ (.int .i64 lo2) := (by first | exact CellF.keep hb2 q1_2_0 | exact CellF.keep hb2 (CellF.past _ q1_2_0) | exact CellF.keep hb2 (CellF.past _ (CellF.past _ q1_2_0)) | exact CellF.keep hb2 (CellF.drewN _ q1_2_0))
          have c2_5_0 := q2_5_0.1
          have q2_5_1 : CellF w2 ⟨w.heap.size + 1, 1, none⟩ (.int .i64 hi2) := (by first | exact CellF.keep hb2 q1_2_1 | exact CellF.keep hb2 (CellF.past _ q1_2_1) | exact CellF.keep hb2 (CellF.past _ (CellF.past _ q1_2_1)) | exact CellF.keep hb2 (CellF.drewN _ q1_2_1))
          have c2_5_1 := q2_5_1.1
          have q2_5_2 : CellF w2 ⟨w.heap.size + 1, 2, none⟩ (.bool k2) := (by first | exact CellF.keep hb2 q1_2_2 | exact CellF.keep hb2 (CellF.past _ q1_2_2) | exact CellF.keep hb2 (CellF.past _ (CellF.past _ q1_2_2)) | exact CellF.keep hb2 (CellF.drewN _ q1_2_2))
          have c2_5_2 := q2_5_2.1
          have z2_5 : w.heap.size + 1 < w2.heap.size := ltc c2_5_0
          have q2_6_0 : CellF w2 ⟨w.heap.size + 1 + 1, 0, none⟩ (.int .i64 0) := (by first | exact CellF.keep hb2 q1_3_0 | exact CellF.keep hb2 (CellF.past _ q1_3_0) | exact CellF.keep hb2 (CellF.past _ (CellF.past _ q1_3_0)) | exact CellF.keep hb2 (CellF.drewN _ q1_3_0))
          have c2_6_0 := q2_6_0.1
          have g2_6_0 := q2_6_0.2
          have q2_6_1 : CellF w2 ⟨w.heap.size + 1 + 1, 1, none⟩ (.int .i64 0) := (by first | exact CellF.keep hb2 q1_3_1 | exact CellF.keep hb2 (CellF.past _ q1_3_1) | exact CellF.keep hb2 (CellF.past _ (CellF.past _ q1_3_1)) | exact CellF.keep hb2 (CellF.drewN _ q1_3_1))
          have c2_6_1 := q2_6_1.1
          have g2_6_1 := q2_6_1.2
          have q2_6_2 : CellF w2 ⟨w.heap.size + 1 + 1, 2, none⟩ (.bool false) := (by first | exact CellF.keep hb2 q1_3_2 | exact CellF.keep hb2 (CellF.past _ q1_3_2) | exact CellF.keep hb2 (CellF.past _ (CellF.past _ q1_3_2)) | exact CellF.keep hb2 (CellF.drewN _ q1_3_2))
          have c2_6_2 := q2_6_2.1
          have g2_6_2 := q2_6_2.2
          have z2_6 : w.heap.size + 1 + 1 < w2.heap.size := ltc c2_6_0
          go_wp2_with fail
          refine (known1 _ _ _ _ HR _ _ (by go_simp) (by go_simp) (by go_simp)).mono ?_
          rintro e w3 ⟨rfl, hb3⟩
          have q3_7_0 : CellF w3 ⟨w.heap.size, 0, none⟩ (.int .i64 lo) := (by first | exact CellF.keep hb3 q2_4_0 | exact CellF.keep hb3 (CellF.past _ q2_4_0) | exact CellF.keep hb3 (CellF.past _ (CellF.past _ q2_4_0)) | exact CellF.keep hb3 (CellF.drewN _ q2_4_0))
          have c3_7_0 := q3_7_0.1
          have q3_7_1 : CellF w3 ⟨w.heap.size, 1, none⟩ (.int .i64 hi) := (by first | exact CellF.keep hb3 q2_4_1 | exact CellF.keep hb3 (CellF.past _ q2_4_1) | exact CellF.keep hb3 (CellF.past _ (CellF.past _ q2_4_1)) | exact CellF.keep hb3 (CellF.drewN _ q2_4_1))
          have c3_7_1 := q3_7_1.1
          have q3_7_2 : CellF w3 ⟨w.heap.size, 2, none⟩ (.bool k) := (by first | exact CellF.keep hb3 q2_4_2 | exact CellF.keep hb3 (CellF.past _ q2_4_2) | exact CellF.keep hb3 (CellF.past _ (CellF.past _ q2_4_2)) | exact CellF.keep hb3 (CellF.drewN _ q2_4_2))
          have c3_7_2 := q3_7_2.1
          have z3_7 : w.heap.size < w3.heap.size := ltc c3_7_0
          have q3_8_0 : CellF w3 ⟨w.heap.size + 1, 0, none⟩ (.int .i64 lo2) := (by first | exact CellF.keep hb3 q2_5_0 | exact CellF.keep hb3 (CellF.past _ q2_5_0) | exact CellF.keep hb3 (CellF.past _ (CellF.past _ q2_5_0)) | exact CellF.keep hb3 (CellF.drewN _ q2_5_0))
          have c3_8_0 := q3_8_0.1
          have q3_8_1 : CellF w3 ⟨w.heap.size + 1, 1, none⟩ (.int .i64 hi2) := (by first | exact CellF.keep hb3 q2_5_1 | exact CellF.keep hb3 (CellF.past _ q2_5_1) | exact CellF.keep hb3 (CellF.past _ (CellF.past _ q2_5_1)) | exact CellF.keep hb3 (CellF.drewN _ q2_5_1))
          have c3_8_1 := q3_8_1.1
          have q3_8_2 : CellF w3 ⟨w.heap.size + 1, 2, none⟩ (.bool k2) := (by first | exact CellF.keep hb3 q2_5_2 | exact CellF.keep hb3 (CellF.past _ q2_5_2) | exact CellF.keep hb3 (CellF.past _ (CellF.past _ q2_5_2)) | exact CellF.keep hb3 (CellF.drewN _ q2_5_2))
          have c3_8_2 := q3_8_2.1
          have z3_8 : w.heap.size + 1 < w3.heap.size := ltc c3_8_0
          have q3_9_0 : CellF w3 ⟨w.heap.size + 1 + 1, 0, none⟩ (.int .i64 0) := (by first | exact CellF.keep hb3 q2_6_0 | exact CellF.keep hb3 (CellF.past _ q2_6_0) | exact CellF.keep hb3 (CellF.past _ (CellF.past _ q2_6_0)) | exact CellF.keep hb3 (CellF.drewN _ q2_6_0))
          have c3_9_0 := q3_9_0.1
          have g3_9_0 := q3_9_0.2
          have q3_9_1 : CellF w3 ⟨w.heap.size + 1 + 1, 1, none⟩ (.int .i64 0) := (by first | exact CellF.keep hb3 q2_6_1 | exact CellF.keep hb3 (CellF.past _ q2_6_1) | exact CellF.keep hb3 (CellF.past _ (CellF.past _ q2_6_1)) | exact CellF.keep hb3 (CellF.drewN _ q2_6_1))
          have c3_9_1 := q3_9_1.1
          have g3_9_1 := q3_9_1.2
          have q3_9_2 : CellF w3 ⟨w.heap.size + 1 + 1, 2, none⟩ (.bool false) := (by first | exact CellF.keep hb3 q2_6_2 | exact CellF.keep hb3 (CellF.past _ q2_6_2) | exact CellF.keep hb3 (CellF.past _ (CellF.past _ q2_6_2)) | exact CellF.keep hb3 (CellF.drewN _ q2_6_2))
          have c3_9_2 := q3_9_2.1
          have g3_9_2 := q3_9_2.2
          have z3_9 : w.heap.size + 1 + 1 < w3.heap.size := ltc c3_9_0
          go_wp2_with fail
          refine (Of_is _ _ _ _ _ HM _).mono ?_
          rintro e w4 ⟨rfl, hb4⟩
          have q4_10_0 : CellF w4 ⟨w.heap.size + 1 + 1, 0, none⟩ (.int .i64 0) := (by first | exact CellF.keep hb4 q3_9_0 | exact CellF.keep hb4 (CellF.past _ q3_9_0) | exact CellF.keep hb4 (CellF.past _ (CellF.past _ q3_9_0)) | exact CellF.keep hb4 (CellF.drewN _ q3_9_0))
          have c4_10_0 := q4_10_0.1
          have g4_10_0 := q4_10_0.2
          have q4_10_1 : CellF w4 ⟨w.heap.size + 1 + 1, 1, none⟩ (.int .i64 0) := (by first | exact CellF.keep hb4 q3_9_1 | exact CellF.keep hb4 (CellF.past _ q3_9_1) | exact CellF.keep hb4 (CellF.past _ (CellF.past _ q3_9_1)) | exact CellF.keep hb4 (CellF.drewN _ q3_9_1))
          have c4_10_1 := q4_10_1.1
          have g4_10_1 := q4_10_1.2
          have q4_10_2 : CellF w4 ⟨w.heap.size + 1 + 1, 2, none⟩ (.bool false) := (by first | exact CellF.keep hb4 q3_9_2 | exact CellF.keep hb4 (CellF.past _ q3_9_2) | exact CellF.keep hb4 (CellF.past _ (CellF.past _ q3_9_2)) | exact CellF.keep hb4 (CellF.drewN _ q3_9_2))
          have c4_10_2 := q4_10_2.1
          have g4_10_2 := q4_10_2.2
          have z4_10 : w.heap.size + 1 + 1 < w4.heap.size := ltc c4_10_0
          go_wp2
          exact bodyPost_ret (v := .agg #[.int .i64 x, .int .i64 y, .bool z]) (by simp [results, Try.results43, go_sem, c4_10_0, c4_10_1, c4_10_2]) rfl ⟨rfl, (by repeat (first | exact brefl _ | refine balloc ?_ _ | refine bdrewN ?_ _ | refine bset ?_ (by dsimp only; omega) _ | refine bstep ?_ (by assumption)))⟩
        · rw [if_neg h2] at hp
          have HM := Lib.hid hp
          clear hp
          go_enter Try.func43, Try.ntmps43
          go_wp2_with fail
          refine (known1 _ _ _ _ HQ _ _ (by go_simp) (by go_simp) (by go_simp)).mono ?_
          rintro e w1 ⟨rfl, hb1⟩
          have q1_1_0 : CellF w1 ⟨w.heap.size, 0, none⟩ (.int .i64 lo) := (by refine CellF.keep hb1 ?_; refine ⟨?_, ?_⟩ <;> go_simp)
          have c1_1_0 := q1_1_0.1
          have q1_1_1 : CellF w1 ⟨w.heap.size, 1, none⟩ (.int .i64 hi) := (by refine CellF.keep hb1 ?_; refine ⟨?_, ?_⟩ <;> go_simp)
          have c1_1_1 := q1_1_1.1
          have q1_1_2 : CellF w1 ⟨w.heap.size, 2, none⟩ (.bool k) := (by refine CellF.keep hb1 ?_; refine ⟨?_, ?_⟩ <;> go_simp)
          have c1_1_2 := q1_1_2.1
          have z1_1 : w.heap.size < w1.heap.size := ltc c1_1_0
          have q1_2_0 : CellF w1 ⟨w.heap.size + 1, 0, none⟩ (.int .i64 lo2) := (by refine CellF.keep hb1 ?_; refine ⟨?_, ?_⟩ <;> go_simp)
          have c1_2_0 := q1_2_0.1
          have q1_2_1 : CellF w1 ⟨w.heap.size + 1, 1, none⟩ (.int .i64 hi2) := (by refine CellF.keep hb1 ?_; refine ⟨?_, ?_⟩ <;> go_simp)
          have c1_2_1 := q1_2_1.1
          have q1_2_2 : CellF w1 ⟨w.heap.size + 1, 2, none⟩ (.bool k2) := (by refine CellF.keep hb1 ?_; refine ⟨?_, ?_⟩ <;> go_simp)
          have c1_2_2 := q1_2_2.1
          have z1_2 : w.heap.size + 1 < w1.heap.size := ltc c1_2_0
          have q1_3_0 : CellF w1 ⟨w.heap.size + 1 + 1, 0, none⟩ (.int .i64 0) := (by refine CellF.keep hb1 ?_; refine ⟨?_, ?_⟩ <;> go_simp)
          have c1_3_0 := q1_3_0.1
          have g1_3_0 := q1_3_0.2
          have q1_3_1 : CellF w1 ⟨w.heap.size + 1 + 1, 1, none⟩ (.int .i64 0) := (by refine CellF.keep hb1 ?_; refine ⟨?_, ?_⟩ <;> go_simp)
          have c1_3_1 := q1_3_1.1
          have g1_3_1 := q1_3_1.2
          have q1_3_2 : CellF w1 ⟨w.heap.size + 1 + 1, 2, none⟩ (.bool false) := (by refine CellF.keep hb1 ?_; refine ⟨?_, ?_⟩ <;> go_simp)
          have c1_3_2 := q1_3_2.1
          have g1_3_2 := q1_3_2.2
          have z1_3 : w.heap.size + 1 + 1 < w1.heap.size := ltc c1_3_0
          go_wp2_with fail
          refine (known1 _ _ _ _ HQ _ _ (by go_simp) (by go_simp) (by go_simp)).mono ?_
          rintro e w2 ⟨rfl, hb2⟩
          have q2_4_0 : CellF w2 ⟨w.heap.size, 0, none⟩ (.int .i64 lo) := (by first | exact CellF.keep hb2 q1_1_0 | exact CellF.keep hb2 (CellF.past _ q1_1_0) | exact CellF.keep hb2 (CellF.past _ (CellF.past _ q1_1_0)) | exact CellF.keep hb2 (CellF.drewN _ q1_1_0))
          have c2_4_0 := q2_4_0.1
          have q2_4_1 : CellF w2 ⟨w.heap.size, 1, none⟩ (.int .i64 hi) := (by first | exact CellF.keep hb2 q1_1_1 | exact CellF.keep hb2 (CellF.past _ q1_1_1) | exact CellF.keep hb2 (CellF.past _ (CellF.past _ q1_1_1)) | exact CellF.keep hb2 (CellF.drewN _ q1_1_1))
          have c2_4_1 := q2_4_1.1
          have q2_4_2 : CellF w2 ⟨w.heap.size, 2, none⟩ (.bool k) := (by first | exact CellF.keep hb2 q1_1_2 | exact CellF.keep hb2 (CellF.past _ q1_1_2) | exact CellF.keep hb2 (CellF.past _ (CellF.past _ q1_1_2)) | exact CellF.keep hb2 (CellF.drewN _ q1_1_2))
          have c2_4_2 := q2_4_2.1
          have z2_4 : w.heap.size < w2.heap.size := ltc c2_4_0
          have q2_5_0 : CellF w2 ⟨w.heap.size + 1, 0, none⟩ (.int .i64 lo2) := (by first | exact CellF.keep hb2 q1_2_0 | exact CellF.keep hb2 (CellF.past _ q1_2_0) | exact CellF.keep hb2 (CellF.past _ (CellF.past _ q1_2_0)) | exact CellF.keep hb2 (CellF.drewN _ q1_2_0))
          have c2_5_0 := q2_5_0.1
          have q2_5_1 : CellF w2 ⟨w.heap.size + 1, 1, none⟩ (.int .i64 hi2) := (by first | exact CellF.keep hb2 q1_2_1 | exact CellF.keep hb2 (CellF.past _ q1_2_1) | exact CellF.keep hb2 (CellF.past _ (CellF.past _ q1_2_1)) | exact CellF.keep hb2 (CellF.drewN _ q1_2_1))
          have c2_5_1 := q2_5_1.1
          have q2_5_2 : CellF w2 ⟨w.heap.size + 1, 2, none⟩ (.bool k2) := (by first | exact CellF.keep hb2 q1_2_2 | exact CellF.keep hb2 (CellF.past _ q1_2_2) | exact CellF.keep hb2 (CellF.past _ (CellF.past _ q1_2_2)) | exact CellF.keep hb2 (CellF.drewN _ q1_2_2))
          have c2_5_2 := q2_5_2.1
          have z2_5 : w.heap.size + 1 < w2.heap.size := ltc c2_5_0
          have q2_6_0 : CellF w2 ⟨w.heap.size + 1 + 1, 0, none⟩ (.int .i64 0) := (by first | exact CellF.keep hb2 q1_3_0 | exact CellF.keep hb2 (CellF.past _ q1_3_0) | exact CellF.keep hb2 (CellF.past _ (CellF.past _ q1_3_0)) | exact CellF.keep hb2 (CellF.drewN _ q1_3_0))
          have c2_6_0 := q2_6_0.1
          have g2_6_0 := q2_6_0.2
          have q2_6_1 : CellF w2 ⟨w.heap.size + 1 + 1, 1, none⟩ (.int .i64 0) := (by first | exact CellF.keep hb2 q1_3_1 | exact CellF.keep hb2 (CellF.past _ q1_3_1) | exact CellF.keep hb2 (CellF.past _ (CellF.past _ q1_3_1)) | exact CellF.keep hb2 (CellF.drewN _ q1_3_1))
          have c2_6_1 := q2_6_1.1
          have g2_6_1 := q2_6_1.2
          have q2_6_2 : CellF w2 ⟨w.heap.size + 1 + 1, 2, none⟩ (.bool false) := (by first | exact CellF.keep hb2 q1_3_2 | exact CellF.keep hb2 (CellF.past _ q1_3_2) | exact CellF.keep hb2 (CellF.past _ (CellF.past _ q1_3_2)) | exact CellF.keep hb2 (CellF.drewN _ q1_3_2))
          have c2_6_2 := q2_6_2.1
          have g2_6_2 := q2_6_2.2
          have z2_6 : w.heap.size + 1 + 1 < w2.heap.size := ltc c2_6_0
          go_wp2_with fail
          refine (known1 _ _ _ _ HR _ _ (by go_simp) (by go_simp) (by go_simp)).mono ?_
          rintro e w3 ⟨rfl, hb3⟩
          have q3_7_0 : CellF w3 ⟨w.heap.size, 0, none⟩ (.int .i64 lo) := (by first | exact CellF.keep hb3 q2_4_0 | exact CellF.keep hb3 (CellF.past _ q2_4_0) | exact CellF.keep hb3 (CellF.past _ (CellF.past _ q2_4_0)) | exact CellF.keep hb3 (CellF.drewN _ q2_4_0))
          have c3_7_0 := q3_7_0.1
          have q3_7_1 : CellF w3 ⟨w.heap.size, 1, none⟩ (.int .i64 hi) := (by first | exact CellF.keep hb3 q2_4_1 | exact CellF.keep hb3 (CellF.past _ q2_4_1) | exact CellF.keep hb3 (CellF.past _ (CellF.past _ q2_4_1)) | exact CellF.keep hb3 (CellF.drewN _ q2_4_1))
          have c3_7_1 := q3_7_1.1
          have q3_7_2 : CellF w3 ⟨w.heap.size, 2, none⟩ (.bool k) := (by first | exact CellF.keep hb3 q2_4_2 | exact CellF.keep hb3 (CellF.past _ q2_4_2) | exact CellF.keep hb3 (CellF.past _ (CellF.past _ q2_4_2)) | exact CellF.keep hb3 (CellF.drewN _ q2_4_2))
          have c3_7_2 := q3_7_2.1
          have z3_7 : w.heap.size < w3.heap.size := ltc c3_7_0
          have q3_8_0 : CellF w3 ⟨w.heap.size + 1, 0, none⟩ (.int .i64 lo2) := (by first | exact CellF.keep hb3 q2_5_0 | exact CellF.keep hb3 (CellF.past _ q2_5_0) | exact CellF.keep hb3 (CellF.past _ (CellF.past _ q2_5_0)) | exact CellF.keep hb3 (CellF.drewN _ q2_5_0))
          have c3_8_0 := q3_8_0.1
          have q3_8_1 : CellF w3 ⟨w.heap.size + 1, 1, none⟩ (.int .i64 hi2) := (by first | exact CellF.keep hb3 q2_5_1 | exact CellF.keep hb3 (CellF.past _ q2_5_1) | exact CellF.keep hb3 (CellF.past _ (CellF.past _ q2_5_1)) | exact CellF.keep hb3 (CellF.drewN _ q2_5_1))
          have c3_8_1 := q3_8_1.1
          have q3_8_2 : CellF w3 ⟨w.heap.size + 1, 2, none⟩ (.bool k2) := (by first | exact CellF.keep hb3 q2_5_2 | exact CellF.keep hb3 (CellF.past _ q2_5_2) | exact CellF.keep hb3 (CellF.past _ (CellF.past _ q2_5_2)) | exact CellF.keep hb3 (CellF.drewN _ q2_5_2))
          have c3_8_2 := q3_8_2.1
          have z3_8 : w.heap.size + 1 < w3.heap.size := ltc c3_8_0
          have q3_9_0 : CellF w3 ⟨w.heap.size + 1 + 1, 0, none⟩ (.int .i64 0) := (by first | exact CellF.keep hb3 q2_6_0 | exact CellF.keep hb3 (CellF.past _ q2_6_0) | exact CellF.keep hb3 (CellF.past _ (CellF.past _ q2_6_0)) | exact CellF.keep hb3 (CellF.drewN _ q2_6_0))
          have c3_9_0 := q3_9_0.1
          have g3_9_0 := q3_9_0.2
          have q3_9_1 : CellF w3 ⟨w.heap.size + 1 + 1, 1, none⟩ (.int .i64 0) := (by first | exact CellF.keep hb3 q2_6_1 | exact CellF.keep hb3 (CellF.past _ q2_6_1) | exact CellF.keep hb3 (CellF.past _ (CellF.past _ q2_6_1)) | exact CellF.keep hb3 (CellF.drewN _ q2_6_1))
          have c3_9_1 := q3_9_1.1
          have g3_9_1 := q3_9_1.2
          have q3_9_2 : CellF w3 ⟨w.heap.size + 1 + 1, 2, none⟩ (.bool false) := (by first | exact CellF.keep hb3 q2_6_2 | exact CellF.keep hb3 (CellF.past _ q2_6_2) | exact CellF.keep hb3 (CellF.past _ (CellF.past _ q2_6_2)) | exact CellF.keep hb3 (CellF.drewN _ q2_6_2))
          have c3_9_2 := q3_9_2.1
          have g3_9_2 := q3_9_2.2
          have z3_9 : w.heap.size + 1 + 1 < w3.heap.size := ltc c3_9_0
          go_wp2_with fail
          refine (Of_is _ _ _ _ _ HM _).mono ?_
          rintro e w4 ⟨rfl, hb4⟩
          have q4_10_0 : CellF w4 ⟨w.heap.size + 1 + 1, 0, none⟩ (.int .i64 0) := (by first | exact CellF.keep hb4 q3_9_0 | exact CellF.keep hb4 (CellF.past _ q3_9_0) | exact CellF.keep hb4 (CellF.past _ (CellF.past _ q3_9_0)) | exact CellF.keep hb4 (CellF.drewN _ q3_9_0))
          have c4_10_0 := q4_10_0.1
          have g4_10_0 := q4_10_0.2
          have q4_10_1 : CellF w4 ⟨w.heap.size + 1 + 1, 1, none⟩ (.int .i64 0) := (by first | exact CellF.keep hb4 q3_9_1 | exact CellF.keep hb4 (CellF.past _ q3_9_1) | exact CellF.keep hb4 (CellF.past _ (CellF.past _ q3_9_1)) | exact CellF.keep hb4 (CellF.drewN _ q3_9_1))
          have c4_10_1 := q4_10_1.1
          have g4_10_1 := q4_10_1.2
          have q4_10_2 : CellF w4 ⟨w.heap.size + 1 + 1, 2, none⟩ (.bool false) := (by first | exact CellF.keep hb4 q3_9_2 | exact CellF.keep hb4 (CellF.past _ q3_9_2) | exact CellF.keep hb4 (CellF.past _ (CellF.past _ q3_9_2)) | exact CellF.keep hb4 (CellF.drewN _ q3_9_2))
          have c4_10_2 := q4_10_2.1
          have g4_10_2 := q4_10_2.2
          have z4_10 : w.heap.size + 1 + 1 < w4.heap.size := ltc c4_10_0
          go_wp2
          exact bodyPost_ret (v := .agg #[.int .i64 x, .int .i64 y, .bool z]) (by simp [results, Try.results43, go_sem, c4_10_0, c4_10_1, c4_10_2]) rfl ⟨rfl, (by repeat (first | exact brefl _ | refine balloc ?_ _ | refine bdrewN ?_ _ | refine bset ?_ (by dsimp only; omega) _ | refine bstep ?_ (by assumption)))⟩
end Go.Proofs.Ytnphbdhcoiaklaa
namespace Go.Proofs.Ytnphbdhcoiaklaa
open Go.RowKit

theorem Unknown_is (w : World) : Calls Try.prog 99 #[] w fun e w' => e = .returned (.agg #[.int .i64 0, .int .i64 0, .bool false]) ∧ Below w.heap.size w w' := by
  go_enter Try.func99, Try.ntmps99
  go_wp2
  exact bodyPost_ret (v := .agg #[.int .i64 0, .int .i64 0, .bool false]) (by simp [results, Try.results99, go_sem]) rfl ⟨rfl, (by repeat (first | exact brefl _ | refine balloc ?_ _ | refine bdrewN ?_ _ | refine bset ?_ (by dsimp only; omega) _ | refine bstep ?_ (by assumption)))⟩

set_option maxHeartbeats 1000000 in
theorem Hull_is (lo hi lo2 hi2 x y : Int) (k k2 z : Bool) (H : Hid (spHull ⟨lo, hi, k⟩ ⟨lo2, hi2, k2⟩ = ⟨x, y, z⟩)) (w : World) :
    Calls Try.prog 45 #[.agg #[.int .i64 lo, .int .i64 hi, .bool k], .agg #[.int .i64 lo2, .int .i64 hi2, .bool k2]] w fun e w' => e = .returned (.agg #[.int .i64 x, .int .i64 y, .bool z]) ∧ Below w.heap.size w w' := by
  obtain ⟨q, hq⟩ : ∃ q, (spK ⟨lo, hi, k⟩ && spK ⟨lo2, hi2, k2⟩) = q := ⟨_, rfl⟩
  have hp := H.out
  unfold spHull at hp
  rw [hq] at hp
  have HQ := Lib.hid hq
  clear H hq
  cases q with
  | false =>
    cases hp
    go_enter Try.func45, Try.ntmps45
    go_wp2_with fail
    refine (known2 _ _ _ _ _ _ _ HQ _ _ (by go_simp) (by go_simp) (by go_simp) (by go_simp) (by go_simp) (by go_simp) (by go_simp)).mono ?_
    rintro e w1 ⟨rfl, hb1⟩
    have q1_1_0 : CellF w1 ⟨w.heap.size + 1 + 1, 0, none⟩ (.int .i64 0) := (by refine CellF.keep hb1 ?_; refine ⟨?_, ?_⟩ <;> go_simp)
    have c1_1_0 := q1_1_0.1
    have g1_1_0 := q1_1_0.2
    have q1_1_1 : CellF w1 ⟨w.heap.size + 1 + 1, 1, none⟩ (.int .i64 0) := (by refine CellF.keep hb1 ?_; refine ⟨?_, ?_⟩ <;> go_simp)
    have c1_1_1 := q1_1_1.1
    have g1_1_1 := q1_1_1.2
    have q1_1_2 : CellF w1 ⟨w.heap.size + 1 + 1, 2, none⟩ (.bool false) := (by refine CellF.keep hb1 ?_; refine ⟨?_, ?_⟩ <;> go_simp)
    have c1_1_2 := q1_1_2.1
    have g1_1_2 := q1_1_2.2
    have z1_1 : w.heap.size + 1 + 1 < w1.heap.size := ltc c1_1_0
    go_wp2
    exact bodyPost_ret (v := .agg #[.int .i64 0, .int .i64 0, .bool false]) (by simp [results, Try.results45, go_sem, c1_1_0, c1_1_1, c1_1_2]) rfl ⟨rfl, (by repeat (first | exact brefl _ | refine balloc ?_ _ | refine bdrewN ?_ _ | refine bset ?_ (by dsimp only; omega) _ | refine bstep ?_ (by assumption)))⟩
  | true =>
    rw [if_pos rfl] at hp
    by_cases h1 : lo ≤ lo2
    · rw [if_pos h1] at hp
      by_cases h2 : hi2 ≤ hi
      · rw [if_pos h2] at hp
        have HM := Lib.hid hp
        clear hp
        go_enter Try.func45, Try.ntmps45
        go_wp2_with fail
        refine (known2 _ _ _ _ _ _ _ HQ _ _ (by go_simp) (by go_simp) (by go_simp) (by go_simp) (by go_simp) (by go_simp) (by go_simp)).mono ?_
        rintro e w1 ⟨rfl, hb1⟩
        have q1_1_0 : CellF w1 ⟨w.heap.size, 0, none⟩ (.int .i64 lo) := (by refine CellF.keep hb1 ?_; refine ⟨?_, ?_⟩ <;> go_simp)
        have c1_1_0 := q1_1_0.1
        have q1_1_1 : CellF w1 ⟨w.heap.size, 1, none⟩ (.int .i64 hi) := (by refine CellF.keep hb1 ?_; refine ⟨?_, ?_⟩ <;> go_simp)
        have c1_1_1 := q1_1_1.1
        have q1_1_2 : CellF w1 ⟨w.heap.size, 2, none⟩ (.bool k) := (by refine CellF.keep hb1 ?_; refine ⟨?_, ?_⟩ <;> go_simp)
        have c1_1_2 := q1_1_2.1
        have z1_1 : w.heap.size < w1.heap.size := ltc c1_1_0
        have q1_2_0 : CellF w1 ⟨w.heap.size + 1, 0, none⟩ (.int .i64 lo2) := (by refine CellF.keep hb1 ?_; refine ⟨?_, ?_⟩ <;> go_simp)
        have c1_2_0 := q1_2_0.1
        have q1_2_1 : CellF w1 ⟨w.heap.size + 1, 1, none⟩ (.int .i64 hi2) := (by refine CellF.keep hb1 ?_; refine ⟨?_, ?_⟩ <;> go_simp)
        have c1_2_1 := q1_2_1.1
        have q1_2_2 : CellF w1 ⟨w.heap.size + 1, 2, none⟩ (.bool k2) := (by refine CellF.keep hb1 ?_; refine ⟨?_, ?_⟩ <;> go_simp)
        have c1_2_2 := q1_2_2.1
        have z1_2 : w.heap.size + 1 < w1.heap.size := ltc c1_2_0
        have q1_3_0 : CellF w1 ⟨w.heap.size + 1 + 1, 0, none⟩ (.int .i64 0) := (by refine CellF.keep hb1 ?_; refine ⟨?_, ?_⟩ <;> go_simp)
        have c1_3_0 := q1_3_0.1
        have g1_3_0 := q1_3_0.2
        have q1_3_1 : CellF w1 ⟨w.heap.size + 1 + 1, 1, none⟩ (.int .i64 0) := (by refine CellF.keep hb1 ?_; refine ⟨?_, ?_⟩ <;> go_simp)
        have c1_3_1 := q1_3_1.1
        have g1_3_1 := q1_3_1.2
        have q1_3_2 : CellF w1 ⟨w.heap.size + 1 + 1, 2, none⟩ (.bool false) := (by refine CellF.keep hb1 ?_; refine ⟨?_, ?_⟩ <;> go_simp)
        have c1_3_2 := q1_3_2.1
        have g1_3_2 := q1_3_2.2
        have z1_3 : w.heap.size + 1 + 1 < w1.heap.size := ltc c1_3_0
        go_wp2_with fail
        refine (Of_is _ _ _ _ _ HM _).mono ?_
        rintro e w2 ⟨rfl, hb2⟩
        have q2_4_0 : CellF w2 ⟨w.heap.size + 1 + 1, 0, none⟩ (.int .i64 0) := (by first | exact CellF.keep hb2 q1_3_0 | exact CellF.keep hb2 (CellF.past _ q1_3_0) | exact CellF.keep hb2 (CellF.past _ (CellF.past _ q1_3_0)) | exact CellF.keep hb2 (CellF.drewN _ q1_3_0))
        have c2_4_0 := q2_4_0.1
        have g2_4_0 := q2_4_0.2
        have q2_4_1 : CellF w2 ⟨w.heap.size + 1 + 1, 1, none⟩ (.int .i64 0) := (by first | exact CellF.keep hb2 q1_3_1 | exact CellF.keep hb2 (CellF.past _ q1_3_1) | exact CellF.keep hb2 (CellF.past _ (CellF.past _ q1_3_1)) | exact CellF.keep hb2 (CellF.drewN _ q1_3_1))
        have c2_4_1 := q2_4_1.1
        have g2_4_1 := q2_4_1.2
        have q2_4_2 : CellF w2 ⟨w.heap.size + 1 + 1, 2, none⟩ (.bool false) := (by first | exact CellF.keep hb2 q1_3_2 | exact CellF.keep hb2 (CellF.past _ q1_3_2) | exact CellF.keep hb2 (CellF.past _ (CellF.past _ q1_3_2)) | exact CellF.keep hb2 (CellF.drewN _ q1_3_2))
        have c2_4_2 := q2_4_2.1
        have g2_4_2 := q2_4_2.2
        have z2_4 : w.heap.size + 1 + 1 < w2.heap.size := ltc c2_4_0
        go_wp2
        exact bodyPost_ret (v := .agg #[.int .i64 x, .int .i64 y, .bool z]) (by simp [results, Try.results45, go_sem, c2_4_0, c2_4_1, c2_4_2]) rfl ⟨rfl, (by repeat (first | exact brefl _ | refine balloc ?_ _ | refine bdrewN ?_ _ | refine bset ?_ (by dsimp only; omega) _ | refine bstep ?_ (by assumption)))⟩
      · rw [if_neg h2] at hp
        have HM := Lib.hid hp
        clear hp
        go_enter Try.func45, Try.ntmps45
        go_wp2_with fail
        refine (known2 _ _ _ _ _ _ _ HQ _ _ (by go_simp) (by go_simp) (by go_simp) (by go_simp) (by go_simp) (by go_simp) (by go_simp)).mono ?_
        rintro e w1 ⟨rfl, hb1⟩
        have q1_1_0 : CellF w1 ⟨w.heap.size, 0, none⟩ (.int .i64 lo) := (by refine CellF.keep hb1 ?_; refine ⟨?_, ?_⟩ <;> go_simp)
        have c1_1_0 := q1_1_0.1
        have q1_1_1 : CellF w1 ⟨w.heap.size, 1, none⟩ (.int .i64 hi) := (by refine CellF.keep hb1 ?_; refine ⟨?_, ?_⟩ <;> go_simp)
        have c1_1_1 := q1_1_1.1
        have q1_1_2 : CellF w1 ⟨w.heap.size, 2, none⟩ (.bool k) := (by refine CellF.keep hb1 ?_; refine ⟨?_, ?_⟩ <;> go_simp)
        have c1_1_2 := q1_1_2.1
        have z1_1 : w.heap.size < w1.heap.size := ltc c1_1_0
        have q1_2_0 : CellF w1 ⟨w.heap.size + 1, 0, none⟩ (.int .i64 lo2) := (by refine CellF.keep hb1 ?_; refine ⟨?_, ?_⟩ <;> go_simp)
        have c1_2_0 := q1_2_0.1
        have q1_2_1 : CellF w1 ⟨w.heap.size + 1, 1, none⟩ (.int .i64 hi2) := (by refine CellF.keep hb1 ?_; refine ⟨?_, ?_⟩ <;> go_simp)
        have c1_2_1 := q1_2_1.1
        have q1_2_2 : CellF w1 ⟨w.heap.size + 1, 2, none⟩ (.bool k2) := (by refine CellF.keep hb1 ?_; refine ⟨?_, ?_⟩ <;> go_simp)
        have c1_2_2 := q1_2_2.1
        have z1_2 : w.heap.size + 1 < w1.heap.size := ltc c1_2_0
        have q1_3_0 : CellF w1 ⟨w.heap.size + 1 + 1, 0, none⟩ (.int .i64 0) := (by refine CellF.keep hb1 ?_; refine ⟨?_, ?_⟩ <;> go_simp)
        have c1_3_0 := q1_3_0.1
        have g1_3_0 := q1_3_0.2
        have q1_3_1 : CellF w1 ⟨w.heap.size + 1 + 1, 1, none⟩ (.int .i64 0) := (by refine CellF.keep hb1 ?_; refine ⟨?_, ?_⟩ <;> go_simp)
        have c1_3_1 := q1_3_1.1
        have g1_3_1 := q1_3_1.2
        have q1_3_2 : CellF w1 ⟨w.heap.size + 1 + 1, 2, none⟩ (.bool false) := (by refine CellF.keep hb1 ?_; refine ⟨?_, ?_⟩ <;> go_simp)
        have c1_3_2 := q1_3_2.1
        have g1_3_2 := q1_3_2.2
        have z1_3 : w.heap.size + 1 + 1 < w1.heap.size := ltc c1_3_0
        go_wp2_with fail
        refine (Of_is _ _ _ _ _ HM _).mono ?_
        rintro e w2 ⟨rfl, hb2⟩
        have q2_4_0 : CellF w2 ⟨w.heap.size + 1 + 1, 0, none⟩ (.int .i64 0) := (by first | exact CellF.keep hb2 q1_3_0 | exact CellF.keep hb2 (CellF.past _ q1_3_0) | exact CellF.keep hb2 (CellF.past _ (CellF.past _ q1_3_0)) | exact CellF.keep hb2 (CellF.drewN _ q1_3_0))
        have c2_4_0 := q2_4_0.1
        have g2_4_0 := q2_4_0.2
        have q2_4_1 : CellF w2 ⟨w.heap.size + 1 + 1, 1, none⟩ (.int .i64 0) := (by first | exact CellF.keep hb2 q1_3_1 | exact CellF.keep hb2 (CellF.past _ q1_3_1) | exact CellF.keep hb2 (CellF.past _ (CellF.past _ q1_3_1)) | exact CellF.keep hb2 (CellF.drewN _ q1_3_1))
        have c2_4_1 := q2_4_1.1
        have g2_4_1 := q2_4_1.2
        have q2_4_2 : CellF w2 ⟨w.heap.size + 1 + 1, 2, none⟩ (.bool false) := (by first | exact CellF.keep hb2 q1_3_2 | exact CellF.keep hb2 (CellF.past _ q1_3_2) | exact CellF.keep hb2 (CellF.past _ (CellF.past _ q1_3_2)) | exact CellF.keep hb2 (CellF.drewN _ q1_3_2))
        have c2_4_2 := q2_4_2.1
        have g2_4_2 := q2_4_2.2
        have z2_4 : w.heap.size + 1 + 1 < w2.heap.size := ltc c2_4_0
        go_wp2
        exact bodyPost_ret (v := .agg #[.int .i64 x, .int .i64 y, .bool z]) (by simp [results, Try.results45, go_sem, c2_4_0, c2_4_1, c2_4_2]) rfl ⟨rfl, (by repeat (first | exact brefl _ | refine balloc ?_ _ | refine bdrewN ?_ _ | refine bset ?_ (by dsimp only; omega) _ | refine bstep ?_ (by assumption)))⟩
    · rw [if_neg h1] at hp
      by_cases h2 : hi2 ≤ hi
      · rw [if_pos h2] at hp
        have HM := Lib.hid hp
        clear hp
        go_enter Try.func45, Try.ntmps45
        go_wp2_with fail
        refine (known2 _ _ _ _ _ _ _ HQ _ _ (by go_simp) (by go_simp) (by go_simp) (by go_simp) (by go_simp) (by go_simp) (by go_simp)).mono ?_
        rintro e w1 ⟨rfl, hb1⟩
        have q1_1_0 : CellF w1 ⟨w.heap.size, 0, none⟩ (.int .i64 lo) := (by refine CellF.keep hb1 ?_; refine ⟨?_, ?_⟩ <;> go_simp)
        have c1_1_0 := q1_1_0.1
        have q1_1_1 : CellF w1 ⟨w.heap.size, 1, none⟩ (.int .i64 hi) := (by refine CellF.keep hb1 ?_; refine ⟨?_, ?_⟩ <;> go_simp)
        have c1_1_1 := q1_1_1.1
        have q1_1_2 : CellF w1 ⟨w.heap.size, 2, none⟩ (.bool k) := (by refine CellF.keep hb1 ?_; refine ⟨?_, ?_⟩ <;> go_simp)
        have c1_1_2 := q1_1_2.1
        have z1_1 : w.heap.size < w1.heap.size := ltc c1_1_0
        have q1_2_0 : CellF w1 ⟨w.heap.size + 1, 0, none⟩ (.int .i64 lo2) := (by refine CellF.keep hb1 ?_; refine ⟨?_, ?_⟩ <;> go_simp)
        have c1_2_0 := q1_2_0.1
        have q1_2_1 : CellF w1 ⟨w.heap.size + 1, 1, none⟩ (.int .i64 hi2) := (by refine CellF.keep hb1 ?_; refine ⟨?_, ?_⟩ <;> go_simp)
        have c1_2_1 := q1_2_1.1
        have q1_2_2 : CellF w1 ⟨w.heap.size + 1, 2, none⟩ (.bool k2) := (by refine CellF.keep hb1 ?_; refine ⟨?_, ?_⟩ <;> go_simp)
        have c1_2_2 := q1_2_2.1
        have z1_2 : w.heap.size + 1 < w1.heap.size := ltc c1_2_0
        have q1_3_0 : CellF w1 ⟨w.heap.size + 1 + 1, 0, none⟩ (.int .i64 0) := (by refine CellF.keep hb1 ?_; refine ⟨?_, ?_⟩ <;> go_simp)
        have c1_3_0 := q1_3_0.1
        have g1_3_0 := q1_3_0.2
        have q1_3_1 : CellF w1 ⟨w.heap.size + 1 + 1, 1, none⟩ (.int .i64 0) := (by refine CellF.keep hb1 ?_; refine ⟨?_, ?_⟩ <;> go_simp)
        have c1_3_1 := q1_3_1.1
        have g1_3_1 := q1_3_1.2
        have q1_3_2 : CellF w1 ⟨w.heap.size + 1 + 1, 2, none⟩ (.bool false) := (by refine CellF.keep hb1 ?_; refine ⟨?_, ?_⟩ <;> go_simp)
        have c1_3_2 := q1_3_2.1
        have g1_3_2 := q1_3_2.2
        have z1_3 : w.heap.size + 1 + 1 < w1.heap.size := ltc c1_3_0
        go_wp2_with fail
        refine (Of_is _ _ _ _ _ HM _).mono ?_
        rintro e w2 ⟨rfl, hb2⟩
        have q2_4_0 : CellF w2 ⟨w.heap.size + 1 + 1, 0, none⟩ (.int .i64 0) := (by first | exact CellF.keep hb2 q1_3_0 | exact CellF.keep hb2 (CellF.past _ q1_3_0) | exact CellF.keep hb2 (CellF.past _ (CellF.past _ q1_3_0)) | exact CellF.keep hb2 (CellF.drewN _ q1_3_0))
        have c2_4_0 := q2_4_0.1
        have g2_4_0 := q2_4_0.2
        have q2_4_1 : CellF w2 ⟨w.heap.size + 1 + 1, 1, none⟩ (.int .i64 0) := (by first | exact CellF.keep hb2 q1_3_1 | exact CellF.keep hb2 (CellF.past _ q1_3_1) | exact CellF.keep hb2 (CellF.past _ (CellF.past _ q1_3_1)) | exact CellF.keep hb2 (CellF.drewN _ q1_3_1))
        have c2_4_1 := q2_4_1.1
        have g2_4_1 := q2_4_1.2
        have q2_4_2 : CellF w2 ⟨w.heap.size + 1 + 1, 2, none⟩ (.bool false) := (by first | exact CellF.keep hb2 q1_3_2 | exact CellF.keep hb2 (CellF.past _ q1_3_2) | exact CellF.keep hb2 (CellF.past _ (CellF.past _ q1_3_2)) | exact CellF.keep hb2 (CellF.drewN _ q1_3_2))
        have c2_4_2 := q2_4_2.1
        have g2_4_2 := q2_4_2.2
        have z2_4 : w.heap.size + 1 + 1 < w2.heap.size := ltc c2_4_0
        go_wp2
        exact bodyPost_ret (v := .agg #[.int .i64 x, .int .i64 y, .bool z]) (by simp [results, Try.results45, go_sem, c2_4_0, c2_4_1, c2_4_2]) rfl ⟨rfl, (by repeat (first | exact brefl _ | refine balloc ?_ _ | refine bdrewN ?_ _ | refine bset ?_ (by dsimp only; omega) _ | refine bstep ?_ (by assumption)))⟩
      · rw [if_neg h2] at hp
        have HM := Lib.hid hp
        clear hp
        go_enter Try.func45, Try.ntmps45
        go_wp2_with fail
        refine (known2 _ _ _ _ _ _ _ HQ _ _ (by go_simp) (by go_simp) (by go_simp) (by go_simp) (by go_simp) (by go_simp) (by go_simp)).mono ?_
        rintro e w1 ⟨rfl, hb1⟩
        have q1_1_0 : CellF w1 ⟨w.heap.size, 0, none⟩ (.int .i64 lo) := (by refine CellF.keep hb1 ?_; refine ⟨?_, ?_⟩ <;> go_simp)
        have c1_1_0 := q1_1_0.1
        have q1_1_1 : CellF w1 ⟨w.heap.size, 1, none⟩ (.int .i64 hi) := (by refine CellF.keep hb1 ?_; refine ⟨?_, ?_⟩ <;> go_simp)
        have c1_1_1 := q1_1_1.1
        have q1_1_2 : CellF w1 ⟨w.heap.size, 2, none⟩ (.bool k) := (by refine CellF.keep hb1 ?_; refine ⟨?_, ?_⟩ <;> go_simp)
        have c1_1_2 := q1_1_2.1
        have z1_1 : w.heap.size < w1.heap.size := ltc c1_1_0
        have q1_2_0 : CellF w1 ⟨w.heap.size + 1, 0, none⟩ (.int .i64 lo2) := (by refine CellF.keep hb1 ?_; refine ⟨?_, ?_⟩ <;> go_simp)
        have c1_2_0 := q1_2_0.1
        have q1_2_1 : CellF w1 ⟨w.heap.size + 1, 1, none⟩ (.int .i64 hi2) := (by refine CellF.keep hb1 ?_; refine ⟨?_, ?_⟩ <;> go_simp)
        have c1_2_1 := q1_2_1.1
        have q1_2_2 : CellF w1 ⟨w.heap.size + 1, 2, none⟩ (.bool k2) := (by refine CellF.keep hb1 ?_; refine ⟨?_, ?_⟩ <;> go_simp)
        have c1_2_2 := q1_2_2.1
        have z1_2 : w.heap.size + 1 < w1.heap.size := ltc c1_2_0
        have q1_3_0 : CellF w1 ⟨w.heap.size + 1 + 1, 0, none⟩ (.int .i64 0) := (by refine CellF.keep hb1 ?_; refine ⟨?_, ?_⟩ <;> go_simp)
        have c1_3_0 := q1_3_0.1
        have g1_3_0 := q1_3_0.2
        have q1_3_1 : CellF w1 ⟨w.heap.size + 1 + 1, 1, none⟩ (.int .i64 0) := (by refine CellF.keep hb1 ?_; refine ⟨?_, ?_⟩ <;> go_simp)
        have c1_3_1 := q1_3_1.1
        have g1_3_1 := q1_3_1.2
        have q1_3_2 : CellF w1 ⟨w.heap.size + 1 + 1, 2, none⟩ (.bool false) := (by refine CellF.keep hb1 ?_; refine ⟨?_, ?_⟩ <;> go_simp)
        have c1_3_2 := q1_3_2.1
        have g1_3_2 := q1_3_2.2
        have z1_3 : w.heap.size + 1 + 1 < w1.heap.size := ltc c1_3_0
        go_wp2_with fail
        refine (Of_is _ _ _ _ _ HM _).mono ?_
        rintro e w2 ⟨rfl, hb2⟩
        have q2_4_0 : CellF w2 ⟨w.heap.size + 1 + 1, 0, none⟩ (.int .i64 0) := (by first | exact CellF.keep hb2 q1_3_0 | exact CellF.keep hb2 (CellF.past _ q1_3_0) | exact CellF.keep hb2 (CellF.past _ (CellF.past _ q1_3_0)) | exact CellF.keep hb2 (CellF.drewN _ q1_3_0))
        have c2_4_0 := q2_4_0.1
        have g2_4_0 := q2_4_0.2
        have q2_4_1 : CellF w2 ⟨w.heap.size + 1 + 1, 1, none⟩ (.int .i64 0) := (by first | exact CellF.keep hb2 q1_3_1 | exact CellF.keep hb2 (CellF.past _ q1_3_1) | exact CellF.keep hb2 (CellF.past _ (CellF.past _ q1_3_1)) | exact CellF.keep hb2 (CellF.drewN _ q1_3_1))
        have c2_4_1 := q2_4_1.1
        have g2_4_1 := q2_4_1.2
        have q2_4_2 : CellF w2 ⟨w.heap.size + 1 + 1, 2, none⟩ (.bool false) := (by first | exact CellF.keep hb2 q1_3_2 | exact CellF.keep hb2 (CellF.past _ q1_3_2) | exact CellF.keep hb2 (CellF.past _ (CellF.past _ q1_3_2)) | exact CellF.keep hb2 (CellF.drewN _ q1_3_2))
        have c2_4_2 := q2_4_2.1
        have g2_4_2 := q2_4_2.2
        have z2_4 : w.heap.size + 1 + 1 < w2.heap.size := ltc c2_4_0
        go_wp2
        exact bodyPost_ret (v := .agg #[.int .i64 x, .int .i64 y, .bool z]) (by simp [results, Try.results45, go_sem, c2_4_0, c2_4_1, c2_4_2]) rfl ⟨rfl, (by repeat (first | exact brefl _ | refine balloc ?_ _ | refine bdrewN ?_ _ | refine bset ?_ (by dsimp only; omega) _ | refine bstep ?_ (by assumption)))⟩

theorem Drift_is (lo hi passed ppb x y : Int) (k z : Bool) (H : Hid (spDrift ⟨lo, hi, k⟩ passed ppb = ⟨x, y, z⟩)) (w : World) :
    Calls Try.prog 60 #[.agg #[.int .i64 lo, .int .i64 hi, .bool k], .int .i64 passed, .int .i64 ppb] w fun e w' => e = .returned (.agg #[.int .i64 x, .int .i64 y, .bool z]) ∧ Below w.heap.size w w' := by
  obtain ⟨n, p, hn⟩ : ∃ n p, ceilP passed ppb 1000000000 = (n, p) := ⟨_, _, rfl⟩
  have hp := H.out
  unfold spDrift at hp
  rw [hn] at hp
  have HC := Lib.hid hn
  clear H hn
  cases p with
  | false =>
    rw [if_pos (.inl rfl)] at hp
    cases hp
    go_enter Try.func60, Try.ntmps60
    go_wp2_with fail
    refine (Ceil_is _ _ _ _ _ HC _).mono ?_
    rintro e w1 ⟨rfl, hb1⟩
    have q1_1_0 : CellF w1 ⟨w.heap.size + 1, 0, none⟩ (.int .i64 0) := (by refine CellF.keep hb1 ?_; refine ⟨?_, ?_⟩ <;> go_simp)
    have c1_1_0 := q1_1_0.1
    have g1_1_0 := q1_1_0.2
    have q1_1_1 : CellF w1 ⟨w.heap.size + 1, 1, none⟩ (.int .i64 0) := (by refine CellF.keep hb1 ?_; refine ⟨?_, ?_⟩ <;> go_simp)
    have c1_1_1 := q1_1_1.1
    have g1_1_1 := q1_1_1.2
    have q1_1_2 : CellF w1 ⟨w.heap.size + 1, 2, none⟩ (.bool false) := (by refine CellF.keep hb1 ?_; refine ⟨?_, ?_⟩ <;> go_simp)
    have c1_1_2 := q1_1_2.1
    have g1_1_2 := q1_1_2.2
    have z1_1 : w.heap.size + 1 < w1.heap.size := ltc c1_1_0
    go_wp2
    exact bodyPost_ret (v := .agg #[.int .i64 0, .int .i64 0, .bool false]) (by simp [results, Try.results60, go_sem, c1_1_0, c1_1_1, c1_1_2]) rfl ⟨rfl, (by repeat (first | exact brefl _ | refine balloc ?_ _ | refine bdrewN ?_ _ | refine bset ?_ (by dsimp only; omega) _ | refine bstep ?_ (by assumption)))⟩
  | true =>
    by_cases h1 : passed < 0
    · rw [if_pos (.inr (.inl h1))] at hp
      cases hp
      go_enter Try.func60, Try.ntmps60
      go_wp2_with fail
      refine (Ceil_is _ _ _ _ _ HC _).mono ?_
      rintro e w1 ⟨rfl, hb1⟩
      have q1_1_0 : CellF w1 ⟨w.heap.size + 1, 0, none⟩ (.int .i64 0) := (by refine CellF.keep hb1 ?_; refine ⟨?_, ?_⟩ <;> go_simp)
      have c1_1_0 := q1_1_0.1
      have g1_1_0 := q1_1_0.2
      have q1_1_1 : CellF w1 ⟨w.heap.size + 1, 1, none⟩ (.int .i64 0) := (by refine CellF.keep hb1 ?_; refine ⟨?_, ?_⟩ <;> go_simp)
      have c1_1_1 := q1_1_1.1
      have g1_1_1 := q1_1_1.2
      have q1_1_2 : CellF w1 ⟨w.heap.size + 1, 2, none⟩ (.bool false) := (by refine CellF.keep hb1 ?_; refine ⟨?_, ?_⟩ <;> go_simp)
      have c1_1_2 := q1_1_2.1
      have g1_1_2 := q1_1_2.2
      have z1_1 : w.heap.size + 1 < w1.heap.size := ltc c1_1_0
      go_wp2
      exact bodyPost_ret (v := .agg #[.int .i64 0, .int .i64 0, .bool false]) (by simp [results, Try.results60, go_sem, c1_1_0, c1_1_1, c1_1_2]) rfl ⟨rfl, (by repeat (first | exact brefl _ | refine balloc ?_ _ | refine bdrewN ?_ _ | refine bset ?_ (by dsimp only; omega) _ | refine bstep ?_ (by assumption)))⟩
    · by_cases h2 : ppb < 0
      · rw [if_pos (.inr (.inr (.inl h2)))] at hp
        cases hp
        go_enter Try.func60, Try.ntmps60
        go_wp2_with fail
        refine (Ceil_is _ _ _ _ _ HC _).mono ?_
        rintro e w1 ⟨rfl, hb1⟩
        have q1_1_0 : CellF w1 ⟨w.heap.size + 1, 0, none⟩ (.int .i64 0) := (by refine CellF.keep hb1 ?_; refine ⟨?_, ?_⟩ <;> go_simp)
        have c1_1_0 := q1_1_0.1
        have g1_1_0 := q1_1_0.2
        have q1_1_1 : CellF w1 ⟨w.heap.size + 1, 1, none⟩ (.int .i64 0) := (by refine CellF.keep hb1 ?_; refine ⟨?_, ?_⟩ <;> go_simp)
        have c1_1_1 := q1_1_1.1
        have g1_1_1 := q1_1_1.2
        have q1_1_2 : CellF w1 ⟨w.heap.size + 1, 2, none⟩ (.bool false) := (by refine CellF.keep hb1 ?_; refine ⟨?_, ?_⟩ <;> go_simp)
        have c1_1_2 := q1_1_2.1
        have g1_1_2 := q1_1_2.2
        have z1_1 : w.heap.size + 1 < w1.heap.size := ltc c1_1_0
        go_wp2
        exact bodyPost_ret (v := .agg #[.int .i64 0, .int .i64 0, .bool false]) (by simp [results, Try.results60, go_sem, c1_1_0, c1_1_1, c1_1_2]) rfl ⟨rfl, (by repeat (first | exact brefl _ | refine balloc ?_ _ | refine bdrewN ?_ _ | refine bset ?_ (by dsimp only; omega) _ | refine bstep ?_ (by assumption)))⟩
      · by_cases h3 : 1000000000 < ppb
        · rw [if_pos (.inr (.inr (.inr h3)))] at hp
          cases hp
          go_enter Try.func60, Try.ntmps60
          go_wp2_with fail
          refine (Ceil_is _ _ _ _ _ HC _).mono ?_
          rintro e w1 ⟨rfl, hb1⟩
          have q1_1_0 : CellF w1 ⟨w.heap.size + 1, 0, none⟩ (.int .i64 0) := (by refine CellF.keep hb1 ?_; refine ⟨?_, ?_⟩ <;> go_simp)
          have c1_1_0 := q1_1_0.1
          have g1_1_0 := q1_1_0.2
          have q1_1_1 : CellF w1 ⟨w.heap.size + 1, 1, none⟩ (.int .i64 0) := (by refine CellF.keep hb1 ?_; refine ⟨?_, ?_⟩ <;> go_simp)
          have c1_1_1 := q1_1_1.1
          have g1_1_1 := q1_1_1.2
          have q1_1_2 : CellF w1 ⟨w.heap.size + 1, 2, none⟩ (.bool false) := (by refine CellF.keep hb1 ?_; refine ⟨?_, ?_⟩ <;> go_simp)
          have c1_1_2 := q1_1_2.1
          have g1_1_2 := q1_1_2.2
          have z1_1 : w.heap.size + 1 < w1.heap.size := ltc c1_1_0
          go_wp2
          exact bodyPost_ret (v := .agg #[.int .i64 0, .int .i64 0, .bool false]) (by simp [results, Try.results60, go_sem, c1_1_0, c1_1_1, c1_1_2]) rfl ⟨rfl, (by repeat (first | exact brefl _ | refine balloc ?_ _ | refine bdrewN ?_ _ | refine bset ?_ (by dsimp only; omega) _ | refine bstep ?_ (by assumption)))⟩
        · rw [if_neg (by simp; omega)] at hp
          have HW : Hid (spWider ⟨lo, hi, k⟩ n n = ⟨x, y, z⟩) := hp
          clear hp
          go_enter Try.func60, Try.ntmps60
          go_wp2_with fail
          refine (Ceil_is _ _ _ _ _ HC _).mono ?_
          rintro e w1 ⟨rfl, hb1⟩
          have q1_1_0 : CellF w1 ⟨w.heap.size, 0, none⟩ (.int .i64 lo) := (by refine CellF.keep hb1 ?_; refine ⟨?_, ?_⟩ <;> go_simp)
          have c1_1_0 := q1_1_0.1
          have q1_1_1 : CellF w1 ⟨w.heap.size, 1, none⟩ (.int .i64 hi) := (by refine CellF.keep hb1 ?_; refine ⟨?_, ?_⟩ <;> go_simp)
          have c1_1_1 := q1_1_1.1
          have q1_1_2 : CellF w1 ⟨w.heap.size, 2, none⟩ (.bool k) := (by refine CellF.keep hb1 ?_; refine ⟨?_, ?_⟩ <;> go_simp)
          have c1_1_2 := q1_1_2.1
          have z1_1 : w.heap.size < w1.heap.size := ltc c1_1_0
          have q1_2_0 : CellF w1 ⟨w.heap.size + 1, 0, none⟩ (.int .i64 0) := (by refine CellF.keep hb1 ?_; refine ⟨?_, ?_⟩ <;> go_simp)
          have c1_2_0 := q1_2_0.1
          have g1_2_0 := q1_2_0.2
          have q1_2_1 : CellF w1 ⟨w.heap.size + 1, 1, none⟩ (.int .i64 0) := (by refine CellF.keep hb1 ?_; refine ⟨?_, ?_⟩ <;> go_simp)
          have c1_2_1 := q1_2_1.1
          have g1_2_1 := q1_2_1.2
          have q1_2_2 : CellF w1 ⟨w.heap.size + 1, 2, none⟩ (.bool false) := (by refine CellF.keep hb1 ?_; refine ⟨?_, ?_⟩ <;> go_simp)
          have c1_2_2 := q1_2_2.1
          have g1_2_2 := q1_2_2.2
          have z1_2 : w.heap.size + 1 < w1.heap.size := ltc c1_2_0
          go_wp2_with fail
          refine (Wider_is _ _ _ _ _ _ _ _ HW _).mono ?_
          rintro e w2 ⟨rfl, hb2⟩
          have q2_3_0 : CellF w2 ⟨w.heap.size + 1, 0, none⟩ (.int .i64 0) := (by first | exact CellF.keep hb2 q1_2_0 | exact CellF.keep hb2 (CellF.past _ q1_2_0) | exact CellF.keep hb2 (CellF.past _ (CellF.past _ q1_2_0)) | exact CellF.keep hb2 (CellF.drewN _ q1_2_0))
          have c2_3_0 := q2_3_0.1
          have g2_3_0 := q2_3_0.2
          have q2_3_1 : CellF w2 ⟨w.heap.size + 1, 1, none⟩ (.int .i64 0) := (by first | exact CellF.keep hb2 q1_2_1 | exact CellF.keep hb2 (CellF.past _ q1_2_1) | exact CellF.keep hb2 (CellF.past _ (CellF.past _ q1_2_1)) | exact CellF.keep hb2 (CellF.drewN _ q1_2_1))
          have c2_3_1 := q2_3_1.1
          have g2_3_1 := q2_3_1.2
          have q2_3_2 : CellF w2 ⟨w.heap.size + 1, 2, none⟩ (.bool false) := (by first | exact CellF.keep hb2 q1_2_2 | exact CellF.keep hb2 (CellF.past _ q1_2_2) | exact CellF.keep hb2 (CellF.past _ (CellF.past _ q1_2_2)) | exact CellF.keep hb2 (CellF.drewN _ q1_2_2))
          have c2_3_2 := q2_3_2.1
          have g2_3_2 := q2_3_2.2
          have z2_3 : w.heap.size + 1 < w2.heap.size := ltc c2_3_0
          go_wp2
          exact bodyPost_ret (v := .agg #[.int .i64 x, .int .i64 y, .bool z]) (by simp [results, Try.results60, go_sem, c2_3_0, c2_3_1, c2_3_2]) rfl ⟨rfl, (by repeat (first | exact brefl _ | refine balloc ?_ _ | refine bdrewN ?_ _ | refine bset ?_ (by dsimp only; omega) _ | refine bstep ?_ (by assumption)))⟩
end Go.Proofs.Ytnphbdhcoiaklaa
namespace Go.Proofs.Ytnphbdhcoiaklaa
open Go.RowKit

/-- One step of Scale's: whether all was told so far, and what was met so far. -/
def scOut (out : Sp) (m q : Int) : Sp := if out.kn = true then spHull (spOf (floorP m q 1000000000).1 (ceilP m q 1000000000).1) out else spOf (floorP m q 1000000000).1 (ceilP m q 1000000000).1
def scGood (good : Bool) (m q : Int) : Bool := (good && (floorP m q 1000000000).2) && (ceilP m q 1000000000).2
def spScale (s : Sp) (ppb : Int) : Sp :=
  if spK s = false ∨ ppb < 0 ∨ 1000000000 < ppb then spNo else
    (if scGood (scGood (scGood (scGood true s.lo (1000000000 - ppb)) s.lo (1000000000 + ppb)) s.hi (1000000000 - ppb)) s.hi (1000000000 + ppb) = true then
      scOut (scOut (scOut (scOut spNo s.lo (1000000000 - ppb)) s.lo (1000000000 + ppb)) s.hi (1000000000 - ppb)) s.hi (1000000000 + ppb) else spNo)
end Go.Proofs.Ytnphbdhcoiaklaa
namespace Go.Proofs.Ytnphbdhcoiaklaa
open Go.RowKit

theorem sub_true {a b x : Int} (h : subP a b = (x, true)) : smallB a = true ∧ smallB b = true ∧ x = a - b ∧ smallB x = true := by
  rw [← sub_add] at h
  obtain ⟨h1, h2, h3, h4⟩ := add_true h
  rw [smallB_neg] at h2
  exact ⟨h1, h2, by omega, h4⟩
theorem add_yes {a b : Int} (ha : smallB a = true) (hb : smallB b = true) (h : smallB (a + b) = true) : addP a b = (a + b, true) := by
  unfold addP; rw [if_pos (by rw [ha, hb]; rfl), told_t h]
theorem sub_yes {a b : Int} (ha : smallB a = true) (hb : smallB b = true) (h : smallB (a - b) = true) : subP a b = (a - b, true) := by
  unfold subP; rw [if_pos (by rw [ha, hb]; rfl), told_t h]
theorem pair_true {p : Int × Bool} (h : p.2 = true) : p = (p.1, true) := by rw [← h]

theorem spHas_iff {s : Sp} {n : Int} : spHas s n = true ↔ (spK s = true → s.lo ≤ n ∧ n ≤ s.hi) := by
  unfold spHas
  cases spK s <;> simp
theorem spWithin_iff {s o : Sp} : spWithin s o = true ↔ (spK o = true → spK s = true ∧ o.lo ≤ s.lo ∧ s.hi ≤ o.hi) := by
  unfold spWithin
  cases spK o <;> simp [and_assoc]
theorem spK_no : spK spNo = false := rfl
theorem spK_kn {s : Sp} (h : spK s = true) : s.kn = true ∧ smallB s.lo = true ∧ smallB s.hi = true ∧ s.lo ≤ s.hi := spK_iff.1 h
theorem spK_mk {s : Sp} (h1 : s.kn = true) (h2 : smallB s.lo = true) (h3 : smallB s.hi = true) (h4 : s.lo ≤ s.hi) : spK s = true := spK_iff.2 ⟨h1, h2, h3, h4⟩
theorem sp_eta {s : Sp} (h : spK s = true) : s = ⟨s.lo, s.hi, true⟩ := by rw [← (spK_kn h).1]

theorem of_cases (lo hi : Int) : spOf lo hi = spNo ∨ (smallB lo = true ∧ smallB hi = true ∧ lo ≤ hi ∧ spOf lo hi = ⟨lo, hi, true⟩) := by
  unfold spOf
  split
  · rename_i h
    exact .inr ⟨(Bool.and_eq_true_iff.1 h.1).1, (Bool.and_eq_true_iff.1 h.1).2, h.2, rfl⟩
  · exact .inl rfl
theorem made_cases (l h : Int × Bool) : spMade l h = spNo ∨ (l = (l.1, true) ∧ h = (h.1, true) ∧ smallB l.1 = true ∧ smallB h.1 = true ∧ l.1 ≤ h.1 ∧ spMade l h = ⟨l.1, h.1, true⟩) := by
  unfold spMade
  split
  · rename_i hh
    obtain ⟨h1, h2⟩ := Bool.and_eq_true_iff.1 hh
    rcases of_cases l.1 h.1 with e | ⟨a, b, c, d⟩
    · exact .inl e
    · exact .inr ⟨pair_true h1, pair_true h2, a, b, c, d⟩
  · exact .inl rfl
theorem add_cases (s t : Sp) : spAdd s t = spNo ∨ (spK s = true ∧ spK t = true ∧ smallB (s.lo + t.lo) = true ∧ smallB (s.hi + t.hi) = true ∧ spAdd s t = ⟨s.lo + t.lo, s.hi + t.hi, true⟩) := by
  unfold spAdd
  split
  · rename_i hh
    obtain ⟨h1, h2⟩ := Bool.and_eq_true_iff.1 hh
    rcases made_cases (addP s.lo t.lo) (addP s.hi t.hi) with e | ⟨a, b, c, d, _, f⟩
    · exact .inl e
    · obtain ⟨_, _, x1, x2⟩ := add_true a
      obtain ⟨_, _, y1, y2⟩ := add_true b
      rw [x1] at x2; rw [y1] at y2
      exact .inr ⟨h1, h2, x2, y2, by rw [f, x1, y1]⟩
  · exact .inl rfl
theorem add_known {s t : Sp} (hs : spK s = true) (ht : spK t = true) (h1 : smallB (s.lo + t.lo) = true) (h2 : smallB (s.hi + t.hi) = true) : spAdd s t = ⟨s.lo + t.lo, s.hi + t.hi, true⟩ := by
  obtain ⟨_, a1, a2, a3⟩ := spK_kn hs
  obtain ⟨_, b1, b2, b3⟩ := spK_kn ht
  unfold spAdd spMade
  rw [if_pos (by rw [hs, ht]; rfl), add_yes a1 b1 h1, add_yes a2 b2 h2]
  show (if (true && true) = true then spOf (s.lo + t.lo) (s.hi + t.hi) else spNo) = _
  rw [if_pos (by rfl)]
  exact spOf_yes (by rw [h1, h2]; rfl) (by omega)
theorem sub_cases (s t : Sp) : spSub s t = spNo ∨ (spK s = true ∧ spK t = true ∧ smallB (s.lo - t.hi) = true ∧ smallB (s.hi - t.lo) = true ∧ spSub s t = ⟨s.lo - t.hi, s.hi - t.lo, true⟩) := by
  unfold spSub
  split
  · rename_i hh
    obtain ⟨h1, h2⟩ := Bool.and_eq_true_iff.1 hh
    rcases made_cases (subP s.lo t.hi) (subP s.hi t.lo) with e | ⟨a, b, c, d, _, f⟩
    · exact .inl e
    · obtain ⟨_, _, x1, x2⟩ := sub_true a
      obtain ⟨_, _, y1, y2⟩ := sub_true b
      rw [x1] at x2; rw [y1] at y2
      exact .inr ⟨h1, h2, x2, y2, by rw [f, x1, y1]⟩
  · exact .inl rfl

/-! SpanSums -/
theorem has_add {s t : Sp} {m n x : Int} (hs : spHas s m = true) (ht : spHas t n = true) (h : addP m n = (x, true)) : spHas (spAdd s t) x = true := by
  rcases add_cases s t with e | ⟨h1, h2, _, _, e⟩
  · rw [e]; rfl
  · rw [e, spHas_iff]
    intro _
    have a := spHas_iff.1 hs h1
    have b := spHas_iff.1 ht h2
    have c := (add_true h).2.2.1
    dsimp only; omega
theorem has_self (n : Int) : spHas (spOf n n) n = true := by
  rcases of_cases n n with e | ⟨_, _, _, e⟩
  · rw [e]; rfl
  · rw [e, spHas_iff]; intro _; dsimp only; omega
theorem has_shift {s : Sp} {m n x : Int} (hs : spHas s m = true) (h : addP m n = (x, true)) : spHas (spShift s n) x = true := has_add hs (has_self n) h
theorem has_sub {s t : Sp} {m n x : Int} (hs : spHas s m = true) (ht : spHas t n = true) (h : subP m n = (x, true)) : spHas (spSub s t) x = true := by
  rcases sub_cases s t with e | ⟨h1, h2, _, _, e⟩
  · rw [e]; rfl
  · rw [e, spHas_iff]
    intro _
    have a := spHas_iff.1 hs h1
    have b := spHas_iff.1 ht h2
    have c := (sub_true h).2.2.1
    dsimp only; omega

/-! SpanBack -/
theorem shift_cases (s : Sp) (n : Int) : spShift s n = spNo ∨ (spK s = true ∧ smallB n = true ∧ smallB (s.lo + n) = true ∧ smallB (s.hi + n) = true ∧ spShift s n = ⟨s.lo + n, s.hi + n, true⟩) := by
  unfold spShift
  rcases add_cases s (spOf n n) with e | ⟨h1, h2, h3, h4, e⟩
  · exact .inl e
  · rcases of_cases n n with k | ⟨k1, _, _, k⟩
    · rw [k] at h2; cases h2
    · rw [k] at h3 h4 e ⊢
      exact .inr ⟨h1, k1, h3, h4, e⟩
theorem shift_back {s : Sp} {n : Int} (h : (spShift s n).kn = true) : smallB n = true ∧ spShift (spShift s n) (-n) = s := by
  rcases shift_cases s n with e | ⟨h1, h2, h3, h4, e⟩
  · rw [e] at h; cases h
  · refine ⟨h2, ?_⟩
    have k := spK_kn h1
    have h2' : smallB (-n) = true := by rw [smallB_neg]; exact h2
    have e2 : spOf (-n) (-n) = ⟨-n, -n, true⟩ := spOf_yes (by rw [h2']; rfl) (Int.le_refl _)
    have a1 : s.lo + n + -n = s.lo := by omega
    have a2 : s.hi + n + -n = s.hi := by omega
    rw [e]
    unfold spShift
    rw [e2, add_known (spK_mk rfl h3 h4 (by dsimp only; omega)) (spK_mk rfl h2' h2' (Int.le_refl _)) (by dsimp only; rw [a1]; exact k.2.1) (by dsimp only; rw [a2]; exact k.2.2.1)]
    dsimp only
    rw [a1, a2]
    exact (sp_eta h1).symm
theorem add_back {s t : Sp} (h : (spAdd s t).kn = true) : spWithin s (spSub (spAdd s t) t) = true := by
  rcases add_cases s t with e | ⟨h1, h2, h3, h4, e⟩
  · rw [e] at h; cases h
  · have k := spK_kn h2
    rw [spWithin_iff, e]
    rcases sub_cases ⟨s.lo + t.lo, s.hi + t.hi, true⟩ t with f | ⟨_, _, _, _, f⟩
    · rw [f]; intro hh; cases hh
    · rw [f]; intro _; refine ⟨h1, ?_, ?_⟩ <;> dsimp only <;> omega

/-! SpanWide -/
theorem width_pos {s : Sp} {w : Int} (h : spWidth s = (w, true)) : 0 ≤ w := by
  unfold spWidth at h
  split at h
  · rename_i hk
    have := spK_kn hk
    have := (sub_true h).2.2.1
    omega
  · cases h
theorem width_shift {s : Sp} {n : Int} (h : (spShift s n).kn = true) : spWidth (spShift s n) = spWidth s := by
  rcases shift_cases s n with e | ⟨h1, _, h3, h4, e⟩
  · rw [e] at h; cases h
  · have k := spK_kn h1
    have k2 : spK ⟨s.lo + n, s.hi + n, true⟩ = true := spK_mk rfl h3 h4 (by dsimp only; omega)
    rw [e]
    unfold spWidth subP
    rw [if_pos k2, if_pos h1]
    dsimp only
    rw [if_pos (by rw [h3, h4]; rfl), if_pos (by rw [k.2.1, k.2.2.1]; rfl)]
    congr 1; omega
theorem width_add {s t : Sp} {w v : Int} (h : (spAdd s t).kn = true) (hw : spWidth s = (w, true)) (hv : spWidth t = (v, true)) : spWidth (spAdd s t) = addP w v := by
  rcases add_cases s t with e | ⟨h1, h2, h3, h4, e⟩
  · rw [e] at h; cases h
  · have k := spK_kn h1
    have l := spK_kn h2
    have k2 : spK ⟨s.lo + t.lo, s.hi + t.hi, true⟩ = true := spK_mk rfl h3 h4 (by dsimp only; omega)
    rw [e]
    unfold spWidth at *
    rw [if_pos h1] at hw
    rw [if_pos h2] at hv
    rw [if_pos k2]
    obtain ⟨_, _, x1, x2⟩ := sub_true hw
    obtain ⟨_, _, y1, y2⟩ := sub_true hv
    unfold subP addP
    dsimp only
    rw [if_pos (by rw [h3, h4]; rfl), if_pos (by rw [x2, y2]; rfl)]
    congr 1; omega

/-! SpanMeets -/
theorem meet_cases (s t : Sp) : (spK s = true ∧ spK t = true ∧ spMeet s t = spOf (if t.lo ≤ s.lo then s.lo else t.lo) (if s.hi ≤ t.hi then s.hi else t.hi)) ∨ (spK s = true ∧ spK t = false ∧ spMeet s t = s) ∨ (spK s = false ∧ spK t = true ∧ spMeet s t = t) ∨ (spK s = false ∧ spK t = false ∧ spMeet s t = spNo) := by
  unfold spMeet
  cases spK s <;> cases spK t <;> simp
theorem meet_has {s t : Sp} {n : Int} (hs : spHas s n = true) (ht : spHas t n = true) : spHas (spMeet s t) n = true := by
  rcases meet_cases s t with ⟨h1, h2, e⟩ | ⟨_, _, e⟩ | ⟨_, _, e⟩ | ⟨_, _, e⟩
  · rw [e]
    have a := spHas_iff.1 hs h1
    have b := spHas_iff.1 ht h2
    rcases of_cases (if t.lo ≤ s.lo then s.lo else t.lo) (if s.hi ≤ t.hi then s.hi else t.hi) with f | ⟨_, _, _, f⟩
    · rw [f]; rfl
    · rw [f, spHas_iff]; intro _; dsimp only; constructor <;> split <;> omega
  · rw [e]; exact hs
  · rw [e]; exact ht
  · rw [e]; rfl
theorem hull_cases (s t : Sp) : spHull s t = spNo ∨ (spK s = true ∧ spK t = true ∧ spHull s t = ⟨if s.lo ≤ t.lo then s.lo else t.lo, if t.hi ≤ s.hi then s.hi else t.hi, true⟩) := by
  unfold spHull
  split
  · rename_i hh
    obtain ⟨h1, h2⟩ := Bool.and_eq_true_iff.1 hh
    rcases of_cases (if s.lo ≤ t.lo then s.lo else t.lo) (if t.hi ≤ s.hi then s.hi else t.hi) with f | ⟨_, _, _, f⟩
    · exact .inl f
    · exact .inr ⟨h1, h2, f⟩
  · exact .inl rfl
theorem hull_has {s t : Sp} {n : Int} (h : (spHas s n || spHas t n) = true) : spHas (spHull s t) n = true := by
  rcases hull_cases s t with f | ⟨h1, h2, f⟩
  · rw [f]; rfl
  · rw [f, spHas_iff]
    intro _
    rcases Bool.or_eq_true_iff.1 h with a | a
    · have := spHas_iff.1 a h1
      dsimp only; constructor <;> split <;> omega
    · have := spHas_iff.1 a h2
      dsimp only; constructor <;> split <;> omega
theorem meet_comm (s t : Sp) : spMeet t s = spMeet s t := by
  rcases meet_cases s t with ⟨h1, h2, e⟩ | ⟨h1, h2, e⟩ | ⟨h1, h2, e⟩ | ⟨h1, h2, e⟩ <;> rw [e] <;> unfold spMeet <;> simp only [h1, h2]
  · have a : (if s.lo ≤ t.lo then t.lo else s.lo) = (if t.lo ≤ s.lo then s.lo else t.lo) := by split <;> split <;> omega
    have b : (if t.hi ≤ s.hi then t.hi else s.hi) = (if s.hi ≤ t.hi then s.hi else t.hi) := by split <;> split <;> omega
    simp [a, b]
  · simp
  · simp
  · simp
theorem hull_comm (s t : Sp) : spHull t s = spHull s t := by
  have a : (if t.lo ≤ s.lo then t.lo else s.lo) = (if s.lo ≤ t.lo then s.lo else t.lo) := by split <;> split <;> omega
  have b : (if s.hi ≤ t.hi then t.hi else s.hi) = (if t.hi ≤ s.hi then s.hi else t.hi) := by split <;> split <;> omega
  unfold spHull
  rw [a, b, Bool.and_comm]
theorem meet_known {s t : Sp} {n : Int} (hm : (spMeet s t).kn = true) (hs : spK s = true) (ht : spK t = true) : spHas (spMeet s t) n = (spHas s n && spHas t n) ∧ spWithin (spMeet s t) s = true ∧ spWithin (spMeet s t) t = true := by
  rcases meet_cases s t with ⟨h1, h2, e⟩ | ⟨_, h2, _⟩ | ⟨h1, _, _⟩ | ⟨h1, _, _⟩
  · rcases of_cases (if t.lo ≤ s.lo then s.lo else t.lo) (if s.hi ≤ t.hi then s.hi else t.hi) with f | ⟨f1, f2, f3, f⟩
    · rw [e, f] at hm; cases hm
    · have k : spK (spMeet s t) = true := by rw [e, f]; exact spK_mk rfl f1 f2 f3
      have e1 : (spMeet s t).lo = if t.lo ≤ s.lo then s.lo else t.lo := by rw [e, f]
      have e2 : (spMeet s t).hi = if s.hi ≤ t.hi then s.hi else t.hi := by rw [e, f]
      refine ⟨?_, ?_, ?_⟩
      · apply Bool.eq_iff_iff.2
        rw [Bool.and_eq_true_iff, spHas_iff, spHas_iff, spHas_iff, e1, e2]
        constructor
        · intro h
          have := h k
          constructor <;> intro _ <;> (repeat split at this) <;> omega
        · rintro ⟨x, y⟩ _
          have := x h1
          have := y h2
          constructor <;> split <;> omega
      · rw [spWithin_iff, e1, e2]; intro _; refine ⟨k, ?_, ?_⟩ <;> split <;> omega
      · rw [spWithin_iff, e1, e2]; intro _; refine ⟨k, ?_, ?_⟩ <;> split <;> omega
  · rw [ht] at h2; cases h2
  · rw [hs] at h1; cases h1
  · rw [hs] at h1; cases h1
end Go.Proofs.Ytnphbdhcoiaklaa
namespace Go.Proofs.Ytnphbdhcoiaklaa
open Go.RowKit

def fl (m q : Int) : Int := m * q / 1000000000
def ce (m q : Int) : Int := -(-(m * q) / 1000000000)
theorem fl_ce (m q : Int) : fl m q ≤ ce m q := by unfold fl ce; omega
theorem fl_mono {m q n r : Int} (h : m * q ≤ n * r) : fl m q ≤ fl n r := by unfold fl; omega
theorem ce_mono {m q n r : Int} (h : m * q ≤ n * r) : ce m q ≤ ce n r := by unfold ce; omega

theorem floor_fl {m q x : Int} (h : floorP m q 1000000000 = (x, true)) : x = fl m q ∧ okB m q 1000000000 = true ∧ smallB x = true := by
  have := floor_true h
  exact ⟨this.2.2, this.1, by have := floor_bd h; exact smallB_true this.1 this.2⟩
theorem ceil_ce {m q x : Int} (h : ceilP m q 1000000000 = (x, true)) : x = ce m q ∧ smallB x = true := by
  have := ceil_true h
  exact ⟨this.2.2, by have := ceil_bd h; exact smallB_true this.1 this.2⟩

/-- One step, where all is told. -/
theorem step_first {m q x y : Int} (h1 : floorP m q 1000000000 = (x, true)) (h2 : ceilP m q 1000000000 = (y, true)) : scOut spNo m q = ⟨x, y, true⟩ := by
  obtain ⟨e1, _, s1⟩ := floor_fl h1
  obtain ⟨e2, s2⟩ := ceil_ce h2
  have := fl_ce m q
  unfold scOut
  rw [h1, h2, if_neg (by simp [spNo])]
  exact spOf_yes (by rw [s1, s2]; rfl) (by omega)
theorem step_next {m q x y a b : Int} (h1 : floorP m q 1000000000 = (x, true)) (h2 : ceilP m q 1000000000 = (y, true)) (ha : smallB a = true) (hb : smallB b = true) (hab : a ≤ b) :
    ∃ c d, scOut ⟨a, b, true⟩ m q = ⟨c, d, true⟩ ∧ smallB c = true ∧ smallB d = true ∧ c ≤ d ∧ (c ≤ a ∧ c ≤ x ∧ (c = a ∨ c = x)) ∧ (b ≤ d ∧ y ≤ d ∧ (d = b ∨ d = y)) := by
  obtain ⟨e1, _, s1⟩ := floor_fl h1
  obtain ⟨e2, s2⟩ := ceil_ce h2
  have hf := fl_ce m q
  unfold scOut
  rw [h1, h2, if_pos (show (⟨a, b, true⟩ : Sp).kn = true from rfl)]
  have hxy : spOf x y = ⟨x, y, true⟩ := spOf_yes (by rw [s1, s2]; rfl) (by omega)
  show ∃ c d, spHull (spOf x y) ⟨a, b, true⟩ = _ ∧ _
  rw [hxy]
  unfold spHull
  rw [if_pos (by rw [Bool.and_eq_true_iff]; exact ⟨spK_iff.2 ⟨rfl, s1, s2, by omega⟩, spK_iff.2 ⟨rfl, ha, hb, hab⟩⟩)]
  have A := smallB_iff.1 ha
  have B := smallB_iff.1 hb
  have X := smallB_iff.1 s1
  have Y := smallB_iff.1 s2
  dsimp only
  refine ⟨_, _, spOf_yes ?_ ?_, ?_⟩
  · rw [Bool.and_eq_true_iff]; constructor <;> split <;> assumption
  · split <;> split <;> omega
  · refine ⟨by split <;> assumption, by split <;> assumption, by split <;> split <;> omega, ⟨by split <;> omega, by split <;> omega, by split <;> simp⟩, ⟨by split <;> omega, by split <;> omega, by split <;> simp⟩⟩

/-- What is known of a span that was scaled. -/
def ScIs (s : Sp) (p a b : Int) : Prop := smallB a = true ∧ smallB b = true ∧ a ≤ b ∧
  (a ≤ fl s.lo (1000000000 - p) ∧ a ≤ fl s.lo (1000000000 + p) ∧ a ≤ fl s.hi (1000000000 - p) ∧ a ≤ fl s.hi (1000000000 + p)) ∧
  (ce s.lo (1000000000 - p) ≤ b ∧ ce s.lo (1000000000 + p) ≤ b ∧ ce s.hi (1000000000 - p) ≤ b ∧ ce s.hi (1000000000 + p) ≤ b) ∧
  (a = fl s.lo (1000000000 - p) ∨ a = fl s.lo (1000000000 + p) ∨ a = fl s.hi (1000000000 - p) ∨ a = fl s.hi (1000000000 + p)) ∧
  (b = ce s.lo (1000000000 - p) ∨ b = ce s.lo (1000000000 + p) ∨ b = ce s.hi (1000000000 - p) ∨ b = ce s.hi (1000000000 + p))

/-- Where all four products are told. -/
theorem scale_told {s : Sp} {p x1 x2 x3 x4 y1 y2 y3 y4 : Int} (hk : spK s = true) (h0 : 0 ≤ p) (h9 : p ≤ 1000000000)
    (a1 : floorP s.lo (1000000000 - p) 1000000000 = (x1, true)) (a2 : floorP s.lo (1000000000 + p) 1000000000 = (x2, true))
    (a3 : floorP s.hi (1000000000 - p) 1000000000 = (x3, true)) (a4 : floorP s.hi (1000000000 + p) 1000000000 = (x4, true))
    (b1 : ceilP s.lo (1000000000 - p) 1000000000 = (y1, true)) (b2 : ceilP s.lo (1000000000 + p) 1000000000 = (y2, true))
    (b3 : ceilP s.hi (1000000000 - p) 1000000000 = (y3, true)) (b4 : ceilP s.hi (1000000000 + p) 1000000000 = (y4, true)) :
    ∃ a b, spScale s p = ⟨a, b, true⟩ ∧ ScIs s p a b := by
  have A1 := floor_fl a1
  have A2 := floor_fl a2
  have A3 := floor_fl a3
  have A4 := floor_fl a4
  have B1 := ceil_ce b1
  have B2 := ceil_ce b2
  have B3 := ceil_ce b3
  have B4 := ceil_ce b4
  have s1 := step_first a1 b1
  have f1 := fl_ce s.lo (1000000000 - p)
  obtain ⟨c2, d2, s2, u2, v2, w2, m2, n2⟩ := step_next a2 b2 A1.2.2 B1.2 (by rw [A1.1, B1.1]; exact f1)
  obtain ⟨c3, d3, s3, u3, v3, w3, m3, n3⟩ := step_next a3 b3 u2 v2 w2
  obtain ⟨c4, d4, s4, u4, v4, w4, m4, n4⟩ := step_next a4 b4 u3 v3 w3
  refine ⟨c4, d4, ?_, u4, v4, w4, ?_, ?_, ?_, ?_⟩
  · unfold spScale
    rw [if_neg (by rw [hk]; rintro (h | h | h) <;> first | cases h | omega), if_pos (by simp only [scGood, a1, a2, a3, a4, b1, b2, b3, b4]; rfl), s1, s2, s3, s4]
  · refine ⟨?_, ?_, ?_, ?_⟩ <;> omega
  · refine ⟨?_, ?_, ?_, ?_⟩ <;> omega
  · omega
  · omega

theorem scale_cases (s : Sp) (p : Int) : spScale s p = spNo ∨ (spK s = true ∧ 0 ≤ p ∧ p ≤ 1000000000 ∧ okB s.lo (1000000000 - p) 1000000000 = true ∧ okB s.hi (1000000000 - p) 1000000000 = true ∧ ∃ a b, spScale s p = ⟨a, b, true⟩ ∧ ScIs s p a b) := by
  by_cases h : spK s = false ∨ p < 0 ∨ 1000000000 < p
  · left; unfold spScale; rw [if_pos h]
  by_cases hg : scGood (scGood (scGood (scGood true s.lo (1000000000 - p)) s.lo (1000000000 + p)) s.hi (1000000000 - p)) s.hi (1000000000 + p) = true
  · right
    have hk : spK s = true := by
      cases hh : spK s with
      | true => rfl
      | false => exact absurd (.inl hh) h
    have hg' := hg
    simp only [scGood, Bool.and_eq_true_iff, Bool.true_and] at hg'
    obtain ⟨⟨⟨⟨⟨⟨⟨g1, g2⟩, g3⟩, g4⟩, g5⟩, g6⟩, g7⟩, g8⟩ := hg'
    have a1 := pair_true g1
    have a3 := pair_true g5
    have h0 : 0 ≤ p := Int.not_lt.1 fun e => h (.inr (.inl e))
    have h9 : p ≤ 1000000000 := Int.not_lt.1 fun e => h (.inr (.inr e))
    refine ⟨hk, h0, h9, (floor_fl a1).2.1, (floor_fl a3).2.1, ?_⟩
    exact scale_told hk h0 h9 a1 (pair_true g3) a3 (pair_true g7) (pair_true g2) (pair_true g4) (pair_true g6) (pair_true g8)
  · left; unfold spScale; rw [if_neg h, if_neg hg]

theorem mul_le1 {l q q1 q2 : Int} (h1 : q1 ≤ q) (h2 : q ≤ q2) : l * q1 ≤ l * q ∨ l * q2 ≤ l * q := by
  by_cases h : 0 ≤ l
  · exact .inl (Int.mul_le_mul_of_nonneg_left h1 h)
  · right
    have := Int.mul_le_mul_of_nonneg_left h2 (show 0 ≤ -l by omega)
    rw [Int.neg_mul, Int.neg_mul] at this
    omega
theorem mul_le2 {l q q1 q2 : Int} (h1 : q1 ≤ q) (h2 : q ≤ q2) : l * q ≤ l * q1 ∨ l * q ≤ l * q2 := by
  by_cases h : 0 ≤ l
  · exact .inr (Int.mul_le_mul_of_nonneg_left h2 h)
  · left
    have := Int.mul_le_mul_of_nonneg_left h1 (show 0 ≤ -l by omega)
    rw [Int.neg_mul, Int.neg_mul] at this
    omega

/-- What lies as near as the scale says lies in what is scaled. -/
theorem sc_has {s : Sp} {p a b m q : Int} (h : ScIs s p a b) (h9 : p ≤ 1000000000) (hl : s.lo ≤ m) (hh : m ≤ s.hi) (h1 : 1000000000 - p ≤ q) (h2 : q ≤ 1000000000 + p) : a ≤ fl m q ∧ ce m q ≤ b := by
  obtain ⟨_, _, _, ⟨a1, a2, a3, a4⟩, ⟨b1, b2, b3, b4⟩, _, _⟩ := h
  have g1 : s.lo * q ≤ m * q := Int.mul_le_mul_of_nonneg_right hl (by omega)
  have g2 : m * q ≤ s.hi * q := Int.mul_le_mul_of_nonneg_right hh (by omega)
  constructor
  · rcases mul_le1 (l := s.lo) h1 h2 with e | e
    · have := fl_mono (Int.le_trans e g1); omega
    · have := fl_mono (Int.le_trans e g1); omega
  · rcases mul_le2 (l := s.hi) h1 h2 with e | e
    · have := ce_mono (Int.le_trans g2 e); omega
    · have := ce_mono (Int.le_trans g2 e); omega

theorem fl_one (m : Int) : fl m 1000000000 = m ∧ ce m 1000000000 = m := by unfold fl ce; omega

theorem scale_near {s : Sp} {p m q x y : Int} (hs : spHas s m = true) (hk : spK s = true) (h9 : p ≤ 1000000000) (h1 : 1000000000 - p ≤ q) (h2 : q ≤ 1000000000 + p)
    (hx : floorP m q 1000000000 = (x, true)) (hy : ceilP m q 1000000000 = (y, true)) : spHas (spScale s p) x = true ∧ spHas (spScale s p) y = true := by
  rcases scale_cases s p with e | ⟨_, _, _, _, _, a, b, e, hi⟩
  · rw [e]; exact ⟨rfl, rfl⟩
  · rw [e]
    have hb := spHas_iff.1 hs hk
    have := sc_has hi h9 hb.1 hb.2 h1 h2
    have hf := fl_ce m q
    rw [← (floor_fl hx).1, ← (ceil_ce hy).1] at this
    rw [← (floor_fl hx).1, ← (ceil_ce hy).1] at hf
    constructor
    · exact spHas_iff.2 fun _ => ⟨this.1, by dsimp only; omega⟩
    · exact spHas_iff.2 fun _ => ⟨by dsimp only; omega, this.2⟩

theorem scale_within {s : Sp} {p : Int} : spWithin s (spScale s p) = true := by
  rcases scale_cases s p with e | ⟨hk, h0, h9, _, _, a, b, e, hi⟩
  · rw [e]; rfl
  · rw [e]
    have hb := spK_kn hk
    have l := sc_has hi h9 (Int.le_refl _) hb.2.2.2 (q := 1000000000) (by omega) (by omega)
    have r := sc_has hi h9 hb.2.2.2 (Int.le_refl _) (q := 1000000000) (by omega) (by omega)
    rw [(fl_one _).1] at l
    rw [(fl_one s.hi).2] at r
    exact spWithin_iff.2 fun _ => ⟨hk, l.1, r.2⟩

theorem told_fl {a b c : Int} (h : okB a b c = true) (h1 : 1 ≤ c) (h2 : smallB (a * b / c) = true) : floorP a b c = (a * b / c, true) := by
  rw [floorP_yes h h1]; exact told_t h2
theorem told_ce {a b c : Int} (h : okB a b c = true) (h1 : 1 ≤ c) (h2 : smallB (-(-(a * b) / c)) = true) : ceilP a b c = (-(-(a * b) / c), true) := by
  rw [ceilP_yes h h1]; exact told_t h2

theorem scale_more {s : Sp} {p r : Int} (h0 : 0 ≤ p) (hpr : p ≤ r) (h9 : r ≤ 1000000000) : spWithin (spScale s p) (spScale s r) = true := by
  rcases scale_cases s r with e | ⟨hk, _, _, o1, o2, a, b, e, hi⟩
  · rw [e]; rfl
  have hb := spK_kn hk
  have lo1 := sc_has hi h9 (Int.le_refl _) hb.2.2.2 (q := 1000000000 - p) (by omega) (by omega)
  have lo2 := sc_has hi h9 (Int.le_refl _) hb.2.2.2 (q := 1000000000 + p) (by omega) (by omega)
  have hi1 := sc_has hi h9 hb.2.2.2 (Int.le_refl _) (q := 1000000000 - p) (by omega) (by omega)
  have hi2 := sc_has hi h9 hb.2.2.2 (Int.le_refl _) (q := 1000000000 + p) (by omega) (by omega)
  have A := smallB_iff.1 hi.1
  have B := smallB_iff.1 hi.2.1
  have ok : ∀ m q, smallB m = true → -4611686018427387904 ≤ q → q ≤ 4611686018427387904 → okB m q 1000000000 = true := by
    intro m q hm h1 h2
    unfold okB
    rw [hm, smallB_true h1 h2]; rfl
  have tf : ∀ m q, smallB m = true → 0 ≤ q → q ≤ 2000000000 → a ≤ fl m q → ce m q ≤ b → floorP m q 1000000000 = (fl m q, true) ∧ ceilP m q 1000000000 = (ce m q, true) := by
    intro m q hm h1 h2 h3 h4
    have := fl_ce m q
    exact ⟨told_fl (ok m q hm (by omega) (by omega)) (by omega) (smallB_true (by show _ ≤ fl m q; omega) (by show fl m q ≤ _; omega)), told_ce (ok m q hm (by omega) (by omega)) (by omega) (smallB_true (by show _ ≤ ce m q; omega) (by show ce m q ≤ _; omega))⟩
  have t1 := tf s.lo (1000000000 - p) hb.2.1 (by omega) (by omega) lo1.1 lo1.2
  have t2 := tf s.lo (1000000000 + p) hb.2.1 (by omega) (by omega) lo2.1 lo2.2
  have t3 := tf s.hi (1000000000 - p) hb.2.2.1 (by omega) (by omega) hi1.1 hi1.2
  have t4 := tf s.hi (1000000000 + p) hb.2.2.1 (by omega) (by omega) hi2.1 hi2.2
  obtain ⟨c, d, e2, i2⟩ := scale_told hk h0 (by omega) t1.1 t2.1 t3.1 t4.1 t1.2 t2.2 t3.2 t4.2
  rw [e, e2]
  obtain ⟨j1, j2, j3, _, _, j4, j5⟩ := i2
  exact spWithin_iff.2 fun _ => ⟨spK_iff.2 ⟨rfl, j1, j2, j3⟩, by dsimp only; omega, by dsimp only; omega⟩

theorem drift_cases (s : Sp) (n p : Int) : spDrift s n p = spNo ∨ ∃ c, ceilP n p 1000000000 = (c, true) ∧ 0 ≤ n ∧ 0 ≤ p ∧ p ≤ 1000000000 ∧ 0 ≤ c ∧ spK s = true ∧ smallB (s.lo - c) = true ∧ smallB (s.hi + c) = true ∧ spDrift s n p = ⟨s.lo - c, s.hi + c, true⟩ := by
  unfold spDrift
  split
  · exact .inl rfl
  · rename_i h
    unfold spWider
    split
    · exact .inl rfl
    · rename_i h2
      have hc : (ceilP n p 1000000000).2 = true := by
        cases hh : (ceilP n p 1000000000).2 with
        | true => rfl
        | false => exact absurd (.inl hh) h
      have e := pair_true hc
      generalize hcc : (ceilP n p 1000000000).1 = c at *
      have hsm : smallB c = true := (ceil_ce e).2
      rcases add_cases s (spOf (-c) c) with q | ⟨hk, ht, q1, q2, q⟩
      · exact .inl q
      · right
        have hof : spOf (-c) c = ⟨-c, c, true⟩ := by
          rcases of_cases (-c) c with o | o
          · rw [o] at ht; cases ht
          · exact o.2.2.2
        rw [hof] at q1 q2 q
        refine ⟨c, e, Int.not_lt.1 fun z => h (.inr (.inl z)), Int.not_lt.1 fun z => h (.inr (.inr (.inl z))), Int.not_lt.1 fun z => h (.inr (.inr (.inr z))), Int.not_lt.1 fun z => h2 (.inl z), hk, ?_, q2, ?_⟩
        · have : s.lo + -c = s.lo - c := by omega
          rw [← this]; exact q1
        · rw [hof, q]
          show (⟨s.lo + -c, _, _⟩ : Sp) = _
          rw [show s.lo + -c = s.lo - c by omega]

theorem drift_unknown {s : Sp} {n p : Int} (h : spK s = false) : spDrift s n p = spNo := by
  rcases drift_cases s n p with e | ⟨_, _, _, _, _, _, hk, _⟩
  · exact e
  · rw [h] at hk; cases hk
theorem not_right {s : Sp} (h : spRight s = false) : spK s = false := by unfold spK; rw [h, Bool.and_false]

theorem drift_within {s : Sp} {n p : Int} : spWithin s (spDrift s n p) = true := by
  rcases drift_cases s n p with e | ⟨c, _, _, _, _, hc, hk, h1, h2, e⟩
  · rw [e]; rfl
  · rw [e]; exact spWithin_iff.2 fun _ => ⟨hk, by dsimp only; omega, by dsimp only; omega⟩

theorem drift_more {s : Sp} {n p r : Int} (h0 : 0 ≤ p) (hpr : p ≤ r) (h9 : r ≤ 1000000000) : spWithin (spDrift s n p) (spDrift s n r) = true := by
  rcases drift_cases s n r with e | ⟨c, hc, hn, _, _, c0, hk, h1, h2, e⟩
  · rw [e]; rfl
  have hkn := spK_kn hk
  have hcc := ceil_ce hc
  have hokr := (ceil_true hc).1
  have hle : ce n p ≤ c := by rw [hcc.1]; exact ce_mono (Int.mul_le_mul_of_nonneg_left hpr hn)
  have hpos : 0 ≤ ce n p := by have := Int.mul_nonneg hn h0; unfold ce; omega
  have hcs := smallB_iff.1 hcc.2
  have hok : okB n p 1000000000 = true := by
    unfold okB at hokr ⊢
    rw [smallB_true (n := p) (by omega) (by omega)]
    rw [smallB_true (n := r) (by omega) (by omega)] at hokr
    exact hokr
  have ht : ceilP n p 1000000000 = (ce n p, true) := told_ce hok (by omega) (smallB_true (by show _ ≤ ce n p; omega) (by show ce n p ≤ _; omega))
  have hsm : smallB (ce n p) = true := (ceil_ce ht).2
  have H1 := smallB_iff.1 h1
  have H2 := smallB_iff.1 h2
  have L := smallB_iff.1 hkn.2.1
  have R := smallB_iff.1 hkn.2.2.1
  have hd : spDrift s n p = ⟨s.lo + -ce n p, s.hi + ce n p, true⟩ := by
    unfold spDrift
    rw [ht, if_neg (by rintro (z | z | z | z) <;> first | cases z | omega)]
    show spWider s (ce n p) (ce n p) = _
    unfold spWider
    rw [if_neg (by rw [hsm]; rintro (z | z | z) <;> first | cases z | omega)]
    have hof : spOf (-ce n p) (ce n p) = ⟨-ce n p, ce n p, true⟩ := spOf_yes (by rw [smallB_neg, hsm]; rfl) (by omega)
    rw [hof]
    exact add_known hk (spK_iff.2 ⟨rfl, by rw [smallB_neg]; exact hsm, hsm, by omega⟩) (smallB_true (by dsimp only; omega) (by dsimp only; omega)) (smallB_true (by dsimp only; omega) (by dsimp only; omega))
  rw [e, hd]
  exact spWithin_iff.2 fun _ => ⟨spK_iff.2 ⟨rfl, smallB_true (by omega) (by omega), smallB_true (by omega) (by omega), by omega⟩, by dsimp only; omega, by dsimp only; omega⟩
end Go.Proofs.Ytnphbdhcoiaklaa
namespace Go.Proofs.Ytnphbdhcoiaklaa
open Go

section
variable {P : Program} {ops : Array Oper} {Q : Exit → Act → World → Prop}

/-- What is asked of operation i: from any state in which it may come up. -/
def InvStep (P : Program) (ops : Array Oper) (Q : Exit → Act → World → Prop) (I : Array Bool → Act → World → Prop) (i : Nat) : Prop :=
  ∀ l a w, i ∈ Region.ready .any ops l → I l a w → wpOp P ops Q i (I (l.setIfInBounds i true)) a w

theorem unlisted_set {l : Array Bool} {i : Nat} (h : l.getD i true = false) : (l.setIfInBounds i true).toList.count false + 1 = l.toList.count false := by
  have hi : i < l.size := by
    rcases Nat.lt_or_ge i l.size with h1 | h1
    · exact h1
    · rw [Array.getD_eq_getD_getElem?, Array.getElem?_eq_none h1] at h; cases h
  have hv : l[i] = false := by
    rw [Array.getD_eq_getD_getElem?, Array.getElem?_eq_getElem hi] at h; exact h
  rw [Array.toList_setIfInBounds]
  have hv' : l.toList[i]'(by simpa using hi) = false := by simpa using hv
  rw [List.count_set (by simpa using hi)]
  have hp : 0 < l.toList.count false := List.count_pos_iff.2 (by rw [← hv']; exact List.getElem_mem _)
  rw [hv']
  show l.toList.count false - 1 + 0 + 1 = _
  omega

theorem wpAny_inv (I : Array Bool → Act → World → Prop) (hstep : ∀ i, InvStep P ops Q I i)
    (hend : ∀ l a w, I l a w → Region.ready .any ops l = [] → Q .normal a w) :
    ∀ fuel l a w, I l a w → l.toList.count false ≤ fuel → wpAny P .any ops Q fuel l a w := by
  intro fuel
  induction fuel with
  | zero =>
    intro l a w hI hc
    have hr : Region.ready .any ops l = [] := by
      unfold Region.ready
      rw [List.filter_eq_nil_iff]
      intro i _ hi
      rw [Bool.and_eq_true] at hi
      have h1 : l.getD i true = false := by simpa using hi.1
      have := unlisted_set h1
      omega
    exact ⟨hr, hend l a w hI hr⟩
  | succ fuel ih =>
    intro l a w hI hc
    refine ⟨fun hr => hend l a w hI hr, fun i hi => ?_⟩
    have h1 : l.getD i true = false := by
      have := (List.mem_filter.1 hi).2
      rw [Bool.and_eq_true] at this
      simpa using this.1
    have h2 := unlisted_set h1
    exact wpOp_mono (fun a w h => ih _ a w h (by omega)) (hstep i l a w hi hI)

theorem wp_region_inv {id : Nat} {a : Act} {w : World} (hm : P.follows .mixedOrders = true) (I : Array Bool → Act → World → Prop)
    (h0 : I (Array.replicate ops.size false) a w.drew) (hstep : ∀ i, i < ops.size → InvStep P ops Q I i)
    (hend : ∀ l a w, I l a w → Region.ready .any ops l = [] → Q .normal a w) : (Code.region id ops true).wp P Q a w := by
  refine wp_region_any hm (wpAny_inv I (fun i l a w hi hI => ?_) hend ops.size _ a _ h0 (by simp))
  have : i < ops.size := List.mem_range.1 (List.mem_filter.1 hi).1
  exact hstep i this l a w hi hI
theorem ready_dep {l : Array Bool} {i : Nat} {o : Oper} (hr : i ∈ Region.ready .any ops l) (ho : ops[i]? = some o) :
    l.getD i true = false ∧ ∀ e ∈ o.after, Region.binds .any e = true → l.getD e.on false = true := by
  have h := (List.mem_filter.1 hr).2
  rw [ho, Bool.and_eq_true] at h
  refine ⟨by simpa using h.1, fun e he hb => ?_⟩
  have h2 := h.2
  simp only [Option.map_some, Option.getD_some] at h2
  have h3 := Array.all_eq_true_iff_forall_mem.1 h2 e he
  rw [hb] at h3
  simpa using h3
theorem getD_set (l : Array Bool) {i j : Nat} (hij : i ≠ j) : (l.setIfInBounds i true).getD j false = l.getD j false := by
  rw [Array.getD_eq_getD_getElem?, Array.getD_eq_getD_getElem?, Array.getElem?_setIfInBounds_ne hij]
theorem getD_own {l : Array Bool} {i : Nat} (hi : i < l.size) : (l.setIfInBounds i true).getD i false = true := by
  rw [Array.getD_eq_getD_getElem?, Array.getElem?_setIfInBounds_self_of_lt hi]; rfl
theorem getD_both {l : Array Bool} {i : Nat} (h : l.getD i false = true) : l.getD i true = true := by
  rw [Array.getD_eq_getD_getElem?] at h ⊢
  cases hv : l[i]? with
  | none => rfl
  | some b => rw [hv] at h; exact h
theorem ptr_ne {a b : Nat} (h : a ≠ b) : Value.pointer (some ⟨a, 0, none⟩) ≠ Value.pointer (some ⟨b, 0, none⟩) := fun hh => h (by injection hh with hh; injection hh with hh; injection hh)
/-- At the end all has come up: each operation waits for earlier ones alone. -/
theorem ready_all {l : Array Bool} (hac : ∀ (i : Fin ops.size), ∀ e ∈ ops[i].after, e.on < i.val) (hl : l.size = ops.size) (hr : Region.ready .any ops l = []) :
    ∀ i, i < ops.size → l.getD i false = true := by
  intro i
  induction i using Nat.strongRecOn with
  | _ i ih =>
    intro hi
    cases hv : l.getD i true with
    | true =>
      rw [Array.getD_eq_getD_getElem?, Array.getElem?_eq_getElem (by omega)] at hv ⊢
      exact hv
    | false =>
      exfalso
      have hm : i ∈ Region.ready .any ops l := by
        refine List.mem_filter.2 ⟨List.mem_range.2 hi, ?_⟩
        rw [hv, Array.getElem?_eq_getElem hi]
        simp only [Bool.not_false, Bool.true_and, Option.map_some, Option.getD_some]
        rw [Array.all_eq_true_iff_forall_mem]
        intro e he
        have h1 := hac ⟨i, hi⟩ e he
        have h2 := ih e.on h1 (by dsimp only at h1; omega)
        rw [h2]; simp
      rw [hr] at hm
      cases hm
end
end Go.Proofs.Ytnphbdhcoiaklaa
namespace Go.Proofs.Ytnphbdhcoiaklaa
open Go

theorem ready_allb {ops : Array Oper} {l : Array Bool} (hac : ∀ (i : Fin ops.size), ∀ e ∈ ops[i].after, Region.binds .any e = true → e.on < i.val) (hl : l.size = ops.size) (hr : Region.ready .any ops l = []) :
    ∀ i, i < ops.size → l.getD i false = true := by
  intro i
  induction i using Nat.strongRecOn with
  | _ i ih =>
    intro hi
    cases hv : l.getD i true with
    | true =>
      rw [Array.getD_eq_getD_getElem?, Array.getElem?_eq_getElem (by omega)] at hv ⊢
      exact hv
    | false =>
      exfalso
      have hm : i ∈ Region.ready .any ops l := by
        refine List.mem_filter.2 ⟨List.mem_range.2 hi, ?_⟩
        rw [hv, Array.getElem?_eq_getElem hi]
        simp only [Bool.not_false, Bool.true_and, Option.map_some, Option.getD_some]
        rw [Array.all_eq_true_iff_forall_mem]
        intro e he
        cases hb : Region.binds .any e with
        | false => simp
        | true =>
          have h1 := hac ⟨i, hi⟩ e he hb
          have h2 := ih e.on h1 (by dsimp only at h1; omega)
          rw [h2]; simp
      rw [hr] at hm
      cases hm
end Go.Proofs.Ytnphbdhcoiaklaa
namespace Go.Proofs.Ytnphbdhcoiaklaa
open Go.RowKit

theorem CellF.at_ {a : World} {c : Array Value} {t : TypeId} {n i : Nat} {v : Value} (hn : n = a.heap.size) (hv : c[i]? = some v) : CellF (a.alloc (.cells c t)) ⟨n, i, none⟩ v := by
  subst hn
  refine ⟨?_, ?_⟩
  · rw [World.cell?_alloc_new]; exact hv
  · go_simp
theorem cdrew {a : World} {p : Addr} {v : Value} (h : a.cell? p = some v) : a.drew.cell? p = some v := h
theorem csetc {a : World} {p q : Addr} {v : Value} (u : Value) (h : a.cell? p = some v) (hq : p.block < q.block) : (a.setCell q u).cell? p = some v :=
  (((Below.refl q.block a).setCell (Nat.le_refl _) u).cell hq).trans h

/-- A span in a block. -/
def SpanAt (w : World) (b : Nat) (lo hi : Int) (k : Bool) : Prop := CellF w ⟨b, 0, none⟩ (.int .i64 lo) ∧ CellF w ⟨b, 1, none⟩ (.int .i64 hi) ∧ CellF w ⟨b, 2, none⟩ (.bool k)

theorem SpanAt.keep {a b : World} {n : Nat} {x y : Int} {z : Bool} (hb : Below a.heap.size a b) (h : SpanAt a n x y z) : SpanAt b n x y z := ⟨CellF.keep hb h.1, CellF.keep hb h.2.1, CellF.keep hb h.2.2⟩
theorem SpanAt.lt {a : World} {n : Nat} {x y : Int} {z : Bool} (h : SpanAt a n x y z) : n < a.heap.size := ltc h.1.1
theorem SpanAt.new {a : World} {n : Nat} {x y : Int} {z : Bool} {t : TypeId} (hn : n = a.heap.size) : SpanAt (a.alloc (.cells #[.int .i64 x, .int .i64 y, .bool z] t)) n x y z := ⟨CellF.at_ hn rfl, CellF.at_ hn rfl, CellF.at_ hn rfl⟩
theorem CellF.set_same' {a : World} {p : Addr} {u : Value} (v : Value) (h : CellF a p u) : CellF (a.setCell p v) p v :=
  ⟨World.cell?_setCell_same _ _ _ h.1, by rw [World.frozen?_setCell]; exact h.2⟩
theorem CellF.set_other' {a : World} {p q : Addr} {u : Value} (v : Value) (hne : p ≠ q) (h : CellF a q u) : CellF (a.setCell p v) q u :=
  ⟨(World.cell?_setCell_other _ _ _ _ hne).trans h.1, by rw [World.frozen?_setCell]; exact h.2⟩
theorem span_sets {a : World} {b : Nat} {x y x0 y0 : Int} {z z0 : Bool} (h : SpanAt a b x0 y0 z0) :
    SpanAt (((a.setCell ⟨b, 0, none⟩ (.int .i64 x)).setCell ⟨b, 1, none⟩ (.int .i64 y)).setCell ⟨b, 2, none⟩ (.bool z)) b x y z ∧
    (∀ c x1 y1 z1, c ≠ b → SpanAt a c x1 y1 z1 → SpanAt (((a.setCell ⟨b, 0, none⟩ (.int .i64 x)).setCell ⟨b, 1, none⟩ (.int .i64 y)).setCell ⟨b, 2, none⟩ (.bool z)) c x1 y1 z1) ∧
    (∀ B, B ≤ b → Below B a (((a.setCell ⟨b, 0, none⟩ (.int .i64 x)).setCell ⟨b, 1, none⟩ (.int .i64 y)).setCell ⟨b, 2, none⟩ (.bool z))) := by
  have n4 : ∀ i j : Nat, i ≠ j → (⟨b, i, none⟩ : Addr) ≠ ⟨b, j, none⟩ := fun _ _ hij h => hij (by injection h)
  refine ⟨⟨?_, ?_, ?_⟩, fun c x1 y1 z1 hc hh => ?_, fun B hB => ?_⟩
  · exact ((h.1.set_same' _).set_other' _ (n4 1 0 (by decide))).set_other' _ (n4 2 0 (by decide))
  · exact ((h.2.1.set_other' _ (n4 0 1 (by decide))).set_same' _).set_other' _ (n4 2 1 (by decide))
  · exact ((h.2.2.set_other' _ (n4 0 2 (by decide))).set_other' _ (n4 1 2 (by decide))).set_same' _
  · have n1 : ∀ i j, (⟨b, i, none⟩ : Addr) ≠ ⟨c, j, none⟩ := fun _ _ h => hc (by injection h with h; exact h.symm)
    exact ⟨((hh.1.set_other' _ (n1 0 0)).set_other' _ (n1 1 0)).set_other' _ (n1 2 0), ((hh.2.1.set_other' _ (n1 0 1)).set_other' _ (n1 1 1)).set_other' _ (n1 2 1), ((hh.2.2.set_other' _ (n1 0 2)).set_other' _ (n1 1 2)).set_other' _ (n1 2 2)⟩
  · exact (((Below.refl B a).setCell hB _).setCell hB _).setCell hB _

/-- Two blocks, one on the other. -/
theorem two_blocks (w u : World) (c1 c2 : Array Value) (T1 T2 : TypeId) (hu : u = (w.alloc (.cells c1 T1)).alloc (.cells c2 T2)) :
    Below w.heap.size w u ∧ u.heap.size = w.heap.size + 1 + 1 ∧ (∀ i v, c1[i]? = some v → CellF u ⟨w.heap.size, i, none⟩ v) ∧ (∀ i v, c2[i]? = some v → CellF u ⟨w.heap.size + 1, i, none⟩ v) := by
  subst hu
  refine ⟨balloc (balloc (brefl _) _) _, by simp, fun i v h => ?_, fun i v h => ?_⟩
  · exact CellF.past _ (CellF.at_ rfl h)
  · exact CellF.at_ (by simp) h

/-- Three blocks, one on the other. -/
theorem three_blocks (w u : World) (c1 c2 c3 : Array Value) (T1 T2 T3 : TypeId) (hu : u = ((w.alloc (.cells c1 T1)).alloc (.cells c2 T2)).alloc (.cells c3 T3)) :
    Below w.heap.size w u ∧ u.heap.size = w.heap.size + 1 + 1 + 1 ∧ (∀ i v, c1[i]? = some v → CellF u ⟨w.heap.size, i, none⟩ v) ∧ (∀ i v, c2[i]? = some v → CellF u ⟨w.heap.size + 1, i, none⟩ v) ∧ (∀ i v, c3[i]? = some v → CellF u ⟨w.heap.size + 1 + 1, i, none⟩ v) := by
  subst hu
  refine ⟨balloc (balloc (balloc (brefl _) _) _) _, by simp, fun i v h => ?_, fun i v h => ?_, fun i v h => ?_⟩
  · exact CellF.past _ (CellF.past _ (CellF.at_ rfl h))
  · exact CellF.past _ (CellF.at_ (by simp) h)
  · exact CellF.at_ (by simp) h

end Go.Proofs.Ytnphbdhcoiaklaa
