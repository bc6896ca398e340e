/-
  The walks of package span's Of and Right.
  The walks of package span's known, Has, Within, Width.
  The walks of package span's Within and made.
  The walks of package span's Add, Sub, Shift, Wider.
  The walk of package span's Wider.
  The walks of package span's Unknown, Meet, Hull, Drift.
  The walks of package span's Unknown, Hull, Drift.
  Plain spans: what is scaled.
  Plain spans: what holds of sums, differences, what is moved, what two have in common.
  Plain laws of spans that drift and of spans that are scaled.
  A region that draws its order, by one invariant: each operation is shown once, whatever has come up before it.
  At the end of a region all has come up: only the edges that bind in this mode need lead backward.
  A span in a block.
-/
import Derived.Test.YtnphbdhcoiaklaaZGA
import Derived.BigQuiet
import Derived.Deep.QuietTactic
import Derived.Deep.RegionHeld3
import Derived.Deep.RegionWith
import Derived.RegionTactic
import Derived.BigRegion
import Derived.Deep.Cut
import Derived.Deep.CutRange
import Derived.Deep.DeepCutAuto
namespace Go.Proofs.Ytnphbdhcoiaklaa
open Go.RowKit

theorem Of_is (lo hi x y : Int) (k : Bool) (H : Hid (spOf lo hi = ⟨x, y, k⟩)) (w : World) :
    Calls Try.prog 64 #[.int .i64 lo, .int .i64 hi] w fun e w' => e = .returned (.agg #[.int .i64 x, .int .i64 y, .bool k]) ∧ Below w.heap.size w w' := by
  cases hs : (smallB lo && smallB hi) with
  | false =>
    have h := (spOf_no1 hs).symm.trans H.out
    cases h
    clear H
    go_enter Try.func64, Try.ntmps64
    go_wp2_with fail
    refine (small2 lo hi _ hs _ _ (by simp) (by simp)).mono ?_
    rintro e w1 ⟨rfl, rfl⟩
    go_wp2
    exact bodyPost_ret (v := .agg #[.int .i64 0, .int .i64 0, .bool false]) (by simp [results, Try.results64, go_sem]) rfl ⟨rfl, (by repeat (first | exact brefl _ | refine balloc ?_ _ | refine bdrewN ?_ _ | refine bset ?_ (by dsimp only; omega) _ | refine bstep ?_ (by assumption)))⟩
  | true =>
    by_cases hle : hi < lo
    · have h := (spOf_no2 hle).symm.trans H.out
      cases h
      clear H
      go_enter Try.func64, Try.ntmps64
      go_wp2_with fail
      refine (small2 lo hi _ hs _ _ (by simp) (by simp)).mono ?_
      rintro e w1 ⟨rfl, rfl⟩
      go_wp2
      exact bodyPost_ret (v := .agg #[.int .i64 0, .int .i64 0, .bool false]) (by simp [results, Try.results64, go_sem]) rfl ⟨rfl, (by repeat (first | exact brefl _ | refine balloc ?_ _ | refine bdrewN ?_ _ | refine bset ?_ (by dsimp only; omega) _ | refine bstep ?_ (by assumption)))⟩
    · have h := (spOf_yes hs (by omega)).symm.trans H.out
      cases h
      clear H
      go_enter Try.func64, Try.ntmps64
      go_wp2_with fail
      refine (small2 lo hi _ hs _ _ (by simp) (by simp)).mono ?_
      rintro e w1 ⟨rfl, rfl⟩
      go_wp2
      exact bodyPost_ret (v := .agg #[.int .i64 lo, .int .i64 hi, .bool true]) (by simp [results, Try.results64, go_sem]) rfl ⟨rfl, (by repeat (first | exact brefl _ | refine balloc ?_ _ | refine bdrewN ?_ _ | refine bset ?_ (by dsimp only; omega) _ | refine bstep ?_ (by assumption)))⟩

theorem cases3 (lo hi : Int) : (lo == 0) = false ∨ (lo = 0 ∧ (hi == 0) = false) ∨ (lo = 0 ∧ hi = 0) := by
  by_cases h1 : lo = 0
  · by_cases h2 : hi = 0
    · exact .inr (.inr ⟨h1, h2⟩)
    · exact .inr (.inl ⟨h1, beq_eq_false_iff_ne.2 h2⟩)
  · exact .inl (beq_eq_false_iff_ne.2 h1)

theorem Right_is (lo hi : Int) (k p : Bool) (H : Hid (spRight ⟨lo, hi, k⟩ = p)) (w : World) :
    Calls Try.prog 56 #[.agg #[.int .i64 lo, .int .i64 hi, .bool k]] w fun e w' => e = .returned (.bool p) ∧ Below w.heap.size w w' := by
  cases k with
  | false =>
    rcases cases3 lo hi with e1 | ⟨rfl, e2⟩ | ⟨rfl, rfl⟩
    · obtain rfl : false = p := by rw [← H.out]; have := beq_eq_false_iff_ne.1 e1; simp [spRight, this]
      clear H
      go_enter Try.func56, Try.ntmps56
      go_wp2_with fail
      go_quiet (fail)
      go_wp2
      go_ret
      exact ⟨rfl, (by repeat (first | exact brefl _ | refine balloc ?_ _ | refine bdrewN ?_ _ | refine bset ?_ (by dsimp only; omega) _ | refine bstep ?_ (by assumption)))⟩
    · obtain rfl : false = p := by rw [← H.out]; have := beq_eq_false_iff_ne.1 e2; simp [spRight, this]
      clear H
      go_enter Try.func56, Try.ntmps56
      go_wp2_with fail
      go_quiet (fail)
      go_wp2
      go_ret
      exact ⟨rfl, (by repeat (first | exact brefl _ | refine balloc ?_ _ | refine bdrewN ?_ _ | refine bset ?_ (by dsimp only; omega) _ | refine bstep ?_ (by assumption)))⟩
    · obtain rfl : true = p := H.out
      clear H
      go_enter Try.func56, Try.ntmps56
      go_wp2_with fail
      go_quiet (fail)
      go_wp2
      go_ret
      exact ⟨rfl, (by repeat (first | exact brefl _ | refine balloc ?_ _ | refine bdrewN ?_ _ | refine bset ?_ (by dsimp only; omega) _ | refine bstep ?_ (by assumption)))⟩
  | true =>
    by_cases hok : spOf lo hi = ⟨lo, hi, true⟩
    · obtain rfl : true = p := by
        rw [← H.out]
        symm
        have := spK_of hok
        rw [spK_iff] at this
        simp [spRight, this]
      have HO := Lib.hid hok
      clear H hok
      rcases cases3 lo hi with e1 | ⟨rfl, e2⟩ | ⟨rfl, rfl⟩
      · go_enter Try.func56, Try.ntmps56
        go_wp2_with fail
        have hB0 := balloc (brefl w) (.cells #[.int .i64 lo, .int .i64 hi, .bool true] 50)
        have hB1 := hB0.drew
        go_region_held3 (fun w' => w'.cell? ⟨w.heap.size, 0, none⟩ = some (.int .i64 lo) ∧ w'.cell? ⟨w.heap.size, 1, none⟩ = some (.int .i64 hi) ∧ w'.cell? ⟨w.heap.size, 2, none⟩ = some (.bool true) ∧ w.heap.size < w'.heap.size ∧ Below w.heap.size w w')
          (go_keep)
          (first | (go_at_call 64; refine (Of_is _ _ _ _ _ HO _).mono ?_; rintro e w1 ⟨rfl, hb1⟩; have hk := (bcell hb1).1; have hz := Nat.lt_of_lt_of_le (‹_ ∧ _ ∧ _ ∧ w.heap.size < _ ∧ Below w.heap.size w _›).2.2.2.1 hb1.size; have hB := bstep (w := w) (‹_ ∧ _ ∧ _ ∧ _ ∧ Below w.heap.size w _›).2.2.2.2 hb1))
        go_wp2
        go_ret
        exact ⟨rfl, hB⟩
      · go_enter Try.func56, Try.ntmps56
        go_wp2_with fail
        have hB0 := balloc (brefl w) (.cells #[.int .i64 0, .int .i64 hi, .bool true] 50)
        have hB1 := hB0.drew
        go_region_held3 (fun w' => w'.cell? ⟨w.heap.size, 0, none⟩ = some (.int .i64 0) ∧ w'.cell? ⟨w.heap.size, 1, none⟩ = some (.int .i64 hi) ∧ w'.cell? ⟨w.heap.size, 2, none⟩ = some (.bool true) ∧ w.heap.size < w'.heap.size ∧ Below w.heap.size w w')
          (go_keep)
          (first | (go_at_call 64; refine (Of_is _ _ _ _ _ HO _).mono ?_; rintro e w1 ⟨rfl, hb1⟩; have hk := (bcell hb1).1; have hz := Nat.lt_of_lt_of_le (‹_ ∧ _ ∧ _ ∧ w.heap.size < _ ∧ Below w.heap.size w _›).2.2.2.1 hb1.size; have hB := bstep (w := w) (‹_ ∧ _ ∧ _ ∧ _ ∧ Below w.heap.size w _›).2.2.2.2 hb1))
        go_wp2
        go_ret
        exact ⟨rfl, hB⟩
      · go_enter Try.func56, Try.ntmps56
        go_wp2_with fail
        have hB0 := balloc (brefl w) (.cells #[.int .i64 0, .int .i64 0, .bool true] 50)
        have hB1 := hB0.drew
        go_region_held3 (fun w' => w'.cell? ⟨w.heap.size, 0, none⟩ = some (.int .i64 0) ∧ w'.cell? ⟨w.heap.size, 1, none⟩ = some (.int .i64 0) ∧ w'.cell? ⟨w.heap.size, 2, none⟩ = some (.bool true) ∧ w.heap.size < w'.heap.size ∧ Below w.heap.size w w')
          (go_keep)
          (first | (go_at_call 64; refine (Of_is _ _ _ _ _ HO _).mono ?_; rintro e w1 ⟨rfl, hb1⟩; have hk := (bcell hb1).1; have hz := Nat.lt_of_lt_of_le (‹_ ∧ _ ∧ _ ∧ w.heap.size < _ ∧ Below w.heap.size w _›).2.2.2.1 hb1.size; have hB := bstep (w := w) (‹_ ∧ _ ∧ _ ∧ _ ∧ Below w.heap.size w _›).2.2.2.2 hb1))
        go_wp2
        go_ret
        exact ⟨rfl, hB⟩
    · have hno : spOf lo hi = spNo := by
        unfold spOf at hok ⊢
        split
        · rename_i h; rw [if_pos h] at hok; exact absurd rfl hok
        · rfl
      obtain rfl : false = p := by
        rw [← H.out]
        symm
        cases h : spRight ⟨lo, hi, true⟩
        · rfl
        · simp [spRight] at h
          exact absurd (spOf_yes (by simp [h]) h.2) hok
      have HO : Hid (spOf lo hi = ⟨0, 0, false⟩) := hno
      clear H hno hok
      rcases cases3 lo hi with e1 | ⟨rfl, e2⟩ | ⟨rfl, rfl⟩
      · go_enter Try.func56, Try.ntmps56
        go_wp2_with fail
        have hB0 := balloc (brefl w) (.cells #[.int .i64 lo, .int .i64 hi, .bool true] 50)
        have hB1 := hB0.drew
        go_region_held3 (fun w' => w'.cell? ⟨w.heap.size, 0, none⟩ = some (.int .i64 lo) ∧ w'.cell? ⟨w.heap.size, 1, none⟩ = some (.int .i64 hi) ∧ w'.cell? ⟨w.heap.size, 2, none⟩ = some (.bool true) ∧ w.heap.size < w'.heap.size ∧ Below w.heap.size w w')
          (go_keep)
          (first | (go_at_call 64; refine (Of_is _ _ _ _ _ HO _).mono ?_; rintro e w1 ⟨rfl, hb1⟩; have hk := (bcell hb1).1; have hz := Nat.lt_of_lt_of_le (‹_ ∧ _ ∧ _ ∧ w.heap.size < _ ∧ Below w.heap.size w _›).2.2.2.1 hb1.size; have hB := bstep (w := w) (‹_ ∧ _ ∧ _ ∧ _ ∧ Below w.heap.size w _›).2.2.2.2 hb1))
        go_wp2
        go_ret
        exact ⟨rfl, hB⟩
      · go_enter Try.func56, Try.ntmps56
        go_wp2_with fail
        have hB0 := balloc (brefl w) (.cells #[.int .i64 0, .int .i64 hi, .bool true] 50)
        have hB1 := hB0.drew
        go_region_held3 (fun w' => w'.cell? ⟨w.heap.size, 0, none⟩ = some (.int .i64 0) ∧ w'.cell? ⟨w.heap.size, 1, none⟩ = some (.int .i64 hi) ∧ w'.cell? ⟨w.heap.size, 2, none⟩ = some (.bool true) ∧ w.heap.size < w'.heap.size ∧ Below w.heap.size w w')
          (go_keep)
          (first | (go_at_call 64; refine (Of_is _ _ _ _ _ HO _).mono ?_; rintro e w1 ⟨rfl, hb1⟩; have hk := (bcell hb1).1; have hz := Nat.lt_of_lt_of_le (‹_ ∧ _ ∧ _ ∧ w.heap.size < _ ∧ Below w.heap.size w _›).2.2.2.1 hb1.size; have hB := bstep (w := w) (‹_ ∧ _ ∧ _ ∧ _ ∧ Below w.heap.size w _›).2.2.2.2 hb1))
        go_wp2
        go_ret
        exact ⟨rfl, hB⟩
      · have hno := HO.out
        cases hno
end Go.Proofs.Ytnphbdhcoiaklaa
namespace Go.Proofs.Ytnphbdhcoiaklaa
open Go.RowKit

/-- What a cell of the call's own holds; it may be written. -/
def CellF (w : World) (p : Addr) (v : Value) : Prop := w.cell? p = some v ∧ w.frozen? p = false
theorem CellF.keep {a b : World} (hb : Below a.heap.size a b) {p : Addr} {v : Value} (h : CellF a p v) : CellF b p v := ⟨keepc hb h.1, keepf hb h.1 h.2⟩
theorem CellF.past {a : World} (o : Obj) {p : Addr} {v : Value} (h : CellF a p v) : CellF (a.alloc o) p v := ⟨allocc o h.1, allocf o h.1 h.2⟩
theorem CellF.drewN {a : World} (n : Nat) {p : Addr} {v : Value} (h : CellF a p v) : CellF (a.drewN n) p v := h

theorem CellF.drew {a : World} {p : Addr} {v : Value} (h : CellF a p v) : CellF a.drew p v := h
/-- 'Small' of two, the world behind it under a name of its own. -/
theorem small2b (x y : Int) (p : Bool) (hp : (smallB x && smallB y) = p) (b : Nat) (w : World) (h0 : w.cell? ⟨b, 0, none⟩ = some (.int .i64 x)) (h1 : w.cell? ⟨b, 1, none⟩ = some (.int .i64 y)) :
    Calls Try.prog 18 #[.slice (some ⟨b, 0, none⟩) 2 2] w fun e w' => e = .returned (.bool p) ∧ Below w.heap.size w w' :=
  (small2 x y p hp b w h0 h1).mono fun _ _ ⟨he, hw⟩ => ⟨he, hw ▸ brefl w⟩

theorem known1 (lo hi : Int) (k p : Bool) (hp : Hid (spK ⟨lo, hi, k⟩ = p)) (b : Nat) (w : World) (c0 : w.cell? ⟨b, 0, none⟩ = some (.int .i64 lo)) (c1 : w.cell? ⟨b, 1, none⟩ = some (.int .i64 hi)) (c2 : w.cell? ⟨b, 2, none⟩ = some (.bool k)) :
    Calls Try.prog 96 #[.slice (some ⟨b, 0, none⟩) 1 1] w fun e w' => e = .returned (.bool p) ∧ Below w.heap.size w w' := by
  cases k with
  | false =>
    obtain rfl : false = p := hp.out
    clear hp
    go_enter Try.func96, Try.ntmps96
    go_wp2_with fail
    refine wp_loop_rounds 1 ?_
    rw [rounds_succ]
    go_wp2
    go_ret
    exact ⟨rfl, (by repeat (first | exact brefl _ | refine balloc ?_ _ | refine bdrewN ?_ _ | refine bset ?_ (by dsimp only; omega) _ | refine bstep ?_ (by assumption)))⟩
  | true =>
    have H : Hid (spRight ⟨lo, hi, true⟩ = p) := hp.out
    clear hp
    cases p with
    | false =>
      go_enter Try.func96, Try.ntmps96
      go_wp2_with fail
      refine wp_loop_rounds 1 ?_
      rw [rounds_succ]
      go_wp2_with fail
      refine (Right_is _ _ _ _ H _).mono ?_
      rintro e w1 ⟨rfl, hb1⟩
      go_wp2
      go_ret
      exact ⟨rfl, (by repeat (first | exact brefl _ | refine balloc ?_ _ | refine bdrewN ?_ _ | refine bset ?_ (by dsimp only; omega) _ | refine bstep ?_ (by assumption)))⟩
    | true =>
      go_enter Try.func96, Try.ntmps96
      go_wp2_with fail
      refine wp_loop_rounds 2 ?_
      rw [rounds_succ]
      go_wp2_with fail
      refine (Right_is _ _ _ _ H _).mono ?_
      rintro e w1 ⟨rfl, hb1⟩
      go_wp2
      rw [rounds_succ]
      go_wp2
      go_ret
      exact ⟨rfl, (by repeat (first | exact brefl _ | refine balloc ?_ _ | refine bdrewN ?_ _ | refine bset ?_ (by dsimp only; omega) _ | refine bstep ?_ (by assumption)))⟩

theorem known2 (lo hi lo2 hi2 : Int) (k k2 p : Bool) (hp : Hid ((spK ⟨lo, hi, k⟩ && spK ⟨lo2, hi2, k2⟩) = p)) (b : Nat) (w : World) (hbs : b < w.heap.size)
    (c0 : w.cell? ⟨b, 0, none⟩ = some (.int .i64 lo)) (c1 : w.cell? ⟨b, 1, none⟩ = some (.int .i64 hi)) (c2 : w.cell? ⟨b, 2, none⟩ = some (.bool k))
    (c3 : w.cell? ⟨b, 3, none⟩ = some (.int .i64 lo2)) (c4 : w.cell? ⟨b, 4, none⟩ = some (.int .i64 hi2)) (c5 : w.cell? ⟨b, 5, none⟩ = some (.bool k2)) :
    Calls Try.prog 96 #[.slice (some ⟨b, 0, none⟩) 2 2] w fun e w' => e = .returned (.bool p) ∧ Below w.heap.size w w' := by
  cases k with
  | false =>
    obtain rfl : false = p := hp.out
    clear hp
    go_enter Try.func96, Try.ntmps96
    go_wp2_with fail
    refine wp_loop_rounds 1 ?_
    rw [rounds_succ]
    go_wp2
    go_ret
    exact ⟨rfl, (by repeat (first | exact brefl _ | refine balloc ?_ _ | refine bdrewN ?_ _ | refine bset ?_ (by dsimp only; omega) _ | refine bstep ?_ (by assumption)))⟩
  | true =>
    obtain ⟨r, hr⟩ : ∃ r, spRight ⟨lo, hi, true⟩ = r := ⟨_, rfl⟩
    cases r with
    | false =>
      obtain rfl : false = p := by rw [← hp.out]; simp [spK, hr]
      have H := Lib.hid hr
      clear hp hr
      go_enter Try.func96, Try.ntmps96
      go_wp2_with fail
      refine wp_loop_rounds 1 ?_
      rw [rounds_succ]
      go_wp2_with fail
      refine (Right_is _ _ _ _ H _).mono ?_
      rintro e w1 ⟨rfl, hb1⟩
      go_wp2
      go_ret
      exact ⟨rfl, (by repeat (first | exact brefl _ | refine balloc ?_ _ | refine bdrewN ?_ _ | refine bset ?_ (by dsimp only; omega) _ | refine bstep ?_ (by assumption)))⟩
    | true =>
      have h2 : spK ⟨lo2, hi2, k2⟩ = p := by rw [← hp.out]; simp [spK, hr]
      have H := Lib.hid hr
      clear hp hr
      have hb2 : b < w.heap.size + 1 := by omega
      cases k2 with
      | false =>
        obtain rfl : false = p := h2
        go_enter Try.func96, Try.ntmps96
        go_wp2_with fail
        refine wp_loop_rounds 2 ?_
        rw [rounds_succ]
        go_wp2_with fail
        refine (Right_is _ _ _ _ H _).mono ?_
        rintro e w1 ⟨rfl, hb1⟩
        have hk1 := (bcell hb1).1
        go_wp2
        rw [rounds_succ]
        go_wp2
        go_ret
        exact ⟨rfl, (by repeat (first | exact brefl _ | refine balloc ?_ _ | refine bdrewN ?_ _ | refine bset ?_ (by dsimp only; omega) _ | refine bstep ?_ (by assumption)))⟩
      | true =>
        have H2 : Hid (spRight ⟨lo2, hi2, true⟩ = p) := h2
        clear h2
        cases p with
        | false =>
          go_enter Try.func96, Try.ntmps96
          go_wp2_with fail
          refine wp_loop_rounds 2 ?_
          rw [rounds_succ]
          go_wp2_with fail
          refine (Right_is _ _ _ _ H _).mono ?_
          rintro e w1 ⟨rfl, hb1⟩
          have hk1 := (bcell hb1).1
          go_wp2
          rw [rounds_succ]
          go_wp2_with fail
          refine (Right_is _ _ _ _ H2 _).mono ?_
          rintro e w2 ⟨rfl, hb2⟩
          go_wp2
          go_ret
          exact ⟨rfl, (by repeat (first | exact brefl _ | refine balloc ?_ _ | refine bdrewN ?_ _ | refine bset ?_ (by dsimp only; omega) _ | refine bstep ?_ (by assumption)))⟩
        | true =>
          go_enter Try.func96, Try.ntmps96
          go_wp2_with fail
          refine wp_loop_rounds 3 ?_
          rw [rounds_succ]
          go_wp2_with fail
          refine (Right_is _ _ _ _ H _).mono ?_
          rintro e w1 ⟨rfl, hb1⟩
          have hk1 := (bcell hb1).1
          go_wp2
          rw [rounds_succ]
          go_wp2_with fail
          refine (Right_is _ _ _ _ H2 _).mono ?_
          rintro e w2 ⟨rfl, hb2⟩
          go_wp2
          rw [rounds_succ]
          go_wp2
          go_ret
          exact ⟨rfl, (by repeat (first | exact brefl _ | refine balloc ?_ _ | refine bdrewN ?_ _ | refine bset ?_ (by dsimp only; omega) _ | refine bstep ?_ (by assumption)))⟩

end Go.Proofs.Ytnphbdhcoiaklaa
namespace Go.Proofs.Ytnphbdhcoiaklaa
open Go.RowKit

set_option maxHeartbeats 1000000 in
theorem made_add (l0 l1 h0 h1 x y : Int) (z : Bool) (H : Hid (spMade (addP l0 l1) (addP h0 h1) = ⟨x, y, z⟩)) (w : World) :
    Calls Try.prog 97 #[.func (.func 11) #[] #[], .agg #[.int .i64 l0, .int .i64 l1], .agg #[.int .i64 h0, .int .i64 h1]] w fun e w' => e = .returned (.agg #[.int .i64 x, .int .i64 y, .bool z]) ∧ Below w.heap.size w w' := by
  obtain ⟨a, p, ha⟩ : ∃ a p, addP l0 l1 = (a, p) := ⟨_, _, rfl⟩
  obtain ⟨b, q, hb⟩ : ∃ a p, addP h0 h1 = (a, p) := ⟨_, _, rfl⟩
  have hm := H.out
  rw [ha, hb] at hm
  have HA := Lib.hid ha
  have HB := Lib.hid hb
  clear H ha hb
  cases p with
  | false =>
    cases hm
    go_enter Try.func97, Try.ntmps97
    go_wp2_with fail
    refine (Add_is _ _ _ _ HA _).mono ?_
    rintro e w1 ⟨rfl, hb1⟩
    have q1_1_0 : CellF w1 ⟨w.heap.size + 1, 0, none⟩ (.int .i64 h0) := (by refine CellF.keep hb1 ?_; refine ⟨?_, ?_⟩ <;> go_simp)
    have c1_1_0 := q1_1_0.1
    have q1_1_1 : CellF w1 ⟨w.heap.size + 1, 1, none⟩ (.int .i64 h1) := (by refine CellF.keep hb1 ?_; refine ⟨?_, ?_⟩ <;> go_simp)
    have c1_1_1 := q1_1_1.1
    have z1_1 : w.heap.size + 1 < w1.heap.size := ltc c1_1_0
    have q1_2_0 : CellF w1 ⟨w.heap.size + 1 + 1, 0, none⟩ (.int .i64 0) := (by refine CellF.keep hb1 ?_; refine ⟨?_, ?_⟩ <;> go_simp)
    have c1_2_0 := q1_2_0.1
    have g1_2_0 := q1_2_0.2
    have q1_2_1 : CellF w1 ⟨w.heap.size + 1 + 1, 1, none⟩ (.int .i64 0) := (by refine CellF.keep hb1 ?_; refine ⟨?_, ?_⟩ <;> go_simp)
    have c1_2_1 := q1_2_1.1
    have g1_2_1 := q1_2_1.2
    have q1_2_2 : CellF w1 ⟨w.heap.size + 1 + 1, 2, none⟩ (.bool false) := (by refine CellF.keep hb1 ?_; refine ⟨?_, ?_⟩ <;> go_simp)
    have c1_2_2 := q1_2_2.1
    have g1_2_2 := q1_2_2.2
    have z1_2 : w.heap.size + 1 + 1 < w1.heap.size := ltc c1_2_0
    go_wp2_with fail
    refine (Add_is _ _ _ _ HB _).mono ?_
    rintro e w2 ⟨rfl, hb2⟩
    have q2_3_0 : CellF w2 ⟨w.heap.size + 1 + 1, 0, none⟩ (.int .i64 0) := (by first | exact q1_2_0.keep hb2 | exact (q1_2_0.past _).keep hb2)
    have c2_3_0 := q2_3_0.1
    have g2_3_0 := q2_3_0.2
    have q2_3_1 : CellF w2 ⟨w.heap.size + 1 + 1, 1, none⟩ (.int .i64 0) := (by first | exact q1_2_1.keep hb2 | exact (q1_2_1.past _).keep hb2)
    have c2_3_1 := q2_3_1.1
    have g2_3_1 := q2_3_1.2
    have q2_3_2 : CellF w2 ⟨w.heap.size + 1 + 1, 2, none⟩ (.bool false) := (by first | exact q1_2_2.keep hb2 | exact (q1_2_2.past _).keep hb2)
    have c2_3_2 := q2_3_2.1
    have g2_3_2 := q2_3_2.2
    have z2_3 : w.heap.size + 1 + 1 < w2.heap.size := ltc c2_3_0
    go_wp2
    exact bodyPost_ret (v := .agg #[.int .i64 0, .int .i64 0, .bool false]) (by simp [results, Try.results97, go_sem, c2_3_0, c2_3_1, c2_3_2]) rfl ⟨rfl, (by repeat (first | exact brefl _ | refine balloc ?_ _ | refine bdrewN ?_ _ | refine bset ?_ (by dsimp only; omega) _ | refine bstep ?_ (by assumption)))⟩
  | true =>
    cases q with
    | false =>
      cases hm
      go_enter Try.func97, Try.ntmps97
      go_wp2_with fail
      refine (Add_is _ _ _ _ HA _).mono ?_
      rintro e w1 ⟨rfl, hb1⟩
      have q1_1_0 : CellF w1 ⟨w.heap.size + 1, 0, none⟩ (.int .i64 h0) := (by refine CellF.keep hb1 ?_; refine ⟨?_, ?_⟩ <;> go_simp)
      have c1_1_0 := q1_1_0.1
      have q1_1_1 : CellF w1 ⟨w.heap.size + 1, 1, none⟩ (.int .i64 h1) := (by refine CellF.keep hb1 ?_; refine ⟨?_, ?_⟩ <;> go_simp)
      have c1_1_1 := q1_1_1.1
      have z1_1 : w.heap.size + 1 < w1.heap.size := ltc c1_1_0
      have q1_2_0 : CellF w1 ⟨w.heap.size + 1 + 1, 0, none⟩ (.int .i64 0) := (by refine CellF.keep hb1 ?_; refine ⟨?_, ?_⟩ <;> go_simp)
      have c1_2_0 := q1_2_0.1
      have g1_2_0 := q1_2_0.2
      have q1_2_1 : CellF w1 ⟨w.heap.size + 1 + 1, 1, none⟩ (.int .i64 0) := (by refine CellF.keep hb1 ?_; refine ⟨?_, ?_⟩ <;> go_simp)
      have c1_2_1 := q1_2_1.1
      have g1_2_1 := q1_2_1.2
      have q1_2_2 : CellF w1 ⟨w.heap.size + 1 + 1, 2, none⟩ (.bool false) := (by refine CellF.keep hb1 ?_; refine ⟨?_, ?_⟩ <;> go_simp)
      have c1_2_2 := q1_2_2.1
      have g1_2_2 := q1_2_2.2
      have z1_2 : w.heap.size + 1 + 1 < w1.heap.size := ltc c1_2_0
      go_wp2_with fail
      refine (Add_is _ _ _ _ HB _).mono ?_
      rintro e w2 ⟨rfl, hb2⟩
      have q2_3_0 : CellF w2 ⟨w.heap.size + 1 + 1, 0, none⟩ (.int .i64 0) := (by first | exact q1_2_0.keep hb2 | exact (q1_2_0.past _).keep hb2)
      have c2_3_0 := q2_3_0.1
      have g2_3_0 := q2_3_0.2
      have q2_3_1 : CellF w2 ⟨w.heap.size + 1 + 1, 1, none⟩ (.int .i64 0) := (by first | exact q1_2_1.keep hb2 | exact (q1_2_1.past _).keep hb2)
      have c2_3_1 := q2_3_1.1
      have g2_3_1 := q2_3_1.2
      have q2_3_2 : CellF w2 ⟨w.heap.size + 1 + 1, 2, none⟩ (.bool false) := (by first | exact q1_2_2.keep hb2 | exact (q1_2_2.past _).keep hb2)
      have c2_3_2 := q2_3_2.1
      have g2_3_2 := q2_3_2.2
      have z2_3 : w.heap.size + 1 + 1 < w2.heap.size := ltc c2_3_0
      go_wp2
      exact bodyPost_ret (v := .agg #[.int .i64 0, .int .i64 0, .bool false]) (by simp [results, Try.results97, go_sem, c2_3_0, c2_3_1, c2_3_2]) rfl ⟨rfl, (by repeat (first | exact brefl _ | refine balloc ?_ _ | refine bdrewN ?_ _ | refine bset ?_ (by dsimp only; omega) _ | refine bstep ?_ (by assumption)))⟩
    | true =>
      have HM : Hid (spOf a b = ⟨x, y, z⟩) := hm
      clear hm
      go_enter Try.func97, Try.ntmps97
      go_wp2_with fail
      refine (Add_is _ _ _ _ HA _).mono ?_
      rintro e w1 ⟨rfl, hb1⟩
      have q1_1_0 : CellF w1 ⟨w.heap.size + 1, 0, none⟩ (.int .i64 h0) := (by refine CellF.keep hb1 ?_; refine ⟨?_, ?_⟩ <;> go_simp)
      have c1_1_0 := q1_1_0.1
      have q1_1_1 : CellF w1 ⟨w.heap.size + 1, 1, none⟩ (.int .i64 h1) := (by refine CellF.keep hb1 ?_; refine ⟨?_, ?_⟩ <;> go_simp)
      have c1_1_1 := q1_1_1.1
      have z1_1 : w.heap.size + 1 < w1.heap.size := ltc c1_1_0
      have q1_2_0 : CellF w1 ⟨w.heap.size + 1 + 1, 0, none⟩ (.int .i64 0) := (by refine CellF.keep hb1 ?_; refine ⟨?_, ?_⟩ <;> go_simp)
      have c1_2_0 := q1_2_0.1
      have g1_2_0 := q1_2_0.2
      have q1_2_1 : CellF w1 ⟨w.heap.size + 1 + 1, 1, none⟩ (.int .i64 0) := (by refine CellF.keep hb1 ?_; refine ⟨?_, ?_⟩ <;> go_simp)
      have c1_2_1 := q1_2_1.1
      have g1_2_1 := q1_2_1.2
      have q1_2_2 : CellF w1 ⟨w.heap.size + 1 + 1, 2, none⟩ (.bool false) := (by refine CellF.keep hb1 ?_; refine ⟨?_, ?_⟩ <;> go_simp)
      have c1_2_2 := q1_2_2.1
      have g1_2_2 := q1_2_2.2
      have z1_2 : w.heap.size + 1 + 1 < w1.heap.size := ltc c1_2_0
      go_wp2_with fail
      refine (Add_is _ _ _ _ HB _).mono ?_
      rintro e w2 ⟨rfl, hb2⟩
      have q2_3_0 : CellF w2 ⟨w.heap.size + 1 + 1, 0, none⟩ (.int .i64 0) := (by first | exact q1_2_0.keep hb2 | exact (q1_2_0.past _).keep hb2)
      have c2_3_0 := q2_3_0.1
      have g2_3_0 := q2_3_0.2
      have q2_3_1 : CellF w2 ⟨w.heap.size + 1 + 1, 1, none⟩ (.int .i64 0) := (by first | exact q1_2_1.keep hb2 | exact (q1_2_1.past _).keep hb2)
      have c2_3_1 := q2_3_1.1
      have g2_3_1 := q2_3_1.2
      have q2_3_2 : CellF w2 ⟨w.heap.size + 1 + 1, 2, none⟩ (.bool false) := (by first | exact q1_2_2.keep hb2 | exact (q1_2_2.past _).keep hb2)
      have c2_3_2 := q2_3_2.1
      have g2_3_2 := q2_3_2.2
      have z2_3 : w.heap.size + 1 + 1 < w2.heap.size := ltc c2_3_0
      go_wp2_with fail
      refine (Of_is _ _ _ _ _ HM _).mono ?_
      rintro e w3 ⟨rfl, hb3⟩
      have q3_4_0 : CellF w3 ⟨w.heap.size + 1 + 1, 0, none⟩ (.int .i64 0) := (by first | exact q2_3_0.keep hb3 | exact (q2_3_0.past _).keep hb3)
      have c3_4_0 := q3_4_0.1
      have g3_4_0 := q3_4_0.2
      have q3_4_1 : CellF w3 ⟨w.heap.size + 1 + 1, 1, none⟩ (.int .i64 0) := (by first | exact q2_3_1.keep hb3 | exact (q2_3_1.past _).keep hb3)
      have c3_4_1 := q3_4_1.1
      have g3_4_1 := q3_4_1.2
      have q3_4_2 : CellF w3 ⟨w.heap.size + 1 + 1, 2, none⟩ (.bool false) := (by first | exact q2_3_2.keep hb3 | exact (q2_3_2.past _).keep hb3)
      have c3_4_2 := q3_4_2.1
      have g3_4_2 := q3_4_2.2
      have z3_4 : w.heap.size + 1 + 1 < w3.heap.size := ltc c3_4_0
      go_wp2
      exact bodyPost_ret (v := .agg #[.int .i64 x, .int .i64 y, .bool z]) (by simp [results, Try.results97, go_sem, c3_4_0, c3_4_1, c3_4_2]) rfl ⟨rfl, (by repeat (first | exact brefl _ | refine balloc ?_ _ | refine bdrewN ?_ _ | refine bset ?_ (by dsimp only; omega) _ | refine bstep ?_ (by assumption)))⟩

set_option maxHeartbeats 1000000 in
theorem made_sub (l0 l1 h0 h1 x y : Int) (z : Bool) (H : Hid (spMade (subP l0 l1) (subP h0 h1) = ⟨x, y, z⟩)) (w : World) :
    Calls Try.prog 97 #[.func (.func 13) #[] #[], .agg #[.int .i64 l0, .int .i64 l1], .agg #[.int .i64 h0, .int .i64 h1]] w fun e w' => e = .returned (.agg #[.int .i64 x, .int .i64 y, .bool z]) ∧ Below w.heap.size w w' := by
  obtain ⟨a, p, ha⟩ : ∃ a p, subP l0 l1 = (a, p) := ⟨_, _, rfl⟩
  obtain ⟨b, q, hb⟩ : ∃ a p, subP h0 h1 = (a, p) := ⟨_, _, rfl⟩
  have hm := H.out
  rw [ha, hb] at hm
  have HA := Lib.hid ha
  have HB := Lib.hid hb
  clear H ha hb
  cases p with
  | false =>
    cases hm
    go_enter Try.func97, Try.ntmps97
    go_wp2_with fail
    refine (Sub_is _ _ _ _ HA _).mono ?_
    rintro e w1 ⟨rfl, hb1⟩
    have q1_1_0 : CellF w1 ⟨w.heap.size + 1, 0, none⟩ (.int .i64 h0) := (by refine CellF.keep hb1 ?_; refine ⟨?_, ?_⟩ <;> go_simp)
    have c1_1_0 := q1_1_0.1
    have q1_1_1 : CellF w1 ⟨w.heap.size + 1, 1, none⟩ (.int .i64 h1) := (by refine CellF.keep hb1 ?_; refine ⟨?_, ?_⟩ <;> go_simp)
    have c1_1_1 := q1_1_1.1
    have z1_1 : w.heap.size + 1 < w1.heap.size := ltc c1_1_0
    have q1_2_0 : CellF w1 ⟨w.heap.size + 1 + 1, 0, none⟩ (.int .i64 0) := (by refine CellF.keep hb1 ?_; refine ⟨?_, ?_⟩ <;> go_simp)
    have c1_2_0 := q1_2_0.1
    have g1_2_0 := q1_2_0.2
    have q1_2_1 : CellF w1 ⟨w.heap.size + 1 + 1, 1, none⟩ (.int .i64 0) := (by refine CellF.keep hb1 ?_; refine ⟨?_, ?_⟩ <;> go_simp)
    have c1_2_1 := q1_2_1.1
    have g1_2_1 := q1_2_1.2
    have q1_2_2 : CellF w1 ⟨w.heap.size + 1 + 1, 2, none⟩ (.bool false) := (by refine CellF.keep hb1 ?_; refine ⟨?_, ?_⟩ <;> go_simp)
    have c1_2_2 := q1_2_2.1
    have g1_2_2 := q1_2_2.2
    have z1_2 : w.heap.size + 1 + 1 < w1.heap.size := ltc c1_2_0
    go_wp2_with fail
    refine (Sub_is _ _ _ _ HB _).mono ?_
    rintro e w2 ⟨rfl, hb2⟩
    have q2_3_0 : CellF w2 ⟨w.heap.size + 1 + 1, 0, none⟩ (.int .i64 0) := (by first | exact q1_2_0.keep hb2 | exact (q1_2_0.past _).keep hb2)
    have c2_3_0 := q2_3_0.1
    have g2_3_0 := q2_3_0.2
    have q2_3_1 : CellF w2 ⟨w.heap.size + 1 + 1, 1, none⟩ (.int .i64 0) := (by first | exact q1_2_1.keep hb2 | exact (q1_2_1.past _).keep hb2)
    have c2_3_1 := q2_3_1.1
    have g2_3_1 := q2_3_1.2
    have q2_3_2 : CellF w2 ⟨w.heap.size + 1 + 1, 2, none⟩ (.bool false) := (by first | exact q1_2_2.keep hb2 | exact (q1_2_2.past _).keep hb2)
    have c2_3_2 := q2_3_2.1
    have g2_3_2 := q2_3_2.2
    have z2_3 : w.heap.size + 1 + 1 < w2.heap.size := ltc c2_3_0
    go_wp2
    exact bodyPost_ret (v := .agg #[.int .i64 0, .int .i64 0, .bool false]) (by simp [results, Try.results97, go_sem, c2_3_0, c2_3_1, c2_3_2]) rfl ⟨rfl, (by repeat (first | exact brefl _ | refine balloc ?_ _ | refine bdrewN ?_ _ | refine bset ?_ (by dsimp only; omega) _ | refine bstep ?_ (by assumption)))⟩
  | true =>
    cases q with
    | false =>
      cases hm
      go_enter Try.func97, Try.ntmps97
      go_wp2_with fail
      refine (Sub_is _ _ _ _ HA _).mono ?_
      rintro e w1 ⟨rfl, hb1⟩
      have q1_1_0 : CellF w1 ⟨w.heap.size + 1, 0, none⟩ (.int .i64 h0) := (by refine CellF.keep hb1 ?_; refine ⟨?_, ?_⟩ <;> go_simp)
      have c1_1_0 := q1_1_0.1
      have q1_1_1 : CellF w1 ⟨w.heap.size + 1, 1, none⟩ (.int .i64 h1) := (by refine CellF.keep hb1 ?_; refine ⟨?_, ?_⟩ <;> go_simp)
      have c1_1_1 := q1_1_1.1
      have z1_1 : w.heap.size + 1 < w1.heap.size := ltc c1_1_0
      have q1_2_0 : CellF w1 ⟨w.heap.size + 1 + 1, 0, none⟩ (.int .i64 0) := (by refine CellF.keep hb1 ?_; refine ⟨?_, ?_⟩ <;> go_simp)
      have c1_2_0 := q1_2_0.1
      have g1_2_0 := q1_2_0.2
      have q1_2_1 : CellF w1 ⟨w.heap.size + 1 + 1, 1, none⟩ (.int .i64 0) := (by refine CellF.keep hb1 ?_; refine ⟨?_, ?_⟩ <;> go_simp)
      have c1_2_1 := q1_2_1.1
      have g1_2_1 := q1_2_1.2
      have q1_2_2 : CellF w1 ⟨w.heap.size + 1 + 1, 2, none⟩ (.bool false) := (by refine CellF.keep hb1 ?_; refine ⟨?_, ?_⟩ <;> go_simp)
      have c1_2_2 := q1_2_2.1
      have g1_2_2 := q1_2_2.2
      have z1_2 : w.heap.size + 1 + 1 < w1.heap.size := ltc c1_2_0
      go_wp2_with fail
      refine (Sub_is _ _ _ _ HB _).mono ?_
      rintro e w2 ⟨rfl, hb2⟩
      have q2_3_0 : CellF w2 ⟨w.heap.size + 1 + 1, 0, none⟩ (.int .i64 0) := (by first | exact q1_2_0.keep hb2 | exact (q1_2_0.past _).keep hb2)
      have c2_3_0 := q2_3_0.1
      have g2_3_0 := q2_3_0.2
      have q2_3_1 : CellF w2 ⟨w.heap.size + 1 + 1, 1, none⟩ (.int .i64 0) := (by first | exact q1_2_1.keep hb2 | exact (q1_2_1.past _).keep hb2)
      have c2_3_1 := q2_3_1.1
      have g2_3_1 := q2_3_1.2
      have q2_3_2 : CellF w2 ⟨w.heap.size + 1 + 1, 2, none⟩ (.bool false) := (by first | exact q1_2_2.keep hb2 | exact (q1_2_2.past _).keep hb2)
      have c2_3_2 := q2_3_2.1
      have g2_3_2 := q2_3_2.2
      have z2_3 : w.heap.size + 1 + 1 < w2.heap.size := ltc c2_3_0
      go_wp2
      exact bodyPost_ret (v := .agg #[.int .i64 0, .int .i64 0, .bool false]) (by simp [results, Try.results97, go_sem, c2_3_0, c2_3_1, c2_3_2]) rfl ⟨rfl, (by repeat (first | exact brefl _ | refine balloc ?_ _ | refine bdrewN ?_ _ | refine bset ?_ (by dsimp only; omega) _ | refine bstep ?_ (by assumption)))⟩
    | true =>
      have HM : Hid (spOf a b = ⟨x, y, z⟩) := hm
      clear hm
      go_enter Try.func97, Try.ntmps97
      go_wp2_with fail
      refine (Sub_is _ _ _ _ HA _).mono ?_
      rintro e w1 ⟨rfl, hb1⟩
      have q1_1_0 : CellF w1 ⟨w.heap.size + 1, 0, none⟩ (.int .i64 h0) := (by refine CellF.keep hb1 ?_; refine ⟨?_, ?_⟩ <;> go_simp)
      have c1_1_0 := q1_1_0.1
      have q1_1_1 : CellF w1 ⟨w.heap.size + 1, 1, none⟩ (.int .i64 h1) := (by refine CellF.keep hb1 ?_; refine ⟨?_, ?_⟩ <;> go_simp)
      have c1_1_1 := q1_1_1.1
      have z1_1 : w.heap.size + 1 < w1.heap.size := ltc c1_1_0
      have q1_2_0 : CellF w1 ⟨w.heap.size + 1 + 1, 0, none⟩ (.int .i64 0) := (by refine CellF.keep hb1 ?_; refine ⟨?_, ?_⟩ <;> go_simp)
      have c1_2_0 := q1_2_0.1
      have g1_2_0 := q1_2_0.2
      have q1_2_1 : CellF w1 ⟨w.heap.size + 1 + 1, 1, none⟩ (.int .i64 0) := (by refine CellF.keep hb1 ?_; refine ⟨?_, ?_⟩ <;> go_simp)
      have c1_2_1 := q1_2_1.1
      have g1_2_1 := q1_2_1.2
      have q1_2_2 : CellF w1 ⟨w.heap.size + 1 + 1, 2, none⟩ (.bool false) := (by refine CellF.keep hb1 ?_; refine ⟨?_, ?_⟩ <;> go_simp)
      have c1_2_2 := q1_2_2.1
      have g1_2_2 := q1_2_2.2
      have z1_2 : w.heap.size + 1 + 1 < w1.heap.size := ltc c1_2_0
      go_wp2_with fail
      refine (Sub_is _ _ _ _ HB _).mono ?_
      rintro e w2 ⟨rfl, hb2⟩
      have q2_3_0 : CellF w2 ⟨w.heap.size + 1 + 1, 0, none⟩ (.int .i64 0) := (by first | exact q1_2_0.keep hb2 | exact (q1_2_0.past _).keep hb2)
      have c2_3_0 := q2_3_0.1
      have g2_3_0 := q2_3_0.2
      have q2_3_1 : CellF w2 ⟨w.heap.size + 1 + 1, 1, none⟩ (.int .i64 0) := (by first | exact q1_2_1.keep hb2 | exact (q1_2_1.past _).keep hb2)
      have c2_3_1 := q2_3_1.1
      have g2_3_1 := q2_3_1.2
      have q2_3_2 : CellF w2 ⟨w.heap.size + 1 + 1, 2, none⟩ (.bool false) := (by first | exact q1_2_2.keep hb2 | exact (q1_2_2.past _).keep hb2)
      have c2_3_2 := q2_3_2.1
      have g2_3_2 := q2_3_2.2
      have z2_3 : w.heap.size + 1 + 1 < w2.heap.size := ltc c2_3_0
      go_wp2_with fail
      refine (Of_is _ _ _ _ _ HM _).mono ?_
      rintro e w3 ⟨rfl, hb3⟩
      have q3_4_0 : CellF w3 ⟨w.heap.size + 1 + 1, 0, none⟩ (.int .i64 0) := (by first | exact q2_3_0.keep hb3 | exact (q2_3_0.past _).keep hb3)
      have c3_4_0 := q3_4_0.1
      have g3_4_0 := q3_4_0.2
      have q3_4_1 : CellF w3 ⟨w.heap.size + 1 + 1, 1, none⟩ (.int .i64 0) := (by first | exact q2_3_1.keep hb3 | exact (q2_3_1.past _).keep hb3)
      have c3_4_1 := q3_4_1.1
      have g3_4_1 := q3_4_1.2
      have q3_4_2 : CellF w3 ⟨w.heap.size + 1 + 1, 2, none⟩ (.bool false) := (by first | exact q2_3_2.keep hb3 | exact (q2_3_2.past _).keep hb3)
      have c3_4_2 := q3_4_2.1
      have g3_4_2 := q3_4_2.2
      have z3_4 : w.heap.size + 1 + 1 < w3.heap.size := ltc c3_4_0
      go_wp2
      exact bodyPost_ret (v := .agg #[.int .i64 x, .int .i64 y, .bool z]) (by simp [results, Try.results97, go_sem, c3_4_0, c3_4_1, c3_4_2]) rfl ⟨rfl, (by repeat (first | exact brefl _ | refine balloc ?_ _ | refine bdrewN ?_ _ | refine bset ?_ (by dsimp only; omega) _ | refine bstep ?_ (by assumption)))⟩

end Go.Proofs.Ytnphbdhcoiaklaa
namespace Go.Proofs.Ytnphbdhcoiaklaa
open Go.RowKit

theorem SpAdd_is (lo hi lo2 hi2 x y : Int) (k k2 z : Bool) (H : Hid (spAdd ⟨lo, hi, k⟩ ⟨lo2, hi2, k2⟩ = ⟨x, y, z⟩)) (w : World) :
    Calls Try.prog 39 #[.agg #[.int .i64 lo, .int .i64 hi, .bool k], .agg #[.int .i64 lo2, .int .i64 hi2, .bool k2]] w fun e w' => e = .returned (.agg #[.int .i64 x, .int .i64 y, .bool z]) ∧ Below w.heap.size w w' := by
  obtain ⟨q, hq⟩ : ∃ q, (spK ⟨lo, hi, k⟩ && spK ⟨lo2, hi2, k2⟩) = q := ⟨_, rfl⟩
  have hp := H.out
  unfold spAdd at hp
  rw [hq] at hp
  have HQ := Lib.hid hq
  clear H hq
  cases q with
  | false =>
    cases hp
    go_enter Try.func39, Try.ntmps39
    go_wp2_with fail
    refine (known2 _ _ _ _ _ _ _ HQ _ _ (by go_simp) (by go_simp) (by go_simp) (by go_simp) (by go_simp) (by go_simp) (by go_simp)).mono ?_
    rintro e w1 ⟨rfl, hb1⟩
    have q1_1_0 : CellF w1 ⟨w.heap.size + 1 + 1, 0, none⟩ (.int .i64 0) := (by refine CellF.keep hb1 ?_; refine ⟨?_, ?_⟩ <;> go_simp)
    have c1_1_0 := q1_1_0.1
    have g1_1_0 := q1_1_0.2
    have q1_1_1 : CellF w1 ⟨w.heap.size + 1 + 1, 1, none⟩ (.int .i64 0) := (by refine CellF.keep hb1 ?_; refine ⟨?_, ?_⟩ <;> go_simp)
    have c1_1_1 := q1_1_1.1
    have g1_1_1 := q1_1_1.2
    have q1_1_2 : CellF w1 ⟨w.heap.size + 1 + 1, 2, none⟩ (.bool false) := (by refine CellF.keep hb1 ?_; refine ⟨?_, ?_⟩ <;> go_simp)
    have c1_1_2 := q1_1_2.1
    have g1_1_2 := q1_1_2.2
    have z1_1 : w.heap.size + 1 + 1 < w1.heap.size := ltc c1_1_0
    go_wp2
    exact bodyPost_ret (v := .agg #[.int .i64 0, .int .i64 0, .bool false]) (by simp [results, Try.results39, go_sem, c1_1_0, c1_1_1, c1_1_2]) rfl ⟨rfl, (by repeat (first | exact brefl _ | refine balloc ?_ _ | refine bdrewN ?_ _ | refine bset ?_ (by dsimp only; omega) _ | refine bstep ?_ (by assumption)))⟩
  | true =>
    go_enter Try.func39, Try.ntmps39
    go_wp2_with fail
    refine (known2 _ _ _ _ _ _ _ HQ _ _ (by go_simp) (by go_simp) (by go_simp) (by go_simp) (by go_simp) (by go_simp) (by go_simp)).mono ?_
    rintro e w1 ⟨rfl, hb1⟩
    have q1_1_0 : CellF w1 ⟨w.heap.size, 0, none⟩ (.int .i64 lo) := (by refine CellF.keep hb1 ?_; refine ⟨?_, ?_⟩ <;> go_simp)
    have c1_1_0 := q1_1_0.1
    have q1_1_1 : CellF w1 ⟨w.heap.size, 1, none⟩ (.int .i64 hi) := (by refine CellF.keep hb1 ?_; refine ⟨?_, ?_⟩ <;> go_simp)
    have c1_1_1 := q1_1_1.1
    have q1_1_2 : CellF w1 ⟨w.heap.size, 2, none⟩ (.bool k) := (by refine CellF.keep hb1 ?_; refine ⟨?_, ?_⟩ <;> go_simp)
    have c1_1_2 := q1_1_2.1
    have z1_1 : w.heap.size < w1.heap.size := ltc c1_1_0
    have q1_2_0 : CellF w1 ⟨w.heap.size + 1, 0, none⟩ (.int .i64 lo2) := (by refine CellF.keep hb1 ?_; refine ⟨?_, ?_⟩ <;> go_simp)
    have c1_2_0 := q1_2_0.1
    have q1_2_1 : CellF w1 ⟨w.heap.size + 1, 1, none⟩ (.int .i64 hi2) := (by refine CellF.keep hb1 ?_; refine ⟨?_, ?_⟩ <;> go_simp)
    have c1_2_1 := q1_2_1.1
    have q1_2_2 : CellF w1 ⟨w.heap.size + 1, 2, none⟩ (.bool k2) := (by refine CellF.keep hb1 ?_; refine ⟨?_, ?_⟩ <;> go_simp)
    have c1_2_2 := q1_2_2.1
    have z1_2 : w.heap.size + 1 < w1.heap.size := ltc c1_2_0
    have q1_3_0 : CellF w1 ⟨w.heap.size + 1 + 1, 0, none⟩ (.int .i64 0) := (by refine CellF.keep hb1 ?_; refine ⟨?_, ?_⟩ <;> go_simp)
    have c1_3_0 := q1_3_0.1
    have g1_3_0 := q1_3_0.2
    have q1_3_1 : CellF w1 ⟨w.heap.size + 1 + 1, 1, none⟩ (.int .i64 0) := (by refine CellF.keep hb1 ?_; refine ⟨?_, ?_⟩ <;> go_simp)
    have c1_3_1 := q1_3_1.1
    have g1_3_1 := q1_3_1.2
    have q1_3_2 : CellF w1 ⟨w.heap.size + 1 + 1, 2, none⟩ (.bool false) := (by refine CellF.keep hb1 ?_; refine ⟨?_, ?_⟩ <;> go_simp)
    have c1_3_2 := q1_3_2.1
    have g1_3_2 := q1_3_2.2
    have z1_3 : w.heap.size + 1 + 1 < w1.heap.size := ltc c1_3_0
    have HM : Hid (spMade (addP lo lo2) (addP hi hi2) = ⟨x, y, z⟩) := by rw [if_pos trivial] at hp; exact hp
    clear hp
    go_wp2_with fail
    refine (made_add _ _ _ _ _ _ _ HM _).mono ?_
    rintro e w2 ⟨rfl, hb2⟩
    have q2_4_0 : CellF w2 ⟨w.heap.size + 1 + 1, 0, none⟩ (.int .i64 0) := (by first | exact q1_3_0.keep hb2 | exact (q1_3_0.past _).keep hb2)
    have c2_4_0 := q2_4_0.1
    have g2_4_0 := q2_4_0.2
    have q2_4_1 : CellF w2 ⟨w.heap.size + 1 + 1, 1, none⟩ (.int .i64 0) := (by first | exact q1_3_1.keep hb2 | exact (q1_3_1.past _).keep hb2)
    have c2_4_1 := q2_4_1.1
    have g2_4_1 := q2_4_1.2
    have q2_4_2 : CellF w2 ⟨w.heap.size + 1 + 1, 2, none⟩ (.bool false) := (by first | exact q1_3_2.keep hb2 | exact (q1_3_2.past _).keep hb2)
    have c2_4_2 := q2_4_2.1
    have g2_4_2 := q2_4_2.2
    have z2_4 : w.heap.size + 1 + 1 < w2.heap.size := ltc c2_4_0
    go_wp2
    exact bodyPost_ret (v := .agg #[.int .i64 x, .int .i64 y, .bool z]) (by simp [results, Try.results39, go_sem, c2_4_0, c2_4_1, c2_4_2]) rfl ⟨rfl, (by repeat (first | exact brefl _ | refine balloc ?_ _ | refine bdrewN ?_ _ | refine bset ?_ (by dsimp only; omega) _ | refine bstep ?_ (by assumption)))⟩
theorem SpSub_is (lo hi lo2 hi2 x y : Int) (k k2 z : Bool) (H : Hid (spSub ⟨lo, hi, k⟩ ⟨lo2, hi2, k2⟩ = ⟨x, y, z⟩)) (w : World) :
    Calls Try.prog 41 #[.agg #[.int .i64 lo, .int .i64 hi, .bool k], .agg #[.int .i64 lo2, .int .i64 hi2, .bool k2]] w fun e w' => e = .returned (.agg #[.int .i64 x, .int .i64 y, .bool z]) ∧ Below w.heap.size w w' := by
  obtain ⟨q, hq⟩ : ∃ q, (spK ⟨lo, hi, k⟩ && spK ⟨lo2, hi2, k2⟩) = q := ⟨_, rfl⟩
  have hp := H.out
  unfold spSub at hp
  rw [hq] at hp
  have HQ := Lib.hid hq
  clear H hq
  cases q with
  | false =>
    cases hp
    go_enter Try.func41, Try.ntmps41
    go_wp2_with fail
    refine (known2 _ _ _ _ _ _ _ HQ _ _ (by go_simp) (by go_simp) (by go_simp) (by go_simp) (by go_simp) (by go_simp) (by go_simp)).mono ?_
    rintro e w1 ⟨rfl, hb1⟩
    have q1_1_0 : CellF w1 ⟨w.heap.size + 1 + 1, 0, none⟩ (.int .i64 0) := (by refine CellF.keep hb1 ?_; refine ⟨?_, ?_⟩ <;> go_simp)
    have c1_1_0 := q1_1_0.1
    have g1_1_0 := q1_1_0.2
    have q1_1_1 : CellF w1 ⟨w.heap.size + 1 + 1, 1, none⟩ (.int .i64 0) := (by refine CellF.keep hb1 ?_; refine ⟨?_, ?_⟩ <;> go_simp)
    have c1_1_1 := q1_1_1.1
    have g1_1_1 := q1_1_1.2
    have q1_1_2 : CellF w1 ⟨w.heap.size + 1 + 1, 2, none⟩ (.bool false) := (by refine CellF.keep hb1 ?_; refine ⟨?_, ?_⟩ <;> go_simp)
    have c1_1_2 := q1_1_2.1
    have g1_1_2 := q1_1_2.2
    have z1_1 : w.heap.size + 1 + 1 < w1.heap.size := ltc c1_1_0
    go_wp2
    exact bodyPost_ret (v := .agg #[.int .i64 0, .int .i64 0, .bool false]) (by simp [results, Try.results41, go_sem, c1_1_0, c1_1_1, c1_1_2]) rfl ⟨rfl, (by repeat (first | exact brefl _ | refine balloc ?_ _ | refine bdrewN ?_ _ | refine bset ?_ (by dsimp only; omega) _ | refine bstep ?_ (by assumption)))⟩
  | true =>
    go_enter Try.func41, Try.ntmps41
    go_wp2_with fail
    refine (known2 _ _ _ _ _ _ _ HQ _ _ (by go_simp) (by go_simp) (by go_simp) (by go_simp) (by go_simp) (by go_simp) (by go_simp)).mono ?_
    rintro e w1 ⟨rfl, hb1⟩
    have q1_1_0 : CellF w1 ⟨w.heap.size, 0, none⟩ (.int .i64 lo) := (by refine CellF.keep hb1 ?_; refine ⟨?_, ?_⟩ <;> go_simp)
    have c1_1_0 := q1_1_0.1
    have q1_1_1 : CellF w1 ⟨w.heap.size, 1, none⟩ (.int .i64 hi) := (by refine CellF.keep hb1 ?_; refine ⟨?_, ?_⟩ <;> go_simp)
    have c1_1_1 := q1_1_1.1
    have q1_1_2 : CellF w1 ⟨w.heap.size, 2, none⟩ (.bool k) := (by refine CellF.keep hb1 ?_; refine ⟨?_, ?_⟩ <;> go_simp)
    have c1_1_2 := q1_1_2.1
    have z1_1 : w.heap.size < w1.heap.size := ltc c1_1_0
    have q1_2_0 : CellF w1 ⟨w.heap.size + 1, 0, none⟩ (.int .i64 lo2) := (by refine CellF.keep hb1 ?_; refine ⟨?_, ?_⟩ <;> go_simp)
    have c1_2_0 := q1_2_0.1
    have q1_2_1 : CellF w1 ⟨w.heap.size + 1, 1, none⟩ (.int .i64 hi2) := (by refine CellF.keep hb1 ?_; refine ⟨?_, ?_⟩ <;> go_simp)
    have c1_2_1 := q1_2_1.1
    have q1_2_2 : CellF w1 ⟨w.heap.size + 1, 2, none⟩ (.bool k2) := (by refine CellF.keep hb1 ?_; refine ⟨?_, ?_⟩ <;> go_simp)
    have c1_2_2 := q1_2_2.1
    have z1_2 : w.heap.size + 1 < w1.heap.size := ltc c1_2_0
    have q1_3_0 : CellF w1 ⟨w.heap.size + 1 + 1, 0, none⟩ (.int .i64 0) := (by refine CellF.keep hb1 ?_; refine ⟨?_, ?_⟩ <;> go_simp)
    have c1_3_0 := q1_3_0.1
    have g1_3_0 := q1_3_0.2
    have q1_3_1 : CellF w1 ⟨w.heap.size + 1 + 1, 1, none⟩ (.int .i64 0) := (by refine CellF.keep hb1 ?_; refine ⟨?_, ?_⟩ <;> go_simp)
    have c1_3_1 := q1_3_1.1
    have g1_3_1 := q1_3_1.2
    have q1_3_2 : CellF w1 ⟨w.heap.size + 1 + 1, 2, none⟩ (.bool false) := (by refine CellF.keep hb1 ?_; refine ⟨?_, ?_⟩ <;> go_simp)
    have c1_3_2 := q1_3_2.1
    have g1_3_2 := q1_3_2.2
    have z1_3 : w.heap.size + 1 + 1 < w1.heap.size := ltc c1_3_0
    have HM : Hid (spMade (subP lo hi2) (subP hi lo2) = ⟨x, y, z⟩) := by rw [if_pos trivial] at hp; exact hp
    clear hp
    go_wp2_with fail
    refine (made_sub _ _ _ _ _ _ _ HM _).mono ?_
    rintro e w2 ⟨rfl, hb2⟩
    have q2_4_0 : CellF w2 ⟨w.heap.size + 1 + 1, 0, none⟩ (.int .i64 0) := (by first | exact q1_3_0.keep hb2 | exact (q1_3_0.past _).keep hb2)
    have c2_4_0 := q2_4_0.1
    have g2_4_0 := q2_4_0.2
    have q2_4_1 : CellF w2 ⟨w.heap.size + 1 + 1, 1, none⟩ (.int .i64 0) := (by first | exact q1_3_1.keep hb2 | exact (q1_3_1.past _).keep hb2)
    have c2_4_1 := q2_4_1.1
    have g2_4_1 := q2_4_1.2
    have q2_4_2 : CellF w2 ⟨w.heap.size + 1 + 1, 2, none⟩ (.bool false) := (by first | exact q1_3_2.keep hb2 | exact (q1_3_2.past _).keep hb2)
    have c2_4_2 := q2_4_2.1
    have g2_4_2 := q2_4_2.2
    have z2_4 : w.heap.size + 1 + 1 < w2.heap.size := ltc c2_4_0
    go_wp2
    exact bodyPost_ret (v := .agg #[.int .i64 x, .int .i64 y, .bool z]) (by simp [results, Try.results41, go_sem, c2_4_0, c2_4_1, c2_4_2]) rfl ⟨rfl, (by repeat (first | exact brefl _ | refine balloc ?_ _ | refine bdrewN ?_ _ | refine bset ?_ (by dsimp only; omega) _ | refine bstep ?_ (by assumption)))⟩

theorem Shift_is (lo hi n x y : Int) (k z : Bool) (H : Hid (spShift ⟨lo, hi, k⟩ n = ⟨x, y, z⟩)) (w : World) :
    Calls Try.prog 50 #[.agg #[.int .i64 lo, .int .i64 hi, .bool k], .int .i64 n] w fun e w' => e = .returned (.agg #[.int .i64 x, .int .i64 y, .bool z]) ∧ Below w.heap.size w w' := by
  obtain ⟨⟨a, b, c⟩, hm⟩ : ∃ s, spOf n n = s := ⟨_, rfl⟩
  have HA : Hid (spAdd ⟨lo, hi, k⟩ ⟨a, b, c⟩ = ⟨x, y, z⟩) := by have h := H.out; unfold spShift at h; rw [hm] at h; exact h
  have HM := Lib.hid hm
  clear H hm
  have hmf : ∀ (fn : Fn) (first cap : Array Value) (w : World), (Instr.makeFunc fn first cap).run Try.prog w = .ok (.func fn first cap) w := fun _ _ _ _ => rfl
  go_enter Try.func50, Try.ntmps50
  go_wp2_with fail
  refine (Of_is _ _ _ _ _ HM _).mono ?_
  rintro e w1 ⟨rfl, hb1⟩
  have q1_1_0 : CellF w1 ⟨w.heap.size + 1, 0, none⟩ (.int .i64 0) := (by refine CellF.keep hb1 ?_; refine ⟨?_, ?_⟩ <;> go_simp)
  have c1_1_0 := q1_1_0.1
  have g1_1_0 := q1_1_0.2
  have q1_1_1 : CellF w1 ⟨w.heap.size + 1, 1, none⟩ (.int .i64 0) := (by refine CellF.keep hb1 ?_; refine ⟨?_, ?_⟩ <;> go_simp)
  have c1_1_1 := q1_1_1.1
  have g1_1_1 := q1_1_1.2
  have q1_1_2 : CellF w1 ⟨w.heap.size + 1, 2, none⟩ (.bool false) := (by refine CellF.keep hb1 ?_; refine ⟨?_, ?_⟩ <;> go_simp)
  have c1_1_2 := q1_1_2.1
  have g1_1_2 := q1_1_2.2
  have z1_1 : w.heap.size + 1 < w1.heap.size := ltc c1_1_0
  go_wp2_with fail
  refine (SpAdd_is _ _ _ _ _ _ _ _ _ HA _).mono ?_
  rintro e w2 ⟨rfl, hb2⟩
  have q2_2_0 : CellF w2 ⟨w.heap.size + 1, 0, none⟩ (.int .i64 0) := (by first | exact q1_1_0.keep hb2 | exact (q1_1_0.past _).keep hb2)
  have c2_2_0 := q2_2_0.1
  have g2_2_0 := q2_2_0.2
  have q2_2_1 : CellF w2 ⟨w.heap.size + 1, 1, none⟩ (.int .i64 0) := (by first | exact q1_1_1.keep hb2 | exact (q1_1_1.past _).keep hb2)
  have c2_2_1 := q2_2_1.1
  have g2_2_1 := q2_2_1.2
  have q2_2_2 : CellF w2 ⟨w.heap.size + 1, 2, none⟩ (.bool false) := (by first | exact q1_1_2.keep hb2 | exact (q1_1_2.past _).keep hb2)
  have c2_2_2 := q2_2_2.1
  have g2_2_2 := q2_2_2.2
  have z2_2 : w.heap.size + 1 < w2.heap.size := ltc c2_2_0
  go_wp2
  exact bodyPost_ret (v := .agg #[.int .i64 x, .int .i64 y, .bool z]) (by simp [results, Try.results50, go_sem, c2_2_0, c2_2_1, c2_2_2]) rfl ⟨rfl, (by repeat (first | exact brefl _ | refine balloc ?_ _ | refine bdrewN ?_ _ | refine bset ?_ (by dsimp only; omega) _ | refine bstep ?_ (by assumption)))⟩
end Go.Proofs.Ytnphbdhcoiaklaa
namespace Go.Proofs.Ytnphbdhcoiaklaa
open Go.RowKit

set_option maxHeartbeats 400000 in
theorem Wider_yes (lo hi low high x y : Int) (k z : Bool) (h1 : 0 ≤ low) (h2 : 0 ≤ high) (h3 : (smallB low && smallB high) = true) (H : Hid (spAdd ⟨lo, hi, k⟩ (spOf (-low) high) = ⟨x, y, z⟩)) (w : World) :
    Calls Try.prog 58 #[.agg #[.int .i64 lo, .int .i64 hi, .bool k], .int .i64 low, .int .i64 high] w fun e w' => e = .returned (.agg #[.int .i64 x, .int .i64 y, .bool z]) ∧ Below w.heap.size w w' := by
  obtain ⟨⟨a, b, c⟩, hm⟩ : ∃ s, spOf (-low) high = s := ⟨_, rfl⟩
  have HA : Hid (spAdd ⟨lo, hi, k⟩ ⟨a, b, c⟩ = ⟨x, y, z⟩) := by have h := H.out; rw [hm] at h; exact h
  have HM := Lib.hid hm
  have hl := smallB_iff.1 (Bool.and_eq_true_iff.1 h3).1
  clear H hm
  go_enter Try.func58, Try.ntmps58
  have hneg : IntKind.i64.wrap (-low) = -low := by rw [IntWalk.i64_left]; exact IntWalk.wrap64_in _ (by omega)
  go_wp2_with fail
  refine (small2b low high _ h3 _ _ (by go_simp) (by go_simp)).mono ?_
  rintro e w1 ⟨rfl, hb1⟩
  have q1_1_0 : CellF w1 ⟨w.heap.size, 0, none⟩ (.int .i64 lo) := (by refine CellF.keep hb1 ?_; refine ⟨?_, ?_⟩ <;> go_simp)
  have c1_1_0 := q1_1_0.1
  have q1_1_1 : CellF w1 ⟨w.heap.size, 1, none⟩ (.int .i64 hi) := (by refine CellF.keep hb1 ?_; refine ⟨?_, ?_⟩ <;> go_simp)
  have c1_1_1 := q1_1_1.1
  have q1_1_2 : CellF w1 ⟨w.heap.size, 2, none⟩ (.bool k) := (by refine CellF.keep hb1 ?_; refine ⟨?_, ?_⟩ <;> go_simp)
  have c1_1_2 := q1_1_2.1
  have z1_1 : w.heap.size < w1.heap.size := ltc c1_1_0
  have q1_2_0 : CellF w1 ⟨w.heap.size + 1, 0, none⟩ (.int .i64 0) := (by refine CellF.keep hb1 ?_; refine ⟨?_, ?_⟩ <;> go_simp)
  have c1_2_0 := q1_2_0.1
  have g1_2_0 := q1_2_0.2
  have q1_2_1 : CellF w1 ⟨w.heap.size + 1, 1, none⟩ (.int .i64 0) := (by refine CellF.keep hb1 ?_; refine ⟨?_, ?_⟩ <;> go_simp)
  have c1_2_1 := q1_2_1.1
  have g1_2_1 := q1_2_1.2
  have q1_2_2 : CellF w1 ⟨w.heap.size + 1, 2, none⟩ (.bool false) := (by refine CellF.keep hb1 ?_; refine ⟨?_, ?_⟩ <;> go_simp)
  have c1_2_2 := q1_2_2.1
  have g1_2_2 := q1_2_2.2
  have z1_2 : w.heap.size + 1 < w1.heap.size := ltc c1_2_0
  go_wp2_with fail
  go_region_held3 (fun w' => w'.cell? ⟨w.heap.size, 0, none⟩ = some (.int .i64 lo) ∧ w'.cell? ⟨w.heap.size, 1, none⟩ = some (.int .i64 hi) ∧ w'.cell? ⟨w.heap.size, 2, none⟩ = some (.bool k))
    (go_keep)
    (first | (go_at_call 64; ((with_reducible refine (Of_is _ _ _ _ _ HM _).mono ?_)); rintro e w2 ⟨rfl, hb2⟩; have s0 := keepc hb2 c1_1_0; have s1 := keepc hb2 c1_1_1; have s2 := keepc hb2 c1_1_2; have r0 := CellF.keep hb2 q1_2_0.drew; have r1 := CellF.keep hb2 q1_2_1.drew; have r2 := CellF.keep hb2 q1_2_2.drew) | (go_at_call 39; ((with_reducible refine (SpAdd_is _ _ _ _ _ _ _ _ _ HA _).mono ?_)); rintro e w3 ⟨rfl, hb3⟩; have s3 := keepc hb3 s0; have s4 := keepc hb3 s1; have s5 := keepc hb3 s2; have r3 := CellF.keep hb3 r0; have r4 := CellF.keep hb3 r1; have r5 := CellF.keep hb3 r2; have c3 := r3.1; have c4 := r4.1; have c5 := r5.1; have g3 := r3.2; have g4 := r4.2; have g5 := r5.2; have z3 := ltc c3))
  go_wp2
  exact bodyPost_ret (v := .agg #[.int .i64 x, .int .i64 y, .bool z]) (by simp [results, Try.results58, go_sem, c3, c4, c5]) rfl ⟨rfl, (by repeat (first | exact brefl _ | refine balloc ?_ _ | refine bdrewN ?_ _ | refine bset ?_ (by dsimp only; omega) _ | refine bstep ?_ (by assumption)))⟩

theorem Wider_is (lo hi low high x y : Int) (k z : Bool) (H : Hid (spWider ⟨lo, hi, k⟩ low high = ⟨x, y, z⟩)) (w : World) :
    Calls Try.prog 58 #[.agg #[.int .i64 lo, .int .i64 hi, .bool k], .int .i64 low, .int .i64 high] w fun e w' => e = .returned (.agg #[.int .i64 x, .int .i64 y, .bool z]) ∧ Below w.heap.size w w' := by
  by_cases h1 : low < 0
  · have h : spNo = ⟨x, y, z⟩ := by rw [← H.out]; unfold spWider; rw [if_pos (.inl h1)]
    cases h
    clear H
    go_enter Try.func58, Try.ntmps58
    go_wp2
    exact bodyPost_ret (v := .agg #[.int .i64 0, .int .i64 0, .bool false]) (by simp [results, Try.results58, go_sem]) rfl ⟨rfl, (by repeat (first | exact brefl _ | refine balloc ?_ _ | refine bdrewN ?_ _ | refine bset ?_ (by dsimp only; omega) _ | refine bstep ?_ (by assumption)))⟩
  · by_cases h2 : high < 0
    · have h : spNo = ⟨x, y, z⟩ := by rw [← H.out]; unfold spWider; rw [if_pos (.inr (.inl h2))]
      cases h
      clear H
      go_enter Try.func58, Try.ntmps58
      go_wp2
      exact bodyPost_ret (v := .agg #[.int .i64 0, .int .i64 0, .bool false]) (by simp [results, Try.results58, go_sem]) rfl ⟨rfl, (by repeat (first | exact brefl _ | refine balloc ?_ _ | refine bdrewN ?_ _ | refine bset ?_ (by dsimp only; omega) _ | refine bstep ?_ (by assumption)))⟩
    · cases h3 : (smallB low && smallB high) with
      | false =>
        have h : spNo = ⟨x, y, z⟩ := by rw [← H.out]; unfold spWider; rw [if_pos (.inr (.inr h3))]
        cases h
        clear H
        go_enter Try.func58, Try.ntmps58
        go_wp2_with fail
        refine (small2 low high _ h3 _ _ (by go_simp) (by go_simp)).mono ?_
        rintro e w1 ⟨rfl, rfl⟩
        go_wp2
        exact bodyPost_ret (v := .agg #[.int .i64 0, .int .i64 0, .bool false]) (by simp [results, Try.results58, go_sem]) rfl ⟨rfl, (by repeat (first | exact brefl _ | refine balloc ?_ _ | refine bdrewN ?_ _ | refine bset ?_ (by dsimp only; omega) _ | refine bstep ?_ (by assumption)))⟩
      | true =>
        refine Wider_yes lo hi low high x y k z (by omega) (by omega) h3 ?_ w
        have h := H.out
        unfold spWider at h
        rw [if_neg (by rw [h3]; simp; omega)] at h
        exact h
end Go.Proofs.Ytnphbdhcoiaklaa
namespace Go.Proofs.Ytnphbdhcoiaklaa
open Go.RowKit

set_option maxHeartbeats 1000000 in
theorem Meet_is (lo hi lo2 hi2 x y : Int) (k k2 z : Bool) (H : Hid (spMeet ⟨lo, hi, k⟩ ⟨lo2, hi2, k2⟩ = ⟨x, y, z⟩)) (w : World) :
    Calls Try.prog 43 #[.agg #[.int .i64 lo, .int .i64 hi, .bool k], .agg #[.int .i64 lo2, .int .i64 hi2, .bool k2]] w fun e w' => e = .returned (.agg #[.int .i64 x, .int .i64 y, .bool z]) ∧ Below w.heap.size w w' := by
  obtain ⟨q, hq⟩ : ∃ q, spK ⟨lo, hi, k⟩ = q := ⟨_, rfl⟩
  obtain ⟨r, hr⟩ : ∃ q, spK ⟨lo2, hi2, k2⟩ = q := ⟨_, rfl⟩
  have hp := H.out
  unfold spMeet at hp
  rw [hq, hr] at hp
  have HQ := Lib.hid hq
  have HR := Lib.hid hr
  clear H hq hr
  cases q with
  | false =>
    cases r with
    | false =>
      cases hp
      go_enter Try.func43, Try.ntmps43
      go_wp2_with fail
      refine (known1 _ _ _ _ HQ _ _ (by go_simp) (by go_simp) (by go_simp)).mono ?_
      rintro e w1 ⟨rfl, hb1⟩
      have q1_1_0 : CellF w1 ⟨w.heap.size, 0, none⟩ (.int .i64 lo) := (by refine CellF.keep hb1 ?_; refine ⟨?_, ?_⟩ <;> go_simp)
      have c1_1_0 := q1_1_0.1
      have q1_1_1 : CellF w1 ⟨w.heap.size, 1, none⟩ (.int .i64 hi) := (by refine CellF.keep hb1 ?_; refine ⟨?_, ?_⟩ <;> go_simp)
      have c1_1_1 := q1_1_1.1
      have q1_1_2 : CellF w1 ⟨w.heap.size, 2, none⟩ (.bool k) := (by refine CellF.keep hb1 ?_; refine ⟨?_, ?_⟩ <;> go_simp)
      have c1_1_2 := q1_1_2.1
      have z1_1 : w.heap.size < w1.heap.size := ltc c1_1_0
      have q1_2_0 : CellF w1 ⟨w.heap.size + 1, 0, none⟩ (.int .i64 lo2) := (by refine CellF.keep hb1 ?_; refine ⟨?_, ?_⟩ <;> go_simp)
      have c1_2_0 := q1_2_0.1
      have q1_2_1 : CellF w1 ⟨w.heap.size + 1, 1, none⟩ (.int .i64 hi2) := (by refine CellF.keep hb1 ?_; refine ⟨?_, ?_⟩ <;> go_simp)
      have c1_2_1 := q1_2_1.1
      have q1_2_2 : CellF w1 ⟨w.heap.size + 1, 2, none⟩ (.bool k2) := (by refine CellF.keep hb1 ?_; refine ⟨?_, ?_⟩ <;> go_simp)
      have c1_2_2 := q1_2_2.1
      have z1_2 : w.heap.size + 1 < w1.heap.size := ltc c1_2_0
      have q1_3_0 : CellF w1 ⟨w.heap.size + 1 + 1, 0, none⟩ (.int .i64 0) := (by refine CellF.keep hb1 ?_; refine ⟨?_, ?_⟩ <;> go_simp)
      have c1_3_0 := q1_3_0.1
      have g1_3_0 := q1_3_0.2
      have q1_3_1 : CellF w1 ⟨w.heap.size + 1 + 1, 1, none⟩ (.int .i64 0) := (by refine CellF.keep hb1 ?_; refine ⟨?_, ?_⟩ <;> go_simp)
      have c1_3_1 := q1_3_1.1
      have g1_3_1 := q1_3_1.2
      have q1_3_2 : CellF w1 ⟨w.heap.size + 1 + 1, 2, none⟩ (.bool false) := (by refine CellF.keep hb1 ?_; refine ⟨?_, ?_⟩ <;> go_simp)
      have c1_3_2 := q1_3_2.1
      have g1_3_2 := q1_3_2.2
      have z1_3 : w.heap.size + 1 + 1 < w1.heap.size := ltc c1_3_0
      go_wp2_with fail
      refine (known1 _ _ _ _ HR _ _ (by go_simp) (by go_simp) (by go_simp)).mono ?_
      rintro e w2 ⟨rfl, hb2⟩
      have q2_4_0 : CellF w2 ⟨w.heap.size, 0, none⟩ (.int .i64 lo) := (by first | exact q1_1_0.keep hb2 | exact (q1_1_0.past _).keep hb2)
      have c2_4_0 := q2_4_0.1
      have q2_4_1 : CellF w2 ⟨w.heap.size, 1, none⟩ (.int .i64 hi) := (by first | exact q1_1_1.keep hb2 | exact (q1_1_1.past _).keep hb2)
      have c2_4_1 := q2_4_1.1
      have q2_4_2 : CellF w2 ⟨w.heap.size, 2, none⟩ (.bool k) := (by first | exact q1_1_2.keep hb2 | exact (q1_1_2.past _).keep hb2)
      have c2_4_2 := q2_4_2.1
      have z2_4 : w.heap.size < w2.heap.size := ltc c2_4_0
      have q2_5_0 : CellF w2 ⟨w.heap.size + 1, 0, none⟩ (.int .i64 lo2) := (by first | exact q1_2_0.keep hb2 | exact (q1_2_0.past _).keep hb2)
      have c2_5_0 := q2_5_0.1
      have q2_5_1 : CellF w2 ⟨w.heap.size + 1, 1, none⟩ (.int .i64 hi2) := (by first | exact q1_2_1.keep hb2 | exact (q1_2_1.past _).keep hb2)
      have c2_5_1 := q2_5_1.1
      have q2_5_2 : CellF w2 ⟨w.heap.size + 1, 2, none⟩ (.bool k2) := (by first | exact q1_2_2.keep hb2 | exact (q1_2_2.past _).keep hb2)
      have c2_5_2 := q2_5_2.1
      have z2_5 : w.heap.size + 1 < w2.heap.size := ltc c2_5_0
      have q2_6_0 : CellF w2 ⟨w.heap.size + 1 + 1, 0, none⟩ (.int .i64 0) := (by first | exact q1_3_0.keep hb2 | exact (q1_3_0.past _).keep hb2)
      have c2_6_0 := q2_6_0.1
      have g2_6_0 := q2_6_0.2
      have q2_6_1 : CellF w2 ⟨w.heap.size + 1 + 1, 1, none⟩ (.int .i64 0) := (by first | exact q1_3_1.keep hb2 | exact (q1_3_1.past _).keep hb2)
      have c2_6_1 := q2_6_1.1
      have g2_6_1 := q2_6_1.2
      have q2_6_2 : CellF w2 ⟨w.heap.size + 1 + 1, 2, none⟩ (.bool false) := (by first | exact q1_3_2.keep hb2 | exact (q1_3_2.past _).keep hb2)
      have c2_6_2 := q2_6_2.1
      have g2_6_2 := q2_6_2.2
      have z2_6 : w.heap.size + 1 + 1 < w2.heap.size := ltc c2_6_0
      go_wp2
      exact bodyPost_ret (v := .agg #[.int .i64 0, .int .i64 0, .bool false]) (by simp [results, Try.results43, go_sem, c2_6_0, c2_6_1, c2_6_2]) rfl ⟨rfl, (by repeat (first | exact brefl _ | refine balloc ?_ _ | refine bdrewN ?_ _ | refine bset ?_ (by dsimp only; omega) _ | refine bstep ?_ (by assumption)))⟩
    | true =>
      cases hp
      go_enter Try.func43, Try.ntmps43
      go_wp2_with fail
      refine (known1 _ _ _ _ HQ _ _ (by go_simp) (by go_simp) (by go_simp)).mono ?_
      rintro e w1 ⟨rfl, hb1⟩
      have q1_1_0 : CellF w1 ⟨w.heap.size, 0, none⟩ (.int .i64 lo) := (by refine CellF.keep hb1 ?_; refine ⟨?_, ?_⟩ <;> go_simp)
      have c1_1_0 := q1_1_0.1
      have q1_1_1 : CellF w1 ⟨w.heap.size, 1, none⟩ (.int .i64 hi) := (by refine CellF.keep hb1 ?_; refine ⟨?_, ?_⟩ <;> go_simp)
      have c1_1_1 := q1_1_1.1
      have q1_1_2 : CellF w1 ⟨w.heap.size, 2, none⟩ (.bool k) := (by refine CellF.keep hb1 ?_; refine ⟨?_, ?_⟩ <;> go_simp)
      have c1_1_2 := q1_1_2.1
      have z1_1 : w.heap.size < w1.heap.size := ltc c1_1_0
      have q1_2_0 : CellF w1 ⟨w.heap.size + 1, 0, none⟩ (.int .i64 lo2) := (by refine CellF.keep hb1 ?_; refine ⟨?_, ?_⟩ <;> go_simp)
      have c1_2_0 := q1_2_0.1
      have q1_2_1 : CellF w1 ⟨w.heap.size + 1, 1, none⟩ (.int .i64 hi2) := (by refine CellF.keep hb1 ?_; refine ⟨?_, ?_⟩ <;> go_simp)
      have c1_2_1 := q1_2_1.1
      have q1_2_2 : CellF w1 ⟨w.heap.size + 1, 2, none⟩ (.bool k2) := (by refine CellF.keep hb1 ?_; refine ⟨?_, ?_⟩ <;> go_simp)
      have c1_2_2 := q1_2_2.1
      have z1_2 : w.heap.size + 1 < w1.heap.size := ltc c1_2_0
      have q1_3_0 : CellF w1 ⟨w.heap.size + 1 + 1, 0, none⟩ (.int .i64 0) := (by refine CellF.keep hb1 ?_; refine ⟨?_, ?_⟩ <;> go_simp)
      have c1_3_0 := q1_3_0.1
      have g1_3_0 := q1_3_0.2
      have q1_3_1 : CellF w1 ⟨w.heap.size + 1 + 1, 1, none⟩ (.int .i64 0) := (by refine CellF.keep hb1 ?_; refine ⟨?_, ?_⟩ <;> go_simp)
      have c1_3_1 := q1_3_1.1
      have g1_3_1 := q1_3_1.2
      have q1_3_2 : CellF w1 ⟨w.heap.size + 1 + 1, 2, none⟩ (.bool false) := (by refine CellF.keep hb1 ?_; refine ⟨?_, ?_⟩ <;> go_simp)
      have c1_3_2 := q1_3_2.1
      have g1_3_2 := q1_3_2.2
      have z1_3 : w.heap.size + 1 + 1 < w1.heap.size := ltc c1_3_0
      go_wp2_with fail
      refine (known1 _ _ _ _ HR _ _ (by go_simp) (by go_simp) (by go_simp)).mono ?_
      rintro e w2 ⟨rfl, hb2⟩
      have q2_4_0 : CellF w2 ⟨w.heap.size, 0, none⟩ (.int .i64 lo) := (by first | exact q1_1_0.keep hb2 | exact (q1_1_0.past _).keep hb2)
      have c2_4_0 := q2_4_0.1
      have q2_4_1 : CellF w2 ⟨w.heap.size, 1, none⟩ (.int .i64 hi) := (by first | exact q1_1_1.keep hb2 | exact (q1_1_1.past _).keep hb2)
      have c2_4_1 := q2_4_1.1
      have q2_4_2 : CellF w2 ⟨w.heap.size, 2, none⟩ (.bool k) := (by first | exact q1_1_2.keep hb2 | exact (q1_1_2.past _).keep hb2)
      have c2_4_2 := q2_4_2.1
      have z2_4 : w.heap.size < w2.heap.size := ltc c2_4_0
      have q2_5_0 : CellF w2 ⟨w.heap.size + 1, 0, none⟩ (.int .i64 lo2) := (by first | exact q1_2_0.keep hb2 | exact (q1_2_0.past _).keep hb2)
      have c2_5_0 := q2_5_0.1
      have q2_5_1 : CellF w2 ⟨w.heap.size + 1, 1, none⟩ (.int .i64 hi2) := (by first | exact q1_2_1.keep hb2 | exact (q1_2_1.past _).keep hb2)
      have c2_5_1 := q2_5_1.1
      have q2_5_2 : CellF w2 ⟨w.heap.size + 1, 2, none⟩ (.bool k2) := (by first | exact q1_2_2.keep hb2 | exact (q1_2_2.past _).keep hb2)
      have c2_5_2 := q2_5_2.1
      have z2_5 : w.heap.size + 1 < w2.heap.size := ltc c2_5_0
      have q2_6_0 : CellF w2 ⟨w.heap.size + 1 + 1, 0, none⟩ (.int .i64 0) := (by first | exact q1_3_0.keep hb2 | exact (q1_3_0.past _).keep hb2)
      have c2_6_0 := q2_6_0.1
      have g2_6_0 := q2_6_0.2
      have q2_6_1 : CellF w2 ⟨w.heap.size + 1 + 1, 1, none⟩ (.int .i64 0) := (by first | exact q1_3_1.keep hb2 | exact (q1_3_1.past _).keep hb2)
      have c2_6_1 := q2_6_1.1
      have g2_6_1 := q2_6_1.2
      have q2_6_2 : CellF w2 ⟨w.heap.size + 1 + 1, 2, none⟩ (.bool false) := (by first | exact q1_3_2.keep hb2 | exact (q1_3_2.past _).keep hb2)
      have c2_6_2 := q2_6_2.1
      have g2_6_2 := q2_6_2.2
      have z2_6 : w.heap.size + 1 + 1 < w2.heap.size := ltc c2_6_0
      go_wp2_with fail
      refine (known1 _ _ _ _ HQ _ _ (by go_simp) (by go_simp) (by go_simp)).mono ?_
      rintro e w3 ⟨rfl, hb3⟩
      have q3_7_0 : CellF w3 ⟨w.heap.size, 0, none⟩ (.int .i64 lo) := (by first | exact q2_4_0.keep hb3 | exact (q2_4_0.past _).keep hb3)
      have c3_7_0 := q3_7_0.1
      have q3_7_1 : CellF w3 ⟨w.heap.size, 1, none⟩ (.int .i64 hi) := (by first | exact q2_4_1.keep hb3 | exact (q2_4_1.past _).keep hb3)
      have c3_7_1 := q3_7_1.1
      have q3_7_2 : CellF w3 ⟨w.heap.size, 2, none⟩ (.bool k) := (by first | exact q2_4_2.keep hb3 | exact (q2_4_2.past _).keep hb3)
      have c3_7_2 := q3_7_2.1
      have z3_7 : w.heap.size < w3.heap.size := ltc c3_7_0
      have q3_8_0 : CellF w3 ⟨w.heap.size + 1, 0, none⟩ (.int .i64 lo2) := (by first | exact q2_5_0.keep hb3 | exact (q2_5_0.past _).keep hb3)
      have c3_8_0 := q3_8_0.1
      have q3_8_1 : CellF w3 ⟨w.heap.size + 1, 1, none⟩ (.int .i64 hi2) := (by first | exact q2_5_1.keep hb3 | exact (q2_5_1.past _).keep hb3)
      have c3_8_1 := q3_8_1.1
      have q3_8_2 : CellF w3 ⟨w.heap.size + 1, 2, none⟩ (.bool k2) := (by first | exact q2_5_2.keep hb3 | exact (q2_5_2.past _).keep hb3)
      have c3_8_2 := q3_8_2.1
      have z3_8 : w.heap.size + 1 < w3.heap.size := ltc c3_8_0
      have q3_9_0 : CellF w3 ⟨w.heap.size + 1 + 1, 0, none⟩ (.int .i64 0) := (by first | exact q2_6_0.keep hb3 | exact (q2_6_0.past _).keep hb3)
      have c3_9_0 := q3_9_0.1
      have g3_9_0 := q3_9_0.2
      have q3_9_1 : CellF w3 ⟨w.heap.size + 1 + 1, 1, none⟩ (.int .i64 0) := (by first | exact q2_6_1.keep hb3 | exact (q2_6_1.past _).keep hb3)
      have c3_9_1 := q3_9_1.1
      have g3_9_1 := q3_9_1.2
      have q3_9_2 : CellF w3 ⟨w.heap.size + 1 + 1, 2, none⟩ (.bool false) := (by first | exact q2_6_2.keep hb3 | exact (q2_6_2.past _).keep hb3)
      have c3_9_2 := q3_9_2.1
      have g3_9_2 := q3_9_2.2
      have z3_9 : w.heap.size + 1 + 1 < w3.heap.size := ltc c3_9_0
      go_wp2
      exact bodyPost_ret (v := .agg #[.int .i64 lo2, .int .i64 hi2, .bool k2]) (by simp [results, Try.results43, go_sem, c3_9_0, c3_9_1, c3_9_2]) rfl ⟨rfl, (by repeat (first | exact brefl _ | refine balloc ?_ _ | refine bdrewN ?_ _ | refine bset ?_ (by dsimp only; omega) _ | refine bstep ?_ (by assumption)))⟩
  | true =>
    cases r with
    | false =>
      cases hp
      go_enter Try.func43, Try.ntmps43
      go_wp2_with fail
      refine (known1 _ _ _ _ HQ _ _ (by go_simp) (by go_simp) (by go_simp)).mono ?_
      rintro e w1 ⟨rfl, hb1⟩
      have q1_1_0 : CellF w1 ⟨w.heap.size, 0, none⟩ (.int .i64 lo) := (by refine CellF.keep hb1 ?_; refine ⟨?_, ?_⟩ <;> go_simp)
      have c1_1_0 := q1_1_0.1
      have q1_1_1 : CellF w1 ⟨w.heap.size, 1, none⟩ (.int .i64 hi) := (by refine CellF.keep hb1 ?_; refine ⟨?_, ?_⟩ <;> go_simp)
      have c1_1_1 := q1_1_1.1
      have q1_1_2 : CellF w1 ⟨w.heap.size, 2, none⟩ (.bool k) := (by refine CellF.keep hb1 ?_; refine ⟨?_, ?_⟩ <;> go_simp)
      have c1_1_2 := q1_1_2.1
      have z1_1 : w.heap.size < w1.heap.size := ltc c1_1_0
      have q1_2_0 : CellF w1 ⟨w.heap.size + 1, 0, none⟩ (.int .i64 lo2) := (by refine CellF.keep hb1 ?_; refine ⟨?_, ?_⟩ <;> go_simp)
      have c1_2_0 := q1_2_0.1
      have q1_2_1 : CellF w1 ⟨w.heap.size + 1, 1, none⟩ (.int .i64 hi2) := (by refine CellF.keep hb1 ?_; refine ⟨?_, ?_⟩ <;> go_simp)
      have c1_2_1 := q1_2_1.1
      have q1_2_2 : CellF w1 ⟨w.heap.size + 1, 2, none⟩ (.bool k2) := (by refine CellF.keep hb1 ?_; refine ⟨?_, ?_⟩ <;> go_simp)
      have c1_2_2 := q1_2_2.1
      have z1_2 : w.heap.size + 1 < w1.heap.size := ltc c1_2_0
      have q1_3_0 : CellF w1 ⟨w.heap.size + 1 + 1, 0, none⟩ (.int .i64 0) := (by refine CellF.keep hb1 ?_; refine ⟨?_, ?_⟩ <;> go_simp)
      have c1_3_0 := q1_3_0.1
      have g1_3_0 := q1_3_0.2
      have q1_3_1 : CellF w1 ⟨w.heap.size + 1 + 1, 1, none⟩ (.int .i64 0) := (by refine CellF.keep hb1 ?_; refine ⟨?_, ?_⟩ <;> go_simp)
      have c1_3_1 := q1_3_1.1
      have g1_3_1 := q1_3_1.2
      have q1_3_2 : CellF w1 ⟨w.heap.size + 1 + 1, 2, none⟩ (.bool false) := (by refine CellF.keep hb1 ?_; refine ⟨?_, ?_⟩ <;> go_simp)
      have c1_3_2 := q1_3_2.1
      have g1_3_2 := q1_3_2.2
      have z1_3 : w.heap.size + 1 + 1 < w1.heap.size := ltc c1_3_0
      go_wp2_with fail
      refine (known1 _ _ _ _ HQ _ _ (by go_simp) (by go_simp) (by go_simp)).mono ?_
      rintro e w2 ⟨rfl, hb2⟩
      have q2_4_0 : CellF w2 ⟨w.heap.size, 0, none⟩ (.int .i64 lo) := (by first | exact q1_1_0.keep hb2 | exact (q1_1_0.past _).keep hb2)
      have c2_4_0 := q2_4_0.1
      have q2_4_1 : CellF w2 ⟨w.heap.size, 1, none⟩ (.int .i64 hi) := (by first | exact q1_1_1.keep hb2 | exact (q1_1_1.past _).keep hb2)
      have c2_4_1 := q2_4_1.1
      have q2_4_2 : CellF w2 ⟨w.heap.size, 2, none⟩ (.bool k) := (by first | exact q1_1_2.keep hb2 | exact (q1_1_2.past _).keep hb2)
      have c2_4_2 := q2_4_2.1
      have z2_4 : w.heap.size < w2.heap.size := ltc c2_4_0
      have q2_5_0 : CellF w2 ⟨w.heap.size + 1, 0, none⟩ (.int .i64 lo2) := (by first | exact q1_2_0.keep hb2 | exact (q1_2_0.past _).keep hb2)
      have c2_5_0 := q2_5_0.1
      have q2_5_1 : CellF w2 ⟨w.heap.size + 1, 1, none⟩ (.int .i64 hi2) := (by first | exact q1_2_1.keep hb2 | exact (q1_2_1.past _).keep hb2)
      have c2_5_1 := q2_5_1.1
      have q2_5_2 : CellF w2 ⟨w.heap.size + 1, 2, none⟩ (.bool k2) := (by first | exact q1_2_2.keep hb2 | exact (q1_2_2.past _).keep hb2)
      have c2_5_2 := q2_5_2.1
      have z2_5 : w.heap.size + 1 < w2.heap.size := ltc c2_5_0
      have q2_6_0 : CellF w2 ⟨w.heap.size + 1 + 1, 0, none⟩ (.int .i64 0) := (by first | exact q1_3_0.keep hb2 | exact (q1_3_0.past _).keep hb2)
      have c2_6_0 := q2_6_0.1
      have g2_6_0 := q2_6_0.2
      have q2_6_1 : CellF w2 ⟨w.heap.size + 1 + 1, 1, none⟩ (.int .i64 0) := (by first | exact q1_3_1.keep hb2 | exact (q1_3_1.past _).keep hb2)
      have c2_6_1 := q2_6_1.1
      have g2_6_1 := q2_6_1.2
      have q2_6_2 : CellF w2 ⟨w.heap.size + 1 + 1, 2, none⟩ (.bool false) := (by first | exact q1_3_2.keep hb2 | exact (q1_3_2.past _).keep hb2)
      have c2_6_2 := q2_6_2.1
      have g2_6_2 := q2_6_2.2
      have z2_6 : w.heap.size + 1 + 1 < w2.heap.size := ltc c2_6_0
      go_wp2_with fail
      refine (known1 _ _ _ _ HR _ _ (by go_simp) (by go_simp) (by go_simp)).mono ?_
      rintro e w3 ⟨rfl, hb3⟩
      have q3_7_0 : CellF w3 ⟨w.heap.size, 0, none⟩ (.int .i64 lo) := (by first | exact q2_4_0.keep hb3 | exact (q2_4_0.past _).keep hb3)
      have c3_7_0 := q3_7_0.1
      have q3_7_1 : CellF w3 ⟨w.heap.size, 1, none⟩ (.int .i64 hi) := (by first | exact q2_4_1.keep hb3 | exact (q2_4_1.past _).keep hb3)
      have c3_7_1 := q3_7_1.1
      have q3_7_2 : CellF w3 ⟨w.heap.size, 2, none⟩ (.bool k) := (by first | exact q2_4_2.keep hb3 | exact (q2_4_2.past _).keep hb3)
      have c3_7_2 := q3_7_2.1
      have z3_7 : w.heap.size < w3.heap.size := ltc c3_7_0
      have q3_8_0 : CellF w3 ⟨w.heap.size + 1, 0, none⟩ (.int .i64 lo2) := (by first | exact q2_5_0.keep hb3 | exact (q2_5_0.past _).keep hb3)
      have c3_8_0 := q3_8_0.1
      have q3_8_1 : CellF w3 ⟨w.heap.size + 1, 1, none⟩ (.int .i64 hi2) := (by first | exact q2_5_1.keep hb3 | exact (q2_5_1.past _).keep hb3)
      have c3_8_1 := q3_8_1.1
      have q3_8_2 : CellF w3 ⟨w.heap.size + 1, 2, none⟩ (.bool k2) := (by first | exact q2_5_2.keep hb3 | exact (q2_5_2.past _).keep hb3)
      have c3_8_2 := q3_8_2.1
      have z3_8 : w.heap.size + 1 < w3.heap.size := ltc c3_8_0
      have q3_9_0 : CellF w3 ⟨w.heap.size + 1 + 1, 0, none⟩ (.int .i64 0) := (by first | exact q2_6_0.keep hb3 | exact (q2_6_0.past _).keep hb3)
      have c3_9_0 := q3_9_0.1
      have g3_9_0 := q3_9_0.2
      have q3_9_1 : CellF w3 ⟨w.heap.size + 1 + 1, 1, none⟩ (.int .i64 0) := (by first | exact q2_6_1.keep hb3 | exact (q2_6_1.past _).keep hb3)
      have c3_9_1 := q3_9_1.1
      have g3_9_1 := q3_9_1.2
      have q3_9_2 : CellF w3 ⟨w.heap.size + 1 + 1, 2, none⟩ (.bool false) := (by first | exact q2_6_2.keep hb3 | exact (q2_6_2.past _).keep hb3)
      have c3_9_2 := q3_9_2.1
      have g3_9_2 := q3_9_2.2
      have z3_9 : w.heap.size + 1 + 1 < w3.heap.size := ltc c3_9_0
      go_wp2
      exact bodyPost_ret (v := .agg #[.int .i64 lo, .int .i64 hi, .bool k]) (by simp [results, Try.results43, go_sem, c3_9_0, c3_9_1, c3_9_2]) rfl ⟨rfl, (by repeat (first | exact brefl _ | refine balloc ?_ _ | refine bdrewN ?_ _ | refine bset ?_ (by dsimp only; omega) _ | refine bstep ?_ (by assumption)))⟩
    | true =>
      rw [if_pos rfl, if_pos rfl] at hp
      by_cases h1 : lo2 ≤ lo
      · rw [if_pos h1] at hp
        by_cases h2 : hi ≤ hi2
        · rw [if_pos h2] at hp
          have HM := Lib.hid hp
          clear hp
          go_enter Try.func43, Try.ntmps43
          go_wp2_with fail
          refine (known1 _ _ _ _ HQ _ _ (by go_simp) (by go_simp) (by go_simp)).mono ?_
          rintro e w1 ⟨rfl, hb1⟩
          have q1_1_0 : CellF w1 ⟨w.heap.size, 0, none⟩ (.int .i64 lo) := (by refine CellF.keep hb1 ?_; refine ⟨?_, ?_⟩ <;> go_simp)
          have c1_1_0 := q1_1_0.1
          have q1_1_1 : CellF w1 ⟨w.heap.size, 1, none⟩ (.int .i64 hi) := (by refine CellF.keep hb1 ?_; refine ⟨?_, ?_⟩ <;> go_simp)
          have c1_1_1 := q1_1_1.1
          have q1_1_2 : CellF w1 ⟨w.heap.size, 2, none⟩ (.bool k) := (by refine CellF.keep hb1 ?_; refine ⟨?_, ?_⟩ <;> go_simp)
          have c1_1_2 := q1_1_2.1
          have z1_1 : w.heap.size < w1.heap.size := ltc c1_1_0
          have q1_2_0 : CellF w1 ⟨w.heap.size + 1, 0, none⟩ (.int .i64 lo2) := (by refine CellF.keep hb1 ?_; refine ⟨?_, ?_⟩ <;> go_simp)
          have c1_2_0 := q1_2_0.1
          have q1_2_1 : CellF w1 ⟨w.heap.size + 1, 1, none⟩ (.int .i64 hi2) := (by refine CellF.keep hb1 ?_; refine ⟨?_, ?_⟩ <;> go_simp)
          have c1_2_1 := q1_2_1.1
          have q1_2_2 : CellF w1 ⟨w.heap.size + 1, 2, none⟩ (.bool k2) := (by refine CellF.keep hb1 ?_; refine ⟨?_, ?_⟩ <;> go_simp)
          have c1_2_2 := q1_2_2.1
          have z1_2 : w.heap.size + 1 < w1.heap.size := ltc c1_2_0
          have q1_3_0 : CellF w1 ⟨w.heap.size + 1 + 1, 0, none⟩ (.int .i64 0) := (by refine CellF.keep hb1 ?_; refine ⟨?_, ?_⟩ <;> go_simp)
          have c1_3_0 := q1_3_0.1
          have g1_3_0 := q1_3_0.2
          have q1_3_1 : CellF w1 ⟨w.heap.size + 1 + 1, 1, none⟩ (.int .i64 0) := (by refine CellF.keep hb1 ?_; refine ⟨?_, ?_⟩ <;> go_simp)
          have c1_3_1 := q1_3_1.1
          have g1_3_1 := q1_3_1.2
          have q1_3_2 : CellF w1 ⟨w.heap.size + 1 + 1, 2, none⟩ (.bool false) := (by refine CellF.keep hb1 ?_; refine ⟨?_, ?_⟩ <;> go_simp)
          have c1_3_2 := q1_3_2.1
          have g1_3_2 := q1_3_2.2
          have z1_3 : w.heap.size + 1 + 1 < w1.heap.size := ltc c1_3_0
          go_wp2_with fail
          refine (known1 _ _ _ _ HQ _ _ (by go_simp) (by go_simp) (by go_simp)).mono ?_
          rintro e w2 ⟨rfl, hb2⟩
          have q2_4_0 : CellF w2 ⟨w.heap.size, 0, none⟩ (.int .i64 lo) := (by first | exact q1_1_0.keep hb2 | exact (q1_1_0.past _).keep hb2)
          have c2_4_0 := q2_4_0.1
          have q2_4_1 : CellF w2 ⟨w.heap.size, 1, none⟩ (.int .i64 hi) := (by first | exact q1_1_1.keep hb2 | exact (q1_1_1.past _).keep hb2)
          have c2_4_1 := q2_4_1.1
          have q2_4_2 : CellF w2 ⟨w.heap.size, 2, none⟩ (.bool k) := (by first | exact q1_1_2.keep hb2 | exact (q1_1_2.past _).keep hb2)
          have c2_4_2 := q2_4_2.1
          have z2_4 : w.heap.size < w2.heap.size := ltc c2_4_0
          have q2_5_0 : CellF w2 ⟨w.heap.size + 1, 0, none⟩ (.int .i64 lo2) := (by first | exact q1_2_0.keep hb2 | exact (q1_2_0.past _).keep hb2)
          have c2_5_0 := q2_5_0.1
          have q2_5_1 : CellF w2 ⟨w.heap.size + 1, 1, none⟩ (.int .i64 hi2) := (by first | exact q1_2_1.keep hb2 | exact (q1_2_1.past _).keep hb2)
          have c2_5_1 := q2_5_1.1
          have q2_5_2 : CellF w2 ⟨w.heap.size + 1, 2, none⟩ (.bool k2) := (by first | exact q1_2_2.keep hb2 | exact (q1_2_2.past _).keep hb2)
          have c2_5_2 := q2_5_2.1
          have z2_5 : w.heap.size + 1 < w2.heap.size := ltc c2_5_0
          have q2_6_0 : CellF w2 ⟨w.heap.size + 1 + 1, 0, none⟩ (.int .i64 0) := (by first | exact q1_3_0.keep hb2 | exact (q1_3_0.past _).keep hb2)
          have c2_6_0 := q2_6_0.1
          have g2_6_0 := q2_6_0.2
          have q2_6_1 : CellF w2 ⟨w.heap.size + 1 + 1, 1, none⟩ (.int .i64 0) := (by first | exact q1_3_1.keep hb2 | exact (q1_3_1.past _).keep hb2)
          have c2_6_1 := q2_6_1.1
          have g2_6_1 := q2_6_1.2
          have q2_6_2 : CellF w2 ⟨w.heap.size + 1 + 1, 2, none⟩ (.bool false) := (by first | exact q1_3_2.keep hb2 | exact (q1_3_2.past _).keep hb2)
          have c2_6_2 := q2_6_2.1
          have g2_6_2 := q2_6_2.2
          have z2_6 : w.heap.size + 1 + 1 < w2.heap.size := ltc c2_6_0
          go_wp2_with fail
          refine (known1 _ _ _ _ HR _ _ (by go_simp) (by go_simp) (by go_simp)).mono ?_
          rintro e w3 ⟨rfl, hb3⟩
          have q3_7_0 : CellF w3 ⟨w.heap.size, 0, none⟩ (.int .i64 lo) := (by first | exact q2_4_0.keep hb3 | exact (q2_4_0.past _).keep hb3)
          have c3_7_0 := q3_7_0.1
          have q3_7_1 : CellF w3 ⟨w.heap.size, 1, none⟩ (.int .i64 hi) := (by first | exact q2_4_1.keep hb3 | exact (q2_4_1.past _).keep hb3)
          have c3_7_1 := q3_7_1.1
          have q3_7_2 : CellF w3 ⟨w.heap.size, 2, none⟩ (.bool k) := (by first | exact q2_4_2.keep hb3 | exact (q2_4_2.past _).keep hb3)
          have c3_7_2 := q3_7_2.1
          have z3_7 : w.heap.size < w3.heap.size := ltc c3_7_0
          have q3_8_0 : CellF w3 ⟨w.heap.size + 1, 0, none⟩ (.int .i64 lo2) := (by first | exact q2_5_0.keep hb3 | exact (q2_5_0.past _).keep hb3)
          have c3_8_0 := q3_8_0.1
          have q3_8_1 : CellF w3 ⟨w.heap.size + 1, 1, none⟩ (.int .i64 hi2) := (by first | exact q2_5_1.keep hb3 | exact (q2_5_1.past _).keep hb3)
          have c3_8_1 := q3_8_1.1
          have q3_8_2 : CellF w3 ⟨w.heap.size + 1, 2, none⟩ (.bool k2) := (by first | exact q2_5_2.keep hb3 | exact (q2_5_2.past _).keep hb3)
          have c3_8_2 := q3_8_2.1
          have z3_8 : w.heap.size + 1 < w3.heap.size := ltc c3_8_0
          have q3_9_0 : CellF w3 ⟨w.heap.size + 1 + 1, 0, none⟩ (.int .i64 0) := (by first | exact q2_6_0.keep hb3 | exact (q2_6_0.past _).keep hb3)
          have c3_9_0 := q3_9_0.1
          have g3_9_0 := q3_9_0.2
          have q3_9_1 : CellF w3 ⟨w.heap.size + 1 + 1, 1, none⟩ (.int .i64 0) := (by first | exact q2_6_1.keep hb3 | exact (q2_6_1.past _).keep hb3)
          have c3_9_1 := q3_9_1.1
          have g3_9_1 := q3_9_1.2
          have q3_9_2 : CellF w3 ⟨w.heap.size + 1 + 1, 2, none⟩ (.bool false) := (by first | exact q2_6_2.keep hb3 | exact (q2_6_2.past _).keep hb3)
          have c3_9_2 := q3_9_2.1
          have g3_9_2 := q3_9_2.2
          have z3_9 : w.heap.size + 1 + 1 < w3.heap.size := ltc c3_9_0
          go_wp2_with fail
          refine (Of_is _ _ _ _ _ HM _).mono ?_
          rintro e w4 ⟨rfl, hb4⟩
          have q4_10_0 : CellF w4 ⟨w.heap.size + 1 + 1, 0, none⟩ (.int .i64 0) := (by first | exact q3_9_0.keep hb4 | exact (q3_9_0.past _).keep hb4)
          have c4_10_0 := q4_10_0.1
          have g4_10_0 := q4_10_0.2
          have q4_10_1 : CellF w4 ⟨w.heap.size + 1 + 1, 1, none⟩ (.int .i64 0) := (by first | exact q3_9_1.keep hb4 | exact (q3_9_1.past _).keep hb4)
          have c4_10_1 := q4_10_1.1
          have g4_10_1 := q4_10_1.2
          have q4_10_2 : CellF w4 ⟨w.heap.size + 1 + 1, 2, none⟩ (.bool false) := (by first | exact q3_9_2.keep hb4 | exact (q3_9_2.past _).keep hb4)
          have c4_10_2 := q4_10_2.1
          have g4_10_2 := q4_10_2.2
          have z4_10 : w.heap.size + 1 + 1 < w4.heap.size := ltc c4_10_0
          go_wp2
          exact bodyPost_ret (v := .agg #[.int .i64 x, .int .i64 y, .bool z]) (by simp [results, Try.results43, go_sem, c4_10_0, c4_10_1, c4_10_2]) rfl ⟨rfl, (by repeat (first | exact brefl _ | refine balloc ?_ _ | refine bdrewN ?_ _ | refine bset ?_ (by dsimp only; omega) _ | refine bstep ?_ (by assumption)))⟩
        · rw [if_neg h2] at hp
          have HM := Lib.hid hp
          clear hp
          go_enter Try.func43, Try.ntmps43
          go_wp2_with fail
          refine (known1 _ _ _ _ HQ _ _ (by go_simp) (by go_simp) (by go_simp)).mono ?_
          rintro e w1 ⟨rfl, hb1⟩
          have q1_1_0 : CellF w1 ⟨w.heap.size, 0, none⟩ (.int .i64 lo) := (by refine CellF.keep hb1 ?_; refine ⟨?_, ?_⟩ <;> go_simp)
          have c1_1_0 := q1_1_0.1
          have q1_1_1 : CellF w1 ⟨w.heap.size, 1, none⟩ (.int .i64 hi) := (by refine CellF.keep hb1 ?_; refine ⟨?_, ?_⟩ <;> go_simp)
          have c1_1_1 := q1_1_1.1
          have q1_1_2 : CellF w1 ⟨w.heap.size, 2, none⟩ (.bool k) := (by refine CellF.keep hb1 ?_; refine ⟨?_, ?_⟩ <;> go_simp)
          have c1_1_2 := q1_1_2.1
          have z1_1 : w.heap.size < w1.heap.size := ltc c1_1_0
          have q1_2_0 : CellF w1 ⟨w.heap.size + 1, 0, none⟩ (.int .i64 lo2) := (by refine CellF.keep hb1 ?_; refine ⟨?_, ?_⟩ <;> go_simp)
          have c1_2_0 := q1_2_0.1
          have q1_2_1 : CellF w1 ⟨w.heap.size + 1, 1, none⟩ (.int .i64 hi2) := (by refine CellF.keep hb1 ?_; refine ⟨?_, ?_⟩ <;> go_simp)
          have c1_2_1 := q1_2_1.1
          have q1_2_2 : CellF w1 ⟨w.heap.size + 1, 2, none⟩ (.bool k2) := (by refine CellF.keep hb1 ?_; refine ⟨?_, ?_⟩ <;> go_simp)
          have c1_2_2 := q1_2_2.1
          have z1_2 : w.heap.size + 1 < w1.heap.size := ltc c1_2_0
          have q1_3_0 : CellF w1 ⟨w.heap.size + 1 + 1, 0, none⟩ (.int .i64 0) := (by refine CellF.keep hb1 ?_; refine ⟨?_, ?_⟩ <;> go_simp)
          have c1_3_0 := q1_3_0.1
          have g1_3_0 := q1_3_0.2
          have q1_3_1 : CellF w1 ⟨w.heap.size + 1 + 1, 1, none⟩ (.int .i64 0) := (by refine CellF.keep hb1 ?_; refine ⟨?_, ?_⟩ <;> go_simp)
          have c1_3_1 := q1_3_1.1
          have g1_3_1 := q1_3_1.2
          have q1_3_2 : CellF w1 ⟨w.heap.size + 1 + 1, 2, none⟩ (.bool false) := (by refine CellF.keep hb1 ?_; refine ⟨?_, ?_⟩ <;> go_simp)
          have c1_3_2 := q1_3_2.1
          have g1_3_2 := q1_3_2.2
          have z1_3 : w.heap.size + 1 + 1 < w1.heap.size := ltc c1_3_0
          go_wp2_with fail
          refine (known1 _ _ _ _ HQ _ _ (by go_simp) (by go_simp) (by go_simp)).mono ?_
          rintro e w2 ⟨rfl, hb2⟩
          have q2_4_0 : CellF w2 ⟨w.heap.size, 0, none⟩ (.int .i64 lo) := (by first | exact q1_1_0.keep hb2 | exact (q1_1_0.past _).keep hb2)
          have c2_4_0 := q2_4_0.1
          have q2_4_1 : CellF w2 ⟨w.heap.size, 1, none⟩ (.int .i64 hi) := (by first | exact q1_1_1.keep hb2 | exact (q1_1_1.past _).keep hb2)
          have c2_4_1 := q2_4_1.1
          have q2_4_2 : CellF w2 ⟨w.heap.size, 2, none⟩ (.bool k) := (by first | exact q1_1_2.keep hb2 | exact (q1_1_2.past _).keep hb2)
          have c2_4_2 := q2_4_2.1
          have z2_4 : w.heap.size < w2.heap.size := ltc c2_4_0
          have q2_5_0 : CellF w2 ⟨w.heap.size + 1, 0, none⟩ (.int .i64 lo2) := (by first | exact q1_2_0.keep hb2 | exact (q1_2_0.past _).keep hb2)
          have c2_5_0 := q2_5_0.1
          have q2_5_1 : CellF w2 ⟨w.heap.size + 1, 1, none⟩ (.int .i64 hi2) := (by first | exact q1_2_1.keep hb2 | exact (q1_2_1.past _).keep hb2)
          have c2_5_1 := q2_5_1.1
          have q2_5_2 : CellF w2 ⟨w.heap.size + 1, 2, none⟩ (.bool k2) := (by first | exact q1_2_2.keep hb2 | exact (q1_2_2.past _).keep hb2)
          have c2_5_2 := q2_5_2.1
          have z2_5 : w.heap.size + 1 < w2.heap.size := ltc c2_5_0
          have q2_6_0 : CellF w2 ⟨w.heap.size + 1 + 1, 0, none⟩ (.int .i64 0) := (by first | exact q1_3_0.keep hb2 | exact (q1_3_0.past _).keep hb2)
          have c2_6_0 := q2_6_0.1
          have g2_6_0 := q2_6_0.2
          have q2_6_1 : CellF w2 ⟨w.heap.size + 1 + 1, 1, none⟩ (.int .i64 0) := (by first | exact q1_3_1.keep hb2 | exact (q1_3_1.past _).keep hb2)
          have c2_6_1 := q2_6_1.1
          have g2_6_1 := q2_6_1.2
          have q2_6_2 : CellF w2 ⟨w.heap.size + 1 + 1, 2, none⟩ (.bool false) := (by first | exact q1_3_2.keep hb2 | exact (q1_3_2.past _).keep hb2)
          have c2_6_2 := q2_6_2.1
          have g2_6_2 := q2_6_2.2
          have z2_6 : w.heap.size + 1 + 1 < w2.heap.size := ltc c2_6_0
          go_wp2_with fail
          refine (known1 _ _ _ _ HR _ _ (by go_simp) (by go_simp) (by go_simp)).mono ?_
          rintro e w3 ⟨rfl, hb3⟩
          have q3_7_0 : CellF w3 ⟨w.heap.size, 0, none⟩ (.int .i64 lo) := (by first | exact q2_4_0.keep hb3 | exact (q2_4_0.past _).keep hb3)
          have c3_7_0 := q3_7_0.1
          have q3_7_1 : CellF w3 ⟨w.heap.size, 1, none⟩ (.int .i64 hi) := (by first | exact q2_4_1.keep hb3 | exact (q2_4_1.past _).keep hb3)
          have c3_7_1 := q3_7_1.1
          have q3_7_2 : CellF w3 ⟨w.heap.size, 2, none⟩ (.bool k) := (by first | exact q2_4_2.keep hb3 | exact (q2_4_2.past _).keep hb3)
          have c3_7_2 := q3_7_2.1
          have z3_7 : w.heap.size < w3.heap.size := ltc c3_7_0
          have q3_8_0 : CellF w3 ⟨w.heap.size + 1, 0, none⟩ (.int .i64 lo2) := (by first | exact q2_5_0.keep hb3 | exact (q2_5_0.past _).keep hb3)
          have c3_8_0 := q3_8_0.1
          have q3_8_1 : CellF w3 ⟨w.heap.size + 1, 1, none⟩ (.int .i64 hi2) := (by first | exact q2_5_1.keep hb3 | exact (q2_5_1.past _).keep hb3)
          have c3_8_1 := q3_8_1.1
          have q3_8_2 : CellF w3 ⟨w.heap.size + 1, 2, none⟩ (.bool k2) := (by first | exact q2_5_2.keep hb3 | exact (q2_5_2.past _).keep hb3)
          have c3_8_2 := q3_8_2.1
          have z3_8 : w.heap.size + 1 < w3.heap.size := ltc c3_8_0
          have q3_9_0 : CellF w3 ⟨w.heap.size + 1 + 1, 0, none⟩ (.int .i64 0) := (by first | exact q2_6_0.keep hb3 | exact (q2_6_0.past _).keep hb3)
          have c3_9_0 := q3_9_0.1
          have g3_9_0 := q3_9_0.2
          have q3_9_1 : CellF w3 ⟨w.heap.size + 1 + 1, 1, none⟩ (.int .i64 0) := (by first | exact q2_6_1.keep hb3 | exact (q2_6_1.past _).keep hb3)
          have c3_9_1 := q3_9_1.1
          have g3_9_1 := q3_9_1.2
          have q3_9_2 : CellF w3 ⟨w.heap.size + 1 + 1, 2, none⟩ (.bool false) := (by first | exact q2_6_2.keep hb3 | exact (q2_6_2.past _).keep hb3)
          have c3_9_2 := q3_9_2.1
          have g3_9_2 := q3_9_2.2
          have z3_9 : w.heap.size + 1 + 1 < w3.heap.size := ltc c3_9_0
          go_wp2_with fail
          refine (Of_is _ _ _ _ _ HM _).mono ?_
          rintro e w4 ⟨rfl, hb4⟩
          have q4_10_0 : CellF w4 ⟨w.heap.size + 1 + 1, 0, none⟩ (.int .i64 0) := (by first | exact q3_9_0.keep hb4 | exact (q3_9_0.past _).keep hb4)
          have c4_10_0 := q4_10_0.1
          have g4_10_0 := q4_10_0.2
          have q4_10_1 : CellF w4 ⟨w.heap.size + 1 + 1, 1, none⟩ (.int .i64 0) := (by first | exact q3_9_1.keep hb4 | exact (q3_9_1.past _).keep hb4)
          have c4_10_1 := q4_10_1.1
          have g4_10_1 := q4_10_1.2
          have q4_10_2 : CellF w4 ⟨w.heap.size + 1 + 1, 2, none⟩ (.bool false) := (by first | exact q3_9_2.keep hb4 | exact (q3_9_2.past _).keep hb4)
          have c4_10_2 := q4_10_2.1
          have g4_10_2 := q4_10_2.2
          have z4_10 : w.heap.size + 1 + 1 < w4.heap.size := ltc c4_10_0
          go_wp2
          exact bodyPost_ret (v := .agg #[.int .i64 x, .int .i64 y, .bool z]) (by simp [results, Try.results43, go_sem, c4_10_0, c4_10_1, c4_10_2]) rfl ⟨rfl, (by repeat (first | exact brefl _ | refine balloc ?_ _ | refine bdrewN ?_ _ | refine bset ?_ (by dsimp only; omega) _ | refine bstep ?_ (by assumption)))⟩
      · rw [if_neg h1] at hp
        by_cases h2 : hi ≤ hi2
        · rw [if_pos h2] at hp
          have HM := Lib.hid hp
          clear hp
          go_enter Try.func43, Try.ntmps43
          go_wp2_with fail
          refine (known1 _ _ _ _ HQ _ _ (by go_simp) (by go_simp) (by go_simp)).mono ?_
          rintro e w1 ⟨rfl, hb1⟩
          have q1_1_0 : CellF w1 ⟨w.heap.size, 0, none⟩ (.int .i64 lo) := (by refine CellF.keep hb1 ?_; refine ⟨?_, ?_⟩ <;> go_simp)
          have c1_1_0 := q1_1_0.1
          have q1_1_1 : CellF w1 ⟨w.heap.size, 1, none⟩ (.int .i64 hi) := (by refine CellF.keep hb1 ?_; refine ⟨?_, ?_⟩ <;> go_simp)
          have c1_1_1 := q1_1_1.1
          have q1_1_2 : CellF w1 ⟨w.heap.size, 2, none⟩ (.bool k) := (by refine CellF.keep hb1 ?_; refine ⟨?_, ?_⟩ <;> go_simp)
          have c1_1_2 := q1_1_2.1
          have z1_1 : w.heap.size < w1.heap.size := ltc c1_1_0
          have q1_2_0 : CellF w1 ⟨w.heap.size + 1, 0, none⟩ (.int .i64 lo2) := (by refine CellF.keep hb1 ?_; refine ⟨?_, ?_⟩ <;> go_simp)
          have c1_2_0 := q1_2_0.1
          have q1_2_1 : CellF w1 ⟨w.heap.size + 1, 1, none⟩ (.int .i64 hi2) := (by refine CellF.keep hb1 ?_; refine ⟨?_, ?_⟩ <;> go_simp)
          have c1_2_1 := q1_2_1.1
          have q1_2_2 : CellF w1 ⟨w.heap.size + 1, 2, none⟩ (.bool k2) := (by refine CellF.keep hb1 ?_; refine ⟨?_, ?_⟩ <;> go_simp)
          have c1_2_2 := q1_2_2.1
          have z1_2 : w.heap.size + 1 < w1.heap.size := ltc c1_2_0
          have q1_3_0 : CellF w1 ⟨w.heap.size + 1 + 1, 0, none⟩ (.int .i64 0) := (by refine CellF.keep hb1 ?_; refine ⟨?_, ?_⟩ <;> go_simp)
          have c1_3_0 := q1_3_0.1
          have g1_3_0 := q1_3_0.2
          have q1_3_1 : CellF w1 ⟨w.heap.size + 1 + 1, 1, none⟩ (.int .i64 0) := (by refine CellF.keep hb1 ?_; refine ⟨?_, ?_⟩ <;> go_simp)
          have c1_3_1 := q1_3_1.1
          have g1_3_1 := q1_3_1.2
          have q1_3_2 : CellF w1 ⟨w.heap.size + 1 + 1, 2, none⟩ (.bool false) := (by refine CellF.keep hb1 ?_; refine ⟨?_, ?_⟩ <;> go_simp)
          have c1_3_2 := q1_3_2.1
          have g1_3_2 := q1_3_2.2
          have z1_3 : w.heap.size + 1 + 1 < w1.heap.size := ltc c1_3_0
          go_wp2_with fail
          refine (known1 _ _ _ _ HQ _ _ (by go_simp) (by go_simp) (by go_simp)).mono ?_
          rintro e w2 ⟨rfl, hb2⟩
          have q2_4_0 : CellF w2 ⟨w.heap.size, 0, none⟩ (.int .i64 lo) := (by first | exact q1_1_0.keep hb2 | exact (q1_1_0.past _).keep hb2)
          have c2_4_0 := q2_4_0.1
          have q2_4_1 : CellF w2 ⟨w.heap.size, 1, none⟩ (.int .i64 hi) := (by first | exact q1_1_1.keep hb2 | exact (q1_1_1.past _).keep hb2)
          have c2_4_1 := q2_4_1.1
          have q2_4_2 : CellF w2 ⟨w.heap.size, 2, none⟩ (.bool k) := (by first | exact q1_1_2.keep hb2 | exact (q1_1_2.past _).keep hb2)
          have c2_4_2 := q2_4_2.1
          have z2_4 : w.heap.size < w2.heap.size := ltc c2_4_0
          have q2_5_0 : CellF w2 ⟨w.heap.size + 1, 0, none⟩ (.int .i64 lo2) := (by first | exact q1_2_0.keep hb2 | exact (q1_2_0.past _).keep hb2)
          have c2_5_0 := q2_5_0.1
          have q2_5_1 : CellF w2 ⟨w.heap.size + 1, 1, none⟩ (.int .i64 hi2) := (by first | exact q1_2_1.keep hb2 | exact (q1_2_1.past _).keep hb2)
          have c2_5_1 := q2_5_1.1
          have q2_5_2 : CellF w2 ⟨w.heap.size + 1, 2, none⟩ (.bool k2) := (by first | exact q1_2_2.keep hb2 | exact (q1_2_2.past _).keep hb2)
          have c2_5_2 := q2_5_2.1
          have z2_5 : w.heap.size + 1 < w2.heap.size := ltc c2_5_0
          have q2_6_0 : CellF w2 ⟨w.heap.size + 1 + 1, 0, none⟩ (.int .i64 0) := (by first | exact q1_3_0.keep hb2 | exact (q1_3_0.past _).keep hb2)
          have c2_6_0 := q2_6_0.1
          have g2_6_0 := q2_6_0.2
          have q2_6_1 : CellF w2 ⟨w.heap.size + 1 + 1, 1, none⟩ (.int .i64 0) := (by first | exact q1_3_1.keep hb2 | exact (q1_3_1.past _).keep hb2)
          have c2_6_1 := q2_6_1.1
          have g2_6_1 := q2_6_1.2
          have q2_6_2 : CellF w2 ⟨w.heap.size + 1 + 1, 2, none⟩ (.bool false) := (by first | exact q1_3_2.keep hb2 | exact (q1_3_2.past _).keep hb2)
          have c2_6_2 := q2_6_2.1
          have g2_6_2 := q2_6_2.2
          have z2_6 : w.heap.size + 1 + 1 < w2.heap.size := ltc c2_6_0
          go_wp2_with fail
          refine (known1 _ _ _ _ HR _ _ (by go_simp) (by go_simp) (by go_simp)).mono ?_
          rintro e w3 ⟨rfl, hb3⟩
          have q3_7_0 : CellF w3 ⟨w.heap.size, 0, none⟩ (.int .i64 lo) := (by first | exact q2_4_0.keep hb3 | exact (q2_4_0.past _).keep hb3)
          have c3_7_0 := q3_7_0.1
          have q3_7_1 : CellF w3 ⟨w.heap.size, 1, none⟩ (.int .i64 hi) := (by first | exact q2_4_1.keep hb3 | exact (q2_4_1.past _).keep hb3)
          have c3_7_1 := q3_7_1.1
          have q3_7_2 : CellF w3 ⟨w.heap.size, 2, none⟩ (.bool k) := (by first | exact q2_4_2.keep hb3 | exact (q2_4_2.past _).keep hb3)
          have c3_7_2 := q3_7_2.1
          have z3_7 : w.heap.size < w3.heap.size := ltc c3_7_0
          have q3_8_0 : CellF w3 ⟨w.heap.size + 1, 0, none⟩ (.int .i64 lo2) := (by first | exact q2_5_0.keep hb3 | exact (q2_5_0.past _).keep hb3)
          have c3_8_0 := q3_8_0.1
          have q3_8_1 : CellF w3 ⟨w.heap.size + 1, 1, none⟩ (.int .i64 hi2) := (by first | exact q2_5_1.keep hb3 | exact (q2_5_1.past _).keep hb3)
          have c3_8_1 := q3_8_1.1
          have q3_8_2 : CellF w3 ⟨w.heap.size + 1, 2, none⟩ (.bool k2) := (by first | exact q2_5_2.keep hb3 | exact (q2_5_2.past _).keep hb3)
          have c3_8_2 := q3_8_2.1
          have z3_8 : w.heap.size + 1 < w3.heap.size := ltc c3_8_0
          have q3_9_0 : CellF w3 ⟨w.heap.size + 1 + 1, 0, none⟩ (.int .i64 0) := (by first | exact q2_6_0.keep hb3 | exact (q2_6_0.past _).keep hb3)
          have c3_9_0 := q3_9_0.1
          have g3_9_0 := q3_9_0.2
          have q3_9_1 : CellF w3 ⟨w.heap.size + 1 + 1, 1, none⟩ (.int .i64 0) := (by first | exact q2_6_1.keep hb3 | exact (q2_6_1.past _).keep hb3)
          have c3_9_1 := q3_9_1.1
          have g3_9_1 := q3_9_1.2
          have q3_9_2 : CellF w3 ⟨w.heap.size + 1 + 1, 2, none⟩ (.bool false) := (by first | exact q2_6_2.keep hb3 | exact (q2_6_2.past _).keep hb3)
          have c3_9_2 := q3_9_2.1
          have g3_9_2 := q3_9_2.2
          have z3_9 : w.heap.size + 1 + 1 < w3.heap.size := ltc c3_9_0
          go_wp2_with fail
          refine (Of_is _ _ _ _ _ HM _).mono ?_
          rintro e w4 ⟨rfl, hb4⟩
          have q4_10_0 : CellF w4 ⟨w.heap.size + 1 + 1, 0, none⟩ (.int .i64 0) := (by first | exact q3_9_0.keep hb4 | exact (q3_9_0.past _).keep hb4)
          have c4_10_0 := q4_10_0.1
          have g4_10_0 := q4_10_0.2
          have q4_10_1 : CellF w4 ⟨w.heap.size + 1 + 1, 1, none⟩ (.int .i64 0) := (by first | exact q3_9_1.keep hb4 | exact (q3_9_1.past _).keep hb4)
          have c4_10_1 := q4_10_1.1
          have g4_10_1 := q4_10_1.2
          have q4_10_2 : CellF w4 ⟨w.heap.size + 1 + 1, 2, none⟩ (.bool false) := (by first | exact q3_9_2.keep hb4 | exact (q3_9_2.past _).keep hb4)
          have c4_10_2 := q4_10_2.1
          have g4_10_2 := q4_10_2.2
          have z4_10 : w.heap.size + 1 + 1 < w4.heap.size := ltc c4_10_0
          go_wp2
          exact bodyPost_ret (v := .agg #[.int .i64 x, .int .i64 y, .bool z]) (by simp [results, Try.results43, go_sem, c4_10_0, c4_10_1, c4_10_2]) rfl ⟨rfl, (by repeat (first | exact brefl _ | refine balloc ?_ _ | refine bdrewN ?_ _ | refine bset ?_ (by dsimp only; omega) _ | refine bstep ?_ (by assumption)))⟩
        · rw [if_neg h2] at hp
          have HM := Lib.hid hp
          clear hp
          go_enter Try.func43, Try.ntmps43
          go_wp2_with fail
          refine (known1 _ _ _ _ HQ _ _ (by go_simp) (by go_simp) (by go_simp)).mono ?_
          rintro e w1 ⟨rfl, hb1⟩
          have q1_1_0 : CellF w1 ⟨w.heap.size, 0, none⟩ (.int .i64 lo) := (by refine CellF.keep hb1 ?_; refine ⟨?_, ?_⟩ <;> go_simp)
          have c1_1_0 := q1_1_0.1
          have q1_1_1 : CellF w1 ⟨w.heap.size, 1, none⟩ (.int .i64 hi) := (by refine CellF.keep hb1 ?_; refine ⟨?_, ?_⟩ <;> go_simp)
          have c1_1_1 := q1_1_1.1
          have q1_1_2 : CellF w1 ⟨w.heap.size, 2, none⟩ (.bool k) := (by refine CellF.keep hb1 ?_; refine ⟨?_, ?_⟩ <;> go_simp)
          have c1_1_2 := q1_1_2.1
          have z1_1 : w.heap.size < w1.heap.size := ltc c1_1_0
          have q1_2_0 : CellF w1 ⟨w.heap.size + 1, 0, none⟩ (.int .i64 lo2) := (by refine CellF.keep hb1 ?_; refine ⟨?_, ?_⟩ <;> go_simp)
          have c1_2_0 := q1_2_0.1
          have q1_2_1 : CellF w1 ⟨w.heap.size + 1, 1, none⟩ (.int .i64 hi2) := (by refine CellF.keep hb1 ?_; refine ⟨?_, ?_⟩ <;> go_simp)
          have c1_2_1 := q1_2_1.1
          have q1_2_2 : CellF w1 ⟨w.heap.size + 1, 2, none⟩ (.bool k2) := (by refine CellF.keep hb1 ?_; refine ⟨?_, ?_⟩ <;> go_simp)
          have c1_2_2 := q1_2_2.1
          have z1_2 : w.heap.size + 1 < w1.heap.size := ltc c1_2_0
          have q1_3_0 : CellF w1 ⟨w.heap.size + 1 + 1, 0, none⟩ (.int .i64 0) := (by refine CellF.keep hb1 ?_; refine ⟨?_, ?_⟩ <;> go_simp)
          have c1_3_0 := q1_3_0.1
          have g1_3_0 := q1_3_0.2
          have q1_3_1 : CellF w1 ⟨w.heap.size + 1 + 1, 1, none⟩ (.int .i64 0) := (by refine CellF.keep hb1 ?_; refine ⟨?_, ?_⟩ <;> go_simp)
          have c1_3_1 := q1_3_1.1
          have g1_3_1 := q1_3_1.2
          have q1_3_2 : CellF w1 ⟨w.heap.size + 1 + 1, 2, none⟩ (.bool false) := (by refine CellF.keep hb1 ?_; refine ⟨?_, ?_⟩ <;> go_simp)
          have c1_3_2 := q1_3_2.1
          have g1_3_2 := q1_3_2.2
          have z1_3 : w.heap.size + 1 + 1 < w1.heap.size := ltc c1_3_0
          go_wp2_with fail
          refine (known1 _ _ _ _ HQ _ _ (by go_simp) (by go_simp) (by go_simp)).mono ?_
          rintro e w2 ⟨rfl, hb2⟩
          have q2_4_0 : CellF w2 ⟨w.heap.size, 0, none⟩ (.int .i64 lo) := (by first | exact q1_1_0.keep hb2 | exact (q1_1_0.past _).keep hb2)
          have c2_4_0 := q2_4_0.1
          have q2_4_1 : CellF w2 ⟨w.heap.size, 1, none⟩ (.int .i64 hi) := (by first | exact q1_1_1.keep hb2 | exact (q1_1_1.past _).keep hb2)
          have c2_4_1 := q2_4_1.1
          have q2_4_2 : CellF w2 ⟨w.heap.size, 2, none⟩ (.bool k) := (by first | exact q1_1_2.keep hb2 | exact (q1_1_2.past _).keep hb2)
          have c2_4_2 := q2_4_2.1
          have z2_4 : w.heap.size < w2.heap.size := ltc c2_4_0
          have q2_5_0 : CellF w2 ⟨w.heap.size + 1, 0, none⟩ (.int .i64 lo2) := (by first | exact q1_2_0.keep hb2 | exact (q1_2_0.past _).keep hb2)
          have c2_5_0 := q2_5_0.1
          have q2_5_1 : CellF w2 ⟨w.heap.size + 1, 1, none⟩ (.int .i64 hi2) := (by first | exact q1_2_1.keep hb2 | exact (q1_2_1.past _).keep hb2)
          have c2_5_1 := q2_5_1.1
          have q2_5_2 : CellF w2 ⟨w.heap.size + 1, 2, none⟩ (.bool k2) := (by first | exact q1_2_2.keep hb2 | exact (q1_2_2.past _).keep hb2)
          have c2_5_2 := q2_5_2.1
          have z2_5 : w.heap.size + 1 < w2.heap.size := ltc c2_5_0
          have q2_6_0 : CellF w2 ⟨w.heap.size + 1 + 1, 0, none⟩ (.int .i64 0) := (by first | exact q1_3_0.keep hb2 | exact (q1_3_0.past _).keep hb2)
          have c2_6_0 := q2_6_0.1
          have g2_6_0 := q2_6_0.2
          have q2_6_1 : CellF w2 ⟨w.heap.size + 1 + 1, 1, none⟩ (.int .i64 0) := (by first | exact q1_3_1.keep hb2 | exact (q1_3_1.past _).keep hb2)
          have c2_6_1 := q2_6_1.1
          have g2_6_1 := q2_6_1.2
          have q2_6_2 : CellF w2 ⟨w.heap.size + 1 + 1, 2, none⟩ (.bool false) := (by first | exact q1_3_2.keep hb2 | exact (q1_3_2.past _).keep hb2)
          have c2_6_2 := q2_6_2.1
          have g2_6_2 := q2_6_2.2
          have z2_6 : w.heap.size + 1 + 1 < w2.heap.size := ltc c2_6_0
          go_wp2_with fail
          refine (known1 _ _ _ _ HR _ _ (by go_simp) (by go_simp) (by go_simp)).mono ?_
          rintro e w3 ⟨rfl, hb3⟩
          have q3_7_0 : CellF w3 ⟨w.heap.size, 0, none⟩ (.int .i64 lo) := (by first | exact q2_4_0.keep hb3 | exact (q2_4_0.past _).keep hb3)
          have c3_7_0 := q3_7_0.1
          have q3_7_1 : CellF w3 ⟨w.heap.size, 1, none⟩ (.int .i64 hi) := (by first | exact q2_4_1.keep hb3 | exact (q2_4_1.past _).keep hb3)
          have c3_7_1 := q3_7_1.1
          have q3_7_2 : CellF w3 ⟨w.heap.size, 2, none⟩ (.bool k) := (by first | exact q2_4_2.keep hb3 | exact (q2_4_2.past _).keep hb3)
          have c3_7_2 := q3_7_2.1
          have z3_7 : w.heap.size < w3.heap.size := ltc c3_7_0
          have q3_8_0 : CellF w3 ⟨w.heap.size + 1, 0, none⟩ (.int .i64 lo2) := (by first | exact q2_5_0.keep hb3 | exact (q2_5_0.past _).keep hb3)
          have c3_8_0 := q3_8_0.1
          have q3_8_1 : CellF w3 ⟨w.heap.size + 1, 1, none⟩ (.int .i64 hi2) := (by first | exact q2_5_1.keep hb3 | exact (q2_5_1.past _).keep hb3)
          have c3_8_1 := q3_8_1.1
          have q3_8_2 : CellF w3 ⟨w.heap.size + 1, 2, none⟩ (.bool k2) := (by first | exact q2_5_2.keep hb3 | exact (q2_5_2.past _).keep hb3)
          have c3_8_2 := q3_8_2.1
          have z3_8 : w.heap.size + 1 < w3.heap.size := ltc c3_8_0
          have q3_9_0 : CellF w3 ⟨w.heap.size + 1 + 1, 0, none⟩ (.int .i64 0) := (by first | exact q2_6_0.keep hb3 | exact (q2_6_0.past _).keep hb3)
          have c3_9_0 := q3_9_0.1
          have g3_9_0 := q3_9_0.2
          have q3_9_1 : CellF w3 ⟨w.heap.size + 1 + 1, 1, none⟩ (.int .i64 0) := (by first | exact q2_6_1.keep hb3 | exact (q2_6_1.past _).keep hb3)
          have c3_9_1 := q3_9_1.1
          have g3_9_1 := q3_9_1.2
          have q3_9_2 : CellF w3 ⟨w.heap.size + 1 + 1, 2, none⟩ (.bool false) := (by first | exact q2_6_2.keep hb3 | exact (q2_6_2.past _).keep hb3)
          have c3_9_2 := q3_9_2.1
          have g3_9_2 := q3_9_2.2
          have z3_9 : w.heap.size + 1 + 1 < w3.heap.size := ltc c3_9_0
          go_wp2_with fail
          refine (Of_is _ _ _ _ _ HM _).mono ?_
          rintro e w4 ⟨rfl, hb4⟩
          have q4_10_0 : CellF w4 ⟨w.heap.size + 1 + 1, 0, none⟩ (.int .i64 0) := (by first | exact q3_9_0.keep hb4 | exact (q3_9_0.past _).keep hb4)
          have c4_10_0 := q4_10_0.1
          have g4_10_0 := q4_10_0.2
          have q4_10_1 : CellF w4 ⟨w.heap.size + 1 + 1, 1, none⟩ (.int .i64 0) := (by first | exact q3_9_1.keep hb4 | exact (q3_9_1.past _).keep hb4)
          have c4_10_1 := q4_10_1.1
          have g4_10_1 := q4_10_1.2
          have q4_10_2 : CellF w4 ⟨w.heap.size + 1 + 1, 2, none⟩ (.bool false) := (by first | exact q3_9_2.keep hb4 | exact (q3_9_2.past _).keep hb4)
          have c4_10_2 := q4_10_2.1
          have g4_10_2 := q4_10_2.2
          have z4_10 : w.heap.size + 1 + 1 < w4.heap.size := ltc c4_10_0
          go_wp2
          exact bodyPost_ret (v := .agg #[.int .i64 x, .int .i64 y, .bool z]) (by simp [results, Try.results43, go_sem, c4_10_0, c4_10_1, c4_10_2]) rfl ⟨rfl, (by repeat (first | exact brefl _ | refine balloc ?_ _ | refine bdrewN ?_ _ | refine bset ?_ (by dsimp only; omega) _ | refine bstep ?_ (by assumption)))⟩
end Go.Proofs.Ytnphbdhcoiaklaa
namespace Go.Proofs.Ytnphbdhcoiaklaa
open Go.RowKit

theorem Unknown_is (w : World) : Calls Try.prog 99 #[] w fun e w' => e = .returned (.agg #[.int .i64 0, .int .i64 0, .bool false]) ∧ Below w.heap.size w w' := by
  go_enter Try.func99, Try.ntmps99
  go_wp2
  exact bodyPost_ret (v := .agg #[.int .i64 0, .int .i64 0, .bool false]) (by simp [results, Try.results99, go_sem]) rfl ⟨rfl, (by repeat (first | exact brefl _ | refine balloc ?_ _ | refine bdrewN ?_ _ | refine bset ?_ (by dsimp only; omega) _ | refine bstep ?_ (by assumption)))⟩

end Go.Proofs.Ytnphbdhcoiaklaa
namespace Go.Proofs.Ytnphbdhcoiaklaa
open Go.RowKit

end Go.Proofs.Ytnphbdhcoiaklaa
namespace Go.Proofs.Ytnphbdhcoiaklaa
open Go.RowKit

theorem spK_no : spK spNo = false := rfl
/-! SpanSums -/
/-! SpanBack -/
/-! SpanWide -/
/-! SpanMeets -/
end Go.Proofs.Ytnphbdhcoiaklaa
namespace Go.Proofs.Ytnphbdhcoiaklaa
open Go.RowKit

theorem told_fl {a b c : Int} (h : okB a b c = true) (h1 : 1 ≤ c) (h2 : smallB (a * b / c) = true) : floorP a b c = (a * b / c, true) := by
  rw [floorP_yes h h1]; exact told_t h2
theorem told_ce {a b c : Int} (h : okB a b c = true) (h1 : 1 ≤ c) (h2 : smallB (-(-(a * b) / c)) = true) : ceilP a b c = (-(-(a * b) / c), true) := by
  rw [ceilP_yes h h1]; exact told_t h2

end Go.Proofs.Ytnphbdhcoiaklaa
namespace Go.Proofs.Ytnphbdhcoiaklaa
open Go

section
variable {P : Program} {ops : Array Oper} {Q : Exit → Act → World → Prop}

/-- What is asked of operation i: from any state in which it may come up. -/
def InvStep (P : Program) (ops : Array Oper) (Q : Exit → Act → World → Prop) (I : Array Bool → Act → World → Prop) (i : Nat) : Prop :=
  ∀ l a w, i ∈ Region.ready .any ops l → I l a w → wpOp P ops Q i (I (l.setIfInBounds i true)) a w

theorem unlisted_set {l : Array Bool} {i : Nat} (h : l.getD i true = false) : (l.setIfInBounds i true).toList.count false + 1 = l.toList.count false := by
  have hi : i < l.size := by
    rcases Nat.lt_or_ge i l.size with h1 | h1
    · exact h1
    · rw [Array.getD_eq_getD_getElem?, Array.getElem?_eq_none h1] at h; cases h
  have hv : l[i] = false := by
    rw [Array.getD_eq_getD_getElem?, Array.getElem?_eq_getElem hi] at h; exact h
  rw [Array.toList_setIfInBounds]
  have hv' : l.toList[i]'(by simpa using hi) = false := by simpa using hv
  rw [List.count_set (by simpa using hi)]
  have hp : 0 < l.toList.count false := List.count_pos_iff.2 (by rw [← hv']; exact List.getElem_mem _)
  rw [hv']
  show l.toList.count false - 1 + 0 + 1 = _
  omega

theorem wpAny_inv (I : Array Bool → Act → World → Prop) (hstep : ∀ i, InvStep P ops Q I i)
    (hend : ∀ l a w, I l a w → Region.ready .any ops l = [] → Q .normal a w) :
    ∀ fuel l a w, I l a w → l.toList.count false ≤ fuel → wpAny P .any ops Q fuel l a w := by
  intro fuel
  induction fuel with
  | zero =>
    intro l a w hI hc
    have hr : Region.ready .any ops l = [] := by
      unfold Region.ready
      rw [List.filter_eq_nil_iff]
      intro i _ hi
      rw [Bool.and_eq_true] at hi
      have h1 : l.getD i true = false := by simpa using hi.1
      have := unlisted_set h1
      omega
    exact ⟨hr, hend l a w hI hr⟩
  | succ fuel ih =>
    intro l a w hI hc
    refine ⟨fun hr => hend l a w hI hr, fun i hi => ?_⟩
    have h1 : l.getD i true = false := by
      have := (List.mem_filter.1 hi).2
      rw [Bool.and_eq_true] at this
      simpa using this.1
    have h2 := unlisted_set h1
    exact wpOp_mono (fun a w h => ih _ a w h (by omega)) (hstep i l a w hi hI)

theorem wp_region_inv {id : Nat} {a : Act} {w : World} (hm : P.follows .mixedOrders = true) (I : Array Bool → Act → World → Prop)
    (h0 : I (Array.replicate ops.size false) a w.drew) (hstep : ∀ i, i < ops.size → InvStep P ops Q I i)
    (hend : ∀ l a w, I l a w → Region.ready .any ops l = [] → Q .normal a w) : (Code.region id ops true).wp P Q a w := by
  refine wp_region_any hm (wpAny_inv I (fun i l a w hi hI => ?_) hend ops.size _ a _ h0 (by simp))
  have : i < ops.size := List.mem_range.1 (List.mem_filter.1 hi).1
  exact hstep i this l a w hi hI
theorem ready_dep {l : Array Bool} {i : Nat} {o : Oper} (hr : i ∈ Region.ready .any ops l) (ho : ops[i]? = some o) :
    l.getD i true = false ∧ ∀ e ∈ o.after, Region.binds .any e = true → l.getD e.on false = true := by
  have h := (List.mem_filter.1 hr).2
  rw [ho, Bool.and_eq_true] at h
  refine ⟨by simpa using h.1, fun e he hb => ?_⟩
  have h2 := h.2
  simp only [Option.map_some, Option.getD_some] at h2
  have h3 := Array.all_eq_true_iff_forall_mem.1 h2 e he
  rw [hb] at h3
  simpa using h3
theorem getD_set (l : Array Bool) {i j : Nat} (hij : i ≠ j) : (l.setIfInBounds i true).getD j false = l.getD j false := by
  rw [Array.getD_eq_getD_getElem?, Array.getD_eq_getD_getElem?, Array.getElem?_setIfInBounds_ne hij]
theorem getD_own {l : Array Bool} {i : Nat} (hi : i < l.size) : (l.setIfInBounds i true).getD i false = true := by
  rw [Array.getD_eq_getD_getElem?, Array.getElem?_setIfInBounds_self_of_lt hi]; rfl
theorem getD_both {l : Array Bool} {i : Nat} (h : l.getD i false = true) : l.getD i true = true := by
  rw [Array.getD_eq_getD_getElem?] at h ⊢
  cases hv : l[i]? with
  | none => rfl
  | some b => rw [hv] at h; exact h
end
end Go.Proofs.Ytnphbdhcoiaklaa
namespace Go.Proofs.Ytnphbdhcoiaklaa
open Go

theorem ready_allb {ops : Array Oper} {l : Array Bool} (hac : ∀ (i : Fin ops.size), ∀ e ∈ ops[i].after, Region.binds .any e = true → e.on < i.val) (hl : l.size = ops.size) (hr : Region.ready .any ops l = []) :
    ∀ i, i < ops.size → l.getD i false = true := by
  intro i
  induction i using Nat.strongRecOn with
  | _ i ih =>
    intro hi
    cases hv : l.getD i true with
    | true =>
      rw [Array.getD_eq_getD_getElem?, Array.getElem?_eq_getElem (by omega)] at hv ⊢
      exact hv
    | false =>
      exfalso
      have hm : i ∈ Region.ready .any ops l := by
        refine List.mem_filter.2 ⟨List.mem_range.2 hi, ?_⟩
        rw [hv, Array.getElem?_eq_getElem hi]
        simp only [Bool.not_false, Bool.true_and, Option.map_some, Option.getD_some]
        rw [Array.all_eq_true_iff_forall_mem]
        intro e he
        cases hb : Region.binds .any e with
        | false => simp
        | true =>
          have h1 := hac ⟨i, hi⟩ e he hb
          have h2 := ih e.on h1 (by dsimp only at h1; omega)
          rw [h2]; simp
      rw [hr] at hm
      cases hm
theorem rdd {l : Array Bool} {ops : Array Oper} {i : Nat} {o : Oper} (hr : i ∈ Region.ready .any ops l) (d : Nat) (ho : ops[i]? = some o := by rfl) (hm : (⟨d, .data⟩ : Edge) ∈ o.after := by simp) : l.getD d false = true := (ready_dep hr ho).2 _ hm rfl
theorem gq {ls : Array Bool} (i j : Nat) (h : i ≠ j := by decide) : (ls.setIfInBounds i true).getD j false = ls.getD j false := getD_set ls h
end Go.Proofs.Ytnphbdhcoiaklaa
namespace Go.Proofs.Ytnphbdhcoiaklaa
open Go.RowKit

theorem CellF.at_ {a : World} {c : Array Value} {t : TypeId} {n i : Nat} {v : Value} (hn : n = a.heap.size) (hv : c[i]? = some v) : CellF (a.alloc (.cells c t)) ⟨n, i, none⟩ v := by
  subst hn
  refine ⟨?_, ?_⟩
  · rw [World.cell?_alloc_new]; exact hv
  · go_simp
/-- A span in a block. -/
def SpanAt (w : World) (b : Nat) (lo hi : Int) (k : Bool) : Prop := CellF w ⟨b, 0, none⟩ (.int .i64 lo) ∧ CellF w ⟨b, 1, none⟩ (.int .i64 hi) ∧ CellF w ⟨b, 2, none⟩ (.bool k)

theorem SpanAt.keep {a b : World} {n : Nat} {x y : Int} {z : Bool} (hb : Below a.heap.size a b) (h : SpanAt a n x y z) : SpanAt b n x y z := ⟨CellF.keep hb h.1, CellF.keep hb h.2.1, CellF.keep hb h.2.2⟩
theorem SpanAt.lt {a : World} {n : Nat} {x y : Int} {z : Bool} (h : SpanAt a n x y z) : n < a.heap.size := ltc h.1.1
theorem SpanAt.new {a : World} {n : Nat} {x y : Int} {z : Bool} {t : TypeId} (hn : n = a.heap.size) : SpanAt (a.alloc (.cells #[.int .i64 x, .int .i64 y, .bool z] t)) n x y z := ⟨CellF.at_ hn rfl, CellF.at_ hn rfl, CellF.at_ hn rfl⟩
theorem CellF.set_same' {a : World} {p : Addr} {u : Value} (v : Value) (h : CellF a p u) : CellF (a.setCell p v) p v :=
  ⟨World.cell?_setCell_same _ _ _ h.1, by rw [World.frozen?_setCell]; exact h.2⟩
theorem CellF.set_other' {a : World} {p q : Addr} {u : Value} (v : Value) (hne : p ≠ q) (h : CellF a q u) : CellF (a.setCell p v) q u :=
  ⟨(World.cell?_setCell_other _ _ _ _ hne).trans h.1, by rw [World.frozen?_setCell]; exact h.2⟩
theorem span_sets {a : World} {b : Nat} {x y x0 y0 : Int} {z z0 : Bool} (h : SpanAt a b x0 y0 z0) :
    SpanAt (((a.setCell ⟨b, 0, none⟩ (.int .i64 x)).setCell ⟨b, 1, none⟩ (.int .i64 y)).setCell ⟨b, 2, none⟩ (.bool z)) b x y z ∧
    (∀ c x1 y1 z1, c ≠ b → SpanAt a c x1 y1 z1 → SpanAt (((a.setCell ⟨b, 0, none⟩ (.int .i64 x)).setCell ⟨b, 1, none⟩ (.int .i64 y)).setCell ⟨b, 2, none⟩ (.bool z)) c x1 y1 z1) ∧
    (∀ B, B ≤ b → Below B a (((a.setCell ⟨b, 0, none⟩ (.int .i64 x)).setCell ⟨b, 1, none⟩ (.int .i64 y)).setCell ⟨b, 2, none⟩ (.bool z))) := by
  have n4 : ∀ i j : Nat, i ≠ j → (⟨b, i, none⟩ : Addr) ≠ ⟨b, j, none⟩ := fun _ _ hij h => hij (by injection h)
  refine ⟨⟨?_, ?_, ?_⟩, fun c x1 y1 z1 hc hh => ?_, fun B hB => ?_⟩
  · exact ((h.1.set_same' _).set_other' _ (n4 1 0 (by decide))).set_other' _ (n4 2 0 (by decide))
  · exact ((h.2.1.set_other' _ (n4 0 1 (by decide))).set_same' _).set_other' _ (n4 2 1 (by decide))
  · exact ((h.2.2.set_other' _ (n4 0 2 (by decide))).set_other' _ (n4 1 2 (by decide))).set_same' _
  · have n1 : ∀ i j, (⟨b, i, none⟩ : Addr) ≠ ⟨c, j, none⟩ := fun _ _ h => hc (by injection h with h; exact h.symm)
    exact ⟨((hh.1.set_other' _ (n1 0 0)).set_other' _ (n1 1 0)).set_other' _ (n1 2 0), ((hh.2.1.set_other' _ (n1 0 1)).set_other' _ (n1 1 1)).set_other' _ (n1 2 1), ((hh.2.2.set_other' _ (n1 0 2)).set_other' _ (n1 1 2)).set_other' _ (n1 2 2)⟩
  · exact (((Below.refl B a).setCell hB _).setCell hB _).setCell hB _

/-- Two blocks, one on the other. -/
theorem two_blocks (w u : World) (c1 c2 : Array Value) (T1 T2 : TypeId) (hu : u = (w.alloc (.cells c1 T1)).alloc (.cells c2 T2)) :
    Below w.heap.size w u ∧ u.heap.size = w.heap.size + 1 + 1 ∧ (∀ i v, c1[i]? = some v → CellF u ⟨w.heap.size, i, none⟩ v) ∧ (∀ i v, c2[i]? = some v → CellF u ⟨w.heap.size + 1, i, none⟩ v) := by
  subst hu
  refine ⟨balloc (balloc (brefl _) _) _, by simp, fun i v h => ?_, fun i v h => ?_⟩
  · exact CellF.past _ (CellF.at_ rfl h)
  · exact CellF.at_ (by simp) h

end Go.Proofs.Ytnphbdhcoiaklaa
