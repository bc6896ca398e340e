/-
  The walks of package span's known, Has, Within, Width.
-/
import Derived.Test.YtklnlhphgiipjaaSa
namespace Go.Proofs.Ytklnlhphgiipjaa
open Go.RowKit

/-- What a cell of the call's own holds; it may be written. -/
def CellF (w : World) (p : Addr) (v : Value) : Prop := w.cell? p = some v ∧ w.frozen? p = false
theorem CellF.keep {a b : World} (hb : Below a.heap.size a b) {p : Addr} {v : Value} (h : CellF a p v) : CellF b p v := ⟨keepc hb h.1, keepf hb h.1 h.2⟩
theorem CellF.past {a : World} (o : Obj) {p : Addr} {v : Value} (h : CellF a p v) : CellF (a.alloc o) p v := ⟨allocc o h.1, allocf o h.1 h.2⟩
theorem CellF.drewN {a : World} (n : Nat) {p : Addr} {v : Value} (h : CellF a p v) : CellF (a.drewN n) p v := h

theorem CellF.drew {a : World} {p : Addr} {v : Value} (h : CellF a p v) : CellF a.drew p v := h
/-- 'Small' of two, the world behind it under a name of its own. -/
theorem small2b (x y : Int) (p : Bool) (hp : (smallB x && smallB y) = p) (b : Nat) (w : World) (h0 : w.cell? ⟨b, 0, none⟩ = some (.int .i64 x)) (h1 : w.cell? ⟨b, 1, none⟩ = some (.int .i64 y)) :
    Calls Try.prog 30 #[.slice (some ⟨b, 0, none⟩) 2 2] w fun e w' => e = .returned (.bool p) ∧ Below w.heap.size w w' :=
  (small2 x y p hp b w h0 h1).mono fun _ _ ⟨he, hw⟩ => ⟨he, hw ▸ brefl w⟩

theorem known1 (lo hi : Int) (k p : Bool) (hp : Hid (spK ⟨lo, hi, k⟩ = p)) (b : Nat) (w : World) (c0 : w.cell? ⟨b, 0, none⟩ = some (.int .i64 lo)) (c1 : w.cell? ⟨b, 1, none⟩ = some (.int .i64 hi)) (c2 : w.cell? ⟨b, 2, none⟩ = some (.bool k)) :
    Calls Try.prog 41 #[.slice (some ⟨b, 0, none⟩) 1 1] w fun e w' => e = .returned (.bool p) ∧ Below w.heap.size w w' := by
  cases k with
  | false =>
    obtain rfl : false = p := hp.out
    clear hp
    go_enter Try.func41, Try.ntmps41
    go_wp2_with fail
    refine wp_loop_rounds 1 ?_
    rw [rounds_succ]
    go_wp2
    go_ret
    exact ⟨rfl, (by repeat (first | exact brefl _ | refine balloc ?_ _ | refine bdrewN ?_ _ | refine bset ?_ (by dsimp only; omega) _ | refine bstep ?_ (by assumption)))⟩
  | true =>
    have H : Hid (spRight ⟨lo, hi, true⟩ = p) := hp.out
    clear hp
    cases p with
    | false =>
      go_enter Try.func41, Try.ntmps41
      go_wp2_with fail
      refine wp_loop_rounds 1 ?_
      rw [rounds_succ]
      go_wp2_with fail
      refine (Right_is _ _ _ _ H _).mono ?_
      rintro e w1 ⟨rfl, hb1⟩
      go_wp2
      go_ret
      exact ⟨rfl, (by repeat (first | exact brefl _ | refine balloc ?_ _ | refine bdrewN ?_ _ | refine bset ?_ (by dsimp only; omega) _ | refine bstep ?_ (by assumption)))⟩
    | true =>
      go_enter Try.func41, Try.ntmps41
      go_wp2_with fail
      refine wp_loop_rounds 2 ?_
      rw [rounds_succ]
      go_wp2_with fail
      refine (Right_is _ _ _ _ H _).mono ?_
      rintro e w1 ⟨rfl, hb1⟩
      go_wp2
      rw [rounds_succ]
      go_wp2
      go_ret
      exact ⟨rfl, (by repeat (first | exact brefl _ | refine balloc ?_ _ | refine bdrewN ?_ _ | refine bset ?_ (by dsimp only; omega) _ | refine bstep ?_ (by assumption)))⟩

theorem known2 (lo hi lo2 hi2 : Int) (k k2 p : Bool) (hp : Hid ((spK ⟨lo, hi, k⟩ && spK ⟨lo2, hi2, k2⟩) = p)) (b : Nat) (w : World) (hbs : b < w.heap.size)
    (c0 : w.cell? ⟨b, 0, none⟩ = some (.int .i64 lo)) (c1 : w.cell? ⟨b, 1, none⟩ = some (.int .i64 hi)) (c2 : w.cell? ⟨b, 2, none⟩ = some (.bool k))
    (c3 : w.cell? ⟨b, 3, none⟩ = some (.int .i64 lo2)) (c4 : w.cell? ⟨b, 4, none⟩ = some (.int .i64 hi2)) (c5 : w.cell? ⟨b, 5, none⟩ = some (.bool k2)) :
    Calls Try.prog 41 #[.slice (some ⟨b, 0, none⟩) 2 2] w fun e w' => e = .returned (.bool p) ∧ Below w.heap.size w w' := by
  cases k with
  | false =>
    obtain rfl : false = p := hp.out
    clear hp
    go_enter Try.func41, Try.ntmps41
    go_wp2_with fail
    refine wp_loop_rounds 1 ?_
    rw [rounds_succ]
    go_wp2
    go_ret
    exact ⟨rfl, (by repeat (first | exact brefl _ | refine balloc ?_ _ | refine bdrewN ?_ _ | refine bset ?_ (by dsimp only; omega) _ | refine bstep ?_ (by assumption)))⟩
  | true =>
    obtain ⟨r, hr⟩ : ∃ r, spRight ⟨lo, hi, true⟩ = r := ⟨_, rfl⟩
    cases r with
    | false =>
      obtain rfl : false = p := by rw [← hp.out]; simp [spK, hr]
      have H := Lib.hid hr
      clear hp hr
      go_enter Try.func41, Try.ntmps41
      go_wp2_with fail
      refine wp_loop_rounds 1 ?_
      rw [rounds_succ]
      go_wp2_with fail
      refine (Right_is _ _ _ _ H _).mono ?_
      rintro e w1 ⟨rfl, hb1⟩
      go_wp2
      go_ret
      exact ⟨rfl, (by repeat (first | exact brefl _ | refine balloc ?_ _ | refine bdrewN ?_ _ | refine bset ?_ (by dsimp only; omega) _ | refine bstep ?_ (by assumption)))⟩
    | true =>
      have h2 : spK ⟨lo2, hi2, k2⟩ = p := by rw [← hp.out]; simp [spK, hr]
      have H := Lib.hid hr
      clear hp hr
      have hb2 : b < w.heap.size + 1 := by omega
      cases k2 with
      | false =>
        obtain rfl : false = p := h2
        go_enter Try.func41, Try.ntmps41
        go_wp2_with fail
        refine wp_loop_rounds 2 ?_
        rw [rounds_succ]
        go_wp2_with fail
        refine (Right_is _ _ _ _ H _).mono ?_
        rintro e w1 ⟨rfl, hb1⟩
        have hk1 := (bcell hb1).1
        go_wp2
        rw [rounds_succ]
        go_wp2
        go_ret
        exact ⟨rfl, (by repeat (first | exact brefl _ | refine balloc ?_ _ | refine bdrewN ?_ _ | refine bset ?_ (by dsimp only; omega) _ | refine bstep ?_ (by assumption)))⟩
      | true =>
        have H2 : Hid (spRight ⟨lo2, hi2, true⟩ = p) := h2
        clear h2
        cases p with
        | false =>
          go_enter Try.func41, Try.ntmps41
          go_wp2_with fail
          refine wp_loop_rounds 2 ?_
          rw [rounds_succ]
          go_wp2_with fail
          refine (Right_is _ _ _ _ H _).mono ?_
          rintro e w1 ⟨rfl, hb1⟩
          have hk1 := (bcell hb1).1
          go_wp2
          rw [rounds_succ]
          go_wp2_with fail
          refine (Right_is _ _ _ _ H2 _).mono ?_
          rintro e w2 ⟨rfl, hb2⟩
          go_wp2
          go_ret
          exact ⟨rfl, (by repeat (first | exact brefl _ | refine balloc ?_ _ | refine bdrewN ?_ _ | refine bset ?_ (by dsimp only; omega) _ | refine bstep ?_ (by assumption)))⟩
        | true =>
          go_enter Try.func41, Try.ntmps41
          go_wp2_with fail
          refine wp_loop_rounds 3 ?_
          rw [rounds_succ]
          go_wp2_with fail
          refine (Right_is _ _ _ _ H _).mono ?_
          rintro e w1 ⟨rfl, hb1⟩
          have hk1 := (bcell hb1).1
          go_wp2
          rw [rounds_succ]
          go_wp2_with fail
          refine (Right_is _ _ _ _ H2 _).mono ?_
          rintro e w2 ⟨rfl, hb2⟩
          go_wp2
          rw [rounds_succ]
          go_wp2
          go_ret
          exact ⟨rfl, (by repeat (first | exact brefl _ | refine balloc ?_ _ | refine bdrewN ?_ _ | refine bset ?_ (by dsimp only; omega) _ | refine bstep ?_ (by assumption)))⟩

theorem Has_is (lo hi n : Int) (k p : Bool) (H : Hid (spHas ⟨lo, hi, k⟩ n = p)) (w : World) :
    Calls Try.prog 19 #[.agg #[.int .i64 lo, .int .i64 hi, .bool k], .int .i64 n] w fun e w' => e = .returned (.bool p) ∧ Below w.heap.size w w' := by
  obtain ⟨q, hq⟩ : ∃ q, spK ⟨lo, hi, k⟩ = q := ⟨_, rfl⟩
  have hp : (!q || (decide (lo ≤ n) && decide (n ≤ hi))) = p := by rw [← H.out, ← hq]; rfl
  have HQ := Lib.hid hq
  clear H hq
  cases q with
  | false =>
    obtain rfl : true = p := by simpa using hp
    clear hp
    go_enter Try.func19, Try.ntmps19
    go_wp2_with fail
    refine (known1 _ _ _ _ HQ _ _ (by simp) (by simp) (by simp)).mono ?_
    rintro e w1 ⟨rfl, hb1⟩
    go_wp2
    go_ret
    exact ⟨rfl, (by repeat (first | exact brefl _ | refine balloc ?_ _ | refine bdrewN ?_ _ | refine bset ?_ (by dsimp only; omega) _ | refine bstep ?_ (by assumption)))⟩
  | true =>
    by_cases h1 : lo ≤ n
    · by_cases h2 : n ≤ hi
      · obtain rfl : true = p := by simpa [h1, h2] using hp
        clear hp
        go_enter Try.func19, Try.ntmps19
        go_wp2_with fail
        refine (known1 _ _ _ _ HQ _ _ (by simp) (by simp) (by simp)).mono ?_
        rintro e w1 ⟨rfl, hb1⟩
        have hk1 := (bcell hb1).1
        go_wp2
        go_ret
        exact ⟨rfl, (by repeat (first | exact brefl _ | refine balloc ?_ _ | refine bdrewN ?_ _ | refine bset ?_ (by dsimp only; omega) _ | refine bstep ?_ (by assumption)))⟩
      · obtain rfl : false = p := by simpa [h1, h2] using hp
        clear hp
        have d2 : decide (n ≤ hi) = false := decide_eq_false h2
        go_enter Try.func19, Try.ntmps19
        go_wp2_with fail
        refine (known1 _ _ _ _ HQ _ _ (by simp) (by simp) (by simp)).mono ?_
        rintro e w1 ⟨rfl, hb1⟩
        have hk1 := (bcell hb1).1
        go_wp2
        go_ret
        exact ⟨rfl, (by repeat (first | exact brefl _ | refine balloc ?_ _ | refine bdrewN ?_ _ | refine bset ?_ (by dsimp only; omega) _ | refine bstep ?_ (by assumption)))⟩
    · obtain rfl : false = p := by simpa [h1] using hp
      clear hp
      have d1 : decide (lo ≤ n) = false := decide_eq_false h1
      go_enter Try.func19, Try.ntmps19
      go_wp2_with fail
      refine (known1 _ _ _ _ HQ _ _ (by simp) (by simp) (by simp)).mono ?_
      rintro e w1 ⟨rfl, hb1⟩
      have hk1 := (bcell hb1).1
      go_wp2
      go_ret
      exact ⟨rfl, (by repeat (first | exact brefl _ | refine balloc ?_ _ | refine bdrewN ?_ _ | refine bset ?_ (by dsimp only; omega) _ | refine bstep ?_ (by assumption)))⟩

end Go.Proofs.Ytklnlhphgiipjaa
