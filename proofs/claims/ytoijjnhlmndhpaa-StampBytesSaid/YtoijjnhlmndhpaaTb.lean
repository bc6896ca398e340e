/-
  The walks of package stamp's Right, Less, Of, Nanos.
-/
import Derived.Test.YtoijjnhlmndhpaaTa
import Derived.Test.YtoijjnhlmndhpaaWe
namespace Go.Proofs.Ytoijjnhlmndhpaa
open Go.RowKit

/-- What a cell of the call's own holds; it may be written. -/
def CellF (w : World) (p : Addr) (v : Value) : Prop := w.cell? p = some v ∧ w.frozen? p = false
theorem CellF.keep {a b : World} (hb : Below a.heap.size a b) {p : Addr} {v : Value} (h : CellF a p v) : CellF b p v := ⟨keepc hb h.1, keepf hb h.1 h.2⟩
theorem CellF.past {a : World} (o : Obj) {p : Addr} {v : Value} (h : CellF a p v) : CellF (a.alloc o) p v := ⟨allocc o h.1, allocf o h.1 h.2⟩
theorem CellF.drewN {a : World} (n : Nat) {p : Addr} {v : Value} (h : CellF a p v) : CellF (a.drewN n) p v := h
theorem CellF.drew {a : World} {p : Addr} {v : Value} (h : CellF a p v) : CellF a.drew p v := h

theorem StRight_is (s n : Int) (p : Bool) (H : Hid (stRight s n = p)) (w : World) : Calls Try.prog 16 #[.agg #[.int .i64 s, .int .i64 n]] w fun e w' => e = .returned (.bool p) ∧ Below w.heap.size w w' := by
  have hx := H.out
  unfold stRight at hx
  clear H
  by_cases h1 : 0 ≤ s
  · by_cases h2 : s < 281474976710656
    · by_cases h3 : 0 ≤ n
      · by_cases h4 : n < 1000000000
        · obtain rfl : true = p := by simpa [h1, h2, h3, h4] using hx
          clear hx
          go_enter Try.func16, Try.ntmps16
          go_wp2
          go_ret
          exact ⟨rfl, (by repeat (first | exact brefl _ | refine balloc ?_ _ | refine bdrewN ?_ _ | refine bset ?_ (by dsimp only; omega) _ | refine bstep ?_ (by assumption)))⟩
        · obtain rfl : false = p := by simpa [h1, h2, h3, h4] using hx
          clear hx
          have d4 : decide (n < 1000000000) = false := decide_eq_false h4
          go_enter Try.func16, Try.ntmps16
          go_wp2
          go_ret
          exact ⟨rfl, (by repeat (first | exact brefl _ | refine balloc ?_ _ | refine bdrewN ?_ _ | refine bset ?_ (by dsimp only; omega) _ | refine bstep ?_ (by assumption)))⟩
      · obtain rfl : false = p := by simpa [h1, h2, h3] using hx
        clear hx
        have d3 : decide (0 ≤ n) = false := decide_eq_false h3
        go_enter Try.func16, Try.ntmps16
        go_wp2
        go_ret
        exact ⟨rfl, (by repeat (first | exact brefl _ | refine balloc ?_ _ | refine bdrewN ?_ _ | refine bset ?_ (by dsimp only; omega) _ | refine bstep ?_ (by assumption)))⟩
    · obtain rfl : false = p := by simpa [h1, h2] using hx
      clear hx
      have d2 : decide (s < 281474976710656) = false := decide_eq_false h2
      go_enter Try.func16, Try.ntmps16
      go_wp2
      go_ret
      exact ⟨rfl, (by repeat (first | exact brefl _ | refine balloc ?_ _ | refine bdrewN ?_ _ | refine bset ?_ (by dsimp only; omega) _ | refine bstep ?_ (by assumption)))⟩
  · obtain rfl : false = p := by simpa [h1] using hx
    clear hx
    have d1 : decide (0 ≤ s) = false := decide_eq_false h1
    go_enter Try.func16, Try.ntmps16
    go_wp2
    go_ret
    exact ⟨rfl, (by repeat (first | exact brefl _ | refine balloc ?_ _ | refine bdrewN ?_ _ | refine bset ?_ (by dsimp only; omega) _ | refine bstep ?_ (by assumption)))⟩

theorem Less_is (s n s2 n2 : Int) (p : Bool) (H : Hid (stLess s n s2 n2 = p)) (w : World) : Calls Try.prog 18 #[.agg #[.int .i64 s, .int .i64 n], .agg #[.int .i64 s2, .int .i64 n2]] w fun e w' => e = .returned (.bool p) ∧ Below w.heap.size w w' := by
  have hx := H.out
  unfold stLess at hx
  clear H
  by_cases h1 : s < s2
  · obtain rfl : true = p := by simpa [h1] using hx
    clear hx
    go_enter Try.func18, Try.ntmps18
    go_wp2
    go_ret
    exact ⟨rfl, (by repeat (first | exact brefl _ | refine balloc ?_ _ | refine bdrewN ?_ _ | refine bset ?_ (by dsimp only; omega) _ | refine bstep ?_ (by assumption)))⟩
  · have d1 : decide (s < s2) = false := decide_eq_false h1
    by_cases h2 : s = s2
    · subst h2
      by_cases h3 : n < n2
      · obtain rfl : true = p := by simpa [h3] using hx
        clear hx
        go_enter Try.func18, Try.ntmps18
        go_wp2
        go_ret
        exact ⟨rfl, (by repeat (first | exact brefl _ | refine balloc ?_ _ | refine bdrewN ?_ _ | refine bset ?_ (by dsimp only; omega) _ | refine bstep ?_ (by assumption)))⟩
      · obtain rfl : false = p := by simpa [h3] using hx
        clear hx
        have d3 : decide (n < n2) = false := decide_eq_false h3
        go_enter Try.func18, Try.ntmps18
        go_wp2
        go_ret
        exact ⟨rfl, (by repeat (first | exact brefl _ | refine balloc ?_ _ | refine bdrewN ?_ _ | refine bset ?_ (by dsimp only; omega) _ | refine bstep ?_ (by assumption)))⟩
    · obtain rfl : false = p := by simpa [h1, h2] using hx
      clear hx
      have d2 : (s == s2) = false := beq_eq_false_iff_ne.2 h2
      go_enter Try.func18, Try.ntmps18
      go_wp2
      go_ret
      exact ⟨rfl, (by repeat (first | exact brefl _ | refine balloc ?_ _ | refine bdrewN ?_ _ | refine bset ?_ (by dsimp only; omega) _ | refine bstep ?_ (by assumption)))⟩

theorem StOf_is (n x y : Int) (p : Bool) (hn : I64 n) (H : Hid (stOf n = (x, y, p))) (w : World) : Calls Try.prog 12 #[.int .i64 n] w fun e w' => e = .returned (.tuple #[.agg #[.int .i64 x, .int .i64 y], .bool p]) ∧ Below w.heap.size w w' := by
  have hx := H.out
  unfold stOf at hx
  clear H
  by_cases h1 : n < 0
  · rw [if_pos (.inl h1)] at hx
    cases hx
    go_enter Try.func12, Try.ntmps12
    go_wp2
    exact bodyPost_ret (v := .tuple #[.agg #[.int .i64 0, .int .i64 0], .bool false]) (by simp [results, Try.results12, go_sem]) rfl ⟨rfl, (by repeat (first | exact brefl _ | refine balloc ?_ _ | refine bdrewN ?_ _ | refine bset ?_ (by dsimp only; omega) _ | refine bstep ?_ (by assumption)))⟩
  · cases hs : smallB n with
    | false =>
      rw [if_pos (.inr hs)] at hx
      cases hx
      go_enter Try.func12, Try.ntmps12
      go_wp2_with fail
      refine (small1 n _ hs _ _ (by go_simp)).mono ?_
      rintro e w1 ⟨rfl, rfl⟩
      go_wp2
      exact bodyPost_ret (v := .tuple #[.agg #[.int .i64 0, .int .i64 0], .bool false]) (by simp [results, Try.results12, go_sem]) rfl ⟨rfl, (by repeat (first | exact brefl _ | refine balloc ?_ _ | refine bdrewN ?_ _ | refine bset ?_ (by dsimp only; omega) _ | refine bstep ?_ (by assumption)))⟩
    | true =>
      rw [if_neg (by rw [hs]; simp; omega)] at hx
      cases hx
      obtain ⟨hn1, hn2⟩ := hn
      go_enter Try.func12, Try.ntmps12
      go_wp2_with fail
      refine (small1 n _ hs _ _ (by go_simp)).mono ?_
      rintro e w1 ⟨rfl, rfl⟩
      go_wp2
      exact bodyPost_ret (v := .tuple #[.agg #[.int .i64 (n / 1000000000), .int .i64 (n % 1000000000)], .bool true]) (by simp [results, Try.results12, go_sem]) rfl ⟨rfl, (by repeat (first | exact brefl _ | refine balloc ?_ _ | refine bdrewN ?_ _ | refine bset ?_ (by dsimp only; omega) _ | refine bstep ?_ (by assumption)))⟩

theorem Nanos_is (s n x : Int) (p : Bool) (H : Hid (stNanos s n = (x, p))) (w : World) : Calls Try.prog 14 #[.agg #[.int .i64 s, .int .i64 n]] w fun e w' => e = .returned (.tuple #[.int .i64 x, .bool p]) ∧ Below w.heap.size w w' := by
  obtain ⟨m, q, hm⟩ : ∃ m q, mulP s 1000000000 = (m, q) := ⟨_, _, rfl⟩
  have hx := H.out
  unfold stNanos at hx
  rw [hm] at hx
  have HM := Lib.hid hm
  clear H hm
  cases hr : stRight s n with
  | false =>
    rw [if_neg (by rw [hr]; simp)] at hx
    cases hx
    have HR := Lib.hid hr
    clear hr
    go_enter Try.func14, Try.ntmps14
    go_wp2_with fail
    refine (Mul_is _ _ _ _ HM _).mono ?_
    rintro e w1 ⟨rfl, hb1⟩
    have q1_1_0 : CellF w1 ⟨w.heap.size, 0, none⟩ (.int .i64 s) := (by refine CellF.keep hb1 ?_; refine ⟨?_, ?_⟩ <;> go_simp)
    have c1_1_0 := q1_1_0.1
    have q1_1_1 : CellF w1 ⟨w.heap.size, 1, none⟩ (.int .i64 n) := (by refine CellF.keep hb1 ?_; refine ⟨?_, ?_⟩ <;> go_simp)
    have c1_1_1 := q1_1_1.1
    have z1_1 : w.heap.size < w1.heap.size := ltc c1_1_0
    go_wp2_with fail
    refine (StRight_is _ _ _ HR _).mono ?_
    rintro e w2 ⟨rfl, hb2⟩
    go_wp2
    go_ret2
    exact ⟨rfl, (by repeat (first | exact brefl _ | refine balloc ?_ _ | refine bdrewN ?_ _ | refine bset ?_ (by dsimp only; omega) _ | refine bstep ?_ (by assumption)))⟩
  | true =>
    have HR := Lib.hid hr
    cases q with
    | false =>
      rw [if_neg (by simp)] at hx
      cases hx
      clear hr
      go_enter Try.func14, Try.ntmps14
      go_wp2_with fail
      refine (Mul_is _ _ _ _ HM _).mono ?_
      rintro e w1 ⟨rfl, hb1⟩
      have q1_1_0 : CellF w1 ⟨w.heap.size, 0, none⟩ (.int .i64 s) := (by refine CellF.keep hb1 ?_; refine ⟨?_, ?_⟩ <;> go_simp)
      have c1_1_0 := q1_1_0.1
      have q1_1_1 : CellF w1 ⟨w.heap.size, 1, none⟩ (.int .i64 n) := (by refine CellF.keep hb1 ?_; refine ⟨?_, ?_⟩ <;> go_simp)
      have c1_1_1 := q1_1_1.1
      have z1_1 : w.heap.size < w1.heap.size := ltc c1_1_0
      go_wp2_with fail
      refine (StRight_is _ _ _ HR _).mono ?_
      rintro e w2 ⟨rfl, hb2⟩
      go_wp2
      go_ret2
      exact ⟨rfl, (by repeat (first | exact brefl _ | refine balloc ?_ _ | refine bdrewN ?_ _ | refine bset ?_ (by dsimp only; omega) _ | refine bstep ?_ (by assumption)))⟩
    | true =>
      rw [if_pos ⟨hr, rfl⟩] at hx
      have HA := Lib.hid hx
      clear hr hx
      go_enter Try.func14, Try.ntmps14
      go_wp2_with fail
      refine (Mul_is _ _ _ _ HM _).mono ?_
      rintro e w1 ⟨rfl, hb1⟩
      have q1_1_0 : CellF w1 ⟨w.heap.size, 0, none⟩ (.int .i64 s) := (by refine CellF.keep hb1 ?_; refine ⟨?_, ?_⟩ <;> go_simp)
      have c1_1_0 := q1_1_0.1
      have q1_1_1 : CellF w1 ⟨w.heap.size, 1, none⟩ (.int .i64 n) := (by refine CellF.keep hb1 ?_; refine ⟨?_, ?_⟩ <;> go_simp)
      have c1_1_1 := q1_1_1.1
      have z1_1 : w.heap.size < w1.heap.size := ltc c1_1_0
      go_wp2_with fail
      refine (StRight_is _ _ _ HR _).mono ?_
      rintro e w2 ⟨rfl, hb2⟩
      have q2_2_0 : CellF w2 ⟨w.heap.size, 0, none⟩ (.int .i64 s) := (by first | exact CellF.keep hb2 q1_1_0 | exact CellF.keep hb2 (CellF.past _ q1_1_0) | exact CellF.keep hb2 (CellF.past _ (CellF.past _ q1_1_0)) | exact CellF.keep hb2 (CellF.drewN _ q1_1_0))
      have c2_2_0 := q2_2_0.1
      have q2_2_1 : CellF w2 ⟨w.heap.size, 1, none⟩ (.int .i64 n) := (by first | exact CellF.keep hb2 q1_1_1 | exact CellF.keep hb2 (CellF.past _ q1_1_1) | exact CellF.keep hb2 (CellF.past _ (CellF.past _ q1_1_1)) | exact CellF.keep hb2 (CellF.drewN _ q1_1_1))
      have c2_2_1 := q2_2_1.1
      have z2_2 : w.heap.size < w2.heap.size := ltc c2_2_0
      go_wp2_with fail
      refine (Add_is _ _ _ _ HA _).mono ?_
      rintro e w3 ⟨rfl, hb3⟩
      go_wp2
      go_ret2
      exact ⟨rfl, (by repeat (first | exact brefl _ | refine balloc ?_ _ | refine bdrewN ?_ _ | refine bset ?_ (by dsimp only; omega) _ | refine bstep ?_ (by assumption)))⟩
end Go.Proofs.Ytoijjnhlmndhpaa
