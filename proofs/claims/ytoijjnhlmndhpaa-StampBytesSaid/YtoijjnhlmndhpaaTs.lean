/-
  The document's stamps: Right, Less, Of, Nanos.
-/
import Derived.Test.YtoijjnhlmndhpaaTb
namespace Go.Proofs.Ytoijjnhlmndhpaa
open Go.RowKit

theorem r2Right_is (s n : Int) (p : Bool) (H : Hid (stRight s n = p)) (w : World) : Calls Try.prog 17 #[.agg #[.int .i64 s, .int .i64 n]] w fun e w' => e = .returned (.bool p) ∧ Below w.heap.size w w' := by
  have hx := H.out
  unfold stRight at hx
  clear H
  by_cases h1 : 0 ≤ s
  · by_cases h2 : s < 281474976710656
    · by_cases h3 : 0 ≤ n
      · by_cases h4 : n < 1000000000
        · obtain rfl : true = p := by simpa [h1, h2, h3, h4] using hx
          clear hx
          go_enter Try.func17, Try.ntmps17
          go_wp2
          go_ret
          exact ⟨by first | rfl | (simp; done) | (simp; omega), (by repeat (first | with_reducible assumption | with_reducible exact brefl _ | with_reducible refine balloc ?_ _ | with_reducible refine bdrewN ?_ _ | with_reducible refine bset ?_ ?_ _ | (dsimp only; omega) | refine bstep ?_ (by assumption)))⟩
        · obtain rfl : false = p := by simpa [h1, h2, h3, h4] using hx
          clear hx
          go_enter Try.func17, Try.ntmps17
          go_wp2
          go_ret
          exact ⟨by first | rfl | (simp; done) | (simp; omega), (by repeat (first | with_reducible assumption | with_reducible exact brefl _ | with_reducible refine balloc ?_ _ | with_reducible refine bdrewN ?_ _ | with_reducible refine bset ?_ ?_ _ | (dsimp only; omega) | refine bstep ?_ (by assumption)))⟩
      · obtain rfl : false = p := by simpa [h1, h2, h3] using hx
        clear hx
        go_enter Try.func17, Try.ntmps17
        go_wp2
        go_ret
        exact ⟨by first | rfl | (simp; done) | (simp; omega), (by repeat (first | with_reducible assumption | with_reducible exact brefl _ | with_reducible refine balloc ?_ _ | with_reducible refine bdrewN ?_ _ | with_reducible refine bset ?_ ?_ _ | (dsimp only; omega) | refine bstep ?_ (by assumption)))⟩
    · obtain rfl : false = p := by simpa [h1, h2] using hx
      clear hx
      go_enter Try.func17, Try.ntmps17
      go_wp2
      go_ret
      exact ⟨by first | rfl | (simp; done) | (simp; omega), (by repeat (first | with_reducible assumption | with_reducible exact brefl _ | with_reducible refine balloc ?_ _ | with_reducible refine bdrewN ?_ _ | with_reducible refine bset ?_ ?_ _ | (dsimp only; omega) | refine bstep ?_ (by assumption)))⟩
  · obtain rfl : false = p := by simpa [h1] using hx
    clear hx
    go_enter Try.func17, Try.ntmps17
    go_wp2
    go_ret
    exact ⟨by first | rfl | (simp; done) | (simp; omega), (by repeat (first | with_reducible assumption | with_reducible exact brefl _ | with_reducible refine balloc ?_ _ | with_reducible refine bdrewN ?_ _ | with_reducible refine bset ?_ ?_ _ | (dsimp only; omega) | refine bstep ?_ (by assumption)))⟩

theorem r2Less_is (s n s2 n2 : Int) (p : Bool) (H : Hid (stLess s n s2 n2 = p)) (w : World) : Calls Try.prog 19 #[.agg #[.int .i64 s, .int .i64 n], .agg #[.int .i64 s2, .int .i64 n2]] w fun e w' => e = .returned (.bool p) ∧ Below w.heap.size w w' := by
  have hx := H.out
  unfold stLess at hx
  clear H
  by_cases h1 : s = s2
  · subst h1
    by_cases h2 : n < n2
    · obtain rfl : true = p := by rw [← hx]; first | (simp; done) | (simp; omega)
      clear hx
      go_enter Try.func19, Try.ntmps19
      go_wp2
      go_ret
      exact ⟨by first | rfl | (simp; done) | (simp; omega), (by repeat (first | with_reducible assumption | with_reducible exact brefl _ | with_reducible refine balloc ?_ _ | with_reducible refine bdrewN ?_ _ | with_reducible refine bset ?_ ?_ _ | (dsimp only; omega) | refine bstep ?_ (by assumption)))⟩
    · obtain rfl : false = p := by rw [← hx]; first | (simp; done) | (simp; omega)
      clear hx
      go_enter Try.func19, Try.ntmps19
      go_wp2
      go_ret
      exact ⟨by first | rfl | (simp; done) | (simp; omega), (by repeat (first | with_reducible assumption | with_reducible exact brefl _ | with_reducible refine balloc ?_ _ | with_reducible refine bdrewN ?_ _ | with_reducible refine bset ?_ ?_ _ | (dsimp only; omega) | refine bstep ?_ (by assumption)))⟩
  · by_cases h2 : s < s2
    · obtain rfl : true = p := by rw [← hx]; first | (simp; done) | (simp; omega)
      clear hx
      go_enter Try.func19, Try.ntmps19
      go_wp2
      go_ret
      exact ⟨by first | rfl | (simp; done) | (simp; omega), (by repeat (first | with_reducible assumption | with_reducible exact brefl _ | with_reducible refine balloc ?_ _ | with_reducible refine bdrewN ?_ _ | with_reducible refine bset ?_ ?_ _ | (dsimp only; omega) | refine bstep ?_ (by assumption)))⟩
    · obtain rfl : false = p := by rw [← hx]; first | (simp; done) | (simp; omega)
      clear hx
      go_enter Try.func19, Try.ntmps19
      go_wp2
      go_ret
      exact ⟨by first | rfl | (simp; done) | (simp; omega), (by repeat (first | with_reducible assumption | with_reducible exact brefl _ | with_reducible refine balloc ?_ _ | with_reducible refine bdrewN ?_ _ | with_reducible refine bset ?_ ?_ _ | (dsimp only; omega) | refine bstep ?_ (by assumption)))⟩

theorem r2Of_is (n x y : Int) (p : Bool) (hn : I64 n) (H : Hid (stOf n = (x, y, p))) (w : World) : Calls Try.prog 13 #[.int .i64 n] w fun e w' => e = .returned (.tuple #[.agg #[.int .i64 x, .int .i64 y], .bool p]) ∧ Below w.heap.size w w' := by
  have hx := H.out
  unfold stOf at hx
  clear H
  unfold I64 at hn
  by_cases h1 : n < 0
  · rw [if_pos (.inl h1)] at hx
    cases hx
    go_enter Try.func13, Try.ntmps13
    go_wp2
    exact bodyPost_ret (v := .tuple #[.agg #[.int .i64 0, .int .i64 0], .bool false]) (by simp [results, Try.results13, go_sem]) rfl ⟨rfl, (by repeat (first | with_reducible assumption | with_reducible exact brefl _ | with_reducible refine balloc ?_ _ | with_reducible refine bdrewN ?_ _ | with_reducible refine bset ?_ ?_ _ | (dsimp only; omega) | refine bstep ?_ (by assumption)))⟩
  by_cases h2 : 4611686018427387904 < n
  · rw [if_pos (.inr (smallB_high h2))] at hx
    cases hx
    go_enter Try.func13, Try.ntmps13
    go_wp2
    exact bodyPost_ret (v := .tuple #[.agg #[.int .i64 0, .int .i64 0], .bool false]) (by simp [results, Try.results13, go_sem]) rfl ⟨rfl, (by repeat (first | with_reducible assumption | with_reducible exact brefl _ | with_reducible refine balloc ?_ _ | with_reducible refine bdrewN ?_ _ | with_reducible refine bset ?_ ?_ _ | (dsimp only; omega) | refine bstep ?_ (by assumption)))⟩
  rw [if_neg (by rw [smallB_true (n := n) (by omega) (by omega)]; simp; omega)] at hx
  have hm : n % 1000000000 = n - n / 1000000000 * 1000000000 := by omega
  rw [hm] at hx
  cases hx
  clear hm
  go_enter Try.func13, Try.ntmps13
  go_wp2
  exact bodyPost_ret (v := .tuple #[.agg #[.int .i64 (n / 1000000000), .int .i64 (n - n / 1000000000 * 1000000000)], .bool true]) (by simp [results, Try.results13, go_sem]) rfl ⟨rfl, (by repeat (first | with_reducible assumption | with_reducible exact brefl _ | with_reducible refine balloc ?_ _ | with_reducible refine bdrewN ?_ _ | with_reducible refine bset ?_ ?_ _ | (dsimp only; omega) | refine bstep ?_ (by assumption)))⟩

theorem r2_nanos (s n : Int) : (if stRight s n = true ∧ s ≤ 4611686018 ∧ ¬ (s = 4611686018 ∧ 427387904 < n) then (s * 1000000000 + n, true) else (0, false)) = stNanos s n := by
  cases hr : stRight s n with
  | false => unfold stNanos; rw [hr, if_neg (by simp), if_neg (by simp)]
  | true =>
    have hq := hr
    unfold stRight at hq
    simp at hq
    obtain ⟨⟨⟨h1, h2⟩, h3⟩, h4⟩ := hq
    have hs : smallB s = true := smallB_true (by omega) (by omega)
    have hn : smallB n = true := smallB_true (by omega) (by omega)
    have hb : smallB 1000000000 = true := by decide +kernel
    unfold stNanos
    rw [hr]
    by_cases h5 : 4611686018 < s
    · have hm : mulP s 1000000000 = (0, false) := by unfold mulP; rw [hs, hb, if_pos (by rfl)]; exact told_f (smallB_high (by omega))
      rw [if_neg (by rintro ⟨_, h, _⟩; omega), hm, if_neg (by simp)]
    · have hm : mulP s 1000000000 = (s * 1000000000, true) := by unfold mulP; rw [hs, hb, if_pos (by rfl)]; exact told_t (smallB_true (by omega) (by omega))
      have hsm : smallB (s * 1000000000) = true := smallB_true (by omega) (by omega)
      rw [hm, if_pos (show true = true ∧ true = true from ⟨rfl, rfl⟩)]
      have ha : addP (s * 1000000000) n = toldP (s * 1000000000 + n) := by unfold addP; rw [hsm, hn]; rfl
      dsimp only
      rw [ha]
      by_cases h6 : s = 4611686018 ∧ 427387904 < n
      · rw [if_neg (by rintro ⟨_, _, h⟩; exact h h6)]; exact (told_f (smallB_high (by omega))).symm
      · rw [if_pos ⟨rfl, by omega, h6⟩]; exact (told_t (smallB_true (by omega) (by omega))).symm
theorem r2Nanos_is (s n x : Int) (p : Bool) (H : Hid (stNanos s n = (x, p))) (w : World) : Calls Try.prog 15 #[.agg #[.int .i64 s, .int .i64 n]] w fun e w' => e = .returned (.tuple #[.int .i64 x, .bool p]) ∧ Below w.heap.size w w' := by
  have hx := H.out
  rw [← r2_nanos] at hx
  obtain ⟨q, hq⟩ : ∃ q, stRight s n = q := ⟨_, rfl⟩
  have hbd : q = true → (0 ≤ s ∧ s < 281474976710656) ∧ 0 ≤ n ∧ n < 1000000000 := by intro h; rw [h] at hq; unfold stRight at hq; simp at hq; omega
  rw [hq] at hx
  have HQ := Lib.hid hq
  have HXX := Lib.hid hx
  clear H hq hx
  go_enter Try.func15, Try.ntmps15
  go_wp2_with fail
  refine (r2Right_is _ _ _ HQ _).mono ?_
  rintro e w1 ⟨rfl, hb1⟩
  have q1_1_0 : CellF w1 ⟨w.heap.size, 0, none⟩ (.int .i64 s) := (by refine CellF.keep hb1 ?_; (first | ((repeat (first | ((with_reducible refine CellF.at_ ?_ ?_); (first | (simp; done) | rfl); rfl) | with_reducible refine CellF.past _ ?_ | with_reducible refine CellF.drew ?_ | with_reducible refine CellF.drewN _ ?_)); done) | (refine ⟨?_, ?_⟩ <;> go_simp)))
  have c1_1_0 := q1_1_0.1
  have q1_1_1 : CellF w1 ⟨w.heap.size, 1, none⟩ (.int .i64 n) := (by refine CellF.keep hb1 ?_; (first | ((repeat (first | ((with_reducible refine CellF.at_ ?_ ?_); (first | (simp; done) | rfl); rfl) | with_reducible refine CellF.past _ ?_ | with_reducible refine CellF.drew ?_ | with_reducible refine CellF.drewN _ ?_)); done) | (refine ⟨?_, ?_⟩ <;> go_simp)))
  have c1_1_1 := q1_1_1.1
  have z1_1 : w.heap.size < w1.heap.size := ltc c1_1_0
  cases q with
  | false =>
    have hx := HXX.out
    rw [if_neg (by simp)] at hx
    cases hx
    go_wp2
    go_ret2
    exact ⟨rfl, (by repeat (first | with_reducible assumption | with_reducible exact brefl _ | with_reducible refine balloc ?_ _ | with_reducible refine bdrewN ?_ _ | with_reducible refine bset ?_ ?_ _ | (dsimp only; omega) | refine bstep ?_ (by assumption)))⟩
  | true =>
    have hb := hbd rfl
    clear hbd
    obtain ⟨⟨b1, b2⟩, b3, b4⟩ := hb
    by_cases h5 : 4611686018 < s
    ·
      have hx := HXX.out
      rw [if_neg (show ¬ (true = true ∧ s ≤ 4611686018 ∧ ¬ (s = 4611686018 ∧ 427387904 < n)) from fun h => by have := h.2.1; omega)] at hx
      cases hx
      go_wp2
      go_ret2
      exact ⟨rfl, (by repeat (first | with_reducible assumption | with_reducible exact brefl _ | with_reducible refine balloc ?_ _ | with_reducible refine bdrewN ?_ _ | with_reducible refine bset ?_ ?_ _ | (dsimp only; omega) | refine bstep ?_ (by assumption)))⟩
    by_cases h6 : s = 4611686018
    ·
      by_cases h7 : 427387904 < n
      ·
        have hx := HXX.out
        rw [if_neg (show ¬ (true = true ∧ s ≤ 4611686018 ∧ ¬ (s = 4611686018 ∧ 427387904 < n)) from fun h => h.2.2 ⟨h6, h7⟩)] at hx
        cases hx
        go_wp2
        go_ret2
        exact ⟨rfl, (by repeat (first | with_reducible assumption | with_reducible exact brefl _ | with_reducible refine balloc ?_ _ | with_reducible refine bdrewN ?_ _ | with_reducible refine bset ?_ ?_ _ | (dsimp only; omega) | refine bstep ?_ (by assumption)))⟩
      ·
        have hx := HXX.out
        rw [if_pos (show true = true ∧ s ≤ 4611686018 ∧ ¬ (s = 4611686018 ∧ 427387904 < n) from ⟨rfl, by omega, fun h => h7 h.2⟩)] at hx
        cases hx
        go_wp2
        go_ret2
        exact ⟨by first | rfl | (simp [h6]; done), (by repeat (first | with_reducible assumption | with_reducible exact brefl _ | with_reducible refine balloc ?_ _ | with_reducible refine bdrewN ?_ _ | with_reducible refine bset ?_ ?_ _ | (dsimp only; omega) | refine bstep ?_ (by assumption)))⟩
    ·
      have hx := HXX.out
      rw [if_pos (show true = true ∧ s ≤ 4611686018 ∧ ¬ (s = 4611686018 ∧ 427387904 < n) from ⟨rfl, by omega, fun h => h6 h.1⟩)] at hx
      cases hx
      go_wp2
      go_ret2
      exact ⟨rfl, (by repeat (first | with_reducible assumption | with_reducible exact brefl _ | with_reducible refine balloc ?_ _ | with_reducible refine bdrewN ?_ _ | with_reducible refine bset ?_ ?_ _ | (dsimp only; omega) | refine bstep ?_ (by assumption)))⟩
end Go.Proofs.Ytoijjnhlmndhpaa
