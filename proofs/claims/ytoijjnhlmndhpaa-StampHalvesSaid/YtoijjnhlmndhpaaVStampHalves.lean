/-
  The walk of the law StampHalves.
-/
import Derived.Test.YtoijjnhlmndhpaaAlStamp
namespace Go.Proofs.Ytoijjnhlmndhpaa
open Go.RowKit

theorem halves (n : Int) : (stUp n = stDown n ∧ n % 65536 = 0) ∨ (stUp n = stDown n + 1 ∧ n % 65536 ≠ 0) := by
  unfold stUp stDown
  by_cases h : n % 65536 = 0
  · exact .inl ⟨if_pos h, h⟩
  · exact .inr ⟨if_neg h, h⟩

theorem halves_s (n lo s : Int) (hl : stDown n = lo) (h : stScaled lo = (s, true)) : s = lo * 65536 ∧ s ≤ n ∧ n - s < 65536 ∧ -9223372036854775808 ≤ s ∧ s ≤ 9223372036854775807 ∧ stDown s = lo ∧ stUp s = lo := by
  subst hl
  unfold stScaled at h
  split at h
  · cases h
  · cases h
    unfold stDown at *
    unfold stUp
    rw [if_pos (by omega)]
    omega

theorem tmod_zero (n : Int) : (n.tmod 65536 == 0) = (n % 65536 == 0) := by
  apply Bool.eq_iff_iff.2
  simp only [beq_iff_eq]
  exact ⟨fun h => Int.emod_eq_zero_of_dvd (Int.dvd_of_tmod_eq_zero h), fun h => Int.tmod_eq_zero_of_dvd (Int.dvd_of_emod_eq_zero h)⟩

theorem StampHalves_walk (n : Int) (w : World) (hn : I64 n) : Calls Try.prog 8 #[.int .i64 n] w fun e w' => e = .returned (.bool true) ∧ Below w.heap.size w w' := by
  obtain ⟨lo, hlo⟩ : ∃ x, stDown n = x := ⟨_, rfl⟩
  obtain ⟨hi, hhi⟩ : ∃ x, stUp n = x := ⟨_, rfl⟩
  obtain ⟨s, p, hs⟩ : ∃ s p, stScaled lo = (s, p) := ⟨_, _, rfl⟩
  have H1 := Lib.hid hlo
  have H2 := Lib.hid hhi
  have H3 := Lib.hid hs
  have hh := halves n
  have hl : -140737488355328 ≤ lo ∧ lo ≤ 140737488355327 := by obtain ⟨a, b⟩ := hn; subst hlo; unfold stDown; omega
  have ht := tmod_zero n
  rw [hlo, hhi] at hh
  rcases hh with ⟨h, hz⟩ | ⟨h, hz⟩ <;> subst h
  · have e1 : (n.tmod 65536 == 0) = true := by rw [ht, hz]; rfl
    cases p with
    | false =>
      clear hlo hhi hs ht hz
      go_enter Try.func8, Try.ntmps8
      go_wp2_with fail
      refine (Down_is _ _ hn H1 _).mono ?_
      rintro e w1 ⟨rfl, hb1⟩
      go_wp2_with fail
      refine (Up_is _ _ hn H2 _).mono ?_
      rintro e w2 ⟨rfl, hb2⟩
      go_wp2_with fail
      refine (Scaled_is _ _ _ H3 _).mono ?_
      rintro e w3 ⟨rfl, hb3⟩
      go_wp2_with fail
      refine (alive_is _).mono ?_
      rintro e w4 ⟨rfl, hb4⟩
      go_wp2
      go_ret
      exact ⟨rfl, (by repeat (first | exact brefl _ | refine balloc ?_ _ | refine bdrewN ?_ _ | refine bset ?_ (by dsimp only; omega) _ | refine bstep ?_ (by assumption)))⟩
    | true =>
      obtain ⟨-, b1, b2, b3, b4, b5, b6⟩ := halves_s n _ s hlo hs
      have H4 := Lib.hid b5
      have H5 := Lib.hid b6
      clear hlo hhi hs ht hz b5 b6
      go_enter Try.func8, Try.ntmps8
      go_wp2_with fail
      refine (Down_is _ _ hn H1 _).mono ?_
      rintro e w1 ⟨rfl, hb1⟩
      go_wp2_with fail
      refine (Up_is _ _ hn H2 _).mono ?_
      rintro e w2 ⟨rfl, hb2⟩
      go_wp2_with fail
      refine (Scaled_is _ _ _ H3 _).mono ?_
      rintro e w3 ⟨rfl, hb3⟩
      go_wp2_with fail
      refine (alive_is _).mono ?_
      rintro e w4 ⟨rfl, hb4⟩
      go_wp2_with fail
      refine (Down_is _ _ ⟨b3, b4⟩ H4 _).mono ?_
      rintro e w5 ⟨rfl, hb5⟩
      go_wp2_with fail
      refine (Up_is _ _ ⟨b3, b4⟩ H5 _).mono ?_
      rintro e w6 ⟨rfl, hb6⟩
      go_wp2
      go_ret
      exact ⟨rfl, (by repeat (first | exact brefl _ | refine balloc ?_ _ | refine bdrewN ?_ _ | refine bset ?_ (by dsimp only; omega) _ | refine bstep ?_ (by assumption)))⟩
  · have e1 : (n.tmod 65536 == 0) = false := by rw [ht]; exact beq_eq_false_iff_ne.2 hz
    have d0 : decide (1 < lo + 1 - lo) = false := decide_eq_false (by omega)
    have d2 : decide (lo + 1 < lo) = false := decide_eq_false (by omega)
    have d3 : (lo + 1 == lo) = false := beq_eq_false_iff_ne.2 (by omega)
    cases p with
    | false =>
      clear hlo hhi hs ht hz
      go_enter Try.func8, Try.ntmps8
      go_wp2_with fail
      refine (Down_is _ _ hn H1 _).mono ?_
      rintro e w1 ⟨rfl, hb1⟩
      go_wp2_with fail
      refine (Up_is _ _ hn H2 _).mono ?_
      rintro e w2 ⟨rfl, hb2⟩
      go_wp2_with fail
      refine (Scaled_is _ _ _ H3 _).mono ?_
      rintro e w3 ⟨rfl, hb3⟩
      go_wp2_with fail
      refine (alive_is _).mono ?_
      rintro e w4 ⟨rfl, hb4⟩
      go_wp2
      go_ret
      exact ⟨rfl, (by repeat (first | exact brefl _ | refine balloc ?_ _ | refine bdrewN ?_ _ | refine bset ?_ (by dsimp only; omega) _ | refine bstep ?_ (by assumption)))⟩
    | true =>
      obtain ⟨-, b1, b2, b3, b4, b5, b6⟩ := halves_s n _ s hlo hs
      have H4 := Lib.hid b5
      have H5 := Lib.hid b6
      clear hlo hhi hs ht hz b5 b6
      go_enter Try.func8, Try.ntmps8
      go_wp2_with fail
      refine (Down_is _ _ hn H1 _).mono ?_
      rintro e w1 ⟨rfl, hb1⟩
      go_wp2_with fail
      refine (Up_is _ _ hn H2 _).mono ?_
      rintro e w2 ⟨rfl, hb2⟩
      go_wp2_with fail
      refine (Scaled_is _ _ _ H3 _).mono ?_
      rintro e w3 ⟨rfl, hb3⟩
      go_wp2_with fail
      refine (alive_is _).mono ?_
      rintro e w4 ⟨rfl, hb4⟩
      go_wp2_with fail
      refine (Down_is _ _ ⟨b3, b4⟩ H4 _).mono ?_
      rintro e w5 ⟨rfl, hb5⟩
      go_wp2_with fail
      refine (Up_is _ _ ⟨b3, b4⟩ H5 _).mono ?_
      rintro e w6 ⟨rfl, hb6⟩
      go_wp2
      go_ret
      exact ⟨rfl, (by repeat (first | exact brefl _ | refine balloc ?_ _ | refine bdrewN ?_ _ | refine bset ?_ (by dsimp only; omega) _ | refine bstep ?_ (by assumption)))⟩
end Go.Proofs.Ytoijjnhlmndhpaa
