/-
  Plain laws for WideBack, WideNear, WideAway, WideTurns, WideOrder.
-/
import Derived.Test.YtoijjnhlmndhpaaMc
namespace Go.Proofs.Ytoijjnhlmndhpaa
open Go.RowKit

theorem back_yes {a c : Int} (ha : smallB a = true) (hc : smallB c = true) (h : 1 ≤ c) : floorP a c c = (a, true) ∧ ceilP a c c = (a, true) := by
  have hok : okB a c c = true := by unfold okB; simp [ha, hc]
  rw [floorP_yes hok h, ceilP_yes hok h, Int.mul_ediv_cancel _ (by omega), ← Int.neg_mul, Int.mul_ediv_cancel _ (by omega), Int.neg_neg]
  exact ⟨told_t ha, told_t ha⟩
theorem back_no {a c : Int} (hs : (smallB a && smallB c) = false ∨ c < 1) : floorP a c c = (0, false) ∧ ceilP a c c = (0, false) := by
  have : okB a c c = false ∨ c < 1 := by
    rcases hs with h | h
    · left; unfold okB; cases h1 : smallB a <;> simp_all
    · exact .inr h
  exact ⟨floorP_no this, ceilP_no this⟩

theorem floor_true {a b c x : Int} (h : floorP a b c = (x, true)) : okB a b c = true ∧ 1 ≤ c ∧ x = a * b / c := by
  unfold floorP at h
  split at h
  · rename_i hh
    refine ⟨hh.1, hh.2, ?_⟩
    unfold toldP at h
    split at h
    · exact (Prod.mk.inj h).1.symm
    · cases (Prod.mk.inj h).2
  · cases (Prod.mk.inj h).2
theorem ceil_true {a b c x : Int} (h : ceilP a b c = (x, true)) : okB a b c = true ∧ 1 ≤ c ∧ x = -(-(a * b) / c) := by
  unfold ceilP at h
  split at h
  · rename_i hh
    refine ⟨hh.1, hh.2, ?_⟩
    unfold toldP at h
    split at h
    · exact (Prod.mk.inj h).1.symm
    · cases (Prod.mk.inj h).2
  · cases (Prod.mk.inj h).2

theorem near_yes {a b c x y : Int} (hf : floorP a b c = (x, true)) (hc : ceilP a b c = (y, true)) :
    1 ≤ c ∧ ((y = x ∧ (a * b).tmod c = 0) ∨ (y = x + 1 ∧ (a * b).tmod c ≠ 0)) := by
  obtain ⟨_, h1, hx⟩ := floor_true hf
  obtain ⟨_, _, hy⟩ := ceil_true hc
  refine ⟨h1, ?_⟩
  rw [neg_div _ _ h1, ← hx] at hy
  have h0 := Int.emod_nonneg (a * b) (show c ≠ 0 by omega)
  by_cases h : 0 < a * b % c
  · right
    rw [if_pos h] at hy
    refine ⟨by omega, fun e => ?_⟩
    have : c ∣ a * b := Int.dvd_of_tmod_eq_zero e
    have := Int.emod_eq_zero_of_dvd this
    omega
  · left
    rw [if_neg h] at hy
    refine ⟨by omega, ?_⟩
    exact Int.tmod_eq_zero_of_dvd (Int.dvd_of_emod_eq_zero (by omega))

theorem mul_true {a b x : Int} (h : mulP a b = (x, true)) : x = a * b := by
  unfold mulP at h
  split at h
  · unfold toldP at h
    split at h
    · exact (Prod.mk.inj h).1.symm
    · cases (Prod.mk.inj h).2
  · cases (Prod.mk.inj h).2
theorem add_true {a b x : Int} (h : addP a b = (x, true)) : smallB a = true ∧ smallB b = true ∧ x = a + b ∧ smallB x = true := by
  unfold addP at h
  split at h
  · rename_i hs
    unfold toldP at h
    split at h
    · rename_i h2
      have := (Prod.mk.inj h).1
      exact ⟨(Bool.and_eq_true_iff.1 hs).1, (Bool.and_eq_true_iff.1 hs).2, this.symm, by rw [← this]; exact h2⟩
    · cases (Prod.mk.inj h).2
  · cases (Prod.mk.inj h).2
theorem add_false {a b x : Int} (h : addP a b = (x, false)) : x = 0 := by
  unfold addP at h
  split at h
  · unfold toldP at h
    split at h
    · cases (Prod.mk.inj h).2
    · exact (Prod.mk.inj h).1.symm
  · exact (Prod.mk.inj h).1.symm
theorem away {a b x : Int} (h : addP a b = (x, true)) : subP x b = (a, true) ∧ subP x a = (b, true) := by
  obtain ⟨ha, hb, rfl, hx⟩ := add_true h
  constructor
  · unfold subP; rw [if_pos (by simp [hx, hb]), show a + b - b = a from by omega]; exact told_t ha
  · unfold subP; rw [if_pos (by simp [hx, ha]), show a + b - a = b from by omega]; exact told_t hb

theorem add_comm' (a b : Int) : addP b a = addP a b := by
  unfold addP; rw [Bool.and_comm, Int.add_comm]
theorem mul_comm' (a b : Int) : mulP b a = mulP a b := by
  unfold mulP; rw [Bool.and_comm, Int.mul_comm]
theorem sub_turn {a b x : Int} {p : Bool} (h : subP a b = (x, p)) : subP b a = (-x, p) := by
  unfold subP at h ⊢
  rw [Bool.and_comm]
  split at h
  · rw [if_pos (by assumption), show b - a = -(a - b) from by omega]; exact told_neg h
  · rw [if_neg (by assumption)]; obtain ⟨rfl, rfl⟩ := Prod.mk.inj h; rfl

theorem floor_mono {a b k c m n : Int} (hab : a ≤ b) (hk : 0 ≤ k) (h1 : floorP a k c = (m, true)) (h2 : floorP b k c = (n, true)) : m ≤ n := by
  obtain ⟨_, hc, rfl⟩ := floor_true h1
  obtain ⟨_, _, rfl⟩ := floor_true h2
  exact Int.ediv_le_ediv (by omega) (Int.mul_le_mul_of_nonneg_right hab hk)
end Go.Proofs.Ytoijjnhlmndhpaa
