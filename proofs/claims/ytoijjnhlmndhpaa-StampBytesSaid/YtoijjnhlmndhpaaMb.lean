/-
  Plain numbers: what Floor and Ceil are.
-/
import Derived.Test.YtoijjnhlmndhpaaWa
namespace Go.Proofs.Ytoijjnhlmndhpaa
open Go.RowKit

def okB (a b c : Int) : Bool := smallB a && (smallB b && smallB c)
/-- P1.2. -/
def floorP (a b c : Int) : Int × Bool := if okB a b c = true ∧ 1 ≤ c then toldP (a * b / c) else (0, false)
def ceilP (a b c : Int) : Int × Bool := if okB a b c = true ∧ 1 ≤ c then toldP (-(-(a * b) / c)) else (0, false)

theorem floorP_no {a b c : Int} (h : okB a b c = false ∨ c < 1) : floorP a b c = (0, false) := by
  unfold floorP; rw [if_neg]; rintro ⟨h1, h2⟩; rcases h with h | h; (rw [h] at h1; cases h1); omega
theorem ceilP_no {a b c : Int} (h : okB a b c = false ∨ c < 1) : ceilP a b c = (0, false) := by
  unfold ceilP; rw [if_neg]; rintro ⟨h1, h2⟩; rcases h with h | h; (rw [h] at h1; cases h1); omega
theorem floorP_yes {a b c : Int} (h : okB a b c = true) (hc : 1 ≤ c) : floorP a b c = toldP (a * b / c) := by
  unfold floorP; rw [if_pos ⟨h, hc⟩]
theorem ceilP_yes {a b c : Int} (h : okB a b c = true) (hc : 1 ≤ c) : ceilP a b c = toldP (-(-(a * b) / c)) := by
  unfold ceilP; rw [if_pos ⟨h, hc⟩]

theorem abs_mul {a b A B : Int} (ha : smallB a = true) (hb : smallB b = true) (hA : absP a = A) (hB : absP b = B) :
    ((decide (a < 0) != decide (b < 0)) = false → a * b = A * B) ∧ ((decide (a < 0) != decide (b < 0)) = true → a * b = -(A * B)) := by
  unfold absP at hA hB
  rw [if_pos ha] at hA
  rw [if_pos hb] at hB
  subst hA hB
  by_cases h1 : a < 0 <;> by_cases h2 : b < 0 <;> simp [h1, h2, Int.neg_mul, Int.mul_neg]

theorem neg_div (N c : Int) (hc : 1 ≤ c) : -N / c = if 0 < N % c then -(N / c) - 1 else -(N / c) := by
  have h := Int.mul_ediv_add_emod N c
  have h1 := Int.emod_nonneg N (show c ≠ 0 by omega)
  have h2 := Int.emod_lt_of_pos N (show 0 < c by omega)
  generalize hq : N / c = q at *
  generalize hr : N % c = r at *
  split
  · have e : -N = (c - r) + (-q - 1) * c := by
      rw [← h, Int.sub_mul, Int.neg_mul, Int.mul_comm q c]; omega
    rw [e, Int.add_mul_ediv_right _ _ (by omega), Int.ediv_eq_zero_of_lt (by omega) (by omega)]; omega
  · have e : -N = (-q) * c := by
      rw [← h, Int.neg_mul, Int.mul_comm q c]; omega
    rw [e, Int.mul_ediv_cancel _ (by omega)]

/-- The cases of Floor, by what the quotient tells. -/
theorem floor_up {a b c A B q : Int} (h : okB a b c = true) (hc : 1 ≤ c) (hA : absP a = A) (hB : absP b = B) (hq : A * B / c = q) (hb : (decide (a < 0) != decide (b < 0)) = false) : floorP a b c = toldP q := by
  obtain ⟨ha, hbc⟩ := Bool.and_eq_true_iff.1 h
  rw [floorP_yes h hc, (abs_mul ha (Bool.and_eq_true_iff.1 hbc).1 hA hB).1 hb, hq]
theorem floor_more {a b c A B q : Int} (h : okB a b c = true) (hc : 1 ≤ c) (hA : absP a = A) (hB : absP b = B) (hq : A * B / c = q) (hb : (decide (a < 0) != decide (b < 0)) = true) (hm : decide (0 < A * B % c) = true) : floorP a b c = toldP (-q - 1) := by
  obtain ⟨ha, hbc⟩ := Bool.and_eq_true_iff.1 h
  rw [floorP_yes h hc, (abs_mul ha (Bool.and_eq_true_iff.1 hbc).1 hA hB).2 hb, neg_div _ _ hc, if_pos (of_decide_eq_true hm), hq]
theorem floor_even {a b c A B q : Int} (h : okB a b c = true) (hc : 1 ≤ c) (hA : absP a = A) (hB : absP b = B) (hq : A * B / c = q) (hb : (decide (a < 0) != decide (b < 0)) = true) (hm : decide (0 < A * B % c) = false) : floorP a b c = toldP (-q) := by
  obtain ⟨ha, hbc⟩ := Bool.and_eq_true_iff.1 h
  rw [floorP_yes h hc, (abs_mul ha (Bool.and_eq_true_iff.1 hbc).1 hA hB).2 hb, neg_div _ _ hc, if_neg (of_decide_eq_false hm), hq]
theorem ceil_down {a b c A B q : Int} (h : okB a b c = true) (hc : 1 ≤ c) (hA : absP a = A) (hB : absP b = B) (hq : A * B / c = q) (hb : (decide (a < 0) != decide (b < 0)) = true) : ceilP a b c = toldP (-q) := by
  obtain ⟨ha, hbc⟩ := Bool.and_eq_true_iff.1 h
  rw [ceilP_yes h hc, (abs_mul ha (Bool.and_eq_true_iff.1 hbc).1 hA hB).2 hb, Int.neg_neg, hq]
theorem ceil_more {a b c A B q : Int} (h : okB a b c = true) (hc : 1 ≤ c) (hA : absP a = A) (hB : absP b = B) (hq : A * B / c = q) (hb : (decide (a < 0) != decide (b < 0)) = false) (hm : decide (0 < A * B % c) = true) : ceilP a b c = toldP (q + 1) := by
  obtain ⟨ha, hbc⟩ := Bool.and_eq_true_iff.1 h
  rw [ceilP_yes h hc, (abs_mul ha (Bool.and_eq_true_iff.1 hbc).1 hA hB).1 hb, neg_div _ _ hc, if_pos (of_decide_eq_true hm), hq]; congr 1; omega
theorem ceil_even {a b c A B q : Int} (h : okB a b c = true) (hc : 1 ≤ c) (hA : absP a = A) (hB : absP b = B) (hq : A * B / c = q) (hb : (decide (a < 0) != decide (b < 0)) = false) (hm : decide (0 < A * B % c) = false) : ceilP a b c = toldP q := by
  obtain ⟨ha, hbc⟩ := Bool.and_eq_true_iff.1 h
  rw [ceilP_yes h hc, (abs_mul ha (Bool.and_eq_true_iff.1 hbc).1 hA hB).1 hb, neg_div _ _ hc, if_neg (of_decide_eq_false hm), hq]; congr 1; omega

/-- Too great a quotient. -/
theorem floor_big {a b c A B q : Int} (h : okB a b c = true) (hc : 1 ≤ c) (hA : absP a = A) (hB : absP b = B) (hq : A * B / c = q) (hq2 : 4611686018427387904 < q) : floorP a b c = (0, false) := by
  cases hb : (decide (a < 0) != decide (b < 0)) with
  | false => rw [floor_up h hc hA hB hq hb]; exact told_f (smallB_high hq2)
  | true =>
    cases hm : decide (0 < A * B % c) with
    | true => rw [floor_more h hc hA hB hq hb hm]; exact told_f (smallB_low (by omega))
    | false => rw [floor_even h hc hA hB hq hb hm]; exact told_f (smallB_low (by omega))
theorem ceil_big {a b c A B q : Int} (h : okB a b c = true) (hc : 1 ≤ c) (hA : absP a = A) (hB : absP b = B) (hq : A * B / c = q) (hq2 : 4611686018427387904 < q) : ceilP a b c = (0, false) := by
  cases hb : (decide (a < 0) != decide (b < 0)) with
  | true => rw [ceil_down h hc hA hB hq hb]; exact told_f (smallB_low (by omega))
  | false =>
    cases hm : decide (0 < A * B % c) with
    | true => rw [ceil_more h hc hA hB hq hb hm]; exact told_f (smallB_high (by omega))
    | false => rw [ceil_even h hc hA hB hq hb hm]; exact told_f (smallB_high hq2)

def mulP (a b : Int) : Int × Bool := if (smallB a && smallB b) = true then toldP (a * b) else (0, false)
theorem mul_floor (a b : Int) : floorP a b 1 = mulP a b := by
  unfold floorP mulP okB
  have : smallB 1 = true := rfl
  simp only [this, Bool.and_true, Int.ediv_one]
  simp

end Go.Proofs.Ytoijjnhlmndhpaa
