/-
  Plain oscillators: what is gained, what passes, and how far ahead one is.
-/
import Derived.Test.YtdkdckfkhhbfnaaMd
namespace Go.Proofs.Ytdkdckfkhhbfnaa
open Go.RowKit

def gainP (p q : Int) : Int × Bool :=
  if p < 0 ∨ q < -1000000000 ∨ 1000000000 < q then (0, false) else
    (if q < 0 then -(floorP p (absP q) 1000000000).1 else (floorP p (absP q) 1000000000).1, (floorP p (absP q) 1000000000).2)

/-- Behind a call of Go: what is shown, the true time, and the error. -/
def goP (l a bd p q : Int) : Int × Int × Int :=
  if (gainP p q).2 = false ∨ bd < absP q ∨ 2305843009213693952 < p then (l, a, 190) else
    if 2305843009213693952 < l + p + (gainP p q).1 ∨ 2305843009213693952 < a + p then (l, a, 190) else (l + p + (gainP p q).1, a + p, 0)

theorem gain_no {p q : Int} (h : p < 0 ∨ q < -1000000000 ∨ 1000000000 < q) : gainP p q = (0, false) := by unfold gainP; rw [if_pos h]
theorem gain_neg {p q x : Int} {i : Bool} (h1 : 0 ≤ p) (h2 : -1000000000 ≤ q) (h3 : q ≤ 1000000000) (h4 : q < 0) (h : floorP p (absP q) 1000000000 = (x, i)) : gainP p q = (-x, i) := by
  unfold gainP; rw [if_neg (by omega), if_pos h4, h]
theorem gain_pos {p q x : Int} {i : Bool} (h1 : 0 ≤ p) (h2 : -1000000000 ≤ q) (h3 : q ≤ 1000000000) (h4 : 0 ≤ q) (h : floorP p (absP q) 1000000000 = (x, i)) : gainP p q = (x, i) := by
  unfold gainP; rw [if_neg (by omega), if_neg (by omega), h]
theorem abs_mid {q : Int} (h2 : -1000000000 ≤ q) (h3 : q ≤ 1000000000) : absP q = if q < 0 then -q else q := by
  unfold absP; rw [if_pos (smallB_true (by omega) (by omega))]

theorem gain_true {p q x : Int} (h : gainP p q = (x, true)) : 0 ≤ p ∧ -1000000000 ≤ q ∧ q ≤ 1000000000 ∧ okB p (absP q) 1000000000 = true ∧ x = (if q < 0 then -(p * (-q) / 1000000000) else p * q / 1000000000) := by
  unfold gainP at h
  split at h
  · cases (Prod.mk.inj h).2
  · rename_i hn
    have h2 := (Prod.mk.inj h).2
    obtain ⟨y, hy⟩ : ∃ y, floorP p (absP q) 1000000000 = (y, true) := ⟨_, by rw [← h2]⟩
    have hf := floor_true hy
    have hq : -1000000000 ≤ q ∧ q ≤ 1000000000 ∧ 0 ≤ p := by omega
    have ha := abs_mid hq.1 hq.2.1
    refine ⟨hq.2.2, hq.1, hq.2.1, hf.1, ?_⟩
    rw [← (Prod.mk.inj h).1, hy]
    dsimp only
    rw [hf.2.2, ha]
    split <;> rfl

/-- So much is gained, where the time is not too great. -/
theorem gain_told {p q : Int} (h1 : 0 ≤ p) (h2 : p ≤ 2305843009213693952) (h3 : 0 ≤ q) (h4 : q ≤ 1000000000) : gainP p q = (p * q / 1000000000, true) := by
  have ha := abs_mid (q := q) (by omega) h4
  rw [if_neg (by omega)] at ha
  have hm : p * q ≤ p * 1000000000 := Int.mul_le_mul_of_nonneg_left h4 h1
  have hn : 0 ≤ p * q := Int.mul_nonneg h1 h3
  have hok : okB p (absP q) 1000000000 = true := by
    unfold okB; rw [ha, smallB_true (n := p) (by omega) (by omega), smallB_true (n := q) (by omega) (by omega)]; rfl
  refine gain_pos h1 (by omega) h4 h3 ?_
  rw [floorP_yes hok (by omega), ha]
  exact told_t (smallB_true (by omega) (by omega))

theorem gain_bd {p q x : Int} {i : Bool} (h : gainP p q = (x, i)) : -4611686018427387904 ≤ x ∧ x ≤ 4611686018427387904 := by
  unfold gainP at h
  split at h
  · rw [← (Prod.mk.inj h).1]; omega
  · obtain ⟨y, j, hy⟩ : ∃ y j, floorP p (absP q) 1000000000 = (y, j) := ⟨_, _, rfl⟩
    have := floor_bd hy
    rw [hy] at h
    rw [← (Prod.mk.inj h).1]
    split <;> omega

theorem gain_le {p q x : Int} (h : gainP p q = (x, true)) : -p ≤ x ∧ x ≤ p := by
  obtain ⟨h1, h2, h3, _, rfl⟩ := gain_true h
  split
  · have : p * (-q) ≤ p * 1000000000 := Int.mul_le_mul_of_nonneg_left (by omega) h1
    have : 0 ≤ p * (-q) := Int.mul_nonneg h1 (by omega)
    omega
  · have : p * q ≤ p * 1000000000 := Int.mul_le_mul_of_nonneg_left h3 h1
    have : 0 ≤ p * q := Int.mul_nonneg h1 (by omega)
    omega

theorem gain_law {p q r s m n : Int} (hm : gainP p q = (m, true)) (hn : gainP r s = (n, true)) (h1 : p ≤ r) (h2 : q ≤ s) (h3 : 0 ≤ q) : m ≤ n ∧ gainP p (-q) = (-m, true) ∧ m ≤ p := by
  have hp := gain_true hm
  have hr := gain_true hn
  have hmp := (gain_le hm).2
  obtain ⟨p0, q1, q2, ok, em⟩ := hp
  obtain ⟨_, _, _, _, en⟩ := hr
  rw [if_neg (by omega)] at em
  rw [if_neg (by omega)] at en
  have hle : p * q ≤ r * s := Int.mul_le_mul h1 h2 h3 (by omega)
  refine ⟨by omega, ?_, hmp⟩
  by_cases h0 : q = 0
  · subst h0
    rw [show (-0 : Int) = 0 from rfl, hm]
    rw [show m = 0 by rw [em]; simp]
    rfl
  · have hab : absP (-q) = absP q := by rw [abs_mid (by omega) (by omega), abs_mid (by omega) (by omega), if_pos (by omega), if_neg (by omega)]; omega
    refine gain_neg p0 (by omega) (by omega) (by omega) ?_
    have ha : absP q = q := by rw [abs_mid (by omega) (by omega), if_neg (by omega)]
    rw [hab, floorP_yes ok (by omega), ha, ← em]
    have hb := gain_bd hm
    exact told_t (smallB_true hb.1 hb.2)

/-- What is true of an oscillator, at any time. -/
def OscOk (start bd l a : Int) : Prop := 0 ≤ start ∧ start ≤ 2305843009213693952 ∧ 0 ≤ bd ∧ bd ≤ 100000000 ∧ 0 ≤ a ∧ a ≤ 2305843009213693952 ∧ l ≤ 2305843009213693952 ∧
  l - start - a ≤ a * bd / 1000000000 ∧ -(a * bd / 1000000000) ≤ l - start - a

theorem osc_new {start bd : Int} (h1 : 0 ≤ start) (h2 : start ≤ 2305843009213693952) (h3 : 0 ≤ bd) (h4 : bd ≤ 100000000) : OscOk start bd start 0 := by
  refine ⟨h1, h2, h3, h4, by omega, by omega, h2, ?_, ?_⟩ <;> rw [Int.zero_mul] <;> omega

theorem osc_low {start bd l a : Int} (h : OscOk start bd l a) : start ≤ l := by
  obtain ⟨h1, _, h3, h4, h5, _, _, h8, h9⟩ := h
  have : a * bd ≤ a * 1000000000 := Int.mul_le_mul_of_nonneg_left (by omega) h5
  omega

theorem go_cases (l a bd p q : Int) : goP l a bd p q = (l, a, 190) ∨ ∃ n, gainP p q = (n, true) ∧ absP q ≤ bd ∧ p ≤ 2305843009213693952 ∧ l + p + n ≤ 2305843009213693952 ∧ a + p ≤ 2305843009213693952 ∧ goP l a bd p q = (l + p + n, a + p, 0) := by
  unfold goP
  split
  · exact .inl rfl
  · rename_i h
    split
    · exact .inl rfl
    · rename_i h2
      right
      have hg : (gainP p q).2 = true := by
        cases hh : (gainP p q).2 with
        | true => rfl
        | false => exact absurd (.inl hh) h
      refine ⟨(gainP p q).1, by rw [← hg], Int.not_lt.1 fun e => h (.inr (.inl e)), Int.not_lt.1 fun e => h (.inr (.inr e)), Int.not_lt.1 fun e => h2 (.inl e), Int.not_lt.1 fun e => h2 (.inr e), rfl⟩

theorem osc_go {start bd l a p q l' a' r : Int} (h : OscOk start bd l a) (hg : goP l a bd p q = (l', a', r)) : OscOk start bd l' a' := by
  rcases go_cases l a bd p q with e | ⟨n, hn, hq, hp, h1, h2, e⟩
  · rw [e] at hg
    obtain ⟨rfl, rfl, rfl⟩ : l = l' ∧ a = a' ∧ 190 = r := by simpa using hg
    exact h
  · rw [e] at hg
    obtain ⟨rfl, rfl, rfl⟩ : l + p + n = l' ∧ a + p = a' ∧ 0 = r := by simpa using hg
    obtain ⟨b1, b2, b3, b4, b5, b6, b7, b8, b9⟩ := h
    obtain ⟨g1, g2, g3, _, g4⟩ := gain_true hn
    rw [abs_mid g2 g3] at hq
    have hd : p * (if q < 0 then -q else q) ≤ p * bd := Int.mul_le_mul_of_nonneg_left hq g1
    have h0 : 0 ≤ p * (if q < 0 then -q else q) := Int.mul_nonneg g1 (by split <;> omega)
    refine ⟨b1, b2, b3, b4, by omega, h2, h1, ?_, ?_⟩
    · rw [Int.add_mul]
      by_cases hq0 : q < 0
      · rw [if_pos hq0] at g4 hd h0; omega
      · rw [if_neg hq0] at g4 hd h0; omega
    · rw [Int.add_mul]
      by_cases hq0 : q < 0
      · rw [if_pos hq0] at g4 hd h0; omega
      · rw [if_neg hq0] at g4 hd h0; omega

theorem osc_most {start bd l a : Int} (h : OscOk start bd l a) : gainP a bd = (a * bd / 1000000000, true) := gain_told h.2.2.2.2.1 h.2.2.2.2.2.1 h.2.2.1 (by have := h.2.2.2.1; omega)

theorem go_even {l a bd p : Int} {l' a' r : Int} (hg : goP l a bd p 0 = (l', a', r)) : (r = 190 ∧ l' = l ∧ a' = a) ∨ (r = 0 ∧ l' = l + p ∧ a' = a + p ∧ 0 ≤ p ∧ a + p ≤ 2305843009213693952 ∧ l + p ≤ 2305843009213693952) := by
  rcases go_cases l a bd p 0 with e | ⟨n, hn, hq, hp, h1, h2, e⟩
  · rw [e] at hg
    obtain ⟨rfl, rfl, rfl⟩ : l = l' ∧ a = a' ∧ 190 = r := by simpa using hg
    exact .inl ⟨rfl, rfl, rfl⟩
  · rw [e] at hg
    obtain ⟨rfl, rfl, rfl⟩ : l + p + n = l' ∧ a + p = a' ∧ 0 = r := by simpa using hg
    obtain ⟨g1, _, _, _, g4⟩ := gain_true hn
    rw [if_neg (by omega)] at g4
    simp at g4
    subst g4
    exact .inr ⟨rfl, by omega, rfl, g1, h2, by omega⟩

theorem go_refuses {l a bd p q l' a' r : Int} (hg : goP l a bd p q = (l', a', r)) : (r = 190 ∧ l' = l ∧ a' = a) ∨ (r = 0 ∧ 0 ≤ p ∧ -bd ≤ q ∧ q ≤ bd) := by
  rcases go_cases l a bd p q with e | ⟨n, hn, hq, hp, h1, h2, e⟩
  · rw [e] at hg
    obtain ⟨rfl, rfl, rfl⟩ : l = l' ∧ a = a' ∧ 190 = r := by simpa using hg
    exact .inl ⟨rfl, rfl, rfl⟩
  · rw [e] at hg
    obtain ⟨rfl, rfl, rfl⟩ : l + p + n = l' ∧ a + p = a' ∧ 0 = r := by simpa using hg
    obtain ⟨g1, g2, g3, _, _⟩ := gain_true hn
    rw [abs_mid g2 g3] at hq
    exact .inr ⟨rfl, g1, by split at hq <;> omega, by split at hq <;> omega⟩
end Go.Proofs.Ytdkdckfkhhbfnaa
