/-
  Plain numbers: rows of digits of 15 bits, the lowest first, and what they are worth.
-/
import Derived.RowKit
namespace Go.Proofs.Ytdkdckfkhhbfnaa
open Go.RowKit

/-- What a row of digits is worth. -/
def val : List Int → Int
  | [] => 0
  | d :: r => d + 32768 * val r
/-- Each is a digit. -/
def Dig (l : List Int) : Prop := ∀ d ∈ l, 0 ≤ d ∧ d < 32768
/-- No digit 0 at the end. -/
def Trm (l : List Int) : Prop := ∀ l' d, l = l' ++ [d] → d ≠ 0

theorem getD_lt {l : List Int} {i : Nat} (h : i < l.length) : l.getD i 0 = l[i] := by simp [List.getD, h]
theorem getD_ge {l : List Int} {i : Nat} (h : l.length ≤ i) : l.getD i 0 = 0 := by simp [List.getD, h]

theorem Dig_nil : Dig [] := by intro d h; cases h
theorem Dig_cons {d : Int} {r : List Int} (h0 : 0 ≤ d) (h1 : d < 32768) (h : Dig r) : Dig (d :: r) := by
  intro x hx
  rcases List.mem_cons.1 hx with rfl | hx
  · exact ⟨h0, h1⟩
  · exact h x hx
theorem Dig_app {a b : List Int} (ha : Dig a) (hb : Dig b) : Dig (a ++ b) := by
  intro x hx
  rcases List.mem_append.1 hx with hx | hx
  · exact ha x hx
  · exact hb x hx
theorem Dig_one {d : Int} (h0 : 0 ≤ d) (h1 : d < 32768) : Dig [d] := Dig_cons h0 h1 Dig_nil
theorem Dig_take {l : List Int} (h : Dig l) (n : Nat) : Dig (l.take n) := fun d hd => h d (List.mem_of_mem_take hd)
theorem Dig_drop {l : List Int} (h : Dig l) (n : Nat) : Dig (l.drop n) := fun d hd => h d (List.mem_of_mem_drop hd)
theorem Dig_rep (n : Nat) : Dig (List.replicate n 0) := by
  intro d hd
  rw [List.mem_replicate] at hd
  omega
theorem Dig_get {l : List Int} (h : Dig l) (i : Nat) : 0 ≤ l.getD i 0 ∧ l.getD i 0 < 32768 := by
  by_cases hi : i < l.length
  · rw [getD_lt hi]; exact h _ (List.getElem_mem hi)
  · rw [getD_ge (by omega)]; omega

theorem Trm_nil : Trm [] := by intro l' d h; simp at h
theorem Trm_cons {d : Int} {r : List Int} (h0 : r = [] → d ≠ 0) (h : Trm r) : Trm (d :: r) := by
  intro l' x e
  cases l' with
  | nil =>
    simp at e
    obtain ⟨rfl, rfl⟩ := e
    exact h0 rfl
  | cons y l'' =>
    simp at e
    exact h l'' x e.2

theorem pow_pos' (n : Nat) : (0 : Int) < 32768 ^ n := Int.pow_pos (by omega)

theorem val_app (a b : List Int) : val (a ++ b) = val a + 32768 ^ a.length * val b := by
  induction a with
  | nil => simp [val]
  | cons d r ih =>
    simp only [List.cons_append, val, ih, List.length_cons, Int.pow_succ]
    rw [Int.mul_add, Int.mul_comm (32768 ^ r.length) 32768, Int.mul_assoc]; omega
theorem val_one (d : Int) : val [d] = d := by simp [val]
theorem val_rep (n : Nat) : val (List.replicate n 0) = 0 := by
  induction n with
  | zero => rfl
  | succ n ih => simp [List.replicate_succ, val, ih]
theorem val_nonneg {l : List Int} (h : Dig l) : 0 ≤ val l := by
  induction l with
  | nil => simp [val]
  | cons d r ih =>
    have h1 := ih (fun x hx => h x (List.mem_cons_of_mem _ hx))
    have h2 := h d List.mem_cons_self
    simp only [val]; omega
theorem val_lt {l : List Int} (h : Dig l) : val l < 32768 ^ l.length := by
  induction l with
  | nil => simp [val]
  | cons d r ih =>
    have h1 := ih (fun x hx => h x (List.mem_cons_of_mem _ hx))
    have h2 := h d List.mem_cons_self
    simp only [val, List.length_cons, Int.pow_succ]; omega
theorem val_ge {l : List Int} (h : Dig l) (ht : Trm l) (hn : l ≠ []) : 32768 ^ (l.length - 1) ≤ val l := by
  obtain ⟨l', d, rfl⟩ : ∃ l' d, l = l' ++ [d] := ⟨l.dropLast, l.getLast hn, (List.dropLast_concat_getLast hn).symm⟩
  have hd := ht l' d rfl
  have hd2 := h d (by simp)
  have h1 := val_nonneg (l := l') (fun x hx => h x (by simp [hx]))
  rw [val_app, val_one]
  simp only [List.length_append, List.length_cons, List.length_nil, Nat.zero_add, Nat.add_sub_cancel]
  have h3 : (32768 : Int) ^ l'.length * 1 ≤ 32768 ^ l'.length * d := Int.mul_le_mul_of_nonneg_left (by omega) (Int.le_of_lt (pow_pos' _))
  omega
theorem val_drop_get {l : List Int} (i : Nat) (h : i < l.length) : val (l.drop i) = l.getD i 0 + 32768 * val (l.drop (i + 1)) := by
  rw [List.drop_eq_getElem_cons h, getD_lt h]; rfl
theorem val_drop_end {l : List Int} (i : Nat) (h : l.length ≤ i) : val (l.drop i) = 0 := by
  rw [List.drop_of_length_le h]; rfl
theorem val_drop_any {l : List Int} (i : Nat) : val (l.drop i) = l.getD i 0 + 32768 * val (l.drop (i + 1)) := by
  by_cases h : i < l.length
  · exact val_drop_get i h
  · rw [val_drop_end i (by omega), val_drop_end (i + 1) (by omega), getD_ge (by omega)]; rfl
theorem val_take_succ {l : List Int} (i : Nat) (h : i < l.length) : val (l.take (i + 1)) = val (l.take i) + 32768 ^ i * l.getD i 0 := by
  rw [List.take_succ_eq_append_getElem h, val_app, val_one, getD_lt h, List.length_take, Nat.min_eq_left (by omega)]
theorem val_take_drop (l : List Int) (i : Nat) (h : i ≤ l.length) : val l = val (l.take i) + 32768 ^ i * val (l.drop i) := by
  have := val_app (l.take i) (l.drop i)
  rw [List.take_append_drop, List.length_take, Nat.min_eq_left h] at this
  exact this

theorem pow_mono' {m n : Nat} (h : m ≤ n) : (32768 : Int) ^ m ≤ 32768 ^ n := by
  have h1 : (32768 : Nat) ^ m ≤ 32768 ^ n := Nat.pow_le_pow_right (by omega) h
  have : ((32768 ^ m : Nat) : Int) ≤ ((32768 ^ n : Nat) : Int) := Int.ofNat_le.2 h1
  simpa using this

/-- The shorter of two is the lesser. -/
theorem val_shorter {a b : List Int} (ha : Dig a) (hb : Dig b) (tb : Trm b) (h : a.length < b.length) : val a < val b := by
  have h1 := val_lt ha
  have h2 := val_ge hb tb (by intro e; simp [e] at h)
  have h3 := pow_mono' (show a.length ≤ b.length - 1 by omega)
  omega

/-- The highest digit that differs tells. -/
theorem val_top {A B P x y : Int} (hP : 0 < P) (hA2 : A < P) (hB : 0 ≤ B) (h : x < y) : A + P * x < B + P * y := by
  have : P * (x + 1) ≤ P * y := Int.mul_le_mul_of_nonneg_left (by omega) (Int.le_of_lt hP)
  rw [Int.mul_add] at this
  omega

theorem val_small_len {l : List Int} (h : Dig l) (ht : Trm l) (n : Nat) (hv : val l < 32768 ^ n) : l.length ≤ n := by
  by_cases hl : l.length ≤ n
  · exact hl
  · have h2 := val_ge h ht (by intro e; simp [e] at hl)
    have h3 := pow_mono' (show n ≤ l.length - 1 by omega)
    omega
end Go.Proofs.Ytdkdckfkhhbfnaa
