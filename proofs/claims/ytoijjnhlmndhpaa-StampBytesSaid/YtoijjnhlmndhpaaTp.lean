/-
  The document's bytes: number, value, Put and Get, by the printed contracts and plain laws.
-/
import Derived.Test.YtoijjnhlmndhpaaPStampBytesx
import Derived.Test.YtoijjnhlmndhpaaTo
import Derived.Lib.AtoiErrMem
import Derived.Deep.RegionHeld3
namespace Go.Proofs.Ytoijjnhlmndhpaa
open Go.RowKit Go.Proofs.Ytoijjnhlmndhpaa.PStampBytes Go.Proofs.YtoijjnhlmndhpaaW.PrintWords

theorem wr {n : Int} (h1 : -9223372036854775808 ≤ n) (h2 : n ≤ 9223372036854775807) : wrap64 n = n := IntWalk.wrap64_in n ⟨h1, h2⟩

/-- So many digits of a number, the highest first. -/
def digs (a : Int) : Nat → List Int
  | 0 => []
  | m + 1 => digs (a / 256) m ++ [a % 256]
theorem digs_len (m : Nat) : ∀ a : Int, (digs a m).length = m := by
  induction m with
  | zero => intro a; rfl
  | succ m ih => intro a; show (digs (a / 256) m ++ [a % 256]).length = m + 1; rw [List.length_append, ih]; rfl
theorem str_app (xs ys : List Int) : strOfNums xs ++ strOfNums ys = strOfNums (xs ++ ys) := by
  apply ByteArray.ext
  simp [strOfNums, ByteArray.data_append]
theorem number_ev (m : Nat) : ∀ a : Int, m ≤ 10 → 0 ≤ a → a ≤ 9223372036854775807 → horologeref02_number.f (m + 1) a m = some (strOfNums (digs a m)) := by
  induction m with
  | zero => intro a _ _ _; unfold horologeref02_number.f; rw [if_pos (by rfl)]; rfl
  | succ m ih =>
    intro a hm h0 h1
    have e1 : Int.tdiv a 256 = a / 256 := Int.tdiv_eq_ediv_of_nonneg h0
    have e2 : Int.tmod a 256 = a % 256 := Int.tmod_eq_emod_of_nonneg h0
    have e3 : wrap64 (Int.tdiv a 256) = a / 256 := by rw [e1]; exact wr (by omega) (by omega)
    have e4 : wrap64 (((m + 1 : Nat) : Int) - 1) = (m : Int) := by rw [wr (by omega) (by omega)]; omega
    have e5 : Int.tmod a 256 % 256 = a % 256 := by rw [e2]; omega
    have hi := ih (a / 256) (by omega) (by omega) (by omega)
    have hs : ¬ ((m + 1 : Nat) : Int) = 0 := by omega
    unfold horologeref02_number.f
    rw [if_neg hs, e3, e4, hi, e5]
    simp only [Option.bind_some]
    rw [if_pos (by rw [strOfNums_size, strOfNums_size, digs_len]; show m + 1 ≤ 9223372036854775807; omega), str_app]
    rfl
theorem digs_ten {s n : Int} (h : stRight s n = true) : digs s 6 ++ digs n 4 = tenL s n := by
  obtain ⟨⟨h1, h2⟩, h3, h4⟩ := st_bd h
  have a0 : s / 256 / 256 / 256 / 256 / 256 % 256 = s / 1099511627776 := by omega
  have a1 : s / 256 / 256 / 256 / 256 % 256 = s / 4294967296 % 256 := by omega
  have a2 : s / 256 / 256 / 256 % 256 = s / 16777216 % 256 := by omega
  have a3 : s / 256 / 256 % 256 = s / 65536 % 256 := by omega
  have b0 : n / 256 / 256 / 256 % 256 = n / 16777216 := by omega
  have b1 : n / 256 / 256 % 256 = n / 65536 % 256 := by omega
  show [s / 256 / 256 / 256 / 256 / 256 % 256, s / 256 / 256 / 256 / 256 % 256, s / 256 / 256 / 256 % 256, s / 256 / 256 % 256, s / 256 % 256, s % 256, n / 256 / 256 / 256 % 256, n / 256 / 256 % 256, n / 256 % 256, n % 256] = tenL s n
  rw [a0, a1, a2, a3, b0, b1]
  rfl

theorem rNumber_is (m : Nat) (a : Int) (S : ByteArray) (hm : m ≤ 10) (h0 : 0 ≤ a) (h1 : a ≤ 9223372036854775807) (H : Hid (strOfNums (digs a m) = S)) (w : World) :
    Calls Try.prog 33 #[.int .i64 a, .int .i64 m] w fun e w' => e = .returned (.string S) ∧ Below w.heap.size w w' :=
  horologeref02_number.calls (m + 1) a m S w (by rw [number_ev m a hm h0 h1, H.out])

/-- The number of so many bytes. -/
def vl (l : List Int) : Int := l.foldl (fun r x => r * 256 + x) 0
theorem vl_go (l : List Int) : ∀ r : Int, l.foldl (fun r x => r * 256 + x) r = r * 256 ^ l.length + vl l := by
  induction l with
  | nil => intro r; show r = r * 1 + 0; omega
  | cons a l ih =>
    intro r
    have e : (256 : Int) ^ (l.length + 1) = 256 ^ l.length * 256 := Int.pow_succ ..
    show l.foldl _ (r * 256 + a) = r * 256 ^ (l.length + 1) + l.foldl _ (0 * 256 + a)
    rw [ih (r * 256 + a), ih (0 * 256 + a), e, Int.add_mul, Int.add_mul, Int.mul_assoc, Int.mul_comm 256 (256 ^ l.length), Int.zero_mul, Int.zero_mul]
    omega
theorem vl_bd (l : List Int) (h : ∀ x, x ∈ l → 0 ≤ x ∧ x ≤ 255) : 0 ≤ vl l ∧ vl l < 256 ^ l.length := by
  induction l with
  | nil => exact ⟨by show (0 : Int) ≤ 0; omega, by show (0 : Int) < 1; omega⟩
  | cons a l ih =>
    have ha := h a (List.mem_cons_self ..)
    have ih' := ih fun x hx => h x (List.mem_cons_of_mem _ hx)
    have e : (256 : Int) ^ (l.length + 1) = 256 ^ l.length * 256 := Int.pow_succ ..
    have hv : vl (a :: l) = a * 256 ^ l.length + vl l := by
      show l.foldl _ (0 * 256 + a) = _
      rw [vl_go l (0 * 256 + a), Int.zero_mul, Int.zero_add]
    have hp : (0 : Int) ≤ 256 ^ l.length := Int.le_of_lt (Int.pow_pos (by omega))
    have h2 : a * 256 ^ l.length ≤ 255 * 256 ^ l.length := Int.mul_le_mul_of_nonneg_right ha.2 hp
    have h3 : 0 ≤ a * 256 ^ l.length := Int.mul_nonneg ha.1 hp
    rw [hv]
    show 0 ≤ _ ∧ _ < (256 : Int) ^ (l.length + 1)
    rw [e]
    omega
theorem vl_take (l : List Int) (j : Nat) (hj : j < l.length) : vl (l.take (j + 1)) = vl (l.take j) * 256 + l.getD j 0 := by
  have e : l.take (j + 1) = l.take j ++ [l.getD j 0] := by
    rw [List.take_succ_eq_append_getElem hj, List.getD_eq_getElem?_getD, List.getElem?_eq_getElem hj]; rfl
  rw [e]
  show (l.take j ++ [l.getD j 0]).foldl _ 0 = _
  rw [List.foldl_append]
  rfl
theorem value_ev {l : List Int} (hl : l.length ≤ 6) (h : ∀ x, x ∈ l → 0 ≤ x ∧ x ≤ 255) : horologeref02_value.f 10 l = some (vl l) := by
  have key : ∀ (d j k : Nat), l.length = j + d → d < k → horologeref02_value.l0 k l (vl (l.take j)) j = some (vl l) := by
    intro d
    induction d with
    | zero =>
      intro j k hj hk
      obtain ⟨k, rfl⟩ : ∃ q, k = q + 1 := ⟨k - 1, by omega⟩
      unfold horologeref02_value.l0
      rw [if_neg (by omega), List.take_of_length_le (by omega)]
    | succ d ih =>
      intro j k hj hk
      obtain ⟨k, rfl⟩ : ∃ q, k = q + 1 := ⟨k - 1, by omega⟩
      have hjl : j < l.length := by omega
      have hb := vl_bd (l.take j) fun x hx => h x (List.mem_of_mem_take hx)
      have hp : (256 : Int) ^ (l.take j).length ≤ 256 ^ 5 := pow256 (by rw [List.length_take]; omega)
      have h5 : (256 : Int) ^ 5 = 1099511627776 := by decide
      rw [h5] at hp
      have hx : 0 ≤ l.getD j 0 ∧ l.getD j 0 ≤ 255 := by
        rw [List.getD_eq_getElem?_getD, List.getElem?_eq_getElem hjl]
        exact h _ (List.getElem_mem hjl)
      have hr : rd l (j : Int) = l.getD j 0 := by simp [rd]
      have hi := ih (j + 1) k (by omega) (by omega)
      rw [vl_take l j hjl] at hi
      unfold horologeref02_value.l0
      rw [if_pos (by omega), if_pos (by omega), hr, wr (n := vl (l.take j) * 256) (by omega) (by omega), wr (n := l.getD j 0) (by omega) (by omega), wr (by omega) (by omega), wr (n := (j : Int) + 1) (by omega) (by omega)]
      exact hi
  exact key l.length 0 10 (by omega) (by omega)
theorem right_ev (x y : Int) : horologeref02_Right.f x y = some (stRight x y) := by
  unfold horologeref02_Right.f stRight
  by_cases h1 : 0 ≤ x
  · by_cases h2 : x < 281474976710656
    · by_cases h3 : 0 ≤ y
      · rw [if_pos h1, if_pos (by omega), if_pos h3]
        congr 1
        simp [h1, h2, h3]
        omega
      · rw [if_pos h1, if_pos (by omega), if_neg h3]; simp [h3]
    · rw [if_pos h1, if_neg (by omega)]; simp [h2]
  · rw [if_neg h1]; simp [h1]
theorem get_ev {l : List Int} (hl : l.length = 10) (h : ∀ x, x ∈ l → 0 ≤ x ∧ x ≤ 255) : horologeref02_Get.f 10 l = some (if stRight (vl (l.take 6)) (vl (l.drop 6)) = true then (vl (l.take 6), vl (l.drop 6), 0) else (0, 0, 20)) := by
  unfold horologeref02_Get.f
  rw [if_pos (by omega), if_pos (by omega), value_ev (l := l.take 6) (by rw [List.length_take]; omega) fun x hx => h x (List.mem_of_mem_take hx)]
  simp only [Option.bind_some]
  rw [value_ev (l := l.drop 6) (by rw [List.length_drop]; omega) fun x hx => h x (List.mem_of_mem_drop hx)]
  simp only [Option.bind_some]
  rw [right_ev]
  simp only [Option.bind_some]
  cases stRight (vl (l.take 6)) (vl (l.drop 6)) <;> simp
theorem get_ev0 {l : List Int} (hl : l.length ≠ 10) : horologeref02_Get.f 10 l = some (0, 0, 20) := by
  unfold horologeref02_Get.f
  rw [if_neg (by omega)]

/-- The two ways to reckon it. -/
theorem be_vl (l : List Int) (lo : Nat) : ∀ n, lo + n ≤ l.length → be (fun i => l.getD i 0) lo n = vl ((l.drop lo).take n) := by
  intro n
  induction n with
  | zero => intro _; rfl
  | succ n ih =>
    intro h
    have hl : n < (l.drop lo).length := by rw [List.length_drop]; omega
    rw [vl_take (l.drop lo) n hl, ← ih (by omega)]
    show be _ lo n * 256 + l.getD (lo + n) 0 = _
    congr 1
    rw [List.getD_eq_getElem?_getD, List.getD_eq_getElem?_getD, List.getElem?_drop]
end Go.Proofs.Ytoijjnhlmndhpaa
