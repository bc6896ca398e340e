/-
  Bytes stand in the same order as the stamps; strings of bytes.
-/
import Derived.Test.YtoijjnhlmndhpaaTh
import Derived.Laws.BytesString
import Derived.Laws.BytesArg
import Derived.Laws.Cells
import Derived.Lib.Strings
namespace Go.Proofs.Ytoijjnhlmndhpaa
open Go.RowKit

/-- What so many bytes stand for, the highest first. -/
def bv : List UInt8 → Nat
  | [] => 0
  | a :: l => a.toNat * 256 ^ l.length + bv l
theorem bv_lt : ∀ l : List UInt8, bv l < 256 ^ l.length
  | [] => by show 0 < 1; omega
  | a :: l => by
    have ih := bv_lt l
    have ha : a.toNat < 256 := a.toNat_lt
    have e : (256 : Nat) ^ (l.length + 1) = 256 ^ l.length * 256 := Nat.pow_succ ..
    show a.toNat * 256 ^ l.length + bv l < 256 ^ (l.length + 1)
    rw [e]
    have h1 : a.toNat * 256 ^ l.length ≤ 255 * 256 ^ l.length := Nat.mul_le_mul_right _ (by omega)
    omega
theorem bytes_less : ∀ l m : List UInt8, l.length = m.length → Op.bytesLess l m = decide (bv l < bv m)
  | [], [], _ => by simp [Op.bytesLess]
  | [], _ :: _, h => by cases h
  | _ :: _, [], h => by cases h
  | a :: l, b :: m, h => by
    have hl : l.length = m.length := by simpa using h
    have ih := bytes_less l m hl
    have h1 := bv_lt l
    have h2 := bv_lt m
    rw [Op.bytesLess, ih]
    show (decide (a < b) || (a == b && decide (bv l < bv m))) = decide (a.toNat * 256 ^ l.length + bv l < b.toNat * 256 ^ m.length + bv m)
    rw [hl] at h1 ⊢
    generalize 256 ^ m.length = q at *
    by_cases hab : a < b
    · have hn : a.toNat < b.toNat := UInt8.lt_iff_toNat_lt.1 hab
      have h3 : (a.toNat + 1) * q ≤ b.toNat * q := Nat.mul_le_mul_right _ hn
      have h4 : (a.toNat + 1) * q = a.toNat * q + q := by rw [Nat.add_mul, Nat.one_mul]
      have : a.toNat * q + bv l < b.toNat * q + bv m := by omega
      simp [hab, this]
    · by_cases he : a = b
      · subst he
        simp
      · have hn : b.toNat < a.toNat := by
          have h5 : ¬ a.toNat < b.toNat := fun z => hab (UInt8.lt_iff_toNat_lt.2 z)
          have h6 : a.toNat ≠ b.toNat := fun z => he (UInt8.toNat_inj.1 z)
          omega
        have h3 : (b.toNat + 1) * q ≤ a.toNat * q := Nat.mul_le_mul_right _ hn
        have h4 : (b.toNat + 1) * q = b.toNat * q + q := by rw [Nat.add_mul, Nat.one_mul]
        have : ¬ a.toNat * q + bv l < b.toNat * q + bv m := by omega
        simp [hab, he, this]

/-- The ten bytes, as a list. -/
def tenL (s n : Int) : List Int := [s / 1099511627776, s / 4294967296 % 256, s / 16777216 % 256, s / 65536 % 256, s / 256 % 256, s % 256, n / 16777216, n / 65536 % 256, n / 256 % 256, n % 256]
theorem tenL_get {s n : Int} : ∀ i, i < 10 → (tenL s n).getD i 0 = tenB s n i := by
  intro i hi
  match i, hi with
  | 0, _ => rfl
  | 1, _ => rfl
  | 2, _ => rfl
  | 3, _ => rfl
  | 4, _ => rfl
  | 5, _ => rfl
  | 6, _ => rfl
  | 7, _ => rfl
  | 8, _ => rfl
  | 9, _ => rfl
theorem u8_of {x : Int} (h0 : 0 ≤ x) (h1 : x ≤ 255) : (UInt8.ofNat x.toNat).toNat = x.toNat := by
  rw [UInt8.toNat_ofNat']
  omega
theorem bv_map {l : List Int} (h : ∀ x, x ∈ l → 0 ≤ x ∧ x ≤ 255) : ((bv (l.map fun n => UInt8.ofNat n.toNat) : Nat) : Int) = l.foldl (fun r x => r * 256 + x) 0 := by
  have key : ∀ (l : List Int) (r : Int), (∀ x, x ∈ l → 0 ≤ x ∧ x ≤ 255) → r * 256 ^ l.length + ((bv (l.map fun n => UInt8.ofNat n.toNat) : Nat) : Int) = l.foldl (fun r x => r * 256 + x) r := by
    intro l
    induction l with
    | nil => intro r _; show r * 1 + 0 = r; omega
    | cons a l ih =>
      intro r hl
      have ha := hl a (List.mem_cons_self ..)
      have ih' := ih (r * 256 + a) fun x hx => hl x (List.mem_cons_of_mem _ hx)
      have e : (256 : Int) ^ (l.length + 1) = 256 ^ l.length * 256 := Int.pow_succ ..
      show r * 256 ^ (l.length + 1) + (((UInt8.ofNat a.toNat).toNat * 256 ^ (l.map fun n => UInt8.ofNat n.toNat).length + bv (l.map fun n => UInt8.ofNat n.toNat) : Nat) : Int) = l.foldl (fun r x => r * 256 + x) (r * 256 + a)
      rw [← ih', u8_of ha.1 ha.2, List.length_map, e, Int.natCast_add, Int.natCast_mul, Int.toNat_of_nonneg ha.1]
      have hq : (((256 : Nat) ^ l.length : Nat) : Int) = (256 : Int) ^ l.length := Int.natCast_pow 256 l.length
      rw [hq, Int.add_mul, Int.mul_assoc, Int.mul_comm 256 (256 ^ l.length), Int.add_assoc]
  have := key l 0 h
  rw [Int.zero_mul, Int.zero_add] at this
  exact this
theorem tenL_bd {s n : Int} (h : stRight s n = true) : ∀ x, x ∈ tenL s n → 0 ≤ x ∧ x ≤ 255 := by
  obtain ⟨⟨h1, h2⟩, h3, h4⟩ := st_bd h
  intro x hx
  simp only [tenL, List.mem_cons, List.not_mem_nil, or_false] at hx
  rcases hx with rfl | rfl | rfl | rfl | rfl | rfl | rfl | rfl | rfl | rfl <;> omega
theorem tenL_val {s n : Int} (h : stRight s n = true) : (tenL s n).foldl (fun r x => r * 256 + x) 0 = s * 4294967296 + n := by
  obtain ⟨⟨h1, h2⟩, h3, h4⟩ := st_bd h
  simp only [tenL, List.foldl_cons, List.foldl_nil]
  omega
theorem ten_str {s n : Int} (h : stRight s n = true) : (strOfNums (tenL s n)).toList.length = 10 ∧ ((bv (strOfNums (tenL s n)).toList : Nat) : Int) = s * 4294967296 + n := by
  rw [Lib.toList_data]
  have e : (strOfNums (tenL s n)).data.toList = (tenL s n).map fun n => UInt8.ofNat n.toNat := by unfold strOfNums; simp
  rw [e]
  exact ⟨by simp [tenL], (bv_map (tenL_bd h)).trans (tenL_val h)⟩
theorem str_less {s n s2 n2 : Int} (h : stRight s n = true) (h2 : stRight s2 n2 = true) : Op.bytesLess (strOfNums (tenL s n)).toList (strOfNums (tenL s2 n2)).toList = decide (s * 4294967296 + n < s2 * 4294967296 + n2) := by
  obtain ⟨a1, a2⟩ := ten_str h
  obtain ⟨b1, b2⟩ := ten_str h2
  rw [bytes_less _ _ (a1.trans b1.symm)]
  rw [← a2, ← b2]
  exact decide_eq_decide.2 (by omega)

/-- A slice of ten bytes as a string. -/
theorem conv_ten {s n : Int} {b cap : Nat} {w : World} {src dst e : TypeId} (hs : Try.prog.underlying src = some (.slice e)) (he : Try.prog.underlying e = some (.int .u8)) (hd : Try.prog.underlying dst = some .string) (h : ∀ i : Nat, i < 10 → w.cell? ⟨b, i, none⟩ = some (.int .u8 (tenB s n i))) :
    (convert src dst (.slice (some ⟨b, 0, none⟩) 10 cap)).run Try.prog w = .ok (.string (strOfNums (tenL s n))) w := by
  have hl : (loadCells ⟨b, 0, none⟩ 10).run Try.prog w = .ok ((tenL s n).map (Value.int .u8)).toArray w :=
    run_loadCells_list (P := Try.prog) w ⟨b, 0, none⟩ ((tenL s n).map (Value.int .u8)) (fun j v hj => by
      have hlt : j < 10 := by
        rcases Nat.lt_or_ge j 10 with h' | h'
        · exact h'
        · rw [List.getElem?_eq_none (by simp [tenL]; omega)] at hj; cases hj
      have hc := h j hlt
      rw [← tenL_get j hlt] at hc
      rw [List.getElem?_map] at hj
      cases hg : (tenL s n)[j]? with
      | none => rw [hg] at hj; cases hj
      | some x =>
        rw [hg] at hj
        obtain rfl : Value.int .u8 x = v := by simpa using hj
        have : (tenL s n).getD j 0 = x := by rw [List.getD_eq_getElem?_getD, hg]; rfl
        rw [this] at hc
        have ha : (⟨b, 0, none⟩ : Addr).add j = ⟨b, j, none⟩ := by
          unfold Addr.add
          split
          · rename_i h0; subst h0; rfl
          · simp
        rw [ha]
        exact hc)
  rw [run_convert_bytes_string w src dst e _ 10 cap hs he hd, run_bytesToString w _ 10 cap (tenL s n) hl]
  rfl
end Go.Proofs.Ytoijjnhlmndhpaa
