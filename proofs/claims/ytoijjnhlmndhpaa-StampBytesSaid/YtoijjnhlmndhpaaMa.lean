/-
  Plain numbers: products of two halves, and long division bit by bit.
-/
import Derived.Laws.BitsAllLaws
import Derived.Laws.Bits64
import Derived.RowKit
namespace Go.Proofs.Ytoijjnhlmndhpaa
open Go.RowKit

/-- An int of Go's. -/
def I64 (n : Int) : Prop := -9223372036854775808 ≤ n ∧ n ≤ 9223372036854775807
theorem i64_of {n : Int} (h : (Lit.int .i64 n).wf = true) : I64 n := by
  simpa [Lit.wf, IntKind.min, IntKind.max, IntKind.signed, IntKind.bits, I64] using h

theorem and32 (x : Int) (h1 : 0 ≤ x) (h2 : x < 18446744073709551616) : bits .and .u64 x 4294967295 = x % 4294967296 := by
  rw [u64_and x _ h1 h2 (by omega) (by omega)]
  show (((x.toNat &&& 4294967295 : Nat)) : Int) = _
  rw [nat_mask32]; omega
theorem and1 (x : Int) (h1 : 0 ≤ x) (h2 : x < 18446744073709551616) : bits .and .u64 x 1 = x % 2 := by
  rw [u64_and x _ h1 h2 (by omega) (by omega)]
  show (((x.toNat &&& 1 : Nat)) : Int) = _
  rw [nat_mask1]; omega
theorem or32 (x y : Int) (h1 : 0 ≤ x) (h2 : x < 18446744073709551616) (h3 : x % 4294967296 = 0) (h4 : 0 ≤ y) (h5 : y < 4294967296) : bits .or .u64 x y = x + y := by
  rw [u64_or x y h1 h2 h4 (by omega), nat_join 32 x.toNat y.toNat (by omega) (by omega)]; omega
theorem or1 (x y : Int) (h1 : 0 ≤ x) (h2 : x < 18446744073709551616) (h3 : x % 2 = 0) (h4 : 0 ≤ y) (h5 : y < 2) : bits .or .u64 x y = x + y := by
  rw [u64_or x y h1 h2 h4 (by omega), nat_join 1 x.toNat y.toNat (by omega) (by omega)]; omega

theorem mul_bd (x y m n : Int) (hx : 0 ≤ x) (hxm : x ≤ m) (hy : 0 ≤ y) (hyn : y ≤ n) : 0 ≤ x * y ∧ x * y ≤ m * n :=
  ⟨Int.mul_nonneg hx hy, Int.mul_le_mul hxm hyn hy (by omega)⟩

theorem split_mul (a b : Int) : a * b = (a / 4294967296 * (b / 4294967296)) * 18446744073709551616 + (a / 4294967296 * (b % 4294967296) + a % 4294967296 * (b / 4294967296)) * 4294967296 + a % 4294967296 * (b % 4294967296) := by
  have ha : a = a / 4294967296 * 4294967296 + a % 4294967296 := by omega
  have hb : b = b / 4294967296 * 4294967296 + b % 4294967296 := by omega
  generalize a / 4294967296 = x at *
  generalize a % 4294967296 = y at *
  generalize b / 4294967296 = u at *
  generalize b % 4294967296 = v at *
  subst ha hb
  have e1 : x * 4294967296 * (u * 4294967296) = x * u * 18446744073709551616 := by
    rw [Int.mul_assoc, ← Int.mul_assoc 4294967296 u, Int.mul_comm 4294967296 u, Int.mul_assoc u, ← Int.mul_assoc]; rfl
  have e2 : x * 4294967296 * v = x * v * 4294967296 := by rw [Int.mul_right_comm]
  have e3 : y * (u * 4294967296) = y * u * 4294967296 := by rw [Int.mul_assoc]
  rw [Int.add_mul, Int.mul_add, Int.mul_add, e1, e2, e3]
  omega

/-- The lower half, the two in the middle and the higher one, as the code reckons them. -/
def pLow (a b : Int) : Int := IntKind.u64.wrap (bits .and .u64 a 4294967295 * bits .and .u64 b 4294967295)
def pOne (a b : Int) : Int := IntKind.u64.wrap (a / 4294967296 * bits .and .u64 b 4294967295)
def pTwo (a b : Int) : Int := IntKind.u64.wrap (bits .and .u64 a 4294967295 * (b / 4294967296))
def pMid (a b : Int) : Int := IntKind.u64.wrap (IntKind.u64.wrap (pLow a b / 4294967296 + bits .and .u64 (pOne a b) 4294967295) + bits .and .u64 (pTwo a b) 4294967295)
def pHi (a b : Int) : Int := IntKind.u64.wrap (IntKind.u64.wrap (IntKind.u64.wrap (IntKind.u64.wrap (a / 4294967296 * (b / 4294967296)) + pOne a b / 4294967296) + pTwo a b / 4294967296) + pMid a b / 4294967296)
def pLo (a b : Int) : Int := bits .or .u64 (IntKind.u64.wrap (pMid a b * 4294967296)) (bits .and .u64 (pLow a b) 4294967295)

theorem p_eq (a b : Int) (ha : 0 ≤ a) (ha2 : a ≤ 4611686018427387904) (hb : 0 ≤ b) (hb2 : b ≤ 4611686018427387904) :
    pHi a b = a * b / 18446744073709551616 ∧ pLo a b = a * b % 18446744073709551616 := by
  have hN := split_mul a b
  have hal := and32 a ha (by omega)
  have hbl := and32 b hb (by omega)
  have h1 := mul_bd (a % 4294967296) (b % 4294967296) 4294967295 4294967295 (by omega) (by omega) (by omega) (by omega)
  have h2 := mul_bd (a / 4294967296) (b % 4294967296) 1073741824 4294967295 (by omega) (by omega) (by omega) (by omega)
  have h3 := mul_bd (a % 4294967296) (b / 4294967296) 4294967295 1073741824 (by omega) (by omega) (by omega) (by omega)
  have h4 := mul_bd (a / 4294967296) (b / 4294967296) 1073741824 1073741824 (by omega) (by omega) (by omega) (by omega)
  have eLow : pLow a b = a % 4294967296 * (b % 4294967296) := by unfold pLow; rw [hal, hbl, IntKind.wrap_u64]; omega
  have eOne : pOne a b = a / 4294967296 * (b % 4294967296) := by unfold pOne; rw [hbl, IntKind.wrap_u64]; omega
  have eTwo : pTwo a b = a % 4294967296 * (b / 4294967296) := by unfold pTwo; rw [hal, IntKind.wrap_u64]; omega
  generalize hP : a % 4294967296 * (b % 4294967296) = P at *
  generalize hO : a / 4294967296 * (b % 4294967296) = O at *
  generalize hT : a % 4294967296 * (b / 4294967296) = T at *
  have eMid : pMid a b = P / 4294967296 + O % 4294967296 + T % 4294967296 := by
    unfold pMid; rw [eLow, eOne, eTwo, and32 O (by omega) (by omega), and32 T (by omega) (by omega), IntKind.wrap_u64, IntKind.wrap_u64]; omega
  have eHi : pHi a b = a / 4294967296 * (b / 4294967296) + O / 4294967296 + T / 4294967296 + (P / 4294967296 + O % 4294967296 + T % 4294967296) / 4294967296 := by
    unfold pHi; rw [eMid, eOne, eTwo]; generalize a / 4294967296 * (b / 4294967296) = Q at *; simp only [IntKind.wrap_u64]; omega
  have eLo : pLo a b = ((P / 4294967296 + O % 4294967296 + T % 4294967296) * 4294967296) % 18446744073709551616 + P % 4294967296 := by
    unfold pLo; rw [eMid, eLow, and32 P (by omega) (by omega), IntKind.wrap_u64, or32 _ _ (by omega) (by omega) (by omega) (by omega) (by omega)]
  rw [eHi, eLo]
  generalize a / 4294967296 * (b / 4294967296) = Q at *
  generalize a * b = M at *
  clear hal hbl eLow eOne eTwo eMid eHi eLo hP hO hT
  omega

/-- Behind the bits above n: so much is the quotient, so much is left. -/
def DInv (p0 p1 c : Int) (n : Nat) (q left : Int) : Prop :=
  0 ≤ left ∧ left < c ∧ 0 ≤ q ∧ q < 2 ^ (63 - n) ∧ q * c + left = p0 * 2 ^ (63 - n) + p1 / 2 ^ (n + 1)

theorem DInv_start (p0 p1 c : Int) (h0 : 0 ≤ p0) (h1 : 0 ≤ p1) (h2 : p1 < 18446744073709551616) (h : p0 < c) : DInv p0 p1 c 63 0 p0 := by
  refine ⟨h0, h, Int.le_refl _, by simp, ?_⟩
  show 0 * c + p0 = p0 * 2 ^ (63 - 63) + p1 / 18446744073709551616
  simp only [Nat.sub_self, Int.pow_zero]
  omega

theorem pow_le63 {n : Nat} (_hn : n ≤ 63) : (2 : Int) ^ (63 - n) ≤ 9223372036854775808 := by
  have h : (2 : Nat) ^ (63 - n) ≤ 2 ^ 63 := Nat.pow_le_pow_right (by omega) (by omega)
  have : ((2 ^ (63 - n) : Nat) : Int) ≤ ((2 ^ 63 : Nat) : Int) := Int.ofNat_le.2 h
  simpa using this

theorem DInv_bd {p0 p1 c : Int} {n : Nat} {q left : Int} (hn : n ≤ 63) (h : DInv p0 p1 c n q left) : 0 ≤ q ∧ q ≤ 9223372036854775807 ∧ 0 ≤ left ∧ left < c := by
  obtain ⟨a, b, d, e, _⟩ := h
  have := pow_le63 hn
  exact ⟨d, by omega, a, b⟩

/-- Behind bit n, too. -/
def DOut (p0 p1 c : Int) (n : Nat) (q left : Int) : Prop :=
  0 ≤ left ∧ left < c ∧ 0 ≤ q ∧ q < 2 ^ (64 - n) ∧ q * c + left = p0 * 2 ^ (64 - n) + p1 / 2 ^ n

theorem DOut_next {p0 p1 c : Int} {n : Nat} {q left : Int} (hn : n ≤ 63) (h0 : n ≠ 0) (h : DOut p0 p1 c n q left) : DInv p0 p1 c (n - 1) q left := by
  unfold DInv
  rw [show 63 - (n - 1) = 64 - n from by omega, show n - 1 + 1 = n from by omega]
  exact h

theorem DOut_end {p0 p1 c : Int} {q left : Int} (h : DOut p0 p1 c 0 q left) : q = (p0 * 18446744073709551616 + p1) / c ∧ left = (p0 * 18446744073709551616 + p1) % c ∧ 0 ≤ q ∧ q < 18446744073709551616 := by
  obtain ⟨h1, h2, h3, h4, h5⟩ := h
  have h6 : q * c + left = p0 * 18446744073709551616 + p1 := by simpa using h5
  rw [← h6, Int.mul_comm q c]
  refine ⟨?_, ?_, h3, by simpa using h4⟩
  · rw [Int.mul_add_ediv_left _ _ (by omega), Int.ediv_eq_zero_of_lt h1 h2]; omega
  · rw [Int.mul_add_emod_self_left, Int.emod_eq_of_lt h1 h2]

/-- The bit that comes in. -/
def dBit (b p1 : Int) (n : Nat) : Int := bits .or .u64 (b * 2) (bits .and .u64 (p1 / 2 ^ n) 1)

theorem div_pow_bd (p1 : Int) (n : Nat) (h1 : 0 ≤ p1) (h2 : p1 < 18446744073709551616) : 0 ≤ p1 / 2 ^ n ∧ p1 / 2 ^ n < 18446744073709551616 := by
  have hp : (0 : Int) < 2 ^ n := Int.pow_pos (by omega)
  exact ⟨Int.ediv_nonneg h1 (by omega), Int.lt_of_le_of_lt (Int.ediv_le_self _ h1) h2⟩

theorem dBit_eq (b p1 : Int) (n : Nat) (h1 : 0 ≤ p1) (h2 : p1 < 18446744073709551616) (h3 : 0 ≤ b) (h4 : b < 4611686018427387904) : dBit b p1 n = b * 2 + p1 / 2 ^ n % 2 := by
  have hp := div_pow_bd p1 n h1 h2
  unfold dBit
  rw [and1 _ hp.1 hp.2, or1 _ _ (by omega) (by omega) (by omega) (by omega) (by omega)]

theorem d_next {p0 p1 c : Int} {n : Nat} {q left : Int} (hn : n ≤ 63) (h : DInv p0 p1 c n q left) :
    (2 * q) * c + (left * 2 + p1 / 2 ^ n % 2) = p0 * 2 ^ (64 - n) + p1 / 2 ^ n ∧ 2 * q + 1 < 2 ^ (64 - n) := by
  obtain ⟨_, _, _, h4, h5⟩ := h
  have e1 : (2 : Int) ^ (64 - n) = 2 ^ (63 - n) * 2 := by rw [show 64 - n = (63 - n) + 1 from by omega, Int.pow_succ]
  have e2 : p1 / 2 ^ (n + 1) = p1 / 2 ^ n / 2 := by rw [Int.pow_succ, Int.ediv_ediv, if_neg (by have : (0 : Int) < 2 ^ n := Int.pow_pos (by omega); omega), Int.sub_zero]
  rw [e1, ← Int.mul_assoc p0, Int.mul_assoc 2 q c]
  rw [e2] at h5
  generalize p0 * 2 ^ (63 - n) = A at *
  generalize p1 / 2 ^ n = B at *
  generalize q * c = C at *
  exact ⟨by omega, by omega⟩

theorem d_hi {p0 p1 c : Int} {n : Nat} {q left : Int} (h1 : 0 ≤ p1) (h2 : p1 < 18446744073709551616) (hc : c ≤ 4611686018427387904) (hn : n ≤ 63) (h : DInv p0 p1 c n q left) (hge : c ≤ dBit left p1 n) :
    DOut p0 p1 c n (bits .or .u64 (q * 2) 1) (IntKind.u64.wrap (dBit left p1 n - c)) := by
  have hd := d_next hn h
  have hb := DInv_bd hn h
  obtain ⟨g1, g2, g3, g4⟩ := hb
  have he := dBit_eq left p1 n h1 h2 g3 (by omega)
  rw [he] at hge ⊢
  rw [or1 _ _ (by omega) (by omega) (by omega) (by omega) (by omega), IntKind.wrap_u64, Int.emod_eq_of_lt (by omega) (by omega)]
  refine ⟨by omega, by omega, by omega, by have := hd.2; omega, ?_⟩
  rw [← hd.1, Int.mul_comm q 2, Int.add_mul, Int.one_mul]
  omega

theorem d_lo {p0 p1 c : Int} {n : Nat} {q left : Int} (h1 : 0 ≤ p1) (h2 : p1 < 18446744073709551616) (hc : c ≤ 4611686018427387904) (hn : n ≤ 63) (h : DInv p0 p1 c n q left) (hlt : dBit left p1 n < c) :
    DOut p0 p1 c n (q * 2) (dBit left p1 n) := by
  have hd := d_next hn h
  have hb := DInv_bd hn h
  obtain ⟨g1, g2, g3, g4⟩ := hb
  have he := dBit_eq left p1 n h1 h2 g3 (by omega)
  rw [he] at hlt ⊢
  refine ⟨by omega, by omega, by omega, by have := hd.2; omega, ?_⟩
  rw [← hd.1, Int.mul_comm q 2]

theorem n_div_lt (N c : Int) (hc : 1 ≤ c) (h : N / c < 9223372036854775808) : N / 18446744073709551616 < c := by
  have h1 : N < 9223372036854775808 * c := by
    have := Int.lt_mul_of_ediv_lt (by omega : 0 < c) h
    exact this
  omega

theorem n_mul_bd (A B : Int) (ha : 0 ≤ A) (hb : 0 ≤ B) : 0 ≤ A * B := Int.mul_nonneg ha hb

end Go.Proofs.Ytoijjnhlmndhpaa
