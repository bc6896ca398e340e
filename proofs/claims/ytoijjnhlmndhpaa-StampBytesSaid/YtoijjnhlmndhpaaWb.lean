/-
  The walks of wide.product, divided, quotient, Floor, Ceil.
-/
import Derived.Test.YtoijjnhlmndhpaaWa
import Derived.Test.YtoijjnhlmndhpaaMa
namespace Go.Proofs.Ytoijjnhlmndhpaa
open Go.RowKit

theorem product_is (a b : Int) (ha : 0 ≤ a) (ha2 : a ≤ 4611686018427387904) (hb : 0 ≤ b) (hb2 : b ≤ 4611686018427387904) (w : World) :
    Calls Try.prog 39 #[.int .u64 a, .int .u64 b] w fun e w' => e = .returned (.agg #[.int .u64 (a * b / 18446744073709551616), .int .u64 (a * b % 18446744073709551616)]) ∧ Below w.heap.size w w' := by
  have H := Lib.hid (p_eq a b ha ha2 hb hb2)
  rw [← H.out.1, ← H.out.2]
  go_enter Try.func39, Try.ntmps39
  go_wp2
  exact bodyPost_ret (v := .agg #[.int .u64 (pHi a b), .int .u64 (pLo a b)]) (by simp [results, Try.results39, go_sem, pHi, pLo, pMid, pLow, pOne, pTwo]) rfl ⟨rfl, (Below.refl _ _).alloc (Nat.le_refl _) _⟩

theorem divided_no (p0 p1 c : Int) (h : c ≤ p0) (w : World) :
    Calls Try.prog 38 #[.agg #[.int .u64 p0, .int .u64 p1], .int .u64 c] w fun e w' => e = .returned (.tuple #[.int .u64 0, .int .u64 0, .bool false]) ∧ Below w.heap.size w w' := by
  go_enter Try.func38, Try.ntmps38
  go_wp2
  go_step3
  go_wp2
  rw [Exit.noGoto_ret]
  go_ret3
  exact ⟨rfl, (Below.refl _ _).alloc (Nat.le_refl _) _⟩

theorem divided_yes (p0 p1 c : Int) (h0 : 0 ≤ p0) (h1 : 0 ≤ p1) (h2 : p1 < 18446744073709551616) (h : p0 < c) (hc : c ≤ 4611686018427387904) (w : World) :
    Calls Try.prog 38 #[.agg #[.int .u64 p0, .int .u64 p1], .int .u64 c] w fun e w' => e = .returned (.tuple #[.int .u64 ((p0 * 18446744073709551616 + p1) / c), .int .u64 ((p0 * 18446744073709551616 + p1) % c), .bool ((p0 * 18446744073709551616 + p1) / c / 9223372036854775808 == 0)]) ∧ Below w.heap.size w w' := by
  go_enter Try.func38, Try.ntmps38
  go_wp2
  go_step3
  go_wp2
  go_step3
  go_wp2
  go_loop [4, 5, 7] (fun q l k => ∃ (a b : Int) (n : Nat), q = .int .u64 a ∧ l = .int .u64 b ∧ k = .int .i64 n ∧ n ≤ 63 ∧ DInv p0 p1 c n a b) (fun _ _ k => (intOf k).toNat)
  case atStart => exact ⟨0, p0, 63, rfl, rfl, rfl, by omega, DInv_start _ _ _ h0 h1 h2 h⟩
  case round =>
    obtain ⟨a, b, n, rfl, rfl, rfl, hn, hi⟩ := hrel
    obtain ⟨g1, g2, g3, g4⟩ := DInv_bd hn hi
    go_wp2
    · have ho := d_hi h1 h2 hc hn hi (by assumption)
      have hz : ((n : Int) == 0) = true := by assumption
      obtain rfl : n = 0 := by simpa using hz
      obtain ⟨e1, e2, _, _⟩ := DOut_end ho
      rw [← e1, ← e2]
      go_ret3
      exact ⟨rfl, (Below.refl _ _).alloc (Nat.le_refl _) _⟩
    · have ho := d_hi h1 h2 hc hn hi (by assumption)
      have hz : ((n : Int) == 0) = false := by assumption
      have hz : n ≠ 0 := by simpa using hz
      go_round
      case rel => exact ⟨_, _, n - 1, rfl, rfl, by go_num, by omega, DOut_next hn hz ho⟩
      case measure => simp [intOf]; omega
    · have ho := d_lo h1 h2 hc hn hi (by assumption)
      have hz : ((n : Int) == 0) = true := by assumption
      obtain rfl : n = 0 := by simpa using hz
      obtain ⟨e1, e2, _, _⟩ := DOut_end ho
      rw [← e1, ← e2]
      go_ret3
      exact ⟨rfl, (Below.refl _ _).alloc (Nat.le_refl _) _⟩
    · have ho := d_lo h1 h2 hc hn hi (by assumption)
      have hz : ((n : Int) == 0) = false := by assumption
      have hz : n ≠ 0 := by simpa using hz
      go_round
      case rel => exact ⟨_, _, n - 1, rfl, rfl, by go_num, by omega, DOut_next hn hz ho⟩
      case measure => simp [intOf]; omega

theorem divided_is (N c : Int) (p : Bool) (h0 : 0 ≤ N) (h : N / 18446744073709551616 < c) (hc : c ≤ 4611686018427387904) (hp : (N / c / 9223372036854775808 == 0) = p) (w : World) :
    Calls Try.prog 38 #[.agg #[.int .u64 (N / 18446744073709551616), .int .u64 (N % 18446744073709551616)], .int .u64 c] w fun e w' => e = .returned (.tuple #[.int .u64 (N / c), .int .u64 (N % c), .bool p]) ∧ Below w.heap.size w w' := by
  have := divided_yes (N / 18446744073709551616) (N % 18446744073709551616) c (by omega) (by omega) (by omega) h hc w
  rw [show N / 18446744073709551616 * 18446744073709551616 + N % 18446744073709551616 = N from by omega, hp] at this
  exact this

theorem results_tmp4 {fn : Func} {t u v x : Tmp} (h : fn.results = #[.tmp t, .tmp u, .tmp v, .tmp x]) (tmps : Array Value) (P : Program) (w : World) :
    (results fn tmps).run P w = .ok (.tuple #[tmps.getD t undef, tmps.getD u undef, tmps.getD v undef, tmps.getD x undef]) w := by
  simp [results, h]

theorem ret4 {k : IntKind} {a a' : Int} {p p' q q' r r' : Bool} (h1 : a = a') (h2 : p = p') (h3 : q = q') (h4 : r = r') :
    Ending.returned (.tuple #[.int k a, .bool p, .bool q, .bool r]) = .returned (.tuple #[.int k a', .bool p', .bool q', .bool r']) := by rw [h1, h2, h3, h4]

/-- Where the numbers can't be. -/
theorem quotient_bad (a b c : Int) (h : (smallB a && (smallB b && smallB c)) = false ∨ c < 1) (w : World) :
    Calls Try.prog 37 #[.int .i64 a, .int .i64 b, .int .i64 c] w fun e w' => e = .returned (.tuple #[.int .i64 0, .bool false, .bool false, .bool false]) ∧ Below w.heap.size w w' := by
  cases hs : (smallB a && (smallB b && smallB c)) with
  | false =>
    go_enter Try.func37, Try.ntmps37
    go_wp2_with fail
    refine (small3 a b c _ hs _ _ (by simp) (by simp) (by simp)).mono ?_
    rintro e w1 ⟨rfl, rfl⟩
    go_wp2
    exact bodyPost_ret (results_tmp4 rfl _ _ _) rfl ⟨rfl, (Below.refl _ _).alloc (Nat.le_refl _) _⟩
  | true =>
    have hc : c < 1 := by rcases h with h | h; (rw [hs] at h; cases h); exact h
    clear h
    go_enter Try.func37, Try.ntmps37
    go_wp2_with fail
    refine (small3 a b c _ hs _ _ (by simp) (by simp) (by simp)).mono ?_
    rintro e w1 ⟨rfl, rfl⟩
    go_wp2
    exact bodyPost_ret (results_tmp4 rfl _ _ _) rfl ⟨rfl, (Below.refl _ _).alloc (Nat.le_refl _) _⟩

theorem absP_bd {a : Int} (h : smallB a = true) : 0 ≤ absP a ∧ absP a ≤ 4611686018427387904 := by
  have := smallB_iff.1 h
  unfold absP; rw [if_pos h]; split <;> omega

/-- Where they can, and the quotient has not more than 63 bits. -/
theorem quotient_yes (a b c A B q : Int) (below more : Bool) (hs : (smallB a && (smallB b && smallB c)) = true) (hc : 1 ≤ c) (hA : absP a = A) (hB : absP b = B) (hq : A * B / c = q) (hq2 : q < 9223372036854775808)
    (hbelow : (decide (a < 0) != decide (b < 0)) = below) (hmore : decide (0 < A * B % c) = more) (w : World) :
    Calls Try.prog 37 #[.int .i64 a, .int .i64 b, .int .i64 c] w fun e w' => e = .returned (.tuple #[.int .i64 q, .bool below, .bool more, .bool true]) ∧ Below w.heap.size w w' := by
  obtain ⟨ha, hbc⟩ := Bool.and_eq_true_iff.1 hs
  obtain ⟨hb, hcs⟩ := Bool.and_eq_true_iff.1 hbc
  have hA1 := absP_bd ha
  have hB1 := absP_bd hb
  have hc1 := smallB_iff.1 hcs
  rw [hA] at hA1
  rw [hB] at hB1
  obtain ⟨hA1, hA2⟩ := hA1
  obtain ⟨hB1, hB2⟩ := hB1
  obtain ⟨hc3, hc4⟩ := hc1
  have hN := n_mul_bd A B hA1 hB1
  have hlt := Lib.hid (n_div_lt (A * B) c hc (by rw [hq]; exact hq2))
  have hq1 : 0 ≤ q := by rw [← hq]; exact Int.ediv_nonneg hN (by omega)
  have hp := Lib.hid (show (A * B / c / 9223372036854775808 == 0) = true by rw [hq]; simp; omega)
  have HA := Lib.hid hA
  have HB := Lib.hid hB
  have Hq := Lib.hid hq
  have Hbelow := Lib.hid hbelow
  have Hmore := Lib.hid hmore
  clear hA hB hq hbelow hmore ha hb hbc hcs
  go_enter Try.func37, Try.ntmps37
  go_wp2_with fail
  refine (small3 a b c _ hs _ _ (by simp) (by simp) (by simp)).mono ?_
  rintro e w1 ⟨rfl, rfl⟩
  go_wp2_with fail
  refine (Abs_is a A HA _).mono ?_
  rintro e w1 ⟨rfl, hb1⟩
  go_wp2_with fail
  refine (Abs_is b B HB _).mono ?_
  rintro e w2 ⟨rfl, hb2⟩
  go_wp2_with fail
  refine (product_is A B hA1 hA2 hB1 hB2 _).mono ?_
  rintro e w3 ⟨rfl, hb3⟩
  go_wp2_with fail
  refine (divided_is (A * B) c _ hN hlt.out hc4 hp.out _).mono ?_
  rintro e w4 ⟨rfl, hb4⟩
  rw [Hq.out]
  go_wp2
  refine bodyPost_ret (results_tmp4 rfl _ _ _) rfl ?_
  exact ⟨ret4 rfl Hbelow.out Hmore.out rfl, bstep (bstep (bstep (bstep (balloc (brefl w) _) hb1) hb2) hb3) hb4⟩

/-- Where it has more. -/
def NoQuotient (w : World) (e : Ending) (w' : World) : Prop := ∃ (q : Int) (x y : Bool), e = .returned (.tuple #[.int .i64 q, .bool x, .bool y, .bool false]) ∧ Below w.heap.size w w'

set_option maxHeartbeats 400000 in
theorem quotient_no (a b c A B : Int) (hs : (smallB a && (smallB b && smallB c)) = true) (hc : 1 ≤ c) (hA : absP a = A) (hB : absP b = B) (hq2 : 9223372036854775808 ≤ A * B / c) (w : World) :
    Calls Try.prog 37 #[.int .i64 a, .int .i64 b, .int .i64 c] w (NoQuotient w) := by
  obtain ⟨ha, hbc⟩ := Bool.and_eq_true_iff.1 hs
  obtain ⟨hb, hcs⟩ := Bool.and_eq_true_iff.1 hbc
  have hA1 := absP_bd ha
  have hB1 := absP_bd hb
  have hc1 := smallB_iff.1 hcs
  rw [hA] at hA1
  rw [hB] at hB1
  obtain ⟨hA1, hA2⟩ := hA1
  obtain ⟨hB1, hB2⟩ := hB1
  obtain ⟨hc3, hc4⟩ := hc1
  have hN := n_mul_bd A B hA1 hB1
  have HA := Lib.hid hA
  have HB := Lib.hid hB
  clear hA hB ha hb hbc hcs
  by_cases hlt0 : A * B / 18446744073709551616 < c
  · have hp := Lib.hid (show (A * B / c / 9223372036854775808 == 0) = false by simp; omega)
    have hlt := Lib.hid hlt0
    clear hlt0 hq2
    go_enter Try.func37, Try.ntmps37
    go_wp2_with fail
    refine (small3 a b c _ hs _ _ (by simp) (by simp) (by simp)).mono ?_
    rintro e w1 ⟨rfl, rfl⟩
    go_wp2_with fail
    refine (Abs_is a A HA _).mono ?_
    rintro e w1 ⟨rfl, hb1⟩
    go_wp2_with fail
    refine (Abs_is b B HB _).mono ?_
    rintro e w2 ⟨rfl, hb2⟩
    go_wp2_with fail
    refine (product_is A B hA1 hA2 hB1 hB2 _).mono ?_
    rintro e w3 ⟨rfl, hb3⟩
    go_wp2_with fail
    refine (divided_is (A * B) c _ hN hlt.out hc4 hp.out _).mono ?_
    rintro e w4 ⟨rfl, hb4⟩
    go_wp2
    exact bodyPost_ret (results_tmp4 rfl _ _ _) rfl ⟨_, _, _, rfl, bstep (bstep (bstep (bstep (balloc (brefl w) _) hb1) hb2) hb3) hb4⟩
  · have hge := Lib.hid (show c ≤ A * B / 18446744073709551616 by omega)
    clear hlt0 hq2
    go_enter Try.func37, Try.ntmps37
    go_wp2_with fail
    refine (small3 a b c _ hs _ _ (by simp) (by simp) (by simp)).mono ?_
    rintro e w1 ⟨rfl, rfl⟩
    go_wp2_with fail
    refine (Abs_is a A HA _).mono ?_
    rintro e w1 ⟨rfl, hb1⟩
    go_wp2_with fail
    refine (Abs_is b B HB _).mono ?_
    rintro e w2 ⟨rfl, hb2⟩
    go_wp2_with fail
    refine (product_is A B hA1 hA2 hB1 hB2 _).mono ?_
    rintro e w3 ⟨rfl, hb3⟩
    go_wp2_with fail
    refine (divided_no _ _ c hge.out _).mono ?_
    rintro e w4 ⟨rfl, hb4⟩
    go_wp2
    exact bodyPost_ret (results_tmp4 rfl _ _ _) rfl ⟨_, _, _, rfl, bstep (bstep (bstep (bstep (balloc (brefl w) _) hb1) hb2) hb3) hb4⟩
end Go.Proofs.Ytoijjnhlmndhpaa
