/-
  The reference's Add, Sub and Mul: the walks.
-/
import Derived.Test.YtaahobgjkkeccaaRv
import Derived.Test.YtaahobgjkkeccaaMd
namespace Go.Proofs.Ytaahobgjkkeccaa
open Go.RowKit

theorem and_tt {p q : Bool} (h : (p && q) = true) : p = true ∧ q = true := by cases p <;> cases q <;> simp_all

/-- Signs that are not alike. -/
theorem add_apart {a b : Int} (ha : smallB a = true) (hb : smallB b = true) (h : (decide (a < 0) != decide (b < 0)) = true) : addP a b = (a + b, true) := by
  have h1 := smallB_iff.1 ha
  have h2 := smallB_iff.1 hb
  unfold addP
  rw [if_pos (by rw [ha, hb]; rfl)]
  refine told_t (smallB_iff.2 ?_)
  by_cases h3 : a < 0 <;> by_cases h4 : b < 0 <;> simp [h3, h4] at h <;> omega
/-- Signs that are. -/
theorem add_alike {a b A B x : Int} {p : Bool} (ha : smallB a = true) (hb : smallB b = true) (h : (decide (a < 0) != decide (b < 0)) = false) (hA : absP a = A) (hB : absP b = B)
    (hx : (if 4611686018427387904 < A + B then ((0 : Int), false) else (A + B, true)) = (x, p)) : addP a b = (if a < 0 then -x else x, p) := by
  have h1 := smallB_iff.1 ha
  have h2 := smallB_iff.1 hb
  unfold absP at hA hB
  rw [if_pos ha] at hA
  rw [if_pos hb] at hB
  subst hA hB
  unfold addP
  rw [if_pos (by rw [ha, hb]; rfl)]
  by_cases h3 : a < 0
  · have h4 : b < 0 := by
      by_cases h4 : b < 0
      · exact h4
      · simp [h3, h4] at h
    rw [if_pos h3, if_pos h4] at hx
    rw [if_pos h3]
    split at hx
    · obtain ⟨rfl, rfl⟩ := Prod.mk.inj hx
      rw [told_f (smallB_low (by omega))]; rfl
    · obtain ⟨rfl, rfl⟩ := Prod.mk.inj hx
      rw [told_t (smallB_true (by omega) (by omega))]; congr 1; omega
  · have h4 : ¬ b < 0 := by
      intro h4
      simp [h3, h4] at h
    rw [if_neg h3, if_neg h4] at hx
    rw [if_neg h3]
    split at hx
    · obtain ⟨rfl, rfl⟩ := Prod.mk.inj hx
      rw [told_f (smallB_high (by omega))]
    · obtain ⟨rfl, rfl⟩ := Prod.mk.inj hx
      rw [told_t (smallB_true (by omega) (by omega))]
theorem mul_any {a b A B x : Int} {p : Bool} (ha : smallB a = true) (hb : smallB b = true) (hA : absP a = A) (hB : absP b = B)
    (hx : (if 4611686018427387904 < A * B then ((0 : Int), false) else (A * B, true)) = (x, p)) : mulP a b = (if (decide (a < 0) != decide (b < 0)) = true then -x else x, p) := by
  have hm := abs_mul ha hb hA hB
  have hA1 := absP_bd ha
  have hB1 := absP_bd hb
  rw [hA] at hA1
  rw [hB] at hB1
  have hN := Int.mul_nonneg hA1.1 hB1.1
  unfold mulP
  rw [if_pos (by rw [ha, hb]; rfl)]
  cases hs : (decide (a < 0) != decide (b < 0)) with
  | true =>
    rw [hm.2 hs, if_pos rfl]
    split at hx
    · obtain ⟨rfl, rfl⟩ := Prod.mk.inj hx
      rw [told_f (smallB_low (by omega))]; rfl
    · obtain ⟨rfl, rfl⟩ := Prod.mk.inj hx
      rw [told_t (smallB_true (by omega) (by omega))]
  | false =>
    rw [hm.1 hs, if_neg (by decide)]
    split at hx
    · obtain ⟨rfl, rfl⟩ := Prod.mk.inj hx
      rw [told_f (smallB_high (by omega))]
    · obtain ⟨rfl, rfl⟩ := Prod.mk.inj hx
      rw [told_t (smallB_true (by omega) (by omega))]
theorem pair_bd {n x : Int} {p : Bool} (h0 : 0 ≤ n) (hx : (if 4611686018427387904 < n then ((0 : Int), false) else (n, true)) = (x, p)) : 0 ≤ x ∧ x ≤ 4611686018427387904 := by
  split at hx
  · obtain ⟨rfl, rfl⟩ := Prod.mk.inj hx; omega
  · obtain ⟨rfl, rfl⟩ := Prod.mk.inj hx; omega

theorem beq_of_bne {p q r : Bool} (h : (p != q) = r) : (p == q) = !r := by cases p <;> cases q <;> cases r <;> simp_all

theorem add_no {a b : Int} (h : (smallB a && smallB b) = false) : addP a b = (0, false) := by unfold addP; rw [if_neg (by rw [h]; decide)]
theorem mul_no {a b : Int} (h : (smallB a && smallB b) = false) : mulP a b = (0, false) := by unfold mulP; rw [if_neg (by rw [h]; decide)]

theorem rAdd_is (a b x : Int) (p : Bool) (H : Hid (addP a b = (x, p))) (w : World) :
    Calls Try.prog 18 #[.int .i64 a, .int .i64 b] w fun e w' => e = .returned (.tuple #[.int .i64 x, .bool p]) ∧ Below w.heap.size w w' := by
  cases ha : smallB a with
  | false =>
    obtain ⟨rfl, rfl⟩ := Prod.mk.inj ((add_no (by rw [ha]; rfl)).symm.trans H.out)
    clear H
    go_enter Try.func18, Try.ntmps18
    go_wp2_with fail
    refine (rSmall_is _ _ ha _).mono ?_
    rintro e w1 ⟨rfl, hb1⟩
    go_wp2
    go_ret2
    exact ⟨rfl, (by repeat (first | exact brefl _ | refine balloc ?_ _ | refine bstep ?_ (by assumption)))⟩
  | true =>
    cases hb : smallB b with
    | false =>
      obtain ⟨rfl, rfl⟩ := Prod.mk.inj ((add_no (by rw [ha, hb]; rfl)).symm.trans H.out)
      clear H
      go_enter Try.func18, Try.ntmps18
      go_wp2_with fail
      refine (rSmall_is _ _ ha _).mono ?_
      rintro e w1 ⟨rfl, hb1⟩
      go_wp2_with fail
      refine (rSmall_is _ _ hb _).mono ?_
      rintro e w2 ⟨rfl, hb2⟩
      go_wp2
      go_ret2
      exact ⟨rfl, (by repeat (first | exact brefl _ | refine balloc ?_ _ | refine bstep ?_ (by assumption)))⟩
    | true =>
      have h1 := smallB_iff.1 ha
      have h2 := smallB_iff.1 hb
      cases hs : (decide (a < 0) != decide (b < 0)) with
      | true =>
        obtain ⟨rfl, rfl⟩ := Prod.mk.inj ((add_apart ha hb hs).symm.trans H.out)
        clear H
        have hsum : -4611686018427387904 ≤ a + b ∧ a + b ≤ 4611686018427387904 := by
          by_cases h3 : a < 0 <;> by_cases h4 : b < 0 <;> simp [h3, h4] at hs <;> omega
        obtain ⟨g1, g2⟩ := hsum
        have hse : (decide (a < 0) == decide (b < 0)) = false := beq_of_bne hs
        clear hs
        go_enter Try.func18, Try.ntmps18
        go_wp2_with fail
        refine (rSmall_is _ _ ha _).mono ?_
        rintro e w1 ⟨rfl, hb1⟩
        go_wp2_with fail
        refine (rSmall_is _ _ hb _).mono ?_
        rintro e w2 ⟨rfl, hb2⟩
        go_wp2
        go_ret2
        exact ⟨rfl, (by repeat (first | exact brefl _ | refine balloc ?_ _ | refine bstep ?_ (by assumption)))⟩
      | false =>
        obtain ⟨A, hA⟩ : ∃ A, absP a = A := ⟨_, rfl⟩
        obtain ⟨B, hB⟩ : ∃ B, absP b = B := ⟨_, rfl⟩
        have hA1 := absP_bd ha
        have hB1 := absP_bd hb
        rw [hA] at hA1
        rw [hB] at hB1
        obtain ⟨hA1, hA2⟩ := hA1
        obtain ⟨hB1, hB2⟩ := hB1
        obtain ⟨y, q, hy⟩ : ∃ y q, (if 4611686018427387904 < A + B then ((0 : Int), false) else (A + B, true)) = (y, q) := ⟨_, _, rfl⟩
        have hyb := pair_bd (by omega) hy
        have hf := (add_alike ha hb hs hA hB hy).symm.trans H.out
        have HA := Lib.hid hA
        have HB := Lib.hid hB
        have HY := Lib.hid hy
        have hse : (decide (a < 0) == decide (b < 0)) = true := beq_of_bne hs
        clear H hA hB hy hs
        by_cases hneg : a < 0
        · have hbn : b < 0 := by
            by_cases h4 : b < 0
            · exact h4
            · simp [hneg, h4] at hse
          clear hse
          rw [if_pos hneg] at hf
          obtain ⟨rfl, rfl⟩ := Prod.mk.inj hf
          clear hf
          go_enter Try.func18, Try.ntmps18
          go_wp2_with fail
          refine (rSmall_is _ _ ha _).mono ?_
          rintro e w1 ⟨rfl, hb1⟩
          go_wp2_with fail
          refine (rSmall_is _ _ hb _).mono ?_
          rintro e w2 ⟨rfl, hb2⟩
          go_wp2_with fail
          refine (rAbs_is _ _ HA _).mono ?_
          rintro e w3 ⟨rfl, hb3⟩
          go_wp2_with fail
          refine (digits_c hA1 (by omega) _).mono ?_
          rintro e w4 ⟨v1, d1, rfl, hR1, hd1, hb4⟩
          have K1 := Lib.hid hR1
          have D1 := Lib.hid hd1
          clear hR1 hd1
          go_wp2_with fail
          refine (rAbs_is _ _ HB _).mono ?_
          rintro e w5 ⟨rfl, hb5⟩
          go_wp2_with fail
          refine (digits_c hB1 (by omega) _).mono ?_
          rintro e w6 ⟨v2, d2, rfl, hR2, hd2, hb6⟩
          have K2 := Lib.hid hR2
          have D2 := Lib.hid hd2
          clear hR2 hd2
          go_wp2_with fail
          refine (sum_c ((K1.out.keep hb5).keep hb6) K2.out D1.out.d D2.out.d (by have := D1.out.l; omega) (by have := D2.out.l; omega)).mono ?_
          rintro e w7 ⟨v3, d3, rfl, hR3, hd3, hb7⟩
          have K3 := Lib.hid hR3
          have D3 := Lib.hid hd3
          clear hR3 hd3
          go_wp2_with fail
          refine (value_c K3.out D3.out.2.1 (by have := D1.out.l; have := D2.out.l; have := D3.out.2.2; omega) y q (by rw [D3.out.1, D1.out.v, D2.out.v]; exact HY)).mono ?_
          rintro e w8 ⟨rfl, hb8⟩
          go_wp2
          go_ret2
          exact ⟨rfl, (by repeat (first | exact brefl _ | refine balloc ?_ _ | refine bstep ?_ (by assumption)))⟩
        · have hbn : ¬ b < 0 := by
            intro h4
            simp [hneg, h4] at hse
          clear hse
          have da : decide (a < 0) = false := decide_eq_false hneg
          have db : decide (b < 0) = false := decide_eq_false hbn
          rw [if_neg hneg] at hf
          obtain ⟨rfl, rfl⟩ := Prod.mk.inj hf
          clear hf
          go_enter Try.func18, Try.ntmps18
          go_wp2_with fail
          refine (rSmall_is _ _ ha _).mono ?_
          rintro e w1 ⟨rfl, hb1⟩
          go_wp2_with fail
          refine (rSmall_is _ _ hb _).mono ?_
          rintro e w2 ⟨rfl, hb2⟩
          go_wp2_with fail
          refine (rAbs_is _ _ HA _).mono ?_
          rintro e w3 ⟨rfl, hb3⟩
          go_wp2_with fail
          refine (digits_c hA1 (by omega) _).mono ?_
          rintro e w4 ⟨v1, d1, rfl, hR1, hd1, hb4⟩
          have K1 := Lib.hid hR1
          have D1 := Lib.hid hd1
          clear hR1 hd1
          go_wp2_with fail
          refine (rAbs_is _ _ HB _).mono ?_
          rintro e w5 ⟨rfl, hb5⟩
          go_wp2_with fail
          refine (digits_c hB1 (by omega) _).mono ?_
          rintro e w6 ⟨v2, d2, rfl, hR2, hd2, hb6⟩
          have K2 := Lib.hid hR2
          have D2 := Lib.hid hd2
          clear hR2 hd2
          go_wp2_with fail
          refine (sum_c ((K1.out.keep hb5).keep hb6) K2.out D1.out.d D2.out.d (by have := D1.out.l; omega) (by have := D2.out.l; omega)).mono ?_
          rintro e w7 ⟨v3, d3, rfl, hR3, hd3, hb7⟩
          have K3 := Lib.hid hR3
          have D3 := Lib.hid hd3
          clear hR3 hd3
          go_wp2_with fail
          refine (value_c K3.out D3.out.2.1 (by have := D1.out.l; have := D2.out.l; have := D3.out.2.2; omega) y q (by rw [D3.out.1, D1.out.v, D2.out.v]; exact HY)).mono ?_
          rintro e w8 ⟨rfl, hb8⟩
          go_wp2
          go_ret2
          exact ⟨rfl, (by repeat (first | exact brefl _ | refine balloc ?_ _ | refine bstep ?_ (by assumption)))⟩

theorem rSub_is (a b x : Int) (p : Bool) (H : Hid (subP a b = (x, p))) (w : World) :
    Calls Try.prog 19 #[.int .i64 a, .int .i64 b] w fun e w' => e = .returned (.tuple #[.int .i64 x, .bool p]) ∧ Below w.heap.size w w' := by
  cases hs : smallB b with
  | true =>
    have H2 : Hid (addP a (-b) = (x, p)) := (sub_add a b).trans H.out
    have hb := smallB_iff.1 hs
    clear H
    go_enter Try.func19, Try.ntmps19
    go_wp2_with fail
    refine (rSmall_is _ _ hs _).mono ?_
    rintro e w1 ⟨rfl, hb1⟩
    go_wp2_with fail
    refine (rAdd_is _ _ _ _ H2 _).mono ?_
    rintro e w2 ⟨rfl, hb2⟩
    go_wp2
    go_ret2
    exact ⟨rfl, (by repeat (first | exact brefl _ | refine balloc ?_ _ | refine bstep ?_ (by assumption)))⟩
  | false =>
    obtain ⟨rfl, rfl⟩ := Prod.mk.inj ((sub_no a b hs).symm.trans H.out)
    go_enter Try.func19, Try.ntmps19
    go_wp2_with fail
    refine (rSmall_is _ _ hs _).mono ?_
    rintro e w1 ⟨rfl, hb1⟩
    go_wp2
    go_ret2
    exact ⟨rfl, (by repeat (first | exact brefl _ | refine balloc ?_ _ | refine bstep ?_ (by assumption)))⟩

theorem rMul_is (a b x : Int) (p : Bool) (H : Hid (mulP a b = (x, p))) (w : World) :
    Calls Try.prog 20 #[.int .i64 a, .int .i64 b] w fun e w' => e = .returned (.tuple #[.int .i64 x, .bool p]) ∧ Below w.heap.size w w' := by
  cases ha : smallB a with
  | false =>
    obtain ⟨rfl, rfl⟩ := Prod.mk.inj ((mul_no (by rw [ha]; rfl)).symm.trans H.out)
    clear H
    go_enter Try.func20, Try.ntmps20
    go_wp2_with fail
    refine (rSmall_is _ _ ha _).mono ?_
    rintro e w1 ⟨rfl, hb1⟩
    go_wp2
    go_ret2
    exact ⟨rfl, (by repeat (first | exact brefl _ | refine balloc ?_ _ | refine bstep ?_ (by assumption)))⟩
  | true =>
    cases hb : smallB b with
    | false =>
      obtain ⟨rfl, rfl⟩ := Prod.mk.inj ((mul_no (by rw [ha, hb]; rfl)).symm.trans H.out)
      clear H
      go_enter Try.func20, Try.ntmps20
      go_wp2_with fail
      refine (rSmall_is _ _ ha _).mono ?_
      rintro e w1 ⟨rfl, hb1⟩
      go_wp2_with fail
      refine (rSmall_is _ _ hb _).mono ?_
      rintro e w2 ⟨rfl, hb2⟩
      go_wp2
      go_ret2
      exact ⟨rfl, (by repeat (first | exact brefl _ | refine balloc ?_ _ | refine bstep ?_ (by assumption)))⟩
    | true =>
      have h1 := smallB_iff.1 ha
      have h2 := smallB_iff.1 hb
      obtain ⟨A, hA⟩ : ∃ A, absP a = A := ⟨_, rfl⟩
      obtain ⟨B, hB⟩ : ∃ B, absP b = B := ⟨_, rfl⟩
      have hA1 := absP_bd ha
      have hB1 := absP_bd hb
      rw [hA] at hA1
      rw [hB] at hB1
      obtain ⟨hA1, hA2⟩ := hA1
      obtain ⟨hB1, hB2⟩ := hB1
      obtain ⟨y, q, hy⟩ : ∃ y q, (if 4611686018427387904 < A * B then ((0 : Int), false) else (A * B, true)) = (y, q) := ⟨_, _, rfl⟩
      have hyb := pair_bd (Int.mul_nonneg hA1 hB1) hy
      have hf := (mul_any ha hb hA hB hy).symm.trans H.out
      have HA := Lib.hid hA
      have HB := Lib.hid hB
      have HY := Lib.hid hy
      clear H hA hB hy
      have body : ∀ (t : Bool), (decide (a < 0) != decide (b < 0)) = t → Hid ((if t = true then -y else y, q) = (x, p)) → Calls Try.prog 20 #[.int .i64 a, .int .i64 b] w fun e w' => e = .returned (.tuple #[.int .i64 x, .bool p]) ∧ Below w.heap.size w w' := by
        intro t ht hf
        by_cases h3 : a < 0
        · by_cases h4 : b < 0
          · obtain rfl : t = false := by rw [← ht]; simp [h3, h4]
            have hf := hf.out
            rw [if_neg (by decide)] at hf
            obtain ⟨rfl, rfl⟩ := Prod.mk.inj hf
            clear hf ht
            go_enter Try.func20, Try.ntmps20
            go_wp2_with fail
            refine (rSmall_is _ _ ha _).mono ?_
            rintro e w1 ⟨rfl, hb1⟩
            go_wp2_with fail
            refine (rSmall_is _ _ hb _).mono ?_
            rintro e w2 ⟨rfl, hb2⟩
            go_wp2_with fail
            refine (rAbs_is _ _ HA _).mono ?_
            rintro e w3 ⟨rfl, hb3⟩
            go_wp2_with fail
            refine (digits_c hA1 (by omega) _).mono ?_
            rintro e w4 ⟨v1, d1, rfl, hR1, hd1, hb4⟩
            have K1 := Lib.hid hR1
            have D1 := Lib.hid hd1
            clear hR1 hd1
            go_wp2_with fail
            refine (rAbs_is _ _ HB _).mono ?_
            rintro e w5 ⟨rfl, hb5⟩
            go_wp2_with fail
            refine (digits_c hB1 (by omega) _).mono ?_
            rintro e w6 ⟨v2, d2, rfl, hR2, hd2, hb6⟩
            have K2 := Lib.hid hR2
            have D2 := Lib.hid hd2
            clear hR2 hd2
            go_wp2_with fail
            refine (product_c ((K1.out.keep hb5).keep hb6) K2.out D1.out.d D2.out.d (by have := D1.out.l; omega) (by have := D2.out.l; omega)).mono ?_
            rintro e w7 ⟨v3, d3, rfl, hR3, hd3, hb7⟩
            have K3 := Lib.hid hR3
            have D3 := Lib.hid hd3
            clear hR3 hd3
            go_wp2_with fail
            refine (value_c K3.out D3.out.d (by have := D1.out.l; have := D2.out.l; have := D3.out.l; omega) y q (by rw [D3.out.v, D1.out.v, D2.out.v]; exact HY)).mono ?_
            rintro e w8 ⟨rfl, hb8⟩
            go_wp2
            go_ret2
            exact ⟨rfl, (by repeat (first | exact brefl _ | refine balloc ?_ _ | refine bstep ?_ (by assumption)))⟩
          · obtain rfl : t = true := by rw [← ht]; simp [h3, h4]
            have hf := hf.out
            rw [if_pos rfl] at hf
            obtain ⟨rfl, rfl⟩ := Prod.mk.inj hf
            clear hf ht
            have db : decide (b < 0) = false := decide_eq_false h4
            go_enter Try.func20, Try.ntmps20
            go_wp2_with fail
            refine (rSmall_is _ _ ha _).mono ?_
            rintro e w1 ⟨rfl, hb1⟩
            go_wp2_with fail
            refine (rSmall_is _ _ hb _).mono ?_
            rintro e w2 ⟨rfl, hb2⟩
            go_wp2_with fail
            refine (rAbs_is _ _ HA _).mono ?_
            rintro e w3 ⟨rfl, hb3⟩
            go_wp2_with fail
            refine (digits_c hA1 (by omega) _).mono ?_
            rintro e w4 ⟨v1, d1, rfl, hR1, hd1, hb4⟩
            have K1 := Lib.hid hR1
            have D1 := Lib.hid hd1
            clear hR1 hd1
            go_wp2_with fail
            refine (rAbs_is _ _ HB _).mono ?_
            rintro e w5 ⟨rfl, hb5⟩
            go_wp2_with fail
            refine (digits_c hB1 (by omega) _).mono ?_
            rintro e w6 ⟨v2, d2, rfl, hR2, hd2, hb6⟩
            have K2 := Lib.hid hR2
            have D2 := Lib.hid hd2
            clear hR2 hd2
            go_wp2_with fail
            refine (product_c ((K1.out.keep hb5).keep hb6) K2.out D1.out.d D2.out.d (by have := D1.out.l; omega) (by have := D2.out.l; omega)).mono ?_
            rintro e w7 ⟨v3, d3, rfl, hR3, hd3, hb7⟩
            have K3 := Lib.hid hR3
            have D3 := Lib.hid hd3
            clear hR3 hd3
            go_wp2_with fail
            refine (value_c K3.out D3.out.d (by have := D1.out.l; have := D2.out.l; have := D3.out.l; omega) y q (by rw [D3.out.v, D1.out.v, D2.out.v]; exact HY)).mono ?_
            rintro e w8 ⟨rfl, hb8⟩
            go_wp2
            go_ret2
            exact ⟨rfl, (by repeat (first | exact brefl _ | refine balloc ?_ _ | refine bstep ?_ (by assumption)))⟩
        · by_cases h4 : b < 0
          · obtain rfl : t = true := by rw [← ht]; simp [h3, h4]
            have hf := hf.out
            rw [if_pos rfl] at hf
            obtain ⟨rfl, rfl⟩ := Prod.mk.inj hf
            clear hf ht
            have da : decide (a < 0) = false := decide_eq_false h3
            go_enter Try.func20, Try.ntmps20
            go_wp2_with fail
            refine (rSmall_is _ _ ha _).mono ?_
            rintro e w1 ⟨rfl, hb1⟩
            go_wp2_with fail
            refine (rSmall_is _ _ hb _).mono ?_
            rintro e w2 ⟨rfl, hb2⟩
            go_wp2_with fail
            refine (rAbs_is _ _ HA _).mono ?_
            rintro e w3 ⟨rfl, hb3⟩
            go_wp2_with fail
            refine (digits_c hA1 (by omega) _).mono ?_
            rintro e w4 ⟨v1, d1, rfl, hR1, hd1, hb4⟩
            have K1 := Lib.hid hR1
            have D1 := Lib.hid hd1
            clear hR1 hd1
            go_wp2_with fail
            refine (rAbs_is _ _ HB _).mono ?_
            rintro e w5 ⟨rfl, hb5⟩
            go_wp2_with fail
            refine (digits_c hB1 (by omega) _).mono ?_
            rintro e w6 ⟨v2, d2, rfl, hR2, hd2, hb6⟩
            have K2 := Lib.hid hR2
            have D2 := Lib.hid hd2
            clear hR2 hd2
            go_wp2_with fail
            refine (product_c ((K1.out.keep hb5).keep hb6) K2.out D1.out.d D2.out.d (by have := D1.out.l; omega) (by have := D2.out.l; omega)).mono ?_
            rintro e w7 ⟨v3, d3, rfl, hR3, hd3, hb7⟩
            have K3 := Lib.hid hR3
            have D3 := Lib.hid hd3
            clear hR3 hd3
            go_wp2_with fail
            refine (value_c K3.out D3.out.d (by have := D1.out.l; have := D2.out.l; have := D3.out.l; omega) y q (by rw [D3.out.v, D1.out.v, D2.out.v]; exact HY)).mono ?_
            rintro e w8 ⟨rfl, hb8⟩
            go_wp2
            go_ret2
            exact ⟨rfl, (by repeat (first | exact brefl _ | refine balloc ?_ _ | refine bstep ?_ (by assumption)))⟩
          · obtain rfl : t = false := by rw [← ht]; simp [h3, h4]
            have hf := hf.out
            rw [if_neg (by decide)] at hf
            obtain ⟨rfl, rfl⟩ := Prod.mk.inj hf
            clear hf ht
            have da : decide (a < 0) = false := decide_eq_false h3
            have db : decide (b < 0) = false := decide_eq_false h4
            go_enter Try.func20, Try.ntmps20
            go_wp2_with fail
            refine (rSmall_is _ _ ha _).mono ?_
            rintro e w1 ⟨rfl, hb1⟩
            go_wp2_with fail
            refine (rSmall_is _ _ hb _).mono ?_
            rintro e w2 ⟨rfl, hb2⟩
            go_wp2_with fail
            refine (rAbs_is _ _ HA _).mono ?_
            rintro e w3 ⟨rfl, hb3⟩
            go_wp2_with fail
            refine (digits_c hA1 (by omega) _).mono ?_
            rintro e w4 ⟨v1, d1, rfl, hR1, hd1, hb4⟩
            have K1 := Lib.hid hR1
            have D1 := Lib.hid hd1
            clear hR1 hd1
            go_wp2_with fail
            refine (rAbs_is _ _ HB _).mono ?_
            rintro e w5 ⟨rfl, hb5⟩
            go_wp2_with fail
            refine (digits_c hB1 (by omega) _).mono ?_
            rintro e w6 ⟨v2, d2, rfl, hR2, hd2, hb6⟩
            have K2 := Lib.hid hR2
            have D2 := Lib.hid hd2
            clear hR2 hd2
            go_wp2_with fail
            refine (product_c ((K1.out.keep hb5).keep hb6) K2.out D1.out.d D2.out.d (by have := D1.out.l; omega) (by have := D2.out.l; omega)).mono ?_
            rintro e w7 ⟨v3, d3, rfl, hR3, hd3, hb7⟩
            have K3 := Lib.hid hR3
            have D3 := Lib.hid hd3
            clear hR3 hd3
            go_wp2_with fail
            refine (value_c K3.out D3.out.d (by have := D1.out.l; have := D2.out.l; have := D3.out.l; omega) y q (by rw [D3.out.v, D1.out.v, D2.out.v]; exact HY)).mono ?_
            rintro e w8 ⟨rfl, hb8⟩
            go_wp2
            go_ret2
            exact ⟨rfl, (by repeat (first | exact brefl _ | refine balloc ?_ _ | refine bstep ?_ (by assumption)))⟩
      exact body _ rfl hf
end Go.Proofs.Ytaahobgjkkeccaa
