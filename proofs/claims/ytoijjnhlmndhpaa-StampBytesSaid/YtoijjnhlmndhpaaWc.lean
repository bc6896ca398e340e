/-
  The walk of wide.Floor.
-/
import Derived.Test.YtoijjnhlmndhpaaWb
import Derived.Test.YtoijjnhlmndhpaaMb
namespace Go.Proofs.Ytoijjnhlmndhpaa
open Go.RowKit

theorem quo_nonneg {a b c A B q : Int} (h : okB a b c = true) (hc : 1 ≤ c) (hA : absP a = A) (hB : absP b = B) (hq : A * B / c = q) : 0 ≤ q := by
  obtain ⟨ha, hbc⟩ := Bool.and_eq_true_iff.1 h
  have h1 := absP_bd ha
  have h2 := absP_bd (Bool.and_eq_true_iff.1 hbc).1
  rw [hA] at h1
  rw [hB] at h2
  rw [← hq]; exact Int.ediv_nonneg (Int.mul_nonneg h1.1 h2.1) (by omega)

theorem Floor_is (a b c x : Int) (p : Bool) (H : Hid (floorP a b c = (x, p))) (w : World) :
    Calls Try.prog 35 #[.int .i64 a, .int .i64 b, .int .i64 c] w fun e w' => e = .returned (.tuple #[.int .i64 x, .bool p]) ∧ Below w.heap.size w w' := by
  by_cases hbad : okB a b c = false ∨ c < 1
  · obtain ⟨rfl, rfl⟩ := Prod.mk.inj ((floorP_no hbad).symm.trans H.out)
    have Hbad := Lib.hid hbad
    clear hbad
    go_enter Try.func35, Try.ntmps35
    go_wp2_with fail
    refine (quotient_bad a b c Hbad.out _).mono ?_
    rintro e w1 ⟨rfl, hb1⟩
    go_wp2
    go_ret2
    exact ⟨rfl, hb1⟩
  · have hok : okB a b c = true := by cases h : okB a b c <;> simp_all
    have hc : 1 ≤ c := by omega
    clear hbad
    obtain ⟨A, hA⟩ : ∃ A, absP a = A := ⟨_, rfl⟩
    obtain ⟨B, hB⟩ : ∃ B, absP b = B := ⟨_, rfl⟩
    obtain ⟨q, hq⟩ : ∃ q, A * B / c = q := ⟨_, rfl⟩
    have hq0 := quo_nonneg hok hc hA hB hq
    by_cases hbig : 9223372036854775808 ≤ q
    · obtain ⟨rfl, rfl⟩ := Prod.mk.inj ((floor_big hok hc hA hB hq (by omega)).symm.trans H.out)
      have K := fun w => quotient_no a b c A B hok hc hA hB (by omega) w
      have K := Lib.hid K
      clear hA hB hq hok H
      go_enter Try.func35, Try.ntmps35
      go_wp2_with fail
      refine (K.out _).mono ?_
      rintro e w1 ⟨q, u, v, rfl, hb1⟩
      go_wp2
      go_ret2
      exact ⟨rfl, hb1⟩
    · have hq2 : q < 9223372036854775808 := by omega
      clear hbig
      by_cases hsm : 4611686018427387904 < q
      · obtain ⟨rfl, rfl⟩ := Prod.mk.inj ((floor_big hok hc hA hB hq hsm).symm.trans H.out)
        have K := fun below more h1 h2 w => quotient_yes a b c A B q below more hok hc hA hB hq hq2 h1 h2 w
        obtain ⟨below, hbl⟩ : ∃ below, (decide (a < 0) != decide (b < 0)) = below := ⟨_, rfl⟩
        obtain ⟨more, hmo⟩ : ∃ more, decide (0 < A * B % c) = more := ⟨_, rfl⟩
        have K := Lib.hid (K _ _ hbl hmo)
        have hs1 := smallB_high hsm
        clear hA hB hq hok H hbl hmo
        go_enter Try.func35, Try.ntmps35
        go_wp2_with fail
        refine (K.out _).mono ?_
        rintro e w1 ⟨rfl, hb1⟩
        go_wp2_with fail
        refine (small1 q _ hs1 _ _ (by simp)).mono ?_
        rintro e w2 ⟨rfl, rfl⟩
        go_wp2
        go_ret2
        exact ⟨rfl, balloc hb1 _⟩
      · have hs1 : smallB q = true := smallB_true (by omega) (by omega)
        have hq3 : q ≤ 4611686018427387904 := by omega
        clear hsm
        have K := fun below more h1 h2 w => quotient_yes a b c A B q below more hok hc hA hB hq hq2 h1 h2 w
        cases hbl : (decide (a < 0) != decide (b < 0)) with
        | false =>
          obtain ⟨rfl, rfl⟩ := Prod.mk.inj (((floor_up hok hc hA hB hq hbl).trans (told_t hs1)).symm.trans H.out)
          obtain ⟨more, hmo⟩ : ∃ more, decide (0 < A * B % c) = more := ⟨_, rfl⟩
          have K := Lib.hid (K _ _ hbl hmo)
          clear hA hB hq hok H hbl hmo
          go_enter Try.func35, Try.ntmps35
          go_wp2_with fail
          refine (K.out _).mono ?_
          rintro e w1 ⟨rfl, hb1⟩
          go_wp2_with fail
          refine (small1 q _ hs1 _ _ (by simp)).mono ?_
          rintro e w2 ⟨rfl, rfl⟩
          go_wp2
          go_ret2
          exact ⟨rfl, balloc hb1 _⟩
        | true =>
          cases hmo : decide (0 < A * B % c) with
          | true =>
            have H2 : Hid (toldP (-q - 1) = (x, p)) := (floor_more hok hc hA hB hq hbl hmo).symm.trans H.out
            have K := Lib.hid (K _ _ hbl hmo)
            clear hA hB hq hok H hbl hmo
            go_enter Try.func35, Try.ntmps35
            go_wp2_with fail
            refine (K.out _).mono ?_
            rintro e w1 ⟨rfl, hb1⟩
            go_wp2_with fail
            refine (small1 q _ hs1 _ _ (by simp)).mono ?_
            rintro e w2 ⟨rfl, rfl⟩
            go_wp2_with fail
            refine (told_is _ _ _ H2 _).mono ?_
            rintro e w2 ⟨rfl, hb2⟩
            go_wp2
            go_ret2
            exact ⟨rfl, bstep (balloc hb1 _) hb2⟩
          | false =>
            obtain ⟨rfl, rfl⟩ := Prod.mk.inj (((floor_even hok hc hA hB hq hbl hmo).trans (told_t (by rw [smallB_neg]; exact hs1))).symm.trans H.out)
            have K := Lib.hid (K _ _ hbl hmo)
            clear hA hB hq hok H hbl hmo
            go_enter Try.func35, Try.ntmps35
            go_wp2_with fail
            refine (K.out _).mono ?_
            rintro e w1 ⟨rfl, hb1⟩
            go_wp2_with fail
            refine (small1 q _ hs1 _ _ (by simp)).mono ?_
            rintro e w2 ⟨rfl, rfl⟩
            go_wp2
            go_ret2
            exact ⟨rfl, balloc hb1 _⟩
end Go.Proofs.Ytoijjnhlmndhpaa
