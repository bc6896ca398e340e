/-
  The reference's value, Add, Sub and Mul: the walks, over the printed contracts of its rows of digits.
  The reference's Add, Sub and Mul: the walks.
-/
import Derived.Test.YtnphbdhcoiaklaaZGE
import Derived.Test.YtnphbdhcoiaklaaZGA
namespace Go.Proofs.Ytnphbdhcoiaklaa
open Go.RowKit Go.Proofs.Ytnphbdhcoiaklaa.PWideDivides Go.Proofs.YtnphbdhcoiaklaaW.PrintWords Go.Proofs.YtnphbdhcoiaklaaW.PrintMore

/-- A slice that reads as a row of numbers. -/
def Reads (w : World) (v : Value) (l : List Int) : Prop := ∃ A c, v = .slice A l.length c ∧ l.length ≤ c ∧ Kd.C (Kd.int .i64) w A l.length l
theorem Reads.keep {w w1 : World} {v : Value} {l : List Int} (h : Reads w v l) (hb : Below w.heap.size w w1) : Reads w1 v l := by
  obtain ⟨A, c, e, hc, hC⟩ := h
  exact ⟨A, c, e, hc, Kd.C_below hC hb⟩
theorem Reads.ofR {w : World} {v : Value} {l : List Int} {b : Nat} {ok : Nat → Prop} (h : Kd.R (Kd.int .i64) 3 w b ok v l) : Reads w v l := by
  obtain ⟨A, c, rfl⟩ := Kd.R_slice h
  exact ⟨A, c, rfl, (Kd.R_reads' h).2.1, (Kd.R_reads' h).2.2⟩
theorem Reads.ofV {w : World} {v : Value} {l : List Int} {b : Nat} {ok : Nat → Prop} (h : Kd.V (Kd.int .i64) 3 w b ok v l) : Reads w v l := by
  obtain ⟨A, c, rfl⟩ := Kd.V_slice h
  exact ⟨A, c, rfl, (Kd.V_reads' h).2.1, (Kd.V_reads' h).2.2⟩

/-- What a call that makes a row leaves. -/
def Makes (w : World) (q : List Int → Prop) (e : Ending) (w' : World) : Prop := ∃ v r, e = .returned v ∧ Reads w' v r ∧ q r ∧ Below w.heap.size w w'

theorem digits_c {n : Int} (h0 : 0 ≤ n) (h1 : n ≤ 9223372036854775807) (w : World) : Calls Try.prog 90 #[.int .i64 n] w (Makes w fun r => IsRow r n 5) := by
  obtain ⟨r, hr, hrow⟩ := digits_ev h0 h1
  obtain ⟨k, hk⟩ := Ev.rounds hr
  refine (horologeref01_digits.calls k n r w hk).mono ?_
  rintro e w1 ⟨v, rfl, hR, hb⟩
  exact ⟨v, r, rfl, .ofR hR, hrow, hb⟩
theorem sum_c {va vb : Value} {a b : List Int} {w : World} (ha : Reads w va a) (hb : Reads w vb b) (da : Dig a) (db : Dig b) (la : a.length ≤ 100) (lb : b.length ≤ 100) :
    Calls Try.prog 89 #[va, vb] w (Makes w fun r => val r = val a + val b ∧ Dig r ∧ r.length ≤ max a.length b.length + 1) := by
  obtain ⟨r, hr, hv⟩ := sum_ev da db la lb
  obtain ⟨k, hk⟩ := Ev.rounds hr
  obtain ⟨A, c, rfl, hc, hA⟩ := ha
  obtain ⟨B, d, rfl, hd, hB⟩ := hb
  refine (horologeref01_sum.calls k A c a B d b r w hA hc hB hd hk).mono ?_
  rintro e w1 ⟨v, rfl, hR, hb⟩
  exact ⟨v, r, rfl, .ofR hR, hv, hb⟩
theorem product_c {va vb : Value} {a b : List Int} {w : World} (ha : Reads w va a) (hb : Reads w vb b) (da : Dig a) (db : Dig b) (la : a.length ≤ 20) (lb : b.length ≤ 20) :
    Calls Try.prog 91 #[va, vb] w (Makes w fun r => IsRow r (val a * val b) (a.length + b.length + 1)) := by
  obtain ⟨r, hr, hv⟩ := product_ev da db la lb
  obtain ⟨k, hk⟩ := Ev.rounds hr
  obtain ⟨A, c, rfl, hc, hA⟩ := ha
  obtain ⟨B, d, rfl, hd, hB⟩ := hb
  refine (horologeref01_product.calls k A c a B d b r w hA hc hB hd hk).mono ?_
  rintro e w1 ⟨v, rfl, hR, hb⟩
  exact ⟨v, r, rfl, .ofV hR, hv, hb⟩
theorem trimmed_c {va : Value} {a : List Int} {w : World} (ha : Reads w va a) (da : Dig a) (la : a.length ≤ 1000) :
    Calls Try.prog 109 #[va] w (Makes w fun r => IsRow r (val a) a.length) := by
  obtain ⟨r, hr, hv⟩ := trimmed_ev a la da
  obtain ⟨k, hk⟩ := Ev.rounds hr
  obtain ⟨A, c, rfl, hc, hA⟩ := ha
  refine (horologeref01_trimmed.calls k (fun k_ => k_ < w.heap.size) A c a r w (Kd.V_mk hc (Kd.C_F (Kd.heap_int .i64) hA)) hk).mono ?_
  rintro e w1 ⟨v, rfl, hR, hb⟩
  exact ⟨v, r, rfl, .ofV hR, hv, hb⟩
theorem less_c {va vb : Value} {a b : List Int} {w : World} {p : Bool} (ha : Reads w va a) (hb : Reads w vb b) (da : Dig a) (db : Dig b) (la : a.length ≤ 1000) (lb : b.length ≤ 1000) (hp : decide (val a < val b) = p) :
    Calls Try.prog 94 #[va, vb] w fun e w' => e = .returned (.bool p) ∧ Below w.heap.size w w' := by
  have h := less_ev da db la lb
  rw [hp] at h
  obtain ⟨k, hk⟩ := Ev.rounds h
  obtain ⟨A, c, rfl, hc, hA⟩ := ha
  obtain ⟨B, d, rfl, hd, hB⟩ := hb
  exact horologeref01_less.calls k A c a B d b p w hA hc hB hd hk

theorem rSmall_is (n : Int) (p : Bool) (hp : smallB n = p) (w : World) : Calls Try.prog 19 #[.int .i64 n] w fun e w' => e = .returned (.bool p) ∧ Below w.heap.size w w' := by
  refine (horologeref01_Small.calls n p w (by rw [small_f, hp])).mono ?_
  rintro e w1 ⟨rfl, hd⟩
  exact ⟨rfl, hd.below⟩
theorem rAbs_is (n x : Int) (hp : Hid (absP n = x)) (w : World) : Calls Try.prog 21 #[.int .i64 n] w fun e w' => e = .returned (.int .i64 x) ∧ Below w.heap.size w w' := by
  refine (horologeref01_Abs.calls n x w (by rw [abs_f, hp.out])).mono ?_
  rintro e w1 ⟨rfl, hd⟩
  exact ⟨rfl, hd.below⟩

theorem drop_bd {t : List Int} (hd : Dig t) (k : Nat) (hk : k ≤ t.length) : 0 ≤ val (t.drop k) ∧ val (t.drop k) ≤ val t := by
  have h1 := val_take_drop t k hk
  have h2 := val_nonneg (Dig_take hd k)
  have h3 := val_nonneg (Dig_drop hd k)
  refine ⟨h3, ?_⟩
  have h4 : 1 * val (t.drop k) ≤ 32768 ^ k * val (t.drop k) := Int.mul_le_mul_of_nonneg_right (by have := pow_pos' k; omega) h3
  omega

theorem value_c {va : Value} {a : List Int} {w : World} (ha : Reads w va a) (da : Dig a) (la : a.length ≤ 100) (x : Int) (p : Bool) (H : Hid ((if 4611686018427387904 < val a then ((0 : Int), false) else (val a, true)) = (x, p))) :
    Calls Try.prog 88 #[va] w fun e w' => e = .returned (.tuple #[.int .i64 x, .bool p]) ∧ Below w.heap.size w w' := by
  obtain ⟨A0, c0, rfl, hc0, hA0⟩ := ha
  have ha : Hid (Reads w (.slice A0 a.length c0) a) := ⟨A0, c0, rfl, hc0, hA0⟩
  clear hc0 hA0
  by_cases hbig : 4611686018427387904 < val a
  · have h := H.out
    rw [if_pos hbig] at h
    obtain ⟨rfl, rfl⟩ := Prod.mk.inj h
    have HB := Lib.hid (decide_eq_true hbig)
    clear hbig
    clear H h
    go_enter Try.func88, Try.ntmps88
    go_wp2_with fail
    refine (trimmed_c ha.out da (by omega)).mono ?_
    rintro e w1 ⟨v1, t, rfl, hR1, ht, hb1⟩
    have hR1 := Lib.hid hR1
    obtain ⟨A1, c1, rfl, _, _⟩ := hR1.out
    go_wp2_with fail
    refine (digits_c (by omega) (by omega) _).mono ?_
    rintro e w2 ⟨v2, d, rfl, hR2, hd, hb2⟩
    have hR2 := Lib.hid hR2
    obtain ⟨A2, c2, rfl, _, _⟩ := hR2.out
    have ld := hd.l
    have lt := ht.l
    go_wp2_with fail
    refine (less_c (p := true) hR2.out (hR1.out.keep hb2) hd.d ht.d (by omega) (by omega) (by rw [hd.v, ht.v]; exact HB.out)).mono ?_
    rintro e w3 ⟨rfl, hb3⟩
    go_wp2
    go_ret2
    exact ⟨rfl, (by repeat (first | exact brefl _ | refine balloc ?_ _ | refine bdrewN ?_ _ | refine bset ?_ (by dsimp only; omega) _ | refine bstep ?_ (by assumption)))⟩
  · have h := H.out
    rw [if_neg hbig] at h
    obtain ⟨rfl, rfl⟩ := Prod.mk.inj h
    have hle : val a ≤ 4611686018427387904 := by omega
    have HB := Lib.hid (decide_eq_false hbig)
    clear hbig
    have hva := val_nonneg da
    clear H h
    go_enter Try.func88, Try.ntmps88
    go_wp2_with fail
    refine (trimmed_c ha.out da (by omega)).mono ?_
    rintro e w1 ⟨v1, t, rfl, hR1, ht, hb1⟩
    have hR1 := Lib.hid hR1
    obtain ⟨A1, c1, rfl, _, _⟩ := hR1.out
    go_wp2_with fail
    refine (digits_c (by omega) (by omega) _).mono ?_
    rintro e w2 ⟨v2, d, rfl, hR2, hd, hb2⟩
    have hR2 := Lib.hid hR2
    obtain ⟨A2, c2, rfl, _, _⟩ := hR2.out
    have ld := hd.l
    have lt := ht.l
    go_wp2_with fail
    refine (less_c (p := false) hR2.out (hR1.out.keep hb2) hd.d ht.d (by omega) (by omega) (by rw [hd.v, ht.v]; exact HB.out)).mono ?_
    rintro e w3 ⟨rfl, hb3⟩
    have hC : Hid (Kd.C (Kd.int .i64) w3 A1 t.length t) := by
      obtain ⟨A', c', e', _, hC⟩ := (hR1.out.keep hb2).keep hb3
      cases e'
      exact hC
    have htd := Lib.hid ht.d
    have hv := Lib.hid ht.v
    have hbb : Hid (Below w.heap.size w w3) := bstep (bstep hb1 hb2) hb3
    clear hR1 hR2 hd ht ha hb1 hb2 hb3 da
    go_wp2
    go_loop [4, 5] (fun n i => ∃ k : Nat, k ≤ t.length ∧ n = .int .i64 (val (t.drop k)) ∧ i = .int .i64 ((k : Int) - 1)) (fun _ i => (intOf i + 1).toNat)
    case atStart => exact ⟨t.length, Nat.le_refl _, by rw [List.drop_length]; rfl, rfl⟩
    case round =>
      obtain ⟨k, hk, rfl, rfl⟩ := hrel
      cases k with
      | zero =>
        have hneg : ((0 : Nat) : Int) - 1 = -1 := by omega
        rw [hneg]
        go_wp2
        go_ret2
        refine ⟨?_, hbb.out⟩
        have := hv.out
        rw [← this]; rfl
      | succ k =>
        obtain ⟨ad, hA, hcell⟩ := Kd.at_int hC.out (k : Int) (by omega) (by omega)
        subst hA
        have hg := Lib.hid (val_drop_get k (show k < t.length by omega))
        have hbd := drop_bd htd.out k (by omega)
        rw [hv.out, hg.out] at hbd
        have hdg := Dig_get htd.out k
        have hnn := (drop_bd htd.out (k + 1) hk).1
        have hrd : rd t (k : Int) = t.getD k 0 := by simp [rd]
        rw [hrd, Int.toNat_natCast] at hcell
        generalize val (t.drop (k + 1)) = y at *
        generalize t.getD k 0 = z at *
        obtain ⟨hbd1, hbd2⟩ := hbd
        obtain ⟨hdg1, hdg2⟩ := hdg
        have hkk : ((k + 1 : Nat) : Int) - 1 = (k : Int) := by omega
        rw [hkk]
        clear hkk hrd
        go_wp2
        go_round
        case rel => exact ⟨k, by omega, by rw [hg.out, Int.mul_comm 32768 y, Int.add_comm], rfl⟩
        case measure => simp [intOf]
end Go.Proofs.Ytnphbdhcoiaklaa
namespace Go.Proofs.Ytnphbdhcoiaklaa
open Go.RowKit

/-- Signs that are not alike. -/
theorem add_apart {a b : Int} (ha : smallB a = true) (hb : smallB b = true) (h : (decide (a < 0) != decide (b < 0)) = true) : addP a b = (a + b, true) := by
  have h1 := smallB_iff.1 ha
  have h2 := smallB_iff.1 hb
  unfold addP
  rw [if_pos (by rw [ha, hb]; rfl)]
  refine told_t (smallB_iff.2 ?_)
  by_cases h3 : a < 0 <;> by_cases h4 : b < 0 <;> simp [h3, h4] at h <;> omega
/-- Signs that are. -/
theorem add_alike {a b A B x : Int} {p : Bool} (ha : smallB a = true) (hb : smallB b = true) (h : (decide (a < 0) != decide (b < 0)) = false) (hA : absP a = A) (hB : absP b = B)
    (hx : (if 4611686018427387904 < A + B then ((0 : Int), false) else (A + B, true)) = (x, p)) : addP a b = (if a < 0 then -x else x, p) := by
  have h1 := smallB_iff.1 ha
  have h2 := smallB_iff.1 hb
  unfold absP at hA hB
  rw [if_pos ha] at hA
  rw [if_pos hb] at hB
  subst hA hB
  unfold addP
  rw [if_pos (by rw [ha, hb]; rfl)]
  by_cases h3 : a < 0
  · have h4 : b < 0 := by
      by_cases h4 : b < 0
      · exact h4
      · simp [h3, h4] at h
    rw [if_pos h3, if_pos h4] at hx
    rw [if_pos h3]
    split at hx
    · obtain ⟨rfl, rfl⟩ := Prod.mk.inj hx
      rw [told_f (smallB_low (by omega))]; rfl
    · obtain ⟨rfl, rfl⟩ := Prod.mk.inj hx
      rw [told_t (smallB_true (by omega) (by omega))]; congr 1; omega
  · have h4 : ¬ b < 0 := by
      intro h4
      simp [h3, h4] at h
    rw [if_neg h3, if_neg h4] at hx
    rw [if_neg h3]
    split at hx
    · obtain ⟨rfl, rfl⟩ := Prod.mk.inj hx
      rw [told_f (smallB_high (by omega))]
    · obtain ⟨rfl, rfl⟩ := Prod.mk.inj hx
      rw [told_t (smallB_true (by omega) (by omega))]
theorem pair_bd {n x : Int} {p : Bool} (h0 : 0 ≤ n) (hx : (if 4611686018427387904 < n then ((0 : Int), false) else (n, true)) = (x, p)) : 0 ≤ x ∧ x ≤ 4611686018427387904 := by
  split at hx
  · obtain ⟨rfl, rfl⟩ := Prod.mk.inj hx; omega
  · obtain ⟨rfl, rfl⟩ := Prod.mk.inj hx; omega

theorem beq_of_bne {p q r : Bool} (h : (p != q) = r) : (p == q) = !r := by cases p <;> cases q <;> cases r <;> simp_all

theorem add_no {a b : Int} (h : (smallB a && smallB b) = false) : addP a b = (0, false) := by unfold addP; rw [if_neg (by rw [h]; decide)]
theorem rAdd_is (a b x : Int) (p : Bool) (H : Hid (addP a b = (x, p))) (w : World) :
    Calls Try.prog 12 #[.int .i64 a, .int .i64 b] w fun e w' => e = .returned (.tuple #[.int .i64 x, .bool p]) ∧ Below w.heap.size w w' := by
  cases ha : smallB a with
  | false =>
    obtain ⟨rfl, rfl⟩ := Prod.mk.inj ((add_no (by rw [ha]; rfl)).symm.trans H.out)
    clear H
    go_enter Try.func12, Try.ntmps12
    go_wp2_with fail
    refine (rSmall_is _ _ ha _).mono ?_
    rintro e w1 ⟨rfl, hb1⟩
    go_wp2
    go_ret2
    exact ⟨rfl, (by repeat (first | exact brefl _ | refine balloc ?_ _ | refine bdrewN ?_ _ | refine bset ?_ (by dsimp only; omega) _ | refine bstep ?_ (by assumption)))⟩
  | true =>
    cases hb : smallB b with
    | false =>
      obtain ⟨rfl, rfl⟩ := Prod.mk.inj ((add_no (by rw [ha, hb]; rfl)).symm.trans H.out)
      clear H
      go_enter Try.func12, Try.ntmps12
      go_wp2_with fail
      refine (rSmall_is _ _ ha _).mono ?_
      rintro e w1 ⟨rfl, hb1⟩
      go_wp2_with fail
      refine (rSmall_is _ _ hb _).mono ?_
      rintro e w2 ⟨rfl, hb2⟩
      go_wp2
      go_ret2
      exact ⟨rfl, (by repeat (first | exact brefl _ | refine balloc ?_ _ | refine bdrewN ?_ _ | refine bset ?_ (by dsimp only; omega) _ | refine bstep ?_ (by assumption)))⟩
    | true =>
      have h1 := smallB_iff.1 ha
      have h2 := smallB_iff.1 hb
      cases hs : (decide (a < 0) != decide (b < 0)) with
      | true =>
        obtain ⟨rfl, rfl⟩ := Prod.mk.inj ((add_apart ha hb hs).symm.trans H.out)
        clear H
        have hsum : -4611686018427387904 ≤ a + b ∧ a + b ≤ 4611686018427387904 := by
          by_cases h3 : a < 0 <;> by_cases h4 : b < 0 <;> simp [h3, h4] at hs <;> omega
        obtain ⟨g1, g2⟩ := hsum
        have hse : (decide (a < 0) == decide (b < 0)) = false := beq_of_bne hs
        clear hs
        go_enter Try.func12, Try.ntmps12
        go_wp2_with fail
        refine (rSmall_is _ _ ha _).mono ?_
        rintro e w1 ⟨rfl, hb1⟩
        go_wp2_with fail
        refine (rSmall_is _ _ hb _).mono ?_
        rintro e w2 ⟨rfl, hb2⟩
        go_wp2
        go_ret2
        exact ⟨rfl, (by repeat (first | exact brefl _ | refine balloc ?_ _ | refine bdrewN ?_ _ | refine bset ?_ (by dsimp only; omega) _ | refine bstep ?_ (by assumption)))⟩
      | false =>
        obtain ⟨A, hA⟩ : ∃ A, absP a = A := ⟨_, rfl⟩
        obtain ⟨B, hB⟩ : ∃ B, absP b = B := ⟨_, rfl⟩
        have hA1 := absP_bd ha
        have hB1 := absP_bd hb
        rw [hA] at hA1
        rw [hB] at hB1
        obtain ⟨hA1, hA2⟩ := hA1
        obtain ⟨hB1, hB2⟩ := hB1
        obtain ⟨y, q, hy⟩ : ∃ y q, (if 4611686018427387904 < A + B then ((0 : Int), false) else (A + B, true)) = (y, q) := ⟨_, _, rfl⟩
        have hyb := pair_bd (by omega) hy
        have hf := (add_alike ha hb hs hA hB hy).symm.trans H.out
        have HA := Lib.hid hA
        have HB := Lib.hid hB
        have HY := Lib.hid hy
        have hse : (decide (a < 0) == decide (b < 0)) = true := beq_of_bne hs
        clear H hA hB hy hs
        by_cases hneg : a < 0
        · have hbn : b < 0 := by
            by_cases h4 : b < 0
            · exact h4
            · simp [hneg, h4] at hse
          clear hse
          rw [if_pos hneg] at hf
          obtain ⟨rfl, rfl⟩ := Prod.mk.inj hf
          clear hf
          go_enter Try.func12, Try.ntmps12
          go_wp2_with fail
          refine (rSmall_is _ _ ha _).mono ?_
          rintro e w1 ⟨rfl, hb1⟩
          go_wp2_with fail
          refine (rSmall_is _ _ hb _).mono ?_
          rintro e w2 ⟨rfl, hb2⟩
          go_wp2_with fail
          refine (rAbs_is _ _ HA _).mono ?_
          rintro e w3 ⟨rfl, hb3⟩
          go_wp2_with fail
          refine (digits_c hA1 (by omega) _).mono ?_
          rintro e w4 ⟨v1, d1, rfl, hR1, hd1, hb4⟩
          have K1 := Lib.hid hR1
          have D1 := Lib.hid hd1
          clear hR1 hd1
          go_wp2_with fail
          refine (rAbs_is _ _ HB _).mono ?_
          rintro e w5 ⟨rfl, hb5⟩
          go_wp2_with fail
          refine (digits_c hB1 (by omega) _).mono ?_
          rintro e w6 ⟨v2, d2, rfl, hR2, hd2, hb6⟩
          have K2 := Lib.hid hR2
          have D2 := Lib.hid hd2
          clear hR2 hd2
          go_wp2_with fail
          refine (sum_c ((K1.out.keep hb5).keep hb6) K2.out D1.out.d D2.out.d (by have := D1.out.l; omega) (by have := D2.out.l; omega)).mono ?_
          rintro e w7 ⟨v3, d3, rfl, hR3, hd3, hb7⟩
          have K3 := Lib.hid hR3
          have D3 := Lib.hid hd3
          clear hR3 hd3
          go_wp2_with fail
          refine (value_c K3.out D3.out.2.1 (by have := D1.out.l; have := D2.out.l; have := D3.out.2.2; omega) y q (by rw [D3.out.1, D1.out.v, D2.out.v]; exact HY)).mono ?_
          rintro e w8 ⟨rfl, hb8⟩
          go_wp2
          go_ret2
          exact ⟨rfl, (by repeat (first | exact brefl _ | refine balloc ?_ _ | refine bdrewN ?_ _ | refine bset ?_ (by dsimp only; omega) _ | refine bstep ?_ (by assumption)))⟩
        · have hbn : ¬ b < 0 := by
            intro h4
            simp [hneg, h4] at hse
          clear hse
          have da : decide (a < 0) = false := decide_eq_false hneg
          have db : decide (b < 0) = false := decide_eq_false hbn
          rw [if_neg hneg] at hf
          obtain ⟨rfl, rfl⟩ := Prod.mk.inj hf
          clear hf
          go_enter Try.func12, Try.ntmps12
          go_wp2_with fail
          refine (rSmall_is _ _ ha _).mono ?_
          rintro e w1 ⟨rfl, hb1⟩
          go_wp2_with fail
          refine (rSmall_is _ _ hb _).mono ?_
          rintro e w2 ⟨rfl, hb2⟩
          go_wp2_with fail
          refine (rAbs_is _ _ HA _).mono ?_
          rintro e w3 ⟨rfl, hb3⟩
          go_wp2_with fail
          refine (digits_c hA1 (by omega) _).mono ?_
          rintro e w4 ⟨v1, d1, rfl, hR1, hd1, hb4⟩
          have K1 := Lib.hid hR1
          have D1 := Lib.hid hd1
          clear hR1 hd1
          go_wp2_with fail
          refine (rAbs_is _ _ HB _).mono ?_
          rintro e w5 ⟨rfl, hb5⟩
          go_wp2_with fail
          refine (digits_c hB1 (by omega) _).mono ?_
          rintro e w6 ⟨v2, d2, rfl, hR2, hd2, hb6⟩
          have K2 := Lib.hid hR2
          have D2 := Lib.hid hd2
          clear hR2 hd2
          go_wp2_with fail
          refine (sum_c ((K1.out.keep hb5).keep hb6) K2.out D1.out.d D2.out.d (by have := D1.out.l; omega) (by have := D2.out.l; omega)).mono ?_
          rintro e w7 ⟨v3, d3, rfl, hR3, hd3, hb7⟩
          have K3 := Lib.hid hR3
          have D3 := Lib.hid hd3
          clear hR3 hd3
          go_wp2_with fail
          refine (value_c K3.out D3.out.2.1 (by have := D1.out.l; have := D2.out.l; have := D3.out.2.2; omega) y q (by rw [D3.out.1, D1.out.v, D2.out.v]; exact HY)).mono ?_
          rintro e w8 ⟨rfl, hb8⟩
          go_wp2
          go_ret2
          exact ⟨rfl, (by repeat (first | exact brefl _ | refine balloc ?_ _ | refine bdrewN ?_ _ | refine bset ?_ (by dsimp only; omega) _ | refine bstep ?_ (by assumption)))⟩

theorem rSub_is (a b x : Int) (p : Bool) (H : Hid (subP a b = (x, p))) (w : World) :
    Calls Try.prog 14 #[.int .i64 a, .int .i64 b] w fun e w' => e = .returned (.tuple #[.int .i64 x, .bool p]) ∧ Below w.heap.size w w' := by
  cases hs : smallB b with
  | true =>
    have H2 : Hid (addP a (-b) = (x, p)) := (sub_add a b).trans H.out
    have hb := smallB_iff.1 hs
    clear H
    go_enter Try.func14, Try.ntmps14
    go_wp2_with fail
    refine (rSmall_is _ _ hs _).mono ?_
    rintro e w1 ⟨rfl, hb1⟩
    go_wp2_with fail
    refine (rAdd_is _ _ _ _ H2 _).mono ?_
    rintro e w2 ⟨rfl, hb2⟩
    go_wp2
    go_ret2
    exact ⟨rfl, (by repeat (first | exact brefl _ | refine balloc ?_ _ | refine bdrewN ?_ _ | refine bset ?_ (by dsimp only; omega) _ | refine bstep ?_ (by assumption)))⟩
  | false =>
    obtain ⟨rfl, rfl⟩ := Prod.mk.inj ((sub_no a b hs).symm.trans H.out)
    go_enter Try.func14, Try.ntmps14
    go_wp2_with fail
    refine (rSmall_is _ _ hs _).mono ?_
    rintro e w1 ⟨rfl, hb1⟩
    go_wp2
    go_ret2
    exact ⟨rfl, (by repeat (first | exact brefl _ | refine balloc ?_ _ | refine bdrewN ?_ _ | refine bset ?_ (by dsimp only; omega) _ | refine bstep ?_ (by assumption)))⟩

end Go.Proofs.Ytnphbdhcoiaklaa
