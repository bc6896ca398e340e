/-
  The reference's Floor and Ceil of a number by 1 and 2: the walks.
-/
import Derived.Test.YtnphbdhcoiaklaaZGR
import Derived.Test.YtnphbdhcoiaklaaZGB
namespace Go.Proofs.Ytnphbdhcoiaklaa
open Go.RowKit Go.Proofs.Ytnphbdhcoiaklaa.PWideDivides Go.Proofs.YtnphbdhcoiaklaaW.PrintWords

theorem whole_c {va vb : Value} {p c : List Int} {w : World} (hp : Reads w va p) (hc : Reads w vb c) (dp : Dig p) (dc : Dig c) (lp : p.length ≤ 100) (lc : c.length ≤ 10) (h1 : 1 ≤ val c) (hq : val p / val c ≤ top) (q : Int) (H : Hid (val p / val c = q)) :
    Calls Try.prog 93 #[va, vb] w fun e w' => e = .returned (.tuple #[.int .i64 q, .bool true]) ∧ Below w.heap.size w w' := by
  obtain ⟨A0, c0, rfl, k0, r0⟩ := hp
  obtain ⟨A1, c1, rfl, k1, r1⟩ := hc
  rcases whole_cases dp dc lp lc h1 with ⟨_, h⟩ | ⟨h, _⟩
  · obtain ⟨k, hk⟩ := Ev.rounds h
    rw [H.out] at hk
    exact horologeref01_whole.calls k A0 c0 p A1 c1 c q true w r0 k0 r1 k1 hk
  · omega
theorem floor_two {a : Int} (h : smallB a = true) : floorP a 1 2 = (a / 2, true) := by
  have hb := smallB_iff.1 h
  have ho : okB a 1 2 = true := by unfold okB; rw [h]; decide +kernel
  have := told_fl ho (by omega) (by rw [Int.mul_one]; exact smallB_true (by omega) (by omega))
  rw [this, Int.mul_one]
theorem row_pos {r : List Int} (h : 1 ≤ val r) : ¬ (r.length : Int) = 0 := by
  intro hl
  have : r = [] := List.eq_nil_of_length_eq_zero (by omega)
  rw [this] at h
  have h : (1 : Int) ≤ 0 := h
  omega

set_option maxRecDepth 100000 in
set_option maxHeartbeats 4000000 in
theorem rFloor2_is (a x : Int) (p : Bool) (H : Hid (floorP a 1 2 = (x, p))) (w : World) :
    Calls Try.prog 23 #[.int .i64 a, .int .i64 1, .int .i64 2] w fun e w' => e = .returned (.tuple #[.int .i64 x, .bool p]) ∧ Below w.heap.size w w' := by
  have hx := H.out
  have s1 : smallB 1 = true := by decide +kernel
  have s2 : smallB 2 = true := by decide +kernel
  have hA1 : Hid (absP 1 = 1) := Lib.hid (by decide +kernel)
  cases ha : smallB a with
  | false =>
    rw [floorP_no (.inl (by unfold okB; rw [ha]; rfl))] at hx
    obtain ⟨rfl, rfl⟩ := Prod.mk.inj hx
    clear hx H
    go_enter Try.func23, Try.ntmps23
    go_wp2_with fail
    refine (rSmall_is _ _ ha _).mono ?_
    rintro e w1 ⟨rfl, hb1⟩
    go_wp2
    go_ret2
    exact ⟨rfl, (by repeat (first | exact brefl _ | refine balloc ?_ _ | refine bdrewN ?_ _ | refine bset ?_ (by dsimp only; omega) _ | refine bstep ?_ (by assumption)))⟩
  | true =>
    have hb := smallB_iff.1 ha
    rw [floor_two ha] at hx
    obtain ⟨rfl, rfl⟩ := Prod.mk.inj hx
    clear hx H
    by_cases h3 : a < 0
    · have HA : Hid (absP a = -a) := Lib.hid (by unfold absP; rw [if_pos ha, if_pos h3])
      have p0 : 0 ≤ -a := by omega
      have p1 : -a ≤ 9223372036854775807 := by omega
      have q0 : 0 ≤ -a / 2 := by omega
      have q1 : -a / 2 ≤ 9223372036854775807 := by omega
      have HQ : Hid (-a * 1 / 2 = -a / 2) := Lib.hid (by rw [Int.mul_one])
      go_enter Try.func23, Try.ntmps23
      go_wp2_with fail
      refine (rSmall_is _ _ ha _).mono ?_
      rintro e w1 ⟨rfl, hb1⟩
      go_wp2_with fail
      refine (rSmall_is _ _ s1 _).mono ?_
      rintro e w2 ⟨rfl, hb2⟩
      go_wp2_with fail
      refine (rSmall_is _ _ s2 _).mono ?_
      rintro e w3 ⟨rfl, hb3⟩
      go_wp2_with fail
      refine (rAbs_is _ _ HA _).mono ?_
      rintro e w4 ⟨rfl, hb4⟩
      go_wp2_with fail
      refine (digits_c p0 p1 _).mono ?_
      rintro e w5 ⟨v1, d1, rfl, hR1, hd1, hb5⟩
      have K1 := Lib.hid hR1
      have D1 := Lib.hid hd1
      clear hR1 hd1
      go_wp2_with fail
      refine (rAbs_is _ _ hA1 _).mono ?_
      rintro e w6 ⟨rfl, hb6⟩
      go_wp2_with fail
      refine (digits_c (n := 1) (by omega) (by omega) _).mono ?_
      rintro e w7 ⟨v2, d2, rfl, hR2, hd2, hb7⟩
      have K2 := Lib.hid hR2
      have D2 := Lib.hid hd2
      clear hR2 hd2
      go_wp2_with fail
      refine (product_c ((K1.out.keep hb6).keep hb7) K2.out D1.out.d D2.out.d (by have := D1.out.l; omega) (by have := D2.out.l; omega)).mono ?_
      rintro e w8 ⟨v3, d3, rfl, hR3, hd3, hb8⟩
      have hv3 : val d3 = -a := by rw [hd3.v, D1.out.v, D2.out.v, Int.mul_one]
      have hl3 := row_pos (r := d3) (by omega)
      have K3 := Lib.hid hR3
      have D3 := Lib.hid hd3
      have V3 := Lib.hid hv3
      have ll3 : d3.length ≤ 20 := by have := hd3.l; have := D1.out.l; have := D2.out.l; omega
      clear hR3 hd3 hv3
      obtain ⟨A3, c3, rfl, _, _⟩ := K3.out
      obtain ⟨L3, hL3⟩ : ∃ L, d3.length = L := ⟨_, rfl⟩
      rw [hL3] at K3 ll3 ⊢
      rw [hL3] at hl3
      go_wp2_with fail
      refine (digits_c (n := 2) (by omega) (by omega) _).mono ?_
      rintro e w9 ⟨v4, d4, rfl, hR4, hd4, hb9⟩
      have K4 := Lib.hid hR4
      have D4 := Lib.hid hd4
      clear hR4 hd4
      go_wp2_with fail
      refine (whole_c (K3.out.keep hb9) K4.out D3.out.d D4.out.d (by omega) (by have := D4.out.l; omega) (by rw [D4.out.v]; omega) (by rw [V3.out, D4.out.v, top_def]; omega) (-a / 2) (Lib.hid (by rw [V3.out, D4.out.v]))).mono ?_
      rintro e w10 ⟨rfl, hb10⟩
      go_wp2_with fail
      refine (digits_c q0 q1 _).mono ?_
      rintro e w11 ⟨v5, d5, rfl, hR5, hd5, hb11⟩
      have K5 := Lib.hid hR5
      have D5 := Lib.hid hd5
      clear hR5 hd5
      go_wp2_with fail
      refine (digits_c (n := 2) (by omega) (by omega) _).mono ?_
      rintro e w12 ⟨v6, d6, rfl, hR6, hd6, hb12⟩
      have K6 := Lib.hid hR6
      have D6 := Lib.hid hd6
      clear hR6 hd6
      go_wp2_with fail
      refine (product_c (K5.out.keep hb12) K6.out D5.out.d D6.out.d (by have := D5.out.l; omega) (by have := D6.out.l; omega)).mono ?_
      rintro e w13 ⟨v7, d7, rfl, hR7, hd7, hb13⟩
      have K7 := Lib.hid hR7
      have D7 := Lib.hid hd7
      clear hR7 hd7
      obtain ⟨t, ht⟩ : ∃ t, decide (-a / 2 * 2 < -a) = t := ⟨_, rfl⟩
      go_wp2_with fail
      refine (less_c (p := t) K7.out (((((K3.out.keep hb9).keep hb10).keep hb11).keep hb12).keep hb13) D7.out.d D3.out.d (by have := D7.out.l; have := D5.out.l; have := D6.out.l; omega) (by omega) (by rw [D7.out.v, D5.out.v, D6.out.v, V3.out]; exact ht)).mono ?_
      rintro e w14 ⟨rfl, hb14⟩
      cases t with
      | true =>
        have hlt : -a / 2 * 2 < -a := of_decide_eq_true ht
        have e1 : -(-a / 2 + 1) = a / 2 := by omega
        have sq : smallB (-a / 2 + 1) = true := smallB_true (by omega) (by omega)
        clear ht
        go_wp2_with fail
        refine (rSmall_is _ _ sq _).mono ?_
        rintro e w15 ⟨rfl, hb15⟩
        go_wp2
        go_ret2
        exact ⟨by first | rfl | (simp; omega), (by repeat (first | exact brefl _ | refine balloc ?_ _ | refine bdrewN ?_ _ | refine bset ?_ (by dsimp only; omega) _ | refine bstep ?_ (by assumption)))⟩
      | false =>
        have hlt : ¬ -a / 2 * 2 < -a := of_decide_eq_false ht
        have e1 : -(-a / 2) = a / 2 := by omega
        have sq : smallB (-a / 2) = true := smallB_true (by omega) (by omega)
        clear ht
        go_wp2_with fail
        refine (rSmall_is _ _ sq _).mono ?_
        rintro e w15 ⟨rfl, hb15⟩
        go_wp2
        go_ret2
        exact ⟨by first | rfl | (simp; omega), (by repeat (first | exact brefl _ | refine balloc ?_ _ | refine bdrewN ?_ _ | refine bset ?_ (by dsimp only; omega) _ | refine bstep ?_ (by assumption)))⟩
    · have HA : Hid (absP a = a) := Lib.hid (by unfold absP; rw [if_pos ha, if_neg h3])
      have dn : decide (a < 0) = false := decide_eq_false h3
      have p0 : 0 ≤ a := by omega
      have p1 : a ≤ 9223372036854775807 := by omega
      go_enter Try.func23, Try.ntmps23
      go_wp2_with fail
      refine (rSmall_is _ _ ha _).mono ?_
      rintro e w1 ⟨rfl, hb1⟩
      go_wp2_with fail
      refine (rSmall_is _ _ s1 _).mono ?_
      rintro e w2 ⟨rfl, hb2⟩
      go_wp2_with fail
      refine (rSmall_is _ _ s2 _).mono ?_
      rintro e w3 ⟨rfl, hb3⟩
      go_wp2_with fail
      refine (rAbs_is _ _ HA _).mono ?_
      rintro e w4 ⟨rfl, hb4⟩
      go_wp2_with fail
      refine (digits_c p0 p1 _).mono ?_
      rintro e w5 ⟨v1, d1, rfl, hR1, hd1, hb5⟩
      have K1 := Lib.hid hR1
      have D1 := Lib.hid hd1
      clear hR1 hd1
      go_wp2_with fail
      refine (rAbs_is _ _ hA1 _).mono ?_
      rintro e w6 ⟨rfl, hb6⟩
      go_wp2_with fail
      refine (digits_c (n := 1) (by omega) (by omega) _).mono ?_
      rintro e w7 ⟨v2, d2, rfl, hR2, hd2, hb7⟩
      have K2 := Lib.hid hR2
      have D2 := Lib.hid hd2
      clear hR2 hd2
      go_wp2_with fail
      refine (product_c ((K1.out.keep hb6).keep hb7) K2.out D1.out.d D2.out.d (by have := D1.out.l; omega) (by have := D2.out.l; omega)).mono ?_
      rintro e w8 ⟨v3, d3, rfl, hR3, hd3, hb8⟩
      have hv3 : val d3 = a := by rw [hd3.v, D1.out.v, D2.out.v, Int.mul_one]
      have K3 := Lib.hid hR3
      have D3 := Lib.hid hd3
      have V3 := Lib.hid hv3
      have ll3 : d3.length ≤ 20 := by have := hd3.l; have := D1.out.l; have := D2.out.l; omega
      clear hR3 hd3 hv3
      obtain ⟨A3, c3, rfl, _, _⟩ := K3.out
      obtain ⟨L3, hL3⟩ : ∃ L, d3.length = L := ⟨_, rfl⟩
      rw [hL3] at K3 ll3 ⊢
      go_wp2_with fail
      refine (digits_c (n := 2) (by omega) (by omega) _).mono ?_
      rintro e w9 ⟨v4, d4, rfl, hR4, hd4, hb9⟩
      have K4 := Lib.hid hR4
      have D4 := Lib.hid hd4
      clear hR4 hd4
      go_wp2_with fail
      refine (whole_c (K3.out.keep hb9) K4.out D3.out.d D4.out.d (by omega) (by have := D4.out.l; omega) (by rw [D4.out.v]; omega) (by rw [V3.out, D4.out.v, top_def]; omega) (a / 2) (Lib.hid (by rw [V3.out, D4.out.v]))).mono ?_
      rintro e w10 ⟨rfl, hb10⟩
      by_cases hl0 : L3 = 0
      · skip
        go_wp2
        go_ret2
        exact ⟨rfl, (by repeat (first | exact brefl _ | refine balloc ?_ _ | refine bdrewN ?_ _ | refine bset ?_ (by dsimp only; omega) _ | refine bstep ?_ (by assumption)))⟩
      · have hl1 : ¬ (L3 : Int) = 0 := by omega
        go_wp2
        go_ret2
        exact ⟨rfl, (by repeat (first | exact brefl _ | refine balloc ?_ _ | refine bdrewN ?_ _ | refine bset ?_ (by dsimp only; omega) _ | refine bstep ?_ (by assumption)))⟩

theorem ceil_two {a x : Int} {p : Bool} (h : ceilP a 1 2 = (x, p)) : (smallB a = false ∧ x = 0 ∧ p = false) ∨ (smallB a = true ∧ floorP (-a) 1 2 = (-x, p)) := by
  cases ha : smallB a with
  | false =>
    rw [ceilP_no (.inl (by unfold okB; rw [ha]; rfl))] at h
    obtain ⟨rfl, rfl⟩ := Prod.mk.inj h
    exact .inl ⟨rfl, rfl, rfl⟩
  | true =>
    right
    have hb := smallB_iff.1 ha
    have ho : okB a 1 2 = true := by unfold okB; rw [ha]; decide +kernel
    have := told_ce ho (by omega) (by rw [Int.mul_one]; exact smallB_true (by omega) (by omega))
    rw [this, Int.mul_one] at h
    obtain ⟨rfl, rfl⟩ := Prod.mk.inj h
    refine ⟨rfl, ?_⟩
    rw [floor_two (by rw [smallB_neg]; exact ha), Int.neg_neg]
theorem rCeil2_is (a x : Int) (p : Bool) (H : Hid (ceilP a 1 2 = (x, p))) (w : World) :
    Calls Try.prog 25 #[.int .i64 a, .int .i64 1, .int .i64 2] w fun e w' => e = .returned (.tuple #[.int .i64 x, .bool p]) ∧ Below w.heap.size w w' := by
  rcases ceil_two H.out with ⟨ha, rfl, rfl⟩ | ⟨ha, hf⟩
  · clear H
    go_enter Try.func25, Try.ntmps25
    go_wp2_with fail
    refine (rSmall_is _ _ ha _).mono ?_
    rintro e w1 ⟨rfl, hb1⟩
    go_wp2
    go_ret2
    exact ⟨rfl, (by repeat (first | exact brefl _ | refine balloc ?_ _ | refine bdrewN ?_ _ | refine bset ?_ (by dsimp only; omega) _ | refine bstep ?_ (by assumption)))⟩
  · have hb := smallB_iff.1 ha
    have HF := Lib.hid hf
    have hbd := floor_bd hf
    have e1 : IntKind.i64.wrap (-a) = -a := by rw [IntKind.wrap_i64]; omega
    clear H hf
    go_enter Try.func25, Try.ntmps25
    go_wp2_with fail
    refine (rSmall_is _ _ ha _).mono ?_
    rintro e w1 ⟨rfl, hb1⟩
    go_wp2_with fail
    refine (rFloor2_is _ _ _ HF _).mono ?_
    rintro e w2 ⟨rfl, hb2⟩
    go_wp2
    go_ret2
    exact ⟨by first | rfl | (simp; done) | (simp; omega), (by repeat (first | exact brefl _ | refine balloc ?_ _ | refine bdrewN ?_ _ | refine bset ?_ (by dsimp only; omega) _ | refine bstep ?_ (by assumption)))⟩
end Go.Proofs.Ytnphbdhcoiaklaa
