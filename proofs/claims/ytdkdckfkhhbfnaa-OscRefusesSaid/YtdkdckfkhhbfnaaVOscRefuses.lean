/-
  The walk of the law OscRefuses.
-/
import Derived.Test.YtdkdckfkhhbfnaaAlOsc
import Derived.Test.YtdkdckfkhhbfnaaScr
namespace Go.Proofs.Ytdkdckfkhhbfnaa
open Go.RowKit

set_option maxRecDepth 100000 in
set_option maxHeartbeats 4000000 in
theorem OscRefuses_walk (s bd : Int) (v : Value) (n : Nat) (f g : Nat → Int) (w : World) (hs : I64 s) (hd : I64 bd) (hv : Script2 w v n f g) :
    Calls Try.prog 8 #[.int .i64 s, .int .i64 bd, v] w fun e w' => e = .returned (.bool true) ∧ Below w.heap.size w w' := by
  obtain ⟨a0, cap, rfl, hn, hnc, hcap, hsc⟩ := hv
  have HSC := Lib.hid hsc
  clear hsc
  by_cases hbad : s < 0 ∨ 2305843009213693952 < s ∨ bd < 0 ∨ 100000000 < bd
  · go_enter Try.func8, Try.ntmps8
    go_wp2_with fail
    refine (New_no s bd hs hd hbad _).mono ?_
    rintro e w1 ⟨rfl, hb1⟩
    go_wp2_with fail
    refine (alive_is _).mono ?_
    rintro e w2 ⟨rfl, hb2⟩
    go_wp2
    go_ret
    exact ⟨rfl, (by repeat (first | exact brefl _ | refine balloc ?_ _ | refine bdrewN ?_ _ | refine bset ?_ (by dsimp only; omega) _ | refine bstep ?_ (by assumption)))⟩
  have s0 : 0 ≤ s := by omega
  have s1 : s ≤ 2305843009213693952 := by omega
  have d0 : 0 ≤ bd := by omega
  have d1 : bd ≤ 100000000 := by omega
  clear hbad
  by_cases hbig : (1000 : Int) < n
  · go_enter Try.func8, Try.ntmps8
    go_wp2_with fail
    refine (New_yes s bd s0 s1 d0 d1 _).mono ?_
    rintro e w1 ⟨b, rfl, hb1, hwb, ho⟩
    go_wp2_with fail
    refine (alive_is _).mono ?_
    rintro e w2 ⟨rfl, hb2⟩
    go_wp2
    go_ret
    exact ⟨rfl, (by repeat (first | exact brefl _ | refine balloc ?_ _ | refine bdrewN ?_ _ | refine bset ?_ (by dsimp only; omega) _ | refine bstep ?_ (by assumption)))⟩
  have hn1 : n ≤ 1000 := by omega
  go_enter Try.func8, Try.ntmps8
  go_wp2_with fail
  refine (New_yes s bd s0 s1 d0 d1 _).mono ?_
  rintro e w1 ⟨b, rfl, hb1, hwb, ho⟩
  go_wp2
  go_loopw [33] (fun i wr => ∃ (k : Nat) (lo a : Int), k ≤ n ∧ i = .int .i64 k ∧ Hid (Below w.heap.size w wr) ∧ Hid (OscAt wr b lo a bd) ∧ Hid (OscOk s bd lo a)) (fun i _ => n - (intOf i).toNat)
  case atStart => exact ⟨0, s, 0, by omega, rfl, Lib.hid hb1, Lib.hid ho, Lib.hid (osc_new s0 s1 d0 d1)⟩
  case round =>
    obtain ⟨k, lo, a, hk, rfl, HB, HO, HK⟩ := hrel
    have ok := HK.out
    have low := osc_low ok
    obtain ⟨_, _, _, _, a1, a2, l2, _, _⟩ := ok
    have hwr := HB.out
    have hsz := hwr.size
    have hbr := HO.out.lt
    have hwbr := hwb
    by_cases hkn : k < n
    · obtain ⟨sb, o, rfl, hsb, hf, hg, c0, c1⟩ := HSC.out k hkn
      have e0 := (hwr.cell (p := ⟨sb, o + k * 2, none⟩) hsb).trans c0
      have e1 := (hwr.cell (p := ⟨sb, o + k * 2 + 1, none⟩) hsb).trans c1
      have q0 := HO.out.1
      have q1 := HO.out.2.1
      have q2 := HO.out.2.2
      clear c0 c1
      obtain ⟨l', a', r, hgo⟩ : ∃ l' a' r, goP lo a bd (f k) (g k) = (l', a', r) := ⟨_, _, _, rfl⟩
      have HG := Lib.hid hgo
      have hok2 := Lib.hid (osc_go HK.out hgo)
      have hrf := go_refuses hgo
      have HRF := Lib.hid hrf
      clear hrf hgo
      have hfk := hf
      have hgk := hg
      unfold I64 at hfk hgk
      have hne : wr.heap.size ≠ b := Nat.ne_of_gt hbr
      go_wp2_with fail
      refine (Local_is b lo a bd _ (by refine ⟨?_, ?_, ?_⟩ <;> (repeat (first | with_reducible exact q0 | with_reducible exact q1 | with_reducible exact q2 | with_reducible refine CellF.past _ ?_ | with_reducible refine CellF.drew ?_ | with_reducible refine CellF.drewN _ ?_)))).mono ?_
      rintro e w2 ⟨rfl, hb2⟩
      have hw2 : Below w.heap.size w w2 := (by repeat (first | exact brefl _ | refine balloc ?_ _ | refine bdrewN ?_ _ | refine bset ?_ (by dsimp only; omega) _ | refine bstep ?_ (by assumption)))
      have ho2 : OscAt w2 b lo a bd := ⟨CellF.keep hb2 (by repeat (first | with_reducible exact q0 | with_reducible exact CellF.at_ (by simp) rfl | with_reducible refine CellF.past _ ?_ | with_reducible refine CellF.drew ?_ | with_reducible refine CellF.drewN _ ?_)), CellF.keep hb2 (by repeat (first | with_reducible exact q1 | with_reducible exact CellF.at_ (by simp) rfl | with_reducible refine CellF.past _ ?_ | with_reducible refine CellF.drew ?_ | with_reducible refine CellF.drewN _ ?_)), CellF.keep hb2 (by repeat (first | with_reducible exact q2 | with_reducible exact CellF.at_ (by simp) rfl | with_reducible refine CellF.past _ ?_ | with_reducible refine CellF.drew ?_ | with_reducible refine CellF.drewN _ ?_))⟩
      have t2_0 : CellF w2 ⟨wr.heap.size, 0, none⟩ (.int .i64 (f k)) := CellF.keep hb2 (by repeat (first | with_reducible exact CellF.at_ (by simp) rfl | with_reducible refine CellF.past _ ?_ | with_reducible refine CellF.drew ?_ | with_reducible refine CellF.drewN _ ?_))
      have t2_1 : CellF w2 ⟨wr.heap.size, 1, none⟩ (.int .i64 (g k)) := CellF.keep hb2 (by repeat (first | with_reducible exact CellF.at_ (by simp) rfl | with_reducible refine CellF.past _ ?_ | with_reducible refine CellF.drew ?_ | with_reducible refine CellF.drewN _ ?_))
      clear q0 q1 q2 e0 e1
      go_wp2_with fail
      refine (True_is b _ _ _ _ ho2).mono ?_
      rintro e w3 ⟨rfl, hb3⟩
      have ho3 := ho2.keep hb3
      have t3_0 : CellF w3 ⟨wr.heap.size, 0, none⟩ (.int .i64 (f k)) := t2_0.keep hb3
      have u3_0 := t3_0.1
      have t3_1 : CellF w3 ⟨wr.heap.size, 1, none⟩ (.int .i64 (g k)) := t2_1.keep hb3
      have u3_1 := t3_1.1
      clear t2_0 t2_1
      go_wp2_with fail
      refine (Go_is b lo a bd (f k) (g k) l' a' r hf hg (by omega) (by omega) a1 a2 HG _ ho3).mono ?_
      rintro e w4 ⟨rfl, hon, ho4⟩
      have t4_0 : CellF w4 ⟨wr.heap.size, 0, none⟩ (.int .i64 (f k)) := hon.2 _ _ hne (t3_0)
      have u4_0 := t4_0.1
      have t4_1 : CellF w4 ⟨wr.heap.size, 1, none⟩ (.int .i64 (g k)) := hon.2 _ _ hne (t3_1)
      have u4_1 := t4_1.1
      clear t3_0 t3_1 u3_0 u3_1
      have hw4 : Below w.heap.size w w4 := (bstep hw2 hb3).trans (hon.1.mono hwb)
      rcases HRF.out with ⟨rfl, h1, h2⟩ | ⟨rfl, h1, h2, h3⟩
      · subst h1 h2
        go_wp2_with fail
        refine (Local_is b _ _ _ _ ho4).mono ?_
        rintro e w5 ⟨rfl, hb5⟩
        have ho5 := ho4.keep hb5
        have t5_0 : CellF w5 ⟨wr.heap.size, 0, none⟩ (.int .i64 (f k)) := (t4_0).keep hb5
        have u5_0 := t5_0.1
        have t5_1 : CellF w5 ⟨wr.heap.size, 1, none⟩ (.int .i64 (g k)) := (t4_1).keep hb5
        have u5_1 := t5_1.1
        go_wp2_with fail
        refine (True_is b _ _ _ _ ho5).mono ?_
        rintro e w6 ⟨rfl, hb6⟩
        have ho6 := ho5.keep hb6
        have t6_0 : CellF w6 ⟨wr.heap.size, 0, none⟩ (.int .i64 (f k)) := (t5_0).keep hb6
        have u6_0 := t6_0.1
        have t6_1 : CellF w6 ⟨wr.heap.size, 1, none⟩ (.int .i64 (g k)) := (t5_1).keep hb6
        have u6_1 := t6_1.1
        clear t4_0 t4_1 u4_0 u4_1 t5_0 t5_1 u5_0 u5_1
        by_cases z1 : bd < g k ∨ g k < -bd ∨ f k < 0
        · by_cases z2 : bd < g k
          · clear z1
            go_wp2_with fail
            refine (Local_is b _ _ _ _ ho6).mono ?_
            rintro e w7 ⟨rfl, hb7⟩
            have ho7 := ho6.keep hb7
            go_wp2
            go_roundw
            case rel => exact ⟨k + 1, _, _, by omega, by go_num, Lib.hid (bstep (bstep (bstep hw4 hb5) hb6) hb7), Lib.hid ho7, hok2⟩
            case measure => simp [intOf]; omega
          by_cases z3 : g k < -bd
          · clear z1
            go_wp2_with fail
            refine (Local_is b _ _ _ _ ho6).mono ?_
            rintro e w7 ⟨rfl, hb7⟩
            have ho7 := ho6.keep hb7
            go_wp2
            go_roundw
            case rel => exact ⟨k + 1, _, _, by omega, by go_num, Lib.hid (bstep (bstep (bstep hw4 hb5) hb6) hb7), Lib.hid ho7, hok2⟩
            case measure => simp [intOf]; omega
          have z4 : f k < 0 := by omega
          clear z1
          go_wp2_with fail
          refine (Local_is b _ _ _ _ ho6).mono ?_
          rintro e w7 ⟨rfl, hb7⟩
          have ho7 := ho6.keep hb7
          go_wp2
          go_roundw
          case rel => exact ⟨k + 1, _, _, by omega, by go_num, Lib.hid (bstep (bstep (bstep hw4 hb5) hb6) hb7), Lib.hid ho7, hok2⟩
          case measure => simp [intOf]; omega
        · have z2 : g k ≤ bd := by omega
          have z3 : -bd ≤ g k := by omega
          have z4 : 0 ≤ f k := by omega
          clear z1
          go_wp2
          go_roundw
          case rel => exact ⟨k + 1, _, _, by omega, by go_num, Lib.hid (bstep (bstep hw4 hb5) hb6), Lib.hid ho6, hok2⟩
          case measure => simp [intOf]; omega
      · go_wp2
        go_roundw
        case rel => exact ⟨k + 1, _, _, by omega, by go_num, Lib.hid hw4, Lib.hid ho4, hok2⟩
        case measure => simp [intOf]; omega
    · go_wp2_with fail
      refine (alive_is _).mono ?_
      rintro e w2 ⟨rfl, hb2⟩
      go_wp2
      go_ret
      exact ⟨rfl, (by repeat (first | exact brefl _ | refine balloc ?_ _ | refine bdrewN ?_ _ | refine bset ?_ (by dsimp only; omega) _ | refine bstep ?_ (by assumption)))⟩
end Go.Proofs.Ytdkdckfkhhbfnaa
