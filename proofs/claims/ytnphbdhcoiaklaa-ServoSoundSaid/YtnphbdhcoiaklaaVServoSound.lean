/-
  The walk of the law ServoSound.
-/
import Derived.Test.YtnphbdhcoiaklaaGD
import Derived.Test.YtnphbdhcoiaklaaScrT
import Derived.Test.YtnphbdhcoiaklaaMss
import Derived.Test.YtnphbdhcoiaklaaGE
namespace Go.Proofs.Ytnphbdhcoiaklaa
open Go.RowKit

set_option maxRecDepth 100000 in
set_option maxHeartbeats 8000000 in
theorem ServoSound_walk (p oz : Int) (v : Value) (n : Nat) (f : Nat → TurnIs) (w : World) (hp : I64 p) (_ho : I64 oz) (hv : ScriptT w v n f) :
    Calls Try.prog 10 #[.int .i64 p, .int .i64 oz, v] w fun e w' => e = .returned (.bool true) ∧ Below w.heap.size w w' := by
  obtain ⟨a0, cap, rfl, hn, hnc, hcap, hsc⟩ := hv
  have HSC := Lib.hid hsc
  clear hsc
  by_cases hbad : p < 0 ∨ 1000000000 < p
  · go_enter Try.func10, Try.ntmps10
    go_wp2_with fail
    refine (SNew_no p hp hbad _).mono ?_
    rintro e w1 ⟨rfl, hb1⟩
    go_wp2_with fail
    refine (alive_is _).mono ?_
    rintro e w2 ⟨rfl, hb2⟩
    go_wp2
    go_ret
    exact ⟨rfl, (by repeat (first | exact brefl _ | refine balloc ?_ _ | refine bdrewN ?_ _ | refine bset ?_ (by dsimp only; omega) _ | refine bstep ?_ (by assumption)))⟩
  have p0 : 0 ≤ p := by omega
  have p9 : p ≤ 1000000000 := by omega
  clear hbad
  by_cases hbig : (200 : Int) < n
  · go_enter Try.func10, Try.ntmps10
    go_wp2_with fail
    refine (SNew_yes p p0 p9 _).mono ?_
    rintro e w1 ⟨b, rfl, hb1, hwb, ho⟩
    go_wp2_with fail
    refine (alive_is _).mono ?_
    rintro e w2 ⟨rfl, hb2⟩
    go_wp2
    go_ret
    exact ⟨rfl, (by repeat (first | exact brefl _ | refine balloc ?_ _ | refine bdrewN ?_ _ | refine bset ?_ (by dsimp only; omega) _ | refine bstep ?_ (by assumption)))⟩
  have hn1 : n ≤ 200 := by omega
  clear hbig
  by_cases hbig : oz < -1125899906842624
  · go_enter Try.func10, Try.ntmps10
    go_wp2_with fail
    refine (SNew_yes p p0 p9 _).mono ?_
    rintro e w1 ⟨b, rfl, hb1, hwb, ho⟩
    go_wp2_with fail
    refine (alive_is _).mono ?_
    rintro e w2 ⟨rfl, hb2⟩
    go_wp2
    go_ret
    exact ⟨rfl, (by repeat (first | exact brefl _ | refine balloc ?_ _ | refine bdrewN ?_ _ | refine bset ?_ (by dsimp only; omega) _ | refine bstep ?_ (by assumption)))⟩
  have hf0 : -1125899906842624 ≤ oz := by omega
  clear hbig
  by_cases hbig : 1125899906842624 < oz
  · go_enter Try.func10, Try.ntmps10
    go_wp2_with fail
    refine (SNew_yes p p0 p9 _).mono ?_
    rintro e w1 ⟨b, rfl, hb1, hwb, ho⟩
    go_wp2_with fail
    refine (alive_is _).mono ?_
    rintro e w2 ⟨rfl, hb2⟩
    go_wp2
    go_ret
    exact ⟨rfl, (by repeat (first | exact brefl _ | refine balloc ?_ _ | refine bdrewN ?_ _ | refine bset ?_ (by dsimp only; omega) _ | refine bstep ?_ (by assumption)))⟩
  have hf1 : oz ≤ 1125899906842624 := by omega
  clear hbig
  go_enter Try.func10, Try.ntmps10
  go_wp2_with fail
  refine (SNew_yes p p0 p9 _).mono ?_
  rintro e w1 ⟨b, rfl, hb1, hwb, ho⟩
  have hs0 := snd_start (p := p) hf0 hf1
  have hbw : w.heap.size ≤ b := hwb
  clear hwb
  go_wp2
  go_loopw [1, 9, 10, 52] (fun vo vt vs i wr => ∃ (k : Nat) (off t lo hi : Int) (kn : Bool) (a m : Int), k ≤ n ∧ i = .int .i64 k ∧ vo = .int .i64 off ∧ vt = .int .i64 t ∧ vs = .bool kn ∧ 0 ≤ m ∧ m ≤ k ∧ Hid (Below w.heap.size w wr) ∧ Hid (SrvAt wr b lo hi kn a m p) ∧ Hid (Snd p k t off ⟨lo, hi, kn⟩ a)) (fun _ _ _ i _ => n - (intOf i).toNat)
  case atStart => exact ⟨0, oz, 0, 0, 0, false, 0, 0, by omega, rfl, rfl, rfl, rfl, by omega, by omega, Lib.hid hb1, Lib.hid ho, Lib.hid hs0⟩
  case round =>
    clear hb1 ho hs0 _ho hf0 hf1
    obtain ⟨k, off, t, lo, hi, kn, a, m, hk, rfl, rfl, rfl, rfl, hm0, hm1, HB, HO, HS⟩ := hrel
    have hwr := HB.out
    have hsz := hwr.size
    have hbr := HO.out.lt
    by_cases hkn : k < n
    · obtain ⟨sb, o, rfl, hsb, hpa, hch, hw0, hw1, c0, c1, c2, c3, c4⟩ := HSC.out k hkn
      have e0 := (hwr.cell (p := ⟨sb, o + k * 5, none⟩) hsb).trans c0
      have e1 := (hwr.cell (p := ⟨sb, o + k * 5 + 1, none⟩) hsb).trans c1
      have e2 := (hwr.cell (p := ⟨sb, o + k * 5 + 2, none⟩) hsb).trans c2
      have e3 := (hwr.cell (p := ⟨sb, o + k * 5 + 3, none⟩) hsb).trans c3
      have e4 := (hwr.cell (p := ⟨sb, o + k * 5 + 4, none⟩) hsb).trans c4
      clear c0 c1 c2 c3 c4
      have hs := HS.out
      obtain ⟨t0, t1, o0, o1, _⟩ := hs
      have tB : t ≤ 219902325555200 := by omega
      have oB0 : -1345802232397824 ≤ off := by omega
      have oB1 : off ≤ 1345802232397824 := by omega
      clear t1 o0 o1
      have hdef : ∃ q : TurnIs, f k = q := ⟨_, rfl⟩
      obtain ⟨⟨pa, ch, te, wi, wj⟩, hq⟩ := hdef
      rw [hq] at e0 e1 e2 e3 e4 hpa hch hw0 hw1
      dsimp only at e0 e1 e2 e3 e4 hpa hch hw0 hw1
      unfold I64 at hpa hch hw0 hw1
      clear hq
      by_cases hb' : pa < 0
      · skip
        go_wp2_with fail
        refine (alive_is _).mono ?_
        rintro e w2 ⟨rfl, hb2⟩
        go_wp2
        go_ret
        exact ⟨rfl, (by repeat (first | exact brefl _ | refine balloc ?_ _ | refine bdrewN ?_ _ | refine bset ?_ (by dsimp only; omega) _ | refine bstep ?_ (by assumption)))⟩
      have a0' : 0 ≤ pa := by omega
      clear hb'
      by_cases hb' : 1099511627776 < pa
      · skip
        go_wp2_with fail
        refine (alive_is _).mono ?_
        rintro e w2 ⟨rfl, hb2⟩
        go_wp2
        go_ret
        exact ⟨rfl, (by repeat (first | exact brefl _ | refine balloc ?_ _ | refine bdrewN ?_ _ | refine bset ?_ (by dsimp only; omega) _ | refine bstep ?_ (by assumption)))⟩
      have a1' : pa ≤ 1099511627776 := by omega
      clear hb'
      by_cases hb' : wi < 0
      · skip
        go_wp2_with fail
        refine (alive_is _).mono ?_
        rintro e w2 ⟨rfl, hb2⟩
        go_wp2
        go_ret
        exact ⟨rfl, (by repeat (first | exact brefl _ | refine balloc ?_ _ | refine bdrewN ?_ _ | refine bset ?_ (by dsimp only; omega) _ | refine bstep ?_ (by assumption)))⟩
      have x0' : 0 ≤ wi := by omega
      clear hb'
      by_cases hb' : 1099511627776 < wi
      · skip
        go_wp2_with fail
        refine (alive_is _).mono ?_
        rintro e w2 ⟨rfl, hb2⟩
        go_wp2
        go_ret
        exact ⟨rfl, (by repeat (first | exact brefl _ | refine balloc ?_ _ | refine bdrewN ?_ _ | refine bset ?_ (by dsimp only; omega) _ | refine bstep ?_ (by assumption)))⟩
      have x1' : wi ≤ 1099511627776 := by omega
      clear hb'
      by_cases hb' : wj < 0
      · skip
        go_wp2_with fail
        refine (alive_is _).mono ?_
        rintro e w2 ⟨rfl, hb2⟩
        go_wp2
        go_ret
        exact ⟨rfl, (by repeat (first | exact brefl _ | refine balloc ?_ _ | refine bdrewN ?_ _ | refine bset ?_ (by dsimp only; omega) _ | refine bstep ?_ (by assumption)))⟩
      have y0' : 0 ≤ wj := by omega
      clear hb'
      by_cases hb' : 1099511627776 < wj
      · skip
        go_wp2_with fail
        refine (alive_is _).mono ?_
        rintro e w2 ⟨rfl, hb2⟩
        go_wp2
        go_ret
        exact ⟨rfl, (by repeat (first | exact brefl _ | refine balloc ?_ _ | refine bdrewN ?_ _ | refine bset ?_ (by dsimp only; omega) _ | refine bstep ?_ (by assumption)))⟩
      have y1' : wj ≤ 1099511627776 := by omega
      clear hb'
      obtain ⟨hfl, mB0, mB1⟩ := snd_floor p0 p9 a0' a1'
      have hst : ∀ ch : Int, -(pa * p / 1000000000) ≤ ch → ch ≤ pa * p / 1000000000 → Snd p (k + 1) (t + pa) (off + ch) ⟨lo, hi, kn⟩ a := fun ch q1 q2 => snd_step p0 p9 HS.out a0' a1' q1 q2
      generalize pa * p / 1000000000 = most at *
      have HF := Lib.hid hfl
      have HST := Lib.hid hst
      clear hfl hst
      go_wp2_with fail
      refine (rFloor_is pa p 1000000000 most true HF _).mono ?_
      rintro e w2 ⟨rfl, hb2⟩
      have q2_0 : CellF w2 ⟨wr.heap.size, 0, none⟩ (.int .i64 pa) := CellF.keep hb2 (CellF.at_ rfl rfl)
      have c2_0 := q2_0.1
      have q2_1 : CellF w2 ⟨wr.heap.size, 1, none⟩ (.int .i64 ch) := CellF.keep hb2 (CellF.at_ rfl rfl)
      have c2_1 := q2_1.1
      have q2_2 : CellF w2 ⟨wr.heap.size, 2, none⟩ (.bool te) := CellF.keep hb2 (CellF.at_ rfl rfl)
      have c2_2 := q2_2.1
      have q2_3 : CellF w2 ⟨wr.heap.size, 3, none⟩ (.int .i64 wi) := CellF.keep hb2 (CellF.at_ rfl rfl)
      have c2_3 := q2_3.1
      have q2_4 : CellF w2 ⟨wr.heap.size, 4, none⟩ (.int .i64 wj) := CellF.keep hb2 (CellF.at_ rfl rfl)
      have c2_4 := q2_4.1
      have z2 : wr.heap.size < w2.heap.size := ltc c2_0
      have ho2 : SrvAt w2 b lo hi kn a m p := (SrvAt.past _ HO.out).keep hb2
      have hw2 : Below w.heap.size w w2 := (by repeat (first | exact brefl _ | refine balloc ?_ _ | refine bdrewN ?_ _ | refine bset ?_ (by dsimp only; omega) _ | refine bstep ?_ (by assumption)))
      clear e0 e1 e2 e3 e4
      by_cases hb' : ch < -most
      · skip
        go_wp2_with fail
        refine (alive_is _).mono ?_
        rintro e w3 ⟨rfl, hb3⟩
        go_wp2
        go_ret
        exact ⟨rfl, (by repeat (first | exact brefl _ | refine balloc ?_ _ | refine bdrewN ?_ _ | refine bset ?_ (by dsimp only; omega) _ | refine bstep ?_ (by assumption)))⟩
      have l0 : -most ≤ ch := by omega
      clear hb'
      by_cases hb' : most < ch
      · skip
        go_wp2_with fail
        refine (alive_is _).mono ?_
        rintro e w3 ⟨rfl, hb3⟩
        go_wp2
        go_ret
        exact ⟨rfl, (by repeat (first | exact brefl _ | refine balloc ?_ _ | refine bdrewN ?_ _ | refine bset ?_ (by dsimp only; omega) _ | refine bstep ?_ (by assumption)))⟩
      have l1 : ch ≤ most := by omega
      clear hb'
      have hs2 := HST.out ch l0 l1
      have HS2 := Lib.hid hs2
      have hu1 : IntKind.i64.wrap (t + pa) = t + pa := by rw [IntKind.wrap_i64]; omega
      have hu2 : IntKind.i64.wrap (off + ch) = off + ch := by rw [IntKind.wrap_i64]; omega
      have hu3 : IntKind.i64.wrap (off + ch - wi) = off + ch - wi := by rw [IntKind.wrap_i64]; omega
      have hu4 : IntKind.i64.wrap (off + ch + wj) = off + ch + wj := by rw [IntKind.wrap_i64]; omega
      have hu5 : IntKind.i64.wrap (t + pa + (off + ch)) = t + pa + (off + ch) := by rw [IntKind.wrap_i64]; omega
      clear hs2
      cases te with
      | true =>
        obtain ⟨hof, ⟨lo', hi', kn'⟩, m', hob, hs3, hsk⟩ := snd_obs (m := m) p0 p9 (show k + 1 ≤ 200 by omega) HS2.out x0' x1' y0' y1'
        have hkn' : kn' = true := (spK_iff.1 hsk).1
        subst hkn'
        have hmc := obs_count hm0 hob
        have HOF := Lib.hid hof
        have HOB := Lib.hid hob
        have HS3 := Lib.hid hs3
        clear hof hob hs3
        go_wp2_with fail
        refine (Of_is _ _ _ _ _ HOF _).mono ?_
        rintro e w3 ⟨rfl, hb3⟩
        have ho3 := ho2.keep hb3
        go_wp2_with fail
        refine (Observe_is b lo hi kn a m p _ _ true (t + pa) lo' hi' true (t + pa) m' true hm0 (by omega) HOB _ ho3).mono ?_
        rintro e w4 ⟨rfl, on4, ho4⟩
        have hw4 : Below w.heap.size w w4 := (bstep hw2 hb3).trans (on4.1.mono hbw)
        clear q2_0 q2_1 q2_2 q2_3 q2_4 c2_0 c2_1 c2_2 c2_3 c2_4 z2
        obtain ⟨r1, r2, hr, hh1, _, hm, hh2⟩ := snd_read p0 p9 (show k + 1 ≤ 200 by omega) HS3.out hsk
        have HR := Lib.hid hr
        have HM := Lib.hid hm
        have HH1 := Lib.hid hh1
        have HH2 := Lib.hid hh2
        clear hr hm hh1 hh2 hsk
        go_wp2_with fail
        refine (Read_is b lo' hi' true (t + pa) m' p (t + pa) _ _ _ HR _ ho4).mono ?_
        rintro e w5 ⟨rfl, hb5⟩
        have ho5 := ho4.keep hb5
        go_wp2_with fail
        refine (Master_is b lo' hi' true (t + pa) m' p (t + pa) _ _ _ HM _ (SrvAt.past _ ho5)).mono ?_
        rintro e w6 ⟨rfl, hb6⟩
        have ho6 := (SrvAt.past _ ho5).keep hb6
        have r6_0 : CellF w6 ⟨w5.heap.size, 0, none⟩ (.int .i64 r1) := CellF.keep hb6 (CellF.at_ rfl rfl)
        have rc6_0 := r6_0.1
        have r6_1 : CellF w6 ⟨w5.heap.size, 1, none⟩ (.int .i64 r2) := CellF.keep hb6 (CellF.at_ rfl rfl)
        have rc6_1 := r6_1.1
        have r6_2 : CellF w6 ⟨w5.heap.size, 2, none⟩ (.bool true) := CellF.keep hb6 (CellF.at_ rfl rfl)
        have rc6_2 := r6_2.1
        have zr : w5.heap.size < w6.heap.size := ltc rc6_0
        go_wp2_with fail
        refine (Has_is _ _ _ _ _ HH1 _).mono ?_
        rintro e w7 ⟨rfl, hb7⟩
        have ho7 := (SrvAt.past _ ho6).keep hb7
        have m7_0 : CellF w7 ⟨w6.heap.size, 0, none⟩ (.int .i64 (r1 + (t + pa))) := CellF.keep hb7 (CellF.at_ rfl rfl)
        have mc7_0 := m7_0.1
        have m7_1 : CellF w7 ⟨w6.heap.size, 1, none⟩ (.int .i64 (r2 + (t + pa))) := CellF.keep hb7 (CellF.at_ rfl rfl)
        have mc7_1 := m7_1.1
        have m7_2 : CellF w7 ⟨w6.heap.size, 2, none⟩ (.bool true) := CellF.keep hb7 (CellF.at_ rfl rfl)
        have mc7_2 := m7_2.1
        have zm : w6.heap.size < w7.heap.size := ltc mc7_0
        go_wp2_with fail
        refine (Has_is _ _ _ _ _ HH2 _).mono ?_
        rintro e w8 ⟨rfl, hb8⟩
        have ho8 := ho7.keep hb8
        go_wp2
        go_roundw
        case rel => exact ⟨k + 1, off + ch, t + pa, lo', hi', true, (t + pa), m', by omega, by go_num, rfl, rfl, rfl, by omega, by omega, Lib.hid (bstep (bstep (balloc (bstep (balloc (bstep hw4 hb5) _) hb6) _) hb7) hb8), Lib.hid ho8, HS3⟩
        case measure => simp [intOf]; omega
      | false =>
        clear hu3 hu4
        cases kn with
        | true =>
          have hsk : spK ⟨lo, hi, true⟩ = true := by
            rcases HS2.out.2.2.2.2 with e | e
            · cases e
            · exact e.1
          obtain ⟨r1, r2, hr, hh1, _, hm, hh2⟩ := snd_read p0 p9 (show k + 1 ≤ 200 by omega) HS2.out hsk
          have HR := Lib.hid hr
          have HM := Lib.hid hm
          have HH1 := Lib.hid hh1
          have HH2 := Lib.hid hh2
          clear hr hm hh1 hh2 hsk
          go_wp2_with fail
          refine (Read_is b lo hi true a m p (t + pa) _ _ _ HR _ ho2).mono ?_
          rintro e w3 ⟨rfl, hb3⟩
          have ho3 := ho2.keep hb3
          go_wp2_with fail
          refine (Master_is b lo hi true a m p (t + pa) _ _ _ HM _ (SrvAt.past _ ho3)).mono ?_
          rintro e w4 ⟨rfl, hb4⟩
          have ho4 := (SrvAt.past _ ho3).keep hb4
          have r4_0 : CellF w4 ⟨w3.heap.size, 0, none⟩ (.int .i64 r1) := CellF.keep hb4 (CellF.at_ rfl rfl)
          have rc4_0 := r4_0.1
          have r4_1 : CellF w4 ⟨w3.heap.size, 1, none⟩ (.int .i64 r2) := CellF.keep hb4 (CellF.at_ rfl rfl)
          have rc4_1 := r4_1.1
          have r4_2 : CellF w4 ⟨w3.heap.size, 2, none⟩ (.bool true) := CellF.keep hb4 (CellF.at_ rfl rfl)
          have rc4_2 := r4_2.1
          have zr : w3.heap.size < w4.heap.size := ltc rc4_0
          go_wp2_with fail
          refine (Has_is _ _ _ _ _ HH1 _).mono ?_
          rintro e w5 ⟨rfl, hb5⟩
          have ho5 := (SrvAt.past _ ho4).keep hb5
          have m5_0 : CellF w5 ⟨w4.heap.size, 0, none⟩ (.int .i64 (r1 + (t + pa))) := CellF.keep hb5 (CellF.at_ rfl rfl)
          have mc5_0 := m5_0.1
          have m5_1 : CellF w5 ⟨w4.heap.size, 1, none⟩ (.int .i64 (r2 + (t + pa))) := CellF.keep hb5 (CellF.at_ rfl rfl)
          have mc5_1 := m5_1.1
          have m5_2 : CellF w5 ⟨w4.heap.size, 2, none⟩ (.bool true) := CellF.keep hb5 (CellF.at_ rfl rfl)
          have mc5_2 := m5_2.1
          have zm : w4.heap.size < w5.heap.size := ltc mc5_0
          go_wp2_with fail
          refine (Has_is _ _ _ _ _ HH2 _).mono ?_
          rintro e w6 ⟨rfl, hb6⟩
          have ho6 := ho5.keep hb6
          go_wp2
          go_roundw
          case rel => exact ⟨k + 1, off + ch, t + pa, lo, hi, true, a, m, by omega, by go_num, rfl, rfl, rfl, by omega, by omega, Lib.hid (bstep (bstep (balloc (bstep (balloc (bstep hw2 hb3) _) hb4) _) hb5) hb6), Lib.hid ho6, HS2⟩
          case measure => simp [intOf]; omega
        | false =>
          have hno : (⟨lo, hi, false⟩ : Sp) = spNo := by
            rcases HS2.out.2.2.2.2 with e | e
            · exact e
            · cases (spK_iff.1 e.1).1
          have hr : sRead ⟨lo, hi, false⟩ a p (t + pa) = ⟨0, 0, false⟩ := by unfold sRead; rw [if_pos (.inr rfl)]; rfl
          obtain ⟨⟨m1, m2, m3⟩, hm⟩ : ∃ s, sMaster ⟨lo, hi, false⟩ a p (t + pa) = s := ⟨_, rfl⟩
          have HR := Lib.hid hr
          have HM := Lib.hid hm
          clear hr hm hno
          go_wp2_with fail
          refine (Read_is b lo hi false a m p (t + pa) _ _ _ HR _ ho2).mono ?_
          rintro e w3 ⟨rfl, hb3⟩
          have ho3 := ho2.keep hb3
          go_wp2_with fail
          refine (Master_is b lo hi false a m p (t + pa) _ _ _ HM _ (SrvAt.past _ ho3)).mono ?_
          rintro e w4 ⟨rfl, hb4⟩
          have ho4 := (SrvAt.past _ ho3).keep hb4
          have r4_2 : CellF w4 ⟨w3.heap.size, 2, none⟩ (.bool false) := CellF.keep hb4 (CellF.at_ rfl rfl)
          have rc4_2 := r4_2.1
          have zr : w3.heap.size < w4.heap.size := ltc rc4_2
          go_wp2
          go_roundw
          case rel => exact ⟨k + 1, off + ch, t + pa, lo, hi, false, a, m, by omega, by go_num, rfl, rfl, rfl, by omega, by omega, Lib.hid (balloc (bstep (balloc (bstep hw2 hb3) _) hb4) _), Lib.hid (SrvAt.past _ ho4), HS2⟩
          case measure => simp [intOf]; omega
    · skip
      go_wp2_with fail
      refine (alive_is _).mono ?_
      rintro e w2 ⟨rfl, hb2⟩
      go_wp2
      go_ret
      exact ⟨rfl, (by repeat (first | exact brefl _ | refine balloc ?_ _ | refine bdrewN ?_ _ | refine bset ?_ (by dsimp only; omega) _ | refine bstep ?_ (by assumption)))⟩
end Go.Proofs.Ytnphbdhcoiaklaa
