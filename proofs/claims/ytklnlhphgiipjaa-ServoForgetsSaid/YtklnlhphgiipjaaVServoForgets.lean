/-
  The walk of the law ServoForgets.
-/
import Derived.Test.YtklnlhphgiipjaaAlServo
import Derived.Test.YtklnlhphgiipjaaVe
import Derived.Test.YtklnlhphgiipjaaScr5
import Derived.Deep.RegionHeld3
namespace Go.Proofs.Ytklnlhphgiipjaa
open Go.RowKit

set_option maxRecDepth 100000 in
set_option maxHeartbeats 8000000 in
theorem ServoForgets_walk (p : Int) (v : Value) (n : Nat) (f : Nat → OpIs) (v2 : Value) (n2 : Nat) (g : Nat → OpIs) (w : World) (hp : I64 p) (hv : Script5 w v n f) (hv2 : Script5 w v2 n2 g) :
    Calls Try.prog 5 #[.int .i64 p, v, v2] w fun e w' => e = .returned (.bool true) ∧ Below w.heap.size w w' := by
  obtain ⟨a0, cap, rfl, hn, hnc, hcap, hsc⟩ := hv
  have HSC := Lib.hid hsc
  clear hsc
  obtain ⟨a2, cap2, rfl, hn2, hnc2, hcap2, hsc2⟩ := hv2
  have HSC2 := Lib.hid hsc2
  clear hsc2
  by_cases hbad : p < 0 ∨ 1000000000 < p
  · go_enter Try.func5, Try.ntmps5
    go_wp2_with fail
    refine (SNew_no p hp hbad _).mono ?_
    rintro e w1 ⟨rfl, hb1⟩
    go_wp2_with fail
    refine (SNew_no p hp hbad _).mono ?_
    rintro e w2 ⟨rfl, hb2⟩
    go_wp2_with fail
    refine (alive_is _).mono ?_
    rintro e w3 ⟨rfl, hb3⟩
    go_wp2
    go_ret
    exact ⟨rfl, (by repeat (first | exact brefl _ | refine balloc ?_ _ | refine bdrewN ?_ _ | refine bset ?_ (by dsimp only; omega) _ | refine bstep ?_ (by assumption)))⟩
  have p0 : 0 ≤ p := by omega
  have p9 : p ≤ 1000000000 := by omega
  clear hbad
  by_cases hbig : (200 : Int) < n
  · go_enter Try.func5, Try.ntmps5
    go_wp2_with fail
    refine (SNew_yes p p0 p9 _).mono ?_
    rintro e w1 ⟨b, rfl, hb1, hwb, ho⟩
    go_wp2_with fail
    refine (SNew_yes p p0 p9 _).mono ?_
    rintro e w2 ⟨c, rfl, hb2, hwc, hp⟩
    go_wp2_with fail
    refine (alive_is _).mono ?_
    rintro e w3 ⟨rfl, hb3⟩
    go_wp2
    go_ret
    exact ⟨rfl, (by repeat (first | exact brefl _ | refine balloc ?_ _ | refine bdrewN ?_ _ | refine bset ?_ (by dsimp only; omega) _ | refine bstep ?_ (by assumption)))⟩
  have hqn : n ≤ 200 := by omega
  clear hbig
  by_cases hbig : (200 : Int) < n2
  · go_enter Try.func5, Try.ntmps5
    go_wp2_with fail
    refine (SNew_yes p p0 p9 _).mono ?_
    rintro e w1 ⟨b, rfl, hb1, hwb, ho⟩
    go_wp2_with fail
    refine (SNew_yes p p0 p9 _).mono ?_
    rintro e w2 ⟨c, rfl, hb2, hwc, hp⟩
    go_wp2_with fail
    refine (alive_is _).mono ?_
    rintro e w3 ⟨rfl, hb3⟩
    go_wp2
    go_ret
    exact ⟨rfl, (by repeat (first | exact brefl _ | refine balloc ?_ _ | refine bdrewN ?_ _ | refine bset ?_ (by dsimp only; omega) _ | refine bstep ?_ (by assumption)))⟩
  have hqn2 : n2 ≤ 200 := by omega
  clear hbig
  go_enter Try.func5, Try.ntmps5
  go_wp2_with fail
  refine (SNew_yes p p0 p9 _).mono ?_
  rintro e w1 ⟨b, rfl, hb1, hwb, ho⟩
  go_wp2_with fail
  refine (SNew_yes p p0 p9 _).mono ?_
  rintro e w2 ⟨c, rfl, hb2, hwc, hp⟩
  have hbw : w.heap.size ≤ b := hwb
  have hcw : w.heap.size ≤ c := Nat.le_trans hb1.size hwc
  have hbc : b ≠ c := Nat.ne_of_lt (Nat.lt_of_lt_of_le ho.lt hwc)
  have hw2 : Below w.heap.size w w2 := bstep hb1 hb2
  have ho2 := ho.keep hb2
  clear hb1 hwb hb2 hwc ho
  go_wp2
  go_loopw [61] (fun i wr => ∃ (k : Nat) (lo hi : Int) (kn : Bool) (a m : Int), k ≤ n ∧ i = .int .i64 k ∧ 0 ≤ m ∧ m ≤ k ∧ Hid (Below w.heap.size w wr) ∧ Hid (SrvAt wr b lo hi kn a m p ∧ SrvAt wr c 0 0 false 0 0 p)) (fun i _ => n - (intOf i).toNat)
  case atStart => exact ⟨0, 0, 0, false, 0, 0, by omega, rfl, by omega, by omega, Lib.hid hw2, Lib.hid ⟨ho2, hp⟩⟩
  case round =>
    clear hw2 ho2 hp
    obtain ⟨k, lo, hi, kn, a, m, hk, rfl, hm0, hm1, HB, HO⟩ := hrel
    have hwr := HB.out
    have hsz := hwr.size
    have hbr := HO.out.1.lt
    by_cases hkn : k < n
    · obtain ⟨sb, o, rfl, hsb, hkd, hat, hlo, hhi, c0, c1, c2, c3, c4⟩ := HSC.out k hkn
      have e0 := (hwr.cell (p := ⟨sb, o + k * 5, none⟩) hsb).trans c0
      have e1 := (hwr.cell (p := ⟨sb, o + k * 5 + 1, none⟩) hsb).trans c1
      have e2 := (hwr.cell (p := ⟨sb, o + k * 5 + 2, none⟩) hsb).trans c2
      have e3 := (hwr.cell (p := ⟨sb, o + k * 5 + 3, none⟩) hsb).trans c3
      have e4 := (hwr.cell (p := ⟨sb, o + k * 5 + 4, none⟩) hsb).trans c4
      clear c0 c1 c2 c3 c4
      obtain ⟨⟨lo', hi', kn'⟩, a', m', r, hd⟩ : ∃ s' a' m' r, sDo ⟨lo, hi, kn⟩ a m p (f k).kd (f k).at_ ⟨(f k).lo, (f k).hi, (f k).kn⟩ = (s', a', m', r) := ⟨_, _, _, _, rfl⟩
      have HD := Lib.hid hd
      have hcm := do_count hm0 hd
      go_wp2_with fail
      refine (does_is b lo hi kn a m p (f k).kd (f k).at_ (f k).lo (f k).hi (f k).kn lo' hi' kn' a' m' r hm0 (by omega) HD _ (SrvAt.past _ HO.out.1)).mono ?_
      rintro e w3 ⟨rfl, on3, ho3⟩
      have hw3 : Below w.heap.size w w3 := Below.trans (by repeat (first | exact brefl _ | refine balloc ?_ _ | refine bdrewN ?_ _ | refine bset ?_ (by dsimp only; omega) _ | refine bstep ?_ (by assumption))) (on3.1.mono hbw)
      have hp3 := SrvAt.only on3 (Ne.symm hbc) (SrvAt.past _ HO.out.2)
      clear e0 e1 e2 e3 e4
      go_wp2
      go_roundw
      case rel => exact ⟨k + 1, lo', hi', kn', a', m', by omega, by go_num, by omega, by omega, Lib.hid hw3, Lib.hid ⟨ho3, hp3⟩⟩
      case measure => simp [intOf]; omega
    · skip
      go_wp2_with fail
      refine (Reset_is b lo hi kn a m p _ HO.out.1).mono ?_
      rintro e w3 ⟨rfl, on3, ho3⟩
      have hw3 : Below w.heap.size w w3 := hwr.trans (on3.1.mono hbw)
      have hp3 := SrvAt.only on3 (Ne.symm hbc) HO.out.2
      clear on3 hbr hsz hwr HB HO hm0 hm1 hk
      go_wp2
      go_loopw [73] (fun i wr => ∃ (k : Nat) (lo hi : Int) (kn : Bool) (a m : Int), k ≤ n2 ∧ i = .int .i64 k ∧ 0 ≤ m ∧ m ≤ k ∧ Hid (Below w.heap.size w wr) ∧ Hid (SrvAt wr b lo hi kn a m p ∧ SrvAt wr c lo hi kn a m p)) (fun i _ => n2 - (intOf i).toNat)
      case atStart => exact ⟨0, 0, 0, false, 0, 0, by omega, rfl, by omega, by omega, Lib.hid hw3, Lib.hid ⟨ho3, hp3⟩⟩
      case round =>
        clear hw3 ho3 hp3 hkn
        obtain ⟨k, lo, hi, kn, a, m, hk, rfl, hm0, hm1, HB, HO⟩ := hrel
        have hwr := HB.out
        have hsz := hwr.size
        have hbr := HO.out.1.lt
        have hcr := HO.out.2.lt
        by_cases hkn : k < n2
        · obtain ⟨sb, o, rfl, hsb, hkd, hat, hlo, hhi, c0, c1, c2, c3, c4⟩ := HSC2.out k hkn
          have e0 := (hwr.cell (p := ⟨sb, o + k * 5, none⟩) hsb).trans c0
          have e1 := (hwr.cell (p := ⟨sb, o + k * 5 + 1, none⟩) hsb).trans c1
          have e2 := (hwr.cell (p := ⟨sb, o + k * 5 + 2, none⟩) hsb).trans c2
          have e3 := (hwr.cell (p := ⟨sb, o + k * 5 + 3, none⟩) hsb).trans c3
          have e4 := (hwr.cell (p := ⟨sb, o + k * 5 + 4, none⟩) hsb).trans c4
          clear c0 c1 c2 c3 c4
          obtain ⟨⟨lo', hi', kn'⟩, a', m', r, hd⟩ : ∃ s' a' m' r, sDo ⟨lo, hi, kn⟩ a m p (g k).kd (g k).at_ ⟨(g k).lo, (g k).hi, (g k).kn⟩ = (s', a', m', r) := ⟨_, _, _, _, rfl⟩
          have HD := Lib.hid hd
          have hcm := do_count hm0 hd
          obtain ⟨⟨r1, r2, r3⟩, hr⟩ : ∃ s, sRead ⟨lo', hi', kn'⟩ a' p (g k).at_ = s := ⟨_, rfl⟩
          have HR := Lib.hid hr
          have hneb : wr.heap.size ≠ b := Nat.ne_of_gt hbr
          have hnec : wr.heap.size ≠ c := Nat.ne_of_gt hcr
          have hmx : m ≤ 1000000 := by omega
          clear hr hd
          have hat0 : CellF (wr.alloc (.cells #[.int .i64 (g k).kd, .int .i64 (g k).at_, .int .i64 (g k).lo, .int .i64 (g k).hi, .bool (g k).kn] 46)) ⟨wr.heap.size, 0, none⟩ (.int .i64 (g k).kd) := CellF.at_ rfl rfl
          have hat1 : CellF (wr.alloc (.cells #[.int .i64 (g k).kd, .int .i64 (g k).at_, .int .i64 (g k).lo, .int .i64 (g k).hi, .bool (g k).kn] 46)) ⟨wr.heap.size, 1, none⟩ (.int .i64 (g k).at_) := CellF.at_ rfl rfl
          have hat2 : CellF (wr.alloc (.cells #[.int .i64 (g k).kd, .int .i64 (g k).at_, .int .i64 (g k).lo, .int .i64 (g k).hi, .bool (g k).kn] 46)) ⟨wr.heap.size, 2, none⟩ (.int .i64 (g k).lo) := CellF.at_ rfl rfl
          have hat3 : CellF (wr.alloc (.cells #[.int .i64 (g k).kd, .int .i64 (g k).at_, .int .i64 (g k).lo, .int .i64 (g k).hi, .bool (g k).kn] 46)) ⟨wr.heap.size, 3, none⟩ (.int .i64 (g k).hi) := CellF.at_ rfl rfl
          have hat4 : CellF (wr.alloc (.cells #[.int .i64 (g k).kd, .int .i64 (g k).at_, .int .i64 (g k).lo, .int .i64 (g k).hi, .bool (g k).kn] 46)) ⟨wr.heap.size, 4, none⟩ (.bool (g k).kn) := CellF.at_ rfl rfl
          have hoa := SrvAt.drew (SrvAt.past (.cells #[.int .i64 (g k).kd, .int .i64 (g k).at_, .int .i64 (g k).lo, .int .i64 (g k).hi, .bool (g k).kn] 46) HO.out.1)
          have hpa := SrvAt.drew (SrvAt.past (.cells #[.int .i64 (g k).kd, .int .i64 (g k).at_, .int .i64 (g k).lo, .int .i64 (g k).hi, .bool (g k).kn] 46) HO.out.2)
          have hwa : Below w.heap.size w (wr.alloc (.cells #[.int .i64 (g k).kd, .int .i64 (g k).at_, .int .i64 (g k).lo, .int .i64 (g k).hi, .bool (g k).kn] 46)).drew := bdrew (balloc hwr _)
          cases r
          all_goals (
            go_wp2_with fail
            go_region_held3 (fun w' => w'.cell? ⟨wr.heap.size, 0, none⟩ = some (.int .i64 (g k).kd) ∧ w'.cell? ⟨wr.heap.size, 1, none⟩ = some (.int .i64 (g k).at_) ∧ w'.cell? ⟨wr.heap.size, 2, none⟩ = some (.int .i64 (g k).lo) ∧ w'.cell? ⟨wr.heap.size, 3, none⟩ = some (.int .i64 (g k).hi) ∧ w'.cell? ⟨wr.heap.size, 4, none⟩ = some (.bool (g k).kn))
              (go_keep)
              (first | (go_at_call 20; ((with_reducible refine (does_is b lo hi kn a m p (g k).kd (g k).at_ (g k).lo (g k).hi (g k).kn lo' hi' kn' a' m' _ hm0 hmx HD _ hoa).mono ?_)); rintro e w3 ⟨rfl, on3, ho3⟩; have hp3 := SrvAt.only on3 (Ne.symm hbc) hpa; have hw3 : Below w.heap.size w w3 := hwa.trans (on3.1.mono hbw); have q3_0 := on3.2 _ _ hneb (CellF.drew hat0); have c3_0 := q3_0.1; have q3_1 := on3.2 _ _ hneb (CellF.drew hat1); have c3_1 := q3_1.1; have q3_2 := on3.2 _ _ hneb (CellF.drew hat2); have c3_2 := q3_2.1; have q3_3 := on3.2 _ _ hneb (CellF.drew hat3); have c3_3 := q3_3.1; have q3_4 := on3.2 _ _ hneb (CellF.drew hat4); have c3_4 := q3_4.1) | (go_at_call 20; ((with_reducible refine (does_is c lo hi kn a m p (g k).kd (g k).at_ (g k).lo (g k).hi (g k).kn lo' hi' kn' a' m' _ hm0 hmx HD _ hp3).mono ?_)); rintro e w4 ⟨rfl, on4, hp4⟩; have ho4 := SrvAt.only on4 hbc ho3; have hw4 : Below w.heap.size w w4 := hw3.trans (on4.1.mono hcw); have q4_0 := on4.2 _ _ hnec q3_0; have c4_0 := q4_0.1; have q4_1 := on4.2 _ _ hnec q3_1; have c4_1 := q4_1.1; have q4_2 := on4.2 _ _ hnec q3_2; have c4_2 := q4_2.1; have q4_3 := on4.2 _ _ hnec q3_3; have c4_3 := q4_3.1; have q4_4 := on4.2 _ _ hnec q3_4; have c4_4 := q4_4.1) | (go_at_call 22; ((with_reducible refine (Count_is b lo' hi' kn' a' m' p _ ho4).mono ?_)); rintro e w5 ⟨rfl, hb5⟩; have ho5 := SrvAt.keep hb5 ho4; have hp5 := SrvAt.keep hb5 hp4; have q5_0 := CellF.keep hb5 q4_0; have c5_0 := q5_0.1; have q5_1 := CellF.keep hb5 q4_1; have c5_1 := q5_1.1; have q5_2 := CellF.keep hb5 q4_2; have c5_2 := q5_2.1; have q5_3 := CellF.keep hb5 q4_3; have c5_3 := q5_3.1; have q5_4 := CellF.keep hb5 q4_4; have c5_4 := q5_4.1) | (go_at_call 22; ((with_reducible refine (Count_is c lo' hi' kn' a' m' p _ hp5).mono ?_)); rintro e w6 ⟨rfl, hb6⟩; have ho6 := SrvAt.keep hb6 ho5; have hp6 := SrvAt.keep hb6 hp5; have q6_0 := CellF.keep hb6 q5_0; have c6_0 := q6_0.1; have q6_1 := CellF.keep hb6 q5_1; have c6_1 := q6_1.1; have q6_2 := CellF.keep hb6 q5_2; have c6_2 := q6_2.1; have q6_3 := CellF.keep hb6 q5_3; have c6_3 := q6_3.1; have q6_4 := CellF.keep hb6 q5_4; have c6_4 := q6_4.1) | (go_at_call 13; ((with_reducible refine (Read_is b lo' hi' kn' a' m' p (g k).at_ _ _ _ HR _ ho6).mono ?_)); rintro e w7 ⟨rfl, hb7⟩; have ho7 := SrvAt.keep hb7 ho6; have hp7 := SrvAt.keep hb7 hp6; have q7_0 := CellF.keep hb7 q6_0; have c7_0 := q7_0.1; have q7_1 := CellF.keep hb7 q6_1; have c7_1 := q7_1.1; have q7_2 := CellF.keep hb7 q6_2; have c7_2 := q7_2.1; have q7_3 := CellF.keep hb7 q6_3; have c7_3 := q7_3.1; have q7_4 := CellF.keep hb7 q6_4; have c7_4 := q7_4.1) | (go_at_call 13; ((with_reducible refine (Read_is c lo' hi' kn' a' m' p (g k).at_ _ _ _ HR _ hp7).mono ?_)); rintro e w8 ⟨rfl, hb8⟩; have ho8 := SrvAt.keep hb8 ho7; have hp8 := SrvAt.keep hb8 hp7; have q8_0 := CellF.keep hb8 q7_0; have c8_0 := q8_0.1; have q8_1 := CellF.keep hb8 q7_1; have c8_1 := q8_1.1; have q8_2 := CellF.keep hb8 q7_2; have c8_2 := q8_2.1; have q8_3 := CellF.keep hb8 q7_3; have c8_3 := q8_3.1; have q8_4 := CellF.keep hb8 q7_4; have c8_4 := q8_4.1))
            all_goals (
              go_wp2
              go_roundw
              case rel => exact ⟨k + 1, lo', hi', kn', a', m', by omega, by go_num, by omega, by omega, Lib.hid (bstep (bstep (bstep (bstep hw4 hb5) hb6) hb7) hb8), Lib.hid ⟨ho8, hp8⟩⟩
              case measure => simp [intOf]; omega))
        · skip
          go_wp2_with fail
          refine (alive_is _).mono ?_
          rintro e w3 ⟨rfl, hb3⟩
          go_wp2
          go_ret
          exact ⟨rfl, (by repeat (first | exact brefl _ | refine balloc ?_ _ | refine bdrewN ?_ _ | refine bset ?_ (by dsimp only; omega) _ | refine bstep ?_ (by assumption)))⟩
end Go.Proofs.Ytklnlhphgiipjaa
