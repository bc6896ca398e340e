/-
  The walk of the law ServoAll.
-/
import Derived.Test.YtnphbdhcoiaklaaSGD
import Derived.Test.YtnphbdhcoiaklaaSRk
import Derived.Deep.RegionHeld3
import Derived.Deep.Cut
import Derived.Deep.CutRange
import Derived.Deep.DeepCutAuto
namespace Go.Proofs.Ytnphbdhcoiaklaa
open Go.RowKit

set_option maxRecDepth 100000 in
set_option maxHeartbeats 8000000 in
theorem ServoAll_walk (p : Int) (v : Value) (n : Nat) (f : Nat → OpIs) (t : Int) (w : World) (hp : I64 p) (hv : Script5 w v n f) (_ : I64 t) :
    Calls Try.prog 9 #[.int .i64 p, v, .int .i64 t] w fun e w' => e = .returned (.bool true) ∧ Below w.heap.size w w' := by
  obtain ⟨a0, cap, rfl, hn, hnc, hcap, hsc⟩ := hv
  have HSC := Lib.hid hsc
  clear hsc
  by_cases hbad : p < 0
  · go_enter Try.func9, Try.ntmps9
    go_wp2_with fail
    refine (SNew_no p hp (.inl hbad) _).mono ?_
    rintro e w1 ⟨rfl, hb1⟩
    go_wp2_with fail
    refine (alive_is _).mono ?_
    rintro e w2 ⟨rfl, hb2⟩
    go_wp2
    go_ret
    exact ⟨rfl, (by repeat (first | exact brefl _ | refine balloc ?_ _ | refine bdrewN ?_ _ | refine bset ?_ (by dsimp only; omega) _ | refine bstep ?_ (by assumption)))⟩
  have hz1 : 0 ≤ p := by omega
  clear hbad
  by_cases hbad : 1000000000 < p
  · go_enter Try.func9, Try.ntmps9
    go_wp2_with fail
    refine (SNew_no p hp (.inr hbad) _).mono ?_
    rintro e w1 ⟨rfl, hb1⟩
    go_wp2_with fail
    refine (alive_is _).mono ?_
    rintro e w2 ⟨rfl, hb2⟩
    go_wp2
    go_ret
    exact ⟨rfl, (by repeat (first | exact brefl _ | refine balloc ?_ _ | refine bdrewN ?_ _ | refine bset ?_ (by dsimp only; omega) _ | refine bstep ?_ (by assumption)))⟩
  have hz2 : p ≤ 1000000000 := by omega
  clear hbad
  have p0 := hz1
  have p9 := hz2
  by_cases hbig : (400 : Int) < n
  · go_enter Try.func9, Try.ntmps9
    go_wp2_with fail
    refine (SNew_yes p p0 p9 _).mono ?_
    rintro e w1 ⟨b, rfl, hb1, hwb, ho⟩
    go_wp2_with fail
    refine (alive_is _).mono ?_
    rintro e w2 ⟨rfl, hb2⟩
    go_wp2
    go_ret
    exact ⟨rfl, (by repeat (first | exact brefl _ | refine balloc ?_ _ | refine bdrewN ?_ _ | refine bset ?_ (by dsimp only; omega) _ | refine bstep ?_ (by assumption)))⟩
  have hn1 : n ≤ 400 := by omega
  clear hbig
  go_enter Try.func9, Try.ntmps9
  go_wp2_with fail
  refine (SNew_yes p p0 p9 _).mono ?_
  rintro e w1 ⟨b, rfl, hb1, hwb, ho⟩
  have hbw : w.heap.size ≤ b := hwb
  have hrw : w.heap.size ≤ w1.heap.size := hb1.size
  have hbr1 : b ≠ w1.heap.size := Nat.ne_of_lt ho.lt
  have hw1 : Below w.heap.size w (w1.alloc (.cells #[.int .i64 p, .int .i64 0, .int .i64 0, .bool false, .int .i64 0, .int .i64 0] 86)) := balloc hb1 _
  have ho1 := SrvAt.past (.cells #[.int .i64 p, .int .i64 0, .int .i64 0, .bool false, .int .i64 0, .int .i64 0] 86) ho
  have hr1 : RvAt (w1.alloc (.cells #[.int .i64 p, .int .i64 0, .int .i64 0, .bool false, .int .i64 0, .int .i64 0] 86)) w1.heap.size p 0 0 false 0 0 := RvAt.new
  clear hwb ho hb1
  go_wp2
  go_loopw [60] (fun i wr => ∃ (k : Nat) (lo hi : Int) (kn : Bool) (a m : Int), k ≤ n ∧ i = .int .i64 k ∧ 0 ≤ m ∧ m ≤ k ∧ Hid (Below w.heap.size w wr) ∧ Hid (SrvAt wr b lo hi kn a m p) ∧ Hid (RvAt wr w1.heap.size p lo hi kn a m)) (fun i _ => n - (intOf i).toNat)
  case atStart => exact ⟨0, 0, 0, false, 0, 0, by omega, rfl, by omega, by omega, Lib.hid hw1, Lib.hid ho1, Lib.hid hr1⟩
  case round =>
    clear hw1 ho1 hr1
    obtain ⟨k, lo, hi, kn, a, m, hk, rfl, hm0, hm1, HB, HO, HR⟩ := hrel
    have hwr := HB.out
    have hsz := hwr.size
    have hbr := HO.out.lt
    have hrr := HR.out.lt
    have rc0 := HR.out.1.1
    have rc1 := HR.out.2.1.1
    have rc2 := HR.out.2.2.1.1
    have rc3 := HR.out.2.2.2.1.1
    have rc4 := HR.out.2.2.2.2.1.1
    have rc5 := HR.out.2.2.2.2.2.1
    by_cases hkn : k < n
    · obtain ⟨sb, o, rfl, hsb, hkd, hat, hlo, hhi, c0, c1, c2, c3, c4⟩ := HSC.out k hkn
      have e0 := (hwr.cell (p := ⟨sb, o + k * 5, none⟩) hsb).trans c0
      have e1 := (hwr.cell (p := ⟨sb, o + k * 5 + 1, none⟩) hsb).trans c1
      have e2 := (hwr.cell (p := ⟨sb, o + k * 5 + 2, none⟩) hsb).trans c2
      have e3 := (hwr.cell (p := ⟨sb, o + k * 5 + 3, none⟩) hsb).trans c3
      have e4 := (hwr.cell (p := ⟨sb, o + k * 5 + 4, none⟩) hsb).trans c4
      clear c0 c1 c2 c3 c4
      obtain ⟨⟨lo', hi', kn'⟩, a', m', r, hd⟩ : ∃ s' a' m' r, sDo ⟨lo, hi, kn⟩ a m p (f k).kd (f k).at_ ⟨(f k).lo, (f k).hi, (f k).kn⟩ = (s', a', m', r) := ⟨_, _, _, _, rfl⟩
      have HD := Lib.hid hd
      have hcm := do_count hm0 hd
      go_wp2_with fail
      refine (rvDo_is p lo hi kn a m (f k).kd (f k).at_ (f k).lo (f k).hi (f k).kn lo' hi' kn' a' m' r hm0 (by omega) HD _).mono ?_
      rintro e w2 ⟨rfl, hb2⟩
      have ho2 := (SrvAt.past _ HO.out).keep hb2
      have hr2 := (RvAt.past _ HR.out).keep hb2
      have rd0 := hr2.1.1
      have rg0 := hr2.1.2
      have rd1 := hr2.2.1.1
      have rg1 := hr2.2.1.2
      have rd2 := hr2.2.2.1.1
      have rg2 := hr2.2.2.1.2
      have rd3 := hr2.2.2.2.1.1
      have rg3 := hr2.2.2.2.1.2
      have rd4 := hr2.2.2.2.2.1.1
      have rg4 := hr2.2.2.2.2.1.2
      have rd5 := hr2.2.2.2.2.2.1
      have rg5 := hr2.2.2.2.2.2.2
      have q2_0 : CellF w2 ⟨wr.heap.size, 0, none⟩ (.int .i64 (f k).kd) := CellF.keep hb2 (CellF.at_ rfl rfl)
      have q2_1 : CellF w2 ⟨wr.heap.size, 1, none⟩ (.int .i64 (f k).at_) := CellF.keep hb2 (CellF.at_ rfl rfl)
      have q2_2 : CellF w2 ⟨wr.heap.size, 2, none⟩ (.int .i64 (f k).lo) := CellF.keep hb2 (CellF.at_ rfl rfl)
      have q2_3 : CellF w2 ⟨wr.heap.size, 3, none⟩ (.int .i64 (f k).hi) := CellF.keep hb2 (CellF.at_ rfl rfl)
      have q2_4 : CellF w2 ⟨wr.heap.size, 4, none⟩ (.bool (f k).kn) := CellF.keep hb2 (CellF.at_ rfl rfl)
      have hw2 : Below w.heap.size w w2 := (by repeat (first | exact brefl _ | refine balloc ?_ _ | refine bdrewN ?_ _ | refine bset ?_ (by dsimp only; omega) _ | refine bstep ?_ (by assumption)))
      have hneb : wr.heap.size ≠ b := Nat.ne_of_gt hbr
      have hner : wr.heap.size ≠ w1.heap.size := Nat.ne_of_gt hrr
      have zr2 : w1.heap.size < w2.heap.size := hr2.lt
      have hk2 := rv_sets p lo' hi' kn' a' m' hr2
      unfold rvSet at hk2
      have HK2 := Lib.hid hk2
      clear hk2 e0 e1 e2 e3 e4 rc0 rc1 rc2 rc3 rc4 rc5
      go_upto_region 11 with (fail)
      go_cut [] (fun wd => Hid (Below w.heap.size w wd) ∧ Hid (SrvAt wd b lo hi kn a m p) ∧ Hid (RvAt wd w1.heap.size p lo' hi' kn' a' m') ∧ Hid (CellF wd ⟨wr.heap.size, 0, none⟩ (.int .i64 (f k).kd) ∧ CellF wd ⟨wr.heap.size, 1, none⟩ (.int .i64 (f k).at_) ∧ CellF wd ⟨wr.heap.size, 2, none⟩ (.int .i64 (f k).lo) ∧ CellF wd ⟨wr.heap.size, 3, none⟩ (.int .i64 (f k).hi) ∧ CellF wd ⟨wr.heap.size, 4, none⟩ (.bool (f k).kn)))
      case first =>
        go_wp2_with fail
        go_meet
        exact ⟨Lib.hid (balloc (hw2.trans (HK2.out.2.1.mono hrw)) _), Lib.hid (SrvAt.past _ (SrvAt.only HK2.out.2 hbr1 ho2)), Lib.hid (RvAt.past _ HK2.out.1), Lib.hid ⟨CellF.past _ (HK2.out.2.2 _ _ hner q2_0), CellF.past _ (HK2.out.2.2 _ _ hner q2_1), CellF.past _ (HK2.out.2.2 _ _ hner q2_2), CellF.past _ (HK2.out.2.2 _ _ hner q2_3), CellF.past _ (HK2.out.2.2 _ _ hner q2_4)⟩⟩
      case rest =>
        obtain ⟨HB3, HO3, HR3, HQ3⟩ := hcut
        have zb3 := HO3.out.lt
        have zr3 := HR3.out.lt
        clear rd0 rg0 rd1 rg1 rd2 rg2 rd3 rg3 rd4 rg4 rd5 rg5 q2_0 q2_1 q2_2 q2_3 q2_4 ho2 hr2 HK2 zr2 hw2
        have q3_0 := HQ3.out.1
        have q3_1 := HQ3.out.2.1
        have q3_2 := HQ3.out.2.2.1
        have q3_3 := HQ3.out.2.2.2.1
        have q3_4 := HQ3.out.2.2.2.2
        have ho3 := SrvAt.drew HO3.out
        have hr3 := RvAt.drew HR3.out
        have zq3 := ltc q3_0.1
        have hmx : m ≤ 1000000 := by omega
        have d3_0 := q3_0.1
        have d3_1 := q3_1.1
        have d3_2 := q3_2.1
        have d3_3 := q3_3.1
        have d3_4 := q3_4.1
        have s3_0 := HR3.out.1.1
        have s3_1 := HR3.out.2.1.1
        have s3_2 := HR3.out.2.2.1.1
        have s3_3 := HR3.out.2.2.2.1.1
        have s3_4 := HR3.out.2.2.2.2.1.1
        have s3_5 := HR3.out.2.2.2.2.2.1
        obtain ⟨⟨r1, r2, r3⟩, hrr'⟩ : ∃ s, sRead ⟨lo', hi', kn'⟩ a' p (f k).at_ = s := ⟨_, rfl⟩
        have HRD := Lib.hid hrr'
        clear hrr' hd
        cases r
        all_goals (
          go_wp2_with fail
          go_region_held3 (fun w' => w'.cell? ⟨wr.heap.size, 0, none⟩ = some (.int .i64 (f k).kd) ∧ w'.cell? ⟨wr.heap.size, 1, none⟩ = some (.int .i64 (f k).at_) ∧ w'.cell? ⟨wr.heap.size, 2, none⟩ = some (.int .i64 (f k).lo) ∧ w'.cell? ⟨wr.heap.size, 3, none⟩ = some (.int .i64 (f k).hi) ∧ w'.cell? ⟨wr.heap.size, 4, none⟩ = some (.bool (f k).kn) ∧ w'.cell? ⟨w1.heap.size, 0, none⟩ = some (.int .i64 p) ∧ w'.cell? ⟨w1.heap.size, 1, none⟩ = some (.int .i64 lo') ∧ w'.cell? ⟨w1.heap.size, 2, none⟩ = some (.int .i64 hi') ∧ w'.cell? ⟨w1.heap.size, 3, none⟩ = some (.bool kn') ∧ w'.cell? ⟨w1.heap.size, 4, none⟩ = some (.int .i64 a') ∧ w'.cell? ⟨w1.heap.size, 5, none⟩ = some (.int .i64 m'))
            (go_keep)
            (first | (go_at_call 79; ((with_reducible refine (does_is b lo hi kn a m p (f k).kd (f k).at_ (f k).lo (f k).hi (f k).kn lo' hi' kn' a' m' _ hm0 hmx HD _ ho3).mono ?_)); rintro e w4 ⟨rfl, on4, ho4⟩; have hw4 : Below w.heap.size w w4 := (bdrew HB3.out).trans (on4.1.mono hbw); have hr4 := RvAt.only on4 hbr1.symm hr3; have q4_0 := on4.2 _ _ hneb (CellF.drew q3_0); have d4_0 := q4_0.1; have q4_1 := on4.2 _ _ hneb (CellF.drew q3_1); have d4_1 := q4_1.1; have q4_2 := on4.2 _ _ hneb (CellF.drew q3_2); have d4_2 := q4_2.1; have q4_3 := on4.2 _ _ hneb (CellF.drew q3_3); have d4_3 := q4_3.1; have q4_4 := on4.2 _ _ hneb (CellF.drew q3_4); have d4_4 := q4_4.1; have s4_0 := hr4.1.1; have s4_1 := hr4.2.1.1; have s4_2 := hr4.2.2.1.1; have s4_3 := hr4.2.2.2.1.1; have s4_4 := hr4.2.2.2.2.1.1; have s4_5 := hr4.2.2.2.2.2.1) | (go_at_call 80; ((with_reducible refine (Count_is b lo' hi' kn' a' m' p _ ho4).mono ?_)); rintro e w5 ⟨rfl, hb5⟩; have ho5 := SrvAt.keep hb5 ho4; have hr5 := RvAt.keep hb5 hr4; have q5_0 := CellF.keep hb5 q4_0; have d5_0 := q5_0.1; have q5_1 := CellF.keep hb5 q4_1; have d5_1 := q5_1.1; have q5_2 := CellF.keep hb5 q4_2; have d5_2 := q5_2.1; have q5_3 := CellF.keep hb5 q4_3; have d5_3 := q5_3.1; have q5_4 := CellF.keep hb5 q4_4; have d5_4 := q5_4.1; have s5_0 := hr5.1.1; have s5_1 := hr5.2.1.1; have s5_2 := hr5.2.2.1.1; have s5_3 := hr5.2.2.2.1.1; have s5_4 := hr5.2.2.2.2.1.1; have s5_5 := hr5.2.2.2.2.2.1) | (go_at_call 81; ((with_reducible refine (Read_is b lo' hi' kn' a' m' p (f k).at_ _ _ _ HRD _ ho5).mono ?_)); rintro e w6 ⟨rfl, hb6⟩; have ho6 := SrvAt.keep hb6 ho5; have hr6 := RvAt.keep hb6 hr5; have q6_0 := CellF.keep hb6 q5_0; have d6_0 := q6_0.1; have q6_1 := CellF.keep hb6 q5_1; have d6_1 := q6_1.1; have q6_2 := CellF.keep hb6 q5_2; have d6_2 := q6_2.1; have q6_3 := CellF.keep hb6 q5_3; have d6_3 := q6_3.1; have q6_4 := CellF.keep hb6 q5_4; have d6_4 := q6_4.1; have s6_0 := hr6.1.1; have s6_1 := hr6.2.1.1; have s6_2 := hr6.2.2.1.1; have s6_3 := hr6.2.2.2.1.1; have s6_4 := hr6.2.2.2.2.1.1; have s6_5 := hr6.2.2.2.2.2.1) | (go_at_call 82; ((with_reducible refine (rvRead_is _ _ _ _ _ _ _ _ _ _ HRD _).mono ?_)); rintro e w7 ⟨rfl, hb7⟩; have ho7 := SrvAt.keep hb7 ho6; have hr7 := RvAt.keep hb7 hr6; have q7_0 := CellF.keep hb7 q6_0; have d7_0 := q7_0.1; have q7_1 := CellF.keep hb7 q6_1; have d7_1 := q7_1.1; have q7_2 := CellF.keep hb7 q6_2; have d7_2 := q7_2.1; have q7_3 := CellF.keep hb7 q6_3; have d7_3 := q7_3.1; have q7_4 := CellF.keep hb7 q6_4; have d7_4 := q7_4.1; have s7_0 := hr7.1.1; have s7_1 := hr7.2.1.1; have s7_2 := hr7.2.2.1.1; have s7_3 := hr7.2.2.2.1.1; have s7_4 := hr7.2.2.2.2.1.1; have s7_5 := hr7.2.2.2.2.2.1))
          all_goals (
            have xc2 := hr7.2.2.2.1.1
            have xc4 := hr7.2.2.2.2.1.1
            have zr7 := hr7.lt
            go_wp2_with fail
            refine (Last_is b lo' hi' kn' a' m' p _ ho7).mono ?_
            rintro e w8 ⟨rfl, hb8⟩
            have hr8 := hr7.keep hb8
            have xd2 := hr8.2.2.2.1.1
            have xd4 := hr8.2.2.2.2.1.1
            have zr8 := hr8.lt
            clear xc2 xc4 zr7
            go_wp2
            go_roundw
            case rel => exact ⟨k + 1, lo', hi', kn', a', m', by omega, by go_num, by omega, by omega, Lib.hid (bstep (bstep (bstep (bstep hw4 hb5) hb6) hb7) hb8), Lib.hid (ho7.keep hb8), Lib.hid hr8⟩
            case measure => simp [intOf]; omega))
    · obtain ⟨⟨r1, r2, r3⟩, hr'⟩ : ∃ s, sRead ⟨lo, hi, kn⟩ a p t = s := ⟨_, rfl⟩
      obtain ⟨⟨m1, m2, m3⟩, hm'⟩ : ∃ s, sMaster ⟨lo, hi, kn⟩ a p t = s := ⟨_, rfl⟩
      have HRD := Lib.hid hr'
      have HMD := Lib.hid hm'
      have ho2 := SrvAt.drew HO.out
      have hr2 := RvAt.drew HR.out
      clear hr' hm'
      go_wp2_with fail
      go_region_held3 (fun w' => w'.cell? ⟨w1.heap.size, 0, none⟩ = some (.int .i64 p) ∧ w'.cell? ⟨w1.heap.size, 1, none⟩ = some (.int .i64 lo) ∧ w'.cell? ⟨w1.heap.size, 2, none⟩ = some (.int .i64 hi) ∧ w'.cell? ⟨w1.heap.size, 3, none⟩ = some (.bool kn) ∧ w'.cell? ⟨w1.heap.size, 4, none⟩ = some (.int .i64 a) ∧ w'.cell? ⟨w1.heap.size, 5, none⟩ = some (.int .i64 m))
        (go_keep)
        (first | (go_at_call 77; ((with_reducible refine (alive_is _).mono ?_)); rintro e w3 ⟨rfl, hb3⟩; have ho3 := SrvAt.keep hb3 ho2; have hr3 := RvAt.keep hb3 hr2; have s3_0 := hr3.1.1; have s3_1 := hr3.2.1.1; have s3_2 := hr3.2.2.1.1; have s3_3 := hr3.2.2.2.1.1; have s3_4 := hr3.2.2.2.2.1.1; have s3_5 := hr3.2.2.2.2.2.1) | (go_at_call 81; ((with_reducible refine (Read_is b lo hi kn a m p t _ _ _ HRD _ ho3).mono ?_)); rintro e w4 ⟨rfl, hb4⟩; have ho4 := SrvAt.keep hb4 ho3; have hr4 := RvAt.keep hb4 hr3; have s4_0 := hr4.1.1; have s4_1 := hr4.2.1.1; have s4_2 := hr4.2.2.1.1; have s4_3 := hr4.2.2.2.1.1; have s4_4 := hr4.2.2.2.2.1.1; have s4_5 := hr4.2.2.2.2.2.1) | (go_at_call 82; ((with_reducible refine (rvRead_is _ _ _ _ _ _ _ _ _ _ HRD _).mono ?_)); rintro e w5 ⟨rfl, hb5⟩; have ho5 := SrvAt.keep hb5 ho4; have hr5 := RvAt.keep hb5 hr4; have s5_0 := hr5.1.1; have s5_1 := hr5.2.1.1; have s5_2 := hr5.2.2.1.1; have s5_3 := hr5.2.2.2.1.1; have s5_4 := hr5.2.2.2.2.1.1; have s5_5 := hr5.2.2.2.2.2.1) | (go_at_call 84; ((with_reducible refine (Master_is b lo hi kn a m p t _ _ _ HMD _ ho5).mono ?_)); rintro e w6 ⟨rfl, hb6⟩; have ho6 := SrvAt.keep hb6 ho5; have hr6 := RvAt.keep hb6 hr5; have s6_0 := hr6.1.1; have s6_1 := hr6.2.1.1; have s6_2 := hr6.2.2.1.1; have s6_3 := hr6.2.2.2.1.1; have s6_4 := hr6.2.2.2.2.1.1; have s6_5 := hr6.2.2.2.2.2.1) | (go_at_call 85; ((with_reducible refine (rvMaster_is _ _ _ _ _ _ _ _ _ _ HMD _).mono ?_)); rintro e w7 ⟨rfl, hb7⟩; have ho7 := SrvAt.keep hb7 ho6; have hr7 := RvAt.keep hb7 hr6; have s7_0 := hr7.1.1; have s7_1 := hr7.2.1.1; have s7_2 := hr7.2.2.1.1; have s7_3 := hr7.2.2.2.1.1; have s7_4 := hr7.2.2.2.2.1.1; have s7_5 := hr7.2.2.2.2.2.1))
      all_goals (go_wp2; go_ret; exact ⟨rfl, (by repeat (first | exact brefl _ | refine balloc ?_ _ | refine bdrewN ?_ _ | refine bset ?_ (by dsimp only; omega) _ | refine bstep ?_ (by assumption)))⟩)
end Go.Proofs.Ytnphbdhcoiaklaa
