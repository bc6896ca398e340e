/-
  The walk of the law ServoNarrow.
-/
import Derived.Test.YtklnlhphgiipjaaAlServo
import Derived.Test.YtklnlhphgiipjaaVe
import Derived.Test.YtklnlhphgiipjaaScr5
import Derived.Deep.RegionHeld3
namespace Go.Proofs.Ytklnlhphgiipjaa
open Go.RowKit

set_option maxRecDepth 100000 in
set_option maxHeartbeats 8000000 in
theorem ServoNarrow_walk (p : Int) (v : Value) (n : Nat) (f : Nat → OpIs) (w : World) (hp : I64 p) (hv : Script5 w v n f) :
    Calls Try.prog 7 #[.int .i64 p, v] w fun e w' => e = .returned (.bool true) ∧ Below w.heap.size w w' := by
  obtain ⟨a0, cap, rfl, hn, hnc, hcap, hsc⟩ := hv
  have HSC := Lib.hid hsc
  clear hsc
  by_cases hbad : p < 0 ∨ 1000000000 < p
  · go_enter Try.func7, Try.ntmps7
    go_wp2_with fail
    refine (SNew_no p hp hbad _).mono ?_
    rintro e w1 ⟨rfl, hb1⟩
    go_wp2_with fail
    refine (alive_is _).mono ?_
    rintro e w2 ⟨rfl, hb2⟩
    go_wp2
    go_ret
    exact ⟨rfl, (by repeat (first | exact brefl _ | refine balloc ?_ _ | refine bdrewN ?_ _ | refine bset ?_ (by dsimp only; omega) _ | refine bstep ?_ (by assumption)))⟩
  have p0 : 0 ≤ p := by omega
  have p9 : p ≤ 1000000000 := by omega
  clear hbad
  by_cases hbig : (400 : Int) < n
  · go_enter Try.func7, Try.ntmps7
    go_wp2_with fail
    refine (SNew_yes p p0 p9 _).mono ?_
    rintro e w1 ⟨b, rfl, hb1, hwb, ho⟩
    go_wp2_with fail
    refine (alive_is _).mono ?_
    rintro e w2 ⟨rfl, hb2⟩
    go_wp2
    go_ret
    exact ⟨rfl, (by repeat (first | exact brefl _ | refine balloc ?_ _ | refine bdrewN ?_ _ | refine bset ?_ (by dsimp only; omega) _ | refine bstep ?_ (by assumption)))⟩
  have hn1 : n ≤ 400 := by omega
  clear hbig
  go_enter Try.func7, Try.ntmps7
  go_wp2_with fail
  refine (SNew_yes p p0 p9 _).mono ?_
  rintro e w1 ⟨b, rfl, hb1, hwb, ho⟩
  have hbw : w.heap.size ≤ b := hwb
  have hw1 : Below w.heap.size w w1 := (by repeat (first | exact brefl _ | refine balloc ?_ _ | refine bdrewN ?_ _ | refine bset ?_ (by dsimp only; omega) _ | refine bstep ?_ (by assumption)))
  clear hb1 hwb
  go_wp2
  go_loopw [33] (fun i wr => ∃ (k : Nat) (lo hi : Int) (kn : Bool) (a m : Int), k ≤ n ∧ i = .int .i64 k ∧ 0 ≤ m ∧ m ≤ k ∧ Hid (Below w.heap.size w wr) ∧ Hid (SrvAt wr b lo hi kn a m p)) (fun i _ => n - (intOf i).toNat)
  case atStart => exact ⟨0, 0, 0, false, 0, 0, by omega, rfl, by omega, by omega, Lib.hid hw1, Lib.hid ho⟩
  case round =>
    clear hw1 ho
    obtain ⟨k, lo, hi, kn, a, m, hk, rfl, hm0, hm1, HB, HO⟩ := hrel
    have hwr := HB.out
    have hsz := hwr.size
    have hbr := HO.out.lt
    by_cases hkn : k < n
    · obtain ⟨sb, o, rfl, hsb, hkd, hat, hlo, hhi, c0, c1, c2, c3, c4⟩ := HSC.out k hkn
      have e0 := (hwr.cell (p := ⟨sb, o + k * 5, none⟩) hsb).trans c0
      have e1 := (hwr.cell (p := ⟨sb, o + k * 5 + 1, none⟩) hsb).trans c1
      have e2 := (hwr.cell (p := ⟨sb, o + k * 5 + 2, none⟩) hsb).trans c2
      have e3 := (hwr.cell (p := ⟨sb, o + k * 5 + 3, none⟩) hsb).trans c3
      have e4 := (hwr.cell (p := ⟨sb, o + k * 5 + 4, none⟩) hsb).trans c4
      clear c0 c1 c2 c3 c4
      obtain ⟨⟨lo', hi', kn'⟩, a', m', r, hd⟩ : ∃ s' a' m' r, sDo ⟨lo, hi, kn⟩ a m p (f k).kd (f k).at_ ⟨(f k).lo, (f k).hi, (f k).kn⟩ = (s', a', m', r) := ⟨_, _, _, _, rfl⟩
      have HD := Lib.hid hd
      have hcm := do_count hm0 hd
      go_wp2_with fail
      refine (Last_is b lo hi kn a m p _ (SrvAt.past _ HO.out)).mono ?_
      rintro e w2 ⟨rfl, hb2⟩
      have ho2 := (SrvAt.past _ HO.out).keep hb2
      have q2_0 : CellF w2 ⟨wr.heap.size, 0, none⟩ (.int .i64 (f k).kd) := CellF.keep hb2 (CellF.at_ rfl rfl)
      have c2_0 := q2_0.1
      have q2_1 : CellF w2 ⟨wr.heap.size, 1, none⟩ (.int .i64 (f k).at_) := CellF.keep hb2 (CellF.at_ rfl rfl)
      have c2_1 := q2_1.1
      have q2_2 : CellF w2 ⟨wr.heap.size, 2, none⟩ (.int .i64 (f k).lo) := CellF.keep hb2 (CellF.at_ rfl rfl)
      have c2_2 := q2_2.1
      have q2_3 : CellF w2 ⟨wr.heap.size, 3, none⟩ (.int .i64 (f k).hi) := CellF.keep hb2 (CellF.at_ rfl rfl)
      have c2_3 := q2_3.1
      have q2_4 : CellF w2 ⟨wr.heap.size, 4, none⟩ (.bool (f k).kn) := CellF.keep hb2 (CellF.at_ rfl rfl)
      have c2_4 := q2_4.1
      have hne : wr.heap.size ≠ b := Nat.ne_of_gt hbr
      have z2 : wr.heap.size < w2.heap.size := ltc c2_0
      have hw2 : Below w.heap.size w w2 := (by repeat (first | exact brefl _ | refine balloc ?_ _ | refine bdrewN ?_ _ | refine bset ?_ (by dsimp only; omega) _ | refine bstep ?_ (by assumption)))
      clear e0 e1 e2 e3 e4
      go_wp2_with fail
      refine (Count_is b lo hi kn a m p _ ho2).mono ?_
      rintro e w3 ⟨rfl, hb3⟩
      have ho3 := ho2.keep hb3
      have q3_0 := CellF.keep hb3 q2_0
      have c3_0 := q3_0.1
      have q3_1 := CellF.keep hb3 q2_1
      have c3_1 := q3_1.1
      have q3_2 := CellF.keep hb3 q2_2
      have c3_2 := q3_2.1
      have q3_3 := CellF.keep hb3 q2_3
      have c3_3 := q3_3.1
      have q3_4 := CellF.keep hb3 q2_4
      have c3_4 := q3_4.1
      have z3 : wr.heap.size < w3.heap.size := ltc c3_0
      clear q2_0 c2_0 q2_1 c2_1 q2_2 c2_2 q2_3 c2_3 q2_4 c2_4 z2
      have hw3 : Below w.heap.size w w3 := bstep hw2 hb3
      go_wp2_with fail
      refine (does_is b lo hi kn a m p (f k).kd (f k).at_ (f k).lo (f k).hi (f k).kn lo' hi' kn' a' m' r hm0 (by omega) HD _ ho3).mono ?_
      rintro e w4 ⟨rfl, on4, ho4⟩
      have q4_0 := on4.2 _ _ hne q3_0
      have c4_0 := q4_0.1
      have q4_1 := on4.2 _ _ hne q3_1
      have c4_1 := q4_1.1
      have q4_2 := on4.2 _ _ hne q3_2
      have c4_2 := q4_2.1
      have q4_3 := on4.2 _ _ hne q3_3
      have c4_3 := q4_3.1
      have q4_4 := on4.2 _ _ hne q3_4
      have c4_4 := q4_4.1
      have z4 : wr.heap.size < w4.heap.size := ltc c4_0
      clear q3_0 c3_0 q3_1 c3_1 q3_2 c3_2 q3_3 c3_3 q3_4 c3_4 z3
      have hw4 : Below w.heap.size w w4 := hw3.trans (on4.1.mono hbw)
      go_wp2_with fail
      refine (Last_is b lo' hi' kn' a' m' p _ ho4).mono ?_
      rintro e w5 ⟨rfl, hb5⟩
      have ho5 := ho4.keep hb5
      have q5_0 := CellF.keep hb5 q4_0
      have c5_0 := q5_0.1
      have q5_1 := CellF.keep hb5 q4_1
      have c5_1 := q5_1.1
      have q5_2 := CellF.keep hb5 q4_2
      have c5_2 := q5_2.1
      have q5_3 := CellF.keep hb5 q4_3
      have c5_3 := q5_3.1
      have q5_4 := CellF.keep hb5 q4_4
      have c5_4 := q5_4.1
      have z5 : wr.heap.size < w5.heap.size := ltc c5_0
      clear q4_0 c4_0 q4_1 c4_1 q4_2 c4_2 q4_3 c4_3 q4_4 c4_4 z4
      have hw5 : Below w.heap.size w w5 := bstep hw4 hb5
      have HW5 := Lib.hid hw5
      clear hw2 hw3 hw4 hw5
      by_cases hkd0 : (f k).kd = 0
      · rw [hkd0] at c5_0
        clear q5_0
        have hob := HD.out
        unfold sDo at hob
        rw [if_pos hkd0] at hob
        by_cases hsame : kn' = kn ∧ a' = a ∧ m' = m
        · obtain ⟨rfl, rfl, rfl⟩ := hsame
          clear hob
          go_wp2_with fail
          refine (Count_is b _ _ _ _ _ p _ ho5).mono ?_
          rintro e w6 ⟨rfl, hb6⟩
          have ho6 := ho5.keep hb6
          go_wp2
          go_roundw
          case rel => exact ⟨k + 1, lo', hi', _, _, _, by omega, by go_num, by omega, by omega, Lib.hid (bstep HW5.out hb6), Lib.hid ho6⟩
          case measure => simp [intOf]; omega
        have hnl := narrow_law p0 p9 hob hsame
        obtain ⟨hkt, hat', hrd, hwi⟩ := hnl
        clear hob
        have hkt : kn' = true := hkt
        subst hkt
        subst hat'
        have HR := Lib.hid hrd
        have HW := Lib.hid hwi
        clear hrd hwi
        have hfd : ∀ w : World, (Instr.field 30 (.agg #[.int .i64 lo', .int .i64 hi', .bool true]) 2).run Try.prog w = .ok (.bool true) w := fun _ => by kernel_rfl
        cases kn with
        | false =>
          have ho5d := SrvAt.drew ho5
          go_wp2_with fail
          go_region_held3 (fun w' => w'.cell? ⟨wr.heap.size, 1, none⟩ = some (.int .i64 (f k).at_) ∧ w'.cell? ⟨wr.heap.size, 2, none⟩ = some (.int .i64 (f k).lo) ∧ w'.cell? ⟨wr.heap.size, 3, none⟩ = some (.int .i64 (f k).hi) ∧ w'.cell? ⟨wr.heap.size, 4, none⟩ = some (.bool (f k).kn))
            (go_keep)
            (first | (go_at_call 13; ((with_reducible refine (Read_is b lo' hi' true (f k).at_ m' p (f k).at_ _ _ _ HR _ ho5d).mono ?_)); rintro e w6 ⟨rfl, hb6⟩; have ho6 := SrvAt.keep hb6 ho5d; have q6_1 := CellF.keep hb6 (CellF.drew q5_1); have c6_1 := q6_1.1; have q6_2 := CellF.keep hb6 (CellF.drew q5_2); have c6_2 := q6_2.1; have q6_3 := CellF.keep hb6 (CellF.drew q5_3); have c6_3 := q6_3.1; have q6_4 := CellF.keep hb6 (CellF.drew q5_4); have c6_4 := q6_4.1) | (go_at_call 13; ((with_reducible refine (Read_is b lo' hi' true (f k).at_ m' p (f k).at_ _ _ _ HR _ ho6).mono ?_)); rintro e w7 ⟨rfl, hb7⟩; have ho7 := SrvAt.keep hb7 ho6; have q7_1 := CellF.keep hb7 q6_1; have c7_1 := q7_1.1; have q7_2 := CellF.keep hb7 q6_2; have c7_2 := q7_2.1; have q7_3 := CellF.keep hb7 q6_3; have c7_3 := q7_3.1; have q7_4 := CellF.keep hb7 q6_4; have c7_4 := q7_4.1) | (go_at_call 27; ((with_reducible refine (Within_is _ _ _ _ _ _ _ HW _).mono ?_)); rintro e w8 ⟨rfl, hb8⟩; have ho8 := SrvAt.keep hb8 ho7; have q8_1 := CellF.keep hb8 q7_1; have c8_1 := q8_1.1; have q8_2 := CellF.keep hb8 q7_2; have c8_2 := q8_2.1; have q8_3 := CellF.keep hb8 q7_3; have c8_3 := q8_3.1; have q8_4 := CellF.keep hb8 q7_4; have c8_4 := q8_4.1))
          all_goals (
            go_wp2
            go_roundw
            case rel => exact ⟨k + 1, lo', hi', _, _, _, by omega, by go_num, by omega, by omega, Lib.hid (bstep (bstep (bstep (bdrew HW5.out) hb6) hb7) hb8), Lib.hid ho8⟩
            case measure => simp [intOf]; omega)
        | true =>
          by_cases hta : (f k).at_ = a
          · have htm : m' ≠ m := fun e => hsame ⟨rfl, hta, e⟩
            subst hta
            go_wp2_with fail
            refine (Count_is b _ _ _ _ _ p _ ho5).mono ?_
            rintro e w6 ⟨rfl, hb6⟩
            have ho6 := ho5.keep hb6
            have q6_1 := CellF.keep hb6 q5_1
            have c6_1 := q6_1.1
            have q6_2 := CellF.keep hb6 q5_2
            have c6_2 := q6_2.1
            have q6_3 := CellF.keep hb6 q5_3
            have c6_3 := q6_3.1
            have q6_4 := CellF.keep hb6 q5_4
            have c6_4 := q6_4.1
            have z6 : wr.heap.size < w6.heap.size := ltc c6_1
            clear q5_1 q5_2 q5_3 q5_4 c5_0 c5_1 c5_2 c5_3 c5_4 z5
            have ho6d := SrvAt.drew ho6
            go_wp2_with fail
            go_region_held3 (fun w' => w'.cell? ⟨wr.heap.size, 1, none⟩ = some (.int .i64 (f k).at_) ∧ w'.cell? ⟨wr.heap.size, 2, none⟩ = some (.int .i64 (f k).lo) ∧ w'.cell? ⟨wr.heap.size, 3, none⟩ = some (.int .i64 (f k).hi) ∧ w'.cell? ⟨wr.heap.size, 4, none⟩ = some (.bool (f k).kn))
              (go_keep)
              (first | (go_at_call 13; ((with_reducible refine (Read_is b lo' hi' true (f k).at_ m' p (f k).at_ _ _ _ HR _ ho6d).mono ?_)); rintro e w7 ⟨rfl, hb7⟩; have ho7 := SrvAt.keep hb7 ho6d; have q7_1 := CellF.keep hb7 (CellF.drew q6_1); have c7_1 := q7_1.1; have q7_2 := CellF.keep hb7 (CellF.drew q6_2); have c7_2 := q7_2.1; have q7_3 := CellF.keep hb7 (CellF.drew q6_3); have c7_3 := q7_3.1; have q7_4 := CellF.keep hb7 (CellF.drew q6_4); have c7_4 := q7_4.1) | (go_at_call 13; ((with_reducible refine (Read_is b lo' hi' true (f k).at_ m' p (f k).at_ _ _ _ HR _ ho7).mono ?_)); rintro e w8 ⟨rfl, hb8⟩; have ho8 := SrvAt.keep hb8 ho7; have q8_1 := CellF.keep hb8 q7_1; have c8_1 := q8_1.1; have q8_2 := CellF.keep hb8 q7_2; have c8_2 := q8_2.1; have q8_3 := CellF.keep hb8 q7_3; have c8_3 := q8_3.1; have q8_4 := CellF.keep hb8 q7_4; have c8_4 := q8_4.1) | (go_at_call 27; ((with_reducible refine (Within_is _ _ _ _ _ _ _ HW _).mono ?_)); rintro e w9 ⟨rfl, hb9⟩; have ho9 := SrvAt.keep hb9 ho8; have q9_1 := CellF.keep hb9 q8_1; have c9_1 := q9_1.1; have q9_2 := CellF.keep hb9 q8_2; have c9_2 := q9_2.1; have q9_3 := CellF.keep hb9 q8_3; have c9_3 := q9_3.1; have q9_4 := CellF.keep hb9 q8_4; have c9_4 := q9_4.1))
            all_goals (
              go_wp2
              go_roundw
              case rel => exact ⟨k + 1, lo', hi', _, _, _, by omega, by go_num, by omega, by omega, Lib.hid (bstep (bstep (bstep (bdrew (bstep HW5.out hb6)) hb7) hb8) hb9), Lib.hid ho9⟩
              case measure => simp [intOf]; omega)
          · skip
            have ho5d := SrvAt.drew ho5
            go_wp2_with fail
            go_region_held3 (fun w' => w'.cell? ⟨wr.heap.size, 1, none⟩ = some (.int .i64 (f k).at_) ∧ w'.cell? ⟨wr.heap.size, 2, none⟩ = some (.int .i64 (f k).lo) ∧ w'.cell? ⟨wr.heap.size, 3, none⟩ = some (.int .i64 (f k).hi) ∧ w'.cell? ⟨wr.heap.size, 4, none⟩ = some (.bool (f k).kn))
              (go_keep)
              (first | (go_at_call 13; ((with_reducible refine (Read_is b lo' hi' true (f k).at_ m' p (f k).at_ _ _ _ HR _ ho5d).mono ?_)); rintro e w6 ⟨rfl, hb6⟩; have ho6 := SrvAt.keep hb6 ho5d; have q6_1 := CellF.keep hb6 (CellF.drew q5_1); have c6_1 := q6_1.1; have q6_2 := CellF.keep hb6 (CellF.drew q5_2); have c6_2 := q6_2.1; have q6_3 := CellF.keep hb6 (CellF.drew q5_3); have c6_3 := q6_3.1; have q6_4 := CellF.keep hb6 (CellF.drew q5_4); have c6_4 := q6_4.1) | (go_at_call 13; ((with_reducible refine (Read_is b lo' hi' true (f k).at_ m' p (f k).at_ _ _ _ HR _ ho6).mono ?_)); rintro e w7 ⟨rfl, hb7⟩; have ho7 := SrvAt.keep hb7 ho6; have q7_1 := CellF.keep hb7 q6_1; have c7_1 := q7_1.1; have q7_2 := CellF.keep hb7 q6_2; have c7_2 := q7_2.1; have q7_3 := CellF.keep hb7 q6_3; have c7_3 := q7_3.1; have q7_4 := CellF.keep hb7 q6_4; have c7_4 := q7_4.1) | (go_at_call 27; ((with_reducible refine (Within_is _ _ _ _ _ _ _ HW _).mono ?_)); rintro e w8 ⟨rfl, hb8⟩; have ho8 := SrvAt.keep hb8 ho7; have q8_1 := CellF.keep hb8 q7_1; have c8_1 := q8_1.1; have q8_2 := CellF.keep hb8 q7_2; have c8_2 := q8_2.1; have q8_3 := CellF.keep hb8 q7_3; have c8_3 := q8_3.1; have q8_4 := CellF.keep hb8 q7_4; have c8_4 := q8_4.1))
            all_goals (
              go_wp2
              go_roundw
              case rel => exact ⟨k + 1, lo', hi', _, _, _, by omega, by go_num, by omega, by omega, Lib.hid (bstep (bstep (bstep (bdrew HW5.out) hb6) hb7) hb8), Lib.hid ho8⟩
              case measure => simp [intOf]; omega)
      · skip
        go_wp2
        go_roundw
        case rel => exact ⟨k + 1, lo', hi', _, _, _, by omega, by go_num, by omega, by omega, Lib.hid HW5.out, Lib.hid ho5⟩
        case measure => simp [intOf]; omega
    · skip
      go_wp2_with fail
      refine (alive_is _).mono ?_
      rintro e w2 ⟨rfl, hb2⟩
      go_wp2
      go_ret
      exact ⟨rfl, (by repeat (first | exact brefl _ | refine balloc ?_ _ | refine bdrewN ?_ _ | refine bset ?_ (by dsimp only; omega) _ | refine bstep ?_ (by assumption)))⟩
end Go.Proofs.Ytklnlhphgiipjaa
