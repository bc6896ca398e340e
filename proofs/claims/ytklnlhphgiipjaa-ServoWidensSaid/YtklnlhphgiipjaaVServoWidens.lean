/-
  The walk of the law ServoWidens.
-/
import Derived.Test.YtklnlhphgiipjaaAlServo
import Derived.Test.YtklnlhphgiipjaaVe
import Derived.Test.YtklnlhphgiipjaaScr5
import Derived.Deep.RegionHeld3
namespace Go.Proofs.Ytklnlhphgiipjaa
open Go.RowKit

set_option maxRecDepth 100000 in
set_option maxHeartbeats 8000000 in
theorem ServoWidens_walk (p : Int) (v : Value) (n : Nat) (f : Nat → OpIs) (x0 x1 : Int) (w : World) (hp : I64 p) (hv : Script5 w v n f) (_hx0 : I64 x0) (_hx1 : I64 x1) :
    Calls Try.prog 8 #[.int .i64 p, v, .agg #[.int .i64 x0, .int .i64 x1]] w fun e w' => e = .returned (.bool true) ∧ Below w.heap.size w w' := by
  obtain ⟨a0, cap, rfl, hn, hnc, hcap, hsc⟩ := hv
  have HSC := Lib.hid hsc
  clear hsc
  by_cases hbad : p < 0 ∨ 1000000000 < p
  · go_enter Try.func8, Try.ntmps8
    go_wp2_with fail
    refine (SNew_no p hp hbad _).mono ?_
    rintro e w1 ⟨rfl, hb1⟩
    go_wp2_with fail
    refine (alive_is _).mono ?_
    rintro e w2 ⟨rfl, hb2⟩
    go_wp2
    go_ret
    exact ⟨rfl, (by repeat (first | exact brefl _ | refine balloc ?_ _ | refine bdrewN ?_ _ | refine bset ?_ (by dsimp only; omega) _ | refine bstep ?_ (by assumption)))⟩
  have p0 : 0 ≤ p := by omega
  have p9 : p ≤ 1000000000 := by omega
  clear hbad
  by_cases hbig : (400 : Int) < n
  · go_enter Try.func8, Try.ntmps8
    go_wp2_with fail
    refine (SNew_yes p p0 p9 _).mono ?_
    rintro e w1 ⟨b, rfl, hb1, hwb, ho⟩
    go_wp2_with fail
    refine (alive_is _).mono ?_
    rintro e w2 ⟨rfl, hb2⟩
    go_wp2
    go_ret
    exact ⟨rfl, (by repeat (first | exact brefl _ | refine balloc ?_ _ | refine bdrewN ?_ _ | refine bset ?_ (by dsimp only; omega) _ | refine bstep ?_ (by assumption)))⟩
  have hn1 : n ≤ 400 := by omega
  clear hbig
  go_enter Try.func8, Try.ntmps8
  go_wp2_with fail
  refine (SNew_yes p p0 p9 _).mono ?_
  rintro e w1 ⟨b, rfl, hb1, hwb, ho⟩
  have X0 : CellF w1 ⟨w.heap.size, 0, none⟩ (.int .i64 x0) := CellF.keep hb1 (by repeat (first | (with_reducible refine CellF.at_ ?_ rfl; (first | rfl | (simp; done))) | with_reducible refine CellF.past _ ?_ | with_reducible refine CellF.drew ?_ | with_reducible refine CellF.drewN _ ?_))
  have X1 : CellF w1 ⟨w.heap.size, 1, none⟩ (.int .i64 x1) := CellF.keep hb1 (by repeat (first | (with_reducible refine CellF.at_ ?_ rfl; (first | rfl | (simp; done))) | with_reducible refine CellF.past _ ?_ | with_reducible refine CellF.drew ?_ | with_reducible refine CellF.drewN _ ?_))
  have hw1 : Below w.heap.size w w1 := (by repeat (first | exact brefl _ | refine balloc ?_ _ | refine bdrewN ?_ _ | refine bset ?_ (by dsimp only; omega) _ | refine bstep ?_ (by assumption)))
  have hbw : w.heap.size < b := by simp at hwb; omega
  clear hb1 hwb
  go_wp2
  go_loopw [32] (fun i wr => ∃ (k : Nat) (lo hi : Int) (kn : Bool) (a m : Int), k ≤ n ∧ i = .int .i64 k ∧ 0 ≤ m ∧ m ≤ k ∧ Hid (Below w.heap.size w wr) ∧ Hid (SrvAt wr b lo hi kn a m p) ∧ Hid (CellF wr ⟨w.heap.size, 0, none⟩ (.int .i64 x0) ∧ CellF wr ⟨w.heap.size, 1, none⟩ (.int .i64 x1))) (fun i _ => n - (intOf i).toNat)
  case atStart => exact ⟨0, 0, 0, false, 0, 0, by omega, rfl, by omega, by omega, Lib.hid hw1, Lib.hid ho, Lib.hid ⟨X0, X1⟩⟩
  case round =>
    clear X0 X1 hw1 ho
    obtain ⟨k, lo, hi, kn, a, m, hk, rfl, hm0, hm1, HB, HO, HX⟩ := hrel
    have hwr := HB.out
    have hsz := hwr.size
    have hbr := HO.out.lt
    by_cases hkn : k < n
    · obtain ⟨sb, o, rfl, hsb, hkd, hat, hlo, hhi, c0, c1, c2, c3, c4⟩ := HSC.out k hkn
      have e0 := (hwr.cell (p := ⟨sb, o + k * 5, none⟩) hsb).trans c0
      have e1 := (hwr.cell (p := ⟨sb, o + k * 5 + 1, none⟩) hsb).trans c1
      have e2 := (hwr.cell (p := ⟨sb, o + k * 5 + 2, none⟩) hsb).trans c2
      have e3 := (hwr.cell (p := ⟨sb, o + k * 5 + 3, none⟩) hsb).trans c3
      have e4 := (hwr.cell (p := ⟨sb, o + k * 5 + 4, none⟩) hsb).trans c4
      clear c0 c1 c2 c3 c4
      obtain ⟨⟨lo', hi', kn'⟩, a', m', r, hd⟩ : ∃ s' a' m' r, sDo ⟨lo, hi, kn⟩ a m p (f k).kd (f k).at_ ⟨(f k).lo, (f k).hi, (f k).kn⟩ = (s', a', m', r) := ⟨_, _, _, _, rfl⟩
      have HD := Lib.hid hd
      have hcm := do_count hm0 hd
      go_wp2_with fail
      refine (does_is b lo hi kn a m p (f k).kd (f k).at_ (f k).lo (f k).hi (f k).kn lo' hi' kn' a' m' r hm0 (by omega) HD _ (SrvAt.past _ HO.out)).mono ?_
      rintro e w2 ⟨rfl, on2, ho2⟩
      have hw2 : Below w.heap.size w w2 := Below.trans (by repeat (first | exact brefl _ | refine balloc ?_ _ | refine bdrewN ?_ _ | refine bset ?_ (by dsimp only; omega) _ | refine bstep ?_ (by assumption))) (on2.1.mono (Nat.le_of_lt hbw))
      have y0 := on2.2 _ _ (Nat.ne_of_lt hbw) (CellF.past _ HX.out.1)
      have y1 := on2.2 _ _ (Nat.ne_of_lt hbw) (CellF.past _ HX.out.2)
      clear e0 e1 e2 e3 e4
      go_wp2
      go_roundw
      case rel => exact ⟨k + 1, lo', hi', kn', a', m', by omega, by go_num, by omega, by omega, Lib.hid hw2, Lib.hid ho2, Lib.hid ⟨y0, y1⟩⟩
      case measure => simp [intOf]; omega
    · have X0 := HX.out.1
      have X1 := HX.out.2
      have xc0 := X0.1
      have xc1 := X1.1
      have lx := ltc xc0
      go_wp2_with fail
      refine (Last_is b lo hi kn a m p _ HO.out).mono ?_
      rintro e w2 ⟨rfl, hb2⟩
      have ho2 := HO.out.keep hb2
      have y0 := X0.keep hb2
      have y1 := X1.keep hb2
      have yc0 := y0.1
      have yc1 := y1.1
      have ly := ltc yc0
      clear X0 X1 xc0 xc1 lx
      cases kn with
      | false =>
        go_wp2_with fail
        refine (alive_is _).mono ?_
        rintro e w3 ⟨rfl, hb3⟩
        go_wp2
        go_ret
        exact ⟨rfl, (by repeat (first | exact brefl _ | refine balloc ?_ _ | refine bdrewN ?_ _ | refine bset ?_ (by dsimp only; omega) _ | refine bstep ?_ (by assumption)))⟩
      | true =>
        by_cases h1 : x0 < a
        · skip
          go_wp2_with fail
          refine (alive_is _).mono ?_
          rintro e w3 ⟨rfl, hb3⟩
          go_wp2
          go_ret
          exact ⟨rfl, (by repeat (first | exact brefl _ | refine balloc ?_ _ | refine bdrewN ?_ _ | refine bset ?_ (by dsimp only; omega) _ | refine bstep ?_ (by assumption)))⟩
        by_cases h2 : x1 < x0
        · skip
          go_wp2_with fail
          refine (alive_is _).mono ?_
          rintro e w3 ⟨rfl, hb3⟩
          go_wp2
          go_ret
          exact ⟨rfl, (by repeat (first | exact brefl _ | refine balloc ?_ _ | refine bdrewN ?_ _ | refine bset ?_ (by dsimp only; omega) _ | refine bstep ?_ (by assumption)))⟩
        obtain ⟨⟨r1, r2, r3⟩, hr⟩ : ∃ s, sRead ⟨lo, hi, true⟩ a p x0 = s := ⟨_, rfl⟩
        obtain ⟨⟨u1, u2, u3⟩, hu⟩ : ∃ s, sRead ⟨lo, hi, true⟩ a p x1 = s := ⟨_, rfl⟩
        have hwi := read_longer (s := ⟨lo, hi, true⟩) (a := a) (x := x0) (y := x1) p0 (by omega) (by omega)
        rw [hr, hu] at hwi
        have HR := Lib.hid hr
        have HU := Lib.hid hu
        have HW := Lib.hid hwi
        clear hr hu hwi
        go_wp2_with fail
        go_region_held3 (fun w' => w'.cell? ⟨w.heap.size, 0, none⟩ = some (.int .i64 x0) ∧ w'.cell? ⟨w.heap.size, 1, none⟩ = some (.int .i64 x1))
          (go_keep)
          (first | (go_at_call 10; ((with_reducible refine (alive_is _).mono ?_)); rintro e w3 ⟨rfl, hb3⟩; have ho3 := SrvAt.keep hb3 (SrvAt.drew ho2); have y0_3 := CellF.keep hb3 (CellF.drew y0); have y1_3 := CellF.keep hb3 (CellF.drew y1); have yc0_3 := y0_3.1; have yc1_3 := y1_3.1) | (go_at_call 13; ((with_reducible refine (Read_is b lo hi true a m p x0 _ _ _ HR w3 ho3).mono ?_)); rintro e w4 ⟨rfl, hb4⟩; have ho4 := SrvAt.keep hb4 ho3; have y0_4 := CellF.keep hb4 y0_3; have y1_4 := CellF.keep hb4 y1_3; have yc0_4 := y0_4.1; have yc1_4 := y1_4.1) | (go_at_call 13; ((with_reducible refine (Read_is b lo hi true a m p x1 _ _ _ HU w4 ho4).mono ?_)); rintro e w5 ⟨rfl, hb5⟩; have ho5 := SrvAt.keep hb5 ho4; have y0_5 := CellF.keep hb5 y0_4; have y1_5 := CellF.keep hb5 y1_4; have yc0_5 := y0_5.1; have yc1_5 := y1_5.1) | (go_at_call 27; ((with_reducible refine (Within_is _ _ _ _ _ _ _ HW _).mono ?_)); rintro e w6 ⟨rfl, hb6⟩; have ho6 := SrvAt.keep hb6 ho5; have y0_6 := CellF.keep hb6 y0_5; have y1_6 := CellF.keep hb6 y1_5; have yc0_6 := y0_6.1; have yc1_6 := y1_6.1))
        all_goals (go_wp2; go_ret; exact ⟨rfl, (by repeat (first | exact brefl _ | refine balloc ?_ _ | refine bdrewN ?_ _ | refine bset ?_ (by dsimp only; omega) _ | refine bstep ?_ (by assumption)))⟩)
end Go.Proofs.Ytklnlhphgiipjaa
