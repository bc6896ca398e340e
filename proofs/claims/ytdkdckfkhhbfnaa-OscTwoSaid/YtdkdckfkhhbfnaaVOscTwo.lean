/-
  The walk of the law OscTwo.
-/
import Derived.Test.YtdkdckfkhhbfnaaAlOsc
import Derived.Test.YtdkdckfkhhbfnaaScr3
import Derived.Deep.RegionHeld3
namespace Go.Proofs.Ytdkdckfkhhbfnaa
open Go.RowKit

theorem OscAt.drew {a : World} {n : Nat} {x y z : Int} (h : OscAt a n x y z) : OscAt a.drew n x y z := h

set_option maxRecDepth 100000 in
set_option maxHeartbeats 8000000 in
theorem OscTwo_walk (xs xb ys yb : Int) (v : Value) (n : Nat) (f g h : Nat → Int) (w : World) (hxs : I64 xs) (hxb : I64 xb) (hys : I64 ys) (hyb : I64 yb) (hv : Script3 w v n f g h) :
    Calls Try.prog 5 #[.agg #[.int .i64 xs, .int .i64 xb], .agg #[.int .i64 ys, .int .i64 yb], v] w fun e w' => e = .returned (.bool true) ∧ Below w.heap.size w w' := by
  obtain ⟨a0, cap, rfl, hn, hnc, hcap, hsc⟩ := hv
  have HSC := Lib.hid hsc
  clear hsc
  by_cases hX : xs < 0 ∨ 2305843009213693952 < xs ∨ xb < 0 ∨ 100000000 < xb
  · by_cases hY : ys < 0 ∨ 2305843009213693952 < ys ∨ yb < 0 ∨ 100000000 < yb
    · skip
      go_enter Try.func5, Try.ntmps5
      go_wp2_with fail
      refine (New_no xs xb hxs hxb hX _).mono ?_
      rintro e w1 ⟨rfl, hb1⟩
      have x0 : CellF w1 ⟨w.heap.size, 0, none⟩ (.int .i64 xs) := CellF.keep hb1 (by repeat (first | (with_reducible refine CellF.at_ ?_ rfl; (first | rfl | (simp; done))) | with_reducible refine CellF.past _ ?_ | with_reducible refine CellF.drew ?_ | with_reducible refine CellF.drewN _ ?_))
      have x1 : CellF w1 ⟨w.heap.size, 1, none⟩ (.int .i64 xb) := CellF.keep hb1 (by repeat (first | (with_reducible refine CellF.at_ ?_ rfl; (first | rfl | (simp; done))) | with_reducible refine CellF.past _ ?_ | with_reducible refine CellF.drew ?_ | with_reducible refine CellF.drewN _ ?_))
      have x2 : CellF w1 ⟨(w.heap.size + 1), 0, none⟩ (.int .i64 ys) := CellF.keep hb1 (by repeat (first | (with_reducible refine CellF.at_ ?_ rfl; (first | rfl | (simp; done))) | with_reducible refine CellF.past _ ?_ | with_reducible refine CellF.drew ?_ | with_reducible refine CellF.drewN _ ?_))
      have x3 : CellF w1 ⟨(w.heap.size + 1), 1, none⟩ (.int .i64 yb) := CellF.keep hb1 (by repeat (first | (with_reducible refine CellF.at_ ?_ rfl; (first | rfl | (simp; done))) | with_reducible refine CellF.past _ ?_ | with_reducible refine CellF.drew ?_ | with_reducible refine CellF.drewN _ ?_))
      have xc0 := x0.1
      have xc1 := x1.1
      have xc2 := x2.1
      have xc3 := x3.1
      go_wp2_with fail
      refine (New_no ys yb hys hyb hY _).mono ?_
      rintro e w2 ⟨rfl, hb2⟩
      go_wp2_with fail
      refine (alive_is _).mono ?_
      rintro e w3 ⟨rfl, hb3⟩
      go_wp2
      go_ret
      exact ⟨rfl, (by repeat (first | exact brefl _ | refine balloc ?_ _ | refine bdrewN ?_ _ | refine bset ?_ (by dsimp only; omega) _ | refine bstep ?_ (by assumption)))⟩
    · skip
      have s2 : 0 ≤ ys := by omega
      have s3 : ys ≤ 2305843009213693952 := by omega
      have d2 : 0 ≤ yb := by omega
      have d3 : yb ≤ 100000000 := by omega
      go_enter Try.func5, Try.ntmps5
      go_wp2_with fail
      refine (New_no xs xb hxs hxb hX _).mono ?_
      rintro e w1 ⟨rfl, hb1⟩
      have x0 : CellF w1 ⟨w.heap.size, 0, none⟩ (.int .i64 xs) := CellF.keep hb1 (by repeat (first | (with_reducible refine CellF.at_ ?_ rfl; (first | rfl | (simp; done))) | with_reducible refine CellF.past _ ?_ | with_reducible refine CellF.drew ?_ | with_reducible refine CellF.drewN _ ?_))
      have x1 : CellF w1 ⟨w.heap.size, 1, none⟩ (.int .i64 xb) := CellF.keep hb1 (by repeat (first | (with_reducible refine CellF.at_ ?_ rfl; (first | rfl | (simp; done))) | with_reducible refine CellF.past _ ?_ | with_reducible refine CellF.drew ?_ | with_reducible refine CellF.drewN _ ?_))
      have x2 : CellF w1 ⟨(w.heap.size + 1), 0, none⟩ (.int .i64 ys) := CellF.keep hb1 (by repeat (first | (with_reducible refine CellF.at_ ?_ rfl; (first | rfl | (simp; done))) | with_reducible refine CellF.past _ ?_ | with_reducible refine CellF.drew ?_ | with_reducible refine CellF.drewN _ ?_))
      have x3 : CellF w1 ⟨(w.heap.size + 1), 1, none⟩ (.int .i64 yb) := CellF.keep hb1 (by repeat (first | (with_reducible refine CellF.at_ ?_ rfl; (first | rfl | (simp; done))) | with_reducible refine CellF.past _ ?_ | with_reducible refine CellF.drew ?_ | with_reducible refine CellF.drewN _ ?_))
      have xc0 := x0.1
      have xc1 := x1.1
      have xc2 := x2.1
      have xc3 := x3.1
      go_wp2_with fail
      refine (New_yes ys yb s2 s3 d2 d3 _).mono ?_
      rintro e w2 ⟨b2, rfl, hb2, hwb2, ho2⟩
      go_wp2_with fail
      refine (alive_is _).mono ?_
      rintro e w3 ⟨rfl, hb3⟩
      go_wp2
      go_ret
      exact ⟨rfl, (by repeat (first | exact brefl _ | refine balloc ?_ _ | refine bdrewN ?_ _ | refine bset ?_ (by dsimp only; omega) _ | refine bstep ?_ (by assumption)))⟩
  have s0 : 0 ≤ xs := by omega
  have s1 : xs ≤ 2305843009213693952 := by omega
  have d0 : 0 ≤ xb := by omega
  have d1 : xb ≤ 100000000 := by omega
  clear hX
  by_cases hY : ys < 0 ∨ 2305843009213693952 < ys ∨ yb < 0 ∨ 100000000 < yb
  · skip
    go_enter Try.func5, Try.ntmps5
    go_wp2_with fail
    refine (New_yes xs xb s0 s1 d0 d1 _).mono ?_
    rintro e w1 ⟨b1, rfl, hb1, hwb1, ho1⟩
    have x0 : CellF w1 ⟨w.heap.size, 0, none⟩ (.int .i64 xs) := CellF.keep hb1 (by repeat (first | (with_reducible refine CellF.at_ ?_ rfl; (first | rfl | (simp; done))) | with_reducible refine CellF.past _ ?_ | with_reducible refine CellF.drew ?_ | with_reducible refine CellF.drewN _ ?_))
    have x1 : CellF w1 ⟨w.heap.size, 1, none⟩ (.int .i64 xb) := CellF.keep hb1 (by repeat (first | (with_reducible refine CellF.at_ ?_ rfl; (first | rfl | (simp; done))) | with_reducible refine CellF.past _ ?_ | with_reducible refine CellF.drew ?_ | with_reducible refine CellF.drewN _ ?_))
    have x2 : CellF w1 ⟨(w.heap.size + 1), 0, none⟩ (.int .i64 ys) := CellF.keep hb1 (by repeat (first | (with_reducible refine CellF.at_ ?_ rfl; (first | rfl | (simp; done))) | with_reducible refine CellF.past _ ?_ | with_reducible refine CellF.drew ?_ | with_reducible refine CellF.drewN _ ?_))
    have x3 : CellF w1 ⟨(w.heap.size + 1), 1, none⟩ (.int .i64 yb) := CellF.keep hb1 (by repeat (first | (with_reducible refine CellF.at_ ?_ rfl; (first | rfl | (simp; done))) | with_reducible refine CellF.past _ ?_ | with_reducible refine CellF.drew ?_ | with_reducible refine CellF.drewN _ ?_))
    have xc0 := x0.1
    have xc1 := x1.1
    have xc2 := x2.1
    have xc3 := x3.1
    go_wp2_with fail
    refine (New_no ys yb hys hyb hY _).mono ?_
    rintro e w2 ⟨rfl, hb2⟩
    go_wp2_with fail
    refine (alive_is _).mono ?_
    rintro e w3 ⟨rfl, hb3⟩
    go_wp2
    go_ret
    exact ⟨rfl, (by repeat (first | exact brefl _ | refine balloc ?_ _ | refine bdrewN ?_ _ | refine bset ?_ (by dsimp only; omega) _ | refine bstep ?_ (by assumption)))⟩
  have s2 : 0 ≤ ys := by omega
  have s3 : ys ≤ 2305843009213693952 := by omega
  have d2 : 0 ≤ yb := by omega
  have d3 : yb ≤ 100000000 := by omega
  clear hY
  by_cases hbig : (1000 : Int) < n
  · skip
    go_enter Try.func5, Try.ntmps5
    go_wp2_with fail
    refine (New_yes xs xb s0 s1 d0 d1 _).mono ?_
    rintro e w1 ⟨b1, rfl, hb1, hwb1, ho1⟩
    have x0 : CellF w1 ⟨w.heap.size, 0, none⟩ (.int .i64 xs) := CellF.keep hb1 (by repeat (first | (with_reducible refine CellF.at_ ?_ rfl; (first | rfl | (simp; done))) | with_reducible refine CellF.past _ ?_ | with_reducible refine CellF.drew ?_ | with_reducible refine CellF.drewN _ ?_))
    have x1 : CellF w1 ⟨w.heap.size, 1, none⟩ (.int .i64 xb) := CellF.keep hb1 (by repeat (first | (with_reducible refine CellF.at_ ?_ rfl; (first | rfl | (simp; done))) | with_reducible refine CellF.past _ ?_ | with_reducible refine CellF.drew ?_ | with_reducible refine CellF.drewN _ ?_))
    have x2 : CellF w1 ⟨(w.heap.size + 1), 0, none⟩ (.int .i64 ys) := CellF.keep hb1 (by repeat (first | (with_reducible refine CellF.at_ ?_ rfl; (first | rfl | (simp; done))) | with_reducible refine CellF.past _ ?_ | with_reducible refine CellF.drew ?_ | with_reducible refine CellF.drewN _ ?_))
    have x3 : CellF w1 ⟨(w.heap.size + 1), 1, none⟩ (.int .i64 yb) := CellF.keep hb1 (by repeat (first | (with_reducible refine CellF.at_ ?_ rfl; (first | rfl | (simp; done))) | with_reducible refine CellF.past _ ?_ | with_reducible refine CellF.drew ?_ | with_reducible refine CellF.drewN _ ?_))
    have xc0 := x0.1
    have xc1 := x1.1
    have xc2 := x2.1
    have xc3 := x3.1
    go_wp2_with fail
    refine (New_yes ys yb s2 s3 d2 d3 _).mono ?_
    rintro e w2 ⟨b2, rfl, hb2, hwb2, ho2⟩
    go_wp2_with fail
    refine (alive_is _).mono ?_
    rintro e w3 ⟨rfl, hb3⟩
    go_wp2
    go_ret
    exact ⟨rfl, (by repeat (first | exact brefl _ | refine balloc ?_ _ | refine bdrewN ?_ _ | refine bset ?_ (by dsimp only; omega) _ | refine bstep ?_ (by assumption)))⟩
  have hn1 : n ≤ 1000 := by omega
  clear hbig
  go_enter Try.func5, Try.ntmps5
  go_wp2_with fail
  refine (New_yes xs xb s0 s1 d0 d1 _).mono ?_
  rintro e w1 ⟨b1, rfl, hb1, hwb1, ho1⟩
  have x0 : CellF w1 ⟨w.heap.size, 0, none⟩ (.int .i64 xs) := CellF.keep hb1 (by repeat (first | (with_reducible refine CellF.at_ ?_ rfl; (first | rfl | (simp; done))) | with_reducible refine CellF.past _ ?_ | with_reducible refine CellF.drew ?_ | with_reducible refine CellF.drewN _ ?_))
  have x1 : CellF w1 ⟨w.heap.size, 1, none⟩ (.int .i64 xb) := CellF.keep hb1 (by repeat (first | (with_reducible refine CellF.at_ ?_ rfl; (first | rfl | (simp; done))) | with_reducible refine CellF.past _ ?_ | with_reducible refine CellF.drew ?_ | with_reducible refine CellF.drewN _ ?_))
  have x2 : CellF w1 ⟨(w.heap.size + 1), 0, none⟩ (.int .i64 ys) := CellF.keep hb1 (by repeat (first | (with_reducible refine CellF.at_ ?_ rfl; (first | rfl | (simp; done))) | with_reducible refine CellF.past _ ?_ | with_reducible refine CellF.drew ?_ | with_reducible refine CellF.drewN _ ?_))
  have x3 : CellF w1 ⟨(w.heap.size + 1), 1, none⟩ (.int .i64 yb) := CellF.keep hb1 (by repeat (first | (with_reducible refine CellF.at_ ?_ rfl; (first | rfl | (simp; done))) | with_reducible refine CellF.past _ ?_ | with_reducible refine CellF.drew ?_ | with_reducible refine CellF.drewN _ ?_))
  have xc0 := x0.1
  have xc1 := x1.1
  have xc2 := x2.1
  have xc3 := x3.1
  go_wp2_with fail
  refine (New_yes ys yb s2 s3 d2 d3 _).mono ?_
  rintro e w2 ⟨b2, rfl, hb2, hwb2, ho2⟩
  have y0 := x0.keep hb2
  have y1 := x1.keep hb2
  have y2 := x2.keep hb2
  have y3 := x3.keep hb2
  have ho1' := ho1.keep hb2
  have hlt1 := ho1.lt
  have hw2 : Below w.heap.size w w2 := (by repeat (first | exact brefl _ | refine balloc ?_ _ | refine bdrewN ?_ _ | refine bset ?_ (by dsimp only; omega) _ | refine bstep ?_ (by assumption)))
  have hn12 : b1 ≠ b2 := Nat.ne_of_lt (Nat.lt_of_lt_of_le hlt1 hwb2)
  have hb1w : w.heap.size + 2 ≤ b1 := by simp at hwb1; omega
  have hz1 := hb1.size
  have hb2w : w.heap.size + 2 ≤ b2 := by simp at hz1; omega
  clear x0 x1 x2 x3 xc0 xc1 xc2 xc3 hwb1 hwb2 hlt1 ho1 hb1 hb2 hz1
  go_wp2
  go_loopw [59] (fun i wr => ∃ (k : Nat) (la lb t : Int), k ≤ n ∧ i = .int .i64 k ∧ Hid (Below w.heap.size w wr) ∧ Hid (OscAt wr b1 la t xb ∧ OscAt wr b2 lb t yb) ∧ Hid (OscOk xs xb la t ∧ OscOk ys yb lb t) ∧ Hid (PairAt wr w.heap.size xs xb ∧ PairAt wr (w.heap.size + 1) ys yb)) (fun i _ => n - (intOf i).toNat)
  case atStart => exact ⟨0, xs, ys, 0, by omega, rfl, Lib.hid hw2, Lib.hid ⟨ho1', ho2⟩, Lib.hid ⟨osc_new s0 s1 d0 d1, osc_new s2 s3 d2 d3⟩, Lib.hid ⟨⟨y0, y1⟩, ⟨y2, y3⟩⟩⟩
  case round =>
    clear y0 y1 y2 y3 ho1' ho2
    obtain ⟨k, la, lb, t, hk, rfl, HB, HO, HK, HP⟩ := hrel
    by_cases hkn : k < n
    · obtain ⟨sb, o, rfl, hsb, hf, hg, hh, c0, c1, c2⟩ := HSC.out k hkn
      have hwr := HB.out
      have low1 := osc_low HK.out.1
      have low2 := osc_low HK.out.2
      obtain ⟨_, _, _, _, t1, t2, l1, _, _⟩ := HK.out.1
      obtain ⟨_, _, _, _, _, _, l2, _, _⟩ := HK.out.2
      have e0 := (hwr.cell (p := ⟨sb, o + k * 3, none⟩) hsb).trans c0
      have e1 := (hwr.cell (p := ⟨sb, o + k * 3 + 1, none⟩) hsb).trans c1
      have e2 := (hwr.cell (p := ⟨sb, o + k * 3 + 2, none⟩) hsb).trans c2
      have p0 := HO.out.1.1
      have p1 := HO.out.1.2.1
      have p2 := HO.out.1.2.2
      have q0 := HO.out.2.1
      have q1 := HO.out.2.2.1
      have q2 := HO.out.2.2.2
      have x0 := HP.out.1.1
      have x1 := HP.out.1.2
      have x2 := HP.out.2.1
      have x3 := HP.out.2.2
      have xc0 := x0.1
      have xc1 := x1.1
      have xc2 := x2.1
      have xc3 := x3.1
      have hsx : w.heap.size < wr.heap.size := ltc xc0
      have hsy : w.heap.size + 1 < wr.heap.size := ltc xc2
      have hbr1 := HO.out.1.lt
      have hbr2 := HO.out.2.lt
      have hfk := hf
      have hgk := hg
      have hhk := hh
      unfold I64 at hfk hgk hhk
      clear c0 c1 c2
      by_cases z0 : xb < g k
      · skip
        go_wp2_with fail
        refine (alive_is _).mono ?_
        rintro e w9 ⟨rfl, hb9⟩
        go_wp2
        go_ret
        exact ⟨rfl, (by repeat (first | exact brefl _ | refine balloc ?_ _ | refine bdrewN ?_ _ | refine bset ?_ (by dsimp only; omega) _ | refine bstep ?_ (by assumption)))⟩
      have u0 := Int.not_lt.1 z0
      by_cases z1 : g k < -xb
      · skip
        go_wp2_with fail
        refine (alive_is _).mono ?_
        rintro e w9 ⟨rfl, hb9⟩
        go_wp2
        go_ret
        exact ⟨rfl, (by repeat (first | exact brefl _ | refine balloc ?_ _ | refine bdrewN ?_ _ | refine bset ?_ (by dsimp only; omega) _ | refine bstep ?_ (by assumption)))⟩
      have u1 := Int.not_lt.1 z1
      by_cases z2 : yb < h k
      · skip
        go_wp2_with fail
        refine (alive_is _).mono ?_
        rintro e w9 ⟨rfl, hb9⟩
        go_wp2
        go_ret
        exact ⟨rfl, (by repeat (first | exact brefl _ | refine balloc ?_ _ | refine bdrewN ?_ _ | refine bset ?_ (by dsimp only; omega) _ | refine bstep ?_ (by assumption)))⟩
      have u2 := Int.not_lt.1 z2
      by_cases z3 : h k < -yb
      · skip
        go_wp2_with fail
        refine (alive_is _).mono ?_
        rintro e w9 ⟨rfl, hb9⟩
        go_wp2
        go_ret
        exact ⟨rfl, (by repeat (first | exact brefl _ | refine balloc ?_ _ | refine bdrewN ?_ _ | refine bset ?_ (by dsimp only; omega) _ | refine bstep ?_ (by assumption)))⟩
      have u3 := Int.not_lt.1 z3
      by_cases z4 : f k < 0
      · skip
        go_wp2_with fail
        refine (alive_is _).mono ?_
        rintro e w9 ⟨rfl, hb9⟩
        go_wp2
        go_ret
        exact ⟨rfl, (by repeat (first | exact brefl _ | refine balloc ?_ _ | refine bdrewN ?_ _ | refine bset ?_ (by dsimp only; omega) _ | refine bstep ?_ (by assumption)))⟩
      have u4 := Int.not_lt.1 z4
      by_cases z5 : 1099511627776 < f k
      · skip
        go_wp2_with fail
        refine (alive_is _).mono ?_
        rintro e w9 ⟨rfl, hb9⟩
        go_wp2
        go_ret
        exact ⟨rfl, (by repeat (first | exact brefl _ | refine balloc ?_ _ | refine bdrewN ?_ _ | refine bset ?_ (by dsimp only; omega) _ | refine bstep ?_ (by assumption)))⟩
      have u5 := Int.not_lt.1 z5
      clear z0 z1 z2 z3 z4 z5
      obtain ⟨la', ta, r1, g1⟩ : ∃ l' a' r, goP la t xb (f k) (g k) = (l', a', r) := ⟨_, _, _, rfl⟩
      have G1 := Lib.hid g1
      obtain ⟨lb', tb, r2, g2⟩ : ∃ l' a' r, goP lb t yb (f k) (h k) = (l', a', r) := ⟨_, _, _, rfl⟩
      have G2 := Lib.hid g2
      have K1 := Lib.hid (osc_go HK.out.1 g1)
      have K2 := Lib.hid (osc_go HK.out.2 g2)
      have T1 := Lib.hid (go_time g1)
      have T2 := Lib.hid (go_time g2)
      clear g1 g2
      have nS1 : wr.heap.size ≠ b1 := Nat.ne_of_gt hbr1
      have nS2 : wr.heap.size ≠ b2 := Nat.ne_of_gt hbr2
      have nX1 : w.heap.size ≠ b1 := by omega
      have nX2 : w.heap.size ≠ b2 := by omega
      have nY1 : w.heap.size + 1 ≠ b1 := by omega
      have nY2 : w.heap.size + 1 ≠ b2 := by omega
      have n21 : b2 ≠ b1 := fun e => hn12 e.symm
      have la0 : 0 ≤ la := by omega
      have lb0 : 0 ≤ lb := by omega
      have s0_0 : CellF (wr.alloc (.cells #[.int .i64 (f k), .int .i64 (g k), .int .i64 (h k)] 43)) ⟨wr.heap.size, 0, none⟩ (.int .i64 (f k)) := CellF.at_ rfl rfl
      have s0_1 : CellF (wr.alloc (.cells #[.int .i64 (f k), .int .i64 (g k), .int .i64 (h k)] 43)) ⟨wr.heap.size, 1, none⟩ (.int .i64 (g k)) := CellF.at_ rfl rfl
      have s0_2 : CellF (wr.alloc (.cells #[.int .i64 (f k), .int .i64 (g k), .int .i64 (h k)] 43)) ⟨wr.heap.size, 2, none⟩ (.int .i64 (h k)) := CellF.at_ rfl rfl
      have x0_0 : CellF (wr.alloc (.cells #[.int .i64 (f k), .int .i64 (g k), .int .i64 (h k)] 43)) ⟨w.heap.size, 0, none⟩ (.int .i64 xs) := CellF.past _ x0
      have x0_1 : CellF (wr.alloc (.cells #[.int .i64 (f k), .int .i64 (g k), .int .i64 (h k)] 43)) ⟨w.heap.size, 1, none⟩ (.int .i64 xb) := CellF.past _ x1
      have x0_2 : CellF (wr.alloc (.cells #[.int .i64 (f k), .int .i64 (g k), .int .i64 (h k)] 43)) ⟨(w.heap.size + 1), 0, none⟩ (.int .i64 ys) := CellF.past _ x2
      have x0_3 : CellF (wr.alloc (.cells #[.int .i64 (f k), .int .i64 (g k), .int .i64 (h k)] 43)) ⟨(w.heap.size + 1), 1, none⟩ (.int .i64 yb) := CellF.past _ x3
      have p0_0 : CellF (wr.alloc (.cells #[.int .i64 (f k), .int .i64 (g k), .int .i64 (h k)] 43)) ⟨b1, 0, none⟩ (.int .i64 la) := CellF.past _ p0
      have p0_1 : CellF (wr.alloc (.cells #[.int .i64 (f k), .int .i64 (g k), .int .i64 (h k)] 43)) ⟨b1, 1, none⟩ (.int .i64 t) := CellF.past _ p1
      have p0_2 : CellF (wr.alloc (.cells #[.int .i64 (f k), .int .i64 (g k), .int .i64 (h k)] 43)) ⟨b1, 2, none⟩ (.int .i64 xb) := CellF.past _ p2
      have q0_0 : CellF (wr.alloc (.cells #[.int .i64 (f k), .int .i64 (g k), .int .i64 (h k)] 43)) ⟨b2, 0, none⟩ (.int .i64 lb) := CellF.past _ q0
      have q0_1 : CellF (wr.alloc (.cells #[.int .i64 (f k), .int .i64 (g k), .int .i64 (h k)] 43)) ⟨b2, 1, none⟩ (.int .i64 t) := CellF.past _ q1
      have q0_2 : CellF (wr.alloc (.cells #[.int .i64 (f k), .int .i64 (g k), .int .i64 (h k)] 43)) ⟨b2, 2, none⟩ (.int .i64 yb) := CellF.past _ q2
      have ho0a : OscAt (wr.alloc (.cells #[.int .i64 (f k), .int .i64 (g k), .int .i64 (h k)] 43)).drew b1 la t xb := ⟨p0_0, p0_1, p0_2⟩
      go_wp2_with fail
      go_region_held3 (fun w' => w'.cell? ⟨wr.heap.size, 0, none⟩ = some (.int .i64 (f k)) ∧ w'.cell? ⟨wr.heap.size, 1, none⟩ = some (.int .i64 (g k)) ∧ w'.cell? ⟨wr.heap.size, 2, none⟩ = some (.int .i64 (h k)))
        (go_keep)
        (first | (go_at_call 16; ((with_reducible refine (Go_is b1 la t xb (f k) (g k) la' ta r1 hf hg la0 l1 t1 t2 G1 _ ho0a).mono ?_)); rintro e w3 ⟨rfl, on1, oa1⟩; have s1_0 : CellF w3 ⟨wr.heap.size, 0, none⟩ (.int .i64 (f k)) := on1.2 _ _ nS1 (CellF.drew s0_0); have sc1_0 := s1_0.1; have s1_1 : CellF w3 ⟨wr.heap.size, 1, none⟩ (.int .i64 (g k)) := on1.2 _ _ nS1 (CellF.drew s0_1); have sc1_1 := s1_1.1; have s1_2 : CellF w3 ⟨wr.heap.size, 2, none⟩ (.int .i64 (h k)) := on1.2 _ _ nS1 (CellF.drew s0_2); have sc1_2 := s1_2.1; have x1_0 : CellF w3 ⟨w.heap.size, 0, none⟩ (.int .i64 xs) := on1.2 _ _ nX1 (CellF.drew x0_0); have xc1_0 := x1_0.1; have x1_1 : CellF w3 ⟨w.heap.size, 1, none⟩ (.int .i64 xb) := on1.2 _ _ nX1 (CellF.drew x0_1); have xc1_1 := x1_1.1; have x1_2 : CellF w3 ⟨(w.heap.size + 1), 0, none⟩ (.int .i64 ys) := on1.2 _ _ nY1 (CellF.drew x0_2); have xc1_2 := x1_2.1; have x1_3 : CellF w3 ⟨(w.heap.size + 1), 1, none⟩ (.int .i64 yb) := on1.2 _ _ nY1 (CellF.drew x0_3); have xc1_3 := x1_3.1; have q3_0 : CellF w3 ⟨b2, 0, none⟩ (.int .i64 lb) := on1.2 _ _ n21 (CellF.drew q0_0); have q3_1 : CellF w3 ⟨b2, 1, none⟩ (.int .i64 t) := on1.2 _ _ n21 (CellF.drew q0_1); have q3_2 : CellF w3 ⟨b2, 2, none⟩ (.int .i64 yb) := on1.2 _ _ n21 (CellF.drew q0_2); have ho3b : OscAt w3 b2 lb t yb := ⟨q3_0, q3_1, q3_2⟩) | (go_at_call 16; ((with_reducible refine (Go_is b2 lb t yb (f k) (h k) lb' tb r2 hf hh lb0 l2 t1 t2 G2 _ ho3b).mono ?_)); rintro e w4 ⟨rfl, on2, ob2⟩; have s2_0 : CellF w4 ⟨wr.heap.size, 0, none⟩ (.int .i64 (f k)) := on2.2 _ _ nS2 s1_0; have sc2_0 := s2_0.1; have s2_1 : CellF w4 ⟨wr.heap.size, 1, none⟩ (.int .i64 (g k)) := on2.2 _ _ nS2 s1_1; have sc2_1 := s2_1.1; have s2_2 : CellF w4 ⟨wr.heap.size, 2, none⟩ (.int .i64 (h k)) := on2.2 _ _ nS2 s1_2; have sc2_2 := s2_2.1; have x2_0 : CellF w4 ⟨w.heap.size, 0, none⟩ (.int .i64 xs) := on2.2 _ _ nX2 x1_0; have xc2_0 := x2_0.1; have x2_1 : CellF w4 ⟨w.heap.size, 1, none⟩ (.int .i64 xb) := on2.2 _ _ nX2 x1_1; have xc2_1 := x2_1.1; have x2_2 : CellF w4 ⟨(w.heap.size + 1), 0, none⟩ (.int .i64 ys) := on2.2 _ _ nY2 x1_2; have xc2_2 := x2_2.1; have x2_3 : CellF w4 ⟨(w.heap.size + 1), 1, none⟩ (.int .i64 yb) := on2.2 _ _ nY2 x1_3; have xc2_3 := x2_3.1; have oa2 : OscAt w4 b1 la' ta xb := ⟨on2.2 _ _ hn12 oa1.1, on2.2 _ _ hn12 oa1.2.1, on2.2 _ _ hn12 oa1.2.2⟩))
      have hw4 : Below w.heap.size w w4 := by
        have e1 := on1.1
        have e2 := on2.1
        refine Below.trans (Below.trans ?_ (e1.mono (by omega))) (e2.mono (by omega))
        repeat (first | exact hwr | exact brefl _ | refine balloc ?_ _ | refine bdrew ?_ | refine bdrewN ?_ _)
      clear s1_0 sc1_0 s1_1 sc1_1 s1_2 sc1_2 x1_0 xc1_0 x1_1 xc1_1 x1_2 xc1_2 x1_3 xc1_3 q3_0 q3_1 q3_2 ho3b ho0a p0 p1 p2 q0 q1 q2 x0 x1 x2 x3 xc0 xc1 xc2 xc3 e0 e1 e2
      rcases T1.out with ⟨rfl, h1, h2⟩ | ⟨rfl, h1, h2⟩
      · skip
        go_wp2_with fail
        refine (alive_is _).mono ?_
        rintro e w9 ⟨rfl, hb9⟩
        go_wp2
        go_ret
        exact ⟨rfl, (by repeat (first | exact brefl _ | refine balloc ?_ _ | refine bdrewN ?_ _ | refine bset ?_ (by dsimp only; omega) _ | refine bstep ?_ (by assumption)))⟩
      · skip
        rcases T2.out with ⟨rfl, h3, h4⟩ | ⟨rfl, h3, h4⟩
        · skip
          go_wp2_with fail
          refine (alive_is _).mono ?_
          rintro e w9 ⟨rfl, hb9⟩
          go_wp2
          go_ret
          exact ⟨rfl, (by repeat (first | exact brefl _ | refine balloc ?_ _ | refine bdrewN ?_ _ | refine bset ?_ (by dsimp only; omega) _ | refine bstep ?_ (by assumption)))⟩
        · skip
          subst h1 h3
          have ok1 := K1.out
          have ok2 := K2.out
          have HM := Lib.hid (osc_most ok1)
          have HN := Lib.hid (osc_most ok2)
          have lo1 := osc_low ok1
          have lo2 := osc_low ok2
          obtain ⟨_, _, _, _, b1', b2', m1, v1, v2⟩ := ok1
          obtain ⟨_, _, _, _, _, _, m2, v3, v4⟩ := ok2
          generalize hmm : (t + f k) * xb / 1000000000 = mo at HM v1 v2
          generalize hnn : (t + f k) * yb / 1000000000 = no at HN v3 v4
          have mb := gain_le HM.out
          have nb := gain_le HN.out
          clear hmm hnn
          go_wp2_with fail
          go_region_held3 (fun w' => w'.cell? ⟨w.heap.size, 1, none⟩ = some (.int .i64 xb))
            (go_keep)
            (first | (go_at_call 17; ((with_reducible refine (True_is b1 _ _ _ _ (OscAt.drew oa2)).mono ?_)); rintro e w5 ⟨rfl, hb5⟩; have x3_0 : CellF w5 ⟨w.heap.size, 0, none⟩ (.int .i64 xs) := (by first | exact CellF.keep hb5 x2_0 | exact CellF.keep hb5 (CellF.drew x2_0)); have xc3_0 := x3_0.1; have x3_1 : CellF w5 ⟨w.heap.size, 1, none⟩ (.int .i64 xb) := (by first | exact CellF.keep hb5 x2_1 | exact CellF.keep hb5 (CellF.drew x2_1)); have xc3_1 := x3_1.1; have x3_2 : CellF w5 ⟨(w.heap.size + 1), 0, none⟩ (.int .i64 ys) := (by first | exact CellF.keep hb5 x2_2 | exact CellF.keep hb5 (CellF.drew x2_2)); have xc3_2 := x3_2.1; have x3_3 : CellF w5 ⟨(w.heap.size + 1), 1, none⟩ (.int .i64 yb) := (by first | exact CellF.keep hb5 x2_3 | exact CellF.keep hb5 (CellF.drew x2_3)); have xc3_3 := x3_3.1; have oa3 : OscAt w5 b1 la' (t + f k) xb := (by first | exact OscAt.keep hb5 oa2 | exact OscAt.keep hb5 (OscAt.drew oa2)); have ob3 : OscAt w5 b2 lb' (t + f k) yb := (by first | exact OscAt.keep hb5 ob2 | exact OscAt.keep hb5 (OscAt.drew ob2))) | (go_at_call 14; ((with_reducible refine (Gain_is (t + f k) xb _ _ (by unfold I64; omega) hxb HM _).mono ?_)); rintro e w6 ⟨rfl, hb6⟩; have x4_0 : CellF w6 ⟨w.heap.size, 0, none⟩ (.int .i64 xs) := (by first | exact CellF.keep hb6 x3_0 | exact CellF.keep hb6 (CellF.drew x3_0)); have xc4_0 := x4_0.1; have x4_1 : CellF w6 ⟨w.heap.size, 1, none⟩ (.int .i64 xb) := (by first | exact CellF.keep hb6 x3_1 | exact CellF.keep hb6 (CellF.drew x3_1)); have xc4_1 := x4_1.1; have x4_2 : CellF w6 ⟨(w.heap.size + 1), 0, none⟩ (.int .i64 ys) := (by first | exact CellF.keep hb6 x3_2 | exact CellF.keep hb6 (CellF.drew x3_2)); have xc4_2 := x4_2.1; have x4_3 : CellF w6 ⟨(w.heap.size + 1), 1, none⟩ (.int .i64 yb) := (by first | exact CellF.keep hb6 x3_3 | exact CellF.keep hb6 (CellF.drew x3_3)); have xc4_3 := x4_3.1; have oa4 : OscAt w6 b1 la' (t + f k) xb := (by first | exact OscAt.keep hb6 oa3 | exact OscAt.keep hb6 (OscAt.drew oa3)); have ob4 : OscAt w6 b2 lb' (t + f k) yb := (by first | exact OscAt.keep hb6 ob3 | exact OscAt.keep hb6 (OscAt.drew ob3))))
          go_wp2_with fail
          go_region_held3 (fun w' => w'.cell? ⟨(w.heap.size + 1), 1, none⟩ = some (.int .i64 yb))
            (go_keep)
            (first | (go_at_call 17; ((with_reducible refine (True_is b2 _ _ _ _ (OscAt.drew ob4)).mono ?_)); rintro e w7 ⟨rfl, hb7⟩; have x5_0 : CellF w7 ⟨w.heap.size, 0, none⟩ (.int .i64 xs) := (by first | exact CellF.keep hb7 x4_0 | exact CellF.keep hb7 (CellF.drew x4_0)); have xc5_0 := x5_0.1; have x5_1 : CellF w7 ⟨w.heap.size, 1, none⟩ (.int .i64 xb) := (by first | exact CellF.keep hb7 x4_1 | exact CellF.keep hb7 (CellF.drew x4_1)); have xc5_1 := x5_1.1; have x5_2 : CellF w7 ⟨(w.heap.size + 1), 0, none⟩ (.int .i64 ys) := (by first | exact CellF.keep hb7 x4_2 | exact CellF.keep hb7 (CellF.drew x4_2)); have xc5_2 := x5_2.1; have x5_3 : CellF w7 ⟨(w.heap.size + 1), 1, none⟩ (.int .i64 yb) := (by first | exact CellF.keep hb7 x4_3 | exact CellF.keep hb7 (CellF.drew x4_3)); have xc5_3 := x5_3.1; have oa5 : OscAt w7 b1 la' (t + f k) xb := (by first | exact OscAt.keep hb7 oa4 | exact OscAt.keep hb7 (OscAt.drew oa4)); have ob5 : OscAt w7 b2 lb' (t + f k) yb := (by first | exact OscAt.keep hb7 ob4 | exact OscAt.keep hb7 (OscAt.drew ob4))) | (go_at_call 14; ((with_reducible refine (Gain_is (t + f k) yb _ _ (by unfold I64; omega) hyb HN _).mono ?_)); rintro e w8 ⟨rfl, hb8⟩; have x6_0 : CellF w8 ⟨w.heap.size, 0, none⟩ (.int .i64 xs) := (by first | exact CellF.keep hb8 x5_0 | exact CellF.keep hb8 (CellF.drew x5_0)); have xc6_0 := x6_0.1; have x6_1 : CellF w8 ⟨w.heap.size, 1, none⟩ (.int .i64 xb) := (by first | exact CellF.keep hb8 x5_1 | exact CellF.keep hb8 (CellF.drew x5_1)); have xc6_1 := x6_1.1; have x6_2 : CellF w8 ⟨(w.heap.size + 1), 0, none⟩ (.int .i64 ys) := (by first | exact CellF.keep hb8 x5_2 | exact CellF.keep hb8 (CellF.drew x5_2)); have xc6_2 := x6_2.1; have x6_3 : CellF w8 ⟨(w.heap.size + 1), 1, none⟩ (.int .i64 yb) := (by first | exact CellF.keep hb8 x5_3 | exact CellF.keep hb8 (CellF.drew x5_3)); have xc6_3 := x6_3.1; have oa6 : OscAt w8 b1 la' (t + f k) xb := (by first | exact OscAt.keep hb8 oa5 | exact OscAt.keep hb8 (OscAt.drew oa5)); have ob6 : OscAt w8 b2 lb' (t + f k) yb := (by first | exact OscAt.keep hb8 ob5 | exact OscAt.keep hb8 (OscAt.drew ob5))))
          have hws : IntKind.i64.wrap (xs - ys) = xs - ys := by rw [IntKind.wrap_i64]; omega
          have hwl : IntKind.i64.wrap (la' - lb') = la' - lb' := by rw [IntKind.wrap_i64]; omega
          go_wp2_with fail
          go_region_held3 (fun w' => w'.cell? ⟨w.heap.size, 0, none⟩ = some (.int .i64 xs) ∧ w'.cell? ⟨(w.heap.size + 1), 0, none⟩ = some (.int .i64 ys))
            (go_keep)
            (first | (go_at_call 13; ((with_reducible refine (Local_is b1 _ _ _ _ (OscAt.drew oa6)).mono ?_)); rintro e w9 ⟨rfl, hb9⟩; have x7_0 : CellF w9 ⟨w.heap.size, 0, none⟩ (.int .i64 xs) := (by first | exact CellF.keep hb9 x6_0 | exact CellF.keep hb9 (CellF.drew x6_0)); have xc7_0 := x7_0.1; have x7_1 : CellF w9 ⟨w.heap.size, 1, none⟩ (.int .i64 xb) := (by first | exact CellF.keep hb9 x6_1 | exact CellF.keep hb9 (CellF.drew x6_1)); have xc7_1 := x7_1.1; have x7_2 : CellF w9 ⟨(w.heap.size + 1), 0, none⟩ (.int .i64 ys) := (by first | exact CellF.keep hb9 x6_2 | exact CellF.keep hb9 (CellF.drew x6_2)); have xc7_2 := x7_2.1; have x7_3 : CellF w9 ⟨(w.heap.size + 1), 1, none⟩ (.int .i64 yb) := (by first | exact CellF.keep hb9 x6_3 | exact CellF.keep hb9 (CellF.drew x6_3)); have xc7_3 := x7_3.1; have oa7 : OscAt w9 b1 la' (t + f k) xb := (by first | exact OscAt.keep hb9 oa6 | exact OscAt.keep hb9 (OscAt.drew oa6)); have ob7 : OscAt w9 b2 lb' (t + f k) yb := (by first | exact OscAt.keep hb9 ob6 | exact OscAt.keep hb9 (OscAt.drew ob6))) | (go_at_call 13; ((with_reducible refine (Local_is b2 _ _ _ _ ob7).mono ?_)); rintro e w10 ⟨rfl, hb10⟩; have x8_0 : CellF w10 ⟨w.heap.size, 0, none⟩ (.int .i64 xs) := (by first | exact CellF.keep hb10 x7_0 | exact CellF.keep hb10 (CellF.drew x7_0)); have xc8_0 := x8_0.1; have x8_1 : CellF w10 ⟨w.heap.size, 1, none⟩ (.int .i64 xb) := (by first | exact CellF.keep hb10 x7_1 | exact CellF.keep hb10 (CellF.drew x7_1)); have xc8_1 := x8_1.1; have x8_2 : CellF w10 ⟨(w.heap.size + 1), 0, none⟩ (.int .i64 ys) := (by first | exact CellF.keep hb10 x7_2 | exact CellF.keep hb10 (CellF.drew x7_2)); have xc8_2 := x8_2.1; have x8_3 : CellF w10 ⟨(w.heap.size + 1), 1, none⟩ (.int .i64 yb) := (by first | exact CellF.keep hb10 x7_3 | exact CellF.keep hb10 (CellF.drew x7_3)); have xc8_3 := x8_3.1; have oa8 : OscAt w10 b1 la' (t + f k) xb := (by first | exact OscAt.keep hb10 oa7 | exact OscAt.keep hb10 (OscAt.drew oa7)); have ob8 : OscAt w10 b2 lb' (t + f k) yb := (by first | exact OscAt.keep hb10 ob7 | exact OscAt.keep hb10 (OscAt.drew ob7))))
          have z0 : IntKind.i64.wrap (mo + no) = mo + no := by rw [IntKind.wrap_i64]; omega
          have z1 : la' - lb' - (xs - ys) ≤ mo + no := by omega
          have z2 : xs - ys - (la' - lb') ≤ mo + no := by omega
          clear hws hwl v1 v2 v3 v4 z0
          go_wp2
          go_roundw
          case rel => exact ⟨k + 1, _, _, _, by omega, by go_num, Lib.hid (by repeat (first | exact hw4 | exact brefl _ | refine balloc ?_ _ | refine bdrew ?_ | refine bdrewN ?_ _ | refine bstep ?_ (by assumption))), Lib.hid ⟨oa8, ob8⟩, Lib.hid ⟨K1.out, K2.out⟩, Lib.hid ⟨⟨x8_0, x8_1⟩, ⟨x8_2, x8_3⟩⟩⟩
          case measure => simp [intOf]; omega
    · skip
      have hwr := HB.out
      go_wp2_with fail
      refine (alive_is _).mono ?_
      rintro e w9 ⟨rfl, hb9⟩
      go_wp2
      go_ret
      exact ⟨rfl, (by repeat (first | exact brefl _ | refine balloc ?_ _ | refine bdrewN ?_ _ | refine bset ?_ (by dsimp only; omega) _ | refine bstep ?_ (by assumption)))⟩
end Go.Proofs.Ytdkdckfkhhbfnaa
