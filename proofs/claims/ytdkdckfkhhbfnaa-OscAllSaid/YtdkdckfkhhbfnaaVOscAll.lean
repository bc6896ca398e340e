/-
  The walk of the law OscAll.
-/
import Derived.Test.YtdkdckfkhhbfnaaAlOsc
import Derived.Test.YtdkdckfkhhbfnaaScr
import Derived.Test.YtdkdckfkhhbfnaaRo
import Derived.Deep.RegionHeld3
namespace Go.Proofs.Ytdkdckfkhhbfnaa
open Go.RowKit

/-- What is shown never goes back. -/
theorem go_more {l a bd p q l' a' r : Int} (hg : goP l a bd p q = (l', a', r)) : l ≤ l' := by
  rcases go_cases l a bd p q with e | ⟨n, hn, hq, hp, h1, h2, e⟩
  · rw [e] at hg
    obtain ⟨rfl, rfl, rfl⟩ : l = l' ∧ a = a' ∧ 190 = r := by simpa using hg
    omega
  · rw [e] at hg
    obtain ⟨rfl, rfl, rfl⟩ : l + p + n = l' ∧ a + p = a' ∧ 0 = r := by simpa using hg
    have := gain_le hn
    omega

/-- Three numbers in a block. -/
def PairAt3 (w : World) (b : Nat) (x y z : Int) : Prop := CellF w ⟨b, 0, none⟩ (.int .i64 x) ∧ CellF w ⟨b, 1, none⟩ (.int .i64 y) ∧ CellF w ⟨b, 2, none⟩ (.int .i64 z)
theorem PairAt3.keep {a b : World} {n : Nat} {x y z : Int} (hb : Below a.heap.size a b) (h : PairAt3 a n x y z) : PairAt3 b n x y z := ⟨h.1.keep hb, h.2.1.keep hb, h.2.2.keep hb⟩
theorem triple_sets {a : World} {b : Nat} {x y z x0 y0 z0 : Int} (h : PairAt3 a b x0 y0 z0) :
    PairAt3 (((a.setCell ⟨b, 0, none⟩ (.int .i64 x)).setCell ⟨b, 1, none⟩ (.int .i64 y)).setCell ⟨b, 2, none⟩ (.int .i64 z)) b x y z ∧
    Only b a (((a.setCell ⟨b, 0, none⟩ (.int .i64 x)).setCell ⟨b, 1, none⟩ (.int .i64 y)).setCell ⟨b, 2, none⟩ (.int .i64 z)) := by
  have n4 : ∀ i j : Nat, i ≠ j → (⟨b, i, none⟩ : Addr) ≠ ⟨b, j, none⟩ := fun _ _ hij h => hij (by injection h)
  refine ⟨⟨?_, ?_, ?_⟩, ?_, fun p v hp hh => ?_⟩
  · exact ((h.1.set_same' _).set_other' _ (n4 1 0 (by decide))).set_other' _ (n4 2 0 (by decide))
  · exact ((h.2.1.set_other' _ (n4 0 1 (by decide))).set_same' _).set_other' _ (n4 2 1 (by decide))
  · exact ((h.2.2.set_other' _ (n4 0 2 (by decide))).set_other' _ (n4 1 2 (by decide))).set_same' _
  · exact (((Below.refl b a).setCell (Nat.le_refl _) _).setCell (Nat.le_refl _) _).setCell (Nat.le_refl _) _
  · have n1 : ∀ i, (⟨b, i, none⟩ : Addr) ≠ p := fun i e => hp (by rw [← e])
    exact ((hh.set_other' _ (n1 0)).set_other' _ (n1 1)).set_other' _ (n1 2)
theorem OscAt.drew' {a : World} {n : Nat} {x y z : Int} (h : OscAt a n x y z) : OscAt a.drew n x y z := h
theorem PairAt3.drew' {a : World} {n : Nat} {x y z : Int} (h : PairAt3 a n x y z) : PairAt3 a.drew n x y z := h

set_option maxRecDepth 100000 in
set_option maxHeartbeats 4000000 in
theorem OscAll_walk (s bd : Int) (v : Value) (n : Nat) (f g : Nat → Int) (w : World) (hs : I64 s) (hd : I64 bd) (hv : Script2 w v n f g) :
    Calls Try.prog 3 #[.int .i64 s, .int .i64 bd, v] w fun e w' => e = .returned (.bool true) ∧ Below w.heap.size w w' := by
  obtain ⟨a0, cap, rfl, hn, hnc, hcap, hsc⟩ := hv
  have HSC := Lib.hid hsc
  clear hsc
  by_cases hbad : s < 0 ∨ 2305843009213693952 < s ∨ bd < 0 ∨ 100000000 < bd
  · go_enter Try.func3, Try.ntmps3
    go_wp2_with fail
    refine (New_no s bd hs hd hbad _).mono ?_
    rintro e w1 ⟨rfl, hb1⟩
    go_wp2_with fail
    refine (rNew_no s bd hs hd hbad _).mono ?_
    rintro e w3 ⟨rfl, hb3⟩
    go_wp2_with fail
    refine (alive_is _).mono ?_
    rintro e w2 ⟨rfl, hb2⟩
    go_wp2
    go_ret
    exact ⟨rfl, (by repeat (first | exact brefl _ | refine balloc ?_ _ | refine bdrewN ?_ _ | refine bset ?_ (by dsimp only; omega) _ | refine bstep ?_ (by assumption)))⟩
  have s0 : 0 ≤ s := by omega
  have s1 : s ≤ 2305843009213693952 := by omega
  have d0 : 0 ≤ bd := by omega
  have d1 : bd ≤ 100000000 := by omega
  clear hbad
  by_cases hbig : (1000 : Int) < n
  · go_enter Try.func3, Try.ntmps3
    go_wp2_with fail
    refine (New_yes s bd s0 s1 d0 d1 _).mono ?_
    rintro e w1 ⟨b, rfl, hb1, hwb, ho⟩
    go_wp2_with fail
    refine (rNew_yes s bd s0 s1 d0 d1 _).mono ?_
    rintro e w3 ⟨rfl, hb3⟩
    go_wp2_with fail
    refine (alive_is _).mono ?_
    rintro e w2 ⟨rfl, hb2⟩
    go_wp2
    go_ret
    exact ⟨rfl, (by repeat (first | exact brefl _ | refine balloc ?_ _ | refine bdrewN ?_ _ | refine bset ?_ (by dsimp only; omega) _ | refine bstep ?_ (by assumption)))⟩
  have hn1 : n ≤ 1000 := by omega
  go_enter Try.func3, Try.ntmps3
  go_wp2_with fail
  refine (New_yes s bd s0 s1 d0 d1 _).mono ?_
  rintro e w1 ⟨b, rfl, hb1, hwb, ho⟩
  go_wp2_with fail
  refine (rNew_yes s bd s0 s1 d0 d1 _).mono ?_
  rintro e w2 ⟨rfl, hb2⟩
  have ho' := ho.keep hb2
  have hw2 : Below w.heap.size w w2 := (by repeat (first | exact brefl _ | refine balloc ?_ _ | refine bdrewN ?_ _ | refine bset ?_ (by dsimp only; omega) _ | refine bstep ?_ (by assumption)))
  have hz1 := hb1.size
  have hbw : b < w2.heap.size := ho'.lt
  have hR : ∀ t, PairAt3 (w2.alloc (.cells #[.int .i64 bd, .int .i64 s, .int .i64 0] t)) w2.heap.size bd s 0 := fun t => ⟨CellF.at_ rfl rfl, CellF.at_ rfl rfl, CellF.at_ rfl rfl⟩
  have HR := Lib.hid hR
  clear hR
  have hz2 := hw2.size
  go_wp2
  go_loopw [65] (fun i wr => ∃ (k : Nat) (lo a : Int), k ≤ n ∧ i = .int .i64 k ∧ Hid (Below w.heap.size w wr) ∧ Hid (OscAt wr b lo a bd) ∧ Hid (OscOk s bd lo a) ∧ Hid (PairAt3 wr w2.heap.size bd lo a)) (fun i _ => n - (intOf i).toNat)
  case atStart => exact ⟨0, s, 0, by omega, rfl, Lib.hid (by repeat (first | exact hw2 | refine balloc ?_ _)), Lib.hid (by refine ⟨?_, ?_, ?_⟩ <;> (repeat (first | exact ho'.1 | exact ho'.2.1 | exact ho'.2.2 | refine CellF.past _ ?_))), Lib.hid (osc_new s0 s1 d0 d1), Lib.hid (HR.out _)⟩
  case round =>
    obtain ⟨k, lo, a, hk, rfl, HB, HO, HK, HT⟩ := hrel
    have ok := HK.out
    have low := osc_low ok
    obtain ⟨_, _, _, _, a1, a2, l2, _, _⟩ := ok
    have hwr := HB.out
    have hbr := HO.out.lt
    by_cases hkn : k < n
    · obtain ⟨sb, o, rfl, hsb, hf, hg, c0, c1⟩ := HSC.out k hkn
      have e0 := (hwr.cell (p := ⟨sb, o + k * 2, none⟩) hsb).trans c0
      have e1 := (hwr.cell (p := ⟨sb, o + k * 2 + 1, none⟩) hsb).trans c1
      have r0 := HT.out.1
      have r1 := HT.out.2.1
      have r2 := HT.out.2.2
      have rc0 := r0.1
      have rc1 := r1.1
      have rc2 := r2.1
      have rl := ltc rc0
      clear c0 c1
      obtain ⟨l', a', r, hgo⟩ : ∃ l' a' r, goP lo a bd (f k) (g k) = (l', a', r) := ⟨_, _, _, rfl⟩
      have HG := Lib.hid hgo
      have hok2 := Lib.hid (osc_go HK.out hgo)
      have hmore := go_more hgo
      obtain ⟨m, i, hga⟩ : ∃ m i, gainP (f k) (g k) = (m, i) := ⟨_, _, rfl⟩
      have HA := Lib.hid hga
      clear hgo hga
      have hfk := hf
      have hgk := hg
      unfold I64 at hfk hgk
      go_wp2_with fail
      refine (rGo_is lo a bd (f k) (g k) l' a' r hf hg (by omega) (by omega) a1 a2 d0 d1 HG _).mono ?_
      rintro e w3 ⟨rfl, hb3⟩
      have s3_0 : CellF w3 ⟨wr.heap.size, 0, none⟩ (.int .i64 (f k)) := CellF.keep hb3 (by repeat (first | (with_reducible refine CellF.at_ ?_ rfl; (first | rfl | (simp; done) | (simp [World.size_setCell]; done))) | with_reducible refine CellF.past _ ?_ | with_reducible refine CellF.set_other' _ (fun e => by first | (injection e with e1 e2; omega) | (cases e; done)) ?_ | with_reducible refine CellF.drew ?_))
      have s3_1 : CellF w3 ⟨wr.heap.size, 1, none⟩ (.int .i64 (g k)) := CellF.keep hb3 (by repeat (first | (with_reducible refine CellF.at_ ?_ rfl; (first | rfl | (simp; done) | (simp [World.size_setCell]; done))) | with_reducible refine CellF.past _ ?_ | with_reducible refine CellF.set_other' _ (fun e => by first | (injection e with e1 e2; omega) | (cases e; done)) ?_ | with_reducible refine CellF.drew ?_))
      have r3_0 : CellF w3 ⟨w2.heap.size, 0, none⟩ (.int .i64 bd) := CellF.keep hb3 (by repeat (first | with_reducible exact r0 | (with_reducible refine CellF.at_ ?_ rfl; (first | rfl | (simp; done) | (simp [World.size_setCell]; done))) | with_reducible refine CellF.past _ ?_ | with_reducible refine CellF.set_other' _ (fun e => by first | (injection e with e1 e2; omega) | (cases e; done)) ?_ | with_reducible refine CellF.drew ?_))
      have r3_1 : CellF w3 ⟨w2.heap.size, 1, none⟩ (.int .i64 lo) := CellF.keep hb3 (by repeat (first | with_reducible exact r1 | (with_reducible refine CellF.at_ ?_ rfl; (first | rfl | (simp; done) | (simp [World.size_setCell]; done))) | with_reducible refine CellF.past _ ?_ | with_reducible refine CellF.set_other' _ (fun e => by first | (injection e with e1 e2; omega) | (cases e; done)) ?_ | with_reducible refine CellF.drew ?_))
      have r3_2 : CellF w3 ⟨w2.heap.size, 2, none⟩ (.int .i64 a) := CellF.keep hb3 (by repeat (first | with_reducible exact r2 | (with_reducible refine CellF.at_ ?_ rfl; (first | rfl | (simp; done) | (simp [World.size_setCell]; done))) | with_reducible refine CellF.past _ ?_ | with_reducible refine CellF.set_other' _ (fun e => by first | (injection e with e1 e2; omega) | (cases e; done)) ?_ | with_reducible refine CellF.drew ?_))
      have q0 := HO.out.1
      have q1 := HO.out.2.1
      have q2 := HO.out.2.2
      have o3_0 : CellF w3 ⟨b, 0, none⟩ (.int .i64 lo) := CellF.keep hb3 (by repeat (first | with_reducible exact q0 | (with_reducible refine CellF.at_ ?_ rfl; (first | rfl | (simp; done) | (simp [World.size_setCell]; done))) | with_reducible refine CellF.past _ ?_ | with_reducible refine CellF.set_other' _ (fun e => by first | (injection e with e1 e2; omega) | (cases e; done)) ?_ | with_reducible refine CellF.drew ?_))
      have o3_1 : CellF w3 ⟨b, 1, none⟩ (.int .i64 a) := CellF.keep hb3 (by repeat (first | with_reducible exact q1 | (with_reducible refine CellF.at_ ?_ rfl; (first | rfl | (simp; done) | (simp [World.size_setCell]; done))) | with_reducible refine CellF.past _ ?_ | with_reducible refine CellF.set_other' _ (fun e => by first | (injection e with e1 e2; omega) | (cases e; done)) ?_ | with_reducible refine CellF.drew ?_))
      have o3_2 : CellF w3 ⟨b, 2, none⟩ (.int .i64 bd) := CellF.keep hb3 (by repeat (first | with_reducible exact q2 | (with_reducible refine CellF.at_ ?_ rfl; (first | rfl | (simp; done) | (simp [World.size_setCell]; done))) | with_reducible refine CellF.past _ ?_ | with_reducible refine CellF.set_other' _ (fun e => by first | (injection e with e1 e2; omega) | (cases e; done)) ?_ | with_reducible refine CellF.drew ?_))
      have cs0 := s3_0.1
      have cs1 := s3_1.1
      have cr0 := r3_0.1
      have cr1 := r3_1.1
      have cr2 := r3_2.1
      have fr0 := r3_0.2
      have fr1 := r3_1.2
      have fr2 := r3_2.2
      have nbr : b ≠ w2.heap.size := Nat.ne_of_lt hbw
      have nsr : w2.heap.size < wr.heap.size := rl
      have l3r : w2.heap.size < w3.heap.size := ltc cr0
      have l3s : wr.heap.size < w3.heap.size := ltc cs0
      have l3b : b < w3.heap.size := ltc o3_0.1
      clear e0 e1 r0 r1 r2 rc0 rc1 rc2 q0 q1 q2
      go_wp2_with fail
      refine (Local_is b lo a bd _ ⟨(by repeat (first | with_reducible exact o3_0 | (with_reducible refine CellF.at_ ?_ rfl; (first | rfl | (simp; done) | (simp [World.size_setCell]; done))) | with_reducible refine CellF.past _ ?_ | with_reducible refine CellF.set_other' _ (fun e => by first | (injection e with e1 e2; omega) | (cases e; done)) ?_ | with_reducible refine CellF.drew ?_)), (by repeat (first | with_reducible exact o3_1 | (with_reducible refine CellF.at_ ?_ rfl; (first | rfl | (simp; done) | (simp [World.size_setCell]; done))) | with_reducible refine CellF.past _ ?_ | with_reducible refine CellF.set_other' _ (fun e => by first | (injection e with e1 e2; omega) | (cases e; done)) ?_ | with_reducible refine CellF.drew ?_)), (by repeat (first | with_reducible exact o3_2 | (with_reducible refine CellF.at_ ?_ rfl; (first | rfl | (simp; done) | (simp [World.size_setCell]; done))) | with_reducible refine CellF.past _ ?_ | with_reducible refine CellF.set_other' _ (fun e => by first | (injection e with e1 e2; omega) | (cases e; done)) ?_ | with_reducible refine CellF.drew ?_))⟩).mono ?_
      rintro e w4 ⟨rfl, hb4⟩
      have s4_0 : CellF w4 ⟨wr.heap.size, 0, none⟩ (.int .i64 (f k)) := CellF.keep hb4 (by repeat (first | with_reducible exact s3_0 | (with_reducible refine CellF.at_ ?_ rfl; (first | rfl | (simp; done) | (simp [World.size_setCell]; done))) | with_reducible refine CellF.past _ ?_ | with_reducible refine CellF.set_other' _ (fun e => by first | (injection e with e1 e2; omega) | (cases e; done)) ?_ | with_reducible refine CellF.drew ?_))
      have s4_1 : CellF w4 ⟨wr.heap.size, 1, none⟩ (.int .i64 (g k)) := CellF.keep hb4 (by repeat (first | with_reducible exact s3_1 | (with_reducible refine CellF.at_ ?_ rfl; (first | rfl | (simp; done) | (simp [World.size_setCell]; done))) | with_reducible refine CellF.past _ ?_ | with_reducible refine CellF.set_other' _ (fun e => by first | (injection e with e1 e2; omega) | (cases e; done)) ?_ | with_reducible refine CellF.drew ?_))
      have r4_0 : CellF w4 ⟨w2.heap.size, 0, none⟩ (.int .i64 bd) := CellF.keep hb4 (by repeat (first | with_reducible exact r3_0 | (with_reducible refine CellF.at_ ?_ rfl; (first | rfl | (simp; done) | (simp [World.size_setCell]; done))) | with_reducible refine CellF.past _ ?_ | with_reducible refine CellF.set_same' (u := (.int .i64 bd)) _ ?_ | with_reducible refine CellF.set_other' _ (fun e => by first | (injection e with e1 e2; omega) | (cases e; done)) ?_ | with_reducible refine CellF.drew ?_))
      have r4_1 : CellF w4 ⟨w2.heap.size, 1, none⟩ (.int .i64 l') := CellF.keep hb4 (by repeat (first | with_reducible exact r3_1 | (with_reducible refine CellF.at_ ?_ rfl; (first | rfl | (simp; done) | (simp [World.size_setCell]; done))) | with_reducible refine CellF.past _ ?_ | with_reducible refine CellF.set_same' (u := (.int .i64 lo)) _ ?_ | with_reducible refine CellF.set_other' _ (fun e => by first | (injection e with e1 e2; omega) | (cases e; done)) ?_ | with_reducible refine CellF.drew ?_))
      have r4_2 : CellF w4 ⟨w2.heap.size, 2, none⟩ (.int .i64 a') := CellF.keep hb4 (by repeat (first | with_reducible exact r3_2 | (with_reducible refine CellF.at_ ?_ rfl; (first | rfl | (simp; done) | (simp [World.size_setCell]; done))) | with_reducible refine CellF.past _ ?_ | with_reducible refine CellF.set_same' (u := (.int .i64 a)) _ ?_ | with_reducible refine CellF.set_other' _ (fun e => by first | (injection e with e1 e2; omega) | (cases e; done)) ?_ | with_reducible refine CellF.drew ?_))
      have o4_0 : CellF w4 ⟨b, 0, none⟩ (.int .i64 lo) := CellF.keep hb4 (by repeat (first | with_reducible exact o3_0 | (with_reducible refine CellF.at_ ?_ rfl; (first | rfl | (simp; done) | (simp [World.size_setCell]; done))) | with_reducible refine CellF.past _ ?_ | with_reducible refine CellF.set_other' _ (fun e => by first | (injection e with e1 e2; omega) | (cases e; done)) ?_ | with_reducible refine CellF.drew ?_))
      have o4_1 : CellF w4 ⟨b, 1, none⟩ (.int .i64 a) := CellF.keep hb4 (by repeat (first | with_reducible exact o3_1 | (with_reducible refine CellF.at_ ?_ rfl; (first | rfl | (simp; done) | (simp [World.size_setCell]; done))) | with_reducible refine CellF.past _ ?_ | with_reducible refine CellF.set_other' _ (fun e => by first | (injection e with e1 e2; omega) | (cases e; done)) ?_ | with_reducible refine CellF.drew ?_))
      have o4_2 : CellF w4 ⟨b, 2, none⟩ (.int .i64 bd) := CellF.keep hb4 (by repeat (first | with_reducible exact o3_2 | (with_reducible refine CellF.at_ ?_ rfl; (first | rfl | (simp; done) | (simp [World.size_setCell]; done))) | with_reducible refine CellF.past _ ?_ | with_reducible refine CellF.set_other' _ (fun e => by first | (injection e with e1 e2; omega) | (cases e; done)) ?_ | with_reducible refine CellF.drew ?_))
      have ds0 := s4_0.1
      have ds1 := s4_1.1
      have dr0 := r4_0.1
      have dr1 := r4_1.1
      have dr2 := r4_2.1
      have hw3 : Below w.heap.size w w3 := bstep (balloc hwr _) hb3
      have hw4 : Below w.heap.size w w4 := by
        refine bstep ?_ hb4
        repeat (first | with_reducible exact hw3 | refine balloc ?_ _ | refine bset ?_ (by dsimp only; omega) _)
      clear s3_0 s3_1 r3_0 r3_1 r3_2 o3_0 o3_1 o3_2 cs0 cs1 cr0 cr1 cr2 fr0 fr1 fr2
      go_wp2_with fail
      refine (Gain_is (f k) (g k) _ _ hf hg HA _).mono ?_
      rintro e w5 ⟨rfl, hb5⟩
      have s5_0 : CellF w5 ⟨wr.heap.size, 0, none⟩ (.int .i64 (f k)) := CellF.keep hb5 s4_0
      have s5_1 : CellF w5 ⟨wr.heap.size, 1, none⟩ (.int .i64 (g k)) := CellF.keep hb5 s4_1
      have r5_0 : CellF w5 ⟨w2.heap.size, 0, none⟩ (.int .i64 bd) := CellF.keep hb5 r4_0
      have r5_1 : CellF w5 ⟨w2.heap.size, 1, none⟩ (.int .i64 l') := CellF.keep hb5 r4_1
      have r5_2 : CellF w5 ⟨w2.heap.size, 2, none⟩ (.int .i64 a') := CellF.keep hb5 r4_2
      have o5_0 : CellF w5 ⟨b, 0, none⟩ (.int .i64 lo) := CellF.keep hb5 o4_0
      have o5_1 : CellF w5 ⟨b, 1, none⟩ (.int .i64 a) := CellF.keep hb5 o4_1
      have o5_2 : CellF w5 ⟨b, 2, none⟩ (.int .i64 bd) := CellF.keep hb5 o4_2
      have ds5_0 := s5_0.1
      have ds5_1 := s5_1.1
      have dr5_0 := r5_0.1
      have dr5_1 := r5_1.1
      have dr5_2 := r5_2.1
      go_wp2_with fail
      refine (rGain_is (f k) (g k) _ _ hf hg HA _).mono ?_
      rintro e w6 ⟨rfl, hb6⟩
      have s6_0 : CellF w6 ⟨wr.heap.size, 0, none⟩ (.int .i64 (f k)) := CellF.keep hb6 s5_0
      have s6_1 : CellF w6 ⟨wr.heap.size, 1, none⟩ (.int .i64 (g k)) := CellF.keep hb6 s5_1
      have r6_0 : CellF w6 ⟨w2.heap.size, 0, none⟩ (.int .i64 bd) := CellF.keep hb6 r5_0
      have r6_1 : CellF w6 ⟨w2.heap.size, 1, none⟩ (.int .i64 l') := CellF.keep hb6 r5_1
      have r6_2 : CellF w6 ⟨w2.heap.size, 2, none⟩ (.int .i64 a') := CellF.keep hb6 r5_2
      have o6_0 : CellF w6 ⟨b, 0, none⟩ (.int .i64 lo) := CellF.keep hb6 o5_0
      have o6_1 : CellF w6 ⟨b, 1, none⟩ (.int .i64 a) := CellF.keep hb6 o5_1
      have o6_2 : CellF w6 ⟨b, 2, none⟩ (.int .i64 bd) := CellF.keep hb6 o5_2
      have ds6_0 := s6_0.1
      have ds6_1 := s6_1.1
      have dr6_0 := r6_0.1
      have dr6_1 := r6_1.1
      have dr6_2 := r6_2.1
      have la0 : 0 ≤ lo := by omega
      have HOd : OscAt w6.drew b lo a bd := ⟨o6_0, o6_1, o6_2⟩
      have nSb : wr.heap.size ≠ b := Nat.ne_of_gt hbr
      have nRb : w2.heap.size ≠ b := fun e => nbr e.symm
      have nd := decide_eq_false (Int.not_lt.2 hmore)
      clear ds0 ds1 dr0 dr1 dr2 ds5_0 ds5_1 dr5_0 dr5_1 dr5_2
      go_wp2_with fail
      go_region_held3 (fun w' => w'.cell? ⟨wr.heap.size, 0, none⟩ = some (.int .i64 (f k)) ∧ w'.cell? ⟨wr.heap.size, 1, none⟩ = some (.int .i64 (g k)) ∧ w'.cell? ⟨w2.heap.size, 1, none⟩ = some (.int .i64 l') ∧ w'.cell? ⟨w2.heap.size, 2, none⟩ = some (.int .i64 a'))
        (go_keep)
        (first | (go_at_call 16; ((with_reducible refine (Go_is b lo a bd (f k) (g k) l' a' r hf hg la0 l2 a1 a2 HG _ HOd).mono ?_)); rintro e w7 ⟨rfl, on7, ho7⟩; have s7_0 : CellF w7 ⟨wr.heap.size, 0, none⟩ (.int .i64 (f k)) := on7.2 _ _ nSb (CellF.drew s6_0); have ds7_0 := s7_0.1; have s7_1 : CellF w7 ⟨wr.heap.size, 1, none⟩ (.int .i64 (g k)) := on7.2 _ _ nSb (CellF.drew s6_1); have ds7_1 := s7_1.1; have r7_0 : CellF w7 ⟨w2.heap.size, 0, none⟩ (.int .i64 bd) := on7.2 _ _ nRb (CellF.drew r6_0); have dr7_0 := r7_0.1; have r7_1 : CellF w7 ⟨w2.heap.size, 1, none⟩ (.int .i64 l') := on7.2 _ _ nRb (CellF.drew r6_1); have dr7_1 := r7_1.1; have r7_2 : CellF w7 ⟨w2.heap.size, 2, none⟩ (.int .i64 a') := on7.2 _ _ nRb (CellF.drew r6_2); have dr7_2 := r7_2.1) | (go_at_call 13; ((with_reducible refine (Local_is b l' a' bd w7 ho7).mono ?_)); rintro e w8 ⟨rfl, hb8⟩; have ho8 : OscAt w8 b l' a' bd := OscAt.keep hb8 ho7; have s8_0 : CellF w8 ⟨wr.heap.size, 0, none⟩ (.int .i64 (f k)) := CellF.keep hb8 s7_0; have ds8_0 := s8_0.1; have s8_1 : CellF w8 ⟨wr.heap.size, 1, none⟩ (.int .i64 (g k)) := CellF.keep hb8 s7_1; have ds8_1 := s8_1.1; have r8_0 : CellF w8 ⟨w2.heap.size, 0, none⟩ (.int .i64 bd) := CellF.keep hb8 r7_0; have dr8_0 := r8_0.1; have r8_1 : CellF w8 ⟨w2.heap.size, 1, none⟩ (.int .i64 l') := CellF.keep hb8 r7_1; have dr8_1 := r8_1.1; have r8_2 : CellF w8 ⟨w2.heap.size, 2, none⟩ (.int .i64 a') := CellF.keep hb8 r7_2; have dr8_2 := r8_2.1) | (go_at_call 17; ((with_reducible refine (True_is b l' a' bd w8 ho8).mono ?_)); rintro e w9 ⟨rfl, hb9⟩; have ho9 : OscAt w9 b l' a' bd := OscAt.keep hb9 ho8; have s9_0 : CellF w9 ⟨wr.heap.size, 0, none⟩ (.int .i64 (f k)) := CellF.keep hb9 s8_0; have ds9_0 := s9_0.1; have s9_1 : CellF w9 ⟨wr.heap.size, 1, none⟩ (.int .i64 (g k)) := CellF.keep hb9 s8_1; have ds9_1 := s9_1.1; have r9_0 : CellF w9 ⟨w2.heap.size, 0, none⟩ (.int .i64 bd) := CellF.keep hb9 r8_0; have dr9_0 := r9_0.1; have r9_1 : CellF w9 ⟨w2.heap.size, 1, none⟩ (.int .i64 l') := CellF.keep hb9 r8_1; have dr9_1 := r9_1.1; have r9_2 : CellF w9 ⟨w2.heap.size, 2, none⟩ (.int .i64 a') := CellF.keep hb9 r8_2; have dr9_2 := r9_2.1) | (go_at_call 13; ((with_reducible refine (Local_is b l' a' bd w9 ho9).mono ?_)); rintro e w10 ⟨rfl, hb10⟩; have ho10 : OscAt w10 b l' a' bd := OscAt.keep hb10 ho9; have s10_0 : CellF w10 ⟨wr.heap.size, 0, none⟩ (.int .i64 (f k)) := CellF.keep hb10 s9_0; have ds10_0 := s10_0.1; have s10_1 : CellF w10 ⟨wr.heap.size, 1, none⟩ (.int .i64 (g k)) := CellF.keep hb10 s9_1; have ds10_1 := s10_1.1; have r10_0 : CellF w10 ⟨w2.heap.size, 0, none⟩ (.int .i64 bd) := CellF.keep hb10 r9_0; have dr10_0 := r10_0.1; have r10_1 : CellF w10 ⟨w2.heap.size, 1, none⟩ (.int .i64 l') := CellF.keep hb10 r9_1; have dr10_1 := r10_1.1; have r10_2 : CellF w10 ⟨w2.heap.size, 2, none⟩ (.int .i64 a') := CellF.keep hb10 r9_2; have dr10_2 := r10_2.1))
      have hw6 : Below w.heap.size w w6 := bstep (bstep hw4 hb5) hb6
      have hw10 : Below w.heap.size w w10 := by
        have g7 := on7.1
        refine bstep (bstep (bstep (Below.trans (bdrew hw6) (g7.mono hwb)) hb8) hb9) hb10
      go_wp2
      go_roundw
      case rel => exact ⟨k + 1, _, _, by omega, by go_num, Lib.hid hw10, Lib.hid ho10, hok2, Lib.hid ⟨r10_0, r10_1, r10_2⟩⟩
      case measure => simp [intOf]; omega
    · go_wp2_with fail
      refine (alive_is _).mono ?_
      rintro e w3 ⟨rfl, hb3⟩
      go_wp2
      go_ret
      exact ⟨rfl, (by repeat (first | exact brefl _ | refine balloc ?_ _ | refine bdrewN ?_ _ | refine bset ?_ (by dsimp only; omega) _ | refine bstep ?_ (by assumption)))⟩
end Go.Proofs.Ytdkdckfkhhbfnaa
