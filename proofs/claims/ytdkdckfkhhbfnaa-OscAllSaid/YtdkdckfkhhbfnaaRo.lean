/-
  The walks of the document's oscillators: Gain, New, Go.
-/
import Derived.Test.YtdkdckfkhhbfnaaRfo
import Derived.Test.YtdkdckfkhhbfnaaAlOsc
namespace Go.Proofs.Ytdkdckfkhhbfnaa
open Go.RowKit

theorem rGain_is (p q x : Int) (i : Bool) (hp : I64 p) (hq : I64 q) (H : Hid (gainP p q = (x, i))) (w : World) :
    Calls Try.prog 15 #[.int .i64 p, .int .i64 q] w fun e w' => e = .returned (.tuple #[.int .i64 x, .bool i]) ∧ Below w.heap.size w w' := by
  have hx := H.out
  clear H
  unfold I64 at hp hq
  by_cases h1 : p < 0
  · rw [gain_no (.inl h1)] at hx
    obtain ⟨rfl, rfl⟩ := Prod.mk.inj hx
    clear hx
    go_enter Try.func15, Try.ntmps15
    go_wp2
    go_ret2
    exact ⟨rfl, (by repeat (first | exact brefl _ | refine balloc ?_ _ | refine bdrewN ?_ _ | refine bset ?_ (by dsimp only; omega) _ | refine bstep ?_ (by assumption)))⟩
  by_cases h2 : q < -1000000000
  · rw [gain_no (.inr (.inl h2))] at hx
    obtain ⟨rfl, rfl⟩ := Prod.mk.inj hx
    clear hx
    go_enter Try.func15, Try.ntmps15
    go_wp2
    go_ret2
    exact ⟨rfl, (by repeat (first | exact brefl _ | refine balloc ?_ _ | refine bdrewN ?_ _ | refine bset ?_ (by dsimp only; omega) _ | refine bstep ?_ (by assumption)))⟩
  by_cases h3 : 1000000000 < q
  · rw [gain_no (.inr (.inr h3))] at hx
    obtain ⟨rfl, rfl⟩ := Prod.mk.inj hx
    clear hx
    go_enter Try.func15, Try.ntmps15
    go_wp2
    go_ret2
    exact ⟨rfl, (by repeat (first | exact brefl _ | refine balloc ?_ _ | refine bdrewN ?_ _ | refine bset ?_ (by dsimp only; omega) _ | refine bstep ?_ (by assumption)))⟩
  have ha := abs_mid (q := q) (by omega) (by omega)
  by_cases h4 : q < 0
  · rw [if_pos h4] at ha
    obtain ⟨y, j, hf⟩ : ∃ y j, floorP p (-q) 1000000000 = (y, j) := ⟨_, _, rfl⟩
    have hb := floor_bd hf
    have HF := Lib.hid hf
    rw [← ha] at hf
    rw [gain_neg (by omega) (by omega) (by omega) h4 hf] at hx
    obtain ⟨rfl, rfl⟩ := Prod.mk.inj hx
    clear hx hf ha
    go_enter Try.func15, Try.ntmps15
    go_wp2_with fail
    refine (rFloor_is _ _ _ _ _ HF _).mono ?_
    rintro e w1 ⟨rfl, hb1⟩
    go_wp2
    go_ret2
    exact ⟨rfl, (by repeat (first | exact brefl _ | refine balloc ?_ _ | refine bdrewN ?_ _ | refine bset ?_ (by dsimp only; omega) _ | refine bstep ?_ (by assumption)))⟩
  · rw [if_neg h4] at ha
    obtain ⟨y, j, hf⟩ : ∃ y j, floorP p q 1000000000 = (y, j) := ⟨_, _, rfl⟩
    have HF := Lib.hid hf
    rw [← ha] at hf
    rw [gain_pos (by omega) (by omega) (by omega) (by omega) hf] at hx
    obtain ⟨rfl, rfl⟩ := Prod.mk.inj hx
    clear hx hf ha
    go_enter Try.func15, Try.ntmps15
    go_wp2_with fail
    refine (rFloor_is _ _ _ _ _ HF _).mono ?_
    rintro e w1 ⟨rfl, hb1⟩
    go_wp2
    go_ret2
    exact ⟨rfl, (by repeat (first | exact brefl _ | refine balloc ?_ _ | refine bdrewN ?_ _ | refine bset ?_ (by dsimp only; omega) _ | refine bstep ?_ (by assumption)))⟩

theorem rNew_no (s bd : Int) (hs : I64 s) (hb : I64 bd) (h : s < 0 ∨ 2305843009213693952 < s ∨ bd < 0 ∨ 100000000 < bd) (w : World) :
    Calls Try.prog 10 #[.int .i64 s, .int .i64 bd] w fun e w' => e = .returned (.tuple #[.agg #[.int .i64 0, .int .i64 0, .int .i64 0], .bool false]) ∧ Below w.heap.size w w' := by
  unfold I64 at hs hb
  by_cases h1 : s < 0
  · clear h
    go_enter Try.func10, Try.ntmps10
    go_wp2
    exact bodyPost_ret (v := .tuple #[.agg #[.int .i64 0, .int .i64 0, .int .i64 0], .bool false]) (by simp [results, Try.results10, go_sem]) rfl ⟨rfl, (by repeat (first | exact brefl _ | refine balloc ?_ _ | refine bdrewN ?_ _ | refine bset ?_ (by dsimp only; omega) _ | refine bstep ?_ (by assumption)))⟩
  have ha := Int.not_lt.1 h1
  clear h1
  by_cases h1 : 2305843009213693952 < s
  · clear h
    go_enter Try.func10, Try.ntmps10
    go_wp2
    exact bodyPost_ret (v := .tuple #[.agg #[.int .i64 0, .int .i64 0, .int .i64 0], .bool false]) (by simp [results, Try.results10, go_sem]) rfl ⟨rfl, (by repeat (first | exact brefl _ | refine balloc ?_ _ | refine bdrewN ?_ _ | refine bset ?_ (by dsimp only; omega) _ | refine bstep ?_ (by assumption)))⟩
  have hb := Int.not_lt.1 h1
  clear h1
  by_cases h1 : bd < 0
  · clear h
    go_enter Try.func10, Try.ntmps10
    go_wp2
    exact bodyPost_ret (v := .tuple #[.agg #[.int .i64 0, .int .i64 0, .int .i64 0], .bool false]) (by simp [results, Try.results10, go_sem]) rfl ⟨rfl, (by repeat (first | exact brefl _ | refine balloc ?_ _ | refine bdrewN ?_ _ | refine bset ?_ (by dsimp only; omega) _ | refine bstep ?_ (by assumption)))⟩
  have hc := Int.not_lt.1 h1
  clear h1
  have h4 : 100000000 < bd := by omega
  clear h
  go_enter Try.func10, Try.ntmps10
  go_wp2
  exact bodyPost_ret (v := .tuple #[.agg #[.int .i64 0, .int .i64 0, .int .i64 0], .bool false]) (by simp [results, Try.results10, go_sem]) rfl ⟨rfl, (by repeat (first | exact brefl _ | refine balloc ?_ _ | refine bdrewN ?_ _ | refine bset ?_ (by dsimp only; omega) _ | refine bstep ?_ (by assumption)))⟩

theorem rNew_yes (s bd : Int) (h1 : 0 ≤ s) (h2 : s ≤ 2305843009213693952) (h3 : 0 ≤ bd) (h4 : bd ≤ 100000000) (w : World) :
    Calls Try.prog 10 #[.int .i64 s, .int .i64 bd] w fun e w' => e = .returned (.tuple #[.agg #[.int .i64 bd, .int .i64 s, .int .i64 0], .bool true]) ∧ Below w.heap.size w w' := by
  go_enter Try.func10, Try.ntmps10
  go_wp2
  exact bodyPost_ret (v := .tuple #[.agg #[.int .i64 bd, .int .i64 s, .int .i64 0], .bool true]) (by simp [results, Try.results10, go_sem]) rfl ⟨rfl, (by repeat (first | exact brefl _ | refine balloc ?_ _ | refine bdrewN ?_ _ | refine bset ?_ (by dsimp only; omega) _ | refine bstep ?_ (by assumption)))⟩

set_option maxHeartbeats 2000000 in
theorem rGo_is (l a bd p q l' a' r : Int) (hp : I64 p) (hq : I64 q) (hl0 : 0 ≤ l) (hl1 : l ≤ 2305843009213693952) (ha0 : 0 ≤ a) (ha1 : a ≤ 2305843009213693952) (hd0 : 0 ≤ bd) (hd1 : bd ≤ 100000000) (H : Hid (goP l a bd p q = (l', a', r))) (w : World) :
    Calls Try.prog 12 #[.agg #[.int .i64 bd, .int .i64 l, .int .i64 a], .int .i64 p, .int .i64 q] w fun e w' => e = .returned (.tuple #[.agg #[.int .i64 bd, .int .i64 l', .int .i64 a'], .int .i64 r]) ∧ Below w.heap.size w w' := by
  have hx := H.out
  clear H
  obtain ⟨n, i, hg⟩ : ∃ n i, gainP p q = (n, i) := ⟨_, _, rfl⟩
  have HG := Lib.hid hg
  have hnb := gain_bd hg
  have hp' := hp
  have hq' := hq
  unfold I64 at hp' hq'
  cases i with
  | false =>
    obtain ⟨rfl, rfl, rfl⟩ : l = l' ∧ a = a' ∧ 190 = r := by unfold goP at hx; rw [hg] at hx; rw [if_pos (.inl rfl)] at hx; simpa using hx
    clear hx hg
    go_enter Try.func12, Try.ntmps12
    go_wp2_with fail
    refine (rGain_is _ _ _ _ hp hq HG _).mono ?_
    rintro e w1 ⟨rfl, hb1⟩
    have q1_1_0 : CellF w1 ⟨w.heap.size, 0, none⟩ (.int .i64 bd) := (by refine CellF.keep hb1 ?_; (first | ((repeat (first | (with_reducible refine CellF.at_ ?_ rfl; (first | rfl | (simp; done))) | with_reducible refine CellF.past _ ?_ | with_reducible refine CellF.drew ?_ | with_reducible refine CellF.drewN _ ?_)); done) | (refine ⟨?_, ?_⟩ <;> go_simp)))
    have c1_1_0 := q1_1_0.1
    have q1_1_1 : CellF w1 ⟨w.heap.size, 1, none⟩ (.int .i64 l) := (by refine CellF.keep hb1 ?_; (first | ((repeat (first | (with_reducible refine CellF.at_ ?_ rfl; (first | rfl | (simp; done))) | with_reducible refine CellF.past _ ?_ | with_reducible refine CellF.drew ?_ | with_reducible refine CellF.drewN _ ?_)); done) | (refine ⟨?_, ?_⟩ <;> go_simp)))
    have c1_1_1 := q1_1_1.1
    have q1_1_2 : CellF w1 ⟨w.heap.size, 2, none⟩ (.int .i64 a) := (by refine CellF.keep hb1 ?_; (first | ((repeat (first | (with_reducible refine CellF.at_ ?_ rfl; (first | rfl | (simp; done))) | with_reducible refine CellF.past _ ?_ | with_reducible refine CellF.drew ?_ | with_reducible refine CellF.drewN _ ?_)); done) | (refine ⟨?_, ?_⟩ <;> go_simp)))
    have c1_1_2 := q1_1_2.1
    have z1_1 : w.heap.size < w1.heap.size := ltc c1_1_0
    have q1_2_0 : CellF w1 ⟨(w.heap.size + 1), 0, none⟩ (.int .i64 0) := (by refine CellF.keep hb1 ?_; (first | ((repeat (first | (with_reducible refine CellF.at_ ?_ rfl; (first | rfl | (simp; done))) | with_reducible refine CellF.past _ ?_ | with_reducible refine CellF.drew ?_ | with_reducible refine CellF.drewN _ ?_)); done) | (refine ⟨?_, ?_⟩ <;> go_simp)))
    have c1_2_0 := q1_2_0.1
    have q1_2_1 : CellF w1 ⟨(w.heap.size + 1), 1, none⟩ (.int .i64 0) := (by refine CellF.keep hb1 ?_; (first | ((repeat (first | (with_reducible refine CellF.at_ ?_ rfl; (first | rfl | (simp; done))) | with_reducible refine CellF.past _ ?_ | with_reducible refine CellF.drew ?_ | with_reducible refine CellF.drewN _ ?_)); done) | (refine ⟨?_, ?_⟩ <;> go_simp)))
    have c1_2_1 := q1_2_1.1
    have q1_2_2 : CellF w1 ⟨(w.heap.size + 1), 2, none⟩ (.int .i64 0) := (by refine CellF.keep hb1 ?_; (first | ((repeat (first | (with_reducible refine CellF.at_ ?_ rfl; (first | rfl | (simp; done))) | with_reducible refine CellF.past _ ?_ | with_reducible refine CellF.drew ?_ | with_reducible refine CellF.drewN _ ?_)); done) | (refine ⟨?_, ?_⟩ <;> go_simp)))
    have c1_2_2 := q1_2_2.1
    have z1_2 : (w.heap.size + 1) < w1.heap.size := ltc c1_2_0
    have f1_2_0 := q1_2_0.2
    have f1_2_1 := q1_2_1.2
    have f1_2_2 := q1_2_2.2
    go_wp2
    all_goals exact bodyPost_ret (v := .tuple #[.agg #[.int .i64 bd, .int .i64 l, .int .i64 a], .int .i64 190]) (by simp [results, Try.results12, go_sem, c1_2_0, c1_2_1, c1_2_2]) rfl ⟨rfl, (by repeat (first | exact brefl _ | refine balloc ?_ _ | refine bdrewN ?_ _ | refine bset ?_ (by dsimp only; omega) _ | refine bstep ?_ (by assumption)))⟩
  | true =>
    obtain ⟨g1, g2, g3, _, gn⟩ := gain_true hg
    clear gn
    have hle := gain_le hg
    have hab := abs_mid g2 g3
    by_cases z1 : bd < q
    ·
      obtain ⟨rfl, rfl, rfl⟩ : l = l' ∧ a = a' ∧ 190 = r := by unfold goP at hx; rw [hg] at hx; rw [if_pos (.inr (.inl (by rw [hab]; split <;> omega)))] at hx; simpa using hx
      clear hx hg
      go_enter Try.func12, Try.ntmps12
      go_wp2_with fail
      refine (rGain_is _ _ _ _ hp hq HG _).mono ?_
      rintro e w1 ⟨rfl, hb1⟩
      have q1_1_0 : CellF w1 ⟨w.heap.size, 0, none⟩ (.int .i64 bd) := (by refine CellF.keep hb1 ?_; (first | ((repeat (first | (with_reducible refine CellF.at_ ?_ rfl; (first | rfl | (simp; done))) | with_reducible refine CellF.past _ ?_ | with_reducible refine CellF.drew ?_ | with_reducible refine CellF.drewN _ ?_)); done) | (refine ⟨?_, ?_⟩ <;> go_simp)))
      have c1_1_0 := q1_1_0.1
      have q1_1_1 : CellF w1 ⟨w.heap.size, 1, none⟩ (.int .i64 l) := (by refine CellF.keep hb1 ?_; (first | ((repeat (first | (with_reducible refine CellF.at_ ?_ rfl; (first | rfl | (simp; done))) | with_reducible refine CellF.past _ ?_ | with_reducible refine CellF.drew ?_ | with_reducible refine CellF.drewN _ ?_)); done) | (refine ⟨?_, ?_⟩ <;> go_simp)))
      have c1_1_1 := q1_1_1.1
      have q1_1_2 : CellF w1 ⟨w.heap.size, 2, none⟩ (.int .i64 a) := (by refine CellF.keep hb1 ?_; (first | ((repeat (first | (with_reducible refine CellF.at_ ?_ rfl; (first | rfl | (simp; done))) | with_reducible refine CellF.past _ ?_ | with_reducible refine CellF.drew ?_ | with_reducible refine CellF.drewN _ ?_)); done) | (refine ⟨?_, ?_⟩ <;> go_simp)))
      have c1_1_2 := q1_1_2.1
      have z1_1 : w.heap.size < w1.heap.size := ltc c1_1_0
      have q1_2_0 : CellF w1 ⟨(w.heap.size + 1), 0, none⟩ (.int .i64 0) := (by refine CellF.keep hb1 ?_; (first | ((repeat (first | (with_reducible refine CellF.at_ ?_ rfl; (first | rfl | (simp; done))) | with_reducible refine CellF.past _ ?_ | with_reducible refine CellF.drew ?_ | with_reducible refine CellF.drewN _ ?_)); done) | (refine ⟨?_, ?_⟩ <;> go_simp)))
      have c1_2_0 := q1_2_0.1
      have q1_2_1 : CellF w1 ⟨(w.heap.size + 1), 1, none⟩ (.int .i64 0) := (by refine CellF.keep hb1 ?_; (first | ((repeat (first | (with_reducible refine CellF.at_ ?_ rfl; (first | rfl | (simp; done))) | with_reducible refine CellF.past _ ?_ | with_reducible refine CellF.drew ?_ | with_reducible refine CellF.drewN _ ?_)); done) | (refine ⟨?_, ?_⟩ <;> go_simp)))
      have c1_2_1 := q1_2_1.1
      have q1_2_2 : CellF w1 ⟨(w.heap.size + 1), 2, none⟩ (.int .i64 0) := (by refine CellF.keep hb1 ?_; (first | ((repeat (first | (with_reducible refine CellF.at_ ?_ rfl; (first | rfl | (simp; done))) | with_reducible refine CellF.past _ ?_ | with_reducible refine CellF.drew ?_ | with_reducible refine CellF.drewN _ ?_)); done) | (refine ⟨?_, ?_⟩ <;> go_simp)))
      have c1_2_2 := q1_2_2.1
      have z1_2 : (w.heap.size + 1) < w1.heap.size := ltc c1_2_0
      have f1_2_0 := q1_2_0.2
      have f1_2_1 := q1_2_1.2
      have f1_2_2 := q1_2_2.2
      go_wp2
      all_goals exact bodyPost_ret (v := .tuple #[.agg #[.int .i64 bd, .int .i64 l, .int .i64 a], .int .i64 190]) (by simp [results, Try.results12, go_sem, c1_2_0, c1_2_1, c1_2_2]) rfl ⟨rfl, (by repeat (first | exact brefl _ | refine balloc ?_ _ | refine bdrewN ?_ _ | refine bset ?_ (by dsimp only; omega) _ | refine bstep ?_ (by assumption)))⟩
    have y1 := Int.not_lt.1 z1
    clear z1
    by_cases z2 : q < -bd
    ·
      obtain ⟨rfl, rfl, rfl⟩ : l = l' ∧ a = a' ∧ 190 = r := by unfold goP at hx; rw [hg] at hx; rw [if_pos (.inr (.inl (by rw [hab]; split <;> omega)))] at hx; simpa using hx
      clear hx hg
      go_enter Try.func12, Try.ntmps12
      go_wp2_with fail
      refine (rGain_is _ _ _ _ hp hq HG _).mono ?_
      rintro e w1 ⟨rfl, hb1⟩
      have q1_1_0 : CellF w1 ⟨w.heap.size, 0, none⟩ (.int .i64 bd) := (by refine CellF.keep hb1 ?_; (first | ((repeat (first | (with_reducible refine CellF.at_ ?_ rfl; (first | rfl | (simp; done))) | with_reducible refine CellF.past _ ?_ | with_reducible refine CellF.drew ?_ | with_reducible refine CellF.drewN _ ?_)); done) | (refine ⟨?_, ?_⟩ <;> go_simp)))
      have c1_1_0 := q1_1_0.1
      have q1_1_1 : CellF w1 ⟨w.heap.size, 1, none⟩ (.int .i64 l) := (by refine CellF.keep hb1 ?_; (first | ((repeat (first | (with_reducible refine CellF.at_ ?_ rfl; (first | rfl | (simp; done))) | with_reducible refine CellF.past _ ?_ | with_reducible refine CellF.drew ?_ | with_reducible refine CellF.drewN _ ?_)); done) | (refine ⟨?_, ?_⟩ <;> go_simp)))
      have c1_1_1 := q1_1_1.1
      have q1_1_2 : CellF w1 ⟨w.heap.size, 2, none⟩ (.int .i64 a) := (by refine CellF.keep hb1 ?_; (first | ((repeat (first | (with_reducible refine CellF.at_ ?_ rfl; (first | rfl | (simp; done))) | with_reducible refine CellF.past _ ?_ | with_reducible refine CellF.drew ?_ | with_reducible refine CellF.drewN _ ?_)); done) | (refine ⟨?_, ?_⟩ <;> go_simp)))
      have c1_1_2 := q1_1_2.1
      have z1_1 : w.heap.size < w1.heap.size := ltc c1_1_0
      have q1_2_0 : CellF w1 ⟨(w.heap.size + 1), 0, none⟩ (.int .i64 0) := (by refine CellF.keep hb1 ?_; (first | ((repeat (first | (with_reducible refine CellF.at_ ?_ rfl; (first | rfl | (simp; done))) | with_reducible refine CellF.past _ ?_ | with_reducible refine CellF.drew ?_ | with_reducible refine CellF.drewN _ ?_)); done) | (refine ⟨?_, ?_⟩ <;> go_simp)))
      have c1_2_0 := q1_2_0.1
      have q1_2_1 : CellF w1 ⟨(w.heap.size + 1), 1, none⟩ (.int .i64 0) := (by refine CellF.keep hb1 ?_; (first | ((repeat (first | (with_reducible refine CellF.at_ ?_ rfl; (first | rfl | (simp; done))) | with_reducible refine CellF.past _ ?_ | with_reducible refine CellF.drew ?_ | with_reducible refine CellF.drewN _ ?_)); done) | (refine ⟨?_, ?_⟩ <;> go_simp)))
      have c1_2_1 := q1_2_1.1
      have q1_2_2 : CellF w1 ⟨(w.heap.size + 1), 2, none⟩ (.int .i64 0) := (by refine CellF.keep hb1 ?_; (first | ((repeat (first | (with_reducible refine CellF.at_ ?_ rfl; (first | rfl | (simp; done))) | with_reducible refine CellF.past _ ?_ | with_reducible refine CellF.drew ?_ | with_reducible refine CellF.drewN _ ?_)); done) | (refine ⟨?_, ?_⟩ <;> go_simp)))
      have c1_2_2 := q1_2_2.1
      have z1_2 : (w.heap.size + 1) < w1.heap.size := ltc c1_2_0
      have f1_2_0 := q1_2_0.2
      have f1_2_1 := q1_2_1.2
      have f1_2_2 := q1_2_2.2
      go_wp2
      all_goals exact bodyPost_ret (v := .tuple #[.agg #[.int .i64 bd, .int .i64 l, .int .i64 a], .int .i64 190]) (by simp [results, Try.results12, go_sem, c1_2_0, c1_2_1, c1_2_2]) rfl ⟨rfl, (by repeat (first | exact brefl _ | refine balloc ?_ _ | refine bdrewN ?_ _ | refine bset ?_ (by dsimp only; omega) _ | refine bstep ?_ (by assumption)))⟩
    have y2 := Int.not_lt.1 z2
    clear z2
    by_cases z3 : 2305843009213693952 < p
    ·
      obtain ⟨rfl, rfl, rfl⟩ : l = l' ∧ a = a' ∧ 190 = r := by unfold goP at hx; rw [hg] at hx; rw [if_pos (.inr (.inr z3))] at hx; simpa using hx
      clear hx hg
      go_enter Try.func12, Try.ntmps12
      go_wp2_with fail
      refine (rGain_is _ _ _ _ hp hq HG _).mono ?_
      rintro e w1 ⟨rfl, hb1⟩
      have q1_1_0 : CellF w1 ⟨w.heap.size, 0, none⟩ (.int .i64 bd) := (by refine CellF.keep hb1 ?_; (first | ((repeat (first | (with_reducible refine CellF.at_ ?_ rfl; (first | rfl | (simp; done))) | with_reducible refine CellF.past _ ?_ | with_reducible refine CellF.drew ?_ | with_reducible refine CellF.drewN _ ?_)); done) | (refine ⟨?_, ?_⟩ <;> go_simp)))
      have c1_1_0 := q1_1_0.1
      have q1_1_1 : CellF w1 ⟨w.heap.size, 1, none⟩ (.int .i64 l) := (by refine CellF.keep hb1 ?_; (first | ((repeat (first | (with_reducible refine CellF.at_ ?_ rfl; (first | rfl | (simp; done))) | with_reducible refine CellF.past _ ?_ | with_reducible refine CellF.drew ?_ | with_reducible refine CellF.drewN _ ?_)); done) | (refine ⟨?_, ?_⟩ <;> go_simp)))
      have c1_1_1 := q1_1_1.1
      have q1_1_2 : CellF w1 ⟨w.heap.size, 2, none⟩ (.int .i64 a) := (by refine CellF.keep hb1 ?_; (first | ((repeat (first | (with_reducible refine CellF.at_ ?_ rfl; (first | rfl | (simp; done))) | with_reducible refine CellF.past _ ?_ | with_reducible refine CellF.drew ?_ | with_reducible refine CellF.drewN _ ?_)); done) | (refine ⟨?_, ?_⟩ <;> go_simp)))
      have c1_1_2 := q1_1_2.1
      have z1_1 : w.heap.size < w1.heap.size := ltc c1_1_0
      have q1_2_0 : CellF w1 ⟨(w.heap.size + 1), 0, none⟩ (.int .i64 0) := (by refine CellF.keep hb1 ?_; (first | ((repeat (first | (with_reducible refine CellF.at_ ?_ rfl; (first | rfl | (simp; done))) | with_reducible refine CellF.past _ ?_ | with_reducible refine CellF.drew ?_ | with_reducible refine CellF.drewN _ ?_)); done) | (refine ⟨?_, ?_⟩ <;> go_simp)))
      have c1_2_0 := q1_2_0.1
      have q1_2_1 : CellF w1 ⟨(w.heap.size + 1), 1, none⟩ (.int .i64 0) := (by refine CellF.keep hb1 ?_; (first | ((repeat (first | (with_reducible refine CellF.at_ ?_ rfl; (first | rfl | (simp; done))) | with_reducible refine CellF.past _ ?_ | with_reducible refine CellF.drew ?_ | with_reducible refine CellF.drewN _ ?_)); done) | (refine ⟨?_, ?_⟩ <;> go_simp)))
      have c1_2_1 := q1_2_1.1
      have q1_2_2 : CellF w1 ⟨(w.heap.size + 1), 2, none⟩ (.int .i64 0) := (by refine CellF.keep hb1 ?_; (first | ((repeat (first | (with_reducible refine CellF.at_ ?_ rfl; (first | rfl | (simp; done))) | with_reducible refine CellF.past _ ?_ | with_reducible refine CellF.drew ?_ | with_reducible refine CellF.drewN _ ?_)); done) | (refine ⟨?_, ?_⟩ <;> go_simp)))
      have c1_2_2 := q1_2_2.1
      have z1_2 : (w.heap.size + 1) < w1.heap.size := ltc c1_2_0
      have f1_2_0 := q1_2_0.2
      have f1_2_1 := q1_2_1.2
      have f1_2_2 := q1_2_2.2
      go_wp2
      all_goals exact bodyPost_ret (v := .tuple #[.agg #[.int .i64 bd, .int .i64 l, .int .i64 a], .int .i64 190]) (by simp [results, Try.results12, go_sem, c1_2_0, c1_2_1, c1_2_2]) rfl ⟨rfl, (by repeat (first | exact brefl _ | refine balloc ?_ _ | refine bdrewN ?_ _ | refine bset ?_ (by dsimp only; omega) _ | refine bstep ?_ (by assumption)))⟩
    have y3 := Int.not_lt.1 z3
    clear z3
    unfold goP at hx
    rw [hg, if_neg (by rw [hab]; rintro (z | z | z) <;> first | cases z | (split at z <;> omega) | omega)] at hx
    dsimp only at hx
    clear hab hg
    by_cases z4 : 2305843009213693952 < l + p + n
    ·
      obtain ⟨rfl, rfl, rfl⟩ : l = l' ∧ a = a' ∧ 190 = r := by rw [if_pos (.inl z4)] at hx; simpa using hx
      clear hx
      go_enter Try.func12, Try.ntmps12
      go_wp2_with fail
      refine (rGain_is _ _ _ _ hp hq HG _).mono ?_
      rintro e w1 ⟨rfl, hb1⟩
      have q1_1_0 : CellF w1 ⟨w.heap.size, 0, none⟩ (.int .i64 bd) := (by refine CellF.keep hb1 ?_; (first | ((repeat (first | (with_reducible refine CellF.at_ ?_ rfl; (first | rfl | (simp; done))) | with_reducible refine CellF.past _ ?_ | with_reducible refine CellF.drew ?_ | with_reducible refine CellF.drewN _ ?_)); done) | (refine ⟨?_, ?_⟩ <;> go_simp)))
      have c1_1_0 := q1_1_0.1
      have q1_1_1 : CellF w1 ⟨w.heap.size, 1, none⟩ (.int .i64 l) := (by refine CellF.keep hb1 ?_; (first | ((repeat (first | (with_reducible refine CellF.at_ ?_ rfl; (first | rfl | (simp; done))) | with_reducible refine CellF.past _ ?_ | with_reducible refine CellF.drew ?_ | with_reducible refine CellF.drewN _ ?_)); done) | (refine ⟨?_, ?_⟩ <;> go_simp)))
      have c1_1_1 := q1_1_1.1
      have q1_1_2 : CellF w1 ⟨w.heap.size, 2, none⟩ (.int .i64 a) := (by refine CellF.keep hb1 ?_; (first | ((repeat (first | (with_reducible refine CellF.at_ ?_ rfl; (first | rfl | (simp; done))) | with_reducible refine CellF.past _ ?_ | with_reducible refine CellF.drew ?_ | with_reducible refine CellF.drewN _ ?_)); done) | (refine ⟨?_, ?_⟩ <;> go_simp)))
      have c1_1_2 := q1_1_2.1
      have z1_1 : w.heap.size < w1.heap.size := ltc c1_1_0
      have q1_2_0 : CellF w1 ⟨(w.heap.size + 1), 0, none⟩ (.int .i64 0) := (by refine CellF.keep hb1 ?_; (first | ((repeat (first | (with_reducible refine CellF.at_ ?_ rfl; (first | rfl | (simp; done))) | with_reducible refine CellF.past _ ?_ | with_reducible refine CellF.drew ?_ | with_reducible refine CellF.drewN _ ?_)); done) | (refine ⟨?_, ?_⟩ <;> go_simp)))
      have c1_2_0 := q1_2_0.1
      have q1_2_1 : CellF w1 ⟨(w.heap.size + 1), 1, none⟩ (.int .i64 0) := (by refine CellF.keep hb1 ?_; (first | ((repeat (first | (with_reducible refine CellF.at_ ?_ rfl; (first | rfl | (simp; done))) | with_reducible refine CellF.past _ ?_ | with_reducible refine CellF.drew ?_ | with_reducible refine CellF.drewN _ ?_)); done) | (refine ⟨?_, ?_⟩ <;> go_simp)))
      have c1_2_1 := q1_2_1.1
      have q1_2_2 : CellF w1 ⟨(w.heap.size + 1), 2, none⟩ (.int .i64 0) := (by refine CellF.keep hb1 ?_; (first | ((repeat (first | (with_reducible refine CellF.at_ ?_ rfl; (first | rfl | (simp; done))) | with_reducible refine CellF.past _ ?_ | with_reducible refine CellF.drew ?_ | with_reducible refine CellF.drewN _ ?_)); done) | (refine ⟨?_, ?_⟩ <;> go_simp)))
      have c1_2_2 := q1_2_2.1
      have z1_2 : (w.heap.size + 1) < w1.heap.size := ltc c1_2_0
      have f1_2_0 := q1_2_0.2
      have f1_2_1 := q1_2_1.2
      have f1_2_2 := q1_2_2.2
      go_wp2
      all_goals exact bodyPost_ret (v := .tuple #[.agg #[.int .i64 bd, .int .i64 l, .int .i64 a], .int .i64 190]) (by simp [results, Try.results12, go_sem, c1_2_0, c1_2_1, c1_2_2]) rfl ⟨rfl, (by repeat (first | exact brefl _ | refine balloc ?_ _ | refine bdrewN ?_ _ | refine bset ?_ (by dsimp only; omega) _ | refine bstep ?_ (by assumption)))⟩
    have y4 := Int.not_lt.1 z4
    clear z4
    by_cases z5 : 2305843009213693952 < a + p
    ·
      obtain ⟨rfl, rfl, rfl⟩ : l = l' ∧ a = a' ∧ 190 = r := by rw [if_pos (.inr z5)] at hx; simpa using hx
      clear hx
      go_enter Try.func12, Try.ntmps12
      go_wp2_with fail
      refine (rGain_is _ _ _ _ hp hq HG _).mono ?_
      rintro e w1 ⟨rfl, hb1⟩
      have q1_1_0 : CellF w1 ⟨w.heap.size, 0, none⟩ (.int .i64 bd) := (by refine CellF.keep hb1 ?_; (first | ((repeat (first | (with_reducible refine CellF.at_ ?_ rfl; (first | rfl | (simp; done))) | with_reducible refine CellF.past _ ?_ | with_reducible refine CellF.drew ?_ | with_reducible refine CellF.drewN _ ?_)); done) | (refine ⟨?_, ?_⟩ <;> go_simp)))
      have c1_1_0 := q1_1_0.1
      have q1_1_1 : CellF w1 ⟨w.heap.size, 1, none⟩ (.int .i64 l) := (by refine CellF.keep hb1 ?_; (first | ((repeat (first | (with_reducible refine CellF.at_ ?_ rfl; (first | rfl | (simp; done))) | with_reducible refine CellF.past _ ?_ | with_reducible refine CellF.drew ?_ | with_reducible refine CellF.drewN _ ?_)); done) | (refine ⟨?_, ?_⟩ <;> go_simp)))
      have c1_1_1 := q1_1_1.1
      have q1_1_2 : CellF w1 ⟨w.heap.size, 2, none⟩ (.int .i64 a) := (by refine CellF.keep hb1 ?_; (first | ((repeat (first | (with_reducible refine CellF.at_ ?_ rfl; (first | rfl | (simp; done))) | with_reducible refine CellF.past _ ?_ | with_reducible refine CellF.drew ?_ | with_reducible refine CellF.drewN _ ?_)); done) | (refine ⟨?_, ?_⟩ <;> go_simp)))
      have c1_1_2 := q1_1_2.1
      have z1_1 : w.heap.size < w1.heap.size := ltc c1_1_0
      have q1_2_0 : CellF w1 ⟨(w.heap.size + 1), 0, none⟩ (.int .i64 0) := (by refine CellF.keep hb1 ?_; (first | ((repeat (first | (with_reducible refine CellF.at_ ?_ rfl; (first | rfl | (simp; done))) | with_reducible refine CellF.past _ ?_ | with_reducible refine CellF.drew ?_ | with_reducible refine CellF.drewN _ ?_)); done) | (refine ⟨?_, ?_⟩ <;> go_simp)))
      have c1_2_0 := q1_2_0.1
      have q1_2_1 : CellF w1 ⟨(w.heap.size + 1), 1, none⟩ (.int .i64 0) := (by refine CellF.keep hb1 ?_; (first | ((repeat (first | (with_reducible refine CellF.at_ ?_ rfl; (first | rfl | (simp; done))) | with_reducible refine CellF.past _ ?_ | with_reducible refine CellF.drew ?_ | with_reducible refine CellF.drewN _ ?_)); done) | (refine ⟨?_, ?_⟩ <;> go_simp)))
      have c1_2_1 := q1_2_1.1
      have q1_2_2 : CellF w1 ⟨(w.heap.size + 1), 2, none⟩ (.int .i64 0) := (by refine CellF.keep hb1 ?_; (first | ((repeat (first | (with_reducible refine CellF.at_ ?_ rfl; (first | rfl | (simp; done))) | with_reducible refine CellF.past _ ?_ | with_reducible refine CellF.drew ?_ | with_reducible refine CellF.drewN _ ?_)); done) | (refine ⟨?_, ?_⟩ <;> go_simp)))
      have c1_2_2 := q1_2_2.1
      have z1_2 : (w.heap.size + 1) < w1.heap.size := ltc c1_2_0
      have f1_2_0 := q1_2_0.2
      have f1_2_1 := q1_2_1.2
      have f1_2_2 := q1_2_2.2
      go_wp2
      all_goals exact bodyPost_ret (v := .tuple #[.agg #[.int .i64 bd, .int .i64 l, .int .i64 a], .int .i64 190]) (by simp [results, Try.results12, go_sem, c1_2_0, c1_2_1, c1_2_2]) rfl ⟨rfl, (by repeat (first | exact brefl _ | refine balloc ?_ _ | refine bdrewN ?_ _ | refine bset ?_ (by dsimp only; omega) _ | refine bstep ?_ (by assumption)))⟩
    have y5 := Int.not_lt.1 z5
    clear z5
    obtain ⟨rfl, rfl, rfl⟩ : l + p + n = l' ∧ a + p = a' ∧ 0 = r := by rw [if_neg (by omega)] at hx; simpa using hx
    clear hx
    go_enter Try.func12, Try.ntmps12
    go_wp2_with fail
    refine (rGain_is _ _ _ _ hp hq HG _).mono ?_
    rintro e w1 ⟨rfl, hb1⟩
    have q1_1_0 : CellF w1 ⟨w.heap.size, 0, none⟩ (.int .i64 bd) := (by refine CellF.keep hb1 ?_; (first | ((repeat (first | (with_reducible refine CellF.at_ ?_ rfl; (first | rfl | (simp; done))) | with_reducible refine CellF.past _ ?_ | with_reducible refine CellF.drew ?_ | with_reducible refine CellF.drewN _ ?_)); done) | (refine ⟨?_, ?_⟩ <;> go_simp)))
    have c1_1_0 := q1_1_0.1
    have q1_1_1 : CellF w1 ⟨w.heap.size, 1, none⟩ (.int .i64 l) := (by refine CellF.keep hb1 ?_; (first | ((repeat (first | (with_reducible refine CellF.at_ ?_ rfl; (first | rfl | (simp; done))) | with_reducible refine CellF.past _ ?_ | with_reducible refine CellF.drew ?_ | with_reducible refine CellF.drewN _ ?_)); done) | (refine ⟨?_, ?_⟩ <;> go_simp)))
    have c1_1_1 := q1_1_1.1
    have q1_1_2 : CellF w1 ⟨w.heap.size, 2, none⟩ (.int .i64 a) := (by refine CellF.keep hb1 ?_; (first | ((repeat (first | (with_reducible refine CellF.at_ ?_ rfl; (first | rfl | (simp; done))) | with_reducible refine CellF.past _ ?_ | with_reducible refine CellF.drew ?_ | with_reducible refine CellF.drewN _ ?_)); done) | (refine ⟨?_, ?_⟩ <;> go_simp)))
    have c1_1_2 := q1_1_2.1
    have z1_1 : w.heap.size < w1.heap.size := ltc c1_1_0
    have q1_2_0 : CellF w1 ⟨(w.heap.size + 1), 0, none⟩ (.int .i64 0) := (by refine CellF.keep hb1 ?_; (first | ((repeat (first | (with_reducible refine CellF.at_ ?_ rfl; (first | rfl | (simp; done))) | with_reducible refine CellF.past _ ?_ | with_reducible refine CellF.drew ?_ | with_reducible refine CellF.drewN _ ?_)); done) | (refine ⟨?_, ?_⟩ <;> go_simp)))
    have c1_2_0 := q1_2_0.1
    have q1_2_1 : CellF w1 ⟨(w.heap.size + 1), 1, none⟩ (.int .i64 0) := (by refine CellF.keep hb1 ?_; (first | ((repeat (first | (with_reducible refine CellF.at_ ?_ rfl; (first | rfl | (simp; done))) | with_reducible refine CellF.past _ ?_ | with_reducible refine CellF.drew ?_ | with_reducible refine CellF.drewN _ ?_)); done) | (refine ⟨?_, ?_⟩ <;> go_simp)))
    have c1_2_1 := q1_2_1.1
    have q1_2_2 : CellF w1 ⟨(w.heap.size + 1), 2, none⟩ (.int .i64 0) := (by refine CellF.keep hb1 ?_; (first | ((repeat (first | (with_reducible refine CellF.at_ ?_ rfl; (first | rfl | (simp; done))) | with_reducible refine CellF.past _ ?_ | with_reducible refine CellF.drew ?_ | with_reducible refine CellF.drewN _ ?_)); done) | (refine ⟨?_, ?_⟩ <;> go_simp)))
    have c1_2_2 := q1_2_2.1
    have z1_2 : (w.heap.size + 1) < w1.heap.size := ltc c1_2_0
    have f1_2_0 := q1_2_0.2
    have f1_2_1 := q1_2_1.2
    have f1_2_2 := q1_2_2.2
    go_wp2
    all_goals exact bodyPost_ret (v := .tuple #[.agg #[.int .i64 bd, .int .i64 (l + p + n), .int .i64 (a + p)], .int .i64 0]) (by simp [results, Try.results12, go_sem, c1_2_0, c1_2_1, c1_2_2]) rfl ⟨rfl, (by repeat (first | exact brefl _ | refine balloc ?_ _ | refine bdrewN ?_ _ | refine bset ?_ (by dsimp only; omega) _ | refine bstep ?_ (by assumption)))⟩
end Go.Proofs.Ytdkdckfkhhbfnaa
