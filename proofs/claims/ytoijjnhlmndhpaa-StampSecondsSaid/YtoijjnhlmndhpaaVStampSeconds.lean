/-
  The walk of the law StampSeconds.
-/
import Derived.Test.YtoijjnhlmndhpaaAlStamp
import Derived.BigQuiet
import Derived.Deep.QuietTactic
import Derived.Deep.RegionHeld3
import Derived.Deep.RegionWith
namespace Go.Proofs.Ytoijjnhlmndhpaa
open Go.RowKit

theorem sec_more (n m : Int) (h1 : 0 ≤ n) (h2 : n ≤ 1152921504606846976) (h3 : 0 ≤ m) (h4 : m ≤ 1073741824) :
    stOf n = (n / 1000000000, n % 1000000000, true) ∧ stOf (n + m * 1000000000) = (n / 1000000000 + m, n % 1000000000, true) := by
  have e1 : smallB n = true := smallB_true (by omega) (by omega)
  have e2 : smallB (n + m * 1000000000) = true := smallB_true (by omega) (by omega)
  constructor
  · unfold stOf; rw [if_neg (by rw [e1]; simp; omega)]
  · unfold stOf; rw [if_neg (by rw [e2]; simp; omega)]
    have e3 : (n + m * 1000000000) / 1000000000 = n / 1000000000 + m := by omega
    have e4 : (n + m * 1000000000) % 1000000000 = n % 1000000000 := by omega
    rw [e3, e4]

theorem StampSeconds_walk (n m : Int) (w : World) (hn : I64 n) (hm : I64 m) : Calls Try.prog 3 #[.int .i64 n, .int .i64 m] w fun e w' => e = .returned (.bool true) ∧ Below w.heap.size w w' := by
  obtain ⟨hn1, hn2⟩ := hn
  obtain ⟨hm1, hm2⟩ := hm
  by_cases h1 : n < 0
  · go_enter Try.func3, Try.ntmps3
    go_wp2_with fail
    refine (alive_is _).mono ?_
    rintro e w1 ⟨rfl, hb1⟩
    go_wp2
    go_ret
    exact ⟨rfl, (by repeat (first | exact brefl _ | refine balloc ?_ _ | refine bdrewN ?_ _ | refine bset ?_ (by dsimp only; omega) _ | refine bstep ?_ (by assumption)))⟩
  · have d1 : decide (n < 0) = false := decide_eq_false h1
    by_cases h2 : 1152921504606846976 < n
    · go_enter Try.func3, Try.ntmps3
      go_wp2_with fail
      refine (alive_is _).mono ?_
      rintro e w1 ⟨rfl, hb1⟩
      go_wp2
      go_ret
      exact ⟨rfl, (by repeat (first | exact brefl _ | refine balloc ?_ _ | refine bdrewN ?_ _ | refine bset ?_ (by dsimp only; omega) _ | refine bstep ?_ (by assumption)))⟩
    · have d2 : decide (1152921504606846976 < n) = false := decide_eq_false h2
      by_cases h3 : m < 0
      · go_enter Try.func3, Try.ntmps3
        go_wp2_with fail
        refine (alive_is _).mono ?_
        rintro e w1 ⟨rfl, hb1⟩
        go_wp2
        go_ret
        exact ⟨rfl, (by repeat (first | exact brefl _ | refine balloc ?_ _ | refine bdrewN ?_ _ | refine bset ?_ (by dsimp only; omega) _ | refine bstep ?_ (by assumption)))⟩
      · have d3 : decide (m < 0) = false := decide_eq_false h3
        by_cases h4 : 1073741824 < m
        · go_enter Try.func3, Try.ntmps3
          go_wp2_with fail
          refine (alive_is _).mono ?_
          rintro e w1 ⟨rfl, hb1⟩
          go_wp2
          go_ret
          exact ⟨rfl, (by repeat (first | exact brefl _ | refine balloc ?_ _ | refine bdrewN ?_ _ | refine bset ?_ (by dsimp only; omega) _ | refine bstep ?_ (by assumption)))⟩
        · have d4 : decide (1073741824 < m) = false := decide_eq_false h4
          obtain ⟨s1, s2⟩ := sec_more n m (by omega) (by omega) (by omega) (by omega)
          have H1 := Lib.hid s1
          have H2 := Lib.hid s2
          have b1 : I64 (n + m * 1000000000) := ⟨by omega, by omega⟩
          clear s1 s2
          go_enter Try.func3, Try.ntmps3
          go_wp2_with fail
          refine (StOf_is _ _ _ _ ⟨hn1, hn2⟩ H1 _).mono ?_
          rintro e w1 ⟨rfl, hb1⟩
          go_wp2_with fail
          refine (StOf_is _ _ _ _ b1 H2 _).mono ?_
          rintro e w2 ⟨rfl, hb2⟩
          have q2_1_0 : CellF w2 ⟨w1.heap.size, 0, none⟩ (.int .i64 (n / 1000000000)) := (by refine CellF.keep hb2 ?_; refine ⟨?_, ?_⟩ <;> go_simp)
          have c2_1_0 := q2_1_0.1
          have q2_1_1 : CellF w2 ⟨w1.heap.size, 1, none⟩ (.int .i64 (n % 1000000000)) := (by refine CellF.keep hb2 ?_; refine ⟨?_, ?_⟩ <;> go_simp)
          have c2_1_1 := q2_1_1.1
          have z2_1 : w1.heap.size < w2.heap.size := ltc c2_1_0
          go_wp2_with fail
          refine (alive_is _).mono ?_
          rintro e w3 ⟨rfl, hb3⟩
          have q3_2_0 : CellF w3 ⟨w1.heap.size, 0, none⟩ (.int .i64 (n / 1000000000)) := (by first | exact CellF.keep hb3 q2_1_0 | exact CellF.keep hb3 (CellF.past _ q2_1_0) | exact CellF.keep hb3 (CellF.past _ (CellF.past _ q2_1_0)) | exact CellF.keep hb3 (CellF.drewN _ q2_1_0))
          have c3_2_0 := q3_2_0.1
          have q3_2_1 : CellF w3 ⟨w1.heap.size, 1, none⟩ (.int .i64 (n % 1000000000)) := (by first | exact CellF.keep hb3 q2_1_1 | exact CellF.keep hb3 (CellF.past _ q2_1_1) | exact CellF.keep hb3 (CellF.past _ (CellF.past _ q2_1_1)) | exact CellF.keep hb3 (CellF.drewN _ q2_1_1))
          have c3_2_1 := q3_2_1.1
          have z3_2 : w1.heap.size < w3.heap.size := ltc c3_2_0
          have q3_3_0 : CellF w3 ⟨w2.heap.size, 0, none⟩ (.int .i64 (n / 1000000000 + m)) := (by refine CellF.keep hb3 ?_; refine ⟨?_, ?_⟩ <;> go_simp)
          have c3_3_0 := q3_3_0.1
          have q3_3_1 : CellF w3 ⟨w2.heap.size, 1, none⟩ (.int .i64 (n % 1000000000)) := (by refine CellF.keep hb3 ?_; refine ⟨?_, ?_⟩ <;> go_simp)
          have c3_3_1 := q3_3_1.1
          have z3_3 : w2.heap.size < w3.heap.size := ltc c3_3_0
          go_wp2
          go_ret
          exact ⟨rfl, (by repeat (first | exact brefl _ | refine balloc ?_ _ | refine bdrewN ?_ _ | refine bset ?_ (by dsimp only; omega) _ | refine bstep ?_ (by assumption)))⟩
end Go.Proofs.Ytoijjnhlmndhpaa
