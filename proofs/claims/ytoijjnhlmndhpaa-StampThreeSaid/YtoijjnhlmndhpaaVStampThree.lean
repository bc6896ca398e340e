/-
  The walk of the law StampThree.
-/
import Derived.Test.YtoijjnhlmndhpaaAlStamp
import Derived.BigQuiet
import Derived.BigRegion
import Derived.Deep.QuietTactic
import Derived.Deep.RegionHeld3
import Derived.Deep.RegionWith
import Derived.Deep.Cut
import Derived.Deep.CutRange
import Derived.Deep.DeepCutAuto
namespace Go.Proofs.Ytoijjnhlmndhpaa
open Go.RowKit

theorem CellF.at_ {a : World} {c : Array Value} {t : TypeId} {n i : Nat} {v : Value} (hn : n = a.heap.size) (hv : c[i]? = some v) : CellF (a.alloc (.cells c t)) ⟨n, i, none⟩ v := by
  subst hn
  refine ⟨?_, ?_⟩
  · rw [World.cell?_alloc_new]; exact hv
  · go_simp

/-- Three stamps in three blocks. -/
def Three (wc : World) (bx by' bz : Nat) (x1 x2 y1 y2 z1 z2 : Int) : Prop :=
  (CellF wc ⟨bx, 0, none⟩ (.int .i64 x1) ∧ CellF wc ⟨bx, 1, none⟩ (.int .i64 x2)) ∧ (CellF wc ⟨by', 0, none⟩ (.int .i64 y1) ∧ CellF wc ⟨by', 1, none⟩ (.int .i64 y2)) ∧ (CellF wc ⟨bz, 0, none⟩ (.int .i64 z1) ∧ CellF wc ⟨bz, 1, none⟩ (.int .i64 z2))

theorem three_cases {a1 a2 b1 b2 : Int} {p q : Bool} (hp : stLess a1 a2 b1 b2 = p) (hq : stLess b1 b2 a1 a2 = q) : (p = true ∧ q = false) ∨ (p = false ∧ q = true) ∨ (p = false ∧ q = false ∧ a1 = b1 ∧ a2 = b2) := by
  subst hp hq
  unfold stLess
  by_cases h1 : a1 < b1
  · left; simp; omega
  · by_cases h2 : b1 < a1
    · right; left; simp; omega
    · obtain rfl : a1 = b1 := by omega
      by_cases h3 : a2 < b2
      · left; simp; omega
      · by_cases h4 : b2 < a2
        · right; left; simp; omega
        · right; right; simp; omega

theorem three_trans {a1 a2 b1 b2 c1 c2 : Int} {t : Bool} (h1 : stLess a1 a2 b1 b2 = true) (h2 : stLess b1 b2 c1 c2 = true) (h3 : stLess a1 a2 c1 c2 = t) : true = t := by
  rw [← h3]
  unfold stLess at *
  symm
  simp at *
  omega

set_option maxHeartbeats 4000000 in
theorem StampThree_walk (a1 a2 b1 b2 c1 c2 : Int) (w : World) (_ : I64 a1) (_ : I64 a2) (_ : I64 b1) (_ : I64 b2) (_ : I64 c1) (_ : I64 c2) : Calls Try.prog 6 #[.agg #[.int .i64 a1, .int .i64 a2], .agg #[.int .i64 b1, .int .i64 b2], .agg #[.int .i64 c1, .int .i64 c2]] w fun e w' => e = .returned (.bool true) ∧ Below w.heap.size w w' := by
  obtain ⟨p, hp⟩ : ∃ x, stLess a1 a2 b1 b2 = x := ⟨_, rfl⟩
  obtain ⟨q, hq⟩ : ∃ x, stLess b1 b2 a1 a2 = x := ⟨_, rfl⟩
  obtain ⟨r, hr⟩ : ∃ x, stLess b1 b2 c1 c2 = x := ⟨_, rfl⟩
  obtain ⟨t, ht⟩ : ∃ x, stLess a1 a2 c1 c2 = x := ⟨_, rfl⟩
  have h0 : stLess a1 a2 a1 a2 = false := by simp [stLess]
  have H0 := Lib.hid h0
  have H1 := Lib.hid hp
  have H2 := Lib.hid hq
  have H3 := Lib.hid hr
  have H4 := Lib.hid ht
  have hc := Lib.hid (three_cases hp hq)
  clear h0 hp hq hr ht
  go_enter Try.func6, Try.ntmps6
  go_upto_region 1 with (fail)
  go_cut [7, 8, 9] (fun v7 v8 v9 wc => ∃ bx by' bz, v7 = .pointer (some ⟨bx, 0, none⟩) ∧ v8 = .pointer (some ⟨by', 0, none⟩) ∧ v9 = .pointer (some ⟨bz, 0, none⟩) ∧ Hid (Below w.heap.size w wc) ∧ Hid (Three wc bx by' bz a1 a2 b1 b2 c1 c2))
  case first =>
    go_region
    all_goals
      go_wp2_with fail
      go_meet
      refine ⟨_, _, _, rfl, rfl, rfl, Lib.hid (by repeat (first | with_reducible exact brefl _ | with_reducible refine bdrew ?_ | with_reducible refine balloc ?_ _)), ⟨?_, ?_⟩, ⟨?_, ?_⟩, ⟨?_, ?_⟩⟩ <;>
        repeat (first | with_reducible exact CellF.at_ (by simp) rfl | with_reducible refine CellF.past _ ?_ | with_reducible refine CellF.drew ?_)
  case rest =>
    obtain ⟨bx, by', bz, rfl, rfl, rfl, HB, HT⟩ := hcut
    have A0 := HT.out.1.1.1
    have A1 := HT.out.1.2.1
    have B0 := HT.out.2.1.1.1
    have B1 := HT.out.2.1.2.1
    have C0 := HT.out.2.2.1.1
    have C1 := HT.out.2.2.2.1
    have A2 := HT.out.1.1.2
    have A3 := HT.out.1.2.2
    have B2 := HT.out.2.1.1.2
    have B3 := HT.out.2.1.2.2
    have C2 := HT.out.2.2.1.2
    have C3 := HT.out.2.2.2.2
    clear HT
    have hwc := HB.out
    clear HB
    rcases hc.out with ⟨rfl, rfl⟩ | ⟨rfl, rfl⟩ | ⟨rfl, rfl, rfl, rfl⟩
    · cases r with
      | false =>
        go_wp2_with fail
        refine (Less_is _ _ _ _ _ H0 _).mono ?_
        rintro e w1 ⟨rfl, hb1⟩
        have q1_1_0 : CellF w1 ⟨bx, 0, none⟩ (.int .i64 a1) := (by refine CellF.keep hb1 ?_; refine ⟨?_, ?_⟩ <;> go_simp)
        have c1_1_0 := q1_1_0.1
        have q1_1_1 : CellF w1 ⟨bx, 1, none⟩ (.int .i64 a2) := (by refine CellF.keep hb1 ?_; refine ⟨?_, ?_⟩ <;> go_simp)
        have c1_1_1 := q1_1_1.1
        have z1_1 : bx < w1.heap.size := ltc c1_1_0
        have q1_2_0 : CellF w1 ⟨by', 0, none⟩ (.int .i64 b1) := (by refine CellF.keep hb1 ?_; refine ⟨?_, ?_⟩ <;> go_simp)
        have c1_2_0 := q1_2_0.1
        have q1_2_1 : CellF w1 ⟨by', 1, none⟩ (.int .i64 b2) := (by refine CellF.keep hb1 ?_; refine ⟨?_, ?_⟩ <;> go_simp)
        have c1_2_1 := q1_2_1.1
        have z1_2 : by' < w1.heap.size := ltc c1_2_0
        have q1_3_0 : CellF w1 ⟨bz, 0, none⟩ (.int .i64 c1) := (by refine CellF.keep hb1 ?_; refine ⟨?_, ?_⟩ <;> go_simp)
        have c1_3_0 := q1_3_0.1
        have q1_3_1 : CellF w1 ⟨bz, 1, none⟩ (.int .i64 c2) := (by refine CellF.keep hb1 ?_; refine ⟨?_, ?_⟩ <;> go_simp)
        have c1_3_1 := q1_3_1.1
        have z1_3 : bz < w1.heap.size := ltc c1_3_0
        go_wp2_with fail
        refine (Less_is _ _ _ _ _ H1 _).mono ?_
        rintro e w2 ⟨rfl, hb2⟩
        have q2_4_0 : CellF w2 ⟨bx, 0, none⟩ (.int .i64 a1) := (by first | exact CellF.keep hb2 q1_1_0 | exact CellF.keep hb2 (CellF.past _ q1_1_0) | exact CellF.keep hb2 (CellF.past _ (CellF.past _ q1_1_0)) | exact CellF.keep hb2 (CellF.drewN _ q1_1_0))
        have c2_4_0 := q2_4_0.1
        have q2_4_1 : CellF w2 ⟨bx, 1, none⟩ (.int .i64 a2) := (by first | exact CellF.keep hb2 q1_1_1 | exact CellF.keep hb2 (CellF.past _ q1_1_1) | exact CellF.keep hb2 (CellF.past _ (CellF.past _ q1_1_1)) | exact CellF.keep hb2 (CellF.drewN _ q1_1_1))
        have c2_4_1 := q2_4_1.1
        have z2_4 : bx < w2.heap.size := ltc c2_4_0
        clear q1_1_0 c1_1_0 q1_1_1 c1_1_1 z1_1
        have q2_5_0 : CellF w2 ⟨by', 0, none⟩ (.int .i64 b1) := (by first | exact CellF.keep hb2 q1_2_0 | exact CellF.keep hb2 (CellF.past _ q1_2_0) | exact CellF.keep hb2 (CellF.past _ (CellF.past _ q1_2_0)) | exact CellF.keep hb2 (CellF.drewN _ q1_2_0))
        have c2_5_0 := q2_5_0.1
        have q2_5_1 : CellF w2 ⟨by', 1, none⟩ (.int .i64 b2) := (by first | exact CellF.keep hb2 q1_2_1 | exact CellF.keep hb2 (CellF.past _ q1_2_1) | exact CellF.keep hb2 (CellF.past _ (CellF.past _ q1_2_1)) | exact CellF.keep hb2 (CellF.drewN _ q1_2_1))
        have c2_5_1 := q2_5_1.1
        have z2_5 : by' < w2.heap.size := ltc c2_5_0
        clear q1_2_0 c1_2_0 q1_2_1 c1_2_1 z1_2
        have q2_6_0 : CellF w2 ⟨bz, 0, none⟩ (.int .i64 c1) := (by first | exact CellF.keep hb2 q1_3_0 | exact CellF.keep hb2 (CellF.past _ q1_3_0) | exact CellF.keep hb2 (CellF.past _ (CellF.past _ q1_3_0)) | exact CellF.keep hb2 (CellF.drewN _ q1_3_0))
        have c2_6_0 := q2_6_0.1
        have q2_6_1 : CellF w2 ⟨bz, 1, none⟩ (.int .i64 c2) := (by first | exact CellF.keep hb2 q1_3_1 | exact CellF.keep hb2 (CellF.past _ q1_3_1) | exact CellF.keep hb2 (CellF.past _ (CellF.past _ q1_3_1)) | exact CellF.keep hb2 (CellF.drewN _ q1_3_1))
        have c2_6_1 := q2_6_1.1
        have z2_6 : bz < w2.heap.size := ltc c2_6_0
        clear q1_3_0 c1_3_0 q1_3_1 c1_3_1 z1_3
        go_wp2_with fail
        refine (Less_is _ _ _ _ _ H2 _).mono ?_
        rintro e w3 ⟨rfl, hb3⟩
        have q3_7_0 : CellF w3 ⟨bx, 0, none⟩ (.int .i64 a1) := (by first | exact CellF.keep hb3 q2_4_0 | exact CellF.keep hb3 (CellF.past _ q2_4_0) | exact CellF.keep hb3 (CellF.past _ (CellF.past _ q2_4_0)) | exact CellF.keep hb3 (CellF.drewN _ q2_4_0))
        have c3_7_0 := q3_7_0.1
        have q3_7_1 : CellF w3 ⟨bx, 1, none⟩ (.int .i64 a2) := (by first | exact CellF.keep hb3 q2_4_1 | exact CellF.keep hb3 (CellF.past _ q2_4_1) | exact CellF.keep hb3 (CellF.past _ (CellF.past _ q2_4_1)) | exact CellF.keep hb3 (CellF.drewN _ q2_4_1))
        have c3_7_1 := q3_7_1.1
        have z3_7 : bx < w3.heap.size := ltc c3_7_0
        clear q2_4_0 c2_4_0 q2_4_1 c2_4_1 z2_4
        have q3_8_0 : CellF w3 ⟨by', 0, none⟩ (.int .i64 b1) := (by first | exact CellF.keep hb3 q2_5_0 | exact CellF.keep hb3 (CellF.past _ q2_5_0) | exact CellF.keep hb3 (CellF.past _ (CellF.past _ q2_5_0)) | exact CellF.keep hb3 (CellF.drewN _ q2_5_0))
        have c3_8_0 := q3_8_0.1
        have q3_8_1 : CellF w3 ⟨by', 1, none⟩ (.int .i64 b2) := (by first | exact CellF.keep hb3 q2_5_1 | exact CellF.keep hb3 (CellF.past _ q2_5_1) | exact CellF.keep hb3 (CellF.past _ (CellF.past _ q2_5_1)) | exact CellF.keep hb3 (CellF.drewN _ q2_5_1))
        have c3_8_1 := q3_8_1.1
        have z3_8 : by' < w3.heap.size := ltc c3_8_0
        clear q2_5_0 c2_5_0 q2_5_1 c2_5_1 z2_5
        have q3_9_0 : CellF w3 ⟨bz, 0, none⟩ (.int .i64 c1) := (by first | exact CellF.keep hb3 q2_6_0 | exact CellF.keep hb3 (CellF.past _ q2_6_0) | exact CellF.keep hb3 (CellF.past _ (CellF.past _ q2_6_0)) | exact CellF.keep hb3 (CellF.drewN _ q2_6_0))
        have c3_9_0 := q3_9_0.1
        have q3_9_1 : CellF w3 ⟨bz, 1, none⟩ (.int .i64 c2) := (by first | exact CellF.keep hb3 q2_6_1 | exact CellF.keep hb3 (CellF.past _ q2_6_1) | exact CellF.keep hb3 (CellF.past _ (CellF.past _ q2_6_1)) | exact CellF.keep hb3 (CellF.drewN _ q2_6_1))
        have c3_9_1 := q3_9_1.1
        have z3_9 : bz < w3.heap.size := ltc c3_9_0
        clear q2_6_0 c2_6_0 q2_6_1 c2_6_1 z2_6
        go_wp2_with fail
        refine (Less_is _ _ _ _ _ H1 _).mono ?_
        rintro e w4 ⟨rfl, hb4⟩
        have q4_10_0 : CellF w4 ⟨bx, 0, none⟩ (.int .i64 a1) := (by first | exact CellF.keep hb4 q3_7_0 | exact CellF.keep hb4 (CellF.past _ q3_7_0) | exact CellF.keep hb4 (CellF.past _ (CellF.past _ q3_7_0)) | exact CellF.keep hb4 (CellF.drewN _ q3_7_0))
        have c4_10_0 := q4_10_0.1
        have q4_10_1 : CellF w4 ⟨bx, 1, none⟩ (.int .i64 a2) := (by first | exact CellF.keep hb4 q3_7_1 | exact CellF.keep hb4 (CellF.past _ q3_7_1) | exact CellF.keep hb4 (CellF.past _ (CellF.past _ q3_7_1)) | exact CellF.keep hb4 (CellF.drewN _ q3_7_1))
        have c4_10_1 := q4_10_1.1
        have z4_10 : bx < w4.heap.size := ltc c4_10_0
        clear q3_7_0 c3_7_0 q3_7_1 c3_7_1 z3_7
        have q4_11_0 : CellF w4 ⟨by', 0, none⟩ (.int .i64 b1) := (by first | exact CellF.keep hb4 q3_8_0 | exact CellF.keep hb4 (CellF.past _ q3_8_0) | exact CellF.keep hb4 (CellF.past _ (CellF.past _ q3_8_0)) | exact CellF.keep hb4 (CellF.drewN _ q3_8_0))
        have c4_11_0 := q4_11_0.1
        have q4_11_1 : CellF w4 ⟨by', 1, none⟩ (.int .i64 b2) := (by first | exact CellF.keep hb4 q3_8_1 | exact CellF.keep hb4 (CellF.past _ q3_8_1) | exact CellF.keep hb4 (CellF.past _ (CellF.past _ q3_8_1)) | exact CellF.keep hb4 (CellF.drewN _ q3_8_1))
        have c4_11_1 := q4_11_1.1
        have z4_11 : by' < w4.heap.size := ltc c4_11_0
        clear q3_8_0 c3_8_0 q3_8_1 c3_8_1 z3_8
        have q4_12_0 : CellF w4 ⟨bz, 0, none⟩ (.int .i64 c1) := (by first | exact CellF.keep hb4 q3_9_0 | exact CellF.keep hb4 (CellF.past _ q3_9_0) | exact CellF.keep hb4 (CellF.past _ (CellF.past _ q3_9_0)) | exact CellF.keep hb4 (CellF.drewN _ q3_9_0))
        have c4_12_0 := q4_12_0.1
        have q4_12_1 : CellF w4 ⟨bz, 1, none⟩ (.int .i64 c2) := (by first | exact CellF.keep hb4 q3_9_1 | exact CellF.keep hb4 (CellF.past _ q3_9_1) | exact CellF.keep hb4 (CellF.past _ (CellF.past _ q3_9_1)) | exact CellF.keep hb4 (CellF.drewN _ q3_9_1))
        have c4_12_1 := q4_12_1.1
        have z4_12 : bz < w4.heap.size := ltc c4_12_0
        clear q3_9_0 c3_9_0 q3_9_1 c3_9_1 z3_9
        go_wp2_with fail
        refine (alive_is _).mono ?_
        rintro e w5 ⟨rfl, hb5⟩
        have q5_13_0 : CellF w5 ⟨bx, 0, none⟩ (.int .i64 a1) := (by first | exact CellF.keep hb5 q4_10_0 | exact CellF.keep hb5 (CellF.past _ q4_10_0) | exact CellF.keep hb5 (CellF.past _ (CellF.past _ q4_10_0)) | exact CellF.keep hb5 (CellF.drewN _ q4_10_0))
        have c5_13_0 := q5_13_0.1
        have q5_13_1 : CellF w5 ⟨bx, 1, none⟩ (.int .i64 a2) := (by first | exact CellF.keep hb5 q4_10_1 | exact CellF.keep hb5 (CellF.past _ q4_10_1) | exact CellF.keep hb5 (CellF.past _ (CellF.past _ q4_10_1)) | exact CellF.keep hb5 (CellF.drewN _ q4_10_1))
        have c5_13_1 := q5_13_1.1
        have z5_13 : bx < w5.heap.size := ltc c5_13_0
        clear q4_10_0 c4_10_0 q4_10_1 c4_10_1 z4_10
        have q5_14_0 : CellF w5 ⟨by', 0, none⟩ (.int .i64 b1) := (by first | exact CellF.keep hb5 q4_11_0 | exact CellF.keep hb5 (CellF.past _ q4_11_0) | exact CellF.keep hb5 (CellF.past _ (CellF.past _ q4_11_0)) | exact CellF.keep hb5 (CellF.drewN _ q4_11_0))
        have c5_14_0 := q5_14_0.1
        have q5_14_1 : CellF w5 ⟨by', 1, none⟩ (.int .i64 b2) := (by first | exact CellF.keep hb5 q4_11_1 | exact CellF.keep hb5 (CellF.past _ q4_11_1) | exact CellF.keep hb5 (CellF.past _ (CellF.past _ q4_11_1)) | exact CellF.keep hb5 (CellF.drewN _ q4_11_1))
        have c5_14_1 := q5_14_1.1
        have z5_14 : by' < w5.heap.size := ltc c5_14_0
        clear q4_11_0 c4_11_0 q4_11_1 c4_11_1 z4_11
        have q5_15_0 : CellF w5 ⟨bz, 0, none⟩ (.int .i64 c1) := (by first | exact CellF.keep hb5 q4_12_0 | exact CellF.keep hb5 (CellF.past _ q4_12_0) | exact CellF.keep hb5 (CellF.past _ (CellF.past _ q4_12_0)) | exact CellF.keep hb5 (CellF.drewN _ q4_12_0))
        have c5_15_0 := q5_15_0.1
        have q5_15_1 : CellF w5 ⟨bz, 1, none⟩ (.int .i64 c2) := (by first | exact CellF.keep hb5 q4_12_1 | exact CellF.keep hb5 (CellF.past _ q4_12_1) | exact CellF.keep hb5 (CellF.past _ (CellF.past _ q4_12_1)) | exact CellF.keep hb5 (CellF.drewN _ q4_12_1))
        have c5_15_1 := q5_15_1.1
        have z5_15 : bz < w5.heap.size := ltc c5_15_0
        clear q4_12_0 c4_12_0 q4_12_1 c4_12_1 z4_12
        go_wp2_with fail
        refine (Less_is _ _ _ _ _ H1 _).mono ?_
        rintro e w6 ⟨rfl, hb6⟩
        have q6_16_0 : CellF w6 ⟨bx, 0, none⟩ (.int .i64 a1) := (by first | exact CellF.keep hb6 q5_13_0 | exact CellF.keep hb6 (CellF.past _ q5_13_0) | exact CellF.keep hb6 (CellF.past _ (CellF.past _ q5_13_0)) | exact CellF.keep hb6 (CellF.drewN _ q5_13_0))
        have c6_16_0 := q6_16_0.1
        have q6_16_1 : CellF w6 ⟨bx, 1, none⟩ (.int .i64 a2) := (by first | exact CellF.keep hb6 q5_13_1 | exact CellF.keep hb6 (CellF.past _ q5_13_1) | exact CellF.keep hb6 (CellF.past _ (CellF.past _ q5_13_1)) | exact CellF.keep hb6 (CellF.drewN _ q5_13_1))
        have c6_16_1 := q6_16_1.1
        have z6_16 : bx < w6.heap.size := ltc c6_16_0
        clear q5_13_0 c5_13_0 q5_13_1 c5_13_1 z5_13
        have q6_17_0 : CellF w6 ⟨by', 0, none⟩ (.int .i64 b1) := (by first | exact CellF.keep hb6 q5_14_0 | exact CellF.keep hb6 (CellF.past _ q5_14_0) | exact CellF.keep hb6 (CellF.past _ (CellF.past _ q5_14_0)) | exact CellF.keep hb6 (CellF.drewN _ q5_14_0))
        have c6_17_0 := q6_17_0.1
        have q6_17_1 : CellF w6 ⟨by', 1, none⟩ (.int .i64 b2) := (by first | exact CellF.keep hb6 q5_14_1 | exact CellF.keep hb6 (CellF.past _ q5_14_1) | exact CellF.keep hb6 (CellF.past _ (CellF.past _ q5_14_1)) | exact CellF.keep hb6 (CellF.drewN _ q5_14_1))
        have c6_17_1 := q6_17_1.1
        have z6_17 : by' < w6.heap.size := ltc c6_17_0
        clear q5_14_0 c5_14_0 q5_14_1 c5_14_1 z5_14
        have q6_18_0 : CellF w6 ⟨bz, 0, none⟩ (.int .i64 c1) := (by first | exact CellF.keep hb6 q5_15_0 | exact CellF.keep hb6 (CellF.past _ q5_15_0) | exact CellF.keep hb6 (CellF.past _ (CellF.past _ q5_15_0)) | exact CellF.keep hb6 (CellF.drewN _ q5_15_0))
        have c6_18_0 := q6_18_0.1
        have q6_18_1 : CellF w6 ⟨bz, 1, none⟩ (.int .i64 c2) := (by first | exact CellF.keep hb6 q5_15_1 | exact CellF.keep hb6 (CellF.past _ q5_15_1) | exact CellF.keep hb6 (CellF.past _ (CellF.past _ q5_15_1)) | exact CellF.keep hb6 (CellF.drewN _ q5_15_1))
        have c6_18_1 := q6_18_1.1
        have z6_18 : bz < w6.heap.size := ltc c6_18_0
        clear q5_15_0 c5_15_0 q5_15_1 c5_15_1 z5_15
        go_wp2_with fail
        refine (Less_is _ _ _ _ _ H3 _).mono ?_
        rintro e w7 ⟨rfl, hb7⟩
        go_wp2
        go_ret
        exact ⟨rfl, (by repeat (first | exact brefl _ | refine balloc ?_ _ | refine bdrewN ?_ _ | refine bset ?_ (by dsimp only; omega) _ | refine bstep ?_ (by assumption)))⟩
      | true =>
        obtain rfl := three_trans H1.out H3.out H4.out
        go_wp2_with fail
        refine (Less_is _ _ _ _ _ H0 _).mono ?_
        rintro e w1 ⟨rfl, hb1⟩
        have q1_1_0 : CellF w1 ⟨bx, 0, none⟩ (.int .i64 a1) := (by refine CellF.keep hb1 ?_; refine ⟨?_, ?_⟩ <;> go_simp)
        have c1_1_0 := q1_1_0.1
        have q1_1_1 : CellF w1 ⟨bx, 1, none⟩ (.int .i64 a2) := (by refine CellF.keep hb1 ?_; refine ⟨?_, ?_⟩ <;> go_simp)
        have c1_1_1 := q1_1_1.1
        have z1_1 : bx < w1.heap.size := ltc c1_1_0
        have q1_2_0 : CellF w1 ⟨by', 0, none⟩ (.int .i64 b1) := (by refine CellF.keep hb1 ?_; refine ⟨?_, ?_⟩ <;> go_simp)
        have c1_2_0 := q1_2_0.1
        have q1_2_1 : CellF w1 ⟨by', 1, none⟩ (.int .i64 b2) := (by refine CellF.keep hb1 ?_; refine ⟨?_, ?_⟩ <;> go_simp)
        have c1_2_1 := q1_2_1.1
        have z1_2 : by' < w1.heap.size := ltc c1_2_0
        have q1_3_0 : CellF w1 ⟨bz, 0, none⟩ (.int .i64 c1) := (by refine CellF.keep hb1 ?_; refine ⟨?_, ?_⟩ <;> go_simp)
        have c1_3_0 := q1_3_0.1
        have q1_3_1 : CellF w1 ⟨bz, 1, none⟩ (.int .i64 c2) := (by refine CellF.keep hb1 ?_; refine ⟨?_, ?_⟩ <;> go_simp)
        have c1_3_1 := q1_3_1.1
        have z1_3 : bz < w1.heap.size := ltc c1_3_0
        go_wp2_with fail
        refine (Less_is _ _ _ _ _ H1 _).mono ?_
        rintro e w2 ⟨rfl, hb2⟩
        have q2_4_0 : CellF w2 ⟨bx, 0, none⟩ (.int .i64 a1) := (by first | exact CellF.keep hb2 q1_1_0 | exact CellF.keep hb2 (CellF.past _ q1_1_0) | exact CellF.keep hb2 (CellF.past _ (CellF.past _ q1_1_0)) | exact CellF.keep hb2 (CellF.drewN _ q1_1_0))
        have c2_4_0 := q2_4_0.1
        have q2_4_1 : CellF w2 ⟨bx, 1, none⟩ (.int .i64 a2) := (by first | exact CellF.keep hb2 q1_1_1 | exact CellF.keep hb2 (CellF.past _ q1_1_1) | exact CellF.keep hb2 (CellF.past _ (CellF.past _ q1_1_1)) | exact CellF.keep hb2 (CellF.drewN _ q1_1_1))
        have c2_4_1 := q2_4_1.1
        have z2_4 : bx < w2.heap.size := ltc c2_4_0
        clear q1_1_0 c1_1_0 q1_1_1 c1_1_1 z1_1
        have q2_5_0 : CellF w2 ⟨by', 0, none⟩ (.int .i64 b1) := (by first | exact CellF.keep hb2 q1_2_0 | exact CellF.keep hb2 (CellF.past _ q1_2_0) | exact CellF.keep hb2 (CellF.past _ (CellF.past _ q1_2_0)) | exact CellF.keep hb2 (CellF.drewN _ q1_2_0))
        have c2_5_0 := q2_5_0.1
        have q2_5_1 : CellF w2 ⟨by', 1, none⟩ (.int .i64 b2) := (by first | exact CellF.keep hb2 q1_2_1 | exact CellF.keep hb2 (CellF.past _ q1_2_1) | exact CellF.keep hb2 (CellF.past _ (CellF.past _ q1_2_1)) | exact CellF.keep hb2 (CellF.drewN _ q1_2_1))
        have c2_5_1 := q2_5_1.1
        have z2_5 : by' < w2.heap.size := ltc c2_5_0
        clear q1_2_0 c1_2_0 q1_2_1 c1_2_1 z1_2
        have q2_6_0 : CellF w2 ⟨bz, 0, none⟩ (.int .i64 c1) := (by first | exact CellF.keep hb2 q1_3_0 | exact CellF.keep hb2 (CellF.past _ q1_3_0) | exact CellF.keep hb2 (CellF.past _ (CellF.past _ q1_3_0)) | exact CellF.keep hb2 (CellF.drewN _ q1_3_0))
        have c2_6_0 := q2_6_0.1
        have q2_6_1 : CellF w2 ⟨bz, 1, none⟩ (.int .i64 c2) := (by first | exact CellF.keep hb2 q1_3_1 | exact CellF.keep hb2 (CellF.past _ q1_3_1) | exact CellF.keep hb2 (CellF.past _ (CellF.past _ q1_3_1)) | exact CellF.keep hb2 (CellF.drewN _ q1_3_1))
        have c2_6_1 := q2_6_1.1
        have z2_6 : bz < w2.heap.size := ltc c2_6_0
        clear q1_3_0 c1_3_0 q1_3_1 c1_3_1 z1_3
        go_wp2_with fail
        refine (Less_is _ _ _ _ _ H2 _).mono ?_
        rintro e w3 ⟨rfl, hb3⟩
        have q3_7_0 : CellF w3 ⟨bx, 0, none⟩ (.int .i64 a1) := (by first | exact CellF.keep hb3 q2_4_0 | exact CellF.keep hb3 (CellF.past _ q2_4_0) | exact CellF.keep hb3 (CellF.past _ (CellF.past _ q2_4_0)) | exact CellF.keep hb3 (CellF.drewN _ q2_4_0))
        have c3_7_0 := q3_7_0.1
        have q3_7_1 : CellF w3 ⟨bx, 1, none⟩ (.int .i64 a2) := (by first | exact CellF.keep hb3 q2_4_1 | exact CellF.keep hb3 (CellF.past _ q2_4_1) | exact CellF.keep hb3 (CellF.past _ (CellF.past _ q2_4_1)) | exact CellF.keep hb3 (CellF.drewN _ q2_4_1))
        have c3_7_1 := q3_7_1.1
        have z3_7 : bx < w3.heap.size := ltc c3_7_0
        clear q2_4_0 c2_4_0 q2_4_1 c2_4_1 z2_4
        have q3_8_0 : CellF w3 ⟨by', 0, none⟩ (.int .i64 b1) := (by first | exact CellF.keep hb3 q2_5_0 | exact CellF.keep hb3 (CellF.past _ q2_5_0) | exact CellF.keep hb3 (CellF.past _ (CellF.past _ q2_5_0)) | exact CellF.keep hb3 (CellF.drewN _ q2_5_0))
        have c3_8_0 := q3_8_0.1
        have q3_8_1 : CellF w3 ⟨by', 1, none⟩ (.int .i64 b2) := (by first | exact CellF.keep hb3 q2_5_1 | exact CellF.keep hb3 (CellF.past _ q2_5_1) | exact CellF.keep hb3 (CellF.past _ (CellF.past _ q2_5_1)) | exact CellF.keep hb3 (CellF.drewN _ q2_5_1))
        have c3_8_1 := q3_8_1.1
        have z3_8 : by' < w3.heap.size := ltc c3_8_0
        clear q2_5_0 c2_5_0 q2_5_1 c2_5_1 z2_5
        have q3_9_0 : CellF w3 ⟨bz, 0, none⟩ (.int .i64 c1) := (by first | exact CellF.keep hb3 q2_6_0 | exact CellF.keep hb3 (CellF.past _ q2_6_0) | exact CellF.keep hb3 (CellF.past _ (CellF.past _ q2_6_0)) | exact CellF.keep hb3 (CellF.drewN _ q2_6_0))
        have c3_9_0 := q3_9_0.1
        have q3_9_1 : CellF w3 ⟨bz, 1, none⟩ (.int .i64 c2) := (by first | exact CellF.keep hb3 q2_6_1 | exact CellF.keep hb3 (CellF.past _ q2_6_1) | exact CellF.keep hb3 (CellF.past _ (CellF.past _ q2_6_1)) | exact CellF.keep hb3 (CellF.drewN _ q2_6_1))
        have c3_9_1 := q3_9_1.1
        have z3_9 : bz < w3.heap.size := ltc c3_9_0
        clear q2_6_0 c2_6_0 q2_6_1 c2_6_1 z2_6
        go_wp2_with fail
        refine (Less_is _ _ _ _ _ H1 _).mono ?_
        rintro e w4 ⟨rfl, hb4⟩
        have q4_10_0 : CellF w4 ⟨bx, 0, none⟩ (.int .i64 a1) := (by first | exact CellF.keep hb4 q3_7_0 | exact CellF.keep hb4 (CellF.past _ q3_7_0) | exact CellF.keep hb4 (CellF.past _ (CellF.past _ q3_7_0)) | exact CellF.keep hb4 (CellF.drewN _ q3_7_0))
        have c4_10_0 := q4_10_0.1
        have q4_10_1 : CellF w4 ⟨bx, 1, none⟩ (.int .i64 a2) := (by first | exact CellF.keep hb4 q3_7_1 | exact CellF.keep hb4 (CellF.past _ q3_7_1) | exact CellF.keep hb4 (CellF.past _ (CellF.past _ q3_7_1)) | exact CellF.keep hb4 (CellF.drewN _ q3_7_1))
        have c4_10_1 := q4_10_1.1
        have z4_10 : bx < w4.heap.size := ltc c4_10_0
        clear q3_7_0 c3_7_0 q3_7_1 c3_7_1 z3_7
        have q4_11_0 : CellF w4 ⟨by', 0, none⟩ (.int .i64 b1) := (by first | exact CellF.keep hb4 q3_8_0 | exact CellF.keep hb4 (CellF.past _ q3_8_0) | exact CellF.keep hb4 (CellF.past _ (CellF.past _ q3_8_0)) | exact CellF.keep hb4 (CellF.drewN _ q3_8_0))
        have c4_11_0 := q4_11_0.1
        have q4_11_1 : CellF w4 ⟨by', 1, none⟩ (.int .i64 b2) := (by first | exact CellF.keep hb4 q3_8_1 | exact CellF.keep hb4 (CellF.past _ q3_8_1) | exact CellF.keep hb4 (CellF.past _ (CellF.past _ q3_8_1)) | exact CellF.keep hb4 (CellF.drewN _ q3_8_1))
        have c4_11_1 := q4_11_1.1
        have z4_11 : by' < w4.heap.size := ltc c4_11_0
        clear q3_8_0 c3_8_0 q3_8_1 c3_8_1 z3_8
        have q4_12_0 : CellF w4 ⟨bz, 0, none⟩ (.int .i64 c1) := (by first | exact CellF.keep hb4 q3_9_0 | exact CellF.keep hb4 (CellF.past _ q3_9_0) | exact CellF.keep hb4 (CellF.past _ (CellF.past _ q3_9_0)) | exact CellF.keep hb4 (CellF.drewN _ q3_9_0))
        have c4_12_0 := q4_12_0.1
        have q4_12_1 : CellF w4 ⟨bz, 1, none⟩ (.int .i64 c2) := (by first | exact CellF.keep hb4 q3_9_1 | exact CellF.keep hb4 (CellF.past _ q3_9_1) | exact CellF.keep hb4 (CellF.past _ (CellF.past _ q3_9_1)) | exact CellF.keep hb4 (CellF.drewN _ q3_9_1))
        have c4_12_1 := q4_12_1.1
        have z4_12 : bz < w4.heap.size := ltc c4_12_0
        clear q3_9_0 c3_9_0 q3_9_1 c3_9_1 z3_9
        go_wp2_with fail
        refine (alive_is _).mono ?_
        rintro e w5 ⟨rfl, hb5⟩
        have q5_13_0 : CellF w5 ⟨bx, 0, none⟩ (.int .i64 a1) := (by first | exact CellF.keep hb5 q4_10_0 | exact CellF.keep hb5 (CellF.past _ q4_10_0) | exact CellF.keep hb5 (CellF.past _ (CellF.past _ q4_10_0)) | exact CellF.keep hb5 (CellF.drewN _ q4_10_0))
        have c5_13_0 := q5_13_0.1
        have q5_13_1 : CellF w5 ⟨bx, 1, none⟩ (.int .i64 a2) := (by first | exact CellF.keep hb5 q4_10_1 | exact CellF.keep hb5 (CellF.past _ q4_10_1) | exact CellF.keep hb5 (CellF.past _ (CellF.past _ q4_10_1)) | exact CellF.keep hb5 (CellF.drewN _ q4_10_1))
        have c5_13_1 := q5_13_1.1
        have z5_13 : bx < w5.heap.size := ltc c5_13_0
        clear q4_10_0 c4_10_0 q4_10_1 c4_10_1 z4_10
        have q5_14_0 : CellF w5 ⟨by', 0, none⟩ (.int .i64 b1) := (by first | exact CellF.keep hb5 q4_11_0 | exact CellF.keep hb5 (CellF.past _ q4_11_0) | exact CellF.keep hb5 (CellF.past _ (CellF.past _ q4_11_0)) | exact CellF.keep hb5 (CellF.drewN _ q4_11_0))
        have c5_14_0 := q5_14_0.1
        have q5_14_1 : CellF w5 ⟨by', 1, none⟩ (.int .i64 b2) := (by first | exact CellF.keep hb5 q4_11_1 | exact CellF.keep hb5 (CellF.past _ q4_11_1) | exact CellF.keep hb5 (CellF.past _ (CellF.past _ q4_11_1)) | exact CellF.keep hb5 (CellF.drewN _ q4_11_1))
        have c5_14_1 := q5_14_1.1
        have z5_14 : by' < w5.heap.size := ltc c5_14_0
        clear q4_11_0 c4_11_0 q4_11_1 c4_11_1 z4_11
        have q5_15_0 : CellF w5 ⟨bz, 0, none⟩ (.int .i64 c1) := (by first | exact CellF.keep hb5 q4_12_0 | exact CellF.keep hb5 (CellF.past _ q4_12_0) | exact CellF.keep hb5 (CellF.past _ (CellF.past _ q4_12_0)) | exact CellF.keep hb5 (CellF.drewN _ q4_12_0))
        have c5_15_0 := q5_15_0.1
        have q5_15_1 : CellF w5 ⟨bz, 1, none⟩ (.int .i64 c2) := (by first | exact CellF.keep hb5 q4_12_1 | exact CellF.keep hb5 (CellF.past _ q4_12_1) | exact CellF.keep hb5 (CellF.past _ (CellF.past _ q4_12_1)) | exact CellF.keep hb5 (CellF.drewN _ q4_12_1))
        have c5_15_1 := q5_15_1.1
        have z5_15 : bz < w5.heap.size := ltc c5_15_0
        clear q4_12_0 c4_12_0 q4_12_1 c4_12_1 z4_12
        go_wp2_with fail
        refine (Less_is _ _ _ _ _ H1 _).mono ?_
        rintro e w6 ⟨rfl, hb6⟩
        have q6_16_0 : CellF w6 ⟨bx, 0, none⟩ (.int .i64 a1) := (by first | exact CellF.keep hb6 q5_13_0 | exact CellF.keep hb6 (CellF.past _ q5_13_0) | exact CellF.keep hb6 (CellF.past _ (CellF.past _ q5_13_0)) | exact CellF.keep hb6 (CellF.drewN _ q5_13_0))
        have c6_16_0 := q6_16_0.1
        have q6_16_1 : CellF w6 ⟨bx, 1, none⟩ (.int .i64 a2) := (by first | exact CellF.keep hb6 q5_13_1 | exact CellF.keep hb6 (CellF.past _ q5_13_1) | exact CellF.keep hb6 (CellF.past _ (CellF.past _ q5_13_1)) | exact CellF.keep hb6 (CellF.drewN _ q5_13_1))
        have c6_16_1 := q6_16_1.1
        have z6_16 : bx < w6.heap.size := ltc c6_16_0
        clear q5_13_0 c5_13_0 q5_13_1 c5_13_1 z5_13
        have q6_17_0 : CellF w6 ⟨by', 0, none⟩ (.int .i64 b1) := (by first | exact CellF.keep hb6 q5_14_0 | exact CellF.keep hb6 (CellF.past _ q5_14_0) | exact CellF.keep hb6 (CellF.past _ (CellF.past _ q5_14_0)) | exact CellF.keep hb6 (CellF.drewN _ q5_14_0))
        have c6_17_0 := q6_17_0.1
        have q6_17_1 : CellF w6 ⟨by', 1, none⟩ (.int .i64 b2) := (by first | exact CellF.keep hb6 q5_14_1 | exact CellF.keep hb6 (CellF.past _ q5_14_1) | exact CellF.keep hb6 (CellF.past _ (CellF.past _ q5_14_1)) | exact CellF.keep hb6 (CellF.drewN _ q5_14_1))
        have c6_17_1 := q6_17_1.1
        have z6_17 : by' < w6.heap.size := ltc c6_17_0
        clear q5_14_0 c5_14_0 q5_14_1 c5_14_1 z5_14
        have q6_18_0 : CellF w6 ⟨bz, 0, none⟩ (.int .i64 c1) := (by first | exact CellF.keep hb6 q5_15_0 | exact CellF.keep hb6 (CellF.past _ q5_15_0) | exact CellF.keep hb6 (CellF.past _ (CellF.past _ q5_15_0)) | exact CellF.keep hb6 (CellF.drewN _ q5_15_0))
        have c6_18_0 := q6_18_0.1
        have q6_18_1 : CellF w6 ⟨bz, 1, none⟩ (.int .i64 c2) := (by first | exact CellF.keep hb6 q5_15_1 | exact CellF.keep hb6 (CellF.past _ q5_15_1) | exact CellF.keep hb6 (CellF.past _ (CellF.past _ q5_15_1)) | exact CellF.keep hb6 (CellF.drewN _ q5_15_1))
        have c6_18_1 := q6_18_1.1
        have z6_18 : bz < w6.heap.size := ltc c6_18_0
        clear q5_15_0 c5_15_0 q5_15_1 c5_15_1 z5_15
        go_wp2_with fail
        refine (Less_is _ _ _ _ _ H3 _).mono ?_
        rintro e w7 ⟨rfl, hb7⟩
        have q7_19_0 : CellF w7 ⟨bx, 0, none⟩ (.int .i64 a1) := (by first | exact CellF.keep hb7 q6_16_0 | exact CellF.keep hb7 (CellF.past _ q6_16_0) | exact CellF.keep hb7 (CellF.past _ (CellF.past _ q6_16_0)) | exact CellF.keep hb7 (CellF.drewN _ q6_16_0))
        have c7_19_0 := q7_19_0.1
        have q7_19_1 : CellF w7 ⟨bx, 1, none⟩ (.int .i64 a2) := (by first | exact CellF.keep hb7 q6_16_1 | exact CellF.keep hb7 (CellF.past _ q6_16_1) | exact CellF.keep hb7 (CellF.past _ (CellF.past _ q6_16_1)) | exact CellF.keep hb7 (CellF.drewN _ q6_16_1))
        have c7_19_1 := q7_19_1.1
        have z7_19 : bx < w7.heap.size := ltc c7_19_0
        clear q6_16_0 c6_16_0 q6_16_1 c6_16_1 z6_16
        have q7_20_0 : CellF w7 ⟨by', 0, none⟩ (.int .i64 b1) := (by first | exact CellF.keep hb7 q6_17_0 | exact CellF.keep hb7 (CellF.past _ q6_17_0) | exact CellF.keep hb7 (CellF.past _ (CellF.past _ q6_17_0)) | exact CellF.keep hb7 (CellF.drewN _ q6_17_0))
        have c7_20_0 := q7_20_0.1
        have q7_20_1 : CellF w7 ⟨by', 1, none⟩ (.int .i64 b2) := (by first | exact CellF.keep hb7 q6_17_1 | exact CellF.keep hb7 (CellF.past _ q6_17_1) | exact CellF.keep hb7 (CellF.past _ (CellF.past _ q6_17_1)) | exact CellF.keep hb7 (CellF.drewN _ q6_17_1))
        have c7_20_1 := q7_20_1.1
        have z7_20 : by' < w7.heap.size := ltc c7_20_0
        clear q6_17_0 c6_17_0 q6_17_1 c6_17_1 z6_17
        have q7_21_0 : CellF w7 ⟨bz, 0, none⟩ (.int .i64 c1) := (by first | exact CellF.keep hb7 q6_18_0 | exact CellF.keep hb7 (CellF.past _ q6_18_0) | exact CellF.keep hb7 (CellF.past _ (CellF.past _ q6_18_0)) | exact CellF.keep hb7 (CellF.drewN _ q6_18_0))
        have c7_21_0 := q7_21_0.1
        have q7_21_1 : CellF w7 ⟨bz, 1, none⟩ (.int .i64 c2) := (by first | exact CellF.keep hb7 q6_18_1 | exact CellF.keep hb7 (CellF.past _ q6_18_1) | exact CellF.keep hb7 (CellF.past _ (CellF.past _ q6_18_1)) | exact CellF.keep hb7 (CellF.drewN _ q6_18_1))
        have c7_21_1 := q7_21_1.1
        have z7_21 : bz < w7.heap.size := ltc c7_21_0
        clear q6_18_0 c6_18_0 q6_18_1 c6_18_1 z6_18
        go_wp2_with fail
        refine (Less_is _ _ _ _ _ H4 _).mono ?_
        rintro e w8 ⟨rfl, hb8⟩
        go_wp2
        go_ret
        exact ⟨rfl, (by repeat (first | exact brefl _ | refine balloc ?_ _ | refine bdrewN ?_ _ | refine bset ?_ (by dsimp only; omega) _ | refine bstep ?_ (by assumption)))⟩
    · clear H3 H4
      go_wp2_with fail
      refine (Less_is _ _ _ _ _ H0 _).mono ?_
      rintro e w1 ⟨rfl, hb1⟩
      have q1_1_0 : CellF w1 ⟨bx, 0, none⟩ (.int .i64 a1) := (by refine CellF.keep hb1 ?_; refine ⟨?_, ?_⟩ <;> go_simp)
      have c1_1_0 := q1_1_0.1
      have q1_1_1 : CellF w1 ⟨bx, 1, none⟩ (.int .i64 a2) := (by refine CellF.keep hb1 ?_; refine ⟨?_, ?_⟩ <;> go_simp)
      have c1_1_1 := q1_1_1.1
      have z1_1 : bx < w1.heap.size := ltc c1_1_0
      have q1_2_0 : CellF w1 ⟨by', 0, none⟩ (.int .i64 b1) := (by refine CellF.keep hb1 ?_; refine ⟨?_, ?_⟩ <;> go_simp)
      have c1_2_0 := q1_2_0.1
      have q1_2_1 : CellF w1 ⟨by', 1, none⟩ (.int .i64 b2) := (by refine CellF.keep hb1 ?_; refine ⟨?_, ?_⟩ <;> go_simp)
      have c1_2_1 := q1_2_1.1
      have z1_2 : by' < w1.heap.size := ltc c1_2_0
      have q1_3_0 : CellF w1 ⟨bz, 0, none⟩ (.int .i64 c1) := (by refine CellF.keep hb1 ?_; refine ⟨?_, ?_⟩ <;> go_simp)
      have c1_3_0 := q1_3_0.1
      have q1_3_1 : CellF w1 ⟨bz, 1, none⟩ (.int .i64 c2) := (by refine CellF.keep hb1 ?_; refine ⟨?_, ?_⟩ <;> go_simp)
      have c1_3_1 := q1_3_1.1
      have z1_3 : bz < w1.heap.size := ltc c1_3_0
      go_wp2_with fail
      refine (Less_is _ _ _ _ _ H1 _).mono ?_
      rintro e w2 ⟨rfl, hb2⟩
      have q2_4_0 : CellF w2 ⟨bx, 0, none⟩ (.int .i64 a1) := (by first | exact CellF.keep hb2 q1_1_0 | exact CellF.keep hb2 (CellF.past _ q1_1_0) | exact CellF.keep hb2 (CellF.past _ (CellF.past _ q1_1_0)) | exact CellF.keep hb2 (CellF.drewN _ q1_1_0))
      have c2_4_0 := q2_4_0.1
      have q2_4_1 : CellF w2 ⟨bx, 1, none⟩ (.int .i64 a2) := (by first | exact CellF.keep hb2 q1_1_1 | exact CellF.keep hb2 (CellF.past _ q1_1_1) | exact CellF.keep hb2 (CellF.past _ (CellF.past _ q1_1_1)) | exact CellF.keep hb2 (CellF.drewN _ q1_1_1))
      have c2_4_1 := q2_4_1.1
      have z2_4 : bx < w2.heap.size := ltc c2_4_0
      clear q1_1_0 c1_1_0 q1_1_1 c1_1_1 z1_1
      have q2_5_0 : CellF w2 ⟨by', 0, none⟩ (.int .i64 b1) := (by first | exact CellF.keep hb2 q1_2_0 | exact CellF.keep hb2 (CellF.past _ q1_2_0) | exact CellF.keep hb2 (CellF.past _ (CellF.past _ q1_2_0)) | exact CellF.keep hb2 (CellF.drewN _ q1_2_0))
      have c2_5_0 := q2_5_0.1
      have q2_5_1 : CellF w2 ⟨by', 1, none⟩ (.int .i64 b2) := (by first | exact CellF.keep hb2 q1_2_1 | exact CellF.keep hb2 (CellF.past _ q1_2_1) | exact CellF.keep hb2 (CellF.past _ (CellF.past _ q1_2_1)) | exact CellF.keep hb2 (CellF.drewN _ q1_2_1))
      have c2_5_1 := q2_5_1.1
      have z2_5 : by' < w2.heap.size := ltc c2_5_0
      clear q1_2_0 c1_2_0 q1_2_1 c1_2_1 z1_2
      have q2_6_0 : CellF w2 ⟨bz, 0, none⟩ (.int .i64 c1) := (by first | exact CellF.keep hb2 q1_3_0 | exact CellF.keep hb2 (CellF.past _ q1_3_0) | exact CellF.keep hb2 (CellF.past _ (CellF.past _ q1_3_0)) | exact CellF.keep hb2 (CellF.drewN _ q1_3_0))
      have c2_6_0 := q2_6_0.1
      have q2_6_1 : CellF w2 ⟨bz, 1, none⟩ (.int .i64 c2) := (by first | exact CellF.keep hb2 q1_3_1 | exact CellF.keep hb2 (CellF.past _ q1_3_1) | exact CellF.keep hb2 (CellF.past _ (CellF.past _ q1_3_1)) | exact CellF.keep hb2 (CellF.drewN _ q1_3_1))
      have c2_6_1 := q2_6_1.1
      have z2_6 : bz < w2.heap.size := ltc c2_6_0
      clear q1_3_0 c1_3_0 q1_3_1 c1_3_1 z1_3
      go_wp2_with fail
      refine (Less_is _ _ _ _ _ H1 _).mono ?_
      rintro e w3 ⟨rfl, hb3⟩
      have q3_7_0 : CellF w3 ⟨bx, 0, none⟩ (.int .i64 a1) := (by first | exact CellF.keep hb3 q2_4_0 | exact CellF.keep hb3 (CellF.past _ q2_4_0) | exact CellF.keep hb3 (CellF.past _ (CellF.past _ q2_4_0)) | exact CellF.keep hb3 (CellF.drewN _ q2_4_0))
      have c3_7_0 := q3_7_0.1
      have q3_7_1 : CellF w3 ⟨bx, 1, none⟩ (.int .i64 a2) := (by first | exact CellF.keep hb3 q2_4_1 | exact CellF.keep hb3 (CellF.past _ q2_4_1) | exact CellF.keep hb3 (CellF.past _ (CellF.past _ q2_4_1)) | exact CellF.keep hb3 (CellF.drewN _ q2_4_1))
      have c3_7_1 := q3_7_1.1
      have z3_7 : bx < w3.heap.size := ltc c3_7_0
      clear q2_4_0 c2_4_0 q2_4_1 c2_4_1 z2_4
      have q3_8_0 : CellF w3 ⟨by', 0, none⟩ (.int .i64 b1) := (by first | exact CellF.keep hb3 q2_5_0 | exact CellF.keep hb3 (CellF.past _ q2_5_0) | exact CellF.keep hb3 (CellF.past _ (CellF.past _ q2_5_0)) | exact CellF.keep hb3 (CellF.drewN _ q2_5_0))
      have c3_8_0 := q3_8_0.1
      have q3_8_1 : CellF w3 ⟨by', 1, none⟩ (.int .i64 b2) := (by first | exact CellF.keep hb3 q2_5_1 | exact CellF.keep hb3 (CellF.past _ q2_5_1) | exact CellF.keep hb3 (CellF.past _ (CellF.past _ q2_5_1)) | exact CellF.keep hb3 (CellF.drewN _ q2_5_1))
      have c3_8_1 := q3_8_1.1
      have z3_8 : by' < w3.heap.size := ltc c3_8_0
      clear q2_5_0 c2_5_0 q2_5_1 c2_5_1 z2_5
      have q3_9_0 : CellF w3 ⟨bz, 0, none⟩ (.int .i64 c1) := (by first | exact CellF.keep hb3 q2_6_0 | exact CellF.keep hb3 (CellF.past _ q2_6_0) | exact CellF.keep hb3 (CellF.past _ (CellF.past _ q2_6_0)) | exact CellF.keep hb3 (CellF.drewN _ q2_6_0))
      have c3_9_0 := q3_9_0.1
      have q3_9_1 : CellF w3 ⟨bz, 1, none⟩ (.int .i64 c2) := (by first | exact CellF.keep hb3 q2_6_1 | exact CellF.keep hb3 (CellF.past _ q2_6_1) | exact CellF.keep hb3 (CellF.past _ (CellF.past _ q2_6_1)) | exact CellF.keep hb3 (CellF.drewN _ q2_6_1))
      have c3_9_1 := q3_9_1.1
      have z3_9 : bz < w3.heap.size := ltc c3_9_0
      clear q2_6_0 c2_6_0 q2_6_1 c2_6_1 z2_6
      go_wp2_with fail
      refine (Less_is _ _ _ _ _ H2 _).mono ?_
      rintro e w4 ⟨rfl, hb4⟩
      have q4_10_0 : CellF w4 ⟨bx, 0, none⟩ (.int .i64 a1) := (by first | exact CellF.keep hb4 q3_7_0 | exact CellF.keep hb4 (CellF.past _ q3_7_0) | exact CellF.keep hb4 (CellF.past _ (CellF.past _ q3_7_0)) | exact CellF.keep hb4 (CellF.drewN _ q3_7_0))
      have c4_10_0 := q4_10_0.1
      have q4_10_1 : CellF w4 ⟨bx, 1, none⟩ (.int .i64 a2) := (by first | exact CellF.keep hb4 q3_7_1 | exact CellF.keep hb4 (CellF.past _ q3_7_1) | exact CellF.keep hb4 (CellF.past _ (CellF.past _ q3_7_1)) | exact CellF.keep hb4 (CellF.drewN _ q3_7_1))
      have c4_10_1 := q4_10_1.1
      have z4_10 : bx < w4.heap.size := ltc c4_10_0
      clear q3_7_0 c3_7_0 q3_7_1 c3_7_1 z3_7
      have q4_11_0 : CellF w4 ⟨by', 0, none⟩ (.int .i64 b1) := (by first | exact CellF.keep hb4 q3_8_0 | exact CellF.keep hb4 (CellF.past _ q3_8_0) | exact CellF.keep hb4 (CellF.past _ (CellF.past _ q3_8_0)) | exact CellF.keep hb4 (CellF.drewN _ q3_8_0))
      have c4_11_0 := q4_11_0.1
      have q4_11_1 : CellF w4 ⟨by', 1, none⟩ (.int .i64 b2) := (by first | exact CellF.keep hb4 q3_8_1 | exact CellF.keep hb4 (CellF.past _ q3_8_1) | exact CellF.keep hb4 (CellF.past _ (CellF.past _ q3_8_1)) | exact CellF.keep hb4 (CellF.drewN _ q3_8_1))
      have c4_11_1 := q4_11_1.1
      have z4_11 : by' < w4.heap.size := ltc c4_11_0
      clear q3_8_0 c3_8_0 q3_8_1 c3_8_1 z3_8
      have q4_12_0 : CellF w4 ⟨bz, 0, none⟩ (.int .i64 c1) := (by first | exact CellF.keep hb4 q3_9_0 | exact CellF.keep hb4 (CellF.past _ q3_9_0) | exact CellF.keep hb4 (CellF.past _ (CellF.past _ q3_9_0)) | exact CellF.keep hb4 (CellF.drewN _ q3_9_0))
      have c4_12_0 := q4_12_0.1
      have q4_12_1 : CellF w4 ⟨bz, 1, none⟩ (.int .i64 c2) := (by first | exact CellF.keep hb4 q3_9_1 | exact CellF.keep hb4 (CellF.past _ q3_9_1) | exact CellF.keep hb4 (CellF.past _ (CellF.past _ q3_9_1)) | exact CellF.keep hb4 (CellF.drewN _ q3_9_1))
      have c4_12_1 := q4_12_1.1
      have z4_12 : bz < w4.heap.size := ltc c4_12_0
      clear q3_9_0 c3_9_0 q3_9_1 c3_9_1 z3_9
      go_wp2_with fail
      refine (alive_is _).mono ?_
      rintro e w5 ⟨rfl, hb5⟩
      have q5_13_0 : CellF w5 ⟨bx, 0, none⟩ (.int .i64 a1) := (by first | exact CellF.keep hb5 q4_10_0 | exact CellF.keep hb5 (CellF.past _ q4_10_0) | exact CellF.keep hb5 (CellF.past _ (CellF.past _ q4_10_0)) | exact CellF.keep hb5 (CellF.drewN _ q4_10_0))
      have c5_13_0 := q5_13_0.1
      have q5_13_1 : CellF w5 ⟨bx, 1, none⟩ (.int .i64 a2) := (by first | exact CellF.keep hb5 q4_10_1 | exact CellF.keep hb5 (CellF.past _ q4_10_1) | exact CellF.keep hb5 (CellF.past _ (CellF.past _ q4_10_1)) | exact CellF.keep hb5 (CellF.drewN _ q4_10_1))
      have c5_13_1 := q5_13_1.1
      have z5_13 : bx < w5.heap.size := ltc c5_13_0
      clear q4_10_0 c4_10_0 q4_10_1 c4_10_1 z4_10
      have q5_14_0 : CellF w5 ⟨by', 0, none⟩ (.int .i64 b1) := (by first | exact CellF.keep hb5 q4_11_0 | exact CellF.keep hb5 (CellF.past _ q4_11_0) | exact CellF.keep hb5 (CellF.past _ (CellF.past _ q4_11_0)) | exact CellF.keep hb5 (CellF.drewN _ q4_11_0))
      have c5_14_0 := q5_14_0.1
      have q5_14_1 : CellF w5 ⟨by', 1, none⟩ (.int .i64 b2) := (by first | exact CellF.keep hb5 q4_11_1 | exact CellF.keep hb5 (CellF.past _ q4_11_1) | exact CellF.keep hb5 (CellF.past _ (CellF.past _ q4_11_1)) | exact CellF.keep hb5 (CellF.drewN _ q4_11_1))
      have c5_14_1 := q5_14_1.1
      have z5_14 : by' < w5.heap.size := ltc c5_14_0
      clear q4_11_0 c4_11_0 q4_11_1 c4_11_1 z4_11
      have q5_15_0 : CellF w5 ⟨bz, 0, none⟩ (.int .i64 c1) := (by first | exact CellF.keep hb5 q4_12_0 | exact CellF.keep hb5 (CellF.past _ q4_12_0) | exact CellF.keep hb5 (CellF.past _ (CellF.past _ q4_12_0)) | exact CellF.keep hb5 (CellF.drewN _ q4_12_0))
      have c5_15_0 := q5_15_0.1
      have q5_15_1 : CellF w5 ⟨bz, 1, none⟩ (.int .i64 c2) := (by first | exact CellF.keep hb5 q4_12_1 | exact CellF.keep hb5 (CellF.past _ q4_12_1) | exact CellF.keep hb5 (CellF.past _ (CellF.past _ q4_12_1)) | exact CellF.keep hb5 (CellF.drewN _ q4_12_1))
      have c5_15_1 := q5_15_1.1
      have z5_15 : bz < w5.heap.size := ltc c5_15_0
      clear q4_12_0 c4_12_0 q4_12_1 c4_12_1 z4_12
      go_wp2_with fail
      refine (Less_is _ _ _ _ _ H1 _).mono ?_
      rintro e w6 ⟨rfl, hb6⟩
      go_wp2
      go_ret
      exact ⟨rfl, (by repeat (first | exact brefl _ | refine balloc ?_ _ | refine bdrewN ?_ _ | refine bset ?_ (by dsimp only; omega) _ | refine bstep ?_ (by assumption)))⟩
    · clear H3 H4
      go_wp2_with fail
      refine (Less_is _ _ _ _ _ H0 _).mono ?_
      rintro e w1 ⟨rfl, hb1⟩
      have q1_1_0 : CellF w1 ⟨bx, 0, none⟩ (.int .i64 a1) := (by refine CellF.keep hb1 ?_; refine ⟨?_, ?_⟩ <;> go_simp)
      have c1_1_0 := q1_1_0.1
      have q1_1_1 : CellF w1 ⟨bx, 1, none⟩ (.int .i64 a2) := (by refine CellF.keep hb1 ?_; refine ⟨?_, ?_⟩ <;> go_simp)
      have c1_1_1 := q1_1_1.1
      have z1_1 : bx < w1.heap.size := ltc c1_1_0
      have q1_2_0 : CellF w1 ⟨by', 0, none⟩ (.int .i64 a1) := (by refine CellF.keep hb1 ?_; refine ⟨?_, ?_⟩ <;> go_simp)
      have c1_2_0 := q1_2_0.1
      have q1_2_1 : CellF w1 ⟨by', 1, none⟩ (.int .i64 a2) := (by refine CellF.keep hb1 ?_; refine ⟨?_, ?_⟩ <;> go_simp)
      have c1_2_1 := q1_2_1.1
      have z1_2 : by' < w1.heap.size := ltc c1_2_0
      have q1_3_0 : CellF w1 ⟨bz, 0, none⟩ (.int .i64 c1) := (by refine CellF.keep hb1 ?_; refine ⟨?_, ?_⟩ <;> go_simp)
      have c1_3_0 := q1_3_0.1
      have q1_3_1 : CellF w1 ⟨bz, 1, none⟩ (.int .i64 c2) := (by refine CellF.keep hb1 ?_; refine ⟨?_, ?_⟩ <;> go_simp)
      have c1_3_1 := q1_3_1.1
      have z1_3 : bz < w1.heap.size := ltc c1_3_0
      go_wp2_with fail
      refine (Less_is _ _ _ _ _ H1 _).mono ?_
      rintro e w2 ⟨rfl, hb2⟩
      have q2_4_0 : CellF w2 ⟨bx, 0, none⟩ (.int .i64 a1) := (by first | exact CellF.keep hb2 q1_1_0 | exact CellF.keep hb2 (CellF.past _ q1_1_0) | exact CellF.keep hb2 (CellF.past _ (CellF.past _ q1_1_0)) | exact CellF.keep hb2 (CellF.drewN _ q1_1_0))
      have c2_4_0 := q2_4_0.1
      have q2_4_1 : CellF w2 ⟨bx, 1, none⟩ (.int .i64 a2) := (by first | exact CellF.keep hb2 q1_1_1 | exact CellF.keep hb2 (CellF.past _ q1_1_1) | exact CellF.keep hb2 (CellF.past _ (CellF.past _ q1_1_1)) | exact CellF.keep hb2 (CellF.drewN _ q1_1_1))
      have c2_4_1 := q2_4_1.1
      have z2_4 : bx < w2.heap.size := ltc c2_4_0
      clear q1_1_0 c1_1_0 q1_1_1 c1_1_1 z1_1
      have q2_5_0 : CellF w2 ⟨by', 0, none⟩ (.int .i64 a1) := (by first | exact CellF.keep hb2 q1_2_0 | exact CellF.keep hb2 (CellF.past _ q1_2_0) | exact CellF.keep hb2 (CellF.past _ (CellF.past _ q1_2_0)) | exact CellF.keep hb2 (CellF.drewN _ q1_2_0))
      have c2_5_0 := q2_5_0.1
      have q2_5_1 : CellF w2 ⟨by', 1, none⟩ (.int .i64 a2) := (by first | exact CellF.keep hb2 q1_2_1 | exact CellF.keep hb2 (CellF.past _ q1_2_1) | exact CellF.keep hb2 (CellF.past _ (CellF.past _ q1_2_1)) | exact CellF.keep hb2 (CellF.drewN _ q1_2_1))
      have c2_5_1 := q2_5_1.1
      have z2_5 : by' < w2.heap.size := ltc c2_5_0
      clear q1_2_0 c1_2_0 q1_2_1 c1_2_1 z1_2
      have q2_6_0 : CellF w2 ⟨bz, 0, none⟩ (.int .i64 c1) := (by first | exact CellF.keep hb2 q1_3_0 | exact CellF.keep hb2 (CellF.past _ q1_3_0) | exact CellF.keep hb2 (CellF.past _ (CellF.past _ q1_3_0)) | exact CellF.keep hb2 (CellF.drewN _ q1_3_0))
      have c2_6_0 := q2_6_0.1
      have q2_6_1 : CellF w2 ⟨bz, 1, none⟩ (.int .i64 c2) := (by first | exact CellF.keep hb2 q1_3_1 | exact CellF.keep hb2 (CellF.past _ q1_3_1) | exact CellF.keep hb2 (CellF.past _ (CellF.past _ q1_3_1)) | exact CellF.keep hb2 (CellF.drewN _ q1_3_1))
      have c2_6_1 := q2_6_1.1
      have z2_6 : bz < w2.heap.size := ltc c2_6_0
      clear q1_3_0 c1_3_0 q1_3_1 c1_3_1 z1_3
      go_wp2_with fail
      refine (Less_is _ _ _ _ _ H1 _).mono ?_
      rintro e w3 ⟨rfl, hb3⟩
      have q3_7_0 : CellF w3 ⟨bx, 0, none⟩ (.int .i64 a1) := (by first | exact CellF.keep hb3 q2_4_0 | exact CellF.keep hb3 (CellF.past _ q2_4_0) | exact CellF.keep hb3 (CellF.past _ (CellF.past _ q2_4_0)) | exact CellF.keep hb3 (CellF.drewN _ q2_4_0))
      have c3_7_0 := q3_7_0.1
      have q3_7_1 : CellF w3 ⟨bx, 1, none⟩ (.int .i64 a2) := (by first | exact CellF.keep hb3 q2_4_1 | exact CellF.keep hb3 (CellF.past _ q2_4_1) | exact CellF.keep hb3 (CellF.past _ (CellF.past _ q2_4_1)) | exact CellF.keep hb3 (CellF.drewN _ q2_4_1))
      have c3_7_1 := q3_7_1.1
      have z3_7 : bx < w3.heap.size := ltc c3_7_0
      clear q2_4_0 c2_4_0 q2_4_1 c2_4_1 z2_4
      have q3_8_0 : CellF w3 ⟨by', 0, none⟩ (.int .i64 a1) := (by first | exact CellF.keep hb3 q2_5_0 | exact CellF.keep hb3 (CellF.past _ q2_5_0) | exact CellF.keep hb3 (CellF.past _ (CellF.past _ q2_5_0)) | exact CellF.keep hb3 (CellF.drewN _ q2_5_0))
      have c3_8_0 := q3_8_0.1
      have q3_8_1 : CellF w3 ⟨by', 1, none⟩ (.int .i64 a2) := (by first | exact CellF.keep hb3 q2_5_1 | exact CellF.keep hb3 (CellF.past _ q2_5_1) | exact CellF.keep hb3 (CellF.past _ (CellF.past _ q2_5_1)) | exact CellF.keep hb3 (CellF.drewN _ q2_5_1))
      have c3_8_1 := q3_8_1.1
      have z3_8 : by' < w3.heap.size := ltc c3_8_0
      clear q2_5_0 c2_5_0 q2_5_1 c2_5_1 z2_5
      have q3_9_0 : CellF w3 ⟨bz, 0, none⟩ (.int .i64 c1) := (by first | exact CellF.keep hb3 q2_6_0 | exact CellF.keep hb3 (CellF.past _ q2_6_0) | exact CellF.keep hb3 (CellF.past _ (CellF.past _ q2_6_0)) | exact CellF.keep hb3 (CellF.drewN _ q2_6_0))
      have c3_9_0 := q3_9_0.1
      have q3_9_1 : CellF w3 ⟨bz, 1, none⟩ (.int .i64 c2) := (by first | exact CellF.keep hb3 q2_6_1 | exact CellF.keep hb3 (CellF.past _ q2_6_1) | exact CellF.keep hb3 (CellF.past _ (CellF.past _ q2_6_1)) | exact CellF.keep hb3 (CellF.drewN _ q2_6_1))
      have c3_9_1 := q3_9_1.1
      have z3_9 : bz < w3.heap.size := ltc c3_9_0
      clear q2_6_0 c2_6_0 q2_6_1 c2_6_1 z2_6
      go_wp2_with fail
      refine (Less_is _ _ _ _ _ H2 _).mono ?_
      rintro e w4 ⟨rfl, hb4⟩
      have q4_10_0 : CellF w4 ⟨bx, 0, none⟩ (.int .i64 a1) := (by first | exact CellF.keep hb4 q3_7_0 | exact CellF.keep hb4 (CellF.past _ q3_7_0) | exact CellF.keep hb4 (CellF.past _ (CellF.past _ q3_7_0)) | exact CellF.keep hb4 (CellF.drewN _ q3_7_0))
      have c4_10_0 := q4_10_0.1
      have q4_10_1 : CellF w4 ⟨bx, 1, none⟩ (.int .i64 a2) := (by first | exact CellF.keep hb4 q3_7_1 | exact CellF.keep hb4 (CellF.past _ q3_7_1) | exact CellF.keep hb4 (CellF.past _ (CellF.past _ q3_7_1)) | exact CellF.keep hb4 (CellF.drewN _ q3_7_1))
      have c4_10_1 := q4_10_1.1
      have z4_10 : bx < w4.heap.size := ltc c4_10_0
      clear q3_7_0 c3_7_0 q3_7_1 c3_7_1 z3_7
      have q4_11_0 : CellF w4 ⟨by', 0, none⟩ (.int .i64 a1) := (by first | exact CellF.keep hb4 q3_8_0 | exact CellF.keep hb4 (CellF.past _ q3_8_0) | exact CellF.keep hb4 (CellF.past _ (CellF.past _ q3_8_0)) | exact CellF.keep hb4 (CellF.drewN _ q3_8_0))
      have c4_11_0 := q4_11_0.1
      have q4_11_1 : CellF w4 ⟨by', 1, none⟩ (.int .i64 a2) := (by first | exact CellF.keep hb4 q3_8_1 | exact CellF.keep hb4 (CellF.past _ q3_8_1) | exact CellF.keep hb4 (CellF.past _ (CellF.past _ q3_8_1)) | exact CellF.keep hb4 (CellF.drewN _ q3_8_1))
      have c4_11_1 := q4_11_1.1
      have z4_11 : by' < w4.heap.size := ltc c4_11_0
      clear q3_8_0 c3_8_0 q3_8_1 c3_8_1 z3_8
      have q4_12_0 : CellF w4 ⟨bz, 0, none⟩ (.int .i64 c1) := (by first | exact CellF.keep hb4 q3_9_0 | exact CellF.keep hb4 (CellF.past _ q3_9_0) | exact CellF.keep hb4 (CellF.past _ (CellF.past _ q3_9_0)) | exact CellF.keep hb4 (CellF.drewN _ q3_9_0))
      have c4_12_0 := q4_12_0.1
      have q4_12_1 : CellF w4 ⟨bz, 1, none⟩ (.int .i64 c2) := (by first | exact CellF.keep hb4 q3_9_1 | exact CellF.keep hb4 (CellF.past _ q3_9_1) | exact CellF.keep hb4 (CellF.past _ (CellF.past _ q3_9_1)) | exact CellF.keep hb4 (CellF.drewN _ q3_9_1))
      have c4_12_1 := q4_12_1.1
      have z4_12 : bz < w4.heap.size := ltc c4_12_0
      clear q3_9_0 c3_9_0 q3_9_1 c3_9_1 z3_9
      go_wp2_with fail
      refine (alive_is _).mono ?_
      rintro e w5 ⟨rfl, hb5⟩
      have q5_13_0 : CellF w5 ⟨bx, 0, none⟩ (.int .i64 a1) := (by first | exact CellF.keep hb5 q4_10_0 | exact CellF.keep hb5 (CellF.past _ q4_10_0) | exact CellF.keep hb5 (CellF.past _ (CellF.past _ q4_10_0)) | exact CellF.keep hb5 (CellF.drewN _ q4_10_0))
      have c5_13_0 := q5_13_0.1
      have q5_13_1 : CellF w5 ⟨bx, 1, none⟩ (.int .i64 a2) := (by first | exact CellF.keep hb5 q4_10_1 | exact CellF.keep hb5 (CellF.past _ q4_10_1) | exact CellF.keep hb5 (CellF.past _ (CellF.past _ q4_10_1)) | exact CellF.keep hb5 (CellF.drewN _ q4_10_1))
      have c5_13_1 := q5_13_1.1
      have z5_13 : bx < w5.heap.size := ltc c5_13_0
      clear q4_10_0 c4_10_0 q4_10_1 c4_10_1 z4_10
      have q5_14_0 : CellF w5 ⟨by', 0, none⟩ (.int .i64 a1) := (by first | exact CellF.keep hb5 q4_11_0 | exact CellF.keep hb5 (CellF.past _ q4_11_0) | exact CellF.keep hb5 (CellF.past _ (CellF.past _ q4_11_0)) | exact CellF.keep hb5 (CellF.drewN _ q4_11_0))
      have c5_14_0 := q5_14_0.1
      have q5_14_1 : CellF w5 ⟨by', 1, none⟩ (.int .i64 a2) := (by first | exact CellF.keep hb5 q4_11_1 | exact CellF.keep hb5 (CellF.past _ q4_11_1) | exact CellF.keep hb5 (CellF.past _ (CellF.past _ q4_11_1)) | exact CellF.keep hb5 (CellF.drewN _ q4_11_1))
      have c5_14_1 := q5_14_1.1
      have z5_14 : by' < w5.heap.size := ltc c5_14_0
      clear q4_11_0 c4_11_0 q4_11_1 c4_11_1 z4_11
      have q5_15_0 : CellF w5 ⟨bz, 0, none⟩ (.int .i64 c1) := (by first | exact CellF.keep hb5 q4_12_0 | exact CellF.keep hb5 (CellF.past _ q4_12_0) | exact CellF.keep hb5 (CellF.past _ (CellF.past _ q4_12_0)) | exact CellF.keep hb5 (CellF.drewN _ q4_12_0))
      have c5_15_0 := q5_15_0.1
      have q5_15_1 : CellF w5 ⟨bz, 1, none⟩ (.int .i64 c2) := (by first | exact CellF.keep hb5 q4_12_1 | exact CellF.keep hb5 (CellF.past _ q4_12_1) | exact CellF.keep hb5 (CellF.past _ (CellF.past _ q4_12_1)) | exact CellF.keep hb5 (CellF.drewN _ q4_12_1))
      have c5_15_1 := q5_15_1.1
      have z5_15 : bz < w5.heap.size := ltc c5_15_0
      clear q4_12_0 c4_12_0 q4_12_1 c4_12_1 z4_12
      go_wp2_with fail
      refine (Less_is _ _ _ _ _ H1 _).mono ?_
      rintro e w6 ⟨rfl, hb6⟩
      go_wp2
      go_ret
      exact ⟨rfl, (by repeat (first | exact brefl _ | refine balloc ?_ _ | refine bdrewN ?_ _ | refine bset ?_ (by dsimp only; omega) _ | refine bstep ?_ (by assumption)))⟩
end Go.Proofs.Ytoijjnhlmndhpaa
