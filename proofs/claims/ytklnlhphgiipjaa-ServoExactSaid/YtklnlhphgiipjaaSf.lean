/-
  The walks of package span's Unknown, Meet, Hull, Drift.
-/
import Derived.Test.YtklnlhphgiipjaaSe
namespace Go.Proofs.Ytklnlhphgiipjaa
open Go.RowKit

set_option maxHeartbeats 1000000 in
theorem Meet_is (lo hi lo2 hi2 x y : Int) (k k2 z : Bool) (H : Hid (spMeet ⟨lo, hi, k⟩ ⟨lo2, hi2, k2⟩ = ⟨x, y, z⟩)) (w : World) :
    Calls Try.prog 31 #[.agg #[.int .i64 lo, .int .i64 hi, .bool k], .agg #[.int .i64 lo2, .int .i64 hi2, .bool k2]] w fun e w' => e = .returned (.agg #[.int .i64 x, .int .i64 y, .bool z]) ∧ Below w.heap.size w w' := by
  obtain ⟨q, hq⟩ : ∃ q, spK ⟨lo, hi, k⟩ = q := ⟨_, rfl⟩
  obtain ⟨r, hr⟩ : ∃ q, spK ⟨lo2, hi2, k2⟩ = q := ⟨_, rfl⟩
  have hp := H.out
  unfold spMeet at hp
  rw [hq, hr] at hp
  have HQ := Lib.hid hq
  have HR := Lib.hid hr
  clear H hq hr
  cases q with
  | false =>
    cases r with
    | false =>
      cases hp
      go_enter Try.func31, Try.ntmps31
      go_wp2_with fail
      refine (known1 _ _ _ _ HQ _ _ (by go_simp) (by go_simp) (by go_simp)).mono ?_
      rintro e w1 ⟨rfl, hb1⟩
      have q1_1_0 : CellF w1 ⟨w.heap.size, 0, none⟩ (.int .i64 lo) := (by refine CellF.keep hb1 ?_; refine ⟨?_, ?_⟩ <;> go_simp)
      have c1_1_0 := q1_1_0.1
      have q1_1_1 : CellF w1 ⟨w.heap.size, 1, none⟩ (.int .i64 hi) := (by refine CellF.keep hb1 ?_; refine ⟨?_, ?_⟩ <;> go_simp)
      have c1_1_1 := q1_1_1.1
      have q1_1_2 : CellF w1 ⟨w.heap.size, 2, none⟩ (.bool k) := (by refine CellF.keep hb1 ?_; refine ⟨?_, ?_⟩ <;> go_simp)
      have c1_1_2 := q1_1_2.1
      have z1_1 : w.heap.size < w1.heap.size := ltc c1_1_0
      have q1_2_0 : CellF w1 ⟨w.heap.size + 1, 0, none⟩ (.int .i64 lo2) := (by refine CellF.keep hb1 ?_; refine ⟨?_, ?_⟩ <;> go_simp)
      have c1_2_0 := q1_2_0.1
      have q1_2_1 : CellF w1 ⟨w.heap.size + 1, 1, none⟩ (.int .i64 hi2) := (by refine CellF.keep hb1 ?_; refine ⟨?_, ?_⟩ <;> go_simp)
      have c1_2_1 := q1_2_1.1
      have q1_2_2 : CellF w1 ⟨w.heap.size + 1, 2, none⟩ (.bool k2) := (by refine CellF.keep hb1 ?_; refine ⟨?_, ?_⟩ <;> go_simp)
      have c1_2_2 := q1_2_2.1
      have z1_2 : w.heap.size + 1 < w1.heap.size := ltc c1_2_0
      have q1_3_0 : CellF w1 ⟨w.heap.size + 1 + 1, 0, none⟩ (.int .i64 0) := (by refine CellF.keep hb1 ?_; refine ⟨?_, ?_⟩ <;> go_simp)
      have c1_3_0 := q1_3_0.1
      have g1_3_0 := q1_3_0.2
      have q1_3_1 : CellF w1 ⟨w.heap.size + 1 + 1, 1, none⟩ (.int .i64 0) := (by refine CellF.keep hb1 ?_; refine ⟨?_, ?_⟩ <;> go_simp)
      have c1_3_1 := q1_3_1.1
      have g1_3_1 := q1_3_1.2
      have q1_3_2 : CellF w1 ⟨w.heap.size + 1 + 1, 2, none⟩ (.bool false) := (by refine CellF.keep hb1 ?_; refine ⟨?_, ?_⟩ <;> go_simp)
      have c1_3_2 := q1_3_2.1
      have g1_3_2 := q1_3_2.2
      have z1_3 : w.heap.size + 1 + 1 < w1.heap.size := ltc c1_3_0
      go_wp2_with fail
      refine (known1 _ _ _ _ HR _ _ (by go_simp) (by go_simp) (by go_simp)).mono ?_
      rintro e w2 ⟨rfl, hb2⟩
      have q2_4_0 : CellF w2 ⟨w.heap.size, 0, none⟩ (.int .i64 lo) := (by first | exact CellF.keep hb2 q1_1_0 | exact CellF.keep hb2 (CellF.past _ q1_1_0) | exact CellF.keep hb2 (CellF.past _ (CellF.past _ q1_1_0)) | exact CellF.keep hb2 (CellF.drewN _ q1_1_0))
      have c2_4_0 := q2_4_0.1
      have q2_4_1 : CellF w2 ⟨w.heap.size, 1, none⟩ (.int .i64 hi) := (by first | exact CellF.keep hb2 q1_1_1 | exact CellF.keep hb2 (CellF.past _ q1_1_1) | exact CellF.keep hb2 (CellF.past _ (CellF.past _ q1_1_1)) | exact CellF.keep hb2 (CellF.drewN _ q1_1_1))
      have c2_4_1 := q2_4_1.1
      have q2_4_2 : CellF w2 ⟨w.heap.size, 2, none⟩ (.bool k) := (by first | exact CellF.keep hb2 q1_1_2 | exact CellF.keep hb2 (CellF.past _ q1_1_2) | exact CellF.keep hb2 (CellF.past _ (CellF.past _ q1_1_2)) | exact CellF.keep hb2 (CellF.drewN _ q1_1_2))
      have c2_4_2 := q2_4_2.1
      have z2_4 : w.heap.size < w2.heap.size := ltc c2_4_0
      have q2_5_0 : CellF w2 ⟨w.heap.size + 1, 0, none⟩ (.int .i64 lo2) := (by first | exact CellF.keep hb2 q1_2_0 | exact CellF.keep hb2 (CellF.past _ q1_2_0) | exact CellF.keep hb2 (CellF.past _ (CellF.past _ q1_2_0)) | exact CellF.keep hb2 (CellF.drewN _ q1_2_0))
      have c2_5_0 := q2_5_0.1
      have q2_5_1 : CellF w2 ⟨w.heap.size + 1, 1, none⟩ (.int .i64 hi2) := (by first | exact CellF.keep hb2 q1_2_1 | exact CellF.keep hb2 (CellF.past _ q1_2_1) | exact CellF.keep hb2 (CellF.past _ (CellF.past _ q1_2_1)) | exact CellF.keep hb2 (CellF.drewN _ q1_2_1))
      have c2_5_1 := q2_5_1.1
      have q2_5_2 : CellF w2 ⟨w.heap.size + 1, 2, none⟩ (.bool k2) := (by first | exact CellF.keep hb2 q1_2_2 | exact CellF.keep hb2 (CellF.past _ q1_2_2) | exact CellF.keep hb2 (CellF.past _ (CellF.past _ q1_2_2)) | exact CellF.keep hb2 (CellF.drewN _ q1_2_2))
      have c2_5_2 := q2_5_2.1
      have z2_5 : w.heap.size + 1 < w2.heap.size := ltc c2_5_0
      have q2_6_0 : CellF w2 ⟨w.heap.size + 1 + 1, 0, none⟩ (.int .i64 0) := (by first | exact CellF.keep hb2 q1_3_0 | exact CellF.keep hb2 (CellF.past _ q1_3_0) | exact CellF.keep hb2 (CellF.past _ (CellF.past _ q1_3_0)) | exact CellF.keep hb2 (CellF.drewN _ q1_3_0))
      have c2_6_0 := q2_6_0.1
      have g2_6_0 := q2_6_0.2
      have q2_6_1 : CellF w2 ⟨w.heap.size + 1 + 1, 1, none⟩ (.int .i64 0) := (by first | exact CellF.keep hb2 q1_3_1 | exact CellF.keep hb2 (CellF.past _ q1_3_1) | exact CellF.keep hb2 (CellF.past _ (CellF.past _ q1_3_1)) | exact CellF.keep hb2 (CellF.drewN _ q1_3_1))
      have c2_6_1 := q2_6_1.1
      have g2_6_1 := q2_6_1.2
      have q2_6_2 : CellF w2 ⟨w.heap.size + 1 + 1, 2, none⟩ (.bool false) := (by first | exact CellF.keep hb2 q1_3_2 | exact CellF.keep hb2 (CellF.past _ q1_3_2) | exact CellF.keep hb2 (CellF.past _ (CellF.past _ q1_3_2)) | exact CellF.keep hb2 (CellF.drewN _ q1_3_2))
      have c2_6_2 := q2_6_2.1
      have g2_6_2 := q2_6_2.2
      have z2_6 : w.heap.size + 1 + 1 < w2.heap.size := ltc c2_6_0
      go_wp2
      exact bodyPost_ret (v := .agg #[.int .i64 0, .int .i64 0, .bool false]) (by simp [results, Try.results31, go_sem, c2_6_0, c2_6_1, c2_6_2]) rfl ⟨rfl, (by repeat (first | exact brefl _ | refine balloc ?_ _ | refine bdrewN ?_ _ | refine bset ?_ (by dsimp only; omega) _ | refine bstep ?_ (by assumption)))⟩
    | true =>
      cases hp
      go_enter Try.func31, Try.ntmps31
      go_wp2_with fail
      refine (known1 _ _ _ _ HQ _ _ (by go_simp) (by go_simp) (by go_simp)).mono ?_
      rintro e w1 ⟨rfl, hb1⟩
      have q1_1_0 : CellF w1 ⟨w.heap.size, 0, none⟩ (.int .i64 lo) := (by refine CellF.keep hb1 ?_; refine ⟨?_, ?_⟩ <;> go_simp)
      have c1_1_0 := q1_1_0.1
      have q1_1_1 : CellF w1 ⟨w.heap.size, 1, none⟩ (.int .i64 hi) := (by refine CellF.keep hb1 ?_; refine ⟨?_, ?_⟩ <;> go_simp)
      have c1_1_1 := q1_1_1.1
      have q1_1_2 : CellF w1 ⟨w.heap.size, 2, none⟩ (.bool k) := (by refine CellF.keep hb1 ?_; refine ⟨?_, ?_⟩ <;> go_simp)
      have c1_1_2 := q1_1_2.1
      have z1_1 : w.heap.size < w1.heap.size := ltc c1_1_0
      have q1_2_0 : CellF w1 ⟨w.heap.size + 1, 0, none⟩ (.int .i64 lo2) := (by refine CellF.keep hb1 ?_; refine ⟨?_, ?_⟩ <;> go_simp)
      have c1_2_0 := q1_2_0.1
      have q1_2_1 : CellF w1 ⟨w.heap.size + 1, 1, none⟩ (.int .i64 hi2) := (by refine CellF.keep hb1 ?_; refine ⟨?_, ?_⟩ <;> go_simp)
      have c1_2_1 := q1_2_1.1
      have q1_2_2 : CellF w1 ⟨w.heap.size + 1, 2, none⟩ (.bool k2) := (by refine CellF.keep hb1 ?_; refine ⟨?_, ?_⟩ <;> go_simp)
      have c1_2_2 := q1_2_2.1
      have z1_2 : w.heap.size + 1 < w1.heap.size := ltc c1_2_0
      have q1_3_0 : CellF w1 ⟨w.heap.size + 1 + 1, 0, none⟩ (.int .i64 0) := (by refine CellF.keep hb1 ?_; refine ⟨?_, ?_⟩ <;> go_simp)
      have c1_3_0 := q1_3_0.1
      have g1_3_0 := q1_3_0.2
      have q1_3_1 : CellF w1 ⟨w.heap.size + 1 + 1, 1, none⟩ (.int .i64 0) := (by refine CellF.keep hb1 ?_; refine ⟨?_, ?_⟩ <;> go_simp)
      have c1_3_1 := q1_3_1.1
      have g1_3_1 := q1_3_1.2
      have q1_3_2 : CellF w1 ⟨w.heap.size + 1 + 1, 2, none⟩ (.bool false) := (by refine CellF.keep hb1 ?_; refine ⟨?_, ?_⟩ <;> go_simp)
      have c1_3_2 := q1_3_2.1
      have g1_3_2 := q1_3_2.2
      have z1_3 : w.heap.size + 1 + 1 < w1.heap.size := ltc c1_3_0
      go_wp2_with fail
      refine (known1 _ _ _ _ HR _ _ (by go_simp) (by go_simp) (by go_simp)).mono ?_
      rintro e w2 ⟨rfl, hb2⟩
      have q2_4_0 : CellF w2 ⟨w.heap.size, 0, none⟩ (.int .i64 lo) := (by first | exact CellF.keep hb2 q1_1_0 | exact CellF.keep hb2 (CellF.past _ q1_1_0) | exact CellF.keep hb2 (CellF.past _ (CellF.past _ q1_1_0)) | exact CellF.keep hb2 (CellF.drewN _ q1_1_0))
      have c2_4_0 := q2_4_0.1
      have q2_4_1 : CellF w2 ⟨w.heap.size, 1, none⟩ (.int .i64 hi) := (by first | exact CellF.keep hb2 q1_1_1 | exact CellF.keep hb2 (CellF.past _ q1_1_1) | exact CellF.keep hb2 (CellF.past _ (CellF.past _ q1_1_1)) | exact CellF.keep hb2 (CellF.drewN _ q1_1_1))
      have c2_4_1 := q2_4_1.1
      have q2_4_2 : CellF w2 ⟨w.heap.size, 2, none⟩ (.bool k) := (by first | exact CellF.keep hb2 q1_1_2 | exact CellF.keep hb2 (CellF.past _ q1_1_2) | exact CellF.keep hb2 (CellF.past _ (CellF.past _ q1_1_2)) | exact CellF.keep hb2 (CellF.drewN _ q1_1_2))
      have c2_4_2 := q2_4_2.1
      have z2_4 : w.heap.size < w2.heap.size := ltc c2_4_0
      have q2_5_0 : CellF w2 ⟨w.heap.size + 1, 0, none⟩ (.int .i64 lo2) := (by first | exact CellF.keep hb2 q1_2_0 | exact CellF.keep hb2 (CellF.past _ q1_2_0) | exact CellF.keep hb2 (CellF.past _ (CellF.past _ q1_2_0)) | exact CellF.keep hb2 (CellF.drewN _ q1_2_0))
      have c2_5_0 := q2_5_0.1
      have q2_5_1 : CellF w2 ⟨w.heap.size + 1, 1, none⟩ (.int .i64 hi2) := (by first | exact CellF.keep hb2 q1_2_1 | exact CellF.keep hb2 (CellF.past _ q1_2_1) | exact CellF.keep hb2 (CellF.past _ (CellF.past _ q1_2_1)) | exact CellF.keep hb2 (CellF.drewN _ q1_2_1))
      have c2_5_1 := q2_5_1.1
      have q2_5_2 : CellF w2 ⟨w.heap.size + 1, 2, none⟩ (.bool k2) := (by first | exact CellF.keep hb2 q1_2_2 | exact CellF.keep hb2 (CellF.past _ q1_2_2) | exact CellF.keep hb2 (CellF.past _ (CellF.past _ q1_2_2)) | exact CellF.keep hb2 (CellF.drewN _ q1_2_2))
      have c2_5_2 := q2_5_2.1
      have z2_5 : w.heap.size + 1 < w2.heap.size := ltc c2_5_0
      have q2_6_0 : CellF w2 ⟨w.heap.size + 1 + 1, 0, none⟩ (.int .i64 0) := (by first | exact CellF.keep hb2 q1_3_0 | exact CellF.keep hb2 (CellF.past _ q1_3_0) | exact CellF.keep hb2 (CellF.past _ (CellF.past _ q1_3_0)) | exact CellF.keep hb2 (CellF.drewN _ q1_3_0))
      have c2_6_0 := q2_6_0.1
      have g2_6_0 := q2_6_0.2
      have q2_6_1 : CellF w2 ⟨w.heap.size + 1 + 1, 1, none⟩ (.int .i64 0) := (by first | exact CellF.keep hb2 q1_3_1 | exact CellF.keep hb2 (CellF.past _ q1_3_1) | exact CellF.keep hb2 (CellF.past _ (CellF.past _ q1_3_1)) | exact CellF.keep hb2 (CellF.drewN _ q1_3_1))
      have c2_6_1 := q2_6_1.1
      have g2_6_1 := q2_6_1.2
      have q2_6_2 : CellF w2 ⟨w.heap.size + 1 + 1, 2, none⟩ (.bool false) := (by first | exact CellF.keep hb2 q1_3_2 | exact CellF.keep hb2 (CellF.past _ q1_3_2) | exact CellF.keep hb2 (CellF.past _ (CellF.past _ q1_3_2)) | exact CellF.keep hb2 (CellF.drewN _ q1_3_2))
      have c2_6_2 := q2_6_2.1
      have g2_6_2 := q2_6_2.2
      have z2_6 : w.heap.size + 1 + 1 < w2.heap.size := ltc c2_6_0
      go_wp2_with fail
      refine (known1 _ _ _ _ HQ _ _ (by go_simp) (by go_simp) (by go_simp)).mono ?_
      rintro e w3 ⟨rfl, hb3⟩
      have q3_7_0 : CellF w3 ⟨w.heap.size, 0, none⟩ (.int .i64 lo) := (by first | exact CellF.keep hb3 q2_4_0 | exact CellF.keep hb3 (CellF.past _ q2_4_0) | exact CellF.keep hb3 (CellF.past _ (CellF.past _ q2_4_0)) | exact CellF.keep hb3 (CellF.drewN _ q2_4_0))
      have c3_7_0 := q3_7_0.1
      have q3_7_1 : CellF w3 ⟨w.heap.size, 1, none⟩ (.int .i64 hi) := (by first | exact CellF.keep hb3 q2_4_1 | exact CellF.keep hb3 (CellF.past _ q2_4_1) | exact CellF.keep hb3 (CellF.past _ (CellF.past _ q2_4_1)) | exact CellF.keep hb3 (CellF.drewN _ q2_4_1))
      have c3_7_1 := q3_7_1.1
      have q3_7_2 : CellF w3 ⟨w.heap.size, 2, none⟩ (.bool k) := (by first | exact CellF.keep hb3 q2_4_2 | exact CellF.keep hb3 (CellF.past _ q2_4_2) | exact CellF.keep hb3 (CellF.past _ (CellF.past _ q2_4_2)) | exact CellF.keep hb3 (CellF.drewN _ q2_4_2))
      have c3_7_2 := q3_7_2.1
      have z3_7 : w.heap.size < w3.heap.size := ltc c3_7_0
      have q3_8_0 : CellF w3 ⟨w.heap.size + 1, 0, none⟩ (.int .i64 lo2) := (by first | exact CellF.keep hb3 q2_5_0 | exact CellF.keep hb3 (CellF.past _ q2_5_0) | exact CellF.keep hb3 (CellF.past _ (CellF.past _ q2_5_0)) | exact CellF.keep hb3 (CellF.drewN _ q2_5_0))
      have c3_8_0 := q3_8_0.1
      have q3_8_1 : CellF w3 ⟨w.heap.size + 1, 1, none⟩ (.int .i64 hi2) := (by first | exact CellF.keep hb3 q2_5_1 | exact CellF.keep hb3 (CellF.past _ q2_5_1) | exact CellF.keep hb3 (CellF.past _ (CellF.past _ q2_5_1)) | exact CellF.keep hb3 (CellF.drewN _ q2_5_1))
      have c3_8_1 := q3_8_1.1
      have q3_8_2 : CellF w3 ⟨w.heap.size + 1, 2, none⟩ (.bool k2) := (by first | exact CellF.keep hb3 q2_5_2 | exact CellF.keep hb3 (CellF.past _ q2_5_2) | exact CellF.keep hb3 (CellF.past _ (CellF.past _ q2_5_2)) | exact CellF.keep hb3 (CellF.drewN _ q2_5_2))
      have c3_8_2 := q3_8_2.1
      have z3_8 : w.heap.size + 1 < w3.heap.size := ltc c3_8_0
      have q3_9_0 : CellF w3 ⟨w.heap.size + 1 + 1, 0, none⟩ (.int .i64 0) := (by first | exact CellF.keep hb3 q2_6_0 | exact CellF.keep hb3 (CellF.past _ q2_6_0) | exact CellF.keep hb3 (CellF.past _ (CellF.past _ q2_6_0)) | exact CellF.keep hb3 (CellF.drewN _ q2_6_0))
      have c3_9_0 := q3_9_0.1
      have g3_9_0 := q3_9_0.2
      have q3_9_1 : CellF w3 ⟨w.heap.size + 1 + 1, 1, none⟩ (.int .i64 0) := (by first | exact CellF.keep hb3 q2_6_1 | exact CellF.keep hb3 (CellF.past _ q2_6_1) | exact CellF.keep hb3 (CellF.past _ (CellF.past _ q2_6_1)) | exact CellF.keep hb3 (CellF.drewN _ q2_6_1))
      have c3_9_1 := q3_9_1.1
      have g3_9_1 := q3_9_1.2
      have q3_9_2 : CellF w3 ⟨w.heap.size + 1 + 1, 2, none⟩ (.bool false) := (by first | exact CellF.keep hb3 q2_6_2 | exact CellF.keep hb3 (CellF.past _ q2_6_2) | exact CellF.keep hb3 (CellF.past _ (CellF.past _ q2_6_2)) | exact CellF.keep hb3 (CellF.drewN _ q2_6_2))
      have c3_9_2 := q3_9_2.1
      have g3_9_2 := q3_9_2.2
      have z3_9 : w.heap.size + 1 + 1 < w3.heap.size := ltc c3_9_0
      go_wp2
      exact bodyPost_ret (v := .agg #[.int .i64 lo2, .int .i64 hi2, .bool k2]) (by simp [results, Try.results31, go_sem, c3_9_0, c3_9_1, c3_9_2]) rfl ⟨rfl, (by repeat (first | exact brefl _ | refine balloc ?_ _ | refine bdrewN ?_ _ | refine bset ?_ (by dsimp only; omega) _ | refine bstep ?_ (by assumption)))⟩
  | true =>
    cases r with
    | false =>
      cases hp
      go_enter Try.func31, Try.ntmps31
      go_wp2_with fail
      refine (known1 _ _ _ _ HQ _ _ (by go_simp) (by go_simp) (by go_simp)).mono ?_
      rintro e w1 ⟨rfl, hb1⟩
      have q1_1_0 : CellF w1 ⟨w.heap.size, 0, none⟩ (.int .i64 lo) := (by refine CellF.keep hb1 ?_; refine ⟨?_, ?_⟩ <;> go_simp)
      have c1_1_0 := q1_1_0.1
      have q1_1_1 : CellF w1 ⟨w.heap.size, 1, none⟩ (.int .i64 hi) := (by refine CellF.keep hb1 ?_; refine ⟨?_, ?_⟩ <;> go_simp)
      have c1_1_1 := q1_1_1.1
      have q1_1_2 : CellF w1 ⟨w.heap.size, 2, none⟩ (.bool k) := (by refine CellF.keep hb1 ?_; refine ⟨?_, ?_⟩ <;> go_simp)
      have c1_1_2 := q1_1_2.1
      have z1_1 : w.heap.size < w1.heap.size := ltc c1_1_0
      have q1_2_0 : CellF w1 ⟨w.heap.size + 1, 0, none⟩ (.int .i64 lo2) := (by refine CellF.keep hb1 ?_; refine ⟨?_, ?_⟩ <;> go_simp)
      have c1_2_0 := q1_2_0.1
      have q1_2_1 : CellF w1 ⟨w.heap.size + 1, 1, none⟩ (.int .i64 hi2) := (by refine CellF.keep hb1 ?_; refine ⟨?_, ?_⟩ <;> go_simp)
      have c1_2_1 := q1_2_1.1
      have q1_2_2 : CellF w1 ⟨w.heap.size + 1, 2, none⟩ (.bool k2) := (by refine CellF.keep hb1 ?_; refine ⟨?_, ?_⟩ <;> go_simp)
      have c1_2_2 := q1_2_2.1
      have z1_2 : w.heap.size + 1 < w1.heap.size := ltc c1_2_0
      have q1_3_0 : CellF w1 ⟨w.heap.size + 1 + 1, 0, none⟩ (.int .i64 0) := (by refine CellF.keep hb1 ?_; refine ⟨?_, ?_⟩ <;> go_simp)
      have c1_3_0 := q1_3_0.1
      have g1_3_0 := q1_3_0.2
      have q1_3_1 : CellF w1 ⟨w.heap.size + 1 + 1, 1, none⟩ (.int .i64 0) := (by refine CellF.keep hb1 ?_; refine ⟨?_, ?_⟩ <;> go_simp)
      have c1_3_1 := q1_3_1.1
      have g1_3_1 := q1_3_1.2
      have q1_3_2 : CellF w1 ⟨w.heap.size + 1 + 1, 2, none⟩ (.bool false) := (by refine CellF.keep hb1 ?_; refine ⟨?_, ?_⟩ <;> go_simp)
      have c1_3_2 := q1_3_2.1
      have g1_3_2 := q1_3_2.2
      have z1_3 : w.heap.size + 1 + 1 < w1.heap.size := ltc c1_3_0
      go_wp2_with fail
      refine (known1 _ _ _ _ HQ _ _ (by go_simp) (by go_simp) (by go_simp)).mono ?_
      rintro e w2 ⟨rfl, hb2⟩
      have q2_4_0 : CellF w2 ⟨w.heap.size, 0, none⟩ (.int .i64 lo) := (by first | exact CellF.keep hb2 q1_1_0 | exact CellF.keep hb2 (CellF.past _ q1_1_0) | exact CellF.keep hb2 (CellF.past _ (CellF.past _ q1_1_0)) | exact CellF.keep hb2 (CellF.drewN _ q1_1_0))
      have c2_4_0 := q2_4_0.1
      have q2_4_1 : CellF w2 ⟨w.heap.size, 1, none⟩ (.int .i64 hi) := (by first | exact CellF.keep hb2 q1_1_1 | exact CellF.keep hb2 (CellF.past _ q1_1_1) | exact CellF.keep hb2 (CellF.past _ (CellF.past _ q1_1_1)) | exact CellF.keep hb2 (CellF.drewN _ q1_1_1))
      have c2_4_1 := q2_4_1.1
      have q2_4_2 : CellF w2 ⟨w.heap.size, 2, none⟩ (.bool k) := (by first | exact CellF.keep hb2 q1_1_2 | exact CellF.keep hb2 (CellF.past _ q1_1_2) | exact CellF.keep hb2 (CellF.past _ (CellF.past _ q1_1_2)) | exact CellF.keep hb2 (CellF.drewN _ q1_1_2))
      have c2_4_2 := q2_4_2.1
      have z2_4 : w.heap.size < w2.heap.size := ltc c2_4_0
      have q2_5_0 : CellF w2 ⟨w.heap.size + 1, 0, none⟩ (.int .i64 lo2) := (by first | exact CellF.keep hb2 q1_2_0 | exact CellF.keep hb2 (CellF.past _ q1_2_0) | exact CellF.keep hb2 (CellF.past _ (CellF.past _ q1_2_0)) | exact CellF.keep hb2 (CellF.drewN _ q1_2_0))
      have c2_5_0 := q2_5_0.1
      have q2_5_1 : CellF w2 ⟨w.heap.size + 1, 1, none⟩ (.int .i64 hi2) := (by first | exact CellF.keep hb2 q1_2_1 | exact CellF.keep hb2 (CellF.past _ q1_2_1) | exact CellF.keep hb2 (CellF.past _ (CellF.past _ q1_2_1)) | exact CellF.keep hb2 (CellF.drewN _ q1_2_1))
      have c2_5_1 := q2_5_1.1
      have q2_5_2 : CellF w2 ⟨w.heap.size + 1, 2, none⟩ (.bool k2) := (by first | exact CellF.keep hb2 q1_2_2 | exact CellF.keep hb2 (CellF.past _ q1_2_2) | exact CellF.keep hb2 (CellF.past _ (CellF.past _ q1_2_2)) | exact CellF.keep hb2 (CellF.drewN _ q1_2_2))
      have c2_5_2 := q2_5_2.1
      have z2_5 : w.heap.size + 1 < w2.heap.size := ltc c2_5_0
      have q2_6_0 : CellF w2 ⟨w.heap.size + 1 + 1, 0, none⟩ (.int .i64 0) := (by first | exact CellF.keep hb2 q1_3_0 | exact CellF.keep hb2 (CellF.past _ q1_3_0) | exact CellF.keep hb2 (CellF.past _ (CellF.past _ q1_3_0)) | exact CellF.keep hb2 (CellF.drewN _ q1_3_0))
      have c2_6_0 := q2_6_0.1
      have g2_6_0 := q2_6_0.2
      have q2_6_1 : CellF w2 ⟨w.heap.size + 1 + 1, 1, none⟩ (.int .i64 0) := (by first | exact CellF.keep hb2 q1_3_1 | exact CellF.keep hb2 (CellF.past _ q1_3_1) | exact CellF.keep hb2 (CellF.past _ (CellF.past _ q1_3_1)) | exact CellF.keep hb2 (CellF.drewN _ q1_3_1))
      have c2_6_1 := q2_6_1.1
      have g2_6_1 := q2_6_1.2
      have q2_6_2 : CellF w2 ⟨w.heap.size + 1 + 1, 2, none⟩ (.bool false) := (by first | exact CellF.keep hb2 q1_3_2 | exact CellF.keep hb2 (CellF.past _ q1_3_2) | exact CellF.keep hb2 (CellF.past _ (CellF.past _ q1_3_2)) | exact CellF.keep hb2 (CellF.drewN _ q1_3_2))
      have c2_6_2 := q2_6_2.1
      have g2_6_2 := q2_6_2.2
      have z2_6 : w.heap.size + 1 + 1 < w2.heap.size := ltc c2_6_0
      go_wp2_with fail
      refine (known1 _ _ _ _ HR _ _ (by go_simp) (by go_simp) (by go_simp)).mono ?_
      rintro e w3 ⟨rfl, hb3⟩
      have q3_7_0 : CellF w3 ⟨w.heap.size, 0, none⟩ (.int .i64 lo) := (by first | exact CellF.keep hb3 q2_4_0 | exact CellF.keep hb3 (CellF.past _ q2_4_0) | exact CellF.keep hb3 (CellF.past _ (CellF.past _ q2_4_0)) | exact CellF.keep hb3 (CellF.drewN _ q2_4_0))
      have c3_7_0 := q3_7_0.1
      have q3_7_1 : CellF w3 ⟨w.heap.size, 1, none⟩ (.int .i64 hi) := (by first | exact CellF.keep hb3 q2_4_1 | exact CellF.keep hb3 (CellF.past _ q2_4_1) | exact CellF.keep hb3 (CellF.past _ (CellF.past _ q2_4_1)) | exact CellF.keep hb3 (CellF.drewN _ q2_4_1))
      have c3_7_1 := q3_7_1.1
      have q3_7_2 : CellF w3 ⟨w.heap.size, 2, none⟩ (.bool k) := (by first | exact CellF.keep hb3 q2_4_2 | exact CellF.keep hb3 (CellF.past _ q2_4_2) | exact CellF.keep hb3 (CellF.past _ (CellF.past _ q2_4_2)) | exact CellF.keep hb3 (CellF.drewN _ q2_4_2))
      have c3_7_2 := q3_7_2.1
      have z3_7 : w.heap.size < w3.heap.size := ltc c3_7_0
      have q3_8_0 : CellF w3 ⟨w.heap.size + 1, 0, none⟩ (.int .i64 lo2) := (by first | exact CellF.keep hb3 q2_5_0 | exact CellF.keep hb3 (CellF.past _ q2_5_0) | exact CellF.keep hb3 (CellF.past _ (CellF.past _ q2_5_0)) | exact CellF.keep hb3 (CellF.drewN _ q2_5_0))
      have c3_8_0 := q3_8_0.1
      have q3_8_1 : CellF w3 ⟨w.heap.size + 1, 1, none⟩ (.int .i64 hi2) := (by first | exact CellF.keep hb3 q2_5_1 | exact CellF.keep hb3 (CellF.past _ q2_5_1) | exact CellF.keep hb3 (CellF.past _ (CellF.past _ q2_5_1)) | exact CellF.keep hb3 (CellF.drewN _ q2_5_1))
      have c3_8_1 := q3_8_1.1
      have q3_8_2 : CellF w3 ⟨w.heap.size + 1, 2, none⟩ (.bool k2) := (by first | exact CellF.keep hb3 q2_5_2 | exact CellF.keep hb3 (CellF.past _ q2_5_2) | exact CellF.keep hb3 (CellF.past _ (CellF.past _ q2_5_2)) | exact CellF.keep hb3 (CellF.drewN _ q2_5_2))
      have c3_8_2 := q3_8_2.1
      have z3_8 : w.heap.size + 1 < w3.heap.size := ltc c3_8_0
      have q3_9_0 : CellF w3 ⟨w.heap.size + 1 + 1, 0, none⟩ (.int .i64 0) := (by first | exact CellF.keep hb3 q2_6_0 | exact CellF.keep hb3 (CellF.past _ q2_6_0) | exact CellF.keep hb3 (CellF.past _ (CellF.past _ q2_6_0)) | exact CellF.keep hb3 (CellF.drewN _ q2_6_0))
      have c3_9_0 := q3_9_0.1
      have g3_9_0 := q3_9_0.2
      have q3_9_1 : CellF w3 ⟨w.heap.size + 1 + 1, 1, none⟩ (.int .i64 0) := (by first | exact CellF.keep hb3 q2_6_1 | exact CellF.keep hb3 (CellF.past _ q2_6_1) | exact CellF.keep hb3 (CellF.past _ (CellF.past _ q2_6_1)) | exact CellF.keep hb3 (CellF.drewN _ q2_6_1))
      have c3_9_1 := q3_9_1.1
      have g3_9_1 := q3_9_1.2
      have q3_9_2 : CellF w3 ⟨w.heap.size + 1 + 1, 2, none⟩ (.bool false) := (by first | exact CellF.keep hb3 q2_6_2 | exact CellF.keep hb3 (CellF.past _ q2_6_2) | exact CellF.keep hb3 (CellF.past _ (CellF.past _ q2_6_2)) | exact CellF.keep hb3 (CellF.drewN _ q2_6_2))
      have c3_9_2 := q3_9_2.1
      have g3_9_2 := q3_9_2.2
      have z3_9 : w.heap.size + 1 + 1 < w3.heap.size := ltc c3_9_0
      go_wp2
      exact bodyPost_ret (v := .agg #[.int .i64 lo, .int .i64 hi, .bool k]) (by simp [results, Try.results31, go_sem, c3_9_0, c3_9_1, c3_9_2]) rfl ⟨rfl, (by repeat (first | exact brefl _ | refine balloc ?_ _ | refine bdrewN ?_ _ | refine bset ?_ (by dsimp only; omega) _ | refine bstep ?_ (by assumption)))⟩
    | true =>
      rw [if_pos rfl, if_pos rfl] at hp
      by_cases h1 : lo2 ≤ lo
      · rw [if_pos h1] at hp
        by_cases h2 : hi ≤ hi2
        · rw [if_pos h2] at hp
          have HM := Lib.hid hp
          clear hp
          go_enter Try.func31, Try.ntmps31
          go_wp2_with fail
          refine (known1 _ _ _ _ HQ _ _ (by go_simp) (by go_simp) (by go_simp)).mono ?_
          rintro e w1 ⟨rfl, hb1⟩
          have q1_1_0 : CellF w1 ⟨w.heap.size, 0, none⟩ (.int .i64 lo) := (by refine CellF.keep hb1 ?_; refine ⟨?_, ?_⟩ <;> go_simp)
          have c1_1_0 := q1_1_0.1
          have q1_1_1 : CellF w1 ⟨w.heap.size, 1, none⟩ (.int .i64 hi) := (by refine CellF.keep hb1 ?_; refine ⟨?_, ?_⟩ <;> go_simp)
          have c1_1_1 := q1_1_1.1
          have q1_1_2 : CellF w1 ⟨w.heap.size, 2, none⟩ (.bool k) := (by refine CellF.keep hb1 ?_; refine ⟨?_, ?_⟩ <;> go_simp)
          have c1_1_2 := q1_1_2.1
          have z1_1 : w.heap.size < w1.heap.size := ltc c1_1_0
          have q1_2_0 : CellF w1 ⟨w.heap.size + 1, 0, none⟩ (.int .i64 lo2) := (by refine CellF.keep hb1 ?_; refine ⟨?_, ?_⟩ <;> go_simp)
          have c1_2_0 := q1_2_0.1
          have q1_2_1 : CellF w1 ⟨w.heap.size + 1, 1, none⟩ (.int .i64 hi2) := (by refine CellF.keep hb1 ?_; refine ⟨?_, ?_⟩ <;> go_simp)
          have c1_2_1 := q1_2_1.1
          have q1_2_2 : CellF w1 ⟨w.heap.size + 1, 2, none⟩ (.bool k2) := (by refine CellF.keep hb1 ?_; refine ⟨?_, ?_⟩ <;> go_simp)
          have c1_2_2 := q1_2_2.1
          have z1_2 : w.heap.size + 1 < w1.heap.size := ltc c1_2_0
          have q1_3_0 : CellF w1 ⟨w.heap.size + 1 + 1, 0, none⟩ (.int .i64 0) := (by refine CellF.keep hb1 ?_; refine ⟨?_, ?_⟩ <;> go_simp)
          have c1_3_0 := q1_3_0.1
          have g1_3_0 := q1_3_0.2
          have q1_3_1 : CellF w1 ⟨w.heap.size + 1 + 1, 1, none⟩ (.int .i64 0) := (by refine CellF.keep hb1 ?_; refine ⟨?_, ?_⟩ <;> go_simp)
          have c1_3_1 := q1_3_1.1
          have g1_3_1 := q1_3_1.2
          have q1_3_2 : CellF w1 ⟨w.heap.size + 1 + 1, 2, none⟩ (.bool false) := (by refine CellF.keep hb1 ?_; refine ⟨?_, ?_⟩ <;> go_simp)
          have c1_3_2 := q1_3_2.1
          have g1_3_2 := q1_3_2.2
          have z1_3 : w.heap.size + 1 + 1 < w1.heap.size := ltc c1_3_0
          go_wp2_with fail
          refine (known1 _ _ _ _ HQ _ _ (by go_simp) (by go_simp) (by go_simp)).mono ?_
          rintro e w2 ⟨rfl, hb2⟩
          have q2_4_0 : CellF w2 ⟨w.heap.size, 0, none⟩ (.int .i64 lo) := (by first | exact CellF.keep hb2 q1_1_0 | exact CellF.keep hb2 (CellF.past _ q1_1_0) | exact CellF.keep hb2 (CellF.past _ (CellF.past _ q1_1_0)) | exact CellF.keep hb2 (CellF.drewN _ q1_1_0))
          have c2_4_0 := q2_4_0.1
          have q2_4_1 : CellF w2 ⟨w.heap.size, 1, none⟩ (.int .i64 hi) := (by first | exact CellF.keep hb2 q1_1_1 | exact CellF.keep hb2 (CellF.past _ q1_1_1) | exact CellF.keep hb2 (CellF.past _ (CellF.past _ q1_1_1)) | exact CellF.keep hb2 (CellF.drewN _ q1_1_1))
          have c2_4_1 := q2_4_1.1
          have q2_4_2 : CellF w2 ⟨w.heap.size, 2, none⟩ (.bool k) := (by first | exact CellF.keep hb2 q1_1_2 | exact CellF.keep hb2 (CellF.past _ q1_1_2) | exact CellF.keep hb2 (CellF.past _ (CellF.past _ q1_1_2)) | exact CellF.keep hb2 (CellF.drewN _ q1_1_2))
          have c2_4_2 := q2_4_2.1
          have z2_4 : w.heap.size < w2.heap.size := ltc c2_4_0
          have q2_5_0 : CellF w2 ⟨w.heap.size + 1, 0, none⟩ (.int .i64 lo2) := (by first | exact CellF.keep hb2 q1_2_0 | exact CellF.keep hb2 (CellF.past _ q1_2_0) | exact CellF.keep hb2 (CellF.past _ (CellF.past _ q1_2_0)) | exact CellF.keep hb2 (CellF.drewN _ q1_2_0))
          have c2_5_0 := q2_5_0.1
          have q2_5_1 : CellF w2 ⟨w.heap.size + 1, 1, none⟩ (.int .i64 hi2) := (by first | exact CellF.keep hb2 q1_2_1 | exact CellF.keep hb2 (CellF.past _ q1_2_1) | exact CellF.keep hb2 (CellF.past _ (CellF.past _ q1_2_1)) | exact CellF.keep hb2 (CellF.drewN _ q1_2_1))
          have c2_5_1 := q2_5_1.1
          have q2_5_2 : CellF w2 ⟨w.heap.size + 1, 2, none⟩ (.bool k2) := (by first | exact CellF.keep hb2 q1_2_2 | exact CellF.keep hb2 (CellF.past _ q1_2_2) | exact CellF.keep hb2 (CellF.past _ (CellF.past _ q1_2_2)) | exact CellF.keep hb2 (CellF.drewN _ q1_2_2))
          have c2_5_2 := q2_5_2.1
          have z2_5 : w.heap.size + 1 < w2.heap.size := ltc c2_5_0
          have q2_6_0 : CellF w2 ⟨w.heap.size + 1 + 1, 0, none⟩ (.int .i64 0) := (by first | exact CellF.keep hb2 q1_3_0 | exact CellF.keep hb2 (CellF.past _ q1_3_0) | exact CellF.keep hb2 (CellF.past _ (CellF.past _ q1_3_0)) | exact CellF.keep hb2 (CellF.drewN _ q1_3_0))
          have c2_6_0 := q2_6_0.1
          have g2_6_0 := q2_6_0.2
          have q2_6_1 : CellF w2 ⟨w.heap.size + 1 + 1, 1, none⟩ (.int .i64 0) := (by first | exact CellF.keep hb2 q1_3_1 | exact CellF.keep hb2 (CellF.past _ q1_3_1) | exact CellF.keep hb2 (CellF.past _ (CellF.past _ q1_3_1)) | exact CellF.keep hb2 (CellF.drewN _ q1_3_1))
          have c2_6_1 := q2_6_1.1
          have g2_6_1 := q2_6_1.2
          have q2_6_2 : CellF w2 ⟨w.heap.size + 1 + 1, 2, none⟩ (.bool false) := (by first | exact CellF.keep hb2 q1_3_2 | exact CellF.keep hb2 (CellF.past _ q1_3_2) | exact CellF.keep hb2 (CellF.past _ (CellF.past _ q1_3_2)) | exact CellF.keep hb2 (CellF.drewN _ q1_3_2))
          have c2_6_2 := q2_6_2.1
          have g2_6_2 := q2_6_2.2
          have z2_6 : w.heap.size + 1 + 1 < w2.heap.size := ltc c2_6_0
          go_wp2_with fail
          refine (known1 _ _ _ _ HR _ _ (by go_simp) (by go_simp) (by go_simp)).mono ?_
          rintro e w3 ⟨rfl, hb3⟩
          have q3_7_0 : CellF w3 ⟨w.heap.size, 0, none⟩ (.int .i64 lo) := (by first | exact CellF.keep hb3 q2_4_0 | exact CellF.keep hb3 (CellF.past _ q2_4_0) | exact CellF.keep hb3 (CellF.past _ (CellF.past _ q2_4_0)) | exact CellF.keep hb3 (CellF.drewN _ q2_4_0))
          have c3_7_0 := q3_7_0.1
          have q3_7_1 : CellF w3 ⟨w.heap.size, 1, none⟩ (.int .i64 hi) := (by first | exact CellF.keep hb3 q2_4_1 | exact CellF.keep hb3 (CellF.past _ q2_4_1) | exact CellF.keep hb3 (CellF.past _ (CellF.past _ q2_4_1)) | exact CellF.keep hb3 (CellF.drewN _ q2_4_1))
          have c3_7_1 := q3_7_1.1
          have q3_7_2 : CellF w3 ⟨w.heap.size, 2, none⟩ (.bool k) := (by first | exact CellF.keep hb3 q2_4_2 | exact CellF.keep hb3 (CellF.past _ q2_4_2) | exact CellF.keep hb3 (CellF.past _ (CellF.past _ q2_4_2)) | exact CellF.keep hb3 (CellF.drewN _ q2_4_2))
          have c3_7_2 := q3_7_2.1
          have z3_7 : w.heap.size < w3.heap.size := ltc c3_7_0
          have q3_8_0 : CellF w3 ⟨w.heap.size + 1, 0, none⟩ (.int .i64 lo2) := (by first | exact CellF.keep hb3 q2_5_0 | exact CellF.keep hb3 (CellF.past _ q2_5_0) | exact CellF.keep hb3 (CellF.past _ (CellF.past _ q2_5_0)) | exact CellF.keep hb3 (CellF.drewN _ q2_5_0))
          have c3_8_0 := q3_8_0.1
          have q3_8_1 : CellF w3 ⟨w.heap.size + 1, 1, none⟩ (.int .i64 hi2) := (by first | exact CellF.keep hb3 q2_5_1 | exact CellF.keep hb3 (CellF.past _ q2_5_1) | exact CellF.keep hb3 (CellF.past _ (CellF.past _ q2_5_1)) | exact CellF.keep hb3 (CellF.drewN _ q2_5_1))
          have c3_8_1 := q3_8_1.1
          have q3_8_2 : CellF w3 ⟨w.heap.size + 1, 2, none⟩ (.bool k2) := (by first | exact CellF.keep hb3 q2_5_2 | exact CellF.keep hb3 (CellF.past _ q2_5_2) | exact CellF.keep hb3 (CellF.past _ (CellF.past _ q2_5_2)) | exact CellF.keep hb3 (CellF.drewN _ q2_5_2))
          have c3_8_2 := q3_8_2.1
          have z3_8 : w.heap.size + 1 < w3.heap.size := ltc c3_8_0
          have q3_9_0 : CellF w3 ⟨w.heap.size + 1 + 1, 0, none⟩ (.int .i64 0) := (by first | exact CellF.keep hb3 q2_6_0 | exact CellF.keep hb3 (CellF.past _ q2_6_0) | exact CellF.keep hb3 (CellF.past _ (CellF.past _ q2_6_0)) | exact CellF.keep hb3 (CellF.drewN _ q2_6_0))
          have c3_9_0 := q3_9_0.1
          have g3_9_0 := q3_9_0.2
          have q3_9_1 : CellF w3 ⟨w.heap.size + 1 + 1, 1, none⟩ (.int .i64 0) := (by first | exact CellF.keep hb3 q2_6_1 | exact CellF.keep hb3 (CellF.past _ q2_6_1) | exact CellF.keep hb3 (CellF.past _ (CellF.past _ q2_6_1)) | exact CellF.keep hb3 (CellF.drewN _ q2_6_1))
          have c3_9_1 := q3_9_1.1
          have g3_9_1 := q3_9_1.2
          have q3_9_2 : CellF w3 ⟨w.heap.size + 1 + 1, 2, none⟩ (.bool false) := (by first | exact CellF.keep hb3 q2_6_2 | exact CellF.keep hb3 (CellF.past _ q2_6_2) | exact CellF.keep hb3 (CellF.past _ (CellF.past _ q2_6_2)) | exact CellF.keep hb3 (CellF.drewN _ q2_6_2))
          have c3_9_2 := q3_9_2.1
          have g3_9_2 := q3_9_2.2
          have z3_9 : w.heap.size + 1 + 1 < w3.heap.size := ltc c3_9_0
          go_wp2_with fail
          refine (Of_is _ _ _ _ _ HM _).mono ?_
          rintro e w4 ⟨rfl, hb4⟩
          have q4_10_0 : CellF w4 ⟨w.heap.size + 1 + 1, 0, none⟩ (.int .i64 0) := (by first | exact CellF.keep hb4 q3_9_0 | exact CellF.keep hb4 (CellF.past _ q3_9_0) | exact CellF.keep hb4 (CellF.past _ (CellF.past _ q3_9_0)) | exact CellF.keep hb4 (CellF.drewN _ q3_9_0))
          have c4_10_0 := q4_10_0.1
          have g4_10_0 := q4_10_0.2
          have q4_10_1 : CellF w4 ⟨w.heap.size + 1 + 1, 1, none⟩ (.int .i64 0) := (by first | exact CellF.keep hb4 q3_9_1 | exact CellF.keep hb4 (CellF.past _ q3_9_1) | exact CellF.keep hb4 (CellF.past _ (CellF.past _ q3_9_1)) | exact CellF.keep hb4 (CellF.drewN _ q3_9_1))
          have c4_10_1 := q4_10_1.1
          have g4_10_1 := q4_10_1.2
          have q4_10_2 : CellF w4 ⟨w.heap.size + 1 + 1, 2, none⟩ (.bool false) := (by first | exact CellF.keep hb4 q3_9_2 | exact CellF.keep hb4 (CellF.past _ q3_9_2) | exact CellF.keep hb4 (CellF.past _ (CellF.past _ q3_9_2)) | exact CellF.keep hb4 (CellF.drewN _ q3_9_2))
          have c4_10_2 := q4_10_2.1
          have g4_10_2 := q4_10_2.2
          have z4_10 : w.heap.size + 1 + 1 < w4.heap.size := ltc c4_10_0
          go_wp2
          exact bodyPost_ret (v := .agg #[.int .i64 x, .int .i64 y, .bool z]) (by simp [results, Try.results31, go_sem, c4_10_0, c4_10_1, c4_10_2]) rfl ⟨rfl, (by repeat (first | exact brefl _ | refine balloc ?_ _ | refine bdrewN ?_ _ | refine bset ?_ (by dsimp only; omega) _ | refine bstep ?_ (by assumption)))⟩
        · rw [if_neg h2] at hp
          have HM := Lib.hid hp
          clear hp
          go_enter Try.func31, Try.ntmps31
          go_wp2_with fail
          refine (known1 _ _ _ _ HQ _ _ (by go_simp) (by go_simp) (by go_simp)).mono ?_
          rintro e w1 ⟨rfl, hb1⟩
          have q1_1_0 : CellF w1 ⟨w.heap.size, 0, none⟩ (.int .i64 lo) := (by refine CellF.keep hb1 ?_; refine ⟨?_, ?_⟩ <;> go_simp)
          have c1_1_0 := q1_1_0.1
          have q1_1_1 : CellF w1 ⟨w.heap.size, 1, none⟩ (.int .i64 hi) := (by refine CellF.keep hb1 ?_; refine ⟨?_, ?_⟩ <;> go_simp)
          have c1_1_1 := q1_1_1.1
          have q1_1_2 : CellF w1 ⟨w.heap.size, 2, none⟩ (.bool k) := (by refine CellF.keep hb1 ?_; refine ⟨?_, ?_⟩ <;> go_simp)
          have c1_1_2 := q1_1_2.1
          have z1_1 : w.heap.size < w1.heap.size := ltc c1_1_0
          have q1_2_0 : CellF w1 ⟨w.heap.size + 1, 0, none⟩ (.int .i64 lo2) := (by refine CellF.keep hb1 ?_; refine ⟨?_, ?_⟩ <;> go_simp)
          have c1_2_0 := q1_2_0.1
          have q1_2_1 : CellF w1 ⟨w.heap.size + 1, 1, none⟩ (.int .i64 hi2) := (by refine CellF.keep hb1 ?_; refine ⟨?_, ?_⟩ <;> go_simp)
          have c1_2_1 := q1_2_1.1
          have q1_2_2 : CellF w1 ⟨w.heap.size + 1, 2, none⟩ (.bool k2) := (by refine CellF.keep hb1 ?_; refine ⟨?_, ?_⟩ <;> go_simp)
          have c1_2_2 := q1_2_2.1
          have z1_2 : w.heap.size + 1 < w1.heap.size := ltc c1_2_0
          have q1_3_0 : CellF w1 ⟨w.heap.size + 1 + 1, 0, none⟩ (.int .i64 0) := (by refine CellF.keep hb1 ?_; refine ⟨?_, ?_⟩ <;> go_simp)
          have c1_3_0 := q1_3_0.1
          have g1_3_0 := q1_3_0.2
          have q1_3_1 : CellF w1 ⟨w.heap.size + 1 + 1, 1, none⟩ (.int .i64 0) := (by refine CellF.keep hb1 ?_; refine ⟨?_, ?_⟩ <;> go_simp)
          have c1_3_1 := q1_3_1.1
          have g1_3_1 := q1_3_1.2
          have q1_3_2 : CellF w1 ⟨w.heap.size + 1 + 1, 2, none⟩ (.bool false) := (by refine CellF.keep hb1 ?_; refine ⟨?_, ?_⟩ <;> go_simp)
          have c1_3_2 := q1_3_2.1
          have g1_3_2 := q1_3_2.2
          have z1_3 : w.heap.size + 1 + 1 < w1.heap.size := ltc c1_3_0
          go_wp2_with fail
          refine (known1 _ _ _ _ HQ _ _ (by go_simp) (by go_simp) (by go_simp)).mono ?_
          rintro e w2 ⟨rfl, hb2⟩
          have q2_4_0 : CellF w2 ⟨w.heap.size, 0, none⟩ (.int .i64 lo) := (by first | exact CellF.keep hb2 q1_1_0 | exact CellF.keep hb2 (CellF.past _ q1_1_0) | exact CellF.keep hb2 (CellF.past _ (CellF.past _ q1_1_0)) | exact CellF.keep hb2 (CellF.drewN _ q1_1_0))
          have c2_4_0 := q2_4_0.1
          have q2_4_1 : CellF w2 ⟨w.heap.size, 1, none⟩ (.int .i64 hi) := (by first | exact CellF.keep hb2 q1_1_1 | exact CellF.keep hb2 (CellF.past _ q1_1_1) | exact CellF.keep hb2 (CellF.past _ (CellF.past _ q1_1_1)) | exact CellF.keep hb2 (CellF.drewN _ q1_1_1))
          have c2_4_1 := q2_4_1.1
          have q2_4_2 : CellF w2 ⟨w.heap.size, 2, none⟩ (.bool k) := (by first | exact CellF.keep hb2 q1_1_2 | exact CellF.keep hb2 (CellF.past _ q1_1_2) | exact CellF.keep hb2 (CellF.past _ (CellF.past _ q1_1_2)) | exact CellF.keep hb2 (CellF.drewN _ q1_1_2))
          have c2_4_2 := q2_4_2.1
          have z2_4 : w.heap.size < w2.heap.size := ltc c2_4_0
          have q2_5_0 : CellF w2 ⟨w.heap.size + 1, 0, none⟩ (.int .i64 lo2) := (by first | exact CellF.keep hb2 q1_2_0 | exact CellF.keep hb2 (CellF.past _ q1_2_0) | exact CellF.keep hb2 (CellF.past _ (CellF.past _ q1_2_0)) | exact CellF.keep hb2 (CellF.drewN _ q1_2_0))
          have c2_5_0 := q2_5_0.1
          have q2_5_1 : CellF w2 ⟨w.heap.size + 1, 1, none⟩ (.int .i64 hi2) := (by first | exact CellF.keep hb2 q1_2_1 | exact CellF.keep hb2 (CellF.past _ q1_2_1) | exact CellF.keep hb2 (CellF.past _ (CellF.past _ q1_2_1)) | exact CellF.keep hb2 (CellF.drewN _ q1_2_1))
          have c2_5_1 := q2_5_1.1
          have q2_5_2 : CellF w2 ⟨w.heap.size + 1, 2, none⟩ (.bool k2) := (by first | exact CellF.keep hb2 q1_2_2 | exact CellF.keep hb2 (CellF.past _ q1_2_2) | exact CellF.keep hb2 (CellF.past _ (CellF.past _ q1_2_2)) | exact CellF.keep hb2 (CellF.drewN _ q1_2_2))
          have c2_5_2 := q2_5_2.1
          have z2_5 : w.heap.size + 1 < w2.heap.size := ltc c2_5_0
          have q2_6_0 : CellF w2 ⟨w.heap.size + 1 + 1, 0, none⟩ (.int .i64 0) := (by first | exact CellF.keep hb2 q1_3_0 | exact CellF.keep hb2 (CellF.past _ q1_3_0) | exact CellF.keep hb2 (CellF.past _ (CellF.past _ q1_3_0)) | exact CellF.keep hb2 (CellF.drewN _ q1_3_0))
          have c2_6_0 := q2_6_0.1
          have g2_6_0 := q2_6_0.2
          have q2_6_1 : CellF w2 ⟨w.heap.size + 1 + 1, 1, none⟩ (.int .i64 0) := (by first | exact CellF.keep hb2 q1_3_1 | exact CellF.keep hb2 (CellF.past _ q1_3_1) | exact CellF.keep hb2 (CellF.past _ (CellF.past _ q1_3_1)) | exact CellF.keep hb2 (CellF.drewN _ q1_3_1))
          have c2_6_1 := q2_6_1.1
          have g2_6_1 := q2_6_1.2
          have q2_6_2 : CellF w2 ⟨w.heap.size + 1 + 1, 2, none⟩ (.bool false) := (by first | exact CellF.keep hb2 q1_3_2 | exact CellF.keep hb2 (CellF.past _ q1_3_2) | exact CellF.keep hb2 (CellF.past _ (CellF.past _ q1_3_2)) | exact CellF.keep hb2 (CellF.drewN _ q1_3_2))
          have c2_6_2 := q2_6_2.1
          have g2_6_2 := q2_6_2.2
          have z2_6 : w.heap.size + 1 + 1 < w2.heap.size := ltc c2_6_0
          go_wp2_with fail
          refine (known1 _ _ _ _ HR _ _ (by go_simp) (by go_simp) (by go_simp)).mono ?_
          rintro e w3 ⟨rfl, hb3⟩
          have q3_7_0 : CellF w3 ⟨w.heap.size, 0, none⟩ (.int .i64 lo) := (by first | exact CellF.keep hb3 q2_4_0 | exact CellF.keep hb3 (CellF.past _ q2_4_0) | exact CellF.keep hb3 (CellF.past _ (CellF.past _ q2_4_0)) | exact CellF.keep hb3 (CellF.drewN _ q2_4_0))
          have c3_7_0 := q3_7_0.1
          have q3_7_1 : CellF w3 ⟨w.heap.size, 1, none⟩ (.int .i64 hi) := (by first | exact CellF.keep hb3 q2_4_1 | exact CellF.keep hb3 (CellF.past _ q2_4_1) | exact CellF.keep hb3 (CellF.past _ (CellF.past _ q2_4_1)) | exact CellF.keep hb3 (CellF.drewN _ q2_4_1))
          have c3_7_1 := q3_7_1.1
          have q3_7_2 : CellF w3 ⟨w.heap.size, 2, none⟩ (.bool k) := (by first | exact CellF.keep hb3 q2_4_2 | exact CellF.keep hb3 (CellF.past _ q2_4_2) | exact CellF.keep hb3 (CellF.past _ (CellF.past _ q2_4_2)) | exact CellF.keep hb3 (CellF.drewN _ q2_4_2))
          have c3_7_2 := q3_7_2.1
          have z3_7 : w.heap.size < w3.heap.size := ltc c3_7_0
          have q3_8_0 : CellF w3 ⟨w.heap.size + 1, 0, none⟩ (.int .i64 lo2) := (by first | exact CellF.keep hb3 q2_5_0 | exact CellF.keep hb3 (CellF.past _ q2_5_0) | exact CellF.keep hb3 (CellF.past _ (CellF.past _ q2_5_0)) | exact CellF.keep hb3 (CellF.drewN _ q2_5_0))
          have c3_8_0 := q3_8_0.1
          have q3_8_1 : CellF w3 ⟨w.heap.size + 1, 1, none⟩ (.int .i64 hi2) := (by first | exact CellF.keep hb3 q2_5_1 | exact CellF.keep hb3 (CellF.past _ q2_5_1) | exact CellF.keep hb3 (CellF.past _ (CellF.past _ q2_5_1)) | exact CellF.keep hb3 (CellF.drewN _ q2_5_1))
          have c3_8_1 := q3_8_1.1
          have q3_8_2 : CellF w3 ⟨w.heap.size + 1, 2, none⟩ (.bool k2) := (by first | exact CellF.keep hb3 q2_5_2 | exact CellF.keep hb3 (CellF.past _ q2_5_2) | exact CellF.keep hb3 (CellF.past _ (CellF.past _ q2_5_2)) | exact CellF.keep hb3 (CellF.drewN _ q2_5_2))
          have c3_8_2 := q3_8_2.1
          have z3_8 : w.heap.size + 1 < w3.heap.size := ltc c3_8_0
          have q3_9_0 : CellF w3 ⟨w.heap.size + 1 + 1, 0, none⟩ (.int .i64 0) := (by first | exact CellF.keep hb3 q2_6_0 | exact CellF.keep hb3 (CellF.past _ q2_6_0) | exact CellF.keep hb3 (CellF.past _ (CellF.past _ q2_6_0)) | exact CellF.keep hb3 (CellF.drewN _ q2_6_0))
          have c3_9_0 := q3_9_0.1
          have g3_9_0 := q3_9_0.2
          have q3_9_1 : CellF w3 ⟨w.heap.size + 1 + 1, 1, none⟩ (.int .i64 0) := (by first | exact CellF.keep hb3 q2_6_1 | exact CellF.keep hb3 (CellF.past _ q2_6_1) | exact CellF.keep hb3 (CellF.past _ (CellF.past _ q2_6_1)) | exact CellF.keep hb3 (CellF.drewN _ q2_6_1))
          have c3_9_1 := q3_9_1.1
          have g3_9_1 := q3_9_1.2
          have q3_9_2 : CellF w3 ⟨w.heap.size + 1 + 1, 2, none⟩ (.bool false) := (by first | exact CellF.keep hb3 q2_6_2 | exact CellF.keep hb3 (CellF.past _ q2_6_2) | exact CellF.keep hb3 (CellF.past _ (CellF.past _ q2_6_2)) | exact CellF.keep hb3 (CellF.drewN _ q2_6_2))
          have c3_9_2 := q3_9_2.1
          have g3_9_2 := q3_9_2.2
          have z3_9 : w.heap.size + 1 + 1 < w3.heap.size := ltc c3_9_0
          go_wp2_with fail
          refine (Of_is _ _ _ _ _ HM _).mono ?_
          rintro e w4 ⟨rfl, hb4⟩
          have q4_10_0 : CellF w4 ⟨w.heap.size + 1 + 1, 0, none⟩ (.int .i64 0) := (by first | exact CellF.keep hb4 q3_9_0 | exact CellF.keep hb4 (CellF.past _ q3_9_0) | exact CellF.keep hb4 (CellF.past _ (CellF.past _ q3_9_0)) | exact CellF.keep hb4 (CellF.drewN _ q3_9_0))
          have c4_10_0 := q4_10_0.1
          have g4_10_0 := q4_10_0.2
          have q4_10_1 : CellF w4 ⟨w.heap.size + 1 + 1, 1, none⟩ (.int .i64 0) := (by first | exact CellF.keep hb4 q3_9_1 | exact CellF.keep hb4 (CellF.past _ q3_9_1) | exact CellF.keep hb4 (CellF.past _ (CellF.past _ q3_9_1)) | exact CellF.keep hb4 (CellF.drewN _ q3_9_1))
          have c4_10_1 := q4_10_1.1
          have g4_10_1 := q4_10_1.2
          have q4_10_2 : CellF w4 ⟨w.heap.size + 1 + 1, 2, none⟩ (.bool false) := (by first | exact CellF.keep hb4 q3_9_2 | exact CellF.keep hb4 (CellF.past _ q3_9_2) | exact CellF.keep hb4 (CellF.past _ (CellF.past _ q3_9_2)) | exact CellF.keep hb4 (CellF.drewN _ q3_9_2))
          have c4_10_2 := q4_10_2.1
          have g4_10_2 := q4_10_2.2
          have z4_10 : w.heap.size + 1 + 1 < w4.heap.size := ltc c4_10_0
          go_wp2
          exact bodyPost_ret (v := .agg #[.int .i64 x, .int .i64 y, .bool z]) (by simp [results, Try.results31, go_sem, c4_10_0, c4_10_1, c4_10_2]) rfl ⟨rfl, (by repeat (first | exact brefl _ | refine balloc ?_ _ | refine bdrewN ?_ _ | refine bset ?_ (by dsimp only; omega) _ | refine bstep ?_ (by assumption)))⟩
      · rw [if_neg h1] at hp
        by_cases h2 : hi ≤ hi2
        · rw [if_pos h2] at hp
          have HM := Lib.hid hp
          clear hp
          go_enter Try.func31, Try.ntmps31
          go_wp2_with fail
          refine (known1 _ _ _ _ HQ _ _ (by go_simp) (by go_simp) (by go_simp)).mono ?_
          rintro e w1 ⟨rfl, hb1⟩
          have q1_1_0 : CellF w1 ⟨w.heap.size, 0, none⟩ (.int .i64 lo) := (by refine CellF.keep hb1 ?_; refine ⟨?_, ?_⟩ <;> go_simp)
          have c1_1_0 := q1_1_0.1
          have q1_1_1 : CellF w1 ⟨w.heap.size, 1, none⟩ (.int .i64 hi) := (by refine CellF.keep hb1 ?_; refine ⟨?_, ?_⟩ <;> go_simp)
          have c1_1_1 := q1_1_1.1
          have q1_1_2 : CellF w1 ⟨w.heap.size, 2, none⟩ (.bool k) := (by refine CellF.keep hb1 ?_; refine ⟨?_, ?_⟩ <;> go_simp)
          have c1_1_2 := q1_1_2.1
          have z1_1 : w.heap.size < w1.heap.size := ltc c1_1_0
          have q1_2_0 : CellF w1 ⟨w.heap.size + 1, 0, none⟩ (.int .i64 lo2) := (by refine CellF.keep hb1 ?_; refine ⟨?_, ?_⟩ <;> go_simp)
          have c1_2_0 := q1_2_0.1
          have q1_2_1 : CellF w1 ⟨w.heap.size + 1, 1, none⟩ (.int .i64 hi2) := (by refine CellF.keep hb1 ?_; refine ⟨?_, ?_⟩ <;> go_simp)
          have c1_2_1 := q1_2_1.1
          have q1_2_2 : CellF w1 ⟨w.heap.size + 1, 2, none⟩ (.bool k2) := (by refine CellF.keep hb1 ?_; refine ⟨?_, ?_⟩ <;> go_simp)
          have c1_2_2 := q1_2_2.1
          have z1_2 : w.heap.size + 1 < w1.heap.size := ltc c1_2_0
          have q1_3_0 : CellF w1 ⟨w.heap.size + 1 + 1, 0, none⟩ (.int .i64 0) := (by refine CellF.keep hb1 ?_; refine ⟨?_, ?_⟩ <;> go_simp)
          have c1_3_0 := q1_3_0.1
          have g1_3_0 := q1_3_0.2
          have q1_3_1 : CellF w1 ⟨w.heap.size + 1 + 1, 1, none⟩ (.int .i64 0) := (by refine CellF.keep hb1 ?_; refine ⟨?_, ?_⟩ <;> go_simp)
          have c1_3_1 := q1_3_1.1
          have g1_3_1 := q1_3_1.2
          have q1_3_2 : CellF w1 ⟨w.heap.size + 1 + 1, 2, none⟩ (.bool false) := (by refine CellF.keep hb1 ?_; refine ⟨?_, ?_⟩ <;> go_simp)
          have c1_3_2 := q1_3_2.1
          have g1_3_2 := q1_3_2.2
          have z1_3 : w.heap.size + 1 + 1 < w1.heap.size := ltc c1_3_0
          go_wp2_with fail
          refine (known1 _ _ _ _ HQ _ _ (by go_simp) (by go_simp) (by go_simp)).mono ?_
          rintro e w2 ⟨rfl, hb2⟩
          have q2_4_0 : CellF w2 ⟨w.heap.size, 0, none⟩ (.int .i64 lo) := (by first | exact CellF.keep hb2 q1_1_0 | exact CellF.keep hb2 (CellF.past _ q1_1_0) | exact CellF.keep hb2 (CellF.past _ (CellF.past _ q1_1_0)) | exact CellF.keep hb2 (CellF.drewN _ q1_1_0))
          have c2_4_0 := q2_4_0.1
          have q2_4_1 : CellF w2 ⟨w.heap.size, 1, none⟩ (.int .i64 hi) := (by first | exact CellF.keep hb2 q1_1_1 | exact CellF.keep hb2 (CellF.past _ q1_1_1) | exact CellF.keep hb2 (CellF.past _ (CellF.past _ q1_1_1)) | exact CellF.keep hb2 (CellF.drewN _ q1_1_1))
          have c2_4_1 := q2_4_1.1
          have q2_4_2 : CellF w2 ⟨w.heap.size, 2, none⟩ (.bool k) := (by first | exact CellF.keep hb2 q1_1_2 | exact CellF.keep hb2 (CellF.past _ q1_1_2) | exact CellF.keep hb2 (CellF.past _ (CellF.past _ q1_1_2)) | exact CellF.keep hb2 (CellF.drewN _ q1_1_2))
          have c2_4_2 := q2_4_2.1
          have z2_4 : w.heap.size < w2.heap.size := ltc c2_4_0
          have q2_5_0 : CellF w2 ⟨w.heap.size + 1, 0, none⟩ (.int .i64 lo2) := (by first | exact CellF.keep hb2 q1_2_0 | exact CellF.keep hb2 (CellF.past _ q1_2_0) | exact CellF.keep hb2 (CellF.past _ (CellF.past _ q1_2_0)) | exact CellF.keep hb2 (CellF.drewN _ q1_2_0))
          have c2_5_0 := q2_5_0.1
          have q2_5_1 : CellF w2 ⟨w.heap.size + 1, 1, none⟩ (.int .i64 hi2) := (by first | exact CellF.keep hb2 q1_2_1 | exact CellF.keep hb2 (CellF.past _ q1_2_1) | exact CellF.keep hb2 (CellF.past _ (CellF.past _ q1_2_1)) | exact CellF.keep hb2 (CellF.drewN _ q1_2_1))
          have c2_5_1 := q2_5_1.1
          have q2_5_2 : CellF w2 ⟨w.heap.size + 1, 2, none⟩ (.bool k2) := (by first | exact CellF.keep hb2 q1_2_2 | exact CellF.keep hb2 (CellF.past _ q1_2_2) | exact CellF.keep hb2 (CellF.past _ (CellF.past _ q1_2_2)) | exact CellF.keep hb2 (CellF.drewN _ q1_2_2))
          have c2_5_2 := q2_5_2.1
          have z2_5 : w.heap.size + 1 < w2.heap.size := ltc c2_5_0
          have q2_6_0 : CellF w2 ⟨w.heap.size + 1 + 1, 0, none⟩ (.int .i64 0) := (by first | exact CellF.keep hb2 q1_3_0 | exact CellF.keep hb2 (CellF.past _ q1_3_0) | exact CellF.keep hb2 (CellF.past _ (CellF.past _ q1_3_0)) | exact CellF.keep hb2 (CellF.drewN _ q1_3_0))
          have c2_6_0 := q2_6_0.1
          have g2_6_0 := q2_6_0.2
          have q2_6_1 : CellF w2 ⟨w.heap.size + 1 + 1, 1, none⟩ (.int .i64 0) := (by first | exact CellF.keep hb2 q1_3_1 | exact CellF.keep hb2 (CellF.past _ q1_3_1) | exact CellF.keep hb2 (CellF.past _ (CellF.past _ q1_3_1)) | exact CellF.keep hb2 (CellF.drewN _ q1_3_1))
          have c2_6_1 := q2_6_1.1
          have g2_6_1 := q2_6_1.2
          have q2_6_2 : CellF w2 ⟨w.heap.size + 1 + 1, 2, none⟩ (.bool false) := (by first | exact CellF.keep hb2 q1_3_2 | exact CellF.keep hb2 (CellF.past _ q1_3_2) | exact CellF.keep hb2 (CellF.past _ (CellF.past _ q1_3_2)) | exact CellF.keep hb2 (CellF.drewN _ q1_3_2))
          have c2_6_2 := q2_6_2.1
          have g2_6_2 := q2_6_2.2
          have z2_6 : w.heap.size + 1 + 1 < w2.heap.size := ltc c2_6_0
          go_wp2_with fail
          refine (known1 _ _ _ _ HR _ _ (by go_simp) (by go_simp) (by go_simp)).mono ?_
          rintro e w3 ⟨rfl, hb3⟩
          have q3_7_0 : CellF w3 ⟨w.heap.size, 0, none⟩ (.int .i64 lo) := (by first | exact CellF.keep hb3 q2_4_0 | exact CellF.keep hb3 (CellF.past _ q2_4_0) | exact CellF.keep hb3 (CellF.past _ (CellF.past _ q2_4_0)) | exact CellF.keep hb3 (CellF.drewN _ q2_4_0))
          have c3_7_0 := q3_7_0.1
          have q3_7_1 : CellF w3 ⟨w.heap.size, 1, none⟩ (.int .i64 hi) := (by first | exact CellF.keep hb3 q2_4_1 | exact CellF.keep hb3 (CellF.past _ q2_4_1) | exact CellF.keep hb3 (CellF.past _ (CellF.past _ q2_4_1)) | exact CellF.keep hb3 (CellF.drewN _ q2_4_1))
          have c3_7_1 := q3_7_1.1
          have q3_7_2 : CellF w3 ⟨w.heap.size, 2, none⟩ (.bool k) := (by first | exact CellF.keep hb3 q2_4_2 | exact CellF.keep hb3 (CellF.past _ q2_4_2) | exact CellF.keep hb3 (CellF.past _ (CellF.past _ q2_4_2)) | exact CellF.keep hb3 (CellF.drewN _ q2_4_2))
          have c3_7_2 := q3_7_2.1
          have z3_7 : w.heap.size < w3.heap.size := ltc c3_7_0
          have q3_8_0 : CellF w3 ⟨w.heap.size + 1, 0, none⟩ (.int .i64 lo2) := (by first | exact CellF.keep hb3 q2_5_0 | exact CellF.keep hb3 (CellF.past _ q2_5_0) | exact CellF.keep hb3 (CellF.past _ (CellF.past _ q2_5_0)) | exact CellF.keep hb3 (CellF.drewN _ q2_5_0))
          have c3_8_0 := q3_8_0.1
          have q3_8_1 : CellF w3 ⟨w.heap.size + 1, 1, none⟩ (.int .i64 hi2) := (by first | exact CellF.keep hb3 q2_5_1 | exact CellF.keep hb3 (CellF.past _ q2_5_1) | exact CellF.keep hb3 (CellF.past _ (CellF.past _ q2_5_1)) | exact CellF.keep hb3 (CellF.drewN _ q2_5_1))
          have c3_8_1 := q3_8_1.1
          have q3_8_2 : CellF w3 ⟨w.heap.size + 1, 2, none⟩ (.bool k2) := (by first | exact CellF.keep hb3 q2_5_2 | exact CellF.keep hb3 (CellF.past _ q2_5_2) | exact CellF.keep hb3 (CellF.past _ (CellF.past _ q2_5_2)) | exact CellF.keep hb3 (CellF.drewN _ q2_5_2))
          have c3_8_2 := q3_8_2.1
          have z3_8 : w.heap.size + 1 < w3.heap.size := ltc c3_8_0
          have q3_9_0 : CellF w3 ⟨w.heap.size + 1 + 1, 0, none⟩ (.int .i64 0) := (by first | exact CellF.keep hb3 q2_6_0 | exact CellF.keep hb3 (CellF.past _ q2_6_0) | exact CellF.keep hb3 (CellF.past _ (CellF.past _ q2_6_0)) | exact CellF.keep hb3 (CellF.drewN _ q2_6_0))
          have c3_9_0 := q3_9_0.1
          have g3_9_0 := q3_9_0.2
          have q3_9_1 : CellF w3 ⟨w.heap.size + 1 + 1, 1, none⟩ (.int .i64 0) := (by first | exact CellF.keep hb3 q2_6_1 | exact CellF.keep hb3 (CellF.past _ q2_6_1) | exact CellF.keep hb3 (CellF.past _ (CellF.past _ q2_6_1)) | exact CellF.keep hb3 (CellF.drewN _ q2_6_1))
          have c3_9_1 := q3_9_1.1
          have g3_9_1 := q3_9_1.2
          have q3_9_2 : CellF w3 ⟨w.heap.size + 1 + 1, 2, none⟩ (.bool false) := (by first | exact CellF.keep hb3 q2_6_2 | exact CellF.keep hb3 (CellF.past _ q2_6_2) | exact CellF.keep hb3 (CellF.past _ (CellF.past _ q2_6_2)) | exact CellF.keep hb3 (CellF.drewN _ q2_6_2))
          have c3_9_2 := q3_9_2.1
          have g3_9_2 := q3_9_2.2
          have z3_9 : w.heap.size + 1 + 1 < w3.heap.size := ltc c3_9_0
          go_wp2_with fail
          refine (Of_is _ _ _ _ _ HM _).mono ?_
          rintro e w4 ⟨rfl, hb4⟩
          have q4_10_0 : CellF w4 ⟨w.heap.size + 1 + 1, 0, none⟩ (.int .i64 0) := (by first | exact CellF.keep hb4 q3_9_0 | exact CellF.keep hb4 (CellF.past _ q3_9_0) | exact CellF.keep hb4 (CellF.past _ (CellF.past _ q3_9_0)) | exact CellF.keep hb4 (CellF.drewN _ q3_9_0))
          have c4_10_0 := q4_10_0.1
          have g4_10_0 := q4_10_0.2
          have q4_10_1 : CellF w4 ⟨w.heap.size + 1 + 1, 1, none⟩ (.int .i64 0) := (by first | exact CellF.keep hb4 q3_9_1 | exact CellF.keep hb4 (CellF.past _ q3_9_1) | exact CellF.keep hb4 (CellF.past _ (CellF.past _ q3_9_1)) | exact CellF.keep hb4 (CellF.drewN _ q3_9_1))
          have c4_10_1 := q4_10_1.1
          have g4_10_1 := q4_10_1.2
          have q4_10_2 : CellF w4 ⟨w.heap.size + 1 + 1, 2, none⟩ (.bool false) := (by first | exact CellF.keep hb4 q3_9_2 | exact CellF.keep hb4 (CellF.past _ q3_9_2) | exact CellF.keep hb4 (CellF.past _ (CellF.past _ q3_9_2)) | exact CellF.keep hb4 (CellF.drewN _ q3_9_2))
          have c4_10_2 := q4_10_2.1
          have g4_10_2 := q4_10_2.2
          have z4_10 : w.heap.size + 1 + 1 < w4.heap.size := ltc c4_10_0
          go_wp2
          exact bodyPost_ret (v := .agg #[.int .i64 x, .int .i64 y, .bool z]) (by simp [results, Try.results31, go_sem, c4_10_0, c4_10_1, c4_10_2]) rfl ⟨rfl, (by repeat (first | exact brefl _ | refine balloc ?_ _ | refine bdrewN ?_ _ | refine bset ?_ (by dsimp only; omega) _ | refine bstep ?_ (by assumption)))⟩
        · rw [if_neg h2] at hp
          have HM := Lib.hid hp
          clear hp
          go_enter Try.func31, Try.ntmps31
          go_wp2_with fail
          refine (known1 _ _ _ _ HQ _ _ (by go_simp) (by go_simp) (by go_simp)).mono ?_
          rintro e w1 ⟨rfl, hb1⟩
          have q1_1_0 : CellF w1 ⟨w.heap.size, 0, none⟩ (.int .i64 lo) := (by refine CellF.keep hb1 ?_; refine ⟨?_, ?_⟩ <;> go_simp)
          have c1_1_0 := q1_1_0.1
          have q1_1_1 : CellF w1 ⟨w.heap.size, 1, none⟩ (.int .i64 hi) := (by refine CellF.keep hb1 ?_; refine ⟨?_, ?_⟩ <;> go_simp)
          have c1_1_1 := q1_1_1.1
          have q1_1_2 : CellF w1 ⟨w.heap.size, 2, none⟩ (.bool k) := (by refine CellF.keep hb1 ?_; refine ⟨?_, ?_⟩ <;> go_simp)
          have c1_1_2 := q1_1_2.1
          have z1_1 : w.heap.size < w1.heap.size := ltc c1_1_0
          have q1_2_0 : CellF w1 ⟨w.heap.size + 1, 0, none⟩ (.int .i64 lo2) := (by refine CellF.keep hb1 ?_; refine ⟨?_, ?_⟩ <;> go_simp)
          have c1_2_0 := q1_2_0.1
          have q1_2_1 : CellF w1 ⟨w.heap.size + 1, 1, none⟩ (.int .i64 hi2) := (by refine CellF.keep hb1 ?_; refine ⟨?_, ?_⟩ <;> go_simp)
          have c1_2_1 := q1_2_1.1
          have q1_2_2 : CellF w1 ⟨w.heap.size + 1, 2, none⟩ (.bool k2) := (by refine CellF.keep hb1 ?_; refine ⟨?_, ?_⟩ <;> go_simp)
          have c1_2_2 := q1_2_2.1
          have z1_2 : w.heap.size + 1 < w1.heap.size := ltc c1_2_0
          have q1_3_0 : CellF w1 ⟨w.heap.size + 1 + 1, 0, none⟩ (.int .i64 0) := (by refine CellF.keep hb1 ?_; refine ⟨?_, ?_⟩ <;> go_simp)
          have c1_3_0 := q1_3_0.1
          have g1_3_0 := q1_3_0.2
          have q1_3_1 : CellF w1 ⟨w.heap.size + 1 + 1, 1, none⟩ (.int .i64 0) := (by refine CellF.keep hb1 ?_; refine ⟨?_, ?_⟩ <;> go_simp)
          have c1_3_1 := q1_3_1.1
          have g1_3_1 := q1_3_1.2
          have q1_3_2 : CellF w1 ⟨w.heap.size + 1 + 1, 2, none⟩ (.bool false) := (by refine CellF.keep hb1 ?_; refine ⟨?_, ?_⟩ <;> go_simp)
          have c1_3_2 := q1_3_2.1
          have g1_3_2 := q1_3_2.2
          have z1_3 : w.heap.size + 1 + 1 < w1.heap.size := ltc c1_3_0
          go_wp2_with fail
          refine (known1 _ _ _ _ HQ _ _ (by go_simp) (by go_simp) (by go_simp)).mono ?_
          rintro e w2 ⟨rfl, hb2⟩
          have q2_4_0 : CellF w2 ⟨w.heap.size, 0, none⟩ (.int .i64 lo) := (by first | exact CellF.keep hb2 q1_1_0 | exact CellF.keep hb2 (CellF.past _ q1_1_0) | exact CellF.keep hb2 (CellF.past _ (CellF.past _ q1_1_0)) | exact CellF.keep hb2 (CellF.drewN _ q1_1_0))
          have c2_4_0 := q2_4_0.1
          have q2_4_1 : CellF w2 ⟨w.heap.size, 1, none⟩ (.int .i64 hi) := (by first | exact CellF.keep hb2 q1_1_1 | exact CellF.keep hb2 (CellF.past _ q1_1_1) | exact CellF.keep hb2 (CellF.past _ (CellF.past _ q1_1_1)) | exact CellF.keep hb2 (CellF.drewN _ q1_1_1))
          have c2_4_1 := q2_4_1.1
          have q2_4_2 : CellF w2 ⟨w.heap.size, 2, none⟩ (.bool k) := (by first | exact CellF.keep hb2 q1_1_2 | exact CellF.keep hb2 (CellF.past _ q1_1_2) | exact CellF.keep hb2 (CellF.past _ (CellF.past _ q1_1_2)) | exact CellF.keep hb2 (CellF.drewN _ q1_1_2))
          have c2_4_2 := q2_4_2.1
          have z2_4 : w.heap.size < w2.heap.size := ltc c2_4_0
          have q2_5_0 : CellF w2 ⟨w.heap.size + 1, 0, none⟩ (.int .i64 lo2) := (by first | exact CellF.keep hb2 q1_2_0 | exact CellF.keep hb2 (CellF.past _ q1_2_0) | exact CellF.keep hb2 (CellF.past _ (CellF.past _ q1_2_0)) | exact CellF.keep hb2 (CellF.drewN _ q1_2_0))
          have c2_5_0 := q2_5_0.1
          have q2_5_1 : CellF w2 ⟨w.heap.size + 1, 1, none⟩ (.int .i64 hi2) := (by first | exact CellF.keep hb2 q1_2_1 | exact CellF.keep hb2 (CellF.past _ q1_2_1) | exact CellF.keep hb2 (CellF.past _ (CellF.past _ q1_2_1)) | exact CellF.keep hb2 (CellF.drewN _ q1_2_1))
          have c2_5_1 := q2_5_1.1
          have q2_5_2 : CellF w2 ⟨w.heap.size + 1, 2, none⟩ (.bool k2) := (by first | exact CellF.keep hb2 q1_2_2 | exact CellF.keep hb2 (CellF.past _ q1_2_2) | exact CellF.keep hb2 (CellF.past _ (CellF.past _ q1_2_2)) | exact CellF.keep hb2 (CellF.drewN _ q1_2_2))
          have c2_5_2 := q2_5_2.1
          have z2_5 : w.heap.size + 1 < w2.heap.size := ltc c2_5_0
          have q2_6_0 : CellF w2 ⟨w.heap.size + 1 + 1, 0, none⟩ (.int .i64 0) := (by first | exact CellF.keep hb2 q1_3_0 | exact CellF.keep hb2 (CellF.past _ q1_3_0) | exact CellF.keep hb2 (CellF.past _ (CellF.past _ q1_3_0)) | exact CellF.keep hb2 (CellF.drewN _ q1_3_0))
          have c2_6_0 := q2_6_0.1
          have g2_6_0 := q2_6_0.2
          have q2_6_1 : CellF w2 ⟨w.heap.size + 1 + 1, 1, none⟩ (.int .i64 0) := (by first | exact CellF.keep hb2 q1_3_1 | exact CellF.keep hb2 (CellF.past _ q1_3_1) | exact CellF.keep hb2 (CellF.past _ (CellF.past _ q1_3_1)) | exact CellF.keep hb2 (CellF.drewN _ q1_3_1))
          have c2_6_1 := q2_6_1.1
          have g2_6_1 := q2_6_1.2
          have q2_6_2 : CellF w2 ⟨w.heap.size + 1 + 1, 2, none⟩ (.bool false) := (by first | exact CellF.keep hb2 q1_3_2 | exact CellF.keep hb2 (CellF.past _ q1_3_2) | exact CellF.keep hb2 (CellF.past _ (CellF.past _ q1_3_2)) | exact CellF.keep hb2 (CellF.drewN _ q1_3_2))
          have c2_6_2 := q2_6_2.1
          have g2_6_2 := q2_6_2.2
          have z2_6 : w.heap.size + 1 + 1 < w2.heap.size := ltc c2_6_0
          go_wp2_with fail
          refine (known1 _ _ _ _ HR _ _ (by go_simp) (by go_simp) (by go_simp)).mono ?_
          rintro e w3 ⟨rfl, hb3⟩
          have q3_7_0 : CellF w3 ⟨w.heap.size, 0, none⟩ (.int .i64 lo) := (by first | exact CellF.keep hb3 q2_4_0 | exact CellF.keep hb3 (CellF.past _ q2_4_0) | exact CellF.keep hb3 (CellF.past _ (CellF.past _ q2_4_0)) | exact CellF.keep hb3 (CellF.drewN _ q2_4_0))
          have c3_7_0 := q3_7_0.1
          have q3_7_1 : CellF w3 ⟨w.heap.size, 1, none⟩ (.int .i64 hi) := (by first | exact CellF.keep hb3 q2_4_1 | exact CellF.keep hb3 (CellF.past _ q2_4_1) | exact CellF.keep hb3 (CellF.past _ (CellF.past _ q2_4_1)) | exact CellF.keep hb3 (CellF.drewN _ q2_4_1))
          have c3_7_1 := q3_7_1.1
          have q3_7_2 : CellF w3 ⟨w.heap.size, 2, none⟩ (.bool k) := (by first | exact CellF.keep hb3 q2_4_2 | exact CellF.keep hb3 (CellF.past _ q2_4_2) | exact CellF.keep hb3 (CellF.past _ (CellF.past _ q2_4_2)) | exact CellF.keep hb3 (CellF.drewN _ q2_4_2))
          have c3_7_2 := q3_7_2.1
          have z3_7 : w.heap.size < w3.heap.size := ltc c3_7_0
          have q3_8_0 : CellF w3 ⟨w.heap.size + 1, 0, none⟩ (.int .i64 lo2) := (by first | exact CellF.keep hb3 q2_5_0 | exact CellF.keep hb3 (CellF.past _ q2_5_0) | exact CellF.keep hb3 (CellF.past _ (CellF.past _ q2_5_0)) | exact CellF.keep hb3 (CellF.drewN _ q2_5_0))
          have c3_8_0 := q3_8_0.1
          have q3_8_1 : CellF w3 ⟨w.heap.size + 1, 1, none⟩ (.int .i64 hi2) := (by first | exact CellF.keep hb3 q2_5_1 | exact CellF.keep hb3 (CellF.past _ q2_5_1) | exact CellF.keep hb3 (CellF.past _ (CellF.past _ q2_5_1)) | exact CellF.keep hb3 (CellF.drewN _ q2_5_1))
          have c3_8_1 := q3_8_1.1
          have q3_8_2 : CellF w3 ⟨w.heap.size + 1, 2, none⟩ (.bool k2) := (by first | exact CellF.keep hb3 q2_5_2 | exact CellF.keep hb3 (CellF.past _ q2_5_2) | exact CellF.keep hb3 (CellF.past _ (CellF.past _ q2_5_2)) | exact CellF.keep hb3 (CellF.drewN _ q2_5_2))
          have c3_8_2 := q3_8_2.1
          have z3_8 : w.heap.size + 1 < w3.heap.size := ltc c3_8_0
          have q3_9_0 : CellF w3 ⟨w.heap.size + 1 + 1, 0, none⟩ (.int .i64 0) := (by first | exact CellF.keep hb3 q2_6_0 | exact CellF.keep hb3 (CellF.past _ q2_6_0) | exact CellF.keep hb3 (CellF.past _ (CellF.past _ q2_6_0)) | exact CellF.keep hb3 (CellF.drewN _ q2_6_0))
          have c3_9_0 := q3_9_0.1
          have g3_9_0 := q3_9_0.2
          have q3_9_1 : CellF w3 ⟨w.heap.size + 1 + 1, 1, none⟩ (.int .i64 0) := (by first | exact CellF.keep hb3 q2_6_1 | exact CellF.keep hb3 (CellF.past _ q2_6_1) | exact CellF.keep hb3 (CellF.past _ (CellF.past _ q2_6_1)) | exact CellF.keep hb3 (CellF.drewN _ q2_6_1))
          have c3_9_1 := q3_9_1.1
          have g3_9_1 := q3_9_1.2
          have q3_9_2 : CellF w3 ⟨w.heap.size + 1 + 1, 2, none⟩ (.bool false) := (by first | exact CellF.keep hb3 q2_6_2 | exact CellF.keep hb3 (CellF.past _ q2_6_2) | exact CellF.keep hb3 (CellF.past _ (CellF.past _ q2_6_2)) | exact CellF.keep hb3 (CellF.drewN _ q2_6_2))
          have c3_9_2 := q3_9_2.1
          have g3_9_2 := q3_9_2.2
          have z3_9 : w.heap.size + 1 + 1 < w3.heap.size := ltc c3_9_0
          go_wp2_with fail
          refine (Of_is _ _ _ _ _ HM _).mono ?_
          rintro e w4 ⟨rfl, hb4⟩
          have q4_10_0 : CellF w4 ⟨w.heap.size + 1 + 1, 0, none⟩ (.int .i64 0) := (by first | exact CellF.keep hb4 q3_9_0 | exact CellF.keep hb4 (CellF.past _ q3_9_0) | exact CellF.keep hb4 (CellF.past _ (CellF.past _ q3_9_0)) | exact CellF.keep hb4 (CellF.drewN _ q3_9_0))
          have c4_10_0 := q4_10_0.1
          have g4_10_0 := q4_10_0.2
          have q4_10_1 : CellF w4 ⟨w.heap.size + 1 + 1, 1, none⟩ (.int .i64 0) := (by first | exact CellF.keep hb4 q3_9_1 | exact CellF.keep hb4 (CellF.past _ q3_9_1) | exact CellF.keep hb4 (CellF.past _ (CellF.past _ q3_9_1)) | exact CellF.keep hb4 (CellF.drewN _ q3_9_1))
          have c4_10_1 := q4_10_1.1
          have g4_10_1 := q4_10_1.2
          have q4_10_2 : CellF w4 ⟨w.heap.size + 1 + 1, 2, none⟩ (.bool false) := (by first | exact CellF.keep hb4 q3_9_2 | exact CellF.keep hb4 (CellF.past _ q3_9_2) | exact CellF.keep hb4 (CellF.past _ (CellF.past _ q3_9_2)) | exact CellF.keep hb4 (CellF.drewN _ q3_9_2))
          have c4_10_2 := q4_10_2.1
          have g4_10_2 := q4_10_2.2
          have z4_10 : w.heap.size + 1 + 1 < w4.heap.size := ltc c4_10_0
          go_wp2
          exact bodyPost_ret (v := .agg #[.int .i64 x, .int .i64 y, .bool z]) (by simp [results, Try.results31, go_sem, c4_10_0, c4_10_1, c4_10_2]) rfl ⟨rfl, (by repeat (first | exact brefl _ | refine balloc ?_ _ | refine bdrewN ?_ _ | refine bset ?_ (by dsimp only; omega) _ | refine bstep ?_ (by assumption)))⟩
end Go.Proofs.Ytklnlhphgiipjaa
