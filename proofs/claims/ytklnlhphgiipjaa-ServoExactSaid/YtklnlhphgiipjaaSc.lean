/-
  The walks of package span's Within and made.
-/
import Derived.Test.YtklnlhphgiipjaaSb
namespace Go.Proofs.Ytklnlhphgiipjaa
open Go.RowKit

theorem Within_is (lo hi lo2 hi2 : Int) (k k2 p : Bool) (H : Hid (spWithin ⟨lo, hi, k⟩ ⟨lo2, hi2, k2⟩ = p)) (w : World) :
    Calls Try.prog 27 #[.agg #[.int .i64 lo, .int .i64 hi, .bool k], .agg #[.int .i64 lo2, .int .i64 hi2, .bool k2]] w fun e w' => e = .returned (.bool p) ∧ Below w.heap.size w w' := by
  obtain ⟨r, hr⟩ : ∃ q, spK ⟨lo2, hi2, k2⟩ = q := ⟨_, rfl⟩
  obtain ⟨q, hq⟩ : ∃ q, spK ⟨lo, hi, k⟩ = q := ⟨_, rfl⟩
  have hp : (!r || ((q && decide (lo2 ≤ lo)) && decide (hi ≤ hi2))) = p := by rw [← H.out, ← hq, ← hr]; rfl
  have HQ := Lib.hid hq
  have HR := Lib.hid hr
  clear H hq hr
  cases r with
  | false =>
    obtain rfl : true = p := by simpa using hp
    clear hp
    go_enter Try.func27, Try.ntmps27
    go_wp2_with fail
    refine (known1 _ _ _ _ HR _ _ (by go_simp) (by go_simp) (by go_simp)).mono ?_
    rintro e w1 ⟨rfl, hb1⟩
    go_wp2
    go_ret
    exact ⟨rfl, (by repeat (first | exact brefl _ | refine balloc ?_ _ | refine bdrewN ?_ _ | refine bset ?_ (by dsimp only; omega) _ | refine bstep ?_ (by assumption)))⟩
  | true =>
    cases q with
    | false =>
      obtain rfl : false = p := by simpa using hp
      clear hp
      go_enter Try.func27, Try.ntmps27
      go_wp2_with fail
      refine (known1 _ _ _ _ HR _ _ (by go_simp) (by go_simp) (by go_simp)).mono ?_
      rintro e w1 ⟨rfl, hb1⟩
      have q1_1_0 : CellF w1 ⟨w.heap.size, 0, none⟩ (.int .i64 lo) := (by refine CellF.keep hb1 ?_; refine ⟨?_, ?_⟩ <;> go_simp)
      have c1_1_0 := q1_1_0.1
      have q1_1_1 : CellF w1 ⟨w.heap.size, 1, none⟩ (.int .i64 hi) := (by refine CellF.keep hb1 ?_; refine ⟨?_, ?_⟩ <;> go_simp)
      have c1_1_1 := q1_1_1.1
      have q1_1_2 : CellF w1 ⟨w.heap.size, 2, none⟩ (.bool k) := (by refine CellF.keep hb1 ?_; refine ⟨?_, ?_⟩ <;> go_simp)
      have c1_1_2 := q1_1_2.1
      have z1_1 : w.heap.size < w1.heap.size := ltc c1_1_0
      have q1_2_0 : CellF w1 ⟨w.heap.size + 1, 0, none⟩ (.int .i64 lo2) := (by refine CellF.keep hb1 ?_; refine ⟨?_, ?_⟩ <;> go_simp)
      have c1_2_0 := q1_2_0.1
      have q1_2_1 : CellF w1 ⟨w.heap.size + 1, 1, none⟩ (.int .i64 hi2) := (by refine CellF.keep hb1 ?_; refine ⟨?_, ?_⟩ <;> go_simp)
      have c1_2_1 := q1_2_1.1
      have q1_2_2 : CellF w1 ⟨w.heap.size + 1, 2, none⟩ (.bool k2) := (by refine CellF.keep hb1 ?_; refine ⟨?_, ?_⟩ <;> go_simp)
      have c1_2_2 := q1_2_2.1
      have z1_2 : w.heap.size + 1 < w1.heap.size := ltc c1_2_0
      go_wp2_with fail
      refine (known1 _ _ _ _ HQ _ _ (by go_simp) (by go_simp) (by go_simp)).mono ?_
      rintro e w2 ⟨rfl, hb2⟩
      go_wp2
      go_ret
      exact ⟨rfl, (by repeat (first | exact brefl _ | refine balloc ?_ _ | refine bdrewN ?_ _ | refine bset ?_ (by dsimp only; omega) _ | refine bstep ?_ (by assumption)))⟩
    | true =>
      by_cases h1 : lo2 ≤ lo
      · by_cases h2 : hi ≤ hi2
        · obtain rfl : true = p := by simpa [h1, h2] using hp
          clear hp
          go_enter Try.func27, Try.ntmps27
          go_wp2_with fail
          refine (known1 _ _ _ _ HR _ _ (by go_simp) (by go_simp) (by go_simp)).mono ?_
          rintro e w1 ⟨rfl, hb1⟩
          have q1_1_0 : CellF w1 ⟨w.heap.size, 0, none⟩ (.int .i64 lo) := (by refine CellF.keep hb1 ?_; refine ⟨?_, ?_⟩ <;> go_simp)
          have c1_1_0 := q1_1_0.1
          have q1_1_1 : CellF w1 ⟨w.heap.size, 1, none⟩ (.int .i64 hi) := (by refine CellF.keep hb1 ?_; refine ⟨?_, ?_⟩ <;> go_simp)
          have c1_1_1 := q1_1_1.1
          have q1_1_2 : CellF w1 ⟨w.heap.size, 2, none⟩ (.bool k) := (by refine CellF.keep hb1 ?_; refine ⟨?_, ?_⟩ <;> go_simp)
          have c1_1_2 := q1_1_2.1
          have z1_1 : w.heap.size < w1.heap.size := ltc c1_1_0
          have q1_2_0 : CellF w1 ⟨w.heap.size + 1, 0, none⟩ (.int .i64 lo2) := (by refine CellF.keep hb1 ?_; refine ⟨?_, ?_⟩ <;> go_simp)
          have c1_2_0 := q1_2_0.1
          have q1_2_1 : CellF w1 ⟨w.heap.size + 1, 1, none⟩ (.int .i64 hi2) := (by refine CellF.keep hb1 ?_; refine ⟨?_, ?_⟩ <;> go_simp)
          have c1_2_1 := q1_2_1.1
          have q1_2_2 : CellF w1 ⟨w.heap.size + 1, 2, none⟩ (.bool k2) := (by refine CellF.keep hb1 ?_; refine ⟨?_, ?_⟩ <;> go_simp)
          have c1_2_2 := q1_2_2.1
          have z1_2 : w.heap.size + 1 < w1.heap.size := ltc c1_2_0
          go_wp2_with fail
          refine (known1 _ _ _ _ HQ _ _ (by go_simp) (by go_simp) (by go_simp)).mono ?_
          rintro e w2 ⟨rfl, hb2⟩
          have q2_3_0 : CellF w2 ⟨w.heap.size, 0, none⟩ (.int .i64 lo) := (by first | exact CellF.keep hb2 q1_1_0 | exact CellF.keep hb2 (CellF.past _ q1_1_0) | exact CellF.keep hb2 (CellF.past _ (CellF.past _ q1_1_0)) | exact CellF.keep hb2 (CellF.drewN _ q1_1_0))
          have c2_3_0 := q2_3_0.1
          have q2_3_1 : CellF w2 ⟨w.heap.size, 1, none⟩ (.int .i64 hi) := (by first | exact CellF.keep hb2 q1_1_1 | exact CellF.keep hb2 (CellF.past _ q1_1_1) | exact CellF.keep hb2 (CellF.past _ (CellF.past _ q1_1_1)) | exact CellF.keep hb2 (CellF.drewN _ q1_1_1))
          have c2_3_1 := q2_3_1.1
          have q2_3_2 : CellF w2 ⟨w.heap.size, 2, none⟩ (.bool k) := (by first | exact CellF.keep hb2 q1_1_2 | exact CellF.keep hb2 (CellF.past _ q1_1_2) | exact CellF.keep hb2 (CellF.past _ (CellF.past _ q1_1_2)) | exact CellF.keep hb2 (CellF.drewN _ q1_1_2))
          have c2_3_2 := q2_3_2.1
          have z2_3 : w.heap.size < w2.heap.size := ltc c2_3_0
          have q2_4_0 : CellF w2 ⟨w.heap.size + 1, 0, none⟩ (.int .i64 lo2) := (by first | exact CellF.keep hb2 q1_2_0 | exact CellF.keep hb2 (CellF.past _ q1_2_0) | exact CellF.keep hb2 (CellF.past _ (CellF.past _ q1_2_0)) | exact CellF.keep hb2 (CellF.drewN _ q1_2_0))
          have c2_4_0 := q2_4_0.1
          have q2_4_1 : CellF w2 ⟨w.heap.size + 1, 1, none⟩ (.int .i64 hi2) := (by first | exact CellF.keep hb2 q1_2_1 | exact CellF.keep hb2 (CellF.past _ q1_2_1) | exact CellF.keep hb2 (CellF.past _ (CellF.past _ q1_2_1)) | exact CellF.keep hb2 (CellF.drewN _ q1_2_1))
          have c2_4_1 := q2_4_1.1
          have q2_4_2 : CellF w2 ⟨w.heap.size + 1, 2, none⟩ (.bool k2) := (by first | exact CellF.keep hb2 q1_2_2 | exact CellF.keep hb2 (CellF.past _ q1_2_2) | exact CellF.keep hb2 (CellF.past _ (CellF.past _ q1_2_2)) | exact CellF.keep hb2 (CellF.drewN _ q1_2_2))
          have c2_4_2 := q2_4_2.1
          have z2_4 : w.heap.size + 1 < w2.heap.size := ltc c2_4_0
          go_wp2
          go_ret
          exact ⟨rfl, (by repeat (first | exact brefl _ | refine balloc ?_ _ | refine bdrewN ?_ _ | refine bset ?_ (by dsimp only; omega) _ | refine bstep ?_ (by assumption)))⟩
        · obtain rfl : false = p := by simpa [h1, h2] using hp
          clear hp
          have d2 : decide (hi ≤ hi2) = false := decide_eq_false h2
          go_enter Try.func27, Try.ntmps27
          go_wp2_with fail
          refine (known1 _ _ _ _ HR _ _ (by go_simp) (by go_simp) (by go_simp)).mono ?_
          rintro e w1 ⟨rfl, hb1⟩
          have q1_1_0 : CellF w1 ⟨w.heap.size, 0, none⟩ (.int .i64 lo) := (by refine CellF.keep hb1 ?_; refine ⟨?_, ?_⟩ <;> go_simp)
          have c1_1_0 := q1_1_0.1
          have q1_1_1 : CellF w1 ⟨w.heap.size, 1, none⟩ (.int .i64 hi) := (by refine CellF.keep hb1 ?_; refine ⟨?_, ?_⟩ <;> go_simp)
          have c1_1_1 := q1_1_1.1
          have q1_1_2 : CellF w1 ⟨w.heap.size, 2, none⟩ (.bool k) := (by refine CellF.keep hb1 ?_; refine ⟨?_, ?_⟩ <;> go_simp)
          have c1_1_2 := q1_1_2.1
          have z1_1 : w.heap.size < w1.heap.size := ltc c1_1_0
          have q1_2_0 : CellF w1 ⟨w.heap.size + 1, 0, none⟩ (.int .i64 lo2) := (by refine CellF.keep hb1 ?_; refine ⟨?_, ?_⟩ <;> go_simp)
          have c1_2_0 := q1_2_0.1
          have q1_2_1 : CellF w1 ⟨w.heap.size + 1, 1, none⟩ (.int .i64 hi2) := (by refine CellF.keep hb1 ?_; refine ⟨?_, ?_⟩ <;> go_simp)
          have c1_2_1 := q1_2_1.1
          have q1_2_2 : CellF w1 ⟨w.heap.size + 1, 2, none⟩ (.bool k2) := (by refine CellF.keep hb1 ?_; refine ⟨?_, ?_⟩ <;> go_simp)
          have c1_2_2 := q1_2_2.1
          have z1_2 : w.heap.size + 1 < w1.heap.size := ltc c1_2_0
          go_wp2_with fail
          refine (known1 _ _ _ _ HQ _ _ (by go_simp) (by go_simp) (by go_simp)).mono ?_
          rintro e w2 ⟨rfl, hb2⟩
          have q2_3_0 : CellF w2 ⟨w.heap.size, 0, none⟩ (.int .i64 lo) := (by first | exact CellF.keep hb2 q1_1_0 | exact CellF.keep hb2 (CellF.past _ q1_1_0) | exact CellF.keep hb2 (CellF.past _ (CellF.past _ q1_1_0)) | exact CellF.keep hb2 (CellF.drewN _ q1_1_0))
          have c2_3_0 := q2_3_0.1
          have q2_3_1 : CellF w2 ⟨w.heap.size, 1, none⟩ (.int .i64 hi) := (by first | exact CellF.keep hb2 q1_1_1 | exact CellF.keep hb2 (CellF.past _ q1_1_1) | exact CellF.keep hb2 (CellF.past _ (CellF.past _ q1_1_1)) | exact CellF.keep hb2 (CellF.drewN _ q1_1_1))
          have c2_3_1 := q2_3_1.1
          have q2_3_2 : CellF w2 ⟨w.heap.size, 2, none⟩ (.bool k) := (by first | exact CellF.keep hb2 q1_1_2 | exact CellF.keep hb2 (CellF.past _ q1_1_2) | exact CellF.keep hb2 (CellF.past _ (CellF.past _ q1_1_2)) | exact CellF.keep hb2 (CellF.drewN _ q1_1_2))
          have c2_3_2 := q2_3_2.1
          have z2_3 : w.heap.size < w2.heap.size := ltc c2_3_0
          have q2_4_0 : CellF w2 ⟨w.heap.size + 1, 0, none⟩ (.int .i64 lo2) := (by first | exact CellF.keep hb2 q1_2_0 | exact CellF.keep hb2 (CellF.past _ q1_2_0) | exact CellF.keep hb2 (CellF.past _ (CellF.past _ q1_2_0)) | exact CellF.keep hb2 (CellF.drewN _ q1_2_0))
          have c2_4_0 := q2_4_0.1
          have q2_4_1 : CellF w2 ⟨w.heap.size + 1, 1, none⟩ (.int .i64 hi2) := (by first | exact CellF.keep hb2 q1_2_1 | exact CellF.keep hb2 (CellF.past _ q1_2_1) | exact CellF.keep hb2 (CellF.past _ (CellF.past _ q1_2_1)) | exact CellF.keep hb2 (CellF.drewN _ q1_2_1))
          have c2_4_1 := q2_4_1.1
          have q2_4_2 : CellF w2 ⟨w.heap.size + 1, 2, none⟩ (.bool k2) := (by first | exact CellF.keep hb2 q1_2_2 | exact CellF.keep hb2 (CellF.past _ q1_2_2) | exact CellF.keep hb2 (CellF.past _ (CellF.past _ q1_2_2)) | exact CellF.keep hb2 (CellF.drewN _ q1_2_2))
          have c2_4_2 := q2_4_2.1
          have z2_4 : w.heap.size + 1 < w2.heap.size := ltc c2_4_0
          go_wp2
          go_ret
          exact ⟨rfl, (by repeat (first | exact brefl _ | refine balloc ?_ _ | refine bdrewN ?_ _ | refine bset ?_ (by dsimp only; omega) _ | refine bstep ?_ (by assumption)))⟩
      · obtain rfl : false = p := by simpa [h1] using hp
        clear hp
        have d1 : decide (lo2 ≤ lo) = false := decide_eq_false h1
        go_enter Try.func27, Try.ntmps27
        go_wp2_with fail
        refine (known1 _ _ _ _ HR _ _ (by go_simp) (by go_simp) (by go_simp)).mono ?_
        rintro e w1 ⟨rfl, hb1⟩
        have q1_1_0 : CellF w1 ⟨w.heap.size, 0, none⟩ (.int .i64 lo) := (by refine CellF.keep hb1 ?_; refine ⟨?_, ?_⟩ <;> go_simp)
        have c1_1_0 := q1_1_0.1
        have q1_1_1 : CellF w1 ⟨w.heap.size, 1, none⟩ (.int .i64 hi) := (by refine CellF.keep hb1 ?_; refine ⟨?_, ?_⟩ <;> go_simp)
        have c1_1_1 := q1_1_1.1
        have q1_1_2 : CellF w1 ⟨w.heap.size, 2, none⟩ (.bool k) := (by refine CellF.keep hb1 ?_; refine ⟨?_, ?_⟩ <;> go_simp)
        have c1_1_2 := q1_1_2.1
        have z1_1 : w.heap.size < w1.heap.size := ltc c1_1_0
        have q1_2_0 : CellF w1 ⟨w.heap.size + 1, 0, none⟩ (.int .i64 lo2) := (by refine CellF.keep hb1 ?_; refine ⟨?_, ?_⟩ <;> go_simp)
        have c1_2_0 := q1_2_0.1
        have q1_2_1 : CellF w1 ⟨w.heap.size + 1, 1, none⟩ (.int .i64 hi2) := (by refine CellF.keep hb1 ?_; refine ⟨?_, ?_⟩ <;> go_simp)
        have c1_2_1 := q1_2_1.1
        have q1_2_2 : CellF w1 ⟨w.heap.size + 1, 2, none⟩ (.bool k2) := (by refine CellF.keep hb1 ?_; refine ⟨?_, ?_⟩ <;> go_simp)
        have c1_2_2 := q1_2_2.1
        have z1_2 : w.heap.size + 1 < w1.heap.size := ltc c1_2_0
        go_wp2_with fail
        refine (known1 _ _ _ _ HQ _ _ (by go_simp) (by go_simp) (by go_simp)).mono ?_
        rintro e w2 ⟨rfl, hb2⟩
        have q2_3_0 : CellF w2 ⟨w.heap.size, 0, none⟩ (.int .i64 lo) := (by first | exact CellF.keep hb2 q1_1_0 | exact CellF.keep hb2 (CellF.past _ q1_1_0) | exact CellF.keep hb2 (CellF.past _ (CellF.past _ q1_1_0)) | exact CellF.keep hb2 (CellF.drewN _ q1_1_0))
        have c2_3_0 := q2_3_0.1
        have q2_3_1 : CellF w2 ⟨w.heap.size, 1, none⟩ (.int .i64 hi) := (by first | exact CellF.keep hb2 q1_1_1 | exact CellF.keep hb2 (CellF.past _ q1_1_1) | exact CellF.keep hb2 (CellF.past _ (CellF.past _ q1_1_1)) | exact CellF.keep hb2 (CellF.drewN _ q1_1_1))
        have c2_3_1 := q2_3_1.1
        have q2_3_2 : CellF w2 ⟨w.heap.size, 2, none⟩ (.bool k) := (by first | exact CellF.keep hb2 q1_1_2 | exact CellF.keep hb2 (CellF.past _ q1_1_2) | exact CellF.keep hb2 (CellF.past _ (CellF.past _ q1_1_2)) | exact CellF.keep hb2 (CellF.drewN _ q1_1_2))
        have c2_3_2 := q2_3_2.1
        have z2_3 : w.heap.size < w2.heap.size := ltc c2_3_0
        have q2_4_0 : CellF w2 ⟨w.heap.size + 1, 0, none⟩ (.int .i64 lo2) := (by first | exact CellF.keep hb2 q1_2_0 | exact CellF.keep hb2 (CellF.past _ q1_2_0) | exact CellF.keep hb2 (CellF.past _ (CellF.past _ q1_2_0)) | exact CellF.keep hb2 (CellF.drewN _ q1_2_0))
        have c2_4_0 := q2_4_0.1
        have q2_4_1 : CellF w2 ⟨w.heap.size + 1, 1, none⟩ (.int .i64 hi2) := (by first | exact CellF.keep hb2 q1_2_1 | exact CellF.keep hb2 (CellF.past _ q1_2_1) | exact CellF.keep hb2 (CellF.past _ (CellF.past _ q1_2_1)) | exact CellF.keep hb2 (CellF.drewN _ q1_2_1))
        have c2_4_1 := q2_4_1.1
        have q2_4_2 : CellF w2 ⟨w.heap.size + 1, 2, none⟩ (.bool k2) := (by first | exact CellF.keep hb2 q1_2_2 | exact CellF.keep hb2 (CellF.past _ q1_2_2) | exact CellF.keep hb2 (CellF.past _ (CellF.past _ q1_2_2)) | exact CellF.keep hb2 (CellF.drewN _ q1_2_2))
        have c2_4_2 := q2_4_2.1
        have z2_4 : w.heap.size + 1 < w2.heap.size := ltc c2_4_0
        go_wp2
        go_ret
        exact ⟨rfl, (by repeat (first | exact brefl _ | refine balloc ?_ _ | refine bdrewN ?_ _ | refine bset ?_ (by dsimp only; omega) _ | refine bstep ?_ (by assumption)))⟩

set_option maxHeartbeats 1000000 in
theorem made_add (l0 l1 h0 h1 x y : Int) (z : Bool) (H : Hid (spMade (addP l0 l1) (addP h0 h1) = ⟨x, y, z⟩)) (w : World) :
    Calls Try.prog 50 #[.func (.func 47) #[] #[], .agg #[.int .i64 l0, .int .i64 l1], .agg #[.int .i64 h0, .int .i64 h1]] w fun e w' => e = .returned (.agg #[.int .i64 x, .int .i64 y, .bool z]) ∧ Below w.heap.size w w' := by
  obtain ⟨a, p, ha⟩ : ∃ a p, addP l0 l1 = (a, p) := ⟨_, _, rfl⟩
  obtain ⟨b, q, hb⟩ : ∃ a p, addP h0 h1 = (a, p) := ⟨_, _, rfl⟩
  have hm := H.out
  rw [ha, hb] at hm
  have HA := Lib.hid ha
  have HB := Lib.hid hb
  clear H ha hb
  cases p with
  | false =>
    cases hm
    go_enter Try.func50, Try.ntmps50
    go_wp2_with fail
    refine (Add_is _ _ _ _ HA _).mono ?_
    rintro e w1 ⟨rfl, hb1⟩
    have q1_1_0 : CellF w1 ⟨w.heap.size + 1, 0, none⟩ (.int .i64 h0) := (by refine CellF.keep hb1 ?_; refine ⟨?_, ?_⟩ <;> go_simp)
    have c1_1_0 := q1_1_0.1
    have q1_1_1 : CellF w1 ⟨w.heap.size + 1, 1, none⟩ (.int .i64 h1) := (by refine CellF.keep hb1 ?_; refine ⟨?_, ?_⟩ <;> go_simp)
    have c1_1_1 := q1_1_1.1
    have z1_1 : w.heap.size + 1 < w1.heap.size := ltc c1_1_0
    have q1_2_0 : CellF w1 ⟨w.heap.size + 1 + 1, 0, none⟩ (.int .i64 0) := (by refine CellF.keep hb1 ?_; refine ⟨?_, ?_⟩ <;> go_simp)
    have c1_2_0 := q1_2_0.1
    have g1_2_0 := q1_2_0.2
    have q1_2_1 : CellF w1 ⟨w.heap.size + 1 + 1, 1, none⟩ (.int .i64 0) := (by refine CellF.keep hb1 ?_; refine ⟨?_, ?_⟩ <;> go_simp)
    have c1_2_1 := q1_2_1.1
    have g1_2_1 := q1_2_1.2
    have q1_2_2 : CellF w1 ⟨w.heap.size + 1 + 1, 2, none⟩ (.bool false) := (by refine CellF.keep hb1 ?_; refine ⟨?_, ?_⟩ <;> go_simp)
    have c1_2_2 := q1_2_2.1
    have g1_2_2 := q1_2_2.2
    have z1_2 : w.heap.size + 1 + 1 < w1.heap.size := ltc c1_2_0
    go_wp2_with fail
    refine (Add_is _ _ _ _ HB _).mono ?_
    rintro e w2 ⟨rfl, hb2⟩
    have q2_3_0 : CellF w2 ⟨w.heap.size + 1 + 1, 0, none⟩ (.int .i64 0) := (by first | exact CellF.keep hb2 q1_2_0 | exact CellF.keep hb2 (CellF.past _ q1_2_0) | exact CellF.keep hb2 (CellF.past _ (CellF.past _ q1_2_0)) | exact CellF.keep hb2 (CellF.drewN _ q1_2_0))
    have c2_3_0 := q2_3_0.1
    have g2_3_0 := q2_3_0.2
    have q2_3_1 : CellF w2 ⟨w.heap.size + 1 + 1, 1, none⟩ (.int .i64 0) := (by first | exact CellF.keep hb2 q1_2_1 | exact CellF.keep hb2 (CellF.past _ q1_2_1) | exact CellF.keep hb2 (CellF.past _ (CellF.past _ q1_2_1)) | exact CellF.keep hb2 (CellF.drewN _ q1_2_1))
    have c2_3_1 := q2_3_1.1
    have g2_3_1 := q2_3_1.2
    have q2_3_2 : CellF w2 ⟨w.heap.size + 1 + 1, 2, none⟩ (.bool false) := (by first | exact CellF.keep hb2 q1_2_2 | exact CellF.keep hb2 (CellF.past _ q1_2_2) | exact CellF.keep hb2 (CellF.past _ (CellF.past _ q1_2_2)) | exact CellF.keep hb2 (CellF.drewN _ q1_2_2))
    have c2_3_2 := q2_3_2.1
    have g2_3_2 := q2_3_2.2
    have z2_3 : w.heap.size + 1 + 1 < w2.heap.size := ltc c2_3_0
    go_wp2
    exact bodyPost_ret (v := .agg #[.int .i64 0, .int .i64 0, .bool false]) (by simp [results, Try.results50, go_sem, c2_3_0, c2_3_1, c2_3_2]) rfl ⟨rfl, (by repeat (first | exact brefl _ | refine balloc ?_ _ | refine bdrewN ?_ _ | refine bset ?_ (by dsimp only; omega) _ | refine bstep ?_ (by assumption)))⟩
  | true =>
    cases q with
    | false =>
      cases hm
      go_enter Try.func50, Try.ntmps50
      go_wp2_with fail
      refine (Add_is _ _ _ _ HA _).mono ?_
      rintro e w1 ⟨rfl, hb1⟩
      have q1_1_0 : CellF w1 ⟨w.heap.size + 1, 0, none⟩ (.int .i64 h0) := (by refine CellF.keep hb1 ?_; refine ⟨?_, ?_⟩ <;> go_simp)
      have c1_1_0 := q1_1_0.1
      have q1_1_1 : CellF w1 ⟨w.heap.size + 1, 1, none⟩ (.int .i64 h1) := (by refine CellF.keep hb1 ?_; refine ⟨?_, ?_⟩ <;> go_simp)
      have c1_1_1 := q1_1_1.1
      have z1_1 : w.heap.size + 1 < w1.heap.size := ltc c1_1_0
      have q1_2_0 : CellF w1 ⟨w.heap.size + 1 + 1, 0, none⟩ (.int .i64 0) := (by refine CellF.keep hb1 ?_; refine ⟨?_, ?_⟩ <;> go_simp)
      have c1_2_0 := q1_2_0.1
      have g1_2_0 := q1_2_0.2
      have q1_2_1 : CellF w1 ⟨w.heap.size + 1 + 1, 1, none⟩ (.int .i64 0) := (by refine CellF.keep hb1 ?_; refine ⟨?_, ?_⟩ <;> go_simp)
      have c1_2_1 := q1_2_1.1
      have g1_2_1 := q1_2_1.2
      have q1_2_2 : CellF w1 ⟨w.heap.size + 1 + 1, 2, none⟩ (.bool false) := (by refine CellF.keep hb1 ?_; refine ⟨?_, ?_⟩ <;> go_simp)
      have c1_2_2 := q1_2_2.1
      have g1_2_2 := q1_2_2.2
      have z1_2 : w.heap.size + 1 + 1 < w1.heap.size := ltc c1_2_0
      go_wp2_with fail
      refine (Add_is _ _ _ _ HB _).mono ?_
      rintro e w2 ⟨rfl, hb2⟩
      have q2_3_0 : CellF w2 ⟨w.heap.size + 1 + 1, 0, none⟩ (.int .i64 0) := (by first | exact CellF.keep hb2 q1_2_0 | exact CellF.keep hb2 (CellF.past _ q1_2_0) | exact CellF.keep hb2 (CellF.past _ (CellF.past _ q1_2_0)) | exact CellF.keep hb2 (CellF.drewN _ q1_2_0))
      have c2_3_0 := q2_3_0.1
      have g2_3_0 := q2_3_0.2
      have q2_3_1 : CellF w2 ⟨w.heap.size + 1 + 1, 1, none⟩ (.int .i64 0) := (by first | exact CellF.keep hb2 q1_2_1 | exact CellF.keep hb2 (CellF.past _ q1_2_1) | exact CellF.keep hb2 (CellF.past _ (CellF.past _ q1_2_1)) | exact CellF.keep hb2 (CellF.drewN _ q1_2_1))
      have c2_3_1 := q2_3_1.1
      have g2_3_1 := q2_3_1.2
      have q2_3_2 : CellF w2 ⟨w.heap.size + 1 + 1, 2, none⟩ (.bool false) := (by first | exact CellF.keep hb2 q1_2_2 | exact CellF.keep hb2 (CellF.past _ q1_2_2) | exact CellF.keep hb2 (CellF.past _ (CellF.past _ q1_2_2)) | exact CellF.keep hb2 (CellF.drewN _ q1_2_2))
      have c2_3_2 := q2_3_2.1
      have g2_3_2 := q2_3_2.2
      have z2_3 : w.heap.size + 1 + 1 < w2.heap.size := ltc c2_3_0
      go_wp2
      exact bodyPost_ret (v := .agg #[.int .i64 0, .int .i64 0, .bool false]) (by simp [results, Try.results50, go_sem, c2_3_0, c2_3_1, c2_3_2]) rfl ⟨rfl, (by repeat (first | exact brefl _ | refine balloc ?_ _ | refine bdrewN ?_ _ | refine bset ?_ (by dsimp only; omega) _ | refine bstep ?_ (by assumption)))⟩
    | true =>
      have HM : Hid (spOf a b = ⟨x, y, z⟩) := hm
      clear hm
      go_enter Try.func50, Try.ntmps50
      go_wp2_with fail
      refine (Add_is _ _ _ _ HA _).mono ?_
      rintro e w1 ⟨rfl, hb1⟩
      have q1_1_0 : CellF w1 ⟨w.heap.size + 1, 0, none⟩ (.int .i64 h0) := (by refine CellF.keep hb1 ?_; refine ⟨?_, ?_⟩ <;> go_simp)
      have c1_1_0 := q1_1_0.1
      have q1_1_1 : CellF w1 ⟨w.heap.size + 1, 1, none⟩ (.int .i64 h1) := (by refine CellF.keep hb1 ?_; refine ⟨?_, ?_⟩ <;> go_simp)
      have c1_1_1 := q1_1_1.1
      have z1_1 : w.heap.size + 1 < w1.heap.size := ltc c1_1_0
      have q1_2_0 : CellF w1 ⟨w.heap.size + 1 + 1, 0, none⟩ (.int .i64 0) := (by refine CellF.keep hb1 ?_; refine ⟨?_, ?_⟩ <;> go_simp)
      have c1_2_0 := q1_2_0.1
      have g1_2_0 := q1_2_0.2
      have q1_2_1 : CellF w1 ⟨w.heap.size + 1 + 1, 1, none⟩ (.int .i64 0) := (by refine CellF.keep hb1 ?_; refine ⟨?_, ?_⟩ <;> go_simp)
      have c1_2_1 := q1_2_1.1
      have g1_2_1 := q1_2_1.2
      have q1_2_2 : CellF w1 ⟨w.heap.size + 1 + 1, 2, none⟩ (.bool false) := (by refine CellF.keep hb1 ?_; refine ⟨?_, ?_⟩ <;> go_simp)
      have c1_2_2 := q1_2_2.1
      have g1_2_2 := q1_2_2.2
      have z1_2 : w.heap.size + 1 + 1 < w1.heap.size := ltc c1_2_0
      go_wp2_with fail
      refine (Add_is _ _ _ _ HB _).mono ?_
      rintro e w2 ⟨rfl, hb2⟩
      have q2_3_0 : CellF w2 ⟨w.heap.size + 1 + 1, 0, none⟩ (.int .i64 0) := (by first | exact CellF.keep hb2 q1_2_0 | exact CellF.keep hb2 (CellF.past _ q1_2_0) | exact CellF.keep hb2 (CellF.past _ (CellF.past _ q1_2_0)) | exact CellF.keep hb2 (CellF.drewN _ q1_2_0))
      have c2_3_0 := q2_3_0.1
      have g2_3_0 := q2_3_0.2
      have q2_3_1 : CellF w2 ⟨w.heap.size + 1 + 1, 1, none⟩ (.int .i64 0) := (by first | exact CellF.keep hb2 q1_2_1 | exact CellF.keep hb2 (CellF.past _ q1_2_1) | exact CellF.keep hb2 (CellF.past _ (CellF.past _ q1_2_1)) | exact CellF.keep hb2 (CellF.drewN _ q1_2_1))
      have c2_3_1 := q2_3_1.1
      have g2_3_1 := q2_3_1.2
      have q2_3_2 : CellF w2 ⟨w.heap.size + 1 + 1, 2, none⟩ (.bool false) := (by first | exact CellF.keep hb2 q1_2_2 | exact CellF.keep hb2 (CellF.past _ q1_2_2) | exact CellF.keep hb2 (CellF.past _ (CellF.past _ q1_2_2)) | exact CellF.keep hb2 (CellF.drewN _ q1_2_2))
      have c2_3_2 := q2_3_2.1
      have g2_3_2 := q2_3_2.2
      have z2_3 : w.heap.size + 1 + 1 < w2.heap.size := ltc c2_3_0
      go_wp2_with fail
      refine (Of_is _ _ _ _ _ HM _).mono ?_
      rintro e w3 ⟨rfl, hb3⟩
      have q3_4_0 : CellF w3 ⟨w.heap.size + 1 + 1, 0, none⟩ (.int .i64 0) := (by first | exact CellF.keep hb3 q2_3_0 | exact CellF.keep hb3 (CellF.past _ q2_3_0) | exact CellF.keep hb3 (CellF.past _ (CellF.past _ q2_3_0)) | exact CellF.keep hb3 (CellF.drewN _ q2_3_0))
      have c3_4_0 := q3_4_0.1
      have g3_4_0 := q3_4_0.2
      have q3_4_1 : CellF w3 ⟨w.heap.size + 1 + 1, 1, none⟩ (.int .i64 0) := (by first | exact CellF.keep hb3 q2_3_1 | exact CellF.keep hb3 (CellF.past _ q2_3_1) | exact CellF.keep hb3 (CellF.past _ (CellF.past _ q2_3_1)) | exact CellF.keep hb3 (CellF.drewN _ q2_3_1))
      have c3_4_1 := q3_4_1.1
      have g3_4_1 := q3_4_1.2
      have q3_4_2 : CellF w3 ⟨w.heap.size + 1 + 1, 2, none⟩ (.bool false) := (by first | exact CellF.keep hb3 q2_3_2 | exact CellF.keep hb3 (CellF.past _ q2_3_2) | exact CellF.keep hb3 (CellF.past _ (CellF.past _ q2_3_2)) | exact CellF.keep hb3 (CellF.drewN _ q2_3_2))
      have c3_4_2 := q3_4_2.1
      have g3_4_2 := q3_4_2.2
      have z3_4 : w.heap.size + 1 + 1 < w3.heap.size := ltc c3_4_0
      go_wp2
      exact bodyPost_ret (v := .agg #[.int .i64 x, .int .i64 y, .bool z]) (by simp [results, Try.results50, go_sem, c3_4_0, c3_4_1, c3_4_2]) rfl ⟨rfl, (by repeat (first | exact brefl _ | refine balloc ?_ _ | refine bdrewN ?_ _ | refine bset ?_ (by dsimp only; omega) _ | refine bstep ?_ (by assumption)))⟩


end Go.Proofs.Ytklnlhphgiipjaa
