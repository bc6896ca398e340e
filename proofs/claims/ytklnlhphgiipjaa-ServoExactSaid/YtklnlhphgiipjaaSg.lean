/-
  The walks of package span's Unknown, Hull, Drift.
-/
import Derived.Test.YtklnlhphgiipjaaSf
import Derived.Test.YtklnlhphgiipjaaWd
namespace Go.Proofs.Ytklnlhphgiipjaa
open Go.RowKit

theorem Unknown_is (w : World) : Calls Try.prog 16 #[] w fun e w' => e = .returned (.agg #[.int .i64 0, .int .i64 0, .bool false]) ∧ Below w.heap.size w w' := by
  go_enter Try.func16, Try.ntmps16
  go_wp2
  exact bodyPost_ret (v := .agg #[.int .i64 0, .int .i64 0, .bool false]) (by simp [results, Try.results16, go_sem]) rfl ⟨rfl, (by repeat (first | exact brefl _ | refine balloc ?_ _ | refine bdrewN ?_ _ | refine bset ?_ (by dsimp only; omega) _ | refine bstep ?_ (by assumption)))⟩


theorem Drift_is (lo hi passed ppb x y : Int) (k z : Bool) (H : Hid (spDrift ⟨lo, hi, k⟩ passed ppb = ⟨x, y, z⟩)) (w : World) :
    Calls Try.prog 34 #[.agg #[.int .i64 lo, .int .i64 hi, .bool k], .int .i64 passed, .int .i64 ppb] w fun e w' => e = .returned (.agg #[.int .i64 x, .int .i64 y, .bool z]) ∧ Below w.heap.size w w' := by
  obtain ⟨n, p, hn⟩ : ∃ n p, ceilP passed ppb 1000000000 = (n, p) := ⟨_, _, rfl⟩
  have hp := H.out
  unfold spDrift at hp
  rw [hn] at hp
  have HC := Lib.hid hn
  clear H hn
  cases p with
  | false =>
    rw [if_pos (.inl rfl)] at hp
    cases hp
    go_enter Try.func34, Try.ntmps34
    go_wp2_with fail
    refine (Ceil_is _ _ _ _ _ HC _).mono ?_
    rintro e w1 ⟨rfl, hb1⟩
    have q1_1_0 : CellF w1 ⟨w.heap.size + 1, 0, none⟩ (.int .i64 0) := (by refine CellF.keep hb1 ?_; refine ⟨?_, ?_⟩ <;> go_simp)
    have c1_1_0 := q1_1_0.1
    have g1_1_0 := q1_1_0.2
    have q1_1_1 : CellF w1 ⟨w.heap.size + 1, 1, none⟩ (.int .i64 0) := (by refine CellF.keep hb1 ?_; refine ⟨?_, ?_⟩ <;> go_simp)
    have c1_1_1 := q1_1_1.1
    have g1_1_1 := q1_1_1.2
    have q1_1_2 : CellF w1 ⟨w.heap.size + 1, 2, none⟩ (.bool false) := (by refine CellF.keep hb1 ?_; refine ⟨?_, ?_⟩ <;> go_simp)
    have c1_1_2 := q1_1_2.1
    have g1_1_2 := q1_1_2.2
    have z1_1 : w.heap.size + 1 < w1.heap.size := ltc c1_1_0
    go_wp2
    exact bodyPost_ret (v := .agg #[.int .i64 0, .int .i64 0, .bool false]) (by simp [results, Try.results34, go_sem, c1_1_0, c1_1_1, c1_1_2]) rfl ⟨rfl, (by repeat (first | exact brefl _ | refine balloc ?_ _ | refine bdrewN ?_ _ | refine bset ?_ (by dsimp only; omega) _ | refine bstep ?_ (by assumption)))⟩
  | true =>
    by_cases h1 : passed < 0
    · rw [if_pos (.inr (.inl h1))] at hp
      cases hp
      go_enter Try.func34, Try.ntmps34
      go_wp2_with fail
      refine (Ceil_is _ _ _ _ _ HC _).mono ?_
      rintro e w1 ⟨rfl, hb1⟩
      have q1_1_0 : CellF w1 ⟨w.heap.size + 1, 0, none⟩ (.int .i64 0) := (by refine CellF.keep hb1 ?_; refine ⟨?_, ?_⟩ <;> go_simp)
      have c1_1_0 := q1_1_0.1
      have g1_1_0 := q1_1_0.2
      have q1_1_1 : CellF w1 ⟨w.heap.size + 1, 1, none⟩ (.int .i64 0) := (by refine CellF.keep hb1 ?_; refine ⟨?_, ?_⟩ <;> go_simp)
      have c1_1_1 := q1_1_1.1
      have g1_1_1 := q1_1_1.2
      have q1_1_2 : CellF w1 ⟨w.heap.size + 1, 2, none⟩ (.bool false) := (by refine CellF.keep hb1 ?_; refine ⟨?_, ?_⟩ <;> go_simp)
      have c1_1_2 := q1_1_2.1
      have g1_1_2 := q1_1_2.2
      have z1_1 : w.heap.size + 1 < w1.heap.size := ltc c1_1_0
      go_wp2
      exact bodyPost_ret (v := .agg #[.int .i64 0, .int .i64 0, .bool false]) (by simp [results, Try.results34, go_sem, c1_1_0, c1_1_1, c1_1_2]) rfl ⟨rfl, (by repeat (first | exact brefl _ | refine balloc ?_ _ | refine bdrewN ?_ _ | refine bset ?_ (by dsimp only; omega) _ | refine bstep ?_ (by assumption)))⟩
    · by_cases h2 : ppb < 0
      · rw [if_pos (.inr (.inr (.inl h2)))] at hp
        cases hp
        go_enter Try.func34, Try.ntmps34
        go_wp2_with fail
        refine (Ceil_is _ _ _ _ _ HC _).mono ?_
        rintro e w1 ⟨rfl, hb1⟩
        have q1_1_0 : CellF w1 ⟨w.heap.size + 1, 0, none⟩ (.int .i64 0) := (by refine CellF.keep hb1 ?_; refine ⟨?_, ?_⟩ <;> go_simp)
        have c1_1_0 := q1_1_0.1
        have g1_1_0 := q1_1_0.2
        have q1_1_1 : CellF w1 ⟨w.heap.size + 1, 1, none⟩ (.int .i64 0) := (by refine CellF.keep hb1 ?_; refine ⟨?_, ?_⟩ <;> go_simp)
        have c1_1_1 := q1_1_1.1
        have g1_1_1 := q1_1_1.2
        have q1_1_2 : CellF w1 ⟨w.heap.size + 1, 2, none⟩ (.bool false) := (by refine CellF.keep hb1 ?_; refine ⟨?_, ?_⟩ <;> go_simp)
        have c1_1_2 := q1_1_2.1
        have g1_1_2 := q1_1_2.2
        have z1_1 : w.heap.size + 1 < w1.heap.size := ltc c1_1_0
        go_wp2
        exact bodyPost_ret (v := .agg #[.int .i64 0, .int .i64 0, .bool false]) (by simp [results, Try.results34, go_sem, c1_1_0, c1_1_1, c1_1_2]) rfl ⟨rfl, (by repeat (first | exact brefl _ | refine balloc ?_ _ | refine bdrewN ?_ _ | refine bset ?_ (by dsimp only; omega) _ | refine bstep ?_ (by assumption)))⟩
      · by_cases h3 : 1000000000 < ppb
        · rw [if_pos (.inr (.inr (.inr h3)))] at hp
          cases hp
          go_enter Try.func34, Try.ntmps34
          go_wp2_with fail
          refine (Ceil_is _ _ _ _ _ HC _).mono ?_
          rintro e w1 ⟨rfl, hb1⟩
          have q1_1_0 : CellF w1 ⟨w.heap.size + 1, 0, none⟩ (.int .i64 0) := (by refine CellF.keep hb1 ?_; refine ⟨?_, ?_⟩ <;> go_simp)
          have c1_1_0 := q1_1_0.1
          have g1_1_0 := q1_1_0.2
          have q1_1_1 : CellF w1 ⟨w.heap.size + 1, 1, none⟩ (.int .i64 0) := (by refine CellF.keep hb1 ?_; refine ⟨?_, ?_⟩ <;> go_simp)
          have c1_1_1 := q1_1_1.1
          have g1_1_1 := q1_1_1.2
          have q1_1_2 : CellF w1 ⟨w.heap.size + 1, 2, none⟩ (.bool false) := (by refine CellF.keep hb1 ?_; refine ⟨?_, ?_⟩ <;> go_simp)
          have c1_1_2 := q1_1_2.1
          have g1_1_2 := q1_1_2.2
          have z1_1 : w.heap.size + 1 < w1.heap.size := ltc c1_1_0
          go_wp2
          exact bodyPost_ret (v := .agg #[.int .i64 0, .int .i64 0, .bool false]) (by simp [results, Try.results34, go_sem, c1_1_0, c1_1_1, c1_1_2]) rfl ⟨rfl, (by repeat (first | exact brefl _ | refine balloc ?_ _ | refine bdrewN ?_ _ | refine bset ?_ (by dsimp only; omega) _ | refine bstep ?_ (by assumption)))⟩
        · rw [if_neg (by simp; omega)] at hp
          have HW : Hid (spWider ⟨lo, hi, k⟩ n n = ⟨x, y, z⟩) := hp
          clear hp
          go_enter Try.func34, Try.ntmps34
          go_wp2_with fail
          refine (Ceil_is _ _ _ _ _ HC _).mono ?_
          rintro e w1 ⟨rfl, hb1⟩
          have q1_1_0 : CellF w1 ⟨w.heap.size, 0, none⟩ (.int .i64 lo) := (by refine CellF.keep hb1 ?_; refine ⟨?_, ?_⟩ <;> go_simp)
          have c1_1_0 := q1_1_0.1
          have q1_1_1 : CellF w1 ⟨w.heap.size, 1, none⟩ (.int .i64 hi) := (by refine CellF.keep hb1 ?_; refine ⟨?_, ?_⟩ <;> go_simp)
          have c1_1_1 := q1_1_1.1
          have q1_1_2 : CellF w1 ⟨w.heap.size, 2, none⟩ (.bool k) := (by refine CellF.keep hb1 ?_; refine ⟨?_, ?_⟩ <;> go_simp)
          have c1_1_2 := q1_1_2.1
          have z1_1 : w.heap.size < w1.heap.size := ltc c1_1_0
          have q1_2_0 : CellF w1 ⟨w.heap.size + 1, 0, none⟩ (.int .i64 0) := (by refine CellF.keep hb1 ?_; refine ⟨?_, ?_⟩ <;> go_simp)
          have c1_2_0 := q1_2_0.1
          have g1_2_0 := q1_2_0.2
          have q1_2_1 : CellF w1 ⟨w.heap.size + 1, 1, none⟩ (.int .i64 0) := (by refine CellF.keep hb1 ?_; refine ⟨?_, ?_⟩ <;> go_simp)
          have c1_2_1 := q1_2_1.1
          have g1_2_1 := q1_2_1.2
          have q1_2_2 : CellF w1 ⟨w.heap.size + 1, 2, none⟩ (.bool false) := (by refine CellF.keep hb1 ?_; refine ⟨?_, ?_⟩ <;> go_simp)
          have c1_2_2 := q1_2_2.1
          have g1_2_2 := q1_2_2.2
          have z1_2 : w.heap.size + 1 < w1.heap.size := ltc c1_2_0
          go_wp2_with fail
          refine (Wider_is _ _ _ _ _ _ _ _ HW _).mono ?_
          rintro e w2 ⟨rfl, hb2⟩
          have q2_3_0 : CellF w2 ⟨w.heap.size + 1, 0, none⟩ (.int .i64 0) := (by first | exact CellF.keep hb2 q1_2_0 | exact CellF.keep hb2 (CellF.past _ q1_2_0) | exact CellF.keep hb2 (CellF.past _ (CellF.past _ q1_2_0)) | exact CellF.keep hb2 (CellF.drewN _ q1_2_0))
          have c2_3_0 := q2_3_0.1
          have g2_3_0 := q2_3_0.2
          have q2_3_1 : CellF w2 ⟨w.heap.size + 1, 1, none⟩ (.int .i64 0) := (by first | exact CellF.keep hb2 q1_2_1 | exact CellF.keep hb2 (CellF.past _ q1_2_1) | exact CellF.keep hb2 (CellF.past _ (CellF.past _ q1_2_1)) | exact CellF.keep hb2 (CellF.drewN _ q1_2_1))
          have c2_3_1 := q2_3_1.1
          have g2_3_1 := q2_3_1.2
          have q2_3_2 : CellF w2 ⟨w.heap.size + 1, 2, none⟩ (.bool false) := (by first | exact CellF.keep hb2 q1_2_2 | exact CellF.keep hb2 (CellF.past _ q1_2_2) | exact CellF.keep hb2 (CellF.past _ (CellF.past _ q1_2_2)) | exact CellF.keep hb2 (CellF.drewN _ q1_2_2))
          have c2_3_2 := q2_3_2.1
          have g2_3_2 := q2_3_2.2
          have z2_3 : w.heap.size + 1 < w2.heap.size := ltc c2_3_0
          go_wp2
          exact bodyPost_ret (v := .agg #[.int .i64 x, .int .i64 y, .bool z]) (by simp [results, Try.results34, go_sem, c2_3_0, c2_3_1, c2_3_2]) rfl ⟨rfl, (by repeat (first | exact brefl _ | refine balloc ?_ _ | refine bdrewN ?_ _ | refine bset ?_ (by dsimp only; omega) _ | refine bstep ?_ (by assumption)))⟩
end Go.Proofs.Ytklnlhphgiipjaa
