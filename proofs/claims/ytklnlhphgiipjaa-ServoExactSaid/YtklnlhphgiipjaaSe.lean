/-
  The walk of package span's Wider.
-/
import Derived.Test.YtklnlhphgiipjaaSd
import Derived.Deep.RegionWith
namespace Go.Proofs.Ytklnlhphgiipjaa
open Go.RowKit

set_option maxHeartbeats 400000 in
theorem Wider_yes (lo hi low high x y : Int) (k z : Bool) (h1 : 0 ≤ low) (h2 : 0 ≤ high) (h3 : (smallB low && smallB high) = true) (H : Hid (spAdd ⟨lo, hi, k⟩ (spOf (-low) high) = ⟨x, y, z⟩)) (w : World) :
    Calls Try.prog 49 #[.agg #[.int .i64 lo, .int .i64 hi, .bool k], .int .i64 low, .int .i64 high] w fun e w' => e = .returned (.agg #[.int .i64 x, .int .i64 y, .bool z]) ∧ Below w.heap.size w w' := by
  obtain ⟨⟨a, b, c⟩, hm⟩ : ∃ s, spOf (-low) high = s := ⟨_, rfl⟩
  have HA : Hid (spAdd ⟨lo, hi, k⟩ ⟨a, b, c⟩ = ⟨x, y, z⟩) := by have h := H.out; rw [hm] at h; exact h
  have HM := Lib.hid hm
  have hl := smallB_iff.1 (Bool.and_eq_true_iff.1 h3).1
  clear H hm
  go_enter Try.func49, Try.ntmps49
  have hneg : IntKind.i64.wrap (-low) = -low := by rw [IntWalk.i64_left]; exact IntWalk.wrap64_in _ (by omega)
  go_wp2_with fail
  refine (small2b low high _ h3 _ _ (by go_simp) (by go_simp)).mono ?_
  rintro e w1 ⟨rfl, hb1⟩
  have q1_1_0 : CellF w1 ⟨w.heap.size, 0, none⟩ (.int .i64 lo) := (by refine CellF.keep hb1 ?_; refine ⟨?_, ?_⟩ <;> go_simp)
  have c1_1_0 := q1_1_0.1
  have q1_1_1 : CellF w1 ⟨w.heap.size, 1, none⟩ (.int .i64 hi) := (by refine CellF.keep hb1 ?_; refine ⟨?_, ?_⟩ <;> go_simp)
  have c1_1_1 := q1_1_1.1
  have q1_1_2 : CellF w1 ⟨w.heap.size, 2, none⟩ (.bool k) := (by refine CellF.keep hb1 ?_; refine ⟨?_, ?_⟩ <;> go_simp)
  have c1_1_2 := q1_1_2.1
  have z1_1 : w.heap.size < w1.heap.size := ltc c1_1_0
  have q1_2_0 : CellF w1 ⟨w.heap.size + 1, 0, none⟩ (.int .i64 0) := (by refine CellF.keep hb1 ?_; refine ⟨?_, ?_⟩ <;> go_simp)
  have c1_2_0 := q1_2_0.1
  have g1_2_0 := q1_2_0.2
  have q1_2_1 : CellF w1 ⟨w.heap.size + 1, 1, none⟩ (.int .i64 0) := (by refine CellF.keep hb1 ?_; refine ⟨?_, ?_⟩ <;> go_simp)
  have c1_2_1 := q1_2_1.1
  have g1_2_1 := q1_2_1.2
  have q1_2_2 : CellF w1 ⟨w.heap.size + 1, 2, none⟩ (.bool false) := (by refine CellF.keep hb1 ?_; refine ⟨?_, ?_⟩ <;> go_simp)
  have c1_2_2 := q1_2_2.1
  have g1_2_2 := q1_2_2.2
  have z1_2 : w.heap.size + 1 < w1.heap.size := ltc c1_2_0
  go_wp2_with fail
  go_region_held3 (fun w' => w'.cell? ⟨w.heap.size, 0, none⟩ = some (.int .i64 lo) ∧ w'.cell? ⟨w.heap.size, 1, none⟩ = some (.int .i64 hi) ∧ w'.cell? ⟨w.heap.size, 2, none⟩ = some (.bool k))
    (go_keep)
    (first | (go_at_call 18; ((with_reducible refine (Of_is _ _ _ _ _ HM _).mono ?_)); rintro e w2 ⟨rfl, hb2⟩; have s0 := keepc hb2 c1_1_0; have s1 := keepc hb2 c1_1_1; have s2 := keepc hb2 c1_1_2; have r0 := CellF.keep hb2 q1_2_0.drew; have r1 := CellF.keep hb2 q1_2_1.drew; have r2 := CellF.keep hb2 q1_2_2.drew) | (go_at_call 35; ((with_reducible refine (SpAdd_is _ _ _ _ _ _ _ _ _ HA _).mono ?_)); rintro e w3 ⟨rfl, hb3⟩; have s3 := keepc hb3 s0; have s4 := keepc hb3 s1; have s5 := keepc hb3 s2; have r3 := CellF.keep hb3 r0; have r4 := CellF.keep hb3 r1; have r5 := CellF.keep hb3 r2; have c3 := r3.1; have c4 := r4.1; have c5 := r5.1; have g3 := r3.2; have g4 := r4.2; have g5 := r5.2; have z3 := ltc c3))
  go_wp2
  exact bodyPost_ret (v := .agg #[.int .i64 x, .int .i64 y, .bool z]) (by simp [results, Try.results49, go_sem, c3, c4, c5]) rfl ⟨rfl, (by repeat (first | exact brefl _ | refine balloc ?_ _ | refine bdrewN ?_ _ | refine bset ?_ (by dsimp only; omega) _ | refine bstep ?_ (by assumption)))⟩

theorem Wider_is (lo hi low high x y : Int) (k z : Bool) (H : Hid (spWider ⟨lo, hi, k⟩ low high = ⟨x, y, z⟩)) (w : World) :
    Calls Try.prog 49 #[.agg #[.int .i64 lo, .int .i64 hi, .bool k], .int .i64 low, .int .i64 high] w fun e w' => e = .returned (.agg #[.int .i64 x, .int .i64 y, .bool z]) ∧ Below w.heap.size w w' := by
  by_cases h1 : low < 0
  · have h : spNo = ⟨x, y, z⟩ := by rw [← H.out]; unfold spWider; rw [if_pos (.inl h1)]
    cases h
    clear H
    go_enter Try.func49, Try.ntmps49
    go_wp2
    exact bodyPost_ret (v := .agg #[.int .i64 0, .int .i64 0, .bool false]) (by simp [results, Try.results49, go_sem]) rfl ⟨rfl, (by repeat (first | exact brefl _ | refine balloc ?_ _ | refine bdrewN ?_ _ | refine bset ?_ (by dsimp only; omega) _ | refine bstep ?_ (by assumption)))⟩
  · by_cases h2 : high < 0
    · have h : spNo = ⟨x, y, z⟩ := by rw [← H.out]; unfold spWider; rw [if_pos (.inr (.inl h2))]
      cases h
      clear H
      go_enter Try.func49, Try.ntmps49
      go_wp2
      exact bodyPost_ret (v := .agg #[.int .i64 0, .int .i64 0, .bool false]) (by simp [results, Try.results49, go_sem]) rfl ⟨rfl, (by repeat (first | exact brefl _ | refine balloc ?_ _ | refine bdrewN ?_ _ | refine bset ?_ (by dsimp only; omega) _ | refine bstep ?_ (by assumption)))⟩
    · cases h3 : (smallB low && smallB high) with
      | false =>
        have h : spNo = ⟨x, y, z⟩ := by rw [← H.out]; unfold spWider; rw [if_pos (.inr (.inr h3))]
        cases h
        clear H
        go_enter Try.func49, Try.ntmps49
        go_wp2_with fail
        refine (small2 low high _ h3 _ _ (by go_simp) (by go_simp)).mono ?_
        rintro e w1 ⟨rfl, rfl⟩
        go_wp2
        exact bodyPost_ret (v := .agg #[.int .i64 0, .int .i64 0, .bool false]) (by simp [results, Try.results49, go_sem]) rfl ⟨rfl, (by repeat (first | exact brefl _ | refine balloc ?_ _ | refine bdrewN ?_ _ | refine bset ?_ (by dsimp only; omega) _ | refine bstep ?_ (by assumption)))⟩
      | true =>
        refine Wider_yes lo hi low high x y k z (by omega) (by omega) h3 ?_ w
        have h := H.out
        unfold spWider at h
        rw [if_neg (by rw [h3]; simp; omega)] at h
        exact h
end Go.Proofs.Ytklnlhphgiipjaa
