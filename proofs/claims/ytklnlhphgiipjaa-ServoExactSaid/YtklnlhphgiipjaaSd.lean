/-
  The walks of package span's Add, Sub, Shift, Wider.
-/
import Derived.Test.YtklnlhphgiipjaaSc
namespace Go.Proofs.Ytklnlhphgiipjaa
open Go.RowKit

theorem SpAdd_is (lo hi lo2 hi2 x y : Int) (k k2 z : Bool) (H : Hid (spAdd ⟨lo, hi, k⟩ ⟨lo2, hi2, k2⟩ = ⟨x, y, z⟩)) (w : World) :
    Calls Try.prog 35 #[.agg #[.int .i64 lo, .int .i64 hi, .bool k], .agg #[.int .i64 lo2, .int .i64 hi2, .bool k2]] w fun e w' => e = .returned (.agg #[.int .i64 x, .int .i64 y, .bool z]) ∧ Below w.heap.size w w' := by
  obtain ⟨q, hq⟩ : ∃ q, (spK ⟨lo, hi, k⟩ && spK ⟨lo2, hi2, k2⟩) = q := ⟨_, rfl⟩
  have hp := H.out
  unfold spAdd at hp
  rw [hq] at hp
  have HQ := Lib.hid hq
  clear H hq
  cases q with
  | false =>
    cases hp
    go_enter Try.func35, Try.ntmps35
    go_wp2_with fail
    refine (known2 _ _ _ _ _ _ _ HQ _ _ (by go_simp) (by go_simp) (by go_simp) (by go_simp) (by go_simp) (by go_simp) (by go_simp)).mono ?_
    rintro e w1 ⟨rfl, hb1⟩
    have q1_1_0 : CellF w1 ⟨w.heap.size + 1 + 1, 0, none⟩ (.int .i64 0) := (by refine CellF.keep hb1 ?_; refine ⟨?_, ?_⟩ <;> go_simp)
    have c1_1_0 := q1_1_0.1
    have g1_1_0 := q1_1_0.2
    have q1_1_1 : CellF w1 ⟨w.heap.size + 1 + 1, 1, none⟩ (.int .i64 0) := (by refine CellF.keep hb1 ?_; refine ⟨?_, ?_⟩ <;> go_simp)
    have c1_1_1 := q1_1_1.1
    have g1_1_1 := q1_1_1.2
    have q1_1_2 : CellF w1 ⟨w.heap.size + 1 + 1, 2, none⟩ (.bool false) := (by refine CellF.keep hb1 ?_; refine ⟨?_, ?_⟩ <;> go_simp)
    have c1_1_2 := q1_1_2.1
    have g1_1_2 := q1_1_2.2
    have z1_1 : w.heap.size + 1 + 1 < w1.heap.size := ltc c1_1_0
    go_wp2
    exact bodyPost_ret (v := .agg #[.int .i64 0, .int .i64 0, .bool false]) (by simp [results, Try.results35, go_sem, c1_1_0, c1_1_1, c1_1_2]) rfl ⟨rfl, (by repeat (first | exact brefl _ | refine balloc ?_ _ | refine bdrewN ?_ _ | refine bset ?_ (by dsimp only; omega) _ | refine bstep ?_ (by assumption)))⟩
  | true =>
    go_enter Try.func35, Try.ntmps35
    go_wp2_with fail
    refine (known2 _ _ _ _ _ _ _ HQ _ _ (by go_simp) (by go_simp) (by go_simp) (by go_simp) (by go_simp) (by go_simp) (by go_simp)).mono ?_
    rintro e w1 ⟨rfl, hb1⟩
    have q1_1_0 : CellF w1 ⟨w.heap.size, 0, none⟩ (.int .i64 lo) := (by refine CellF.keep hb1 ?_; refine ⟨?_, ?_⟩ <;> go_simp)
    have c1_1_0 := q1_1_0.1
    have q1_1_1 : CellF w1 ⟨w.heap.size, 1, none⟩ (.int .i64 hi) := (by refine CellF.keep hb1 ?_; refine ⟨?_, ?_⟩ <;> go_simp)
    have c1_1_1 := q1_1_1.1
    have q1_1_2 : CellF w1 ⟨w.heap.size, 2, none⟩ (.bool k) := (by refine CellF.keep hb1 ?_; refine ⟨?_, ?_⟩ <;> go_simp)
    have c1_1_2 := q1_1_2.1
    have z1_1 : w.heap.size < w1.heap.size := ltc c1_1_0
    have q1_2_0 : CellF w1 ⟨w.heap.size + 1, 0, none⟩ (.int .i64 lo2) := (by refine CellF.keep hb1 ?_; refine ⟨?_, ?_⟩ <;> go_simp)
    have c1_2_0 := q1_2_0.1
    have q1_2_1 : CellF w1 ⟨w.heap.size + 1, 1, none⟩ (.int .i64 hi2) := (by refine CellF.keep hb1 ?_; refine ⟨?_, ?_⟩ <;> go_simp)
    have c1_2_1 := q1_2_1.1
    have q1_2_2 : CellF w1 ⟨w.heap.size + 1, 2, none⟩ (.bool k2) := (by refine CellF.keep hb1 ?_; refine ⟨?_, ?_⟩ <;> go_simp)
    have c1_2_2 := q1_2_2.1
    have z1_2 : w.heap.size + 1 < w1.heap.size := ltc c1_2_0
    have q1_3_0 : CellF w1 ⟨w.heap.size + 1 + 1, 0, none⟩ (.int .i64 0) := (by refine CellF.keep hb1 ?_; refine ⟨?_, ?_⟩ <;> go_simp)
    have c1_3_0 := q1_3_0.1
    have g1_3_0 := q1_3_0.2
    have q1_3_1 : CellF w1 ⟨w.heap.size + 1 + 1, 1, none⟩ (.int .i64 0) := (by refine CellF.keep hb1 ?_; refine ⟨?_, ?_⟩ <;> go_simp)
    have c1_3_1 := q1_3_1.1
    have g1_3_1 := q1_3_1.2
    have q1_3_2 : CellF w1 ⟨w.heap.size + 1 + 1, 2, none⟩ (.bool false) := (by refine CellF.keep hb1 ?_; refine ⟨?_, ?_⟩ <;> go_simp)
    have c1_3_2 := q1_3_2.1
    have g1_3_2 := q1_3_2.2
    have z1_3 : w.heap.size + 1 + 1 < w1.heap.size := ltc c1_3_0
    have HM : Hid (spMade (addP lo lo2) (addP hi hi2) = ⟨x, y, z⟩) := by rw [if_pos trivial] at hp; exact hp
    clear hp
    go_wp2_with fail
    refine (made_add _ _ _ _ _ _ _ HM _).mono ?_
    rintro e w2 ⟨rfl, hb2⟩
    have q2_4_0 : CellF w2 ⟨w.heap.size + 1 + 1, 0, none⟩ (.int .i64 0) := (by first | exact CellF.keep hb2 q1_3_0 | exact CellF.keep hb2 (CellF.past _ q1_3_0) | exact CellF.keep hb2 (CellF.past _ (CellF.past _ q1_3_0)) | exact CellF.keep hb2 (CellF.drewN _ q1_3_0))
    have c2_4_0 := q2_4_0.1
    have g2_4_0 := q2_4_0.2
    have q2_4_1 : CellF w2 ⟨w.heap.size + 1 + 1, 1, none⟩ (.int .i64 0) := (by first | exact CellF.keep hb2 q1_3_1 | exact CellF.keep hb2 (CellF.past _ q1_3_1) | exact CellF.keep hb2 (CellF.past _ (CellF.past _ q1_3_1)) | exact CellF.keep hb2 (CellF.drewN _ q1_3_1))
    have c2_4_1 := q2_4_1.1
    have g2_4_1 := q2_4_1.2
    have q2_4_2 : CellF w2 ⟨w.heap.size + 1 + 1, 2, none⟩ (.bool false) := (by first | exact CellF.keep hb2 q1_3_2 | exact CellF.keep hb2 (CellF.past _ q1_3_2) | exact CellF.keep hb2 (CellF.past _ (CellF.past _ q1_3_2)) | exact CellF.keep hb2 (CellF.drewN _ q1_3_2))
    have c2_4_2 := q2_4_2.1
    have g2_4_2 := q2_4_2.2
    have z2_4 : w.heap.size + 1 + 1 < w2.heap.size := ltc c2_4_0
    go_wp2
    exact bodyPost_ret (v := .agg #[.int .i64 x, .int .i64 y, .bool z]) (by simp [results, Try.results35, go_sem, c2_4_0, c2_4_1, c2_4_2]) rfl ⟨rfl, (by repeat (first | exact brefl _ | refine balloc ?_ _ | refine bdrewN ?_ _ | refine bset ?_ (by dsimp only; omega) _ | refine bstep ?_ (by assumption)))⟩

theorem Shift_is (lo hi n x y : Int) (k z : Bool) (H : Hid (spShift ⟨lo, hi, k⟩ n = ⟨x, y, z⟩)) (w : World) :
    Calls Try.prog 15 #[.agg #[.int .i64 lo, .int .i64 hi, .bool k], .int .i64 n] w fun e w' => e = .returned (.agg #[.int .i64 x, .int .i64 y, .bool z]) ∧ Below w.heap.size w w' := by
  obtain ⟨⟨a, b, c⟩, hm⟩ : ∃ s, spOf n n = s := ⟨_, rfl⟩
  have HA : Hid (spAdd ⟨lo, hi, k⟩ ⟨a, b, c⟩ = ⟨x, y, z⟩) := by have h := H.out; unfold spShift at h; rw [hm] at h; exact h
  have HM := Lib.hid hm
  clear H hm
  have hmf : ∀ (fn : Fn) (first cap : Array Value) (w : World), (Instr.makeFunc fn first cap).run Try.prog w = .ok (.func fn first cap) w := fun _ _ _ _ => rfl
  go_enter Try.func15, Try.ntmps15
  go_wp2_with fail
  refine (Of_is _ _ _ _ _ HM _).mono ?_
  rintro e w1 ⟨rfl, hb1⟩
  have q1_1_0 : CellF w1 ⟨w.heap.size + 1, 0, none⟩ (.int .i64 0) := (by refine CellF.keep hb1 ?_; refine ⟨?_, ?_⟩ <;> go_simp)
  have c1_1_0 := q1_1_0.1
  have g1_1_0 := q1_1_0.2
  have q1_1_1 : CellF w1 ⟨w.heap.size + 1, 1, none⟩ (.int .i64 0) := (by refine CellF.keep hb1 ?_; refine ⟨?_, ?_⟩ <;> go_simp)
  have c1_1_1 := q1_1_1.1
  have g1_1_1 := q1_1_1.2
  have q1_1_2 : CellF w1 ⟨w.heap.size + 1, 2, none⟩ (.bool false) := (by refine CellF.keep hb1 ?_; refine ⟨?_, ?_⟩ <;> go_simp)
  have c1_1_2 := q1_1_2.1
  have g1_1_2 := q1_1_2.2
  have z1_1 : w.heap.size + 1 < w1.heap.size := ltc c1_1_0
  go_wp2_with fail
  refine (SpAdd_is _ _ _ _ _ _ _ _ _ HA _).mono ?_
  rintro e w2 ⟨rfl, hb2⟩
  have q2_2_0 : CellF w2 ⟨w.heap.size + 1, 0, none⟩ (.int .i64 0) := (by first | exact CellF.keep hb2 q1_1_0 | exact CellF.keep hb2 (CellF.past _ q1_1_0) | exact CellF.keep hb2 (CellF.past _ (CellF.past _ q1_1_0)) | exact CellF.keep hb2 (CellF.drewN _ q1_1_0))
  have c2_2_0 := q2_2_0.1
  have g2_2_0 := q2_2_0.2
  have q2_2_1 : CellF w2 ⟨w.heap.size + 1, 1, none⟩ (.int .i64 0) := (by first | exact CellF.keep hb2 q1_1_1 | exact CellF.keep hb2 (CellF.past _ q1_1_1) | exact CellF.keep hb2 (CellF.past _ (CellF.past _ q1_1_1)) | exact CellF.keep hb2 (CellF.drewN _ q1_1_1))
  have c2_2_1 := q2_2_1.1
  have g2_2_1 := q2_2_1.2
  have q2_2_2 : CellF w2 ⟨w.heap.size + 1, 2, none⟩ (.bool false) := (by first | exact CellF.keep hb2 q1_1_2 | exact CellF.keep hb2 (CellF.past _ q1_1_2) | exact CellF.keep hb2 (CellF.past _ (CellF.past _ q1_1_2)) | exact CellF.keep hb2 (CellF.drewN _ q1_1_2))
  have c2_2_2 := q2_2_2.1
  have g2_2_2 := q2_2_2.2
  have z2_2 : w.heap.size + 1 < w2.heap.size := ltc c2_2_0
  go_wp2
  exact bodyPost_ret (v := .agg #[.int .i64 x, .int .i64 y, .bool z]) (by simp [results, Try.results15, go_sem, c2_2_0, c2_2_1, c2_2_2]) rfl ⟨rfl, (by repeat (first | exact brefl _ | refine balloc ?_ _ | refine bdrewN ?_ _ | refine bset ?_ (by dsimp only; omega) _ | refine bstep ?_ (by assumption)))⟩
end Go.Proofs.Ytklnlhphgiipjaa
