/-
  The walks of package delay's Right, alone, correction, wider.
-/
import Derived.Test.YtigpddhffgoioaaMdl
import Derived.Test.YtigpddhffgoioaaSu
import Derived.Test.YtigpddhffgoioaaSe
import Derived.Test.YtigpddhffgoioaaTa
namespace Go.Proofs.Ytigpddhffgoioaa
open Go.RowKit

theorem PRight_is (mn mx g : Int) (p : Bool) (H : Hid (pRight mn mx g = p)) (w : World) :
    Calls Try.prog 25 #[.agg #[.int .i64 mn, .int .i64 mx, .int .i64 g]] w fun e w' => e = .returned (.bool p) ∧ Below w.heap.size w w' := by
  have hp := H.out
  clear H
  unfold pRight at hp
  by_cases h1 : 0 ≤ mn
  · rw [decide_eq_true h1] at hp
    by_cases h2 : mn ≤ mx
    · rw [decide_eq_true h2] at hp
      by_cases h3 : mx ≤ 10000000000
      · rw [decide_eq_true h3] at hp
        by_cases h4 : 0 ≤ g
        · rw [decide_eq_true h4] at hp
          by_cases h5 : g ≤ 1000000000
          · rw [decide_eq_true h5] at hp
            cases hp
            go_enter Try.func25, Try.ntmps25
            go_wp2
            go_ret
            exact ⟨rfl, (by repeat (first | exact brefl _ | refine balloc ?_ _ | refine bdrewN ?_ _ | refine bset ?_ (by dsimp only; omega) _ | refine bstep ?_ (by assumption)))⟩
          · rw [decide_eq_false h5] at hp
            cases hp
            go_enter Try.func25, Try.ntmps25
            go_wp2
            go_ret
            exact ⟨rfl, (by repeat (first | exact brefl _ | refine balloc ?_ _ | refine bdrewN ?_ _ | refine bset ?_ (by dsimp only; omega) _ | refine bstep ?_ (by assumption)))⟩
        · rw [decide_eq_false h4] at hp
          cases hp
          go_enter Try.func25, Try.ntmps25
          go_wp2
          go_ret
          exact ⟨rfl, (by repeat (first | exact brefl _ | refine balloc ?_ _ | refine bdrewN ?_ _ | refine bset ?_ (by dsimp only; omega) _ | refine bstep ?_ (by assumption)))⟩
      · rw [decide_eq_false h3] at hp
        cases hp
        go_enter Try.func25, Try.ntmps25
        go_wp2
        go_ret
        exact ⟨rfl, (by repeat (first | exact brefl _ | refine balloc ?_ _ | refine bdrewN ?_ _ | refine bset ?_ (by dsimp only; omega) _ | refine bstep ?_ (by assumption)))⟩
    · rw [decide_eq_false h2] at hp
      cases hp
      go_enter Try.func25, Try.ntmps25
      go_wp2
      go_ret
      exact ⟨rfl, (by repeat (first | exact brefl _ | refine balloc ?_ _ | refine bdrewN ?_ _ | refine bset ?_ (by dsimp only; omega) _ | refine bstep ?_ (by assumption)))⟩
  · rw [decide_eq_false h1] at hp
    cases hp
    go_enter Try.func25, Try.ntmps25
    go_wp2
    go_ret
    exact ⟨rfl, (by repeat (first | exact brefl _ | refine balloc ?_ _ | refine bdrewN ?_ _ | refine bset ?_ (by dsimp only; omega) _ | refine bstep ?_ (by assumption)))⟩

theorem alone_is (n x y : Int) (z : Bool) (H : Hid (spOf n n = ⟨x, y, z⟩)) (w : World) :
    Calls Try.prog 28 #[.int .i64 n] w fun e w' => e = .returned (.agg #[.int .i64 x, .int .i64 y, .bool z]) ∧ Below w.heap.size w w' := by
  go_enter Try.func28, Try.ntmps28
  go_wp2_with fail
  refine (Of_is _ _ _ _ _ H _).mono ?_
  rintro e w1 ⟨rfl, hb1⟩
  have q1_1_0 : CellF w1 ⟨w.heap.size, 0, none⟩ (.int .i64 0) := (by refine CellF.keep hb1 ?_; refine ⟨?_, ?_⟩ <;> go_simp)
  have c1_1_0 := q1_1_0.1
  have g1_1_0 := q1_1_0.2
  have q1_1_1 : CellF w1 ⟨w.heap.size, 1, none⟩ (.int .i64 0) := (by refine CellF.keep hb1 ?_; refine ⟨?_, ?_⟩ <;> go_simp)
  have c1_1_1 := q1_1_1.1
  have g1_1_1 := q1_1_1.2
  have q1_1_2 : CellF w1 ⟨w.heap.size, 2, none⟩ (.bool false) := (by refine CellF.keep hb1 ?_; refine ⟨?_, ?_⟩ <;> go_simp)
  have c1_1_2 := q1_1_2.1
  have g1_1_2 := q1_1_2.2
  have z1_1 : w.heap.size < w1.heap.size := ltc c1_1_0
  go_wp2
  exact bodyPost_ret (v := .agg #[.int .i64 x, .int .i64 y, .bool z]) (by simp [results, Try.results28, go_sem, c1_1_0, c1_1_1, c1_1_2]) rfl ⟨rfl, (by repeat (first | exact brefl _ | refine balloc ?_ _ | refine bdrewN ?_ _ | refine bset ?_ (by dsimp only; omega) _ | refine bstep ?_ (by assumption)))⟩

theorem correction_is (c : Int) (hc : I64 c) (x y : Int) (z : Bool) (H : Hid (dCorr c = ⟨x, y, z⟩)) (w : World) :
    Calls Try.prog 30 #[.int .i64 c] w fun e w' => e = .returned (.agg #[.int .i64 x, .int .i64 y, .bool z]) ∧ Below w.heap.size w w' := by
  obtain ⟨d, hd⟩ : ∃ d, stDown c = d := ⟨_, rfl⟩
  obtain ⟨u, hu⟩ : ∃ u, stUp c = u := ⟨_, rfl⟩
  have HO : Hid (spOf d u = ⟨x, y, z⟩) := Lib.hid (by rw [← hd, ← hu]; exact H.out)
  have HD := Lib.hid hd
  have HU := Lib.hid hu
  clear hd hu H
  go_enter Try.func30, Try.ntmps30
  go_wp2_with fail
  refine (Down_is _ _ hc HD _).mono ?_
  rintro e w1 ⟨rfl, hb1⟩
  have q1_1_0 : CellF w1 ⟨w.heap.size, 0, none⟩ (.int .i64 0) := (by refine CellF.keep hb1 ?_; refine ⟨?_, ?_⟩ <;> go_simp)
  have c1_1_0 := q1_1_0.1
  have g1_1_0 := q1_1_0.2
  have q1_1_1 : CellF w1 ⟨w.heap.size, 1, none⟩ (.int .i64 0) := (by refine CellF.keep hb1 ?_; refine ⟨?_, ?_⟩ <;> go_simp)
  have c1_1_1 := q1_1_1.1
  have g1_1_1 := q1_1_1.2
  have q1_1_2 : CellF w1 ⟨w.heap.size, 2, none⟩ (.bool false) := (by refine CellF.keep hb1 ?_; refine ⟨?_, ?_⟩ <;> go_simp)
  have c1_1_2 := q1_1_2.1
  have g1_1_2 := q1_1_2.2
  have z1_1 : w.heap.size < w1.heap.size := ltc c1_1_0
  go_wp2_with fail
  refine (Up_is _ _ hc HU _).mono ?_
  rintro e w2 ⟨rfl, hb2⟩
  have q2_2_0 : CellF w2 ⟨w.heap.size, 0, none⟩ (.int .i64 0) := (by first | exact CellF.keep hb2 q1_1_0 | exact CellF.keep hb2 (CellF.past _ q1_1_0) | exact CellF.keep hb2 (CellF.past _ (CellF.past _ q1_1_0)) | exact CellF.keep hb2 (CellF.drewN _ q1_1_0))
  have c2_2_0 := q2_2_0.1
  have g2_2_0 := q2_2_0.2
  have q2_2_1 : CellF w2 ⟨w.heap.size, 1, none⟩ (.int .i64 0) := (by first | exact CellF.keep hb2 q1_1_1 | exact CellF.keep hb2 (CellF.past _ q1_1_1) | exact CellF.keep hb2 (CellF.past _ (CellF.past _ q1_1_1)) | exact CellF.keep hb2 (CellF.drewN _ q1_1_1))
  have c2_2_1 := q2_2_1.1
  have g2_2_1 := q2_2_1.2
  have q2_2_2 : CellF w2 ⟨w.heap.size, 2, none⟩ (.bool false) := (by first | exact CellF.keep hb2 q1_1_2 | exact CellF.keep hb2 (CellF.past _ q1_1_2) | exact CellF.keep hb2 (CellF.past _ (CellF.past _ q1_1_2)) | exact CellF.keep hb2 (CellF.drewN _ q1_1_2))
  have c2_2_2 := q2_2_2.1
  have g2_2_2 := q2_2_2.2
  have z2_2 : w.heap.size < w2.heap.size := ltc c2_2_0
  go_wp2_with fail
  refine (Of_is _ _ _ _ _ HO _).mono ?_
  rintro e w3 ⟨rfl, hb3⟩
  have q3_3_0 : CellF w3 ⟨w.heap.size, 0, none⟩ (.int .i64 0) := (by first | exact CellF.keep hb3 q2_2_0 | exact CellF.keep hb3 (CellF.past _ q2_2_0) | exact CellF.keep hb3 (CellF.past _ (CellF.past _ q2_2_0)) | exact CellF.keep hb3 (CellF.drewN _ q2_2_0))
  have c3_3_0 := q3_3_0.1
  have g3_3_0 := q3_3_0.2
  have q3_3_1 : CellF w3 ⟨w.heap.size, 1, none⟩ (.int .i64 0) := (by first | exact CellF.keep hb3 q2_2_1 | exact CellF.keep hb3 (CellF.past _ q2_2_1) | exact CellF.keep hb3 (CellF.past _ (CellF.past _ q2_2_1)) | exact CellF.keep hb3 (CellF.drewN _ q2_2_1))
  have c3_3_1 := q3_3_1.1
  have g3_3_1 := q3_3_1.2
  have q3_3_2 : CellF w3 ⟨w.heap.size, 2, none⟩ (.bool false) := (by first | exact CellF.keep hb3 q2_2_2 | exact CellF.keep hb3 (CellF.past _ q2_2_2) | exact CellF.keep hb3 (CellF.past _ (CellF.past _ q2_2_2)) | exact CellF.keep hb3 (CellF.drewN _ q2_2_2))
  have c3_3_2 := q3_3_2.1
  have g3_3_2 := q3_3_2.2
  have z3_3 : w.heap.size < w3.heap.size := ltc c3_3_0
  go_wp2
  exact bodyPost_ret (v := .agg #[.int .i64 x, .int .i64 y, .bool z]) (by simp [results, Try.results30, go_sem, c3_3_0, c3_3_1, c3_3_2]) rfl ⟨rfl, (by repeat (first | exact brefl _ | refine balloc ?_ _ | refine bdrewN ?_ _ | refine bset ?_ (by dsimp only; omega) _ | refine bstep ?_ (by assumption)))⟩

/-- What makes spans wider, a value: its path and its number lie in boxes. -/
def IsWider (w : World) (v : Value) (mn mx g t : Int) : Prop := ∃ bp bt, v = .func (.func 51) #[] #[.pointer (some ⟨bp, 0, none⟩), .pointer (some ⟨bt, 0, none⟩)] ∧
  CellF w ⟨bp, 0, none⟩ (.int .i64 mn) ∧ CellF w ⟨bp, 1, none⟩ (.int .i64 mx) ∧ CellF w ⟨bp, 2, none⟩ (.int .i64 g) ∧ CellF w ⟨bt, 0, none⟩ (.int .i64 t)
theorem IsWider.keep {a b : World} {v : Value} {mn mx g t : Int} (hb : Below a.heap.size a b) (h : IsWider a v mn mx g t) : IsWider b v mn mx g t := by
  obtain ⟨bp, bt, e, h1, h2, h3, h4⟩ := h
  exact ⟨bp, bt, e, h1.keep hb, h2.keep hb, h3.keep hb, h4.keep hb⟩

theorem wider_is (mn mx g t : Int) (w : World) :
    Calls Try.prog 31 #[.agg #[.int .i64 mn, .int .i64 mx, .int .i64 g], .int .i64 t] w fun e w' => ∃ v, e = .returned v ∧ Below w.heap.size w w' ∧ IsWider w' v mn mx g t := by
  go_enter Try.func31, Try.ntmps31
  go_wp2
  go_ret
  exact ⟨_, rfl, (by repeat (first | exact brefl _ | refine balloc ?_ _ | refine bdrewN ?_ _ | refine bset ?_ (by dsimp only; omega) _ | refine bstep ?_ (by assumption))), w.heap.size, w.heap.size + 1, rfl, by refine ⟨?_, ?_⟩ <;> go_simp, by refine ⟨?_, ?_⟩ <;> go_simp, by refine ⟨?_, ?_⟩ <;> go_simp, by refine ⟨?_, ?_⟩ <;> go_simp⟩
end Go.Proofs.Ytigpddhffgoioaa
