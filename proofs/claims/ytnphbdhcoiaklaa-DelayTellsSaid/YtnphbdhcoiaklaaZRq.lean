/-
  The document's delay: Right, c, one.
-/
import Derived.Test.YtnphbdhcoiaklaaZGK
import Derived.Test.YtnphbdhcoiaklaaZTr
import Derived.Test.YtnphbdhcoiaklaaZGF
import Derived.BigQuiet
import Derived.Deep.QuietTactic
import Derived.Deep.Cut
import Derived.Deep.CutRange
import Derived.Deep.DeepCutAuto
namespace Go.Proofs.Ytnphbdhcoiaklaa
open Go.RowKit

theorem cell_below {n : Nat} {a b : World} (hb : Below n a b) {p : Addr} (hp : p.block < n) {v : Value} (h : CellF a p v) : CellF b p v := ⟨(hb.cell hp).trans h.1, (hb.frozen hp).trans h.2⟩
theorem rPRight_is (mn mx g : Int) (p : Bool) (H : Hid (pRight mn mx g = p)) (w : World) :
    Calls Try.prog 75 #[.agg #[.int .i64 mn, .int .i64 mx, .int .i64 g]] w fun e w' => e = .returned (.bool p) ∧ Below w.heap.size w w' := by
  have hp := H.out
  clear H
  unfold pRight at hp
  by_cases h0 : 0 ≤ mn
  · rw [decide_eq_true h0] at hp
    by_cases h1 : mn ≤ mx
    · rw [decide_eq_true h1] at hp
      by_cases h2 : mx ≤ 10000000000
      · rw [decide_eq_true h2] at hp
        by_cases h3 : 0 ≤ g
        · rw [decide_eq_true h3] at hp
          by_cases h4 : g ≤ 1000000000
          · rw [decide_eq_true h4] at hp
            cases hp
            go_enter Try.func75, Try.ntmps75
            go_wp2
            go_ret
            exact ⟨rfl, (by repeat (first | exact brefl _ | refine balloc ?_ _ | refine bdrewN ?_ _ | refine bset ?_ (by dsimp only; omega) _ | refine bstep ?_ (by assumption)))⟩
          · rw [decide_eq_false h4] at hp
            cases hp
            go_enter Try.func75, Try.ntmps75
            go_wp2
            go_ret
            exact ⟨rfl, (by repeat (first | exact brefl _ | refine balloc ?_ _ | refine bdrewN ?_ _ | refine bset ?_ (by dsimp only; omega) _ | refine bstep ?_ (by assumption)))⟩
        · rw [decide_eq_false h3] at hp
          cases hp
          go_enter Try.func75, Try.ntmps75
          go_wp2
          go_ret
          exact ⟨rfl, (by repeat (first | exact brefl _ | refine balloc ?_ _ | refine bdrewN ?_ _ | refine bset ?_ (by dsimp only; omega) _ | refine bstep ?_ (by assumption)))⟩
      · rw [decide_eq_false h2] at hp
        cases hp
        go_enter Try.func75, Try.ntmps75
        go_wp2
        go_ret
        exact ⟨rfl, (by repeat (first | exact brefl _ | refine balloc ?_ _ | refine bdrewN ?_ _ | refine bset ?_ (by dsimp only; omega) _ | refine bstep ?_ (by assumption)))⟩
    · rw [decide_eq_false h1] at hp
      cases hp
      go_enter Try.func75, Try.ntmps75
      go_wp2
      go_ret
      exact ⟨rfl, (by repeat (first | exact brefl _ | refine balloc ?_ _ | refine bdrewN ?_ _ | refine bset ?_ (by dsimp only; omega) _ | refine bstep ?_ (by assumption)))⟩
  · rw [decide_eq_false h0] at hp
    cases hp
    go_enter Try.func75, Try.ntmps75
    go_wp2
    go_ret
    exact ⟨rfl, (by repeat (first | exact brefl _ | refine balloc ?_ _ | refine bdrewN ?_ _ | refine bset ?_ (by dsimp only; omega) _ | refine bstep ?_ (by assumption)))⟩
set_option maxRecDepth 100000 in
set_option maxHeartbeats 4000000 in
theorem rCorr_is (c : Int) (hc : I64 c) (x y : Int) (z : Bool) (H : Hid (dCorr c = ⟨x, y, z⟩)) (w : World) :
    Calls Try.prog 104 #[.int .i64 c] w fun e w' => e = .returned (.agg #[.int .i64 x, .int .i64 y, .bool z]) ∧ Below w.heap.size w w' := by
  have hx := H.out
  unfold dCorr at hx
  obtain ⟨d, h1⟩ : ∃ d, stDown c = d := ⟨_, rfl⟩
  obtain ⟨u, h2⟩ : ∃ d, stUp c = d := ⟨_, rfl⟩
  rw [h1, h2] at hx
  have H1 := Lib.hid h1
  have H2 := Lib.hid h2
  have HX := Lib.hid hx
  clear H h1 h2 hx
  go_enter Try.func104, Try.ntmps104
  go_wp2_with fail
  refine (rDown_is _ _ hc H1 _).mono ?_
  rintro e w1 ⟨rfl, hb1⟩
  have q1_1_0 : CellF w1 ⟨w.heap.size, 0, none⟩ (.int .i64 0) := CellF.keep hb1 (CellF.at_ rfl rfl)
  have c1_1_0 := q1_1_0.1
  have g1_1_0 := q1_1_0.2
  have q1_1_1 : CellF w1 ⟨w.heap.size, 1, none⟩ (.int .i64 0) := CellF.keep hb1 (CellF.at_ rfl rfl)
  have c1_1_1 := q1_1_1.1
  have g1_1_1 := q1_1_1.2
  have q1_1_2 : CellF w1 ⟨w.heap.size, 2, none⟩ (.bool false) := CellF.keep hb1 (CellF.at_ rfl rfl)
  have c1_1_2 := q1_1_2.1
  have g1_1_2 := q1_1_2.2
  have z1_1 : w.heap.size < w1.heap.size := ltc c1_1_0
  go_wp2_with fail
  refine (rUp_is _ _ hc H2 _).mono ?_
  rintro e w2 ⟨rfl, hb2⟩
  have q2_2_0 : CellF w2 ⟨w.heap.size, 0, none⟩ (.int .i64 0) := CellF.keep hb2 (q1_1_0)
  have c2_2_0 := q2_2_0.1
  have g2_2_0 := q2_2_0.2
  have q2_2_1 : CellF w2 ⟨w.heap.size, 1, none⟩ (.int .i64 0) := CellF.keep hb2 (q1_1_1)
  have c2_2_1 := q2_2_1.1
  have g2_2_1 := q2_2_1.2
  have q2_2_2 : CellF w2 ⟨w.heap.size, 2, none⟩ (.bool false) := CellF.keep hb2 (q1_1_2)
  have c2_2_2 := q2_2_2.1
  have g2_2_2 := q2_2_2.2
  have z2_2 : w.heap.size < w2.heap.size := ltc c2_2_0
  clear q1_1_0 c1_1_0 g1_1_0 q1_1_1 c1_1_1 g1_1_1 q1_1_2 c1_1_2 g1_1_2 z1_1
  go_wp2_with fail
  refine (r3Of_is _ _ _ _ _ HX _).mono ?_
  rintro e w3 ⟨rfl, hb3⟩
  have q3_3_0 : CellF w3 ⟨w.heap.size, 0, none⟩ (.int .i64 0) := CellF.keep hb3 (q2_2_0)
  have c3_3_0 := q3_3_0.1
  have g3_3_0 := q3_3_0.2
  have q3_3_1 : CellF w3 ⟨w.heap.size, 1, none⟩ (.int .i64 0) := CellF.keep hb3 (q2_2_1)
  have c3_3_1 := q3_3_1.1
  have g3_3_1 := q3_3_1.2
  have q3_3_2 : CellF w3 ⟨w.heap.size, 2, none⟩ (.bool false) := CellF.keep hb3 (q2_2_2)
  have c3_3_2 := q3_3_2.1
  have g3_3_2 := q3_3_2.2
  have z3_3 : w.heap.size < w3.heap.size := ltc c3_3_0
  clear q2_2_0 c2_2_0 g2_2_0 q2_2_1 c2_2_1 g2_2_1 q2_2_2 c2_2_2 g2_2_2 z2_2
  go_wp2
  exact bodyPost_ret (v := .agg #[.int .i64 x, .int .i64 y, .bool z]) (by simp [results, Try.results104, go_sem, c3_3_0, c3_3_1, c3_3_2]) rfl ⟨rfl, (by repeat (first | with_reducible assumption | with_reducible exact brefl _ | with_reducible refine balloc ?_ _ | with_reducible refine bdrewN ?_ _ | with_reducible refine bset ?_ ?_ _ | (dsimp only; omega) | refine bstep ?_ (by assumption)))⟩

set_option maxRecDepth 100000 in
set_option maxHeartbeats 4000000 in
theorem rOne_is (n : Int) (x y : Int) (z : Bool) (H : Hid (spOf n n = ⟨x, y, z⟩)) (w : World) :
    Calls Try.prog 105 #[.int .i64 n] w fun e w' => e = .returned (.agg #[.int .i64 x, .int .i64 y, .bool z]) ∧ Below w.heap.size w w' := by
  go_enter Try.func105, Try.ntmps105
  go_wp2_with fail
  refine (r3Of_is _ _ _ _ _ H _).mono ?_
  rintro e w1 ⟨rfl, hb1⟩
  have q1_1_0 : CellF w1 ⟨w.heap.size, 0, none⟩ (.int .i64 0) := CellF.keep hb1 (CellF.at_ rfl rfl)
  have c1_1_0 := q1_1_0.1
  have g1_1_0 := q1_1_0.2
  have q1_1_1 : CellF w1 ⟨w.heap.size, 1, none⟩ (.int .i64 0) := CellF.keep hb1 (CellF.at_ rfl rfl)
  have c1_1_1 := q1_1_1.1
  have g1_1_1 := q1_1_1.2
  have q1_1_2 : CellF w1 ⟨w.heap.size, 2, none⟩ (.bool false) := CellF.keep hb1 (CellF.at_ rfl rfl)
  have c1_1_2 := q1_1_2.1
  have g1_1_2 := q1_1_2.2
  have z1_1 : w.heap.size < w1.heap.size := ltc c1_1_0
  go_wp2
  exact bodyPost_ret (v := .agg #[.int .i64 x, .int .i64 y, .bool z]) (by simp [results, Try.results105, go_sem, c1_1_0, c1_1_1, c1_1_2]) rfl ⟨rfl, (by repeat (first | with_reducible assumption | with_reducible exact brefl _ | with_reducible refine balloc ?_ _ | with_reducible refine bdrewN ?_ _ | with_reducible refine bset ?_ ?_ _ | (dsimp only; omega) | refine bstep ?_ (by assumption)))⟩
end Go.Proofs.Ytnphbdhcoiaklaa
