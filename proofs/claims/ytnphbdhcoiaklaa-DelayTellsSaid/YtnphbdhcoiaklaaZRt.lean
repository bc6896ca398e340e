/-
  The document's delay: Both.
-/
import Derived.Test.YtnphbdhcoiaklaaZRr
import Derived.Test.YtnphbdhcoiaklaaZRs
import Derived.Test.YtnphbdhcoiaklaaZGF
import Derived.Test.YtnphbdhcoiaklaaZGB
import Derived.BigQuiet
import Derived.Deep.QuietTactic
import Derived.Deep.Cut
import Derived.Deep.CutRange
import Derived.Deep.DeepCutAuto
namespace Go.Proofs.Ytnphbdhcoiaklaa
open Go.RowKit

set_option maxRecDepth 100000 in
set_option maxHeartbeats 4000000 in
theorem rBoth_is (mn mx g x0 x1 x2 x3 c0 c1 y1 y2 : Int) (y3 : Bool) (hc0 : I64 c0) (hc1 : I64 c1) (H : Hid (dBoth mn mx g x0 x1 x2 x3 c0 c1 = ⟨y1, y2, y3⟩)) (w : World) :
    Calls Try.prog 71 #[.agg #[.int .i64 mn, .int .i64 mx, .int .i64 g], .agg #[.int .i64 x0, .int .i64 x1, .int .i64 x2, .int .i64 x3], .agg #[.int .i64 c0, .int .i64 c1]] w fun e w' => e = .returned (.agg #[.int .i64 y1, .int .i64 y2, .bool y3]) ∧ Below w.heap.size w w' := by
  have hx := H.out
  unfold dBoth at hx
  obtain ⟨⟨s1, s2, s3⟩, es⟩ : ∃ s, dSync mn mx g x0 c0 x1 = s := ⟨_, rfl⟩
  have Hs := Lib.hid es
  obtain ⟨⟨r1, r2, r3⟩, er⟩ : ∃ s, dReq mn mx g x2 c1 x3 = s := ⟨_, rfl⟩
  have Hr := Lib.hid er
  rw [es, er] at hx
  have HX := Lib.hid hx
  clear H es er hx
  go_enter Try.func71, Try.ntmps71
  go_upto_region 1 with (fail)
  generalize hu : (((w.alloc (.cells #[.int .i64 mn, .int .i64 mx, .int .i64 g] 71)).alloc (.cells #[.int .i64 x0, .int .i64 x1, .int .i64 x2, .int .i64 x3] 72)).alloc (.cells #[.int .i64 c0, .int .i64 c1] 73)).alloc (.cells #[.int .i64 0, .int .i64 0, .bool false] 49) = z
  have hb : Below w.heap.size w z := by rw [← hu]; exact balloc (balloc (balloc (balloc (brefl _) _) _) _) _
  have qB0_0 : CellF z ⟨w.heap.size, 0, none⟩ (.int .i64 mn) := by rw [← hu]; exact CellF.past _ (CellF.past _ (CellF.past _ (CellF.at_ (by simp) rfl)))
  have cB0_0 := qB0_0.1
  have gB0_0 := qB0_0.2
  have qB0_1 : CellF z ⟨w.heap.size, 1, none⟩ (.int .i64 mx) := by rw [← hu]; exact CellF.past _ (CellF.past _ (CellF.past _ (CellF.at_ (by simp) rfl)))
  have cB0_1 := qB0_1.1
  have gB0_1 := qB0_1.2
  have qB0_2 : CellF z ⟨w.heap.size, 2, none⟩ (.int .i64 g) := by rw [← hu]; exact CellF.past _ (CellF.past _ (CellF.past _ (CellF.at_ (by simp) rfl)))
  have cB0_2 := qB0_2.1
  have gB0_2 := qB0_2.2
  have zB0 := ltc cB0_0
  dsimp only at zB0
  have qB1_0 : CellF z ⟨(w.heap.size + 1), 0, none⟩ (.int .i64 x0) := by rw [← hu]; exact CellF.past _ (CellF.past _ (CellF.at_ (by simp) rfl))
  have cB1_0 := qB1_0.1
  have gB1_0 := qB1_0.2
  have qB1_1 : CellF z ⟨(w.heap.size + 1), 1, none⟩ (.int .i64 x1) := by rw [← hu]; exact CellF.past _ (CellF.past _ (CellF.at_ (by simp) rfl))
  have cB1_1 := qB1_1.1
  have gB1_1 := qB1_1.2
  have qB1_2 : CellF z ⟨(w.heap.size + 1), 2, none⟩ (.int .i64 x2) := by rw [← hu]; exact CellF.past _ (CellF.past _ (CellF.at_ (by simp) rfl))
  have cB1_2 := qB1_2.1
  have gB1_2 := qB1_2.2
  have qB1_3 : CellF z ⟨(w.heap.size + 1), 3, none⟩ (.int .i64 x3) := by rw [← hu]; exact CellF.past _ (CellF.past _ (CellF.at_ (by simp) rfl))
  have cB1_3 := qB1_3.1
  have gB1_3 := qB1_3.2
  have zB1 := ltc cB1_0
  dsimp only at zB1
  have qB2_0 : CellF z ⟨(w.heap.size + 1 + 1), 0, none⟩ (.int .i64 c0) := by rw [← hu]; exact CellF.past _ (CellF.at_ (by simp) rfl)
  have cB2_0 := qB2_0.1
  have gB2_0 := qB2_0.2
  have qB2_1 : CellF z ⟨(w.heap.size + 1 + 1), 1, none⟩ (.int .i64 c1) := by rw [← hu]; exact CellF.past _ (CellF.at_ (by simp) rfl)
  have cB2_1 := qB2_1.1
  have gB2_1 := qB2_1.2
  have zB2 := ltc cB2_0
  dsimp only at zB2
  have qB3_0 : CellF z ⟨(w.heap.size + 1 + 1 + 1), 0, none⟩ (.int .i64 0) := by rw [← hu]; exact CellF.at_ (by simp) rfl
  have cB3_0 := qB3_0.1
  have gB3_0 := qB3_0.2
  have qB3_1 : CellF z ⟨(w.heap.size + 1 + 1 + 1), 1, none⟩ (.int .i64 0) := by rw [← hu]; exact CellF.at_ (by simp) rfl
  have cB3_1 := qB3_1.1
  have gB3_1 := qB3_1.2
  have qB3_2 : CellF z ⟨(w.heap.size + 1 + 1 + 1), 2, none⟩ (.bool false) := by rw [← hu]; exact CellF.at_ (by simp) rfl
  have cB3_2 := qB3_2.1
  have gB3_2 := qB3_2.2
  have zB3 := ltc cB3_0
  dsimp only at zB3
  clear hu
  have hR := (show SpanAt z (w.heap.size + 1 + 1 + 1) 0 0 false from ⟨qB3_0, qB3_1, qB3_2⟩)
  skip
  refine wp_region_inv (by kernel_rfl) (fun ls ac w' => ∃ v7 v8 v9 v10 v11 v12 v13 v14 v15 v16 v17 v18 v19 v20 v21 v22 v23, ac = ⟨#[.agg #[.int .i64 mn, .int .i64 mx, .int .i64 g], .agg #[.int .i64 x0, .int .i64 x1, .int .i64 x2, .int .i64 x3], .agg #[.int .i64 c0, .int .i64 c1], .pointer (some ⟨w.heap.size, 0, none⟩), .pointer (some ⟨w.heap.size + 1, 0, none⟩), .pointer (some ⟨w.heap.size + 1 + 1, 0, none⟩), .pointer (some ⟨w.heap.size + 1 + 1 + 1, 0, none⟩), v7, v8, v9, v10, v11, v12, v13, v14, v15, v16, v17, v18, v19, v20, v21, v22, v23], []⟩ ∧ ls.size = 18 ∧ (ls.getD 17 false = false → Below z.heap.size z w') ∧ (ls.getD 0 false = true → v7 = .agg #[.int .i64 mn, .int .i64 mx, .int .i64 g]) ∧ (ls.getD 1 false = true → v8 = .pointer (some ⟨w.heap.size + 1, 0, none⟩)) ∧ (ls.getD 2 false = true → v9 = .int .i64 x0) ∧ (ls.getD 3 false = true → v10 = .pointer (some ⟨w.heap.size + 1 + 1, 0, none⟩)) ∧ (ls.getD 4 false = true → v11 = .int .i64 c0) ∧ (ls.getD 5 false = true → v12 = .pointer (some ⟨w.heap.size + 1, 1, none⟩)) ∧ (ls.getD 6 false = true → v13 = .int .i64 x1) ∧ (ls.getD 7 false = true → v14 = .agg #[.int .i64 s1, .int .i64 s2, .bool s3]) ∧ (ls.getD 8 false = true → v15 = .agg #[.int .i64 mn, .int .i64 mx, .int .i64 g]) ∧ (ls.getD 9 false = true → v16 = .pointer (some ⟨w.heap.size + 1, 2, none⟩)) ∧ (ls.getD 10 false = true → v17 = .int .i64 x2) ∧ (ls.getD 11 false = true → v18 = .pointer (some ⟨w.heap.size + 1 + 1, 1, none⟩)) ∧ (ls.getD 12 false = true → v19 = .int .i64 c1) ∧ (ls.getD 13 false = true → v20 = .pointer (some ⟨w.heap.size + 1, 3, none⟩)) ∧ (ls.getD 14 false = true → v21 = .int .i64 x3) ∧ (ls.getD 15 false = true → v22 = .agg #[.int .i64 r1, .int .i64 r2, .bool r3]) ∧ (ls.getD 16 false = true → v23 = .agg #[.int .i64 y1, .int .i64 y2, .bool y3]) ∧ (ls.getD 2 false = true → ls.getD 1 false = true ∧ True) ∧ (ls.getD 4 false = true → ls.getD 3 false = true ∧ True) ∧ (ls.getD 6 false = true → ls.getD 5 false = true ∧ True) ∧ (ls.getD 7 false = true → ls.getD 0 false = true ∧ ls.getD 2 false = true ∧ ls.getD 4 false = true ∧ ls.getD 6 false = true ∧ True) ∧ (ls.getD 10 false = true → ls.getD 9 false = true ∧ True) ∧ (ls.getD 12 false = true → ls.getD 11 false = true ∧ True) ∧ (ls.getD 14 false = true → ls.getD 13 false = true ∧ True) ∧ (ls.getD 15 false = true → ls.getD 8 false = true ∧ ls.getD 10 false = true ∧ ls.getD 12 false = true ∧ ls.getD 14 false = true ∧ True) ∧ (ls.getD 16 false = true → ls.getD 7 false = true ∧ ls.getD 15 false = true ∧ True) ∧ (ls.getD 17 false = true → Below w.heap.size z w' ∧ SpanAt w' (w.heap.size + 1 + 1 + 1) y1 y2 y3) ∧ (ls.getD 17 false = true → ∀ i, i < 18 → ls.getD i false = true)) ?_ ?_ ?_
  · exact ⟨_, _, _, _, _, _, _, _, _, _, _, _, _, _, _, _, _, rfl, rfl, fun _ => bdrew (brefl _), fun h => (by cases h), fun h => (by cases h), fun h => (by cases h), fun h => (by cases h), fun h => (by cases h), fun h => (by cases h), fun h => (by cases h), fun h => (by cases h), fun h => (by cases h), fun h => (by cases h), fun h => (by cases h), fun h => (by cases h), fun h => (by cases h), fun h => (by cases h), fun h => (by cases h), fun h => (by cases h), fun h => (by cases h), fun h => (by cases h), fun h => (by cases h), fun h => (by cases h), fun h => (by cases h), fun h => (by cases h), fun h => (by cases h), fun h => (by cases h), fun h => (by cases h), fun h => (by cases h), fun h => (by cases h), fun h => (by cases h)⟩
  · intro i hii
    have hin : i < 18 := hii
    have hor : i = 0 ∨ i = 1 ∨ i = 2 ∨ i = 3 ∨ i = 4 ∨ i = 5 ∨ i = 6 ∨ i = 7 ∨ i = 8 ∨ i = 9 ∨ i = 10 ∨ i = 11 ∨ i = 12 ∨ i = 13 ∨ i = 14 ∨ i = 15 ∨ i = 16 ∨ i = 17 := (by decide : ∀ i : Nat, i < 18 → (i = 0 ∨ i = 1 ∨ i = 2 ∨ i = 3 ∨ i = 4 ∨ i = 5 ∨ i = 6 ∨ i = 7 ∨ i = 8 ∨ i = 9 ∨ i = 10 ∨ i = 11 ∨ i = 12 ∨ i = 13 ∨ i = 14 ∨ i = 15 ∨ i = 16 ∨ i = 17)) i hin
    rcases hor with rfl | rfl | rfl | rfl | rfl | rfl | rfl | rfl | rfl | rfl | rfl | rfl | rfl | rfl | rfl | rfl | rfl | rfl
    · rintro ls ac w' hr ⟨v7, v8, v9, v10, v11, v12, v13, v14, v15, v16, v17, v18, v19, v20, v21, v22, v23, rfl, hl, hB', zg0, zg1, zg2, zg3, zg4, zg5, zg6, zg7, zg8, zg9, zg10, zg11, zg12, zg13, zg14, zg15, zg16, zc2, zc4, zc6, zc7, zc10, zc12, zc14, zc15, zc16, hS, hK⟩
      have hs0 : ls.getD 17 false = false := by cases hc : ls.getD 17 false with | false => rfl | true => (exfalso; have hz := hK hc 0 (by decide); have hn := (ready_dep hr rfl).1; rw [getD_both hz] at hn; cases hn)
      have hB := hB' hs0
      have a0 := (hB.cell (ltc cB0_0)).trans cB0_0
      have a1 := (hB.cell (ltc cB0_1)).trans cB0_1
      have a2 := (hB.cell (ltc cB0_2)).trans cB0_2
      refine wpOp_step rfl (fun K hK => ?_)
      clear hr
      go_simp
      refine hK _ _ ?_
      simp only [getD_own (l := ls) (i := 0) (by omega), gq 0 1, gq 0 2, gq 0 3, gq 0 4, gq 0 5, gq 0 6, gq 0 7, gq 0 8, gq 0 9, gq 0 10, gq 0 11, gq 0 12, gq 0 13, gq 0 14, gq 0 15, gq 0 16, gq 0 17]
      exact ⟨_, v8, v9, v10, v11, v12, v13, v14, v15, v16, v17, v18, v19, v20, v21, v22, v23, rfl, by simp [hl], fun _ => hB, fun _ => rfl, zg1, zg2, zg3, zg4, zg5, zg6, zg7, zg8, zg9, zg10, zg11, zg12, zg13, zg14, zg15, zg16, zc2, zc4, zc6, fun h => ⟨(by first | rfl | trivial), (zc7 h).2.1, (zc7 h).2.2.1, (zc7 h).2.2.2.1, trivial⟩, zc10, zc12, zc14, zc15, zc16, fun h => (by rw [hs0] at h; cases h), fun h => (by rw [hs0] at h; cases h)⟩
    · rintro ls ac w' hr ⟨v7, v8, v9, v10, v11, v12, v13, v14, v15, v16, v17, v18, v19, v20, v21, v22, v23, rfl, hl, hB', zg0, zg1, zg2, zg3, zg4, zg5, zg6, zg7, zg8, zg9, zg10, zg11, zg12, zg13, zg14, zg15, zg16, zc2, zc4, zc6, zc7, zc10, zc12, zc14, zc15, zc16, hS, hK⟩
      have hs0 : ls.getD 17 false = false := by cases hc : ls.getD 17 false with | false => rfl | true => (exfalso; have hz := hK hc 1 (by decide); have hn := (ready_dep hr rfl).1; rw [getD_both hz] at hn; cases hn)
      have hB := hB' hs0
      refine wpOp_step rfl (fun K hK => ?_)
      clear hr
      go_simp
      refine hK _ _ ?_
      simp only [getD_own (l := ls) (i := 1) (by omega), gq 1 0, gq 1 2, gq 1 3, gq 1 4, gq 1 5, gq 1 6, gq 1 7, gq 1 8, gq 1 9, gq 1 10, gq 1 11, gq 1 12, gq 1 13, gq 1 14, gq 1 15, gq 1 16, gq 1 17]
      exact ⟨v7, _, v9, v10, v11, v12, v13, v14, v15, v16, v17, v18, v19, v20, v21, v22, v23, rfl, by simp [hl], fun _ => hB, zg0, fun _ => rfl, zg2, zg3, zg4, zg5, zg6, zg7, zg8, zg9, zg10, zg11, zg12, zg13, zg14, zg15, zg16, fun h => ⟨(by first | rfl | trivial), trivial⟩, zc4, zc6, zc7, zc10, zc12, zc14, zc15, zc16, fun h => (by rw [hs0] at h; cases h), fun h => (by rw [hs0] at h; cases h)⟩
    · rintro ls ac w' hr ⟨v7, v8, v9, v10, v11, v12, v13, v14, v15, v16, v17, v18, v19, v20, v21, v22, v23, rfl, hl, hB', zg0, zg1, zg2, zg3, zg4, zg5, zg6, zg7, zg8, zg9, zg10, zg11, zg12, zg13, zg14, zg15, zg16, zc2, zc4, zc6, zc7, zc10, zc12, zc14, zc15, zc16, hS, hK⟩
      have zd1 := rdd hr 1
      have hs0 : ls.getD 17 false = false := by cases hc : ls.getD 17 false with | false => rfl | true => (exfalso; have hz := hK hc 2 (by decide); have hn := (ready_dep hr rfl).1; rw [getD_both hz] at hn; cases hn)
      have hB := hB' hs0
      obtain rfl := zg1 zd1
      have a3 := (hB.cell (ltc cB1_0)).trans cB1_0
      refine wpOp_step rfl (fun K hK => ?_)
      clear hr
      go_simp
      refine hK _ _ ?_
      simp only [getD_own (l := ls) (i := 2) (by omega), gq 2 0, gq 2 1, gq 2 3, gq 2 4, gq 2 5, gq 2 6, gq 2 7, gq 2 8, gq 2 9, gq 2 10, gq 2 11, gq 2 12, gq 2 13, gq 2 14, gq 2 15, gq 2 16, gq 2 17]
      exact ⟨v7, _, _, v10, v11, v12, v13, v14, v15, v16, v17, v18, v19, v20, v21, v22, v23, rfl, by simp [hl], fun _ => hB, zg0, fun _ => rfl, fun _ => rfl, zg3, zg4, zg5, zg6, zg7, zg8, zg9, zg10, zg11, zg12, zg13, zg14, zg15, zg16, fun _ => ⟨zd1, trivial⟩, zc4, zc6, fun h => ⟨(zc7 h).1, (by first | rfl | trivial), (zc7 h).2.2.1, (zc7 h).2.2.2.1, trivial⟩, zc10, zc12, zc14, zc15, zc16, fun h => (by rw [hs0] at h; cases h), fun h => (by rw [hs0] at h; cases h)⟩
    · rintro ls ac w' hr ⟨v7, v8, v9, v10, v11, v12, v13, v14, v15, v16, v17, v18, v19, v20, v21, v22, v23, rfl, hl, hB', zg0, zg1, zg2, zg3, zg4, zg5, zg6, zg7, zg8, zg9, zg10, zg11, zg12, zg13, zg14, zg15, zg16, zc2, zc4, zc6, zc7, zc10, zc12, zc14, zc15, zc16, hS, hK⟩
      have hs0 : ls.getD 17 false = false := by cases hc : ls.getD 17 false with | false => rfl | true => (exfalso; have hz := hK hc 3 (by decide); have hn := (ready_dep hr rfl).1; rw [getD_both hz] at hn; cases hn)
      have hB := hB' hs0
      refine wpOp_step rfl (fun K hK => ?_)
      clear hr
      go_simp
      refine hK _ _ ?_
      simp only [getD_own (l := ls) (i := 3) (by omega), gq 3 0, gq 3 1, gq 3 2, gq 3 4, gq 3 5, gq 3 6, gq 3 7, gq 3 8, gq 3 9, gq 3 10, gq 3 11, gq 3 12, gq 3 13, gq 3 14, gq 3 15, gq 3 16, gq 3 17]
      exact ⟨v7, v8, v9, _, v11, v12, v13, v14, v15, v16, v17, v18, v19, v20, v21, v22, v23, rfl, by simp [hl], fun _ => hB, zg0, zg1, zg2, fun _ => rfl, zg4, zg5, zg6, zg7, zg8, zg9, zg10, zg11, zg12, zg13, zg14, zg15, zg16, zc2, fun h => ⟨(by first | rfl | trivial), trivial⟩, zc6, zc7, zc10, zc12, zc14, zc15, zc16, fun h => (by rw [hs0] at h; cases h), fun h => (by rw [hs0] at h; cases h)⟩
    · rintro ls ac w' hr ⟨v7, v8, v9, v10, v11, v12, v13, v14, v15, v16, v17, v18, v19, v20, v21, v22, v23, rfl, hl, hB', zg0, zg1, zg2, zg3, zg4, zg5, zg6, zg7, zg8, zg9, zg10, zg11, zg12, zg13, zg14, zg15, zg16, zc2, zc4, zc6, zc7, zc10, zc12, zc14, zc15, zc16, hS, hK⟩
      have zd3 := rdd hr 3
      have hs0 : ls.getD 17 false = false := by cases hc : ls.getD 17 false with | false => rfl | true => (exfalso; have hz := hK hc 4 (by decide); have hn := (ready_dep hr rfl).1; rw [getD_both hz] at hn; cases hn)
      have hB := hB' hs0
      obtain rfl := zg3 zd3
      have a7 := (hB.cell (ltc cB2_0)).trans cB2_0
      refine wpOp_step rfl (fun K hK => ?_)
      clear hr
      go_simp
      refine hK _ _ ?_
      simp only [getD_own (l := ls) (i := 4) (by omega), gq 4 0, gq 4 1, gq 4 2, gq 4 3, gq 4 5, gq 4 6, gq 4 7, gq 4 8, gq 4 9, gq 4 10, gq 4 11, gq 4 12, gq 4 13, gq 4 14, gq 4 15, gq 4 16, gq 4 17]
      exact ⟨v7, v8, v9, _, _, v12, v13, v14, v15, v16, v17, v18, v19, v20, v21, v22, v23, rfl, by simp [hl], fun _ => hB, zg0, zg1, zg2, fun _ => rfl, fun _ => rfl, zg5, zg6, zg7, zg8, zg9, zg10, zg11, zg12, zg13, zg14, zg15, zg16, zc2, fun _ => ⟨zd3, trivial⟩, zc6, fun h => ⟨(zc7 h).1, (zc7 h).2.1, (by first | rfl | trivial), (zc7 h).2.2.2.1, trivial⟩, zc10, zc12, zc14, zc15, zc16, fun h => (by rw [hs0] at h; cases h), fun h => (by rw [hs0] at h; cases h)⟩
    · rintro ls ac w' hr ⟨v7, v8, v9, v10, v11, v12, v13, v14, v15, v16, v17, v18, v19, v20, v21, v22, v23, rfl, hl, hB', zg0, zg1, zg2, zg3, zg4, zg5, zg6, zg7, zg8, zg9, zg10, zg11, zg12, zg13, zg14, zg15, zg16, zc2, zc4, zc6, zc7, zc10, zc12, zc14, zc15, zc16, hS, hK⟩
      have hs0 : ls.getD 17 false = false := by cases hc : ls.getD 17 false with | false => rfl | true => (exfalso; have hz := hK hc 5 (by decide); have hn := (ready_dep hr rfl).1; rw [getD_both hz] at hn; cases hn)
      have hB := hB' hs0
      refine wpOp_step rfl (fun K hK => ?_)
      clear hr
      go_simp
      refine hK _ _ ?_
      simp only [getD_own (l := ls) (i := 5) (by omega), gq 5 0, gq 5 1, gq 5 2, gq 5 3, gq 5 4, gq 5 6, gq 5 7, gq 5 8, gq 5 9, gq 5 10, gq 5 11, gq 5 12, gq 5 13, gq 5 14, gq 5 15, gq 5 16, gq 5 17]
      exact ⟨v7, v8, v9, v10, v11, _, v13, v14, v15, v16, v17, v18, v19, v20, v21, v22, v23, rfl, by simp [hl], fun _ => hB, zg0, zg1, zg2, zg3, zg4, fun _ => rfl, zg6, zg7, zg8, zg9, zg10, zg11, zg12, zg13, zg14, zg15, zg16, zc2, zc4, fun h => ⟨(by first | rfl | trivial), trivial⟩, zc7, zc10, zc12, zc14, zc15, zc16, fun h => (by rw [hs0] at h; cases h), fun h => (by rw [hs0] at h; cases h)⟩
    · rintro ls ac w' hr ⟨v7, v8, v9, v10, v11, v12, v13, v14, v15, v16, v17, v18, v19, v20, v21, v22, v23, rfl, hl, hB', zg0, zg1, zg2, zg3, zg4, zg5, zg6, zg7, zg8, zg9, zg10, zg11, zg12, zg13, zg14, zg15, zg16, zc2, zc4, zc6, zc7, zc10, zc12, zc14, zc15, zc16, hS, hK⟩
      have zd5 := rdd hr 5
      have hs0 : ls.getD 17 false = false := by cases hc : ls.getD 17 false with | false => rfl | true => (exfalso; have hz := hK hc 6 (by decide); have hn := (ready_dep hr rfl).1; rw [getD_both hz] at hn; cases hn)
      have hB := hB' hs0
      obtain rfl := zg5 zd5
      have a4 := (hB.cell (ltc cB1_1)).trans cB1_1
      refine wpOp_step rfl (fun K hK => ?_)
      clear hr
      go_simp
      refine hK _ _ ?_
      simp only [getD_own (l := ls) (i := 6) (by omega), gq 6 0, gq 6 1, gq 6 2, gq 6 3, gq 6 4, gq 6 5, gq 6 7, gq 6 8, gq 6 9, gq 6 10, gq 6 11, gq 6 12, gq 6 13, gq 6 14, gq 6 15, gq 6 16, gq 6 17]
      exact ⟨v7, v8, v9, v10, v11, _, _, v14, v15, v16, v17, v18, v19, v20, v21, v22, v23, rfl, by simp [hl], fun _ => hB, zg0, zg1, zg2, zg3, zg4, fun _ => rfl, fun _ => rfl, zg7, zg8, zg9, zg10, zg11, zg12, zg13, zg14, zg15, zg16, zc2, zc4, fun _ => ⟨zd5, trivial⟩, fun h => ⟨(zc7 h).1, (zc7 h).2.1, (zc7 h).2.2.1, (by first | rfl | trivial), trivial⟩, zc10, zc12, zc14, zc15, zc16, fun h => (by rw [hs0] at h; cases h), fun h => (by rw [hs0] at h; cases h)⟩
    · rintro ls ac w' hr ⟨v7, v8, v9, v10, v11, v12, v13, v14, v15, v16, v17, v18, v19, v20, v21, v22, v23, rfl, hl, hB', zg0, zg1, zg2, zg3, zg4, zg5, zg6, zg7, zg8, zg9, zg10, zg11, zg12, zg13, zg14, zg15, zg16, zc2, zc4, zc6, zc7, zc10, zc12, zc14, zc15, zc16, hS, hK⟩
      have zd0 := rdd hr 0
      have zd2 := rdd hr 2
      have zd4 := rdd hr 4
      have zd6 := rdd hr 6
      have zd1 := (zc2 zd2).1
      have zd3 := (zc4 zd4).1
      have zd5 := (zc6 zd6).1
      have hs0 : ls.getD 17 false = false := by cases hc : ls.getD 17 false with | false => rfl | true => (exfalso; have hz := hK hc 7 (by decide); have hn := (ready_dep hr rfl).1; rw [getD_both hz] at hn; cases hn)
      have hB := hB' hs0
      obtain rfl := zg0 zd0
      obtain rfl := zg2 zd2
      obtain rfl := zg4 zd4
      obtain rfl := zg6 zd6
      obtain rfl := zg1 zd1
      obtain rfl := zg3 zd3
      obtain rfl := zg5 zd5
      refine wpOp_step rfl (fun K hK => ?_)
      clear hr
      go_simp
      refine (rSync_is _ _ _ _ _ _ _ _ _ hc0 Hs _).mono ?_
      rintro e w1 ⟨rfl, hk⟩
      dsimp only
      refine hK _ _ ?_
      simp only [getD_own (l := ls) (i := 7) (by omega), gq 7 0, gq 7 1, gq 7 2, gq 7 3, gq 7 4, gq 7 5, gq 7 6, gq 7 8, gq 7 9, gq 7 10, gq 7 11, gq 7 12, gq 7 13, gq 7 14, gq 7 15, gq 7 16, gq 7 17]
      exact ⟨_, _, _, _, _, _, _, _, v15, v16, v17, v18, v19, v20, v21, v22, v23, rfl, by simp [hl], fun _ => bstep hB hk, fun _ => rfl, fun _ => rfl, fun _ => rfl, fun _ => rfl, fun _ => rfl, fun _ => rfl, fun _ => rfl, fun _ => rfl, zg8, zg9, zg10, zg11, zg12, zg13, zg14, zg15, zg16, zc2, zc4, zc6, fun _ => ⟨zd0, zd2, zd4, zd6, trivial⟩, zc10, zc12, zc14, zc15, fun h => ⟨(by first | rfl | trivial), (zc16 h).2.1, trivial⟩, fun h => (by rw [hs0] at h; cases h), fun h => (by rw [hs0] at h; cases h)⟩
    · rintro ls ac w' hr ⟨v7, v8, v9, v10, v11, v12, v13, v14, v15, v16, v17, v18, v19, v20, v21, v22, v23, rfl, hl, hB', zg0, zg1, zg2, zg3, zg4, zg5, zg6, zg7, zg8, zg9, zg10, zg11, zg12, zg13, zg14, zg15, zg16, zc2, zc4, zc6, zc7, zc10, zc12, zc14, zc15, zc16, hS, hK⟩
      have hs0 : ls.getD 17 false = false := by cases hc : ls.getD 17 false with | false => rfl | true => (exfalso; have hz := hK hc 8 (by decide); have hn := (ready_dep hr rfl).1; rw [getD_both hz] at hn; cases hn)
      have hB := hB' hs0
      have a0 := (hB.cell (ltc cB0_0)).trans cB0_0
      have a1 := (hB.cell (ltc cB0_1)).trans cB0_1
      have a2 := (hB.cell (ltc cB0_2)).trans cB0_2
      refine wpOp_step rfl (fun K hK => ?_)
      clear hr
      go_simp
      refine hK _ _ ?_
      simp only [getD_own (l := ls) (i := 8) (by omega), gq 8 0, gq 8 1, gq 8 2, gq 8 3, gq 8 4, gq 8 5, gq 8 6, gq 8 7, gq 8 9, gq 8 10, gq 8 11, gq 8 12, gq 8 13, gq 8 14, gq 8 15, gq 8 16, gq 8 17]
      exact ⟨v7, v8, v9, v10, v11, v12, v13, v14, _, v16, v17, v18, v19, v20, v21, v22, v23, rfl, by simp [hl], fun _ => hB, zg0, zg1, zg2, zg3, zg4, zg5, zg6, zg7, fun _ => rfl, zg9, zg10, zg11, zg12, zg13, zg14, zg15, zg16, zc2, zc4, zc6, zc7, zc10, zc12, zc14, fun h => ⟨(by first | rfl | trivial), (zc15 h).2.1, (zc15 h).2.2.1, (zc15 h).2.2.2.1, trivial⟩, zc16, fun h => (by rw [hs0] at h; cases h), fun h => (by rw [hs0] at h; cases h)⟩
    · rintro ls ac w' hr ⟨v7, v8, v9, v10, v11, v12, v13, v14, v15, v16, v17, v18, v19, v20, v21, v22, v23, rfl, hl, hB', zg0, zg1, zg2, zg3, zg4, zg5, zg6, zg7, zg8, zg9, zg10, zg11, zg12, zg13, zg14, zg15, zg16, zc2, zc4, zc6, zc7, zc10, zc12, zc14, zc15, zc16, hS, hK⟩
      have hs0 : ls.getD 17 false = false := by cases hc : ls.getD 17 false with | false => rfl | true => (exfalso; have hz := hK hc 9 (by decide); have hn := (ready_dep hr rfl).1; rw [getD_both hz] at hn; cases hn)
      have hB := hB' hs0
      refine wpOp_step rfl (fun K hK => ?_)
      clear hr
      go_simp
      refine hK _ _ ?_
      simp only [getD_own (l := ls) (i := 9) (by omega), gq 9 0, gq 9 1, gq 9 2, gq 9 3, gq 9 4, gq 9 5, gq 9 6, gq 9 7, gq 9 8, gq 9 10, gq 9 11, gq 9 12, gq 9 13, gq 9 14, gq 9 15, gq 9 16, gq 9 17]
      exact ⟨v7, v8, v9, v10, v11, v12, v13, v14, v15, _, v17, v18, v19, v20, v21, v22, v23, rfl, by simp [hl], fun _ => hB, zg0, zg1, zg2, zg3, zg4, zg5, zg6, zg7, zg8, fun _ => rfl, zg10, zg11, zg12, zg13, zg14, zg15, zg16, zc2, zc4, zc6, zc7, fun h => ⟨(by first | rfl | trivial), trivial⟩, zc12, zc14, zc15, zc16, fun h => (by rw [hs0] at h; cases h), fun h => (by rw [hs0] at h; cases h)⟩
    · rintro ls ac w' hr ⟨v7, v8, v9, v10, v11, v12, v13, v14, v15, v16, v17, v18, v19, v20, v21, v22, v23, rfl, hl, hB', zg0, zg1, zg2, zg3, zg4, zg5, zg6, zg7, zg8, zg9, zg10, zg11, zg12, zg13, zg14, zg15, zg16, zc2, zc4, zc6, zc7, zc10, zc12, zc14, zc15, zc16, hS, hK⟩
      have zd9 := rdd hr 9
      have hs0 : ls.getD 17 false = false := by cases hc : ls.getD 17 false with | false => rfl | true => (exfalso; have hz := hK hc 10 (by decide); have hn := (ready_dep hr rfl).1; rw [getD_both hz] at hn; cases hn)
      have hB := hB' hs0
      obtain rfl := zg9 zd9
      have a5 := (hB.cell (ltc cB1_2)).trans cB1_2
      refine wpOp_step rfl (fun K hK => ?_)
      clear hr
      go_simp
      refine hK _ _ ?_
      simp only [getD_own (l := ls) (i := 10) (by omega), gq 10 0, gq 10 1, gq 10 2, gq 10 3, gq 10 4, gq 10 5, gq 10 6, gq 10 7, gq 10 8, gq 10 9, gq 10 11, gq 10 12, gq 10 13, gq 10 14, gq 10 15, gq 10 16, gq 10 17]
      exact ⟨v7, v8, v9, v10, v11, v12, v13, v14, v15, _, _, v18, v19, v20, v21, v22, v23, rfl, by simp [hl], fun _ => hB, zg0, zg1, zg2, zg3, zg4, zg5, zg6, zg7, zg8, fun _ => rfl, fun _ => rfl, zg11, zg12, zg13, zg14, zg15, zg16, zc2, zc4, zc6, zc7, fun _ => ⟨zd9, trivial⟩, zc12, zc14, fun h => ⟨(zc15 h).1, (by first | rfl | trivial), (zc15 h).2.2.1, (zc15 h).2.2.2.1, trivial⟩, zc16, fun h => (by rw [hs0] at h; cases h), fun h => (by rw [hs0] at h; cases h)⟩
    · rintro ls ac w' hr ⟨v7, v8, v9, v10, v11, v12, v13, v14, v15, v16, v17, v18, v19, v20, v21, v22, v23, rfl, hl, hB', zg0, zg1, zg2, zg3, zg4, zg5, zg6, zg7, zg8, zg9, zg10, zg11, zg12, zg13, zg14, zg15, zg16, zc2, zc4, zc6, zc7, zc10, zc12, zc14, zc15, zc16, hS, hK⟩
      have hs0 : ls.getD 17 false = false := by cases hc : ls.getD 17 false with | false => rfl | true => (exfalso; have hz := hK hc 11 (by decide); have hn := (ready_dep hr rfl).1; rw [getD_both hz] at hn; cases hn)
      have hB := hB' hs0
      refine wpOp_step rfl (fun K hK => ?_)
      clear hr
      go_simp
      refine hK _ _ ?_
      simp only [getD_own (l := ls) (i := 11) (by omega), gq 11 0, gq 11 1, gq 11 2, gq 11 3, gq 11 4, gq 11 5, gq 11 6, gq 11 7, gq 11 8, gq 11 9, gq 11 10, gq 11 12, gq 11 13, gq 11 14, gq 11 15, gq 11 16, gq 11 17]
      exact ⟨v7, v8, v9, v10, v11, v12, v13, v14, v15, v16, v17, _, v19, v20, v21, v22, v23, rfl, by simp [hl], fun _ => hB, zg0, zg1, zg2, zg3, zg4, zg5, zg6, zg7, zg8, zg9, zg10, fun _ => rfl, zg12, zg13, zg14, zg15, zg16, zc2, zc4, zc6, zc7, zc10, fun h => ⟨(by first | rfl | trivial), trivial⟩, zc14, zc15, zc16, fun h => (by rw [hs0] at h; cases h), fun h => (by rw [hs0] at h; cases h)⟩
    · rintro ls ac w' hr ⟨v7, v8, v9, v10, v11, v12, v13, v14, v15, v16, v17, v18, v19, v20, v21, v22, v23, rfl, hl, hB', zg0, zg1, zg2, zg3, zg4, zg5, zg6, zg7, zg8, zg9, zg10, zg11, zg12, zg13, zg14, zg15, zg16, zc2, zc4, zc6, zc7, zc10, zc12, zc14, zc15, zc16, hS, hK⟩
      have zd11 := rdd hr 11
      have hs0 : ls.getD 17 false = false := by cases hc : ls.getD 17 false with | false => rfl | true => (exfalso; have hz := hK hc 12 (by decide); have hn := (ready_dep hr rfl).1; rw [getD_both hz] at hn; cases hn)
      have hB := hB' hs0
      obtain rfl := zg11 zd11
      have a8 := (hB.cell (ltc cB2_1)).trans cB2_1
      refine wpOp_step rfl (fun K hK => ?_)
      clear hr
      go_simp
      refine hK _ _ ?_
      simp only [getD_own (l := ls) (i := 12) (by omega), gq 12 0, gq 12 1, gq 12 2, gq 12 3, gq 12 4, gq 12 5, gq 12 6, gq 12 7, gq 12 8, gq 12 9, gq 12 10, gq 12 11, gq 12 13, gq 12 14, gq 12 15, gq 12 16, gq 12 17]
      exact ⟨v7, v8, v9, v10, v11, v12, v13, v14, v15, v16, v17, _, _, v20, v21, v22, v23, rfl, by simp [hl], fun _ => hB, zg0, zg1, zg2, zg3, zg4, zg5, zg6, zg7, zg8, zg9, zg10, fun _ => rfl, fun _ => rfl, zg13, zg14, zg15, zg16, zc2, zc4, zc6, zc7, zc10, fun _ => ⟨zd11, trivial⟩, zc14, fun h => ⟨(zc15 h).1, (zc15 h).2.1, (by first | rfl | trivial), (zc15 h).2.2.2.1, trivial⟩, zc16, fun h => (by rw [hs0] at h; cases h), fun h => (by rw [hs0] at h; cases h)⟩
    · rintro ls ac w' hr ⟨v7, v8, v9, v10, v11, v12, v13, v14, v15, v16, v17, v18, v19, v20, v21, v22, v23, rfl, hl, hB', zg0, zg1, zg2, zg3, zg4, zg5, zg6, zg7, zg8, zg9, zg10, zg11, zg12, zg13, zg14, zg15, zg16, zc2, zc4, zc6, zc7, zc10, zc12, zc14, zc15, zc16, hS, hK⟩
      have hs0 : ls.getD 17 false = false := by cases hc : ls.getD 17 false with | false => rfl | true => (exfalso; have hz := hK hc 13 (by decide); have hn := (ready_dep hr rfl).1; rw [getD_both hz] at hn; cases hn)
      have hB := hB' hs0
      refine wpOp_step rfl (fun K hK => ?_)
      clear hr
      go_simp
      refine hK _ _ ?_
      simp only [getD_own (l := ls) (i := 13) (by omega), gq 13 0, gq 13 1, gq 13 2, gq 13 3, gq 13 4, gq 13 5, gq 13 6, gq 13 7, gq 13 8, gq 13 9, gq 13 10, gq 13 11, gq 13 12, gq 13 14, gq 13 15, gq 13 16, gq 13 17]
      exact ⟨v7, v8, v9, v10, v11, v12, v13, v14, v15, v16, v17, v18, v19, _, v21, v22, v23, rfl, by simp [hl], fun _ => hB, zg0, zg1, zg2, zg3, zg4, zg5, zg6, zg7, zg8, zg9, zg10, zg11, zg12, fun _ => rfl, zg14, zg15, zg16, zc2, zc4, zc6, zc7, zc10, zc12, fun h => ⟨(by first | rfl | trivial), trivial⟩, zc15, zc16, fun h => (by rw [hs0] at h; cases h), fun h => (by rw [hs0] at h; cases h)⟩
    · rintro ls ac w' hr ⟨v7, v8, v9, v10, v11, v12, v13, v14, v15, v16, v17, v18, v19, v20, v21, v22, v23, rfl, hl, hB', zg0, zg1, zg2, zg3, zg4, zg5, zg6, zg7, zg8, zg9, zg10, zg11, zg12, zg13, zg14, zg15, zg16, zc2, zc4, zc6, zc7, zc10, zc12, zc14, zc15, zc16, hS, hK⟩
      have zd13 := rdd hr 13
      have hs0 : ls.getD 17 false = false := by cases hc : ls.getD 17 false with | false => rfl | true => (exfalso; have hz := hK hc 14 (by decide); have hn := (ready_dep hr rfl).1; rw [getD_both hz] at hn; cases hn)
      have hB := hB' hs0
      obtain rfl := zg13 zd13
      have a6 := (hB.cell (ltc cB1_3)).trans cB1_3
      refine wpOp_step rfl (fun K hK => ?_)
      clear hr
      go_simp
      refine hK _ _ ?_
      simp only [getD_own (l := ls) (i := 14) (by omega), gq 14 0, gq 14 1, gq 14 2, gq 14 3, gq 14 4, gq 14 5, gq 14 6, gq 14 7, gq 14 8, gq 14 9, gq 14 10, gq 14 11, gq 14 12, gq 14 13, gq 14 15, gq 14 16, gq 14 17]
      exact ⟨v7, v8, v9, v10, v11, v12, v13, v14, v15, v16, v17, v18, v19, _, _, v22, v23, rfl, by simp [hl], fun _ => hB, zg0, zg1, zg2, zg3, zg4, zg5, zg6, zg7, zg8, zg9, zg10, zg11, zg12, fun _ => rfl, fun _ => rfl, zg15, zg16, zc2, zc4, zc6, zc7, zc10, zc12, fun _ => ⟨zd13, trivial⟩, fun h => ⟨(zc15 h).1, (zc15 h).2.1, (zc15 h).2.2.1, (by first | rfl | trivial), trivial⟩, zc16, fun h => (by rw [hs0] at h; cases h), fun h => (by rw [hs0] at h; cases h)⟩
    · rintro ls ac w' hr ⟨v7, v8, v9, v10, v11, v12, v13, v14, v15, v16, v17, v18, v19, v20, v21, v22, v23, rfl, hl, hB', zg0, zg1, zg2, zg3, zg4, zg5, zg6, zg7, zg8, zg9, zg10, zg11, zg12, zg13, zg14, zg15, zg16, zc2, zc4, zc6, zc7, zc10, zc12, zc14, zc15, zc16, hS, hK⟩
      have zd8 := rdd hr 8
      have zd10 := rdd hr 10
      have zd12 := rdd hr 12
      have zd14 := rdd hr 14
      have zd9 := (zc10 zd10).1
      have zd11 := (zc12 zd12).1
      have zd13 := (zc14 zd14).1
      have hs0 : ls.getD 17 false = false := by cases hc : ls.getD 17 false with | false => rfl | true => (exfalso; have hz := hK hc 15 (by decide); have hn := (ready_dep hr rfl).1; rw [getD_both hz] at hn; cases hn)
      have hB := hB' hs0
      obtain rfl := zg8 zd8
      obtain rfl := zg10 zd10
      obtain rfl := zg12 zd12
      obtain rfl := zg14 zd14
      obtain rfl := zg9 zd9
      obtain rfl := zg11 zd11
      obtain rfl := zg13 zd13
      refine wpOp_step rfl (fun K hK => ?_)
      clear hr
      go_simp
      refine (rReq_is _ _ _ _ _ _ _ _ _ hc1 Hr _).mono ?_
      rintro e w1 ⟨rfl, hk⟩
      dsimp only
      refine hK _ _ ?_
      simp only [getD_own (l := ls) (i := 15) (by omega), gq 15 0, gq 15 1, gq 15 2, gq 15 3, gq 15 4, gq 15 5, gq 15 6, gq 15 7, gq 15 8, gq 15 9, gq 15 10, gq 15 11, gq 15 12, gq 15 13, gq 15 14, gq 15 16, gq 15 17]
      exact ⟨v7, v8, v9, v10, v11, v12, v13, v14, _, _, _, _, _, _, _, _, v23, rfl, by simp [hl], fun _ => bstep hB hk, zg0, zg1, zg2, zg3, zg4, zg5, zg6, zg7, fun _ => rfl, fun _ => rfl, fun _ => rfl, fun _ => rfl, fun _ => rfl, fun _ => rfl, fun _ => rfl, fun _ => rfl, zg16, zc2, zc4, zc6, zc7, zc10, zc12, zc14, fun _ => ⟨zd8, zd10, zd12, zd14, trivial⟩, fun h => ⟨(zc16 h).1, (by first | rfl | trivial), trivial⟩, fun h => (by rw [hs0] at h; cases h), fun h => (by rw [hs0] at h; cases h)⟩
    · rintro ls ac w' hr ⟨v7, v8, v9, v10, v11, v12, v13, v14, v15, v16, v17, v18, v19, v20, v21, v22, v23, rfl, hl, hB', zg0, zg1, zg2, zg3, zg4, zg5, zg6, zg7, zg8, zg9, zg10, zg11, zg12, zg13, zg14, zg15, zg16, zc2, zc4, zc6, zc7, zc10, zc12, zc14, zc15, zc16, hS, hK⟩
      have zd7 := rdd hr 7
      have zd15 := rdd hr 15
      have zd0 := (zc7 zd7).1
      have zd2 := (zc7 zd7).2.1
      have zd4 := (zc7 zd7).2.2.1
      have zd6 := (zc7 zd7).2.2.2.1
      have zd8 := (zc15 zd15).1
      have zd10 := (zc15 zd15).2.1
      have zd12 := (zc15 zd15).2.2.1
      have zd14 := (zc15 zd15).2.2.2.1
      have zd1 := (zc2 zd2).1
      have zd3 := (zc4 zd4).1
      have zd5 := (zc6 zd6).1
      have zd9 := (zc10 zd10).1
      have zd11 := (zc12 zd12).1
      have zd13 := (zc14 zd14).1
      have hs0 : ls.getD 17 false = false := by cases hc : ls.getD 17 false with | false => rfl | true => (exfalso; have hz := hK hc 16 (by decide); have hn := (ready_dep hr rfl).1; rw [getD_both hz] at hn; cases hn)
      have hB := hB' hs0
      obtain rfl := zg7 zd7
      obtain rfl := zg15 zd15
      obtain rfl := zg0 zd0
      obtain rfl := zg2 zd2
      obtain rfl := zg4 zd4
      obtain rfl := zg6 zd6
      obtain rfl := zg8 zd8
      obtain rfl := zg10 zd10
      obtain rfl := zg12 zd12
      obtain rfl := zg14 zd14
      obtain rfl := zg1 zd1
      obtain rfl := zg3 zd3
      obtain rfl := zg5 zd5
      obtain rfl := zg9 zd9
      obtain rfl := zg11 zd11
      obtain rfl := zg13 zd13
      refine wpOp_step rfl (fun K hK => ?_)
      clear hr
      go_simp
      refine (r3Meet_is _ _ _ _ _ _ _ _ _ HX _).mono ?_
      rintro e w1 ⟨rfl, hk⟩
      dsimp only
      refine hK _ _ ?_
      simp only [getD_own (l := ls) (i := 16) (by omega), gq 16 0, gq 16 1, gq 16 2, gq 16 3, gq 16 4, gq 16 5, gq 16 6, gq 16 7, gq 16 8, gq 16 9, gq 16 10, gq 16 11, gq 16 12, gq 16 13, gq 16 14, gq 16 15, gq 16 17]
      exact ⟨_, _, _, _, _, _, _, _, _, _, _, _, _, _, _, _, _, rfl, by simp [hl], fun _ => bstep hB hk, fun _ => rfl, fun _ => rfl, fun _ => rfl, fun _ => rfl, fun _ => rfl, fun _ => rfl, fun _ => rfl, fun _ => rfl, fun _ => rfl, fun _ => rfl, fun _ => rfl, fun _ => rfl, fun _ => rfl, fun _ => rfl, fun _ => rfl, fun _ => rfl, fun _ => rfl, zc2, zc4, zc6, zc7, zc10, zc12, zc14, zc15, fun _ => ⟨zd7, zd15, trivial⟩, fun h => (by rw [hs0] at h; cases h), fun h => (by rw [hs0] at h; cases h)⟩
    · rintro ls ac w' hr ⟨v7, v8, v9, v10, v11, v12, v13, v14, v15, v16, v17, v18, v19, v20, v21, v22, v23, rfl, hl, hB', zg0, zg1, zg2, zg3, zg4, zg5, zg6, zg7, zg8, zg9, zg10, zg11, zg12, zg13, zg14, zg15, zg16, zc2, zc4, zc6, zc7, zc10, zc12, zc14, zc15, zc16, hS, hK⟩
      have zd16 := rdd hr 16
      have zd7 := (zc16 zd16).1
      have zd15 := (zc16 zd16).2.1
      have zd0 := (zc7 zd7).1
      have zd2 := (zc7 zd7).2.1
      have zd4 := (zc7 zd7).2.2.1
      have zd6 := (zc7 zd7).2.2.2.1
      have zd8 := (zc15 zd15).1
      have zd10 := (zc15 zd15).2.1
      have zd12 := (zc15 zd15).2.2.1
      have zd14 := (zc15 zd15).2.2.2.1
      have zd1 := (zc2 zd2).1
      have zd3 := (zc4 zd4).1
      have zd5 := (zc6 zd6).1
      have zd9 := (zc10 zd10).1
      have zd11 := (zc12 zd12).1
      have zd13 := (zc14 zd14).1
      obtain rfl := zg16 zd16
      obtain rfl := zg7 zd7
      obtain rfl := zg15 zd15
      obtain rfl := zg0 zd0
      obtain rfl := zg2 zd2
      obtain rfl := zg4 zd4
      obtain rfl := zg6 zd6
      obtain rfl := zg8 zd8
      obtain rfl := zg10 zd10
      obtain rfl := zg12 zd12
      obtain rfl := zg14 zd14
      obtain rfl := zg1 zd1
      obtain rfl := zg3 zd3
      obtain rfl := zg5 zd5
      obtain rfl := zg9 zd9
      obtain rfl := zg11 zd11
      obtain rfl := zg13 zd13
      have hns : ls.getD 17 false = false := by cases hc : ls.getD 17 false with | false => rfl | true => (exfalso; have hn := (ready_dep hr rfl).1; rw [getD_both hc] at hn; cases hn)
      have hB := hB' hns
      have hall : ∀ i, i < 18 → (ls.setIfInBounds 17 true).getD i false = true := by intro i hi; have hi' : i = 0 ∨ i = 1 ∨ i = 2 ∨ i = 3 ∨ i = 4 ∨ i = 5 ∨ i = 6 ∨ i = 7 ∨ i = 8 ∨ i = 9 ∨ i = 10 ∨ i = 11 ∨ i = 12 ∨ i = 13 ∨ i = 14 ∨ i = 15 ∨ i = 16 ∨ i = 17 := (by decide : ∀ i : Nat, i < 18 → (i = 0 ∨ i = 1 ∨ i = 2 ∨ i = 3 ∨ i = 4 ∨ i = 5 ∨ i = 6 ∨ i = 7 ∨ i = 8 ∨ i = 9 ∨ i = 10 ∨ i = 11 ∨ i = 12 ∨ i = 13 ∨ i = 14 ∨ i = 15 ∨ i = 16 ∨ i = 17)) i hi; rcases hi' with rfl | rfl | rfl | rfl | rfl | rfl | rfl | rfl | rfl | rfl | rfl | rfl | rfl | rfl | rfl | rfl | rfl | rfl <;> first | exact getD_own (by omega) | (rw [getD_set ls (by decide)]; assumption)
      have hSp := SpanAt.keep hB hR
      have hT := span_sets (x := y1) (y := y2) (z := y3) hSp
      have zs0 := (hSp).1.1
      have zs1 := (hSp).2.1.1
      have zs2 := (hSp).2.2.1
      have zs3 := (hSp).1.2
      have zs4 := (hSp).2.1.2
      have zs5 := (hSp).2.2.2
      refine wpOp_step rfl (fun K hK' => ?_)
      clear hr
      clear hSp
      go_simp
      refine hK' _ _ ?_
      simp only [getD_own (l := ls) (i := 17) (by omega), gq 17 0, gq 17 1, gq 17 2, gq 17 3, gq 17 4, gq 17 5, gq 17 6, gq 17 7, gq 17 8, gq 17 9, gq 17 10, gq 17 11, gq 17 12, gq 17 13, gq 17 14, gq 17 15, gq 17 16]
      exact ⟨_, _, _, _, _, _, _, _, _, _, _, _, _, _, _, _, _, rfl, by simp [hl], fun h => (by cases h), fun _ => rfl, fun _ => rfl, fun _ => rfl, fun _ => rfl, fun _ => rfl, fun _ => rfl, fun _ => rfl, fun _ => rfl, fun _ => rfl, fun _ => rfl, fun _ => rfl, fun _ => rfl, fun _ => rfl, fun _ => rfl, fun _ => rfl, fun _ => rfl, fun _ => rfl, zc2, zc4, zc6, zc7, zc10, zc12, zc14, zc15, zc16, fun _ => ⟨(hB.mono (hb).size).trans (hT.2.2 _ (by omega)), hT.1⟩, fun _ => hall⟩
  · rintro ls ac w' ⟨v7, v8, v9, v10, v11, v12, v13, v14, v15, v16, v17, v18, v19, v20, v21, v22, v23, rfl, hl, hB', zg0, zg1, zg2, zg3, zg4, zg5, zg6, zg7, zg8, zg9, zg10, zg11, zg12, zg13, zg14, zg15, zg16, zc2, zc4, zc6, zc7, zc10, zc12, zc14, zc15, zc16, hS, hK⟩ hr
    have hall := ready_allb (by decide) hl hr
    have hSx := hS (hall 17 (by decide))
    have x0' := hSx.2.1.1
    have x1' := hSx.2.2.1.1
    have x2' := hSx.2.2.2.1
    go_wp2
    exact bodyPost_ret (v := .agg #[.int .i64 y1, .int .i64 y2, .bool y3]) (by simp [results, Try.results71, go_sem, x0', x1', x2']) rfl ⟨rfl, hb.trans hSx.1⟩
end Go.Proofs.Ytnphbdhcoiaklaa
