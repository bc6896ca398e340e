/-
  The walks of package delay's Both.
-/
import Derived.Test.YtigpddhffgoioaaDc
import Derived.Test.YtigpddhffgoioaaSd
import Derived.Test.YtigpddhffgoioaaInvb
import Derived.Test.YtigpddhffgoioaaDd
import Derived.Test.YtigpddhffgoioaaSf
import Derived.Test.YtigpddhffgoioaaSpt
import Derived.BigQuiet
import Derived.Deep.QuietTactic
import Derived.Deep.Cut
import Derived.Deep.CutRange
import Derived.Deep.DeepCutAuto
namespace Go.Proofs.Ytigpddhffgoioaa
open Go.RowKit


set_option maxRecDepth 100000 in
set_option maxHeartbeats 4000000 in
theorem Both_is (mn mx g x0 x1 x2 x3 c0 c1 y1 y2 : Int) (y3 : Bool) (hc0 : I64 c0) (hc1 : I64 c1) (H : Hid (dBoth mn mx g x0 x1 x2 x3 c0 c1 = ⟨y1, y2, y3⟩)) (w : World) :
    Calls Try.prog 13 #[.agg #[.int .i64 mn, .int .i64 mx, .int .i64 g], .agg #[.int .i64 x0, .int .i64 x1, .int .i64 x2, .int .i64 x3], .agg #[.int .i64 c0, .int .i64 c1]] w fun e w' => e = .returned (.agg #[.int .i64 y1, .int .i64 y2, .bool y3]) ∧ Below w.heap.size w w' := by
  obtain ⟨⟨s1, s2, s3⟩, es⟩ : ∃ s, dSync mn mx g x0 c0 x1 = s := ⟨_, rfl⟩
  have Hs := Lib.hid es
  obtain ⟨⟨r1, r2, r3⟩, er⟩ : ∃ s, dReq mn mx g x2 c1 x3 = s := ⟨_, rfl⟩
  have Hr := Lib.hid er
  have HX : Hid (spMeet ⟨s1, s2, s3⟩ ⟨r1, r2, r3⟩ = ⟨y1, y2, y3⟩) := by
    have hx := H.out
    unfold dBoth at hx
    rw [es, er] at hx
    exact Lib.hid hx
  clear H es er
  go_enter Try.func13, Try.ntmps13
  go_upto_region 1 with (fail)
  generalize hu : (((w.alloc (.cells #[.int .i64 mn, .int .i64 mx, .int .i64 g] 34)).alloc (.cells #[.int .i64 x0, .int .i64 x1, .int .i64 x2, .int .i64 x3] 30)).alloc (.cells #[.int .i64 c0, .int .i64 c1] 24)).alloc (.cells #[.int .i64 0, .int .i64 0, .bool false] 32) = z
  have hb : Below w.heap.size w z := by rw [← hu]; exact balloc (balloc (balloc (balloc (brefl _) _) _) _) _
  have qB0_0 : CellF z ⟨w.heap.size, 0, none⟩ (.int .i64 mn) := by rw [← hu]; repeat (first | with_reducible exact CellF.at_ (by simp) rfl | with_reducible refine CellF.past _ ?_)
  have cB0_0 := qB0_0.1
  have qB0_1 : CellF z ⟨w.heap.size, 1, none⟩ (.int .i64 mx) := by rw [← hu]; repeat (first | with_reducible exact CellF.at_ (by simp) rfl | with_reducible refine CellF.past _ ?_)
  have cB0_1 := qB0_1.1
  have qB0_2 : CellF z ⟨w.heap.size, 2, none⟩ (.int .i64 g) := by rw [← hu]; repeat (first | with_reducible exact CellF.at_ (by simp) rfl | with_reducible refine CellF.past _ ?_)
  have cB0_2 := qB0_2.1
  have zB0 := ltc cB0_0
  have qB1_0 : CellF z ⟨(w.heap.size + 1), 0, none⟩ (.int .i64 x0) := by rw [← hu]; repeat (first | with_reducible exact CellF.at_ (by simp) rfl | with_reducible refine CellF.past _ ?_)
  have cB1_0 := qB1_0.1
  have qB1_1 : CellF z ⟨(w.heap.size + 1), 1, none⟩ (.int .i64 x1) := by rw [← hu]; repeat (first | with_reducible exact CellF.at_ (by simp) rfl | with_reducible refine CellF.past _ ?_)
  have cB1_1 := qB1_1.1
  have qB1_2 : CellF z ⟨(w.heap.size + 1), 2, none⟩ (.int .i64 x2) := by rw [← hu]; repeat (first | with_reducible exact CellF.at_ (by simp) rfl | with_reducible refine CellF.past _ ?_)
  have cB1_2 := qB1_2.1
  have qB1_3 : CellF z ⟨(w.heap.size + 1), 3, none⟩ (.int .i64 x3) := by rw [← hu]; repeat (first | with_reducible exact CellF.at_ (by simp) rfl | with_reducible refine CellF.past _ ?_)
  have cB1_3 := qB1_3.1
  have zB1 := ltc cB1_0
  have qB2_0 : CellF z ⟨(w.heap.size + 2), 0, none⟩ (.int .i64 c0) := by rw [← hu]; repeat (first | with_reducible exact CellF.at_ (by simp) rfl | with_reducible refine CellF.past _ ?_)
  have cB2_0 := qB2_0.1
  have qB2_1 : CellF z ⟨(w.heap.size + 2), 1, none⟩ (.int .i64 c1) := by rw [← hu]; repeat (first | with_reducible exact CellF.at_ (by simp) rfl | with_reducible refine CellF.past _ ?_)
  have cB2_1 := qB2_1.1
  have zB2 := ltc cB2_0
  have qB3_0 : CellF z ⟨(w.heap.size + 3), 0, none⟩ (.int .i64 0) := by rw [← hu]; repeat (first | with_reducible exact CellF.at_ (by simp) rfl | with_reducible refine CellF.past _ ?_)
  have cB3_0 := qB3_0.1
  have qB3_1 : CellF z ⟨(w.heap.size + 3), 1, none⟩ (.int .i64 0) := by rw [← hu]; repeat (first | with_reducible exact CellF.at_ (by simp) rfl | with_reducible refine CellF.past _ ?_)
  have cB3_1 := qB3_1.1
  have qB3_2 : CellF z ⟨(w.heap.size + 3), 2, none⟩ (.bool false) := by rw [← hu]; repeat (first | with_reducible exact CellF.at_ (by simp) rfl | with_reducible refine CellF.past _ ?_)
  have cB3_2 := qB3_2.1
  have zB3 := ltc cB3_0
  clear hu
  have hR : SpanAt z (w.heap.size + 3) 0 0 false := ⟨qB3_0, qB3_1, qB3_2⟩
  dsimp only at zB3
  clear qB3_0 qB3_1 qB3_2 cB3_0 cB3_1 cB3_2
  refine wp_region_inv (by kernel_rfl) (fun ls ac w' => ∃ v7 v8 v9 v10 v11 v12 v13 v14 v15 v16 v17 v18 v19 v20 v21 v22 v23, ac = ⟨#[.agg #[.int .i64 mn, .int .i64 mx, .int .i64 g], .agg #[.int .i64 x0, .int .i64 x1, .int .i64 x2, .int .i64 x3], .agg #[.int .i64 c0, .int .i64 c1], .pointer (some ⟨w.heap.size, 0, none⟩), .pointer (some ⟨w.heap.size + 1, 0, none⟩), .pointer (some ⟨w.heap.size + 2, 0, none⟩), .pointer (some ⟨w.heap.size + 3, 0, none⟩), v7, v8, v9, v10, v11, v12, v13, v14, v15, v16, v17, v18, v19, v20, v21, v22, v23], []⟩ ∧ ls.size = 18 ∧ (ls.getD 17 false = false → Below z.heap.size z w') ∧ (ls.getD 0 false = true → v7 = .agg #[.int .i64 mn, .int .i64 mx, .int .i64 g]) ∧ (ls.getD 1 false = true → v8 = .pointer (some ⟨w.heap.size + 1, 0, none⟩)) ∧ (ls.getD 2 false = true → v9 = .int .i64 x0) ∧ (ls.getD 3 false = true → v10 = .pointer (some ⟨w.heap.size + 2, 0, none⟩)) ∧ (ls.getD 4 false = true → v11 = .int .i64 c0) ∧ (ls.getD 5 false = true → v12 = .pointer (some ⟨w.heap.size + 1, 1, none⟩)) ∧ (ls.getD 6 false = true → v13 = .int .i64 x1) ∧ (ls.getD 7 false = true → v14 = .agg #[.int .i64 s1, .int .i64 s2, .bool s3]) ∧ (ls.getD 8 false = true → v15 = .agg #[.int .i64 mn, .int .i64 mx, .int .i64 g]) ∧ (ls.getD 9 false = true → v16 = .pointer (some ⟨w.heap.size + 1, 2, none⟩)) ∧ (ls.getD 10 false = true → v17 = .int .i64 x2) ∧ (ls.getD 11 false = true → v18 = .pointer (some ⟨w.heap.size + 2, 1, none⟩)) ∧ (ls.getD 12 false = true → v19 = .int .i64 c1) ∧ (ls.getD 13 false = true → v20 = .pointer (some ⟨w.heap.size + 1, 3, none⟩)) ∧ (ls.getD 14 false = true → v21 = .int .i64 x3) ∧ (ls.getD 15 false = true → v22 = .agg #[.int .i64 r1, .int .i64 r2, .bool r3]) ∧ (ls.getD 16 false = true → v23 = .agg #[.int .i64 y1, .int .i64 y2, .bool y3]) ∧ (ls.getD 2 false = true → ls.getD 1 false = true ∧ True) ∧ (ls.getD 4 false = true → ls.getD 3 false = true ∧ True) ∧ (ls.getD 6 false = true → ls.getD 5 false = true ∧ True) ∧ (ls.getD 7 false = true → ls.getD 0 false = true ∧ ls.getD 2 false = true ∧ ls.getD 4 false = true ∧ ls.getD 6 false = true ∧ True) ∧ (ls.getD 10 false = true → ls.getD 9 false = true ∧ True) ∧ (ls.getD 12 false = true → ls.getD 11 false = true ∧ True) ∧ (ls.getD 14 false = true → ls.getD 13 false = true ∧ True) ∧ (ls.getD 15 false = true → ls.getD 8 false = true ∧ ls.getD 10 false = true ∧ ls.getD 12 false = true ∧ ls.getD 14 false = true ∧ True) ∧ (ls.getD 16 false = true → ls.getD 7 false = true ∧ ls.getD 15 false = true ∧ True) ∧ (ls.getD 17 false = true → Below w.heap.size z w' ∧ SpanAt w' (w.heap.size + 3) y1 y2 y3) ∧ (ls.getD 17 false = true → ∀ i, i < 18 → ls.getD i false = true)) ?_ ?_ ?_
  · exact ⟨_, _, _, _, _, _, _, _, _, _, _, _, _, _, _, _, _, rfl, rfl, fun _ => bdrew (brefl _), fun h => (by cases h), fun h => (by cases h), fun h => (by cases h), fun h => (by cases h), fun h => (by cases h), fun h => (by cases h), fun h => (by cases h), fun h => (by cases h), fun h => (by cases h), fun h => (by cases h), fun h => (by cases h), fun h => (by cases h), fun h => (by cases h), fun h => (by cases h), fun h => (by cases h), fun h => (by cases h), fun h => (by cases h), fun h => (by cases h), fun h => (by cases h), fun h => (by cases h), fun h => (by cases h), fun h => (by cases h), fun h => (by cases h), fun h => (by cases h), fun h => (by cases h), fun h => (by cases h), fun h => (by cases h), fun h => (by cases h)⟩
  · intro i hii
    have hin : i < 18 := hii
    have hor : i = 0 ∨ i = 1 ∨ i = 2 ∨ i = 3 ∨ i = 4 ∨ i = 5 ∨ i = 6 ∨ i = 7 ∨ i = 8 ∨ i = 9 ∨ i = 10 ∨ i = 11 ∨ i = 12 ∨ i = 13 ∨ i = 14 ∨ i = 15 ∨ i = 16 ∨ i = 17 := by omega
    rcases hor with rfl | rfl | rfl | rfl | rfl | rfl | rfl | rfl | rfl | rfl | rfl | rfl | rfl | rfl | rfl | rfl | rfl | rfl
    · rintro ls ac w' hr ⟨v7, v8, v9, v10, v11, v12, v13, v14, v15, v16, v17, v18, v19, v20, v21, v22, v23, rfl, hl, hB', zg0, zg1, zg2, zg3, zg4, zg5, zg6, zg7, zg8, zg9, zg10, zg11, zg12, zg13, zg14, zg15, zg16, zc2, zc4, zc6, zc7, zc10, zc12, zc14, zc15, zc16, hS, hK⟩
      have hs0 : ls.getD 17 false = false := by cases hc : ls.getD 17 false with | false => rfl | true => (exfalso; have hz := hK hc 0 (by decide); have hn := (ready_dep hr rfl).1; rw [getD_both hz] at hn; cases hn)
      have hB := hB' hs0
      have a0 := (hB.cell (ltc cB0_0)).trans cB0_0
      have a1 := (hB.cell (ltc cB0_1)).trans cB0_1
      have a2 := (hB.cell (ltc cB0_2)).trans cB0_2
      have a3 := (hB.cell (ltc cB1_0)).trans cB1_0
      have a4 := (hB.cell (ltc cB1_1)).trans cB1_1
      have a5 := (hB.cell (ltc cB1_2)).trans cB1_2
      have a6 := (hB.cell (ltc cB1_3)).trans cB1_3
      have a7 := (hB.cell (ltc cB2_0)).trans cB2_0
      have a8 := (hB.cell (ltc cB2_1)).trans cB2_1
      refine wpOp_step rfl (fun K hK => ?_)
      clear hr
      go_simp
      refine hK _ _ ?_
      simp only [getD_own (l := ls) (i := 0) (by omega), getD_set ls (i := 0) (j := 1) (by decide), getD_set ls (i := 0) (j := 2) (by decide), getD_set ls (i := 0) (j := 3) (by decide), getD_set ls (i := 0) (j := 4) (by decide), getD_set ls (i := 0) (j := 5) (by decide), getD_set ls (i := 0) (j := 6) (by decide), getD_set ls (i := 0) (j := 7) (by decide), getD_set ls (i := 0) (j := 8) (by decide), getD_set ls (i := 0) (j := 9) (by decide), getD_set ls (i := 0) (j := 10) (by decide), getD_set ls (i := 0) (j := 11) (by decide), getD_set ls (i := 0) (j := 12) (by decide), getD_set ls (i := 0) (j := 13) (by decide), getD_set ls (i := 0) (j := 14) (by decide), getD_set ls (i := 0) (j := 15) (by decide), getD_set ls (i := 0) (j := 16) (by decide), getD_set ls (i := 0) (j := 17) (by decide)]
      exact ⟨_, v8, v9, v10, v11, v12, v13, v14, v15, v16, v17, v18, v19, v20, v21, v22, v23, rfl, by simp [hl], fun _ => hB, fun _ => rfl, zg1, zg2, zg3, zg4, zg5, zg6, zg7, zg8, zg9, zg10, zg11, zg12, zg13, zg14, zg15, zg16, zc2, zc4, zc6, fun h => ⟨(by first | rfl | trivial), (zc7 h).2.1, (zc7 h).2.2.1, (zc7 h).2.2.2.1, trivial⟩, zc10, zc12, zc14, zc15, zc16, fun h => (by rw [hs0] at h; cases h), fun h => (by rw [hs0] at h; cases h)⟩
    · rintro ls ac w' hr ⟨v7, v8, v9, v10, v11, v12, v13, v14, v15, v16, v17, v18, v19, v20, v21, v22, v23, rfl, hl, hB', zg0, zg1, zg2, zg3, zg4, zg5, zg6, zg7, zg8, zg9, zg10, zg11, zg12, zg13, zg14, zg15, zg16, zc2, zc4, zc6, zc7, zc10, zc12, zc14, zc15, zc16, hS, hK⟩
      have hs0 : ls.getD 17 false = false := by cases hc : ls.getD 17 false with | false => rfl | true => (exfalso; have hz := hK hc 1 (by decide); have hn := (ready_dep hr rfl).1; rw [getD_both hz] at hn; cases hn)
      have hB := hB' hs0
      refine wpOp_step rfl (fun K hK => ?_)
      clear hr
      go_simp
      refine hK _ _ ?_
      simp only [getD_own (l := ls) (i := 1) (by omega), getD_set ls (i := 1) (j := 0) (by decide), getD_set ls (i := 1) (j := 2) (by decide), getD_set ls (i := 1) (j := 3) (by decide), getD_set ls (i := 1) (j := 4) (by decide), getD_set ls (i := 1) (j := 5) (by decide), getD_set ls (i := 1) (j := 6) (by decide), getD_set ls (i := 1) (j := 7) (by decide), getD_set ls (i := 1) (j := 8) (by decide), getD_set ls (i := 1) (j := 9) (by decide), getD_set ls (i := 1) (j := 10) (by decide), getD_set ls (i := 1) (j := 11) (by decide), getD_set ls (i := 1) (j := 12) (by decide), getD_set ls (i := 1) (j := 13) (by decide), getD_set ls (i := 1) (j := 14) (by decide), getD_set ls (i := 1) (j := 15) (by decide), getD_set ls (i := 1) (j := 16) (by decide), getD_set ls (i := 1) (j := 17) (by decide)]
      exact ⟨v7, _, v9, v10, v11, v12, v13, v14, v15, v16, v17, v18, v19, v20, v21, v22, v23, rfl, by simp [hl], fun _ => hB, zg0, fun _ => rfl, zg2, zg3, zg4, zg5, zg6, zg7, zg8, zg9, zg10, zg11, zg12, zg13, zg14, zg15, zg16, fun h => ⟨(by first | rfl | trivial), trivial⟩, zc4, zc6, zc7, zc10, zc12, zc14, zc15, zc16, fun h => (by rw [hs0] at h; cases h), fun h => (by rw [hs0] at h; cases h)⟩
    · rintro ls ac w' hr ⟨v7, v8, v9, v10, v11, v12, v13, v14, v15, v16, v17, v18, v19, v20, v21, v22, v23, rfl, hl, hB', zg0, zg1, zg2, zg3, zg4, zg5, zg6, zg7, zg8, zg9, zg10, zg11, zg12, zg13, zg14, zg15, zg16, zc2, zc4, zc6, zc7, zc10, zc12, zc14, zc15, zc16, hS, hK⟩
      have zd1 : ls.getD 1 false = true := (ready_dep hr rfl).2 ⟨1, .data⟩ (by simp) rfl
      have hs0 : ls.getD 17 false = false := by cases hc : ls.getD 17 false with | false => rfl | true => (exfalso; have hz := hK hc 2 (by decide); have hn := (ready_dep hr rfl).1; rw [getD_both hz] at hn; cases hn)
      have hB := hB' hs0
      obtain rfl := zg1 zd1
      have a0 := (hB.cell (ltc cB0_0)).trans cB0_0
      have a1 := (hB.cell (ltc cB0_1)).trans cB0_1
      have a2 := (hB.cell (ltc cB0_2)).trans cB0_2
      have a3 := (hB.cell (ltc cB1_0)).trans cB1_0
      have a4 := (hB.cell (ltc cB1_1)).trans cB1_1
      have a5 := (hB.cell (ltc cB1_2)).trans cB1_2
      have a6 := (hB.cell (ltc cB1_3)).trans cB1_3
      have a7 := (hB.cell (ltc cB2_0)).trans cB2_0
      have a8 := (hB.cell (ltc cB2_1)).trans cB2_1
      refine wpOp_step rfl (fun K hK => ?_)
      clear hr
      go_simp
      refine hK _ _ ?_
      simp only [getD_own (l := ls) (i := 2) (by omega), getD_set ls (i := 2) (j := 0) (by decide), getD_set ls (i := 2) (j := 1) (by decide), getD_set ls (i := 2) (j := 3) (by decide), getD_set ls (i := 2) (j := 4) (by decide), getD_set ls (i := 2) (j := 5) (by decide), getD_set ls (i := 2) (j := 6) (by decide), getD_set ls (i := 2) (j := 7) (by decide), getD_set ls (i := 2) (j := 8) (by decide), getD_set ls (i := 2) (j := 9) (by decide), getD_set ls (i := 2) (j := 10) (by decide), getD_set ls (i := 2) (j := 11) (by decide), getD_set ls (i := 2) (j := 12) (by decide), getD_set ls (i := 2) (j := 13) (by decide), getD_set ls (i := 2) (j := 14) (by decide), getD_set ls (i := 2) (j := 15) (by decide), getD_set ls (i := 2) (j := 16) (by decide), getD_set ls (i := 2) (j := 17) (by decide)]
      exact ⟨v7, _, _, v10, v11, v12, v13, v14, v15, v16, v17, v18, v19, v20, v21, v22, v23, rfl, by simp [hl], fun _ => hB, zg0, fun _ => rfl, fun _ => rfl, zg3, zg4, zg5, zg6, zg7, zg8, zg9, zg10, zg11, zg12, zg13, zg14, zg15, zg16, fun _ => ⟨zd1, trivial⟩, zc4, zc6, fun h => ⟨(zc7 h).1, (by first | rfl | trivial), (zc7 h).2.2.1, (zc7 h).2.2.2.1, trivial⟩, zc10, zc12, zc14, zc15, zc16, fun h => (by rw [hs0] at h; cases h), fun h => (by rw [hs0] at h; cases h)⟩
    · rintro ls ac w' hr ⟨v7, v8, v9, v10, v11, v12, v13, v14, v15, v16, v17, v18, v19, v20, v21, v22, v23, rfl, hl, hB', zg0, zg1, zg2, zg3, zg4, zg5, zg6, zg7, zg8, zg9, zg10, zg11, zg12, zg13, zg14, zg15, zg16, zc2, zc4, zc6, zc7, zc10, zc12, zc14, zc15, zc16, hS, hK⟩
      have hs0 : ls.getD 17 false = false := by cases hc : ls.getD 17 false with | false => rfl | true => (exfalso; have hz := hK hc 3 (by decide); have hn := (ready_dep hr rfl).1; rw [getD_both hz] at hn; cases hn)
      have hB := hB' hs0
      refine wpOp_step rfl (fun K hK => ?_)
      clear hr
      go_simp
      refine hK _ _ ?_
      simp only [getD_own (l := ls) (i := 3) (by omega), getD_set ls (i := 3) (j := 0) (by decide), getD_set ls (i := 3) (j := 1) (by decide), getD_set ls (i := 3) (j := 2) (by decide), getD_set ls (i := 3) (j := 4) (by decide), getD_set ls (i := 3) (j := 5) (by decide), getD_set ls (i := 3) (j := 6) (by decide), getD_set ls (i := 3) (j := 7) (by decide), getD_set ls (i := 3) (j := 8) (by decide), getD_set ls (i := 3) (j := 9) (by decide), getD_set ls (i := 3) (j := 10) (by decide), getD_set ls (i := 3) (j := 11) (by decide), getD_set ls (i := 3) (j := 12) (by decide), getD_set ls (i := 3) (j := 13) (by decide), getD_set ls (i := 3) (j := 14) (by decide), getD_set ls (i := 3) (j := 15) (by decide), getD_set ls (i := 3) (j := 16) (by decide), getD_set ls (i := 3) (j := 17) (by decide)]
      exact ⟨v7, v8, v9, _, v11, v12, v13, v14, v15, v16, v17, v18, v19, v20, v21, v22, v23, rfl, by simp [hl], fun _ => hB, zg0, zg1, zg2, fun _ => rfl, zg4, zg5, zg6, zg7, zg8, zg9, zg10, zg11, zg12, zg13, zg14, zg15, zg16, zc2, fun h => ⟨(by first | rfl | trivial), trivial⟩, zc6, zc7, zc10, zc12, zc14, zc15, zc16, fun h => (by rw [hs0] at h; cases h), fun h => (by rw [hs0] at h; cases h)⟩
    · rintro ls ac w' hr ⟨v7, v8, v9, v10, v11, v12, v13, v14, v15, v16, v17, v18, v19, v20, v21, v22, v23, rfl, hl, hB', zg0, zg1, zg2, zg3, zg4, zg5, zg6, zg7, zg8, zg9, zg10, zg11, zg12, zg13, zg14, zg15, zg16, zc2, zc4, zc6, zc7, zc10, zc12, zc14, zc15, zc16, hS, hK⟩
      have zd3 : ls.getD 3 false = true := (ready_dep hr rfl).2 ⟨3, .data⟩ (by simp) rfl
      have hs0 : ls.getD 17 false = false := by cases hc : ls.getD 17 false with | false => rfl | true => (exfalso; have hz := hK hc 4 (by decide); have hn := (ready_dep hr rfl).1; rw [getD_both hz] at hn; cases hn)
      have hB := hB' hs0
      obtain rfl := zg3 zd3
      have a0 := (hB.cell (ltc cB0_0)).trans cB0_0
      have a1 := (hB.cell (ltc cB0_1)).trans cB0_1
      have a2 := (hB.cell (ltc cB0_2)).trans cB0_2
      have a3 := (hB.cell (ltc cB1_0)).trans cB1_0
      have a4 := (hB.cell (ltc cB1_1)).trans cB1_1
      have a5 := (hB.cell (ltc cB1_2)).trans cB1_2
      have a6 := (hB.cell (ltc cB1_3)).trans cB1_3
      have a7 := (hB.cell (ltc cB2_0)).trans cB2_0
      have a8 := (hB.cell (ltc cB2_1)).trans cB2_1
      refine wpOp_step rfl (fun K hK => ?_)
      clear hr
      go_simp
      refine hK _ _ ?_
      simp only [getD_own (l := ls) (i := 4) (by omega), getD_set ls (i := 4) (j := 0) (by decide), getD_set ls (i := 4) (j := 1) (by decide), getD_set ls (i := 4) (j := 2) (by decide), getD_set ls (i := 4) (j := 3) (by decide), getD_set ls (i := 4) (j := 5) (by decide), getD_set ls (i := 4) (j := 6) (by decide), getD_set ls (i := 4) (j := 7) (by decide), getD_set ls (i := 4) (j := 8) (by decide), getD_set ls (i := 4) (j := 9) (by decide), getD_set ls (i := 4) (j := 10) (by decide), getD_set ls (i := 4) (j := 11) (by decide), getD_set ls (i := 4) (j := 12) (by decide), getD_set ls (i := 4) (j := 13) (by decide), getD_set ls (i := 4) (j := 14) (by decide), getD_set ls (i := 4) (j := 15) (by decide), getD_set ls (i := 4) (j := 16) (by decide), getD_set ls (i := 4) (j := 17) (by decide)]
      exact ⟨v7, v8, v9, _, _, v12, v13, v14, v15, v16, v17, v18, v19, v20, v21, v22, v23, rfl, by simp [hl], fun _ => hB, zg0, zg1, zg2, fun _ => rfl, fun _ => rfl, zg5, zg6, zg7, zg8, zg9, zg10, zg11, zg12, zg13, zg14, zg15, zg16, zc2, fun _ => ⟨zd3, trivial⟩, zc6, fun h => ⟨(zc7 h).1, (zc7 h).2.1, (by first | rfl | trivial), (zc7 h).2.2.2.1, trivial⟩, zc10, zc12, zc14, zc15, zc16, fun h => (by rw [hs0] at h; cases h), fun h => (by rw [hs0] at h; cases h)⟩
    · rintro ls ac w' hr ⟨v7, v8, v9, v10, v11, v12, v13, v14, v15, v16, v17, v18, v19, v20, v21, v22, v23, rfl, hl, hB', zg0, zg1, zg2, zg3, zg4, zg5, zg6, zg7, zg8, zg9, zg10, zg11, zg12, zg13, zg14, zg15, zg16, zc2, zc4, zc6, zc7, zc10, zc12, zc14, zc15, zc16, hS, hK⟩
      have hs0 : ls.getD 17 false = false := by cases hc : ls.getD 17 false with | false => rfl | true => (exfalso; have hz := hK hc 5 (by decide); have hn := (ready_dep hr rfl).1; rw [getD_both hz] at hn; cases hn)
      have hB := hB' hs0
      refine wpOp_step rfl (fun K hK => ?_)
      clear hr
      go_simp
      refine hK _ _ ?_
      simp only [getD_own (l := ls) (i := 5) (by omega), getD_set ls (i := 5) (j := 0) (by decide), getD_set ls (i := 5) (j := 1) (by decide), getD_set ls (i := 5) (j := 2) (by decide), getD_set ls (i := 5) (j := 3) (by decide), getD_set ls (i := 5) (j := 4) (by decide), getD_set ls (i := 5) (j := 6) (by decide), getD_set ls (i := 5) (j := 7) (by decide), getD_set ls (i := 5) (j := 8) (by decide), getD_set ls (i := 5) (j := 9) (by decide), getD_set ls (i := 5) (j := 10) (by decide), getD_set ls (i := 5) (j := 11) (by decide), getD_set ls (i := 5) (j := 12) (by decide), getD_set ls (i := 5) (j := 13) (by decide), getD_set ls (i := 5) (j := 14) (by decide), getD_set ls (i := 5) (j := 15) (by decide), getD_set ls (i := 5) (j := 16) (by decide), getD_set ls (i := 5) (j := 17) (by decide)]
      exact ⟨v7, v8, v9, v10, v11, _, v13, v14, v15, v16, v17, v18, v19, v20, v21, v22, v23, rfl, by simp [hl], fun _ => hB, zg0, zg1, zg2, zg3, zg4, fun _ => rfl, zg6, zg7, zg8, zg9, zg10, zg11, zg12, zg13, zg14, zg15, zg16, zc2, zc4, fun h => ⟨(by first | rfl | trivial), trivial⟩, zc7, zc10, zc12, zc14, zc15, zc16, fun h => (by rw [hs0] at h; cases h), fun h => (by rw [hs0] at h; cases h)⟩
    · rintro ls ac w' hr ⟨v7, v8, v9, v10, v11, v12, v13, v14, v15, v16, v17, v18, v19, v20, v21, v22, v23, rfl, hl, hB', zg0, zg1, zg2, zg3, zg4, zg5, zg6, zg7, zg8, zg9, zg10, zg11, zg12, zg13, zg14, zg15, zg16, zc2, zc4, zc6, zc7, zc10, zc12, zc14, zc15, zc16, hS, hK⟩
      have zd5 : ls.getD 5 false = true := (ready_dep hr rfl).2 ⟨5, .data⟩ (by simp) rfl
      have hs0 : ls.getD 17 false = false := by cases hc : ls.getD 17 false with | false => rfl | true => (exfalso; have hz := hK hc 6 (by decide); have hn := (ready_dep hr rfl).1; rw [getD_both hz] at hn; cases hn)
      have hB := hB' hs0
      obtain rfl := zg5 zd5
      have a0 := (hB.cell (ltc cB0_0)).trans cB0_0
      have a1 := (hB.cell (ltc cB0_1)).trans cB0_1
      have a2 := (hB.cell (ltc cB0_2)).trans cB0_2
      have a3 := (hB.cell (ltc cB1_0)).trans cB1_0
      have a4 := (hB.cell (ltc cB1_1)).trans cB1_1
      have a5 := (hB.cell (ltc cB1_2)).trans cB1_2
      have a6 := (hB.cell (ltc cB1_3)).trans cB1_3
      have a7 := (hB.cell (ltc cB2_0)).trans cB2_0
      have a8 := (hB.cell (ltc cB2_1)).trans cB2_1
      refine wpOp_step rfl (fun K hK => ?_)
      clear hr
      go_simp
      refine hK _ _ ?_
      simp only [getD_own (l := ls) (i := 6) (by omega), getD_set ls (i := 6) (j := 0) (by decide), getD_set ls (i := 6) (j := 1) (by decide), getD_set ls (i := 6) (j := 2) (by decide), getD_set ls (i := 6) (j := 3) (by decide), getD_set ls (i := 6) (j := 4) (by decide), getD_set ls (i := 6) (j := 5) (by decide), getD_set ls (i := 6) (j := 7) (by decide), getD_set ls (i := 6) (j := 8) (by decide), getD_set ls (i := 6) (j := 9) (by decide), getD_set ls (i := 6) (j := 10) (by decide), getD_set ls (i := 6) (j := 11) (by decide), getD_set ls (i := 6) (j := 12) (by decide), getD_set ls (i := 6) (j := 13) (by decide), getD_set ls (i := 6) (j := 14) (by decide), getD_set ls (i := 6) (j := 15) (by decide), getD_set ls (i := 6) (j := 16) (by decide), getD_set ls (i := 6) (j := 17) (by decide)]
      exact ⟨v7, v8, v9, v10, v11, _, _, v14, v15, v16, v17, v18, v19, v20, v21, v22, v23, rfl, by simp [hl], fun _ => hB, zg0, zg1, zg2, zg3, zg4, fun _ => rfl, fun _ => rfl, zg7, zg8, zg9, zg10, zg11, zg12, zg13, zg14, zg15, zg16, zc2, zc4, fun _ => ⟨zd5, trivial⟩, fun h => ⟨(zc7 h).1, (zc7 h).2.1, (zc7 h).2.2.1, (by first | rfl | trivial), trivial⟩, zc10, zc12, zc14, zc15, zc16, fun h => (by rw [hs0] at h; cases h), fun h => (by rw [hs0] at h; cases h)⟩
    · rintro ls ac w' hr ⟨v7, v8, v9, v10, v11, v12, v13, v14, v15, v16, v17, v18, v19, v20, v21, v22, v23, rfl, hl, hB', zg0, zg1, zg2, zg3, zg4, zg5, zg6, zg7, zg8, zg9, zg10, zg11, zg12, zg13, zg14, zg15, zg16, zc2, zc4, zc6, zc7, zc10, zc12, zc14, zc15, zc16, hS, hK⟩
      have zd0 : ls.getD 0 false = true := (ready_dep hr rfl).2 ⟨0, .data⟩ (by simp) rfl
      have zd2 : ls.getD 2 false = true := (ready_dep hr rfl).2 ⟨2, .data⟩ (by simp) rfl
      have zd4 : ls.getD 4 false = true := (ready_dep hr rfl).2 ⟨4, .data⟩ (by simp) rfl
      have zd6 : ls.getD 6 false = true := (ready_dep hr rfl).2 ⟨6, .data⟩ (by simp) rfl
      have zd1 := (zc2 zd2).1
      have zd3 := (zc4 zd4).1
      have zd5 := (zc6 zd6).1
      have hs0 : ls.getD 17 false = false := by cases hc : ls.getD 17 false with | false => rfl | true => (exfalso; have hz := hK hc 7 (by decide); have hn := (ready_dep hr rfl).1; rw [getD_both hz] at hn; cases hn)
      have hB := hB' hs0
      obtain rfl := zg0 zd0
      obtain rfl := zg2 zd2
      obtain rfl := zg4 zd4
      obtain rfl := zg6 zd6
      obtain rfl := zg1 zd1
      obtain rfl := zg3 zd3
      obtain rfl := zg5 zd5
      refine wpOp_step rfl (fun K hK => ?_)
      clear hr
      go_simp
      refine (Sync_is _ _ _ _ _ _ _ _ _ hc0 Hs _).mono ?_
      rintro e w1 ⟨rfl, hk⟩
      dsimp only
      refine hK _ _ ?_
      simp only [getD_own (l := ls) (i := 7) (by omega), getD_set ls (i := 7) (j := 0) (by decide), getD_set ls (i := 7) (j := 1) (by decide), getD_set ls (i := 7) (j := 2) (by decide), getD_set ls (i := 7) (j := 3) (by decide), getD_set ls (i := 7) (j := 4) (by decide), getD_set ls (i := 7) (j := 5) (by decide), getD_set ls (i := 7) (j := 6) (by decide), getD_set ls (i := 7) (j := 8) (by decide), getD_set ls (i := 7) (j := 9) (by decide), getD_set ls (i := 7) (j := 10) (by decide), getD_set ls (i := 7) (j := 11) (by decide), getD_set ls (i := 7) (j := 12) (by decide), getD_set ls (i := 7) (j := 13) (by decide), getD_set ls (i := 7) (j := 14) (by decide), getD_set ls (i := 7) (j := 15) (by decide), getD_set ls (i := 7) (j := 16) (by decide), getD_set ls (i := 7) (j := 17) (by decide)]
      exact ⟨_, _, _, _, _, _, _, _, v15, v16, v17, v18, v19, v20, v21, v22, v23, rfl, by simp [hl], fun _ => bstep hB hk, fun _ => rfl, fun _ => rfl, fun _ => rfl, fun _ => rfl, fun _ => rfl, fun _ => rfl, fun _ => rfl, fun _ => rfl, zg8, zg9, zg10, zg11, zg12, zg13, zg14, zg15, zg16, zc2, zc4, zc6, fun _ => ⟨zd0, zd2, zd4, zd6, trivial⟩, zc10, zc12, zc14, zc15, fun h => ⟨(by first | rfl | trivial), (zc16 h).2.1, trivial⟩, fun h => (by rw [hs0] at h; cases h), fun h => (by rw [hs0] at h; cases h)⟩
    · rintro ls ac w' hr ⟨v7, v8, v9, v10, v11, v12, v13, v14, v15, v16, v17, v18, v19, v20, v21, v22, v23, rfl, hl, hB', zg0, zg1, zg2, zg3, zg4, zg5, zg6, zg7, zg8, zg9, zg10, zg11, zg12, zg13, zg14, zg15, zg16, zc2, zc4, zc6, zc7, zc10, zc12, zc14, zc15, zc16, hS, hK⟩
      have hs0 : ls.getD 17 false = false := by cases hc : ls.getD 17 false with | false => rfl | true => (exfalso; have hz := hK hc 8 (by decide); have hn := (ready_dep hr rfl).1; rw [getD_both hz] at hn; cases hn)
      have hB := hB' hs0
      have a0 := (hB.cell (ltc cB0_0)).trans cB0_0
      have a1 := (hB.cell (ltc cB0_1)).trans cB0_1
      have a2 := (hB.cell (ltc cB0_2)).trans cB0_2
      have a3 := (hB.cell (ltc cB1_0)).trans cB1_0
      have a4 := (hB.cell (ltc cB1_1)).trans cB1_1
      have a5 := (hB.cell (ltc cB1_2)).trans cB1_2
      have a6 := (hB.cell (ltc cB1_3)).trans cB1_3
      have a7 := (hB.cell (ltc cB2_0)).trans cB2_0
      have a8 := (hB.cell (ltc cB2_1)).trans cB2_1
      refine wpOp_step rfl (fun K hK => ?_)
      clear hr
      go_simp
      refine hK _ _ ?_
      simp only [getD_own (l := ls) (i := 8) (by omega), getD_set ls (i := 8) (j := 0) (by decide), getD_set ls (i := 8) (j := 1) (by decide), getD_set ls (i := 8) (j := 2) (by decide), getD_set ls (i := 8) (j := 3) (by decide), getD_set ls (i := 8) (j := 4) (by decide), getD_set ls (i := 8) (j := 5) (by decide), getD_set ls (i := 8) (j := 6) (by decide), getD_set ls (i := 8) (j := 7) (by decide), getD_set ls (i := 8) (j := 9) (by decide), getD_set ls (i := 8) (j := 10) (by decide), getD_set ls (i := 8) (j := 11) (by decide), getD_set ls (i := 8) (j := 12) (by decide), getD_set ls (i := 8) (j := 13) (by decide), getD_set ls (i := 8) (j := 14) (by decide), getD_set ls (i := 8) (j := 15) (by decide), getD_set ls (i := 8) (j := 16) (by decide), getD_set ls (i := 8) (j := 17) (by decide)]
      exact ⟨v7, v8, v9, v10, v11, v12, v13, v14, _, v16, v17, v18, v19, v20, v21, v22, v23, rfl, by simp [hl], fun _ => hB, zg0, zg1, zg2, zg3, zg4, zg5, zg6, zg7, fun _ => rfl, zg9, zg10, zg11, zg12, zg13, zg14, zg15, zg16, zc2, zc4, zc6, zc7, zc10, zc12, zc14, fun h => ⟨(by first | rfl | trivial), (zc15 h).2.1, (zc15 h).2.2.1, (zc15 h).2.2.2.1, trivial⟩, zc16, fun h => (by rw [hs0] at h; cases h), fun h => (by rw [hs0] at h; cases h)⟩
    · rintro ls ac w' hr ⟨v7, v8, v9, v10, v11, v12, v13, v14, v15, v16, v17, v18, v19, v20, v21, v22, v23, rfl, hl, hB', zg0, zg1, zg2, zg3, zg4, zg5, zg6, zg7, zg8, zg9, zg10, zg11, zg12, zg13, zg14, zg15, zg16, zc2, zc4, zc6, zc7, zc10, zc12, zc14, zc15, zc16, hS, hK⟩
      have hs0 : ls.getD 17 false = false := by cases hc : ls.getD 17 false with | false => rfl | true => (exfalso; have hz := hK hc 9 (by decide); have hn := (ready_dep hr rfl).1; rw [getD_both hz] at hn; cases hn)
      have hB := hB' hs0
      refine wpOp_step rfl (fun K hK => ?_)
      clear hr
      go_simp
      refine hK _ _ ?_
      simp only [getD_own (l := ls) (i := 9) (by omega), getD_set ls (i := 9) (j := 0) (by decide), getD_set ls (i := 9) (j := 1) (by decide), getD_set ls (i := 9) (j := 2) (by decide), getD_set ls (i := 9) (j := 3) (by decide), getD_set ls (i := 9) (j := 4) (by decide), getD_set ls (i := 9) (j := 5) (by decide), getD_set ls (i := 9) (j := 6) (by decide), getD_set ls (i := 9) (j := 7) (by decide), getD_set ls (i := 9) (j := 8) (by decide), getD_set ls (i := 9) (j := 10) (by decide), getD_set ls (i := 9) (j := 11) (by decide), getD_set ls (i := 9) (j := 12) (by decide), getD_set ls (i := 9) (j := 13) (by decide), getD_set ls (i := 9) (j := 14) (by decide), getD_set ls (i := 9) (j := 15) (by decide), getD_set ls (i := 9) (j := 16) (by decide), getD_set ls (i := 9) (j := 17) (by decide)]
      exact ⟨v7, v8, v9, v10, v11, v12, v13, v14, v15, _, v17, v18, v19, v20, v21, v22, v23, rfl, by simp [hl], fun _ => hB, zg0, zg1, zg2, zg3, zg4, zg5, zg6, zg7, zg8, fun _ => rfl, zg10, zg11, zg12, zg13, zg14, zg15, zg16, zc2, zc4, zc6, zc7, fun h => ⟨(by first | rfl | trivial), trivial⟩, zc12, zc14, zc15, zc16, fun h => (by rw [hs0] at h; cases h), fun h => (by rw [hs0] at h; cases h)⟩
    · rintro ls ac w' hr ⟨v7, v8, v9, v10, v11, v12, v13, v14, v15, v16, v17, v18, v19, v20, v21, v22, v23, rfl, hl, hB', zg0, zg1, zg2, zg3, zg4, zg5, zg6, zg7, zg8, zg9, zg10, zg11, zg12, zg13, zg14, zg15, zg16, zc2, zc4, zc6, zc7, zc10, zc12, zc14, zc15, zc16, hS, hK⟩
      have zd9 : ls.getD 9 false = true := (ready_dep hr rfl).2 ⟨9, .data⟩ (by simp) rfl
      have hs0 : ls.getD 17 false = false := by cases hc : ls.getD 17 false with | false => rfl | true => (exfalso; have hz := hK hc 10 (by decide); have hn := (ready_dep hr rfl).1; rw [getD_both hz] at hn; cases hn)
      have hB := hB' hs0
      obtain rfl := zg9 zd9
      have a0 := (hB.cell (ltc cB0_0)).trans cB0_0
      have a1 := (hB.cell (ltc cB0_1)).trans cB0_1
      have a2 := (hB.cell (ltc cB0_2)).trans cB0_2
      have a3 := (hB.cell (ltc cB1_0)).trans cB1_0
      have a4 := (hB.cell (ltc cB1_1)).trans cB1_1
      have a5 := (hB.cell (ltc cB1_2)).trans cB1_2
      have a6 := (hB.cell (ltc cB1_3)).trans cB1_3
      have a7 := (hB.cell (ltc cB2_0)).trans cB2_0
      have a8 := (hB.cell (ltc cB2_1)).trans cB2_1
      refine wpOp_step rfl (fun K hK => ?_)
      clear hr
      go_simp
      refine hK _ _ ?_
      simp only [getD_own (l := ls) (i := 10) (by omega), getD_set ls (i := 10) (j := 0) (by decide), getD_set ls (i := 10) (j := 1) (by decide), getD_set ls (i := 10) (j := 2) (by decide), getD_set ls (i := 10) (j := 3) (by decide), getD_set ls (i := 10) (j := 4) (by decide), getD_set ls (i := 10) (j := 5) (by decide), getD_set ls (i := 10) (j := 6) (by decide), getD_set ls (i := 10) (j := 7) (by decide), getD_set ls (i := 10) (j := 8) (by decide), getD_set ls (i := 10) (j := 9) (by decide), getD_set ls (i := 10) (j := 11) (by decide), getD_set ls (i := 10) (j := 12) (by decide), getD_set ls (i := 10) (j := 13) (by decide), getD_set ls (i := 10) (j := 14) (by decide), getD_set ls (i := 10) (j := 15) (by decide), getD_set ls (i := 10) (j := 16) (by decide), getD_set ls (i := 10) (j := 17) (by decide)]
      exact ⟨v7, v8, v9, v10, v11, v12, v13, v14, v15, _, _, v18, v19, v20, v21, v22, v23, rfl, by simp [hl], fun _ => hB, zg0, zg1, zg2, zg3, zg4, zg5, zg6, zg7, zg8, fun _ => rfl, fun _ => rfl, zg11, zg12, zg13, zg14, zg15, zg16, zc2, zc4, zc6, zc7, fun _ => ⟨zd9, trivial⟩, zc12, zc14, fun h => ⟨(zc15 h).1, (by first | rfl | trivial), (zc15 h).2.2.1, (zc15 h).2.2.2.1, trivial⟩, zc16, fun h => (by rw [hs0] at h; cases h), fun h => (by rw [hs0] at h; cases h)⟩
    · rintro ls ac w' hr ⟨v7, v8, v9, v10, v11, v12, v13, v14, v15, v16, v17, v18, v19, v20, v21, v22, v23, rfl, hl, hB', zg0, zg1, zg2, zg3, zg4, zg5, zg6, zg7, zg8, zg9, zg10, zg11, zg12, zg13, zg14, zg15, zg16, zc2, zc4, zc6, zc7, zc10, zc12, zc14, zc15, zc16, hS, hK⟩
      have hs0 : ls.getD 17 false = false := by cases hc : ls.getD 17 false with | false => rfl | true => (exfalso; have hz := hK hc 11 (by decide); have hn := (ready_dep hr rfl).1; rw [getD_both hz] at hn; cases hn)
      have hB := hB' hs0
      refine wpOp_step rfl (fun K hK => ?_)
      clear hr
      go_simp
      refine hK _ _ ?_
      simp only [getD_own (l := ls) (i := 11) (by omega), getD_set ls (i := 11) (j := 0) (by decide), getD_set ls (i := 11) (j := 1) (by decide), getD_set ls (i := 11) (j := 2) (by decide), getD_set ls (i := 11) (j := 3) (by decide), getD_set ls (i := 11) (j := 4) (by decide), getD_set ls (i := 11) (j := 5) (by decide), getD_set ls (i := 11) (j := 6) (by decide), getD_set ls (i := 11) (j := 7) (by decide), getD_set ls (i := 11) (j := 8) (by decide), getD_set ls (i := 11) (j := 9) (by decide), getD_set ls (i := 11) (j := 10) (by decide), getD_set ls (i := 11) (j := 12) (by decide), getD_set ls (i := 11) (j := 13) (by decide), getD_set ls (i := 11) (j := 14) (by decide), getD_set ls (i := 11) (j := 15) (by decide), getD_set ls (i := 11) (j := 16) (by decide), getD_set ls (i := 11) (j := 17) (by decide)]
      exact ⟨v7, v8, v9, v10, v11, v12, v13, v14, v15, v16, v17, _, v19, v20, v21, v22, v23, rfl, by simp [hl], fun _ => hB, zg0, zg1, zg2, zg3, zg4, zg5, zg6, zg7, zg8, zg9, zg10, fun _ => rfl, zg12, zg13, zg14, zg15, zg16, zc2, zc4, zc6, zc7, zc10, fun h => ⟨(by first | rfl | trivial), trivial⟩, zc14, zc15, zc16, fun h => (by rw [hs0] at h; cases h), fun h => (by rw [hs0] at h; cases h)⟩
    · rintro ls ac w' hr ⟨v7, v8, v9, v10, v11, v12, v13, v14, v15, v16, v17, v18, v19, v20, v21, v22, v23, rfl, hl, hB', zg0, zg1, zg2, zg3, zg4, zg5, zg6, zg7, zg8, zg9, zg10, zg11, zg12, zg13, zg14, zg15, zg16, zc2, zc4, zc6, zc7, zc10, zc12, zc14, zc15, zc16, hS, hK⟩
      have zd11 : ls.getD 11 false = true := (ready_dep hr rfl).2 ⟨11, .data⟩ (by simp) rfl
      have hs0 : ls.getD 17 false = false := by cases hc : ls.getD 17 false with | false => rfl | true => (exfalso; have hz := hK hc 12 (by decide); have hn := (ready_dep hr rfl).1; rw [getD_both hz] at hn; cases hn)
      have hB := hB' hs0
      obtain rfl := zg11 zd11
      have a0 := (hB.cell (ltc cB0_0)).trans cB0_0
      have a1 := (hB.cell (ltc cB0_1)).trans cB0_1
      have a2 := (hB.cell (ltc cB0_2)).trans cB0_2
      have a3 := (hB.cell (ltc cB1_0)).trans cB1_0
      have a4 := (hB.cell (ltc cB1_1)).trans cB1_1
      have a5 := (hB.cell (ltc cB1_2)).trans cB1_2
      have a6 := (hB.cell (ltc cB1_3)).trans cB1_3
      have a7 := (hB.cell (ltc cB2_0)).trans cB2_0
      have a8 := (hB.cell (ltc cB2_1)).trans cB2_1
      refine wpOp_step rfl (fun K hK => ?_)
      clear hr
      go_simp
      refine hK _ _ ?_
      simp only [getD_own (l := ls) (i := 12) (by omega), getD_set ls (i := 12) (j := 0) (by decide), getD_set ls (i := 12) (j := 1) (by decide), getD_set ls (i := 12) (j := 2) (by decide), getD_set ls (i := 12) (j := 3) (by decide), getD_set ls (i := 12) (j := 4) (by decide), getD_set ls (i := 12) (j := 5) (by decide), getD_set ls (i := 12) (j := 6) (by decide), getD_set ls (i := 12) (j := 7) (by decide), getD_set ls (i := 12) (j := 8) (by decide), getD_set ls (i := 12) (j := 9) (by decide), getD_set ls (i := 12) (j := 10) (by decide), getD_set ls (i := 12) (j := 11) (by decide), getD_set ls (i := 12) (j := 13) (by decide), getD_set ls (i := 12) (j := 14) (by decide), getD_set ls (i := 12) (j := 15) (by decide), getD_set ls (i := 12) (j := 16) (by decide), getD_set ls (i := 12) (j := 17) (by decide)]
      exact ⟨v7, v8, v9, v10, v11, v12, v13, v14, v15, v16, v17, _, _, v20, v21, v22, v23, rfl, by simp [hl], fun _ => hB, zg0, zg1, zg2, zg3, zg4, zg5, zg6, zg7, zg8, zg9, zg10, fun _ => rfl, fun _ => rfl, zg13, zg14, zg15, zg16, zc2, zc4, zc6, zc7, zc10, fun _ => ⟨zd11, trivial⟩, zc14, fun h => ⟨(zc15 h).1, (zc15 h).2.1, (by first | rfl | trivial), (zc15 h).2.2.2.1, trivial⟩, zc16, fun h => (by rw [hs0] at h; cases h), fun h => (by rw [hs0] at h; cases h)⟩
    · rintro ls ac w' hr ⟨v7, v8, v9, v10, v11, v12, v13, v14, v15, v16, v17, v18, v19, v20, v21, v22, v23, rfl, hl, hB', zg0, zg1, zg2, zg3, zg4, zg5, zg6, zg7, zg8, zg9, zg10, zg11, zg12, zg13, zg14, zg15, zg16, zc2, zc4, zc6, zc7, zc10, zc12, zc14, zc15, zc16, hS, hK⟩
      have hs0 : ls.getD 17 false = false := by cases hc : ls.getD 17 false with | false => rfl | true => (exfalso; have hz := hK hc 13 (by decide); have hn := (ready_dep hr rfl).1; rw [getD_both hz] at hn; cases hn)
      have hB := hB' hs0
      refine wpOp_step rfl (fun K hK => ?_)
      clear hr
      go_simp
      refine hK _ _ ?_
      simp only [getD_own (l := ls) (i := 13) (by omega), getD_set ls (i := 13) (j := 0) (by decide), getD_set ls (i := 13) (j := 1) (by decide), getD_set ls (i := 13) (j := 2) (by decide), getD_set ls (i := 13) (j := 3) (by decide), getD_set ls (i := 13) (j := 4) (by decide), getD_set ls (i := 13) (j := 5) (by decide), getD_set ls (i := 13) (j := 6) (by decide), getD_set ls (i := 13) (j := 7) (by decide), getD_set ls (i := 13) (j := 8) (by decide), getD_set ls (i := 13) (j := 9) (by decide), getD_set ls (i := 13) (j := 10) (by decide), getD_set ls (i := 13) (j := 11) (by decide), getD_set ls (i := 13) (j := 12) (by decide), getD_set ls (i := 13) (j := 14) (by decide), getD_set ls (i := 13) (j := 15) (by decide), getD_set ls (i := 13) (j := 16) (by decide), getD_set ls (i := 13) (j := 17) (by decide)]
      exact ⟨v7, v8, v9, v10, v11, v12, v13, v14, v15, v16, v17, v18, v19, _, v21, v22, v23, rfl, by simp [hl], fun _ => hB, zg0, zg1, zg2, zg3, zg4, zg5, zg6, zg7, zg8, zg9, zg10, zg11, zg12, fun _ => rfl, zg14, zg15, zg16, zc2, zc4, zc6, zc7, zc10, zc12, fun h => ⟨(by first | rfl | trivial), trivial⟩, zc15, zc16, fun h => (by rw [hs0] at h; cases h), fun h => (by rw [hs0] at h; cases h)⟩
    · rintro ls ac w' hr ⟨v7, v8, v9, v10, v11, v12, v13, v14, v15, v16, v17, v18, v19, v20, v21, v22, v23, rfl, hl, hB', zg0, zg1, zg2, zg3, zg4, zg5, zg6, zg7, zg8, zg9, zg10, zg11, zg12, zg13, zg14, zg15, zg16, zc2, zc4, zc6, zc7, zc10, zc12, zc14, zc15, zc16, hS, hK⟩
      have zd13 : ls.getD 13 false = true := (ready_dep hr rfl).2 ⟨13, .data⟩ (by simp) rfl
      have hs0 : ls.getD 17 false = false := by cases hc : ls.getD 17 false with | false => rfl | true => (exfalso; have hz := hK hc 14 (by decide); have hn := (ready_dep hr rfl).1; rw [getD_both hz] at hn; cases hn)
      have hB := hB' hs0
      obtain rfl := zg13 zd13
      have a0 := (hB.cell (ltc cB0_0)).trans cB0_0
      have a1 := (hB.cell (ltc cB0_1)).trans cB0_1
      have a2 := (hB.cell (ltc cB0_2)).trans cB0_2
      have a3 := (hB.cell (ltc cB1_0)).trans cB1_0
      have a4 := (hB.cell (ltc cB1_1)).trans cB1_1
      have a5 := (hB.cell (ltc cB1_2)).trans cB1_2
      have a6 := (hB.cell (ltc cB1_3)).trans cB1_3
      have a7 := (hB.cell (ltc cB2_0)).trans cB2_0
      have a8 := (hB.cell (ltc cB2_1)).trans cB2_1
      refine wpOp_step rfl (fun K hK => ?_)
      clear hr
      go_simp
      refine hK _ _ ?_
      simp only [getD_own (l := ls) (i := 14) (by omega), getD_set ls (i := 14) (j := 0) (by decide), getD_set ls (i := 14) (j := 1) (by decide), getD_set ls (i := 14) (j := 2) (by decide), getD_set ls (i := 14) (j := 3) (by decide), getD_set ls (i := 14) (j := 4) (by decide), getD_set ls (i := 14) (j := 5) (by decide), getD_set ls (i := 14) (j := 6) (by decide), getD_set ls (i := 14) (j := 7) (by decide), getD_set ls (i := 14) (j := 8) (by decide), getD_set ls (i := 14) (j := 9) (by decide), getD_set ls (i := 14) (j := 10) (by decide), getD_set ls (i := 14) (j := 11) (by decide), getD_set ls (i := 14) (j := 12) (by decide), getD_set ls (i := 14) (j := 13) (by decide), getD_set ls (i := 14) (j := 15) (by decide), getD_set ls (i := 14) (j := 16) (by decide), getD_set ls (i := 14) (j := 17) (by decide)]
      exact ⟨v7, v8, v9, v10, v11, v12, v13, v14, v15, v16, v17, v18, v19, _, _, v22, v23, rfl, by simp [hl], fun _ => hB, zg0, zg1, zg2, zg3, zg4, zg5, zg6, zg7, zg8, zg9, zg10, zg11, zg12, fun _ => rfl, fun _ => rfl, zg15, zg16, zc2, zc4, zc6, zc7, zc10, zc12, fun _ => ⟨zd13, trivial⟩, fun h => ⟨(zc15 h).1, (zc15 h).2.1, (zc15 h).2.2.1, (by first | rfl | trivial), trivial⟩, zc16, fun h => (by rw [hs0] at h; cases h), fun h => (by rw [hs0] at h; cases h)⟩
    · rintro ls ac w' hr ⟨v7, v8, v9, v10, v11, v12, v13, v14, v15, v16, v17, v18, v19, v20, v21, v22, v23, rfl, hl, hB', zg0, zg1, zg2, zg3, zg4, zg5, zg6, zg7, zg8, zg9, zg10, zg11, zg12, zg13, zg14, zg15, zg16, zc2, zc4, zc6, zc7, zc10, zc12, zc14, zc15, zc16, hS, hK⟩
      have zd8 : ls.getD 8 false = true := (ready_dep hr rfl).2 ⟨8, .data⟩ (by simp) rfl
      have zd10 : ls.getD 10 false = true := (ready_dep hr rfl).2 ⟨10, .data⟩ (by simp) rfl
      have zd12 : ls.getD 12 false = true := (ready_dep hr rfl).2 ⟨12, .data⟩ (by simp) rfl
      have zd14 : ls.getD 14 false = true := (ready_dep hr rfl).2 ⟨14, .data⟩ (by simp) rfl
      have zd9 := (zc10 zd10).1
      have zd11 := (zc12 zd12).1
      have zd13 := (zc14 zd14).1
      have hs0 : ls.getD 17 false = false := by cases hc : ls.getD 17 false with | false => rfl | true => (exfalso; have hz := hK hc 15 (by decide); have hn := (ready_dep hr rfl).1; rw [getD_both hz] at hn; cases hn)
      have hB := hB' hs0
      obtain rfl := zg8 zd8
      obtain rfl := zg10 zd10
      obtain rfl := zg12 zd12
      obtain rfl := zg14 zd14
      obtain rfl := zg9 zd9
      obtain rfl := zg11 zd11
      obtain rfl := zg13 zd13
      refine wpOp_step rfl (fun K hK => ?_)
      clear hr
      go_simp
      refine (Req_is _ _ _ _ _ _ _ _ _ hc1 Hr _).mono ?_
      rintro e w1 ⟨rfl, hk⟩
      dsimp only
      refine hK _ _ ?_
      simp only [getD_own (l := ls) (i := 15) (by omega), getD_set ls (i := 15) (j := 0) (by decide), getD_set ls (i := 15) (j := 1) (by decide), getD_set ls (i := 15) (j := 2) (by decide), getD_set ls (i := 15) (j := 3) (by decide), getD_set ls (i := 15) (j := 4) (by decide), getD_set ls (i := 15) (j := 5) (by decide), getD_set ls (i := 15) (j := 6) (by decide), getD_set ls (i := 15) (j := 7) (by decide), getD_set ls (i := 15) (j := 8) (by decide), getD_set ls (i := 15) (j := 9) (by decide), getD_set ls (i := 15) (j := 10) (by decide), getD_set ls (i := 15) (j := 11) (by decide), getD_set ls (i := 15) (j := 12) (by decide), getD_set ls (i := 15) (j := 13) (by decide), getD_set ls (i := 15) (j := 14) (by decide), getD_set ls (i := 15) (j := 16) (by decide), getD_set ls (i := 15) (j := 17) (by decide)]
      exact ⟨v7, v8, v9, v10, v11, v12, v13, v14, _, _, _, _, _, _, _, _, v23, rfl, by simp [hl], fun _ => bstep hB hk, zg0, zg1, zg2, zg3, zg4, zg5, zg6, zg7, fun _ => rfl, fun _ => rfl, fun _ => rfl, fun _ => rfl, fun _ => rfl, fun _ => rfl, fun _ => rfl, fun _ => rfl, zg16, zc2, zc4, zc6, zc7, zc10, zc12, zc14, fun _ => ⟨zd8, zd10, zd12, zd14, trivial⟩, fun h => ⟨(zc16 h).1, (by first | rfl | trivial), trivial⟩, fun h => (by rw [hs0] at h; cases h), fun h => (by rw [hs0] at h; cases h)⟩
    · rintro ls ac w' hr ⟨v7, v8, v9, v10, v11, v12, v13, v14, v15, v16, v17, v18, v19, v20, v21, v22, v23, rfl, hl, hB', zg0, zg1, zg2, zg3, zg4, zg5, zg6, zg7, zg8, zg9, zg10, zg11, zg12, zg13, zg14, zg15, zg16, zc2, zc4, zc6, zc7, zc10, zc12, zc14, zc15, zc16, hS, hK⟩
      have zd7 : ls.getD 7 false = true := (ready_dep hr rfl).2 ⟨7, .data⟩ (by simp) rfl
      have zd15 : ls.getD 15 false = true := (ready_dep hr rfl).2 ⟨15, .data⟩ (by simp) rfl
      have zd0 := (zc7 zd7).1
      have zd2 := (zc7 zd7).2.1
      have zd4 := (zc7 zd7).2.2.1
      have zd6 := (zc7 zd7).2.2.2.1
      have zd8 := (zc15 zd15).1
      have zd10 := (zc15 zd15).2.1
      have zd12 := (zc15 zd15).2.2.1
      have zd14 := (zc15 zd15).2.2.2.1
      have zd1 := (zc2 zd2).1
      have zd3 := (zc4 zd4).1
      have zd5 := (zc6 zd6).1
      have zd9 := (zc10 zd10).1
      have zd11 := (zc12 zd12).1
      have zd13 := (zc14 zd14).1
      have hs0 : ls.getD 17 false = false := by cases hc : ls.getD 17 false with | false => rfl | true => (exfalso; have hz := hK hc 16 (by decide); have hn := (ready_dep hr rfl).1; rw [getD_both hz] at hn; cases hn)
      have hB := hB' hs0
      obtain rfl := zg7 zd7
      obtain rfl := zg15 zd15
      obtain rfl := zg0 zd0
      obtain rfl := zg2 zd2
      obtain rfl := zg4 zd4
      obtain rfl := zg6 zd6
      obtain rfl := zg8 zd8
      obtain rfl := zg10 zd10
      obtain rfl := zg12 zd12
      obtain rfl := zg14 zd14
      obtain rfl := zg1 zd1
      obtain rfl := zg3 zd3
      obtain rfl := zg5 zd5
      obtain rfl := zg9 zd9
      obtain rfl := zg11 zd11
      obtain rfl := zg13 zd13
      refine wpOp_step rfl (fun K hK => ?_)
      clear hr
      go_simp
      refine (Meet_is _ _ _ _ _ _ _ _ _ HX _).mono ?_
      rintro e w1 ⟨rfl, hk⟩
      dsimp only
      refine hK _ _ ?_
      simp only [getD_own (l := ls) (i := 16) (by omega), getD_set ls (i := 16) (j := 0) (by decide), getD_set ls (i := 16) (j := 1) (by decide), getD_set ls (i := 16) (j := 2) (by decide), getD_set ls (i := 16) (j := 3) (by decide), getD_set ls (i := 16) (j := 4) (by decide), getD_set ls (i := 16) (j := 5) (by decide), getD_set ls (i := 16) (j := 6) (by decide), getD_set ls (i := 16) (j := 7) (by decide), getD_set ls (i := 16) (j := 8) (by decide), getD_set ls (i := 16) (j := 9) (by decide), getD_set ls (i := 16) (j := 10) (by decide), getD_set ls (i := 16) (j := 11) (by decide), getD_set ls (i := 16) (j := 12) (by decide), getD_set ls (i := 16) (j := 13) (by decide), getD_set ls (i := 16) (j := 14) (by decide), getD_set ls (i := 16) (j := 15) (by decide), getD_set ls (i := 16) (j := 17) (by decide)]
      exact ⟨_, _, _, _, _, _, _, _, _, _, _, _, _, _, _, _, _, rfl, by simp [hl], fun _ => bstep hB hk, fun _ => rfl, fun _ => rfl, fun _ => rfl, fun _ => rfl, fun _ => rfl, fun _ => rfl, fun _ => rfl, fun _ => rfl, fun _ => rfl, fun _ => rfl, fun _ => rfl, fun _ => rfl, fun _ => rfl, fun _ => rfl, fun _ => rfl, fun _ => rfl, fun _ => rfl, zc2, zc4, zc6, zc7, zc10, zc12, zc14, zc15, fun _ => ⟨zd7, zd15, trivial⟩, fun h => (by rw [hs0] at h; cases h), fun h => (by rw [hs0] at h; cases h)⟩
    · rintro ls ac w' hr ⟨v7, v8, v9, v10, v11, v12, v13, v14, v15, v16, v17, v18, v19, v20, v21, v22, v23, rfl, hl, hB', zg0, zg1, zg2, zg3, zg4, zg5, zg6, zg7, zg8, zg9, zg10, zg11, zg12, zg13, zg14, zg15, zg16, zc2, zc4, zc6, zc7, zc10, zc12, zc14, zc15, zc16, hS, hK⟩
      have zd16 : ls.getD 16 false = true := (ready_dep hr rfl).2 ⟨16, .data⟩ (by simp) rfl
      have zd7 := (zc16 zd16).1
      have zd15 := (zc16 zd16).2.1
      have zd0 := (zc7 zd7).1
      have zd2 := (zc7 zd7).2.1
      have zd4 := (zc7 zd7).2.2.1
      have zd6 := (zc7 zd7).2.2.2.1
      have zd8 := (zc15 zd15).1
      have zd10 := (zc15 zd15).2.1
      have zd12 := (zc15 zd15).2.2.1
      have zd14 := (zc15 zd15).2.2.2.1
      have zd1 := (zc2 zd2).1
      have zd3 := (zc4 zd4).1
      have zd5 := (zc6 zd6).1
      have zd9 := (zc10 zd10).1
      have zd11 := (zc12 zd12).1
      have zd13 := (zc14 zd14).1
      obtain rfl := zg16 zd16
      obtain rfl := zg7 zd7
      obtain rfl := zg15 zd15
      obtain rfl := zg0 zd0
      obtain rfl := zg2 zd2
      obtain rfl := zg4 zd4
      obtain rfl := zg6 zd6
      obtain rfl := zg8 zd8
      obtain rfl := zg10 zd10
      obtain rfl := zg12 zd12
      obtain rfl := zg14 zd14
      obtain rfl := zg1 zd1
      obtain rfl := zg3 zd3
      obtain rfl := zg5 zd5
      obtain rfl := zg9 zd9
      obtain rfl := zg11 zd11
      obtain rfl := zg13 zd13
      have hns : ls.getD 17 false = false := by cases hc : ls.getD 17 false with | false => rfl | true => (exfalso; have hn := (ready_dep hr rfl).1; rw [getD_both hc] at hn; cases hn)
      have hB := hB' hns
      have hall : ∀ i, i < 18 → (ls.setIfInBounds 17 true).getD i false = true := by intro i hi; have hi' : i = 0 ∨ i = 1 ∨ i = 2 ∨ i = 3 ∨ i = 4 ∨ i = 5 ∨ i = 6 ∨ i = 7 ∨ i = 8 ∨ i = 9 ∨ i = 10 ∨ i = 11 ∨ i = 12 ∨ i = 13 ∨ i = 14 ∨ i = 15 ∨ i = 16 ∨ i = 17 := (by omega); rcases hi' with rfl | rfl | rfl | rfl | rfl | rfl | rfl | rfl | rfl | rfl | rfl | rfl | rfl | rfl | rfl | rfl | rfl | rfl <;> first | exact getD_own (by omega) | (rw [getD_set ls (by decide)]; assumption)
      have hSp := SpanAt.keep hB hR
      have hT := span_sets (x := y1) (y := y2) (z := y3) hSp
      have zs0 := (hSp).1.1
      have zs1 := (hSp).2.1.1
      have zs2 := (hSp).2.2.1
      have zs3 := (hSp).1.2
      have zs4 := (hSp).2.1.2
      have zs5 := (hSp).2.2.2
      refine wpOp_step rfl (fun K hK' => ?_)
      clear hr
      clear hSp
      go_simp
      refine hK' _ _ ?_
      simp only [getD_own (l := ls) (i := 17) (by omega), getD_set ls (i := 17) (j := 0) (by decide), getD_set ls (i := 17) (j := 1) (by decide), getD_set ls (i := 17) (j := 2) (by decide), getD_set ls (i := 17) (j := 3) (by decide), getD_set ls (i := 17) (j := 4) (by decide), getD_set ls (i := 17) (j := 5) (by decide), getD_set ls (i := 17) (j := 6) (by decide), getD_set ls (i := 17) (j := 7) (by decide), getD_set ls (i := 17) (j := 8) (by decide), getD_set ls (i := 17) (j := 9) (by decide), getD_set ls (i := 17) (j := 10) (by decide), getD_set ls (i := 17) (j := 11) (by decide), getD_set ls (i := 17) (j := 12) (by decide), getD_set ls (i := 17) (j := 13) (by decide), getD_set ls (i := 17) (j := 14) (by decide), getD_set ls (i := 17) (j := 15) (by decide), getD_set ls (i := 17) (j := 16) (by decide)]
      exact ⟨_, _, _, _, _, _, _, _, _, _, _, _, _, _, _, _, _, rfl, by simp [hl], fun h => (by cases h), fun _ => rfl, fun _ => rfl, fun _ => rfl, fun _ => rfl, fun _ => rfl, fun _ => rfl, fun _ => rfl, fun _ => rfl, fun _ => rfl, fun _ => rfl, fun _ => rfl, fun _ => rfl, fun _ => rfl, fun _ => rfl, fun _ => rfl, fun _ => rfl, fun _ => rfl, zc2, zc4, zc6, zc7, zc10, zc12, zc14, zc15, zc16, fun _ => ⟨(hB.mono hb.size).trans (hT.2.2 _ (by omega)), hT.1⟩, fun _ => hall⟩
  · rintro ls ac w' ⟨v7, v8, v9, v10, v11, v12, v13, v14, v15, v16, v17, v18, v19, v20, v21, v22, v23, rfl, hl, hB', zg0, zg1, zg2, zg3, zg4, zg5, zg6, zg7, zg8, zg9, zg10, zg11, zg12, zg13, zg14, zg15, zg16, zc2, zc4, zc6, zc7, zc10, zc12, zc14, zc15, zc16, hS, hK⟩ hr
    have hall := ready_allb (by decide) hl hr
    have hSx := hS (hall 17 (by decide))
    have x0' := hSx.2.1.1
    have x1' := hSx.2.2.1.1
    have x2' := hSx.2.2.2.1
    go_wp2
    exact bodyPost_ret (v := .agg #[.int .i64 y1, .int .i64 y2, .bool y3]) (by simp [results, Try.results13, go_sem, x0', x1', x2']) rfl ⟨rfl, hb.trans hSx.1⟩
end Go.Proofs.Ytigpddhffgoioaa
