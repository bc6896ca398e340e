/-
  The walk of the function that Observe makes: a case.
-/
import Derived.Test.YtklnlhphgiipjaaVc0
namespace Go.Proofs.Ytklnlhphgiipjaa
open Go.RowKit

set_option maxRecDepth 100000 in
set_option maxHeartbeats 16000000 in
theorem may_q (b bo bt bh bs : Nat) (a x y t : Int) (k : Bool) (HQ : Hid (spRight ⟨x, y, true⟩ = false)) (w : World) (h : CellF w ⟨b, 3, none⟩ (.int .i64 a)) (O0 : CellF w ⟨bo, 0, none⟩ (.int .i64 x)) (O1 : CellF w ⟨bo, 1, none⟩ (.int .i64 y)) (O2 : CellF w ⟨bo, 2, none⟩ (.bool true)) (T : CellF w ⟨bt, 0, none⟩ (.int .i64 t)) (K : CellF w ⟨bh, 0, none⟩ (.bool k)) (S : CellF w ⟨bs, 0, none⟩ (.pointer (some ⟨b, 0, none⟩))) :
    Calls Try.prog 28 #[.pointer (some ⟨bo, 0, none⟩), .pointer (some ⟨bt, 0, none⟩), .pointer (some ⟨bh, 0, none⟩), .pointer (some ⟨bs, 0, none⟩)] w fun e w' => e = .returned (.bool false) ∧ Below w.heap.size w w' := by
  have c0 := O0.1
  have c1 := O1.1
  have c2 := O2.1
  have ct := T.1
  have ck := K.1
  have cs := S.1
  have ca := h.1
  have l0 := ltc c0
  have l1 := ltc ct
  have l2 := ltc ck
  have l3 := ltc cs
  have l4 := ltc ca
  dsimp only at l0 l1 l2 l3 l4
  clear h O0 O1 O2 T K S
  go_enter Try.func28, Try.ntmps28
  go_wp2_with fail
  refine wp_region_inv (by kernel_rfl) (fun ls ac w' => ∃ v4 v5 v6 v7 v8 v9 v10 v11 v12 v13 v14 v15 v16 v17 v18 v19 v20 v21 v22 v23 v24 v25 v26 v27 v28, ac = ⟨#[.pointer (some ⟨bo, 0, none⟩), .pointer (some ⟨bt, 0, none⟩), .pointer (some ⟨bh, 0, none⟩), .pointer (some ⟨bs, 0, none⟩), v4, v5, v6, v7, v8, v9, v10, v11, v12, v13, v14, v15, v16, v17, v18, v19, v20, v21, v22, v23, v24, v25, v26, v27, v28], []⟩ ∧ ls.size = 25 ∧ Below w.heap.size w w' ∧ (ls.getD 0 false = true → v5 = .pointer (some ⟨bo, 2, none⟩)) ∧ (ls.getD 1 false = true → v6 = .bool true) ∧ (ls.getD 2 false = true → v7 = .bool true) ∧ (ls.getD 3 false = true → v8 = .agg #[.int .i64 x, .int .i64 y, .bool true]) ∧ (ls.getD 4 false = true → v9 = .bool false) ∧ (ls.getD 5 false = true → v10 = .bool false) ∧ (ls.getD 6 false = true → v11 = .bool false) ∧ (ls.getD 7 false = true → v12 = undef) ∧ (ls.getD 8 false = true → v13 = undef) ∧ (ls.getD 9 false = true → v14 = undef) ∧ (ls.getD 10 false = true → v15 = .bool false) ∧ (ls.getD 11 false = true → v16 = .bool false) ∧ (ls.getD 12 false = true → v17 = undef) ∧ (ls.getD 13 false = true → v18 = undef) ∧ (ls.getD 14 false = true → v19 = undef) ∧ (ls.getD 15 false = true → v20 = undef) ∧ (ls.getD 16 false = true → v21 = undef) ∧ (ls.getD 17 false = true → v22 = undef) ∧ (ls.getD 18 false = true → v23 = undef) ∧ (ls.getD 19 false = true → v24 = undef) ∧ (ls.getD 20 false = true → v25 = undef) ∧ (ls.getD 21 false = true → v26 = undef) ∧ (ls.getD 22 false = true → v27 = undef) ∧ (ls.getD 23 false = true → v28 = .bool false) ∧ (ls.getD 24 false = true → v4 = .bool false)) ?_ ?_ ?_
  · exact ⟨_, _, _, _, _, _, _, _, _, _, _, _, _, _, _, _, _, _, _, _, _, _, _, _, _, rfl, rfl, bdrew (brefl _), fun h => (by cases h), fun h => (by cases h), fun h => (by cases h), fun h => (by cases h), fun h => (by cases h), fun h => (by cases h), fun h => (by cases h), fun h => (by cases h), fun h => (by cases h), fun h => (by cases h), fun h => (by cases h), fun h => (by cases h), fun h => (by cases h), fun h => (by cases h), fun h => (by cases h), fun h => (by cases h), fun h => (by cases h), fun h => (by cases h), fun h => (by cases h), fun h => (by cases h), fun h => (by cases h), fun h => (by cases h), fun h => (by cases h), fun h => (by cases h), fun h => (by cases h)⟩
  · intro i hii
    have hin : i < 25 := hii
    have hor : i = 0 ∨ i = 1 ∨ i = 2 ∨ i = 3 ∨ i = 4 ∨ i = 5 ∨ i = 6 ∨ i = 7 ∨ i = 8 ∨ i = 9 ∨ i = 10 ∨ i = 11 ∨ i = 12 ∨ i = 13 ∨ i = 14 ∨ i = 15 ∨ i = 16 ∨ i = 17 ∨ i = 18 ∨ i = 19 ∨ i = 20 ∨ i = 21 ∨ i = 22 ∨ i = 23 ∨ i = 24 := (by decide : ∀ i : Nat, i < 25 → (i = 0 ∨ i = 1 ∨ i = 2 ∨ i = 3 ∨ i = 4 ∨ i = 5 ∨ i = 6 ∨ i = 7 ∨ i = 8 ∨ i = 9 ∨ i = 10 ∨ i = 11 ∨ i = 12 ∨ i = 13 ∨ i = 14 ∨ i = 15 ∨ i = 16 ∨ i = 17 ∨ i = 18 ∨ i = 19 ∨ i = 20 ∨ i = 21 ∨ i = 22 ∨ i = 23 ∨ i = 24)) i hin
    rcases hor with rfl | rfl | rfl | rfl | rfl | rfl | rfl | rfl | rfl | rfl | rfl | rfl | rfl | rfl | rfl | rfl | rfl | rfl | rfl | rfl | rfl | rfl | rfl | rfl | rfl
    · rintro ls ac w' hr ⟨v4, v5, v6, v7, v8, v9, v10, v11, v12, v13, v14, v15, v16, v17, v18, v19, v20, v21, v22, v23, v24, v25, v26, v27, v28, rfl, hl, hB, zg0, zg1, zg2, zg3, zg4, zg5, zg6, zg7, zg8, zg9, zg10, zg11, zg12, zg13, zg14, zg15, zg16, zg17, zg18, zg19, zg20, zg21, zg22, zg23, zg24⟩
      refine wpOp_step rfl (fun K hK => ?_)
      clear hr
      go_simp
      refine hK _ _ ?_
      simp only [getD_own (l := ls) (i := 0) (by omega), getD_set ls (i := 0) (j := 1) (by decide), getD_set ls (i := 0) (j := 2) (by decide), getD_set ls (i := 0) (j := 3) (by decide), getD_set ls (i := 0) (j := 4) (by decide), getD_set ls (i := 0) (j := 5) (by decide), getD_set ls (i := 0) (j := 6) (by decide), getD_set ls (i := 0) (j := 7) (by decide), getD_set ls (i := 0) (j := 8) (by decide), getD_set ls (i := 0) (j := 9) (by decide), getD_set ls (i := 0) (j := 10) (by decide), getD_set ls (i := 0) (j := 11) (by decide), getD_set ls (i := 0) (j := 12) (by decide), getD_set ls (i := 0) (j := 13) (by decide), getD_set ls (i := 0) (j := 14) (by decide), getD_set ls (i := 0) (j := 15) (by decide), getD_set ls (i := 0) (j := 16) (by decide), getD_set ls (i := 0) (j := 17) (by decide), getD_set ls (i := 0) (j := 18) (by decide), getD_set ls (i := 0) (j := 19) (by decide), getD_set ls (i := 0) (j := 20) (by decide), getD_set ls (i := 0) (j := 21) (by decide), getD_set ls (i := 0) (j := 22) (by decide), getD_set ls (i := 0) (j := 23) (by decide), getD_set ls (i := 0) (j := 24) (by decide)]
      exact ⟨v4, _, v6, v7, v8, v9, v10, v11, v12, v13, v14, v15, v16, v17, v18, v19, v20, v21, v22, v23, v24, v25, v26, v27, v28, rfl, by simp [hl], hB, fun _ => rfl, zg1, zg2, zg3, zg4, zg5, zg6, zg7, zg8, zg9, zg10, zg11, zg12, zg13, zg14, zg15, zg16, zg17, zg18, zg19, zg20, zg21, zg22, zg23, zg24⟩
    · rintro ls ac w' hr ⟨v4, v5, v6, v7, v8, v9, v10, v11, v12, v13, v14, v15, v16, v17, v18, v19, v20, v21, v22, v23, v24, v25, v26, v27, v28, rfl, hl, hB, zg0, zg1, zg2, zg3, zg4, zg5, zg6, zg7, zg8, zg9, zg10, zg11, zg12, zg13, zg14, zg15, zg16, zg17, zg18, zg19, zg20, zg21, zg22, zg23, zg24⟩
      have zd0 : ls.getD 0 false = true := (ready_dep hr rfl).2 ⟨0, .data⟩ (by simp) rfl
      obtain rfl := zg0 zd0
      have a0 := (hB.cell (ltc c0)).trans c0
      have a1 := (hB.cell (ltc c1)).trans c1
      have a2 := (hB.cell (ltc c2)).trans c2
      have a3 := (hB.cell (ltc ct)).trans ct
      have a4 := (hB.cell (ltc ck)).trans ck
      have a5 := (hB.cell (ltc cs)).trans cs
      have a6 := (hB.cell (ltc ca)).trans ca
      refine wpOp_step rfl (fun K hK => ?_)
      clear hr
      go_simp
      refine hK _ _ ?_
      simp only [getD_own (l := ls) (i := 1) (by omega), getD_set ls (i := 1) (j := 0) (by decide), getD_set ls (i := 1) (j := 2) (by decide), getD_set ls (i := 1) (j := 3) (by decide), getD_set ls (i := 1) (j := 4) (by decide), getD_set ls (i := 1) (j := 5) (by decide), getD_set ls (i := 1) (j := 6) (by decide), getD_set ls (i := 1) (j := 7) (by decide), getD_set ls (i := 1) (j := 8) (by decide), getD_set ls (i := 1) (j := 9) (by decide), getD_set ls (i := 1) (j := 10) (by decide), getD_set ls (i := 1) (j := 11) (by decide), getD_set ls (i := 1) (j := 12) (by decide), getD_set ls (i := 1) (j := 13) (by decide), getD_set ls (i := 1) (j := 14) (by decide), getD_set ls (i := 1) (j := 15) (by decide), getD_set ls (i := 1) (j := 16) (by decide), getD_set ls (i := 1) (j := 17) (by decide), getD_set ls (i := 1) (j := 18) (by decide), getD_set ls (i := 1) (j := 19) (by decide), getD_set ls (i := 1) (j := 20) (by decide), getD_set ls (i := 1) (j := 21) (by decide), getD_set ls (i := 1) (j := 22) (by decide), getD_set ls (i := 1) (j := 23) (by decide), getD_set ls (i := 1) (j := 24) (by decide)]
      exact ⟨v4, _, _, v7, v8, v9, v10, v11, v12, v13, v14, v15, v16, v17, v18, v19, v20, v21, v22, v23, v24, v25, v26, v27, v28, rfl, by simp [hl], hB, fun _ => rfl, fun _ => rfl, zg2, zg3, zg4, zg5, zg6, zg7, zg8, zg9, zg10, zg11, zg12, zg13, zg14, zg15, zg16, zg17, zg18, zg19, zg20, zg21, zg22, zg23, zg24⟩
    · rintro ls ac w' hr ⟨v4, v5, v6, v7, v8, v9, v10, v11, v12, v13, v14, v15, v16, v17, v18, v19, v20, v21, v22, v23, v24, v25, v26, v27, v28, rfl, hl, hB, zg0, zg1, zg2, zg3, zg4, zg5, zg6, zg7, zg8, zg9, zg10, zg11, zg12, zg13, zg14, zg15, zg16, zg17, zg18, zg19, zg20, zg21, zg22, zg23, zg24⟩
      have zd1 : ls.getD 1 false = true := (ready_dep hr rfl).2 ⟨1, .data⟩ (by simp) rfl
      obtain rfl := zg1 zd1
      refine wpOp_step rfl (fun K hK => ?_)
      clear hr
      go_simp
      refine hK _ _ ?_
      simp only [getD_own (l := ls) (i := 2) (by omega), getD_set ls (i := 2) (j := 0) (by decide), getD_set ls (i := 2) (j := 1) (by decide), getD_set ls (i := 2) (j := 3) (by decide), getD_set ls (i := 2) (j := 4) (by decide), getD_set ls (i := 2) (j := 5) (by decide), getD_set ls (i := 2) (j := 6) (by decide), getD_set ls (i := 2) (j := 7) (by decide), getD_set ls (i := 2) (j := 8) (by decide), getD_set ls (i := 2) (j := 9) (by decide), getD_set ls (i := 2) (j := 10) (by decide), getD_set ls (i := 2) (j := 11) (by decide), getD_set ls (i := 2) (j := 12) (by decide), getD_set ls (i := 2) (j := 13) (by decide), getD_set ls (i := 2) (j := 14) (by decide), getD_set ls (i := 2) (j := 15) (by decide), getD_set ls (i := 2) (j := 16) (by decide), getD_set ls (i := 2) (j := 17) (by decide), getD_set ls (i := 2) (j := 18) (by decide), getD_set ls (i := 2) (j := 19) (by decide), getD_set ls (i := 2) (j := 20) (by decide), getD_set ls (i := 2) (j := 21) (by decide), getD_set ls (i := 2) (j := 22) (by decide), getD_set ls (i := 2) (j := 23) (by decide), getD_set ls (i := 2) (j := 24) (by decide)]
      exact ⟨v4, v5, _, _, v8, v9, v10, v11, v12, v13, v14, v15, v16, v17, v18, v19, v20, v21, v22, v23, v24, v25, v26, v27, v28, rfl, by simp [hl], hB, zg0, fun _ => rfl, fun _ => rfl, zg3, zg4, zg5, zg6, zg7, zg8, zg9, zg10, zg11, zg12, zg13, zg14, zg15, zg16, zg17, zg18, zg19, zg20, zg21, zg22, zg23, zg24⟩
    · rintro ls ac w' hr ⟨v4, v5, v6, v7, v8, v9, v10, v11, v12, v13, v14, v15, v16, v17, v18, v19, v20, v21, v22, v23, v24, v25, v26, v27, v28, rfl, hl, hB, zg0, zg1, zg2, zg3, zg4, zg5, zg6, zg7, zg8, zg9, zg10, zg11, zg12, zg13, zg14, zg15, zg16, zg17, zg18, zg19, zg20, zg21, zg22, zg23, zg24⟩
      have zd2 : ls.getD 2 false = true := (ready_dep hr rfl).2 ⟨2, .guard⟩ (by simp) rfl
      obtain rfl := zg2 zd2
      have a0 := (hB.cell (ltc c0)).trans c0
      have a1 := (hB.cell (ltc c1)).trans c1
      have a2 := (hB.cell (ltc c2)).trans c2
      have a3 := (hB.cell (ltc ct)).trans ct
      have a4 := (hB.cell (ltc ck)).trans ck
      have a5 := (hB.cell (ltc cs)).trans cs
      have a6 := (hB.cell (ltc ca)).trans ca
      refine wpOp_step rfl (fun K hK => ?_)
      clear hr
      go_simp
      refine hK _ _ ?_
      simp only [getD_own (l := ls) (i := 3) (by omega), getD_set ls (i := 3) (j := 0) (by decide), getD_set ls (i := 3) (j := 1) (by decide), getD_set ls (i := 3) (j := 2) (by decide), getD_set ls (i := 3) (j := 4) (by decide), getD_set ls (i := 3) (j := 5) (by decide), getD_set ls (i := 3) (j := 6) (by decide), getD_set ls (i := 3) (j := 7) (by decide), getD_set ls (i := 3) (j := 8) (by decide), getD_set ls (i := 3) (j := 9) (by decide), getD_set ls (i := 3) (j := 10) (by decide), getD_set ls (i := 3) (j := 11) (by decide), getD_set ls (i := 3) (j := 12) (by decide), getD_set ls (i := 3) (j := 13) (by decide), getD_set ls (i := 3) (j := 14) (by decide), getD_set ls (i := 3) (j := 15) (by decide), getD_set ls (i := 3) (j := 16) (by decide), getD_set ls (i := 3) (j := 17) (by decide), getD_set ls (i := 3) (j := 18) (by decide), getD_set ls (i := 3) (j := 19) (by decide), getD_set ls (i := 3) (j := 20) (by decide), getD_set ls (i := 3) (j := 21) (by decide), getD_set ls (i := 3) (j := 22) (by decide), getD_set ls (i := 3) (j := 23) (by decide), getD_set ls (i := 3) (j := 24) (by decide)]
      exact ⟨v4, v5, v6, _, _, v9, v10, v11, v12, v13, v14, v15, v16, v17, v18, v19, v20, v21, v22, v23, v24, v25, v26, v27, v28, rfl, by simp [hl], hB, zg0, zg1, fun _ => rfl, fun _ => rfl, zg4, zg5, zg6, zg7, zg8, zg9, zg10, zg11, zg12, zg13, zg14, zg15, zg16, zg17, zg18, zg19, zg20, zg21, zg22, zg23, zg24⟩
    · rintro ls ac w' hr ⟨v4, v5, v6, v7, v8, v9, v10, v11, v12, v13, v14, v15, v16, v17, v18, v19, v20, v21, v22, v23, v24, v25, v26, v27, v28, rfl, hl, hB, zg0, zg1, zg2, zg3, zg4, zg5, zg6, zg7, zg8, zg9, zg10, zg11, zg12, zg13, zg14, zg15, zg16, zg17, zg18, zg19, zg20, zg21, zg22, zg23, zg24⟩
      have zd3 : ls.getD 3 false = true := (ready_dep hr rfl).2 ⟨3, .data⟩ (by simp) rfl
      have zd2 : ls.getD 2 false = true := (ready_dep hr rfl).2 ⟨2, .guard⟩ (by simp) rfl
      obtain rfl := zg3 zd3
      obtain rfl := zg2 zd2
      refine wpOp_step rfl (fun K hK => ?_)
      clear hr
      go_simp
      refine (Right_is _ _ _ _ HQ _).mono ?_
      rintro e w1 ⟨rfl, hk⟩
      dsimp only
      refine hK _ _ ?_
      simp only [getD_own (l := ls) (i := 4) (by omega), getD_set ls (i := 4) (j := 0) (by decide), getD_set ls (i := 4) (j := 1) (by decide), getD_set ls (i := 4) (j := 2) (by decide), getD_set ls (i := 4) (j := 3) (by decide), getD_set ls (i := 4) (j := 5) (by decide), getD_set ls (i := 4) (j := 6) (by decide), getD_set ls (i := 4) (j := 7) (by decide), getD_set ls (i := 4) (j := 8) (by decide), getD_set ls (i := 4) (j := 9) (by decide), getD_set ls (i := 4) (j := 10) (by decide), getD_set ls (i := 4) (j := 11) (by decide), getD_set ls (i := 4) (j := 12) (by decide), getD_set ls (i := 4) (j := 13) (by decide), getD_set ls (i := 4) (j := 14) (by decide), getD_set ls (i := 4) (j := 15) (by decide), getD_set ls (i := 4) (j := 16) (by decide), getD_set ls (i := 4) (j := 17) (by decide), getD_set ls (i := 4) (j := 18) (by decide), getD_set ls (i := 4) (j := 19) (by decide), getD_set ls (i := 4) (j := 20) (by decide), getD_set ls (i := 4) (j := 21) (by decide), getD_set ls (i := 4) (j := 22) (by decide), getD_set ls (i := 4) (j := 23) (by decide), getD_set ls (i := 4) (j := 24) (by decide)]
      exact ⟨v4, v5, v6, _, _, _, v10, v11, v12, v13, v14, v15, v16, v17, v18, v19, v20, v21, v22, v23, v24, v25, v26, v27, v28, rfl, by simp [hl], bstep hB hk, zg0, zg1, fun _ => rfl, fun _ => rfl, fun _ => rfl, zg5, zg6, zg7, zg8, zg9, zg10, zg11, zg12, zg13, zg14, zg15, zg16, zg17, zg18, zg19, zg20, zg21, zg22, zg23, zg24⟩
    · rintro ls ac w' hr ⟨v4, v5, v6, v7, v8, v9, v10, v11, v12, v13, v14, v15, v16, v17, v18, v19, v20, v21, v22, v23, v24, v25, v26, v27, v28, rfl, hl, hB, zg0, zg1, zg2, zg3, zg4, zg5, zg6, zg7, zg8, zg9, zg10, zg11, zg12, zg13, zg14, zg15, zg16, zg17, zg18, zg19, zg20, zg21, zg22, zg23, zg24⟩
      have zd2 : ls.getD 2 false = true := (ready_dep hr rfl).2 ⟨2, .data⟩ (by simp) rfl
      have zd4 : ls.getD 4 false = true := (ready_dep hr rfl).2 ⟨4, .data⟩ (by simp) rfl
      obtain rfl := zg2 zd2
      obtain rfl := zg4 zd4
      refine wpOp_step rfl (fun K hK => ?_)
      clear hr
      go_simp
      refine hK _ _ ?_
      simp only [getD_own (l := ls) (i := 5) (by omega), getD_set ls (i := 5) (j := 0) (by decide), getD_set ls (i := 5) (j := 1) (by decide), getD_set ls (i := 5) (j := 2) (by decide), getD_set ls (i := 5) (j := 3) (by decide), getD_set ls (i := 5) (j := 4) (by decide), getD_set ls (i := 5) (j := 6) (by decide), getD_set ls (i := 5) (j := 7) (by decide), getD_set ls (i := 5) (j := 8) (by decide), getD_set ls (i := 5) (j := 9) (by decide), getD_set ls (i := 5) (j := 10) (by decide), getD_set ls (i := 5) (j := 11) (by decide), getD_set ls (i := 5) (j := 12) (by decide), getD_set ls (i := 5) (j := 13) (by decide), getD_set ls (i := 5) (j := 14) (by decide), getD_set ls (i := 5) (j := 15) (by decide), getD_set ls (i := 5) (j := 16) (by decide), getD_set ls (i := 5) (j := 17) (by decide), getD_set ls (i := 5) (j := 18) (by decide), getD_set ls (i := 5) (j := 19) (by decide), getD_set ls (i := 5) (j := 20) (by decide), getD_set ls (i := 5) (j := 21) (by decide), getD_set ls (i := 5) (j := 22) (by decide), getD_set ls (i := 5) (j := 23) (by decide), getD_set ls (i := 5) (j := 24) (by decide)]
      exact ⟨v4, v5, v6, _, v8, _, _, v11, v12, v13, v14, v15, v16, v17, v18, v19, v20, v21, v22, v23, v24, v25, v26, v27, v28, rfl, by simp [hl], hB, zg0, zg1, fun _ => rfl, zg3, fun _ => rfl, fun _ => rfl, zg6, zg7, zg8, zg9, zg10, zg11, zg12, zg13, zg14, zg15, zg16, zg17, zg18, zg19, zg20, zg21, zg22, zg23, zg24⟩
    · rintro ls ac w' hr ⟨v4, v5, v6, v7, v8, v9, v10, v11, v12, v13, v14, v15, v16, v17, v18, v19, v20, v21, v22, v23, v24, v25, v26, v27, v28, rfl, hl, hB, zg0, zg1, zg2, zg3, zg4, zg5, zg6, zg7, zg8, zg9, zg10, zg11, zg12, zg13, zg14, zg15, zg16, zg17, zg18, zg19, zg20, zg21, zg22, zg23, zg24⟩
      have zd5 : ls.getD 5 false = true := (ready_dep hr rfl).2 ⟨5, .data⟩ (by simp) rfl
      obtain rfl := zg5 zd5
      refine wpOp_step rfl (fun K hK => ?_)
      clear hr
      go_simp
      refine hK _ _ ?_
      simp only [getD_own (l := ls) (i := 6) (by omega), getD_set ls (i := 6) (j := 0) (by decide), getD_set ls (i := 6) (j := 1) (by decide), getD_set ls (i := 6) (j := 2) (by decide), getD_set ls (i := 6) (j := 3) (by decide), getD_set ls (i := 6) (j := 4) (by decide), getD_set ls (i := 6) (j := 5) (by decide), getD_set ls (i := 6) (j := 7) (by decide), getD_set ls (i := 6) (j := 8) (by decide), getD_set ls (i := 6) (j := 9) (by decide), getD_set ls (i := 6) (j := 10) (by decide), getD_set ls (i := 6) (j := 11) (by decide), getD_set ls (i := 6) (j := 12) (by decide), getD_set ls (i := 6) (j := 13) (by decide), getD_set ls (i := 6) (j := 14) (by decide), getD_set ls (i := 6) (j := 15) (by decide), getD_set ls (i := 6) (j := 16) (by decide), getD_set ls (i := 6) (j := 17) (by decide), getD_set ls (i := 6) (j := 18) (by decide), getD_set ls (i := 6) (j := 19) (by decide), getD_set ls (i := 6) (j := 20) (by decide), getD_set ls (i := 6) (j := 21) (by decide), getD_set ls (i := 6) (j := 22) (by decide), getD_set ls (i := 6) (j := 23) (by decide), getD_set ls (i := 6) (j := 24) (by decide)]
      exact ⟨v4, v5, v6, v7, v8, v9, _, _, v12, v13, v14, v15, v16, v17, v18, v19, v20, v21, v22, v23, v24, v25, v26, v27, v28, rfl, by simp [hl], hB, zg0, zg1, zg2, zg3, zg4, fun _ => rfl, fun _ => rfl, zg7, zg8, zg9, zg10, zg11, zg12, zg13, zg14, zg15, zg16, zg17, zg18, zg19, zg20, zg21, zg22, zg23, zg24⟩
    · rintro ls ac w' hr ⟨v4, v5, v6, v7, v8, v9, v10, v11, v12, v13, v14, v15, v16, v17, v18, v19, v20, v21, v22, v23, v24, v25, v26, v27, v28, rfl, hl, hB, zg0, zg1, zg2, zg3, zg4, zg5, zg6, zg7, zg8, zg9, zg10, zg11, zg12, zg13, zg14, zg15, zg16, zg17, zg18, zg19, zg20, zg21, zg22, zg23, zg24⟩
      have zd6 : ls.getD 6 false = true := (ready_dep hr rfl).2 ⟨6, .guard⟩ (by simp) rfl
      obtain rfl := zg6 zd6
      have a0 := (hB.cell (ltc c0)).trans c0
      have a1 := (hB.cell (ltc c1)).trans c1
      have a2 := (hB.cell (ltc c2)).trans c2
      have a3 := (hB.cell (ltc ct)).trans ct
      have a4 := (hB.cell (ltc ck)).trans ck
      have a5 := (hB.cell (ltc cs)).trans cs
      have a6 := (hB.cell (ltc ca)).trans ca
      refine wpOp_step rfl (fun K hK => ?_)
      clear hr
      go_simp
      refine hK _ _ ?_
      simp only [getD_own (l := ls) (i := 7) (by omega), getD_set ls (i := 7) (j := 0) (by decide), getD_set ls (i := 7) (j := 1) (by decide), getD_set ls (i := 7) (j := 2) (by decide), getD_set ls (i := 7) (j := 3) (by decide), getD_set ls (i := 7) (j := 4) (by decide), getD_set ls (i := 7) (j := 5) (by decide), getD_set ls (i := 7) (j := 6) (by decide), getD_set ls (i := 7) (j := 8) (by decide), getD_set ls (i := 7) (j := 9) (by decide), getD_set ls (i := 7) (j := 10) (by decide), getD_set ls (i := 7) (j := 11) (by decide), getD_set ls (i := 7) (j := 12) (by decide), getD_set ls (i := 7) (j := 13) (by decide), getD_set ls (i := 7) (j := 14) (by decide), getD_set ls (i := 7) (j := 15) (by decide), getD_set ls (i := 7) (j := 16) (by decide), getD_set ls (i := 7) (j := 17) (by decide), getD_set ls (i := 7) (j := 18) (by decide), getD_set ls (i := 7) (j := 19) (by decide), getD_set ls (i := 7) (j := 20) (by decide), getD_set ls (i := 7) (j := 21) (by decide), getD_set ls (i := 7) (j := 22) (by decide), getD_set ls (i := 7) (j := 23) (by decide), getD_set ls (i := 7) (j := 24) (by decide)]
      exact ⟨v4, v5, v6, v7, v8, v9, v10, _, _, v13, v14, v15, v16, v17, v18, v19, v20, v21, v22, v23, v24, v25, v26, v27, v28, rfl, by simp [hl], hB, zg0, zg1, zg2, zg3, zg4, zg5, fun _ => rfl, fun _ => rfl, zg8, zg9, zg10, zg11, zg12, zg13, zg14, zg15, zg16, zg17, zg18, zg19, zg20, zg21, zg22, zg23, zg24⟩
    · rintro ls ac w' hr ⟨v4, v5, v6, v7, v8, v9, v10, v11, v12, v13, v14, v15, v16, v17, v18, v19, v20, v21, v22, v23, v24, v25, v26, v27, v28, rfl, hl, hB, zg0, zg1, zg2, zg3, zg4, zg5, zg6, zg7, zg8, zg9, zg10, zg11, zg12, zg13, zg14, zg15, zg16, zg17, zg18, zg19, zg20, zg21, zg22, zg23, zg24⟩
      have zd7 : ls.getD 7 false = true := (ready_dep hr rfl).2 ⟨7, .data⟩ (by simp) rfl
      have zd6 : ls.getD 6 false = true := (ready_dep hr rfl).2 ⟨6, .guard⟩ (by simp) rfl
      obtain rfl := zg7 zd7
      obtain rfl := zg6 zd6
      refine wpOp_step rfl (fun K hK => ?_)
      clear hr
      go_simp
      refine hK _ _ ?_
      simp only [getD_own (l := ls) (i := 8) (by omega), getD_set ls (i := 8) (j := 0) (by decide), getD_set ls (i := 8) (j := 1) (by decide), getD_set ls (i := 8) (j := 2) (by decide), getD_set ls (i := 8) (j := 3) (by decide), getD_set ls (i := 8) (j := 4) (by decide), getD_set ls (i := 8) (j := 5) (by decide), getD_set ls (i := 8) (j := 6) (by decide), getD_set ls (i := 8) (j := 7) (by decide), getD_set ls (i := 8) (j := 9) (by decide), getD_set ls (i := 8) (j := 10) (by decide), getD_set ls (i := 8) (j := 11) (by decide), getD_set ls (i := 8) (j := 12) (by decide), getD_set ls (i := 8) (j := 13) (by decide), getD_set ls (i := 8) (j := 14) (by decide), getD_set ls (i := 8) (j := 15) (by decide), getD_set ls (i := 8) (j := 16) (by decide), getD_set ls (i := 8) (j := 17) (by decide), getD_set ls (i := 8) (j := 18) (by decide), getD_set ls (i := 8) (j := 19) (by decide), getD_set ls (i := 8) (j := 20) (by decide), getD_set ls (i := 8) (j := 21) (by decide), getD_set ls (i := 8) (j := 22) (by decide), getD_set ls (i := 8) (j := 23) (by decide), getD_set ls (i := 8) (j := 24) (by decide)]
      exact ⟨v4, v5, v6, v7, v8, v9, v10, _, _, _, v14, v15, v16, v17, v18, v19, v20, v21, v22, v23, v24, v25, v26, v27, v28, rfl, by simp [hl], hB, zg0, zg1, zg2, zg3, zg4, zg5, fun _ => rfl, fun _ => rfl, fun _ => rfl, zg9, zg10, zg11, zg12, zg13, zg14, zg15, zg16, zg17, zg18, zg19, zg20, zg21, zg22, zg23, zg24⟩
    · rintro ls ac w' hr ⟨v4, v5, v6, v7, v8, v9, v10, v11, v12, v13, v14, v15, v16, v17, v18, v19, v20, v21, v22, v23, v24, v25, v26, v27, v28, rfl, hl, hB, zg0, zg1, zg2, zg3, zg4, zg5, zg6, zg7, zg8, zg9, zg10, zg11, zg12, zg13, zg14, zg15, zg16, zg17, zg18, zg19, zg20, zg21, zg22, zg23, zg24⟩
      have zd8 : ls.getD 8 false = true := (ready_dep hr rfl).2 ⟨8, .data⟩ (by simp) rfl
      have zd6 : ls.getD 6 false = true := (ready_dep hr rfl).2 ⟨6, .guard⟩ (by simp) rfl
      obtain rfl := zg8 zd8
      obtain rfl := zg6 zd6
      refine wpOp_step rfl (fun K hK => ?_)
      clear hr
      go_simp
      refine hK _ _ ?_
      simp only [getD_own (l := ls) (i := 9) (by omega), getD_set ls (i := 9) (j := 0) (by decide), getD_set ls (i := 9) (j := 1) (by decide), getD_set ls (i := 9) (j := 2) (by decide), getD_set ls (i := 9) (j := 3) (by decide), getD_set ls (i := 9) (j := 4) (by decide), getD_set ls (i := 9) (j := 5) (by decide), getD_set ls (i := 9) (j := 6) (by decide), getD_set ls (i := 9) (j := 7) (by decide), getD_set ls (i := 9) (j := 8) (by decide), getD_set ls (i := 9) (j := 10) (by decide), getD_set ls (i := 9) (j := 11) (by decide), getD_set ls (i := 9) (j := 12) (by decide), getD_set ls (i := 9) (j := 13) (by decide), getD_set ls (i := 9) (j := 14) (by decide), getD_set ls (i := 9) (j := 15) (by decide), getD_set ls (i := 9) (j := 16) (by decide), getD_set ls (i := 9) (j := 17) (by decide), getD_set ls (i := 9) (j := 18) (by decide), getD_set ls (i := 9) (j := 19) (by decide), getD_set ls (i := 9) (j := 20) (by decide), getD_set ls (i := 9) (j := 21) (by decide), getD_set ls (i := 9) (j := 22) (by decide), getD_set ls (i := 9) (j := 23) (by decide), getD_set ls (i := 9) (j := 24) (by decide)]
      exact ⟨v4, v5, v6, v7, v8, v9, v10, _, v12, _, _, v15, v16, v17, v18, v19, v20, v21, v22, v23, v24, v25, v26, v27, v28, rfl, by simp [hl], hB, zg0, zg1, zg2, zg3, zg4, zg5, fun _ => rfl, zg7, fun _ => rfl, fun _ => rfl, zg10, zg11, zg12, zg13, zg14, zg15, zg16, zg17, zg18, zg19, zg20, zg21, zg22, zg23, zg24⟩
    · rintro ls ac w' hr ⟨v4, v5, v6, v7, v8, v9, v10, v11, v12, v13, v14, v15, v16, v17, v18, v19, v20, v21, v22, v23, v24, v25, v26, v27, v28, rfl, hl, hB, zg0, zg1, zg2, zg3, zg4, zg5, zg6, zg7, zg8, zg9, zg10, zg11, zg12, zg13, zg14, zg15, zg16, zg17, zg18, zg19, zg20, zg21, zg22, zg23, zg24⟩
      have zd6 : ls.getD 6 false = true := (ready_dep hr rfl).2 ⟨6, .data⟩ (by simp) rfl
      have zd9 : ls.getD 9 false = true := (ready_dep hr rfl).2 ⟨9, .data⟩ (by simp) rfl
      obtain rfl := zg6 zd6
      obtain rfl := zg9 zd9
      refine wpOp_step rfl (fun K hK => ?_)
      clear hr
      go_simp
      refine hK _ _ ?_
      simp only [getD_own (l := ls) (i := 10) (by omega), getD_set ls (i := 10) (j := 0) (by decide), getD_set ls (i := 10) (j := 1) (by decide), getD_set ls (i := 10) (j := 2) (by decide), getD_set ls (i := 10) (j := 3) (by decide), getD_set ls (i := 10) (j := 4) (by decide), getD_set ls (i := 10) (j := 5) (by decide), getD_set ls (i := 10) (j := 6) (by decide), getD_set ls (i := 10) (j := 7) (by decide), getD_set ls (i := 10) (j := 8) (by decide), getD_set ls (i := 10) (j := 9) (by decide), getD_set ls (i := 10) (j := 11) (by decide), getD_set ls (i := 10) (j := 12) (by decide), getD_set ls (i := 10) (j := 13) (by decide), getD_set ls (i := 10) (j := 14) (by decide), getD_set ls (i := 10) (j := 15) (by decide), getD_set ls (i := 10) (j := 16) (by decide), getD_set ls (i := 10) (j := 17) (by decide), getD_set ls (i := 10) (j := 18) (by decide), getD_set ls (i := 10) (j := 19) (by decide), getD_set ls (i := 10) (j := 20) (by decide), getD_set ls (i := 10) (j := 21) (by decide), getD_set ls (i := 10) (j := 22) (by decide), getD_set ls (i := 10) (j := 23) (by decide), getD_set ls (i := 10) (j := 24) (by decide)]
      exact ⟨v4, v5, v6, v7, v8, v9, v10, _, v12, v13, _, _, v16, v17, v18, v19, v20, v21, v22, v23, v24, v25, v26, v27, v28, rfl, by simp [hl], hB, zg0, zg1, zg2, zg3, zg4, zg5, fun _ => rfl, zg7, zg8, fun _ => rfl, fun _ => rfl, zg11, zg12, zg13, zg14, zg15, zg16, zg17, zg18, zg19, zg20, zg21, zg22, zg23, zg24⟩
    · rintro ls ac w' hr ⟨v4, v5, v6, v7, v8, v9, v10, v11, v12, v13, v14, v15, v16, v17, v18, v19, v20, v21, v22, v23, v24, v25, v26, v27, v28, rfl, hl, hB, zg0, zg1, zg2, zg3, zg4, zg5, zg6, zg7, zg8, zg9, zg10, zg11, zg12, zg13, zg14, zg15, zg16, zg17, zg18, zg19, zg20, zg21, zg22, zg23, zg24⟩
      have zd10 : ls.getD 10 false = true := (ready_dep hr rfl).2 ⟨10, .data⟩ (by simp) rfl
      obtain rfl := zg10 zd10
      refine wpOp_step rfl (fun K hK => ?_)
      clear hr
      go_simp
      refine hK _ _ ?_
      simp only [getD_own (l := ls) (i := 11) (by omega), getD_set ls (i := 11) (j := 0) (by decide), getD_set ls (i := 11) (j := 1) (by decide), getD_set ls (i := 11) (j := 2) (by decide), getD_set ls (i := 11) (j := 3) (by decide), getD_set ls (i := 11) (j := 4) (by decide), getD_set ls (i := 11) (j := 5) (by decide), getD_set ls (i := 11) (j := 6) (by decide), getD_set ls (i := 11) (j := 7) (by decide), getD_set ls (i := 11) (j := 8) (by decide), getD_set ls (i := 11) (j := 9) (by decide), getD_set ls (i := 11) (j := 10) (by decide), getD_set ls (i := 11) (j := 12) (by decide), getD_set ls (i := 11) (j := 13) (by decide), getD_set ls (i := 11) (j := 14) (by decide), getD_set ls (i := 11) (j := 15) (by decide), getD_set ls (i := 11) (j := 16) (by decide), getD_set ls (i := 11) (j := 17) (by decide), getD_set ls (i := 11) (j := 18) (by decide), getD_set ls (i := 11) (j := 19) (by decide), getD_set ls (i := 11) (j := 20) (by decide), getD_set ls (i := 11) (j := 21) (by decide), getD_set ls (i := 11) (j := 22) (by decide), getD_set ls (i := 11) (j := 23) (by decide), getD_set ls (i := 11) (j := 24) (by decide)]
      exact ⟨v4, v5, v6, v7, v8, v9, v10, v11, v12, v13, v14, _, _, v17, v18, v19, v20, v21, v22, v23, v24, v25, v26, v27, v28, rfl, by simp [hl], hB, zg0, zg1, zg2, zg3, zg4, zg5, zg6, zg7, zg8, zg9, fun _ => rfl, fun _ => rfl, zg12, zg13, zg14, zg15, zg16, zg17, zg18, zg19, zg20, zg21, zg22, zg23, zg24⟩
    · rintro ls ac w' hr ⟨v4, v5, v6, v7, v8, v9, v10, v11, v12, v13, v14, v15, v16, v17, v18, v19, v20, v21, v22, v23, v24, v25, v26, v27, v28, rfl, hl, hB, zg0, zg1, zg2, zg3, zg4, zg5, zg6, zg7, zg8, zg9, zg10, zg11, zg12, zg13, zg14, zg15, zg16, zg17, zg18, zg19, zg20, zg21, zg22, zg23, zg24⟩
      have zd11 : ls.getD 11 false = true := (ready_dep hr rfl).2 ⟨11, .guard⟩ (by simp) rfl
      obtain rfl := zg11 zd11
      have a0 := (hB.cell (ltc c0)).trans c0
      have a1 := (hB.cell (ltc c1)).trans c1
      have a2 := (hB.cell (ltc c2)).trans c2
      have a3 := (hB.cell (ltc ct)).trans ct
      have a4 := (hB.cell (ltc ck)).trans ck
      have a5 := (hB.cell (ltc cs)).trans cs
      have a6 := (hB.cell (ltc ca)).trans ca
      refine wpOp_step rfl (fun K hK => ?_)
      clear hr
      go_simp
      refine hK _ _ ?_
      simp only [getD_own (l := ls) (i := 12) (by omega), getD_set ls (i := 12) (j := 0) (by decide), getD_set ls (i := 12) (j := 1) (by decide), getD_set ls (i := 12) (j := 2) (by decide), getD_set ls (i := 12) (j := 3) (by decide), getD_set ls (i := 12) (j := 4) (by decide), getD_set ls (i := 12) (j := 5) (by decide), getD_set ls (i := 12) (j := 6) (by decide), getD_set ls (i := 12) (j := 7) (by decide), getD_set ls (i := 12) (j := 8) (by decide), getD_set ls (i := 12) (j := 9) (by decide), getD_set ls (i := 12) (j := 10) (by decide), getD_set ls (i := 12) (j := 11) (by decide), getD_set ls (i := 12) (j := 13) (by decide), getD_set ls (i := 12) (j := 14) (by decide), getD_set ls (i := 12) (j := 15) (by decide), getD_set ls (i := 12) (j := 16) (by decide), getD_set ls (i := 12) (j := 17) (by decide), getD_set ls (i := 12) (j := 18) (by decide), getD_set ls (i := 12) (j := 19) (by decide), getD_set ls (i := 12) (j := 20) (by decide), getD_set ls (i := 12) (j := 21) (by decide), getD_set ls (i := 12) (j := 22) (by decide), getD_set ls (i := 12) (j := 23) (by decide), getD_set ls (i := 12) (j := 24) (by decide)]
      exact ⟨v4, v5, v6, v7, v8, v9, v10, v11, v12, v13, v14, v15, _, _, v18, v19, v20, v21, v22, v23, v24, v25, v26, v27, v28, rfl, by simp [hl], hB, zg0, zg1, zg2, zg3, zg4, zg5, zg6, zg7, zg8, zg9, zg10, fun _ => rfl, fun _ => rfl, zg13, zg14, zg15, zg16, zg17, zg18, zg19, zg20, zg21, zg22, zg23, zg24⟩
    · rintro ls ac w' hr ⟨v4, v5, v6, v7, v8, v9, v10, v11, v12, v13, v14, v15, v16, v17, v18, v19, v20, v21, v22, v23, v24, v25, v26, v27, v28, rfl, hl, hB, zg0, zg1, zg2, zg3, zg4, zg5, zg6, zg7, zg8, zg9, zg10, zg11, zg12, zg13, zg14, zg15, zg16, zg17, zg18, zg19, zg20, zg21, zg22, zg23, zg24⟩
      have zd12 : ls.getD 12 false = true := (ready_dep hr rfl).2 ⟨12, .data⟩ (by simp) rfl
      have zd11 : ls.getD 11 false = true := (ready_dep hr rfl).2 ⟨11, .guard⟩ (by simp) rfl
      obtain rfl := zg12 zd12
      obtain rfl := zg11 zd11
      refine wpOp_step rfl (fun K hK => ?_)
      clear hr
      go_simp
      refine hK _ _ ?_
      simp only [getD_own (l := ls) (i := 13) (by omega), getD_set ls (i := 13) (j := 0) (by decide), getD_set ls (i := 13) (j := 1) (by decide), getD_set ls (i := 13) (j := 2) (by decide), getD_set ls (i := 13) (j := 3) (by decide), getD_set ls (i := 13) (j := 4) (by decide), getD_set ls (i := 13) (j := 5) (by decide), getD_set ls (i := 13) (j := 6) (by decide), getD_set ls (i := 13) (j := 7) (by decide), getD_set ls (i := 13) (j := 8) (by decide), getD_set ls (i := 13) (j := 9) (by decide), getD_set ls (i := 13) (j := 10) (by decide), getD_set ls (i := 13) (j := 11) (by decide), getD_set ls (i := 13) (j := 12) (by decide), getD_set ls (i := 13) (j := 14) (by decide), getD_set ls (i := 13) (j := 15) (by decide), getD_set ls (i := 13) (j := 16) (by decide), getD_set ls (i := 13) (j := 17) (by decide), getD_set ls (i := 13) (j := 18) (by decide), getD_set ls (i := 13) (j := 19) (by decide), getD_set ls (i := 13) (j := 20) (by decide), getD_set ls (i := 13) (j := 21) (by decide), getD_set ls (i := 13) (j := 22) (by decide), getD_set ls (i := 13) (j := 23) (by decide), getD_set ls (i := 13) (j := 24) (by decide)]
      exact ⟨v4, v5, v6, v7, v8, v9, v10, v11, v12, v13, v14, v15, _, _, _, v19, v20, v21, v22, v23, v24, v25, v26, v27, v28, rfl, by simp [hl], hB, zg0, zg1, zg2, zg3, zg4, zg5, zg6, zg7, zg8, zg9, zg10, fun _ => rfl, fun _ => rfl, fun _ => rfl, zg14, zg15, zg16, zg17, zg18, zg19, zg20, zg21, zg22, zg23, zg24⟩
    · rintro ls ac w' hr ⟨v4, v5, v6, v7, v8, v9, v10, v11, v12, v13, v14, v15, v16, v17, v18, v19, v20, v21, v22, v23, v24, v25, v26, v27, v28, rfl, hl, hB, zg0, zg1, zg2, zg3, zg4, zg5, zg6, zg7, zg8, zg9, zg10, zg11, zg12, zg13, zg14, zg15, zg16, zg17, zg18, zg19, zg20, zg21, zg22, zg23, zg24⟩
      have zd13 : ls.getD 13 false = true := (ready_dep hr rfl).2 ⟨13, .data⟩ (by simp) rfl
      have zd11 : ls.getD 11 false = true := (ready_dep hr rfl).2 ⟨11, .guard⟩ (by simp) rfl
      obtain rfl := zg13 zd13
      obtain rfl := zg11 zd11
      refine wpOp_step rfl (fun K hK => ?_)
      clear hr
      go_simp
      refine hK _ _ ?_
      simp only [getD_own (l := ls) (i := 14) (by omega), getD_set ls (i := 14) (j := 0) (by decide), getD_set ls (i := 14) (j := 1) (by decide), getD_set ls (i := 14) (j := 2) (by decide), getD_set ls (i := 14) (j := 3) (by decide), getD_set ls (i := 14) (j := 4) (by decide), getD_set ls (i := 14) (j := 5) (by decide), getD_set ls (i := 14) (j := 6) (by decide), getD_set ls (i := 14) (j := 7) (by decide), getD_set ls (i := 14) (j := 8) (by decide), getD_set ls (i := 14) (j := 9) (by decide), getD_set ls (i := 14) (j := 10) (by decide), getD_set ls (i := 14) (j := 11) (by decide), getD_set ls (i := 14) (j := 12) (by decide), getD_set ls (i := 14) (j := 13) (by decide), getD_set ls (i := 14) (j := 15) (by decide), getD_set ls (i := 14) (j := 16) (by decide), getD_set ls (i := 14) (j := 17) (by decide), getD_set ls (i := 14) (j := 18) (by decide), getD_set ls (i := 14) (j := 19) (by decide), getD_set ls (i := 14) (j := 20) (by decide), getD_set ls (i := 14) (j := 21) (by decide), getD_set ls (i := 14) (j := 22) (by decide), getD_set ls (i := 14) (j := 23) (by decide), getD_set ls (i := 14) (j := 24) (by decide)]
      exact ⟨v4, v5, v6, v7, v8, v9, v10, v11, v12, v13, v14, v15, _, v17, _, _, v20, v21, v22, v23, v24, v25, v26, v27, v28, rfl, by simp [hl], hB, zg0, zg1, zg2, zg3, zg4, zg5, zg6, zg7, zg8, zg9, zg10, fun _ => rfl, zg12, fun _ => rfl, fun _ => rfl, zg15, zg16, zg17, zg18, zg19, zg20, zg21, zg22, zg23, zg24⟩
    · rintro ls ac w' hr ⟨v4, v5, v6, v7, v8, v9, v10, v11, v12, v13, v14, v15, v16, v17, v18, v19, v20, v21, v22, v23, v24, v25, v26, v27, v28, rfl, hl, hB, zg0, zg1, zg2, zg3, zg4, zg5, zg6, zg7, zg8, zg9, zg10, zg11, zg12, zg13, zg14, zg15, zg16, zg17, zg18, zg19, zg20, zg21, zg22, zg23, zg24⟩
      have zd14 : ls.getD 14 false = true := (ready_dep hr rfl).2 ⟨14, .guard⟩ (by simp) rfl
      obtain rfl := zg14 zd14
      have a0 := (hB.cell (ltc c0)).trans c0
      have a1 := (hB.cell (ltc c1)).trans c1
      have a2 := (hB.cell (ltc c2)).trans c2
      have a3 := (hB.cell (ltc ct)).trans ct
      have a4 := (hB.cell (ltc ck)).trans ck
      have a5 := (hB.cell (ltc cs)).trans cs
      have a6 := (hB.cell (ltc ca)).trans ca
      refine wpOp_step rfl (fun K hK => ?_)
      clear hr
      go_simp
      refine hK _ _ ?_
      simp only [getD_own (l := ls) (i := 15) (by omega), getD_set ls (i := 15) (j := 0) (by decide), getD_set ls (i := 15) (j := 1) (by decide), getD_set ls (i := 15) (j := 2) (by decide), getD_set ls (i := 15) (j := 3) (by decide), getD_set ls (i := 15) (j := 4) (by decide), getD_set ls (i := 15) (j := 5) (by decide), getD_set ls (i := 15) (j := 6) (by decide), getD_set ls (i := 15) (j := 7) (by decide), getD_set ls (i := 15) (j := 8) (by decide), getD_set ls (i := 15) (j := 9) (by decide), getD_set ls (i := 15) (j := 10) (by decide), getD_set ls (i := 15) (j := 11) (by decide), getD_set ls (i := 15) (j := 12) (by decide), getD_set ls (i := 15) (j := 13) (by decide), getD_set ls (i := 15) (j := 14) (by decide), getD_set ls (i := 15) (j := 16) (by decide), getD_set ls (i := 15) (j := 17) (by decide), getD_set ls (i := 15) (j := 18) (by decide), getD_set ls (i := 15) (j := 19) (by decide), getD_set ls (i := 15) (j := 20) (by decide), getD_set ls (i := 15) (j := 21) (by decide), getD_set ls (i := 15) (j := 22) (by decide), getD_set ls (i := 15) (j := 23) (by decide), getD_set ls (i := 15) (j := 24) (by decide)]
      exact ⟨v4, v5, v6, v7, v8, v9, v10, v11, v12, v13, v14, v15, v16, v17, v18, _, _, v21, v22, v23, v24, v25, v26, v27, v28, rfl, by simp [hl], hB, zg0, zg1, zg2, zg3, zg4, zg5, zg6, zg7, zg8, zg9, zg10, zg11, zg12, zg13, fun _ => rfl, fun _ => rfl, zg16, zg17, zg18, zg19, zg20, zg21, zg22, zg23, zg24⟩
    · rintro ls ac w' hr ⟨v4, v5, v6, v7, v8, v9, v10, v11, v12, v13, v14, v15, v16, v17, v18, v19, v20, v21, v22, v23, v24, v25, v26, v27, v28, rfl, hl, hB, zg0, zg1, zg2, zg3, zg4, zg5, zg6, zg7, zg8, zg9, zg10, zg11, zg12, zg13, zg14, zg15, zg16, zg17, zg18, zg19, zg20, zg21, zg22, zg23, zg24⟩
      have zd14 : ls.getD 14 false = true := (ready_dep hr rfl).2 ⟨14, .guard⟩ (by simp) rfl
      obtain rfl := zg14 zd14
      have a0 := (hB.cell (ltc c0)).trans c0
      have a1 := (hB.cell (ltc c1)).trans c1
      have a2 := (hB.cell (ltc c2)).trans c2
      have a3 := (hB.cell (ltc ct)).trans ct
      have a4 := (hB.cell (ltc ck)).trans ck
      have a5 := (hB.cell (ltc cs)).trans cs
      have a6 := (hB.cell (ltc ca)).trans ca
      refine wpOp_step rfl (fun K hK => ?_)
      clear hr
      go_simp
      refine hK _ _ ?_
      simp only [getD_own (l := ls) (i := 16) (by omega), getD_set ls (i := 16) (j := 0) (by decide), getD_set ls (i := 16) (j := 1) (by decide), getD_set ls (i := 16) (j := 2) (by decide), getD_set ls (i := 16) (j := 3) (by decide), getD_set ls (i := 16) (j := 4) (by decide), getD_set ls (i := 16) (j := 5) (by decide), getD_set ls (i := 16) (j := 6) (by decide), getD_set ls (i := 16) (j := 7) (by decide), getD_set ls (i := 16) (j := 8) (by decide), getD_set ls (i := 16) (j := 9) (by decide), getD_set ls (i := 16) (j := 10) (by decide), getD_set ls (i := 16) (j := 11) (by decide), getD_set ls (i := 16) (j := 12) (by decide), getD_set ls (i := 16) (j := 13) (by decide), getD_set ls (i := 16) (j := 14) (by decide), getD_set ls (i := 16) (j := 15) (by decide), getD_set ls (i := 16) (j := 17) (by decide), getD_set ls (i := 16) (j := 18) (by decide), getD_set ls (i := 16) (j := 19) (by decide), getD_set ls (i := 16) (j := 20) (by decide), getD_set ls (i := 16) (j := 21) (by decide), getD_set ls (i := 16) (j := 22) (by decide), getD_set ls (i := 16) (j := 23) (by decide), getD_set ls (i := 16) (j := 24) (by decide)]
      exact ⟨v4, v5, v6, v7, v8, v9, v10, v11, v12, v13, v14, v15, v16, v17, v18, _, v20, _, v22, v23, v24, v25, v26, v27, v28, rfl, by simp [hl], hB, zg0, zg1, zg2, zg3, zg4, zg5, zg6, zg7, zg8, zg9, zg10, zg11, zg12, zg13, fun _ => rfl, zg15, fun _ => rfl, zg17, zg18, zg19, zg20, zg21, zg22, zg23, zg24⟩
    · rintro ls ac w' hr ⟨v4, v5, v6, v7, v8, v9, v10, v11, v12, v13, v14, v15, v16, v17, v18, v19, v20, v21, v22, v23, v24, v25, v26, v27, v28, rfl, hl, hB, zg0, zg1, zg2, zg3, zg4, zg5, zg6, zg7, zg8, zg9, zg10, zg11, zg12, zg13, zg14, zg15, zg16, zg17, zg18, zg19, zg20, zg21, zg22, zg23, zg24⟩
      have zd16 : ls.getD 16 false = true := (ready_dep hr rfl).2 ⟨16, .data⟩ (by simp) rfl
      have zd14 : ls.getD 14 false = true := (ready_dep hr rfl).2 ⟨14, .guard⟩ (by simp) rfl
      obtain rfl := zg16 zd16
      obtain rfl := zg14 zd14
      refine wpOp_step rfl (fun K hK => ?_)
      clear hr
      go_simp
      refine hK _ _ ?_
      simp only [getD_own (l := ls) (i := 17) (by omega), getD_set ls (i := 17) (j := 0) (by decide), getD_set ls (i := 17) (j := 1) (by decide), getD_set ls (i := 17) (j := 2) (by decide), getD_set ls (i := 17) (j := 3) (by decide), getD_set ls (i := 17) (j := 4) (by decide), getD_set ls (i := 17) (j := 5) (by decide), getD_set ls (i := 17) (j := 6) (by decide), getD_set ls (i := 17) (j := 7) (by decide), getD_set ls (i := 17) (j := 8) (by decide), getD_set ls (i := 17) (j := 9) (by decide), getD_set ls (i := 17) (j := 10) (by decide), getD_set ls (i := 17) (j := 11) (by decide), getD_set ls (i := 17) (j := 12) (by decide), getD_set ls (i := 17) (j := 13) (by decide), getD_set ls (i := 17) (j := 14) (by decide), getD_set ls (i := 17) (j := 15) (by decide), getD_set ls (i := 17) (j := 16) (by decide), getD_set ls (i := 17) (j := 18) (by decide), getD_set ls (i := 17) (j := 19) (by decide), getD_set ls (i := 17) (j := 20) (by decide), getD_set ls (i := 17) (j := 21) (by decide), getD_set ls (i := 17) (j := 22) (by decide), getD_set ls (i := 17) (j := 23) (by decide), getD_set ls (i := 17) (j := 24) (by decide)]
      exact ⟨v4, v5, v6, v7, v8, v9, v10, v11, v12, v13, v14, v15, v16, v17, v18, _, v20, _, _, v23, v24, v25, v26, v27, v28, rfl, by simp [hl], hB, zg0, zg1, zg2, zg3, zg4, zg5, zg6, zg7, zg8, zg9, zg10, zg11, zg12, zg13, fun _ => rfl, zg15, fun _ => rfl, fun _ => rfl, zg18, zg19, zg20, zg21, zg22, zg23, zg24⟩
    · rintro ls ac w' hr ⟨v4, v5, v6, v7, v8, v9, v10, v11, v12, v13, v14, v15, v16, v17, v18, v19, v20, v21, v22, v23, v24, v25, v26, v27, v28, rfl, hl, hB, zg0, zg1, zg2, zg3, zg4, zg5, zg6, zg7, zg8, zg9, zg10, zg11, zg12, zg13, zg14, zg15, zg16, zg17, zg18, zg19, zg20, zg21, zg22, zg23, zg24⟩
      have zd17 : ls.getD 17 false = true := (ready_dep hr rfl).2 ⟨17, .data⟩ (by simp) rfl
      have zd14 : ls.getD 14 false = true := (ready_dep hr rfl).2 ⟨14, .guard⟩ (by simp) rfl
      obtain rfl := zg17 zd17
      obtain rfl := zg14 zd14
      refine wpOp_step rfl (fun K hK => ?_)
      clear hr
      go_simp
      refine hK _ _ ?_
      simp only [getD_own (l := ls) (i := 18) (by omega), getD_set ls (i := 18) (j := 0) (by decide), getD_set ls (i := 18) (j := 1) (by decide), getD_set ls (i := 18) (j := 2) (by decide), getD_set ls (i := 18) (j := 3) (by decide), getD_set ls (i := 18) (j := 4) (by decide), getD_set ls (i := 18) (j := 5) (by decide), getD_set ls (i := 18) (j := 6) (by decide), getD_set ls (i := 18) (j := 7) (by decide), getD_set ls (i := 18) (j := 8) (by decide), getD_set ls (i := 18) (j := 9) (by decide), getD_set ls (i := 18) (j := 10) (by decide), getD_set ls (i := 18) (j := 11) (by decide), getD_set ls (i := 18) (j := 12) (by decide), getD_set ls (i := 18) (j := 13) (by decide), getD_set ls (i := 18) (j := 14) (by decide), getD_set ls (i := 18) (j := 15) (by decide), getD_set ls (i := 18) (j := 16) (by decide), getD_set ls (i := 18) (j := 17) (by decide), getD_set ls (i := 18) (j := 19) (by decide), getD_set ls (i := 18) (j := 20) (by decide), getD_set ls (i := 18) (j := 21) (by decide), getD_set ls (i := 18) (j := 22) (by decide), getD_set ls (i := 18) (j := 23) (by decide), getD_set ls (i := 18) (j := 24) (by decide)]
      exact ⟨v4, v5, v6, v7, v8, v9, v10, v11, v12, v13, v14, v15, v16, v17, v18, _, v20, v21, _, _, v24, v25, v26, v27, v28, rfl, by simp [hl], hB, zg0, zg1, zg2, zg3, zg4, zg5, zg6, zg7, zg8, zg9, zg10, zg11, zg12, zg13, fun _ => rfl, zg15, zg16, fun _ => rfl, fun _ => rfl, zg19, zg20, zg21, zg22, zg23, zg24⟩
    · rintro ls ac w' hr ⟨v4, v5, v6, v7, v8, v9, v10, v11, v12, v13, v14, v15, v16, v17, v18, v19, v20, v21, v22, v23, v24, v25, v26, v27, v28, rfl, hl, hB, zg0, zg1, zg2, zg3, zg4, zg5, zg6, zg7, zg8, zg9, zg10, zg11, zg12, zg13, zg14, zg15, zg16, zg17, zg18, zg19, zg20, zg21, zg22, zg23, zg24⟩
      have zd18 : ls.getD 18 false = true := (ready_dep hr rfl).2 ⟨18, .data⟩ (by simp) rfl
      have zd14 : ls.getD 14 false = true := (ready_dep hr rfl).2 ⟨14, .guard⟩ (by simp) rfl
      obtain rfl := zg18 zd18
      obtain rfl := zg14 zd14
      refine wpOp_step rfl (fun K hK => ?_)
      clear hr
      go_simp
      refine hK _ _ ?_
      simp only [getD_own (l := ls) (i := 19) (by omega), getD_set ls (i := 19) (j := 0) (by decide), getD_set ls (i := 19) (j := 1) (by decide), getD_set ls (i := 19) (j := 2) (by decide), getD_set ls (i := 19) (j := 3) (by decide), getD_set ls (i := 19) (j := 4) (by decide), getD_set ls (i := 19) (j := 5) (by decide), getD_set ls (i := 19) (j := 6) (by decide), getD_set ls (i := 19) (j := 7) (by decide), getD_set ls (i := 19) (j := 8) (by decide), getD_set ls (i := 19) (j := 9) (by decide), getD_set ls (i := 19) (j := 10) (by decide), getD_set ls (i := 19) (j := 11) (by decide), getD_set ls (i := 19) (j := 12) (by decide), getD_set ls (i := 19) (j := 13) (by decide), getD_set ls (i := 19) (j := 14) (by decide), getD_set ls (i := 19) (j := 15) (by decide), getD_set ls (i := 19) (j := 16) (by decide), getD_set ls (i := 19) (j := 17) (by decide), getD_set ls (i := 19) (j := 18) (by decide), getD_set ls (i := 19) (j := 20) (by decide), getD_set ls (i := 19) (j := 21) (by decide), getD_set ls (i := 19) (j := 22) (by decide), getD_set ls (i := 19) (j := 23) (by decide), getD_set ls (i := 19) (j := 24) (by decide)]
      exact ⟨v4, v5, v6, v7, v8, v9, v10, v11, v12, v13, v14, v15, v16, v17, v18, _, v20, v21, v22, _, _, v25, v26, v27, v28, rfl, by simp [hl], hB, zg0, zg1, zg2, zg3, zg4, zg5, zg6, zg7, zg8, zg9, zg10, zg11, zg12, zg13, fun _ => rfl, zg15, zg16, zg17, fun _ => rfl, fun _ => rfl, zg20, zg21, zg22, zg23, zg24⟩
    · rintro ls ac w' hr ⟨v4, v5, v6, v7, v8, v9, v10, v11, v12, v13, v14, v15, v16, v17, v18, v19, v20, v21, v22, v23, v24, v25, v26, v27, v28, rfl, hl, hB, zg0, zg1, zg2, zg3, zg4, zg5, zg6, zg7, zg8, zg9, zg10, zg11, zg12, zg13, zg14, zg15, zg16, zg17, zg18, zg19, zg20, zg21, zg22, zg23, zg24⟩
      have zd19 : ls.getD 19 false = true := (ready_dep hr rfl).2 ⟨19, .data⟩ (by simp) rfl
      have zd14 : ls.getD 14 false = true := (ready_dep hr rfl).2 ⟨14, .guard⟩ (by simp) rfl
      obtain rfl := zg19 zd19
      obtain rfl := zg14 zd14
      have a0 := (hB.cell (ltc c0)).trans c0
      have a1 := (hB.cell (ltc c1)).trans c1
      have a2 := (hB.cell (ltc c2)).trans c2
      have a3 := (hB.cell (ltc ct)).trans ct
      have a4 := (hB.cell (ltc ck)).trans ck
      have a5 := (hB.cell (ltc cs)).trans cs
      have a6 := (hB.cell (ltc ca)).trans ca
      refine wpOp_step rfl (fun K hK => ?_)
      clear hr
      go_simp
      refine hK _ _ ?_
      simp only [getD_own (l := ls) (i := 20) (by omega), getD_set ls (i := 20) (j := 0) (by decide), getD_set ls (i := 20) (j := 1) (by decide), getD_set ls (i := 20) (j := 2) (by decide), getD_set ls (i := 20) (j := 3) (by decide), getD_set ls (i := 20) (j := 4) (by decide), getD_set ls (i := 20) (j := 5) (by decide), getD_set ls (i := 20) (j := 6) (by decide), getD_set ls (i := 20) (j := 7) (by decide), getD_set ls (i := 20) (j := 8) (by decide), getD_set ls (i := 20) (j := 9) (by decide), getD_set ls (i := 20) (j := 10) (by decide), getD_set ls (i := 20) (j := 11) (by decide), getD_set ls (i := 20) (j := 12) (by decide), getD_set ls (i := 20) (j := 13) (by decide), getD_set ls (i := 20) (j := 14) (by decide), getD_set ls (i := 20) (j := 15) (by decide), getD_set ls (i := 20) (j := 16) (by decide), getD_set ls (i := 20) (j := 17) (by decide), getD_set ls (i := 20) (j := 18) (by decide), getD_set ls (i := 20) (j := 19) (by decide), getD_set ls (i := 20) (j := 21) (by decide), getD_set ls (i := 20) (j := 22) (by decide), getD_set ls (i := 20) (j := 23) (by decide), getD_set ls (i := 20) (j := 24) (by decide)]
      exact ⟨v4, v5, v6, v7, v8, v9, v10, v11, v12, v13, v14, v15, v16, v17, v18, _, v20, v21, v22, v23, _, _, v26, v27, v28, rfl, by simp [hl], hB, zg0, zg1, zg2, zg3, zg4, zg5, zg6, zg7, zg8, zg9, zg10, zg11, zg12, zg13, fun _ => rfl, zg15, zg16, zg17, zg18, fun _ => rfl, fun _ => rfl, zg21, zg22, zg23, zg24⟩
    · rintro ls ac w' hr ⟨v4, v5, v6, v7, v8, v9, v10, v11, v12, v13, v14, v15, v16, v17, v18, v19, v20, v21, v22, v23, v24, v25, v26, v27, v28, rfl, hl, hB, zg0, zg1, zg2, zg3, zg4, zg5, zg6, zg7, zg8, zg9, zg10, zg11, zg12, zg13, zg14, zg15, zg16, zg17, zg18, zg19, zg20, zg21, zg22, zg23, zg24⟩
      have zd15 : ls.getD 15 false = true := (ready_dep hr rfl).2 ⟨15, .data⟩ (by simp) rfl
      have zd20 : ls.getD 20 false = true := (ready_dep hr rfl).2 ⟨20, .data⟩ (by simp) rfl
      have zd14 : ls.getD 14 false = true := (ready_dep hr rfl).2 ⟨14, .guard⟩ (by simp) rfl
      obtain rfl := zg15 zd15
      obtain rfl := zg20 zd20
      obtain rfl := zg14 zd14
      refine wpOp_step rfl (fun K hK => ?_)
      clear hr
      go_simp
      refine hK _ _ ?_
      simp only [getD_own (l := ls) (i := 21) (by omega), getD_set ls (i := 21) (j := 0) (by decide), getD_set ls (i := 21) (j := 1) (by decide), getD_set ls (i := 21) (j := 2) (by decide), getD_set ls (i := 21) (j := 3) (by decide), getD_set ls (i := 21) (j := 4) (by decide), getD_set ls (i := 21) (j := 5) (by decide), getD_set ls (i := 21) (j := 6) (by decide), getD_set ls (i := 21) (j := 7) (by decide), getD_set ls (i := 21) (j := 8) (by decide), getD_set ls (i := 21) (j := 9) (by decide), getD_set ls (i := 21) (j := 10) (by decide), getD_set ls (i := 21) (j := 11) (by decide), getD_set ls (i := 21) (j := 12) (by decide), getD_set ls (i := 21) (j := 13) (by decide), getD_set ls (i := 21) (j := 14) (by decide), getD_set ls (i := 21) (j := 15) (by decide), getD_set ls (i := 21) (j := 16) (by decide), getD_set ls (i := 21) (j := 17) (by decide), getD_set ls (i := 21) (j := 18) (by decide), getD_set ls (i := 21) (j := 19) (by decide), getD_set ls (i := 21) (j := 20) (by decide), getD_set ls (i := 21) (j := 22) (by decide), getD_set ls (i := 21) (j := 23) (by decide), getD_set ls (i := 21) (j := 24) (by decide)]
      exact ⟨v4, v5, v6, v7, v8, v9, v10, v11, v12, v13, v14, v15, v16, v17, v18, _, _, v21, v22, v23, v24, _, _, v27, v28, rfl, by simp [hl], hB, zg0, zg1, zg2, zg3, zg4, zg5, zg6, zg7, zg8, zg9, zg10, zg11, zg12, zg13, fun _ => rfl, fun _ => rfl, zg16, zg17, zg18, zg19, fun _ => rfl, fun _ => rfl, zg22, zg23, zg24⟩
    · rintro ls ac w' hr ⟨v4, v5, v6, v7, v8, v9, v10, v11, v12, v13, v14, v15, v16, v17, v18, v19, v20, v21, v22, v23, v24, v25, v26, v27, v28, rfl, hl, hB, zg0, zg1, zg2, zg3, zg4, zg5, zg6, zg7, zg8, zg9, zg10, zg11, zg12, zg13, zg14, zg15, zg16, zg17, zg18, zg19, zg20, zg21, zg22, zg23, zg24⟩
      have zd14 : ls.getD 14 false = true := (ready_dep hr rfl).2 ⟨14, .data⟩ (by simp) rfl
      have zd21 : ls.getD 21 false = true := (ready_dep hr rfl).2 ⟨21, .data⟩ (by simp) rfl
      have zd11 : ls.getD 11 false = true := (ready_dep hr rfl).2 ⟨11, .guard⟩ (by simp) rfl
      obtain rfl := zg14 zd14
      obtain rfl := zg21 zd21
      obtain rfl := zg11 zd11
      refine wpOp_step rfl (fun K hK => ?_)
      clear hr
      go_simp
      refine hK _ _ ?_
      simp only [getD_own (l := ls) (i := 22) (by omega), getD_set ls (i := 22) (j := 0) (by decide), getD_set ls (i := 22) (j := 1) (by decide), getD_set ls (i := 22) (j := 2) (by decide), getD_set ls (i := 22) (j := 3) (by decide), getD_set ls (i := 22) (j := 4) (by decide), getD_set ls (i := 22) (j := 5) (by decide), getD_set ls (i := 22) (j := 6) (by decide), getD_set ls (i := 22) (j := 7) (by decide), getD_set ls (i := 22) (j := 8) (by decide), getD_set ls (i := 22) (j := 9) (by decide), getD_set ls (i := 22) (j := 10) (by decide), getD_set ls (i := 22) (j := 11) (by decide), getD_set ls (i := 22) (j := 12) (by decide), getD_set ls (i := 22) (j := 13) (by decide), getD_set ls (i := 22) (j := 14) (by decide), getD_set ls (i := 22) (j := 15) (by decide), getD_set ls (i := 22) (j := 16) (by decide), getD_set ls (i := 22) (j := 17) (by decide), getD_set ls (i := 22) (j := 18) (by decide), getD_set ls (i := 22) (j := 19) (by decide), getD_set ls (i := 22) (j := 20) (by decide), getD_set ls (i := 22) (j := 21) (by decide), getD_set ls (i := 22) (j := 23) (by decide), getD_set ls (i := 22) (j := 24) (by decide)]
      exact ⟨v4, v5, v6, v7, v8, v9, v10, v11, v12, v13, v14, v15, _, v17, v18, _, v20, v21, v22, v23, v24, v25, _, _, v28, rfl, by simp [hl], hB, zg0, zg1, zg2, zg3, zg4, zg5, zg6, zg7, zg8, zg9, zg10, fun _ => rfl, zg12, zg13, fun _ => rfl, zg15, zg16, zg17, zg18, zg19, zg20, fun _ => rfl, fun _ => rfl, zg23, zg24⟩
    · rintro ls ac w' hr ⟨v4, v5, v6, v7, v8, v9, v10, v11, v12, v13, v14, v15, v16, v17, v18, v19, v20, v21, v22, v23, v24, v25, v26, v27, v28, rfl, hl, hB, zg0, zg1, zg2, zg3, zg4, zg5, zg6, zg7, zg8, zg9, zg10, zg11, zg12, zg13, zg14, zg15, zg16, zg17, zg18, zg19, zg20, zg21, zg22, zg23, zg24⟩
      have zd11 : ls.getD 11 false = true := (ready_dep hr rfl).2 ⟨11, .data⟩ (by simp) rfl
      have zd22 : ls.getD 22 false = true := (ready_dep hr rfl).2 ⟨22, .data⟩ (by simp) rfl
      obtain rfl := zg11 zd11
      obtain rfl := zg22 zd22
      refine wpOp_step rfl (fun K hK => ?_)
      clear hr
      go_simp
      refine hK _ _ ?_
      simp only [getD_own (l := ls) (i := 23) (by omega), getD_set ls (i := 23) (j := 0) (by decide), getD_set ls (i := 23) (j := 1) (by decide), getD_set ls (i := 23) (j := 2) (by decide), getD_set ls (i := 23) (j := 3) (by decide), getD_set ls (i := 23) (j := 4) (by decide), getD_set ls (i := 23) (j := 5) (by decide), getD_set ls (i := 23) (j := 6) (by decide), getD_set ls (i := 23) (j := 7) (by decide), getD_set ls (i := 23) (j := 8) (by decide), getD_set ls (i := 23) (j := 9) (by decide), getD_set ls (i := 23) (j := 10) (by decide), getD_set ls (i := 23) (j := 11) (by decide), getD_set ls (i := 23) (j := 12) (by decide), getD_set ls (i := 23) (j := 13) (by decide), getD_set ls (i := 23) (j := 14) (by decide), getD_set ls (i := 23) (j := 15) (by decide), getD_set ls (i := 23) (j := 16) (by decide), getD_set ls (i := 23) (j := 17) (by decide), getD_set ls (i := 23) (j := 18) (by decide), getD_set ls (i := 23) (j := 19) (by decide), getD_set ls (i := 23) (j := 20) (by decide), getD_set ls (i := 23) (j := 21) (by decide), getD_set ls (i := 23) (j := 22) (by decide), getD_set ls (i := 23) (j := 24) (by decide)]
      exact ⟨v4, v5, v6, v7, v8, v9, v10, v11, v12, v13, v14, v15, _, v17, v18, v19, v20, v21, v22, v23, v24, v25, v26, _, _, rfl, by simp [hl], hB, zg0, zg1, zg2, zg3, zg4, zg5, zg6, zg7, zg8, zg9, zg10, fun _ => rfl, zg12, zg13, zg14, zg15, zg16, zg17, zg18, zg19, zg20, zg21, fun _ => rfl, fun _ => rfl, zg24⟩
    · rintro ls ac w' hr ⟨v4, v5, v6, v7, v8, v9, v10, v11, v12, v13, v14, v15, v16, v17, v18, v19, v20, v21, v22, v23, v24, v25, v26, v27, v28, rfl, hl, hB, zg0, zg1, zg2, zg3, zg4, zg5, zg6, zg7, zg8, zg9, zg10, zg11, zg12, zg13, zg14, zg15, zg16, zg17, zg18, zg19, zg20, zg21, zg22, zg23, zg24⟩
      have zd23 : ls.getD 23 false = true := (ready_dep hr rfl).2 ⟨23, .data⟩ (by simp) rfl
      obtain rfl := zg23 zd23
      refine wpOp_step rfl (fun K hK => ?_)
      clear hr
      go_simp
      refine hK _ _ ?_
      simp only [getD_own (l := ls) (i := 24) (by omega), getD_set ls (i := 24) (j := 0) (by decide), getD_set ls (i := 24) (j := 1) (by decide), getD_set ls (i := 24) (j := 2) (by decide), getD_set ls (i := 24) (j := 3) (by decide), getD_set ls (i := 24) (j := 4) (by decide), getD_set ls (i := 24) (j := 5) (by decide), getD_set ls (i := 24) (j := 6) (by decide), getD_set ls (i := 24) (j := 7) (by decide), getD_set ls (i := 24) (j := 8) (by decide), getD_set ls (i := 24) (j := 9) (by decide), getD_set ls (i := 24) (j := 10) (by decide), getD_set ls (i := 24) (j := 11) (by decide), getD_set ls (i := 24) (j := 12) (by decide), getD_set ls (i := 24) (j := 13) (by decide), getD_set ls (i := 24) (j := 14) (by decide), getD_set ls (i := 24) (j := 15) (by decide), getD_set ls (i := 24) (j := 16) (by decide), getD_set ls (i := 24) (j := 17) (by decide), getD_set ls (i := 24) (j := 18) (by decide), getD_set ls (i := 24) (j := 19) (by decide), getD_set ls (i := 24) (j := 20) (by decide), getD_set ls (i := 24) (j := 21) (by decide), getD_set ls (i := 24) (j := 22) (by decide), getD_set ls (i := 24) (j := 23) (by decide)]
      exact ⟨_, v5, v6, v7, v8, v9, v10, v11, v12, v13, v14, v15, v16, v17, v18, v19, v20, v21, v22, v23, v24, v25, v26, v27, _, rfl, by simp [hl], hB, zg0, zg1, zg2, zg3, zg4, zg5, zg6, zg7, zg8, zg9, zg10, zg11, zg12, zg13, zg14, zg15, zg16, zg17, zg18, zg19, zg20, zg21, zg22, fun _ => rfl, fun _ => rfl⟩
  · rintro ls ac w' ⟨v4, v5, v6, v7, v8, v9, v10, v11, v12, v13, v14, v15, v16, v17, v18, v19, v20, v21, v22, v23, v24, v25, v26, v27, v28, rfl, hl, hB, zg0, zg1, zg2, zg3, zg4, zg5, zg6, zg7, zg8, zg9, zg10, zg11, zg12, zg13, zg14, zg15, zg16, zg17, zg18, zg19, zg20, zg21, zg22, zg23, zg24⟩ hr
    have hall := ready_allb (by decide) hl hr
    obtain rfl := zg24 (hall 24 (by decide))
    go_wp2
    go_ret
    exact ⟨rfl, hB⟩
end Go.Proofs.Ytklnlhphgiipjaa
