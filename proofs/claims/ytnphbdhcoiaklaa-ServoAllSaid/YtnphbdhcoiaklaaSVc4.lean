/-
  The walk of the function that Observe makes: a case.
-/
import Derived.Test.YtnphbdhcoiaklaaSGC
namespace Go.Proofs.Ytnphbdhcoiaklaa
open Go.RowKit

set_option maxRecDepth 100000 in
set_option maxHeartbeats 16000000 in
theorem may_k (b bo bt bh bs : Nat) (a x y t : Int) (d : Bool) (hd : decide (a ≤ t) = d) (HQ : Hid (spRight ⟨x, y, true⟩ = true)) (HE : Hid (smallB t = true)) (w : World) (h : CellF w ⟨b, 3, none⟩ (.int .i64 a)) (O0 : CellF w ⟨bo, 0, none⟩ (.int .i64 x)) (O1 : CellF w ⟨bo, 1, none⟩ (.int .i64 y)) (O2 : CellF w ⟨bo, 2, none⟩ (.bool true)) (T : CellF w ⟨bt, 0, none⟩ (.int .i64 t)) (K : CellF w ⟨bh, 0, none⟩ (.bool true)) (S : CellF w ⟨bs, 0, none⟩ (.pointer (some ⟨b, 0, none⟩))) :
    Calls Try.prog 108 #[.pointer (some ⟨bo, 0, none⟩), .pointer (some ⟨bt, 0, none⟩), .pointer (some ⟨bh, 0, none⟩), .pointer (some ⟨bs, 0, none⟩)] w fun e w' => e = .returned (.bool d) ∧ Below w.heap.size w w' := by
  have c0 := O0.1
  have c1 := O1.1
  have c2 := O2.1
  have ct := T.1
  have ck := K.1
  have cs := S.1
  have ca := h.1
  have l0 := ltc c0
  have l1 := ltc ct
  have l2 := ltc ck
  have l3 := ltc cs
  have l4 := ltc ca
  dsimp only at l0 l1 l2 l3 l4
  clear h O0 O1 O2 T K S
  go_enter Try.func108, Try.ntmps108
  go_wp2_with fail
  refine wp_region_inv (by kernel_rfl) (fun ls ac w' => ∃ v4 v5 v6 v7 v8 v9 v10 v11 v12 v13 v14 v15 v16 v17 v18 v19 v20 v21 v22 v23 v24 v25 v26 v27 v28, ac = ⟨#[.pointer (some ⟨bo, 0, none⟩), .pointer (some ⟨bt, 0, none⟩), .pointer (some ⟨bh, 0, none⟩), .pointer (some ⟨bs, 0, none⟩), v4, v5, v6, v7, v8, v9, v10, v11, v12, v13, v14, v15, v16, v17, v18, v19, v20, v21, v22, v23, v24, v25, v26, v27, v28], []⟩ ∧ ls.size = 25 ∧ Below w.heap.size w w' ∧ (ls.getD 0 false = true → v5 = .pointer (some ⟨bo, 2, none⟩)) ∧ (ls.getD 1 false = true → v6 = .bool true) ∧ (ls.getD 2 false = true → v7 = .bool true) ∧ (ls.getD 3 false = true → v8 = .agg #[.int .i64 x, .int .i64 y, .bool true]) ∧ (ls.getD 4 false = true → v9 = .bool true) ∧ (ls.getD 5 false = true → v10 = .bool true) ∧ (ls.getD 6 false = true → v11 = .bool true) ∧ (ls.getD 7 false = true → v12 = .int .i64 t) ∧ (ls.getD 8 false = true → ls.getD 9 false = false → IsOne w' v13 t) ∧ (ls.getD 9 false = true → v14 = .bool true) ∧ (ls.getD 10 false = true → v15 = .bool true) ∧ (ls.getD 11 false = true → v16 = .bool true) ∧ (ls.getD 12 false = true → v17 = .bool true) ∧ (ls.getD 13 false = true → v18 = .bool false) ∧ (ls.getD 14 false = true → v19 = .bool false) ∧ (ls.getD 15 false = true → v20 = .int .i64 t) ∧ (ls.getD 16 false = true → v21 = .pointer (some ⟨b, 0, none⟩)) ∧ (ls.getD 17 false = true → v22 = .pointer (some ⟨b, 0, none⟩)) ∧ (ls.getD 18 false = true → v23 = .pointer (some ⟨b, 0, none⟩)) ∧ (ls.getD 19 false = true → v24 = .pointer (some ⟨b, 3, none⟩)) ∧ (ls.getD 20 false = true → v25 = .int .i64 a) ∧ (ls.getD 21 false = true → v26 = .bool d) ∧ (ls.getD 22 false = true → v27 = .bool d) ∧ (ls.getD 23 false = true → v28 = .bool d) ∧ (ls.getD 24 false = true → v4 = .bool d)) ?_ ?_ ?_
  · exact ⟨_, _, _, _, _, _, _, _, _, _, _, _, _, _, _, _, _, _, _, _, _, _, _, _, _, rfl, rfl, bdrew (brefl _), fun h => (by cases h), fun h => (by cases h), fun h => (by cases h), fun h => (by cases h), fun h => (by cases h), fun h => (by cases h), fun h => (by cases h), fun h => (by cases h), fun h => (by cases h), fun h => (by cases h), fun h => (by cases h), fun h => (by cases h), fun h => (by cases h), fun h => (by cases h), fun h => (by cases h), fun h => (by cases h), fun h => (by cases h), fun h => (by cases h), fun h => (by cases h), fun h => (by cases h), fun h => (by cases h), fun h => (by cases h), fun h => (by cases h), fun h => (by cases h), fun h => (by cases h)⟩
  · intro i hii
    have hin : i < 25 := hii
    have hor : i = 0 ∨ i = 1 ∨ i = 2 ∨ i = 3 ∨ i = 4 ∨ i = 5 ∨ i = 6 ∨ i = 7 ∨ i = 8 ∨ i = 9 ∨ i = 10 ∨ i = 11 ∨ i = 12 ∨ i = 13 ∨ i = 14 ∨ i = 15 ∨ i = 16 ∨ i = 17 ∨ i = 18 ∨ i = 19 ∨ i = 20 ∨ i = 21 ∨ i = 22 ∨ i = 23 ∨ i = 24 := (by decide : ∀ i : Nat, i < 25 → (i = 0 ∨ i = 1 ∨ i = 2 ∨ i = 3 ∨ i = 4 ∨ i = 5 ∨ i = 6 ∨ i = 7 ∨ i = 8 ∨ i = 9 ∨ i = 10 ∨ i = 11 ∨ i = 12 ∨ i = 13 ∨ i = 14 ∨ i = 15 ∨ i = 16 ∨ i = 17 ∨ i = 18 ∨ i = 19 ∨ i = 20 ∨ i = 21 ∨ i = 22 ∨ i = 23 ∨ i = 24)) i hin
    rcases hor with rfl | rfl | rfl | rfl | rfl | rfl | rfl | rfl | rfl | rfl | rfl | rfl | rfl | rfl | rfl | rfl | rfl | rfl | rfl | rfl | rfl | rfl | rfl | rfl | rfl
    · rintro ls ac w' hr ⟨v4, v5, v6, v7, v8, v9, v10, v11, v12, v13, v14, v15, v16, v17, v18, v19, v20, v21, v22, v23, v24, v25, v26, v27, v28, rfl, hl, hB, zg0, zg1, zg2, zg3, zg4, zg5, zg6, zg7, zg8, zg9, zg10, zg11, zg12, zg13, zg14, zg15, zg16, zg17, zg18, zg19, zg20, zg21, zg22, zg23, zg24⟩
      refine wpOp_step rfl (fun K hK => ?_)
      clear hr
      go_simp
      refine hK _ _ ?_
      simp only [getD_own (l := ls) (i := 0) (by omega), gs 0 1, gs 0 2, gs 0 3, gs 0 4, gs 0 5, gs 0 6, gs 0 7, gs 0 8, gs 0 9, gs 0 10, gs 0 11, gs 0 12, gs 0 13, gs 0 14, gs 0 15, gs 0 16, gs 0 17, gs 0 18, gs 0 19, gs 0 20, gs 0 21, gs 0 22, gs 0 23, gs 0 24]
      exact ⟨v4, _, v6, v7, v8, v9, v10, v11, v12, v13, v14, v15, v16, v17, v18, v19, v20, v21, v22, v23, v24, v25, v26, v27, v28, rfl, by simp [hl], hB, fun _ => rfl, zg1, zg2, zg3, zg4, zg5, zg6, zg7, zg8, zg9, zg10, zg11, zg12, zg13, zg14, zg15, zg16, zg17, zg18, zg19, zg20, zg21, zg22, zg23, zg24⟩
    · rintro ls ac w' hr ⟨v4, v5, v6, v7, v8, v9, v10, v11, v12, v13, v14, v15, v16, v17, v18, v19, v20, v21, v22, v23, v24, v25, v26, v27, v28, rfl, hl, hB, zg0, zg1, zg2, zg3, zg4, zg5, zg6, zg7, zg8, zg9, zg10, zg11, zg12, zg13, zg14, zg15, zg16, zg17, zg18, zg19, zg20, zg21, zg22, zg23, zg24⟩
      have zd0 : ls.getD 0 false = true := (ready_dep hr rfl).2 ⟨0, .data⟩ (by simp) rfl
      obtain rfl := zg0 zd0
      have a0 := (hB.cell (ltc c0)).trans c0
      have a1 := (hB.cell (ltc c1)).trans c1
      have a2 := (hB.cell (ltc c2)).trans c2
      have a3 := (hB.cell (ltc ct)).trans ct
      have a4 := (hB.cell (ltc ck)).trans ck
      have a5 := (hB.cell (ltc cs)).trans cs
      have a6 := (hB.cell (ltc ca)).trans ca
      refine wpOp_step rfl (fun K hK => ?_)
      clear hr
      go_simp
      refine hK _ _ ?_
      simp only [getD_own (l := ls) (i := 1) (by omega), gs 1 0, gs 1 2, gs 1 3, gs 1 4, gs 1 5, gs 1 6, gs 1 7, gs 1 8, gs 1 9, gs 1 10, gs 1 11, gs 1 12, gs 1 13, gs 1 14, gs 1 15, gs 1 16, gs 1 17, gs 1 18, gs 1 19, gs 1 20, gs 1 21, gs 1 22, gs 1 23, gs 1 24]
      exact ⟨v4, _, _, v7, v8, v9, v10, v11, v12, v13, v14, v15, v16, v17, v18, v19, v20, v21, v22, v23, v24, v25, v26, v27, v28, rfl, by simp [hl], hB, fun _ => rfl, fun _ => rfl, zg2, zg3, zg4, zg5, zg6, zg7, zg8, zg9, zg10, zg11, zg12, zg13, zg14, zg15, zg16, zg17, zg18, zg19, zg20, zg21, zg22, zg23, zg24⟩
    · rintro ls ac w' hr ⟨v4, v5, v6, v7, v8, v9, v10, v11, v12, v13, v14, v15, v16, v17, v18, v19, v20, v21, v22, v23, v24, v25, v26, v27, v28, rfl, hl, hB, zg0, zg1, zg2, zg3, zg4, zg5, zg6, zg7, zg8, zg9, zg10, zg11, zg12, zg13, zg14, zg15, zg16, zg17, zg18, zg19, zg20, zg21, zg22, zg23, zg24⟩
      have zd1 : ls.getD 1 false = true := (ready_dep hr rfl).2 ⟨1, .data⟩ (by simp) rfl
      obtain rfl := zg1 zd1
      refine wpOp_step rfl (fun K hK => ?_)
      clear hr
      go_simp
      refine hK _ _ ?_
      simp only [getD_own (l := ls) (i := 2) (by omega), gs 2 0, gs 2 1, gs 2 3, gs 2 4, gs 2 5, gs 2 6, gs 2 7, gs 2 8, gs 2 9, gs 2 10, gs 2 11, gs 2 12, gs 2 13, gs 2 14, gs 2 15, gs 2 16, gs 2 17, gs 2 18, gs 2 19, gs 2 20, gs 2 21, gs 2 22, gs 2 23, gs 2 24]
      exact ⟨v4, v5, _, _, v8, v9, v10, v11, v12, v13, v14, v15, v16, v17, v18, v19, v20, v21, v22, v23, v24, v25, v26, v27, v28, rfl, by simp [hl], hB, zg0, fun _ => rfl, fun _ => rfl, zg3, zg4, zg5, zg6, zg7, zg8, zg9, zg10, zg11, zg12, zg13, zg14, zg15, zg16, zg17, zg18, zg19, zg20, zg21, zg22, zg23, zg24⟩
    · rintro ls ac w' hr ⟨v4, v5, v6, v7, v8, v9, v10, v11, v12, v13, v14, v15, v16, v17, v18, v19, v20, v21, v22, v23, v24, v25, v26, v27, v28, rfl, hl, hB, zg0, zg1, zg2, zg3, zg4, zg5, zg6, zg7, zg8, zg9, zg10, zg11, zg12, zg13, zg14, zg15, zg16, zg17, zg18, zg19, zg20, zg21, zg22, zg23, zg24⟩
      have zd2 : ls.getD 2 false = true := (ready_dep hr rfl).2 ⟨2, .guard⟩ (by simp) rfl
      obtain rfl := zg2 zd2
      have a0 := (hB.cell (ltc c0)).trans c0
      have a1 := (hB.cell (ltc c1)).trans c1
      have a2 := (hB.cell (ltc c2)).trans c2
      have a3 := (hB.cell (ltc ct)).trans ct
      have a4 := (hB.cell (ltc ck)).trans ck
      have a5 := (hB.cell (ltc cs)).trans cs
      have a6 := (hB.cell (ltc ca)).trans ca
      refine wpOp_step rfl (fun K hK => ?_)
      clear hr
      go_simp
      refine hK _ _ ?_
      simp only [getD_own (l := ls) (i := 3) (by omega), gs 3 0, gs 3 1, gs 3 2, gs 3 4, gs 3 5, gs 3 6, gs 3 7, gs 3 8, gs 3 9, gs 3 10, gs 3 11, gs 3 12, gs 3 13, gs 3 14, gs 3 15, gs 3 16, gs 3 17, gs 3 18, gs 3 19, gs 3 20, gs 3 21, gs 3 22, gs 3 23, gs 3 24]
      exact ⟨v4, v5, v6, _, _, v9, v10, v11, v12, v13, v14, v15, v16, v17, v18, v19, v20, v21, v22, v23, v24, v25, v26, v27, v28, rfl, by simp [hl], hB, zg0, zg1, fun _ => rfl, fun _ => rfl, zg4, zg5, zg6, zg7, zg8, zg9, zg10, zg11, zg12, zg13, zg14, zg15, zg16, zg17, zg18, zg19, zg20, zg21, zg22, zg23, zg24⟩
    · rintro ls ac w' hr ⟨v4, v5, v6, v7, v8, v9, v10, v11, v12, v13, v14, v15, v16, v17, v18, v19, v20, v21, v22, v23, v24, v25, v26, v27, v28, rfl, hl, hB, zg0, zg1, zg2, zg3, zg4, zg5, zg6, zg7, zg8, zg9, zg10, zg11, zg12, zg13, zg14, zg15, zg16, zg17, zg18, zg19, zg20, zg21, zg22, zg23, zg24⟩
      have zd3 : ls.getD 3 false = true := (ready_dep hr rfl).2 ⟨3, .data⟩ (by simp) rfl
      have zd2 : ls.getD 2 false = true := (ready_dep hr rfl).2 ⟨2, .guard⟩ (by simp) rfl
      obtain rfl := zg3 zd3
      obtain rfl := zg2 zd2
      refine wpOp_step rfl (fun K hK => ?_)
      clear hr
      go_simp
      refine (Right_is _ _ _ _ HQ _).mono ?_
      rintro e w1 ⟨rfl, hk⟩
      dsimp only
      refine hK _ _ ?_
      simp only [getD_own (l := ls) (i := 4) (by omega), gs 4 0, gs 4 1, gs 4 2, gs 4 3, gs 4 5, gs 4 6, gs 4 7, gs 4 8, gs 4 9, gs 4 10, gs 4 11, gs 4 12, gs 4 13, gs 4 14, gs 4 15, gs 4 16, gs 4 17, gs 4 18, gs 4 19, gs 4 20, gs 4 21, gs 4 22, gs 4 23, gs 4 24]
      exact ⟨v4, v5, v6, _, _, _, v10, v11, v12, v13, v14, v15, v16, v17, v18, v19, v20, v21, v22, v23, v24, v25, v26, v27, v28, rfl, by simp [hl], bstep hB hk, zg0, zg1, fun _ => rfl, fun _ => rfl, fun _ => rfl, zg5, zg6, zg7, fun h h2 => (zg8 h h2).keep hk, zg9, zg10, zg11, zg12, zg13, zg14, zg15, zg16, zg17, zg18, zg19, zg20, zg21, zg22, zg23, zg24⟩
    · rintro ls ac w' hr ⟨v4, v5, v6, v7, v8, v9, v10, v11, v12, v13, v14, v15, v16, v17, v18, v19, v20, v21, v22, v23, v24, v25, v26, v27, v28, rfl, hl, hB, zg0, zg1, zg2, zg3, zg4, zg5, zg6, zg7, zg8, zg9, zg10, zg11, zg12, zg13, zg14, zg15, zg16, zg17, zg18, zg19, zg20, zg21, zg22, zg23, zg24⟩
      have zd2 : ls.getD 2 false = true := (ready_dep hr rfl).2 ⟨2, .data⟩ (by simp) rfl
      have zd4 : ls.getD 4 false = true := (ready_dep hr rfl).2 ⟨4, .data⟩ (by simp) rfl
      obtain rfl := zg2 zd2
      obtain rfl := zg4 zd4
      refine wpOp_step rfl (fun K hK => ?_)
      clear hr
      go_simp
      refine hK _ _ ?_
      simp only [getD_own (l := ls) (i := 5) (by omega), gs 5 0, gs 5 1, gs 5 2, gs 5 3, gs 5 4, gs 5 6, gs 5 7, gs 5 8, gs 5 9, gs 5 10, gs 5 11, gs 5 12, gs 5 13, gs 5 14, gs 5 15, gs 5 16, gs 5 17, gs 5 18, gs 5 19, gs 5 20, gs 5 21, gs 5 22, gs 5 23, gs 5 24]
      exact ⟨v4, v5, v6, _, v8, _, _, v11, v12, v13, v14, v15, v16, v17, v18, v19, v20, v21, v22, v23, v24, v25, v26, v27, v28, rfl, by simp [hl], hB, zg0, zg1, fun _ => rfl, zg3, fun _ => rfl, fun _ => rfl, zg6, zg7, zg8, zg9, zg10, zg11, zg12, zg13, zg14, zg15, zg16, zg17, zg18, zg19, zg20, zg21, zg22, zg23, zg24⟩
    · rintro ls ac w' hr ⟨v4, v5, v6, v7, v8, v9, v10, v11, v12, v13, v14, v15, v16, v17, v18, v19, v20, v21, v22, v23, v24, v25, v26, v27, v28, rfl, hl, hB, zg0, zg1, zg2, zg3, zg4, zg5, zg6, zg7, zg8, zg9, zg10, zg11, zg12, zg13, zg14, zg15, zg16, zg17, zg18, zg19, zg20, zg21, zg22, zg23, zg24⟩
      have zd5 : ls.getD 5 false = true := (ready_dep hr rfl).2 ⟨5, .data⟩ (by simp) rfl
      obtain rfl := zg5 zd5
      refine wpOp_step rfl (fun K hK => ?_)
      clear hr
      go_simp
      refine hK _ _ ?_
      simp only [getD_own (l := ls) (i := 6) (by omega), gs 6 0, gs 6 1, gs 6 2, gs 6 3, gs 6 4, gs 6 5, gs 6 7, gs 6 8, gs 6 9, gs 6 10, gs 6 11, gs 6 12, gs 6 13, gs 6 14, gs 6 15, gs 6 16, gs 6 17, gs 6 18, gs 6 19, gs 6 20, gs 6 21, gs 6 22, gs 6 23, gs 6 24]
      exact ⟨v4, v5, v6, v7, v8, v9, _, _, v12, v13, v14, v15, v16, v17, v18, v19, v20, v21, v22, v23, v24, v25, v26, v27, v28, rfl, by simp [hl], hB, zg0, zg1, zg2, zg3, zg4, fun _ => rfl, fun _ => rfl, zg7, zg8, zg9, zg10, zg11, zg12, zg13, zg14, zg15, zg16, zg17, zg18, zg19, zg20, zg21, zg22, zg23, zg24⟩
    · rintro ls ac w' hr ⟨v4, v5, v6, v7, v8, v9, v10, v11, v12, v13, v14, v15, v16, v17, v18, v19, v20, v21, v22, v23, v24, v25, v26, v27, v28, rfl, hl, hB, zg0, zg1, zg2, zg3, zg4, zg5, zg6, zg7, zg8, zg9, zg10, zg11, zg12, zg13, zg14, zg15, zg16, zg17, zg18, zg19, zg20, zg21, zg22, zg23, zg24⟩
      have zd6 : ls.getD 6 false = true := (ready_dep hr rfl).2 ⟨6, .guard⟩ (by simp) rfl
      obtain rfl := zg6 zd6
      have a0 := (hB.cell (ltc c0)).trans c0
      have a1 := (hB.cell (ltc c1)).trans c1
      have a2 := (hB.cell (ltc c2)).trans c2
      have a3 := (hB.cell (ltc ct)).trans ct
      have a4 := (hB.cell (ltc ck)).trans ck
      have a5 := (hB.cell (ltc cs)).trans cs
      have a6 := (hB.cell (ltc ca)).trans ca
      refine wpOp_step rfl (fun K hK => ?_)
      clear hr
      go_simp
      refine hK _ _ ?_
      simp only [getD_own (l := ls) (i := 7) (by omega), gs 7 0, gs 7 1, gs 7 2, gs 7 3, gs 7 4, gs 7 5, gs 7 6, gs 7 8, gs 7 9, gs 7 10, gs 7 11, gs 7 12, gs 7 13, gs 7 14, gs 7 15, gs 7 16, gs 7 17, gs 7 18, gs 7 19, gs 7 20, gs 7 21, gs 7 22, gs 7 23, gs 7 24]
      exact ⟨v4, v5, v6, v7, v8, v9, v10, _, _, v13, v14, v15, v16, v17, v18, v19, v20, v21, v22, v23, v24, v25, v26, v27, v28, rfl, by simp [hl], hB, zg0, zg1, zg2, zg3, zg4, zg5, fun _ => rfl, fun _ => rfl, zg8, zg9, zg10, zg11, zg12, zg13, zg14, zg15, zg16, zg17, zg18, zg19, zg20, zg21, zg22, zg23, zg24⟩
    · rintro ls ac w' hr ⟨v4, v5, v6, v7, v8, v9, v10, v11, v12, v13, v14, v15, v16, v17, v18, v19, v20, v21, v22, v23, v24, v25, v26, v27, v28, rfl, hl, hB, zg0, zg1, zg2, zg3, zg4, zg5, zg6, zg7, zg8, zg9, zg10, zg11, zg12, zg13, zg14, zg15, zg16, zg17, zg18, zg19, zg20, zg21, zg22, zg23, zg24⟩
      have zd7 : ls.getD 7 false = true := (ready_dep hr rfl).2 ⟨7, .data⟩ (by simp) rfl
      have zd6 : ls.getD 6 false = true := (ready_dep hr rfl).2 ⟨6, .guard⟩ (by simp) rfl
      obtain rfl := zg7 zd7
      obtain rfl := zg6 zd6
      refine wpOp_step rfl (fun K hK => ?_)
      clear hr
      go_simp
      refine hK _ _ ?_
      simp only [getD_own (l := ls) (i := 8) (by omega), gs 8 0, gs 8 1, gs 8 2, gs 8 3, gs 8 4, gs 8 5, gs 8 6, gs 8 7, gs 8 9, gs 8 10, gs 8 11, gs 8 12, gs 8 13, gs 8 14, gs 8 15, gs 8 16, gs 8 17, gs 8 18, gs 8 19, gs 8 20, gs 8 21, gs 8 22, gs 8 23, gs 8 24]
      exact ⟨v4, v5, v6, v7, v8, v9, v10, _, _, _, v14, v15, v16, v17, v18, v19, v20, v21, v22, v23, v24, v25, v26, v27, v28, rfl, by simp [hl], balloc hB _, zg0, zg1, zg2, zg3, zg4, zg5, fun _ => rfl, fun _ => rfl, fun _ _ => ⟨_, rfl, CellF.at_ rfl rfl⟩, zg9, zg10, zg11, zg12, zg13, zg14, zg15, zg16, zg17, zg18, zg19, zg20, zg21, zg22, zg23, zg24⟩
    · rintro ls ac w' hr ⟨v4, v5, v6, v7, v8, v9, v10, v11, v12, v13, v14, v15, v16, v17, v18, v19, v20, v21, v22, v23, v24, v25, v26, v27, v28, rfl, hl, hB, zg0, zg1, zg2, zg3, zg4, zg5, zg6, zg7, zg8, zg9, zg10, zg11, zg12, zg13, zg14, zg15, zg16, zg17, zg18, zg19, zg20, zg21, zg22, zg23, zg24⟩
      have hst : ls.getD 9 false = false := by cases hc : ls.getD 9 false with | false => rfl | true => (exfalso; have hn := (ready_dep hr rfl).1; rw [getD_both hc] at hn; cases hn)
      have zd8 : ls.getD 8 false = true := (ready_dep hr rfl).2 ⟨8, .data⟩ (by simp) rfl
      have zd6 : ls.getD 6 false = true := (ready_dep hr rfl).2 ⟨6, .guard⟩ (by simp) rfl
      obtain ⟨bb, rfl, W1⟩ := zg8 zd8 hst
      have w1' := W1.1
      obtain rfl := zg6 zd6
      refine wpOp_step rfl (fun K hK => ?_)
      clear hr
      go_simp
      refine (small1b t _ HE.out bb _ w1').mono ?_
      rintro e w1 ⟨rfl, hk⟩
      dsimp only
      refine hK _ _ ?_
      simp only [getD_own (l := ls) (i := 9) (by omega), gs 9 0, gs 9 1, gs 9 2, gs 9 3, gs 9 4, gs 9 5, gs 9 6, gs 9 7, gs 9 8, gs 9 10, gs 9 11, gs 9 12, gs 9 13, gs 9 14, gs 9 15, gs 9 16, gs 9 17, gs 9 18, gs 9 19, gs 9 20, gs 9 21, gs 9 22, gs 9 23, gs 9 24]
      exact ⟨v4, v5, v6, v7, v8, v9, v10, _, v12, _, _, v15, v16, v17, v18, v19, v20, v21, v22, v23, v24, v25, v26, v27, v28, rfl, by simp [hl], bstep hB hk, zg0, zg1, zg2, zg3, zg4, zg5, fun _ => rfl, zg7, fun _ h => (by cases h), fun _ => rfl, zg10, zg11, zg12, zg13, zg14, zg15, zg16, zg17, zg18, zg19, zg20, zg21, zg22, zg23, zg24⟩
    · rintro ls ac w' hr ⟨v4, v5, v6, v7, v8, v9, v10, v11, v12, v13, v14, v15, v16, v17, v18, v19, v20, v21, v22, v23, v24, v25, v26, v27, v28, rfl, hl, hB, zg0, zg1, zg2, zg3, zg4, zg5, zg6, zg7, zg8, zg9, zg10, zg11, zg12, zg13, zg14, zg15, zg16, zg17, zg18, zg19, zg20, zg21, zg22, zg23, zg24⟩
      have zd6 : ls.getD 6 false = true := (ready_dep hr rfl).2 ⟨6, .data⟩ (by simp) rfl
      have zd9 : ls.getD 9 false = true := (ready_dep hr rfl).2 ⟨9, .data⟩ (by simp) rfl
      obtain rfl := zg6 zd6
      obtain rfl := zg9 zd9
      refine wpOp_step rfl (fun K hK => ?_)
      clear hr
      go_simp
      refine hK _ _ ?_
      simp only [getD_own (l := ls) (i := 10) (by omega), gs 10 0, gs 10 1, gs 10 2, gs 10 3, gs 10 4, gs 10 5, gs 10 6, gs 10 7, gs 10 8, gs 10 9, gs 10 11, gs 10 12, gs 10 13, gs 10 14, gs 10 15, gs 10 16, gs 10 17, gs 10 18, gs 10 19, gs 10 20, gs 10 21, gs 10 22, gs 10 23, gs 10 24]
      exact ⟨v4, v5, v6, v7, v8, v9, v10, _, v12, v13, _, _, v16, v17, v18, v19, v20, v21, v22, v23, v24, v25, v26, v27, v28, rfl, by simp [hl], hB, zg0, zg1, zg2, zg3, zg4, zg5, fun _ => rfl, zg7, zg8, fun _ => rfl, fun _ => rfl, zg11, zg12, zg13, zg14, zg15, zg16, zg17, zg18, zg19, zg20, zg21, zg22, zg23, zg24⟩
    · rintro ls ac w' hr ⟨v4, v5, v6, v7, v8, v9, v10, v11, v12, v13, v14, v15, v16, v17, v18, v19, v20, v21, v22, v23, v24, v25, v26, v27, v28, rfl, hl, hB, zg0, zg1, zg2, zg3, zg4, zg5, zg6, zg7, zg8, zg9, zg10, zg11, zg12, zg13, zg14, zg15, zg16, zg17, zg18, zg19, zg20, zg21, zg22, zg23, zg24⟩
      have zd10 : ls.getD 10 false = true := (ready_dep hr rfl).2 ⟨10, .data⟩ (by simp) rfl
      obtain rfl := zg10 zd10
      refine wpOp_step rfl (fun K hK => ?_)
      clear hr
      go_simp
      refine hK _ _ ?_
      simp only [getD_own (l := ls) (i := 11) (by omega), gs 11 0, gs 11 1, gs 11 2, gs 11 3, gs 11 4, gs 11 5, gs 11 6, gs 11 7, gs 11 8, gs 11 9, gs 11 10, gs 11 12, gs 11 13, gs 11 14, gs 11 15, gs 11 16, gs 11 17, gs 11 18, gs 11 19, gs 11 20, gs 11 21, gs 11 22, gs 11 23, gs 11 24]
      exact ⟨v4, v5, v6, v7, v8, v9, v10, v11, v12, v13, v14, _, _, v17, v18, v19, v20, v21, v22, v23, v24, v25, v26, v27, v28, rfl, by simp [hl], hB, zg0, zg1, zg2, zg3, zg4, zg5, zg6, zg7, zg8, zg9, fun _ => rfl, fun _ => rfl, zg12, zg13, zg14, zg15, zg16, zg17, zg18, zg19, zg20, zg21, zg22, zg23, zg24⟩
    · rintro ls ac w' hr ⟨v4, v5, v6, v7, v8, v9, v10, v11, v12, v13, v14, v15, v16, v17, v18, v19, v20, v21, v22, v23, v24, v25, v26, v27, v28, rfl, hl, hB, zg0, zg1, zg2, zg3, zg4, zg5, zg6, zg7, zg8, zg9, zg10, zg11, zg12, zg13, zg14, zg15, zg16, zg17, zg18, zg19, zg20, zg21, zg22, zg23, zg24⟩
      have zd11 : ls.getD 11 false = true := (ready_dep hr rfl).2 ⟨11, .guard⟩ (by simp) rfl
      obtain rfl := zg11 zd11
      have a0 := (hB.cell (ltc c0)).trans c0
      have a1 := (hB.cell (ltc c1)).trans c1
      have a2 := (hB.cell (ltc c2)).trans c2
      have a3 := (hB.cell (ltc ct)).trans ct
      have a4 := (hB.cell (ltc ck)).trans ck
      have a5 := (hB.cell (ltc cs)).trans cs
      have a6 := (hB.cell (ltc ca)).trans ca
      refine wpOp_step rfl (fun K hK => ?_)
      clear hr
      go_simp
      refine hK _ _ ?_
      simp only [getD_own (l := ls) (i := 12) (by omega), gs 12 0, gs 12 1, gs 12 2, gs 12 3, gs 12 4, gs 12 5, gs 12 6, gs 12 7, gs 12 8, gs 12 9, gs 12 10, gs 12 11, gs 12 13, gs 12 14, gs 12 15, gs 12 16, gs 12 17, gs 12 18, gs 12 19, gs 12 20, gs 12 21, gs 12 22, gs 12 23, gs 12 24]
      exact ⟨v4, v5, v6, v7, v8, v9, v10, v11, v12, v13, v14, v15, _, _, v18, v19, v20, v21, v22, v23, v24, v25, v26, v27, v28, rfl, by simp [hl], hB, zg0, zg1, zg2, zg3, zg4, zg5, zg6, zg7, zg8, zg9, zg10, fun _ => rfl, fun _ => rfl, zg13, zg14, zg15, zg16, zg17, zg18, zg19, zg20, zg21, zg22, zg23, zg24⟩
    · rintro ls ac w' hr ⟨v4, v5, v6, v7, v8, v9, v10, v11, v12, v13, v14, v15, v16, v17, v18, v19, v20, v21, v22, v23, v24, v25, v26, v27, v28, rfl, hl, hB, zg0, zg1, zg2, zg3, zg4, zg5, zg6, zg7, zg8, zg9, zg10, zg11, zg12, zg13, zg14, zg15, zg16, zg17, zg18, zg19, zg20, zg21, zg22, zg23, zg24⟩
      have zd12 : ls.getD 12 false = true := (ready_dep hr rfl).2 ⟨12, .data⟩ (by simp) rfl
      have zd11 : ls.getD 11 false = true := (ready_dep hr rfl).2 ⟨11, .guard⟩ (by simp) rfl
      obtain rfl := zg12 zd12
      obtain rfl := zg11 zd11
      refine wpOp_step rfl (fun K hK => ?_)
      clear hr
      go_simp
      refine hK _ _ ?_
      simp only [getD_own (l := ls) (i := 13) (by omega), gs 13 0, gs 13 1, gs 13 2, gs 13 3, gs 13 4, gs 13 5, gs 13 6, gs 13 7, gs 13 8, gs 13 9, gs 13 10, gs 13 11, gs 13 12, gs 13 14, gs 13 15, gs 13 16, gs 13 17, gs 13 18, gs 13 19, gs 13 20, gs 13 21, gs 13 22, gs 13 23, gs 13 24]
      exact ⟨v4, v5, v6, v7, v8, v9, v10, v11, v12, v13, v14, v15, _, _, _, v19, v20, v21, v22, v23, v24, v25, v26, v27, v28, rfl, by simp [hl], hB, zg0, zg1, zg2, zg3, zg4, zg5, zg6, zg7, zg8, zg9, zg10, fun _ => rfl, fun _ => rfl, fun _ => rfl, zg14, zg15, zg16, zg17, zg18, zg19, zg20, zg21, zg22, zg23, zg24⟩
    · rintro ls ac w' hr ⟨v4, v5, v6, v7, v8, v9, v10, v11, v12, v13, v14, v15, v16, v17, v18, v19, v20, v21, v22, v23, v24, v25, v26, v27, v28, rfl, hl, hB, zg0, zg1, zg2, zg3, zg4, zg5, zg6, zg7, zg8, zg9, zg10, zg11, zg12, zg13, zg14, zg15, zg16, zg17, zg18, zg19, zg20, zg21, zg22, zg23, zg24⟩
      have zd13 : ls.getD 13 false = true := (ready_dep hr rfl).2 ⟨13, .data⟩ (by simp) rfl
      have zd11 : ls.getD 11 false = true := (ready_dep hr rfl).2 ⟨11, .guard⟩ (by simp) rfl
      obtain rfl := zg13 zd13
      obtain rfl := zg11 zd11
      refine wpOp_step rfl (fun K hK => ?_)
      clear hr
      go_simp
      refine hK _ _ ?_
      simp only [getD_own (l := ls) (i := 14) (by omega), gs 14 0, gs 14 1, gs 14 2, gs 14 3, gs 14 4, gs 14 5, gs 14 6, gs 14 7, gs 14 8, gs 14 9, gs 14 10, gs 14 11, gs 14 12, gs 14 13, gs 14 15, gs 14 16, gs 14 17, gs 14 18, gs 14 19, gs 14 20, gs 14 21, gs 14 22, gs 14 23, gs 14 24]
      exact ⟨v4, v5, v6, v7, v8, v9, v10, v11, v12, v13, v14, v15, _, v17, _, _, v20, v21, v22, v23, v24, v25, v26, v27, v28, rfl, by simp [hl], hB, zg0, zg1, zg2, zg3, zg4, zg5, zg6, zg7, zg8, zg9, zg10, fun _ => rfl, zg12, fun _ => rfl, fun _ => rfl, zg15, zg16, zg17, zg18, zg19, zg20, zg21, zg22, zg23, zg24⟩
    · rintro ls ac w' hr ⟨v4, v5, v6, v7, v8, v9, v10, v11, v12, v13, v14, v15, v16, v17, v18, v19, v20, v21, v22, v23, v24, v25, v26, v27, v28, rfl, hl, hB, zg0, zg1, zg2, zg3, zg4, zg5, zg6, zg7, zg8, zg9, zg10, zg11, zg12, zg13, zg14, zg15, zg16, zg17, zg18, zg19, zg20, zg21, zg22, zg23, zg24⟩
      have zd14 : ls.getD 14 false = true := (ready_dep hr rfl).2 ⟨14, .guard⟩ (by simp) rfl
      obtain rfl := zg14 zd14
      have a0 := (hB.cell (ltc c0)).trans c0
      have a1 := (hB.cell (ltc c1)).trans c1
      have a2 := (hB.cell (ltc c2)).trans c2
      have a3 := (hB.cell (ltc ct)).trans ct
      have a4 := (hB.cell (ltc ck)).trans ck
      have a5 := (hB.cell (ltc cs)).trans cs
      have a6 := (hB.cell (ltc ca)).trans ca
      refine wpOp_step rfl (fun K hK => ?_)
      clear hr
      go_simp
      refine hK _ _ ?_
      simp only [getD_own (l := ls) (i := 15) (by omega), gs 15 0, gs 15 1, gs 15 2, gs 15 3, gs 15 4, gs 15 5, gs 15 6, gs 15 7, gs 15 8, gs 15 9, gs 15 10, gs 15 11, gs 15 12, gs 15 13, gs 15 14, gs 15 16, gs 15 17, gs 15 18, gs 15 19, gs 15 20, gs 15 21, gs 15 22, gs 15 23, gs 15 24]
      exact ⟨v4, v5, v6, v7, v8, v9, v10, v11, v12, v13, v14, v15, v16, v17, v18, _, _, v21, v22, v23, v24, v25, v26, v27, v28, rfl, by simp [hl], hB, zg0, zg1, zg2, zg3, zg4, zg5, zg6, zg7, zg8, zg9, zg10, zg11, zg12, zg13, fun _ => rfl, fun _ => rfl, zg16, zg17, zg18, zg19, zg20, zg21, zg22, zg23, zg24⟩
    · rintro ls ac w' hr ⟨v4, v5, v6, v7, v8, v9, v10, v11, v12, v13, v14, v15, v16, v17, v18, v19, v20, v21, v22, v23, v24, v25, v26, v27, v28, rfl, hl, hB, zg0, zg1, zg2, zg3, zg4, zg5, zg6, zg7, zg8, zg9, zg10, zg11, zg12, zg13, zg14, zg15, zg16, zg17, zg18, zg19, zg20, zg21, zg22, zg23, zg24⟩
      have zd14 : ls.getD 14 false = true := (ready_dep hr rfl).2 ⟨14, .guard⟩ (by simp) rfl
      obtain rfl := zg14 zd14
      have a0 := (hB.cell (ltc c0)).trans c0
      have a1 := (hB.cell (ltc c1)).trans c1
      have a2 := (hB.cell (ltc c2)).trans c2
      have a3 := (hB.cell (ltc ct)).trans ct
      have a4 := (hB.cell (ltc ck)).trans ck
      have a5 := (hB.cell (ltc cs)).trans cs
      have a6 := (hB.cell (ltc ca)).trans ca
      refine wpOp_step rfl (fun K hK => ?_)
      clear hr
      go_simp
      refine hK _ _ ?_
      simp only [getD_own (l := ls) (i := 16) (by omega), gs 16 0, gs 16 1, gs 16 2, gs 16 3, gs 16 4, gs 16 5, gs 16 6, gs 16 7, gs 16 8, gs 16 9, gs 16 10, gs 16 11, gs 16 12, gs 16 13, gs 16 14, gs 16 15, gs 16 17, gs 16 18, gs 16 19, gs 16 20, gs 16 21, gs 16 22, gs 16 23, gs 16 24]
      exact ⟨v4, v5, v6, v7, v8, v9, v10, v11, v12, v13, v14, v15, v16, v17, v18, _, v20, _, v22, v23, v24, v25, v26, v27, v28, rfl, by simp [hl], hB, zg0, zg1, zg2, zg3, zg4, zg5, zg6, zg7, zg8, zg9, zg10, zg11, zg12, zg13, fun _ => rfl, zg15, fun _ => rfl, zg17, zg18, zg19, zg20, zg21, zg22, zg23, zg24⟩
    · rintro ls ac w' hr ⟨v4, v5, v6, v7, v8, v9, v10, v11, v12, v13, v14, v15, v16, v17, v18, v19, v20, v21, v22, v23, v24, v25, v26, v27, v28, rfl, hl, hB, zg0, zg1, zg2, zg3, zg4, zg5, zg6, zg7, zg8, zg9, zg10, zg11, zg12, zg13, zg14, zg15, zg16, zg17, zg18, zg19, zg20, zg21, zg22, zg23, zg24⟩
      have zd16 : ls.getD 16 false = true := (ready_dep hr rfl).2 ⟨16, .data⟩ (by simp) rfl
      have zd14 : ls.getD 14 false = true := (ready_dep hr rfl).2 ⟨14, .guard⟩ (by simp) rfl
      obtain rfl := zg16 zd16
      obtain rfl := zg14 zd14
      refine wpOp_step rfl (fun K hK => ?_)
      clear hr
      go_simp
      refine hK _ _ ?_
      simp only [getD_own (l := ls) (i := 17) (by omega), gs 17 0, gs 17 1, gs 17 2, gs 17 3, gs 17 4, gs 17 5, gs 17 6, gs 17 7, gs 17 8, gs 17 9, gs 17 10, gs 17 11, gs 17 12, gs 17 13, gs 17 14, gs 17 15, gs 17 16, gs 17 18, gs 17 19, gs 17 20, gs 17 21, gs 17 22, gs 17 23, gs 17 24]
      exact ⟨v4, v5, v6, v7, v8, v9, v10, v11, v12, v13, v14, v15, v16, v17, v18, _, v20, _, _, v23, v24, v25, v26, v27, v28, rfl, by simp [hl], hB, zg0, zg1, zg2, zg3, zg4, zg5, zg6, zg7, zg8, zg9, zg10, zg11, zg12, zg13, fun _ => rfl, zg15, fun _ => rfl, fun _ => rfl, zg18, zg19, zg20, zg21, zg22, zg23, zg24⟩
    · rintro ls ac w' hr ⟨v4, v5, v6, v7, v8, v9, v10, v11, v12, v13, v14, v15, v16, v17, v18, v19, v20, v21, v22, v23, v24, v25, v26, v27, v28, rfl, hl, hB, zg0, zg1, zg2, zg3, zg4, zg5, zg6, zg7, zg8, zg9, zg10, zg11, zg12, zg13, zg14, zg15, zg16, zg17, zg18, zg19, zg20, zg21, zg22, zg23, zg24⟩
      have zd17 : ls.getD 17 false = true := (ready_dep hr rfl).2 ⟨17, .data⟩ (by simp) rfl
      have zd14 : ls.getD 14 false = true := (ready_dep hr rfl).2 ⟨14, .guard⟩ (by simp) rfl
      obtain rfl := zg17 zd17
      obtain rfl := zg14 zd14
      refine wpOp_step rfl (fun K hK => ?_)
      clear hr
      go_simp
      refine hK _ _ ?_
      simp only [getD_own (l := ls) (i := 18) (by omega), gs 18 0, gs 18 1, gs 18 2, gs 18 3, gs 18 4, gs 18 5, gs 18 6, gs 18 7, gs 18 8, gs 18 9, gs 18 10, gs 18 11, gs 18 12, gs 18 13, gs 18 14, gs 18 15, gs 18 16, gs 18 17, gs 18 19, gs 18 20, gs 18 21, gs 18 22, gs 18 23, gs 18 24]
      exact ⟨v4, v5, v6, v7, v8, v9, v10, v11, v12, v13, v14, v15, v16, v17, v18, _, v20, v21, _, _, v24, v25, v26, v27, v28, rfl, by simp [hl], hB, zg0, zg1, zg2, zg3, zg4, zg5, zg6, zg7, zg8, zg9, zg10, zg11, zg12, zg13, fun _ => rfl, zg15, zg16, fun _ => rfl, fun _ => rfl, zg19, zg20, zg21, zg22, zg23, zg24⟩
    · rintro ls ac w' hr ⟨v4, v5, v6, v7, v8, v9, v10, v11, v12, v13, v14, v15, v16, v17, v18, v19, v20, v21, v22, v23, v24, v25, v26, v27, v28, rfl, hl, hB, zg0, zg1, zg2, zg3, zg4, zg5, zg6, zg7, zg8, zg9, zg10, zg11, zg12, zg13, zg14, zg15, zg16, zg17, zg18, zg19, zg20, zg21, zg22, zg23, zg24⟩
      have zd18 : ls.getD 18 false = true := (ready_dep hr rfl).2 ⟨18, .data⟩ (by simp) rfl
      have zd14 : ls.getD 14 false = true := (ready_dep hr rfl).2 ⟨14, .guard⟩ (by simp) rfl
      obtain rfl := zg18 zd18
      obtain rfl := zg14 zd14
      refine wpOp_step rfl (fun K hK => ?_)
      clear hr
      go_simp
      refine hK _ _ ?_
      simp only [getD_own (l := ls) (i := 19) (by omega), gs 19 0, gs 19 1, gs 19 2, gs 19 3, gs 19 4, gs 19 5, gs 19 6, gs 19 7, gs 19 8, gs 19 9, gs 19 10, gs 19 11, gs 19 12, gs 19 13, gs 19 14, gs 19 15, gs 19 16, gs 19 17, gs 19 18, gs 19 20, gs 19 21, gs 19 22, gs 19 23, gs 19 24]
      exact ⟨v4, v5, v6, v7, v8, v9, v10, v11, v12, v13, v14, v15, v16, v17, v18, _, v20, v21, v22, _, _, v25, v26, v27, v28, rfl, by simp [hl], hB, zg0, zg1, zg2, zg3, zg4, zg5, zg6, zg7, zg8, zg9, zg10, zg11, zg12, zg13, fun _ => rfl, zg15, zg16, zg17, fun _ => rfl, fun _ => rfl, zg20, zg21, zg22, zg23, zg24⟩
    · rintro ls ac w' hr ⟨v4, v5, v6, v7, v8, v9, v10, v11, v12, v13, v14, v15, v16, v17, v18, v19, v20, v21, v22, v23, v24, v25, v26, v27, v28, rfl, hl, hB, zg0, zg1, zg2, zg3, zg4, zg5, zg6, zg7, zg8, zg9, zg10, zg11, zg12, zg13, zg14, zg15, zg16, zg17, zg18, zg19, zg20, zg21, zg22, zg23, zg24⟩
      have zd19 : ls.getD 19 false = true := (ready_dep hr rfl).2 ⟨19, .data⟩ (by simp) rfl
      have zd14 : ls.getD 14 false = true := (ready_dep hr rfl).2 ⟨14, .guard⟩ (by simp) rfl
      obtain rfl := zg19 zd19
      obtain rfl := zg14 zd14
      have a0 := (hB.cell (ltc c0)).trans c0
      have a1 := (hB.cell (ltc c1)).trans c1
      have a2 := (hB.cell (ltc c2)).trans c2
      have a3 := (hB.cell (ltc ct)).trans ct
      have a4 := (hB.cell (ltc ck)).trans ck
      have a5 := (hB.cell (ltc cs)).trans cs
      have a6 := (hB.cell (ltc ca)).trans ca
      refine wpOp_step rfl (fun K hK => ?_)
      clear hr
      go_simp
      refine hK _ _ ?_
      simp only [getD_own (l := ls) (i := 20) (by omega), gs 20 0, gs 20 1, gs 20 2, gs 20 3, gs 20 4, gs 20 5, gs 20 6, gs 20 7, gs 20 8, gs 20 9, gs 20 10, gs 20 11, gs 20 12, gs 20 13, gs 20 14, gs 20 15, gs 20 16, gs 20 17, gs 20 18, gs 20 19, gs 20 21, gs 20 22, gs 20 23, gs 20 24]
      exact ⟨v4, v5, v6, v7, v8, v9, v10, v11, v12, v13, v14, v15, v16, v17, v18, _, v20, v21, v22, v23, _, _, v26, v27, v28, rfl, by simp [hl], hB, zg0, zg1, zg2, zg3, zg4, zg5, zg6, zg7, zg8, zg9, zg10, zg11, zg12, zg13, fun _ => rfl, zg15, zg16, zg17, zg18, fun _ => rfl, fun _ => rfl, zg21, zg22, zg23, zg24⟩
    · rintro ls ac w' hr ⟨v4, v5, v6, v7, v8, v9, v10, v11, v12, v13, v14, v15, v16, v17, v18, v19, v20, v21, v22, v23, v24, v25, v26, v27, v28, rfl, hl, hB, zg0, zg1, zg2, zg3, zg4, zg5, zg6, zg7, zg8, zg9, zg10, zg11, zg12, zg13, zg14, zg15, zg16, zg17, zg18, zg19, zg20, zg21, zg22, zg23, zg24⟩
      have zd15 : ls.getD 15 false = true := (ready_dep hr rfl).2 ⟨15, .data⟩ (by simp) rfl
      have zd20 : ls.getD 20 false = true := (ready_dep hr rfl).2 ⟨20, .data⟩ (by simp) rfl
      have zd14 : ls.getD 14 false = true := (ready_dep hr rfl).2 ⟨14, .guard⟩ (by simp) rfl
      obtain rfl := zg15 zd15
      obtain rfl := zg20 zd20
      obtain rfl := zg14 zd14
      refine wpOp_step rfl (fun K hK => ?_)
      clear hr
      go_simp
      refine hK _ _ ?_
      simp only [getD_own (l := ls) (i := 21) (by omega), gs 21 0, gs 21 1, gs 21 2, gs 21 3, gs 21 4, gs 21 5, gs 21 6, gs 21 7, gs 21 8, gs 21 9, gs 21 10, gs 21 11, gs 21 12, gs 21 13, gs 21 14, gs 21 15, gs 21 16, gs 21 17, gs 21 18, gs 21 19, gs 21 20, gs 21 22, gs 21 23, gs 21 24]
      exact ⟨v4, v5, v6, v7, v8, v9, v10, v11, v12, v13, v14, v15, v16, v17, v18, _, _, v21, v22, v23, v24, _, _, v27, v28, rfl, by simp [hl], hB, zg0, zg1, zg2, zg3, zg4, zg5, zg6, zg7, zg8, zg9, zg10, zg11, zg12, zg13, fun _ => rfl, fun _ => rfl, zg16, zg17, zg18, zg19, fun _ => rfl, fun _ => rfl, zg22, zg23, zg24⟩
    · rintro ls ac w' hr ⟨v4, v5, v6, v7, v8, v9, v10, v11, v12, v13, v14, v15, v16, v17, v18, v19, v20, v21, v22, v23, v24, v25, v26, v27, v28, rfl, hl, hB, zg0, zg1, zg2, zg3, zg4, zg5, zg6, zg7, zg8, zg9, zg10, zg11, zg12, zg13, zg14, zg15, zg16, zg17, zg18, zg19, zg20, zg21, zg22, zg23, zg24⟩
      have zd14 : ls.getD 14 false = true := (ready_dep hr rfl).2 ⟨14, .data⟩ (by simp) rfl
      have zd21 : ls.getD 21 false = true := (ready_dep hr rfl).2 ⟨21, .data⟩ (by simp) rfl
      have zd11 : ls.getD 11 false = true := (ready_dep hr rfl).2 ⟨11, .guard⟩ (by simp) rfl
      obtain rfl := zg14 zd14
      obtain rfl := zg21 zd21
      obtain rfl := zg11 zd11
      refine wpOp_step rfl (fun K hK => ?_)
      clear hr
      go_simp
      refine hK _ _ ?_
      simp only [getD_own (l := ls) (i := 22) (by omega), gs 22 0, gs 22 1, gs 22 2, gs 22 3, gs 22 4, gs 22 5, gs 22 6, gs 22 7, gs 22 8, gs 22 9, gs 22 10, gs 22 11, gs 22 12, gs 22 13, gs 22 14, gs 22 15, gs 22 16, gs 22 17, gs 22 18, gs 22 19, gs 22 20, gs 22 21, gs 22 23, gs 22 24]
      exact ⟨v4, v5, v6, v7, v8, v9, v10, v11, v12, v13, v14, v15, _, v17, v18, _, v20, v21, v22, v23, v24, v25, _, _, v28, rfl, by simp [hl], hB, zg0, zg1, zg2, zg3, zg4, zg5, zg6, zg7, zg8, zg9, zg10, fun _ => rfl, zg12, zg13, fun _ => rfl, zg15, zg16, zg17, zg18, zg19, zg20, fun _ => rfl, fun _ => rfl, zg23, zg24⟩
    · rintro ls ac w' hr ⟨v4, v5, v6, v7, v8, v9, v10, v11, v12, v13, v14, v15, v16, v17, v18, v19, v20, v21, v22, v23, v24, v25, v26, v27, v28, rfl, hl, hB, zg0, zg1, zg2, zg3, zg4, zg5, zg6, zg7, zg8, zg9, zg10, zg11, zg12, zg13, zg14, zg15, zg16, zg17, zg18, zg19, zg20, zg21, zg22, zg23, zg24⟩
      have zd11 : ls.getD 11 false = true := (ready_dep hr rfl).2 ⟨11, .data⟩ (by simp) rfl
      have zd22 : ls.getD 22 false = true := (ready_dep hr rfl).2 ⟨22, .data⟩ (by simp) rfl
      obtain rfl := zg11 zd11
      obtain rfl := zg22 zd22
      refine wpOp_step rfl (fun K hK => ?_)
      clear hr
      go_simp
      refine hK _ _ ?_
      simp only [getD_own (l := ls) (i := 23) (by omega), gs 23 0, gs 23 1, gs 23 2, gs 23 3, gs 23 4, gs 23 5, gs 23 6, gs 23 7, gs 23 8, gs 23 9, gs 23 10, gs 23 11, gs 23 12, gs 23 13, gs 23 14, gs 23 15, gs 23 16, gs 23 17, gs 23 18, gs 23 19, gs 23 20, gs 23 21, gs 23 22, gs 23 24]
      exact ⟨v4, v5, v6, v7, v8, v9, v10, v11, v12, v13, v14, v15, _, v17, v18, v19, v20, v21, v22, v23, v24, v25, v26, _, _, rfl, by simp [hl], hB, zg0, zg1, zg2, zg3, zg4, zg5, zg6, zg7, zg8, zg9, zg10, fun _ => rfl, zg12, zg13, zg14, zg15, zg16, zg17, zg18, zg19, zg20, zg21, fun _ => rfl, fun _ => rfl, zg24⟩
    · rintro ls ac w' hr ⟨v4, v5, v6, v7, v8, v9, v10, v11, v12, v13, v14, v15, v16, v17, v18, v19, v20, v21, v22, v23, v24, v25, v26, v27, v28, rfl, hl, hB, zg0, zg1, zg2, zg3, zg4, zg5, zg6, zg7, zg8, zg9, zg10, zg11, zg12, zg13, zg14, zg15, zg16, zg17, zg18, zg19, zg20, zg21, zg22, zg23, zg24⟩
      have zd23 : ls.getD 23 false = true := (ready_dep hr rfl).2 ⟨23, .data⟩ (by simp) rfl
      obtain rfl := zg23 zd23
      refine wpOp_step rfl (fun K hK => ?_)
      clear hr
      go_simp
      refine hK _ _ ?_
      simp only [getD_own (l := ls) (i := 24) (by omega), gs 24 0, gs 24 1, gs 24 2, gs 24 3, gs 24 4, gs 24 5, gs 24 6, gs 24 7, gs 24 8, gs 24 9, gs 24 10, gs 24 11, gs 24 12, gs 24 13, gs 24 14, gs 24 15, gs 24 16, gs 24 17, gs 24 18, gs 24 19, gs 24 20, gs 24 21, gs 24 22, gs 24 23]
      exact ⟨_, v5, v6, v7, v8, v9, v10, v11, v12, v13, v14, v15, v16, v17, v18, v19, v20, v21, v22, v23, v24, v25, v26, v27, _, rfl, by simp [hl], hB, zg0, zg1, zg2, zg3, zg4, zg5, zg6, zg7, zg8, zg9, zg10, zg11, zg12, zg13, zg14, zg15, zg16, zg17, zg18, zg19, zg20, zg21, zg22, fun _ => rfl, fun _ => rfl⟩
  · rintro ls ac w' ⟨v4, v5, v6, v7, v8, v9, v10, v11, v12, v13, v14, v15, v16, v17, v18, v19, v20, v21, v22, v23, v24, v25, v26, v27, v28, rfl, hl, hB, zg0, zg1, zg2, zg3, zg4, zg5, zg6, zg7, zg8, zg9, zg10, zg11, zg12, zg13, zg14, zg15, zg16, zg17, zg18, zg19, zg20, zg21, zg22, zg23, zg24⟩ hr
    have hall := ready_allb (by decide) hl hr
    obtain rfl := zg24 (hall 24 (by decide))
    go_wp2
    go_ret
    exact ⟨rfl, hB⟩
end Go.Proofs.Ytnphbdhcoiaklaa
