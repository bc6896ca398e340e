/-
  The walks of package delay's Mean.
-/
import Derived.Test.YtigpddhffgoioaaDb
import Derived.Test.YtigpddhffgoioaaSd
import Derived.Test.YtigpddhffgoioaaInvb
import Derived.Test.YtigpddhffgoioaaWd
import Derived.Test.YtigpddhffgoioaaSpt
import Derived.BigQuiet
import Derived.Deep.QuietTactic
import Derived.Deep.Cut
import Derived.Deep.CutRange
import Derived.Deep.DeepCutAuto
namespace Go.Proofs.Ytigpddhffgoioaa
open Go.RowKit


set_option maxRecDepth 100000 in
set_option maxHeartbeats 4000000 in
theorem Mean_is (mn mx g x0 x1 x2 x3 c0 c1 y1 y2 : Int) (y3 : Bool) (hc0 : I64 c0) (hc1 : I64 c1) (H : Hid (dMean mn mx g x0 x1 x2 x3 c0 c1 = ⟨y1, y2, y3⟩)) (w : World) :
    Calls Try.prog 14 #[.agg #[.int .i64 mn, .int .i64 mx, .int .i64 g], .agg #[.int .i64 x0, .int .i64 x1, .int .i64 x2, .int .i64 x3], .agg #[.int .i64 c0, .int .i64 c1]] w fun e w' => e = .returned (.agg #[.int .i64 y1, .int .i64 y2, .bool y3]) ∧ Below w.heap.size w w' := by
  obtain ⟨⟨a1, a2, a3⟩, ea⟩ : ∃ s, spOf x1 x1 = s := ⟨_, rfl⟩
  have Ha := Lib.hid ea
  obtain ⟨⟨b1, b2, b3⟩, eb⟩ : ∃ s, spOf x0 x0 = s := ⟨_, rfl⟩
  have Hb := Lib.hid eb
  obtain ⟨⟨d1, d2, d3⟩, ed⟩ : ∃ s, spSub ⟨a1, a2, a3⟩ ⟨b1, b2, b3⟩ = s := ⟨_, rfl⟩
  have Hd := Lib.hid ed
  obtain ⟨⟨e1, e2, e3⟩, ee⟩ : ∃ s, dCorr c0 = s := ⟨_, rfl⟩
  have He := Lib.hid ee
  obtain ⟨⟨f1, f2, f3⟩, ef⟩ : ∃ s, spSub ⟨d1, d2, d3⟩ ⟨e1, e2, e3⟩ = s := ⟨_, rfl⟩
  have Hf := Lib.hid ef
  obtain ⟨⟨i1, i2, i3⟩, ei⟩ : ∃ s, spOf x3 x3 = s := ⟨_, rfl⟩
  have Hi := Lib.hid ei
  obtain ⟨⟨j1, j2, j3⟩, ej⟩ : ∃ s, spOf x2 x2 = s := ⟨_, rfl⟩
  have Hj := Lib.hid ej
  obtain ⟨⟨k1, k2, k3⟩, ek⟩ : ∃ s, spSub ⟨i1, i2, i3⟩ ⟨j1, j2, j3⟩ = s := ⟨_, rfl⟩
  have Hk := Lib.hid ek
  obtain ⟨⟨l1, l2, l3⟩, el⟩ : ∃ s, dCorr c1 = s := ⟨_, rfl⟩
  have Hl := Lib.hid el
  obtain ⟨⟨m1, m2, m3⟩, em⟩ : ∃ s, spSub ⟨k1, k2, k3⟩ ⟨l1, l2, l3⟩ = s := ⟨_, rfl⟩
  have Hm := Lib.hid em
  obtain ⟨⟨n1, n2, n3⟩, en⟩ : ∃ s, spAdd ⟨f1, f2, f3⟩ ⟨m1, m2, m3⟩ = s := ⟨_, rfl⟩
  have Hn := Lib.hid en
  obtain ⟨⟨s1, s2, s3⟩, es⟩ : ∃ s, dWider mn mx g 4 ⟨n1, n2, n3⟩ = s := ⟨_, rfl⟩
  have Hs := Lib.hid es
  have HX : (if s3 = true then spOf (floorP s1 1 2).1 (ceilP s2 1 2).1 else spNo) = ⟨y1, y2, y3⟩ := by
    have hx := H.out
    unfold dMean dTwo at hx
    rw [ea, eb, ed, ee, ef, ei, ej, ek, el, em, en, es] at hx
    exact hx
  have HXh := Lib.hid HX
  clear H HX ea eb ed ee ef ei ej ek el em en es
  obtain ⟨fl1, fi, hfl⟩ : ∃ x p, floorP s1 1 2 = (x, p) := ⟨_, _, rfl⟩
  have HF := Lib.hid hfl
  obtain ⟨ce1, ci, hce⟩ : ∃ x p, ceilP s2 1 2 = (x, p) := ⟨_, _, rfl⟩
  have HC := Lib.hid hce
  clear hfl hce
  go_enter Try.func14, Try.ntmps14
  go_upto_region 1 with (fail)
  generalize hu : (((w.alloc (.cells #[.int .i64 mn, .int .i64 mx, .int .i64 g] 34)).alloc (.cells #[.int .i64 x0, .int .i64 x1, .int .i64 x2, .int .i64 x3] 30)).alloc (.cells #[.int .i64 c0, .int .i64 c1] 24)).alloc (.cells #[.int .i64 0, .int .i64 0, .bool false] 32) = z
  have hb : Below w.heap.size w z := by rw [← hu]; exact balloc (balloc (balloc (balloc (brefl _) _) _) _) _
  have qB0_0 : CellF z ⟨w.heap.size, 0, none⟩ (.int .i64 mn) := by rw [← hu]; repeat (first | with_reducible exact CellF.at_ (by simp) rfl | with_reducible refine CellF.past _ ?_)
  have cB0_0 := qB0_0.1
  have qB0_1 : CellF z ⟨w.heap.size, 1, none⟩ (.int .i64 mx) := by rw [← hu]; repeat (first | with_reducible exact CellF.at_ (by simp) rfl | with_reducible refine CellF.past _ ?_)
  have cB0_1 := qB0_1.1
  have qB0_2 : CellF z ⟨w.heap.size, 2, none⟩ (.int .i64 g) := by rw [← hu]; repeat (first | with_reducible exact CellF.at_ (by simp) rfl | with_reducible refine CellF.past _ ?_)
  have cB0_2 := qB0_2.1
  have zB0 := ltc cB0_0
  have qB1_0 : CellF z ⟨(w.heap.size + 1), 0, none⟩ (.int .i64 x0) := by rw [← hu]; repeat (first | with_reducible exact CellF.at_ (by simp) rfl | with_reducible refine CellF.past _ ?_)
  have cB1_0 := qB1_0.1
  have qB1_1 : CellF z ⟨(w.heap.size + 1), 1, none⟩ (.int .i64 x1) := by rw [← hu]; repeat (first | with_reducible exact CellF.at_ (by simp) rfl | with_reducible refine CellF.past _ ?_)
  have cB1_1 := qB1_1.1
  have qB1_2 : CellF z ⟨(w.heap.size + 1), 2, none⟩ (.int .i64 x2) := by rw [← hu]; repeat (first | with_reducible exact CellF.at_ (by simp) rfl | with_reducible refine CellF.past _ ?_)
  have cB1_2 := qB1_2.1
  have qB1_3 : CellF z ⟨(w.heap.size + 1), 3, none⟩ (.int .i64 x3) := by rw [← hu]; repeat (first | with_reducible exact CellF.at_ (by simp) rfl | with_reducible refine CellF.past _ ?_)
  have cB1_3 := qB1_3.1
  have zB1 := ltc cB1_0
  have qB2_0 : CellF z ⟨(w.heap.size + 2), 0, none⟩ (.int .i64 c0) := by rw [← hu]; repeat (first | with_reducible exact CellF.at_ (by simp) rfl | with_reducible refine CellF.past _ ?_)
  have cB2_0 := qB2_0.1
  have qB2_1 : CellF z ⟨(w.heap.size + 2), 1, none⟩ (.int .i64 c1) := by rw [← hu]; repeat (first | with_reducible exact CellF.at_ (by simp) rfl | with_reducible refine CellF.past _ ?_)
  have cB2_1 := qB2_1.1
  have zB2 := ltc cB2_0
  have qB3_0 : CellF z ⟨(w.heap.size + 3), 0, none⟩ (.int .i64 0) := by rw [← hu]; repeat (first | with_reducible exact CellF.at_ (by simp) rfl | with_reducible refine CellF.past _ ?_)
  have cB3_0 := qB3_0.1
  have qB3_1 : CellF z ⟨(w.heap.size + 3), 1, none⟩ (.int .i64 0) := by rw [← hu]; repeat (first | with_reducible exact CellF.at_ (by simp) rfl | with_reducible refine CellF.past _ ?_)
  have cB3_1 := qB3_1.1
  have qB3_2 : CellF z ⟨(w.heap.size + 3), 2, none⟩ (.bool false) := by rw [← hu]; repeat (first | with_reducible exact CellF.at_ (by simp) rfl | with_reducible refine CellF.past _ ?_)
  have cB3_2 := qB3_2.1
  have zB3 := ltc cB3_0
  clear hu
  go_upto_region 1 with (fail)
  go_cut [7] (fun v7 wd => ∃ bf, v7 = .pointer (some ⟨bf, 0, none⟩) ∧ Hid (Below w.heap.size w wd) ∧ Hid (CellF wd ⟨w.heap.size, 0, none⟩ (.int .i64 mn) ∧ CellF wd ⟨w.heap.size, 1, none⟩ (.int .i64 mx) ∧ CellF wd ⟨w.heap.size, 2, none⟩ (.int .i64 g)) ∧ Hid (CellF wd ⟨(w.heap.size + 1), 0, none⟩ (.int .i64 x0) ∧ CellF wd ⟨(w.heap.size + 1), 1, none⟩ (.int .i64 x1) ∧ CellF wd ⟨(w.heap.size + 1), 2, none⟩ (.int .i64 x2) ∧ CellF wd ⟨(w.heap.size + 1), 3, none⟩ (.int .i64 x3)) ∧ Hid (CellF wd ⟨(w.heap.size + 2), 0, none⟩ (.int .i64 c0) ∧ CellF wd ⟨(w.heap.size + 2), 1, none⟩ (.int .i64 c1)) ∧ Hid (CellF wd ⟨(w.heap.size + 3), 0, none⟩ (.int .i64 0) ∧ CellF wd ⟨(w.heap.size + 3), 1, none⟩ (.int .i64 0) ∧ CellF wd ⟨(w.heap.size + 3), 2, none⟩ (.bool false)) ∧ Hid (SpanAt wd bf f1 f2 f3))
  case first =>
    refine wp_region_inv (by kernel_rfl) (fun ls ac w' => ∃ v7 v14 v15 v16 v17 v18 v19 v20 v21 v22 v23 v24, ac = ⟨#[.agg #[.int .i64 mn, .int .i64 mx, .int .i64 g], .agg #[.int .i64 x0, .int .i64 x1, .int .i64 x2, .int .i64 x3], .agg #[.int .i64 c0, .int .i64 c1], .pointer (some ⟨w.heap.size, 0, none⟩), .pointer (some ⟨w.heap.size + 1, 0, none⟩), .pointer (some ⟨w.heap.size + 2, 0, none⟩), .pointer (some ⟨w.heap.size + 3, 0, none⟩), v7, undef, undef, undef, undef, undef, undef, v14, v15, v16, v17, v18, v19, v20, v21, v22, v23, v24, undef, undef, undef, undef, undef, undef, undef, undef, undef, undef, undef, undef, undef, undef, undef, undef, undef, undef, undef, undef, undef, undef, undef, undef, undef, undef, undef, undef, undef, undef, undef, undef, undef, undef, undef, undef], []⟩ ∧ ls.size = 13 ∧ Below z.heap.size z w' ∧ (ls.getD 0 false = true → v14 = .pointer (some ⟨w.heap.size + 1, 1, none⟩)) ∧ (ls.getD 1 false = true → v15 = .int .i64 x1) ∧ (ls.getD 2 false = true → v16 = .agg #[.int .i64 a1, .int .i64 a2, .bool a3]) ∧ (ls.getD 3 false = true → v17 = .pointer (some ⟨w.heap.size + 1, 0, none⟩)) ∧ (ls.getD 4 false = true → v18 = .int .i64 x0) ∧ (ls.getD 5 false = true → v19 = .agg #[.int .i64 b1, .int .i64 b2, .bool b3]) ∧ (ls.getD 6 false = true → v20 = .agg #[.int .i64 d1, .int .i64 d2, .bool d3]) ∧ (ls.getD 7 false = true → v21 = .pointer (some ⟨w.heap.size + 2, 0, none⟩)) ∧ (ls.getD 8 false = true → v22 = .int .i64 c0) ∧ (ls.getD 9 false = true → v23 = .agg #[.int .i64 e1, .int .i64 e2, .bool e3]) ∧ (ls.getD 10 false = true → v24 = .agg #[.int .i64 f1, .int .i64 f2, .bool f3]) ∧ (ls.getD 11 false = true → ∃ b, v7 = .pointer (some ⟨b, 0, none⟩) ∧ z.heap.size ≤ b ∧ (ls.getD 12 false = false → SpanAt w' b 0 0 false) ∧ (ls.getD 12 false = true → SpanAt w' b f1 f2 f3)) ∧ (ls.getD 12 false = true → ls.getD 11 false = true)) ?_ ?_ ?_
    · exact ⟨_, _, _, _, _, _, _, _, _, _, _, _, rfl, rfl, bdrew (brefl _), fun h => (by cases h), fun h => (by cases h), fun h => (by cases h), fun h => (by cases h), fun h => (by cases h), fun h => (by cases h), fun h => (by cases h), fun h => (by cases h), fun h => (by cases h), fun h => (by cases h), fun h => (by cases h), fun h => (by cases h), fun h => (by cases h)⟩
    · intro i hii
      have hin : i < 13 := hii
      have hor : i = 0 ∨ i = 1 ∨ i = 2 ∨ i = 3 ∨ i = 4 ∨ i = 5 ∨ i = 6 ∨ i = 7 ∨ i = 8 ∨ i = 9 ∨ i = 10 ∨ i = 11 ∨ i = 12 := by omega
      rcases hor with rfl | rfl | rfl | rfl | rfl | rfl | rfl | rfl | rfl | rfl | rfl | rfl | rfl
      · rintro ls ac w' hr ⟨v7, v14, v15, v16, v17, v18, v19, v20, v21, v22, v23, v24, rfl, hl, hB, zg0, zg1, zg2, zg3, zg4, zg5, zg6, zg7, zg8, zg9, zg10, zh1, zk1⟩
        refine wpOp_step rfl (fun K hK => ?_)
        clear hr
        go_simp
        refine hK _ _ ?_
        simp only [getD_own (l := ls) (i := 0) (by omega), getD_set ls (i := 0) (j := 1) (by decide), getD_set ls (i := 0) (j := 2) (by decide), getD_set ls (i := 0) (j := 3) (by decide), getD_set ls (i := 0) (j := 4) (by decide), getD_set ls (i := 0) (j := 5) (by decide), getD_set ls (i := 0) (j := 6) (by decide), getD_set ls (i := 0) (j := 7) (by decide), getD_set ls (i := 0) (j := 8) (by decide), getD_set ls (i := 0) (j := 9) (by decide), getD_set ls (i := 0) (j := 10) (by decide), getD_set ls (i := 0) (j := 11) (by decide), getD_set ls (i := 0) (j := 12) (by decide)]
        exact ⟨v7, _, v15, v16, v17, v18, v19, v20, v21, v22, v23, v24, rfl, by simp [hl], hB, fun _ => rfl, zg1, zg2, zg3, zg4, zg5, zg6, zg7, zg8, zg9, zg10, zh1, zk1⟩
      · rintro ls ac w' hr ⟨v7, v14, v15, v16, v17, v18, v19, v20, v21, v22, v23, v24, rfl, hl, hB, zg0, zg1, zg2, zg3, zg4, zg5, zg6, zg7, zg8, zg9, zg10, zh1, zk1⟩
        have zd0 : ls.getD 0 false = true := (ready_dep hr rfl).2 ⟨0, .data⟩ (by simp) rfl
        obtain rfl := zg0 zd0
        have a0 := (hB.cell (ltc cB0_0)).trans cB0_0
        have a1 := (hB.cell (ltc cB0_1)).trans cB0_1
        have a2 := (hB.cell (ltc cB0_2)).trans cB0_2
        have a3 := (hB.cell (ltc cB1_0)).trans cB1_0
        have a4 := (hB.cell (ltc cB1_1)).trans cB1_1
        have a5 := (hB.cell (ltc cB1_2)).trans cB1_2
        have a6 := (hB.cell (ltc cB1_3)).trans cB1_3
        have a7 := (hB.cell (ltc cB2_0)).trans cB2_0
        have a8 := (hB.cell (ltc cB2_1)).trans cB2_1
        have a9 := (hB.cell (ltc cB3_0)).trans cB3_0
        have a10 := (hB.cell (ltc cB3_1)).trans cB3_1
        have a11 := (hB.cell (ltc cB3_2)).trans cB3_2
        refine wpOp_step rfl (fun K hK => ?_)
        clear hr
        go_simp
        refine hK _ _ ?_
        simp only [getD_own (l := ls) (i := 1) (by omega), getD_set ls (i := 1) (j := 0) (by decide), getD_set ls (i := 1) (j := 2) (by decide), getD_set ls (i := 1) (j := 3) (by decide), getD_set ls (i := 1) (j := 4) (by decide), getD_set ls (i := 1) (j := 5) (by decide), getD_set ls (i := 1) (j := 6) (by decide), getD_set ls (i := 1) (j := 7) (by decide), getD_set ls (i := 1) (j := 8) (by decide), getD_set ls (i := 1) (j := 9) (by decide), getD_set ls (i := 1) (j := 10) (by decide), getD_set ls (i := 1) (j := 11) (by decide), getD_set ls (i := 1) (j := 12) (by decide)]
        exact ⟨v7, _, _, v16, v17, v18, v19, v20, v21, v22, v23, v24, rfl, by simp [hl], hB, fun _ => rfl, fun _ => rfl, zg2, zg3, zg4, zg5, zg6, zg7, zg8, zg9, zg10, zh1, zk1⟩
      · rintro ls ac w' hr ⟨v7, v14, v15, v16, v17, v18, v19, v20, v21, v22, v23, v24, rfl, hl, hB, zg0, zg1, zg2, zg3, zg4, zg5, zg6, zg7, zg8, zg9, zg10, zh1, zk1⟩
        have zd1 : ls.getD 1 false = true := (ready_dep hr rfl).2 ⟨1, .data⟩ (by simp) rfl
        obtain rfl := zg1 zd1
        refine wpOp_step rfl (fun K hK => ?_)
        clear hr
        go_simp
        refine (alone_is _ _ _ _ Ha _).mono ?_
        rintro e w1 ⟨rfl, hk⟩
        dsimp only
        refine hK _ _ ?_
        simp only [getD_own (l := ls) (i := 2) (by omega), getD_set ls (i := 2) (j := 0) (by decide), getD_set ls (i := 2) (j := 1) (by decide), getD_set ls (i := 2) (j := 3) (by decide), getD_set ls (i := 2) (j := 4) (by decide), getD_set ls (i := 2) (j := 5) (by decide), getD_set ls (i := 2) (j := 6) (by decide), getD_set ls (i := 2) (j := 7) (by decide), getD_set ls (i := 2) (j := 8) (by decide), getD_set ls (i := 2) (j := 9) (by decide), getD_set ls (i := 2) (j := 10) (by decide), getD_set ls (i := 2) (j := 11) (by decide), getD_set ls (i := 2) (j := 12) (by decide)]
        exact ⟨v7, v14, _, _, v17, v18, v19, v20, v21, v22, v23, v24, rfl, by simp [hl], bstep hB hk, zg0, fun _ => rfl, fun _ => rfl, zg3, zg4, zg5, zg6, zg7, zg8, zg9, zg10, fun h => (by obtain ⟨b, e1, e2, e4, e5⟩ := zh1 h; exact ⟨b, e1, e2, fun h => (e4 h).keep hk, fun h => (e5 h).keep hk⟩), zk1⟩
      · rintro ls ac w' hr ⟨v7, v14, v15, v16, v17, v18, v19, v20, v21, v22, v23, v24, rfl, hl, hB, zg0, zg1, zg2, zg3, zg4, zg5, zg6, zg7, zg8, zg9, zg10, zh1, zk1⟩
        refine wpOp_step rfl (fun K hK => ?_)
        clear hr
        go_simp
        refine hK _ _ ?_
        simp only [getD_own (l := ls) (i := 3) (by omega), getD_set ls (i := 3) (j := 0) (by decide), getD_set ls (i := 3) (j := 1) (by decide), getD_set ls (i := 3) (j := 2) (by decide), getD_set ls (i := 3) (j := 4) (by decide), getD_set ls (i := 3) (j := 5) (by decide), getD_set ls (i := 3) (j := 6) (by decide), getD_set ls (i := 3) (j := 7) (by decide), getD_set ls (i := 3) (j := 8) (by decide), getD_set ls (i := 3) (j := 9) (by decide), getD_set ls (i := 3) (j := 10) (by decide), getD_set ls (i := 3) (j := 11) (by decide), getD_set ls (i := 3) (j := 12) (by decide)]
        exact ⟨v7, v14, v15, v16, _, v18, v19, v20, v21, v22, v23, v24, rfl, by simp [hl], hB, zg0, zg1, zg2, fun _ => rfl, zg4, zg5, zg6, zg7, zg8, zg9, zg10, zh1, zk1⟩
      · rintro ls ac w' hr ⟨v7, v14, v15, v16, v17, v18, v19, v20, v21, v22, v23, v24, rfl, hl, hB, zg0, zg1, zg2, zg3, zg4, zg5, zg6, zg7, zg8, zg9, zg10, zh1, zk1⟩
        have zd3 : ls.getD 3 false = true := (ready_dep hr rfl).2 ⟨3, .data⟩ (by simp) rfl
        obtain rfl := zg3 zd3
        have a0 := (hB.cell (ltc cB0_0)).trans cB0_0
        have a1 := (hB.cell (ltc cB0_1)).trans cB0_1
        have a2 := (hB.cell (ltc cB0_2)).trans cB0_2
        have a3 := (hB.cell (ltc cB1_0)).trans cB1_0
        have a4 := (hB.cell (ltc cB1_1)).trans cB1_1
        have a5 := (hB.cell (ltc cB1_2)).trans cB1_2
        have a6 := (hB.cell (ltc cB1_3)).trans cB1_3
        have a7 := (hB.cell (ltc cB2_0)).trans cB2_0
        have a8 := (hB.cell (ltc cB2_1)).trans cB2_1
        have a9 := (hB.cell (ltc cB3_0)).trans cB3_0
        have a10 := (hB.cell (ltc cB3_1)).trans cB3_1
        have a11 := (hB.cell (ltc cB3_2)).trans cB3_2
        refine wpOp_step rfl (fun K hK => ?_)
        clear hr
        go_simp
        refine hK _ _ ?_
        simp only [getD_own (l := ls) (i := 4) (by omega), getD_set ls (i := 4) (j := 0) (by decide), getD_set ls (i := 4) (j := 1) (by decide), getD_set ls (i := 4) (j := 2) (by decide), getD_set ls (i := 4) (j := 3) (by decide), getD_set ls (i := 4) (j := 5) (by decide), getD_set ls (i := 4) (j := 6) (by decide), getD_set ls (i := 4) (j := 7) (by decide), getD_set ls (i := 4) (j := 8) (by decide), getD_set ls (i := 4) (j := 9) (by decide), getD_set ls (i := 4) (j := 10) (by decide), getD_set ls (i := 4) (j := 11) (by decide), getD_set ls (i := 4) (j := 12) (by decide)]
        exact ⟨v7, v14, v15, v16, _, _, v19, v20, v21, v22, v23, v24, rfl, by simp [hl], hB, zg0, zg1, zg2, fun _ => rfl, fun _ => rfl, zg5, zg6, zg7, zg8, zg9, zg10, zh1, zk1⟩
      · rintro ls ac w' hr ⟨v7, v14, v15, v16, v17, v18, v19, v20, v21, v22, v23, v24, rfl, hl, hB, zg0, zg1, zg2, zg3, zg4, zg5, zg6, zg7, zg8, zg9, zg10, zh1, zk1⟩
        have zd4 : ls.getD 4 false = true := (ready_dep hr rfl).2 ⟨4, .data⟩ (by simp) rfl
        obtain rfl := zg4 zd4
        refine wpOp_step rfl (fun K hK => ?_)
        clear hr
        go_simp
        refine (alone_is _ _ _ _ Hb _).mono ?_
        rintro e w1 ⟨rfl, hk⟩
        dsimp only
        refine hK _ _ ?_
        simp only [getD_own (l := ls) (i := 5) (by omega), getD_set ls (i := 5) (j := 0) (by decide), getD_set ls (i := 5) (j := 1) (by decide), getD_set ls (i := 5) (j := 2) (by decide), getD_set ls (i := 5) (j := 3) (by decide), getD_set ls (i := 5) (j := 4) (by decide), getD_set ls (i := 5) (j := 6) (by decide), getD_set ls (i := 5) (j := 7) (by decide), getD_set ls (i := 5) (j := 8) (by decide), getD_set ls (i := 5) (j := 9) (by decide), getD_set ls (i := 5) (j := 10) (by decide), getD_set ls (i := 5) (j := 11) (by decide), getD_set ls (i := 5) (j := 12) (by decide)]
        exact ⟨v7, v14, v15, v16, v17, _, _, v20, v21, v22, v23, v24, rfl, by simp [hl], bstep hB hk, zg0, zg1, zg2, zg3, fun _ => rfl, fun _ => rfl, zg6, zg7, zg8, zg9, zg10, fun h => (by obtain ⟨b, e1, e2, e4, e5⟩ := zh1 h; exact ⟨b, e1, e2, fun h => (e4 h).keep hk, fun h => (e5 h).keep hk⟩), zk1⟩
      · rintro ls ac w' hr ⟨v7, v14, v15, v16, v17, v18, v19, v20, v21, v22, v23, v24, rfl, hl, hB, zg0, zg1, zg2, zg3, zg4, zg5, zg6, zg7, zg8, zg9, zg10, zh1, zk1⟩
        have zd2 : ls.getD 2 false = true := (ready_dep hr rfl).2 ⟨2, .data⟩ (by simp) rfl
        have zd5 : ls.getD 5 false = true := (ready_dep hr rfl).2 ⟨5, .data⟩ (by simp) rfl
        obtain rfl := zg2 zd2
        obtain rfl := zg5 zd5
        refine wpOp_step rfl (fun K hK => ?_)
        clear hr
        go_simp
        refine (SpSub_is _ _ _ _ _ _ _ _ _ Hd _).mono ?_
        rintro e w1 ⟨rfl, hk⟩
        dsimp only
        refine hK _ _ ?_
        simp only [getD_own (l := ls) (i := 6) (by omega), getD_set ls (i := 6) (j := 0) (by decide), getD_set ls (i := 6) (j := 1) (by decide), getD_set ls (i := 6) (j := 2) (by decide), getD_set ls (i := 6) (j := 3) (by decide), getD_set ls (i := 6) (j := 4) (by decide), getD_set ls (i := 6) (j := 5) (by decide), getD_set ls (i := 6) (j := 7) (by decide), getD_set ls (i := 6) (j := 8) (by decide), getD_set ls (i := 6) (j := 9) (by decide), getD_set ls (i := 6) (j := 10) (by decide), getD_set ls (i := 6) (j := 11) (by decide), getD_set ls (i := 6) (j := 12) (by decide)]
        exact ⟨v7, v14, v15, _, v17, v18, _, _, v21, v22, v23, v24, rfl, by simp [hl], bstep hB hk, zg0, zg1, fun _ => rfl, zg3, zg4, fun _ => rfl, fun _ => rfl, zg7, zg8, zg9, zg10, fun h => (by obtain ⟨b, e1, e2, e4, e5⟩ := zh1 h; exact ⟨b, e1, e2, fun h => (e4 h).keep hk, fun h => (e5 h).keep hk⟩), zk1⟩
      · rintro ls ac w' hr ⟨v7, v14, v15, v16, v17, v18, v19, v20, v21, v22, v23, v24, rfl, hl, hB, zg0, zg1, zg2, zg3, zg4, zg5, zg6, zg7, zg8, zg9, zg10, zh1, zk1⟩
        refine wpOp_step rfl (fun K hK => ?_)
        clear hr
        go_simp
        refine hK _ _ ?_
        simp only [getD_own (l := ls) (i := 7) (by omega), getD_set ls (i := 7) (j := 0) (by decide), getD_set ls (i := 7) (j := 1) (by decide), getD_set ls (i := 7) (j := 2) (by decide), getD_set ls (i := 7) (j := 3) (by decide), getD_set ls (i := 7) (j := 4) (by decide), getD_set ls (i := 7) (j := 5) (by decide), getD_set ls (i := 7) (j := 6) (by decide), getD_set ls (i := 7) (j := 8) (by decide), getD_set ls (i := 7) (j := 9) (by decide), getD_set ls (i := 7) (j := 10) (by decide), getD_set ls (i := 7) (j := 11) (by decide), getD_set ls (i := 7) (j := 12) (by decide)]
        exact ⟨v7, v14, v15, v16, v17, v18, v19, v20, _, v22, v23, v24, rfl, by simp [hl], hB, zg0, zg1, zg2, zg3, zg4, zg5, zg6, fun _ => rfl, zg8, zg9, zg10, zh1, zk1⟩
      · rintro ls ac w' hr ⟨v7, v14, v15, v16, v17, v18, v19, v20, v21, v22, v23, v24, rfl, hl, hB, zg0, zg1, zg2, zg3, zg4, zg5, zg6, zg7, zg8, zg9, zg10, zh1, zk1⟩
        have zd7 : ls.getD 7 false = true := (ready_dep hr rfl).2 ⟨7, .data⟩ (by simp) rfl
        obtain rfl := zg7 zd7
        have a0 := (hB.cell (ltc cB0_0)).trans cB0_0
        have a1 := (hB.cell (ltc cB0_1)).trans cB0_1
        have a2 := (hB.cell (ltc cB0_2)).trans cB0_2
        have a3 := (hB.cell (ltc cB1_0)).trans cB1_0
        have a4 := (hB.cell (ltc cB1_1)).trans cB1_1
        have a5 := (hB.cell (ltc cB1_2)).trans cB1_2
        have a6 := (hB.cell (ltc cB1_3)).trans cB1_3
        have a7 := (hB.cell (ltc cB2_0)).trans cB2_0
        have a8 := (hB.cell (ltc cB2_1)).trans cB2_1
        have a9 := (hB.cell (ltc cB3_0)).trans cB3_0
        have a10 := (hB.cell (ltc cB3_1)).trans cB3_1
        have a11 := (hB.cell (ltc cB3_2)).trans cB3_2
        refine wpOp_step rfl (fun K hK => ?_)
        clear hr
        go_simp
        refine hK _ _ ?_
        simp only [getD_own (l := ls) (i := 8) (by omega), getD_set ls (i := 8) (j := 0) (by decide), getD_set ls (i := 8) (j := 1) (by decide), getD_set ls (i := 8) (j := 2) (by decide), getD_set ls (i := 8) (j := 3) (by decide), getD_set ls (i := 8) (j := 4) (by decide), getD_set ls (i := 8) (j := 5) (by decide), getD_set ls (i := 8) (j := 6) (by decide), getD_set ls (i := 8) (j := 7) (by decide), getD_set ls (i := 8) (j := 9) (by decide), getD_set ls (i := 8) (j := 10) (by decide), getD_set ls (i := 8) (j := 11) (by decide), getD_set ls (i := 8) (j := 12) (by decide)]
        exact ⟨v7, v14, v15, v16, v17, v18, v19, v20, _, _, v23, v24, rfl, by simp [hl], hB, zg0, zg1, zg2, zg3, zg4, zg5, zg6, fun _ => rfl, fun _ => rfl, zg9, zg10, zh1, zk1⟩
      · rintro ls ac w' hr ⟨v7, v14, v15, v16, v17, v18, v19, v20, v21, v22, v23, v24, rfl, hl, hB, zg0, zg1, zg2, zg3, zg4, zg5, zg6, zg7, zg8, zg9, zg10, zh1, zk1⟩
        have zd8 : ls.getD 8 false = true := (ready_dep hr rfl).2 ⟨8, .data⟩ (by simp) rfl
        obtain rfl := zg8 zd8
        refine wpOp_step rfl (fun K hK => ?_)
        clear hr
        go_simp
        refine (correction_is _ hc0 _ _ _ He _).mono ?_
        rintro e w1 ⟨rfl, hk⟩
        dsimp only
        refine hK _ _ ?_
        simp only [getD_own (l := ls) (i := 9) (by omega), getD_set ls (i := 9) (j := 0) (by decide), getD_set ls (i := 9) (j := 1) (by decide), getD_set ls (i := 9) (j := 2) (by decide), getD_set ls (i := 9) (j := 3) (by decide), getD_set ls (i := 9) (j := 4) (by decide), getD_set ls (i := 9) (j := 5) (by decide), getD_set ls (i := 9) (j := 6) (by decide), getD_set ls (i := 9) (j := 7) (by decide), getD_set ls (i := 9) (j := 8) (by decide), getD_set ls (i := 9) (j := 10) (by decide), getD_set ls (i := 9) (j := 11) (by decide), getD_set ls (i := 9) (j := 12) (by decide)]
        exact ⟨v7, v14, v15, v16, v17, v18, v19, v20, v21, _, _, v24, rfl, by simp [hl], bstep hB hk, zg0, zg1, zg2, zg3, zg4, zg5, zg6, zg7, fun _ => rfl, fun _ => rfl, zg10, fun h => (by obtain ⟨b, e1, e2, e4, e5⟩ := zh1 h; exact ⟨b, e1, e2, fun h => (e4 h).keep hk, fun h => (e5 h).keep hk⟩), zk1⟩
      · rintro ls ac w' hr ⟨v7, v14, v15, v16, v17, v18, v19, v20, v21, v22, v23, v24, rfl, hl, hB, zg0, zg1, zg2, zg3, zg4, zg5, zg6, zg7, zg8, zg9, zg10, zh1, zk1⟩
        have zd6 : ls.getD 6 false = true := (ready_dep hr rfl).2 ⟨6, .data⟩ (by simp) rfl
        have zd9 : ls.getD 9 false = true := (ready_dep hr rfl).2 ⟨9, .data⟩ (by simp) rfl
        obtain rfl := zg6 zd6
        obtain rfl := zg9 zd9
        refine wpOp_step rfl (fun K hK => ?_)
        clear hr
        go_simp
        refine (SpSub_is _ _ _ _ _ _ _ _ _ Hf _).mono ?_
        rintro e w1 ⟨rfl, hk⟩
        dsimp only
        refine hK _ _ ?_
        simp only [getD_own (l := ls) (i := 10) (by omega), getD_set ls (i := 10) (j := 0) (by decide), getD_set ls (i := 10) (j := 1) (by decide), getD_set ls (i := 10) (j := 2) (by decide), getD_set ls (i := 10) (j := 3) (by decide), getD_set ls (i := 10) (j := 4) (by decide), getD_set ls (i := 10) (j := 5) (by decide), getD_set ls (i := 10) (j := 6) (by decide), getD_set ls (i := 10) (j := 7) (by decide), getD_set ls (i := 10) (j := 8) (by decide), getD_set ls (i := 10) (j := 9) (by decide), getD_set ls (i := 10) (j := 11) (by decide), getD_set ls (i := 10) (j := 12) (by decide)]
        exact ⟨v7, v14, v15, v16, v17, v18, v19, _, v21, v22, _, _, rfl, by simp [hl], bstep hB hk, zg0, zg1, zg2, zg3, zg4, zg5, fun _ => rfl, zg7, zg8, fun _ => rfl, fun _ => rfl, fun h => (by obtain ⟨b, e1, e2, e4, e5⟩ := zh1 h; exact ⟨b, e1, e2, fun h => (e4 h).keep hk, fun h => (e5 h).keep hk⟩), zk1⟩
      · rintro ls ac w' hr ⟨v7, v14, v15, v16, v17, v18, v19, v20, v21, v22, v23, v24, rfl, hl, hB, zg0, zg1, zg2, zg3, zg4, zg5, zg6, zg7, zg8, zg9, zg10, zh1, zk1⟩
        have hz := hB.size
        have hn := (ready_dep hr rfl).1
        have hna : ls.getD 11 false = false := by cases hc : ls.getD 11 false with | false => rfl | true => (exfalso; have hs4 := getD_both hc; rw [hs4] at hn; cases hn)
        have hus : ls.getD 12 false = false := by cases hc : ls.getD 12 false with | false => rfl | true => (rw [zk1 hc] at hna; cases hna)
        refine wpOp_step rfl (fun K hK => ?_)
        clear hr
        go_simp
        refine hK _ _ ?_
        simp only [getD_own (l := ls) (i := 11) (by omega), getD_set ls (i := 11) (j := 0) (by decide), getD_set ls (i := 11) (j := 1) (by decide), getD_set ls (i := 11) (j := 2) (by decide), getD_set ls (i := 11) (j := 3) (by decide), getD_set ls (i := 11) (j := 4) (by decide), getD_set ls (i := 11) (j := 5) (by decide), getD_set ls (i := 11) (j := 6) (by decide), getD_set ls (i := 11) (j := 7) (by decide), getD_set ls (i := 11) (j := 8) (by decide), getD_set ls (i := 11) (j := 9) (by decide), getD_set ls (i := 11) (j := 10) (by decide), getD_set ls (i := 11) (j := 12) (by decide)]
        exact ⟨_, v14, v15, v16, v17, v18, v19, v20, v21, v22, v23, v24, rfl, by simp [hl], balloc hB _, zg0, zg1, zg2, zg3, zg4, zg5, zg6, zg7, zg8, zg9, zg10, fun _ => ⟨_, rfl, hz, fun _ => SpanAt.new rfl, fun h => (by rw [hus] at h; cases h)⟩, fun _ => (by first | rfl | trivial)⟩
      · rintro ls ac w' hr ⟨v7, v14, v15, v16, v17, v18, v19, v20, v21, v22, v23, v24, rfl, hl, hB, zg0, zg1, zg2, zg3, zg4, zg5, zg6, zg7, zg8, zg9, zg10, zh1, zk1⟩
        have zd11 : ls.getD 11 false = true := (ready_dep hr rfl).2 ⟨11, .data⟩ (by simp) rfl
        have zd10 : ls.getD 10 false = true := (ready_dep hr rfl).2 ⟨10, .data⟩ (by simp) rfl
        obtain rfl := zg10 zd10
        have hn := (ready_dep hr rfl).1
        have hns : ls.getD 12 false = false := by cases hc : ls.getD 12 false with | false => rfl | true => (exfalso; have hs4 := getD_both hc; rw [hs4] at hn; cases hn)
        obtain ⟨b, rfl, hub, e4, _⟩ := zh1 zd11
        have hS := e4 hns
        have hT := span_sets (x := f1) (y := f2) (z := f3) hS
        have zs0 := (hS).1.1
        have zs1 := (hS).2.1.1
        have zs2 := (hS).2.2.1
        have zs3 := (hS).1.2
        have zs4 := (hS).2.1.2
        have zs5 := (hS).2.2.2
        refine wpOp_step rfl (fun K hK => ?_)
        clear hr
        clear hS e4
        go_simp
        refine hK _ _ ?_
        simp only [getD_own (l := ls) (i := 12) (by omega), getD_set ls (i := 12) (j := 0) (by decide), getD_set ls (i := 12) (j := 1) (by decide), getD_set ls (i := 12) (j := 2) (by decide), getD_set ls (i := 12) (j := 3) (by decide), getD_set ls (i := 12) (j := 4) (by decide), getD_set ls (i := 12) (j := 5) (by decide), getD_set ls (i := 12) (j := 6) (by decide), getD_set ls (i := 12) (j := 7) (by decide), getD_set ls (i := 12) (j := 8) (by decide), getD_set ls (i := 12) (j := 9) (by decide), getD_set ls (i := 12) (j := 10) (by decide), getD_set ls (i := 12) (j := 11) (by decide)]
        exact ⟨_, v14, v15, v16, v17, v18, v19, v20, v21, v22, v23, _, rfl, by simp [hl], hB.trans (hT.2.2 _ hub), zg0, zg1, zg2, zg3, zg4, zg5, zg6, zg7, zg8, zg9, fun _ => rfl, fun _ => ⟨b, rfl, hub, fun h => (by cases h), fun _ => hT.1⟩, fun _ => zd11⟩
    · rintro ls ac w' ⟨v7, v14, v15, v16, v17, v18, v19, v20, v21, v22, v23, v24, rfl, hl, hB, zg0, zg1, zg2, zg3, zg4, zg5, zg6, zg7, zg8, zg9, zg10, zh1, zk1⟩ hr
      have hall := ready_allb (by decide) hl hr
      obtain ⟨b1, rfl, hub1, _, f1⟩ := zh1 (hall 11 (by decide))
      have F1 := f1 (hall 12 (by decide))
      go_wp2_with fail
      go_meet
      exact ⟨b1, rfl, Lib.hid (Below.trans hb (hB.mono (Below.size hb))), Lib.hid ⟨CellF.keep hB qB0_0, CellF.keep hB qB0_1, CellF.keep hB qB0_2⟩, Lib.hid ⟨CellF.keep hB qB1_0, CellF.keep hB qB1_1, CellF.keep hB qB1_2, CellF.keep hB qB1_3⟩, Lib.hid ⟨CellF.keep hB qB2_0, CellF.keep hB qB2_1⟩, Lib.hid ⟨CellF.keep hB qB3_0, CellF.keep hB qB3_1, CellF.keep hB qB3_2⟩, Lib.hid F1⟩
  case rest =>
    obtain ⟨bf, rfl, HB, HA0, HA1, HA2, HA3, XA0⟩ := hcut
    have hwA := HB.out
    have qHA0_0 := HA0.out.1
    have cHA0_0 := qHA0_0.1
    have qHA0_1 := HA0.out.2.1
    have cHA0_1 := qHA0_1.1
    have qHA0_2 := HA0.out.2.2
    have cHA0_2 := qHA0_2.1
    have zHA0 := ltc cHA0_0
    have qHA1_0 := HA1.out.1
    have cHA1_0 := qHA1_0.1
    have qHA1_1 := HA1.out.2.1
    have cHA1_1 := qHA1_1.1
    have qHA1_2 := HA1.out.2.2.1
    have cHA1_2 := qHA1_2.1
    have qHA1_3 := HA1.out.2.2.2
    have cHA1_3 := qHA1_3.1
    have zHA1 := ltc cHA1_0
    have qHA2_0 := HA2.out.1
    have cHA2_0 := qHA2_0.1
    have qHA2_1 := HA2.out.2
    have cHA2_1 := qHA2_1.1
    have zHA2 := ltc cHA2_0
    have qHA3_0 := HA3.out.1
    have cHA3_0 := qHA3_0.1
    have qHA3_1 := HA3.out.2.1
    have cHA3_1 := qHA3_1.1
    have qHA3_2 := HA3.out.2.2
    have cHA3_2 := qHA3_2.1
    have zHA3 := ltc cHA3_0
    have qXA0_0 := XA0.out.1
    have cXA0_0 := qXA0_0.1
    have qXA0_1 := XA0.out.2.1
    have cXA0_1 := qXA0_1.1
    have qXA0_2 := XA0.out.2.2
    have cXA0_2 := qXA0_2.1
    have zXA0 := ltc cXA0_0
    clear HB HA0 HA1 HA2 HA3 XA0
    go_upto_region 2 with (fail)
    go_cut [8] (fun v8 wd => ∃ bm, v8 = .pointer (some ⟨bm, 0, none⟩) ∧ Hid (Below w.heap.size w wd) ∧ Hid (CellF wd ⟨w.heap.size, 0, none⟩ (.int .i64 mn) ∧ CellF wd ⟨w.heap.size, 1, none⟩ (.int .i64 mx) ∧ CellF wd ⟨w.heap.size, 2, none⟩ (.int .i64 g)) ∧ Hid (CellF wd ⟨(w.heap.size + 1), 0, none⟩ (.int .i64 x0) ∧ CellF wd ⟨(w.heap.size + 1), 1, none⟩ (.int .i64 x1) ∧ CellF wd ⟨(w.heap.size + 1), 2, none⟩ (.int .i64 x2) ∧ CellF wd ⟨(w.heap.size + 1), 3, none⟩ (.int .i64 x3)) ∧ Hid (CellF wd ⟨(w.heap.size + 2), 0, none⟩ (.int .i64 c0) ∧ CellF wd ⟨(w.heap.size + 2), 1, none⟩ (.int .i64 c1)) ∧ Hid (CellF wd ⟨(w.heap.size + 3), 0, none⟩ (.int .i64 0) ∧ CellF wd ⟨(w.heap.size + 3), 1, none⟩ (.int .i64 0) ∧ CellF wd ⟨(w.heap.size + 3), 2, none⟩ (.bool false)) ∧ Hid (CellF wd ⟨bf, 0, none⟩ (.int .i64 f1) ∧ CellF wd ⟨bf, 1, none⟩ (.int .i64 f2) ∧ CellF wd ⟨bf, 2, none⟩ (.bool f3)) ∧ Hid (SpanAt wd bm m1 m2 m3))
    case first =>
      refine wp_region_inv (by kernel_rfl) (fun ls ac w' => ∃ v8 v25 v26 v27 v28 v29 v30 v31 v32 v33 v34 v35, ac = ⟨#[.agg #[.int .i64 mn, .int .i64 mx, .int .i64 g], .agg #[.int .i64 x0, .int .i64 x1, .int .i64 x2, .int .i64 x3], .agg #[.int .i64 c0, .int .i64 c1], .pointer (some ⟨w.heap.size, 0, none⟩), .pointer (some ⟨w.heap.size + 1, 0, none⟩), .pointer (some ⟨w.heap.size + 2, 0, none⟩), .pointer (some ⟨w.heap.size + 3, 0, none⟩), .pointer (some ⟨bf, 0, none⟩), v8, undef, undef, undef, undef, undef, u14, u15, u16, u17, u18, u19, u20, u21, u22, u23, u24, v25, v26, v27, v28, v29, v30, v31, v32, v33, v34, v35, u36, u37, u38, u39, u40, u41, u42, u43, u44, u45, u46, u47, u48, u49, u50, u51, u52, u53, u54, u55, u56, u57, u58, u59, u60], []⟩ ∧ ls.size = 13 ∧ Below wc.heap.size wc w' ∧ (ls.getD 0 false = true → v25 = .pointer (some ⟨w.heap.size + 1, 3, none⟩)) ∧ (ls.getD 1 false = true → v26 = .int .i64 x3) ∧ (ls.getD 2 false = true → v27 = .agg #[.int .i64 i1, .int .i64 i2, .bool i3]) ∧ (ls.getD 3 false = true → v28 = .pointer (some ⟨w.heap.size + 1, 2, none⟩)) ∧ (ls.getD 4 false = true → v29 = .int .i64 x2) ∧ (ls.getD 5 false = true → v30 = .agg #[.int .i64 j1, .int .i64 j2, .bool j3]) ∧ (ls.getD 6 false = true → v31 = .agg #[.int .i64 k1, .int .i64 k2, .bool k3]) ∧ (ls.getD 7 false = true → v32 = .pointer (some ⟨w.heap.size + 2, 1, none⟩)) ∧ (ls.getD 8 false = true → v33 = .int .i64 c1) ∧ (ls.getD 9 false = true → v34 = .agg #[.int .i64 l1, .int .i64 l2, .bool l3]) ∧ (ls.getD 10 false = true → v35 = .agg #[.int .i64 m1, .int .i64 m2, .bool m3]) ∧ (ls.getD 11 false = true → ∃ b, v8 = .pointer (some ⟨b, 0, none⟩) ∧ wc.heap.size ≤ b ∧ (ls.getD 12 false = false → SpanAt w' b 0 0 false) ∧ (ls.getD 12 false = true → SpanAt w' b m1 m2 m3)) ∧ (ls.getD 12 false = true → ls.getD 11 false = true)) ?_ ?_ ?_
      · exact ⟨_, _, _, _, _, _, _, _, _, _, _, _, rfl, rfl, bdrew (brefl _), fun h => (by cases h), fun h => (by cases h), fun h => (by cases h), fun h => (by cases h), fun h => (by cases h), fun h => (by cases h), fun h => (by cases h), fun h => (by cases h), fun h => (by cases h), fun h => (by cases h), fun h => (by cases h), fun h => (by cases h), fun h => (by cases h)⟩
      · intro i hii
        have hin : i < 13 := hii
        have hor : i = 0 ∨ i = 1 ∨ i = 2 ∨ i = 3 ∨ i = 4 ∨ i = 5 ∨ i = 6 ∨ i = 7 ∨ i = 8 ∨ i = 9 ∨ i = 10 ∨ i = 11 ∨ i = 12 := by omega
        rcases hor with rfl | rfl | rfl | rfl | rfl | rfl | rfl | rfl | rfl | rfl | rfl | rfl | rfl
        · rintro ls ac w' hr ⟨v8, v25, v26, v27, v28, v29, v30, v31, v32, v33, v34, v35, rfl, hl, hB, zg0, zg1, zg2, zg3, zg4, zg5, zg6, zg7, zg8, zg9, zg10, zh1, zk1⟩
          refine wpOp_step rfl (fun K hK => ?_)
          clear hr
          go_simp
          refine hK _ _ ?_
          simp only [getD_own (l := ls) (i := 0) (by omega), getD_set ls (i := 0) (j := 1) (by decide), getD_set ls (i := 0) (j := 2) (by decide), getD_set ls (i := 0) (j := 3) (by decide), getD_set ls (i := 0) (j := 4) (by decide), getD_set ls (i := 0) (j := 5) (by decide), getD_set ls (i := 0) (j := 6) (by decide), getD_set ls (i := 0) (j := 7) (by decide), getD_set ls (i := 0) (j := 8) (by decide), getD_set ls (i := 0) (j := 9) (by decide), getD_set ls (i := 0) (j := 10) (by decide), getD_set ls (i := 0) (j := 11) (by decide), getD_set ls (i := 0) (j := 12) (by decide)]
          exact ⟨v8, _, v26, v27, v28, v29, v30, v31, v32, v33, v34, v35, rfl, by simp [hl], hB, fun _ => rfl, zg1, zg2, zg3, zg4, zg5, zg6, zg7, zg8, zg9, zg10, zh1, zk1⟩
        · rintro ls ac w' hr ⟨v8, v25, v26, v27, v28, v29, v30, v31, v32, v33, v34, v35, rfl, hl, hB, zg0, zg1, zg2, zg3, zg4, zg5, zg6, zg7, zg8, zg9, zg10, zh1, zk1⟩
          have zd0 : ls.getD 0 false = true := (ready_dep hr rfl).2 ⟨0, .data⟩ (by simp) rfl
          obtain rfl := zg0 zd0
          have a0 := (hB.cell (ltc cHA0_0)).trans cHA0_0
          have a1 := (hB.cell (ltc cHA0_1)).trans cHA0_1
          have a2 := (hB.cell (ltc cHA0_2)).trans cHA0_2
          have a3 := (hB.cell (ltc cHA1_0)).trans cHA1_0
          have a4 := (hB.cell (ltc cHA1_1)).trans cHA1_1
          have a5 := (hB.cell (ltc cHA1_2)).trans cHA1_2
          have a6 := (hB.cell (ltc cHA1_3)).trans cHA1_3
          have a7 := (hB.cell (ltc cHA2_0)).trans cHA2_0
          have a8 := (hB.cell (ltc cHA2_1)).trans cHA2_1
          have a9 := (hB.cell (ltc cHA3_0)).trans cHA3_0
          have a10 := (hB.cell (ltc cHA3_1)).trans cHA3_1
          have a11 := (hB.cell (ltc cHA3_2)).trans cHA3_2
          have a12 := (hB.cell (ltc cXA0_0)).trans cXA0_0
          have a13 := (hB.cell (ltc cXA0_1)).trans cXA0_1
          have a14 := (hB.cell (ltc cXA0_2)).trans cXA0_2
          refine wpOp_step rfl (fun K hK => ?_)
          clear hr
          go_simp
          refine hK _ _ ?_
          simp only [getD_own (l := ls) (i := 1) (by omega), getD_set ls (i := 1) (j := 0) (by decide), getD_set ls (i := 1) (j := 2) (by decide), getD_set ls (i := 1) (j := 3) (by decide), getD_set ls (i := 1) (j := 4) (by decide), getD_set ls (i := 1) (j := 5) (by decide), getD_set ls (i := 1) (j := 6) (by decide), getD_set ls (i := 1) (j := 7) (by decide), getD_set ls (i := 1) (j := 8) (by decide), getD_set ls (i := 1) (j := 9) (by decide), getD_set ls (i := 1) (j := 10) (by decide), getD_set ls (i := 1) (j := 11) (by decide), getD_set ls (i := 1) (j := 12) (by decide)]
          exact ⟨v8, _, _, v27, v28, v29, v30, v31, v32, v33, v34, v35, rfl, by simp [hl], hB, fun _ => rfl, fun _ => rfl, zg2, zg3, zg4, zg5, zg6, zg7, zg8, zg9, zg10, zh1, zk1⟩
        · rintro ls ac w' hr ⟨v8, v25, v26, v27, v28, v29, v30, v31, v32, v33, v34, v35, rfl, hl, hB, zg0, zg1, zg2, zg3, zg4, zg5, zg6, zg7, zg8, zg9, zg10, zh1, zk1⟩
          have zd1 : ls.getD 1 false = true := (ready_dep hr rfl).2 ⟨1, .data⟩ (by simp) rfl
          obtain rfl := zg1 zd1
          refine wpOp_step rfl (fun K hK => ?_)
          clear hr
          go_simp
          refine (alone_is _ _ _ _ Hi _).mono ?_
          rintro e w1 ⟨rfl, hk⟩
          dsimp only
          refine hK _ _ ?_
          simp only [getD_own (l := ls) (i := 2) (by omega), getD_set ls (i := 2) (j := 0) (by decide), getD_set ls (i := 2) (j := 1) (by decide), getD_set ls (i := 2) (j := 3) (by decide), getD_set ls (i := 2) (j := 4) (by decide), getD_set ls (i := 2) (j := 5) (by decide), getD_set ls (i := 2) (j := 6) (by decide), getD_set ls (i := 2) (j := 7) (by decide), getD_set ls (i := 2) (j := 8) (by decide), getD_set ls (i := 2) (j := 9) (by decide), getD_set ls (i := 2) (j := 10) (by decide), getD_set ls (i := 2) (j := 11) (by decide), getD_set ls (i := 2) (j := 12) (by decide)]
          exact ⟨v8, v25, _, _, v28, v29, v30, v31, v32, v33, v34, v35, rfl, by simp [hl], bstep hB hk, zg0, fun _ => rfl, fun _ => rfl, zg3, zg4, zg5, zg6, zg7, zg8, zg9, zg10, fun h => (by obtain ⟨b, e1, e2, e4, e5⟩ := zh1 h; exact ⟨b, e1, e2, fun h => (e4 h).keep hk, fun h => (e5 h).keep hk⟩), zk1⟩
        · rintro ls ac w' hr ⟨v8, v25, v26, v27, v28, v29, v30, v31, v32, v33, v34, v35, rfl, hl, hB, zg0, zg1, zg2, zg3, zg4, zg5, zg6, zg7, zg8, zg9, zg10, zh1, zk1⟩
          refine wpOp_step rfl (fun K hK => ?_)
          clear hr
          go_simp
          refine hK _ _ ?_
          simp only [getD_own (l := ls) (i := 3) (by omega), getD_set ls (i := 3) (j := 0) (by decide), getD_set ls (i := 3) (j := 1) (by decide), getD_set ls (i := 3) (j := 2) (by decide), getD_set ls (i := 3) (j := 4) (by decide), getD_set ls (i := 3) (j := 5) (by decide), getD_set ls (i := 3) (j := 6) (by decide), getD_set ls (i := 3) (j := 7) (by decide), getD_set ls (i := 3) (j := 8) (by decide), getD_set ls (i := 3) (j := 9) (by decide), getD_set ls (i := 3) (j := 10) (by decide), getD_set ls (i := 3) (j := 11) (by decide), getD_set ls (i := 3) (j := 12) (by decide)]
          exact ⟨v8, v25, v26, v27, _, v29, v30, v31, v32, v33, v34, v35, rfl, by simp [hl], hB, zg0, zg1, zg2, fun _ => rfl, zg4, zg5, zg6, zg7, zg8, zg9, zg10, zh1, zk1⟩
        · rintro ls ac w' hr ⟨v8, v25, v26, v27, v28, v29, v30, v31, v32, v33, v34, v35, rfl, hl, hB, zg0, zg1, zg2, zg3, zg4, zg5, zg6, zg7, zg8, zg9, zg10, zh1, zk1⟩
          have zd3 : ls.getD 3 false = true := (ready_dep hr rfl).2 ⟨3, .data⟩ (by simp) rfl
          obtain rfl := zg3 zd3
          have a0 := (hB.cell (ltc cHA0_0)).trans cHA0_0
          have a1 := (hB.cell (ltc cHA0_1)).trans cHA0_1
          have a2 := (hB.cell (ltc cHA0_2)).trans cHA0_2
          have a3 := (hB.cell (ltc cHA1_0)).trans cHA1_0
          have a4 := (hB.cell (ltc cHA1_1)).trans cHA1_1
          have a5 := (hB.cell (ltc cHA1_2)).trans cHA1_2
          have a6 := (hB.cell (ltc cHA1_3)).trans cHA1_3
          have a7 := (hB.cell (ltc cHA2_0)).trans cHA2_0
          have a8 := (hB.cell (ltc cHA2_1)).trans cHA2_1
          have a9 := (hB.cell (ltc cHA3_0)).trans cHA3_0
          have a10 := (hB.cell (ltc cHA3_1)).trans cHA3_1
          have a11 := (hB.cell (ltc cHA3_2)).trans cHA3_2
          have a12 := (hB.cell (ltc cXA0_0)).trans cXA0_0
          have a13 := (hB.cell (ltc cXA0_1)).trans cXA0_1
          have a14 := (hB.cell (ltc cXA0_2)).trans cXA0_2
          refine wpOp_step rfl (fun K hK => ?_)
          clear hr
          go_simp
          refine hK _ _ ?_
          simp only [getD_own (l := ls) (i := 4) (by omega), getD_set ls (i := 4) (j := 0) (by decide), getD_set ls (i := 4) (j := 1) (by decide), getD_set ls (i := 4) (j := 2) (by decide), getD_set ls (i := 4) (j := 3) (by decide), getD_set ls (i := 4) (j := 5) (by decide), getD_set ls (i := 4) (j := 6) (by decide), getD_set ls (i := 4) (j := 7) (by decide), getD_set ls (i := 4) (j := 8) (by decide), getD_set ls (i := 4) (j := 9) (by decide), getD_set ls (i := 4) (j := 10) (by decide), getD_set ls (i := 4) (j := 11) (by decide), getD_set ls (i := 4) (j := 12) (by decide)]
          exact ⟨v8, v25, v26, v27, _, _, v30, v31, v32, v33, v34, v35, rfl, by simp [hl], hB, zg0, zg1, zg2, fun _ => rfl, fun _ => rfl, zg5, zg6, zg7, zg8, zg9, zg10, zh1, zk1⟩
        · rintro ls ac w' hr ⟨v8, v25, v26, v27, v28, v29, v30, v31, v32, v33, v34, v35, rfl, hl, hB, zg0, zg1, zg2, zg3, zg4, zg5, zg6, zg7, zg8, zg9, zg10, zh1, zk1⟩
          have zd4 : ls.getD 4 false = true := (ready_dep hr rfl).2 ⟨4, .data⟩ (by simp) rfl
          obtain rfl := zg4 zd4
          refine wpOp_step rfl (fun K hK => ?_)
          clear hr
          go_simp
          refine (alone_is _ _ _ _ Hj _).mono ?_
          rintro e w1 ⟨rfl, hk⟩
          dsimp only
          refine hK _ _ ?_
          simp only [getD_own (l := ls) (i := 5) (by omega), getD_set ls (i := 5) (j := 0) (by decide), getD_set ls (i := 5) (j := 1) (by decide), getD_set ls (i := 5) (j := 2) (by decide), getD_set ls (i := 5) (j := 3) (by decide), getD_set ls (i := 5) (j := 4) (by decide), getD_set ls (i := 5) (j := 6) (by decide), getD_set ls (i := 5) (j := 7) (by decide), getD_set ls (i := 5) (j := 8) (by decide), getD_set ls (i := 5) (j := 9) (by decide), getD_set ls (i := 5) (j := 10) (by decide), getD_set ls (i := 5) (j := 11) (by decide), getD_set ls (i := 5) (j := 12) (by decide)]
          exact ⟨v8, v25, v26, v27, v28, _, _, v31, v32, v33, v34, v35, rfl, by simp [hl], bstep hB hk, zg0, zg1, zg2, zg3, fun _ => rfl, fun _ => rfl, zg6, zg7, zg8, zg9, zg10, fun h => (by obtain ⟨b, e1, e2, e4, e5⟩ := zh1 h; exact ⟨b, e1, e2, fun h => (e4 h).keep hk, fun h => (e5 h).keep hk⟩), zk1⟩
        · rintro ls ac w' hr ⟨v8, v25, v26, v27, v28, v29, v30, v31, v32, v33, v34, v35, rfl, hl, hB, zg0, zg1, zg2, zg3, zg4, zg5, zg6, zg7, zg8, zg9, zg10, zh1, zk1⟩
          have zd2 : ls.getD 2 false = true := (ready_dep hr rfl).2 ⟨2, .data⟩ (by simp) rfl
          have zd5 : ls.getD 5 false = true := (ready_dep hr rfl).2 ⟨5, .data⟩ (by simp) rfl
          obtain rfl := zg2 zd2
          obtain rfl := zg5 zd5
          refine wpOp_step rfl (fun K hK => ?_)
          clear hr
          go_simp
          refine (SpSub_is _ _ _ _ _ _ _ _ _ Hk _).mono ?_
          rintro e w1 ⟨rfl, hk⟩
          dsimp only
          refine hK _ _ ?_
          simp only [getD_own (l := ls) (i := 6) (by omega), getD_set ls (i := 6) (j := 0) (by decide), getD_set ls (i := 6) (j := 1) (by decide), getD_set ls (i := 6) (j := 2) (by decide), getD_set ls (i := 6) (j := 3) (by decide), getD_set ls (i := 6) (j := 4) (by decide), getD_set ls (i := 6) (j := 5) (by decide), getD_set ls (i := 6) (j := 7) (by decide), getD_set ls (i := 6) (j := 8) (by decide), getD_set ls (i := 6) (j := 9) (by decide), getD_set ls (i := 6) (j := 10) (by decide), getD_set ls (i := 6) (j := 11) (by decide), getD_set ls (i := 6) (j := 12) (by decide)]
          exact ⟨v8, v25, v26, _, v28, v29, _, _, v32, v33, v34, v35, rfl, by simp [hl], bstep hB hk, zg0, zg1, fun _ => rfl, zg3, zg4, fun _ => rfl, fun _ => rfl, zg7, zg8, zg9, zg10, fun h => (by obtain ⟨b, e1, e2, e4, e5⟩ := zh1 h; exact ⟨b, e1, e2, fun h => (e4 h).keep hk, fun h => (e5 h).keep hk⟩), zk1⟩
        · rintro ls ac w' hr ⟨v8, v25, v26, v27, v28, v29, v30, v31, v32, v33, v34, v35, rfl, hl, hB, zg0, zg1, zg2, zg3, zg4, zg5, zg6, zg7, zg8, zg9, zg10, zh1, zk1⟩
          refine wpOp_step rfl (fun K hK => ?_)
          clear hr
          go_simp
          refine hK _ _ ?_
          simp only [getD_own (l := ls) (i := 7) (by omega), getD_set ls (i := 7) (j := 0) (by decide), getD_set ls (i := 7) (j := 1) (by decide), getD_set ls (i := 7) (j := 2) (by decide), getD_set ls (i := 7) (j := 3) (by decide), getD_set ls (i := 7) (j := 4) (by decide), getD_set ls (i := 7) (j := 5) (by decide), getD_set ls (i := 7) (j := 6) (by decide), getD_set ls (i := 7) (j := 8) (by decide), getD_set ls (i := 7) (j := 9) (by decide), getD_set ls (i := 7) (j := 10) (by decide), getD_set ls (i := 7) (j := 11) (by decide), getD_set ls (i := 7) (j := 12) (by decide)]
          exact ⟨v8, v25, v26, v27, v28, v29, v30, v31, _, v33, v34, v35, rfl, by simp [hl], hB, zg0, zg1, zg2, zg3, zg4, zg5, zg6, fun _ => rfl, zg8, zg9, zg10, zh1, zk1⟩
        · rintro ls ac w' hr ⟨v8, v25, v26, v27, v28, v29, v30, v31, v32, v33, v34, v35, rfl, hl, hB, zg0, zg1, zg2, zg3, zg4, zg5, zg6, zg7, zg8, zg9, zg10, zh1, zk1⟩
          have zd7 : ls.getD 7 false = true := (ready_dep hr rfl).2 ⟨7, .data⟩ (by simp) rfl
          obtain rfl := zg7 zd7
          have a0 := (hB.cell (ltc cHA0_0)).trans cHA0_0
          have a1 := (hB.cell (ltc cHA0_1)).trans cHA0_1
          have a2 := (hB.cell (ltc cHA0_2)).trans cHA0_2
          have a3 := (hB.cell (ltc cHA1_0)).trans cHA1_0
          have a4 := (hB.cell (ltc cHA1_1)).trans cHA1_1
          have a5 := (hB.cell (ltc cHA1_2)).trans cHA1_2
          have a6 := (hB.cell (ltc cHA1_3)).trans cHA1_3
          have a7 := (hB.cell (ltc cHA2_0)).trans cHA2_0
          have a8 := (hB.cell (ltc cHA2_1)).trans cHA2_1
          have a9 := (hB.cell (ltc cHA3_0)).trans cHA3_0
          have a10 := (hB.cell (ltc cHA3_1)).trans cHA3_1
          have a11 := (hB.cell (ltc cHA3_2)).trans cHA3_2
          have a12 := (hB.cell (ltc cXA0_0)).trans cXA0_0
          have a13 := (hB.cell (ltc cXA0_1)).trans cXA0_1
          have a14 := (hB.cell (ltc cXA0_2)).trans cXA0_2
          refine wpOp_step rfl (fun K hK => ?_)
          clear hr
          go_simp
          refine hK _ _ ?_
          simp only [getD_own (l := ls) (i := 8) (by omega), getD_set ls (i := 8) (j := 0) (by decide), getD_set ls (i := 8) (j := 1) (by decide), getD_set ls (i := 8) (j := 2) (by decide), getD_set ls (i := 8) (j := 3) (by decide), getD_set ls (i := 8) (j := 4) (by decide), getD_set ls (i := 8) (j := 5) (by decide), getD_set ls (i := 8) (j := 6) (by decide), getD_set ls (i := 8) (j := 7) (by decide), getD_set ls (i := 8) (j := 9) (by decide), getD_set ls (i := 8) (j := 10) (by decide), getD_set ls (i := 8) (j := 11) (by decide), getD_set ls (i := 8) (j := 12) (by decide)]
          exact ⟨v8, v25, v26, v27, v28, v29, v30, v31, _, _, v34, v35, rfl, by simp [hl], hB, zg0, zg1, zg2, zg3, zg4, zg5, zg6, fun _ => rfl, fun _ => rfl, zg9, zg10, zh1, zk1⟩
        · rintro ls ac w' hr ⟨v8, v25, v26, v27, v28, v29, v30, v31, v32, v33, v34, v35, rfl, hl, hB, zg0, zg1, zg2, zg3, zg4, zg5, zg6, zg7, zg8, zg9, zg10, zh1, zk1⟩
          have zd8 : ls.getD 8 false = true := (ready_dep hr rfl).2 ⟨8, .data⟩ (by simp) rfl
          obtain rfl := zg8 zd8
          refine wpOp_step rfl (fun K hK => ?_)
          clear hr
          go_simp
          refine (correction_is _ hc1 _ _ _ Hl _).mono ?_
          rintro e w1 ⟨rfl, hk⟩
          dsimp only
          refine hK _ _ ?_
          simp only [getD_own (l := ls) (i := 9) (by omega), getD_set ls (i := 9) (j := 0) (by decide), getD_set ls (i := 9) (j := 1) (by decide), getD_set ls (i := 9) (j := 2) (by decide), getD_set ls (i := 9) (j := 3) (by decide), getD_set ls (i := 9) (j := 4) (by decide), getD_set ls (i := 9) (j := 5) (by decide), getD_set ls (i := 9) (j := 6) (by decide), getD_set ls (i := 9) (j := 7) (by decide), getD_set ls (i := 9) (j := 8) (by decide), getD_set ls (i := 9) (j := 10) (by decide), getD_set ls (i := 9) (j := 11) (by decide), getD_set ls (i := 9) (j := 12) (by decide)]
          exact ⟨v8, v25, v26, v27, v28, v29, v30, v31, v32, _, _, v35, rfl, by simp [hl], bstep hB hk, zg0, zg1, zg2, zg3, zg4, zg5, zg6, zg7, fun _ => rfl, fun _ => rfl, zg10, fun h => (by obtain ⟨b, e1, e2, e4, e5⟩ := zh1 h; exact ⟨b, e1, e2, fun h => (e4 h).keep hk, fun h => (e5 h).keep hk⟩), zk1⟩
        · rintro ls ac w' hr ⟨v8, v25, v26, v27, v28, v29, v30, v31, v32, v33, v34, v35, rfl, hl, hB, zg0, zg1, zg2, zg3, zg4, zg5, zg6, zg7, zg8, zg9, zg10, zh1, zk1⟩
          have zd6 : ls.getD 6 false = true := (ready_dep hr rfl).2 ⟨6, .data⟩ (by simp) rfl
          have zd9 : ls.getD 9 false = true := (ready_dep hr rfl).2 ⟨9, .data⟩ (by simp) rfl
          obtain rfl := zg6 zd6
          obtain rfl := zg9 zd9
          refine wpOp_step rfl (fun K hK => ?_)
          clear hr
          go_simp
          refine (SpSub_is _ _ _ _ _ _ _ _ _ Hm _).mono ?_
          rintro e w1 ⟨rfl, hk⟩
          dsimp only
          refine hK _ _ ?_
          simp only [getD_own (l := ls) (i := 10) (by omega), getD_set ls (i := 10) (j := 0) (by decide), getD_set ls (i := 10) (j := 1) (by decide), getD_set ls (i := 10) (j := 2) (by decide), getD_set ls (i := 10) (j := 3) (by decide), getD_set ls (i := 10) (j := 4) (by decide), getD_set ls (i := 10) (j := 5) (by decide), getD_set ls (i := 10) (j := 6) (by decide), getD_set ls (i := 10) (j := 7) (by decide), getD_set ls (i := 10) (j := 8) (by decide), getD_set ls (i := 10) (j := 9) (by decide), getD_set ls (i := 10) (j := 11) (by decide), getD_set ls (i := 10) (j := 12) (by decide)]
          exact ⟨v8, v25, v26, v27, v28, v29, v30, _, v32, v33, _, _, rfl, by simp [hl], bstep hB hk, zg0, zg1, zg2, zg3, zg4, zg5, fun _ => rfl, zg7, zg8, fun _ => rfl, fun _ => rfl, fun h => (by obtain ⟨b, e1, e2, e4, e5⟩ := zh1 h; exact ⟨b, e1, e2, fun h => (e4 h).keep hk, fun h => (e5 h).keep hk⟩), zk1⟩
        · rintro ls ac w' hr ⟨v8, v25, v26, v27, v28, v29, v30, v31, v32, v33, v34, v35, rfl, hl, hB, zg0, zg1, zg2, zg3, zg4, zg5, zg6, zg7, zg8, zg9, zg10, zh1, zk1⟩
          have hz := hB.size
          have hn := (ready_dep hr rfl).1
          have hna : ls.getD 11 false = false := by cases hc : ls.getD 11 false with | false => rfl | true => (exfalso; have hs4 := getD_both hc; rw [hs4] at hn; cases hn)
          have hus : ls.getD 12 false = false := by cases hc : ls.getD 12 false with | false => rfl | true => (rw [zk1 hc] at hna; cases hna)
          refine wpOp_step rfl (fun K hK => ?_)
          clear hr
          go_simp
          refine hK _ _ ?_
          simp only [getD_own (l := ls) (i := 11) (by omega), getD_set ls (i := 11) (j := 0) (by decide), getD_set ls (i := 11) (j := 1) (by decide), getD_set ls (i := 11) (j := 2) (by decide), getD_set ls (i := 11) (j := 3) (by decide), getD_set ls (i := 11) (j := 4) (by decide), getD_set ls (i := 11) (j := 5) (by decide), getD_set ls (i := 11) (j := 6) (by decide), getD_set ls (i := 11) (j := 7) (by decide), getD_set ls (i := 11) (j := 8) (by decide), getD_set ls (i := 11) (j := 9) (by decide), getD_set ls (i := 11) (j := 10) (by decide), getD_set ls (i := 11) (j := 12) (by decide)]
          exact ⟨_, v25, v26, v27, v28, v29, v30, v31, v32, v33, v34, v35, rfl, by simp [hl], balloc hB _, zg0, zg1, zg2, zg3, zg4, zg5, zg6, zg7, zg8, zg9, zg10, fun _ => ⟨_, rfl, hz, fun _ => SpanAt.new rfl, fun h => (by rw [hus] at h; cases h)⟩, fun _ => (by first | rfl | trivial)⟩
        · rintro ls ac w' hr ⟨v8, v25, v26, v27, v28, v29, v30, v31, v32, v33, v34, v35, rfl, hl, hB, zg0, zg1, zg2, zg3, zg4, zg5, zg6, zg7, zg8, zg9, zg10, zh1, zk1⟩
          have zd11 : ls.getD 11 false = true := (ready_dep hr rfl).2 ⟨11, .data⟩ (by simp) rfl
          have zd10 : ls.getD 10 false = true := (ready_dep hr rfl).2 ⟨10, .data⟩ (by simp) rfl
          obtain rfl := zg10 zd10
          have hn := (ready_dep hr rfl).1
          have hns : ls.getD 12 false = false := by cases hc : ls.getD 12 false with | false => rfl | true => (exfalso; have hs4 := getD_both hc; rw [hs4] at hn; cases hn)
          obtain ⟨b, rfl, hub, e4, _⟩ := zh1 zd11
          have hS := e4 hns
          have hT := span_sets (x := m1) (y := m2) (z := m3) hS
          have zs0 := (hS).1.1
          have zs1 := (hS).2.1.1
          have zs2 := (hS).2.2.1
          have zs3 := (hS).1.2
          have zs4 := (hS).2.1.2
          have zs5 := (hS).2.2.2
          refine wpOp_step rfl (fun K hK => ?_)
          clear hr
          clear hS e4
          go_simp
          refine hK _ _ ?_
          simp only [getD_own (l := ls) (i := 12) (by omega), getD_set ls (i := 12) (j := 0) (by decide), getD_set ls (i := 12) (j := 1) (by decide), getD_set ls (i := 12) (j := 2) (by decide), getD_set ls (i := 12) (j := 3) (by decide), getD_set ls (i := 12) (j := 4) (by decide), getD_set ls (i := 12) (j := 5) (by decide), getD_set ls (i := 12) (j := 6) (by decide), getD_set ls (i := 12) (j := 7) (by decide), getD_set ls (i := 12) (j := 8) (by decide), getD_set ls (i := 12) (j := 9) (by decide), getD_set ls (i := 12) (j := 10) (by decide), getD_set ls (i := 12) (j := 11) (by decide)]
          exact ⟨_, v25, v26, v27, v28, v29, v30, v31, v32, v33, v34, _, rfl, by simp [hl], hB.trans (hT.2.2 _ hub), zg0, zg1, zg2, zg3, zg4, zg5, zg6, zg7, zg8, zg9, fun _ => rfl, fun _ => ⟨b, rfl, hub, fun h => (by cases h), fun _ => hT.1⟩, fun _ => zd11⟩
      · rintro ls ac w' ⟨v8, v25, v26, v27, v28, v29, v30, v31, v32, v33, v34, v35, rfl, hl, hB, zg0, zg1, zg2, zg3, zg4, zg5, zg6, zg7, zg8, zg9, zg10, zh1, zk1⟩ hr
        have hall := ready_allb (by decide) hl hr
        obtain ⟨b1, rfl, hub1, _, f1⟩ := zh1 (hall 11 (by decide))
        have F1 := f1 (hall 12 (by decide))
        go_wp2_with fail
        go_meet
        exact ⟨b1, rfl, Lib.hid (Below.trans hwA (hB.mono (Below.size hwA))), Lib.hid ⟨CellF.keep hB qHA0_0, CellF.keep hB qHA0_1, CellF.keep hB qHA0_2⟩, Lib.hid ⟨CellF.keep hB qHA1_0, CellF.keep hB qHA1_1, CellF.keep hB qHA1_2, CellF.keep hB qHA1_3⟩, Lib.hid ⟨CellF.keep hB qHA2_0, CellF.keep hB qHA2_1⟩, Lib.hid ⟨CellF.keep hB qHA3_0, CellF.keep hB qHA3_1, CellF.keep hB qHA3_2⟩, Lib.hid ⟨CellF.keep hB qXA0_0, CellF.keep hB qXA0_1, CellF.keep hB qXA0_2⟩, Lib.hid F1⟩
    case rest =>
      obtain ⟨bm, rfl, HB, HC0, HC1, HC2, HC3, HC4, XC0⟩ := hcut
      have hwC := HB.out
      have qHC0_0 := HC0.out.1
      have cHC0_0 := qHC0_0.1
      have qHC0_1 := HC0.out.2.1
      have cHC0_1 := qHC0_1.1
      have qHC0_2 := HC0.out.2.2
      have cHC0_2 := qHC0_2.1
      have zHC0 := ltc cHC0_0
      have qHC1_0 := HC1.out.1
      have cHC1_0 := qHC1_0.1
      have qHC1_1 := HC1.out.2.1
      have cHC1_1 := qHC1_1.1
      have qHC1_2 := HC1.out.2.2.1
      have cHC1_2 := qHC1_2.1
      have qHC1_3 := HC1.out.2.2.2
      have cHC1_3 := qHC1_3.1
      have zHC1 := ltc cHC1_0
      have qHC2_0 := HC2.out.1
      have cHC2_0 := qHC2_0.1
      have qHC2_1 := HC2.out.2
      have cHC2_1 := qHC2_1.1
      have zHC2 := ltc cHC2_0
      have qHC3_0 := HC3.out.1
      have cHC3_0 := qHC3_0.1
      have qHC3_1 := HC3.out.2.1
      have cHC3_1 := qHC3_1.1
      have qHC3_2 := HC3.out.2.2
      have cHC3_2 := qHC3_2.1
      have zHC3 := ltc cHC3_0
      have qHC4_0 := HC4.out.1
      have cHC4_0 := qHC4_0.1
      have qHC4_1 := HC4.out.2.1
      have cHC4_1 := qHC4_1.1
      have qHC4_2 := HC4.out.2.2
      have cHC4_2 := qHC4_2.1
      have zHC4 := ltc cHC4_0
      have qXC0_0 := XC0.out.1
      have cXC0_0 := qXC0_0.1
      have qXC0_1 := XC0.out.2.1
      have cXC0_1 := qXC0_1.1
      have qXC0_2 := XC0.out.2.2
      have cXC0_2 := qXC0_2.1
      have zXC0 := ltc cXC0_0
      clear HB HC0 HC1 HC2 HC3 HC4 XC0
      go_upto_region 3 with (fail)
      go_cut [9] (fun v9 wd => ∃ bs, v9 = .pointer (some ⟨bs, 0, none⟩) ∧ Hid (Below w.heap.size w wd) ∧ Hid (CellF wd ⟨w.heap.size, 0, none⟩ (.int .i64 mn) ∧ CellF wd ⟨w.heap.size, 1, none⟩ (.int .i64 mx) ∧ CellF wd ⟨w.heap.size, 2, none⟩ (.int .i64 g)) ∧ Hid (CellF wd ⟨(w.heap.size + 1), 0, none⟩ (.int .i64 x0) ∧ CellF wd ⟨(w.heap.size + 1), 1, none⟩ (.int .i64 x1) ∧ CellF wd ⟨(w.heap.size + 1), 2, none⟩ (.int .i64 x2) ∧ CellF wd ⟨(w.heap.size + 1), 3, none⟩ (.int .i64 x3)) ∧ Hid (CellF wd ⟨(w.heap.size + 2), 0, none⟩ (.int .i64 c0) ∧ CellF wd ⟨(w.heap.size + 2), 1, none⟩ (.int .i64 c1)) ∧ Hid (CellF wd ⟨(w.heap.size + 3), 0, none⟩ (.int .i64 0) ∧ CellF wd ⟨(w.heap.size + 3), 1, none⟩ (.int .i64 0) ∧ CellF wd ⟨(w.heap.size + 3), 2, none⟩ (.bool false)) ∧ Hid (CellF wd ⟨bf, 0, none⟩ (.int .i64 f1) ∧ CellF wd ⟨bf, 1, none⟩ (.int .i64 f2) ∧ CellF wd ⟨bf, 2, none⟩ (.bool f3)) ∧ Hid (CellF wd ⟨bm, 0, none⟩ (.int .i64 m1) ∧ CellF wd ⟨bm, 1, none⟩ (.int .i64 m2) ∧ CellF wd ⟨bm, 2, none⟩ (.bool m3)) ∧ Hid (SpanAt wd bs s1 s2 s3))
      case first =>
        refine wp_region_inv (by kernel_rfl) (fun ls ac w' => ∃ v9 v36 v37 v38 v39 v40 v41, ac = ⟨#[.agg #[.int .i64 mn, .int .i64 mx, .int .i64 g], .agg #[.int .i64 x0, .int .i64 x1, .int .i64 x2, .int .i64 x3], .agg #[.int .i64 c0, .int .i64 c1], .pointer (some ⟨w.heap.size, 0, none⟩), .pointer (some ⟨w.heap.size + 1, 0, none⟩), .pointer (some ⟨w.heap.size + 2, 0, none⟩), .pointer (some ⟨w.heap.size + 3, 0, none⟩), .pointer (some ⟨bf, 0, none⟩), .pointer (some ⟨bm, 0, none⟩), v9, undef, undef, undef, undef, u14, u15, u16, u17, u18, u19, u20, u21, u22, u23, u24, u25, u26, u27, u28, u29, u30, u31, u32, u33, u34, u35, v36, v37, v38, v39, v40, v41, u42, u43, u44, u45, u46, u47, u48, u49, u50, u51, u52, u53, u54, u55, u56, u57, u58, u59, u60], []⟩ ∧ ls.size = 8 ∧ Below wc.heap.size wc w' ∧ (ls.getD 0 false = true → v36 = .agg #[.int .i64 mn, .int .i64 mx, .int .i64 g]) ∧ (ls.getD 1 false = true → ls.getD 7 false = false → IsWider w' v37 mn mx g 4) ∧ (ls.getD 2 false = true → v38 = .agg #[.int .i64 f1, .int .i64 f2, .bool f3]) ∧ (ls.getD 3 false = true → v39 = .agg #[.int .i64 m1, .int .i64 m2, .bool m3]) ∧ (ls.getD 4 false = true → v40 = .agg #[.int .i64 n1, .int .i64 n2, .bool n3]) ∧ (ls.getD 5 false = true → v41 = .agg #[.int .i64 s1, .int .i64 s2, .bool s3]) ∧ (ls.getD 6 false = true → ∃ b, v9 = .pointer (some ⟨b, 0, none⟩) ∧ wc.heap.size ≤ b ∧ (ls.getD 7 false = false → SpanAt w' b 0 0 false) ∧ (ls.getD 7 false = true → SpanAt w' b s1 s2 s3)) ∧ (ls.getD 7 false = true → ls.getD 6 false = true) ∧ (ls.getD 7 false = true → ls.getD 5 false = true)) ?_ ?_ ?_
        · exact ⟨_, _, _, _, _, _, _, rfl, rfl, bdrew (brefl _), fun h => (by cases h), fun h => (by cases h), fun h => (by cases h), fun h => (by cases h), fun h => (by cases h), fun h => (by cases h), fun h => (by cases h), fun h => (by cases h), fun h => (by cases h)⟩
        · intro i hii
          have hin : i < 8 := hii
          have hor : i = 0 ∨ i = 1 ∨ i = 2 ∨ i = 3 ∨ i = 4 ∨ i = 5 ∨ i = 6 ∨ i = 7 := by omega
          rcases hor with rfl | rfl | rfl | rfl | rfl | rfl | rfl | rfl
          · rintro ls ac w' hr ⟨v9, v36, v37, v38, v39, v40, v41, rfl, hl, hB, zg0, zg1, zg2, zg3, zg4, zg5, zh1, zk1, zq7⟩
            have a0 := (hB.cell (ltc cHC0_0)).trans cHC0_0
            have a1 := (hB.cell (ltc cHC0_1)).trans cHC0_1
            have a2 := (hB.cell (ltc cHC0_2)).trans cHC0_2
            have a3 := (hB.cell (ltc cHC1_0)).trans cHC1_0
            have a4 := (hB.cell (ltc cHC1_1)).trans cHC1_1
            have a5 := (hB.cell (ltc cHC1_2)).trans cHC1_2
            have a6 := (hB.cell (ltc cHC1_3)).trans cHC1_3
            have a7 := (hB.cell (ltc cHC2_0)).trans cHC2_0
            have a8 := (hB.cell (ltc cHC2_1)).trans cHC2_1
            have a9 := (hB.cell (ltc cHC3_0)).trans cHC3_0
            have a10 := (hB.cell (ltc cHC3_1)).trans cHC3_1
            have a11 := (hB.cell (ltc cHC3_2)).trans cHC3_2
            have a12 := (hB.cell (ltc cHC4_0)).trans cHC4_0
            have a13 := (hB.cell (ltc cHC4_1)).trans cHC4_1
            have a14 := (hB.cell (ltc cHC4_2)).trans cHC4_2
            have a15 := (hB.cell (ltc cXC0_0)).trans cXC0_0
            have a16 := (hB.cell (ltc cXC0_1)).trans cXC0_1
            have a17 := (hB.cell (ltc cXC0_2)).trans cXC0_2
            refine wpOp_step rfl (fun K hK => ?_)
            clear hr
            go_simp
            refine hK _ _ ?_
            simp only [getD_own (l := ls) (i := 0) (by omega), getD_set ls (i := 0) (j := 1) (by decide), getD_set ls (i := 0) (j := 2) (by decide), getD_set ls (i := 0) (j := 3) (by decide), getD_set ls (i := 0) (j := 4) (by decide), getD_set ls (i := 0) (j := 5) (by decide), getD_set ls (i := 0) (j := 6) (by decide), getD_set ls (i := 0) (j := 7) (by decide)]
            exact ⟨v9, _, v37, v38, v39, v40, v41, rfl, by simp [hl], hB, fun _ => rfl, zg1, zg2, zg3, zg4, zg5, zh1, zk1, zq7⟩
          · rintro ls ac w' hr ⟨v9, v36, v37, v38, v39, v40, v41, rfl, hl, hB, zg0, zg1, zg2, zg3, zg4, zg5, zh1, zk1, zq7⟩
            have zd0 : ls.getD 0 false = true := (ready_dep hr rfl).2 ⟨0, .data⟩ (by simp) rfl
            obtain rfl := zg0 zd0
            refine wpOp_step rfl (fun K hK => ?_)
            clear hr
            go_simp
            refine (wider_is _ _ _ _ _).mono ?_
            rintro e w1 ⟨v, rfl, hk, hp⟩
            dsimp only
            refine hK _ _ ?_
            simp only [getD_own (l := ls) (i := 1) (by omega), getD_set ls (i := 1) (j := 0) (by decide), getD_set ls (i := 1) (j := 2) (by decide), getD_set ls (i := 1) (j := 3) (by decide), getD_set ls (i := 1) (j := 4) (by decide), getD_set ls (i := 1) (j := 5) (by decide), getD_set ls (i := 1) (j := 6) (by decide), getD_set ls (i := 1) (j := 7) (by decide)]
            exact ⟨v9, _, _, v38, v39, v40, v41, rfl, by simp [hl], bstep hB hk, fun _ => rfl, fun _ _ => hp, zg2, zg3, zg4, zg5, fun h => (by obtain ⟨b, e1, e2, e4, e5⟩ := zh1 h; exact ⟨b, e1, e2, fun h => (e4 h).keep hk, fun h => (e5 h).keep hk⟩), zk1, zq7⟩
          · rintro ls ac w' hr ⟨v9, v36, v37, v38, v39, v40, v41, rfl, hl, hB, zg0, zg1, zg2, zg3, zg4, zg5, zh1, zk1, zq7⟩
            have a0 := (hB.cell (ltc cHC0_0)).trans cHC0_0
            have a1 := (hB.cell (ltc cHC0_1)).trans cHC0_1
            have a2 := (hB.cell (ltc cHC0_2)).trans cHC0_2
            have a3 := (hB.cell (ltc cHC1_0)).trans cHC1_0
            have a4 := (hB.cell (ltc cHC1_1)).trans cHC1_1
            have a5 := (hB.cell (ltc cHC1_2)).trans cHC1_2
            have a6 := (hB.cell (ltc cHC1_3)).trans cHC1_3
            have a7 := (hB.cell (ltc cHC2_0)).trans cHC2_0
            have a8 := (hB.cell (ltc cHC2_1)).trans cHC2_1
            have a9 := (hB.cell (ltc cHC3_0)).trans cHC3_0
            have a10 := (hB.cell (ltc cHC3_1)).trans cHC3_1
            have a11 := (hB.cell (ltc cHC3_2)).trans cHC3_2
            have a12 := (hB.cell (ltc cHC4_0)).trans cHC4_0
            have a13 := (hB.cell (ltc cHC4_1)).trans cHC4_1
            have a14 := (hB.cell (ltc cHC4_2)).trans cHC4_2
            have a15 := (hB.cell (ltc cXC0_0)).trans cXC0_0
            have a16 := (hB.cell (ltc cXC0_1)).trans cXC0_1
            have a17 := (hB.cell (ltc cXC0_2)).trans cXC0_2
            refine wpOp_step rfl (fun K hK => ?_)
            clear hr
            go_simp
            refine hK _ _ ?_
            simp only [getD_own (l := ls) (i := 2) (by omega), getD_set ls (i := 2) (j := 0) (by decide), getD_set ls (i := 2) (j := 1) (by decide), getD_set ls (i := 2) (j := 3) (by decide), getD_set ls (i := 2) (j := 4) (by decide), getD_set ls (i := 2) (j := 5) (by decide), getD_set ls (i := 2) (j := 6) (by decide), getD_set ls (i := 2) (j := 7) (by decide)]
            exact ⟨v9, v36, v37, _, v39, v40, v41, rfl, by simp [hl], hB, zg0, zg1, fun _ => rfl, zg3, zg4, zg5, zh1, zk1, zq7⟩
          · rintro ls ac w' hr ⟨v9, v36, v37, v38, v39, v40, v41, rfl, hl, hB, zg0, zg1, zg2, zg3, zg4, zg5, zh1, zk1, zq7⟩
            have a0 := (hB.cell (ltc cHC0_0)).trans cHC0_0
            have a1 := (hB.cell (ltc cHC0_1)).trans cHC0_1
            have a2 := (hB.cell (ltc cHC0_2)).trans cHC0_2
            have a3 := (hB.cell (ltc cHC1_0)).trans cHC1_0
            have a4 := (hB.cell (ltc cHC1_1)).trans cHC1_1
            have a5 := (hB.cell (ltc cHC1_2)).trans cHC1_2
            have a6 := (hB.cell (ltc cHC1_3)).trans cHC1_3
            have a7 := (hB.cell (ltc cHC2_0)).trans cHC2_0
            have a8 := (hB.cell (ltc cHC2_1)).trans cHC2_1
            have a9 := (hB.cell (ltc cHC3_0)).trans cHC3_0
            have a10 := (hB.cell (ltc cHC3_1)).trans cHC3_1
            have a11 := (hB.cell (ltc cHC3_2)).trans cHC3_2
            have a12 := (hB.cell (ltc cHC4_0)).trans cHC4_0
            have a13 := (hB.cell (ltc cHC4_1)).trans cHC4_1
            have a14 := (hB.cell (ltc cHC4_2)).trans cHC4_2
            have a15 := (hB.cell (ltc cXC0_0)).trans cXC0_0
            have a16 := (hB.cell (ltc cXC0_1)).trans cXC0_1
            have a17 := (hB.cell (ltc cXC0_2)).trans cXC0_2
            refine wpOp_step rfl (fun K hK => ?_)
            clear hr
            go_simp
            refine hK _ _ ?_
            simp only [getD_own (l := ls) (i := 3) (by omega), getD_set ls (i := 3) (j := 0) (by decide), getD_set ls (i := 3) (j := 1) (by decide), getD_set ls (i := 3) (j := 2) (by decide), getD_set ls (i := 3) (j := 4) (by decide), getD_set ls (i := 3) (j := 5) (by decide), getD_set ls (i := 3) (j := 6) (by decide), getD_set ls (i := 3) (j := 7) (by decide)]
            exact ⟨v9, v36, v37, v38, _, v40, v41, rfl, by simp [hl], hB, zg0, zg1, zg2, fun _ => rfl, zg4, zg5, zh1, zk1, zq7⟩
          · rintro ls ac w' hr ⟨v9, v36, v37, v38, v39, v40, v41, rfl, hl, hB, zg0, zg1, zg2, zg3, zg4, zg5, zh1, zk1, zq7⟩
            have zd2 : ls.getD 2 false = true := (ready_dep hr rfl).2 ⟨2, .data⟩ (by simp) rfl
            have zd3 : ls.getD 3 false = true := (ready_dep hr rfl).2 ⟨3, .data⟩ (by simp) rfl
            obtain rfl := zg2 zd2
            obtain rfl := zg3 zd3
            refine wpOp_step rfl (fun K hK => ?_)
            clear hr
            go_simp
            refine (SpAdd_is _ _ _ _ _ _ _ _ _ Hn _).mono ?_
            rintro e w1 ⟨rfl, hk⟩
            dsimp only
            refine hK _ _ ?_
            simp only [getD_own (l := ls) (i := 4) (by omega), getD_set ls (i := 4) (j := 0) (by decide), getD_set ls (i := 4) (j := 1) (by decide), getD_set ls (i := 4) (j := 2) (by decide), getD_set ls (i := 4) (j := 3) (by decide), getD_set ls (i := 4) (j := 5) (by decide), getD_set ls (i := 4) (j := 6) (by decide), getD_set ls (i := 4) (j := 7) (by decide)]
            exact ⟨v9, v36, v37, _, _, _, v41, rfl, by simp [hl], bstep hB hk, zg0, fun h h2 => (zg1 h h2).keep hk, fun _ => rfl, fun _ => rfl, fun _ => rfl, zg5, fun h => (by obtain ⟨b, e1, e2, e4, e5⟩ := zh1 h; exact ⟨b, e1, e2, fun h => (e4 h).keep hk, fun h => (e5 h).keep hk⟩), zk1, zq7⟩
          · rintro ls ac w' hr ⟨v9, v36, v37, v38, v39, v40, v41, rfl, hl, hB, zg0, zg1, zg2, zg3, zg4, zg5, zh1, zk1, zq7⟩
            have hst : ls.getD 7 false = false := by cases hc : ls.getD 7 false with | false => rfl | true => (exfalso; have hn := (ready_dep hr rfl).1; rw [getD_both (zq7 hc)] at hn; cases hn)
            have zd1 : ls.getD 1 false = true := (ready_dep hr rfl).2 ⟨1, .data⟩ (by simp) rfl
            have zd4 : ls.getD 4 false = true := (ready_dep hr rfl).2 ⟨4, .data⟩ (by simp) rfl
            obtain ⟨bp, bt, rfl, W1, W2, W3, W4⟩ := zg1 zd1 hst
            have w1' := W1.1
            have w2' := W2.1
            have w3' := W3.1
            have w4' := W4.1
            obtain rfl := zg4 zd4
            refine wpOp_step rfl (fun K hK => ?_)
            clear hr
            go_simp
            refine (wider1_is _ _ _ _ _ _ _ _ _ _ (by decide) (by decide) Hs _ _ _ W1 W2 W3 W4).mono ?_
            rintro e w1 ⟨rfl, hk⟩
            dsimp only
            refine hK _ _ ?_
            simp only [getD_own (l := ls) (i := 5) (by omega), getD_set ls (i := 5) (j := 0) (by decide), getD_set ls (i := 5) (j := 1) (by decide), getD_set ls (i := 5) (j := 2) (by decide), getD_set ls (i := 5) (j := 3) (by decide), getD_set ls (i := 5) (j := 4) (by decide), getD_set ls (i := 5) (j := 6) (by decide), getD_set ls (i := 5) (j := 7) (by decide)]
            exact ⟨v9, v36, _, v38, v39, _, _, rfl, by simp [hl], bstep hB hk, zg0, fun _ _ => ⟨bp, bt, rfl, W1.keep hk, W2.keep hk, W3.keep hk, W4.keep hk⟩, zg2, zg3, fun _ => rfl, fun _ => rfl, fun h => (by obtain ⟨b, e1, e2, e4, e5⟩ := zh1 h; exact ⟨b, e1, e2, fun h => (e4 h).keep hk, fun h => (e5 h).keep hk⟩), zk1, fun _ => (by first | rfl | trivial)⟩
          · rintro ls ac w' hr ⟨v9, v36, v37, v38, v39, v40, v41, rfl, hl, hB, zg0, zg1, zg2, zg3, zg4, zg5, zh1, zk1, zq7⟩
            have hz := hB.size
            have hn := (ready_dep hr rfl).1
            have hna : ls.getD 6 false = false := by cases hc : ls.getD 6 false with | false => rfl | true => (exfalso; have hs4 := getD_both hc; rw [hs4] at hn; cases hn)
            have hus : ls.getD 7 false = false := by cases hc : ls.getD 7 false with | false => rfl | true => (rw [zk1 hc] at hna; cases hna)
            refine wpOp_step rfl (fun K hK => ?_)
            clear hr
            go_simp
            refine hK _ _ ?_
            simp only [getD_own (l := ls) (i := 6) (by omega), getD_set ls (i := 6) (j := 0) (by decide), getD_set ls (i := 6) (j := 1) (by decide), getD_set ls (i := 6) (j := 2) (by decide), getD_set ls (i := 6) (j := 3) (by decide), getD_set ls (i := 6) (j := 4) (by decide), getD_set ls (i := 6) (j := 5) (by decide), getD_set ls (i := 6) (j := 7) (by decide)]
            exact ⟨_, v36, v37, v38, v39, v40, v41, rfl, by simp [hl], balloc hB _, zg0, fun h h2 => (zg1 h h2).keep (balloc (brefl _) _), zg2, zg3, zg4, zg5, fun _ => ⟨_, rfl, hz, fun _ => SpanAt.new rfl, fun h => (by rw [hus] at h; cases h)⟩, fun _ => (by first | rfl | trivial), zq7⟩
          · rintro ls ac w' hr ⟨v9, v36, v37, v38, v39, v40, v41, rfl, hl, hB, zg0, zg1, zg2, zg3, zg4, zg5, zh1, zk1, zq7⟩
            have zd6 : ls.getD 6 false = true := (ready_dep hr rfl).2 ⟨6, .data⟩ (by simp) rfl
            have zd5 : ls.getD 5 false = true := (ready_dep hr rfl).2 ⟨5, .data⟩ (by simp) rfl
            obtain rfl := zg5 zd5
            have hn := (ready_dep hr rfl).1
            have hns : ls.getD 7 false = false := by cases hc : ls.getD 7 false with | false => rfl | true => (exfalso; have hs4 := getD_both hc; rw [hs4] at hn; cases hn)
            obtain ⟨b, rfl, hub, e4, _⟩ := zh1 zd6
            have hS := e4 hns
            have hT := span_sets (x := s1) (y := s2) (z := s3) hS
            have zs0 := (hS).1.1
            have zs1 := (hS).2.1.1
            have zs2 := (hS).2.2.1
            have zs3 := (hS).1.2
            have zs4 := (hS).2.1.2
            have zs5 := (hS).2.2.2
            refine wpOp_step rfl (fun K hK => ?_)
            clear hr
            clear hS e4
            go_simp
            refine hK _ _ ?_
            simp only [getD_own (l := ls) (i := 7) (by omega), getD_set ls (i := 7) (j := 0) (by decide), getD_set ls (i := 7) (j := 1) (by decide), getD_set ls (i := 7) (j := 2) (by decide), getD_set ls (i := 7) (j := 3) (by decide), getD_set ls (i := 7) (j := 4) (by decide), getD_set ls (i := 7) (j := 5) (by decide), getD_set ls (i := 7) (j := 6) (by decide)]
            exact ⟨_, v36, v37, v38, v39, v40, _, rfl, by simp [hl], hB.trans (hT.2.2 _ hub), zg0, fun _ h => (by cases h), zg2, zg3, zg4, fun _ => rfl, fun _ => ⟨b, rfl, hub, fun h => (by cases h), fun _ => hT.1⟩, fun _ => zd6, fun _ => zd5⟩
        · rintro ls ac w' ⟨v9, v36, v37, v38, v39, v40, v41, rfl, hl, hB, zg0, zg1, zg2, zg3, zg4, zg5, zh1, zk1, zq7⟩ hr
          have hall := ready_allb (by decide) hl hr
          obtain ⟨b1, rfl, hub1, _, f1⟩ := zh1 (hall 6 (by decide))
          have F1 := f1 (hall 7 (by decide))
          go_wp2_with fail
          go_meet
          exact ⟨b1, rfl, Lib.hid (Below.trans hwC (hB.mono (Below.size hwC))), Lib.hid ⟨CellF.keep hB qHC0_0, CellF.keep hB qHC0_1, CellF.keep hB qHC0_2⟩, Lib.hid ⟨CellF.keep hB qHC1_0, CellF.keep hB qHC1_1, CellF.keep hB qHC1_2, CellF.keep hB qHC1_3⟩, Lib.hid ⟨CellF.keep hB qHC2_0, CellF.keep hB qHC2_1⟩, Lib.hid ⟨CellF.keep hB qHC3_0, CellF.keep hB qHC3_1, CellF.keep hB qHC3_2⟩, Lib.hid ⟨CellF.keep hB qHC4_0, CellF.keep hB qHC4_1, CellF.keep hB qHC4_2⟩, Lib.hid ⟨CellF.keep hB qXC0_0, CellF.keep hB qXC0_1, CellF.keep hB qXC0_2⟩, Lib.hid F1⟩
      case rest =>
        obtain ⟨bs, rfl, HB, HD0, HD1, HD2, HD3, HD4, HD5, XD0⟩ := hcut
        have hwD := HB.out
        have qHD0_0 := HD0.out.1
        have cHD0_0 := qHD0_0.1
        have qHD0_1 := HD0.out.2.1
        have cHD0_1 := qHD0_1.1
        have qHD0_2 := HD0.out.2.2
        have cHD0_2 := qHD0_2.1
        have zHD0 := ltc cHD0_0
        have qHD1_0 := HD1.out.1
        have cHD1_0 := qHD1_0.1
        have qHD1_1 := HD1.out.2.1
        have cHD1_1 := qHD1_1.1
        have qHD1_2 := HD1.out.2.2.1
        have cHD1_2 := qHD1_2.1
        have qHD1_3 := HD1.out.2.2.2
        have cHD1_3 := qHD1_3.1
        have zHD1 := ltc cHD1_0
        have qHD2_0 := HD2.out.1
        have cHD2_0 := qHD2_0.1
        have qHD2_1 := HD2.out.2
        have cHD2_1 := qHD2_1.1
        have zHD2 := ltc cHD2_0
        have qHD3_0 := HD3.out.1
        have cHD3_0 := qHD3_0.1
        have qHD3_1 := HD3.out.2.1
        have cHD3_1 := qHD3_1.1
        have qHD3_2 := HD3.out.2.2
        have cHD3_2 := qHD3_2.1
        have zHD3 := ltc cHD3_0
        have qHD4_0 := HD4.out.1
        have cHD4_0 := qHD4_0.1
        have qHD4_1 := HD4.out.2.1
        have cHD4_1 := qHD4_1.1
        have qHD4_2 := HD4.out.2.2
        have cHD4_2 := qHD4_2.1
        have zHD4 := ltc cHD4_0
        have qHD5_0 := HD5.out.1
        have cHD5_0 := qHD5_0.1
        have qHD5_1 := HD5.out.2.1
        have cHD5_1 := qHD5_1.1
        have qHD5_2 := HD5.out.2.2
        have cHD5_2 := qHD5_2.1
        have zHD5 := ltc cHD5_0
        have qXD0_0 := XD0.out.1
        have cXD0_0 := qXD0_0.1
        have qXD0_1 := XD0.out.2.1
        have cXD0_1 := qXD0_1.1
        have qXD0_2 := XD0.out.2.2
        have cXD0_2 := qXD0_2.1
        have zXD0 := ltc cXD0_0
        clear HB HD0 HD1 HD2 HD3 HD4 HD5 XD0
        cases s3 with
        | false =>
          obtain ⟨rfl, rfl, rfl⟩ : 0 = y1 ∧ 0 = y2 ∧ false = y3 := by have := HXh.out; rw [if_neg (by decide)] at this; cases this; exact ⟨rfl, rfl, rfl⟩
          go_wp2_with fail
          refine (Unknown_is _).mono ?_
          rintro e w1 ⟨rfl, hb1⟩
          have q1_1_0 : CellF w1 ⟨(w.heap.size + 3), 0, none⟩ (.int .i64 0) := (by refine CellF.keep hb1 ?_; repeat (first | with_reducible exact qHD3_0 | with_reducible exact CellF.at_ (by simp) rfl | with_reducible refine CellF.past _ ?_ | with_reducible refine CellF.drew ?_ | with_reducible refine CellF.drewN _ ?_))
          have c1_1_0 := q1_1_0.1
          have q1_1_1 : CellF w1 ⟨(w.heap.size + 3), 1, none⟩ (.int .i64 0) := (by refine CellF.keep hb1 ?_; repeat (first | with_reducible exact qHD3_1 | with_reducible exact CellF.at_ (by simp) rfl | with_reducible refine CellF.past _ ?_ | with_reducible refine CellF.drew ?_ | with_reducible refine CellF.drewN _ ?_))
          have c1_1_1 := q1_1_1.1
          have q1_1_2 : CellF w1 ⟨(w.heap.size + 3), 2, none⟩ (.bool false) := (by refine CellF.keep hb1 ?_; repeat (first | with_reducible exact qHD3_2 | with_reducible exact CellF.at_ (by simp) rfl | with_reducible refine CellF.past _ ?_ | with_reducible refine CellF.drew ?_ | with_reducible refine CellF.drewN _ ?_))
          have c1_1_2 := q1_1_2.1
          have z1_1 : (w.heap.size + 3) < w1.heap.size := ltc c1_1_0
          have q1_2_0 : CellF w1 ⟨bs, 0, none⟩ (.int .i64 s1) := (by refine CellF.keep hb1 ?_; repeat (first | with_reducible exact qXD0_0 | with_reducible exact CellF.at_ (by simp) rfl | with_reducible refine CellF.past _ ?_ | with_reducible refine CellF.drew ?_ | with_reducible refine CellF.drewN _ ?_))
          have c1_2_0 := q1_2_0.1
          have q1_2_1 : CellF w1 ⟨bs, 1, none⟩ (.int .i64 s2) := (by refine CellF.keep hb1 ?_; repeat (first | with_reducible exact qXD0_1 | with_reducible exact CellF.at_ (by simp) rfl | with_reducible refine CellF.past _ ?_ | with_reducible refine CellF.drew ?_ | with_reducible refine CellF.drewN _ ?_))
          have c1_2_1 := q1_2_1.1
          have q1_2_2 : CellF w1 ⟨bs, 2, none⟩ (.bool false) := (by refine CellF.keep hb1 ?_; repeat (first | with_reducible exact qXD0_2 | with_reducible exact CellF.at_ (by simp) rfl | with_reducible refine CellF.past _ ?_ | with_reducible refine CellF.drew ?_ | with_reducible refine CellF.drewN _ ?_))
          have c1_2_2 := q1_2_2.1
          have z1_2 : bs < w1.heap.size := ltc c1_2_0
          clear qHD4_0 cHD4_0 qHD4_1 cHD4_1 qHD4_2 cHD4_2 zHD4 qHD5_0 cHD5_0 qHD5_1 cHD5_1 qHD5_2 cHD5_2 zHD5 qHD0_0 cHD0_0 qHD0_1 cHD0_1 qHD0_2 cHD0_2 zHD0 qHD1_0 cHD1_0 qHD1_1 cHD1_1 qHD1_2 cHD1_2 qHD1_3 cHD1_3 zHD1 qHD2_0 cHD2_0 qHD2_1 cHD2_1 zHD2 qHD3_0 cHD3_0 qHD3_1 cHD3_1 qHD3_2 cHD3_2 zHD3 qXD0_0 cXD0_0 qXD0_1 cXD0_1 qXD0_2 cXD0_2 zXD0
          have f1_1_0 := q1_1_0.2
          have f1_1_1 := q1_1_1.2
          have f1_1_2 := q1_1_2.2
          go_wp2
          exact bodyPost_ret (v := .agg #[.int .i64 0, .int .i64 0, .bool false]) (by simp [results, Try.results14, go_sem, c1_1_0, c1_1_1, c1_1_2]) rfl ⟨rfl, (by repeat (first | exact brefl _ | refine balloc ?_ _ | refine bdrewN ?_ _ | refine bset ?_ (by dsimp only; omega) _ | refine bstep ?_ (by assumption)))⟩
        | true =>
          have HO : Hid (spOf fl1 ce1 = ⟨y1, y2, y3⟩) := by have h := HXh.out; rw [if_pos rfl, HF.out, HC.out] at h; exact Lib.hid h
          go_wp2_with fail
          refine (Floor_is _ _ _ _ _ HF _).mono ?_
          rintro e w1 ⟨rfl, hb1⟩
          have q1_1_0 : CellF w1 ⟨(w.heap.size + 3), 0, none⟩ (.int .i64 0) := (by refine CellF.keep hb1 ?_; repeat (first | with_reducible exact qHD3_0 | with_reducible exact CellF.at_ (by simp) rfl | with_reducible refine CellF.past _ ?_ | with_reducible refine CellF.drew ?_ | with_reducible refine CellF.drewN _ ?_))
          have c1_1_0 := q1_1_0.1
          have q1_1_1 : CellF w1 ⟨(w.heap.size + 3), 1, none⟩ (.int .i64 0) := (by refine CellF.keep hb1 ?_; repeat (first | with_reducible exact qHD3_1 | with_reducible exact CellF.at_ (by simp) rfl | with_reducible refine CellF.past _ ?_ | with_reducible refine CellF.drew ?_ | with_reducible refine CellF.drewN _ ?_))
          have c1_1_1 := q1_1_1.1
          have q1_1_2 : CellF w1 ⟨(w.heap.size + 3), 2, none⟩ (.bool false) := (by refine CellF.keep hb1 ?_; repeat (first | with_reducible exact qHD3_2 | with_reducible exact CellF.at_ (by simp) rfl | with_reducible refine CellF.past _ ?_ | with_reducible refine CellF.drew ?_ | with_reducible refine CellF.drewN _ ?_))
          have c1_1_2 := q1_1_2.1
          have z1_1 : (w.heap.size + 3) < w1.heap.size := ltc c1_1_0
          have q1_2_0 : CellF w1 ⟨bs, 0, none⟩ (.int .i64 s1) := (by refine CellF.keep hb1 ?_; repeat (first | with_reducible exact qXD0_0 | with_reducible exact CellF.at_ (by simp) rfl | with_reducible refine CellF.past _ ?_ | with_reducible refine CellF.drew ?_ | with_reducible refine CellF.drewN _ ?_))
          have c1_2_0 := q1_2_0.1
          have q1_2_1 : CellF w1 ⟨bs, 1, none⟩ (.int .i64 s2) := (by refine CellF.keep hb1 ?_; repeat (first | with_reducible exact qXD0_1 | with_reducible exact CellF.at_ (by simp) rfl | with_reducible refine CellF.past _ ?_ | with_reducible refine CellF.drew ?_ | with_reducible refine CellF.drewN _ ?_))
          have c1_2_1 := q1_2_1.1
          have q1_2_2 : CellF w1 ⟨bs, 2, none⟩ (.bool true) := (by refine CellF.keep hb1 ?_; repeat (first | with_reducible exact qXD0_2 | with_reducible exact CellF.at_ (by simp) rfl | with_reducible refine CellF.past _ ?_ | with_reducible refine CellF.drew ?_ | with_reducible refine CellF.drewN _ ?_))
          have c1_2_2 := q1_2_2.1
          have z1_2 : bs < w1.heap.size := ltc c1_2_0
          clear qHD4_0 cHD4_0 qHD4_1 cHD4_1 qHD4_2 cHD4_2 zHD4 qHD5_0 cHD5_0 qHD5_1 cHD5_1 qHD5_2 cHD5_2 zHD5 qHD0_0 cHD0_0 qHD0_1 cHD0_1 qHD0_2 cHD0_2 zHD0 qHD1_0 cHD1_0 qHD1_1 cHD1_1 qHD1_2 cHD1_2 qHD1_3 cHD1_3 zHD1 qHD2_0 cHD2_0 qHD2_1 cHD2_1 zHD2 qHD3_0 cHD3_0 qHD3_1 cHD3_1 qHD3_2 cHD3_2 zHD3 qXD0_0 cXD0_0 qXD0_1 cXD0_1 qXD0_2 cXD0_2 zXD0
          go_wp2_with fail
          refine (Ceil_is _ _ _ _ _ HC _).mono ?_
          rintro e w2 ⟨rfl, hb2⟩
          have q2_3_0 : CellF w2 ⟨(w.heap.size + 3), 0, none⟩ (.int .i64 0) := (by refine CellF.keep hb2 ?_; repeat (first | with_reducible exact q1_1_0 | with_reducible exact CellF.at_ (by simp) rfl | with_reducible refine CellF.past _ ?_ | with_reducible refine CellF.drew ?_ | with_reducible refine CellF.drewN _ ?_))
          have c2_3_0 := q2_3_0.1
          have q2_3_1 : CellF w2 ⟨(w.heap.size + 3), 1, none⟩ (.int .i64 0) := (by refine CellF.keep hb2 ?_; repeat (first | with_reducible exact q1_1_1 | with_reducible exact CellF.at_ (by simp) rfl | with_reducible refine CellF.past _ ?_ | with_reducible refine CellF.drew ?_ | with_reducible refine CellF.drewN _ ?_))
          have c2_3_1 := q2_3_1.1
          have q2_3_2 : CellF w2 ⟨(w.heap.size + 3), 2, none⟩ (.bool false) := (by refine CellF.keep hb2 ?_; repeat (first | with_reducible exact q1_1_2 | with_reducible exact CellF.at_ (by simp) rfl | with_reducible refine CellF.past _ ?_ | with_reducible refine CellF.drew ?_ | with_reducible refine CellF.drewN _ ?_))
          have c2_3_2 := q2_3_2.1
          have z2_3 : (w.heap.size + 3) < w2.heap.size := ltc c2_3_0
          have q2_4_0 : CellF w2 ⟨bs, 0, none⟩ (.int .i64 s1) := (by refine CellF.keep hb2 ?_; repeat (first | with_reducible exact q1_2_0 | with_reducible exact CellF.at_ (by simp) rfl | with_reducible refine CellF.past _ ?_ | with_reducible refine CellF.drew ?_ | with_reducible refine CellF.drewN _ ?_))
          have c2_4_0 := q2_4_0.1
          have q2_4_1 : CellF w2 ⟨bs, 1, none⟩ (.int .i64 s2) := (by refine CellF.keep hb2 ?_; repeat (first | with_reducible exact q1_2_1 | with_reducible exact CellF.at_ (by simp) rfl | with_reducible refine CellF.past _ ?_ | with_reducible refine CellF.drew ?_ | with_reducible refine CellF.drewN _ ?_))
          have c2_4_1 := q2_4_1.1
          have q2_4_2 : CellF w2 ⟨bs, 2, none⟩ (.bool true) := (by refine CellF.keep hb2 ?_; repeat (first | with_reducible exact q1_2_2 | with_reducible exact CellF.at_ (by simp) rfl | with_reducible refine CellF.past _ ?_ | with_reducible refine CellF.drew ?_ | with_reducible refine CellF.drewN _ ?_))
          have c2_4_2 := q2_4_2.1
          have z2_4 : bs < w2.heap.size := ltc c2_4_0
          clear q1_1_0 c1_1_0 q1_1_1 c1_1_1 q1_1_2 c1_1_2 z1_1 q1_2_0 c1_2_0 q1_2_1 c1_2_1 q1_2_2 c1_2_2 z1_2
          go_wp2_with fail
          refine (Of_is _ _ _ _ _ HO _).mono ?_
          rintro e w3 ⟨rfl, hb3⟩
          have q3_5_0 : CellF w3 ⟨(w.heap.size + 3), 0, none⟩ (.int .i64 0) := (by refine CellF.keep hb3 ?_; repeat (first | with_reducible exact q2_3_0 | with_reducible exact CellF.at_ (by simp) rfl | with_reducible refine CellF.past _ ?_ | with_reducible refine CellF.drew ?_ | with_reducible refine CellF.drewN _ ?_))
          have c3_5_0 := q3_5_0.1
          have q3_5_1 : CellF w3 ⟨(w.heap.size + 3), 1, none⟩ (.int .i64 0) := (by refine CellF.keep hb3 ?_; repeat (first | with_reducible exact q2_3_1 | with_reducible exact CellF.at_ (by simp) rfl | with_reducible refine CellF.past _ ?_ | with_reducible refine CellF.drew ?_ | with_reducible refine CellF.drewN _ ?_))
          have c3_5_1 := q3_5_1.1
          have q3_5_2 : CellF w3 ⟨(w.heap.size + 3), 2, none⟩ (.bool false) := (by refine CellF.keep hb3 ?_; repeat (first | with_reducible exact q2_3_2 | with_reducible exact CellF.at_ (by simp) rfl | with_reducible refine CellF.past _ ?_ | with_reducible refine CellF.drew ?_ | with_reducible refine CellF.drewN _ ?_))
          have c3_5_2 := q3_5_2.1
          have z3_5 : (w.heap.size + 3) < w3.heap.size := ltc c3_5_0
          clear q2_4_0 c2_4_0 q2_4_1 c2_4_1 q2_4_2 c2_4_2 z2_4 q2_3_0 c2_3_0 q2_3_1 c2_3_1 q2_3_2 c2_3_2 z2_3
          have f3_5_0 := q3_5_0.2
          have f3_5_1 := q3_5_1.2
          have f3_5_2 := q3_5_2.2
          go_wp2
          exact bodyPost_ret (v := .agg #[.int .i64 y1, .int .i64 y2, .bool y3]) (by simp [results, Try.results14, go_sem, c3_5_0, c3_5_1, c3_5_2]) rfl ⟨rfl, (by repeat (first | exact brefl _ | refine balloc ?_ _ | refine bdrewN ?_ _ | refine bset ?_ (by dsimp only; omega) _ | refine bstep ?_ (by assumption)))⟩
end Go.Proofs.Ytigpddhffgoioaa
