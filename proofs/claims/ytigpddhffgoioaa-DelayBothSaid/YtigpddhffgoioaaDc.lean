/-
  The walks of package delay's Sync.
-/
import Derived.Test.YtigpddhffgoioaaDb
import Derived.Test.YtigpddhffgoioaaSd
import Derived.Test.YtigpddhffgoioaaInvb
import Derived.Test.YtigpddhffgoioaaSpt
import Derived.BigQuiet
import Derived.Deep.QuietTactic
import Derived.Deep.Cut
import Derived.Deep.CutRange
import Derived.Deep.DeepCutAuto
namespace Go.Proofs.Ytigpddhffgoioaa
open Go.RowKit


set_option maxRecDepth 100000 in
set_option maxHeartbeats 4000000 in
theorem Sync_is (mn mx g t c u x1 x2 : Int) (x3 : Bool) (hc : I64 c) (H : Hid (dSync mn mx g t c u = ⟨x1, x2, x3⟩)) (w : World) :
    Calls Try.prog 17 #[.agg #[.int .i64 mn, .int .i64 mx, .int .i64 g], .int .i64 t, .int .i64 c, .int .i64 u] w fun e w' => e = .returned (.agg #[.int .i64 x1, .int .i64 x2, .bool x3]) ∧ Below w.heap.size w w' := by
  obtain ⟨⟨c1, c2, c3⟩, ec⟩ : ∃ s, dCorr c = s := ⟨_, rfl⟩
  have Hc := Lib.hid ec
  obtain ⟨⟨o1, o2, o3⟩, eo⟩ : ∃ s, spOf mn mx = s := ⟨_, rfl⟩
  have Ho := Lib.hid eo
  obtain ⟨⟨k1, k2, k3⟩, ek⟩ : ∃ s, spAdd ⟨c1, c2, c3⟩ ⟨o1, o2, o3⟩ = s := ⟨_, rfl⟩
  have Hk := Lib.hid ek
  obtain ⟨⟨d1, d2, d3⟩, ed⟩ : ∃ s, dWider mn mx g 2 ⟨k1, k2, k3⟩ = s := ⟨_, rfl⟩
  have Hd := Lib.hid ed
  obtain ⟨⟨s1, s2, s3⟩, es⟩ : ∃ s, spShift ⟨d1, d2, d3⟩ t = s := ⟨_, rfl⟩
  have Hs := Lib.hid es
  obtain ⟨⟨a1, a2, a3⟩, ea⟩ : ∃ s, spOf u u = s := ⟨_, rfl⟩
  have Ha := Lib.hid ea
  have HX : Hid (spSub ⟨s1, s2, s3⟩ ⟨a1, a2, a3⟩ = ⟨x1, x2, x3⟩) := by
    have hx := H.out
    unfold dSync at hx
    rw [ec, eo, ek, ed, es, ea] at hx
    exact Lib.hid hx
  clear H ec eo ek ed es ea
  go_enter Try.func17, Try.ntmps17
  go_upto_region 1 with (fail)
  go_cut [9] (fun v9 wd => ∃ bk, v9 = .pointer (some ⟨bk, 0, none⟩) ∧ Hid (Below w.heap.size w wd) ∧ Hid (CellF wd ⟨w.heap.size, 0, none⟩ (.int .i64 mn) ∧ CellF wd ⟨w.heap.size, 1, none⟩ (.int .i64 mx) ∧ CellF wd ⟨w.heap.size, 2, none⟩ (.int .i64 g)) ∧ Hid (SpanAt wd (w.heap.size + 1) 0 0 false) ∧ Hid (SpanAt wd bk k1 k2 k3))
  case first =>
    generalize hu : (w.alloc (.cells #[.int .i64 mn, .int .i64 mx, .int .i64 g] 34)).alloc (.cells #[.int .i64 0, .int .i64 0, .bool false] 32) = z
    obtain ⟨hb, hs, A, B⟩ := two_blocks w z _ _ _ _ hu.symm
    have A0 := A 0 _ rfl
    have a0' := A0.1
    have B0 := B 0 _ rfl
    have A1 := A 1 _ rfl
    have a1' := A1.1
    have B1 := B 1 _ rfl
    have A2 := A 2 _ rfl
    have a2' := A2.1
    have B2 := B 2 _ rfl
    clear hu hs A B
    refine wp_region_inv (by kernel_rfl) (fun ls ac w' => ∃ v9 v10 v11 v12 v13 v14 v15 v16 v17, ac = ⟨#[.agg #[.int .i64 mn, .int .i64 mx, .int .i64 g], .int .i64 t, .int .i64 c, .int .i64 u, .pointer (some ⟨w.heap.size, 0, none⟩), undef, undef, undef, .pointer (some ⟨w.heap.size + 1, 0, none⟩), v9, v10, v11, v12, v13, v14, v15, v16, v17, undef, undef, undef, undef, undef, undef, undef, undef, undef], []⟩ ∧ ls.size = 10 ∧ Below z.heap.size z w' ∧ (ls.getD 0 false = true → v10 = .int .i64 c) ∧ (ls.getD 1 false = true → v11 = .agg #[.int .i64 c1, .int .i64 c2, .bool c3]) ∧ (ls.getD 2 false = true → v12 = .pointer (some ⟨w.heap.size, 0, none⟩)) ∧ (ls.getD 3 false = true → v13 = .int .i64 mn) ∧ (ls.getD 4 false = true → v14 = .pointer (some ⟨w.heap.size, 1, none⟩)) ∧ (ls.getD 5 false = true → v15 = .int .i64 mx) ∧ (ls.getD 6 false = true → v16 = .agg #[.int .i64 o1, .int .i64 o2, .bool o3]) ∧ (ls.getD 7 false = true → v17 = .agg #[.int .i64 k1, .int .i64 k2, .bool k3]) ∧ (ls.getD 8 false = true → ∃ b, v9 = .pointer (some ⟨b, 0, none⟩) ∧ z.heap.size ≤ b ∧ (ls.getD 9 false = false → SpanAt w' b 0 0 false) ∧ (ls.getD 9 false = true → SpanAt w' b k1 k2 k3)) ∧ (ls.getD 9 false = true → ls.getD 8 false = true)) ?_ ?_ ?_
    · exact ⟨_, _, _, _, _, _, _, _, _, rfl, rfl, bdrew (brefl _), fun h => (by cases h), fun h => (by cases h), fun h => (by cases h), fun h => (by cases h), fun h => (by cases h), fun h => (by cases h), fun h => (by cases h), fun h => (by cases h), fun h => (by cases h), fun h => (by cases h)⟩
    · intro i hii
      have hin : i < 10 := hii
      have hor : i = 0 ∨ i = 1 ∨ i = 2 ∨ i = 3 ∨ i = 4 ∨ i = 5 ∨ i = 6 ∨ i = 7 ∨ i = 8 ∨ i = 9 := by omega
      rcases hor with rfl | rfl | rfl | rfl | rfl | rfl | rfl | rfl | rfl | rfl
      · rintro ls ac w' hr ⟨v9, v10, v11, v12, v13, v14, v15, v16, v17, rfl, hl, hB, zg0, zg1, zg2, zg3, zg4, zg5, zg6, zg7, zh1, zk1⟩
        refine wpOp_step rfl (fun K hK => ?_)
        clear hr
        go_simp
        refine hK _ _ ?_
        simp only [getD_own (l := ls) (i := 0) (by omega), getD_set ls (i := 0) (j := 1) (by decide), getD_set ls (i := 0) (j := 2) (by decide), getD_set ls (i := 0) (j := 3) (by decide), getD_set ls (i := 0) (j := 4) (by decide), getD_set ls (i := 0) (j := 5) (by decide), getD_set ls (i := 0) (j := 6) (by decide), getD_set ls (i := 0) (j := 7) (by decide), getD_set ls (i := 0) (j := 8) (by decide), getD_set ls (i := 0) (j := 9) (by decide)]
        exact ⟨v9, _, v11, v12, v13, v14, v15, v16, v17, rfl, by simp [hl], hB, fun _ => rfl, zg1, zg2, zg3, zg4, zg5, zg6, zg7, zh1, zk1⟩
      · rintro ls ac w' hr ⟨v9, v10, v11, v12, v13, v14, v15, v16, v17, rfl, hl, hB, zg0, zg1, zg2, zg3, zg4, zg5, zg6, zg7, zh1, zk1⟩
        have zd0 : ls.getD 0 false = true := (ready_dep hr rfl).2 ⟨0, .data⟩ (by simp) rfl
        obtain rfl := zg0 zd0
        refine wpOp_step rfl (fun K hK => ?_)
        clear hr
        go_simp
        refine (correction_is _ hc _ _ _ Hc _).mono ?_
        rintro e w1 ⟨rfl, hk⟩
        dsimp only
        refine hK _ _ ?_
        simp only [getD_own (l := ls) (i := 1) (by omega), getD_set ls (i := 1) (j := 0) (by decide), getD_set ls (i := 1) (j := 2) (by decide), getD_set ls (i := 1) (j := 3) (by decide), getD_set ls (i := 1) (j := 4) (by decide), getD_set ls (i := 1) (j := 5) (by decide), getD_set ls (i := 1) (j := 6) (by decide), getD_set ls (i := 1) (j := 7) (by decide), getD_set ls (i := 1) (j := 8) (by decide), getD_set ls (i := 1) (j := 9) (by decide)]
        exact ⟨v9, _, _, v12, v13, v14, v15, v16, v17, rfl, by simp [hl], bstep hB hk, fun _ => rfl, fun _ => rfl, zg2, zg3, zg4, zg5, zg6, zg7, fun h => (by obtain ⟨b, e1, e2, e4, e5⟩ := zh1 h; exact ⟨b, e1, e2, fun h => (e4 h).keep hk, fun h => (e5 h).keep hk⟩), zk1⟩
      · rintro ls ac w' hr ⟨v9, v10, v11, v12, v13, v14, v15, v16, v17, rfl, hl, hB, zg0, zg1, zg2, zg3, zg4, zg5, zg6, zg7, zh1, zk1⟩
        refine wpOp_step rfl (fun K hK => ?_)
        clear hr
        go_simp
        refine hK _ _ ?_
        simp only [getD_own (l := ls) (i := 2) (by omega), getD_set ls (i := 2) (j := 0) (by decide), getD_set ls (i := 2) (j := 1) (by decide), getD_set ls (i := 2) (j := 3) (by decide), getD_set ls (i := 2) (j := 4) (by decide), getD_set ls (i := 2) (j := 5) (by decide), getD_set ls (i := 2) (j := 6) (by decide), getD_set ls (i := 2) (j := 7) (by decide), getD_set ls (i := 2) (j := 8) (by decide), getD_set ls (i := 2) (j := 9) (by decide)]
        exact ⟨v9, v10, v11, _, v13, v14, v15, v16, v17, rfl, by simp [hl], hB, zg0, zg1, fun _ => rfl, zg3, zg4, zg5, zg6, zg7, zh1, zk1⟩
      · rintro ls ac w' hr ⟨v9, v10, v11, v12, v13, v14, v15, v16, v17, rfl, hl, hB, zg0, zg1, zg2, zg3, zg4, zg5, zg6, zg7, zh1, zk1⟩
        have zd2 : ls.getD 2 false = true := (ready_dep hr rfl).2 ⟨2, .data⟩ (by simp) rfl
        obtain rfl := zg2 zd2
        have a0 := (hB.cell (ltc a0')).trans a0'
        have a1 := (hB.cell (ltc a1')).trans a1'
        have a2 := (hB.cell (ltc a2')).trans a2'
        refine wpOp_step rfl (fun K hK => ?_)
        clear hr
        go_simp
        refine hK _ _ ?_
        simp only [getD_own (l := ls) (i := 3) (by omega), getD_set ls (i := 3) (j := 0) (by decide), getD_set ls (i := 3) (j := 1) (by decide), getD_set ls (i := 3) (j := 2) (by decide), getD_set ls (i := 3) (j := 4) (by decide), getD_set ls (i := 3) (j := 5) (by decide), getD_set ls (i := 3) (j := 6) (by decide), getD_set ls (i := 3) (j := 7) (by decide), getD_set ls (i := 3) (j := 8) (by decide), getD_set ls (i := 3) (j := 9) (by decide)]
        exact ⟨v9, v10, v11, _, _, v14, v15, v16, v17, rfl, by simp [hl], hB, zg0, zg1, fun _ => rfl, fun _ => rfl, zg4, zg5, zg6, zg7, zh1, zk1⟩
      · rintro ls ac w' hr ⟨v9, v10, v11, v12, v13, v14, v15, v16, v17, rfl, hl, hB, zg0, zg1, zg2, zg3, zg4, zg5, zg6, zg7, zh1, zk1⟩
        refine wpOp_step rfl (fun K hK => ?_)
        clear hr
        go_simp
        refine hK _ _ ?_
        simp only [getD_own (l := ls) (i := 4) (by omega), getD_set ls (i := 4) (j := 0) (by decide), getD_set ls (i := 4) (j := 1) (by decide), getD_set ls (i := 4) (j := 2) (by decide), getD_set ls (i := 4) (j := 3) (by decide), getD_set ls (i := 4) (j := 5) (by decide), getD_set ls (i := 4) (j := 6) (by decide), getD_set ls (i := 4) (j := 7) (by decide), getD_set ls (i := 4) (j := 8) (by decide), getD_set ls (i := 4) (j := 9) (by decide)]
        exact ⟨v9, v10, v11, v12, v13, _, v15, v16, v17, rfl, by simp [hl], hB, zg0, zg1, zg2, zg3, fun _ => rfl, zg5, zg6, zg7, zh1, zk1⟩
      · rintro ls ac w' hr ⟨v9, v10, v11, v12, v13, v14, v15, v16, v17, rfl, hl, hB, zg0, zg1, zg2, zg3, zg4, zg5, zg6, zg7, zh1, zk1⟩
        have zd4 : ls.getD 4 false = true := (ready_dep hr rfl).2 ⟨4, .data⟩ (by simp) rfl
        obtain rfl := zg4 zd4
        have a0 := (hB.cell (ltc a0')).trans a0'
        have a1 := (hB.cell (ltc a1')).trans a1'
        have a2 := (hB.cell (ltc a2')).trans a2'
        refine wpOp_step rfl (fun K hK => ?_)
        clear hr
        go_simp
        refine hK _ _ ?_
        simp only [getD_own (l := ls) (i := 5) (by omega), getD_set ls (i := 5) (j := 0) (by decide), getD_set ls (i := 5) (j := 1) (by decide), getD_set ls (i := 5) (j := 2) (by decide), getD_set ls (i := 5) (j := 3) (by decide), getD_set ls (i := 5) (j := 4) (by decide), getD_set ls (i := 5) (j := 6) (by decide), getD_set ls (i := 5) (j := 7) (by decide), getD_set ls (i := 5) (j := 8) (by decide), getD_set ls (i := 5) (j := 9) (by decide)]
        exact ⟨v9, v10, v11, v12, v13, _, _, v16, v17, rfl, by simp [hl], hB, zg0, zg1, zg2, zg3, fun _ => rfl, fun _ => rfl, zg6, zg7, zh1, zk1⟩
      · rintro ls ac w' hr ⟨v9, v10, v11, v12, v13, v14, v15, v16, v17, rfl, hl, hB, zg0, zg1, zg2, zg3, zg4, zg5, zg6, zg7, zh1, zk1⟩
        have zd3 : ls.getD 3 false = true := (ready_dep hr rfl).2 ⟨3, .data⟩ (by simp) rfl
        have zd5 : ls.getD 5 false = true := (ready_dep hr rfl).2 ⟨5, .data⟩ (by simp) rfl
        obtain rfl := zg3 zd3
        obtain rfl := zg5 zd5
        refine wpOp_step rfl (fun K hK => ?_)
        clear hr
        go_simp
        refine (Of_is _ _ _ _ _ Ho _).mono ?_
        rintro e w1 ⟨rfl, hk⟩
        dsimp only
        refine hK _ _ ?_
        simp only [getD_own (l := ls) (i := 6) (by omega), getD_set ls (i := 6) (j := 0) (by decide), getD_set ls (i := 6) (j := 1) (by decide), getD_set ls (i := 6) (j := 2) (by decide), getD_set ls (i := 6) (j := 3) (by decide), getD_set ls (i := 6) (j := 4) (by decide), getD_set ls (i := 6) (j := 5) (by decide), getD_set ls (i := 6) (j := 7) (by decide), getD_set ls (i := 6) (j := 8) (by decide), getD_set ls (i := 6) (j := 9) (by decide)]
        exact ⟨v9, v10, v11, v12, _, v14, _, _, v17, rfl, by simp [hl], bstep hB hk, zg0, zg1, zg2, fun _ => rfl, zg4, fun _ => rfl, fun _ => rfl, zg7, fun h => (by obtain ⟨b, e1, e2, e4, e5⟩ := zh1 h; exact ⟨b, e1, e2, fun h => (e4 h).keep hk, fun h => (e5 h).keep hk⟩), zk1⟩
      · rintro ls ac w' hr ⟨v9, v10, v11, v12, v13, v14, v15, v16, v17, rfl, hl, hB, zg0, zg1, zg2, zg3, zg4, zg5, zg6, zg7, zh1, zk1⟩
        have zd1 : ls.getD 1 false = true := (ready_dep hr rfl).2 ⟨1, .data⟩ (by simp) rfl
        have zd6 : ls.getD 6 false = true := (ready_dep hr rfl).2 ⟨6, .data⟩ (by simp) rfl
        obtain rfl := zg1 zd1
        obtain rfl := zg6 zd6
        refine wpOp_step rfl (fun K hK => ?_)
        clear hr
        go_simp
        refine (SpAdd_is _ _ _ _ _ _ _ _ _ Hk _).mono ?_
        rintro e w1 ⟨rfl, hk⟩
        dsimp only
        refine hK _ _ ?_
        simp only [getD_own (l := ls) (i := 7) (by omega), getD_set ls (i := 7) (j := 0) (by decide), getD_set ls (i := 7) (j := 1) (by decide), getD_set ls (i := 7) (j := 2) (by decide), getD_set ls (i := 7) (j := 3) (by decide), getD_set ls (i := 7) (j := 4) (by decide), getD_set ls (i := 7) (j := 5) (by decide), getD_set ls (i := 7) (j := 6) (by decide), getD_set ls (i := 7) (j := 8) (by decide), getD_set ls (i := 7) (j := 9) (by decide)]
        exact ⟨v9, v10, _, v12, v13, v14, v15, _, _, rfl, by simp [hl], bstep hB hk, zg0, fun _ => rfl, zg2, zg3, zg4, zg5, fun _ => rfl, fun _ => rfl, fun h => (by obtain ⟨b, e1, e2, e4, e5⟩ := zh1 h; exact ⟨b, e1, e2, fun h => (e4 h).keep hk, fun h => (e5 h).keep hk⟩), zk1⟩
      · rintro ls ac w' hr ⟨v9, v10, v11, v12, v13, v14, v15, v16, v17, rfl, hl, hB, zg0, zg1, zg2, zg3, zg4, zg5, zg6, zg7, zh1, zk1⟩
        have hz := hB.size
        have hn := (ready_dep hr rfl).1
        have hna : ls.getD 8 false = false := by cases hc : ls.getD 8 false with | false => rfl | true => (exfalso; have hs4 := getD_both hc; rw [hs4] at hn; cases hn)
        have hus : ls.getD 9 false = false := by cases hc : ls.getD 9 false with | false => rfl | true => (rw [zk1 hc] at hna; cases hna)
        refine wpOp_step rfl (fun K hK => ?_)
        clear hr
        go_simp
        refine hK _ _ ?_
        simp only [getD_own (l := ls) (i := 8) (by omega), getD_set ls (i := 8) (j := 0) (by decide), getD_set ls (i := 8) (j := 1) (by decide), getD_set ls (i := 8) (j := 2) (by decide), getD_set ls (i := 8) (j := 3) (by decide), getD_set ls (i := 8) (j := 4) (by decide), getD_set ls (i := 8) (j := 5) (by decide), getD_set ls (i := 8) (j := 6) (by decide), getD_set ls (i := 8) (j := 7) (by decide), getD_set ls (i := 8) (j := 9) (by decide)]
        exact ⟨_, v10, v11, v12, v13, v14, v15, v16, v17, rfl, by simp [hl], balloc hB _, zg0, zg1, zg2, zg3, zg4, zg5, zg6, zg7, fun _ => ⟨_, rfl, hz, fun _ => SpanAt.new rfl, fun h => (by rw [hus] at h; cases h)⟩, fun _ => (by first | rfl | trivial)⟩
      · rintro ls ac w' hr ⟨v9, v10, v11, v12, v13, v14, v15, v16, v17, rfl, hl, hB, zg0, zg1, zg2, zg3, zg4, zg5, zg6, zg7, zh1, zk1⟩
        have zd8 : ls.getD 8 false = true := (ready_dep hr rfl).2 ⟨8, .data⟩ (by simp) rfl
        have zd7 : ls.getD 7 false = true := (ready_dep hr rfl).2 ⟨7, .data⟩ (by simp) rfl
        obtain rfl := zg7 zd7
        have hn := (ready_dep hr rfl).1
        have hns : ls.getD 9 false = false := by cases hc : ls.getD 9 false with | false => rfl | true => (exfalso; have hs4 := getD_both hc; rw [hs4] at hn; cases hn)
        obtain ⟨b, rfl, hub, e4, _⟩ := zh1 zd8
        have hS := e4 hns
        have hT := span_sets (x := k1) (y := k2) (z := k3) hS
        have zs0 := (hS).1.1
        have zs1 := (hS).2.1.1
        have zs2 := (hS).2.2.1
        have zs3 := (hS).1.2
        have zs4 := (hS).2.1.2
        have zs5 := (hS).2.2.2
        refine wpOp_step rfl (fun K hK => ?_)
        clear hr
        clear hS e4
        go_simp
        refine hK _ _ ?_
        simp only [getD_own (l := ls) (i := 9) (by omega), getD_set ls (i := 9) (j := 0) (by decide), getD_set ls (i := 9) (j := 1) (by decide), getD_set ls (i := 9) (j := 2) (by decide), getD_set ls (i := 9) (j := 3) (by decide), getD_set ls (i := 9) (j := 4) (by decide), getD_set ls (i := 9) (j := 5) (by decide), getD_set ls (i := 9) (j := 6) (by decide), getD_set ls (i := 9) (j := 7) (by decide), getD_set ls (i := 9) (j := 8) (by decide)]
        exact ⟨_, v10, v11, v12, v13, v14, v15, v16, _, rfl, by simp [hl], hB.trans (hT.2.2 _ hub), zg0, zg1, zg2, zg3, zg4, zg5, zg6, fun _ => rfl, fun _ => ⟨b, rfl, hub, fun h => (by cases h), fun _ => hT.1⟩, fun _ => zd8⟩
    · rintro ls ac w' ⟨v9, v10, v11, v12, v13, v14, v15, v16, v17, rfl, hl, hB, zg0, zg1, zg2, zg3, zg4, zg5, zg6, zg7, zh1, zk1⟩ hr
      have hall := ready_allb (by decide) hl hr
      obtain ⟨b1, rfl, hub1, _, f1⟩ := zh1 (hall 8 (by decide))
      have F1 := f1 (hall 9 (by decide))
      go_wp2_with fail
      go_meet
      exact ⟨b1, rfl, Lib.hid (hb.trans (hB.mono hb.size)), Lib.hid ⟨A0.keep hB, A1.keep hB, A2.keep hB⟩, Lib.hid ⟨B0.keep hB, B1.keep hB, B2.keep hB⟩, Lib.hid F1⟩
  case rest =>
    obtain ⟨bk, rfl, HB, HP, HR, HK⟩ := hcut
    have hwc := HB.out
    have hR := HR.out
    have a0' := HP.out.1.1
    have k0' := HK.out.1.1
    have a1' := HP.out.2.1.1
    have k1' := HK.out.2.1.1
    have a2' := HP.out.2.2.1
    have k2' := HK.out.2.2.1
    clear HB HP HR HK
    have hsz := ltc hR.1.1
    dsimp only at hsz
    go_wp2_with fail
    refine wp_region_inv (by kernel_rfl) (fun ls ac w' => ∃ v18 v19 v20 v21 v22 v23 v24 v25 v26, ac = ⟨#[.agg #[.int .i64 mn, .int .i64 mx, .int .i64 g], .int .i64 t, .int .i64 c, .int .i64 u, .pointer (some ⟨w.heap.size, 0, none⟩), undef, undef, undef, .pointer (some ⟨w.heap.size + 1, 0, none⟩), .pointer (some ⟨bk, 0, none⟩), u10, u11, u12, u13, u14, u15, u16, u17, v18, v19, v20, v21, v22, v23, v24, v25, v26], []⟩ ∧ ls.size = 10 ∧ (ls.getD 9 false = false → Below wc.heap.size wc w') ∧ (ls.getD 0 false = true → v18 = .agg #[.int .i64 mn, .int .i64 mx, .int .i64 g]) ∧ (ls.getD 1 false = true → ls.getD 9 false = false → IsWider w' v19 mn mx g 2) ∧ (ls.getD 2 false = true → v20 = .agg #[.int .i64 k1, .int .i64 k2, .bool k3]) ∧ (ls.getD 3 false = true → v21 = .agg #[.int .i64 d1, .int .i64 d2, .bool d3]) ∧ (ls.getD 4 false = true → v22 = .int .i64 t) ∧ (ls.getD 5 false = true → v23 = .agg #[.int .i64 s1, .int .i64 s2, .bool s3]) ∧ (ls.getD 6 false = true → v24 = .int .i64 u) ∧ (ls.getD 7 false = true → v25 = .agg #[.int .i64 a1, .int .i64 a2, .bool a3]) ∧ (ls.getD 8 false = true → v26 = .agg #[.int .i64 x1, .int .i64 x2, .bool x3]) ∧ (ls.getD 1 false = true → ls.getD 0 false = true ∧ True) ∧ (ls.getD 3 false = true → ls.getD 1 false = true ∧ ls.getD 2 false = true ∧ True) ∧ (ls.getD 5 false = true → ls.getD 3 false = true ∧ ls.getD 4 false = true ∧ True) ∧ (ls.getD 7 false = true → ls.getD 6 false = true ∧ True) ∧ (ls.getD 8 false = true → ls.getD 5 false = true ∧ ls.getD 7 false = true ∧ True) ∧ (ls.getD 9 false = true → Below w.heap.size wc w' ∧ SpanAt w' (w.heap.size + 1) x1 x2 x3) ∧ (ls.getD 9 false = true → ∀ i, i < 10 → ls.getD i false = true)) ?_ ?_ ?_
    · exact ⟨_, _, _, _, _, _, _, _, _, rfl, rfl, fun _ => bdrew (brefl _), fun h => (by cases h), fun h => (by cases h), fun h => (by cases h), fun h => (by cases h), fun h => (by cases h), fun h => (by cases h), fun h => (by cases h), fun h => (by cases h), fun h => (by cases h), fun h => (by cases h), fun h => (by cases h), fun h => (by cases h), fun h => (by cases h), fun h => (by cases h), fun h => (by cases h), fun h => (by cases h)⟩
    · intro i hii
      have hin : i < 10 := hii
      have hor : i = 0 ∨ i = 1 ∨ i = 2 ∨ i = 3 ∨ i = 4 ∨ i = 5 ∨ i = 6 ∨ i = 7 ∨ i = 8 ∨ i = 9 := by omega
      rcases hor with rfl | rfl | rfl | rfl | rfl | rfl | rfl | rfl | rfl | rfl
      · rintro ls ac w' hr ⟨v18, v19, v20, v21, v22, v23, v24, v25, v26, rfl, hl, hB', zg0, zg1, zg2, zg3, zg4, zg5, zg6, zg7, zg8, zc1, zc3, zc5, zc7, zc8, hS, hK⟩
        have hs0 : ls.getD 9 false = false := by cases hc : ls.getD 9 false with | false => rfl | true => (exfalso; have hz := hK hc 0 (by decide); have hn := (ready_dep hr rfl).1; rw [getD_both hz] at hn; cases hn)
        have hB := hB' hs0
        have a0 := (hB.cell (ltc a0')).trans a0'
        have a1 := (hB.cell (ltc a1')).trans a1'
        have a2 := (hB.cell (ltc a2')).trans a2'
        have a3 := (hB.cell (ltc k0')).trans k0'
        have a4 := (hB.cell (ltc k1')).trans k1'
        have a5 := (hB.cell (ltc k2')).trans k2'
        refine wpOp_step rfl (fun K hK => ?_)
        clear hr
        go_simp
        refine hK _ _ ?_
        simp only [getD_own (l := ls) (i := 0) (by omega), getD_set ls (i := 0) (j := 1) (by decide), getD_set ls (i := 0) (j := 2) (by decide), getD_set ls (i := 0) (j := 3) (by decide), getD_set ls (i := 0) (j := 4) (by decide), getD_set ls (i := 0) (j := 5) (by decide), getD_set ls (i := 0) (j := 6) (by decide), getD_set ls (i := 0) (j := 7) (by decide), getD_set ls (i := 0) (j := 8) (by decide), getD_set ls (i := 0) (j := 9) (by decide)]
        exact ⟨_, v19, v20, v21, v22, v23, v24, v25, v26, rfl, by simp [hl], fun _ => hB, fun _ => rfl, zg1, zg2, zg3, zg4, zg5, zg6, zg7, zg8, fun h => ⟨(by first | rfl | trivial), trivial⟩, zc3, zc5, zc7, zc8, fun h => (by rw [hs0] at h; cases h), fun h => (by rw [hs0] at h; cases h)⟩
      · rintro ls ac w' hr ⟨v18, v19, v20, v21, v22, v23, v24, v25, v26, rfl, hl, hB', zg0, zg1, zg2, zg3, zg4, zg5, zg6, zg7, zg8, zc1, zc3, zc5, zc7, zc8, hS, hK⟩
        have zd0 : ls.getD 0 false = true := (ready_dep hr rfl).2 ⟨0, .data⟩ (by simp) rfl
        have hs0 : ls.getD 9 false = false := by cases hc : ls.getD 9 false with | false => rfl | true => (exfalso; have hz := hK hc 1 (by decide); have hn := (ready_dep hr rfl).1; rw [getD_both hz] at hn; cases hn)
        have hB := hB' hs0
        obtain rfl := zg0 zd0
        refine wpOp_step rfl (fun K hK => ?_)
        clear hr
        go_simp
        refine (wider_is _ _ _ _ _).mono ?_
        rintro e w1 ⟨v, rfl, hk, hp⟩
        dsimp only
        refine hK _ _ ?_
        simp only [getD_own (l := ls) (i := 1) (by omega), getD_set ls (i := 1) (j := 0) (by decide), getD_set ls (i := 1) (j := 2) (by decide), getD_set ls (i := 1) (j := 3) (by decide), getD_set ls (i := 1) (j := 4) (by decide), getD_set ls (i := 1) (j := 5) (by decide), getD_set ls (i := 1) (j := 6) (by decide), getD_set ls (i := 1) (j := 7) (by decide), getD_set ls (i := 1) (j := 8) (by decide), getD_set ls (i := 1) (j := 9) (by decide)]
        exact ⟨_, _, v20, v21, v22, v23, v24, v25, v26, rfl, by simp [hl], fun _ => bstep hB hk, fun _ => rfl, fun _ _ => hp, zg2, zg3, zg4, zg5, zg6, zg7, zg8, fun _ => ⟨zd0, trivial⟩, fun h => ⟨(by first | rfl | trivial), (zc3 h).2.1, trivial⟩, zc5, zc7, zc8, fun h => (by rw [hs0] at h; cases h), fun h => (by rw [hs0] at h; cases h)⟩
      · rintro ls ac w' hr ⟨v18, v19, v20, v21, v22, v23, v24, v25, v26, rfl, hl, hB', zg0, zg1, zg2, zg3, zg4, zg5, zg6, zg7, zg8, zc1, zc3, zc5, zc7, zc8, hS, hK⟩
        have hs0 : ls.getD 9 false = false := by cases hc : ls.getD 9 false with | false => rfl | true => (exfalso; have hz := hK hc 2 (by decide); have hn := (ready_dep hr rfl).1; rw [getD_both hz] at hn; cases hn)
        have hB := hB' hs0
        have a0 := (hB.cell (ltc a0')).trans a0'
        have a1 := (hB.cell (ltc a1')).trans a1'
        have a2 := (hB.cell (ltc a2')).trans a2'
        have a3 := (hB.cell (ltc k0')).trans k0'
        have a4 := (hB.cell (ltc k1')).trans k1'
        have a5 := (hB.cell (ltc k2')).trans k2'
        refine wpOp_step rfl (fun K hK => ?_)
        clear hr
        go_simp
        refine hK _ _ ?_
        simp only [getD_own (l := ls) (i := 2) (by omega), getD_set ls (i := 2) (j := 0) (by decide), getD_set ls (i := 2) (j := 1) (by decide), getD_set ls (i := 2) (j := 3) (by decide), getD_set ls (i := 2) (j := 4) (by decide), getD_set ls (i := 2) (j := 5) (by decide), getD_set ls (i := 2) (j := 6) (by decide), getD_set ls (i := 2) (j := 7) (by decide), getD_set ls (i := 2) (j := 8) (by decide), getD_set ls (i := 2) (j := 9) (by decide)]
        exact ⟨v18, v19, _, v21, v22, v23, v24, v25, v26, rfl, by simp [hl], fun _ => hB, zg0, zg1, fun _ => rfl, zg3, zg4, zg5, zg6, zg7, zg8, zc1, fun h => ⟨(zc3 h).1, (by first | rfl | trivial), trivial⟩, zc5, zc7, zc8, fun h => (by rw [hs0] at h; cases h), fun h => (by rw [hs0] at h; cases h)⟩
      · rintro ls ac w' hr ⟨v18, v19, v20, v21, v22, v23, v24, v25, v26, rfl, hl, hB', zg0, zg1, zg2, zg3, zg4, zg5, zg6, zg7, zg8, zc1, zc3, zc5, zc7, zc8, hS, hK⟩
        have zd1 : ls.getD 1 false = true := (ready_dep hr rfl).2 ⟨1, .data⟩ (by simp) rfl
        have zd2 : ls.getD 2 false = true := (ready_dep hr rfl).2 ⟨2, .data⟩ (by simp) rfl
        have zd0 := (zc1 zd1).1
        have hs0 : ls.getD 9 false = false := by cases hc : ls.getD 9 false with | false => rfl | true => (exfalso; have hz := hK hc 3 (by decide); have hn := (ready_dep hr rfl).1; rw [getD_both hz] at hn; cases hn)
        have hB := hB' hs0
        obtain ⟨bp, bt, rfl, W1, W2, W3, W4⟩ := zg1 zd1 hs0
        have w1' := W1.1
        have w2' := W2.1
        have w3' := W3.1
        have w4' := W4.1
        obtain rfl := zg2 zd2
        obtain rfl := zg0 zd0
        refine wpOp_step rfl (fun K hK => ?_)
        clear hr
        go_simp
        refine (wider1_is _ _ _ _ _ _ _ _ _ _ (by decide) (by decide) Hd _ _ _ W1 W2 W3 W4).mono ?_
        rintro e w1 ⟨rfl, hk⟩
        dsimp only
        refine hK _ _ ?_
        simp only [getD_own (l := ls) (i := 3) (by omega), getD_set ls (i := 3) (j := 0) (by decide), getD_set ls (i := 3) (j := 1) (by decide), getD_set ls (i := 3) (j := 2) (by decide), getD_set ls (i := 3) (j := 4) (by decide), getD_set ls (i := 3) (j := 5) (by decide), getD_set ls (i := 3) (j := 6) (by decide), getD_set ls (i := 3) (j := 7) (by decide), getD_set ls (i := 3) (j := 8) (by decide), getD_set ls (i := 3) (j := 9) (by decide)]
        exact ⟨_, _, _, _, v22, v23, v24, v25, v26, rfl, by simp [hl], fun _ => bstep hB hk, fun _ => rfl, fun _ _ => ⟨bp, bt, rfl, W1.keep hk, W2.keep hk, W3.keep hk, W4.keep hk⟩, fun _ => rfl, fun _ => rfl, zg4, zg5, zg6, zg7, zg8, zc1, fun _ => ⟨zd1, zd2, trivial⟩, fun h => ⟨(by first | rfl | trivial), (zc5 h).2.1, trivial⟩, zc7, zc8, fun h => (by rw [hs0] at h; cases h), fun h => (by rw [hs0] at h; cases h)⟩
      · rintro ls ac w' hr ⟨v18, v19, v20, v21, v22, v23, v24, v25, v26, rfl, hl, hB', zg0, zg1, zg2, zg3, zg4, zg5, zg6, zg7, zg8, zc1, zc3, zc5, zc7, zc8, hS, hK⟩
        have hs0 : ls.getD 9 false = false := by cases hc : ls.getD 9 false with | false => rfl | true => (exfalso; have hz := hK hc 4 (by decide); have hn := (ready_dep hr rfl).1; rw [getD_both hz] at hn; cases hn)
        have hB := hB' hs0
        refine wpOp_step rfl (fun K hK => ?_)
        clear hr
        go_simp
        refine hK _ _ ?_
        simp only [getD_own (l := ls) (i := 4) (by omega), getD_set ls (i := 4) (j := 0) (by decide), getD_set ls (i := 4) (j := 1) (by decide), getD_set ls (i := 4) (j := 2) (by decide), getD_set ls (i := 4) (j := 3) (by decide), getD_set ls (i := 4) (j := 5) (by decide), getD_set ls (i := 4) (j := 6) (by decide), getD_set ls (i := 4) (j := 7) (by decide), getD_set ls (i := 4) (j := 8) (by decide), getD_set ls (i := 4) (j := 9) (by decide)]
        exact ⟨v18, v19, v20, v21, _, v23, v24, v25, v26, rfl, by simp [hl], fun _ => hB, zg0, zg1, zg2, zg3, fun _ => rfl, zg5, zg6, zg7, zg8, zc1, zc3, fun h => ⟨(zc5 h).1, (by first | rfl | trivial), trivial⟩, zc7, zc8, fun h => (by rw [hs0] at h; cases h), fun h => (by rw [hs0] at h; cases h)⟩
      · rintro ls ac w' hr ⟨v18, v19, v20, v21, v22, v23, v24, v25, v26, rfl, hl, hB', zg0, zg1, zg2, zg3, zg4, zg5, zg6, zg7, zg8, zc1, zc3, zc5, zc7, zc8, hS, hK⟩
        have zd3 : ls.getD 3 false = true := (ready_dep hr rfl).2 ⟨3, .data⟩ (by simp) rfl
        have zd4 : ls.getD 4 false = true := (ready_dep hr rfl).2 ⟨4, .data⟩ (by simp) rfl
        have zd1 := (zc3 zd3).1
        have zd2 := (zc3 zd3).2.1
        have zd0 := (zc1 zd1).1
        have hs0 : ls.getD 9 false = false := by cases hc : ls.getD 9 false with | false => rfl | true => (exfalso; have hz := hK hc 5 (by decide); have hn := (ready_dep hr rfl).1; rw [getD_both hz] at hn; cases hn)
        have hB := hB' hs0
        obtain rfl := zg3 zd3
        obtain rfl := zg4 zd4
        obtain rfl := zg2 zd2
        obtain rfl := zg0 zd0
        refine wpOp_step rfl (fun K hK => ?_)
        clear hr
        go_simp
        refine (Shift_is _ _ _ _ _ _ _ Hs _).mono ?_
        rintro e w1 ⟨rfl, hk⟩
        dsimp only
        refine hK _ _ ?_
        simp only [getD_own (l := ls) (i := 5) (by omega), getD_set ls (i := 5) (j := 0) (by decide), getD_set ls (i := 5) (j := 1) (by decide), getD_set ls (i := 5) (j := 2) (by decide), getD_set ls (i := 5) (j := 3) (by decide), getD_set ls (i := 5) (j := 4) (by decide), getD_set ls (i := 5) (j := 6) (by decide), getD_set ls (i := 5) (j := 7) (by decide), getD_set ls (i := 5) (j := 8) (by decide), getD_set ls (i := 5) (j := 9) (by decide)]
        exact ⟨_, v19, _, _, _, _, v24, v25, v26, rfl, by simp [hl], fun _ => bstep hB hk, fun _ => rfl, fun h h2 => (zg1 h h2).keep hk, fun _ => rfl, fun _ => rfl, fun _ => rfl, fun _ => rfl, zg6, zg7, zg8, zc1, zc3, fun _ => ⟨zd3, zd4, trivial⟩, zc7, fun h => ⟨(by first | rfl | trivial), (zc8 h).2.1, trivial⟩, fun h => (by rw [hs0] at h; cases h), fun h => (by rw [hs0] at h; cases h)⟩
      · rintro ls ac w' hr ⟨v18, v19, v20, v21, v22, v23, v24, v25, v26, rfl, hl, hB', zg0, zg1, zg2, zg3, zg4, zg5, zg6, zg7, zg8, zc1, zc3, zc5, zc7, zc8, hS, hK⟩
        have hs0 : ls.getD 9 false = false := by cases hc : ls.getD 9 false with | false => rfl | true => (exfalso; have hz := hK hc 6 (by decide); have hn := (ready_dep hr rfl).1; rw [getD_both hz] at hn; cases hn)
        have hB := hB' hs0
        refine wpOp_step rfl (fun K hK => ?_)
        clear hr
        go_simp
        refine hK _ _ ?_
        simp only [getD_own (l := ls) (i := 6) (by omega), getD_set ls (i := 6) (j := 0) (by decide), getD_set ls (i := 6) (j := 1) (by decide), getD_set ls (i := 6) (j := 2) (by decide), getD_set ls (i := 6) (j := 3) (by decide), getD_set ls (i := 6) (j := 4) (by decide), getD_set ls (i := 6) (j := 5) (by decide), getD_set ls (i := 6) (j := 7) (by decide), getD_set ls (i := 6) (j := 8) (by decide), getD_set ls (i := 6) (j := 9) (by decide)]
        exact ⟨v18, v19, v20, v21, v22, v23, _, v25, v26, rfl, by simp [hl], fun _ => hB, zg0, zg1, zg2, zg3, zg4, zg5, fun _ => rfl, zg7, zg8, zc1, zc3, zc5, fun h => ⟨(by first | rfl | trivial), trivial⟩, zc8, fun h => (by rw [hs0] at h; cases h), fun h => (by rw [hs0] at h; cases h)⟩
      · rintro ls ac w' hr ⟨v18, v19, v20, v21, v22, v23, v24, v25, v26, rfl, hl, hB', zg0, zg1, zg2, zg3, zg4, zg5, zg6, zg7, zg8, zc1, zc3, zc5, zc7, zc8, hS, hK⟩
        have zd6 : ls.getD 6 false = true := (ready_dep hr rfl).2 ⟨6, .data⟩ (by simp) rfl
        have hs0 : ls.getD 9 false = false := by cases hc : ls.getD 9 false with | false => rfl | true => (exfalso; have hz := hK hc 7 (by decide); have hn := (ready_dep hr rfl).1; rw [getD_both hz] at hn; cases hn)
        have hB := hB' hs0
        obtain rfl := zg6 zd6
        refine wpOp_step rfl (fun K hK => ?_)
        clear hr
        go_simp
        refine (alone_is _ _ _ _ Ha _).mono ?_
        rintro e w1 ⟨rfl, hk⟩
        dsimp only
        refine hK _ _ ?_
        simp only [getD_own (l := ls) (i := 7) (by omega), getD_set ls (i := 7) (j := 0) (by decide), getD_set ls (i := 7) (j := 1) (by decide), getD_set ls (i := 7) (j := 2) (by decide), getD_set ls (i := 7) (j := 3) (by decide), getD_set ls (i := 7) (j := 4) (by decide), getD_set ls (i := 7) (j := 5) (by decide), getD_set ls (i := 7) (j := 6) (by decide), getD_set ls (i := 7) (j := 8) (by decide), getD_set ls (i := 7) (j := 9) (by decide)]
        exact ⟨v18, v19, v20, v21, v22, v23, _, _, v26, rfl, by simp [hl], fun _ => bstep hB hk, zg0, fun h h2 => (zg1 h h2).keep hk, zg2, zg3, zg4, zg5, fun _ => rfl, fun _ => rfl, zg8, zc1, zc3, zc5, fun _ => ⟨zd6, trivial⟩, fun h => ⟨(zc8 h).1, (by first | rfl | trivial), trivial⟩, fun h => (by rw [hs0] at h; cases h), fun h => (by rw [hs0] at h; cases h)⟩
      · rintro ls ac w' hr ⟨v18, v19, v20, v21, v22, v23, v24, v25, v26, rfl, hl, hB', zg0, zg1, zg2, zg3, zg4, zg5, zg6, zg7, zg8, zc1, zc3, zc5, zc7, zc8, hS, hK⟩
        have zd5 : ls.getD 5 false = true := (ready_dep hr rfl).2 ⟨5, .data⟩ (by simp) rfl
        have zd7 : ls.getD 7 false = true := (ready_dep hr rfl).2 ⟨7, .data⟩ (by simp) rfl
        have zd3 := (zc5 zd5).1
        have zd4 := (zc5 zd5).2.1
        have zd6 := (zc7 zd7).1
        have zd1 := (zc3 zd3).1
        have zd2 := (zc3 zd3).2.1
        have zd0 := (zc1 zd1).1
        have hs0 : ls.getD 9 false = false := by cases hc : ls.getD 9 false with | false => rfl | true => (exfalso; have hz := hK hc 8 (by decide); have hn := (ready_dep hr rfl).1; rw [getD_both hz] at hn; cases hn)
        have hB := hB' hs0
        obtain rfl := zg5 zd5
        obtain rfl := zg7 zd7
        obtain rfl := zg3 zd3
        obtain rfl := zg4 zd4
        obtain rfl := zg6 zd6
        obtain rfl := zg2 zd2
        obtain rfl := zg0 zd0
        refine wpOp_step rfl (fun K hK => ?_)
        clear hr
        go_simp
        refine (SpSub_is _ _ _ _ _ _ _ _ _ HX _).mono ?_
        rintro e w1 ⟨rfl, hk⟩
        dsimp only
        refine hK _ _ ?_
        simp only [getD_own (l := ls) (i := 8) (by omega), getD_set ls (i := 8) (j := 0) (by decide), getD_set ls (i := 8) (j := 1) (by decide), getD_set ls (i := 8) (j := 2) (by decide), getD_set ls (i := 8) (j := 3) (by decide), getD_set ls (i := 8) (j := 4) (by decide), getD_set ls (i := 8) (j := 5) (by decide), getD_set ls (i := 8) (j := 6) (by decide), getD_set ls (i := 8) (j := 7) (by decide), getD_set ls (i := 8) (j := 9) (by decide)]
        exact ⟨_, v19, _, _, _, _, _, _, _, rfl, by simp [hl], fun _ => bstep hB hk, fun _ => rfl, fun h h2 => (zg1 h h2).keep hk, fun _ => rfl, fun _ => rfl, fun _ => rfl, fun _ => rfl, fun _ => rfl, fun _ => rfl, fun _ => rfl, zc1, zc3, zc5, zc7, fun _ => ⟨zd5, zd7, trivial⟩, fun h => (by rw [hs0] at h; cases h), fun h => (by rw [hs0] at h; cases h)⟩
      · rintro ls ac w' hr ⟨v18, v19, v20, v21, v22, v23, v24, v25, v26, rfl, hl, hB', zg0, zg1, zg2, zg3, zg4, zg5, zg6, zg7, zg8, zc1, zc3, zc5, zc7, zc8, hS, hK⟩
        have zd8 : ls.getD 8 false = true := (ready_dep hr rfl).2 ⟨8, .data⟩ (by simp) rfl
        have zd5 := (zc8 zd8).1
        have zd7 := (zc8 zd8).2.1
        have zd3 := (zc5 zd5).1
        have zd4 := (zc5 zd5).2.1
        have zd6 := (zc7 zd7).1
        have zd1 := (zc3 zd3).1
        have zd2 := (zc3 zd3).2.1
        have zd0 := (zc1 zd1).1
        obtain rfl := zg8 zd8
        obtain rfl := zg5 zd5
        obtain rfl := zg7 zd7
        obtain rfl := zg3 zd3
        obtain rfl := zg4 zd4
        obtain rfl := zg6 zd6
        obtain rfl := zg2 zd2
        obtain rfl := zg0 zd0
        have hns : ls.getD 9 false = false := by cases hc : ls.getD 9 false with | false => rfl | true => (exfalso; have hn := (ready_dep hr rfl).1; rw [getD_both hc] at hn; cases hn)
        have hB := hB' hns
        have hall : ∀ i, i < 10 → (ls.setIfInBounds 9 true).getD i false = true := by intro i hi; have hi' : i = 0 ∨ i = 1 ∨ i = 2 ∨ i = 3 ∨ i = 4 ∨ i = 5 ∨ i = 6 ∨ i = 7 ∨ i = 8 ∨ i = 9 := (by omega); rcases hi' with rfl | rfl | rfl | rfl | rfl | rfl | rfl | rfl | rfl | rfl <;> first | exact getD_own (by omega) | (rw [getD_set ls (by decide)]; assumption)
        have hSp := SpanAt.keep hB hR
        have hT := span_sets (x := x1) (y := x2) (z := x3) hSp
        have zs0 := (hSp).1.1
        have zs1 := (hSp).2.1.1
        have zs2 := (hSp).2.2.1
        have zs3 := (hSp).1.2
        have zs4 := (hSp).2.1.2
        have zs5 := (hSp).2.2.2
        refine wpOp_step rfl (fun K hK' => ?_)
        clear hr
        clear hSp
        go_simp
        refine hK' _ _ ?_
        simp only [getD_own (l := ls) (i := 9) (by omega), getD_set ls (i := 9) (j := 0) (by decide), getD_set ls (i := 9) (j := 1) (by decide), getD_set ls (i := 9) (j := 2) (by decide), getD_set ls (i := 9) (j := 3) (by decide), getD_set ls (i := 9) (j := 4) (by decide), getD_set ls (i := 9) (j := 5) (by decide), getD_set ls (i := 9) (j := 6) (by decide), getD_set ls (i := 9) (j := 7) (by decide), getD_set ls (i := 9) (j := 8) (by decide)]
        exact ⟨_, v19, _, _, _, _, _, _, _, rfl, by simp [hl], fun h => (by cases h), fun _ => rfl, fun _ h => (by cases h), fun _ => rfl, fun _ => rfl, fun _ => rfl, fun _ => rfl, fun _ => rfl, fun _ => rfl, fun _ => rfl, zc1, zc3, zc5, zc7, zc8, fun _ => ⟨(hB.mono hwc.size).trans (hT.2.2 _ (Nat.le_succ _)), hT.1⟩, fun _ => hall⟩
    · rintro ls ac w' ⟨v18, v19, v20, v21, v22, v23, v24, v25, v26, rfl, hl, hB', zg0, zg1, zg2, zg3, zg4, zg5, zg6, zg7, zg8, zc1, zc3, zc5, zc7, zc8, hS, hK⟩ hr
      have hall := ready_allb (by decide) hl hr
      have hSx := hS (hall 9 (by decide))
      have x0' := hSx.2.1.1
      have x1' := hSx.2.2.1.1
      have x2' := hSx.2.2.2.1
      go_wp2
      exact bodyPost_ret (v := .agg #[.int .i64 x1, .int .i64 x2, .bool x3]) (by simp [results, Try.results17, go_sem, x0', x1', x2']) rfl ⟨rfl, hwc.trans hSx.1⟩
end Go.Proofs.Ytigpddhffgoioaa
