/-
  The walk of the law SpanNear.
-/
import Derived.Test.YtldgcigdoncgdaaOwn
import Derived.Test.YtldgcigdoncgdaaInvb
import Derived.BigQuiet
import Derived.Deep.QuietTactic
import Derived.Test.YtldgcigdoncgdaaMsd
import Derived.Test.YtldgcigdoncgdaaSi
namespace Go.Proofs.Ytldgcigdoncgdaa
open Go.RowKit

set_option maxRecDepth 100000 in
set_option maxHeartbeats 4000000 in
theorem SpanNear_walk (lo hi : Int) (k : Bool) (m p q : Int) (w : World) (_ : I64 lo) (_ : I64 hi) (_ : I64 m) (hp : I64 p) (hq : I64 q) :
    Calls Try.prog 5 #[.agg #[.int .i64 lo, .int .i64 hi, .bool k], .int .i64 m, .agg #[.int .i64 p, .int .i64 q]] w fun e w' => e = .returned (.bool true) ∧ Below w.heap.size w w' := by
  go_enter Try.func5, Try.ntmps5
  unfold I64 at hp hq
  go_upto_region 1 with (fail)
  go_cut [7, 8, 9] (fun v7 v8 v9 wc => ∃ bs, v7 = .pointer (some ⟨bs, 0, none⟩) ∧ v8 = .int .i64 p ∧ v9 = .int .i64 q ∧ Hid (Below w.heap.size w wc) ∧ Hid (SpanAt wc bs lo hi k))
  case first =>
    generalize hu : (w.alloc (.cells #[.int .i64 lo, .int .i64 hi, .bool k] 23)).alloc (.cells #[.int .i64 p, .int .i64 q] 47) = u
    obtain ⟨hb, hs, A, B⟩ := two_blocks w u _ _ _ _ hu.symm
    have A0 := (A 0 _ rfl).1
    have A1 := (A 1 _ rfl).1
    have A2 := (A 2 _ rfl).1
    have B0 := (B 0 _ rfl).1
    have B1 := (B 1 _ rfl).1
    clear hu hs A B
    refine wp_region_inv (by kernel_rfl) (fun l a w' => ∃ v7 v8 v9 v15 v16 v17 v18 v19 v20, a = ⟨#[.agg #[.int .i64 lo, .int .i64 hi, .bool k], .int .i64 m, .agg #[.int .i64 p, .int .i64 q], .pointer (some ⟨w.heap.size, 0, none⟩), undef, .pointer (some ⟨w.heap.size + 1, 0, none⟩), .bool false, v7, v8, v9, undef, undef, undef, undef, undef, v15, v16, v17, v18, v19, v20, undef, undef, undef, undef, undef, undef, undef, undef, undef, undef, undef, undef, undef, undef, undef, undef, undef, undef, undef, undef, undef, undef, undef, undef, undef, undef, undef, undef, undef, undef, undef, undef, undef, undef, undef, undef, undef, undef, undef, undef, undef, undef, undef, undef, undef, undef, undef, undef, undef, undef, undef, undef, undef, undef, undef, undef, undef, undef, undef, undef, undef, undef, undef, undef, undef, undef, undef, undef, undef], []⟩ ∧ l.size = 10 ∧ Below u.heap.size u w' ∧ (l.getD 0 false = true → v15 = .agg #[.int .i64 lo, .int .i64 hi, .bool k]) ∧ (l.getD 1 false = true → v16 = .agg #[.int .i64 lo, .int .i64 hi, .bool k]) ∧ (l.getD 2 false = true → v17 = .pointer (some ⟨w.heap.size + 1, 0, none⟩)) ∧ (l.getD 3 false = true → v18 = .int .i64 p) ∧ (l.getD 4 false = true → v19 = .pointer (some ⟨w.heap.size + 1, 1, none⟩)) ∧ (l.getD 5 false = true → v20 = .int .i64 q) ∧ (l.getD 8 false = true → v8 = .int .i64 p) ∧ (l.getD 9 false = true → v9 = .int .i64 q) ∧ (l.getD 6 false = true → ∃ b, v7 = .pointer (some ⟨b, 0, none⟩) ∧ u.heap.size ≤ b ∧ (l.getD 7 false = false → SpanAt w' b 0 0 false) ∧ (l.getD 7 false = true → SpanAt w' b lo hi k)) ∧ (l.getD 7 false = true → l.getD 6 false = true)) ?_ ?_ ?_
    · exact ⟨_, _, _, _, _, _, _, _, _, rfl, rfl, bdrew (brefl _), fun h => (by cases h), fun h => (by cases h), fun h => (by cases h), fun h => (by cases h), fun h => (by cases h), fun h => (by cases h), fun h => (by cases h), fun h => (by cases h), fun h => (by cases h), fun h => (by cases h)⟩
    · intro i hii
      have hin : i < 10 := hii
      have hor : i = 0 ∨ i = 1 ∨ i = 2 ∨ i = 3 ∨ i = 4 ∨ i = 5 ∨ i = 6 ∨ i = 7 ∨ i = 8 ∨ i = 9 := by omega
      rcases hor with rfl | rfl | rfl | rfl | rfl | rfl | rfl | rfl | rfl | rfl
      · rintro l a w' hr ⟨v7, v8, v9, v15, v16, v17, v18, v19, v20, rfl, hl, hB, g0, g1, g2, g3, g4, g5, g8, g9, h1, k1⟩
        have a0 := (hB.cell (ltc A0)).trans A0
        have a1 := (hB.cell (ltc A1)).trans A1
        have a2 := (hB.cell (ltc A2)).trans A2
        have a3 := (hB.cell (ltc B0)).trans B0
        have a4 := (hB.cell (ltc B1)).trans B1
        refine wpOp_step rfl (fun K hK => ?_)
        clear hr
        go_simp
        refine hK _ _ ?_
        simp only [getD_own (l := l) (i := 0) (by omega), getD_set l (i := 0) (j := 1) (by decide), getD_set l (i := 0) (j := 2) (by decide), getD_set l (i := 0) (j := 3) (by decide), getD_set l (i := 0) (j := 4) (by decide), getD_set l (i := 0) (j := 5) (by decide), getD_set l (i := 0) (j := 6) (by decide), getD_set l (i := 0) (j := 7) (by decide), getD_set l (i := 0) (j := 8) (by decide), getD_set l (i := 0) (j := 9) (by decide)]
        exact ⟨v7, v8, v9, _, v16, v17, v18, v19, v20, rfl, by simp [hl], hB, fun _ => rfl, g1, g2, g3, g4, g5, g8, g9, h1, k1⟩
      · rintro l a w' hr ⟨v7, v8, v9, v15, v16, v17, v18, v19, v20, rfl, hl, hB, g0, g1, g2, g3, g4, g5, g8, g9, h1, k1⟩
        have d0 : l.getD 0 false = true := (ready_dep hr rfl).2 ⟨0, .data⟩ (by simp) rfl
        obtain rfl := g0 d0
        refine wpOp_step rfl (fun K hK => ?_)
        clear hr
        go_simp
        refine (own_is lo hi k _).mono ?_
        rintro e w1 ⟨rfl, hk⟩
        dsimp only
        refine hK _ _ ?_
        simp only [getD_own (l := l) (i := 1) (by omega), getD_set l (i := 1) (j := 0) (by decide), getD_set l (i := 1) (j := 2) (by decide), getD_set l (i := 1) (j := 3) (by decide), getD_set l (i := 1) (j := 4) (by decide), getD_set l (i := 1) (j := 5) (by decide), getD_set l (i := 1) (j := 6) (by decide), getD_set l (i := 1) (j := 7) (by decide), getD_set l (i := 1) (j := 8) (by decide), getD_set l (i := 1) (j := 9) (by decide)]
        exact ⟨v7, v8, v9, _, _, v17, v18, v19, v20, rfl, by simp [hl], bstep hB hk, fun _ => rfl, fun _ => rfl, g2, g3, g4, g5, g8, g9, fun h => (by obtain ⟨b, e1, e2, e4, e5⟩ := h1 h; exact ⟨b, e1, e2, fun h => (e4 h).keep hk, fun h => (e5 h).keep hk⟩), k1⟩
      · rintro l a w' hr ⟨v7, v8, v9, v15, v16, v17, v18, v19, v20, rfl, hl, hB, g0, g1, g2, g3, g4, g5, g8, g9, h1, k1⟩
        refine wpOp_step rfl (fun K hK => ?_)
        clear hr
        go_simp
        refine hK _ _ ?_
        simp only [getD_own (l := l) (i := 2) (by omega), getD_set l (i := 2) (j := 0) (by decide), getD_set l (i := 2) (j := 1) (by decide), getD_set l (i := 2) (j := 3) (by decide), getD_set l (i := 2) (j := 4) (by decide), getD_set l (i := 2) (j := 5) (by decide), getD_set l (i := 2) (j := 6) (by decide), getD_set l (i := 2) (j := 7) (by decide), getD_set l (i := 2) (j := 8) (by decide), getD_set l (i := 2) (j := 9) (by decide)]
        exact ⟨v7, v8, v9, v15, v16, _, v18, v19, v20, rfl, by simp [hl], hB, g0, g1, fun _ => rfl, g3, g4, g5, g8, g9, h1, k1⟩
      · rintro l a w' hr ⟨v7, v8, v9, v15, v16, v17, v18, v19, v20, rfl, hl, hB, g0, g1, g2, g3, g4, g5, g8, g9, h1, k1⟩
        have d2 : l.getD 2 false = true := (ready_dep hr rfl).2 ⟨2, .data⟩ (by simp) rfl
        obtain rfl := g2 d2
        have a0 := (hB.cell (ltc A0)).trans A0
        have a1 := (hB.cell (ltc A1)).trans A1
        have a2 := (hB.cell (ltc A2)).trans A2
        have a3 := (hB.cell (ltc B0)).trans B0
        have a4 := (hB.cell (ltc B1)).trans B1
        refine wpOp_step rfl (fun K hK => ?_)
        clear hr
        go_simp
        refine hK _ _ ?_
        simp only [getD_own (l := l) (i := 3) (by omega), getD_set l (i := 3) (j := 0) (by decide), getD_set l (i := 3) (j := 1) (by decide), getD_set l (i := 3) (j := 2) (by decide), getD_set l (i := 3) (j := 4) (by decide), getD_set l (i := 3) (j := 5) (by decide), getD_set l (i := 3) (j := 6) (by decide), getD_set l (i := 3) (j := 7) (by decide), getD_set l (i := 3) (j := 8) (by decide), getD_set l (i := 3) (j := 9) (by decide)]
        exact ⟨v7, v8, v9, v15, v16, _, _, v19, v20, rfl, by simp [hl], hB, g0, g1, fun _ => rfl, fun _ => rfl, g4, g5, g8, g9, h1, k1⟩
      · rintro l a w' hr ⟨v7, v8, v9, v15, v16, v17, v18, v19, v20, rfl, hl, hB, g0, g1, g2, g3, g4, g5, g8, g9, h1, k1⟩
        refine wpOp_step rfl (fun K hK => ?_)
        clear hr
        go_simp
        refine hK _ _ ?_
        simp only [getD_own (l := l) (i := 4) (by omega), getD_set l (i := 4) (j := 0) (by decide), getD_set l (i := 4) (j := 1) (by decide), getD_set l (i := 4) (j := 2) (by decide), getD_set l (i := 4) (j := 3) (by decide), getD_set l (i := 4) (j := 5) (by decide), getD_set l (i := 4) (j := 6) (by decide), getD_set l (i := 4) (j := 7) (by decide), getD_set l (i := 4) (j := 8) (by decide), getD_set l (i := 4) (j := 9) (by decide)]
        exact ⟨v7, v8, v9, v15, v16, v17, v18, _, v20, rfl, by simp [hl], hB, g0, g1, g2, g3, fun _ => rfl, g5, g8, g9, h1, k1⟩
      · rintro l a w' hr ⟨v7, v8, v9, v15, v16, v17, v18, v19, v20, rfl, hl, hB, g0, g1, g2, g3, g4, g5, g8, g9, h1, k1⟩
        have d4 : l.getD 4 false = true := (ready_dep hr rfl).2 ⟨4, .data⟩ (by simp) rfl
        obtain rfl := g4 d4
        have a0 := (hB.cell (ltc A0)).trans A0
        have a1 := (hB.cell (ltc A1)).trans A1
        have a2 := (hB.cell (ltc A2)).trans A2
        have a3 := (hB.cell (ltc B0)).trans B0
        have a4 := (hB.cell (ltc B1)).trans B1
        refine wpOp_step rfl (fun K hK => ?_)
        clear hr
        go_simp
        refine hK _ _ ?_
        simp only [getD_own (l := l) (i := 5) (by omega), getD_set l (i := 5) (j := 0) (by decide), getD_set l (i := 5) (j := 1) (by decide), getD_set l (i := 5) (j := 2) (by decide), getD_set l (i := 5) (j := 3) (by decide), getD_set l (i := 5) (j := 4) (by decide), getD_set l (i := 5) (j := 6) (by decide), getD_set l (i := 5) (j := 7) (by decide), getD_set l (i := 5) (j := 8) (by decide), getD_set l (i := 5) (j := 9) (by decide)]
        exact ⟨v7, v8, v9, v15, v16, v17, v18, _, _, rfl, by simp [hl], hB, g0, g1, g2, g3, fun _ => rfl, fun _ => rfl, g8, g9, h1, k1⟩
      · rintro l a w' hr ⟨v7, v8, v9, v15, v16, v17, v18, v19, v20, rfl, hl, hB, g0, g1, g2, g3, g4, g5, g8, g9, h1, k1⟩
        have hz := hB.size
        have hn := (ready_dep hr rfl).1
        have hna : l.getD 6 false = false := by cases hc : l.getD 6 false with | false => rfl | true => (exfalso; have hs4 := getD_both hc; rw [hs4] at hn; cases hn)
        have hus : l.getD 7 false = false := by cases hc : l.getD 7 false with | false => rfl | true => (rw [k1 hc] at hna; cases hna)
        refine wpOp_step rfl (fun K hK => ?_)
        clear hr
        go_simp
        refine hK _ _ ?_
        simp only [getD_own (l := l) (i := 6) (by omega), getD_set l (i := 6) (j := 0) (by decide), getD_set l (i := 6) (j := 1) (by decide), getD_set l (i := 6) (j := 2) (by decide), getD_set l (i := 6) (j := 3) (by decide), getD_set l (i := 6) (j := 4) (by decide), getD_set l (i := 6) (j := 5) (by decide), getD_set l (i := 6) (j := 7) (by decide), getD_set l (i := 6) (j := 8) (by decide), getD_set l (i := 6) (j := 9) (by decide)]
        exact ⟨_, v8, v9, v15, v16, v17, v18, v19, v20, rfl, by simp [hl], balloc hB _, g0, g1, g2, g3, g4, g5, g8, g9, fun _ => ⟨_, rfl, hz, fun _ => SpanAt.new rfl, fun h => (by rw [hus] at h; cases h)⟩, fun _ => (by first | rfl | trivial)⟩
      · rintro l a w' hr ⟨v7, v8, v9, v15, v16, v17, v18, v19, v20, rfl, hl, hB, g0, g1, g2, g3, g4, g5, g8, g9, h1, k1⟩
        have d6 : l.getD 6 false = true := (ready_dep hr rfl).2 ⟨6, .data⟩ (by simp) rfl
        have d1 : l.getD 1 false = true := (ready_dep hr rfl).2 ⟨1, .data⟩ (by simp) rfl
        obtain rfl := g1 d1
        have hn := (ready_dep hr rfl).1
        have hns : l.getD 7 false = false := by cases hc : l.getD 7 false with | false => rfl | true => (exfalso; have hs4 := getD_both hc; rw [hs4] at hn; cases hn)
        obtain ⟨b, rfl, hub, e4, _⟩ := h1 d6
        have hS := e4 hns
        have hT := span_sets (x := lo) (y := hi) (z := k) hS
        have s0 := (hS).1.1
        have s1 := (hS).2.1.1
        have s2 := (hS).2.2.1
        have s3 := (hS).1.2
        have s4 := (hS).2.1.2
        have s5 := (hS).2.2.2
        refine wpOp_step rfl (fun K hK => ?_)
        clear hr
        clear hS e4
        go_simp
        refine hK _ _ ?_
        simp only [getD_own (l := l) (i := 7) (by omega), getD_set l (i := 7) (j := 0) (by decide), getD_set l (i := 7) (j := 1) (by decide), getD_set l (i := 7) (j := 2) (by decide), getD_set l (i := 7) (j := 3) (by decide), getD_set l (i := 7) (j := 4) (by decide), getD_set l (i := 7) (j := 5) (by decide), getD_set l (i := 7) (j := 6) (by decide), getD_set l (i := 7) (j := 8) (by decide), getD_set l (i := 7) (j := 9) (by decide)]
        exact ⟨_, v8, v9, v15, _, v17, v18, v19, v20, rfl, by simp [hl], hB.trans (hT.2.2 _ hub), g0, fun _ => rfl, g2, g3, g4, g5, g8, g9, fun _ => ⟨b, rfl, hub, fun h => (by cases h), fun _ => hT.1⟩, fun _ => d6⟩
      · rintro l a w' hr ⟨v7, v8, v9, v15, v16, v17, v18, v19, v20, rfl, hl, hB, g0, g1, g2, g3, g4, g5, g8, g9, h1, k1⟩
        have d3 : l.getD 3 false = true := (ready_dep hr rfl).2 ⟨3, .data⟩ (by simp) rfl
        obtain rfl := g3 d3
        refine wpOp_step rfl (fun K hK => ?_)
        clear hr
        go_simp
        refine hK _ _ ?_
        simp only [getD_own (l := l) (i := 8) (by omega), getD_set l (i := 8) (j := 0) (by decide), getD_set l (i := 8) (j := 1) (by decide), getD_set l (i := 8) (j := 2) (by decide), getD_set l (i := 8) (j := 3) (by decide), getD_set l (i := 8) (j := 4) (by decide), getD_set l (i := 8) (j := 5) (by decide), getD_set l (i := 8) (j := 6) (by decide), getD_set l (i := 8) (j := 7) (by decide), getD_set l (i := 8) (j := 9) (by decide)]
        exact ⟨v7, _, v9, v15, v16, v17, _, v19, v20, rfl, by simp [hl], hB, g0, g1, g2, fun _ => rfl, g4, g5, fun _ => rfl, g9, h1, k1⟩
      · rintro l a w' hr ⟨v7, v8, v9, v15, v16, v17, v18, v19, v20, rfl, hl, hB, g0, g1, g2, g3, g4, g5, g8, g9, h1, k1⟩
        have d5 : l.getD 5 false = true := (ready_dep hr rfl).2 ⟨5, .data⟩ (by simp) rfl
        obtain rfl := g5 d5
        refine wpOp_step rfl (fun K hK => ?_)
        clear hr
        go_simp
        refine hK _ _ ?_
        simp only [getD_own (l := l) (i := 9) (by omega), getD_set l (i := 9) (j := 0) (by decide), getD_set l (i := 9) (j := 1) (by decide), getD_set l (i := 9) (j := 2) (by decide), getD_set l (i := 9) (j := 3) (by decide), getD_set l (i := 9) (j := 4) (by decide), getD_set l (i := 9) (j := 5) (by decide), getD_set l (i := 9) (j := 6) (by decide), getD_set l (i := 9) (j := 7) (by decide), getD_set l (i := 9) (j := 8) (by decide)]
        exact ⟨v7, v8, _, v15, v16, v17, v18, v19, _, rfl, by simp [hl], hB, g0, g1, g2, g3, g4, fun _ => rfl, g8, fun _ => rfl, h1, k1⟩
    · rintro l a w' ⟨v7, v8, v9, v15, v16, v17, v18, v19, v20, rfl, hl, hB, g0, g1, g2, g3, g4, g5, g8, g9, h1, k1⟩ hr
      have hall := ready_allb (by decide) hl hr
      obtain ⟨b1, rfl, hub1, _, f1⟩ := h1 (hall 6 (by decide))
      have F1 := f1 (hall 7 (by decide))
      obtain rfl := g8 (hall 8 (by decide))
      obtain rfl := g9 (hall 9 (by decide))
      go_wp2_with fail
      go_meet
      exact ⟨b1, rfl, rfl, rfl, Lib.hid (hb.trans (hB.mono hb.size)), Lib.hid F1⟩
  case rest =>
    obtain ⟨bs, rfl, rfl, rfl, HB, HS⟩ := hcut
    have hwc := HB.out
    have qS_0 := HS.out.1
    have cS_0 := qS_0.1
    have qS_1 := HS.out.2.1
    have cS_1 := qS_1.1
    have qS_2 := HS.out.2.2
    have cS_2 := qS_2.1
    have zS := ltc cS_0
    clear HB HS
    obtain ⟨r, hr⟩ : ∃ x, spRight ⟨lo, hi, k⟩ = x := ⟨_, rfl⟩
    have R := Lib.hid hr
    obtain ⟨h, hh⟩ : ∃ x, spHas ⟨lo, hi, k⟩ m = x := ⟨_, rfl⟩
    have H := Lib.hid hh
    cases k with
    | false =>
      go_wp2_with fail
      refine (alive_is _).mono ?_
      rintro e w1 ⟨rfl, hb1⟩
      have q1_1_0 : CellF w1 ⟨bs, 0, none⟩ (.int .i64 lo) := (by refine CellF.keep hb1 ?_; repeat (first | with_reducible exact qS_0 | with_reducible exact CellF.at_ (by simp) rfl | with_reducible refine CellF.past _ ?_ | with_reducible refine CellF.drew ?_ | with_reducible refine CellF.drewN _ ?_))
      have c1_1_0 := q1_1_0.1
      have q1_1_1 : CellF w1 ⟨bs, 1, none⟩ (.int .i64 hi) := (by refine CellF.keep hb1 ?_; repeat (first | with_reducible exact qS_1 | with_reducible exact CellF.at_ (by simp) rfl | with_reducible refine CellF.past _ ?_ | with_reducible refine CellF.drew ?_ | with_reducible refine CellF.drewN _ ?_))
      have c1_1_1 := q1_1_1.1
      have q1_1_2 : CellF w1 ⟨bs, 2, none⟩ (.bool false) := (by refine CellF.keep hb1 ?_; repeat (first | with_reducible exact qS_2 | with_reducible exact CellF.at_ (by simp) rfl | with_reducible refine CellF.past _ ?_ | with_reducible refine CellF.drew ?_ | with_reducible refine CellF.drewN _ ?_))
      have c1_1_2 := q1_1_2.1
      have z1_1 : bs < w1.heap.size := ltc c1_1_0
      clear qS_0 cS_0 qS_1 cS_1 qS_2 cS_2 zS
      all_goals (go_wp2; go_ret; exact ⟨rfl, (by repeat (first | exact brefl _ | refine balloc ?_ _ | refine bdrewN ?_ _ | refine bset ?_ (by dsimp only; omega) _ | refine bstep ?_ (by assumption)))⟩)
    | true =>
      cases r with
      | false =>
        go_wp2_with fail
        refine (Right_is _ _ _ _ R _).mono ?_
        rintro e w1 ⟨rfl, hb1⟩
        have q1_1_0 : CellF w1 ⟨bs, 0, none⟩ (.int .i64 lo) := (by refine CellF.keep hb1 ?_; repeat (first | with_reducible exact qS_0 | with_reducible exact CellF.at_ (by simp) rfl | with_reducible refine CellF.past _ ?_ | with_reducible refine CellF.drew ?_ | with_reducible refine CellF.drewN _ ?_))
        have c1_1_0 := q1_1_0.1
        have q1_1_1 : CellF w1 ⟨bs, 1, none⟩ (.int .i64 hi) := (by refine CellF.keep hb1 ?_; repeat (first | with_reducible exact qS_1 | with_reducible exact CellF.at_ (by simp) rfl | with_reducible refine CellF.past _ ?_ | with_reducible refine CellF.drew ?_ | with_reducible refine CellF.drewN _ ?_))
        have c1_1_1 := q1_1_1.1
        have q1_1_2 : CellF w1 ⟨bs, 2, none⟩ (.bool true) := (by refine CellF.keep hb1 ?_; repeat (first | with_reducible exact qS_2 | with_reducible exact CellF.at_ (by simp) rfl | with_reducible refine CellF.past _ ?_ | with_reducible refine CellF.drew ?_ | with_reducible refine CellF.drewN _ ?_))
        have c1_1_2 := q1_1_2.1
        have z1_1 : bs < w1.heap.size := ltc c1_1_0
        clear qS_0 cS_0 qS_1 cS_1 qS_2 cS_2 zS
        go_wp2_with fail
        refine (alive_is _).mono ?_
        rintro e w2 ⟨rfl, hb2⟩
        have q2_2_0 : CellF w2 ⟨bs, 0, none⟩ (.int .i64 lo) := (by refine CellF.keep hb2 ?_; repeat (first | with_reducible exact q1_1_0 | with_reducible exact CellF.at_ (by simp) rfl | with_reducible refine CellF.past _ ?_ | with_reducible refine CellF.drew ?_ | with_reducible refine CellF.drewN _ ?_))
        have c2_2_0 := q2_2_0.1
        have q2_2_1 : CellF w2 ⟨bs, 1, none⟩ (.int .i64 hi) := (by refine CellF.keep hb2 ?_; repeat (first | with_reducible exact q1_1_1 | with_reducible exact CellF.at_ (by simp) rfl | with_reducible refine CellF.past _ ?_ | with_reducible refine CellF.drew ?_ | with_reducible refine CellF.drewN _ ?_))
        have c2_2_1 := q2_2_1.1
        have q2_2_2 : CellF w2 ⟨bs, 2, none⟩ (.bool true) := (by refine CellF.keep hb2 ?_; repeat (first | with_reducible exact q1_1_2 | with_reducible exact CellF.at_ (by simp) rfl | with_reducible refine CellF.past _ ?_ | with_reducible refine CellF.drew ?_ | with_reducible refine CellF.drewN _ ?_))
        have c2_2_2 := q2_2_2.1
        have z2_2 : bs < w2.heap.size := ltc c2_2_0
        clear q1_1_0 c1_1_0 q1_1_1 c1_1_1 q1_1_2 c1_1_2 z1_1
        all_goals (go_wp2; go_ret; exact ⟨rfl, (by repeat (first | exact brefl _ | refine balloc ?_ _ | refine bdrewN ?_ _ | refine bset ?_ (by dsimp only; omega) _ | refine bstep ?_ (by assumption)))⟩)
      | true =>
        cases h with
        | false =>
          go_wp2_with fail
          refine (Right_is _ _ _ _ R _).mono ?_
          rintro e w1 ⟨rfl, hb1⟩
          have q1_1_0 : CellF w1 ⟨bs, 0, none⟩ (.int .i64 lo) := (by refine CellF.keep hb1 ?_; repeat (first | with_reducible exact qS_0 | with_reducible exact CellF.at_ (by simp) rfl | with_reducible refine CellF.past _ ?_ | with_reducible refine CellF.drew ?_ | with_reducible refine CellF.drewN _ ?_))
          have c1_1_0 := q1_1_0.1
          have q1_1_1 : CellF w1 ⟨bs, 1, none⟩ (.int .i64 hi) := (by refine CellF.keep hb1 ?_; repeat (first | with_reducible exact qS_1 | with_reducible exact CellF.at_ (by simp) rfl | with_reducible refine CellF.past _ ?_ | with_reducible refine CellF.drew ?_ | with_reducible refine CellF.drewN _ ?_))
          have c1_1_1 := q1_1_1.1
          have q1_1_2 : CellF w1 ⟨bs, 2, none⟩ (.bool true) := (by refine CellF.keep hb1 ?_; repeat (first | with_reducible exact qS_2 | with_reducible exact CellF.at_ (by simp) rfl | with_reducible refine CellF.past _ ?_ | with_reducible refine CellF.drew ?_ | with_reducible refine CellF.drewN _ ?_))
          have c1_1_2 := q1_1_2.1
          have z1_1 : bs < w1.heap.size := ltc c1_1_0
          clear qS_0 cS_0 qS_1 cS_1 qS_2 cS_2 zS
          go_wp2_with fail
          refine (Has_is _ _ _ _ _ H _).mono ?_
          rintro e w2 ⟨rfl, hb2⟩
          have q2_2_0 : CellF w2 ⟨bs, 0, none⟩ (.int .i64 lo) := (by refine CellF.keep hb2 ?_; repeat (first | with_reducible exact q1_1_0 | with_reducible exact CellF.at_ (by simp) rfl | with_reducible refine CellF.past _ ?_ | with_reducible refine CellF.drew ?_ | with_reducible refine CellF.drewN _ ?_))
          have c2_2_0 := q2_2_0.1
          have q2_2_1 : CellF w2 ⟨bs, 1, none⟩ (.int .i64 hi) := (by refine CellF.keep hb2 ?_; repeat (first | with_reducible exact q1_1_1 | with_reducible exact CellF.at_ (by simp) rfl | with_reducible refine CellF.past _ ?_ | with_reducible refine CellF.drew ?_ | with_reducible refine CellF.drewN _ ?_))
          have c2_2_1 := q2_2_1.1
          have q2_2_2 : CellF w2 ⟨bs, 2, none⟩ (.bool true) := (by refine CellF.keep hb2 ?_; repeat (first | with_reducible exact q1_1_2 | with_reducible exact CellF.at_ (by simp) rfl | with_reducible refine CellF.past _ ?_ | with_reducible refine CellF.drew ?_ | with_reducible refine CellF.drewN _ ?_))
          have c2_2_2 := q2_2_2.1
          have z2_2 : bs < w2.heap.size := ltc c2_2_0
          clear q1_1_0 c1_1_0 q1_1_1 c1_1_1 q1_1_2 c1_1_2 z1_1
          go_wp2_with fail
          refine (alive_is _).mono ?_
          rintro e w3 ⟨rfl, hb3⟩
          have q3_3_0 : CellF w3 ⟨bs, 0, none⟩ (.int .i64 lo) := (by refine CellF.keep hb3 ?_; repeat (first | with_reducible exact q2_2_0 | with_reducible exact CellF.at_ (by simp) rfl | with_reducible refine CellF.past _ ?_ | with_reducible refine CellF.drew ?_ | with_reducible refine CellF.drewN _ ?_))
          have c3_3_0 := q3_3_0.1
          have q3_3_1 : CellF w3 ⟨bs, 1, none⟩ (.int .i64 hi) := (by refine CellF.keep hb3 ?_; repeat (first | with_reducible exact q2_2_1 | with_reducible exact CellF.at_ (by simp) rfl | with_reducible refine CellF.past _ ?_ | with_reducible refine CellF.drew ?_ | with_reducible refine CellF.drewN _ ?_))
          have c3_3_1 := q3_3_1.1
          have q3_3_2 : CellF w3 ⟨bs, 2, none⟩ (.bool true) := (by refine CellF.keep hb3 ?_; repeat (first | with_reducible exact q2_2_2 | with_reducible exact CellF.at_ (by simp) rfl | with_reducible refine CellF.past _ ?_ | with_reducible refine CellF.drew ?_ | with_reducible refine CellF.drewN _ ?_))
          have c3_3_2 := q3_3_2.1
          have z3_3 : bs < w3.heap.size := ltc c3_3_0
          clear q2_2_0 c2_2_0 q2_2_1 c2_2_1 q2_2_2 c2_2_2 z2_2
          all_goals (go_wp2; go_ret; exact ⟨rfl, (by repeat (first | exact brefl _ | refine balloc ?_ _ | refine bdrewN ?_ _ | refine bset ?_ (by dsimp only; omega) _ | refine bstep ?_ (by assumption)))⟩)
        | true =>
          by_cases z0 : p < 0
          ·
            go_wp2_with fail
            refine (Right_is _ _ _ _ R _).mono ?_
            rintro e w1 ⟨rfl, hb1⟩
            have q1_1_0 : CellF w1 ⟨bs, 0, none⟩ (.int .i64 lo) := (by refine CellF.keep hb1 ?_; repeat (first | with_reducible exact qS_0 | with_reducible exact CellF.at_ (by simp) rfl | with_reducible refine CellF.past _ ?_ | with_reducible refine CellF.drew ?_ | with_reducible refine CellF.drewN _ ?_))
            have c1_1_0 := q1_1_0.1
            have q1_1_1 : CellF w1 ⟨bs, 1, none⟩ (.int .i64 hi) := (by refine CellF.keep hb1 ?_; repeat (first | with_reducible exact qS_1 | with_reducible exact CellF.at_ (by simp) rfl | with_reducible refine CellF.past _ ?_ | with_reducible refine CellF.drew ?_ | with_reducible refine CellF.drewN _ ?_))
            have c1_1_1 := q1_1_1.1
            have q1_1_2 : CellF w1 ⟨bs, 2, none⟩ (.bool true) := (by refine CellF.keep hb1 ?_; repeat (first | with_reducible exact qS_2 | with_reducible exact CellF.at_ (by simp) rfl | with_reducible refine CellF.past _ ?_ | with_reducible refine CellF.drew ?_ | with_reducible refine CellF.drewN _ ?_))
            have c1_1_2 := q1_1_2.1
            have z1_1 : bs < w1.heap.size := ltc c1_1_0
            clear qS_0 cS_0 qS_1 cS_1 qS_2 cS_2 zS
            go_wp2_with fail
            refine (Has_is _ _ _ _ _ H _).mono ?_
            rintro e w2 ⟨rfl, hb2⟩
            have q2_2_0 : CellF w2 ⟨bs, 0, none⟩ (.int .i64 lo) := (by refine CellF.keep hb2 ?_; repeat (first | with_reducible exact q1_1_0 | with_reducible exact CellF.at_ (by simp) rfl | with_reducible refine CellF.past _ ?_ | with_reducible refine CellF.drew ?_ | with_reducible refine CellF.drewN _ ?_))
            have c2_2_0 := q2_2_0.1
            have q2_2_1 : CellF w2 ⟨bs, 1, none⟩ (.int .i64 hi) := (by refine CellF.keep hb2 ?_; repeat (first | with_reducible exact q1_1_1 | with_reducible exact CellF.at_ (by simp) rfl | with_reducible refine CellF.past _ ?_ | with_reducible refine CellF.drew ?_ | with_reducible refine CellF.drewN _ ?_))
            have c2_2_1 := q2_2_1.1
            have q2_2_2 : CellF w2 ⟨bs, 2, none⟩ (.bool true) := (by refine CellF.keep hb2 ?_; repeat (first | with_reducible exact q1_1_2 | with_reducible exact CellF.at_ (by simp) rfl | with_reducible refine CellF.past _ ?_ | with_reducible refine CellF.drew ?_ | with_reducible refine CellF.drewN _ ?_))
            have c2_2_2 := q2_2_2.1
            have z2_2 : bs < w2.heap.size := ltc c2_2_0
            clear q1_1_0 c1_1_0 q1_1_1 c1_1_1 q1_1_2 c1_1_2 z1_1
            go_wp2_with fail
            refine (alive_is _).mono ?_
            rintro e w3 ⟨rfl, hb3⟩
            have q3_3_0 : CellF w3 ⟨bs, 0, none⟩ (.int .i64 lo) := (by refine CellF.keep hb3 ?_; repeat (first | with_reducible exact q2_2_0 | with_reducible exact CellF.at_ (by simp) rfl | with_reducible refine CellF.past _ ?_ | with_reducible refine CellF.drew ?_ | with_reducible refine CellF.drewN _ ?_))
            have c3_3_0 := q3_3_0.1
            have q3_3_1 : CellF w3 ⟨bs, 1, none⟩ (.int .i64 hi) := (by refine CellF.keep hb3 ?_; repeat (first | with_reducible exact q2_2_1 | with_reducible exact CellF.at_ (by simp) rfl | with_reducible refine CellF.past _ ?_ | with_reducible refine CellF.drew ?_ | with_reducible refine CellF.drewN _ ?_))
            have c3_3_1 := q3_3_1.1
            have q3_3_2 : CellF w3 ⟨bs, 2, none⟩ (.bool true) := (by refine CellF.keep hb3 ?_; repeat (first | with_reducible exact q2_2_2 | with_reducible exact CellF.at_ (by simp) rfl | with_reducible refine CellF.past _ ?_ | with_reducible refine CellF.drew ?_ | with_reducible refine CellF.drewN _ ?_))
            have c3_3_2 := q3_3_2.1
            have z3_3 : bs < w3.heap.size := ltc c3_3_0
            clear q2_2_0 c2_2_0 q2_2_1 c2_2_1 q2_2_2 c2_2_2 z2_2
            all_goals (go_wp2; go_ret; exact ⟨rfl, (by repeat (first | exact brefl _ | refine balloc ?_ _ | refine bdrewN ?_ _ | refine bset ?_ (by dsimp only; omega) _ | refine bstep ?_ (by assumption)))⟩)
          have y0 := Int.not_lt.1 z0
          clear z0
          by_cases z1 : 1000000000 < p
          ·
            go_wp2_with fail
            refine (Right_is _ _ _ _ R _).mono ?_
            rintro e w1 ⟨rfl, hb1⟩
            have q1_1_0 : CellF w1 ⟨bs, 0, none⟩ (.int .i64 lo) := (by refine CellF.keep hb1 ?_; repeat (first | with_reducible exact qS_0 | with_reducible exact CellF.at_ (by simp) rfl | with_reducible refine CellF.past _ ?_ | with_reducible refine CellF.drew ?_ | with_reducible refine CellF.drewN _ ?_))
            have c1_1_0 := q1_1_0.1
            have q1_1_1 : CellF w1 ⟨bs, 1, none⟩ (.int .i64 hi) := (by refine CellF.keep hb1 ?_; repeat (first | with_reducible exact qS_1 | with_reducible exact CellF.at_ (by simp) rfl | with_reducible refine CellF.past _ ?_ | with_reducible refine CellF.drew ?_ | with_reducible refine CellF.drewN _ ?_))
            have c1_1_1 := q1_1_1.1
            have q1_1_2 : CellF w1 ⟨bs, 2, none⟩ (.bool true) := (by refine CellF.keep hb1 ?_; repeat (first | with_reducible exact qS_2 | with_reducible exact CellF.at_ (by simp) rfl | with_reducible refine CellF.past _ ?_ | with_reducible refine CellF.drew ?_ | with_reducible refine CellF.drewN _ ?_))
            have c1_1_2 := q1_1_2.1
            have z1_1 : bs < w1.heap.size := ltc c1_1_0
            clear qS_0 cS_0 qS_1 cS_1 qS_2 cS_2 zS
            go_wp2_with fail
            refine (Has_is _ _ _ _ _ H _).mono ?_
            rintro e w2 ⟨rfl, hb2⟩
            have q2_2_0 : CellF w2 ⟨bs, 0, none⟩ (.int .i64 lo) := (by refine CellF.keep hb2 ?_; repeat (first | with_reducible exact q1_1_0 | with_reducible exact CellF.at_ (by simp) rfl | with_reducible refine CellF.past _ ?_ | with_reducible refine CellF.drew ?_ | with_reducible refine CellF.drewN _ ?_))
            have c2_2_0 := q2_2_0.1
            have q2_2_1 : CellF w2 ⟨bs, 1, none⟩ (.int .i64 hi) := (by refine CellF.keep hb2 ?_; repeat (first | with_reducible exact q1_1_1 | with_reducible exact CellF.at_ (by simp) rfl | with_reducible refine CellF.past _ ?_ | with_reducible refine CellF.drew ?_ | with_reducible refine CellF.drewN _ ?_))
            have c2_2_1 := q2_2_1.1
            have q2_2_2 : CellF w2 ⟨bs, 2, none⟩ (.bool true) := (by refine CellF.keep hb2 ?_; repeat (first | with_reducible exact q1_1_2 | with_reducible exact CellF.at_ (by simp) rfl | with_reducible refine CellF.past _ ?_ | with_reducible refine CellF.drew ?_ | with_reducible refine CellF.drewN _ ?_))
            have c2_2_2 := q2_2_2.1
            have z2_2 : bs < w2.heap.size := ltc c2_2_0
            clear q1_1_0 c1_1_0 q1_1_1 c1_1_1 q1_1_2 c1_1_2 z1_1
            go_wp2_with fail
            refine (alive_is _).mono ?_
            rintro e w3 ⟨rfl, hb3⟩
            have q3_3_0 : CellF w3 ⟨bs, 0, none⟩ (.int .i64 lo) := (by refine CellF.keep hb3 ?_; repeat (first | with_reducible exact q2_2_0 | with_reducible exact CellF.at_ (by simp) rfl | with_reducible refine CellF.past _ ?_ | with_reducible refine CellF.drew ?_ | with_reducible refine CellF.drewN _ ?_))
            have c3_3_0 := q3_3_0.1
            have q3_3_1 : CellF w3 ⟨bs, 1, none⟩ (.int .i64 hi) := (by refine CellF.keep hb3 ?_; repeat (first | with_reducible exact q2_2_1 | with_reducible exact CellF.at_ (by simp) rfl | with_reducible refine CellF.past _ ?_ | with_reducible refine CellF.drew ?_ | with_reducible refine CellF.drewN _ ?_))
            have c3_3_1 := q3_3_1.1
            have q3_3_2 : CellF w3 ⟨bs, 2, none⟩ (.bool true) := (by refine CellF.keep hb3 ?_; repeat (first | with_reducible exact q2_2_2 | with_reducible exact CellF.at_ (by simp) rfl | with_reducible refine CellF.past _ ?_ | with_reducible refine CellF.drew ?_ | with_reducible refine CellF.drewN _ ?_))
            have c3_3_2 := q3_3_2.1
            have z3_3 : bs < w3.heap.size := ltc c3_3_0
            clear q2_2_0 c2_2_0 q2_2_1 c2_2_1 q2_2_2 c2_2_2 z2_2
            all_goals (go_wp2; go_ret; exact ⟨rfl, (by repeat (first | exact brefl _ | refine balloc ?_ _ | refine bdrewN ?_ _ | refine bset ?_ (by dsimp only; omega) _ | refine bstep ?_ (by assumption)))⟩)
          have y1 := Int.not_lt.1 z1
          clear z1
          by_cases z2 : q < -p
          ·
            go_wp2_with fail
            refine (Right_is _ _ _ _ R _).mono ?_
            rintro e w1 ⟨rfl, hb1⟩
            have q1_1_0 : CellF w1 ⟨bs, 0, none⟩ (.int .i64 lo) := (by refine CellF.keep hb1 ?_; repeat (first | with_reducible exact qS_0 | with_reducible exact CellF.at_ (by simp) rfl | with_reducible refine CellF.past _ ?_ | with_reducible refine CellF.drew ?_ | with_reducible refine CellF.drewN _ ?_))
            have c1_1_0 := q1_1_0.1
            have q1_1_1 : CellF w1 ⟨bs, 1, none⟩ (.int .i64 hi) := (by refine CellF.keep hb1 ?_; repeat (first | with_reducible exact qS_1 | with_reducible exact CellF.at_ (by simp) rfl | with_reducible refine CellF.past _ ?_ | with_reducible refine CellF.drew ?_ | with_reducible refine CellF.drewN _ ?_))
            have c1_1_1 := q1_1_1.1
            have q1_1_2 : CellF w1 ⟨bs, 2, none⟩ (.bool true) := (by refine CellF.keep hb1 ?_; repeat (first | with_reducible exact qS_2 | with_reducible exact CellF.at_ (by simp) rfl | with_reducible refine CellF.past _ ?_ | with_reducible refine CellF.drew ?_ | with_reducible refine CellF.drewN _ ?_))
            have c1_1_2 := q1_1_2.1
            have z1_1 : bs < w1.heap.size := ltc c1_1_0
            clear qS_0 cS_0 qS_1 cS_1 qS_2 cS_2 zS
            go_wp2_with fail
            refine (Has_is _ _ _ _ _ H _).mono ?_
            rintro e w2 ⟨rfl, hb2⟩
            have q2_2_0 : CellF w2 ⟨bs, 0, none⟩ (.int .i64 lo) := (by refine CellF.keep hb2 ?_; repeat (first | with_reducible exact q1_1_0 | with_reducible exact CellF.at_ (by simp) rfl | with_reducible refine CellF.past _ ?_ | with_reducible refine CellF.drew ?_ | with_reducible refine CellF.drewN _ ?_))
            have c2_2_0 := q2_2_0.1
            have q2_2_1 : CellF w2 ⟨bs, 1, none⟩ (.int .i64 hi) := (by refine CellF.keep hb2 ?_; repeat (first | with_reducible exact q1_1_1 | with_reducible exact CellF.at_ (by simp) rfl | with_reducible refine CellF.past _ ?_ | with_reducible refine CellF.drew ?_ | with_reducible refine CellF.drewN _ ?_))
            have c2_2_1 := q2_2_1.1
            have q2_2_2 : CellF w2 ⟨bs, 2, none⟩ (.bool true) := (by refine CellF.keep hb2 ?_; repeat (first | with_reducible exact q1_1_2 | with_reducible exact CellF.at_ (by simp) rfl | with_reducible refine CellF.past _ ?_ | with_reducible refine CellF.drew ?_ | with_reducible refine CellF.drewN _ ?_))
            have c2_2_2 := q2_2_2.1
            have z2_2 : bs < w2.heap.size := ltc c2_2_0
            clear q1_1_0 c1_1_0 q1_1_1 c1_1_1 q1_1_2 c1_1_2 z1_1
            go_wp2_with fail
            refine (alive_is _).mono ?_
            rintro e w3 ⟨rfl, hb3⟩
            have q3_3_0 : CellF w3 ⟨bs, 0, none⟩ (.int .i64 lo) := (by refine CellF.keep hb3 ?_; repeat (first | with_reducible exact q2_2_0 | with_reducible exact CellF.at_ (by simp) rfl | with_reducible refine CellF.past _ ?_ | with_reducible refine CellF.drew ?_ | with_reducible refine CellF.drewN _ ?_))
            have c3_3_0 := q3_3_0.1
            have q3_3_1 : CellF w3 ⟨bs, 1, none⟩ (.int .i64 hi) := (by refine CellF.keep hb3 ?_; repeat (first | with_reducible exact q2_2_1 | with_reducible exact CellF.at_ (by simp) rfl | with_reducible refine CellF.past _ ?_ | with_reducible refine CellF.drew ?_ | with_reducible refine CellF.drewN _ ?_))
            have c3_3_1 := q3_3_1.1
            have q3_3_2 : CellF w3 ⟨bs, 2, none⟩ (.bool true) := (by refine CellF.keep hb3 ?_; repeat (first | with_reducible exact q2_2_2 | with_reducible exact CellF.at_ (by simp) rfl | with_reducible refine CellF.past _ ?_ | with_reducible refine CellF.drew ?_ | with_reducible refine CellF.drewN _ ?_))
            have c3_3_2 := q3_3_2.1
            have z3_3 : bs < w3.heap.size := ltc c3_3_0
            clear q2_2_0 c2_2_0 q2_2_1 c2_2_1 q2_2_2 c2_2_2 z2_2
            all_goals (go_wp2; go_ret; exact ⟨rfl, (by repeat (first | exact brefl _ | refine balloc ?_ _ | refine bdrewN ?_ _ | refine bset ?_ (by dsimp only; omega) _ | refine bstep ?_ (by assumption)))⟩)
          have y2 := Int.not_lt.1 z2
          clear z2
          by_cases z3 : p < q
          ·
            go_wp2_with fail
            refine (Right_is _ _ _ _ R _).mono ?_
            rintro e w1 ⟨rfl, hb1⟩
            have q1_1_0 : CellF w1 ⟨bs, 0, none⟩ (.int .i64 lo) := (by refine CellF.keep hb1 ?_; repeat (first | with_reducible exact qS_0 | with_reducible exact CellF.at_ (by simp) rfl | with_reducible refine CellF.past _ ?_ | with_reducible refine CellF.drew ?_ | with_reducible refine CellF.drewN _ ?_))
            have c1_1_0 := q1_1_0.1
            have q1_1_1 : CellF w1 ⟨bs, 1, none⟩ (.int .i64 hi) := (by refine CellF.keep hb1 ?_; repeat (first | with_reducible exact qS_1 | with_reducible exact CellF.at_ (by simp) rfl | with_reducible refine CellF.past _ ?_ | with_reducible refine CellF.drew ?_ | with_reducible refine CellF.drewN _ ?_))
            have c1_1_1 := q1_1_1.1
            have q1_1_2 : CellF w1 ⟨bs, 2, none⟩ (.bool true) := (by refine CellF.keep hb1 ?_; repeat (first | with_reducible exact qS_2 | with_reducible exact CellF.at_ (by simp) rfl | with_reducible refine CellF.past _ ?_ | with_reducible refine CellF.drew ?_ | with_reducible refine CellF.drewN _ ?_))
            have c1_1_2 := q1_1_2.1
            have z1_1 : bs < w1.heap.size := ltc c1_1_0
            clear qS_0 cS_0 qS_1 cS_1 qS_2 cS_2 zS
            go_wp2_with fail
            refine (Has_is _ _ _ _ _ H _).mono ?_
            rintro e w2 ⟨rfl, hb2⟩
            have q2_2_0 : CellF w2 ⟨bs, 0, none⟩ (.int .i64 lo) := (by refine CellF.keep hb2 ?_; repeat (first | with_reducible exact q1_1_0 | with_reducible exact CellF.at_ (by simp) rfl | with_reducible refine CellF.past _ ?_ | with_reducible refine CellF.drew ?_ | with_reducible refine CellF.drewN _ ?_))
            have c2_2_0 := q2_2_0.1
            have q2_2_1 : CellF w2 ⟨bs, 1, none⟩ (.int .i64 hi) := (by refine CellF.keep hb2 ?_; repeat (first | with_reducible exact q1_1_1 | with_reducible exact CellF.at_ (by simp) rfl | with_reducible refine CellF.past _ ?_ | with_reducible refine CellF.drew ?_ | with_reducible refine CellF.drewN _ ?_))
            have c2_2_1 := q2_2_1.1
            have q2_2_2 : CellF w2 ⟨bs, 2, none⟩ (.bool true) := (by refine CellF.keep hb2 ?_; repeat (first | with_reducible exact q1_1_2 | with_reducible exact CellF.at_ (by simp) rfl | with_reducible refine CellF.past _ ?_ | with_reducible refine CellF.drew ?_ | with_reducible refine CellF.drewN _ ?_))
            have c2_2_2 := q2_2_2.1
            have z2_2 : bs < w2.heap.size := ltc c2_2_0
            clear q1_1_0 c1_1_0 q1_1_1 c1_1_1 q1_1_2 c1_1_2 z1_1
            go_wp2_with fail
            refine (alive_is _).mono ?_
            rintro e w3 ⟨rfl, hb3⟩
            have q3_3_0 : CellF w3 ⟨bs, 0, none⟩ (.int .i64 lo) := (by refine CellF.keep hb3 ?_; repeat (first | with_reducible exact q2_2_0 | with_reducible exact CellF.at_ (by simp) rfl | with_reducible refine CellF.past _ ?_ | with_reducible refine CellF.drew ?_ | with_reducible refine CellF.drewN _ ?_))
            have c3_3_0 := q3_3_0.1
            have q3_3_1 : CellF w3 ⟨bs, 1, none⟩ (.int .i64 hi) := (by refine CellF.keep hb3 ?_; repeat (first | with_reducible exact q2_2_1 | with_reducible exact CellF.at_ (by simp) rfl | with_reducible refine CellF.past _ ?_ | with_reducible refine CellF.drew ?_ | with_reducible refine CellF.drewN _ ?_))
            have c3_3_1 := q3_3_1.1
            have q3_3_2 : CellF w3 ⟨bs, 2, none⟩ (.bool true) := (by refine CellF.keep hb3 ?_; repeat (first | with_reducible exact q2_2_2 | with_reducible exact CellF.at_ (by simp) rfl | with_reducible refine CellF.past _ ?_ | with_reducible refine CellF.drew ?_ | with_reducible refine CellF.drewN _ ?_))
            have c3_3_2 := q3_3_2.1
            have z3_3 : bs < w3.heap.size := ltc c3_3_0
            clear q2_2_0 c2_2_0 q2_2_1 c2_2_1 q2_2_2 c2_2_2 z2_2
            all_goals (go_wp2; go_ret; exact ⟨rfl, (by repeat (first | exact brefl _ | refine balloc ?_ _ | refine bdrewN ?_ _ | refine bset ?_ (by dsimp only; omega) _ | refine bstep ?_ (by assumption)))⟩)
          have y3 := Int.not_lt.1 z3
          clear z3
          obtain ⟨x, i1, e1⟩ : ∃ x i, floorP m (1000000000 + q) 1000000000 = (x, i) := ⟨_, _, rfl⟩
          have X1 := Lib.hid e1
          obtain ⟨y, i2, e2⟩ : ∃ x i, ceilP m (1000000000 + q) 1000000000 = (x, i) := ⟨_, _, rfl⟩
          have X2 := Lib.hid e2
          obtain ⟨⟨t1, t2, t3⟩, e3⟩ : ∃ s, spScale ⟨lo, hi, true⟩ p = s := ⟨_, rfl⟩
          have X3 := Lib.hid e3
          go_wp2_with fail
          refine (Right_is _ _ _ _ R _).mono ?_
          rintro e w1 ⟨rfl, hb1⟩
          have q1_1_0 : CellF w1 ⟨bs, 0, none⟩ (.int .i64 lo) := (by refine CellF.keep hb1 ?_; repeat (first | with_reducible exact qS_0 | with_reducible exact CellF.at_ (by simp) rfl | with_reducible refine CellF.past _ ?_ | with_reducible refine CellF.drew ?_ | with_reducible refine CellF.drewN _ ?_))
          have c1_1_0 := q1_1_0.1
          have q1_1_1 : CellF w1 ⟨bs, 1, none⟩ (.int .i64 hi) := (by refine CellF.keep hb1 ?_; repeat (first | with_reducible exact qS_1 | with_reducible exact CellF.at_ (by simp) rfl | with_reducible refine CellF.past _ ?_ | with_reducible refine CellF.drew ?_ | with_reducible refine CellF.drewN _ ?_))
          have c1_1_1 := q1_1_1.1
          have q1_1_2 : CellF w1 ⟨bs, 2, none⟩ (.bool true) := (by refine CellF.keep hb1 ?_; repeat (first | with_reducible exact qS_2 | with_reducible exact CellF.at_ (by simp) rfl | with_reducible refine CellF.past _ ?_ | with_reducible refine CellF.drew ?_ | with_reducible refine CellF.drewN _ ?_))
          have c1_1_2 := q1_1_2.1
          have z1_1 : bs < w1.heap.size := ltc c1_1_0
          clear qS_0 cS_0 qS_1 cS_1 qS_2 cS_2 zS
          go_wp2_with fail
          refine (Has_is _ _ _ _ _ H _).mono ?_
          rintro e w2 ⟨rfl, hb2⟩
          have q2_2_0 : CellF w2 ⟨bs, 0, none⟩ (.int .i64 lo) := (by refine CellF.keep hb2 ?_; repeat (first | with_reducible exact q1_1_0 | with_reducible exact CellF.at_ (by simp) rfl | with_reducible refine CellF.past _ ?_ | with_reducible refine CellF.drew ?_ | with_reducible refine CellF.drewN _ ?_))
          have c2_2_0 := q2_2_0.1
          have q2_2_1 : CellF w2 ⟨bs, 1, none⟩ (.int .i64 hi) := (by refine CellF.keep hb2 ?_; repeat (first | with_reducible exact q1_1_1 | with_reducible exact CellF.at_ (by simp) rfl | with_reducible refine CellF.past _ ?_ | with_reducible refine CellF.drew ?_ | with_reducible refine CellF.drewN _ ?_))
          have c2_2_1 := q2_2_1.1
          have q2_2_2 : CellF w2 ⟨bs, 2, none⟩ (.bool true) := (by refine CellF.keep hb2 ?_; repeat (first | with_reducible exact q1_1_2 | with_reducible exact CellF.at_ (by simp) rfl | with_reducible refine CellF.past _ ?_ | with_reducible refine CellF.drew ?_ | with_reducible refine CellF.drewN _ ?_))
          have c2_2_2 := q2_2_2.1
          have z2_2 : bs < w2.heap.size := ltc c2_2_0
          clear q1_1_0 c1_1_0 q1_1_1 c1_1_1 q1_1_2 c1_1_2 z1_1
          go_wp2_with fail
          refine (Floor_is _ _ _ _ _ X1 _).mono ?_
          rintro e w3 ⟨rfl, hb3⟩
          have q3_3_0 : CellF w3 ⟨bs, 0, none⟩ (.int .i64 lo) := (by refine CellF.keep hb3 ?_; repeat (first | with_reducible exact q2_2_0 | with_reducible exact CellF.at_ (by simp) rfl | with_reducible refine CellF.past _ ?_ | with_reducible refine CellF.drew ?_ | with_reducible refine CellF.drewN _ ?_))
          have c3_3_0 := q3_3_0.1
          have q3_3_1 : CellF w3 ⟨bs, 1, none⟩ (.int .i64 hi) := (by refine CellF.keep hb3 ?_; repeat (first | with_reducible exact q2_2_1 | with_reducible exact CellF.at_ (by simp) rfl | with_reducible refine CellF.past _ ?_ | with_reducible refine CellF.drew ?_ | with_reducible refine CellF.drewN _ ?_))
          have c3_3_1 := q3_3_1.1
          have q3_3_2 : CellF w3 ⟨bs, 2, none⟩ (.bool true) := (by refine CellF.keep hb3 ?_; repeat (first | with_reducible exact q2_2_2 | with_reducible exact CellF.at_ (by simp) rfl | with_reducible refine CellF.past _ ?_ | with_reducible refine CellF.drew ?_ | with_reducible refine CellF.drewN _ ?_))
          have c3_3_2 := q3_3_2.1
          have z3_3 : bs < w3.heap.size := ltc c3_3_0
          clear q2_2_0 c2_2_0 q2_2_1 c2_2_1 q2_2_2 c2_2_2 z2_2
          go_wp2_with fail
          refine (Ceil_is _ _ _ _ _ X2 _).mono ?_
          rintro e w4 ⟨rfl, hb4⟩
          have q4_4_0 : CellF w4 ⟨bs, 0, none⟩ (.int .i64 lo) := (by refine CellF.keep hb4 ?_; repeat (first | with_reducible exact q3_3_0 | with_reducible exact CellF.at_ (by simp) rfl | with_reducible refine CellF.past _ ?_ | with_reducible refine CellF.drew ?_ | with_reducible refine CellF.drewN _ ?_))
          have c4_4_0 := q4_4_0.1
          have q4_4_1 : CellF w4 ⟨bs, 1, none⟩ (.int .i64 hi) := (by refine CellF.keep hb4 ?_; repeat (first | with_reducible exact q3_3_1 | with_reducible exact CellF.at_ (by simp) rfl | with_reducible refine CellF.past _ ?_ | with_reducible refine CellF.drew ?_ | with_reducible refine CellF.drewN _ ?_))
          have c4_4_1 := q4_4_1.1
          have q4_4_2 : CellF w4 ⟨bs, 2, none⟩ (.bool true) := (by refine CellF.keep hb4 ?_; repeat (first | with_reducible exact q3_3_2 | with_reducible exact CellF.at_ (by simp) rfl | with_reducible refine CellF.past _ ?_ | with_reducible refine CellF.drew ?_ | with_reducible refine CellF.drewN _ ?_))
          have c4_4_2 := q4_4_2.1
          have z4_4 : bs < w4.heap.size := ltc c4_4_0
          clear q3_3_0 c3_3_0 q3_3_1 c3_3_1 q3_3_2 c3_3_2 z3_3
          cases i1 with
          | false =>
            go_wp2_with fail
            refine (alive_is _).mono ?_
            rintro e w5 ⟨rfl, hb5⟩
            have q5_5_0 : CellF w5 ⟨bs, 0, none⟩ (.int .i64 lo) := (by refine CellF.keep hb5 ?_; repeat (first | with_reducible exact q4_4_0 | with_reducible exact CellF.at_ (by simp) rfl | with_reducible refine CellF.past _ ?_ | with_reducible refine CellF.drew ?_ | with_reducible refine CellF.drewN _ ?_))
            have c5_5_0 := q5_5_0.1
            have q5_5_1 : CellF w5 ⟨bs, 1, none⟩ (.int .i64 hi) := (by refine CellF.keep hb5 ?_; repeat (first | with_reducible exact q4_4_1 | with_reducible exact CellF.at_ (by simp) rfl | with_reducible refine CellF.past _ ?_ | with_reducible refine CellF.drew ?_ | with_reducible refine CellF.drewN _ ?_))
            have c5_5_1 := q5_5_1.1
            have q5_5_2 : CellF w5 ⟨bs, 2, none⟩ (.bool true) := (by refine CellF.keep hb5 ?_; repeat (first | with_reducible exact q4_4_2 | with_reducible exact CellF.at_ (by simp) rfl | with_reducible refine CellF.past _ ?_ | with_reducible refine CellF.drew ?_ | with_reducible refine CellF.drewN _ ?_))
            have c5_5_2 := q5_5_2.1
            have z5_5 : bs < w5.heap.size := ltc c5_5_0
            clear q4_4_0 c4_4_0 q4_4_1 c4_4_1 q4_4_2 c4_4_2 z4_4
            all_goals (go_wp2; go_ret; exact ⟨rfl, (by repeat (first | exact brefl _ | refine balloc ?_ _ | refine bdrewN ?_ _ | refine bset ?_ (by dsimp only; omega) _ | refine bstep ?_ (by assumption)))⟩)
          | true =>
            cases i2 with
            | false =>
              go_wp2_with fail
              refine (alive_is _).mono ?_
              rintro e w5 ⟨rfl, hb5⟩
              have q5_5_0 : CellF w5 ⟨bs, 0, none⟩ (.int .i64 lo) := (by refine CellF.keep hb5 ?_; repeat (first | with_reducible exact q4_4_0 | with_reducible exact CellF.at_ (by simp) rfl | with_reducible refine CellF.past _ ?_ | with_reducible refine CellF.drew ?_ | with_reducible refine CellF.drewN _ ?_))
              have c5_5_0 := q5_5_0.1
              have q5_5_1 : CellF w5 ⟨bs, 1, none⟩ (.int .i64 hi) := (by refine CellF.keep hb5 ?_; repeat (first | with_reducible exact q4_4_1 | with_reducible exact CellF.at_ (by simp) rfl | with_reducible refine CellF.past _ ?_ | with_reducible refine CellF.drew ?_ | with_reducible refine CellF.drewN _ ?_))
              have c5_5_1 := q5_5_1.1
              have q5_5_2 : CellF w5 ⟨bs, 2, none⟩ (.bool true) := (by refine CellF.keep hb5 ?_; repeat (first | with_reducible exact q4_4_2 | with_reducible exact CellF.at_ (by simp) rfl | with_reducible refine CellF.past _ ?_ | with_reducible refine CellF.drew ?_ | with_reducible refine CellF.drewN _ ?_))
              have c5_5_2 := q5_5_2.1
              have z5_5 : bs < w5.heap.size := ltc c5_5_0
              clear q4_4_0 c4_4_0 q4_4_1 c4_4_1 q4_4_2 c4_4_2 z4_4
              all_goals (go_wp2; go_ret; exact ⟨rfl, (by repeat (first | exact brefl _ | refine balloc ?_ _ | refine bdrewN ?_ _ | refine bset ?_ (by dsimp only; omega) _ | refine bstep ?_ (by assumption)))⟩)
            | true =>
              have hn := scale_near hh (show (true && _) = true by rw [hr]; rfl) y1 (show 1000000000 - p ≤ 1000000000 + q by omega) (show 1000000000 + q ≤ 1000000000 + p by omega) e1 e2
              rw [e3] at hn
              have Z1 := Lib.hid hn.1
              have Z2 := Lib.hid hn.2
              go_wp2_with fail
              refine (Scale_is _ _ _ _ _ _ _ X3 _).mono ?_
              rintro e w5 ⟨rfl, hb5⟩
              have q5_5_0 : CellF w5 ⟨bs, 0, none⟩ (.int .i64 lo) := (by refine CellF.keep hb5 ?_; repeat (first | with_reducible exact q4_4_0 | with_reducible exact CellF.at_ (by simp) rfl | with_reducible refine CellF.past _ ?_ | with_reducible refine CellF.drew ?_ | with_reducible refine CellF.drewN _ ?_))
              have c5_5_0 := q5_5_0.1
              have q5_5_1 : CellF w5 ⟨bs, 1, none⟩ (.int .i64 hi) := (by refine CellF.keep hb5 ?_; repeat (first | with_reducible exact q4_4_1 | with_reducible exact CellF.at_ (by simp) rfl | with_reducible refine CellF.past _ ?_ | with_reducible refine CellF.drew ?_ | with_reducible refine CellF.drewN _ ?_))
              have c5_5_1 := q5_5_1.1
              have q5_5_2 : CellF w5 ⟨bs, 2, none⟩ (.bool true) := (by refine CellF.keep hb5 ?_; repeat (first | with_reducible exact q4_4_2 | with_reducible exact CellF.at_ (by simp) rfl | with_reducible refine CellF.past _ ?_ | with_reducible refine CellF.drew ?_ | with_reducible refine CellF.drewN _ ?_))
              have c5_5_2 := q5_5_2.1
              have z5_5 : bs < w5.heap.size := ltc c5_5_0
              clear q4_4_0 c4_4_0 q4_4_1 c4_4_1 q4_4_2 c4_4_2 z4_4
              go_wp2_with fail
              refine (alive_is _).mono ?_
              rintro e w6 ⟨rfl, hb6⟩
              have q6_6_0 : CellF w6 ⟨w5.heap.size, 0, none⟩ (.int .i64 t1) := (by refine CellF.keep hb6 ?_; (first | ((repeat (first | with_reducible exact CellF.at_ (by simp) rfl | with_reducible refine CellF.past _ ?_ | with_reducible refine CellF.drew ?_ | with_reducible refine CellF.drewN _ ?_)); done) | (refine ⟨?_, ?_⟩ <;> go_simp)))
              have c6_6_0 := q6_6_0.1
              have q6_6_1 : CellF w6 ⟨w5.heap.size, 1, none⟩ (.int .i64 t2) := (by refine CellF.keep hb6 ?_; (first | ((repeat (first | with_reducible exact CellF.at_ (by simp) rfl | with_reducible refine CellF.past _ ?_ | with_reducible refine CellF.drew ?_ | with_reducible refine CellF.drewN _ ?_)); done) | (refine ⟨?_, ?_⟩ <;> go_simp)))
              have c6_6_1 := q6_6_1.1
              have q6_6_2 : CellF w6 ⟨w5.heap.size, 2, none⟩ (.bool t3) := (by refine CellF.keep hb6 ?_; (first | ((repeat (first | with_reducible exact CellF.at_ (by simp) rfl | with_reducible refine CellF.past _ ?_ | with_reducible refine CellF.drew ?_ | with_reducible refine CellF.drewN _ ?_)); done) | (refine ⟨?_, ?_⟩ <;> go_simp)))
              have c6_6_2 := q6_6_2.1
              have z6_6 : w5.heap.size < w6.heap.size := ltc c6_6_0
              clear q5_5_0 c5_5_0 q5_5_1 c5_5_1 q5_5_2 c5_5_2 z5_5
              go_wp2_with fail
              refine (Has_is _ _ _ _ _ Z1 _).mono ?_
              rintro e w7 ⟨rfl, hb7⟩
              have q7_7_0 : CellF w7 ⟨w5.heap.size, 0, none⟩ (.int .i64 t1) := (by refine CellF.keep hb7 ?_; repeat (first | with_reducible exact q6_6_0 | with_reducible exact CellF.at_ (by simp) rfl | with_reducible refine CellF.past _ ?_ | with_reducible refine CellF.drew ?_ | with_reducible refine CellF.drewN _ ?_))
              have c7_7_0 := q7_7_0.1
              have q7_7_1 : CellF w7 ⟨w5.heap.size, 1, none⟩ (.int .i64 t2) := (by refine CellF.keep hb7 ?_; repeat (first | with_reducible exact q6_6_1 | with_reducible exact CellF.at_ (by simp) rfl | with_reducible refine CellF.past _ ?_ | with_reducible refine CellF.drew ?_ | with_reducible refine CellF.drewN _ ?_))
              have c7_7_1 := q7_7_1.1
              have q7_7_2 : CellF w7 ⟨w5.heap.size, 2, none⟩ (.bool t3) := (by refine CellF.keep hb7 ?_; repeat (first | with_reducible exact q6_6_2 | with_reducible exact CellF.at_ (by simp) rfl | with_reducible refine CellF.past _ ?_ | with_reducible refine CellF.drew ?_ | with_reducible refine CellF.drewN _ ?_))
              have c7_7_2 := q7_7_2.1
              have z7_7 : w5.heap.size < w7.heap.size := ltc c7_7_0
              clear q6_6_0 c6_6_0 q6_6_1 c6_6_1 q6_6_2 c6_6_2 z6_6
              go_wp2_with fail
              refine (Has_is _ _ _ _ _ Z2 _).mono ?_
              rintro e w8 ⟨rfl, hb8⟩
              have q8_8_0 : CellF w8 ⟨w5.heap.size, 0, none⟩ (.int .i64 t1) := (by refine CellF.keep hb8 ?_; repeat (first | with_reducible exact q7_7_0 | with_reducible exact CellF.at_ (by simp) rfl | with_reducible refine CellF.past _ ?_ | with_reducible refine CellF.drew ?_ | with_reducible refine CellF.drewN _ ?_))
              have c8_8_0 := q8_8_0.1
              have q8_8_1 : CellF w8 ⟨w5.heap.size, 1, none⟩ (.int .i64 t2) := (by refine CellF.keep hb8 ?_; repeat (first | with_reducible exact q7_7_1 | with_reducible exact CellF.at_ (by simp) rfl | with_reducible refine CellF.past _ ?_ | with_reducible refine CellF.drew ?_ | with_reducible refine CellF.drewN _ ?_))
              have c8_8_1 := q8_8_1.1
              have q8_8_2 : CellF w8 ⟨w5.heap.size, 2, none⟩ (.bool t3) := (by refine CellF.keep hb8 ?_; repeat (first | with_reducible exact q7_7_2 | with_reducible exact CellF.at_ (by simp) rfl | with_reducible refine CellF.past _ ?_ | with_reducible refine CellF.drew ?_ | with_reducible refine CellF.drewN _ ?_))
              have c8_8_2 := q8_8_2.1
              have z8_8 : w5.heap.size < w8.heap.size := ltc c8_8_0
              clear q7_7_0 c7_7_0 q7_7_1 c7_7_1 q7_7_2 c7_7_2 z7_7
              all_goals (go_wp2; go_ret; exact ⟨rfl, (by repeat (first | exact brefl _ | refine balloc ?_ _ | refine bdrewN ?_ _ | refine bset ?_ (by dsimp only; omega) _ | refine bstep ?_ (by assumption)))⟩)
end Go.Proofs.Ytldgcigdoncgdaa
