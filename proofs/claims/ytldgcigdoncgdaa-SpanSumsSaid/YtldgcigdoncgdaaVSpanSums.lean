/-
  The walk of the law SpanSums.
-/
import Derived.Test.YtldgcigdoncgdaaOwn
import Derived.Test.YtldgcigdoncgdaaInv
import Derived.BigQuiet
import Derived.Deep.QuietTactic
import Derived.Test.YtldgcigdoncgdaaMsl
namespace Go.Proofs.Ytldgcigdoncgdaa
open Go.RowKit

set_option maxHeartbeats 4000000 in
theorem SpanSums_walk (lo hi : Int) (k : Bool) (lo2 hi2 : Int) (k2 : Bool) (m n : Int) (w : World) (_ : I64 lo) (_ : I64 hi) (_ : I64 lo2) (_ : I64 hi2) (_ : I64 m) (_ : I64 n) :
    Calls Try.prog 8 #[.agg #[.int .i64 lo, .int .i64 hi, .bool k], .agg #[.int .i64 lo2, .int .i64 hi2, .bool k2], .agg #[.int .i64 m, .int .i64 n]] w fun e w' => e = .returned (.bool true) ∧ Below w.heap.size w w' := by
  go_enter Try.func8, Try.ntmps8
  go_upto_region 1 with (fail)
  go_cut [7, 8] (fun v7 v8 wc => ∃ bs bt, v7 = .pointer (some ⟨bs, 0, none⟩) ∧ v8 = .pointer (some ⟨bt, 0, none⟩) ∧ Hid (Below w.heap.size w wc) ∧ Hid (SpanAt wc bs lo hi k) ∧ Hid (SpanAt wc bt lo2 hi2 k2) ∧ Hid (CellF wc ⟨w.heap.size + 1 + 1, 0, none⟩ (.int .i64 m)) ∧ Hid (CellF wc ⟨w.heap.size + 1 + 1, 1, none⟩ (.int .i64 n)))
  case first =>
    generalize hu : ((w.alloc (.cells #[.int .i64 lo, .int .i64 hi, .bool k] 23)).alloc (.cells #[.int .i64 lo2, .int .i64 hi2, .bool k2] 23)).alloc (.cells #[.int .i64 m, .int .i64 n] 47) = u
    obtain ⟨hb, hs, A, B, C⟩ := three_blocks w u _ _ _ _ _ _ hu.symm
    have A0 := (A 0 _ rfl).1
    have A1 := (A 1 _ rfl).1
    have A2 := (A 2 _ rfl).1
    have B0 := (B 0 _ rfl).1
    have B1 := (B 1 _ rfl).1
    have B2 := (B 2 _ rfl).1
    have C0 := Lib.hid (C 0 _ rfl)
    have C1 := Lib.hid (C 1 _ rfl)
    have hs' := Lib.hid hs
    clear hu hs A B C
    refine wp_region_inv (by kernel_rfl) (fun l a w' => ∃ v7 v8 v15 v16 v17 v18, a = ⟨#[.agg #[.int .i64 lo, .int .i64 hi, .bool k], .agg #[.int .i64 lo2, .int .i64 hi2, .bool k2], .agg #[.int .i64 m, .int .i64 n], .pointer (some ⟨w.heap.size, 0, none⟩), .pointer (some ⟨w.heap.size + 1, 0, none⟩), .pointer (some ⟨w.heap.size + 1 + 1, 0, none⟩), .bool false, v7, v8, undef, undef, undef, undef, undef, undef, v15, v16, v17, v18, undef, undef, undef, undef, undef, undef, undef, undef, undef, undef, undef, undef, undef, undef, undef, undef, undef, undef, undef, undef, undef, undef, undef, undef, undef, undef, undef, undef, undef, undef, undef, undef, undef, undef, undef, undef, undef, undef, undef, undef, undef, undef, undef, undef, undef, undef, undef, undef, undef, undef, undef, undef, undef, undef, undef, undef, undef, undef, undef, undef, undef, undef, undef, undef, undef, undef, undef], []⟩ ∧ l.size = 8 ∧ Below u.heap.size u w' ∧
      (l.getD 0 false = true → v15 = .agg #[.int .i64 lo, .int .i64 hi, .bool k]) ∧ (l.getD 1 false = true → v16 = .agg #[.int .i64 lo, .int .i64 hi, .bool k]) ∧ (l.getD 2 false = true → v17 = .agg #[.int .i64 lo2, .int .i64 hi2, .bool k2]) ∧ (l.getD 3 false = true → v18 = .agg #[.int .i64 lo2, .int .i64 hi2, .bool k2]) ∧
      (l.getD 4 false = true → ∃ b, v7 = .pointer (some ⟨b, 0, none⟩) ∧ u.heap.size ≤ b ∧ (l.getD 5 false = true → v8 ≠ .pointer (some ⟨b, 0, none⟩)) ∧ (l.getD 6 false = false → SpanAt w' b 0 0 false) ∧ (l.getD 6 false = true → SpanAt w' b lo hi k)) ∧
      (l.getD 5 false = true → ∃ b, v8 = .pointer (some ⟨b, 0, none⟩) ∧ u.heap.size ≤ b ∧ (l.getD 7 false = false → SpanAt w' b 0 0 false) ∧ (l.getD 7 false = true → SpanAt w' b lo2 hi2 k2)) ∧ (l.getD 6 false = true → l.getD 4 false = true) ∧ (l.getD 7 false = true → l.getD 5 false = true)) ?_ ?_ ?_
    · --0
      exact ⟨undef, undef, undef, undef, undef, undef, rfl, rfl, bdrew (brefl _), fun h => (by cases h), fun h => (by cases h), fun h => (by cases h), fun h => (by cases h), fun h => (by cases h), fun h => (by cases h), fun h => (by cases h), fun h => (by cases h)⟩
    · intro i hii
      have hi8 : i < 8 := hii
      have h8 : i = 0 ∨ i = 1 ∨ i = 2 ∨ i = 3 ∨ i = 4 ∨ i = 5 ∨ i = 6 ∨ i = 7 := by omega
      rcases h8 with rfl | rfl | rfl | rfl | rfl | rfl | rfl | rfl
      · rintro l a w' hr ⟨v7, v8, v15, v16, v17, v18, rfl, hl, hB, h0, h1, h2, h3, h4, h5, h6, h7⟩
        have a0 := (hB.cell (ltc A0)).trans A0
        have a1 := (hB.cell (ltc A1)).trans A1
        have a2 := (hB.cell (ltc A2)).trans A2
        have b0 := (hB.cell (ltc B0)).trans B0
        have b1 := (hB.cell (ltc B1)).trans B1
        have b2 := (hB.cell (ltc B2)).trans B2
        refine wpOp_step rfl (fun K hK => ?_)
        clear A0 A1 A2 B0 B1 B2 hr
        go_simp
        refine hK _ _ ?_
        simp only [getD_own (l := l) (i := 0) (by omega), getD_set l (i := 0) (j := 1) (by decide), getD_set l (i := 0) (j := 2) (by decide), getD_set l (i := 0) (j := 3) (by decide), getD_set l (i := 0) (j := 4) (by decide), getD_set l (i := 0) (j := 5) (by decide), getD_set l (i := 0) (j := 6) (by decide), getD_set l (i := 0) (j := 7) (by decide)]
        exact ⟨v7, v8, _, v16, v17, v18, rfl, by simp [hl], hB, fun _ => rfl, h1, h2, h3, h4, h5, h6, h7⟩
      · rintro l a w' hr ⟨v7, v8, v15, v16, v17, v18, rfl, hl, hB, h0, h1, h2, h3, h4, h5, h6, h7⟩
        have d0 : l.getD 0 false = true := (ready_dep hr rfl).2 ⟨0, .data⟩ (by simp) rfl
        obtain rfl := h0 d0
        refine wpOp_step rfl (fun K hK => ?_)
        clear A0 A1 A2 B0 B1 B2 hr
        go_simp
        refine (own_is lo hi k _).mono ?_
        rintro e w1 ⟨rfl, hk⟩
        dsimp only
        refine hK _ _ ?_
        simp only [getD_own (l := l) (i := 1) (by omega), getD_set l (i := 1) (j := 0) (by decide), getD_set l (i := 1) (j := 2) (by decide), getD_set l (i := 1) (j := 3) (by decide), getD_set l (i := 1) (j := 4) (by decide), getD_set l (i := 1) (j := 5) (by decide), getD_set l (i := 1) (j := 6) (by decide), getD_set l (i := 1) (j := 7) (by decide)]
        exact ⟨v7, v8, _, _, v17, v18, rfl, by simp [hl], bstep hB hk, fun _ => rfl, fun _ => rfl, h2, h3, fun h => (by obtain ⟨b, e1, e2, e3, e4, e5⟩ := h4 h; exact ⟨b, e1, e2, e3, fun h => (e4 h).keep hk, fun h => (e5 h).keep hk⟩), fun h => (by obtain ⟨b, e1, e2, e4, e5⟩ := h5 h; exact ⟨b, e1, e2, fun h => (e4 h).keep hk, fun h => (e5 h).keep hk⟩), h6, h7⟩
      · rintro l a w' hr ⟨v7, v8, v15, v16, v17, v18, rfl, hl, hB, h0, h1, h2, h3, h4, h5, h6, h7⟩
        have a0 := (hB.cell (ltc A0)).trans A0
        have a1 := (hB.cell (ltc A1)).trans A1
        have a2 := (hB.cell (ltc A2)).trans A2
        have b0 := (hB.cell (ltc B0)).trans B0
        have b1 := (hB.cell (ltc B1)).trans B1
        have b2 := (hB.cell (ltc B2)).trans B2
        refine wpOp_step rfl (fun K hK => ?_)
        clear A0 A1 A2 B0 B1 B2 hr
        go_simp
        refine hK _ _ ?_
        simp only [getD_own (l := l) (i := 2) (by omega), getD_set l (i := 2) (j := 0) (by decide), getD_set l (i := 2) (j := 1) (by decide), getD_set l (i := 2) (j := 3) (by decide), getD_set l (i := 2) (j := 4) (by decide), getD_set l (i := 2) (j := 5) (by decide), getD_set l (i := 2) (j := 6) (by decide), getD_set l (i := 2) (j := 7) (by decide)]
        exact ⟨v7, v8, v15, v16, _, v18, rfl, by simp [hl], hB, h0, h1, fun _ => rfl, h3, h4, h5, h6, h7⟩
      · rintro l a w' hr ⟨v7, v8, v15, v16, v17, v18, rfl, hl, hB, h0, h1, h2, h3, h4, h5, h6, h7⟩
        have d0 : l.getD 2 false = true := (ready_dep hr rfl).2 ⟨2, .data⟩ (by simp) rfl
        obtain rfl := h2 d0
        refine wpOp_step rfl (fun K hK => ?_)
        clear A0 A1 A2 B0 B1 B2 hr
        go_simp
        refine (own_is lo2 hi2 k2 _).mono ?_
        rintro e w1 ⟨rfl, hk⟩
        dsimp only
        refine hK _ _ ?_
        simp only [getD_own (l := l) (i := 3) (by omega), getD_set l (i := 3) (j := 0) (by decide), getD_set l (i := 3) (j := 1) (by decide), getD_set l (i := 3) (j := 2) (by decide), getD_set l (i := 3) (j := 4) (by decide), getD_set l (i := 3) (j := 5) (by decide), getD_set l (i := 3) (j := 6) (by decide), getD_set l (i := 3) (j := 7) (by decide)]
        exact ⟨v7, v8, v15, v16, _, _, rfl, by simp [hl], bstep hB hk, h0, h1, fun _ => rfl, fun _ => rfl, fun h => (by obtain ⟨b, e1, e2, e3, e4, e5⟩ := h4 h; exact ⟨b, e1, e2, e3, fun h => (e4 h).keep hk, fun h => (e5 h).keep hk⟩), fun h => (by obtain ⟨b, e1, e2, e4, e5⟩ := h5 h; exact ⟨b, e1, e2, fun h => (e4 h).keep hk, fun h => (e5 h).keep hk⟩), h6, h7⟩
      · rintro l a w' hr ⟨v7, v8, v15, v16, v17, v18, rfl, hl, hB, h0, h1, h2, h3, h4, h5, h6, h7⟩
        have hz := hB.size
        have lt5 : ∀ b, (l.getD 7 false = false → SpanAt w' b 0 0 false) → (l.getD 7 false = true → SpanAt w' b lo2 hi2 k2) → b < w'.heap.size := fun b x y => by cases hc : l.getD 7 false with | false => exact (x hc).lt | true => exact (y hc).lt
        have hn := (ready_dep hr rfl).1
        have hn4 : l.getD 4 false = false := by cases hc : l.getD 4 false with | false => rfl | true => (exfalso; have hs4 := getD_both hc; rw [hs4] at hn; cases hn)
        have hu6 : l.getD 6 false = false := by cases hc : l.getD 6 false with | false => rfl | true => (rw [h6 hc] at hn4; cases hn4)
        refine wpOp_step rfl (fun K hK => ?_)
        clear A0 A1 A2 B0 B1 B2 hr
        go_simp
        refine hK _ _ ?_
        simp only [getD_own (l := l) (i := 4) (by omega), getD_set l (i := 4) (j := 0) (by decide), getD_set l (i := 4) (j := 1) (by decide), getD_set l (i := 4) (j := 2) (by decide), getD_set l (i := 4) (j := 3) (by decide), getD_set l (i := 4) (j := 5) (by decide), getD_set l (i := 4) (j := 6) (by decide), getD_set l (i := 4) (j := 7) (by decide)]
        exact ⟨_, v8, v15, v16, v17, v18, rfl, by simp [hl], balloc hB _, h0, h1, h2, h3, fun _ => ⟨_, rfl, hz, fun h => (by obtain ⟨b, e1, e2, e4, e5⟩ := h5 h; rw [e1]; exact ptr_ne (Nat.ne_of_lt (lt5 b e4 e5))), fun _ => SpanAt.new rfl, fun h => (by rw [hu6] at h; cases h)⟩, fun h => (by obtain ⟨b, e1, e2, e4, e5⟩ := h5 h; exact ⟨b, e1, e2, fun h => (e4 h).keep (balloc (brefl _) _), fun h => (e5 h).keep (balloc (brefl _) _)⟩), fun _ => (by first | rfl | trivial), h7⟩
      · rintro l a w' hr ⟨v7, v8, v15, v16, v17, v18, rfl, hl, hB, h0, h1, h2, h3, h4, h5, h6, h7⟩
        have hz := hB.size
        have lt4 : ∀ b, (l.getD 6 false = false → SpanAt w' b 0 0 false) → (l.getD 6 false = true → SpanAt w' b lo hi k) → b < w'.heap.size := fun b x y => by cases hc : l.getD 6 false with | false => exact (x hc).lt | true => exact (y hc).lt
        have hn := (ready_dep hr rfl).1
        have hn5 : l.getD 5 false = false := by cases hc : l.getD 5 false with | false => rfl | true => (exfalso; have hs4 := getD_both hc; rw [hs4] at hn; cases hn)
        have hu7 : l.getD 7 false = false := by cases hc : l.getD 7 false with | false => rfl | true => (rw [h7 hc] at hn5; cases hn5)
        refine wpOp_step rfl (fun K hK => ?_)
        clear A0 A1 A2 B0 B1 B2 hr
        go_simp
        refine hK _ _ ?_
        simp only [getD_own (l := l) (i := 5) (by omega), getD_set l (i := 5) (j := 0) (by decide), getD_set l (i := 5) (j := 1) (by decide), getD_set l (i := 5) (j := 2) (by decide), getD_set l (i := 5) (j := 3) (by decide), getD_set l (i := 5) (j := 4) (by decide), getD_set l (i := 5) (j := 6) (by decide), getD_set l (i := 5) (j := 7) (by decide)]
        exact ⟨v7, _, v15, v16, v17, v18, rfl, by simp [hl], balloc hB _, h0, h1, h2, h3, fun h => (by obtain ⟨b, e1, e2, e3, e4, e5⟩ := h4 h; exact ⟨b, e1, e2, fun _ => ptr_ne (Nat.ne_of_gt (lt4 b e4 e5)), fun h => (e4 h).keep (balloc (brefl _) _), fun h => (e5 h).keep (balloc (brefl _) _)⟩), fun _ => ⟨_, rfl, hz, fun _ => SpanAt.new rfl, fun h => (by rw [hu7] at h; cases h)⟩, h6, fun _ => (by first | rfl | trivial)⟩
      · rintro l a w' hr ⟨v7, v8, v15, v16, v17, v18, rfl, hl, hB, h0, h1, h2, h3, h4, h5, h6, h7⟩
        have d4 : l.getD 4 false = true := (ready_dep hr rfl).2 ⟨4, .data⟩ (by simp) rfl
        have d1 : l.getD 1 false = true := (ready_dep hr rfl).2 ⟨1, .data⟩ (by simp) rfl
        obtain rfl := h1 d1
        have hn := (ready_dep hr rfl).1
        have hn6 : l.getD 6 false = false := by cases hc : l.getD 6 false with | false => rfl | true => (exfalso; have hs4 := getD_both hc; rw [hs4] at hn; cases hn)
        obtain ⟨b, rfl, hub, hne, e4, _⟩ := h4 d4
        have hS := e4 hn6
        have hT := span_sets (x := lo) (y := hi) (z := k) hS
        have s0 := (hS).1.1
        have s1 := (hS).2.1.1
        have s2 := (hS).2.2.1
        have s3 := (hS).1.2
        have s4 := (hS).2.1.2
        have s5 := (hS).2.2.2
        refine wpOp_step rfl (fun K hK => ?_)
        clear A0 A1 A2 B0 B1 B2 hr
        clear hS e4
        go_simp
        refine hK _ _ ?_
        simp only [getD_own (l := l) (i := 6) (by omega), getD_set l (i := 6) (j := 0) (by decide), getD_set l (i := 6) (j := 1) (by decide), getD_set l (i := 6) (j := 2) (by decide), getD_set l (i := 6) (j := 3) (by decide), getD_set l (i := 6) (j := 4) (by decide), getD_set l (i := 6) (j := 5) (by decide), getD_set l (i := 6) (j := 7) (by decide)]
        exact ⟨_, v8, v15, _, v17, v18, rfl, by simp [hl], hB.trans (hT.2.2 _ hub), h0, fun _ => rfl, h2, h3, fun _ => ⟨b, rfl, hub, hne, fun h => (by cases h), fun _ => hT.1⟩, fun h => (by obtain ⟨b', e1, e2, x4, x5⟩ := h5 h; have hbb : b' ≠ b := fun hh => hne h (by rw [e1, hh]); exact ⟨b', e1, e2, fun h => hT.2.1 _ _ _ _ hbb (x4 h), fun h => hT.2.1 _ _ _ _ hbb (x5 h)⟩), fun _ => d4, h7⟩
      · rintro l a w' hr ⟨v7, v8, v15, v16, v17, v18, rfl, hl, hB, h0, h1, h2, h3, h4, h5, h6, h7⟩
        have d5 : l.getD 5 false = true := (ready_dep hr rfl).2 ⟨5, .data⟩ (by simp) rfl
        have d3 : l.getD 3 false = true := (ready_dep hr rfl).2 ⟨3, .data⟩ (by simp) rfl
        obtain rfl := h3 d3
        have hn := (ready_dep hr rfl).1
        have hn7 : l.getD 7 false = false := by cases hc : l.getD 7 false with | false => rfl | true => (exfalso; have hs4 := getD_both hc; rw [hs4] at hn; cases hn)
        obtain ⟨b, rfl, hub, e4, _⟩ := h5 d5
        have hS := e4 hn7
        have hT := span_sets (x := lo2) (y := hi2) (z := k2) hS
        have s0 := (hS).1.1
        have s1 := (hS).2.1.1
        have s2 := (hS).2.2.1
        have s3 := (hS).1.2
        have s4 := (hS).2.1.2
        have s5 := (hS).2.2.2
        refine wpOp_step rfl (fun K hK => ?_)
        clear A0 A1 A2 B0 B1 B2 hr
        clear hS e4
        go_simp
        refine hK _ _ ?_
        simp only [getD_own (l := l) (i := 7) (by omega), getD_set l (i := 7) (j := 0) (by decide), getD_set l (i := 7) (j := 1) (by decide), getD_set l (i := 7) (j := 2) (by decide), getD_set l (i := 7) (j := 3) (by decide), getD_set l (i := 7) (j := 4) (by decide), getD_set l (i := 7) (j := 5) (by decide), getD_set l (i := 7) (j := 6) (by decide)]
        exact ⟨v7, _, v15, v16, v17, _, rfl, by simp [hl], hB.trans (hT.2.2 _ hub), h0, h1, h2, fun _ => rfl, fun h => (by obtain ⟨b', e1, e2, x3, x4, x5⟩ := h4 h; have hbb : b' ≠ b := fun hh => x3 d5 (by rw [hh]); exact ⟨b', e1, e2, x3, fun h => hT.2.1 _ _ _ _ hbb (x4 h), fun h => hT.2.1 _ _ _ _ hbb (x5 h)⟩), fun _ => ⟨b, rfl, hub, fun h => (by cases h), fun _ => hT.1⟩, h6, fun _ => d5⟩
    · rintro l a w' ⟨v7, v8, v15, v16, v17, v18, rfl, hl, hB, h0, h1, h2, h3, h4, h5, h6, h7⟩ hr
      have hall := ready_all (by decide) hl hr
      obtain ⟨b, rfl, hub, _, _, e5⟩ := h4 (hall 4 (by decide))
      obtain ⟨b', rfl, hub', _, f5⟩ := h5 (hall 5 (by decide))
      go_wp2_with fail
      go_meet
      exact ⟨b, b', rfl, rfl, Lib.hid (hb.trans (hB.mono hb.size)), e5 (hall 6 (by decide)), f5 (hall 7 (by decide)), (CellF.keep hB C0.out), (CellF.keep hB C1.out)⟩
  case rest =>
    obtain ⟨bs, bt, rfl, rfl, HB, HS, HT, HM, HN⟩ := hcut
    have hwc := HB.out
    clear HB
    have M0 := HM.out.1
    have N0 := HN.out.1
    have S0 := HS.out.1.1
    have S1 := HS.out.2.1.1
    have S2 := HS.out.2.2.1
    have S3 := HS.out.1.2
    have S4 := HS.out.2.1.2
    have S5 := HS.out.2.2.2
    have T0 := HT.out.1.1
    have T1 := HT.out.2.1.1
    have T2 := HT.out.2.2.1
    have T3 := HT.out.1.2
    have T4 := HT.out.2.1.2
    have T5 := HT.out.2.2.2
    clear HS HT HM HN
    go_wp2_with fail
    go_quiet (fail)
    obtain ⟨r1, hr1⟩ : ∃ p, spRight ⟨lo, hi, k⟩ = p := ⟨_, rfl⟩
    have R1 := Lib.hid hr1
    cases r1 with
    | false =>
      go_wp2_with fail
      refine (Right_is _ _ _ _ R1 _).mono ?_
      rintro e w1 ⟨rfl, hb1⟩
      have q1_1_0 : CellF w1 ⟨bs, 0, none⟩ (.int .i64 lo) := (by refine CellF.keep hb1 ?_; refine ⟨?_, ?_⟩ <;> go_simp)
      have c1_1_0 := q1_1_0.1
      have q1_1_1 : CellF w1 ⟨bs, 1, none⟩ (.int .i64 hi) := (by refine CellF.keep hb1 ?_; refine ⟨?_, ?_⟩ <;> go_simp)
      have c1_1_1 := q1_1_1.1
      have q1_1_2 : CellF w1 ⟨bs, 2, none⟩ (.bool k) := (by refine CellF.keep hb1 ?_; refine ⟨?_, ?_⟩ <;> go_simp)
      have c1_1_2 := q1_1_2.1
      have z1_1 : bs < w1.heap.size := ltc c1_1_0
      have q1_2_0 : CellF w1 ⟨bt, 0, none⟩ (.int .i64 lo2) := (by refine CellF.keep hb1 ?_; refine ⟨?_, ?_⟩ <;> go_simp)
      have c1_2_0 := q1_2_0.1
      have q1_2_1 : CellF w1 ⟨bt, 1, none⟩ (.int .i64 hi2) := (by refine CellF.keep hb1 ?_; refine ⟨?_, ?_⟩ <;> go_simp)
      have c1_2_1 := q1_2_1.1
      have q1_2_2 : CellF w1 ⟨bt, 2, none⟩ (.bool k2) := (by refine CellF.keep hb1 ?_; refine ⟨?_, ?_⟩ <;> go_simp)
      have c1_2_2 := q1_2_2.1
      have z1_2 : bt < w1.heap.size := ltc c1_2_0
      go_wp2_with fail
      refine (alive_is _).mono ?_
      rintro e w2 ⟨rfl, hb2⟩
      go_wp2
      go_ret
      exact ⟨rfl, (by repeat (first | exact brefl _ | refine balloc ?_ _ | refine bdrewN ?_ _ | refine bset ?_ (by dsimp only; omega) _ | refine bstep ?_ (by assumption)))⟩
    | true =>
    obtain ⟨r2, hr2⟩ : ∃ p, spRight ⟨lo2, hi2, k2⟩ = p := ⟨_, rfl⟩
    have R2 := Lib.hid hr2
    cases r2 with
    | false =>
      go_wp2_with fail
      refine (Right_is _ _ _ _ R1 _).mono ?_
      rintro e w1 ⟨rfl, hb1⟩
      have q1_1_0 : CellF w1 ⟨bs, 0, none⟩ (.int .i64 lo) := (by refine CellF.keep hb1 ?_; refine ⟨?_, ?_⟩ <;> go_simp)
      have c1_1_0 := q1_1_0.1
      have q1_1_1 : CellF w1 ⟨bs, 1, none⟩ (.int .i64 hi) := (by refine CellF.keep hb1 ?_; refine ⟨?_, ?_⟩ <;> go_simp)
      have c1_1_1 := q1_1_1.1
      have q1_1_2 : CellF w1 ⟨bs, 2, none⟩ (.bool k) := (by refine CellF.keep hb1 ?_; refine ⟨?_, ?_⟩ <;> go_simp)
      have c1_1_2 := q1_1_2.1
      have z1_1 : bs < w1.heap.size := ltc c1_1_0
      have q1_2_0 : CellF w1 ⟨bt, 0, none⟩ (.int .i64 lo2) := (by refine CellF.keep hb1 ?_; refine ⟨?_, ?_⟩ <;> go_simp)
      have c1_2_0 := q1_2_0.1
      have q1_2_1 : CellF w1 ⟨bt, 1, none⟩ (.int .i64 hi2) := (by refine CellF.keep hb1 ?_; refine ⟨?_, ?_⟩ <;> go_simp)
      have c1_2_1 := q1_2_1.1
      have q1_2_2 : CellF w1 ⟨bt, 2, none⟩ (.bool k2) := (by refine CellF.keep hb1 ?_; refine ⟨?_, ?_⟩ <;> go_simp)
      have c1_2_2 := q1_2_2.1
      have z1_2 : bt < w1.heap.size := ltc c1_2_0
      go_wp2_with fail
      refine (Right_is _ _ _ _ R2 _).mono ?_
      rintro e w2 ⟨rfl, hb2⟩
      have q2_3_0 : CellF w2 ⟨bs, 0, none⟩ (.int .i64 lo) := (by first | exact CellF.keep hb2 q1_1_0 | exact CellF.keep hb2 (CellF.past _ q1_1_0) | exact CellF.keep hb2 (CellF.past _ (CellF.past _ q1_1_0)) | exact CellF.keep hb2 (CellF.drewN _ q1_1_0))
      have c2_3_0 := q2_3_0.1
      have q2_3_1 : CellF w2 ⟨bs, 1, none⟩ (.int .i64 hi) := (by first | exact CellF.keep hb2 q1_1_1 | exact CellF.keep hb2 (CellF.past _ q1_1_1) | exact CellF.keep hb2 (CellF.past _ (CellF.past _ q1_1_1)) | exact CellF.keep hb2 (CellF.drewN _ q1_1_1))
      have c2_3_1 := q2_3_1.1
      have q2_3_2 : CellF w2 ⟨bs, 2, none⟩ (.bool k) := (by first | exact CellF.keep hb2 q1_1_2 | exact CellF.keep hb2 (CellF.past _ q1_1_2) | exact CellF.keep hb2 (CellF.past _ (CellF.past _ q1_1_2)) | exact CellF.keep hb2 (CellF.drewN _ q1_1_2))
      have c2_3_2 := q2_3_2.1
      have z2_3 : bs < w2.heap.size := ltc c2_3_0
      clear q1_1_0 c1_1_0 q1_1_1 c1_1_1 q1_1_2 c1_1_2 z1_1
      have q2_4_0 : CellF w2 ⟨bt, 0, none⟩ (.int .i64 lo2) := (by first | exact CellF.keep hb2 q1_2_0 | exact CellF.keep hb2 (CellF.past _ q1_2_0) | exact CellF.keep hb2 (CellF.past _ (CellF.past _ q1_2_0)) | exact CellF.keep hb2 (CellF.drewN _ q1_2_0))
      have c2_4_0 := q2_4_0.1
      have q2_4_1 : CellF w2 ⟨bt, 1, none⟩ (.int .i64 hi2) := (by first | exact CellF.keep hb2 q1_2_1 | exact CellF.keep hb2 (CellF.past _ q1_2_1) | exact CellF.keep hb2 (CellF.past _ (CellF.past _ q1_2_1)) | exact CellF.keep hb2 (CellF.drewN _ q1_2_1))
      have c2_4_1 := q2_4_1.1
      have q2_4_2 : CellF w2 ⟨bt, 2, none⟩ (.bool k2) := (by first | exact CellF.keep hb2 q1_2_2 | exact CellF.keep hb2 (CellF.past _ q1_2_2) | exact CellF.keep hb2 (CellF.past _ (CellF.past _ q1_2_2)) | exact CellF.keep hb2 (CellF.drewN _ q1_2_2))
      have c2_4_2 := q2_4_2.1
      have z2_4 : bt < w2.heap.size := ltc c2_4_0
      clear q1_2_0 c1_2_0 q1_2_1 c1_2_1 q1_2_2 c1_2_2 z1_2
      go_wp2_with fail
      refine (alive_is _).mono ?_
      rintro e w3 ⟨rfl, hb3⟩
      go_wp2
      go_ret
      exact ⟨rfl, (by repeat (first | exact brefl _ | refine balloc ?_ _ | refine bdrewN ?_ _ | refine bset ?_ (by dsimp only; omega) _ | refine bstep ?_ (by assumption)))⟩
    | true =>
    obtain ⟨p1, hp1⟩ : ∃ p, spHas ⟨lo, hi, k⟩ m = p := ⟨_, rfl⟩
    have P1 := Lib.hid hp1
    cases p1 with
    | false =>
      go_wp2_with fail
      refine (Right_is _ _ _ _ R1 _).mono ?_
      rintro e w1 ⟨rfl, hb1⟩
      have q1_1_0 : CellF w1 ⟨bs, 0, none⟩ (.int .i64 lo) := (by refine CellF.keep hb1 ?_; refine ⟨?_, ?_⟩ <;> go_simp)
      have c1_1_0 := q1_1_0.1
      have q1_1_1 : CellF w1 ⟨bs, 1, none⟩ (.int .i64 hi) := (by refine CellF.keep hb1 ?_; refine ⟨?_, ?_⟩ <;> go_simp)
      have c1_1_1 := q1_1_1.1
      have q1_1_2 : CellF w1 ⟨bs, 2, none⟩ (.bool k) := (by refine CellF.keep hb1 ?_; refine ⟨?_, ?_⟩ <;> go_simp)
      have c1_1_2 := q1_1_2.1
      have z1_1 : bs < w1.heap.size := ltc c1_1_0
      have q1_2_0 : CellF w1 ⟨bt, 0, none⟩ (.int .i64 lo2) := (by refine CellF.keep hb1 ?_; refine ⟨?_, ?_⟩ <;> go_simp)
      have c1_2_0 := q1_2_0.1
      have q1_2_1 : CellF w1 ⟨bt, 1, none⟩ (.int .i64 hi2) := (by refine CellF.keep hb1 ?_; refine ⟨?_, ?_⟩ <;> go_simp)
      have c1_2_1 := q1_2_1.1
      have q1_2_2 : CellF w1 ⟨bt, 2, none⟩ (.bool k2) := (by refine CellF.keep hb1 ?_; refine ⟨?_, ?_⟩ <;> go_simp)
      have c1_2_2 := q1_2_2.1
      have z1_2 : bt < w1.heap.size := ltc c1_2_0
      go_wp2_with fail
      refine (Right_is _ _ _ _ R2 _).mono ?_
      rintro e w2 ⟨rfl, hb2⟩
      have q2_3_0 : CellF w2 ⟨bs, 0, none⟩ (.int .i64 lo) := (by first | exact CellF.keep hb2 q1_1_0 | exact CellF.keep hb2 (CellF.past _ q1_1_0) | exact CellF.keep hb2 (CellF.past _ (CellF.past _ q1_1_0)) | exact CellF.keep hb2 (CellF.drewN _ q1_1_0))
      have c2_3_0 := q2_3_0.1
      have q2_3_1 : CellF w2 ⟨bs, 1, none⟩ (.int .i64 hi) := (by first | exact CellF.keep hb2 q1_1_1 | exact CellF.keep hb2 (CellF.past _ q1_1_1) | exact CellF.keep hb2 (CellF.past _ (CellF.past _ q1_1_1)) | exact CellF.keep hb2 (CellF.drewN _ q1_1_1))
      have c2_3_1 := q2_3_1.1
      have q2_3_2 : CellF w2 ⟨bs, 2, none⟩ (.bool k) := (by first | exact CellF.keep hb2 q1_1_2 | exact CellF.keep hb2 (CellF.past _ q1_1_2) | exact CellF.keep hb2 (CellF.past _ (CellF.past _ q1_1_2)) | exact CellF.keep hb2 (CellF.drewN _ q1_1_2))
      have c2_3_2 := q2_3_2.1
      have z2_3 : bs < w2.heap.size := ltc c2_3_0
      clear q1_1_0 c1_1_0 q1_1_1 c1_1_1 q1_1_2 c1_1_2 z1_1
      have q2_4_0 : CellF w2 ⟨bt, 0, none⟩ (.int .i64 lo2) := (by first | exact CellF.keep hb2 q1_2_0 | exact CellF.keep hb2 (CellF.past _ q1_2_0) | exact CellF.keep hb2 (CellF.past _ (CellF.past _ q1_2_0)) | exact CellF.keep hb2 (CellF.drewN _ q1_2_0))
      have c2_4_0 := q2_4_0.1
      have q2_4_1 : CellF w2 ⟨bt, 1, none⟩ (.int .i64 hi2) := (by first | exact CellF.keep hb2 q1_2_1 | exact CellF.keep hb2 (CellF.past _ q1_2_1) | exact CellF.keep hb2 (CellF.past _ (CellF.past _ q1_2_1)) | exact CellF.keep hb2 (CellF.drewN _ q1_2_1))
      have c2_4_1 := q2_4_1.1
      have q2_4_2 : CellF w2 ⟨bt, 2, none⟩ (.bool k2) := (by first | exact CellF.keep hb2 q1_2_2 | exact CellF.keep hb2 (CellF.past _ q1_2_2) | exact CellF.keep hb2 (CellF.past _ (CellF.past _ q1_2_2)) | exact CellF.keep hb2 (CellF.drewN _ q1_2_2))
      have c2_4_2 := q2_4_2.1
      have z2_4 : bt < w2.heap.size := ltc c2_4_0
      clear q1_2_0 c1_2_0 q1_2_1 c1_2_1 q1_2_2 c1_2_2 z1_2
      go_wp2_with fail
      refine (Has_is _ _ _ _ _ P1 _).mono ?_
      rintro e w3 ⟨rfl, hb3⟩
      have q3_5_0 : CellF w3 ⟨bs, 0, none⟩ (.int .i64 lo) := (by first | exact CellF.keep hb3 q2_3_0 | exact CellF.keep hb3 (CellF.past _ q2_3_0) | exact CellF.keep hb3 (CellF.past _ (CellF.past _ q2_3_0)) | exact CellF.keep hb3 (CellF.drewN _ q2_3_0))
      have c3_5_0 := q3_5_0.1
      have q3_5_1 : CellF w3 ⟨bs, 1, none⟩ (.int .i64 hi) := (by first | exact CellF.keep hb3 q2_3_1 | exact CellF.keep hb3 (CellF.past _ q2_3_1) | exact CellF.keep hb3 (CellF.past _ (CellF.past _ q2_3_1)) | exact CellF.keep hb3 (CellF.drewN _ q2_3_1))
      have c3_5_1 := q3_5_1.1
      have q3_5_2 : CellF w3 ⟨bs, 2, none⟩ (.bool k) := (by first | exact CellF.keep hb3 q2_3_2 | exact CellF.keep hb3 (CellF.past _ q2_3_2) | exact CellF.keep hb3 (CellF.past _ (CellF.past _ q2_3_2)) | exact CellF.keep hb3 (CellF.drewN _ q2_3_2))
      have c3_5_2 := q3_5_2.1
      have z3_5 : bs < w3.heap.size := ltc c3_5_0
      clear q2_3_0 c2_3_0 q2_3_1 c2_3_1 q2_3_2 c2_3_2 z2_3
      have q3_6_0 : CellF w3 ⟨bt, 0, none⟩ (.int .i64 lo2) := (by first | exact CellF.keep hb3 q2_4_0 | exact CellF.keep hb3 (CellF.past _ q2_4_0) | exact CellF.keep hb3 (CellF.past _ (CellF.past _ q2_4_0)) | exact CellF.keep hb3 (CellF.drewN _ q2_4_0))
      have c3_6_0 := q3_6_0.1
      have q3_6_1 : CellF w3 ⟨bt, 1, none⟩ (.int .i64 hi2) := (by first | exact CellF.keep hb3 q2_4_1 | exact CellF.keep hb3 (CellF.past _ q2_4_1) | exact CellF.keep hb3 (CellF.past _ (CellF.past _ q2_4_1)) | exact CellF.keep hb3 (CellF.drewN _ q2_4_1))
      have c3_6_1 := q3_6_1.1
      have q3_6_2 : CellF w3 ⟨bt, 2, none⟩ (.bool k2) := (by first | exact CellF.keep hb3 q2_4_2 | exact CellF.keep hb3 (CellF.past _ q2_4_2) | exact CellF.keep hb3 (CellF.past _ (CellF.past _ q2_4_2)) | exact CellF.keep hb3 (CellF.drewN _ q2_4_2))
      have c3_6_2 := q3_6_2.1
      have z3_6 : bt < w3.heap.size := ltc c3_6_0
      clear q2_4_0 c2_4_0 q2_4_1 c2_4_1 q2_4_2 c2_4_2 z2_4
      go_wp2_with fail
      refine (alive_is _).mono ?_
      rintro e w4 ⟨rfl, hb4⟩
      go_wp2
      go_ret
      exact ⟨rfl, (by repeat (first | exact brefl _ | refine balloc ?_ _ | refine bdrewN ?_ _ | refine bset ?_ (by dsimp only; omega) _ | refine bstep ?_ (by assumption)))⟩
    | true =>
    obtain ⟨p2, hp2⟩ : ∃ p, spHas ⟨lo2, hi2, k2⟩ n = p := ⟨_, rfl⟩
    have P2 := Lib.hid hp2
    cases p2 with
    | false =>
      go_wp2_with fail
      refine (Right_is _ _ _ _ R1 _).mono ?_
      rintro e w1 ⟨rfl, hb1⟩
      have q1_1_0 : CellF w1 ⟨bs, 0, none⟩ (.int .i64 lo) := (by refine CellF.keep hb1 ?_; refine ⟨?_, ?_⟩ <;> go_simp)
      have c1_1_0 := q1_1_0.1
      have q1_1_1 : CellF w1 ⟨bs, 1, none⟩ (.int .i64 hi) := (by refine CellF.keep hb1 ?_; refine ⟨?_, ?_⟩ <;> go_simp)
      have c1_1_1 := q1_1_1.1
      have q1_1_2 : CellF w1 ⟨bs, 2, none⟩ (.bool k) := (by refine CellF.keep hb1 ?_; refine ⟨?_, ?_⟩ <;> go_simp)
      have c1_1_2 := q1_1_2.1
      have z1_1 : bs < w1.heap.size := ltc c1_1_0
      have q1_2_0 : CellF w1 ⟨bt, 0, none⟩ (.int .i64 lo2) := (by refine CellF.keep hb1 ?_; refine ⟨?_, ?_⟩ <;> go_simp)
      have c1_2_0 := q1_2_0.1
      have q1_2_1 : CellF w1 ⟨bt, 1, none⟩ (.int .i64 hi2) := (by refine CellF.keep hb1 ?_; refine ⟨?_, ?_⟩ <;> go_simp)
      have c1_2_1 := q1_2_1.1
      have q1_2_2 : CellF w1 ⟨bt, 2, none⟩ (.bool k2) := (by refine CellF.keep hb1 ?_; refine ⟨?_, ?_⟩ <;> go_simp)
      have c1_2_2 := q1_2_2.1
      have z1_2 : bt < w1.heap.size := ltc c1_2_0
      go_wp2_with fail
      refine (Right_is _ _ _ _ R2 _).mono ?_
      rintro e w2 ⟨rfl, hb2⟩
      have q2_3_0 : CellF w2 ⟨bs, 0, none⟩ (.int .i64 lo) := (by first | exact CellF.keep hb2 q1_1_0 | exact CellF.keep hb2 (CellF.past _ q1_1_0) | exact CellF.keep hb2 (CellF.past _ (CellF.past _ q1_1_0)) | exact CellF.keep hb2 (CellF.drewN _ q1_1_0))
      have c2_3_0 := q2_3_0.1
      have q2_3_1 : CellF w2 ⟨bs, 1, none⟩ (.int .i64 hi) := (by first | exact CellF.keep hb2 q1_1_1 | exact CellF.keep hb2 (CellF.past _ q1_1_1) | exact CellF.keep hb2 (CellF.past _ (CellF.past _ q1_1_1)) | exact CellF.keep hb2 (CellF.drewN _ q1_1_1))
      have c2_3_1 := q2_3_1.1
      have q2_3_2 : CellF w2 ⟨bs, 2, none⟩ (.bool k) := (by first | exact CellF.keep hb2 q1_1_2 | exact CellF.keep hb2 (CellF.past _ q1_1_2) | exact CellF.keep hb2 (CellF.past _ (CellF.past _ q1_1_2)) | exact CellF.keep hb2 (CellF.drewN _ q1_1_2))
      have c2_3_2 := q2_3_2.1
      have z2_3 : bs < w2.heap.size := ltc c2_3_0
      clear q1_1_0 c1_1_0 q1_1_1 c1_1_1 q1_1_2 c1_1_2 z1_1
      have q2_4_0 : CellF w2 ⟨bt, 0, none⟩ (.int .i64 lo2) := (by first | exact CellF.keep hb2 q1_2_0 | exact CellF.keep hb2 (CellF.past _ q1_2_0) | exact CellF.keep hb2 (CellF.past _ (CellF.past _ q1_2_0)) | exact CellF.keep hb2 (CellF.drewN _ q1_2_0))
      have c2_4_0 := q2_4_0.1
      have q2_4_1 : CellF w2 ⟨bt, 1, none⟩ (.int .i64 hi2) := (by first | exact CellF.keep hb2 q1_2_1 | exact CellF.keep hb2 (CellF.past _ q1_2_1) | exact CellF.keep hb2 (CellF.past _ (CellF.past _ q1_2_1)) | exact CellF.keep hb2 (CellF.drewN _ q1_2_1))
      have c2_4_1 := q2_4_1.1
      have q2_4_2 : CellF w2 ⟨bt, 2, none⟩ (.bool k2) := (by first | exact CellF.keep hb2 q1_2_2 | exact CellF.keep hb2 (CellF.past _ q1_2_2) | exact CellF.keep hb2 (CellF.past _ (CellF.past _ q1_2_2)) | exact CellF.keep hb2 (CellF.drewN _ q1_2_2))
      have c2_4_2 := q2_4_2.1
      have z2_4 : bt < w2.heap.size := ltc c2_4_0
      clear q1_2_0 c1_2_0 q1_2_1 c1_2_1 q1_2_2 c1_2_2 z1_2
      go_wp2_with fail
      refine (Has_is _ _ _ _ _ P1 _).mono ?_
      rintro e w3 ⟨rfl, hb3⟩
      have q3_5_0 : CellF w3 ⟨bs, 0, none⟩ (.int .i64 lo) := (by first | exact CellF.keep hb3 q2_3_0 | exact CellF.keep hb3 (CellF.past _ q2_3_0) | exact CellF.keep hb3 (CellF.past _ (CellF.past _ q2_3_0)) | exact CellF.keep hb3 (CellF.drewN _ q2_3_0))
      have c3_5_0 := q3_5_0.1
      have q3_5_1 : CellF w3 ⟨bs, 1, none⟩ (.int .i64 hi) := (by first | exact CellF.keep hb3 q2_3_1 | exact CellF.keep hb3 (CellF.past _ q2_3_1) | exact CellF.keep hb3 (CellF.past _ (CellF.past _ q2_3_1)) | exact CellF.keep hb3 (CellF.drewN _ q2_3_1))
      have c3_5_1 := q3_5_1.1
      have q3_5_2 : CellF w3 ⟨bs, 2, none⟩ (.bool k) := (by first | exact CellF.keep hb3 q2_3_2 | exact CellF.keep hb3 (CellF.past _ q2_3_2) | exact CellF.keep hb3 (CellF.past _ (CellF.past _ q2_3_2)) | exact CellF.keep hb3 (CellF.drewN _ q2_3_2))
      have c3_5_2 := q3_5_2.1
      have z3_5 : bs < w3.heap.size := ltc c3_5_0
      clear q2_3_0 c2_3_0 q2_3_1 c2_3_1 q2_3_2 c2_3_2 z2_3
      have q3_6_0 : CellF w3 ⟨bt, 0, none⟩ (.int .i64 lo2) := (by first | exact CellF.keep hb3 q2_4_0 | exact CellF.keep hb3 (CellF.past _ q2_4_0) | exact CellF.keep hb3 (CellF.past _ (CellF.past _ q2_4_0)) | exact CellF.keep hb3 (CellF.drewN _ q2_4_0))
      have c3_6_0 := q3_6_0.1
      have q3_6_1 : CellF w3 ⟨bt, 1, none⟩ (.int .i64 hi2) := (by first | exact CellF.keep hb3 q2_4_1 | exact CellF.keep hb3 (CellF.past _ q2_4_1) | exact CellF.keep hb3 (CellF.past _ (CellF.past _ q2_4_1)) | exact CellF.keep hb3 (CellF.drewN _ q2_4_1))
      have c3_6_1 := q3_6_1.1
      have q3_6_2 : CellF w3 ⟨bt, 2, none⟩ (.bool k2) := (by first | exact CellF.keep hb3 q2_4_2 | exact CellF.keep hb3 (CellF.past _ q2_4_2) | exact CellF.keep hb3 (CellF.past _ (CellF.past _ q2_4_2)) | exact CellF.keep hb3 (CellF.drewN _ q2_4_2))
      have c3_6_2 := q3_6_2.1
      have z3_6 : bt < w3.heap.size := ltc c3_6_0
      clear q2_4_0 c2_4_0 q2_4_1 c2_4_1 q2_4_2 c2_4_2 z2_4
      go_wp2_with fail
      refine (Has_is _ _ _ _ _ P2 _).mono ?_
      rintro e w4 ⟨rfl, hb4⟩
      have q4_7_0 : CellF w4 ⟨bs, 0, none⟩ (.int .i64 lo) := (by first | exact CellF.keep hb4 q3_5_0 | exact CellF.keep hb4 (CellF.past _ q3_5_0) | exact CellF.keep hb4 (CellF.past _ (CellF.past _ q3_5_0)) | exact CellF.keep hb4 (CellF.drewN _ q3_5_0))
      have c4_7_0 := q4_7_0.1
      have q4_7_1 : CellF w4 ⟨bs, 1, none⟩ (.int .i64 hi) := (by first | exact CellF.keep hb4 q3_5_1 | exact CellF.keep hb4 (CellF.past _ q3_5_1) | exact CellF.keep hb4 (CellF.past _ (CellF.past _ q3_5_1)) | exact CellF.keep hb4 (CellF.drewN _ q3_5_1))
      have c4_7_1 := q4_7_1.1
      have q4_7_2 : CellF w4 ⟨bs, 2, none⟩ (.bool k) := (by first | exact CellF.keep hb4 q3_5_2 | exact CellF.keep hb4 (CellF.past _ q3_5_2) | exact CellF.keep hb4 (CellF.past _ (CellF.past _ q3_5_2)) | exact CellF.keep hb4 (CellF.drewN _ q3_5_2))
      have c4_7_2 := q4_7_2.1
      have z4_7 : bs < w4.heap.size := ltc c4_7_0
      clear q3_5_0 c3_5_0 q3_5_1 c3_5_1 q3_5_2 c3_5_2 z3_5
      have q4_8_0 : CellF w4 ⟨bt, 0, none⟩ (.int .i64 lo2) := (by first | exact CellF.keep hb4 q3_6_0 | exact CellF.keep hb4 (CellF.past _ q3_6_0) | exact CellF.keep hb4 (CellF.past _ (CellF.past _ q3_6_0)) | exact CellF.keep hb4 (CellF.drewN _ q3_6_0))
      have c4_8_0 := q4_8_0.1
      have q4_8_1 : CellF w4 ⟨bt, 1, none⟩ (.int .i64 hi2) := (by first | exact CellF.keep hb4 q3_6_1 | exact CellF.keep hb4 (CellF.past _ q3_6_1) | exact CellF.keep hb4 (CellF.past _ (CellF.past _ q3_6_1)) | exact CellF.keep hb4 (CellF.drewN _ q3_6_1))
      have c4_8_1 := q4_8_1.1
      have q4_8_2 : CellF w4 ⟨bt, 2, none⟩ (.bool k2) := (by first | exact CellF.keep hb4 q3_6_2 | exact CellF.keep hb4 (CellF.past _ q3_6_2) | exact CellF.keep hb4 (CellF.past _ (CellF.past _ q3_6_2)) | exact CellF.keep hb4 (CellF.drewN _ q3_6_2))
      have c4_8_2 := q4_8_2.1
      have z4_8 : bt < w4.heap.size := ltc c4_8_0
      clear q3_6_0 c3_6_0 q3_6_1 c3_6_1 q3_6_2 c3_6_2 z3_6
      go_wp2_with fail
      refine (alive_is _).mono ?_
      rintro e w5 ⟨rfl, hb5⟩
      go_wp2
      go_ret
      exact ⟨rfl, (by repeat (first | exact brefl _ | refine balloc ?_ _ | refine bdrewN ?_ _ | refine bset ?_ (by dsimp only; omega) _ | refine bstep ?_ (by assumption)))⟩
    | true =>
    obtain ⟨x, is, ha⟩ : ∃ x p, addP m n = (x, p) := ⟨_, _, rfl⟩
    obtain ⟨y, has, hd⟩ : ∃ x p, subP m n = (x, p) := ⟨_, _, rfl⟩
    have A1' := Lib.hid ha
    have A2' := Lib.hid hd
    obtain ⟨⟨z1, z2, z3⟩, e1⟩ : ∃ s, spAdd ⟨lo, hi, k⟩ ⟨lo2, hi2, k2⟩ = s := ⟨_, rfl⟩
    obtain ⟨⟨u1, u2, u3⟩, e2⟩ : ∃ s, spShift ⟨lo, hi, k⟩ n = s := ⟨_, rfl⟩
    obtain ⟨⟨t1, t2, t3⟩, e3⟩ : ∃ s, spSub ⟨lo, hi, k⟩ ⟨lo2, hi2, k2⟩ = s := ⟨_, rfl⟩
    have X1 := Lib.hid e1
    have X2 := Lib.hid e2
    have X3 := Lib.hid e3
    cases is with
    | false =>
      cases has with
      | false =>
        clear hr1 hr2 hp1 hp2 ha hd e1 e2 e3
        go_wp2_with fail
        refine (Right_is _ _ _ _ R1 _).mono ?_
        rintro e w1 ⟨rfl, hb1⟩
        have q1_1_0 : CellF w1 ⟨bs, 0, none⟩ (.int .i64 lo) := (by refine CellF.keep hb1 ?_; refine ⟨?_, ?_⟩ <;> go_simp)
        have c1_1_0 := q1_1_0.1
        have q1_1_1 : CellF w1 ⟨bs, 1, none⟩ (.int .i64 hi) := (by refine CellF.keep hb1 ?_; refine ⟨?_, ?_⟩ <;> go_simp)
        have c1_1_1 := q1_1_1.1
        have q1_1_2 : CellF w1 ⟨bs, 2, none⟩ (.bool k) := (by refine CellF.keep hb1 ?_; refine ⟨?_, ?_⟩ <;> go_simp)
        have c1_1_2 := q1_1_2.1
        have z1_1 : bs < w1.heap.size := ltc c1_1_0
        have q1_2_0 : CellF w1 ⟨bt, 0, none⟩ (.int .i64 lo2) := (by refine CellF.keep hb1 ?_; refine ⟨?_, ?_⟩ <;> go_simp)
        have c1_2_0 := q1_2_0.1
        have q1_2_1 : CellF w1 ⟨bt, 1, none⟩ (.int .i64 hi2) := (by refine CellF.keep hb1 ?_; refine ⟨?_, ?_⟩ <;> go_simp)
        have c1_2_1 := q1_2_1.1
        have q1_2_2 : CellF w1 ⟨bt, 2, none⟩ (.bool k2) := (by refine CellF.keep hb1 ?_; refine ⟨?_, ?_⟩ <;> go_simp)
        have c1_2_2 := q1_2_2.1
        have z1_2 : bt < w1.heap.size := ltc c1_2_0
        go_wp2_with fail
        refine (Right_is _ _ _ _ R2 _).mono ?_
        rintro e w2 ⟨rfl, hb2⟩
        have q2_3_0 : CellF w2 ⟨bs, 0, none⟩ (.int .i64 lo) := (by first | exact CellF.keep hb2 q1_1_0 | exact CellF.keep hb2 (CellF.past _ q1_1_0) | exact CellF.keep hb2 (CellF.past _ (CellF.past _ q1_1_0)) | exact CellF.keep hb2 (CellF.drewN _ q1_1_0))
        have c2_3_0 := q2_3_0.1
        have q2_3_1 : CellF w2 ⟨bs, 1, none⟩ (.int .i64 hi) := (by first | exact CellF.keep hb2 q1_1_1 | exact CellF.keep hb2 (CellF.past _ q1_1_1) | exact CellF.keep hb2 (CellF.past _ (CellF.past _ q1_1_1)) | exact CellF.keep hb2 (CellF.drewN _ q1_1_1))
        have c2_3_1 := q2_3_1.1
        have q2_3_2 : CellF w2 ⟨bs, 2, none⟩ (.bool k) := (by first | exact CellF.keep hb2 q1_1_2 | exact CellF.keep hb2 (CellF.past _ q1_1_2) | exact CellF.keep hb2 (CellF.past _ (CellF.past _ q1_1_2)) | exact CellF.keep hb2 (CellF.drewN _ q1_1_2))
        have c2_3_2 := q2_3_2.1
        have z2_3 : bs < w2.heap.size := ltc c2_3_0
        clear q1_1_0 c1_1_0 q1_1_1 c1_1_1 q1_1_2 c1_1_2 z1_1
        have q2_4_0 : CellF w2 ⟨bt, 0, none⟩ (.int .i64 lo2) := (by first | exact CellF.keep hb2 q1_2_0 | exact CellF.keep hb2 (CellF.past _ q1_2_0) | exact CellF.keep hb2 (CellF.past _ (CellF.past _ q1_2_0)) | exact CellF.keep hb2 (CellF.drewN _ q1_2_0))
        have c2_4_0 := q2_4_0.1
        have q2_4_1 : CellF w2 ⟨bt, 1, none⟩ (.int .i64 hi2) := (by first | exact CellF.keep hb2 q1_2_1 | exact CellF.keep hb2 (CellF.past _ q1_2_1) | exact CellF.keep hb2 (CellF.past _ (CellF.past _ q1_2_1)) | exact CellF.keep hb2 (CellF.drewN _ q1_2_1))
        have c2_4_1 := q2_4_1.1
        have q2_4_2 : CellF w2 ⟨bt, 2, none⟩ (.bool k2) := (by first | exact CellF.keep hb2 q1_2_2 | exact CellF.keep hb2 (CellF.past _ q1_2_2) | exact CellF.keep hb2 (CellF.past _ (CellF.past _ q1_2_2)) | exact CellF.keep hb2 (CellF.drewN _ q1_2_2))
        have c2_4_2 := q2_4_2.1
        have z2_4 : bt < w2.heap.size := ltc c2_4_0
        clear q1_2_0 c1_2_0 q1_2_1 c1_2_1 q1_2_2 c1_2_2 z1_2
        go_wp2_with fail
        refine (Has_is _ _ _ _ _ P1 _).mono ?_
        rintro e w3 ⟨rfl, hb3⟩
        have q3_5_0 : CellF w3 ⟨bs, 0, none⟩ (.int .i64 lo) := (by first | exact CellF.keep hb3 q2_3_0 | exact CellF.keep hb3 (CellF.past _ q2_3_0) | exact CellF.keep hb3 (CellF.past _ (CellF.past _ q2_3_0)) | exact CellF.keep hb3 (CellF.drewN _ q2_3_0))
        have c3_5_0 := q3_5_0.1
        have q3_5_1 : CellF w3 ⟨bs, 1, none⟩ (.int .i64 hi) := (by first | exact CellF.keep hb3 q2_3_1 | exact CellF.keep hb3 (CellF.past _ q2_3_1) | exact CellF.keep hb3 (CellF.past _ (CellF.past _ q2_3_1)) | exact CellF.keep hb3 (CellF.drewN _ q2_3_1))
        have c3_5_1 := q3_5_1.1
        have q3_5_2 : CellF w3 ⟨bs, 2, none⟩ (.bool k) := (by first | exact CellF.keep hb3 q2_3_2 | exact CellF.keep hb3 (CellF.past _ q2_3_2) | exact CellF.keep hb3 (CellF.past _ (CellF.past _ q2_3_2)) | exact CellF.keep hb3 (CellF.drewN _ q2_3_2))
        have c3_5_2 := q3_5_2.1
        have z3_5 : bs < w3.heap.size := ltc c3_5_0
        clear q2_3_0 c2_3_0 q2_3_1 c2_3_1 q2_3_2 c2_3_2 z2_3
        have q3_6_0 : CellF w3 ⟨bt, 0, none⟩ (.int .i64 lo2) := (by first | exact CellF.keep hb3 q2_4_0 | exact CellF.keep hb3 (CellF.past _ q2_4_0) | exact CellF.keep hb3 (CellF.past _ (CellF.past _ q2_4_0)) | exact CellF.keep hb3 (CellF.drewN _ q2_4_0))
        have c3_6_0 := q3_6_0.1
        have q3_6_1 : CellF w3 ⟨bt, 1, none⟩ (.int .i64 hi2) := (by first | exact CellF.keep hb3 q2_4_1 | exact CellF.keep hb3 (CellF.past _ q2_4_1) | exact CellF.keep hb3 (CellF.past _ (CellF.past _ q2_4_1)) | exact CellF.keep hb3 (CellF.drewN _ q2_4_1))
        have c3_6_1 := q3_6_1.1
        have q3_6_2 : CellF w3 ⟨bt, 2, none⟩ (.bool k2) := (by first | exact CellF.keep hb3 q2_4_2 | exact CellF.keep hb3 (CellF.past _ q2_4_2) | exact CellF.keep hb3 (CellF.past _ (CellF.past _ q2_4_2)) | exact CellF.keep hb3 (CellF.drewN _ q2_4_2))
        have c3_6_2 := q3_6_2.1
        have z3_6 : bt < w3.heap.size := ltc c3_6_0
        clear q2_4_0 c2_4_0 q2_4_1 c2_4_1 q2_4_2 c2_4_2 z2_4
        go_wp2_with fail
        refine (Has_is _ _ _ _ _ P2 _).mono ?_
        rintro e w4 ⟨rfl, hb4⟩
        have q4_7_0 : CellF w4 ⟨bs, 0, none⟩ (.int .i64 lo) := (by first | exact CellF.keep hb4 q3_5_0 | exact CellF.keep hb4 (CellF.past _ q3_5_0) | exact CellF.keep hb4 (CellF.past _ (CellF.past _ q3_5_0)) | exact CellF.keep hb4 (CellF.drewN _ q3_5_0))
        have c4_7_0 := q4_7_0.1
        have q4_7_1 : CellF w4 ⟨bs, 1, none⟩ (.int .i64 hi) := (by first | exact CellF.keep hb4 q3_5_1 | exact CellF.keep hb4 (CellF.past _ q3_5_1) | exact CellF.keep hb4 (CellF.past _ (CellF.past _ q3_5_1)) | exact CellF.keep hb4 (CellF.drewN _ q3_5_1))
        have c4_7_1 := q4_7_1.1
        have q4_7_2 : CellF w4 ⟨bs, 2, none⟩ (.bool k) := (by first | exact CellF.keep hb4 q3_5_2 | exact CellF.keep hb4 (CellF.past _ q3_5_2) | exact CellF.keep hb4 (CellF.past _ (CellF.past _ q3_5_2)) | exact CellF.keep hb4 (CellF.drewN _ q3_5_2))
        have c4_7_2 := q4_7_2.1
        have z4_7 : bs < w4.heap.size := ltc c4_7_0
        clear q3_5_0 c3_5_0 q3_5_1 c3_5_1 q3_5_2 c3_5_2 z3_5
        have q4_8_0 : CellF w4 ⟨bt, 0, none⟩ (.int .i64 lo2) := (by first | exact CellF.keep hb4 q3_6_0 | exact CellF.keep hb4 (CellF.past _ q3_6_0) | exact CellF.keep hb4 (CellF.past _ (CellF.past _ q3_6_0)) | exact CellF.keep hb4 (CellF.drewN _ q3_6_0))
        have c4_8_0 := q4_8_0.1
        have q4_8_1 : CellF w4 ⟨bt, 1, none⟩ (.int .i64 hi2) := (by first | exact CellF.keep hb4 q3_6_1 | exact CellF.keep hb4 (CellF.past _ q3_6_1) | exact CellF.keep hb4 (CellF.past _ (CellF.past _ q3_6_1)) | exact CellF.keep hb4 (CellF.drewN _ q3_6_1))
        have c4_8_1 := q4_8_1.1
        have q4_8_2 : CellF w4 ⟨bt, 2, none⟩ (.bool k2) := (by first | exact CellF.keep hb4 q3_6_2 | exact CellF.keep hb4 (CellF.past _ q3_6_2) | exact CellF.keep hb4 (CellF.past _ (CellF.past _ q3_6_2)) | exact CellF.keep hb4 (CellF.drewN _ q3_6_2))
        have c4_8_2 := q4_8_2.1
        have z4_8 : bt < w4.heap.size := ltc c4_8_0
        clear q3_6_0 c3_6_0 q3_6_1 c3_6_1 q3_6_2 c3_6_2 z3_6
        go_wp2_with fail
        refine (Add_is _ _ _ _ A1' _).mono ?_
        rintro e w5 ⟨rfl, hb5⟩
        have q5_9_0 : CellF w5 ⟨bs, 0, none⟩ (.int .i64 lo) := (by first | exact CellF.keep hb5 q4_7_0 | exact CellF.keep hb5 (CellF.past _ q4_7_0) | exact CellF.keep hb5 (CellF.past _ (CellF.past _ q4_7_0)) | exact CellF.keep hb5 (CellF.drewN _ q4_7_0))
        have c5_9_0 := q5_9_0.1
        have q5_9_1 : CellF w5 ⟨bs, 1, none⟩ (.int .i64 hi) := (by first | exact CellF.keep hb5 q4_7_1 | exact CellF.keep hb5 (CellF.past _ q4_7_1) | exact CellF.keep hb5 (CellF.past _ (CellF.past _ q4_7_1)) | exact CellF.keep hb5 (CellF.drewN _ q4_7_1))
        have c5_9_1 := q5_9_1.1
        have q5_9_2 : CellF w5 ⟨bs, 2, none⟩ (.bool k) := (by first | exact CellF.keep hb5 q4_7_2 | exact CellF.keep hb5 (CellF.past _ q4_7_2) | exact CellF.keep hb5 (CellF.past _ (CellF.past _ q4_7_2)) | exact CellF.keep hb5 (CellF.drewN _ q4_7_2))
        have c5_9_2 := q5_9_2.1
        have z5_9 : bs < w5.heap.size := ltc c5_9_0
        clear q4_7_0 c4_7_0 q4_7_1 c4_7_1 q4_7_2 c4_7_2 z4_7
        have q5_10_0 : CellF w5 ⟨bt, 0, none⟩ (.int .i64 lo2) := (by first | exact CellF.keep hb5 q4_8_0 | exact CellF.keep hb5 (CellF.past _ q4_8_0) | exact CellF.keep hb5 (CellF.past _ (CellF.past _ q4_8_0)) | exact CellF.keep hb5 (CellF.drewN _ q4_8_0))
        have c5_10_0 := q5_10_0.1
        have q5_10_1 : CellF w5 ⟨bt, 1, none⟩ (.int .i64 hi2) := (by first | exact CellF.keep hb5 q4_8_1 | exact CellF.keep hb5 (CellF.past _ q4_8_1) | exact CellF.keep hb5 (CellF.past _ (CellF.past _ q4_8_1)) | exact CellF.keep hb5 (CellF.drewN _ q4_8_1))
        have c5_10_1 := q5_10_1.1
        have q5_10_2 : CellF w5 ⟨bt, 2, none⟩ (.bool k2) := (by first | exact CellF.keep hb5 q4_8_2 | exact CellF.keep hb5 (CellF.past _ q4_8_2) | exact CellF.keep hb5 (CellF.past _ (CellF.past _ q4_8_2)) | exact CellF.keep hb5 (CellF.drewN _ q4_8_2))
        have c5_10_2 := q5_10_2.1
        have z5_10 : bt < w5.heap.size := ltc c5_10_0
        clear q4_8_0 c4_8_0 q4_8_1 c4_8_1 q4_8_2 c4_8_2 z4_8
        go_wp2_with fail
        refine (Sub_is _ _ _ _ A2' _).mono ?_
        rintro e w6 ⟨rfl, hb6⟩
        have q6_11_0 : CellF w6 ⟨bs, 0, none⟩ (.int .i64 lo) := (by first | exact CellF.keep hb6 q5_9_0 | exact CellF.keep hb6 (CellF.past _ q5_9_0) | exact CellF.keep hb6 (CellF.past _ (CellF.past _ q5_9_0)) | exact CellF.keep hb6 (CellF.drewN _ q5_9_0))
        have c6_11_0 := q6_11_0.1
        have q6_11_1 : CellF w6 ⟨bs, 1, none⟩ (.int .i64 hi) := (by first | exact CellF.keep hb6 q5_9_1 | exact CellF.keep hb6 (CellF.past _ q5_9_1) | exact CellF.keep hb6 (CellF.past _ (CellF.past _ q5_9_1)) | exact CellF.keep hb6 (CellF.drewN _ q5_9_1))
        have c6_11_1 := q6_11_1.1
        have q6_11_2 : CellF w6 ⟨bs, 2, none⟩ (.bool k) := (by first | exact CellF.keep hb6 q5_9_2 | exact CellF.keep hb6 (CellF.past _ q5_9_2) | exact CellF.keep hb6 (CellF.past _ (CellF.past _ q5_9_2)) | exact CellF.keep hb6 (CellF.drewN _ q5_9_2))
        have c6_11_2 := q6_11_2.1
        have z6_11 : bs < w6.heap.size := ltc c6_11_0
        clear q5_9_0 c5_9_0 q5_9_1 c5_9_1 q5_9_2 c5_9_2 z5_9
        have q6_12_0 : CellF w6 ⟨bt, 0, none⟩ (.int .i64 lo2) := (by first | exact CellF.keep hb6 q5_10_0 | exact CellF.keep hb6 (CellF.past _ q5_10_0) | exact CellF.keep hb6 (CellF.past _ (CellF.past _ q5_10_0)) | exact CellF.keep hb6 (CellF.drewN _ q5_10_0))
        have c6_12_0 := q6_12_0.1
        have q6_12_1 : CellF w6 ⟨bt, 1, none⟩ (.int .i64 hi2) := (by first | exact CellF.keep hb6 q5_10_1 | exact CellF.keep hb6 (CellF.past _ q5_10_1) | exact CellF.keep hb6 (CellF.past _ (CellF.past _ q5_10_1)) | exact CellF.keep hb6 (CellF.drewN _ q5_10_1))
        have c6_12_1 := q6_12_1.1
        have q6_12_2 : CellF w6 ⟨bt, 2, none⟩ (.bool k2) := (by first | exact CellF.keep hb6 q5_10_2 | exact CellF.keep hb6 (CellF.past _ q5_10_2) | exact CellF.keep hb6 (CellF.past _ (CellF.past _ q5_10_2)) | exact CellF.keep hb6 (CellF.drewN _ q5_10_2))
        have c6_12_2 := q6_12_2.1
        have z6_12 : bt < w6.heap.size := ltc c6_12_0
        clear q5_10_0 c5_10_0 q5_10_1 c5_10_1 q5_10_2 c5_10_2 z5_10
        go_wp2_with fail
        refine (alive_is _).mono ?_
        rintro e w7 ⟨rfl, hb7⟩
        go_wp2
        go_ret
        exact ⟨rfl, (by repeat (first | exact brefl _ | refine balloc ?_ _ | refine bdrewN ?_ _ | refine bset ?_ (by dsimp only; omega) _ | refine bstep ?_ (by assumption)))⟩
      | true =>
        have Y3 := Lib.hid (e3 ▸ has_sub hp1 hp2 hd)
        clear hr1 hr2 hp1 hp2 ha hd e1 e2 e3
        go_wp2_with fail
        refine (Right_is _ _ _ _ R1 _).mono ?_
        rintro e w1 ⟨rfl, hb1⟩
        have q1_1_0 : CellF w1 ⟨bs, 0, none⟩ (.int .i64 lo) := (by refine CellF.keep hb1 ?_; refine ⟨?_, ?_⟩ <;> go_simp)
        have c1_1_0 := q1_1_0.1
        have q1_1_1 : CellF w1 ⟨bs, 1, none⟩ (.int .i64 hi) := (by refine CellF.keep hb1 ?_; refine ⟨?_, ?_⟩ <;> go_simp)
        have c1_1_1 := q1_1_1.1
        have q1_1_2 : CellF w1 ⟨bs, 2, none⟩ (.bool k) := (by refine CellF.keep hb1 ?_; refine ⟨?_, ?_⟩ <;> go_simp)
        have c1_1_2 := q1_1_2.1
        have z1_1 : bs < w1.heap.size := ltc c1_1_0
        have q1_2_0 : CellF w1 ⟨bt, 0, none⟩ (.int .i64 lo2) := (by refine CellF.keep hb1 ?_; refine ⟨?_, ?_⟩ <;> go_simp)
        have c1_2_0 := q1_2_0.1
        have q1_2_1 : CellF w1 ⟨bt, 1, none⟩ (.int .i64 hi2) := (by refine CellF.keep hb1 ?_; refine ⟨?_, ?_⟩ <;> go_simp)
        have c1_2_1 := q1_2_1.1
        have q1_2_2 : CellF w1 ⟨bt, 2, none⟩ (.bool k2) := (by refine CellF.keep hb1 ?_; refine ⟨?_, ?_⟩ <;> go_simp)
        have c1_2_2 := q1_2_2.1
        have z1_2 : bt < w1.heap.size := ltc c1_2_0
        go_wp2_with fail
        refine (Right_is _ _ _ _ R2 _).mono ?_
        rintro e w2 ⟨rfl, hb2⟩
        have q2_3_0 : CellF w2 ⟨bs, 0, none⟩ (.int .i64 lo) := (by first | exact CellF.keep hb2 q1_1_0 | exact CellF.keep hb2 (CellF.past _ q1_1_0) | exact CellF.keep hb2 (CellF.past _ (CellF.past _ q1_1_0)) | exact CellF.keep hb2 (CellF.drewN _ q1_1_0))
        have c2_3_0 := q2_3_0.1
        have q2_3_1 : CellF w2 ⟨bs, 1, none⟩ (.int .i64 hi) := (by first | exact CellF.keep hb2 q1_1_1 | exact CellF.keep hb2 (CellF.past _ q1_1_1) | exact CellF.keep hb2 (CellF.past _ (CellF.past _ q1_1_1)) | exact CellF.keep hb2 (CellF.drewN _ q1_1_1))
        have c2_3_1 := q2_3_1.1
        have q2_3_2 : CellF w2 ⟨bs, 2, none⟩ (.bool k) := (by first | exact CellF.keep hb2 q1_1_2 | exact CellF.keep hb2 (CellF.past _ q1_1_2) | exact CellF.keep hb2 (CellF.past _ (CellF.past _ q1_1_2)) | exact CellF.keep hb2 (CellF.drewN _ q1_1_2))
        have c2_3_2 := q2_3_2.1
        have z2_3 : bs < w2.heap.size := ltc c2_3_0
        clear q1_1_0 c1_1_0 q1_1_1 c1_1_1 q1_1_2 c1_1_2 z1_1
        have q2_4_0 : CellF w2 ⟨bt, 0, none⟩ (.int .i64 lo2) := (by first | exact CellF.keep hb2 q1_2_0 | exact CellF.keep hb2 (CellF.past _ q1_2_0) | exact CellF.keep hb2 (CellF.past _ (CellF.past _ q1_2_0)) | exact CellF.keep hb2 (CellF.drewN _ q1_2_0))
        have c2_4_0 := q2_4_0.1
        have q2_4_1 : CellF w2 ⟨bt, 1, none⟩ (.int .i64 hi2) := (by first | exact CellF.keep hb2 q1_2_1 | exact CellF.keep hb2 (CellF.past _ q1_2_1) | exact CellF.keep hb2 (CellF.past _ (CellF.past _ q1_2_1)) | exact CellF.keep hb2 (CellF.drewN _ q1_2_1))
        have c2_4_1 := q2_4_1.1
        have q2_4_2 : CellF w2 ⟨bt, 2, none⟩ (.bool k2) := (by first | exact CellF.keep hb2 q1_2_2 | exact CellF.keep hb2 (CellF.past _ q1_2_2) | exact CellF.keep hb2 (CellF.past _ (CellF.past _ q1_2_2)) | exact CellF.keep hb2 (CellF.drewN _ q1_2_2))
        have c2_4_2 := q2_4_2.1
        have z2_4 : bt < w2.heap.size := ltc c2_4_0
        clear q1_2_0 c1_2_0 q1_2_1 c1_2_1 q1_2_2 c1_2_2 z1_2
        go_wp2_with fail
        refine (Has_is _ _ _ _ _ P1 _).mono ?_
        rintro e w3 ⟨rfl, hb3⟩
        have q3_5_0 : CellF w3 ⟨bs, 0, none⟩ (.int .i64 lo) := (by first | exact CellF.keep hb3 q2_3_0 | exact CellF.keep hb3 (CellF.past _ q2_3_0) | exact CellF.keep hb3 (CellF.past _ (CellF.past _ q2_3_0)) | exact CellF.keep hb3 (CellF.drewN _ q2_3_0))
        have c3_5_0 := q3_5_0.1
        have q3_5_1 : CellF w3 ⟨bs, 1, none⟩ (.int .i64 hi) := (by first | exact CellF.keep hb3 q2_3_1 | exact CellF.keep hb3 (CellF.past _ q2_3_1) | exact CellF.keep hb3 (CellF.past _ (CellF.past _ q2_3_1)) | exact CellF.keep hb3 (CellF.drewN _ q2_3_1))
        have c3_5_1 := q3_5_1.1
        have q3_5_2 : CellF w3 ⟨bs, 2, none⟩ (.bool k) := (by first | exact CellF.keep hb3 q2_3_2 | exact CellF.keep hb3 (CellF.past _ q2_3_2) | exact CellF.keep hb3 (CellF.past _ (CellF.past _ q2_3_2)) | exact CellF.keep hb3 (CellF.drewN _ q2_3_2))
        have c3_5_2 := q3_5_2.1
        have z3_5 : bs < w3.heap.size := ltc c3_5_0
        clear q2_3_0 c2_3_0 q2_3_1 c2_3_1 q2_3_2 c2_3_2 z2_3
        have q3_6_0 : CellF w3 ⟨bt, 0, none⟩ (.int .i64 lo2) := (by first | exact CellF.keep hb3 q2_4_0 | exact CellF.keep hb3 (CellF.past _ q2_4_0) | exact CellF.keep hb3 (CellF.past _ (CellF.past _ q2_4_0)) | exact CellF.keep hb3 (CellF.drewN _ q2_4_0))
        have c3_6_0 := q3_6_0.1
        have q3_6_1 : CellF w3 ⟨bt, 1, none⟩ (.int .i64 hi2) := (by first | exact CellF.keep hb3 q2_4_1 | exact CellF.keep hb3 (CellF.past _ q2_4_1) | exact CellF.keep hb3 (CellF.past _ (CellF.past _ q2_4_1)) | exact CellF.keep hb3 (CellF.drewN _ q2_4_1))
        have c3_6_1 := q3_6_1.1
        have q3_6_2 : CellF w3 ⟨bt, 2, none⟩ (.bool k2) := (by first | exact CellF.keep hb3 q2_4_2 | exact CellF.keep hb3 (CellF.past _ q2_4_2) | exact CellF.keep hb3 (CellF.past _ (CellF.past _ q2_4_2)) | exact CellF.keep hb3 (CellF.drewN _ q2_4_2))
        have c3_6_2 := q3_6_2.1
        have z3_6 : bt < w3.heap.size := ltc c3_6_0
        clear q2_4_0 c2_4_0 q2_4_1 c2_4_1 q2_4_2 c2_4_2 z2_4
        go_wp2_with fail
        refine (Has_is _ _ _ _ _ P2 _).mono ?_
        rintro e w4 ⟨rfl, hb4⟩
        have q4_7_0 : CellF w4 ⟨bs, 0, none⟩ (.int .i64 lo) := (by first | exact CellF.keep hb4 q3_5_0 | exact CellF.keep hb4 (CellF.past _ q3_5_0) | exact CellF.keep hb4 (CellF.past _ (CellF.past _ q3_5_0)) | exact CellF.keep hb4 (CellF.drewN _ q3_5_0))
        have c4_7_0 := q4_7_0.1
        have q4_7_1 : CellF w4 ⟨bs, 1, none⟩ (.int .i64 hi) := (by first | exact CellF.keep hb4 q3_5_1 | exact CellF.keep hb4 (CellF.past _ q3_5_1) | exact CellF.keep hb4 (CellF.past _ (CellF.past _ q3_5_1)) | exact CellF.keep hb4 (CellF.drewN _ q3_5_1))
        have c4_7_1 := q4_7_1.1
        have q4_7_2 : CellF w4 ⟨bs, 2, none⟩ (.bool k) := (by first | exact CellF.keep hb4 q3_5_2 | exact CellF.keep hb4 (CellF.past _ q3_5_2) | exact CellF.keep hb4 (CellF.past _ (CellF.past _ q3_5_2)) | exact CellF.keep hb4 (CellF.drewN _ q3_5_2))
        have c4_7_2 := q4_7_2.1
        have z4_7 : bs < w4.heap.size := ltc c4_7_0
        clear q3_5_0 c3_5_0 q3_5_1 c3_5_1 q3_5_2 c3_5_2 z3_5
        have q4_8_0 : CellF w4 ⟨bt, 0, none⟩ (.int .i64 lo2) := (by first | exact CellF.keep hb4 q3_6_0 | exact CellF.keep hb4 (CellF.past _ q3_6_0) | exact CellF.keep hb4 (CellF.past _ (CellF.past _ q3_6_0)) | exact CellF.keep hb4 (CellF.drewN _ q3_6_0))
        have c4_8_0 := q4_8_0.1
        have q4_8_1 : CellF w4 ⟨bt, 1, none⟩ (.int .i64 hi2) := (by first | exact CellF.keep hb4 q3_6_1 | exact CellF.keep hb4 (CellF.past _ q3_6_1) | exact CellF.keep hb4 (CellF.past _ (CellF.past _ q3_6_1)) | exact CellF.keep hb4 (CellF.drewN _ q3_6_1))
        have c4_8_1 := q4_8_1.1
        have q4_8_2 : CellF w4 ⟨bt, 2, none⟩ (.bool k2) := (by first | exact CellF.keep hb4 q3_6_2 | exact CellF.keep hb4 (CellF.past _ q3_6_2) | exact CellF.keep hb4 (CellF.past _ (CellF.past _ q3_6_2)) | exact CellF.keep hb4 (CellF.drewN _ q3_6_2))
        have c4_8_2 := q4_8_2.1
        have z4_8 : bt < w4.heap.size := ltc c4_8_0
        clear q3_6_0 c3_6_0 q3_6_1 c3_6_1 q3_6_2 c3_6_2 z3_6
        go_wp2_with fail
        refine (Add_is _ _ _ _ A1' _).mono ?_
        rintro e w5 ⟨rfl, hb5⟩
        have q5_9_0 : CellF w5 ⟨bs, 0, none⟩ (.int .i64 lo) := (by first | exact CellF.keep hb5 q4_7_0 | exact CellF.keep hb5 (CellF.past _ q4_7_0) | exact CellF.keep hb5 (CellF.past _ (CellF.past _ q4_7_0)) | exact CellF.keep hb5 (CellF.drewN _ q4_7_0))
        have c5_9_0 := q5_9_0.1
        have q5_9_1 : CellF w5 ⟨bs, 1, none⟩ (.int .i64 hi) := (by first | exact CellF.keep hb5 q4_7_1 | exact CellF.keep hb5 (CellF.past _ q4_7_1) | exact CellF.keep hb5 (CellF.past _ (CellF.past _ q4_7_1)) | exact CellF.keep hb5 (CellF.drewN _ q4_7_1))
        have c5_9_1 := q5_9_1.1
        have q5_9_2 : CellF w5 ⟨bs, 2, none⟩ (.bool k) := (by first | exact CellF.keep hb5 q4_7_2 | exact CellF.keep hb5 (CellF.past _ q4_7_2) | exact CellF.keep hb5 (CellF.past _ (CellF.past _ q4_7_2)) | exact CellF.keep hb5 (CellF.drewN _ q4_7_2))
        have c5_9_2 := q5_9_2.1
        have z5_9 : bs < w5.heap.size := ltc c5_9_0
        clear q4_7_0 c4_7_0 q4_7_1 c4_7_1 q4_7_2 c4_7_2 z4_7
        have q5_10_0 : CellF w5 ⟨bt, 0, none⟩ (.int .i64 lo2) := (by first | exact CellF.keep hb5 q4_8_0 | exact CellF.keep hb5 (CellF.past _ q4_8_0) | exact CellF.keep hb5 (CellF.past _ (CellF.past _ q4_8_0)) | exact CellF.keep hb5 (CellF.drewN _ q4_8_0))
        have c5_10_0 := q5_10_0.1
        have q5_10_1 : CellF w5 ⟨bt, 1, none⟩ (.int .i64 hi2) := (by first | exact CellF.keep hb5 q4_8_1 | exact CellF.keep hb5 (CellF.past _ q4_8_1) | exact CellF.keep hb5 (CellF.past _ (CellF.past _ q4_8_1)) | exact CellF.keep hb5 (CellF.drewN _ q4_8_1))
        have c5_10_1 := q5_10_1.1
        have q5_10_2 : CellF w5 ⟨bt, 2, none⟩ (.bool k2) := (by first | exact CellF.keep hb5 q4_8_2 | exact CellF.keep hb5 (CellF.past _ q4_8_2) | exact CellF.keep hb5 (CellF.past _ (CellF.past _ q4_8_2)) | exact CellF.keep hb5 (CellF.drewN _ q4_8_2))
        have c5_10_2 := q5_10_2.1
        have z5_10 : bt < w5.heap.size := ltc c5_10_0
        clear q4_8_0 c4_8_0 q4_8_1 c4_8_1 q4_8_2 c4_8_2 z4_8
        go_wp2_with fail
        refine (Sub_is _ _ _ _ A2' _).mono ?_
        rintro e w6 ⟨rfl, hb6⟩
        have q6_11_0 : CellF w6 ⟨bs, 0, none⟩ (.int .i64 lo) := (by first | exact CellF.keep hb6 q5_9_0 | exact CellF.keep hb6 (CellF.past _ q5_9_0) | exact CellF.keep hb6 (CellF.past _ (CellF.past _ q5_9_0)) | exact CellF.keep hb6 (CellF.drewN _ q5_9_0))
        have c6_11_0 := q6_11_0.1
        have q6_11_1 : CellF w6 ⟨bs, 1, none⟩ (.int .i64 hi) := (by first | exact CellF.keep hb6 q5_9_1 | exact CellF.keep hb6 (CellF.past _ q5_9_1) | exact CellF.keep hb6 (CellF.past _ (CellF.past _ q5_9_1)) | exact CellF.keep hb6 (CellF.drewN _ q5_9_1))
        have c6_11_1 := q6_11_1.1
        have q6_11_2 : CellF w6 ⟨bs, 2, none⟩ (.bool k) := (by first | exact CellF.keep hb6 q5_9_2 | exact CellF.keep hb6 (CellF.past _ q5_9_2) | exact CellF.keep hb6 (CellF.past _ (CellF.past _ q5_9_2)) | exact CellF.keep hb6 (CellF.drewN _ q5_9_2))
        have c6_11_2 := q6_11_2.1
        have z6_11 : bs < w6.heap.size := ltc c6_11_0
        clear q5_9_0 c5_9_0 q5_9_1 c5_9_1 q5_9_2 c5_9_2 z5_9
        have q6_12_0 : CellF w6 ⟨bt, 0, none⟩ (.int .i64 lo2) := (by first | exact CellF.keep hb6 q5_10_0 | exact CellF.keep hb6 (CellF.past _ q5_10_0) | exact CellF.keep hb6 (CellF.past _ (CellF.past _ q5_10_0)) | exact CellF.keep hb6 (CellF.drewN _ q5_10_0))
        have c6_12_0 := q6_12_0.1
        have q6_12_1 : CellF w6 ⟨bt, 1, none⟩ (.int .i64 hi2) := (by first | exact CellF.keep hb6 q5_10_1 | exact CellF.keep hb6 (CellF.past _ q5_10_1) | exact CellF.keep hb6 (CellF.past _ (CellF.past _ q5_10_1)) | exact CellF.keep hb6 (CellF.drewN _ q5_10_1))
        have c6_12_1 := q6_12_1.1
        have q6_12_2 : CellF w6 ⟨bt, 2, none⟩ (.bool k2) := (by first | exact CellF.keep hb6 q5_10_2 | exact CellF.keep hb6 (CellF.past _ q5_10_2) | exact CellF.keep hb6 (CellF.past _ (CellF.past _ q5_10_2)) | exact CellF.keep hb6 (CellF.drewN _ q5_10_2))
        have c6_12_2 := q6_12_2.1
        have z6_12 : bt < w6.heap.size := ltc c6_12_0
        clear q5_10_0 c5_10_0 q5_10_1 c5_10_1 q5_10_2 c5_10_2 z5_10
        go_wp2_with fail
        refine (alive_is _).mono ?_
        rintro e w7 ⟨rfl, hb7⟩
        have q7_13_0 : CellF w7 ⟨bs, 0, none⟩ (.int .i64 lo) := (by first | exact CellF.keep hb7 q6_11_0 | exact CellF.keep hb7 (CellF.past _ q6_11_0) | exact CellF.keep hb7 (CellF.past _ (CellF.past _ q6_11_0)) | exact CellF.keep hb7 (CellF.drewN _ q6_11_0))
        have c7_13_0 := q7_13_0.1
        have q7_13_1 : CellF w7 ⟨bs, 1, none⟩ (.int .i64 hi) := (by first | exact CellF.keep hb7 q6_11_1 | exact CellF.keep hb7 (CellF.past _ q6_11_1) | exact CellF.keep hb7 (CellF.past _ (CellF.past _ q6_11_1)) | exact CellF.keep hb7 (CellF.drewN _ q6_11_1))
        have c7_13_1 := q7_13_1.1
        have q7_13_2 : CellF w7 ⟨bs, 2, none⟩ (.bool k) := (by first | exact CellF.keep hb7 q6_11_2 | exact CellF.keep hb7 (CellF.past _ q6_11_2) | exact CellF.keep hb7 (CellF.past _ (CellF.past _ q6_11_2)) | exact CellF.keep hb7 (CellF.drewN _ q6_11_2))
        have c7_13_2 := q7_13_2.1
        have z7_13 : bs < w7.heap.size := ltc c7_13_0
        clear q6_11_0 c6_11_0 q6_11_1 c6_11_1 q6_11_2 c6_11_2 z6_11
        have q7_14_0 : CellF w7 ⟨bt, 0, none⟩ (.int .i64 lo2) := (by first | exact CellF.keep hb7 q6_12_0 | exact CellF.keep hb7 (CellF.past _ q6_12_0) | exact CellF.keep hb7 (CellF.past _ (CellF.past _ q6_12_0)) | exact CellF.keep hb7 (CellF.drewN _ q6_12_0))
        have c7_14_0 := q7_14_0.1
        have q7_14_1 : CellF w7 ⟨bt, 1, none⟩ (.int .i64 hi2) := (by first | exact CellF.keep hb7 q6_12_1 | exact CellF.keep hb7 (CellF.past _ q6_12_1) | exact CellF.keep hb7 (CellF.past _ (CellF.past _ q6_12_1)) | exact CellF.keep hb7 (CellF.drewN _ q6_12_1))
        have c7_14_1 := q7_14_1.1
        have q7_14_2 : CellF w7 ⟨bt, 2, none⟩ (.bool k2) := (by first | exact CellF.keep hb7 q6_12_2 | exact CellF.keep hb7 (CellF.past _ q6_12_2) | exact CellF.keep hb7 (CellF.past _ (CellF.past _ q6_12_2)) | exact CellF.keep hb7 (CellF.drewN _ q6_12_2))
        have c7_14_2 := q7_14_2.1
        have z7_14 : bt < w7.heap.size := ltc c7_14_0
        clear q6_12_0 c6_12_0 q6_12_1 c6_12_1 q6_12_2 c6_12_2 z6_12
        go_wp2_with fail
        refine (SpSub_is _ _ _ _ _ _ _ _ _ X3 _).mono ?_
        rintro e w8 ⟨rfl, hb8⟩
        have q8_15_0 : CellF w8 ⟨bs, 0, none⟩ (.int .i64 lo) := (by first | exact CellF.keep hb8 q7_13_0 | exact CellF.keep hb8 (CellF.past _ q7_13_0) | exact CellF.keep hb8 (CellF.past _ (CellF.past _ q7_13_0)) | exact CellF.keep hb8 (CellF.drewN _ q7_13_0))
        have c8_15_0 := q8_15_0.1
        have q8_15_1 : CellF w8 ⟨bs, 1, none⟩ (.int .i64 hi) := (by first | exact CellF.keep hb8 q7_13_1 | exact CellF.keep hb8 (CellF.past _ q7_13_1) | exact CellF.keep hb8 (CellF.past _ (CellF.past _ q7_13_1)) | exact CellF.keep hb8 (CellF.drewN _ q7_13_1))
        have c8_15_1 := q8_15_1.1
        have q8_15_2 : CellF w8 ⟨bs, 2, none⟩ (.bool k) := (by first | exact CellF.keep hb8 q7_13_2 | exact CellF.keep hb8 (CellF.past _ q7_13_2) | exact CellF.keep hb8 (CellF.past _ (CellF.past _ q7_13_2)) | exact CellF.keep hb8 (CellF.drewN _ q7_13_2))
        have c8_15_2 := q8_15_2.1
        have z8_15 : bs < w8.heap.size := ltc c8_15_0
        clear q7_13_0 c7_13_0 q7_13_1 c7_13_1 q7_13_2 c7_13_2 z7_13
        have q8_16_0 : CellF w8 ⟨bt, 0, none⟩ (.int .i64 lo2) := (by first | exact CellF.keep hb8 q7_14_0 | exact CellF.keep hb8 (CellF.past _ q7_14_0) | exact CellF.keep hb8 (CellF.past _ (CellF.past _ q7_14_0)) | exact CellF.keep hb8 (CellF.drewN _ q7_14_0))
        have c8_16_0 := q8_16_0.1
        have q8_16_1 : CellF w8 ⟨bt, 1, none⟩ (.int .i64 hi2) := (by first | exact CellF.keep hb8 q7_14_1 | exact CellF.keep hb8 (CellF.past _ q7_14_1) | exact CellF.keep hb8 (CellF.past _ (CellF.past _ q7_14_1)) | exact CellF.keep hb8 (CellF.drewN _ q7_14_1))
        have c8_16_1 := q8_16_1.1
        have q8_16_2 : CellF w8 ⟨bt, 2, none⟩ (.bool k2) := (by first | exact CellF.keep hb8 q7_14_2 | exact CellF.keep hb8 (CellF.past _ q7_14_2) | exact CellF.keep hb8 (CellF.past _ (CellF.past _ q7_14_2)) | exact CellF.keep hb8 (CellF.drewN _ q7_14_2))
        have c8_16_2 := q8_16_2.1
        have z8_16 : bt < w8.heap.size := ltc c8_16_0
        clear q7_14_0 c7_14_0 q7_14_1 c7_14_1 q7_14_2 c7_14_2 z7_14
        go_wp2_with fail
        refine (Has_is _ _ _ _ _ Y3 _).mono ?_
        rintro e w9 ⟨rfl, hb9⟩
        go_wp2
        go_ret
        exact ⟨rfl, (by repeat (first | exact brefl _ | refine balloc ?_ _ | refine bdrewN ?_ _ | refine bset ?_ (by dsimp only; omega) _ | refine bstep ?_ (by assumption)))⟩
    | true =>
      have Y1 := Lib.hid (e1 ▸ has_add hp1 hp2 ha)
      have Y2 := Lib.hid (e2 ▸ has_shift hp1 ha)
      cases has with
      | false =>
        clear hr1 hr2 hp1 hp2 ha hd e1 e2 e3
        go_wp2_with fail
        refine (Right_is _ _ _ _ R1 _).mono ?_
        rintro e w1 ⟨rfl, hb1⟩
        have q1_1_0 : CellF w1 ⟨bs, 0, none⟩ (.int .i64 lo) := (by refine CellF.keep hb1 ?_; refine ⟨?_, ?_⟩ <;> go_simp)
        have c1_1_0 := q1_1_0.1
        have q1_1_1 : CellF w1 ⟨bs, 1, none⟩ (.int .i64 hi) := (by refine CellF.keep hb1 ?_; refine ⟨?_, ?_⟩ <;> go_simp)
        have c1_1_1 := q1_1_1.1
        have q1_1_2 : CellF w1 ⟨bs, 2, none⟩ (.bool k) := (by refine CellF.keep hb1 ?_; refine ⟨?_, ?_⟩ <;> go_simp)
        have c1_1_2 := q1_1_2.1
        have z1_1 : bs < w1.heap.size := ltc c1_1_0
        have q1_2_0 : CellF w1 ⟨bt, 0, none⟩ (.int .i64 lo2) := (by refine CellF.keep hb1 ?_; refine ⟨?_, ?_⟩ <;> go_simp)
        have c1_2_0 := q1_2_0.1
        have q1_2_1 : CellF w1 ⟨bt, 1, none⟩ (.int .i64 hi2) := (by refine CellF.keep hb1 ?_; refine ⟨?_, ?_⟩ <;> go_simp)
        have c1_2_1 := q1_2_1.1
        have q1_2_2 : CellF w1 ⟨bt, 2, none⟩ (.bool k2) := (by refine CellF.keep hb1 ?_; refine ⟨?_, ?_⟩ <;> go_simp)
        have c1_2_2 := q1_2_2.1
        have z1_2 : bt < w1.heap.size := ltc c1_2_0
        go_wp2_with fail
        refine (Right_is _ _ _ _ R2 _).mono ?_
        rintro e w2 ⟨rfl, hb2⟩
        have q2_3_0 : CellF w2 ⟨bs, 0, none⟩ (.int .i64 lo) := (by first | exact CellF.keep hb2 q1_1_0 | exact CellF.keep hb2 (CellF.past _ q1_1_0) | exact CellF.keep hb2 (CellF.past _ (CellF.past _ q1_1_0)) | exact CellF.keep hb2 (CellF.drewN _ q1_1_0))
        have c2_3_0 := q2_3_0.1
        have q2_3_1 : CellF w2 ⟨bs, 1, none⟩ (.int .i64 hi) := (by first | exact CellF.keep hb2 q1_1_1 | exact CellF.keep hb2 (CellF.past _ q1_1_1) | exact CellF.keep hb2 (CellF.past _ (CellF.past _ q1_1_1)) | exact CellF.keep hb2 (CellF.drewN _ q1_1_1))
        have c2_3_1 := q2_3_1.1
        have q2_3_2 : CellF w2 ⟨bs, 2, none⟩ (.bool k) := (by first | exact CellF.keep hb2 q1_1_2 | exact CellF.keep hb2 (CellF.past _ q1_1_2) | exact CellF.keep hb2 (CellF.past _ (CellF.past _ q1_1_2)) | exact CellF.keep hb2 (CellF.drewN _ q1_1_2))
        have c2_3_2 := q2_3_2.1
        have z2_3 : bs < w2.heap.size := ltc c2_3_0
        clear q1_1_0 c1_1_0 q1_1_1 c1_1_1 q1_1_2 c1_1_2 z1_1
        have q2_4_0 : CellF w2 ⟨bt, 0, none⟩ (.int .i64 lo2) := (by first | exact CellF.keep hb2 q1_2_0 | exact CellF.keep hb2 (CellF.past _ q1_2_0) | exact CellF.keep hb2 (CellF.past _ (CellF.past _ q1_2_0)) | exact CellF.keep hb2 (CellF.drewN _ q1_2_0))
        have c2_4_0 := q2_4_0.1
        have q2_4_1 : CellF w2 ⟨bt, 1, none⟩ (.int .i64 hi2) := (by first | exact CellF.keep hb2 q1_2_1 | exact CellF.keep hb2 (CellF.past _ q1_2_1) | exact CellF.keep hb2 (CellF.past _ (CellF.past _ q1_2_1)) | exact CellF.keep hb2 (CellF.drewN _ q1_2_1))
        have c2_4_1 := q2_4_1.1
        have q2_4_2 : CellF w2 ⟨bt, 2, none⟩ (.bool k2) := (by first | exact CellF.keep hb2 q1_2_2 | exact CellF.keep hb2 (CellF.past _ q1_2_2) | exact CellF.keep hb2 (CellF.past _ (CellF.past _ q1_2_2)) | exact CellF.keep hb2 (CellF.drewN _ q1_2_2))
        have c2_4_2 := q2_4_2.1
        have z2_4 : bt < w2.heap.size := ltc c2_4_0
        clear q1_2_0 c1_2_0 q1_2_1 c1_2_1 q1_2_2 c1_2_2 z1_2
        go_wp2_with fail
        refine (Has_is _ _ _ _ _ P1 _).mono ?_
        rintro e w3 ⟨rfl, hb3⟩
        have q3_5_0 : CellF w3 ⟨bs, 0, none⟩ (.int .i64 lo) := (by first | exact CellF.keep hb3 q2_3_0 | exact CellF.keep hb3 (CellF.past _ q2_3_0) | exact CellF.keep hb3 (CellF.past _ (CellF.past _ q2_3_0)) | exact CellF.keep hb3 (CellF.drewN _ q2_3_0))
        have c3_5_0 := q3_5_0.1
        have q3_5_1 : CellF w3 ⟨bs, 1, none⟩ (.int .i64 hi) := (by first | exact CellF.keep hb3 q2_3_1 | exact CellF.keep hb3 (CellF.past _ q2_3_1) | exact CellF.keep hb3 (CellF.past _ (CellF.past _ q2_3_1)) | exact CellF.keep hb3 (CellF.drewN _ q2_3_1))
        have c3_5_1 := q3_5_1.1
        have q3_5_2 : CellF w3 ⟨bs, 2, none⟩ (.bool k) := (by first | exact CellF.keep hb3 q2_3_2 | exact CellF.keep hb3 (CellF.past _ q2_3_2) | exact CellF.keep hb3 (CellF.past _ (CellF.past _ q2_3_2)) | exact CellF.keep hb3 (CellF.drewN _ q2_3_2))
        have c3_5_2 := q3_5_2.1
        have z3_5 : bs < w3.heap.size := ltc c3_5_0
        clear q2_3_0 c2_3_0 q2_3_1 c2_3_1 q2_3_2 c2_3_2 z2_3
        have q3_6_0 : CellF w3 ⟨bt, 0, none⟩ (.int .i64 lo2) := (by first | exact CellF.keep hb3 q2_4_0 | exact CellF.keep hb3 (CellF.past _ q2_4_0) | exact CellF.keep hb3 (CellF.past _ (CellF.past _ q2_4_0)) | exact CellF.keep hb3 (CellF.drewN _ q2_4_0))
        have c3_6_0 := q3_6_0.1
        have q3_6_1 : CellF w3 ⟨bt, 1, none⟩ (.int .i64 hi2) := (by first | exact CellF.keep hb3 q2_4_1 | exact CellF.keep hb3 (CellF.past _ q2_4_1) | exact CellF.keep hb3 (CellF.past _ (CellF.past _ q2_4_1)) | exact CellF.keep hb3 (CellF.drewN _ q2_4_1))
        have c3_6_1 := q3_6_1.1
        have q3_6_2 : CellF w3 ⟨bt, 2, none⟩ (.bool k2) := (by first | exact CellF.keep hb3 q2_4_2 | exact CellF.keep hb3 (CellF.past _ q2_4_2) | exact CellF.keep hb3 (CellF.past _ (CellF.past _ q2_4_2)) | exact CellF.keep hb3 (CellF.drewN _ q2_4_2))
        have c3_6_2 := q3_6_2.1
        have z3_6 : bt < w3.heap.size := ltc c3_6_0
        clear q2_4_0 c2_4_0 q2_4_1 c2_4_1 q2_4_2 c2_4_2 z2_4
        go_wp2_with fail
        refine (Has_is _ _ _ _ _ P2 _).mono ?_
        rintro e w4 ⟨rfl, hb4⟩
        have q4_7_0 : CellF w4 ⟨bs, 0, none⟩ (.int .i64 lo) := (by first | exact CellF.keep hb4 q3_5_0 | exact CellF.keep hb4 (CellF.past _ q3_5_0) | exact CellF.keep hb4 (CellF.past _ (CellF.past _ q3_5_0)) | exact CellF.keep hb4 (CellF.drewN _ q3_5_0))
        have c4_7_0 := q4_7_0.1
        have q4_7_1 : CellF w4 ⟨bs, 1, none⟩ (.int .i64 hi) := (by first | exact CellF.keep hb4 q3_5_1 | exact CellF.keep hb4 (CellF.past _ q3_5_1) | exact CellF.keep hb4 (CellF.past _ (CellF.past _ q3_5_1)) | exact CellF.keep hb4 (CellF.drewN _ q3_5_1))
        have c4_7_1 := q4_7_1.1
        have q4_7_2 : CellF w4 ⟨bs, 2, none⟩ (.bool k) := (by first | exact CellF.keep hb4 q3_5_2 | exact CellF.keep hb4 (CellF.past _ q3_5_2) | exact CellF.keep hb4 (CellF.past _ (CellF.past _ q3_5_2)) | exact CellF.keep hb4 (CellF.drewN _ q3_5_2))
        have c4_7_2 := q4_7_2.1
        have z4_7 : bs < w4.heap.size := ltc c4_7_0
        clear q3_5_0 c3_5_0 q3_5_1 c3_5_1 q3_5_2 c3_5_2 z3_5
        have q4_8_0 : CellF w4 ⟨bt, 0, none⟩ (.int .i64 lo2) := (by first | exact CellF.keep hb4 q3_6_0 | exact CellF.keep hb4 (CellF.past _ q3_6_0) | exact CellF.keep hb4 (CellF.past _ (CellF.past _ q3_6_0)) | exact CellF.keep hb4 (CellF.drewN _ q3_6_0))
        have c4_8_0 := q4_8_0.1
        have q4_8_1 : CellF w4 ⟨bt, 1, none⟩ (.int .i64 hi2) := (by first | exact CellF.keep hb4 q3_6_1 | exact CellF.keep hb4 (CellF.past _ q3_6_1) | exact CellF.keep hb4 (CellF.past _ (CellF.past _ q3_6_1)) | exact CellF.keep hb4 (CellF.drewN _ q3_6_1))
        have c4_8_1 := q4_8_1.1
        have q4_8_2 : CellF w4 ⟨bt, 2, none⟩ (.bool k2) := (by first | exact CellF.keep hb4 q3_6_2 | exact CellF.keep hb4 (CellF.past _ q3_6_2) | exact CellF.keep hb4 (CellF.past _ (CellF.past _ q3_6_2)) | exact CellF.keep hb4 (CellF.drewN _ q3_6_2))
        have c4_8_2 := q4_8_2.1
        have z4_8 : bt < w4.heap.size := ltc c4_8_0
        clear q3_6_0 c3_6_0 q3_6_1 c3_6_1 q3_6_2 c3_6_2 z3_6
        go_wp2_with fail
        refine (Add_is _ _ _ _ A1' _).mono ?_
        rintro e w5 ⟨rfl, hb5⟩
        have q5_9_0 : CellF w5 ⟨bs, 0, none⟩ (.int .i64 lo) := (by first | exact CellF.keep hb5 q4_7_0 | exact CellF.keep hb5 (CellF.past _ q4_7_0) | exact CellF.keep hb5 (CellF.past _ (CellF.past _ q4_7_0)) | exact CellF.keep hb5 (CellF.drewN _ q4_7_0))
        have c5_9_0 := q5_9_0.1
        have q5_9_1 : CellF w5 ⟨bs, 1, none⟩ (.int .i64 hi) := (by first | exact CellF.keep hb5 q4_7_1 | exact CellF.keep hb5 (CellF.past _ q4_7_1) | exact CellF.keep hb5 (CellF.past _ (CellF.past _ q4_7_1)) | exact CellF.keep hb5 (CellF.drewN _ q4_7_1))
        have c5_9_1 := q5_9_1.1
        have q5_9_2 : CellF w5 ⟨bs, 2, none⟩ (.bool k) := (by first | exact CellF.keep hb5 q4_7_2 | exact CellF.keep hb5 (CellF.past _ q4_7_2) | exact CellF.keep hb5 (CellF.past _ (CellF.past _ q4_7_2)) | exact CellF.keep hb5 (CellF.drewN _ q4_7_2))
        have c5_9_2 := q5_9_2.1
        have z5_9 : bs < w5.heap.size := ltc c5_9_0
        clear q4_7_0 c4_7_0 q4_7_1 c4_7_1 q4_7_2 c4_7_2 z4_7
        have q5_10_0 : CellF w5 ⟨bt, 0, none⟩ (.int .i64 lo2) := (by first | exact CellF.keep hb5 q4_8_0 | exact CellF.keep hb5 (CellF.past _ q4_8_0) | exact CellF.keep hb5 (CellF.past _ (CellF.past _ q4_8_0)) | exact CellF.keep hb5 (CellF.drewN _ q4_8_0))
        have c5_10_0 := q5_10_0.1
        have q5_10_1 : CellF w5 ⟨bt, 1, none⟩ (.int .i64 hi2) := (by first | exact CellF.keep hb5 q4_8_1 | exact CellF.keep hb5 (CellF.past _ q4_8_1) | exact CellF.keep hb5 (CellF.past _ (CellF.past _ q4_8_1)) | exact CellF.keep hb5 (CellF.drewN _ q4_8_1))
        have c5_10_1 := q5_10_1.1
        have q5_10_2 : CellF w5 ⟨bt, 2, none⟩ (.bool k2) := (by first | exact CellF.keep hb5 q4_8_2 | exact CellF.keep hb5 (CellF.past _ q4_8_2) | exact CellF.keep hb5 (CellF.past _ (CellF.past _ q4_8_2)) | exact CellF.keep hb5 (CellF.drewN _ q4_8_2))
        have c5_10_2 := q5_10_2.1
        have z5_10 : bt < w5.heap.size := ltc c5_10_0
        clear q4_8_0 c4_8_0 q4_8_1 c4_8_1 q4_8_2 c4_8_2 z4_8
        go_wp2_with fail
        refine (Sub_is _ _ _ _ A2' _).mono ?_
        rintro e w6 ⟨rfl, hb6⟩
        have q6_11_0 : CellF w6 ⟨bs, 0, none⟩ (.int .i64 lo) := (by first | exact CellF.keep hb6 q5_9_0 | exact CellF.keep hb6 (CellF.past _ q5_9_0) | exact CellF.keep hb6 (CellF.past _ (CellF.past _ q5_9_0)) | exact CellF.keep hb6 (CellF.drewN _ q5_9_0))
        have c6_11_0 := q6_11_0.1
        have q6_11_1 : CellF w6 ⟨bs, 1, none⟩ (.int .i64 hi) := (by first | exact CellF.keep hb6 q5_9_1 | exact CellF.keep hb6 (CellF.past _ q5_9_1) | exact CellF.keep hb6 (CellF.past _ (CellF.past _ q5_9_1)) | exact CellF.keep hb6 (CellF.drewN _ q5_9_1))
        have c6_11_1 := q6_11_1.1
        have q6_11_2 : CellF w6 ⟨bs, 2, none⟩ (.bool k) := (by first | exact CellF.keep hb6 q5_9_2 | exact CellF.keep hb6 (CellF.past _ q5_9_2) | exact CellF.keep hb6 (CellF.past _ (CellF.past _ q5_9_2)) | exact CellF.keep hb6 (CellF.drewN _ q5_9_2))
        have c6_11_2 := q6_11_2.1
        have z6_11 : bs < w6.heap.size := ltc c6_11_0
        clear q5_9_0 c5_9_0 q5_9_1 c5_9_1 q5_9_2 c5_9_2 z5_9
        have q6_12_0 : CellF w6 ⟨bt, 0, none⟩ (.int .i64 lo2) := (by first | exact CellF.keep hb6 q5_10_0 | exact CellF.keep hb6 (CellF.past _ q5_10_0) | exact CellF.keep hb6 (CellF.past _ (CellF.past _ q5_10_0)) | exact CellF.keep hb6 (CellF.drewN _ q5_10_0))
        have c6_12_0 := q6_12_0.1
        have q6_12_1 : CellF w6 ⟨bt, 1, none⟩ (.int .i64 hi2) := (by first | exact CellF.keep hb6 q5_10_1 | exact CellF.keep hb6 (CellF.past _ q5_10_1) | exact CellF.keep hb6 (CellF.past _ (CellF.past _ q5_10_1)) | exact CellF.keep hb6 (CellF.drewN _ q5_10_1))
        have c6_12_1 := q6_12_1.1
        have q6_12_2 : CellF w6 ⟨bt, 2, none⟩ (.bool k2) := (by first | exact CellF.keep hb6 q5_10_2 | exact CellF.keep hb6 (CellF.past _ q5_10_2) | exact CellF.keep hb6 (CellF.past _ (CellF.past _ q5_10_2)) | exact CellF.keep hb6 (CellF.drewN _ q5_10_2))
        have c6_12_2 := q6_12_2.1
        have z6_12 : bt < w6.heap.size := ltc c6_12_0
        clear q5_10_0 c5_10_0 q5_10_1 c5_10_1 q5_10_2 c5_10_2 z5_10
        go_wp2_with fail
        refine (alive_is _).mono ?_
        rintro e w7 ⟨rfl, hb7⟩
        have q7_13_0 : CellF w7 ⟨bs, 0, none⟩ (.int .i64 lo) := (by first | exact CellF.keep hb7 q6_11_0 | exact CellF.keep hb7 (CellF.past _ q6_11_0) | exact CellF.keep hb7 (CellF.past _ (CellF.past _ q6_11_0)) | exact CellF.keep hb7 (CellF.drewN _ q6_11_0))
        have c7_13_0 := q7_13_0.1
        have q7_13_1 : CellF w7 ⟨bs, 1, none⟩ (.int .i64 hi) := (by first | exact CellF.keep hb7 q6_11_1 | exact CellF.keep hb7 (CellF.past _ q6_11_1) | exact CellF.keep hb7 (CellF.past _ (CellF.past _ q6_11_1)) | exact CellF.keep hb7 (CellF.drewN _ q6_11_1))
        have c7_13_1 := q7_13_1.1
        have q7_13_2 : CellF w7 ⟨bs, 2, none⟩ (.bool k) := (by first | exact CellF.keep hb7 q6_11_2 | exact CellF.keep hb7 (CellF.past _ q6_11_2) | exact CellF.keep hb7 (CellF.past _ (CellF.past _ q6_11_2)) | exact CellF.keep hb7 (CellF.drewN _ q6_11_2))
        have c7_13_2 := q7_13_2.1
        have z7_13 : bs < w7.heap.size := ltc c7_13_0
        clear q6_11_0 c6_11_0 q6_11_1 c6_11_1 q6_11_2 c6_11_2 z6_11
        have q7_14_0 : CellF w7 ⟨bt, 0, none⟩ (.int .i64 lo2) := (by first | exact CellF.keep hb7 q6_12_0 | exact CellF.keep hb7 (CellF.past _ q6_12_0) | exact CellF.keep hb7 (CellF.past _ (CellF.past _ q6_12_0)) | exact CellF.keep hb7 (CellF.drewN _ q6_12_0))
        have c7_14_0 := q7_14_0.1
        have q7_14_1 : CellF w7 ⟨bt, 1, none⟩ (.int .i64 hi2) := (by first | exact CellF.keep hb7 q6_12_1 | exact CellF.keep hb7 (CellF.past _ q6_12_1) | exact CellF.keep hb7 (CellF.past _ (CellF.past _ q6_12_1)) | exact CellF.keep hb7 (CellF.drewN _ q6_12_1))
        have c7_14_1 := q7_14_1.1
        have q7_14_2 : CellF w7 ⟨bt, 2, none⟩ (.bool k2) := (by first | exact CellF.keep hb7 q6_12_2 | exact CellF.keep hb7 (CellF.past _ q6_12_2) | exact CellF.keep hb7 (CellF.past _ (CellF.past _ q6_12_2)) | exact CellF.keep hb7 (CellF.drewN _ q6_12_2))
        have c7_14_2 := q7_14_2.1
        have z7_14 : bt < w7.heap.size := ltc c7_14_0
        clear q6_12_0 c6_12_0 q6_12_1 c6_12_1 q6_12_2 c6_12_2 z6_12
        go_wp2_with fail
        refine (SpAdd_is _ _ _ _ _ _ _ _ _ X1 _).mono ?_
        rintro e w8 ⟨rfl, hb8⟩
        have q8_15_0 : CellF w8 ⟨bs, 0, none⟩ (.int .i64 lo) := (by first | exact CellF.keep hb8 q7_13_0 | exact CellF.keep hb8 (CellF.past _ q7_13_0) | exact CellF.keep hb8 (CellF.past _ (CellF.past _ q7_13_0)) | exact CellF.keep hb8 (CellF.drewN _ q7_13_0))
        have c8_15_0 := q8_15_0.1
        have q8_15_1 : CellF w8 ⟨bs, 1, none⟩ (.int .i64 hi) := (by first | exact CellF.keep hb8 q7_13_1 | exact CellF.keep hb8 (CellF.past _ q7_13_1) | exact CellF.keep hb8 (CellF.past _ (CellF.past _ q7_13_1)) | exact CellF.keep hb8 (CellF.drewN _ q7_13_1))
        have c8_15_1 := q8_15_1.1
        have q8_15_2 : CellF w8 ⟨bs, 2, none⟩ (.bool k) := (by first | exact CellF.keep hb8 q7_13_2 | exact CellF.keep hb8 (CellF.past _ q7_13_2) | exact CellF.keep hb8 (CellF.past _ (CellF.past _ q7_13_2)) | exact CellF.keep hb8 (CellF.drewN _ q7_13_2))
        have c8_15_2 := q8_15_2.1
        have z8_15 : bs < w8.heap.size := ltc c8_15_0
        clear q7_13_0 c7_13_0 q7_13_1 c7_13_1 q7_13_2 c7_13_2 z7_13
        have q8_16_0 : CellF w8 ⟨bt, 0, none⟩ (.int .i64 lo2) := (by first | exact CellF.keep hb8 q7_14_0 | exact CellF.keep hb8 (CellF.past _ q7_14_0) | exact CellF.keep hb8 (CellF.past _ (CellF.past _ q7_14_0)) | exact CellF.keep hb8 (CellF.drewN _ q7_14_0))
        have c8_16_0 := q8_16_0.1
        have q8_16_1 : CellF w8 ⟨bt, 1, none⟩ (.int .i64 hi2) := (by first | exact CellF.keep hb8 q7_14_1 | exact CellF.keep hb8 (CellF.past _ q7_14_1) | exact CellF.keep hb8 (CellF.past _ (CellF.past _ q7_14_1)) | exact CellF.keep hb8 (CellF.drewN _ q7_14_1))
        have c8_16_1 := q8_16_1.1
        have q8_16_2 : CellF w8 ⟨bt, 2, none⟩ (.bool k2) := (by first | exact CellF.keep hb8 q7_14_2 | exact CellF.keep hb8 (CellF.past _ q7_14_2) | exact CellF.keep hb8 (CellF.past _ (CellF.past _ q7_14_2)) | exact CellF.keep hb8 (CellF.drewN _ q7_14_2))
        have c8_16_2 := q8_16_2.1
        have z8_16 : bt < w8.heap.size := ltc c8_16_0
        clear q7_14_0 c7_14_0 q7_14_1 c7_14_1 q7_14_2 c7_14_2 z7_14
        go_wp2_with fail
        refine (Has_is _ _ _ _ _ Y1 _).mono ?_
        rintro e w9 ⟨rfl, hb9⟩
        have q9_17_0 : CellF w9 ⟨bs, 0, none⟩ (.int .i64 lo) := (by first | exact CellF.keep hb9 q8_15_0 | exact CellF.keep hb9 (CellF.past _ q8_15_0) | exact CellF.keep hb9 (CellF.past _ (CellF.past _ q8_15_0)) | exact CellF.keep hb9 (CellF.drewN _ q8_15_0))
        have c9_17_0 := q9_17_0.1
        have q9_17_1 : CellF w9 ⟨bs, 1, none⟩ (.int .i64 hi) := (by first | exact CellF.keep hb9 q8_15_1 | exact CellF.keep hb9 (CellF.past _ q8_15_1) | exact CellF.keep hb9 (CellF.past _ (CellF.past _ q8_15_1)) | exact CellF.keep hb9 (CellF.drewN _ q8_15_1))
        have c9_17_1 := q9_17_1.1
        have q9_17_2 : CellF w9 ⟨bs, 2, none⟩ (.bool k) := (by first | exact CellF.keep hb9 q8_15_2 | exact CellF.keep hb9 (CellF.past _ q8_15_2) | exact CellF.keep hb9 (CellF.past _ (CellF.past _ q8_15_2)) | exact CellF.keep hb9 (CellF.drewN _ q8_15_2))
        have c9_17_2 := q9_17_2.1
        have z9_17 : bs < w9.heap.size := ltc c9_17_0
        clear q8_15_0 c8_15_0 q8_15_1 c8_15_1 q8_15_2 c8_15_2 z8_15
        have q9_18_0 : CellF w9 ⟨bt, 0, none⟩ (.int .i64 lo2) := (by first | exact CellF.keep hb9 q8_16_0 | exact CellF.keep hb9 (CellF.past _ q8_16_0) | exact CellF.keep hb9 (CellF.past _ (CellF.past _ q8_16_0)) | exact CellF.keep hb9 (CellF.drewN _ q8_16_0))
        have c9_18_0 := q9_18_0.1
        have q9_18_1 : CellF w9 ⟨bt, 1, none⟩ (.int .i64 hi2) := (by first | exact CellF.keep hb9 q8_16_1 | exact CellF.keep hb9 (CellF.past _ q8_16_1) | exact CellF.keep hb9 (CellF.past _ (CellF.past _ q8_16_1)) | exact CellF.keep hb9 (CellF.drewN _ q8_16_1))
        have c9_18_1 := q9_18_1.1
        have q9_18_2 : CellF w9 ⟨bt, 2, none⟩ (.bool k2) := (by first | exact CellF.keep hb9 q8_16_2 | exact CellF.keep hb9 (CellF.past _ q8_16_2) | exact CellF.keep hb9 (CellF.past _ (CellF.past _ q8_16_2)) | exact CellF.keep hb9 (CellF.drewN _ q8_16_2))
        have c9_18_2 := q9_18_2.1
        have z9_18 : bt < w9.heap.size := ltc c9_18_0
        clear q8_16_0 c8_16_0 q8_16_1 c8_16_1 q8_16_2 c8_16_2 z8_16
        go_wp2_with fail
        refine (Shift_is _ _ _ _ _ _ _ X2 _).mono ?_
        rintro e w10 ⟨rfl, hb10⟩
        have q10_19_0 : CellF w10 ⟨bs, 0, none⟩ (.int .i64 lo) := (by first | exact CellF.keep hb10 q9_17_0 | exact CellF.keep hb10 (CellF.past _ q9_17_0) | exact CellF.keep hb10 (CellF.past _ (CellF.past _ q9_17_0)) | exact CellF.keep hb10 (CellF.drewN _ q9_17_0))
        have c10_19_0 := q10_19_0.1
        have q10_19_1 : CellF w10 ⟨bs, 1, none⟩ (.int .i64 hi) := (by first | exact CellF.keep hb10 q9_17_1 | exact CellF.keep hb10 (CellF.past _ q9_17_1) | exact CellF.keep hb10 (CellF.past _ (CellF.past _ q9_17_1)) | exact CellF.keep hb10 (CellF.drewN _ q9_17_1))
        have c10_19_1 := q10_19_1.1
        have q10_19_2 : CellF w10 ⟨bs, 2, none⟩ (.bool k) := (by first | exact CellF.keep hb10 q9_17_2 | exact CellF.keep hb10 (CellF.past _ q9_17_2) | exact CellF.keep hb10 (CellF.past _ (CellF.past _ q9_17_2)) | exact CellF.keep hb10 (CellF.drewN _ q9_17_2))
        have c10_19_2 := q10_19_2.1
        have z10_19 : bs < w10.heap.size := ltc c10_19_0
        clear q9_17_0 c9_17_0 q9_17_1 c9_17_1 q9_17_2 c9_17_2 z9_17
        have q10_20_0 : CellF w10 ⟨bt, 0, none⟩ (.int .i64 lo2) := (by first | exact CellF.keep hb10 q9_18_0 | exact CellF.keep hb10 (CellF.past _ q9_18_0) | exact CellF.keep hb10 (CellF.past _ (CellF.past _ q9_18_0)) | exact CellF.keep hb10 (CellF.drewN _ q9_18_0))
        have c10_20_0 := q10_20_0.1
        have q10_20_1 : CellF w10 ⟨bt, 1, none⟩ (.int .i64 hi2) := (by first | exact CellF.keep hb10 q9_18_1 | exact CellF.keep hb10 (CellF.past _ q9_18_1) | exact CellF.keep hb10 (CellF.past _ (CellF.past _ q9_18_1)) | exact CellF.keep hb10 (CellF.drewN _ q9_18_1))
        have c10_20_1 := q10_20_1.1
        have q10_20_2 : CellF w10 ⟨bt, 2, none⟩ (.bool k2) := (by first | exact CellF.keep hb10 q9_18_2 | exact CellF.keep hb10 (CellF.past _ q9_18_2) | exact CellF.keep hb10 (CellF.past _ (CellF.past _ q9_18_2)) | exact CellF.keep hb10 (CellF.drewN _ q9_18_2))
        have c10_20_2 := q10_20_2.1
        have z10_20 : bt < w10.heap.size := ltc c10_20_0
        clear q9_18_0 c9_18_0 q9_18_1 c9_18_1 q9_18_2 c9_18_2 z9_18
        go_wp2_with fail
        refine (Has_is _ _ _ _ _ Y2 _).mono ?_
        rintro e w11 ⟨rfl, hb11⟩
        go_wp2
        go_ret
        exact ⟨rfl, (by repeat (first | exact brefl _ | refine balloc ?_ _ | refine bdrewN ?_ _ | refine bset ?_ (by dsimp only; omega) _ | refine bstep ?_ (by assumption)))⟩
      | true =>
        have Y3 := Lib.hid (e3 ▸ has_sub hp1 hp2 hd)
        clear hr1 hr2 hp1 hp2 ha hd e1 e2 e3
        go_wp2_with fail
        refine (Right_is _ _ _ _ R1 _).mono ?_
        rintro e w1 ⟨rfl, hb1⟩
        have q1_1_0 : CellF w1 ⟨bs, 0, none⟩ (.int .i64 lo) := (by refine CellF.keep hb1 ?_; refine ⟨?_, ?_⟩ <;> go_simp)
        have c1_1_0 := q1_1_0.1
        have q1_1_1 : CellF w1 ⟨bs, 1, none⟩ (.int .i64 hi) := (by refine CellF.keep hb1 ?_; refine ⟨?_, ?_⟩ <;> go_simp)
        have c1_1_1 := q1_1_1.1
        have q1_1_2 : CellF w1 ⟨bs, 2, none⟩ (.bool k) := (by refine CellF.keep hb1 ?_; refine ⟨?_, ?_⟩ <;> go_simp)
        have c1_1_2 := q1_1_2.1
        have z1_1 : bs < w1.heap.size := ltc c1_1_0
        have q1_2_0 : CellF w1 ⟨bt, 0, none⟩ (.int .i64 lo2) := (by refine CellF.keep hb1 ?_; refine ⟨?_, ?_⟩ <;> go_simp)
        have c1_2_0 := q1_2_0.1
        have q1_2_1 : CellF w1 ⟨bt, 1, none⟩ (.int .i64 hi2) := (by refine CellF.keep hb1 ?_; refine ⟨?_, ?_⟩ <;> go_simp)
        have c1_2_1 := q1_2_1.1
        have q1_2_2 : CellF w1 ⟨bt, 2, none⟩ (.bool k2) := (by refine CellF.keep hb1 ?_; refine ⟨?_, ?_⟩ <;> go_simp)
        have c1_2_2 := q1_2_2.1
        have z1_2 : bt < w1.heap.size := ltc c1_2_0
        go_wp2_with fail
        refine (Right_is _ _ _ _ R2 _).mono ?_
        rintro e w2 ⟨rfl, hb2⟩
        have q2_3_0 : CellF w2 ⟨bs, 0, none⟩ (.int .i64 lo) := (by first | exact CellF.keep hb2 q1_1_0 | exact CellF.keep hb2 (CellF.past _ q1_1_0) | exact CellF.keep hb2 (CellF.past _ (CellF.past _ q1_1_0)) | exact CellF.keep hb2 (CellF.drewN _ q1_1_0))
        have c2_3_0 := q2_3_0.1
        have q2_3_1 : CellF w2 ⟨bs, 1, none⟩ (.int .i64 hi) := (by first | exact CellF.keep hb2 q1_1_1 | exact CellF.keep hb2 (CellF.past _ q1_1_1) | exact CellF.keep hb2 (CellF.past _ (CellF.past _ q1_1_1)) | exact CellF.keep hb2 (CellF.drewN _ q1_1_1))
        have c2_3_1 := q2_3_1.1
        have q2_3_2 : CellF w2 ⟨bs, 2, none⟩ (.bool k) := (by first | exact CellF.keep hb2 q1_1_2 | exact CellF.keep hb2 (CellF.past _ q1_1_2) | exact CellF.keep hb2 (CellF.past _ (CellF.past _ q1_1_2)) | exact CellF.keep hb2 (CellF.drewN _ q1_1_2))
        have c2_3_2 := q2_3_2.1
        have z2_3 : bs < w2.heap.size := ltc c2_3_0
        clear q1_1_0 c1_1_0 q1_1_1 c1_1_1 q1_1_2 c1_1_2 z1_1
        have q2_4_0 : CellF w2 ⟨bt, 0, none⟩ (.int .i64 lo2) := (by first | exact CellF.keep hb2 q1_2_0 | exact CellF.keep hb2 (CellF.past _ q1_2_0) | exact CellF.keep hb2 (CellF.past _ (CellF.past _ q1_2_0)) | exact CellF.keep hb2 (CellF.drewN _ q1_2_0))
        have c2_4_0 := q2_4_0.1
        have q2_4_1 : CellF w2 ⟨bt, 1, none⟩ (.int .i64 hi2) := (by first | exact CellF.keep hb2 q1_2_1 | exact CellF.keep hb2 (CellF.past _ q1_2_1) | exact CellF.keep hb2 (CellF.past _ (CellF.past _ q1_2_1)) | exact CellF.keep hb2 (CellF.drewN _ q1_2_1))
        have c2_4_1 := q2_4_1.1
        have q2_4_2 : CellF w2 ⟨bt, 2, none⟩ (.bool k2) := (by first | exact CellF.keep hb2 q1_2_2 | exact CellF.keep hb2 (CellF.past _ q1_2_2) | exact CellF.keep hb2 (CellF.past _ (CellF.past _ q1_2_2)) | exact CellF.keep hb2 (CellF.drewN _ q1_2_2))
        have c2_4_2 := q2_4_2.1
        have z2_4 : bt < w2.heap.size := ltc c2_4_0
        clear q1_2_0 c1_2_0 q1_2_1 c1_2_1 q1_2_2 c1_2_2 z1_2
        go_wp2_with fail
        refine (Has_is _ _ _ _ _ P1 _).mono ?_
        rintro e w3 ⟨rfl, hb3⟩
        have q3_5_0 : CellF w3 ⟨bs, 0, none⟩ (.int .i64 lo) := (by first | exact CellF.keep hb3 q2_3_0 | exact CellF.keep hb3 (CellF.past _ q2_3_0) | exact CellF.keep hb3 (CellF.past _ (CellF.past _ q2_3_0)) | exact CellF.keep hb3 (CellF.drewN _ q2_3_0))
        have c3_5_0 := q3_5_0.1
        have q3_5_1 : CellF w3 ⟨bs, 1, none⟩ (.int .i64 hi) := (by first | exact CellF.keep hb3 q2_3_1 | exact CellF.keep hb3 (CellF.past _ q2_3_1) | exact CellF.keep hb3 (CellF.past _ (CellF.past _ q2_3_1)) | exact CellF.keep hb3 (CellF.drewN _ q2_3_1))
        have c3_5_1 := q3_5_1.1
        have q3_5_2 : CellF w3 ⟨bs, 2, none⟩ (.bool k) := (by first | exact CellF.keep hb3 q2_3_2 | exact CellF.keep hb3 (CellF.past _ q2_3_2) | exact CellF.keep hb3 (CellF.past _ (CellF.past _ q2_3_2)) | exact CellF.keep hb3 (CellF.drewN _ q2_3_2))
        have c3_5_2 := q3_5_2.1
        have z3_5 : bs < w3.heap.size := ltc c3_5_0
        clear q2_3_0 c2_3_0 q2_3_1 c2_3_1 q2_3_2 c2_3_2 z2_3
        have q3_6_0 : CellF w3 ⟨bt, 0, none⟩ (.int .i64 lo2) := (by first | exact CellF.keep hb3 q2_4_0 | exact CellF.keep hb3 (CellF.past _ q2_4_0) | exact CellF.keep hb3 (CellF.past _ (CellF.past _ q2_4_0)) | exact CellF.keep hb3 (CellF.drewN _ q2_4_0))
        have c3_6_0 := q3_6_0.1
        have q3_6_1 : CellF w3 ⟨bt, 1, none⟩ (.int .i64 hi2) := (by first | exact CellF.keep hb3 q2_4_1 | exact CellF.keep hb3 (CellF.past _ q2_4_1) | exact CellF.keep hb3 (CellF.past _ (CellF.past _ q2_4_1)) | exact CellF.keep hb3 (CellF.drewN _ q2_4_1))
        have c3_6_1 := q3_6_1.1
        have q3_6_2 : CellF w3 ⟨bt, 2, none⟩ (.bool k2) := (by first | exact CellF.keep hb3 q2_4_2 | exact CellF.keep hb3 (CellF.past _ q2_4_2) | exact CellF.keep hb3 (CellF.past _ (CellF.past _ q2_4_2)) | exact CellF.keep hb3 (CellF.drewN _ q2_4_2))
        have c3_6_2 := q3_6_2.1
        have z3_6 : bt < w3.heap.size := ltc c3_6_0
        clear q2_4_0 c2_4_0 q2_4_1 c2_4_1 q2_4_2 c2_4_2 z2_4
        go_wp2_with fail
        refine (Has_is _ _ _ _ _ P2 _).mono ?_
        rintro e w4 ⟨rfl, hb4⟩
        have q4_7_0 : CellF w4 ⟨bs, 0, none⟩ (.int .i64 lo) := (by first | exact CellF.keep hb4 q3_5_0 | exact CellF.keep hb4 (CellF.past _ q3_5_0) | exact CellF.keep hb4 (CellF.past _ (CellF.past _ q3_5_0)) | exact CellF.keep hb4 (CellF.drewN _ q3_5_0))
        have c4_7_0 := q4_7_0.1
        have q4_7_1 : CellF w4 ⟨bs, 1, none⟩ (.int .i64 hi) := (by first | exact CellF.keep hb4 q3_5_1 | exact CellF.keep hb4 (CellF.past _ q3_5_1) | exact CellF.keep hb4 (CellF.past _ (CellF.past _ q3_5_1)) | exact CellF.keep hb4 (CellF.drewN _ q3_5_1))
        have c4_7_1 := q4_7_1.1
        have q4_7_2 : CellF w4 ⟨bs, 2, none⟩ (.bool k) := (by first | exact CellF.keep hb4 q3_5_2 | exact CellF.keep hb4 (CellF.past _ q3_5_2) | exact CellF.keep hb4 (CellF.past _ (CellF.past _ q3_5_2)) | exact CellF.keep hb4 (CellF.drewN _ q3_5_2))
        have c4_7_2 := q4_7_2.1
        have z4_7 : bs < w4.heap.size := ltc c4_7_0
        clear q3_5_0 c3_5_0 q3_5_1 c3_5_1 q3_5_2 c3_5_2 z3_5
        have q4_8_0 : CellF w4 ⟨bt, 0, none⟩ (.int .i64 lo2) := (by first | exact CellF.keep hb4 q3_6_0 | exact CellF.keep hb4 (CellF.past _ q3_6_0) | exact CellF.keep hb4 (CellF.past _ (CellF.past _ q3_6_0)) | exact CellF.keep hb4 (CellF.drewN _ q3_6_0))
        have c4_8_0 := q4_8_0.1
        have q4_8_1 : CellF w4 ⟨bt, 1, none⟩ (.int .i64 hi2) := (by first | exact CellF.keep hb4 q3_6_1 | exact CellF.keep hb4 (CellF.past _ q3_6_1) | exact CellF.keep hb4 (CellF.past _ (CellF.past _ q3_6_1)) | exact CellF.keep hb4 (CellF.drewN _ q3_6_1))
        have c4_8_1 := q4_8_1.1
        have q4_8_2 : CellF w4 ⟨bt, 2, none⟩ (.bool k2) := (by first | exact CellF.keep hb4 q3_6_2 | exact CellF.keep hb4 (CellF.past _ q3_6_2) | exact CellF.keep hb4 (CellF.past _ (CellF.past _ q3_6_2)) | exact CellF.keep hb4 (CellF.drewN _ q3_6_2))
        have c4_8_2 := q4_8_2.1
        have z4_8 : bt < w4.heap.size := ltc c4_8_0
        clear q3_6_0 c3_6_0 q3_6_1 c3_6_1 q3_6_2 c3_6_2 z3_6
        go_wp2_with fail
        refine (Add_is _ _ _ _ A1' _).mono ?_
        rintro e w5 ⟨rfl, hb5⟩
        have q5_9_0 : CellF w5 ⟨bs, 0, none⟩ (.int .i64 lo) := (by first | exact CellF.keep hb5 q4_7_0 | exact CellF.keep hb5 (CellF.past _ q4_7_0) | exact CellF.keep hb5 (CellF.past _ (CellF.past _ q4_7_0)) | exact CellF.keep hb5 (CellF.drewN _ q4_7_0))
        have c5_9_0 := q5_9_0.1
        have q5_9_1 : CellF w5 ⟨bs, 1, none⟩ (.int .i64 hi) := (by first | exact CellF.keep hb5 q4_7_1 | exact CellF.keep hb5 (CellF.past _ q4_7_1) | exact CellF.keep hb5 (CellF.past _ (CellF.past _ q4_7_1)) | exact CellF.keep hb5 (CellF.drewN _ q4_7_1))
        have c5_9_1 := q5_9_1.1
        have q5_9_2 : CellF w5 ⟨bs, 2, none⟩ (.bool k) := (by first | exact CellF.keep hb5 q4_7_2 | exact CellF.keep hb5 (CellF.past _ q4_7_2) | exact CellF.keep hb5 (CellF.past _ (CellF.past _ q4_7_2)) | exact CellF.keep hb5 (CellF.drewN _ q4_7_2))
        have c5_9_2 := q5_9_2.1
        have z5_9 : bs < w5.heap.size := ltc c5_9_0
        clear q4_7_0 c4_7_0 q4_7_1 c4_7_1 q4_7_2 c4_7_2 z4_7
        have q5_10_0 : CellF w5 ⟨bt, 0, none⟩ (.int .i64 lo2) := (by first | exact CellF.keep hb5 q4_8_0 | exact CellF.keep hb5 (CellF.past _ q4_8_0) | exact CellF.keep hb5 (CellF.past _ (CellF.past _ q4_8_0)) | exact CellF.keep hb5 (CellF.drewN _ q4_8_0))
        have c5_10_0 := q5_10_0.1
        have q5_10_1 : CellF w5 ⟨bt, 1, none⟩ (.int .i64 hi2) := (by first | exact CellF.keep hb5 q4_8_1 | exact CellF.keep hb5 (CellF.past _ q4_8_1) | exact CellF.keep hb5 (CellF.past _ (CellF.past _ q4_8_1)) | exact CellF.keep hb5 (CellF.drewN _ q4_8_1))
        have c5_10_1 := q5_10_1.1
        have q5_10_2 : CellF w5 ⟨bt, 2, none⟩ (.bool k2) := (by first | exact CellF.keep hb5 q4_8_2 | exact CellF.keep hb5 (CellF.past _ q4_8_2) | exact CellF.keep hb5 (CellF.past _ (CellF.past _ q4_8_2)) | exact CellF.keep hb5 (CellF.drewN _ q4_8_2))
        have c5_10_2 := q5_10_2.1
        have z5_10 : bt < w5.heap.size := ltc c5_10_0
        clear q4_8_0 c4_8_0 q4_8_1 c4_8_1 q4_8_2 c4_8_2 z4_8
        go_wp2_with fail
        refine (Sub_is _ _ _ _ A2' _).mono ?_
        rintro e w6 ⟨rfl, hb6⟩
        have q6_11_0 : CellF w6 ⟨bs, 0, none⟩ (.int .i64 lo) := (by first | exact CellF.keep hb6 q5_9_0 | exact CellF.keep hb6 (CellF.past _ q5_9_0) | exact CellF.keep hb6 (CellF.past _ (CellF.past _ q5_9_0)) | exact CellF.keep hb6 (CellF.drewN _ q5_9_0))
        have c6_11_0 := q6_11_0.1
        have q6_11_1 : CellF w6 ⟨bs, 1, none⟩ (.int .i64 hi) := (by first | exact CellF.keep hb6 q5_9_1 | exact CellF.keep hb6 (CellF.past _ q5_9_1) | exact CellF.keep hb6 (CellF.past _ (CellF.past _ q5_9_1)) | exact CellF.keep hb6 (CellF.drewN _ q5_9_1))
        have c6_11_1 := q6_11_1.1
        have q6_11_2 : CellF w6 ⟨bs, 2, none⟩ (.bool k) := (by first | exact CellF.keep hb6 q5_9_2 | exact CellF.keep hb6 (CellF.past _ q5_9_2) | exact CellF.keep hb6 (CellF.past _ (CellF.past _ q5_9_2)) | exact CellF.keep hb6 (CellF.drewN _ q5_9_2))
        have c6_11_2 := q6_11_2.1
        have z6_11 : bs < w6.heap.size := ltc c6_11_0
        clear q5_9_0 c5_9_0 q5_9_1 c5_9_1 q5_9_2 c5_9_2 z5_9
        have q6_12_0 : CellF w6 ⟨bt, 0, none⟩ (.int .i64 lo2) := (by first | exact CellF.keep hb6 q5_10_0 | exact CellF.keep hb6 (CellF.past _ q5_10_0) | exact CellF.keep hb6 (CellF.past _ (CellF.past _ q5_10_0)) | exact CellF.keep hb6 (CellF.drewN _ q5_10_0))
        have c6_12_0 := q6_12_0.1
        have q6_12_1 : CellF w6 ⟨bt, 1, none⟩ (.int .i64 hi2) := (by first | exact CellF.keep hb6 q5_10_1 | exact CellF.keep hb6 (CellF.past _ q5_10_1) | exact CellF.keep hb6 (CellF.past _ (CellF.past _ q5_10_1)) | exact CellF.keep hb6 (CellF.drewN _ q5_10_1))
        have c6_12_1 := q6_12_1.1
        have q6_12_2 : CellF w6 ⟨bt, 2, none⟩ (.bool k2) := (by first | exact CellF.keep hb6 q5_10_2 | exact CellF.keep hb6 (CellF.past _ q5_10_2) | exact CellF.keep hb6 (CellF.past _ (CellF.past _ q5_10_2)) | exact CellF.keep hb6 (CellF.drewN _ q5_10_2))
        have c6_12_2 := q6_12_2.1
        have z6_12 : bt < w6.heap.size := ltc c6_12_0
        clear q5_10_0 c5_10_0 q5_10_1 c5_10_1 q5_10_2 c5_10_2 z5_10
        go_wp2_with fail
        refine (alive_is _).mono ?_
        rintro e w7 ⟨rfl, hb7⟩
        have q7_13_0 : CellF w7 ⟨bs, 0, none⟩ (.int .i64 lo) := (by first | exact CellF.keep hb7 q6_11_0 | exact CellF.keep hb7 (CellF.past _ q6_11_0) | exact CellF.keep hb7 (CellF.past _ (CellF.past _ q6_11_0)) | exact CellF.keep hb7 (CellF.drewN _ q6_11_0))
        have c7_13_0 := q7_13_0.1
        have q7_13_1 : CellF w7 ⟨bs, 1, none⟩ (.int .i64 hi) := (by first | exact CellF.keep hb7 q6_11_1 | exact CellF.keep hb7 (CellF.past _ q6_11_1) | exact CellF.keep hb7 (CellF.past _ (CellF.past _ q6_11_1)) | exact CellF.keep hb7 (CellF.drewN _ q6_11_1))
        have c7_13_1 := q7_13_1.1
        have q7_13_2 : CellF w7 ⟨bs, 2, none⟩ (.bool k) := (by first | exact CellF.keep hb7 q6_11_2 | exact CellF.keep hb7 (CellF.past _ q6_11_2) | exact CellF.keep hb7 (CellF.past _ (CellF.past _ q6_11_2)) | exact CellF.keep hb7 (CellF.drewN _ q6_11_2))
        have c7_13_2 := q7_13_2.1
        have z7_13 : bs < w7.heap.size := ltc c7_13_0
        clear q6_11_0 c6_11_0 q6_11_1 c6_11_1 q6_11_2 c6_11_2 z6_11
        have q7_14_0 : CellF w7 ⟨bt, 0, none⟩ (.int .i64 lo2) := (by first | exact CellF.keep hb7 q6_12_0 | exact CellF.keep hb7 (CellF.past _ q6_12_0) | exact CellF.keep hb7 (CellF.past _ (CellF.past _ q6_12_0)) | exact CellF.keep hb7 (CellF.drewN _ q6_12_0))
        have c7_14_0 := q7_14_0.1
        have q7_14_1 : CellF w7 ⟨bt, 1, none⟩ (.int .i64 hi2) := (by first | exact CellF.keep hb7 q6_12_1 | exact CellF.keep hb7 (CellF.past _ q6_12_1) | exact CellF.keep hb7 (CellF.past _ (CellF.past _ q6_12_1)) | exact CellF.keep hb7 (CellF.drewN _ q6_12_1))
        have c7_14_1 := q7_14_1.1
        have q7_14_2 : CellF w7 ⟨bt, 2, none⟩ (.bool k2) := (by first | exact CellF.keep hb7 q6_12_2 | exact CellF.keep hb7 (CellF.past _ q6_12_2) | exact CellF.keep hb7 (CellF.past _ (CellF.past _ q6_12_2)) | exact CellF.keep hb7 (CellF.drewN _ q6_12_2))
        have c7_14_2 := q7_14_2.1
        have z7_14 : bt < w7.heap.size := ltc c7_14_0
        clear q6_12_0 c6_12_0 q6_12_1 c6_12_1 q6_12_2 c6_12_2 z6_12
        go_wp2_with fail
        refine (SpAdd_is _ _ _ _ _ _ _ _ _ X1 _).mono ?_
        rintro e w8 ⟨rfl, hb8⟩
        have q8_15_0 : CellF w8 ⟨bs, 0, none⟩ (.int .i64 lo) := (by first | exact CellF.keep hb8 q7_13_0 | exact CellF.keep hb8 (CellF.past _ q7_13_0) | exact CellF.keep hb8 (CellF.past _ (CellF.past _ q7_13_0)) | exact CellF.keep hb8 (CellF.drewN _ q7_13_0))
        have c8_15_0 := q8_15_0.1
        have q8_15_1 : CellF w8 ⟨bs, 1, none⟩ (.int .i64 hi) := (by first | exact CellF.keep hb8 q7_13_1 | exact CellF.keep hb8 (CellF.past _ q7_13_1) | exact CellF.keep hb8 (CellF.past _ (CellF.past _ q7_13_1)) | exact CellF.keep hb8 (CellF.drewN _ q7_13_1))
        have c8_15_1 := q8_15_1.1
        have q8_15_2 : CellF w8 ⟨bs, 2, none⟩ (.bool k) := (by first | exact CellF.keep hb8 q7_13_2 | exact CellF.keep hb8 (CellF.past _ q7_13_2) | exact CellF.keep hb8 (CellF.past _ (CellF.past _ q7_13_2)) | exact CellF.keep hb8 (CellF.drewN _ q7_13_2))
        have c8_15_2 := q8_15_2.1
        have z8_15 : bs < w8.heap.size := ltc c8_15_0
        clear q7_13_0 c7_13_0 q7_13_1 c7_13_1 q7_13_2 c7_13_2 z7_13
        have q8_16_0 : CellF w8 ⟨bt, 0, none⟩ (.int .i64 lo2) := (by first | exact CellF.keep hb8 q7_14_0 | exact CellF.keep hb8 (CellF.past _ q7_14_0) | exact CellF.keep hb8 (CellF.past _ (CellF.past _ q7_14_0)) | exact CellF.keep hb8 (CellF.drewN _ q7_14_0))
        have c8_16_0 := q8_16_0.1
        have q8_16_1 : CellF w8 ⟨bt, 1, none⟩ (.int .i64 hi2) := (by first | exact CellF.keep hb8 q7_14_1 | exact CellF.keep hb8 (CellF.past _ q7_14_1) | exact CellF.keep hb8 (CellF.past _ (CellF.past _ q7_14_1)) | exact CellF.keep hb8 (CellF.drewN _ q7_14_1))
        have c8_16_1 := q8_16_1.1
        have q8_16_2 : CellF w8 ⟨bt, 2, none⟩ (.bool k2) := (by first | exact CellF.keep hb8 q7_14_2 | exact CellF.keep hb8 (CellF.past _ q7_14_2) | exact CellF.keep hb8 (CellF.past _ (CellF.past _ q7_14_2)) | exact CellF.keep hb8 (CellF.drewN _ q7_14_2))
        have c8_16_2 := q8_16_2.1
        have z8_16 : bt < w8.heap.size := ltc c8_16_0
        clear q7_14_0 c7_14_0 q7_14_1 c7_14_1 q7_14_2 c7_14_2 z7_14
        go_wp2_with fail
        refine (Has_is _ _ _ _ _ Y1 _).mono ?_
        rintro e w9 ⟨rfl, hb9⟩
        have q9_17_0 : CellF w9 ⟨bs, 0, none⟩ (.int .i64 lo) := (by first | exact CellF.keep hb9 q8_15_0 | exact CellF.keep hb9 (CellF.past _ q8_15_0) | exact CellF.keep hb9 (CellF.past _ (CellF.past _ q8_15_0)) | exact CellF.keep hb9 (CellF.drewN _ q8_15_0))
        have c9_17_0 := q9_17_0.1
        have q9_17_1 : CellF w9 ⟨bs, 1, none⟩ (.int .i64 hi) := (by first | exact CellF.keep hb9 q8_15_1 | exact CellF.keep hb9 (CellF.past _ q8_15_1) | exact CellF.keep hb9 (CellF.past _ (CellF.past _ q8_15_1)) | exact CellF.keep hb9 (CellF.drewN _ q8_15_1))
        have c9_17_1 := q9_17_1.1
        have q9_17_2 : CellF w9 ⟨bs, 2, none⟩ (.bool k) := (by first | exact CellF.keep hb9 q8_15_2 | exact CellF.keep hb9 (CellF.past _ q8_15_2) | exact CellF.keep hb9 (CellF.past _ (CellF.past _ q8_15_2)) | exact CellF.keep hb9 (CellF.drewN _ q8_15_2))
        have c9_17_2 := q9_17_2.1
        have z9_17 : bs < w9.heap.size := ltc c9_17_0
        clear q8_15_0 c8_15_0 q8_15_1 c8_15_1 q8_15_2 c8_15_2 z8_15
        have q9_18_0 : CellF w9 ⟨bt, 0, none⟩ (.int .i64 lo2) := (by first | exact CellF.keep hb9 q8_16_0 | exact CellF.keep hb9 (CellF.past _ q8_16_0) | exact CellF.keep hb9 (CellF.past _ (CellF.past _ q8_16_0)) | exact CellF.keep hb9 (CellF.drewN _ q8_16_0))
        have c9_18_0 := q9_18_0.1
        have q9_18_1 : CellF w9 ⟨bt, 1, none⟩ (.int .i64 hi2) := (by first | exact CellF.keep hb9 q8_16_1 | exact CellF.keep hb9 (CellF.past _ q8_16_1) | exact CellF.keep hb9 (CellF.past _ (CellF.past _ q8_16_1)) | exact CellF.keep hb9 (CellF.drewN _ q8_16_1))
        have c9_18_1 := q9_18_1.1
        have q9_18_2 : CellF w9 ⟨bt, 2, none⟩ (.bool k2) := (by first | exact CellF.keep hb9 q8_16_2 | exact CellF.keep hb9 (CellF.past _ q8_16_2) | exact CellF.keep hb9 (CellF.past _ (CellF.past _ q8_16_2)) | exact CellF.keep hb9 (CellF.drewN _ q8_16_2))
        have c9_18_2 := q9_18_2.1
        have z9_18 : bt < w9.heap.size := ltc c9_18_0
        clear q8_16_0 c8_16_0 q8_16_1 c8_16_1 q8_16_2 c8_16_2 z8_16
        go_wp2_with fail
        refine (Shift_is _ _ _ _ _ _ _ X2 _).mono ?_
        rintro e w10 ⟨rfl, hb10⟩
        have q10_19_0 : CellF w10 ⟨bs, 0, none⟩ (.int .i64 lo) := (by first | exact CellF.keep hb10 q9_17_0 | exact CellF.keep hb10 (CellF.past _ q9_17_0) | exact CellF.keep hb10 (CellF.past _ (CellF.past _ q9_17_0)) | exact CellF.keep hb10 (CellF.drewN _ q9_17_0))
        have c10_19_0 := q10_19_0.1
        have q10_19_1 : CellF w10 ⟨bs, 1, none⟩ (.int .i64 hi) := (by first | exact CellF.keep hb10 q9_17_1 | exact CellF.keep hb10 (CellF.past _ q9_17_1) | exact CellF.keep hb10 (CellF.past _ (CellF.past _ q9_17_1)) | exact CellF.keep hb10 (CellF.drewN _ q9_17_1))
        have c10_19_1 := q10_19_1.1
        have q10_19_2 : CellF w10 ⟨bs, 2, none⟩ (.bool k) := (by first | exact CellF.keep hb10 q9_17_2 | exact CellF.keep hb10 (CellF.past _ q9_17_2) | exact CellF.keep hb10 (CellF.past _ (CellF.past _ q9_17_2)) | exact CellF.keep hb10 (CellF.drewN _ q9_17_2))
        have c10_19_2 := q10_19_2.1
        have z10_19 : bs < w10.heap.size := ltc c10_19_0
        clear q9_17_0 c9_17_0 q9_17_1 c9_17_1 q9_17_2 c9_17_2 z9_17
        have q10_20_0 : CellF w10 ⟨bt, 0, none⟩ (.int .i64 lo2) := (by first | exact CellF.keep hb10 q9_18_0 | exact CellF.keep hb10 (CellF.past _ q9_18_0) | exact CellF.keep hb10 (CellF.past _ (CellF.past _ q9_18_0)) | exact CellF.keep hb10 (CellF.drewN _ q9_18_0))
        have c10_20_0 := q10_20_0.1
        have q10_20_1 : CellF w10 ⟨bt, 1, none⟩ (.int .i64 hi2) := (by first | exact CellF.keep hb10 q9_18_1 | exact CellF.keep hb10 (CellF.past _ q9_18_1) | exact CellF.keep hb10 (CellF.past _ (CellF.past _ q9_18_1)) | exact CellF.keep hb10 (CellF.drewN _ q9_18_1))
        have c10_20_1 := q10_20_1.1
        have q10_20_2 : CellF w10 ⟨bt, 2, none⟩ (.bool k2) := (by first | exact CellF.keep hb10 q9_18_2 | exact CellF.keep hb10 (CellF.past _ q9_18_2) | exact CellF.keep hb10 (CellF.past _ (CellF.past _ q9_18_2)) | exact CellF.keep hb10 (CellF.drewN _ q9_18_2))
        have c10_20_2 := q10_20_2.1
        have z10_20 : bt < w10.heap.size := ltc c10_20_0
        clear q9_18_0 c9_18_0 q9_18_1 c9_18_1 q9_18_2 c9_18_2 z9_18
        go_wp2_with fail
        refine (Has_is _ _ _ _ _ Y2 _).mono ?_
        rintro e w11 ⟨rfl, hb11⟩
        have q11_21_0 : CellF w11 ⟨bs, 0, none⟩ (.int .i64 lo) := (by first | exact CellF.keep hb11 q10_19_0 | exact CellF.keep hb11 (CellF.past _ q10_19_0) | exact CellF.keep hb11 (CellF.past _ (CellF.past _ q10_19_0)) | exact CellF.keep hb11 (CellF.drewN _ q10_19_0))
        have c11_21_0 := q11_21_0.1
        have q11_21_1 : CellF w11 ⟨bs, 1, none⟩ (.int .i64 hi) := (by first | exact CellF.keep hb11 q10_19_1 | exact CellF.keep hb11 (CellF.past _ q10_19_1) | exact CellF.keep hb11 (CellF.past _ (CellF.past _ q10_19_1)) | exact CellF.keep hb11 (CellF.drewN _ q10_19_1))
        have c11_21_1 := q11_21_1.1
        have q11_21_2 : CellF w11 ⟨bs, 2, none⟩ (.bool k) := (by first | exact CellF.keep hb11 q10_19_2 | exact CellF.keep hb11 (CellF.past _ q10_19_2) | exact CellF.keep hb11 (CellF.past _ (CellF.past _ q10_19_2)) | exact CellF.keep hb11 (CellF.drewN _ q10_19_2))
        have c11_21_2 := q11_21_2.1
        have z11_21 : bs < w11.heap.size := ltc c11_21_0
        clear q10_19_0 c10_19_0 q10_19_1 c10_19_1 q10_19_2 c10_19_2 z10_19
        have q11_22_0 : CellF w11 ⟨bt, 0, none⟩ (.int .i64 lo2) := (by first | exact CellF.keep hb11 q10_20_0 | exact CellF.keep hb11 (CellF.past _ q10_20_0) | exact CellF.keep hb11 (CellF.past _ (CellF.past _ q10_20_0)) | exact CellF.keep hb11 (CellF.drewN _ q10_20_0))
        have c11_22_0 := q11_22_0.1
        have q11_22_1 : CellF w11 ⟨bt, 1, none⟩ (.int .i64 hi2) := (by first | exact CellF.keep hb11 q10_20_1 | exact CellF.keep hb11 (CellF.past _ q10_20_1) | exact CellF.keep hb11 (CellF.past _ (CellF.past _ q10_20_1)) | exact CellF.keep hb11 (CellF.drewN _ q10_20_1))
        have c11_22_1 := q11_22_1.1
        have q11_22_2 : CellF w11 ⟨bt, 2, none⟩ (.bool k2) := (by first | exact CellF.keep hb11 q10_20_2 | exact CellF.keep hb11 (CellF.past _ q10_20_2) | exact CellF.keep hb11 (CellF.past _ (CellF.past _ q10_20_2)) | exact CellF.keep hb11 (CellF.drewN _ q10_20_2))
        have c11_22_2 := q11_22_2.1
        have z11_22 : bt < w11.heap.size := ltc c11_22_0
        clear q10_20_0 c10_20_0 q10_20_1 c10_20_1 q10_20_2 c10_20_2 z10_20
        go_wp2_with fail
        refine (SpSub_is _ _ _ _ _ _ _ _ _ X3 _).mono ?_
        rintro e w12 ⟨rfl, hb12⟩
        have q12_23_0 : CellF w12 ⟨bs, 0, none⟩ (.int .i64 lo) := (by first | exact CellF.keep hb12 q11_21_0 | exact CellF.keep hb12 (CellF.past _ q11_21_0) | exact CellF.keep hb12 (CellF.past _ (CellF.past _ q11_21_0)) | exact CellF.keep hb12 (CellF.drewN _ q11_21_0))
        have c12_23_0 := q12_23_0.1
        have q12_23_1 : CellF w12 ⟨bs, 1, none⟩ (.int .i64 hi) := (by first | exact CellF.keep hb12 q11_21_1 | exact CellF.keep hb12 (CellF.past _ q11_21_1) | exact CellF.keep hb12 (CellF.past _ (CellF.past _ q11_21_1)) | exact CellF.keep hb12 (CellF.drewN _ q11_21_1))
        have c12_23_1 := q12_23_1.1
        have q12_23_2 : CellF w12 ⟨bs, 2, none⟩ (.bool k) := (by first | exact CellF.keep hb12 q11_21_2 | exact CellF.keep hb12 (CellF.past _ q11_21_2) | exact CellF.keep hb12 (CellF.past _ (CellF.past _ q11_21_2)) | exact CellF.keep hb12 (CellF.drewN _ q11_21_2))
        have c12_23_2 := q12_23_2.1
        have z12_23 : bs < w12.heap.size := ltc c12_23_0
        clear q11_21_0 c11_21_0 q11_21_1 c11_21_1 q11_21_2 c11_21_2 z11_21
        have q12_24_0 : CellF w12 ⟨bt, 0, none⟩ (.int .i64 lo2) := (by first | exact CellF.keep hb12 q11_22_0 | exact CellF.keep hb12 (CellF.past _ q11_22_0) | exact CellF.keep hb12 (CellF.past _ (CellF.past _ q11_22_0)) | exact CellF.keep hb12 (CellF.drewN _ q11_22_0))
        have c12_24_0 := q12_24_0.1
        have q12_24_1 : CellF w12 ⟨bt, 1, none⟩ (.int .i64 hi2) := (by first | exact CellF.keep hb12 q11_22_1 | exact CellF.keep hb12 (CellF.past _ q11_22_1) | exact CellF.keep hb12 (CellF.past _ (CellF.past _ q11_22_1)) | exact CellF.keep hb12 (CellF.drewN _ q11_22_1))
        have c12_24_1 := q12_24_1.1
        have q12_24_2 : CellF w12 ⟨bt, 2, none⟩ (.bool k2) := (by first | exact CellF.keep hb12 q11_22_2 | exact CellF.keep hb12 (CellF.past _ q11_22_2) | exact CellF.keep hb12 (CellF.past _ (CellF.past _ q11_22_2)) | exact CellF.keep hb12 (CellF.drewN _ q11_22_2))
        have c12_24_2 := q12_24_2.1
        have z12_24 : bt < w12.heap.size := ltc c12_24_0
        clear q11_22_0 c11_22_0 q11_22_1 c11_22_1 q11_22_2 c11_22_2 z11_22
        go_wp2_with fail
        refine (Has_is _ _ _ _ _ Y3 _).mono ?_
        rintro e w13 ⟨rfl, hb13⟩
        go_wp2
        go_ret
        exact ⟨rfl, (by repeat (first | exact brefl _ | refine balloc ?_ _ | refine bdrewN ?_ _ | refine bset ?_ (by dsimp only; omega) _ | refine bstep ?_ (by assumption)))⟩
end Go.Proofs.Ytldgcigdoncgdaa
