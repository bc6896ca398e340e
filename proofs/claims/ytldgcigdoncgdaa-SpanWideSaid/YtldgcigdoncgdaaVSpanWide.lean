/-
  The walk of the law SpanWide.
-/
import Derived.Test.YtldgcigdoncgdaaOwn
import Derived.Test.YtldgcigdoncgdaaInv
import Derived.BigQuiet
import Derived.Deep.QuietTactic
import Derived.Test.YtldgcigdoncgdaaMsl
namespace Go.Proofs.Ytldgcigdoncgdaa
open Go.RowKit

set_option maxRecDepth 100000 in
set_option maxHeartbeats 4000000 in
theorem SpanWide_walk (lo hi : Int) (k : Bool) (lo2 hi2 : Int) (k2 : Bool) (n : Int) (w : World) (_ : I64 lo) (_ : I64 hi) (_ : I64 lo2) (_ : I64 hi2) (_ : I64 n) :
    Calls Try.prog 9 #[.agg #[.int .i64 lo, .int .i64 hi, .bool k], .agg #[.int .i64 lo2, .int .i64 hi2, .bool k2], .int .i64 n] w fun e w' => e = .returned (.bool true) ∧ Below w.heap.size w w' := by
  go_enter Try.func9, Try.ntmps9
  go_upto_region 1 with (fail)
  go_cut [7, 8] (fun v7 v8 wc => ∃ bs bt, v7 = .pointer (some ⟨bs, 0, none⟩) ∧ v8 = .pointer (some ⟨bt, 0, none⟩) ∧ Hid (Below w.heap.size w wc) ∧ Hid (SpanAt wc bs lo hi k) ∧ Hid (SpanAt wc bt lo2 hi2 k2))
  case first =>
    generalize hu : (w.alloc (.cells #[.int .i64 lo, .int .i64 hi, .bool k] 23)).alloc (.cells #[.int .i64 lo2, .int .i64 hi2, .bool k2] 23) = u
    obtain ⟨hb, hs, A, B⟩ := two_blocks w u _ _ _ _ hu.symm
    have A0 := (A 0 _ rfl).1
    have B0 := (B 0 _ rfl).1
    have A1 := (A 1 _ rfl).1
    have B1 := (B 1 _ rfl).1
    have A2 := (A 2 _ rfl).1
    have B2 := (B 2 _ rfl).1
    clear hu hs A B
    refine wp_region_inv (by kernel_rfl) (fun l a w' => ∃ v7 v8 v15 v16 v17 v18, a = ⟨#[.agg #[.int .i64 lo, .int .i64 hi, .bool k], .agg #[.int .i64 lo2, .int .i64 hi2, .bool k2], .int .i64 n, .pointer (some ⟨w.heap.size, 0, none⟩), .pointer (some ⟨w.heap.size + 1, 0, none⟩), undef, .bool false, v7, v8, undef, undef, undef, undef, undef, undef, undef, undef, undef, undef, undef, undef, v15, v16, v17, v18, undef, undef, undef, undef, undef, undef, undef, undef, undef, undef, undef, undef, undef, undef, undef, undef, undef, undef, undef, undef, undef, undef, undef, undef, undef, undef, undef, undef, undef, undef, undef, undef, undef, undef, undef, undef, undef, undef, undef, undef, undef, undef, undef, undef, undef, undef, undef, undef, undef, undef, undef, undef, undef, undef, undef, undef, undef, undef, undef, undef, undef, undef, undef, undef, undef, undef, undef, undef, undef, undef], []⟩ ∧ l.size = 8 ∧ Below u.heap.size u w' ∧ (l.getD 0 false = true → v15 = .agg #[.int .i64 lo, .int .i64 hi, .bool k]) ∧ (l.getD 1 false = true → v16 = .agg #[.int .i64 lo, .int .i64 hi, .bool k]) ∧ (l.getD 2 false = true → v17 = .agg #[.int .i64 lo2, .int .i64 hi2, .bool k2]) ∧ (l.getD 3 false = true → v18 = .agg #[.int .i64 lo2, .int .i64 hi2, .bool k2]) ∧ (l.getD 4 false = true → ∃ b, v7 = .pointer (some ⟨b, 0, none⟩) ∧ u.heap.size ≤ b ∧ (l.getD 5 false = true → v8 ≠ .pointer (some ⟨b, 0, none⟩)) ∧ (l.getD 6 false = false → SpanAt w' b 0 0 false) ∧ (l.getD 6 false = true → SpanAt w' b lo hi k)) ∧ (l.getD 5 false = true → ∃ b, v8 = .pointer (some ⟨b, 0, none⟩) ∧ u.heap.size ≤ b ∧ (l.getD 7 false = false → SpanAt w' b 0 0 false) ∧ (l.getD 7 false = true → SpanAt w' b lo2 hi2 k2)) ∧ (l.getD 6 false = true → l.getD 4 false = true) ∧ (l.getD 7 false = true → l.getD 5 false = true)) ?_ ?_ ?_
    · --0
      exact ⟨undef, undef, undef, undef, undef, undef, rfl, rfl, bdrew (brefl _), fun h => (by cases h), fun h => (by cases h), fun h => (by cases h), fun h => (by cases h), fun h => (by cases h), fun h => (by cases h), fun h => (by cases h), fun h => (by cases h)⟩
    · intro i hii
      have hi8 : i < 8 := hii
      have h8 : i = 0 ∨ i = 1 ∨ i = 2 ∨ i = 3 ∨ i = 4 ∨ i = 5 ∨ i = 6 ∨ i = 7 := by omega
      rcases h8 with rfl | rfl | rfl | rfl | rfl | rfl | rfl | rfl
      · rintro l a w' hr ⟨v7, v8, v15, v16, v17, v18, rfl, hl, hB, h0, h1, h2, h3, h4, h5, h6, h7⟩
        have a0 := (hB.cell (ltc A0)).trans A0
        have a1 := (hB.cell (ltc A1)).trans A1
        have a2 := (hB.cell (ltc A2)).trans A2
        have b0 := (hB.cell (ltc B0)).trans B0
        have b1 := (hB.cell (ltc B1)).trans B1
        have b2 := (hB.cell (ltc B2)).trans B2
        refine wpOp_step rfl (fun K hK => ?_)
        clear A0 A1 A2 B0 B1 B2 hr
        go_simp
        refine hK _ _ ?_
        simp only [getD_own (l := l) (i := 0) (by omega), getD_set l (i := 0) (j := 1) (by decide), getD_set l (i := 0) (j := 2) (by decide), getD_set l (i := 0) (j := 3) (by decide), getD_set l (i := 0) (j := 4) (by decide), getD_set l (i := 0) (j := 5) (by decide), getD_set l (i := 0) (j := 6) (by decide), getD_set l (i := 0) (j := 7) (by decide)]
        exact ⟨v7, v8, _, v16, v17, v18, rfl, by simp [hl], hB, fun _ => rfl, h1, h2, h3, h4, h5, h6, h7⟩
      · rintro l a w' hr ⟨v7, v8, v15, v16, v17, v18, rfl, hl, hB, h0, h1, h2, h3, h4, h5, h6, h7⟩
        have d0 : l.getD 0 false = true := (ready_dep hr rfl).2 ⟨0, .data⟩ (by simp) rfl
        obtain rfl := h0 d0
        refine wpOp_step rfl (fun K hK => ?_)
        clear A0 A1 A2 B0 B1 B2 hr
        go_simp
        refine (own_is lo hi k _).mono ?_
        rintro e w1 ⟨rfl, hk⟩
        dsimp only
        refine hK _ _ ?_
        simp only [getD_own (l := l) (i := 1) (by omega), getD_set l (i := 1) (j := 0) (by decide), getD_set l (i := 1) (j := 2) (by decide), getD_set l (i := 1) (j := 3) (by decide), getD_set l (i := 1) (j := 4) (by decide), getD_set l (i := 1) (j := 5) (by decide), getD_set l (i := 1) (j := 6) (by decide), getD_set l (i := 1) (j := 7) (by decide)]
        exact ⟨v7, v8, _, _, v17, v18, rfl, by simp [hl], bstep hB hk, fun _ => rfl, fun _ => rfl, h2, h3, fun h => (by obtain ⟨b, e1, e2, e3, e4, e5⟩ := h4 h; exact ⟨b, e1, e2, e3, fun h => (e4 h).keep hk, fun h => (e5 h).keep hk⟩), fun h => (by obtain ⟨b, e1, e2, e4, e5⟩ := h5 h; exact ⟨b, e1, e2, fun h => (e4 h).keep hk, fun h => (e5 h).keep hk⟩), h6, h7⟩
      · rintro l a w' hr ⟨v7, v8, v15, v16, v17, v18, rfl, hl, hB, h0, h1, h2, h3, h4, h5, h6, h7⟩
        have a0 := (hB.cell (ltc A0)).trans A0
        have a1 := (hB.cell (ltc A1)).trans A1
        have a2 := (hB.cell (ltc A2)).trans A2
        have b0 := (hB.cell (ltc B0)).trans B0
        have b1 := (hB.cell (ltc B1)).trans B1
        have b2 := (hB.cell (ltc B2)).trans B2
        refine wpOp_step rfl (fun K hK => ?_)
        clear A0 A1 A2 B0 B1 B2 hr
        go_simp
        refine hK _ _ ?_
        simp only [getD_own (l := l) (i := 2) (by omega), getD_set l (i := 2) (j := 0) (by decide), getD_set l (i := 2) (j := 1) (by decide), getD_set l (i := 2) (j := 3) (by decide), getD_set l (i := 2) (j := 4) (by decide), getD_set l (i := 2) (j := 5) (by decide), getD_set l (i := 2) (j := 6) (by decide), getD_set l (i := 2) (j := 7) (by decide)]
        exact ⟨v7, v8, v15, v16, _, v18, rfl, by simp [hl], hB, h0, h1, fun _ => rfl, h3, h4, h5, h6, h7⟩
      · rintro l a w' hr ⟨v7, v8, v15, v16, v17, v18, rfl, hl, hB, h0, h1, h2, h3, h4, h5, h6, h7⟩
        have d0 : l.getD 2 false = true := (ready_dep hr rfl).2 ⟨2, .data⟩ (by simp) rfl
        obtain rfl := h2 d0
        refine wpOp_step rfl (fun K hK => ?_)
        clear A0 A1 A2 B0 B1 B2 hr
        go_simp
        refine (own_is lo2 hi2 k2 _).mono ?_
        rintro e w1 ⟨rfl, hk⟩
        dsimp only
        refine hK _ _ ?_
        simp only [getD_own (l := l) (i := 3) (by omega), getD_set l (i := 3) (j := 0) (by decide), getD_set l (i := 3) (j := 1) (by decide), getD_set l (i := 3) (j := 2) (by decide), getD_set l (i := 3) (j := 4) (by decide), getD_set l (i := 3) (j := 5) (by decide), getD_set l (i := 3) (j := 6) (by decide), getD_set l (i := 3) (j := 7) (by decide)]
        exact ⟨v7, v8, v15, v16, _, _, rfl, by simp [hl], bstep hB hk, h0, h1, fun _ => rfl, fun _ => rfl, fun h => (by obtain ⟨b, e1, e2, e3, e4, e5⟩ := h4 h; exact ⟨b, e1, e2, e3, fun h => (e4 h).keep hk, fun h => (e5 h).keep hk⟩), fun h => (by obtain ⟨b, e1, e2, e4, e5⟩ := h5 h; exact ⟨b, e1, e2, fun h => (e4 h).keep hk, fun h => (e5 h).keep hk⟩), h6, h7⟩
      · rintro l a w' hr ⟨v7, v8, v15, v16, v17, v18, rfl, hl, hB, h0, h1, h2, h3, h4, h5, h6, h7⟩
        have hz := hB.size
        have lt5 : ∀ b, (l.getD 7 false = false → SpanAt w' b 0 0 false) → (l.getD 7 false = true → SpanAt w' b lo2 hi2 k2) → b < w'.heap.size := fun b x y => by cases hc : l.getD 7 false with | false => exact (x hc).lt | true => exact (y hc).lt
        have hn := (ready_dep hr rfl).1
        have hn4 : l.getD 4 false = false := by cases hc : l.getD 4 false with | false => rfl | true => (exfalso; have hs4 := getD_both hc; rw [hs4] at hn; cases hn)
        have hu6 : l.getD 6 false = false := by cases hc : l.getD 6 false with | false => rfl | true => (rw [h6 hc] at hn4; cases hn4)
        refine wpOp_step rfl (fun K hK => ?_)
        clear A0 A1 A2 B0 B1 B2 hr
        go_simp
        refine hK _ _ ?_
        simp only [getD_own (l := l) (i := 4) (by omega), getD_set l (i := 4) (j := 0) (by decide), getD_set l (i := 4) (j := 1) (by decide), getD_set l (i := 4) (j := 2) (by decide), getD_set l (i := 4) (j := 3) (by decide), getD_set l (i := 4) (j := 5) (by decide), getD_set l (i := 4) (j := 6) (by decide), getD_set l (i := 4) (j := 7) (by decide)]
        exact ⟨_, v8, v15, v16, v17, v18, rfl, by simp [hl], balloc hB _, h0, h1, h2, h3, fun _ => ⟨_, rfl, hz, fun h => (by obtain ⟨b, e1, e2, e4, e5⟩ := h5 h; rw [e1]; exact ptr_ne (Nat.ne_of_lt (lt5 b e4 e5))), fun _ => SpanAt.new rfl, fun h => (by rw [hu6] at h; cases h)⟩, fun h => (by obtain ⟨b, e1, e2, e4, e5⟩ := h5 h; exact ⟨b, e1, e2, fun h => (e4 h).keep (balloc (brefl _) _), fun h => (e5 h).keep (balloc (brefl _) _)⟩), fun _ => (by first | rfl | trivial), h7⟩
      · rintro l a w' hr ⟨v7, v8, v15, v16, v17, v18, rfl, hl, hB, h0, h1, h2, h3, h4, h5, h6, h7⟩
        have hz := hB.size
        have lt4 : ∀ b, (l.getD 6 false = false → SpanAt w' b 0 0 false) → (l.getD 6 false = true → SpanAt w' b lo hi k) → b < w'.heap.size := fun b x y => by cases hc : l.getD 6 false with | false => exact (x hc).lt | true => exact (y hc).lt
        have hn := (ready_dep hr rfl).1
        have hn5 : l.getD 5 false = false := by cases hc : l.getD 5 false with | false => rfl | true => (exfalso; have hs4 := getD_both hc; rw [hs4] at hn; cases hn)
        have hu7 : l.getD 7 false = false := by cases hc : l.getD 7 false with | false => rfl | true => (rw [h7 hc] at hn5; cases hn5)
        refine wpOp_step rfl (fun K hK => ?_)
        clear A0 A1 A2 B0 B1 B2 hr
        go_simp
        refine hK _ _ ?_
        simp only [getD_own (l := l) (i := 5) (by omega), getD_set l (i := 5) (j := 0) (by decide), getD_set l (i := 5) (j := 1) (by decide), getD_set l (i := 5) (j := 2) (by decide), getD_set l (i := 5) (j := 3) (by decide), getD_set l (i := 5) (j := 4) (by decide), getD_set l (i := 5) (j := 6) (by decide), getD_set l (i := 5) (j := 7) (by decide)]
        exact ⟨v7, _, v15, v16, v17, v18, rfl, by simp [hl], balloc hB _, h0, h1, h2, h3, fun h => (by obtain ⟨b, e1, e2, e3, e4, e5⟩ := h4 h; exact ⟨b, e1, e2, fun _ => ptr_ne (Nat.ne_of_gt (lt4 b e4 e5)), fun h => (e4 h).keep (balloc (brefl _) _), fun h => (e5 h).keep (balloc (brefl _) _)⟩), fun _ => ⟨_, rfl, hz, fun _ => SpanAt.new rfl, fun h => (by rw [hu7] at h; cases h)⟩, h6, fun _ => (by first | rfl | trivial)⟩
      · rintro l a w' hr ⟨v7, v8, v15, v16, v17, v18, rfl, hl, hB, h0, h1, h2, h3, h4, h5, h6, h7⟩
        have d4 : l.getD 4 false = true := (ready_dep hr rfl).2 ⟨4, .data⟩ (by simp) rfl
        have d1 : l.getD 1 false = true := (ready_dep hr rfl).2 ⟨1, .data⟩ (by simp) rfl
        obtain rfl := h1 d1
        have hn := (ready_dep hr rfl).1
        have hn6 : l.getD 6 false = false := by cases hc : l.getD 6 false with | false => rfl | true => (exfalso; have hs4 := getD_both hc; rw [hs4] at hn; cases hn)
        obtain ⟨b, rfl, hub, hne, e4, _⟩ := h4 d4
        have hS := e4 hn6
        have hT := span_sets (x := lo) (y := hi) (z := k) hS
        have s0 := (hS).1.1
        have s1 := (hS).2.1.1
        have s2 := (hS).2.2.1
        have s3 := (hS).1.2
        have s4 := (hS).2.1.2
        have s5 := (hS).2.2.2
        refine wpOp_step rfl (fun K hK => ?_)
        clear A0 A1 A2 B0 B1 B2 hr
        clear hS e4
        go_simp
        refine hK _ _ ?_
        simp only [getD_own (l := l) (i := 6) (by omega), getD_set l (i := 6) (j := 0) (by decide), getD_set l (i := 6) (j := 1) (by decide), getD_set l (i := 6) (j := 2) (by decide), getD_set l (i := 6) (j := 3) (by decide), getD_set l (i := 6) (j := 4) (by decide), getD_set l (i := 6) (j := 5) (by decide), getD_set l (i := 6) (j := 7) (by decide)]
        exact ⟨_, v8, v15, _, v17, v18, rfl, by simp [hl], hB.trans (hT.2.2 _ hub), h0, fun _ => rfl, h2, h3, fun _ => ⟨b, rfl, hub, hne, fun h => (by cases h), fun _ => hT.1⟩, fun h => (by obtain ⟨b', e1, e2, x4, x5⟩ := h5 h; have hbb : b' ≠ b := fun hh => hne h (by rw [e1, hh]); exact ⟨b', e1, e2, fun h => hT.2.1 _ _ _ _ hbb (x4 h), fun h => hT.2.1 _ _ _ _ hbb (x5 h)⟩), fun _ => d4, h7⟩
      · rintro l a w' hr ⟨v7, v8, v15, v16, v17, v18, rfl, hl, hB, h0, h1, h2, h3, h4, h5, h6, h7⟩
        have d5 : l.getD 5 false = true := (ready_dep hr rfl).2 ⟨5, .data⟩ (by simp) rfl
        have d3 : l.getD 3 false = true := (ready_dep hr rfl).2 ⟨3, .data⟩ (by simp) rfl
        obtain rfl := h3 d3
        have hn := (ready_dep hr rfl).1
        have hn7 : l.getD 7 false = false := by cases hc : l.getD 7 false with | false => rfl | true => (exfalso; have hs4 := getD_both hc; rw [hs4] at hn; cases hn)
        obtain ⟨b, rfl, hub, e4, _⟩ := h5 d5
        have hS := e4 hn7
        have hT := span_sets (x := lo2) (y := hi2) (z := k2) hS
        have s0 := (hS).1.1
        have s1 := (hS).2.1.1
        have s2 := (hS).2.2.1
        have s3 := (hS).1.2
        have s4 := (hS).2.1.2
        have s5 := (hS).2.2.2
        refine wpOp_step rfl (fun K hK => ?_)
        clear A0 A1 A2 B0 B1 B2 hr
        clear hS e4
        go_simp
        refine hK _ _ ?_
        simp only [getD_own (l := l) (i := 7) (by omega), getD_set l (i := 7) (j := 0) (by decide), getD_set l (i := 7) (j := 1) (by decide), getD_set l (i := 7) (j := 2) (by decide), getD_set l (i := 7) (j := 3) (by decide), getD_set l (i := 7) (j := 4) (by decide), getD_set l (i := 7) (j := 5) (by decide), getD_set l (i := 7) (j := 6) (by decide)]
        exact ⟨v7, _, v15, v16, v17, _, rfl, by simp [hl], hB.trans (hT.2.2 _ hub), h0, h1, h2, fun _ => rfl, fun h => (by obtain ⟨b', e1, e2, x3, x4, x5⟩ := h4 h; have hbb : b' ≠ b := fun hh => x3 d5 (by rw [hh]); exact ⟨b', e1, e2, x3, fun h => hT.2.1 _ _ _ _ hbb (x4 h), fun h => hT.2.1 _ _ _ _ hbb (x5 h)⟩), fun _ => ⟨b, rfl, hub, fun h => (by cases h), fun _ => hT.1⟩, h6, fun _ => d5⟩
    · rintro l a w' ⟨v7, v8, v15, v16, v17, v18, rfl, hl, hB, h0, h1, h2, h3, h4, h5, h6, h7⟩ hr
      have hall := ready_all (by decide) hl hr
      obtain ⟨b, rfl, hub, _, _, e5⟩ := h4 (hall 4 (by decide))
      obtain ⟨b', rfl, hub', _, f5⟩ := h5 (hall 5 (by decide))
      go_wp2_with fail
      go_meet
      exact ⟨b, b', rfl, rfl, Lib.hid (hb.trans (hB.mono hb.size)), e5 (hall 6 (by decide)), f5 (hall 7 (by decide))⟩
  case rest =>
    obtain ⟨bs, bt, rfl, rfl, HB, HS, HT⟩ := hcut
    have hwc := HB.out
    have S0 := HS.out.1.1
    have S1 := HS.out.2.1.1
    have S2 := HS.out.2.2.1
    have S3 := HS.out.1.2
    have S4 := HS.out.2.1.2
    have S5 := HS.out.2.2.2
    have T0 := HT.out.1.1
    have T1 := HT.out.2.1.1
    have T2 := HT.out.2.2.1
    have T3 := HT.out.1.2
    have T4 := HT.out.2.1.2
    have T5 := HT.out.2.2.2
    clear HB HS HT
    obtain ⟨a1, i1, e1⟩ : ∃ x p, spWidth ⟨lo, hi, k⟩ = (x, p) := ⟨_, _, rfl⟩
    have W1 := Lib.hid e1
    obtain ⟨a2, i2, e2⟩ : ∃ x p, spWidth ⟨lo2, hi2, k2⟩ = (x, p) := ⟨_, _, rfl⟩
    have W2 := Lib.hid e2
    obtain ⟨⟨x1, x2, x3⟩, e3⟩ : ∃ s, spShift ⟨lo, hi, k⟩ n = s := ⟨_, rfl⟩
    have X1 := Lib.hid e3
    obtain ⟨⟨y1, y2, y3⟩, e4⟩ : ∃ s, spAdd ⟨lo, hi, k⟩ ⟨lo2, hi2, k2⟩ = s := ⟨_, rfl⟩
    have X2 := Lib.hid e4
    go_wp2_with fail
    refine (Width_is _ _ _ _ _ W1 _).mono ?_
    rintro e w1 ⟨rfl, hb1⟩
    have q1_1_0 : CellF w1 ⟨bs, 0, none⟩ (.int .i64 lo) := (by refine CellF.keep hb1 ?_; (first | ((repeat (first | with_reducible exact CellF.at_ (by simp) rfl | with_reducible refine CellF.past _ ?_ | with_reducible refine CellF.drew ?_ | with_reducible refine CellF.drewN _ ?_)); done) | (refine ⟨?_, ?_⟩ <;> go_simp)))
    have c1_1_0 := q1_1_0.1
    have q1_1_1 : CellF w1 ⟨bs, 1, none⟩ (.int .i64 hi) := (by refine CellF.keep hb1 ?_; (first | ((repeat (first | with_reducible exact CellF.at_ (by simp) rfl | with_reducible refine CellF.past _ ?_ | with_reducible refine CellF.drew ?_ | with_reducible refine CellF.drewN _ ?_)); done) | (refine ⟨?_, ?_⟩ <;> go_simp)))
    have c1_1_1 := q1_1_1.1
    have q1_1_2 : CellF w1 ⟨bs, 2, none⟩ (.bool k) := (by refine CellF.keep hb1 ?_; (first | ((repeat (first | with_reducible exact CellF.at_ (by simp) rfl | with_reducible refine CellF.past _ ?_ | with_reducible refine CellF.drew ?_ | with_reducible refine CellF.drewN _ ?_)); done) | (refine ⟨?_, ?_⟩ <;> go_simp)))
    have c1_1_2 := q1_1_2.1
    have z1_1 : bs < w1.heap.size := ltc c1_1_0
    have q1_2_0 : CellF w1 ⟨bt, 0, none⟩ (.int .i64 lo2) := (by refine CellF.keep hb1 ?_; (first | ((repeat (first | with_reducible exact CellF.at_ (by simp) rfl | with_reducible refine CellF.past _ ?_ | with_reducible refine CellF.drew ?_ | with_reducible refine CellF.drewN _ ?_)); done) | (refine ⟨?_, ?_⟩ <;> go_simp)))
    have c1_2_0 := q1_2_0.1
    have q1_2_1 : CellF w1 ⟨bt, 1, none⟩ (.int .i64 hi2) := (by refine CellF.keep hb1 ?_; (first | ((repeat (first | with_reducible exact CellF.at_ (by simp) rfl | with_reducible refine CellF.past _ ?_ | with_reducible refine CellF.drew ?_ | with_reducible refine CellF.drewN _ ?_)); done) | (refine ⟨?_, ?_⟩ <;> go_simp)))
    have c1_2_1 := q1_2_1.1
    have q1_2_2 : CellF w1 ⟨bt, 2, none⟩ (.bool k2) := (by refine CellF.keep hb1 ?_; (first | ((repeat (first | with_reducible exact CellF.at_ (by simp) rfl | with_reducible refine CellF.past _ ?_ | with_reducible refine CellF.drew ?_ | with_reducible refine CellF.drewN _ ?_)); done) | (refine ⟨?_, ?_⟩ <;> go_simp)))
    have c1_2_2 := q1_2_2.1
    have z1_2 : bt < w1.heap.size := ltc c1_2_0
    go_wp2_with fail
    refine (Width_is _ _ _ _ _ W2 _).mono ?_
    rintro e w2 ⟨rfl, hb2⟩
    have q2_3_0 : CellF w2 ⟨bs, 0, none⟩ (.int .i64 lo) := (by refine CellF.keep hb2 ?_; repeat (first | with_reducible exact q1_1_0 | with_reducible exact CellF.at_ (by simp) rfl | with_reducible refine CellF.past _ ?_ | with_reducible refine CellF.drew ?_ | with_reducible refine CellF.drewN _ ?_))
    have c2_3_0 := q2_3_0.1
    have q2_3_1 : CellF w2 ⟨bs, 1, none⟩ (.int .i64 hi) := (by refine CellF.keep hb2 ?_; repeat (first | with_reducible exact q1_1_1 | with_reducible exact CellF.at_ (by simp) rfl | with_reducible refine CellF.past _ ?_ | with_reducible refine CellF.drew ?_ | with_reducible refine CellF.drewN _ ?_))
    have c2_3_1 := q2_3_1.1
    have q2_3_2 : CellF w2 ⟨bs, 2, none⟩ (.bool k) := (by refine CellF.keep hb2 ?_; repeat (first | with_reducible exact q1_1_2 | with_reducible exact CellF.at_ (by simp) rfl | with_reducible refine CellF.past _ ?_ | with_reducible refine CellF.drew ?_ | with_reducible refine CellF.drewN _ ?_))
    have c2_3_2 := q2_3_2.1
    have z2_3 : bs < w2.heap.size := ltc c2_3_0
    have q2_4_0 : CellF w2 ⟨bt, 0, none⟩ (.int .i64 lo2) := (by refine CellF.keep hb2 ?_; repeat (first | with_reducible exact q1_2_0 | with_reducible exact CellF.at_ (by simp) rfl | with_reducible refine CellF.past _ ?_ | with_reducible refine CellF.drew ?_ | with_reducible refine CellF.drewN _ ?_))
    have c2_4_0 := q2_4_0.1
    have q2_4_1 : CellF w2 ⟨bt, 1, none⟩ (.int .i64 hi2) := (by refine CellF.keep hb2 ?_; repeat (first | with_reducible exact q1_2_1 | with_reducible exact CellF.at_ (by simp) rfl | with_reducible refine CellF.past _ ?_ | with_reducible refine CellF.drew ?_ | with_reducible refine CellF.drewN _ ?_))
    have c2_4_1 := q2_4_1.1
    have q2_4_2 : CellF w2 ⟨bt, 2, none⟩ (.bool k2) := (by refine CellF.keep hb2 ?_; repeat (first | with_reducible exact q1_2_2 | with_reducible exact CellF.at_ (by simp) rfl | with_reducible refine CellF.past _ ?_ | with_reducible refine CellF.drew ?_ | with_reducible refine CellF.drewN _ ?_))
    have c2_4_2 := q2_4_2.1
    have z2_4 : bt < w2.heap.size := ltc c2_4_0
    clear q1_1_0 c1_1_0 q1_1_1 c1_1_1 q1_1_2 c1_1_2 z1_1 q1_2_0 c1_2_0 q1_2_1 c1_2_1 q1_2_2 c1_2_2 z1_2
    go_upto_region 4 with (fail)
    go_cut [13, 14] (fun v13 v14 wd => ∃ bx bz, v13 = .pointer (some ⟨bx, 0, none⟩) ∧ v14 = .pointer (some ⟨bz, 0, none⟩) ∧ Hid (Below w.heap.size w wd) ∧ Hid (SpanAt wd bs lo hi k) ∧ Hid (SpanAt wd bt lo2 hi2 k2) ∧ Hid (SpanAt wd bx x1 x2 x3) ∧ Hid (SpanAt wd bz y1 y2 y3))
    case first =>
      refine wp_region_inv (by kernel_rfl) (fun l a w' => ∃ v13 v14 v35 v36 v37 v38 v39 v40, a = ⟨#[.agg #[.int .i64 lo, .int .i64 hi, .bool k], .agg #[.int .i64 lo2, .int .i64 hi2, .bool k2], .int .i64 n, .pointer (some ⟨w.heap.size, 0, none⟩), .pointer (some ⟨w.heap.size + 1, 0, none⟩), undef, .bool false, .pointer (some ⟨bs, 0, none⟩), .pointer (some ⟨bt, 0, none⟩), .int .i64 a1, .bool i1, .int .i64 a2, .bool i2, v13, v14, undef, undef, undef, undef, undef, undef, u21, u22, u23, u24, .tuple #[.int .i64 a1, .bool i1], .agg #[.int .i64 lo, .int .i64 hi, .bool k], .tuple #[.int .i64 a1, .bool i1], .int .i64 a1, .bool i1, .tuple #[.int .i64 a2, .bool i2], .agg #[.int .i64 lo2, .int .i64 hi2, .bool k2], .tuple #[.int .i64 a2, .bool i2], .int .i64 a2, .bool i2, v35, v36, v37, v38, v39, v40, u41, u42, u43, u44, u45, u46, u47, u48, u49, u50, u51, u52, u53, u54, u55, u56, u57, u58, u59, u60, u61, u62, u63, u64, u65, u66, u67, u68, u69, u70, u71, u72, u73, u74, u75, u76, u77, u78, u79, u80, u81, u82, u83, u84, u85, u86, u87, u88, u89, u90, u91, u92, u93, u94], []⟩ ∧ l.size = 10 ∧ Below w2.heap.size w2 w' ∧ (l.getD 0 false = true → v35 = .agg #[.int .i64 lo, .int .i64 hi, .bool k]) ∧ (l.getD 1 false = true → v36 = .int .i64 n) ∧ (l.getD 2 false = true → v37 = .agg #[.int .i64 x1, .int .i64 x2, .bool x3]) ∧ (l.getD 3 false = true → v38 = .agg #[.int .i64 lo, .int .i64 hi, .bool k]) ∧ (l.getD 4 false = true → v39 = .agg #[.int .i64 lo2, .int .i64 hi2, .bool k2]) ∧ (l.getD 5 false = true → v40 = .agg #[.int .i64 y1, .int .i64 y2, .bool y3]) ∧ (l.getD 6 false = true → ∃ b, v13 = .pointer (some ⟨b, 0, none⟩) ∧ w2.heap.size ≤ b ∧ (l.getD 7 false = true → v14 ≠ .pointer (some ⟨b, 0, none⟩)) ∧ (l.getD 8 false = false → SpanAt w' b 0 0 false) ∧ (l.getD 8 false = true → SpanAt w' b x1 x2 x3)) ∧ (l.getD 7 false = true → ∃ b, v14 = .pointer (some ⟨b, 0, none⟩) ∧ w2.heap.size ≤ b ∧ (l.getD 9 false = false → SpanAt w' b 0 0 false) ∧ (l.getD 9 false = true → SpanAt w' b y1 y2 y3)) ∧ (l.getD 8 false = true → l.getD 6 false = true) ∧ (l.getD 9 false = true → l.getD 7 false = true)) ?_ ?_ ?_
      · exact ⟨_, _, _, _, _, _, _, _, rfl, rfl, bdrew (brefl _), fun h => (by cases h), fun h => (by cases h), fun h => (by cases h), fun h => (by cases h), fun h => (by cases h), fun h => (by cases h), fun h => (by cases h), fun h => (by cases h), fun h => (by cases h), fun h => (by cases h)⟩
      · intro i hii
        have hin : i < 10 := hii
        have hor : i = 0 ∨ i = 1 ∨ i = 2 ∨ i = 3 ∨ i = 4 ∨ i = 5 ∨ i = 6 ∨ i = 7 ∨ i = 8 ∨ i = 9 := by omega
        rcases hor with rfl | rfl | rfl | rfl | rfl | rfl | rfl | rfl | rfl | rfl
        · rintro l a w' hr ⟨v13, v14, v35, v36, v37, v38, v39, v40, rfl, hl, hB, g0, g1, g2, g3, g4, g5, h1, h2, k1, k2⟩
          have a0 := (hB.cell (ltc c2_3_0)).trans c2_3_0
          have a1 := (hB.cell (ltc c2_3_1)).trans c2_3_1
          have a2 := (hB.cell (ltc c2_3_2)).trans c2_3_2
          have a3 := (hB.cell (ltc c2_4_0)).trans c2_4_0
          have a4 := (hB.cell (ltc c2_4_1)).trans c2_4_1
          have a5 := (hB.cell (ltc c2_4_2)).trans c2_4_2
          refine wpOp_step rfl (fun K hK => ?_)
          clear hr
          go_simp
          refine hK _ _ ?_
          simp only [getD_own (l := l) (i := 0) (by omega), getD_set l (i := 0) (j := 1) (by decide), getD_set l (i := 0) (j := 2) (by decide), getD_set l (i := 0) (j := 3) (by decide), getD_set l (i := 0) (j := 4) (by decide), getD_set l (i := 0) (j := 5) (by decide), getD_set l (i := 0) (j := 6) (by decide), getD_set l (i := 0) (j := 7) (by decide), getD_set l (i := 0) (j := 8) (by decide), getD_set l (i := 0) (j := 9) (by decide)]
          exact ⟨v13, v14, _, v36, v37, v38, v39, v40, rfl, by simp [hl], hB, fun _ => rfl, g1, g2, g3, g4, g5, h1, h2, k1, k2⟩
        · rintro l a w' hr ⟨v13, v14, v35, v36, v37, v38, v39, v40, rfl, hl, hB, g0, g1, g2, g3, g4, g5, h1, h2, k1, k2⟩
          refine wpOp_step rfl (fun K hK => ?_)
          clear hr
          go_simp
          refine hK _ _ ?_
          simp only [getD_own (l := l) (i := 1) (by omega), getD_set l (i := 1) (j := 0) (by decide), getD_set l (i := 1) (j := 2) (by decide), getD_set l (i := 1) (j := 3) (by decide), getD_set l (i := 1) (j := 4) (by decide), getD_set l (i := 1) (j := 5) (by decide), getD_set l (i := 1) (j := 6) (by decide), getD_set l (i := 1) (j := 7) (by decide), getD_set l (i := 1) (j := 8) (by decide), getD_set l (i := 1) (j := 9) (by decide)]
          exact ⟨v13, v14, v35, _, v37, v38, v39, v40, rfl, by simp [hl], hB, g0, fun _ => rfl, g2, g3, g4, g5, h1, h2, k1, k2⟩
        · rintro l a w' hr ⟨v13, v14, v35, v36, v37, v38, v39, v40, rfl, hl, hB, g0, g1, g2, g3, g4, g5, h1, h2, k1, k2⟩
          have d0 : l.getD 0 false = true := (ready_dep hr rfl).2 ⟨0, .data⟩ (by simp) rfl
          have d1 : l.getD 1 false = true := (ready_dep hr rfl).2 ⟨1, .data⟩ (by simp) rfl
          obtain rfl := g0 d0
          obtain rfl := g1 d1
          refine wpOp_step rfl (fun K hK => ?_)
          clear hr
          go_simp
          refine (Shift_is _ _ _ _ _ _ _ X1 _).mono ?_
          rintro e w1 ⟨rfl, hk⟩
          dsimp only
          refine hK _ _ ?_
          simp only [getD_own (l := l) (i := 2) (by omega), getD_set l (i := 2) (j := 0) (by decide), getD_set l (i := 2) (j := 1) (by decide), getD_set l (i := 2) (j := 3) (by decide), getD_set l (i := 2) (j := 4) (by decide), getD_set l (i := 2) (j := 5) (by decide), getD_set l (i := 2) (j := 6) (by decide), getD_set l (i := 2) (j := 7) (by decide), getD_set l (i := 2) (j := 8) (by decide), getD_set l (i := 2) (j := 9) (by decide)]
          exact ⟨v13, v14, _, _, _, v38, v39, v40, rfl, by simp [hl], bstep hB hk, fun _ => rfl, fun _ => rfl, fun _ => rfl, g3, g4, g5, fun h => (by obtain ⟨b, e1, e2, e3, e4, e5⟩ := h1 h; exact ⟨b, e1, e2, e3, fun h => (e4 h).keep hk, fun h => (e5 h).keep hk⟩), fun h => (by obtain ⟨b, e1, e2, e4, e5⟩ := h2 h; exact ⟨b, e1, e2, fun h => (e4 h).keep hk, fun h => (e5 h).keep hk⟩), k1, k2⟩
        · rintro l a w' hr ⟨v13, v14, v35, v36, v37, v38, v39, v40, rfl, hl, hB, g0, g1, g2, g3, g4, g5, h1, h2, k1, k2⟩
          have a0 := (hB.cell (ltc c2_3_0)).trans c2_3_0
          have a1 := (hB.cell (ltc c2_3_1)).trans c2_3_1
          have a2 := (hB.cell (ltc c2_3_2)).trans c2_3_2
          have a3 := (hB.cell (ltc c2_4_0)).trans c2_4_0
          have a4 := (hB.cell (ltc c2_4_1)).trans c2_4_1
          have a5 := (hB.cell (ltc c2_4_2)).trans c2_4_2
          refine wpOp_step rfl (fun K hK => ?_)
          clear hr
          go_simp
          refine hK _ _ ?_
          simp only [getD_own (l := l) (i := 3) (by omega), getD_set l (i := 3) (j := 0) (by decide), getD_set l (i := 3) (j := 1) (by decide), getD_set l (i := 3) (j := 2) (by decide), getD_set l (i := 3) (j := 4) (by decide), getD_set l (i := 3) (j := 5) (by decide), getD_set l (i := 3) (j := 6) (by decide), getD_set l (i := 3) (j := 7) (by decide), getD_set l (i := 3) (j := 8) (by decide), getD_set l (i := 3) (j := 9) (by decide)]
          exact ⟨v13, v14, v35, v36, v37, _, v39, v40, rfl, by simp [hl], hB, g0, g1, g2, fun _ => rfl, g4, g5, h1, h2, k1, k2⟩
        · rintro l a w' hr ⟨v13, v14, v35, v36, v37, v38, v39, v40, rfl, hl, hB, g0, g1, g2, g3, g4, g5, h1, h2, k1, k2⟩
          have a0 := (hB.cell (ltc c2_3_0)).trans c2_3_0
          have a1 := (hB.cell (ltc c2_3_1)).trans c2_3_1
          have a2 := (hB.cell (ltc c2_3_2)).trans c2_3_2
          have a3 := (hB.cell (ltc c2_4_0)).trans c2_4_0
          have a4 := (hB.cell (ltc c2_4_1)).trans c2_4_1
          have a5 := (hB.cell (ltc c2_4_2)).trans c2_4_2
          refine wpOp_step rfl (fun K hK => ?_)
          clear hr
          go_simp
          refine hK _ _ ?_
          simp only [getD_own (l := l) (i := 4) (by omega), getD_set l (i := 4) (j := 0) (by decide), getD_set l (i := 4) (j := 1) (by decide), getD_set l (i := 4) (j := 2) (by decide), getD_set l (i := 4) (j := 3) (by decide), getD_set l (i := 4) (j := 5) (by decide), getD_set l (i := 4) (j := 6) (by decide), getD_set l (i := 4) (j := 7) (by decide), getD_set l (i := 4) (j := 8) (by decide), getD_set l (i := 4) (j := 9) (by decide)]
          exact ⟨v13, v14, v35, v36, v37, v38, _, v40, rfl, by simp [hl], hB, g0, g1, g2, g3, fun _ => rfl, g5, h1, h2, k1, k2⟩
        · rintro l a w' hr ⟨v13, v14, v35, v36, v37, v38, v39, v40, rfl, hl, hB, g0, g1, g2, g3, g4, g5, h1, h2, k1, k2⟩
          have d3 : l.getD 3 false = true := (ready_dep hr rfl).2 ⟨3, .data⟩ (by simp) rfl
          have d4 : l.getD 4 false = true := (ready_dep hr rfl).2 ⟨4, .data⟩ (by simp) rfl
          obtain rfl := g3 d3
          obtain rfl := g4 d4
          refine wpOp_step rfl (fun K hK => ?_)
          clear hr
          go_simp
          refine (SpAdd_is _ _ _ _ _ _ _ _ _ X2 _).mono ?_
          rintro e w1 ⟨rfl, hk⟩
          dsimp only
          refine hK _ _ ?_
          simp only [getD_own (l := l) (i := 5) (by omega), getD_set l (i := 5) (j := 0) (by decide), getD_set l (i := 5) (j := 1) (by decide), getD_set l (i := 5) (j := 2) (by decide), getD_set l (i := 5) (j := 3) (by decide), getD_set l (i := 5) (j := 4) (by decide), getD_set l (i := 5) (j := 6) (by decide), getD_set l (i := 5) (j := 7) (by decide), getD_set l (i := 5) (j := 8) (by decide), getD_set l (i := 5) (j := 9) (by decide)]
          exact ⟨v13, v14, v35, v36, v37, _, _, _, rfl, by simp [hl], bstep hB hk, g0, g1, g2, fun _ => rfl, fun _ => rfl, fun _ => rfl, fun h => (by obtain ⟨b, e1, e2, e3, e4, e5⟩ := h1 h; exact ⟨b, e1, e2, e3, fun h => (e4 h).keep hk, fun h => (e5 h).keep hk⟩), fun h => (by obtain ⟨b, e1, e2, e4, e5⟩ := h2 h; exact ⟨b, e1, e2, fun h => (e4 h).keep hk, fun h => (e5 h).keep hk⟩), k1, k2⟩
        · rintro l a w' hr ⟨v13, v14, v35, v36, v37, v38, v39, v40, rfl, hl, hB, g0, g1, g2, g3, g4, g5, h1, h2, k1, k2⟩
          have hz := hB.size
          have lt2 : ∀ b, (l.getD 9 false = false → SpanAt w' b 0 0 false) → (l.getD 9 false = true → SpanAt w' b y1 y2 y3) → b < w'.heap.size := fun b x y => by cases hc : l.getD 9 false with | false => exact (x hc).lt | true => exact (y hc).lt
          have hn := (ready_dep hr rfl).1
          have hna : l.getD 6 false = false := by cases hc : l.getD 6 false with | false => rfl | true => (exfalso; have hs4 := getD_both hc; rw [hs4] at hn; cases hn)
          have hus : l.getD 8 false = false := by cases hc : l.getD 8 false with | false => rfl | true => (rw [k1 hc] at hna; cases hna)
          refine wpOp_step rfl (fun K hK => ?_)
          clear hr
          go_simp
          refine hK _ _ ?_
          simp only [getD_own (l := l) (i := 6) (by omega), getD_set l (i := 6) (j := 0) (by decide), getD_set l (i := 6) (j := 1) (by decide), getD_set l (i := 6) (j := 2) (by decide), getD_set l (i := 6) (j := 3) (by decide), getD_set l (i := 6) (j := 4) (by decide), getD_set l (i := 6) (j := 5) (by decide), getD_set l (i := 6) (j := 7) (by decide), getD_set l (i := 6) (j := 8) (by decide), getD_set l (i := 6) (j := 9) (by decide)]
          exact ⟨_, v14, v35, v36, v37, v38, v39, v40, rfl, by simp [hl], balloc hB _, g0, g1, g2, g3, g4, g5, fun _ => ⟨_, rfl, hz, fun h => (by obtain ⟨b, e1, e2, e4, e5⟩ := h2 h; rw [e1]; exact ptr_ne (Nat.ne_of_lt (lt2 b e4 e5))), fun _ => SpanAt.new rfl, fun h => (by rw [hus] at h; cases h)⟩, fun h => (by obtain ⟨b, e1, e2, e4, e5⟩ := h2 h; exact ⟨b, e1, e2, fun h => (e4 h).keep (balloc (brefl _) _), fun h => (e5 h).keep (balloc (brefl _) _)⟩), fun _ => (by first | rfl | trivial), k2⟩
        · rintro l a w' hr ⟨v13, v14, v35, v36, v37, v38, v39, v40, rfl, hl, hB, g0, g1, g2, g3, g4, g5, h1, h2, k1, k2⟩
          have hz := hB.size
          have lt1 : ∀ b, (l.getD 8 false = false → SpanAt w' b 0 0 false) → (l.getD 8 false = true → SpanAt w' b x1 x2 x3) → b < w'.heap.size := fun b x y => by cases hc : l.getD 8 false with | false => exact (x hc).lt | true => exact (y hc).lt
          have hn := (ready_dep hr rfl).1
          have hna : l.getD 7 false = false := by cases hc : l.getD 7 false with | false => rfl | true => (exfalso; have hs4 := getD_both hc; rw [hs4] at hn; cases hn)
          have hus : l.getD 9 false = false := by cases hc : l.getD 9 false with | false => rfl | true => (rw [k2 hc] at hna; cases hna)
          refine wpOp_step rfl (fun K hK => ?_)
          clear hr
          go_simp
          refine hK _ _ ?_
          simp only [getD_own (l := l) (i := 7) (by omega), getD_set l (i := 7) (j := 0) (by decide), getD_set l (i := 7) (j := 1) (by decide), getD_set l (i := 7) (j := 2) (by decide), getD_set l (i := 7) (j := 3) (by decide), getD_set l (i := 7) (j := 4) (by decide), getD_set l (i := 7) (j := 5) (by decide), getD_set l (i := 7) (j := 6) (by decide), getD_set l (i := 7) (j := 8) (by decide), getD_set l (i := 7) (j := 9) (by decide)]
          exact ⟨v13, _, v35, v36, v37, v38, v39, v40, rfl, by simp [hl], balloc hB _, g0, g1, g2, g3, g4, g5, fun h => (by obtain ⟨b, e1, e2, e3, e4, e5⟩ := h1 h; exact ⟨b, e1, e2, fun _ => ptr_ne (Nat.ne_of_gt (lt1 b e4 e5)), fun h => (e4 h).keep (balloc (brefl _) _), fun h => (e5 h).keep (balloc (brefl _) _)⟩), fun _ => ⟨_, rfl, hz, fun _ => SpanAt.new rfl, fun h => (by rw [hus] at h; cases h)⟩, k1, fun _ => (by first | rfl | trivial)⟩
        · rintro l a w' hr ⟨v13, v14, v35, v36, v37, v38, v39, v40, rfl, hl, hB, g0, g1, g2, g3, g4, g5, h1, h2, k1, k2⟩
          have d6 : l.getD 6 false = true := (ready_dep hr rfl).2 ⟨6, .data⟩ (by simp) rfl
          have d2 : l.getD 2 false = true := (ready_dep hr rfl).2 ⟨2, .data⟩ (by simp) rfl
          obtain rfl := g2 d2
          have hn := (ready_dep hr rfl).1
          have hns : l.getD 8 false = false := by cases hc : l.getD 8 false with | false => rfl | true => (exfalso; have hs4 := getD_both hc; rw [hs4] at hn; cases hn)
          obtain ⟨b, rfl, hub, hne, e4, _⟩ := h1 d6
          have hS := e4 hns
          have hT := span_sets (x := x1) (y := x2) (z := x3) hS
          have s0 := (hS).1.1
          have s1 := (hS).2.1.1
          have s2 := (hS).2.2.1
          have s3 := (hS).1.2
          have s4 := (hS).2.1.2
          have s5 := (hS).2.2.2
          refine wpOp_step rfl (fun K hK => ?_)
          clear hr
          clear hS e4
          go_simp
          refine hK _ _ ?_
          simp only [getD_own (l := l) (i := 8) (by omega), getD_set l (i := 8) (j := 0) (by decide), getD_set l (i := 8) (j := 1) (by decide), getD_set l (i := 8) (j := 2) (by decide), getD_set l (i := 8) (j := 3) (by decide), getD_set l (i := 8) (j := 4) (by decide), getD_set l (i := 8) (j := 5) (by decide), getD_set l (i := 8) (j := 6) (by decide), getD_set l (i := 8) (j := 7) (by decide), getD_set l (i := 8) (j := 9) (by decide)]
          exact ⟨_, v14, v35, v36, _, v38, v39, v40, rfl, by simp [hl], hB.trans (hT.2.2 _ hub), g0, g1, fun _ => rfl, g3, g4, g5, fun _ => ⟨b, rfl, hub, hne, fun h => (by cases h), fun _ => hT.1⟩, fun h => (by obtain ⟨b', e1, e2, x4, x5⟩ := h2 h; have hbb : b' ≠ b := fun hh => hne h (by rw [e1, hh]); exact ⟨b', e1, e2, fun h => hT.2.1 _ _ _ _ hbb (x4 h), fun h => hT.2.1 _ _ _ _ hbb (x5 h)⟩), fun _ => d6, k2⟩
        · rintro l a w' hr ⟨v13, v14, v35, v36, v37, v38, v39, v40, rfl, hl, hB, g0, g1, g2, g3, g4, g5, h1, h2, k1, k2⟩
          have d7 : l.getD 7 false = true := (ready_dep hr rfl).2 ⟨7, .data⟩ (by simp) rfl
          have d5 : l.getD 5 false = true := (ready_dep hr rfl).2 ⟨5, .data⟩ (by simp) rfl
          obtain rfl := g5 d5
          have hn := (ready_dep hr rfl).1
          have hns : l.getD 9 false = false := by cases hc : l.getD 9 false with | false => rfl | true => (exfalso; have hs4 := getD_both hc; rw [hs4] at hn; cases hn)
          obtain ⟨b, rfl, hub, e4, _⟩ := h2 d7
          have hS := e4 hns
          have hT := span_sets (x := y1) (y := y2) (z := y3) hS
          have s0 := (hS).1.1
          have s1 := (hS).2.1.1
          have s2 := (hS).2.2.1
          have s3 := (hS).1.2
          have s4 := (hS).2.1.2
          have s5 := (hS).2.2.2
          refine wpOp_step rfl (fun K hK => ?_)
          clear hr
          clear hS e4
          go_simp
          refine hK _ _ ?_
          simp only [getD_own (l := l) (i := 9) (by omega), getD_set l (i := 9) (j := 0) (by decide), getD_set l (i := 9) (j := 1) (by decide), getD_set l (i := 9) (j := 2) (by decide), getD_set l (i := 9) (j := 3) (by decide), getD_set l (i := 9) (j := 4) (by decide), getD_set l (i := 9) (j := 5) (by decide), getD_set l (i := 9) (j := 6) (by decide), getD_set l (i := 9) (j := 7) (by decide), getD_set l (i := 9) (j := 8) (by decide)]
          exact ⟨v13, _, v35, v36, v37, v38, v39, _, rfl, by simp [hl], hB.trans (hT.2.2 _ hub), g0, g1, g2, g3, g4, fun _ => rfl, fun h => (by obtain ⟨b', e1, e2, x3, x4, x5⟩ := h1 h; have hbb : b' ≠ b := fun hh => x3 d7 (by rw [hh]); exact ⟨b', e1, e2, x3, fun h => hT.2.1 _ _ _ _ hbb (x4 h), fun h => hT.2.1 _ _ _ _ hbb (x5 h)⟩), fun _ => ⟨b, rfl, hub, fun h => (by cases h), fun _ => hT.1⟩, k1, fun _ => d7⟩
      · rintro l a w' ⟨v13, v14, v35, v36, v37, v38, v39, v40, rfl, hl, hB, g0, g1, g2, g3, g4, g5, h1, h2, k1, k2⟩ hr
        have hall := ready_all (by decide) hl hr
        obtain ⟨b1, rfl, hub1, _, _, f1⟩ := h1 (hall 6 (by decide))
        have F1 := f1 (hall 8 (by decide))
        obtain ⟨b2, rfl, hub2, _, f2⟩ := h2 (hall 7 (by decide))
        have F2 := f2 (hall 9 (by decide))
        go_wp2_with fail
        go_meet
        exact ⟨b1, b2, rfl, rfl, Lib.hid (bstep (bstep hwc hb1) hb2 |>.trans (hB.mono (bstep (bstep hwc hb1) hb2).size)), Lib.hid (SpanAt.keep hB ⟨q2_3_0, q2_3_1, q2_3_2⟩), Lib.hid (SpanAt.keep hB ⟨q2_4_0, q2_4_1, q2_4_2⟩), Lib.hid F1, Lib.hid F2⟩
    case rest =>
      obtain ⟨bx, bz, rfl, rfl, HB, HS, HT, HX, HY⟩ := hcut
      have hwd := HB.out
      have qHS_0 := HS.out.1
      have cHS_0 := qHS_0.1
      have qHS_1 := HS.out.2.1
      have cHS_1 := qHS_1.1
      have qHS_2 := HS.out.2.2
      have cHS_2 := qHS_2.1
      have zHS := ltc cHS_0
      have qHT_0 := HT.out.1
      have cHT_0 := qHT_0.1
      have qHT_1 := HT.out.2.1
      have cHT_1 := qHT_1.1
      have qHT_2 := HT.out.2.2
      have cHT_2 := qHT_2.1
      have zHT := ltc cHT_0
      have qHX_0 := HX.out.1
      have cHX_0 := qHX_0.1
      have qHX_1 := HX.out.2.1
      have cHX_1 := qHX_1.1
      have qHX_2 := HX.out.2.2
      have cHX_2 := qHX_2.1
      have zHX := ltc cHX_0
      have qHY_0 := HY.out.1
      have cHY_0 := qHY_0.1
      have qHY_1 := HY.out.2.1
      have cHY_1 := qHY_1.1
      have qHY_2 := HY.out.2.2
      have cHY_2 := qHY_2.1
      have zHY := ltc cHY_0
      clear HB HS HT HX HY
      cases x3 with
      | false =>
        cases y3 with
        | false =>
          cases i1 with
          | false =>
            go_wp2_with fail
            refine (alive_is _).mono ?_
            rintro e w1 ⟨rfl, hb1⟩
            clear qHS_0 cHS_0 qHS_1 cHS_1 qHS_2 cHS_2 zHS qHT_0 cHT_0 qHT_1 cHT_1 qHT_2 cHT_2 zHT qHX_0 cHX_0 qHX_1 cHX_1 qHX_2 cHX_2 zHX qHY_0 cHY_0 qHY_1 cHY_1 qHY_2 cHY_2 zHY
            all_goals (go_wp2; go_ret; exact ⟨rfl, (by repeat (first | exact brefl _ | refine balloc ?_ _ | refine bdrewN ?_ _ | refine bset ?_ (by dsimp only; omega) _ | refine bstep ?_ (by assumption)))⟩)
          | true =>
            have hp := width_pos e1
            go_wp2_with fail
            refine (alive_is _).mono ?_
            rintro e w1 ⟨rfl, hb1⟩
            clear qHS_0 cHS_0 qHS_1 cHS_1 qHS_2 cHS_2 zHS qHT_0 cHT_0 qHT_1 cHT_1 qHT_2 cHT_2 zHT qHX_0 cHX_0 qHX_1 cHX_1 qHX_2 cHX_2 zHX qHY_0 cHY_0 qHY_1 cHY_1 qHY_2 cHY_2 zHY
            all_goals (go_wp2; go_ret; exact ⟨rfl, (by repeat (first | exact brefl _ | refine balloc ?_ _ | refine bdrewN ?_ _ | refine bset ?_ (by dsimp only; omega) _ | refine bstep ?_ (by assumption)))⟩)
        | true =>
          cases i1 with
          | false =>
            go_wp2_with fail
            refine (alive_is _).mono ?_
            rintro e w1 ⟨rfl, hb1⟩
            clear qHS_0 cHS_0 qHS_1 cHS_1 qHS_2 cHS_2 zHS qHT_0 cHT_0 qHT_1 cHT_1 qHT_2 cHT_2 zHT qHX_0 cHX_0 qHX_1 cHX_1 qHX_2 cHX_2 zHX qHY_0 cHY_0 qHY_1 cHY_1 qHY_2 cHY_2 zHY
            all_goals (go_wp2; go_ret; exact ⟨rfl, (by repeat (first | exact brefl _ | refine balloc ?_ _ | refine bdrewN ?_ _ | refine bset ?_ (by dsimp only; omega) _ | refine bstep ?_ (by assumption)))⟩)
          | true =>
            cases i2 with
            | false =>
              have hp := width_pos e1
              go_wp2_with fail
              refine (alive_is _).mono ?_
              rintro e w1 ⟨rfl, hb1⟩
              clear qHS_0 cHS_0 qHS_1 cHS_1 qHS_2 cHS_2 zHS qHT_0 cHT_0 qHT_1 cHT_1 qHT_2 cHT_2 zHT qHX_0 cHX_0 qHX_1 cHX_1 qHX_2 cHX_2 zHX qHY_0 cHY_0 qHY_1 cHY_1 qHY_2 cHY_2 zHY
              all_goals (go_wp2; go_ret; exact ⟨rfl, (by repeat (first | exact brefl _ | refine balloc ?_ _ | refine bdrewN ?_ _ | refine bset ?_ (by dsimp only; omega) _ | refine bstep ?_ (by assumption)))⟩)
            | true =>
              obtain ⟨s1, m1, e5⟩ : ∃ x p, addP a1 a2 = (x, p) := ⟨_, _, rfl⟩
              have A1 := Lib.hid e5
              have hw := width_add (s := ⟨lo, hi, k⟩) (t := ⟨lo2, hi2, k2⟩) (by rw [e4]) e1 e2
              rw [e4, e5] at hw
              have W3 := Lib.hid hw
              go_wp2_with fail
              refine (Width_is _ _ _ _ _ W3 _).mono ?_
              rintro e w1 ⟨rfl, hb1⟩
              have q1_1_0 : CellF w1 ⟨bz, 0, none⟩ (.int .i64 y1) := (by refine CellF.keep hb1 ?_; repeat (first | with_reducible exact qHY_0 | with_reducible exact CellF.at_ (by simp) rfl | with_reducible refine CellF.past _ ?_ | with_reducible refine CellF.drew ?_ | with_reducible refine CellF.drewN _ ?_))
              have c1_1_0 := q1_1_0.1
              have q1_1_1 : CellF w1 ⟨bz, 1, none⟩ (.int .i64 y2) := (by refine CellF.keep hb1 ?_; repeat (first | with_reducible exact qHY_1 | with_reducible exact CellF.at_ (by simp) rfl | with_reducible refine CellF.past _ ?_ | with_reducible refine CellF.drew ?_ | with_reducible refine CellF.drewN _ ?_))
              have c1_1_1 := q1_1_1.1
              have q1_1_2 : CellF w1 ⟨bz, 2, none⟩ (.bool true) := (by refine CellF.keep hb1 ?_; repeat (first | with_reducible exact qHY_2 | with_reducible exact CellF.at_ (by simp) rfl | with_reducible refine CellF.past _ ?_ | with_reducible refine CellF.drew ?_ | with_reducible refine CellF.drewN _ ?_))
              have c1_1_2 := q1_1_2.1
              have z1_1 : bz < w1.heap.size := ltc c1_1_0
              clear qHS_0 cHS_0 qHS_1 cHS_1 qHS_2 cHS_2 zHS qHT_0 cHT_0 qHT_1 cHT_1 qHT_2 cHT_2 zHT qHX_0 cHX_0 qHX_1 cHX_1 qHX_2 cHX_2 zHX qHY_0 cHY_0 qHY_1 cHY_1 qHY_2 cHY_2 zHY
              go_wp2_with fail
              refine (Add_is _ _ _ _ A1 _).mono ?_
              rintro e w2 ⟨rfl, hb2⟩
              have q2_2_0 : CellF w2 ⟨bz, 0, none⟩ (.int .i64 y1) := (by refine CellF.keep hb2 ?_; repeat (first | with_reducible exact q1_1_0 | with_reducible exact CellF.at_ (by simp) rfl | with_reducible refine CellF.past _ ?_ | with_reducible refine CellF.drew ?_ | with_reducible refine CellF.drewN _ ?_))
              have c2_2_0 := q2_2_0.1
              have q2_2_1 : CellF w2 ⟨bz, 1, none⟩ (.int .i64 y2) := (by refine CellF.keep hb2 ?_; repeat (first | with_reducible exact q1_1_1 | with_reducible exact CellF.at_ (by simp) rfl | with_reducible refine CellF.past _ ?_ | with_reducible refine CellF.drew ?_ | with_reducible refine CellF.drewN _ ?_))
              have c2_2_1 := q2_2_1.1
              have q2_2_2 : CellF w2 ⟨bz, 2, none⟩ (.bool true) := (by refine CellF.keep hb2 ?_; repeat (first | with_reducible exact q1_1_2 | with_reducible exact CellF.at_ (by simp) rfl | with_reducible refine CellF.past _ ?_ | with_reducible refine CellF.drew ?_ | with_reducible refine CellF.drewN _ ?_))
              have c2_2_2 := q2_2_2.1
              have z2_2 : bz < w2.heap.size := ltc c2_2_0
              clear q1_1_0 c1_1_0 q1_1_1 c1_1_1 q1_1_2 c1_1_2 z1_1
              cases m1 with
              | false =>
                have hp := width_pos e1
                go_wp2_with fail
                refine (alive_is _).mono ?_
                rintro e w3 ⟨rfl, hb3⟩
                clear q2_2_0 c2_2_0 q2_2_1 c2_2_1 q2_2_2 c2_2_2 z2_2
                all_goals (go_wp2; go_ret; exact ⟨rfl, (by repeat (first | exact brefl _ | refine balloc ?_ _ | refine bdrewN ?_ _ | refine bset ?_ (by dsimp only; omega) _ | refine bstep ?_ (by assumption)))⟩)
              | true =>
                have hp := width_pos e1
                go_wp2_with fail
                refine (alive_is _).mono ?_
                rintro e w3 ⟨rfl, hb3⟩
                clear q2_2_0 c2_2_0 q2_2_1 c2_2_1 q2_2_2 c2_2_2 z2_2
                all_goals (go_wp2; go_ret; exact ⟨rfl, (by repeat (first | exact brefl _ | refine balloc ?_ _ | refine bdrewN ?_ _ | refine bset ?_ (by dsimp only; omega) _ | refine bstep ?_ (by assumption)))⟩)
      | true =>
        have hx := width_shift (s := ⟨lo, hi, k⟩) (n := n) (by rw [e3])
        rw [e3, e1] at hx
        have W4 := Lib.hid hx
        go_wp2_with fail
        refine (Width_is _ _ _ _ _ W4 _).mono ?_
        rintro e w1 ⟨rfl, hb1⟩
        have q1_1_0 : CellF w1 ⟨bx, 0, none⟩ (.int .i64 x1) := (by refine CellF.keep hb1 ?_; repeat (first | with_reducible exact qHX_0 | with_reducible exact CellF.at_ (by simp) rfl | with_reducible refine CellF.past _ ?_ | with_reducible refine CellF.drew ?_ | with_reducible refine CellF.drewN _ ?_))
        have c1_1_0 := q1_1_0.1
        have q1_1_1 : CellF w1 ⟨bx, 1, none⟩ (.int .i64 x2) := (by refine CellF.keep hb1 ?_; repeat (first | with_reducible exact qHX_1 | with_reducible exact CellF.at_ (by simp) rfl | with_reducible refine CellF.past _ ?_ | with_reducible refine CellF.drew ?_ | with_reducible refine CellF.drewN _ ?_))
        have c1_1_1 := q1_1_1.1
        have q1_1_2 : CellF w1 ⟨bx, 2, none⟩ (.bool true) := (by refine CellF.keep hb1 ?_; repeat (first | with_reducible exact qHX_2 | with_reducible exact CellF.at_ (by simp) rfl | with_reducible refine CellF.past _ ?_ | with_reducible refine CellF.drew ?_ | with_reducible refine CellF.drewN _ ?_))
        have c1_1_2 := q1_1_2.1
        have z1_1 : bx < w1.heap.size := ltc c1_1_0
        have q1_2_0 : CellF w1 ⟨bz, 0, none⟩ (.int .i64 y1) := (by refine CellF.keep hb1 ?_; repeat (first | with_reducible exact qHY_0 | with_reducible exact CellF.at_ (by simp) rfl | with_reducible refine CellF.past _ ?_ | with_reducible refine CellF.drew ?_ | with_reducible refine CellF.drewN _ ?_))
        have c1_2_0 := q1_2_0.1
        have q1_2_1 : CellF w1 ⟨bz, 1, none⟩ (.int .i64 y2) := (by refine CellF.keep hb1 ?_; repeat (first | with_reducible exact qHY_1 | with_reducible exact CellF.at_ (by simp) rfl | with_reducible refine CellF.past _ ?_ | with_reducible refine CellF.drew ?_ | with_reducible refine CellF.drewN _ ?_))
        have c1_2_1 := q1_2_1.1
        have q1_2_2 : CellF w1 ⟨bz, 2, none⟩ (.bool y3) := (by refine CellF.keep hb1 ?_; repeat (first | with_reducible exact qHY_2 | with_reducible exact CellF.at_ (by simp) rfl | with_reducible refine CellF.past _ ?_ | with_reducible refine CellF.drew ?_ | with_reducible refine CellF.drewN _ ?_))
        have c1_2_2 := q1_2_2.1
        have z1_2 : bz < w1.heap.size := ltc c1_2_0
        clear qHS_0 cHS_0 qHS_1 cHS_1 qHS_2 cHS_2 zHS qHT_0 cHT_0 qHT_1 cHT_1 qHT_2 cHT_2 zHT qHX_0 cHX_0 qHX_1 cHX_1 qHX_2 cHX_2 zHX qHY_0 cHY_0 qHY_1 cHY_1 qHY_2 cHY_2 zHY
        cases y3 with
        | false =>
          cases i1 with
          | false =>
            go_wp2_with fail
            refine (alive_is _).mono ?_
            rintro e w2 ⟨rfl, hb2⟩
            clear q1_1_0 c1_1_0 q1_1_1 c1_1_1 q1_1_2 c1_1_2 z1_1 q1_2_0 c1_2_0 q1_2_1 c1_2_1 q1_2_2 c1_2_2 z1_2
            all_goals (go_wp2; go_ret; exact ⟨rfl, (by repeat (first | exact brefl _ | refine balloc ?_ _ | refine bdrewN ?_ _ | refine bset ?_ (by dsimp only; omega) _ | refine bstep ?_ (by assumption)))⟩)
          | true =>
            have hp := width_pos e1
            go_wp2_with fail
            refine (alive_is _).mono ?_
            rintro e w2 ⟨rfl, hb2⟩
            clear q1_1_0 c1_1_0 q1_1_1 c1_1_1 q1_1_2 c1_1_2 z1_1 q1_2_0 c1_2_0 q1_2_1 c1_2_1 q1_2_2 c1_2_2 z1_2
            all_goals (go_wp2; go_ret; exact ⟨rfl, (by repeat (first | exact brefl _ | refine balloc ?_ _ | refine bdrewN ?_ _ | refine bset ?_ (by dsimp only; omega) _ | refine bstep ?_ (by assumption)))⟩)
        | true =>
          cases i1 with
          | false =>
            go_wp2_with fail
            refine (alive_is _).mono ?_
            rintro e w2 ⟨rfl, hb2⟩
            clear q1_1_0 c1_1_0 q1_1_1 c1_1_1 q1_1_2 c1_1_2 z1_1 q1_2_0 c1_2_0 q1_2_1 c1_2_1 q1_2_2 c1_2_2 z1_2
            all_goals (go_wp2; go_ret; exact ⟨rfl, (by repeat (first | exact brefl _ | refine balloc ?_ _ | refine bdrewN ?_ _ | refine bset ?_ (by dsimp only; omega) _ | refine bstep ?_ (by assumption)))⟩)
          | true =>
            cases i2 with
            | false =>
              have hp := width_pos e1
              go_wp2_with fail
              refine (alive_is _).mono ?_
              rintro e w2 ⟨rfl, hb2⟩
              clear q1_1_0 c1_1_0 q1_1_1 c1_1_1 q1_1_2 c1_1_2 z1_1 q1_2_0 c1_2_0 q1_2_1 c1_2_1 q1_2_2 c1_2_2 z1_2
              all_goals (go_wp2; go_ret; exact ⟨rfl, (by repeat (first | exact brefl _ | refine balloc ?_ _ | refine bdrewN ?_ _ | refine bset ?_ (by dsimp only; omega) _ | refine bstep ?_ (by assumption)))⟩)
            | true =>
              obtain ⟨s1, m1, e5⟩ : ∃ x p, addP a1 a2 = (x, p) := ⟨_, _, rfl⟩
              have A1 := Lib.hid e5
              have hw := width_add (s := ⟨lo, hi, k⟩) (t := ⟨lo2, hi2, k2⟩) (by rw [e4]) e1 e2
              rw [e4, e5] at hw
              have W3 := Lib.hid hw
              go_wp2_with fail
              refine (Width_is _ _ _ _ _ W3 _).mono ?_
              rintro e w2 ⟨rfl, hb2⟩
              have q2_3_0 : CellF w2 ⟨bz, 0, none⟩ (.int .i64 y1) := (by refine CellF.keep hb2 ?_; repeat (first | with_reducible exact q1_2_0 | with_reducible exact CellF.at_ (by simp) rfl | with_reducible refine CellF.past _ ?_ | with_reducible refine CellF.drew ?_ | with_reducible refine CellF.drewN _ ?_))
              have c2_3_0 := q2_3_0.1
              have q2_3_1 : CellF w2 ⟨bz, 1, none⟩ (.int .i64 y2) := (by refine CellF.keep hb2 ?_; repeat (first | with_reducible exact q1_2_1 | with_reducible exact CellF.at_ (by simp) rfl | with_reducible refine CellF.past _ ?_ | with_reducible refine CellF.drew ?_ | with_reducible refine CellF.drewN _ ?_))
              have c2_3_1 := q2_3_1.1
              have q2_3_2 : CellF w2 ⟨bz, 2, none⟩ (.bool true) := (by refine CellF.keep hb2 ?_; repeat (first | with_reducible exact q1_2_2 | with_reducible exact CellF.at_ (by simp) rfl | with_reducible refine CellF.past _ ?_ | with_reducible refine CellF.drew ?_ | with_reducible refine CellF.drewN _ ?_))
              have c2_3_2 := q2_3_2.1
              have z2_3 : bz < w2.heap.size := ltc c2_3_0
              clear q1_1_0 c1_1_0 q1_1_1 c1_1_1 q1_1_2 c1_1_2 z1_1 q1_2_0 c1_2_0 q1_2_1 c1_2_1 q1_2_2 c1_2_2 z1_2
              go_wp2_with fail
              refine (Add_is _ _ _ _ A1 _).mono ?_
              rintro e w3 ⟨rfl, hb3⟩
              have q3_4_0 : CellF w3 ⟨bz, 0, none⟩ (.int .i64 y1) := (by refine CellF.keep hb3 ?_; repeat (first | with_reducible exact q2_3_0 | with_reducible exact CellF.at_ (by simp) rfl | with_reducible refine CellF.past _ ?_ | with_reducible refine CellF.drew ?_ | with_reducible refine CellF.drewN _ ?_))
              have c3_4_0 := q3_4_0.1
              have q3_4_1 : CellF w3 ⟨bz, 1, none⟩ (.int .i64 y2) := (by refine CellF.keep hb3 ?_; repeat (first | with_reducible exact q2_3_1 | with_reducible exact CellF.at_ (by simp) rfl | with_reducible refine CellF.past _ ?_ | with_reducible refine CellF.drew ?_ | with_reducible refine CellF.drewN _ ?_))
              have c3_4_1 := q3_4_1.1
              have q3_4_2 : CellF w3 ⟨bz, 2, none⟩ (.bool true) := (by refine CellF.keep hb3 ?_; repeat (first | with_reducible exact q2_3_2 | with_reducible exact CellF.at_ (by simp) rfl | with_reducible refine CellF.past _ ?_ | with_reducible refine CellF.drew ?_ | with_reducible refine CellF.drewN _ ?_))
              have c3_4_2 := q3_4_2.1
              have z3_4 : bz < w3.heap.size := ltc c3_4_0
              clear q2_3_0 c2_3_0 q2_3_1 c2_3_1 q2_3_2 c2_3_2 z2_3
              cases m1 with
              | false =>
                have hp := width_pos e1
                go_wp2_with fail
                refine (alive_is _).mono ?_
                rintro e w4 ⟨rfl, hb4⟩
                clear q3_4_0 c3_4_0 q3_4_1 c3_4_1 q3_4_2 c3_4_2 z3_4
                all_goals (go_wp2; go_ret; exact ⟨rfl, (by repeat (first | exact brefl _ | refine balloc ?_ _ | refine bdrewN ?_ _ | refine bset ?_ (by dsimp only; omega) _ | refine bstep ?_ (by assumption)))⟩)
              | true =>
                have hp := width_pos e1
                go_wp2_with fail
                refine (alive_is _).mono ?_
                rintro e w4 ⟨rfl, hb4⟩
                clear q3_4_0 c3_4_0 q3_4_1 c3_4_1 q3_4_2 c3_4_2 z3_4
                all_goals (go_wp2; go_ret; exact ⟨rfl, (by repeat (first | exact brefl _ | refine balloc ?_ _ | refine bdrewN ?_ _ | refine bset ?_ (by dsimp only; omega) _ | refine bstep ?_ (by assumption)))⟩)
end Go.Proofs.Ytldgcigdoncgdaa
