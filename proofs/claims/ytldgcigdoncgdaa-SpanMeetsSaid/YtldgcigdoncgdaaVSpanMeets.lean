/-
  The walk of the law SpanMeets.
-/
import Derived.Test.YtldgcigdoncgdaaOwn
import Derived.Test.YtldgcigdoncgdaaInv
import Derived.BigQuiet
import Derived.Deep.QuietTactic
import Derived.Test.YtldgcigdoncgdaaMsl
namespace Go.Proofs.Ytldgcigdoncgdaa
open Go.RowKit

set_option maxRecDepth 100000 in
set_option maxHeartbeats 4000000 in
theorem SpanMeets_walk (lo hi : Int) (k : Bool) (lo2 hi2 : Int) (k2 : Bool) (n : Int) (w : World) (_ : I64 lo) (_ : I64 hi) (_ : I64 lo2) (_ : I64 hi2) (_ : I64 n) :
    Calls Try.prog 6 #[.agg #[.int .i64 lo, .int .i64 hi, .bool k], .agg #[.int .i64 lo2, .int .i64 hi2, .bool k2], .int .i64 n] w fun e w' => e = .returned (.bool true) ∧ Below w.heap.size w w' := by
  go_enter Try.func6, Try.ntmps6
  go_upto_region 1 with (fail)
  go_cut [7, 8] (fun v7 v8 wc => ∃ bs bt, v7 = .pointer (some ⟨bs, 0, none⟩) ∧ v8 = .pointer (some ⟨bt, 0, none⟩) ∧ Hid (Below w.heap.size w wc) ∧ Hid (SpanAt wc bs lo hi k) ∧ Hid (SpanAt wc bt lo2 hi2 k2))
  case first =>
    generalize hu : (w.alloc (.cells #[.int .i64 lo, .int .i64 hi, .bool k] 23)).alloc (.cells #[.int .i64 lo2, .int .i64 hi2, .bool k2] 23) = u
    obtain ⟨hb, hs, A, B⟩ := two_blocks w u _ _ _ _ hu.symm
    have A0 := (A 0 _ rfl).1
    have B0 := (B 0 _ rfl).1
    have A1 := (A 1 _ rfl).1
    have B1 := (B 1 _ rfl).1
    have A2 := (A 2 _ rfl).1
    have B2 := (B 2 _ rfl).1
    clear hu hs A B
    refine wp_region_inv (by kernel_rfl) (fun l a w' => ∃ v7 v8 v15 v16 v17 v18, a = ⟨#[.agg #[.int .i64 lo, .int .i64 hi, .bool k], .agg #[.int .i64 lo2, .int .i64 hi2, .bool k2], .int .i64 n, .pointer (some ⟨w.heap.size, 0, none⟩), .pointer (some ⟨w.heap.size + 1, 0, none⟩), undef, .bool false, v7, v8, undef, undef, v15, v16, v17, v18, undef, undef, undef, undef, undef, undef, undef, undef, undef, undef, undef, undef, undef, undef, undef, undef, undef, undef, undef, undef, undef, undef, undef, undef, undef, undef, undef, undef, undef, undef, undef, undef, undef, undef, undef, undef, undef, undef, undef, undef, undef, undef, undef, undef, undef, undef, undef, undef, undef, undef, undef, undef, undef, undef, undef, undef, undef, undef, undef, undef, undef, undef, undef, undef, undef, undef, undef, undef, undef, undef, undef, undef, undef, undef, undef, undef, undef, undef, undef, undef, undef, undef, undef, undef, undef, undef, undef, undef, undef, undef, undef, undef, undef, undef], []⟩ ∧ l.size = 8 ∧ Below u.heap.size u w' ∧ (l.getD 0 false = true → v15 = .agg #[.int .i64 lo, .int .i64 hi, .bool k]) ∧ (l.getD 1 false = true → v16 = .agg #[.int .i64 lo, .int .i64 hi, .bool k]) ∧ (l.getD 2 false = true → v17 = .agg #[.int .i64 lo2, .int .i64 hi2, .bool k2]) ∧ (l.getD 3 false = true → v18 = .agg #[.int .i64 lo2, .int .i64 hi2, .bool k2]) ∧ (l.getD 4 false = true → ∃ b, v7 = .pointer (some ⟨b, 0, none⟩) ∧ u.heap.size ≤ b ∧ (l.getD 5 false = true → v8 ≠ .pointer (some ⟨b, 0, none⟩)) ∧ (l.getD 6 false = false → SpanAt w' b 0 0 false) ∧ (l.getD 6 false = true → SpanAt w' b lo hi k)) ∧ (l.getD 5 false = true → ∃ b, v8 = .pointer (some ⟨b, 0, none⟩) ∧ u.heap.size ≤ b ∧ (l.getD 7 false = false → SpanAt w' b 0 0 false) ∧ (l.getD 7 false = true → SpanAt w' b lo2 hi2 k2)) ∧ (l.getD 6 false = true → l.getD 4 false = true) ∧ (l.getD 7 false = true → l.getD 5 false = true)) ?_ ?_ ?_
    · --0
      exact ⟨undef, undef, undef, undef, undef, undef, rfl, rfl, bdrew (brefl _), fun h => (by cases h), fun h => (by cases h), fun h => (by cases h), fun h => (by cases h), fun h => (by cases h), fun h => (by cases h), fun h => (by cases h), fun h => (by cases h)⟩
    · intro i hii
      have hi8 : i < 8 := hii
      have h8 : i = 0 ∨ i = 1 ∨ i = 2 ∨ i = 3 ∨ i = 4 ∨ i = 5 ∨ i = 6 ∨ i = 7 := by omega
      rcases h8 with rfl | rfl | rfl | rfl | rfl | rfl | rfl | rfl
      · rintro l a w' hr ⟨v7, v8, v15, v16, v17, v18, rfl, hl, hB, h0, h1, h2, h3, h4, h5, h6, h7⟩
        have a0 := (hB.cell (ltc A0)).trans A0
        have a1 := (hB.cell (ltc A1)).trans A1
        have a2 := (hB.cell (ltc A2)).trans A2
        have b0 := (hB.cell (ltc B0)).trans B0
        have b1 := (hB.cell (ltc B1)).trans B1
        have b2 := (hB.cell (ltc B2)).trans B2
        refine wpOp_step rfl (fun K hK => ?_)
        clear A0 A1 A2 B0 B1 B2 hr
        go_simp
        refine hK _ _ ?_
        simp only [getD_own (l := l) (i := 0) (by omega), getD_set l (i := 0) (j := 1) (by decide), getD_set l (i := 0) (j := 2) (by decide), getD_set l (i := 0) (j := 3) (by decide), getD_set l (i := 0) (j := 4) (by decide), getD_set l (i := 0) (j := 5) (by decide), getD_set l (i := 0) (j := 6) (by decide), getD_set l (i := 0) (j := 7) (by decide)]
        exact ⟨v7, v8, _, v16, v17, v18, rfl, by simp [hl], hB, fun _ => rfl, h1, h2, h3, h4, h5, h6, h7⟩
      · rintro l a w' hr ⟨v7, v8, v15, v16, v17, v18, rfl, hl, hB, h0, h1, h2, h3, h4, h5, h6, h7⟩
        have d0 : l.getD 0 false = true := (ready_dep hr rfl).2 ⟨0, .data⟩ (by simp) rfl
        obtain rfl := h0 d0
        refine wpOp_step rfl (fun K hK => ?_)
        clear A0 A1 A2 B0 B1 B2 hr
        go_simp
        refine (own_is lo hi k _).mono ?_
        rintro e w1 ⟨rfl, hk⟩
        dsimp only
        refine hK _ _ ?_
        simp only [getD_own (l := l) (i := 1) (by omega), getD_set l (i := 1) (j := 0) (by decide), getD_set l (i := 1) (j := 2) (by decide), getD_set l (i := 1) (j := 3) (by decide), getD_set l (i := 1) (j := 4) (by decide), getD_set l (i := 1) (j := 5) (by decide), getD_set l (i := 1) (j := 6) (by decide), getD_set l (i := 1) (j := 7) (by decide)]
        exact ⟨v7, v8, _, _, v17, v18, rfl, by simp [hl], bstep hB hk, fun _ => rfl, fun _ => rfl, h2, h3, fun h => (by obtain ⟨b, e1, e2, e3, e4, e5⟩ := h4 h; exact ⟨b, e1, e2, e3, fun h => (e4 h).keep hk, fun h => (e5 h).keep hk⟩), fun h => (by obtain ⟨b, e1, e2, e4, e5⟩ := h5 h; exact ⟨b, e1, e2, fun h => (e4 h).keep hk, fun h => (e5 h).keep hk⟩), h6, h7⟩
      · rintro l a w' hr ⟨v7, v8, v15, v16, v17, v18, rfl, hl, hB, h0, h1, h2, h3, h4, h5, h6, h7⟩
        have a0 := (hB.cell (ltc A0)).trans A0
        have a1 := (hB.cell (ltc A1)).trans A1
        have a2 := (hB.cell (ltc A2)).trans A2
        have b0 := (hB.cell (ltc B0)).trans B0
        have b1 := (hB.cell (ltc B1)).trans B1
        have b2 := (hB.cell (ltc B2)).trans B2
        refine wpOp_step rfl (fun K hK => ?_)
        clear A0 A1 A2 B0 B1 B2 hr
        go_simp
        refine hK _ _ ?_
        simp only [getD_own (l := l) (i := 2) (by omega), getD_set l (i := 2) (j := 0) (by decide), getD_set l (i := 2) (j := 1) (by decide), getD_set l (i := 2) (j := 3) (by decide), getD_set l (i := 2) (j := 4) (by decide), getD_set l (i := 2) (j := 5) (by decide), getD_set l (i := 2) (j := 6) (by decide), getD_set l (i := 2) (j := 7) (by decide)]
        exact ⟨v7, v8, v15, v16, _, v18, rfl, by simp [hl], hB, h0, h1, fun _ => rfl, h3, h4, h5, h6, h7⟩
      · rintro l a w' hr ⟨v7, v8, v15, v16, v17, v18, rfl, hl, hB, h0, h1, h2, h3, h4, h5, h6, h7⟩
        have d0 : l.getD 2 false = true := (ready_dep hr rfl).2 ⟨2, .data⟩ (by simp) rfl
        obtain rfl := h2 d0
        refine wpOp_step rfl (fun K hK => ?_)
        clear A0 A1 A2 B0 B1 B2 hr
        go_simp
        refine (own_is lo2 hi2 k2 _).mono ?_
        rintro e w1 ⟨rfl, hk⟩
        dsimp only
        refine hK _ _ ?_
        simp only [getD_own (l := l) (i := 3) (by omega), getD_set l (i := 3) (j := 0) (by decide), getD_set l (i := 3) (j := 1) (by decide), getD_set l (i := 3) (j := 2) (by decide), getD_set l (i := 3) (j := 4) (by decide), getD_set l (i := 3) (j := 5) (by decide), getD_set l (i := 3) (j := 6) (by decide), getD_set l (i := 3) (j := 7) (by decide)]
        exact ⟨v7, v8, v15, v16, _, _, rfl, by simp [hl], bstep hB hk, h0, h1, fun _ => rfl, fun _ => rfl, fun h => (by obtain ⟨b, e1, e2, e3, e4, e5⟩ := h4 h; exact ⟨b, e1, e2, e3, fun h => (e4 h).keep hk, fun h => (e5 h).keep hk⟩), fun h => (by obtain ⟨b, e1, e2, e4, e5⟩ := h5 h; exact ⟨b, e1, e2, fun h => (e4 h).keep hk, fun h => (e5 h).keep hk⟩), h6, h7⟩
      · rintro l a w' hr ⟨v7, v8, v15, v16, v17, v18, rfl, hl, hB, h0, h1, h2, h3, h4, h5, h6, h7⟩
        have hz := hB.size
        have lt5 : ∀ b, (l.getD 7 false = false → SpanAt w' b 0 0 false) → (l.getD 7 false = true → SpanAt w' b lo2 hi2 k2) → b < w'.heap.size := fun b x y => by cases hc : l.getD 7 false with | false => exact (x hc).lt | true => exact (y hc).lt
        have hn := (ready_dep hr rfl).1
        have hn4 : l.getD 4 false = false := by cases hc : l.getD 4 false with | false => rfl | true => (exfalso; have hs4 := getD_both hc; rw [hs4] at hn; cases hn)
        have hu6 : l.getD 6 false = false := by cases hc : l.getD 6 false with | false => rfl | true => (rw [h6 hc] at hn4; cases hn4)
        refine wpOp_step rfl (fun K hK => ?_)
        clear A0 A1 A2 B0 B1 B2 hr
        go_simp
        refine hK _ _ ?_
        simp only [getD_own (l := l) (i := 4) (by omega), getD_set l (i := 4) (j := 0) (by decide), getD_set l (i := 4) (j := 1) (by decide), getD_set l (i := 4) (j := 2) (by decide), getD_set l (i := 4) (j := 3) (by decide), getD_set l (i := 4) (j := 5) (by decide), getD_set l (i := 4) (j := 6) (by decide), getD_set l (i := 4) (j := 7) (by decide)]
        exact ⟨_, v8, v15, v16, v17, v18, rfl, by simp [hl], balloc hB _, h0, h1, h2, h3, fun _ => ⟨_, rfl, hz, fun h => (by obtain ⟨b, e1, e2, e4, e5⟩ := h5 h; rw [e1]; exact ptr_ne (Nat.ne_of_lt (lt5 b e4 e5))), fun _ => SpanAt.new rfl, fun h => (by rw [hu6] at h; cases h)⟩, fun h => (by obtain ⟨b, e1, e2, e4, e5⟩ := h5 h; exact ⟨b, e1, e2, fun h => (e4 h).keep (balloc (brefl _) _), fun h => (e5 h).keep (balloc (brefl _) _)⟩), fun _ => (by first | rfl | trivial), h7⟩
      · rintro l a w' hr ⟨v7, v8, v15, v16, v17, v18, rfl, hl, hB, h0, h1, h2, h3, h4, h5, h6, h7⟩
        have hz := hB.size
        have lt4 : ∀ b, (l.getD 6 false = false → SpanAt w' b 0 0 false) → (l.getD 6 false = true → SpanAt w' b lo hi k) → b < w'.heap.size := fun b x y => by cases hc : l.getD 6 false with | false => exact (x hc).lt | true => exact (y hc).lt
        have hn := (ready_dep hr rfl).1
        have hn5 : l.getD 5 false = false := by cases hc : l.getD 5 false with | false => rfl | true => (exfalso; have hs4 := getD_both hc; rw [hs4] at hn; cases hn)
        have hu7 : l.getD 7 false = false := by cases hc : l.getD 7 false with | false => rfl | true => (rw [h7 hc] at hn5; cases hn5)
        refine wpOp_step rfl (fun K hK => ?_)
        clear A0 A1 A2 B0 B1 B2 hr
        go_simp
        refine hK _ _ ?_
        simp only [getD_own (l := l) (i := 5) (by omega), getD_set l (i := 5) (j := 0) (by decide), getD_set l (i := 5) (j := 1) (by decide), getD_set l (i := 5) (j := 2) (by decide), getD_set l (i := 5) (j := 3) (by decide), getD_set l (i := 5) (j := 4) (by decide), getD_set l (i := 5) (j := 6) (by decide), getD_set l (i := 5) (j := 7) (by decide)]
        exact ⟨v7, _, v15, v16, v17, v18, rfl, by simp [hl], balloc hB _, h0, h1, h2, h3, fun h => (by obtain ⟨b, e1, e2, e3, e4, e5⟩ := h4 h; exact ⟨b, e1, e2, fun _ => ptr_ne (Nat.ne_of_gt (lt4 b e4 e5)), fun h => (e4 h).keep (balloc (brefl _) _), fun h => (e5 h).keep (balloc (brefl _) _)⟩), fun _ => ⟨_, rfl, hz, fun _ => SpanAt.new rfl, fun h => (by rw [hu7] at h; cases h)⟩, h6, fun _ => (by first | rfl | trivial)⟩
      · rintro l a w' hr ⟨v7, v8, v15, v16, v17, v18, rfl, hl, hB, h0, h1, h2, h3, h4, h5, h6, h7⟩
        have d4 : l.getD 4 false = true := (ready_dep hr rfl).2 ⟨4, .data⟩ (by simp) rfl
        have d1 : l.getD 1 false = true := (ready_dep hr rfl).2 ⟨1, .data⟩ (by simp) rfl
        obtain rfl := h1 d1
        have hn := (ready_dep hr rfl).1
        have hn6 : l.getD 6 false = false := by cases hc : l.getD 6 false with | false => rfl | true => (exfalso; have hs4 := getD_both hc; rw [hs4] at hn; cases hn)
        obtain ⟨b, rfl, hub, hne, e4, _⟩ := h4 d4
        have hS := e4 hn6
        have hT := span_sets (x := lo) (y := hi) (z := k) hS
        have s0 := (hS).1.1
        have s1 := (hS).2.1.1
        have s2 := (hS).2.2.1
        have s3 := (hS).1.2
        have s4 := (hS).2.1.2
        have s5 := (hS).2.2.2
        refine wpOp_step rfl (fun K hK => ?_)
        clear A0 A1 A2 B0 B1 B2 hr
        clear hS e4
        go_simp
        refine hK _ _ ?_
        simp only [getD_own (l := l) (i := 6) (by omega), getD_set l (i := 6) (j := 0) (by decide), getD_set l (i := 6) (j := 1) (by decide), getD_set l (i := 6) (j := 2) (by decide), getD_set l (i := 6) (j := 3) (by decide), getD_set l (i := 6) (j := 4) (by decide), getD_set l (i := 6) (j := 5) (by decide), getD_set l (i := 6) (j := 7) (by decide)]
        exact ⟨_, v8, v15, _, v17, v18, rfl, by simp [hl], hB.trans (hT.2.2 _ hub), h0, fun _ => rfl, h2, h3, fun _ => ⟨b, rfl, hub, hne, fun h => (by cases h), fun _ => hT.1⟩, fun h => (by obtain ⟨b', e1, e2, x4, x5⟩ := h5 h; have hbb : b' ≠ b := fun hh => hne h (by rw [e1, hh]); exact ⟨b', e1, e2, fun h => hT.2.1 _ _ _ _ hbb (x4 h), fun h => hT.2.1 _ _ _ _ hbb (x5 h)⟩), fun _ => d4, h7⟩
      · rintro l a w' hr ⟨v7, v8, v15, v16, v17, v18, rfl, hl, hB, h0, h1, h2, h3, h4, h5, h6, h7⟩
        have d5 : l.getD 5 false = true := (ready_dep hr rfl).2 ⟨5, .data⟩ (by simp) rfl
        have d3 : l.getD 3 false = true := (ready_dep hr rfl).2 ⟨3, .data⟩ (by simp) rfl
        obtain rfl := h3 d3
        have hn := (ready_dep hr rfl).1
        have hn7 : l.getD 7 false = false := by cases hc : l.getD 7 false with | false => rfl | true => (exfalso; have hs4 := getD_both hc; rw [hs4] at hn; cases hn)
        obtain ⟨b, rfl, hub, e4, _⟩ := h5 d5
        have hS := e4 hn7
        have hT := span_sets (x := lo2) (y := hi2) (z := k2) hS
        have s0 := (hS).1.1
        have s1 := (hS).2.1.1
        have s2 := (hS).2.2.1
        have s3 := (hS).1.2
        have s4 := (hS).2.1.2
        have s5 := (hS).2.2.2
        refine wpOp_step rfl (fun K hK => ?_)
        clear A0 A1 A2 B0 B1 B2 hr
        clear hS e4
        go_simp
        refine hK _ _ ?_
        simp only [getD_own (l := l) (i := 7) (by omega), getD_set l (i := 7) (j := 0) (by decide), getD_set l (i := 7) (j := 1) (by decide), getD_set l (i := 7) (j := 2) (by decide), getD_set l (i := 7) (j := 3) (by decide), getD_set l (i := 7) (j := 4) (by decide), getD_set l (i := 7) (j := 5) (by decide), getD_set l (i := 7) (j := 6) (by decide)]
        exact ⟨v7, _, v15, v16, v17, _, rfl, by simp [hl], hB.trans (hT.2.2 _ hub), h0, h1, h2, fun _ => rfl, fun h => (by obtain ⟨b', e1, e2, x3, x4, x5⟩ := h4 h; have hbb : b' ≠ b := fun hh => x3 d5 (by rw [hh]); exact ⟨b', e1, e2, x3, fun h => hT.2.1 _ _ _ _ hbb (x4 h), fun h => hT.2.1 _ _ _ _ hbb (x5 h)⟩), fun _ => ⟨b, rfl, hub, fun h => (by cases h), fun _ => hT.1⟩, h6, fun _ => d5⟩
    · rintro l a w' ⟨v7, v8, v15, v16, v17, v18, rfl, hl, hB, h0, h1, h2, h3, h4, h5, h6, h7⟩ hr
      have hall := ready_all (by decide) hl hr
      obtain ⟨b, rfl, hub, _, _, e5⟩ := h4 (hall 4 (by decide))
      obtain ⟨b', rfl, hub', _, f5⟩ := h5 (hall 5 (by decide))
      go_wp2_with fail
      go_meet
      exact ⟨b, b', rfl, rfl, Lib.hid (hb.trans (hB.mono hb.size)), e5 (hall 6 (by decide)), f5 (hall 7 (by decide))⟩
  case rest =>
    obtain ⟨bs, bt, rfl, rfl, HB, HS, HT⟩ := hcut
    have hwc := HB.out
    have S0 := HS.out.1.1
    have S1 := HS.out.2.1.1
    have S2 := HS.out.2.2.1
    have S3 := HS.out.1.2
    have S4 := HS.out.2.1.2
    have S5 := HS.out.2.2.2
    have T0 := HT.out.1.1
    have T1 := HT.out.2.1.1
    have T2 := HT.out.2.2.1
    have T3 := HT.out.1.2
    have T4 := HT.out.2.1.2
    have T5 := HT.out.2.2.2
    clear HB HS HT
    obtain ⟨p1, e1⟩ : ∃ p, spHas ⟨lo, hi, k⟩ n = p := ⟨_, rfl⟩
    have P1 := Lib.hid e1
    obtain ⟨p2, e2⟩ : ∃ p, spHas ⟨lo2, hi2, k2⟩ n = p := ⟨_, rfl⟩
    have P2 := Lib.hid e2
    obtain ⟨⟨m1, m2, m3⟩, e3⟩ : ∃ s, spMeet ⟨lo, hi, k⟩ ⟨lo2, hi2, k2⟩ = s := ⟨_, rfl⟩
    have X1 := Lib.hid e3
    have X2 := Lib.hid ((meet_comm ⟨lo, hi, k⟩ ⟨lo2, hi2, k2⟩).trans e3)
    obtain ⟨⟨h1, h2, h3⟩, e4⟩ : ∃ s, spHull ⟨lo, hi, k⟩ ⟨lo2, hi2, k2⟩ = s := ⟨_, rfl⟩
    have Y1 := Lib.hid e4
    have Y2 := Lib.hid ((hull_comm ⟨lo, hi, k⟩ ⟨lo2, hi2, k2⟩).trans e4)
    have qBS_0 : CellF wc ⟨bs, 0, none⟩ (.int .i64 lo) := ⟨S0, S3⟩
    have cBS_0 := qBS_0.1
    have qBS_1 : CellF wc ⟨bs, 1, none⟩ (.int .i64 hi) := ⟨S1, S4⟩
    have cBS_1 := qBS_1.1
    have qBS_2 : CellF wc ⟨bs, 2, none⟩ (.bool k) := ⟨S2, S5⟩
    have cBS_2 := qBS_2.1
    have zBS := ltc cBS_0
    have qBT_0 : CellF wc ⟨bt, 0, none⟩ (.int .i64 lo2) := ⟨T0, T3⟩
    have cBT_0 := qBT_0.1
    have qBT_1 : CellF wc ⟨bt, 1, none⟩ (.int .i64 hi2) := ⟨T1, T4⟩
    have cBT_1 := qBT_1.1
    have qBT_2 : CellF wc ⟨bt, 2, none⟩ (.bool k2) := ⟨T2, T5⟩
    have cBT_2 := qBT_2.1
    have zBT := ltc cBT_0
    clear S0 S1 S2 S3 S4 S5 T0 T1 T2 T3 T4 T5
    go_upto_region 2 with (fail)
    go_cut [9] (fun v9 wd => v9 = .bool (p1 && p2) ∧ Hid (Below w.heap.size w wd) ∧ Hid (SpanAt wd bs lo hi k) ∧ Hid (SpanAt wd bt lo2 hi2 k2))
    case first =>
      go_wp2_with fail
      refine (Has_is _ _ _ _ _ P1 _).mono ?_
      rintro e w1 ⟨rfl, hb1⟩
      have q1_1_0 : CellF w1 ⟨bs, 0, none⟩ (.int .i64 lo) := (by refine CellF.keep hb1 ?_; repeat (first | with_reducible exact qBS_0 | with_reducible exact CellF.at_ (by simp) rfl | with_reducible refine CellF.past _ ?_ | with_reducible refine CellF.drew ?_ | with_reducible refine CellF.drewN _ ?_))
      have c1_1_0 := q1_1_0.1
      have q1_1_1 : CellF w1 ⟨bs, 1, none⟩ (.int .i64 hi) := (by refine CellF.keep hb1 ?_; repeat (first | with_reducible exact qBS_1 | with_reducible exact CellF.at_ (by simp) rfl | with_reducible refine CellF.past _ ?_ | with_reducible refine CellF.drew ?_ | with_reducible refine CellF.drewN _ ?_))
      have c1_1_1 := q1_1_1.1
      have q1_1_2 : CellF w1 ⟨bs, 2, none⟩ (.bool k) := (by refine CellF.keep hb1 ?_; repeat (first | with_reducible exact qBS_2 | with_reducible exact CellF.at_ (by simp) rfl | with_reducible refine CellF.past _ ?_ | with_reducible refine CellF.drew ?_ | with_reducible refine CellF.drewN _ ?_))
      have c1_1_2 := q1_1_2.1
      have z1_1 : bs < w1.heap.size := ltc c1_1_0
      have q1_2_0 : CellF w1 ⟨bt, 0, none⟩ (.int .i64 lo2) := (by refine CellF.keep hb1 ?_; repeat (first | with_reducible exact qBT_0 | with_reducible exact CellF.at_ (by simp) rfl | with_reducible refine CellF.past _ ?_ | with_reducible refine CellF.drew ?_ | with_reducible refine CellF.drewN _ ?_))
      have c1_2_0 := q1_2_0.1
      have q1_2_1 : CellF w1 ⟨bt, 1, none⟩ (.int .i64 hi2) := (by refine CellF.keep hb1 ?_; repeat (first | with_reducible exact qBT_1 | with_reducible exact CellF.at_ (by simp) rfl | with_reducible refine CellF.past _ ?_ | with_reducible refine CellF.drew ?_ | with_reducible refine CellF.drewN _ ?_))
      have c1_2_1 := q1_2_1.1
      have q1_2_2 : CellF w1 ⟨bt, 2, none⟩ (.bool k2) := (by refine CellF.keep hb1 ?_; repeat (first | with_reducible exact qBT_2 | with_reducible exact CellF.at_ (by simp) rfl | with_reducible refine CellF.past _ ?_ | with_reducible refine CellF.drew ?_ | with_reducible refine CellF.drewN _ ?_))
      have c1_2_2 := q1_2_2.1
      have z1_2 : bt < w1.heap.size := ltc c1_2_0
      clear qBS_0 cBS_0 qBS_1 cBS_1 qBS_2 cBS_2 zBS qBT_0 cBT_0 qBT_1 cBT_1 qBT_2 cBT_2 zBT
      cases p1 with
      | false =>
        go_wp2_with fail
        go_meet
        exact ⟨rfl, Lib.hid (by repeat (first | exact brefl _ | refine balloc ?_ _ | refine bdrewN ?_ _ | refine bset ?_ (by dsimp only; omega) _ | refine bstep ?_ (by assumption))), Lib.hid (by refine ⟨?_, ?_, ?_⟩ <;> (repeat (first | with_reducible exact q1_1_0 | with_reducible exact q1_1_1 | with_reducible exact q1_1_2 | with_reducible exact CellF.at_ (by simp) rfl | with_reducible refine CellF.past _ ?_ | with_reducible refine CellF.drew ?_ | with_reducible refine CellF.drewN _ ?_))), Lib.hid (by refine ⟨?_, ?_, ?_⟩ <;> (repeat (first | with_reducible exact q1_2_0 | with_reducible exact q1_2_1 | with_reducible exact q1_2_2 | with_reducible exact CellF.at_ (by simp) rfl | with_reducible refine CellF.past _ ?_ | with_reducible refine CellF.drew ?_ | with_reducible refine CellF.drewN _ ?_)))⟩
      | true =>
        go_wp2_with fail
        refine (Has_is _ _ _ _ _ P2 _).mono ?_
        rintro e w2 ⟨rfl, hb2⟩
        have q2_3_0 : CellF w2 ⟨bs, 0, none⟩ (.int .i64 lo) := (by refine CellF.keep hb2 ?_; repeat (first | with_reducible exact q1_1_0 | with_reducible exact CellF.at_ (by simp) rfl | with_reducible refine CellF.past _ ?_ | with_reducible refine CellF.drew ?_ | with_reducible refine CellF.drewN _ ?_))
        have c2_3_0 := q2_3_0.1
        have q2_3_1 : CellF w2 ⟨bs, 1, none⟩ (.int .i64 hi) := (by refine CellF.keep hb2 ?_; repeat (first | with_reducible exact q1_1_1 | with_reducible exact CellF.at_ (by simp) rfl | with_reducible refine CellF.past _ ?_ | with_reducible refine CellF.drew ?_ | with_reducible refine CellF.drewN _ ?_))
        have c2_3_1 := q2_3_1.1
        have q2_3_2 : CellF w2 ⟨bs, 2, none⟩ (.bool k) := (by refine CellF.keep hb2 ?_; repeat (first | with_reducible exact q1_1_2 | with_reducible exact CellF.at_ (by simp) rfl | with_reducible refine CellF.past _ ?_ | with_reducible refine CellF.drew ?_ | with_reducible refine CellF.drewN _ ?_))
        have c2_3_2 := q2_3_2.1
        have z2_3 : bs < w2.heap.size := ltc c2_3_0
        have q2_4_0 : CellF w2 ⟨bt, 0, none⟩ (.int .i64 lo2) := (by refine CellF.keep hb2 ?_; repeat (first | with_reducible exact q1_2_0 | with_reducible exact CellF.at_ (by simp) rfl | with_reducible refine CellF.past _ ?_ | with_reducible refine CellF.drew ?_ | with_reducible refine CellF.drewN _ ?_))
        have c2_4_0 := q2_4_0.1
        have q2_4_1 : CellF w2 ⟨bt, 1, none⟩ (.int .i64 hi2) := (by refine CellF.keep hb2 ?_; repeat (first | with_reducible exact q1_2_1 | with_reducible exact CellF.at_ (by simp) rfl | with_reducible refine CellF.past _ ?_ | with_reducible refine CellF.drew ?_ | with_reducible refine CellF.drewN _ ?_))
        have c2_4_1 := q2_4_1.1
        have q2_4_2 : CellF w2 ⟨bt, 2, none⟩ (.bool k2) := (by refine CellF.keep hb2 ?_; repeat (first | with_reducible exact q1_2_2 | with_reducible exact CellF.at_ (by simp) rfl | with_reducible refine CellF.past _ ?_ | with_reducible refine CellF.drew ?_ | with_reducible refine CellF.drewN _ ?_))
        have c2_4_2 := q2_4_2.1
        have z2_4 : bt < w2.heap.size := ltc c2_4_0
        clear q1_1_0 c1_1_0 q1_1_1 c1_1_1 q1_1_2 c1_1_2 z1_1 q1_2_0 c1_2_0 q1_2_1 c1_2_1 q1_2_2 c1_2_2 z1_2
        go_wp2_with fail
        go_meet
        exact ⟨rfl, Lib.hid (by repeat (first | exact brefl _ | refine balloc ?_ _ | refine bdrewN ?_ _ | refine bset ?_ (by dsimp only; omega) _ | refine bstep ?_ (by assumption))), Lib.hid (by refine ⟨?_, ?_, ?_⟩ <;> (repeat (first | with_reducible exact q2_3_0 | with_reducible exact q2_3_1 | with_reducible exact q2_3_2 | with_reducible exact CellF.at_ (by simp) rfl | with_reducible refine CellF.past _ ?_ | with_reducible refine CellF.drew ?_ | with_reducible refine CellF.drewN _ ?_))), Lib.hid (by refine ⟨?_, ?_, ?_⟩ <;> (repeat (first | with_reducible exact q2_4_0 | with_reducible exact q2_4_1 | with_reducible exact q2_4_2 | with_reducible exact CellF.at_ (by simp) rfl | with_reducible refine CellF.past _ ?_ | with_reducible refine CellF.drew ?_ | with_reducible refine CellF.drewN _ ?_)))⟩
    case rest =>
      obtain ⟨rfl, HB, Hbs1, Hbt1⟩ := hcut
      have hwd1 := HB.out
      clear HB
      have qHbs1_0 := Hbs1.out.1
      have cHbs1_0 := qHbs1_0.1
      have qHbs1_1 := Hbs1.out.2.1
      have cHbs1_1 := qHbs1_1.1
      have qHbs1_2 := Hbs1.out.2.2
      have cHbs1_2 := qHbs1_2.1
      have zHbs1 := ltc cHbs1_0
      have qHbt1_0 := Hbt1.out.1
      have cHbt1_0 := qHbt1_0.1
      have qHbt1_1 := Hbt1.out.2.1
      have cHbt1_1 := qHbt1_1.1
      have qHbt1_2 := Hbt1.out.2.2
      have cHbt1_2 := qHbt1_2.1
      have zHbt1 := ltc cHbt1_0
      clear Hbs1 Hbt1
      go_upto_region 3 with (fail)
      go_cut [49] (fun v49 wd => v49 = .bool false ∧ Hid (Below w.heap.size w wd) ∧ Hid (SpanAt wd bs lo hi k) ∧ Hid (SpanAt wd bt lo2 hi2 k2))
      case first =>
        cases p1 with
        | false =>
          cases p2 with
          | false =>
            go_wp2_with fail
            refine (Has_is _ _ _ _ _ P1 _).mono ?_
            rintro e w1 ⟨rfl, hb1⟩
            have q1_1_0 : CellF w1 ⟨bs, 0, none⟩ (.int .i64 lo) := (by refine CellF.keep hb1 ?_; repeat (first | with_reducible exact qHbs1_0 | with_reducible exact CellF.at_ (by simp) rfl | with_reducible refine CellF.past _ ?_ | with_reducible refine CellF.drew ?_ | with_reducible refine CellF.drewN _ ?_))
            have c1_1_0 := q1_1_0.1
            have q1_1_1 : CellF w1 ⟨bs, 1, none⟩ (.int .i64 hi) := (by refine CellF.keep hb1 ?_; repeat (first | with_reducible exact qHbs1_1 | with_reducible exact CellF.at_ (by simp) rfl | with_reducible refine CellF.past _ ?_ | with_reducible refine CellF.drew ?_ | with_reducible refine CellF.drewN _ ?_))
            have c1_1_1 := q1_1_1.1
            have q1_1_2 : CellF w1 ⟨bs, 2, none⟩ (.bool k) := (by refine CellF.keep hb1 ?_; repeat (first | with_reducible exact qHbs1_2 | with_reducible exact CellF.at_ (by simp) rfl | with_reducible refine CellF.past _ ?_ | with_reducible refine CellF.drew ?_ | with_reducible refine CellF.drewN _ ?_))
            have c1_1_2 := q1_1_2.1
            have z1_1 : bs < w1.heap.size := ltc c1_1_0
            have q1_2_0 : CellF w1 ⟨bt, 0, none⟩ (.int .i64 lo2) := (by refine CellF.keep hb1 ?_; repeat (first | with_reducible exact qHbt1_0 | with_reducible exact CellF.at_ (by simp) rfl | with_reducible refine CellF.past _ ?_ | with_reducible refine CellF.drew ?_ | with_reducible refine CellF.drewN _ ?_))
            have c1_2_0 := q1_2_0.1
            have q1_2_1 : CellF w1 ⟨bt, 1, none⟩ (.int .i64 hi2) := (by refine CellF.keep hb1 ?_; repeat (first | with_reducible exact qHbt1_1 | with_reducible exact CellF.at_ (by simp) rfl | with_reducible refine CellF.past _ ?_ | with_reducible refine CellF.drew ?_ | with_reducible refine CellF.drewN _ ?_))
            have c1_2_1 := q1_2_1.1
            have q1_2_2 : CellF w1 ⟨bt, 2, none⟩ (.bool k2) := (by refine CellF.keep hb1 ?_; repeat (first | with_reducible exact qHbt1_2 | with_reducible exact CellF.at_ (by simp) rfl | with_reducible refine CellF.past _ ?_ | with_reducible refine CellF.drew ?_ | with_reducible refine CellF.drewN _ ?_))
            have c1_2_2 := q1_2_2.1
            have z1_2 : bt < w1.heap.size := ltc c1_2_0
            clear qHbs1_0 cHbs1_0 qHbs1_1 cHbs1_1 qHbs1_2 cHbs1_2 zHbs1 qHbt1_0 cHbt1_0 qHbt1_1 cHbt1_1 qHbt1_2 cHbt1_2 zHbt1
            go_wp2_with fail
            refine (Has_is _ _ _ _ _ P2 _).mono ?_
            rintro e w2 ⟨rfl, hb2⟩
            have q2_3_0 : CellF w2 ⟨bs, 0, none⟩ (.int .i64 lo) := (by refine CellF.keep hb2 ?_; repeat (first | with_reducible exact q1_1_0 | with_reducible exact CellF.at_ (by simp) rfl | with_reducible refine CellF.past _ ?_ | with_reducible refine CellF.drew ?_ | with_reducible refine CellF.drewN _ ?_))
            have c2_3_0 := q2_3_0.1
            have q2_3_1 : CellF w2 ⟨bs, 1, none⟩ (.int .i64 hi) := (by refine CellF.keep hb2 ?_; repeat (first | with_reducible exact q1_1_1 | with_reducible exact CellF.at_ (by simp) rfl | with_reducible refine CellF.past _ ?_ | with_reducible refine CellF.drew ?_ | with_reducible refine CellF.drewN _ ?_))
            have c2_3_1 := q2_3_1.1
            have q2_3_2 : CellF w2 ⟨bs, 2, none⟩ (.bool k) := (by refine CellF.keep hb2 ?_; repeat (first | with_reducible exact q1_1_2 | with_reducible exact CellF.at_ (by simp) rfl | with_reducible refine CellF.past _ ?_ | with_reducible refine CellF.drew ?_ | with_reducible refine CellF.drewN _ ?_))
            have c2_3_2 := q2_3_2.1
            have z2_3 : bs < w2.heap.size := ltc c2_3_0
            have q2_4_0 : CellF w2 ⟨bt, 0, none⟩ (.int .i64 lo2) := (by refine CellF.keep hb2 ?_; repeat (first | with_reducible exact q1_2_0 | with_reducible exact CellF.at_ (by simp) rfl | with_reducible refine CellF.past _ ?_ | with_reducible refine CellF.drew ?_ | with_reducible refine CellF.drewN _ ?_))
            have c2_4_0 := q2_4_0.1
            have q2_4_1 : CellF w2 ⟨bt, 1, none⟩ (.int .i64 hi2) := (by refine CellF.keep hb2 ?_; repeat (first | with_reducible exact q1_2_1 | with_reducible exact CellF.at_ (by simp) rfl | with_reducible refine CellF.past _ ?_ | with_reducible refine CellF.drew ?_ | with_reducible refine CellF.drewN _ ?_))
            have c2_4_1 := q2_4_1.1
            have q2_4_2 : CellF w2 ⟨bt, 2, none⟩ (.bool k2) := (by refine CellF.keep hb2 ?_; repeat (first | with_reducible exact q1_2_2 | with_reducible exact CellF.at_ (by simp) rfl | with_reducible refine CellF.past _ ?_ | with_reducible refine CellF.drew ?_ | with_reducible refine CellF.drewN _ ?_))
            have c2_4_2 := q2_4_2.1
            have z2_4 : bt < w2.heap.size := ltc c2_4_0
            clear q1_1_0 c1_1_0 q1_1_1 c1_1_1 q1_1_2 c1_1_2 z1_1 q1_2_0 c1_2_0 q1_2_1 c1_2_1 q1_2_2 c1_2_2 z1_2
            go_wp2_with fail
            go_meet
            exact ⟨rfl, Lib.hid (by repeat (first | exact brefl _ | refine balloc ?_ _ | refine bdrewN ?_ _ | refine bset ?_ (by dsimp only; omega) _ | refine bstep ?_ (by assumption))), Lib.hid (by refine ⟨?_, ?_, ?_⟩ <;> (repeat (first | with_reducible exact q2_3_0 | with_reducible exact q2_3_1 | with_reducible exact q2_3_2 | with_reducible exact CellF.at_ (by simp) rfl | with_reducible refine CellF.past _ ?_ | with_reducible refine CellF.drew ?_ | with_reducible refine CellF.drewN _ ?_))), Lib.hid (by refine ⟨?_, ?_, ?_⟩ <;> (repeat (first | with_reducible exact q2_4_0 | with_reducible exact q2_4_1 | with_reducible exact q2_4_2 | with_reducible exact CellF.at_ (by simp) rfl | with_reducible refine CellF.past _ ?_ | with_reducible refine CellF.drew ?_ | with_reducible refine CellF.drewN _ ?_)))⟩
          | true =>
            have Z2 := Lib.hid (e4 ▸ hull_has (n := n) (s := ⟨lo, hi, k⟩) (t := ⟨lo2, hi2, k2⟩) (by rw [e2, Bool.or_true]))
            go_wp2_with fail
            refine (Has_is _ _ _ _ _ P1 _).mono ?_
            rintro e w1 ⟨rfl, hb1⟩
            have q1_1_0 : CellF w1 ⟨bs, 0, none⟩ (.int .i64 lo) := (by refine CellF.keep hb1 ?_; repeat (first | with_reducible exact qHbs1_0 | with_reducible exact CellF.at_ (by simp) rfl | with_reducible refine CellF.past _ ?_ | with_reducible refine CellF.drew ?_ | with_reducible refine CellF.drewN _ ?_))
            have c1_1_0 := q1_1_0.1
            have q1_1_1 : CellF w1 ⟨bs, 1, none⟩ (.int .i64 hi) := (by refine CellF.keep hb1 ?_; repeat (first | with_reducible exact qHbs1_1 | with_reducible exact CellF.at_ (by simp) rfl | with_reducible refine CellF.past _ ?_ | with_reducible refine CellF.drew ?_ | with_reducible refine CellF.drewN _ ?_))
            have c1_1_1 := q1_1_1.1
            have q1_1_2 : CellF w1 ⟨bs, 2, none⟩ (.bool k) := (by refine CellF.keep hb1 ?_; repeat (first | with_reducible exact qHbs1_2 | with_reducible exact CellF.at_ (by simp) rfl | with_reducible refine CellF.past _ ?_ | with_reducible refine CellF.drew ?_ | with_reducible refine CellF.drewN _ ?_))
            have c1_1_2 := q1_1_2.1
            have z1_1 : bs < w1.heap.size := ltc c1_1_0
            have q1_2_0 : CellF w1 ⟨bt, 0, none⟩ (.int .i64 lo2) := (by refine CellF.keep hb1 ?_; repeat (first | with_reducible exact qHbt1_0 | with_reducible exact CellF.at_ (by simp) rfl | with_reducible refine CellF.past _ ?_ | with_reducible refine CellF.drew ?_ | with_reducible refine CellF.drewN _ ?_))
            have c1_2_0 := q1_2_0.1
            have q1_2_1 : CellF w1 ⟨bt, 1, none⟩ (.int .i64 hi2) := (by refine CellF.keep hb1 ?_; repeat (first | with_reducible exact qHbt1_1 | with_reducible exact CellF.at_ (by simp) rfl | with_reducible refine CellF.past _ ?_ | with_reducible refine CellF.drew ?_ | with_reducible refine CellF.drewN _ ?_))
            have c1_2_1 := q1_2_1.1
            have q1_2_2 : CellF w1 ⟨bt, 2, none⟩ (.bool k2) := (by refine CellF.keep hb1 ?_; repeat (first | with_reducible exact qHbt1_2 | with_reducible exact CellF.at_ (by simp) rfl | with_reducible refine CellF.past _ ?_ | with_reducible refine CellF.drew ?_ | with_reducible refine CellF.drewN _ ?_))
            have c1_2_2 := q1_2_2.1
            have z1_2 : bt < w1.heap.size := ltc c1_2_0
            clear qHbs1_0 cHbs1_0 qHbs1_1 cHbs1_1 qHbs1_2 cHbs1_2 zHbs1 qHbt1_0 cHbt1_0 qHbt1_1 cHbt1_1 qHbt1_2 cHbt1_2 zHbt1
            go_wp2_with fail
            refine (Has_is _ _ _ _ _ P2 _).mono ?_
            rintro e w2 ⟨rfl, hb2⟩
            have q2_3_0 : CellF w2 ⟨bs, 0, none⟩ (.int .i64 lo) := (by refine CellF.keep hb2 ?_; repeat (first | with_reducible exact q1_1_0 | with_reducible exact CellF.at_ (by simp) rfl | with_reducible refine CellF.past _ ?_ | with_reducible refine CellF.drew ?_ | with_reducible refine CellF.drewN _ ?_))
            have c2_3_0 := q2_3_0.1
            have q2_3_1 : CellF w2 ⟨bs, 1, none⟩ (.int .i64 hi) := (by refine CellF.keep hb2 ?_; repeat (first | with_reducible exact q1_1_1 | with_reducible exact CellF.at_ (by simp) rfl | with_reducible refine CellF.past _ ?_ | with_reducible refine CellF.drew ?_ | with_reducible refine CellF.drewN _ ?_))
            have c2_3_1 := q2_3_1.1
            have q2_3_2 : CellF w2 ⟨bs, 2, none⟩ (.bool k) := (by refine CellF.keep hb2 ?_; repeat (first | with_reducible exact q1_1_2 | with_reducible exact CellF.at_ (by simp) rfl | with_reducible refine CellF.past _ ?_ | with_reducible refine CellF.drew ?_ | with_reducible refine CellF.drewN _ ?_))
            have c2_3_2 := q2_3_2.1
            have z2_3 : bs < w2.heap.size := ltc c2_3_0
            have q2_4_0 : CellF w2 ⟨bt, 0, none⟩ (.int .i64 lo2) := (by refine CellF.keep hb2 ?_; repeat (first | with_reducible exact q1_2_0 | with_reducible exact CellF.at_ (by simp) rfl | with_reducible refine CellF.past _ ?_ | with_reducible refine CellF.drew ?_ | with_reducible refine CellF.drewN _ ?_))
            have c2_4_0 := q2_4_0.1
            have q2_4_1 : CellF w2 ⟨bt, 1, none⟩ (.int .i64 hi2) := (by refine CellF.keep hb2 ?_; repeat (first | with_reducible exact q1_2_1 | with_reducible exact CellF.at_ (by simp) rfl | with_reducible refine CellF.past _ ?_ | with_reducible refine CellF.drew ?_ | with_reducible refine CellF.drewN _ ?_))
            have c2_4_1 := q2_4_1.1
            have q2_4_2 : CellF w2 ⟨bt, 2, none⟩ (.bool k2) := (by refine CellF.keep hb2 ?_; repeat (first | with_reducible exact q1_2_2 | with_reducible exact CellF.at_ (by simp) rfl | with_reducible refine CellF.past _ ?_ | with_reducible refine CellF.drew ?_ | with_reducible refine CellF.drewN _ ?_))
            have c2_4_2 := q2_4_2.1
            have z2_4 : bt < w2.heap.size := ltc c2_4_0
            clear q1_1_0 c1_1_0 q1_1_1 c1_1_1 q1_1_2 c1_1_2 z1_1 q1_2_0 c1_2_0 q1_2_1 c1_2_1 q1_2_2 c1_2_2 z1_2
            go_wp2_with fail
            refine (Hull_is _ _ _ _ _ _ _ _ _ Y1 _).mono ?_
            rintro e w3 ⟨rfl, hb3⟩
            have q3_5_0 : CellF w3 ⟨bs, 0, none⟩ (.int .i64 lo) := (by refine CellF.keep hb3 ?_; repeat (first | with_reducible exact q2_3_0 | with_reducible exact CellF.at_ (by simp) rfl | with_reducible refine CellF.past _ ?_ | with_reducible refine CellF.drew ?_ | with_reducible refine CellF.drewN _ ?_))
            have c3_5_0 := q3_5_0.1
            have q3_5_1 : CellF w3 ⟨bs, 1, none⟩ (.int .i64 hi) := (by refine CellF.keep hb3 ?_; repeat (first | with_reducible exact q2_3_1 | with_reducible exact CellF.at_ (by simp) rfl | with_reducible refine CellF.past _ ?_ | with_reducible refine CellF.drew ?_ | with_reducible refine CellF.drewN _ ?_))
            have c3_5_1 := q3_5_1.1
            have q3_5_2 : CellF w3 ⟨bs, 2, none⟩ (.bool k) := (by refine CellF.keep hb3 ?_; repeat (first | with_reducible exact q2_3_2 | with_reducible exact CellF.at_ (by simp) rfl | with_reducible refine CellF.past _ ?_ | with_reducible refine CellF.drew ?_ | with_reducible refine CellF.drewN _ ?_))
            have c3_5_2 := q3_5_2.1
            have z3_5 : bs < w3.heap.size := ltc c3_5_0
            have q3_6_0 : CellF w3 ⟨bt, 0, none⟩ (.int .i64 lo2) := (by refine CellF.keep hb3 ?_; repeat (first | with_reducible exact q2_4_0 | with_reducible exact CellF.at_ (by simp) rfl | with_reducible refine CellF.past _ ?_ | with_reducible refine CellF.drew ?_ | with_reducible refine CellF.drewN _ ?_))
            have c3_6_0 := q3_6_0.1
            have q3_6_1 : CellF w3 ⟨bt, 1, none⟩ (.int .i64 hi2) := (by refine CellF.keep hb3 ?_; repeat (first | with_reducible exact q2_4_1 | with_reducible exact CellF.at_ (by simp) rfl | with_reducible refine CellF.past _ ?_ | with_reducible refine CellF.drew ?_ | with_reducible refine CellF.drewN _ ?_))
            have c3_6_1 := q3_6_1.1
            have q3_6_2 : CellF w3 ⟨bt, 2, none⟩ (.bool k2) := (by refine CellF.keep hb3 ?_; repeat (first | with_reducible exact q2_4_2 | with_reducible exact CellF.at_ (by simp) rfl | with_reducible refine CellF.past _ ?_ | with_reducible refine CellF.drew ?_ | with_reducible refine CellF.drewN _ ?_))
            have c3_6_2 := q3_6_2.1
            have z3_6 : bt < w3.heap.size := ltc c3_6_0
            clear q2_3_0 c2_3_0 q2_3_1 c2_3_1 q2_3_2 c2_3_2 z2_3 q2_4_0 c2_4_0 q2_4_1 c2_4_1 q2_4_2 c2_4_2 z2_4
            go_wp2_with fail
            refine (Has_is _ _ _ _ _ Z2 _).mono ?_
            rintro e w4 ⟨rfl, hb4⟩
            have q4_7_0 : CellF w4 ⟨bs, 0, none⟩ (.int .i64 lo) := (by refine CellF.keep hb4 ?_; repeat (first | with_reducible exact q3_5_0 | with_reducible exact CellF.at_ (by simp) rfl | with_reducible refine CellF.past _ ?_ | with_reducible refine CellF.drew ?_ | with_reducible refine CellF.drewN _ ?_))
            have c4_7_0 := q4_7_0.1
            have q4_7_1 : CellF w4 ⟨bs, 1, none⟩ (.int .i64 hi) := (by refine CellF.keep hb4 ?_; repeat (first | with_reducible exact q3_5_1 | with_reducible exact CellF.at_ (by simp) rfl | with_reducible refine CellF.past _ ?_ | with_reducible refine CellF.drew ?_ | with_reducible refine CellF.drewN _ ?_))
            have c4_7_1 := q4_7_1.1
            have q4_7_2 : CellF w4 ⟨bs, 2, none⟩ (.bool k) := (by refine CellF.keep hb4 ?_; repeat (first | with_reducible exact q3_5_2 | with_reducible exact CellF.at_ (by simp) rfl | with_reducible refine CellF.past _ ?_ | with_reducible refine CellF.drew ?_ | with_reducible refine CellF.drewN _ ?_))
            have c4_7_2 := q4_7_2.1
            have z4_7 : bs < w4.heap.size := ltc c4_7_0
            have q4_8_0 : CellF w4 ⟨bt, 0, none⟩ (.int .i64 lo2) := (by refine CellF.keep hb4 ?_; repeat (first | with_reducible exact q3_6_0 | with_reducible exact CellF.at_ (by simp) rfl | with_reducible refine CellF.past _ ?_ | with_reducible refine CellF.drew ?_ | with_reducible refine CellF.drewN _ ?_))
            have c4_8_0 := q4_8_0.1
            have q4_8_1 : CellF w4 ⟨bt, 1, none⟩ (.int .i64 hi2) := (by refine CellF.keep hb4 ?_; repeat (first | with_reducible exact q3_6_1 | with_reducible exact CellF.at_ (by simp) rfl | with_reducible refine CellF.past _ ?_ | with_reducible refine CellF.drew ?_ | with_reducible refine CellF.drewN _ ?_))
            have c4_8_1 := q4_8_1.1
            have q4_8_2 : CellF w4 ⟨bt, 2, none⟩ (.bool k2) := (by refine CellF.keep hb4 ?_; repeat (first | with_reducible exact q3_6_2 | with_reducible exact CellF.at_ (by simp) rfl | with_reducible refine CellF.past _ ?_ | with_reducible refine CellF.drew ?_ | with_reducible refine CellF.drewN _ ?_))
            have c4_8_2 := q4_8_2.1
            have z4_8 : bt < w4.heap.size := ltc c4_8_0
            clear q3_5_0 c3_5_0 q3_5_1 c3_5_1 q3_5_2 c3_5_2 z3_5 q3_6_0 c3_6_0 q3_6_1 c3_6_1 q3_6_2 c3_6_2 z3_6
            go_wp2_with fail
            go_meet
            exact ⟨rfl, Lib.hid (by repeat (first | exact brefl _ | refine balloc ?_ _ | refine bdrewN ?_ _ | refine bset ?_ (by dsimp only; omega) _ | refine bstep ?_ (by assumption))), Lib.hid (by refine ⟨?_, ?_, ?_⟩ <;> (repeat (first | with_reducible exact q4_7_0 | with_reducible exact q4_7_1 | with_reducible exact q4_7_2 | with_reducible exact CellF.at_ (by simp) rfl | with_reducible refine CellF.past _ ?_ | with_reducible refine CellF.drew ?_ | with_reducible refine CellF.drewN _ ?_))), Lib.hid (by refine ⟨?_, ?_, ?_⟩ <;> (repeat (first | with_reducible exact q4_8_0 | with_reducible exact q4_8_1 | with_reducible exact q4_8_2 | with_reducible exact CellF.at_ (by simp) rfl | with_reducible refine CellF.past _ ?_ | with_reducible refine CellF.drew ?_ | with_reducible refine CellF.drewN _ ?_)))⟩
        | true =>
          cases p2 with
          | false =>
            have Z2 := Lib.hid (e4 ▸ hull_has (n := n) (s := ⟨lo, hi, k⟩) (t := ⟨lo2, hi2, k2⟩) (by rw [e1]; rfl))
            go_wp2_with fail
            refine (Has_is _ _ _ _ _ P1 _).mono ?_
            rintro e w1 ⟨rfl, hb1⟩
            have q1_1_0 : CellF w1 ⟨bs, 0, none⟩ (.int .i64 lo) := (by refine CellF.keep hb1 ?_; repeat (first | with_reducible exact qHbs1_0 | with_reducible exact CellF.at_ (by simp) rfl | with_reducible refine CellF.past _ ?_ | with_reducible refine CellF.drew ?_ | with_reducible refine CellF.drewN _ ?_))
            have c1_1_0 := q1_1_0.1
            have q1_1_1 : CellF w1 ⟨bs, 1, none⟩ (.int .i64 hi) := (by refine CellF.keep hb1 ?_; repeat (first | with_reducible exact qHbs1_1 | with_reducible exact CellF.at_ (by simp) rfl | with_reducible refine CellF.past _ ?_ | with_reducible refine CellF.drew ?_ | with_reducible refine CellF.drewN _ ?_))
            have c1_1_1 := q1_1_1.1
            have q1_1_2 : CellF w1 ⟨bs, 2, none⟩ (.bool k) := (by refine CellF.keep hb1 ?_; repeat (first | with_reducible exact qHbs1_2 | with_reducible exact CellF.at_ (by simp) rfl | with_reducible refine CellF.past _ ?_ | with_reducible refine CellF.drew ?_ | with_reducible refine CellF.drewN _ ?_))
            have c1_1_2 := q1_1_2.1
            have z1_1 : bs < w1.heap.size := ltc c1_1_0
            have q1_2_0 : CellF w1 ⟨bt, 0, none⟩ (.int .i64 lo2) := (by refine CellF.keep hb1 ?_; repeat (first | with_reducible exact qHbt1_0 | with_reducible exact CellF.at_ (by simp) rfl | with_reducible refine CellF.past _ ?_ | with_reducible refine CellF.drew ?_ | with_reducible refine CellF.drewN _ ?_))
            have c1_2_0 := q1_2_0.1
            have q1_2_1 : CellF w1 ⟨bt, 1, none⟩ (.int .i64 hi2) := (by refine CellF.keep hb1 ?_; repeat (first | with_reducible exact qHbt1_1 | with_reducible exact CellF.at_ (by simp) rfl | with_reducible refine CellF.past _ ?_ | with_reducible refine CellF.drew ?_ | with_reducible refine CellF.drewN _ ?_))
            have c1_2_1 := q1_2_1.1
            have q1_2_2 : CellF w1 ⟨bt, 2, none⟩ (.bool k2) := (by refine CellF.keep hb1 ?_; repeat (first | with_reducible exact qHbt1_2 | with_reducible exact CellF.at_ (by simp) rfl | with_reducible refine CellF.past _ ?_ | with_reducible refine CellF.drew ?_ | with_reducible refine CellF.drewN _ ?_))
            have c1_2_2 := q1_2_2.1
            have z1_2 : bt < w1.heap.size := ltc c1_2_0
            clear qHbs1_0 cHbs1_0 qHbs1_1 cHbs1_1 qHbs1_2 cHbs1_2 zHbs1 qHbt1_0 cHbt1_0 qHbt1_1 cHbt1_1 qHbt1_2 cHbt1_2 zHbt1
            go_wp2_with fail
            refine (Hull_is _ _ _ _ _ _ _ _ _ Y1 _).mono ?_
            rintro e w2 ⟨rfl, hb2⟩
            have q2_3_0 : CellF w2 ⟨bs, 0, none⟩ (.int .i64 lo) := (by refine CellF.keep hb2 ?_; repeat (first | with_reducible exact q1_1_0 | with_reducible exact CellF.at_ (by simp) rfl | with_reducible refine CellF.past _ ?_ | with_reducible refine CellF.drew ?_ | with_reducible refine CellF.drewN _ ?_))
            have c2_3_0 := q2_3_0.1
            have q2_3_1 : CellF w2 ⟨bs, 1, none⟩ (.int .i64 hi) := (by refine CellF.keep hb2 ?_; repeat (first | with_reducible exact q1_1_1 | with_reducible exact CellF.at_ (by simp) rfl | with_reducible refine CellF.past _ ?_ | with_reducible refine CellF.drew ?_ | with_reducible refine CellF.drewN _ ?_))
            have c2_3_1 := q2_3_1.1
            have q2_3_2 : CellF w2 ⟨bs, 2, none⟩ (.bool k) := (by refine CellF.keep hb2 ?_; repeat (first | with_reducible exact q1_1_2 | with_reducible exact CellF.at_ (by simp) rfl | with_reducible refine CellF.past _ ?_ | with_reducible refine CellF.drew ?_ | with_reducible refine CellF.drewN _ ?_))
            have c2_3_2 := q2_3_2.1
            have z2_3 : bs < w2.heap.size := ltc c2_3_0
            have q2_4_0 : CellF w2 ⟨bt, 0, none⟩ (.int .i64 lo2) := (by refine CellF.keep hb2 ?_; repeat (first | with_reducible exact q1_2_0 | with_reducible exact CellF.at_ (by simp) rfl | with_reducible refine CellF.past _ ?_ | with_reducible refine CellF.drew ?_ | with_reducible refine CellF.drewN _ ?_))
            have c2_4_0 := q2_4_0.1
            have q2_4_1 : CellF w2 ⟨bt, 1, none⟩ (.int .i64 hi2) := (by refine CellF.keep hb2 ?_; repeat (first | with_reducible exact q1_2_1 | with_reducible exact CellF.at_ (by simp) rfl | with_reducible refine CellF.past _ ?_ | with_reducible refine CellF.drew ?_ | with_reducible refine CellF.drewN _ ?_))
            have c2_4_1 := q2_4_1.1
            have q2_4_2 : CellF w2 ⟨bt, 2, none⟩ (.bool k2) := (by refine CellF.keep hb2 ?_; repeat (first | with_reducible exact q1_2_2 | with_reducible exact CellF.at_ (by simp) rfl | with_reducible refine CellF.past _ ?_ | with_reducible refine CellF.drew ?_ | with_reducible refine CellF.drewN _ ?_))
            have c2_4_2 := q2_4_2.1
            have z2_4 : bt < w2.heap.size := ltc c2_4_0
            clear q1_1_0 c1_1_0 q1_1_1 c1_1_1 q1_1_2 c1_1_2 z1_1 q1_2_0 c1_2_0 q1_2_1 c1_2_1 q1_2_2 c1_2_2 z1_2
            go_wp2_with fail
            refine (Has_is _ _ _ _ _ Z2 _).mono ?_
            rintro e w3 ⟨rfl, hb3⟩
            have q3_5_0 : CellF w3 ⟨bs, 0, none⟩ (.int .i64 lo) := (by refine CellF.keep hb3 ?_; repeat (first | with_reducible exact q2_3_0 | with_reducible exact CellF.at_ (by simp) rfl | with_reducible refine CellF.past _ ?_ | with_reducible refine CellF.drew ?_ | with_reducible refine CellF.drewN _ ?_))
            have c3_5_0 := q3_5_0.1
            have q3_5_1 : CellF w3 ⟨bs, 1, none⟩ (.int .i64 hi) := (by refine CellF.keep hb3 ?_; repeat (first | with_reducible exact q2_3_1 | with_reducible exact CellF.at_ (by simp) rfl | with_reducible refine CellF.past _ ?_ | with_reducible refine CellF.drew ?_ | with_reducible refine CellF.drewN _ ?_))
            have c3_5_1 := q3_5_1.1
            have q3_5_2 : CellF w3 ⟨bs, 2, none⟩ (.bool k) := (by refine CellF.keep hb3 ?_; repeat (first | with_reducible exact q2_3_2 | with_reducible exact CellF.at_ (by simp) rfl | with_reducible refine CellF.past _ ?_ | with_reducible refine CellF.drew ?_ | with_reducible refine CellF.drewN _ ?_))
            have c3_5_2 := q3_5_2.1
            have z3_5 : bs < w3.heap.size := ltc c3_5_0
            have q3_6_0 : CellF w3 ⟨bt, 0, none⟩ (.int .i64 lo2) := (by refine CellF.keep hb3 ?_; repeat (first | with_reducible exact q2_4_0 | with_reducible exact CellF.at_ (by simp) rfl | with_reducible refine CellF.past _ ?_ | with_reducible refine CellF.drew ?_ | with_reducible refine CellF.drewN _ ?_))
            have c3_6_0 := q3_6_0.1
            have q3_6_1 : CellF w3 ⟨bt, 1, none⟩ (.int .i64 hi2) := (by refine CellF.keep hb3 ?_; repeat (first | with_reducible exact q2_4_1 | with_reducible exact CellF.at_ (by simp) rfl | with_reducible refine CellF.past _ ?_ | with_reducible refine CellF.drew ?_ | with_reducible refine CellF.drewN _ ?_))
            have c3_6_1 := q3_6_1.1
            have q3_6_2 : CellF w3 ⟨bt, 2, none⟩ (.bool k2) := (by refine CellF.keep hb3 ?_; repeat (first | with_reducible exact q2_4_2 | with_reducible exact CellF.at_ (by simp) rfl | with_reducible refine CellF.past _ ?_ | with_reducible refine CellF.drew ?_ | with_reducible refine CellF.drewN _ ?_))
            have c3_6_2 := q3_6_2.1
            have z3_6 : bt < w3.heap.size := ltc c3_6_0
            clear q2_3_0 c2_3_0 q2_3_1 c2_3_1 q2_3_2 c2_3_2 z2_3 q2_4_0 c2_4_0 q2_4_1 c2_4_1 q2_4_2 c2_4_2 z2_4
            go_wp2_with fail
            go_meet
            exact ⟨rfl, Lib.hid (by repeat (first | exact brefl _ | refine balloc ?_ _ | refine bdrewN ?_ _ | refine bset ?_ (by dsimp only; omega) _ | refine bstep ?_ (by assumption))), Lib.hid (by refine ⟨?_, ?_, ?_⟩ <;> (repeat (first | with_reducible exact q3_5_0 | with_reducible exact q3_5_1 | with_reducible exact q3_5_2 | with_reducible exact CellF.at_ (by simp) rfl | with_reducible refine CellF.past _ ?_ | with_reducible refine CellF.drew ?_ | with_reducible refine CellF.drewN _ ?_))), Lib.hid (by refine ⟨?_, ?_, ?_⟩ <;> (repeat (first | with_reducible exact q3_6_0 | with_reducible exact q3_6_1 | with_reducible exact q3_6_2 | with_reducible exact CellF.at_ (by simp) rfl | with_reducible refine CellF.past _ ?_ | with_reducible refine CellF.drew ?_ | with_reducible refine CellF.drewN _ ?_)))⟩
          | true =>
            have Z1 := Lib.hid (e3 ▸ meet_has e1 e2)
            have Z2 := Lib.hid (e4 ▸ hull_has (n := n) (s := ⟨lo, hi, k⟩) (t := ⟨lo2, hi2, k2⟩) (by rw [e1]; rfl))
            go_wp2_with fail
            refine (Meet_is _ _ _ _ _ _ _ _ _ X1 _).mono ?_
            rintro e w1 ⟨rfl, hb1⟩
            have q1_1_0 : CellF w1 ⟨bs, 0, none⟩ (.int .i64 lo) := (by refine CellF.keep hb1 ?_; repeat (first | with_reducible exact qHbs1_0 | with_reducible exact CellF.at_ (by simp) rfl | with_reducible refine CellF.past _ ?_ | with_reducible refine CellF.drew ?_ | with_reducible refine CellF.drewN _ ?_))
            have c1_1_0 := q1_1_0.1
            have q1_1_1 : CellF w1 ⟨bs, 1, none⟩ (.int .i64 hi) := (by refine CellF.keep hb1 ?_; repeat (first | with_reducible exact qHbs1_1 | with_reducible exact CellF.at_ (by simp) rfl | with_reducible refine CellF.past _ ?_ | with_reducible refine CellF.drew ?_ | with_reducible refine CellF.drewN _ ?_))
            have c1_1_1 := q1_1_1.1
            have q1_1_2 : CellF w1 ⟨bs, 2, none⟩ (.bool k) := (by refine CellF.keep hb1 ?_; repeat (first | with_reducible exact qHbs1_2 | with_reducible exact CellF.at_ (by simp) rfl | with_reducible refine CellF.past _ ?_ | with_reducible refine CellF.drew ?_ | with_reducible refine CellF.drewN _ ?_))
            have c1_1_2 := q1_1_2.1
            have z1_1 : bs < w1.heap.size := ltc c1_1_0
            have q1_2_0 : CellF w1 ⟨bt, 0, none⟩ (.int .i64 lo2) := (by refine CellF.keep hb1 ?_; repeat (first | with_reducible exact qHbt1_0 | with_reducible exact CellF.at_ (by simp) rfl | with_reducible refine CellF.past _ ?_ | with_reducible refine CellF.drew ?_ | with_reducible refine CellF.drewN _ ?_))
            have c1_2_0 := q1_2_0.1
            have q1_2_1 : CellF w1 ⟨bt, 1, none⟩ (.int .i64 hi2) := (by refine CellF.keep hb1 ?_; repeat (first | with_reducible exact qHbt1_1 | with_reducible exact CellF.at_ (by simp) rfl | with_reducible refine CellF.past _ ?_ | with_reducible refine CellF.drew ?_ | with_reducible refine CellF.drewN _ ?_))
            have c1_2_1 := q1_2_1.1
            have q1_2_2 : CellF w1 ⟨bt, 2, none⟩ (.bool k2) := (by refine CellF.keep hb1 ?_; repeat (first | with_reducible exact qHbt1_2 | with_reducible exact CellF.at_ (by simp) rfl | with_reducible refine CellF.past _ ?_ | with_reducible refine CellF.drew ?_ | with_reducible refine CellF.drewN _ ?_))
            have c1_2_2 := q1_2_2.1
            have z1_2 : bt < w1.heap.size := ltc c1_2_0
            clear qHbs1_0 cHbs1_0 qHbs1_1 cHbs1_1 qHbs1_2 cHbs1_2 zHbs1 qHbt1_0 cHbt1_0 qHbt1_1 cHbt1_1 qHbt1_2 cHbt1_2 zHbt1
            go_wp2_with fail
            refine (Has_is _ _ _ _ _ Z1 _).mono ?_
            rintro e w2 ⟨rfl, hb2⟩
            have q2_3_0 : CellF w2 ⟨bs, 0, none⟩ (.int .i64 lo) := (by refine CellF.keep hb2 ?_; repeat (first | with_reducible exact q1_1_0 | with_reducible exact CellF.at_ (by simp) rfl | with_reducible refine CellF.past _ ?_ | with_reducible refine CellF.drew ?_ | with_reducible refine CellF.drewN _ ?_))
            have c2_3_0 := q2_3_0.1
            have q2_3_1 : CellF w2 ⟨bs, 1, none⟩ (.int .i64 hi) := (by refine CellF.keep hb2 ?_; repeat (first | with_reducible exact q1_1_1 | with_reducible exact CellF.at_ (by simp) rfl | with_reducible refine CellF.past _ ?_ | with_reducible refine CellF.drew ?_ | with_reducible refine CellF.drewN _ ?_))
            have c2_3_1 := q2_3_1.1
            have q2_3_2 : CellF w2 ⟨bs, 2, none⟩ (.bool k) := (by refine CellF.keep hb2 ?_; repeat (first | with_reducible exact q1_1_2 | with_reducible exact CellF.at_ (by simp) rfl | with_reducible refine CellF.past _ ?_ | with_reducible refine CellF.drew ?_ | with_reducible refine CellF.drewN _ ?_))
            have c2_3_2 := q2_3_2.1
            have z2_3 : bs < w2.heap.size := ltc c2_3_0
            have q2_4_0 : CellF w2 ⟨bt, 0, none⟩ (.int .i64 lo2) := (by refine CellF.keep hb2 ?_; repeat (first | with_reducible exact q1_2_0 | with_reducible exact CellF.at_ (by simp) rfl | with_reducible refine CellF.past _ ?_ | with_reducible refine CellF.drew ?_ | with_reducible refine CellF.drewN _ ?_))
            have c2_4_0 := q2_4_0.1
            have q2_4_1 : CellF w2 ⟨bt, 1, none⟩ (.int .i64 hi2) := (by refine CellF.keep hb2 ?_; repeat (first | with_reducible exact q1_2_1 | with_reducible exact CellF.at_ (by simp) rfl | with_reducible refine CellF.past _ ?_ | with_reducible refine CellF.drew ?_ | with_reducible refine CellF.drewN _ ?_))
            have c2_4_1 := q2_4_1.1
            have q2_4_2 : CellF w2 ⟨bt, 2, none⟩ (.bool k2) := (by refine CellF.keep hb2 ?_; repeat (first | with_reducible exact q1_2_2 | with_reducible exact CellF.at_ (by simp) rfl | with_reducible refine CellF.past _ ?_ | with_reducible refine CellF.drew ?_ | with_reducible refine CellF.drewN _ ?_))
            have c2_4_2 := q2_4_2.1
            have z2_4 : bt < w2.heap.size := ltc c2_4_0
            clear q1_1_0 c1_1_0 q1_1_1 c1_1_1 q1_1_2 c1_1_2 z1_1 q1_2_0 c1_2_0 q1_2_1 c1_2_1 q1_2_2 c1_2_2 z1_2
            go_wp2_with fail
            refine (Has_is _ _ _ _ _ P1 _).mono ?_
            rintro e w3 ⟨rfl, hb3⟩
            have q3_5_0 : CellF w3 ⟨bs, 0, none⟩ (.int .i64 lo) := (by refine CellF.keep hb3 ?_; repeat (first | with_reducible exact q2_3_0 | with_reducible exact CellF.at_ (by simp) rfl | with_reducible refine CellF.past _ ?_ | with_reducible refine CellF.drew ?_ | with_reducible refine CellF.drewN _ ?_))
            have c3_5_0 := q3_5_0.1
            have q3_5_1 : CellF w3 ⟨bs, 1, none⟩ (.int .i64 hi) := (by refine CellF.keep hb3 ?_; repeat (first | with_reducible exact q2_3_1 | with_reducible exact CellF.at_ (by simp) rfl | with_reducible refine CellF.past _ ?_ | with_reducible refine CellF.drew ?_ | with_reducible refine CellF.drewN _ ?_))
            have c3_5_1 := q3_5_1.1
            have q3_5_2 : CellF w3 ⟨bs, 2, none⟩ (.bool k) := (by refine CellF.keep hb3 ?_; repeat (first | with_reducible exact q2_3_2 | with_reducible exact CellF.at_ (by simp) rfl | with_reducible refine CellF.past _ ?_ | with_reducible refine CellF.drew ?_ | with_reducible refine CellF.drewN _ ?_))
            have c3_5_2 := q3_5_2.1
            have z3_5 : bs < w3.heap.size := ltc c3_5_0
            have q3_6_0 : CellF w3 ⟨bt, 0, none⟩ (.int .i64 lo2) := (by refine CellF.keep hb3 ?_; repeat (first | with_reducible exact q2_4_0 | with_reducible exact CellF.at_ (by simp) rfl | with_reducible refine CellF.past _ ?_ | with_reducible refine CellF.drew ?_ | with_reducible refine CellF.drewN _ ?_))
            have c3_6_0 := q3_6_0.1
            have q3_6_1 : CellF w3 ⟨bt, 1, none⟩ (.int .i64 hi2) := (by refine CellF.keep hb3 ?_; repeat (first | with_reducible exact q2_4_1 | with_reducible exact CellF.at_ (by simp) rfl | with_reducible refine CellF.past _ ?_ | with_reducible refine CellF.drew ?_ | with_reducible refine CellF.drewN _ ?_))
            have c3_6_1 := q3_6_1.1
            have q3_6_2 : CellF w3 ⟨bt, 2, none⟩ (.bool k2) := (by refine CellF.keep hb3 ?_; repeat (first | with_reducible exact q2_4_2 | with_reducible exact CellF.at_ (by simp) rfl | with_reducible refine CellF.past _ ?_ | with_reducible refine CellF.drew ?_ | with_reducible refine CellF.drewN _ ?_))
            have c3_6_2 := q3_6_2.1
            have z3_6 : bt < w3.heap.size := ltc c3_6_0
            clear q2_3_0 c2_3_0 q2_3_1 c2_3_1 q2_3_2 c2_3_2 z2_3 q2_4_0 c2_4_0 q2_4_1 c2_4_1 q2_4_2 c2_4_2 z2_4
            go_wp2_with fail
            refine (Hull_is _ _ _ _ _ _ _ _ _ Y1 _).mono ?_
            rintro e w4 ⟨rfl, hb4⟩
            have q4_7_0 : CellF w4 ⟨bs, 0, none⟩ (.int .i64 lo) := (by refine CellF.keep hb4 ?_; repeat (first | with_reducible exact q3_5_0 | with_reducible exact CellF.at_ (by simp) rfl | with_reducible refine CellF.past _ ?_ | with_reducible refine CellF.drew ?_ | with_reducible refine CellF.drewN _ ?_))
            have c4_7_0 := q4_7_0.1
            have q4_7_1 : CellF w4 ⟨bs, 1, none⟩ (.int .i64 hi) := (by refine CellF.keep hb4 ?_; repeat (first | with_reducible exact q3_5_1 | with_reducible exact CellF.at_ (by simp) rfl | with_reducible refine CellF.past _ ?_ | with_reducible refine CellF.drew ?_ | with_reducible refine CellF.drewN _ ?_))
            have c4_7_1 := q4_7_1.1
            have q4_7_2 : CellF w4 ⟨bs, 2, none⟩ (.bool k) := (by refine CellF.keep hb4 ?_; repeat (first | with_reducible exact q3_5_2 | with_reducible exact CellF.at_ (by simp) rfl | with_reducible refine CellF.past _ ?_ | with_reducible refine CellF.drew ?_ | with_reducible refine CellF.drewN _ ?_))
            have c4_7_2 := q4_7_2.1
            have z4_7 : bs < w4.heap.size := ltc c4_7_0
            have q4_8_0 : CellF w4 ⟨bt, 0, none⟩ (.int .i64 lo2) := (by refine CellF.keep hb4 ?_; repeat (first | with_reducible exact q3_6_0 | with_reducible exact CellF.at_ (by simp) rfl | with_reducible refine CellF.past _ ?_ | with_reducible refine CellF.drew ?_ | with_reducible refine CellF.drewN _ ?_))
            have c4_8_0 := q4_8_0.1
            have q4_8_1 : CellF w4 ⟨bt, 1, none⟩ (.int .i64 hi2) := (by refine CellF.keep hb4 ?_; repeat (first | with_reducible exact q3_6_1 | with_reducible exact CellF.at_ (by simp) rfl | with_reducible refine CellF.past _ ?_ | with_reducible refine CellF.drew ?_ | with_reducible refine CellF.drewN _ ?_))
            have c4_8_1 := q4_8_1.1
            have q4_8_2 : CellF w4 ⟨bt, 2, none⟩ (.bool k2) := (by refine CellF.keep hb4 ?_; repeat (first | with_reducible exact q3_6_2 | with_reducible exact CellF.at_ (by simp) rfl | with_reducible refine CellF.past _ ?_ | with_reducible refine CellF.drew ?_ | with_reducible refine CellF.drewN _ ?_))
            have c4_8_2 := q4_8_2.1
            have z4_8 : bt < w4.heap.size := ltc c4_8_0
            clear q3_5_0 c3_5_0 q3_5_1 c3_5_1 q3_5_2 c3_5_2 z3_5 q3_6_0 c3_6_0 q3_6_1 c3_6_1 q3_6_2 c3_6_2 z3_6
            go_wp2_with fail
            refine (Has_is _ _ _ _ _ Z2 _).mono ?_
            rintro e w5 ⟨rfl, hb5⟩
            have q5_9_0 : CellF w5 ⟨bs, 0, none⟩ (.int .i64 lo) := (by refine CellF.keep hb5 ?_; repeat (first | with_reducible exact q4_7_0 | with_reducible exact CellF.at_ (by simp) rfl | with_reducible refine CellF.past _ ?_ | with_reducible refine CellF.drew ?_ | with_reducible refine CellF.drewN _ ?_))
            have c5_9_0 := q5_9_0.1
            have q5_9_1 : CellF w5 ⟨bs, 1, none⟩ (.int .i64 hi) := (by refine CellF.keep hb5 ?_; repeat (first | with_reducible exact q4_7_1 | with_reducible exact CellF.at_ (by simp) rfl | with_reducible refine CellF.past _ ?_ | with_reducible refine CellF.drew ?_ | with_reducible refine CellF.drewN _ ?_))
            have c5_9_1 := q5_9_1.1
            have q5_9_2 : CellF w5 ⟨bs, 2, none⟩ (.bool k) := (by refine CellF.keep hb5 ?_; repeat (first | with_reducible exact q4_7_2 | with_reducible exact CellF.at_ (by simp) rfl | with_reducible refine CellF.past _ ?_ | with_reducible refine CellF.drew ?_ | with_reducible refine CellF.drewN _ ?_))
            have c5_9_2 := q5_9_2.1
            have z5_9 : bs < w5.heap.size := ltc c5_9_0
            have q5_10_0 : CellF w5 ⟨bt, 0, none⟩ (.int .i64 lo2) := (by refine CellF.keep hb5 ?_; repeat (first | with_reducible exact q4_8_0 | with_reducible exact CellF.at_ (by simp) rfl | with_reducible refine CellF.past _ ?_ | with_reducible refine CellF.drew ?_ | with_reducible refine CellF.drewN _ ?_))
            have c5_10_0 := q5_10_0.1
            have q5_10_1 : CellF w5 ⟨bt, 1, none⟩ (.int .i64 hi2) := (by refine CellF.keep hb5 ?_; repeat (first | with_reducible exact q4_8_1 | with_reducible exact CellF.at_ (by simp) rfl | with_reducible refine CellF.past _ ?_ | with_reducible refine CellF.drew ?_ | with_reducible refine CellF.drewN _ ?_))
            have c5_10_1 := q5_10_1.1
            have q5_10_2 : CellF w5 ⟨bt, 2, none⟩ (.bool k2) := (by refine CellF.keep hb5 ?_; repeat (first | with_reducible exact q4_8_2 | with_reducible exact CellF.at_ (by simp) rfl | with_reducible refine CellF.past _ ?_ | with_reducible refine CellF.drew ?_ | with_reducible refine CellF.drewN _ ?_))
            have c5_10_2 := q5_10_2.1
            have z5_10 : bt < w5.heap.size := ltc c5_10_0
            clear q4_7_0 c4_7_0 q4_7_1 c4_7_1 q4_7_2 c4_7_2 z4_7 q4_8_0 c4_8_0 q4_8_1 c4_8_1 q4_8_2 c4_8_2 z4_8
            go_wp2_with fail
            go_meet
            exact ⟨rfl, Lib.hid (by repeat (first | exact brefl _ | refine balloc ?_ _ | refine bdrewN ?_ _ | refine bset ?_ (by dsimp only; omega) _ | refine bstep ?_ (by assumption))), Lib.hid (by refine ⟨?_, ?_, ?_⟩ <;> (repeat (first | with_reducible exact q5_9_0 | with_reducible exact q5_9_1 | with_reducible exact q5_9_2 | with_reducible exact CellF.at_ (by simp) rfl | with_reducible refine CellF.past _ ?_ | with_reducible refine CellF.drew ?_ | with_reducible refine CellF.drewN _ ?_))), Lib.hid (by refine ⟨?_, ?_, ?_⟩ <;> (repeat (first | with_reducible exact q5_10_0 | with_reducible exact q5_10_1 | with_reducible exact q5_10_2 | with_reducible exact CellF.at_ (by simp) rfl | with_reducible refine CellF.past _ ?_ | with_reducible refine CellF.drew ?_ | with_reducible refine CellF.drewN _ ?_)))⟩
      case rest =>
        obtain ⟨rfl, HB, Hbs2, Hbt2⟩ := hcut
        have hwd2 := HB.out
        clear HB
        have qHbs2_0 := Hbs2.out.1
        have cHbs2_0 := qHbs2_0.1
        have qHbs2_1 := Hbs2.out.2.1
        have cHbs2_1 := qHbs2_1.1
        have qHbs2_2 := Hbs2.out.2.2
        have cHbs2_2 := qHbs2_2.1
        have zHbs2 := ltc cHbs2_0
        have qHbt2_0 := Hbt2.out.1
        have cHbt2_0 := qHbt2_0.1
        have qHbt2_1 := Hbt2.out.2.1
        have cHbt2_1 := qHbt2_1.1
        have qHbt2_2 := Hbt2.out.2.2
        have cHbt2_2 := qHbt2_2.1
        have zHbt2 := ltc cHbt2_0
        clear Hbs2 Hbt2
        go_wp2_with fail
        refine (Meet_is _ _ _ _ _ _ _ _ _ X1 _).mono ?_
        rintro e w1 ⟨rfl, hb1⟩
        have q1_1_0 : CellF w1 ⟨bs, 0, none⟩ (.int .i64 lo) := (by refine CellF.keep hb1 ?_; repeat (first | with_reducible exact qHbs2_0 | with_reducible exact CellF.at_ (by simp) rfl | with_reducible refine CellF.past _ ?_ | with_reducible refine CellF.drew ?_ | with_reducible refine CellF.drewN _ ?_))
        have c1_1_0 := q1_1_0.1
        have q1_1_1 : CellF w1 ⟨bs, 1, none⟩ (.int .i64 hi) := (by refine CellF.keep hb1 ?_; repeat (first | with_reducible exact qHbs2_1 | with_reducible exact CellF.at_ (by simp) rfl | with_reducible refine CellF.past _ ?_ | with_reducible refine CellF.drew ?_ | with_reducible refine CellF.drewN _ ?_))
        have c1_1_1 := q1_1_1.1
        have q1_1_2 : CellF w1 ⟨bs, 2, none⟩ (.bool k) := (by refine CellF.keep hb1 ?_; repeat (first | with_reducible exact qHbs2_2 | with_reducible exact CellF.at_ (by simp) rfl | with_reducible refine CellF.past _ ?_ | with_reducible refine CellF.drew ?_ | with_reducible refine CellF.drewN _ ?_))
        have c1_1_2 := q1_1_2.1
        have z1_1 : bs < w1.heap.size := ltc c1_1_0
        have q1_2_0 : CellF w1 ⟨bt, 0, none⟩ (.int .i64 lo2) := (by refine CellF.keep hb1 ?_; repeat (first | with_reducible exact qHbt2_0 | with_reducible exact CellF.at_ (by simp) rfl | with_reducible refine CellF.past _ ?_ | with_reducible refine CellF.drew ?_ | with_reducible refine CellF.drewN _ ?_))
        have c1_2_0 := q1_2_0.1
        have q1_2_1 : CellF w1 ⟨bt, 1, none⟩ (.int .i64 hi2) := (by refine CellF.keep hb1 ?_; repeat (first | with_reducible exact qHbt2_1 | with_reducible exact CellF.at_ (by simp) rfl | with_reducible refine CellF.past _ ?_ | with_reducible refine CellF.drew ?_ | with_reducible refine CellF.drewN _ ?_))
        have c1_2_1 := q1_2_1.1
        have q1_2_2 : CellF w1 ⟨bt, 2, none⟩ (.bool k2) := (by refine CellF.keep hb1 ?_; repeat (first | with_reducible exact qHbt2_2 | with_reducible exact CellF.at_ (by simp) rfl | with_reducible refine CellF.past _ ?_ | with_reducible refine CellF.drew ?_ | with_reducible refine CellF.drewN _ ?_))
        have c1_2_2 := q1_2_2.1
        have z1_2 : bt < w1.heap.size := ltc c1_2_0
        clear qHbs2_0 cHbs2_0 qHbs2_1 cHbs2_1 qHbs2_2 cHbs2_2 zHbs2 qHbt2_0 cHbt2_0 qHbt2_1 cHbt2_1 qHbt2_2 cHbt2_2 zHbt2
        go_upto_region 6 with (fail)
        go_cut [89] (fun v89 wd => v89 = .bool false ∧ Hid (Below w.heap.size w wd) ∧ Hid (SpanAt wd bs lo hi k) ∧ Hid (SpanAt wd bt lo2 hi2 k2) ∧ Hid (SpanAt wd w1.heap.size m1 m2 m3))
        case first =>
          obtain ⟨r1, f1⟩ : ∃ p, spRight ⟨lo, hi, k⟩ = p := ⟨_, rfl⟩
          have R1 := Lib.hid f1
          obtain ⟨r2, f2⟩ : ∃ p, spRight ⟨lo2, hi2, k2⟩ = p := ⟨_, rfl⟩
          have R2 := Lib.hid f2
          cases m3 with
          | false =>
            go_wp2_with fail
            go_meet
            exact ⟨rfl, Lib.hid (by repeat (first | exact brefl _ | refine balloc ?_ _ | refine bdrewN ?_ _ | refine bset ?_ (by dsimp only; omega) _ | refine bstep ?_ (by assumption))), Lib.hid (by refine ⟨?_, ?_, ?_⟩ <;> (repeat (first | with_reducible exact q1_1_0 | with_reducible exact q1_1_1 | with_reducible exact q1_1_2 | with_reducible exact CellF.at_ (by simp) rfl | with_reducible refine CellF.past _ ?_ | with_reducible refine CellF.drew ?_ | with_reducible refine CellF.drewN _ ?_))), Lib.hid (by refine ⟨?_, ?_, ?_⟩ <;> (repeat (first | with_reducible exact q1_2_0 | with_reducible exact q1_2_1 | with_reducible exact q1_2_2 | with_reducible exact CellF.at_ (by simp) rfl | with_reducible refine CellF.past _ ?_ | with_reducible refine CellF.drew ?_ | with_reducible refine CellF.drewN _ ?_))), Lib.hid (by refine ⟨?_, ?_, ?_⟩ <;> (repeat (first | with_reducible exact CellF.at_ (by simp) rfl | with_reducible refine CellF.past _ ?_ | with_reducible refine CellF.drew ?_ | with_reducible refine CellF.drewN _ ?_)))⟩
          | true =>
            cases k with
            | false =>
              go_wp2_with fail
              go_meet
              exact ⟨rfl, Lib.hid (by repeat (first | exact brefl _ | refine balloc ?_ _ | refine bdrewN ?_ _ | refine bset ?_ (by dsimp only; omega) _ | refine bstep ?_ (by assumption))), Lib.hid (by refine ⟨?_, ?_, ?_⟩ <;> (repeat (first | with_reducible exact q1_1_0 | with_reducible exact q1_1_1 | with_reducible exact q1_1_2 | with_reducible exact CellF.at_ (by simp) rfl | with_reducible refine CellF.past _ ?_ | with_reducible refine CellF.drew ?_ | with_reducible refine CellF.drewN _ ?_))), Lib.hid (by refine ⟨?_, ?_, ?_⟩ <;> (repeat (first | with_reducible exact q1_2_0 | with_reducible exact q1_2_1 | with_reducible exact q1_2_2 | with_reducible exact CellF.at_ (by simp) rfl | with_reducible refine CellF.past _ ?_ | with_reducible refine CellF.drew ?_ | with_reducible refine CellF.drewN _ ?_))), Lib.hid (by refine ⟨?_, ?_, ?_⟩ <;> (repeat (first | with_reducible exact CellF.at_ (by simp) rfl | with_reducible refine CellF.past _ ?_ | with_reducible refine CellF.drew ?_ | with_reducible refine CellF.drewN _ ?_)))⟩
            | true =>
              cases k2 with
              | false =>
                go_wp2_with fail
                go_meet
                exact ⟨rfl, Lib.hid (by repeat (first | exact brefl _ | refine balloc ?_ _ | refine bdrewN ?_ _ | refine bset ?_ (by dsimp only; omega) _ | refine bstep ?_ (by assumption))), Lib.hid (by refine ⟨?_, ?_, ?_⟩ <;> (repeat (first | with_reducible exact q1_1_0 | with_reducible exact q1_1_1 | with_reducible exact q1_1_2 | with_reducible exact CellF.at_ (by simp) rfl | with_reducible refine CellF.past _ ?_ | with_reducible refine CellF.drew ?_ | with_reducible refine CellF.drewN _ ?_))), Lib.hid (by refine ⟨?_, ?_, ?_⟩ <;> (repeat (first | with_reducible exact q1_2_0 | with_reducible exact q1_2_1 | with_reducible exact q1_2_2 | with_reducible exact CellF.at_ (by simp) rfl | with_reducible refine CellF.past _ ?_ | with_reducible refine CellF.drew ?_ | with_reducible refine CellF.drewN _ ?_))), Lib.hid (by refine ⟨?_, ?_, ?_⟩ <;> (repeat (first | with_reducible exact CellF.at_ (by simp) rfl | with_reducible refine CellF.past _ ?_ | with_reducible refine CellF.drew ?_ | with_reducible refine CellF.drewN _ ?_)))⟩
              | true =>
                cases r1 with
                | false =>
                  go_wp2_with fail
                  refine (Right_is _ _ _ _ R1 _).mono ?_
                  rintro e w2 ⟨rfl, hb2⟩
                  have q2_3_0 : CellF w2 ⟨bs, 0, none⟩ (.int .i64 lo) := (by refine CellF.keep hb2 ?_; repeat (first | with_reducible exact q1_1_0 | with_reducible exact CellF.at_ (by simp) rfl | with_reducible refine CellF.past _ ?_ | with_reducible refine CellF.drew ?_ | with_reducible refine CellF.drewN _ ?_))
                  have c2_3_0 := q2_3_0.1
                  have q2_3_1 : CellF w2 ⟨bs, 1, none⟩ (.int .i64 hi) := (by refine CellF.keep hb2 ?_; repeat (first | with_reducible exact q1_1_1 | with_reducible exact CellF.at_ (by simp) rfl | with_reducible refine CellF.past _ ?_ | with_reducible refine CellF.drew ?_ | with_reducible refine CellF.drewN _ ?_))
                  have c2_3_1 := q2_3_1.1
                  have q2_3_2 : CellF w2 ⟨bs, 2, none⟩ (.bool true) := (by refine CellF.keep hb2 ?_; repeat (first | with_reducible exact q1_1_2 | with_reducible exact CellF.at_ (by simp) rfl | with_reducible refine CellF.past _ ?_ | with_reducible refine CellF.drew ?_ | with_reducible refine CellF.drewN _ ?_))
                  have c2_3_2 := q2_3_2.1
                  have z2_3 : bs < w2.heap.size := ltc c2_3_0
                  have q2_4_0 : CellF w2 ⟨bt, 0, none⟩ (.int .i64 lo2) := (by refine CellF.keep hb2 ?_; repeat (first | with_reducible exact q1_2_0 | with_reducible exact CellF.at_ (by simp) rfl | with_reducible refine CellF.past _ ?_ | with_reducible refine CellF.drew ?_ | with_reducible refine CellF.drewN _ ?_))
                  have c2_4_0 := q2_4_0.1
                  have q2_4_1 : CellF w2 ⟨bt, 1, none⟩ (.int .i64 hi2) := (by refine CellF.keep hb2 ?_; repeat (first | with_reducible exact q1_2_1 | with_reducible exact CellF.at_ (by simp) rfl | with_reducible refine CellF.past _ ?_ | with_reducible refine CellF.drew ?_ | with_reducible refine CellF.drewN _ ?_))
                  have c2_4_1 := q2_4_1.1
                  have q2_4_2 : CellF w2 ⟨bt, 2, none⟩ (.bool true) := (by refine CellF.keep hb2 ?_; repeat (first | with_reducible exact q1_2_2 | with_reducible exact CellF.at_ (by simp) rfl | with_reducible refine CellF.past _ ?_ | with_reducible refine CellF.drew ?_ | with_reducible refine CellF.drewN _ ?_))
                  have c2_4_2 := q2_4_2.1
                  have z2_4 : bt < w2.heap.size := ltc c2_4_0
                  have q2_5_0 : CellF w2 ⟨w1.heap.size, 0, none⟩ (.int .i64 m1) := (by refine CellF.keep hb2 ?_; (first | ((repeat (first | with_reducible exact CellF.at_ (by simp) rfl | with_reducible refine CellF.past _ ?_ | with_reducible refine CellF.drew ?_ | with_reducible refine CellF.drewN _ ?_)); done) | (refine ⟨?_, ?_⟩ <;> go_simp)))
                  have c2_5_0 := q2_5_0.1
                  have q2_5_1 : CellF w2 ⟨w1.heap.size, 1, none⟩ (.int .i64 m2) := (by refine CellF.keep hb2 ?_; (first | ((repeat (first | with_reducible exact CellF.at_ (by simp) rfl | with_reducible refine CellF.past _ ?_ | with_reducible refine CellF.drew ?_ | with_reducible refine CellF.drewN _ ?_)); done) | (refine ⟨?_, ?_⟩ <;> go_simp)))
                  have c2_5_1 := q2_5_1.1
                  have q2_5_2 : CellF w2 ⟨w1.heap.size, 2, none⟩ (.bool true) := (by refine CellF.keep hb2 ?_; (first | ((repeat (first | with_reducible exact CellF.at_ (by simp) rfl | with_reducible refine CellF.past _ ?_ | with_reducible refine CellF.drew ?_ | with_reducible refine CellF.drewN _ ?_)); done) | (refine ⟨?_, ?_⟩ <;> go_simp)))
                  have c2_5_2 := q2_5_2.1
                  have z2_5 : w1.heap.size < w2.heap.size := ltc c2_5_0
                  clear q1_1_0 c1_1_0 q1_1_1 c1_1_1 q1_1_2 c1_1_2 z1_1 q1_2_0 c1_2_0 q1_2_1 c1_2_1 q1_2_2 c1_2_2 z1_2
                  go_wp2_with fail
                  go_meet
                  exact ⟨rfl, Lib.hid (by repeat (first | exact brefl _ | refine balloc ?_ _ | refine bdrewN ?_ _ | refine bset ?_ (by dsimp only; omega) _ | refine bstep ?_ (by assumption))), Lib.hid (by refine ⟨?_, ?_, ?_⟩ <;> (repeat (first | with_reducible exact q2_3_0 | with_reducible exact q2_3_1 | with_reducible exact q2_3_2 | with_reducible exact CellF.at_ (by simp) rfl | with_reducible refine CellF.past _ ?_ | with_reducible refine CellF.drew ?_ | with_reducible refine CellF.drewN _ ?_))), Lib.hid (by refine ⟨?_, ?_, ?_⟩ <;> (repeat (first | with_reducible exact q2_4_0 | with_reducible exact q2_4_1 | with_reducible exact q2_4_2 | with_reducible exact CellF.at_ (by simp) rfl | with_reducible refine CellF.past _ ?_ | with_reducible refine CellF.drew ?_ | with_reducible refine CellF.drewN _ ?_))), Lib.hid (by refine ⟨?_, ?_, ?_⟩ <;> (repeat (first | with_reducible exact q2_5_0 | with_reducible exact q2_5_1 | with_reducible exact q2_5_2 | with_reducible exact CellF.at_ (by simp) rfl | with_reducible refine CellF.past _ ?_ | with_reducible refine CellF.drew ?_ | with_reducible refine CellF.drewN _ ?_)))⟩
                | true =>
                  cases r2 with
                  | false =>
                    go_wp2_with fail
                    refine (Right_is _ _ _ _ R1 _).mono ?_
                    rintro e w2 ⟨rfl, hb2⟩
                    have q2_3_0 : CellF w2 ⟨bs, 0, none⟩ (.int .i64 lo) := (by refine CellF.keep hb2 ?_; repeat (first | with_reducible exact q1_1_0 | with_reducible exact CellF.at_ (by simp) rfl | with_reducible refine CellF.past _ ?_ | with_reducible refine CellF.drew ?_ | with_reducible refine CellF.drewN _ ?_))
                    have c2_3_0 := q2_3_0.1
                    have q2_3_1 : CellF w2 ⟨bs, 1, none⟩ (.int .i64 hi) := (by refine CellF.keep hb2 ?_; repeat (first | with_reducible exact q1_1_1 | with_reducible exact CellF.at_ (by simp) rfl | with_reducible refine CellF.past _ ?_ | with_reducible refine CellF.drew ?_ | with_reducible refine CellF.drewN _ ?_))
                    have c2_3_1 := q2_3_1.1
                    have q2_3_2 : CellF w2 ⟨bs, 2, none⟩ (.bool true) := (by refine CellF.keep hb2 ?_; repeat (first | with_reducible exact q1_1_2 | with_reducible exact CellF.at_ (by simp) rfl | with_reducible refine CellF.past _ ?_ | with_reducible refine CellF.drew ?_ | with_reducible refine CellF.drewN _ ?_))
                    have c2_3_2 := q2_3_2.1
                    have z2_3 : bs < w2.heap.size := ltc c2_3_0
                    have q2_4_0 : CellF w2 ⟨bt, 0, none⟩ (.int .i64 lo2) := (by refine CellF.keep hb2 ?_; repeat (first | with_reducible exact q1_2_0 | with_reducible exact CellF.at_ (by simp) rfl | with_reducible refine CellF.past _ ?_ | with_reducible refine CellF.drew ?_ | with_reducible refine CellF.drewN _ ?_))
                    have c2_4_0 := q2_4_0.1
                    have q2_4_1 : CellF w2 ⟨bt, 1, none⟩ (.int .i64 hi2) := (by refine CellF.keep hb2 ?_; repeat (first | with_reducible exact q1_2_1 | with_reducible exact CellF.at_ (by simp) rfl | with_reducible refine CellF.past _ ?_ | with_reducible refine CellF.drew ?_ | with_reducible refine CellF.drewN _ ?_))
                    have c2_4_1 := q2_4_1.1
                    have q2_4_2 : CellF w2 ⟨bt, 2, none⟩ (.bool true) := (by refine CellF.keep hb2 ?_; repeat (first | with_reducible exact q1_2_2 | with_reducible exact CellF.at_ (by simp) rfl | with_reducible refine CellF.past _ ?_ | with_reducible refine CellF.drew ?_ | with_reducible refine CellF.drewN _ ?_))
                    have c2_4_2 := q2_4_2.1
                    have z2_4 : bt < w2.heap.size := ltc c2_4_0
                    have q2_5_0 : CellF w2 ⟨w1.heap.size, 0, none⟩ (.int .i64 m1) := (by refine CellF.keep hb2 ?_; (first | ((repeat (first | with_reducible exact CellF.at_ (by simp) rfl | with_reducible refine CellF.past _ ?_ | with_reducible refine CellF.drew ?_ | with_reducible refine CellF.drewN _ ?_)); done) | (refine ⟨?_, ?_⟩ <;> go_simp)))
                    have c2_5_0 := q2_5_0.1
                    have q2_5_1 : CellF w2 ⟨w1.heap.size, 1, none⟩ (.int .i64 m2) := (by refine CellF.keep hb2 ?_; (first | ((repeat (first | with_reducible exact CellF.at_ (by simp) rfl | with_reducible refine CellF.past _ ?_ | with_reducible refine CellF.drew ?_ | with_reducible refine CellF.drewN _ ?_)); done) | (refine ⟨?_, ?_⟩ <;> go_simp)))
                    have c2_5_1 := q2_5_1.1
                    have q2_5_2 : CellF w2 ⟨w1.heap.size, 2, none⟩ (.bool true) := (by refine CellF.keep hb2 ?_; (first | ((repeat (first | with_reducible exact CellF.at_ (by simp) rfl | with_reducible refine CellF.past _ ?_ | with_reducible refine CellF.drew ?_ | with_reducible refine CellF.drewN _ ?_)); done) | (refine ⟨?_, ?_⟩ <;> go_simp)))
                    have c2_5_2 := q2_5_2.1
                    have z2_5 : w1.heap.size < w2.heap.size := ltc c2_5_0
                    clear q1_1_0 c1_1_0 q1_1_1 c1_1_1 q1_1_2 c1_1_2 z1_1 q1_2_0 c1_2_0 q1_2_1 c1_2_1 q1_2_2 c1_2_2 z1_2
                    go_wp2_with fail
                    refine (Right_is _ _ _ _ R2 _).mono ?_
                    rintro e w3 ⟨rfl, hb3⟩
                    have q3_6_0 : CellF w3 ⟨bs, 0, none⟩ (.int .i64 lo) := (by refine CellF.keep hb3 ?_; repeat (first | with_reducible exact q2_3_0 | with_reducible exact CellF.at_ (by simp) rfl | with_reducible refine CellF.past _ ?_ | with_reducible refine CellF.drew ?_ | with_reducible refine CellF.drewN _ ?_))
                    have c3_6_0 := q3_6_0.1
                    have q3_6_1 : CellF w3 ⟨bs, 1, none⟩ (.int .i64 hi) := (by refine CellF.keep hb3 ?_; repeat (first | with_reducible exact q2_3_1 | with_reducible exact CellF.at_ (by simp) rfl | with_reducible refine CellF.past _ ?_ | with_reducible refine CellF.drew ?_ | with_reducible refine CellF.drewN _ ?_))
                    have c3_6_1 := q3_6_1.1
                    have q3_6_2 : CellF w3 ⟨bs, 2, none⟩ (.bool true) := (by refine CellF.keep hb3 ?_; repeat (first | with_reducible exact q2_3_2 | with_reducible exact CellF.at_ (by simp) rfl | with_reducible refine CellF.past _ ?_ | with_reducible refine CellF.drew ?_ | with_reducible refine CellF.drewN _ ?_))
                    have c3_6_2 := q3_6_2.1
                    have z3_6 : bs < w3.heap.size := ltc c3_6_0
                    have q3_7_0 : CellF w3 ⟨bt, 0, none⟩ (.int .i64 lo2) := (by refine CellF.keep hb3 ?_; repeat (first | with_reducible exact q2_4_0 | with_reducible exact CellF.at_ (by simp) rfl | with_reducible refine CellF.past _ ?_ | with_reducible refine CellF.drew ?_ | with_reducible refine CellF.drewN _ ?_))
                    have c3_7_0 := q3_7_0.1
                    have q3_7_1 : CellF w3 ⟨bt, 1, none⟩ (.int .i64 hi2) := (by refine CellF.keep hb3 ?_; repeat (first | with_reducible exact q2_4_1 | with_reducible exact CellF.at_ (by simp) rfl | with_reducible refine CellF.past _ ?_ | with_reducible refine CellF.drew ?_ | with_reducible refine CellF.drewN _ ?_))
                    have c3_7_1 := q3_7_1.1
                    have q3_7_2 : CellF w3 ⟨bt, 2, none⟩ (.bool true) := (by refine CellF.keep hb3 ?_; repeat (first | with_reducible exact q2_4_2 | with_reducible exact CellF.at_ (by simp) rfl | with_reducible refine CellF.past _ ?_ | with_reducible refine CellF.drew ?_ | with_reducible refine CellF.drewN _ ?_))
                    have c3_7_2 := q3_7_2.1
                    have z3_7 : bt < w3.heap.size := ltc c3_7_0
                    have q3_8_0 : CellF w3 ⟨w1.heap.size, 0, none⟩ (.int .i64 m1) := (by refine CellF.keep hb3 ?_; repeat (first | with_reducible exact q2_5_0 | with_reducible exact CellF.at_ (by simp) rfl | with_reducible refine CellF.past _ ?_ | with_reducible refine CellF.drew ?_ | with_reducible refine CellF.drewN _ ?_))
                    have c3_8_0 := q3_8_0.1
                    have q3_8_1 : CellF w3 ⟨w1.heap.size, 1, none⟩ (.int .i64 m2) := (by refine CellF.keep hb3 ?_; repeat (first | with_reducible exact q2_5_1 | with_reducible exact CellF.at_ (by simp) rfl | with_reducible refine CellF.past _ ?_ | with_reducible refine CellF.drew ?_ | with_reducible refine CellF.drewN _ ?_))
                    have c3_8_1 := q3_8_1.1
                    have q3_8_2 : CellF w3 ⟨w1.heap.size, 2, none⟩ (.bool true) := (by refine CellF.keep hb3 ?_; repeat (first | with_reducible exact q2_5_2 | with_reducible exact CellF.at_ (by simp) rfl | with_reducible refine CellF.past _ ?_ | with_reducible refine CellF.drew ?_ | with_reducible refine CellF.drewN _ ?_))
                    have c3_8_2 := q3_8_2.1
                    have z3_8 : w1.heap.size < w3.heap.size := ltc c3_8_0
                    clear q2_3_0 c2_3_0 q2_3_1 c2_3_1 q2_3_2 c2_3_2 z2_3 q2_4_0 c2_4_0 q2_4_1 c2_4_1 q2_4_2 c2_4_2 z2_4 q2_5_0 c2_5_0 q2_5_1 c2_5_1 q2_5_2 c2_5_2 z2_5
                    go_wp2_with fail
                    go_meet
                    exact ⟨rfl, Lib.hid (by repeat (first | exact brefl _ | refine balloc ?_ _ | refine bdrewN ?_ _ | refine bset ?_ (by dsimp only; omega) _ | refine bstep ?_ (by assumption))), Lib.hid (by refine ⟨?_, ?_, ?_⟩ <;> (repeat (first | with_reducible exact q3_6_0 | with_reducible exact q3_6_1 | with_reducible exact q3_6_2 | with_reducible exact CellF.at_ (by simp) rfl | with_reducible refine CellF.past _ ?_ | with_reducible refine CellF.drew ?_ | with_reducible refine CellF.drewN _ ?_))), Lib.hid (by refine ⟨?_, ?_, ?_⟩ <;> (repeat (first | with_reducible exact q3_7_0 | with_reducible exact q3_7_1 | with_reducible exact q3_7_2 | with_reducible exact CellF.at_ (by simp) rfl | with_reducible refine CellF.past _ ?_ | with_reducible refine CellF.drew ?_ | with_reducible refine CellF.drewN _ ?_))), Lib.hid (by refine ⟨?_, ?_, ?_⟩ <;> (repeat (first | with_reducible exact q3_8_0 | with_reducible exact q3_8_1 | with_reducible exact q3_8_2 | with_reducible exact CellF.at_ (by simp) rfl | with_reducible refine CellF.past _ ?_ | with_reducible refine CellF.drew ?_ | with_reducible refine CellF.drewN _ ?_)))⟩
                  | true =>
                    have hm := meet_known (s := ⟨lo, hi, true⟩) (t := ⟨lo2, hi2, true⟩) (n := n) (by rw [e3]) (show (true && _) = true by rw [f1]; rfl) (show (true && _) = true by rw [f2]; rfl)
                    rw [e3, e1, e2] at hm
                    have Z1 := Lib.hid hm.1
                    have Z2 := Lib.hid hm.2.1
                    have Z3 := Lib.hid hm.2.2
                    go_wp2_with fail
                    refine (Right_is _ _ _ _ R1 _).mono ?_
                    rintro e w2 ⟨rfl, hb2⟩
                    have q2_3_0 : CellF w2 ⟨bs, 0, none⟩ (.int .i64 lo) := (by refine CellF.keep hb2 ?_; repeat (first | with_reducible exact q1_1_0 | with_reducible exact CellF.at_ (by simp) rfl | with_reducible refine CellF.past _ ?_ | with_reducible refine CellF.drew ?_ | with_reducible refine CellF.drewN _ ?_))
                    have c2_3_0 := q2_3_0.1
                    have q2_3_1 : CellF w2 ⟨bs, 1, none⟩ (.int .i64 hi) := (by refine CellF.keep hb2 ?_; repeat (first | with_reducible exact q1_1_1 | with_reducible exact CellF.at_ (by simp) rfl | with_reducible refine CellF.past _ ?_ | with_reducible refine CellF.drew ?_ | with_reducible refine CellF.drewN _ ?_))
                    have c2_3_1 := q2_3_1.1
                    have q2_3_2 : CellF w2 ⟨bs, 2, none⟩ (.bool true) := (by refine CellF.keep hb2 ?_; repeat (first | with_reducible exact q1_1_2 | with_reducible exact CellF.at_ (by simp) rfl | with_reducible refine CellF.past _ ?_ | with_reducible refine CellF.drew ?_ | with_reducible refine CellF.drewN _ ?_))
                    have c2_3_2 := q2_3_2.1
                    have z2_3 : bs < w2.heap.size := ltc c2_3_0
                    have q2_4_0 : CellF w2 ⟨bt, 0, none⟩ (.int .i64 lo2) := (by refine CellF.keep hb2 ?_; repeat (first | with_reducible exact q1_2_0 | with_reducible exact CellF.at_ (by simp) rfl | with_reducible refine CellF.past _ ?_ | with_reducible refine CellF.drew ?_ | with_reducible refine CellF.drewN _ ?_))
                    have c2_4_0 := q2_4_0.1
                    have q2_4_1 : CellF w2 ⟨bt, 1, none⟩ (.int .i64 hi2) := (by refine CellF.keep hb2 ?_; repeat (first | with_reducible exact q1_2_1 | with_reducible exact CellF.at_ (by simp) rfl | with_reducible refine CellF.past _ ?_ | with_reducible refine CellF.drew ?_ | with_reducible refine CellF.drewN _ ?_))
                    have c2_4_1 := q2_4_1.1
                    have q2_4_2 : CellF w2 ⟨bt, 2, none⟩ (.bool true) := (by refine CellF.keep hb2 ?_; repeat (first | with_reducible exact q1_2_2 | with_reducible exact CellF.at_ (by simp) rfl | with_reducible refine CellF.past _ ?_ | with_reducible refine CellF.drew ?_ | with_reducible refine CellF.drewN _ ?_))
                    have c2_4_2 := q2_4_2.1
                    have z2_4 : bt < w2.heap.size := ltc c2_4_0
                    have q2_5_0 : CellF w2 ⟨w1.heap.size, 0, none⟩ (.int .i64 m1) := (by refine CellF.keep hb2 ?_; (first | ((repeat (first | with_reducible exact CellF.at_ (by simp) rfl | with_reducible refine CellF.past _ ?_ | with_reducible refine CellF.drew ?_ | with_reducible refine CellF.drewN _ ?_)); done) | (refine ⟨?_, ?_⟩ <;> go_simp)))
                    have c2_5_0 := q2_5_0.1
                    have q2_5_1 : CellF w2 ⟨w1.heap.size, 1, none⟩ (.int .i64 m2) := (by refine CellF.keep hb2 ?_; (first | ((repeat (first | with_reducible exact CellF.at_ (by simp) rfl | with_reducible refine CellF.past _ ?_ | with_reducible refine CellF.drew ?_ | with_reducible refine CellF.drewN _ ?_)); done) | (refine ⟨?_, ?_⟩ <;> go_simp)))
                    have c2_5_1 := q2_5_1.1
                    have q2_5_2 : CellF w2 ⟨w1.heap.size, 2, none⟩ (.bool true) := (by refine CellF.keep hb2 ?_; (first | ((repeat (first | with_reducible exact CellF.at_ (by simp) rfl | with_reducible refine CellF.past _ ?_ | with_reducible refine CellF.drew ?_ | with_reducible refine CellF.drewN _ ?_)); done) | (refine ⟨?_, ?_⟩ <;> go_simp)))
                    have c2_5_2 := q2_5_2.1
                    have z2_5 : w1.heap.size < w2.heap.size := ltc c2_5_0
                    clear q1_1_0 c1_1_0 q1_1_1 c1_1_1 q1_1_2 c1_1_2 z1_1 q1_2_0 c1_2_0 q1_2_1 c1_2_1 q1_2_2 c1_2_2 z1_2
                    go_wp2_with fail
                    refine (Right_is _ _ _ _ R2 _).mono ?_
                    rintro e w3 ⟨rfl, hb3⟩
                    have q3_6_0 : CellF w3 ⟨bs, 0, none⟩ (.int .i64 lo) := (by refine CellF.keep hb3 ?_; repeat (first | with_reducible exact q2_3_0 | with_reducible exact CellF.at_ (by simp) rfl | with_reducible refine CellF.past _ ?_ | with_reducible refine CellF.drew ?_ | with_reducible refine CellF.drewN _ ?_))
                    have c3_6_0 := q3_6_0.1
                    have q3_6_1 : CellF w3 ⟨bs, 1, none⟩ (.int .i64 hi) := (by refine CellF.keep hb3 ?_; repeat (first | with_reducible exact q2_3_1 | with_reducible exact CellF.at_ (by simp) rfl | with_reducible refine CellF.past _ ?_ | with_reducible refine CellF.drew ?_ | with_reducible refine CellF.drewN _ ?_))
                    have c3_6_1 := q3_6_1.1
                    have q3_6_2 : CellF w3 ⟨bs, 2, none⟩ (.bool true) := (by refine CellF.keep hb3 ?_; repeat (first | with_reducible exact q2_3_2 | with_reducible exact CellF.at_ (by simp) rfl | with_reducible refine CellF.past _ ?_ | with_reducible refine CellF.drew ?_ | with_reducible refine CellF.drewN _ ?_))
                    have c3_6_2 := q3_6_2.1
                    have z3_6 : bs < w3.heap.size := ltc c3_6_0
                    have q3_7_0 : CellF w3 ⟨bt, 0, none⟩ (.int .i64 lo2) := (by refine CellF.keep hb3 ?_; repeat (first | with_reducible exact q2_4_0 | with_reducible exact CellF.at_ (by simp) rfl | with_reducible refine CellF.past _ ?_ | with_reducible refine CellF.drew ?_ | with_reducible refine CellF.drewN _ ?_))
                    have c3_7_0 := q3_7_0.1
                    have q3_7_1 : CellF w3 ⟨bt, 1, none⟩ (.int .i64 hi2) := (by refine CellF.keep hb3 ?_; repeat (first | with_reducible exact q2_4_1 | with_reducible exact CellF.at_ (by simp) rfl | with_reducible refine CellF.past _ ?_ | with_reducible refine CellF.drew ?_ | with_reducible refine CellF.drewN _ ?_))
                    have c3_7_1 := q3_7_1.1
                    have q3_7_2 : CellF w3 ⟨bt, 2, none⟩ (.bool true) := (by refine CellF.keep hb3 ?_; repeat (first | with_reducible exact q2_4_2 | with_reducible exact CellF.at_ (by simp) rfl | with_reducible refine CellF.past _ ?_ | with_reducible refine CellF.drew ?_ | with_reducible refine CellF.drewN _ ?_))
                    have c3_7_2 := q3_7_2.1
                    have z3_7 : bt < w3.heap.size := ltc c3_7_0
                    have q3_8_0 : CellF w3 ⟨w1.heap.size, 0, none⟩ (.int .i64 m1) := (by refine CellF.keep hb3 ?_; repeat (first | with_reducible exact q2_5_0 | with_reducible exact CellF.at_ (by simp) rfl | with_reducible refine CellF.past _ ?_ | with_reducible refine CellF.drew ?_ | with_reducible refine CellF.drewN _ ?_))
                    have c3_8_0 := q3_8_0.1
                    have q3_8_1 : CellF w3 ⟨w1.heap.size, 1, none⟩ (.int .i64 m2) := (by refine CellF.keep hb3 ?_; repeat (first | with_reducible exact q2_5_1 | with_reducible exact CellF.at_ (by simp) rfl | with_reducible refine CellF.past _ ?_ | with_reducible refine CellF.drew ?_ | with_reducible refine CellF.drewN _ ?_))
                    have c3_8_1 := q3_8_1.1
                    have q3_8_2 : CellF w3 ⟨w1.heap.size, 2, none⟩ (.bool true) := (by refine CellF.keep hb3 ?_; repeat (first | with_reducible exact q2_5_2 | with_reducible exact CellF.at_ (by simp) rfl | with_reducible refine CellF.past _ ?_ | with_reducible refine CellF.drew ?_ | with_reducible refine CellF.drewN _ ?_))
                    have c3_8_2 := q3_8_2.1
                    have z3_8 : w1.heap.size < w3.heap.size := ltc c3_8_0
                    clear q2_3_0 c2_3_0 q2_3_1 c2_3_1 q2_3_2 c2_3_2 z2_3 q2_4_0 c2_4_0 q2_4_1 c2_4_1 q2_4_2 c2_4_2 z2_4 q2_5_0 c2_5_0 q2_5_1 c2_5_1 q2_5_2 c2_5_2 z2_5
                    go_wp2_with fail
                    refine (Has_is _ _ _ _ _ Z1 _).mono ?_
                    rintro e w4 ⟨rfl, hb4⟩
                    have q4_9_0 : CellF w4 ⟨bs, 0, none⟩ (.int .i64 lo) := (by refine CellF.keep hb4 ?_; repeat (first | with_reducible exact q3_6_0 | with_reducible exact CellF.at_ (by simp) rfl | with_reducible refine CellF.past _ ?_ | with_reducible refine CellF.drew ?_ | with_reducible refine CellF.drewN _ ?_))
                    have c4_9_0 := q4_9_0.1
                    have q4_9_1 : CellF w4 ⟨bs, 1, none⟩ (.int .i64 hi) := (by refine CellF.keep hb4 ?_; repeat (first | with_reducible exact q3_6_1 | with_reducible exact CellF.at_ (by simp) rfl | with_reducible refine CellF.past _ ?_ | with_reducible refine CellF.drew ?_ | with_reducible refine CellF.drewN _ ?_))
                    have c4_9_1 := q4_9_1.1
                    have q4_9_2 : CellF w4 ⟨bs, 2, none⟩ (.bool true) := (by refine CellF.keep hb4 ?_; repeat (first | with_reducible exact q3_6_2 | with_reducible exact CellF.at_ (by simp) rfl | with_reducible refine CellF.past _ ?_ | with_reducible refine CellF.drew ?_ | with_reducible refine CellF.drewN _ ?_))
                    have c4_9_2 := q4_9_2.1
                    have z4_9 : bs < w4.heap.size := ltc c4_9_0
                    have q4_10_0 : CellF w4 ⟨bt, 0, none⟩ (.int .i64 lo2) := (by refine CellF.keep hb4 ?_; repeat (first | with_reducible exact q3_7_0 | with_reducible exact CellF.at_ (by simp) rfl | with_reducible refine CellF.past _ ?_ | with_reducible refine CellF.drew ?_ | with_reducible refine CellF.drewN _ ?_))
                    have c4_10_0 := q4_10_0.1
                    have q4_10_1 : CellF w4 ⟨bt, 1, none⟩ (.int .i64 hi2) := (by refine CellF.keep hb4 ?_; repeat (first | with_reducible exact q3_7_1 | with_reducible exact CellF.at_ (by simp) rfl | with_reducible refine CellF.past _ ?_ | with_reducible refine CellF.drew ?_ | with_reducible refine CellF.drewN _ ?_))
                    have c4_10_1 := q4_10_1.1
                    have q4_10_2 : CellF w4 ⟨bt, 2, none⟩ (.bool true) := (by refine CellF.keep hb4 ?_; repeat (first | with_reducible exact q3_7_2 | with_reducible exact CellF.at_ (by simp) rfl | with_reducible refine CellF.past _ ?_ | with_reducible refine CellF.drew ?_ | with_reducible refine CellF.drewN _ ?_))
                    have c4_10_2 := q4_10_2.1
                    have z4_10 : bt < w4.heap.size := ltc c4_10_0
                    have q4_11_0 : CellF w4 ⟨w1.heap.size, 0, none⟩ (.int .i64 m1) := (by refine CellF.keep hb4 ?_; repeat (first | with_reducible exact q3_8_0 | with_reducible exact CellF.at_ (by simp) rfl | with_reducible refine CellF.past _ ?_ | with_reducible refine CellF.drew ?_ | with_reducible refine CellF.drewN _ ?_))
                    have c4_11_0 := q4_11_0.1
                    have q4_11_1 : CellF w4 ⟨w1.heap.size, 1, none⟩ (.int .i64 m2) := (by refine CellF.keep hb4 ?_; repeat (first | with_reducible exact q3_8_1 | with_reducible exact CellF.at_ (by simp) rfl | with_reducible refine CellF.past _ ?_ | with_reducible refine CellF.drew ?_ | with_reducible refine CellF.drewN _ ?_))
                    have c4_11_1 := q4_11_1.1
                    have q4_11_2 : CellF w4 ⟨w1.heap.size, 2, none⟩ (.bool true) := (by refine CellF.keep hb4 ?_; repeat (first | with_reducible exact q3_8_2 | with_reducible exact CellF.at_ (by simp) rfl | with_reducible refine CellF.past _ ?_ | with_reducible refine CellF.drew ?_ | with_reducible refine CellF.drewN _ ?_))
                    have c4_11_2 := q4_11_2.1
                    have z4_11 : w1.heap.size < w4.heap.size := ltc c4_11_0
                    clear q3_6_0 c3_6_0 q3_6_1 c3_6_1 q3_6_2 c3_6_2 z3_6 q3_7_0 c3_7_0 q3_7_1 c3_7_1 q3_7_2 c3_7_2 z3_7 q3_8_0 c3_8_0 q3_8_1 c3_8_1 q3_8_2 c3_8_2 z3_8
                    go_wp2_with fail
                    refine (Within_is _ _ _ _ _ _ _ Z2 _).mono ?_
                    rintro e w5 ⟨rfl, hb5⟩
                    have q5_12_0 : CellF w5 ⟨bs, 0, none⟩ (.int .i64 lo) := (by refine CellF.keep hb5 ?_; repeat (first | with_reducible exact q4_9_0 | with_reducible exact CellF.at_ (by simp) rfl | with_reducible refine CellF.past _ ?_ | with_reducible refine CellF.drew ?_ | with_reducible refine CellF.drewN _ ?_))
                    have c5_12_0 := q5_12_0.1
                    have q5_12_1 : CellF w5 ⟨bs, 1, none⟩ (.int .i64 hi) := (by refine CellF.keep hb5 ?_; repeat (first | with_reducible exact q4_9_1 | with_reducible exact CellF.at_ (by simp) rfl | with_reducible refine CellF.past _ ?_ | with_reducible refine CellF.drew ?_ | with_reducible refine CellF.drewN _ ?_))
                    have c5_12_1 := q5_12_1.1
                    have q5_12_2 : CellF w5 ⟨bs, 2, none⟩ (.bool true) := (by refine CellF.keep hb5 ?_; repeat (first | with_reducible exact q4_9_2 | with_reducible exact CellF.at_ (by simp) rfl | with_reducible refine CellF.past _ ?_ | with_reducible refine CellF.drew ?_ | with_reducible refine CellF.drewN _ ?_))
                    have c5_12_2 := q5_12_2.1
                    have z5_12 : bs < w5.heap.size := ltc c5_12_0
                    have q5_13_0 : CellF w5 ⟨bt, 0, none⟩ (.int .i64 lo2) := (by refine CellF.keep hb5 ?_; repeat (first | with_reducible exact q4_10_0 | with_reducible exact CellF.at_ (by simp) rfl | with_reducible refine CellF.past _ ?_ | with_reducible refine CellF.drew ?_ | with_reducible refine CellF.drewN _ ?_))
                    have c5_13_0 := q5_13_0.1
                    have q5_13_1 : CellF w5 ⟨bt, 1, none⟩ (.int .i64 hi2) := (by refine CellF.keep hb5 ?_; repeat (first | with_reducible exact q4_10_1 | with_reducible exact CellF.at_ (by simp) rfl | with_reducible refine CellF.past _ ?_ | with_reducible refine CellF.drew ?_ | with_reducible refine CellF.drewN _ ?_))
                    have c5_13_1 := q5_13_1.1
                    have q5_13_2 : CellF w5 ⟨bt, 2, none⟩ (.bool true) := (by refine CellF.keep hb5 ?_; repeat (first | with_reducible exact q4_10_2 | with_reducible exact CellF.at_ (by simp) rfl | with_reducible refine CellF.past _ ?_ | with_reducible refine CellF.drew ?_ | with_reducible refine CellF.drewN _ ?_))
                    have c5_13_2 := q5_13_2.1
                    have z5_13 : bt < w5.heap.size := ltc c5_13_0
                    have q5_14_0 : CellF w5 ⟨w1.heap.size, 0, none⟩ (.int .i64 m1) := (by refine CellF.keep hb5 ?_; repeat (first | with_reducible exact q4_11_0 | with_reducible exact CellF.at_ (by simp) rfl | with_reducible refine CellF.past _ ?_ | with_reducible refine CellF.drew ?_ | with_reducible refine CellF.drewN _ ?_))
                    have c5_14_0 := q5_14_0.1
                    have q5_14_1 : CellF w5 ⟨w1.heap.size, 1, none⟩ (.int .i64 m2) := (by refine CellF.keep hb5 ?_; repeat (first | with_reducible exact q4_11_1 | with_reducible exact CellF.at_ (by simp) rfl | with_reducible refine CellF.past _ ?_ | with_reducible refine CellF.drew ?_ | with_reducible refine CellF.drewN _ ?_))
                    have c5_14_1 := q5_14_1.1
                    have q5_14_2 : CellF w5 ⟨w1.heap.size, 2, none⟩ (.bool true) := (by refine CellF.keep hb5 ?_; repeat (first | with_reducible exact q4_11_2 | with_reducible exact CellF.at_ (by simp) rfl | with_reducible refine CellF.past _ ?_ | with_reducible refine CellF.drew ?_ | with_reducible refine CellF.drewN _ ?_))
                    have c5_14_2 := q5_14_2.1
                    have z5_14 : w1.heap.size < w5.heap.size := ltc c5_14_0
                    clear q4_9_0 c4_9_0 q4_9_1 c4_9_1 q4_9_2 c4_9_2 z4_9 q4_10_0 c4_10_0 q4_10_1 c4_10_1 q4_10_2 c4_10_2 z4_10 q4_11_0 c4_11_0 q4_11_1 c4_11_1 q4_11_2 c4_11_2 z4_11
                    go_wp2_with fail
                    refine (Within_is _ _ _ _ _ _ _ Z3 _).mono ?_
                    rintro e w6 ⟨rfl, hb6⟩
                    have q6_15_0 : CellF w6 ⟨bs, 0, none⟩ (.int .i64 lo) := (by refine CellF.keep hb6 ?_; repeat (first | with_reducible exact q5_12_0 | with_reducible exact CellF.at_ (by simp) rfl | with_reducible refine CellF.past _ ?_ | with_reducible refine CellF.drew ?_ | with_reducible refine CellF.drewN _ ?_))
                    have c6_15_0 := q6_15_0.1
                    have q6_15_1 : CellF w6 ⟨bs, 1, none⟩ (.int .i64 hi) := (by refine CellF.keep hb6 ?_; repeat (first | with_reducible exact q5_12_1 | with_reducible exact CellF.at_ (by simp) rfl | with_reducible refine CellF.past _ ?_ | with_reducible refine CellF.drew ?_ | with_reducible refine CellF.drewN _ ?_))
                    have c6_15_1 := q6_15_1.1
                    have q6_15_2 : CellF w6 ⟨bs, 2, none⟩ (.bool true) := (by refine CellF.keep hb6 ?_; repeat (first | with_reducible exact q5_12_2 | with_reducible exact CellF.at_ (by simp) rfl | with_reducible refine CellF.past _ ?_ | with_reducible refine CellF.drew ?_ | with_reducible refine CellF.drewN _ ?_))
                    have c6_15_2 := q6_15_2.1
                    have z6_15 : bs < w6.heap.size := ltc c6_15_0
                    have q6_16_0 : CellF w6 ⟨bt, 0, none⟩ (.int .i64 lo2) := (by refine CellF.keep hb6 ?_; repeat (first | with_reducible exact q5_13_0 | with_reducible exact CellF.at_ (by simp) rfl | with_reducible refine CellF.past _ ?_ | with_reducible refine CellF.drew ?_ | with_reducible refine CellF.drewN _ ?_))
                    have c6_16_0 := q6_16_0.1
                    have q6_16_1 : CellF w6 ⟨bt, 1, none⟩ (.int .i64 hi2) := (by refine CellF.keep hb6 ?_; repeat (first | with_reducible exact q5_13_1 | with_reducible exact CellF.at_ (by simp) rfl | with_reducible refine CellF.past _ ?_ | with_reducible refine CellF.drew ?_ | with_reducible refine CellF.drewN _ ?_))
                    have c6_16_1 := q6_16_1.1
                    have q6_16_2 : CellF w6 ⟨bt, 2, none⟩ (.bool true) := (by refine CellF.keep hb6 ?_; repeat (first | with_reducible exact q5_13_2 | with_reducible exact CellF.at_ (by simp) rfl | with_reducible refine CellF.past _ ?_ | with_reducible refine CellF.drew ?_ | with_reducible refine CellF.drewN _ ?_))
                    have c6_16_2 := q6_16_2.1
                    have z6_16 : bt < w6.heap.size := ltc c6_16_0
                    have q6_17_0 : CellF w6 ⟨w1.heap.size, 0, none⟩ (.int .i64 m1) := (by refine CellF.keep hb6 ?_; repeat (first | with_reducible exact q5_14_0 | with_reducible exact CellF.at_ (by simp) rfl | with_reducible refine CellF.past _ ?_ | with_reducible refine CellF.drew ?_ | with_reducible refine CellF.drewN _ ?_))
                    have c6_17_0 := q6_17_0.1
                    have q6_17_1 : CellF w6 ⟨w1.heap.size, 1, none⟩ (.int .i64 m2) := (by refine CellF.keep hb6 ?_; repeat (first | with_reducible exact q5_14_1 | with_reducible exact CellF.at_ (by simp) rfl | with_reducible refine CellF.past _ ?_ | with_reducible refine CellF.drew ?_ | with_reducible refine CellF.drewN _ ?_))
                    have c6_17_1 := q6_17_1.1
                    have q6_17_2 : CellF w6 ⟨w1.heap.size, 2, none⟩ (.bool true) := (by refine CellF.keep hb6 ?_; repeat (first | with_reducible exact q5_14_2 | with_reducible exact CellF.at_ (by simp) rfl | with_reducible refine CellF.past _ ?_ | with_reducible refine CellF.drew ?_ | with_reducible refine CellF.drewN _ ?_))
                    have c6_17_2 := q6_17_2.1
                    have z6_17 : w1.heap.size < w6.heap.size := ltc c6_17_0
                    clear q5_12_0 c5_12_0 q5_12_1 c5_12_1 q5_12_2 c5_12_2 z5_12 q5_13_0 c5_13_0 q5_13_1 c5_13_1 q5_13_2 c5_13_2 z5_13 q5_14_0 c5_14_0 q5_14_1 c5_14_1 q5_14_2 c5_14_2 z5_14
                    go_wp2_with fail
                    go_meet
                    exact ⟨rfl, Lib.hid (by repeat (first | exact brefl _ | refine balloc ?_ _ | refine bdrewN ?_ _ | refine bset ?_ (by dsimp only; omega) _ | refine bstep ?_ (by assumption))), Lib.hid (by refine ⟨?_, ?_, ?_⟩ <;> (repeat (first | with_reducible exact q6_15_0 | with_reducible exact q6_15_1 | with_reducible exact q6_15_2 | with_reducible exact CellF.at_ (by simp) rfl | with_reducible refine CellF.past _ ?_ | with_reducible refine CellF.drew ?_ | with_reducible refine CellF.drewN _ ?_))), Lib.hid (by refine ⟨?_, ?_, ?_⟩ <;> (repeat (first | with_reducible exact q6_16_0 | with_reducible exact q6_16_1 | with_reducible exact q6_16_2 | with_reducible exact CellF.at_ (by simp) rfl | with_reducible refine CellF.past _ ?_ | with_reducible refine CellF.drew ?_ | with_reducible refine CellF.drewN _ ?_))), Lib.hid (by refine ⟨?_, ?_, ?_⟩ <;> (repeat (first | with_reducible exact q6_17_0 | with_reducible exact q6_17_1 | with_reducible exact q6_17_2 | with_reducible exact CellF.at_ (by simp) rfl | with_reducible refine CellF.past _ ?_ | with_reducible refine CellF.drew ?_ | with_reducible refine CellF.drewN _ ?_)))⟩
        case rest =>
          obtain ⟨rfl, HB, Hbs3, Hbt3, Hw1.heap.size3⟩ := hcut
          have hwd3 := HB.out
          clear HB
          have qHbs3_0 := Hbs3.out.1
          have cHbs3_0 := qHbs3_0.1
          have qHbs3_1 := Hbs3.out.2.1
          have cHbs3_1 := qHbs3_1.1
          have qHbs3_2 := Hbs3.out.2.2
          have cHbs3_2 := qHbs3_2.1
          have zHbs3 := ltc cHbs3_0
          have qHbt3_0 := Hbt3.out.1
          have cHbt3_0 := qHbt3_0.1
          have qHbt3_1 := Hbt3.out.2.1
          have cHbt3_1 := qHbt3_1.1
          have qHbt3_2 := Hbt3.out.2.2
          have cHbt3_2 := qHbt3_2.1
          have zHbt3 := ltc cHbt3_0
          have qHw1.heap.size3_0 := Hw1.heap.size3.out.1
          have cHw1.heap.size3_0 := qHw1.heap.size3_0.1
          have qHw1.heap.size3_1 := Hw1.heap.size3.out.2.1
          have cHw1.heap.size3_1 := qHw1.heap.size3_1.1
          have qHw1.heap.size3_2 := Hw1.heap.size3.out.2.2
          have cHw1.heap.size3_2 := qHw1.heap.size3_2.1
          have zHw1.heap.size3 := ltc cHw1.heap.size3_0
          clear Hbs3 Hbt3 Hw1.heap.size3
          go_wp2_with fail
          go_region_held3 (fun w' => w'.cell? ⟨bs, 0, none⟩ = some (.int .i64 lo) ∧ w'.cell? ⟨bs, 1, none⟩ = some (.int .i64 hi) ∧ w'.cell? ⟨bs, 2, none⟩ = some (.bool k) ∧ w'.cell? ⟨bt, 0, none⟩ = some (.int .i64 lo2) ∧ w'.cell? ⟨bt, 1, none⟩ = some (.int .i64 hi2) ∧ w'.cell? ⟨bt, 2, none⟩ = some (.bool k2))
            (go_keep)
            (first | (go_at_call 23; ((with_reducible refine (alive_is _).mono ?_)); rintro e w2 ⟨rfl, hb2⟩; have q2_3_0 : CellF w2 ⟨bs, 0, none⟩ (.int .i64 lo) := (by refine CellF.keep hb2 ?_; repeat (first | with_reducible exact qHbs3_0 | with_reducible exact CellF.at_ (by simp) rfl | with_reducible refine CellF.past _ ?_ | with_reducible refine CellF.drew ?_ | with_reducible refine CellF.drewN _ ?_)); have c2_3_0 := q2_3_0.1; have q2_3_1 : CellF w2 ⟨bs, 1, none⟩ (.int .i64 hi) := (by refine CellF.keep hb2 ?_; repeat (first | with_reducible exact qHbs3_1 | with_reducible exact CellF.at_ (by simp) rfl | with_reducible refine CellF.past _ ?_ | with_reducible refine CellF.drew ?_ | with_reducible refine CellF.drewN _ ?_)); have c2_3_1 := q2_3_1.1; have q2_3_2 : CellF w2 ⟨bs, 2, none⟩ (.bool k) := (by refine CellF.keep hb2 ?_; repeat (first | with_reducible exact qHbs3_2 | with_reducible exact CellF.at_ (by simp) rfl | with_reducible refine CellF.past _ ?_ | with_reducible refine CellF.drew ?_ | with_reducible refine CellF.drewN _ ?_)); have c2_3_2 := q2_3_2.1; have z2_3 : bs < w2.heap.size := ltc c2_3_0; have q2_4_0 : CellF w2 ⟨bt, 0, none⟩ (.int .i64 lo2) := (by refine CellF.keep hb2 ?_; repeat (first | with_reducible exact qHbt3_0 | with_reducible exact CellF.at_ (by simp) rfl | with_reducible refine CellF.past _ ?_ | with_reducible refine CellF.drew ?_ | with_reducible refine CellF.drewN _ ?_)); have c2_4_0 := q2_4_0.1; have q2_4_1 : CellF w2 ⟨bt, 1, none⟩ (.int .i64 hi2) := (by refine CellF.keep hb2 ?_; repeat (first | with_reducible exact qHbt3_1 | with_reducible exact CellF.at_ (by simp) rfl | with_reducible refine CellF.past _ ?_ | with_reducible refine CellF.drew ?_ | with_reducible refine CellF.drewN _ ?_)); have c2_4_1 := q2_4_1.1; have q2_4_2 : CellF w2 ⟨bt, 2, none⟩ (.bool k2) := (by refine CellF.keep hb2 ?_; repeat (first | with_reducible exact qHbt3_2 | with_reducible exact CellF.at_ (by simp) rfl | with_reducible refine CellF.past _ ?_ | with_reducible refine CellF.drew ?_ | with_reducible refine CellF.drewN _ ?_)); have c2_4_2 := q2_4_2.1; have z2_4 : bt < w2.heap.size := ltc c2_4_0) | (go_at_call 17; ((with_reducible refine (Meet_is _ _ _ _ _ _ _ _ _ X1 _).mono ?_)); rintro e w3 ⟨rfl, hb3⟩; have q3_5_0 : CellF w3 ⟨bs, 0, none⟩ (.int .i64 lo) := (by refine CellF.keep hb3 ?_; repeat (first | with_reducible exact q2_3_0 | with_reducible exact CellF.at_ (by simp) rfl | with_reducible refine CellF.past _ ?_ | with_reducible refine CellF.drew ?_ | with_reducible refine CellF.drewN _ ?_)); have c3_5_0 := q3_5_0.1; have q3_5_1 : CellF w3 ⟨bs, 1, none⟩ (.int .i64 hi) := (by refine CellF.keep hb3 ?_; repeat (first | with_reducible exact q2_3_1 | with_reducible exact CellF.at_ (by simp) rfl | with_reducible refine CellF.past _ ?_ | with_reducible refine CellF.drew ?_ | with_reducible refine CellF.drewN _ ?_)); have c3_5_1 := q3_5_1.1; have q3_5_2 : CellF w3 ⟨bs, 2, none⟩ (.bool k) := (by refine CellF.keep hb3 ?_; repeat (first | with_reducible exact q2_3_2 | with_reducible exact CellF.at_ (by simp) rfl | with_reducible refine CellF.past _ ?_ | with_reducible refine CellF.drew ?_ | with_reducible refine CellF.drewN _ ?_)); have c3_5_2 := q3_5_2.1; have z3_5 : bs < w3.heap.size := ltc c3_5_0; have q3_6_0 : CellF w3 ⟨bt, 0, none⟩ (.int .i64 lo2) := (by refine CellF.keep hb3 ?_; repeat (first | with_reducible exact q2_4_0 | with_reducible exact CellF.at_ (by simp) rfl | with_reducible refine CellF.past _ ?_ | with_reducible refine CellF.drew ?_ | with_reducible refine CellF.drewN _ ?_)); have c3_6_0 := q3_6_0.1; have q3_6_1 : CellF w3 ⟨bt, 1, none⟩ (.int .i64 hi2) := (by refine CellF.keep hb3 ?_; repeat (first | with_reducible exact q2_4_1 | with_reducible exact CellF.at_ (by simp) rfl | with_reducible refine CellF.past _ ?_ | with_reducible refine CellF.drew ?_ | with_reducible refine CellF.drewN _ ?_)); have c3_6_1 := q3_6_1.1; have q3_6_2 : CellF w3 ⟨bt, 2, none⟩ (.bool k2) := (by refine CellF.keep hb3 ?_; repeat (first | with_reducible exact q2_4_2 | with_reducible exact CellF.at_ (by simp) rfl | with_reducible refine CellF.past _ ?_ | with_reducible refine CellF.drew ?_ | with_reducible refine CellF.drewN _ ?_)); have c3_6_2 := q3_6_2.1; have z3_6 : bt < w3.heap.size := ltc c3_6_0) | (go_at_call 17; ((with_reducible refine (Meet_is _ _ _ _ _ _ _ _ _ X2 _).mono ?_)); rintro e w4 ⟨rfl, hb4⟩; have q4_7_0 : CellF w4 ⟨bs, 0, none⟩ (.int .i64 lo) := (by refine CellF.keep hb4 ?_; repeat (first | with_reducible exact q3_5_0 | with_reducible exact CellF.at_ (by simp) rfl | with_reducible refine CellF.past _ ?_ | with_reducible refine CellF.drew ?_ | with_reducible refine CellF.drewN _ ?_)); have c4_7_0 := q4_7_0.1; have q4_7_1 : CellF w4 ⟨bs, 1, none⟩ (.int .i64 hi) := (by refine CellF.keep hb4 ?_; repeat (first | with_reducible exact q3_5_1 | with_reducible exact CellF.at_ (by simp) rfl | with_reducible refine CellF.past _ ?_ | with_reducible refine CellF.drew ?_ | with_reducible refine CellF.drewN _ ?_)); have c4_7_1 := q4_7_1.1; have q4_7_2 : CellF w4 ⟨bs, 2, none⟩ (.bool k) := (by refine CellF.keep hb4 ?_; repeat (first | with_reducible exact q3_5_2 | with_reducible exact CellF.at_ (by simp) rfl | with_reducible refine CellF.past _ ?_ | with_reducible refine CellF.drew ?_ | with_reducible refine CellF.drewN _ ?_)); have c4_7_2 := q4_7_2.1; have z4_7 : bs < w4.heap.size := ltc c4_7_0; have q4_8_0 : CellF w4 ⟨bt, 0, none⟩ (.int .i64 lo2) := (by refine CellF.keep hb4 ?_; repeat (first | with_reducible exact q3_6_0 | with_reducible exact CellF.at_ (by simp) rfl | with_reducible refine CellF.past _ ?_ | with_reducible refine CellF.drew ?_ | with_reducible refine CellF.drewN _ ?_)); have c4_8_0 := q4_8_0.1; have q4_8_1 : CellF w4 ⟨bt, 1, none⟩ (.int .i64 hi2) := (by refine CellF.keep hb4 ?_; repeat (first | with_reducible exact q3_6_1 | with_reducible exact CellF.at_ (by simp) rfl | with_reducible refine CellF.past _ ?_ | with_reducible refine CellF.drew ?_ | with_reducible refine CellF.drewN _ ?_)); have c4_8_1 := q4_8_1.1; have q4_8_2 : CellF w4 ⟨bt, 2, none⟩ (.bool k2) := (by refine CellF.keep hb4 ?_; repeat (first | with_reducible exact q3_6_2 | with_reducible exact CellF.at_ (by simp) rfl | with_reducible refine CellF.past _ ?_ | with_reducible refine CellF.drew ?_ | with_reducible refine CellF.drewN _ ?_)); have c4_8_2 := q4_8_2.1; have z4_8 : bt < w4.heap.size := ltc c4_8_0) | (go_at_call 12; ((with_reducible refine (same_yes m1 m2 m3 _).mono ?_)); rintro e w5 ⟨rfl, hb5⟩; have q5_9_0 : CellF w5 ⟨bs, 0, none⟩ (.int .i64 lo) := (by refine CellF.keep hb5 ?_; repeat (first | with_reducible exact q4_7_0 | with_reducible exact CellF.at_ (by simp) rfl | with_reducible refine CellF.past _ ?_ | with_reducible refine CellF.drew ?_ | with_reducible refine CellF.drewN _ ?_)); have c5_9_0 := q5_9_0.1; have q5_9_1 : CellF w5 ⟨bs, 1, none⟩ (.int .i64 hi) := (by refine CellF.keep hb5 ?_; repeat (first | with_reducible exact q4_7_1 | with_reducible exact CellF.at_ (by simp) rfl | with_reducible refine CellF.past _ ?_ | with_reducible refine CellF.drew ?_ | with_reducible refine CellF.drewN _ ?_)); have c5_9_1 := q5_9_1.1; have q5_9_2 : CellF w5 ⟨bs, 2, none⟩ (.bool k) := (by refine CellF.keep hb5 ?_; repeat (first | with_reducible exact q4_7_2 | with_reducible exact CellF.at_ (by simp) rfl | with_reducible refine CellF.past _ ?_ | with_reducible refine CellF.drew ?_ | with_reducible refine CellF.drewN _ ?_)); have c5_9_2 := q5_9_2.1; have z5_9 : bs < w5.heap.size := ltc c5_9_0; have q5_10_0 : CellF w5 ⟨bt, 0, none⟩ (.int .i64 lo2) := (by refine CellF.keep hb5 ?_; repeat (first | with_reducible exact q4_8_0 | with_reducible exact CellF.at_ (by simp) rfl | with_reducible refine CellF.past _ ?_ | with_reducible refine CellF.drew ?_ | with_reducible refine CellF.drewN _ ?_)); have c5_10_0 := q5_10_0.1; have q5_10_1 : CellF w5 ⟨bt, 1, none⟩ (.int .i64 hi2) := (by refine CellF.keep hb5 ?_; repeat (first | with_reducible exact q4_8_1 | with_reducible exact CellF.at_ (by simp) rfl | with_reducible refine CellF.past _ ?_ | with_reducible refine CellF.drew ?_ | with_reducible refine CellF.drewN _ ?_)); have c5_10_1 := q5_10_1.1; have q5_10_2 : CellF w5 ⟨bt, 2, none⟩ (.bool k2) := (by refine CellF.keep hb5 ?_; repeat (first | with_reducible exact q4_8_2 | with_reducible exact CellF.at_ (by simp) rfl | with_reducible refine CellF.past _ ?_ | with_reducible refine CellF.drew ?_ | with_reducible refine CellF.drewN _ ?_)); have c5_10_2 := q5_10_2.1; have z5_10 : bt < w5.heap.size := ltc c5_10_0) | (go_at_call 19; ((with_reducible refine (Hull_is _ _ _ _ _ _ _ _ _ Y1 _).mono ?_)); rintro e w6 ⟨rfl, hb6⟩; have q6_11_0 : CellF w6 ⟨bs, 0, none⟩ (.int .i64 lo) := (by refine CellF.keep hb6 ?_; repeat (first | with_reducible exact q5_9_0 | with_reducible exact CellF.at_ (by simp) rfl | with_reducible refine CellF.past _ ?_ | with_reducible refine CellF.drew ?_ | with_reducible refine CellF.drewN _ ?_)); have c6_11_0 := q6_11_0.1; have q6_11_1 : CellF w6 ⟨bs, 1, none⟩ (.int .i64 hi) := (by refine CellF.keep hb6 ?_; repeat (first | with_reducible exact q5_9_1 | with_reducible exact CellF.at_ (by simp) rfl | with_reducible refine CellF.past _ ?_ | with_reducible refine CellF.drew ?_ | with_reducible refine CellF.drewN _ ?_)); have c6_11_1 := q6_11_1.1; have q6_11_2 : CellF w6 ⟨bs, 2, none⟩ (.bool k) := (by refine CellF.keep hb6 ?_; repeat (first | with_reducible exact q5_9_2 | with_reducible exact CellF.at_ (by simp) rfl | with_reducible refine CellF.past _ ?_ | with_reducible refine CellF.drew ?_ | with_reducible refine CellF.drewN _ ?_)); have c6_11_2 := q6_11_2.1; have z6_11 : bs < w6.heap.size := ltc c6_11_0; have q6_12_0 : CellF w6 ⟨bt, 0, none⟩ (.int .i64 lo2) := (by refine CellF.keep hb6 ?_; repeat (first | with_reducible exact q5_10_0 | with_reducible exact CellF.at_ (by simp) rfl | with_reducible refine CellF.past _ ?_ | with_reducible refine CellF.drew ?_ | with_reducible refine CellF.drewN _ ?_)); have c6_12_0 := q6_12_0.1; have q6_12_1 : CellF w6 ⟨bt, 1, none⟩ (.int .i64 hi2) := (by refine CellF.keep hb6 ?_; repeat (first | with_reducible exact q5_10_1 | with_reducible exact CellF.at_ (by simp) rfl | with_reducible refine CellF.past _ ?_ | with_reducible refine CellF.drew ?_ | with_reducible refine CellF.drewN _ ?_)); have c6_12_1 := q6_12_1.1; have q6_12_2 : CellF w6 ⟨bt, 2, none⟩ (.bool k2) := (by refine CellF.keep hb6 ?_; repeat (first | with_reducible exact q5_10_2 | with_reducible exact CellF.at_ (by simp) rfl | with_reducible refine CellF.past _ ?_ | with_reducible refine CellF.drew ?_ | with_reducible refine CellF.drewN _ ?_)); have c6_12_2 := q6_12_2.1; have z6_12 : bt < w6.heap.size := ltc c6_12_0) | (go_at_call 19; ((with_reducible refine (Hull_is _ _ _ _ _ _ _ _ _ Y2 _).mono ?_)); rintro e w7 ⟨rfl, hb7⟩; have q7_13_0 : CellF w7 ⟨bs, 0, none⟩ (.int .i64 lo) := (by refine CellF.keep hb7 ?_; repeat (first | with_reducible exact q6_11_0 | with_reducible exact CellF.at_ (by simp) rfl | with_reducible refine CellF.past _ ?_ | with_reducible refine CellF.drew ?_ | with_reducible refine CellF.drewN _ ?_)); have c7_13_0 := q7_13_0.1; have q7_13_1 : CellF w7 ⟨bs, 1, none⟩ (.int .i64 hi) := (by refine CellF.keep hb7 ?_; repeat (first | with_reducible exact q6_11_1 | with_reducible exact CellF.at_ (by simp) rfl | with_reducible refine CellF.past _ ?_ | with_reducible refine CellF.drew ?_ | with_reducible refine CellF.drewN _ ?_)); have c7_13_1 := q7_13_1.1; have q7_13_2 : CellF w7 ⟨bs, 2, none⟩ (.bool k) := (by refine CellF.keep hb7 ?_; repeat (first | with_reducible exact q6_11_2 | with_reducible exact CellF.at_ (by simp) rfl | with_reducible refine CellF.past _ ?_ | with_reducible refine CellF.drew ?_ | with_reducible refine CellF.drewN _ ?_)); have c7_13_2 := q7_13_2.1; have z7_13 : bs < w7.heap.size := ltc c7_13_0; have q7_14_0 : CellF w7 ⟨bt, 0, none⟩ (.int .i64 lo2) := (by refine CellF.keep hb7 ?_; repeat (first | with_reducible exact q6_12_0 | with_reducible exact CellF.at_ (by simp) rfl | with_reducible refine CellF.past _ ?_ | with_reducible refine CellF.drew ?_ | with_reducible refine CellF.drewN _ ?_)); have c7_14_0 := q7_14_0.1; have q7_14_1 : CellF w7 ⟨bt, 1, none⟩ (.int .i64 hi2) := (by refine CellF.keep hb7 ?_; repeat (first | with_reducible exact q6_12_1 | with_reducible exact CellF.at_ (by simp) rfl | with_reducible refine CellF.past _ ?_ | with_reducible refine CellF.drew ?_ | with_reducible refine CellF.drewN _ ?_)); have c7_14_1 := q7_14_1.1; have q7_14_2 : CellF w7 ⟨bt, 2, none⟩ (.bool k2) := (by refine CellF.keep hb7 ?_; repeat (first | with_reducible exact q6_12_2 | with_reducible exact CellF.at_ (by simp) rfl | with_reducible refine CellF.past _ ?_ | with_reducible refine CellF.drew ?_ | with_reducible refine CellF.drewN _ ?_)); have c7_14_2 := q7_14_2.1; have z7_14 : bt < w7.heap.size := ltc c7_14_0) | (go_at_call 12; ((with_reducible refine (same_yes h1 h2 h3 _).mono ?_)); rintro e w8 ⟨rfl, hb8⟩; have q8_15_0 : CellF w8 ⟨bs, 0, none⟩ (.int .i64 lo) := (by refine CellF.keep hb8 ?_; repeat (first | with_reducible exact q7_13_0 | with_reducible exact CellF.at_ (by simp) rfl | with_reducible refine CellF.past _ ?_ | with_reducible refine CellF.drew ?_ | with_reducible refine CellF.drewN _ ?_)); have c8_15_0 := q8_15_0.1; have q8_15_1 : CellF w8 ⟨bs, 1, none⟩ (.int .i64 hi) := (by refine CellF.keep hb8 ?_; repeat (first | with_reducible exact q7_13_1 | with_reducible exact CellF.at_ (by simp) rfl | with_reducible refine CellF.past _ ?_ | with_reducible refine CellF.drew ?_ | with_reducible refine CellF.drewN _ ?_)); have c8_15_1 := q8_15_1.1; have q8_15_2 : CellF w8 ⟨bs, 2, none⟩ (.bool k) := (by refine CellF.keep hb8 ?_; repeat (first | with_reducible exact q7_13_2 | with_reducible exact CellF.at_ (by simp) rfl | with_reducible refine CellF.past _ ?_ | with_reducible refine CellF.drew ?_ | with_reducible refine CellF.drewN _ ?_)); have c8_15_2 := q8_15_2.1; have z8_15 : bs < w8.heap.size := ltc c8_15_0; have q8_16_0 : CellF w8 ⟨bt, 0, none⟩ (.int .i64 lo2) := (by refine CellF.keep hb8 ?_; repeat (first | with_reducible exact q7_14_0 | with_reducible exact CellF.at_ (by simp) rfl | with_reducible refine CellF.past _ ?_ | with_reducible refine CellF.drew ?_ | with_reducible refine CellF.drewN _ ?_)); have c8_16_0 := q8_16_0.1; have q8_16_1 : CellF w8 ⟨bt, 1, none⟩ (.int .i64 hi2) := (by refine CellF.keep hb8 ?_; repeat (first | with_reducible exact q7_14_1 | with_reducible exact CellF.at_ (by simp) rfl | with_reducible refine CellF.past _ ?_ | with_reducible refine CellF.drew ?_ | with_reducible refine CellF.drewN _ ?_)); have c8_16_1 := q8_16_1.1; have q8_16_2 : CellF w8 ⟨bt, 2, none⟩ (.bool k2) := (by refine CellF.keep hb8 ?_; repeat (first | with_reducible exact q7_14_2 | with_reducible exact CellF.at_ (by simp) rfl | with_reducible refine CellF.past _ ?_ | with_reducible refine CellF.drew ?_ | with_reducible refine CellF.drewN _ ?_)); have c8_16_2 := q8_16_2.1; have z8_16 : bt < w8.heap.size := ltc c8_16_0))
          all_goals (go_wp2; go_ret; exact ⟨rfl, (by repeat (first | exact brefl _ | refine balloc ?_ _ | refine bdrewN ?_ _ | refine bset ?_ (by dsimp only; omega) _ | refine bstep ?_ (by assumption)))⟩)
end Go.Proofs.Ytldgcigdoncgdaa
