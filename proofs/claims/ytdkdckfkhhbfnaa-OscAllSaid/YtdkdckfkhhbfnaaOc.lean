/-
  The walk of package osc's Go.
-/
import Derived.Test.YtdkdckfkhhbfnaaOb
import Derived.Test.YtdkdckfkhhbfnaaInvb
import Derived.BigQuiet
import Derived.Deep.QuietTactic
import Derived.Deep.RegionHeld3
import Derived.Deep.Cut
import Derived.Deep.CutRange
import Derived.Deep.DeepCutAuto
namespace Go.Proofs.Ytdkdckfkhhbfnaa
open Go.RowKit

theorem late_is (t : Int) (w : World) : Calls Try.prog 21 #[.int .i64 t] w fun e w' => e = .returned (.bool (decide (2305843009213693952 < t))) ∧ Below w.heap.size w w' := by
  by_cases h : 2305843009213693952 < t
  · rw [decide_eq_true h]
    go_enter Try.func21, Try.ntmps21
    go_wp2
    go_ret
    exact ⟨rfl, (by repeat (first | exact brefl _ | refine balloc ?_ _ | refine bdrewN ?_ _ | refine bset ?_ (by dsimp only; omega) _ | refine bstep ?_ (by assumption)))⟩
  · rw [decide_eq_false h]
    go_enter Try.func21, Try.ntmps21
    go_wp2
    go_ret
    exact ⟨rfl, (by repeat (first | exact brefl _ | refine balloc ?_ _ | refine bdrewN ?_ _ | refine bset ?_ (by dsimp only; omega) _ | refine bstep ?_ (by assumption)))⟩

set_option maxRecDepth 100000 in
set_option maxHeartbeats 4000000 in
theorem Go_is (b : Nat) (l a bd p q l' a' r : Int) (hp : I64 p) (hq : I64 q) (hl0 : 0 ≤ l) (hl1 : l ≤ 2305843009213693952) (ha0 : 0 ≤ a) (ha1 : a ≤ 2305843009213693952) (H : Hid (goP l a bd p q = (l', a', r))) (w : World) (h : OscAt w b l a bd) :
    Calls Try.prog 16 #[.pointer (some ⟨b, 0, none⟩), .int .i64 p, .int .i64 q] w fun e w' => e = .returned (.int .i64 r) ∧ Only b w w' ∧ OscAt w' b l' a' bd := by
  have hx := H.out
  clear H
  obtain ⟨n, i, hg⟩ : ∃ n i, gainP p q = (n, i) := ⟨_, _, rfl⟩
  have HG := Lib.hid hg
  have hnb := gain_bd hg
  obtain ⟨s, hs⟩ : ∃ s, absP q = s := ⟨_, rfl⟩
  have HS := Lib.hid hs
  obtain ⟨c, hc⟩ : ∃ c, (decide (i = false) || (decide (bd < s) || decide (2305843009213693952 < p))) = c := ⟨_, rfl⟩
  have HC := Lib.hid hc
  have qB_0 := h.1
  have qB_1 := h.2.1
  have qB_2 := h.2.2
  have cB_0 := qB_0.1
  have cB_1 := qB_1.1
  have cB_2 := qB_2.1
  have hbw := h.lt
  have zB := h.lt
  have HX := Lib.hid hx
  clear hx hg hs hc
  have HQ : Hid (I64 p ∧ I64 q) := Lib.hid ⟨hp, hq⟩
  go_enter Try.func16, Try.ntmps16
  go_wp2_with fail
  refine (Gain_is _ _ _ _ hp hq HG _).mono ?_
  rintro e w1 ⟨rfl, hb1⟩
  have q1_1_0 : CellF w1 ⟨b, 0, none⟩ (.int .i64 l) := (by refine CellF.keep hb1 ?_; repeat (first | with_reducible exact qB_0 | with_reducible exact CellF.at_ (by simp) rfl | with_reducible refine CellF.past _ ?_ | with_reducible refine CellF.drew ?_ | with_reducible refine CellF.drewN _ ?_))
  have c1_1_0 := q1_1_0.1
  have q1_1_1 : CellF w1 ⟨b, 1, none⟩ (.int .i64 a) := (by refine CellF.keep hb1 ?_; repeat (first | with_reducible exact qB_1 | with_reducible exact CellF.at_ (by simp) rfl | with_reducible refine CellF.past _ ?_ | with_reducible refine CellF.drew ?_ | with_reducible refine CellF.drewN _ ?_))
  have c1_1_1 := q1_1_1.1
  have q1_1_2 : CellF w1 ⟨b, 2, none⟩ (.int .i64 bd) := (by refine CellF.keep hb1 ?_; repeat (first | with_reducible exact qB_2 | with_reducible exact CellF.at_ (by simp) rfl | with_reducible refine CellF.past _ ?_ | with_reducible refine CellF.drew ?_ | with_reducible refine CellF.drewN _ ?_))
  have c1_1_2 := q1_1_2.1
  have z1_1 : b < w1.heap.size := ltc c1_1_0
  clear qB_0 cB_0 qB_1 cB_1 qB_2 cB_2 zB
  unfold I64 at hp hq
  go_upto_region 2 with (fail)
  go_cut [31] (fun v31 wc => v31 = .bool c ∧ Hid (Below w.heap.size w wc) ∧ Hid (OscAt wc b l a bd))
  case first =>
    cases i with
    | false =>
      obtain rfl : true = c := HC.out
      go_wp2_with fail
      go_quiet (fail)
      all_goals (go_wp2_with fail; go_meet; exact ⟨rfl, Lib.hid (by repeat (first | exact brefl _ | refine balloc ?_ _ | refine bdrewN ?_ _ | refine bset ?_ (by dsimp only; omega) _ | refine bstep ?_ (by assumption))), Lib.hid (by refine ⟨?_, ?_, ?_⟩ <;> (repeat (first | with_reducible exact q1_1_0 | with_reducible exact q1_1_1 | with_reducible exact q1_1_2 | with_reducible refine CellF.past _ ?_ | with_reducible refine CellF.drew ?_ | with_reducible refine CellF.drewN _ ?_)))⟩)
    | true =>
      by_cases h1 : bd < s
      ·
        obtain rfl : true = c := by rw [← HC.out, decide_eq_true h1]; rfl
        have k1 := decide_eq_true h1
        go_wp2_with fail
        refine wp_region_inv (by kernel_rfl) (fun ls ac w' => ∃ v17 v18 v19 v20 v21 v22 v23 v24 v25 v26 v27 v28 v29 v30 v31, ac = ⟨#[.pointer (some ⟨b, 0, none⟩), .int .i64 p, .int .i64 q, undef, undef, undef, .int .i64 0, .int .i64 n, .bool true, undef, undef, .tuple #[.int .i64 n, .bool true], .int .i64 p, .int .i64 q, .tuple #[.int .i64 n, .bool true], .int .i64 n, .bool true, v17, v18, v19, v20, v21, v22, v23, v24, v25, v26, v27, v28, v29, v30, v31, undef, undef, undef, undef, undef, undef, undef, undef, undef, undef, undef, undef, undef, undef, undef, undef, undef, undef, undef, undef, undef, undef, undef, undef, undef, undef, undef, undef, undef, undef, undef], []⟩ ∧ ls.size = 15 ∧ Below w1.heap.size w1 w' ∧ (ls.getD 0 false = true → v17 = .bool true) ∧ (ls.getD 1 false = true → v18 = .bool false) ∧ (ls.getD 2 false = true → v19 = .bool false) ∧ (ls.getD 3 false = true → v20 = .int .i64 q) ∧ (ls.getD 4 false = true → v21 = .int .i64 s) ∧ (ls.getD 5 false = true → v22 = .pointer (some ⟨b, 0, none⟩)) ∧ (ls.getD 6 false = true → v23 = .pointer (some ⟨b, 0, none⟩)) ∧ (ls.getD 7 false = true → v24 = .pointer (some ⟨b, 2, none⟩)) ∧ (ls.getD 8 false = true → v25 = .int .i64 bd) ∧ (ls.getD 9 false = true → v26 = .bool true) ∧ (ls.getD 10 false = true → v27 = .bool true) ∧ (ls.getD 11 false = true → v28 = .bool true) ∧ (ls.getD 12 false = true → v29 = undef) ∧ (ls.getD 13 false = true → v30 = undef) ∧ (ls.getD 14 false = true → v31 = .bool true)) ?_ ?_ ?_
        · exact ⟨_, _, _, _, _, _, _, _, _, _, _, _, _, _, _, rfl, rfl, bdrew (brefl _), fun h => (by cases h), fun h => (by cases h), fun h => (by cases h), fun h => (by cases h), fun h => (by cases h), fun h => (by cases h), fun h => (by cases h), fun h => (by cases h), fun h => (by cases h), fun h => (by cases h), fun h => (by cases h), fun h => (by cases h), fun h => (by cases h), fun h => (by cases h), fun h => (by cases h)⟩
        · intro i hii
          have hin : i < 15 := hii
          have hor : i = 0 ∨ i = 1 ∨ i = 2 ∨ i = 3 ∨ i = 4 ∨ i = 5 ∨ i = 6 ∨ i = 7 ∨ i = 8 ∨ i = 9 ∨ i = 10 ∨ i = 11 ∨ i = 12 ∨ i = 13 ∨ i = 14 := by omega
          rcases hor with rfl | rfl | rfl | rfl | rfl | rfl | rfl | rfl | rfl | rfl | rfl | rfl | rfl | rfl | rfl
          · rintro ls ac w' hr ⟨v17, v18, v19, v20, v21, v22, v23, v24, v25, v26, v27, v28, v29, v30, v31, rfl, hl, hB, g0, g1, g2, g3, g4, g5, g6, g7, g8, g9, g10, g11, g12, g13, g14⟩
            refine wpOp_step rfl (fun K hK => ?_)
            clear hr
            go_simp
            refine hK _ _ ?_
            simp only [getD_own (l := ls) (i := 0) (by omega), getD_set ls (i := 0) (j := 1) (by decide), getD_set ls (i := 0) (j := 2) (by decide), getD_set ls (i := 0) (j := 3) (by decide), getD_set ls (i := 0) (j := 4) (by decide), getD_set ls (i := 0) (j := 5) (by decide), getD_set ls (i := 0) (j := 6) (by decide), getD_set ls (i := 0) (j := 7) (by decide), getD_set ls (i := 0) (j := 8) (by decide), getD_set ls (i := 0) (j := 9) (by decide), getD_set ls (i := 0) (j := 10) (by decide), getD_set ls (i := 0) (j := 11) (by decide), getD_set ls (i := 0) (j := 12) (by decide), getD_set ls (i := 0) (j := 13) (by decide), getD_set ls (i := 0) (j := 14) (by decide)]
            exact ⟨_, v18, v19, v20, v21, v22, v23, v24, v25, v26, v27, v28, v29, v30, v31, rfl, by simp [hl], hB, fun _ => rfl, g1, g2, g3, g4, g5, g6, g7, g8, g9, g10, g11, g12, g13, g14⟩
          · rintro ls ac w' hr ⟨v17, v18, v19, v20, v21, v22, v23, v24, v25, v26, v27, v28, v29, v30, v31, rfl, hl, hB, g0, g1, g2, g3, g4, g5, g6, g7, g8, g9, g10, g11, g12, g13, g14⟩
            have d0 : ls.getD 0 false = true := (ready_dep hr rfl).2 ⟨0, .data⟩ (by simp) rfl
            obtain rfl := g0 d0
            refine wpOp_step rfl (fun K hK => ?_)
            clear hr
            go_simp
            refine hK _ _ ?_
            simp only [getD_own (l := ls) (i := 1) (by omega), getD_set ls (i := 1) (j := 0) (by decide), getD_set ls (i := 1) (j := 2) (by decide), getD_set ls (i := 1) (j := 3) (by decide), getD_set ls (i := 1) (j := 4) (by decide), getD_set ls (i := 1) (j := 5) (by decide), getD_set ls (i := 1) (j := 6) (by decide), getD_set ls (i := 1) (j := 7) (by decide), getD_set ls (i := 1) (j := 8) (by decide), getD_set ls (i := 1) (j := 9) (by decide), getD_set ls (i := 1) (j := 10) (by decide), getD_set ls (i := 1) (j := 11) (by decide), getD_set ls (i := 1) (j := 12) (by decide), getD_set ls (i := 1) (j := 13) (by decide), getD_set ls (i := 1) (j := 14) (by decide)]
            exact ⟨_, _, v19, v20, v21, v22, v23, v24, v25, v26, v27, v28, v29, v30, v31, rfl, by simp [hl], hB, fun _ => rfl, fun _ => rfl, g2, g3, g4, g5, g6, g7, g8, g9, g10, g11, g12, g13, g14⟩
          · rintro ls ac w' hr ⟨v17, v18, v19, v20, v21, v22, v23, v24, v25, v26, v27, v28, v29, v30, v31, rfl, hl, hB, g0, g1, g2, g3, g4, g5, g6, g7, g8, g9, g10, g11, g12, g13, g14⟩
            have d1 : ls.getD 1 false = true := (ready_dep hr rfl).2 ⟨1, .data⟩ (by simp) rfl
            obtain rfl := g1 d1
            refine wpOp_step rfl (fun K hK => ?_)
            clear hr
            go_simp
            refine hK _ _ ?_
            simp only [getD_own (l := ls) (i := 2) (by omega), getD_set ls (i := 2) (j := 0) (by decide), getD_set ls (i := 2) (j := 1) (by decide), getD_set ls (i := 2) (j := 3) (by decide), getD_set ls (i := 2) (j := 4) (by decide), getD_set ls (i := 2) (j := 5) (by decide), getD_set ls (i := 2) (j := 6) (by decide), getD_set ls (i := 2) (j := 7) (by decide), getD_set ls (i := 2) (j := 8) (by decide), getD_set ls (i := 2) (j := 9) (by decide), getD_set ls (i := 2) (j := 10) (by decide), getD_set ls (i := 2) (j := 11) (by decide), getD_set ls (i := 2) (j := 12) (by decide), getD_set ls (i := 2) (j := 13) (by decide), getD_set ls (i := 2) (j := 14) (by decide)]
            exact ⟨v17, _, _, v20, v21, v22, v23, v24, v25, v26, v27, v28, v29, v30, v31, rfl, by simp [hl], hB, g0, fun _ => rfl, fun _ => rfl, g3, g4, g5, g6, g7, g8, g9, g10, g11, g12, g13, g14⟩
          · rintro ls ac w' hr ⟨v17, v18, v19, v20, v21, v22, v23, v24, v25, v26, v27, v28, v29, v30, v31, rfl, hl, hB, g0, g1, g2, g3, g4, g5, g6, g7, g8, g9, g10, g11, g12, g13, g14⟩
            have d2 : ls.getD 2 false = true := (ready_dep hr rfl).2 ⟨2, .guard⟩ (by simp) rfl
            obtain rfl := g2 d2
            refine wpOp_step rfl (fun K hK => ?_)
            clear hr
            go_simp
            refine hK _ _ ?_
            simp only [getD_own (l := ls) (i := 3) (by omega), getD_set ls (i := 3) (j := 0) (by decide), getD_set ls (i := 3) (j := 1) (by decide), getD_set ls (i := 3) (j := 2) (by decide), getD_set ls (i := 3) (j := 4) (by decide), getD_set ls (i := 3) (j := 5) (by decide), getD_set ls (i := 3) (j := 6) (by decide), getD_set ls (i := 3) (j := 7) (by decide), getD_set ls (i := 3) (j := 8) (by decide), getD_set ls (i := 3) (j := 9) (by decide), getD_set ls (i := 3) (j := 10) (by decide), getD_set ls (i := 3) (j := 11) (by decide), getD_set ls (i := 3) (j := 12) (by decide), getD_set ls (i := 3) (j := 13) (by decide), getD_set ls (i := 3) (j := 14) (by decide)]
            exact ⟨v17, v18, _, _, v21, v22, v23, v24, v25, v26, v27, v28, v29, v30, v31, rfl, by simp [hl], hB, g0, g1, fun _ => rfl, fun _ => rfl, g4, g5, g6, g7, g8, g9, g10, g11, g12, g13, g14⟩
          · rintro ls ac w' hr ⟨v17, v18, v19, v20, v21, v22, v23, v24, v25, v26, v27, v28, v29, v30, v31, rfl, hl, hB, g0, g1, g2, g3, g4, g5, g6, g7, g8, g9, g10, g11, g12, g13, g14⟩
            have d3 : ls.getD 3 false = true := (ready_dep hr rfl).2 ⟨3, .data⟩ (by simp) rfl
            have d2 : ls.getD 2 false = true := (ready_dep hr rfl).2 ⟨2, .guard⟩ (by simp) rfl
            obtain rfl := g3 d3
            obtain rfl := g2 d2
            refine wpOp_step rfl (fun K hK => ?_)
            clear hr
            go_simp
            refine (Abs_is _ _ HS _).mono ?_
            rintro e w1 ⟨rfl, hk⟩
            dsimp only
            refine hK _ _ ?_
            simp only [getD_own (l := ls) (i := 4) (by omega), getD_set ls (i := 4) (j := 0) (by decide), getD_set ls (i := 4) (j := 1) (by decide), getD_set ls (i := 4) (j := 2) (by decide), getD_set ls (i := 4) (j := 3) (by decide), getD_set ls (i := 4) (j := 5) (by decide), getD_set ls (i := 4) (j := 6) (by decide), getD_set ls (i := 4) (j := 7) (by decide), getD_set ls (i := 4) (j := 8) (by decide), getD_set ls (i := 4) (j := 9) (by decide), getD_set ls (i := 4) (j := 10) (by decide), getD_set ls (i := 4) (j := 11) (by decide), getD_set ls (i := 4) (j := 12) (by decide), getD_set ls (i := 4) (j := 13) (by decide), getD_set ls (i := 4) (j := 14) (by decide)]
            exact ⟨v17, v18, _, _, _, v22, v23, v24, v25, v26, v27, v28, v29, v30, v31, rfl, by simp [hl], bstep hB hk, g0, g1, fun _ => rfl, fun _ => rfl, fun _ => rfl, g5, g6, g7, g8, g9, g10, g11, g12, g13, g14⟩
          · rintro ls ac w' hr ⟨v17, v18, v19, v20, v21, v22, v23, v24, v25, v26, v27, v28, v29, v30, v31, rfl, hl, hB, g0, g1, g2, g3, g4, g5, g6, g7, g8, g9, g10, g11, g12, g13, g14⟩
            have d2 : ls.getD 2 false = true := (ready_dep hr rfl).2 ⟨2, .guard⟩ (by simp) rfl
            obtain rfl := g2 d2
            refine wpOp_step rfl (fun K hK => ?_)
            clear hr
            go_simp
            refine hK _ _ ?_
            simp only [getD_own (l := ls) (i := 5) (by omega), getD_set ls (i := 5) (j := 0) (by decide), getD_set ls (i := 5) (j := 1) (by decide), getD_set ls (i := 5) (j := 2) (by decide), getD_set ls (i := 5) (j := 3) (by decide), getD_set ls (i := 5) (j := 4) (by decide), getD_set ls (i := 5) (j := 6) (by decide), getD_set ls (i := 5) (j := 7) (by decide), getD_set ls (i := 5) (j := 8) (by decide), getD_set ls (i := 5) (j := 9) (by decide), getD_set ls (i := 5) (j := 10) (by decide), getD_set ls (i := 5) (j := 11) (by decide), getD_set ls (i := 5) (j := 12) (by decide), getD_set ls (i := 5) (j := 13) (by decide), getD_set ls (i := 5) (j := 14) (by decide)]
            exact ⟨v17, v18, _, v20, v21, _, v23, v24, v25, v26, v27, v28, v29, v30, v31, rfl, by simp [hl], hB, g0, g1, fun _ => rfl, g3, g4, fun _ => rfl, g6, g7, g8, g9, g10, g11, g12, g13, g14⟩
          · rintro ls ac w' hr ⟨v17, v18, v19, v20, v21, v22, v23, v24, v25, v26, v27, v28, v29, v30, v31, rfl, hl, hB, g0, g1, g2, g3, g4, g5, g6, g7, g8, g9, g10, g11, g12, g13, g14⟩
            have d5 : ls.getD 5 false = true := (ready_dep hr rfl).2 ⟨5, .data⟩ (by simp) rfl
            have d2 : ls.getD 2 false = true := (ready_dep hr rfl).2 ⟨2, .guard⟩ (by simp) rfl
            obtain rfl := g5 d5
            obtain rfl := g2 d2
            refine wpOp_step rfl (fun K hK => ?_)
            clear hr
            go_simp
            refine hK _ _ ?_
            simp only [getD_own (l := ls) (i := 6) (by omega), getD_set ls (i := 6) (j := 0) (by decide), getD_set ls (i := 6) (j := 1) (by decide), getD_set ls (i := 6) (j := 2) (by decide), getD_set ls (i := 6) (j := 3) (by decide), getD_set ls (i := 6) (j := 4) (by decide), getD_set ls (i := 6) (j := 5) (by decide), getD_set ls (i := 6) (j := 7) (by decide), getD_set ls (i := 6) (j := 8) (by decide), getD_set ls (i := 6) (j := 9) (by decide), getD_set ls (i := 6) (j := 10) (by decide), getD_set ls (i := 6) (j := 11) (by decide), getD_set ls (i := 6) (j := 12) (by decide), getD_set ls (i := 6) (j := 13) (by decide), getD_set ls (i := 6) (j := 14) (by decide)]
            exact ⟨v17, v18, _, v20, v21, _, _, v24, v25, v26, v27, v28, v29, v30, v31, rfl, by simp [hl], hB, g0, g1, fun _ => rfl, g3, g4, fun _ => rfl, fun _ => rfl, g7, g8, g9, g10, g11, g12, g13, g14⟩
          · rintro ls ac w' hr ⟨v17, v18, v19, v20, v21, v22, v23, v24, v25, v26, v27, v28, v29, v30, v31, rfl, hl, hB, g0, g1, g2, g3, g4, g5, g6, g7, g8, g9, g10, g11, g12, g13, g14⟩
            have d6 : ls.getD 6 false = true := (ready_dep hr rfl).2 ⟨6, .data⟩ (by simp) rfl
            have d2 : ls.getD 2 false = true := (ready_dep hr rfl).2 ⟨2, .guard⟩ (by simp) rfl
            obtain rfl := g6 d6
            obtain rfl := g2 d2
            refine wpOp_step rfl (fun K hK => ?_)
            clear hr
            go_simp
            refine hK _ _ ?_
            simp only [getD_own (l := ls) (i := 7) (by omega), getD_set ls (i := 7) (j := 0) (by decide), getD_set ls (i := 7) (j := 1) (by decide), getD_set ls (i := 7) (j := 2) (by decide), getD_set ls (i := 7) (j := 3) (by decide), getD_set ls (i := 7) (j := 4) (by decide), getD_set ls (i := 7) (j := 5) (by decide), getD_set ls (i := 7) (j := 6) (by decide), getD_set ls (i := 7) (j := 8) (by decide), getD_set ls (i := 7) (j := 9) (by decide), getD_set ls (i := 7) (j := 10) (by decide), getD_set ls (i := 7) (j := 11) (by decide), getD_set ls (i := 7) (j := 12) (by decide), getD_set ls (i := 7) (j := 13) (by decide), getD_set ls (i := 7) (j := 14) (by decide)]
            exact ⟨v17, v18, _, v20, v21, v22, _, _, v25, v26, v27, v28, v29, v30, v31, rfl, by simp [hl], hB, g0, g1, fun _ => rfl, g3, g4, g5, fun _ => rfl, fun _ => rfl, g8, g9, g10, g11, g12, g13, g14⟩
          · rintro ls ac w' hr ⟨v17, v18, v19, v20, v21, v22, v23, v24, v25, v26, v27, v28, v29, v30, v31, rfl, hl, hB, g0, g1, g2, g3, g4, g5, g6, g7, g8, g9, g10, g11, g12, g13, g14⟩
            have d7 : ls.getD 7 false = true := (ready_dep hr rfl).2 ⟨7, .data⟩ (by simp) rfl
            have d2 : ls.getD 2 false = true := (ready_dep hr rfl).2 ⟨2, .guard⟩ (by simp) rfl
            obtain rfl := g7 d7
            obtain rfl := g2 d2
            have a0 := (hB.cell (ltc c1_1_0)).trans c1_1_0
            have a1 := (hB.cell (ltc c1_1_1)).trans c1_1_1
            have a2 := (hB.cell (ltc c1_1_2)).trans c1_1_2
            refine wpOp_step rfl (fun K hK => ?_)
            clear hr
            go_simp
            refine hK _ _ ?_
            simp only [getD_own (l := ls) (i := 8) (by omega), getD_set ls (i := 8) (j := 0) (by decide), getD_set ls (i := 8) (j := 1) (by decide), getD_set ls (i := 8) (j := 2) (by decide), getD_set ls (i := 8) (j := 3) (by decide), getD_set ls (i := 8) (j := 4) (by decide), getD_set ls (i := 8) (j := 5) (by decide), getD_set ls (i := 8) (j := 6) (by decide), getD_set ls (i := 8) (j := 7) (by decide), getD_set ls (i := 8) (j := 9) (by decide), getD_set ls (i := 8) (j := 10) (by decide), getD_set ls (i := 8) (j := 11) (by decide), getD_set ls (i := 8) (j := 12) (by decide), getD_set ls (i := 8) (j := 13) (by decide), getD_set ls (i := 8) (j := 14) (by decide)]
            exact ⟨v17, v18, _, v20, v21, v22, v23, _, _, v26, v27, v28, v29, v30, v31, rfl, by simp [hl], hB, g0, g1, fun _ => rfl, g3, g4, g5, g6, fun _ => rfl, fun _ => rfl, g9, g10, g11, g12, g13, g14⟩
          · rintro ls ac w' hr ⟨v17, v18, v19, v20, v21, v22, v23, v24, v25, v26, v27, v28, v29, v30, v31, rfl, hl, hB, g0, g1, g2, g3, g4, g5, g6, g7, g8, g9, g10, g11, g12, g13, g14⟩
            have d4 : ls.getD 4 false = true := (ready_dep hr rfl).2 ⟨4, .data⟩ (by simp) rfl
            have d8 : ls.getD 8 false = true := (ready_dep hr rfl).2 ⟨8, .data⟩ (by simp) rfl
            have d2 : ls.getD 2 false = true := (ready_dep hr rfl).2 ⟨2, .guard⟩ (by simp) rfl
            obtain rfl := g4 d4
            obtain rfl := g8 d8
            obtain rfl := g2 d2
            refine wpOp_step rfl (fun K hK => ?_)
            clear hr
            go_simp
            refine hK _ _ ?_
            simp only [getD_own (l := ls) (i := 9) (by omega), getD_set ls (i := 9) (j := 0) (by decide), getD_set ls (i := 9) (j := 1) (by decide), getD_set ls (i := 9) (j := 2) (by decide), getD_set ls (i := 9) (j := 3) (by decide), getD_set ls (i := 9) (j := 4) (by decide), getD_set ls (i := 9) (j := 5) (by decide), getD_set ls (i := 9) (j := 6) (by decide), getD_set ls (i := 9) (j := 7) (by decide), getD_set ls (i := 9) (j := 8) (by decide), getD_set ls (i := 9) (j := 10) (by decide), getD_set ls (i := 9) (j := 11) (by decide), getD_set ls (i := 9) (j := 12) (by decide), getD_set ls (i := 9) (j := 13) (by decide), getD_set ls (i := 9) (j := 14) (by decide)]
            exact ⟨v17, v18, _, v20, _, v22, v23, v24, _, _, v27, v28, v29, v30, v31, rfl, by simp [hl], hB, g0, g1, fun _ => rfl, g3, fun _ => rfl, g5, g6, g7, fun _ => rfl, fun _ => rfl, g10, g11, g12, g13, g14⟩
          · rintro ls ac w' hr ⟨v17, v18, v19, v20, v21, v22, v23, v24, v25, v26, v27, v28, v29, v30, v31, rfl, hl, hB, g0, g1, g2, g3, g4, g5, g6, g7, g8, g9, g10, g11, g12, g13, g14⟩
            have d2 : ls.getD 2 false = true := (ready_dep hr rfl).2 ⟨2, .data⟩ (by simp) rfl
            have d9 : ls.getD 9 false = true := (ready_dep hr rfl).2 ⟨9, .data⟩ (by simp) rfl
            obtain rfl := g2 d2
            obtain rfl := g9 d9
            refine wpOp_step rfl (fun K hK => ?_)
            clear hr
            go_simp
            refine hK _ _ ?_
            simp only [getD_own (l := ls) (i := 10) (by omega), getD_set ls (i := 10) (j := 0) (by decide), getD_set ls (i := 10) (j := 1) (by decide), getD_set ls (i := 10) (j := 2) (by decide), getD_set ls (i := 10) (j := 3) (by decide), getD_set ls (i := 10) (j := 4) (by decide), getD_set ls (i := 10) (j := 5) (by decide), getD_set ls (i := 10) (j := 6) (by decide), getD_set ls (i := 10) (j := 7) (by decide), getD_set ls (i := 10) (j := 8) (by decide), getD_set ls (i := 10) (j := 9) (by decide), getD_set ls (i := 10) (j := 11) (by decide), getD_set ls (i := 10) (j := 12) (by decide), getD_set ls (i := 10) (j := 13) (by decide), getD_set ls (i := 10) (j := 14) (by decide)]
            exact ⟨v17, v18, _, v20, v21, v22, v23, v24, v25, _, _, v28, v29, v30, v31, rfl, by simp [hl], hB, g0, g1, fun _ => rfl, g3, g4, g5, g6, g7, g8, fun _ => rfl, fun _ => rfl, g11, g12, g13, g14⟩
          · rintro ls ac w' hr ⟨v17, v18, v19, v20, v21, v22, v23, v24, v25, v26, v27, v28, v29, v30, v31, rfl, hl, hB, g0, g1, g2, g3, g4, g5, g6, g7, g8, g9, g10, g11, g12, g13, g14⟩
            have d10 : ls.getD 10 false = true := (ready_dep hr rfl).2 ⟨10, .data⟩ (by simp) rfl
            obtain rfl := g10 d10
            refine wpOp_step rfl (fun K hK => ?_)
            clear hr
            go_simp
            refine hK _ _ ?_
            simp only [getD_own (l := ls) (i := 11) (by omega), getD_set ls (i := 11) (j := 0) (by decide), getD_set ls (i := 11) (j := 1) (by decide), getD_set ls (i := 11) (j := 2) (by decide), getD_set ls (i := 11) (j := 3) (by decide), getD_set ls (i := 11) (j := 4) (by decide), getD_set ls (i := 11) (j := 5) (by decide), getD_set ls (i := 11) (j := 6) (by decide), getD_set ls (i := 11) (j := 7) (by decide), getD_set ls (i := 11) (j := 8) (by decide), getD_set ls (i := 11) (j := 9) (by decide), getD_set ls (i := 11) (j := 10) (by decide), getD_set ls (i := 11) (j := 12) (by decide), getD_set ls (i := 11) (j := 13) (by decide), getD_set ls (i := 11) (j := 14) (by decide)]
            exact ⟨v17, v18, v19, v20, v21, v22, v23, v24, v25, v26, _, _, v29, v30, v31, rfl, by simp [hl], hB, g0, g1, g2, g3, g4, g5, g6, g7, g8, g9, fun _ => rfl, fun _ => rfl, g12, g13, g14⟩
          · rintro ls ac w' hr ⟨v17, v18, v19, v20, v21, v22, v23, v24, v25, v26, v27, v28, v29, v30, v31, rfl, hl, hB, g0, g1, g2, g3, g4, g5, g6, g7, g8, g9, g10, g11, g12, g13, g14⟩
            have d11 : ls.getD 11 false = true := (ready_dep hr rfl).2 ⟨11, .guard⟩ (by simp) rfl
            obtain rfl := g11 d11
            refine wpOp_step rfl (fun K hK => ?_)
            clear hr
            go_simp
            refine hK _ _ ?_
            simp only [getD_own (l := ls) (i := 12) (by omega), getD_set ls (i := 12) (j := 0) (by decide), getD_set ls (i := 12) (j := 1) (by decide), getD_set ls (i := 12) (j := 2) (by decide), getD_set ls (i := 12) (j := 3) (by decide), getD_set ls (i := 12) (j := 4) (by decide), getD_set ls (i := 12) (j := 5) (by decide), getD_set ls (i := 12) (j := 6) (by decide), getD_set ls (i := 12) (j := 7) (by decide), getD_set ls (i := 12) (j := 8) (by decide), getD_set ls (i := 12) (j := 9) (by decide), getD_set ls (i := 12) (j := 10) (by decide), getD_set ls (i := 12) (j := 11) (by decide), getD_set ls (i := 12) (j := 13) (by decide), getD_set ls (i := 12) (j := 14) (by decide)]
            exact ⟨v17, v18, v19, v20, v21, v22, v23, v24, v25, v26, v27, _, _, v30, v31, rfl, by simp [hl], hB, g0, g1, g2, g3, g4, g5, g6, g7, g8, g9, g10, fun _ => rfl, fun _ => rfl, g13, g14⟩
          · rintro ls ac w' hr ⟨v17, v18, v19, v20, v21, v22, v23, v24, v25, v26, v27, v28, v29, v30, v31, rfl, hl, hB, g0, g1, g2, g3, g4, g5, g6, g7, g8, g9, g10, g11, g12, g13, g14⟩
            have d12 : ls.getD 12 false = true := (ready_dep hr rfl).2 ⟨12, .data⟩ (by simp) rfl
            have d11 : ls.getD 11 false = true := (ready_dep hr rfl).2 ⟨11, .guard⟩ (by simp) rfl
            obtain rfl := g12 d12
            obtain rfl := g11 d11
            refine wpOp_step rfl (fun K hK => ?_)
            clear hr
            go_simp
            refine hK _ _ ?_
            simp only [getD_own (l := ls) (i := 13) (by omega), getD_set ls (i := 13) (j := 0) (by decide), getD_set ls (i := 13) (j := 1) (by decide), getD_set ls (i := 13) (j := 2) (by decide), getD_set ls (i := 13) (j := 3) (by decide), getD_set ls (i := 13) (j := 4) (by decide), getD_set ls (i := 13) (j := 5) (by decide), getD_set ls (i := 13) (j := 6) (by decide), getD_set ls (i := 13) (j := 7) (by decide), getD_set ls (i := 13) (j := 8) (by decide), getD_set ls (i := 13) (j := 9) (by decide), getD_set ls (i := 13) (j := 10) (by decide), getD_set ls (i := 13) (j := 11) (by decide), getD_set ls (i := 13) (j := 12) (by decide), getD_set ls (i := 13) (j := 14) (by decide)]
            exact ⟨v17, v18, v19, v20, v21, v22, v23, v24, v25, v26, v27, _, _, _, v31, rfl, by simp [hl], hB, g0, g1, g2, g3, g4, g5, g6, g7, g8, g9, g10, fun _ => rfl, fun _ => rfl, fun _ => rfl, g14⟩
          · rintro ls ac w' hr ⟨v17, v18, v19, v20, v21, v22, v23, v24, v25, v26, v27, v28, v29, v30, v31, rfl, hl, hB, g0, g1, g2, g3, g4, g5, g6, g7, g8, g9, g10, g11, g12, g13, g14⟩
            have d11 : ls.getD 11 false = true := (ready_dep hr rfl).2 ⟨11, .data⟩ (by simp) rfl
            have d13 : ls.getD 13 false = true := (ready_dep hr rfl).2 ⟨13, .data⟩ (by simp) rfl
            obtain rfl := g11 d11
            obtain rfl := g13 d13
            refine wpOp_step rfl (fun K hK => ?_)
            clear hr
            go_simp
            refine hK _ _ ?_
            simp only [getD_own (l := ls) (i := 14) (by omega), getD_set ls (i := 14) (j := 0) (by decide), getD_set ls (i := 14) (j := 1) (by decide), getD_set ls (i := 14) (j := 2) (by decide), getD_set ls (i := 14) (j := 3) (by decide), getD_set ls (i := 14) (j := 4) (by decide), getD_set ls (i := 14) (j := 5) (by decide), getD_set ls (i := 14) (j := 6) (by decide), getD_set ls (i := 14) (j := 7) (by decide), getD_set ls (i := 14) (j := 8) (by decide), getD_set ls (i := 14) (j := 9) (by decide), getD_set ls (i := 14) (j := 10) (by decide), getD_set ls (i := 14) (j := 11) (by decide), getD_set ls (i := 14) (j := 12) (by decide), getD_set ls (i := 14) (j := 13) (by decide)]
            exact ⟨v17, v18, v19, v20, v21, v22, v23, v24, v25, v26, v27, _, v29, _, _, rfl, by simp [hl], hB, g0, g1, g2, g3, g4, g5, g6, g7, g8, g9, g10, fun _ => rfl, g12, fun _ => rfl, fun _ => rfl⟩
        · rintro ls ac w' ⟨v17, v18, v19, v20, v21, v22, v23, v24, v25, v26, v27, v28, v29, v30, v31, rfl, hl, hB, g0, g1, g2, g3, g4, g5, g6, g7, g8, g9, g10, g11, g12, g13, g14⟩ hr
          have hall := ready_allb (by decide) hl hr
          obtain rfl := g14 (hall 14 (by decide))
          go_wp2_with fail
          go_meet
          exact ⟨rfl, Lib.hid (bstep (bstep (brefl _) hb1) hB), Lib.hid ⟨q1_1_0.keep hB, q1_1_1.keep hB, q1_1_2.keep hB⟩⟩
      ·
        by_cases h2 : 2305843009213693952 < p
        ·
          obtain rfl : true = c := by rw [← HC.out, decide_eq_true h2, Bool.or_true, Bool.or_true]
          have k1 := decide_eq_false h1
          have k2 := decide_eq_true h2
          go_wp2_with fail
          refine wp_region_inv (by kernel_rfl) (fun ls ac w' => ∃ v17 v18 v19 v20 v21 v22 v23 v24 v25 v26 v27 v28 v29 v30 v31, ac = ⟨#[.pointer (some ⟨b, 0, none⟩), .int .i64 p, .int .i64 q, undef, undef, undef, .int .i64 0, .int .i64 n, .bool true, undef, undef, .tuple #[.int .i64 n, .bool true], .int .i64 p, .int .i64 q, .tuple #[.int .i64 n, .bool true], .int .i64 n, .bool true, v17, v18, v19, v20, v21, v22, v23, v24, v25, v26, v27, v28, v29, v30, v31, undef, undef, undef, undef, undef, undef, undef, undef, undef, undef, undef, undef, undef, undef, undef, undef, undef, undef, undef, undef, undef, undef, undef, undef, undef, undef, undef, undef, undef, undef, undef], []⟩ ∧ ls.size = 15 ∧ Below w1.heap.size w1 w' ∧ (ls.getD 0 false = true → v17 = .bool true) ∧ (ls.getD 1 false = true → v18 = .bool false) ∧ (ls.getD 2 false = true → v19 = .bool false) ∧ (ls.getD 3 false = true → v20 = .int .i64 q) ∧ (ls.getD 4 false = true → v21 = .int .i64 s) ∧ (ls.getD 5 false = true → v22 = .pointer (some ⟨b, 0, none⟩)) ∧ (ls.getD 6 false = true → v23 = .pointer (some ⟨b, 0, none⟩)) ∧ (ls.getD 7 false = true → v24 = .pointer (some ⟨b, 2, none⟩)) ∧ (ls.getD 8 false = true → v25 = .int .i64 bd) ∧ (ls.getD 9 false = true → v26 = .bool false) ∧ (ls.getD 10 false = true → v27 = .bool false) ∧ (ls.getD 11 false = true → v28 = .bool false) ∧ (ls.getD 12 false = true → v29 = .int .i64 p) ∧ (ls.getD 13 false = true → v30 = .bool true) ∧ (ls.getD 14 false = true → v31 = .bool true)) ?_ ?_ ?_
          · exact ⟨_, _, _, _, _, _, _, _, _, _, _, _, _, _, _, rfl, rfl, bdrew (brefl _), fun h => (by cases h), fun h => (by cases h), fun h => (by cases h), fun h => (by cases h), fun h => (by cases h), fun h => (by cases h), fun h => (by cases h), fun h => (by cases h), fun h => (by cases h), fun h => (by cases h), fun h => (by cases h), fun h => (by cases h), fun h => (by cases h), fun h => (by cases h), fun h => (by cases h)⟩
          · intro i hii
            have hin : i < 15 := hii
            have hor : i = 0 ∨ i = 1 ∨ i = 2 ∨ i = 3 ∨ i = 4 ∨ i = 5 ∨ i = 6 ∨ i = 7 ∨ i = 8 ∨ i = 9 ∨ i = 10 ∨ i = 11 ∨ i = 12 ∨ i = 13 ∨ i = 14 := by omega
            rcases hor with rfl | rfl | rfl | rfl | rfl | rfl | rfl | rfl | rfl | rfl | rfl | rfl | rfl | rfl | rfl
            · rintro ls ac w' hr ⟨v17, v18, v19, v20, v21, v22, v23, v24, v25, v26, v27, v28, v29, v30, v31, rfl, hl, hB, g0, g1, g2, g3, g4, g5, g6, g7, g8, g9, g10, g11, g12, g13, g14⟩
              refine wpOp_step rfl (fun K hK => ?_)
              clear hr
              go_simp
              refine hK _ _ ?_
              simp only [getD_own (l := ls) (i := 0) (by omega), getD_set ls (i := 0) (j := 1) (by decide), getD_set ls (i := 0) (j := 2) (by decide), getD_set ls (i := 0) (j := 3) (by decide), getD_set ls (i := 0) (j := 4) (by decide), getD_set ls (i := 0) (j := 5) (by decide), getD_set ls (i := 0) (j := 6) (by decide), getD_set ls (i := 0) (j := 7) (by decide), getD_set ls (i := 0) (j := 8) (by decide), getD_set ls (i := 0) (j := 9) (by decide), getD_set ls (i := 0) (j := 10) (by decide), getD_set ls (i := 0) (j := 11) (by decide), getD_set ls (i := 0) (j := 12) (by decide), getD_set ls (i := 0) (j := 13) (by decide), getD_set ls (i := 0) (j := 14) (by decide)]
              exact ⟨_, v18, v19, v20, v21, v22, v23, v24, v25, v26, v27, v28, v29, v30, v31, rfl, by simp [hl], hB, fun _ => rfl, g1, g2, g3, g4, g5, g6, g7, g8, g9, g10, g11, g12, g13, g14⟩
            · rintro ls ac w' hr ⟨v17, v18, v19, v20, v21, v22, v23, v24, v25, v26, v27, v28, v29, v30, v31, rfl, hl, hB, g0, g1, g2, g3, g4, g5, g6, g7, g8, g9, g10, g11, g12, g13, g14⟩
              have d0 : ls.getD 0 false = true := (ready_dep hr rfl).2 ⟨0, .data⟩ (by simp) rfl
              obtain rfl := g0 d0
              refine wpOp_step rfl (fun K hK => ?_)
              clear hr
              go_simp
              refine hK _ _ ?_
              simp only [getD_own (l := ls) (i := 1) (by omega), getD_set ls (i := 1) (j := 0) (by decide), getD_set ls (i := 1) (j := 2) (by decide), getD_set ls (i := 1) (j := 3) (by decide), getD_set ls (i := 1) (j := 4) (by decide), getD_set ls (i := 1) (j := 5) (by decide), getD_set ls (i := 1) (j := 6) (by decide), getD_set ls (i := 1) (j := 7) (by decide), getD_set ls (i := 1) (j := 8) (by decide), getD_set ls (i := 1) (j := 9) (by decide), getD_set ls (i := 1) (j := 10) (by decide), getD_set ls (i := 1) (j := 11) (by decide), getD_set ls (i := 1) (j := 12) (by decide), getD_set ls (i := 1) (j := 13) (by decide), getD_set ls (i := 1) (j := 14) (by decide)]
              exact ⟨_, _, v19, v20, v21, v22, v23, v24, v25, v26, v27, v28, v29, v30, v31, rfl, by simp [hl], hB, fun _ => rfl, fun _ => rfl, g2, g3, g4, g5, g6, g7, g8, g9, g10, g11, g12, g13, g14⟩
            · rintro ls ac w' hr ⟨v17, v18, v19, v20, v21, v22, v23, v24, v25, v26, v27, v28, v29, v30, v31, rfl, hl, hB, g0, g1, g2, g3, g4, g5, g6, g7, g8, g9, g10, g11, g12, g13, g14⟩
              have d1 : ls.getD 1 false = true := (ready_dep hr rfl).2 ⟨1, .data⟩ (by simp) rfl
              obtain rfl := g1 d1
              refine wpOp_step rfl (fun K hK => ?_)
              clear hr
              go_simp
              refine hK _ _ ?_
              simp only [getD_own (l := ls) (i := 2) (by omega), getD_set ls (i := 2) (j := 0) (by decide), getD_set ls (i := 2) (j := 1) (by decide), getD_set ls (i := 2) (j := 3) (by decide), getD_set ls (i := 2) (j := 4) (by decide), getD_set ls (i := 2) (j := 5) (by decide), getD_set ls (i := 2) (j := 6) (by decide), getD_set ls (i := 2) (j := 7) (by decide), getD_set ls (i := 2) (j := 8) (by decide), getD_set ls (i := 2) (j := 9) (by decide), getD_set ls (i := 2) (j := 10) (by decide), getD_set ls (i := 2) (j := 11) (by decide), getD_set ls (i := 2) (j := 12) (by decide), getD_set ls (i := 2) (j := 13) (by decide), getD_set ls (i := 2) (j := 14) (by decide)]
              exact ⟨v17, _, _, v20, v21, v22, v23, v24, v25, v26, v27, v28, v29, v30, v31, rfl, by simp [hl], hB, g0, fun _ => rfl, fun _ => rfl, g3, g4, g5, g6, g7, g8, g9, g10, g11, g12, g13, g14⟩
            · rintro ls ac w' hr ⟨v17, v18, v19, v20, v21, v22, v23, v24, v25, v26, v27, v28, v29, v30, v31, rfl, hl, hB, g0, g1, g2, g3, g4, g5, g6, g7, g8, g9, g10, g11, g12, g13, g14⟩
              have d2 : ls.getD 2 false = true := (ready_dep hr rfl).2 ⟨2, .guard⟩ (by simp) rfl
              obtain rfl := g2 d2
              refine wpOp_step rfl (fun K hK => ?_)
              clear hr
              go_simp
              refine hK _ _ ?_
              simp only [getD_own (l := ls) (i := 3) (by omega), getD_set ls (i := 3) (j := 0) (by decide), getD_set ls (i := 3) (j := 1) (by decide), getD_set ls (i := 3) (j := 2) (by decide), getD_set ls (i := 3) (j := 4) (by decide), getD_set ls (i := 3) (j := 5) (by decide), getD_set ls (i := 3) (j := 6) (by decide), getD_set ls (i := 3) (j := 7) (by decide), getD_set ls (i := 3) (j := 8) (by decide), getD_set ls (i := 3) (j := 9) (by decide), getD_set ls (i := 3) (j := 10) (by decide), getD_set ls (i := 3) (j := 11) (by decide), getD_set ls (i := 3) (j := 12) (by decide), getD_set ls (i := 3) (j := 13) (by decide), getD_set ls (i := 3) (j := 14) (by decide)]
              exact ⟨v17, v18, _, _, v21, v22, v23, v24, v25, v26, v27, v28, v29, v30, v31, rfl, by simp [hl], hB, g0, g1, fun _ => rfl, fun _ => rfl, g4, g5, g6, g7, g8, g9, g10, g11, g12, g13, g14⟩
            · rintro ls ac w' hr ⟨v17, v18, v19, v20, v21, v22, v23, v24, v25, v26, v27, v28, v29, v30, v31, rfl, hl, hB, g0, g1, g2, g3, g4, g5, g6, g7, g8, g9, g10, g11, g12, g13, g14⟩
              have d3 : ls.getD 3 false = true := (ready_dep hr rfl).2 ⟨3, .data⟩ (by simp) rfl
              have d2 : ls.getD 2 false = true := (ready_dep hr rfl).2 ⟨2, .guard⟩ (by simp) rfl
              obtain rfl := g3 d3
              obtain rfl := g2 d2
              refine wpOp_step rfl (fun K hK => ?_)
              clear hr
              go_simp
              refine (Abs_is _ _ HS _).mono ?_
              rintro e w1 ⟨rfl, hk⟩
              dsimp only
              refine hK _ _ ?_
              simp only [getD_own (l := ls) (i := 4) (by omega), getD_set ls (i := 4) (j := 0) (by decide), getD_set ls (i := 4) (j := 1) (by decide), getD_set ls (i := 4) (j := 2) (by decide), getD_set ls (i := 4) (j := 3) (by decide), getD_set ls (i := 4) (j := 5) (by decide), getD_set ls (i := 4) (j := 6) (by decide), getD_set ls (i := 4) (j := 7) (by decide), getD_set ls (i := 4) (j := 8) (by decide), getD_set ls (i := 4) (j := 9) (by decide), getD_set ls (i := 4) (j := 10) (by decide), getD_set ls (i := 4) (j := 11) (by decide), getD_set ls (i := 4) (j := 12) (by decide), getD_set ls (i := 4) (j := 13) (by decide), getD_set ls (i := 4) (j := 14) (by decide)]
              exact ⟨v17, v18, _, _, _, v22, v23, v24, v25, v26, v27, v28, v29, v30, v31, rfl, by simp [hl], bstep hB hk, g0, g1, fun _ => rfl, fun _ => rfl, fun _ => rfl, g5, g6, g7, g8, g9, g10, g11, g12, g13, g14⟩
            · rintro ls ac w' hr ⟨v17, v18, v19, v20, v21, v22, v23, v24, v25, v26, v27, v28, v29, v30, v31, rfl, hl, hB, g0, g1, g2, g3, g4, g5, g6, g7, g8, g9, g10, g11, g12, g13, g14⟩
              have d2 : ls.getD 2 false = true := (ready_dep hr rfl).2 ⟨2, .guard⟩ (by simp) rfl
              obtain rfl := g2 d2
              refine wpOp_step rfl (fun K hK => ?_)
              clear hr
              go_simp
              refine hK _ _ ?_
              simp only [getD_own (l := ls) (i := 5) (by omega), getD_set ls (i := 5) (j := 0) (by decide), getD_set ls (i := 5) (j := 1) (by decide), getD_set ls (i := 5) (j := 2) (by decide), getD_set ls (i := 5) (j := 3) (by decide), getD_set ls (i := 5) (j := 4) (by decide), getD_set ls (i := 5) (j := 6) (by decide), getD_set ls (i := 5) (j := 7) (by decide), getD_set ls (i := 5) (j := 8) (by decide), getD_set ls (i := 5) (j := 9) (by decide), getD_set ls (i := 5) (j := 10) (by decide), getD_set ls (i := 5) (j := 11) (by decide), getD_set ls (i := 5) (j := 12) (by decide), getD_set ls (i := 5) (j := 13) (by decide), getD_set ls (i := 5) (j := 14) (by decide)]
              exact ⟨v17, v18, _, v20, v21, _, v23, v24, v25, v26, v27, v28, v29, v30, v31, rfl, by simp [hl], hB, g0, g1, fun _ => rfl, g3, g4, fun _ => rfl, g6, g7, g8, g9, g10, g11, g12, g13, g14⟩
            · rintro ls ac w' hr ⟨v17, v18, v19, v20, v21, v22, v23, v24, v25, v26, v27, v28, v29, v30, v31, rfl, hl, hB, g0, g1, g2, g3, g4, g5, g6, g7, g8, g9, g10, g11, g12, g13, g14⟩
              have d5 : ls.getD 5 false = true := (ready_dep hr rfl).2 ⟨5, .data⟩ (by simp) rfl
              have d2 : ls.getD 2 false = true := (ready_dep hr rfl).2 ⟨2, .guard⟩ (by simp) rfl
              obtain rfl := g5 d5
              obtain rfl := g2 d2
              refine wpOp_step rfl (fun K hK => ?_)
              clear hr
              go_simp
              refine hK _ _ ?_
              simp only [getD_own (l := ls) (i := 6) (by omega), getD_set ls (i := 6) (j := 0) (by decide), getD_set ls (i := 6) (j := 1) (by decide), getD_set ls (i := 6) (j := 2) (by decide), getD_set ls (i := 6) (j := 3) (by decide), getD_set ls (i := 6) (j := 4) (by decide), getD_set ls (i := 6) (j := 5) (by decide), getD_set ls (i := 6) (j := 7) (by decide), getD_set ls (i := 6) (j := 8) (by decide), getD_set ls (i := 6) (j := 9) (by decide), getD_set ls (i := 6) (j := 10) (by decide), getD_set ls (i := 6) (j := 11) (by decide), getD_set ls (i := 6) (j := 12) (by decide), getD_set ls (i := 6) (j := 13) (by decide), getD_set ls (i := 6) (j := 14) (by decide)]
              exact ⟨v17, v18, _, v20, v21, _, _, v24, v25, v26, v27, v28, v29, v30, v31, rfl, by simp [hl], hB, g0, g1, fun _ => rfl, g3, g4, fun _ => rfl, fun _ => rfl, g7, g8, g9, g10, g11, g12, g13, g14⟩
            · rintro ls ac w' hr ⟨v17, v18, v19, v20, v21, v22, v23, v24, v25, v26, v27, v28, v29, v30, v31, rfl, hl, hB, g0, g1, g2, g3, g4, g5, g6, g7, g8, g9, g10, g11, g12, g13, g14⟩
              have d6 : ls.getD 6 false = true := (ready_dep hr rfl).2 ⟨6, .data⟩ (by simp) rfl
              have d2 : ls.getD 2 false = true := (ready_dep hr rfl).2 ⟨2, .guard⟩ (by simp) rfl
              obtain rfl := g6 d6
              obtain rfl := g2 d2
              refine wpOp_step rfl (fun K hK => ?_)
              clear hr
              go_simp
              refine hK _ _ ?_
              simp only [getD_own (l := ls) (i := 7) (by omega), getD_set ls (i := 7) (j := 0) (by decide), getD_set ls (i := 7) (j := 1) (by decide), getD_set ls (i := 7) (j := 2) (by decide), getD_set ls (i := 7) (j := 3) (by decide), getD_set ls (i := 7) (j := 4) (by decide), getD_set ls (i := 7) (j := 5) (by decide), getD_set ls (i := 7) (j := 6) (by decide), getD_set ls (i := 7) (j := 8) (by decide), getD_set ls (i := 7) (j := 9) (by decide), getD_set ls (i := 7) (j := 10) (by decide), getD_set ls (i := 7) (j := 11) (by decide), getD_set ls (i := 7) (j := 12) (by decide), getD_set ls (i := 7) (j := 13) (by decide), getD_set ls (i := 7) (j := 14) (by decide)]
              exact ⟨v17, v18, _, v20, v21, v22, _, _, v25, v26, v27, v28, v29, v30, v31, rfl, by simp [hl], hB, g0, g1, fun _ => rfl, g3, g4, g5, fun _ => rfl, fun _ => rfl, g8, g9, g10, g11, g12, g13, g14⟩
            · rintro ls ac w' hr ⟨v17, v18, v19, v20, v21, v22, v23, v24, v25, v26, v27, v28, v29, v30, v31, rfl, hl, hB, g0, g1, g2, g3, g4, g5, g6, g7, g8, g9, g10, g11, g12, g13, g14⟩
              have d7 : ls.getD 7 false = true := (ready_dep hr rfl).2 ⟨7, .data⟩ (by simp) rfl
              have d2 : ls.getD 2 false = true := (ready_dep hr rfl).2 ⟨2, .guard⟩ (by simp) rfl
              obtain rfl := g7 d7
              obtain rfl := g2 d2
              have a0 := (hB.cell (ltc c1_1_0)).trans c1_1_0
              have a1 := (hB.cell (ltc c1_1_1)).trans c1_1_1
              have a2 := (hB.cell (ltc c1_1_2)).trans c1_1_2
              refine wpOp_step rfl (fun K hK => ?_)
              clear hr
              go_simp
              refine hK _ _ ?_
              simp only [getD_own (l := ls) (i := 8) (by omega), getD_set ls (i := 8) (j := 0) (by decide), getD_set ls (i := 8) (j := 1) (by decide), getD_set ls (i := 8) (j := 2) (by decide), getD_set ls (i := 8) (j := 3) (by decide), getD_set ls (i := 8) (j := 4) (by decide), getD_set ls (i := 8) (j := 5) (by decide), getD_set ls (i := 8) (j := 6) (by decide), getD_set ls (i := 8) (j := 7) (by decide), getD_set ls (i := 8) (j := 9) (by decide), getD_set ls (i := 8) (j := 10) (by decide), getD_set ls (i := 8) (j := 11) (by decide), getD_set ls (i := 8) (j := 12) (by decide), getD_set ls (i := 8) (j := 13) (by decide), getD_set ls (i := 8) (j := 14) (by decide)]
              exact ⟨v17, v18, _, v20, v21, v22, v23, _, _, v26, v27, v28, v29, v30, v31, rfl, by simp [hl], hB, g0, g1, fun _ => rfl, g3, g4, g5, g6, fun _ => rfl, fun _ => rfl, g9, g10, g11, g12, g13, g14⟩
            · rintro ls ac w' hr ⟨v17, v18, v19, v20, v21, v22, v23, v24, v25, v26, v27, v28, v29, v30, v31, rfl, hl, hB, g0, g1, g2, g3, g4, g5, g6, g7, g8, g9, g10, g11, g12, g13, g14⟩
              have d4 : ls.getD 4 false = true := (ready_dep hr rfl).2 ⟨4, .data⟩ (by simp) rfl
              have d8 : ls.getD 8 false = true := (ready_dep hr rfl).2 ⟨8, .data⟩ (by simp) rfl
              have d2 : ls.getD 2 false = true := (ready_dep hr rfl).2 ⟨2, .guard⟩ (by simp) rfl
              obtain rfl := g4 d4
              obtain rfl := g8 d8
              obtain rfl := g2 d2
              refine wpOp_step rfl (fun K hK => ?_)
              clear hr
              go_simp
              refine hK _ _ ?_
              simp only [getD_own (l := ls) (i := 9) (by omega), getD_set ls (i := 9) (j := 0) (by decide), getD_set ls (i := 9) (j := 1) (by decide), getD_set ls (i := 9) (j := 2) (by decide), getD_set ls (i := 9) (j := 3) (by decide), getD_set ls (i := 9) (j := 4) (by decide), getD_set ls (i := 9) (j := 5) (by decide), getD_set ls (i := 9) (j := 6) (by decide), getD_set ls (i := 9) (j := 7) (by decide), getD_set ls (i := 9) (j := 8) (by decide), getD_set ls (i := 9) (j := 10) (by decide), getD_set ls (i := 9) (j := 11) (by decide), getD_set ls (i := 9) (j := 12) (by decide), getD_set ls (i := 9) (j := 13) (by decide), getD_set ls (i := 9) (j := 14) (by decide)]
              exact ⟨v17, v18, _, v20, _, v22, v23, v24, _, _, v27, v28, v29, v30, v31, rfl, by simp [hl], hB, g0, g1, fun _ => rfl, g3, fun _ => rfl, g5, g6, g7, fun _ => rfl, fun _ => rfl, g10, g11, g12, g13, g14⟩
            · rintro ls ac w' hr ⟨v17, v18, v19, v20, v21, v22, v23, v24, v25, v26, v27, v28, v29, v30, v31, rfl, hl, hB, g0, g1, g2, g3, g4, g5, g6, g7, g8, g9, g10, g11, g12, g13, g14⟩
              have d2 : ls.getD 2 false = true := (ready_dep hr rfl).2 ⟨2, .data⟩ (by simp) rfl
              have d9 : ls.getD 9 false = true := (ready_dep hr rfl).2 ⟨9, .data⟩ (by simp) rfl
              obtain rfl := g2 d2
              obtain rfl := g9 d9
              refine wpOp_step rfl (fun K hK => ?_)
              clear hr
              go_simp
              refine hK _ _ ?_
              simp only [getD_own (l := ls) (i := 10) (by omega), getD_set ls (i := 10) (j := 0) (by decide), getD_set ls (i := 10) (j := 1) (by decide), getD_set ls (i := 10) (j := 2) (by decide), getD_set ls (i := 10) (j := 3) (by decide), getD_set ls (i := 10) (j := 4) (by decide), getD_set ls (i := 10) (j := 5) (by decide), getD_set ls (i := 10) (j := 6) (by decide), getD_set ls (i := 10) (j := 7) (by decide), getD_set ls (i := 10) (j := 8) (by decide), getD_set ls (i := 10) (j := 9) (by decide), getD_set ls (i := 10) (j := 11) (by decide), getD_set ls (i := 10) (j := 12) (by decide), getD_set ls (i := 10) (j := 13) (by decide), getD_set ls (i := 10) (j := 14) (by decide)]
              exact ⟨v17, v18, _, v20, v21, v22, v23, v24, v25, _, _, v28, v29, v30, v31, rfl, by simp [hl], hB, g0, g1, fun _ => rfl, g3, g4, g5, g6, g7, g8, fun _ => rfl, fun _ => rfl, g11, g12, g13, g14⟩
            · rintro ls ac w' hr ⟨v17, v18, v19, v20, v21, v22, v23, v24, v25, v26, v27, v28, v29, v30, v31, rfl, hl, hB, g0, g1, g2, g3, g4, g5, g6, g7, g8, g9, g10, g11, g12, g13, g14⟩
              have d10 : ls.getD 10 false = true := (ready_dep hr rfl).2 ⟨10, .data⟩ (by simp) rfl
              obtain rfl := g10 d10
              refine wpOp_step rfl (fun K hK => ?_)
              clear hr
              go_simp
              refine hK _ _ ?_
              simp only [getD_own (l := ls) (i := 11) (by omega), getD_set ls (i := 11) (j := 0) (by decide), getD_set ls (i := 11) (j := 1) (by decide), getD_set ls (i := 11) (j := 2) (by decide), getD_set ls (i := 11) (j := 3) (by decide), getD_set ls (i := 11) (j := 4) (by decide), getD_set ls (i := 11) (j := 5) (by decide), getD_set ls (i := 11) (j := 6) (by decide), getD_set ls (i := 11) (j := 7) (by decide), getD_set ls (i := 11) (j := 8) (by decide), getD_set ls (i := 11) (j := 9) (by decide), getD_set ls (i := 11) (j := 10) (by decide), getD_set ls (i := 11) (j := 12) (by decide), getD_set ls (i := 11) (j := 13) (by decide), getD_set ls (i := 11) (j := 14) (by decide)]
              exact ⟨v17, v18, v19, v20, v21, v22, v23, v24, v25, v26, _, _, v29, v30, v31, rfl, by simp [hl], hB, g0, g1, g2, g3, g4, g5, g6, g7, g8, g9, fun _ => rfl, fun _ => rfl, g12, g13, g14⟩
            · rintro ls ac w' hr ⟨v17, v18, v19, v20, v21, v22, v23, v24, v25, v26, v27, v28, v29, v30, v31, rfl, hl, hB, g0, g1, g2, g3, g4, g5, g6, g7, g8, g9, g10, g11, g12, g13, g14⟩
              have d11 : ls.getD 11 false = true := (ready_dep hr rfl).2 ⟨11, .guard⟩ (by simp) rfl
              obtain rfl := g11 d11
              refine wpOp_step rfl (fun K hK => ?_)
              clear hr
              go_simp
              refine hK _ _ ?_
              simp only [getD_own (l := ls) (i := 12) (by omega), getD_set ls (i := 12) (j := 0) (by decide), getD_set ls (i := 12) (j := 1) (by decide), getD_set ls (i := 12) (j := 2) (by decide), getD_set ls (i := 12) (j := 3) (by decide), getD_set ls (i := 12) (j := 4) (by decide), getD_set ls (i := 12) (j := 5) (by decide), getD_set ls (i := 12) (j := 6) (by decide), getD_set ls (i := 12) (j := 7) (by decide), getD_set ls (i := 12) (j := 8) (by decide), getD_set ls (i := 12) (j := 9) (by decide), getD_set ls (i := 12) (j := 10) (by decide), getD_set ls (i := 12) (j := 11) (by decide), getD_set ls (i := 12) (j := 13) (by decide), getD_set ls (i := 12) (j := 14) (by decide)]
              exact ⟨v17, v18, v19, v20, v21, v22, v23, v24, v25, v26, v27, _, _, v30, v31, rfl, by simp [hl], hB, g0, g1, g2, g3, g4, g5, g6, g7, g8, g9, g10, fun _ => rfl, fun _ => rfl, g13, g14⟩
            · rintro ls ac w' hr ⟨v17, v18, v19, v20, v21, v22, v23, v24, v25, v26, v27, v28, v29, v30, v31, rfl, hl, hB, g0, g1, g2, g3, g4, g5, g6, g7, g8, g9, g10, g11, g12, g13, g14⟩
              have d12 : ls.getD 12 false = true := (ready_dep hr rfl).2 ⟨12, .data⟩ (by simp) rfl
              have d11 : ls.getD 11 false = true := (ready_dep hr rfl).2 ⟨11, .guard⟩ (by simp) rfl
              obtain rfl := g12 d12
              obtain rfl := g11 d11
              refine wpOp_step rfl (fun K hK => ?_)
              clear hr
              go_simp
              refine hK _ _ ?_
              simp only [getD_own (l := ls) (i := 13) (by omega), getD_set ls (i := 13) (j := 0) (by decide), getD_set ls (i := 13) (j := 1) (by decide), getD_set ls (i := 13) (j := 2) (by decide), getD_set ls (i := 13) (j := 3) (by decide), getD_set ls (i := 13) (j := 4) (by decide), getD_set ls (i := 13) (j := 5) (by decide), getD_set ls (i := 13) (j := 6) (by decide), getD_set ls (i := 13) (j := 7) (by decide), getD_set ls (i := 13) (j := 8) (by decide), getD_set ls (i := 13) (j := 9) (by decide), getD_set ls (i := 13) (j := 10) (by decide), getD_set ls (i := 13) (j := 11) (by decide), getD_set ls (i := 13) (j := 12) (by decide), getD_set ls (i := 13) (j := 14) (by decide)]
              exact ⟨v17, v18, v19, v20, v21, v22, v23, v24, v25, v26, v27, _, _, _, v31, rfl, by simp [hl], hB, g0, g1, g2, g3, g4, g5, g6, g7, g8, g9, g10, fun _ => rfl, fun _ => rfl, fun _ => rfl, g14⟩
            · rintro ls ac w' hr ⟨v17, v18, v19, v20, v21, v22, v23, v24, v25, v26, v27, v28, v29, v30, v31, rfl, hl, hB, g0, g1, g2, g3, g4, g5, g6, g7, g8, g9, g10, g11, g12, g13, g14⟩
              have d11 : ls.getD 11 false = true := (ready_dep hr rfl).2 ⟨11, .data⟩ (by simp) rfl
              have d13 : ls.getD 13 false = true := (ready_dep hr rfl).2 ⟨13, .data⟩ (by simp) rfl
              obtain rfl := g11 d11
              obtain rfl := g13 d13
              refine wpOp_step rfl (fun K hK => ?_)
              clear hr
              go_simp
              refine hK _ _ ?_
              simp only [getD_own (l := ls) (i := 14) (by omega), getD_set ls (i := 14) (j := 0) (by decide), getD_set ls (i := 14) (j := 1) (by decide), getD_set ls (i := 14) (j := 2) (by decide), getD_set ls (i := 14) (j := 3) (by decide), getD_set ls (i := 14) (j := 4) (by decide), getD_set ls (i := 14) (j := 5) (by decide), getD_set ls (i := 14) (j := 6) (by decide), getD_set ls (i := 14) (j := 7) (by decide), getD_set ls (i := 14) (j := 8) (by decide), getD_set ls (i := 14) (j := 9) (by decide), getD_set ls (i := 14) (j := 10) (by decide), getD_set ls (i := 14) (j := 11) (by decide), getD_set ls (i := 14) (j := 12) (by decide), getD_set ls (i := 14) (j := 13) (by decide)]
              exact ⟨v17, v18, v19, v20, v21, v22, v23, v24, v25, v26, v27, _, v29, _, _, rfl, by simp [hl], hB, g0, g1, g2, g3, g4, g5, g6, g7, g8, g9, g10, fun _ => rfl, g12, fun _ => rfl, fun _ => rfl⟩
          · rintro ls ac w' ⟨v17, v18, v19, v20, v21, v22, v23, v24, v25, v26, v27, v28, v29, v30, v31, rfl, hl, hB, g0, g1, g2, g3, g4, g5, g6, g7, g8, g9, g10, g11, g12, g13, g14⟩ hr
            have hall := ready_allb (by decide) hl hr
            obtain rfl := g14 (hall 14 (by decide))
            go_wp2_with fail
            go_meet
            exact ⟨rfl, Lib.hid (bstep (bstep (brefl _) hb1) hB), Lib.hid ⟨q1_1_0.keep hB, q1_1_1.keep hB, q1_1_2.keep hB⟩⟩
        ·
          obtain rfl : false = c := by rw [← HC.out, decide_eq_false h1, decide_eq_false h2]; rfl
          have k1 := decide_eq_false h1
          have k2 := decide_eq_false h2
          go_wp2_with fail
          refine wp_region_inv (by kernel_rfl) (fun ls ac w' => ∃ v17 v18 v19 v20 v21 v22 v23 v24 v25 v26 v27 v28 v29 v30 v31, ac = ⟨#[.pointer (some ⟨b, 0, none⟩), .int .i64 p, .int .i64 q, undef, undef, undef, .int .i64 0, .int .i64 n, .bool true, undef, undef, .tuple #[.int .i64 n, .bool true], .int .i64 p, .int .i64 q, .tuple #[.int .i64 n, .bool true], .int .i64 n, .bool true, v17, v18, v19, v20, v21, v22, v23, v24, v25, v26, v27, v28, v29, v30, v31, undef, undef, undef, undef, undef, undef, undef, undef, undef, undef, undef, undef, undef, undef, undef, undef, undef, undef, undef, undef, undef, undef, undef, undef, undef, undef, undef, undef, undef, undef, undef], []⟩ ∧ ls.size = 15 ∧ Below w1.heap.size w1 w' ∧ (ls.getD 0 false = true → v17 = .bool true) ∧ (ls.getD 1 false = true → v18 = .bool false) ∧ (ls.getD 2 false = true → v19 = .bool false) ∧ (ls.getD 3 false = true → v20 = .int .i64 q) ∧ (ls.getD 4 false = true → v21 = .int .i64 s) ∧ (ls.getD 5 false = true → v22 = .pointer (some ⟨b, 0, none⟩)) ∧ (ls.getD 6 false = true → v23 = .pointer (some ⟨b, 0, none⟩)) ∧ (ls.getD 7 false = true → v24 = .pointer (some ⟨b, 2, none⟩)) ∧ (ls.getD 8 false = true → v25 = .int .i64 bd) ∧ (ls.getD 9 false = true → v26 = .bool false) ∧ (ls.getD 10 false = true → v27 = .bool false) ∧ (ls.getD 11 false = true → v28 = .bool false) ∧ (ls.getD 12 false = true → v29 = .int .i64 p) ∧ (ls.getD 13 false = true → v30 = .bool false) ∧ (ls.getD 14 false = true → v31 = .bool false)) ?_ ?_ ?_
          · exact ⟨_, _, _, _, _, _, _, _, _, _, _, _, _, _, _, rfl, rfl, bdrew (brefl _), fun h => (by cases h), fun h => (by cases h), fun h => (by cases h), fun h => (by cases h), fun h => (by cases h), fun h => (by cases h), fun h => (by cases h), fun h => (by cases h), fun h => (by cases h), fun h => (by cases h), fun h => (by cases h), fun h => (by cases h), fun h => (by cases h), fun h => (by cases h), fun h => (by cases h)⟩
          · intro i hii
            have hin : i < 15 := hii
            have hor : i = 0 ∨ i = 1 ∨ i = 2 ∨ i = 3 ∨ i = 4 ∨ i = 5 ∨ i = 6 ∨ i = 7 ∨ i = 8 ∨ i = 9 ∨ i = 10 ∨ i = 11 ∨ i = 12 ∨ i = 13 ∨ i = 14 := by omega
            rcases hor with rfl | rfl | rfl | rfl | rfl | rfl | rfl | rfl | rfl | rfl | rfl | rfl | rfl | rfl | rfl
            · rintro ls ac w' hr ⟨v17, v18, v19, v20, v21, v22, v23, v24, v25, v26, v27, v28, v29, v30, v31, rfl, hl, hB, g0, g1, g2, g3, g4, g5, g6, g7, g8, g9, g10, g11, g12, g13, g14⟩
              refine wpOp_step rfl (fun K hK => ?_)
              clear hr
              go_simp
              refine hK _ _ ?_
              simp only [getD_own (l := ls) (i := 0) (by omega), getD_set ls (i := 0) (j := 1) (by decide), getD_set ls (i := 0) (j := 2) (by decide), getD_set ls (i := 0) (j := 3) (by decide), getD_set ls (i := 0) (j := 4) (by decide), getD_set ls (i := 0) (j := 5) (by decide), getD_set ls (i := 0) (j := 6) (by decide), getD_set ls (i := 0) (j := 7) (by decide), getD_set ls (i := 0) (j := 8) (by decide), getD_set ls (i := 0) (j := 9) (by decide), getD_set ls (i := 0) (j := 10) (by decide), getD_set ls (i := 0) (j := 11) (by decide), getD_set ls (i := 0) (j := 12) (by decide), getD_set ls (i := 0) (j := 13) (by decide), getD_set ls (i := 0) (j := 14) (by decide)]
              exact ⟨_, v18, v19, v20, v21, v22, v23, v24, v25, v26, v27, v28, v29, v30, v31, rfl, by simp [hl], hB, fun _ => rfl, g1, g2, g3, g4, g5, g6, g7, g8, g9, g10, g11, g12, g13, g14⟩
            · rintro ls ac w' hr ⟨v17, v18, v19, v20, v21, v22, v23, v24, v25, v26, v27, v28, v29, v30, v31, rfl, hl, hB, g0, g1, g2, g3, g4, g5, g6, g7, g8, g9, g10, g11, g12, g13, g14⟩
              have d0 : ls.getD 0 false = true := (ready_dep hr rfl).2 ⟨0, .data⟩ (by simp) rfl
              obtain rfl := g0 d0
              refine wpOp_step rfl (fun K hK => ?_)
              clear hr
              go_simp
              refine hK _ _ ?_
              simp only [getD_own (l := ls) (i := 1) (by omega), getD_set ls (i := 1) (j := 0) (by decide), getD_set ls (i := 1) (j := 2) (by decide), getD_set ls (i := 1) (j := 3) (by decide), getD_set ls (i := 1) (j := 4) (by decide), getD_set ls (i := 1) (j := 5) (by decide), getD_set ls (i := 1) (j := 6) (by decide), getD_set ls (i := 1) (j := 7) (by decide), getD_set ls (i := 1) (j := 8) (by decide), getD_set ls (i := 1) (j := 9) (by decide), getD_set ls (i := 1) (j := 10) (by decide), getD_set ls (i := 1) (j := 11) (by decide), getD_set ls (i := 1) (j := 12) (by decide), getD_set ls (i := 1) (j := 13) (by decide), getD_set ls (i := 1) (j := 14) (by decide)]
              exact ⟨_, _, v19, v20, v21, v22, v23, v24, v25, v26, v27, v28, v29, v30, v31, rfl, by simp [hl], hB, fun _ => rfl, fun _ => rfl, g2, g3, g4, g5, g6, g7, g8, g9, g10, g11, g12, g13, g14⟩
            · rintro ls ac w' hr ⟨v17, v18, v19, v20, v21, v22, v23, v24, v25, v26, v27, v28, v29, v30, v31, rfl, hl, hB, g0, g1, g2, g3, g4, g5, g6, g7, g8, g9, g10, g11, g12, g13, g14⟩
              have d1 : ls.getD 1 false = true := (ready_dep hr rfl).2 ⟨1, .data⟩ (by simp) rfl
              obtain rfl := g1 d1
              refine wpOp_step rfl (fun K hK => ?_)
              clear hr
              go_simp
              refine hK _ _ ?_
              simp only [getD_own (l := ls) (i := 2) (by omega), getD_set ls (i := 2) (j := 0) (by decide), getD_set ls (i := 2) (j := 1) (by decide), getD_set ls (i := 2) (j := 3) (by decide), getD_set ls (i := 2) (j := 4) (by decide), getD_set ls (i := 2) (j := 5) (by decide), getD_set ls (i := 2) (j := 6) (by decide), getD_set ls (i := 2) (j := 7) (by decide), getD_set ls (i := 2) (j := 8) (by decide), getD_set ls (i := 2) (j := 9) (by decide), getD_set ls (i := 2) (j := 10) (by decide), getD_set ls (i := 2) (j := 11) (by decide), getD_set ls (i := 2) (j := 12) (by decide), getD_set ls (i := 2) (j := 13) (by decide), getD_set ls (i := 2) (j := 14) (by decide)]
              exact ⟨v17, _, _, v20, v21, v22, v23, v24, v25, v26, v27, v28, v29, v30, v31, rfl, by simp [hl], hB, g0, fun _ => rfl, fun _ => rfl, g3, g4, g5, g6, g7, g8, g9, g10, g11, g12, g13, g14⟩
            · rintro ls ac w' hr ⟨v17, v18, v19, v20, v21, v22, v23, v24, v25, v26, v27, v28, v29, v30, v31, rfl, hl, hB, g0, g1, g2, g3, g4, g5, g6, g7, g8, g9, g10, g11, g12, g13, g14⟩
              have d2 : ls.getD 2 false = true := (ready_dep hr rfl).2 ⟨2, .guard⟩ (by simp) rfl
              obtain rfl := g2 d2
              refine wpOp_step rfl (fun K hK => ?_)
              clear hr
              go_simp
              refine hK _ _ ?_
              simp only [getD_own (l := ls) (i := 3) (by omega), getD_set ls (i := 3) (j := 0) (by decide), getD_set ls (i := 3) (j := 1) (by decide), getD_set ls (i := 3) (j := 2) (by decide), getD_set ls (i := 3) (j := 4) (by decide), getD_set ls (i := 3) (j := 5) (by decide), getD_set ls (i := 3) (j := 6) (by decide), getD_set ls (i := 3) (j := 7) (by decide), getD_set ls (i := 3) (j := 8) (by decide), getD_set ls (i := 3) (j := 9) (by decide), getD_set ls (i := 3) (j := 10) (by decide), getD_set ls (i := 3) (j := 11) (by decide), getD_set ls (i := 3) (j := 12) (by decide), getD_set ls (i := 3) (j := 13) (by decide), getD_set ls (i := 3) (j := 14) (by decide)]
              exact ⟨v17, v18, _, _, v21, v22, v23, v24, v25, v26, v27, v28, v29, v30, v31, rfl, by simp [hl], hB, g0, g1, fun _ => rfl, fun _ => rfl, g4, g5, g6, g7, g8, g9, g10, g11, g12, g13, g14⟩
            · rintro ls ac w' hr ⟨v17, v18, v19, v20, v21, v22, v23, v24, v25, v26, v27, v28, v29, v30, v31, rfl, hl, hB, g0, g1, g2, g3, g4, g5, g6, g7, g8, g9, g10, g11, g12, g13, g14⟩
              have d3 : ls.getD 3 false = true := (ready_dep hr rfl).2 ⟨3, .data⟩ (by simp) rfl
              have d2 : ls.getD 2 false = true := (ready_dep hr rfl).2 ⟨2, .guard⟩ (by simp) rfl
              obtain rfl := g3 d3
              obtain rfl := g2 d2
              refine wpOp_step rfl (fun K hK => ?_)
              clear hr
              go_simp
              refine (Abs_is _ _ HS _).mono ?_
              rintro e w1 ⟨rfl, hk⟩
              dsimp only
              refine hK _ _ ?_
              simp only [getD_own (l := ls) (i := 4) (by omega), getD_set ls (i := 4) (j := 0) (by decide), getD_set ls (i := 4) (j := 1) (by decide), getD_set ls (i := 4) (j := 2) (by decide), getD_set ls (i := 4) (j := 3) (by decide), getD_set ls (i := 4) (j := 5) (by decide), getD_set ls (i := 4) (j := 6) (by decide), getD_set ls (i := 4) (j := 7) (by decide), getD_set ls (i := 4) (j := 8) (by decide), getD_set ls (i := 4) (j := 9) (by decide), getD_set ls (i := 4) (j := 10) (by decide), getD_set ls (i := 4) (j := 11) (by decide), getD_set ls (i := 4) (j := 12) (by decide), getD_set ls (i := 4) (j := 13) (by decide), getD_set ls (i := 4) (j := 14) (by decide)]
              exact ⟨v17, v18, _, _, _, v22, v23, v24, v25, v26, v27, v28, v29, v30, v31, rfl, by simp [hl], bstep hB hk, g0, g1, fun _ => rfl, fun _ => rfl, fun _ => rfl, g5, g6, g7, g8, g9, g10, g11, g12, g13, g14⟩
            · rintro ls ac w' hr ⟨v17, v18, v19, v20, v21, v22, v23, v24, v25, v26, v27, v28, v29, v30, v31, rfl, hl, hB, g0, g1, g2, g3, g4, g5, g6, g7, g8, g9, g10, g11, g12, g13, g14⟩
              have d2 : ls.getD 2 false = true := (ready_dep hr rfl).2 ⟨2, .guard⟩ (by simp) rfl
              obtain rfl := g2 d2
              refine wpOp_step rfl (fun K hK => ?_)
              clear hr
              go_simp
              refine hK _ _ ?_
              simp only [getD_own (l := ls) (i := 5) (by omega), getD_set ls (i := 5) (j := 0) (by decide), getD_set ls (i := 5) (j := 1) (by decide), getD_set ls (i := 5) (j := 2) (by decide), getD_set ls (i := 5) (j := 3) (by decide), getD_set ls (i := 5) (j := 4) (by decide), getD_set ls (i := 5) (j := 6) (by decide), getD_set ls (i := 5) (j := 7) (by decide), getD_set ls (i := 5) (j := 8) (by decide), getD_set ls (i := 5) (j := 9) (by decide), getD_set ls (i := 5) (j := 10) (by decide), getD_set ls (i := 5) (j := 11) (by decide), getD_set ls (i := 5) (j := 12) (by decide), getD_set ls (i := 5) (j := 13) (by decide), getD_set ls (i := 5) (j := 14) (by decide)]
              exact ⟨v17, v18, _, v20, v21, _, v23, v24, v25, v26, v27, v28, v29, v30, v31, rfl, by simp [hl], hB, g0, g1, fun _ => rfl, g3, g4, fun _ => rfl, g6, g7, g8, g9, g10, g11, g12, g13, g14⟩
            · rintro ls ac w' hr ⟨v17, v18, v19, v20, v21, v22, v23, v24, v25, v26, v27, v28, v29, v30, v31, rfl, hl, hB, g0, g1, g2, g3, g4, g5, g6, g7, g8, g9, g10, g11, g12, g13, g14⟩
              have d5 : ls.getD 5 false = true := (ready_dep hr rfl).2 ⟨5, .data⟩ (by simp) rfl
              have d2 : ls.getD 2 false = true := (ready_dep hr rfl).2 ⟨2, .guard⟩ (by simp) rfl
              obtain rfl := g5 d5
              obtain rfl := g2 d2
              refine wpOp_step rfl (fun K hK => ?_)
              clear hr
              go_simp
              refine hK _ _ ?_
              simp only [getD_own (l := ls) (i := 6) (by omega), getD_set ls (i := 6) (j := 0) (by decide), getD_set ls (i := 6) (j := 1) (by decide), getD_set ls (i := 6) (j := 2) (by decide), getD_set ls (i := 6) (j := 3) (by decide), getD_set ls (i := 6) (j := 4) (by decide), getD_set ls (i := 6) (j := 5) (by decide), getD_set ls (i := 6) (j := 7) (by decide), getD_set ls (i := 6) (j := 8) (by decide), getD_set ls (i := 6) (j := 9) (by decide), getD_set ls (i := 6) (j := 10) (by decide), getD_set ls (i := 6) (j := 11) (by decide), getD_set ls (i := 6) (j := 12) (by decide), getD_set ls (i := 6) (j := 13) (by decide), getD_set ls (i := 6) (j := 14) (by decide)]
              exact ⟨v17, v18, _, v20, v21, _, _, v24, v25, v26, v27, v28, v29, v30, v31, rfl, by simp [hl], hB, g0, g1, fun _ => rfl, g3, g4, fun _ => rfl, fun _ => rfl, g7, g8, g9, g10, g11, g12, g13, g14⟩
            · rintro ls ac w' hr ⟨v17, v18, v19, v20, v21, v22, v23, v24, v25, v26, v27, v28, v29, v30, v31, rfl, hl, hB, g0, g1, g2, g3, g4, g5, g6, g7, g8, g9, g10, g11, g12, g13, g14⟩
              have d6 : ls.getD 6 false = true := (ready_dep hr rfl).2 ⟨6, .data⟩ (by simp) rfl
              have d2 : ls.getD 2 false = true := (ready_dep hr rfl).2 ⟨2, .guard⟩ (by simp) rfl
              obtain rfl := g6 d6
              obtain rfl := g2 d2
              refine wpOp_step rfl (fun K hK => ?_)
              clear hr
              go_simp
              refine hK _ _ ?_
              simp only [getD_own (l := ls) (i := 7) (by omega), getD_set ls (i := 7) (j := 0) (by decide), getD_set ls (i := 7) (j := 1) (by decide), getD_set ls (i := 7) (j := 2) (by decide), getD_set ls (i := 7) (j := 3) (by decide), getD_set ls (i := 7) (j := 4) (by decide), getD_set ls (i := 7) (j := 5) (by decide), getD_set ls (i := 7) (j := 6) (by decide), getD_set ls (i := 7) (j := 8) (by decide), getD_set ls (i := 7) (j := 9) (by decide), getD_set ls (i := 7) (j := 10) (by decide), getD_set ls (i := 7) (j := 11) (by decide), getD_set ls (i := 7) (j := 12) (by decide), getD_set ls (i := 7) (j := 13) (by decide), getD_set ls (i := 7) (j := 14) (by decide)]
              exact ⟨v17, v18, _, v20, v21, v22, _, _, v25, v26, v27, v28, v29, v30, v31, rfl, by simp [hl], hB, g0, g1, fun _ => rfl, g3, g4, g5, fun _ => rfl, fun _ => rfl, g8, g9, g10, g11, g12, g13, g14⟩
            · rintro ls ac w' hr ⟨v17, v18, v19, v20, v21, v22, v23, v24, v25, v26, v27, v28, v29, v30, v31, rfl, hl, hB, g0, g1, g2, g3, g4, g5, g6, g7, g8, g9, g10, g11, g12, g13, g14⟩
              have d7 : ls.getD 7 false = true := (ready_dep hr rfl).2 ⟨7, .data⟩ (by simp) rfl
              have d2 : ls.getD 2 false = true := (ready_dep hr rfl).2 ⟨2, .guard⟩ (by simp) rfl
              obtain rfl := g7 d7
              obtain rfl := g2 d2
              have a0 := (hB.cell (ltc c1_1_0)).trans c1_1_0
              have a1 := (hB.cell (ltc c1_1_1)).trans c1_1_1
              have a2 := (hB.cell (ltc c1_1_2)).trans c1_1_2
              refine wpOp_step rfl (fun K hK => ?_)
              clear hr
              go_simp
              refine hK _ _ ?_
              simp only [getD_own (l := ls) (i := 8) (by omega), getD_set ls (i := 8) (j := 0) (by decide), getD_set ls (i := 8) (j := 1) (by decide), getD_set ls (i := 8) (j := 2) (by decide), getD_set ls (i := 8) (j := 3) (by decide), getD_set ls (i := 8) (j := 4) (by decide), getD_set ls (i := 8) (j := 5) (by decide), getD_set ls (i := 8) (j := 6) (by decide), getD_set ls (i := 8) (j := 7) (by decide), getD_set ls (i := 8) (j := 9) (by decide), getD_set ls (i := 8) (j := 10) (by decide), getD_set ls (i := 8) (j := 11) (by decide), getD_set ls (i := 8) (j := 12) (by decide), getD_set ls (i := 8) (j := 13) (by decide), getD_set ls (i := 8) (j := 14) (by decide)]
              exact ⟨v17, v18, _, v20, v21, v22, v23, _, _, v26, v27, v28, v29, v30, v31, rfl, by simp [hl], hB, g0, g1, fun _ => rfl, g3, g4, g5, g6, fun _ => rfl, fun _ => rfl, g9, g10, g11, g12, g13, g14⟩
            · rintro ls ac w' hr ⟨v17, v18, v19, v20, v21, v22, v23, v24, v25, v26, v27, v28, v29, v30, v31, rfl, hl, hB, g0, g1, g2, g3, g4, g5, g6, g7, g8, g9, g10, g11, g12, g13, g14⟩
              have d4 : ls.getD 4 false = true := (ready_dep hr rfl).2 ⟨4, .data⟩ (by simp) rfl
              have d8 : ls.getD 8 false = true := (ready_dep hr rfl).2 ⟨8, .data⟩ (by simp) rfl
              have d2 : ls.getD 2 false = true := (ready_dep hr rfl).2 ⟨2, .guard⟩ (by simp) rfl
              obtain rfl := g4 d4
              obtain rfl := g8 d8
              obtain rfl := g2 d2
              refine wpOp_step rfl (fun K hK => ?_)
              clear hr
              go_simp
              refine hK _ _ ?_
              simp only [getD_own (l := ls) (i := 9) (by omega), getD_set ls (i := 9) (j := 0) (by decide), getD_set ls (i := 9) (j := 1) (by decide), getD_set ls (i := 9) (j := 2) (by decide), getD_set ls (i := 9) (j := 3) (by decide), getD_set ls (i := 9) (j := 4) (by decide), getD_set ls (i := 9) (j := 5) (by decide), getD_set ls (i := 9) (j := 6) (by decide), getD_set ls (i := 9) (j := 7) (by decide), getD_set ls (i := 9) (j := 8) (by decide), getD_set ls (i := 9) (j := 10) (by decide), getD_set ls (i := 9) (j := 11) (by decide), getD_set ls (i := 9) (j := 12) (by decide), getD_set ls (i := 9) (j := 13) (by decide), getD_set ls (i := 9) (j := 14) (by decide)]
              exact ⟨v17, v18, _, v20, _, v22, v23, v24, _, _, v27, v28, v29, v30, v31, rfl, by simp [hl], hB, g0, g1, fun _ => rfl, g3, fun _ => rfl, g5, g6, g7, fun _ => rfl, fun _ => rfl, g10, g11, g12, g13, g14⟩
            · rintro ls ac w' hr ⟨v17, v18, v19, v20, v21, v22, v23, v24, v25, v26, v27, v28, v29, v30, v31, rfl, hl, hB, g0, g1, g2, g3, g4, g5, g6, g7, g8, g9, g10, g11, g12, g13, g14⟩
              have d2 : ls.getD 2 false = true := (ready_dep hr rfl).2 ⟨2, .data⟩ (by simp) rfl
              have d9 : ls.getD 9 false = true := (ready_dep hr rfl).2 ⟨9, .data⟩ (by simp) rfl
              obtain rfl := g2 d2
              obtain rfl := g9 d9
              refine wpOp_step rfl (fun K hK => ?_)
              clear hr
              go_simp
              refine hK _ _ ?_
              simp only [getD_own (l := ls) (i := 10) (by omega), getD_set ls (i := 10) (j := 0) (by decide), getD_set ls (i := 10) (j := 1) (by decide), getD_set ls (i := 10) (j := 2) (by decide), getD_set ls (i := 10) (j := 3) (by decide), getD_set ls (i := 10) (j := 4) (by decide), getD_set ls (i := 10) (j := 5) (by decide), getD_set ls (i := 10) (j := 6) (by decide), getD_set ls (i := 10) (j := 7) (by decide), getD_set ls (i := 10) (j := 8) (by decide), getD_set ls (i := 10) (j := 9) (by decide), getD_set ls (i := 10) (j := 11) (by decide), getD_set ls (i := 10) (j := 12) (by decide), getD_set ls (i := 10) (j := 13) (by decide), getD_set ls (i := 10) (j := 14) (by decide)]
              exact ⟨v17, v18, _, v20, v21, v22, v23, v24, v25, _, _, v28, v29, v30, v31, rfl, by simp [hl], hB, g0, g1, fun _ => rfl, g3, g4, g5, g6, g7, g8, fun _ => rfl, fun _ => rfl, g11, g12, g13, g14⟩
            · rintro ls ac w' hr ⟨v17, v18, v19, v20, v21, v22, v23, v24, v25, v26, v27, v28, v29, v30, v31, rfl, hl, hB, g0, g1, g2, g3, g4, g5, g6, g7, g8, g9, g10, g11, g12, g13, g14⟩
              have d10 : ls.getD 10 false = true := (ready_dep hr rfl).2 ⟨10, .data⟩ (by simp) rfl
              obtain rfl := g10 d10
              refine wpOp_step rfl (fun K hK => ?_)
              clear hr
              go_simp
              refine hK _ _ ?_
              simp only [getD_own (l := ls) (i := 11) (by omega), getD_set ls (i := 11) (j := 0) (by decide), getD_set ls (i := 11) (j := 1) (by decide), getD_set ls (i := 11) (j := 2) (by decide), getD_set ls (i := 11) (j := 3) (by decide), getD_set ls (i := 11) (j := 4) (by decide), getD_set ls (i := 11) (j := 5) (by decide), getD_set ls (i := 11) (j := 6) (by decide), getD_set ls (i := 11) (j := 7) (by decide), getD_set ls (i := 11) (j := 8) (by decide), getD_set ls (i := 11) (j := 9) (by decide), getD_set ls (i := 11) (j := 10) (by decide), getD_set ls (i := 11) (j := 12) (by decide), getD_set ls (i := 11) (j := 13) (by decide), getD_set ls (i := 11) (j := 14) (by decide)]
              exact ⟨v17, v18, v19, v20, v21, v22, v23, v24, v25, v26, _, _, v29, v30, v31, rfl, by simp [hl], hB, g0, g1, g2, g3, g4, g5, g6, g7, g8, g9, fun _ => rfl, fun _ => rfl, g12, g13, g14⟩
            · rintro ls ac w' hr ⟨v17, v18, v19, v20, v21, v22, v23, v24, v25, v26, v27, v28, v29, v30, v31, rfl, hl, hB, g0, g1, g2, g3, g4, g5, g6, g7, g8, g9, g10, g11, g12, g13, g14⟩
              have d11 : ls.getD 11 false = true := (ready_dep hr rfl).2 ⟨11, .guard⟩ (by simp) rfl
              obtain rfl := g11 d11
              refine wpOp_step rfl (fun K hK => ?_)
              clear hr
              go_simp
              refine hK _ _ ?_
              simp only [getD_own (l := ls) (i := 12) (by omega), getD_set ls (i := 12) (j := 0) (by decide), getD_set ls (i := 12) (j := 1) (by decide), getD_set ls (i := 12) (j := 2) (by decide), getD_set ls (i := 12) (j := 3) (by decide), getD_set ls (i := 12) (j := 4) (by decide), getD_set ls (i := 12) (j := 5) (by decide), getD_set ls (i := 12) (j := 6) (by decide), getD_set ls (i := 12) (j := 7) (by decide), getD_set ls (i := 12) (j := 8) (by decide), getD_set ls (i := 12) (j := 9) (by decide), getD_set ls (i := 12) (j := 10) (by decide), getD_set ls (i := 12) (j := 11) (by decide), getD_set ls (i := 12) (j := 13) (by decide), getD_set ls (i := 12) (j := 14) (by decide)]
              exact ⟨v17, v18, v19, v20, v21, v22, v23, v24, v25, v26, v27, _, _, v30, v31, rfl, by simp [hl], hB, g0, g1, g2, g3, g4, g5, g6, g7, g8, g9, g10, fun _ => rfl, fun _ => rfl, g13, g14⟩
            · rintro ls ac w' hr ⟨v17, v18, v19, v20, v21, v22, v23, v24, v25, v26, v27, v28, v29, v30, v31, rfl, hl, hB, g0, g1, g2, g3, g4, g5, g6, g7, g8, g9, g10, g11, g12, g13, g14⟩
              have d12 : ls.getD 12 false = true := (ready_dep hr rfl).2 ⟨12, .data⟩ (by simp) rfl
              have d11 : ls.getD 11 false = true := (ready_dep hr rfl).2 ⟨11, .guard⟩ (by simp) rfl
              obtain rfl := g12 d12
              obtain rfl := g11 d11
              refine wpOp_step rfl (fun K hK => ?_)
              clear hr
              go_simp
              refine hK _ _ ?_
              simp only [getD_own (l := ls) (i := 13) (by omega), getD_set ls (i := 13) (j := 0) (by decide), getD_set ls (i := 13) (j := 1) (by decide), getD_set ls (i := 13) (j := 2) (by decide), getD_set ls (i := 13) (j := 3) (by decide), getD_set ls (i := 13) (j := 4) (by decide), getD_set ls (i := 13) (j := 5) (by decide), getD_set ls (i := 13) (j := 6) (by decide), getD_set ls (i := 13) (j := 7) (by decide), getD_set ls (i := 13) (j := 8) (by decide), getD_set ls (i := 13) (j := 9) (by decide), getD_set ls (i := 13) (j := 10) (by decide), getD_set ls (i := 13) (j := 11) (by decide), getD_set ls (i := 13) (j := 12) (by decide), getD_set ls (i := 13) (j := 14) (by decide)]
              exact ⟨v17, v18, v19, v20, v21, v22, v23, v24, v25, v26, v27, _, _, _, v31, rfl, by simp [hl], hB, g0, g1, g2, g3, g4, g5, g6, g7, g8, g9, g10, fun _ => rfl, fun _ => rfl, fun _ => rfl, g14⟩
            · rintro ls ac w' hr ⟨v17, v18, v19, v20, v21, v22, v23, v24, v25, v26, v27, v28, v29, v30, v31, rfl, hl, hB, g0, g1, g2, g3, g4, g5, g6, g7, g8, g9, g10, g11, g12, g13, g14⟩
              have d11 : ls.getD 11 false = true := (ready_dep hr rfl).2 ⟨11, .data⟩ (by simp) rfl
              have d13 : ls.getD 13 false = true := (ready_dep hr rfl).2 ⟨13, .data⟩ (by simp) rfl
              obtain rfl := g11 d11
              obtain rfl := g13 d13
              refine wpOp_step rfl (fun K hK => ?_)
              clear hr
              go_simp
              refine hK _ _ ?_
              simp only [getD_own (l := ls) (i := 14) (by omega), getD_set ls (i := 14) (j := 0) (by decide), getD_set ls (i := 14) (j := 1) (by decide), getD_set ls (i := 14) (j := 2) (by decide), getD_set ls (i := 14) (j := 3) (by decide), getD_set ls (i := 14) (j := 4) (by decide), getD_set ls (i := 14) (j := 5) (by decide), getD_set ls (i := 14) (j := 6) (by decide), getD_set ls (i := 14) (j := 7) (by decide), getD_set ls (i := 14) (j := 8) (by decide), getD_set ls (i := 14) (j := 9) (by decide), getD_set ls (i := 14) (j := 10) (by decide), getD_set ls (i := 14) (j := 11) (by decide), getD_set ls (i := 14) (j := 12) (by decide), getD_set ls (i := 14) (j := 13) (by decide)]
              exact ⟨v17, v18, v19, v20, v21, v22, v23, v24, v25, v26, v27, _, v29, _, _, rfl, by simp [hl], hB, g0, g1, g2, g3, g4, g5, g6, g7, g8, g9, g10, fun _ => rfl, g12, fun _ => rfl, fun _ => rfl⟩
          · rintro ls ac w' ⟨v17, v18, v19, v20, v21, v22, v23, v24, v25, v26, v27, v28, v29, v30, v31, rfl, hl, hB, g0, g1, g2, g3, g4, g5, g6, g7, g8, g9, g10, g11, g12, g13, g14⟩ hr
            have hall := ready_allb (by decide) hl hr
            obtain rfl := g14 (hall 14 (by decide))
            go_wp2_with fail
            go_meet
            exact ⟨rfl, Lib.hid (bstep (bstep (brefl _) hb1) hB), Lib.hid ⟨q1_1_0.keep hB, q1_1_1.keep hB, q1_1_2.keep hB⟩⟩
  case rest =>
    obtain ⟨rfl, HB, HO⟩ := hcut
    have hwc := HB.out
    have q0 := HO.out.1
    have q1 := HO.out.2.1
    have q2 := HO.out.2.2
    have c0 := q0.1
    have c1 := q1.1
    have c2 := q2.1
    have hbc := ltc c0
    have hx := HX.out
    have hc := HC.out
    have hg := HG.out
    have hs := HS.out
    clear HB HX HC HG HS
    cases c with
    | true =>
      obtain ⟨rfl, rfl, rfl⟩ : l = l' ∧ a = a' ∧ 190 = r := by
        unfold goP at hx; rw [if_pos (by rw [hg, hs]; simp only [Bool.or_eq_true, decide_eq_true_eq] at hc; exact hc)] at hx; simpa using hx
      clear hx hc hg hs
      go_wp2
      go_ret
      exact ⟨rfl, Only.of (by repeat (first | exact brefl _ | refine balloc ?_ _ | refine bdrewN ?_ _ | refine bset ?_ (by dsimp only; omega) _ | refine bstep ?_ (by assumption))) (Nat.le_of_lt hbw), HO.out⟩
    | false =>
      simp only [Bool.or_eq_false_iff, decide_eq_false_iff_not, Bool.not_eq_false] at hc
      obtain ⟨rfl, g2, g3⟩ := hc
      have hle := gain_le hg
      have hg0 := (gain_true hg).1
      unfold goP at hx
      rw [hg, hs, if_neg (by rintro (z | z | z) <;> first | cases z | omega)] at hx
      dsimp only at hx
      have hw1 : IntKind.i64.wrap (l + p) = l + p := by rw [IntKind.wrap_i64]; omega
      have hw2 : IntKind.i64.wrap (l + p + n) = l + p + n := by rw [IntKind.wrap_i64]; omega
      have hw3 : IntKind.i64.wrap (a + p) = a + p := by rw [IntKind.wrap_i64]; omega
      go_upto_region 5 with (fail)
      go_cut [10] (fun v10 wd => ∃ bx, v10 = .pointer (some ⟨bx, 0, none⟩) ∧ wc.heap.size ≤ bx ∧ Hid (Below wc.heap.size wc wd) ∧ Hid (PairAt wd bx (l + p + n) (a + p)))
      case first =>
        refine wp_region_inv (by kernel_rfl) (fun ls ac w' => ∃ v10 v32 v33 v34 v35 v36 v37 v38 v39 v40 v41 v42 v43 v44 v45 v46 v47 v48, ac = ⟨#[.pointer (some ⟨b, 0, none⟩), .int .i64 p, .int .i64 q, undef, undef, undef, .int .i64 0, .int .i64 n, .bool true, .func (.func 21) #[] #[], v10, u11, u12, u13, u14, u15, u16, u17, u18, u19, u20, u21, u22, u23, u24, u25, u26, u27, u28, u29, u30, .bool false, v32, v33, v34, v35, v36, v37, v38, v39, v40, v41, v42, v43, v44, v45, v46, v47, v48, u49, u50, u51, u52, u53, u54, u55, u56, u57, u58, u59, u60, u61, u62], []⟩ ∧ ls.size = 19 ∧ Below wc.heap.size wc w' ∧ (ls.getD 0 false = true → v32 = .pointer (some ⟨b, 0, none⟩)) ∧ (ls.getD 1 false = true → v33 = .pointer (some ⟨b, 0, none⟩)) ∧ (ls.getD 2 false = true → v34 = .pointer (some ⟨b, 0, none⟩)) ∧ (ls.getD 3 false = true → v35 = .pointer (some ⟨b, 0, none⟩)) ∧ (ls.getD 4 false = true → v36 = .int .i64 l) ∧ (ls.getD 5 false = true → v37 = .int .i64 p) ∧ (ls.getD 6 false = true → v38 = .int .i64 (l + p)) ∧ (ls.getD 7 false = true → v39 = .int .i64 n) ∧ (ls.getD 8 false = true → v40 = .int .i64 (l + p + n)) ∧ (ls.getD 9 false = true → v41 = .pointer (some ⟨b, 0, none⟩)) ∧ (ls.getD 10 false = true → v42 = .pointer (some ⟨b, 0, none⟩)) ∧ (ls.getD 11 false = true → v43 = .pointer (some ⟨b, 0, none⟩)) ∧ (ls.getD 12 false = true → v44 = .pointer (some ⟨b, 1, none⟩)) ∧ (ls.getD 13 false = true → v45 = .int .i64 a) ∧ (ls.getD 14 false = true → v46 = .int .i64 p) ∧ (ls.getD 15 false = true → v47 = .int .i64 (a + p)) ∧ (ls.getD 16 false = true → v48 = .agg #[.int .i64 (l + p + n), .int .i64 (a + p)]) ∧ (ls.getD 17 false = true → ∃ b, v10 = .pointer (some ⟨b, 0, none⟩) ∧ wc.heap.size ≤ b ∧ (ls.getD 18 false = false → PairAt w' b 0 0) ∧ (ls.getD 18 false = true → PairAt w' b (l + p + n) (a + p))) ∧ (ls.getD 18 false = true → ls.getD 17 false = true)) ?_ ?_ ?_
        · exact ⟨_, _, _, _, _, _, _, _, _, _, _, _, _, _, _, _, _, _, rfl, rfl, bdrew (brefl _), fun h => (by cases h), fun h => (by cases h), fun h => (by cases h), fun h => (by cases h), fun h => (by cases h), fun h => (by cases h), fun h => (by cases h), fun h => (by cases h), fun h => (by cases h), fun h => (by cases h), fun h => (by cases h), fun h => (by cases h), fun h => (by cases h), fun h => (by cases h), fun h => (by cases h), fun h => (by cases h), fun h => (by cases h), fun h => (by cases h), fun h => (by cases h)⟩
        · intro i hii
          have hin : i < 19 := hii
          have hor : i = 0 ∨ i = 1 ∨ i = 2 ∨ i = 3 ∨ i = 4 ∨ i = 5 ∨ i = 6 ∨ i = 7 ∨ i = 8 ∨ i = 9 ∨ i = 10 ∨ i = 11 ∨ i = 12 ∨ i = 13 ∨ i = 14 ∨ i = 15 ∨ i = 16 ∨ i = 17 ∨ i = 18 := by omega
          rcases hor with rfl | rfl | rfl | rfl | rfl | rfl | rfl | rfl | rfl | rfl | rfl | rfl | rfl | rfl | rfl | rfl | rfl | rfl | rfl
          · rintro ls ac w' hr ⟨v10, v32, v33, v34, v35, v36, v37, v38, v39, v40, v41, v42, v43, v44, v45, v46, v47, v48, rfl, hl, hB, g0, g1, g2, g3, g4, g5, g6, g7, g8, g9, g10, g11, g12, g13, g14, g15, g16, h1, k1⟩
            refine wpOp_step rfl (fun K hK => ?_)
            clear hr
            go_simp
            refine hK _ _ ?_
            simp only [getD_own (l := ls) (i := 0) (by omega), getD_set ls (i := 0) (j := 1) (by decide), getD_set ls (i := 0) (j := 2) (by decide), getD_set ls (i := 0) (j := 3) (by decide), getD_set ls (i := 0) (j := 4) (by decide), getD_set ls (i := 0) (j := 5) (by decide), getD_set ls (i := 0) (j := 6) (by decide), getD_set ls (i := 0) (j := 7) (by decide), getD_set ls (i := 0) (j := 8) (by decide), getD_set ls (i := 0) (j := 9) (by decide), getD_set ls (i := 0) (j := 10) (by decide), getD_set ls (i := 0) (j := 11) (by decide), getD_set ls (i := 0) (j := 12) (by decide), getD_set ls (i := 0) (j := 13) (by decide), getD_set ls (i := 0) (j := 14) (by decide), getD_set ls (i := 0) (j := 15) (by decide), getD_set ls (i := 0) (j := 16) (by decide), getD_set ls (i := 0) (j := 17) (by decide), getD_set ls (i := 0) (j := 18) (by decide)]
            exact ⟨v10, _, v33, v34, v35, v36, v37, v38, v39, v40, v41, v42, v43, v44, v45, v46, v47, v48, rfl, by simp [hl], hB, fun _ => rfl, g1, g2, g3, g4, g5, g6, g7, g8, g9, g10, g11, g12, g13, g14, g15, g16, h1, k1⟩
          · rintro ls ac w' hr ⟨v10, v32, v33, v34, v35, v36, v37, v38, v39, v40, v41, v42, v43, v44, v45, v46, v47, v48, rfl, hl, hB, g0, g1, g2, g3, g4, g5, g6, g7, g8, g9, g10, g11, g12, g13, g14, g15, g16, h1, k1⟩
            have d0 : ls.getD 0 false = true := (ready_dep hr rfl).2 ⟨0, .data⟩ (by simp) rfl
            obtain rfl := g0 d0
            refine wpOp_step rfl (fun K hK => ?_)
            clear hr
            go_simp
            refine hK _ _ ?_
            simp only [getD_own (l := ls) (i := 1) (by omega), getD_set ls (i := 1) (j := 0) (by decide), getD_set ls (i := 1) (j := 2) (by decide), getD_set ls (i := 1) (j := 3) (by decide), getD_set ls (i := 1) (j := 4) (by decide), getD_set ls (i := 1) (j := 5) (by decide), getD_set ls (i := 1) (j := 6) (by decide), getD_set ls (i := 1) (j := 7) (by decide), getD_set ls (i := 1) (j := 8) (by decide), getD_set ls (i := 1) (j := 9) (by decide), getD_set ls (i := 1) (j := 10) (by decide), getD_set ls (i := 1) (j := 11) (by decide), getD_set ls (i := 1) (j := 12) (by decide), getD_set ls (i := 1) (j := 13) (by decide), getD_set ls (i := 1) (j := 14) (by decide), getD_set ls (i := 1) (j := 15) (by decide), getD_set ls (i := 1) (j := 16) (by decide), getD_set ls (i := 1) (j := 17) (by decide), getD_set ls (i := 1) (j := 18) (by decide)]
            exact ⟨v10, _, _, v34, v35, v36, v37, v38, v39, v40, v41, v42, v43, v44, v45, v46, v47, v48, rfl, by simp [hl], hB, fun _ => rfl, fun _ => rfl, g2, g3, g4, g5, g6, g7, g8, g9, g10, g11, g12, g13, g14, g15, g16, h1, k1⟩
          · rintro ls ac w' hr ⟨v10, v32, v33, v34, v35, v36, v37, v38, v39, v40, v41, v42, v43, v44, v45, v46, v47, v48, rfl, hl, hB, g0, g1, g2, g3, g4, g5, g6, g7, g8, g9, g10, g11, g12, g13, g14, g15, g16, h1, k1⟩
            have d1 : ls.getD 1 false = true := (ready_dep hr rfl).2 ⟨1, .data⟩ (by simp) rfl
            obtain rfl := g1 d1
            refine wpOp_step rfl (fun K hK => ?_)
            clear hr
            go_simp
            refine hK _ _ ?_
            simp only [getD_own (l := ls) (i := 2) (by omega), getD_set ls (i := 2) (j := 0) (by decide), getD_set ls (i := 2) (j := 1) (by decide), getD_set ls (i := 2) (j := 3) (by decide), getD_set ls (i := 2) (j := 4) (by decide), getD_set ls (i := 2) (j := 5) (by decide), getD_set ls (i := 2) (j := 6) (by decide), getD_set ls (i := 2) (j := 7) (by decide), getD_set ls (i := 2) (j := 8) (by decide), getD_set ls (i := 2) (j := 9) (by decide), getD_set ls (i := 2) (j := 10) (by decide), getD_set ls (i := 2) (j := 11) (by decide), getD_set ls (i := 2) (j := 12) (by decide), getD_set ls (i := 2) (j := 13) (by decide), getD_set ls (i := 2) (j := 14) (by decide), getD_set ls (i := 2) (j := 15) (by decide), getD_set ls (i := 2) (j := 16) (by decide), getD_set ls (i := 2) (j := 17) (by decide), getD_set ls (i := 2) (j := 18) (by decide)]
            exact ⟨v10, v32, _, _, v35, v36, v37, v38, v39, v40, v41, v42, v43, v44, v45, v46, v47, v48, rfl, by simp [hl], hB, g0, fun _ => rfl, fun _ => rfl, g3, g4, g5, g6, g7, g8, g9, g10, g11, g12, g13, g14, g15, g16, h1, k1⟩
          · rintro ls ac w' hr ⟨v10, v32, v33, v34, v35, v36, v37, v38, v39, v40, v41, v42, v43, v44, v45, v46, v47, v48, rfl, hl, hB, g0, g1, g2, g3, g4, g5, g6, g7, g8, g9, g10, g11, g12, g13, g14, g15, g16, h1, k1⟩
            have d2 : ls.getD 2 false = true := (ready_dep hr rfl).2 ⟨2, .data⟩ (by simp) rfl
            obtain rfl := g2 d2
            refine wpOp_step rfl (fun K hK => ?_)
            clear hr
            go_simp
            refine hK _ _ ?_
            simp only [getD_own (l := ls) (i := 3) (by omega), getD_set ls (i := 3) (j := 0) (by decide), getD_set ls (i := 3) (j := 1) (by decide), getD_set ls (i := 3) (j := 2) (by decide), getD_set ls (i := 3) (j := 4) (by decide), getD_set ls (i := 3) (j := 5) (by decide), getD_set ls (i := 3) (j := 6) (by decide), getD_set ls (i := 3) (j := 7) (by decide), getD_set ls (i := 3) (j := 8) (by decide), getD_set ls (i := 3) (j := 9) (by decide), getD_set ls (i := 3) (j := 10) (by decide), getD_set ls (i := 3) (j := 11) (by decide), getD_set ls (i := 3) (j := 12) (by decide), getD_set ls (i := 3) (j := 13) (by decide), getD_set ls (i := 3) (j := 14) (by decide), getD_set ls (i := 3) (j := 15) (by decide), getD_set ls (i := 3) (j := 16) (by decide), getD_set ls (i := 3) (j := 17) (by decide), getD_set ls (i := 3) (j := 18) (by decide)]
            exact ⟨v10, v32, v33, _, _, v36, v37, v38, v39, v40, v41, v42, v43, v44, v45, v46, v47, v48, rfl, by simp [hl], hB, g0, g1, fun _ => rfl, fun _ => rfl, g4, g5, g6, g7, g8, g9, g10, g11, g12, g13, g14, g15, g16, h1, k1⟩
          · rintro ls ac w' hr ⟨v10, v32, v33, v34, v35, v36, v37, v38, v39, v40, v41, v42, v43, v44, v45, v46, v47, v48, rfl, hl, hB, g0, g1, g2, g3, g4, g5, g6, g7, g8, g9, g10, g11, g12, g13, g14, g15, g16, h1, k1⟩
            have d3 : ls.getD 3 false = true := (ready_dep hr rfl).2 ⟨3, .data⟩ (by simp) rfl
            obtain rfl := g3 d3
            have a0 := (hB.cell (ltc c0)).trans c0
            have a1 := (hB.cell (ltc c1)).trans c1
            refine wpOp_step rfl (fun K hK => ?_)
            clear hr
            go_simp
            refine hK _ _ ?_
            simp only [getD_own (l := ls) (i := 4) (by omega), getD_set ls (i := 4) (j := 0) (by decide), getD_set ls (i := 4) (j := 1) (by decide), getD_set ls (i := 4) (j := 2) (by decide), getD_set ls (i := 4) (j := 3) (by decide), getD_set ls (i := 4) (j := 5) (by decide), getD_set ls (i := 4) (j := 6) (by decide), getD_set ls (i := 4) (j := 7) (by decide), getD_set ls (i := 4) (j := 8) (by decide), getD_set ls (i := 4) (j := 9) (by decide), getD_set ls (i := 4) (j := 10) (by decide), getD_set ls (i := 4) (j := 11) (by decide), getD_set ls (i := 4) (j := 12) (by decide), getD_set ls (i := 4) (j := 13) (by decide), getD_set ls (i := 4) (j := 14) (by decide), getD_set ls (i := 4) (j := 15) (by decide), getD_set ls (i := 4) (j := 16) (by decide), getD_set ls (i := 4) (j := 17) (by decide), getD_set ls (i := 4) (j := 18) (by decide)]
            exact ⟨v10, v32, v33, v34, _, _, v37, v38, v39, v40, v41, v42, v43, v44, v45, v46, v47, v48, rfl, by simp [hl], hB, g0, g1, g2, fun _ => rfl, fun _ => rfl, g5, g6, g7, g8, g9, g10, g11, g12, g13, g14, g15, g16, h1, k1⟩
          · rintro ls ac w' hr ⟨v10, v32, v33, v34, v35, v36, v37, v38, v39, v40, v41, v42, v43, v44, v45, v46, v47, v48, rfl, hl, hB, g0, g1, g2, g3, g4, g5, g6, g7, g8, g9, g10, g11, g12, g13, g14, g15, g16, h1, k1⟩
            refine wpOp_step rfl (fun K hK => ?_)
            clear hr
            go_simp
            refine hK _ _ ?_
            simp only [getD_own (l := ls) (i := 5) (by omega), getD_set ls (i := 5) (j := 0) (by decide), getD_set ls (i := 5) (j := 1) (by decide), getD_set ls (i := 5) (j := 2) (by decide), getD_set ls (i := 5) (j := 3) (by decide), getD_set ls (i := 5) (j := 4) (by decide), getD_set ls (i := 5) (j := 6) (by decide), getD_set ls (i := 5) (j := 7) (by decide), getD_set ls (i := 5) (j := 8) (by decide), getD_set ls (i := 5) (j := 9) (by decide), getD_set ls (i := 5) (j := 10) (by decide), getD_set ls (i := 5) (j := 11) (by decide), getD_set ls (i := 5) (j := 12) (by decide), getD_set ls (i := 5) (j := 13) (by decide), getD_set ls (i := 5) (j := 14) (by decide), getD_set ls (i := 5) (j := 15) (by decide), getD_set ls (i := 5) (j := 16) (by decide), getD_set ls (i := 5) (j := 17) (by decide), getD_set ls (i := 5) (j := 18) (by decide)]
            exact ⟨v10, v32, v33, v34, v35, v36, _, v38, v39, v40, v41, v42, v43, v44, v45, v46, v47, v48, rfl, by simp [hl], hB, g0, g1, g2, g3, g4, fun _ => rfl, g6, g7, g8, g9, g10, g11, g12, g13, g14, g15, g16, h1, k1⟩
          · rintro ls ac w' hr ⟨v10, v32, v33, v34, v35, v36, v37, v38, v39, v40, v41, v42, v43, v44, v45, v46, v47, v48, rfl, hl, hB, g0, g1, g2, g3, g4, g5, g6, g7, g8, g9, g10, g11, g12, g13, g14, g15, g16, h1, k1⟩
            have d4 : ls.getD 4 false = true := (ready_dep hr rfl).2 ⟨4, .data⟩ (by simp) rfl
            have d5 : ls.getD 5 false = true := (ready_dep hr rfl).2 ⟨5, .data⟩ (by simp) rfl
            obtain rfl := g4 d4
            obtain rfl := g5 d5
            refine wpOp_step rfl (fun K hK => ?_)
            clear hr
            go_simp
            refine hK _ _ ?_
            simp only [getD_own (l := ls) (i := 6) (by omega), getD_set ls (i := 6) (j := 0) (by decide), getD_set ls (i := 6) (j := 1) (by decide), getD_set ls (i := 6) (j := 2) (by decide), getD_set ls (i := 6) (j := 3) (by decide), getD_set ls (i := 6) (j := 4) (by decide), getD_set ls (i := 6) (j := 5) (by decide), getD_set ls (i := 6) (j := 7) (by decide), getD_set ls (i := 6) (j := 8) (by decide), getD_set ls (i := 6) (j := 9) (by decide), getD_set ls (i := 6) (j := 10) (by decide), getD_set ls (i := 6) (j := 11) (by decide), getD_set ls (i := 6) (j := 12) (by decide), getD_set ls (i := 6) (j := 13) (by decide), getD_set ls (i := 6) (j := 14) (by decide), getD_set ls (i := 6) (j := 15) (by decide), getD_set ls (i := 6) (j := 16) (by decide), getD_set ls (i := 6) (j := 17) (by decide), getD_set ls (i := 6) (j := 18) (by decide)]
            exact ⟨v10, v32, v33, v34, v35, _, _, _, v39, v40, v41, v42, v43, v44, v45, v46, v47, v48, rfl, by simp [hl], hB, g0, g1, g2, g3, fun _ => rfl, fun _ => rfl, fun _ => rfl, g7, g8, g9, g10, g11, g12, g13, g14, g15, g16, h1, k1⟩
          · rintro ls ac w' hr ⟨v10, v32, v33, v34, v35, v36, v37, v38, v39, v40, v41, v42, v43, v44, v45, v46, v47, v48, rfl, hl, hB, g0, g1, g2, g3, g4, g5, g6, g7, g8, g9, g10, g11, g12, g13, g14, g15, g16, h1, k1⟩
            refine wpOp_step rfl (fun K hK => ?_)
            clear hr
            go_simp
            refine hK _ _ ?_
            simp only [getD_own (l := ls) (i := 7) (by omega), getD_set ls (i := 7) (j := 0) (by decide), getD_set ls (i := 7) (j := 1) (by decide), getD_set ls (i := 7) (j := 2) (by decide), getD_set ls (i := 7) (j := 3) (by decide), getD_set ls (i := 7) (j := 4) (by decide), getD_set ls (i := 7) (j := 5) (by decide), getD_set ls (i := 7) (j := 6) (by decide), getD_set ls (i := 7) (j := 8) (by decide), getD_set ls (i := 7) (j := 9) (by decide), getD_set ls (i := 7) (j := 10) (by decide), getD_set ls (i := 7) (j := 11) (by decide), getD_set ls (i := 7) (j := 12) (by decide), getD_set ls (i := 7) (j := 13) (by decide), getD_set ls (i := 7) (j := 14) (by decide), getD_set ls (i := 7) (j := 15) (by decide), getD_set ls (i := 7) (j := 16) (by decide), getD_set ls (i := 7) (j := 17) (by decide), getD_set ls (i := 7) (j := 18) (by decide)]
            exact ⟨v10, v32, v33, v34, v35, v36, v37, v38, _, v40, v41, v42, v43, v44, v45, v46, v47, v48, rfl, by simp [hl], hB, g0, g1, g2, g3, g4, g5, g6, fun _ => rfl, g8, g9, g10, g11, g12, g13, g14, g15, g16, h1, k1⟩
          · rintro ls ac w' hr ⟨v10, v32, v33, v34, v35, v36, v37, v38, v39, v40, v41, v42, v43, v44, v45, v46, v47, v48, rfl, hl, hB, g0, g1, g2, g3, g4, g5, g6, g7, g8, g9, g10, g11, g12, g13, g14, g15, g16, h1, k1⟩
            have d6 : ls.getD 6 false = true := (ready_dep hr rfl).2 ⟨6, .data⟩ (by simp) rfl
            have d7 : ls.getD 7 false = true := (ready_dep hr rfl).2 ⟨7, .data⟩ (by simp) rfl
            obtain rfl := g6 d6
            obtain rfl := g7 d7
            refine wpOp_step rfl (fun K hK => ?_)
            clear hr
            go_simp
            refine hK _ _ ?_
            simp only [getD_own (l := ls) (i := 8) (by omega), getD_set ls (i := 8) (j := 0) (by decide), getD_set ls (i := 8) (j := 1) (by decide), getD_set ls (i := 8) (j := 2) (by decide), getD_set ls (i := 8) (j := 3) (by decide), getD_set ls (i := 8) (j := 4) (by decide), getD_set ls (i := 8) (j := 5) (by decide), getD_set ls (i := 8) (j := 6) (by decide), getD_set ls (i := 8) (j := 7) (by decide), getD_set ls (i := 8) (j := 9) (by decide), getD_set ls (i := 8) (j := 10) (by decide), getD_set ls (i := 8) (j := 11) (by decide), getD_set ls (i := 8) (j := 12) (by decide), getD_set ls (i := 8) (j := 13) (by decide), getD_set ls (i := 8) (j := 14) (by decide), getD_set ls (i := 8) (j := 15) (by decide), getD_set ls (i := 8) (j := 16) (by decide), getD_set ls (i := 8) (j := 17) (by decide), getD_set ls (i := 8) (j := 18) (by decide)]
            exact ⟨v10, v32, v33, v34, v35, v36, v37, _, _, _, v41, v42, v43, v44, v45, v46, v47, v48, rfl, by simp [hl], hB, g0, g1, g2, g3, g4, g5, fun _ => rfl, fun _ => rfl, fun _ => rfl, g9, g10, g11, g12, g13, g14, g15, g16, h1, k1⟩
          · rintro ls ac w' hr ⟨v10, v32, v33, v34, v35, v36, v37, v38, v39, v40, v41, v42, v43, v44, v45, v46, v47, v48, rfl, hl, hB, g0, g1, g2, g3, g4, g5, g6, g7, g8, g9, g10, g11, g12, g13, g14, g15, g16, h1, k1⟩
            refine wpOp_step rfl (fun K hK => ?_)
            clear hr
            go_simp
            refine hK _ _ ?_
            simp only [getD_own (l := ls) (i := 9) (by omega), getD_set ls (i := 9) (j := 0) (by decide), getD_set ls (i := 9) (j := 1) (by decide), getD_set ls (i := 9) (j := 2) (by decide), getD_set ls (i := 9) (j := 3) (by decide), getD_set ls (i := 9) (j := 4) (by decide), getD_set ls (i := 9) (j := 5) (by decide), getD_set ls (i := 9) (j := 6) (by decide), getD_set ls (i := 9) (j := 7) (by decide), getD_set ls (i := 9) (j := 8) (by decide), getD_set ls (i := 9) (j := 10) (by decide), getD_set ls (i := 9) (j := 11) (by decide), getD_set ls (i := 9) (j := 12) (by decide), getD_set ls (i := 9) (j := 13) (by decide), getD_set ls (i := 9) (j := 14) (by decide), getD_set ls (i := 9) (j := 15) (by decide), getD_set ls (i := 9) (j := 16) (by decide), getD_set ls (i := 9) (j := 17) (by decide), getD_set ls (i := 9) (j := 18) (by decide)]
            exact ⟨v10, v32, v33, v34, v35, v36, v37, v38, v39, v40, _, v42, v43, v44, v45, v46, v47, v48, rfl, by simp [hl], hB, g0, g1, g2, g3, g4, g5, g6, g7, g8, fun _ => rfl, g10, g11, g12, g13, g14, g15, g16, h1, k1⟩
          · rintro ls ac w' hr ⟨v10, v32, v33, v34, v35, v36, v37, v38, v39, v40, v41, v42, v43, v44, v45, v46, v47, v48, rfl, hl, hB, g0, g1, g2, g3, g4, g5, g6, g7, g8, g9, g10, g11, g12, g13, g14, g15, g16, h1, k1⟩
            have d9 : ls.getD 9 false = true := (ready_dep hr rfl).2 ⟨9, .data⟩ (by simp) rfl
            obtain rfl := g9 d9
            refine wpOp_step rfl (fun K hK => ?_)
            clear hr
            go_simp
            refine hK _ _ ?_
            simp only [getD_own (l := ls) (i := 10) (by omega), getD_set ls (i := 10) (j := 0) (by decide), getD_set ls (i := 10) (j := 1) (by decide), getD_set ls (i := 10) (j := 2) (by decide), getD_set ls (i := 10) (j := 3) (by decide), getD_set ls (i := 10) (j := 4) (by decide), getD_set ls (i := 10) (j := 5) (by decide), getD_set ls (i := 10) (j := 6) (by decide), getD_set ls (i := 10) (j := 7) (by decide), getD_set ls (i := 10) (j := 8) (by decide), getD_set ls (i := 10) (j := 9) (by decide), getD_set ls (i := 10) (j := 11) (by decide), getD_set ls (i := 10) (j := 12) (by decide), getD_set ls (i := 10) (j := 13) (by decide), getD_set ls (i := 10) (j := 14) (by decide), getD_set ls (i := 10) (j := 15) (by decide), getD_set ls (i := 10) (j := 16) (by decide), getD_set ls (i := 10) (j := 17) (by decide), getD_set ls (i := 10) (j := 18) (by decide)]
            exact ⟨v10, v32, v33, v34, v35, v36, v37, v38, v39, v40, _, _, v43, v44, v45, v46, v47, v48, rfl, by simp [hl], hB, g0, g1, g2, g3, g4, g5, g6, g7, g8, fun _ => rfl, fun _ => rfl, g11, g12, g13, g14, g15, g16, h1, k1⟩
          · rintro ls ac w' hr ⟨v10, v32, v33, v34, v35, v36, v37, v38, v39, v40, v41, v42, v43, v44, v45, v46, v47, v48, rfl, hl, hB, g0, g1, g2, g3, g4, g5, g6, g7, g8, g9, g10, g11, g12, g13, g14, g15, g16, h1, k1⟩
            have d10 : ls.getD 10 false = true := (ready_dep hr rfl).2 ⟨10, .data⟩ (by simp) rfl
            obtain rfl := g10 d10
            refine wpOp_step rfl (fun K hK => ?_)
            clear hr
            go_simp
            refine hK _ _ ?_
            simp only [getD_own (l := ls) (i := 11) (by omega), getD_set ls (i := 11) (j := 0) (by decide), getD_set ls (i := 11) (j := 1) (by decide), getD_set ls (i := 11) (j := 2) (by decide), getD_set ls (i := 11) (j := 3) (by decide), getD_set ls (i := 11) (j := 4) (by decide), getD_set ls (i := 11) (j := 5) (by decide), getD_set ls (i := 11) (j := 6) (by decide), getD_set ls (i := 11) (j := 7) (by decide), getD_set ls (i := 11) (j := 8) (by decide), getD_set ls (i := 11) (j := 9) (by decide), getD_set ls (i := 11) (j := 10) (by decide), getD_set ls (i := 11) (j := 12) (by decide), getD_set ls (i := 11) (j := 13) (by decide), getD_set ls (i := 11) (j := 14) (by decide), getD_set ls (i := 11) (j := 15) (by decide), getD_set ls (i := 11) (j := 16) (by decide), getD_set ls (i := 11) (j := 17) (by decide), getD_set ls (i := 11) (j := 18) (by decide)]
            exact ⟨v10, v32, v33, v34, v35, v36, v37, v38, v39, v40, v41, _, _, v44, v45, v46, v47, v48, rfl, by simp [hl], hB, g0, g1, g2, g3, g4, g5, g6, g7, g8, g9, fun _ => rfl, fun _ => rfl, g12, g13, g14, g15, g16, h1, k1⟩
          · rintro ls ac w' hr ⟨v10, v32, v33, v34, v35, v36, v37, v38, v39, v40, v41, v42, v43, v44, v45, v46, v47, v48, rfl, hl, hB, g0, g1, g2, g3, g4, g5, g6, g7, g8, g9, g10, g11, g12, g13, g14, g15, g16, h1, k1⟩
            have d11 : ls.getD 11 false = true := (ready_dep hr rfl).2 ⟨11, .data⟩ (by simp) rfl
            obtain rfl := g11 d11
            refine wpOp_step rfl (fun K hK => ?_)
            clear hr
            go_simp
            refine hK _ _ ?_
            simp only [getD_own (l := ls) (i := 12) (by omega), getD_set ls (i := 12) (j := 0) (by decide), getD_set ls (i := 12) (j := 1) (by decide), getD_set ls (i := 12) (j := 2) (by decide), getD_set ls (i := 12) (j := 3) (by decide), getD_set ls (i := 12) (j := 4) (by decide), getD_set ls (i := 12) (j := 5) (by decide), getD_set ls (i := 12) (j := 6) (by decide), getD_set ls (i := 12) (j := 7) (by decide), getD_set ls (i := 12) (j := 8) (by decide), getD_set ls (i := 12) (j := 9) (by decide), getD_set ls (i := 12) (j := 10) (by decide), getD_set ls (i := 12) (j := 11) (by decide), getD_set ls (i := 12) (j := 13) (by decide), getD_set ls (i := 12) (j := 14) (by decide), getD_set ls (i := 12) (j := 15) (by decide), getD_set ls (i := 12) (j := 16) (by decide), getD_set ls (i := 12) (j := 17) (by decide), getD_set ls (i := 12) (j := 18) (by decide)]
            exact ⟨v10, v32, v33, v34, v35, v36, v37, v38, v39, v40, v41, v42, _, _, v45, v46, v47, v48, rfl, by simp [hl], hB, g0, g1, g2, g3, g4, g5, g6, g7, g8, g9, g10, fun _ => rfl, fun _ => rfl, g13, g14, g15, g16, h1, k1⟩
          · rintro ls ac w' hr ⟨v10, v32, v33, v34, v35, v36, v37, v38, v39, v40, v41, v42, v43, v44, v45, v46, v47, v48, rfl, hl, hB, g0, g1, g2, g3, g4, g5, g6, g7, g8, g9, g10, g11, g12, g13, g14, g15, g16, h1, k1⟩
            have d12 : ls.getD 12 false = true := (ready_dep hr rfl).2 ⟨12, .data⟩ (by simp) rfl
            obtain rfl := g12 d12
            have a0 := (hB.cell (ltc c0)).trans c0
            have a1 := (hB.cell (ltc c1)).trans c1
            refine wpOp_step rfl (fun K hK => ?_)
            clear hr
            go_simp
            refine hK _ _ ?_
            simp only [getD_own (l := ls) (i := 13) (by omega), getD_set ls (i := 13) (j := 0) (by decide), getD_set ls (i := 13) (j := 1) (by decide), getD_set ls (i := 13) (j := 2) (by decide), getD_set ls (i := 13) (j := 3) (by decide), getD_set ls (i := 13) (j := 4) (by decide), getD_set ls (i := 13) (j := 5) (by decide), getD_set ls (i := 13) (j := 6) (by decide), getD_set ls (i := 13) (j := 7) (by decide), getD_set ls (i := 13) (j := 8) (by decide), getD_set ls (i := 13) (j := 9) (by decide), getD_set ls (i := 13) (j := 10) (by decide), getD_set ls (i := 13) (j := 11) (by decide), getD_set ls (i := 13) (j := 12) (by decide), getD_set ls (i := 13) (j := 14) (by decide), getD_set ls (i := 13) (j := 15) (by decide), getD_set ls (i := 13) (j := 16) (by decide), getD_set ls (i := 13) (j := 17) (by decide), getD_set ls (i := 13) (j := 18) (by decide)]
            exact ⟨v10, v32, v33, v34, v35, v36, v37, v38, v39, v40, v41, v42, v43, _, _, v46, v47, v48, rfl, by simp [hl], hB, g0, g1, g2, g3, g4, g5, g6, g7, g8, g9, g10, g11, fun _ => rfl, fun _ => rfl, g14, g15, g16, h1, k1⟩
          · rintro ls ac w' hr ⟨v10, v32, v33, v34, v35, v36, v37, v38, v39, v40, v41, v42, v43, v44, v45, v46, v47, v48, rfl, hl, hB, g0, g1, g2, g3, g4, g5, g6, g7, g8, g9, g10, g11, g12, g13, g14, g15, g16, h1, k1⟩
            refine wpOp_step rfl (fun K hK => ?_)
            clear hr
            go_simp
            refine hK _ _ ?_
            simp only [getD_own (l := ls) (i := 14) (by omega), getD_set ls (i := 14) (j := 0) (by decide), getD_set ls (i := 14) (j := 1) (by decide), getD_set ls (i := 14) (j := 2) (by decide), getD_set ls (i := 14) (j := 3) (by decide), getD_set ls (i := 14) (j := 4) (by decide), getD_set ls (i := 14) (j := 5) (by decide), getD_set ls (i := 14) (j := 6) (by decide), getD_set ls (i := 14) (j := 7) (by decide), getD_set ls (i := 14) (j := 8) (by decide), getD_set ls (i := 14) (j := 9) (by decide), getD_set ls (i := 14) (j := 10) (by decide), getD_set ls (i := 14) (j := 11) (by decide), getD_set ls (i := 14) (j := 12) (by decide), getD_set ls (i := 14) (j := 13) (by decide), getD_set ls (i := 14) (j := 15) (by decide), getD_set ls (i := 14) (j := 16) (by decide), getD_set ls (i := 14) (j := 17) (by decide), getD_set ls (i := 14) (j := 18) (by decide)]
            exact ⟨v10, v32, v33, v34, v35, v36, v37, v38, v39, v40, v41, v42, v43, v44, v45, _, v47, v48, rfl, by simp [hl], hB, g0, g1, g2, g3, g4, g5, g6, g7, g8, g9, g10, g11, g12, g13, fun _ => rfl, g15, g16, h1, k1⟩
          · rintro ls ac w' hr ⟨v10, v32, v33, v34, v35, v36, v37, v38, v39, v40, v41, v42, v43, v44, v45, v46, v47, v48, rfl, hl, hB, g0, g1, g2, g3, g4, g5, g6, g7, g8, g9, g10, g11, g12, g13, g14, g15, g16, h1, k1⟩
            have d13 : ls.getD 13 false = true := (ready_dep hr rfl).2 ⟨13, .data⟩ (by simp) rfl
            have d14 : ls.getD 14 false = true := (ready_dep hr rfl).2 ⟨14, .data⟩ (by simp) rfl
            obtain rfl := g13 d13
            obtain rfl := g14 d14
            refine wpOp_step rfl (fun K hK => ?_)
            clear hr
            go_simp
            refine hK _ _ ?_
            simp only [getD_own (l := ls) (i := 15) (by omega), getD_set ls (i := 15) (j := 0) (by decide), getD_set ls (i := 15) (j := 1) (by decide), getD_set ls (i := 15) (j := 2) (by decide), getD_set ls (i := 15) (j := 3) (by decide), getD_set ls (i := 15) (j := 4) (by decide), getD_set ls (i := 15) (j := 5) (by decide), getD_set ls (i := 15) (j := 6) (by decide), getD_set ls (i := 15) (j := 7) (by decide), getD_set ls (i := 15) (j := 8) (by decide), getD_set ls (i := 15) (j := 9) (by decide), getD_set ls (i := 15) (j := 10) (by decide), getD_set ls (i := 15) (j := 11) (by decide), getD_set ls (i := 15) (j := 12) (by decide), getD_set ls (i := 15) (j := 13) (by decide), getD_set ls (i := 15) (j := 14) (by decide), getD_set ls (i := 15) (j := 16) (by decide), getD_set ls (i := 15) (j := 17) (by decide), getD_set ls (i := 15) (j := 18) (by decide)]
            exact ⟨v10, v32, v33, v34, v35, v36, v37, v38, v39, v40, v41, v42, v43, v44, _, _, _, v48, rfl, by simp [hl], hB, g0, g1, g2, g3, g4, g5, g6, g7, g8, g9, g10, g11, g12, fun _ => rfl, fun _ => rfl, fun _ => rfl, g16, h1, k1⟩
          · rintro ls ac w' hr ⟨v10, v32, v33, v34, v35, v36, v37, v38, v39, v40, v41, v42, v43, v44, v45, v46, v47, v48, rfl, hl, hB, g0, g1, g2, g3, g4, g5, g6, g7, g8, g9, g10, g11, g12, g13, g14, g15, g16, h1, k1⟩
            have d8 : ls.getD 8 false = true := (ready_dep hr rfl).2 ⟨8, .data⟩ (by simp) rfl
            have d15 : ls.getD 15 false = true := (ready_dep hr rfl).2 ⟨15, .data⟩ (by simp) rfl
            obtain rfl := g8 d8
            obtain rfl := g15 d15
            refine wpOp_step rfl (fun K hK => ?_)
            clear hr
            go_simp
            refine hK _ _ ?_
            simp only [getD_own (l := ls) (i := 16) (by omega), getD_set ls (i := 16) (j := 0) (by decide), getD_set ls (i := 16) (j := 1) (by decide), getD_set ls (i := 16) (j := 2) (by decide), getD_set ls (i := 16) (j := 3) (by decide), getD_set ls (i := 16) (j := 4) (by decide), getD_set ls (i := 16) (j := 5) (by decide), getD_set ls (i := 16) (j := 6) (by decide), getD_set ls (i := 16) (j := 7) (by decide), getD_set ls (i := 16) (j := 8) (by decide), getD_set ls (i := 16) (j := 9) (by decide), getD_set ls (i := 16) (j := 10) (by decide), getD_set ls (i := 16) (j := 11) (by decide), getD_set ls (i := 16) (j := 12) (by decide), getD_set ls (i := 16) (j := 13) (by decide), getD_set ls (i := 16) (j := 14) (by decide), getD_set ls (i := 16) (j := 15) (by decide), getD_set ls (i := 16) (j := 17) (by decide), getD_set ls (i := 16) (j := 18) (by decide)]
            exact ⟨v10, v32, v33, v34, v35, v36, v37, v38, v39, _, v41, v42, v43, v44, v45, v46, _, _, rfl, by simp [hl], hB, g0, g1, g2, g3, g4, g5, g6, g7, fun _ => rfl, g9, g10, g11, g12, g13, g14, fun _ => rfl, fun _ => rfl, h1, k1⟩
          · rintro ls ac w' hr ⟨v10, v32, v33, v34, v35, v36, v37, v38, v39, v40, v41, v42, v43, v44, v45, v46, v47, v48, rfl, hl, hB, g0, g1, g2, g3, g4, g5, g6, g7, g8, g9, g10, g11, g12, g13, g14, g15, g16, h1, k1⟩
            have hz := hB.size
            have hn := (ready_dep hr rfl).1
            have hna : ls.getD 17 false = false := by cases hc : ls.getD 17 false with | false => rfl | true => (exfalso; have hs4 := getD_both hc; rw [hs4] at hn; cases hn)
            have hus : ls.getD 18 false = false := by cases hc : ls.getD 18 false with | false => rfl | true => (rw [k1 hc] at hna; cases hna)
            refine wpOp_step rfl (fun K hK => ?_)
            clear hr
            go_simp
            refine hK _ _ ?_
            simp only [getD_own (l := ls) (i := 17) (by omega), getD_set ls (i := 17) (j := 0) (by decide), getD_set ls (i := 17) (j := 1) (by decide), getD_set ls (i := 17) (j := 2) (by decide), getD_set ls (i := 17) (j := 3) (by decide), getD_set ls (i := 17) (j := 4) (by decide), getD_set ls (i := 17) (j := 5) (by decide), getD_set ls (i := 17) (j := 6) (by decide), getD_set ls (i := 17) (j := 7) (by decide), getD_set ls (i := 17) (j := 8) (by decide), getD_set ls (i := 17) (j := 9) (by decide), getD_set ls (i := 17) (j := 10) (by decide), getD_set ls (i := 17) (j := 11) (by decide), getD_set ls (i := 17) (j := 12) (by decide), getD_set ls (i := 17) (j := 13) (by decide), getD_set ls (i := 17) (j := 14) (by decide), getD_set ls (i := 17) (j := 15) (by decide), getD_set ls (i := 17) (j := 16) (by decide), getD_set ls (i := 17) (j := 18) (by decide)]
            exact ⟨_, v32, v33, v34, v35, v36, v37, v38, v39, v40, v41, v42, v43, v44, v45, v46, v47, v48, rfl, by simp [hl], balloc hB _, g0, g1, g2, g3, g4, g5, g6, g7, g8, g9, g10, g11, g12, g13, g14, g15, g16, fun _ => ⟨_, rfl, hz, fun _ => PairAt.new rfl, fun h => (by rw [hus] at h; cases h)⟩, fun _ => (by first | rfl | trivial)⟩
          · rintro ls ac w' hr ⟨v10, v32, v33, v34, v35, v36, v37, v38, v39, v40, v41, v42, v43, v44, v45, v46, v47, v48, rfl, hl, hB, g0, g1, g2, g3, g4, g5, g6, g7, g8, g9, g10, g11, g12, g13, g14, g15, g16, h1, k1⟩
            have d17 : ls.getD 17 false = true := (ready_dep hr rfl).2 ⟨17, .data⟩ (by simp) rfl
            have d16 : ls.getD 16 false = true := (ready_dep hr rfl).2 ⟨16, .data⟩ (by simp) rfl
            obtain rfl := g16 d16
            have hn := (ready_dep hr rfl).1
            have hns : ls.getD 18 false = false := by cases hc : ls.getD 18 false with | false => rfl | true => (exfalso; have hs4 := getD_both hc; rw [hs4] at hn; cases hn)
            obtain ⟨b, rfl, hub, e4, _⟩ := h1 d17
            have hS := e4 hns
            have hT := pair_sets (x := (l + p + n)) (y := (a + p)) hS
            have s0 := (hS).1.1
            have s1 := (hS).2.1
            have s2 := (hS).1.2
            have s3 := (hS).2.2
            refine wpOp_step rfl (fun K hK => ?_)
            clear hr
            clear hS e4
            go_simp
            refine hK _ _ ?_
            simp only [getD_own (l := ls) (i := 18) (by omega), getD_set ls (i := 18) (j := 0) (by decide), getD_set ls (i := 18) (j := 1) (by decide), getD_set ls (i := 18) (j := 2) (by decide), getD_set ls (i := 18) (j := 3) (by decide), getD_set ls (i := 18) (j := 4) (by decide), getD_set ls (i := 18) (j := 5) (by decide), getD_set ls (i := 18) (j := 6) (by decide), getD_set ls (i := 18) (j := 7) (by decide), getD_set ls (i := 18) (j := 8) (by decide), getD_set ls (i := 18) (j := 9) (by decide), getD_set ls (i := 18) (j := 10) (by decide), getD_set ls (i := 18) (j := 11) (by decide), getD_set ls (i := 18) (j := 12) (by decide), getD_set ls (i := 18) (j := 13) (by decide), getD_set ls (i := 18) (j := 14) (by decide), getD_set ls (i := 18) (j := 15) (by decide), getD_set ls (i := 18) (j := 16) (by decide), getD_set ls (i := 18) (j := 17) (by decide)]
            exact ⟨_, v32, v33, v34, v35, v36, v37, v38, v39, v40, v41, v42, v43, v44, v45, v46, v47, _, rfl, by simp [hl], hB.trans (hT.2.2 _ hub), g0, g1, g2, g3, g4, g5, g6, g7, g8, g9, g10, g11, g12, g13, g14, g15, fun _ => rfl, fun _ => ⟨b, rfl, hub, fun h => (by cases h), fun _ => hT.1⟩, fun _ => d17⟩
        · rintro ls ac w' ⟨v10, v32, v33, v34, v35, v36, v37, v38, v39, v40, v41, v42, v43, v44, v45, v46, v47, v48, rfl, hl, hB, g0, g1, g2, g3, g4, g5, g6, g7, g8, g9, g10, g11, g12, g13, g14, g15, g16, h1, k1⟩ hr
          have hall := ready_allb (by decide) hl hr
          obtain ⟨b1, rfl, hub1, _, f1⟩ := h1 (hall 17 (by decide))
          have F1 := f1 (hall 18 (by decide))
          go_wp2_with fail
          go_meet
          exact ⟨b1, rfl, hub1, Lib.hid hB, Lib.hid F1⟩
      case rest =>
        obtain ⟨bx, rfl, hbx, HD, HP⟩ := hcut
        clear hw1 hw2 hw3
        have hwd := HD.out
        have r0 := CellF.keep hwd q0
        have r1 := CellF.keep hwd q1
        have r2 := CellF.keep hwd q2
        clear q0 q1 q2 c0 c1 c2 HO
        have p0 := HP.out.1
        have p1 := HP.out.2
        have d0 := p0.1
        have d1 := p1.1
        have hbd := ltc r0.1
        have hbe := ltc d0
        clear HP HD
        by_cases k1 : 2305843009213693952 < l + p + n
        ·
          rw [if_pos (.inl k1)] at hx
          obtain ⟨rfl, rfl, rfl⟩ : l = l' ∧ a = a' ∧ 190 = r := by simpa using hx
          clear hx hg hs
          have nk1 := decide_eq_true k1
          go_wp2_with fail
          refine (late_is _ _).mono ?_
          rintro e w1 ⟨rfl, hb1⟩
          rw [nk1]
          go_wp2
          go_ret
          exact ⟨rfl, Only.of (by repeat (first | exact brefl _ | refine balloc ?_ _ | refine bdrewN ?_ _ | refine bset ?_ (by dsimp only; omega) _ | refine bstep ?_ (by assumption))) (Nat.le_of_lt hbw), r0.keep hb1, r1.keep hb1, r2.keep hb1⟩
        ·
          have nk1 := decide_eq_false k1
          go_wp2_with fail
          refine (late_is _ _).mono ?_
          rintro e w1 ⟨rfl, hb1⟩
          rw [nk1]
          have e1 := (p1.keep hb1).1
          have e0 := (p0.keep hb1).1
          by_cases k2 : 2305843009213693952 < a + p
          ·
            have nk2 := decide_eq_true k2
            rw [if_pos (.inr k2)] at hx
            obtain ⟨rfl, rfl, rfl⟩ : l = l' ∧ a = a' ∧ 190 = r := by simpa using hx
            clear hx hg hs
            go_wp2_with fail
            refine (late_is _ _).mono ?_
            rintro e w2 ⟨rfl, hb2⟩
            rw [nk2]
            go_wp2
            go_ret
            exact ⟨rfl, Only.of (by repeat (first | exact brefl _ | refine balloc ?_ _ | refine bdrewN ?_ _ | refine bset ?_ (by dsimp only; omega) _ | refine bstep ?_ (by assumption))) (Nat.le_of_lt hbw), (r0.keep hb1).keep hb2, (r1.keep hb1).keep hb2, (r2.keep hb1).keep hb2⟩
          ·
            have nk2 := decide_eq_false k2
            rw [if_neg (by omega)] at hx
            obtain ⟨rfl, rfl, rfl⟩ : l + p + n = l' ∧ a + p = a' ∧ 0 = r := by simpa using hx
            clear hx hg hs
            go_wp2_with fail
            refine (late_is _ _).mono ?_
            rintro e w2 ⟨rfl, hb2⟩
            rw [nk2]
            have s0 := (r0.keep hb1).keep hb2
            have s1 := (r1.keep hb1).keep hb2
            have s2 := (r2.keep hb1).keep hb2
            have t0 := s0.1
            have t1 := s1.1
            have f0 := s0.2
            have f1 := s1.2
            have e2 := ((p0.keep hb1).keep hb2).1
            have e3 := ((p1.keep hb1).keep hb2).1
            have hps := pair_sets (x := l + p + n) (y := a + p) ⟨s0, s1⟩
            have HPS := Lib.hid hps
            clear hps
            go_wp2
            go_ret
            have hps := HPS.out
            have h2 : Below w.heap.size w w2 := (by repeat (first | exact brefl _ | refine balloc ?_ _ | refine bdrewN ?_ _ | refine bset ?_ (by dsimp only; omega) _ | refine bstep ?_ (by assumption)))
            exact ⟨rfl, (Only.of h2 (Nat.le_of_lt hbw)).trans ⟨hps.2.2 _ (Nat.le_refl _), hps.2.1⟩, hps.1.1, hps.1.2, by exact (s2.set_other' _ (fun e => by cases e)).set_other' _ (fun e => by cases e)⟩
end Go.Proofs.Ytdkdckfkhhbfnaa
