/-
  The document's delay: Req.
-/
import Derived.Test.YtnphbdhcoiaklaaZRq
import Derived.Test.YtnphbdhcoiaklaaZGF
import Derived.Test.YtnphbdhcoiaklaaZGG
import Derived.Test.YtnphbdhcoiaklaaZGB
import Derived.BigQuiet
import Derived.Deep.QuietTactic
import Derived.Deep.Cut
import Derived.Deep.CutRange
import Derived.Deep.DeepCutAuto
namespace Go.Proofs.Ytnphbdhcoiaklaa
open Go.RowKit

set_option maxRecDepth 100000 in
set_option maxHeartbeats 4000000 in
theorem rReq_is (mn mx g t c u x1 x2 : Int) (x3 : Bool) (hc : I64 c) (H : Hid (dReq mn mx g t c u = ⟨x1, x2, x3⟩)) (w : World) :
    Calls Try.prog 68 #[.agg #[.int .i64 mn, .int .i64 mx, .int .i64 g], .int .i64 t, .int .i64 c, .int .i64 u] w fun e w' => e = .returned (.agg #[.int .i64 x1, .int .i64 x2, .bool x3]) ∧ Below w.heap.size w w' := by
  obtain ⟨p, hp⟩ : ∃ p, pRight mn mx g = p := ⟨_, rfl⟩
  have HP := Lib.hid hp
  have hx := H.out
  unfold dReq dWider at hx
  obtain ⟨⟨f1, f2, f3⟩, ef⟩ : ∃ s, spOf u u = s := ⟨_, rfl⟩
  have Hf := Lib.hid ef
  obtain ⟨⟨d1, d2, d3⟩, ed⟩ : ∃ s, dCorr c = s := ⟨_, rfl⟩
  have Hd := Lib.hid ed
  obtain ⟨⟨r1, r2, r3⟩, er⟩ : ∃ s, spSub ⟨f1, f2, f3⟩ ⟨d1, d2, d3⟩ = s := ⟨_, rfl⟩
  have Hr := Lib.hid er
  obtain ⟨⟨o1, o2, o3⟩, eo⟩ : ∃ s, spOf mn mx = s := ⟨_, rfl⟩
  have Ho := Lib.hid eo
  obtain ⟨⟨k1, k2, k3⟩, ek⟩ : ∃ s, spSub ⟨r1, r2, r3⟩ ⟨o1, o2, o3⟩ = s := ⟨_, rfl⟩
  have Hk := Lib.hid ek
  obtain ⟨⟨i1, i2, i3⟩, ei⟩ : ∃ s, spWider ⟨k1, k2, k3⟩ (g + g) (g + g) = s := ⟨_, rfl⟩
  have Hi := Lib.hid ei
  obtain ⟨⟨n1, n2, n3⟩, en⟩ : ∃ s, spOf t t = s := ⟨_, rfl⟩
  have Hn := Lib.hid en
  have e2 : 2 * g = g + g := by omega
  rw [hp, e2, ef, ed, er, eo, ek, ei, en] at hx
  clear H hp ef ed er eo ek ei en e2
  have HX := Lib.hid hx
  clear hx
  go_enter Try.func68, Try.ntmps68
  go_wp2_with fail
  refine (rPRight_is _ _ _ _ HP _).mono ?_
  rintro e w1 ⟨rfl, hb1⟩
  have q1_1_0 : CellF w1 ⟨w.heap.size, 0, none⟩ (.int .i64 mn) := CellF.keep hb1 (CellF.past _ (CellF.at_ rfl rfl))
  have c1_1_0 := q1_1_0.1
  have g1_1_0 := q1_1_0.2
  have q1_1_1 : CellF w1 ⟨w.heap.size, 1, none⟩ (.int .i64 mx) := CellF.keep hb1 (CellF.past _ (CellF.at_ rfl rfl))
  have c1_1_1 := q1_1_1.1
  have g1_1_1 := q1_1_1.2
  have q1_1_2 : CellF w1 ⟨w.heap.size, 2, none⟩ (.int .i64 g) := CellF.keep hb1 (CellF.past _ (CellF.at_ rfl rfl))
  have c1_1_2 := q1_1_2.1
  have g1_1_2 := q1_1_2.2
  have z1_1 : w.heap.size < w1.heap.size := ltc c1_1_0
  have q1_2_0 : CellF w1 ⟨(w.heap.size + 1), 0, none⟩ (.int .i64 0) := CellF.keep hb1 (CellF.at_ (by simp) rfl)
  have c1_2_0 := q1_2_0.1
  have g1_2_0 := q1_2_0.2
  have q1_2_1 : CellF w1 ⟨(w.heap.size + 1), 1, none⟩ (.int .i64 0) := CellF.keep hb1 (CellF.at_ (by simp) rfl)
  have c1_2_1 := q1_2_1.1
  have g1_2_1 := q1_2_1.2
  have q1_2_2 : CellF w1 ⟨(w.heap.size + 1), 2, none⟩ (.bool false) := CellF.keep hb1 (CellF.at_ (by simp) rfl)
  have c1_2_2 := q1_2_2.1
  have g1_2_2 := q1_2_2.2
  have z1_2 : (w.heap.size + 1) < w1.heap.size := ltc c1_2_0
  cases p with
  | false =>
    have hx := HX.out
    rw [if_neg (by decide)] at hx
    have hn : spSub spNo ⟨n1, n2, n3⟩ = spNo := by unfold spSub; rw [spK_no]; rfl
    rw [hn] at hx
    cases hx
    go_wp2
    exact bodyPost_ret (v := .agg #[.int .i64 0, .int .i64 0, .bool false]) (by simp [results, Try.results68, go_sem, c1_2_0, c1_2_1, c1_2_2]) rfl ⟨rfl, (by repeat (first | with_reducible assumption | with_reducible exact brefl _ | with_reducible refine balloc ?_ _ | with_reducible refine bdrewN ?_ _ | with_reducible refine bset ?_ ?_ _ | (dsimp only; omega) | refine bstep ?_ (by assumption)))⟩
  | true =>
    have hx := HX.out
    rw [if_pos rfl] at hx
    have HZ := Lib.hid hx
    have hr := pRight_iff.1 HP.out
    have hg0 : 0 ≤ g := hr.2.2.2.1
    have hg9 : g ≤ 1000000000 := hr.2.2.2.2
    clear hx HX hr
    go_upto_region 3 with (fail)
    go_cut [9] (fun v9 wd => ∃ bk, v9 = .pointer (some ⟨bk, 0, none⟩) ∧ w.heap.size + 1 < bk ∧ Hid (Below w.heap.size w wd) ∧ Hid (CellF wd ⟨w.heap.size, 0, none⟩ (.int .i64 mn) ∧ CellF wd ⟨w.heap.size, 1, none⟩ (.int .i64 mx) ∧ CellF wd ⟨w.heap.size, 2, none⟩ (.int .i64 g)) ∧ Hid (CellF wd ⟨(w.heap.size + 1), 0, none⟩ (.int .i64 0) ∧ CellF wd ⟨(w.heap.size + 1), 1, none⟩ (.int .i64 0) ∧ CellF wd ⟨(w.heap.size + 1), 2, none⟩ (.bool false)) ∧ Hid (CellF wd ⟨bk, 0, none⟩ (.int .i64 r1) ∧ CellF wd ⟨bk, 1, none⟩ (.int .i64 r2) ∧ CellF wd ⟨bk, 2, none⟩ (.bool r3)))
    case first =>
      go_wp2_with fail
      refine (rOne_is _ _ _ _ Hf _).mono ?_
      rintro e w2 ⟨rfl, hb2⟩
      have q2_3_0 : CellF w2 ⟨w.heap.size, 0, none⟩ (.int .i64 mn) := CellF.keep hb2 (q1_1_0)
      have c2_3_0 := q2_3_0.1
      have g2_3_0 := q2_3_0.2
      have q2_3_1 : CellF w2 ⟨w.heap.size, 1, none⟩ (.int .i64 mx) := CellF.keep hb2 (q1_1_1)
      have c2_3_1 := q2_3_1.1
      have g2_3_1 := q2_3_1.2
      have q2_3_2 : CellF w2 ⟨w.heap.size, 2, none⟩ (.int .i64 g) := CellF.keep hb2 (q1_1_2)
      have c2_3_2 := q2_3_2.1
      have g2_3_2 := q2_3_2.2
      have z2_3 : w.heap.size < w2.heap.size := ltc c2_3_0
      have q2_4_0 : CellF w2 ⟨(w.heap.size + 1), 0, none⟩ (.int .i64 0) := CellF.keep hb2 (q1_2_0)
      have c2_4_0 := q2_4_0.1
      have g2_4_0 := q2_4_0.2
      have q2_4_1 : CellF w2 ⟨(w.heap.size + 1), 1, none⟩ (.int .i64 0) := CellF.keep hb2 (q1_2_1)
      have c2_4_1 := q2_4_1.1
      have g2_4_1 := q2_4_1.2
      have q2_4_2 : CellF w2 ⟨(w.heap.size + 1), 2, none⟩ (.bool false) := CellF.keep hb2 (q1_2_2)
      have c2_4_2 := q2_4_2.1
      have g2_4_2 := q2_4_2.2
      have z2_4 : (w.heap.size + 1) < w2.heap.size := ltc c2_4_0
      clear q1_1_0 c1_1_0 g1_1_0 q1_1_1 c1_1_1 g1_1_1 q1_1_2 c1_1_2 g1_1_2 z1_1 q1_2_0 c1_2_0 g1_2_0 q1_2_1 c1_2_1 g1_2_1 q1_2_2 c1_2_2 g1_2_2 z1_2
      go_wp2_with fail
      refine (rCorr_is _ hc _ _ _ Hd _).mono ?_
      rintro e w3 ⟨rfl, hb3⟩
      have q3_5_0 : CellF w3 ⟨w.heap.size, 0, none⟩ (.int .i64 mn) := CellF.keep hb3 (q2_3_0)
      have c3_5_0 := q3_5_0.1
      have g3_5_0 := q3_5_0.2
      have q3_5_1 : CellF w3 ⟨w.heap.size, 1, none⟩ (.int .i64 mx) := CellF.keep hb3 (q2_3_1)
      have c3_5_1 := q3_5_1.1
      have g3_5_1 := q3_5_1.2
      have q3_5_2 : CellF w3 ⟨w.heap.size, 2, none⟩ (.int .i64 g) := CellF.keep hb3 (q2_3_2)
      have c3_5_2 := q3_5_2.1
      have g3_5_2 := q3_5_2.2
      have z3_5 : w.heap.size < w3.heap.size := ltc c3_5_0
      have q3_6_0 : CellF w3 ⟨(w.heap.size + 1), 0, none⟩ (.int .i64 0) := CellF.keep hb3 (q2_4_0)
      have c3_6_0 := q3_6_0.1
      have g3_6_0 := q3_6_0.2
      have q3_6_1 : CellF w3 ⟨(w.heap.size + 1), 1, none⟩ (.int .i64 0) := CellF.keep hb3 (q2_4_1)
      have c3_6_1 := q3_6_1.1
      have g3_6_1 := q3_6_1.2
      have q3_6_2 : CellF w3 ⟨(w.heap.size + 1), 2, none⟩ (.bool false) := CellF.keep hb3 (q2_4_2)
      have c3_6_2 := q3_6_2.1
      have g3_6_2 := q3_6_2.2
      have z3_6 : (w.heap.size + 1) < w3.heap.size := ltc c3_6_0
      clear q2_3_0 c2_3_0 g2_3_0 q2_3_1 c2_3_1 g2_3_1 q2_3_2 c2_3_2 g2_3_2 z2_3 q2_4_0 c2_4_0 g2_4_0 q2_4_1 c2_4_1 g2_4_1 q2_4_2 c2_4_2 g2_4_2 z2_4
      go_wp2_with fail
      refine (r3Sub_is _ _ _ _ _ _ _ _ _ Hr _).mono ?_
      rintro e w4 ⟨rfl, hb4⟩
      have q4_7_0 : CellF w4 ⟨w.heap.size, 0, none⟩ (.int .i64 mn) := CellF.keep hb4 (q3_5_0)
      have c4_7_0 := q4_7_0.1
      have g4_7_0 := q4_7_0.2
      have q4_7_1 : CellF w4 ⟨w.heap.size, 1, none⟩ (.int .i64 mx) := CellF.keep hb4 (q3_5_1)
      have c4_7_1 := q4_7_1.1
      have g4_7_1 := q4_7_1.2
      have q4_7_2 : CellF w4 ⟨w.heap.size, 2, none⟩ (.int .i64 g) := CellF.keep hb4 (q3_5_2)
      have c4_7_2 := q4_7_2.1
      have g4_7_2 := q4_7_2.2
      have z4_7 : w.heap.size < w4.heap.size := ltc c4_7_0
      have q4_8_0 : CellF w4 ⟨(w.heap.size + 1), 0, none⟩ (.int .i64 0) := CellF.keep hb4 (q3_6_0)
      have c4_8_0 := q4_8_0.1
      have g4_8_0 := q4_8_0.2
      have q4_8_1 : CellF w4 ⟨(w.heap.size + 1), 1, none⟩ (.int .i64 0) := CellF.keep hb4 (q3_6_1)
      have c4_8_1 := q4_8_1.1
      have g4_8_1 := q4_8_1.2
      have q4_8_2 : CellF w4 ⟨(w.heap.size + 1), 2, none⟩ (.bool false) := CellF.keep hb4 (q3_6_2)
      have c4_8_2 := q4_8_2.1
      have g4_8_2 := q4_8_2.2
      have z4_8 : (w.heap.size + 1) < w4.heap.size := ltc c4_8_0
      clear q3_5_0 c3_5_0 g3_5_0 q3_5_1 c3_5_1 g3_5_1 q3_5_2 c3_5_2 g3_5_2 z3_5 q3_6_0 c3_6_0 g3_6_0 q3_6_1 c3_6_1 g3_6_1 q3_6_2 c3_6_2 g3_6_2 z3_6
      go_wp2_with fail
      go_meet
      exact ⟨_, rfl, by omega, Lib.hid (by repeat (first | with_reducible assumption | with_reducible exact brefl _ | with_reducible refine balloc ?_ _ | with_reducible refine bdrewN ?_ _ | with_reducible refine bset ?_ ?_ _ | (dsimp only; omega) | refine bstep ?_ (by assumption))), Lib.hid ⟨CellF.past _ (q4_7_0), CellF.past _ (q4_7_1), CellF.past _ (q4_7_2)⟩, Lib.hid ⟨CellF.past _ (q4_8_0), CellF.past _ (q4_8_1), CellF.past _ (q4_8_2)⟩, Lib.hid ⟨CellF.at_ rfl rfl, CellF.at_ rfl rfl, CellF.at_ rfl rfl⟩⟩
    case rest =>
      clear q1_1_0 c1_1_0 g1_1_0 q1_1_1 c1_1_1 g1_1_1 q1_1_2 c1_1_2 g1_1_2 z1_1 q1_2_0 c1_2_0 g1_2_0 q1_2_1 c1_2_1 g1_2_1 q1_2_2 c1_2_2 g1_2_2 z1_2
      obtain ⟨bk, rfl, hbk, HBA, HA0, HA1, HA2⟩ := hcut
      have hwA := HBA.out
      have qHA0_0 := HA0.out.1
      have cHA0_0 := qHA0_0.1
      have gHA0_0 := qHA0_0.2
      have qHA0_1 := HA0.out.2.1
      have cHA0_1 := qHA0_1.1
      have gHA0_1 := qHA0_1.2
      have qHA0_2 := HA0.out.2.2
      have cHA0_2 := qHA0_2.1
      have gHA0_2 := qHA0_2.2
      have zHA0 := ltc cHA0_0
      dsimp only at zHA0
      have qHA1_0 := HA1.out.1
      have cHA1_0 := qHA1_0.1
      have gHA1_0 := qHA1_0.2
      have qHA1_1 := HA1.out.2.1
      have cHA1_1 := qHA1_1.1
      have gHA1_1 := qHA1_1.2
      have qHA1_2 := HA1.out.2.2
      have cHA1_2 := qHA1_2.1
      have gHA1_2 := qHA1_2.2
      have zHA1 := ltc cHA1_0
      dsimp only at zHA1
      have qHA2_0 := HA2.out.1
      have cHA2_0 := qHA2_0.1
      have gHA2_0 := qHA2_0.2
      have qHA2_1 := HA2.out.2.1
      have cHA2_1 := qHA2_1.1
      have gHA2_1 := qHA2_1.2
      have qHA2_2 := HA2.out.2.2
      have cHA2_2 := qHA2_2.1
      have gHA2_2 := qHA2_2.2
      have zHA2 := ltc cHA2_0
      dsimp only at zHA2
      clear HBA HA0 HA1 HA2
      go_upto_region 4 with (fail)
      go_cut [] (fun wd => Hid (Below w.heap.size w wd) ∧ Hid (CellF wd ⟨w.heap.size, 0, none⟩ (.int .i64 mn) ∧ CellF wd ⟨w.heap.size, 1, none⟩ (.int .i64 mx) ∧ CellF wd ⟨w.heap.size, 2, none⟩ (.int .i64 g)) ∧ Hid (CellF wd ⟨(w.heap.size + 1), 0, none⟩ (.int .i64 0) ∧ CellF wd ⟨(w.heap.size + 1), 1, none⟩ (.int .i64 0) ∧ CellF wd ⟨(w.heap.size + 1), 2, none⟩ (.bool false)) ∧ Hid (CellF wd ⟨bk, 0, none⟩ (.int .i64 k1) ∧ CellF wd ⟨bk, 1, none⟩ (.int .i64 k2) ∧ CellF wd ⟨bk, 2, none⟩ (.bool k3)))
      case first =>
        have hKS := (show SpanAt wc bk r1 r2 r3 from ⟨qHA2_0, qHA2_1, qHA2_2⟩)
        refine wp_region_inv (by kernel_rfl) (fun ls ac w' => ∃ v19 v20 v21 v22 v23 v24 v25, ac = ⟨#[.agg #[.int .i64 mn, .int .i64 mx, .int .i64 g], .int .i64 t, .int .i64 c, .int .i64 u, .pointer (some ⟨w.heap.size, 0, none⟩), undef, undef, undef, .pointer (some ⟨w.heap.size + 1, 0, none⟩), .pointer (some ⟨bk, 0, none⟩), u10, u11, u12, u13, u14, u15, u16, u17, u18, v19, v20, v21, v22, v23, v24, v25, u26, u27, u28, u29, u30, u31, u32, u33, u34, u35, u36, u37, u38, u39, u40, u41], []⟩ ∧ ls.size = 8 ∧ (ls.getD 7 false = false → Below wc.heap.size wc w') ∧ (ls.getD 0 false = true → v19 = .agg #[.int .i64 r1, .int .i64 r2, .bool r3]) ∧ (ls.getD 1 false = true → v20 = .pointer (some ⟨w.heap.size, 0, none⟩)) ∧ (ls.getD 2 false = true → v21 = .int .i64 mn) ∧ (ls.getD 3 false = true → v22 = .pointer (some ⟨w.heap.size, 1, none⟩)) ∧ (ls.getD 4 false = true → v23 = .int .i64 mx) ∧ (ls.getD 5 false = true → v24 = .agg #[.int .i64 o1, .int .i64 o2, .bool o3]) ∧ (ls.getD 6 false = true → v25 = .agg #[.int .i64 k1, .int .i64 k2, .bool k3]) ∧ (ls.getD 2 false = true → ls.getD 1 false = true ∧ True) ∧ (ls.getD 4 false = true → ls.getD 3 false = true ∧ True) ∧ (ls.getD 5 false = true → ls.getD 2 false = true ∧ ls.getD 4 false = true ∧ True) ∧ (ls.getD 6 false = true → ls.getD 0 false = true ∧ ls.getD 5 false = true ∧ True) ∧ (ls.getD 7 false = true → Below bk wc w' ∧ SpanAt w' bk k1 k2 k3) ∧ (ls.getD 7 false = true → ∀ i, i < 8 → ls.getD i false = true)) ?_ ?_ ?_
        · exact ⟨_, _, _, _, _, _, _, rfl, rfl, fun _ => bdrew (brefl _), fun h => (by cases h), fun h => (by cases h), fun h => (by cases h), fun h => (by cases h), fun h => (by cases h), fun h => (by cases h), fun h => (by cases h), fun h => (by cases h), fun h => (by cases h), fun h => (by cases h), fun h => (by cases h), fun h => (by cases h), fun h => (by cases h)⟩
        · intro i hii
          have hin : i < 8 := hii
          have hor : i = 0 ∨ i = 1 ∨ i = 2 ∨ i = 3 ∨ i = 4 ∨ i = 5 ∨ i = 6 ∨ i = 7 := (by decide : ∀ i : Nat, i < 8 → (i = 0 ∨ i = 1 ∨ i = 2 ∨ i = 3 ∨ i = 4 ∨ i = 5 ∨ i = 6 ∨ i = 7)) i hin
          rcases hor with rfl | rfl | rfl | rfl | rfl | rfl | rfl | rfl
          · rintro ls ac w' hr ⟨v19, v20, v21, v22, v23, v24, v25, rfl, hl, hB', zg0, zg1, zg2, zg3, zg4, zg5, zg6, zc2, zc4, zc5, zc6, hS, hK⟩
            have hs0 : ls.getD 7 false = false := by cases hc : ls.getD 7 false with | false => rfl | true => (exfalso; have hz := hK hc 0 (by decide); have hn := (ready_dep hr rfl).1; rw [getD_both hz] at hn; cases hn)
            have hB := hB' hs0
            have a6 := (hB.cell (ltc cHA2_0)).trans cHA2_0
            have a7 := (hB.cell (ltc cHA2_1)).trans cHA2_1
            have a8 := (hB.cell (ltc cHA2_2)).trans cHA2_2
            refine wpOp_step rfl (fun K hK => ?_)
            clear hr
            go_simp
            refine hK _ _ ?_
            simp only [getD_own (l := ls) (i := 0) (by omega), gq 0 1, gq 0 2, gq 0 3, gq 0 4, gq 0 5, gq 0 6, gq 0 7]
            exact ⟨_, v20, v21, v22, v23, v24, v25, rfl, by simp [hl], fun _ => hB, fun _ => rfl, zg1, zg2, zg3, zg4, zg5, zg6, zc2, zc4, zc5, fun h => ⟨(by first | rfl | trivial), (zc6 h).2.1, trivial⟩, fun h => (by rw [hs0] at h; cases h), fun h => (by rw [hs0] at h; cases h)⟩
          · rintro ls ac w' hr ⟨v19, v20, v21, v22, v23, v24, v25, rfl, hl, hB', zg0, zg1, zg2, zg3, zg4, zg5, zg6, zc2, zc4, zc5, zc6, hS, hK⟩
            have hs0 : ls.getD 7 false = false := by cases hc : ls.getD 7 false with | false => rfl | true => (exfalso; have hz := hK hc 1 (by decide); have hn := (ready_dep hr rfl).1; rw [getD_both hz] at hn; cases hn)
            have hB := hB' hs0
            refine wpOp_step rfl (fun K hK => ?_)
            clear hr
            go_simp
            refine hK _ _ ?_
            simp only [getD_own (l := ls) (i := 1) (by omega), gq 1 0, gq 1 2, gq 1 3, gq 1 4, gq 1 5, gq 1 6, gq 1 7]
            exact ⟨v19, _, v21, v22, v23, v24, v25, rfl, by simp [hl], fun _ => hB, zg0, fun _ => rfl, zg2, zg3, zg4, zg5, zg6, fun h => ⟨(by first | rfl | trivial), trivial⟩, zc4, zc5, zc6, fun h => (by rw [hs0] at h; cases h), fun h => (by rw [hs0] at h; cases h)⟩
          · rintro ls ac w' hr ⟨v19, v20, v21, v22, v23, v24, v25, rfl, hl, hB', zg0, zg1, zg2, zg3, zg4, zg5, zg6, zc2, zc4, zc5, zc6, hS, hK⟩
            have zd1 := rdd hr 1
            have hs0 : ls.getD 7 false = false := by cases hc : ls.getD 7 false with | false => rfl | true => (exfalso; have hz := hK hc 2 (by decide); have hn := (ready_dep hr rfl).1; rw [getD_both hz] at hn; cases hn)
            have hB := hB' hs0
            obtain rfl := zg1 zd1
            have a0 := (hB.cell (ltc cHA0_0)).trans cHA0_0
            refine wpOp_step rfl (fun K hK => ?_)
            clear hr
            go_simp
            refine hK _ _ ?_
            simp only [getD_own (l := ls) (i := 2) (by omega), gq 2 0, gq 2 1, gq 2 3, gq 2 4, gq 2 5, gq 2 6, gq 2 7]
            exact ⟨v19, _, _, v22, v23, v24, v25, rfl, by simp [hl], fun _ => hB, zg0, fun _ => rfl, fun _ => rfl, zg3, zg4, zg5, zg6, fun _ => ⟨zd1, trivial⟩, zc4, fun h => ⟨(by first | rfl | trivial), (zc5 h).2.1, trivial⟩, zc6, fun h => (by rw [hs0] at h; cases h), fun h => (by rw [hs0] at h; cases h)⟩
          · rintro ls ac w' hr ⟨v19, v20, v21, v22, v23, v24, v25, rfl, hl, hB', zg0, zg1, zg2, zg3, zg4, zg5, zg6, zc2, zc4, zc5, zc6, hS, hK⟩
            have hs0 : ls.getD 7 false = false := by cases hc : ls.getD 7 false with | false => rfl | true => (exfalso; have hz := hK hc 3 (by decide); have hn := (ready_dep hr rfl).1; rw [getD_both hz] at hn; cases hn)
            have hB := hB' hs0
            refine wpOp_step rfl (fun K hK => ?_)
            clear hr
            go_simp
            refine hK _ _ ?_
            simp only [getD_own (l := ls) (i := 3) (by omega), gq 3 0, gq 3 1, gq 3 2, gq 3 4, gq 3 5, gq 3 6, gq 3 7]
            exact ⟨v19, v20, v21, _, v23, v24, v25, rfl, by simp [hl], fun _ => hB, zg0, zg1, zg2, fun _ => rfl, zg4, zg5, zg6, zc2, fun h => ⟨(by first | rfl | trivial), trivial⟩, zc5, zc6, fun h => (by rw [hs0] at h; cases h), fun h => (by rw [hs0] at h; cases h)⟩
          · rintro ls ac w' hr ⟨v19, v20, v21, v22, v23, v24, v25, rfl, hl, hB', zg0, zg1, zg2, zg3, zg4, zg5, zg6, zc2, zc4, zc5, zc6, hS, hK⟩
            have zd3 := rdd hr 3
            have hs0 : ls.getD 7 false = false := by cases hc : ls.getD 7 false with | false => rfl | true => (exfalso; have hz := hK hc 4 (by decide); have hn := (ready_dep hr rfl).1; rw [getD_both hz] at hn; cases hn)
            have hB := hB' hs0
            obtain rfl := zg3 zd3
            have a1 := (hB.cell (ltc cHA0_1)).trans cHA0_1
            refine wpOp_step rfl (fun K hK => ?_)
            clear hr
            go_simp
            refine hK _ _ ?_
            simp only [getD_own (l := ls) (i := 4) (by omega), gq 4 0, gq 4 1, gq 4 2, gq 4 3, gq 4 5, gq 4 6, gq 4 7]
            exact ⟨v19, v20, v21, _, _, v24, v25, rfl, by simp [hl], fun _ => hB, zg0, zg1, zg2, fun _ => rfl, fun _ => rfl, zg5, zg6, zc2, fun _ => ⟨zd3, trivial⟩, fun h => ⟨(zc5 h).1, (by first | rfl | trivial), trivial⟩, zc6, fun h => (by rw [hs0] at h; cases h), fun h => (by rw [hs0] at h; cases h)⟩
          · rintro ls ac w' hr ⟨v19, v20, v21, v22, v23, v24, v25, rfl, hl, hB', zg0, zg1, zg2, zg3, zg4, zg5, zg6, zc2, zc4, zc5, zc6, hS, hK⟩
            have zd2 := rdd hr 2
            have zd4 := rdd hr 4
            have zd1 := (zc2 zd2).1
            have zd3 := (zc4 zd4).1
            have hs0 : ls.getD 7 false = false := by cases hc : ls.getD 7 false with | false => rfl | true => (exfalso; have hz := hK hc 5 (by decide); have hn := (ready_dep hr rfl).1; rw [getD_both hz] at hn; cases hn)
            have hB := hB' hs0
            obtain rfl := zg2 zd2
            obtain rfl := zg4 zd4
            obtain rfl := zg1 zd1
            obtain rfl := zg3 zd3
            refine wpOp_step rfl (fun K hK => ?_)
            clear hr
            go_simp
            refine (r3Of_is _ _ _ _ _ Ho _).mono ?_
            rintro e w1 ⟨rfl, hk⟩
            dsimp only
            refine hK _ _ ?_
            simp only [getD_own (l := ls) (i := 5) (by omega), gq 5 0, gq 5 1, gq 5 2, gq 5 3, gq 5 4, gq 5 6, gq 5 7]
            exact ⟨v19, _, _, _, _, _, v25, rfl, by simp [hl], fun _ => bstep hB hk, zg0, fun _ => rfl, fun _ => rfl, fun _ => rfl, fun _ => rfl, fun _ => rfl, zg6, zc2, zc4, fun _ => ⟨zd2, zd4, trivial⟩, fun h => ⟨(zc6 h).1, (by first | rfl | trivial), trivial⟩, fun h => (by rw [hs0] at h; cases h), fun h => (by rw [hs0] at h; cases h)⟩
          · rintro ls ac w' hr ⟨v19, v20, v21, v22, v23, v24, v25, rfl, hl, hB', zg0, zg1, zg2, zg3, zg4, zg5, zg6, zc2, zc4, zc5, zc6, hS, hK⟩
            have zd0 := rdd hr 0
            have zd5 := rdd hr 5
            have zd2 := (zc5 zd5).1
            have zd4 := (zc5 zd5).2.1
            have zd1 := (zc2 zd2).1
            have zd3 := (zc4 zd4).1
            have hs0 : ls.getD 7 false = false := by cases hc : ls.getD 7 false with | false => rfl | true => (exfalso; have hz := hK hc 6 (by decide); have hn := (ready_dep hr rfl).1; rw [getD_both hz] at hn; cases hn)
            have hB := hB' hs0
            obtain rfl := zg0 zd0
            obtain rfl := zg5 zd5
            obtain rfl := zg2 zd2
            obtain rfl := zg4 zd4
            obtain rfl := zg1 zd1
            obtain rfl := zg3 zd3
            refine wpOp_step rfl (fun K hK => ?_)
            clear hr
            go_simp
            refine (r3Sub_is _ _ _ _ _ _ _ _ _ Hk _).mono ?_
            rintro e w1 ⟨rfl, hk⟩
            dsimp only
            refine hK _ _ ?_
            simp only [getD_own (l := ls) (i := 6) (by omega), gq 6 0, gq 6 1, gq 6 2, gq 6 3, gq 6 4, gq 6 5, gq 6 7]
            exact ⟨_, _, _, _, _, _, _, rfl, by simp [hl], fun _ => bstep hB hk, fun _ => rfl, fun _ => rfl, fun _ => rfl, fun _ => rfl, fun _ => rfl, fun _ => rfl, fun _ => rfl, zc2, zc4, zc5, fun _ => ⟨zd0, zd5, trivial⟩, fun h => (by rw [hs0] at h; cases h), fun h => (by rw [hs0] at h; cases h)⟩
          · rintro ls ac w' hr ⟨v19, v20, v21, v22, v23, v24, v25, rfl, hl, hB', zg0, zg1, zg2, zg3, zg4, zg5, zg6, zc2, zc4, zc5, zc6, hS, hK⟩
            have zd6 := rdd hr 6
            have zd0 := (zc6 zd6).1
            have zd5 := (zc6 zd6).2.1
            have zd2 := (zc5 zd5).1
            have zd4 := (zc5 zd5).2.1
            have zd1 := (zc2 zd2).1
            have zd3 := (zc4 zd4).1
            obtain rfl := zg6 zd6
            obtain rfl := zg0 zd0
            obtain rfl := zg5 zd5
            obtain rfl := zg2 zd2
            obtain rfl := zg4 zd4
            obtain rfl := zg1 zd1
            obtain rfl := zg3 zd3
            have hns : ls.getD 7 false = false := by cases hc : ls.getD 7 false with | false => rfl | true => (exfalso; have hn := (ready_dep hr rfl).1; rw [getD_both hc] at hn; cases hn)
            have hB := hB' hns
            have hall : ∀ i, i < 8 → (ls.setIfInBounds 7 true).getD i false = true := by intro i hi; have hi' : i = 0 ∨ i = 1 ∨ i = 2 ∨ i = 3 ∨ i = 4 ∨ i = 5 ∨ i = 6 ∨ i = 7 := (by decide : ∀ i : Nat, i < 8 → (i = 0 ∨ i = 1 ∨ i = 2 ∨ i = 3 ∨ i = 4 ∨ i = 5 ∨ i = 6 ∨ i = 7)) i hi; rcases hi' with rfl | rfl | rfl | rfl | rfl | rfl | rfl | rfl <;> first | exact getD_own (by omega) | (rw [getD_set ls (by decide)]; assumption)
            have hSp := SpanAt.keep hB hKS
            have hT := span_sets (x := k1) (y := k2) (z := k3) hSp
            have zs0 := (hSp).1.1
            have zs1 := (hSp).2.1.1
            have zs2 := (hSp).2.2.1
            have zs3 := (hSp).1.2
            have zs4 := (hSp).2.1.2
            have zs5 := (hSp).2.2.2
            refine wpOp_step rfl (fun K hK' => ?_)
            clear hr
            clear hSp
            go_simp
            refine hK' _ _ ?_
            simp only [getD_own (l := ls) (i := 7) (by omega), gq 7 0, gq 7 1, gq 7 2, gq 7 3, gq 7 4, gq 7 5, gq 7 6]
            exact ⟨_, _, _, _, _, _, _, rfl, by simp [hl], fun h => (by cases h), fun _ => rfl, fun _ => rfl, fun _ => rfl, fun _ => rfl, fun _ => rfl, fun _ => rfl, fun _ => rfl, zc2, zc4, zc5, zc6, fun _ => ⟨(hB.mono (Nat.le_of_lt zHA2)).trans (hT.2.2 _ (Nat.le_refl _)), hT.1⟩, fun _ => hall⟩
        · rintro ls ac w' ⟨v19, v20, v21, v22, v23, v24, v25, rfl, hl, hB', zg0, zg1, zg2, zg3, zg4, zg5, zg6, zc2, zc4, zc5, zc6, hS, hK⟩ hr
          have hall := ready_allb (by decide) hl hr
          have hSx := hS (hall 7 (by decide))
          go_wp2_with fail
          go_meet
          exact ⟨Lib.hid (hwA.trans (hSx.1.mono (by omega))), Lib.hid ⟨cell_below hSx.1 (by dsimp only; omega) qHA0_0, cell_below hSx.1 (by dsimp only; omega) qHA0_1, cell_below hSx.1 (by dsimp only; omega) qHA0_2⟩, Lib.hid ⟨cell_below hSx.1 (by dsimp only; omega) qHA1_0, cell_below hSx.1 (by dsimp only; omega) qHA1_1, cell_below hSx.1 (by dsimp only; omega) qHA1_2⟩, Lib.hid ⟨hSx.2.1, hSx.2.2.1, hSx.2.2.2⟩⟩
      case rest =>
        clear qHA0_0 cHA0_0 gHA0_0 qHA0_1 cHA0_1 gHA0_1 qHA0_2 cHA0_2 gHA0_2 zHA0 qHA1_0 cHA1_0 gHA1_0 qHA1_1 cHA1_1 gHA1_1 qHA1_2 cHA1_2 gHA1_2 zHA1 qHA2_0 cHA2_0 gHA2_0 qHA2_1 cHA2_1 gHA2_1 qHA2_2 cHA2_2 gHA2_2 zHA2
        obtain ⟨HBC, HC0, HC1, HC2⟩ := hcut
        have hwC := HBC.out
        have qHC0_0 := HC0.out.1
        have cHC0_0 := qHC0_0.1
        have gHC0_0 := qHC0_0.2
        have qHC0_1 := HC0.out.2.1
        have cHC0_1 := qHC0_1.1
        have gHC0_1 := qHC0_1.2
        have qHC0_2 := HC0.out.2.2
        have cHC0_2 := qHC0_2.1
        have gHC0_2 := qHC0_2.2
        have zHC0 := ltc cHC0_0
        dsimp only at zHC0
        have qHC1_0 := HC1.out.1
        have cHC1_0 := qHC1_0.1
        have gHC1_0 := qHC1_0.2
        have qHC1_1 := HC1.out.2.1
        have cHC1_1 := qHC1_1.1
        have gHC1_1 := qHC1_1.2
        have qHC1_2 := HC1.out.2.2
        have cHC1_2 := qHC1_2.1
        have gHC1_2 := qHC1_2.2
        have zHC1 := ltc cHC1_0
        dsimp only at zHC1
        have qHC2_0 := HC2.out.1
        have cHC2_0 := qHC2_0.1
        have gHC2_0 := qHC2_0.2
        have qHC2_1 := HC2.out.2.1
        have cHC2_1 := qHC2_1.1
        have gHC2_1 := qHC2_1.2
        have qHC2_2 := HC2.out.2.2
        have cHC2_2 := qHC2_2.1
        have gHC2_2 := qHC2_2.2
        have zHC2 := ltc cHC2_0
        dsimp only at zHC2
        clear HBC HC0 HC1 HC2
        go_upto_region 5 with (fail)
        go_cut [] (fun wd => Hid (Below w.heap.size w wd) ∧ Hid (CellF wd ⟨w.heap.size, 0, none⟩ (.int .i64 mn) ∧ CellF wd ⟨w.heap.size, 1, none⟩ (.int .i64 mx) ∧ CellF wd ⟨w.heap.size, 2, none⟩ (.int .i64 g)) ∧ Hid (CellF wd ⟨(w.heap.size + 1), 0, none⟩ (.int .i64 0) ∧ CellF wd ⟨(w.heap.size + 1), 1, none⟩ (.int .i64 0) ∧ CellF wd ⟨(w.heap.size + 1), 2, none⟩ (.bool false)) ∧ Hid (CellF wd ⟨bk, 0, none⟩ (.int .i64 i1) ∧ CellF wd ⟨bk, 1, none⟩ (.int .i64 i2) ∧ CellF wd ⟨bk, 2, none⟩ (.bool i3)))
        case first =>
          go_wp2_with fail
          refine (r3Wider_is _ _ _ (g + g) (g + g) _ _ _ Hi _).mono ?_
          rintro e w2 ⟨rfl, hb2⟩
          have q2_3_0 : CellF w2 ⟨w.heap.size, 0, none⟩ (.int .i64 mn) := CellF.keep hb2 (qHC0_0)
          have c2_3_0 := q2_3_0.1
          have g2_3_0 := q2_3_0.2
          have q2_3_1 : CellF w2 ⟨w.heap.size, 1, none⟩ (.int .i64 mx) := CellF.keep hb2 (qHC0_1)
          have c2_3_1 := q2_3_1.1
          have g2_3_1 := q2_3_1.2
          have q2_3_2 : CellF w2 ⟨w.heap.size, 2, none⟩ (.int .i64 g) := CellF.keep hb2 (qHC0_2)
          have c2_3_2 := q2_3_2.1
          have g2_3_2 := q2_3_2.2
          have z2_3 : w.heap.size < w2.heap.size := ltc c2_3_0
          have q2_4_0 : CellF w2 ⟨(w.heap.size + 1), 0, none⟩ (.int .i64 0) := CellF.keep hb2 (qHC1_0)
          have c2_4_0 := q2_4_0.1
          have g2_4_0 := q2_4_0.2
          have q2_4_1 : CellF w2 ⟨(w.heap.size + 1), 1, none⟩ (.int .i64 0) := CellF.keep hb2 (qHC1_1)
          have c2_4_1 := q2_4_1.1
          have g2_4_1 := q2_4_1.2
          have q2_4_2 : CellF w2 ⟨(w.heap.size + 1), 2, none⟩ (.bool false) := CellF.keep hb2 (qHC1_2)
          have c2_4_2 := q2_4_2.1
          have g2_4_2 := q2_4_2.2
          have z2_4 : (w.heap.size + 1) < w2.heap.size := ltc c2_4_0
          have q2_5_0 : CellF w2 ⟨bk, 0, none⟩ (.int .i64 k1) := CellF.keep hb2 (qHC2_0)
          have c2_5_0 := q2_5_0.1
          have g2_5_0 := q2_5_0.2
          have q2_5_1 : CellF w2 ⟨bk, 1, none⟩ (.int .i64 k2) := CellF.keep hb2 (qHC2_1)
          have c2_5_1 := q2_5_1.1
          have g2_5_1 := q2_5_1.2
          have q2_5_2 : CellF w2 ⟨bk, 2, none⟩ (.bool k3) := CellF.keep hb2 (qHC2_2)
          have c2_5_2 := q2_5_2.1
          have g2_5_2 := q2_5_2.2
          have z2_5 : bk < w2.heap.size := ltc c2_5_0
          clear qHC0_0 cHC0_0 gHC0_0 qHC0_1 cHC0_1 gHC0_1 qHC0_2 cHC0_2 gHC0_2 zHC0 qHC1_0 cHC1_0 gHC1_0 qHC1_1 cHC1_1 gHC1_1 qHC1_2 cHC1_2 gHC1_2 zHC1 qHC2_0 cHC2_0 gHC2_0 qHC2_1 cHC2_1 gHC2_1 qHC2_2 cHC2_2 gHC2_2 zHC2
          go_wp2_with fail
          go_meet
          exact ⟨Lib.hid (by repeat (first | with_reducible assumption | with_reducible exact brefl _ | with_reducible refine balloc ?_ _ | with_reducible refine bdrewN ?_ _ | with_reducible refine bset ?_ ?_ _ | (dsimp only; omega) | refine bstep ?_ (by assumption))), Lib.hid ⟨CellF.set_other' _ (by intro e; injection e with e1 e2; omega) (CellF.set_other' _ (by intro e; injection e with e1 e2; omega) (CellF.set_other' _ (by intro e; injection e with e1 e2; omega) q2_3_0)), CellF.set_other' _ (by intro e; injection e with e1 e2; omega) (CellF.set_other' _ (by intro e; injection e with e1 e2; omega) (CellF.set_other' _ (by intro e; injection e with e1 e2; omega) q2_3_1)), CellF.set_other' _ (by intro e; injection e with e1 e2; omega) (CellF.set_other' _ (by intro e; injection e with e1 e2; omega) (CellF.set_other' _ (by intro e; injection e with e1 e2; omega) q2_3_2))⟩, Lib.hid ⟨CellF.set_other' _ (by intro e; injection e with e1 e2; omega) (CellF.set_other' _ (by intro e; injection e with e1 e2; omega) (CellF.set_other' _ (by intro e; injection e with e1 e2; omega) q2_4_0)), CellF.set_other' _ (by intro e; injection e with e1 e2; omega) (CellF.set_other' _ (by intro e; injection e with e1 e2; omega) (CellF.set_other' _ (by intro e; injection e with e1 e2; omega) q2_4_1)), CellF.set_other' _ (by intro e; injection e with e1 e2; omega) (CellF.set_other' _ (by intro e; injection e with e1 e2; omega) (CellF.set_other' _ (by intro e; injection e with e1 e2; omega) q2_4_2))⟩, Lib.hid ⟨(span_sets (show SpanAt _ bk _ _ _ from ⟨q2_5_0, q2_5_1, q2_5_2⟩)).1.1, (span_sets (show SpanAt _ bk _ _ _ from ⟨q2_5_0, q2_5_1, q2_5_2⟩)).1.2.1, (span_sets (show SpanAt _ bk _ _ _ from ⟨q2_5_0, q2_5_1, q2_5_2⟩)).1.2.2⟩⟩
        case rest =>
          clear qHC0_0 cHC0_0 gHC0_0 qHC0_1 cHC0_1 gHC0_1 qHC0_2 cHC0_2 gHC0_2 zHC0 qHC1_0 cHC1_0 gHC1_0 qHC1_1 cHC1_1 gHC1_1 qHC1_2 cHC1_2 gHC1_2 zHC1 qHC2_0 cHC2_0 gHC2_0 qHC2_1 cHC2_1 gHC2_1 qHC2_2 cHC2_2 gHC2_2 zHC2
          obtain ⟨HBD, HD0, HD1, HD2⟩ := hcut
          have hwD := HBD.out
          have qHD0_0 := HD0.out.1
          have cHD0_0 := qHD0_0.1
          have gHD0_0 := qHD0_0.2
          have qHD0_1 := HD0.out.2.1
          have cHD0_1 := qHD0_1.1
          have gHD0_1 := qHD0_1.2
          have qHD0_2 := HD0.out.2.2
          have cHD0_2 := qHD0_2.1
          have gHD0_2 := qHD0_2.2
          have zHD0 := ltc cHD0_0
          dsimp only at zHD0
          have qHD1_0 := HD1.out.1
          have cHD1_0 := qHD1_0.1
          have gHD1_0 := qHD1_0.2
          have qHD1_1 := HD1.out.2.1
          have cHD1_1 := qHD1_1.1
          have gHD1_1 := qHD1_1.2
          have qHD1_2 := HD1.out.2.2
          have cHD1_2 := qHD1_2.1
          have gHD1_2 := qHD1_2.2
          have zHD1 := ltc cHD1_0
          dsimp only at zHD1
          have qHD2_0 := HD2.out.1
          have cHD2_0 := qHD2_0.1
          have gHD2_0 := qHD2_0.2
          have qHD2_1 := HD2.out.2.1
          have cHD2_1 := qHD2_1.1
          have gHD2_1 := qHD2_1.2
          have qHD2_2 := HD2.out.2.2
          have cHD2_2 := qHD2_2.1
          have gHD2_2 := qHD2_2.2
          have zHD2 := ltc cHD2_0
          dsimp only at zHD2
          clear HBD HD0 HD1 HD2
          have hR := (show SpanAt wc (w.heap.size + 1) 0 0 false from ⟨qHD1_0, qHD1_1, qHD1_2⟩)
          go_wp2_with fail
          refine wp_region_inv (by kernel_rfl) (fun ls ac w' => ∃ v38 v39 v40 v41, ac = ⟨#[.agg #[.int .i64 mn, .int .i64 mx, .int .i64 g], .int .i64 t, .int .i64 c, .int .i64 u, .pointer (some ⟨w.heap.size, 0, none⟩), undef, undef, undef, .pointer (some ⟨w.heap.size + 1, 0, none⟩), .pointer (some ⟨bk, 0, none⟩), u10, u11, u12, u13, u14, u15, u16, u17, u18, u19, u20, u21, u22, u23, u24, u25, u26, u27, u28, u29, u30, u31, u32, u33, u34, u35, u36, u37, v38, v39, v40, v41], []⟩ ∧ ls.size = 5 ∧ (ls.getD 4 false = false → Below wc.heap.size wc w') ∧ (ls.getD 0 false = true → v38 = .agg #[.int .i64 i1, .int .i64 i2, .bool i3]) ∧ (ls.getD 1 false = true → v39 = .int .i64 t) ∧ (ls.getD 2 false = true → v40 = .agg #[.int .i64 n1, .int .i64 n2, .bool n3]) ∧ (ls.getD 3 false = true → v41 = .agg #[.int .i64 x1, .int .i64 x2, .bool x3]) ∧ (ls.getD 2 false = true → ls.getD 1 false = true ∧ True) ∧ (ls.getD 3 false = true → ls.getD 0 false = true ∧ ls.getD 2 false = true ∧ True) ∧ (ls.getD 4 false = true → Below w.heap.size wc w' ∧ SpanAt w' (w.heap.size + 1) x1 x2 x3) ∧ (ls.getD 4 false = true → ∀ i, i < 5 → ls.getD i false = true)) ?_ ?_ ?_
          · exact ⟨_, _, _, _, rfl, rfl, fun _ => bdrew (brefl _), fun h => (by cases h), fun h => (by cases h), fun h => (by cases h), fun h => (by cases h), fun h => (by cases h), fun h => (by cases h), fun h => (by cases h), fun h => (by cases h)⟩
          · intro i hii
            have hin : i < 5 := hii
            have hor : i = 0 ∨ i = 1 ∨ i = 2 ∨ i = 3 ∨ i = 4 := (by decide : ∀ i : Nat, i < 5 → (i = 0 ∨ i = 1 ∨ i = 2 ∨ i = 3 ∨ i = 4)) i hin
            rcases hor with rfl | rfl | rfl | rfl | rfl
            · rintro ls ac w' hr ⟨v38, v39, v40, v41, rfl, hl, hB', zg0, zg1, zg2, zg3, zc2, zc3, hS, hK⟩
              have hs0 : ls.getD 4 false = false := by cases hc : ls.getD 4 false with | false => rfl | true => (exfalso; have hz := hK hc 0 (by decide); have hn := (ready_dep hr rfl).1; rw [getD_both hz] at hn; cases hn)
              have hB := hB' hs0
              have a3 := (hB.cell (ltc cHD2_0)).trans cHD2_0
              have a4 := (hB.cell (ltc cHD2_1)).trans cHD2_1
              have a5 := (hB.cell (ltc cHD2_2)).trans cHD2_2
              refine wpOp_step rfl (fun K hK => ?_)
              clear hr
              go_simp
              refine hK _ _ ?_
              simp only [getD_own (l := ls) (i := 0) (by omega), gq 0 1, gq 0 2, gq 0 3, gq 0 4]
              exact ⟨_, v39, v40, v41, rfl, by simp [hl], fun _ => hB, fun _ => rfl, zg1, zg2, zg3, zc2, fun h => ⟨(by first | rfl | trivial), (zc3 h).2.1, trivial⟩, fun h => (by rw [hs0] at h; cases h), fun h => (by rw [hs0] at h; cases h)⟩
            · rintro ls ac w' hr ⟨v38, v39, v40, v41, rfl, hl, hB', zg0, zg1, zg2, zg3, zc2, zc3, hS, hK⟩
              have hs0 : ls.getD 4 false = false := by cases hc : ls.getD 4 false with | false => rfl | true => (exfalso; have hz := hK hc 1 (by decide); have hn := (ready_dep hr rfl).1; rw [getD_both hz] at hn; cases hn)
              have hB := hB' hs0
              refine wpOp_step rfl (fun K hK => ?_)
              clear hr
              go_simp
              refine hK _ _ ?_
              simp only [getD_own (l := ls) (i := 1) (by omega), gq 1 0, gq 1 2, gq 1 3, gq 1 4]
              exact ⟨v38, _, v40, v41, rfl, by simp [hl], fun _ => hB, zg0, fun _ => rfl, zg2, zg3, fun h => ⟨(by first | rfl | trivial), trivial⟩, zc3, fun h => (by rw [hs0] at h; cases h), fun h => (by rw [hs0] at h; cases h)⟩
            · rintro ls ac w' hr ⟨v38, v39, v40, v41, rfl, hl, hB', zg0, zg1, zg2, zg3, zc2, zc3, hS, hK⟩
              have zd1 := rdd hr 1
              have hs0 : ls.getD 4 false = false := by cases hc : ls.getD 4 false with | false => rfl | true => (exfalso; have hz := hK hc 2 (by decide); have hn := (ready_dep hr rfl).1; rw [getD_both hz] at hn; cases hn)
              have hB := hB' hs0
              obtain rfl := zg1 zd1
              refine wpOp_step rfl (fun K hK => ?_)
              clear hr
              go_simp
              refine (rOne_is _ _ _ _ Hn _).mono ?_
              rintro e w1 ⟨rfl, hk⟩
              dsimp only
              refine hK _ _ ?_
              simp only [getD_own (l := ls) (i := 2) (by omega), gq 2 0, gq 2 1, gq 2 3, gq 2 4]
              exact ⟨v38, _, _, v41, rfl, by simp [hl], fun _ => bstep hB hk, zg0, fun _ => rfl, fun _ => rfl, zg3, fun _ => ⟨zd1, trivial⟩, fun h => ⟨(zc3 h).1, (by first | rfl | trivial), trivial⟩, fun h => (by rw [hs0] at h; cases h), fun h => (by rw [hs0] at h; cases h)⟩
            · rintro ls ac w' hr ⟨v38, v39, v40, v41, rfl, hl, hB', zg0, zg1, zg2, zg3, zc2, zc3, hS, hK⟩
              have zd0 := rdd hr 0
              have zd2 := rdd hr 2
              have zd1 := (zc2 zd2).1
              have hs0 : ls.getD 4 false = false := by cases hc : ls.getD 4 false with | false => rfl | true => (exfalso; have hz := hK hc 3 (by decide); have hn := (ready_dep hr rfl).1; rw [getD_both hz] at hn; cases hn)
              have hB := hB' hs0
              obtain rfl := zg0 zd0
              obtain rfl := zg2 zd2
              obtain rfl := zg1 zd1
              refine wpOp_step rfl (fun K hK => ?_)
              clear hr
              go_simp
              refine (r3Sub_is _ _ _ _ _ _ _ _ _ HZ _).mono ?_
              rintro e w1 ⟨rfl, hk⟩
              dsimp only
              refine hK _ _ ?_
              simp only [getD_own (l := ls) (i := 3) (by omega), gq 3 0, gq 3 1, gq 3 2, gq 3 4]
              exact ⟨_, _, _, _, rfl, by simp [hl], fun _ => bstep hB hk, fun _ => rfl, fun _ => rfl, fun _ => rfl, fun _ => rfl, zc2, fun _ => ⟨zd0, zd2, trivial⟩, fun h => (by rw [hs0] at h; cases h), fun h => (by rw [hs0] at h; cases h)⟩
            · rintro ls ac w' hr ⟨v38, v39, v40, v41, rfl, hl, hB', zg0, zg1, zg2, zg3, zc2, zc3, hS, hK⟩
              have zd3 := rdd hr 3
              have zd0 := (zc3 zd3).1
              have zd2 := (zc3 zd3).2.1
              have zd1 := (zc2 zd2).1
              obtain rfl := zg3 zd3
              obtain rfl := zg0 zd0
              obtain rfl := zg2 zd2
              obtain rfl := zg1 zd1
              have hns : ls.getD 4 false = false := by cases hc : ls.getD 4 false with | false => rfl | true => (exfalso; have hn := (ready_dep hr rfl).1; rw [getD_both hc] at hn; cases hn)
              have hB := hB' hns
              have hall : ∀ i, i < 5 → (ls.setIfInBounds 4 true).getD i false = true := by intro i hi; have hi' : i = 0 ∨ i = 1 ∨ i = 2 ∨ i = 3 ∨ i = 4 := (by decide : ∀ i : Nat, i < 5 → (i = 0 ∨ i = 1 ∨ i = 2 ∨ i = 3 ∨ i = 4)) i hi; rcases hi' with rfl | rfl | rfl | rfl | rfl <;> first | exact getD_own (by omega) | (rw [getD_set ls (by decide)]; assumption)
              have hSp := SpanAt.keep hB hR
              have hT := span_sets (x := x1) (y := x2) (z := x3) hSp
              have zs0 := (hSp).1.1
              have zs1 := (hSp).2.1.1
              have zs2 := (hSp).2.2.1
              have zs3 := (hSp).1.2
              have zs4 := (hSp).2.1.2
              have zs5 := (hSp).2.2.2
              refine wpOp_step rfl (fun K hK' => ?_)
              clear hr
              clear hSp
              go_simp
              refine hK' _ _ ?_
              simp only [getD_own (l := ls) (i := 4) (by omega), gq 4 0, gq 4 1, gq 4 2, gq 4 3]
              exact ⟨_, _, _, _, rfl, by simp [hl], fun h => (by cases h), fun _ => rfl, fun _ => rfl, fun _ => rfl, fun _ => rfl, zc2, zc3, fun _ => ⟨(hB.mono (hwD).size).trans (hT.2.2 _ (by omega)), hT.1⟩, fun _ => hall⟩
          · rintro ls ac w' ⟨v38, v39, v40, v41, rfl, hl, hB', zg0, zg1, zg2, zg3, zc2, zc3, hS, hK⟩ hr
            have hall := ready_allb (by decide) hl hr
            have hSx := hS (hall 4 (by decide))
            have x0' := hSx.2.1.1
            have x1' := hSx.2.2.1.1
            have x2' := hSx.2.2.2.1
            go_wp2
            exact bodyPost_ret (v := .agg #[.int .i64 x1, .int .i64 x2, .bool x3]) (by simp [results, Try.results68, go_sem, x0', x1', x2']) rfl ⟨rfl, hwD.trans hSx.1⟩
end Go.Proofs.Ytnphbdhcoiaklaa
