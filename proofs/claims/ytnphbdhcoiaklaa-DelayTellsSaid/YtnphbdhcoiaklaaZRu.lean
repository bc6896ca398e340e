/-
  The document's delay: Mean.
-/
import Derived.Test.YtnphbdhcoiaklaaZRq
import Derived.Test.YtnphbdhcoiaklaaZRy
import Derived.Test.YtnphbdhcoiaklaaZGF
import Derived.Test.YtnphbdhcoiaklaaZGG
import Derived.Test.YtnphbdhcoiaklaaZGB
import Derived.BigQuiet
import Derived.Deep.QuietTactic
import Derived.Deep.Cut
import Derived.Deep.CutRange
import Derived.Deep.DeepCutAuto
namespace Go.Proofs.Ytnphbdhcoiaklaa
open Go.RowKit

set_option maxRecDepth 100000 in
set_option maxHeartbeats 4000000 in
theorem rMean_is (mn mx g x0 x1 x2 x3 c0 c1 y1 y2 : Int) (y3 : Bool) (hc0 : I64 c0) (hc1 : I64 c1) (H : Hid (dMean mn mx g x0 x1 x2 x3 c0 c1 = ⟨y1, y2, y3⟩)) (w : World) :
    Calls Try.prog 73 #[.agg #[.int .i64 mn, .int .i64 mx, .int .i64 g], .agg #[.int .i64 x0, .int .i64 x1, .int .i64 x2, .int .i64 x3], .agg #[.int .i64 c0, .int .i64 c1]] w fun e w' => e = .returned (.agg #[.int .i64 y1, .int .i64 y2, .bool y3]) ∧ Below w.heap.size w w' := by
  obtain ⟨p, hp⟩ : ∃ p, pRight mn mx g = p := ⟨_, rfl⟩
  have HP := Lib.hid hp
  have hx := H.out
  unfold dMean dTwo dWider at hx
  obtain ⟨⟨a1, a2, a3⟩, ea⟩ : ∃ s, spOf x1 x1 = s := ⟨_, rfl⟩
  have Ha := Lib.hid ea
  obtain ⟨⟨b1, b2, b3⟩, eb⟩ : ∃ s, spOf x0 x0 = s := ⟨_, rfl⟩
  have Hb := Lib.hid eb
  obtain ⟨⟨d1, d2, d3⟩, ed⟩ : ∃ s, spSub ⟨a1, a2, a3⟩ ⟨b1, b2, b3⟩ = s := ⟨_, rfl⟩
  have Hd := Lib.hid ed
  obtain ⟨⟨e1, e2, e3⟩, ee⟩ : ∃ s, dCorr c0 = s := ⟨_, rfl⟩
  have He := Lib.hid ee
  obtain ⟨⟨f1, f2, f3⟩, ef⟩ : ∃ s, spSub ⟨d1, d2, d3⟩ ⟨e1, e2, e3⟩ = s := ⟨_, rfl⟩
  have Hf := Lib.hid ef
  obtain ⟨⟨i1, i2, i3⟩, ei⟩ : ∃ s, spOf x3 x3 = s := ⟨_, rfl⟩
  have Hi := Lib.hid ei
  obtain ⟨⟨j1, j2, j3⟩, ej⟩ : ∃ s, spOf x2 x2 = s := ⟨_, rfl⟩
  have Hj := Lib.hid ej
  obtain ⟨⟨k1, k2, k3⟩, ek⟩ : ∃ s, spSub ⟨i1, i2, i3⟩ ⟨j1, j2, j3⟩ = s := ⟨_, rfl⟩
  have Hk := Lib.hid ek
  obtain ⟨⟨l1, l2, l3⟩, el⟩ : ∃ s, dCorr c1 = s := ⟨_, rfl⟩
  have Hl := Lib.hid el
  obtain ⟨⟨m1, m2, m3⟩, em⟩ : ∃ s, spSub ⟨k1, k2, k3⟩ ⟨l1, l2, l3⟩ = s := ⟨_, rfl⟩
  have Hm := Lib.hid em
  obtain ⟨⟨n1, n2, n3⟩, en⟩ : ∃ s, spAdd ⟨f1, f2, f3⟩ ⟨m1, m2, m3⟩ = s := ⟨_, rfl⟩
  have Hn := Lib.hid en
  obtain ⟨⟨s1, s2, s3⟩, es⟩ : ∃ s, spWider ⟨n1, n2, n3⟩ (4 * g) (4 * g) = s := ⟨_, rfl⟩
  have Hs := Lib.hid es
  obtain ⟨v, vi, ev⟩ : ∃ x p, floorP s1 1 2 = (x, p) := ⟨_, _, rfl⟩
  have Hv := Lib.hid ev
  obtain ⟨t, ti, et⟩ : ∃ x p, ceilP s2 1 2 = (x, p) := ⟨_, _, rfl⟩
  have Ht := Lib.hid et
  rw [hp, ea, eb, ed, ee, ef, ei, ej, ek, el, em, en, es] at hx
  clear H hp ea eb ed ee ef ei ej ek el em en es
  have HX := Lib.hid hx
  clear hx
  go_enter Try.func73, Try.ntmps73
  go_wp2_with fail
  refine (rPRight_is _ _ _ _ HP _).mono ?_
  rintro e w1 ⟨rfl, hb1⟩
  have q1_1_0 : CellF w1 ⟨w.heap.size, 0, none⟩ (.int .i64 mn) := CellF.keep hb1 (CellF.past _ (CellF.past _ (CellF.past _ (CellF.at_ rfl rfl))))
  have c1_1_0 := q1_1_0.1
  have g1_1_0 := q1_1_0.2
  have q1_1_1 : CellF w1 ⟨w.heap.size, 1, none⟩ (.int .i64 mx) := CellF.keep hb1 (CellF.past _ (CellF.past _ (CellF.past _ (CellF.at_ rfl rfl))))
  have c1_1_1 := q1_1_1.1
  have g1_1_1 := q1_1_1.2
  have q1_1_2 : CellF w1 ⟨w.heap.size, 2, none⟩ (.int .i64 g) := CellF.keep hb1 (CellF.past _ (CellF.past _ (CellF.past _ (CellF.at_ rfl rfl))))
  have c1_1_2 := q1_1_2.1
  have g1_1_2 := q1_1_2.2
  have z1_1 : w.heap.size < w1.heap.size := ltc c1_1_0
  have q1_2_0 : CellF w1 ⟨(w.heap.size + 1), 0, none⟩ (.int .i64 x0) := CellF.keep hb1 (CellF.past _ (CellF.past _ (CellF.at_ (by simp) rfl)))
  have c1_2_0 := q1_2_0.1
  have g1_2_0 := q1_2_0.2
  have q1_2_1 : CellF w1 ⟨(w.heap.size + 1), 1, none⟩ (.int .i64 x1) := CellF.keep hb1 (CellF.past _ (CellF.past _ (CellF.at_ (by simp) rfl)))
  have c1_2_1 := q1_2_1.1
  have g1_2_1 := q1_2_1.2
  have q1_2_2 : CellF w1 ⟨(w.heap.size + 1), 2, none⟩ (.int .i64 x2) := CellF.keep hb1 (CellF.past _ (CellF.past _ (CellF.at_ (by simp) rfl)))
  have c1_2_2 := q1_2_2.1
  have g1_2_2 := q1_2_2.2
  have q1_2_3 : CellF w1 ⟨(w.heap.size + 1), 3, none⟩ (.int .i64 x3) := CellF.keep hb1 (CellF.past _ (CellF.past _ (CellF.at_ (by simp) rfl)))
  have c1_2_3 := q1_2_3.1
  have g1_2_3 := q1_2_3.2
  have z1_2 : (w.heap.size + 1) < w1.heap.size := ltc c1_2_0
  have q1_3_0 : CellF w1 ⟨(w.heap.size + 1 + 1), 0, none⟩ (.int .i64 c0) := CellF.keep hb1 (CellF.past _ (CellF.at_ (by simp) rfl))
  have c1_3_0 := q1_3_0.1
  have g1_3_0 := q1_3_0.2
  have q1_3_1 : CellF w1 ⟨(w.heap.size + 1 + 1), 1, none⟩ (.int .i64 c1) := CellF.keep hb1 (CellF.past _ (CellF.at_ (by simp) rfl))
  have c1_3_1 := q1_3_1.1
  have g1_3_1 := q1_3_1.2
  have z1_3 : (w.heap.size + 1 + 1) < w1.heap.size := ltc c1_3_0
  have q1_4_0 : CellF w1 ⟨(w.heap.size + 1 + 1 + 1), 0, none⟩ (.int .i64 0) := CellF.keep hb1 (CellF.at_ (by simp) rfl)
  have c1_4_0 := q1_4_0.1
  have g1_4_0 := q1_4_0.2
  have q1_4_1 : CellF w1 ⟨(w.heap.size + 1 + 1 + 1), 1, none⟩ (.int .i64 0) := CellF.keep hb1 (CellF.at_ (by simp) rfl)
  have c1_4_1 := q1_4_1.1
  have g1_4_1 := q1_4_1.2
  have q1_4_2 : CellF w1 ⟨(w.heap.size + 1 + 1 + 1), 2, none⟩ (.bool false) := CellF.keep hb1 (CellF.at_ (by simp) rfl)
  have c1_4_2 := q1_4_2.1
  have g1_4_2 := q1_4_2.2
  have z1_4 : (w.heap.size + 1 + 1 + 1) < w1.heap.size := ltc c1_4_0
  cases p with
  | false =>
    have hx := HX.out
    rw [if_neg (show ¬ (if false = true then (⟨s1, s2, s3⟩ : Sp) else spNo).kn = true from by rw [if_neg (by decide)]; decide)] at hx
    cases hx
    go_wp2
    exact bodyPost_ret (v := .agg #[.int .i64 0, .int .i64 0, .bool false]) (by simp [results, Try.results73, go_sem, c1_4_0, c1_4_1, c1_4_2]) rfl ⟨rfl, (by repeat (first | with_reducible assumption | with_reducible exact brefl _ | with_reducible refine balloc ?_ _ | with_reducible refine bdrewN ?_ _ | with_reducible refine bset ?_ ?_ _ | (dsimp only; omega) | refine bstep ?_ (by assumption)))⟩
  | true =>
    have hx := HX.out
    rw [if_pos rfl] at hx
    dsimp only at hx
    rw [ev, et] at hx
    have HZ := Lib.hid hx
    have hr := pRight_iff.1 HP.out
    have hg0 : 0 ≤ g := hr.2.2.2.1
    have hg9 : g ≤ 1000000000 := hr.2.2.2.2
    clear hx HX hr ev et
    have hmw : IntKind.i64.wrap (4 * g) = 4 * g := by rw [IntKind.wrap_i64]; omega
    go_upto_region 3 with (fail)
    go_cut [7] (fun v7 wd => ∃ bf, v7 = .pointer (some ⟨bf, 0, none⟩) ∧ w.heap.size + 1 + 1 + 1 < bf ∧ Hid (Below w.heap.size w wd) ∧ Hid (CellF wd ⟨w.heap.size, 0, none⟩ (.int .i64 mn) ∧ CellF wd ⟨w.heap.size, 1, none⟩ (.int .i64 mx) ∧ CellF wd ⟨w.heap.size, 2, none⟩ (.int .i64 g)) ∧ Hid (CellF wd ⟨(w.heap.size + 1), 0, none⟩ (.int .i64 x0) ∧ CellF wd ⟨(w.heap.size + 1), 1, none⟩ (.int .i64 x1) ∧ CellF wd ⟨(w.heap.size + 1), 2, none⟩ (.int .i64 x2) ∧ CellF wd ⟨(w.heap.size + 1), 3, none⟩ (.int .i64 x3)) ∧ Hid (CellF wd ⟨(w.heap.size + 1 + 1), 0, none⟩ (.int .i64 c0) ∧ CellF wd ⟨(w.heap.size + 1 + 1), 1, none⟩ (.int .i64 c1)) ∧ Hid (CellF wd ⟨(w.heap.size + 1 + 1 + 1), 0, none⟩ (.int .i64 0) ∧ CellF wd ⟨(w.heap.size + 1 + 1 + 1), 1, none⟩ (.int .i64 0) ∧ CellF wd ⟨(w.heap.size + 1 + 1 + 1), 2, none⟩ (.bool false)) ∧ Hid (CellF wd ⟨bf, 0, none⟩ (.int .i64 f1) ∧ CellF wd ⟨bf, 1, none⟩ (.int .i64 f2) ∧ CellF wd ⟨bf, 2, none⟩ (.bool f3)))
    case first =>
      refine wp_region_inv (by kernel_rfl) (fun ls ac w' => ∃ v7 v18 v19 v20 v21 v22 v23 v24 v25 v26 v27 v28, ac = ⟨#[.agg #[.int .i64 mn, .int .i64 mx, .int .i64 g], .agg #[.int .i64 x0, .int .i64 x1, .int .i64 x2, .int .i64 x3], .agg #[.int .i64 c0, .int .i64 c1], .pointer (some ⟨w.heap.size, 0, none⟩), .pointer (some ⟨w.heap.size + 1, 0, none⟩), .pointer (some ⟨w.heap.size + 1 + 1, 0, none⟩), .pointer (some ⟨w.heap.size + 1 + 1 + 1, 0, none⟩), v7, undef, undef, undef, undef, undef, undef, .agg #[.int .i64 mn, .int .i64 mx, .int .i64 g], .bool true, .bool false, undef, v18, v19, v20, v21, v22, v23, v24, v25, v26, v27, v28, undef, undef, undef, undef, undef, undef, undef, undef, undef, undef, undef, undef, undef, undef, undef, undef, undef, undef, undef, undef, undef, undef, undef, undef, undef, undef, undef, undef, undef, undef, undef, undef, undef, undef, undef, undef, undef, undef, undef, undef], []⟩ ∧ ls.size = 13 ∧ Below w1.heap.size w1 w' ∧ (ls.getD 0 false = true → v18 = .pointer (some ⟨w.heap.size + 1, 1, none⟩)) ∧ (ls.getD 1 false = true → v19 = .int .i64 x1) ∧ (ls.getD 2 false = true → v20 = .agg #[.int .i64 a1, .int .i64 a2, .bool a3]) ∧ (ls.getD 3 false = true → v21 = .pointer (some ⟨w.heap.size + 1, 0, none⟩)) ∧ (ls.getD 4 false = true → v22 = .int .i64 x0) ∧ (ls.getD 5 false = true → v23 = .agg #[.int .i64 b1, .int .i64 b2, .bool b3]) ∧ (ls.getD 6 false = true → v24 = .agg #[.int .i64 d1, .int .i64 d2, .bool d3]) ∧ (ls.getD 7 false = true → v25 = .pointer (some ⟨w.heap.size + 1 + 1, 0, none⟩)) ∧ (ls.getD 8 false = true → v26 = .int .i64 c0) ∧ (ls.getD 9 false = true → v27 = .agg #[.int .i64 e1, .int .i64 e2, .bool e3]) ∧ (ls.getD 10 false = true → v28 = .agg #[.int .i64 f1, .int .i64 f2, .bool f3]) ∧ (ls.getD 11 false = true → ∃ b, v7 = .pointer (some ⟨b, 0, none⟩) ∧ w1.heap.size ≤ b ∧ (ls.getD 12 false = false → SpanAt w' b 0 0 false) ∧ (ls.getD 12 false = true → SpanAt w' b f1 f2 f3)) ∧ (ls.getD 12 false = true → ls.getD 11 false = true)) ?_ ?_ ?_
      · exact ⟨_, _, _, _, _, _, _, _, _, _, _, _, rfl, rfl, bdrew (brefl _), fun h => (by cases h), fun h => (by cases h), fun h => (by cases h), fun h => (by cases h), fun h => (by cases h), fun h => (by cases h), fun h => (by cases h), fun h => (by cases h), fun h => (by cases h), fun h => (by cases h), fun h => (by cases h), fun h => (by cases h), fun h => (by cases h)⟩
      · intro i hii
        have hin : i < 13 := hii
        have hor : i = 0 ∨ i = 1 ∨ i = 2 ∨ i = 3 ∨ i = 4 ∨ i = 5 ∨ i = 6 ∨ i = 7 ∨ i = 8 ∨ i = 9 ∨ i = 10 ∨ i = 11 ∨ i = 12 := (by decide : ∀ i : Nat, i < 13 → (i = 0 ∨ i = 1 ∨ i = 2 ∨ i = 3 ∨ i = 4 ∨ i = 5 ∨ i = 6 ∨ i = 7 ∨ i = 8 ∨ i = 9 ∨ i = 10 ∨ i = 11 ∨ i = 12)) i hin
        rcases hor with rfl | rfl | rfl | rfl | rfl | rfl | rfl | rfl | rfl | rfl | rfl | rfl | rfl
        · rintro ls ac w' hr ⟨v7, v18, v19, v20, v21, v22, v23, v24, v25, v26, v27, v28, rfl, hl, hB, zg0, zg1, zg2, zg3, zg4, zg5, zg6, zg7, zg8, zg9, zg10, zh1, zk1⟩
          refine wpOp_step rfl (fun K hK => ?_)
          clear hr
          go_simp
          refine hK _ _ ?_
          simp only [getD_own (l := ls) (i := 0) (by omega), gq 0 1, gq 0 2, gq 0 3, gq 0 4, gq 0 5, gq 0 6, gq 0 7, gq 0 8, gq 0 9, gq 0 10, gq 0 11, gq 0 12]
          exact ⟨v7, _, v19, v20, v21, v22, v23, v24, v25, v26, v27, v28, rfl, by simp [hl], hB, fun _ => rfl, zg1, zg2, zg3, zg4, zg5, zg6, zg7, zg8, zg9, zg10, zh1, zk1⟩
        · rintro ls ac w' hr ⟨v7, v18, v19, v20, v21, v22, v23, v24, v25, v26, v27, v28, rfl, hl, hB, zg0, zg1, zg2, zg3, zg4, zg5, zg6, zg7, zg8, zg9, zg10, zh1, zk1⟩
          have zd0 := rdd hr 0
          obtain rfl := zg0 zd0
          have a4 := (hB.cell (ltc c1_2_1)).trans c1_2_1
          refine wpOp_step rfl (fun K hK => ?_)
          clear hr
          go_simp
          refine hK _ _ ?_
          simp only [getD_own (l := ls) (i := 1) (by omega), gq 1 0, gq 1 2, gq 1 3, gq 1 4, gq 1 5, gq 1 6, gq 1 7, gq 1 8, gq 1 9, gq 1 10, gq 1 11, gq 1 12]
          exact ⟨v7, _, _, v20, v21, v22, v23, v24, v25, v26, v27, v28, rfl, by simp [hl], hB, fun _ => rfl, fun _ => rfl, zg2, zg3, zg4, zg5, zg6, zg7, zg8, zg9, zg10, zh1, zk1⟩
        · rintro ls ac w' hr ⟨v7, v18, v19, v20, v21, v22, v23, v24, v25, v26, v27, v28, rfl, hl, hB, zg0, zg1, zg2, zg3, zg4, zg5, zg6, zg7, zg8, zg9, zg10, zh1, zk1⟩
          have zd1 := rdd hr 1
          obtain rfl := zg1 zd1
          refine wpOp_step rfl (fun K hK => ?_)
          clear hr
          go_simp
          refine (rOne_is _ _ _ _ Ha _).mono ?_
          rintro e w1 ⟨rfl, hk⟩
          dsimp only
          refine hK _ _ ?_
          simp only [getD_own (l := ls) (i := 2) (by omega), gq 2 0, gq 2 1, gq 2 3, gq 2 4, gq 2 5, gq 2 6, gq 2 7, gq 2 8, gq 2 9, gq 2 10, gq 2 11, gq 2 12]
          exact ⟨v7, v18, _, _, v21, v22, v23, v24, v25, v26, v27, v28, rfl, by simp [hl], bstep hB hk, zg0, fun _ => rfl, fun _ => rfl, zg3, zg4, zg5, zg6, zg7, zg8, zg9, zg10, fun h => (by obtain ⟨b, e1, e2, e4, e5⟩ := zh1 h; exact ⟨b, e1, e2, fun h => (e4 h).keep hk, fun h => (e5 h).keep hk⟩), zk1⟩
        · rintro ls ac w' hr ⟨v7, v18, v19, v20, v21, v22, v23, v24, v25, v26, v27, v28, rfl, hl, hB, zg0, zg1, zg2, zg3, zg4, zg5, zg6, zg7, zg8, zg9, zg10, zh1, zk1⟩
          refine wpOp_step rfl (fun K hK => ?_)
          clear hr
          go_simp
          refine hK _ _ ?_
          simp only [getD_own (l := ls) (i := 3) (by omega), gq 3 0, gq 3 1, gq 3 2, gq 3 4, gq 3 5, gq 3 6, gq 3 7, gq 3 8, gq 3 9, gq 3 10, gq 3 11, gq 3 12]
          exact ⟨v7, v18, v19, v20, _, v22, v23, v24, v25, v26, v27, v28, rfl, by simp [hl], hB, zg0, zg1, zg2, fun _ => rfl, zg4, zg5, zg6, zg7, zg8, zg9, zg10, zh1, zk1⟩
        · rintro ls ac w' hr ⟨v7, v18, v19, v20, v21, v22, v23, v24, v25, v26, v27, v28, rfl, hl, hB, zg0, zg1, zg2, zg3, zg4, zg5, zg6, zg7, zg8, zg9, zg10, zh1, zk1⟩
          have zd3 := rdd hr 3
          obtain rfl := zg3 zd3
          have a3 := (hB.cell (ltc c1_2_0)).trans c1_2_0
          refine wpOp_step rfl (fun K hK => ?_)
          clear hr
          go_simp
          refine hK _ _ ?_
          simp only [getD_own (l := ls) (i := 4) (by omega), gq 4 0, gq 4 1, gq 4 2, gq 4 3, gq 4 5, gq 4 6, gq 4 7, gq 4 8, gq 4 9, gq 4 10, gq 4 11, gq 4 12]
          exact ⟨v7, v18, v19, v20, _, _, v23, v24, v25, v26, v27, v28, rfl, by simp [hl], hB, zg0, zg1, zg2, fun _ => rfl, fun _ => rfl, zg5, zg6, zg7, zg8, zg9, zg10, zh1, zk1⟩
        · rintro ls ac w' hr ⟨v7, v18, v19, v20, v21, v22, v23, v24, v25, v26, v27, v28, rfl, hl, hB, zg0, zg1, zg2, zg3, zg4, zg5, zg6, zg7, zg8, zg9, zg10, zh1, zk1⟩
          have zd4 := rdd hr 4
          obtain rfl := zg4 zd4
          refine wpOp_step rfl (fun K hK => ?_)
          clear hr
          go_simp
          refine (rOne_is _ _ _ _ Hb _).mono ?_
          rintro e w1 ⟨rfl, hk⟩
          dsimp only
          refine hK _ _ ?_
          simp only [getD_own (l := ls) (i := 5) (by omega), gq 5 0, gq 5 1, gq 5 2, gq 5 3, gq 5 4, gq 5 6, gq 5 7, gq 5 8, gq 5 9, gq 5 10, gq 5 11, gq 5 12]
          exact ⟨v7, v18, v19, v20, v21, _, _, v24, v25, v26, v27, v28, rfl, by simp [hl], bstep hB hk, zg0, zg1, zg2, zg3, fun _ => rfl, fun _ => rfl, zg6, zg7, zg8, zg9, zg10, fun h => (by obtain ⟨b, e1, e2, e4, e5⟩ := zh1 h; exact ⟨b, e1, e2, fun h => (e4 h).keep hk, fun h => (e5 h).keep hk⟩), zk1⟩
        · rintro ls ac w' hr ⟨v7, v18, v19, v20, v21, v22, v23, v24, v25, v26, v27, v28, rfl, hl, hB, zg0, zg1, zg2, zg3, zg4, zg5, zg6, zg7, zg8, zg9, zg10, zh1, zk1⟩
          have zd2 := rdd hr 2
          have zd5 := rdd hr 5
          obtain rfl := zg2 zd2
          obtain rfl := zg5 zd5
          refine wpOp_step rfl (fun K hK => ?_)
          clear hr
          go_simp
          refine (r3Sub_is _ _ _ _ _ _ _ _ _ Hd _).mono ?_
          rintro e w1 ⟨rfl, hk⟩
          dsimp only
          refine hK _ _ ?_
          simp only [getD_own (l := ls) (i := 6) (by omega), gq 6 0, gq 6 1, gq 6 2, gq 6 3, gq 6 4, gq 6 5, gq 6 7, gq 6 8, gq 6 9, gq 6 10, gq 6 11, gq 6 12]
          exact ⟨v7, v18, v19, _, v21, v22, _, _, v25, v26, v27, v28, rfl, by simp [hl], bstep hB hk, zg0, zg1, fun _ => rfl, zg3, zg4, fun _ => rfl, fun _ => rfl, zg7, zg8, zg9, zg10, fun h => (by obtain ⟨b, e1, e2, e4, e5⟩ := zh1 h; exact ⟨b, e1, e2, fun h => (e4 h).keep hk, fun h => (e5 h).keep hk⟩), zk1⟩
        · rintro ls ac w' hr ⟨v7, v18, v19, v20, v21, v22, v23, v24, v25, v26, v27, v28, rfl, hl, hB, zg0, zg1, zg2, zg3, zg4, zg5, zg6, zg7, zg8, zg9, zg10, zh1, zk1⟩
          refine wpOp_step rfl (fun K hK => ?_)
          clear hr
          go_simp
          refine hK _ _ ?_
          simp only [getD_own (l := ls) (i := 7) (by omega), gq 7 0, gq 7 1, gq 7 2, gq 7 3, gq 7 4, gq 7 5, gq 7 6, gq 7 8, gq 7 9, gq 7 10, gq 7 11, gq 7 12]
          exact ⟨v7, v18, v19, v20, v21, v22, v23, v24, _, v26, v27, v28, rfl, by simp [hl], hB, zg0, zg1, zg2, zg3, zg4, zg5, zg6, fun _ => rfl, zg8, zg9, zg10, zh1, zk1⟩
        · rintro ls ac w' hr ⟨v7, v18, v19, v20, v21, v22, v23, v24, v25, v26, v27, v28, rfl, hl, hB, zg0, zg1, zg2, zg3, zg4, zg5, zg6, zg7, zg8, zg9, zg10, zh1, zk1⟩
          have zd7 := rdd hr 7
          obtain rfl := zg7 zd7
          have a7 := (hB.cell (ltc c1_3_0)).trans c1_3_0
          refine wpOp_step rfl (fun K hK => ?_)
          clear hr
          go_simp
          refine hK _ _ ?_
          simp only [getD_own (l := ls) (i := 8) (by omega), gq 8 0, gq 8 1, gq 8 2, gq 8 3, gq 8 4, gq 8 5, gq 8 6, gq 8 7, gq 8 9, gq 8 10, gq 8 11, gq 8 12]
          exact ⟨v7, v18, v19, v20, v21, v22, v23, v24, _, _, v27, v28, rfl, by simp [hl], hB, zg0, zg1, zg2, zg3, zg4, zg5, zg6, fun _ => rfl, fun _ => rfl, zg9, zg10, zh1, zk1⟩
        · rintro ls ac w' hr ⟨v7, v18, v19, v20, v21, v22, v23, v24, v25, v26, v27, v28, rfl, hl, hB, zg0, zg1, zg2, zg3, zg4, zg5, zg6, zg7, zg8, zg9, zg10, zh1, zk1⟩
          have zd8 := rdd hr 8
          obtain rfl := zg8 zd8
          refine wpOp_step rfl (fun K hK => ?_)
          clear hr
          go_simp
          refine (rCorr_is _ hc0 _ _ _ He _).mono ?_
          rintro e w1 ⟨rfl, hk⟩
          dsimp only
          refine hK _ _ ?_
          simp only [getD_own (l := ls) (i := 9) (by omega), gq 9 0, gq 9 1, gq 9 2, gq 9 3, gq 9 4, gq 9 5, gq 9 6, gq 9 7, gq 9 8, gq 9 10, gq 9 11, gq 9 12]
          exact ⟨v7, v18, v19, v20, v21, v22, v23, v24, v25, _, _, v28, rfl, by simp [hl], bstep hB hk, zg0, zg1, zg2, zg3, zg4, zg5, zg6, zg7, fun _ => rfl, fun _ => rfl, zg10, fun h => (by obtain ⟨b, e1, e2, e4, e5⟩ := zh1 h; exact ⟨b, e1, e2, fun h => (e4 h).keep hk, fun h => (e5 h).keep hk⟩), zk1⟩
        · rintro ls ac w' hr ⟨v7, v18, v19, v20, v21, v22, v23, v24, v25, v26, v27, v28, rfl, hl, hB, zg0, zg1, zg2, zg3, zg4, zg5, zg6, zg7, zg8, zg9, zg10, zh1, zk1⟩
          have zd6 := rdd hr 6
          have zd9 := rdd hr 9
          obtain rfl := zg6 zd6
          obtain rfl := zg9 zd9
          refine wpOp_step rfl (fun K hK => ?_)
          clear hr
          go_simp
          refine (r3Sub_is _ _ _ _ _ _ _ _ _ Hf _).mono ?_
          rintro e w1 ⟨rfl, hk⟩
          dsimp only
          refine hK _ _ ?_
          simp only [getD_own (l := ls) (i := 10) (by omega), gq 10 0, gq 10 1, gq 10 2, gq 10 3, gq 10 4, gq 10 5, gq 10 6, gq 10 7, gq 10 8, gq 10 9, gq 10 11, gq 10 12]
          exact ⟨v7, v18, v19, v20, v21, v22, v23, _, v25, v26, _, _, rfl, by simp [hl], bstep hB hk, zg0, zg1, zg2, zg3, zg4, zg5, fun _ => rfl, zg7, zg8, fun _ => rfl, fun _ => rfl, fun h => (by obtain ⟨b, e1, e2, e4, e5⟩ := zh1 h; exact ⟨b, e1, e2, fun h => (e4 h).keep hk, fun h => (e5 h).keep hk⟩), zk1⟩
        · rintro ls ac w' hr ⟨v7, v18, v19, v20, v21, v22, v23, v24, v25, v26, v27, v28, rfl, hl, hB, zg0, zg1, zg2, zg3, zg4, zg5, zg6, zg7, zg8, zg9, zg10, zh1, zk1⟩
          have hz := hB.size
          have hn := (ready_dep hr rfl).1
          have hna : ls.getD 11 false = false := by cases hc : ls.getD 11 false with | false => rfl | true => (exfalso; have hs4 := getD_both hc; rw [hs4] at hn; cases hn)
          have hus : ls.getD 12 false = false := by cases hc : ls.getD 12 false with | false => rfl | true => (rw [zk1 hc] at hna; cases hna)
          refine wpOp_step rfl (fun K hK => ?_)
          clear hr
          go_simp
          refine hK _ _ ?_
          simp only [getD_own (l := ls) (i := 11) (by omega), gq 11 0, gq 11 1, gq 11 2, gq 11 3, gq 11 4, gq 11 5, gq 11 6, gq 11 7, gq 11 8, gq 11 9, gq 11 10, gq 11 12]
          exact ⟨_, v18, v19, v20, v21, v22, v23, v24, v25, v26, v27, v28, rfl, by simp [hl], balloc hB _, zg0, zg1, zg2, zg3, zg4, zg5, zg6, zg7, zg8, zg9, zg10, fun _ => ⟨_, rfl, hz, fun _ => SpanAt.new rfl, fun h => (by rw [hus] at h; cases h)⟩, fun _ => (by first | rfl | trivial)⟩
        · rintro ls ac w' hr ⟨v7, v18, v19, v20, v21, v22, v23, v24, v25, v26, v27, v28, rfl, hl, hB, zg0, zg1, zg2, zg3, zg4, zg5, zg6, zg7, zg8, zg9, zg10, zh1, zk1⟩
          have zd11 := rdd hr 11
          have zd10 := rdd hr 10
          obtain rfl := zg10 zd10
          have hn := (ready_dep hr rfl).1
          have hns : ls.getD 12 false = false := by cases hc : ls.getD 12 false with | false => rfl | true => (exfalso; have hs4 := getD_both hc; rw [hs4] at hn; cases hn)
          obtain ⟨b, rfl, hub, e4, _⟩ := zh1 zd11
          have hS := e4 hns
          have hT := span_sets (x := f1) (y := f2) (z := f3) hS
          have zs0 := (hS).1.1
          have zs1 := (hS).2.1.1
          have zs2 := (hS).2.2.1
          have zs3 := (hS).1.2
          have zs4 := (hS).2.1.2
          have zs5 := (hS).2.2.2
          refine wpOp_step rfl (fun K hK => ?_)
          clear hr
          clear hS e4
          go_simp
          refine hK _ _ ?_
          simp only [getD_own (l := ls) (i := 12) (by omega), gq 12 0, gq 12 1, gq 12 2, gq 12 3, gq 12 4, gq 12 5, gq 12 6, gq 12 7, gq 12 8, gq 12 9, gq 12 10, gq 12 11]
          exact ⟨_, v18, v19, v20, v21, v22, v23, v24, v25, v26, v27, _, rfl, by simp [hl], hB.trans (hT.2.2 _ hub), zg0, zg1, zg2, zg3, zg4, zg5, zg6, zg7, zg8, zg9, fun _ => rfl, fun _ => ⟨b, rfl, hub, fun h => (by cases h), fun _ => hT.1⟩, fun _ => zd11⟩
      · rintro ls ac w' ⟨v7, v18, v19, v20, v21, v22, v23, v24, v25, v26, v27, v28, rfl, hl, hB, zg0, zg1, zg2, zg3, zg4, zg5, zg6, zg7, zg8, zg9, zg10, zh1, zk1⟩ hr
        have hall := ready_allb (by decide) hl hr
        obtain ⟨b1, rfl, hub1, _, f1⟩ := zh1 (hall 11 (by decide))
        have F1 := f1 (hall 12 (by decide))
        go_wp2_with fail
        go_meet
        exact ⟨b1, rfl, by omega, Lib.hid (Below.trans (by repeat (first | exact brefl _ | refine balloc ?_ _ | refine bdrewN ?_ _ | refine bset ?_ (by dsimp only; omega) _ | refine bstep ?_ (by assumption))) (hB.mono (Below.size (by repeat (first | exact brefl _ | refine balloc ?_ _ | refine bdrewN ?_ _ | refine bset ?_ (by dsimp only; omega) _ | refine bstep ?_ (by assumption)))))), Lib.hid ⟨CellF.keep hB q1_1_0, CellF.keep hB q1_1_1, CellF.keep hB q1_1_2⟩, Lib.hid ⟨CellF.keep hB q1_2_0, CellF.keep hB q1_2_1, CellF.keep hB q1_2_2, CellF.keep hB q1_2_3⟩, Lib.hid ⟨CellF.keep hB q1_3_0, CellF.keep hB q1_3_1⟩, Lib.hid ⟨CellF.keep hB q1_4_0, CellF.keep hB q1_4_1, CellF.keep hB q1_4_2⟩, Lib.hid ⟨F1.1, F1.2.1, F1.2.2⟩⟩
    case rest =>
      clear q1_1_0 c1_1_0 g1_1_0 q1_1_1 c1_1_1 g1_1_1 q1_1_2 c1_1_2 g1_1_2 z1_1 q1_2_0 c1_2_0 g1_2_0 q1_2_1 c1_2_1 g1_2_1 q1_2_2 c1_2_2 g1_2_2 q1_2_3 c1_2_3 g1_2_3 z1_2 q1_3_0 c1_3_0 g1_3_0 q1_3_1 c1_3_1 g1_3_1 z1_3 q1_4_0 c1_4_0 g1_4_0 q1_4_1 c1_4_1 g1_4_1 q1_4_2 c1_4_2 g1_4_2 z1_4
      obtain ⟨bf, rfl, hbf, HBA, HA0, HA1, HA2, HA3, HA4⟩ := hcut
      have hwA := HBA.out
      have qHA0_0 := HA0.out.1
      have cHA0_0 := qHA0_0.1
      have gHA0_0 := qHA0_0.2
      have qHA0_1 := HA0.out.2.1
      have cHA0_1 := qHA0_1.1
      have gHA0_1 := qHA0_1.2
      have qHA0_2 := HA0.out.2.2
      have cHA0_2 := qHA0_2.1
      have gHA0_2 := qHA0_2.2
      have zHA0 := ltc cHA0_0
      dsimp only at zHA0
      have qHA1_0 := HA1.out.1
      have cHA1_0 := qHA1_0.1
      have gHA1_0 := qHA1_0.2
      have qHA1_1 := HA1.out.2.1
      have cHA1_1 := qHA1_1.1
      have gHA1_1 := qHA1_1.2
      have qHA1_2 := HA1.out.2.2.1
      have cHA1_2 := qHA1_2.1
      have gHA1_2 := qHA1_2.2
      have qHA1_3 := HA1.out.2.2.2
      have cHA1_3 := qHA1_3.1
      have gHA1_3 := qHA1_3.2
      have zHA1 := ltc cHA1_0
      dsimp only at zHA1
      have qHA2_0 := HA2.out.1
      have cHA2_0 := qHA2_0.1
      have gHA2_0 := qHA2_0.2
      have qHA2_1 := HA2.out.2
      have cHA2_1 := qHA2_1.1
      have gHA2_1 := qHA2_1.2
      have zHA2 := ltc cHA2_0
      dsimp only at zHA2
      have qHA3_0 := HA3.out.1
      have cHA3_0 := qHA3_0.1
      have gHA3_0 := qHA3_0.2
      have qHA3_1 := HA3.out.2.1
      have cHA3_1 := qHA3_1.1
      have gHA3_1 := qHA3_1.2
      have qHA3_2 := HA3.out.2.2
      have cHA3_2 := qHA3_2.1
      have gHA3_2 := qHA3_2.2
      have zHA3 := ltc cHA3_0
      dsimp only at zHA3
      have qHA4_0 := HA4.out.1
      have cHA4_0 := qHA4_0.1
      have gHA4_0 := qHA4_0.2
      have qHA4_1 := HA4.out.2.1
      have cHA4_1 := qHA4_1.1
      have gHA4_1 := qHA4_1.2
      have qHA4_2 := HA4.out.2.2
      have cHA4_2 := qHA4_2.1
      have gHA4_2 := qHA4_2.2
      have zHA4 := ltc cHA4_0
      dsimp only at zHA4
      clear HBA HA0 HA1 HA2 HA3 HA4
      go_upto_region 4 with (fail)
      go_cut [8] (fun v8 wd => ∃ bm, v8 = .pointer (some ⟨bm, 0, none⟩) ∧ w.heap.size + 1 + 1 + 1 < bm ∧ Hid (Below w.heap.size w wd) ∧ Hid (CellF wd ⟨w.heap.size, 0, none⟩ (.int .i64 mn) ∧ CellF wd ⟨w.heap.size, 1, none⟩ (.int .i64 mx) ∧ CellF wd ⟨w.heap.size, 2, none⟩ (.int .i64 g)) ∧ Hid (CellF wd ⟨(w.heap.size + 1), 0, none⟩ (.int .i64 x0) ∧ CellF wd ⟨(w.heap.size + 1), 1, none⟩ (.int .i64 x1) ∧ CellF wd ⟨(w.heap.size + 1), 2, none⟩ (.int .i64 x2) ∧ CellF wd ⟨(w.heap.size + 1), 3, none⟩ (.int .i64 x3)) ∧ Hid (CellF wd ⟨(w.heap.size + 1 + 1), 0, none⟩ (.int .i64 c0) ∧ CellF wd ⟨(w.heap.size + 1 + 1), 1, none⟩ (.int .i64 c1)) ∧ Hid (CellF wd ⟨(w.heap.size + 1 + 1 + 1), 0, none⟩ (.int .i64 0) ∧ CellF wd ⟨(w.heap.size + 1 + 1 + 1), 1, none⟩ (.int .i64 0) ∧ CellF wd ⟨(w.heap.size + 1 + 1 + 1), 2, none⟩ (.bool false)) ∧ Hid (CellF wd ⟨bf, 0, none⟩ (.int .i64 f1) ∧ CellF wd ⟨bf, 1, none⟩ (.int .i64 f2) ∧ CellF wd ⟨bf, 2, none⟩ (.bool f3)) ∧ Hid (CellF wd ⟨bm, 0, none⟩ (.int .i64 m1) ∧ CellF wd ⟨bm, 1, none⟩ (.int .i64 m2) ∧ CellF wd ⟨bm, 2, none⟩ (.bool m3)))
      case first =>
        refine wp_region_inv (by kernel_rfl) (fun ls ac w' => ∃ v8 v29 v30 v31 v32 v33 v34 v35 v36 v37 v38 v39, ac = ⟨#[.agg #[.int .i64 mn, .int .i64 mx, .int .i64 g], .agg #[.int .i64 x0, .int .i64 x1, .int .i64 x2, .int .i64 x3], .agg #[.int .i64 c0, .int .i64 c1], .pointer (some ⟨w.heap.size, 0, none⟩), .pointer (some ⟨w.heap.size + 1, 0, none⟩), .pointer (some ⟨w.heap.size + 1 + 1, 0, none⟩), .pointer (some ⟨w.heap.size + 1 + 1 + 1, 0, none⟩), .pointer (some ⟨bf, 0, none⟩), v8, undef, undef, undef, undef, undef, u14, u15, u16, u17, u18, u19, u20, u21, u22, u23, u24, u25, u26, u27, u28, v29, v30, v31, v32, v33, v34, v35, v36, v37, v38, v39, u40, u41, u42, u43, u44, u45, u46, u47, u48, u49, u50, u51, u52, u53, u54, u55, u56, u57, u58, u59, u60, u61, u62, u63, u64, u65, u66, u67, u68], []⟩ ∧ ls.size = 13 ∧ Below wc.heap.size wc w' ∧ (ls.getD 0 false = true → v29 = .pointer (some ⟨w.heap.size + 1, 3, none⟩)) ∧ (ls.getD 1 false = true → v30 = .int .i64 x3) ∧ (ls.getD 2 false = true → v31 = .agg #[.int .i64 i1, .int .i64 i2, .bool i3]) ∧ (ls.getD 3 false = true → v32 = .pointer (some ⟨w.heap.size + 1, 2, none⟩)) ∧ (ls.getD 4 false = true → v33 = .int .i64 x2) ∧ (ls.getD 5 false = true → v34 = .agg #[.int .i64 j1, .int .i64 j2, .bool j3]) ∧ (ls.getD 6 false = true → v35 = .agg #[.int .i64 k1, .int .i64 k2, .bool k3]) ∧ (ls.getD 7 false = true → v36 = .pointer (some ⟨w.heap.size + 1 + 1, 1, none⟩)) ∧ (ls.getD 8 false = true → v37 = .int .i64 c1) ∧ (ls.getD 9 false = true → v38 = .agg #[.int .i64 l1, .int .i64 l2, .bool l3]) ∧ (ls.getD 10 false = true → v39 = .agg #[.int .i64 m1, .int .i64 m2, .bool m3]) ∧ (ls.getD 11 false = true → ∃ b, v8 = .pointer (some ⟨b, 0, none⟩) ∧ wc.heap.size ≤ b ∧ (ls.getD 12 false = false → SpanAt w' b 0 0 false) ∧ (ls.getD 12 false = true → SpanAt w' b m1 m2 m3)) ∧ (ls.getD 12 false = true → ls.getD 11 false = true)) ?_ ?_ ?_
        · exact ⟨_, _, _, _, _, _, _, _, _, _, _, _, rfl, rfl, bdrew (brefl _), fun h => (by cases h), fun h => (by cases h), fun h => (by cases h), fun h => (by cases h), fun h => (by cases h), fun h => (by cases h), fun h => (by cases h), fun h => (by cases h), fun h => (by cases h), fun h => (by cases h), fun h => (by cases h), fun h => (by cases h), fun h => (by cases h)⟩
        · intro i hii
          have hin : i < 13 := hii
          have hor : i = 0 ∨ i = 1 ∨ i = 2 ∨ i = 3 ∨ i = 4 ∨ i = 5 ∨ i = 6 ∨ i = 7 ∨ i = 8 ∨ i = 9 ∨ i = 10 ∨ i = 11 ∨ i = 12 := (by decide : ∀ i : Nat, i < 13 → (i = 0 ∨ i = 1 ∨ i = 2 ∨ i = 3 ∨ i = 4 ∨ i = 5 ∨ i = 6 ∨ i = 7 ∨ i = 8 ∨ i = 9 ∨ i = 10 ∨ i = 11 ∨ i = 12)) i hin
          rcases hor with rfl | rfl | rfl | rfl | rfl | rfl | rfl | rfl | rfl | rfl | rfl | rfl | rfl
          · rintro ls ac w' hr ⟨v8, v29, v30, v31, v32, v33, v34, v35, v36, v37, v38, v39, rfl, hl, hB, zg0, zg1, zg2, zg3, zg4, zg5, zg6, zg7, zg8, zg9, zg10, zh1, zk1⟩
            refine wpOp_step rfl (fun K hK => ?_)
            clear hr
            go_simp
            refine hK _ _ ?_
            simp only [getD_own (l := ls) (i := 0) (by omega), gq 0 1, gq 0 2, gq 0 3, gq 0 4, gq 0 5, gq 0 6, gq 0 7, gq 0 8, gq 0 9, gq 0 10, gq 0 11, gq 0 12]
            exact ⟨v8, _, v30, v31, v32, v33, v34, v35, v36, v37, v38, v39, rfl, by simp [hl], hB, fun _ => rfl, zg1, zg2, zg3, zg4, zg5, zg6, zg7, zg8, zg9, zg10, zh1, zk1⟩
          · rintro ls ac w' hr ⟨v8, v29, v30, v31, v32, v33, v34, v35, v36, v37, v38, v39, rfl, hl, hB, zg0, zg1, zg2, zg3, zg4, zg5, zg6, zg7, zg8, zg9, zg10, zh1, zk1⟩
            have zd0 := rdd hr 0
            obtain rfl := zg0 zd0
            have a6 := (hB.cell (ltc cHA1_3)).trans cHA1_3
            refine wpOp_step rfl (fun K hK => ?_)
            clear hr
            go_simp
            refine hK _ _ ?_
            simp only [getD_own (l := ls) (i := 1) (by omega), gq 1 0, gq 1 2, gq 1 3, gq 1 4, gq 1 5, gq 1 6, gq 1 7, gq 1 8, gq 1 9, gq 1 10, gq 1 11, gq 1 12]
            exact ⟨v8, _, _, v31, v32, v33, v34, v35, v36, v37, v38, v39, rfl, by simp [hl], hB, fun _ => rfl, fun _ => rfl, zg2, zg3, zg4, zg5, zg6, zg7, zg8, zg9, zg10, zh1, zk1⟩
          · rintro ls ac w' hr ⟨v8, v29, v30, v31, v32, v33, v34, v35, v36, v37, v38, v39, rfl, hl, hB, zg0, zg1, zg2, zg3, zg4, zg5, zg6, zg7, zg8, zg9, zg10, zh1, zk1⟩
            have zd1 := rdd hr 1
            obtain rfl := zg1 zd1
            refine wpOp_step rfl (fun K hK => ?_)
            clear hr
            go_simp
            refine (rOne_is _ _ _ _ Hi _).mono ?_
            rintro e w1 ⟨rfl, hk⟩
            dsimp only
            refine hK _ _ ?_
            simp only [getD_own (l := ls) (i := 2) (by omega), gq 2 0, gq 2 1, gq 2 3, gq 2 4, gq 2 5, gq 2 6, gq 2 7, gq 2 8, gq 2 9, gq 2 10, gq 2 11, gq 2 12]
            exact ⟨v8, v29, _, _, v32, v33, v34, v35, v36, v37, v38, v39, rfl, by simp [hl], bstep hB hk, zg0, fun _ => rfl, fun _ => rfl, zg3, zg4, zg5, zg6, zg7, zg8, zg9, zg10, fun h => (by obtain ⟨b, e1, e2, e4, e5⟩ := zh1 h; exact ⟨b, e1, e2, fun h => (e4 h).keep hk, fun h => (e5 h).keep hk⟩), zk1⟩
          · rintro ls ac w' hr ⟨v8, v29, v30, v31, v32, v33, v34, v35, v36, v37, v38, v39, rfl, hl, hB, zg0, zg1, zg2, zg3, zg4, zg5, zg6, zg7, zg8, zg9, zg10, zh1, zk1⟩
            refine wpOp_step rfl (fun K hK => ?_)
            clear hr
            go_simp
            refine hK _ _ ?_
            simp only [getD_own (l := ls) (i := 3) (by omega), gq 3 0, gq 3 1, gq 3 2, gq 3 4, gq 3 5, gq 3 6, gq 3 7, gq 3 8, gq 3 9, gq 3 10, gq 3 11, gq 3 12]
            exact ⟨v8, v29, v30, v31, _, v33, v34, v35, v36, v37, v38, v39, rfl, by simp [hl], hB, zg0, zg1, zg2, fun _ => rfl, zg4, zg5, zg6, zg7, zg8, zg9, zg10, zh1, zk1⟩
          · rintro ls ac w' hr ⟨v8, v29, v30, v31, v32, v33, v34, v35, v36, v37, v38, v39, rfl, hl, hB, zg0, zg1, zg2, zg3, zg4, zg5, zg6, zg7, zg8, zg9, zg10, zh1, zk1⟩
            have zd3 := rdd hr 3
            obtain rfl := zg3 zd3
            have a5 := (hB.cell (ltc cHA1_2)).trans cHA1_2
            refine wpOp_step rfl (fun K hK => ?_)
            clear hr
            go_simp
            refine hK _ _ ?_
            simp only [getD_own (l := ls) (i := 4) (by omega), gq 4 0, gq 4 1, gq 4 2, gq 4 3, gq 4 5, gq 4 6, gq 4 7, gq 4 8, gq 4 9, gq 4 10, gq 4 11, gq 4 12]
            exact ⟨v8, v29, v30, v31, _, _, v34, v35, v36, v37, v38, v39, rfl, by simp [hl], hB, zg0, zg1, zg2, fun _ => rfl, fun _ => rfl, zg5, zg6, zg7, zg8, zg9, zg10, zh1, zk1⟩
          · rintro ls ac w' hr ⟨v8, v29, v30, v31, v32, v33, v34, v35, v36, v37, v38, v39, rfl, hl, hB, zg0, zg1, zg2, zg3, zg4, zg5, zg6, zg7, zg8, zg9, zg10, zh1, zk1⟩
            have zd4 := rdd hr 4
            obtain rfl := zg4 zd4
            refine wpOp_step rfl (fun K hK => ?_)
            clear hr
            go_simp
            refine (rOne_is _ _ _ _ Hj _).mono ?_
            rintro e w1 ⟨rfl, hk⟩
            dsimp only
            refine hK _ _ ?_
            simp only [getD_own (l := ls) (i := 5) (by omega), gq 5 0, gq 5 1, gq 5 2, gq 5 3, gq 5 4, gq 5 6, gq 5 7, gq 5 8, gq 5 9, gq 5 10, gq 5 11, gq 5 12]
            exact ⟨v8, v29, v30, v31, v32, _, _, v35, v36, v37, v38, v39, rfl, by simp [hl], bstep hB hk, zg0, zg1, zg2, zg3, fun _ => rfl, fun _ => rfl, zg6, zg7, zg8, zg9, zg10, fun h => (by obtain ⟨b, e1, e2, e4, e5⟩ := zh1 h; exact ⟨b, e1, e2, fun h => (e4 h).keep hk, fun h => (e5 h).keep hk⟩), zk1⟩
          · rintro ls ac w' hr ⟨v8, v29, v30, v31, v32, v33, v34, v35, v36, v37, v38, v39, rfl, hl, hB, zg0, zg1, zg2, zg3, zg4, zg5, zg6, zg7, zg8, zg9, zg10, zh1, zk1⟩
            have zd2 := rdd hr 2
            have zd5 := rdd hr 5
            obtain rfl := zg2 zd2
            obtain rfl := zg5 zd5
            refine wpOp_step rfl (fun K hK => ?_)
            clear hr
            go_simp
            refine (r3Sub_is _ _ _ _ _ _ _ _ _ Hk _).mono ?_
            rintro e w1 ⟨rfl, hk⟩
            dsimp only
            refine hK _ _ ?_
            simp only [getD_own (l := ls) (i := 6) (by omega), gq 6 0, gq 6 1, gq 6 2, gq 6 3, gq 6 4, gq 6 5, gq 6 7, gq 6 8, gq 6 9, gq 6 10, gq 6 11, gq 6 12]
            exact ⟨v8, v29, v30, _, v32, v33, _, _, v36, v37, v38, v39, rfl, by simp [hl], bstep hB hk, zg0, zg1, fun _ => rfl, zg3, zg4, fun _ => rfl, fun _ => rfl, zg7, zg8, zg9, zg10, fun h => (by obtain ⟨b, e1, e2, e4, e5⟩ := zh1 h; exact ⟨b, e1, e2, fun h => (e4 h).keep hk, fun h => (e5 h).keep hk⟩), zk1⟩
          · rintro ls ac w' hr ⟨v8, v29, v30, v31, v32, v33, v34, v35, v36, v37, v38, v39, rfl, hl, hB, zg0, zg1, zg2, zg3, zg4, zg5, zg6, zg7, zg8, zg9, zg10, zh1, zk1⟩
            refine wpOp_step rfl (fun K hK => ?_)
            clear hr
            go_simp
            refine hK _ _ ?_
            simp only [getD_own (l := ls) (i := 7) (by omega), gq 7 0, gq 7 1, gq 7 2, gq 7 3, gq 7 4, gq 7 5, gq 7 6, gq 7 8, gq 7 9, gq 7 10, gq 7 11, gq 7 12]
            exact ⟨v8, v29, v30, v31, v32, v33, v34, v35, _, v37, v38, v39, rfl, by simp [hl], hB, zg0, zg1, zg2, zg3, zg4, zg5, zg6, fun _ => rfl, zg8, zg9, zg10, zh1, zk1⟩
          · rintro ls ac w' hr ⟨v8, v29, v30, v31, v32, v33, v34, v35, v36, v37, v38, v39, rfl, hl, hB, zg0, zg1, zg2, zg3, zg4, zg5, zg6, zg7, zg8, zg9, zg10, zh1, zk1⟩
            have zd7 := rdd hr 7
            obtain rfl := zg7 zd7
            have a8 := (hB.cell (ltc cHA2_1)).trans cHA2_1
            refine wpOp_step rfl (fun K hK => ?_)
            clear hr
            go_simp
            refine hK _ _ ?_
            simp only [getD_own (l := ls) (i := 8) (by omega), gq 8 0, gq 8 1, gq 8 2, gq 8 3, gq 8 4, gq 8 5, gq 8 6, gq 8 7, gq 8 9, gq 8 10, gq 8 11, gq 8 12]
            exact ⟨v8, v29, v30, v31, v32, v33, v34, v35, _, _, v38, v39, rfl, by simp [hl], hB, zg0, zg1, zg2, zg3, zg4, zg5, zg6, fun _ => rfl, fun _ => rfl, zg9, zg10, zh1, zk1⟩
          · rintro ls ac w' hr ⟨v8, v29, v30, v31, v32, v33, v34, v35, v36, v37, v38, v39, rfl, hl, hB, zg0, zg1, zg2, zg3, zg4, zg5, zg6, zg7, zg8, zg9, zg10, zh1, zk1⟩
            have zd8 := rdd hr 8
            obtain rfl := zg8 zd8
            refine wpOp_step rfl (fun K hK => ?_)
            clear hr
            go_simp
            refine (rCorr_is _ hc1 _ _ _ Hl _).mono ?_
            rintro e w1 ⟨rfl, hk⟩
            dsimp only
            refine hK _ _ ?_
            simp only [getD_own (l := ls) (i := 9) (by omega), gq 9 0, gq 9 1, gq 9 2, gq 9 3, gq 9 4, gq 9 5, gq 9 6, gq 9 7, gq 9 8, gq 9 10, gq 9 11, gq 9 12]
            exact ⟨v8, v29, v30, v31, v32, v33, v34, v35, v36, _, _, v39, rfl, by simp [hl], bstep hB hk, zg0, zg1, zg2, zg3, zg4, zg5, zg6, zg7, fun _ => rfl, fun _ => rfl, zg10, fun h => (by obtain ⟨b, e1, e2, e4, e5⟩ := zh1 h; exact ⟨b, e1, e2, fun h => (e4 h).keep hk, fun h => (e5 h).keep hk⟩), zk1⟩
          · rintro ls ac w' hr ⟨v8, v29, v30, v31, v32, v33, v34, v35, v36, v37, v38, v39, rfl, hl, hB, zg0, zg1, zg2, zg3, zg4, zg5, zg6, zg7, zg8, zg9, zg10, zh1, zk1⟩
            have zd6 := rdd hr 6
            have zd9 := rdd hr 9
            obtain rfl := zg6 zd6
            obtain rfl := zg9 zd9
            refine wpOp_step rfl (fun K hK => ?_)
            clear hr
            go_simp
            refine (r3Sub_is _ _ _ _ _ _ _ _ _ Hm _).mono ?_
            rintro e w1 ⟨rfl, hk⟩
            dsimp only
            refine hK _ _ ?_
            simp only [getD_own (l := ls) (i := 10) (by omega), gq 10 0, gq 10 1, gq 10 2, gq 10 3, gq 10 4, gq 10 5, gq 10 6, gq 10 7, gq 10 8, gq 10 9, gq 10 11, gq 10 12]
            exact ⟨v8, v29, v30, v31, v32, v33, v34, _, v36, v37, _, _, rfl, by simp [hl], bstep hB hk, zg0, zg1, zg2, zg3, zg4, zg5, fun _ => rfl, zg7, zg8, fun _ => rfl, fun _ => rfl, fun h => (by obtain ⟨b, e1, e2, e4, e5⟩ := zh1 h; exact ⟨b, e1, e2, fun h => (e4 h).keep hk, fun h => (e5 h).keep hk⟩), zk1⟩
          · rintro ls ac w' hr ⟨v8, v29, v30, v31, v32, v33, v34, v35, v36, v37, v38, v39, rfl, hl, hB, zg0, zg1, zg2, zg3, zg4, zg5, zg6, zg7, zg8, zg9, zg10, zh1, zk1⟩
            have hz := hB.size
            have hn := (ready_dep hr rfl).1
            have hna : ls.getD 11 false = false := by cases hc : ls.getD 11 false with | false => rfl | true => (exfalso; have hs4 := getD_both hc; rw [hs4] at hn; cases hn)
            have hus : ls.getD 12 false = false := by cases hc : ls.getD 12 false with | false => rfl | true => (rw [zk1 hc] at hna; cases hna)
            refine wpOp_step rfl (fun K hK => ?_)
            clear hr
            go_simp
            refine hK _ _ ?_
            simp only [getD_own (l := ls) (i := 11) (by omega), gq 11 0, gq 11 1, gq 11 2, gq 11 3, gq 11 4, gq 11 5, gq 11 6, gq 11 7, gq 11 8, gq 11 9, gq 11 10, gq 11 12]
            exact ⟨_, v29, v30, v31, v32, v33, v34, v35, v36, v37, v38, v39, rfl, by simp [hl], balloc hB _, zg0, zg1, zg2, zg3, zg4, zg5, zg6, zg7, zg8, zg9, zg10, fun _ => ⟨_, rfl, hz, fun _ => SpanAt.new rfl, fun h => (by rw [hus] at h; cases h)⟩, fun _ => (by first | rfl | trivial)⟩
          · rintro ls ac w' hr ⟨v8, v29, v30, v31, v32, v33, v34, v35, v36, v37, v38, v39, rfl, hl, hB, zg0, zg1, zg2, zg3, zg4, zg5, zg6, zg7, zg8, zg9, zg10, zh1, zk1⟩
            have zd11 := rdd hr 11
            have zd10 := rdd hr 10
            obtain rfl := zg10 zd10
            have hn := (ready_dep hr rfl).1
            have hns : ls.getD 12 false = false := by cases hc : ls.getD 12 false with | false => rfl | true => (exfalso; have hs4 := getD_both hc; rw [hs4] at hn; cases hn)
            obtain ⟨b, rfl, hub, e4, _⟩ := zh1 zd11
            have hS := e4 hns
            have hT := span_sets (x := m1) (y := m2) (z := m3) hS
            have zs0 := (hS).1.1
            have zs1 := (hS).2.1.1
            have zs2 := (hS).2.2.1
            have zs3 := (hS).1.2
            have zs4 := (hS).2.1.2
            have zs5 := (hS).2.2.2
            refine wpOp_step rfl (fun K hK => ?_)
            clear hr
            clear hS e4
            go_simp
            refine hK _ _ ?_
            simp only [getD_own (l := ls) (i := 12) (by omega), gq 12 0, gq 12 1, gq 12 2, gq 12 3, gq 12 4, gq 12 5, gq 12 6, gq 12 7, gq 12 8, gq 12 9, gq 12 10, gq 12 11]
            exact ⟨_, v29, v30, v31, v32, v33, v34, v35, v36, v37, v38, _, rfl, by simp [hl], hB.trans (hT.2.2 _ hub), zg0, zg1, zg2, zg3, zg4, zg5, zg6, zg7, zg8, zg9, fun _ => rfl, fun _ => ⟨b, rfl, hub, fun h => (by cases h), fun _ => hT.1⟩, fun _ => zd11⟩
        · rintro ls ac w' ⟨v8, v29, v30, v31, v32, v33, v34, v35, v36, v37, v38, v39, rfl, hl, hB, zg0, zg1, zg2, zg3, zg4, zg5, zg6, zg7, zg8, zg9, zg10, zh1, zk1⟩ hr
          have hall := ready_allb (by decide) hl hr
          obtain ⟨b1, rfl, hub1, _, f1⟩ := zh1 (hall 11 (by decide))
          have F1 := f1 (hall 12 (by decide))
          go_wp2_with fail
          go_meet
          exact ⟨b1, rfl, by omega, Lib.hid (Below.trans hwA (hB.mono (Below.size hwA))), Lib.hid ⟨CellF.keep hB qHA0_0, CellF.keep hB qHA0_1, CellF.keep hB qHA0_2⟩, Lib.hid ⟨CellF.keep hB qHA1_0, CellF.keep hB qHA1_1, CellF.keep hB qHA1_2, CellF.keep hB qHA1_3⟩, Lib.hid ⟨CellF.keep hB qHA2_0, CellF.keep hB qHA2_1⟩, Lib.hid ⟨CellF.keep hB qHA3_0, CellF.keep hB qHA3_1, CellF.keep hB qHA3_2⟩, Lib.hid ⟨CellF.keep hB qHA4_0, CellF.keep hB qHA4_1, CellF.keep hB qHA4_2⟩, Lib.hid ⟨F1.1, F1.2.1, F1.2.2⟩⟩
      case rest =>
        clear qHA0_0 cHA0_0 gHA0_0 qHA0_1 cHA0_1 gHA0_1 qHA0_2 cHA0_2 gHA0_2 zHA0 qHA1_0 cHA1_0 gHA1_0 qHA1_1 cHA1_1 gHA1_1 qHA1_2 cHA1_2 gHA1_2 qHA1_3 cHA1_3 gHA1_3 zHA1 qHA2_0 cHA2_0 gHA2_0 qHA2_1 cHA2_1 gHA2_1 zHA2 qHA3_0 cHA3_0 gHA3_0 qHA3_1 cHA3_1 gHA3_1 qHA3_2 cHA3_2 gHA3_2 zHA3 qHA4_0 cHA4_0 gHA4_0 qHA4_1 cHA4_1 gHA4_1 qHA4_2 cHA4_2 gHA4_2 zHA4
        obtain ⟨bm, rfl, hbm, HBC, HC0, HC1, HC2, HC3, HC4, HC5⟩ := hcut
        have hwC := HBC.out
        have qHC0_0 := HC0.out.1
        have cHC0_0 := qHC0_0.1
        have gHC0_0 := qHC0_0.2
        have qHC0_1 := HC0.out.2.1
        have cHC0_1 := qHC0_1.1
        have gHC0_1 := qHC0_1.2
        have qHC0_2 := HC0.out.2.2
        have cHC0_2 := qHC0_2.1
        have gHC0_2 := qHC0_2.2
        have zHC0 := ltc cHC0_0
        dsimp only at zHC0
        have qHC1_0 := HC1.out.1
        have cHC1_0 := qHC1_0.1
        have gHC1_0 := qHC1_0.2
        have qHC1_1 := HC1.out.2.1
        have cHC1_1 := qHC1_1.1
        have gHC1_1 := qHC1_1.2
        have qHC1_2 := HC1.out.2.2.1
        have cHC1_2 := qHC1_2.1
        have gHC1_2 := qHC1_2.2
        have qHC1_3 := HC1.out.2.2.2
        have cHC1_3 := qHC1_3.1
        have gHC1_3 := qHC1_3.2
        have zHC1 := ltc cHC1_0
        dsimp only at zHC1
        have qHC2_0 := HC2.out.1
        have cHC2_0 := qHC2_0.1
        have gHC2_0 := qHC2_0.2
        have qHC2_1 := HC2.out.2
        have cHC2_1 := qHC2_1.1
        have gHC2_1 := qHC2_1.2
        have zHC2 := ltc cHC2_0
        dsimp only at zHC2
        have qHC3_0 := HC3.out.1
        have cHC3_0 := qHC3_0.1
        have gHC3_0 := qHC3_0.2
        have qHC3_1 := HC3.out.2.1
        have cHC3_1 := qHC3_1.1
        have gHC3_1 := qHC3_1.2
        have qHC3_2 := HC3.out.2.2
        have cHC3_2 := qHC3_2.1
        have gHC3_2 := qHC3_2.2
        have zHC3 := ltc cHC3_0
        dsimp only at zHC3
        have qHC4_0 := HC4.out.1
        have cHC4_0 := qHC4_0.1
        have gHC4_0 := qHC4_0.2
        have qHC4_1 := HC4.out.2.1
        have cHC4_1 := qHC4_1.1
        have gHC4_1 := qHC4_1.2
        have qHC4_2 := HC4.out.2.2
        have cHC4_2 := qHC4_2.1
        have gHC4_2 := qHC4_2.2
        have zHC4 := ltc cHC4_0
        dsimp only at zHC4
        have qHC5_0 := HC5.out.1
        have cHC5_0 := qHC5_0.1
        have gHC5_0 := qHC5_0.2
        have qHC5_1 := HC5.out.2.1
        have cHC5_1 := qHC5_1.1
        have gHC5_1 := qHC5_1.2
        have qHC5_2 := HC5.out.2.2
        have cHC5_2 := qHC5_2.1
        have gHC5_2 := qHC5_2.2
        have zHC5 := ltc cHC5_0
        dsimp only at zHC5
        clear HBC HC0 HC1 HC2 HC3 HC4 HC5
        go_upto_region 5 with (fail)
        go_cut [9] (fun v9 wd => ∃ bs, v9 = .pointer (some ⟨bs, 0, none⟩) ∧ w.heap.size + 1 + 1 + 1 < bs ∧ Hid (Below w.heap.size w wd) ∧ Hid (CellF wd ⟨w.heap.size, 0, none⟩ (.int .i64 mn) ∧ CellF wd ⟨w.heap.size, 1, none⟩ (.int .i64 mx) ∧ CellF wd ⟨w.heap.size, 2, none⟩ (.int .i64 g)) ∧ Hid (CellF wd ⟨(w.heap.size + 1), 0, none⟩ (.int .i64 x0) ∧ CellF wd ⟨(w.heap.size + 1), 1, none⟩ (.int .i64 x1) ∧ CellF wd ⟨(w.heap.size + 1), 2, none⟩ (.int .i64 x2) ∧ CellF wd ⟨(w.heap.size + 1), 3, none⟩ (.int .i64 x3)) ∧ Hid (CellF wd ⟨(w.heap.size + 1 + 1), 0, none⟩ (.int .i64 c0) ∧ CellF wd ⟨(w.heap.size + 1 + 1), 1, none⟩ (.int .i64 c1)) ∧ Hid (CellF wd ⟨(w.heap.size + 1 + 1 + 1), 0, none⟩ (.int .i64 0) ∧ CellF wd ⟨(w.heap.size + 1 + 1 + 1), 1, none⟩ (.int .i64 0) ∧ CellF wd ⟨(w.heap.size + 1 + 1 + 1), 2, none⟩ (.bool false)) ∧ Hid (CellF wd ⟨bf, 0, none⟩ (.int .i64 f1) ∧ CellF wd ⟨bf, 1, none⟩ (.int .i64 f2) ∧ CellF wd ⟨bf, 2, none⟩ (.bool f3)) ∧ Hid (CellF wd ⟨bm, 0, none⟩ (.int .i64 m1) ∧ CellF wd ⟨bm, 1, none⟩ (.int .i64 m2) ∧ CellF wd ⟨bm, 2, none⟩ (.bool m3)) ∧ Hid (CellF wd ⟨bs, 0, none⟩ (.int .i64 s1) ∧ CellF wd ⟨bs, 1, none⟩ (.int .i64 s2) ∧ CellF wd ⟨bs, 2, none⟩ (.bool s3)))
        case first =>
          refine wp_region_inv (by kernel_rfl) (fun ls ac w' => ∃ v9 v40 v41 v42 v43 v44 v45 v46 v47 v48 v49, ac = ⟨#[.agg #[.int .i64 mn, .int .i64 mx, .int .i64 g], .agg #[.int .i64 x0, .int .i64 x1, .int .i64 x2, .int .i64 x3], .agg #[.int .i64 c0, .int .i64 c1], .pointer (some ⟨w.heap.size, 0, none⟩), .pointer (some ⟨w.heap.size + 1, 0, none⟩), .pointer (some ⟨w.heap.size + 1 + 1, 0, none⟩), .pointer (some ⟨w.heap.size + 1 + 1 + 1, 0, none⟩), .pointer (some ⟨bf, 0, none⟩), .pointer (some ⟨bm, 0, none⟩), v9, undef, undef, undef, undef, u14, u15, u16, u17, u18, u19, u20, u21, u22, u23, u24, u25, u26, u27, u28, u29, u30, u31, u32, u33, u34, u35, u36, u37, u38, u39, v40, v41, v42, v43, v44, v45, v46, v47, v48, v49, u50, u51, u52, u53, u54, u55, u56, u57, u58, u59, u60, u61, u62, u63, u64, u65, u66, u67, u68], []⟩ ∧ ls.size = 12 ∧ Below wc.heap.size wc w' ∧ (ls.getD 0 false = true → v40 = .agg #[.int .i64 f1, .int .i64 f2, .bool f3]) ∧ (ls.getD 1 false = true → v41 = .agg #[.int .i64 m1, .int .i64 m2, .bool m3]) ∧ (ls.getD 2 false = true → v42 = .agg #[.int .i64 n1, .int .i64 n2, .bool n3]) ∧ (ls.getD 3 false = true → v43 = .pointer (some ⟨w.heap.size, 2, none⟩)) ∧ (ls.getD 4 false = true → v44 = .int .i64 g) ∧ (ls.getD 5 false = true → v45 = .int .i64 (4 * g)) ∧ (ls.getD 6 false = true → v46 = .pointer (some ⟨w.heap.size, 2, none⟩)) ∧ (ls.getD 7 false = true → v47 = .int .i64 g) ∧ (ls.getD 8 false = true → v48 = .int .i64 (4 * g)) ∧ (ls.getD 9 false = true → v49 = .agg #[.int .i64 s1, .int .i64 s2, .bool s3]) ∧ (ls.getD 10 false = true → ∃ b, v9 = .pointer (some ⟨b, 0, none⟩) ∧ wc.heap.size ≤ b ∧ (ls.getD 11 false = false → SpanAt w' b 0 0 false) ∧ (ls.getD 11 false = true → SpanAt w' b s1 s2 s3)) ∧ (ls.getD 11 false = true → ls.getD 10 false = true)) ?_ ?_ ?_
          · exact ⟨_, _, _, _, _, _, _, _, _, _, _, rfl, rfl, bdrew (brefl _), fun h => (by cases h), fun h => (by cases h), fun h => (by cases h), fun h => (by cases h), fun h => (by cases h), fun h => (by cases h), fun h => (by cases h), fun h => (by cases h), fun h => (by cases h), fun h => (by cases h), fun h => (by cases h), fun h => (by cases h)⟩
          · intro i hii
            have hin : i < 12 := hii
            have hor : i = 0 ∨ i = 1 ∨ i = 2 ∨ i = 3 ∨ i = 4 ∨ i = 5 ∨ i = 6 ∨ i = 7 ∨ i = 8 ∨ i = 9 ∨ i = 10 ∨ i = 11 := (by decide : ∀ i : Nat, i < 12 → (i = 0 ∨ i = 1 ∨ i = 2 ∨ i = 3 ∨ i = 4 ∨ i = 5 ∨ i = 6 ∨ i = 7 ∨ i = 8 ∨ i = 9 ∨ i = 10 ∨ i = 11)) i hin
            rcases hor with rfl | rfl | rfl | rfl | rfl | rfl | rfl | rfl | rfl | rfl | rfl | rfl
            · rintro ls ac w' hr ⟨v9, v40, v41, v42, v43, v44, v45, v46, v47, v48, v49, rfl, hl, hB, zg0, zg1, zg2, zg3, zg4, zg5, zg6, zg7, zg8, zg9, zh1, zk1⟩
              have a12 := (hB.cell (ltc cHC4_0)).trans cHC4_0
              have a13 := (hB.cell (ltc cHC4_1)).trans cHC4_1
              have a14 := (hB.cell (ltc cHC4_2)).trans cHC4_2
              refine wpOp_step rfl (fun K hK => ?_)
              clear hr
              go_simp
              refine hK _ _ ?_
              simp only [getD_own (l := ls) (i := 0) (by omega), gq 0 1, gq 0 2, gq 0 3, gq 0 4, gq 0 5, gq 0 6, gq 0 7, gq 0 8, gq 0 9, gq 0 10, gq 0 11]
              exact ⟨v9, _, v41, v42, v43, v44, v45, v46, v47, v48, v49, rfl, by simp [hl], hB, fun _ => rfl, zg1, zg2, zg3, zg4, zg5, zg6, zg7, zg8, zg9, zh1, zk1⟩
            · rintro ls ac w' hr ⟨v9, v40, v41, v42, v43, v44, v45, v46, v47, v48, v49, rfl, hl, hB, zg0, zg1, zg2, zg3, zg4, zg5, zg6, zg7, zg8, zg9, zh1, zk1⟩
              have a15 := (hB.cell (ltc cHC5_0)).trans cHC5_0
              have a16 := (hB.cell (ltc cHC5_1)).trans cHC5_1
              have a17 := (hB.cell (ltc cHC5_2)).trans cHC5_2
              refine wpOp_step rfl (fun K hK => ?_)
              clear hr
              go_simp
              refine hK _ _ ?_
              simp only [getD_own (l := ls) (i := 1) (by omega), gq 1 0, gq 1 2, gq 1 3, gq 1 4, gq 1 5, gq 1 6, gq 1 7, gq 1 8, gq 1 9, gq 1 10, gq 1 11]
              exact ⟨v9, v40, _, v42, v43, v44, v45, v46, v47, v48, v49, rfl, by simp [hl], hB, zg0, fun _ => rfl, zg2, zg3, zg4, zg5, zg6, zg7, zg8, zg9, zh1, zk1⟩
            · rintro ls ac w' hr ⟨v9, v40, v41, v42, v43, v44, v45, v46, v47, v48, v49, rfl, hl, hB, zg0, zg1, zg2, zg3, zg4, zg5, zg6, zg7, zg8, zg9, zh1, zk1⟩
              have zd0 := rdd hr 0
              have zd1 := rdd hr 1
              obtain rfl := zg0 zd0
              obtain rfl := zg1 zd1
              refine wpOp_step rfl (fun K hK => ?_)
              clear hr
              go_simp
              refine (r3Add_is _ _ _ _ _ _ _ _ _ Hn _).mono ?_
              rintro e w1 ⟨rfl, hk⟩
              dsimp only
              refine hK _ _ ?_
              simp only [getD_own (l := ls) (i := 2) (by omega), gq 2 0, gq 2 1, gq 2 3, gq 2 4, gq 2 5, gq 2 6, gq 2 7, gq 2 8, gq 2 9, gq 2 10, gq 2 11]
              exact ⟨v9, _, _, _, v43, v44, v45, v46, v47, v48, v49, rfl, by simp [hl], bstep hB hk, fun _ => rfl, fun _ => rfl, fun _ => rfl, zg3, zg4, zg5, zg6, zg7, zg8, zg9, fun h => (by obtain ⟨b, e1, e2, e4, e5⟩ := zh1 h; exact ⟨b, e1, e2, fun h => (e4 h).keep hk, fun h => (e5 h).keep hk⟩), zk1⟩
            · rintro ls ac w' hr ⟨v9, v40, v41, v42, v43, v44, v45, v46, v47, v48, v49, rfl, hl, hB, zg0, zg1, zg2, zg3, zg4, zg5, zg6, zg7, zg8, zg9, zh1, zk1⟩
              refine wpOp_step rfl (fun K hK => ?_)
              clear hr
              go_simp
              refine hK _ _ ?_
              simp only [getD_own (l := ls) (i := 3) (by omega), gq 3 0, gq 3 1, gq 3 2, gq 3 4, gq 3 5, gq 3 6, gq 3 7, gq 3 8, gq 3 9, gq 3 10, gq 3 11]
              exact ⟨v9, v40, v41, v42, _, v44, v45, v46, v47, v48, v49, rfl, by simp [hl], hB, zg0, zg1, zg2, fun _ => rfl, zg4, zg5, zg6, zg7, zg8, zg9, zh1, zk1⟩
            · rintro ls ac w' hr ⟨v9, v40, v41, v42, v43, v44, v45, v46, v47, v48, v49, rfl, hl, hB, zg0, zg1, zg2, zg3, zg4, zg5, zg6, zg7, zg8, zg9, zh1, zk1⟩
              have zd3 := rdd hr 3
              obtain rfl := zg3 zd3
              have a2 := (hB.cell (ltc cHC0_2)).trans cHC0_2
              refine wpOp_step rfl (fun K hK => ?_)
              clear hr
              go_simp
              refine hK _ _ ?_
              simp only [getD_own (l := ls) (i := 4) (by omega), gq 4 0, gq 4 1, gq 4 2, gq 4 3, gq 4 5, gq 4 6, gq 4 7, gq 4 8, gq 4 9, gq 4 10, gq 4 11]
              exact ⟨v9, v40, v41, v42, _, _, v45, v46, v47, v48, v49, rfl, by simp [hl], hB, zg0, zg1, zg2, fun _ => rfl, fun _ => rfl, zg5, zg6, zg7, zg8, zg9, zh1, zk1⟩
            · rintro ls ac w' hr ⟨v9, v40, v41, v42, v43, v44, v45, v46, v47, v48, v49, rfl, hl, hB, zg0, zg1, zg2, zg3, zg4, zg5, zg6, zg7, zg8, zg9, zh1, zk1⟩
              have zd4 := rdd hr 4
              obtain rfl := zg4 zd4
              refine wpOp_step rfl (fun K hK => ?_)
              clear hr
              go_simp
              refine hK _ _ ?_
              simp only [getD_own (l := ls) (i := 5) (by omega), gq 5 0, gq 5 1, gq 5 2, gq 5 3, gq 5 4, gq 5 6, gq 5 7, gq 5 8, gq 5 9, gq 5 10, gq 5 11]
              exact ⟨v9, v40, v41, v42, v43, _, _, v46, v47, v48, v49, rfl, by simp [hl], hB, zg0, zg1, zg2, zg3, fun _ => rfl, fun _ => rfl, zg6, zg7, zg8, zg9, zh1, zk1⟩
            · rintro ls ac w' hr ⟨v9, v40, v41, v42, v43, v44, v45, v46, v47, v48, v49, rfl, hl, hB, zg0, zg1, zg2, zg3, zg4, zg5, zg6, zg7, zg8, zg9, zh1, zk1⟩
              refine wpOp_step rfl (fun K hK => ?_)
              clear hr
              go_simp
              refine hK _ _ ?_
              simp only [getD_own (l := ls) (i := 6) (by omega), gq 6 0, gq 6 1, gq 6 2, gq 6 3, gq 6 4, gq 6 5, gq 6 7, gq 6 8, gq 6 9, gq 6 10, gq 6 11]
              exact ⟨v9, v40, v41, v42, v43, v44, v45, _, v47, v48, v49, rfl, by simp [hl], hB, zg0, zg1, zg2, zg3, zg4, zg5, fun _ => rfl, zg7, zg8, zg9, zh1, zk1⟩
            · rintro ls ac w' hr ⟨v9, v40, v41, v42, v43, v44, v45, v46, v47, v48, v49, rfl, hl, hB, zg0, zg1, zg2, zg3, zg4, zg5, zg6, zg7, zg8, zg9, zh1, zk1⟩
              have zd6 := rdd hr 6
              obtain rfl := zg6 zd6
              have a2 := (hB.cell (ltc cHC0_2)).trans cHC0_2
              refine wpOp_step rfl (fun K hK => ?_)
              clear hr
              go_simp
              refine hK _ _ ?_
              simp only [getD_own (l := ls) (i := 7) (by omega), gq 7 0, gq 7 1, gq 7 2, gq 7 3, gq 7 4, gq 7 5, gq 7 6, gq 7 8, gq 7 9, gq 7 10, gq 7 11]
              exact ⟨v9, v40, v41, v42, v43, v44, v45, _, _, v48, v49, rfl, by simp [hl], hB, zg0, zg1, zg2, zg3, zg4, zg5, fun _ => rfl, fun _ => rfl, zg8, zg9, zh1, zk1⟩
            · rintro ls ac w' hr ⟨v9, v40, v41, v42, v43, v44, v45, v46, v47, v48, v49, rfl, hl, hB, zg0, zg1, zg2, zg3, zg4, zg5, zg6, zg7, zg8, zg9, zh1, zk1⟩
              have zd7 := rdd hr 7
              obtain rfl := zg7 zd7
              refine wpOp_step rfl (fun K hK => ?_)
              clear hr
              go_simp
              refine hK _ _ ?_
              simp only [getD_own (l := ls) (i := 8) (by omega), gq 8 0, gq 8 1, gq 8 2, gq 8 3, gq 8 4, gq 8 5, gq 8 6, gq 8 7, gq 8 9, gq 8 10, gq 8 11]
              exact ⟨v9, v40, v41, v42, v43, v44, v45, v46, _, _, v49, rfl, by simp [hl], hB, zg0, zg1, zg2, zg3, zg4, zg5, zg6, fun _ => rfl, fun _ => rfl, zg9, zh1, zk1⟩
            · rintro ls ac w' hr ⟨v9, v40, v41, v42, v43, v44, v45, v46, v47, v48, v49, rfl, hl, hB, zg0, zg1, zg2, zg3, zg4, zg5, zg6, zg7, zg8, zg9, zh1, zk1⟩
              have zd2 := rdd hr 2
              have zd5 := rdd hr 5
              have zd8 := rdd hr 8
              obtain rfl := zg2 zd2
              obtain rfl := zg5 zd5
              obtain rfl := zg8 zd8
              refine wpOp_step rfl (fun K hK => ?_)
              clear hr
              go_simp
              refine (r3Wider_is _ _ _ (4 * g) (4 * g) _ _ _ Hs _).mono ?_
              rintro e w1 ⟨rfl, hk⟩
              dsimp only
              refine hK _ _ ?_
              simp only [getD_own (l := ls) (i := 9) (by omega), gq 9 0, gq 9 1, gq 9 2, gq 9 3, gq 9 4, gq 9 5, gq 9 6, gq 9 7, gq 9 8, gq 9 10, gq 9 11]
              exact ⟨v9, v40, v41, _, v43, v44, _, v46, v47, _, _, rfl, by simp [hl], bstep hB hk, zg0, zg1, fun _ => rfl, zg3, zg4, fun _ => rfl, zg6, zg7, fun _ => rfl, fun _ => rfl, fun h => (by obtain ⟨b, e1, e2, e4, e5⟩ := zh1 h; exact ⟨b, e1, e2, fun h => (e4 h).keep hk, fun h => (e5 h).keep hk⟩), zk1⟩
            · rintro ls ac w' hr ⟨v9, v40, v41, v42, v43, v44, v45, v46, v47, v48, v49, rfl, hl, hB, zg0, zg1, zg2, zg3, zg4, zg5, zg6, zg7, zg8, zg9, zh1, zk1⟩
              have hz := hB.size
              have hn := (ready_dep hr rfl).1
              have hna : ls.getD 10 false = false := by cases hc : ls.getD 10 false with | false => rfl | true => (exfalso; have hs4 := getD_both hc; rw [hs4] at hn; cases hn)
              have hus : ls.getD 11 false = false := by cases hc : ls.getD 11 false with | false => rfl | true => (rw [zk1 hc] at hna; cases hna)
              refine wpOp_step rfl (fun K hK => ?_)
              clear hr
              go_simp
              refine hK _ _ ?_
              simp only [getD_own (l := ls) (i := 10) (by omega), gq 10 0, gq 10 1, gq 10 2, gq 10 3, gq 10 4, gq 10 5, gq 10 6, gq 10 7, gq 10 8, gq 10 9, gq 10 11]
              exact ⟨_, v40, v41, v42, v43, v44, v45, v46, v47, v48, v49, rfl, by simp [hl], balloc hB _, zg0, zg1, zg2, zg3, zg4, zg5, zg6, zg7, zg8, zg9, fun _ => ⟨_, rfl, hz, fun _ => SpanAt.new rfl, fun h => (by rw [hus] at h; cases h)⟩, fun _ => (by first | rfl | trivial)⟩
            · rintro ls ac w' hr ⟨v9, v40, v41, v42, v43, v44, v45, v46, v47, v48, v49, rfl, hl, hB, zg0, zg1, zg2, zg3, zg4, zg5, zg6, zg7, zg8, zg9, zh1, zk1⟩
              have zd10 := rdd hr 10
              have zd9 := rdd hr 9
              obtain rfl := zg9 zd9
              have hn := (ready_dep hr rfl).1
              have hns : ls.getD 11 false = false := by cases hc : ls.getD 11 false with | false => rfl | true => (exfalso; have hs4 := getD_both hc; rw [hs4] at hn; cases hn)
              obtain ⟨b, rfl, hub, e4, _⟩ := zh1 zd10
              have hS := e4 hns
              have hT := span_sets (x := s1) (y := s2) (z := s3) hS
              have zs0 := (hS).1.1
              have zs1 := (hS).2.1.1
              have zs2 := (hS).2.2.1
              have zs3 := (hS).1.2
              have zs4 := (hS).2.1.2
              have zs5 := (hS).2.2.2
              refine wpOp_step rfl (fun K hK => ?_)
              clear hr
              clear hS e4
              go_simp
              refine hK _ _ ?_
              simp only [getD_own (l := ls) (i := 11) (by omega), gq 11 0, gq 11 1, gq 11 2, gq 11 3, gq 11 4, gq 11 5, gq 11 6, gq 11 7, gq 11 8, gq 11 9, gq 11 10]
              exact ⟨_, v40, v41, v42, v43, v44, v45, v46, v47, v48, _, rfl, by simp [hl], hB.trans (hT.2.2 _ hub), zg0, zg1, zg2, zg3, zg4, zg5, zg6, zg7, zg8, fun _ => rfl, fun _ => ⟨b, rfl, hub, fun h => (by cases h), fun _ => hT.1⟩, fun _ => zd10⟩
          · rintro ls ac w' ⟨v9, v40, v41, v42, v43, v44, v45, v46, v47, v48, v49, rfl, hl, hB, zg0, zg1, zg2, zg3, zg4, zg5, zg6, zg7, zg8, zg9, zh1, zk1⟩ hr
            have hall := ready_allb (by decide) hl hr
            obtain ⟨b1, rfl, hub1, _, f1⟩ := zh1 (hall 10 (by decide))
            have F1 := f1 (hall 11 (by decide))
            go_wp2_with fail
            go_meet
            exact ⟨b1, rfl, by omega, Lib.hid (Below.trans hwC (hB.mono (Below.size hwC))), Lib.hid ⟨CellF.keep hB qHC0_0, CellF.keep hB qHC0_1, CellF.keep hB qHC0_2⟩, Lib.hid ⟨CellF.keep hB qHC1_0, CellF.keep hB qHC1_1, CellF.keep hB qHC1_2, CellF.keep hB qHC1_3⟩, Lib.hid ⟨CellF.keep hB qHC2_0, CellF.keep hB qHC2_1⟩, Lib.hid ⟨CellF.keep hB qHC3_0, CellF.keep hB qHC3_1, CellF.keep hB qHC3_2⟩, Lib.hid ⟨CellF.keep hB qHC4_0, CellF.keep hB qHC4_1, CellF.keep hB qHC4_2⟩, Lib.hid ⟨CellF.keep hB qHC5_0, CellF.keep hB qHC5_1, CellF.keep hB qHC5_2⟩, Lib.hid ⟨F1.1, F1.2.1, F1.2.2⟩⟩
        case rest =>
          clear qHC0_0 cHC0_0 gHC0_0 qHC0_1 cHC0_1 gHC0_1 qHC0_2 cHC0_2 gHC0_2 zHC0 qHC1_0 cHC1_0 gHC1_0 qHC1_1 cHC1_1 gHC1_1 qHC1_2 cHC1_2 gHC1_2 qHC1_3 cHC1_3 gHC1_3 zHC1 qHC2_0 cHC2_0 gHC2_0 qHC2_1 cHC2_1 gHC2_1 zHC2 qHC3_0 cHC3_0 gHC3_0 qHC3_1 cHC3_1 gHC3_1 qHC3_2 cHC3_2 gHC3_2 zHC3 qHC4_0 cHC4_0 gHC4_0 qHC4_1 cHC4_1 gHC4_1 qHC4_2 cHC4_2 gHC4_2 zHC4 qHC5_0 cHC5_0 gHC5_0 qHC5_1 cHC5_1 gHC5_1 qHC5_2 cHC5_2 gHC5_2 zHC5
          obtain ⟨bs, rfl, hbs, HBD, HD0, HD1, HD2, HD3, HD4, HD5, HD6⟩ := hcut
          have hwD := HBD.out
          have qHD0_0 := HD0.out.1
          have cHD0_0 := qHD0_0.1
          have gHD0_0 := qHD0_0.2
          have qHD0_1 := HD0.out.2.1
          have cHD0_1 := qHD0_1.1
          have gHD0_1 := qHD0_1.2
          have qHD0_2 := HD0.out.2.2
          have cHD0_2 := qHD0_2.1
          have gHD0_2 := qHD0_2.2
          have zHD0 := ltc cHD0_0
          dsimp only at zHD0
          have qHD1_0 := HD1.out.1
          have cHD1_0 := qHD1_0.1
          have gHD1_0 := qHD1_0.2
          have qHD1_1 := HD1.out.2.1
          have cHD1_1 := qHD1_1.1
          have gHD1_1 := qHD1_1.2
          have qHD1_2 := HD1.out.2.2.1
          have cHD1_2 := qHD1_2.1
          have gHD1_2 := qHD1_2.2
          have qHD1_3 := HD1.out.2.2.2
          have cHD1_3 := qHD1_3.1
          have gHD1_3 := qHD1_3.2
          have zHD1 := ltc cHD1_0
          dsimp only at zHD1
          have qHD2_0 := HD2.out.1
          have cHD2_0 := qHD2_0.1
          have gHD2_0 := qHD2_0.2
          have qHD2_1 := HD2.out.2
          have cHD2_1 := qHD2_1.1
          have gHD2_1 := qHD2_1.2
          have zHD2 := ltc cHD2_0
          dsimp only at zHD2
          have qHD3_0 := HD3.out.1
          have cHD3_0 := qHD3_0.1
          have gHD3_0 := qHD3_0.2
          have qHD3_1 := HD3.out.2.1
          have cHD3_1 := qHD3_1.1
          have gHD3_1 := qHD3_1.2
          have qHD3_2 := HD3.out.2.2
          have cHD3_2 := qHD3_2.1
          have gHD3_2 := qHD3_2.2
          have zHD3 := ltc cHD3_0
          dsimp only at zHD3
          have qHD4_0 := HD4.out.1
          have cHD4_0 := qHD4_0.1
          have gHD4_0 := qHD4_0.2
          have qHD4_1 := HD4.out.2.1
          have cHD4_1 := qHD4_1.1
          have gHD4_1 := qHD4_1.2
          have qHD4_2 := HD4.out.2.2
          have cHD4_2 := qHD4_2.1
          have gHD4_2 := qHD4_2.2
          have zHD4 := ltc cHD4_0
          dsimp only at zHD4
          have qHD5_0 := HD5.out.1
          have cHD5_0 := qHD5_0.1
          have gHD5_0 := qHD5_0.2
          have qHD5_1 := HD5.out.2.1
          have cHD5_1 := qHD5_1.1
          have gHD5_1 := qHD5_1.2
          have qHD5_2 := HD5.out.2.2
          have cHD5_2 := qHD5_2.1
          have gHD5_2 := qHD5_2.2
          have zHD5 := ltc cHD5_0
          dsimp only at zHD5
          have qHD6_0 := HD6.out.1
          have cHD6_0 := qHD6_0.1
          have gHD6_0 := qHD6_0.2
          have qHD6_1 := HD6.out.2.1
          have cHD6_1 := qHD6_1.1
          have gHD6_1 := qHD6_1.2
          have qHD6_2 := HD6.out.2.2
          have cHD6_2 := qHD6_2.1
          have gHD6_2 := qHD6_2.2
          have zHD6 := ltc cHD6_0
          dsimp only at zHD6
          clear HBD HD0 HD1 HD2 HD3 HD4 HD5 HD6
          clear qHD0_0 cHD0_0 gHD0_0 qHD0_1 cHD0_1 gHD0_1 qHD0_2 cHD0_2 gHD0_2 zHD0 qHD1_0 cHD1_0 gHD1_0 qHD1_1 cHD1_1 gHD1_1 qHD1_2 cHD1_2 gHD1_2 qHD1_3 cHD1_3 gHD1_3 zHD1 qHD2_0 cHD2_0 gHD2_0 qHD2_1 cHD2_1 gHD2_1 zHD2 qHD4_0 cHD4_0 gHD4_0 qHD4_1 cHD4_1 gHD4_1 qHD4_2 cHD4_2 gHD4_2 zHD4 qHD5_0 cHD5_0 gHD5_0 qHD5_1 cHD5_1 gHD5_1 qHD5_2 cHD5_2 gHD5_2 zHD5
          go_wp2_with fail
          refine (rFloor2_is _ _ _ Hv _).mono ?_
          rintro e w2 ⟨rfl, hb2⟩
          have q2_5_0 : CellF w2 ⟨(w.heap.size + 1 + 1 + 1), 0, none⟩ (.int .i64 0) := CellF.keep hb2 (qHD3_0)
          have c2_5_0 := q2_5_0.1
          have g2_5_0 := q2_5_0.2
          have q2_5_1 : CellF w2 ⟨(w.heap.size + 1 + 1 + 1), 1, none⟩ (.int .i64 0) := CellF.keep hb2 (qHD3_1)
          have c2_5_1 := q2_5_1.1
          have g2_5_1 := q2_5_1.2
          have q2_5_2 : CellF w2 ⟨(w.heap.size + 1 + 1 + 1), 2, none⟩ (.bool false) := CellF.keep hb2 (qHD3_2)
          have c2_5_2 := q2_5_2.1
          have g2_5_2 := q2_5_2.2
          have z2_5 : (w.heap.size + 1 + 1 + 1) < w2.heap.size := ltc c2_5_0
          have q2_6_0 : CellF w2 ⟨bs, 0, none⟩ (.int .i64 s1) := CellF.keep hb2 (qHD6_0)
          have c2_6_0 := q2_6_0.1
          have g2_6_0 := q2_6_0.2
          have q2_6_1 : CellF w2 ⟨bs, 1, none⟩ (.int .i64 s2) := CellF.keep hb2 (qHD6_1)
          have c2_6_1 := q2_6_1.1
          have g2_6_1 := q2_6_1.2
          have q2_6_2 : CellF w2 ⟨bs, 2, none⟩ (.bool s3) := CellF.keep hb2 (qHD6_2)
          have c2_6_2 := q2_6_2.1
          have g2_6_2 := q2_6_2.2
          have z2_6 : bs < w2.heap.size := ltc c2_6_0
          clear qHD3_0 cHD3_0 gHD3_0 qHD3_1 cHD3_1 gHD3_1 qHD3_2 cHD3_2 gHD3_2 zHD3 qHD6_0 cHD6_0 gHD6_0 qHD6_1 cHD6_1 gHD6_1 qHD6_2 cHD6_2 gHD6_2 zHD6
          go_wp2_with fail
          refine (rCeil2_is _ _ _ Ht _).mono ?_
          rintro e w3 ⟨rfl, hb3⟩
          have q3_7_0 : CellF w3 ⟨(w.heap.size + 1 + 1 + 1), 0, none⟩ (.int .i64 0) := CellF.keep hb3 (q2_5_0)
          have c3_7_0 := q3_7_0.1
          have g3_7_0 := q3_7_0.2
          have q3_7_1 : CellF w3 ⟨(w.heap.size + 1 + 1 + 1), 1, none⟩ (.int .i64 0) := CellF.keep hb3 (q2_5_1)
          have c3_7_1 := q3_7_1.1
          have g3_7_1 := q3_7_1.2
          have q3_7_2 : CellF w3 ⟨(w.heap.size + 1 + 1 + 1), 2, none⟩ (.bool false) := CellF.keep hb3 (q2_5_2)
          have c3_7_2 := q3_7_2.1
          have g3_7_2 := q3_7_2.2
          have z3_7 : (w.heap.size + 1 + 1 + 1) < w3.heap.size := ltc c3_7_0
          have q3_8_0 : CellF w3 ⟨bs, 0, none⟩ (.int .i64 s1) := CellF.keep hb3 (q2_6_0)
          have c3_8_0 := q3_8_0.1
          have g3_8_0 := q3_8_0.2
          have q3_8_1 : CellF w3 ⟨bs, 1, none⟩ (.int .i64 s2) := CellF.keep hb3 (q2_6_1)
          have c3_8_1 := q3_8_1.1
          have g3_8_1 := q3_8_1.2
          have q3_8_2 : CellF w3 ⟨bs, 2, none⟩ (.bool s3) := CellF.keep hb3 (q2_6_2)
          have c3_8_2 := q3_8_2.1
          have g3_8_2 := q3_8_2.2
          have z3_8 : bs < w3.heap.size := ltc c3_8_0
          clear q2_5_0 c2_5_0 g2_5_0 q2_5_1 c2_5_1 g2_5_1 q2_5_2 c2_5_2 g2_5_2 z2_5 q2_6_0 c2_6_0 g2_6_0 q2_6_1 c2_6_1 g2_6_1 q2_6_2 c2_6_2 g2_6_2 z2_6
          cases s3 with
          | false =>
            have hx := HZ.out
            rw [if_neg (by decide)] at hx
            cases hx
            go_wp2
            exact bodyPost_ret (v := .agg #[.int .i64 0, .int .i64 0, .bool false]) (by simp [results, Try.results73, go_sem, c3_7_0, c3_7_1, c3_7_2]) rfl ⟨rfl, (by repeat (first | with_reducible assumption | with_reducible exact brefl _ | with_reducible refine balloc ?_ _ | with_reducible refine bdrewN ?_ _ | with_reducible refine bset ?_ ?_ _ | (dsimp only; omega) | refine bstep ?_ (by assumption)))⟩
          | true =>
            have hx := HZ.out
            rw [if_pos rfl] at hx
            have HO := Lib.hid hx
            clear hx
            go_wp2_with fail
            refine (r3Of_is _ _ _ _ _ HO _).mono ?_
            rintro e w4 ⟨rfl, hb4⟩
            have q4_9_0 : CellF w4 ⟨(w.heap.size + 1 + 1 + 1), 0, none⟩ (.int .i64 0) := CellF.keep hb4 (q3_7_0)
            have c4_9_0 := q4_9_0.1
            have g4_9_0 := q4_9_0.2
            have q4_9_1 : CellF w4 ⟨(w.heap.size + 1 + 1 + 1), 1, none⟩ (.int .i64 0) := CellF.keep hb4 (q3_7_1)
            have c4_9_1 := q4_9_1.1
            have g4_9_1 := q4_9_1.2
            have q4_9_2 : CellF w4 ⟨(w.heap.size + 1 + 1 + 1), 2, none⟩ (.bool false) := CellF.keep hb4 (q3_7_2)
            have c4_9_2 := q4_9_2.1
            have g4_9_2 := q4_9_2.2
            have z4_9 : (w.heap.size + 1 + 1 + 1) < w4.heap.size := ltc c4_9_0
            have q4_10_0 : CellF w4 ⟨bs, 0, none⟩ (.int .i64 s1) := CellF.keep hb4 (q3_8_0)
            have c4_10_0 := q4_10_0.1
            have g4_10_0 := q4_10_0.2
            have q4_10_1 : CellF w4 ⟨bs, 1, none⟩ (.int .i64 s2) := CellF.keep hb4 (q3_8_1)
            have c4_10_1 := q4_10_1.1
            have g4_10_1 := q4_10_1.2
            have q4_10_2 : CellF w4 ⟨bs, 2, none⟩ (.bool true) := CellF.keep hb4 (q3_8_2)
            have c4_10_2 := q4_10_2.1
            have g4_10_2 := q4_10_2.2
            have z4_10 : bs < w4.heap.size := ltc c4_10_0
            clear q3_7_0 c3_7_0 g3_7_0 q3_7_1 c3_7_1 g3_7_1 q3_7_2 c3_7_2 g3_7_2 z3_7 q3_8_0 c3_8_0 g3_8_0 q3_8_1 c3_8_1 g3_8_1 q3_8_2 c3_8_2 g3_8_2 z3_8
            go_wp2
            exact bodyPost_ret (v := .agg #[.int .i64 y1, .int .i64 y2, .bool y3]) (by simp [results, Try.results73, go_sem, c4_9_0, c4_9_1, c4_9_2]) rfl ⟨rfl, (by repeat (first | with_reducible assumption | with_reducible exact brefl _ | with_reducible refine balloc ?_ _ | with_reducible refine bdrewN ?_ _ | with_reducible refine bset ?_ ?_ _ | (dsimp only; omega) | refine bstep ?_ (by assumption)))⟩
end Go.Proofs.Ytnphbdhcoiaklaa
