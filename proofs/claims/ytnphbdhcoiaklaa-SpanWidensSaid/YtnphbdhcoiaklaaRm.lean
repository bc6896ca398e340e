/-
  The document's spans: Scale.
-/
import Derived.Test.YtnphbdhcoiaklaaMrs
import Derived.Test.YtnphbdhcoiaklaaGR
import Derived.Deep.RegionHeld3
namespace Go.Proofs.Ytnphbdhcoiaklaa
open Go.RowKit

set_option maxRecDepth 100000 in
set_option maxHeartbeats 4000000 in
theorem r3Scale_is (lo hi : Int) (k : Bool) (p : Int) (x y : Int) (z : Bool) (H : Hid (spScale ⟨lo, hi, k⟩ p = ⟨x, y, z⟩)) (w : World) :
    Calls Try.prog 63 #[.agg #[.int .i64 lo, .int .i64 hi, .bool k], .int .i64 p] w fun e w' => e = .returned (.agg #[.int .i64 x, .int .i64 y, .bool z]) ∧ Below w.heap.size w w' := by
  have hx := H.out
  obtain ⟨⟨a, b, c⟩, h1⟩ : ∃ s, spTold ⟨lo, hi, k⟩ = s := ⟨_, rfl⟩
  have H1 := Lib.hid h1
  have hT := told_in h1
  have hno : c = false → spScale ⟨lo, hi, k⟩ p = spNo := fun hc => by
    rcases hT with ⟨_, _, hn⟩ | ⟨hk, _⟩
    · rw [hc] at hn; cases hn
    · unfold spScale; rw [if_pos (.inl hk)]
  have hyes : c = true → spK ⟨a, b, true⟩ = true ∧ spScale ⟨lo, hi, k⟩ p = spScale ⟨a, b, true⟩ p := fun hc => by
    rcases hT with ⟨hk, ht, hn⟩ | ⟨_, ht⟩
    · subst hc; rw [← ht] at hk ⊢; exact ⟨hk, rfl⟩
    · rw [hc] at ht; cases ht
  have HNO := Lib.hid hno
  have HYES := Lib.hid hyes
  have HX := Lib.hid hx
  clear H h1 hx hT hno hyes
  go_enter Try.func63, Try.ntmps63
  go_wp2_with fail
  refine (r3Told_is _ _ _ _ _ _ H1 _).mono ?_
  rintro e w1 ⟨rfl, hb1⟩
  have q1_1_0 : CellF w1 ⟨w.heap.size, 0, none⟩ (.int .i64 lo) := CellF.keep hb1 (CellF.past _ (CellF.at_ rfl rfl))
  have c1_1_0 := q1_1_0.1
  have g1_1_0 := q1_1_0.2
  have q1_1_1 : CellF w1 ⟨w.heap.size, 1, none⟩ (.int .i64 hi) := CellF.keep hb1 (CellF.past _ (CellF.at_ rfl rfl))
  have c1_1_1 := q1_1_1.1
  have g1_1_1 := q1_1_1.2
  have q1_1_2 : CellF w1 ⟨w.heap.size, 2, none⟩ (.bool k) := CellF.keep hb1 (CellF.past _ (CellF.at_ rfl rfl))
  have c1_1_2 := q1_1_2.1
  have g1_1_2 := q1_1_2.2
  have z1_1 : w.heap.size < w1.heap.size := ltc c1_1_0
  have q1_2_0 : CellF w1 ⟨(w.heap.size + 1), 0, none⟩ (.int .i64 0) := CellF.keep hb1 (CellF.at_ (by simp) rfl)
  have c1_2_0 := q1_2_0.1
  have g1_2_0 := q1_2_0.2
  have q1_2_1 : CellF w1 ⟨(w.heap.size + 1), 1, none⟩ (.int .i64 0) := CellF.keep hb1 (CellF.at_ (by simp) rfl)
  have c1_2_1 := q1_2_1.1
  have g1_2_1 := q1_2_1.2
  have q1_2_2 : CellF w1 ⟨(w.heap.size + 1), 2, none⟩ (.bool false) := CellF.keep hb1 (CellF.at_ (by simp) rfl)
  have c1_2_2 := q1_2_2.1
  have g1_2_2 := q1_2_2.2
  have z1_2 : (w.heap.size + 1) < w1.heap.size := ltc c1_2_0
  cases c with
  | false =>
    have hx := HX.out
    rw [HNO.out rfl] at hx
    cases hx
    go_wp2
    exact bodyPost_ret (v := .agg #[.int .i64 0, .int .i64 0, .bool false]) (by simp [results, Try.results63, go_sem, c1_2_0, c1_2_1, c1_2_2]) rfl ⟨rfl, (by repeat (first | with_reducible assumption | with_reducible exact brefl _ | with_reducible refine balloc ?_ _ | with_reducible refine bdrewN ?_ _ | with_reducible refine bset ?_ ?_ _ | (dsimp only; omega) | refine bstep ?_ (by assumption)))⟩
  | true =>
    obtain ⟨hk, hsc⟩ := HYES.out rfl
    have hx := HX.out
    rw [hsc] at hx
    by_cases hp : p < 0
    ·
      have hn : spScale ⟨a, b, true⟩ p = spNo := by unfold spScale; rw [if_pos (.inr (.inl hp))]
      rw [hn] at hx
      cases hx
      go_wp2
      exact bodyPost_ret (v := .agg #[.int .i64 0, .int .i64 0, .bool false]) (by simp [results, Try.results63, go_sem, c1_2_0, c1_2_1, c1_2_2]) rfl ⟨rfl, (by repeat (first | with_reducible assumption | with_reducible exact brefl _ | with_reducible refine balloc ?_ _ | with_reducible refine bdrewN ?_ _ | with_reducible refine bset ?_ ?_ _ | (dsimp only; omega) | refine bstep ?_ (by assumption)))⟩
    have hp0 : 0 ≤ p := by omega
    clear hp
    by_cases hp : 1000000000 < p
    ·
      have hn : spScale ⟨a, b, true⟩ p = spNo := by unfold spScale; rw [if_pos (.inr (.inr hp))]
      rw [hn] at hx
      cases hx
      go_wp2
      exact bodyPost_ret (v := .agg #[.int .i64 0, .int .i64 0, .bool false]) (by simp [results, Try.results63, go_sem, c1_2_0, c1_2_1, c1_2_2]) rfl ⟨rfl, (by repeat (first | with_reducible assumption | with_reducible exact brefl _ | with_reducible refine balloc ?_ _ | with_reducible refine bdrewN ?_ _ | with_reducible refine bset ?_ ?_ _ | (dsimp only; omega) | refine bstep ?_ (by assumption)))⟩
    have hp9 : p ≤ 1000000000 := by omega
    clear hp
    rw [← r3_scale hk hp0 hp9] at hx
    obtain ⟨f, hf⟩ : ∃ f, scF a b = f := ⟨_, rfl⟩
    obtain ⟨q, hq⟩ : ∃ q, scQ p = q := ⟨_, rfl⟩
    rw [hf, hq] at hx
    have HXX := Lib.hid hx
    have f0 : f 0 = a := by rw [← hf]; rfl
    have f1 : f 1 = a := by rw [← hf]; rfl
    have f2 : f 2 = b := by rw [← hf]; rfl
    have f3 : f 3 = b := by rw [← hf]; rfl
    have q0 : q 0 = 1000000000 - p := by rw [← hq]; rfl
    have q1 : q 1 = 1000000000 + p := by rw [← hq]; rfl
    have q2 : q 2 = 1000000000 - p := by rw [← hq]; rfl
    have q3 : q 3 = 1000000000 + p := by rw [← hq]; rfl
    have HF := Lib.hid (And.intro f0 (And.intro f1 (And.intro f2 (And.intro f3 (And.intro q0 (And.intro q1 (And.intro q2 q3)))))))
    clear hx hsc hf hq f0 f1 f2 f3 q0 q1 q2 q3 HNO HYES HX
    go_wp2
    go_loopw [7, 8, 9] (fun l h i wr => ∃ j : Nat, j ≤ 4 ∧ i = .int .i64 j ∧ l = .int .i64 (rsL f q j) ∧ h = .int .i64 (rsH f q j) ∧ Hid (rsG f q j = true) ∧ Hid (Below w.heap.size w wr) ∧ Hid (∀ j : Nat, j < 4 → CellF wr ⟨w1.heap.size, j, none⟩ (.int .i64 (f j)) ∧ CellF wr ⟨w1.heap.size + 1, j, none⟩ (.int .i64 (q j))) ∧ Hid (CellF wr ⟨w.heap.size + 1, 0, none⟩ (.int .i64 0) ∧ CellF wr ⟨w.heap.size + 1, 1, none⟩ (.int .i64 0) ∧ CellF wr ⟨w.heap.size + 1, 2, none⟩ (.bool false))) (fun _ _ i _ => 4 - (intOf i).toNat)
    case atStart =>
      refine ⟨0, by omega, rfl, rfl, rfl, Lib.hid rfl, Lib.hid (by repeat (first | with_reducible assumption | with_reducible exact brefl _ | with_reducible refine balloc ?_ _ | with_reducible refine bdrewN ?_ _ | with_reducible refine bset ?_ ?_ _ | (dsimp only; omega) | refine bstep ?_ (by assumption))), Lib.hid fun j hj => ?_, Lib.hid ⟨?_, ?_, ?_⟩⟩
      · obtain ⟨f0, f1, f2, f3, q0, q1, q2, q3⟩ := HF.out
        match j, hj with
        | 0, _ => rw [f0, q0]; exact ⟨⟨by go_simp, by go_simp⟩, ⟨by go_simp, by go_simp⟩⟩
        | 1, _ => rw [f1, q1]; exact ⟨⟨by go_simp, by go_simp⟩, ⟨by go_simp, by go_simp⟩⟩
        | 2, _ => rw [f2, q2]; exact ⟨⟨by go_simp, by go_simp⟩, ⟨by go_simp, by go_simp⟩⟩
        | 3, _ => rw [f3, q3]; exact ⟨⟨by go_simp, by go_simp⟩, ⟨by go_simp, by go_simp⟩⟩
      · exact ⟨by go_simp, by go_simp⟩
      · exact ⟨by go_simp, by go_simp⟩
      · exact ⟨by go_simp, by go_simp⟩
    case round =>
      clear q1_1_0 c1_1_0 g1_1_0 q1_1_1 c1_1_1 g1_1_1 q1_1_2 c1_1_2 g1_1_2 z1_1 q1_2_0 c1_2_0 g1_2_0 q1_2_1 c1_2_1 g1_2_1 q1_2_2 c1_2_2 g1_2_2 z1_2
      obtain ⟨j, hj, rfl, rfl, rfl, HG, HB, HC, HZ⟩ := hrel
      have hwr := HB.out
      have e0 := HZ.out.1
      have e1 := HZ.out.2.1
      have e2 := HZ.out.2.2
      have d0 := e0.1
      have d1 := e1.1
      have d2 := e2.1
      have g0 := e0.2
      have g1 := e1.2
      have g2 := e2.2
      have zz := ltc d0
      dsimp only at zz
      by_cases hj4 : j < 4
      ·
        have j0 : (0 : Int) ≤ (j : Int) := by omega
        have j4 : (j : Int) < 4 := by omega
        obtain ⟨m0, m1⟩ := HC.out j hj4
        have k0 := m0.1
        have k1 := m1.1
        have zm := ltc k0
        have zq := ltc k1
        dsimp only at zm zq
        obtain ⟨u, iu, hu⟩ : ∃ u i, floorP (f j) (q j) 1000000000 = (u, i) := ⟨_, _, rfl⟩
        obtain ⟨v, iv, hv⟩ : ∃ u i, ceilP (f j) (q j) 1000000000 = (u, i) := ⟨_, _, rfl⟩
        have HU := Lib.hid hu
        have HV := Lib.hid hv
        have eG : rsG f q (j + 1) = ((rsG f q j && iu) && iv) := by show ((rsG f q j && _) && _) = _; rw [hu, hv]
        have eL : rsL f q (j + 1) = if u < rsL f q j then u else rsL f q j := by show (if _ < _ then _ else _) = _; rw [hu]
        have eH : rsH f q (j + 1) = if rsH f q j < v then v else rsH f q j := by show (if _ < _ then _ else _) = _; rw [hv]
        rw [HG.out] at eG
        have EG := Lib.hid eG
        have EL := Lib.hid eL
        have EH := Lib.hid eH
        clear hu hv eG eL eH
        generalize hA : rsL f q j = A at *
        generalize hBB : rsH f q j = Bb at *
        generalize hfj : f j = fj at *
        generalize hqj : q j = qj at *
        go_wp2_with fail
        go_region_held3 (fun w' => w'.cell? ⟨w1.heap.size, j, none⟩ = some (.int .i64 fj) ∧ w'.cell? ⟨w1.heap.size + 1, j, none⟩ = some (.int .i64 qj))
          (go_keep)
          (first | (go_at_call 23; ((with_reducible refine (rFloor_is _ _ _ _ _ HU _).mono ?_)); rintro e w2 ⟨rfl, hb2⟩; have ma0 := CellF.keep hb2 (CellF.drew m0); have ma0_ := ma0.1; have ma1 := CellF.keep hb2 (CellF.drew m1); have ma1_ := ma1.1))
        go_wp2_with fail
        go_region_held3 (fun w' => w'.cell? ⟨w1.heap.size, j, none⟩ = some (.int .i64 fj) ∧ w'.cell? ⟨w1.heap.size + 1, j, none⟩ = some (.int .i64 qj))
          (go_keep)
          (first | (go_at_call 25; ((with_reducible refine (rCeil_is _ _ _ _ _ HV _).mono ?_)); rintro e w3 ⟨rfl, hb3⟩; have mb0 := CellF.keep hb3 (CellF.drew ma0); have mb0_ := mb0.1; have mb1 := CellF.keep hb3 (CellF.drew ma1); have mb1_ := mb1.1))
        have hw3 : Below w.heap.size w w3 := bstep (bdrew (bstep (bdrew hwr) hb2)) hb3
        have x0 := CellF.keep hb3 (CellF.drew (CellF.keep hb2 (CellF.drew e0)))
        have xd0 := x0.1
        have xg0 := x0.2
        have x1 := CellF.keep hb3 (CellF.drew (CellF.keep hb2 (CellF.drew e1)))
        have xd1 := x1.1
        have xg1 := x1.2
        have x2 := CellF.keep hb3 (CellF.drew (CellF.keep hb2 (CellF.drew e2)))
        have xd2 := x2.1
        have xg2 := x2.2
        have zx := ltc xd0
        dsimp only at zx
        clear d0 d1 d2 g0 g1 g2 zz k0 k1 zm zq
        have HC3 := Lib.hid fun (j : Nat) (hj : j < 4) => (And.intro (CellF.keep hb3 (CellF.drew (CellF.keep hb2 (CellF.drew (HC.out j hj).1)))) (CellF.keep hb3 (CellF.drew (CellF.keep hb2 (CellF.drew (HC.out j hj).2)))))
        clear hb2 hb3 m0 m1 ma0 ma1 mb0 mb1 ma0_ ma1_ mb0_ mb1_ e0 e1 e2
        cases iu with
        | false =>
          have hg : rsG f q (j + 1) = false := EG.out
          have hx := HXX.out
          rw [rsG_no hg (by omega), if_neg (by decide)] at hx
          cases hx
          go_wp2
          exact bodyPost_ret (v := .agg #[.int .i64 0, .int .i64 0, .bool false]) (by simp [results, Try.results63, go_sem, xd0, xd1, xd2]) rfl ⟨rfl, by repeat (first | with_reducible exact hw3 | with_reducible refine bset ?_ ?_ _ | (dsimp only; omega))⟩
        | true =>
          cases iv with
          | false =>
            have hg : rsG f q (j + 1) = false := EG.out
            have hx := HXX.out
            rw [rsG_no hg (by omega), if_neg (by decide)] at hx
            cases hx
            go_wp2
            exact bodyPost_ret (v := .agg #[.int .i64 0, .int .i64 0, .bool false]) (by simp [results, Try.results63, go_sem, xd0, xd1, xd2]) rfl ⟨rfl, by repeat (first | with_reducible exact hw3 | with_reducible refine bset ?_ ?_ _ | (dsimp only; omega))⟩
          | true =>
            have hg : rsG f q (j + 1) = true := EG.out
            have HG2 := Lib.hid hg
            by_cases n1 : u < A
            ·
              by_cases n2 : Bb < v
              ·
                go_wp2
                go_roundw
                case rel => exact ⟨j + 1, by omega, by go_num, by rw [EL.out]; simp [*], by rw [EH.out]; simp [*], HG2, Lib.hid hw3, Lib.hid HC3.out, Lib.hid ⟨x0, x1, x2⟩⟩
                case measure => simp [intOf]; omega
              ·
                go_wp2
                go_roundw
                case rel => exact ⟨j + 1, by omega, by go_num, by rw [EL.out]; simp [*], by rw [EH.out]; simp [*], HG2, Lib.hid hw3, Lib.hid HC3.out, Lib.hid ⟨x0, x1, x2⟩⟩
                case measure => simp [intOf]; omega
            ·
              by_cases n2 : Bb < v
              ·
                go_wp2
                go_roundw
                case rel => exact ⟨j + 1, by omega, by go_num, by rw [EL.out]; simp [*], by rw [EH.out]; simp [*], HG2, Lib.hid hw3, Lib.hid HC3.out, Lib.hid ⟨x0, x1, x2⟩⟩
                case measure => simp [intOf]; omega
              ·
                go_wp2
                go_roundw
                case rel => exact ⟨j + 1, by omega, by go_num, by rw [EL.out]; simp [*], by rw [EH.out]; simp [*], HG2, Lib.hid hw3, Lib.hid HC3.out, Lib.hid ⟨x0, x1, x2⟩⟩
                case measure => simp [intOf]; omega
      ·
        have hj5 : j = 4 := by omega
        subst hj5
        have hx := HXX.out
        rw [HG.out, if_pos rfl] at hx
        have HO := Lib.hid hx
        clear hx
        go_wp2_with fail
        refine (r3Of_is _ _ _ _ _ HO _).mono ?_
        rintro e w2 ⟨rfl, hb2⟩
        have x0 := CellF.keep hb2 e0
        have xd0 := x0.1
        have xg0 := x0.2
        have x1 := CellF.keep hb2 e1
        have xd1 := x1.1
        have xg1 := x1.2
        have x2 := CellF.keep hb2 e2
        have xd2 := x2.1
        have xg2 := x2.2
        have zx := ltc xd0
        dsimp only at zx
        have hw2 : Below w.heap.size w w2 := bstep hwr hb2
        clear d0 d1 d2 g0 g1 g2 zz e0 e1 e2
        go_wp2
        exact bodyPost_ret (v := .agg #[.int .i64 x, .int .i64 y, .bool z]) (by simp [results, Try.results63, go_sem, xd0, xd1, xd2]) rfl ⟨rfl, by repeat (first | with_reducible exact hw2 | with_reducible refine bset ?_ ?_ _ | (dsimp only; omega))⟩
end Go.Proofs.Ytnphbdhcoiaklaa
