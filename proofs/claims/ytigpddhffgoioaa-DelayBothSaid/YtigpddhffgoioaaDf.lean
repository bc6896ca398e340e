/-
  The walks of the law's own small and may, and of the document's Right.
-/
import Derived.Test.YtigpddhffgoioaaDa
import Derived.Test.YtigpddhffgoioaaMdw
namespace Go.Proofs.Ytigpddhffgoioaa
open Go.RowKit

def inQb (n : Int) : Bool := decide (-1125899906842624 ≤ n) && decide (n ≤ 1125899906842624)
theorem inQb_iff {n : Int} : inQb n = true ↔ InQ n := by unfold inQb InQ; rw [Bool.and_eq_true, decide_eq_true_eq, decide_eq_true_eq]
theorem inQb_true {n : Int} (h1 : -1125899906842624 ≤ n) (h2 : n ≤ 1125899906842624) : inQb n = true := inQb_iff.2 ⟨h1, h2⟩
theorem inQb_low {n : Int} (h : n < -1125899906842624) : inQb n = false := by unfold inQb; rw [decide_eq_false (by omega)]; rfl
theorem inQb_high {n : Int} (h : 1125899906842624 < n) : inQb n = false := by unfold inQb; rw [decide_eq_false (p := n ≤ _) (by omega), Bool.and_false]
theorem inQb_not {n : Int} : inQb n = false ↔ n < -1125899906842624 ∨ 1125899906842624 < n := by
  constructor
  · intro h
    by_cases h1 : n < -1125899906842624
    · exact .inl h1
    · by_cases h2 : 1125899906842624 < n
      · exact .inr h2
      · rw [inQb_true (by omega) (by omega)] at h; cases h
  · rintro (h | h)
    · exact inQb_low h
    · exact inQb_high h
theorem allQ_succ {xs : List Int} {k : Nat} (h : k < xs.length) (hx : (xs.take k).all inQb = true) (h1 : -1125899906842624 ≤ xs[k]) (h2 : xs[k] ≤ 1125899906842624) : (xs.take (k + 1)).all inQb = true := by
  rw [List.take_succ_eq_append_getElem h, List.all_append, hx]; simp [inQb_true h1 h2]
theorem allQ_no {xs : List Int} {k : Nat} (h : k < xs.length) (h1 : inQb xs[k] = false) : xs.all inQb = false := by
  rw [List.all_eq_false]; exact ⟨xs[k], List.getElem_mem h, by simp [h1]⟩

set_option maxHeartbeats 400000 in
theorem smallQ_any (xs : List Int) (b : Nat) (w : World) (hl : xs.length ≤ 8) (hc : ∀ k, k < xs.length → w.cell? ⟨b, k, none⟩ = some (.int .i64 (xs.getD k 0))) :
    Calls Try.prog 11 #[.slice (some ⟨b, 0, none⟩) xs.length xs.length] w fun e w' => e = .returned (.bool (xs.all inQb)) ∧ w = w' := by
  go_enter Try.func11, Try.ntmps11
  go_wp2
  go_loop [7, 4] (fun i _ => ∃ k : Nat, k ≤ xs.length ∧ i = .int .i64 k ∧ (xs.take k).all inQb = true) (fun i _ => xs.length - (intOf i).toNat)
  case atStart => exact ⟨0, by omega, rfl, by simp⟩
  case round =>
    obtain ⟨k, hk, rfl, hx⟩ := hrel
    have hcell : k < xs.length → w.cell? ⟨b, k, none⟩ = some (.int .i64 (xs.getD k 0)) := fun h => hc k h
    have Hc := Lib.hid hc
    have Hx := Lib.hid hx
    clear hc hx
    go_wp2
    · have h : k < xs.length := by assumption
      have h1 : xs[k] < -1125899906842624 ∨ 1125899906842624 < xs[k] := by assumption
      go_ret
      exact ⟨ret_bool (allQ_no h (inQb_not.2 h1)).symm, rfl⟩
    · have h : k < xs.length := by assumption
      have h1 : -1125899906842624 ≤ xs[k] ∧ xs[k] ≤ 1125899906842624 := by assumption
      go_round
      case rel => exact ⟨k + 1, by omega, by go_num, allQ_succ h Hx.out h1.1 h1.2⟩
      case measure => simp [intOf]; omega
    · have h : k < xs.length := by assumption
      have h1 : xs[k] < -1125899906842624 := by assumption
      go_ret
      exact ⟨ret_bool (allQ_no h (inQb_low h1)).symm, rfl⟩
    · have h : ¬ k < xs.length := by assumption
      go_ret
      have hx := Hx.out
      rw [List.take_of_length_le (by omega)] at hx
      exact ⟨ret_bool hx.symm, rfl⟩
theorem smallQ1 (x0 : Int) (p : Bool) (hp : (inQb x0) = p) (b : Nat) (w : World) (h0 : w.cell? ⟨b, 0, none⟩ = some (.int .i64 x0)) :
    Calls Try.prog 11 #[.slice (some ⟨b, 0, none⟩) 1 1] w fun e w' => e = .returned (.bool p) ∧ w = w' := by
  have := smallQ_any [x0] b w (by simp) (fun k hk => by match k, hk with | 0, _ => exact h0)
  simpa [← hp] using this
theorem smallQ2 (x0 x1 : Int) (p : Bool) (hp : (inQb x0 && (inQb x1)) = p) (b : Nat) (w : World) (h0 : w.cell? ⟨b, 0, none⟩ = some (.int .i64 x0)) (h1 : w.cell? ⟨b, 1, none⟩ = some (.int .i64 x1)) :
    Calls Try.prog 11 #[.slice (some ⟨b, 0, none⟩) 2 2] w fun e w' => e = .returned (.bool p) ∧ w = w' := by
  have := smallQ_any [x0, x1] b w (by simp) (fun k hk => by match k, hk with | 0, _ => exact h0 | 1, _ => exact h1)
  simpa [← hp] using this
theorem smallQ4 (x0 x1 x2 x3 : Int) (p : Bool) (hp : (inQb x0 && (inQb x1 && (inQb x2 && (inQb x3)))) = p) (b : Nat) (w : World) (h0 : w.cell? ⟨b, 0, none⟩ = some (.int .i64 x0)) (h1 : w.cell? ⟨b, 1, none⟩ = some (.int .i64 x1)) (h2 : w.cell? ⟨b, 2, none⟩ = some (.int .i64 x2)) (h3 : w.cell? ⟨b, 3, none⟩ = some (.int .i64 x3)) :
    Calls Try.prog 11 #[.slice (some ⟨b, 0, none⟩) 4 4] w fun e w' => e = .returned (.bool p) ∧ w = w' := by
  have := smallQ_any [x0, x1, x2, x3] b w (by simp) (fun k hk => by match k, hk with | 0, _ => exact h0 | 1, _ => exact h1 | 2, _ => exact h2 | 3, _ => exact h3)
  simpa [← hp] using this
theorem smallQ5 (x0 x1 x2 x3 x4 : Int) (p : Bool) (hp : (inQb x0 && (inQb x1 && (inQb x2 && (inQb x3 && (inQb x4))))) = p) (b : Nat) (w : World) (h0 : w.cell? ⟨b, 0, none⟩ = some (.int .i64 x0)) (h1 : w.cell? ⟨b, 1, none⟩ = some (.int .i64 x1)) (h2 : w.cell? ⟨b, 2, none⟩ = some (.int .i64 x2)) (h3 : w.cell? ⟨b, 3, none⟩ = some (.int .i64 x3)) (h4 : w.cell? ⟨b, 4, none⟩ = some (.int .i64 x4)) :
    Calls Try.prog 11 #[.slice (some ⟨b, 0, none⟩) 5 5] w fun e w' => e = .returned (.bool p) ∧ w = w' := by
  have := smallQ_any [x0, x1, x2, x3, x4] b w (by simp) (fun k hk => by match k, hk with | 0, _ => exact h0 | 1, _ => exact h1 | 2, _ => exact h2 | 3, _ => exact h3 | 4, _ => exact h4)
  simpa [← hp] using this

theorem rPRight_is (mn mx g : Int) (p : Bool) (H : Hid (pRight mn mx g = p)) (w : World) :
    Calls Try.prog 19 #[.agg #[.int .i64 mn, .int .i64 mx, .int .i64 g]] w fun e w' => e = .returned (.bool p) ∧ Below w.heap.size w w' := by
  have hp := H.out
  clear H
  unfold pRight at hp
  by_cases h0 : 0 ≤ mn
  · rw [decide_eq_true h0] at hp
    by_cases h1 : mn ≤ mx
    · rw [decide_eq_true h1] at hp
      by_cases h2 : mx ≤ 10000000000
      · rw [decide_eq_true h2] at hp
        by_cases h3 : 0 ≤ g
        · rw [decide_eq_true h3] at hp
          by_cases h4 : g ≤ 1000000000
          · rw [decide_eq_true h4] at hp
            cases hp
            go_enter Try.func19, Try.ntmps19
            go_wp2
            go_ret
            exact ⟨rfl, (by repeat (first | exact brefl _ | refine balloc ?_ _ | refine bdrewN ?_ _ | refine bset ?_ (by dsimp only; omega) _ | refine bstep ?_ (by assumption)))⟩
          · rw [decide_eq_false h4] at hp
            cases hp
            go_enter Try.func19, Try.ntmps19
            go_wp2
            go_ret
            exact ⟨rfl, (by repeat (first | exact brefl _ | refine balloc ?_ _ | refine bdrewN ?_ _ | refine bset ?_ (by dsimp only; omega) _ | refine bstep ?_ (by assumption)))⟩
        · rw [decide_eq_false h3] at hp
          cases hp
          go_enter Try.func19, Try.ntmps19
          go_wp2
          go_ret
          exact ⟨rfl, (by repeat (first | exact brefl _ | refine balloc ?_ _ | refine bdrewN ?_ _ | refine bset ?_ (by dsimp only; omega) _ | refine bstep ?_ (by assumption)))⟩
      · rw [decide_eq_false h2] at hp
        cases hp
        go_enter Try.func19, Try.ntmps19
        go_wp2
        go_ret
        exact ⟨rfl, (by repeat (first | exact brefl _ | refine balloc ?_ _ | refine bdrewN ?_ _ | refine bset ?_ (by dsimp only; omega) _ | refine bstep ?_ (by assumption)))⟩
    · rw [decide_eq_false h1] at hp
      cases hp
      go_enter Try.func19, Try.ntmps19
      go_wp2
      go_ret
      exact ⟨rfl, (by repeat (first | exact brefl _ | refine balloc ?_ _ | refine bdrewN ?_ _ | refine bset ?_ (by dsimp only; omega) _ | refine bstep ?_ (by assumption)))⟩
  · rw [decide_eq_false h0] at hp
    cases hp
    go_enter Try.func19, Try.ntmps19
    go_wp2
    go_ret
    exact ⟨rfl, (by repeat (first | exact brefl _ | refine balloc ?_ _ | refine bdrewN ?_ _ | refine bset ?_ (by dsimp only; omega) _ | refine bstep ?_ (by assumption)))⟩

def mayB (mn mx g a o k n w0 w1 : Int) : Bool := ((((((pRight mn mx g && (inQb a && (inQb o && (inQb k && inQb n)))) && decide (mn ≤ k)) && decide (k ≤ mx)) && decide (-g ≤ w0)) && decide (w0 ≤ g)) && decide (-g ≤ w1)) && decide (w1 ≤ g)
theorem mayB_iff {mn mx g a o k n w0 w1 : Int} : mayB mn mx g a o k n w0 w1 = true ↔ MayP mn mx g a o k n w0 w1 := by
  unfold mayB MayP
  simp only [Bool.and_eq_true, decide_eq_true_eq, inQb_iff]
  constructor
  · rintro ⟨⟨⟨⟨⟨⟨⟨h1, h2, h3, h4, h5⟩, h6⟩, h7⟩, h8⟩, h9⟩, h10⟩, h11⟩; exact ⟨h1, h2, h3, h4, h5, h6, h7, h8, h9, h10, h11⟩
  · rintro ⟨h1, h2, h3, h4, h5, h6, h7, h8, h9, h10, h11⟩; exact ⟨⟨⟨⟨⟨⟨⟨h1, h2, h3, h4, h5⟩, h6⟩, h7⟩, h8⟩, h9⟩, h10⟩, h11⟩

set_option maxRecDepth 100000 in
set_option maxHeartbeats 4000000 in
theorem may_is (mn mx g a o k n y0 y1 : Int) (p : Bool) (H : Hid (mayB mn mx g a o k n y0 y1 = p)) (w : World) :
    Calls Try.prog 10 #[.agg #[.int .i64 mn, .int .i64 mx, .int .i64 g], .agg #[.int .i64 a, .int .i64 o, .int .i64 k, .int .i64 y0, .int .i64 y1, .int .i64 n]] w fun e w' => e = .returned (.bool p) ∧ Below w.heap.size w w' := by
  have hp := H.out
  clear H
  unfold mayB at hp
  obtain ⟨r, hr⟩ : ∃ r, pRight mn mx g = r := ⟨_, rfl⟩
  have HR := Lib.hid hr
  obtain ⟨q, hq⟩ : ∃ q, (inQb a && (inQb o && (inQb k && inQb n))) = q := ⟨_, rfl⟩
  rw [hr, hq] at hp
  cases r with
  | false =>
    cases hp
    clear hq
    go_enter Try.func10, Try.ntmps10
    go_wp2_with fail
    refine (rPRight_is _ _ _ _ HR _).mono ?_
    rintro e w1 ⟨rfl, hb1⟩
    have q1_1_0 : CellF w1 ⟨w.heap.size, 0, none⟩ (.int .i64 mn) := (by refine CellF.keep hb1 ?_; (first | ((repeat (first | with_reducible exact CellF.at_ (by simp) rfl | with_reducible refine CellF.past _ ?_ | with_reducible refine CellF.drew ?_ | with_reducible refine CellF.drewN _ ?_)); done) | (refine ⟨?_, ?_⟩ <;> go_simp)))
    have c1_1_0 := q1_1_0.1
    have q1_1_1 : CellF w1 ⟨w.heap.size, 1, none⟩ (.int .i64 mx) := (by refine CellF.keep hb1 ?_; (first | ((repeat (first | with_reducible exact CellF.at_ (by simp) rfl | with_reducible refine CellF.past _ ?_ | with_reducible refine CellF.drew ?_ | with_reducible refine CellF.drewN _ ?_)); done) | (refine ⟨?_, ?_⟩ <;> go_simp)))
    have c1_1_1 := q1_1_1.1
    have q1_1_2 : CellF w1 ⟨w.heap.size, 2, none⟩ (.int .i64 g) := (by refine CellF.keep hb1 ?_; (first | ((repeat (first | with_reducible exact CellF.at_ (by simp) rfl | with_reducible refine CellF.past _ ?_ | with_reducible refine CellF.drew ?_ | with_reducible refine CellF.drewN _ ?_)); done) | (refine ⟨?_, ?_⟩ <;> go_simp)))
    have c1_1_2 := q1_1_2.1
    have z1_1 : w.heap.size < w1.heap.size := ltc c1_1_0
    have q1_2_0 : CellF w1 ⟨(w.heap.size + 1), 0, none⟩ (.int .i64 a) := (by refine CellF.keep hb1 ?_; (first | ((repeat (first | with_reducible exact CellF.at_ (by simp) rfl | with_reducible refine CellF.past _ ?_ | with_reducible refine CellF.drew ?_ | with_reducible refine CellF.drewN _ ?_)); done) | (refine ⟨?_, ?_⟩ <;> go_simp)))
    have c1_2_0 := q1_2_0.1
    have q1_2_1 : CellF w1 ⟨(w.heap.size + 1), 1, none⟩ (.int .i64 o) := (by refine CellF.keep hb1 ?_; (first | ((repeat (first | with_reducible exact CellF.at_ (by simp) rfl | with_reducible refine CellF.past _ ?_ | with_reducible refine CellF.drew ?_ | with_reducible refine CellF.drewN _ ?_)); done) | (refine ⟨?_, ?_⟩ <;> go_simp)))
    have c1_2_1 := q1_2_1.1
    have q1_2_2 : CellF w1 ⟨(w.heap.size + 1), 2, none⟩ (.int .i64 k) := (by refine CellF.keep hb1 ?_; (first | ((repeat (first | with_reducible exact CellF.at_ (by simp) rfl | with_reducible refine CellF.past _ ?_ | with_reducible refine CellF.drew ?_ | with_reducible refine CellF.drewN _ ?_)); done) | (refine ⟨?_, ?_⟩ <;> go_simp)))
    have c1_2_2 := q1_2_2.1
    have q1_2_3 : CellF w1 ⟨(w.heap.size + 1), 3, none⟩ (.int .i64 y0) := (by refine CellF.keep hb1 ?_; (first | ((repeat (first | with_reducible exact CellF.at_ (by simp) rfl | with_reducible refine CellF.past _ ?_ | with_reducible refine CellF.drew ?_ | with_reducible refine CellF.drewN _ ?_)); done) | (refine ⟨?_, ?_⟩ <;> go_simp)))
    have c1_2_3 := q1_2_3.1
    have q1_2_4 : CellF w1 ⟨(w.heap.size + 1), 4, none⟩ (.int .i64 y1) := (by refine CellF.keep hb1 ?_; (first | ((repeat (first | with_reducible exact CellF.at_ (by simp) rfl | with_reducible refine CellF.past _ ?_ | with_reducible refine CellF.drew ?_ | with_reducible refine CellF.drewN _ ?_)); done) | (refine ⟨?_, ?_⟩ <;> go_simp)))
    have c1_2_4 := q1_2_4.1
    have q1_2_5 : CellF w1 ⟨(w.heap.size + 1), 5, none⟩ (.int .i64 n) := (by refine CellF.keep hb1 ?_; (first | ((repeat (first | with_reducible exact CellF.at_ (by simp) rfl | with_reducible refine CellF.past _ ?_ | with_reducible refine CellF.drew ?_ | with_reducible refine CellF.drewN _ ?_)); done) | (refine ⟨?_, ?_⟩ <;> go_simp)))
    have c1_2_5 := q1_2_5.1
    have z1_2 : (w.heap.size + 1) < w1.heap.size := ltc c1_2_0
    all_goals (go_wp2; go_ret; exact ⟨rfl, (by repeat (first | exact brefl _ | refine balloc ?_ _ | refine bdrewN ?_ _ | refine bset ?_ (by dsimp only; omega) _ | refine bstep ?_ (by assumption)))⟩)
  | true =>
    cases q with
    | false =>
      cases hp
      clear hr
      go_enter Try.func10, Try.ntmps10
      go_wp2_with fail
      refine (rPRight_is _ _ _ _ HR _).mono ?_
      rintro e w1 ⟨rfl, hb1⟩
      have q1_1_0 : CellF w1 ⟨w.heap.size, 0, none⟩ (.int .i64 mn) := (by refine CellF.keep hb1 ?_; (first | ((repeat (first | with_reducible exact CellF.at_ (by simp) rfl | with_reducible refine CellF.past _ ?_ | with_reducible refine CellF.drew ?_ | with_reducible refine CellF.drewN _ ?_)); done) | (refine ⟨?_, ?_⟩ <;> go_simp)))
      have c1_1_0 := q1_1_0.1
      have q1_1_1 : CellF w1 ⟨w.heap.size, 1, none⟩ (.int .i64 mx) := (by refine CellF.keep hb1 ?_; (first | ((repeat (first | with_reducible exact CellF.at_ (by simp) rfl | with_reducible refine CellF.past _ ?_ | with_reducible refine CellF.drew ?_ | with_reducible refine CellF.drewN _ ?_)); done) | (refine ⟨?_, ?_⟩ <;> go_simp)))
      have c1_1_1 := q1_1_1.1
      have q1_1_2 : CellF w1 ⟨w.heap.size, 2, none⟩ (.int .i64 g) := (by refine CellF.keep hb1 ?_; (first | ((repeat (first | with_reducible exact CellF.at_ (by simp) rfl | with_reducible refine CellF.past _ ?_ | with_reducible refine CellF.drew ?_ | with_reducible refine CellF.drewN _ ?_)); done) | (refine ⟨?_, ?_⟩ <;> go_simp)))
      have c1_1_2 := q1_1_2.1
      have z1_1 : w.heap.size < w1.heap.size := ltc c1_1_0
      have q1_2_0 : CellF w1 ⟨(w.heap.size + 1), 0, none⟩ (.int .i64 a) := (by refine CellF.keep hb1 ?_; (first | ((repeat (first | with_reducible exact CellF.at_ (by simp) rfl | with_reducible refine CellF.past _ ?_ | with_reducible refine CellF.drew ?_ | with_reducible refine CellF.drewN _ ?_)); done) | (refine ⟨?_, ?_⟩ <;> go_simp)))
      have c1_2_0 := q1_2_0.1
      have q1_2_1 : CellF w1 ⟨(w.heap.size + 1), 1, none⟩ (.int .i64 o) := (by refine CellF.keep hb1 ?_; (first | ((repeat (first | with_reducible exact CellF.at_ (by simp) rfl | with_reducible refine CellF.past _ ?_ | with_reducible refine CellF.drew ?_ | with_reducible refine CellF.drewN _ ?_)); done) | (refine ⟨?_, ?_⟩ <;> go_simp)))
      have c1_2_1 := q1_2_1.1
      have q1_2_2 : CellF w1 ⟨(w.heap.size + 1), 2, none⟩ (.int .i64 k) := (by refine CellF.keep hb1 ?_; (first | ((repeat (first | with_reducible exact CellF.at_ (by simp) rfl | with_reducible refine CellF.past _ ?_ | with_reducible refine CellF.drew ?_ | with_reducible refine CellF.drewN _ ?_)); done) | (refine ⟨?_, ?_⟩ <;> go_simp)))
      have c1_2_2 := q1_2_2.1
      have q1_2_3 : CellF w1 ⟨(w.heap.size + 1), 3, none⟩ (.int .i64 y0) := (by refine CellF.keep hb1 ?_; (first | ((repeat (first | with_reducible exact CellF.at_ (by simp) rfl | with_reducible refine CellF.past _ ?_ | with_reducible refine CellF.drew ?_ | with_reducible refine CellF.drewN _ ?_)); done) | (refine ⟨?_, ?_⟩ <;> go_simp)))
      have c1_2_3 := q1_2_3.1
      have q1_2_4 : CellF w1 ⟨(w.heap.size + 1), 4, none⟩ (.int .i64 y1) := (by refine CellF.keep hb1 ?_; (first | ((repeat (first | with_reducible exact CellF.at_ (by simp) rfl | with_reducible refine CellF.past _ ?_ | with_reducible refine CellF.drew ?_ | with_reducible refine CellF.drewN _ ?_)); done) | (refine ⟨?_, ?_⟩ <;> go_simp)))
      have c1_2_4 := q1_2_4.1
      have q1_2_5 : CellF w1 ⟨(w.heap.size + 1), 5, none⟩ (.int .i64 n) := (by refine CellF.keep hb1 ?_; (first | ((repeat (first | with_reducible exact CellF.at_ (by simp) rfl | with_reducible refine CellF.past _ ?_ | with_reducible refine CellF.drew ?_ | with_reducible refine CellF.drewN _ ?_)); done) | (refine ⟨?_, ?_⟩ <;> go_simp)))
      have c1_2_5 := q1_2_5.1
      have z1_2 : (w.heap.size + 1) < w1.heap.size := ltc c1_2_0
      go_wp2_with fail
      refine (smallQ4 _ _ _ _ _ hq _ _ (by go_simp) (by go_simp) (by go_simp) (by go_simp)).mono ?_
      rintro e _ ⟨rfl, rfl⟩
      all_goals (go_wp2; go_ret; exact ⟨rfl, (by repeat (first | exact brefl _ | refine balloc ?_ _ | refine bdrewN ?_ _ | refine bset ?_ (by dsimp only; omega) _ | refine bstep ?_ (by assumption)))⟩)
    | true =>
      obtain ⟨g0, g1⟩ : 0 ≤ g ∧ g ≤ 1000000000 := (pRight_iff.1 hr).2.2.2
      clear hr
      by_cases h0 : mn ≤ k
      ·
        rw [decide_eq_true h0] at hp
        by_cases h1 : k ≤ mx
        ·
          rw [decide_eq_true h1] at hp
          by_cases h2 : -g ≤ y0
          ·
            rw [decide_eq_true h2] at hp
            by_cases h3 : y0 ≤ g
            ·
              rw [decide_eq_true h3] at hp
              by_cases h4 : -g ≤ y1
              ·
                rw [decide_eq_true h4] at hp
                by_cases h5 : y1 ≤ g
                ·
                  rw [decide_eq_true h5] at hp
                  cases hp
                  go_enter Try.func10, Try.ntmps10
                  go_wp2_with fail
                  refine (rPRight_is _ _ _ _ HR _).mono ?_
                  rintro e w1 ⟨rfl, hb1⟩
                  have q1_1_0 : CellF w1 ⟨w.heap.size, 0, none⟩ (.int .i64 mn) := (by refine CellF.keep hb1 ?_; (first | ((repeat (first | with_reducible exact CellF.at_ (by simp) rfl | with_reducible refine CellF.past _ ?_ | with_reducible refine CellF.drew ?_ | with_reducible refine CellF.drewN _ ?_)); done) | (refine ⟨?_, ?_⟩ <;> go_simp)))
                  have c1_1_0 := q1_1_0.1
                  have q1_1_1 : CellF w1 ⟨w.heap.size, 1, none⟩ (.int .i64 mx) := (by refine CellF.keep hb1 ?_; (first | ((repeat (first | with_reducible exact CellF.at_ (by simp) rfl | with_reducible refine CellF.past _ ?_ | with_reducible refine CellF.drew ?_ | with_reducible refine CellF.drewN _ ?_)); done) | (refine ⟨?_, ?_⟩ <;> go_simp)))
                  have c1_1_1 := q1_1_1.1
                  have q1_1_2 : CellF w1 ⟨w.heap.size, 2, none⟩ (.int .i64 g) := (by refine CellF.keep hb1 ?_; (first | ((repeat (first | with_reducible exact CellF.at_ (by simp) rfl | with_reducible refine CellF.past _ ?_ | with_reducible refine CellF.drew ?_ | with_reducible refine CellF.drewN _ ?_)); done) | (refine ⟨?_, ?_⟩ <;> go_simp)))
                  have c1_1_2 := q1_1_2.1
                  have z1_1 : w.heap.size < w1.heap.size := ltc c1_1_0
                  have q1_2_0 : CellF w1 ⟨(w.heap.size + 1), 0, none⟩ (.int .i64 a) := (by refine CellF.keep hb1 ?_; (first | ((repeat (first | with_reducible exact CellF.at_ (by simp) rfl | with_reducible refine CellF.past _ ?_ | with_reducible refine CellF.drew ?_ | with_reducible refine CellF.drewN _ ?_)); done) | (refine ⟨?_, ?_⟩ <;> go_simp)))
                  have c1_2_0 := q1_2_0.1
                  have q1_2_1 : CellF w1 ⟨(w.heap.size + 1), 1, none⟩ (.int .i64 o) := (by refine CellF.keep hb1 ?_; (first | ((repeat (first | with_reducible exact CellF.at_ (by simp) rfl | with_reducible refine CellF.past _ ?_ | with_reducible refine CellF.drew ?_ | with_reducible refine CellF.drewN _ ?_)); done) | (refine ⟨?_, ?_⟩ <;> go_simp)))
                  have c1_2_1 := q1_2_1.1
                  have q1_2_2 : CellF w1 ⟨(w.heap.size + 1), 2, none⟩ (.int .i64 k) := (by refine CellF.keep hb1 ?_; (first | ((repeat (first | with_reducible exact CellF.at_ (by simp) rfl | with_reducible refine CellF.past _ ?_ | with_reducible refine CellF.drew ?_ | with_reducible refine CellF.drewN _ ?_)); done) | (refine ⟨?_, ?_⟩ <;> go_simp)))
                  have c1_2_2 := q1_2_2.1
                  have q1_2_3 : CellF w1 ⟨(w.heap.size + 1), 3, none⟩ (.int .i64 y0) := (by refine CellF.keep hb1 ?_; (first | ((repeat (first | with_reducible exact CellF.at_ (by simp) rfl | with_reducible refine CellF.past _ ?_ | with_reducible refine CellF.drew ?_ | with_reducible refine CellF.drewN _ ?_)); done) | (refine ⟨?_, ?_⟩ <;> go_simp)))
                  have c1_2_3 := q1_2_3.1
                  have q1_2_4 : CellF w1 ⟨(w.heap.size + 1), 4, none⟩ (.int .i64 y1) := (by refine CellF.keep hb1 ?_; (first | ((repeat (first | with_reducible exact CellF.at_ (by simp) rfl | with_reducible refine CellF.past _ ?_ | with_reducible refine CellF.drew ?_ | with_reducible refine CellF.drewN _ ?_)); done) | (refine ⟨?_, ?_⟩ <;> go_simp)))
                  have c1_2_4 := q1_2_4.1
                  have q1_2_5 : CellF w1 ⟨(w.heap.size + 1), 5, none⟩ (.int .i64 n) := (by refine CellF.keep hb1 ?_; (first | ((repeat (first | with_reducible exact CellF.at_ (by simp) rfl | with_reducible refine CellF.past _ ?_ | with_reducible refine CellF.drew ?_ | with_reducible refine CellF.drewN _ ?_)); done) | (refine ⟨?_, ?_⟩ <;> go_simp)))
                  have c1_2_5 := q1_2_5.1
                  have z1_2 : (w.heap.size + 1) < w1.heap.size := ltc c1_2_0
                  go_wp2_with fail
                  refine (smallQ4 _ _ _ _ _ hq _ _ (by go_simp) (by go_simp) (by go_simp) (by go_simp)).mono ?_
                  rintro e _ ⟨rfl, rfl⟩
                  all_goals (go_wp2; go_ret; exact ⟨rfl, (by repeat (first | exact brefl _ | refine balloc ?_ _ | refine bdrewN ?_ _ | refine bset ?_ (by dsimp only; omega) _ | refine bstep ?_ (by assumption)))⟩)
                ·
                  rw [decide_eq_false h5] at hp
                  cases hp
                  have nd := decide_eq_false h5
                  go_enter Try.func10, Try.ntmps10
                  go_wp2_with fail
                  refine (rPRight_is _ _ _ _ HR _).mono ?_
                  rintro e w1 ⟨rfl, hb1⟩
                  have q1_1_0 : CellF w1 ⟨w.heap.size, 0, none⟩ (.int .i64 mn) := (by refine CellF.keep hb1 ?_; (first | ((repeat (first | with_reducible exact CellF.at_ (by simp) rfl | with_reducible refine CellF.past _ ?_ | with_reducible refine CellF.drew ?_ | with_reducible refine CellF.drewN _ ?_)); done) | (refine ⟨?_, ?_⟩ <;> go_simp)))
                  have c1_1_0 := q1_1_0.1
                  have q1_1_1 : CellF w1 ⟨w.heap.size, 1, none⟩ (.int .i64 mx) := (by refine CellF.keep hb1 ?_; (first | ((repeat (first | with_reducible exact CellF.at_ (by simp) rfl | with_reducible refine CellF.past _ ?_ | with_reducible refine CellF.drew ?_ | with_reducible refine CellF.drewN _ ?_)); done) | (refine ⟨?_, ?_⟩ <;> go_simp)))
                  have c1_1_1 := q1_1_1.1
                  have q1_1_2 : CellF w1 ⟨w.heap.size, 2, none⟩ (.int .i64 g) := (by refine CellF.keep hb1 ?_; (first | ((repeat (first | with_reducible exact CellF.at_ (by simp) rfl | with_reducible refine CellF.past _ ?_ | with_reducible refine CellF.drew ?_ | with_reducible refine CellF.drewN _ ?_)); done) | (refine ⟨?_, ?_⟩ <;> go_simp)))
                  have c1_1_2 := q1_1_2.1
                  have z1_1 : w.heap.size < w1.heap.size := ltc c1_1_0
                  have q1_2_0 : CellF w1 ⟨(w.heap.size + 1), 0, none⟩ (.int .i64 a) := (by refine CellF.keep hb1 ?_; (first | ((repeat (first | with_reducible exact CellF.at_ (by simp) rfl | with_reducible refine CellF.past _ ?_ | with_reducible refine CellF.drew ?_ | with_reducible refine CellF.drewN _ ?_)); done) | (refine ⟨?_, ?_⟩ <;> go_simp)))
                  have c1_2_0 := q1_2_0.1
                  have q1_2_1 : CellF w1 ⟨(w.heap.size + 1), 1, none⟩ (.int .i64 o) := (by refine CellF.keep hb1 ?_; (first | ((repeat (first | with_reducible exact CellF.at_ (by simp) rfl | with_reducible refine CellF.past _ ?_ | with_reducible refine CellF.drew ?_ | with_reducible refine CellF.drewN _ ?_)); done) | (refine ⟨?_, ?_⟩ <;> go_simp)))
                  have c1_2_1 := q1_2_1.1
                  have q1_2_2 : CellF w1 ⟨(w.heap.size + 1), 2, none⟩ (.int .i64 k) := (by refine CellF.keep hb1 ?_; (first | ((repeat (first | with_reducible exact CellF.at_ (by simp) rfl | with_reducible refine CellF.past _ ?_ | with_reducible refine CellF.drew ?_ | with_reducible refine CellF.drewN _ ?_)); done) | (refine ⟨?_, ?_⟩ <;> go_simp)))
                  have c1_2_2 := q1_2_2.1
                  have q1_2_3 : CellF w1 ⟨(w.heap.size + 1), 3, none⟩ (.int .i64 y0) := (by refine CellF.keep hb1 ?_; (first | ((repeat (first | with_reducible exact CellF.at_ (by simp) rfl | with_reducible refine CellF.past _ ?_ | with_reducible refine CellF.drew ?_ | with_reducible refine CellF.drewN _ ?_)); done) | (refine ⟨?_, ?_⟩ <;> go_simp)))
                  have c1_2_3 := q1_2_3.1
                  have q1_2_4 : CellF w1 ⟨(w.heap.size + 1), 4, none⟩ (.int .i64 y1) := (by refine CellF.keep hb1 ?_; (first | ((repeat (first | with_reducible exact CellF.at_ (by simp) rfl | with_reducible refine CellF.past _ ?_ | with_reducible refine CellF.drew ?_ | with_reducible refine CellF.drewN _ ?_)); done) | (refine ⟨?_, ?_⟩ <;> go_simp)))
                  have c1_2_4 := q1_2_4.1
                  have q1_2_5 : CellF w1 ⟨(w.heap.size + 1), 5, none⟩ (.int .i64 n) := (by refine CellF.keep hb1 ?_; (first | ((repeat (first | with_reducible exact CellF.at_ (by simp) rfl | with_reducible refine CellF.past _ ?_ | with_reducible refine CellF.drew ?_ | with_reducible refine CellF.drewN _ ?_)); done) | (refine ⟨?_, ?_⟩ <;> go_simp)))
                  have c1_2_5 := q1_2_5.1
                  have z1_2 : (w.heap.size + 1) < w1.heap.size := ltc c1_2_0
                  go_wp2_with fail
                  refine (smallQ4 _ _ _ _ _ hq _ _ (by go_simp) (by go_simp) (by go_simp) (by go_simp)).mono ?_
                  rintro e _ ⟨rfl, rfl⟩
                  all_goals (go_wp2; go_ret; exact ⟨rfl, (by repeat (first | exact brefl _ | refine balloc ?_ _ | refine bdrewN ?_ _ | refine bset ?_ (by dsimp only; omega) _ | refine bstep ?_ (by assumption)))⟩)
              ·
                rw [decide_eq_false h4] at hp
                cases hp
                have nd := decide_eq_false h4
                go_enter Try.func10, Try.ntmps10
                go_wp2_with fail
                refine (rPRight_is _ _ _ _ HR _).mono ?_
                rintro e w1 ⟨rfl, hb1⟩
                have q1_1_0 : CellF w1 ⟨w.heap.size, 0, none⟩ (.int .i64 mn) := (by refine CellF.keep hb1 ?_; (first | ((repeat (first | with_reducible exact CellF.at_ (by simp) rfl | with_reducible refine CellF.past _ ?_ | with_reducible refine CellF.drew ?_ | with_reducible refine CellF.drewN _ ?_)); done) | (refine ⟨?_, ?_⟩ <;> go_simp)))
                have c1_1_0 := q1_1_0.1
                have q1_1_1 : CellF w1 ⟨w.heap.size, 1, none⟩ (.int .i64 mx) := (by refine CellF.keep hb1 ?_; (first | ((repeat (first | with_reducible exact CellF.at_ (by simp) rfl | with_reducible refine CellF.past _ ?_ | with_reducible refine CellF.drew ?_ | with_reducible refine CellF.drewN _ ?_)); done) | (refine ⟨?_, ?_⟩ <;> go_simp)))
                have c1_1_1 := q1_1_1.1
                have q1_1_2 : CellF w1 ⟨w.heap.size, 2, none⟩ (.int .i64 g) := (by refine CellF.keep hb1 ?_; (first | ((repeat (first | with_reducible exact CellF.at_ (by simp) rfl | with_reducible refine CellF.past _ ?_ | with_reducible refine CellF.drew ?_ | with_reducible refine CellF.drewN _ ?_)); done) | (refine ⟨?_, ?_⟩ <;> go_simp)))
                have c1_1_2 := q1_1_2.1
                have z1_1 : w.heap.size < w1.heap.size := ltc c1_1_0
                have q1_2_0 : CellF w1 ⟨(w.heap.size + 1), 0, none⟩ (.int .i64 a) := (by refine CellF.keep hb1 ?_; (first | ((repeat (first | with_reducible exact CellF.at_ (by simp) rfl | with_reducible refine CellF.past _ ?_ | with_reducible refine CellF.drew ?_ | with_reducible refine CellF.drewN _ ?_)); done) | (refine ⟨?_, ?_⟩ <;> go_simp)))
                have c1_2_0 := q1_2_0.1
                have q1_2_1 : CellF w1 ⟨(w.heap.size + 1), 1, none⟩ (.int .i64 o) := (by refine CellF.keep hb1 ?_; (first | ((repeat (first | with_reducible exact CellF.at_ (by simp) rfl | with_reducible refine CellF.past _ ?_ | with_reducible refine CellF.drew ?_ | with_reducible refine CellF.drewN _ ?_)); done) | (refine ⟨?_, ?_⟩ <;> go_simp)))
                have c1_2_1 := q1_2_1.1
                have q1_2_2 : CellF w1 ⟨(w.heap.size + 1), 2, none⟩ (.int .i64 k) := (by refine CellF.keep hb1 ?_; (first | ((repeat (first | with_reducible exact CellF.at_ (by simp) rfl | with_reducible refine CellF.past _ ?_ | with_reducible refine CellF.drew ?_ | with_reducible refine CellF.drewN _ ?_)); done) | (refine ⟨?_, ?_⟩ <;> go_simp)))
                have c1_2_2 := q1_2_2.1
                have q1_2_3 : CellF w1 ⟨(w.heap.size + 1), 3, none⟩ (.int .i64 y0) := (by refine CellF.keep hb1 ?_; (first | ((repeat (first | with_reducible exact CellF.at_ (by simp) rfl | with_reducible refine CellF.past _ ?_ | with_reducible refine CellF.drew ?_ | with_reducible refine CellF.drewN _ ?_)); done) | (refine ⟨?_, ?_⟩ <;> go_simp)))
                have c1_2_3 := q1_2_3.1
                have q1_2_4 : CellF w1 ⟨(w.heap.size + 1), 4, none⟩ (.int .i64 y1) := (by refine CellF.keep hb1 ?_; (first | ((repeat (first | with_reducible exact CellF.at_ (by simp) rfl | with_reducible refine CellF.past _ ?_ | with_reducible refine CellF.drew ?_ | with_reducible refine CellF.drewN _ ?_)); done) | (refine ⟨?_, ?_⟩ <;> go_simp)))
                have c1_2_4 := q1_2_4.1
                have q1_2_5 : CellF w1 ⟨(w.heap.size + 1), 5, none⟩ (.int .i64 n) := (by refine CellF.keep hb1 ?_; (first | ((repeat (first | with_reducible exact CellF.at_ (by simp) rfl | with_reducible refine CellF.past _ ?_ | with_reducible refine CellF.drew ?_ | with_reducible refine CellF.drewN _ ?_)); done) | (refine ⟨?_, ?_⟩ <;> go_simp)))
                have c1_2_5 := q1_2_5.1
                have z1_2 : (w.heap.size + 1) < w1.heap.size := ltc c1_2_0
                go_wp2_with fail
                refine (smallQ4 _ _ _ _ _ hq _ _ (by go_simp) (by go_simp) (by go_simp) (by go_simp)).mono ?_
                rintro e _ ⟨rfl, rfl⟩
                all_goals (go_wp2; go_ret; exact ⟨rfl, (by repeat (first | exact brefl _ | refine balloc ?_ _ | refine bdrewN ?_ _ | refine bset ?_ (by dsimp only; omega) _ | refine bstep ?_ (by assumption)))⟩)
            ·
              rw [decide_eq_false h3] at hp
              cases hp
              have nd := decide_eq_false h3
              go_enter Try.func10, Try.ntmps10
              go_wp2_with fail
              refine (rPRight_is _ _ _ _ HR _).mono ?_
              rintro e w1 ⟨rfl, hb1⟩
              have q1_1_0 : CellF w1 ⟨w.heap.size, 0, none⟩ (.int .i64 mn) := (by refine CellF.keep hb1 ?_; (first | ((repeat (first | with_reducible exact CellF.at_ (by simp) rfl | with_reducible refine CellF.past _ ?_ | with_reducible refine CellF.drew ?_ | with_reducible refine CellF.drewN _ ?_)); done) | (refine ⟨?_, ?_⟩ <;> go_simp)))
              have c1_1_0 := q1_1_0.1
              have q1_1_1 : CellF w1 ⟨w.heap.size, 1, none⟩ (.int .i64 mx) := (by refine CellF.keep hb1 ?_; (first | ((repeat (first | with_reducible exact CellF.at_ (by simp) rfl | with_reducible refine CellF.past _ ?_ | with_reducible refine CellF.drew ?_ | with_reducible refine CellF.drewN _ ?_)); done) | (refine ⟨?_, ?_⟩ <;> go_simp)))
              have c1_1_1 := q1_1_1.1
              have q1_1_2 : CellF w1 ⟨w.heap.size, 2, none⟩ (.int .i64 g) := (by refine CellF.keep hb1 ?_; (first | ((repeat (first | with_reducible exact CellF.at_ (by simp) rfl | with_reducible refine CellF.past _ ?_ | with_reducible refine CellF.drew ?_ | with_reducible refine CellF.drewN _ ?_)); done) | (refine ⟨?_, ?_⟩ <;> go_simp)))
              have c1_1_2 := q1_1_2.1
              have z1_1 : w.heap.size < w1.heap.size := ltc c1_1_0
              have q1_2_0 : CellF w1 ⟨(w.heap.size + 1), 0, none⟩ (.int .i64 a) := (by refine CellF.keep hb1 ?_; (first | ((repeat (first | with_reducible exact CellF.at_ (by simp) rfl | with_reducible refine CellF.past _ ?_ | with_reducible refine CellF.drew ?_ | with_reducible refine CellF.drewN _ ?_)); done) | (refine ⟨?_, ?_⟩ <;> go_simp)))
              have c1_2_0 := q1_2_0.1
              have q1_2_1 : CellF w1 ⟨(w.heap.size + 1), 1, none⟩ (.int .i64 o) := (by refine CellF.keep hb1 ?_; (first | ((repeat (first | with_reducible exact CellF.at_ (by simp) rfl | with_reducible refine CellF.past _ ?_ | with_reducible refine CellF.drew ?_ | with_reducible refine CellF.drewN _ ?_)); done) | (refine ⟨?_, ?_⟩ <;> go_simp)))
              have c1_2_1 := q1_2_1.1
              have q1_2_2 : CellF w1 ⟨(w.heap.size + 1), 2, none⟩ (.int .i64 k) := (by refine CellF.keep hb1 ?_; (first | ((repeat (first | with_reducible exact CellF.at_ (by simp) rfl | with_reducible refine CellF.past _ ?_ | with_reducible refine CellF.drew ?_ | with_reducible refine CellF.drewN _ ?_)); done) | (refine ⟨?_, ?_⟩ <;> go_simp)))
              have c1_2_2 := q1_2_2.1
              have q1_2_3 : CellF w1 ⟨(w.heap.size + 1), 3, none⟩ (.int .i64 y0) := (by refine CellF.keep hb1 ?_; (first | ((repeat (first | with_reducible exact CellF.at_ (by simp) rfl | with_reducible refine CellF.past _ ?_ | with_reducible refine CellF.drew ?_ | with_reducible refine CellF.drewN _ ?_)); done) | (refine ⟨?_, ?_⟩ <;> go_simp)))
              have c1_2_3 := q1_2_3.1
              have q1_2_4 : CellF w1 ⟨(w.heap.size + 1), 4, none⟩ (.int .i64 y1) := (by refine CellF.keep hb1 ?_; (first | ((repeat (first | with_reducible exact CellF.at_ (by simp) rfl | with_reducible refine CellF.past _ ?_ | with_reducible refine CellF.drew ?_ | with_reducible refine CellF.drewN _ ?_)); done) | (refine ⟨?_, ?_⟩ <;> go_simp)))
              have c1_2_4 := q1_2_4.1
              have q1_2_5 : CellF w1 ⟨(w.heap.size + 1), 5, none⟩ (.int .i64 n) := (by refine CellF.keep hb1 ?_; (first | ((repeat (first | with_reducible exact CellF.at_ (by simp) rfl | with_reducible refine CellF.past _ ?_ | with_reducible refine CellF.drew ?_ | with_reducible refine CellF.drewN _ ?_)); done) | (refine ⟨?_, ?_⟩ <;> go_simp)))
              have c1_2_5 := q1_2_5.1
              have z1_2 : (w.heap.size + 1) < w1.heap.size := ltc c1_2_0
              go_wp2_with fail
              refine (smallQ4 _ _ _ _ _ hq _ _ (by go_simp) (by go_simp) (by go_simp) (by go_simp)).mono ?_
              rintro e _ ⟨rfl, rfl⟩
              all_goals (go_wp2; go_ret; exact ⟨rfl, (by repeat (first | exact brefl _ | refine balloc ?_ _ | refine bdrewN ?_ _ | refine bset ?_ (by dsimp only; omega) _ | refine bstep ?_ (by assumption)))⟩)
          ·
            rw [decide_eq_false h2] at hp
            cases hp
            have nd := decide_eq_false h2
            go_enter Try.func10, Try.ntmps10
            go_wp2_with fail
            refine (rPRight_is _ _ _ _ HR _).mono ?_
            rintro e w1 ⟨rfl, hb1⟩
            have q1_1_0 : CellF w1 ⟨w.heap.size, 0, none⟩ (.int .i64 mn) := (by refine CellF.keep hb1 ?_; (first | ((repeat (first | with_reducible exact CellF.at_ (by simp) rfl | with_reducible refine CellF.past _ ?_ | with_reducible refine CellF.drew ?_ | with_reducible refine CellF.drewN _ ?_)); done) | (refine ⟨?_, ?_⟩ <;> go_simp)))
            have c1_1_0 := q1_1_0.1
            have q1_1_1 : CellF w1 ⟨w.heap.size, 1, none⟩ (.int .i64 mx) := (by refine CellF.keep hb1 ?_; (first | ((repeat (first | with_reducible exact CellF.at_ (by simp) rfl | with_reducible refine CellF.past _ ?_ | with_reducible refine CellF.drew ?_ | with_reducible refine CellF.drewN _ ?_)); done) | (refine ⟨?_, ?_⟩ <;> go_simp)))
            have c1_1_1 := q1_1_1.1
            have q1_1_2 : CellF w1 ⟨w.heap.size, 2, none⟩ (.int .i64 g) := (by refine CellF.keep hb1 ?_; (first | ((repeat (first | with_reducible exact CellF.at_ (by simp) rfl | with_reducible refine CellF.past _ ?_ | with_reducible refine CellF.drew ?_ | with_reducible refine CellF.drewN _ ?_)); done) | (refine ⟨?_, ?_⟩ <;> go_simp)))
            have c1_1_2 := q1_1_2.1
            have z1_1 : w.heap.size < w1.heap.size := ltc c1_1_0
            have q1_2_0 : CellF w1 ⟨(w.heap.size + 1), 0, none⟩ (.int .i64 a) := (by refine CellF.keep hb1 ?_; (first | ((repeat (first | with_reducible exact CellF.at_ (by simp) rfl | with_reducible refine CellF.past _ ?_ | with_reducible refine CellF.drew ?_ | with_reducible refine CellF.drewN _ ?_)); done) | (refine ⟨?_, ?_⟩ <;> go_simp)))
            have c1_2_0 := q1_2_0.1
            have q1_2_1 : CellF w1 ⟨(w.heap.size + 1), 1, none⟩ (.int .i64 o) := (by refine CellF.keep hb1 ?_; (first | ((repeat (first | with_reducible exact CellF.at_ (by simp) rfl | with_reducible refine CellF.past _ ?_ | with_reducible refine CellF.drew ?_ | with_reducible refine CellF.drewN _ ?_)); done) | (refine ⟨?_, ?_⟩ <;> go_simp)))
            have c1_2_1 := q1_2_1.1
            have q1_2_2 : CellF w1 ⟨(w.heap.size + 1), 2, none⟩ (.int .i64 k) := (by refine CellF.keep hb1 ?_; (first | ((repeat (first | with_reducible exact CellF.at_ (by simp) rfl | with_reducible refine CellF.past _ ?_ | with_reducible refine CellF.drew ?_ | with_reducible refine CellF.drewN _ ?_)); done) | (refine ⟨?_, ?_⟩ <;> go_simp)))
            have c1_2_2 := q1_2_2.1
            have q1_2_3 : CellF w1 ⟨(w.heap.size + 1), 3, none⟩ (.int .i64 y0) := (by refine CellF.keep hb1 ?_; (first | ((repeat (first | with_reducible exact CellF.at_ (by simp) rfl | with_reducible refine CellF.past _ ?_ | with_reducible refine CellF.drew ?_ | with_reducible refine CellF.drewN _ ?_)); done) | (refine ⟨?_, ?_⟩ <;> go_simp)))
            have c1_2_3 := q1_2_3.1
            have q1_2_4 : CellF w1 ⟨(w.heap.size + 1), 4, none⟩ (.int .i64 y1) := (by refine CellF.keep hb1 ?_; (first | ((repeat (first | with_reducible exact CellF.at_ (by simp) rfl | with_reducible refine CellF.past _ ?_ | with_reducible refine CellF.drew ?_ | with_reducible refine CellF.drewN _ ?_)); done) | (refine ⟨?_, ?_⟩ <;> go_simp)))
            have c1_2_4 := q1_2_4.1
            have q1_2_5 : CellF w1 ⟨(w.heap.size + 1), 5, none⟩ (.int .i64 n) := (by refine CellF.keep hb1 ?_; (first | ((repeat (first | with_reducible exact CellF.at_ (by simp) rfl | with_reducible refine CellF.past _ ?_ | with_reducible refine CellF.drew ?_ | with_reducible refine CellF.drewN _ ?_)); done) | (refine ⟨?_, ?_⟩ <;> go_simp)))
            have c1_2_5 := q1_2_5.1
            have z1_2 : (w.heap.size + 1) < w1.heap.size := ltc c1_2_0
            go_wp2_with fail
            refine (smallQ4 _ _ _ _ _ hq _ _ (by go_simp) (by go_simp) (by go_simp) (by go_simp)).mono ?_
            rintro e _ ⟨rfl, rfl⟩
            all_goals (go_wp2; go_ret; exact ⟨rfl, (by repeat (first | exact brefl _ | refine balloc ?_ _ | refine bdrewN ?_ _ | refine bset ?_ (by dsimp only; omega) _ | refine bstep ?_ (by assumption)))⟩)
        ·
          rw [decide_eq_false h1] at hp
          cases hp
          have nd := decide_eq_false h1
          go_enter Try.func10, Try.ntmps10
          go_wp2_with fail
          refine (rPRight_is _ _ _ _ HR _).mono ?_
          rintro e w1 ⟨rfl, hb1⟩
          have q1_1_0 : CellF w1 ⟨w.heap.size, 0, none⟩ (.int .i64 mn) := (by refine CellF.keep hb1 ?_; (first | ((repeat (first | with_reducible exact CellF.at_ (by simp) rfl | with_reducible refine CellF.past _ ?_ | with_reducible refine CellF.drew ?_ | with_reducible refine CellF.drewN _ ?_)); done) | (refine ⟨?_, ?_⟩ <;> go_simp)))
          have c1_1_0 := q1_1_0.1
          have q1_1_1 : CellF w1 ⟨w.heap.size, 1, none⟩ (.int .i64 mx) := (by refine CellF.keep hb1 ?_; (first | ((repeat (first | with_reducible exact CellF.at_ (by simp) rfl | with_reducible refine CellF.past _ ?_ | with_reducible refine CellF.drew ?_ | with_reducible refine CellF.drewN _ ?_)); done) | (refine ⟨?_, ?_⟩ <;> go_simp)))
          have c1_1_1 := q1_1_1.1
          have q1_1_2 : CellF w1 ⟨w.heap.size, 2, none⟩ (.int .i64 g) := (by refine CellF.keep hb1 ?_; (first | ((repeat (first | with_reducible exact CellF.at_ (by simp) rfl | with_reducible refine CellF.past _ ?_ | with_reducible refine CellF.drew ?_ | with_reducible refine CellF.drewN _ ?_)); done) | (refine ⟨?_, ?_⟩ <;> go_simp)))
          have c1_1_2 := q1_1_2.1
          have z1_1 : w.heap.size < w1.heap.size := ltc c1_1_0
          have q1_2_0 : CellF w1 ⟨(w.heap.size + 1), 0, none⟩ (.int .i64 a) := (by refine CellF.keep hb1 ?_; (first | ((repeat (first | with_reducible exact CellF.at_ (by simp) rfl | with_reducible refine CellF.past _ ?_ | with_reducible refine CellF.drew ?_ | with_reducible refine CellF.drewN _ ?_)); done) | (refine ⟨?_, ?_⟩ <;> go_simp)))
          have c1_2_0 := q1_2_0.1
          have q1_2_1 : CellF w1 ⟨(w.heap.size + 1), 1, none⟩ (.int .i64 o) := (by refine CellF.keep hb1 ?_; (first | ((repeat (first | with_reducible exact CellF.at_ (by simp) rfl | with_reducible refine CellF.past _ ?_ | with_reducible refine CellF.drew ?_ | with_reducible refine CellF.drewN _ ?_)); done) | (refine ⟨?_, ?_⟩ <;> go_simp)))
          have c1_2_1 := q1_2_1.1
          have q1_2_2 : CellF w1 ⟨(w.heap.size + 1), 2, none⟩ (.int .i64 k) := (by refine CellF.keep hb1 ?_; (first | ((repeat (first | with_reducible exact CellF.at_ (by simp) rfl | with_reducible refine CellF.past _ ?_ | with_reducible refine CellF.drew ?_ | with_reducible refine CellF.drewN _ ?_)); done) | (refine ⟨?_, ?_⟩ <;> go_simp)))
          have c1_2_2 := q1_2_2.1
          have q1_2_3 : CellF w1 ⟨(w.heap.size + 1), 3, none⟩ (.int .i64 y0) := (by refine CellF.keep hb1 ?_; (first | ((repeat (first | with_reducible exact CellF.at_ (by simp) rfl | with_reducible refine CellF.past _ ?_ | with_reducible refine CellF.drew ?_ | with_reducible refine CellF.drewN _ ?_)); done) | (refine ⟨?_, ?_⟩ <;> go_simp)))
          have c1_2_3 := q1_2_3.1
          have q1_2_4 : CellF w1 ⟨(w.heap.size + 1), 4, none⟩ (.int .i64 y1) := (by refine CellF.keep hb1 ?_; (first | ((repeat (first | with_reducible exact CellF.at_ (by simp) rfl | with_reducible refine CellF.past _ ?_ | with_reducible refine CellF.drew ?_ | with_reducible refine CellF.drewN _ ?_)); done) | (refine ⟨?_, ?_⟩ <;> go_simp)))
          have c1_2_4 := q1_2_4.1
          have q1_2_5 : CellF w1 ⟨(w.heap.size + 1), 5, none⟩ (.int .i64 n) := (by refine CellF.keep hb1 ?_; (first | ((repeat (first | with_reducible exact CellF.at_ (by simp) rfl | with_reducible refine CellF.past _ ?_ | with_reducible refine CellF.drew ?_ | with_reducible refine CellF.drewN _ ?_)); done) | (refine ⟨?_, ?_⟩ <;> go_simp)))
          have c1_2_5 := q1_2_5.1
          have z1_2 : (w.heap.size + 1) < w1.heap.size := ltc c1_2_0
          go_wp2_with fail
          refine (smallQ4 _ _ _ _ _ hq _ _ (by go_simp) (by go_simp) (by go_simp) (by go_simp)).mono ?_
          rintro e _ ⟨rfl, rfl⟩
          all_goals (go_wp2; go_ret; exact ⟨rfl, (by repeat (first | exact brefl _ | refine balloc ?_ _ | refine bdrewN ?_ _ | refine bset ?_ (by dsimp only; omega) _ | refine bstep ?_ (by assumption)))⟩)
      ·
        rw [decide_eq_false h0] at hp
        cases hp
        have nd := decide_eq_false h0
        go_enter Try.func10, Try.ntmps10
        go_wp2_with fail
        refine (rPRight_is _ _ _ _ HR _).mono ?_
        rintro e w1 ⟨rfl, hb1⟩
        have q1_1_0 : CellF w1 ⟨w.heap.size, 0, none⟩ (.int .i64 mn) := (by refine CellF.keep hb1 ?_; (first | ((repeat (first | with_reducible exact CellF.at_ (by simp) rfl | with_reducible refine CellF.past _ ?_ | with_reducible refine CellF.drew ?_ | with_reducible refine CellF.drewN _ ?_)); done) | (refine ⟨?_, ?_⟩ <;> go_simp)))
        have c1_1_0 := q1_1_0.1
        have q1_1_1 : CellF w1 ⟨w.heap.size, 1, none⟩ (.int .i64 mx) := (by refine CellF.keep hb1 ?_; (first | ((repeat (first | with_reducible exact CellF.at_ (by simp) rfl | with_reducible refine CellF.past _ ?_ | with_reducible refine CellF.drew ?_ | with_reducible refine CellF.drewN _ ?_)); done) | (refine ⟨?_, ?_⟩ <;> go_simp)))
        have c1_1_1 := q1_1_1.1
        have q1_1_2 : CellF w1 ⟨w.heap.size, 2, none⟩ (.int .i64 g) := (by refine CellF.keep hb1 ?_; (first | ((repeat (first | with_reducible exact CellF.at_ (by simp) rfl | with_reducible refine CellF.past _ ?_ | with_reducible refine CellF.drew ?_ | with_reducible refine CellF.drewN _ ?_)); done) | (refine ⟨?_, ?_⟩ <;> go_simp)))
        have c1_1_2 := q1_1_2.1
        have z1_1 : w.heap.size < w1.heap.size := ltc c1_1_0
        have q1_2_0 : CellF w1 ⟨(w.heap.size + 1), 0, none⟩ (.int .i64 a) := (by refine CellF.keep hb1 ?_; (first | ((repeat (first | with_reducible exact CellF.at_ (by simp) rfl | with_reducible refine CellF.past _ ?_ | with_reducible refine CellF.drew ?_ | with_reducible refine CellF.drewN _ ?_)); done) | (refine ⟨?_, ?_⟩ <;> go_simp)))
        have c1_2_0 := q1_2_0.1
        have q1_2_1 : CellF w1 ⟨(w.heap.size + 1), 1, none⟩ (.int .i64 o) := (by refine CellF.keep hb1 ?_; (first | ((repeat (first | with_reducible exact CellF.at_ (by simp) rfl | with_reducible refine CellF.past _ ?_ | with_reducible refine CellF.drew ?_ | with_reducible refine CellF.drewN _ ?_)); done) | (refine ⟨?_, ?_⟩ <;> go_simp)))
        have c1_2_1 := q1_2_1.1
        have q1_2_2 : CellF w1 ⟨(w.heap.size + 1), 2, none⟩ (.int .i64 k) := (by refine CellF.keep hb1 ?_; (first | ((repeat (first | with_reducible exact CellF.at_ (by simp) rfl | with_reducible refine CellF.past _ ?_ | with_reducible refine CellF.drew ?_ | with_reducible refine CellF.drewN _ ?_)); done) | (refine ⟨?_, ?_⟩ <;> go_simp)))
        have c1_2_2 := q1_2_2.1
        have q1_2_3 : CellF w1 ⟨(w.heap.size + 1), 3, none⟩ (.int .i64 y0) := (by refine CellF.keep hb1 ?_; (first | ((repeat (first | with_reducible exact CellF.at_ (by simp) rfl | with_reducible refine CellF.past _ ?_ | with_reducible refine CellF.drew ?_ | with_reducible refine CellF.drewN _ ?_)); done) | (refine ⟨?_, ?_⟩ <;> go_simp)))
        have c1_2_3 := q1_2_3.1
        have q1_2_4 : CellF w1 ⟨(w.heap.size + 1), 4, none⟩ (.int .i64 y1) := (by refine CellF.keep hb1 ?_; (first | ((repeat (first | with_reducible exact CellF.at_ (by simp) rfl | with_reducible refine CellF.past _ ?_ | with_reducible refine CellF.drew ?_ | with_reducible refine CellF.drewN _ ?_)); done) | (refine ⟨?_, ?_⟩ <;> go_simp)))
        have c1_2_4 := q1_2_4.1
        have q1_2_5 : CellF w1 ⟨(w.heap.size + 1), 5, none⟩ (.int .i64 n) := (by refine CellF.keep hb1 ?_; (first | ((repeat (first | with_reducible exact CellF.at_ (by simp) rfl | with_reducible refine CellF.past _ ?_ | with_reducible refine CellF.drew ?_ | with_reducible refine CellF.drewN _ ?_)); done) | (refine ⟨?_, ?_⟩ <;> go_simp)))
        have c1_2_5 := q1_2_5.1
        have z1_2 : (w.heap.size + 1) < w1.heap.size := ltc c1_2_0
        go_wp2_with fail
        refine (smallQ4 _ _ _ _ _ hq _ _ (by go_simp) (by go_simp) (by go_simp) (by go_simp)).mono ?_
        rintro e _ ⟨rfl, rfl⟩
        all_goals (go_wp2; go_ret; exact ⟨rfl, (by repeat (first | exact brefl _ | refine balloc ?_ _ | refine bdrewN ?_ _ | refine bset ?_ (by dsimp only; omega) _ | refine bstep ?_ (by assumption)))⟩)
end Go.Proofs.Ytigpddhffgoioaa
