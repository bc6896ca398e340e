/-
  The walks of package servo's Read and Master.
-/
import Derived.Test.YtklnlhphgiipjaaVa
import Derived.Deep.RegionHeld3
namespace Go.Proofs.Ytklnlhphgiipjaa
open Go.RowKit

/-- What is known at a time, of a span that was told at a. -/
def sRead (s : Sp) (a p t : Int) : Sp := if (subP t a).2 = false ∨ s.kn = false then spNo else spDrift s (subP t a).1 p
def sMaster (s : Sp) (a p t : Int) : Sp := spShift (sRead s a p t) t

theorem Read_is (b : Nat) (lo hi : Int) (k : Bool) (a m p t x y : Int) (z : Bool) (H : Hid (sRead ⟨lo, hi, k⟩ a p t = ⟨x, y, z⟩)) (w : World) (h : SrvAt w b lo hi k a m p) :
    Calls Try.prog 13 #[.pointer (some ⟨b, 0, none⟩), .int .i64 t] w fun e w' => e = .returned (.agg #[.int .i64 x, .int .i64 y, .bool z]) ∧ Below w.heap.size w w' := by
  obtain ⟨q, i, hq⟩ : ∃ q i, subP t a = (q, i) := ⟨_, _, rfl⟩
  have hx := H.out
  unfold sRead at hx
  rw [hq] at hx
  have HQ := Lib.hid hq
  have q0 := h.1
  have q1 := h.2.1
  have q2 := h.2.2.1
  have q3 := h.2.2.2.1
  have q5 := h.2.2.2.2.2
  have c0 := q0.1
  have c1 := q1.1
  have c2 := q2.1
  have c3 := q3.1
  have c5 := q5.1
  have hlt := h.lt
  clear H h hq
  cases i with
  | false =>
    rw [if_pos (.inl rfl)] at hx
    cases hx
    go_enter Try.func13, Try.ntmps13
    go_wp2_with fail
    refine (Sub_is _ _ _ _ HQ _).mono ?_
    rintro e w1 ⟨rfl, hb1⟩
    have q1_1_0 : CellF w1 ⟨w.heap.size, 0, none⟩ (.int .i64 0) := (by refine CellF.keep hb1 ?_; refine ⟨?_, ?_⟩ <;> go_simp)
    have c1_1_0 := q1_1_0.1
    have g1_1_0 := q1_1_0.2
    have q1_1_1 : CellF w1 ⟨w.heap.size, 1, none⟩ (.int .i64 0) := (by refine CellF.keep hb1 ?_; refine ⟨?_, ?_⟩ <;> go_simp)
    have c1_1_1 := q1_1_1.1
    have g1_1_1 := q1_1_1.2
    have q1_1_2 : CellF w1 ⟨w.heap.size, 2, none⟩ (.bool false) := (by refine CellF.keep hb1 ?_; refine ⟨?_, ?_⟩ <;> go_simp)
    have c1_1_2 := q1_1_2.1
    have g1_1_2 := q1_1_2.2
    have z1_1 : w.heap.size < w1.heap.size := ltc c1_1_0
    go_wp2_with fail
    refine (Unknown_is _).mono ?_
    rintro e w2 ⟨rfl, hb2⟩
    have q2_2_0 : CellF w2 ⟨w.heap.size, 0, none⟩ (.int .i64 0) := (by first | exact CellF.keep hb2 q1_1_0 | exact CellF.keep hb2 (CellF.past _ q1_1_0) | exact CellF.keep hb2 (CellF.past _ (CellF.past _ q1_1_0)) | exact CellF.keep hb2 (CellF.drewN _ q1_1_0))
    have c2_2_0 := q2_2_0.1
    have g2_2_0 := q2_2_0.2
    have q2_2_1 : CellF w2 ⟨w.heap.size, 1, none⟩ (.int .i64 0) := (by first | exact CellF.keep hb2 q1_1_1 | exact CellF.keep hb2 (CellF.past _ q1_1_1) | exact CellF.keep hb2 (CellF.past _ (CellF.past _ q1_1_1)) | exact CellF.keep hb2 (CellF.drewN _ q1_1_1))
    have c2_2_1 := q2_2_1.1
    have g2_2_1 := q2_2_1.2
    have q2_2_2 : CellF w2 ⟨w.heap.size, 2, none⟩ (.bool false) := (by first | exact CellF.keep hb2 q1_1_2 | exact CellF.keep hb2 (CellF.past _ q1_1_2) | exact CellF.keep hb2 (CellF.past _ (CellF.past _ q1_1_2)) | exact CellF.keep hb2 (CellF.drewN _ q1_1_2))
    have c2_2_2 := q2_2_2.1
    have g2_2_2 := q2_2_2.2
    have z2_2 : w.heap.size < w2.heap.size := ltc c2_2_0
    go_wp2
    exact bodyPost_ret (v := .agg #[.int .i64 0, .int .i64 0, .bool false]) (by simp [results, Try.results13, go_sem, c2_2_0, c2_2_1, c2_2_2]) rfl ⟨rfl, (by repeat (first | exact brefl _ | refine balloc ?_ _ | refine bdrewN ?_ _ | refine bset ?_ (by dsimp only; omega) _ | refine bstep ?_ (by assumption)))⟩
  | true =>
    cases k with
    | false =>
      rw [if_pos (.inr rfl)] at hx
      cases hx
      go_enter Try.func13, Try.ntmps13
      go_wp2_with fail
      refine (Sub_is _ _ _ _ HQ _).mono ?_
      rintro e w1 ⟨rfl, hb1⟩
      have q1_1_0 : CellF w1 ⟨w.heap.size, 0, none⟩ (.int .i64 0) := (by refine CellF.keep hb1 ?_; refine ⟨?_, ?_⟩ <;> go_simp)
      have c1_1_0 := q1_1_0.1
      have g1_1_0 := q1_1_0.2
      have q1_1_1 : CellF w1 ⟨w.heap.size, 1, none⟩ (.int .i64 0) := (by refine CellF.keep hb1 ?_; refine ⟨?_, ?_⟩ <;> go_simp)
      have c1_1_1 := q1_1_1.1
      have g1_1_1 := q1_1_1.2
      have q1_1_2 : CellF w1 ⟨w.heap.size, 2, none⟩ (.bool false) := (by refine CellF.keep hb1 ?_; refine ⟨?_, ?_⟩ <;> go_simp)
      have c1_1_2 := q1_1_2.1
      have g1_1_2 := q1_1_2.2
      have z1_1 : w.heap.size < w1.heap.size := ltc c1_1_0
      have c2' : w1.cell? ⟨b, 2, none⟩ = some (.bool false) := (CellF.keep hb1 (CellF.past _ q2)).1
      go_wp2_with fail
      refine (Unknown_is _).mono ?_
      rintro e w2 ⟨rfl, hb2⟩
      have q2_2_0 : CellF w2 ⟨w.heap.size, 0, none⟩ (.int .i64 0) := (by first | exact CellF.keep hb2 q1_1_0 | exact CellF.keep hb2 (CellF.past _ q1_1_0) | exact CellF.keep hb2 (CellF.past _ (CellF.past _ q1_1_0)) | exact CellF.keep hb2 (CellF.drewN _ q1_1_0))
      have c2_2_0 := q2_2_0.1
      have g2_2_0 := q2_2_0.2
      have q2_2_1 : CellF w2 ⟨w.heap.size, 1, none⟩ (.int .i64 0) := (by first | exact CellF.keep hb2 q1_1_1 | exact CellF.keep hb2 (CellF.past _ q1_1_1) | exact CellF.keep hb2 (CellF.past _ (CellF.past _ q1_1_1)) | exact CellF.keep hb2 (CellF.drewN _ q1_1_1))
      have c2_2_1 := q2_2_1.1
      have g2_2_1 := q2_2_1.2
      have q2_2_2 : CellF w2 ⟨w.heap.size, 2, none⟩ (.bool false) := (by first | exact CellF.keep hb2 q1_1_2 | exact CellF.keep hb2 (CellF.past _ q1_1_2) | exact CellF.keep hb2 (CellF.past _ (CellF.past _ q1_1_2)) | exact CellF.keep hb2 (CellF.drewN _ q1_1_2))
      have c2_2_2 := q2_2_2.1
      have g2_2_2 := q2_2_2.2
      have z2_2 : w.heap.size < w2.heap.size := ltc c2_2_0
      go_wp2
      exact bodyPost_ret (v := .agg #[.int .i64 0, .int .i64 0, .bool false]) (by simp [results, Try.results13, go_sem, c2_2_0, c2_2_1, c2_2_2]) rfl ⟨rfl, (by repeat (first | exact brefl _ | refine balloc ?_ _ | refine bdrewN ?_ _ | refine bset ?_ (by dsimp only; omega) _ | refine bstep ?_ (by assumption)))⟩
    | true =>
      rw [if_neg (by rintro (h | h) <;> cases h)] at hx
      have HD : Hid (spDrift ⟨lo, hi, true⟩ q p = ⟨x, y, z⟩) := Lib.hid hx
      clear hx
      go_enter Try.func13, Try.ntmps13
      go_wp2_with fail
      refine (Sub_is _ _ _ _ HQ _).mono ?_
      rintro e w1 ⟨rfl, hb1⟩
      have q1_1_0 : CellF w1 ⟨w.heap.size, 0, none⟩ (.int .i64 0) := (by refine CellF.keep hb1 ?_; refine ⟨?_, ?_⟩ <;> go_simp)
      have c1_1_0 := q1_1_0.1
      have g1_1_0 := q1_1_0.2
      have q1_1_1 : CellF w1 ⟨w.heap.size, 1, none⟩ (.int .i64 0) := (by refine CellF.keep hb1 ?_; refine ⟨?_, ?_⟩ <;> go_simp)
      have c1_1_1 := q1_1_1.1
      have g1_1_1 := q1_1_1.2
      have q1_1_2 : CellF w1 ⟨w.heap.size, 2, none⟩ (.bool false) := (by refine CellF.keep hb1 ?_; refine ⟨?_, ?_⟩ <;> go_simp)
      have c1_1_2 := q1_1_2.1
      have g1_1_2 := q1_1_2.2
      have z1_1 : w.heap.size < w1.heap.size := ltc c1_1_0
      have d0 : CellF w1 ⟨b, 0, none⟩ (.int .i64 lo) := CellF.keep hb1 (CellF.past _ q0)
      have d1 : CellF w1 ⟨b, 1, none⟩ (.int .i64 hi) := CellF.keep hb1 (CellF.past _ q1)
      have d2 : CellF w1 ⟨b, 2, none⟩ (.bool true) := CellF.keep hb1 (CellF.past _ q2)
      have d5 : CellF w1 ⟨b, 5, none⟩ (.int .i64 p) := CellF.keep hb1 (CellF.past _ q5)
      have e0 := d0.1
      have e1 := d1.1
      have e2 := d2.1
      have e5 := d5.1
      have hb5 := ltc e0
      have hne : ¬ b = w.heap.size := Nat.ne_of_lt hlt
      have hne2 : ¬ w.heap.size = b := fun e => hne e.symm
      go_wp2_with fail
      go_region_held3 (fun w' => w'.cell? ⟨b, 0, none⟩ = some (.int .i64 lo) ∧ w'.cell? ⟨b, 1, none⟩ = some (.int .i64 hi) ∧ w'.cell? ⟨b, 2, none⟩ = some (.bool true) ∧ w'.cell? ⟨b, 5, none⟩ = some (.int .i64 p))
        (go_keep)
        (first | (go_at_call 34; ((with_reducible refine (Drift_is _ _ _ _ _ _ _ _ HD _).mono ?_)); rintro e w2 ⟨rfl, hb2⟩; have r0 := CellF.keep hb2 (CellF.drew d0); have r1 := CellF.keep hb2 (CellF.drew d1); have r2 := CellF.keep hb2 (CellF.drew d2); have r5 := CellF.keep hb2 (CellF.drew d5); have s0 := r0.1; have s1 := r1.1; have s2 := r2.1; have s5 := r5.1; have u0 : CellF w2 ⟨w.heap.size, 0, none⟩ (.int .i64 0) := CellF.keep hb2 (CellF.drew q1_1_0); have u1 : CellF w2 ⟨w.heap.size, 1, none⟩ (.int .i64 0) := CellF.keep hb2 (CellF.drew q1_1_1); have u2 : CellF w2 ⟨w.heap.size, 2, none⟩ (.bool false) := CellF.keep hb2 (CellF.drew q1_1_2); have v0 := u0.1; have v1 := u1.1; have v2 := u2.1; have t0 := u0.2; have t1 := u1.2; have t2 := u2.2))
      all_goals (go_wp2; exact bodyPost_ret (v := .agg #[.int .i64 x, .int .i64 y, .bool z]) (by simp [results, Try.results13, go_sem, v0, v1, v2]) rfl ⟨rfl, (by repeat (first | exact brefl _ | refine balloc ?_ _ | refine bdrewN ?_ _ | refine bset ?_ (by dsimp only; omega) _ | refine bstep ?_ (by assumption)))⟩)

theorem Master_is (b : Nat) (lo hi : Int) (k : Bool) (a m p t x y : Int) (z : Bool) (H : Hid (sMaster ⟨lo, hi, k⟩ a p t = ⟨x, y, z⟩)) (w : World) (h : SrvAt w b lo hi k a m p) :
    Calls Try.prog 14 #[.pointer (some ⟨b, 0, none⟩), .int .i64 t] w fun e w' => e = .returned (.agg #[.int .i64 x, .int .i64 y, .bool z]) ∧ Below w.heap.size w w' := by
  obtain ⟨⟨r1, r2, r3⟩, hr⟩ : ∃ s, sRead ⟨lo, hi, k⟩ a p t = s := ⟨_, rfl⟩
  have HR := Lib.hid hr
  have HX : Hid (spShift ⟨r1, r2, r3⟩ t = ⟨x, y, z⟩) := by
    have := H.out
    unfold sMaster at this
    rw [hr] at this
    exact Lib.hid this
  have hlt := h.lt
  have HS := Lib.hid h
  clear h hr H
  go_enter Try.func14, Try.ntmps14
  go_wp2_with fail
  refine (Read_is _ _ _ _ _ _ _ _ _ _ _ HR _ (SrvAt.keep (balloc (brefl _) _) HS.out)).mono ?_
  rintro e w1 ⟨rfl, hb1⟩
  have q1_1_0 : CellF w1 ⟨w.heap.size, 0, none⟩ (.int .i64 0) := (by refine CellF.keep hb1 ?_; refine ⟨?_, ?_⟩ <;> go_simp)
  have c1_1_0 := q1_1_0.1
  have g1_1_0 := q1_1_0.2
  have q1_1_1 : CellF w1 ⟨w.heap.size, 1, none⟩ (.int .i64 0) := (by refine CellF.keep hb1 ?_; refine ⟨?_, ?_⟩ <;> go_simp)
  have c1_1_1 := q1_1_1.1
  have g1_1_1 := q1_1_1.2
  have q1_1_2 : CellF w1 ⟨w.heap.size, 2, none⟩ (.bool false) := (by refine CellF.keep hb1 ?_; refine ⟨?_, ?_⟩ <;> go_simp)
  have c1_1_2 := q1_1_2.1
  have g1_1_2 := q1_1_2.2
  have z1_1 : w.heap.size < w1.heap.size := ltc c1_1_0
  go_wp2_with fail
  refine (Shift_is _ _ _ _ _ _ _ HX _).mono ?_
  rintro e w2 ⟨rfl, hb2⟩
  have q2_2_0 : CellF w2 ⟨w.heap.size, 0, none⟩ (.int .i64 0) := (by first | exact CellF.keep hb2 q1_1_0 | exact CellF.keep hb2 (CellF.past _ q1_1_0) | exact CellF.keep hb2 (CellF.past _ (CellF.past _ q1_1_0)) | exact CellF.keep hb2 (CellF.drewN _ q1_1_0))
  have c2_2_0 := q2_2_0.1
  have g2_2_0 := q2_2_0.2
  have q2_2_1 : CellF w2 ⟨w.heap.size, 1, none⟩ (.int .i64 0) := (by first | exact CellF.keep hb2 q1_1_1 | exact CellF.keep hb2 (CellF.past _ q1_1_1) | exact CellF.keep hb2 (CellF.past _ (CellF.past _ q1_1_1)) | exact CellF.keep hb2 (CellF.drewN _ q1_1_1))
  have c2_2_1 := q2_2_1.1
  have g2_2_1 := q2_2_1.2
  have q2_2_2 : CellF w2 ⟨w.heap.size, 2, none⟩ (.bool false) := (by first | exact CellF.keep hb2 q1_1_2 | exact CellF.keep hb2 (CellF.past _ q1_1_2) | exact CellF.keep hb2 (CellF.past _ (CellF.past _ q1_1_2)) | exact CellF.keep hb2 (CellF.drewN _ q1_1_2))
  have c2_2_2 := q2_2_2.1
  have g2_2_2 := q2_2_2.2
  have z2_2 : w.heap.size < w2.heap.size := ltc c2_2_0
  go_wp2
  exact bodyPost_ret (v := .agg #[.int .i64 x, .int .i64 y, .bool z]) (by simp [results, Try.results14, go_sem, c2_2_0, c2_2_1, c2_2_2]) rfl ⟨rfl, (by repeat (first | exact brefl _ | refine balloc ?_ _ | refine bdrewN ?_ _ | refine bset ?_ (by dsimp only; omega) _ | refine bstep ?_ (by assumption)))⟩
end Go.Proofs.Ytklnlhphgiipjaa
