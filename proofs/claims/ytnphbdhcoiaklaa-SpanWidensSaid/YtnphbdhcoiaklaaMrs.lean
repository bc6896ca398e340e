/-
  Plain law: what the document's Scale reckons is what is scaled.
-/
import Derived.Test.YtnphbdhcoiaklaaGB
import Derived.Test.YtnphbdhcoiaklaaGF
namespace Go.Proofs.Ytnphbdhcoiaklaa
open Go.RowKit

def scF (lo hi : Int) : Nat → Int
  | 0 => lo
  | 1 => lo
  | _ => hi
def scQ (p : Int) : Nat → Int
  | 0 => 1000000000 - p
  | 1 => 1000000000 + p
  | 2 => 1000000000 - p
  | _ => 1000000000 + p
def rsL (f g : Nat → Int) : Nat → Int
  | 0 => 4611686018427387904
  | k + 1 => if (floorP (f k) (g k) 1000000000).1 < rsL f g k then (floorP (f k) (g k) 1000000000).1 else rsL f g k
def rsH (f g : Nat → Int) : Nat → Int
  | 0 => -4611686018427387904
  | k + 1 => if rsH f g k < (ceilP (f k) (g k) 1000000000).1 then (ceilP (f k) (g k) 1000000000).1 else rsH f g k
def rsG (f g : Nat → Int) : Nat → Bool
  | 0 => true
  | k + 1 => (rsG f g k && (floorP (f k) (g k) 1000000000).2) && (ceilP (f k) (g k) 1000000000).2
def rsO (f g : Nat → Int) : Nat → Sp
  | 0 => spNo
  | k + 1 => scOut (rsO f g k) (f k) (g k)

theorem rsG_more {f g : Nat → Int} {k : Nat} (h : rsG f g (k + 1) = true) : rsG f g k = true ∧ (floorP (f k) (g k) 1000000000).2 = true ∧ (ceilP (f k) (g k) 1000000000).2 = true := by
  have h : ((rsG f g k && (floorP (f k) (g k) 1000000000).2) && (ceilP (f k) (g k) 1000000000).2) = true := h
  simp only [Bool.and_eq_true] at h
  exact ⟨h.1.1, h.1.2, h.2⟩
theorem rs_all {f g : Nat → Int} : ∀ k, rsG f g (k + 1) = true → rsO f g (k + 1) = ⟨rsL f g (k + 1), rsH f g (k + 1), true⟩ ∧ smallB (rsL f g (k + 1)) = true ∧ smallB (rsH f g (k + 1)) = true ∧ rsL f g (k + 1) ≤ rsH f g (k + 1) := by
  intro k
  induction k with
  | zero =>
    intro h
    obtain ⟨_, h1, h2⟩ := rsG_more h
    have e1 := pair_true h1
    have e2 := pair_true h2
    obtain ⟨f1, _, s1⟩ := floor_fl e1
    obtain ⟨f2, s2⟩ := ceil_ce e2
    have X := smallB_iff.1 s1
    have Y := smallB_iff.1 s2
    have hf := fl_ce (f 0) (g 0)
    have hl : rsL f g 1 = (floorP (f 0) (g 0) 1000000000).1 := by
      show (if (floorP (f 0) (g 0) 1000000000).1 < 4611686018427387904 then (floorP (f 0) (g 0) 1000000000).1 else 4611686018427387904) = _
      split <;> omega
    have hh : rsH f g 1 = (ceilP (f 0) (g 0) 1000000000).1 := by
      show (if -4611686018427387904 < (ceilP (f 0) (g 0) 1000000000).1 then (ceilP (f 0) (g 0) 1000000000).1 else -4611686018427387904) = _
      split <;> omega
    rw [hl, hh]
    exact ⟨step_first e1 e2, s1, s2, by omega⟩
  | succ k ih =>
    intro h
    obtain ⟨h0, h1, h2⟩ := rsG_more h
    obtain ⟨i1, i2, i3, i4⟩ := ih h0
    obtain ⟨c, d, j1, j2, j3, j4, ⟨j5, j6, j7⟩, ⟨j8, j9, j10⟩⟩ := step_next (pair_true h1) (pair_true h2) i2 i3 i4
    have hl : rsL f g (k + 1 + 1) = c := by
      show (if (floorP (f (k + 1)) (g (k + 1)) 1000000000).1 < rsL f g (k + 1) then (floorP (f (k + 1)) (g (k + 1)) 1000000000).1 else rsL f g (k + 1)) = c
      split <;> omega
    have hh : rsH f g (k + 1 + 1) = d := by
      show (if rsH f g (k + 1) < (ceilP (f (k + 1)) (g (k + 1)) 1000000000).1 then (ceilP (f (k + 1)) (g (k + 1)) 1000000000).1 else rsH f g (k + 1)) = d
      split <;> omega
    rw [hl, hh]
    refine ⟨?_, j2, j3, j4⟩
    show scOut (rsO f g (k + 1)) (f (k + 1)) (g (k + 1)) = _
    rw [i1]; exact j1
theorem r3_scale {lo hi p : Int} (hk : spK ⟨lo, hi, true⟩ = true) (h0 : 0 ≤ p) (h9 : p ≤ 1000000000) : (if rsG (scF lo hi) (scQ p) 4 = true then spOf (rsL (scF lo hi) (scQ p) 4) (rsH (scF lo hi) (scQ p) 4) else spNo) = spScale ⟨lo, hi, true⟩ p := by
  have e : spScale ⟨lo, hi, true⟩ p = if rsG (scF lo hi) (scQ p) 4 = true then rsO (scF lo hi) (scQ p) 4 else spNo := by
    unfold spScale
    rw [if_neg (by rintro (z | z | z) <;> first | omega | (rw [hk] at z; cases z))]
    rfl
  rw [e]
  cases hg : rsG (scF lo hi) (scQ p) 4 with
  | false => rfl
  | true =>
    obtain ⟨a1, a2, a3, a4⟩ := rs_all 3 hg
    rw [if_pos rfl, if_pos rfl, a1]
    exact spOf_yes (by rw [a2, a3]; rfl) a4
theorem rsG_no {f g : Nat → Int} {k : Nat} (h : rsG f g (k + 1) = false) (hk : k + 1 ≤ 4) : rsG f g 4 = false := by
  have mono : ∀ j, rsG f g (k + 1 + j) = false := by
    intro j
    induction j with
    | zero => exact h
    | succ j ih =>
      show ((rsG f g (k + 1 + j) && _) && _) = false
      rw [ih]; rfl
  have := mono (4 - (k + 1))
  rw [show k + 1 + (4 - (k + 1)) = 4 by omega] at this
  exact this
end Go.Proofs.Ytnphbdhcoiaklaa
