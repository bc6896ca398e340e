/-
  Plain spans: what each of package span's functions makes.
-/
import Derived.Test.YtklnlhphgiipjaaMc
namespace Go.Proofs.Ytklnlhphgiipjaa
open Go.RowKit

/-- A span as it stands. -/
structure Sp where
  lo : Int
  hi : Int
  kn : Bool
def spNo : Sp := ⟨0, 0, false⟩
def spOf (lo hi : Int) : Sp := if (smallB lo && smallB hi) = true ∧ lo ≤ hi then ⟨lo, hi, true⟩ else spNo
def spRight (s : Sp) : Bool := if s.kn then (smallB s.lo && smallB s.hi) && decide (s.lo ≤ s.hi) else decide (s.lo = 0) && decide (s.hi = 0)
/-- Right, and known. -/
def spK (s : Sp) : Bool := s.kn && spRight s

theorem spOf_yes {lo hi : Int} (h : (smallB lo && smallB hi) = true) (h2 : lo ≤ hi) : spOf lo hi = ⟨lo, hi, true⟩ := by unfold spOf; rw [if_pos ⟨h, h2⟩]
theorem spOf_no1 {lo hi : Int} (h : (smallB lo && smallB hi) = false) : spOf lo hi = spNo := by unfold spOf; rw [if_neg]; rintro ⟨a, _⟩; rw [h] at a; cases a
theorem spOf_no2 {lo hi : Int} (h : hi < lo) : spOf lo hi = spNo := by unfold spOf; rw [if_neg]; rintro ⟨_, b⟩; omega
theorem spK_iff {lo hi : Int} {k : Bool} : spK ⟨lo, hi, k⟩ = true ↔ k = true ∧ smallB lo = true ∧ smallB hi = true ∧ lo ≤ hi := by
  cases k <;> simp [spK, spRight, and_assoc]
theorem spK_of {lo hi x y : Int} {k : Bool} (h : spOf lo hi = ⟨x, y, k⟩) : spK ⟨x, y, k⟩ = k := by
  unfold spOf at h
  split at h
  · rename_i hh
    cases h
    simp [spK, spRight, hh.1, hh.2]
  · cases h; rfl
theorem spOf_bd {lo hi x y : Int} {k : Bool} (h : spOf lo hi = ⟨x, y, k⟩) : (-4611686018427387904 ≤ x ∧ x ≤ 4611686018427387904) ∧ (-4611686018427387904 ≤ y ∧ y ≤ 4611686018427387904) := by
  unfold spOf at h
  split at h
  · rename_i hh
    cases h
    exact ⟨smallB_iff.1 (Bool.and_eq_true_iff.1 hh.1).1, smallB_iff.1 (Bool.and_eq_true_iff.1 hh.1).2⟩
  · cases h; omega

def spHas (s : Sp) (n : Int) : Bool := !spK s || (decide (s.lo ≤ n) && decide (n ≤ s.hi))
def spWithin (s o : Sp) : Bool := !spK o || ((spK s && decide (o.lo ≤ s.lo)) && decide (s.hi ≤ o.hi))
def spWidth (s : Sp) : Int × Bool := if spK s = true then subP s.hi s.lo else (0, false)
/-- The span whose bounds are told. -/
def spMade (l h : Int × Bool) : Sp := if (l.2 && h.2) = true then spOf l.1 h.1 else spNo
def spAdd (s o : Sp) : Sp := if (spK s && spK o) = true then spMade (addP s.lo o.lo) (addP s.hi o.hi) else spNo
def spSub (s o : Sp) : Sp := if (spK s && spK o) = true then spMade (subP s.lo o.hi) (subP s.hi o.lo) else spNo
def spShift (s : Sp) (n : Int) : Sp := spAdd s (spOf n n)
def spWider (s : Sp) (low high : Int) : Sp := if low < 0 ∨ high < 0 ∨ (smallB low && smallB high) = false then spNo else spAdd s (spOf (-low) high)
def spMeet (s o : Sp) : Sp :=
  if spK s = true then (if spK o = true then spOf (if o.lo ≤ s.lo then s.lo else o.lo) (if s.hi ≤ o.hi then s.hi else o.hi) else s)
  else (if spK o = true then o else spNo)
def spHull (s o : Sp) : Sp := if (spK s && spK o) = true then spOf (if s.lo ≤ o.lo then s.lo else o.lo) (if o.hi ≤ s.hi then s.hi else o.hi) else spNo
def spDrift (s : Sp) (passed ppb : Int) : Sp := if (ceilP passed ppb 1000000000).2 = false ∨ passed < 0 ∨ ppb < 0 ∨ 1000000000 < ppb then spNo else spWider s (ceilP passed ppb 1000000000).1 (ceilP passed ppb 1000000000).1
end Go.Proofs.Ytklnlhphgiipjaa
