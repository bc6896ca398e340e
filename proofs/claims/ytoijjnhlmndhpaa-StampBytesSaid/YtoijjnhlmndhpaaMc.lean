/-
  Plain laws of Floor and Ceil.
-/
import Derived.Test.YtoijjnhlmndhpaaMb
namespace Go.Proofs.Ytoijjnhlmndhpaa
open Go.RowKit

theorem told_bd {n x : Int} {p : Bool} (h : toldP n = (x, p)) : -4611686018427387904 ≤ x ∧ x ≤ 4611686018427387904 := by
  unfold toldP at h
  split at h
  · obtain ⟨rfl, _⟩ := Prod.mk.inj h; exact smallB_iff.1 (by assumption)
  · obtain ⟨rfl, _⟩ := Prod.mk.inj h; omega
theorem floor_bd {a b c x : Int} {p : Bool} (h : floorP a b c = (x, p)) : -4611686018427387904 ≤ x ∧ x ≤ 4611686018427387904 := by
  unfold floorP at h
  split at h
  · exact told_bd h
  · obtain ⟨rfl, _⟩ := Prod.mk.inj h; omega
theorem ceil_bd {a b c x : Int} {p : Bool} (h : ceilP a b c = (x, p)) : -4611686018427387904 ≤ x ∧ x ≤ 4611686018427387904 := by
  unfold ceilP at h
  split at h
  · exact told_bd h
  · obtain ⟨rfl, _⟩ := Prod.mk.inj h; omega
theorem add_bd {a b x : Int} {p : Bool} (h : addP a b = (x, p)) : -4611686018427387904 ≤ x ∧ x ≤ 4611686018427387904 := by
  unfold addP at h
  split at h
  · exact told_bd h
  · obtain ⟨rfl, _⟩ := Prod.mk.inj h; omega
theorem sub_bd {a b x : Int} {p : Bool} (h : subP a b = (x, p)) : -4611686018427387904 ≤ x ∧ x ≤ 4611686018427387904 := by
  unfold subP at h
  split at h
  · exact told_bd h
  · obtain ⟨rfl, _⟩ := Prod.mk.inj h; omega
theorem mul_bd' {a b x : Int} {p : Bool} (h : mulP a b = (x, p)) : -4611686018427387904 ≤ x ∧ x ≤ 4611686018427387904 := by
  unfold mulP at h
  split at h
  · exact told_bd h
  · obtain ⟨rfl, _⟩ := Prod.mk.inj h; omega

theorem told_neg {n x : Int} {p : Bool} (h : toldP n = (x, p)) : toldP (-n) = (-x, p) := by
  unfold toldP at h ⊢
  rw [smallB_neg]
  split at h
  · obtain ⟨rfl, rfl⟩ := Prod.mk.inj h; rw [if_pos (by assumption)]
  · obtain ⟨rfl, rfl⟩ := Prod.mk.inj h; rw [if_neg (by assumption)]; rfl
theorem okB_neg1 (a b c : Int) : okB (-a) b c = okB a b c := by unfold okB; rw [smallB_neg]
theorem okB_neg2 (a b c : Int) : okB a (-b) c = okB a b c := by unfold okB; rw [smallB_neg]
theorem ceil_neg1 {a b c x : Int} {p : Bool} (h : floorP a b c = (x, p)) : ceilP (-a) b c = (-x, p) := by
  unfold floorP at h
  unfold ceilP
  rw [okB_neg1]
  split at h
  · rw [if_pos (by assumption), Int.neg_mul, Int.neg_neg]; exact told_neg h
  · rw [if_neg (by assumption)]; obtain ⟨rfl, rfl⟩ := Prod.mk.inj h; rfl
theorem ceil_neg2 {a b c x : Int} {p : Bool} (h : floorP a b c = (x, p)) : ceilP a (-b) c = (-x, p) := by
  unfold floorP at h
  unfold ceilP
  rw [okB_neg2]
  split at h
  · rw [if_pos (by assumption), Int.mul_neg, Int.neg_neg]; exact told_neg h
  · rw [if_neg (by assumption)]; obtain ⟨rfl, rfl⟩ := Prod.mk.inj h; rfl
end Go.Proofs.Ytoijjnhlmndhpaa
