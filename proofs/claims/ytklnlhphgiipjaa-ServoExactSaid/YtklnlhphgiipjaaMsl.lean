/-
  Plain spans: what holds of sums, differences, what is moved, what two have in common.
-/
import Derived.Test.YtklnlhphgiipjaaMq
import Derived.Test.YtklnlhphgiipjaaMd
namespace Go.Proofs.Ytklnlhphgiipjaa
open Go.RowKit

theorem sub_true {a b x : Int} (h : subP a b = (x, true)) : smallB a = true ∧ smallB b = true ∧ x = a - b ∧ smallB x = true := by
  rw [← sub_add] at h
  obtain ⟨h1, h2, h3, h4⟩ := add_true h
  rw [smallB_neg] at h2
  exact ⟨h1, h2, by omega, h4⟩
theorem add_yes {a b : Int} (ha : smallB a = true) (hb : smallB b = true) (h : smallB (a + b) = true) : addP a b = (a + b, true) := by
  unfold addP; rw [if_pos (by rw [ha, hb]; rfl), told_t h]
theorem sub_yes {a b : Int} (ha : smallB a = true) (hb : smallB b = true) (h : smallB (a - b) = true) : subP a b = (a - b, true) := by
  unfold subP; rw [if_pos (by rw [ha, hb]; rfl), told_t h]
theorem pair_true {p : Int × Bool} (h : p.2 = true) : p = (p.1, true) := by rw [← h]

theorem spHas_iff {s : Sp} {n : Int} : spHas s n = true ↔ (spK s = true → s.lo ≤ n ∧ n ≤ s.hi) := by
  unfold spHas
  cases spK s <;> simp
theorem spWithin_iff {s o : Sp} : spWithin s o = true ↔ (spK o = true → spK s = true ∧ o.lo ≤ s.lo ∧ s.hi ≤ o.hi) := by
  unfold spWithin
  cases spK o <;> simp [and_assoc]
theorem spK_no : spK spNo = false := rfl
theorem spK_kn {s : Sp} (h : spK s = true) : s.kn = true ∧ smallB s.lo = true ∧ smallB s.hi = true ∧ s.lo ≤ s.hi := spK_iff.1 h
theorem spK_mk {s : Sp} (h1 : s.kn = true) (h2 : smallB s.lo = true) (h3 : smallB s.hi = true) (h4 : s.lo ≤ s.hi) : spK s = true := spK_iff.2 ⟨h1, h2, h3, h4⟩
theorem sp_eta {s : Sp} (h : spK s = true) : s = ⟨s.lo, s.hi, true⟩ := by rw [← (spK_kn h).1]

theorem of_cases (lo hi : Int) : spOf lo hi = spNo ∨ (smallB lo = true ∧ smallB hi = true ∧ lo ≤ hi ∧ spOf lo hi = ⟨lo, hi, true⟩) := by
  unfold spOf
  split
  · rename_i h
    exact .inr ⟨(Bool.and_eq_true_iff.1 h.1).1, (Bool.and_eq_true_iff.1 h.1).2, h.2, rfl⟩
  · exact .inl rfl
theorem made_cases (l h : Int × Bool) : spMade l h = spNo ∨ (l = (l.1, true) ∧ h = (h.1, true) ∧ smallB l.1 = true ∧ smallB h.1 = true ∧ l.1 ≤ h.1 ∧ spMade l h = ⟨l.1, h.1, true⟩) := by
  unfold spMade
  split
  · rename_i hh
    obtain ⟨h1, h2⟩ := Bool.and_eq_true_iff.1 hh
    rcases of_cases l.1 h.1 with e | ⟨a, b, c, d⟩
    · exact .inl e
    · exact .inr ⟨pair_true h1, pair_true h2, a, b, c, d⟩
  · exact .inl rfl
theorem add_cases (s t : Sp) : spAdd s t = spNo ∨ (spK s = true ∧ spK t = true ∧ smallB (s.lo + t.lo) = true ∧ smallB (s.hi + t.hi) = true ∧ spAdd s t = ⟨s.lo + t.lo, s.hi + t.hi, true⟩) := by
  unfold spAdd
  split
  · rename_i hh
    obtain ⟨h1, h2⟩ := Bool.and_eq_true_iff.1 hh
    rcases made_cases (addP s.lo t.lo) (addP s.hi t.hi) with e | ⟨a, b, c, d, _, f⟩
    · exact .inl e
    · obtain ⟨_, _, x1, x2⟩ := add_true a
      obtain ⟨_, _, y1, y2⟩ := add_true b
      rw [x1] at x2; rw [y1] at y2
      exact .inr ⟨h1, h2, x2, y2, by rw [f, x1, y1]⟩
  · exact .inl rfl
theorem add_known {s t : Sp} (hs : spK s = true) (ht : spK t = true) (h1 : smallB (s.lo + t.lo) = true) (h2 : smallB (s.hi + t.hi) = true) : spAdd s t = ⟨s.lo + t.lo, s.hi + t.hi, true⟩ := by
  obtain ⟨_, a1, a2, a3⟩ := spK_kn hs
  obtain ⟨_, b1, b2, b3⟩ := spK_kn ht
  unfold spAdd spMade
  rw [if_pos (by rw [hs, ht]; rfl), add_yes a1 b1 h1, add_yes a2 b2 h2]
  show (if (true && true) = true then spOf (s.lo + t.lo) (s.hi + t.hi) else spNo) = _
  rw [if_pos (by rfl)]
  exact spOf_yes (by rw [h1, h2]; rfl) (by omega)
theorem sub_cases (s t : Sp) : spSub s t = spNo ∨ (spK s = true ∧ spK t = true ∧ smallB (s.lo - t.hi) = true ∧ smallB (s.hi - t.lo) = true ∧ spSub s t = ⟨s.lo - t.hi, s.hi - t.lo, true⟩) := by
  unfold spSub
  split
  · rename_i hh
    obtain ⟨h1, h2⟩ := Bool.and_eq_true_iff.1 hh
    rcases made_cases (subP s.lo t.hi) (subP s.hi t.lo) with e | ⟨a, b, c, d, _, f⟩
    · exact .inl e
    · obtain ⟨_, _, x1, x2⟩ := sub_true a
      obtain ⟨_, _, y1, y2⟩ := sub_true b
      rw [x1] at x2; rw [y1] at y2
      exact .inr ⟨h1, h2, x2, y2, by rw [f, x1, y1]⟩
  · exact .inl rfl

/-! SpanSums -/
theorem has_add {s t : Sp} {m n x : Int} (hs : spHas s m = true) (ht : spHas t n = true) (h : addP m n = (x, true)) : spHas (spAdd s t) x = true := by
  rcases add_cases s t with e | ⟨h1, h2, _, _, e⟩
  · rw [e]; rfl
  · rw [e, spHas_iff]
    intro _
    have a := spHas_iff.1 hs h1
    have b := spHas_iff.1 ht h2
    have c := (add_true h).2.2.1
    dsimp only; omega
theorem has_self (n : Int) : spHas (spOf n n) n = true := by
  rcases of_cases n n with e | ⟨_, _, _, e⟩
  · rw [e]; rfl
  · rw [e, spHas_iff]; intro _; dsimp only; omega
theorem has_shift {s : Sp} {m n x : Int} (hs : spHas s m = true) (h : addP m n = (x, true)) : spHas (spShift s n) x = true := has_add hs (has_self n) h
theorem has_sub {s t : Sp} {m n x : Int} (hs : spHas s m = true) (ht : spHas t n = true) (h : subP m n = (x, true)) : spHas (spSub s t) x = true := by
  rcases sub_cases s t with e | ⟨h1, h2, _, _, e⟩
  · rw [e]; rfl
  · rw [e, spHas_iff]
    intro _
    have a := spHas_iff.1 hs h1
    have b := spHas_iff.1 ht h2
    have c := (sub_true h).2.2.1
    dsimp only; omega

/-! SpanBack -/
theorem shift_cases (s : Sp) (n : Int) : spShift s n = spNo ∨ (spK s = true ∧ smallB n = true ∧ smallB (s.lo + n) = true ∧ smallB (s.hi + n) = true ∧ spShift s n = ⟨s.lo + n, s.hi + n, true⟩) := by
  unfold spShift
  rcases add_cases s (spOf n n) with e | ⟨h1, h2, h3, h4, e⟩
  · exact .inl e
  · rcases of_cases n n with k | ⟨k1, _, _, k⟩
    · rw [k] at h2; cases h2
    · rw [k] at h3 h4 e ⊢
      exact .inr ⟨h1, k1, h3, h4, e⟩
theorem shift_back {s : Sp} {n : Int} (h : (spShift s n).kn = true) : smallB n = true ∧ spShift (spShift s n) (-n) = s := by
  rcases shift_cases s n with e | ⟨h1, h2, h3, h4, e⟩
  · rw [e] at h; cases h
  · refine ⟨h2, ?_⟩
    have k := spK_kn h1
    have h2' : smallB (-n) = true := by rw [smallB_neg]; exact h2
    have e2 : spOf (-n) (-n) = ⟨-n, -n, true⟩ := spOf_yes (by rw [h2']; rfl) (Int.le_refl _)
    have a1 : s.lo + n + -n = s.lo := by omega
    have a2 : s.hi + n + -n = s.hi := by omega
    rw [e]
    unfold spShift
    rw [e2, add_known (spK_mk rfl h3 h4 (by dsimp only; omega)) (spK_mk rfl h2' h2' (Int.le_refl _)) (by dsimp only; rw [a1]; exact k.2.1) (by dsimp only; rw [a2]; exact k.2.2.1)]
    dsimp only
    rw [a1, a2]
    exact (sp_eta h1).symm
theorem add_back {s t : Sp} (h : (spAdd s t).kn = true) : spWithin s (spSub (spAdd s t) t) = true := by
  rcases add_cases s t with e | ⟨h1, h2, h3, h4, e⟩
  · rw [e] at h; cases h
  · have k := spK_kn h2
    rw [spWithin_iff, e]
    rcases sub_cases ⟨s.lo + t.lo, s.hi + t.hi, true⟩ t with f | ⟨_, _, _, _, f⟩
    · rw [f]; intro hh; cases hh
    · rw [f]; intro _; refine ⟨h1, ?_, ?_⟩ <;> dsimp only <;> omega

/-! SpanWide -/
theorem width_pos {s : Sp} {w : Int} (h : spWidth s = (w, true)) : 0 ≤ w := by
  unfold spWidth at h
  split at h
  · rename_i hk
    have := spK_kn hk
    have := (sub_true h).2.2.1
    omega
  · cases h
theorem width_shift {s : Sp} {n : Int} (h : (spShift s n).kn = true) : spWidth (spShift s n) = spWidth s := by
  rcases shift_cases s n with e | ⟨h1, _, h3, h4, e⟩
  · rw [e] at h; cases h
  · have k := spK_kn h1
    have k2 : spK ⟨s.lo + n, s.hi + n, true⟩ = true := spK_mk rfl h3 h4 (by dsimp only; omega)
    rw [e]
    unfold spWidth subP
    rw [if_pos k2, if_pos h1]
    dsimp only
    rw [if_pos (by rw [h3, h4]; rfl), if_pos (by rw [k.2.1, k.2.2.1]; rfl)]
    congr 1; omega
theorem width_add {s t : Sp} {w v : Int} (h : (spAdd s t).kn = true) (hw : spWidth s = (w, true)) (hv : spWidth t = (v, true)) : spWidth (spAdd s t) = addP w v := by
  rcases add_cases s t with e | ⟨h1, h2, h3, h4, e⟩
  · rw [e] at h; cases h
  · have k := spK_kn h1
    have l := spK_kn h2
    have k2 : spK ⟨s.lo + t.lo, s.hi + t.hi, true⟩ = true := spK_mk rfl h3 h4 (by dsimp only; omega)
    rw [e]
    unfold spWidth at *
    rw [if_pos h1] at hw
    rw [if_pos h2] at hv
    rw [if_pos k2]
    obtain ⟨_, _, x1, x2⟩ := sub_true hw
    obtain ⟨_, _, y1, y2⟩ := sub_true hv
    unfold subP addP
    dsimp only
    rw [if_pos (by rw [h3, h4]; rfl), if_pos (by rw [x2, y2]; rfl)]
    congr 1; omega

/-! SpanMeets -/
theorem meet_cases (s t : Sp) : (spK s = true ∧ spK t = true ∧ spMeet s t = spOf (if t.lo ≤ s.lo then s.lo else t.lo) (if s.hi ≤ t.hi then s.hi else t.hi)) ∨ (spK s = true ∧ spK t = false ∧ spMeet s t = s) ∨ (spK s = false ∧ spK t = true ∧ spMeet s t = t) ∨ (spK s = false ∧ spK t = false ∧ spMeet s t = spNo) := by
  unfold spMeet
  cases spK s <;> cases spK t <;> simp
theorem meet_has {s t : Sp} {n : Int} (hs : spHas s n = true) (ht : spHas t n = true) : spHas (spMeet s t) n = true := by
  rcases meet_cases s t with ⟨h1, h2, e⟩ | ⟨_, _, e⟩ | ⟨_, _, e⟩ | ⟨_, _, e⟩
  · rw [e]
    have a := spHas_iff.1 hs h1
    have b := spHas_iff.1 ht h2
    rcases of_cases (if t.lo ≤ s.lo then s.lo else t.lo) (if s.hi ≤ t.hi then s.hi else t.hi) with f | ⟨_, _, _, f⟩
    · rw [f]; rfl
    · rw [f, spHas_iff]; intro _; dsimp only; constructor <;> split <;> omega
  · rw [e]; exact hs
  · rw [e]; exact ht
  · rw [e]; rfl
theorem hull_cases (s t : Sp) : spHull s t = spNo ∨ (spK s = true ∧ spK t = true ∧ spHull s t = ⟨if s.lo ≤ t.lo then s.lo else t.lo, if t.hi ≤ s.hi then s.hi else t.hi, true⟩) := by
  unfold spHull
  split
  · rename_i hh
    obtain ⟨h1, h2⟩ := Bool.and_eq_true_iff.1 hh
    rcases of_cases (if s.lo ≤ t.lo then s.lo else t.lo) (if t.hi ≤ s.hi then s.hi else t.hi) with f | ⟨_, _, _, f⟩
    · exact .inl f
    · exact .inr ⟨h1, h2, f⟩
  · exact .inl rfl
theorem hull_has {s t : Sp} {n : Int} (h : (spHas s n || spHas t n) = true) : spHas (spHull s t) n = true := by
  rcases hull_cases s t with f | ⟨h1, h2, f⟩
  · rw [f]; rfl
  · rw [f, spHas_iff]
    intro _
    rcases Bool.or_eq_true_iff.1 h with a | a
    · have := spHas_iff.1 a h1
      dsimp only; constructor <;> split <;> omega
    · have := spHas_iff.1 a h2
      dsimp only; constructor <;> split <;> omega
theorem meet_comm (s t : Sp) : spMeet t s = spMeet s t := by
  rcases meet_cases s t with ⟨h1, h2, e⟩ | ⟨h1, h2, e⟩ | ⟨h1, h2, e⟩ | ⟨h1, h2, e⟩ <;> rw [e] <;> unfold spMeet <;> simp only [h1, h2]
  · have a : (if s.lo ≤ t.lo then t.lo else s.lo) = (if t.lo ≤ s.lo then s.lo else t.lo) := by split <;> split <;> omega
    have b : (if t.hi ≤ s.hi then t.hi else s.hi) = (if s.hi ≤ t.hi then s.hi else t.hi) := by split <;> split <;> omega
    simp [a, b]
  · simp
  · simp
  · simp
theorem hull_comm (s t : Sp) : spHull t s = spHull s t := by
  have a : (if t.lo ≤ s.lo then t.lo else s.lo) = (if s.lo ≤ t.lo then s.lo else t.lo) := by split <;> split <;> omega
  have b : (if s.hi ≤ t.hi then t.hi else s.hi) = (if t.hi ≤ s.hi then s.hi else t.hi) := by split <;> split <;> omega
  unfold spHull
  rw [a, b, Bool.and_comm]
theorem meet_known {s t : Sp} {n : Int} (hm : (spMeet s t).kn = true) (hs : spK s = true) (ht : spK t = true) : spHas (spMeet s t) n = (spHas s n && spHas t n) ∧ spWithin (spMeet s t) s = true ∧ spWithin (spMeet s t) t = true := by
  rcases meet_cases s t with ⟨h1, h2, e⟩ | ⟨_, h2, _⟩ | ⟨h1, _, _⟩ | ⟨h1, _, _⟩
  · rcases of_cases (if t.lo ≤ s.lo then s.lo else t.lo) (if s.hi ≤ t.hi then s.hi else t.hi) with f | ⟨f1, f2, f3, f⟩
    · rw [e, f] at hm; cases hm
    · have k : spK (spMeet s t) = true := by rw [e, f]; exact spK_mk rfl f1 f2 f3
      have e1 : (spMeet s t).lo = if t.lo ≤ s.lo then s.lo else t.lo := by rw [e, f]
      have e2 : (spMeet s t).hi = if s.hi ≤ t.hi then s.hi else t.hi := by rw [e, f]
      refine ⟨?_, ?_, ?_⟩
      · apply Bool.eq_iff_iff.2
        rw [Bool.and_eq_true_iff, spHas_iff, spHas_iff, spHas_iff, e1, e2]
        constructor
        · intro h
          have := h k
          constructor <;> intro _ <;> (repeat split at this) <;> omega
        · rintro ⟨x, y⟩ _
          have := x h1
          have := y h2
          constructor <;> split <;> omega
      · rw [spWithin_iff, e1, e2]; intro _; refine ⟨k, ?_, ?_⟩ <;> split <;> omega
      · rw [spWithin_iff, e1, e2]; intro _; refine ⟨k, ?_, ?_⟩ <;> split <;> omega
  · rw [ht] at h2; cases h2
  · rw [hs] at h1; cases h1
  · rw [hs] at h1; cases h1
end Go.Proofs.Ytklnlhphgiipjaa
