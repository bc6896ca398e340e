/-
  Plain laws of the servo: where each observation has the offset as it is, what is read has it.
-/
import Derived.Test.YtnphbdhcoiaklaaGD
namespace Go.Proofs.Ytnphbdhcoiaklaa
open Go.RowKit

/-- What is so behind k turns: at, and the offset; what is known has had the offset, and that has changed by no more than D since. -/
def Snd (p : Int) (k : Nat) (t off : Int) (s : Sp) (a : Int) : Prop :=
  0 ≤ t ∧ t ≤ k * 1099511627776 ∧ -(1125899906842624 + k * 1099511627776) ≤ off ∧ off ≤ 1125899906842624 + k * 1099511627776 ∧
  ((s = spNo) ∨ (spK s = true ∧ -2251799813685248 ≤ s.lo ∧ s.hi ≤ 2251799813685248 ∧ 0 ≤ a ∧ a ≤ t ∧ ∃ D : Int, 0 ≤ D ∧ D * 1000000000 ≤ (t - a) * p ∧ s.lo - D ≤ off ∧ off ≤ s.hi + D))

theorem snd_start {p off : Int} (h1 : -1125899906842624 ≤ off) (h2 : off ≤ 1125899906842624) : Snd p 0 0 off spNo 0 := ⟨by omega, by omega, by omega, by omega, .inl rfl⟩

theorem snd_floor {t p : Int} (h0 : 0 ≤ p) (h9 : p ≤ 1000000000) (t0 : 0 ≤ t) (t1 : t ≤ 1099511627776) : floorP t p 1000000000 = (t * p / 1000000000, true) ∧ 0 ≤ t * p / 1000000000 ∧ t * p / 1000000000 ≤ t := by
  have h := Int.mul_nonneg t0 h0
  have h' : t * p ≤ t * 1000000000 := Int.mul_le_mul_of_nonneg_left h9 t0
  have ho : okB t p 1000000000 = true := by
    unfold okB
    rw [smallB_true (n := t) (by omega) (by omega), smallB_true (n := p) (by omega) (by omega)]
    decide +kernel
  exact ⟨told_fl ho (by omega) (smallB_true (by omega) (by omega)), by omega, by omega⟩

/-- Time goes on. -/
theorem snd_step {p t off a pa ch : Int} {k : Nat} {s : Sp} (h0 : 0 ≤ p) (h9 : p ≤ 1000000000) (h : Snd p k t off s a) (p0 : 0 ≤ pa) (p1 : pa ≤ 1099511627776) (c0 : -(pa * p / 1000000000) ≤ ch) (c1 : ch ≤ pa * p / 1000000000) :
    Snd p (k + 1) (t + pa) (off + ch) s a := by
  obtain ⟨_, b0, b1⟩ := snd_floor h0 h9 p0 p1
  obtain ⟨a1, a2, a3, a4, a5⟩ := h
  refine ⟨by omega, by push_cast; omega, by push_cast; omega, by push_cast; omega, ?_⟩
  rcases a5 with e | ⟨hk, l1, l2, l3, l4, D, d0, d1, d2, d3⟩
  · exact .inl e
  · refine .inr ⟨hk, l1, l2, l3, by omega, D + pa * p / 1000000000, by omega, ?_, by omega, by omega⟩
    have e : (t + pa - a) * p = (t - a) * p + pa * p := by rw [← Int.add_mul]; congr 1; omega
    rw [e]
    omega

theorem snd_read {p t off a : Int} {k : Nat} {s : Sp} (h0 : 0 ≤ p) (h9 : p ≤ 1000000000) (hk : k ≤ 200) (h : Snd p k t off s a) (hs : spK s = true) :
    ∃ r1 r2, sRead s a p t = ⟨r1, r2, true⟩ ∧ spHas ⟨r1, r2, true⟩ off = true ∧ spK ⟨r1, r2, true⟩ = true ∧ sMaster s a p t = ⟨r1 + t, r2 + t, true⟩ ∧ spHas ⟨r1 + t, r2 + t, true⟩ (t + off) = true := by
  obtain ⟨a1, a2, a3, a4, a5⟩ := h
  rcases a5 with e | ⟨_, l1, l2, l3, l4, D, d0, d1, d2, d3⟩
  · rw [e] at hs; cases hs
  have hkn := spK_kn hs
  have hlh := hkn.2.2.2
  have n0 : 0 ≤ t - a := by omega
  have n1 : t - a ≤ 219902325555200 := by omega
  have hx := Int.mul_nonneg n0 h0
  have hx2 : (t - a) * p ≤ (t - a) * 1000000000 := Int.mul_le_mul_of_nonneg_left h9 n0
  have hc0 : 0 ≤ ce (t - a) p := by unfold ce; omega
  have hc1 : ce (t - a) p ≤ t - a := by unfold ce; omega
  have hcD : D ≤ ce (t - a) p := by unfold ce; omega
  have ho : okB (t - a) p 1000000000 = true := by
    unfold okB
    rw [smallB_true (n := t - a) (by omega) (by omega), smallB_true (n := p) (by omega) (by omega)]
    decide +kernel
  have ht : ceilP (t - a) p 1000000000 = (ce (t - a) p, true) := told_ce ho (by omega) (smallB_true (by show _ ≤ ce (t - a) p; omega) (by show ce (t - a) p ≤ _; omega))
  generalize ce (t - a) p = c at *
  have hsub : subP t a = (t - a, true) := sub_yes (smallB_true (by omega) (by omega)) (smallB_true (by omega) (by omega)) (smallB_true (by omega) (by omega))
  have hsm : smallB c = true := smallB_true (by omega) (by omega)
  have hof : spOf (-c) c = ⟨-c, c, true⟩ := spOf_yes (by rw [smallB_neg, hsm]; rfl) (by omega)
  have hrd : sRead s a p t = ⟨s.lo + -c, s.hi + c, true⟩ := by
    unfold sRead
    rw [hsub, if_neg (by rintro (z | z) <;> first | (cases z; done) | (rw [hkn.1] at z; cases z))]
    show spDrift s (t - a) p = _
    unfold spDrift
    rw [ht, if_neg (by rintro (z | z | z | z) <;> first | (cases z; done) | omega)]
    show spWider s c c = _
    unfold spWider
    rw [if_neg (by rintro (z | z | z) <;> first | omega | (rw [hsm] at z; cases z)), hof, add_known hs (spK_iff.2 ⟨rfl, by rw [smallB_neg]; exact hsm, hsm, by omega⟩) (smallB_true (by dsimp only; omega) (by dsimp only; omega)) (smallB_true (by dsimp only; omega) (by dsimp only; omega))]
  have hK : spK ⟨s.lo + -c, s.hi + c, true⟩ = true := spK_iff.2 ⟨rfl, smallB_true (by omega) (by omega), smallB_true (by omega) (by omega), by omega⟩
  have hof2 : spOf t t = ⟨t, t, true⟩ := spOf_yes (by rw [smallB_true (n := t) (by omega) (by omega)]; rfl) (by omega)
  have hm : sMaster s a p t = ⟨s.lo + -c + t, s.hi + c + t, true⟩ := by
    unfold sMaster spShift
    rw [hrd, hof2]
    exact add_known hK (spK_iff.2 ⟨rfl, smallB_true (by omega) (by omega), smallB_true (by omega) (by omega), by omega⟩) (smallB_true (by dsimp only; omega) (by dsimp only; omega)) (smallB_true (by dsimp only; omega) (by dsimp only; omega))
  exact ⟨_, _, hrd, spHas_iff.2 fun _ => ⟨by dsimp only; omega, by dsimp only; omega⟩, hK, hm, spHas_iff.2 fun _ => ⟨by dsimp only; omega, by dsimp only; omega⟩⟩

theorem snd_obs {p t off a m x y : Int} {k : Nat} {s : Sp} (h0 : 0 ≤ p) (h9 : p ≤ 1000000000) (hk : k ≤ 200) (h : Snd p k t off s a) (x0 : 0 ≤ x) (x1 : x ≤ 1099511627776) (y0 : 0 ≤ y) (y1 : y ≤ 1099511627776) :
    spOf (off - x) (off + y) = ⟨off - x, off + y, true⟩ ∧ ∃ s' m', sObs s a m p ⟨off - x, off + y, true⟩ t = (s', t, m', true) ∧ Snd p k t off s' t ∧ spK s' = true := by
  obtain ⟨a1, a2, a3, a4, a5⟩ := id h
  have e1 : smallB (off - x) = true := smallB_true (by omega) (by omega)
  have e2 : smallB (off + y) = true := smallB_true (by omega) (by omega)
  have e3 : smallB t = true := smallB_true (by omega) (by omega)
  have hO : spK ⟨off - x, off + y, true⟩ = true := spK_iff.2 ⟨rfl, e1, e2, by omega⟩
  refine ⟨spOf_yes (by rw [e1, e2]; rfl) (by omega), ?_⟩
  have fin : ∀ s' : Sp, spK s' = true → -2251799813685248 ≤ s'.lo → s'.hi ≤ 2251799813685248 → s'.lo ≤ off → off ≤ s'.hi → Snd p k t off s' t := fun s' q1 q2 q3 q4 q5 =>
    ⟨a1, a2, a3, a4, .inr ⟨q1, q2, q3, a1, by omega, 0, by omega, by rw [Int.sub_self, Int.zero_mul]; omega, by omega, by omega⟩⟩
  rcases a5 with e | ⟨hs, l1, l2, l3, l4, _⟩
  · subst e
    have hm : sMay spNo a ⟨off - x, off + y, true⟩ t = true := may_iff.2 ⟨hO, e3, .inl rfl⟩
    have hr : (sRead spNo a p t).kn = false := by unfold sRead; rw [if_pos (.inr rfl)]; rfl
    refine ⟨⟨off - x, off + y, true⟩, 1, ?_, fin _ hO (by dsimp only; omega) (by dsimp only; omega) (by dsimp only; omega) (by dsimp only; omega), hO⟩
    unfold sObs
    rw [if_pos hm, if_pos (.inl hr)]; rfl
  · obtain ⟨r1, r2, hr, hhas, hK, _, _⟩ := snd_read h0 h9 hk h hs
    have hm : sMay s a ⟨off - x, off + y, true⟩ t = true := may_iff.2 ⟨hO, e3, .inr l4⟩
    obtain ⟨g1, g2⟩ := spHas_iff.1 hhas hK
    dsimp only at g1 g2
    have hmt : spMeet ⟨r1, r2, true⟩ ⟨off - x, off + y, true⟩ = ⟨if off - x ≤ r1 then r1 else off - x, if r2 ≤ off + y then r2 else off + y, true⟩ := by
      rcases meet_cases ⟨r1, r2, true⟩ ⟨off - x, off + y, true⟩ with ⟨_, _, e⟩ | ⟨_, z, _⟩ | ⟨z, _, _⟩ | ⟨z, _, _⟩
      · rw [e]
        have R := spK_kn hK
        have R1 := smallB_iff.1 R.2.1
        have R2 := smallB_iff.1 R.2.2.1
        dsimp only at R1 R2
        refine spOf_yes ?_ ?_
        · rw [smallB_true (n := if off - x ≤ r1 then r1 else off - x) (by split <;> omega) (by split <;> omega), smallB_true (n := if r2 ≤ off + y then r2 else off + y) (by split <;> omega) (by split <;> omega)]; rfl
        · dsimp only; split <;> split <;> omega
      · rw [hO] at z; cases z
      · rw [hK] at z; cases z
      · rw [hK] at z; cases z
    have hK2 : spK (spMeet ⟨r1, r2, true⟩ ⟨off - x, off + y, true⟩) = true := (meet_in hO (by rw [hmt])).1
    refine ⟨spMeet ⟨r1, r2, true⟩ ⟨off - x, off + y, true⟩, m + 1, ?_, ?_, hK2⟩
    · unfold sObs
      rw [if_pos hm, hr, if_neg (by rintro (z | z) <;> first | (cases z; done) | (rw [hmt] at z; cases z))]
    · refine fin _ hK2 ?_ ?_ ?_ ?_ <;> rw [hmt] <;> dsimp only <;> split <;> omega
end Go.Proofs.Ytnphbdhcoiaklaa
