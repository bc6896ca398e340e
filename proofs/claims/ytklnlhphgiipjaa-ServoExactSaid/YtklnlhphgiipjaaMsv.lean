/-
  Plain laws of the servo.
-/
import Derived.Test.YtklnlhphgiipjaaVc0
import Derived.Test.YtklnlhphgiipjaaMsd
namespace Go.Proofs.Ytklnlhphgiipjaa
open Go.RowKit

/-- Behind a call: kind 0 observes, kind 1 forgets. -/
def sDo (s : Sp) (a m p kind t : Int) (o : Sp) : Sp × Int × Int × Bool :=
  if kind = 0 then sObs s a m p o t else if kind = 1 then (spNo, 0, 0, true) else (s, a, m, true)

theorem obs_count {s : Sp} {a m p t a' m' : Int} {o s' : Sp} {r : Bool} (h0 : 0 ≤ m) (h : sObs s a m p o t = (s', a', m', r)) : 0 ≤ m' ∧ m' ≤ m + 1 := by
  unfold sObs at h
  split at h
  · split at h
    · obtain ⟨_, h⟩ := Prod.mk.inj h
      obtain ⟨_, h⟩ := Prod.mk.inj h
      obtain ⟨h, _⟩ := Prod.mk.inj h
      omega
    · obtain ⟨_, h⟩ := Prod.mk.inj h
      obtain ⟨_, h⟩ := Prod.mk.inj h
      obtain ⟨h, _⟩ := Prod.mk.inj h
      omega
  · obtain ⟨_, h⟩ := Prod.mk.inj h
    obtain ⟨_, h⟩ := Prod.mk.inj h
    obtain ⟨h, _⟩ := Prod.mk.inj h
    omega
theorem do_count {s : Sp} {a m p kd t a' m' : Int} {o s' : Sp} {r : Bool} (h0 : 0 ≤ m) (h : sDo s a m p kd t o = (s', a', m', r)) : 0 ≤ m' ∧ m' ≤ m + 1 := by
  unfold sDo at h
  split at h
  · exact obs_count h0 h
  · split at h
    · obtain ⟨_, h⟩ := Prod.mk.inj h
      obtain ⟨_, h⟩ := Prod.mk.inj h
      obtain ⟨h, _⟩ := Prod.mk.inj h
      omega
    · obtain ⟨_, h⟩ := Prod.mk.inj h
      obtain ⟨_, h⟩ := Prod.mk.inj h
      obtain ⟨h, _⟩ := Prod.mk.inj h
      omega

theorem may_iff {s : Sp} {a t : Int} {o : Sp} : sMay s a o t = true ↔ spK o = true ∧ smallB t = true ∧ (s.kn = false ∨ a ≤ t) := by
  unfold sMay spK
  simp [and_assoc]

theorem drift_zero {s : Sp} {n p : Int} (hk : spK s = true) (hn : 0 ≤ n) (h0 : 0 ≤ p) (h9 : p ≤ 1000000000) (hc : ceilP n p 1000000000 = (0, true)) : spDrift s n p = s := by
  have hof : spOf (-0) 0 = ⟨0, 0, true⟩ := spOf_yes (lo := -0) (hi := 0) (by decide +kernel) (by decide)
  have hz : (smallB 0 && smallB 0) = true := by decide +kernel
  have k := spK_kn hk
  unfold spDrift
  rw [hc, if_neg (by rintro (z | z | z | z) <;> first | cases z | omega)]
  show spWider s 0 0 = s
  unfold spWider
  rw [if_neg (by rintro (z | z | z) <;> first | omega | (rw [hz] at z; cases z)), hof, add_known hk (by decide +kernel) (by show smallB (s.lo + 0) = true; rw [Int.add_zero]; exact k.2.1) (by show smallB (s.hi + 0) = true; rw [Int.add_zero]; exact k.2.2.1)]
  show (⟨s.lo + 0, s.hi + 0, true⟩ : Sp) = s
  rw [Int.add_zero, Int.add_zero]
  exact (sp_eta hk).symm
theorem ceil_at {n p : Int} (hn : smallB n = true) (hp : smallB p = true) (h : n * p = 0) : ceilP n p 1000000000 = (0, true) := by
  have hc : smallB 1000000000 = true := by decide +kernel
  have ho : okB n p 1000000000 = true := by unfold okB; rw [hn, hp, hc]; rfl
  have := told_ce ho (by omega) (by rw [h]; decide +kernel)
  rw [this, h]; rfl

theorem read_now {s : Sp} {t p : Int} (hk : spK s = true) (ht : smallB t = true) (h0 : 0 ≤ p) (h9 : p ≤ 1000000000) : sRead s t p t = s := by
  have k := spK_kn hk
  have hs : subP t t = (t - t, true) := sub_yes ht ht (by rw [Int.sub_self]; decide +kernel)
  unfold sRead
  rw [hs, if_neg (by rintro (z | z) <;> first | (cases z; done) | (rw [k.1] at z; cases z))]
  show spDrift s (t - t) p = s
  rw [Int.sub_self]
  exact drift_zero hk (by omega) h0 h9 (ceil_at (by decide +kernel) (smallB_true (by omega) (by omega)) (Int.zero_mul p))

theorem within_self {s : Sp} (h : spK s = true) : spWithin s s = true := spWithin_iff.2 fun _ => ⟨h, Int.le_refl _, Int.le_refl _⟩
theorem meet_in {s o : Sp} (ho : spK o = true) (h : (spMeet s o).kn = true) : spK (spMeet s o) = true ∧ spWithin (spMeet s o) o = true := by
  rcases meet_cases s o with ⟨_, _, e⟩ | ⟨_, k, _⟩ | ⟨_, _, e⟩ | ⟨_, k, _⟩
  · rw [e] at h ⊢
    rcases of_cases (if o.lo ≤ s.lo then s.lo else o.lo) (if s.hi ≤ o.hi then s.hi else o.hi) with q | ⟨q1, q2, q3, q⟩
    · rw [q] at h; cases h
    · rw [q]
      refine ⟨spK_iff.2 ⟨rfl, q1, q2, q3⟩, spWithin_iff.2 fun _ => ⟨spK_iff.2 ⟨rfl, q1, q2, q3⟩, ?_, ?_⟩⟩
      · dsimp only; split <;> omega
      · dsimp only; split <;> omega
  · rw [ho] at k; cases k
  · rw [e]; exact ⟨ho, within_self ho⟩
  · rw [ho] at k; cases k

theorem obs_known {s : Sp} {a m p t a' m' : Int} {o s' : Sp} {r : Bool} (hm : sMay s a o t = true) (h : sObs s a m p o t = (s', a', m', r)) : spK s' = true ∧ a' = t ∧ smallB t = true ∧ spWithin s' o = true := by
  obtain ⟨ho, ht, _⟩ := may_iff.1 hm
  unfold sObs at h
  rw [if_pos hm] at h
  split at h
  · obtain ⟨e1, hh⟩ := Prod.mk.inj h
    obtain ⟨e2, _⟩ := Prod.mk.inj hh
    subst e1 e2
    exact ⟨ho, rfl, ht, within_self ho⟩
  · rename_i hc
    obtain ⟨e1, hh⟩ := Prod.mk.inj h
    obtain ⟨e2, _⟩ := Prod.mk.inj hh
    subst e1 e2
    have hk : (spMeet (sRead s a p t) o).kn = true := by
      cases hh : (spMeet (sRead s a p t) o).kn with
      | true => rfl
      | false => exact absurd (.inr hh) hc
    exact ⟨(meet_in ho hk).1, rfl, ht, (meet_in ho hk).2⟩

theorem obs_same {s : Sp} {a m p t : Int} {o : Sp} (h : sMay s a o t = false) : sObs s a m p o t = (s, a, m, false) := by
  unfold sObs; rw [h, if_neg (by decide)]

/-- Behind an observation that changed what is known. -/
theorem narrow_law {s : Sp} {a m p t a' m' : Int} {o s' : Sp} {r : Bool} (h0 : 0 ≤ p) (h9 : p ≤ 1000000000) (h : sObs s a m p o t = (s', a', m', r)) (hne : ¬ (s'.kn = s.kn ∧ a' = a ∧ m' = m)) :
    s'.kn = true ∧ a' = t ∧ sRead s' t p t = s' ∧ spWithin s' o = true := by
  cases hm : sMay s a o t with
  | false =>
    rw [obs_same hm] at h
    obtain ⟨e1, hh⟩ := Prod.mk.inj h
    obtain ⟨e2, hh2⟩ := Prod.mk.inj hh
    obtain ⟨e3, _⟩ := Prod.mk.inj hh2
    subst e1 e2 e3
    exact absurd ⟨rfl, rfl, rfl⟩ hne
  | true =>
    obtain ⟨hk, ha, ht, hw⟩ := obs_known hm h
    exact ⟨(spK_kn hk).1, ha, read_now hk ht h0 h9, hw⟩

theorem drift_longer {s : Sp} {n q p : Int} (h0 : 0 ≤ p) (hn : 0 ≤ n) (hnq : n ≤ q) : spWithin (spDrift s n p) (spDrift s q p) = true := by
  rcases drift_cases s q p with e | ⟨c, hc, hq, _, h9, c0, hk, h1, h2, e⟩
  · rw [e]; rfl
  have hkn := spK_kn hk
  have hcc := ceil_ce hc
  have hokr := (ceil_true hc).1
  have hle : ce n p ≤ c := by rw [hcc.1]; exact ce_mono (Int.mul_le_mul_of_nonneg_right hnq h0)
  have hpos : 0 ≤ ce n p := by have := Int.mul_nonneg hn h0; unfold ce; omega
  have hcs := smallB_iff.1 hcc.2
  have hok : okB n p 1000000000 = true := by
    unfold okB at hokr ⊢
    obtain ⟨x1, x2⟩ := Bool.and_eq_true_iff.1 hokr
    have := smallB_iff.1 x1
    rw [smallB_true (n := n) (by omega) (by omega), x2]; rfl
  have ht : ceilP n p 1000000000 = (ce n p, true) := told_ce hok (by omega) (smallB_true (by show _ ≤ ce n p; omega) (by show ce n p ≤ _; omega))
  have H1 := smallB_iff.1 h1
  have H2 := smallB_iff.1 h2
  have L := smallB_iff.1 hkn.2.1
  have R := smallB_iff.1 hkn.2.2.1
  have hd : spDrift s n p = ⟨s.lo + -ce n p, s.hi + ce n p, true⟩ := by
    have hsm : smallB (ce n p) = true := (ceil_ce ht).2
    have hof : spOf (-ce n p) (ce n p) = ⟨-ce n p, ce n p, true⟩ := spOf_yes (by rw [smallB_neg, hsm]; rfl) (by omega)
    unfold spDrift
    rw [ht, if_neg (by rintro (z | z | z | z) <;> first | cases z | omega)]
    show spWider s (ce n p) (ce n p) = _
    unfold spWider
    rw [if_neg (by rintro (z | z | z) <;> first | omega | (rw [hsm] at z; cases z)), hof, add_known hk (spK_iff.2 ⟨rfl, by rw [smallB_neg]; exact hsm, hsm, by omega⟩) (smallB_true (by dsimp only; omega) (by dsimp only; omega)) (smallB_true (by dsimp only; omega) (by dsimp only; omega))]
  rw [e, hd]
  exact spWithin_iff.2 fun _ => ⟨spK_iff.2 ⟨rfl, smallB_true (by omega) (by omega), smallB_true (by omega) (by omega), by omega⟩, by dsimp only; omega, by dsimp only; omega⟩

theorem read_longer {s : Sp} {a p x y : Int} (h0 : 0 ≤ p) (h1 : a ≤ x) (h2 : x ≤ y) : spWithin (sRead s a p x) (sRead s a p y) = true := by
  obtain ⟨d, i, hd⟩ : ∃ d i, subP y a = (d, i) := ⟨_, _, rfl⟩
  cases i with
  | false => 
    have : sRead s a p y = spNo := by unfold sRead; rw [hd, if_pos (.inl rfl)]
    rw [this]; rfl
  | true =>
    cases hk : s.kn with
    | false =>
      have : sRead s a p y = spNo := by unfold sRead; rw [hk, if_pos (.inr rfl)]
      rw [this]; rfl
    | true =>
      obtain ⟨b1, b2, rfl, b3⟩ := sub_true hd
      have B1 := smallB_iff.1 b1
      have B2 := smallB_iff.1 b2
      have B3 := smallB_iff.1 b3
      have hx : subP x a = (x - a, true) := sub_yes (smallB_true (by omega) (by omega)) b2 (smallB_true (by omega) (by omega))
      have e1 : sRead s a p y = spDrift s (y - a) p := by unfold sRead; rw [hd, if_neg (by rintro (z | z) <;> first | (cases z; done) | (rw [hk] at z; cases z))]
      have e2 : sRead s a p x = spDrift s (x - a) p := by unfold sRead; rw [hx, if_neg (by rintro (z | z) <;> first | (cases z; done) | (rw [hk] at z; cases z))]
      rw [e1, e2]
      exact drift_longer h0 (by omega) (by omega)

/-- A servo without drift. -/
theorem exact_no {t : Int} {o : Sp} (ht : smallB t = true) (h : sMay spNo 0 o t = false) : o.kn = false ∨ spRight o = false := by
  unfold sMay at h
  rw [ht] at h
  cases hk : o.kn with
  | false => exact .inl rfl
  | true =>
    cases hr : spRight o with
    | false => exact .inr rfl
    | true => rw [hk, hr] at h; cases h
theorem exact_yes {t : Int} {o : Sp} (h : sMay spNo 0 o t = true) : sObs spNo 0 0 0 o t = (o, t, 1, true) := by
  have e : (sRead spNo 0 0 t).kn = false := by unfold sRead; rw [if_pos (.inr rfl)]; rfl
  unfold sObs
  rw [if_pos h, if_pos (.inl e)]; rfl
theorem exact_read {t n : Int} {o : Sp} (ho : spK o = true) (h1 : -1125899906842624 ≤ t) (h2 : t ≤ 1125899906842624) (h3 : 0 ≤ n) (h4 : n ≤ 1125899906842624) : sRead o t 0 (t + n) = o := by
  have k := spK_kn ho
  have hs : subP (t + n) t = (t + n - t, true) := sub_yes (smallB_true (by omega) (by omega)) (smallB_true (by omega) (by omega)) (smallB_true (by omega) (by omega))
  unfold sRead
  rw [hs, if_neg (by rintro (z | z) <;> first | (cases z; done) | (rw [k.1] at z; cases z))]
  exact drift_zero ho (by dsimp only; omega) (by omega) (by omega) (ceil_at (smallB_true (by dsimp only; omega) (by dsimp only; omega)) (by decide +kernel) (Int.mul_zero _))
theorem exact_before {t : Int} {o : Sp} (h1 : -1125899906842624 ≤ t) (h2 : t ≤ 1125899906842624) : sRead o t 0 (t - 1) = spNo := by
  have hs : subP (t - 1) t = (t - 1 - t, true) := sub_yes (smallB_true (by omega) (by omega)) (smallB_true (by omega) (by omega)) (smallB_true (by omega) (by omega))
  unfold sRead
  rw [hs]
  split
  · rfl
  · unfold spDrift
    rw [if_pos (.inr (.inl (by dsimp only; omega)))]
end Go.Proofs.Ytklnlhphgiipjaa
