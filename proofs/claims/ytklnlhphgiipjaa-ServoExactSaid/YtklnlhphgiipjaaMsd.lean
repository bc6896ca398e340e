/-
  Plain laws of spans that drift and of spans that are scaled.
-/
import Derived.Test.YtklnlhphgiipjaaMsl
import Derived.Test.YtklnlhphgiipjaaMq
namespace Go.Proofs.Ytklnlhphgiipjaa
open Go.RowKit

def fl (m q : Int) : Int := m * q / 1000000000
def ce (m q : Int) : Int := -(-(m * q) / 1000000000)
theorem fl_ce (m q : Int) : fl m q ≤ ce m q := by unfold fl ce; omega
theorem fl_mono {m q n r : Int} (h : m * q ≤ n * r) : fl m q ≤ fl n r := by unfold fl; omega
theorem ce_mono {m q n r : Int} (h : m * q ≤ n * r) : ce m q ≤ ce n r := by unfold ce; omega

theorem floor_fl {m q x : Int} (h : floorP m q 1000000000 = (x, true)) : x = fl m q ∧ okB m q 1000000000 = true ∧ smallB x = true := by
  have := floor_true h
  exact ⟨this.2.2, this.1, by have := floor_bd h; exact smallB_true this.1 this.2⟩
theorem ceil_ce {m q x : Int} (h : ceilP m q 1000000000 = (x, true)) : x = ce m q ∧ smallB x = true := by
  have := ceil_true h
  exact ⟨this.2.2, by have := ceil_bd h; exact smallB_true this.1 this.2⟩

/-- One step, where all is told. -/
theorem step_first {m q x y : Int} (h1 : floorP m q 1000000000 = (x, true)) (h2 : ceilP m q 1000000000 = (y, true)) : scOut spNo m q = ⟨x, y, true⟩ := by
  obtain ⟨e1, _, s1⟩ := floor_fl h1
  obtain ⟨e2, s2⟩ := ceil_ce h2
  have := fl_ce m q
  unfold scOut
  rw [h1, h2, if_neg (by simp [spNo])]
  exact spOf_yes (by rw [s1, s2]; rfl) (by omega)
theorem step_next {m q x y a b : Int} (h1 : floorP m q 1000000000 = (x, true)) (h2 : ceilP m q 1000000000 = (y, true)) (ha : smallB a = true) (hb : smallB b = true) (hab : a ≤ b) :
    ∃ c d, scOut ⟨a, b, true⟩ m q = ⟨c, d, true⟩ ∧ smallB c = true ∧ smallB d = true ∧ c ≤ d ∧ (c ≤ a ∧ c ≤ x ∧ (c = a ∨ c = x)) ∧ (b ≤ d ∧ y ≤ d ∧ (d = b ∨ d = y)) := by
  obtain ⟨e1, _, s1⟩ := floor_fl h1
  obtain ⟨e2, s2⟩ := ceil_ce h2
  have hf := fl_ce m q
  unfold scOut
  rw [h1, h2, if_pos (show (⟨a, b, true⟩ : Sp).kn = true from rfl)]
  have hxy : spOf x y = ⟨x, y, true⟩ := spOf_yes (by rw [s1, s2]; rfl) (by omega)
  show ∃ c d, spHull (spOf x y) ⟨a, b, true⟩ = _ ∧ _
  rw [hxy]
  unfold spHull
  rw [if_pos (by rw [Bool.and_eq_true_iff]; exact ⟨spK_iff.2 ⟨rfl, s1, s2, by omega⟩, spK_iff.2 ⟨rfl, ha, hb, hab⟩⟩)]
  have A := smallB_iff.1 ha
  have B := smallB_iff.1 hb
  have X := smallB_iff.1 s1
  have Y := smallB_iff.1 s2
  dsimp only
  refine ⟨_, _, spOf_yes ?_ ?_, ?_⟩
  · rw [Bool.and_eq_true_iff]; constructor <;> split <;> assumption
  · split <;> split <;> omega
  · refine ⟨by split <;> assumption, by split <;> assumption, by split <;> split <;> omega, ⟨by split <;> omega, by split <;> omega, by split <;> simp⟩, ⟨by split <;> omega, by split <;> omega, by split <;> simp⟩⟩

/-- What is known of a span that was scaled. -/
def ScIs (s : Sp) (p a b : Int) : Prop := smallB a = true ∧ smallB b = true ∧ a ≤ b ∧
  (a ≤ fl s.lo (1000000000 - p) ∧ a ≤ fl s.lo (1000000000 + p) ∧ a ≤ fl s.hi (1000000000 - p) ∧ a ≤ fl s.hi (1000000000 + p)) ∧
  (ce s.lo (1000000000 - p) ≤ b ∧ ce s.lo (1000000000 + p) ≤ b ∧ ce s.hi (1000000000 - p) ≤ b ∧ ce s.hi (1000000000 + p) ≤ b) ∧
  (a = fl s.lo (1000000000 - p) ∨ a = fl s.lo (1000000000 + p) ∨ a = fl s.hi (1000000000 - p) ∨ a = fl s.hi (1000000000 + p)) ∧
  (b = ce s.lo (1000000000 - p) ∨ b = ce s.lo (1000000000 + p) ∨ b = ce s.hi (1000000000 - p) ∨ b = ce s.hi (1000000000 + p))

/-- Where all four products are told. -/
theorem scale_told {s : Sp} {p x1 x2 x3 x4 y1 y2 y3 y4 : Int} (hk : spK s = true) (h0 : 0 ≤ p) (h9 : p ≤ 1000000000)
    (a1 : floorP s.lo (1000000000 - p) 1000000000 = (x1, true)) (a2 : floorP s.lo (1000000000 + p) 1000000000 = (x2, true))
    (a3 : floorP s.hi (1000000000 - p) 1000000000 = (x3, true)) (a4 : floorP s.hi (1000000000 + p) 1000000000 = (x4, true))
    (b1 : ceilP s.lo (1000000000 - p) 1000000000 = (y1, true)) (b2 : ceilP s.lo (1000000000 + p) 1000000000 = (y2, true))
    (b3 : ceilP s.hi (1000000000 - p) 1000000000 = (y3, true)) (b4 : ceilP s.hi (1000000000 + p) 1000000000 = (y4, true)) :
    ∃ a b, spScale s p = ⟨a, b, true⟩ ∧ ScIs s p a b := by
  have A1 := floor_fl a1
  have A2 := floor_fl a2
  have A3 := floor_fl a3
  have A4 := floor_fl a4
  have B1 := ceil_ce b1
  have B2 := ceil_ce b2
  have B3 := ceil_ce b3
  have B4 := ceil_ce b4
  have s1 := step_first a1 b1
  have f1 := fl_ce s.lo (1000000000 - p)
  obtain ⟨c2, d2, s2, u2, v2, w2, m2, n2⟩ := step_next a2 b2 A1.2.2 B1.2 (by rw [A1.1, B1.1]; exact f1)
  obtain ⟨c3, d3, s3, u3, v3, w3, m3, n3⟩ := step_next a3 b3 u2 v2 w2
  obtain ⟨c4, d4, s4, u4, v4, w4, m4, n4⟩ := step_next a4 b4 u3 v3 w3
  refine ⟨c4, d4, ?_, u4, v4, w4, ?_, ?_, ?_, ?_⟩
  · unfold spScale
    rw [if_neg (by rw [hk]; rintro (h | h | h) <;> first | cases h | omega), if_pos (by simp only [scGood, a1, a2, a3, a4, b1, b2, b3, b4]; rfl), s1, s2, s3, s4]
  · refine ⟨?_, ?_, ?_, ?_⟩ <;> omega
  · refine ⟨?_, ?_, ?_, ?_⟩ <;> omega
  · omega
  · omega

theorem scale_cases (s : Sp) (p : Int) : spScale s p = spNo ∨ (spK s = true ∧ 0 ≤ p ∧ p ≤ 1000000000 ∧ okB s.lo (1000000000 - p) 1000000000 = true ∧ okB s.hi (1000000000 - p) 1000000000 = true ∧ ∃ a b, spScale s p = ⟨a, b, true⟩ ∧ ScIs s p a b) := by
  by_cases h : spK s = false ∨ p < 0 ∨ 1000000000 < p
  · left; unfold spScale; rw [if_pos h]
  by_cases hg : scGood (scGood (scGood (scGood true s.lo (1000000000 - p)) s.lo (1000000000 + p)) s.hi (1000000000 - p)) s.hi (1000000000 + p) = true
  · right
    have hk : spK s = true := by
      cases hh : spK s with
      | true => rfl
      | false => exact absurd (.inl hh) h
    have hg' := hg
    simp only [scGood, Bool.and_eq_true_iff, Bool.true_and] at hg'
    obtain ⟨⟨⟨⟨⟨⟨⟨g1, g2⟩, g3⟩, g4⟩, g5⟩, g6⟩, g7⟩, g8⟩ := hg'
    have a1 := pair_true g1
    have a3 := pair_true g5
    have h0 : 0 ≤ p := Int.not_lt.1 fun e => h (.inr (.inl e))
    have h9 : p ≤ 1000000000 := Int.not_lt.1 fun e => h (.inr (.inr e))
    refine ⟨hk, h0, h9, (floor_fl a1).2.1, (floor_fl a3).2.1, ?_⟩
    exact scale_told hk h0 h9 a1 (pair_true g3) a3 (pair_true g7) (pair_true g2) (pair_true g4) (pair_true g6) (pair_true g8)
  · left; unfold spScale; rw [if_neg h, if_neg hg]

theorem mul_le1 {l q q1 q2 : Int} (h1 : q1 ≤ q) (h2 : q ≤ q2) : l * q1 ≤ l * q ∨ l * q2 ≤ l * q := by
  by_cases h : 0 ≤ l
  · exact .inl (Int.mul_le_mul_of_nonneg_left h1 h)
  · right
    have := Int.mul_le_mul_of_nonneg_left h2 (show 0 ≤ -l by omega)
    rw [Int.neg_mul, Int.neg_mul] at this
    omega
theorem mul_le2 {l q q1 q2 : Int} (h1 : q1 ≤ q) (h2 : q ≤ q2) : l * q ≤ l * q1 ∨ l * q ≤ l * q2 := by
  by_cases h : 0 ≤ l
  · exact .inr (Int.mul_le_mul_of_nonneg_left h2 h)
  · left
    have := Int.mul_le_mul_of_nonneg_left h1 (show 0 ≤ -l by omega)
    rw [Int.neg_mul, Int.neg_mul] at this
    omega

/-- What lies as near as the scale says lies in what is scaled. -/
theorem sc_has {s : Sp} {p a b m q : Int} (h : ScIs s p a b) (h9 : p ≤ 1000000000) (hl : s.lo ≤ m) (hh : m ≤ s.hi) (h1 : 1000000000 - p ≤ q) (h2 : q ≤ 1000000000 + p) : a ≤ fl m q ∧ ce m q ≤ b := by
  obtain ⟨_, _, _, ⟨a1, a2, a3, a4⟩, ⟨b1, b2, b3, b4⟩, _, _⟩ := h
  have g1 : s.lo * q ≤ m * q := Int.mul_le_mul_of_nonneg_right hl (by omega)
  have g2 : m * q ≤ s.hi * q := Int.mul_le_mul_of_nonneg_right hh (by omega)
  constructor
  · rcases mul_le1 (l := s.lo) h1 h2 with e | e
    · have := fl_mono (Int.le_trans e g1); omega
    · have := fl_mono (Int.le_trans e g1); omega
  · rcases mul_le2 (l := s.hi) h1 h2 with e | e
    · have := ce_mono (Int.le_trans g2 e); omega
    · have := ce_mono (Int.le_trans g2 e); omega

theorem fl_one (m : Int) : fl m 1000000000 = m ∧ ce m 1000000000 = m := by unfold fl ce; omega

theorem scale_near {s : Sp} {p m q x y : Int} (hs : spHas s m = true) (hk : spK s = true) (h9 : p ≤ 1000000000) (h1 : 1000000000 - p ≤ q) (h2 : q ≤ 1000000000 + p)
    (hx : floorP m q 1000000000 = (x, true)) (hy : ceilP m q 1000000000 = (y, true)) : spHas (spScale s p) x = true ∧ spHas (spScale s p) y = true := by
  rcases scale_cases s p with e | ⟨_, _, _, _, _, a, b, e, hi⟩
  · rw [e]; exact ⟨rfl, rfl⟩
  · rw [e]
    have hb := spHas_iff.1 hs hk
    have := sc_has hi h9 hb.1 hb.2 h1 h2
    have hf := fl_ce m q
    rw [← (floor_fl hx).1, ← (ceil_ce hy).1] at this
    rw [← (floor_fl hx).1, ← (ceil_ce hy).1] at hf
    constructor
    · exact spHas_iff.2 fun _ => ⟨this.1, by dsimp only; omega⟩
    · exact spHas_iff.2 fun _ => ⟨by dsimp only; omega, this.2⟩

theorem scale_within {s : Sp} {p : Int} : spWithin s (spScale s p) = true := by
  rcases scale_cases s p with e | ⟨hk, h0, h9, _, _, a, b, e, hi⟩
  · rw [e]; rfl
  · rw [e]
    have hb := spK_kn hk
    have l := sc_has hi h9 (Int.le_refl _) hb.2.2.2 (q := 1000000000) (by omega) (by omega)
    have r := sc_has hi h9 hb.2.2.2 (Int.le_refl _) (q := 1000000000) (by omega) (by omega)
    rw [(fl_one _).1] at l
    rw [(fl_one s.hi).2] at r
    exact spWithin_iff.2 fun _ => ⟨hk, l.1, r.2⟩

theorem told_fl {a b c : Int} (h : okB a b c = true) (h1 : 1 ≤ c) (h2 : smallB (a * b / c) = true) : floorP a b c = (a * b / c, true) := by
  rw [floorP_yes h h1]; exact told_t h2
theorem told_ce {a b c : Int} (h : okB a b c = true) (h1 : 1 ≤ c) (h2 : smallB (-(-(a * b) / c)) = true) : ceilP a b c = (-(-(a * b) / c), true) := by
  rw [ceilP_yes h h1]; exact told_t h2

theorem scale_more {s : Sp} {p r : Int} (h0 : 0 ≤ p) (hpr : p ≤ r) (h9 : r ≤ 1000000000) : spWithin (spScale s p) (spScale s r) = true := by
  rcases scale_cases s r with e | ⟨hk, _, _, o1, o2, a, b, e, hi⟩
  · rw [e]; rfl
  have hb := spK_kn hk
  have lo1 := sc_has hi h9 (Int.le_refl _) hb.2.2.2 (q := 1000000000 - p) (by omega) (by omega)
  have lo2 := sc_has hi h9 (Int.le_refl _) hb.2.2.2 (q := 1000000000 + p) (by omega) (by omega)
  have hi1 := sc_has hi h9 hb.2.2.2 (Int.le_refl _) (q := 1000000000 - p) (by omega) (by omega)
  have hi2 := sc_has hi h9 hb.2.2.2 (Int.le_refl _) (q := 1000000000 + p) (by omega) (by omega)
  have A := smallB_iff.1 hi.1
  have B := smallB_iff.1 hi.2.1
  have ok : ∀ m q, smallB m = true → -4611686018427387904 ≤ q → q ≤ 4611686018427387904 → okB m q 1000000000 = true := by
    intro m q hm h1 h2
    unfold okB
    rw [hm, smallB_true h1 h2]; rfl
  have tf : ∀ m q, smallB m = true → 0 ≤ q → q ≤ 2000000000 → a ≤ fl m q → ce m q ≤ b → floorP m q 1000000000 = (fl m q, true) ∧ ceilP m q 1000000000 = (ce m q, true) := by
    intro m q hm h1 h2 h3 h4
    have := fl_ce m q
    exact ⟨told_fl (ok m q hm (by omega) (by omega)) (by omega) (smallB_true (by show _ ≤ fl m q; omega) (by show fl m q ≤ _; omega)), told_ce (ok m q hm (by omega) (by omega)) (by omega) (smallB_true (by show _ ≤ ce m q; omega) (by show ce m q ≤ _; omega))⟩
  have t1 := tf s.lo (1000000000 - p) hb.2.1 (by omega) (by omega) lo1.1 lo1.2
  have t2 := tf s.lo (1000000000 + p) hb.2.1 (by omega) (by omega) lo2.1 lo2.2
  have t3 := tf s.hi (1000000000 - p) hb.2.2.1 (by omega) (by omega) hi1.1 hi1.2
  have t4 := tf s.hi (1000000000 + p) hb.2.2.1 (by omega) (by omega) hi2.1 hi2.2
  obtain ⟨c, d, e2, i2⟩ := scale_told hk h0 (by omega) t1.1 t2.1 t3.1 t4.1 t1.2 t2.2 t3.2 t4.2
  rw [e, e2]
  obtain ⟨j1, j2, j3, _, _, j4, j5⟩ := i2
  exact spWithin_iff.2 fun _ => ⟨spK_iff.2 ⟨rfl, j1, j2, j3⟩, by dsimp only; omega, by dsimp only; omega⟩

theorem drift_cases (s : Sp) (n p : Int) : spDrift s n p = spNo ∨ ∃ c, ceilP n p 1000000000 = (c, true) ∧ 0 ≤ n ∧ 0 ≤ p ∧ p ≤ 1000000000 ∧ 0 ≤ c ∧ spK s = true ∧ smallB (s.lo - c) = true ∧ smallB (s.hi + c) = true ∧ spDrift s n p = ⟨s.lo - c, s.hi + c, true⟩ := by
  unfold spDrift
  split
  · exact .inl rfl
  · rename_i h
    unfold spWider
    split
    · exact .inl rfl
    · rename_i h2
      have hc : (ceilP n p 1000000000).2 = true := by
        cases hh : (ceilP n p 1000000000).2 with
        | true => rfl
        | false => exact absurd (.inl hh) h
      have e := pair_true hc
      generalize hcc : (ceilP n p 1000000000).1 = c at *
      have hsm : smallB c = true := (ceil_ce e).2
      rcases add_cases s (spOf (-c) c) with q | ⟨hk, ht, q1, q2, q⟩
      · exact .inl q
      · right
        have hof : spOf (-c) c = ⟨-c, c, true⟩ := by
          rcases of_cases (-c) c with o | o
          · rw [o] at ht; cases ht
          · exact o.2.2.2
        rw [hof] at q1 q2 q
        refine ⟨c, e, Int.not_lt.1 fun z => h (.inr (.inl z)), Int.not_lt.1 fun z => h (.inr (.inr (.inl z))), Int.not_lt.1 fun z => h (.inr (.inr (.inr z))), Int.not_lt.1 fun z => h2 (.inl z), hk, ?_, q2, ?_⟩
        · have : s.lo + -c = s.lo - c := by omega
          rw [← this]; exact q1
        · rw [hof, q]
          show (⟨s.lo + -c, _, _⟩ : Sp) = _
          rw [show s.lo + -c = s.lo - c by omega]

theorem drift_unknown {s : Sp} {n p : Int} (h : spK s = false) : spDrift s n p = spNo := by
  rcases drift_cases s n p with e | ⟨_, _, _, _, _, _, hk, _⟩
  · exact e
  · rw [h] at hk; cases hk
theorem not_right {s : Sp} (h : spRight s = false) : spK s = false := by unfold spK; rw [h, Bool.and_false]

theorem drift_within {s : Sp} {n p : Int} : spWithin s (spDrift s n p) = true := by
  rcases drift_cases s n p with e | ⟨c, _, _, _, _, hc, hk, h1, h2, e⟩
  · rw [e]; rfl
  · rw [e]; exact spWithin_iff.2 fun _ => ⟨hk, by dsimp only; omega, by dsimp only; omega⟩

theorem drift_more {s : Sp} {n p r : Int} (h0 : 0 ≤ p) (hpr : p ≤ r) (h9 : r ≤ 1000000000) : spWithin (spDrift s n p) (spDrift s n r) = true := by
  rcases drift_cases s n r with e | ⟨c, hc, hn, _, _, c0, hk, h1, h2, e⟩
  · rw [e]; rfl
  have hkn := spK_kn hk
  have hcc := ceil_ce hc
  have hokr := (ceil_true hc).1
  have hle : ce n p ≤ c := by rw [hcc.1]; exact ce_mono (Int.mul_le_mul_of_nonneg_left hpr hn)
  have hpos : 0 ≤ ce n p := by have := Int.mul_nonneg hn h0; unfold ce; omega
  have hcs := smallB_iff.1 hcc.2
  have hok : okB n p 1000000000 = true := by
    unfold okB at hokr ⊢
    rw [smallB_true (n := p) (by omega) (by omega)]
    rw [smallB_true (n := r) (by omega) (by omega)] at hokr
    exact hokr
  have ht : ceilP n p 1000000000 = (ce n p, true) := told_ce hok (by omega) (smallB_true (by show _ ≤ ce n p; omega) (by show ce n p ≤ _; omega))
  have hsm : smallB (ce n p) = true := (ceil_ce ht).2
  have H1 := smallB_iff.1 h1
  have H2 := smallB_iff.1 h2
  have L := smallB_iff.1 hkn.2.1
  have R := smallB_iff.1 hkn.2.2.1
  have hd : spDrift s n p = ⟨s.lo + -ce n p, s.hi + ce n p, true⟩ := by
    unfold spDrift
    rw [ht, if_neg (by rintro (z | z | z | z) <;> first | cases z | omega)]
    show spWider s (ce n p) (ce n p) = _
    unfold spWider
    rw [if_neg (by rw [hsm]; rintro (z | z | z) <;> first | cases z | omega)]
    have hof : spOf (-ce n p) (ce n p) = ⟨-ce n p, ce n p, true⟩ := spOf_yes (by rw [smallB_neg, hsm]; rfl) (by omega)
    rw [hof]
    exact add_known hk (spK_iff.2 ⟨rfl, by rw [smallB_neg]; exact hsm, hsm, by omega⟩) (smallB_true (by dsimp only; omega) (by dsimp only; omega)) (smallB_true (by dsimp only; omega) (by dsimp only; omega))
  rw [e, hd]
  exact spWithin_iff.2 fun _ => ⟨spK_iff.2 ⟨rfl, smallB_true (by omega) (by omega), smallB_true (by omega) (by omega), by omega⟩, by dsimp only; omega, by dsimp only; omega⟩
end Go.Proofs.Ytklnlhphgiipjaa
