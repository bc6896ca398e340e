/-
  Plain laws of delays.
-/
import Derived.Test.YtigpddhffgoioaaMdl
namespace Go.Proofs.Ytigpddhffgoioaa
open Go.RowKit

theorem no_within {s o : Sp} (h : spK o = false) : spWithin s o = true := spWithin_iff.2 fun e => by rw [h] at e; cases e
theorem K_cases (s : Sp) : spK s = true ∨ spK s = false := by cases spK s <;> simp

theorem sync_wider {m1 x1 g1 m2 x2 g2 t1 c t2 : Int} (hc : I64 c) (hp : pRight m1 x1 g1 = true) (hm : m2 ≤ m1) (hx : x1 ≤ x2) (hg : g1 ≤ g2) :
    spWithin (dSync m1 x1 g1 t1 c t2) (dSync m2 x2 g2 t1 c t2) = true := by
  rcases K_cases (dSync m2 x2 g2 t1 c t2) with hk | hk
  · obtain ⟨hr, hb⟩ := sync_inv hc hk
    have hb' := hb
    obtain ⟨r1, r2, r3, r4, r5⟩ := pRight_iff.1 hp
    obtain ⟨h1, h2, h3, h4, h5, h6, h7, h8, h9, h10⟩ := hb
    have cb := corr_bd c
    unfold InS at h1 h2 h3 h4 h5 h6 h7 h8 h9 h10
    have hb2 : SyncB m1 x1 g1 t1 (stDown c) (stUp c) t2 := by unfold SyncB InS; refine ⟨?_, ?_, ?_, ?_, ?_, ?_, ?_, ?_, ?_, ?_⟩ <;> omega
    rw [sync_yes hr hc hb', sync_yes hp hc hb2]
    exact spWithin_iff.2 fun _ => ⟨kn_K hb2.2.2.2.2.2.2.2.2.1 hb2.2.2.2.2.2.2.2.2.2 (by omega), by dsimp only; omega, by dsimp only; omega⟩
  · exact no_within hk

theorem req_wider {m1 x1 g1 m2 x2 g2 t3 c t4 : Int} (hc : I64 c) (hp : pRight m1 x1 g1 = true) (hm : m2 ≤ m1) (hx : x1 ≤ x2) (hg : g1 ≤ g2) :
    spWithin (dReq m1 x1 g1 t3 c t4) (dReq m2 x2 g2 t3 c t4) = true := by
  rcases K_cases (dReq m2 x2 g2 t3 c t4) with hk | hk
  · obtain ⟨hr, hb⟩ := req_inv hc hk
    have hb' := hb
    obtain ⟨r1, r2, r3, r4, r5⟩ := pRight_iff.1 hp
    obtain ⟨h1, h2, h3, h4, h5, h6, h7, h8, h9, h10⟩ := hb
    have cb := corr_bd c
    unfold InS at h1 h2 h3 h4 h5 h6 h7 h8 h9 h10
    have hb2 : ReqB m1 x1 g1 t3 (stDown c) (stUp c) t4 := by unfold ReqB InS; refine ⟨?_, ?_, ?_, ?_, ?_, ?_, ?_, ?_, ?_, ?_⟩ <;> omega
    rw [req_yes hr hc hb', req_yes hp hc hb2]
    exact spWithin_iff.2 fun _ => ⟨kn_K hb2.2.2.2.2.2.2.2.2.1 hb2.2.2.2.2.2.2.2.2.2 (by omega), by dsimp only; omega, by dsimp only; omega⟩
  · exact no_within hk

/-- So small are the numbers of the laws. -/
def InQ (x : Int) : Prop := -1125899906842624 ≤ x ∧ x ≤ 1125899906842624

theorem zero64 : I64 0 := by unfold I64; omega

theorem delay_exact {k x y : Int} (hx : InQ x) (hy : InQ y) (h1 : 0 ≤ k) (h2 : k ≤ 1000000000) :
    dSync k k 0 x 0 (x + k - y) = ⟨y, y, true⟩ ∧ dReq k k 0 (x - y) 0 (x + k) = ⟨y, y, true⟩ := by
  have hr : pRight k k 0 = true := pRight_iff.2 (by omega)
  unfold InQ at hx hy
  constructor
  · have hb : SyncB k k 0 x (stDown 0) (stUp 0) (x + k - y) := by
      rw [corr_zero.1, corr_zero.2]; unfold SyncB InS; refine ⟨?_, ?_, ?_, ?_, ?_, ?_, ?_, ?_, ?_, ?_⟩ <;> omega
    rw [sync_yes hr zero64 hb, corr_zero.1, corr_zero.2]
    rw [show (0 : Int) + k - 2 * 0 + x - (x + k - y) = y by omega, show (0 : Int) + k + 2 * 0 + x - (x + k - y) = y by omega]
  · have hb : ReqB k k 0 (x - y) (stDown 0) (stUp 0) (x + k) := by
      rw [corr_zero.1, corr_zero.2]; unfold ReqB InS; refine ⟨?_, ?_, ?_, ?_, ?_, ?_, ?_, ?_, ?_, ?_⟩ <;> omega
    rw [req_yes hr zero64 hb, corr_zero.1, corr_zero.2]
    rw [show x + k - 0 - k - 2 * 0 - (x - y) = y by omega, show x + k - 0 - k + 2 * 0 - (x - y) = y by omega]

/-- What is true of a message, as a path says. -/
def MayP (mn mx g a o k n w0 w1 : Int) : Prop := pRight mn mx g = true ∧ InQ a ∧ InQ o ∧ InQ k ∧ InQ n ∧ mn ≤ k ∧ k ≤ mx ∧ -g ≤ w0 ∧ w0 ≤ g ∧ -g ≤ w1 ∧ w1 ≤ g

theorem corr64 {n : Int} (h : InQ (n * 16)) : I64 (n * 65536) := by unfold InQ at h; unfold I64; omega

theorem sync_true {mn mx g a o k n w0 w1 : Int} (h : MayP mn mx g a o k n w0 w1) (hn : InQ (n * 16)) :
    ∃ l u, dSync mn mx g (a + w0) (n * 65536) (a + k + n - o + w1) = ⟨l, u, true⟩ ∧ InS l ∧ InS u ∧ l ≤ o ∧ o ≤ u := by
  obtain ⟨hr, h1, h2, h3, h4, h5, h6, h7, h8, h9, h10⟩ := h
  obtain ⟨r1, r2, r3, r4, r5⟩ := pRight_iff.1 hr
  have hc := corr64 hn
  have hw := corr_whole n
  unfold InQ at h1 h2 h3 h4 hn
  have hb : SyncB mn mx g (a + w0) (stDown (n * 65536)) (stUp (n * 65536)) (a + k + n - o + w1) := by
    rw [hw.1, hw.2]; unfold SyncB InS; refine ⟨?_, ?_, ?_, ?_, ?_, ?_, ?_, ?_, ?_, ?_⟩ <;> omega
  refine ⟨_, _, sync_yes hr hc hb, hb.2.2.2.2.2.2.2.2.1, hb.2.2.2.2.2.2.2.2.2, ?_, ?_⟩
  · rw [hw.1]; omega
  · rw [hw.2]; omega
theorem req_true {mn mx g a o k n w0 w1 : Int} (h : MayP mn mx g a o k n w0 w1) (hn : InQ (n * 16)) :
    ∃ l u, dReq mn mx g (a - o + w0) (n * 65536) (a + k + n + w1) = ⟨l, u, true⟩ ∧ InS l ∧ InS u ∧ l ≤ o ∧ o ≤ u := by
  obtain ⟨hr, h1, h2, h3, h4, h5, h6, h7, h8, h9, h10⟩ := h
  obtain ⟨r1, r2, r3, r4, r5⟩ := pRight_iff.1 hr
  have hc := corr64 hn
  have hw := corr_whole n
  unfold InQ at h1 h2 h3 h4 hn
  have hb : ReqB mn mx g (a - o + w0) (stDown (n * 65536)) (stUp (n * 65536)) (a + k + n + w1) := by
    rw [hw.1, hw.2]; unfold ReqB InS; refine ⟨?_, ?_, ?_, ?_, ?_, ?_, ?_, ?_, ?_, ?_⟩ <;> omega
  refine ⟨_, _, req_yes hr hc hb, hb.2.2.2.2.2.2.2.2.1, hb.2.2.2.2.2.2.2.2.2, ?_, ?_⟩
  · rw [hw.2]; omega
  · rw [hw.1]; omega

theorem meet_kn {a b c d : Int} (h1 : InS a) (h2 : InS b) (h3 : a ≤ b) (g1 : InS c) (g2 : InS d) (g3 : c ≤ d) :
    spMeet ⟨a, b, true⟩ ⟨c, d, true⟩ = spOf (if c ≤ a then a else c) (if b ≤ d then b else d) := by
  rcases meet_cases ⟨a, b, true⟩ ⟨c, d, true⟩ with ⟨_, _, e⟩ | ⟨_, e, _⟩ | ⟨e, _⟩ | ⟨e, _⟩
  · exact e
  · rw [kn_K g1 g2 g3] at e; cases e
  · rw [kn_K h1 h2 h3] at e; cases e
  · rw [kn_K h1 h2 h3] at e; cases e

/-- What two messages tell, where neither number is great. -/
theorem two_yes {mn mx g x0 x1 x2 x3 c0 c1 : Int} (hr : pRight mn mx g = true) (hc0 : I64 c0) (hc1 : I64 c1)
    (h0 : -4503599627370496 * 2 ≤ x0 ∧ x0 ≤ 4503599627370496 * 2) (h1 : -4503599627370496 * 2 ≤ x1 ∧ x1 ≤ 4503599627370496 * 2) (h2 : -4503599627370496 * 2 ≤ x2 ∧ x2 ≤ 4503599627370496 * 2) (h3 : -4503599627370496 * 2 ≤ x3 ∧ x3 ≤ 4503599627370496 * 2) :
    dTwo mn mx g x0 x1 x2 x3 c0 c1 = ⟨x1 - x0 - stUp c0 + (x3 - x2 - stUp c1) - 4 * g, x1 - x0 - stDown c0 + (x3 - x2 - stDown c1) + 4 * g, true⟩ := by
  obtain ⟨r1, r2, r3, r4, r5⟩ := pRight_iff.1 hr
  have a1 := corr_in hc0
  have a2 := corr_bd c0
  have b1 := corr_in hc1
  have b2 := corr_bd c1
  have q : ∀ z : Int, -45035996273704960 ≤ z → z ≤ 45035996273704960 → InS z := fun z u v => by unfold InS; omega
  unfold dTwo dWider
  rw [if_pos hr, corr_kn hc0, corr_kn hc1, of_kn (q x0 (by omega) (by omega)) (q x0 (by omega) (by omega)) (Int.le_refl _), of_kn (q x1 (by omega) (by omega)) (q x1 (by omega) (by omega)) (Int.le_refl _),
    of_kn (q x2 (by omega) (by omega)) (q x2 (by omega) (by omega)) (Int.le_refl _), of_kn (q x3 (by omega) (by omega)) (q x3 (by omega) (by omega)) (Int.le_refl _),
    sub_kn (q x1 (by omega) (by omega)) (q x1 (by omega) (by omega)) (Int.le_refl _) (q x0 (by omega) (by omega)) (q x0 (by omega) (by omega)) (Int.le_refl _) (q _ (by omega) (by omega)) (q _ (by omega) (by omega)),
    sub_kn (q x3 (by omega) (by omega)) (q x3 (by omega) (by omega)) (Int.le_refl _) (q x2 (by omega) (by omega)) (q x2 (by omega) (by omega)) (Int.le_refl _) (q _ (by omega) (by omega)) (q _ (by omega) (by omega)),
    sub_kn (q _ (by omega) (by omega)) (q _ (by omega) (by omega)) (Int.le_refl _) (q _ (by omega) (by omega)) (q _ (by omega) (by omega)) a2.1 (q _ (by omega) (by omega)) (q _ (by omega) (by omega)),
    sub_kn (q _ (by omega) (by omega)) (q _ (by omega) (by omega)) (Int.le_refl _) (q _ (by omega) (by omega)) (q _ (by omega) (by omega)) b2.1 (q _ (by omega) (by omega)) (q _ (by omega) (by omega)),
    add_kn (q _ (by omega) (by omega)) (q _ (by omega) (by omega)) (by omega) (q _ (by omega) (by omega)) (q _ (by omega) (by omega)) (by omega) (q _ (by omega) (by omega)) (q _ (by omega) (by omega)),
    wider_kn (q _ (by omega) (by omega)) (q _ (by omega) (by omega)) (by omega) (by omega) (q _ (by omega) (by omega)) (q _ (by omega) (by omega)) (q _ (by omega) (by omega))]

theorem half_told {a : Int} (h : InS a) : floorP a 1 2 = (a / 2, true) ∧ ceilP a 1 2 = (-(-a / 2), true) := by
  have hok : okB a 1 2 = true := by unfold okB; rw [inS h]; rfl
  unfold InS at h
  constructor
  · rw [floorP_yes hok (by omega), Int.mul_one]; exact told_t (smallB_true (by omega) (by omega))
  · rw [ceilP_yes hok (by omega), Int.mul_one]; exact told_t (smallB_true (by omega) (by omega))

theorem both_true {mn mx g a o k n w0 w1 a' o' k' n' w2 w3 : Int} (h : MayP mn mx g a o k n w0 w1) (h' : MayP mn mx g a' o' k' n' w2 w3) (hn : InQ (n * 16)) (hn' : InQ (n' * 16)) :
    ∃ l u l2 u2, dBoth mn mx g (a + w0) (a + k + n - o + w1) (a' - o + w2) (a' + k' + n' + w3) (n * 65536) (n' * 65536) = ⟨l, u, true⟩ ∧ spHas ⟨l, u, true⟩ o = true ∧
      dMean mn mx g (a + w0) (a + k + n - o + w1) (a' - o + w2) (a' + k' + n' + w3) (n * 65536) (n' * 65536) = ⟨l2, u2, true⟩ ∧ spHas ⟨l2, u2, true⟩ ((k + k') / 2) = true := by
  have h2 : MayP mn mx g a' o k' n' w2 w3 := ⟨h'.1, h'.2.1, h.2.2.1, h'.2.2.2⟩
  obtain ⟨l, u, e, i1, i2, i3, i4⟩ := sync_true h hn
  obtain ⟨l', u', e', j1, j2, j3, j4⟩ := req_true h2 hn'
  have hm := meet_kn i1 i2 (Int.le_trans i3 i4) j1 j2 (Int.le_trans j3 j4)
  have e1 : dBoth mn mx g (a + w0) (a + k + n - o + w1) (a' - o + w2) (a' + k' + n' + w3) (n * 65536) (n' * 65536) = ⟨if l' ≤ l then l else l', if u ≤ u' then u else u', true⟩ := by
    unfold dBoth
    rw [e, e', hm]
    exact of_kn (by split <;> assumption) (by split <;> assumption) (by split <;> split <;> omega)
  have hc := corr64 hn
  have hc' := corr64 hn'
  obtain ⟨hr, m1, m2, m3, m4, m5, m6, m7, m8, m9, m10⟩ := h
  obtain ⟨_, p1, p2, p3, p4, p5, p6, p7, p8, p9, p10⟩ := h'
  obtain ⟨r1, r2, r3, r4, r5⟩ := pRight_iff.1 hr
  unfold InQ at m1 m2 m3 m4 p1 p2 p3 p4
  have ht := two_yes (x0 := a + w0) (x1 := a + k + n - o + w1) (x2 := a' - o + w2) (x3 := a' + k' + n' + w3) hr hc hc' (by omega) (by omega) (by omega) (by omega)
  rw [(corr_whole n).1, (corr_whole n).2, (corr_whole n').1, (corr_whole n').2] at ht
  generalize hL : a + k + n - o + w1 - (a + w0) - n + (a' + k' + n' + w3 - (a' - o + w2) - n') - 4 * g = L at ht
  generalize hU : a + k + n - o + w1 - (a + w0) - n + (a' + k' + n' + w3 - (a' - o + w2) - n') + 4 * g = U at ht
  have hLs : InS L := by unfold InS; omega
  have hUs : InS U := by unfold InS; omega
  have e2 : dMean mn mx g (a + w0) (a + k + n - o + w1) (a' - o + w2) (a' + k' + n' + w3) (n * 65536) (n' * 65536) = ⟨L / 2, -(-U / 2), true⟩ := by
    unfold dMean
    rw [ht, if_pos (by rfl)]
    dsimp only
    rw [(half_told hLs).1, (half_told hUs).2]
    unfold InS at hLs hUs
    exact of_kn (by unfold InS; omega) (by unfold InS; omega) (by omega)
  refine ⟨_, _, _, _, e1, ?_, e2, ?_⟩
  · exact spHas_iff.2 fun _ => ⟨by dsimp only; split <;> omega, by dsimp only; split <;> omega⟩
  · exact spHas_iff.2 fun _ => ⟨by dsimp only; omega, by dsimp only; omega⟩

theorem moves_true {mn mx g x0 x1 x2 x3 b : Int} (hr : pRight mn mx g = true) (h0 : InQ x0) (h1 : InQ x1) (h2 : InQ x2) (h3 : InQ x3) (hb : InQ b) :
    dBoth mn mx g (x0 + b) x1 x2 (x3 + b) 0 0 = spShift (dBoth mn mx g x0 x1 x2 x3 0 0) b ∧ dMean mn mx g (x0 + b) x1 x2 (x3 + b) 0 0 = dMean mn mx g x0 x1 x2 x3 0 0 := by
  obtain ⟨r1, r2, r3, r4, r5⟩ := pRight_iff.1 hr
  unfold InQ at h0 h1 h2 h3 hb
  have S : ∀ y : Int, -4503599627370496 ≤ y → y ≤ 4503599627370496 → dSync mn mx g y 0 x1 = ⟨0 + mn - 2 * g + y - x1, 0 + mx + 2 * g + y - x1, true⟩ := by
    intro y u v
    have := sync_yes (t1 := y) (c := 0) (t2 := x1) hr zero64 (by rw [corr_zero.1, corr_zero.2]; unfold SyncB InS; refine ⟨?_, ?_, ?_, ?_, ?_, ?_, ?_, ?_, ?_, ?_⟩ <;> omega)
    rwa [corr_zero.1, corr_zero.2] at this
  have R : ∀ y : Int, -4503599627370496 ≤ y → y ≤ 4503599627370496 → dReq mn mx g x2 0 y = ⟨y - 0 - mx - 2 * g - x2, y - 0 - mn + 2 * g - x2, true⟩ := by
    intro y u v
    have := req_yes (t3 := x2) (c := 0) (t4 := y) hr zero64 (by rw [corr_zero.1, corr_zero.2]; unfold ReqB InS; refine ⟨?_, ?_, ?_, ?_, ?_, ?_, ?_, ?_, ?_, ?_⟩ <;> omega)
    rwa [corr_zero.1, corr_zero.2] at this
  have q : ∀ z : Int, -45035996273704960 ≤ z → z ≤ 45035996273704960 → InS z := fun z u v => by unfold InS; omega
  constructor
  · unfold dBoth
    rw [S x0 (by omega) (by omega), S (x0 + b) (by omega) (by omega), R x3 (by omega) (by omega), R (x3 + b) (by omega) (by omega),
      meet_kn (q _ (by omega) (by omega)) (q _ (by omega) (by omega)) (by omega) (q _ (by omega) (by omega)) (q _ (by omega) (by omega)) (by omega),
      meet_kn (q _ (by omega) (by omega)) (q _ (by omega) (by omega)) (by omega) (q _ (by omega) (by omega)) (q _ (by omega) (by omega)) (by omega)]
    generalize hA : (if x3 - 0 - mx - 2 * g - x2 ≤ 0 + mn - 2 * g + x0 - x1 then 0 + mn - 2 * g + x0 - x1 else x3 - 0 - mx - 2 * g - x2) = A
    generalize hB : (if 0 + mx + 2 * g + x0 - x1 ≤ x3 - 0 - mn + 2 * g - x2 then 0 + mx + 2 * g + x0 - x1 else x3 - 0 - mn + 2 * g - x2) = B
    have eA : (if x3 + b - 0 - mx - 2 * g - x2 ≤ 0 + mn - 2 * g + (x0 + b) - x1 then 0 + mn - 2 * g + (x0 + b) - x1 else x3 + b - 0 - mx - 2 * g - x2) = A + b := by rw [← hA]; split <;> split <;> omega
    have eB : (if 0 + mx + 2 * g + (x0 + b) - x1 ≤ x3 + b - 0 - mn + 2 * g - x2 then 0 + mx + 2 * g + (x0 + b) - x1 else x3 + b - 0 - mn + 2 * g - x2) = B + b := by rw [← hB]; split <;> split <;> omega
    rw [eA, eB]
    have bA : -45035996273704960 ≤ A + b ∧ A + b ≤ 45035996273704960 ∧ -45035996273704960 ≤ A ∧ A ≤ 45035996273704960 := by rw [← hA]; split <;> omega
    have bB : -45035996273704960 ≤ B + b ∧ B + b ≤ 45035996273704960 ∧ -45035996273704960 ≤ B ∧ B ≤ 45035996273704960 := by rw [← hB]; split <;> omega
    by_cases hl : B < A
    · rw [spOf_no2 hl, spOf_no2 (show B + b < A + b by omega)]; rfl
    · have hl := Int.not_lt.1 hl
      rw [of_kn (q _ bA.2.2.1 bA.2.2.2) (q _ bB.2.2.1 bB.2.2.2) hl, of_kn (q _ bA.1 bA.2.1) (q _ bB.1 bB.2.1) (by omega)]
      exact (shift_kn (q _ bA.2.2.1 bA.2.2.2) (q _ bB.2.2.1 bB.2.2.2) hl (q _ (by omega) (by omega)) (q _ bA.1 bA.2.1) (q _ bB.1 bB.2.1)).symm
  · have e : dTwo mn mx g (x0 + b) x1 x2 (x3 + b) 0 0 = dTwo mn mx g x0 x1 x2 x3 0 0 := by
      rw [two_yes hr zero64 zero64 (by omega) (by omega) (by omega) (by omega), two_yes hr zero64 zero64 (by omega) (by omega) (by omega) (by omega), corr_zero.1, corr_zero.2]
      rw [show x1 - (x0 + b) - 0 + (x3 + b - x2 - 0) - 4 * g = x1 - x0 - 0 + (x3 - x2 - 0) - 4 * g by omega, show x1 - (x0 + b) - 0 + (x3 + b - x2 - 0) + 4 * g = x1 - x0 - 0 + (x3 - x2 - 0) + 4 * g by omega]
    unfold dMean
    rw [e]
end Go.Proofs.Ytigpddhffgoioaa
