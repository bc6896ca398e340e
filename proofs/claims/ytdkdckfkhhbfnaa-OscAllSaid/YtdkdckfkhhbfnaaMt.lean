/-
  Plain law: the reference's quotient of rows of digits, its Floor and Ceil (as printed) are what the document says.
-/
import Derived.Test.YtdkdckfkhhbfnaaMs
import Derived.Test.YtdkdckfkhhbfnaaMc
namespace Go.Proofs.Ytdkdckfkhhbfnaa
open Go.RowKit Go.Proofs.Ytdkdckfkhhbfnaa.POscAll Go.Proofs.YtdkdckfkhhbfnaaW.PrintWords

theorem evq {α : Type} {g : Nat → Option α} {r s : α} (h : Ev g r) (e : r = s) : Ev g s := e ▸ h

/-- The greatest number that may be. -/
def top : Int := 4611686018427387904
theorem top_def : top = 4611686018427387904 := rfl

theorem same_ev {p c : List Int} (hp : Dig p) (hc : Dig c) (hlp : p.length ≤ 100) (hlc : c.length ≤ 10) : Ev (fun k => horologeref01_same.f k p c) (decide (val p < (top + 1) * val c)) := by
  obtain ⟨d, hd, hdr⟩ := digits_ev (n := 4611686018427387904) (by omega) (by omega)
  have ld := hdr.l
  have h1 : Dig [1] := Dig_one (by omega) (by omega)
  obtain ⟨s, hs, hsv, hsd, hsl⟩ := sum_ev hdr.d h1 (by omega) (by simp)
  have h1l : ([1] : List Int).length = 1 := rfl
  obtain ⟨q, hq, hqr⟩ := product_ev hsd hc (by omega) (by omega)
  have lq := hqr.l
  have hl := less_ev hp hqr.d (by omega) (by omega)
  rw [hqr.v, hsv, hdr.v, val_one] at hl
  unfold horologeref01_same.f
  exact Ev.bind hd (Ev.bind hs (Ev.bind hq (Ev.bind hl (Ev.now _))))

/-- Bit by bit. -/
theorem whole_l0 (p c : List Int) (hp : Dig p) (hc : Dig c) (hlp : p.length ≤ 100) (hlc : c.length ≤ 10) (hc1 : 1 ≤ val c) (hP : val p ≤ top * val c) (j : Nat) : ∀ (q s : Int), j ≤ 63 → (∃ e : Int, (j = 0 ∧ s = 0 ∧ e = 1 ∨ 1 ≤ j ∧ s = 2 ^ (j - 1) ∧ e = 2 ^ j) ∧ val p < (q + e) * val c) → 0 ≤ q → q ≤ top → q * val c ≤ val p →
    Ev (fun k => horologeref01_whole.l0 k p c q s) (val p / val c, true) := by
  induction j with
  | zero =>
    intro q s _ he h0 hq hle
    obtain ⟨e, he, hlt⟩ := he
    have hs : s = 0 := by omega
    have he1 : e = 1 := by omega
    subst hs he1
    have : val p / val c = q := by
      have h1 : q ≤ val p / val c := Int.le_ediv_of_mul_le (by omega) hle
      have h2 : val p / val c < q + 1 := Int.ediv_lt_of_lt_mul (by omega) hlt
      omega
    rw [this]
    refine Ev.step (f := fun _ => some (q, true)) (fun k => ?_) (Ev.now _)
    simp only [horologeref01_whole.l0]
    rw [if_neg (by omega)]
  | succ j ih =>
    intro q s hj he h0 hq hle
    obtain ⟨e, he, hlt⟩ := he
    have hs : s = 2 ^ j := by
      rcases he with h | h
      · omega
      · simpa using h.2.1
    have he1 : e = 2 * s := by
      rcases he with h | h
      · omega
      · rw [h.2.2, hs, Int.pow_succ]; omega
    have hspos : 0 < s := by rw [hs]; exact Int.pow_pos (by omega)
    have hs62 : s ≤ top := by
      rw [hs, top_def]
      have h : (2 : Nat) ^ j ≤ 2 ^ 62 := Nat.pow_le_pow_right (by omega) (by omega)
      have : ((2 ^ j : Nat) : Int) ≤ ((2 ^ 62 : Nat) : Int) := Int.ofNat_le.2 h
      simpa using this
    have hhalf : wrap64 (Int.tdiv s 2) = s / 2 := by
      rw [top_def] at hs62
      rw [Int.tdiv_eq_ediv_of_nonneg (by omega)]; exact wr (by omega) (by omega)
    have hnext : ∃ e' : Int, (j = 0 ∧ s / 2 = 0 ∧ e' = 1 ∨ 1 ≤ j ∧ s / 2 = 2 ^ (j - 1) ∧ e' = 2 ^ j) ∧ e' = s := by
      refine ⟨s, ?_, rfl⟩
      cases j with
      | zero => left; simp at hs; omega
      | succ j' =>
        right
        refine ⟨by omega, ?_, hs⟩
        rw [hs, Int.pow_succ]; simp
    obtain ⟨e', he', rfl⟩ := hnext
    have hcond : (q ≤ wrap64 (4611686018427387904 - e')) ↔ q + e' ≤ top := by
      rw [top_def] at hs62 ⊢
      rw [wr (by omega) (by omega)]; omega
    by_cases hfit : q + e' ≤ top
    · have hfit2 := hfit
      rw [top_def] at hfit2 hs62
      have hsum : wrap64 (q + e') = q + e' := wr (by omega) (by omega)
      obtain ⟨d, hd, hdr⟩ := digits_ev (n := q + e') (by omega) (by omega)
      have ld := hdr.l
      obtain ⟨r, hr, hrr⟩ := product_ev hdr.d hc (by omega) (by omega)
      have lr := hrr.l
      have hl := less_ev hp hrr.d (by omega) (by omega)
      rw [hrr.v, hdr.v] at hl
      refine Ev.step (f := fun k => (horologeref01_digits.f k (q + e')).bind fun t193 => ((horologeref01_product.f k t193 c).bind fun t196 => ((horologeref01_less.f k p t196).bind fun t199 => (if t199 = true then (horologeref01_whole.l0 k p c q (e' / 2)) else (horologeref01_whole.l0 k p c (q + e') (e' / 2)))))) (fun k => ?_)
        (Ev.bind (f := fun k t193 => ((horologeref01_product.f k t193 c).bind fun t196 => ((horologeref01_less.f k p t196).bind fun t199 => (if t199 = true then (horologeref01_whole.l0 k p c q (e' / 2)) else (horologeref01_whole.l0 k p c (q + e') (e' / 2)))))) hd
          (Ev.bind (f := fun k t196 => ((horologeref01_less.f k p t196).bind fun t199 => (if t199 = true then (horologeref01_whole.l0 k p c q (e' / 2)) else (horologeref01_whole.l0 k p c (q + e') (e' / 2))))) hr
            (Ev.bind (f := fun k t199 => (if t199 = true then (horologeref01_whole.l0 k p c q (e' / 2)) else (horologeref01_whole.l0 k p c (q + e') (e' / 2)))) hl ?_)))
      · simp only [horologeref01_whole.l0]
        rw [if_pos (by omega), if_pos (hcond.2 hfit), hsum, hhalf]
      · by_cases hlt2 : val p < (q + e') * val c
        · refine Ev.congr (f := fun k => horologeref01_whole.l0 k p c q (e' / 2)) (fun k => ?_) (ih q (e' / 2) (by omega) ⟨e', he', hlt2⟩ h0 hq hle)
          rw [decide_eq_true hlt2, if_pos rfl]
        · refine Ev.congr (f := fun k => horologeref01_whole.l0 k p c (q + e') (e' / 2)) (fun k => ?_) (ih (q + e') (e' / 2) (by omega) ⟨e', he', ?_⟩ (by omega) hfit (by omega))
          · rw [decide_eq_false hlt2, if_neg (by decide)]
          · rw [he1] at hlt
            rw [show q + e' + e' = q + 2 * e' from by omega]; exact hlt
    · refine Ev.step (f := fun k => horologeref01_whole.l0 k p c q (e' / 2)) (fun k => ?_) (ih q (e' / 2) (by omega) ⟨e', he', ?_⟩ h0 hq hle)
      · simp only [horologeref01_whole.l0]
        rw [if_pos (by omega), if_neg (fun h => hfit (hcond.1 h)), hhalf]
      · have : (top + 1) * val c ≤ (q + e') * val c := Int.mul_le_mul_of_nonneg_right (by omega) (by omega)
        rw [Int.add_mul] at this
        omega

theorem whole_ev {p c : List Int} (hp : Dig p) (hc : Dig c) (hlp : p.length ≤ 100) (hlc : c.length ≤ 10) (hc1 : 1 ≤ val c) :
    Ev (fun k => horologeref01_whole.f k p c) (if top * val c < val p then (top, decide (val p < (top + 1) * val c)) else (val p / val c, true)) := by
  obtain ⟨d, hd, hdr⟩ := digits_ev (n := 4611686018427387904) (by omega) (by omega)
  have ld := hdr.l
  obtain ⟨q, hq, hqr⟩ := product_ev hdr.d hc (by omega) (by omega)
  have lq := hqr.l
  have hl := less_ev hqr.d hp (by omega) (by omega)
  rw [hqr.v, hdr.v, ← top_def] at hl
  unfold horologeref01_whole.f
  refine Ev.bind hd (Ev.bind hq (Ev.bind hl ?_))
  by_cases h : top * val c < val p
  · rw [if_pos h, decide_eq_true h]
    exact Ev.congr (f := fun k => (horologeref01_same.f k p c).bind fun t192 => some (4611686018427387904, t192)) (fun k => by rw [if_pos rfl]) (Ev.bind (f := fun _ t192 => some (4611686018427387904, t192)) (same_ev hp hc hlp hlc) (Ev.now _))
  · rw [if_neg h, decide_eq_false h]
    refine Ev.congr (f := fun k => horologeref01_whole.l0 k p c 0 4611686018427387904) (fun k => by rw [if_neg (by decide)]) ?_
    refine whole_l0 p c hp hc hlp hlc hc1 (by omega) 63 0 4611686018427387904 (by omega) ⟨9223372036854775808, .inr ⟨by omega, by decide, by decide⟩, ?_⟩ (by omega) (by rw [top_def]; omega) (by have := val_nonneg hp; omega)
    rw [top_def] at h
    omega
end Go.Proofs.Ytdkdckfkhhbfnaa
