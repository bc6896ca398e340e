/-
  Plain law: the reference's Floor and Ceil (as printed) are what the document says.
-/
import Derived.Test.YtdkdckfkhhbfnaaMt
import Derived.Test.YtdkdckfkhhbfnaaWb
namespace Go.Proofs.Ytdkdckfkhhbfnaa
open Go.RowKit Go.Proofs.Ytdkdckfkhhbfnaa.POscAll Go.Proofs.YtdkdckfkhhbfnaaW.PrintWords

theorem small_f (n : Int) : horologeref01_Small.f n = some (smallB n) := by
  unfold horologeref01_Small.f
  by_cases h : n ≥ -4611686018427387904
  · rw [if_pos h]; unfold smallB; rw [decide_eq_true (show -4611686018427387904 ≤ n by omega), Bool.true_and]
  · rw [if_neg h, smallB_low (by omega)]
theorem abs_f (n : Int) : horologeref01_Abs.f n = some (absP n) := by
  unfold horologeref01_Abs.f absP
  rw [small_f]
  simp only [Option.bind_some]
  cases h : smallB n with
  | false => simp
  | true =>
    have hb := smallB_iff.1 h
    rw [if_pos rfl, if_pos rfl]
    by_cases hn : n < 0
    · rw [if_pos hn, if_pos hn, wr (by omega) (by omega)]
    · rw [if_neg hn, if_neg hn]

theorem whole_cases {p c : List Int} (hp : Dig p) (hc : Dig c) (hlp : p.length ≤ 100) (hlc : c.length ≤ 10) (hc1 : 1 ≤ val c) :
    (val p / val c ≤ top ∧ Ev (fun k => horologeref01_whole.f k p c) (val p / val c, true)) ∨ (top < val p / val c ∧ Ev (fun k => horologeref01_whole.f k p c) (top, false)) := by
  have h := whole_ev hp hc hlp hlc hc1
  have h0 := val_nonneg hp
  by_cases h1 : top * val c < val p
  · rw [if_pos h1] at h
    by_cases h2 : val p < (top + 1) * val c
    · left
      have : val p / val c = top := by
        have a1 : top ≤ val p / val c := Int.le_ediv_of_mul_le (by omega) (by omega)
        have a2 : val p / val c < top + 1 := Int.ediv_lt_of_lt_mul (by omega) h2
        omega
      rw [decide_eq_true h2] at h
      rw [this]
      exact ⟨Int.le_refl _, h⟩
    · right
      rw [decide_eq_false h2] at h
      have a1 : top + 1 ≤ val p / val c := Int.le_ediv_of_mul_le (by omega) (by omega)
      exact ⟨by omega, h⟩
  · rw [if_neg h1] at h
    left
    have a2 : val p / val c < top + 1 := Int.ediv_lt_of_lt_mul (by omega) (by rw [Int.add_mul]; omega)
    exact ⟨by omega, h⟩

theorem j1_ev {p : List Int} {c : Int} (hp : Dig p) (hlp : p.length ≤ 100) (hc1 : 1 ≤ c) (hc2 : c ≤ 4611686018427387904) (hq : val p / c ≤ top) :
    Ev (fun k => horologeref01_Floor.j1 k c p (val p / c) false) (if 0 < val p % c then toldP (-(val p / c) - 1) else toldP (-(val p / c))) := by
  have h0 := val_nonneg hp
  have hq0 : 0 ≤ val p / c := Int.ediv_nonneg h0 (by omega)
  have hdm := Int.mul_ediv_add_emod (val p) c
  have hm0 := Int.emod_nonneg (val p) (show c ≠ 0 by omega)
  rw [top_def] at hq
  obtain ⟨d, hd, hdr⟩ := digits_ev (n := val p / c) hq0 (by omega)
  obtain ⟨e, he, her⟩ := digits_ev (n := c) (by omega) (by omega)
  have ld := hdr.l
  have le := her.l
  obtain ⟨r, hr, hrr⟩ := product_ev hdr.d her.d (by omega) (by omega)
  have lr := hrr.l
  have hl := less_ev hrr.d hp (by omega) (by omega)
  rw [hrr.v, hdr.v, her.v, Int.mul_comm] at hl
  generalize val p / c = q at *
  have hdec : decide (c * q < val p) = decide (0 < val p % c) := by rw [decide_eq_decide]; omega
  rw [hdec] at hl
  refine Ev.step (f := fun k => (horologeref01_digits.f k q).bind ((fun k t219 => ((horologeref01_digits.f k c).bind fun t222 => ((horologeref01_product.f k t219 t222).bind fun t225 => ((horologeref01_less.f k t225 p).bind fun t228 => (if t228 = true then ((horologeref01_Small.f (wrap64 (q + 1))).bind fun t229 => (if t229 = true then (some (wrap64 (-(wrap64 (q + 1))), true)) else (some (0, false)))) else ((horologeref01_Small.f q).bind fun t230 => (if t230 = true then (some (wrap64 (-q), true)) else (some (0, false))))))))) k)) (fun k => ?_) (Ev.bind (f := fun k t219 => ((horologeref01_digits.f k c).bind fun t222 => ((horologeref01_product.f k t219 t222).bind fun t225 => ((horologeref01_less.f k t225 p).bind fun t228 => (if t228 = true then ((horologeref01_Small.f (wrap64 (q + 1))).bind fun t229 => (if t229 = true then (some (wrap64 (-(wrap64 (q + 1))), true)) else (some (0, false)))) else ((horologeref01_Small.f q).bind fun t230 => (if t230 = true then (some (wrap64 (-q), true)) else (some (0, false))))))))) hd (Ev.bind (f := fun k t222 => ((horologeref01_product.f k d t222).bind fun t225 => ((horologeref01_less.f k t225 p).bind fun t228 => (if t228 = true then ((horologeref01_Small.f (wrap64 (q + 1))).bind fun t229 => (if t229 = true then (some (wrap64 (-(wrap64 (q + 1))), true)) else (some (0, false)))) else ((horologeref01_Small.f q).bind fun t230 => (if t230 = true then (some (wrap64 (-q), true)) else (some (0, false)))))))) he (Ev.bind (f := fun k t225 => ((horologeref01_less.f k t225 p).bind fun t228 => (if t228 = true then ((horologeref01_Small.f (wrap64 (q + 1))).bind fun t229 => (if t229 = true then (some (wrap64 (-(wrap64 (q + 1))), true)) else (some (0, false)))) else ((horologeref01_Small.f q).bind fun t230 => (if t230 = true then (some (wrap64 (-q), true)) else (some (0, false))))))) hr (Ev.bind (f := fun _ t228 => (if t228 = true then ((horologeref01_Small.f (wrap64 (q + 1))).bind fun t229 => (if t229 = true then (some (wrap64 (-(wrap64 (q + 1))), true)) else (some (0, false)))) else ((horologeref01_Small.f q).bind fun t230 => (if t230 = true then (some (wrap64 (-q), true)) else (some (0, false)))))) hl ?_))))
  · simp only [horologeref01_Floor.j1]
    rw [if_neg (by decide)]
  · rw [small_f, small_f, wr (n := q + 1) (by omega) (by omega), wr (n := -(q + 1)) (by omega) (by omega), wr (n := -q) (by omega) (by omega)]
    simp only [Option.bind_some]
    refine Ev.congr (f := fun _ => some _) (fun k => ?_) (Ev.now _)
    by_cases hm : 0 < val p % c
    · rw [decide_eq_true hm, if_pos rfl, if_pos hm]
      unfold toldP
      rw [show -q - 1 = -(q + 1) from by omega, smallB_neg]
      split <;> rfl
    · rw [decide_eq_false hm, if_neg (by decide), if_neg hm]
      unfold toldP
      rw [smallB_neg]
      split <;> rfl

theorem floor_ev (a b c : Int) : Ev (fun k => horologeref01_Floor.f k a b c) (floorP a b c) := by
  have no : ∀ k, horologeref01_Floor.j0 (k + 1) a b c true = some (0, false) := fun k => by simp [horologeref01_Floor.j0]
  by_cases hok : okB a b c = true ∧ 1 ≤ c
  · obtain ⟨hok, hc1⟩ := hok
    obtain ⟨ha, hbc⟩ := Bool.and_eq_true_iff.1 hok
    obtain ⟨hb, hcs⟩ := Bool.and_eq_true_iff.1 hbc
    have hcb := smallB_iff.1 hcs
    obtain ⟨A, hA⟩ : ∃ A, absP a = A := ⟨_, rfl⟩
    obtain ⟨B, hB⟩ : ∃ B, absP b = B := ⟨_, rfl⟩
    have hAb := absP_bd ha
    have hBb := absP_bd hb
    rw [hA] at hAb
    rw [hB] at hBb
    obtain ⟨x, hx, hxr⟩ := digits_ev (n := A) hAb.1 (by omega)
    obtain ⟨y, hy, hyr⟩ := digits_ev (n := B) hBb.1 (by omega)
    obtain ⟨z, hz, hzr⟩ := digits_ev (n := c) (by omega) (by omega)
    have lx := hxr.l
    have ly := hyr.l
    have lz := hzr.l
    obtain ⟨p, hp, hpr⟩ := product_ev hxr.d hyr.d (by omega) (by omega)
    have lp := hpr.l
    have hpv : val p = A * B := by rw [hpr.v, hxr.v, hyr.v]
    have hw := whole_cases hpr.d hzr.d (by omega) (by omega) (by rw [hzr.v]; exact hc1)
    rw [hzr.v] at hw
    refine Ev.congr (f := fun k => horologeref01_Floor.j0 k a b c false) (fun k => ?_) ?_
    · unfold horologeref01_Floor.f
      rw [small_f, small_f, small_f, ha, hb, hcs, decide_eq_false (show ¬ c < 1 by omega)]
      rfl
    · refine Ev.step (f := fun k => ((horologeref01_digits.f k A).bind fun t204 => ((horologeref01_digits.f k B).bind fun t208 => ((horologeref01_product.f k t204 t208).bind fun t211 => ((horologeref01_digits.f k c).bind fun t214 => ((horologeref01_whole.f k t211 t214).bind fun bt217 => (if bt217.2 = true then (if (t211.length : Int) = 0 then (horologeref01_Floor.j1 k c t211 bt217.1 true) else (horologeref01_Floor.j1 k c t211 bt217.1 ((decide (a < 0)) == (decide (b < 0))))) else (some (0, false)))))))))  (fun k => ?_) ?_
      · simp only [horologeref01_Floor.j0]
        rw [if_neg (by decide), abs_f, abs_f, hA, hB]
        rfl
      · refine Ev.bind hx (Ev.bind hy (Ev.bind hp (Ev.bind hz ?_)))
        rcases hw with ⟨hq, hw⟩ | ⟨hq, hw⟩
        · refine Ev.bind (f := fun k bt217 => (if bt217.2 = true then (if (p.length : Int) = 0 then (horologeref01_Floor.j1 k c p bt217.1 true) else (horologeref01_Floor.j1 k c p bt217.1 ((decide (a < 0)) == (decide (b < 0))))) else (some (0, false)))) hw ?_
          have hqs : smallB (val p / c) = true := smallB_true (by have := Int.ediv_nonneg (val_nonneg hpr.d) (show 0 ≤ c by omega); omega) hq
          have hup : ∀ t, t = true → Ev (fun k => horologeref01_Floor.j1 k c p (val p / c) t) (val p / c, true) := fun t ht => Ev.step (f := fun _ => some (val p / c, true)) (fun k => by simp [horologeref01_Floor.j1, ht]) (Ev.now _)
          by_cases hlen : (p.length : Int) = 0
          · refine Ev.congr (f := fun k => horologeref01_Floor.j1 k c p (val p / c) true) (fun k => ?_) (evq (hup true rfl) ?_)
            · rw [if_pos rfl, if_pos hlen]
            · have hp0 : p = [] := by cases p with
                | nil => rfl
                | cons d r => simp at hlen; omega
              rw [hp0] at hpv ⊢
              have h0 : A * B = 0 := by rw [← hpv]; rfl
              have hval : val [] / c = 0 := by show (0 : Int) / c = 0; exact Int.zero_ediv c
              rw [hval]
              cases hbl : (decide (a < 0) != decide (b < 0)) with
              | false => rw [floor_up hok hc1 hA hB rfl hbl, h0, Int.zero_ediv]; rfl
              | true => rw [floor_even hok hc1 hA hB rfl hbl (by rw [h0, Int.zero_emod]; rfl), h0, Int.zero_ediv]; rfl
          · cases hbl : (decide (a < 0) != decide (b < 0)) with
            | false =>
              have hbe : (decide (a < 0) == decide (b < 0)) = true := by cases h1 : decide (a < 0) <;> cases h2 : decide (b < 0) <;> simp_all
              refine Ev.congr (f := fun k => horologeref01_Floor.j1 k c p (val p / c) true) (fun k => ?_) (evq (hup true rfl) ?_)
              · rw [if_pos rfl, if_neg hlen, hbe]
              · rw [floor_up hok hc1 hA hB rfl hbl, ← hpv, told_t hqs]
            | true =>
              have hbe : (decide (a < 0) == decide (b < 0)) = false := by cases h1 : decide (a < 0) <;> cases h2 : decide (b < 0) <;> simp_all
              refine Ev.congr (f := fun k => horologeref01_Floor.j1 k c p (val p / c) false) (fun k => ?_) (evq (j1_ev hpr.d (by omega) hc1 hcb.2 hq) ?_)
              · rw [if_pos rfl, if_neg hlen, hbe]
              · by_cases hm : 0 < val p % c
                · rw [if_pos hm, floor_more hok hc1 hA hB rfl hbl (by rw [← hpv]; exact decide_eq_true hm), ← hpv]
                · rw [if_neg hm, floor_even hok hc1 hA hB rfl hbl (by rw [← hpv]; exact decide_eq_false hm), ← hpv]
        · refine Ev.bind (f := fun k bt217 => (if bt217.2 = true then (if (p.length : Int) = 0 then (horologeref01_Floor.j1 k c p bt217.1 true) else (horologeref01_Floor.j1 k c p bt217.1 ((decide (a < 0)) == (decide (b < 0))))) else (some (0, false)))) hw ?_
          refine Ev.congr (f := fun _ => some (0, false)) (fun k => by rw [if_neg (by decide)]) (evq (Ev.now _) ?_)
          rw [floor_big hok hc1 hA hB rfl (by rw [← hpv]; exact hq)]
  · have hno : floorP a b c = (0, false) := floorP_no (by cases h : okB a b c <;> simp_all)
    rw [hno]
    refine Ev.congr (f := fun k => horologeref01_Floor.j0 k a b c true) (fun k => ?_) (Ev.step (f := fun _ => some (0, false)) (fun k => no k) (Ev.now _))
    unfold horologeref01_Floor.f
    rw [small_f, small_f, small_f]
    simp only [Option.bind_some]
    cases h1 : smallB a with
    | false => rfl
    | true =>
      cases h2 : smallB b with
      | false => rfl
      | true =>
        cases h3 : smallB c with
        | false => rfl
        | true =>
          have : okB a b c = true := by unfold okB; rw [h1, h2, h3]; rfl
          have hlt : c < 1 := by
            by_cases hh : c < 1
            · exact hh
            · exact absurd ⟨this, by omega⟩ hok
          rw [decide_eq_true hlt]
          rfl

end Go.Proofs.Ytdkdckfkhhbfnaa
