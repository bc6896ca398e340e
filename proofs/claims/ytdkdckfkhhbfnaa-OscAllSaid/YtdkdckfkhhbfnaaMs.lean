/-
  Plain law: the reference's products and comparison of rows of digits (as printed) are what they are worth.
-/
import Derived.Test.YtdkdckfkhhbfnaaMr
namespace Go.Proofs.Ytdkdckfkhhbfnaa
open Go.RowKit Go.Proofs.Ytdkdckfkhhbfnaa.POscAll Go.Proofs.YtdkdckfkhhbfnaaW.PrintWords

theorem times_l0 (a : List Int) (d : Int) (up : Nat) (ha : Dig a) (hla : a.length ≤ 100) (h0 : 0 ≤ d) (h1 : d < 32768) (hup : up ≤ 100) (m : Nat) : ∀ (i : Nat) (out : List Int) (c : Int), (a.length + 1 - i = m) → i ≤ a.length + 1 → out.length = up + i → Dig out → 0 ≤ c → c < 32768 →
    (i = a.length + 1 → c = 0) →
    ∃ r, Ev (fun k => horologeref01_times.l0 k a d out c i) r ∧ IsRow r (val out + 32768 ^ (up + i) * (c + d * val (a.drop i))) (up + a.length + 1) := by
  have fin : ∀ (i : Nat) (out : List Int), a.length ≤ i → i ≤ a.length + 1 → out.length = up + i → Dig out → ∃ r, Ev (fun k => horologeref01_times.l0 k a d out 0 i) r ∧ IsRow r (val out + 32768 ^ (up + i) * (0 + d * val (a.drop i))) (up + a.length + 1) := by
    intro i out hi hi2 ho hd
    obtain ⟨r, hr, hrow⟩ := trimmed_ev out (by omega) hd
    refine ⟨r, Ev.step (f := fun k => (horologeref01_trimmed.f k out).bind fun t => some t) (fun k => ?_) (Ev.bind (f := fun _ t => some t) hr (Ev.now _)), ?_⟩
    · simp only [horologeref01_times.l0]
      rw [if_neg (by omega), if_neg (by omega)]
    · rw [val_drop_end i hi, Int.mul_zero, Int.add_zero, Int.mul_zero, Int.add_zero]
      exact ⟨hrow.v, hrow.d, hrow.t, by have := hrow.l; omega⟩
  induction m with
  | zero =>
    intro i out c hm hi ho hd h2 h3 hc
    have hc0 : c = 0 := hc (by omega)
    subst hc0
    exact fin i out (by omega) hi ho hd
  | succ m ih =>
    intro i out c hm hi ho hd h2 h3 hc
    have hda := Dig_get ha i
    have hp : 0 ≤ a.getD i 0 * d ∧ a.getD i 0 * d ≤ 32767 * 32767 := ⟨Int.mul_nonneg hda.1 h0, Int.mul_le_mul (by omega) (by omega) h0 (by omega)⟩
    generalize hP : a.getD i 0 * d = p at hp
    have hq := tq (n := p + c) (by omega) (by omega)
    have step : ∀ k, ((horologeref01_digit.f a i).bind fun t => (if out.length < 17592186044416 then (horologeref01_times.l0 k a d (out ++ [Int.tmod (wrap64 ((wrap64 (t * d)) + c)) 32768]) (wrap64 (Int.tdiv (wrap64 ((wrap64 (t * d)) + c)) 32768)) (wrap64 ((i : Int) + 1))) else none)) = horologeref01_times.l0 k a d (out ++ [(p + c) % 32768]) ((p + c) / 32768) ((i + 1 : Nat) : Int) := by
      intro k
      rw [digit_ev a i i rfl]
      simp only [Option.bind_some]
      rw [if_pos (by omega), hP, wr (n := p) (by omega) (by omega), wr (n := p + c) (by omega) (by omega), hq.1, hq.2, wr (by omega) (by omega)]
      rfl
    by_cases hgo : i < a.length ∨ 0 < c
    · obtain ⟨r, hr, hrow⟩ := ih (i + 1) (out ++ [(p + c) % 32768]) ((p + c) / 32768) (by omega) (by omega) (by simp; omega) (Dig_app hd (Dig_one (by omega) (by omega))) (by omega) (by omega) (by
        intro e
        rw [getD_ge (show a.length ≤ i by omega), Int.zero_mul] at hP; omega)
      refine ⟨r, Ev.step (f := fun k => horologeref01_times.l0 k a d (out ++ [(p + c) % 32768]) ((p + c) / 32768) ((i + 1 : Nat) : Int)) (fun k => ?_) hr, ?_⟩
      · simp only [horologeref01_times.l0]
        by_cases h1 : i < a.length
        · rw [if_pos (by omega)]; exact step k
        · rw [if_neg (by omega), if_pos (by omega)]; exact step k
      · refine ⟨hrow.v.trans ?_, hrow.d, hrow.t, hrow.l⟩
        rw [val_app, val_one, ho, val_drop_any (l := a) i, Nat.add_succ, Int.pow_succ, Int.mul_assoc (32768 ^ (up + i)) 32768, Int.add_assoc (val out), ← Int.mul_add]
        congr 2
        rw [Int.mul_add, Int.mul_add, Int.mul_comm d (a.getD i 0), hP, ← Int.mul_assoc d 32768, Int.mul_comm d 32768, Int.mul_assoc 32768 d]
        omega
    · have hc0 : c = 0 := by omega
      subst hc0
      exact fin i out (by omega) hi ho hd

theorem times_ev {a : List Int} {d : Int} {up : Nat} (ha : Dig a) (hla : a.length ≤ 100) (h0 : 0 ≤ d) (h1 : d < 32768) (hup : up ≤ 100) (j : Int) (hj : j = up) :
    ∃ r, Ev (fun k => horologeref01_times.f k a d j) r ∧ IsRow r (32768 ^ up * (d * val a)) (up + a.length + 1) := by
  subst hj
  obtain ⟨r, hr, hrow⟩ := times_l0 a d up ha hla h0 h1 hup _ 0 (List.replicate up 0) 0 rfl (by omega) (by simp) (Dig_rep up) (by omega) (by omega) (by intro h; omega)
  refine ⟨r, Ev.congr (f := fun k => horologeref01_times.l0 k a d (List.replicate up 0) 0 0) (fun k => ?_) hr, ?_⟩
  · simp only [horologeref01_times.f]
    rw [if_pos (by omega), if_pos (by omega), Int.toNat_natCast]
  · rw [val_rep, Nat.add_zero, Int.zero_add, Int.zero_add] at hrow
    exact hrow

theorem product_l0 (a b : List Int) (ha : Dig a) (hb : Dig b) (hla : a.length ≤ 20) (hlb : b.length ≤ 20) (m : Nat) : ∀ (i : Nat) (out : List Int), b.length - i = m → i ≤ b.length → Dig out → out.length ≤ a.length + i + 1 → val out = val a * val (b.take i) →
    ∃ r, Ev (fun k => horologeref01_product.l0 k a b out i) r ∧ IsRow r (val a * val b) (a.length + b.length + 1) := by
  induction m with
  | zero =>
    intro i out hm hi hd hl hv
    obtain rfl : i = b.length := by omega
    obtain ⟨r, hr, hrow⟩ := trimmed_ev out (by omega) hd
    refine ⟨r, Ev.step (f := fun k => (horologeref01_trimmed.f k out).bind fun t => some t) (fun k => ?_) (Ev.bind (f := fun _ t => some t) hr (Ev.now _)), ?_⟩
    · simp only [horologeref01_product.l0]
      rw [if_neg (by omega)]
    · rw [List.take_length] at hv
      exact ⟨hrow.v.trans hv, hrow.d, hrow.t, by have := hrow.l; omega⟩
  | succ m ih =>
    intro i out hm hi hd hl hv
    have hdb := Dig_get hb i
    obtain ⟨t, ht, htr⟩ := times_ev (a := a) (d := b.getD i 0) (up := i) ha (by omega) hdb.1 hdb.2 (by omega) i rfl
    have htl := htr.l
    obtain ⟨s, hs, hsv, hsd, hsl⟩ := sum_ev hd htr.d (by omega) (by omega)
    obtain ⟨r, hr, hrow⟩ := ih (i + 1) s (by omega) (by omega) hsd (by omega) (by
      rw [hsv, hv, htr.v, val_take_succ i (by omega), Int.mul_add, ← Int.mul_assoc, Int.mul_comm (val a) (32768 ^ i * b.getD i 0)])
    refine ⟨r, Ev.step (f := fun k => (horologeref01_times.f k a (b.getD i 0) i).bind fun t => (horologeref01_sum.f k out t).bind fun u => horologeref01_product.l0 k a b u ((i + 1 : Nat) : Int)) (fun k => ?_)
      (Ev.bind (f := fun k t => (horologeref01_sum.f k out t).bind fun u => horologeref01_product.l0 k a b u ((i + 1 : Nat) : Int)) ht (Ev.bind (f := fun k u => horologeref01_product.l0 k a b u ((i + 1 : Nat) : Int)) hs hr)), hrow⟩
    simp only [horologeref01_product.l0]
    rw [if_pos (by omega), if_pos (by omega), wr (by omega) (by omega)]
    rfl

theorem product_ev {a b : List Int} (ha : Dig a) (hb : Dig b) (hla : a.length ≤ 20) (hlb : b.length ≤ 20) : ∃ r, Ev (fun k => horologeref01_product.f k a b) r ∧ IsRow r (val a * val b) (a.length + b.length + 1) :=
  product_l0 a b ha hb hla hlb _ 0 [] rfl (by omega) Dig_nil (by simp) (by simp [val])

theorem less_l0 (a b : List Int) (ha : Dig a) (hb : Dig b) (hl : a.length = b.length) (hla : a.length ≤ 1000) (i : Nat) : ∀ (j : Int), i ≤ a.length → j = (i : Int) - 1 →
    Ev (fun k => horologeref01_less.l0 k a b j) (decide (val (a.take i) < val (b.take i))) := by
  induction i with
  | zero =>
    intro j _ hj
    subst hj
    refine Ev.step (f := fun _ => some false) (fun k => ?_) (by simpa [val] using Ev.now false)
    simp only [horologeref01_less.l0]
    rw [if_neg (by omega)]
  | succ i ih =>
    intro j hi hj
    obtain rfl : j = (i : Int) := by omega
    have hih := ih ((i : Int) - 1) (by omega) rfl
    have va := val_take_succ (l := a) i (by omega)
    have vb := val_take_succ (l := b) i (by omega)
    have ga := val_nonneg (Dig_take ha i)
    have gb := val_nonneg (Dig_take hb i)
    have la := val_lt (Dig_take ha i)
    have lb := val_lt (Dig_take hb i)
    rw [List.length_take, Nat.min_eq_left (by omega)] at la lb
    have hrd : ∀ l : List Int, rd l (i : Int) = l.getD i 0 := fun l => by simp [rd]
    by_cases he : a.getD i 0 = b.getD i 0
    · have : decide (val (a.take (i + 1)) < val (b.take (i + 1))) = decide (val (a.take i) < val (b.take i)) := by
        rw [va, vb, he, decide_eq_decide]; omega
      rw [this]
      refine Ev.step (f := fun k => horologeref01_less.l0 k a b ((i : Int) - 1)) (fun k => ?_) hih
      simp only [horologeref01_less.l0]
      rw [if_pos (by omega), if_pos (by omega), if_pos (by omega), if_pos (by omega), hrd, hrd, if_pos he, wr (by omega) (by omega)]
    · have : decide (val (a.take (i + 1)) < val (b.take (i + 1))) = decide (a.getD i 0 < b.getD i 0) := by
        rw [va, vb, decide_eq_decide]
        constructor
        · intro h
          by_cases hlt : a.getD i 0 < b.getD i 0
          · exact hlt
          · have := val_top (P := 32768 ^ i) (pow_pos' i) lb ga (show b.getD i 0 < a.getD i 0 by omega)
            omega
        · intro h
          exact val_top (P := 32768 ^ i) (pow_pos' i) la gb h
      rw [this]
      refine Ev.step (f := fun _ => some (decide (a.getD i 0 < b.getD i 0))) (fun k => ?_) (Ev.now _)
      simp only [horologeref01_less.l0]
      rw [if_pos (by omega), if_pos (by omega), if_pos (by omega), if_pos (by omega), hrd, hrd, if_neg he]

theorem less_ev {a b : List Int} (ha : Dig a) (hb : Dig b) (hla : a.length ≤ 1000) (hlb : b.length ≤ 1000) : Ev (fun k => horologeref01_less.f k a b) (decide (val a < val b)) := by
  obtain ⟨r, hr, hra⟩ := trimmed_ev a hla ha
  obtain ⟨s, hs, hsb⟩ := trimmed_ev b hlb hb
  have lr := hra.l
  have ls := hsb.l
  refine Ev.bind (f := fun k t => (horologeref01_trimmed.f k b).bind fun u => (if (t.length : Int) = (u.length : Int) then (horologeref01_less.l0 k t u (wrap64 ((t.length : Int) - 1))) else (some (decide ((t.length : Int) < (u.length : Int)))))) hr
    (Ev.bind (f := fun k u => (if (r.length : Int) = (u.length : Int) then (horologeref01_less.l0 k r u (wrap64 ((r.length : Int) - 1))) else (some (decide ((r.length : Int) < (u.length : Int)))))) hs ?_)
  rw [← hra.v, ← hsb.v]
  by_cases he : r.length = s.length
  · have := less_l0 r s hra.d hsb.d he (by omega) r.length ((r.length : Int) - 1) (by omega) rfl
    rw [List.take_length, he, List.take_length] at this
    refine Ev.congr (fun k => ?_) this
    rw [if_pos (by omega), wr (by omega) (by omega), he]
  · refine Ev.congr (f := fun _ => some (decide (val r < val s))) (fun k => ?_) (Ev.now _)
    rw [if_neg (by omega)]
    congr 1
    rw [decide_eq_decide]
    constructor
    · intro h
      exact val_shorter hra.d hsb.d hsb.t (by omega)
    · intro h
      by_cases hlt : r.length < s.length
      · omega
      · have := val_shorter hsb.d hra.d hra.t (by omega)
        omega
end Go.Proofs.Ytdkdckfkhhbfnaa
