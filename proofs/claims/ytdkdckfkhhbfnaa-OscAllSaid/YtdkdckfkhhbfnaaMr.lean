/-
  Plain law: the reference's rows of digits (as printed) are what they are worth: digits, sums, products, comparison.
-/
import Derived.Test.YtdkdckfkhhbfnaaPOscAllx
import Derived.Test.YtdkdckfkhhbfnaaMv
namespace Go.Proofs.Ytdkdckfkhhbfnaa
open Go.RowKit Go.Proofs.Ytdkdckfkhhbfnaa.POscAll Go.Proofs.YtdkdckfkhhbfnaaW.PrintWords

theorem wr {n : Int} (h1 : -9223372036854775808 ≤ n) (h2 : n ≤ 9223372036854775807) : wrap64 n = n := IntWalk.wrap64_in n ⟨h1, h2⟩

theorem Ev.inv {α : Type} {g : Nat → Option α} {r s : α} (h : Ev g r) (k : Ev g s) : r = s := by
  obtain ⟨a, ha⟩ := h
  obtain ⟨b, hb⟩ := k
  have h1 := ha (a + b) (by omega)
  rw [hb (a + b) (by omega)] at h1
  exact (Option.some.inj h1).symm

theorem digits_l0 (m : Nat) : ∀ (n : Int) (acc : List Int), 0 ≤ n → n < 32768 ^ m → n ≤ 9223372036854775807 → acc.length + m ≤ 1000 →
    ∃ r, Ev (fun k => horologeref01_digits.l0 k n acc) (acc ++ r) ∧ val r = n ∧ Dig r ∧ Trm r ∧ r.length ≤ m := by
  induction m with
  | zero =>
    intro n acc h0 h1 _ _
    have : n = 0 := by simp at h1; omega
    subst this
    refine ⟨[], Ev.step (f := fun _ => some acc) (fun k => by simp [horologeref01_digits.l0]) (by simpa using Ev.now acc), rfl, Dig_nil, Trm_nil, by simp⟩
  | succ m ih =>
    intro n acc h0 h1 h2 h3
    by_cases hn : n > 0
    · have e1 : wrap64 (Int.tdiv n 32768) = n / 32768 := by rw [Int.tdiv_eq_ediv_of_nonneg h0]; exact wr (by omega) (by omega)
      have e2 : Int.tmod n 32768 = n % 32768 := Int.tmod_eq_emod_of_nonneg h0
      have hlt : n / 32768 < 32768 ^ m := by
        have : n < 32768 ^ m * 32768 := by rw [← Int.pow_succ]; exact h1
        omega
      obtain ⟨r, hr, hv, hd, ht, hl⟩ := ih (n / 32768) (acc ++ [n % 32768]) (by omega) hlt (by omega) (by simp; omega)
      refine ⟨n % 32768 :: r, ?_, ?_, Dig_cons (by omega) (by omega) hd, Trm_cons ?_ ht, by simp; omega⟩
      · refine Ev.step (f := fun k => horologeref01_digits.l0 k (n / 32768) (acc ++ [n % 32768])) (fun k => ?_) (by simpa using hr)
        simp only [horologeref01_digits.l0]
        rw [if_pos hn, if_pos (by omega), e1, e2]
      · simp only [val, hv]; omega
      · rintro rfl
        simp only [val] at hv
        omega
    · have : n = 0 := by omega
      subst this
      exact ⟨[], Ev.step (f := fun _ => some acc) (fun k => by simp [horologeref01_digits.l0]) (by simpa using Ev.now acc), rfl, Dig_nil, Trm_nil, by simp⟩

/-- A row of digits that is a number's. -/
structure IsRow (r : List Int) (n : Int) (m : Nat) : Prop where
  v : val r = n
  d : Dig r
  t : Trm r
  l : r.length ≤ m

theorem digits_ev {n : Int} (h0 : 0 ≤ n) (h1 : n ≤ 9223372036854775807) : ∃ r, Ev (fun k => horologeref01_digits.f k n) r ∧ IsRow r n 5 := by
  obtain ⟨r, hr, hv, hd, ht, hl⟩ := digits_l0 5 n [] h0 (by have : (32768 : Int) ^ 5 = 37778931862957161709568 := by decide
                                                            omega) h1 (by simp)
  exact ⟨r, hr, hv, hd, ht, hl⟩

theorem digit_ev (l : List Int) (i : Nat) (j : Int) (hj : j = i) : horologeref01_digit.f l j = some (l.getD i 0) := by
  subst hj
  unfold horologeref01_digit.f
  by_cases h : i < l.length
  · rw [if_pos (by omega), if_pos (by omega)]; rfl
  · rw [if_neg (by omega), getD_ge (by omega)]

theorem trimmed_ev (l : List Int) : l.length ≤ 1000 → Dig l → ∃ r, Ev (fun k => horologeref01_trimmed.f k l) r ∧ IsRow r (val l) l.length := by
  show l.length ≤ 1000 → Dig l → ∃ r, Ev (fun k => horologeref01_trimmed.l0 k l) r ∧ IsRow r (val l) l.length
  induction h : l.length generalizing l with
  | zero =>
    intro _ _
    obtain rfl : l = [] := by simpa using h
    exact ⟨[], Ev.step (f := fun _ => some []) (fun k => by simp [horologeref01_trimmed.l0]) (Ev.now _), rfl, Dig_nil, Trm_nil, by simp⟩
  | succ n ih =>
    intro hl hd
    have e1 : wrap64 ((l.length : Int) - 1) = n := by rw [wr (by omega) (by omega)]; omega
    have hsplit : l = l.take n ++ [l.getD n 0] := by
      rw [getD_lt (show n < l.length by omega), ← List.take_succ_eq_append_getElem, List.take_of_length_le (by omega)]
    by_cases hz : l.getD n 0 = 0
    · obtain ⟨r, hr, hv, hd2, ht, hl2⟩ := ih (l.take n) (by simp; omega) (by omega) (Dig_take hd n)
      refine ⟨r, Ev.step (f := fun k => horologeref01_trimmed.l0 k (l.take n)) (fun k => ?_) hr, ?_, hd2, ht, by omega⟩
      · simp only [horologeref01_trimmed.l0, e1]
        rw [if_pos (by omega), if_pos (by omega), if_pos (by omega), if_pos (by unfold rd; exact hz), if_pos (by omega)]
        rfl
      · rw [hv]
        have e2 := val_app (l.take n) [l.getD n 0]
        rw [← hsplit, hz, val_one, Int.mul_zero] at e2
        omega
    · refine ⟨l, Ev.step (f := fun _ => some l) (fun k => ?_) (Ev.now _), rfl, hd, ?_, by omega⟩
      · simp only [horologeref01_trimmed.l0, e1]
        rw [if_pos (by omega), if_pos (by omega), if_pos (by omega), if_neg (by unfold rd; exact hz)]
      · intro l' d e
        rw [hsplit] at e
        have := List.append_inj' e rfl
        have h2 := List.cons.inj this.2
        rw [← h2.1]; exact hz

/-- One digit of a sum, or of a product with a digit. -/
theorem tq {n : Int} (h0 : 0 ≤ n) (h1 : n ≤ 4611686018427387904) : wrap64 (Int.tdiv n 32768) = n / 32768 ∧ Int.tmod n 32768 = n % 32768 :=
  ⟨by rw [Int.tdiv_eq_ediv_of_nonneg h0]; exact wr (by omega) (by omega), Int.tmod_eq_emod_of_nonneg h0⟩

theorem sum_l0 (a b : List Int) (ha : Dig a) (hb : Dig b) (hla : a.length ≤ 100) (hlb : b.length ≤ 100) (m : Nat) : ∀ (i : Nat) (out : List Int) (c : Int), (max a.length b.length + 1 - i = m) → i ≤ max a.length b.length + 1 → out.length = i → Dig out → 0 ≤ c → c ≤ 1 →
    (i = max a.length b.length + 1 → c = 0) →
    ∃ r, Ev (fun k => horologeref01_sum.l0 k a b out c i) r ∧ val r = val out + 32768 ^ i * (c + val (a.drop i) + val (b.drop i)) ∧ Dig r ∧ r.length ≤ max a.length b.length + 1 := by
  induction m with
  | zero =>
    intro i out c hm hi ho hd h0 h1 hc
    have hc0 : c = 0 := hc (by omega)
    subst hc0
    refine ⟨out, Ev.step (f := fun k => horologeref01_sum.j1 k a b out 0 i false) (fun k => ?_) (Ev.step (f := fun _ => some out) (fun k => ?_) (Ev.now _)), ?_, hd, by omega⟩
    · simp only [horologeref01_sum.l0]
      rw [if_neg (by omega), if_neg (by omega)]; rfl
    · simp [horologeref01_sum.j1]
    · rw [val_drop_end i (by omega), val_drop_end i (by omega)]; simp
  | succ m ih =>
    intro i out c hm hi ho hd h0 h1 hc
    have hda := Dig_get ha i
    have hdb := Dig_get hb i
    have hq := tq (n := a.getD i 0 + b.getD i 0 + c) (by omega) (by omega)
    have step : ∀ k, horologeref01_sum.j1 (k + 1) a b out c i true = horologeref01_sum.l0 k a b (out ++ [(a.getD i 0 + b.getD i 0 + c) % 32768]) ((a.getD i 0 + b.getD i 0 + c) / 32768) ((i + 1 : Nat) : Int) := by
      intro k
      simp only [horologeref01_sum.j1, if_true]
      rw [digit_ev a i i rfl, digit_ev b i i rfl]
      simp only [Option.bind_some]
      rw [if_pos (by omega), wr (n := a.getD i 0 + b.getD i 0) (by omega) (by omega), wr (n := a.getD i 0 + b.getD i 0 + c) (by omega) (by omega), hq.1, hq.2, wr (by omega) (by omega)]
      rfl
    by_cases hgo : i < a.length ∨ i < b.length ∨ 0 < c
    · have hi2 : i + 1 ≤ max a.length b.length + 1 := by omega
      obtain ⟨r, hr, hv, hdr, hl⟩ := ih (i + 1) (out ++ [(a.getD i 0 + b.getD i 0 + c) % 32768]) ((a.getD i 0 + b.getD i 0 + c) / 32768) (by omega) hi2 (by simp; omega) (Dig_app hd (Dig_one (by omega) (by omega))) (by omega) (by omega) (by
        intro e
        rw [getD_ge (show a.length ≤ i by omega), getD_ge (show b.length ≤ i by omega)]; omega)
      refine ⟨r, Ev.step (f := fun k => horologeref01_sum.j1 k a b out c i true) (fun k => ?_) (Ev.step (fun k => step k) hr), ?_, hdr, hl⟩
      · simp only [horologeref01_sum.l0]
        by_cases h1 : i < a.length
        · rw [if_pos (by omega)]
        · by_cases h2 : i < b.length
          · rw [if_neg (by omega), if_pos (by omega)]
          · rw [if_neg (by omega), if_neg (by omega), decide_eq_true (show c > 0 by omega)]
      · rw [hv, val_app, val_one, ho, val_drop_any (l := a) i, val_drop_any (l := b) i, Int.pow_succ, Int.mul_assoc (32768 ^ i) 32768, Int.add_assoc (val out), ← Int.mul_add]
        congr 2
        omega
    · have hc0 : c = 0 := by omega
      subst hc0
      refine ⟨out, Ev.step (f := fun k => horologeref01_sum.j1 k a b out 0 i false) (fun k => ?_) (Ev.step (f := fun _ => some out) (fun k => ?_) (Ev.now _)), ?_, hd, by omega⟩
      · simp only [horologeref01_sum.l0]
        rw [if_neg (by omega), if_neg (by omega)]; rfl
      · simp [horologeref01_sum.j1]
      · rw [val_drop_end i (by omega), val_drop_end i (by omega)]; simp

theorem sum_ev {a b : List Int} (ha : Dig a) (hb : Dig b) (hla : a.length ≤ 100) (hlb : b.length ≤ 100) :
    ∃ r, Ev (fun k => horologeref01_sum.f k a b) r ∧ val r = val a + val b ∧ Dig r ∧ r.length ≤ max a.length b.length + 1 := by
  obtain ⟨r, hr, hv, hd, hl⟩ := sum_l0 a b ha hb hla hlb _ 0 [] 0 rfl (by omega) rfl Dig_nil (by omega) (by omega) (by intro h; omega)
  exact ⟨r, hr, by rw [hv]; simp [val], hd, hl⟩
end Go.Proofs.Ytdkdckfkhhbfnaa
