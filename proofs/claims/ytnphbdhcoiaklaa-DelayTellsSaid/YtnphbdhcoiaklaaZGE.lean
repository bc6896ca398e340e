/-
  Plain numbers: rows of digits of 15 bits, the lowest first, and what they are worth.
  Plain law: the reference's rows of digits (as printed) are what they are worth: digits, sums, products, comparison.
  Plain law: the reference's products and comparison of rows of digits (as printed) are what they are worth.
  Plain law: the reference's quotient of rows of digits, its Floor and Ceil (as printed) are what the document says.
  Plain law: the reference's Floor and Ceil (as printed) are what the document says.
  The reference's Floor and Ceil, by the printed walks and the plain law.
-/
import Derived.RowKit
import Derived.Test.YtnphbdhcoiaklaaPWideDividesx2
import Derived.Test.YtnphbdhcoiaklaaZGA
namespace Go.Proofs.Ytnphbdhcoiaklaa
open Go.RowKit

/-- What a row of digits is worth. -/
def val : List Int → Int
  | [] => 0
  | d :: r => d + 32768 * val r
/-- Each is a digit. -/
def Dig (l : List Int) : Prop := ∀ d ∈ l, 0 ≤ d ∧ d < 32768
/-- No digit 0 at the end. -/
def Trm (l : List Int) : Prop := ∀ l' d, l = l' ++ [d] → d ≠ 0

theorem getD_lt {l : List Int} {i : Nat} (h : i < l.length) : l.getD i 0 = l[i] := by simp [List.getD, h]
theorem getD_ge {l : List Int} {i : Nat} (h : l.length ≤ i) : l.getD i 0 = 0 := by simp [List.getD, h]

theorem Dig_nil : Dig [] := by intro d h; cases h
theorem Dig_cons {d : Int} {r : List Int} (h0 : 0 ≤ d) (h1 : d < 32768) (h : Dig r) : Dig (d :: r) := by
  intro x hx
  rcases List.mem_cons.1 hx with rfl | hx
  · exact ⟨h0, h1⟩
  · exact h x hx
theorem Dig_app {a b : List Int} (ha : Dig a) (hb : Dig b) : Dig (a ++ b) := by
  intro x hx
  rcases List.mem_append.1 hx with hx | hx
  · exact ha x hx
  · exact hb x hx
theorem Dig_one {d : Int} (h0 : 0 ≤ d) (h1 : d < 32768) : Dig [d] := Dig_cons h0 h1 Dig_nil
theorem Dig_take {l : List Int} (h : Dig l) (n : Nat) : Dig (l.take n) := fun d hd => h d (List.mem_of_mem_take hd)
theorem Dig_drop {l : List Int} (h : Dig l) (n : Nat) : Dig (l.drop n) := fun d hd => h d (List.mem_of_mem_drop hd)
theorem Dig_rep (n : Nat) : Dig (List.replicate n 0) := by
  intro d hd
  rw [List.mem_replicate] at hd
  omega
theorem Dig_get {l : List Int} (h : Dig l) (i : Nat) : 0 ≤ l.getD i 0 ∧ l.getD i 0 < 32768 := by
  by_cases hi : i < l.length
  · rw [getD_lt hi]; exact h _ (List.getElem_mem hi)
  · rw [getD_ge (by omega)]; omega

theorem Trm_nil : Trm [] := by intro l' d h; simp at h
theorem Trm_cons {d : Int} {r : List Int} (h0 : r = [] → d ≠ 0) (h : Trm r) : Trm (d :: r) := by
  intro l' x e
  cases l' with
  | nil =>
    simp at e
    obtain ⟨rfl, rfl⟩ := e
    exact h0 rfl
  | cons y l'' =>
    simp at e
    exact h l'' x e.2

theorem pow_pos' (n : Nat) : (0 : Int) < 32768 ^ n := Int.pow_pos (by omega)

theorem val_app (a b : List Int) : val (a ++ b) = val a + 32768 ^ a.length * val b := by
  induction a with
  | nil => simp [val]
  | cons d r ih =>
    simp only [List.cons_append, val, ih, List.length_cons, Int.pow_succ]
    rw [Int.mul_add, Int.mul_comm (32768 ^ r.length) 32768, Int.mul_assoc]; omega
theorem val_one (d : Int) : val [d] = d := by simp [val]
theorem val_rep (n : Nat) : val (List.replicate n 0) = 0 := by
  induction n with
  | zero => rfl
  | succ n ih => simp [List.replicate_succ, val, ih]
theorem val_nonneg {l : List Int} (h : Dig l) : 0 ≤ val l := by
  induction l with
  | nil => simp [val]
  | cons d r ih =>
    have h1 := ih (fun x hx => h x (List.mem_cons_of_mem _ hx))
    have h2 := h d List.mem_cons_self
    simp only [val]; omega
theorem val_lt {l : List Int} (h : Dig l) : val l < 32768 ^ l.length := by
  induction l with
  | nil => simp [val]
  | cons d r ih =>
    have h1 := ih (fun x hx => h x (List.mem_cons_of_mem _ hx))
    have h2 := h d List.mem_cons_self
    simp only [val, List.length_cons, Int.pow_succ]; omega
theorem val_ge {l : List Int} (h : Dig l) (ht : Trm l) (hn : l ≠ []) : 32768 ^ (l.length - 1) ≤ val l := by
  obtain ⟨l', d, rfl⟩ : ∃ l' d, l = l' ++ [d] := ⟨l.dropLast, l.getLast hn, (List.dropLast_concat_getLast hn).symm⟩
  have hd := ht l' d rfl
  have hd2 := h d (by simp)
  have h1 := val_nonneg (l := l') (fun x hx => h x (by simp [hx]))
  rw [val_app, val_one]
  simp only [List.length_append, List.length_cons, List.length_nil, Nat.zero_add, Nat.add_sub_cancel]
  have h3 : (32768 : Int) ^ l'.length * 1 ≤ 32768 ^ l'.length * d := Int.mul_le_mul_of_nonneg_left (by omega) (Int.le_of_lt (pow_pos' _))
  omega
theorem val_drop_get {l : List Int} (i : Nat) (h : i < l.length) : val (l.drop i) = l.getD i 0 + 32768 * val (l.drop (i + 1)) := by
  rw [List.drop_eq_getElem_cons h, getD_lt h]; rfl
theorem val_drop_end {l : List Int} (i : Nat) (h : l.length ≤ i) : val (l.drop i) = 0 := by
  rw [List.drop_of_length_le h]; rfl
theorem val_drop_any {l : List Int} (i : Nat) : val (l.drop i) = l.getD i 0 + 32768 * val (l.drop (i + 1)) := by
  by_cases h : i < l.length
  · exact val_drop_get i h
  · rw [val_drop_end i (by omega), val_drop_end (i + 1) (by omega), getD_ge (by omega)]; rfl
theorem val_take_succ {l : List Int} (i : Nat) (h : i < l.length) : val (l.take (i + 1)) = val (l.take i) + 32768 ^ i * l.getD i 0 := by
  rw [List.take_succ_eq_append_getElem h, val_app, val_one, getD_lt h, List.length_take, Nat.min_eq_left (by omega)]
theorem val_take_drop (l : List Int) (i : Nat) (h : i ≤ l.length) : val l = val (l.take i) + 32768 ^ i * val (l.drop i) := by
  have := val_app (l.take i) (l.drop i)
  rw [List.take_append_drop, List.length_take, Nat.min_eq_left h] at this
  exact this

theorem pow_mono' {m n : Nat} (h : m ≤ n) : (32768 : Int) ^ m ≤ 32768 ^ n := by
  have h1 : (32768 : Nat) ^ m ≤ 32768 ^ n := Nat.pow_le_pow_right (by omega) h
  have : ((32768 ^ m : Nat) : Int) ≤ ((32768 ^ n : Nat) : Int) := Int.ofNat_le.2 h1
  simpa using this

/-- The shorter of two is the lesser. -/
theorem val_shorter {a b : List Int} (ha : Dig a) (hb : Dig b) (tb : Trm b) (h : a.length < b.length) : val a < val b := by
  have h1 := val_lt ha
  have h2 := val_ge hb tb (by intro e; simp [e] at h)
  have h3 := pow_mono' (show a.length ≤ b.length - 1 by omega)
  omega

/-- The highest digit that differs tells. -/
theorem val_top {A B P x y : Int} (hP : 0 < P) (hA2 : A < P) (hB : 0 ≤ B) (h : x < y) : A + P * x < B + P * y := by
  have : P * (x + 1) ≤ P * y := Int.mul_le_mul_of_nonneg_left (by omega) (Int.le_of_lt hP)
  rw [Int.mul_add] at this
  omega

end Go.Proofs.Ytnphbdhcoiaklaa
namespace Go.Proofs.Ytnphbdhcoiaklaa
open Go.RowKit Go.Proofs.Ytnphbdhcoiaklaa.PWideDivides Go.Proofs.YtnphbdhcoiaklaaW.PrintWords

theorem wr {n : Int} (h1 : -9223372036854775808 ≤ n) (h2 : n ≤ 9223372036854775807) : wrap64 n = n := IntWalk.wrap64_in n ⟨h1, h2⟩

theorem digits_l0 (m : Nat) : ∀ (n : Int) (acc : List Int), 0 ≤ n → n < 32768 ^ m → n ≤ 9223372036854775807 → acc.length + m ≤ 1000 →
    ∃ r, Ev (fun k => horologeref01_digits.l0 k n acc) (acc ++ r) ∧ val r = n ∧ Dig r ∧ Trm r ∧ r.length ≤ m := by
  induction m with
  | zero =>
    intro n acc h0 h1 _ _
    have : n = 0 := by simp at h1; omega
    subst this
    refine ⟨[], Ev.step (f := fun _ => some acc) (fun k => by simp [horologeref01_digits.l0]) (by simpa using Ev.now acc), rfl, Dig_nil, Trm_nil, by simp⟩
  | succ m ih =>
    intro n acc h0 h1 h2 h3
    by_cases hn : n > 0
    · have e1 : wrap64 (Int.tdiv n 32768) = n / 32768 := by rw [Int.tdiv_eq_ediv_of_nonneg h0]; exact wr (by omega) (by omega)
      have e2 : Int.tmod n 32768 = n % 32768 := Int.tmod_eq_emod_of_nonneg h0
      have hlt : n / 32768 < 32768 ^ m := by
        have : n < 32768 ^ m * 32768 := by rw [← Int.pow_succ]; exact h1
        omega
      obtain ⟨r, hr, hv, hd, ht, hl⟩ := ih (n / 32768) (acc ++ [n % 32768]) (by omega) hlt (by omega) (by simp; omega)
      refine ⟨n % 32768 :: r, ?_, ?_, Dig_cons (by omega) (by omega) hd, Trm_cons ?_ ht, by simp; omega⟩
      · refine Ev.step (f := fun k => horologeref01_digits.l0 k (n / 32768) (acc ++ [n % 32768])) (fun k => ?_) (by simpa using hr)
        simp only [horologeref01_digits.l0]
        rw [if_pos hn, if_pos (by omega), e1, e2]
      · simp only [val, hv]; omega
      · rintro rfl
        simp only [val] at hv
        omega
    · have : n = 0 := by omega
      subst this
      exact ⟨[], Ev.step (f := fun _ => some acc) (fun k => by simp [horologeref01_digits.l0]) (by simpa using Ev.now acc), rfl, Dig_nil, Trm_nil, by simp⟩

/-- A row of digits that is a number's. -/
structure IsRow (r : List Int) (n : Int) (m : Nat) : Prop where
  v : val r = n
  d : Dig r
  t : Trm r
  l : r.length ≤ m

theorem digits_ev {n : Int} (h0 : 0 ≤ n) (h1 : n ≤ 9223372036854775807) : ∃ r, Ev (fun k => horologeref01_digits.f k n) r ∧ IsRow r n 5 := by
  obtain ⟨r, hr, hv, hd, ht, hl⟩ := digits_l0 5 n [] h0 (by have : (32768 : Int) ^ 5 = 37778931862957161709568 := by decide
                                                            omega) h1 (by simp)
  exact ⟨r, hr, hv, hd, ht, hl⟩

theorem digit_ev (l : List Int) (i : Nat) (j : Int) (hj : j = i) : horologeref01_digit.f l j = some (l.getD i 0) := by
  subst hj
  unfold horologeref01_digit.f
  by_cases h : i < l.length
  · rw [if_pos (by omega), if_pos (by omega)]; rfl
  · rw [if_neg (by omega), getD_ge (by omega)]

theorem trimmed_ev (l : List Int) : l.length ≤ 1000 → Dig l → ∃ r, Ev (fun k => horologeref01_trimmed.f k l) r ∧ IsRow r (val l) l.length := by
  show l.length ≤ 1000 → Dig l → ∃ r, Ev (fun k => horologeref01_trimmed.l0 k l) r ∧ IsRow r (val l) l.length
  induction h : l.length generalizing l with
  | zero =>
    intro _ _
    obtain rfl : l = [] := by simpa using h
    exact ⟨[], Ev.step (f := fun _ => some []) (fun k => by simp [horologeref01_trimmed.l0]) (Ev.now _), rfl, Dig_nil, Trm_nil, by simp⟩
  | succ n ih =>
    intro hl hd
    have e1 : wrap64 ((l.length : Int) - 1) = n := by rw [wr (by omega) (by omega)]; omega
    have hsplit : l = l.take n ++ [l.getD n 0] := by
      rw [getD_lt (show n < l.length by omega), ← List.take_succ_eq_append_getElem, List.take_of_length_le (by omega)]
    by_cases hz : l.getD n 0 = 0
    · obtain ⟨r, hr, hv, hd2, ht, hl2⟩ := ih (l.take n) (by simp; omega) (by omega) (Dig_take hd n)
      refine ⟨r, Ev.step (f := fun k => horologeref01_trimmed.l0 k (l.take n)) (fun k => ?_) hr, ?_, hd2, ht, by omega⟩
      · simp only [horologeref01_trimmed.l0, e1]
        rw [if_pos (by omega), if_pos (by omega), if_pos (by omega), if_pos (by unfold rd; exact hz), if_pos (by omega)]
        rfl
      · rw [hv]
        have e2 := val_app (l.take n) [l.getD n 0]
        rw [← hsplit, hz, val_one, Int.mul_zero] at e2
        omega
    · refine ⟨l, Ev.step (f := fun _ => some l) (fun k => ?_) (Ev.now _), rfl, hd, ?_, by omega⟩
      · simp only [horologeref01_trimmed.l0, e1]
        rw [if_pos (by omega), if_pos (by omega), if_pos (by omega), if_neg (by unfold rd; exact hz)]
      · intro l' d e
        rw [hsplit] at e
        have := List.append_inj' e rfl
        have h2 := List.cons.inj this.2
        rw [← h2.1]; exact hz

/-- One digit of a sum, or of a product with a digit. -/
theorem tq {n : Int} (h0 : 0 ≤ n) (h1 : n ≤ 4611686018427387904) : wrap64 (Int.tdiv n 32768) = n / 32768 ∧ Int.tmod n 32768 = n % 32768 :=
  ⟨by rw [Int.tdiv_eq_ediv_of_nonneg h0]; exact wr (by omega) (by omega), Int.tmod_eq_emod_of_nonneg h0⟩

theorem sum_l0 (a b : List Int) (ha : Dig a) (hb : Dig b) (hla : a.length ≤ 100) (hlb : b.length ≤ 100) (m : Nat) : ∀ (i : Nat) (out : List Int) (c : Int), (max a.length b.length + 1 - i = m) → i ≤ max a.length b.length + 1 → out.length = i → Dig out → 0 ≤ c → c ≤ 1 →
    (i = max a.length b.length + 1 → c = 0) →
    ∃ r, Ev (fun k => horologeref01_sum.l0 k a b out c i) r ∧ val r = val out + 32768 ^ i * (c + val (a.drop i) + val (b.drop i)) ∧ Dig r ∧ r.length ≤ max a.length b.length + 1 := by
  induction m with
  | zero =>
    intro i out c hm hi ho hd h0 h1 hc
    have hc0 : c = 0 := hc (by omega)
    subst hc0
    refine ⟨out, Ev.step (f := fun k => horologeref01_sum.j1 k a b out 0 i false) (fun k => ?_) (Ev.step (f := fun _ => some out) (fun k => ?_) (Ev.now _)), ?_, hd, by omega⟩
    · simp only [horologeref01_sum.l0]
      rw [if_neg (by omega), if_neg (by omega)]; rfl
    · simp [horologeref01_sum.j1]
    · rw [val_drop_end i (by omega), val_drop_end i (by omega)]; simp
  | succ m ih =>
    intro i out c hm hi ho hd h0 h1 hc
    have hda := Dig_get ha i
    have hdb := Dig_get hb i
    have hq := tq (n := a.getD i 0 + b.getD i 0 + c) (by omega) (by omega)
    have step : ∀ k, horologeref01_sum.j1 (k + 1) a b out c i true = horologeref01_sum.l0 k a b (out ++ [(a.getD i 0 + b.getD i 0 + c) % 32768]) ((a.getD i 0 + b.getD i 0 + c) / 32768) ((i + 1 : Nat) : Int) := by
      intro k
      simp only [horologeref01_sum.j1, if_true]
      rw [digit_ev a i i rfl, digit_ev b i i rfl]
      simp only [Option.bind_some]
      rw [if_pos (by omega), wr (n := a.getD i 0 + b.getD i 0) (by omega) (by omega), wr (n := a.getD i 0 + b.getD i 0 + c) (by omega) (by omega), hq.1, hq.2, wr (by omega) (by omega)]
      rfl
    by_cases hgo : i < a.length ∨ i < b.length ∨ 0 < c
    · have hi2 : i + 1 ≤ max a.length b.length + 1 := by omega
      obtain ⟨r, hr, hv, hdr, hl⟩ := ih (i + 1) (out ++ [(a.getD i 0 + b.getD i 0 + c) % 32768]) ((a.getD i 0 + b.getD i 0 + c) / 32768) (by omega) hi2 (by simp; omega) (Dig_app hd (Dig_one (by omega) (by omega))) (by omega) (by omega) (by
        intro e
        rw [getD_ge (show a.length ≤ i by omega), getD_ge (show b.length ≤ i by omega)]; omega)
      refine ⟨r, Ev.step (f := fun k => horologeref01_sum.j1 k a b out c i true) (fun k => ?_) (Ev.step (fun k => step k) hr), ?_, hdr, hl⟩
      · simp only [horologeref01_sum.l0]
        by_cases h1 : i < a.length
        · rw [if_pos (by omega)]
        · by_cases h2 : i < b.length
          · rw [if_neg (by omega), if_pos (by omega)]
          · rw [if_neg (by omega), if_neg (by omega), decide_eq_true (show c > 0 by omega)]
      · rw [hv, val_app, val_one, ho, val_drop_any (l := a) i, val_drop_any (l := b) i, Int.pow_succ, Int.mul_assoc (32768 ^ i) 32768, Int.add_assoc (val out), ← Int.mul_add]
        congr 2
        omega
    · have hc0 : c = 0 := by omega
      subst hc0
      refine ⟨out, Ev.step (f := fun k => horologeref01_sum.j1 k a b out 0 i false) (fun k => ?_) (Ev.step (f := fun _ => some out) (fun k => ?_) (Ev.now _)), ?_, hd, by omega⟩
      · simp only [horologeref01_sum.l0]
        rw [if_neg (by omega), if_neg (by omega)]; rfl
      · simp [horologeref01_sum.j1]
      · rw [val_drop_end i (by omega), val_drop_end i (by omega)]; simp

theorem sum_ev {a b : List Int} (ha : Dig a) (hb : Dig b) (hla : a.length ≤ 100) (hlb : b.length ≤ 100) :
    ∃ r, Ev (fun k => horologeref01_sum.f k a b) r ∧ val r = val a + val b ∧ Dig r ∧ r.length ≤ max a.length b.length + 1 := by
  obtain ⟨r, hr, hv, hd, hl⟩ := sum_l0 a b ha hb hla hlb _ 0 [] 0 rfl (by omega) rfl Dig_nil (by omega) (by omega) (by intro h; omega)
  exact ⟨r, hr, by rw [hv]; simp [val], hd, hl⟩
end Go.Proofs.Ytnphbdhcoiaklaa
namespace Go.Proofs.Ytnphbdhcoiaklaa
open Go.RowKit Go.Proofs.Ytnphbdhcoiaklaa.PWideDivides Go.Proofs.YtnphbdhcoiaklaaW.PrintWords

theorem times_l0 (a : List Int) (d : Int) (up : Nat) (ha : Dig a) (hla : a.length ≤ 100) (h0 : 0 ≤ d) (h1 : d < 32768) (hup : up ≤ 100) (m : Nat) : ∀ (i : Nat) (out : List Int) (c : Int), (a.length + 1 - i = m) → i ≤ a.length + 1 → out.length = up + i → Dig out → 0 ≤ c → c < 32768 →
    (i = a.length + 1 → c = 0) →
    ∃ r, Ev (fun k => horologeref01_times.l0 k a d out c i) r ∧ IsRow r (val out + 32768 ^ (up + i) * (c + d * val (a.drop i))) (up + a.length + 1) := by
  have fin : ∀ (i : Nat) (out : List Int), a.length ≤ i → i ≤ a.length + 1 → out.length = up + i → Dig out → ∃ r, Ev (fun k => horologeref01_times.l0 k a d out 0 i) r ∧ IsRow r (val out + 32768 ^ (up + i) * (0 + d * val (a.drop i))) (up + a.length + 1) := by
    intro i out hi hi2 ho hd
    obtain ⟨r, hr, hrow⟩ := trimmed_ev out (by omega) hd
    refine ⟨r, Ev.step (f := fun k => (horologeref01_trimmed.f k out).bind fun t => some t) (fun k => ?_) (Ev.bind (f := fun _ t => some t) hr (Ev.now _)), ?_⟩
    · simp only [horologeref01_times.l0]
      rw [if_neg (by omega), if_neg (by omega)]
    · rw [val_drop_end i hi, Int.mul_zero, Int.add_zero, Int.mul_zero, Int.add_zero]
      exact ⟨hrow.v, hrow.d, hrow.t, by have := hrow.l; omega⟩
  induction m with
  | zero =>
    intro i out c hm hi ho hd h2 h3 hc
    have hc0 : c = 0 := hc (by omega)
    subst hc0
    exact fin i out (by omega) hi ho hd
  | succ m ih =>
    intro i out c hm hi ho hd h2 h3 hc
    have hda := Dig_get ha i
    have hp : 0 ≤ a.getD i 0 * d ∧ a.getD i 0 * d ≤ 32767 * 32767 := ⟨Int.mul_nonneg hda.1 h0, Int.mul_le_mul (by omega) (by omega) h0 (by omega)⟩
    generalize hP : a.getD i 0 * d = p at hp
    have hq := tq (n := p + c) (by omega) (by omega)
    have step : ∀ k, ((horologeref01_digit.f a i).bind fun t => (if out.length < 17592186044416 then (horologeref01_times.l0 k a d (out ++ [Int.tmod (wrap64 ((wrap64 (t * d)) + c)) 32768]) (wrap64 (Int.tdiv (wrap64 ((wrap64 (t * d)) + c)) 32768)) (wrap64 ((i : Int) + 1))) else none)) = horologeref01_times.l0 k a d (out ++ [(p + c) % 32768]) ((p + c) / 32768) ((i + 1 : Nat) : Int) := by
      intro k
      rw [digit_ev a i i rfl]
      simp only [Option.bind_some]
      rw [if_pos (by omega), hP, wr (n := p) (by omega) (by omega), wr (n := p + c) (by omega) (by omega), hq.1, hq.2, wr (by omega) (by omega)]
      rfl
    by_cases hgo : i < a.length ∨ 0 < c
    · obtain ⟨r, hr, hrow⟩ := ih (i + 1) (out ++ [(p + c) % 32768]) ((p + c) / 32768) (by omega) (by omega) (by simp; omega) (Dig_app hd (Dig_one (by omega) (by omega))) (by omega) (by omega) (by
        intro e
        rw [getD_ge (show a.length ≤ i by omega), Int.zero_mul] at hP; omega)
      refine ⟨r, Ev.step (f := fun k => horologeref01_times.l0 k a d (out ++ [(p + c) % 32768]) ((p + c) / 32768) ((i + 1 : Nat) : Int)) (fun k => ?_) hr, ?_⟩
      · simp only [horologeref01_times.l0]
        by_cases h1 : i < a.length
        · rw [if_pos (by omega)]; exact step k
        · rw [if_neg (by omega), if_pos (by omega)]; exact step k
      · refine ⟨hrow.v.trans ?_, hrow.d, hrow.t, hrow.l⟩
        rw [val_app, val_one, ho, val_drop_any (l := a) i, Nat.add_succ, Int.pow_succ, Int.mul_assoc (32768 ^ (up + i)) 32768, Int.add_assoc (val out), ← Int.mul_add]
        congr 2
        rw [Int.mul_add, Int.mul_add, Int.mul_comm d (a.getD i 0), hP, ← Int.mul_assoc d 32768, Int.mul_comm d 32768, Int.mul_assoc 32768 d]
        omega
    · have hc0 : c = 0 := by omega
      subst hc0
      exact fin i out (by omega) hi ho hd

theorem times_ev {a : List Int} {d : Int} {up : Nat} (ha : Dig a) (hla : a.length ≤ 100) (h0 : 0 ≤ d) (h1 : d < 32768) (hup : up ≤ 100) (j : Int) (hj : j = up) :
    ∃ r, Ev (fun k => horologeref01_times.f k a d j) r ∧ IsRow r (32768 ^ up * (d * val a)) (up + a.length + 1) := by
  subst hj
  obtain ⟨r, hr, hrow⟩ := times_l0 a d up ha hla h0 h1 hup _ 0 (List.replicate up 0) 0 rfl (by omega) (by simp) (Dig_rep up) (by omega) (by omega) (by intro h; omega)
  refine ⟨r, Ev.congr (f := fun k => horologeref01_times.l0 k a d (List.replicate up 0) 0 0) (fun k => ?_) hr, ?_⟩
  · simp only [horologeref01_times.f]
    rw [if_pos (by omega), if_pos (by omega), Int.toNat_natCast]
  · rw [val_rep, Nat.add_zero, Int.zero_add, Int.zero_add] at hrow
    exact hrow

theorem product_l0 (a b : List Int) (ha : Dig a) (hb : Dig b) (hla : a.length ≤ 20) (hlb : b.length ≤ 20) (m : Nat) : ∀ (i : Nat) (out : List Int), b.length - i = m → i ≤ b.length → Dig out → out.length ≤ a.length + i + 1 → val out = val a * val (b.take i) →
    ∃ r, Ev (fun k => horologeref01_product.l0 k a b out i) r ∧ IsRow r (val a * val b) (a.length + b.length + 1) := by
  induction m with
  | zero =>
    intro i out hm hi hd hl hv
    obtain rfl : i = b.length := by omega
    obtain ⟨r, hr, hrow⟩ := trimmed_ev out (by omega) hd
    refine ⟨r, Ev.step (f := fun k => (horologeref01_trimmed.f k out).bind fun t => some t) (fun k => ?_) (Ev.bind (f := fun _ t => some t) hr (Ev.now _)), ?_⟩
    · simp only [horologeref01_product.l0]
      rw [if_neg (by omega)]
    · rw [List.take_length] at hv
      exact ⟨hrow.v.trans hv, hrow.d, hrow.t, by have := hrow.l; omega⟩
  | succ m ih =>
    intro i out hm hi hd hl hv
    have hdb := Dig_get hb i
    obtain ⟨t, ht, htr⟩ := times_ev (a := a) (d := b.getD i 0) (up := i) ha (by omega) hdb.1 hdb.2 (by omega) i rfl
    have htl := htr.l
    obtain ⟨s, hs, hsv, hsd, hsl⟩ := sum_ev hd htr.d (by omega) (by omega)
    obtain ⟨r, hr, hrow⟩ := ih (i + 1) s (by omega) (by omega) hsd (by omega) (by
      rw [hsv, hv, htr.v, val_take_succ i (by omega), Int.mul_add, ← Int.mul_assoc, Int.mul_comm (val a) (32768 ^ i * b.getD i 0)])
    refine ⟨r, Ev.step (f := fun k => (horologeref01_times.f k a (b.getD i 0) i).bind fun t => (horologeref01_sum.f k out t).bind fun u => horologeref01_product.l0 k a b u ((i + 1 : Nat) : Int)) (fun k => ?_)
      (Ev.bind (f := fun k t => (horologeref01_sum.f k out t).bind fun u => horologeref01_product.l0 k a b u ((i + 1 : Nat) : Int)) ht (Ev.bind (f := fun k u => horologeref01_product.l0 k a b u ((i + 1 : Nat) : Int)) hs hr)), hrow⟩
    simp only [horologeref01_product.l0]
    rw [if_pos (by omega), if_pos (by omega), wr (by omega) (by omega)]
    rfl

theorem product_ev {a b : List Int} (ha : Dig a) (hb : Dig b) (hla : a.length ≤ 20) (hlb : b.length ≤ 20) : ∃ r, Ev (fun k => horologeref01_product.f k a b) r ∧ IsRow r (val a * val b) (a.length + b.length + 1) :=
  product_l0 a b ha hb hla hlb _ 0 [] rfl (by omega) Dig_nil (by simp) (by simp [val])

theorem less_l0 (a b : List Int) (ha : Dig a) (hb : Dig b) (hl : a.length = b.length) (hla : a.length ≤ 1000) (i : Nat) : ∀ (j : Int), i ≤ a.length → j = (i : Int) - 1 →
    Ev (fun k => horologeref01_less.l0 k a b j) (decide (val (a.take i) < val (b.take i))) := by
  induction i with
  | zero =>
    intro j _ hj
    subst hj
    refine Ev.step (f := fun _ => some false) (fun k => ?_) (by simpa [val] using Ev.now false)
    simp only [horologeref01_less.l0]
    rw [if_neg (by omega)]
  | succ i ih =>
    intro j hi hj
    obtain rfl : j = (i : Int) := by omega
    have hih := ih ((i : Int) - 1) (by omega) rfl
    have va := val_take_succ (l := a) i (by omega)
    have vb := val_take_succ (l := b) i (by omega)
    have ga := val_nonneg (Dig_take ha i)
    have gb := val_nonneg (Dig_take hb i)
    have la := val_lt (Dig_take ha i)
    have lb := val_lt (Dig_take hb i)
    rw [List.length_take, Nat.min_eq_left (by omega)] at la lb
    have hrd : ∀ l : List Int, rd l (i : Int) = l.getD i 0 := fun l => by simp [rd]
    by_cases he : a.getD i 0 = b.getD i 0
    · have : decide (val (a.take (i + 1)) < val (b.take (i + 1))) = decide (val (a.take i) < val (b.take i)) := by
        rw [va, vb, he, decide_eq_decide]; omega
      rw [this]
      refine Ev.step (f := fun k => horologeref01_less.l0 k a b ((i : Int) - 1)) (fun k => ?_) hih
      simp only [horologeref01_less.l0]
      rw [if_pos (by omega), if_pos (by omega), if_pos (by omega), if_pos (by omega), hrd, hrd, if_pos he, wr (by omega) (by omega)]
    · have : decide (val (a.take (i + 1)) < val (b.take (i + 1))) = decide (a.getD i 0 < b.getD i 0) := by
        rw [va, vb, decide_eq_decide]
        constructor
        · intro h
          by_cases hlt : a.getD i 0 < b.getD i 0
          · exact hlt
          · have := val_top (P := 32768 ^ i) (pow_pos' i) lb ga (show b.getD i 0 < a.getD i 0 by omega)
            omega
        · intro h
          exact val_top (P := 32768 ^ i) (pow_pos' i) la gb h
      rw [this]
      refine Ev.step (f := fun _ => some (decide (a.getD i 0 < b.getD i 0))) (fun k => ?_) (Ev.now _)
      simp only [horologeref01_less.l0]
      rw [if_pos (by omega), if_pos (by omega), if_pos (by omega), if_pos (by omega), hrd, hrd, if_neg he]

theorem less_ev {a b : List Int} (ha : Dig a) (hb : Dig b) (hla : a.length ≤ 1000) (hlb : b.length ≤ 1000) : Ev (fun k => horologeref01_less.f k a b) (decide (val a < val b)) := by
  obtain ⟨r, hr, hra⟩ := trimmed_ev a hla ha
  obtain ⟨s, hs, hsb⟩ := trimmed_ev b hlb hb
  have lr := hra.l
  have ls := hsb.l
  refine Ev.bind (f := fun k t => (horologeref01_trimmed.f k b).bind fun u => (if (t.length : Int) = (u.length : Int) then (horologeref01_less.l0 k t u (wrap64 ((t.length : Int) - 1))) else (some (decide ((t.length : Int) < (u.length : Int)))))) hr
    (Ev.bind (f := fun k u => (if (r.length : Int) = (u.length : Int) then (horologeref01_less.l0 k r u (wrap64 ((r.length : Int) - 1))) else (some (decide ((r.length : Int) < (u.length : Int)))))) hs ?_)
  rw [← hra.v, ← hsb.v]
  by_cases he : r.length = s.length
  · have := less_l0 r s hra.d hsb.d he (by omega) r.length ((r.length : Int) - 1) (by omega) rfl
    rw [List.take_length, he, List.take_length] at this
    refine Ev.congr (fun k => ?_) this
    rw [if_pos (by omega), wr (by omega) (by omega), he]
  · refine Ev.congr (f := fun _ => some (decide (val r < val s))) (fun k => ?_) (Ev.now _)
    rw [if_neg (by omega)]
    congr 1
    rw [decide_eq_decide]
    constructor
    · intro h
      exact val_shorter hra.d hsb.d hsb.t (by omega)
    · intro h
      by_cases hlt : r.length < s.length
      · omega
      · have := val_shorter hsb.d hra.d hra.t (by omega)
        omega
end Go.Proofs.Ytnphbdhcoiaklaa
namespace Go.Proofs.Ytnphbdhcoiaklaa
open Go.RowKit Go.Proofs.Ytnphbdhcoiaklaa.PWideDivides Go.Proofs.YtnphbdhcoiaklaaW.PrintWords

/-- The greatest number that may be. -/
def top : Int := 4611686018427387904
theorem top_def : top = 4611686018427387904 := rfl

theorem same_ev {p c : List Int} (hp : Dig p) (hc : Dig c) (hlp : p.length ≤ 100) (hlc : c.length ≤ 10) : Ev (fun k => horologeref01_same.f k p c) (decide (val p < (top + 1) * val c)) := by
  obtain ⟨d, hd, hdr⟩ := digits_ev (n := 4611686018427387904) (by omega) (by omega)
  have ld := hdr.l
  have h1 : Dig [1] := Dig_one (by omega) (by omega)
  obtain ⟨s, hs, hsv, hsd, hsl⟩ := sum_ev hdr.d h1 (by omega) (by simp)
  have h1l : ([1] : List Int).length = 1 := rfl
  obtain ⟨q, hq, hqr⟩ := product_ev hsd hc (by omega) (by omega)
  have lq := hqr.l
  have hl := less_ev hp hqr.d (by omega) (by omega)
  rw [hqr.v, hsv, hdr.v, val_one] at hl
  unfold horologeref01_same.f
  exact Ev.bind hd (Ev.bind hs (Ev.bind hq (Ev.bind hl (Ev.now _))))

/-- Bit by bit. -/
theorem whole_l0 (p c : List Int) (hp : Dig p) (hc : Dig c) (hlp : p.length ≤ 100) (hlc : c.length ≤ 10) (hc1 : 1 ≤ val c) (hP : val p ≤ top * val c) (j : Nat) : ∀ (q s : Int), j ≤ 63 → (∃ e : Int, (j = 0 ∧ s = 0 ∧ e = 1 ∨ 1 ≤ j ∧ s = 2 ^ (j - 1) ∧ e = 2 ^ j) ∧ val p < (q + e) * val c) → 0 ≤ q → q ≤ top → q * val c ≤ val p →
    Ev (fun k => horologeref01_whole.l0 k p c q s) (val p / val c, true) := by
  induction j with
  | zero =>
    intro q s _ he h0 hq hle
    obtain ⟨e, he, hlt⟩ := he
    have hs : s = 0 := by omega
    have he1 : e = 1 := by omega
    subst hs he1
    have : val p / val c = q := by
      have h1 : q ≤ val p / val c := Int.le_ediv_of_mul_le (by omega) hle
      have h2 : val p / val c < q + 1 := Int.ediv_lt_of_lt_mul (by omega) hlt
      omega
    rw [this]
    refine Ev.step (f := fun _ => some (q, true)) (fun k => ?_) (Ev.now _)
    simp only [horologeref01_whole.l0]
    rw [if_neg (by omega)]
  | succ j ih =>
    intro q s hj he h0 hq hle
    obtain ⟨e, he, hlt⟩ := he
    have hs : s = 2 ^ j := by
      rcases he with h | h
      · omega
      · simpa using h.2.1
    have he1 : e = 2 * s := by
      rcases he with h | h
      · omega
      · rw [h.2.2, hs, Int.pow_succ]; omega
    have hspos : 0 < s := by rw [hs]; exact Int.pow_pos (by omega)
    have hs62 : s ≤ top := by
      rw [hs, top_def]
      have h : (2 : Nat) ^ j ≤ 2 ^ 62 := Nat.pow_le_pow_right (by omega) (by omega)
      have : ((2 ^ j : Nat) : Int) ≤ ((2 ^ 62 : Nat) : Int) := Int.ofNat_le.2 h
      simpa using this
    have hhalf : wrap64 (Int.tdiv s 2) = s / 2 := by
      rw [top_def] at hs62
      rw [Int.tdiv_eq_ediv_of_nonneg (by omega)]; exact wr (by omega) (by omega)
    have hnext : ∃ e' : Int, (j = 0 ∧ s / 2 = 0 ∧ e' = 1 ∨ 1 ≤ j ∧ s / 2 = 2 ^ (j - 1) ∧ e' = 2 ^ j) ∧ e' = s := by
      refine ⟨s, ?_, rfl⟩
      cases j with
      | zero => left; simp at hs; omega
      | succ j' =>
        right
        refine ⟨by omega, ?_, hs⟩
        rw [hs, Int.pow_succ]; simp
    obtain ⟨e', he', rfl⟩ := hnext
    have hcond : (q ≤ wrap64 (4611686018427387904 - e')) ↔ q + e' ≤ top := by
      rw [top_def] at hs62 ⊢
      rw [wr (by omega) (by omega)]; omega
    by_cases hfit : q + e' ≤ top
    · have hfit2 := hfit
      rw [top_def] at hfit2 hs62
      have hsum : wrap64 (q + e') = q + e' := wr (by omega) (by omega)
      obtain ⟨d, hd, hdr⟩ := digits_ev (n := q + e') (by omega) (by omega)
      have ld := hdr.l
      obtain ⟨r, hr, hrr⟩ := product_ev hdr.d hc (by omega) (by omega)
      have lr := hrr.l
      have hl := less_ev hp hrr.d (by omega) (by omega)
      rw [hrr.v, hdr.v] at hl
      refine Ev.step (f := fun k => (horologeref01_digits.f k (q + e')).bind fun t193 => ((horologeref01_product.f k t193 c).bind fun t196 => ((horologeref01_less.f k p t196).bind fun t199 => (if t199 = true then (horologeref01_whole.l0 k p c q (e' / 2)) else (horologeref01_whole.l0 k p c (q + e') (e' / 2)))))) (fun k => ?_)
        (Ev.bind (f := fun k t193 => ((horologeref01_product.f k t193 c).bind fun t196 => ((horologeref01_less.f k p t196).bind fun t199 => (if t199 = true then (horologeref01_whole.l0 k p c q (e' / 2)) else (horologeref01_whole.l0 k p c (q + e') (e' / 2)))))) hd
          (Ev.bind (f := fun k t196 => ((horologeref01_less.f k p t196).bind fun t199 => (if t199 = true then (horologeref01_whole.l0 k p c q (e' / 2)) else (horologeref01_whole.l0 k p c (q + e') (e' / 2))))) hr
            (Ev.bind (f := fun k t199 => (if t199 = true then (horologeref01_whole.l0 k p c q (e' / 2)) else (horologeref01_whole.l0 k p c (q + e') (e' / 2)))) hl ?_)))
      · simp only [horologeref01_whole.l0]
        rw [if_pos (by omega), if_pos (hcond.2 hfit), hsum, hhalf]
      · by_cases hlt2 : val p < (q + e') * val c
        · refine Ev.congr (f := fun k => horologeref01_whole.l0 k p c q (e' / 2)) (fun k => ?_) (ih q (e' / 2) (by omega) ⟨e', he', hlt2⟩ h0 hq hle)
          rw [decide_eq_true hlt2, if_pos rfl]
        · refine Ev.congr (f := fun k => horologeref01_whole.l0 k p c (q + e') (e' / 2)) (fun k => ?_) (ih (q + e') (e' / 2) (by omega) ⟨e', he', ?_⟩ (by omega) hfit (by omega))
          · rw [decide_eq_false hlt2, if_neg (by decide)]
          · rw [he1] at hlt
            rw [show q + e' + e' = q + 2 * e' from by omega]; exact hlt
    · refine Ev.step (f := fun k => horologeref01_whole.l0 k p c q (e' / 2)) (fun k => ?_) (ih q (e' / 2) (by omega) ⟨e', he', ?_⟩ h0 hq hle)
      · simp only [horologeref01_whole.l0]
        rw [if_pos (by omega), if_neg (fun h => hfit (hcond.1 h)), hhalf]
      · have : (top + 1) * val c ≤ (q + e') * val c := Int.mul_le_mul_of_nonneg_right (by omega) (by omega)
        rw [Int.add_mul] at this
        omega

theorem whole_ev {p c : List Int} (hp : Dig p) (hc : Dig c) (hlp : p.length ≤ 100) (hlc : c.length ≤ 10) (hc1 : 1 ≤ val c) :
    Ev (fun k => horologeref01_whole.f k p c) (if top * val c < val p then (top, decide (val p < (top + 1) * val c)) else (val p / val c, true)) := by
  obtain ⟨d, hd, hdr⟩ := digits_ev (n := 4611686018427387904) (by omega) (by omega)
  have ld := hdr.l
  obtain ⟨q, hq, hqr⟩ := product_ev hdr.d hc (by omega) (by omega)
  have lq := hqr.l
  have hl := less_ev hqr.d hp (by omega) (by omega)
  rw [hqr.v, hdr.v, ← top_def] at hl
  unfold horologeref01_whole.f
  refine Ev.bind hd (Ev.bind hq (Ev.bind hl ?_))
  by_cases h : top * val c < val p
  · rw [if_pos h, decide_eq_true h]
    exact Ev.congr (f := fun k => (horologeref01_same.f k p c).bind fun t192 => some (4611686018427387904, t192)) (fun k => by rw [if_pos rfl]) (Ev.bind (f := fun _ t192 => some (4611686018427387904, t192)) (same_ev hp hc hlp hlc) (Ev.now _))
  · rw [if_neg h, decide_eq_false h]
    refine Ev.congr (f := fun k => horologeref01_whole.l0 k p c 0 4611686018427387904) (fun k => by rw [if_neg (by decide)]) ?_
    refine whole_l0 p c hp hc hlp hlc hc1 (by omega) 63 0 4611686018427387904 (by omega) ⟨9223372036854775808, .inr ⟨by omega, by decide, by decide⟩, ?_⟩ (by omega) (by rw [top_def]; omega) (by have := val_nonneg hp; omega)
    rw [top_def] at h
    omega
end Go.Proofs.Ytnphbdhcoiaklaa
namespace Go.Proofs.Ytnphbdhcoiaklaa
open Go.RowKit Go.Proofs.Ytnphbdhcoiaklaa.PWideDivides Go.Proofs.YtnphbdhcoiaklaaW.PrintWords

theorem small_f (n : Int) : horologeref01_Small.f n = some (smallB n) := by
  unfold horologeref01_Small.f
  by_cases h : n ≥ -4611686018427387904
  · rw [if_pos h]; unfold smallB; rw [decide_eq_true (show -4611686018427387904 ≤ n by omega), Bool.true_and]
  · rw [if_neg h, smallB_low (by omega)]
theorem abs_f (n : Int) : horologeref01_Abs.f n = some (absP n) := by
  unfold horologeref01_Abs.f absP
  rw [small_f]
  simp only [Option.bind_some]
  cases h : smallB n with
  | false => simp
  | true =>
    have hb := smallB_iff.1 h
    rw [if_pos rfl, if_pos rfl]
    by_cases hn : n < 0
    · rw [if_pos hn, if_pos hn, wr (by omega) (by omega)]
    · rw [if_neg hn, if_neg hn]

theorem whole_cases {p c : List Int} (hp : Dig p) (hc : Dig c) (hlp : p.length ≤ 100) (hlc : c.length ≤ 10) (hc1 : 1 ≤ val c) :
    (val p / val c ≤ top ∧ Ev (fun k => horologeref01_whole.f k p c) (val p / val c, true)) ∨ (top < val p / val c ∧ Ev (fun k => horologeref01_whole.f k p c) (top, false)) := by
  have h := whole_ev hp hc hlp hlc hc1
  have h0 := val_nonneg hp
  by_cases h1 : top * val c < val p
  · rw [if_pos h1] at h
    by_cases h2 : val p < (top + 1) * val c
    · left
      have : val p / val c = top := by
        have a1 : top ≤ val p / val c := Int.le_ediv_of_mul_le (by omega) (by omega)
        have a2 : val p / val c < top + 1 := Int.ediv_lt_of_lt_mul (by omega) h2
        omega
      rw [decide_eq_true h2] at h
      rw [this]
      exact ⟨Int.le_refl _, h⟩
    · right
      rw [decide_eq_false h2] at h
      have a1 : top + 1 ≤ val p / val c := Int.le_ediv_of_mul_le (by omega) (by omega)
      exact ⟨by omega, h⟩
  · rw [if_neg h1] at h
    left
    have a2 : val p / val c < top + 1 := Int.ediv_lt_of_lt_mul (by omega) (by rw [Int.add_mul]; omega)
    exact ⟨by omega, h⟩

end Go.Proofs.Ytnphbdhcoiaklaa
namespace Go.Proofs.Ytnphbdhcoiaklaa
open Go.RowKit Go.Proofs.Ytnphbdhcoiaklaa.PWideDivides Go.Proofs.YtnphbdhcoiaklaaW.PrintWords

end Go.Proofs.Ytnphbdhcoiaklaa
