/-
  The reference's value, Add, Sub and Mul: the walks, over the printed contracts of its rows of digits.
-/
import Derived.Test.YtaahobgjkkeccaaRf
namespace Go.Proofs.Ytaahobgjkkeccaa
open Go.RowKit Go.Proofs.Ytaahobgjkkeccaa.PWideDivides Go.Proofs.YtaahobgjkkeccaaW.PrintWords Go.Proofs.YtaahobgjkkeccaaW.PrintMore

/-- A slice that reads as a row of numbers. -/
def Reads (w : World) (v : Value) (l : List Int) : Prop := ∃ A c, v = .slice A l.length c ∧ l.length ≤ c ∧ Kd.C (Kd.int .i64) w A l.length l
theorem Reads.keep {w w1 : World} {v : Value} {l : List Int} (h : Reads w v l) (hb : Below w.heap.size w w1) : Reads w1 v l := by
  obtain ⟨A, c, e, hc, hC⟩ := h
  exact ⟨A, c, e, hc, Kd.C_below hC hb⟩
theorem Reads.ofR {w : World} {v : Value} {l : List Int} {b : Nat} {ok : Nat → Prop} (h : Kd.R (Kd.int .i64) 3 w b ok v l) : Reads w v l := by
  obtain ⟨A, c, rfl⟩ := Kd.R_slice h
  exact ⟨A, c, rfl, (Kd.R_reads' h).2.1, (Kd.R_reads' h).2.2⟩
theorem Reads.ofV {w : World} {v : Value} {l : List Int} {b : Nat} {ok : Nat → Prop} (h : Kd.V (Kd.int .i64) 3 w b ok v l) : Reads w v l := by
  obtain ⟨A, c, rfl⟩ := Kd.V_slice h
  exact ⟨A, c, rfl, (Kd.V_reads' h).2.1, (Kd.V_reads' h).2.2⟩

/-- What a call that makes a row leaves. -/
def Makes (w : World) (q : List Int → Prop) (e : Ending) (w' : World) : Prop := ∃ v r, e = .returned v ∧ Reads w' v r ∧ q r ∧ Below w.heap.size w w'

theorem digits_c {n : Int} (h0 : 0 ≤ n) (h1 : n ≤ 9223372036854775807) (w : World) : Calls Try.prog 32 #[.int .i64 n] w (Makes w fun r => IsRow r n 5) := by
  obtain ⟨r, hr, hrow⟩ := digits_ev h0 h1
  obtain ⟨k, hk⟩ := Ev.rounds hr
  refine (horologeref01_digits.calls k n r w hk).mono ?_
  rintro e w1 ⟨v, rfl, hR, hb⟩
  exact ⟨v, r, rfl, .ofR hR, hrow, hb⟩
theorem sum_c {va vb : Value} {a b : List Int} {w : World} (ha : Reads w va a) (hb : Reads w vb b) (da : Dig a) (db : Dig b) (la : a.length ≤ 100) (lb : b.length ≤ 100) :
    Calls Try.prog 31 #[va, vb] w (Makes w fun r => val r = val a + val b ∧ Dig r ∧ r.length ≤ max a.length b.length + 1) := by
  obtain ⟨r, hr, hv⟩ := sum_ev da db la lb
  obtain ⟨k, hk⟩ := Ev.rounds hr
  obtain ⟨A, c, rfl, hc, hA⟩ := ha
  obtain ⟨B, d, rfl, hd, hB⟩ := hb
  refine (horologeref01_sum.calls k A c a B d b r w hA hc hB hd hk).mono ?_
  rintro e w1 ⟨v, rfl, hR, hb⟩
  exact ⟨v, r, rfl, .ofR hR, hv, hb⟩
theorem product_c {va vb : Value} {a b : List Int} {w : World} (ha : Reads w va a) (hb : Reads w vb b) (da : Dig a) (db : Dig b) (la : a.length ≤ 20) (lb : b.length ≤ 20) :
    Calls Try.prog 33 #[va, vb] w (Makes w fun r => IsRow r (val a * val b) (a.length + b.length + 1)) := by
  obtain ⟨r, hr, hv⟩ := product_ev da db la lb
  obtain ⟨k, hk⟩ := Ev.rounds hr
  obtain ⟨A, c, rfl, hc, hA⟩ := ha
  obtain ⟨B, d, rfl, hd, hB⟩ := hb
  refine (horologeref01_product.calls k A c a B d b r w hA hc hB hd hk).mono ?_
  rintro e w1 ⟨v, rfl, hR, hb⟩
  exact ⟨v, r, rfl, .ofV hR, hv, hb⟩
theorem trimmed_c {va : Value} {a : List Int} {w : World} (ha : Reads w va a) (da : Dig a) (la : a.length ≤ 1000) :
    Calls Try.prog 38 #[va] w (Makes w fun r => IsRow r (val a) a.length) := by
  obtain ⟨r, hr, hv⟩ := trimmed_ev a la da
  obtain ⟨k, hk⟩ := Ev.rounds hr
  obtain ⟨A, c, rfl, hc, hA⟩ := ha
  refine (horologeref01_trimmed.calls k (fun k_ => k_ < w.heap.size) A c a r w (Kd.V_mk hc (Kd.C_F (Kd.heap_int .i64) hA)) hk).mono ?_
  rintro e w1 ⟨v, rfl, hR, hb⟩
  exact ⟨v, r, rfl, .ofV hR, hv, hb⟩
theorem less_c {va vb : Value} {a b : List Int} {w : World} {p : Bool} (ha : Reads w va a) (hb : Reads w vb b) (da : Dig a) (db : Dig b) (la : a.length ≤ 1000) (lb : b.length ≤ 1000) (hp : decide (val a < val b) = p) :
    Calls Try.prog 35 #[va, vb] w fun e w' => e = .returned (.bool p) ∧ Below w.heap.size w w' := by
  have h := less_ev da db la lb
  rw [hp] at h
  obtain ⟨k, hk⟩ := Ev.rounds h
  obtain ⟨A, c, rfl, hc, hA⟩ := ha
  obtain ⟨B, d, rfl, hd, hB⟩ := hb
  exact horologeref01_less.calls k A c a B d b p w hA hc hB hd hk

theorem rSmall_is (n : Int) (p : Bool) (hp : smallB n = p) (w : World) : Calls Try.prog 21 #[.int .i64 n] w fun e w' => e = .returned (.bool p) ∧ Below w.heap.size w w' := by
  refine (horologeref01_Small.calls n p w (by rw [small_f, hp])).mono ?_
  rintro e w1 ⟨rfl, hd⟩
  exact ⟨rfl, hd.below⟩
theorem rAbs_is (n x : Int) (hp : Hid (absP n = x)) (w : World) : Calls Try.prog 23 #[.int .i64 n] w fun e w' => e = .returned (.int .i64 x) ∧ Below w.heap.size w w' := by
  refine (horologeref01_Abs.calls n x w (by rw [abs_f, hp.out])).mono ?_
  rintro e w1 ⟨rfl, hd⟩
  exact ⟨rfl, hd.below⟩

theorem drop_bd {t : List Int} (hd : Dig t) (k : Nat) (hk : k ≤ t.length) : 0 ≤ val (t.drop k) ∧ val (t.drop k) ≤ val t := by
  have h1 := val_take_drop t k hk
  have h2 := val_nonneg (Dig_take hd k)
  have h3 := val_nonneg (Dig_drop hd k)
  refine ⟨h3, ?_⟩
  have h4 : 1 * val (t.drop k) ≤ 32768 ^ k * val (t.drop k) := Int.mul_le_mul_of_nonneg_right (by have := pow_pos' k; omega) h3
  omega

theorem value_c {va : Value} {a : List Int} {w : World} (ha : Reads w va a) (da : Dig a) (la : a.length ≤ 100) (x : Int) (p : Bool) (H : Hid ((if 4611686018427387904 < val a then ((0 : Int), false) else (val a, true)) = (x, p))) :
    Calls Try.prog 30 #[va] w fun e w' => e = .returned (.tuple #[.int .i64 x, .bool p]) ∧ Below w.heap.size w w' := by
  obtain ⟨A0, c0, rfl, hc0, hA0⟩ := ha
  have ha : Hid (Reads w (.slice A0 a.length c0) a) := ⟨A0, c0, rfl, hc0, hA0⟩
  clear hc0 hA0
  by_cases hbig : 4611686018427387904 < val a
  · have h := H.out
    rw [if_pos hbig] at h
    obtain ⟨rfl, rfl⟩ := Prod.mk.inj h
    have HB := Lib.hid (decide_eq_true hbig)
    clear hbig
    clear H h
    go_enter Try.func30, Try.ntmps30
    go_wp2_with fail
    refine (trimmed_c ha.out da (by omega)).mono ?_
    rintro e w1 ⟨v1, t, rfl, hR1, ht, hb1⟩
    have hR1 := Lib.hid hR1
    obtain ⟨A1, c1, rfl, _, _⟩ := hR1.out
    go_wp2_with fail
    refine (digits_c (by omega) (by omega) _).mono ?_
    rintro e w2 ⟨v2, d, rfl, hR2, hd, hb2⟩
    have hR2 := Lib.hid hR2
    obtain ⟨A2, c2, rfl, _, _⟩ := hR2.out
    have ld := hd.l
    have lt := ht.l
    go_wp2_with fail
    refine (less_c (p := true) hR2.out (hR1.out.keep hb2) hd.d ht.d (by omega) (by omega) (by rw [hd.v, ht.v]; exact HB.out)).mono ?_
    rintro e w3 ⟨rfl, hb3⟩
    go_wp2
    go_ret2
    exact ⟨rfl, (by repeat (first | exact brefl _ | refine balloc ?_ _ | refine bstep ?_ (by assumption)))⟩
  · have h := H.out
    rw [if_neg hbig] at h
    obtain ⟨rfl, rfl⟩ := Prod.mk.inj h
    have hle : val a ≤ 4611686018427387904 := by omega
    have HB := Lib.hid (decide_eq_false hbig)
    clear hbig
    have hva := val_nonneg da
    clear H h
    go_enter Try.func30, Try.ntmps30
    go_wp2_with fail
    refine (trimmed_c ha.out da (by omega)).mono ?_
    rintro e w1 ⟨v1, t, rfl, hR1, ht, hb1⟩
    have hR1 := Lib.hid hR1
    obtain ⟨A1, c1, rfl, _, _⟩ := hR1.out
    go_wp2_with fail
    refine (digits_c (by omega) (by omega) _).mono ?_
    rintro e w2 ⟨v2, d, rfl, hR2, hd, hb2⟩
    have hR2 := Lib.hid hR2
    obtain ⟨A2, c2, rfl, _, _⟩ := hR2.out
    have ld := hd.l
    have lt := ht.l
    go_wp2_with fail
    refine (less_c (p := false) hR2.out (hR1.out.keep hb2) hd.d ht.d (by omega) (by omega) (by rw [hd.v, ht.v]; exact HB.out)).mono ?_
    rintro e w3 ⟨rfl, hb3⟩
    have hC : Hid (Kd.C (Kd.int .i64) w3 A1 t.length t) := by
      obtain ⟨A', c', e', _, hC⟩ := (hR1.out.keep hb2).keep hb3
      cases e'
      exact hC
    have htd := Lib.hid ht.d
    have hv := Lib.hid ht.v
    have hbb : Hid (Below w.heap.size w w3) := bstep (bstep hb1 hb2) hb3
    clear hR1 hR2 hd ht ha hb1 hb2 hb3 da
    go_wp2
    go_loop [4, 5] (fun n i => ∃ k : Nat, k ≤ t.length ∧ n = .int .i64 (val (t.drop k)) ∧ i = .int .i64 ((k : Int) - 1)) (fun _ i => (intOf i + 1).toNat)
    case atStart => exact ⟨t.length, Nat.le_refl _, by rw [List.drop_length]; rfl, rfl⟩
    case round =>
      obtain ⟨k, hk, rfl, rfl⟩ := hrel
      cases k with
      | zero =>
        have hneg : ((0 : Nat) : Int) - 1 = -1 := by omega
        rw [hneg]
        go_wp2
        go_ret2
        refine ⟨?_, hbb.out⟩
        have := hv.out
        rw [← this]; rfl
      | succ k =>
        obtain ⟨ad, hA, hcell⟩ := Kd.at_int hC.out (k : Int) (by omega) (by omega)
        subst hA
        have hg := Lib.hid (val_drop_get k (show k < t.length by omega))
        have hbd := drop_bd htd.out k (by omega)
        rw [hv.out, hg.out] at hbd
        have hdg := Dig_get htd.out k
        have hnn := (drop_bd htd.out (k + 1) hk).1
        have hrd : rd t (k : Int) = t.getD k 0 := by simp [rd]
        rw [hrd, Int.toNat_natCast] at hcell
        generalize val (t.drop (k + 1)) = y at *
        generalize t.getD k 0 = z at *
        obtain ⟨hbd1, hbd2⟩ := hbd
        obtain ⟨hdg1, hdg2⟩ := hdg
        have hkk : ((k + 1 : Nat) : Int) - 1 = (k : Int) := by omega
        rw [hkk]
        clear hkk hrd
        go_wp2
        go_round
        case rel => exact ⟨k, by omega, by rw [hg.out, Int.mul_comm 32768 y, Int.add_comm], rfl⟩
        case measure => simp [intOf]
end Go.Proofs.Ytaahobgjkkeccaa
