/-
  The walks of package wide's small functions (Small, told, Abs, Clip, Add, Sub): what each call returns; the world only grows.
-/
import Derived.Test.YtoijjnhlmndhpaaProg
import Derived.WalkKit
import Derived.WalkSpells
import Derived.WalkLawsBesides
import Derived.Lib.Hide
namespace Go.Proofs.Ytoijjnhlmndhpaa
open Go.RowKit

/-- Whether a number is small. -/
def smallB (n : Int) : Bool := decide (-4611686018427387904 ≤ n) && decide (n ≤ 4611686018427387904)

theorem smallB_true {n : Int} (h1 : -4611686018427387904 ≤ n) (h2 : n ≤ 4611686018427387904) : smallB n = true := by
  unfold smallB; simp [h1, h2]
theorem smallB_low {n : Int} (h1 : n < -4611686018427387904) : smallB n = false := by
  unfold smallB; rw [decide_eq_false (by omega)]; rfl
theorem smallB_high {n : Int} (h1 : 4611686018427387904 < n) : smallB n = false := by
  unfold smallB; rw [decide_eq_false (p := n ≤ _) (by omega)]; simp
theorem smallB_iff {n : Int} : smallB n = true ↔ -4611686018427387904 ≤ n ∧ n ≤ 4611686018427387904 := by
  unfold smallB; simp
theorem smallB_not {n : Int} : smallB n = false ↔ n < -4611686018427387904 ∨ 4611686018427387904 < n := by
  rw [← Bool.not_eq_true, smallB_iff]; omega

theorem bstep {w a b : World} (h : Below w.heap.size w a) (k : Below a.heap.size a b) : Below w.heap.size w b := h.trans (k.mono h.size)
theorem balloc {w a : World} (h : Below w.heap.size w a) (o : Obj) : Below w.heap.size w (a.alloc o) := h.alloc h.size o
theorem bdrewN {w a : World} (h : Below w.heap.size w a) (n : Nat) : Below w.heap.size w (a.drewN n) := ⟨h.os, h.tape, h.output, h.size, h.block⟩
theorem bdrew {w a : World} (h : Below w.heap.size w a) : Below w.heap.size w a.drew := h.drew
theorem bset {w a : World} (h : Below w.heap.size w a) {p : Addr} (hp : w.heap.size ≤ p.block) (u : Value) : Below w.heap.size w (a.setCell p u) := h.setCell hp u
theorem brefl (w : World) : Below w.heap.size w w := Below.refl _ _

theorem bcell {W w1 : World} (hb : Below W.heap.size W w1) : (∀ b o, b < W.heap.size → w1.cell? ⟨b, o, none⟩ = W.cell? ⟨b, o, none⟩) ∧ (∀ b o, b < W.heap.size → w1.frozen? ⟨b, o, none⟩ = W.frozen? ⟨b, o, none⟩) :=
  ⟨fun b o h => hb.cell (p := ⟨b, o, none⟩) h, fun b o h => hb.frozen (p := ⟨b, o, none⟩) h⟩

theorem ltc {w : World} {p : Addr} {v : Value} (h : w.cell? p = some v) : p.block < w.heap.size := by
  by_cases hlt : p.block < w.heap.size
  · exact hlt
  · have : w.heap[p.block]? = none := by simp; omega
    rw [World.cell?, this] at h; cases h
theorem keepc {a b : World} (hb : Below a.heap.size a b) {p : Addr} {v : Value} (h : a.cell? p = some v) : b.cell? p = some v := (hb.cell (ltc h)).trans h
theorem allocc {a : World} (o : Obj) {p : Addr} {v : Value} (h : a.cell? p = some v) : (a.alloc o).cell? p = some v :=
  (World.cell?_alloc_old _ _ _ (by have := ltc h; omega)).trans h
theorem keepf {a b : World} (hb : Below a.heap.size a b) {p : Addr} {v : Value} (h : a.cell? p = some v) (hf : a.frozen? p = false) : b.frozen? p = false := (hb.frozen (ltc h)).trans hf
theorem allocf {a : World} (o : Obj) {p : Addr} {v : Value} (h : a.cell? p = some v) (hf : a.frozen? p = false) : (a.alloc o).frozen? p = false :=
  (World.frozen?_alloc_old _ _ _ (by have := ltc h; omega)).trans hf

theorem ret_bool {a b : Bool} (h : a = b) : Ending.returned (.bool a) = .returned (.bool b) := by rw [h]
theorem ret_int {k : IntKind} {a b : Int} (h : a = b) : Ending.returned (.int k a) = .returned (.int k b) := by rw [h]
theorem ret_pair {k : IntKind} {a b : Int} {p q : Bool} (h : a = b) (g : p = q) : Ending.returned (.tuple #[.int k a, .bool p]) = .returned (.tuple #[.int k b, .bool q]) := by rw [h, g]

theorem all_take_succ {xs : List Int} {k : Nat} (h : k < xs.length) (hx : (xs.take k).all smallB = true) (h1 : -4611686018427387904 ≤ xs[k]) (h2 : xs[k] ≤ 4611686018427387904) :
    (xs.take (k + 1)).all smallB = true := by
  rw [List.take_succ_eq_append_getElem h, List.all_append, hx]; simp [smallB_true h1 h2]
theorem all_no {xs : List Int} {k : Nat} (h : k < xs.length) (h1 : smallB xs[k] = false) : xs.all smallB = false := by
  rw [List.all_eq_false]; exact ⟨xs[k], List.getElem_mem h, by simp [h1]⟩

set_option maxHeartbeats 400000 in
theorem small_any (xs : List Int) (b : Nat) (w : World) (hl : xs.length ≤ 8) (hc : ∀ k, k < xs.length → w.cell? ⟨b, k, none⟩ = some (.int .i64 (xs.getD k 0))) :
    Calls Try.prog 30 #[.slice (some ⟨b, 0, none⟩) xs.length xs.length] w fun e w' => e = .returned (.bool (xs.all smallB)) ∧ w = w' := by
  go_enter Try.func30, Try.ntmps30
  go_wp2
  go_loop [7, 4] (fun i _ => ∃ k : Nat, k ≤ xs.length ∧ i = .int .i64 k ∧ (xs.take k).all smallB = true) (fun i _ => xs.length - (intOf i).toNat)
  case atStart => exact ⟨0, by omega, rfl, by simp⟩
  case round =>
    obtain ⟨k, hk, rfl, hx⟩ := hrel
    have hcell : k < xs.length → w.cell? ⟨b, k, none⟩ = some (.int .i64 (xs.getD k 0)) := fun h => hc k h
    have Hc := Lib.hid hc
    have Hx := Lib.hid hx
    clear hc hx
    go_wp2
    · have h : k < xs.length := by assumption
      have h1 : xs[k] < -4611686018427387904 ∨ 4611686018427387904 < xs[k] := by assumption
      go_ret
      exact ⟨ret_bool (all_no h (smallB_not.2 h1)).symm, rfl⟩
    · have h : k < xs.length := by assumption
      have h1 : -4611686018427387904 ≤ xs[k] ∧ xs[k] ≤ 4611686018427387904 := by assumption
      go_round
      case rel => exact ⟨k + 1, by omega, by go_num, all_take_succ h Hx.out h1.1 h1.2⟩
      case measure => simp [intOf]; omega
    · have h : k < xs.length := by assumption
      have h1 : xs[k] < -4611686018427387904 := by assumption
      go_ret
      exact ⟨ret_bool (all_no h (smallB_low h1)).symm, rfl⟩
    · have h : ¬ k < xs.length := by assumption
      go_ret
      have hx := Hx.out
      rw [List.take_of_length_le (by omega)] at hx
      exact ⟨ret_bool hx.symm, rfl⟩

theorem small1 (x : Int) (p : Bool) (hp : smallB x = p) (b : Nat) (w : World) (h0 : w.cell? ⟨b, 0, none⟩ = some (.int .i64 x)) :
    Calls Try.prog 30 #[.slice (some ⟨b, 0, none⟩) 1 1] w fun e w' => e = .returned (.bool p) ∧ w = w' := by
  have := small_any [x] b w (by simp) (fun k hk => by match k, hk with | 0, _ => exact h0)
  simpa [hp] using this
theorem small2 (x y : Int) (p : Bool) (hp : (smallB x && smallB y) = p) (b : Nat) (w : World) (h0 : w.cell? ⟨b, 0, none⟩ = some (.int .i64 x)) (h1 : w.cell? ⟨b, 1, none⟩ = some (.int .i64 y)) :
    Calls Try.prog 30 #[.slice (some ⟨b, 0, none⟩) 2 2] w fun e w' => e = .returned (.bool p) ∧ w = w' := by
  have := small_any [x, y] b w (by simp) (fun k hk => by match k, hk with | 0, _ => exact h0 | 1, _ => exact h1)
  simpa [← hp] using this
theorem small3 (x y z : Int) (p : Bool) (hp : (smallB x && (smallB y && smallB z)) = p) (b : Nat) (w : World) (h0 : w.cell? ⟨b, 0, none⟩ = some (.int .i64 x)) (h1 : w.cell? ⟨b, 1, none⟩ = some (.int .i64 y)) (h2 : w.cell? ⟨b, 2, none⟩ = some (.int .i64 z)) :
    Calls Try.prog 30 #[.slice (some ⟨b, 0, none⟩) 3 3] w fun e w' => e = .returned (.bool p) ∧ w = w' := by
  have := small_any [x, y, z] b w (by simp) (fun k hk => by match k, hk with | 0, _ => exact h0 | 1, _ => exact h1 | 2, _ => exact h2)
  simpa [← hp] using this

/-- A number that is told, if it may be. -/
def toldP (n : Int) : Int × Bool := if smallB n = true then (n, true) else (0, false)
theorem told_t {n : Int} (h : smallB n = true) : toldP n = (n, true) := by unfold toldP; simp [h]
theorem told_f {n : Int} (h : smallB n = false) : toldP n = (0, false) := by unfold toldP; simp [h]
theorem told_wrap {n : Int} (h1 : -9223372036854775808 ≤ n) (h2 : n ≤ 9223372036854775808) : toldP (wrap64 n) = toldP n := by
  by_cases e : n = 9223372036854775808
  · subst e
    rw [told_f (n := wrap64 _) (smallB_low (by unfold wrap64; omega)), told_f (smallB_high (by omega))]
  · rw [IntWalk.wrap64_in n ⟨h1, by omega⟩]
def addP (a b : Int) : Int × Bool := if (smallB a && smallB b) = true then toldP (a + b) else (0, false)
def subP (a b : Int) : Int × Bool := if (smallB a && smallB b) = true then toldP (a - b) else (0, false)
def absP (a : Int) : Int := if smallB a = true then (if a < 0 then -a else a) else 0

theorem smallB_neg (b : Int) : smallB (-b) = smallB b := by
  rw [Bool.eq_iff_iff, smallB_iff, smallB_iff]; omega
theorem sub_add (a b : Int) : addP a (-b) = subP a b := by
  unfold addP subP; rw [smallB_neg]; rfl
theorem sub_no (a b : Int) (h : smallB b = false) : subP a b = (0, false) := by
  unfold subP; simp [h]

theorem told_is (n x : Int) (p : Bool) (H : Hid (toldP n = (x, p))) (w : World) :
    Calls Try.prog 36 #[.int .i64 n, .bool true] w fun e w' => e = .returned (.tuple #[.int .i64 x, .bool p]) ∧ Below w.heap.size w w' := by
  cases hs : smallB n with
  | true =>
    obtain ⟨rfl, rfl⟩ := Prod.mk.inj ((told_t hs).symm.trans H.out)
    go_enter Try.func36, Try.ntmps36
    go_wp2_with fail
    refine (small1 n _ hs _ _ (by simp)).mono ?_
    rintro e w1 ⟨rfl, rfl⟩
    go_wp2
    go_ret2
    exact ⟨rfl, (Below.refl _ _).alloc (Nat.le_refl _) _⟩
  | false =>
    obtain ⟨rfl, rfl⟩ := Prod.mk.inj ((told_f hs).symm.trans H.out)
    go_enter Try.func36, Try.ntmps36
    go_wp2_with fail
    refine (small1 n _ hs _ _ (by simp)).mono ?_
    rintro e w1 ⟨rfl, rfl⟩
    go_wp2
    go_ret2
    exact ⟨rfl, (Below.refl _ _).alloc (Nat.le_refl _) _⟩

theorem Add_is (a b x : Int) (p : Bool) (H : Hid (addP a b = (x, p))) (w : World) :
    Calls Try.prog 32 #[.int .i64 a, .int .i64 b] w fun e w' => e = .returned (.tuple #[.int .i64 x, .bool p]) ∧ Below w.heap.size w w' := by
  cases hs : (smallB a && smallB b) with
  | true =>
    have H2 : Hid (toldP (wrap64 (a + b)) = (x, p)) := by
      have ha := smallB_iff.1 ((Bool.and_eq_true_iff.1 hs).1)
      have hb := smallB_iff.1 ((Bool.and_eq_true_iff.1 hs).2)
      have h := H.out
      unfold addP at h
      rw [if_pos hs] at h
      exact (told_wrap (by omega) (by omega)).trans h
    clear H
    go_enter Try.func32, Try.ntmps32
    go_wp2_with fail
    refine (small2 a b _ hs _ _ (by simp) (by simp)).mono ?_
    rintro e w1 ⟨rfl, rfl⟩
    go_wp2_with fail
    refine (told_is _ _ _ H2 _).mono ?_
    rintro e w1 ⟨rfl, hb⟩
    go_wp2
    go_ret2
    exact ⟨rfl, ((Below.refl _ _).alloc (Nat.le_refl _) _).trans (hb.mono (by simp))⟩
  | false =>
    have h := H.out
    unfold addP at h
    rw [if_neg (by simp [hs])] at h
    obtain ⟨rfl, rfl⟩ := Prod.mk.inj h
    clear h H
    go_enter Try.func32, Try.ntmps32
    go_wp2_with fail
    refine (small2 a b _ hs _ _ (by simp) (by simp)).mono ?_
    rintro e w1 ⟨rfl, rfl⟩
    go_wp2
    go_ret2
    exact ⟨rfl, (Below.refl _ _).alloc (Nat.le_refl _) _⟩


theorem Abs_is (a x : Int) (H : Hid (absP a = x)) (w : World) :
    Calls Try.prog 40 #[.int .i64 a] w fun e w' => e = .returned (.int .i64 x) ∧ Below w.heap.size w w' := by
  cases hs : smallB a with
  | true =>
    have ha := smallB_iff.1 hs
    by_cases hn : a < 0
    · obtain rfl : -a = x := by have h := H.out; unfold absP at h; rw [if_pos hs, if_pos hn] at h; exact h
      go_enter Try.func40, Try.ntmps40
      go_wp2_with fail
      refine (small1 a _ hs _ _ (by simp)).mono ?_
      rintro e w1 ⟨rfl, rfl⟩
      go_wp2
      go_ret
      exact ⟨rfl, (Below.refl _ _).alloc (Nat.le_refl _) _⟩
    · obtain rfl : a = x := by have h := H.out; unfold absP at h; rw [if_pos hs, if_neg hn] at h; exact h
      go_enter Try.func40, Try.ntmps40
      go_wp2_with fail
      refine (small1 a _ hs _ _ (by simp)).mono ?_
      rintro e w1 ⟨rfl, rfl⟩
      go_wp2
      go_ret
      exact ⟨rfl, (Below.refl _ _).alloc (Nat.le_refl _) _⟩
  | false =>
    obtain rfl : 0 = x := by have h := H.out; unfold absP at h; rw [if_neg (by simp [hs])] at h; exact h
    go_enter Try.func40, Try.ntmps40
    go_wp2_with fail
    refine (small1 a _ hs _ _ (by simp)).mono ?_
    rintro e w1 ⟨rfl, rfl⟩
    go_wp2
    go_ret
    exact ⟨rfl, (Below.refl _ _).alloc (Nat.le_refl _) _⟩

end Go.Proofs.Ytoijjnhlmndhpaa
