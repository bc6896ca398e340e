/-
  The walks of package wide's small functions (Small, told, Abs, Clip, Add, Sub): what each call returns; the world only grows.
  Plain numbers: products of two halves, and long division bit by bit.
  The walks of wide.product, divided, quotient, Floor, Ceil.
  Plain numbers: what Floor and Ceil are.
  The walk of wide.Floor.
  The walk of wide.Ceil.
  Plain laws of Floor and Ceil.
  Plain laws for WideBack, WideNear, WideAway, WideTurns, WideOrder.
  Arguments by value: arrays and structs of integers (and a bool), opened: over any program.
  Plain spans: what each of package span's functions makes.
-/
import Derived.Test.YtnphbdhcoiaklaaProg
import Derived.WalkKit
import Derived.WalkSpells
import Derived.WalkLawsBesides
import Derived.Lib.Hide
import Derived.Laws.BitsAllLaws
import Derived.Laws.Bits64
import Derived.RowKit
import Derived.ProofKit
import Derived.OpenShut
import Derived.Deep.Strs
namespace Go.Proofs.Ytnphbdhcoiaklaa
open Go.RowKit

/-- Whether a number is small. -/
def smallB (n : Int) : Bool := decide (-4611686018427387904 ≤ n) && decide (n ≤ 4611686018427387904)

theorem smallB_true {n : Int} (h1 : -4611686018427387904 ≤ n) (h2 : n ≤ 4611686018427387904) : smallB n = true := by
  unfold smallB; simp [h1, h2]
theorem smallB_low {n : Int} (h1 : n < -4611686018427387904) : smallB n = false := by
  unfold smallB; rw [decide_eq_false (by omega)]; rfl
theorem smallB_high {n : Int} (h1 : 4611686018427387904 < n) : smallB n = false := by
  unfold smallB; rw [decide_eq_false (p := n ≤ _) (by omega)]; simp
theorem smallB_iff {n : Int} : smallB n = true ↔ -4611686018427387904 ≤ n ∧ n ≤ 4611686018427387904 := by
  unfold smallB; simp
theorem smallB_not {n : Int} : smallB n = false ↔ n < -4611686018427387904 ∨ 4611686018427387904 < n := by
  rw [← Bool.not_eq_true, smallB_iff]; omega

theorem bstep {w a b : World} (h : Below w.heap.size w a) (k : Below a.heap.size a b) : Below w.heap.size w b := h.trans (k.mono h.size)
theorem balloc {w a : World} (h : Below w.heap.size w a) (o : Obj) : Below w.heap.size w (a.alloc o) := h.alloc h.size o
theorem bdrewN {w a : World} (h : Below w.heap.size w a) (n : Nat) : Below w.heap.size w (a.drewN n) := ⟨h.os, h.tape, h.output, h.size, h.block⟩
theorem bdrew {w a : World} (h : Below w.heap.size w a) : Below w.heap.size w a.drew := h.drew
theorem bset {w a : World} (h : Below w.heap.size w a) {p : Addr} (hp : w.heap.size ≤ p.block) (u : Value) : Below w.heap.size w (a.setCell p u) := h.setCell hp u
theorem brefl (w : World) : Below w.heap.size w w := Below.refl _ _

theorem bcell {W w1 : World} (hb : Below W.heap.size W w1) : (∀ b o, b < W.heap.size → w1.cell? ⟨b, o, none⟩ = W.cell? ⟨b, o, none⟩) ∧ (∀ b o, b < W.heap.size → w1.frozen? ⟨b, o, none⟩ = W.frozen? ⟨b, o, none⟩) :=
  ⟨fun b o h => hb.cell (p := ⟨b, o, none⟩) h, fun b o h => hb.frozen (p := ⟨b, o, none⟩) h⟩

theorem ltc {w : World} {p : Addr} {v : Value} (h : w.cell? p = some v) : p.block < w.heap.size := by
  by_cases hlt : p.block < w.heap.size
  · exact hlt
  · have : w.heap[p.block]? = none := by simp; omega
    rw [World.cell?, this] at h; cases h
theorem keepc {a b : World} (hb : Below a.heap.size a b) {p : Addr} {v : Value} (h : a.cell? p = some v) : b.cell? p = some v := (hb.cell (ltc h)).trans h
theorem allocc {a : World} (o : Obj) {p : Addr} {v : Value} (h : a.cell? p = some v) : (a.alloc o).cell? p = some v :=
  (World.cell?_alloc_old _ _ _ (by have := ltc h; omega)).trans h
theorem keepf {a b : World} (hb : Below a.heap.size a b) {p : Addr} {v : Value} (h : a.cell? p = some v) (hf : a.frozen? p = false) : b.frozen? p = false := (hb.frozen (ltc h)).trans hf
theorem allocf {a : World} (o : Obj) {p : Addr} {v : Value} (h : a.cell? p = some v) (hf : a.frozen? p = false) : (a.alloc o).frozen? p = false :=
  (World.frozen?_alloc_old _ _ _ (by have := ltc h; omega)).trans hf

theorem ret_bool {a b : Bool} (h : a = b) : Ending.returned (.bool a) = .returned (.bool b) := by rw [h]
theorem ret_int {k : IntKind} {a b : Int} (h : a = b) : Ending.returned (.int k a) = .returned (.int k b) := by rw [h]
theorem all_take_succ {xs : List Int} {k : Nat} (h : k < xs.length) (hx : (xs.take k).all smallB = true) (h1 : -4611686018427387904 ≤ xs[k]) (h2 : xs[k] ≤ 4611686018427387904) :
    (xs.take (k + 1)).all smallB = true := by
  rw [List.take_succ_eq_append_getElem h, List.all_append, hx]; simp [smallB_true h1 h2]
theorem all_no {xs : List Int} {k : Nat} (h : k < xs.length) (h1 : smallB xs[k] = false) : xs.all smallB = false := by
  rw [List.all_eq_false]; exact ⟨xs[k], List.getElem_mem h, by simp [h1]⟩

set_option maxHeartbeats 400000 in
theorem small_any (xs : List Int) (b : Nat) (w : World) (hl : xs.length ≤ 8) (hc : ∀ k, k < xs.length → w.cell? ⟨b, k, none⟩ = some (.int .i64 (xs.getD k 0))) :
    Calls Try.prog 18 #[.slice (some ⟨b, 0, none⟩) xs.length xs.length] w fun e w' => e = .returned (.bool (xs.all smallB)) ∧ w = w' := by
  go_enter Try.func18, Try.ntmps18
  go_wp2
  go_loop [7, 4] (fun i _ => ∃ k : Nat, k ≤ xs.length ∧ i = .int .i64 k ∧ (xs.take k).all smallB = true) (fun i _ => xs.length - (intOf i).toNat)
  case atStart => exact ⟨0, by omega, rfl, by simp⟩
  case round =>
    obtain ⟨k, hk, rfl, hx⟩ := hrel
    have hcell : k < xs.length → w.cell? ⟨b, k, none⟩ = some (.int .i64 (xs.getD k 0)) := fun h => hc k h
    have Hc := Lib.hid hc
    have Hx := Lib.hid hx
    clear hc hx
    go_wp2
    · have h : k < xs.length := by assumption
      have h1 : xs[k] < -4611686018427387904 ∨ 4611686018427387904 < xs[k] := by assumption
      go_ret
      exact ⟨ret_bool (all_no h (smallB_not.2 h1)).symm, rfl⟩
    · have h : k < xs.length := by assumption
      have h1 : -4611686018427387904 ≤ xs[k] ∧ xs[k] ≤ 4611686018427387904 := by assumption
      go_round
      case rel => exact ⟨k + 1, by omega, by go_num, all_take_succ h Hx.out h1.1 h1.2⟩
      case measure => simp [intOf]; omega
    · have h : k < xs.length := by assumption
      have h1 : xs[k] < -4611686018427387904 := by assumption
      go_ret
      exact ⟨ret_bool (all_no h (smallB_low h1)).symm, rfl⟩
    · have h : ¬ k < xs.length := by assumption
      go_ret
      have hx := Hx.out
      rw [List.take_of_length_le (by omega)] at hx
      exact ⟨ret_bool hx.symm, rfl⟩

theorem small1 (x : Int) (p : Bool) (hp : smallB x = p) (b : Nat) (w : World) (h0 : w.cell? ⟨b, 0, none⟩ = some (.int .i64 x)) :
    Calls Try.prog 18 #[.slice (some ⟨b, 0, none⟩) 1 1] w fun e w' => e = .returned (.bool p) ∧ w = w' := by
  have := small_any [x] b w (by simp) (fun k hk => by match k, hk with | 0, _ => exact h0)
  simpa [hp] using this
theorem small2 (x y : Int) (p : Bool) (hp : (smallB x && smallB y) = p) (b : Nat) (w : World) (h0 : w.cell? ⟨b, 0, none⟩ = some (.int .i64 x)) (h1 : w.cell? ⟨b, 1, none⟩ = some (.int .i64 y)) :
    Calls Try.prog 18 #[.slice (some ⟨b, 0, none⟩) 2 2] w fun e w' => e = .returned (.bool p) ∧ w = w' := by
  have := small_any [x, y] b w (by simp) (fun k hk => by match k, hk with | 0, _ => exact h0 | 1, _ => exact h1)
  simpa [← hp] using this
theorem small3 (x y z : Int) (p : Bool) (hp : (smallB x && (smallB y && smallB z)) = p) (b : Nat) (w : World) (h0 : w.cell? ⟨b, 0, none⟩ = some (.int .i64 x)) (h1 : w.cell? ⟨b, 1, none⟩ = some (.int .i64 y)) (h2 : w.cell? ⟨b, 2, none⟩ = some (.int .i64 z)) :
    Calls Try.prog 18 #[.slice (some ⟨b, 0, none⟩) 3 3] w fun e w' => e = .returned (.bool p) ∧ w = w' := by
  have := small_any [x, y, z] b w (by simp) (fun k hk => by match k, hk with | 0, _ => exact h0 | 1, _ => exact h1 | 2, _ => exact h2)
  simpa [← hp] using this

/-- A number that is told, if it may be. -/
def toldP (n : Int) : Int × Bool := if smallB n = true then (n, true) else (0, false)
theorem told_t {n : Int} (h : smallB n = true) : toldP n = (n, true) := by unfold toldP; simp [h]
theorem told_f {n : Int} (h : smallB n = false) : toldP n = (0, false) := by unfold toldP; simp [h]
theorem told_wrap {n : Int} (h1 : -9223372036854775808 ≤ n) (h2 : n ≤ 9223372036854775808) : toldP (wrap64 n) = toldP n := by
  by_cases e : n = 9223372036854775808
  · subst e
    rw [told_f (n := wrap64 _) (smallB_low (by unfold wrap64; omega)), told_f (smallB_high (by omega))]
  · rw [IntWalk.wrap64_in n ⟨h1, by omega⟩]
def addP (a b : Int) : Int × Bool := if (smallB a && smallB b) = true then toldP (a + b) else (0, false)
def subP (a b : Int) : Int × Bool := if (smallB a && smallB b) = true then toldP (a - b) else (0, false)
def absP (a : Int) : Int := if smallB a = true then (if a < 0 then -a else a) else 0

theorem smallB_neg (b : Int) : smallB (-b) = smallB b := by
  rw [Bool.eq_iff_iff, smallB_iff, smallB_iff]; omega
theorem sub_add (a b : Int) : addP a (-b) = subP a b := by
  unfold addP subP; rw [smallB_neg]; rfl
theorem sub_no (a b : Int) (h : smallB b = false) : subP a b = (0, false) := by
  unfold subP; simp [h]

theorem told_is (n x : Int) (p : Bool) (H : Hid (toldP n = (x, p))) (w : World) :
    Calls Try.prog 87 #[.int .i64 n, .bool true] w fun e w' => e = .returned (.tuple #[.int .i64 x, .bool p]) ∧ Below w.heap.size w w' := by
  cases hs : smallB n with
  | true =>
    obtain ⟨rfl, rfl⟩ := Prod.mk.inj ((told_t hs).symm.trans H.out)
    go_enter Try.func87, Try.ntmps87
    go_wp2_with fail
    refine (small1 n _ hs _ _ (by simp)).mono ?_
    rintro e w1 ⟨rfl, rfl⟩
    go_wp2
    go_ret2
    exact ⟨rfl, (Below.refl _ _).alloc (Nat.le_refl _) _⟩
  | false =>
    obtain ⟨rfl, rfl⟩ := Prod.mk.inj ((told_f hs).symm.trans H.out)
    go_enter Try.func87, Try.ntmps87
    go_wp2_with fail
    refine (small1 n _ hs _ _ (by simp)).mono ?_
    rintro e w1 ⟨rfl, rfl⟩
    go_wp2
    go_ret2
    exact ⟨rfl, (Below.refl _ _).alloc (Nat.le_refl _) _⟩

theorem Add_is (a b x : Int) (p : Bool) (H : Hid (addP a b = (x, p))) (w : World) :
    Calls Try.prog 11 #[.int .i64 a, .int .i64 b] w fun e w' => e = .returned (.tuple #[.int .i64 x, .bool p]) ∧ Below w.heap.size w w' := by
  cases hs : (smallB a && smallB b) with
  | true =>
    have H2 : Hid (toldP (wrap64 (a + b)) = (x, p)) := by
      have ha := smallB_iff.1 ((Bool.and_eq_true_iff.1 hs).1)
      have hb := smallB_iff.1 ((Bool.and_eq_true_iff.1 hs).2)
      have h := H.out
      unfold addP at h
      rw [if_pos hs] at h
      exact (told_wrap (by omega) (by omega)).trans h
    clear H
    go_enter Try.func11, Try.ntmps11
    go_wp2_with fail
    refine (small2 a b _ hs _ _ (by simp) (by simp)).mono ?_
    rintro e w1 ⟨rfl, rfl⟩
    go_wp2_with fail
    refine (told_is _ _ _ H2 _).mono ?_
    rintro e w1 ⟨rfl, hb⟩
    go_wp2
    go_ret2
    exact ⟨rfl, ((Below.refl _ _).alloc (Nat.le_refl _) _).trans (hb.mono (by simp))⟩
  | false =>
    have h := H.out
    unfold addP at h
    rw [if_neg (by simp [hs])] at h
    obtain ⟨rfl, rfl⟩ := Prod.mk.inj h
    clear h H
    go_enter Try.func11, Try.ntmps11
    go_wp2_with fail
    refine (small2 a b _ hs _ _ (by simp) (by simp)).mono ?_
    rintro e w1 ⟨rfl, rfl⟩
    go_wp2
    go_ret2
    exact ⟨rfl, (Below.refl _ _).alloc (Nat.le_refl _) _⟩

theorem Sub_is (a b x : Int) (p : Bool) (H : Hid (subP a b = (x, p))) (w : World) :
    Calls Try.prog 13 #[.int .i64 a, .int .i64 b] w fun e w' => e = .returned (.tuple #[.int .i64 x, .bool p]) ∧ Below w.heap.size w w' := by
  cases hs : smallB b with
  | true =>
    have H2 : Hid (addP a (-b) = (x, p)) := (sub_add a b).trans H.out
    have hb := smallB_iff.1 hs
    clear H
    go_enter Try.func13, Try.ntmps13
    go_wp2_with fail
    refine (small1 b _ hs _ _ (by simp)).mono ?_
    rintro e w1 ⟨rfl, rfl⟩
    go_wp2_with fail
    refine (Add_is _ _ _ _ H2 _).mono ?_
    rintro e w1 ⟨rfl, hb⟩
    go_wp2
    go_ret2
    exact ⟨rfl, ((Below.refl _ _).alloc (Nat.le_refl _) _).trans (hb.mono (by simp))⟩
  | false =>
    obtain ⟨rfl, rfl⟩ := Prod.mk.inj ((sub_no a b hs).symm.trans H.out)
    go_enter Try.func13, Try.ntmps13
    go_wp2_with fail
    refine (small1 b _ hs _ _ (by simp)).mono ?_
    rintro e w1 ⟨rfl, rfl⟩
    go_wp2
    go_ret2
    exact ⟨rfl, (Below.refl _ _).alloc (Nat.le_refl _) _⟩

theorem Abs_is (a x : Int) (H : Hid (absP a = x)) (w : World) :
    Calls Try.prog 20 #[.int .i64 a] w fun e w' => e = .returned (.int .i64 x) ∧ Below w.heap.size w w' := by
  cases hs : smallB a with
  | true =>
    have ha := smallB_iff.1 hs
    by_cases hn : a < 0
    · obtain rfl : -a = x := by have h := H.out; unfold absP at h; rw [if_pos hs, if_pos hn] at h; exact h
      go_enter Try.func20, Try.ntmps20
      go_wp2_with fail
      refine (small1 a _ hs _ _ (by simp)).mono ?_
      rintro e w1 ⟨rfl, rfl⟩
      go_wp2
      go_ret
      exact ⟨rfl, (Below.refl _ _).alloc (Nat.le_refl _) _⟩
    · obtain rfl : a = x := by have h := H.out; unfold absP at h; rw [if_pos hs, if_neg hn] at h; exact h
      go_enter Try.func20, Try.ntmps20
      go_wp2_with fail
      refine (small1 a _ hs _ _ (by simp)).mono ?_
      rintro e w1 ⟨rfl, rfl⟩
      go_wp2
      go_ret
      exact ⟨rfl, (Below.refl _ _).alloc (Nat.le_refl _) _⟩
  | false =>
    obtain rfl : 0 = x := by have h := H.out; unfold absP at h; rw [if_neg (by simp [hs])] at h; exact h
    go_enter Try.func20, Try.ntmps20
    go_wp2_with fail
    refine (small1 a _ hs _ _ (by simp)).mono ?_
    rintro e w1 ⟨rfl, rfl⟩
    go_wp2
    go_ret
    exact ⟨rfl, (Below.refl _ _).alloc (Nat.le_refl _) _⟩

end Go.Proofs.Ytnphbdhcoiaklaa
namespace Go.Proofs.Ytnphbdhcoiaklaa
open Go.RowKit

/-- An int of Go's. -/
def I64 (n : Int) : Prop := -9223372036854775808 ≤ n ∧ n ≤ 9223372036854775807
theorem i64_of {n : Int} (h : (Lit.int .i64 n).wf = true) : I64 n := by
  simpa [Lit.wf, IntKind.min, IntKind.max, IntKind.signed, IntKind.bits, I64] using h

theorem and32 (x : Int) (h1 : 0 ≤ x) (h2 : x < 18446744073709551616) : bits .and .u64 x 4294967295 = x % 4294967296 := by
  rw [u64_and x _ h1 h2 (by omega) (by omega)]
  show (((x.toNat &&& 4294967295 : Nat)) : Int) = _
  rw [nat_mask32]; omega
theorem and1 (x : Int) (h1 : 0 ≤ x) (h2 : x < 18446744073709551616) : bits .and .u64 x 1 = x % 2 := by
  rw [u64_and x _ h1 h2 (by omega) (by omega)]
  show (((x.toNat &&& 1 : Nat)) : Int) = _
  rw [nat_mask1]; omega
theorem or32 (x y : Int) (h1 : 0 ≤ x) (h2 : x < 18446744073709551616) (h3 : x % 4294967296 = 0) (h4 : 0 ≤ y) (h5 : y < 4294967296) : bits .or .u64 x y = x + y := by
  rw [u64_or x y h1 h2 h4 (by omega), nat_join 32 x.toNat y.toNat (by omega) (by omega)]; omega
theorem or1 (x y : Int) (h1 : 0 ≤ x) (h2 : x < 18446744073709551616) (h3 : x % 2 = 0) (h4 : 0 ≤ y) (h5 : y < 2) : bits .or .u64 x y = x + y := by
  rw [u64_or x y h1 h2 h4 (by omega), nat_join 1 x.toNat y.toNat (by omega) (by omega)]; omega

theorem mul_bd (x y m n : Int) (hx : 0 ≤ x) (hxm : x ≤ m) (hy : 0 ≤ y) (hyn : y ≤ n) : 0 ≤ x * y ∧ x * y ≤ m * n :=
  ⟨Int.mul_nonneg hx hy, Int.mul_le_mul hxm hyn hy (by omega)⟩

theorem split_mul (a b : Int) : a * b = (a / 4294967296 * (b / 4294967296)) * 18446744073709551616 + (a / 4294967296 * (b % 4294967296) + a % 4294967296 * (b / 4294967296)) * 4294967296 + a % 4294967296 * (b % 4294967296) := by
  have ha : a = a / 4294967296 * 4294967296 + a % 4294967296 := by omega
  have hb : b = b / 4294967296 * 4294967296 + b % 4294967296 := by omega
  generalize a / 4294967296 = x at *
  generalize a % 4294967296 = y at *
  generalize b / 4294967296 = u at *
  generalize b % 4294967296 = v at *
  subst ha hb
  have e1 : x * 4294967296 * (u * 4294967296) = x * u * 18446744073709551616 := by
    rw [Int.mul_assoc, ← Int.mul_assoc 4294967296 u, Int.mul_comm 4294967296 u, Int.mul_assoc u, ← Int.mul_assoc]; rfl
  have e2 : x * 4294967296 * v = x * v * 4294967296 := by rw [Int.mul_right_comm]
  have e3 : y * (u * 4294967296) = y * u * 4294967296 := by rw [Int.mul_assoc]
  rw [Int.add_mul, Int.mul_add, Int.mul_add, e1, e2, e3]
  omega

/-- The lower half, the two in the middle and the higher one, as the code reckons them. -/
def pLow (a b : Int) : Int := IntKind.u64.wrap (bits .and .u64 a 4294967295 * bits .and .u64 b 4294967295)
def pOne (a b : Int) : Int := IntKind.u64.wrap (a / 4294967296 * bits .and .u64 b 4294967295)
def pTwo (a b : Int) : Int := IntKind.u64.wrap (bits .and .u64 a 4294967295 * (b / 4294967296))
def pMid (a b : Int) : Int := IntKind.u64.wrap (IntKind.u64.wrap (pLow a b / 4294967296 + bits .and .u64 (pOne a b) 4294967295) + bits .and .u64 (pTwo a b) 4294967295)
def pHi (a b : Int) : Int := IntKind.u64.wrap (IntKind.u64.wrap (IntKind.u64.wrap (IntKind.u64.wrap (a / 4294967296 * (b / 4294967296)) + pOne a b / 4294967296) + pTwo a b / 4294967296) + pMid a b / 4294967296)
def pLo (a b : Int) : Int := bits .or .u64 (IntKind.u64.wrap (pMid a b * 4294967296)) (bits .and .u64 (pLow a b) 4294967295)

theorem p_eq (a b : Int) (ha : 0 ≤ a) (ha2 : a ≤ 4611686018427387904) (hb : 0 ≤ b) (hb2 : b ≤ 4611686018427387904) :
    pHi a b = a * b / 18446744073709551616 ∧ pLo a b = a * b % 18446744073709551616 := by
  have hN := split_mul a b
  have hal := and32 a ha (by omega)
  have hbl := and32 b hb (by omega)
  have h1 := mul_bd (a % 4294967296) (b % 4294967296) 4294967295 4294967295 (by omega) (by omega) (by omega) (by omega)
  have h2 := mul_bd (a / 4294967296) (b % 4294967296) 1073741824 4294967295 (by omega) (by omega) (by omega) (by omega)
  have h3 := mul_bd (a % 4294967296) (b / 4294967296) 4294967295 1073741824 (by omega) (by omega) (by omega) (by omega)
  have h4 := mul_bd (a / 4294967296) (b / 4294967296) 1073741824 1073741824 (by omega) (by omega) (by omega) (by omega)
  have eLow : pLow a b = a % 4294967296 * (b % 4294967296) := by unfold pLow; rw [hal, hbl, IntKind.wrap_u64]; omega
  have eOne : pOne a b = a / 4294967296 * (b % 4294967296) := by unfold pOne; rw [hbl, IntKind.wrap_u64]; omega
  have eTwo : pTwo a b = a % 4294967296 * (b / 4294967296) := by unfold pTwo; rw [hal, IntKind.wrap_u64]; omega
  generalize hP : a % 4294967296 * (b % 4294967296) = P at *
  generalize hO : a / 4294967296 * (b % 4294967296) = O at *
  generalize hT : a % 4294967296 * (b / 4294967296) = T at *
  have eMid : pMid a b = P / 4294967296 + O % 4294967296 + T % 4294967296 := by
    unfold pMid; rw [eLow, eOne, eTwo, and32 O (by omega) (by omega), and32 T (by omega) (by omega), IntKind.wrap_u64, IntKind.wrap_u64]; omega
  have eHi : pHi a b = a / 4294967296 * (b / 4294967296) + O / 4294967296 + T / 4294967296 + (P / 4294967296 + O % 4294967296 + T % 4294967296) / 4294967296 := by
    unfold pHi; rw [eMid, eOne, eTwo]; generalize a / 4294967296 * (b / 4294967296) = Q at *; simp only [IntKind.wrap_u64]; omega
  have eLo : pLo a b = ((P / 4294967296 + O % 4294967296 + T % 4294967296) * 4294967296) % 18446744073709551616 + P % 4294967296 := by
    unfold pLo; rw [eMid, eLow, and32 P (by omega) (by omega), IntKind.wrap_u64, or32 _ _ (by omega) (by omega) (by omega) (by omega) (by omega)]
  rw [eHi, eLo]
  generalize a / 4294967296 * (b / 4294967296) = Q at *
  generalize a * b = M at *
  clear hal hbl eLow eOne eTwo eMid eHi eLo hP hO hT
  omega

/-- Behind the bits above n: so much is the quotient, so much is left. -/
def DInv (p0 p1 c : Int) (n : Nat) (q left : Int) : Prop :=
  0 ≤ left ∧ left < c ∧ 0 ≤ q ∧ q < 2 ^ (63 - n) ∧ q * c + left = p0 * 2 ^ (63 - n) + p1 / 2 ^ (n + 1)

theorem DInv_start (p0 p1 c : Int) (h0 : 0 ≤ p0) (h1 : 0 ≤ p1) (h2 : p1 < 18446744073709551616) (h : p0 < c) : DInv p0 p1 c 63 0 p0 := by
  refine ⟨h0, h, Int.le_refl _, by simp, ?_⟩
  show 0 * c + p0 = p0 * 2 ^ (63 - 63) + p1 / 18446744073709551616
  simp only [Nat.sub_self, Int.pow_zero]
  omega

theorem pow_le63 {n : Nat} (_hn : n ≤ 63) : (2 : Int) ^ (63 - n) ≤ 9223372036854775808 := by
  have h : (2 : Nat) ^ (63 - n) ≤ 2 ^ 63 := Nat.pow_le_pow_right (by omega) (by omega)
  have : ((2 ^ (63 - n) : Nat) : Int) ≤ ((2 ^ 63 : Nat) : Int) := Int.ofNat_le.2 h
  simpa using this

theorem DInv_bd {p0 p1 c : Int} {n : Nat} {q left : Int} (hn : n ≤ 63) (h : DInv p0 p1 c n q left) : 0 ≤ q ∧ q ≤ 9223372036854775807 ∧ 0 ≤ left ∧ left < c := by
  obtain ⟨a, b, d, e, _⟩ := h
  have := pow_le63 hn
  exact ⟨d, by omega, a, b⟩

/-- Behind bit n, too. -/
def DOut (p0 p1 c : Int) (n : Nat) (q left : Int) : Prop :=
  0 ≤ left ∧ left < c ∧ 0 ≤ q ∧ q < 2 ^ (64 - n) ∧ q * c + left = p0 * 2 ^ (64 - n) + p1 / 2 ^ n

theorem DOut_next {p0 p1 c : Int} {n : Nat} {q left : Int} (hn : n ≤ 63) (h0 : n ≠ 0) (h : DOut p0 p1 c n q left) : DInv p0 p1 c (n - 1) q left := by
  unfold DInv
  rw [show 63 - (n - 1) = 64 - n from by omega, show n - 1 + 1 = n from by omega]
  exact h

theorem DOut_end {p0 p1 c : Int} {q left : Int} (h : DOut p0 p1 c 0 q left) : q = (p0 * 18446744073709551616 + p1) / c ∧ left = (p0 * 18446744073709551616 + p1) % c ∧ 0 ≤ q ∧ q < 18446744073709551616 := by
  obtain ⟨h1, h2, h3, h4, h5⟩ := h
  have h6 : q * c + left = p0 * 18446744073709551616 + p1 := by simpa using h5
  rw [← h6, Int.mul_comm q c]
  refine ⟨?_, ?_, h3, by simpa using h4⟩
  · rw [Int.mul_add_ediv_left _ _ (by omega), Int.ediv_eq_zero_of_lt h1 h2]; omega
  · rw [Int.mul_add_emod_self_left, Int.emod_eq_of_lt h1 h2]

/-- The bit that comes in. -/
def dBit (b p1 : Int) (n : Nat) : Int := bits .or .u64 (b * 2) (bits .and .u64 (p1 / 2 ^ n) 1)

theorem div_pow_bd (p1 : Int) (n : Nat) (h1 : 0 ≤ p1) (h2 : p1 < 18446744073709551616) : 0 ≤ p1 / 2 ^ n ∧ p1 / 2 ^ n < 18446744073709551616 := by
  have hp : (0 : Int) < 2 ^ n := Int.pow_pos (by omega)
  exact ⟨Int.ediv_nonneg h1 (by omega), Int.lt_of_le_of_lt (Int.ediv_le_self _ h1) h2⟩

theorem dBit_eq (b p1 : Int) (n : Nat) (h1 : 0 ≤ p1) (h2 : p1 < 18446744073709551616) (h3 : 0 ≤ b) (h4 : b < 4611686018427387904) : dBit b p1 n = b * 2 + p1 / 2 ^ n % 2 := by
  have hp := div_pow_bd p1 n h1 h2
  unfold dBit
  rw [and1 _ hp.1 hp.2, or1 _ _ (by omega) (by omega) (by omega) (by omega) (by omega)]

theorem d_next {p0 p1 c : Int} {n : Nat} {q left : Int} (hn : n ≤ 63) (h : DInv p0 p1 c n q left) :
    (2 * q) * c + (left * 2 + p1 / 2 ^ n % 2) = p0 * 2 ^ (64 - n) + p1 / 2 ^ n ∧ 2 * q + 1 < 2 ^ (64 - n) := by
  obtain ⟨_, _, _, h4, h5⟩ := h
  have e1 : (2 : Int) ^ (64 - n) = 2 ^ (63 - n) * 2 := by rw [show 64 - n = (63 - n) + 1 from by omega, Int.pow_succ]
  have e2 : p1 / 2 ^ (n + 1) = p1 / 2 ^ n / 2 := by rw [Int.pow_succ, Int.ediv_ediv, if_neg (by have : (0 : Int) < 2 ^ n := Int.pow_pos (by omega); omega), Int.sub_zero]
  rw [e1, ← Int.mul_assoc p0, Int.mul_assoc 2 q c]
  rw [e2] at h5
  generalize p0 * 2 ^ (63 - n) = A at *
  generalize p1 / 2 ^ n = B at *
  generalize q * c = C at *
  exact ⟨by omega, by omega⟩

theorem d_hi {p0 p1 c : Int} {n : Nat} {q left : Int} (h1 : 0 ≤ p1) (h2 : p1 < 18446744073709551616) (hc : c ≤ 4611686018427387904) (hn : n ≤ 63) (h : DInv p0 p1 c n q left) (hge : c ≤ dBit left p1 n) :
    DOut p0 p1 c n (bits .or .u64 (q * 2) 1) (IntKind.u64.wrap (dBit left p1 n - c)) := by
  have hd := d_next hn h
  have hb := DInv_bd hn h
  obtain ⟨g1, g2, g3, g4⟩ := hb
  have he := dBit_eq left p1 n h1 h2 g3 (by omega)
  rw [he] at hge ⊢
  rw [or1 _ _ (by omega) (by omega) (by omega) (by omega) (by omega), IntKind.wrap_u64, Int.emod_eq_of_lt (by omega) (by omega)]
  refine ⟨by omega, by omega, by omega, by have := hd.2; omega, ?_⟩
  rw [← hd.1, Int.mul_comm q 2, Int.add_mul, Int.one_mul]
  omega

theorem d_lo {p0 p1 c : Int} {n : Nat} {q left : Int} (h1 : 0 ≤ p1) (h2 : p1 < 18446744073709551616) (hc : c ≤ 4611686018427387904) (hn : n ≤ 63) (h : DInv p0 p1 c n q left) (hlt : dBit left p1 n < c) :
    DOut p0 p1 c n (q * 2) (dBit left p1 n) := by
  have hd := d_next hn h
  have hb := DInv_bd hn h
  obtain ⟨g1, g2, g3, g4⟩ := hb
  have he := dBit_eq left p1 n h1 h2 g3 (by omega)
  rw [he] at hlt ⊢
  refine ⟨by omega, by omega, by omega, by have := hd.2; omega, ?_⟩
  rw [← hd.1, Int.mul_comm q 2]

theorem n_div_lt (N c : Int) (hc : 1 ≤ c) (h : N / c < 9223372036854775808) : N / 18446744073709551616 < c := by
  have h1 : N < 9223372036854775808 * c := by
    have := Int.lt_mul_of_ediv_lt (by omega : 0 < c) h
    exact this
  omega

theorem n_mul_bd (A B : Int) (ha : 0 ≤ A) (hb : 0 ≤ B) : 0 ≤ A * B := Int.mul_nonneg ha hb

end Go.Proofs.Ytnphbdhcoiaklaa
namespace Go.Proofs.Ytnphbdhcoiaklaa
open Go.RowKit

theorem product_is (a b : Int) (ha : 0 ≤ a) (ha2 : a ≤ 4611686018427387904) (hb : 0 ≤ b) (hb2 : b ≤ 4611686018427387904) (w : World) :
    Calls Try.prog 113 #[.int .u64 a, .int .u64 b] w fun e w' => e = .returned (.agg #[.int .u64 (a * b / 18446744073709551616), .int .u64 (a * b % 18446744073709551616)]) ∧ Below w.heap.size w w' := by
  have H := Lib.hid (p_eq a b ha ha2 hb hb2)
  rw [← H.out.1, ← H.out.2]
  go_enter Try.func113, Try.ntmps113
  go_wp2
  exact bodyPost_ret (v := .agg #[.int .u64 (pHi a b), .int .u64 (pLo a b)]) (by simp [results, Try.results113, go_sem, pHi, pLo, pMid, pLow, pOne, pTwo]) rfl ⟨rfl, (Below.refl _ _).alloc (Nat.le_refl _) _⟩

theorem divided_no (p0 p1 c : Int) (h : c ≤ p0) (w : World) :
    Calls Try.prog 112 #[.agg #[.int .u64 p0, .int .u64 p1], .int .u64 c] w fun e w' => e = .returned (.tuple #[.int .u64 0, .int .u64 0, .bool false]) ∧ Below w.heap.size w w' := by
  go_enter Try.func112, Try.ntmps112
  go_wp2
  go_step3
  go_wp2
  rw [Exit.noGoto_ret]
  go_ret3
  exact ⟨rfl, (Below.refl _ _).alloc (Nat.le_refl _) _⟩

theorem divided_yes (p0 p1 c : Int) (h0 : 0 ≤ p0) (h1 : 0 ≤ p1) (h2 : p1 < 18446744073709551616) (h : p0 < c) (hc : c ≤ 4611686018427387904) (w : World) :
    Calls Try.prog 112 #[.agg #[.int .u64 p0, .int .u64 p1], .int .u64 c] w fun e w' => e = .returned (.tuple #[.int .u64 ((p0 * 18446744073709551616 + p1) / c), .int .u64 ((p0 * 18446744073709551616 + p1) % c), .bool ((p0 * 18446744073709551616 + p1) / c / 9223372036854775808 == 0)]) ∧ Below w.heap.size w w' := by
  go_enter Try.func112, Try.ntmps112
  go_wp2
  go_step3
  go_wp2
  go_step3
  go_wp2
  go_loop [4, 5, 7] (fun q l k => ∃ (a b : Int) (n : Nat), q = .int .u64 a ∧ l = .int .u64 b ∧ k = .int .i64 n ∧ n ≤ 63 ∧ DInv p0 p1 c n a b) (fun _ _ k => (intOf k).toNat)
  case atStart => exact ⟨0, p0, 63, rfl, rfl, rfl, by omega, DInv_start _ _ _ h0 h1 h2 h⟩
  case round =>
    obtain ⟨a, b, n, rfl, rfl, rfl, hn, hi⟩ := hrel
    obtain ⟨g1, g2, g3, g4⟩ := DInv_bd hn hi
    go_wp2
    · have ho := d_hi h1 h2 hc hn hi (by assumption)
      have hz : ((n : Int) == 0) = true := by assumption
      obtain rfl : n = 0 := by simpa using hz
      obtain ⟨e1, e2, _, _⟩ := DOut_end ho
      rw [← e1, ← e2]
      go_ret3
      exact ⟨rfl, (Below.refl _ _).alloc (Nat.le_refl _) _⟩
    · have ho := d_hi h1 h2 hc hn hi (by assumption)
      have hz : ((n : Int) == 0) = false := by assumption
      have hz : n ≠ 0 := by simpa using hz
      go_round
      case rel => exact ⟨_, _, n - 1, rfl, rfl, by go_num, by omega, DOut_next hn hz ho⟩
      case measure => simp [intOf]; omega
    · have ho := d_lo h1 h2 hc hn hi (by assumption)
      have hz : ((n : Int) == 0) = true := by assumption
      obtain rfl : n = 0 := by simpa using hz
      obtain ⟨e1, e2, _, _⟩ := DOut_end ho
      rw [← e1, ← e2]
      go_ret3
      exact ⟨rfl, (Below.refl _ _).alloc (Nat.le_refl _) _⟩
    · have ho := d_lo h1 h2 hc hn hi (by assumption)
      have hz : ((n : Int) == 0) = false := by assumption
      have hz : n ≠ 0 := by simpa using hz
      go_round
      case rel => exact ⟨_, _, n - 1, rfl, rfl, by go_num, by omega, DOut_next hn hz ho⟩
      case measure => simp [intOf]; omega

theorem divided_is (N c : Int) (p : Bool) (h0 : 0 ≤ N) (h : N / 18446744073709551616 < c) (hc : c ≤ 4611686018427387904) (hp : (N / c / 9223372036854775808 == 0) = p) (w : World) :
    Calls Try.prog 112 #[.agg #[.int .u64 (N / 18446744073709551616), .int .u64 (N % 18446744073709551616)], .int .u64 c] w fun e w' => e = .returned (.tuple #[.int .u64 (N / c), .int .u64 (N % c), .bool p]) ∧ Below w.heap.size w w' := by
  have := divided_yes (N / 18446744073709551616) (N % 18446744073709551616) c (by omega) (by omega) (by omega) h hc w
  rw [show N / 18446744073709551616 * 18446744073709551616 + N % 18446744073709551616 = N from by omega, hp] at this
  exact this

theorem results_tmp4 {fn : Func} {t u v x : Tmp} (h : fn.results = #[.tmp t, .tmp u, .tmp v, .tmp x]) (tmps : Array Value) (P : Program) (w : World) :
    (results fn tmps).run P w = .ok (.tuple #[tmps.getD t undef, tmps.getD u undef, tmps.getD v undef, tmps.getD x undef]) w := by
  simp [results, h]

theorem ret4 {k : IntKind} {a a' : Int} {p p' q q' r r' : Bool} (h1 : a = a') (h2 : p = p') (h3 : q = q') (h4 : r = r') :
    Ending.returned (.tuple #[.int k a, .bool p, .bool q, .bool r]) = .returned (.tuple #[.int k a', .bool p', .bool q', .bool r']) := by rw [h1, h2, h3, h4]

/-- Where the numbers can't be. -/
theorem quotient_bad (a b c : Int) (h : (smallB a && (smallB b && smallB c)) = false ∨ c < 1) (w : World) :
    Calls Try.prog 92 #[.int .i64 a, .int .i64 b, .int .i64 c] w fun e w' => e = .returned (.tuple #[.int .i64 0, .bool false, .bool false, .bool false]) ∧ Below w.heap.size w w' := by
  cases hs : (smallB a && (smallB b && smallB c)) with
  | false =>
    go_enter Try.func92, Try.ntmps92
    go_wp2_with fail
    refine (small3 a b c _ hs _ _ (by simp) (by simp) (by simp)).mono ?_
    rintro e w1 ⟨rfl, rfl⟩
    go_wp2
    exact bodyPost_ret (results_tmp4 rfl _ _ _) rfl ⟨rfl, (Below.refl _ _).alloc (Nat.le_refl _) _⟩
  | true =>
    have hc : c < 1 := by rcases h with h | h; (rw [hs] at h; cases h); exact h
    clear h
    go_enter Try.func92, Try.ntmps92
    go_wp2_with fail
    refine (small3 a b c _ hs _ _ (by simp) (by simp) (by simp)).mono ?_
    rintro e w1 ⟨rfl, rfl⟩
    go_wp2
    exact bodyPost_ret (results_tmp4 rfl _ _ _) rfl ⟨rfl, (Below.refl _ _).alloc (Nat.le_refl _) _⟩

theorem absP_bd {a : Int} (h : smallB a = true) : 0 ≤ absP a ∧ absP a ≤ 4611686018427387904 := by
  have := smallB_iff.1 h
  unfold absP; rw [if_pos h]; split <;> omega

/-- Where they can, and the quotient has not more than 63 bits. -/
theorem quotient_yes (a b c A B q : Int) (below more : Bool) (hs : (smallB a && (smallB b && smallB c)) = true) (hc : 1 ≤ c) (hA : absP a = A) (hB : absP b = B) (hq : A * B / c = q) (hq2 : q < 9223372036854775808)
    (hbelow : (decide (a < 0) != decide (b < 0)) = below) (hmore : decide (0 < A * B % c) = more) (w : World) :
    Calls Try.prog 92 #[.int .i64 a, .int .i64 b, .int .i64 c] w fun e w' => e = .returned (.tuple #[.int .i64 q, .bool below, .bool more, .bool true]) ∧ Below w.heap.size w w' := by
  obtain ⟨ha, hbc⟩ := Bool.and_eq_true_iff.1 hs
  obtain ⟨hb, hcs⟩ := Bool.and_eq_true_iff.1 hbc
  have hA1 := absP_bd ha
  have hB1 := absP_bd hb
  have hc1 := smallB_iff.1 hcs
  rw [hA] at hA1
  rw [hB] at hB1
  obtain ⟨hA1, hA2⟩ := hA1
  obtain ⟨hB1, hB2⟩ := hB1
  obtain ⟨hc3, hc4⟩ := hc1
  have hN := n_mul_bd A B hA1 hB1
  have hlt := Lib.hid (n_div_lt (A * B) c hc (by rw [hq]; exact hq2))
  have hq1 : 0 ≤ q := by rw [← hq]; exact Int.ediv_nonneg hN (by omega)
  have hp := Lib.hid (show (A * B / c / 9223372036854775808 == 0) = true by rw [hq]; simp; omega)
  have HA := Lib.hid hA
  have HB := Lib.hid hB
  have Hq := Lib.hid hq
  have Hbelow := Lib.hid hbelow
  have Hmore := Lib.hid hmore
  clear hA hB hq hbelow hmore ha hb hbc hcs
  go_enter Try.func92, Try.ntmps92
  go_wp2_with fail
  refine (small3 a b c _ hs _ _ (by simp) (by simp) (by simp)).mono ?_
  rintro e w1 ⟨rfl, rfl⟩
  go_wp2_with fail
  refine (Abs_is a A HA _).mono ?_
  rintro e w1 ⟨rfl, hb1⟩
  go_wp2_with fail
  refine (Abs_is b B HB _).mono ?_
  rintro e w2 ⟨rfl, hb2⟩
  go_wp2_with fail
  refine (product_is A B hA1 hA2 hB1 hB2 _).mono ?_
  rintro e w3 ⟨rfl, hb3⟩
  go_wp2_with fail
  refine (divided_is (A * B) c _ hN hlt.out hc4 hp.out _).mono ?_
  rintro e w4 ⟨rfl, hb4⟩
  rw [Hq.out]
  go_wp2
  refine bodyPost_ret (results_tmp4 rfl _ _ _) rfl ?_
  exact ⟨ret4 rfl Hbelow.out Hmore.out rfl, bstep (bstep (bstep (bstep (balloc (brefl w) _) hb1) hb2) hb3) hb4⟩

/-- Where it has more. -/
def NoQuotient (w : World) (e : Ending) (w' : World) : Prop := ∃ (q : Int) (x y : Bool), e = .returned (.tuple #[.int .i64 q, .bool x, .bool y, .bool false]) ∧ Below w.heap.size w w'

set_option maxHeartbeats 400000 in
theorem quotient_no (a b c A B : Int) (hs : (smallB a && (smallB b && smallB c)) = true) (hc : 1 ≤ c) (hA : absP a = A) (hB : absP b = B) (hq2 : 9223372036854775808 ≤ A * B / c) (w : World) :
    Calls Try.prog 92 #[.int .i64 a, .int .i64 b, .int .i64 c] w (NoQuotient w) := by
  obtain ⟨ha, hbc⟩ := Bool.and_eq_true_iff.1 hs
  obtain ⟨hb, hcs⟩ := Bool.and_eq_true_iff.1 hbc
  have hA1 := absP_bd ha
  have hB1 := absP_bd hb
  have hc1 := smallB_iff.1 hcs
  rw [hA] at hA1
  rw [hB] at hB1
  obtain ⟨hA1, hA2⟩ := hA1
  obtain ⟨hB1, hB2⟩ := hB1
  obtain ⟨hc3, hc4⟩ := hc1
  have hN := n_mul_bd A B hA1 hB1
  have HA := Lib.hid hA
  have HB := Lib.hid hB
  clear hA hB ha hb hbc hcs
  by_cases hlt0 : A * B / 18446744073709551616 < c
  · have hp := Lib.hid (show (A * B / c / 9223372036854775808 == 0) = false by simp; omega)
    have hlt := Lib.hid hlt0
    clear hlt0 hq2
    go_enter Try.func92, Try.ntmps92
    go_wp2_with fail
    refine (small3 a b c _ hs _ _ (by simp) (by simp) (by simp)).mono ?_
    rintro e w1 ⟨rfl, rfl⟩
    go_wp2_with fail
    refine (Abs_is a A HA _).mono ?_
    rintro e w1 ⟨rfl, hb1⟩
    go_wp2_with fail
    refine (Abs_is b B HB _).mono ?_
    rintro e w2 ⟨rfl, hb2⟩
    go_wp2_with fail
    refine (product_is A B hA1 hA2 hB1 hB2 _).mono ?_
    rintro e w3 ⟨rfl, hb3⟩
    go_wp2_with fail
    refine (divided_is (A * B) c _ hN hlt.out hc4 hp.out _).mono ?_
    rintro e w4 ⟨rfl, hb4⟩
    go_wp2
    exact bodyPost_ret (results_tmp4 rfl _ _ _) rfl ⟨_, _, _, rfl, bstep (bstep (bstep (bstep (balloc (brefl w) _) hb1) hb2) hb3) hb4⟩
  · have hge := Lib.hid (show c ≤ A * B / 18446744073709551616 by omega)
    clear hlt0 hq2
    go_enter Try.func92, Try.ntmps92
    go_wp2_with fail
    refine (small3 a b c _ hs _ _ (by simp) (by simp) (by simp)).mono ?_
    rintro e w1 ⟨rfl, rfl⟩
    go_wp2_with fail
    refine (Abs_is a A HA _).mono ?_
    rintro e w1 ⟨rfl, hb1⟩
    go_wp2_with fail
    refine (Abs_is b B HB _).mono ?_
    rintro e w2 ⟨rfl, hb2⟩
    go_wp2_with fail
    refine (product_is A B hA1 hA2 hB1 hB2 _).mono ?_
    rintro e w3 ⟨rfl, hb3⟩
    go_wp2_with fail
    refine (divided_no _ _ c hge.out _).mono ?_
    rintro e w4 ⟨rfl, hb4⟩
    go_wp2
    exact bodyPost_ret (results_tmp4 rfl _ _ _) rfl ⟨_, _, _, rfl, bstep (bstep (bstep (bstep (balloc (brefl w) _) hb1) hb2) hb3) hb4⟩
end Go.Proofs.Ytnphbdhcoiaklaa
namespace Go.Proofs.Ytnphbdhcoiaklaa
open Go.RowKit

def okB (a b c : Int) : Bool := smallB a && (smallB b && smallB c)
/-- P1.2. -/
def floorP (a b c : Int) : Int × Bool := if okB a b c = true ∧ 1 ≤ c then toldP (a * b / c) else (0, false)
def ceilP (a b c : Int) : Int × Bool := if okB a b c = true ∧ 1 ≤ c then toldP (-(-(a * b) / c)) else (0, false)

theorem floorP_no {a b c : Int} (h : okB a b c = false ∨ c < 1) : floorP a b c = (0, false) := by
  unfold floorP; rw [if_neg]; rintro ⟨h1, h2⟩; rcases h with h | h; (rw [h] at h1; cases h1); omega
theorem ceilP_no {a b c : Int} (h : okB a b c = false ∨ c < 1) : ceilP a b c = (0, false) := by
  unfold ceilP; rw [if_neg]; rintro ⟨h1, h2⟩; rcases h with h | h; (rw [h] at h1; cases h1); omega
theorem floorP_yes {a b c : Int} (h : okB a b c = true) (hc : 1 ≤ c) : floorP a b c = toldP (a * b / c) := by
  unfold floorP; rw [if_pos ⟨h, hc⟩]
theorem ceilP_yes {a b c : Int} (h : okB a b c = true) (hc : 1 ≤ c) : ceilP a b c = toldP (-(-(a * b) / c)) := by
  unfold ceilP; rw [if_pos ⟨h, hc⟩]

theorem abs_mul {a b A B : Int} (ha : smallB a = true) (hb : smallB b = true) (hA : absP a = A) (hB : absP b = B) :
    ((decide (a < 0) != decide (b < 0)) = false → a * b = A * B) ∧ ((decide (a < 0) != decide (b < 0)) = true → a * b = -(A * B)) := by
  unfold absP at hA hB
  rw [if_pos ha] at hA
  rw [if_pos hb] at hB
  subst hA hB
  by_cases h1 : a < 0 <;> by_cases h2 : b < 0 <;> simp [h1, h2, Int.neg_mul, Int.mul_neg]

theorem neg_div (N c : Int) (hc : 1 ≤ c) : -N / c = if 0 < N % c then -(N / c) - 1 else -(N / c) := by
  have h := Int.mul_ediv_add_emod N c
  have h1 := Int.emod_nonneg N (show c ≠ 0 by omega)
  have h2 := Int.emod_lt_of_pos N (show 0 < c by omega)
  generalize hq : N / c = q at *
  generalize hr : N % c = r at *
  split
  · have e : -N = (c - r) + (-q - 1) * c := by
      rw [← h, Int.sub_mul, Int.neg_mul, Int.mul_comm q c]; omega
    rw [e, Int.add_mul_ediv_right _ _ (by omega), Int.ediv_eq_zero_of_lt (by omega) (by omega)]; omega
  · have e : -N = (-q) * c := by
      rw [← h, Int.neg_mul, Int.mul_comm q c]; omega
    rw [e, Int.mul_ediv_cancel _ (by omega)]

/-- The cases of Floor, by what the quotient tells. -/
theorem floor_up {a b c A B q : Int} (h : okB a b c = true) (hc : 1 ≤ c) (hA : absP a = A) (hB : absP b = B) (hq : A * B / c = q) (hb : (decide (a < 0) != decide (b < 0)) = false) : floorP a b c = toldP q := by
  obtain ⟨ha, hbc⟩ := Bool.and_eq_true_iff.1 h
  rw [floorP_yes h hc, (abs_mul ha (Bool.and_eq_true_iff.1 hbc).1 hA hB).1 hb, hq]
theorem floor_more {a b c A B q : Int} (h : okB a b c = true) (hc : 1 ≤ c) (hA : absP a = A) (hB : absP b = B) (hq : A * B / c = q) (hb : (decide (a < 0) != decide (b < 0)) = true) (hm : decide (0 < A * B % c) = true) : floorP a b c = toldP (-q - 1) := by
  obtain ⟨ha, hbc⟩ := Bool.and_eq_true_iff.1 h
  rw [floorP_yes h hc, (abs_mul ha (Bool.and_eq_true_iff.1 hbc).1 hA hB).2 hb, neg_div _ _ hc, if_pos (of_decide_eq_true hm), hq]
theorem floor_even {a b c A B q : Int} (h : okB a b c = true) (hc : 1 ≤ c) (hA : absP a = A) (hB : absP b = B) (hq : A * B / c = q) (hb : (decide (a < 0) != decide (b < 0)) = true) (hm : decide (0 < A * B % c) = false) : floorP a b c = toldP (-q) := by
  obtain ⟨ha, hbc⟩ := Bool.and_eq_true_iff.1 h
  rw [floorP_yes h hc, (abs_mul ha (Bool.and_eq_true_iff.1 hbc).1 hA hB).2 hb, neg_div _ _ hc, if_neg (of_decide_eq_false hm), hq]
theorem ceil_down {a b c A B q : Int} (h : okB a b c = true) (hc : 1 ≤ c) (hA : absP a = A) (hB : absP b = B) (hq : A * B / c = q) (hb : (decide (a < 0) != decide (b < 0)) = true) : ceilP a b c = toldP (-q) := by
  obtain ⟨ha, hbc⟩ := Bool.and_eq_true_iff.1 h
  rw [ceilP_yes h hc, (abs_mul ha (Bool.and_eq_true_iff.1 hbc).1 hA hB).2 hb, Int.neg_neg, hq]
theorem ceil_more {a b c A B q : Int} (h : okB a b c = true) (hc : 1 ≤ c) (hA : absP a = A) (hB : absP b = B) (hq : A * B / c = q) (hb : (decide (a < 0) != decide (b < 0)) = false) (hm : decide (0 < A * B % c) = true) : ceilP a b c = toldP (q + 1) := by
  obtain ⟨ha, hbc⟩ := Bool.and_eq_true_iff.1 h
  rw [ceilP_yes h hc, (abs_mul ha (Bool.and_eq_true_iff.1 hbc).1 hA hB).1 hb, neg_div _ _ hc, if_pos (of_decide_eq_true hm), hq]; congr 1; omega
theorem ceil_even {a b c A B q : Int} (h : okB a b c = true) (hc : 1 ≤ c) (hA : absP a = A) (hB : absP b = B) (hq : A * B / c = q) (hb : (decide (a < 0) != decide (b < 0)) = false) (hm : decide (0 < A * B % c) = false) : ceilP a b c = toldP q := by
  obtain ⟨ha, hbc⟩ := Bool.and_eq_true_iff.1 h
  rw [ceilP_yes h hc, (abs_mul ha (Bool.and_eq_true_iff.1 hbc).1 hA hB).1 hb, neg_div _ _ hc, if_neg (of_decide_eq_false hm), hq]; congr 1; omega

/-- Too great a quotient. -/
theorem floor_big {a b c A B q : Int} (h : okB a b c = true) (hc : 1 ≤ c) (hA : absP a = A) (hB : absP b = B) (hq : A * B / c = q) (hq2 : 4611686018427387904 < q) : floorP a b c = (0, false) := by
  cases hb : (decide (a < 0) != decide (b < 0)) with
  | false => rw [floor_up h hc hA hB hq hb]; exact told_f (smallB_high hq2)
  | true =>
    cases hm : decide (0 < A * B % c) with
    | true => rw [floor_more h hc hA hB hq hb hm]; exact told_f (smallB_low (by omega))
    | false => rw [floor_even h hc hA hB hq hb hm]; exact told_f (smallB_low (by omega))
theorem ceil_big {a b c A B q : Int} (h : okB a b c = true) (hc : 1 ≤ c) (hA : absP a = A) (hB : absP b = B) (hq : A * B / c = q) (hq2 : 4611686018427387904 < q) : ceilP a b c = (0, false) := by
  cases hb : (decide (a < 0) != decide (b < 0)) with
  | true => rw [ceil_down h hc hA hB hq hb]; exact told_f (smallB_low (by omega))
  | false =>
    cases hm : decide (0 < A * B % c) with
    | true => rw [ceil_more h hc hA hB hq hb hm]; exact told_f (smallB_high (by omega))
    | false => rw [ceil_even h hc hA hB hq hb hm]; exact told_f (smallB_high hq2)

end Go.Proofs.Ytnphbdhcoiaklaa
namespace Go.Proofs.Ytnphbdhcoiaklaa
open Go.RowKit

theorem quo_nonneg {a b c A B q : Int} (h : okB a b c = true) (hc : 1 ≤ c) (hA : absP a = A) (hB : absP b = B) (hq : A * B / c = q) : 0 ≤ q := by
  obtain ⟨ha, hbc⟩ := Bool.and_eq_true_iff.1 h
  have h1 := absP_bd ha
  have h2 := absP_bd (Bool.and_eq_true_iff.1 hbc).1
  rw [hA] at h1
  rw [hB] at h2
  rw [← hq]; exact Int.ediv_nonneg (Int.mul_nonneg h1.1 h2.1) (by omega)

theorem Floor_is (a b c x : Int) (p : Bool) (H : Hid (floorP a b c = (x, p))) (w : World) :
    Calls Try.prog 22 #[.int .i64 a, .int .i64 b, .int .i64 c] w fun e w' => e = .returned (.tuple #[.int .i64 x, .bool p]) ∧ Below w.heap.size w w' := by
  by_cases hbad : okB a b c = false ∨ c < 1
  · obtain ⟨rfl, rfl⟩ := Prod.mk.inj ((floorP_no hbad).symm.trans H.out)
    have Hbad := Lib.hid hbad
    clear hbad
    go_enter Try.func22, Try.ntmps22
    go_wp2_with fail
    refine (quotient_bad a b c Hbad.out _).mono ?_
    rintro e w1 ⟨rfl, hb1⟩
    go_wp2
    go_ret2
    exact ⟨rfl, hb1⟩
  · have hok : okB a b c = true := by cases h : okB a b c <;> simp_all
    have hc : 1 ≤ c := by omega
    clear hbad
    obtain ⟨A, hA⟩ : ∃ A, absP a = A := ⟨_, rfl⟩
    obtain ⟨B, hB⟩ : ∃ B, absP b = B := ⟨_, rfl⟩
    obtain ⟨q, hq⟩ : ∃ q, A * B / c = q := ⟨_, rfl⟩
    have hq0 := quo_nonneg hok hc hA hB hq
    by_cases hbig : 9223372036854775808 ≤ q
    · obtain ⟨rfl, rfl⟩ := Prod.mk.inj ((floor_big hok hc hA hB hq (by omega)).symm.trans H.out)
      have K := fun w => quotient_no a b c A B hok hc hA hB (by omega) w
      have K := Lib.hid K
      clear hA hB hq hok H
      go_enter Try.func22, Try.ntmps22
      go_wp2_with fail
      refine (K.out _).mono ?_
      rintro e w1 ⟨q, u, v, rfl, hb1⟩
      go_wp2
      go_ret2
      exact ⟨rfl, hb1⟩
    · have hq2 : q < 9223372036854775808 := by omega
      clear hbig
      by_cases hsm : 4611686018427387904 < q
      · obtain ⟨rfl, rfl⟩ := Prod.mk.inj ((floor_big hok hc hA hB hq hsm).symm.trans H.out)
        have K := fun below more h1 h2 w => quotient_yes a b c A B q below more hok hc hA hB hq hq2 h1 h2 w
        obtain ⟨below, hbl⟩ : ∃ below, (decide (a < 0) != decide (b < 0)) = below := ⟨_, rfl⟩
        obtain ⟨more, hmo⟩ : ∃ more, decide (0 < A * B % c) = more := ⟨_, rfl⟩
        have K := Lib.hid (K _ _ hbl hmo)
        have hs1 := smallB_high hsm
        clear hA hB hq hok H hbl hmo
        go_enter Try.func22, Try.ntmps22
        go_wp2_with fail
        refine (K.out _).mono ?_
        rintro e w1 ⟨rfl, hb1⟩
        go_wp2_with fail
        refine (small1 q _ hs1 _ _ (by simp)).mono ?_
        rintro e w2 ⟨rfl, rfl⟩
        go_wp2
        go_ret2
        exact ⟨rfl, balloc hb1 _⟩
      · have hs1 : smallB q = true := smallB_true (by omega) (by omega)
        have hq3 : q ≤ 4611686018427387904 := by omega
        clear hsm
        have K := fun below more h1 h2 w => quotient_yes a b c A B q below more hok hc hA hB hq hq2 h1 h2 w
        cases hbl : (decide (a < 0) != decide (b < 0)) with
        | false =>
          obtain ⟨rfl, rfl⟩ := Prod.mk.inj (((floor_up hok hc hA hB hq hbl).trans (told_t hs1)).symm.trans H.out)
          obtain ⟨more, hmo⟩ : ∃ more, decide (0 < A * B % c) = more := ⟨_, rfl⟩
          have K := Lib.hid (K _ _ hbl hmo)
          clear hA hB hq hok H hbl hmo
          go_enter Try.func22, Try.ntmps22
          go_wp2_with fail
          refine (K.out _).mono ?_
          rintro e w1 ⟨rfl, hb1⟩
          go_wp2_with fail
          refine (small1 q _ hs1 _ _ (by simp)).mono ?_
          rintro e w2 ⟨rfl, rfl⟩
          go_wp2
          go_ret2
          exact ⟨rfl, balloc hb1 _⟩
        | true =>
          cases hmo : decide (0 < A * B % c) with
          | true =>
            have H2 : Hid (toldP (-q - 1) = (x, p)) := (floor_more hok hc hA hB hq hbl hmo).symm.trans H.out
            have K := Lib.hid (K _ _ hbl hmo)
            clear hA hB hq hok H hbl hmo
            go_enter Try.func22, Try.ntmps22
            go_wp2_with fail
            refine (K.out _).mono ?_
            rintro e w1 ⟨rfl, hb1⟩
            go_wp2_with fail
            refine (small1 q _ hs1 _ _ (by simp)).mono ?_
            rintro e w2 ⟨rfl, rfl⟩
            go_wp2_with fail
            refine (told_is _ _ _ H2 _).mono ?_
            rintro e w2 ⟨rfl, hb2⟩
            go_wp2
            go_ret2
            exact ⟨rfl, bstep (balloc hb1 _) hb2⟩
          | false =>
            obtain ⟨rfl, rfl⟩ := Prod.mk.inj (((floor_even hok hc hA hB hq hbl hmo).trans (told_t (by rw [smallB_neg]; exact hs1))).symm.trans H.out)
            have K := Lib.hid (K _ _ hbl hmo)
            clear hA hB hq hok H hbl hmo
            go_enter Try.func22, Try.ntmps22
            go_wp2_with fail
            refine (K.out _).mono ?_
            rintro e w1 ⟨rfl, hb1⟩
            go_wp2_with fail
            refine (small1 q _ hs1 _ _ (by simp)).mono ?_
            rintro e w2 ⟨rfl, rfl⟩
            go_wp2
            go_ret2
            exact ⟨rfl, balloc hb1 _⟩
end Go.Proofs.Ytnphbdhcoiaklaa
namespace Go.Proofs.Ytnphbdhcoiaklaa
open Go.RowKit

theorem Ceil_is (a b c x : Int) (p : Bool) (H : Hid (ceilP a b c = (x, p))) (w : World) :
    Calls Try.prog 24 #[.int .i64 a, .int .i64 b, .int .i64 c] w fun e w' => e = .returned (.tuple #[.int .i64 x, .bool p]) ∧ Below w.heap.size w w' := by
  by_cases hbad : okB a b c = false ∨ c < 1
  · obtain ⟨rfl, rfl⟩ := Prod.mk.inj ((ceilP_no hbad).symm.trans H.out)
    have Hbad := Lib.hid hbad
    clear hbad
    go_enter Try.func24, Try.ntmps24
    go_wp2_with fail
    refine (quotient_bad a b c Hbad.out _).mono ?_
    rintro e w1 ⟨rfl, hb1⟩
    go_wp2
    go_ret2
    exact ⟨rfl, hb1⟩
  · have hok : okB a b c = true := by cases h : okB a b c <;> simp_all
    have hc : 1 ≤ c := by omega
    clear hbad
    obtain ⟨A, hA⟩ : ∃ A, absP a = A := ⟨_, rfl⟩
    obtain ⟨B, hB⟩ : ∃ B, absP b = B := ⟨_, rfl⟩
    obtain ⟨q, hq⟩ : ∃ q, A * B / c = q := ⟨_, rfl⟩
    have hq0 := quo_nonneg hok hc hA hB hq
    by_cases hbig : 9223372036854775808 ≤ q
    · obtain ⟨rfl, rfl⟩ := Prod.mk.inj ((ceil_big hok hc hA hB hq (by omega)).symm.trans H.out)
      have K := fun w => quotient_no a b c A B hok hc hA hB (by omega) w
      have K := Lib.hid K
      clear hA hB hq hok H
      go_enter Try.func24, Try.ntmps24
      go_wp2_with fail
      refine (K.out _).mono ?_
      rintro e w1 ⟨q, u, v, rfl, hb1⟩
      go_wp2
      go_ret2
      exact ⟨rfl, hb1⟩
    · have hq2 : q < 9223372036854775808 := by omega
      clear hbig
      by_cases hsm : 4611686018427387904 < q
      · obtain ⟨rfl, rfl⟩ := Prod.mk.inj ((ceil_big hok hc hA hB hq hsm).symm.trans H.out)
        have K := fun below more h1 h2 w => quotient_yes a b c A B q below more hok hc hA hB hq hq2 h1 h2 w
        obtain ⟨below, hbl⟩ : ∃ below, (decide (a < 0) != decide (b < 0)) = below := ⟨_, rfl⟩
        obtain ⟨more, hmo⟩ : ∃ more, decide (0 < A * B % c) = more := ⟨_, rfl⟩
        have K := Lib.hid (K _ _ hbl hmo)
        have hs1 := smallB_high hsm
        clear hA hB hq hok H hbl hmo
        go_enter Try.func24, Try.ntmps24
        go_wp2_with fail
        refine (K.out _).mono ?_
        rintro e w1 ⟨rfl, hb1⟩
        go_wp2_with fail
        refine (small1 q _ hs1 _ _ (by simp)).mono ?_
        rintro e w2 ⟨rfl, rfl⟩
        go_wp2
        go_ret2
        exact ⟨rfl, balloc hb1 _⟩
      · have hs1 : smallB q = true := smallB_true (by omega) (by omega)
        have hq3 : q ≤ 4611686018427387904 := by omega
        clear hsm
        have K := fun below more h1 h2 w => quotient_yes a b c A B q below more hok hc hA hB hq hq2 h1 h2 w
        cases hbl : (decide (a < 0) != decide (b < 0)) with
        | true =>
          obtain ⟨rfl, rfl⟩ := Prod.mk.inj (((ceil_down hok hc hA hB hq hbl).trans (told_t (by rw [smallB_neg]; exact hs1))).symm.trans H.out)
          obtain ⟨more, hmo⟩ : ∃ more, decide (0 < A * B % c) = more := ⟨_, rfl⟩
          have K := Lib.hid (K _ _ hbl hmo)
          clear hA hB hq hok H hbl hmo
          go_enter Try.func24, Try.ntmps24
          go_wp2_with fail
          refine (K.out _).mono ?_
          rintro e w1 ⟨rfl, hb1⟩
          go_wp2_with fail
          refine (small1 q _ hs1 _ _ (by simp)).mono ?_
          rintro e w2 ⟨rfl, rfl⟩
          go_wp2
          go_ret2
          exact ⟨rfl, balloc hb1 _⟩
        | false =>
          cases hmo : decide (0 < A * B % c) with
          | true =>
            have H2 : Hid (toldP (q + 1) = (x, p)) := (ceil_more hok hc hA hB hq hbl hmo).symm.trans H.out
            have K := Lib.hid (K _ _ hbl hmo)
            clear hA hB hq hok H hbl hmo
            go_enter Try.func24, Try.ntmps24
            go_wp2_with fail
            refine (K.out _).mono ?_
            rintro e w1 ⟨rfl, hb1⟩
            go_wp2_with fail
            refine (small1 q _ hs1 _ _ (by simp)).mono ?_
            rintro e w2 ⟨rfl, rfl⟩
            go_wp2_with fail
            refine (told_is _ _ _ H2 _).mono ?_
            rintro e w2 ⟨rfl, hb2⟩
            go_wp2
            go_ret2
            exact ⟨rfl, bstep (balloc hb1 _) hb2⟩
          | false =>
            obtain ⟨rfl, rfl⟩ := Prod.mk.inj (((ceil_even hok hc hA hB hq hbl hmo).trans (told_t hs1)).symm.trans H.out)
            have K := Lib.hid (K _ _ hbl hmo)
            clear hA hB hq hok H hbl hmo
            go_enter Try.func24, Try.ntmps24
            go_wp2_with fail
            refine (K.out _).mono ?_
            rintro e w1 ⟨rfl, hb1⟩
            go_wp2_with fail
            refine (small1 q _ hs1 _ _ (by simp)).mono ?_
            rintro e w2 ⟨rfl, rfl⟩
            go_wp2
            go_ret2
            exact ⟨rfl, balloc hb1 _⟩
end Go.Proofs.Ytnphbdhcoiaklaa
namespace Go.Proofs.Ytnphbdhcoiaklaa
open Go.RowKit

theorem told_bd {n x : Int} {p : Bool} (h : toldP n = (x, p)) : -4611686018427387904 ≤ x ∧ x ≤ 4611686018427387904 := by
  unfold toldP at h
  split at h
  · obtain ⟨rfl, _⟩ := Prod.mk.inj h; exact smallB_iff.1 (by assumption)
  · obtain ⟨rfl, _⟩ := Prod.mk.inj h; omega
theorem floor_bd {a b c x : Int} {p : Bool} (h : floorP a b c = (x, p)) : -4611686018427387904 ≤ x ∧ x ≤ 4611686018427387904 := by
  unfold floorP at h
  split at h
  · exact told_bd h
  · obtain ⟨rfl, _⟩ := Prod.mk.inj h; omega
end Go.Proofs.Ytnphbdhcoiaklaa
namespace Go.Proofs.Ytnphbdhcoiaklaa
open Go.RowKit

end Go.Proofs.Ytnphbdhcoiaklaa
namespace Go.Proofs.Ytnphbdhcoiaklaa
open Go.ChangeShapes Go.WideShapes Go.ChangeAt Go.RowKit
section
variable {H : Type} {enc : TypeId × Value → H} {P : Program} {w : World} {base : Nat} {spare : Nat → Bool} {held : Bool}

theorem cells_int {e : TypeId} {n : Nat} {c : List Value} {x : DataW H × List MemPlace} (he : P.underlying e = some (.int .i64)) (h : DataW.trod enc P w base spare held n e c = some x) : ∃ a, c = [.int .i64 a] ∧ I64 a := by
  obtain ⟨a, h1, _, h2⟩ := DataW.trod_int he h
  exact ⟨a, h1, i64_of h2⟩

theorem cells_path {t e : TypeId} {f0 f1 f2 : Field} {fuel : Nat} {cs : List Value} {x : DataW H × List MemPlace} (ht : P.underlying t = some (.struct #[f0, f1, f2])) (he : P.underlying e = some (.int .i64))
    (hk : (f0.type == e && f1.type == e && f2.type == e && f0.offset == 0 && f1.offset == 1 && f2.offset == 2 && P.cellsOf e == 1 && P.cellsOf t == 3) = true) (h : DataW.trod enc P w base spare held fuel t cs = some x) :
    ∃ a b c, cs = [.int .i64 a, .int .i64 b, .int .i64 c] ∧ I64 a ∧ I64 b ∧ I64 c := by
  simp only [Bool.and_eq_true, beq_iff_eq] at hk
  obtain ⟨⟨⟨⟨⟨⟨⟨k0, k1⟩, k2⟩, o0⟩, o1⟩, o2⟩, kc⟩, kt⟩ := hk
  obtain ⟨y0, y1, y2, n, _, hl, h0, h1, h2⟩ := Deep.trod_struct3 ht h
  rw [kt] at hl
  match cs, hl with
  | [c0, c1, c2], _ =>
    rw [k0, o0, kc] at h0
    rw [k1, o1, kc] at h1
    rw [k2, o2, kc] at h2
    obtain ⟨a, e0, wa⟩ := cells_int he h0
    obtain ⟨b, e1, wb⟩ := cells_int he h1
    obtain ⟨c, e2, wc⟩ := cells_int he h2
    simp at e0 e1 e2
    exact ⟨a, b, c, by rw [e0, e1, e2], wa, wb, wc⟩
theorem list2 {α : Type} {l : List α} (h : l.length = 2) : ∃ a b, l = [a, b] := by
  match l, h with
  | [a, b], _ => exact ⟨a, b, rfl⟩
theorem list4 {α : Type} {l : List α} (h : l.length = 4) : ∃ a b c d, l = [a, b, c, d] := by
  match l, h with
  | [a, b, c, d], _ => exact ⟨a, b, c, d, rfl⟩

theorem cells_arr2 {t e : TypeId} {fuel : Nat} {cs : List Value} {x : DataW H × List MemPlace} (ht : P.underlying t = some (.array 2 e)) (he : P.underlying e = some (.int .i64))
    (hk : (P.cellsOf e == 1 && P.cellsOf t == 2) = true) (h : DataW.trod enc P w base spare held fuel t cs = some x) : ∃ a b, cs = [.int .i64 a, .int .i64 b] ∧ I64 a ∧ I64 b := by
  simp only [Bool.and_eq_true, beq_iff_eq] at hk
  obtain ⟨xs, n, _, _, hl, hx, hf⟩ := DataW.trod_array ht h
  rw [hk.2] at hl
  obtain ⟨c0, c1, rfl⟩ := list2 hl
  obtain ⟨y0, y1, rfl⟩ := list2 hx
  have h0 := hf 0 (by omega)
  have h1 := hf 1 (by omega)
  rw [hk.1] at h0 h1
  obtain ⟨a, e0, wa⟩ := cells_int he (h0.trans rfl)
  obtain ⟨b, e1, wb⟩ := cells_int he (h1.trans rfl)
  simp at e0 e1
  exact ⟨a, b, by rw [e0, e1], wa, wb⟩
theorem cells_arr4 {t e : TypeId} {fuel : Nat} {cs : List Value} {x : DataW H × List MemPlace} (ht : P.underlying t = some (.array 4 e)) (he : P.underlying e = some (.int .i64))
    (hk : (P.cellsOf e == 1 && P.cellsOf t == 4) = true) (h : DataW.trod enc P w base spare held fuel t cs = some x) : ∃ a b c d, cs = [.int .i64 a, .int .i64 b, .int .i64 c, .int .i64 d] ∧ I64 a ∧ I64 b ∧ I64 c ∧ I64 d := by
  simp only [Bool.and_eq_true, beq_iff_eq] at hk
  obtain ⟨xs, n, _, _, hl, hx, hf⟩ := DataW.trod_array ht h
  rw [hk.2] at hl
  obtain ⟨c0, c1, c2, c3, rfl⟩ := list4 hl
  obtain ⟨y0, y1, y2, y3, rfl⟩ := list4 hx
  have h0 := hf 0 (by omega)
  have h1 := hf 1 (by omega)
  have h2 := hf 2 (by omega)
  have h3 := hf 3 (by omega)
  rw [hk.1] at h0 h1 h2 h3
  obtain ⟨a, e0, wa⟩ := cells_int he (h0.trans rfl)
  obtain ⟨b, e1, wb⟩ := cells_int he (h1.trans rfl)
  obtain ⟨c, e2, wc⟩ := cells_int he (h2.trans rfl)
  obtain ⟨d, e3, wd⟩ := cells_int he (h3.trans rfl)
  simp at e0 e1 e2 e3
  exact ⟨a, b, c, d, by rw [e0, e1, e2, e3], wa, wb, wc, wd⟩

variable {r : Reach} {b0 : Nat} {t e u : TypeId} {v : Value} {d : DataW H} {ps : List MemPlace}

theorem agg_struct {fs : Array Field} (ht : P.underlying t = some (.struct fs)) (hv : Value.okWide P w r b0 t v) (h : DataW.Trod enc P w base spare held t v d ps) : ∃ (cs : List Value) (n : Nat) (x : _), v = .agg ⟨cs⟩ ∧ DataW.trod enc P w base spare held n t cs = some x := by
  obtain ⟨⟨cs⟩, rfl, _⟩ := okWide_struct ht hv
  obtain ⟨fuel, hf⟩ := h
  exact ⟨cs, fuel, _, rfl, by simpa [Value.cells] using hf⟩
theorem agg_array {n : Nat} (ht : P.underlying t = some (.array n e)) (hv : Value.okWide P w r b0 t v) (h : DataW.Trod enc P w base spare held t v d ps) : ∃ (cs : List Value) (n : Nat) (x : _), v = .agg ⟨cs⟩ ∧ DataW.trod enc P w base spare held n t cs = some x := by
  obtain ⟨⟨cs⟩, rfl, _, _⟩ : ∃ cs, v = .agg cs ∧ cs.size = P.cellsOf t ∧ Row.okWide P w r b0 t cs := by
    simpa [Value.okWide, ht] using hv
  obtain ⟨fuel, hf⟩ := h
  exact ⟨cs, fuel, _, rfl, by simpa [Value.cells] using hf⟩

theorem open_path {f0 f1 f2 : Field} (ht : P.underlying t = some (.struct #[f0, f1, f2])) (he : P.underlying e = some (.int .i64))
    (hk : (f0.type == e && f1.type == e && f2.type == e && f0.offset == 0 && f1.offset == 1 && f2.offset == 2 && P.cellsOf e == 1 && P.cellsOf t == 3) = true) (hv : Value.okWide P w r b0 t v) (h : DataW.Trod enc P w base spare held t v d ps) :
    ∃ a b c, v = .agg #[.int .i64 a, .int .i64 b, .int .i64 c] ∧ I64 a ∧ I64 b ∧ I64 c := by
  obtain ⟨cs, n, x, rfl, hf⟩ := agg_struct ht hv h
  obtain ⟨a, b, c, rfl, g⟩ := cells_path ht he hk hf
  exact ⟨a, b, c, rfl, g⟩
theorem open_arr2 (ht : P.underlying t = some (.array 2 e)) (he : P.underlying e = some (.int .i64)) (hk : (P.cellsOf e == 1 && P.cellsOf t == 2) = true) (hv : Value.okWide P w r b0 t v) (h : DataW.Trod enc P w base spare held t v d ps) :
    ∃ a b, v = .agg #[.int .i64 a, .int .i64 b] ∧ I64 a ∧ I64 b := by
  obtain ⟨cs, n, x, rfl, hf⟩ := agg_array ht hv h
  obtain ⟨a, b, rfl, g⟩ := cells_arr2 ht he hk hf
  exact ⟨a, b, rfl, g⟩
theorem open_arr4 (ht : P.underlying t = some (.array 4 e)) (he : P.underlying e = some (.int .i64)) (hk : (P.cellsOf e == 1 && P.cellsOf t == 4) = true) (hv : Value.okWide P w r b0 t v) (h : DataW.Trod enc P w base spare held t v d ps) :
    ∃ a b c d', v = .agg #[.int .i64 a, .int .i64 b, .int .i64 c, .int .i64 d'] ∧ I64 a ∧ I64 b ∧ I64 c ∧ I64 d' := by
  obtain ⟨cs, n, x, rfl, hf⟩ := agg_array ht hv h
  obtain ⟨a, b, c, d', rfl, g⟩ := cells_arr4 ht he hk hf
  exact ⟨a, b, c, d', rfl, g⟩
end
end Go.Proofs.Ytnphbdhcoiaklaa
namespace Go.Proofs.Ytnphbdhcoiaklaa
open Go.RowKit

/-- A span as it stands. -/
structure Sp where
  lo : Int
  hi : Int
  kn : Bool
def spNo : Sp := ⟨0, 0, false⟩
def spOf (lo hi : Int) : Sp := if (smallB lo && smallB hi) = true ∧ lo ≤ hi then ⟨lo, hi, true⟩ else spNo
def spRight (s : Sp) : Bool := if s.kn then (smallB s.lo && smallB s.hi) && decide (s.lo ≤ s.hi) else decide (s.lo = 0) && decide (s.hi = 0)
/-- Right, and known. -/
def spK (s : Sp) : Bool := s.kn && spRight s

theorem spOf_yes {lo hi : Int} (h : (smallB lo && smallB hi) = true) (h2 : lo ≤ hi) : spOf lo hi = ⟨lo, hi, true⟩ := by unfold spOf; rw [if_pos ⟨h, h2⟩]
theorem spOf_no1 {lo hi : Int} (h : (smallB lo && smallB hi) = false) : spOf lo hi = spNo := by unfold spOf; rw [if_neg]; rintro ⟨a, _⟩; rw [h] at a; cases a
theorem spOf_no2 {lo hi : Int} (h : hi < lo) : spOf lo hi = spNo := by unfold spOf; rw [if_neg]; rintro ⟨_, b⟩; omega
theorem spK_iff {lo hi : Int} {k : Bool} : spK ⟨lo, hi, k⟩ = true ↔ k = true ∧ smallB lo = true ∧ smallB hi = true ∧ lo ≤ hi := by
  cases k <;> simp [spK, spRight, and_assoc]
theorem spK_of {lo hi x y : Int} {k : Bool} (h : spOf lo hi = ⟨x, y, k⟩) : spK ⟨x, y, k⟩ = k := by
  unfold spOf at h
  split at h
  · rename_i hh
    cases h
    simp [spK, spRight, hh.1, hh.2]
  · cases h; rfl
/-- The span whose bounds are told. -/
def spMade (l h : Int × Bool) : Sp := if (l.2 && h.2) = true then spOf l.1 h.1 else spNo
def spAdd (s o : Sp) : Sp := if (spK s && spK o) = true then spMade (addP s.lo o.lo) (addP s.hi o.hi) else spNo
def spSub (s o : Sp) : Sp := if (spK s && spK o) = true then spMade (subP s.lo o.hi) (subP s.hi o.lo) else spNo
def spShift (s : Sp) (n : Int) : Sp := spAdd s (spOf n n)
def spWider (s : Sp) (low high : Int) : Sp := if low < 0 ∨ high < 0 ∨ (smallB low && smallB high) = false then spNo else spAdd s (spOf (-low) high)
def spMeet (s o : Sp) : Sp :=
  if spK s = true then (if spK o = true then spOf (if o.lo ≤ s.lo then s.lo else o.lo) (if s.hi ≤ o.hi then s.hi else o.hi) else s)
  else (if spK o = true then o else spNo)
end Go.Proofs.Ytnphbdhcoiaklaa
