/-
  The walks of the document's Scaled, Down and Up of stamps (horologeref02).
-/
import Derived.Test.YtnphbdhcoiaklaaZGK
namespace Go.Proofs.Ytnphbdhcoiaklaa
open Go.RowKit

theorem tquo (n m : Int) (hn : n < 0) : n.tdiv m = -((-n) / m) ∧ n.tmod m = -((-n) % m) := by
  have h : n = -(-n) := by omega
  constructor
  · conv => lhs; rw [h]
    rw [Int.neg_tdiv, Int.tdiv_eq_ediv_of_nonneg (by omega)]
  · conv => lhs; rw [h]
    rw [Int.neg_tmod, Int.tmod_eq_emod_of_nonneg (by omega)]
theorem tquo' (n m : Int) (hn : 0 ≤ n) : n.tdiv m = n / m ∧ n.tmod m = n % m := ⟨Int.tdiv_eq_ediv_of_nonneg hn, Int.tmod_eq_emod_of_nonneg hn⟩

theorem t16 (n : Int) : (n.tmod 65536 < 0 ∧ 0 < n % 65536 ∧ n.tdiv 65536 = n / 65536 + 1) ∨ (0 < n.tmod 65536 ∧ 0 < n % 65536 ∧ n.tdiv 65536 = n / 65536) ∨ (n.tmod 65536 = 0 ∧ n % 65536 = 0 ∧ n.tdiv 65536 = n / 65536) := by
  by_cases h : n < 0
  · obtain ⟨h1, h2⟩ := tquo n 65536 h
    rw [h1, h2]; omega
  · obtain ⟨h1, h2⟩ := tquo' n 65536 (by omega)
    rw [h1, h2]; omega

theorem rDown_is (n x : Int) (hn : I64 n) (H : Hid (stDown n = x)) (w : World) : Calls Try.prog 118 #[.int .i64 n] w fun e w' => e = .returned (.int .i64 x) ∧ Below w.heap.size w w' := by
  obtain rfl : n / 65536 = x := H.out
  obtain ⟨h1, h2⟩ := hn
  clear H
  rcases t16 n with ⟨a, b, c⟩ | ⟨a, b, c⟩ | ⟨a, b, c⟩
  · go_enter Try.func118, Try.ntmps118
    go_wp2
    go_ret
    exact ⟨ret_int (by omega), brefl _⟩
  · have d : decide (n.tmod 65536 < 0) = false := decide_eq_false (by omega)
    go_enter Try.func118, Try.ntmps118
    go_wp2
    go_ret
    exact ⟨ret_int (by omega), brefl _⟩
  · have d : decide (n.tmod 65536 < 0) = false := decide_eq_false (by omega)
    go_enter Try.func118, Try.ntmps118
    go_wp2
    go_ret
    exact ⟨ret_int (by omega), brefl _⟩

theorem rUp_is (n x : Int) (hn : I64 n) (H : Hid (stUp n = x)) (w : World) : Calls Try.prog 119 #[.int .i64 n] w fun e w' => e = .returned (.int .i64 x) ∧ Below w.heap.size w w' := by
  have hx := H.out
  unfold stUp at hx
  obtain ⟨h1, h2⟩ := hn
  clear H
  rcases t16 n with ⟨a, b, c⟩ | ⟨a, b, c⟩ | ⟨a, b, c⟩
  · rw [if_neg (by omega)] at hx
    subst hx
    have d : decide (0 < n.tmod 65536) = false := decide_eq_false (by omega)
    go_enter Try.func119, Try.ntmps119
    go_wp2
    go_ret
    exact ⟨ret_int (by omega), brefl _⟩
  · rw [if_neg (by omega)] at hx
    subst hx
    go_enter Try.func119, Try.ntmps119
    go_wp2
    go_ret
    exact ⟨ret_int (by omega), brefl _⟩
  · rw [if_pos (by omega)] at hx
    subst hx
    have d : decide (0 < n.tmod 65536) = false := decide_eq_false (by omega)
    go_enter Try.func119, Try.ntmps119
    go_wp2
    go_ret
    exact ⟨ret_int (by omega), brefl _⟩
end Go.Proofs.Ytnphbdhcoiaklaa
