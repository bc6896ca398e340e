/-
  The walks of package stamp's small functions: Right, Less, Of, Nanos, Scaled, Down, Up.
-/
import Derived.Test.YtoijjnhlmndhpaaTm
import Derived.Test.YtoijjnhlmndhpaaWc
namespace Go.Proofs.Ytoijjnhlmndhpaa
open Go.RowKit

theorem Down_is (n x : Int) (hn : I64 n) (H : Hid (stDown n = x)) (w : World) : Calls Try.prog 23 #[.int .i64 n] w fun e w' => e = .returned (.int .i64 x) ∧ Below w.heap.size w w' := by
  obtain rfl : n / 65536 = x := H.out
  obtain ⟨h1, h2⟩ := hn
  clear H
  go_enter Try.func23, Try.ntmps23
  go_wp2
  go_ret
  exact ⟨rfl, (by repeat (first | exact brefl _ | refine balloc ?_ _ | refine bdrewN ?_ _ | refine bset ?_ (by dsimp only; omega) _ | refine bstep ?_ (by assumption)))⟩

theorem Up_is (n x : Int) (hn : I64 n) (H : Hid (stUp n = x)) (w : World) : Calls Try.prog 25 #[.int .i64 n] w fun e w' => e = .returned (.int .i64 x) ∧ Below w.heap.size w w' := by
  have hx := H.out
  unfold stUp at hx
  obtain ⟨h1, h2⟩ := hn
  have ha := iand16 n
  clear H
  by_cases hz : n % 65536 = 0
  · rw [if_pos hz] at hx
    subst hx
    have hb : (bits .and .i64 n 65535 != 0) = false := by rw [ha, hz]; rfl
    clear ha hz
    go_enter Try.func25, Try.ntmps25
    go_wp2
    go_ret
    exact ⟨rfl, (by repeat (first | exact brefl _ | refine balloc ?_ _ | refine bdrewN ?_ _ | refine bset ?_ (by dsimp only; omega) _ | refine bstep ?_ (by assumption)))⟩
  · rw [if_neg hz] at hx
    subst hx
    have hb : (bits .and .i64 n 65535 != 0) = true := by rw [ha]; simpa using hz
    clear ha hz
    go_enter Try.func25, Try.ntmps25
    go_wp2
    go_ret
    exact ⟨rfl, (by repeat (first | exact brefl _ | refine balloc ?_ _ | refine bdrewN ?_ _ | refine bset ?_ (by dsimp only; omega) _ | refine bstep ?_ (by assumption)))⟩

theorem Scaled_is (n x : Int) (p : Bool) (H : Hid (stScaled n = (x, p))) (w : World) : Calls Try.prog 21 #[.int .i64 n] w fun e w' => e = .returned (.tuple #[.int .i64 x, .bool p]) ∧ Below w.heap.size w w' := by
  have hx := H.out
  unfold stScaled at hx
  clear H
  by_cases h1 : n < -140737488355328
  · rw [if_pos (.inl h1)] at hx
    obtain ⟨rfl, rfl⟩ := Prod.mk.inj hx
    clear hx
    go_enter Try.func21, Try.ntmps21
    go_wp2
    go_ret2
    exact ⟨rfl, brefl _⟩
  · by_cases h2 : 140737488355328 ≤ n
    · rw [if_pos (.inr h2)] at hx
      obtain ⟨rfl, rfl⟩ := Prod.mk.inj hx
      clear hx
      go_enter Try.func21, Try.ntmps21
      go_wp2
      go_ret2
      exact ⟨rfl, brefl _⟩
    · rw [if_neg (by omega)] at hx
      obtain ⟨rfl, rfl⟩ := Prod.mk.inj hx
      clear hx
      go_enter Try.func21, Try.ntmps21
      go_wp2
      go_ret2
      exact ⟨rfl, brefl _⟩
end Go.Proofs.Ytoijjnhlmndhpaa
