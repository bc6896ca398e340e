/-
  The walk of the law StampScales.
-/
import Derived.Test.YtoijjnhlmndhpaaAlStamp
import Derived.Test.YtoijjnhlmndhpaaTr
namespace Go.Proofs.Ytoijjnhlmndhpaa
open Go.RowKit

theorem StampScales_walk (n : Int) (w : World) (hn : I64 n) : Calls Try.prog 7 #[.int .i64 n] w fun e w' => e = .returned (.bool true) ∧ Below w.heap.size w w' := by
  obtain ⟨lo, hlo⟩ : ∃ x, stDown n = x := ⟨_, rfl⟩
  obtain ⟨hi, hhi⟩ : ∃ x, stUp n = x := ⟨_, rfl⟩
  obtain ⟨s, p, hs⟩ : ∃ s p, stScaled n = (s, p) := ⟨_, _, rfl⟩
  have H1 := Lib.hid hlo
  have H2 := Lib.hid hhi
  have H3 := Lib.hid hs
  clear hlo hhi hs
  go_enter Try.func7, Try.ntmps7
  go_wp2_with fail
  refine (Scaled_is _ _ _ H3 _).mono ?_
  rintro e w1 ⟨rfl, hb1⟩
  go_wp2_with fail
  refine (rScaled_is _ _ _ H3 _).mono ?_
  rintro e w2 ⟨rfl, hb2⟩
  go_wp2_with fail
  refine (alive_is _).mono ?_
  rintro e w3 ⟨rfl, hb3⟩
  go_wp2_with fail
  refine (Down_is _ _ hn H1 _).mono ?_
  rintro e w4 ⟨rfl, hb4⟩
  go_wp2_with fail
  refine (rDown_is _ _ hn H1 _).mono ?_
  rintro e w5 ⟨rfl, hb5⟩
  go_wp2_with fail
  refine (Up_is _ _ hn H2 _).mono ?_
  rintro e w6 ⟨rfl, hb6⟩
  go_wp2_with fail
  refine (rUp_is _ _ hn H2 _).mono ?_
  rintro e w7 ⟨rfl, hb7⟩
  go_wp2
  go_ret
  exact ⟨rfl, (by repeat (first | exact brefl _ | refine balloc ?_ _ | refine bdrewN ?_ _ | refine bset ?_ (by dsimp only; omega) _ | refine bstep ?_ (by assumption)))⟩
end Go.Proofs.Ytoijjnhlmndhpaa
