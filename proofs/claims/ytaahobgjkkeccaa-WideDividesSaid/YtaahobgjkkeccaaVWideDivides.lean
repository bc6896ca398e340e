/-
  The walk of the law WideDivides.
-/
import Derived.Test.YtaahobgjkkeccaaAlWide
import Derived.Test.YtaahobgjkkeccaaMd
import Derived.Test.YtaahobgjkkeccaaClip
import Derived.Test.YtaahobgjkkeccaaRf
namespace Go.Proofs.Ytaahobgjkkeccaa
open Go.RowKit

theorem rClip_any (a l h : Int) (w : World) : Calls Try.prog 27 #[.int .i64 a, .int .i64 l, .int .i64 h] w fun e w' => e = .returned (.int .i64 (clipP a l h)) ∧ w = w' := by
  unfold clipP
  by_cases h1 : a < l
  · rw [if_pos h1]
    go_enter Try.func27, Try.ntmps27
    go_wp2
    go_ret
    exact ⟨rfl, rfl⟩
  · rw [if_neg h1]
    by_cases h2 : h < a
    · rw [if_pos h2]
      go_enter Try.func27, Try.ntmps27
      go_wp2
      go_ret
      exact ⟨rfl, rfl⟩
    · rw [if_neg h2]
      go_enter Try.func27, Try.ntmps27
      go_wp2
      go_ret
      exact ⟨rfl, rfl⟩

theorem WideDivides_walk (a b c : Int) (w : World) (_ : I64 a) (_ : I64 b) (_ : I64 c) : Calls Try.prog 10 #[.int .i64 a, .int .i64 b, .int .i64 c] w fun e w' => e = .returned (.bool true) ∧ Below w.heap.size w w' := by
  obtain ⟨x, p, hx⟩ : ∃ x p, floorP a b c = (x, p) := ⟨_, _, rfl⟩
  obtain ⟨y, q, hy⟩ : ∃ x p, ceilP a b c = (x, p) := ⟨_, _, rfl⟩
  have H1 := Lib.hid hx
  have H2 := Lib.hid hy
  clear hx hy
  go_enter Try.func10, Try.ntmps10
  go_wp2_with fail
  refine (Floor_is _ _ _ _ _ H1 _).mono ?_
  rintro e w1 ⟨rfl, hb1⟩
  go_wp2_with fail
  refine (rFloor_is _ _ _ _ _ H1 _).mono ?_
  rintro e w2 ⟨rfl, hb2⟩
  go_wp2_with fail
  refine (Ceil_is _ _ _ _ _ H2 _).mono ?_
  rintro e w3 ⟨rfl, hb3⟩
  go_wp2_with fail
  refine (rCeil_is _ _ _ _ _ H2 _).mono ?_
  rintro e w4 ⟨rfl, hb4⟩
  go_wp2_with fail
  refine (alive_is _).mono ?_
  rintro e w5 ⟨rfl, hb5⟩
  go_wp2_with fail
  refine (Clip_any a b c _).mono ?_
  rintro e w6 ⟨rfl, rfl⟩
  go_wp2_with fail
  refine (rClip_any a b c _).mono ?_
  rintro e w7 ⟨rfl, rfl⟩
  go_wp2
  go_ret
  exact ⟨rfl, (by repeat (first | exact brefl _ | refine balloc ?_ _ | refine bstep ?_ (by assumption)))⟩
end Go.Proofs.Ytaahobgjkkeccaa
