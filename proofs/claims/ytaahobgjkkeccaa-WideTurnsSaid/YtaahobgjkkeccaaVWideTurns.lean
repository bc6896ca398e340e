/-
  The walk of the law WideTurns.
-/
import Derived.Test.YtaahobgjkkeccaaAlWide
import Derived.Test.YtaahobgjkkeccaaMd
namespace Go.Proofs.Ytaahobgjkkeccaa
open Go.RowKit

theorem WideTurns_walk (a b : Int) (w : World) (_ : I64 a) (_ : I64 b) : Calls Try.prog 9 #[.int .i64 a, .int .i64 b] w fun e w' => e = .returned (.bool true) ∧ Below w.heap.size w w' := by
  obtain ⟨x, p, hx⟩ : ∃ x p, addP a b = (x, p) := ⟨_, _, rfl⟩
  obtain ⟨y, q, hy⟩ : ∃ x p, mulP a b = (x, p) := ⟨_, _, rfl⟩
  obtain ⟨z, r, hz⟩ : ∃ x p, subP a b = (x, p) := ⟨_, _, rfl⟩
  have hb := sub_bd hz
  have H1 := Lib.hid hx
  have H2 := Lib.hid ((add_comm' a b).trans hx)
  have H3 := Lib.hid hy
  have H4 := Lib.hid ((mul_comm' a b).trans hy)
  have H5 := Lib.hid hz
  have H6 := Lib.hid (sub_turn hz)
  clear hx hy hz
  go_enter Try.func9, Try.ntmps9
  go_wp2_with fail
  refine (Add_is _ _ _ _ H1 _).mono ?_
  rintro e w1 ⟨rfl, hb1⟩
  go_wp2_with fail
  refine (Add_is _ _ _ _ H2 _).mono ?_
  rintro e w2 ⟨rfl, hb2⟩
  go_wp2_with fail
  refine (Mul_is _ _ _ _ H3 _).mono ?_
  rintro e w3 ⟨rfl, hb3⟩
  go_wp2_with fail
  refine (Mul_is _ _ _ _ H4 _).mono ?_
  rintro e w4 ⟨rfl, hb4⟩
  go_wp2_with fail
  refine (Sub_is _ _ _ _ H5 _).mono ?_
  rintro e w5 ⟨rfl, hb5⟩
  go_wp2_with fail
  refine (Sub_is _ _ _ _ H6 _).mono ?_
  rintro e w6 ⟨rfl, hb6⟩
  go_wp2_with fail
  refine (alive_is _).mono ?_
  rintro e w7 ⟨rfl, hb7⟩
  go_wp2
  go_ret
  exact ⟨rfl, (by repeat (first | exact brefl _ | refine balloc ?_ _ | refine bstep ?_ (by assumption)))⟩
end Go.Proofs.Ytaahobgjkkeccaa
