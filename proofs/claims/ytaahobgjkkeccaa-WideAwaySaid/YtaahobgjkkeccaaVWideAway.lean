/-
  The walk of the law WideAway.
-/
import Derived.Test.YtaahobgjkkeccaaAlWide
import Derived.Test.YtaahobgjkkeccaaMd
namespace Go.Proofs.Ytaahobgjkkeccaa
open Go.RowKit

theorem WideAway_walk (a b : Int) (w : World) (_ : I64 a) (_ : I64 b) : Calls Try.prog 7 #[.int .i64 a, .int .i64 b] w fun e w' => e = .returned (.bool true) ∧ Below w.heap.size w w' := by
  obtain ⟨x, p, hf⟩ : ∃ x p, addP a b = (x, p) := ⟨_, _, rfl⟩
  cases p with
  | false =>
    obtain rfl := add_false hf
    have H1 := Lib.hid hf
    clear hf
    go_enter Try.func7, Try.ntmps7
    go_wp2_with fail
    refine (Add_is _ _ _ _ H1 _).mono ?_
    rintro e w1 ⟨rfl, hb1⟩
    go_wp2_with fail
    refine (alive_is _).mono ?_
    rintro e w2 ⟨rfl, hb2⟩
    go_wp2
    go_ret
    exact ⟨rfl, (by repeat (first | exact brefl _ | refine balloc ?_ _ | refine bstep ?_ (by assumption)))⟩
  | true =>
    have H1 := Lib.hid hf
    have H2 := Lib.hid (away hf).1
    have H3 := Lib.hid (away hf).2
    clear hf
    go_enter Try.func7, Try.ntmps7
    go_wp2_with fail
    refine (Add_is _ _ _ _ H1 _).mono ?_
    rintro e w1 ⟨rfl, hb1⟩
    go_wp2_with fail
    refine (Sub_is _ _ _ _ H2 _).mono ?_
    rintro e w2 ⟨rfl, hb2⟩
    go_wp2_with fail
    refine (Sub_is _ _ _ _ H3 _).mono ?_
    rintro e w3 ⟨rfl, hb3⟩
    go_wp2_with fail
    refine (alive_is _).mono ?_
    rintro e w4 ⟨rfl, hb4⟩
    go_wp2
    go_ret
    exact ⟨rfl, (by repeat (first | exact brefl _ | refine balloc ?_ _ | refine bstep ?_ (by assumption)))⟩
end Go.Proofs.Ytaahobgjkkeccaa
