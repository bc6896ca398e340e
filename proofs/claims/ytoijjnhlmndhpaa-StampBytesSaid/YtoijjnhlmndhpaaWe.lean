/-
  The walk of wide.Mul.
-/
import Derived.Test.YtoijjnhlmndhpaaWc
namespace Go.Proofs.Ytoijjnhlmndhpaa
open Go.RowKit

theorem Mul_is (a b x : Int) (p : Bool) (H : Hid (mulP a b = (x, p))) (w : World) :
    Calls Try.prog 31 #[.int .i64 a, .int .i64 b] w fun e w' => e = .returned (.tuple #[.int .i64 x, .bool p]) ∧ Below w.heap.size w w' := by
  have H2 : Hid (floorP a b 1 = (x, p)) := (mul_floor a b).trans H.out
  clear H
  go_enter Try.func31, Try.ntmps31
  go_wp2_with fail
  refine (Floor_is a b 1 x p H2 _).mono ?_
  rintro e w1 ⟨rfl, hb1⟩
  go_wp2
  go_ret2
  exact ⟨rfl, hb1⟩
end Go.Proofs.Ytoijjnhlmndhpaa
