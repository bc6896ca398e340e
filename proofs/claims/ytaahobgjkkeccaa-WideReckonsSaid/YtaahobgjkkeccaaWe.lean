/-
  The walk of wide.Mul.
-/
import Derived.Test.YtaahobgjkkeccaaWc
namespace Go.Proofs.Ytaahobgjkkeccaa
open Go.RowKit

def mulP (a b : Int) : Int × Bool := if (smallB a && smallB b) = true then toldP (a * b) else (0, false)
theorem mul_floor (a b : Int) : floorP a b 1 = mulP a b := by
  unfold floorP mulP okB
  have : smallB 1 = true := rfl
  simp only [this, Bool.and_true, Int.ediv_one]
  simp

theorem Mul_is (a b x : Int) (p : Bool) (H : Hid (mulP a b = (x, p))) (w : World) :
    Calls Try.prog 15 #[.int .i64 a, .int .i64 b] w fun e w' => e = .returned (.tuple #[.int .i64 x, .bool p]) ∧ Below w.heap.size w w' := by
  have H2 : Hid (floorP a b 1 = (x, p)) := (mul_floor a b).trans H.out
  clear H
  go_enter Try.func15, Try.ntmps15
  go_wp2_with fail
  refine (Floor_is a b 1 x p H2 _).mono ?_
  rintro e w1 ⟨rfl, hb1⟩
  go_wp2
  go_ret2
  exact ⟨rfl, hb1⟩
end Go.Proofs.Ytaahobgjkkeccaa
