/-
  The walk of package span's Unknown.
-/
import Derived.Test.YtigpddhffgoioaaSf
namespace Go.Proofs.Ytigpddhffgoioaa
open Go.RowKit

theorem Unknown_is (w : World) : Calls Try.prog 33 #[] w fun e w' => e = .returned (.agg #[.int .i64 0, .int .i64 0, .bool false]) ∧ Below w.heap.size w w' := by
  go_enter Try.func33, Try.ntmps33
  go_wp2
  exact bodyPost_ret (v := .agg #[.int .i64 0, .int .i64 0, .bool false]) (by simp [results, Try.results33, go_sem]) rfl ⟨rfl, (by repeat (first | exact brefl _ | refine balloc ?_ _ | refine bdrewN ?_ _ | refine bset ?_ (by dsimp only; omega) _ | refine bstep ?_ (by assumption)))⟩
end Go.Proofs.Ytigpddhffgoioaa
