/-
  The walk of wide.Clip.
-/
import Derived.Test.YtaahobgjkkeccaaWa
namespace Go.Proofs.Ytaahobgjkkeccaa
open Go.RowKit
def clipP (a l h : Int) : Int := if a < l then l else if h < a then h else a
theorem Clip_any (a l h : Int) (w : World) : Calls Try.prog 26 #[.int .i64 a, .int .i64 l, .int .i64 h] w fun e w' => e = .returned (.int .i64 (clipP a l h)) ∧ w = w' := by
  unfold clipP
  by_cases h1 : a < l
  · rw [if_pos h1]
    go_enter Try.func26, Try.ntmps26
    go_wp2
    go_ret
    exact ⟨rfl, rfl⟩
  · rw [if_neg h1]
    by_cases h2 : h < a
    · rw [if_pos h2]
      go_enter Try.func26, Try.ntmps26
      go_wp2
      go_ret
      exact ⟨rfl, rfl⟩
    · rw [if_neg h2]
      go_enter Try.func26, Try.ntmps26
      go_wp2
      go_ret
      exact ⟨rfl, rfl⟩
end Go.Proofs.Ytaahobgjkkeccaa
