/-
  The reference's Floor and Ceil, by the printed walks and the plain law.
-/
import Derived.Test.YtaahobgjkkeccaaMu
namespace Go.Proofs.Ytaahobgjkkeccaa
open Go.RowKit Go.Proofs.Ytaahobgjkkeccaa.PWideDivides Go.Proofs.YtaahobgjkkeccaaW.PrintWords

theorem rFloor_is (a b c x : Int) (p : Bool) (H : Hid (floorP a b c = (x, p))) (w : World) :
    Calls Try.prog 24 #[.int .i64 a, .int .i64 b, .int .i64 c] w fun e w' => e = .returned (.tuple #[.int .i64 x, .bool p]) ∧ Below w.heap.size w w' := by
  have h := floor_ev a b c
  rw [H.out] at h
  obtain ⟨k, hk⟩ := Ev.rounds h
  exact horologeref01_Floor.calls k a b c x p w hk
theorem rCeil_is (a b c x : Int) (p : Bool) (H : Hid (ceilP a b c = (x, p))) (w : World) :
    Calls Try.prog 25 #[.int .i64 a, .int .i64 b, .int .i64 c] w fun e w' => e = .returned (.tuple #[.int .i64 x, .bool p]) ∧ Below w.heap.size w w' := by
  have h := ceil_ev a b c
  rw [H.out] at h
  obtain ⟨k, hk⟩ := Ev.rounds h
  exact horologeref01_Ceil.calls k a b c x p w hk
end Go.Proofs.Ytaahobgjkkeccaa
