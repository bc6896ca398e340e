/-
  The reference's Floor, by the printed walk and the plain law.
-/
import Derived.Test.YtdkdckfkhhbfnaaMu
namespace Go.Proofs.Ytdkdckfkhhbfnaa
open Go.RowKit Go.Proofs.Ytdkdckfkhhbfnaa.POscAll Go.Proofs.YtdkdckfkhhbfnaaW.PrintWords

theorem rFloor_is (a b c x : Int) (p : Bool) (H : Hid (floorP a b c = (x, p))) (w : World) :
    Calls Try.prog 20 #[.int .i64 a, .int .i64 b, .int .i64 c] w fun e w' => e = .returned (.tuple #[.int .i64 x, .bool p]) ∧ Below w.heap.size w w' := by
  have h := floor_ev a b c
  rw [H.out] at h
  obtain ⟨k, hk⟩ := Ev.rounds h
  exact horologeref01_Floor.calls k a b c x p w hk
end Go.Proofs.Ytdkdckfkhhbfnaa
