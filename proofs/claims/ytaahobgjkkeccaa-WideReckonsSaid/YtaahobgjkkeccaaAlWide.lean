/-
  The walk of horologelaw01.alive: it returns true.
-/
import Derived.Test.YtaahobgjkkeccaaWd
namespace Go.Proofs.Ytaahobgjkkeccaa
open Go.RowKit

theorem alive_is (w : World) : Calls Try.prog 12 #[] w fun e w' => e = .returned (.bool true) ∧ Below w.heap.size w w' := by
  have H1 : Hid (floorP (-7) 1 2 = (-4, true)) := by show floorP (-7) 1 2 = (-4, true); decide +kernel
  have H2 : Hid (ceilP (-7) 1 2 = (-3, true)) := by show ceilP (-7) 1 2 = (-3, true); decide +kernel
  have H3 : Hid (floorP 4611686018427387904 4611686018427387904 4611686018427387904 = (4611686018427387904, true)) := by show floorP 4611686018427387904 4611686018427387904 4611686018427387904 = (4611686018427387904, true); decide +kernel
  have H4 : Hid (addP 4611686018427387904 1 = (0, false)) := by show addP 4611686018427387904 1 = (0, false); decide +kernel
  have H5 : Hid ((smallB 0 && smallB 4611686018427387904) = true) := by show (smallB 0 && smallB 4611686018427387904) = true; decide +kernel
  have H6 : Hid (absP (-5) = 5) := by show absP (-5) = 5; decide +kernel
  go_enter Try.func12, Try.ntmps12
  go_wp2_with fail
  refine (Floor_is _ _ _ _ _ H1 _).mono ?_
  rintro e w1 ⟨rfl, hb1⟩
  go_wp2_with fail
  refine (Ceil_is _ _ _ _ _ H2 _).mono ?_
  rintro e w2 ⟨rfl, hb2⟩
  go_wp2_with fail
  refine (Floor_is _ _ _ _ _ H3 _).mono ?_
  rintro e w3 ⟨rfl, hb3⟩
  go_wp2_with fail
  refine (Add_is _ _ _ _ H4 _).mono ?_
  rintro e w4 ⟨rfl, hb4⟩
  go_wp2_with fail
  refine (small2 _ _ _ H5.out _ _ (by simp) (by simp)).mono ?_
  rintro e w5 ⟨rfl, rfl⟩
  go_wp2_with fail
  refine (Abs_is _ _ H6 _).mono ?_
  rintro e w5 ⟨rfl, hb5⟩
  go_wp2
  go_ret
  exact ⟨rfl, bstep (balloc (bstep (bstep (bstep hb1 hb2) hb3) hb4) _) hb5⟩
end Go.Proofs.Ytaahobgjkkeccaa
