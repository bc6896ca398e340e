/-
  The walk of horologelaw02.alive: it returns true.
-/
import Derived.Test.YtoijjnhlmndhpaaTc
namespace Go.Proofs.Ytoijjnhlmndhpaa
open Go.RowKit

set_option maxHeartbeats 1000000 in
theorem alive_is (w : World) : Calls Try.prog 11 #[] w fun e w' => e = .returned (.bool true) ∧ Below w.heap.size w w' := by
  have H1 : Hid (stOf 1000000001 = (1, 1, true)) := by show stOf 1000000001 = (1, 1, true); decide +kernel
  have H2 : Hid (stNanos 2 5 = (2000000005, true)) := by show stNanos 2 5 = (2000000005, true); decide +kernel
  have H3 : Hid (stRight 1 1 = true) := by show stRight 1 1 = true; decide +kernel
  have H4 : Hid (stDown (-1) = -1) := by show stDown (-1) = -1; decide +kernel
  have H5 : Hid (stUp (-1) = 0) := by show stUp (-1) = 0; decide +kernel
  go_enter Try.func11, Try.ntmps11
  go_wp2_with fail
  refine (StOf_is _ _ _ _ ⟨by omega, by omega⟩ H1 _).mono ?_
  rintro e w1 ⟨rfl, hb1⟩
  go_wp2_with fail
  refine (Nanos_is _ _ _ _ H2 _).mono ?_
  rintro e w2 ⟨rfl, hb2⟩
  have q2_1_0 : CellF w2 ⟨w1.heap.size, 0, none⟩ (.int .i64 1) := (by refine CellF.keep hb2 ?_; refine ⟨?_, ?_⟩ <;> go_simp)
  have c2_1_0 := q2_1_0.1
  have q2_1_1 : CellF w2 ⟨w1.heap.size, 1, none⟩ (.int .i64 1) := (by refine CellF.keep hb2 ?_; refine ⟨?_, ?_⟩ <;> go_simp)
  have c2_1_1 := q2_1_1.1
  have z2_1 : w1.heap.size < w2.heap.size := ltc c2_1_0
  go_wp2_with fail
  refine (Put_yes 1 1 H3 (by omega) (by omega) (by omega) (by omega) _).mono ?_
  rintro e w3 ⟨b, rfl, hb3, hbb, p0, p1, p2, p3, p4, p5, p6, p7, p8, p9⟩
  have q3_2_0 : CellF w3 ⟨w1.heap.size, 0, none⟩ (.int .i64 1) := (by first | exact CellF.keep hb3 q2_1_0 | exact CellF.keep hb3 (CellF.past _ q2_1_0) | exact CellF.keep hb3 (CellF.past _ (CellF.past _ q2_1_0)) | exact CellF.keep hb3 (CellF.drewN _ q2_1_0))
  have c3_2_0 := q3_2_0.1
  have q3_2_1 : CellF w3 ⟨w1.heap.size, 1, none⟩ (.int .i64 1) := (by first | exact CellF.keep hb3 q2_1_1 | exact CellF.keep hb3 (CellF.past _ q2_1_1) | exact CellF.keep hb3 (CellF.past _ (CellF.past _ q2_1_1)) | exact CellF.keep hb3 (CellF.drewN _ q2_1_1))
  have c3_2_1 := q3_2_1.1
  have z3_2 : w1.heap.size < w3.heap.size := ltc c3_2_0
  have cp := p5.1
  have zp := ltc cp
  clear p0 p1 p2 p3 p4 p6 p7 p8 p9
  go_wp2_with fail
  refine (Down_is _ _ ⟨by omega, by omega⟩ H4 _).mono ?_
  rintro e w4 ⟨rfl, hb4⟩
  go_wp2_with fail
  refine (Up_is _ _ ⟨by omega, by omega⟩ H5 _).mono ?_
  rintro e w5 ⟨rfl, hb5⟩
  go_wp2
  go_ret
  exact ⟨rfl, (by repeat (first | exact brefl _ | refine balloc ?_ _ | refine bdrewN ?_ _ | refine bset ?_ (by dsimp only; omega) _ | refine bstep ?_ (by assumption)))⟩
end Go.Proofs.Ytoijjnhlmndhpaa
