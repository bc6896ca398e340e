/-
  The walk of horologelaw03.alive: it returns true.
-/
import Derived.Test.YtldgcigdoncgdaaSi
namespace Go.Proofs.Ytldgcigdoncgdaa
open Go.RowKit

deriving instance DecidableEq for Sp

set_option maxHeartbeats 1000000 in
theorem alive_is (w : World) : Calls Try.prog 23 #[] w fun e w' => e = .returned (.bool true) ∧ Below w.heap.size w w' := by
  have H1 : Hid (spOf 1 5 = ⟨1, 5, true⟩) := by show spOf 1 5 = ⟨1, 5, true⟩; rfl
  have H2 : Hid (spOf 4 9 = ⟨4, 9, true⟩) := by show spOf 4 9 = ⟨4, 9, true⟩; rfl
  have H3 : Hid (spMeet ⟨1, 5, true⟩ ⟨4, 9, true⟩ = ⟨4, 5, true⟩) := by show spMeet ⟨1, 5, true⟩ ⟨4, 9, true⟩ = ⟨4, 5, true⟩; rfl
  have H4 : Hid (spOf 0 0 = ⟨0, 0, true⟩) := by show spOf 0 0 = ⟨0, 0, true⟩; rfl
  have H5 : Hid (spDrift ⟨0, 0, true⟩ 1000000000 1000 = ⟨-1000, 1000, true⟩) := by show spDrift ⟨0, 0, true⟩ 1000000000 1000 = ⟨-1000, 1000, true⟩; decide +kernel
  have H6 : Hid (spOf (-1000) 1000 = ⟨-1000, 1000, true⟩) := by show spOf (-1000) 1000 = ⟨-1000, 1000, true⟩; rfl
  have H7 : Hid (spOf 1 2 = ⟨1, 2, true⟩) := by show spOf 1 2 = ⟨1, 2, true⟩; rfl
  have H8 : Hid (spHas ⟨1, 2, true⟩ 2 = true) := by show spHas ⟨1, 2, true⟩ 2 = true; rfl
  have H9 : Hid (spHas ⟨1, 2, true⟩ 3 = false) := by show spHas ⟨1, 2, true⟩ 3 = false; rfl
  have H10 : Hid (spRight ⟨0, 0, false⟩ = true) := by show spRight ⟨0, 0, false⟩ = true; rfl
  have H11 : Hid (spOf (-10) 10 = ⟨-10, 10, true⟩) := by show spOf (-10) 10 = ⟨-10, 10, true⟩; rfl
  have H12 : Hid (spScale ⟨-10, 10, true⟩ 100000000 = ⟨-11, 11, true⟩) := by show spScale ⟨-10, 10, true⟩ 100000000 = ⟨-11, 11, true⟩; decide +kernel
  have H13 : Hid (spOf (-11) 11 = ⟨-11, 11, true⟩) := by show spOf (-11) 11 = ⟨-11, 11, true⟩; rfl
  go_enter Try.func23, Try.ntmps23
  go_wp2_with fail
  refine (Of_is _ _ _ _ _ H1 _).mono ?_
  rintro e w1 ⟨rfl, hb1⟩
  go_wp2_with fail
  refine (Of_is _ _ _ _ _ H2 _).mono ?_
  rintro e w2 ⟨rfl, hb2⟩
  go_wp2_with fail
  refine (Meet_is _ _ _ _ _ _ _ _ _ H3 _).mono ?_
  rintro e w3 ⟨rfl, hb3⟩
  go_wp2_with fail
  refine (Of_is _ _ _ _ _ H4 _).mono ?_
  rintro e w4 ⟨rfl, hb4⟩
  go_wp2_with fail
  refine (Drift_is _ _ _ _ _ _ _ _ H5 _).mono ?_
  rintro e w5 ⟨rfl, hb5⟩
  go_wp2_with fail
  refine (Of_is _ _ _ _ _ H6 _).mono ?_
  rintro e w6 ⟨rfl, hb6⟩
  go_wp2_with fail
  refine (Of_is _ _ _ _ _ H7 _).mono ?_
  rintro e w7 ⟨rfl, hb7⟩
  go_wp2_with fail
  refine (Has_is _ _ _ _ _ H8 _).mono ?_
  rintro e w8 ⟨rfl, hb8⟩
  go_wp2_with fail
  refine (Of_is _ _ _ _ _ H7 _).mono ?_
  rintro e w9 ⟨rfl, hb9⟩
  go_wp2_with fail
  refine (Has_is _ _ _ _ _ H9 _).mono ?_
  rintro e w10 ⟨rfl, hb10⟩
  go_wp2_with fail
  refine (Unknown_is _).mono ?_
  rintro e w11 ⟨rfl, hb11⟩
  go_wp2_with fail
  refine (Right_is _ _ _ _ H10 _).mono ?_
  rintro e w12 ⟨rfl, hb12⟩
  go_wp2_with fail
  refine (Of_is _ _ _ _ _ H11 _).mono ?_
  rintro e w13 ⟨rfl, hb13⟩
  go_wp2_with fail
  refine (Scale_is _ _ _ _ _ _ _ H12 _).mono ?_
  rintro e w14 ⟨rfl, hb14⟩
  go_wp2_with fail
  refine (Of_is _ _ _ _ _ H13 _).mono ?_
  rintro e w15 ⟨rfl, hb15⟩
  go_wp2
  go_ret
  exact ⟨rfl, (by repeat (first | exact brefl _ | refine balloc ?_ _ | refine bdrewN ?_ _ | refine bset ?_ (by dsimp only; omega) _ | refine bstep ?_ (by assumption)))⟩

/-- The law's own: a span of the document's as one of the program's. -/
theorem own_is (lo hi : Int) (k : Bool) (w : World) : Calls Try.prog 11 #[.agg #[.int .i64 lo, .int .i64 hi, .bool k]] w fun e w' => e = .returned (.agg #[.int .i64 lo, .int .i64 hi, .bool k]) ∧ Below w.heap.size w w' := by
  go_enter Try.func11, Try.ntmps11
  go_wp2
  exact bodyPost_ret (v := .agg #[.int .i64 lo, .int .i64 hi, .bool k]) (by simp [results, Try.results11, go_sem]) rfl ⟨rfl, (by repeat (first | exact brefl _ | refine balloc ?_ _ | refine bdrewN ?_ _ | refine bset ?_ (by dsimp only; omega) _ | refine bstep ?_ (by assumption)))⟩

theorem same_yes (lo hi : Int) (k : Bool) (w : World) : Calls Try.prog 12 #[.agg #[.int .i64 lo, .int .i64 hi, .bool k], .agg #[.int .i64 lo, .int .i64 hi, .bool k]] w fun e w' => e = .returned (.bool true) ∧ Below w.heap.size w w' := by
  go_enter Try.func12, Try.ntmps12
  go_wp2
  go_ret
  exact ⟨rfl, (by repeat (first | exact brefl _ | refine balloc ?_ _ | refine bdrewN ?_ _ | refine bset ?_ (by dsimp only; omega) _ | refine bstep ?_ (by assumption)))⟩
end Go.Proofs.Ytldgcigdoncgdaa
