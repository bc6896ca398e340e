/-
  The walk of the law WideSigns.
-/
import Derived.Test.YtaahobgjkkeccaaAlWide
import Derived.Test.YtaahobgjkkeccaaMc
namespace Go.Proofs.Ytaahobgjkkeccaa
open Go.RowKit

theorem WideSigns_walk (a b c : Int) (w : World) (_ : I64 a) (_ : I64 b) (_ : I64 c) : Calls Try.prog 3 #[.int .i64 a, .int .i64 b, .int .i64 c] w fun e w' => e = .returned (.bool true) ∧ Below w.heap.size w w' := by
  cases hs : (smallB a && (smallB b && smallB c)) with
  | false =>
    go_enter Try.func3, Try.ntmps3
    go_wp2_with fail
    refine (small3 a b c _ hs _ _ (by simp) (by simp) (by simp)).mono ?_
    rintro e w1 ⟨rfl, rfl⟩
    go_wp2_with fail
    refine (alive_is _).mono ?_
    rintro e w1 ⟨rfl, hb1⟩
    go_wp2
    go_ret
    exact ⟨rfl, bstep (balloc (brefl w) _) hb1⟩
  | true =>
    obtain ⟨ha, hbc⟩ := Bool.and_eq_true_iff.1 hs
    have ha := smallB_iff.1 ha
    have hb := smallB_iff.1 (Bool.and_eq_true_iff.1 hbc).1
    obtain ⟨x, p, hf⟩ : ∃ x p, floorP a b c = (x, p) := ⟨_, _, rfl⟩
    have hx := floor_bd hf
    have H1 := Lib.hid hf
    have H2 := Lib.hid (ceil_neg1 hf)
    have H3 := Lib.hid (ceil_neg2 hf)
    clear hf hbc
    go_enter Try.func3, Try.ntmps3
    go_wp2_with fail
    refine (small3 a b c _ hs _ _ (by simp) (by simp) (by simp)).mono ?_
    rintro e w1 ⟨rfl, rfl⟩
    go_wp2_with fail
    refine (Floor_is _ _ _ _ _ H1 _).mono ?_
    rintro e w1 ⟨rfl, hb1⟩
    go_wp2_with fail
    refine (Ceil_is _ _ _ _ _ H2 _).mono ?_
    rintro e w2 ⟨rfl, hb2⟩
    go_wp2_with fail
    refine (Ceil_is _ _ _ _ _ H3 _).mono ?_
    rintro e w3 ⟨rfl, hb3⟩
    go_wp2_with fail
    refine (alive_is _).mono ?_
    rintro e w4 ⟨rfl, hb4⟩
    go_wp2
    go_ret
    exact ⟨rfl, bstep (bstep (bstep (bstep (balloc (brefl w) _) hb1) hb2) hb3) hb4⟩
end Go.Proofs.Ytaahobgjkkeccaa
