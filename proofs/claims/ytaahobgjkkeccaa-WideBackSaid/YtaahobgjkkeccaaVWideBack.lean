/-
  The walk of the law WideBack.
-/
import Derived.Test.YtaahobgjkkeccaaAlWide
import Derived.Test.YtaahobgjkkeccaaMd
namespace Go.Proofs.Ytaahobgjkkeccaa
open Go.RowKit

theorem WideBack_walk (a c : Int) (w : World) (_ : I64 a) (_ : I64 c) : Calls Try.prog 4 #[.int .i64 a, .int .i64 c] w fun e w' => e = .returned (.bool true) ∧ Below w.heap.size w w' := by
  cases hs : (smallB a && smallB c) with
  | false =>
    have H1 := Lib.hid (back_no (a := a) (c := c) (.inl hs)).1
    have H2 := Lib.hid (back_no (a := a) (c := c) (.inl hs)).2
    go_enter Try.func4, Try.ntmps4
    go_wp2_with fail
    refine (Floor_is _ _ _ _ _ H1 _).mono ?_
    rintro e w1 ⟨rfl, hb1⟩
    go_wp2_with fail
    refine (Ceil_is _ _ _ _ _ H2 _).mono ?_
    rintro e w2 ⟨rfl, hb2⟩
    go_wp2_with fail
    refine (small2 a c _ hs _ _ (by simp) (by simp)).mono ?_
    rintro e w3 ⟨rfl, rfl⟩
    go_wp2_with fail
    refine (alive_is _).mono ?_
    rintro e w4 ⟨rfl, hb4⟩
    go_wp2
    go_ret
    exact ⟨rfl, (by repeat (first | exact brefl _ | refine balloc ?_ _ | refine bstep ?_ (by assumption)))⟩
  | true =>
    by_cases hc : c < 1
    · have H1 := Lib.hid (back_no (a := a) (c := c) (.inr hc)).1
      have H2 := Lib.hid (back_no (a := a) (c := c) (.inr hc)).2
      go_enter Try.func4, Try.ntmps4
      go_wp2_with fail
      refine (Floor_is _ _ _ _ _ H1 _).mono ?_
      rintro e w1 ⟨rfl, hb1⟩
      go_wp2_with fail
      refine (Ceil_is _ _ _ _ _ H2 _).mono ?_
      rintro e w2 ⟨rfl, hb2⟩
      go_wp2_with fail
      refine (small2 a c _ hs _ _ (by simp) (by simp)).mono ?_
      rintro e w3 ⟨rfl, rfl⟩
      go_wp2_with fail
      refine (alive_is _).mono ?_
      rintro e w4 ⟨rfl, hb4⟩
      go_wp2
      go_ret
      exact ⟨rfl, (by repeat (first | exact brefl _ | refine balloc ?_ _ | refine bstep ?_ (by assumption)))⟩
    · have hb := back_yes (Bool.and_eq_true_iff.1 hs).1 (Bool.and_eq_true_iff.1 hs).2 (by omega)
      have H1 := Lib.hid hb.1
      have H2 := Lib.hid hb.2
      clear hb
      go_enter Try.func4, Try.ntmps4
      go_wp2_with fail
      refine (Floor_is _ _ _ _ _ H1 _).mono ?_
      rintro e w1 ⟨rfl, hb1⟩
      go_wp2_with fail
      refine (Ceil_is _ _ _ _ _ H2 _).mono ?_
      rintro e w2 ⟨rfl, hb2⟩
      go_wp2_with fail
      refine (small2 a c _ hs _ _ (by simp) (by simp)).mono ?_
      rintro e w3 ⟨rfl, rfl⟩
      go_wp2_with fail
      refine (alive_is _).mono ?_
      rintro e w4 ⟨rfl, hb4⟩
      go_wp2
      go_ret
      exact ⟨rfl, (by repeat (first | exact brefl _ | refine balloc ?_ _ | refine bstep ?_ (by assumption)))⟩
end Go.Proofs.Ytaahobgjkkeccaa
