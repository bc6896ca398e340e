/-
  The walk of the law WideReckons.
-/
import Derived.Test.YtaahobgjkkeccaaAlWide
import Derived.Test.YtaahobgjkkeccaaRw
namespace Go.Proofs.Ytaahobgjkkeccaa
open Go.RowKit

theorem WideReckons_walk (a b : Int) (w : World) (_ : I64 a) (_ : I64 b) : Calls Try.prog 8 #[.int .i64 a, .int .i64 b] w fun e w' => e = .returned (.bool true) ∧ Below w.heap.size w w' := by
  obtain ⟨x, p, hx⟩ : ∃ x p, addP a b = (x, p) := ⟨_, _, rfl⟩
  obtain ⟨y, q, hy⟩ : ∃ x p, subP a b = (x, p) := ⟨_, _, rfl⟩
  obtain ⟨z, r, hz⟩ : ∃ x p, mulP a b = (x, p) := ⟨_, _, rfl⟩
  obtain ⟨u, hu⟩ : ∃ u, absP a = u := ⟨_, rfl⟩
  have H1 := Lib.hid hx
  have H2 := Lib.hid hy
  have H3 := Lib.hid hz
  have H4 := Lib.hid hu
  clear hx hy hz hu
  cases ha : smallB a with
  | false =>
    have hs : (smallB a && smallB b) = false := by rw [ha]; rfl
    go_enter Try.func8, Try.ntmps8
    go_wp2_with fail
    refine (Add_is _ _ _ _ H1 _).mono ?_
    rintro e w1 ⟨rfl, hb1⟩
    go_wp2_with fail
    refine (rAdd_is _ _ _ _ H1 _).mono ?_
    rintro e w2 ⟨rfl, hb2⟩
    go_wp2_with fail
    refine (Sub_is _ _ _ _ H2 _).mono ?_
    rintro e w3 ⟨rfl, hb3⟩
    go_wp2_with fail
    refine (rSub_is _ _ _ _ H2 _).mono ?_
    rintro e w4 ⟨rfl, hb4⟩
    go_wp2_with fail
    refine (Mul_is _ _ _ _ H3 _).mono ?_
    rintro e w5 ⟨rfl, hb5⟩
    go_wp2_with fail
    refine (rMul_is _ _ _ _ H3 _).mono ?_
    rintro e w6 ⟨rfl, hb6⟩
    go_wp2_with fail
    refine (alive_is _).mono ?_
    rintro e w7 ⟨rfl, hb7⟩
    go_wp2_with fail
    refine (small2 a b _ hs _ _ (by simp) (by simp)).mono ?_
    rintro e w8 ⟨rfl, rfl⟩
    go_wp2_with fail
    refine (rSmall_is _ _ ha _).mono ?_
    rintro e w9 ⟨rfl, hb9⟩
    go_wp2_with fail
    refine (Abs_is _ _ H4 _).mono ?_
    rintro e w10 ⟨rfl, hb10⟩
    go_wp2_with fail
    refine (rAbs_is _ _ H4 _).mono ?_
    rintro e w11 ⟨rfl, hb11⟩
    go_wp2
    go_ret
    exact ⟨rfl, (by repeat (first | exact brefl _ | refine balloc ?_ _ | refine bstep ?_ (by assumption)))⟩
  | true =>
    cases hb : smallB b with
    | false =>
      have hs : (smallB a && smallB b) = false := by rw [ha, hb]; rfl
      go_enter Try.func8, Try.ntmps8
      go_wp2_with fail
      refine (Add_is _ _ _ _ H1 _).mono ?_
      rintro e w1 ⟨rfl, hb1⟩
      go_wp2_with fail
      refine (rAdd_is _ _ _ _ H1 _).mono ?_
      rintro e w2 ⟨rfl, hb2⟩
      go_wp2_with fail
      refine (Sub_is _ _ _ _ H2 _).mono ?_
      rintro e w3 ⟨rfl, hb3⟩
      go_wp2_with fail
      refine (rSub_is _ _ _ _ H2 _).mono ?_
      rintro e w4 ⟨rfl, hb4⟩
      go_wp2_with fail
      refine (Mul_is _ _ _ _ H3 _).mono ?_
      rintro e w5 ⟨rfl, hb5⟩
      go_wp2_with fail
      refine (rMul_is _ _ _ _ H3 _).mono ?_
      rintro e w6 ⟨rfl, hb6⟩
      go_wp2_with fail
      refine (alive_is _).mono ?_
      rintro e w7 ⟨rfl, hb7⟩
      go_wp2_with fail
      refine (small2 a b _ hs _ _ (by simp) (by simp)).mono ?_
      rintro e w8 ⟨rfl, rfl⟩
      go_wp2_with fail
      refine (rSmall_is _ _ ha _).mono ?_
      rintro e w9 ⟨rfl, hb9⟩
      go_wp2_with fail
      refine (rSmall_is _ _ hb _).mono ?_
      rintro e w10 ⟨rfl, hb10⟩
      go_wp2_with fail
      refine (Abs_is _ _ H4 _).mono ?_
      rintro e w11 ⟨rfl, hb11⟩
      go_wp2_with fail
      refine (rAbs_is _ _ H4 _).mono ?_
      rintro e w12 ⟨rfl, hb12⟩
      go_wp2
      go_ret
      exact ⟨rfl, (by repeat (first | exact brefl _ | refine balloc ?_ _ | refine bstep ?_ (by assumption)))⟩
    | true =>
      have hs : (smallB a && smallB b) = true := by rw [ha, hb]; rfl
      go_enter Try.func8, Try.ntmps8
      go_wp2_with fail
      refine (Add_is _ _ _ _ H1 _).mono ?_
      rintro e w1 ⟨rfl, hb1⟩
      go_wp2_with fail
      refine (rAdd_is _ _ _ _ H1 _).mono ?_
      rintro e w2 ⟨rfl, hb2⟩
      go_wp2_with fail
      refine (Sub_is _ _ _ _ H2 _).mono ?_
      rintro e w3 ⟨rfl, hb3⟩
      go_wp2_with fail
      refine (rSub_is _ _ _ _ H2 _).mono ?_
      rintro e w4 ⟨rfl, hb4⟩
      go_wp2_with fail
      refine (Mul_is _ _ _ _ H3 _).mono ?_
      rintro e w5 ⟨rfl, hb5⟩
      go_wp2_with fail
      refine (rMul_is _ _ _ _ H3 _).mono ?_
      rintro e w6 ⟨rfl, hb6⟩
      go_wp2_with fail
      refine (alive_is _).mono ?_
      rintro e w7 ⟨rfl, hb7⟩
      go_wp2_with fail
      refine (small2 a b _ hs _ _ (by simp) (by simp)).mono ?_
      rintro e w8 ⟨rfl, rfl⟩
      go_wp2_with fail
      refine (rSmall_is _ _ ha _).mono ?_
      rintro e w9 ⟨rfl, hb9⟩
      go_wp2_with fail
      refine (rSmall_is _ _ hb _).mono ?_
      rintro e w10 ⟨rfl, hb10⟩
      go_wp2_with fail
      refine (Abs_is _ _ H4 _).mono ?_
      rintro e w11 ⟨rfl, hb11⟩
      go_wp2_with fail
      refine (rAbs_is _ _ H4 _).mono ?_
      rintro e w12 ⟨rfl, hb12⟩
      go_wp2
      go_ret
      exact ⟨rfl, (by repeat (first | exact brefl _ | refine balloc ?_ _ | refine bstep ?_ (by assumption)))⟩
end Go.Proofs.Ytaahobgjkkeccaa
