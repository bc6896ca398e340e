/-
  The walk of the law WideNear.
-/
import Derived.Test.YtaahobgjkkeccaaAlWide
import Derived.Test.YtaahobgjkkeccaaMd
namespace Go.Proofs.Ytaahobgjkkeccaa
open Go.RowKit

theorem WideNear_walk (a b c : Int) (w : World) (_ : I64 a) (_ : I64 b) (_ : I64 c) : Calls Try.prog 6 #[.int .i64 a, .int .i64 b, .int .i64 c] w fun e w' => e = .returned (.bool true) ∧ Below w.heap.size w w' := by
  obtain ⟨x, p, hf⟩ : ∃ x p, floorP a b c = (x, p) := ⟨_, _, rfl⟩
  obtain ⟨y, q, hc⟩ : ∃ x p, ceilP a b c = (x, p) := ⟨_, _, rfl⟩
  cases p with
  | false =>
    have H1 := Lib.hid hf
    have H2 := Lib.hid hc
    clear hf hc
    go_enter Try.func6, Try.ntmps6
    go_wp2_with fail
    refine (Floor_is _ _ _ _ _ H1 _).mono ?_
    rintro e w1 ⟨rfl, hb1⟩
    go_wp2_with fail
    refine (Ceil_is _ _ _ _ _ H2 _).mono ?_
    rintro e w2 ⟨rfl, hb2⟩
    go_wp2_with fail
    refine (alive_is _).mono ?_
    rintro e w3 ⟨rfl, hb3⟩
    go_wp2
    go_ret
    exact ⟨rfl, (by repeat (first | exact brefl _ | refine balloc ?_ _ | refine bstep ?_ (by assumption)))⟩
  | true =>
    cases q with
    | false =>
      have H1 := Lib.hid hf
      have H2 := Lib.hid hc
      clear hf hc
      go_enter Try.func6, Try.ntmps6
      go_wp2_with fail
      refine (Floor_is _ _ _ _ _ H1 _).mono ?_
      rintro e w1 ⟨rfl, hb1⟩
      go_wp2_with fail
      refine (Ceil_is _ _ _ _ _ H2 _).mono ?_
      rintro e w2 ⟨rfl, hb2⟩
      go_wp2_with fail
      refine (alive_is _).mono ?_
      rintro e w3 ⟨rfl, hb3⟩
      go_wp2
      go_ret
      exact ⟨rfl, (by repeat (first | exact brefl _ | refine balloc ?_ _ | refine bstep ?_ (by assumption)))⟩
    | true =>
      obtain ⟨h1, hn⟩ := near_yes hf hc
      have hx := floor_bd hf
      obtain ⟨m, r, hm⟩ : ∃ x p, mulP a b = (x, p) := ⟨_, _, rfl⟩
      have hmb := mul_bd' hm
      have H1 := Lib.hid hf
      have H2 := Lib.hid hc
      have H3 := Lib.hid hm
      clear hf hc
      cases r with
      | false =>
        clear hm
        have hn := Lib.hid hn
        rcases hn.out with ⟨rfl, h⟩ | ⟨rfl, h⟩
        · clear h hn
          go_enter Try.func6, Try.ntmps6
          go_wp2_with fail
          refine (Floor_is _ _ _ _ _ H1 _).mono ?_
          rintro e w1 ⟨rfl, hb1⟩
          go_wp2_with fail
          refine (Ceil_is _ _ _ _ _ H2 _).mono ?_
          rintro e w2 ⟨rfl, hb2⟩
          go_wp2_with fail
          refine (Mul_is _ _ _ _ H3 _).mono ?_
          rintro e w3 ⟨rfl, hb3⟩
          go_wp2_with fail
          refine (alive_is _).mono ?_
          rintro e w4 ⟨rfl, hb4⟩
          go_wp2
          go_ret
          exact ⟨rfl, (by repeat (first | exact brefl _ | refine balloc ?_ _ | refine bstep ?_ (by assumption)))⟩
        · clear h hn
          go_enter Try.func6, Try.ntmps6
          go_wp2_with fail
          refine (Floor_is _ _ _ _ _ H1 _).mono ?_
          rintro e w1 ⟨rfl, hb1⟩
          go_wp2_with fail
          refine (Ceil_is _ _ _ _ _ H2 _).mono ?_
          rintro e w2 ⟨rfl, hb2⟩
          go_wp2_with fail
          refine (Mul_is _ _ _ _ H3 _).mono ?_
          rintro e w3 ⟨rfl, hb3⟩
          go_wp2_with fail
          refine (alive_is _).mono ?_
          rintro e w4 ⟨rfl, hb4⟩
          go_wp2
          go_ret
          exact ⟨rfl, (by repeat (first | exact brefl _ | refine balloc ?_ _ | refine bstep ?_ (by assumption)))⟩
      | true =>
        obtain rfl := mul_true hm
        clear hm
        rcases hn with ⟨rfl, h⟩ | ⟨rfl, h⟩
        · have h : ((a * b).tmod c == 0) = true := by simpa using h
          go_enter Try.func6, Try.ntmps6
          go_wp2_with fail
          refine (Floor_is _ _ _ _ _ H1 _).mono ?_
          rintro e w1 ⟨rfl, hb1⟩
          go_wp2_with fail
          refine (Ceil_is _ _ _ _ _ H2 _).mono ?_
          rintro e w2 ⟨rfl, hb2⟩
          go_wp2_with fail
          refine (Mul_is _ _ _ _ H3 _).mono ?_
          rintro e w3 ⟨rfl, hb3⟩
          go_wp2_with fail
          refine (alive_is _).mono ?_
          rintro e w4 ⟨rfl, hb4⟩
          go_wp2
          go_ret
          exact ⟨rfl, (by repeat (first | exact brefl _ | refine balloc ?_ _ | refine bstep ?_ (by assumption)))⟩
        · have h : ((a * b).tmod c == 0) = false := by simpa using h
          have hxx : (x == x + 1) = false := by rw [beq_eq_false_iff_ne]; omega
          go_enter Try.func6, Try.ntmps6
          go_wp2_with fail
          refine (Floor_is _ _ _ _ _ H1 _).mono ?_
          rintro e w1 ⟨rfl, hb1⟩
          go_wp2_with fail
          refine (Ceil_is _ _ _ _ _ H2 _).mono ?_
          rintro e w2 ⟨rfl, hb2⟩
          go_wp2_with fail
          refine (Mul_is _ _ _ _ H3 _).mono ?_
          rintro e w3 ⟨rfl, hb3⟩
          go_wp2_with fail
          refine (alive_is _).mono ?_
          rintro e w4 ⟨rfl, hb4⟩
          go_wp2
          go_ret
          exact ⟨rfl, (by repeat (first | exact brefl _ | refine balloc ?_ _ | refine bstep ?_ (by assumption)))⟩
end Go.Proofs.Ytaahobgjkkeccaa
