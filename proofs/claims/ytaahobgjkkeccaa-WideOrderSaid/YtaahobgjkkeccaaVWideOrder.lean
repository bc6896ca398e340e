/-
  The walk of the law WideOrder.
-/
import Derived.Test.YtaahobgjkkeccaaAlWide
import Derived.Test.YtaahobgjkkeccaaMd
namespace Go.Proofs.Ytaahobgjkkeccaa
open Go.RowKit

theorem WideOrder_walk (a b k c : Int) (w : World) (_ : I64 a) (_ : I64 b) (_ : I64 k) (_ : I64 c) : Calls Try.prog 5 #[.int .i64 a, .int .i64 b, .agg #[.int .i64 k, .int .i64 c]] w fun e w' => e = .returned (.bool true) ∧ Below w.heap.size w w' := by
  by_cases hab : b < a
  · go_enter Try.func5, Try.ntmps5
    go_wp2_with fail
    refine (alive_is _).mono ?_
    rintro e w1 ⟨rfl, hb1⟩
    go_wp2
    go_ret
    exact ⟨rfl, (by repeat (first | exact brefl _ | refine balloc ?_ _ | refine bstep ?_ (by assumption)))⟩
  · by_cases hk : k < 0
    · go_enter Try.func5, Try.ntmps5
      go_wp2_with fail
      refine (alive_is _).mono ?_
      rintro e w1 ⟨rfl, hb1⟩
      go_wp2
      go_ret
      exact ⟨rfl, (by repeat (first | exact brefl _ | refine balloc ?_ _ | refine bstep ?_ (by assumption)))⟩
    · obtain ⟨m, p, hm⟩ : ∃ x p, floorP a k c = (x, p) := ⟨_, _, rfl⟩
      obtain ⟨n, q, hn⟩ : ∃ x p, floorP b k c = (x, p) := ⟨_, _, rfl⟩
      have H1 := Lib.hid hm
      have H2 := Lib.hid hn
      cases p with
      | false =>
        clear hm hn
        go_enter Try.func5, Try.ntmps5
        go_wp2_with fail
        refine (Floor_is _ _ _ _ _ H1 _).mono ?_
        rintro e w1 ⟨rfl, hb1⟩
        have hk1 := (bcell hb1).1
        go_wp2_with fail
        refine (Floor_is _ _ _ _ _ H2 _).mono ?_
        rintro e w2 ⟨rfl, hb2⟩
        go_wp2_with fail
        refine (alive_is _).mono ?_
        rintro e w3 ⟨rfl, hb3⟩
        go_wp2
        go_ret
        exact ⟨rfl, (by repeat (first | exact brefl _ | refine balloc ?_ _ | refine bstep ?_ (by assumption)))⟩
      | true =>
        cases q with
        | false =>
          clear hm hn
          go_enter Try.func5, Try.ntmps5
          go_wp2_with fail
          refine (Floor_is _ _ _ _ _ H1 _).mono ?_
          rintro e w1 ⟨rfl, hb1⟩
          have hk1 := (bcell hb1).1
          go_wp2_with fail
          refine (Floor_is _ _ _ _ _ H2 _).mono ?_
          rintro e w2 ⟨rfl, hb2⟩
          go_wp2_with fail
          refine (alive_is _).mono ?_
          rintro e w3 ⟨rfl, hb3⟩
          go_wp2
          go_ret
          exact ⟨rfl, (by repeat (first | exact brefl _ | refine balloc ?_ _ | refine bstep ?_ (by assumption)))⟩
        | true =>
          have hle := floor_mono (by omega) (by omega) hm hn
          clear hm hn
          go_enter Try.func5, Try.ntmps5
          go_wp2_with fail
          refine (Floor_is _ _ _ _ _ H1 _).mono ?_
          rintro e w1 ⟨rfl, hb1⟩
          have hk1 := (bcell hb1).1
          go_wp2_with fail
          refine (Floor_is _ _ _ _ _ H2 _).mono ?_
          rintro e w2 ⟨rfl, hb2⟩
          go_wp2_with fail
          refine (alive_is _).mono ?_
          rintro e w3 ⟨rfl, hb3⟩
          go_wp2
          go_ret
          exact ⟨rfl, (by repeat (first | exact brefl _ | refine balloc ?_ _ | refine bstep ?_ (by assumption)))⟩
end Go.Proofs.Ytaahobgjkkeccaa
