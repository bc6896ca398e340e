/-
  The walk of the law ServoExact.
-/
import Derived.Test.YtklnlhphgiipjaaAlServo
import Derived.Test.YtklnlhphgiipjaaVe
import Derived.Test.YtklnlhphgiipjaaScr5
import Derived.Test.YtklnlhphgiipjaaRa
import Derived.Deep.RegionHeld3
namespace Go.Proofs.Ytklnlhphgiipjaa
open Go.RowKit

set_option maxRecDepth 100000 in
set_option maxHeartbeats 8000000 in
theorem ServoExact_walk (x y : Int) (z : Bool) (t n : Int) (w : World) (_hx : I64 x) (_hy : I64 y) (ht : I64 t) (hn : I64 n) :
    Calls Try.prog 3 #[.agg #[.int .i64 x, .int .i64 y, .bool z], .int .i64 t, .int .i64 n] w fun e w' => e = .returned (.bool true) ∧ Below w.heap.size w w' := by
  unfold I64 at ht hn
  by_cases hbad : n < 0
  · go_enter Try.func3, Try.ntmps3
    go_wp2_with fail
    refine (SNew_yes 0 (by decide) (by decide) _).mono ?_
    rintro e w1 ⟨b, rfl, hb1, hwb, ho⟩
    go_wp2_with fail
    refine (alive_is _).mono ?_
    rintro e w2 ⟨rfl, hb2⟩
    go_wp2
    go_ret
    exact ⟨rfl, (by repeat (first | exact brefl _ | refine balloc ?_ _ | refine bdrewN ?_ _ | refine bset ?_ (by dsimp only; omega) _ | refine bstep ?_ (by assumption)))⟩
  have hc0 : 0 ≤ n := by omega
  clear hbad
  by_cases hbad : 1125899906842624 < n
  · go_enter Try.func3, Try.ntmps3
    go_wp2_with fail
    refine (SNew_yes 0 (by decide) (by decide) _).mono ?_
    rintro e w1 ⟨b, rfl, hb1, hwb, ho⟩
    go_wp2_with fail
    refine (alive_is _).mono ?_
    rintro e w2 ⟨rfl, hb2⟩
    go_wp2
    go_ret
    exact ⟨rfl, (by repeat (first | exact brefl _ | refine balloc ?_ _ | refine bdrewN ?_ _ | refine bset ?_ (by dsimp only; omega) _ | refine bstep ?_ (by assumption)))⟩
  have hc1 : n ≤ 1125899906842624 := by omega
  clear hbad
  by_cases hbad : t < -1125899906842624
  · go_enter Try.func3, Try.ntmps3
    go_wp2_with fail
    refine (SNew_yes 0 (by decide) (by decide) _).mono ?_
    rintro e w1 ⟨b, rfl, hb1, hwb, ho⟩
    go_wp2_with fail
    refine (alive_is _).mono ?_
    rintro e w2 ⟨rfl, hb2⟩
    go_wp2
    go_ret
    exact ⟨rfl, (by repeat (first | exact brefl _ | refine balloc ?_ _ | refine bdrewN ?_ _ | refine bset ?_ (by dsimp only; omega) _ | refine bstep ?_ (by assumption)))⟩
  have hc2 : -1125899906842624 ≤ t := by omega
  clear hbad
  by_cases hbad : 1125899906842624 < t
  · go_enter Try.func3, Try.ntmps3
    go_wp2_with fail
    refine (SNew_yes 0 (by decide) (by decide) _).mono ?_
    rintro e w1 ⟨b, rfl, hb1, hwb, ho⟩
    go_wp2_with fail
    refine (alive_is _).mono ?_
    rintro e w2 ⟨rfl, hb2⟩
    go_wp2
    go_ret
    exact ⟨rfl, (by repeat (first | exact brefl _ | refine balloc ?_ _ | refine bdrewN ?_ _ | refine bset ?_ (by dsimp only; omega) _ | refine bstep ?_ (by assumption)))⟩
  have hc3 : t ≤ 1125899906842624 := by omega
  clear hbad
  have hts : smallB t = true := smallB_true (by omega) (by omega)
  go_enter Try.func3, Try.ntmps3
  go_wp2_with fail
  refine (SNew_yes 0 (by decide) (by decide) _).mono ?_
  rintro e w1 ⟨b, rfl, hb1, hwb, ho⟩
  have q1_0 : CellF w1 ⟨w.heap.size, 0, none⟩ (.int .i64 x) := CellF.keep hb1 (CellF.at_ rfl rfl)
  have c1_0 := q1_0.1
  have q1_1 : CellF w1 ⟨w.heap.size, 1, none⟩ (.int .i64 y) := CellF.keep hb1 (CellF.at_ rfl rfl)
  have c1_1 := q1_1.1
  have q1_2 : CellF w1 ⟨w.heap.size, 2, none⟩ (.bool z) := CellF.keep hb1 (CellF.at_ rfl rfl)
  have c1_2 := q1_2.1
  have z1 : w.heap.size < w1.heap.size := ltc c1_0
  have hbw : w.heap.size < b := by simp at hwb; omega
  have hne : w.heap.size ≠ b := Nat.ne_of_lt hbw
  have hw1 : Below w.heap.size w w1 := (by repeat (first | exact brefl _ | refine balloc ?_ _ | refine bdrewN ?_ _ | refine bset ?_ (by dsimp only; omega) _ | refine bstep ?_ (by assumption)))
  cases hm : sMay spNo 0 ⟨x, y, z⟩ t with
  | false =>
    have hob := obs_same (m := 0) (p := 0) hm
    have hno := exact_no hts hm
    have HOB : Hid (sObs ⟨0, 0, false⟩ 0 0 0 ⟨x, y, z⟩ t = (⟨0, 0, false⟩, 0, 0, false)) := Lib.hid hob
    clear hob hm
    go_wp2_with fail
    refine (Observe_is b 0 0 false 0 0 0 x y z t 0 0 false 0 0 false (by decide) (by decide) HOB _ ho).mono ?_
    rintro e w2 ⟨rfl, on2, ho2⟩
    have q2_0 := on2.2 _ _ hne q1_0
    have c2_0 := q2_0.1
    have q2_1 := on2.2 _ _ hne q1_1
    have c2_1 := q2_1.1
    have q2_2 := on2.2 _ _ hne q1_2
    have c2_2 := q2_2.1
    have z2 : w.heap.size < w2.heap.size := ltc c2_0
    have hw2 : Below w.heap.size w w2 := hw1.trans (on2.1.mono (Nat.le_of_lt hbw))
    clear q1_0 q1_1 q1_2 c1_0 c1_1 c1_2 z1 hw1
    go_wp2_with fail
    refine (alive_is _).mono ?_
    rintro e w3 ⟨rfl, hb3⟩
    have q3_0 := CellF.keep hb3 q2_0
    have c3_0 := q3_0.1
    have q3_1 := CellF.keep hb3 q2_1
    have c3_1 := q3_1.1
    have q3_2 := CellF.keep hb3 q2_2
    have c3_2 := q3_2.1
    have z3 : w.heap.size < w3.heap.size := ltc c3_0
    clear q2_0 q2_1 q2_2 c2_0 c2_1 c2_2 z2
    cases z with
    | false =>
      go_wp2
      go_ret
      exact ⟨rfl, (by repeat (first | exact brefl _ | refine balloc ?_ _ | refine bdrewN ?_ _ | refine bset ?_ (by dsimp only; omega) _ | refine bstep ?_ (by assumption)))⟩
    | true =>
      have hr : spRight ⟨x, y, true⟩ = false := by
        rcases hno with h | h
        · cases h
        · exact h
      have HR := Lib.hid hr
      clear hno hr
      go_wp2_with fail
      refine (r3Right_is _ _ _ _ HR _).mono ?_
      rintro e w4 ⟨rfl, hb4⟩
      go_wp2
      go_ret
      exact ⟨rfl, (by repeat (first | exact brefl _ | refine balloc ?_ _ | refine bdrewN ?_ _ | refine bset ?_ (by dsimp only; omega) _ | refine bstep ?_ (by assumption)))⟩
  | true =>
    have hob := exact_yes hm
    have hk := (may_iff.1 hm).1
    have HOB : Hid (sObs ⟨0, 0, false⟩ 0 0 0 ⟨x, y, z⟩ t = (⟨x, y, z⟩, t, 1, true)) := Lib.hid hob
    have hrd := exact_read hk hc2 hc3 hc0 hc1
    have HR : Hid (sRead ⟨x, y, z⟩ t 0 (t + n) = ⟨x, y, z⟩) := Lib.hid hrd
    have HN : Hid (sRead ⟨x, y, z⟩ t 0 (t - 1) = ⟨0, 0, false⟩) := Lib.hid (exact_before hc2 hc3)
    obtain ⟨⟨m1, m2, m3⟩, hsh⟩ : ∃ s, spShift ⟨x, y, z⟩ (t + n) = s := ⟨_, rfl⟩
    have HSH := Lib.hid hsh
    have HM : Hid (sMaster ⟨x, y, z⟩ t 0 (t + n) = ⟨m1, m2, m3⟩) := Lib.hid (by unfold sMaster; rw [hrd]; exact hsh)
    have hu1 : IntKind.i64.wrap (t + n) = t + n := by rw [IntKind.wrap_i64]; omega
    have hu2 : IntKind.i64.wrap (t - 1) = t - 1 := by rw [IntKind.wrap_i64]; omega
    clear hob hm hk hrd hsh
    go_wp2_with fail
    refine (Observe_is b 0 0 false 0 0 0 x y z t x y z t 1 true (by decide) (by decide) HOB _ ho).mono ?_
    rintro e w2 ⟨rfl, on2, ho2⟩
    have q2_0 := on2.2 _ _ hne q1_0
    have c2_0 := q2_0.1
    have q2_1 := on2.2 _ _ hne q1_1
    have c2_1 := q2_1.1
    have q2_2 := on2.2 _ _ hne q1_2
    have c2_2 := q2_2.1
    have z2 : w.heap.size < w2.heap.size := ltc c2_0
    have hw2 : Below w.heap.size w w2 := hw1.trans (on2.1.mono (Nat.le_of_lt hbw))
    clear q1_0 q1_1 q1_2 c1_0 c1_1 c1_2 z1 hw1
    have ho2d := SrvAt.drew ho2
    have hw2d := Lib.hid hw2
    clear hw2
    go_wp2_with fail
    go_region_held3 (fun w' => w'.cell? ⟨w.heap.size, 0, none⟩ = some (.int .i64 x) ∧ w'.cell? ⟨w.heap.size, 1, none⟩ = some (.int .i64 y) ∧ w'.cell? ⟨w.heap.size, 2, none⟩ = some (.bool z))
      (go_keep)
      (first | (go_at_call 10; ((with_reducible refine (alive_is _).mono ?_)); rintro e w3 ⟨rfl, hb3⟩; have ho3 := SrvAt.keep hb3 ho2d; have q3_0 := CellF.keep hb3 (CellF.drew q2_0); have c3_0 := q3_0.1; have q3_1 := CellF.keep hb3 (CellF.drew q2_1); have c3_1 := q3_1.1; have q3_2 := CellF.keep hb3 (CellF.drew q2_2); have c3_2 := q3_2.1) | (go_at_call 13; ((with_reducible refine (Read_is b x y z t 1 0 (t + n) _ _ _ HR _ ho3).mono ?_)); rintro e w4 ⟨rfl, hb4⟩; have ho4 := SrvAt.keep hb4 ho3; have q4_0 := CellF.keep hb4 q3_0; have c4_0 := q4_0.1; have q4_1 := CellF.keep hb4 q3_1; have c4_1 := q4_1.1; have q4_2 := CellF.keep hb4 q3_2; have c4_2 := q4_2.1) | (go_at_call 14; ((with_reducible refine (Master_is b x y z t 1 0 (t + n) _ _ _ HM _ ho4).mono ?_)); rintro e w5 ⟨rfl, hb5⟩; have ho5 := SrvAt.keep hb5 ho4; have q5_0 := CellF.keep hb5 q4_0; have c5_0 := q5_0.1; have q5_1 := CellF.keep hb5 q4_1; have c5_1 := q5_1.1; have q5_2 := CellF.keep hb5 q4_2; have c5_2 := q5_2.1) | (go_at_call 15; ((with_reducible refine (Shift_is _ _ (t + n) _ _ _ _ HSH _).mono ?_)); rintro e w6 ⟨rfl, hb6⟩; have ho6 := SrvAt.keep hb6 ho5; have q6_0 := CellF.keep hb6 q5_0; have c6_0 := q6_0.1; have q6_1 := CellF.keep hb6 q5_1; have c6_1 := q6_1.1; have q6_2 := CellF.keep hb6 q5_2; have c6_2 := q6_2.1) | (go_at_call 13; ((with_reducible refine (Read_is b x y z t 1 0 (t - 1) _ _ _ HN _ ho6).mono ?_)); rintro e w7 ⟨rfl, hb7⟩; have ho7 := SrvAt.keep hb7 ho6; have q7_0 := CellF.keep hb7 q6_0; have c7_0 := q7_0.1; have q7_1 := CellF.keep hb7 q6_1; have c7_1 := q7_1.1; have q7_2 := CellF.keep hb7 q6_2; have c7_2 := q7_2.1) | (go_at_call 16; ((with_reducible refine (Unknown_is _).mono ?_)); rintro e w8 ⟨rfl, hb8⟩; have ho8 := SrvAt.keep hb8 ho7; have q8_0 := CellF.keep hb8 q7_0; have c8_0 := q8_0.1; have q8_1 := CellF.keep hb8 q7_1; have c8_1 := q8_1.1; have q8_2 := CellF.keep hb8 q7_2; have c8_2 := q8_2.1))
    have hw2 := hw2d.out
    all_goals (go_wp2; go_ret; exact ⟨rfl, by repeat (first | with_reducible exact hw2 | refine bdrew ?_ | refine bstep ?_ (by assumption))⟩)
end Go.Proofs.Ytklnlhphgiipjaa
