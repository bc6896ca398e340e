/-
  The walk of the law StampBytes.
-/
import Derived.Test.YtoijjnhlmndhpaaAlStamp
import Derived.Test.YtoijjnhlmndhpaaTq
namespace Go.Proofs.Ytoijjnhlmndhpaa
open Go.RowKit

set_option maxRecDepth 100000 in
set_option maxHeartbeats 4000000 in
theorem StampBytes_walk (s m : Int) (v : Value) (xs : List Int) (w : World) (_ : I64 s) (_ : I64 m) (hv : BytesAt w v xs) :
    Calls Try.prog 9 #[.agg #[.int .i64 s, .int .i64 m], v] w fun e w' => e = .returned (.bool true) ∧ Below w.heap.size w w' := by
  obtain ⟨x, y, z, e1⟩ : ∃ x y z, getP xs = (x, y, z) := ⟨_, _, _, rfl⟩
  have e2 := getP_ev hv.choose_spec.choose_spec.2.2.2.1
  rw [e1] at e2
  obtain ⟨r, e3⟩ : ∃ q, stRight s m = q := ⟨_, rfl⟩
  have X1 := Lib.hid e1
  have X2 := Lib.hid e2
  have X3 := Lib.hid e3
  have HV := Lib.hid hv
  clear e1 e2 e3
  obtain ⟨a0, cap0, rfl, _, _, _, _⟩ := hv
  cases r with
  | false =>
    go_enter Try.func9, Try.ntmps9
    go_wp2_with fail
    refine (Put_no s m X3 _).mono ?_
    rintro e w1 ⟨rfl, hb1⟩
    have q1_1_0 : CellF w1 ⟨w.heap.size, 0, none⟩ (.int .i64 s) := (by refine CellF.keep hb1 ?_; (first | ((repeat (first | ((with_reducible refine CellF.at_ ?_ ?_); (first | (simp; done) | rfl); rfl) | with_reducible refine CellF.past _ ?_ | with_reducible refine CellF.drew ?_ | with_reducible refine CellF.drewN _ ?_)); done) | (refine ⟨?_, ?_⟩ <;> go_simp)))
    have c1_1_0 := q1_1_0.1
    have q1_1_1 : CellF w1 ⟨w.heap.size, 1, none⟩ (.int .i64 m) := (by refine CellF.keep hb1 ?_; (first | ((repeat (first | ((with_reducible refine CellF.at_ ?_ ?_); (first | (simp; done) | rfl); rfl) | with_reducible refine CellF.past _ ?_ | with_reducible refine CellF.drew ?_ | with_reducible refine CellF.drewN _ ?_)); done) | (refine ⟨?_, ?_⟩ <;> go_simp)))
    have c1_1_1 := q1_1_1.1
    have z1_1 : w.heap.size < w1.heap.size := ltc c1_1_0
    go_wp2_with fail
    refine (rPut_no s m X3 _).mono ?_
    rintro e w2 ⟨rfl, hb2⟩
    have q2_2_0 : CellF w2 ⟨w.heap.size, 0, none⟩ (.int .i64 s) := (by refine CellF.keep hb2 ?_; repeat (first | with_reducible exact q1_1_0 | ((with_reducible refine CellF.at_ ?_ ?_); (first | (simp; done) | rfl); rfl) | with_reducible refine CellF.past _ ?_ | with_reducible refine CellF.drew ?_ | with_reducible refine CellF.drewN _ ?_))
    have c2_2_0 := q2_2_0.1
    have q2_2_1 : CellF w2 ⟨w.heap.size, 1, none⟩ (.int .i64 m) := (by refine CellF.keep hb2 ?_; repeat (first | with_reducible exact q1_1_1 | ((with_reducible refine CellF.at_ ?_ ?_); (first | (simp; done) | rfl); rfl) | with_reducible refine CellF.past _ ?_ | with_reducible refine CellF.drew ?_ | with_reducible refine CellF.drewN _ ?_))
    have c2_2_1 := q2_2_1.1
    have z2_2 : w.heap.size < w2.heap.size := ltc c2_2_0
    clear q1_1_0 c1_1_0 q1_1_1 c1_1_1 z1_1
    have hbel2 : Below w.heap.size w w2 := (by repeat (first | exact brefl _ | refine balloc ?_ _ | refine bdrewN ?_ _ | refine bset ?_ (by dsimp only; omega) _ | refine bstep ?_ (by assumption)))
    go_wp2_with fail
    refine (Get_is _ _ _ X1 _ (HV.out.keep hbel2)).mono ?_
    rintro e w3 ⟨rfl, hb3⟩
    have q3_3_0 : CellF w3 ⟨w.heap.size, 0, none⟩ (.int .i64 s) := (by refine CellF.keep hb3 ?_; repeat (first | with_reducible exact q2_2_0 | ((with_reducible refine CellF.at_ ?_ ?_); (first | (simp; done) | rfl); rfl) | with_reducible refine CellF.past _ ?_ | with_reducible refine CellF.drew ?_ | with_reducible refine CellF.drewN _ ?_))
    have c3_3_0 := q3_3_0.1
    have q3_3_1 : CellF w3 ⟨w.heap.size, 1, none⟩ (.int .i64 m) := (by refine CellF.keep hb3 ?_; repeat (first | with_reducible exact q2_2_1 | ((with_reducible refine CellF.at_ ?_ ?_); (first | (simp; done) | rfl); rfl) | with_reducible refine CellF.past _ ?_ | with_reducible refine CellF.drew ?_ | with_reducible refine CellF.drewN _ ?_))
    have c3_3_1 := q3_3_1.1
    have z3_3 : w.heap.size < w3.heap.size := ltc c3_3_0
    clear q2_2_0 c2_2_0 q2_2_1 c2_2_1 z2_2
    clear hbel2
    have hbel3 : Below w.heap.size w (w3.alloc (.cells #[.int .i64 x, .int .i64 y] 24)) := balloc ((by repeat (first | exact brefl _ | refine balloc ?_ _ | refine bdrewN ?_ _ | refine bset ?_ (by dsimp only; omega) _ | refine bstep ?_ (by assumption)))) _
    go_wp2_with fail
    refine (rGet_is _ _ _ X2 _ (HV.out.keep hbel3)).mono ?_
    rintro e w4 ⟨rfl, hb4⟩
    have q4_4_0 : CellF w4 ⟨w3.heap.size, 0, none⟩ (.int .i64 x) := (by refine CellF.keep hb4 ?_; (first | ((repeat (first | ((with_reducible refine CellF.at_ ?_ ?_); (first | (simp; done) | rfl); rfl) | with_reducible refine CellF.past _ ?_ | with_reducible refine CellF.drew ?_ | with_reducible refine CellF.drewN _ ?_)); done) | (refine ⟨?_, ?_⟩ <;> go_simp)))
    have c4_4_0 := q4_4_0.1
    have q4_4_1 : CellF w4 ⟨w3.heap.size, 1, none⟩ (.int .i64 y) := (by refine CellF.keep hb4 ?_; (first | ((repeat (first | ((with_reducible refine CellF.at_ ?_ ?_); (first | (simp; done) | rfl); rfl) | with_reducible refine CellF.past _ ?_ | with_reducible refine CellF.drew ?_ | with_reducible refine CellF.drewN _ ?_)); done) | (refine ⟨?_, ?_⟩ <;> go_simp)))
    have c4_4_1 := q4_4_1.1
    have z4_4 : w3.heap.size < w4.heap.size := ltc c4_4_0
    clear q3_3_0 c3_3_0 q3_3_1 c3_3_1 z3_3
    clear hbel3
    go_wp2_with fail
    refine (alive_is _).mono ?_
    rintro e w5 ⟨rfl, hb5⟩
    have q5_5_0 : CellF w5 ⟨w3.heap.size, 0, none⟩ (.int .i64 x) := (by refine CellF.keep hb5 ?_; repeat (first | with_reducible exact q4_4_0 | ((with_reducible refine CellF.at_ ?_ ?_); (first | (simp; done) | rfl); rfl) | with_reducible refine CellF.past _ ?_ | with_reducible refine CellF.drew ?_ | with_reducible refine CellF.drewN _ ?_))
    have c5_5_0 := q5_5_0.1
    have q5_5_1 : CellF w5 ⟨w3.heap.size, 1, none⟩ (.int .i64 y) := (by refine CellF.keep hb5 ?_; repeat (first | with_reducible exact q4_4_1 | ((with_reducible refine CellF.at_ ?_ ?_); (first | (simp; done) | rfl); rfl) | with_reducible refine CellF.past _ ?_ | with_reducible refine CellF.drew ?_ | with_reducible refine CellF.drewN _ ?_))
    have c5_5_1 := q5_5_1.1
    have z5_5 : w3.heap.size < w5.heap.size := ltc c5_5_0
    have q5_6_0 : CellF w5 ⟨w4.heap.size, 0, none⟩ (.int .i64 x) := (by refine CellF.keep hb5 ?_; (first | ((repeat (first | ((with_reducible refine CellF.at_ ?_ ?_); (first | (simp; done) | rfl); rfl) | with_reducible refine CellF.past _ ?_ | with_reducible refine CellF.drew ?_ | with_reducible refine CellF.drewN _ ?_)); done) | (refine ⟨?_, ?_⟩ <;> go_simp)))
    have c5_6_0 := q5_6_0.1
    have q5_6_1 : CellF w5 ⟨w4.heap.size, 1, none⟩ (.int .i64 y) := (by refine CellF.keep hb5 ?_; (first | ((repeat (first | ((with_reducible refine CellF.at_ ?_ ?_); (first | (simp; done) | rfl); rfl) | with_reducible refine CellF.past _ ?_ | with_reducible refine CellF.drew ?_ | with_reducible refine CellF.drewN _ ?_)); done) | (refine ⟨?_, ?_⟩ <;> go_simp)))
    have c5_6_1 := q5_6_1.1
    have z5_6 : w4.heap.size < w5.heap.size := ltc c5_6_0
    clear q4_4_0 c4_4_0 q4_4_1 c4_4_1 z4_4
    have hcn := run_convert_bytes_nil (P := Try.prog) w5 39 5 (by kernel_rfl) (by kernel_rfl) 0 0 9 (by kernel_rfl)
    all_goals (go_wp2; go_ret; exact ⟨rfl, (by repeat (first | exact brefl _ | refine balloc ?_ _ | refine bdrewN ?_ _ | refine bset ?_ (by dsimp only; omega) _ | refine bstep ?_ (by assumption)))⟩)
  | true =>
    go_enter Try.func9, Try.ntmps9
    go_wp2_with fail
    refine (Put_ten s m X3 _).mono ?_
    rintro e w1 ⟨b1, rfl, hb1, hbb1, hp1⟩
    have q1_1_0 : CellF w1 ⟨w.heap.size, 0, none⟩ (.int .i64 s) := (by refine CellF.keep hb1 ?_; (first | ((repeat (first | ((with_reducible refine CellF.at_ ?_ ?_); (first | (simp; done) | rfl); rfl) | with_reducible refine CellF.past _ ?_ | with_reducible refine CellF.drew ?_ | with_reducible refine CellF.drewN _ ?_)); done) | (refine ⟨?_, ?_⟩ <;> go_simp)))
    have c1_1_0 := q1_1_0.1
    have q1_1_1 : CellF w1 ⟨w.heap.size, 1, none⟩ (.int .i64 m) := (by refine CellF.keep hb1 ?_; (first | ((repeat (first | ((with_reducible refine CellF.at_ ?_ ?_); (first | (simp; done) | rfl); rfl) | with_reducible refine CellF.past _ ?_ | with_reducible refine CellF.drew ?_ | with_reducible refine CellF.drewN _ ?_)); done) | (refine ⟨?_, ?_⟩ <;> go_simp)))
    have c1_1_1 := q1_1_1.1
    have z1_1 : w.heap.size < w1.heap.size := ltc c1_1_0
    have HP1 := Lib.hid hp1
    clear hp1
    go_wp2_with fail
    refine (rPut_yes s m X3 _).mono ?_
    rintro e w2 ⟨b2, cap2, rfl, hb2, hp2⟩
    have q2_2_0 : CellF w2 ⟨w.heap.size, 0, none⟩ (.int .i64 s) := (by refine CellF.keep hb2 ?_; repeat (first | with_reducible exact q1_1_0 | ((with_reducible refine CellF.at_ ?_ ?_); (first | (simp; done) | rfl); rfl) | with_reducible refine CellF.past _ ?_ | with_reducible refine CellF.drew ?_ | with_reducible refine CellF.drewN _ ?_))
    have c2_2_0 := q2_2_0.1
    have q2_2_1 : CellF w2 ⟨w.heap.size, 1, none⟩ (.int .i64 m) := (by refine CellF.keep hb2 ?_; repeat (first | with_reducible exact q1_1_1 | ((with_reducible refine CellF.at_ ?_ ?_); (first | (simp; done) | rfl); rfl) | with_reducible refine CellF.past _ ?_ | with_reducible refine CellF.drew ?_ | with_reducible refine CellF.drewN _ ?_))
    have c2_2_1 := q2_2_1.1
    have z2_2 : w.heap.size < w2.heap.size := ltc c2_2_0
    clear q1_1_0 c1_1_0 q1_1_1 c1_1_1 z1_1
    have HP2 := Lib.hid hp2
    clear hp2
    have hbel2 : Below w.heap.size w w2 := (by repeat (first | exact brefl _ | refine balloc ?_ _ | refine bdrewN ?_ _ | refine bset ?_ (by dsimp only; omega) _ | refine bstep ?_ (by assumption)))
    go_wp2_with fail
    refine (Get_is _ _ _ X1 _ (HV.out.keep hbel2)).mono ?_
    rintro e w3 ⟨rfl, hb3⟩
    have q3_3_0 : CellF w3 ⟨w.heap.size, 0, none⟩ (.int .i64 s) := (by refine CellF.keep hb3 ?_; repeat (first | with_reducible exact q2_2_0 | ((with_reducible refine CellF.at_ ?_ ?_); (first | (simp; done) | rfl); rfl) | with_reducible refine CellF.past _ ?_ | with_reducible refine CellF.drew ?_ | with_reducible refine CellF.drewN _ ?_))
    have c3_3_0 := q3_3_0.1
    have q3_3_1 : CellF w3 ⟨w.heap.size, 1, none⟩ (.int .i64 m) := (by refine CellF.keep hb3 ?_; repeat (first | with_reducible exact q2_2_1 | ((with_reducible refine CellF.at_ ?_ ?_); (first | (simp; done) | rfl); rfl) | with_reducible refine CellF.past _ ?_ | with_reducible refine CellF.drew ?_ | with_reducible refine CellF.drewN _ ?_))
    have c3_3_1 := q3_3_1.1
    have z3_3 : w.heap.size < w3.heap.size := ltc c3_3_0
    clear q2_2_0 c2_2_0 q2_2_1 c2_2_1 z2_2
    clear hbel2
    have hbel3 : Below w.heap.size w (w3.alloc (.cells #[.int .i64 x, .int .i64 y] 24)) := balloc ((by repeat (first | exact brefl _ | refine balloc ?_ _ | refine bdrewN ?_ _ | refine bset ?_ (by dsimp only; omega) _ | refine bstep ?_ (by assumption)))) _
    go_wp2_with fail
    refine (rGet_is _ _ _ X2 _ (HV.out.keep hbel3)).mono ?_
    rintro e w4 ⟨rfl, hb4⟩
    have q4_4_0 : CellF w4 ⟨w3.heap.size, 0, none⟩ (.int .i64 x) := (by refine CellF.keep hb4 ?_; (first | ((repeat (first | ((with_reducible refine CellF.at_ ?_ ?_); (first | (simp; done) | rfl); rfl) | with_reducible refine CellF.past _ ?_ | with_reducible refine CellF.drew ?_ | with_reducible refine CellF.drewN _ ?_)); done) | (refine ⟨?_, ?_⟩ <;> go_simp)))
    have c4_4_0 := q4_4_0.1
    have q4_4_1 : CellF w4 ⟨w3.heap.size, 1, none⟩ (.int .i64 y) := (by refine CellF.keep hb4 ?_; (first | ((repeat (first | ((with_reducible refine CellF.at_ ?_ ?_); (first | (simp; done) | rfl); rfl) | with_reducible refine CellF.past _ ?_ | with_reducible refine CellF.drew ?_ | with_reducible refine CellF.drewN _ ?_)); done) | (refine ⟨?_, ?_⟩ <;> go_simp)))
    have c4_4_1 := q4_4_1.1
    have z4_4 : w3.heap.size < w4.heap.size := ltc c4_4_0
    clear q3_3_0 c3_3_0 q3_3_1 c3_3_1 z3_3
    clear hbel3
    go_wp2_with fail
    refine (alive_is _).mono ?_
    rintro e w5 ⟨rfl, hb5⟩
    have q5_5_0 : CellF w5 ⟨w3.heap.size, 0, none⟩ (.int .i64 x) := (by refine CellF.keep hb5 ?_; repeat (first | with_reducible exact q4_4_0 | ((with_reducible refine CellF.at_ ?_ ?_); (first | (simp; done) | rfl); rfl) | with_reducible refine CellF.past _ ?_ | with_reducible refine CellF.drew ?_ | with_reducible refine CellF.drewN _ ?_))
    have c5_5_0 := q5_5_0.1
    have q5_5_1 : CellF w5 ⟨w3.heap.size, 1, none⟩ (.int .i64 y) := (by refine CellF.keep hb5 ?_; repeat (first | with_reducible exact q4_4_1 | ((with_reducible refine CellF.at_ ?_ ?_); (first | (simp; done) | rfl); rfl) | with_reducible refine CellF.past _ ?_ | with_reducible refine CellF.drew ?_ | with_reducible refine CellF.drewN _ ?_))
    have c5_5_1 := q5_5_1.1
    have z5_5 : w3.heap.size < w5.heap.size := ltc c5_5_0
    have q5_6_0 : CellF w5 ⟨w4.heap.size, 0, none⟩ (.int .i64 x) := (by refine CellF.keep hb5 ?_; (first | ((repeat (first | ((with_reducible refine CellF.at_ ?_ ?_); (first | (simp; done) | rfl); rfl) | with_reducible refine CellF.past _ ?_ | with_reducible refine CellF.drew ?_ | with_reducible refine CellF.drewN _ ?_)); done) | (refine ⟨?_, ?_⟩ <;> go_simp)))
    have c5_6_0 := q5_6_0.1
    have q5_6_1 : CellF w5 ⟨w4.heap.size, 1, none⟩ (.int .i64 y) := (by refine CellF.keep hb5 ?_; (first | ((repeat (first | ((with_reducible refine CellF.at_ ?_ ?_); (first | (simp; done) | rfl); rfl) | with_reducible refine CellF.past _ ?_ | with_reducible refine CellF.drew ?_ | with_reducible refine CellF.drewN _ ?_)); done) | (refine ⟨?_, ?_⟩ <;> go_simp)))
    have c5_6_1 := q5_6_1.1
    have z5_6 : w4.heap.size < w5.heap.size := ltc c5_6_0
    clear q4_4_0 c4_4_0 q4_4_1 c4_4_1 z4_4
    have hpw : Below w2.heap.size w2 w5 := (by repeat (first | exact brefl _ | refine balloc ?_ _ | refine bdrewN ?_ _ | refine bset ?_ (by dsimp only; omega) _ | refine bstep ?_ (by assumption)))
    have hpv : Below w1.heap.size w1 w5 := (by repeat (first | exact brefl _ | refine balloc ?_ _ | refine bdrewN ?_ _ | refine bset ?_ (by dsimp only; omega) _ | refine bstep ?_ (by assumption)))
    have hc1 := conv_ten (s := s) (n := m) (b := b1) (cap := 10) (w := w5) (src := 39) (dst := 9) (e := 5) (by kernel_rfl) (by kernel_rfl) (by kernel_rfl) (fun i hi => (CellF.keep hpv (HP1.out i hi)).1)
    have hc2 := conv_ten (s := s) (n := m) (b := b2) (cap := cap2) (w := w5) (src := 39) (dst := 9) (e := 5) (by kernel_rfl) (by kernel_rfl) (by kernel_rfl) (fun i hi => (hpw.cell (p := ⟨b2, i, none⟩) (HP2.out i hi).1).trans (HP2.out i hi).2)
    obtain ⟨S, hS⟩ : ∃ S, strOfNums (tenL s m) = S := ⟨_, rfl⟩
    rw [hS] at hc1 hc2
    clear hS
    all_goals (go_wp2; go_ret; exact ⟨rfl, (by repeat (first | exact brefl _ | refine balloc ?_ _ | refine bdrewN ?_ _ | refine bset ?_ (by dsimp only; omega) _ | refine bstep ?_ (by assumption)))⟩)
end Go.Proofs.Ytoijjnhlmndhpaa
