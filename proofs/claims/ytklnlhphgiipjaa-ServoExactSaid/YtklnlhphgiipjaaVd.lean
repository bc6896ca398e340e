/-
  The walk of package servo's Observe.
-/
import Derived.Test.YtklnlhphgiipjaaVc
import Derived.Test.YtklnlhphgiipjaaSf
import Derived.StillTailTactics
namespace Go.Proofs.Ytklnlhphgiipjaa
open Go.RowKit

theorem SrvAt.past {u : World} {b : Nat} {lo hi : Int} {k : Bool} {a m p : Int} (o : Obj) (h : SrvAt u b lo hi k a m p) : SrvAt (u.alloc o) b lo hi k a m p := ⟨h.1.past o, h.2.1.past o, h.2.2.1.past o, h.2.2.2.1.past o, h.2.2.2.2.1.past o, h.2.2.2.2.2.past o⟩

set_option maxRecDepth 100000 in
set_option maxHeartbeats 8000000 in
theorem Observe_is (b : Nat) (lo hi : Int) (k : Bool) (a m p x y : Int) (z : Bool) (t lo' hi' : Int) (k' : Bool) (a' m' : Int) (r : Bool) (hm0 : 0 ≤ m) (hm1 : m ≤ 1000000) (H : Hid (sObs ⟨lo, hi, k⟩ a m p ⟨x, y, z⟩ t = (⟨lo', hi', k'⟩, a', m', r))) (w : World) (h : SrvAt w b lo hi k a m p) :
    Calls Try.prog 11 #[.pointer (some ⟨b, 0, none⟩), .agg #[.int .i64 x, .int .i64 y, .bool z], .int .i64 t] w fun e w' => e = .returned (.bool r) ∧ Only b w w' ∧ SrvAt w' b lo' hi' k' a' m' p := by
  have hx := H.out
  unfold sObs at hx
  obtain ⟨c, hc⟩ : ∃ c, sMay ⟨lo, hi, k⟩ a ⟨x, y, z⟩ t = c := ⟨_, rfl⟩
  have HM := Lib.hid hc
  obtain ⟨⟨r1, r2, r3⟩, hr⟩ : ∃ s, sRead ⟨lo, hi, k⟩ a p t = s := ⟨_, rfl⟩
  have HR := Lib.hid hr
  obtain ⟨⟨u1, u2, u3⟩, hu⟩ : ∃ s, spMeet ⟨r1, r2, r3⟩ ⟨x, y, z⟩ = s := ⟨_, rfl⟩
  have HU := Lib.hid hu
  rw [hc, hr, hu] at hx
  have HX := Lib.hid hx
  have qB_0 := h.1
  have qB_1 := h.2.1
  have qB_2 := h.2.2.1
  have qB_3 := h.2.2.2.1
  have qB_4 := h.2.2.2.2.1
  have qB_5 := h.2.2.2.2.2
  have cB_0 := qB_0.1
  have cB_1 := qB_1.1
  have cB_2 := qB_2.1
  have cB_3 := qB_3.1
  have cB_4 := qB_4.1
  have cB_5 := qB_5.1
  have zB := h.lt
  have hlt := h.lt
  clear h H hc hr hu hx
  have cA2 : (((w.alloc (.cells #[.pointer (some ⟨b, 0, none⟩)] 24)).alloc (.cells #[.int .i64 x, .int .i64 y, .bool z] 30)).alloc (.cells #[.int .i64 t] 3)).cell? ⟨b, 2, none⟩ = some (.bool k) := (CellF.past _ (CellF.past _ (CellF.past _ qB_2))).1
  have A0 : CellF ((((w.alloc (.cells #[.pointer (some ⟨b, 0, none⟩)] 24)).alloc (.cells #[.int .i64 x, .int .i64 y, .bool z] 30)).alloc (.cells #[.int .i64 t] 3)).alloc (.cells #[.bool k] 4)) ⟨b, 3, none⟩ (.int .i64 a) := CellF.past _ (CellF.past _ (CellF.past _ (CellF.past _ (qB_3))))
  have S0 : CellF ((((w.alloc (.cells #[.pointer (some ⟨b, 0, none⟩)] 24)).alloc (.cells #[.int .i64 x, .int .i64 y, .bool z] 30)).alloc (.cells #[.int .i64 t] 3)).alloc (.cells #[.bool k] 4)) ⟨w.heap.size, 0, none⟩ (.pointer (some ⟨b, 0, none⟩)) := CellF.past _ (CellF.past _ (CellF.past _ (CellF.at_ rfl rfl)))
  have K0 : CellF ((((w.alloc (.cells #[.pointer (some ⟨b, 0, none⟩)] 24)).alloc (.cells #[.int .i64 x, .int .i64 y, .bool z] 30)).alloc (.cells #[.int .i64 t] 3)).alloc (.cells #[.bool k] 4)) ⟨w.heap.size + 3, 0, none⟩ (.bool k) := CellF.at_ (by simp) rfl
  have T0 : CellF ((((w.alloc (.cells #[.pointer (some ⟨b, 0, none⟩)] 24)).alloc (.cells #[.int .i64 x, .int .i64 y, .bool z] 30)).alloc (.cells #[.int .i64 t] 3)).alloc (.cells #[.bool k] 4)) ⟨w.heap.size + 2, 0, none⟩ (.int .i64 t) := CellF.past _ (CellF.at_ (by simp) rfl)
  have O2 : CellF ((((w.alloc (.cells #[.pointer (some ⟨b, 0, none⟩)] 24)).alloc (.cells #[.int .i64 x, .int .i64 y, .bool z] 30)).alloc (.cells #[.int .i64 t] 3)).alloc (.cells #[.bool k] 4)) ⟨w.heap.size + 1, 2, none⟩ (.bool z) := CellF.past _ (CellF.past _ (CellF.at_ (by simp) rfl))
  have O1 : CellF ((((w.alloc (.cells #[.pointer (some ⟨b, 0, none⟩)] 24)).alloc (.cells #[.int .i64 x, .int .i64 y, .bool z] 30)).alloc (.cells #[.int .i64 t] 3)).alloc (.cells #[.bool k] 4)) ⟨w.heap.size + 1, 1, none⟩ (.int .i64 y) := CellF.past _ (CellF.past _ (CellF.at_ (by simp) rfl))
  have O0 : CellF ((((w.alloc (.cells #[.pointer (some ⟨b, 0, none⟩)] 24)).alloc (.cells #[.int .i64 x, .int .i64 y, .bool z] 30)).alloc (.cells #[.int .i64 t] 3)).alloc (.cells #[.bool k] 4)) ⟨w.heap.size + 1, 0, none⟩ (.int .i64 x) := CellF.past _ (CellF.past _ (CellF.at_ (by simp) rfl))
  go_enter Try.func11, Try.ntmps11
  go_wp2_with fail
  refine (may1_is b (w.heap.size + 1) (w.heap.size + 2) (w.heap.size + 3) w.heap.size ⟨lo, hi, k⟩ k a x y z t c rfl HM _ A0 O0 O1 O2 T0 K0 S0).mono ?_
  rintro e w1 ⟨rfl, hb1⟩
  have q1_1_0 : CellF w1 ⟨b, 0, none⟩ (.int .i64 lo) := (by refine CellF.keep hb1 ?_; repeat (first | with_reducible exact qB_0 | ((with_reducible refine CellF.at_ ?_ ?_); (first | (simp; done) | rfl); rfl) | with_reducible refine CellF.past _ ?_ | with_reducible refine CellF.drew ?_ | with_reducible refine CellF.drewN _ ?_))
  have c1_1_0 := q1_1_0.1
  have q1_1_1 : CellF w1 ⟨b, 1, none⟩ (.int .i64 hi) := (by refine CellF.keep hb1 ?_; repeat (first | with_reducible exact qB_1 | ((with_reducible refine CellF.at_ ?_ ?_); (first | (simp; done) | rfl); rfl) | with_reducible refine CellF.past _ ?_ | with_reducible refine CellF.drew ?_ | with_reducible refine CellF.drewN _ ?_))
  have c1_1_1 := q1_1_1.1
  have q1_1_2 : CellF w1 ⟨b, 2, none⟩ (.bool k) := (by refine CellF.keep hb1 ?_; repeat (first | with_reducible exact qB_2 | ((with_reducible refine CellF.at_ ?_ ?_); (first | (simp; done) | rfl); rfl) | with_reducible refine CellF.past _ ?_ | with_reducible refine CellF.drew ?_ | with_reducible refine CellF.drewN _ ?_))
  have c1_1_2 := q1_1_2.1
  have q1_1_3 : CellF w1 ⟨b, 3, none⟩ (.int .i64 a) := (by refine CellF.keep hb1 ?_; repeat (first | with_reducible exact qB_3 | ((with_reducible refine CellF.at_ ?_ ?_); (first | (simp; done) | rfl); rfl) | with_reducible refine CellF.past _ ?_ | with_reducible refine CellF.drew ?_ | with_reducible refine CellF.drewN _ ?_))
  have c1_1_3 := q1_1_3.1
  have q1_1_4 : CellF w1 ⟨b, 4, none⟩ (.int .i64 m) := (by refine CellF.keep hb1 ?_; repeat (first | with_reducible exact qB_4 | ((with_reducible refine CellF.at_ ?_ ?_); (first | (simp; done) | rfl); rfl) | with_reducible refine CellF.past _ ?_ | with_reducible refine CellF.drew ?_ | with_reducible refine CellF.drewN _ ?_))
  have c1_1_4 := q1_1_4.1
  have q1_1_5 : CellF w1 ⟨b, 5, none⟩ (.int .i64 p) := (by refine CellF.keep hb1 ?_; repeat (first | with_reducible exact qB_5 | ((with_reducible refine CellF.at_ ?_ ?_); (first | (simp; done) | rfl); rfl) | with_reducible refine CellF.past _ ?_ | with_reducible refine CellF.drew ?_ | with_reducible refine CellF.drewN _ ?_))
  have c1_1_5 := q1_1_5.1
  have z1_1 : b < w1.heap.size := ltc c1_1_0
  have q1_2_0 : CellF w1 ⟨w.heap.size, 0, none⟩ (.pointer (some ⟨b, 0, none⟩)) := (by refine CellF.keep hb1 ?_; (first | ((repeat (first | ((with_reducible refine CellF.at_ ?_ ?_); (first | (simp; done) | rfl); rfl) | with_reducible refine CellF.past _ ?_ | with_reducible refine CellF.drew ?_ | with_reducible refine CellF.drewN _ ?_)); done) | (refine ⟨?_, ?_⟩ <;> go_simp)))
  have c1_2_0 := q1_2_0.1
  have z1_2 : w.heap.size < w1.heap.size := ltc c1_2_0
  have q1_3_0 : CellF w1 ⟨(w.heap.size + 1), 0, none⟩ (.int .i64 x) := (by refine CellF.keep hb1 ?_; (first | ((repeat (first | ((with_reducible refine CellF.at_ ?_ ?_); (first | (simp; done) | rfl); rfl) | with_reducible refine CellF.past _ ?_ | with_reducible refine CellF.drew ?_ | with_reducible refine CellF.drewN _ ?_)); done) | (refine ⟨?_, ?_⟩ <;> go_simp)))
  have c1_3_0 := q1_3_0.1
  have q1_3_1 : CellF w1 ⟨(w.heap.size + 1), 1, none⟩ (.int .i64 y) := (by refine CellF.keep hb1 ?_; (first | ((repeat (first | ((with_reducible refine CellF.at_ ?_ ?_); (first | (simp; done) | rfl); rfl) | with_reducible refine CellF.past _ ?_ | with_reducible refine CellF.drew ?_ | with_reducible refine CellF.drewN _ ?_)); done) | (refine ⟨?_, ?_⟩ <;> go_simp)))
  have c1_3_1 := q1_3_1.1
  have q1_3_2 : CellF w1 ⟨(w.heap.size + 1), 2, none⟩ (.bool z) := (by refine CellF.keep hb1 ?_; (first | ((repeat (first | ((with_reducible refine CellF.at_ ?_ ?_); (first | (simp; done) | rfl); rfl) | with_reducible refine CellF.past _ ?_ | with_reducible refine CellF.drew ?_ | with_reducible refine CellF.drewN _ ?_)); done) | (refine ⟨?_, ?_⟩ <;> go_simp)))
  have c1_3_2 := q1_3_2.1
  have z1_3 : (w.heap.size + 1) < w1.heap.size := ltc c1_3_0
  have q1_4_0 : CellF w1 ⟨(w.heap.size + 2), 0, none⟩ (.int .i64 t) := (by refine CellF.keep hb1 ?_; (first | ((repeat (first | ((with_reducible refine CellF.at_ ?_ ?_); (first | (simp; done) | rfl); rfl) | with_reducible refine CellF.past _ ?_ | with_reducible refine CellF.drew ?_ | with_reducible refine CellF.drewN _ ?_)); done) | (refine ⟨?_, ?_⟩ <;> go_simp)))
  have c1_4_0 := q1_4_0.1
  have z1_4 : (w.heap.size + 2) < w1.heap.size := ltc c1_4_0
  have q1_5_0 : CellF w1 ⟨(w.heap.size + 3), 0, none⟩ (.bool k) := (by refine CellF.keep hb1 ?_; (first | ((repeat (first | ((with_reducible refine CellF.at_ ?_ ?_); (first | (simp; done) | rfl); rfl) | with_reducible refine CellF.past _ ?_ | with_reducible refine CellF.drew ?_ | with_reducible refine CellF.drewN _ ?_)); done) | (refine ⟨?_, ?_⟩ <;> go_simp)))
  have c1_5_0 := q1_5_0.1
  have z1_5 : (w.heap.size + 3) < w1.heap.size := ltc c1_5_0
  clear qB_0 cB_0 qB_1 cB_1 qB_2 cB_2 qB_3 cB_3 qB_4 cB_4 qB_5 cB_5 zB
  clear A0 O0 O1 O2 T0 K0 S0 cA2
  cases c with
  | false =>
    have hx := HX.out
    rw [if_neg (by decide)] at hx
    obtain ⟨hs, hx⟩ := Prod.mk.inj hx
    obtain ⟨h2, hx⟩ := Prod.mk.inj hx
    obtain ⟨h3, h4⟩ := Prod.mk.inj hx
    clear hx HX
    subst h2 h3 h4
    cases hs
    go_wp2
    go_ret
    exact ⟨rfl, Only.of (by repeat (first | exact brefl _ | refine balloc ?_ _ | refine bdrewN ?_ _ | refine bset ?_ (by dsimp only; omega) _ | refine bstep ?_ (by assumption))) (Nat.le_of_lt hlt), ⟨q1_1_0, q1_1_1, q1_1_2, q1_1_3, q1_1_4, q1_1_5⟩⟩
  | true =>
    go_wp2_with fail
    refine (Read_is b lo hi k a m p t r1 r2 r3 HR _ ⟨q1_1_0, q1_1_1, q1_1_2, q1_1_3, q1_1_4, q1_1_5⟩).mono ?_
    rintro e w2 ⟨rfl, hb2⟩
    have q2_6_0 : CellF w2 ⟨b, 0, none⟩ (.int .i64 lo) := (by refine CellF.keep hb2 ?_; repeat (first | with_reducible exact q1_1_0 | ((with_reducible refine CellF.at_ ?_ ?_); (first | (simp; done) | rfl); rfl) | with_reducible refine CellF.past _ ?_ | with_reducible refine CellF.drew ?_ | with_reducible refine CellF.drewN _ ?_))
    have c2_6_0 := q2_6_0.1
    have q2_6_1 : CellF w2 ⟨b, 1, none⟩ (.int .i64 hi) := (by refine CellF.keep hb2 ?_; repeat (first | with_reducible exact q1_1_1 | ((with_reducible refine CellF.at_ ?_ ?_); (first | (simp; done) | rfl); rfl) | with_reducible refine CellF.past _ ?_ | with_reducible refine CellF.drew ?_ | with_reducible refine CellF.drewN _ ?_))
    have c2_6_1 := q2_6_1.1
    have q2_6_2 : CellF w2 ⟨b, 2, none⟩ (.bool k) := (by refine CellF.keep hb2 ?_; repeat (first | with_reducible exact q1_1_2 | ((with_reducible refine CellF.at_ ?_ ?_); (first | (simp; done) | rfl); rfl) | with_reducible refine CellF.past _ ?_ | with_reducible refine CellF.drew ?_ | with_reducible refine CellF.drewN _ ?_))
    have c2_6_2 := q2_6_2.1
    have q2_6_3 : CellF w2 ⟨b, 3, none⟩ (.int .i64 a) := (by refine CellF.keep hb2 ?_; repeat (first | with_reducible exact q1_1_3 | ((with_reducible refine CellF.at_ ?_ ?_); (first | (simp; done) | rfl); rfl) | with_reducible refine CellF.past _ ?_ | with_reducible refine CellF.drew ?_ | with_reducible refine CellF.drewN _ ?_))
    have c2_6_3 := q2_6_3.1
    have q2_6_4 : CellF w2 ⟨b, 4, none⟩ (.int .i64 m) := (by refine CellF.keep hb2 ?_; repeat (first | with_reducible exact q1_1_4 | ((with_reducible refine CellF.at_ ?_ ?_); (first | (simp; done) | rfl); rfl) | with_reducible refine CellF.past _ ?_ | with_reducible refine CellF.drew ?_ | with_reducible refine CellF.drewN _ ?_))
    have c2_6_4 := q2_6_4.1
    have q2_6_5 : CellF w2 ⟨b, 5, none⟩ (.int .i64 p) := (by refine CellF.keep hb2 ?_; repeat (first | with_reducible exact q1_1_5 | ((with_reducible refine CellF.at_ ?_ ?_); (first | (simp; done) | rfl); rfl) | with_reducible refine CellF.past _ ?_ | with_reducible refine CellF.drew ?_ | with_reducible refine CellF.drewN _ ?_))
    have c2_6_5 := q2_6_5.1
    have z2_6 : b < w2.heap.size := ltc c2_6_0
    have q2_7_0 : CellF w2 ⟨w.heap.size, 0, none⟩ (.pointer (some ⟨b, 0, none⟩)) := (by refine CellF.keep hb2 ?_; repeat (first | with_reducible exact q1_2_0 | ((with_reducible refine CellF.at_ ?_ ?_); (first | (simp; done) | rfl); rfl) | with_reducible refine CellF.past _ ?_ | with_reducible refine CellF.drew ?_ | with_reducible refine CellF.drewN _ ?_))
    have c2_7_0 := q2_7_0.1
    have z2_7 : w.heap.size < w2.heap.size := ltc c2_7_0
    have q2_8_0 : CellF w2 ⟨(w.heap.size + 1), 0, none⟩ (.int .i64 x) := (by refine CellF.keep hb2 ?_; repeat (first | with_reducible exact q1_3_0 | ((with_reducible refine CellF.at_ ?_ ?_); (first | (simp; done) | rfl); rfl) | with_reducible refine CellF.past _ ?_ | with_reducible refine CellF.drew ?_ | with_reducible refine CellF.drewN _ ?_))
    have c2_8_0 := q2_8_0.1
    have q2_8_1 : CellF w2 ⟨(w.heap.size + 1), 1, none⟩ (.int .i64 y) := (by refine CellF.keep hb2 ?_; repeat (first | with_reducible exact q1_3_1 | ((with_reducible refine CellF.at_ ?_ ?_); (first | (simp; done) | rfl); rfl) | with_reducible refine CellF.past _ ?_ | with_reducible refine CellF.drew ?_ | with_reducible refine CellF.drewN _ ?_))
    have c2_8_1 := q2_8_1.1
    have q2_8_2 : CellF w2 ⟨(w.heap.size + 1), 2, none⟩ (.bool z) := (by refine CellF.keep hb2 ?_; repeat (first | with_reducible exact q1_3_2 | ((with_reducible refine CellF.at_ ?_ ?_); (first | (simp; done) | rfl); rfl) | with_reducible refine CellF.past _ ?_ | with_reducible refine CellF.drew ?_ | with_reducible refine CellF.drewN _ ?_))
    have c2_8_2 := q2_8_2.1
    have z2_8 : (w.heap.size + 1) < w2.heap.size := ltc c2_8_0
    have q2_9_0 : CellF w2 ⟨(w.heap.size + 2), 0, none⟩ (.int .i64 t) := (by refine CellF.keep hb2 ?_; repeat (first | with_reducible exact q1_4_0 | ((with_reducible refine CellF.at_ ?_ ?_); (first | (simp; done) | rfl); rfl) | with_reducible refine CellF.past _ ?_ | with_reducible refine CellF.drew ?_ | with_reducible refine CellF.drewN _ ?_))
    have c2_9_0 := q2_9_0.1
    have z2_9 : (w.heap.size + 2) < w2.heap.size := ltc c2_9_0
    have q2_10_0 : CellF w2 ⟨(w.heap.size + 3), 0, none⟩ (.bool k) := (by refine CellF.keep hb2 ?_; repeat (first | with_reducible exact q1_5_0 | ((with_reducible refine CellF.at_ ?_ ?_); (first | (simp; done) | rfl); rfl) | with_reducible refine CellF.past _ ?_ | with_reducible refine CellF.drew ?_ | with_reducible refine CellF.drewN _ ?_))
    have c2_10_0 := q2_10_0.1
    have z2_10 : (w.heap.size + 3) < w2.heap.size := ltc c2_10_0
    clear q1_1_0 c1_1_0 q1_1_1 c1_1_1 q1_1_2 c1_1_2 q1_1_3 c1_1_3 q1_1_4 c1_1_4 q1_1_5 c1_1_5 z1_1 q1_2_0 c1_2_0 z1_2 q1_3_0 c1_3_0 q1_3_1 c1_3_1 q1_3_2 c1_3_2 z1_3 q1_4_0 c1_4_0 z1_4 q1_5_0 c1_5_0 z1_5
    go_wp2_with fail
    refine (Meet_is _ _ _ _ _ _ _ _ _ HU _).mono ?_
    rintro e w3 ⟨rfl, hb3⟩
    have q3_11_0 : CellF w3 ⟨b, 0, none⟩ (.int .i64 lo) := (by refine CellF.keep hb3 ?_; repeat (first | with_reducible exact q2_6_0 | ((with_reducible refine CellF.at_ ?_ ?_); (first | (simp; done) | rfl); rfl) | with_reducible refine CellF.past _ ?_ | with_reducible refine CellF.drew ?_ | with_reducible refine CellF.drewN _ ?_))
    have c3_11_0 := q3_11_0.1
    have q3_11_1 : CellF w3 ⟨b, 1, none⟩ (.int .i64 hi) := (by refine CellF.keep hb3 ?_; repeat (first | with_reducible exact q2_6_1 | ((with_reducible refine CellF.at_ ?_ ?_); (first | (simp; done) | rfl); rfl) | with_reducible refine CellF.past _ ?_ | with_reducible refine CellF.drew ?_ | with_reducible refine CellF.drewN _ ?_))
    have c3_11_1 := q3_11_1.1
    have q3_11_2 : CellF w3 ⟨b, 2, none⟩ (.bool k) := (by refine CellF.keep hb3 ?_; repeat (first | with_reducible exact q2_6_2 | ((with_reducible refine CellF.at_ ?_ ?_); (first | (simp; done) | rfl); rfl) | with_reducible refine CellF.past _ ?_ | with_reducible refine CellF.drew ?_ | with_reducible refine CellF.drewN _ ?_))
    have c3_11_2 := q3_11_2.1
    have q3_11_3 : CellF w3 ⟨b, 3, none⟩ (.int .i64 a) := (by refine CellF.keep hb3 ?_; repeat (first | with_reducible exact q2_6_3 | ((with_reducible refine CellF.at_ ?_ ?_); (first | (simp; done) | rfl); rfl) | with_reducible refine CellF.past _ ?_ | with_reducible refine CellF.drew ?_ | with_reducible refine CellF.drewN _ ?_))
    have c3_11_3 := q3_11_3.1
    have q3_11_4 : CellF w3 ⟨b, 4, none⟩ (.int .i64 m) := (by refine CellF.keep hb3 ?_; repeat (first | with_reducible exact q2_6_4 | ((with_reducible refine CellF.at_ ?_ ?_); (first | (simp; done) | rfl); rfl) | with_reducible refine CellF.past _ ?_ | with_reducible refine CellF.drew ?_ | with_reducible refine CellF.drewN _ ?_))
    have c3_11_4 := q3_11_4.1
    have q3_11_5 : CellF w3 ⟨b, 5, none⟩ (.int .i64 p) := (by refine CellF.keep hb3 ?_; repeat (first | with_reducible exact q2_6_5 | ((with_reducible refine CellF.at_ ?_ ?_); (first | (simp; done) | rfl); rfl) | with_reducible refine CellF.past _ ?_ | with_reducible refine CellF.drew ?_ | with_reducible refine CellF.drewN _ ?_))
    have c3_11_5 := q3_11_5.1
    have z3_11 : b < w3.heap.size := ltc c3_11_0
    have q3_12_0 : CellF w3 ⟨w.heap.size, 0, none⟩ (.pointer (some ⟨b, 0, none⟩)) := (by refine CellF.keep hb3 ?_; repeat (first | with_reducible exact q2_7_0 | ((with_reducible refine CellF.at_ ?_ ?_); (first | (simp; done) | rfl); rfl) | with_reducible refine CellF.past _ ?_ | with_reducible refine CellF.drew ?_ | with_reducible refine CellF.drewN _ ?_))
    have c3_12_0 := q3_12_0.1
    have z3_12 : w.heap.size < w3.heap.size := ltc c3_12_0
    have q3_13_0 : CellF w3 ⟨(w.heap.size + 1), 0, none⟩ (.int .i64 x) := (by refine CellF.keep hb3 ?_; repeat (first | with_reducible exact q2_8_0 | ((with_reducible refine CellF.at_ ?_ ?_); (first | (simp; done) | rfl); rfl) | with_reducible refine CellF.past _ ?_ | with_reducible refine CellF.drew ?_ | with_reducible refine CellF.drewN _ ?_))
    have c3_13_0 := q3_13_0.1
    have q3_13_1 : CellF w3 ⟨(w.heap.size + 1), 1, none⟩ (.int .i64 y) := (by refine CellF.keep hb3 ?_; repeat (first | with_reducible exact q2_8_1 | ((with_reducible refine CellF.at_ ?_ ?_); (first | (simp; done) | rfl); rfl) | with_reducible refine CellF.past _ ?_ | with_reducible refine CellF.drew ?_ | with_reducible refine CellF.drewN _ ?_))
    have c3_13_1 := q3_13_1.1
    have q3_13_2 : CellF w3 ⟨(w.heap.size + 1), 2, none⟩ (.bool z) := (by refine CellF.keep hb3 ?_; repeat (first | with_reducible exact q2_8_2 | ((with_reducible refine CellF.at_ ?_ ?_); (first | (simp; done) | rfl); rfl) | with_reducible refine CellF.past _ ?_ | with_reducible refine CellF.drew ?_ | with_reducible refine CellF.drewN _ ?_))
    have c3_13_2 := q3_13_2.1
    have z3_13 : (w.heap.size + 1) < w3.heap.size := ltc c3_13_0
    have q3_14_0 : CellF w3 ⟨(w.heap.size + 2), 0, none⟩ (.int .i64 t) := (by refine CellF.keep hb3 ?_; repeat (first | with_reducible exact q2_9_0 | ((with_reducible refine CellF.at_ ?_ ?_); (first | (simp; done) | rfl); rfl) | with_reducible refine CellF.past _ ?_ | with_reducible refine CellF.drew ?_ | with_reducible refine CellF.drewN _ ?_))
    have c3_14_0 := q3_14_0.1
    have z3_14 : (w.heap.size + 2) < w3.heap.size := ltc c3_14_0
    have q3_15_0 : CellF w3 ⟨(w.heap.size + 3), 0, none⟩ (.bool k) := (by refine CellF.keep hb3 ?_; repeat (first | with_reducible exact q2_10_0 | ((with_reducible refine CellF.at_ ?_ ?_); (first | (simp; done) | rfl); rfl) | with_reducible refine CellF.past _ ?_ | with_reducible refine CellF.drew ?_ | with_reducible refine CellF.drewN _ ?_))
    have c3_15_0 := q3_15_0.1
    have z3_15 : (w.heap.size + 3) < w3.heap.size := ltc c3_15_0
    have q3_16_0 : CellF w3 ⟨w2.heap.size, 0, none⟩ (.int .i64 r1) := (by refine CellF.keep hb3 ?_; (first | ((repeat (first | ((with_reducible refine CellF.at_ ?_ ?_); (first | (simp; done) | rfl); rfl) | with_reducible refine CellF.past _ ?_ | with_reducible refine CellF.drew ?_ | with_reducible refine CellF.drewN _ ?_)); done) | (refine ⟨?_, ?_⟩ <;> go_simp)))
    have c3_16_0 := q3_16_0.1
    have q3_16_1 : CellF w3 ⟨w2.heap.size, 1, none⟩ (.int .i64 r2) := (by refine CellF.keep hb3 ?_; (first | ((repeat (first | ((with_reducible refine CellF.at_ ?_ ?_); (first | (simp; done) | rfl); rfl) | with_reducible refine CellF.past _ ?_ | with_reducible refine CellF.drew ?_ | with_reducible refine CellF.drewN _ ?_)); done) | (refine ⟨?_, ?_⟩ <;> go_simp)))
    have c3_16_1 := q3_16_1.1
    have q3_16_2 : CellF w3 ⟨w2.heap.size, 2, none⟩ (.bool r3) := (by refine CellF.keep hb3 ?_; (first | ((repeat (first | ((with_reducible refine CellF.at_ ?_ ?_); (first | (simp; done) | rfl); rfl) | with_reducible refine CellF.past _ ?_ | with_reducible refine CellF.drew ?_ | with_reducible refine CellF.drewN _ ?_)); done) | (refine ⟨?_, ?_⟩ <;> go_simp)))
    have c3_16_2 := q3_16_2.1
    have z3_16 : w2.heap.size < w3.heap.size := ltc c3_16_0
    clear q2_6_0 c2_6_0 q2_6_1 c2_6_1 q2_6_2 c2_6_2 q2_6_3 c2_6_3 q2_6_4 c2_6_4 q2_6_5 c2_6_5 z2_6 q2_7_0 c2_7_0 z2_7 q2_8_0 c2_8_0 q2_8_1 c2_8_1 q2_8_2 c2_8_2 z2_8 q2_9_0 c2_9_0 z2_9 q2_10_0 c2_10_0 z2_10
    cases r3 with
    | false =>
      have hx : ((⟨x, y, z⟩ : Sp), t, (1 : Int), !k) = (⟨lo', hi', k'⟩, a', m', r) := HX.out
      obtain ⟨hs, hx⟩ := Prod.mk.inj hx
      obtain ⟨h2, hx⟩ := Prod.mk.inj hx
      obtain ⟨h3, h4⟩ := Prod.mk.inj hx
      clear hx HX
      subst h2 h3 h4
      cases hs
      have f3_11_0 := q3_11_0.2
      have f3_11_1 := q3_11_1.2
      have f3_11_2 := q3_11_2.2
      have f3_11_3 := q3_11_3.2
      have f3_11_4 := q3_11_4.2
      have hks := known_sets x y z t 1 (show SrvAt w3 b lo hi k a m p from ⟨q3_11_0, q3_11_1, q3_11_2, q3_11_3, q3_11_4, q3_11_5⟩)
      have HKS := Lib.hid hks
      clear hks
      have hw3 : Only b w w3 := Only.of (by repeat (first | exact brefl _ | refine balloc ?_ _ | refine bdrewN ?_ _ | refine bset ?_ (by dsimp only; omega) _ | refine bstep ?_ (by assumption))) (Nat.le_of_lt hlt)
      have hl3 : b < w3.heap.size := z3_11
      go_wp2
      go_ret
      exact ⟨rfl, hw3.trans (HKS.out.2.trans (Only.of (balloc (brefl _) _) (by simp [World.size_setCell]; omega))), SrvAt.past _ HKS.out.1⟩
    | true =>
      cases u3 with
      | false =>
        have hx : ((⟨x, y, z⟩ : Sp), t, (1 : Int), !k) = (⟨lo', hi', k'⟩, a', m', r) := HX.out
        obtain ⟨hs, hx⟩ := Prod.mk.inj hx
        obtain ⟨h2, hx⟩ := Prod.mk.inj hx
        obtain ⟨h3, h4⟩ := Prod.mk.inj hx
        clear hx HX
        subst h2 h3 h4
        cases hs
        have f3_11_0 := q3_11_0.2
        have f3_11_1 := q3_11_1.2
        have f3_11_2 := q3_11_2.2
        have f3_11_3 := q3_11_3.2
        have f3_11_4 := q3_11_4.2
        have hks := known_sets x y z t 1 (show SrvAt w3 b lo hi k a m p from ⟨q3_11_0, q3_11_1, q3_11_2, q3_11_3, q3_11_4, q3_11_5⟩)
        have HKS := Lib.hid hks
        clear hks
        have hw3 : Only b w w3 := Only.of (by repeat (first | exact brefl _ | refine balloc ?_ _ | refine bdrewN ?_ _ | refine bset ?_ (by dsimp only; omega) _ | refine bstep ?_ (by assumption))) (Nat.le_of_lt hlt)
        have hl3 : b < w3.heap.size := z3_11
        go_wp2
        go_ret
        exact ⟨rfl, hw3.trans (HKS.out.2.trans (Only.of (balloc (brefl _) _) (by simp [World.size_setCell]; omega))), SrvAt.past _ HKS.out.1⟩
      | true =>
        have hx : ((⟨u1, u2, true⟩ : Sp), t, m + 1, true) = (⟨lo', hi', k'⟩, a', m', r) := HX.out
        obtain ⟨hs, hx⟩ := Prod.mk.inj hx
        obtain ⟨h2, hx⟩ := Prod.mk.inj hx
        obtain ⟨h3, h4⟩ := Prod.mk.inj hx
        clear hx HX
        subst h2 h3 h4
        cases hs
        have f3_11_0 := q3_11_0.2
        have f3_11_1 := q3_11_1.2
        have f3_11_2 := q3_11_2.2
        have f3_11_3 := q3_11_3.2
        have f3_11_4 := q3_11_4.2
        have hks := known_sets lo' hi' true t (m + 1) (show SrvAt w3 b lo hi k a m p from ⟨q3_11_0, q3_11_1, q3_11_2, q3_11_3, q3_11_4, q3_11_5⟩)
        have HKS := Lib.hid hks
        clear hks
        have hw3 : Only b w w3 := Only.of (by repeat (first | exact brefl _ | refine balloc ?_ _ | refine bdrewN ?_ _ | refine bset ?_ (by dsimp only; omega) _ | refine bstep ?_ (by assumption))) (Nat.le_of_lt hlt)
        have hl3 : b < w3.heap.size := z3_11
        go_wp2_with fail
        skip
        generalize hz : w3.alloc (.cells #[.int .i64 lo', .int .i64 hi', .bool true] 30) = zw
        have hZ : Below w3.heap.size w3 zw := by rw [← hz]; exact balloc (brefl _) _
        have e0 := CellF.keep hZ q3_11_0
        have ec0 := e0.1
        have e1 := CellF.keep hZ q3_11_1
        have ec1 := e1.1
        have e2 := CellF.keep hZ q3_11_2
        have ec2 := e2.1
        have e3 := CellF.keep hZ q3_11_3
        have ec3 := e3.1
        have e4 := CellF.keep hZ q3_11_4
        have ec4 := e4.1
        have e5 := CellF.keep hZ q3_11_5
        have ec5 := e5.1
        have ep := CellF.keep hZ q3_12_0
        have epc := ep.1
        have et := CellF.keep hZ q3_14_0
        have etc := et.1
        have eu0 : CellF zw ⟨w3.heap.size, 0, none⟩ (.int .i64 lo') := by rw [← hz]; exact CellF.at_ rfl rfl
        have euc0 := eu0.1
        have eu1 : CellF zw ⟨w3.heap.size, 1, none⟩ (.int .i64 hi') := by rw [← hz]; exact CellF.at_ rfl rfl
        have euc1 := eu1.1
        have eu2 : CellF zw ⟨w3.heap.size, 2, none⟩ (.bool true) := by rw [← hz]; exact CellF.at_ rfl rfl
        have euc2 := eu2.1
        have hzw : Only b w zw := hw3.trans (Only.of hZ (Nat.le_of_lt hl3))
        have hbz : b < zw.heap.size := e0.lt
        clear hz
        have hwm : IntKind.i64.wrap (m + 1) = m + 1 := by rw [IntKind.wrap_i64]; omega
        refine wp_region_inv (by kernel_rfl) (fun ls ac w' => ∃ v43 v44 v45 v46 v47 v48 v49 v50 v51 v52 v53 v54, ac = ⟨#[.pointer (some ⟨b, 0, none⟩), .agg #[.int .i64 x, .int .i64 y, .bool z], .int .i64 t, .pointer (some ⟨w.heap.size, 0, none⟩), .pointer (some ⟨w.heap.size + 1, 0, none⟩), .pointer (some ⟨w.heap.size + 1 + 1, 0, none⟩), .bool false, .pointer (some ⟨w.heap.size + 1 + 1 + 1, 0, none⟩), .func (.func 28) #[] #[.pointer (some ⟨w.heap.size + 1, 0, none⟩), .pointer (some ⟨w.heap.size + 1 + 1, 0, none⟩), .pointer (some ⟨w.heap.size + 1 + 1 + 1, 0, none⟩), .pointer (some ⟨w.heap.size, 0, none⟩)], .pointer (some ⟨w2.heap.size, 0, none⟩), .pointer (some ⟨w3.heap.size, 0, none⟩), .pointer (some ⟨b, 0, none⟩), .pointer (some ⟨b, 0, none⟩), .pointer (some ⟨b, 0, none⟩), .pointer (some ⟨b, 0, none⟩), .pointer (some ⟨b, 2, none⟩), .bool k, .func (.func 28) #[] #[.pointer (some ⟨w.heap.size + 1, 0, none⟩), .pointer (some ⟨w.heap.size + 1 + 1, 0, none⟩), .pointer (some ⟨w.heap.size + 1 + 1 + 1, 0, none⟩), .pointer (some ⟨w.heap.size, 0, none⟩)], .func (.func 28) #[] #[.pointer (some ⟨w.heap.size + 1, 0, none⟩), .pointer (some ⟨w.heap.size + 1 + 1, 0, none⟩), .pointer (some ⟨w.heap.size + 1 + 1 + 1, 0, none⟩), .pointer (some ⟨w.heap.size, 0, none⟩)], .bool true, .bool false, .pointer (some ⟨b, 0, none⟩), .int .i64 t, .agg #[.int .i64 r1, .int .i64 r2, .bool true], .agg #[.int .i64 r1, .int .i64 r2, .bool true], .agg #[.int .i64 x, .int .i64 y, .bool z], .agg #[.int .i64 lo', .int .i64 hi', .bool true], .pointer (some ⟨w2.heap.size, 2, none⟩), .bool true, .bool false, .bool false, .pointer (some ⟨w3.heap.size, 2, none⟩), .bool true, .bool false, .bool false, undef, undef, undef, undef, undef, undef, undef, undef, v43, v44, v45, v46, v47, v48, v49, v50, v51, v52, v53, v54], []⟩ ∧ ls.size = 13 ∧ (ls.getD 12 false = false → Below zw.heap.size zw w') ∧ (ls.getD 0 false = true → v43 = .pointer (some ⟨b, 0, none⟩)) ∧ (ls.getD 1 false = true → v44 = .agg #[.int .i64 lo', .int .i64 hi', .bool true]) ∧ (ls.getD 2 false = true → v45 = .int .i64 t) ∧ (ls.getD 3 false = true → v46 = .pointer (some ⟨b, 0, none⟩)) ∧ (ls.getD 4 false = true → v47 = .pointer (some ⟨b, 0, none⟩)) ∧ (ls.getD 5 false = true → v48 = .pointer (some ⟨b, 0, none⟩)) ∧ (ls.getD 6 false = true → v49 = .pointer (some ⟨b, 4, none⟩)) ∧ (ls.getD 7 false = true → v50 = .int .i64 m) ∧ (ls.getD 8 false = true → v51 = .int .i64 (m + 1)) ∧ (ls.getD 9 false = true → v52 = .agg #[.int .i64 lo', .int .i64 hi', .bool true, .int .i64 t, .int .i64 (m + 1)]) ∧ (ls.getD 10 false = true → v53 = .pointer (some ⟨b, 0, none⟩)) ∧ (ls.getD 11 false = true → v54 = .pointer (some ⟨b, 0, none⟩)) ∧ (ls.getD 4 false = true → ls.getD 3 false = true ∧ True) ∧ (ls.getD 5 false = true → ls.getD 4 false = true ∧ True) ∧ (ls.getD 6 false = true → ls.getD 5 false = true ∧ True) ∧ (ls.getD 7 false = true → ls.getD 6 false = true ∧ True) ∧ (ls.getD 8 false = true → ls.getD 7 false = true ∧ True) ∧ (ls.getD 9 false = true → ls.getD 1 false = true ∧ ls.getD 2 false = true ∧ ls.getD 8 false = true ∧ True) ∧ (ls.getD 10 false = true → ls.getD 0 false = true ∧ True) ∧ (ls.getD 11 false = true → ls.getD 10 false = true ∧ True) ∧ (ls.getD 12 false = true → Only b zw w' ∧ SrvAt w' b lo' hi' true t (m + 1) p) ∧ (ls.getD 12 false = true → ∀ i, i < 13 → ls.getD i false = true)) ?_ ?_ ?_
        · exact ⟨_, _, _, _, _, _, _, _, _, _, _, _, rfl, rfl, fun _ => bdrew (brefl _), fun h => (by cases h), fun h => (by cases h), fun h => (by cases h), fun h => (by cases h), fun h => (by cases h), fun h => (by cases h), fun h => (by cases h), fun h => (by cases h), fun h => (by cases h), fun h => (by cases h), fun h => (by cases h), fun h => (by cases h), fun h => (by cases h), fun h => (by cases h), fun h => (by cases h), fun h => (by cases h), fun h => (by cases h), fun h => (by cases h), fun h => (by cases h), fun h => (by cases h), fun h => (by cases h), fun h => (by cases h)⟩
        · intro i hii
          have hin : i < 13 := hii
          have hor : i = 0 ∨ i = 1 ∨ i = 2 ∨ i = 3 ∨ i = 4 ∨ i = 5 ∨ i = 6 ∨ i = 7 ∨ i = 8 ∨ i = 9 ∨ i = 10 ∨ i = 11 ∨ i = 12 := (by decide : ∀ i : Nat, i < 13 → (i = 0 ∨ i = 1 ∨ i = 2 ∨ i = 3 ∨ i = 4 ∨ i = 5 ∨ i = 6 ∨ i = 7 ∨ i = 8 ∨ i = 9 ∨ i = 10 ∨ i = 11 ∨ i = 12)) i hin
          rcases hor with rfl | rfl | rfl | rfl | rfl | rfl | rfl | rfl | rfl | rfl | rfl | rfl | rfl
          · rintro ls ac w' hr ⟨v43, v44, v45, v46, v47, v48, v49, v50, v51, v52, v53, v54, rfl, hl, hB', zg0, zg1, zg2, zg3, zg4, zg5, zg6, zg7, zg8, zg9, zg10, zg11, zc4, zc5, zc6, zc7, zc8, zc9, zc10, zc11, hS, hK⟩
            have hs0 : ls.getD 12 false = false := by cases hc : ls.getD 12 false with | false => rfl | true => (exfalso; have hz := hK hc 0 (by decide); have hn := (ready_dep hr rfl).1; rw [getD_both hz] at hn; cases hn)
            have hB := hB' hs0
            have a0 := (hB.cell (ltc epc)).trans epc
            have a1 := (hB.cell (ltc euc0)).trans euc0
            have a2 := (hB.cell (ltc euc1)).trans euc1
            have a3 := (hB.cell (ltc euc2)).trans euc2
            have a4 := (hB.cell (ltc etc)).trans etc
            have a5 := (hB.cell (ltc ec4)).trans ec4
            refine wpOp_step rfl (fun K hK => ?_)
            clear hr
            go_simp
            refine hK _ _ ?_
            simp only [getD_own (l := ls) (i := 0) (by omega), getD_set ls (i := 0) (j := 1) (by decide), getD_set ls (i := 0) (j := 2) (by decide), getD_set ls (i := 0) (j := 3) (by decide), getD_set ls (i := 0) (j := 4) (by decide), getD_set ls (i := 0) (j := 5) (by decide), getD_set ls (i := 0) (j := 6) (by decide), getD_set ls (i := 0) (j := 7) (by decide), getD_set ls (i := 0) (j := 8) (by decide), getD_set ls (i := 0) (j := 9) (by decide), getD_set ls (i := 0) (j := 10) (by decide), getD_set ls (i := 0) (j := 11) (by decide), getD_set ls (i := 0) (j := 12) (by decide)]
            exact ⟨_, v44, v45, v46, v47, v48, v49, v50, v51, v52, v53, v54, rfl, by simp [hl], fun _ => hB, fun _ => rfl, zg1, zg2, zg3, zg4, zg5, zg6, zg7, zg8, zg9, zg10, zg11, zc4, zc5, zc6, zc7, zc8, zc9, fun h => ⟨(by first | rfl | trivial), trivial⟩, zc11, fun h => (by rw [hs0] at h; cases h), fun h => (by rw [hs0] at h; cases h)⟩
          · rintro ls ac w' hr ⟨v43, v44, v45, v46, v47, v48, v49, v50, v51, v52, v53, v54, rfl, hl, hB', zg0, zg1, zg2, zg3, zg4, zg5, zg6, zg7, zg8, zg9, zg10, zg11, zc4, zc5, zc6, zc7, zc8, zc9, zc10, zc11, hS, hK⟩
            have hs0 : ls.getD 12 false = false := by cases hc : ls.getD 12 false with | false => rfl | true => (exfalso; have hz := hK hc 1 (by decide); have hn := (ready_dep hr rfl).1; rw [getD_both hz] at hn; cases hn)
            have hB := hB' hs0
            have a0 := (hB.cell (ltc epc)).trans epc
            have a1 := (hB.cell (ltc euc0)).trans euc0
            have a2 := (hB.cell (ltc euc1)).trans euc1
            have a3 := (hB.cell (ltc euc2)).trans euc2
            have a4 := (hB.cell (ltc etc)).trans etc
            have a5 := (hB.cell (ltc ec4)).trans ec4
            refine wpOp_step rfl (fun K hK => ?_)
            clear hr
            go_simp
            refine hK _ _ ?_
            simp only [getD_own (l := ls) (i := 1) (by omega), getD_set ls (i := 1) (j := 0) (by decide), getD_set ls (i := 1) (j := 2) (by decide), getD_set ls (i := 1) (j := 3) (by decide), getD_set ls (i := 1) (j := 4) (by decide), getD_set ls (i := 1) (j := 5) (by decide), getD_set ls (i := 1) (j := 6) (by decide), getD_set ls (i := 1) (j := 7) (by decide), getD_set ls (i := 1) (j := 8) (by decide), getD_set ls (i := 1) (j := 9) (by decide), getD_set ls (i := 1) (j := 10) (by decide), getD_set ls (i := 1) (j := 11) (by decide), getD_set ls (i := 1) (j := 12) (by decide)]
            exact ⟨v43, _, v45, v46, v47, v48, v49, v50, v51, v52, v53, v54, rfl, by simp [hl], fun _ => hB, zg0, fun _ => rfl, zg2, zg3, zg4, zg5, zg6, zg7, zg8, zg9, zg10, zg11, zc4, zc5, zc6, zc7, zc8, fun h => ⟨(by first | rfl | trivial), (zc9 h).2.1, (zc9 h).2.2.1, trivial⟩, zc10, zc11, fun h => (by rw [hs0] at h; cases h), fun h => (by rw [hs0] at h; cases h)⟩
          · rintro ls ac w' hr ⟨v43, v44, v45, v46, v47, v48, v49, v50, v51, v52, v53, v54, rfl, hl, hB', zg0, zg1, zg2, zg3, zg4, zg5, zg6, zg7, zg8, zg9, zg10, zg11, zc4, zc5, zc6, zc7, zc8, zc9, zc10, zc11, hS, hK⟩
            have hs0 : ls.getD 12 false = false := by cases hc : ls.getD 12 false with | false => rfl | true => (exfalso; have hz := hK hc 2 (by decide); have hn := (ready_dep hr rfl).1; rw [getD_both hz] at hn; cases hn)
            have hB := hB' hs0
            have a0 := (hB.cell (ltc epc)).trans epc
            have a1 := (hB.cell (ltc euc0)).trans euc0
            have a2 := (hB.cell (ltc euc1)).trans euc1
            have a3 := (hB.cell (ltc euc2)).trans euc2
            have a4 := (hB.cell (ltc etc)).trans etc
            have a5 := (hB.cell (ltc ec4)).trans ec4
            refine wpOp_step rfl (fun K hK => ?_)
            clear hr
            go_simp
            refine hK _ _ ?_
            simp only [getD_own (l := ls) (i := 2) (by omega), getD_set ls (i := 2) (j := 0) (by decide), getD_set ls (i := 2) (j := 1) (by decide), getD_set ls (i := 2) (j := 3) (by decide), getD_set ls (i := 2) (j := 4) (by decide), getD_set ls (i := 2) (j := 5) (by decide), getD_set ls (i := 2) (j := 6) (by decide), getD_set ls (i := 2) (j := 7) (by decide), getD_set ls (i := 2) (j := 8) (by decide), getD_set ls (i := 2) (j := 9) (by decide), getD_set ls (i := 2) (j := 10) (by decide), getD_set ls (i := 2) (j := 11) (by decide), getD_set ls (i := 2) (j := 12) (by decide)]
            exact ⟨v43, v44, _, v46, v47, v48, v49, v50, v51, v52, v53, v54, rfl, by simp [hl], fun _ => hB, zg0, zg1, fun _ => rfl, zg3, zg4, zg5, zg6, zg7, zg8, zg9, zg10, zg11, zc4, zc5, zc6, zc7, zc8, fun h => ⟨(zc9 h).1, (by first | rfl | trivial), (zc9 h).2.2.1, trivial⟩, zc10, zc11, fun h => (by rw [hs0] at h; cases h), fun h => (by rw [hs0] at h; cases h)⟩
          · rintro ls ac w' hr ⟨v43, v44, v45, v46, v47, v48, v49, v50, v51, v52, v53, v54, rfl, hl, hB', zg0, zg1, zg2, zg3, zg4, zg5, zg6, zg7, zg8, zg9, zg10, zg11, zc4, zc5, zc6, zc7, zc8, zc9, zc10, zc11, hS, hK⟩
            have hs0 : ls.getD 12 false = false := by cases hc : ls.getD 12 false with | false => rfl | true => (exfalso; have hz := hK hc 3 (by decide); have hn := (ready_dep hr rfl).1; rw [getD_both hz] at hn; cases hn)
            have hB := hB' hs0
            have a0 := (hB.cell (ltc epc)).trans epc
            have a1 := (hB.cell (ltc euc0)).trans euc0
            have a2 := (hB.cell (ltc euc1)).trans euc1
            have a3 := (hB.cell (ltc euc2)).trans euc2
            have a4 := (hB.cell (ltc etc)).trans etc
            have a5 := (hB.cell (ltc ec4)).trans ec4
            refine wpOp_step rfl (fun K hK => ?_)
            clear hr
            go_simp
            refine hK _ _ ?_
            simp only [getD_own (l := ls) (i := 3) (by omega), getD_set ls (i := 3) (j := 0) (by decide), getD_set ls (i := 3) (j := 1) (by decide), getD_set ls (i := 3) (j := 2) (by decide), getD_set ls (i := 3) (j := 4) (by decide), getD_set ls (i := 3) (j := 5) (by decide), getD_set ls (i := 3) (j := 6) (by decide), getD_set ls (i := 3) (j := 7) (by decide), getD_set ls (i := 3) (j := 8) (by decide), getD_set ls (i := 3) (j := 9) (by decide), getD_set ls (i := 3) (j := 10) (by decide), getD_set ls (i := 3) (j := 11) (by decide), getD_set ls (i := 3) (j := 12) (by decide)]
            exact ⟨v43, v44, v45, _, v47, v48, v49, v50, v51, v52, v53, v54, rfl, by simp [hl], fun _ => hB, zg0, zg1, zg2, fun _ => rfl, zg4, zg5, zg6, zg7, zg8, zg9, zg10, zg11, fun h => ⟨(by first | rfl | trivial), trivial⟩, zc5, zc6, zc7, zc8, zc9, zc10, zc11, fun h => (by rw [hs0] at h; cases h), fun h => (by rw [hs0] at h; cases h)⟩
          · rintro ls ac w' hr ⟨v43, v44, v45, v46, v47, v48, v49, v50, v51, v52, v53, v54, rfl, hl, hB', zg0, zg1, zg2, zg3, zg4, zg5, zg6, zg7, zg8, zg9, zg10, zg11, zc4, zc5, zc6, zc7, zc8, zc9, zc10, zc11, hS, hK⟩
            have zd3 : ls.getD 3 false = true := (ready_dep hr rfl).2 ⟨3, .data⟩ (by simp) rfl
            have hs0 : ls.getD 12 false = false := by cases hc : ls.getD 12 false with | false => rfl | true => (exfalso; have hz := hK hc 4 (by decide); have hn := (ready_dep hr rfl).1; rw [getD_both hz] at hn; cases hn)
            have hB := hB' hs0
            obtain rfl := zg3 zd3
            refine wpOp_step rfl (fun K hK => ?_)
            clear hr
            go_simp
            refine hK _ _ ?_
            simp only [getD_own (l := ls) (i := 4) (by omega), getD_set ls (i := 4) (j := 0) (by decide), getD_set ls (i := 4) (j := 1) (by decide), getD_set ls (i := 4) (j := 2) (by decide), getD_set ls (i := 4) (j := 3) (by decide), getD_set ls (i := 4) (j := 5) (by decide), getD_set ls (i := 4) (j := 6) (by decide), getD_set ls (i := 4) (j := 7) (by decide), getD_set ls (i := 4) (j := 8) (by decide), getD_set ls (i := 4) (j := 9) (by decide), getD_set ls (i := 4) (j := 10) (by decide), getD_set ls (i := 4) (j := 11) (by decide), getD_set ls (i := 4) (j := 12) (by decide)]
            exact ⟨v43, v44, v45, _, _, v48, v49, v50, v51, v52, v53, v54, rfl, by simp [hl], fun _ => hB, zg0, zg1, zg2, fun _ => rfl, fun _ => rfl, zg5, zg6, zg7, zg8, zg9, zg10, zg11, fun _ => ⟨zd3, trivial⟩, fun h => ⟨(by first | rfl | trivial), trivial⟩, zc6, zc7, zc8, zc9, zc10, zc11, fun h => (by rw [hs0] at h; cases h), fun h => (by rw [hs0] at h; cases h)⟩
          · rintro ls ac w' hr ⟨v43, v44, v45, v46, v47, v48, v49, v50, v51, v52, v53, v54, rfl, hl, hB', zg0, zg1, zg2, zg3, zg4, zg5, zg6, zg7, zg8, zg9, zg10, zg11, zc4, zc5, zc6, zc7, zc8, zc9, zc10, zc11, hS, hK⟩
            have zd4 : ls.getD 4 false = true := (ready_dep hr rfl).2 ⟨4, .data⟩ (by simp) rfl
            have zd3 := (zc4 zd4).1
            have hs0 : ls.getD 12 false = false := by cases hc : ls.getD 12 false with | false => rfl | true => (exfalso; have hz := hK hc 5 (by decide); have hn := (ready_dep hr rfl).1; rw [getD_both hz] at hn; cases hn)
            have hB := hB' hs0
            obtain rfl := zg4 zd4
            obtain rfl := zg3 zd3
            refine wpOp_step rfl (fun K hK => ?_)
            clear hr
            go_simp
            refine hK _ _ ?_
            simp only [getD_own (l := ls) (i := 5) (by omega), getD_set ls (i := 5) (j := 0) (by decide), getD_set ls (i := 5) (j := 1) (by decide), getD_set ls (i := 5) (j := 2) (by decide), getD_set ls (i := 5) (j := 3) (by decide), getD_set ls (i := 5) (j := 4) (by decide), getD_set ls (i := 5) (j := 6) (by decide), getD_set ls (i := 5) (j := 7) (by decide), getD_set ls (i := 5) (j := 8) (by decide), getD_set ls (i := 5) (j := 9) (by decide), getD_set ls (i := 5) (j := 10) (by decide), getD_set ls (i := 5) (j := 11) (by decide), getD_set ls (i := 5) (j := 12) (by decide)]
            exact ⟨v43, v44, v45, _, _, _, v49, v50, v51, v52, v53, v54, rfl, by simp [hl], fun _ => hB, zg0, zg1, zg2, fun _ => rfl, fun _ => rfl, fun _ => rfl, zg6, zg7, zg8, zg9, zg10, zg11, zc4, fun _ => ⟨zd4, trivial⟩, fun h => ⟨(by first | rfl | trivial), trivial⟩, zc7, zc8, zc9, zc10, zc11, fun h => (by rw [hs0] at h; cases h), fun h => (by rw [hs0] at h; cases h)⟩
          · rintro ls ac w' hr ⟨v43, v44, v45, v46, v47, v48, v49, v50, v51, v52, v53, v54, rfl, hl, hB', zg0, zg1, zg2, zg3, zg4, zg5, zg6, zg7, zg8, zg9, zg10, zg11, zc4, zc5, zc6, zc7, zc8, zc9, zc10, zc11, hS, hK⟩
            have zd5 : ls.getD 5 false = true := (ready_dep hr rfl).2 ⟨5, .data⟩ (by simp) rfl
            have zd4 := (zc5 zd5).1
            have zd3 := (zc4 zd4).1
            have hs0 : ls.getD 12 false = false := by cases hc : ls.getD 12 false with | false => rfl | true => (exfalso; have hz := hK hc 6 (by decide); have hn := (ready_dep hr rfl).1; rw [getD_both hz] at hn; cases hn)
            have hB := hB' hs0
            obtain rfl := zg5 zd5
            obtain rfl := zg4 zd4
            obtain rfl := zg3 zd3
            refine wpOp_step rfl (fun K hK => ?_)
            clear hr
            go_simp
            refine hK _ _ ?_
            simp only [getD_own (l := ls) (i := 6) (by omega), getD_set ls (i := 6) (j := 0) (by decide), getD_set ls (i := 6) (j := 1) (by decide), getD_set ls (i := 6) (j := 2) (by decide), getD_set ls (i := 6) (j := 3) (by decide), getD_set ls (i := 6) (j := 4) (by decide), getD_set ls (i := 6) (j := 5) (by decide), getD_set ls (i := 6) (j := 7) (by decide), getD_set ls (i := 6) (j := 8) (by decide), getD_set ls (i := 6) (j := 9) (by decide), getD_set ls (i := 6) (j := 10) (by decide), getD_set ls (i := 6) (j := 11) (by decide), getD_set ls (i := 6) (j := 12) (by decide)]
            exact ⟨v43, v44, v45, _, _, _, _, v50, v51, v52, v53, v54, rfl, by simp [hl], fun _ => hB, zg0, zg1, zg2, fun _ => rfl, fun _ => rfl, fun _ => rfl, fun _ => rfl, zg7, zg8, zg9, zg10, zg11, zc4, zc5, fun _ => ⟨zd5, trivial⟩, fun h => ⟨(by first | rfl | trivial), trivial⟩, zc8, zc9, zc10, zc11, fun h => (by rw [hs0] at h; cases h), fun h => (by rw [hs0] at h; cases h)⟩
          · rintro ls ac w' hr ⟨v43, v44, v45, v46, v47, v48, v49, v50, v51, v52, v53, v54, rfl, hl, hB', zg0, zg1, zg2, zg3, zg4, zg5, zg6, zg7, zg8, zg9, zg10, zg11, zc4, zc5, zc6, zc7, zc8, zc9, zc10, zc11, hS, hK⟩
            have zd6 : ls.getD 6 false = true := (ready_dep hr rfl).2 ⟨6, .data⟩ (by simp) rfl
            have zd5 := (zc6 zd6).1
            have zd4 := (zc5 zd5).1
            have zd3 := (zc4 zd4).1
            have hs0 : ls.getD 12 false = false := by cases hc : ls.getD 12 false with | false => rfl | true => (exfalso; have hz := hK hc 7 (by decide); have hn := (ready_dep hr rfl).1; rw [getD_both hz] at hn; cases hn)
            have hB := hB' hs0
            obtain rfl := zg6 zd6
            obtain rfl := zg5 zd5
            obtain rfl := zg4 zd4
            obtain rfl := zg3 zd3
            have a0 := (hB.cell (ltc epc)).trans epc
            have a1 := (hB.cell (ltc euc0)).trans euc0
            have a2 := (hB.cell (ltc euc1)).trans euc1
            have a3 := (hB.cell (ltc euc2)).trans euc2
            have a4 := (hB.cell (ltc etc)).trans etc
            have a5 := (hB.cell (ltc ec4)).trans ec4
            refine wpOp_step rfl (fun K hK => ?_)
            clear hr
            go_simp
            refine hK _ _ ?_
            simp only [getD_own (l := ls) (i := 7) (by omega), getD_set ls (i := 7) (j := 0) (by decide), getD_set ls (i := 7) (j := 1) (by decide), getD_set ls (i := 7) (j := 2) (by decide), getD_set ls (i := 7) (j := 3) (by decide), getD_set ls (i := 7) (j := 4) (by decide), getD_set ls (i := 7) (j := 5) (by decide), getD_set ls (i := 7) (j := 6) (by decide), getD_set ls (i := 7) (j := 8) (by decide), getD_set ls (i := 7) (j := 9) (by decide), getD_set ls (i := 7) (j := 10) (by decide), getD_set ls (i := 7) (j := 11) (by decide), getD_set ls (i := 7) (j := 12) (by decide)]
            exact ⟨v43, v44, v45, _, _, _, _, _, v51, v52, v53, v54, rfl, by simp [hl], fun _ => hB, zg0, zg1, zg2, fun _ => rfl, fun _ => rfl, fun _ => rfl, fun _ => rfl, fun _ => rfl, zg8, zg9, zg10, zg11, zc4, zc5, zc6, fun _ => ⟨zd6, trivial⟩, fun h => ⟨(by first | rfl | trivial), trivial⟩, zc9, zc10, zc11, fun h => (by rw [hs0] at h; cases h), fun h => (by rw [hs0] at h; cases h)⟩
          · rintro ls ac w' hr ⟨v43, v44, v45, v46, v47, v48, v49, v50, v51, v52, v53, v54, rfl, hl, hB', zg0, zg1, zg2, zg3, zg4, zg5, zg6, zg7, zg8, zg9, zg10, zg11, zc4, zc5, zc6, zc7, zc8, zc9, zc10, zc11, hS, hK⟩
            have zd7 : ls.getD 7 false = true := (ready_dep hr rfl).2 ⟨7, .data⟩ (by simp) rfl
            have zd6 := (zc7 zd7).1
            have zd5 := (zc6 zd6).1
            have zd4 := (zc5 zd5).1
            have zd3 := (zc4 zd4).1
            have hs0 : ls.getD 12 false = false := by cases hc : ls.getD 12 false with | false => rfl | true => (exfalso; have hz := hK hc 8 (by decide); have hn := (ready_dep hr rfl).1; rw [getD_both hz] at hn; cases hn)
            have hB := hB' hs0
            obtain rfl := zg7 zd7
            obtain rfl := zg6 zd6
            obtain rfl := zg5 zd5
            obtain rfl := zg4 zd4
            obtain rfl := zg3 zd3
            refine wpOp_step rfl (fun K hK => ?_)
            clear hr
            go_simp
            refine hK _ _ ?_
            simp only [getD_own (l := ls) (i := 8) (by omega), getD_set ls (i := 8) (j := 0) (by decide), getD_set ls (i := 8) (j := 1) (by decide), getD_set ls (i := 8) (j := 2) (by decide), getD_set ls (i := 8) (j := 3) (by decide), getD_set ls (i := 8) (j := 4) (by decide), getD_set ls (i := 8) (j := 5) (by decide), getD_set ls (i := 8) (j := 6) (by decide), getD_set ls (i := 8) (j := 7) (by decide), getD_set ls (i := 8) (j := 9) (by decide), getD_set ls (i := 8) (j := 10) (by decide), getD_set ls (i := 8) (j := 11) (by decide), getD_set ls (i := 8) (j := 12) (by decide)]
            exact ⟨v43, v44, v45, _, _, _, _, _, _, v52, v53, v54, rfl, by simp [hl], fun _ => hB, zg0, zg1, zg2, fun _ => rfl, fun _ => rfl, fun _ => rfl, fun _ => rfl, fun _ => rfl, fun _ => rfl, zg9, zg10, zg11, zc4, zc5, zc6, zc7, fun _ => ⟨zd7, trivial⟩, fun h => ⟨(zc9 h).1, (zc9 h).2.1, (by first | rfl | trivial), trivial⟩, zc10, zc11, fun h => (by rw [hs0] at h; cases h), fun h => (by rw [hs0] at h; cases h)⟩
          · rintro ls ac w' hr ⟨v43, v44, v45, v46, v47, v48, v49, v50, v51, v52, v53, v54, rfl, hl, hB', zg0, zg1, zg2, zg3, zg4, zg5, zg6, zg7, zg8, zg9, zg10, zg11, zc4, zc5, zc6, zc7, zc8, zc9, zc10, zc11, hS, hK⟩
            have zd1 : ls.getD 1 false = true := (ready_dep hr rfl).2 ⟨1, .data⟩ (by simp) rfl
            have zd2 : ls.getD 2 false = true := (ready_dep hr rfl).2 ⟨2, .data⟩ (by simp) rfl
            have zd8 : ls.getD 8 false = true := (ready_dep hr rfl).2 ⟨8, .data⟩ (by simp) rfl
            have zd7 := (zc8 zd8).1
            have zd6 := (zc7 zd7).1
            have zd5 := (zc6 zd6).1
            have zd4 := (zc5 zd5).1
            have zd3 := (zc4 zd4).1
            have hs0 : ls.getD 12 false = false := by cases hc : ls.getD 12 false with | false => rfl | true => (exfalso; have hz := hK hc 9 (by decide); have hn := (ready_dep hr rfl).1; rw [getD_both hz] at hn; cases hn)
            have hB := hB' hs0
            obtain rfl := zg1 zd1
            obtain rfl := zg2 zd2
            obtain rfl := zg8 zd8
            obtain rfl := zg7 zd7
            obtain rfl := zg6 zd6
            obtain rfl := zg5 zd5
            obtain rfl := zg4 zd4
            obtain rfl := zg3 zd3
            refine wpOp_step rfl (fun K hK => ?_)
            clear hr
            go_simp
            refine hK _ _ ?_
            simp only [getD_own (l := ls) (i := 9) (by omega), getD_set ls (i := 9) (j := 0) (by decide), getD_set ls (i := 9) (j := 1) (by decide), getD_set ls (i := 9) (j := 2) (by decide), getD_set ls (i := 9) (j := 3) (by decide), getD_set ls (i := 9) (j := 4) (by decide), getD_set ls (i := 9) (j := 5) (by decide), getD_set ls (i := 9) (j := 6) (by decide), getD_set ls (i := 9) (j := 7) (by decide), getD_set ls (i := 9) (j := 8) (by decide), getD_set ls (i := 9) (j := 10) (by decide), getD_set ls (i := 9) (j := 11) (by decide), getD_set ls (i := 9) (j := 12) (by decide)]
            exact ⟨v43, _, _, _, _, _, _, _, _, _, v53, v54, rfl, by simp [hl], fun _ => hB, zg0, fun _ => rfl, fun _ => rfl, fun _ => rfl, fun _ => rfl, fun _ => rfl, fun _ => rfl, fun _ => rfl, fun _ => rfl, fun _ => rfl, zg10, zg11, zc4, zc5, zc6, zc7, zc8, fun _ => ⟨zd1, zd2, zd8, trivial⟩, zc10, zc11, fun h => (by rw [hs0] at h; cases h), fun h => (by rw [hs0] at h; cases h)⟩
          · rintro ls ac w' hr ⟨v43, v44, v45, v46, v47, v48, v49, v50, v51, v52, v53, v54, rfl, hl, hB', zg0, zg1, zg2, zg3, zg4, zg5, zg6, zg7, zg8, zg9, zg10, zg11, zc4, zc5, zc6, zc7, zc8, zc9, zc10, zc11, hS, hK⟩
            have zd0 : ls.getD 0 false = true := (ready_dep hr rfl).2 ⟨0, .data⟩ (by simp) rfl
            have hs0 : ls.getD 12 false = false := by cases hc : ls.getD 12 false with | false => rfl | true => (exfalso; have hz := hK hc 10 (by decide); have hn := (ready_dep hr rfl).1; rw [getD_both hz] at hn; cases hn)
            have hB := hB' hs0
            obtain rfl := zg0 zd0
            refine wpOp_step rfl (fun K hK => ?_)
            clear hr
            go_simp
            refine hK _ _ ?_
            simp only [getD_own (l := ls) (i := 10) (by omega), getD_set ls (i := 10) (j := 0) (by decide), getD_set ls (i := 10) (j := 1) (by decide), getD_set ls (i := 10) (j := 2) (by decide), getD_set ls (i := 10) (j := 3) (by decide), getD_set ls (i := 10) (j := 4) (by decide), getD_set ls (i := 10) (j := 5) (by decide), getD_set ls (i := 10) (j := 6) (by decide), getD_set ls (i := 10) (j := 7) (by decide), getD_set ls (i := 10) (j := 8) (by decide), getD_set ls (i := 10) (j := 9) (by decide), getD_set ls (i := 10) (j := 11) (by decide), getD_set ls (i := 10) (j := 12) (by decide)]
            exact ⟨_, v44, v45, v46, v47, v48, v49, v50, v51, v52, _, v54, rfl, by simp [hl], fun _ => hB, fun _ => rfl, zg1, zg2, zg3, zg4, zg5, zg6, zg7, zg8, zg9, fun _ => rfl, zg11, zc4, zc5, zc6, zc7, zc8, zc9, fun _ => ⟨zd0, trivial⟩, fun h => ⟨(by first | rfl | trivial), trivial⟩, fun h => (by rw [hs0] at h; cases h), fun h => (by rw [hs0] at h; cases h)⟩
          · rintro ls ac w' hr ⟨v43, v44, v45, v46, v47, v48, v49, v50, v51, v52, v53, v54, rfl, hl, hB', zg0, zg1, zg2, zg3, zg4, zg5, zg6, zg7, zg8, zg9, zg10, zg11, zc4, zc5, zc6, zc7, zc8, zc9, zc10, zc11, hS, hK⟩
            have zd10 : ls.getD 10 false = true := (ready_dep hr rfl).2 ⟨10, .data⟩ (by simp) rfl
            have zd0 := (zc10 zd10).1
            have hs0 : ls.getD 12 false = false := by cases hc : ls.getD 12 false with | false => rfl | true => (exfalso; have hz := hK hc 11 (by decide); have hn := (ready_dep hr rfl).1; rw [getD_both hz] at hn; cases hn)
            have hB := hB' hs0
            obtain rfl := zg10 zd10
            obtain rfl := zg0 zd0
            refine wpOp_step rfl (fun K hK => ?_)
            clear hr
            go_simp
            refine hK _ _ ?_
            simp only [getD_own (l := ls) (i := 11) (by omega), getD_set ls (i := 11) (j := 0) (by decide), getD_set ls (i := 11) (j := 1) (by decide), getD_set ls (i := 11) (j := 2) (by decide), getD_set ls (i := 11) (j := 3) (by decide), getD_set ls (i := 11) (j := 4) (by decide), getD_set ls (i := 11) (j := 5) (by decide), getD_set ls (i := 11) (j := 6) (by decide), getD_set ls (i := 11) (j := 7) (by decide), getD_set ls (i := 11) (j := 8) (by decide), getD_set ls (i := 11) (j := 9) (by decide), getD_set ls (i := 11) (j := 10) (by decide), getD_set ls (i := 11) (j := 12) (by decide)]
            exact ⟨_, v44, v45, v46, v47, v48, v49, v50, v51, v52, _, _, rfl, by simp [hl], fun _ => hB, fun _ => rfl, zg1, zg2, zg3, zg4, zg5, zg6, zg7, zg8, zg9, fun _ => rfl, fun _ => rfl, zc4, zc5, zc6, zc7, zc8, zc9, zc10, fun _ => ⟨zd10, trivial⟩, fun h => (by rw [hs0] at h; cases h), fun h => (by rw [hs0] at h; cases h)⟩
          · rintro ls ac w' hr ⟨v43, v44, v45, v46, v47, v48, v49, v50, v51, v52, v53, v54, rfl, hl, hB', zg0, zg1, zg2, zg3, zg4, zg5, zg6, zg7, zg8, zg9, zg10, zg11, zc4, zc5, zc6, zc7, zc8, zc9, zc10, zc11, hS, hK⟩
            have zd9 : ls.getD 9 false = true := (ready_dep hr rfl).2 ⟨9, .data⟩ (by simp) rfl
            have zd11 : ls.getD 11 false = true := (ready_dep hr rfl).2 ⟨11, .data⟩ (by simp) rfl
            have zd1 := (zc9 zd9).1
            have zd2 := (zc9 zd9).2.1
            have zd8 := (zc9 zd9).2.2.1
            have zd10 := (zc11 zd11).1
            have zd7 := (zc8 zd8).1
            have zd0 := (zc10 zd10).1
            have zd6 := (zc7 zd7).1
            have zd5 := (zc6 zd6).1
            have zd4 := (zc5 zd5).1
            have zd3 := (zc4 zd4).1
            obtain rfl := zg9 zd9
            obtain rfl := zg11 zd11
            obtain rfl := zg1 zd1
            obtain rfl := zg2 zd2
            obtain rfl := zg8 zd8
            obtain rfl := zg10 zd10
            obtain rfl := zg7 zd7
            obtain rfl := zg0 zd0
            obtain rfl := zg6 zd6
            obtain rfl := zg5 zd5
            obtain rfl := zg4 zd4
            obtain rfl := zg3 zd3
            have hns : ls.getD 12 false = false := by cases hc : ls.getD 12 false with | false => rfl | true => (exfalso; have hn := (ready_dep hr rfl).1; rw [getD_both hc] at hn; cases hn)
            have hB := hB' hns
            have hall : ∀ i, i < 13 → (ls.setIfInBounds 12 true).getD i false = true := by intro i hi; have hi' : i = 0 ∨ i = 1 ∨ i = 2 ∨ i = 3 ∨ i = 4 ∨ i = 5 ∨ i = 6 ∨ i = 7 ∨ i = 8 ∨ i = 9 ∨ i = 10 ∨ i = 11 ∨ i = 12 := (by decide : ∀ i : Nat, i < 13 → (i = 0 ∨ i = 1 ∨ i = 2 ∨ i = 3 ∨ i = 4 ∨ i = 5 ∨ i = 6 ∨ i = 7 ∨ i = 8 ∨ i = 9 ∨ i = 10 ∨ i = 11 ∨ i = 12)) i hi; rcases hi' with rfl | rfl | rfl | rfl | rfl | rfl | rfl | rfl | rfl | rfl | rfl | rfl | rfl <;> first | exact getD_own (by omega) | (rw [getD_set ls (by decide)]; assumption)
            have hSp := (show SrvAt w' b lo hi k a m p from ⟨e0.keep hB, e1.keep hB, e2.keep hB, e3.keep hB, e4.keep hB, e5.keep hB⟩)
            have hT := known_sets lo' hi' true t (m + 1) hSp
            have zs0 := (hSp).1.1
            have zs1 := (hSp).2.1.1
            have zs2 := (hSp).2.2.1.1
            have zs3 := (hSp).2.2.2.1.1
            have zs4 := (hSp).2.2.2.2.1.1
            have zs5 := (hSp).1.2
            have zs6 := (hSp).2.1.2
            have zs7 := (hSp).2.2.1.2
            have zs8 := (hSp).2.2.2.1.2
            have zs9 := (hSp).2.2.2.2.1.2
            refine wpOp_step rfl (fun K hK' => ?_)
            clear hr
            clear hSp
            go_simp
            refine hK' _ _ ?_
            simp only [getD_own (l := ls) (i := 12) (by omega), getD_set ls (i := 12) (j := 0) (by decide), getD_set ls (i := 12) (j := 1) (by decide), getD_set ls (i := 12) (j := 2) (by decide), getD_set ls (i := 12) (j := 3) (by decide), getD_set ls (i := 12) (j := 4) (by decide), getD_set ls (i := 12) (j := 5) (by decide), getD_set ls (i := 12) (j := 6) (by decide), getD_set ls (i := 12) (j := 7) (by decide), getD_set ls (i := 12) (j := 8) (by decide), getD_set ls (i := 12) (j := 9) (by decide), getD_set ls (i := 12) (j := 10) (by decide), getD_set ls (i := 12) (j := 11) (by decide)]
            exact ⟨_, _, _, _, _, _, _, _, _, _, _, _, rfl, by simp [hl], fun h => (by cases h), fun _ => rfl, fun _ => rfl, fun _ => rfl, fun _ => rfl, fun _ => rfl, fun _ => rfl, fun _ => rfl, fun _ => rfl, fun _ => rfl, fun _ => rfl, fun _ => rfl, fun _ => rfl, zc4, zc5, zc6, zc7, zc8, zc9, zc10, zc11, fun _ => ⟨(Only.of hB (Nat.le_of_lt hbz)).trans hT.2, hT.1⟩, fun _ => hall⟩
        · rintro ls ac w' ⟨v43, v44, v45, v46, v47, v48, v49, v50, v51, v52, v53, v54, rfl, hl, hB', zg0, zg1, zg2, zg3, zg4, zg5, zg6, zg7, zg8, zg9, zg10, zg11, zc4, zc5, zc6, zc7, zc8, zc9, zc10, zc11, hS, hK⟩ hr
          have hall := ready_allb (by decide) hl hr
          have hSx := hS (hall 12 (by decide))
          go_wp2
          go_ret
          exact ⟨rfl, hzw.trans hSx.1, hSx.2⟩
end Go.Proofs.Ytklnlhphgiipjaa
