/-
  The walk of the function that Observe makes.
  The walk of package servo's Observe.
  alive, of layer 14: so the program's servos do what the law asks.
  Plain laws of the servo.
  The walk of the law's own 'does'.
  A script of a servo: a slice of structs of two numbers and a span, as an argument.
-/
import Derived.Test.YtnphbdhcoiaklaaSVc1
import Derived.Test.YtnphbdhcoiaklaaSVc2
import Derived.Test.YtnphbdhcoiaklaaSVc3
import Derived.Test.YtnphbdhcoiaklaaSVc4
import Derived.Test.YtnphbdhcoiaklaaSGB
import Derived.StillTailTactics
import Derived.Deep.RegionHeld3
import Derived.Test.YtnphbdhcoiaklaaSGC
import Derived.Test.YtnphbdhcoiaklaaSGA
import Derived.Deep.SlicePairs
namespace Go.Proofs.Ytnphbdhcoiaklaa
open Go.RowKit

theorem may_z (bo bt bh bs : Nat) (x y : Int) (w : World) (O0 : CellF w ⟨bo, 0, none⟩ (.int .i64 x)) (O1 : CellF w ⟨bo, 1, none⟩ (.int .i64 y)) (O2 : CellF w ⟨bo, 2, none⟩ (.bool false)) :
    Calls Try.prog 108 #[.pointer (some ⟨bo, 0, none⟩), .pointer (some ⟨bt, 0, none⟩), .pointer (some ⟨bh, 0, none⟩), .pointer (some ⟨bs, 0, none⟩)] w fun e w' => e = .returned (.bool false) ∧ Below w.heap.size w w' := by
  have c0 := O0.1
  have c1 := O1.1
  have c2 := O2.1
  have l0 := ltc c0
  dsimp only at l0
  clear O0 O1 O2
  go_enter Try.func108, Try.ntmps108
  go_wp2_with fail
  go_quiet (fail)
  go_wp2
  go_ret
  exact ⟨rfl, (by repeat (first | exact brefl _ | refine balloc ?_ _ | refine bdrewN ?_ _ | refine bset ?_ (by dsimp only; omega) _ | refine bstep ?_ (by assumption)))⟩

theorem may1_is (b bo bt bh bs : Nat) (s : Sp) (k : Bool) (a x y : Int) (z : Bool) (t : Int) (r : Bool) (hk : s.kn = k) (H : Hid (sMay s a ⟨x, y, z⟩ t = r)) (w : World) (h : CellF w ⟨b, 3, none⟩ (.int .i64 a))
    (O0 : CellF w ⟨bo, 0, none⟩ (.int .i64 x)) (O1 : CellF w ⟨bo, 1, none⟩ (.int .i64 y)) (O2 : CellF w ⟨bo, 2, none⟩ (.bool z)) (T : CellF w ⟨bt, 0, none⟩ (.int .i64 t)) (K : CellF w ⟨bh, 0, none⟩ (.bool k)) (S : CellF w ⟨bs, 0, none⟩ (.pointer (some ⟨b, 0, none⟩))) :
    Calls Try.prog 108 #[.pointer (some ⟨bo, 0, none⟩), .pointer (some ⟨bt, 0, none⟩), .pointer (some ⟨bh, 0, none⟩), .pointer (some ⟨bs, 0, none⟩)] w fun e w' => e = .returned (.bool r) ∧ Below w.heap.size w w' := by
  have hx := H.out
  unfold sMay at hx
  dsimp only at hx
  rw [hk] at hx
  cases z with
  | false =>
    obtain rfl : false = r := by rw [← hx]; rfl
    exact may_z bo bt bh bs x y w O0 O1 O2
  | true =>
    cases hq : spRight ⟨x, y, true⟩ with
    | false =>
      obtain rfl : false = r := by rw [← hx, hq]; rfl
      exact may_q b bo bt bh bs a x y t k (Lib.hid hq) w h O0 O1 O2 T K S
    | true =>
      cases he : smallB t with
      | false =>
        obtain rfl : false = r := by rw [← hx, hq, he]; rfl
        exact may_e b bo bt bh bs a x y t k (Lib.hid hq) (Lib.hid he) w h O0 O1 O2 T K S
      | true =>
        rw [hq, he] at hx
        cases k with
        | false =>
          obtain rfl : true = r := by rw [← hx]; rfl
          exact may_n b bo bt bh bs a x y t (Lib.hid hq) (Lib.hid he) w h O0 O1 O2 T K S
        | true =>
          have hd : decide (a ≤ t) = r := by rw [← hx]; cases decide (a ≤ t) <;> rfl
          exact may_k b bo bt bh bs a x y t r hd (Lib.hid hq) (Lib.hid he) w h O0 O1 O2 T K S
end Go.Proofs.Ytnphbdhcoiaklaa
namespace Go.Proofs.Ytnphbdhcoiaklaa
open Go.RowKit

theorem SrvAt.past {u : World} {b : Nat} {lo hi : Int} {k : Bool} {a m p : Int} (o : Obj) (h : SrvAt u b lo hi k a m p) : SrvAt (u.alloc o) b lo hi k a m p := ⟨h.1.past o, h.2.1.past o, h.2.2.1.past o, h.2.2.2.1.past o, h.2.2.2.2.1.past o, h.2.2.2.2.2.past o⟩

set_option maxRecDepth 100000 in
set_option maxHeartbeats 8000000 in
theorem Observe_is (b : Nat) (lo hi : Int) (k : Bool) (a m p x y : Int) (z : Bool) (t lo' hi' : Int) (k' : Bool) (a' m' : Int) (r : Bool) (hm0 : 0 ≤ m) (hm1 : m ≤ 1000000) (H : Hid (sObs ⟨lo, hi, k⟩ a m p ⟨x, y, z⟩ t = (⟨lo', hi', k'⟩, a', m', r))) (w : World) (h : SrvAt w b lo hi k a m p) :
    Calls Try.prog 86 #[.pointer (some ⟨b, 0, none⟩), .agg #[.int .i64 x, .int .i64 y, .bool z], .int .i64 t] w fun e w' => e = .returned (.bool r) ∧ Only b w w' ∧ SrvAt w' b lo' hi' k' a' m' p := by
  have hx := H.out
  unfold sObs at hx
  obtain ⟨c, hc⟩ : ∃ c, sMay ⟨lo, hi, k⟩ a ⟨x, y, z⟩ t = c := ⟨_, rfl⟩
  have HM := Lib.hid hc
  obtain ⟨⟨r1, r2, r3⟩, hr⟩ : ∃ s, sRead ⟨lo, hi, k⟩ a p t = s := ⟨_, rfl⟩
  have HR := Lib.hid hr
  obtain ⟨⟨u1, u2, u3⟩, hu⟩ : ∃ s, spMeet ⟨r1, r2, r3⟩ ⟨x, y, z⟩ = s := ⟨_, rfl⟩
  have HU := Lib.hid hu
  rw [hc, hr, hu] at hx
  have HX := Lib.hid hx
  have qB_0 := h.1
  have qB_1 := h.2.1
  have qB_2 := h.2.2.1
  have qB_3 := h.2.2.2.1
  have qB_4 := h.2.2.2.2.1
  have qB_5 := h.2.2.2.2.2
  have cB_0 := qB_0.1
  have cB_1 := qB_1.1
  have cB_2 := qB_2.1
  have cB_3 := qB_3.1
  have cB_4 := qB_4.1
  have cB_5 := qB_5.1
  have zB := h.lt
  have hlt := h.lt
  clear h H hc hr hu hx
  have cA2 : (((w.alloc (.cells #[.pointer (some ⟨b, 0, none⟩)] 82)).alloc (.cells #[.int .i64 x, .int .i64 y, .bool z] 50)).alloc (.cells #[.int .i64 t] 3)).cell? ⟨b, 2, none⟩ = some (.bool k) := (CellF.past _ (CellF.past _ (CellF.past _ qB_2))).1
  have A0 : CellF ((((w.alloc (.cells #[.pointer (some ⟨b, 0, none⟩)] 82)).alloc (.cells #[.int .i64 x, .int .i64 y, .bool z] 50)).alloc (.cells #[.int .i64 t] 3)).alloc (.cells #[.bool k] 4)) ⟨b, 3, none⟩ (.int .i64 a) := CellF.past _ (CellF.past _ (CellF.past _ (CellF.past _ (qB_3))))
  have S0 : CellF ((((w.alloc (.cells #[.pointer (some ⟨b, 0, none⟩)] 82)).alloc (.cells #[.int .i64 x, .int .i64 y, .bool z] 50)).alloc (.cells #[.int .i64 t] 3)).alloc (.cells #[.bool k] 4)) ⟨w.heap.size, 0, none⟩ (.pointer (some ⟨b, 0, none⟩)) := CellF.past _ (CellF.past _ (CellF.past _ (CellF.at_ rfl rfl)))
  have K0 : CellF ((((w.alloc (.cells #[.pointer (some ⟨b, 0, none⟩)] 82)).alloc (.cells #[.int .i64 x, .int .i64 y, .bool z] 50)).alloc (.cells #[.int .i64 t] 3)).alloc (.cells #[.bool k] 4)) ⟨w.heap.size + 3, 0, none⟩ (.bool k) := CellF.at_ (by simp) rfl
  have T0 : CellF ((((w.alloc (.cells #[.pointer (some ⟨b, 0, none⟩)] 82)).alloc (.cells #[.int .i64 x, .int .i64 y, .bool z] 50)).alloc (.cells #[.int .i64 t] 3)).alloc (.cells #[.bool k] 4)) ⟨w.heap.size + 2, 0, none⟩ (.int .i64 t) := CellF.past _ (CellF.at_ (by simp) rfl)
  have O2 : CellF ((((w.alloc (.cells #[.pointer (some ⟨b, 0, none⟩)] 82)).alloc (.cells #[.int .i64 x, .int .i64 y, .bool z] 50)).alloc (.cells #[.int .i64 t] 3)).alloc (.cells #[.bool k] 4)) ⟨w.heap.size + 1, 2, none⟩ (.bool z) := CellF.past _ (CellF.past _ (CellF.at_ (by simp) rfl))
  have O1 : CellF ((((w.alloc (.cells #[.pointer (some ⟨b, 0, none⟩)] 82)).alloc (.cells #[.int .i64 x, .int .i64 y, .bool z] 50)).alloc (.cells #[.int .i64 t] 3)).alloc (.cells #[.bool k] 4)) ⟨w.heap.size + 1, 1, none⟩ (.int .i64 y) := CellF.past _ (CellF.past _ (CellF.at_ (by simp) rfl))
  have O0 : CellF ((((w.alloc (.cells #[.pointer (some ⟨b, 0, none⟩)] 82)).alloc (.cells #[.int .i64 x, .int .i64 y, .bool z] 50)).alloc (.cells #[.int .i64 t] 3)).alloc (.cells #[.bool k] 4)) ⟨w.heap.size + 1, 0, none⟩ (.int .i64 x) := CellF.past _ (CellF.past _ (CellF.at_ (by simp) rfl))
  go_enter Try.func86, Try.ntmps86
  go_wp2_with fail
  refine (may1_is b (w.heap.size + 1) (w.heap.size + 2) (w.heap.size + 3) w.heap.size ⟨lo, hi, k⟩ k a x y z t c rfl HM _ A0 O0 O1 O2 T0 K0 S0).mono ?_
  rintro e w1 ⟨rfl, hb1⟩
  have q1_1_0 : CellF w1 ⟨b, 0, none⟩ (.int .i64 lo) := (by refine CellF.keep hb1 ?_; repeat (first | with_reducible exact qB_0 | ((with_reducible refine CellF.at_ ?_ ?_); (first | (simp; done) | rfl); rfl) | with_reducible refine CellF.past _ ?_ | with_reducible refine CellF.drew ?_ | with_reducible refine CellF.drewN _ ?_))
  have c1_1_0 := q1_1_0.1
  have q1_1_1 : CellF w1 ⟨b, 1, none⟩ (.int .i64 hi) := (by refine CellF.keep hb1 ?_; repeat (first | with_reducible exact qB_1 | ((with_reducible refine CellF.at_ ?_ ?_); (first | (simp; done) | rfl); rfl) | with_reducible refine CellF.past _ ?_ | with_reducible refine CellF.drew ?_ | with_reducible refine CellF.drewN _ ?_))
  have c1_1_1 := q1_1_1.1
  have q1_1_2 : CellF w1 ⟨b, 2, none⟩ (.bool k) := (by refine CellF.keep hb1 ?_; repeat (first | with_reducible exact qB_2 | ((with_reducible refine CellF.at_ ?_ ?_); (first | (simp; done) | rfl); rfl) | with_reducible refine CellF.past _ ?_ | with_reducible refine CellF.drew ?_ | with_reducible refine CellF.drewN _ ?_))
  have c1_1_2 := q1_1_2.1
  have q1_1_3 : CellF w1 ⟨b, 3, none⟩ (.int .i64 a) := (by refine CellF.keep hb1 ?_; repeat (first | with_reducible exact qB_3 | ((with_reducible refine CellF.at_ ?_ ?_); (first | (simp; done) | rfl); rfl) | with_reducible refine CellF.past _ ?_ | with_reducible refine CellF.drew ?_ | with_reducible refine CellF.drewN _ ?_))
  have c1_1_3 := q1_1_3.1
  have q1_1_4 : CellF w1 ⟨b, 4, none⟩ (.int .i64 m) := (by refine CellF.keep hb1 ?_; repeat (first | with_reducible exact qB_4 | ((with_reducible refine CellF.at_ ?_ ?_); (first | (simp; done) | rfl); rfl) | with_reducible refine CellF.past _ ?_ | with_reducible refine CellF.drew ?_ | with_reducible refine CellF.drewN _ ?_))
  have c1_1_4 := q1_1_4.1
  have q1_1_5 : CellF w1 ⟨b, 5, none⟩ (.int .i64 p) := (by refine CellF.keep hb1 ?_; repeat (first | with_reducible exact qB_5 | ((with_reducible refine CellF.at_ ?_ ?_); (first | (simp; done) | rfl); rfl) | with_reducible refine CellF.past _ ?_ | with_reducible refine CellF.drew ?_ | with_reducible refine CellF.drewN _ ?_))
  have c1_1_5 := q1_1_5.1
  have z1_1 : b < w1.heap.size := ltc c1_1_0
  have q1_2_0 : CellF w1 ⟨w.heap.size, 0, none⟩ (.pointer (some ⟨b, 0, none⟩)) := (by refine CellF.keep hb1 ?_; (first | ((repeat (first | ((with_reducible refine CellF.at_ ?_ ?_); (first | (simp; done) | rfl); rfl) | with_reducible refine CellF.past _ ?_ | with_reducible refine CellF.drew ?_ | with_reducible refine CellF.drewN _ ?_)); done) | (refine ⟨?_, ?_⟩ <;> go_simp)))
  have c1_2_0 := q1_2_0.1
  have z1_2 : w.heap.size < w1.heap.size := ltc c1_2_0
  have q1_3_0 : CellF w1 ⟨(w.heap.size + 1), 0, none⟩ (.int .i64 x) := (by refine CellF.keep hb1 ?_; (first | ((repeat (first | ((with_reducible refine CellF.at_ ?_ ?_); (first | (simp; done) | rfl); rfl) | with_reducible refine CellF.past _ ?_ | with_reducible refine CellF.drew ?_ | with_reducible refine CellF.drewN _ ?_)); done) | (refine ⟨?_, ?_⟩ <;> go_simp)))
  have c1_3_0 := q1_3_0.1
  have q1_3_1 : CellF w1 ⟨(w.heap.size + 1), 1, none⟩ (.int .i64 y) := (by refine CellF.keep hb1 ?_; (first | ((repeat (first | ((with_reducible refine CellF.at_ ?_ ?_); (first | (simp; done) | rfl); rfl) | with_reducible refine CellF.past _ ?_ | with_reducible refine CellF.drew ?_ | with_reducible refine CellF.drewN _ ?_)); done) | (refine ⟨?_, ?_⟩ <;> go_simp)))
  have c1_3_1 := q1_3_1.1
  have q1_3_2 : CellF w1 ⟨(w.heap.size + 1), 2, none⟩ (.bool z) := (by refine CellF.keep hb1 ?_; (first | ((repeat (first | ((with_reducible refine CellF.at_ ?_ ?_); (first | (simp; done) | rfl); rfl) | with_reducible refine CellF.past _ ?_ | with_reducible refine CellF.drew ?_ | with_reducible refine CellF.drewN _ ?_)); done) | (refine ⟨?_, ?_⟩ <;> go_simp)))
  have c1_3_2 := q1_3_2.1
  have z1_3 : (w.heap.size + 1) < w1.heap.size := ltc c1_3_0
  have q1_4_0 : CellF w1 ⟨(w.heap.size + 2), 0, none⟩ (.int .i64 t) := (by refine CellF.keep hb1 ?_; (first | ((repeat (first | ((with_reducible refine CellF.at_ ?_ ?_); (first | (simp; done) | rfl); rfl) | with_reducible refine CellF.past _ ?_ | with_reducible refine CellF.drew ?_ | with_reducible refine CellF.drewN _ ?_)); done) | (refine ⟨?_, ?_⟩ <;> go_simp)))
  have c1_4_0 := q1_4_0.1
  have z1_4 : (w.heap.size + 2) < w1.heap.size := ltc c1_4_0
  have q1_5_0 : CellF w1 ⟨(w.heap.size + 3), 0, none⟩ (.bool k) := (by refine CellF.keep hb1 ?_; (first | ((repeat (first | ((with_reducible refine CellF.at_ ?_ ?_); (first | (simp; done) | rfl); rfl) | with_reducible refine CellF.past _ ?_ | with_reducible refine CellF.drew ?_ | with_reducible refine CellF.drewN _ ?_)); done) | (refine ⟨?_, ?_⟩ <;> go_simp)))
  have c1_5_0 := q1_5_0.1
  have z1_5 : (w.heap.size + 3) < w1.heap.size := ltc c1_5_0
  clear qB_0 cB_0 qB_1 cB_1 qB_2 cB_2 qB_3 cB_3 qB_4 cB_4 qB_5 cB_5 zB
  clear A0 O0 O1 O2 T0 K0 S0 cA2
  cases c with
  | false =>
    have hx := HX.out
    rw [if_neg (by decide)] at hx
    obtain ⟨hs, hx⟩ := Prod.mk.inj hx
    obtain ⟨h2, hx⟩ := Prod.mk.inj hx
    obtain ⟨h3, h4⟩ := Prod.mk.inj hx
    clear hx HX
    subst h2 h3 h4
    cases hs
    go_wp2
    go_ret
    exact ⟨rfl, Only.of (by repeat (first | exact brefl _ | refine balloc ?_ _ | refine bdrewN ?_ _ | refine bset ?_ (by dsimp only; omega) _ | refine bstep ?_ (by assumption))) (Nat.le_of_lt hlt), ⟨q1_1_0, q1_1_1, q1_1_2, q1_1_3, q1_1_4, q1_1_5⟩⟩
  | true =>
    go_wp2_with fail
    refine (Read_is b lo hi k a m p t r1 r2 r3 HR _ ⟨q1_1_0, q1_1_1, q1_1_2, q1_1_3, q1_1_4, q1_1_5⟩).mono ?_
    rintro e w2 ⟨rfl, hb2⟩
    have q2_6_0 : CellF w2 ⟨b, 0, none⟩ (.int .i64 lo) := (by refine CellF.keep hb2 ?_; repeat (first | with_reducible exact q1_1_0 | ((with_reducible refine CellF.at_ ?_ ?_); (first | (simp; done) | rfl); rfl) | with_reducible refine CellF.past _ ?_ | with_reducible refine CellF.drew ?_ | with_reducible refine CellF.drewN _ ?_))
    have c2_6_0 := q2_6_0.1
    have q2_6_1 : CellF w2 ⟨b, 1, none⟩ (.int .i64 hi) := (by refine CellF.keep hb2 ?_; repeat (first | with_reducible exact q1_1_1 | ((with_reducible refine CellF.at_ ?_ ?_); (first | (simp; done) | rfl); rfl) | with_reducible refine CellF.past _ ?_ | with_reducible refine CellF.drew ?_ | with_reducible refine CellF.drewN _ ?_))
    have c2_6_1 := q2_6_1.1
    have q2_6_2 : CellF w2 ⟨b, 2, none⟩ (.bool k) := (by refine CellF.keep hb2 ?_; repeat (first | with_reducible exact q1_1_2 | ((with_reducible refine CellF.at_ ?_ ?_); (first | (simp; done) | rfl); rfl) | with_reducible refine CellF.past _ ?_ | with_reducible refine CellF.drew ?_ | with_reducible refine CellF.drewN _ ?_))
    have c2_6_2 := q2_6_2.1
    have q2_6_3 : CellF w2 ⟨b, 3, none⟩ (.int .i64 a) := (by refine CellF.keep hb2 ?_; repeat (first | with_reducible exact q1_1_3 | ((with_reducible refine CellF.at_ ?_ ?_); (first | (simp; done) | rfl); rfl) | with_reducible refine CellF.past _ ?_ | with_reducible refine CellF.drew ?_ | with_reducible refine CellF.drewN _ ?_))
    have c2_6_3 := q2_6_3.1
    have q2_6_4 : CellF w2 ⟨b, 4, none⟩ (.int .i64 m) := (by refine CellF.keep hb2 ?_; repeat (first | with_reducible exact q1_1_4 | ((with_reducible refine CellF.at_ ?_ ?_); (first | (simp; done) | rfl); rfl) | with_reducible refine CellF.past _ ?_ | with_reducible refine CellF.drew ?_ | with_reducible refine CellF.drewN _ ?_))
    have c2_6_4 := q2_6_4.1
    have q2_6_5 : CellF w2 ⟨b, 5, none⟩ (.int .i64 p) := (by refine CellF.keep hb2 ?_; repeat (first | with_reducible exact q1_1_5 | ((with_reducible refine CellF.at_ ?_ ?_); (first | (simp; done) | rfl); rfl) | with_reducible refine CellF.past _ ?_ | with_reducible refine CellF.drew ?_ | with_reducible refine CellF.drewN _ ?_))
    have c2_6_5 := q2_6_5.1
    have z2_6 : b < w2.heap.size := ltc c2_6_0
    have q2_7_0 : CellF w2 ⟨w.heap.size, 0, none⟩ (.pointer (some ⟨b, 0, none⟩)) := (by refine CellF.keep hb2 ?_; repeat (first | with_reducible exact q1_2_0 | ((with_reducible refine CellF.at_ ?_ ?_); (first | (simp; done) | rfl); rfl) | with_reducible refine CellF.past _ ?_ | with_reducible refine CellF.drew ?_ | with_reducible refine CellF.drewN _ ?_))
    have c2_7_0 := q2_7_0.1
    have z2_7 : w.heap.size < w2.heap.size := ltc c2_7_0
    have q2_8_0 : CellF w2 ⟨(w.heap.size + 1), 0, none⟩ (.int .i64 x) := (by refine CellF.keep hb2 ?_; repeat (first | with_reducible exact q1_3_0 | ((with_reducible refine CellF.at_ ?_ ?_); (first | (simp; done) | rfl); rfl) | with_reducible refine CellF.past _ ?_ | with_reducible refine CellF.drew ?_ | with_reducible refine CellF.drewN _ ?_))
    have c2_8_0 := q2_8_0.1
    have q2_8_1 : CellF w2 ⟨(w.heap.size + 1), 1, none⟩ (.int .i64 y) := (by refine CellF.keep hb2 ?_; repeat (first | with_reducible exact q1_3_1 | ((with_reducible refine CellF.at_ ?_ ?_); (first | (simp; done) | rfl); rfl) | with_reducible refine CellF.past _ ?_ | with_reducible refine CellF.drew ?_ | with_reducible refine CellF.drewN _ ?_))
    have c2_8_1 := q2_8_1.1
    have q2_8_2 : CellF w2 ⟨(w.heap.size + 1), 2, none⟩ (.bool z) := (by refine CellF.keep hb2 ?_; repeat (first | with_reducible exact q1_3_2 | ((with_reducible refine CellF.at_ ?_ ?_); (first | (simp; done) | rfl); rfl) | with_reducible refine CellF.past _ ?_ | with_reducible refine CellF.drew ?_ | with_reducible refine CellF.drewN _ ?_))
    have c2_8_2 := q2_8_2.1
    have z2_8 : (w.heap.size + 1) < w2.heap.size := ltc c2_8_0
    have q2_9_0 : CellF w2 ⟨(w.heap.size + 2), 0, none⟩ (.int .i64 t) := (by refine CellF.keep hb2 ?_; repeat (first | with_reducible exact q1_4_0 | ((with_reducible refine CellF.at_ ?_ ?_); (first | (simp; done) | rfl); rfl) | with_reducible refine CellF.past _ ?_ | with_reducible refine CellF.drew ?_ | with_reducible refine CellF.drewN _ ?_))
    have c2_9_0 := q2_9_0.1
    have z2_9 : (w.heap.size + 2) < w2.heap.size := ltc c2_9_0
    have q2_10_0 : CellF w2 ⟨(w.heap.size + 3), 0, none⟩ (.bool k) := (by refine CellF.keep hb2 ?_; repeat (first | with_reducible exact q1_5_0 | ((with_reducible refine CellF.at_ ?_ ?_); (first | (simp; done) | rfl); rfl) | with_reducible refine CellF.past _ ?_ | with_reducible refine CellF.drew ?_ | with_reducible refine CellF.drewN _ ?_))
    have c2_10_0 := q2_10_0.1
    have z2_10 : (w.heap.size + 3) < w2.heap.size := ltc c2_10_0
    clear q1_1_0 c1_1_0 q1_1_1 c1_1_1 q1_1_2 c1_1_2 q1_1_3 c1_1_3 q1_1_4 c1_1_4 q1_1_5 c1_1_5 z1_1 q1_2_0 c1_2_0 z1_2 q1_3_0 c1_3_0 q1_3_1 c1_3_1 q1_3_2 c1_3_2 z1_3 q1_4_0 c1_4_0 z1_4 q1_5_0 c1_5_0 z1_5
    go_wp2_with fail
    refine (Meet_is _ _ _ _ _ _ _ _ _ HU _).mono ?_
    rintro e w3 ⟨rfl, hb3⟩
    have q3_11_0 : CellF w3 ⟨b, 0, none⟩ (.int .i64 lo) := (by refine CellF.keep hb3 ?_; repeat (first | with_reducible exact q2_6_0 | ((with_reducible refine CellF.at_ ?_ ?_); (first | (simp; done) | rfl); rfl) | with_reducible refine CellF.past _ ?_ | with_reducible refine CellF.drew ?_ | with_reducible refine CellF.drewN _ ?_))
    have c3_11_0 := q3_11_0.1
    have q3_11_1 : CellF w3 ⟨b, 1, none⟩ (.int .i64 hi) := (by refine CellF.keep hb3 ?_; repeat (first | with_reducible exact q2_6_1 | ((with_reducible refine CellF.at_ ?_ ?_); (first | (simp; done) | rfl); rfl) | with_reducible refine CellF.past _ ?_ | with_reducible refine CellF.drew ?_ | with_reducible refine CellF.drewN _ ?_))
    have c3_11_1 := q3_11_1.1
    have q3_11_2 : CellF w3 ⟨b, 2, none⟩ (.bool k) := (by refine CellF.keep hb3 ?_; repeat (first | with_reducible exact q2_6_2 | ((with_reducible refine CellF.at_ ?_ ?_); (first | (simp; done) | rfl); rfl) | with_reducible refine CellF.past _ ?_ | with_reducible refine CellF.drew ?_ | with_reducible refine CellF.drewN _ ?_))
    have c3_11_2 := q3_11_2.1
    have q3_11_3 : CellF w3 ⟨b, 3, none⟩ (.int .i64 a) := (by refine CellF.keep hb3 ?_; repeat (first | with_reducible exact q2_6_3 | ((with_reducible refine CellF.at_ ?_ ?_); (first | (simp; done) | rfl); rfl) | with_reducible refine CellF.past _ ?_ | with_reducible refine CellF.drew ?_ | with_reducible refine CellF.drewN _ ?_))
    have c3_11_3 := q3_11_3.1
    have q3_11_4 : CellF w3 ⟨b, 4, none⟩ (.int .i64 m) := (by refine CellF.keep hb3 ?_; repeat (first | with_reducible exact q2_6_4 | ((with_reducible refine CellF.at_ ?_ ?_); (first | (simp; done) | rfl); rfl) | with_reducible refine CellF.past _ ?_ | with_reducible refine CellF.drew ?_ | with_reducible refine CellF.drewN _ ?_))
    have c3_11_4 := q3_11_4.1
    have q3_11_5 : CellF w3 ⟨b, 5, none⟩ (.int .i64 p) := (by refine CellF.keep hb3 ?_; repeat (first | with_reducible exact q2_6_5 | ((with_reducible refine CellF.at_ ?_ ?_); (first | (simp; done) | rfl); rfl) | with_reducible refine CellF.past _ ?_ | with_reducible refine CellF.drew ?_ | with_reducible refine CellF.drewN _ ?_))
    have c3_11_5 := q3_11_5.1
    have z3_11 : b < w3.heap.size := ltc c3_11_0
    have q3_12_0 : CellF w3 ⟨w.heap.size, 0, none⟩ (.pointer (some ⟨b, 0, none⟩)) := (by refine CellF.keep hb3 ?_; repeat (first | with_reducible exact q2_7_0 | ((with_reducible refine CellF.at_ ?_ ?_); (first | (simp; done) | rfl); rfl) | with_reducible refine CellF.past _ ?_ | with_reducible refine CellF.drew ?_ | with_reducible refine CellF.drewN _ ?_))
    have c3_12_0 := q3_12_0.1
    have z3_12 : w.heap.size < w3.heap.size := ltc c3_12_0
    have q3_13_0 : CellF w3 ⟨(w.heap.size + 1), 0, none⟩ (.int .i64 x) := (by refine CellF.keep hb3 ?_; repeat (first | with_reducible exact q2_8_0 | ((with_reducible refine CellF.at_ ?_ ?_); (first | (simp; done) | rfl); rfl) | with_reducible refine CellF.past _ ?_ | with_reducible refine CellF.drew ?_ | with_reducible refine CellF.drewN _ ?_))
    have c3_13_0 := q3_13_0.1
    have q3_13_1 : CellF w3 ⟨(w.heap.size + 1), 1, none⟩ (.int .i64 y) := (by refine CellF.keep hb3 ?_; repeat (first | with_reducible exact q2_8_1 | ((with_reducible refine CellF.at_ ?_ ?_); (first | (simp; done) | rfl); rfl) | with_reducible refine CellF.past _ ?_ | with_reducible refine CellF.drew ?_ | with_reducible refine CellF.drewN _ ?_))
    have c3_13_1 := q3_13_1.1
    have q3_13_2 : CellF w3 ⟨(w.heap.size + 1), 2, none⟩ (.bool z) := (by refine CellF.keep hb3 ?_; repeat (first | with_reducible exact q2_8_2 | ((with_reducible refine CellF.at_ ?_ ?_); (first | (simp; done) | rfl); rfl) | with_reducible refine CellF.past _ ?_ | with_reducible refine CellF.drew ?_ | with_reducible refine CellF.drewN _ ?_))
    have c3_13_2 := q3_13_2.1
    have z3_13 : (w.heap.size + 1) < w3.heap.size := ltc c3_13_0
    have q3_14_0 : CellF w3 ⟨(w.heap.size + 2), 0, none⟩ (.int .i64 t) := (by refine CellF.keep hb3 ?_; repeat (first | with_reducible exact q2_9_0 | ((with_reducible refine CellF.at_ ?_ ?_); (first | (simp; done) | rfl); rfl) | with_reducible refine CellF.past _ ?_ | with_reducible refine CellF.drew ?_ | with_reducible refine CellF.drewN _ ?_))
    have c3_14_0 := q3_14_0.1
    have z3_14 : (w.heap.size + 2) < w3.heap.size := ltc c3_14_0
    have q3_15_0 : CellF w3 ⟨(w.heap.size + 3), 0, none⟩ (.bool k) := (by refine CellF.keep hb3 ?_; repeat (first | with_reducible exact q2_10_0 | ((with_reducible refine CellF.at_ ?_ ?_); (first | (simp; done) | rfl); rfl) | with_reducible refine CellF.past _ ?_ | with_reducible refine CellF.drew ?_ | with_reducible refine CellF.drewN _ ?_))
    have c3_15_0 := q3_15_0.1
    have z3_15 : (w.heap.size + 3) < w3.heap.size := ltc c3_15_0
    have q3_16_0 : CellF w3 ⟨w2.heap.size, 0, none⟩ (.int .i64 r1) := (by refine CellF.keep hb3 ?_; (first | ((repeat (first | ((with_reducible refine CellF.at_ ?_ ?_); (first | (simp; done) | rfl); rfl) | with_reducible refine CellF.past _ ?_ | with_reducible refine CellF.drew ?_ | with_reducible refine CellF.drewN _ ?_)); done) | (refine ⟨?_, ?_⟩ <;> go_simp)))
    have c3_16_0 := q3_16_0.1
    have q3_16_1 : CellF w3 ⟨w2.heap.size, 1, none⟩ (.int .i64 r2) := (by refine CellF.keep hb3 ?_; (first | ((repeat (first | ((with_reducible refine CellF.at_ ?_ ?_); (first | (simp; done) | rfl); rfl) | with_reducible refine CellF.past _ ?_ | with_reducible refine CellF.drew ?_ | with_reducible refine CellF.drewN _ ?_)); done) | (refine ⟨?_, ?_⟩ <;> go_simp)))
    have c3_16_1 := q3_16_1.1
    have q3_16_2 : CellF w3 ⟨w2.heap.size, 2, none⟩ (.bool r3) := (by refine CellF.keep hb3 ?_; (first | ((repeat (first | ((with_reducible refine CellF.at_ ?_ ?_); (first | (simp; done) | rfl); rfl) | with_reducible refine CellF.past _ ?_ | with_reducible refine CellF.drew ?_ | with_reducible refine CellF.drewN _ ?_)); done) | (refine ⟨?_, ?_⟩ <;> go_simp)))
    have c3_16_2 := q3_16_2.1
    have z3_16 : w2.heap.size < w3.heap.size := ltc c3_16_0
    clear q2_6_0 c2_6_0 q2_6_1 c2_6_1 q2_6_2 c2_6_2 q2_6_3 c2_6_3 q2_6_4 c2_6_4 q2_6_5 c2_6_5 z2_6 q2_7_0 c2_7_0 z2_7 q2_8_0 c2_8_0 q2_8_1 c2_8_1 q2_8_2 c2_8_2 z2_8 q2_9_0 c2_9_0 z2_9 q2_10_0 c2_10_0 z2_10
    cases r3 with
    | false =>
      have hx : ((⟨x, y, z⟩ : Sp), t, (1 : Int), !k) = (⟨lo', hi', k'⟩, a', m', r) := HX.out
      obtain ⟨hs, hx⟩ := Prod.mk.inj hx
      obtain ⟨h2, hx⟩ := Prod.mk.inj hx
      obtain ⟨h3, h4⟩ := Prod.mk.inj hx
      clear hx HX
      subst h2 h3 h4
      cases hs
      have f3_11_0 := q3_11_0.2
      have f3_11_1 := q3_11_1.2
      have f3_11_2 := q3_11_2.2
      have f3_11_3 := q3_11_3.2
      have f3_11_4 := q3_11_4.2
      have hks := known_sets x y z t 1 (show SrvAt w3 b lo hi k a m p from ⟨q3_11_0, q3_11_1, q3_11_2, q3_11_3, q3_11_4, q3_11_5⟩)
      have HKS := Lib.hid hks
      clear hks
      have hw3 : Only b w w3 := Only.of (by repeat (first | exact brefl _ | refine balloc ?_ _ | refine bdrewN ?_ _ | refine bset ?_ (by dsimp only; omega) _ | refine bstep ?_ (by assumption))) (Nat.le_of_lt hlt)
      have hl3 : b < w3.heap.size := z3_11
      go_wp2
      go_ret
      exact ⟨rfl, hw3.trans (HKS.out.2.trans (Only.of (balloc (brefl _) _) (by simp [World.size_setCell]; omega))), SrvAt.past _ HKS.out.1⟩
    | true =>
      cases u3 with
      | false =>
        have hx : ((⟨x, y, z⟩ : Sp), t, (1 : Int), !k) = (⟨lo', hi', k'⟩, a', m', r) := HX.out
        obtain ⟨hs, hx⟩ := Prod.mk.inj hx
        obtain ⟨h2, hx⟩ := Prod.mk.inj hx
        obtain ⟨h3, h4⟩ := Prod.mk.inj hx
        clear hx HX
        subst h2 h3 h4
        cases hs
        have f3_11_0 := q3_11_0.2
        have f3_11_1 := q3_11_1.2
        have f3_11_2 := q3_11_2.2
        have f3_11_3 := q3_11_3.2
        have f3_11_4 := q3_11_4.2
        have hks := known_sets x y z t 1 (show SrvAt w3 b lo hi k a m p from ⟨q3_11_0, q3_11_1, q3_11_2, q3_11_3, q3_11_4, q3_11_5⟩)
        have HKS := Lib.hid hks
        clear hks
        have hw3 : Only b w w3 := Only.of (by repeat (first | exact brefl _ | refine balloc ?_ _ | refine bdrewN ?_ _ | refine bset ?_ (by dsimp only; omega) _ | refine bstep ?_ (by assumption))) (Nat.le_of_lt hlt)
        have hl3 : b < w3.heap.size := z3_11
        go_wp2
        go_ret
        exact ⟨rfl, hw3.trans (HKS.out.2.trans (Only.of (balloc (brefl _) _) (by simp [World.size_setCell]; omega))), SrvAt.past _ HKS.out.1⟩
      | true =>
        have hx : ((⟨u1, u2, true⟩ : Sp), t, m + 1, true) = (⟨lo', hi', k'⟩, a', m', r) := HX.out
        obtain ⟨hs, hx⟩ := Prod.mk.inj hx
        obtain ⟨h2, hx⟩ := Prod.mk.inj hx
        obtain ⟨h3, h4⟩ := Prod.mk.inj hx
        clear hx HX
        subst h2 h3 h4
        cases hs
        have f3_11_0 := q3_11_0.2
        have f3_11_1 := q3_11_1.2
        have f3_11_2 := q3_11_2.2
        have f3_11_3 := q3_11_3.2
        have f3_11_4 := q3_11_4.2
        have hks := known_sets lo' hi' true t (m + 1) (show SrvAt w3 b lo hi k a m p from ⟨q3_11_0, q3_11_1, q3_11_2, q3_11_3, q3_11_4, q3_11_5⟩)
        have HKS := Lib.hid hks
        clear hks
        have hw3 : Only b w w3 := Only.of (by repeat (first | exact brefl _ | refine balloc ?_ _ | refine bdrewN ?_ _ | refine bset ?_ (by dsimp only; omega) _ | refine bstep ?_ (by assumption))) (Nat.le_of_lt hlt)
        have hl3 : b < w3.heap.size := z3_11
        go_wp2_with fail
        skip
        generalize hz : w3.alloc (.cells #[.int .i64 lo', .int .i64 hi', .bool true] 50) = zw
        have hZ : Below w3.heap.size w3 zw := by rw [← hz]; exact balloc (brefl _) _
        have e0 := CellF.keep hZ q3_11_0
        have ec0 := e0.1
        have e1 := CellF.keep hZ q3_11_1
        have ec1 := e1.1
        have e2 := CellF.keep hZ q3_11_2
        have ec2 := e2.1
        have e3 := CellF.keep hZ q3_11_3
        have ec3 := e3.1
        have e4 := CellF.keep hZ q3_11_4
        have ec4 := e4.1
        have e5 := CellF.keep hZ q3_11_5
        have ec5 := e5.1
        have ep := CellF.keep hZ q3_12_0
        have epc := ep.1
        have et := CellF.keep hZ q3_14_0
        have etc := et.1
        have eu0 : CellF zw ⟨w3.heap.size, 0, none⟩ (.int .i64 lo') := by rw [← hz]; exact CellF.at_ rfl rfl
        have euc0 := eu0.1
        have eu1 : CellF zw ⟨w3.heap.size, 1, none⟩ (.int .i64 hi') := by rw [← hz]; exact CellF.at_ rfl rfl
        have euc1 := eu1.1
        have eu2 : CellF zw ⟨w3.heap.size, 2, none⟩ (.bool true) := by rw [← hz]; exact CellF.at_ rfl rfl
        have euc2 := eu2.1
        have hzw : Only b w zw := hw3.trans (Only.of hZ (Nat.le_of_lt hl3))
        have hbz : b < zw.heap.size := e0.lt
        clear hz
        have hwm : IntKind.i64.wrap (m + 1) = m + 1 := by rw [IntKind.wrap_i64]; omega
        refine wp_region_inv (by kernel_rfl) (fun ls ac w' => ∃ v43 v44 v45 v46 v47 v48 v49 v50 v51 v52 v53 v54, ac = ⟨#[.pointer (some ⟨b, 0, none⟩), .agg #[.int .i64 x, .int .i64 y, .bool z], .int .i64 t, .pointer (some ⟨w.heap.size, 0, none⟩), .pointer (some ⟨w.heap.size + 1, 0, none⟩), .pointer (some ⟨w.heap.size + 1 + 1, 0, none⟩), .bool false, .pointer (some ⟨w.heap.size + 1 + 1 + 1, 0, none⟩), .func (.func 108) #[] #[.pointer (some ⟨w.heap.size + 1, 0, none⟩), .pointer (some ⟨w.heap.size + 1 + 1, 0, none⟩), .pointer (some ⟨w.heap.size + 1 + 1 + 1, 0, none⟩), .pointer (some ⟨w.heap.size, 0, none⟩)], .pointer (some ⟨w2.heap.size, 0, none⟩), .pointer (some ⟨w3.heap.size, 0, none⟩), .pointer (some ⟨b, 0, none⟩), .pointer (some ⟨b, 0, none⟩), .pointer (some ⟨b, 0, none⟩), .pointer (some ⟨b, 0, none⟩), .pointer (some ⟨b, 2, none⟩), .bool k, .func (.func 108) #[] #[.pointer (some ⟨w.heap.size + 1, 0, none⟩), .pointer (some ⟨w.heap.size + 1 + 1, 0, none⟩), .pointer (some ⟨w.heap.size + 1 + 1 + 1, 0, none⟩), .pointer (some ⟨w.heap.size, 0, none⟩)], .func (.func 108) #[] #[.pointer (some ⟨w.heap.size + 1, 0, none⟩), .pointer (some ⟨w.heap.size + 1 + 1, 0, none⟩), .pointer (some ⟨w.heap.size + 1 + 1 + 1, 0, none⟩), .pointer (some ⟨w.heap.size, 0, none⟩)], .bool true, .bool false, .pointer (some ⟨b, 0, none⟩), .int .i64 t, .agg #[.int .i64 r1, .int .i64 r2, .bool true], .agg #[.int .i64 r1, .int .i64 r2, .bool true], .agg #[.int .i64 x, .int .i64 y, .bool z], .agg #[.int .i64 lo', .int .i64 hi', .bool true], .pointer (some ⟨w2.heap.size, 2, none⟩), .bool true, .bool false, .bool false, .pointer (some ⟨w3.heap.size, 2, none⟩), .bool true, .bool false, .bool false, undef, undef, undef, undef, undef, undef, undef, undef, v43, v44, v45, v46, v47, v48, v49, v50, v51, v52, v53, v54], []⟩ ∧ ls.size = 13 ∧ (ls.getD 12 false = false → Below zw.heap.size zw w') ∧ (ls.getD 0 false = true → v43 = .pointer (some ⟨b, 0, none⟩)) ∧ (ls.getD 1 false = true → v44 = .agg #[.int .i64 lo', .int .i64 hi', .bool true]) ∧ (ls.getD 2 false = true → v45 = .int .i64 t) ∧ (ls.getD 3 false = true → v46 = .pointer (some ⟨b, 0, none⟩)) ∧ (ls.getD 4 false = true → v47 = .pointer (some ⟨b, 0, none⟩)) ∧ (ls.getD 5 false = true → v48 = .pointer (some ⟨b, 0, none⟩)) ∧ (ls.getD 6 false = true → v49 = .pointer (some ⟨b, 4, none⟩)) ∧ (ls.getD 7 false = true → v50 = .int .i64 m) ∧ (ls.getD 8 false = true → v51 = .int .i64 (m + 1)) ∧ (ls.getD 9 false = true → v52 = .agg #[.int .i64 lo', .int .i64 hi', .bool true, .int .i64 t, .int .i64 (m + 1)]) ∧ (ls.getD 10 false = true → v53 = .pointer (some ⟨b, 0, none⟩)) ∧ (ls.getD 11 false = true → v54 = .pointer (some ⟨b, 0, none⟩)) ∧ (ls.getD 4 false = true → ls.getD 3 false = true ∧ True) ∧ (ls.getD 5 false = true → ls.getD 4 false = true ∧ True) ∧ (ls.getD 6 false = true → ls.getD 5 false = true ∧ True) ∧ (ls.getD 7 false = true → ls.getD 6 false = true ∧ True) ∧ (ls.getD 8 false = true → ls.getD 7 false = true ∧ True) ∧ (ls.getD 9 false = true → ls.getD 1 false = true ∧ ls.getD 2 false = true ∧ ls.getD 8 false = true ∧ True) ∧ (ls.getD 10 false = true → ls.getD 0 false = true ∧ True) ∧ (ls.getD 11 false = true → ls.getD 10 false = true ∧ True) ∧ (ls.getD 12 false = true → Only b zw w' ∧ SrvAt w' b lo' hi' true t (m + 1) p) ∧ (ls.getD 12 false = true → ∀ i, i < 13 → ls.getD i false = true)) ?_ ?_ ?_
        · exact ⟨_, _, _, _, _, _, _, _, _, _, _, _, rfl, rfl, fun _ => bdrew (brefl _), fun h => (by cases h), fun h => (by cases h), fun h => (by cases h), fun h => (by cases h), fun h => (by cases h), fun h => (by cases h), fun h => (by cases h), fun h => (by cases h), fun h => (by cases h), fun h => (by cases h), fun h => (by cases h), fun h => (by cases h), fun h => (by cases h), fun h => (by cases h), fun h => (by cases h), fun h => (by cases h), fun h => (by cases h), fun h => (by cases h), fun h => (by cases h), fun h => (by cases h), fun h => (by cases h), fun h => (by cases h)⟩
        · intro i hii
          have hin : i < 13 := hii
          have hor : i = 0 ∨ i = 1 ∨ i = 2 ∨ i = 3 ∨ i = 4 ∨ i = 5 ∨ i = 6 ∨ i = 7 ∨ i = 8 ∨ i = 9 ∨ i = 10 ∨ i = 11 ∨ i = 12 := (by decide : ∀ i : Nat, i < 13 → (i = 0 ∨ i = 1 ∨ i = 2 ∨ i = 3 ∨ i = 4 ∨ i = 5 ∨ i = 6 ∨ i = 7 ∨ i = 8 ∨ i = 9 ∨ i = 10 ∨ i = 11 ∨ i = 12)) i hin
          rcases hor with rfl | rfl | rfl | rfl | rfl | rfl | rfl | rfl | rfl | rfl | rfl | rfl | rfl
          · rintro ls ac w' hr ⟨v43, v44, v45, v46, v47, v48, v49, v50, v51, v52, v53, v54, rfl, hl, hB', zg0, zg1, zg2, zg3, zg4, zg5, zg6, zg7, zg8, zg9, zg10, zg11, zc4, zc5, zc6, zc7, zc8, zc9, zc10, zc11, hS, hK⟩
            have hs0 : ls.getD 12 false = false := by cases hc : ls.getD 12 false with | false => rfl | true => (exfalso; have hz := hK hc 0 (by decide); have hn := (ready_dep hr rfl).1; rw [getD_both hz] at hn; cases hn)
            have hB := hB' hs0
            have a0 := (hB.cell (ltc epc)).trans epc
            have a1 := (hB.cell (ltc euc0)).trans euc0
            have a2 := (hB.cell (ltc euc1)).trans euc1
            have a3 := (hB.cell (ltc euc2)).trans euc2
            have a4 := (hB.cell (ltc etc)).trans etc
            have a5 := (hB.cell (ltc ec4)).trans ec4
            refine wpOp_step rfl (fun K hK => ?_)
            clear hr
            go_simp
            refine hK _ _ ?_
            simp only [getD_own (l := ls) (i := 0) (by omega), gs 0 1, gs 0 2, gs 0 3, gs 0 4, gs 0 5, gs 0 6, gs 0 7, gs 0 8, gs 0 9, gs 0 10, gs 0 11, gs 0 12]
            exact ⟨_, v44, v45, v46, v47, v48, v49, v50, v51, v52, v53, v54, rfl, by simp [hl], fun _ => hB, fun _ => rfl, zg1, zg2, zg3, zg4, zg5, zg6, zg7, zg8, zg9, zg10, zg11, zc4, zc5, zc6, zc7, zc8, zc9, fun h => ⟨(by first | rfl | trivial), trivial⟩, zc11, fun h => (by rw [hs0] at h; cases h), fun h => (by rw [hs0] at h; cases h)⟩
          · rintro ls ac w' hr ⟨v43, v44, v45, v46, v47, v48, v49, v50, v51, v52, v53, v54, rfl, hl, hB', zg0, zg1, zg2, zg3, zg4, zg5, zg6, zg7, zg8, zg9, zg10, zg11, zc4, zc5, zc6, zc7, zc8, zc9, zc10, zc11, hS, hK⟩
            have hs0 : ls.getD 12 false = false := by cases hc : ls.getD 12 false with | false => rfl | true => (exfalso; have hz := hK hc 1 (by decide); have hn := (ready_dep hr rfl).1; rw [getD_both hz] at hn; cases hn)
            have hB := hB' hs0
            have a0 := (hB.cell (ltc epc)).trans epc
            have a1 := (hB.cell (ltc euc0)).trans euc0
            have a2 := (hB.cell (ltc euc1)).trans euc1
            have a3 := (hB.cell (ltc euc2)).trans euc2
            have a4 := (hB.cell (ltc etc)).trans etc
            have a5 := (hB.cell (ltc ec4)).trans ec4
            refine wpOp_step rfl (fun K hK => ?_)
            clear hr
            go_simp
            refine hK _ _ ?_
            simp only [getD_own (l := ls) (i := 1) (by omega), gs 1 0, gs 1 2, gs 1 3, gs 1 4, gs 1 5, gs 1 6, gs 1 7, gs 1 8, gs 1 9, gs 1 10, gs 1 11, gs 1 12]
            exact ⟨v43, _, v45, v46, v47, v48, v49, v50, v51, v52, v53, v54, rfl, by simp [hl], fun _ => hB, zg0, fun _ => rfl, zg2, zg3, zg4, zg5, zg6, zg7, zg8, zg9, zg10, zg11, zc4, zc5, zc6, zc7, zc8, fun h => ⟨(by first | rfl | trivial), (zc9 h).2.1, (zc9 h).2.2.1, trivial⟩, zc10, zc11, fun h => (by rw [hs0] at h; cases h), fun h => (by rw [hs0] at h; cases h)⟩
          · rintro ls ac w' hr ⟨v43, v44, v45, v46, v47, v48, v49, v50, v51, v52, v53, v54, rfl, hl, hB', zg0, zg1, zg2, zg3, zg4, zg5, zg6, zg7, zg8, zg9, zg10, zg11, zc4, zc5, zc6, zc7, zc8, zc9, zc10, zc11, hS, hK⟩
            have hs0 : ls.getD 12 false = false := by cases hc : ls.getD 12 false with | false => rfl | true => (exfalso; have hz := hK hc 2 (by decide); have hn := (ready_dep hr rfl).1; rw [getD_both hz] at hn; cases hn)
            have hB := hB' hs0
            have a0 := (hB.cell (ltc epc)).trans epc
            have a1 := (hB.cell (ltc euc0)).trans euc0
            have a2 := (hB.cell (ltc euc1)).trans euc1
            have a3 := (hB.cell (ltc euc2)).trans euc2
            have a4 := (hB.cell (ltc etc)).trans etc
            have a5 := (hB.cell (ltc ec4)).trans ec4
            refine wpOp_step rfl (fun K hK => ?_)
            clear hr
            go_simp
            refine hK _ _ ?_
            simp only [getD_own (l := ls) (i := 2) (by omega), gs 2 0, gs 2 1, gs 2 3, gs 2 4, gs 2 5, gs 2 6, gs 2 7, gs 2 8, gs 2 9, gs 2 10, gs 2 11, gs 2 12]
            exact ⟨v43, v44, _, v46, v47, v48, v49, v50, v51, v52, v53, v54, rfl, by simp [hl], fun _ => hB, zg0, zg1, fun _ => rfl, zg3, zg4, zg5, zg6, zg7, zg8, zg9, zg10, zg11, zc4, zc5, zc6, zc7, zc8, fun h => ⟨(zc9 h).1, (by first | rfl | trivial), (zc9 h).2.2.1, trivial⟩, zc10, zc11, fun h => (by rw [hs0] at h; cases h), fun h => (by rw [hs0] at h; cases h)⟩
          · rintro ls ac w' hr ⟨v43, v44, v45, v46, v47, v48, v49, v50, v51, v52, v53, v54, rfl, hl, hB', zg0, zg1, zg2, zg3, zg4, zg5, zg6, zg7, zg8, zg9, zg10, zg11, zc4, zc5, zc6, zc7, zc8, zc9, zc10, zc11, hS, hK⟩
            have hs0 : ls.getD 12 false = false := by cases hc : ls.getD 12 false with | false => rfl | true => (exfalso; have hz := hK hc 3 (by decide); have hn := (ready_dep hr rfl).1; rw [getD_both hz] at hn; cases hn)
            have hB := hB' hs0
            have a0 := (hB.cell (ltc epc)).trans epc
            have a1 := (hB.cell (ltc euc0)).trans euc0
            have a2 := (hB.cell (ltc euc1)).trans euc1
            have a3 := (hB.cell (ltc euc2)).trans euc2
            have a4 := (hB.cell (ltc etc)).trans etc
            have a5 := (hB.cell (ltc ec4)).trans ec4
            refine wpOp_step rfl (fun K hK => ?_)
            clear hr
            go_simp
            refine hK _ _ ?_
            simp only [getD_own (l := ls) (i := 3) (by omega), gs 3 0, gs 3 1, gs 3 2, gs 3 4, gs 3 5, gs 3 6, gs 3 7, gs 3 8, gs 3 9, gs 3 10, gs 3 11, gs 3 12]
            exact ⟨v43, v44, v45, _, v47, v48, v49, v50, v51, v52, v53, v54, rfl, by simp [hl], fun _ => hB, zg0, zg1, zg2, fun _ => rfl, zg4, zg5, zg6, zg7, zg8, zg9, zg10, zg11, fun h => ⟨(by first | rfl | trivial), trivial⟩, zc5, zc6, zc7, zc8, zc9, zc10, zc11, fun h => (by rw [hs0] at h; cases h), fun h => (by rw [hs0] at h; cases h)⟩
          · rintro ls ac w' hr ⟨v43, v44, v45, v46, v47, v48, v49, v50, v51, v52, v53, v54, rfl, hl, hB', zg0, zg1, zg2, zg3, zg4, zg5, zg6, zg7, zg8, zg9, zg10, zg11, zc4, zc5, zc6, zc7, zc8, zc9, zc10, zc11, hS, hK⟩
            have zd3 : ls.getD 3 false = true := (ready_dep hr rfl).2 ⟨3, .data⟩ (by simp) rfl
            have hs0 : ls.getD 12 false = false := by cases hc : ls.getD 12 false with | false => rfl | true => (exfalso; have hz := hK hc 4 (by decide); have hn := (ready_dep hr rfl).1; rw [getD_both hz] at hn; cases hn)
            have hB := hB' hs0
            obtain rfl := zg3 zd3
            refine wpOp_step rfl (fun K hK => ?_)
            clear hr
            go_simp
            refine hK _ _ ?_
            simp only [getD_own (l := ls) (i := 4) (by omega), gs 4 0, gs 4 1, gs 4 2, gs 4 3, gs 4 5, gs 4 6, gs 4 7, gs 4 8, gs 4 9, gs 4 10, gs 4 11, gs 4 12]
            exact ⟨v43, v44, v45, _, _, v48, v49, v50, v51, v52, v53, v54, rfl, by simp [hl], fun _ => hB, zg0, zg1, zg2, fun _ => rfl, fun _ => rfl, zg5, zg6, zg7, zg8, zg9, zg10, zg11, fun _ => ⟨zd3, trivial⟩, fun h => ⟨(by first | rfl | trivial), trivial⟩, zc6, zc7, zc8, zc9, zc10, zc11, fun h => (by rw [hs0] at h; cases h), fun h => (by rw [hs0] at h; cases h)⟩
          · rintro ls ac w' hr ⟨v43, v44, v45, v46, v47, v48, v49, v50, v51, v52, v53, v54, rfl, hl, hB', zg0, zg1, zg2, zg3, zg4, zg5, zg6, zg7, zg8, zg9, zg10, zg11, zc4, zc5, zc6, zc7, zc8, zc9, zc10, zc11, hS, hK⟩
            have zd4 : ls.getD 4 false = true := (ready_dep hr rfl).2 ⟨4, .data⟩ (by simp) rfl
            have zd3 := (zc4 zd4).1
            have hs0 : ls.getD 12 false = false := by cases hc : ls.getD 12 false with | false => rfl | true => (exfalso; have hz := hK hc 5 (by decide); have hn := (ready_dep hr rfl).1; rw [getD_both hz] at hn; cases hn)
            have hB := hB' hs0
            obtain rfl := zg4 zd4
            obtain rfl := zg3 zd3
            refine wpOp_step rfl (fun K hK => ?_)
            clear hr
            go_simp
            refine hK _ _ ?_
            simp only [getD_own (l := ls) (i := 5) (by omega), gs 5 0, gs 5 1, gs 5 2, gs 5 3, gs 5 4, gs 5 6, gs 5 7, gs 5 8, gs 5 9, gs 5 10, gs 5 11, gs 5 12]
            exact ⟨v43, v44, v45, _, _, _, v49, v50, v51, v52, v53, v54, rfl, by simp [hl], fun _ => hB, zg0, zg1, zg2, fun _ => rfl, fun _ => rfl, fun _ => rfl, zg6, zg7, zg8, zg9, zg10, zg11, zc4, fun _ => ⟨zd4, trivial⟩, fun h => ⟨(by first | rfl | trivial), trivial⟩, zc7, zc8, zc9, zc10, zc11, fun h => (by rw [hs0] at h; cases h), fun h => (by rw [hs0] at h; cases h)⟩
          · rintro ls ac w' hr ⟨v43, v44, v45, v46, v47, v48, v49, v50, v51, v52, v53, v54, rfl, hl, hB', zg0, zg1, zg2, zg3, zg4, zg5, zg6, zg7, zg8, zg9, zg10, zg11, zc4, zc5, zc6, zc7, zc8, zc9, zc10, zc11, hS, hK⟩
            have zd5 : ls.getD 5 false = true := (ready_dep hr rfl).2 ⟨5, .data⟩ (by simp) rfl
            have zd4 := (zc5 zd5).1
            have zd3 := (zc4 zd4).1
            have hs0 : ls.getD 12 false = false := by cases hc : ls.getD 12 false with | false => rfl | true => (exfalso; have hz := hK hc 6 (by decide); have hn := (ready_dep hr rfl).1; rw [getD_both hz] at hn; cases hn)
            have hB := hB' hs0
            obtain rfl := zg5 zd5
            obtain rfl := zg4 zd4
            obtain rfl := zg3 zd3
            refine wpOp_step rfl (fun K hK => ?_)
            clear hr
            go_simp
            refine hK _ _ ?_
            simp only [getD_own (l := ls) (i := 6) (by omega), gs 6 0, gs 6 1, gs 6 2, gs 6 3, gs 6 4, gs 6 5, gs 6 7, gs 6 8, gs 6 9, gs 6 10, gs 6 11, gs 6 12]
            exact ⟨v43, v44, v45, _, _, _, _, v50, v51, v52, v53, v54, rfl, by simp [hl], fun _ => hB, zg0, zg1, zg2, fun _ => rfl, fun _ => rfl, fun _ => rfl, fun _ => rfl, zg7, zg8, zg9, zg10, zg11, zc4, zc5, fun _ => ⟨zd5, trivial⟩, fun h => ⟨(by first | rfl | trivial), trivial⟩, zc8, zc9, zc10, zc11, fun h => (by rw [hs0] at h; cases h), fun h => (by rw [hs0] at h; cases h)⟩
          · rintro ls ac w' hr ⟨v43, v44, v45, v46, v47, v48, v49, v50, v51, v52, v53, v54, rfl, hl, hB', zg0, zg1, zg2, zg3, zg4, zg5, zg6, zg7, zg8, zg9, zg10, zg11, zc4, zc5, zc6, zc7, zc8, zc9, zc10, zc11, hS, hK⟩
            have zd6 : ls.getD 6 false = true := (ready_dep hr rfl).2 ⟨6, .data⟩ (by simp) rfl
            have zd5 := (zc6 zd6).1
            have zd4 := (zc5 zd5).1
            have zd3 := (zc4 zd4).1
            have hs0 : ls.getD 12 false = false := by cases hc : ls.getD 12 false with | false => rfl | true => (exfalso; have hz := hK hc 7 (by decide); have hn := (ready_dep hr rfl).1; rw [getD_both hz] at hn; cases hn)
            have hB := hB' hs0
            obtain rfl := zg6 zd6
            obtain rfl := zg5 zd5
            obtain rfl := zg4 zd4
            obtain rfl := zg3 zd3
            have a0 := (hB.cell (ltc epc)).trans epc
            have a1 := (hB.cell (ltc euc0)).trans euc0
            have a2 := (hB.cell (ltc euc1)).trans euc1
            have a3 := (hB.cell (ltc euc2)).trans euc2
            have a4 := (hB.cell (ltc etc)).trans etc
            have a5 := (hB.cell (ltc ec4)).trans ec4
            refine wpOp_step rfl (fun K hK => ?_)
            clear hr
            go_simp
            refine hK _ _ ?_
            simp only [getD_own (l := ls) (i := 7) (by omega), gs 7 0, gs 7 1, gs 7 2, gs 7 3, gs 7 4, gs 7 5, gs 7 6, gs 7 8, gs 7 9, gs 7 10, gs 7 11, gs 7 12]
            exact ⟨v43, v44, v45, _, _, _, _, _, v51, v52, v53, v54, rfl, by simp [hl], fun _ => hB, zg0, zg1, zg2, fun _ => rfl, fun _ => rfl, fun _ => rfl, fun _ => rfl, fun _ => rfl, zg8, zg9, zg10, zg11, zc4, zc5, zc6, fun _ => ⟨zd6, trivial⟩, fun h => ⟨(by first | rfl | trivial), trivial⟩, zc9, zc10, zc11, fun h => (by rw [hs0] at h; cases h), fun h => (by rw [hs0] at h; cases h)⟩
          · rintro ls ac w' hr ⟨v43, v44, v45, v46, v47, v48, v49, v50, v51, v52, v53, v54, rfl, hl, hB', zg0, zg1, zg2, zg3, zg4, zg5, zg6, zg7, zg8, zg9, zg10, zg11, zc4, zc5, zc6, zc7, zc8, zc9, zc10, zc11, hS, hK⟩
            have zd7 : ls.getD 7 false = true := (ready_dep hr rfl).2 ⟨7, .data⟩ (by simp) rfl
            have zd6 := (zc7 zd7).1
            have zd5 := (zc6 zd6).1
            have zd4 := (zc5 zd5).1
            have zd3 := (zc4 zd4).1
            have hs0 : ls.getD 12 false = false := by cases hc : ls.getD 12 false with | false => rfl | true => (exfalso; have hz := hK hc 8 (by decide); have hn := (ready_dep hr rfl).1; rw [getD_both hz] at hn; cases hn)
            have hB := hB' hs0
            obtain rfl := zg7 zd7
            obtain rfl := zg6 zd6
            obtain rfl := zg5 zd5
            obtain rfl := zg4 zd4
            obtain rfl := zg3 zd3
            refine wpOp_step rfl (fun K hK => ?_)
            clear hr
            go_simp
            refine hK _ _ ?_
            simp only [getD_own (l := ls) (i := 8) (by omega), gs 8 0, gs 8 1, gs 8 2, gs 8 3, gs 8 4, gs 8 5, gs 8 6, gs 8 7, gs 8 9, gs 8 10, gs 8 11, gs 8 12]
            exact ⟨v43, v44, v45, _, _, _, _, _, _, v52, v53, v54, rfl, by simp [hl], fun _ => hB, zg0, zg1, zg2, fun _ => rfl, fun _ => rfl, fun _ => rfl, fun _ => rfl, fun _ => rfl, fun _ => rfl, zg9, zg10, zg11, zc4, zc5, zc6, zc7, fun _ => ⟨zd7, trivial⟩, fun h => ⟨(zc9 h).1, (zc9 h).2.1, (by first | rfl | trivial), trivial⟩, zc10, zc11, fun h => (by rw [hs0] at h; cases h), fun h => (by rw [hs0] at h; cases h)⟩
          · rintro ls ac w' hr ⟨v43, v44, v45, v46, v47, v48, v49, v50, v51, v52, v53, v54, rfl, hl, hB', zg0, zg1, zg2, zg3, zg4, zg5, zg6, zg7, zg8, zg9, zg10, zg11, zc4, zc5, zc6, zc7, zc8, zc9, zc10, zc11, hS, hK⟩
            have zd1 : ls.getD 1 false = true := (ready_dep hr rfl).2 ⟨1, .data⟩ (by simp) rfl
            have zd2 : ls.getD 2 false = true := (ready_dep hr rfl).2 ⟨2, .data⟩ (by simp) rfl
            have zd8 : ls.getD 8 false = true := (ready_dep hr rfl).2 ⟨8, .data⟩ (by simp) rfl
            have zd7 := (zc8 zd8).1
            have zd6 := (zc7 zd7).1
            have zd5 := (zc6 zd6).1
            have zd4 := (zc5 zd5).1
            have zd3 := (zc4 zd4).1
            have hs0 : ls.getD 12 false = false := by cases hc : ls.getD 12 false with | false => rfl | true => (exfalso; have hz := hK hc 9 (by decide); have hn := (ready_dep hr rfl).1; rw [getD_both hz] at hn; cases hn)
            have hB := hB' hs0
            obtain rfl := zg1 zd1
            obtain rfl := zg2 zd2
            obtain rfl := zg8 zd8
            obtain rfl := zg7 zd7
            obtain rfl := zg6 zd6
            obtain rfl := zg5 zd5
            obtain rfl := zg4 zd4
            obtain rfl := zg3 zd3
            refine wpOp_step rfl (fun K hK => ?_)
            clear hr
            go_simp
            refine hK _ _ ?_
            simp only [getD_own (l := ls) (i := 9) (by omega), gs 9 0, gs 9 1, gs 9 2, gs 9 3, gs 9 4, gs 9 5, gs 9 6, gs 9 7, gs 9 8, gs 9 10, gs 9 11, gs 9 12]
            exact ⟨v43, _, _, _, _, _, _, _, _, _, v53, v54, rfl, by simp [hl], fun _ => hB, zg0, fun _ => rfl, fun _ => rfl, fun _ => rfl, fun _ => rfl, fun _ => rfl, fun _ => rfl, fun _ => rfl, fun _ => rfl, fun _ => rfl, zg10, zg11, zc4, zc5, zc6, zc7, zc8, fun _ => ⟨zd1, zd2, zd8, trivial⟩, zc10, zc11, fun h => (by rw [hs0] at h; cases h), fun h => (by rw [hs0] at h; cases h)⟩
          · rintro ls ac w' hr ⟨v43, v44, v45, v46, v47, v48, v49, v50, v51, v52, v53, v54, rfl, hl, hB', zg0, zg1, zg2, zg3, zg4, zg5, zg6, zg7, zg8, zg9, zg10, zg11, zc4, zc5, zc6, zc7, zc8, zc9, zc10, zc11, hS, hK⟩
            have zd0 : ls.getD 0 false = true := (ready_dep hr rfl).2 ⟨0, .data⟩ (by simp) rfl
            have hs0 : ls.getD 12 false = false := by cases hc : ls.getD 12 false with | false => rfl | true => (exfalso; have hz := hK hc 10 (by decide); have hn := (ready_dep hr rfl).1; rw [getD_both hz] at hn; cases hn)
            have hB := hB' hs0
            obtain rfl := zg0 zd0
            refine wpOp_step rfl (fun K hK => ?_)
            clear hr
            go_simp
            refine hK _ _ ?_
            simp only [getD_own (l := ls) (i := 10) (by omega), gs 10 0, gs 10 1, gs 10 2, gs 10 3, gs 10 4, gs 10 5, gs 10 6, gs 10 7, gs 10 8, gs 10 9, gs 10 11, gs 10 12]
            exact ⟨_, v44, v45, v46, v47, v48, v49, v50, v51, v52, _, v54, rfl, by simp [hl], fun _ => hB, fun _ => rfl, zg1, zg2, zg3, zg4, zg5, zg6, zg7, zg8, zg9, fun _ => rfl, zg11, zc4, zc5, zc6, zc7, zc8, zc9, fun _ => ⟨zd0, trivial⟩, fun h => ⟨(by first | rfl | trivial), trivial⟩, fun h => (by rw [hs0] at h; cases h), fun h => (by rw [hs0] at h; cases h)⟩
          · rintro ls ac w' hr ⟨v43, v44, v45, v46, v47, v48, v49, v50, v51, v52, v53, v54, rfl, hl, hB', zg0, zg1, zg2, zg3, zg4, zg5, zg6, zg7, zg8, zg9, zg10, zg11, zc4, zc5, zc6, zc7, zc8, zc9, zc10, zc11, hS, hK⟩
            have zd10 : ls.getD 10 false = true := (ready_dep hr rfl).2 ⟨10, .data⟩ (by simp) rfl
            have zd0 := (zc10 zd10).1
            have hs0 : ls.getD 12 false = false := by cases hc : ls.getD 12 false with | false => rfl | true => (exfalso; have hz := hK hc 11 (by decide); have hn := (ready_dep hr rfl).1; rw [getD_both hz] at hn; cases hn)
            have hB := hB' hs0
            obtain rfl := zg10 zd10
            obtain rfl := zg0 zd0
            refine wpOp_step rfl (fun K hK => ?_)
            clear hr
            go_simp
            refine hK _ _ ?_
            simp only [getD_own (l := ls) (i := 11) (by omega), gs 11 0, gs 11 1, gs 11 2, gs 11 3, gs 11 4, gs 11 5, gs 11 6, gs 11 7, gs 11 8, gs 11 9, gs 11 10, gs 11 12]
            exact ⟨_, v44, v45, v46, v47, v48, v49, v50, v51, v52, _, _, rfl, by simp [hl], fun _ => hB, fun _ => rfl, zg1, zg2, zg3, zg4, zg5, zg6, zg7, zg8, zg9, fun _ => rfl, fun _ => rfl, zc4, zc5, zc6, zc7, zc8, zc9, zc10, fun _ => ⟨zd10, trivial⟩, fun h => (by rw [hs0] at h; cases h), fun h => (by rw [hs0] at h; cases h)⟩
          · rintro ls ac w' hr ⟨v43, v44, v45, v46, v47, v48, v49, v50, v51, v52, v53, v54, rfl, hl, hB', zg0, zg1, zg2, zg3, zg4, zg5, zg6, zg7, zg8, zg9, zg10, zg11, zc4, zc5, zc6, zc7, zc8, zc9, zc10, zc11, hS, hK⟩
            have zd9 : ls.getD 9 false = true := (ready_dep hr rfl).2 ⟨9, .data⟩ (by simp) rfl
            have zd11 : ls.getD 11 false = true := (ready_dep hr rfl).2 ⟨11, .data⟩ (by simp) rfl
            have zd1 := (zc9 zd9).1
            have zd2 := (zc9 zd9).2.1
            have zd8 := (zc9 zd9).2.2.1
            have zd10 := (zc11 zd11).1
            have zd7 := (zc8 zd8).1
            have zd0 := (zc10 zd10).1
            have zd6 := (zc7 zd7).1
            have zd5 := (zc6 zd6).1
            have zd4 := (zc5 zd5).1
            have zd3 := (zc4 zd4).1
            obtain rfl := zg9 zd9
            obtain rfl := zg11 zd11
            obtain rfl := zg1 zd1
            obtain rfl := zg2 zd2
            obtain rfl := zg8 zd8
            obtain rfl := zg10 zd10
            obtain rfl := zg7 zd7
            obtain rfl := zg0 zd0
            obtain rfl := zg6 zd6
            obtain rfl := zg5 zd5
            obtain rfl := zg4 zd4
            obtain rfl := zg3 zd3
            have hns : ls.getD 12 false = false := by cases hc : ls.getD 12 false with | false => rfl | true => (exfalso; have hn := (ready_dep hr rfl).1; rw [getD_both hc] at hn; cases hn)
            have hB := hB' hns
            have hall : ∀ i, i < 13 → (ls.setIfInBounds 12 true).getD i false = true := by intro i hi; have hi' : i = 0 ∨ i = 1 ∨ i = 2 ∨ i = 3 ∨ i = 4 ∨ i = 5 ∨ i = 6 ∨ i = 7 ∨ i = 8 ∨ i = 9 ∨ i = 10 ∨ i = 11 ∨ i = 12 := (by decide : ∀ i : Nat, i < 13 → (i = 0 ∨ i = 1 ∨ i = 2 ∨ i = 3 ∨ i = 4 ∨ i = 5 ∨ i = 6 ∨ i = 7 ∨ i = 8 ∨ i = 9 ∨ i = 10 ∨ i = 11 ∨ i = 12)) i hi; rcases hi' with rfl | rfl | rfl | rfl | rfl | rfl | rfl | rfl | rfl | rfl | rfl | rfl | rfl <;> first | exact getD_own (by omega) | (rw [getD_set ls (by decide)]; assumption)
            have hSp := (show SrvAt w' b lo hi k a m p from ⟨e0.keep hB, e1.keep hB, e2.keep hB, e3.keep hB, e4.keep hB, e5.keep hB⟩)
            have hT := known_sets lo' hi' true t (m + 1) hSp
            have zs0 := (hSp).1.1
            have zs1 := (hSp).2.1.1
            have zs2 := (hSp).2.2.1.1
            have zs3 := (hSp).2.2.2.1.1
            have zs4 := (hSp).2.2.2.2.1.1
            have zs5 := (hSp).1.2
            have zs6 := (hSp).2.1.2
            have zs7 := (hSp).2.2.1.2
            have zs8 := (hSp).2.2.2.1.2
            have zs9 := (hSp).2.2.2.2.1.2
            refine wpOp_step rfl (fun K hK' => ?_)
            clear hr
            clear hSp
            go_simp
            refine hK' _ _ ?_
            simp only [getD_own (l := ls) (i := 12) (by omega), gs 12 0, gs 12 1, gs 12 2, gs 12 3, gs 12 4, gs 12 5, gs 12 6, gs 12 7, gs 12 8, gs 12 9, gs 12 10, gs 12 11]
            exact ⟨_, _, _, _, _, _, _, _, _, _, _, _, rfl, by simp [hl], fun h => (by cases h), fun _ => rfl, fun _ => rfl, fun _ => rfl, fun _ => rfl, fun _ => rfl, fun _ => rfl, fun _ => rfl, fun _ => rfl, fun _ => rfl, fun _ => rfl, fun _ => rfl, fun _ => rfl, zc4, zc5, zc6, zc7, zc8, zc9, zc10, zc11, fun _ => ⟨(Only.of hB (Nat.le_of_lt hbz)).trans hT.2, hT.1⟩, fun _ => hall⟩
        · rintro ls ac w' ⟨v43, v44, v45, v46, v47, v48, v49, v50, v51, v52, v53, v54, rfl, hl, hB', zg0, zg1, zg2, zg3, zg4, zg5, zg6, zg7, zg8, zg9, zg10, zg11, zc4, zc5, zc6, zc7, zc8, zc9, zc10, zc11, hS, hK⟩ hr
          have hall := ready_allb (by decide) hl hr
          have hSx := hS (hall 12 (by decide))
          go_wp2
          go_ret
          exact ⟨rfl, hzw.trans hSx.1, hSx.2⟩
end Go.Proofs.Ytnphbdhcoiaklaa
namespace Go.Proofs.Ytnphbdhcoiaklaa
open Go.RowKit

deriving instance DecidableEq for Sp
theorem sv_1 : sObs ⟨0, 0, false⟩ 0 0 1000 ⟨0, 10, true⟩ 0 = (⟨0, 10, true⟩, 0, 1, true) := by decide +kernel
theorem sv_2 : sRead ⟨0, 10, true⟩ 0 1000 1000000000 = ⟨-1000, 1010, true⟩ := by decide +kernel
theorem sv_3 : sObs ⟨0, 10, true⟩ 0 1 1000 ⟨1005, 2000, true⟩ 1000000000 = (⟨1005, 1010, true⟩, 1000000000, 2, true) := by decide +kernel
theorem sv_4 : sRead ⟨1005, 1010, true⟩ 1000000000 1000 1000000000 = ⟨1005, 1010, true⟩ := by decide +kernel
theorem sv_5 : sMaster ⟨1005, 1010, true⟩ 1000000000 1000 1000000000 = ⟨1000001005, 1000001010, true⟩ := by decide +kernel
theorem so_1 : spOf 0 10 = ⟨0, 10, true⟩ := by decide +kernel
theorem so_2 : spOf 1005 2000 = ⟨1005, 2000, true⟩ := by decide +kernel
theorem so_3 : spOf (-1000) 1010 = ⟨-1000, 1010, true⟩ := by decide +kernel
theorem so_4 : spOf 1005 1010 = ⟨1005, 1010, true⟩ := by decide +kernel
theorem so_5 : spOf 1000001005 1000001010 = ⟨1000001005, 1000001010, true⟩ := by decide +kernel
theorem SrvAt.drew {u : World} {b : Nat} {lo hi : Int} {k : Bool} {a m p : Int} (h : SrvAt u b lo hi k a m p) : SrvAt u.drew b lo hi k a m p := h

set_option maxRecDepth 100000 in
set_option maxHeartbeats 4000000 in
theorem alive_is (w : World) : Calls Try.prog 77 #[] w fun e w' => e = .returned (.bool true) ∧ Below w.heap.size w w' := by
  have V1 := Lib.hid sv_1
  have V2 := Lib.hid sv_2
  have V3 := Lib.hid sv_3
  have V4 := Lib.hid sv_4
  have V5 := Lib.hid sv_5
  have O1 := Lib.hid so_1
  have O2 := Lib.hid so_2
  have O3 := Lib.hid so_3
  have O4 := Lib.hid so_4
  have O5 := Lib.hid so_5
  go_enter Try.func77, Try.ntmps77
  go_wp2_with fail
  refine (SNew_yes 1000 (by decide) (by decide) _).mono ?_
  rintro e w1 ⟨b, rfl, hb1, hwb, ho1⟩
  go_wp2_with fail
  refine (Of_is _ _ _ _ _ O1 _).mono ?_
  rintro e w2 ⟨rfl, hb2⟩
  have ho2 := ho1.keep hb2
  go_wp2_with fail
  refine (Observe_is b _ _ _ _ _ _ _ _ _ _ _ _ _ _ _ _ (by decide) (by decide) V1 _ ho2).mono ?_
  rintro e w3 ⟨rfl, on3, ho3⟩
  go_wp2_with fail
  refine (Read_is b _ _ _ _ _ _ _ _ _ _ V2 _ ho3).mono ?_
  rintro e w4 ⟨rfl, hb4⟩
  have ho4 := ho3.keep hb4
  go_wp2_with fail
  refine (Of_is _ _ _ _ _ O2 _).mono ?_
  rintro e w5 ⟨rfl, hb5⟩
  have r5_0 : CellF w5 ⟨w4.heap.size, 0, none⟩ (.int .i64 (-1000)) := CellF.keep hb5 (CellF.at_ rfl rfl)
  have r5_1 : CellF w5 ⟨w4.heap.size, 1, none⟩ (.int .i64 1010) := CellF.keep hb5 (CellF.at_ rfl rfl)
  have r5_2 : CellF w5 ⟨w4.heap.size, 2, none⟩ (.bool true) := CellF.keep hb5 (CellF.at_ rfl rfl)
  have ho5 : SrvAt w5 b 0 10 true 0 1 1000 := (ho4.past _).keep hb5
  have hne : w4.heap.size ≠ b := Nat.ne_of_gt ho4.lt
  go_wp2_with fail
  refine (Observe_is b _ _ _ _ _ _ _ _ _ _ _ _ _ _ _ _ (by decide) (by decide) V3 _ ho5).mono ?_
  rintro e w6 ⟨rfl, on6, ho6⟩
  have r6_0 := on6.2 _ _ hne r5_0
  have r6_1 := on6.2 _ _ hne r5_1
  have r6_2 := on6.2 _ _ hne r5_2
  have c0 := r6_0.1
  have c1 := r6_1.1
  have c2 := r6_2.1
  have z4 : w4.heap.size < w6.heap.size := ltc c0
  have hw5 : Below w.heap.size w w5 := (((hb1.trans (hb2.mono hb1.size)).trans (on3.1.mono hwb)).trans (hb4.mono (by have := hb1.size; have := hb2.size; have := on3.1.size; omega))).trans ((balloc (brefl _) _ |>.trans (hb5.mono (by simp))).mono (by have := hb1.size; have := hb2.size; have := on3.1.size; have := hb4.size; omega))
  have hw6 : Below w.heap.size w w6 := hw5.trans (on6.1.mono hwb)
  have HW := Lib.hid hw6
  clear hw5 hw6
  go_wp2_with fail
  go_region_held3 (fun w' => w'.cell? ⟨w4.heap.size, 0, none⟩ = some (.int .i64 (-1000)) ∧ w'.cell? ⟨w4.heap.size, 1, none⟩ = some (.int .i64 1010) ∧ w'.cell? ⟨w4.heap.size, 2, none⟩ = some (.bool true))
    (go_keep)
    (first | (go_at_call 64; ((with_reducible refine (Of_is _ _ _ _ _ O3 _).mono ?_)); rintro e w7 ⟨rfl, hb7⟩; have ho7 := SrvAt.keep hb7 (SrvAt.drew ho6); have r7_0 := CellF.keep hb7 (CellF.drew r6_0); have r7_1 := CellF.keep hb7 (CellF.drew r6_1); have r7_2 := CellF.keep hb7 (CellF.drew r6_2); have d7_0 := r7_0.1; have d7_1 := r7_1.1; have d7_2 := r7_2.1) | (go_at_call 81; ((with_reducible refine (Read_is b _ _ _ _ _ _ _ _ _ _ V4 w7 ho7).mono ?_)); rintro e w8 ⟨rfl, hb8⟩; have ho8 := SrvAt.keep hb8 ho7; have r8_0 := CellF.keep hb8 r7_0; have r8_1 := CellF.keep hb8 r7_1; have r8_2 := CellF.keep hb8 r7_2; have d8_0 := r8_0.1; have d8_1 := r8_1.1; have d8_2 := r8_2.1) | (go_at_call 64; ((with_reducible refine (Of_is _ _ _ _ _ O4 _).mono ?_)); rintro e w9 ⟨rfl, hb9⟩; have ho9 := SrvAt.keep hb9 ho8; have r9_0 := CellF.keep hb9 r8_0; have r9_1 := CellF.keep hb9 r8_1; have r9_2 := CellF.keep hb9 r8_2; have d9_0 := r9_0.1; have d9_1 := r9_1.1; have d9_2 := r9_2.1) | (go_at_call 80; ((with_reducible refine (Count_is b _ _ _ _ _ _ w9 ho9).mono ?_)); rintro e w10 ⟨rfl, hb10⟩; have ho10 := SrvAt.keep hb10 ho9; have r10_0 := CellF.keep hb10 r9_0; have r10_1 := CellF.keep hb10 r9_1; have r10_2 := CellF.keep hb10 r9_2; have d10_0 := r10_0.1; have d10_1 := r10_1.1; have d10_2 := r10_2.1) | (go_at_call 84; ((with_reducible refine (Master_is b _ _ _ _ _ _ _ _ _ _ V5 w10 ho10).mono ?_)); rintro e w11 ⟨rfl, hb11⟩; have ho11 := SrvAt.keep hb11 ho10; have r11_0 := CellF.keep hb11 r10_0; have r11_1 := CellF.keep hb11 r10_1; have r11_2 := CellF.keep hb11 r10_2; have d11_0 := r11_0.1; have d11_1 := r11_1.1; have d11_2 := r11_2.1) | (go_at_call 64; ((with_reducible refine (Of_is _ _ _ _ _ O5 _).mono ?_)); rintro e w12 ⟨rfl, hb12⟩; have ho12 := SrvAt.keep hb12 ho11; have r12_0 := CellF.keep hb12 r11_0; have r12_1 := CellF.keep hb12 r11_1; have r12_2 := CellF.keep hb12 r11_2; have d12_0 := r12_0.1; have d12_1 := r12_1.1; have d12_2 := r12_2.1))
  have hw6 := HW.out
  all_goals (go_wp2; go_ret; exact ⟨rfl, by repeat (first | with_reducible exact hw6 | refine bdrew ?_ | refine bstep ?_ (by assumption))⟩)
end Go.Proofs.Ytnphbdhcoiaklaa
namespace Go.Proofs.Ytnphbdhcoiaklaa
open Go.RowKit

/-- Behind a call: kind 0 observes, kind 1 forgets. -/
def sDo (s : Sp) (a m p kind t : Int) (o : Sp) : Sp × Int × Int × Bool :=
  if kind = 0 then sObs s a m p o t else if kind = 1 then (spNo, 0, 0, true) else (s, a, m, true)

theorem obs_count {s : Sp} {a m p t a' m' : Int} {o s' : Sp} {r : Bool} (h0 : 0 ≤ m) (h : sObs s a m p o t = (s', a', m', r)) : 0 ≤ m' ∧ m' ≤ m + 1 := by
  unfold sObs at h
  split at h
  · split at h
    · obtain ⟨_, h⟩ := Prod.mk.inj h
      obtain ⟨_, h⟩ := Prod.mk.inj h
      obtain ⟨h, _⟩ := Prod.mk.inj h
      omega
    · obtain ⟨_, h⟩ := Prod.mk.inj h
      obtain ⟨_, h⟩ := Prod.mk.inj h
      obtain ⟨h, _⟩ := Prod.mk.inj h
      omega
  · obtain ⟨_, h⟩ := Prod.mk.inj h
    obtain ⟨_, h⟩ := Prod.mk.inj h
    obtain ⟨h, _⟩ := Prod.mk.inj h
    omega
theorem do_count {s : Sp} {a m p kd t a' m' : Int} {o s' : Sp} {r : Bool} (h0 : 0 ≤ m) (h : sDo s a m p kd t o = (s', a', m', r)) : 0 ≤ m' ∧ m' ≤ m + 1 := by
  unfold sDo at h
  split at h
  · exact obs_count h0 h
  · split at h
    · obtain ⟨_, h⟩ := Prod.mk.inj h
      obtain ⟨_, h⟩ := Prod.mk.inj h
      obtain ⟨h, _⟩ := Prod.mk.inj h
      omega
    · obtain ⟨_, h⟩ := Prod.mk.inj h
      obtain ⟨_, h⟩ := Prod.mk.inj h
      obtain ⟨h, _⟩ := Prod.mk.inj h
      omega

end Go.Proofs.Ytnphbdhcoiaklaa
namespace Go.Proofs.Ytnphbdhcoiaklaa
open Go.RowKit

theorem does_is (b : Nat) (lo hi : Int) (k : Bool) (a m p kd t x y : Int) (z : Bool) (lo' hi' : Int) (k' : Bool) (a' m' : Int) (r : Bool) (hm0 : 0 ≤ m) (hm1 : m ≤ 1000000) (H : Hid (sDo ⟨lo, hi, k⟩ a m p kd t ⟨x, y, z⟩ = (⟨lo', hi', k'⟩, a', m', r))) (w : World) (h : SrvAt w b lo hi k a m p) :
    Calls Try.prog 79 #[.pointer (some ⟨b, 0, none⟩), .agg #[.int .i64 kd, .int .i64 t, .int .i64 x, .int .i64 y, .bool z]] w fun e w' => e = .returned (.bool r) ∧ Only b w w' ∧ SrvAt w' b lo' hi' k' a' m' p := by
  have hx := H.out
  unfold sDo at hx
  have hlt := h.lt
  have HS := Lib.hid h
  clear h H
  by_cases h0 : kd = 0
  · rw [if_pos h0] at hx
    have HX := Lib.hid hx
    subst h0
    clear hx
    go_enter Try.func79, Try.ntmps79
    go_wp2_with fail
    refine (Observe_is b lo hi k a m p x y z t lo' hi' k' a' m' r hm0 hm1 HX _ (SrvAt.past _ HS.out)).mono ?_
    rintro e w1 ⟨rfl, on1, ho1⟩
    go_wp2
    go_ret
    exact ⟨rfl, (Only.of (balloc (brefl _) _) (Nat.le_of_lt hlt)).trans on1, ho1⟩
  rw [if_neg h0] at hx
  by_cases h1 : kd = 1
  · rw [if_pos h1] at hx
    subst h1
    have hx : (spNo, (0 : Int), (0 : Int), true) = ((⟨lo', hi', k'⟩ : Sp), a', m', r) := hx
    obtain ⟨hs, hx⟩ := Prod.mk.inj hx
    obtain ⟨h2, hx⟩ := Prod.mk.inj hx
    obtain ⟨h3, h4⟩ := Prod.mk.inj hx
    clear hx
    subst h2 h3 h4
    cases hs
    go_enter Try.func79, Try.ntmps79
    go_wp2_with fail
    refine (Reset_is b lo hi k a m p _ (SrvAt.past _ HS.out)).mono ?_
    rintro e w1 ⟨rfl, on1, ho1⟩
    go_wp2
    go_ret
    exact ⟨rfl, (Only.of (balloc (brefl _) _) (Nat.le_of_lt hlt)).trans on1, ho1⟩
  · rw [if_neg h1] at hx
    obtain ⟨hs, hx⟩ := Prod.mk.inj hx
    obtain ⟨h2, hx⟩ := Prod.mk.inj hx
    obtain ⟨h3, h4⟩ := Prod.mk.inj hx
    clear hx
    subst h2 h3 h4
    cases hs
    go_enter Try.func79, Try.ntmps79
    go_wp2
    go_ret
    exact ⟨rfl, Only.of (balloc (brefl _) _) (Nat.le_of_lt hlt), SrvAt.past _ HS.out⟩
end Go.Proofs.Ytnphbdhcoiaklaa
namespace Go.Proofs.Ytnphbdhcoiaklaa
open Go.RowKit Go.ChangeShapes Go.WideShapes Go.Deep

/-- What the i-th call of a script is. -/
structure OpIs where
  kd : Int
  at_ : Int
  lo : Int
  hi : Int
  kn : Bool
def Script5 (w : World) (v : Value) (n : Nat) (f : Nat → OpIs) : Prop := ∃ (a : Option Addr) (cap : Nat), v = .slice a n cap ∧ n ≤ 9223372036854775807 ∧ n ≤ cap ∧ cap ≤ 9223372036854775807 ∧
  ∀ i, i < n → ∃ b o, a = some ⟨b, o, none⟩ ∧ b < w.heap.size ∧ I64 (f i).kd ∧ I64 (f i).at_ ∧ I64 (f i).lo ∧ I64 (f i).hi ∧
    w.cell? ⟨b, o + i * 5, none⟩ = some (.int .i64 (f i).kd) ∧ w.cell? ⟨b, o + i * 5 + 1, none⟩ = some (.int .i64 (f i).at_) ∧ w.cell? ⟨b, o + i * 5 + 2, none⟩ = some (.int .i64 (f i).lo) ∧ w.cell? ⟨b, o + i * 5 + 3, none⟩ = some (.int .i64 (f i).hi) ∧ w.cell? ⟨b, o + i * 5 + 4, none⟩ = some (.bool (f i).kn)

section
variable {H : Type} {enc : TypeId × Value → H} {P : Program} {w : World} {base : Nat} {spare : Nat → Bool} {held : Bool} {t e u : TypeId} {v : Value} {d : DataW H} {ps : List MemPlace} {r : Reach} {b0 : Nat}

theorem add_off5 {b o n : Nat} {spot : Option Nat} (h : spot = none) : (⟨b, o, spot⟩ : Addr).add n = ⟨b, o + n, none⟩ := by
  subst h
  unfold Addr.add
  split
  · rename_i h; subst h; rfl
  · rfl

theorem cells_op {t e s u : TypeId} {f0 f1 f2 g0 g1 g2 : Field} {fuel : Nat} {cs : List Value} {x : DataW H × List MemPlace} (ht : P.underlying t = some (.struct #[f0, f1, f2])) (hs : P.underlying s = some (.struct #[g0, g1, g2])) (he : P.underlying e = some (.int .i64)) (hu : P.underlying u = some .bool)
    (hk : (f0.type == e && f1.type == e && f2.type == s && f0.offset == 0 && f1.offset == 1 && f2.offset == 2 && P.cellsOf e == 1 && P.cellsOf s == 3 && P.cellsOf t == 5) = true)
    (hk2 : (g0.type == e && g1.type == e && g2.type == u && g0.offset == 0 && g1.offset == 1 && g2.offset == 2 && P.cellsOf e == 1 && P.cellsOf u == 1 && P.cellsOf s == 3) = true) (h : DataW.trod enc P w base spare held fuel t cs = some x) :
    ∃ q : OpIs, cs = [.int .i64 q.kd, .int .i64 q.at_, .int .i64 q.lo, .int .i64 q.hi, .bool q.kn] ∧ I64 q.kd ∧ I64 q.at_ ∧ I64 q.lo ∧ I64 q.hi := by
  simp only [Bool.and_eq_true, beq_iff_eq] at hk
  obtain ⟨⟨⟨⟨⟨⟨⟨⟨k0, k1⟩, k2⟩, o0⟩, o1⟩, o2⟩, kc⟩, ku⟩, kt⟩ := hk
  obtain ⟨y0, y1, y2, n, _, hl, h0, h1, h2⟩ := Deep.trod_struct3 ht h
  rw [kt] at hl
  match cs, hl with
  | [c0, c1, c2, c3, c4], _ =>
    rw [k0, o0, kc] at h0
    rw [k1, o1, kc] at h1
    rw [k2, o2, ku] at h2
    obtain ⟨a, e0, wa⟩ := cells_int he h0
    obtain ⟨b, e1, wb⟩ := cells_int he h1
    obtain ⟨x, y, z, e2, wx, wy⟩ := cells_span hs he hu hk2 h2
    simp at e0 e1 e2
    exact ⟨⟨a, b, x, y, z⟩, by rw [e0, e1, e2.1, e2.2.1, e2.2.2], wa, wb, wx, wy⟩

theorem open_script5 {s b : TypeId} {f0 f1 f2 g0 g1 g2 : Field} (ht : P.underlying t = some (.slice e)) (he : P.underlying e = some (.struct #[f0, f1, f2])) (hs : P.underlying s = some (.struct #[g0, g1, g2])) (hu : P.underlying u = some (.int .i64)) (hb : P.underlying b = some .bool)
    (hk : (f0.type == u && f1.type == u && f2.type == s && f0.offset == 0 && f1.offset == 1 && f2.offset == 2 && P.cellsOf u == 1 && P.cellsOf s == 3 && P.cellsOf e == 5) = true)
    (hk2 : (g0.type == u && g1.type == u && g2.type == b && g0.offset == 0 && g1.offset == 1 && g2.offset == 2 && P.cellsOf u == 1 && P.cellsOf b == 1 && P.cellsOf s == 3) = true)
    (h : DataW.Trod enc P w base spare held t v d ps) (hv : ∃ a l c, v = .slice a l c) : ∃ n f, Script5 w v n f := by
  have kt : P.cellsOf e = 5 := by simp only [Bool.and_eq_true, beq_iff_eq] at hk; exact hk.2
  obtain ⟨a0, l0, c0, rfl⟩ := hv
  obtain ⟨fuel, hf⟩ := h
  have hf' : DataW.trod enc P w base spare held fuel t [.slice a0 l0 c0] = some (d, ps) := by simpa [Value.cells] using hf
  rcases open_slice ht hf' with ⟨hc, _⟩ | ⟨a, len, cap, m, k, D, Pl, hc, _, hl, hm, hmm, _, hall⟩
  · simp only [List.cons.injEq, and_true] at hc
    rw [hc]
    exact ⟨0, fun _ => ⟨0, 0, 0, 0, false⟩, none, 0, rfl, by omega, by omega, by omega, fun i hi => absurd hi (Nat.not_lt_zero _)⟩
  · simp only [List.cons.injEq, and_true] at hc
    rw [hc]
    have hlm : len ≤ m := by rw [hmm]; split <;> omega
    have key : ∀ i, ∃ q : OpIs, i < len → I64 q.kd ∧ I64 q.at_ ∧ I64 q.lo ∧ I64 q.hi ∧ w.cell? (a.add (i * 5)) = some (.int .i64 q.kd) ∧ w.cell? ((a.add (i * 5)).add 1) = some (.int .i64 q.at_) ∧ w.cell? ((a.add (i * 5)).add 2) = some (.int .i64 q.lo) ∧ w.cell? ((a.add (i * 5)).add 3) = some (.int .i64 q.hi) ∧ w.cell? ((a.add (i * 5)).add 4) = some (.bool q.kn) := by
      intro i
      by_cases hi : i < len
      · obtain ⟨cs', h1, h2⟩ := hall i (by omega)
        obtain ⟨q, rfl, wa, wb, wx, wy⟩ := cells_op he hs hu hb hk hk2 h2
        rw [kt] at h1
        obtain ⟨_, _, hcell⟩ := World.cells?_some h1
        have e0 := hcell 0 (by omega)
        have e1 := hcell 1 (by omega)
        have e2 := hcell 2 (by omega)
        have e3 := hcell 3 (by omega)
        have e4 := hcell 4 (by omega)
        exact ⟨q, fun _ => ⟨wa, wb, wx, wy, by simpa [Addr.add] using e0, by simpa using e1, by simpa using e2, by simpa using e3, by simpa using e4⟩⟩
      · exact ⟨⟨0, 0, 0, 0, false⟩, fun h => absurd h hi⟩
    have hml : cap ≤ 9223372036854775807 := hm
    refine ⟨len, fun i => (key i).choose, some a, cap, rfl, by omega, hl, hml, fun i hi => ?_⟩
    obtain ⟨w0, w1, w2, w3, c0, c1, c2, c3, c4⟩ := (key i).choose_spec hi
    obtain ⟨b, o, spot⟩ := a
    have hspot : spot = none := by
      obtain ⟨_, _, _, _, d0, _⟩ := (key 0).choose_spec (by omega)
      simpa [Addr.add] using World.cell?_spot d0
    have a0 : (⟨b, o, spot⟩ : Addr).add (i * 5) = ⟨b, o + i * 5, none⟩ := add_off5 hspot
    have ai : ∀ j, ((⟨b, o, spot⟩ : Addr).add (i * 5)).add j = ⟨b, o + i * 5 + j, none⟩ := fun j => by rw [a0, add_off5 rfl]
    have d0 := (congrArg w.cell? a0).symm.trans c0
    exact ⟨b, o, by rw [hspot], ltc d0, w0, w1, w2, w3, d0, (congrArg w.cell? (ai 1)).symm.trans c1, (congrArg w.cell? (ai 2)).symm.trans c2, (congrArg w.cell? (ai 3)).symm.trans c3, (congrArg w.cell? (ai 4)).symm.trans c4⟩
end
end Go.Proofs.Ytnphbdhcoiaklaa
