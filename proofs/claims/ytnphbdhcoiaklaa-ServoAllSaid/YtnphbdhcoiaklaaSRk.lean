/-
  The document's servo: Read, Master, Observe, Do.
-/
import Derived.Test.YtnphbdhcoiaklaaSGD
import Derived.Test.YtnphbdhcoiaklaaSGF
namespace Go.Proofs.Ytnphbdhcoiaklaa
open Go.RowKit

/-- The document's servo in a block. -/
def RvAt (w : World) (b : Nat) (p lo hi : Int) (k : Bool) (a m : Int) : Prop := CellF w ⟨b, 0, none⟩ (.int .i64 p) ∧ CellF w ⟨b, 1, none⟩ (.int .i64 lo) ∧ CellF w ⟨b, 2, none⟩ (.int .i64 hi) ∧ CellF w ⟨b, 3, none⟩ (.bool k) ∧ CellF w ⟨b, 4, none⟩ (.int .i64 a) ∧ CellF w ⟨b, 5, none⟩ (.int .i64 m)
theorem RvAt.keep {u v : World} {b : Nat} {p lo hi : Int} {k : Bool} {a m : Int} (hb : Below u.heap.size u v) (h : RvAt u b p lo hi k a m) : RvAt v b p lo hi k a m := ⟨h.1.keep hb, h.2.1.keep hb, h.2.2.1.keep hb, h.2.2.2.1.keep hb, h.2.2.2.2.1.keep hb, h.2.2.2.2.2.keep hb⟩
theorem RvAt.past {u : World} {b : Nat} {p lo hi : Int} {k : Bool} {a m : Int} (o : Obj) (h : RvAt u b p lo hi k a m) : RvAt (u.alloc o) b p lo hi k a m := h.keep (balloc (brefl _) _)
theorem RvAt.drew {u : World} {b : Nat} {p lo hi : Int} {k : Bool} {a m : Int} (h : RvAt u b p lo hi k a m) : RvAt u.drew b p lo hi k a m := h
theorem RvAt.lt {u : World} {b : Nat} {p lo hi : Int} {k : Bool} {a m : Int} (h : RvAt u b p lo hi k a m) : b < u.heap.size := ltc h.1.1
theorem RvAt.only {u v : World} {b c : Nat} {p lo hi : Int} {k : Bool} {a m : Int} (hb : Only c u v) (hn : b ≠ c) (h : RvAt u b p lo hi k a m) : RvAt v b p lo hi k a m := ⟨hb.2 _ _ hn h.1, hb.2 _ _ hn h.2.1, hb.2 _ _ hn h.2.2.1, hb.2 _ _ hn h.2.2.2.1, hb.2 _ _ hn h.2.2.2.2.1, hb.2 _ _ hn h.2.2.2.2.2⟩
theorem RvAt.new {u : World} {p lo hi : Int} {k : Bool} {a m : Int} {t : TypeId} : RvAt (u.alloc (.cells #[.int .i64 p, .int .i64 lo, .int .i64 hi, .bool k, .int .i64 a, .int .i64 m] t)) u.heap.size p lo hi k a m := ⟨CellF.at_ rfl rfl, CellF.at_ rfl rfl, CellF.at_ rfl rfl, CellF.at_ rfl rfl, CellF.at_ rfl rfl, CellF.at_ rfl rfl⟩
def rvSet (u : World) (b : Nat) (p lo hi : Int) (k : Bool) (a m : Int) : World := (((((u.setCell ⟨b, 0, none⟩ (.int .i64 p)).setCell ⟨b, 1, none⟩ (.int .i64 lo)).setCell ⟨b, 2, none⟩ (.int .i64 hi)).setCell ⟨b, 3, none⟩ (.bool k)).setCell ⟨b, 4, none⟩ (.int .i64 a)).setCell ⟨b, 5, none⟩ (.int .i64 m)
theorem rv_sets {u : World} {b : Nat} {p0 lo0 hi0 : Int} {k0 : Bool} {a0 m0 : Int} (p lo hi : Int) (k : Bool) (a m : Int) (h : RvAt u b p0 lo0 hi0 k0 a0 m0) : RvAt (rvSet u b p lo hi k a m) b p lo hi k a m ∧ Only b u (rvSet u b p lo hi k a m) := by
  obtain ⟨h0, h1, h2, h3, h4, h5⟩ := h
  have n4 : ∀ i j : Nat, i ≠ j → (⟨b, i, none⟩ : Addr) ≠ ⟨b, j, none⟩ := fun _ _ hij h => hij (by injection h)
  unfold rvSet
  refine ⟨⟨?_, ?_, ?_, ?_, ?_, ?_⟩, ?_, fun q v hq hh => ?_⟩
  · exact (((((h0.set_same' _).set_other' _ (n4 1 0 (by decide))).set_other' _ (n4 2 0 (by decide))).set_other' _ (n4 3 0 (by decide))).set_other' _ (n4 4 0 (by decide))).set_other' _ (n4 5 0 (by decide))
  · exact (((((h1.set_other' _ (n4 0 1 (by decide))).set_same' _).set_other' _ (n4 2 1 (by decide))).set_other' _ (n4 3 1 (by decide))).set_other' _ (n4 4 1 (by decide))).set_other' _ (n4 5 1 (by decide))
  · exact (((((h2.set_other' _ (n4 0 2 (by decide))).set_other' _ (n4 1 2 (by decide))).set_same' _).set_other' _ (n4 3 2 (by decide))).set_other' _ (n4 4 2 (by decide))).set_other' _ (n4 5 2 (by decide))
  · exact (((((h3.set_other' _ (n4 0 3 (by decide))).set_other' _ (n4 1 3 (by decide))).set_other' _ (n4 2 3 (by decide))).set_same' _).set_other' _ (n4 4 3 (by decide))).set_other' _ (n4 5 3 (by decide))
  · exact (((((h4.set_other' _ (n4 0 4 (by decide))).set_other' _ (n4 1 4 (by decide))).set_other' _ (n4 2 4 (by decide))).set_other' _ (n4 3 4 (by decide))).set_same' _).set_other' _ (n4 5 4 (by decide))
  · exact (((((h5.set_other' _ (n4 0 5 (by decide))).set_other' _ (n4 1 5 (by decide))).set_other' _ (n4 2 5 (by decide))).set_other' _ (n4 3 5 (by decide))).set_other' _ (n4 4 5 (by decide))).set_same' _
  · exact ((((((Below.refl b u).setCell (Nat.le_refl _) _).setCell (Nat.le_refl _) _).setCell (Nat.le_refl _) _).setCell (Nat.le_refl _) _).setCell (Nat.le_refl _) _).setCell (Nat.le_refl _) _
  · have n1 : ∀ i, (⟨b, i, none⟩ : Addr) ≠ q := fun i e => hq (by rw [← e])
    exact (((((hh.set_other' _ (n1 0)).set_other' _ (n1 1)).set_other' _ (n1 2)).set_other' _ (n1 3)).set_other' _ (n1 4)).set_other' _ (n1 5)

set_option maxRecDepth 100000 in
set_option maxHeartbeats 4000000 in
theorem rvRead_is (p lo hi : Int) (k : Bool) (a m t x y : Int) (z : Bool) (H : Hid (sRead ⟨lo, hi, k⟩ a p t = ⟨x, y, z⟩)) (w : World) :
    Calls Try.prog 82 #[.agg #[.int .i64 p, .int .i64 lo, .int .i64 hi, .bool k, .int .i64 a, .int .i64 m], .int .i64 t] w fun e w' => e = .returned (.agg #[.int .i64 x, .int .i64 y, .bool z]) ∧ Below w.heap.size w w' := by
  have hx := H.out
  unfold sRead at hx
  obtain ⟨d, i, h1⟩ : ∃ d i, subP t a = (d, i) := ⟨_, _, rfl⟩
  rw [h1] at hx
  dsimp only at hx
  have H1 := Lib.hid h1
  clear H h1
  go_enter Try.func82, Try.ntmps82
  go_wp2_with fail
  refine (rSub_is _ _ _ _ H1 _).mono ?_
  rintro e w1 ⟨rfl, hb1⟩
  have q1_1_0 : CellF w1 ⟨w.heap.size, 0, none⟩ (.int .i64 p) := CellF.keep hb1 (CellF.past _ (CellF.at_ rfl rfl))
  have c1_1_0 := q1_1_0.1
  have g1_1_0 := q1_1_0.2
  have q1_1_1 : CellF w1 ⟨w.heap.size, 1, none⟩ (.int .i64 lo) := CellF.keep hb1 (CellF.past _ (CellF.at_ rfl rfl))
  have c1_1_1 := q1_1_1.1
  have g1_1_1 := q1_1_1.2
  have q1_1_2 : CellF w1 ⟨w.heap.size, 2, none⟩ (.int .i64 hi) := CellF.keep hb1 (CellF.past _ (CellF.at_ rfl rfl))
  have c1_1_2 := q1_1_2.1
  have g1_1_2 := q1_1_2.2
  have q1_1_3 : CellF w1 ⟨w.heap.size, 3, none⟩ (.bool k) := CellF.keep hb1 (CellF.past _ (CellF.at_ rfl rfl))
  have c1_1_3 := q1_1_3.1
  have g1_1_3 := q1_1_3.2
  have q1_1_4 : CellF w1 ⟨w.heap.size, 4, none⟩ (.int .i64 a) := CellF.keep hb1 (CellF.past _ (CellF.at_ rfl rfl))
  have c1_1_4 := q1_1_4.1
  have g1_1_4 := q1_1_4.2
  have q1_1_5 : CellF w1 ⟨w.heap.size, 5, none⟩ (.int .i64 m) := CellF.keep hb1 (CellF.past _ (CellF.at_ rfl rfl))
  have c1_1_5 := q1_1_5.1
  have g1_1_5 := q1_1_5.2
  have z1_1 : w.heap.size < w1.heap.size := ltc c1_1_0
  have q1_2_0 : CellF w1 ⟨(w.heap.size + 1), 0, none⟩ (.int .i64 0) := CellF.keep hb1 (CellF.at_ (by simp) rfl)
  have c1_2_0 := q1_2_0.1
  have g1_2_0 := q1_2_0.2
  have q1_2_1 : CellF w1 ⟨(w.heap.size + 1), 1, none⟩ (.int .i64 0) := CellF.keep hb1 (CellF.at_ (by simp) rfl)
  have c1_2_1 := q1_2_1.1
  have g1_2_1 := q1_2_1.2
  have q1_2_2 : CellF w1 ⟨(w.heap.size + 1), 2, none⟩ (.bool false) := CellF.keep hb1 (CellF.at_ (by simp) rfl)
  have c1_2_2 := q1_2_2.1
  have g1_2_2 := q1_2_2.2
  have z1_2 : (w.heap.size + 1) < w1.heap.size := ltc c1_2_0
  cases i with
  | false =>
    rw [if_pos (by simp)] at hx
    cases hx
    go_wp2
    exact bodyPost_ret (v := .agg #[.int .i64 0, .int .i64 0, .bool false]) (by simp [results, Try.results82, go_sem, c1_2_0, c1_2_1, c1_2_2]) rfl ⟨rfl, (by repeat (first | with_reducible assumption | with_reducible exact brefl _ | with_reducible refine balloc ?_ _ | with_reducible refine bdrewN ?_ _ | with_reducible refine bset ?_ ?_ _ | (dsimp only; omega) | refine bstep ?_ (by assumption)))⟩
  | true =>
    cases k with
    | false =>
      rw [if_pos (by simp)] at hx
      cases hx
      go_wp2
      exact bodyPost_ret (v := .agg #[.int .i64 0, .int .i64 0, .bool false]) (by simp [results, Try.results82, go_sem, c1_2_0, c1_2_1, c1_2_2]) rfl ⟨rfl, (by repeat (first | with_reducible assumption | with_reducible exact brefl _ | with_reducible refine balloc ?_ _ | with_reducible refine bdrewN ?_ _ | with_reducible refine bset ?_ ?_ _ | (dsimp only; omega) | refine bstep ?_ (by assumption)))⟩
    | true =>
      rw [if_neg (by simp)] at hx
      by_cases n1 : d < 0
      ·
        unfold spDrift at hx
        rw [if_pos (.inr (.inl n1))] at hx
        cases hx
        go_wp2
        exact bodyPost_ret (v := .agg #[.int .i64 0, .int .i64 0, .bool false]) (by simp [results, Try.results82, go_sem, c1_2_0, c1_2_1, c1_2_2]) rfl ⟨rfl, (by repeat (first | with_reducible assumption | with_reducible exact brefl _ | with_reducible refine balloc ?_ _ | with_reducible refine bdrewN ?_ _ | with_reducible refine bset ?_ ?_ _ | (dsimp only; omega) | refine bstep ?_ (by assumption)))⟩
      have HX := Lib.hid hx
      clear hx
      go_wp2_with fail
      refine (r3Drift_is _ _ _ _ _ _ _ _ HX _).mono ?_
      rintro e w2 ⟨rfl, hb2⟩
      have q2_3_0 : CellF w2 ⟨w.heap.size, 0, none⟩ (.int .i64 p) := CellF.keep hb2 (q1_1_0)
      have c2_3_0 := q2_3_0.1
      have g2_3_0 := q2_3_0.2
      have q2_3_1 : CellF w2 ⟨w.heap.size, 1, none⟩ (.int .i64 lo) := CellF.keep hb2 (q1_1_1)
      have c2_3_1 := q2_3_1.1
      have g2_3_1 := q2_3_1.2
      have q2_3_2 : CellF w2 ⟨w.heap.size, 2, none⟩ (.int .i64 hi) := CellF.keep hb2 (q1_1_2)
      have c2_3_2 := q2_3_2.1
      have g2_3_2 := q2_3_2.2
      have q2_3_3 : CellF w2 ⟨w.heap.size, 3, none⟩ (.bool true) := CellF.keep hb2 (q1_1_3)
      have c2_3_3 := q2_3_3.1
      have g2_3_3 := q2_3_3.2
      have q2_3_4 : CellF w2 ⟨w.heap.size, 4, none⟩ (.int .i64 a) := CellF.keep hb2 (q1_1_4)
      have c2_3_4 := q2_3_4.1
      have g2_3_4 := q2_3_4.2
      have q2_3_5 : CellF w2 ⟨w.heap.size, 5, none⟩ (.int .i64 m) := CellF.keep hb2 (q1_1_5)
      have c2_3_5 := q2_3_5.1
      have g2_3_5 := q2_3_5.2
      have z2_3 : w.heap.size < w2.heap.size := ltc c2_3_0
      have q2_4_0 : CellF w2 ⟨(w.heap.size + 1), 0, none⟩ (.int .i64 0) := CellF.keep hb2 (q1_2_0)
      have c2_4_0 := q2_4_0.1
      have g2_4_0 := q2_4_0.2
      have q2_4_1 : CellF w2 ⟨(w.heap.size + 1), 1, none⟩ (.int .i64 0) := CellF.keep hb2 (q1_2_1)
      have c2_4_1 := q2_4_1.1
      have g2_4_1 := q2_4_1.2
      have q2_4_2 : CellF w2 ⟨(w.heap.size + 1), 2, none⟩ (.bool false) := CellF.keep hb2 (q1_2_2)
      have c2_4_2 := q2_4_2.1
      have g2_4_2 := q2_4_2.2
      have z2_4 : (w.heap.size + 1) < w2.heap.size := ltc c2_4_0
      clear q1_1_0 c1_1_0 g1_1_0 q1_1_1 c1_1_1 g1_1_1 q1_1_2 c1_1_2 g1_1_2 q1_1_3 c1_1_3 g1_1_3 q1_1_4 c1_1_4 g1_1_4 q1_1_5 c1_1_5 g1_1_5 z1_1 q1_2_0 c1_2_0 g1_2_0 q1_2_1 c1_2_1 g1_2_1 q1_2_2 c1_2_2 g1_2_2 z1_2
      go_wp2
      exact bodyPost_ret (v := .agg #[.int .i64 x, .int .i64 y, .bool z]) (by simp [results, Try.results82, go_sem, c2_4_0, c2_4_1, c2_4_2]) rfl ⟨rfl, (by repeat (first | with_reducible assumption | with_reducible exact brefl _ | with_reducible refine balloc ?_ _ | with_reducible refine bdrewN ?_ _ | with_reducible refine bset ?_ ?_ _ | (dsimp only; omega) | refine bstep ?_ (by assumption)))⟩

set_option maxRecDepth 100000 in
set_option maxHeartbeats 4000000 in
theorem rvMaster_is (p lo hi : Int) (k : Bool) (a m t x y : Int) (z : Bool) (H : Hid (sMaster ⟨lo, hi, k⟩ a p t = ⟨x, y, z⟩)) (w : World) :
    Calls Try.prog 85 #[.agg #[.int .i64 p, .int .i64 lo, .int .i64 hi, .bool k, .int .i64 a, .int .i64 m], .int .i64 t] w fun e w' => e = .returned (.agg #[.int .i64 x, .int .i64 y, .bool z]) ∧ Below w.heap.size w w' := by
  have hx := H.out
  unfold sMaster spShift at hx
  obtain ⟨⟨r1, r2, r3⟩, h1⟩ : ∃ s, sRead ⟨lo, hi, k⟩ a p t = s := ⟨_, rfl⟩
  obtain ⟨⟨o1, o2, o3⟩, h2⟩ : ∃ s, spOf t t = s := ⟨_, rfl⟩
  rw [h1, h2] at hx
  have H1 := Lib.hid h1
  have H2 := Lib.hid h2
  have HX := Lib.hid hx
  clear H h1 h2 hx
  go_enter Try.func85, Try.ntmps85
  go_wp2_with fail
  refine (rvRead_is _ _ _ _ _ _ _ _ _ _ H1 _).mono ?_
  rintro e w1 ⟨rfl, hb1⟩
  have q1_1_0 : CellF w1 ⟨w.heap.size, 0, none⟩ (.int .i64 p) := CellF.keep hb1 (CellF.past _ (CellF.at_ rfl rfl))
  have c1_1_0 := q1_1_0.1
  have g1_1_0 := q1_1_0.2
  have q1_1_1 : CellF w1 ⟨w.heap.size, 1, none⟩ (.int .i64 lo) := CellF.keep hb1 (CellF.past _ (CellF.at_ rfl rfl))
  have c1_1_1 := q1_1_1.1
  have g1_1_1 := q1_1_1.2
  have q1_1_2 : CellF w1 ⟨w.heap.size, 2, none⟩ (.int .i64 hi) := CellF.keep hb1 (CellF.past _ (CellF.at_ rfl rfl))
  have c1_1_2 := q1_1_2.1
  have g1_1_2 := q1_1_2.2
  have q1_1_3 : CellF w1 ⟨w.heap.size, 3, none⟩ (.bool k) := CellF.keep hb1 (CellF.past _ (CellF.at_ rfl rfl))
  have c1_1_3 := q1_1_3.1
  have g1_1_3 := q1_1_3.2
  have q1_1_4 : CellF w1 ⟨w.heap.size, 4, none⟩ (.int .i64 a) := CellF.keep hb1 (CellF.past _ (CellF.at_ rfl rfl))
  have c1_1_4 := q1_1_4.1
  have g1_1_4 := q1_1_4.2
  have q1_1_5 : CellF w1 ⟨w.heap.size, 5, none⟩ (.int .i64 m) := CellF.keep hb1 (CellF.past _ (CellF.at_ rfl rfl))
  have c1_1_5 := q1_1_5.1
  have g1_1_5 := q1_1_5.2
  have z1_1 : w.heap.size < w1.heap.size := ltc c1_1_0
  have q1_2_0 : CellF w1 ⟨(w.heap.size + 1), 0, none⟩ (.int .i64 0) := CellF.keep hb1 (CellF.at_ (by simp) rfl)
  have c1_2_0 := q1_2_0.1
  have g1_2_0 := q1_2_0.2
  have q1_2_1 : CellF w1 ⟨(w.heap.size + 1), 1, none⟩ (.int .i64 0) := CellF.keep hb1 (CellF.at_ (by simp) rfl)
  have c1_2_1 := q1_2_1.1
  have g1_2_1 := q1_2_1.2
  have q1_2_2 : CellF w1 ⟨(w.heap.size + 1), 2, none⟩ (.bool false) := CellF.keep hb1 (CellF.at_ (by simp) rfl)
  have c1_2_2 := q1_2_2.1
  have g1_2_2 := q1_2_2.2
  have z1_2 : (w.heap.size + 1) < w1.heap.size := ltc c1_2_0
  go_wp2_with fail
  refine (r3Of_is _ _ _ _ _ H2 _).mono ?_
  rintro e w2 ⟨rfl, hb2⟩
  have q2_3_0 : CellF w2 ⟨(w.heap.size + 1), 0, none⟩ (.int .i64 0) := CellF.keep hb2 (q1_2_0)
  have c2_3_0 := q2_3_0.1
  have g2_3_0 := q2_3_0.2
  have q2_3_1 : CellF w2 ⟨(w.heap.size + 1), 1, none⟩ (.int .i64 0) := CellF.keep hb2 (q1_2_1)
  have c2_3_1 := q2_3_1.1
  have g2_3_1 := q2_3_1.2
  have q2_3_2 : CellF w2 ⟨(w.heap.size + 1), 2, none⟩ (.bool false) := CellF.keep hb2 (q1_2_2)
  have c2_3_2 := q2_3_2.1
  have g2_3_2 := q2_3_2.2
  have z2_3 : (w.heap.size + 1) < w2.heap.size := ltc c2_3_0
  clear q1_1_0 c1_1_0 g1_1_0 q1_1_1 c1_1_1 g1_1_1 q1_1_2 c1_1_2 g1_1_2 q1_1_3 c1_1_3 g1_1_3 q1_1_4 c1_1_4 g1_1_4 q1_1_5 c1_1_5 g1_1_5 z1_1 q1_2_0 c1_2_0 g1_2_0 q1_2_1 c1_2_1 g1_2_1 q1_2_2 c1_2_2 g1_2_2 z1_2
  go_wp2_with fail
  refine (r3Add_is _ _ _ _ _ _ _ _ _ HX _).mono ?_
  rintro e w3 ⟨rfl, hb3⟩
  have q3_4_0 : CellF w3 ⟨(w.heap.size + 1), 0, none⟩ (.int .i64 0) := CellF.keep hb3 (q2_3_0)
  have c3_4_0 := q3_4_0.1
  have g3_4_0 := q3_4_0.2
  have q3_4_1 : CellF w3 ⟨(w.heap.size + 1), 1, none⟩ (.int .i64 0) := CellF.keep hb3 (q2_3_1)
  have c3_4_1 := q3_4_1.1
  have g3_4_1 := q3_4_1.2
  have q3_4_2 : CellF w3 ⟨(w.heap.size + 1), 2, none⟩ (.bool false) := CellF.keep hb3 (q2_3_2)
  have c3_4_2 := q3_4_2.1
  have g3_4_2 := q3_4_2.2
  have z3_4 : (w.heap.size + 1) < w3.heap.size := ltc c3_4_0
  clear q2_3_0 c2_3_0 g2_3_0 q2_3_1 c2_3_1 g2_3_1 q2_3_2 c2_3_2 g2_3_2 z2_3
  go_wp2
  exact bodyPost_ret (v := .agg #[.int .i64 x, .int .i64 y, .bool z]) (by simp [results, Try.results85, go_sem, c3_4_0, c3_4_1, c3_4_2]) rfl ⟨rfl, (by repeat (first | with_reducible assumption | with_reducible exact brefl _ | with_reducible refine balloc ?_ _ | with_reducible refine bdrewN ?_ _ | with_reducible refine bset ?_ ?_ _ | (dsimp only; omega) | refine bstep ?_ (by assumption)))⟩

set_option maxRecDepth 100000 in
set_option maxHeartbeats 4000000 in
theorem rvObserve_is (p lo hi : Int) (k : Bool) (a m x y : Int) (z : Bool) (t lo' hi' : Int) (k' : Bool) (a' m' : Int) (r : Bool) (hm0 : 0 ≤ m) (hm1 : m ≤ 1000000) (H : Hid (sObs ⟨lo, hi, k⟩ a m p ⟨x, y, z⟩ t = (⟨lo', hi', k'⟩, a', m', r))) (w : World) :
    Calls Try.prog 106 #[.agg #[.int .i64 p, .int .i64 lo, .int .i64 hi, .bool k, .int .i64 a, .int .i64 m], .agg #[.int .i64 x, .int .i64 y, .bool z], .int .i64 t] w fun e w' => e = .returned (.tuple #[.agg #[.int .i64 p, .int .i64 lo', .int .i64 hi', .bool k', .int .i64 a', .int .i64 m'], .bool r]) ∧ Below w.heap.size w w' := by
  have hx := H.out
  unfold sObs at hx
  obtain ⟨⟨r1, r2, r3⟩, h1⟩ : ∃ s, sRead ⟨lo, hi, k⟩ a p t = s := ⟨_, rfl⟩
  obtain ⟨⟨u1, u2, u3⟩, h2⟩ : ∃ s, spMeet ⟨r1, r2, r3⟩ ⟨x, y, z⟩ = s := ⟨_, rfl⟩
  obtain ⟨c, hc⟩ : ∃ c, sMay ⟨lo, hi, k⟩ a ⟨x, y, z⟩ t = c := ⟨_, rfl⟩
  rw [h1, h2, hc] at hx
  unfold sMay at hc
  dsimp only at hx hc
  obtain ⟨q, h3⟩ : ∃ q, spRight ⟨x, y, z⟩ = q := ⟨_, rfl⟩
  obtain ⟨e, h4⟩ : ∃ e, smallB t = e := ⟨_, rfl⟩
  rw [h3, h4] at hc
  have H1 := Lib.hid h1
  have H2 := Lib.hid h2
  have H3 := Lib.hid h3
  have H4 := Lib.hid h4
  clear H h1 h2 h3 h4
  cases z with
  | false =>
    go_enter Try.func106, Try.ntmps106
    obtain rfl : false = c := by rw [← hc] <;> simp [*]
    rw [if_neg (by decide)] at hx
    obtain ⟨hs, hx⟩ := Prod.mk.inj hx
    obtain ⟨h2, hx⟩ := Prod.mk.inj hx
    obtain ⟨h3, h4⟩ := Prod.mk.inj hx
    clear hx
    subst h2 h3 h4
    cases hs
    go_wp2
    exact bodyPost_ret (v := .tuple #[.agg #[.int .i64 p, .int .i64 lo, .int .i64 hi, .bool k, .int .i64 a, .int .i64 m], .bool false]) (by simp [results, Try.results106, go_sem]) rfl ⟨rfl, (by repeat (first | with_reducible assumption | with_reducible exact brefl _ | with_reducible refine balloc ?_ _ | with_reducible refine bdrewN ?_ _ | with_reducible refine bset ?_ ?_ _ | (dsimp only; omega) | refine bstep ?_ (by assumption)))⟩
  | true =>
    go_enter Try.func106, Try.ntmps106
    go_wp2_with fail
    refine (r3Right_is _ _ _ _ H3 _).mono ?_
    rintro e w1 ⟨rfl, hb1⟩
    have q1_1_0 : CellF w1 ⟨w.heap.size, 0, none⟩ (.int .i64 p) := CellF.keep hb1 (CellF.past _ (CellF.past _ (CellF.at_ rfl rfl)))
    have c1_1_0 := q1_1_0.1
    have g1_1_0 := q1_1_0.2
    have q1_1_1 : CellF w1 ⟨w.heap.size, 1, none⟩ (.int .i64 lo) := CellF.keep hb1 (CellF.past _ (CellF.past _ (CellF.at_ rfl rfl)))
    have c1_1_1 := q1_1_1.1
    have g1_1_1 := q1_1_1.2
    have q1_1_2 : CellF w1 ⟨w.heap.size, 2, none⟩ (.int .i64 hi) := CellF.keep hb1 (CellF.past _ (CellF.past _ (CellF.at_ rfl rfl)))
    have c1_1_2 := q1_1_2.1
    have g1_1_2 := q1_1_2.2
    have q1_1_3 : CellF w1 ⟨w.heap.size, 3, none⟩ (.bool k) := CellF.keep hb1 (CellF.past _ (CellF.past _ (CellF.at_ rfl rfl)))
    have c1_1_3 := q1_1_3.1
    have g1_1_3 := q1_1_3.2
    have q1_1_4 : CellF w1 ⟨w.heap.size, 4, none⟩ (.int .i64 a) := CellF.keep hb1 (CellF.past _ (CellF.past _ (CellF.at_ rfl rfl)))
    have c1_1_4 := q1_1_4.1
    have g1_1_4 := q1_1_4.2
    have q1_1_5 : CellF w1 ⟨w.heap.size, 5, none⟩ (.int .i64 m) := CellF.keep hb1 (CellF.past _ (CellF.past _ (CellF.at_ rfl rfl)))
    have c1_1_5 := q1_1_5.1
    have g1_1_5 := q1_1_5.2
    have z1_1 : w.heap.size < w1.heap.size := ltc c1_1_0
    have q1_2_0 : CellF w1 ⟨(w.heap.size + 1), 0, none⟩ (.int .i64 x) := CellF.keep hb1 (CellF.past _ (CellF.at_ (by simp) rfl))
    have c1_2_0 := q1_2_0.1
    have g1_2_0 := q1_2_0.2
    have q1_2_1 : CellF w1 ⟨(w.heap.size + 1), 1, none⟩ (.int .i64 y) := CellF.keep hb1 (CellF.past _ (CellF.at_ (by simp) rfl))
    have c1_2_1 := q1_2_1.1
    have g1_2_1 := q1_2_1.2
    have q1_2_2 : CellF w1 ⟨(w.heap.size + 1), 2, none⟩ (.bool true) := CellF.keep hb1 (CellF.past _ (CellF.at_ (by simp) rfl))
    have c1_2_2 := q1_2_2.1
    have g1_2_2 := q1_2_2.2
    have z1_2 : (w.heap.size + 1) < w1.heap.size := ltc c1_2_0
    have q1_3_0 : CellF w1 ⟨(w.heap.size + 1 + 1), 0, none⟩ (.int .i64 0) := CellF.keep hb1 (CellF.at_ (by simp) rfl)
    have c1_3_0 := q1_3_0.1
    have g1_3_0 := q1_3_0.2
    have q1_3_1 : CellF w1 ⟨(w.heap.size + 1 + 1), 1, none⟩ (.int .i64 0) := CellF.keep hb1 (CellF.at_ (by simp) rfl)
    have c1_3_1 := q1_3_1.1
    have g1_3_1 := q1_3_1.2
    have q1_3_2 : CellF w1 ⟨(w.heap.size + 1 + 1), 2, none⟩ (.int .i64 0) := CellF.keep hb1 (CellF.at_ (by simp) rfl)
    have c1_3_2 := q1_3_2.1
    have g1_3_2 := q1_3_2.2
    have q1_3_3 : CellF w1 ⟨(w.heap.size + 1 + 1), 3, none⟩ (.bool false) := CellF.keep hb1 (CellF.at_ (by simp) rfl)
    have c1_3_3 := q1_3_3.1
    have g1_3_3 := q1_3_3.2
    have q1_3_4 : CellF w1 ⟨(w.heap.size + 1 + 1), 4, none⟩ (.int .i64 0) := CellF.keep hb1 (CellF.at_ (by simp) rfl)
    have c1_3_4 := q1_3_4.1
    have g1_3_4 := q1_3_4.2
    have q1_3_5 : CellF w1 ⟨(w.heap.size + 1 + 1), 5, none⟩ (.int .i64 0) := CellF.keep hb1 (CellF.at_ (by simp) rfl)
    have c1_3_5 := q1_3_5.1
    have g1_3_5 := q1_3_5.2
    have z1_3 : (w.heap.size + 1 + 1) < w1.heap.size := ltc c1_3_0
    cases q with
    | false =>
      obtain rfl : false = c := by rw [← hc] <;> simp [*]
      rw [if_neg (by decide)] at hx
      obtain ⟨hs, hx⟩ := Prod.mk.inj hx
      obtain ⟨h2, hx⟩ := Prod.mk.inj hx
      obtain ⟨h3, h4⟩ := Prod.mk.inj hx
      clear hx
      subst h2 h3 h4
      cases hs
      go_wp2
      exact bodyPost_ret (v := .tuple #[.agg #[.int .i64 p, .int .i64 lo, .int .i64 hi, .bool k, .int .i64 a, .int .i64 m], .bool false]) (by simp [results, Try.results106, go_sem, c1_3_0, c1_3_1, c1_3_2, c1_3_3, c1_3_4, c1_3_5]) rfl ⟨rfl, (by repeat (first | with_reducible assumption | with_reducible exact brefl _ | with_reducible refine balloc ?_ _ | with_reducible refine bdrewN ?_ _ | with_reducible refine bset ?_ ?_ _ | (dsimp only; omega) | refine bstep ?_ (by assumption)))⟩
    | true =>
      go_wp2_with fail
      refine (rSm_is _ _ H4 _).mono ?_
      rintro e w2 ⟨rfl, hb2⟩
      have q2_4_0 : CellF w2 ⟨w.heap.size, 0, none⟩ (.int .i64 p) := CellF.keep hb2 (q1_1_0)
      have c2_4_0 := q2_4_0.1
      have g2_4_0 := q2_4_0.2
      have q2_4_1 : CellF w2 ⟨w.heap.size, 1, none⟩ (.int .i64 lo) := CellF.keep hb2 (q1_1_1)
      have c2_4_1 := q2_4_1.1
      have g2_4_1 := q2_4_1.2
      have q2_4_2 : CellF w2 ⟨w.heap.size, 2, none⟩ (.int .i64 hi) := CellF.keep hb2 (q1_1_2)
      have c2_4_2 := q2_4_2.1
      have g2_4_2 := q2_4_2.2
      have q2_4_3 : CellF w2 ⟨w.heap.size, 3, none⟩ (.bool k) := CellF.keep hb2 (q1_1_3)
      have c2_4_3 := q2_4_3.1
      have g2_4_3 := q2_4_3.2
      have q2_4_4 : CellF w2 ⟨w.heap.size, 4, none⟩ (.int .i64 a) := CellF.keep hb2 (q1_1_4)
      have c2_4_4 := q2_4_4.1
      have g2_4_4 := q2_4_4.2
      have q2_4_5 : CellF w2 ⟨w.heap.size, 5, none⟩ (.int .i64 m) := CellF.keep hb2 (q1_1_5)
      have c2_4_5 := q2_4_5.1
      have g2_4_5 := q2_4_5.2
      have z2_4 : w.heap.size < w2.heap.size := ltc c2_4_0
      have q2_5_0 : CellF w2 ⟨(w.heap.size + 1), 0, none⟩ (.int .i64 x) := CellF.keep hb2 (q1_2_0)
      have c2_5_0 := q2_5_0.1
      have g2_5_0 := q2_5_0.2
      have q2_5_1 : CellF w2 ⟨(w.heap.size + 1), 1, none⟩ (.int .i64 y) := CellF.keep hb2 (q1_2_1)
      have c2_5_1 := q2_5_1.1
      have g2_5_1 := q2_5_1.2
      have q2_5_2 : CellF w2 ⟨(w.heap.size + 1), 2, none⟩ (.bool true) := CellF.keep hb2 (q1_2_2)
      have c2_5_2 := q2_5_2.1
      have g2_5_2 := q2_5_2.2
      have z2_5 : (w.heap.size + 1) < w2.heap.size := ltc c2_5_0
      have q2_6_0 : CellF w2 ⟨(w.heap.size + 1 + 1), 0, none⟩ (.int .i64 0) := CellF.keep hb2 (q1_3_0)
      have c2_6_0 := q2_6_0.1
      have g2_6_0 := q2_6_0.2
      have q2_6_1 : CellF w2 ⟨(w.heap.size + 1 + 1), 1, none⟩ (.int .i64 0) := CellF.keep hb2 (q1_3_1)
      have c2_6_1 := q2_6_1.1
      have g2_6_1 := q2_6_1.2
      have q2_6_2 : CellF w2 ⟨(w.heap.size + 1 + 1), 2, none⟩ (.int .i64 0) := CellF.keep hb2 (q1_3_2)
      have c2_6_2 := q2_6_2.1
      have g2_6_2 := q2_6_2.2
      have q2_6_3 : CellF w2 ⟨(w.heap.size + 1 + 1), 3, none⟩ (.bool false) := CellF.keep hb2 (q1_3_3)
      have c2_6_3 := q2_6_3.1
      have g2_6_3 := q2_6_3.2
      have q2_6_4 : CellF w2 ⟨(w.heap.size + 1 + 1), 4, none⟩ (.int .i64 0) := CellF.keep hb2 (q1_3_4)
      have c2_6_4 := q2_6_4.1
      have g2_6_4 := q2_6_4.2
      have q2_6_5 : CellF w2 ⟨(w.heap.size + 1 + 1), 5, none⟩ (.int .i64 0) := CellF.keep hb2 (q1_3_5)
      have c2_6_5 := q2_6_5.1
      have g2_6_5 := q2_6_5.2
      have z2_6 : (w.heap.size + 1 + 1) < w2.heap.size := ltc c2_6_0
      clear q1_1_0 c1_1_0 g1_1_0 q1_1_1 c1_1_1 g1_1_1 q1_1_2 c1_1_2 g1_1_2 q1_1_3 c1_1_3 g1_1_3 q1_1_4 c1_1_4 g1_1_4 q1_1_5 c1_1_5 g1_1_5 z1_1 q1_2_0 c1_2_0 g1_2_0 q1_2_1 c1_2_1 g1_2_1 q1_2_2 c1_2_2 g1_2_2 z1_2 q1_3_0 c1_3_0 g1_3_0 q1_3_1 c1_3_1 g1_3_1 q1_3_2 c1_3_2 g1_3_2 q1_3_3 c1_3_3 g1_3_3 q1_3_4 c1_3_4 g1_3_4 q1_3_5 c1_3_5 g1_3_5 z1_3
      cases e with
      | false =>
        obtain rfl : false = c := by rw [← hc] <;> simp [*]
        rw [if_neg (by decide)] at hx
        obtain ⟨hs, hx⟩ := Prod.mk.inj hx
        obtain ⟨h2, hx⟩ := Prod.mk.inj hx
        obtain ⟨h3, h4⟩ := Prod.mk.inj hx
        clear hx
        subst h2 h3 h4
        cases hs
        go_wp2
        exact bodyPost_ret (v := .tuple #[.agg #[.int .i64 p, .int .i64 lo, .int .i64 hi, .bool k, .int .i64 a, .int .i64 m], .bool false]) (by simp [results, Try.results106, go_sem, c2_6_0, c2_6_1, c2_6_2, c2_6_3, c2_6_4, c2_6_5]) rfl ⟨rfl, (by repeat (first | with_reducible assumption | with_reducible exact brefl _ | with_reducible refine balloc ?_ _ | with_reducible refine bdrewN ?_ _ | with_reducible refine bset ?_ ?_ _ | (dsimp only; omega) | refine bstep ?_ (by assumption)))⟩
      | true =>
        cases k with
        | false =>
          obtain rfl : true = c := by rw [← hc] <;> simp [*]
          have h0 : r3 = false := by have := H1.out; unfold sRead at this; rw [if_pos (.inr rfl)] at this; cases this; rfl
          subst h0
          rw [if_pos rfl, if_pos (.inl rfl)] at hx
          obtain ⟨hs, hx⟩ := Prod.mk.inj hx
          obtain ⟨h2, hx⟩ := Prod.mk.inj hx
          obtain ⟨h3, h4⟩ := Prod.mk.inj hx
          clear hx
          subst h2 h3 h4
          cases hs
          go_wp2
          exact bodyPost_ret (v := .tuple #[.agg #[.int .i64 p, .int .i64 x, .int .i64 y, .bool true, .int .i64 t, .int .i64 1], .bool (!false)]) (by simp [results, Try.results106, go_sem, c2_6_0, c2_6_1, c2_6_2, c2_6_3, c2_6_4, c2_6_5]) rfl ⟨rfl, (by repeat (first | with_reducible assumption | with_reducible exact brefl _ | with_reducible refine balloc ?_ _ | with_reducible refine bdrewN ?_ _ | with_reducible refine bset ?_ ?_ _ | (dsimp only; omega) | refine bstep ?_ (by assumption)))⟩
        | true =>
          by_cases n1 : t < a
          ·
            have n1' : ¬ a ≤ t := by omega
            obtain rfl : false = c := by rw [← hc] <;> simp [*]
            rw [if_neg (by decide)] at hx
            obtain ⟨hs, hx⟩ := Prod.mk.inj hx
            obtain ⟨h2, hx⟩ := Prod.mk.inj hx
            obtain ⟨h3, h4⟩ := Prod.mk.inj hx
            clear hx
            subst h2 h3 h4
            cases hs
            go_wp2
            exact bodyPost_ret (v := .tuple #[.agg #[.int .i64 p, .int .i64 lo, .int .i64 hi, .bool true, .int .i64 a, .int .i64 m], .bool false]) (by simp [results, Try.results106, go_sem, c2_6_0, c2_6_1, c2_6_2, c2_6_3, c2_6_4, c2_6_5]) rfl ⟨rfl, (by repeat (first | with_reducible assumption | with_reducible exact brefl _ | with_reducible refine balloc ?_ _ | with_reducible refine bdrewN ?_ _ | with_reducible refine bset ?_ ?_ _ | (dsimp only; omega) | refine bstep ?_ (by assumption)))⟩
          have n1' : a ≤ t := by omega
          obtain rfl : true = c := by rw [← hc] <;> simp [*]
          rw [if_pos rfl] at hx
          go_wp2_with fail
          refine (rvRead_is _ _ _ _ _ _ _ _ _ _ H1 _).mono ?_
          rintro e w3 ⟨rfl, hb3⟩
          have q3_7_0 : CellF w3 ⟨w.heap.size, 0, none⟩ (.int .i64 p) := CellF.keep hb3 (q2_4_0)
          have c3_7_0 := q3_7_0.1
          have g3_7_0 := q3_7_0.2
          have q3_7_1 : CellF w3 ⟨w.heap.size, 1, none⟩ (.int .i64 lo) := CellF.keep hb3 (q2_4_1)
          have c3_7_1 := q3_7_1.1
          have g3_7_1 := q3_7_1.2
          have q3_7_2 : CellF w3 ⟨w.heap.size, 2, none⟩ (.int .i64 hi) := CellF.keep hb3 (q2_4_2)
          have c3_7_2 := q3_7_2.1
          have g3_7_2 := q3_7_2.2
          have q3_7_3 : CellF w3 ⟨w.heap.size, 3, none⟩ (.bool true) := CellF.keep hb3 (q2_4_3)
          have c3_7_3 := q3_7_3.1
          have g3_7_3 := q3_7_3.2
          have q3_7_4 : CellF w3 ⟨w.heap.size, 4, none⟩ (.int .i64 a) := CellF.keep hb3 (q2_4_4)
          have c3_7_4 := q3_7_4.1
          have g3_7_4 := q3_7_4.2
          have q3_7_5 : CellF w3 ⟨w.heap.size, 5, none⟩ (.int .i64 m) := CellF.keep hb3 (q2_4_5)
          have c3_7_5 := q3_7_5.1
          have g3_7_5 := q3_7_5.2
          have z3_7 : w.heap.size < w3.heap.size := ltc c3_7_0
          have q3_8_0 : CellF w3 ⟨(w.heap.size + 1), 0, none⟩ (.int .i64 x) := CellF.keep hb3 (q2_5_0)
          have c3_8_0 := q3_8_0.1
          have g3_8_0 := q3_8_0.2
          have q3_8_1 : CellF w3 ⟨(w.heap.size + 1), 1, none⟩ (.int .i64 y) := CellF.keep hb3 (q2_5_1)
          have c3_8_1 := q3_8_1.1
          have g3_8_1 := q3_8_1.2
          have q3_8_2 : CellF w3 ⟨(w.heap.size + 1), 2, none⟩ (.bool true) := CellF.keep hb3 (q2_5_2)
          have c3_8_2 := q3_8_2.1
          have g3_8_2 := q3_8_2.2
          have z3_8 : (w.heap.size + 1) < w3.heap.size := ltc c3_8_0
          have q3_9_0 : CellF w3 ⟨(w.heap.size + 1 + 1), 0, none⟩ (.int .i64 0) := CellF.keep hb3 (q2_6_0)
          have c3_9_0 := q3_9_0.1
          have g3_9_0 := q3_9_0.2
          have q3_9_1 : CellF w3 ⟨(w.heap.size + 1 + 1), 1, none⟩ (.int .i64 0) := CellF.keep hb3 (q2_6_1)
          have c3_9_1 := q3_9_1.1
          have g3_9_1 := q3_9_1.2
          have q3_9_2 : CellF w3 ⟨(w.heap.size + 1 + 1), 2, none⟩ (.int .i64 0) := CellF.keep hb3 (q2_6_2)
          have c3_9_2 := q3_9_2.1
          have g3_9_2 := q3_9_2.2
          have q3_9_3 : CellF w3 ⟨(w.heap.size + 1 + 1), 3, none⟩ (.bool false) := CellF.keep hb3 (q2_6_3)
          have c3_9_3 := q3_9_3.1
          have g3_9_3 := q3_9_3.2
          have q3_9_4 : CellF w3 ⟨(w.heap.size + 1 + 1), 4, none⟩ (.int .i64 0) := CellF.keep hb3 (q2_6_4)
          have c3_9_4 := q3_9_4.1
          have g3_9_4 := q3_9_4.2
          have q3_9_5 : CellF w3 ⟨(w.heap.size + 1 + 1), 5, none⟩ (.int .i64 0) := CellF.keep hb3 (q2_6_5)
          have c3_9_5 := q3_9_5.1
          have g3_9_5 := q3_9_5.2
          have z3_9 : (w.heap.size + 1 + 1) < w3.heap.size := ltc c3_9_0
          clear q2_4_0 c2_4_0 g2_4_0 q2_4_1 c2_4_1 g2_4_1 q2_4_2 c2_4_2 g2_4_2 q2_4_3 c2_4_3 g2_4_3 q2_4_4 c2_4_4 g2_4_4 q2_4_5 c2_4_5 g2_4_5 z2_4 q2_5_0 c2_5_0 g2_5_0 q2_5_1 c2_5_1 g2_5_1 q2_5_2 c2_5_2 g2_5_2 z2_5 q2_6_0 c2_6_0 g2_6_0 q2_6_1 c2_6_1 g2_6_1 q2_6_2 c2_6_2 g2_6_2 q2_6_3 c2_6_3 g2_6_3 q2_6_4 c2_6_4 g2_6_4 q2_6_5 c2_6_5 g2_6_5 z2_6
          go_wp2_with fail
          refine (r3Meet_is _ _ _ _ _ _ _ _ _ H2 _).mono ?_
          rintro e w4 ⟨rfl, hb4⟩
          have q4_10_0 : CellF w4 ⟨w.heap.size, 0, none⟩ (.int .i64 p) := CellF.keep hb4 (CellF.past _ (q3_7_0))
          have c4_10_0 := q4_10_0.1
          have g4_10_0 := q4_10_0.2
          have q4_10_1 : CellF w4 ⟨w.heap.size, 1, none⟩ (.int .i64 lo) := CellF.keep hb4 (CellF.past _ (q3_7_1))
          have c4_10_1 := q4_10_1.1
          have g4_10_1 := q4_10_1.2
          have q4_10_2 : CellF w4 ⟨w.heap.size, 2, none⟩ (.int .i64 hi) := CellF.keep hb4 (CellF.past _ (q3_7_2))
          have c4_10_2 := q4_10_2.1
          have g4_10_2 := q4_10_2.2
          have q4_10_3 : CellF w4 ⟨w.heap.size, 3, none⟩ (.bool true) := CellF.keep hb4 (CellF.past _ (q3_7_3))
          have c4_10_3 := q4_10_3.1
          have g4_10_3 := q4_10_3.2
          have q4_10_4 : CellF w4 ⟨w.heap.size, 4, none⟩ (.int .i64 a) := CellF.keep hb4 (CellF.past _ (q3_7_4))
          have c4_10_4 := q4_10_4.1
          have g4_10_4 := q4_10_4.2
          have q4_10_5 : CellF w4 ⟨w.heap.size, 5, none⟩ (.int .i64 m) := CellF.keep hb4 (CellF.past _ (q3_7_5))
          have c4_10_5 := q4_10_5.1
          have g4_10_5 := q4_10_5.2
          have z4_10 : w.heap.size < w4.heap.size := ltc c4_10_0
          have q4_11_0 : CellF w4 ⟨(w.heap.size + 1), 0, none⟩ (.int .i64 x) := CellF.keep hb4 (CellF.past _ (q3_8_0))
          have c4_11_0 := q4_11_0.1
          have g4_11_0 := q4_11_0.2
          have q4_11_1 : CellF w4 ⟨(w.heap.size + 1), 1, none⟩ (.int .i64 y) := CellF.keep hb4 (CellF.past _ (q3_8_1))
          have c4_11_1 := q4_11_1.1
          have g4_11_1 := q4_11_1.2
          have q4_11_2 : CellF w4 ⟨(w.heap.size + 1), 2, none⟩ (.bool true) := CellF.keep hb4 (CellF.past _ (q3_8_2))
          have c4_11_2 := q4_11_2.1
          have g4_11_2 := q4_11_2.2
          have z4_11 : (w.heap.size + 1) < w4.heap.size := ltc c4_11_0
          have q4_12_0 : CellF w4 ⟨(w.heap.size + 1 + 1), 0, none⟩ (.int .i64 0) := CellF.keep hb4 (CellF.past _ (q3_9_0))
          have c4_12_0 := q4_12_0.1
          have g4_12_0 := q4_12_0.2
          have q4_12_1 : CellF w4 ⟨(w.heap.size + 1 + 1), 1, none⟩ (.int .i64 0) := CellF.keep hb4 (CellF.past _ (q3_9_1))
          have c4_12_1 := q4_12_1.1
          have g4_12_1 := q4_12_1.2
          have q4_12_2 : CellF w4 ⟨(w.heap.size + 1 + 1), 2, none⟩ (.int .i64 0) := CellF.keep hb4 (CellF.past _ (q3_9_2))
          have c4_12_2 := q4_12_2.1
          have g4_12_2 := q4_12_2.2
          have q4_12_3 : CellF w4 ⟨(w.heap.size + 1 + 1), 3, none⟩ (.bool false) := CellF.keep hb4 (CellF.past _ (q3_9_3))
          have c4_12_3 := q4_12_3.1
          have g4_12_3 := q4_12_3.2
          have q4_12_4 : CellF w4 ⟨(w.heap.size + 1 + 1), 4, none⟩ (.int .i64 0) := CellF.keep hb4 (CellF.past _ (q3_9_4))
          have c4_12_4 := q4_12_4.1
          have g4_12_4 := q4_12_4.2
          have q4_12_5 : CellF w4 ⟨(w.heap.size + 1 + 1), 5, none⟩ (.int .i64 0) := CellF.keep hb4 (CellF.past _ (q3_9_5))
          have c4_12_5 := q4_12_5.1
          have g4_12_5 := q4_12_5.2
          have z4_12 : (w.heap.size + 1 + 1) < w4.heap.size := ltc c4_12_0
          have q4_13_0 : CellF w4 ⟨w3.heap.size, 0, none⟩ (.int .i64 r1) := CellF.keep hb4 (CellF.at_ rfl rfl)
          have c4_13_0 := q4_13_0.1
          have g4_13_0 := q4_13_0.2
          have q4_13_1 : CellF w4 ⟨w3.heap.size, 1, none⟩ (.int .i64 r2) := CellF.keep hb4 (CellF.at_ rfl rfl)
          have c4_13_1 := q4_13_1.1
          have g4_13_1 := q4_13_1.2
          have q4_13_2 : CellF w4 ⟨w3.heap.size, 2, none⟩ (.bool r3) := CellF.keep hb4 (CellF.at_ rfl rfl)
          have c4_13_2 := q4_13_2.1
          have g4_13_2 := q4_13_2.2
          have z4_13 : w3.heap.size < w4.heap.size := ltc c4_13_0
          clear q3_7_0 c3_7_0 g3_7_0 q3_7_1 c3_7_1 g3_7_1 q3_7_2 c3_7_2 g3_7_2 q3_7_3 c3_7_3 g3_7_3 q3_7_4 c3_7_4 g3_7_4 q3_7_5 c3_7_5 g3_7_5 z3_7 q3_8_0 c3_8_0 g3_8_0 q3_8_1 c3_8_1 g3_8_1 q3_8_2 c3_8_2 g3_8_2 z3_8 q3_9_0 c3_9_0 g3_9_0 q3_9_1 c3_9_1 g3_9_1 q3_9_2 c3_9_2 g3_9_2 q3_9_3 c3_9_3 g3_9_3 q3_9_4 c3_9_4 g3_9_4 q3_9_5 c3_9_5 g3_9_5 z3_9
          cases r3 with
          | false =>
            rw [if_pos (by simp)] at hx
            obtain ⟨hs, hx⟩ := Prod.mk.inj hx
            obtain ⟨h2, hx⟩ := Prod.mk.inj hx
            obtain ⟨h3, h4⟩ := Prod.mk.inj hx
            clear hx
            subst h2 h3 h4
            cases hs
            go_wp2
            exact bodyPost_ret (v := .tuple #[.agg #[.int .i64 p, .int .i64 x, .int .i64 y, .bool true, .int .i64 t, .int .i64 1], .bool (!true)]) (by simp [results, Try.results106, go_sem, c4_12_0, c4_12_1, c4_12_2, c4_12_3, c4_12_4, c4_12_5, z4_12]) rfl ⟨rfl, (by repeat (first | with_reducible assumption | with_reducible exact brefl _ | with_reducible refine balloc ?_ _ | with_reducible refine bdrewN ?_ _ | with_reducible refine bset ?_ ?_ _ | (dsimp only; omega) | refine bstep ?_ (by assumption)))⟩
          | true =>
            cases u3 with
            | false =>
              rw [if_pos (by simp)] at hx
              obtain ⟨hs, hx⟩ := Prod.mk.inj hx
              obtain ⟨h2, hx⟩ := Prod.mk.inj hx
              obtain ⟨h3, h4⟩ := Prod.mk.inj hx
              clear hx
              subst h2 h3 h4
              cases hs
              go_wp2
              exact bodyPost_ret (v := .tuple #[.agg #[.int .i64 p, .int .i64 x, .int .i64 y, .bool true, .int .i64 t, .int .i64 1], .bool (!true)]) (by simp [results, Try.results106, go_sem, c4_12_0, c4_12_1, c4_12_2, c4_12_3, c4_12_4, c4_12_5, z4_12]) rfl ⟨rfl, (by repeat (first | with_reducible assumption | with_reducible exact brefl _ | with_reducible refine balloc ?_ _ | with_reducible refine bdrewN ?_ _ | with_reducible refine bset ?_ ?_ _ | (dsimp only; omega) | refine bstep ?_ (by assumption)))⟩
            | true =>
              rw [if_neg (by simp)] at hx
              obtain ⟨hs, hx⟩ := Prod.mk.inj hx
              obtain ⟨h2, hx⟩ := Prod.mk.inj hx
              obtain ⟨h3, h4⟩ := Prod.mk.inj hx
              clear hx
              subst h2 h3 h4
              cases hs
              have hwm : IntKind.i64.wrap (m + 1) = m + 1 := by rw [IntKind.wrap_i64]; omega
              go_wp2
              exact bodyPost_ret (v := .tuple #[.agg #[.int .i64 p, .int .i64 lo', .int .i64 hi', .bool true, .int .i64 t, .int .i64 (m + 1)], .bool true]) (by simp [results, Try.results106, go_sem, c4_12_0, c4_12_1, c4_12_2, c4_12_3, c4_12_4, c4_12_5, z4_12]) rfl ⟨rfl, (by repeat (first | with_reducible assumption | with_reducible exact brefl _ | with_reducible refine balloc ?_ _ | with_reducible refine bdrewN ?_ _ | with_reducible refine bset ?_ ?_ _ | (dsimp only; omega) | refine bstep ?_ (by assumption)))⟩

set_option maxRecDepth 100000 in
set_option maxHeartbeats 4000000 in
theorem rvDo_is (p lo hi : Int) (k : Bool) (a m kd t x y : Int) (z : Bool) (lo' hi' : Int) (k' : Bool) (a' m' : Int) (r : Bool) (hm0 : 0 ≤ m) (hm1 : m ≤ 1000000) (H : Hid (sDo ⟨lo, hi, k⟩ a m p kd t ⟨x, y, z⟩ = (⟨lo', hi', k'⟩, a', m', r))) (w : World) :
    Calls Try.prog 78 #[.agg #[.int .i64 p, .int .i64 lo, .int .i64 hi, .bool k, .int .i64 a, .int .i64 m], .agg #[.int .i64 kd, .int .i64 t, .int .i64 x, .int .i64 y, .bool z]] w fun e w' => e = .returned (.tuple #[.agg #[.int .i64 p, .int .i64 lo', .int .i64 hi', .bool k', .int .i64 a', .int .i64 m'], .bool r]) ∧ Below w.heap.size w w' := by
  have hx := H.out
  unfold sDo at hx
  clear H
  by_cases h0 : kd = 0
  ·
    rw [if_pos h0] at hx
    have HX := Lib.hid hx
    subst h0
    clear hx
    go_enter Try.func78, Try.ntmps78
    go_wp2_with fail
    refine (rvObserve_is _ _ _ _ _ _ _ _ _ _ _ _ _ _ _ _ hm0 hm1 HX _).mono ?_
    rintro e w1 ⟨rfl, hb1⟩
    have q1_1_0 : CellF w1 ⟨w.heap.size, 0, none⟩ (.int .i64 p) := CellF.keep hb1 (CellF.past _ (CellF.past _ (CellF.at_ rfl rfl)))
    have c1_1_0 := q1_1_0.1
    have g1_1_0 := q1_1_0.2
    have q1_1_1 : CellF w1 ⟨w.heap.size, 1, none⟩ (.int .i64 lo) := CellF.keep hb1 (CellF.past _ (CellF.past _ (CellF.at_ rfl rfl)))
    have c1_1_1 := q1_1_1.1
    have g1_1_1 := q1_1_1.2
    have q1_1_2 : CellF w1 ⟨w.heap.size, 2, none⟩ (.int .i64 hi) := CellF.keep hb1 (CellF.past _ (CellF.past _ (CellF.at_ rfl rfl)))
    have c1_1_2 := q1_1_2.1
    have g1_1_2 := q1_1_2.2
    have q1_1_3 : CellF w1 ⟨w.heap.size, 3, none⟩ (.bool k) := CellF.keep hb1 (CellF.past _ (CellF.past _ (CellF.at_ rfl rfl)))
    have c1_1_3 := q1_1_3.1
    have g1_1_3 := q1_1_3.2
    have q1_1_4 : CellF w1 ⟨w.heap.size, 4, none⟩ (.int .i64 a) := CellF.keep hb1 (CellF.past _ (CellF.past _ (CellF.at_ rfl rfl)))
    have c1_1_4 := q1_1_4.1
    have g1_1_4 := q1_1_4.2
    have q1_1_5 : CellF w1 ⟨w.heap.size, 5, none⟩ (.int .i64 m) := CellF.keep hb1 (CellF.past _ (CellF.past _ (CellF.at_ rfl rfl)))
    have c1_1_5 := q1_1_5.1
    have g1_1_5 := q1_1_5.2
    have z1_1 : w.heap.size < w1.heap.size := ltc c1_1_0
    have q1_2_0 : CellF w1 ⟨(w.heap.size + 1), 0, none⟩ (.int .i64 0) := CellF.keep hb1 (CellF.past _ (CellF.at_ (by simp) rfl))
    have c1_2_0 := q1_2_0.1
    have g1_2_0 := q1_2_0.2
    have q1_2_1 : CellF w1 ⟨(w.heap.size + 1), 1, none⟩ (.int .i64 t) := CellF.keep hb1 (CellF.past _ (CellF.at_ (by simp) rfl))
    have c1_2_1 := q1_2_1.1
    have g1_2_1 := q1_2_1.2
    have q1_2_2 : CellF w1 ⟨(w.heap.size + 1), 2, none⟩ (.int .i64 x) := CellF.keep hb1 (CellF.past _ (CellF.at_ (by simp) rfl))
    have c1_2_2 := q1_2_2.1
    have g1_2_2 := q1_2_2.2
    have q1_2_3 : CellF w1 ⟨(w.heap.size + 1), 3, none⟩ (.int .i64 y) := CellF.keep hb1 (CellF.past _ (CellF.at_ (by simp) rfl))
    have c1_2_3 := q1_2_3.1
    have g1_2_3 := q1_2_3.2
    have q1_2_4 : CellF w1 ⟨(w.heap.size + 1), 4, none⟩ (.bool z) := CellF.keep hb1 (CellF.past _ (CellF.at_ (by simp) rfl))
    have c1_2_4 := q1_2_4.1
    have g1_2_4 := q1_2_4.2
    have z1_2 : (w.heap.size + 1) < w1.heap.size := ltc c1_2_0
    have q1_3_0 : CellF w1 ⟨(w.heap.size + 1 + 1), 0, none⟩ (.int .i64 0) := CellF.keep hb1 (CellF.at_ (by simp) rfl)
    have c1_3_0 := q1_3_0.1
    have g1_3_0 := q1_3_0.2
    have q1_3_1 : CellF w1 ⟨(w.heap.size + 1 + 1), 1, none⟩ (.int .i64 0) := CellF.keep hb1 (CellF.at_ (by simp) rfl)
    have c1_3_1 := q1_3_1.1
    have g1_3_1 := q1_3_1.2
    have q1_3_2 : CellF w1 ⟨(w.heap.size + 1 + 1), 2, none⟩ (.int .i64 0) := CellF.keep hb1 (CellF.at_ (by simp) rfl)
    have c1_3_2 := q1_3_2.1
    have g1_3_2 := q1_3_2.2
    have q1_3_3 : CellF w1 ⟨(w.heap.size + 1 + 1), 3, none⟩ (.bool false) := CellF.keep hb1 (CellF.at_ (by simp) rfl)
    have c1_3_3 := q1_3_3.1
    have g1_3_3 := q1_3_3.2
    have q1_3_4 : CellF w1 ⟨(w.heap.size + 1 + 1), 4, none⟩ (.int .i64 0) := CellF.keep hb1 (CellF.at_ (by simp) rfl)
    have c1_3_4 := q1_3_4.1
    have g1_3_4 := q1_3_4.2
    have q1_3_5 : CellF w1 ⟨(w.heap.size + 1 + 1), 5, none⟩ (.int .i64 0) := CellF.keep hb1 (CellF.at_ (by simp) rfl)
    have c1_3_5 := q1_3_5.1
    have g1_3_5 := q1_3_5.2
    have z1_3 : (w.heap.size + 1 + 1) < w1.heap.size := ltc c1_3_0
    go_wp2
    exact bodyPost_ret (v := .tuple #[.agg #[.int .i64 p, .int .i64 lo', .int .i64 hi', .bool k', .int .i64 a', .int .i64 m'], .bool r]) (by simp [results, Try.results78, go_sem, c1_3_0, c1_3_1, c1_3_2, c1_3_3, c1_3_4, c1_3_5]) rfl ⟨rfl, (by repeat (first | with_reducible assumption | with_reducible exact brefl _ | with_reducible refine balloc ?_ _ | with_reducible refine bdrewN ?_ _ | with_reducible refine bset ?_ ?_ _ | (dsimp only; omega) | refine bstep ?_ (by assumption)))⟩
  rw [if_neg h0] at hx
  by_cases h1 : kd = 1
  ·
    rw [if_pos h1] at hx
    subst h1
    have hx : (spNo, (0 : Int), (0 : Int), true) = ((⟨lo', hi', k'⟩ : Sp), a', m', r) := hx
    obtain ⟨hs, hx⟩ := Prod.mk.inj hx
    obtain ⟨h2, hx⟩ := Prod.mk.inj hx
    obtain ⟨h3, h4⟩ := Prod.mk.inj hx
    clear hx
    subst h2 h3 h4
    cases hs
    go_enter Try.func78, Try.ntmps78
    go_wp2
    exact bodyPost_ret (v := .tuple #[.agg #[.int .i64 p, .int .i64 0, .int .i64 0, .bool false, .int .i64 0, .int .i64 0], .bool true]) (by simp [results, Try.results78, go_sem]) rfl ⟨rfl, (by repeat (first | with_reducible assumption | with_reducible exact brefl _ | with_reducible refine balloc ?_ _ | with_reducible refine bdrewN ?_ _ | with_reducible refine bset ?_ ?_ _ | (dsimp only; omega) | refine bstep ?_ (by assumption)))⟩
  rw [if_neg h1] at hx
  obtain ⟨hs, hx⟩ := Prod.mk.inj hx
  obtain ⟨h2, hx⟩ := Prod.mk.inj hx
  obtain ⟨h3, h4⟩ := Prod.mk.inj hx
  clear hx
  subst h2 h3 h4
  cases hs
  go_enter Try.func78, Try.ntmps78
  go_wp2
  exact bodyPost_ret (v := .tuple #[.agg #[.int .i64 p, .int .i64 lo, .int .i64 hi, .bool k, .int .i64 a, .int .i64 m], .bool true]) (by simp [results, Try.results78, go_sem]) rfl ⟨rfl, (by repeat (first | with_reducible assumption | with_reducible exact brefl _ | with_reducible refine balloc ?_ _ | with_reducible refine bdrewN ?_ _ | with_reducible refine bset ?_ ?_ _ | (dsimp only; omega) | refine bstep ?_ (by assumption)))⟩
end Go.Proofs.Ytnphbdhcoiaklaa
