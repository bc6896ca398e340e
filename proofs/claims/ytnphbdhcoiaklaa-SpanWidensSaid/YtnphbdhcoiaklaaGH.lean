/-
  The walk of package span's Scale, and of its closure.
  The walk of package span's Scale.
  The walk of horologelaw03.alive: it returns true.
-/
import Derived.Test.YtnphbdhcoiaklaaGB
namespace Go.Proofs.Ytnphbdhcoiaklaa
open Go.RowKit

/-- The closure: what it was told, and what it met, lie in two blocks of the caller's. -/
def ScaleLeaves (B : Nat) (w : World) (o g : Nat) (x y : Int) (z q : Bool) (e : Ending) (w' : World) : Prop :=
  e = .returned (.tuple #[]) ∧ Below B w w' ∧ CellF w' ⟨o, 0, none⟩ (.int .i64 x) ∧ CellF w' ⟨o, 1, none⟩ (.int .i64 y) ∧ CellF w' ⟨o, 2, none⟩ (.bool z) ∧ CellF w' ⟨g, 0, none⟩ (.bool q)

theorem CellF.set_same {a : World} {p : Addr} {u : Value} (v : Value) (h : CellF a p u) : CellF (a.setCell p v) p v :=
  ⟨World.cell?_setCell_same _ _ _ h.1, by rw [World.frozen?_setCell]; exact h.2⟩
theorem CellF.set_other {a : World} {p q : Addr} {u : Value} (v : Value) (hne : p ≠ q) (h : CellF a q u) : CellF (a.setCell p v) q u :=
  ⟨(World.cell?_setCell_other _ _ _ _ hne).trans h.1, by rw [World.frozen?_setCell]; exact h.2⟩
theorem bB {B : Nat} {w a b : World} (h : Below B w a) (hB : B ≤ w.heap.size) (k : Below a.heap.size a b) : Below B w b := h.trans (k.mono (Nat.le_trans hB h.size))
theorem bBa {B : Nat} {w a : World} (h : Below B w a) (hB : B ≤ w.heap.size) (o : Obj) : Below B w (a.alloc o) := h.alloc (Nat.le_trans hB h.size) o

/-- Six stores: the three cells of the call's own block, and the three of the caller's. -/
theorem six_sets {B : Nat} {w4 : World} {o g c : Nat} {x y z v0 v1 v2 v3 : Value} (hB : B ≤ o) (hBc : B ≤ c) (hoc : ¬ o = c) (hgc : ¬ g = c) (hgo : ¬ g = o)
    (h0 : CellF w4 ⟨o, 0, none⟩ v0) (h1 : CellF w4 ⟨o, 1, none⟩ v1) (h2 : CellF w4 ⟨o, 2, none⟩ v2) (h3 : CellF w4 ⟨g, 0, none⟩ v3) :
    ∀ W', W' = (((((w4.setCell ⟨c, 0, none⟩ x).setCell ⟨c, 1, none⟩ y).setCell ⟨c, 2, none⟩ z).setCell ⟨o, 0, none⟩ x).setCell ⟨o, 1, none⟩ y).setCell ⟨o, 2, none⟩ z →
    Below B w4 W' ∧ CellF W' ⟨o, 0, none⟩ x ∧ CellF W' ⟨o, 1, none⟩ y ∧ CellF W' ⟨o, 2, none⟩ z ∧ CellF W' ⟨g, 0, none⟩ v3 := by
  rintro _ rfl
  have n1 : ∀ i j, (⟨c, i, none⟩ : Addr) ≠ ⟨o, j, none⟩ := fun _ _ h => hoc (by injection h with h; exact h.symm)
  have n2 : ∀ i j, (⟨c, i, none⟩ : Addr) ≠ ⟨g, j, none⟩ := fun _ _ h => hgc (by injection h with h; exact h.symm)
  have n3 : ∀ i j, (⟨o, i, none⟩ : Addr) ≠ ⟨g, j, none⟩ := fun _ _ h => hgo (by injection h with h; exact h.symm)
  have n4 : ∀ i j : Nat, i ≠ j → (⟨o, i, none⟩ : Addr) ≠ ⟨o, j, none⟩ := fun _ _ hij h => hij (by injection h)
  have a0 := ((h0.set_other x (n1 0 0)).set_other y (n1 1 0)).set_other z (n1 2 0)
  have a1 := ((h1.set_other x (n1 0 1)).set_other y (n1 1 1)).set_other z (n1 2 1)
  have a2 := ((h2.set_other x (n1 0 2)).set_other y (n1 1 2)).set_other z (n1 2 2)
  have a3 := ((h3.set_other x (n2 0 0)).set_other y (n2 1 0)).set_other z (n2 2 0)
  refine ⟨?_, ?_, ?_, ?_, ?_⟩
  · exact (((((((Below.refl B w4).setCell hBc _).setCell hBc _).setCell hBc _).setCell hB _).setCell hB _).setCell hB _)
  · exact ((a0.set_same x).set_other y (n4 1 0 (by decide))).set_other z (n4 2 0 (by decide))
  · exact ((a1.set_other x (n4 0 1 (by decide))).set_same y).set_other z (n4 2 1 (by decide))
  · exact ((a2.set_other x (n4 0 2 (by decide))).set_other y (n4 1 2 (by decide))).set_same z
  · exact ((a3.set_other x (n3 0 0)).set_other y (n3 1 0)).set_other z (n3 2 0)

set_option maxHeartbeats 8000000 in
theorem Scale1_first (B o g : Nat) (m d lo hi x y : Int) (z p q : Bool) (w : World) (hB : B ≤ o) (hog : o < g) (ho0 : CellF w ⟨o, 0, none⟩ (.int .i64 lo)) (ho1 : CellF w ⟨o, 1, none⟩ (.int .i64 hi)) (ho2 : CellF w ⟨o, 2, none⟩ (.bool false)) (hg0 : CellF w ⟨g, 0, none⟩ (.bool p))
    (H : Hid (scOut ⟨lo, hi, false⟩ m d = ⟨x, y, z⟩)) (HP : Hid (scGood p m d = q)) :
    Calls Try.prog 100 #[.int .i64 m, .int .i64 d, .pointer (some ⟨g, 0, none⟩), .pointer (some ⟨o, 0, none⟩)] w (ScaleLeaves B w o g x y z q) := by
  obtain ⟨f, is, hf⟩ : ∃ f is, floorP m d 1000000000 = (f, is) := ⟨_, _, rfl⟩
  obtain ⟨c, has, hc⟩ : ∃ f is, ceilP m d 1000000000 = (f, is) := ⟨_, _, rfl⟩
  obtain ⟨⟨a, b, t⟩, hs⟩ : ∃ s, spOf f c = s := ⟨_, rfl⟩
  have HF := Lib.hid hf
  have HC := Lib.hid hc
  have HS := Lib.hid hs
  have ho := H.out
  unfold scOut at ho
  rw [hf, hc] at ho
  have hq := HP.out
  unfold scGood at hq
  rw [hf, hc] at hq
  simp only [hs] at ho hq
  clear hf hc hs H HP
  have hBw : B ≤ w.heap.size := Nat.le_trans hB (Nat.le_of_lt (ltc ho0.1))
  rw [if_neg (by decide)] at ho
  cases ho
  have HO := Lib.hid hq
  clear hq
  have hne : ¬ g = o := by omega
  cases p <;> cases is
  all_goals
    go_enter Try.func100, Try.ntmps100
    go_wp2_with fail
    refine (Floor_is _ _ _ _ _ HF _).mono ?_
    rintro e w1 ⟨rfl, hb1⟩
    have o1_0 := CellF.keep hb1 ho0
    have o1_1 := CellF.keep hb1 ho1
    have o1_2 := CellF.keep hb1 ho2
    have g1_0 := CellF.keep hb1 hg0
    go_wp2_with fail
    refine (Ceil_is _ _ _ _ _ HC _).mono ?_
    rintro e w2 ⟨rfl, hb2⟩
    have o2_0 := CellF.keep hb2 o1_0
    have o2_1 := CellF.keep hb2 o1_1
    have o2_2 := CellF.keep hb2 o1_2
    have g2_0 := CellF.keep hb2 g1_0
    go_wp2_with fail
    refine (Of_is _ _ _ _ _ HS _).mono ?_
    rintro e w3 ⟨rfl, hb3⟩
    have o3_0 := CellF.keep hb3 o2_0
    have o3_1 := CellF.keep hb3 o2_1
    have o3_2 := CellF.keep hb3 o2_2
    have g3_0 := CellF.keep hb3 g2_0
    have co0 := o3_0.1
    have co1 := o3_1.1
    have co2 := o3_2.1
    have cg0 := g3_0.1
    have fo0 := o3_0.2
    have fo1 := o3_1.2
    have fo2 := o3_2.2
    have fg0 := g3_0.2
    have zo := ltc co0
    have zg := ltc cg0
    go_wp2
    go_end0
    exact ⟨rfl, (by repeat (first | exact Below.refl _ _ | refine bBa ?_ hBw _ | (refine Below.setCell ?_ ?_ _; rotate_left; (dsimp only; omega)) | refine bB ?_ hBw (by assumption))), (by refine ⟨?_, ?_⟩ <;> go_simp), (by refine ⟨?_, ?_⟩ <;> go_simp), (by refine ⟨?_, ?_⟩ <;> go_simp), (by rw [← HO.out]; refine ⟨?_, ?_⟩ <;> go_simp)⟩

set_option maxHeartbeats 8000000 in
theorem Scale1_more (B o g : Nat) (m d lo hi x y : Int) (z p q : Bool) (w : World) (hB : B ≤ o) (hog : o < g) (ho0 : CellF w ⟨o, 0, none⟩ (.int .i64 lo)) (ho1 : CellF w ⟨o, 1, none⟩ (.int .i64 hi)) (ho2 : CellF w ⟨o, 2, none⟩ (.bool true)) (hg0 : CellF w ⟨g, 0, none⟩ (.bool p))
    (H : Hid (scOut ⟨lo, hi, true⟩ m d = ⟨x, y, z⟩)) (HP : Hid (scGood p m d = q)) :
    Calls Try.prog 100 #[.int .i64 m, .int .i64 d, .pointer (some ⟨g, 0, none⟩), .pointer (some ⟨o, 0, none⟩)] w (ScaleLeaves B w o g x y z q) := by
  obtain ⟨f, is, hf⟩ : ∃ f is, floorP m d 1000000000 = (f, is) := ⟨_, _, rfl⟩
  obtain ⟨c, has, hc⟩ : ∃ f is, ceilP m d 1000000000 = (f, is) := ⟨_, _, rfl⟩
  obtain ⟨⟨a, b, t⟩, hs⟩ : ∃ s, spOf f c = s := ⟨_, rfl⟩
  have HF := Lib.hid hf
  have HC := Lib.hid hc
  have HS := Lib.hid hs
  have ho := H.out
  unfold scOut at ho
  rw [hf, hc] at ho
  have hq := HP.out
  unfold scGood at hq
  rw [hf, hc] at hq
  simp only [hs] at ho hq
  clear hf hc hs H HP
  have hBw : B ≤ w.heap.size := Nat.le_trans hB (Nat.le_of_lt (ltc ho0.1))
  rw [if_pos trivial] at ho
  have HH := Lib.hid ho
  have HO := Lib.hid hq
  clear hq ho
  have hne : ¬ g = o := by omega
  cases p <;> cases is
  all_goals
    go_enter Try.func100, Try.ntmps100
    go_wp2_with fail
    refine (Floor_is _ _ _ _ _ HF _).mono ?_
    rintro e w1 ⟨rfl, hb1⟩
    have o1_0 := CellF.keep hb1 ho0
    have o1_1 := CellF.keep hb1 ho1
    have o1_2 := CellF.keep hb1 ho2
    have g1_0 := CellF.keep hb1 hg0
    go_wp2_with fail
    refine (Ceil_is _ _ _ _ _ HC _).mono ?_
    rintro e w2 ⟨rfl, hb2⟩
    have o2_0 := CellF.keep hb2 o1_0
    have o2_1 := CellF.keep hb2 o1_1
    have o2_2 := CellF.keep hb2 o1_2
    have g2_0 := CellF.keep hb2 g1_0
    go_wp2_with fail
    refine (Of_is _ _ _ _ _ HS _).mono ?_
    rintro e w3 ⟨rfl, hb3⟩
    have o3_0 := CellF.keep hb3 o2_0
    have o3_1 := CellF.keep hb3 o2_1
    have o3_2 := CellF.keep hb3 o2_2
    have g3_0 := CellF.keep hb3 g2_0
    have co0 := o3_0.1
    have co1 := o3_1.1
    have co2 := o3_2.1
    have cg0 := g3_0.1
    have fo0 := o3_0.2
    have fo1 := o3_1.2
    have fo2 := o3_2.2
    have fg0 := g3_0.2
    have zo := ltc co0
    have zg := ltc cg0
    go_wp2_with fail
    refine (Hull_is _ _ _ _ _ _ _ _ _ HH _).mono ?_
    rintro e w4 ⟨rfl, hb4⟩
    have o4_0 := CellF.keep hb4 (CellF.past _ (CellF.set_other _ (by simp) o3_0))
    have o4_1 := CellF.keep hb4 (CellF.past _ (CellF.set_other _ (by simp) o3_1))
    have o4_2 := CellF.keep hb4 (CellF.past _ (CellF.set_other _ (by simp) o3_2))
    have g4_0 := CellF.keep hb4 (CellF.past _ (CellF.set_same _ g3_0))
    have x4_0 : CellF w4 ⟨w3.heap.size, 0, none⟩ (.int .i64 a) := (by refine CellF.keep hb4 ?_; refine ⟨?_, ?_⟩ <;> go_simp)
    have x4_1 : CellF w4 ⟨w3.heap.size, 1, none⟩ (.int .i64 b) := (by refine CellF.keep hb4 ?_; refine ⟨?_, ?_⟩ <;> go_simp)
    have x4_2 : CellF w4 ⟨w3.heap.size, 2, none⟩ (.bool t) := (by refine CellF.keep hb4 ?_; refine ⟨?_, ?_⟩ <;> go_simp)
    have hox : ¬ o = w3.heap.size := by omega
    have hgx : ¬ g = w3.heap.size := by omega
    have hB3 : B ≤ w3.heap.size := by omega
    clear co0 co1 co2 cg0 fo0 fo1 fo2 fg0
    have co0 := o4_0.1
    have co1 := o4_1.1
    have co2 := o4_2.1
    have cg0 := g4_0.1
    have fo0 := o4_0.2
    have fo1 := o4_1.2
    have fo2 := o4_2.2
    have fg0 := g4_0.2
    have cx0 := x4_0.1
    have cx1 := x4_1.1
    have cx2 := x4_2.1
    have fx0 := x4_0.2
    have fx1 := x4_1.2
    have fx2 := x4_2.2
    have zo4 := ltc co0
    have zg4 := ltc cg0
    have zx4 := ltc cx0
    have hbB : Below B w w4 := by
      repeat (first | with_reducible exact Below.refl _ _ | with_reducible refine bBa ?_ hBw _ | (with_reducible refine Below.setCell ?_ ?_ _; rotate_left; (dsimp only; omega)) | with_reducible refine bB ?_ hBw (by assumption))
    have hsix := six_sets (x := .int .i64 x) (y := .int .i64 y) (z := .bool z) hB hB3 hox hgx hne o4_0 o4_1 o4_2 g4_0 _ rfl
    clear o1_0 o1_1 o1_2 g1_0 o2_0 o2_1 o2_2 g2_0 o3_0 o3_1 o3_2 g3_0 hb1 hb2 hb3 hb4 o4_0 o4_1 o4_2 g4_0 x4_0 x4_1 x4_2
    go_wp2
    go_end0
    exact ⟨rfl, hbB.trans hsix.1, hsix.2.1, hsix.2.2.1, hsix.2.2.2.1, by rw [← HO.out]; exact hsix.2.2.2.2⟩

theorem Scale1_is (B o g : Nat) (m d lo hi x y : Int) (k z p q : Bool) (w : World) (hB : B ≤ o) (hog : o < g) (ho0 : CellF w ⟨o, 0, none⟩ (.int .i64 lo)) (ho1 : CellF w ⟨o, 1, none⟩ (.int .i64 hi)) (ho2 : CellF w ⟨o, 2, none⟩ (.bool k)) (hg0 : CellF w ⟨g, 0, none⟩ (.bool p))
    (H : Hid (scOut ⟨lo, hi, k⟩ m d = ⟨x, y, z⟩)) (HP : Hid (scGood p m d = q)) :
    Calls Try.prog 100 #[.int .i64 m, .int .i64 d, .pointer (some ⟨g, 0, none⟩), .pointer (some ⟨o, 0, none⟩)] w (ScaleLeaves B w o g x y z q) := by
  cases k with
  | false => exact Scale1_first B o g m d lo hi x y z p q w hB hog ho0 ho1 ho2 hg0 H HP
  | true => exact Scale1_more B o g m d lo hi x y z p q w hB hog ho0 ho1 ho2 hg0 H HP
end Go.Proofs.Ytnphbdhcoiaklaa
namespace Go.Proofs.Ytnphbdhcoiaklaa
open Go.RowKit

theorem CellF.keepB {B : Nat} {a b : World} (hb : Below B a b) {p : Addr} (hp : p.block < B) {v : Value} (h : CellF a p v) : CellF b p v := ⟨(hb.cell hp).trans h.1, (hb.frozen hp).trans h.2⟩
theorem bBB {w a b : World} {B : Nat} (h : Below w.heap.size w a) (k : Below B a b) (hB : w.heap.size ≤ B) : Below w.heap.size w b := h.trans (k.mono hB)

theorem scale_no {s : Sp} {ppb : Int} (h : spK s = false ∨ ppb < 0 ∨ 1000000000 < ppb) : spScale s ppb = spNo := by unfold spScale; rw [if_pos h]

set_option maxHeartbeats 8000000 in
theorem Scale_yes (lo hi ppb x y : Int) (k z : Bool) (hk : Hid (spK ⟨lo, hi, k⟩ = true)) (h1 : 0 ≤ ppb) (h2 : ppb ≤ 1000000000) (H : Hid (spScale ⟨lo, hi, k⟩ ppb = ⟨x, y, z⟩)) (w : World) :
    Calls Try.prog 62 #[.agg #[.int .i64 lo, .int .i64 hi, .bool k], .int .i64 ppb] w fun e w' => e = .returned (.agg #[.int .i64 x, .int .i64 y, .bool z]) ∧ Below w.heap.size w w' := by
  have hp := H.out
  unfold spScale at hp
  rw [if_neg (by rw [hk.out]; simp; omega)] at hp
  obtain ⟨⟨a1, b1, t1⟩, e1⟩ : ∃ s, scOut spNo lo (1000000000 - ppb) = s := ⟨_, rfl⟩
  obtain ⟨⟨a2, b2, t2⟩, e2⟩ : ∃ s, scOut ⟨a1, b1, t1⟩ lo (1000000000 + ppb) = s := ⟨_, rfl⟩
  obtain ⟨⟨a3, b3, t3⟩, e3⟩ : ∃ s, scOut ⟨a2, b2, t2⟩ hi (1000000000 - ppb) = s := ⟨_, rfl⟩
  obtain ⟨⟨a4, b4, t4⟩, e4⟩ : ∃ s, scOut ⟨a3, b3, t3⟩ hi (1000000000 + ppb) = s := ⟨_, rfl⟩
  obtain ⟨p1, f1⟩ : ∃ s, scGood true lo (1000000000 - ppb) = s := ⟨_, rfl⟩
  obtain ⟨p2, f2⟩ : ∃ s, scGood p1 lo (1000000000 + ppb) = s := ⟨_, rfl⟩
  obtain ⟨p3, f3⟩ : ∃ s, scGood p2 hi (1000000000 - ppb) = s := ⟨_, rfl⟩
  obtain ⟨p4, f4⟩ : ∃ s, scGood p3 hi (1000000000 + ppb) = s := ⟨_, rfl⟩
  simp only [e1, e2, e3, e4, f1, f2, f3, f4] at hp
  have E1 := Lib.hid e1
  have E2 := Lib.hid e2
  have E3 := Lib.hid e3
  have E4 := Lib.hid e4
  have F1 := Lib.hid f1
  have F2 := Lib.hid f2
  have F3 := Lib.hid f3
  have F4 := Lib.hid f4
  have HP := Lib.hid hp
  clear hp H e1 e2 e3 e4 f1 f2 f3 f4
  have hmf : ∀ (fn : Fn) (first cap : Array Value) (w : World), (Instr.makeFunc fn first cap).run Try.prog w = .ok (.func fn first cap) w := fun _ _ _ _ => rfl
  have i0 : ∀ w, (Instr.index 73 (.agg #[.int .i64 lo, .int .i64 hi]) (.int .i64 0)).run Try.prog w = .ok (.int .i64 lo) w := fun _ => by kernel_rfl
  have i1 : ∀ w, (Instr.index 73 (.agg #[.int .i64 lo, .int .i64 hi]) (.int .i64 1)).run Try.prog w = .ok (.int .i64 hi) w := fun _ => by kernel_rfl
  go_enter Try.func62, Try.ntmps62
  go_wp2_with fail
  refine (known1 _ _ _ _ hk _ _ (by go_simp) (by go_simp) (by go_simp)).mono ?_
  rintro e w1 ⟨rfl, hb1⟩
  have q1_1_0 : CellF w1 ⟨w.heap.size, 0, none⟩ (.int .i64 lo) := (by refine CellF.keep hb1 ?_; refine ⟨?_, ?_⟩ <;> go_simp)
  have c1_1_0 := q1_1_0.1
  have q1_1_1 : CellF w1 ⟨w.heap.size, 1, none⟩ (.int .i64 hi) := (by refine CellF.keep hb1 ?_; refine ⟨?_, ?_⟩ <;> go_simp)
  have c1_1_1 := q1_1_1.1
  have q1_1_2 : CellF w1 ⟨w.heap.size, 2, none⟩ (.bool k) := (by refine CellF.keep hb1 ?_; refine ⟨?_, ?_⟩ <;> go_simp)
  have c1_1_2 := q1_1_2.1
  have z1_1 : w.heap.size < w1.heap.size := ltc c1_1_0
  have q1_2_0 : CellF w1 ⟨w.heap.size + 1, 0, none⟩ (.int .i64 0) := (by refine CellF.keep hb1 ?_; refine ⟨?_, ?_⟩ <;> go_simp)
  have c1_2_0 := q1_2_0.1
  have g1_2_0 := q1_2_0.2
  have q1_2_1 : CellF w1 ⟨w.heap.size + 1, 1, none⟩ (.int .i64 0) := (by refine CellF.keep hb1 ?_; refine ⟨?_, ?_⟩ <;> go_simp)
  have c1_2_1 := q1_2_1.1
  have g1_2_1 := q1_2_1.2
  have q1_2_2 : CellF w1 ⟨w.heap.size + 1, 2, none⟩ (.bool false) := (by refine CellF.keep hb1 ?_; refine ⟨?_, ?_⟩ <;> go_simp)
  have c1_2_2 := q1_2_2.1
  have g1_2_2 := q1_2_2.2
  have z1_2 : w.heap.size + 1 < w1.heap.size := ltc c1_2_0
  have hb0' : Below w.heap.size w w1 := by refine bstep ?_ hb1; repeat (first | exact brefl _ | refine balloc ?_ _)
  have hs1 := hb0'.size
  go_wp2_with fail
  refine wp_loop_rounds 3 ?_
  rw [rounds_succ]
  go_wp2_with fail
  refine (Scale1_is w1.heap.size w1.heap.size (w1.heap.size + 1) _ _ _ _ _ _ _ _ _ _ _ (Nat.le_refl _) (Nat.lt_succ_self _) ⟨by go_simp, by go_simp⟩ ⟨by go_simp, by go_simp⟩ ⟨by go_simp, by go_simp⟩ ⟨by go_simp, by go_simp⟩ E1 F1).mono ?_
  rintro e w2 ⟨rfl, hb2, o20, o21, o22, o23⟩
  have r2_0 := CellF.keepB hb2 z1_2 (CellF.past _ (CellF.past _ (q1_2_0)))
  have r2_1 := CellF.keepB hb2 z1_2 (CellF.past _ (CellF.past _ (q1_2_1)))
  have r2_2 := CellF.keepB hb2 z1_2 (CellF.past _ (CellF.past _ (q1_2_2)))
  go_wp2_with fail
  refine (Scale1_is w1.heap.size w1.heap.size (w1.heap.size + 1) _ _ _ _ _ _ _ _ _ _ _ (Nat.le_refl _) (Nat.lt_succ_self _) o20 o21 o22 o23 E2 F2).mono ?_
  rintro e w3 ⟨rfl, hb3, o30, o31, o32, o33⟩
  have r3_0 := CellF.keepB hb3 z1_2 (r2_0)
  have r3_1 := CellF.keepB hb3 z1_2 (r2_1)
  have r3_2 := CellF.keepB hb3 z1_2 (r2_2)
  go_wp2_with fail
  rw [rounds_succ]
  go_wp2_with fail
  refine (Scale1_is w1.heap.size w1.heap.size (w1.heap.size + 1) _ _ _ _ _ _ _ _ _ _ _ (Nat.le_refl _) (Nat.lt_succ_self _) o30 o31 o32 o33 E3 F3).mono ?_
  rintro e w4 ⟨rfl, hb4, o40, o41, o42, o43⟩
  have r4_0 := CellF.keepB hb4 z1_2 (r3_0)
  have r4_1 := CellF.keepB hb4 z1_2 (r3_1)
  have r4_2 := CellF.keepB hb4 z1_2 (r3_2)
  go_wp2_with fail
  refine (Scale1_is w1.heap.size w1.heap.size (w1.heap.size + 1) _ _ _ _ _ _ _ _ _ _ _ (Nat.le_refl _) (Nat.lt_succ_self _) o40 o41 o42 o43 E4 F4).mono ?_
  rintro e w5 ⟨rfl, hb5, o50, o51, o52, o53⟩
  have r5_0 := CellF.keepB hb5 z1_2 (r4_0)
  have r5_1 := CellF.keepB hb5 z1_2 (r4_1)
  have r5_2 := CellF.keepB hb5 z1_2 (r4_2)
  have b5 : Below w.heap.size w w5 := by
    have k1 := balloc (balloc hb0' (.cells #[.int .i64 0, .int .i64 0, .bool false] 50)) (.cells #[.bool true] 4)
    exact bBB (bBB (bBB (bBB k1 hb2 hs1) hb3 hs1) hb4 hs1) hb5 hs1
  have co0 := o50.1
  have co1 := o51.1
  have co2 := o52.1
  have cg0 := o53.1
  have cr0 := r5_0.1
  have cr1 := r5_1.1
  have cr2 := r5_2.1
  have fr0 := r5_0.2
  have fr1 := r5_1.2
  have fr2 := r5_2.2
  have zo := ltc co0
  have zr := ltc cr0
  clear hb2 hb3 hb4 hb5 o20 o21 o22 o23 o30 o31 o32 o33 o40 o41 o42 o43 o50 o51 o52 o53
  cases p4 with
  | true =>
    have h := HP.out
    rw [if_pos rfl] at h
    cases h
    go_wp2_with fail
    rw [rounds_succ]
    go_wp2
    exact bodyPost_ret (v := .agg #[.int .i64 x, .int .i64 y, .bool z]) (by simp [results, Try.results62, go_sem, cr0, cr1, cr2]) rfl ⟨rfl, by repeat (first | exact b5 | refine bset ?_ (by dsimp only; omega) _)⟩
  | false =>
    have h := HP.out
    rw [if_neg (by decide)] at h
    cases h
    go_wp2_with fail
    rw [rounds_succ]
    go_wp2
    exact bodyPost_ret (v := .agg #[.int .i64 0, .int .i64 0, .bool false]) (by simp [results, Try.results62, go_sem, cr0, cr1, cr2]) rfl ⟨rfl, by repeat (first | exact b5 | refine bset ?_ (by dsimp only; omega) _)⟩

theorem Scale_is (lo hi ppb x y : Int) (k z : Bool) (H : Hid (spScale ⟨lo, hi, k⟩ ppb = ⟨x, y, z⟩)) (w : World) :
    Calls Try.prog 62 #[.agg #[.int .i64 lo, .int .i64 hi, .bool k], .int .i64 ppb] w fun e w' => e = .returned (.agg #[.int .i64 x, .int .i64 y, .bool z]) ∧ Below w.heap.size w w' := by
  cases hk : spK ⟨lo, hi, k⟩ with
  | false =>
    have h := (scale_no (.inl hk)).symm.trans H.out
    cases h
    have HK := Lib.hid hk
    clear H hk
    go_enter Try.func62, Try.ntmps62
    go_wp2_with fail
    refine (known1 _ _ _ _ HK _ _ (by go_simp) (by go_simp) (by go_simp)).mono ?_
    rintro e w1 ⟨rfl, hb1⟩
    have q1_1_0 : CellF w1 ⟨w.heap.size + 1, 0, none⟩ (.int .i64 0) := (by refine CellF.keep hb1 ?_; refine ⟨?_, ?_⟩ <;> go_simp)
    have c1_1_0 := q1_1_0.1
    have g1_1_0 := q1_1_0.2
    have q1_1_1 : CellF w1 ⟨w.heap.size + 1, 1, none⟩ (.int .i64 0) := (by refine CellF.keep hb1 ?_; refine ⟨?_, ?_⟩ <;> go_simp)
    have c1_1_1 := q1_1_1.1
    have g1_1_1 := q1_1_1.2
    have q1_1_2 : CellF w1 ⟨w.heap.size + 1, 2, none⟩ (.bool false) := (by refine CellF.keep hb1 ?_; refine ⟨?_, ?_⟩ <;> go_simp)
    have c1_1_2 := q1_1_2.1
    have g1_1_2 := q1_1_2.2
    have z1_1 : w.heap.size + 1 < w1.heap.size := ltc c1_1_0
    go_wp2
    exact bodyPost_ret (v := .agg #[.int .i64 0, .int .i64 0, .bool false]) (by simp [results, Try.results62, go_sem, c1_1_0, c1_1_1, c1_1_2]) rfl ⟨rfl, (by repeat (first | exact brefl _ | refine balloc ?_ _ | refine bdrewN ?_ _ | refine bset ?_ (by dsimp only; omega) _ | refine bstep ?_ (by assumption)))⟩
  | true =>
    have HK := Lib.hid hk
    by_cases h1 : ppb < 0
    · have h := (scale_no (.inr (.inl h1))).symm.trans H.out
      cases h
      clear H hk
      go_enter Try.func62, Try.ntmps62
      go_wp2_with fail
      refine (known1 _ _ _ _ HK _ _ (by go_simp) (by go_simp) (by go_simp)).mono ?_
      rintro e w1 ⟨rfl, hb1⟩
      have q1_1_0 : CellF w1 ⟨w.heap.size + 1, 0, none⟩ (.int .i64 0) := (by refine CellF.keep hb1 ?_; refine ⟨?_, ?_⟩ <;> go_simp)
      have c1_1_0 := q1_1_0.1
      have g1_1_0 := q1_1_0.2
      have q1_1_1 : CellF w1 ⟨w.heap.size + 1, 1, none⟩ (.int .i64 0) := (by refine CellF.keep hb1 ?_; refine ⟨?_, ?_⟩ <;> go_simp)
      have c1_1_1 := q1_1_1.1
      have g1_1_1 := q1_1_1.2
      have q1_1_2 : CellF w1 ⟨w.heap.size + 1, 2, none⟩ (.bool false) := (by refine CellF.keep hb1 ?_; refine ⟨?_, ?_⟩ <;> go_simp)
      have c1_1_2 := q1_1_2.1
      have g1_1_2 := q1_1_2.2
      have z1_1 : w.heap.size + 1 < w1.heap.size := ltc c1_1_0
      go_wp2
      exact bodyPost_ret (v := .agg #[.int .i64 0, .int .i64 0, .bool false]) (by simp [results, Try.results62, go_sem, c1_1_0, c1_1_1, c1_1_2]) rfl ⟨rfl, (by repeat (first | exact brefl _ | refine balloc ?_ _ | refine bdrewN ?_ _ | refine bset ?_ (by dsimp only; omega) _ | refine bstep ?_ (by assumption)))⟩
    · by_cases h2 : 1000000000 < ppb
      · have h := (scale_no (.inr (.inr h2))).symm.trans H.out
        cases h
        clear H hk
        have d1 : decide (ppb < 0) = false := decide_eq_false h1
        go_enter Try.func62, Try.ntmps62
        go_wp2_with fail
        refine (known1 _ _ _ _ HK _ _ (by go_simp) (by go_simp) (by go_simp)).mono ?_
        rintro e w1 ⟨rfl, hb1⟩
        have q1_1_0 : CellF w1 ⟨w.heap.size + 1, 0, none⟩ (.int .i64 0) := (by refine CellF.keep hb1 ?_; refine ⟨?_, ?_⟩ <;> go_simp)
        have c1_1_0 := q1_1_0.1
        have g1_1_0 := q1_1_0.2
        have q1_1_1 : CellF w1 ⟨w.heap.size + 1, 1, none⟩ (.int .i64 0) := (by refine CellF.keep hb1 ?_; refine ⟨?_, ?_⟩ <;> go_simp)
        have c1_1_1 := q1_1_1.1
        have g1_1_1 := q1_1_1.2
        have q1_1_2 : CellF w1 ⟨w.heap.size + 1, 2, none⟩ (.bool false) := (by refine CellF.keep hb1 ?_; refine ⟨?_, ?_⟩ <;> go_simp)
        have c1_1_2 := q1_1_2.1
        have g1_1_2 := q1_1_2.2
        have z1_1 : w.heap.size + 1 < w1.heap.size := ltc c1_1_0
        go_wp2
        exact bodyPost_ret (v := .agg #[.int .i64 0, .int .i64 0, .bool false]) (by simp [results, Try.results62, go_sem, c1_1_0, c1_1_1, c1_1_2]) rfl ⟨rfl, (by repeat (first | exact brefl _ | refine balloc ?_ _ | refine bdrewN ?_ _ | refine bset ?_ (by dsimp only; omega) _ | refine bstep ?_ (by assumption)))⟩
      · exact Scale_yes lo hi ppb x y k z HK (by omega) (by omega) H w
end Go.Proofs.Ytnphbdhcoiaklaa
namespace Go.Proofs.Ytnphbdhcoiaklaa
open Go.RowKit

deriving instance DecidableEq for Sp

set_option maxHeartbeats 1000000 in
theorem alive_is (w : World) : Calls Try.prog 49 #[] w fun e w' => e = .returned (.bool true) ∧ Below w.heap.size w w' := by
  have H1 : Hid (spOf 1 5 = ⟨1, 5, true⟩) := by show spOf 1 5 = ⟨1, 5, true⟩; rfl
  have H2 : Hid (spOf 4 9 = ⟨4, 9, true⟩) := by show spOf 4 9 = ⟨4, 9, true⟩; rfl
  have H3 : Hid (spMeet ⟨1, 5, true⟩ ⟨4, 9, true⟩ = ⟨4, 5, true⟩) := by show spMeet ⟨1, 5, true⟩ ⟨4, 9, true⟩ = ⟨4, 5, true⟩; rfl
  have H4 : Hid (spOf 0 0 = ⟨0, 0, true⟩) := by show spOf 0 0 = ⟨0, 0, true⟩; rfl
  have H5 : Hid (spDrift ⟨0, 0, true⟩ 1000000000 1000 = ⟨-1000, 1000, true⟩) := by show spDrift ⟨0, 0, true⟩ 1000000000 1000 = ⟨-1000, 1000, true⟩; decide +kernel
  have H6 : Hid (spOf (-1000) 1000 = ⟨-1000, 1000, true⟩) := by show spOf (-1000) 1000 = ⟨-1000, 1000, true⟩; rfl
  have H7 : Hid (spOf 1 2 = ⟨1, 2, true⟩) := by show spOf 1 2 = ⟨1, 2, true⟩; rfl
  have H8 : Hid (spHas ⟨1, 2, true⟩ 2 = true) := by show spHas ⟨1, 2, true⟩ 2 = true; rfl
  have H9 : Hid (spHas ⟨1, 2, true⟩ 3 = false) := by show spHas ⟨1, 2, true⟩ 3 = false; rfl
  have H10 : Hid (spRight ⟨0, 0, false⟩ = true) := by show spRight ⟨0, 0, false⟩ = true; rfl
  have H11 : Hid (spOf (-10) 10 = ⟨-10, 10, true⟩) := by show spOf (-10) 10 = ⟨-10, 10, true⟩; rfl
  have H12 : Hid (spScale ⟨-10, 10, true⟩ 100000000 = ⟨-11, 11, true⟩) := by show spScale ⟨-10, 10, true⟩ 100000000 = ⟨-11, 11, true⟩; decide +kernel
  have H13 : Hid (spOf (-11) 11 = ⟨-11, 11, true⟩) := by show spOf (-11) 11 = ⟨-11, 11, true⟩; rfl
  go_enter Try.func49, Try.ntmps49
  go_wp2_with fail
  refine (Of_is _ _ _ _ _ H1 _).mono ?_
  rintro e w1 ⟨rfl, hb1⟩
  go_wp2_with fail
  refine (Of_is _ _ _ _ _ H2 _).mono ?_
  rintro e w2 ⟨rfl, hb2⟩
  go_wp2_with fail
  refine (Meet_is _ _ _ _ _ _ _ _ _ H3 _).mono ?_
  rintro e w3 ⟨rfl, hb3⟩
  go_wp2_with fail
  refine (Of_is _ _ _ _ _ H4 _).mono ?_
  rintro e w4 ⟨rfl, hb4⟩
  go_wp2_with fail
  refine (Drift_is _ _ _ _ _ _ _ _ H5 _).mono ?_
  rintro e w5 ⟨rfl, hb5⟩
  go_wp2_with fail
  refine (Of_is _ _ _ _ _ H6 _).mono ?_
  rintro e w6 ⟨rfl, hb6⟩
  go_wp2_with fail
  refine (Of_is _ _ _ _ _ H7 _).mono ?_
  rintro e w7 ⟨rfl, hb7⟩
  go_wp2_with fail
  refine (Has_is _ _ _ _ _ H8 _).mono ?_
  rintro e w8 ⟨rfl, hb8⟩
  go_wp2_with fail
  refine (Of_is _ _ _ _ _ H7 _).mono ?_
  rintro e w9 ⟨rfl, hb9⟩
  go_wp2_with fail
  refine (Has_is _ _ _ _ _ H9 _).mono ?_
  rintro e w10 ⟨rfl, hb10⟩
  go_wp2_with fail
  refine (Unknown_is _).mono ?_
  rintro e w11 ⟨rfl, hb11⟩
  go_wp2_with fail
  refine (Right_is _ _ _ _ H10 _).mono ?_
  rintro e w12 ⟨rfl, hb12⟩
  go_wp2_with fail
  refine (Of_is _ _ _ _ _ H11 _).mono ?_
  rintro e w13 ⟨rfl, hb13⟩
  go_wp2_with fail
  refine (Scale_is _ _ _ _ _ _ _ H12 _).mono ?_
  rintro e w14 ⟨rfl, hb14⟩
  go_wp2_with fail
  refine (Of_is _ _ _ _ _ H13 _).mono ?_
  rintro e w15 ⟨rfl, hb15⟩
  go_wp2
  go_ret
  exact ⟨rfl, (by repeat (first | exact brefl _ | refine balloc ?_ _ | refine bdrewN ?_ _ | refine bset ?_ (by dsimp only; omega) _ | refine bstep ?_ (by assumption)))⟩

/-- The law's own: a span of the document's as one of the program's. -/
theorem own_is (lo hi : Int) (k : Bool) (w : World) : Calls Try.prog 37 #[.agg #[.int .i64 lo, .int .i64 hi, .bool k]] w fun e w' => e = .returned (.agg #[.int .i64 lo, .int .i64 hi, .bool k]) ∧ Below w.heap.size w w' := by
  go_enter Try.func37, Try.ntmps37
  go_wp2
  exact bodyPost_ret (v := .agg #[.int .i64 lo, .int .i64 hi, .bool k]) (by simp [results, Try.results37, go_sem]) rfl ⟨rfl, (by repeat (first | exact brefl _ | refine balloc ?_ _ | refine bdrewN ?_ _ | refine bset ?_ (by dsimp only; omega) _ | refine bstep ?_ (by assumption)))⟩

theorem same_yes (lo hi : Int) (k : Bool) (w : World) : Calls Try.prog 38 #[.agg #[.int .i64 lo, .int .i64 hi, .bool k], .agg #[.int .i64 lo, .int .i64 hi, .bool k]] w fun e w' => e = .returned (.bool true) ∧ Below w.heap.size w w' := by
  go_enter Try.func38, Try.ntmps38
  go_wp2
  go_ret
  exact ⟨rfl, (by repeat (first | exact brefl _ | refine balloc ?_ _ | refine bdrewN ?_ _ | refine bset ?_ (by dsimp only; omega) _ | refine bstep ?_ (by assumption)))⟩
end Go.Proofs.Ytnphbdhcoiaklaa
