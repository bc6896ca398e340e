/-
  The walk of package span's Scale, and of its closure.
-/
import Derived.Test.YtldgcigdoncgdaaSg
import Derived.Test.YtldgcigdoncgdaaMq
namespace Go.Proofs.Ytldgcigdoncgdaa
open Go.RowKit

/-- The closure: what it was told, and what it met, lie in two blocks of the caller's. -/
def ScaleLeaves (B : Nat) (w : World) (o g : Nat) (x y : Int) (z q : Bool) (e : Ending) (w' : World) : Prop :=
  e = .returned (.tuple #[]) ∧ Below B w w' ∧ CellF w' ⟨o, 0, none⟩ (.int .i64 x) ∧ CellF w' ⟨o, 1, none⟩ (.int .i64 y) ∧ CellF w' ⟨o, 2, none⟩ (.bool z) ∧ CellF w' ⟨g, 0, none⟩ (.bool q)

theorem CellF.set_same {a : World} {p : Addr} {u : Value} (v : Value) (h : CellF a p u) : CellF (a.setCell p v) p v :=
  ⟨World.cell?_setCell_same _ _ _ h.1, by rw [World.frozen?_setCell]; exact h.2⟩
theorem CellF.set_other {a : World} {p q : Addr} {u : Value} (v : Value) (hne : p ≠ q) (h : CellF a q u) : CellF (a.setCell p v) q u :=
  ⟨(World.cell?_setCell_other _ _ _ _ hne).trans h.1, by rw [World.frozen?_setCell]; exact h.2⟩
theorem bB {B : Nat} {w a b : World} (h : Below B w a) (hB : B ≤ w.heap.size) (k : Below a.heap.size a b) : Below B w b := h.trans (k.mono (Nat.le_trans hB h.size))
theorem bBa {B : Nat} {w a : World} (h : Below B w a) (hB : B ≤ w.heap.size) (o : Obj) : Below B w (a.alloc o) := h.alloc (Nat.le_trans hB h.size) o

/-- Six stores: the three cells of the call's own block, and the three of the caller's. -/
theorem six_sets {B : Nat} {w4 : World} {o g c : Nat} {x y z v0 v1 v2 v3 : Value} (hB : B ≤ o) (hBc : B ≤ c) (hoc : ¬ o = c) (hgc : ¬ g = c) (hgo : ¬ g = o)
    (h0 : CellF w4 ⟨o, 0, none⟩ v0) (h1 : CellF w4 ⟨o, 1, none⟩ v1) (h2 : CellF w4 ⟨o, 2, none⟩ v2) (h3 : CellF w4 ⟨g, 0, none⟩ v3) :
    ∀ W', W' = (((((w4.setCell ⟨c, 0, none⟩ x).setCell ⟨c, 1, none⟩ y).setCell ⟨c, 2, none⟩ z).setCell ⟨o, 0, none⟩ x).setCell ⟨o, 1, none⟩ y).setCell ⟨o, 2, none⟩ z →
    Below B w4 W' ∧ CellF W' ⟨o, 0, none⟩ x ∧ CellF W' ⟨o, 1, none⟩ y ∧ CellF W' ⟨o, 2, none⟩ z ∧ CellF W' ⟨g, 0, none⟩ v3 := by
  rintro _ rfl
  have n1 : ∀ i j, (⟨c, i, none⟩ : Addr) ≠ ⟨o, j, none⟩ := fun _ _ h => hoc (by injection h with h; exact h.symm)
  have n2 : ∀ i j, (⟨c, i, none⟩ : Addr) ≠ ⟨g, j, none⟩ := fun _ _ h => hgc (by injection h with h; exact h.symm)
  have n3 : ∀ i j, (⟨o, i, none⟩ : Addr) ≠ ⟨g, j, none⟩ := fun _ _ h => hgo (by injection h with h; exact h.symm)
  have n4 : ∀ i j : Nat, i ≠ j → (⟨o, i, none⟩ : Addr) ≠ ⟨o, j, none⟩ := fun _ _ hij h => hij (by injection h)
  have a0 := ((h0.set_other x (n1 0 0)).set_other y (n1 1 0)).set_other z (n1 2 0)
  have a1 := ((h1.set_other x (n1 0 1)).set_other y (n1 1 1)).set_other z (n1 2 1)
  have a2 := ((h2.set_other x (n1 0 2)).set_other y (n1 1 2)).set_other z (n1 2 2)
  have a3 := ((h3.set_other x (n2 0 0)).set_other y (n2 1 0)).set_other z (n2 2 0)
  refine ⟨?_, ?_, ?_, ?_, ?_⟩
  · exact (((((((Below.refl B w4).setCell hBc _).setCell hBc _).setCell hBc _).setCell hB _).setCell hB _).setCell hB _)
  · exact ((a0.set_same x).set_other y (n4 1 0 (by decide))).set_other z (n4 2 0 (by decide))
  · exact ((a1.set_other x (n4 0 1 (by decide))).set_same y).set_other z (n4 2 1 (by decide))
  · exact ((a2.set_other x (n4 0 2 (by decide))).set_other y (n4 1 2 (by decide))).set_same z
  · exact ((a3.set_other x (n3 0 0)).set_other y (n3 1 0)).set_other z (n3 2 0)

set_option maxHeartbeats 8000000 in
theorem Scale1_first (B o g : Nat) (m d lo hi x y : Int) (z p q : Bool) (w : World) (hB : B ≤ o) (hog : o < g) (ho0 : CellF w ⟨o, 0, none⟩ (.int .i64 lo)) (ho1 : CellF w ⟨o, 1, none⟩ (.int .i64 hi)) (ho2 : CellF w ⟨o, 2, none⟩ (.bool false)) (hg0 : CellF w ⟨g, 0, none⟩ (.bool p))
    (H : Hid (scOut ⟨lo, hi, false⟩ m d = ⟨x, y, z⟩)) (HP : Hid (scGood p m d = q)) :
    Calls Try.prog 52 #[.int .i64 m, .int .i64 d, .pointer (some ⟨g, 0, none⟩), .pointer (some ⟨o, 0, none⟩)] w (ScaleLeaves B w o g x y z q) := by
  obtain ⟨f, is, hf⟩ : ∃ f is, floorP m d 1000000000 = (f, is) := ⟨_, _, rfl⟩
  obtain ⟨c, has, hc⟩ : ∃ f is, ceilP m d 1000000000 = (f, is) := ⟨_, _, rfl⟩
  obtain ⟨⟨a, b, t⟩, hs⟩ : ∃ s, spOf f c = s := ⟨_, rfl⟩
  have HF := Lib.hid hf
  have HC := Lib.hid hc
  have HS := Lib.hid hs
  have ho := H.out
  unfold scOut at ho
  rw [hf, hc] at ho
  have hq := HP.out
  unfold scGood at hq
  rw [hf, hc] at hq
  simp only [hs] at ho hq
  clear hf hc hs H HP
  have hBw : B ≤ w.heap.size := Nat.le_trans hB (Nat.le_of_lt (ltc ho0.1))
  rw [if_neg (by decide)] at ho
  cases ho
  have HO := Lib.hid hq
  clear hq
  have hne : ¬ g = o := by omega
  cases p <;> cases is
  all_goals
    go_enter Try.func52, Try.ntmps52
    go_wp2_with fail
    refine (Floor_is _ _ _ _ _ HF _).mono ?_
    rintro e w1 ⟨rfl, hb1⟩
    have o1_0 := CellF.keep hb1 ho0
    have o1_1 := CellF.keep hb1 ho1
    have o1_2 := CellF.keep hb1 ho2
    have g1_0 := CellF.keep hb1 hg0
    go_wp2_with fail
    refine (Ceil_is _ _ _ _ _ HC _).mono ?_
    rintro e w2 ⟨rfl, hb2⟩
    have o2_0 := CellF.keep hb2 o1_0
    have o2_1 := CellF.keep hb2 o1_1
    have o2_2 := CellF.keep hb2 o1_2
    have g2_0 := CellF.keep hb2 g1_0
    go_wp2_with fail
    refine (Of_is _ _ _ _ _ HS _).mono ?_
    rintro e w3 ⟨rfl, hb3⟩
    have o3_0 := CellF.keep hb3 o2_0
    have o3_1 := CellF.keep hb3 o2_1
    have o3_2 := CellF.keep hb3 o2_2
    have g3_0 := CellF.keep hb3 g2_0
    have co0 := o3_0.1
    have co1 := o3_1.1
    have co2 := o3_2.1
    have cg0 := g3_0.1
    have fo0 := o3_0.2
    have fo1 := o3_1.2
    have fo2 := o3_2.2
    have fg0 := g3_0.2
    have zo := ltc co0
    have zg := ltc cg0
    go_wp2
    go_end0
    exact ⟨rfl, (by repeat (first | exact Below.refl _ _ | refine bBa ?_ hBw _ | (refine Below.setCell ?_ ?_ _; rotate_left; (dsimp only; omega)) | refine bB ?_ hBw (by assumption))), (by refine ⟨?_, ?_⟩ <;> go_simp), (by refine ⟨?_, ?_⟩ <;> go_simp), (by refine ⟨?_, ?_⟩ <;> go_simp), (by rw [← HO.out]; refine ⟨?_, ?_⟩ <;> go_simp)⟩

set_option maxHeartbeats 8000000 in
theorem Scale1_more (B o g : Nat) (m d lo hi x y : Int) (z p q : Bool) (w : World) (hB : B ≤ o) (hog : o < g) (ho0 : CellF w ⟨o, 0, none⟩ (.int .i64 lo)) (ho1 : CellF w ⟨o, 1, none⟩ (.int .i64 hi)) (ho2 : CellF w ⟨o, 2, none⟩ (.bool true)) (hg0 : CellF w ⟨g, 0, none⟩ (.bool p))
    (H : Hid (scOut ⟨lo, hi, true⟩ m d = ⟨x, y, z⟩)) (HP : Hid (scGood p m d = q)) :
    Calls Try.prog 52 #[.int .i64 m, .int .i64 d, .pointer (some ⟨g, 0, none⟩), .pointer (some ⟨o, 0, none⟩)] w (ScaleLeaves B w o g x y z q) := by
  obtain ⟨f, is, hf⟩ : ∃ f is, floorP m d 1000000000 = (f, is) := ⟨_, _, rfl⟩
  obtain ⟨c, has, hc⟩ : ∃ f is, ceilP m d 1000000000 = (f, is) := ⟨_, _, rfl⟩
  obtain ⟨⟨a, b, t⟩, hs⟩ : ∃ s, spOf f c = s := ⟨_, rfl⟩
  have HF := Lib.hid hf
  have HC := Lib.hid hc
  have HS := Lib.hid hs
  have ho := H.out
  unfold scOut at ho
  rw [hf, hc] at ho
  have hq := HP.out
  unfold scGood at hq
  rw [hf, hc] at hq
  simp only [hs] at ho hq
  clear hf hc hs H HP
  have hBw : B ≤ w.heap.size := Nat.le_trans hB (Nat.le_of_lt (ltc ho0.1))
  rw [if_pos trivial] at ho
  have HH := Lib.hid ho
  have HO := Lib.hid hq
  clear hq ho
  have hne : ¬ g = o := by omega
  cases p <;> cases is
  all_goals
    go_enter Try.func52, Try.ntmps52
    go_wp2_with fail
    refine (Floor_is _ _ _ _ _ HF _).mono ?_
    rintro e w1 ⟨rfl, hb1⟩
    have o1_0 := CellF.keep hb1 ho0
    have o1_1 := CellF.keep hb1 ho1
    have o1_2 := CellF.keep hb1 ho2
    have g1_0 := CellF.keep hb1 hg0
    go_wp2_with fail
    refine (Ceil_is _ _ _ _ _ HC _).mono ?_
    rintro e w2 ⟨rfl, hb2⟩
    have o2_0 := CellF.keep hb2 o1_0
    have o2_1 := CellF.keep hb2 o1_1
    have o2_2 := CellF.keep hb2 o1_2
    have g2_0 := CellF.keep hb2 g1_0
    go_wp2_with fail
    refine (Of_is _ _ _ _ _ HS _).mono ?_
    rintro e w3 ⟨rfl, hb3⟩
    have o3_0 := CellF.keep hb3 o2_0
    have o3_1 := CellF.keep hb3 o2_1
    have o3_2 := CellF.keep hb3 o2_2
    have g3_0 := CellF.keep hb3 g2_0
    have co0 := o3_0.1
    have co1 := o3_1.1
    have co2 := o3_2.1
    have cg0 := g3_0.1
    have fo0 := o3_0.2
    have fo1 := o3_1.2
    have fo2 := o3_2.2
    have fg0 := g3_0.2
    have zo := ltc co0
    have zg := ltc cg0
    go_wp2_with fail
    refine (Hull_is _ _ _ _ _ _ _ _ _ HH _).mono ?_
    rintro e w4 ⟨rfl, hb4⟩
    have o4_0 := CellF.keep hb4 (CellF.past _ (CellF.set_other _ (by simp) o3_0))
    have o4_1 := CellF.keep hb4 (CellF.past _ (CellF.set_other _ (by simp) o3_1))
    have o4_2 := CellF.keep hb4 (CellF.past _ (CellF.set_other _ (by simp) o3_2))
    have g4_0 := CellF.keep hb4 (CellF.past _ (CellF.set_same _ g3_0))
    have x4_0 : CellF w4 ⟨w3.heap.size, 0, none⟩ (.int .i64 a) := (by refine CellF.keep hb4 ?_; refine ⟨?_, ?_⟩ <;> go_simp)
    have x4_1 : CellF w4 ⟨w3.heap.size, 1, none⟩ (.int .i64 b) := (by refine CellF.keep hb4 ?_; refine ⟨?_, ?_⟩ <;> go_simp)
    have x4_2 : CellF w4 ⟨w3.heap.size, 2, none⟩ (.bool t) := (by refine CellF.keep hb4 ?_; refine ⟨?_, ?_⟩ <;> go_simp)
    have hox : ¬ o = w3.heap.size := by omega
    have hgx : ¬ g = w3.heap.size := by omega
    have hB3 : B ≤ w3.heap.size := by omega
    clear co0 co1 co2 cg0 fo0 fo1 fo2 fg0
    have co0 := o4_0.1
    have co1 := o4_1.1
    have co2 := o4_2.1
    have cg0 := g4_0.1
    have fo0 := o4_0.2
    have fo1 := o4_1.2
    have fo2 := o4_2.2
    have fg0 := g4_0.2
    have cx0 := x4_0.1
    have cx1 := x4_1.1
    have cx2 := x4_2.1
    have fx0 := x4_0.2
    have fx1 := x4_1.2
    have fx2 := x4_2.2
    have zo4 := ltc co0
    have zg4 := ltc cg0
    have zx4 := ltc cx0
    have hbB : Below B w w4 := by
      repeat (first | with_reducible exact Below.refl _ _ | with_reducible refine bBa ?_ hBw _ | (with_reducible refine Below.setCell ?_ ?_ _; rotate_left; (dsimp only; omega)) | with_reducible refine bB ?_ hBw (by assumption))
    have hsix := six_sets (x := .int .i64 x) (y := .int .i64 y) (z := .bool z) hB hB3 hox hgx hne o4_0 o4_1 o4_2 g4_0 _ rfl
    clear o1_0 o1_1 o1_2 g1_0 o2_0 o2_1 o2_2 g2_0 o3_0 o3_1 o3_2 g3_0 hb1 hb2 hb3 hb4 o4_0 o4_1 o4_2 g4_0 x4_0 x4_1 x4_2
    go_wp2
    go_end0
    exact ⟨rfl, hbB.trans hsix.1, hsix.2.1, hsix.2.2.1, hsix.2.2.2.1, by rw [← HO.out]; exact hsix.2.2.2.2⟩

theorem Scale1_is (B o g : Nat) (m d lo hi x y : Int) (k z p q : Bool) (w : World) (hB : B ≤ o) (hog : o < g) (ho0 : CellF w ⟨o, 0, none⟩ (.int .i64 lo)) (ho1 : CellF w ⟨o, 1, none⟩ (.int .i64 hi)) (ho2 : CellF w ⟨o, 2, none⟩ (.bool k)) (hg0 : CellF w ⟨g, 0, none⟩ (.bool p))
    (H : Hid (scOut ⟨lo, hi, k⟩ m d = ⟨x, y, z⟩)) (HP : Hid (scGood p m d = q)) :
    Calls Try.prog 52 #[.int .i64 m, .int .i64 d, .pointer (some ⟨g, 0, none⟩), .pointer (some ⟨o, 0, none⟩)] w (ScaleLeaves B w o g x y z q) := by
  cases k with
  | false => exact Scale1_first B o g m d lo hi x y z p q w hB hog ho0 ho1 ho2 hg0 H HP
  | true => exact Scale1_more B o g m d lo hi x y z p q w hB hog ho0 ho1 ho2 hg0 H HP
end Go.Proofs.Ytldgcigdoncgdaa
