/-
  A span in a block.
-/
import Derived.Test.YtklnlhphgiipjaaSb
import Derived.BigRegion
import Derived.Deep.RegionWith
import Derived.Deep.Cut
import Derived.Deep.CutRange
import Derived.Deep.DeepCutAuto
namespace Go.Proofs.Ytklnlhphgiipjaa
open Go.RowKit

theorem CellF.at_ {a : World} {c : Array Value} {t : TypeId} {n i : Nat} {v : Value} (hn : n = a.heap.size) (hv : c[i]? = some v) : CellF (a.alloc (.cells c t)) ⟨n, i, none⟩ v := by
  subst hn
  refine ⟨?_, ?_⟩
  · rw [World.cell?_alloc_new]; exact hv
  · go_simp
theorem cdrew {a : World} {p : Addr} {v : Value} (h : a.cell? p = some v) : a.drew.cell? p = some v := h
theorem csetc {a : World} {p q : Addr} {v : Value} (u : Value) (h : a.cell? p = some v) (hq : p.block < q.block) : (a.setCell q u).cell? p = some v :=
  (((Below.refl q.block a).setCell (Nat.le_refl _) u).cell hq).trans h

/-- A span in a block. -/
def SpanAt (w : World) (b : Nat) (lo hi : Int) (k : Bool) : Prop := CellF w ⟨b, 0, none⟩ (.int .i64 lo) ∧ CellF w ⟨b, 1, none⟩ (.int .i64 hi) ∧ CellF w ⟨b, 2, none⟩ (.bool k)

theorem SpanAt.keep {a b : World} {n : Nat} {x y : Int} {z : Bool} (hb : Below a.heap.size a b) (h : SpanAt a n x y z) : SpanAt b n x y z := ⟨CellF.keep hb h.1, CellF.keep hb h.2.1, CellF.keep hb h.2.2⟩
theorem SpanAt.lt {a : World} {n : Nat} {x y : Int} {z : Bool} (h : SpanAt a n x y z) : n < a.heap.size := ltc h.1.1
theorem SpanAt.new {a : World} {n : Nat} {x y : Int} {z : Bool} {t : TypeId} (hn : n = a.heap.size) : SpanAt (a.alloc (.cells #[.int .i64 x, .int .i64 y, .bool z] t)) n x y z := ⟨CellF.at_ hn rfl, CellF.at_ hn rfl, CellF.at_ hn rfl⟩
theorem CellF.set_same' {a : World} {p : Addr} {u : Value} (v : Value) (h : CellF a p u) : CellF (a.setCell p v) p v :=
  ⟨World.cell?_setCell_same _ _ _ h.1, by rw [World.frozen?_setCell]; exact h.2⟩
theorem CellF.set_other' {a : World} {p q : Addr} {u : Value} (v : Value) (hne : p ≠ q) (h : CellF a q u) : CellF (a.setCell p v) q u :=
  ⟨(World.cell?_setCell_other _ _ _ _ hne).trans h.1, by rw [World.frozen?_setCell]; exact h.2⟩
theorem span_sets {a : World} {b : Nat} {x y x0 y0 : Int} {z z0 : Bool} (h : SpanAt a b x0 y0 z0) :
    SpanAt (((a.setCell ⟨b, 0, none⟩ (.int .i64 x)).setCell ⟨b, 1, none⟩ (.int .i64 y)).setCell ⟨b, 2, none⟩ (.bool z)) b x y z ∧
    (∀ c x1 y1 z1, c ≠ b → SpanAt a c x1 y1 z1 → SpanAt (((a.setCell ⟨b, 0, none⟩ (.int .i64 x)).setCell ⟨b, 1, none⟩ (.int .i64 y)).setCell ⟨b, 2, none⟩ (.bool z)) c x1 y1 z1) ∧
    (∀ B, B ≤ b → Below B a (((a.setCell ⟨b, 0, none⟩ (.int .i64 x)).setCell ⟨b, 1, none⟩ (.int .i64 y)).setCell ⟨b, 2, none⟩ (.bool z))) := by
  have n4 : ∀ i j : Nat, i ≠ j → (⟨b, i, none⟩ : Addr) ≠ ⟨b, j, none⟩ := fun _ _ hij h => hij (by injection h)
  refine ⟨⟨?_, ?_, ?_⟩, fun c x1 y1 z1 hc hh => ?_, fun B hB => ?_⟩
  · exact ((h.1.set_same' _).set_other' _ (n4 1 0 (by decide))).set_other' _ (n4 2 0 (by decide))
  · exact ((h.2.1.set_other' _ (n4 0 1 (by decide))).set_same' _).set_other' _ (n4 2 1 (by decide))
  · exact ((h.2.2.set_other' _ (n4 0 2 (by decide))).set_other' _ (n4 1 2 (by decide))).set_same' _
  · have n1 : ∀ i j, (⟨b, i, none⟩ : Addr) ≠ ⟨c, j, none⟩ := fun _ _ h => hc (by injection h with h; exact h.symm)
    exact ⟨((hh.1.set_other' _ (n1 0 0)).set_other' _ (n1 1 0)).set_other' _ (n1 2 0), ((hh.2.1.set_other' _ (n1 0 1)).set_other' _ (n1 1 1)).set_other' _ (n1 2 1), ((hh.2.2.set_other' _ (n1 0 2)).set_other' _ (n1 1 2)).set_other' _ (n1 2 2)⟩
  · exact (((Below.refl B a).setCell hB _).setCell hB _).setCell hB _

/-- Two blocks, one on the other. -/
theorem two_blocks (w u : World) (c1 c2 : Array Value) (T1 T2 : TypeId) (hu : u = (w.alloc (.cells c1 T1)).alloc (.cells c2 T2)) :
    Below w.heap.size w u ∧ u.heap.size = w.heap.size + 1 + 1 ∧ (∀ i v, c1[i]? = some v → CellF u ⟨w.heap.size, i, none⟩ v) ∧ (∀ i v, c2[i]? = some v → CellF u ⟨w.heap.size + 1, i, none⟩ v) := by
  subst hu
  refine ⟨balloc (balloc (brefl _) _) _, by simp, fun i v h => ?_, fun i v h => ?_⟩
  · exact CellF.past _ (CellF.at_ rfl h)
  · exact CellF.at_ (by simp) h

/-- Three blocks, one on the other. -/
theorem three_blocks (w u : World) (c1 c2 c3 : Array Value) (T1 T2 T3 : TypeId) (hu : u = ((w.alloc (.cells c1 T1)).alloc (.cells c2 T2)).alloc (.cells c3 T3)) :
    Below w.heap.size w u ∧ u.heap.size = w.heap.size + 1 + 1 + 1 ∧ (∀ i v, c1[i]? = some v → CellF u ⟨w.heap.size, i, none⟩ v) ∧ (∀ i v, c2[i]? = some v → CellF u ⟨w.heap.size + 1, i, none⟩ v) ∧ (∀ i v, c3[i]? = some v → CellF u ⟨w.heap.size + 1 + 1, i, none⟩ v) := by
  subst hu
  refine ⟨balloc (balloc (balloc (brefl _) _) _) _, by simp, fun i v h => ?_, fun i v h => ?_, fun i v h => ?_⟩
  · exact CellF.past _ (CellF.past _ (CellF.at_ rfl h))
  · exact CellF.past _ (CellF.at_ (by simp) h)
  · exact CellF.at_ (by simp) h

end Go.Proofs.Ytklnlhphgiipjaa
