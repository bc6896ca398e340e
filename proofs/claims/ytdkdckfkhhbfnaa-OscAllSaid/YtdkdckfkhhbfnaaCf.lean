/-
  Cells of the call's own: kept by what only adds; and what else stays where one block is written.
-/
import Derived.Test.YtdkdckfkhhbfnaaWa
namespace Go.Proofs.Ytdkdckfkhhbfnaa
open Go.RowKit

/-- What a cell of the call's own holds; it may be written. -/
def CellF (w : World) (p : Addr) (v : Value) : Prop := w.cell? p = some v ∧ w.frozen? p = false
theorem CellF.keep {a b : World} (hb : Below a.heap.size a b) {p : Addr} {v : Value} (h : CellF a p v) : CellF b p v := ⟨keepc hb h.1, keepf hb h.1 h.2⟩
theorem CellF.past {a : World} (o : Obj) {p : Addr} {v : Value} (h : CellF a p v) : CellF (a.alloc o) p v := ⟨allocc o h.1, allocf o h.1 h.2⟩
theorem CellF.drewN {a : World} (n : Nat) {p : Addr} {v : Value} (h : CellF a p v) : CellF (a.drewN n) p v := h
theorem CellF.drew {a : World} {p : Addr} {v : Value} (h : CellF a p v) : CellF a.drew p v := h
theorem CellF.at_ {a : World} {c : Array Value} {t : TypeId} {n i : Nat} {v : Value} (hn : n = a.heap.size) (hv : c[i]? = some v) : CellF (a.alloc (.cells c t)) ⟨n, i, none⟩ v := by
  subst hn
  refine ⟨?_, ?_⟩
  · rw [World.cell?_alloc_new]; exact hv
  · go_simp
theorem CellF.set_same' {a : World} {p : Addr} {u : Value} (v : Value) (h : CellF a p u) : CellF (a.setCell p v) p v :=
  ⟨World.cell?_setCell_same _ _ _ h.1, by rw [World.frozen?_setCell]; exact h.2⟩
theorem CellF.set_other' {a : World} {p q : Addr} {u : Value} (v : Value) (hne : p ≠ q) (h : CellF a q u) : CellF (a.setCell p v) q u :=
  ⟨(World.cell?_setCell_other _ _ _ _ hne).trans h.1, by rw [World.frozen?_setCell]; exact h.2⟩
theorem CellF.lt {a : World} {p : Addr} {v : Value} (h : CellF a p v) : p.block < a.heap.size := ltc h.1
theorem CellF.below {n : Nat} {a b : World} (hb : Below n a b) {p : Addr} (hp : p.block < n) {v : Value} (h : CellF a p v) : CellF b p v := ⟨(hb.cell hp).trans h.1, (hb.frozen hp).trans h.2⟩

/-- Only block b is written, all else that was there stays; more may be made. -/
def Only (b : Nat) (w w' : World) : Prop := Below b w w' ∧ ∀ p v, p.block ≠ b → CellF w p v → CellF w' p v
theorem Only.of {b : Nat} {w w' : World} (hb : Below w.heap.size w w') (hlt : b ≤ w.heap.size) : Only b w w' := ⟨hb.mono hlt, fun _ _ _ h => h.keep hb⟩
theorem Only.trans {b : Nat} {w u w' : World} (h : Only b w u) (k : Only b u w') : Only b w w' := ⟨h.1.trans k.1, fun p v hp hv => k.2 p v hp (h.2 p v hp hv)⟩
theorem Only.size {b : Nat} {w w' : World} (h : Only b w w') : w.heap.size ≤ w'.heap.size := h.1.size

/-- A pair in a block. -/
def PairAt (w : World) (b : Nat) (x y : Int) : Prop := CellF w ⟨b, 0, none⟩ (.int .i64 x) ∧ CellF w ⟨b, 1, none⟩ (.int .i64 y)
theorem PairAt.keep {a b : World} {n : Nat} {x y : Int} (hb : Below a.heap.size a b) (h : PairAt a n x y) : PairAt b n x y := ⟨CellF.keep hb h.1, CellF.keep hb h.2⟩
theorem PairAt.lt {a : World} {n : Nat} {x y : Int} (h : PairAt a n x y) : n < a.heap.size := ltc h.1.1
theorem PairAt.new {a : World} {n : Nat} {x y : Int} {t : TypeId} (hn : n = a.heap.size) : PairAt (a.alloc (.cells #[.int .i64 x, .int .i64 y] t)) n x y := ⟨CellF.at_ hn rfl, CellF.at_ hn rfl⟩
theorem pair_sets {a : World} {b : Nat} {x y x0 y0 : Int} (h : PairAt a b x0 y0) :
    PairAt ((a.setCell ⟨b, 0, none⟩ (.int .i64 x)).setCell ⟨b, 1, none⟩ (.int .i64 y)) b x y ∧
    (∀ p v, p.block ≠ b → CellF a p v → CellF ((a.setCell ⟨b, 0, none⟩ (.int .i64 x)).setCell ⟨b, 1, none⟩ (.int .i64 y)) p v) ∧
    (∀ B, B ≤ b → Below B a ((a.setCell ⟨b, 0, none⟩ (.int .i64 x)).setCell ⟨b, 1, none⟩ (.int .i64 y))) := by
  have n4 : ∀ i j : Nat, i ≠ j → (⟨b, i, none⟩ : Addr) ≠ ⟨b, j, none⟩ := fun _ _ hij h => hij (by injection h)
  refine ⟨⟨?_, ?_⟩, fun p v hp hh => ?_, fun B hB => ?_⟩
  · exact (h.1.set_same' _).set_other' _ (n4 1 0 (by decide))
  · exact (h.2.set_other' _ (n4 0 1 (by decide))).set_same' _
  · have n1 : ∀ i, (⟨b, i, none⟩ : Addr) ≠ p := fun i e => hp (by rw [← e])
    exact (hh.set_other' _ (n1 0)).set_other' _ (n1 1)
  · exact ((Below.refl B a).setCell hB _).setCell hB _
end Go.Proofs.Ytdkdckfkhhbfnaa
