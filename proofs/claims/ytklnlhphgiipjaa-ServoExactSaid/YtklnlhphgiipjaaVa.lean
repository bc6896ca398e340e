/-
  The walks of package servo's New, Reset, Count, Last, Master's parts.
-/
import Derived.Test.YtklnlhphgiipjaaSg
import Derived.Test.YtklnlhphgiipjaaSpt
import Derived.BigRegion
import Derived.BigQuiet
import Derived.Deep.QuietTactic
namespace Go.Proofs.Ytklnlhphgiipjaa
open Go.RowKit

theorem CellF.lt {a : World} {p : Addr} {v : Value} (h : CellF a p v) : p.block < a.heap.size := ltc h.1
/-- Only block b is written, all else that was there stays; more may be made. -/
def Only (b : Nat) (w w' : World) : Prop := Below b w w' ∧ ∀ p v, p.block ≠ b → CellF w p v → CellF w' p v
theorem Only.of {b : Nat} {w w' : World} (hb : Below w.heap.size w w') (hlt : b ≤ w.heap.size) : Only b w w' := ⟨hb.mono hlt, fun _ _ _ h => h.keep hb⟩
theorem Only.trans {b : Nat} {w u w' : World} (h : Only b w u) (k : Only b u w') : Only b w w' := ⟨h.1.trans k.1, fun p v hp hv => k.2 p v hp (h.2 p v hp hv)⟩

/-- A servo in a block: what is known of the offset, since when, how many agreed, and the drift. -/
def SrvAt (w : World) (b : Nat) (lo hi : Int) (k : Bool) (a m p : Int) : Prop := CellF w ⟨b, 0, none⟩ (.int .i64 lo) ∧ CellF w ⟨b, 1, none⟩ (.int .i64 hi) ∧ CellF w ⟨b, 2, none⟩ (.bool k) ∧ CellF w ⟨b, 3, none⟩ (.int .i64 a) ∧ CellF w ⟨b, 4, none⟩ (.int .i64 m) ∧ CellF w ⟨b, 5, none⟩ (.int .i64 p)
theorem SrvAt.keep {u v : World} {b : Nat} {lo hi : Int} {k : Bool} {a m p : Int} (hb : Below u.heap.size u v) (h : SrvAt u b lo hi k a m p) : SrvAt v b lo hi k a m p := ⟨h.1.keep hb, h.2.1.keep hb, h.2.2.1.keep hb, h.2.2.2.1.keep hb, h.2.2.2.2.1.keep hb, h.2.2.2.2.2.keep hb⟩
theorem SrvAt.lt {u : World} {b : Nat} {lo hi : Int} {k : Bool} {a m p : Int} (h : SrvAt u b lo hi k a m p) : b < u.heap.size := ltc h.1.1
theorem SrvAt.only {u v : World} {b c : Nat} {lo hi : Int} {k : Bool} {a m p : Int} (hb : Only c u v) (hn : b ≠ c) (h : SrvAt u b lo hi k a m p) : SrvAt v b lo hi k a m p := ⟨hb.2 _ _ hn h.1, hb.2 _ _ hn h.2.1, hb.2 _ _ hn h.2.2.1, hb.2 _ _ hn h.2.2.2.1, hb.2 _ _ hn h.2.2.2.2.1, hb.2 _ _ hn h.2.2.2.2.2⟩

/-- What is known, written anew. -/
theorem known_sets {u : World} {b : Nat} {lo hi : Int} {k : Bool} {a m p : Int} (lo' hi' : Int) (k' : Bool) (a' m' : Int) (h : SrvAt u b lo hi k a m p) :
    SrvAt (((((u.setCell ⟨b, 0, none⟩ (.int .i64 lo')).setCell ⟨b, 1, none⟩ (.int .i64 hi')).setCell ⟨b, 2, none⟩ (.bool k')).setCell ⟨b, 3, none⟩ (.int .i64 a')).setCell ⟨b, 4, none⟩ (.int .i64 m')) b lo' hi' k' a' m' p ∧
    Only b u (((((u.setCell ⟨b, 0, none⟩ (.int .i64 lo')).setCell ⟨b, 1, none⟩ (.int .i64 hi')).setCell ⟨b, 2, none⟩ (.bool k')).setCell ⟨b, 3, none⟩ (.int .i64 a')).setCell ⟨b, 4, none⟩ (.int .i64 m')) := by
  obtain ⟨h0, h1, h2, h3, h4, h5⟩ := h
  have n4 : ∀ i j : Nat, i ≠ j → (⟨b, i, none⟩ : Addr) ≠ ⟨b, j, none⟩ := fun _ _ hij h => hij (by injection h)
  refine ⟨⟨?_, ?_, ?_, ?_, ?_, ?_⟩, ?_, fun q v hq hh => ?_⟩
  · exact ((((h0.set_same' _).set_other' _ (n4 1 0 (by decide))).set_other' _ (n4 2 0 (by decide))).set_other' _ (n4 3 0 (by decide))).set_other' _ (n4 4 0 (by decide))
  · exact ((((h1.set_other' _ (n4 0 1 (by decide))).set_same' _).set_other' _ (n4 2 1 (by decide))).set_other' _ (n4 3 1 (by decide))).set_other' _ (n4 4 1 (by decide))
  · exact ((((h2.set_other' _ (n4 0 2 (by decide))).set_other' _ (n4 1 2 (by decide))).set_same' _).set_other' _ (n4 3 2 (by decide))).set_other' _ (n4 4 2 (by decide))
  · exact ((((h3.set_other' _ (n4 0 3 (by decide))).set_other' _ (n4 1 3 (by decide))).set_other' _ (n4 2 3 (by decide))).set_same' _).set_other' _ (n4 4 3 (by decide))
  · exact ((((h4.set_other' _ (n4 0 4 (by decide))).set_other' _ (n4 1 4 (by decide))).set_other' _ (n4 2 4 (by decide))).set_other' _ (n4 3 4 (by decide))).set_same' _
  · exact ((((h5.set_other' _ (n4 0 5 (by decide))).set_other' _ (n4 1 5 (by decide))).set_other' _ (n4 2 5 (by decide))).set_other' _ (n4 3 5 (by decide))).set_other' _ (n4 4 5 (by decide))
  · exact (((((Below.refl b u).setCell (Nat.le_refl _) _).setCell (Nat.le_refl _) _).setCell (Nat.le_refl _) _).setCell (Nat.le_refl _) _).setCell (Nat.le_refl _) _
  · have n1 : ∀ i, (⟨b, i, none⟩ : Addr) ≠ q := fun i e => hq (by rw [← e])
    exact ((((hh.set_other' _ (n1 0)).set_other' _ (n1 1)).set_other' _ (n1 2)).set_other' _ (n1 3)).set_other' _ (n1 4)

theorem SNew_no (p : Int) (hp : I64 p) (h : p < 0 ∨ 1000000000 < p) (w : World) :
    Calls Try.prog 9 #[.int .i64 p] w fun e w' => e = .returned (.tuple #[.pointer none, .int .i64 1]) ∧ Below w.heap.size w w' := by
  unfold I64 at hp
  by_cases h1 : p < 0
  · clear h
    go_enter Try.func9, Try.ntmps9
    go_wp2
    go_ret2
    exact ⟨rfl, (by repeat (first | exact brefl _ | refine balloc ?_ _ | refine bdrewN ?_ _ | refine bset ?_ (by dsimp only; omega) _ | refine bstep ?_ (by assumption)))⟩
  have h4 : 1000000000 < p := by omega
  clear h
  go_enter Try.func9, Try.ntmps9
  go_wp2
  go_ret2
  exact ⟨rfl, (by repeat (first | exact brefl _ | refine balloc ?_ _ | refine bdrewN ?_ _ | refine bset ?_ (by dsimp only; omega) _ | refine bstep ?_ (by assumption)))⟩

theorem SNew_yes (p : Int) (h1 : 0 ≤ p) (h2 : p ≤ 1000000000) (w : World) :
    Calls Try.prog 9 #[.int .i64 p] w fun e w' => ∃ b, e = .returned (.tuple #[.pointer (some ⟨b, 0, none⟩), .int .i64 0]) ∧ Below w.heap.size w w' ∧ w.heap.size ≤ b ∧ SrvAt w' b 0 0 false 0 0 p := by
  go_enter Try.func9, Try.ntmps9
  go_wp2
  go_ret2
  exact ⟨_, rfl, (by repeat (first | exact brefl _ | refine balloc ?_ _ | refine bdrewN ?_ _ | refine bset ?_ (by dsimp only; omega) _ | refine bstep ?_ (by assumption))), Nat.le_refl _, by exact ⟨CellF.at_ rfl rfl, CellF.at_ rfl rfl, CellF.at_ rfl rfl, CellF.at_ rfl rfl, CellF.at_ rfl rfl, CellF.at_ rfl rfl⟩⟩

theorem Count_is (b : Nat) (lo hi : Int) (k : Bool) (a m p : Int) (w : World) (h : SrvAt w b lo hi k a m p) :
    Calls Try.prog 22 #[.pointer (some ⟨b, 0, none⟩)] w fun e w' => e = .returned (.int .i64 m) ∧ Below w.heap.size w w' := by
  have c0 := h.2.2.2.2.1.1
  clear h
  go_enter Try.func22, Try.ntmps22
  go_wp2
  go_ret
  exact ⟨rfl, (by repeat (first | exact brefl _ | refine balloc ?_ _ | refine bdrewN ?_ _ | refine bset ?_ (by dsimp only; omega) _ | refine bstep ?_ (by assumption)))⟩

theorem Last_is (b : Nat) (lo hi : Int) (k : Bool) (a m p : Int) (w : World) (h : SrvAt w b lo hi k a m p) :
    Calls Try.prog 25 #[.pointer (some ⟨b, 0, none⟩)] w fun e w' => e = .returned (.tuple #[.int .i64 a, .bool k]) ∧ Below w.heap.size w w' := by
  have c2 := h.2.2.1.1
  have c3 := h.2.2.2.1.1
  clear h
  go_enter Try.func25, Try.ntmps25
  go_wp2_with fail
  go_quiet (fail)
  go_wp2
  go_ret2
  exact ⟨rfl, (by repeat (first | exact brefl _ | refine balloc ?_ _ | refine bdrewN ?_ _ | refine bset ?_ (by dsimp only; omega) _ | refine bstep ?_ (by assumption)))⟩

theorem Reset_is (b : Nat) (lo hi : Int) (k : Bool) (a m p : Int) (w : World) (h : SrvAt w b lo hi k a m p) :
    Calls Try.prog 21 #[.pointer (some ⟨b, 0, none⟩)] w fun e w' => e = .returned (.tuple #[]) ∧ Only b w w' ∧ SrvAt w' b 0 0 false 0 0 p := by
  have hk := known_sets 0 0 false 0 0 h
  have HK := Lib.hid hk
  have c0 := h.1.1
  have c1 := h.2.1.1
  have c2 := h.2.2.1.1
  have c3 := h.2.2.2.1.1
  have c4 := h.2.2.2.2.1.1
  have f0 := h.1.2
  have f1 := h.2.1.2
  have f2 := h.2.2.1.2
  have f3 := h.2.2.2.1.2
  have f4 := h.2.2.2.2.1.2
  clear h hk
  go_enter Try.func21, Try.ntmps21
  go_wp2
  go_end0
  exact ⟨rfl, HK.out.2, HK.out.1⟩
end Go.Proofs.Ytklnlhphgiipjaa
