/-
  The walks of package osc's New, Local, True.
-/
import Derived.Test.YtdkdckfkhhbfnaaOa
import Derived.Test.YtdkdckfkhhbfnaaCf
namespace Go.Proofs.Ytdkdckfkhhbfnaa
open Go.RowKit

/-- An oscillator in a block. -/
def OscAt (w : World) (b : Nat) (l a bd : Int) : Prop := CellF w ⟨b, 0, none⟩ (.int .i64 l) ∧ CellF w ⟨b, 1, none⟩ (.int .i64 a) ∧ CellF w ⟨b, 2, none⟩ (.int .i64 bd)
theorem OscAt.keep {a b : World} {n : Nat} {x y z : Int} (hb : Below a.heap.size a b) (h : OscAt a n x y z) : OscAt b n x y z := ⟨CellF.keep hb h.1, CellF.keep hb h.2.1, CellF.keep hb h.2.2⟩
theorem OscAt.lt {a : World} {n : Nat} {x y z : Int} (h : OscAt a n x y z) : n < a.heap.size := ltc h.1.1
theorem OscAt.only {a b : World} {n m : Nat} {x y z : Int} (hb : Only m a b) (hn : n ≠ m) (h : OscAt a n x y z) : OscAt b n x y z := ⟨hb.2 _ _ hn h.1, hb.2 _ _ hn h.2.1, hb.2 _ _ hn h.2.2⟩

theorem New_no (s bd : Int) (hs : I64 s) (hb : I64 bd) (h : s < 0 ∨ 2305843009213693952 < s ∨ bd < 0 ∨ 100000000 < bd) (w : World) :
    Calls Try.prog 9 #[.int .i64 s, .int .i64 bd] w fun e w' => e = .returned (.tuple #[.pointer none, .int .i64 190]) ∧ Below w.heap.size w w' := by
  unfold I64 at hs hb
  by_cases h1 : s < 0
  · clear h
    go_enter Try.func9, Try.ntmps9
    go_wp2
    go_ret2
    exact ⟨rfl, (by repeat (first | exact brefl _ | refine balloc ?_ _ | refine bdrewN ?_ _ | refine bset ?_ (by dsimp only; omega) _ | refine bstep ?_ (by assumption)))⟩
  by_cases h2 : 2305843009213693952 < s
  · clear h
    go_enter Try.func9, Try.ntmps9
    go_wp2
    go_ret2
    exact ⟨rfl, (by repeat (first | exact brefl _ | refine balloc ?_ _ | refine bdrewN ?_ _ | refine bset ?_ (by dsimp only; omega) _ | refine bstep ?_ (by assumption)))⟩
  by_cases h3 : bd < 0
  · clear h
    go_enter Try.func9, Try.ntmps9
    go_wp2
    go_ret2
    exact ⟨rfl, (by repeat (first | exact brefl _ | refine balloc ?_ _ | refine bdrewN ?_ _ | refine bset ?_ (by dsimp only; omega) _ | refine bstep ?_ (by assumption)))⟩
  have h4 : 100000000 < bd := by omega
  clear h
  go_enter Try.func9, Try.ntmps9
  go_wp2
  go_ret2
  exact ⟨rfl, (by repeat (first | exact brefl _ | refine balloc ?_ _ | refine bdrewN ?_ _ | refine bset ?_ (by dsimp only; omega) _ | refine bstep ?_ (by assumption)))⟩

theorem New_yes (s bd : Int) (h1 : 0 ≤ s) (h2 : s ≤ 2305843009213693952) (h3 : 0 ≤ bd) (h4 : bd ≤ 100000000) (w : World) :
    Calls Try.prog 9 #[.int .i64 s, .int .i64 bd] w fun e w' => ∃ b, e = .returned (.tuple #[.pointer (some ⟨b, 0, none⟩), .int .i64 0]) ∧ Below w.heap.size w w' ∧ w.heap.size ≤ b ∧ OscAt w' b s 0 bd := by
  go_enter Try.func9, Try.ntmps9
  go_wp2
  go_ret2
  exact ⟨_, rfl, (by repeat (first | exact brefl _ | refine balloc ?_ _ | refine bdrewN ?_ _ | refine bset ?_ (by dsimp only; omega) _ | refine bstep ?_ (by assumption))), Nat.le_refl _, by exact ⟨CellF.at_ rfl rfl, CellF.at_ rfl rfl, CellF.at_ rfl rfl⟩⟩

theorem Local_is (b : Nat) (l a bd : Int) (w : World) (h : OscAt w b l a bd) :
    Calls Try.prog 13 #[.pointer (some ⟨b, 0, none⟩)] w fun e w' => e = .returned (.int .i64 l) ∧ Below w.heap.size w w' := by
  have c0 := h.1.1
  clear h
  go_enter Try.func13, Try.ntmps13
  go_wp2
  go_ret
  exact ⟨rfl, (by repeat (first | exact brefl _ | refine balloc ?_ _ | refine bdrewN ?_ _ | refine bset ?_ (by dsimp only; omega) _ | refine bstep ?_ (by assumption)))⟩
theorem True_is (b : Nat) (l a bd : Int) (w : World) (h : OscAt w b l a bd) :
    Calls Try.prog 17 #[.pointer (some ⟨b, 0, none⟩)] w fun e w' => e = .returned (.int .i64 a) ∧ Below w.heap.size w w' := by
  have c0 := h.2.1.1
  clear h
  go_enter Try.func17, Try.ntmps17
  go_wp2
  go_ret
  exact ⟨rfl, (by repeat (first | exact brefl _ | refine balloc ?_ _ | refine bdrewN ?_ _ | refine bset ?_ (by dsimp only; omega) _ | refine bstep ?_ (by assumption)))⟩
end Go.Proofs.Ytdkdckfkhhbfnaa
