/-
  The walk of the function that Observe makes.
-/
import Derived.Test.YtklnlhphgiipjaaVc1
import Derived.Test.YtklnlhphgiipjaaVc2
import Derived.Test.YtklnlhphgiipjaaVc3
import Derived.Test.YtklnlhphgiipjaaVc4
namespace Go.Proofs.Ytklnlhphgiipjaa
open Go.RowKit

theorem may_z (bo bt bh bs : Nat) (x y : Int) (w : World) (O0 : CellF w ⟨bo, 0, none⟩ (.int .i64 x)) (O1 : CellF w ⟨bo, 1, none⟩ (.int .i64 y)) (O2 : CellF w ⟨bo, 2, none⟩ (.bool false)) :
    Calls Try.prog 28 #[.pointer (some ⟨bo, 0, none⟩), .pointer (some ⟨bt, 0, none⟩), .pointer (some ⟨bh, 0, none⟩), .pointer (some ⟨bs, 0, none⟩)] w fun e w' => e = .returned (.bool false) ∧ Below w.heap.size w w' := by
  have c0 := O0.1
  have c1 := O1.1
  have c2 := O2.1
  have l0 := ltc c0
  dsimp only at l0
  clear O0 O1 O2
  go_enter Try.func28, Try.ntmps28
  go_wp2_with fail
  go_quiet (fail)
  go_wp2
  go_ret
  exact ⟨rfl, (by repeat (first | exact brefl _ | refine balloc ?_ _ | refine bdrewN ?_ _ | refine bset ?_ (by dsimp only; omega) _ | refine bstep ?_ (by assumption)))⟩

theorem may1_is (b bo bt bh bs : Nat) (s : Sp) (k : Bool) (a x y : Int) (z : Bool) (t : Int) (r : Bool) (hk : s.kn = k) (H : Hid (sMay s a ⟨x, y, z⟩ t = r)) (w : World) (h : CellF w ⟨b, 3, none⟩ (.int .i64 a))
    (O0 : CellF w ⟨bo, 0, none⟩ (.int .i64 x)) (O1 : CellF w ⟨bo, 1, none⟩ (.int .i64 y)) (O2 : CellF w ⟨bo, 2, none⟩ (.bool z)) (T : CellF w ⟨bt, 0, none⟩ (.int .i64 t)) (K : CellF w ⟨bh, 0, none⟩ (.bool k)) (S : CellF w ⟨bs, 0, none⟩ (.pointer (some ⟨b, 0, none⟩))) :
    Calls Try.prog 28 #[.pointer (some ⟨bo, 0, none⟩), .pointer (some ⟨bt, 0, none⟩), .pointer (some ⟨bh, 0, none⟩), .pointer (some ⟨bs, 0, none⟩)] w fun e w' => e = .returned (.bool r) ∧ Below w.heap.size w w' := by
  have hx := H.out
  unfold sMay at hx
  dsimp only at hx
  rw [hk] at hx
  cases z with
  | false =>
    obtain rfl : false = r := by rw [← hx]; rfl
    exact may_z bo bt bh bs x y w O0 O1 O2
  | true =>
    cases hq : spRight ⟨x, y, true⟩ with
    | false =>
      obtain rfl : false = r := by rw [← hx, hq]; rfl
      exact may_q b bo bt bh bs a x y t k (Lib.hid hq) w h O0 O1 O2 T K S
    | true =>
      cases he : smallB t with
      | false =>
        obtain rfl : false = r := by rw [← hx, hq, he]; rfl
        exact may_e b bo bt bh bs a x y t k (Lib.hid hq) (Lib.hid he) w h O0 O1 O2 T K S
      | true =>
        rw [hq, he] at hx
        cases k with
        | false =>
          obtain rfl : true = r := by rw [← hx]; rfl
          exact may_n b bo bt bh bs a x y t (Lib.hid hq) (Lib.hid he) w h O0 O1 O2 T K S
        | true =>
          have hd : decide (a ≤ t) = r := by rw [← hx]; cases decide (a ≤ t) <;> rfl
          exact may_k b bo bt bh bs a x y t r hd (Lib.hid hq) (Lib.hid he) w h O0 O1 O2 T K S
end Go.Proofs.Ytklnlhphgiipjaa
