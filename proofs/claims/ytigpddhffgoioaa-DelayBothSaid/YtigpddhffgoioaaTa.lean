/-
  The walks of package stamp's small functions: Right, Less, Of, Nanos, Scaled, Down, Up.
-/
import Derived.Test.YtigpddhffgoioaaTm
import Derived.Test.YtigpddhffgoioaaWc
namespace Go.Proofs.Ytigpddhffgoioaa
open Go.RowKit

theorem Down_is (n x : Int) (hn : I64 n) (H : Hid (stDown n = x)) (w : World) : Calls Try.prog 49 #[.int .i64 n] w fun e w' => e = .returned (.int .i64 x) ∧ Below w.heap.size w w' := by
  obtain rfl : n / 65536 = x := H.out
  obtain ⟨h1, h2⟩ := hn
  clear H
  go_enter Try.func49, Try.ntmps49
  go_wp2
  go_ret
  exact ⟨rfl, (by repeat (first | exact brefl _ | refine balloc ?_ _ | refine bdrewN ?_ _ | refine bset ?_ (by dsimp only; omega) _ | refine bstep ?_ (by assumption)))⟩

theorem Up_is (n x : Int) (hn : I64 n) (H : Hid (stUp n = x)) (w : World) : Calls Try.prog 50 #[.int .i64 n] w fun e w' => e = .returned (.int .i64 x) ∧ Below w.heap.size w w' := by
  have hx := H.out
  unfold stUp at hx
  obtain ⟨h1, h2⟩ := hn
  have ha := iand16 n
  clear H
  by_cases hz : n % 65536 = 0
  · rw [if_pos hz] at hx
    subst hx
    have hb : (bits .and .i64 n 65535 != 0) = false := by rw [ha, hz]; rfl
    clear ha hz
    go_enter Try.func50, Try.ntmps50
    go_wp2
    go_ret
    exact ⟨rfl, (by repeat (first | exact brefl _ | refine balloc ?_ _ | refine bdrewN ?_ _ | refine bset ?_ (by dsimp only; omega) _ | refine bstep ?_ (by assumption)))⟩
  · rw [if_neg hz] at hx
    subst hx
    have hb : (bits .and .i64 n 65535 != 0) = true := by rw [ha]; simpa using hz
    clear ha hz
    go_enter Try.func50, Try.ntmps50
    go_wp2
    go_ret
    exact ⟨rfl, (by repeat (first | exact brefl _ | refine balloc ?_ _ | refine bdrewN ?_ _ | refine bset ?_ (by dsimp only; omega) _ | refine bstep ?_ (by assumption)))⟩

end Go.Proofs.Ytigpddhffgoioaa
