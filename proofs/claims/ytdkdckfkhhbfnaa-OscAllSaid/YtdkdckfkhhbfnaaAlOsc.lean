/-
  alive, of layer 19: so the program's oscillators do what the law asks.
-/
import Derived.Test.YtdkdckfkhhbfnaaOc
namespace Go.Proofs.Ytdkdckfkhhbfnaa
open Go.RowKit

theorem gain_1 : gainP 1000000000 (-7) = (-7, true) := by decide +kernel
theorem go_1 : goP 5 0 1000 1000000000 1000 = (1000001005, 1000000000, 0) := by decide +kernel
theorem go_2 : goP 1000001005 1000000000 1000 1 1001 = (1000001005, 1000000000, 190) := by decide +kernel

theorem alive_is (w : World) : Calls Try.prog 11 #[] w fun e w' => e = .returned (.bool true) ∧ Below w.heap.size w w' := by
  have G0 := Lib.hid gain_1
  have G1 := Lib.hid go_1
  have G2 := Lib.hid go_2
  go_enter Try.func11, Try.ntmps11
  go_wp2_with fail
  refine (New_yes 5 1000 (by decide) (by decide) (by decide) (by decide) _).mono ?_
  rintro e w1 ⟨b, rfl, hb1, hwb, ho⟩
  go_wp2_with fail
  refine (Go_is b 5 0 1000 1000000000 1000 _ _ _ (by unfold I64; omega) (by unfold I64; omega) (by decide) (by decide) (by decide) (by decide) G1 _ ho).mono ?_
  rintro e w2 ⟨rfl, hb2, ho2⟩
  go_wp2_with fail
  refine (Go_is b 1000001005 1000000000 1000 1 1001 _ _ _ (by unfold I64; omega) (by unfold I64; omega) (by decide) (by decide) (by decide) (by decide) G2 _ ho2).mono ?_
  rintro e w3 ⟨rfl, hb3, ho3⟩
  go_wp2_with fail
  refine (Gain_is 1000000000 (-7) _ _ (by unfold I64; omega) (by unfold I64; omega) G0 _).mono ?_
  rintro e w4 ⟨rfl, hb4⟩
  have ho4 := ho3.keep hb4
  go_wp2_with fail
  refine (Local_is b _ _ _ _ ho4).mono ?_
  rintro e w5 ⟨rfl, hb5⟩
  have ho5 := ho4.keep hb5
  go_wp2_with fail
  refine (True_is b _ _ _ _ ho5).mono ?_
  rintro e w6 ⟨rfl, hb6⟩
  go_wp2
  go_ret
  exact ⟨rfl, (((hb1.trans (hb2.1.mono hwb)).trans (hb3.1.mono hwb)).trans (hb4.mono (by have := hb1.size; have := hb2.1.size; have := hb3.1.size; omega))).trans ((hb5.trans (hb6.mono hb5.size)).mono (by have := hb1.size; have := hb2.1.size; have := hb3.1.size; have := hb4.size; omega))⟩
end Go.Proofs.Ytdkdckfkhhbfnaa
