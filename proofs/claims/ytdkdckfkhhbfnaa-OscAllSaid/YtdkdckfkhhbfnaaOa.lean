/-
  The walks of package osc's Gain, New, Local, True.
-/
import Derived.Test.YtdkdckfkhhbfnaaMo
import Derived.Test.YtdkdckfkhhbfnaaWc
namespace Go.Proofs.Ytdkdckfkhhbfnaa
open Go.RowKit

theorem Gain_is (p q x : Int) (i : Bool) (hp : I64 p) (hq : I64 q) (H : Hid (gainP p q = (x, i))) (w : World) :
    Calls Try.prog 14 #[.int .i64 p, .int .i64 q] w fun e w' => e = .returned (.tuple #[.int .i64 x, .bool i]) ∧ Below w.heap.size w w' := by
  have hx := H.out
  clear H
  unfold I64 at hp hq
  by_cases h1 : p < 0
  · rw [gain_no (.inl h1)] at hx
    obtain ⟨rfl, rfl⟩ := Prod.mk.inj hx
    clear hx
    go_enter Try.func14, Try.ntmps14
    go_wp2
    go_ret2
    exact ⟨rfl, (by repeat (first | exact brefl _ | refine balloc ?_ _ | refine bdrewN ?_ _ | refine bset ?_ (by dsimp only; omega) _ | refine bstep ?_ (by assumption)))⟩
  by_cases h2 : q < -1000000000
  · rw [gain_no (.inr (.inl h2))] at hx
    obtain ⟨rfl, rfl⟩ := Prod.mk.inj hx
    clear hx
    go_enter Try.func14, Try.ntmps14
    go_wp2
    go_ret2
    exact ⟨rfl, (by repeat (first | exact brefl _ | refine balloc ?_ _ | refine bdrewN ?_ _ | refine bset ?_ (by dsimp only; omega) _ | refine bstep ?_ (by assumption)))⟩
  by_cases h3 : 1000000000 < q
  · rw [gain_no (.inr (.inr h3))] at hx
    obtain ⟨rfl, rfl⟩ := Prod.mk.inj hx
    clear hx
    go_enter Try.func14, Try.ntmps14
    go_wp2
    go_ret2
    exact ⟨rfl, (by repeat (first | exact brefl _ | refine balloc ?_ _ | refine bdrewN ?_ _ | refine bset ?_ (by dsimp only; omega) _ | refine bstep ?_ (by assumption)))⟩
  obtain ⟨a, ha⟩ : ∃ a, absP q = a := ⟨_, rfl⟩
  obtain ⟨y, j, hf⟩ : ∃ y j, floorP p a 1000000000 = (y, j) := ⟨_, _, rfl⟩
  have hb := floor_bd hf
  have HA := Lib.hid ha
  have HF := Lib.hid hf
  rw [← ha] at hf
  by_cases h4 : q < 0
  · rw [gain_neg (by omega) (by omega) (by omega) h4 hf] at hx
    obtain ⟨rfl, rfl⟩ := Prod.mk.inj hx
    clear hx hf ha
    go_enter Try.func14, Try.ntmps14
    go_wp2_with fail
    refine (Abs_is _ _ HA _).mono ?_
    rintro e w1 ⟨rfl, hb1⟩
    go_wp2_with fail
    refine (Floor_is _ _ _ _ _ HF _).mono ?_
    rintro e w2 ⟨rfl, hb2⟩
    go_wp2
    go_ret2
    exact ⟨rfl, (by repeat (first | exact brefl _ | refine balloc ?_ _ | refine bdrewN ?_ _ | refine bset ?_ (by dsimp only; omega) _ | refine bstep ?_ (by assumption)))⟩
  · rw [gain_pos (by omega) (by omega) (by omega) (by omega) hf] at hx
    obtain ⟨rfl, rfl⟩ := Prod.mk.inj hx
    clear hx hf ha
    go_enter Try.func14, Try.ntmps14
    go_wp2_with fail
    refine (Abs_is _ _ HA _).mono ?_
    rintro e w1 ⟨rfl, hb1⟩
    go_wp2_with fail
    refine (Floor_is _ _ _ _ _ HF _).mono ?_
    rintro e w2 ⟨rfl, hb2⟩
    go_wp2
    go_ret2
    exact ⟨rfl, (by repeat (first | exact brefl _ | refine balloc ?_ _ | refine bdrewN ?_ _ | refine bset ?_ (by dsimp only; omega) _ | refine bstep ?_ (by assumption)))⟩
end Go.Proofs.Ytdkdckfkhhbfnaa
