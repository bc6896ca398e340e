/-
  The walk of the law's own 'does'.
-/
import Derived.Test.YtklnlhphgiipjaaVd
import Derived.Test.YtklnlhphgiipjaaMsv
namespace Go.Proofs.Ytklnlhphgiipjaa
open Go.RowKit

theorem does_is (b : Nat) (lo hi : Int) (k : Bool) (a m p kd t x y : Int) (z : Bool) (lo' hi' : Int) (k' : Bool) (a' m' : Int) (r : Bool) (hm0 : 0 ≤ m) (hm1 : m ≤ 1000000) (H : Hid (sDo ⟨lo, hi, k⟩ a m p kd t ⟨x, y, z⟩ = (⟨lo', hi', k'⟩, a', m', r))) (w : World) (h : SrvAt w b lo hi k a m p) :
    Calls Try.prog 20 #[.pointer (some ⟨b, 0, none⟩), .agg #[.int .i64 kd, .int .i64 t, .int .i64 x, .int .i64 y, .bool z]] w fun e w' => e = .returned (.bool r) ∧ Only b w w' ∧ SrvAt w' b lo' hi' k' a' m' p := by
  have hx := H.out
  unfold sDo at hx
  have hlt := h.lt
  have HS := Lib.hid h
  clear h H
  by_cases h0 : kd = 0
  · rw [if_pos h0] at hx
    have HX := Lib.hid hx
    subst h0
    clear hx
    go_enter Try.func20, Try.ntmps20
    go_wp2_with fail
    refine (Observe_is b lo hi k a m p x y z t lo' hi' k' a' m' r hm0 hm1 HX _ (SrvAt.past _ HS.out)).mono ?_
    rintro e w1 ⟨rfl, on1, ho1⟩
    go_wp2
    go_ret
    exact ⟨rfl, (Only.of (balloc (brefl _) _) (Nat.le_of_lt hlt)).trans on1, ho1⟩
  rw [if_neg h0] at hx
  by_cases h1 : kd = 1
  · rw [if_pos h1] at hx
    subst h1
    have hx : (spNo, (0 : Int), (0 : Int), true) = ((⟨lo', hi', k'⟩ : Sp), a', m', r) := hx
    obtain ⟨hs, hx⟩ := Prod.mk.inj hx
    obtain ⟨h2, hx⟩ := Prod.mk.inj hx
    obtain ⟨h3, h4⟩ := Prod.mk.inj hx
    clear hx
    subst h2 h3 h4
    cases hs
    go_enter Try.func20, Try.ntmps20
    go_wp2_with fail
    refine (Reset_is b lo hi k a m p _ (SrvAt.past _ HS.out)).mono ?_
    rintro e w1 ⟨rfl, on1, ho1⟩
    go_wp2
    go_ret
    exact ⟨rfl, (Only.of (balloc (brefl _) _) (Nat.le_of_lt hlt)).trans on1, ho1⟩
  · rw [if_neg h1] at hx
    obtain ⟨hs, hx⟩ := Prod.mk.inj hx
    obtain ⟨h2, hx⟩ := Prod.mk.inj hx
    obtain ⟨h3, h4⟩ := Prod.mk.inj hx
    clear hx
    subst h2 h3 h4
    cases hs
    go_enter Try.func20, Try.ntmps20
    go_wp2
    go_ret
    exact ⟨rfl, Only.of (balloc (brefl _) _) (Nat.le_of_lt hlt), SrvAt.past _ HS.out⟩
end Go.Proofs.Ytklnlhphgiipjaa
