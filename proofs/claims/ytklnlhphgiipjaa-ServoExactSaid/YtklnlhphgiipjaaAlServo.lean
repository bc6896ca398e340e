/-
  alive, of layer 14: so the program's servos do what the law asks.
-/
import Derived.Test.YtklnlhphgiipjaaVd
import Derived.Deep.RegionHeld3
namespace Go.Proofs.Ytklnlhphgiipjaa
open Go.RowKit

deriving instance DecidableEq for Sp
theorem sv_1 : sObs ⟨0, 0, false⟩ 0 0 1000 ⟨0, 10, true⟩ 0 = (⟨0, 10, true⟩, 0, 1, true) := by decide +kernel
theorem sv_2 : sRead ⟨0, 10, true⟩ 0 1000 1000000000 = ⟨-1000, 1010, true⟩ := by decide +kernel
theorem sv_3 : sObs ⟨0, 10, true⟩ 0 1 1000 ⟨1005, 2000, true⟩ 1000000000 = (⟨1005, 1010, true⟩, 1000000000, 2, true) := by decide +kernel
theorem sv_4 : sRead ⟨1005, 1010, true⟩ 1000000000 1000 1000000000 = ⟨1005, 1010, true⟩ := by decide +kernel
theorem sv_5 : sMaster ⟨1005, 1010, true⟩ 1000000000 1000 1000000000 = ⟨1000001005, 1000001010, true⟩ := by decide +kernel
theorem so_1 : spOf 0 10 = ⟨0, 10, true⟩ := by decide +kernel
theorem so_2 : spOf 1005 2000 = ⟨1005, 2000, true⟩ := by decide +kernel
theorem so_3 : spOf (-1000) 1010 = ⟨-1000, 1010, true⟩ := by decide +kernel
theorem so_4 : spOf 1005 1010 = ⟨1005, 1010, true⟩ := by decide +kernel
theorem so_5 : spOf 1000001005 1000001010 = ⟨1000001005, 1000001010, true⟩ := by decide +kernel
theorem SrvAt.drew {u : World} {b : Nat} {lo hi : Int} {k : Bool} {a m p : Int} (h : SrvAt u b lo hi k a m p) : SrvAt u.drew b lo hi k a m p := h

set_option maxRecDepth 100000 in
set_option maxHeartbeats 4000000 in
theorem alive_is (w : World) : Calls Try.prog 10 #[] w fun e w' => e = .returned (.bool true) ∧ Below w.heap.size w w' := by
  have V1 := Lib.hid sv_1
  have V2 := Lib.hid sv_2
  have V3 := Lib.hid sv_3
  have V4 := Lib.hid sv_4
  have V5 := Lib.hid sv_5
  have O1 := Lib.hid so_1
  have O2 := Lib.hid so_2
  have O3 := Lib.hid so_3
  have O4 := Lib.hid so_4
  have O5 := Lib.hid so_5
  go_enter Try.func10, Try.ntmps10
  go_wp2_with fail
  refine (SNew_yes 1000 (by decide) (by decide) _).mono ?_
  rintro e w1 ⟨b, rfl, hb1, hwb, ho1⟩
  go_wp2_with fail
  refine (Of_is _ _ _ _ _ O1 _).mono ?_
  rintro e w2 ⟨rfl, hb2⟩
  have ho2 := ho1.keep hb2
  go_wp2_with fail
  refine (Observe_is b _ _ _ _ _ _ _ _ _ _ _ _ _ _ _ _ (by decide) (by decide) V1 _ ho2).mono ?_
  rintro e w3 ⟨rfl, on3, ho3⟩
  go_wp2_with fail
  refine (Read_is b _ _ _ _ _ _ _ _ _ _ V2 _ ho3).mono ?_
  rintro e w4 ⟨rfl, hb4⟩
  have ho4 := ho3.keep hb4
  go_wp2_with fail
  refine (Of_is _ _ _ _ _ O2 _).mono ?_
  rintro e w5 ⟨rfl, hb5⟩
  have r5_0 : CellF w5 ⟨w4.heap.size, 0, none⟩ (.int .i64 (-1000)) := CellF.keep hb5 (CellF.at_ rfl rfl)
  have r5_1 : CellF w5 ⟨w4.heap.size, 1, none⟩ (.int .i64 1010) := CellF.keep hb5 (CellF.at_ rfl rfl)
  have r5_2 : CellF w5 ⟨w4.heap.size, 2, none⟩ (.bool true) := CellF.keep hb5 (CellF.at_ rfl rfl)
  have ho5 : SrvAt w5 b 0 10 true 0 1 1000 := (ho4.past _).keep hb5
  have hne : w4.heap.size ≠ b := Nat.ne_of_gt ho4.lt
  go_wp2_with fail
  refine (Observe_is b _ _ _ _ _ _ _ _ _ _ _ _ _ _ _ _ (by decide) (by decide) V3 _ ho5).mono ?_
  rintro e w6 ⟨rfl, on6, ho6⟩
  have r6_0 := on6.2 _ _ hne r5_0
  have r6_1 := on6.2 _ _ hne r5_1
  have r6_2 := on6.2 _ _ hne r5_2
  have c0 := r6_0.1
  have c1 := r6_1.1
  have c2 := r6_2.1
  have z4 : w4.heap.size < w6.heap.size := ltc c0
  have hw5 : Below w.heap.size w w5 := (((hb1.trans (hb2.mono hb1.size)).trans (on3.1.mono hwb)).trans (hb4.mono (by have := hb1.size; have := hb2.size; have := on3.1.size; omega))).trans ((balloc (brefl _) _ |>.trans (hb5.mono (by simp))).mono (by have := hb1.size; have := hb2.size; have := on3.1.size; have := hb4.size; omega))
  have hw6 : Below w.heap.size w w6 := hw5.trans (on6.1.mono hwb)
  have HW := Lib.hid hw6
  clear hw5 hw6
  go_wp2_with fail
  go_region_held3 (fun w' => w'.cell? ⟨w4.heap.size, 0, none⟩ = some (.int .i64 (-1000)) ∧ w'.cell? ⟨w4.heap.size, 1, none⟩ = some (.int .i64 1010) ∧ w'.cell? ⟨w4.heap.size, 2, none⟩ = some (.bool true))
    (go_keep)
    (first | (go_at_call 18; ((with_reducible refine (Of_is _ _ _ _ _ O3 _).mono ?_)); rintro e w7 ⟨rfl, hb7⟩; have ho7 := SrvAt.keep hb7 (SrvAt.drew ho6); have r7_0 := CellF.keep hb7 (CellF.drew r6_0); have r7_1 := CellF.keep hb7 (CellF.drew r6_1); have r7_2 := CellF.keep hb7 (CellF.drew r6_2); have d7_0 := r7_0.1; have d7_1 := r7_1.1; have d7_2 := r7_2.1) | (go_at_call 13; ((with_reducible refine (Read_is b _ _ _ _ _ _ _ _ _ _ V4 w7 ho7).mono ?_)); rintro e w8 ⟨rfl, hb8⟩; have ho8 := SrvAt.keep hb8 ho7; have r8_0 := CellF.keep hb8 r7_0; have r8_1 := CellF.keep hb8 r7_1; have r8_2 := CellF.keep hb8 r7_2; have d8_0 := r8_0.1; have d8_1 := r8_1.1; have d8_2 := r8_2.1) | (go_at_call 18; ((with_reducible refine (Of_is _ _ _ _ _ O4 _).mono ?_)); rintro e w9 ⟨rfl, hb9⟩; have ho9 := SrvAt.keep hb9 ho8; have r9_0 := CellF.keep hb9 r8_0; have r9_1 := CellF.keep hb9 r8_1; have r9_2 := CellF.keep hb9 r8_2; have d9_0 := r9_0.1; have d9_1 := r9_1.1; have d9_2 := r9_2.1) | (go_at_call 22; ((with_reducible refine (Count_is b _ _ _ _ _ _ w9 ho9).mono ?_)); rintro e w10 ⟨rfl, hb10⟩; have ho10 := SrvAt.keep hb10 ho9; have r10_0 := CellF.keep hb10 r9_0; have r10_1 := CellF.keep hb10 r9_1; have r10_2 := CellF.keep hb10 r9_2; have d10_0 := r10_0.1; have d10_1 := r10_1.1; have d10_2 := r10_2.1) | (go_at_call 14; ((with_reducible refine (Master_is b _ _ _ _ _ _ _ _ _ _ V5 w10 ho10).mono ?_)); rintro e w11 ⟨rfl, hb11⟩; have ho11 := SrvAt.keep hb11 ho10; have r11_0 := CellF.keep hb11 r10_0; have r11_1 := CellF.keep hb11 r10_1; have r11_2 := CellF.keep hb11 r10_2; have d11_0 := r11_0.1; have d11_1 := r11_1.1; have d11_2 := r11_2.1) | (go_at_call 18; ((with_reducible refine (Of_is _ _ _ _ _ O5 _).mono ?_)); rintro e w12 ⟨rfl, hb12⟩; have ho12 := SrvAt.keep hb12 ho11; have r12_0 := CellF.keep hb12 r11_0; have r12_1 := CellF.keep hb12 r11_1; have r12_2 := CellF.keep hb12 r11_2; have d12_0 := r12_0.1; have d12_1 := r12_1.1; have d12_2 := r12_2.1))
  have hw6 := HW.out
  all_goals (go_wp2; go_ret; exact ⟨rfl, by repeat (first | with_reducible exact hw6 | refine bdrew ?_ | refine bstep ?_ (by assumption))⟩)
end Go.Proofs.Ytklnlhphgiipjaa
