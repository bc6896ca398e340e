/-
  The walk of package span's Scale.
-/
import Derived.Test.YtldgcigdoncgdaaSh
namespace Go.Proofs.Ytldgcigdoncgdaa
open Go.RowKit

theorem CellF.keepB {B : Nat} {a b : World} (hb : Below B a b) {p : Addr} (hp : p.block < B) {v : Value} (h : CellF a p v) : CellF b p v := ⟨(hb.cell hp).trans h.1, (hb.frozen hp).trans h.2⟩
theorem bBB {w a b : World} {B : Nat} (h : Below w.heap.size w a) (k : Below B a b) (hB : w.heap.size ≤ B) : Below w.heap.size w b := h.trans (k.mono hB)

theorem scale_no {s : Sp} {ppb : Int} (h : spK s = false ∨ ppb < 0 ∨ 1000000000 < ppb) : spScale s ppb = spNo := by unfold spScale; rw [if_pos h]

set_option maxHeartbeats 8000000 in
theorem Scale_yes (lo hi ppb x y : Int) (k z : Bool) (hk : Hid (spK ⟨lo, hi, k⟩ = true)) (h1 : 0 ≤ ppb) (h2 : ppb ≤ 1000000000) (H : Hid (spScale ⟨lo, hi, k⟩ ppb = ⟨x, y, z⟩)) (w : World) :
    Calls Try.prog 36 #[.agg #[.int .i64 lo, .int .i64 hi, .bool k], .int .i64 ppb] w fun e w' => e = .returned (.agg #[.int .i64 x, .int .i64 y, .bool z]) ∧ Below w.heap.size w w' := by
  have hp := H.out
  unfold spScale at hp
  rw [if_neg (by rw [hk.out]; simp; omega)] at hp
  obtain ⟨⟨a1, b1, t1⟩, e1⟩ : ∃ s, scOut spNo lo (1000000000 - ppb) = s := ⟨_, rfl⟩
  obtain ⟨⟨a2, b2, t2⟩, e2⟩ : ∃ s, scOut ⟨a1, b1, t1⟩ lo (1000000000 + ppb) = s := ⟨_, rfl⟩
  obtain ⟨⟨a3, b3, t3⟩, e3⟩ : ∃ s, scOut ⟨a2, b2, t2⟩ hi (1000000000 - ppb) = s := ⟨_, rfl⟩
  obtain ⟨⟨a4, b4, t4⟩, e4⟩ : ∃ s, scOut ⟨a3, b3, t3⟩ hi (1000000000 + ppb) = s := ⟨_, rfl⟩
  obtain ⟨p1, f1⟩ : ∃ s, scGood true lo (1000000000 - ppb) = s := ⟨_, rfl⟩
  obtain ⟨p2, f2⟩ : ∃ s, scGood p1 lo (1000000000 + ppb) = s := ⟨_, rfl⟩
  obtain ⟨p3, f3⟩ : ∃ s, scGood p2 hi (1000000000 - ppb) = s := ⟨_, rfl⟩
  obtain ⟨p4, f4⟩ : ∃ s, scGood p3 hi (1000000000 + ppb) = s := ⟨_, rfl⟩
  simp only [e1, e2, e3, e4, f1, f2, f3, f4] at hp
  have E1 := Lib.hid e1
  have E2 := Lib.hid e2
  have E3 := Lib.hid e3
  have E4 := Lib.hid e4
  have F1 := Lib.hid f1
  have F2 := Lib.hid f2
  have F3 := Lib.hid f3
  have F4 := Lib.hid f4
  have HP := Lib.hid hp
  clear hp H e1 e2 e3 e4 f1 f2 f3 f4
  have hmf : ∀ (fn : Fn) (first cap : Array Value) (w : World), (Instr.makeFunc fn first cap).run Try.prog w = .ok (.func fn first cap) w := fun _ _ _ _ => rfl
  have i0 : ∀ w, (Instr.index 47 (.agg #[.int .i64 lo, .int .i64 hi]) (.int .i64 0)).run Try.prog w = .ok (.int .i64 lo) w := fun _ => by kernel_rfl
  have i1 : ∀ w, (Instr.index 47 (.agg #[.int .i64 lo, .int .i64 hi]) (.int .i64 1)).run Try.prog w = .ok (.int .i64 hi) w := fun _ => by kernel_rfl
  go_enter Try.func36, Try.ntmps36
  go_wp2_with fail
  refine (known1 _ _ _ _ hk _ _ (by go_simp) (by go_simp) (by go_simp)).mono ?_
  rintro e w1 ⟨rfl, hb1⟩
  have q1_1_0 : CellF w1 ⟨w.heap.size, 0, none⟩ (.int .i64 lo) := (by refine CellF.keep hb1 ?_; refine ⟨?_, ?_⟩ <;> go_simp)
  have c1_1_0 := q1_1_0.1
  have q1_1_1 : CellF w1 ⟨w.heap.size, 1, none⟩ (.int .i64 hi) := (by refine CellF.keep hb1 ?_; refine ⟨?_, ?_⟩ <;> go_simp)
  have c1_1_1 := q1_1_1.1
  have q1_1_2 : CellF w1 ⟨w.heap.size, 2, none⟩ (.bool k) := (by refine CellF.keep hb1 ?_; refine ⟨?_, ?_⟩ <;> go_simp)
  have c1_1_2 := q1_1_2.1
  have z1_1 : w.heap.size < w1.heap.size := ltc c1_1_0
  have q1_2_0 : CellF w1 ⟨w.heap.size + 1, 0, none⟩ (.int .i64 0) := (by refine CellF.keep hb1 ?_; refine ⟨?_, ?_⟩ <;> go_simp)
  have c1_2_0 := q1_2_0.1
  have g1_2_0 := q1_2_0.2
  have q1_2_1 : CellF w1 ⟨w.heap.size + 1, 1, none⟩ (.int .i64 0) := (by refine CellF.keep hb1 ?_; refine ⟨?_, ?_⟩ <;> go_simp)
  have c1_2_1 := q1_2_1.1
  have g1_2_1 := q1_2_1.2
  have q1_2_2 : CellF w1 ⟨w.heap.size + 1, 2, none⟩ (.bool false) := (by refine CellF.keep hb1 ?_; refine ⟨?_, ?_⟩ <;> go_simp)
  have c1_2_2 := q1_2_2.1
  have g1_2_2 := q1_2_2.2
  have z1_2 : w.heap.size + 1 < w1.heap.size := ltc c1_2_0
  have hb0' : Below w.heap.size w w1 := by refine bstep ?_ hb1; repeat (first | exact brefl _ | refine balloc ?_ _)
  have hs1 := hb0'.size
  go_wp2_with fail
  refine wp_loop_rounds 3 ?_
  rw [rounds_succ]
  go_wp2_with fail
  refine (Scale1_is w1.heap.size w1.heap.size (w1.heap.size + 1) _ _ _ _ _ _ _ _ _ _ _ (Nat.le_refl _) (Nat.lt_succ_self _) ⟨by go_simp, by go_simp⟩ ⟨by go_simp, by go_simp⟩ ⟨by go_simp, by go_simp⟩ ⟨by go_simp, by go_simp⟩ E1 F1).mono ?_
  rintro e w2 ⟨rfl, hb2, o20, o21, o22, o23⟩
  have r2_0 := CellF.keepB hb2 z1_2 (CellF.past _ (CellF.past _ (q1_2_0)))
  have r2_1 := CellF.keepB hb2 z1_2 (CellF.past _ (CellF.past _ (q1_2_1)))
  have r2_2 := CellF.keepB hb2 z1_2 (CellF.past _ (CellF.past _ (q1_2_2)))
  go_wp2_with fail
  refine (Scale1_is w1.heap.size w1.heap.size (w1.heap.size + 1) _ _ _ _ _ _ _ _ _ _ _ (Nat.le_refl _) (Nat.lt_succ_self _) o20 o21 o22 o23 E2 F2).mono ?_
  rintro e w3 ⟨rfl, hb3, o30, o31, o32, o33⟩
  have r3_0 := CellF.keepB hb3 z1_2 (r2_0)
  have r3_1 := CellF.keepB hb3 z1_2 (r2_1)
  have r3_2 := CellF.keepB hb3 z1_2 (r2_2)
  go_wp2_with fail
  rw [rounds_succ]
  go_wp2_with fail
  refine (Scale1_is w1.heap.size w1.heap.size (w1.heap.size + 1) _ _ _ _ _ _ _ _ _ _ _ (Nat.le_refl _) (Nat.lt_succ_self _) o30 o31 o32 o33 E3 F3).mono ?_
  rintro e w4 ⟨rfl, hb4, o40, o41, o42, o43⟩
  have r4_0 := CellF.keepB hb4 z1_2 (r3_0)
  have r4_1 := CellF.keepB hb4 z1_2 (r3_1)
  have r4_2 := CellF.keepB hb4 z1_2 (r3_2)
  go_wp2_with fail
  refine (Scale1_is w1.heap.size w1.heap.size (w1.heap.size + 1) _ _ _ _ _ _ _ _ _ _ _ (Nat.le_refl _) (Nat.lt_succ_self _) o40 o41 o42 o43 E4 F4).mono ?_
  rintro e w5 ⟨rfl, hb5, o50, o51, o52, o53⟩
  have r5_0 := CellF.keepB hb5 z1_2 (r4_0)
  have r5_1 := CellF.keepB hb5 z1_2 (r4_1)
  have r5_2 := CellF.keepB hb5 z1_2 (r4_2)
  have b5 : Below w.heap.size w w5 := by
    have k1 := balloc (balloc hb0' (.cells #[.int .i64 0, .int .i64 0, .bool false] 24)) (.cells #[.bool true] 4)
    exact bBB (bBB (bBB (bBB k1 hb2 hs1) hb3 hs1) hb4 hs1) hb5 hs1
  have co0 := o50.1
  have co1 := o51.1
  have co2 := o52.1
  have cg0 := o53.1
  have cr0 := r5_0.1
  have cr1 := r5_1.1
  have cr2 := r5_2.1
  have fr0 := r5_0.2
  have fr1 := r5_1.2
  have fr2 := r5_2.2
  have zo := ltc co0
  have zr := ltc cr0
  clear hb2 hb3 hb4 hb5 o20 o21 o22 o23 o30 o31 o32 o33 o40 o41 o42 o43 o50 o51 o52 o53
  cases p4 with
  | true =>
    have h := HP.out
    rw [if_pos rfl] at h
    cases h
    go_wp2_with fail
    rw [rounds_succ]
    go_wp2
    exact bodyPost_ret (v := .agg #[.int .i64 x, .int .i64 y, .bool z]) (by simp [results, Try.results36, go_sem, cr0, cr1, cr2]) rfl ⟨rfl, by repeat (first | exact b5 | refine bset ?_ (by dsimp only; omega) _)⟩
  | false =>
    have h := HP.out
    rw [if_neg (by decide)] at h
    cases h
    go_wp2_with fail
    rw [rounds_succ]
    go_wp2
    exact bodyPost_ret (v := .agg #[.int .i64 0, .int .i64 0, .bool false]) (by simp [results, Try.results36, go_sem, cr0, cr1, cr2]) rfl ⟨rfl, by repeat (first | exact b5 | refine bset ?_ (by dsimp only; omega) _)⟩

theorem Scale_is (lo hi ppb x y : Int) (k z : Bool) (H : Hid (spScale ⟨lo, hi, k⟩ ppb = ⟨x, y, z⟩)) (w : World) :
    Calls Try.prog 36 #[.agg #[.int .i64 lo, .int .i64 hi, .bool k], .int .i64 ppb] w fun e w' => e = .returned (.agg #[.int .i64 x, .int .i64 y, .bool z]) ∧ Below w.heap.size w w' := by
  cases hk : spK ⟨lo, hi, k⟩ with
  | false =>
    have h := (scale_no (.inl hk)).symm.trans H.out
    cases h
    have HK := Lib.hid hk
    clear H hk
    go_enter Try.func36, Try.ntmps36
    go_wp2_with fail
    refine (known1 _ _ _ _ HK _ _ (by go_simp) (by go_simp) (by go_simp)).mono ?_
    rintro e w1 ⟨rfl, hb1⟩
    have q1_1_0 : CellF w1 ⟨w.heap.size + 1, 0, none⟩ (.int .i64 0) := (by refine CellF.keep hb1 ?_; refine ⟨?_, ?_⟩ <;> go_simp)
    have c1_1_0 := q1_1_0.1
    have g1_1_0 := q1_1_0.2
    have q1_1_1 : CellF w1 ⟨w.heap.size + 1, 1, none⟩ (.int .i64 0) := (by refine CellF.keep hb1 ?_; refine ⟨?_, ?_⟩ <;> go_simp)
    have c1_1_1 := q1_1_1.1
    have g1_1_1 := q1_1_1.2
    have q1_1_2 : CellF w1 ⟨w.heap.size + 1, 2, none⟩ (.bool false) := (by refine CellF.keep hb1 ?_; refine ⟨?_, ?_⟩ <;> go_simp)
    have c1_1_2 := q1_1_2.1
    have g1_1_2 := q1_1_2.2
    have z1_1 : w.heap.size + 1 < w1.heap.size := ltc c1_1_0
    go_wp2
    exact bodyPost_ret (v := .agg #[.int .i64 0, .int .i64 0, .bool false]) (by simp [results, Try.results36, go_sem, c1_1_0, c1_1_1, c1_1_2]) rfl ⟨rfl, (by repeat (first | exact brefl _ | refine balloc ?_ _ | refine bdrewN ?_ _ | refine bset ?_ (by dsimp only; omega) _ | refine bstep ?_ (by assumption)))⟩
  | true =>
    have HK := Lib.hid hk
    by_cases h1 : ppb < 0
    · have h := (scale_no (.inr (.inl h1))).symm.trans H.out
      cases h
      clear H hk
      go_enter Try.func36, Try.ntmps36
      go_wp2_with fail
      refine (known1 _ _ _ _ HK _ _ (by go_simp) (by go_simp) (by go_simp)).mono ?_
      rintro e w1 ⟨rfl, hb1⟩
      have q1_1_0 : CellF w1 ⟨w.heap.size + 1, 0, none⟩ (.int .i64 0) := (by refine CellF.keep hb1 ?_; refine ⟨?_, ?_⟩ <;> go_simp)
      have c1_1_0 := q1_1_0.1
      have g1_1_0 := q1_1_0.2
      have q1_1_1 : CellF w1 ⟨w.heap.size + 1, 1, none⟩ (.int .i64 0) := (by refine CellF.keep hb1 ?_; refine ⟨?_, ?_⟩ <;> go_simp)
      have c1_1_1 := q1_1_1.1
      have g1_1_1 := q1_1_1.2
      have q1_1_2 : CellF w1 ⟨w.heap.size + 1, 2, none⟩ (.bool false) := (by refine CellF.keep hb1 ?_; refine ⟨?_, ?_⟩ <;> go_simp)
      have c1_1_2 := q1_1_2.1
      have g1_1_2 := q1_1_2.2
      have z1_1 : w.heap.size + 1 < w1.heap.size := ltc c1_1_0
      go_wp2
      exact bodyPost_ret (v := .agg #[.int .i64 0, .int .i64 0, .bool false]) (by simp [results, Try.results36, go_sem, c1_1_0, c1_1_1, c1_1_2]) rfl ⟨rfl, (by repeat (first | exact brefl _ | refine balloc ?_ _ | refine bdrewN ?_ _ | refine bset ?_ (by dsimp only; omega) _ | refine bstep ?_ (by assumption)))⟩
    · by_cases h2 : 1000000000 < ppb
      · have h := (scale_no (.inr (.inr h2))).symm.trans H.out
        cases h
        clear H hk
        have d1 : decide (ppb < 0) = false := decide_eq_false h1
        go_enter Try.func36, Try.ntmps36
        go_wp2_with fail
        refine (known1 _ _ _ _ HK _ _ (by go_simp) (by go_simp) (by go_simp)).mono ?_
        rintro e w1 ⟨rfl, hb1⟩
        have q1_1_0 : CellF w1 ⟨w.heap.size + 1, 0, none⟩ (.int .i64 0) := (by refine CellF.keep hb1 ?_; refine ⟨?_, ?_⟩ <;> go_simp)
        have c1_1_0 := q1_1_0.1
        have g1_1_0 := q1_1_0.2
        have q1_1_1 : CellF w1 ⟨w.heap.size + 1, 1, none⟩ (.int .i64 0) := (by refine CellF.keep hb1 ?_; refine ⟨?_, ?_⟩ <;> go_simp)
        have c1_1_1 := q1_1_1.1
        have g1_1_1 := q1_1_1.2
        have q1_1_2 : CellF w1 ⟨w.heap.size + 1, 2, none⟩ (.bool false) := (by refine CellF.keep hb1 ?_; refine ⟨?_, ?_⟩ <;> go_simp)
        have c1_1_2 := q1_1_2.1
        have g1_1_2 := q1_1_2.2
        have z1_1 : w.heap.size + 1 < w1.heap.size := ltc c1_1_0
        go_wp2
        exact bodyPost_ret (v := .agg #[.int .i64 0, .int .i64 0, .bool false]) (by simp [results, Try.results36, go_sem, c1_1_0, c1_1_1, c1_1_2]) rfl ⟨rfl, (by repeat (first | exact brefl _ | refine balloc ?_ _ | refine bdrewN ?_ _ | refine bset ?_ (by dsimp only; omega) _ | refine bstep ?_ (by assumption)))⟩
      · exact Scale_yes lo hi ppb x y k z HK (by omega) (by omega) H w
end Go.Proofs.Ytldgcigdoncgdaa
