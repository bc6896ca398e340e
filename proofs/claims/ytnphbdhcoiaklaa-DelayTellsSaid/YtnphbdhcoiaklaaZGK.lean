/-
  Plain stamps: what package stamp's functions make.
  The walks of package stamp's small functions: Right, Less, Of, Nanos, Scaled, Down, Up.
  Plain delays: what a message tells.
  The walks of package delay's Right, alone, correction, wider.
  The walks of package delay's wider's function.
  The walks of package delay's Sync.
  The walks of package delay's Req.
  The walks of package delay's Mean.
  The walks of package delay's Both.
  alive, of layer 13: so the program's delays do what the law asks.
-/
import Derived.Test.YtnphbdhcoiaklaaZGA
import Derived.Test.YtnphbdhcoiaklaaZGB
import Derived.BigQuiet
import Derived.Deep.QuietTactic
import Derived.Deep.Cut
import Derived.Deep.CutRange
import Derived.Deep.DeepCutAuto
namespace Go.Proofs.Ytnphbdhcoiaklaa
open Go.RowKit

theorem iand16 (a : Int) : bits .and .i64 a 65535 = a % 65536 := by
  have h1 : (BitVec.ofInt 64 65535).toNat = 65535 := by decide
  have h2 : (BitVec.ofInt 64 a).toNat = (a % 18446744073709551616).toNat := by
    rw [BitVec.toNat_ofInt]; rfl
  show IntKind.i64.wrap (((BitVec.ofInt 64 a &&& BitVec.ofInt 64 65535).toNat : Nat) : Int) = _
  rw [BitVec.toNat_and, h1, h2, nat_mask16, IntKind.wrap_i64]
  omega

def stDown (n : Int) : Int := n / 65536
def stUp (n : Int) : Int := if n % 65536 = 0 then n / 65536 else n / 65536 + 1
end Go.Proofs.Ytnphbdhcoiaklaa
namespace Go.Proofs.Ytnphbdhcoiaklaa
open Go.RowKit

theorem Down_is (n x : Int) (hn : I64 n) (H : Hid (stDown n = x)) (w : World) : Calls Try.prog 115 #[.int .i64 n] w fun e w' => e = .returned (.int .i64 x) ∧ Below w.heap.size w w' := by
  obtain rfl : n / 65536 = x := H.out
  obtain ⟨h1, h2⟩ := hn
  clear H
  go_enter Try.func115, Try.ntmps115
  go_wp2
  go_ret
  exact ⟨rfl, (by repeat (first | exact brefl _ | refine balloc ?_ _ | refine bdrewN ?_ _ | refine bset ?_ (by dsimp only; omega) _ | refine bstep ?_ (by assumption)))⟩

theorem Up_is (n x : Int) (hn : I64 n) (H : Hid (stUp n = x)) (w : World) : Calls Try.prog 116 #[.int .i64 n] w fun e w' => e = .returned (.int .i64 x) ∧ Below w.heap.size w w' := by
  have hx := H.out
  unfold stUp at hx
  obtain ⟨h1, h2⟩ := hn
  have ha := iand16 n
  clear H
  by_cases hz : n % 65536 = 0
  · rw [if_pos hz] at hx
    subst hx
    have hb : (bits .and .i64 n 65535 != 0) = false := by rw [ha, hz]; rfl
    clear ha hz
    go_enter Try.func116, Try.ntmps116
    go_wp2
    go_ret
    exact ⟨rfl, (by repeat (first | exact brefl _ | refine balloc ?_ _ | refine bdrewN ?_ _ | refine bset ?_ (by dsimp only; omega) _ | refine bstep ?_ (by assumption)))⟩
  · rw [if_neg hz] at hx
    subst hx
    have hb : (bits .and .i64 n 65535 != 0) = true := by rw [ha]; simpa using hz
    clear ha hz
    go_enter Try.func116, Try.ntmps116
    go_wp2
    go_ret
    exact ⟨rfl, (by repeat (first | exact brefl _ | refine balloc ?_ _ | refine bdrewN ?_ _ | refine bset ?_ (by dsimp only; omega) _ | refine bstep ?_ (by assumption)))⟩

end Go.Proofs.Ytnphbdhcoiaklaa
namespace Go.Proofs.Ytnphbdhcoiaklaa
open Go.RowKit

def pRight (mn mx g : Int) : Bool := (((decide (0 ≤ mn) && decide (mn ≤ mx)) && decide (mx ≤ 10000000000)) && decide (0 ≤ g)) && decide (g ≤ 1000000000)
def dCorr (c : Int) : Sp := spOf (stDown c) (stUp c)
def dWider (mn mx g t : Int) (s : Sp) : Sp := if pRight mn mx g = true then spWider s (t * g) (t * g) else spNo
def dSync (mn mx g t1 c t2 : Int) : Sp := spSub (spShift (dWider mn mx g 2 (spAdd (dCorr c) (spOf mn mx))) t1) (spOf t2 t2)
def dReq (mn mx g t3 c t4 : Int) : Sp := spSub (dWider mn mx g 2 (spSub (spSub (spOf t4 t4) (dCorr c)) (spOf mn mx))) (spOf t3 t3)
def dBoth (mn mx g x0 x1 x2 x3 c0 c1 : Int) : Sp := spMeet (dSync mn mx g x0 c0 x1) (dReq mn mx g x2 c1 x3)
def dTwo (mn mx g x0 x1 x2 x3 c0 c1 : Int) : Sp := dWider mn mx g 4 (spAdd (spSub (spSub (spOf x1 x1) (spOf x0 x0)) (dCorr c0)) (spSub (spSub (spOf x3 x3) (spOf x2 x2)) (dCorr c1)))
def dMean (mn mx g x0 x1 x2 x3 c0 c1 : Int) : Sp :=
  if (dTwo mn mx g x0 x1 x2 x3 c0 c1).kn = true then spOf (floorP (dTwo mn mx g x0 x1 x2 x3 c0 c1).lo 1 2).1 (ceilP (dTwo mn mx g x0 x1 x2 x3 c0 c1).hi 1 2).1 else spNo

theorem pRight_iff {mn mx g : Int} : pRight mn mx g = true ↔ 0 ≤ mn ∧ mn ≤ mx ∧ mx ≤ 10000000000 ∧ 0 ≤ g ∧ g ≤ 1000000000 := by
  unfold pRight; simp only [Bool.and_eq_true, decide_eq_true_eq]; omega

end Go.Proofs.Ytnphbdhcoiaklaa
namespace Go.Proofs.Ytnphbdhcoiaklaa
open Go.RowKit

theorem PRight_is (mn mx g : Int) (p : Bool) (H : Hid (pRight mn mx g = p)) (w : World) :
    Calls Try.prog 74 #[.agg #[.int .i64 mn, .int .i64 mx, .int .i64 g]] w fun e w' => e = .returned (.bool p) ∧ Below w.heap.size w w' := by
  have hp := H.out
  clear H
  unfold pRight at hp
  by_cases h1 : 0 ≤ mn
  · rw [decide_eq_true h1] at hp
    by_cases h2 : mn ≤ mx
    · rw [decide_eq_true h2] at hp
      by_cases h3 : mx ≤ 10000000000
      · rw [decide_eq_true h3] at hp
        by_cases h4 : 0 ≤ g
        · rw [decide_eq_true h4] at hp
          by_cases h5 : g ≤ 1000000000
          · rw [decide_eq_true h5] at hp
            cases hp
            go_enter Try.func74, Try.ntmps74
            go_wp2
            go_ret
            exact ⟨rfl, (by repeat (first | exact brefl _ | refine balloc ?_ _ | refine bdrewN ?_ _ | refine bset ?_ (by dsimp only; omega) _ | refine bstep ?_ (by assumption)))⟩
          · rw [decide_eq_false h5] at hp
            cases hp
            go_enter Try.func74, Try.ntmps74
            go_wp2
            go_ret
            exact ⟨rfl, (by repeat (first | exact brefl _ | refine balloc ?_ _ | refine bdrewN ?_ _ | refine bset ?_ (by dsimp only; omega) _ | refine bstep ?_ (by assumption)))⟩
        · rw [decide_eq_false h4] at hp
          cases hp
          go_enter Try.func74, Try.ntmps74
          go_wp2
          go_ret
          exact ⟨rfl, (by repeat (first | exact brefl _ | refine balloc ?_ _ | refine bdrewN ?_ _ | refine bset ?_ (by dsimp only; omega) _ | refine bstep ?_ (by assumption)))⟩
      · rw [decide_eq_false h3] at hp
        cases hp
        go_enter Try.func74, Try.ntmps74
        go_wp2
        go_ret
        exact ⟨rfl, (by repeat (first | exact brefl _ | refine balloc ?_ _ | refine bdrewN ?_ _ | refine bset ?_ (by dsimp only; omega) _ | refine bstep ?_ (by assumption)))⟩
    · rw [decide_eq_false h2] at hp
      cases hp
      go_enter Try.func74, Try.ntmps74
      go_wp2
      go_ret
      exact ⟨rfl, (by repeat (first | exact brefl _ | refine balloc ?_ _ | refine bdrewN ?_ _ | refine bset ?_ (by dsimp only; omega) _ | refine bstep ?_ (by assumption)))⟩
  · rw [decide_eq_false h1] at hp
    cases hp
    go_enter Try.func74, Try.ntmps74
    go_wp2
    go_ret
    exact ⟨rfl, (by repeat (first | exact brefl _ | refine balloc ?_ _ | refine bdrewN ?_ _ | refine bset ?_ (by dsimp only; omega) _ | refine bstep ?_ (by assumption)))⟩

theorem alone_is (n x y : Int) (z : Bool) (H : Hid (spOf n n = ⟨x, y, z⟩)) (w : World) :
    Calls Try.prog 103 #[.int .i64 n] w fun e w' => e = .returned (.agg #[.int .i64 x, .int .i64 y, .bool z]) ∧ Below w.heap.size w w' := by
  go_enter Try.func103, Try.ntmps103
  go_wp2_with fail
  refine (Of_is _ _ _ _ _ H _).mono ?_
  rintro e w1 ⟨rfl, hb1⟩
  have q1_1_0 : CellF w1 ⟨w.heap.size, 0, none⟩ (.int .i64 0) := (by refine CellF.keep hb1 ?_; refine ⟨?_, ?_⟩ <;> go_simp)
  have c1_1_0 := q1_1_0.1
  have g1_1_0 := q1_1_0.2
  have q1_1_1 : CellF w1 ⟨w.heap.size, 1, none⟩ (.int .i64 0) := (by refine CellF.keep hb1 ?_; refine ⟨?_, ?_⟩ <;> go_simp)
  have c1_1_1 := q1_1_1.1
  have g1_1_1 := q1_1_1.2
  have q1_1_2 : CellF w1 ⟨w.heap.size, 2, none⟩ (.bool false) := (by refine CellF.keep hb1 ?_; refine ⟨?_, ?_⟩ <;> go_simp)
  have c1_1_2 := q1_1_2.1
  have g1_1_2 := q1_1_2.2
  have z1_1 : w.heap.size < w1.heap.size := ltc c1_1_0
  go_wp2
  exact bodyPost_ret (v := .agg #[.int .i64 x, .int .i64 y, .bool z]) (by simp [results, Try.results103, go_sem, c1_1_0, c1_1_1, c1_1_2]) rfl ⟨rfl, (by repeat (first | exact brefl _ | refine balloc ?_ _ | refine bdrewN ?_ _ | refine bset ?_ (by dsimp only; omega) _ | refine bstep ?_ (by assumption)))⟩

theorem correction_is (c : Int) (hc : I64 c) (x y : Int) (z : Bool) (H : Hid (dCorr c = ⟨x, y, z⟩)) (w : World) :
    Calls Try.prog 101 #[.int .i64 c] w fun e w' => e = .returned (.agg #[.int .i64 x, .int .i64 y, .bool z]) ∧ Below w.heap.size w w' := by
  obtain ⟨d, hd⟩ : ∃ d, stDown c = d := ⟨_, rfl⟩
  obtain ⟨u, hu⟩ : ∃ u, stUp c = u := ⟨_, rfl⟩
  have HO : Hid (spOf d u = ⟨x, y, z⟩) := Lib.hid (by rw [← hd, ← hu]; exact H.out)
  have HD := Lib.hid hd
  have HU := Lib.hid hu
  clear hd hu H
  go_enter Try.func101, Try.ntmps101
  go_wp2_with fail
  refine (Down_is _ _ hc HD _).mono ?_
  rintro e w1 ⟨rfl, hb1⟩
  have q1_1_0 : CellF w1 ⟨w.heap.size, 0, none⟩ (.int .i64 0) := (by refine CellF.keep hb1 ?_; refine ⟨?_, ?_⟩ <;> go_simp)
  have c1_1_0 := q1_1_0.1
  have g1_1_0 := q1_1_0.2
  have q1_1_1 : CellF w1 ⟨w.heap.size, 1, none⟩ (.int .i64 0) := (by refine CellF.keep hb1 ?_; refine ⟨?_, ?_⟩ <;> go_simp)
  have c1_1_1 := q1_1_1.1
  have g1_1_1 := q1_1_1.2
  have q1_1_2 : CellF w1 ⟨w.heap.size, 2, none⟩ (.bool false) := (by refine CellF.keep hb1 ?_; refine ⟨?_, ?_⟩ <;> go_simp)
  have c1_1_2 := q1_1_2.1
  have g1_1_2 := q1_1_2.2
  have z1_1 : w.heap.size < w1.heap.size := ltc c1_1_0
  go_wp2_with fail
  refine (Up_is _ _ hc HU _).mono ?_
  rintro e w2 ⟨rfl, hb2⟩
  have q2_2_0 : CellF w2 ⟨w.heap.size, 0, none⟩ (.int .i64 0) := (by first | exact q1_1_0.keep hb2 | exact (q1_1_0.past _).keep hb2)
  have c2_2_0 := q2_2_0.1
  have g2_2_0 := q2_2_0.2
  have q2_2_1 : CellF w2 ⟨w.heap.size, 1, none⟩ (.int .i64 0) := (by first | exact q1_1_1.keep hb2 | exact (q1_1_1.past _).keep hb2)
  have c2_2_1 := q2_2_1.1
  have g2_2_1 := q2_2_1.2
  have q2_2_2 : CellF w2 ⟨w.heap.size, 2, none⟩ (.bool false) := (by first | exact q1_1_2.keep hb2 | exact (q1_1_2.past _).keep hb2)
  have c2_2_2 := q2_2_2.1
  have g2_2_2 := q2_2_2.2
  have z2_2 : w.heap.size < w2.heap.size := ltc c2_2_0
  go_wp2_with fail
  refine (Of_is _ _ _ _ _ HO _).mono ?_
  rintro e w3 ⟨rfl, hb3⟩
  have q3_3_0 : CellF w3 ⟨w.heap.size, 0, none⟩ (.int .i64 0) := (by first | exact q2_2_0.keep hb3 | exact (q2_2_0.past _).keep hb3)
  have c3_3_0 := q3_3_0.1
  have g3_3_0 := q3_3_0.2
  have q3_3_1 : CellF w3 ⟨w.heap.size, 1, none⟩ (.int .i64 0) := (by first | exact q2_2_1.keep hb3 | exact (q2_2_1.past _).keep hb3)
  have c3_3_1 := q3_3_1.1
  have g3_3_1 := q3_3_1.2
  have q3_3_2 : CellF w3 ⟨w.heap.size, 2, none⟩ (.bool false) := (by first | exact q2_2_2.keep hb3 | exact (q2_2_2.past _).keep hb3)
  have c3_3_2 := q3_3_2.1
  have g3_3_2 := q3_3_2.2
  have z3_3 : w.heap.size < w3.heap.size := ltc c3_3_0
  go_wp2
  exact bodyPost_ret (v := .agg #[.int .i64 x, .int .i64 y, .bool z]) (by simp [results, Try.results101, go_sem, c3_3_0, c3_3_1, c3_3_2]) rfl ⟨rfl, (by repeat (first | exact brefl _ | refine balloc ?_ _ | refine bdrewN ?_ _ | refine bset ?_ (by dsimp only; omega) _ | refine bstep ?_ (by assumption)))⟩

/-- What makes spans wider, a value: its path and its number lie in boxes. -/
def IsWider (w : World) (v : Value) (mn mx g t : Int) : Prop := ∃ bp bt, v = .func (.func 117) #[] #[.pointer (some ⟨bp, 0, none⟩), .pointer (some ⟨bt, 0, none⟩)] ∧
  CellF w ⟨bp, 0, none⟩ (.int .i64 mn) ∧ CellF w ⟨bp, 1, none⟩ (.int .i64 mx) ∧ CellF w ⟨bp, 2, none⟩ (.int .i64 g) ∧ CellF w ⟨bt, 0, none⟩ (.int .i64 t)
theorem IsWider.keep {a b : World} {v : Value} {mn mx g t : Int} (hb : Below a.heap.size a b) (h : IsWider a v mn mx g t) : IsWider b v mn mx g t := by
  obtain ⟨bp, bt, e, h1, h2, h3, h4⟩ := h
  exact ⟨bp, bt, e, h1.keep hb, h2.keep hb, h3.keep hb, h4.keep hb⟩

theorem wider_is (mn mx g t : Int) (w : World) :
    Calls Try.prog 102 #[.agg #[.int .i64 mn, .int .i64 mx, .int .i64 g], .int .i64 t] w fun e w' => ∃ v, e = .returned v ∧ Below w.heap.size w w' ∧ IsWider w' v mn mx g t := by
  go_enter Try.func102, Try.ntmps102
  go_wp2
  go_ret
  exact ⟨_, rfl, (by repeat (first | exact brefl _ | refine balloc ?_ _ | refine bdrewN ?_ _ | refine bset ?_ (by dsimp only; omega) _ | refine bstep ?_ (by assumption))), w.heap.size, w.heap.size + 1, rfl, by refine ⟨?_, ?_⟩ <;> go_simp, by refine ⟨?_, ?_⟩ <;> go_simp, by refine ⟨?_, ?_⟩ <;> go_simp, by refine ⟨?_, ?_⟩ <;> go_simp⟩
end Go.Proofs.Ytnphbdhcoiaklaa
namespace Go.Proofs.Ytnphbdhcoiaklaa
open Go.RowKit

theorem wider1_no (mn mx g t lo hi : Int) (k : Bool) (h : Hid (pRight mn mx g = false)) (bp bt : Nat) (w : World) (A : CellF w ⟨bp, 0, none⟩ (.int .i64 mn)) (B : CellF w ⟨bp, 1, none⟩ (.int .i64 mx)) (C : CellF w ⟨bp, 2, none⟩ (.int .i64 g)) (D : CellF w ⟨bt, 0, none⟩ (.int .i64 t)) :
    Calls Try.prog 117 #[.agg #[.int .i64 lo, .int .i64 hi, .bool k], .pointer (some ⟨bp, 0, none⟩), .pointer (some ⟨bt, 0, none⟩)] w fun e w' => e = .returned (.agg #[.int .i64 0, .int .i64 0, .bool false]) ∧ Below w.heap.size w w' := by
  have a0 := A.1
  have b0 := B.1
  have c0 := C.1
  have d0 := D.1
  have ha := ltc A.1
  have hb := ltc D.1
  clear A B C D
  go_enter Try.func117, Try.ntmps117
  go_wp2_with fail
  refine (PRight_is _ _ _ _ h _).mono ?_
  rintro e w1 ⟨rfl, hb1⟩
  have q1_1_0 : CellF w1 ⟨w.heap.size + 1, 0, none⟩ (.int .i64 0) := (by refine CellF.keep hb1 ?_; refine ⟨?_, ?_⟩ <;> go_simp)
  have c1_1_0 := q1_1_0.1
  have g1_1_0 := q1_1_0.2
  have q1_1_1 : CellF w1 ⟨w.heap.size + 1, 1, none⟩ (.int .i64 0) := (by refine CellF.keep hb1 ?_; refine ⟨?_, ?_⟩ <;> go_simp)
  have c1_1_1 := q1_1_1.1
  have g1_1_1 := q1_1_1.2
  have q1_1_2 : CellF w1 ⟨w.heap.size + 1, 2, none⟩ (.bool false) := (by refine CellF.keep hb1 ?_; refine ⟨?_, ?_⟩ <;> go_simp)
  have c1_1_2 := q1_1_2.1
  have g1_1_2 := q1_1_2.2
  have z1_1 : w.heap.size + 1 < w1.heap.size := ltc c1_1_0
  go_wp2_with fail
  refine (Unknown_is _).mono ?_
  rintro e w2 ⟨rfl, hb2⟩
  have q2_2_0 : CellF w2 ⟨w.heap.size + 1, 0, none⟩ (.int .i64 0) := (by first | exact q1_1_0.keep hb2 | exact (q1_1_0.past _).keep hb2)
  have c2_2_0 := q2_2_0.1
  have g2_2_0 := q2_2_0.2
  have q2_2_1 : CellF w2 ⟨w.heap.size + 1, 1, none⟩ (.int .i64 0) := (by first | exact q1_1_1.keep hb2 | exact (q1_1_1.past _).keep hb2)
  have c2_2_1 := q2_2_1.1
  have g2_2_1 := q2_2_1.2
  have q2_2_2 : CellF w2 ⟨w.heap.size + 1, 2, none⟩ (.bool false) := (by first | exact q1_1_2.keep hb2 | exact (q1_1_2.past _).keep hb2)
  have c2_2_2 := q2_2_2.1
  have g2_2_2 := q2_2_2.2
  have z2_2 : w.heap.size + 1 < w2.heap.size := ltc c2_2_0
  go_wp2
  exact bodyPost_ret (v := .agg #[.int .i64 0, .int .i64 0, .bool false]) (by simp [results, Try.results117, go_sem, c2_2_0, c2_2_1, c2_2_2]) rfl ⟨rfl, (by repeat (first | exact brefl _ | refine balloc ?_ _ | refine bdrewN ?_ _ | refine bset ?_ (by dsimp only; omega) _ | refine bstep ?_ (by assumption)))⟩

theorem wider1_yes (mn mx g t lo hi x y : Int) (k z : Bool) (h : Hid (pRight mn mx g = true)) (ht0 : 0 ≤ t) (ht : t ≤ 4) (H : Hid (spWider ⟨lo, hi, k⟩ (t * g) (t * g) = ⟨x, y, z⟩)) (bp bt : Nat) (w : World) (A : CellF w ⟨bp, 0, none⟩ (.int .i64 mn)) (B : CellF w ⟨bp, 1, none⟩ (.int .i64 mx)) (C : CellF w ⟨bp, 2, none⟩ (.int .i64 g)) (D : CellF w ⟨bt, 0, none⟩ (.int .i64 t)) :
    Calls Try.prog 117 #[.agg #[.int .i64 lo, .int .i64 hi, .bool k], .pointer (some ⟨bp, 0, none⟩), .pointer (some ⟨bt, 0, none⟩)] w fun e w' => e = .returned (.agg #[.int .i64 x, .int .i64 y, .bool z]) ∧ Below w.heap.size w w' := by
  have a0 := A.1
  have b0 := B.1
  have c0 := C.1
  have d0 := D.1
  have ha := ltc A.1
  have hb := ltc D.1
  have hr := pRight_iff.1 h.out
  have hm : 0 ≤ t * g ∧ t * g ≤ 4000000000 := by
    have h1 := Int.mul_nonneg ht0 hr.2.2.2.1
    have h2 : t * g ≤ 4 * 1000000000 := Int.mul_le_mul ht hr.2.2.2.2 hr.2.2.2.1 (by omega)
    omega
  clear hr
  have hmw : IntKind.i64.wrap (t * g) = t * g := by rw [IntKind.wrap_i64]; omega
  go_enter Try.func117, Try.ntmps117
  go_wp2_with fail
  refine (PRight_is _ _ _ _ h _).mono ?_
  rintro e w1 ⟨rfl, hb1⟩
  have q1_1_0 : CellF w1 ⟨w.heap.size + 1, 0, none⟩ (.int .i64 0) := (by refine CellF.keep hb1 ?_; refine ⟨?_, ?_⟩ <;> go_simp)
  have c1_1_0 := q1_1_0.1
  have g1_1_0 := q1_1_0.2
  have q1_1_1 : CellF w1 ⟨w.heap.size + 1, 1, none⟩ (.int .i64 0) := (by refine CellF.keep hb1 ?_; refine ⟨?_, ?_⟩ <;> go_simp)
  have c1_1_1 := q1_1_1.1
  have g1_1_1 := q1_1_1.2
  have q1_1_2 : CellF w1 ⟨w.heap.size + 1, 2, none⟩ (.bool false) := (by refine CellF.keep hb1 ?_; refine ⟨?_, ?_⟩ <;> go_simp)
  have c1_1_2 := q1_1_2.1
  have g1_1_2 := q1_1_2.2
  have z1_1 : w.heap.size + 1 < w1.heap.size := ltc c1_1_0
  have q1_2_0 : CellF w1 ⟨w.heap.size, 0, none⟩ (.int .i64 lo) := (by refine CellF.keep hb1 ?_; refine ⟨?_, ?_⟩ <;> go_simp)
  have c1_2_0 := q1_2_0.1
  have q1_2_1 : CellF w1 ⟨w.heap.size, 1, none⟩ (.int .i64 hi) := (by refine CellF.keep hb1 ?_; refine ⟨?_, ?_⟩ <;> go_simp)
  have c1_2_1 := q1_2_1.1
  have q1_2_2 : CellF w1 ⟨w.heap.size, 2, none⟩ (.bool k) := (by refine CellF.keep hb1 ?_; refine ⟨?_, ?_⟩ <;> go_simp)
  have c1_2_2 := q1_2_2.1
  have z1_2 : w.heap.size < w1.heap.size := ltc c1_2_0
  have f0 := (A.keep (a := w) (b := w) (Below.refl _ _)).1
  have g2 : w1.cell? ⟨bp, 2, none⟩ = some (.int .i64 g) := (CellF.keep hb1 (CellF.past _ (CellF.past _ C))).1
  have g3 : w1.cell? ⟨bt, 0, none⟩ = some (.int .i64 t) := (CellF.keep hb1 (CellF.past _ (CellF.past _ D))).1
  clear A B C D f0
  go_wp2_with fail
  refine (Wider_is _ _ _ _ _ _ _ _ H _).mono ?_
  rintro e w2 ⟨rfl, hb2⟩
  have q2_3_0 : CellF w2 ⟨w.heap.size + 1, 0, none⟩ (.int .i64 0) := (by first | exact q1_1_0.keep hb2 | exact (q1_1_0.past _).keep hb2)
  have c2_3_0 := q2_3_0.1
  have g2_3_0 := q2_3_0.2
  have q2_3_1 : CellF w2 ⟨w.heap.size + 1, 1, none⟩ (.int .i64 0) := (by first | exact q1_1_1.keep hb2 | exact (q1_1_1.past _).keep hb2)
  have c2_3_1 := q2_3_1.1
  have g2_3_1 := q2_3_1.2
  have q2_3_2 : CellF w2 ⟨w.heap.size + 1, 2, none⟩ (.bool false) := (by first | exact q1_1_2.keep hb2 | exact (q1_1_2.past _).keep hb2)
  have c2_3_2 := q2_3_2.1
  have g2_3_2 := q2_3_2.2
  have z2_3 : w.heap.size + 1 < w2.heap.size := ltc c2_3_0
  go_wp2
  exact bodyPost_ret (v := .agg #[.int .i64 x, .int .i64 y, .bool z]) (by simp [results, Try.results117, go_sem, c2_3_0, c2_3_1, c2_3_2]) rfl ⟨rfl, (by repeat (first | exact brefl _ | refine balloc ?_ _ | refine bdrewN ?_ _ | refine bset ?_ (by dsimp only; omega) _ | refine bstep ?_ (by assumption)))⟩

theorem wider1_is (mn mx g t lo hi x y : Int) (k z : Bool) (ht0 : 0 ≤ t) (ht : t ≤ 4) (H : Hid (dWider mn mx g t ⟨lo, hi, k⟩ = ⟨x, y, z⟩)) (bp bt : Nat) (w : World) (A : CellF w ⟨bp, 0, none⟩ (.int .i64 mn)) (B : CellF w ⟨bp, 1, none⟩ (.int .i64 mx)) (C : CellF w ⟨bp, 2, none⟩ (.int .i64 g)) (D : CellF w ⟨bt, 0, none⟩ (.int .i64 t)) :
    Calls Try.prog 117 #[.agg #[.int .i64 lo, .int .i64 hi, .bool k], .pointer (some ⟨bp, 0, none⟩), .pointer (some ⟨bt, 0, none⟩)] w fun e w' => e = .returned (.agg #[.int .i64 x, .int .i64 y, .bool z]) ∧ Below w.heap.size w w' := by
  have hx := H.out
  unfold dWider at hx
  cases hr : pRight mn mx g with
  | false =>
    rw [hr, if_neg (by decide)] at hx
    cases hx
    exact wider1_no mn mx g t lo hi k (Lib.hid hr) bp bt w A B C D
  | true =>
    rw [hr, if_pos rfl] at hx
    exact wider1_yes mn mx g t lo hi x y k z (Lib.hid hr) ht0 ht (Lib.hid hx) bp bt w A B C D
end Go.Proofs.Ytnphbdhcoiaklaa
namespace Go.Proofs.Ytnphbdhcoiaklaa
open Go.RowKit

set_option maxRecDepth 100000 in
set_option maxHeartbeats 4000000 in
theorem Sync_is (mn mx g t c u x1 x2 : Int) (x3 : Bool) (hc : I64 c) (H : Hid (dSync mn mx g t c u = ⟨x1, x2, x3⟩)) (w : World) :
    Calls Try.prog 65 #[.agg #[.int .i64 mn, .int .i64 mx, .int .i64 g], .int .i64 t, .int .i64 c, .int .i64 u] w fun e w' => e = .returned (.agg #[.int .i64 x1, .int .i64 x2, .bool x3]) ∧ Below w.heap.size w w' := by
  obtain ⟨⟨c1, c2, c3⟩, ec⟩ : ∃ s, dCorr c = s := ⟨_, rfl⟩
  have Hc := Lib.hid ec
  obtain ⟨⟨o1, o2, o3⟩, eo⟩ : ∃ s, spOf mn mx = s := ⟨_, rfl⟩
  have Ho := Lib.hid eo
  obtain ⟨⟨k1, k2, k3⟩, ek⟩ : ∃ s, spAdd ⟨c1, c2, c3⟩ ⟨o1, o2, o3⟩ = s := ⟨_, rfl⟩
  have Hk := Lib.hid ek
  obtain ⟨⟨d1, d2, d3⟩, ed⟩ : ∃ s, dWider mn mx g 2 ⟨k1, k2, k3⟩ = s := ⟨_, rfl⟩
  have Hd := Lib.hid ed
  obtain ⟨⟨s1, s2, s3⟩, es⟩ : ∃ s, spShift ⟨d1, d2, d3⟩ t = s := ⟨_, rfl⟩
  have Hs := Lib.hid es
  obtain ⟨⟨a1, a2, a3⟩, ea⟩ : ∃ s, spOf u u = s := ⟨_, rfl⟩
  have Ha := Lib.hid ea
  have HX : Hid (spSub ⟨s1, s2, s3⟩ ⟨a1, a2, a3⟩ = ⟨x1, x2, x3⟩) := by
    have hx := H.out
    unfold dSync at hx
    rw [ec, eo, ek, ed, es, ea] at hx
    exact Lib.hid hx
  clear H ec eo ek ed es ea
  go_enter Try.func65, Try.ntmps65
  go_upto_region 1 with (fail)
  go_cut [9] (fun v9 wd => ∃ bk, v9 = .pointer (some ⟨bk, 0, none⟩) ∧ Hid (Below w.heap.size w wd) ∧ Hid (CellF wd ⟨w.heap.size, 0, none⟩ (.int .i64 mn) ∧ CellF wd ⟨w.heap.size, 1, none⟩ (.int .i64 mx) ∧ CellF wd ⟨w.heap.size, 2, none⟩ (.int .i64 g)) ∧ Hid (SpanAt wd (w.heap.size + 1) 0 0 false) ∧ Hid (SpanAt wd bk k1 k2 k3))
  case first =>
    generalize hu : (w.alloc (.cells #[.int .i64 mn, .int .i64 mx, .int .i64 g] 74)).alloc (.cells #[.int .i64 0, .int .i64 0, .bool false] 50) = z
    obtain ⟨hb, hs, A, B⟩ := two_blocks w z _ _ _ _ hu.symm
    have A0 := A 0 _ rfl
    have a0' := A0.1
    have B0 := B 0 _ rfl
    have A1 := A 1 _ rfl
    have a1' := A1.1
    have B1 := B 1 _ rfl
    have A2 := A 2 _ rfl
    have a2' := A2.1
    have B2 := B 2 _ rfl
    clear hu hs A B
    refine wp_region_inv (by kernel_rfl) (fun ls ac w' => ∃ v9 v10 v11 v12 v13 v14 v15 v16 v17, ac = ⟨#[.agg #[.int .i64 mn, .int .i64 mx, .int .i64 g], .int .i64 t, .int .i64 c, .int .i64 u, .pointer (some ⟨w.heap.size, 0, none⟩), undef, undef, undef, .pointer (some ⟨w.heap.size + 1, 0, none⟩), v9, v10, v11, v12, v13, v14, v15, v16, v17, undef, undef, undef, undef, undef, undef, undef, undef, undef], []⟩ ∧ ls.size = 10 ∧ Below z.heap.size z w' ∧ (ls.getD 0 false = true → v10 = .int .i64 c) ∧ (ls.getD 1 false = true → v11 = .agg #[.int .i64 c1, .int .i64 c2, .bool c3]) ∧ (ls.getD 2 false = true → v12 = .pointer (some ⟨w.heap.size, 0, none⟩)) ∧ (ls.getD 3 false = true → v13 = .int .i64 mn) ∧ (ls.getD 4 false = true → v14 = .pointer (some ⟨w.heap.size, 1, none⟩)) ∧ (ls.getD 5 false = true → v15 = .int .i64 mx) ∧ (ls.getD 6 false = true → v16 = .agg #[.int .i64 o1, .int .i64 o2, .bool o3]) ∧ (ls.getD 7 false = true → v17 = .agg #[.int .i64 k1, .int .i64 k2, .bool k3]) ∧ (ls.getD 8 false = true → ∃ b, v9 = .pointer (some ⟨b, 0, none⟩) ∧ z.heap.size ≤ b ∧ (ls.getD 9 false = false → SpanAt w' b 0 0 false) ∧ (ls.getD 9 false = true → SpanAt w' b k1 k2 k3)) ∧ (ls.getD 9 false = true → ls.getD 8 false = true)) ?_ ?_ ?_
    · exact ⟨_, _, _, _, _, _, _, _, _, rfl, rfl, bdrew (brefl _), fun h => (by cases h), fun h => (by cases h), fun h => (by cases h), fun h => (by cases h), fun h => (by cases h), fun h => (by cases h), fun h => (by cases h), fun h => (by cases h), fun h => (by cases h), fun h => (by cases h)⟩
    · intro i hii
      have hin : i < 10 := hii
      have hor : i = 0 ∨ i = 1 ∨ i = 2 ∨ i = 3 ∨ i = 4 ∨ i = 5 ∨ i = 6 ∨ i = 7 ∨ i = 8 ∨ i = 9 := (by decide : ∀ i : Nat, i < 10 → (i = 0 ∨ i = 1 ∨ i = 2 ∨ i = 3 ∨ i = 4 ∨ i = 5 ∨ i = 6 ∨ i = 7 ∨ i = 8 ∨ i = 9)) i hin
      rcases hor with rfl | rfl | rfl | rfl | rfl | rfl | rfl | rfl | rfl | rfl
      · rintro ls ac w' hr ⟨v9, v10, v11, v12, v13, v14, v15, v16, v17, rfl, hl, hB, zg0, zg1, zg2, zg3, zg4, zg5, zg6, zg7, zh1, zk1⟩
        refine wpOp_step rfl (fun K hK => ?_)
        clear hr
        go_simp
        refine hK _ _ ?_
        simp only [getD_own (l := ls) (i := 0) (by omega), gq 0 1, gq 0 2, gq 0 3, gq 0 4, gq 0 5, gq 0 6, gq 0 7, gq 0 8, gq 0 9]
        exact ⟨v9, _, v11, v12, v13, v14, v15, v16, v17, rfl, by simp [hl], hB, fun _ => rfl, zg1, zg2, zg3, zg4, zg5, zg6, zg7, zh1, zk1⟩
      · rintro ls ac w' hr ⟨v9, v10, v11, v12, v13, v14, v15, v16, v17, rfl, hl, hB, zg0, zg1, zg2, zg3, zg4, zg5, zg6, zg7, zh1, zk1⟩
        have zd0 := rdd hr 0
        obtain rfl := zg0 zd0
        refine wpOp_step rfl (fun K hK => ?_)
        clear hr
        go_simp
        refine (correction_is _ hc _ _ _ Hc _).mono ?_
        rintro e w1 ⟨rfl, hk⟩
        dsimp only
        refine hK _ _ ?_
        simp only [getD_own (l := ls) (i := 1) (by omega), gq 1 0, gq 1 2, gq 1 3, gq 1 4, gq 1 5, gq 1 6, gq 1 7, gq 1 8, gq 1 9]
        exact ⟨v9, _, _, v12, v13, v14, v15, v16, v17, rfl, by simp [hl], bstep hB hk, fun _ => rfl, fun _ => rfl, zg2, zg3, zg4, zg5, zg6, zg7, fun h => (by obtain ⟨b, e1, e2, e4, e5⟩ := zh1 h; exact ⟨b, e1, e2, fun h => (e4 h).keep hk, fun h => (e5 h).keep hk⟩), zk1⟩
      · rintro ls ac w' hr ⟨v9, v10, v11, v12, v13, v14, v15, v16, v17, rfl, hl, hB, zg0, zg1, zg2, zg3, zg4, zg5, zg6, zg7, zh1, zk1⟩
        refine wpOp_step rfl (fun K hK => ?_)
        clear hr
        go_simp
        refine hK _ _ ?_
        simp only [getD_own (l := ls) (i := 2) (by omega), gq 2 0, gq 2 1, gq 2 3, gq 2 4, gq 2 5, gq 2 6, gq 2 7, gq 2 8, gq 2 9]
        exact ⟨v9, v10, v11, _, v13, v14, v15, v16, v17, rfl, by simp [hl], hB, zg0, zg1, fun _ => rfl, zg3, zg4, zg5, zg6, zg7, zh1, zk1⟩
      · rintro ls ac w' hr ⟨v9, v10, v11, v12, v13, v14, v15, v16, v17, rfl, hl, hB, zg0, zg1, zg2, zg3, zg4, zg5, zg6, zg7, zh1, zk1⟩
        have zd2 := rdd hr 2
        obtain rfl := zg2 zd2
        have a0 := (hB.cell (ltc a0')).trans a0'
        have a1 := (hB.cell (ltc a1')).trans a1'
        have a2 := (hB.cell (ltc a2')).trans a2'
        refine wpOp_step rfl (fun K hK => ?_)
        clear hr
        go_simp
        refine hK _ _ ?_
        simp only [getD_own (l := ls) (i := 3) (by omega), gq 3 0, gq 3 1, gq 3 2, gq 3 4, gq 3 5, gq 3 6, gq 3 7, gq 3 8, gq 3 9]
        exact ⟨v9, v10, v11, _, _, v14, v15, v16, v17, rfl, by simp [hl], hB, zg0, zg1, fun _ => rfl, fun _ => rfl, zg4, zg5, zg6, zg7, zh1, zk1⟩
      · rintro ls ac w' hr ⟨v9, v10, v11, v12, v13, v14, v15, v16, v17, rfl, hl, hB, zg0, zg1, zg2, zg3, zg4, zg5, zg6, zg7, zh1, zk1⟩
        refine wpOp_step rfl (fun K hK => ?_)
        clear hr
        go_simp
        refine hK _ _ ?_
        simp only [getD_own (l := ls) (i := 4) (by omega), gq 4 0, gq 4 1, gq 4 2, gq 4 3, gq 4 5, gq 4 6, gq 4 7, gq 4 8, gq 4 9]
        exact ⟨v9, v10, v11, v12, v13, _, v15, v16, v17, rfl, by simp [hl], hB, zg0, zg1, zg2, zg3, fun _ => rfl, zg5, zg6, zg7, zh1, zk1⟩
      · rintro ls ac w' hr ⟨v9, v10, v11, v12, v13, v14, v15, v16, v17, rfl, hl, hB, zg0, zg1, zg2, zg3, zg4, zg5, zg6, zg7, zh1, zk1⟩
        have zd4 := rdd hr 4
        obtain rfl := zg4 zd4
        have a0 := (hB.cell (ltc a0')).trans a0'
        have a1 := (hB.cell (ltc a1')).trans a1'
        have a2 := (hB.cell (ltc a2')).trans a2'
        refine wpOp_step rfl (fun K hK => ?_)
        clear hr
        go_simp
        refine hK _ _ ?_
        simp only [getD_own (l := ls) (i := 5) (by omega), gq 5 0, gq 5 1, gq 5 2, gq 5 3, gq 5 4, gq 5 6, gq 5 7, gq 5 8, gq 5 9]
        exact ⟨v9, v10, v11, v12, v13, _, _, v16, v17, rfl, by simp [hl], hB, zg0, zg1, zg2, zg3, fun _ => rfl, fun _ => rfl, zg6, zg7, zh1, zk1⟩
      · rintro ls ac w' hr ⟨v9, v10, v11, v12, v13, v14, v15, v16, v17, rfl, hl, hB, zg0, zg1, zg2, zg3, zg4, zg5, zg6, zg7, zh1, zk1⟩
        have zd3 := rdd hr 3
        have zd5 := rdd hr 5
        obtain rfl := zg3 zd3
        obtain rfl := zg5 zd5
        refine wpOp_step rfl (fun K hK => ?_)
        clear hr
        go_simp
        refine (Of_is _ _ _ _ _ Ho _).mono ?_
        rintro e w1 ⟨rfl, hk⟩
        dsimp only
        refine hK _ _ ?_
        simp only [getD_own (l := ls) (i := 6) (by omega), gq 6 0, gq 6 1, gq 6 2, gq 6 3, gq 6 4, gq 6 5, gq 6 7, gq 6 8, gq 6 9]
        exact ⟨v9, v10, v11, v12, _, v14, _, _, v17, rfl, by simp [hl], bstep hB hk, zg0, zg1, zg2, fun _ => rfl, zg4, fun _ => rfl, fun _ => rfl, zg7, fun h => (by obtain ⟨b, e1, e2, e4, e5⟩ := zh1 h; exact ⟨b, e1, e2, fun h => (e4 h).keep hk, fun h => (e5 h).keep hk⟩), zk1⟩
      · rintro ls ac w' hr ⟨v9, v10, v11, v12, v13, v14, v15, v16, v17, rfl, hl, hB, zg0, zg1, zg2, zg3, zg4, zg5, zg6, zg7, zh1, zk1⟩
        have zd1 := rdd hr 1
        have zd6 := rdd hr 6
        obtain rfl := zg1 zd1
        obtain rfl := zg6 zd6
        refine wpOp_step rfl (fun K hK => ?_)
        clear hr
        go_simp
        refine (SpAdd_is _ _ _ _ _ _ _ _ _ Hk _).mono ?_
        rintro e w1 ⟨rfl, hk⟩
        dsimp only
        refine hK _ _ ?_
        simp only [getD_own (l := ls) (i := 7) (by omega), gq 7 0, gq 7 1, gq 7 2, gq 7 3, gq 7 4, gq 7 5, gq 7 6, gq 7 8, gq 7 9]
        exact ⟨v9, v10, _, v12, v13, v14, v15, _, _, rfl, by simp [hl], bstep hB hk, zg0, fun _ => rfl, zg2, zg3, zg4, zg5, fun _ => rfl, fun _ => rfl, fun h => (by obtain ⟨b, e1, e2, e4, e5⟩ := zh1 h; exact ⟨b, e1, e2, fun h => (e4 h).keep hk, fun h => (e5 h).keep hk⟩), zk1⟩
      · rintro ls ac w' hr ⟨v9, v10, v11, v12, v13, v14, v15, v16, v17, rfl, hl, hB, zg0, zg1, zg2, zg3, zg4, zg5, zg6, zg7, zh1, zk1⟩
        have hz := hB.size
        have hn := (ready_dep hr rfl).1
        have hna : ls.getD 8 false = false := by cases hc : ls.getD 8 false with | false => rfl | true => (exfalso; have hs4 := getD_both hc; rw [hs4] at hn; cases hn)
        have hus : ls.getD 9 false = false := by cases hc : ls.getD 9 false with | false => rfl | true => (rw [zk1 hc] at hna; cases hna)
        refine wpOp_step rfl (fun K hK => ?_)
        clear hr
        go_simp
        refine hK _ _ ?_
        simp only [getD_own (l := ls) (i := 8) (by omega), gq 8 0, gq 8 1, gq 8 2, gq 8 3, gq 8 4, gq 8 5, gq 8 6, gq 8 7, gq 8 9]
        exact ⟨_, v10, v11, v12, v13, v14, v15, v16, v17, rfl, by simp [hl], balloc hB _, zg0, zg1, zg2, zg3, zg4, zg5, zg6, zg7, fun _ => ⟨_, rfl, hz, fun _ => SpanAt.new rfl, fun h => (by rw [hus] at h; cases h)⟩, fun _ => (by first | rfl | trivial)⟩
      · rintro ls ac w' hr ⟨v9, v10, v11, v12, v13, v14, v15, v16, v17, rfl, hl, hB, zg0, zg1, zg2, zg3, zg4, zg5, zg6, zg7, zh1, zk1⟩
        have zd8 := rdd hr 8
        have zd7 := rdd hr 7
        obtain rfl := zg7 zd7
        have hn := (ready_dep hr rfl).1
        have hns : ls.getD 9 false = false := by cases hc : ls.getD 9 false with | false => rfl | true => (exfalso; have hs4 := getD_both hc; rw [hs4] at hn; cases hn)
        obtain ⟨b, rfl, hub, e4, _⟩ := zh1 zd8
        have hS := e4 hns
        have hT := span_sets (x := k1) (y := k2) (z := k3) hS
        have zs0 := (hS).1.1
        have zs1 := (hS).2.1.1
        have zs2 := (hS).2.2.1
        have zs3 := (hS).1.2
        have zs4 := (hS).2.1.2
        have zs5 := (hS).2.2.2
        refine wpOp_step rfl (fun K hK => ?_)
        clear hr
        clear hS e4
        go_simp
        refine hK _ _ ?_
        simp only [getD_own (l := ls) (i := 9) (by omega), gq 9 0, gq 9 1, gq 9 2, gq 9 3, gq 9 4, gq 9 5, gq 9 6, gq 9 7, gq 9 8]
        exact ⟨_, v10, v11, v12, v13, v14, v15, v16, _, rfl, by simp [hl], hB.trans (hT.2.2 _ hub), zg0, zg1, zg2, zg3, zg4, zg5, zg6, fun _ => rfl, fun _ => ⟨b, rfl, hub, fun h => (by cases h), fun _ => hT.1⟩, fun _ => zd8⟩
    · rintro ls ac w' ⟨v9, v10, v11, v12, v13, v14, v15, v16, v17, rfl, hl, hB, zg0, zg1, zg2, zg3, zg4, zg5, zg6, zg7, zh1, zk1⟩ hr
      have hall := ready_allb (by decide) hl hr
      obtain ⟨b1, rfl, hub1, _, f1⟩ := zh1 (hall 8 (by decide))
      have F1 := f1 (hall 9 (by decide))
      go_wp2_with fail
      go_meet
      exact ⟨b1, rfl, Lib.hid (hb.trans (hB.mono hb.size)), Lib.hid ⟨A0.keep hB, A1.keep hB, A2.keep hB⟩, Lib.hid ⟨B0.keep hB, B1.keep hB, B2.keep hB⟩, Lib.hid F1⟩
  case rest =>
    obtain ⟨bk, rfl, HB, HP, HR, HK⟩ := hcut
    have hwc := HB.out
    have hR := HR.out
    have a0' := HP.out.1.1
    have k0' := HK.out.1.1
    have a1' := HP.out.2.1.1
    have k1' := HK.out.2.1.1
    have a2' := HP.out.2.2.1
    have k2' := HK.out.2.2.1
    clear HB HP HR HK
    have hsz := ltc hR.1.1
    dsimp only at hsz
    go_wp2_with fail
    refine wp_region_inv (by kernel_rfl) (fun ls ac w' => ∃ v18 v19 v20 v21 v22 v23 v24 v25 v26, ac = ⟨#[.agg #[.int .i64 mn, .int .i64 mx, .int .i64 g], .int .i64 t, .int .i64 c, .int .i64 u, .pointer (some ⟨w.heap.size, 0, none⟩), undef, undef, undef, .pointer (some ⟨w.heap.size + 1, 0, none⟩), .pointer (some ⟨bk, 0, none⟩), u10, u11, u12, u13, u14, u15, u16, u17, v18, v19, v20, v21, v22, v23, v24, v25, v26], []⟩ ∧ ls.size = 10 ∧ (ls.getD 9 false = false → Below wc.heap.size wc w') ∧ (ls.getD 0 false = true → v18 = .agg #[.int .i64 mn, .int .i64 mx, .int .i64 g]) ∧ (ls.getD 1 false = true → ls.getD 9 false = false → IsWider w' v19 mn mx g 2) ∧ (ls.getD 2 false = true → v20 = .agg #[.int .i64 k1, .int .i64 k2, .bool k3]) ∧ (ls.getD 3 false = true → v21 = .agg #[.int .i64 d1, .int .i64 d2, .bool d3]) ∧ (ls.getD 4 false = true → v22 = .int .i64 t) ∧ (ls.getD 5 false = true → v23 = .agg #[.int .i64 s1, .int .i64 s2, .bool s3]) ∧ (ls.getD 6 false = true → v24 = .int .i64 u) ∧ (ls.getD 7 false = true → v25 = .agg #[.int .i64 a1, .int .i64 a2, .bool a3]) ∧ (ls.getD 8 false = true → v26 = .agg #[.int .i64 x1, .int .i64 x2, .bool x3]) ∧ (ls.getD 1 false = true → ls.getD 0 false = true ∧ True) ∧ (ls.getD 3 false = true → ls.getD 1 false = true ∧ ls.getD 2 false = true ∧ True) ∧ (ls.getD 5 false = true → ls.getD 3 false = true ∧ ls.getD 4 false = true ∧ True) ∧ (ls.getD 7 false = true → ls.getD 6 false = true ∧ True) ∧ (ls.getD 8 false = true → ls.getD 5 false = true ∧ ls.getD 7 false = true ∧ True) ∧ (ls.getD 9 false = true → Below w.heap.size wc w' ∧ SpanAt w' (w.heap.size + 1) x1 x2 x3) ∧ (ls.getD 9 false = true → ∀ i, i < 10 → ls.getD i false = true)) ?_ ?_ ?_
    · exact ⟨_, _, _, _, _, _, _, _, _, rfl, rfl, fun _ => bdrew (brefl _), fun h => (by cases h), fun h => (by cases h), fun h => (by cases h), fun h => (by cases h), fun h => (by cases h), fun h => (by cases h), fun h => (by cases h), fun h => (by cases h), fun h => (by cases h), fun h => (by cases h), fun h => (by cases h), fun h => (by cases h), fun h => (by cases h), fun h => (by cases h), fun h => (by cases h), fun h => (by cases h)⟩
    · intro i hii
      have hin : i < 10 := hii
      have hor : i = 0 ∨ i = 1 ∨ i = 2 ∨ i = 3 ∨ i = 4 ∨ i = 5 ∨ i = 6 ∨ i = 7 ∨ i = 8 ∨ i = 9 := (by decide : ∀ i : Nat, i < 10 → (i = 0 ∨ i = 1 ∨ i = 2 ∨ i = 3 ∨ i = 4 ∨ i = 5 ∨ i = 6 ∨ i = 7 ∨ i = 8 ∨ i = 9)) i hin
      rcases hor with rfl | rfl | rfl | rfl | rfl | rfl | rfl | rfl | rfl | rfl
      · rintro ls ac w' hr ⟨v18, v19, v20, v21, v22, v23, v24, v25, v26, rfl, hl, hB', zg0, zg1, zg2, zg3, zg4, zg5, zg6, zg7, zg8, zc1, zc3, zc5, zc7, zc8, hS, hK⟩
        have hs0 : ls.getD 9 false = false := by cases hc : ls.getD 9 false with | false => rfl | true => (exfalso; have hz := hK hc 0 (by decide); have hn := (ready_dep hr rfl).1; rw [getD_both hz] at hn; cases hn)
        have hB := hB' hs0
        have a0 := (hB.cell (ltc a0')).trans a0'
        have a1 := (hB.cell (ltc a1')).trans a1'
        have a2 := (hB.cell (ltc a2')).trans a2'
        have a3 := (hB.cell (ltc k0')).trans k0'
        have a4 := (hB.cell (ltc k1')).trans k1'
        have a5 := (hB.cell (ltc k2')).trans k2'
        refine wpOp_step rfl (fun K hK => ?_)
        clear hr
        go_simp
        refine hK _ _ ?_
        simp only [getD_own (l := ls) (i := 0) (by omega), gq 0 1, gq 0 2, gq 0 3, gq 0 4, gq 0 5, gq 0 6, gq 0 7, gq 0 8, gq 0 9]
        exact ⟨_, v19, v20, v21, v22, v23, v24, v25, v26, rfl, by simp [hl], fun _ => hB, fun _ => rfl, zg1, zg2, zg3, zg4, zg5, zg6, zg7, zg8, fun h => ⟨(by first | rfl | trivial), trivial⟩, zc3, zc5, zc7, zc8, fun h => (by rw [hs0] at h; cases h), fun h => (by rw [hs0] at h; cases h)⟩
      · rintro ls ac w' hr ⟨v18, v19, v20, v21, v22, v23, v24, v25, v26, rfl, hl, hB', zg0, zg1, zg2, zg3, zg4, zg5, zg6, zg7, zg8, zc1, zc3, zc5, zc7, zc8, hS, hK⟩
        have zd0 := rdd hr 0
        have hs0 : ls.getD 9 false = false := by cases hc : ls.getD 9 false with | false => rfl | true => (exfalso; have hz := hK hc 1 (by decide); have hn := (ready_dep hr rfl).1; rw [getD_both hz] at hn; cases hn)
        have hB := hB' hs0
        obtain rfl := zg0 zd0
        refine wpOp_step rfl (fun K hK => ?_)
        clear hr
        go_simp
        refine (wider_is _ _ _ _ _).mono ?_
        rintro e w1 ⟨v, rfl, hk, hp⟩
        dsimp only
        refine hK _ _ ?_
        simp only [getD_own (l := ls) (i := 1) (by omega), gq 1 0, gq 1 2, gq 1 3, gq 1 4, gq 1 5, gq 1 6, gq 1 7, gq 1 8, gq 1 9]
        exact ⟨_, _, v20, v21, v22, v23, v24, v25, v26, rfl, by simp [hl], fun _ => bstep hB hk, fun _ => rfl, fun _ _ => hp, zg2, zg3, zg4, zg5, zg6, zg7, zg8, fun _ => ⟨zd0, trivial⟩, fun h => ⟨(by first | rfl | trivial), (zc3 h).2.1, trivial⟩, zc5, zc7, zc8, fun h => (by rw [hs0] at h; cases h), fun h => (by rw [hs0] at h; cases h)⟩
      · rintro ls ac w' hr ⟨v18, v19, v20, v21, v22, v23, v24, v25, v26, rfl, hl, hB', zg0, zg1, zg2, zg3, zg4, zg5, zg6, zg7, zg8, zc1, zc3, zc5, zc7, zc8, hS, hK⟩
        have hs0 : ls.getD 9 false = false := by cases hc : ls.getD 9 false with | false => rfl | true => (exfalso; have hz := hK hc 2 (by decide); have hn := (ready_dep hr rfl).1; rw [getD_both hz] at hn; cases hn)
        have hB := hB' hs0
        have a0 := (hB.cell (ltc a0')).trans a0'
        have a1 := (hB.cell (ltc a1')).trans a1'
        have a2 := (hB.cell (ltc a2')).trans a2'
        have a3 := (hB.cell (ltc k0')).trans k0'
        have a4 := (hB.cell (ltc k1')).trans k1'
        have a5 := (hB.cell (ltc k2')).trans k2'
        refine wpOp_step rfl (fun K hK => ?_)
        clear hr
        go_simp
        refine hK _ _ ?_
        simp only [getD_own (l := ls) (i := 2) (by omega), gq 2 0, gq 2 1, gq 2 3, gq 2 4, gq 2 5, gq 2 6, gq 2 7, gq 2 8, gq 2 9]
        exact ⟨v18, v19, _, v21, v22, v23, v24, v25, v26, rfl, by simp [hl], fun _ => hB, zg0, zg1, fun _ => rfl, zg3, zg4, zg5, zg6, zg7, zg8, zc1, fun h => ⟨(zc3 h).1, (by first | rfl | trivial), trivial⟩, zc5, zc7, zc8, fun h => (by rw [hs0] at h; cases h), fun h => (by rw [hs0] at h; cases h)⟩
      · rintro ls ac w' hr ⟨v18, v19, v20, v21, v22, v23, v24, v25, v26, rfl, hl, hB', zg0, zg1, zg2, zg3, zg4, zg5, zg6, zg7, zg8, zc1, zc3, zc5, zc7, zc8, hS, hK⟩
        have zd1 := rdd hr 1
        have zd2 := rdd hr 2
        have zd0 := (zc1 zd1).1
        have hs0 : ls.getD 9 false = false := by cases hc : ls.getD 9 false with | false => rfl | true => (exfalso; have hz := hK hc 3 (by decide); have hn := (ready_dep hr rfl).1; rw [getD_both hz] at hn; cases hn)
        have hB := hB' hs0
        obtain ⟨bp, bt, rfl, W1, W2, W3, W4⟩ := zg1 zd1 hs0
        have w1' := W1.1
        have w2' := W2.1
        have w3' := W3.1
        have w4' := W4.1
        obtain rfl := zg2 zd2
        obtain rfl := zg0 zd0
        refine wpOp_step rfl (fun K hK => ?_)
        clear hr
        go_simp
        refine (wider1_is _ _ _ _ _ _ _ _ _ _ (by decide) (by decide) Hd _ _ _ W1 W2 W3 W4).mono ?_
        rintro e w1 ⟨rfl, hk⟩
        dsimp only
        refine hK _ _ ?_
        simp only [getD_own (l := ls) (i := 3) (by omega), gq 3 0, gq 3 1, gq 3 2, gq 3 4, gq 3 5, gq 3 6, gq 3 7, gq 3 8, gq 3 9]
        exact ⟨_, _, _, _, v22, v23, v24, v25, v26, rfl, by simp [hl], fun _ => bstep hB hk, fun _ => rfl, fun _ _ => ⟨bp, bt, rfl, W1.keep hk, W2.keep hk, W3.keep hk, W4.keep hk⟩, fun _ => rfl, fun _ => rfl, zg4, zg5, zg6, zg7, zg8, zc1, fun _ => ⟨zd1, zd2, trivial⟩, fun h => ⟨(by first | rfl | trivial), (zc5 h).2.1, trivial⟩, zc7, zc8, fun h => (by rw [hs0] at h; cases h), fun h => (by rw [hs0] at h; cases h)⟩
      · rintro ls ac w' hr ⟨v18, v19, v20, v21, v22, v23, v24, v25, v26, rfl, hl, hB', zg0, zg1, zg2, zg3, zg4, zg5, zg6, zg7, zg8, zc1, zc3, zc5, zc7, zc8, hS, hK⟩
        have hs0 : ls.getD 9 false = false := by cases hc : ls.getD 9 false with | false => rfl | true => (exfalso; have hz := hK hc 4 (by decide); have hn := (ready_dep hr rfl).1; rw [getD_both hz] at hn; cases hn)
        have hB := hB' hs0
        refine wpOp_step rfl (fun K hK => ?_)
        clear hr
        go_simp
        refine hK _ _ ?_
        simp only [getD_own (l := ls) (i := 4) (by omega), gq 4 0, gq 4 1, gq 4 2, gq 4 3, gq 4 5, gq 4 6, gq 4 7, gq 4 8, gq 4 9]
        exact ⟨v18, v19, v20, v21, _, v23, v24, v25, v26, rfl, by simp [hl], fun _ => hB, zg0, zg1, zg2, zg3, fun _ => rfl, zg5, zg6, zg7, zg8, zc1, zc3, fun h => ⟨(zc5 h).1, (by first | rfl | trivial), trivial⟩, zc7, zc8, fun h => (by rw [hs0] at h; cases h), fun h => (by rw [hs0] at h; cases h)⟩
      · rintro ls ac w' hr ⟨v18, v19, v20, v21, v22, v23, v24, v25, v26, rfl, hl, hB', zg0, zg1, zg2, zg3, zg4, zg5, zg6, zg7, zg8, zc1, zc3, zc5, zc7, zc8, hS, hK⟩
        have zd3 := rdd hr 3
        have zd4 := rdd hr 4
        have zd1 := (zc3 zd3).1
        have zd2 := (zc3 zd3).2.1
        have zd0 := (zc1 zd1).1
        have hs0 : ls.getD 9 false = false := by cases hc : ls.getD 9 false with | false => rfl | true => (exfalso; have hz := hK hc 5 (by decide); have hn := (ready_dep hr rfl).1; rw [getD_both hz] at hn; cases hn)
        have hB := hB' hs0
        obtain rfl := zg3 zd3
        obtain rfl := zg4 zd4
        obtain rfl := zg2 zd2
        obtain rfl := zg0 zd0
        refine wpOp_step rfl (fun K hK => ?_)
        clear hr
        go_simp
        refine (Shift_is _ _ _ _ _ _ _ Hs _).mono ?_
        rintro e w1 ⟨rfl, hk⟩
        dsimp only
        refine hK _ _ ?_
        simp only [getD_own (l := ls) (i := 5) (by omega), gq 5 0, gq 5 1, gq 5 2, gq 5 3, gq 5 4, gq 5 6, gq 5 7, gq 5 8, gq 5 9]
        exact ⟨_, v19, _, _, _, _, v24, v25, v26, rfl, by simp [hl], fun _ => bstep hB hk, fun _ => rfl, fun h h2 => (zg1 h h2).keep hk, fun _ => rfl, fun _ => rfl, fun _ => rfl, fun _ => rfl, zg6, zg7, zg8, zc1, zc3, fun _ => ⟨zd3, zd4, trivial⟩, zc7, fun h => ⟨(by first | rfl | trivial), (zc8 h).2.1, trivial⟩, fun h => (by rw [hs0] at h; cases h), fun h => (by rw [hs0] at h; cases h)⟩
      · rintro ls ac w' hr ⟨v18, v19, v20, v21, v22, v23, v24, v25, v26, rfl, hl, hB', zg0, zg1, zg2, zg3, zg4, zg5, zg6, zg7, zg8, zc1, zc3, zc5, zc7, zc8, hS, hK⟩
        have hs0 : ls.getD 9 false = false := by cases hc : ls.getD 9 false with | false => rfl | true => (exfalso; have hz := hK hc 6 (by decide); have hn := (ready_dep hr rfl).1; rw [getD_both hz] at hn; cases hn)
        have hB := hB' hs0
        refine wpOp_step rfl (fun K hK => ?_)
        clear hr
        go_simp
        refine hK _ _ ?_
        simp only [getD_own (l := ls) (i := 6) (by omega), gq 6 0, gq 6 1, gq 6 2, gq 6 3, gq 6 4, gq 6 5, gq 6 7, gq 6 8, gq 6 9]
        exact ⟨v18, v19, v20, v21, v22, v23, _, v25, v26, rfl, by simp [hl], fun _ => hB, zg0, zg1, zg2, zg3, zg4, zg5, fun _ => rfl, zg7, zg8, zc1, zc3, zc5, fun h => ⟨(by first | rfl | trivial), trivial⟩, zc8, fun h => (by rw [hs0] at h; cases h), fun h => (by rw [hs0] at h; cases h)⟩
      · rintro ls ac w' hr ⟨v18, v19, v20, v21, v22, v23, v24, v25, v26, rfl, hl, hB', zg0, zg1, zg2, zg3, zg4, zg5, zg6, zg7, zg8, zc1, zc3, zc5, zc7, zc8, hS, hK⟩
        have zd6 := rdd hr 6
        have hs0 : ls.getD 9 false = false := by cases hc : ls.getD 9 false with | false => rfl | true => (exfalso; have hz := hK hc 7 (by decide); have hn := (ready_dep hr rfl).1; rw [getD_both hz] at hn; cases hn)
        have hB := hB' hs0
        obtain rfl := zg6 zd6
        refine wpOp_step rfl (fun K hK => ?_)
        clear hr
        go_simp
        refine (alone_is _ _ _ _ Ha _).mono ?_
        rintro e w1 ⟨rfl, hk⟩
        dsimp only
        refine hK _ _ ?_
        simp only [getD_own (l := ls) (i := 7) (by omega), gq 7 0, gq 7 1, gq 7 2, gq 7 3, gq 7 4, gq 7 5, gq 7 6, gq 7 8, gq 7 9]
        exact ⟨v18, v19, v20, v21, v22, v23, _, _, v26, rfl, by simp [hl], fun _ => bstep hB hk, zg0, fun h h2 => (zg1 h h2).keep hk, zg2, zg3, zg4, zg5, fun _ => rfl, fun _ => rfl, zg8, zc1, zc3, zc5, fun _ => ⟨zd6, trivial⟩, fun h => ⟨(zc8 h).1, (by first | rfl | trivial), trivial⟩, fun h => (by rw [hs0] at h; cases h), fun h => (by rw [hs0] at h; cases h)⟩
      · rintro ls ac w' hr ⟨v18, v19, v20, v21, v22, v23, v24, v25, v26, rfl, hl, hB', zg0, zg1, zg2, zg3, zg4, zg5, zg6, zg7, zg8, zc1, zc3, zc5, zc7, zc8, hS, hK⟩
        have zd5 := rdd hr 5
        have zd7 := rdd hr 7
        have zd3 := (zc5 zd5).1
        have zd4 := (zc5 zd5).2.1
        have zd6 := (zc7 zd7).1
        have zd1 := (zc3 zd3).1
        have zd2 := (zc3 zd3).2.1
        have zd0 := (zc1 zd1).1
        have hs0 : ls.getD 9 false = false := by cases hc : ls.getD 9 false with | false => rfl | true => (exfalso; have hz := hK hc 8 (by decide); have hn := (ready_dep hr rfl).1; rw [getD_both hz] at hn; cases hn)
        have hB := hB' hs0
        obtain rfl := zg5 zd5
        obtain rfl := zg7 zd7
        obtain rfl := zg3 zd3
        obtain rfl := zg4 zd4
        obtain rfl := zg6 zd6
        obtain rfl := zg2 zd2
        obtain rfl := zg0 zd0
        refine wpOp_step rfl (fun K hK => ?_)
        clear hr
        go_simp
        refine (SpSub_is _ _ _ _ _ _ _ _ _ HX _).mono ?_
        rintro e w1 ⟨rfl, hk⟩
        dsimp only
        refine hK _ _ ?_
        simp only [getD_own (l := ls) (i := 8) (by omega), gq 8 0, gq 8 1, gq 8 2, gq 8 3, gq 8 4, gq 8 5, gq 8 6, gq 8 7, gq 8 9]
        exact ⟨_, v19, _, _, _, _, _, _, _, rfl, by simp [hl], fun _ => bstep hB hk, fun _ => rfl, fun h h2 => (zg1 h h2).keep hk, fun _ => rfl, fun _ => rfl, fun _ => rfl, fun _ => rfl, fun _ => rfl, fun _ => rfl, fun _ => rfl, zc1, zc3, zc5, zc7, fun _ => ⟨zd5, zd7, trivial⟩, fun h => (by rw [hs0] at h; cases h), fun h => (by rw [hs0] at h; cases h)⟩
      · rintro ls ac w' hr ⟨v18, v19, v20, v21, v22, v23, v24, v25, v26, rfl, hl, hB', zg0, zg1, zg2, zg3, zg4, zg5, zg6, zg7, zg8, zc1, zc3, zc5, zc7, zc8, hS, hK⟩
        have zd8 := rdd hr 8
        have zd5 := (zc8 zd8).1
        have zd7 := (zc8 zd8).2.1
        have zd3 := (zc5 zd5).1
        have zd4 := (zc5 zd5).2.1
        have zd6 := (zc7 zd7).1
        have zd1 := (zc3 zd3).1
        have zd2 := (zc3 zd3).2.1
        have zd0 := (zc1 zd1).1
        obtain rfl := zg8 zd8
        obtain rfl := zg5 zd5
        obtain rfl := zg7 zd7
        obtain rfl := zg3 zd3
        obtain rfl := zg4 zd4
        obtain rfl := zg6 zd6
        obtain rfl := zg2 zd2
        obtain rfl := zg0 zd0
        have hns : ls.getD 9 false = false := by cases hc : ls.getD 9 false with | false => rfl | true => (exfalso; have hn := (ready_dep hr rfl).1; rw [getD_both hc] at hn; cases hn)
        have hB := hB' hns
        have hall : ∀ i, i < 10 → (ls.setIfInBounds 9 true).getD i false = true := by intro i hi; have hi' : i = 0 ∨ i = 1 ∨ i = 2 ∨ i = 3 ∨ i = 4 ∨ i = 5 ∨ i = 6 ∨ i = 7 ∨ i = 8 ∨ i = 9 := (by decide : ∀ i : Nat, i < 10 → (i = 0 ∨ i = 1 ∨ i = 2 ∨ i = 3 ∨ i = 4 ∨ i = 5 ∨ i = 6 ∨ i = 7 ∨ i = 8 ∨ i = 9)) i hi; rcases hi' with rfl | rfl | rfl | rfl | rfl | rfl | rfl | rfl | rfl | rfl <;> first | exact getD_own (by omega) | (rw [getD_set ls (by decide)]; assumption)
        have hSp := SpanAt.keep hB hR
        have hT := span_sets (x := x1) (y := x2) (z := x3) hSp
        have zs0 := (hSp).1.1
        have zs1 := (hSp).2.1.1
        have zs2 := (hSp).2.2.1
        have zs3 := (hSp).1.2
        have zs4 := (hSp).2.1.2
        have zs5 := (hSp).2.2.2
        refine wpOp_step rfl (fun K hK' => ?_)
        clear hr
        clear hSp
        go_simp
        refine hK' _ _ ?_
        simp only [getD_own (l := ls) (i := 9) (by omega), gq 9 0, gq 9 1, gq 9 2, gq 9 3, gq 9 4, gq 9 5, gq 9 6, gq 9 7, gq 9 8]
        exact ⟨_, v19, _, _, _, _, _, _, _, rfl, by simp [hl], fun h => (by cases h), fun _ => rfl, fun _ h => (by cases h), fun _ => rfl, fun _ => rfl, fun _ => rfl, fun _ => rfl, fun _ => rfl, fun _ => rfl, fun _ => rfl, zc1, zc3, zc5, zc7, zc8, fun _ => ⟨(hB.mono hwc.size).trans (hT.2.2 _ (Nat.le_succ _)), hT.1⟩, fun _ => hall⟩
    · rintro ls ac w' ⟨v18, v19, v20, v21, v22, v23, v24, v25, v26, rfl, hl, hB', zg0, zg1, zg2, zg3, zg4, zg5, zg6, zg7, zg8, zc1, zc3, zc5, zc7, zc8, hS, hK⟩ hr
      have hall := ready_allb (by decide) hl hr
      have hSx := hS (hall 9 (by decide))
      have x0' := hSx.2.1.1
      have x1' := hSx.2.2.1.1
      have x2' := hSx.2.2.2.1
      go_wp2
      exact bodyPost_ret (v := .agg #[.int .i64 x1, .int .i64 x2, .bool x3]) (by simp [results, Try.results65, go_sem, x0', x1', x2']) rfl ⟨rfl, hwc.trans hSx.1⟩
end Go.Proofs.Ytnphbdhcoiaklaa
namespace Go.Proofs.Ytnphbdhcoiaklaa
open Go.RowKit

set_option maxRecDepth 100000 in
set_option maxHeartbeats 4000000 in
theorem Req_is (mn mx g t c u x1 x2 : Int) (x3 : Bool) (hc : I64 c) (H : Hid (dReq mn mx g t c u = ⟨x1, x2, x3⟩)) (w : World) :
    Calls Try.prog 67 #[.agg #[.int .i64 mn, .int .i64 mx, .int .i64 g], .int .i64 t, .int .i64 c, .int .i64 u] w fun e w' => e = .returned (.agg #[.int .i64 x1, .int .i64 x2, .bool x3]) ∧ Below w.heap.size w w' := by
  obtain ⟨⟨f1, f2, f3⟩, ef⟩ : ∃ s, spOf u u = s := ⟨_, rfl⟩
  have Hf := Lib.hid ef
  obtain ⟨⟨c1, c2, c3⟩, ec⟩ : ∃ s, dCorr c = s := ⟨_, rfl⟩
  have Hc := Lib.hid ec
  obtain ⟨⟨r1, r2, r3⟩, er⟩ : ∃ s, spSub ⟨f1, f2, f3⟩ ⟨c1, c2, c3⟩ = s := ⟨_, rfl⟩
  have Hr := Lib.hid er
  obtain ⟨⟨o1, o2, o3⟩, eo⟩ : ∃ s, spOf mn mx = s := ⟨_, rfl⟩
  have Ho := Lib.hid eo
  obtain ⟨⟨k1, k2, k3⟩, ek⟩ : ∃ s, spSub ⟨r1, r2, r3⟩ ⟨o1, o2, o3⟩ = s := ⟨_, rfl⟩
  have Hk := Lib.hid ek
  obtain ⟨⟨d1, d2, d3⟩, ed⟩ : ∃ s, dWider mn mx g 2 ⟨k1, k2, k3⟩ = s := ⟨_, rfl⟩
  have Hd := Lib.hid ed
  obtain ⟨⟨a1, a2, a3⟩, ea⟩ : ∃ s, spOf t t = s := ⟨_, rfl⟩
  have Ha := Lib.hid ea
  have HX : Hid (spSub ⟨d1, d2, d3⟩ ⟨a1, a2, a3⟩ = ⟨x1, x2, x3⟩) := by
    have hx := H.out
    unfold dReq at hx
    rw [ef, ec, er, eo, ek, ed, ea] at hx
    exact Lib.hid hx
  clear H ef ec er eo ek ed ea
  go_enter Try.func67, Try.ntmps67
  go_upto_region 1 with (fail)
  go_cut [9] (fun v9 wd => ∃ bk, v9 = .pointer (some ⟨bk, 0, none⟩) ∧ Hid (Below w.heap.size w wd) ∧ Hid (CellF wd ⟨w.heap.size, 0, none⟩ (.int .i64 mn) ∧ CellF wd ⟨w.heap.size, 1, none⟩ (.int .i64 mx) ∧ CellF wd ⟨w.heap.size, 2, none⟩ (.int .i64 g)) ∧ Hid (SpanAt wd (w.heap.size + 1) 0 0 false) ∧ Hid (SpanAt wd bk k1 k2 k3))
  case first =>
    generalize hu : (w.alloc (.cells #[.int .i64 mn, .int .i64 mx, .int .i64 g] 74)).alloc (.cells #[.int .i64 0, .int .i64 0, .bool false] 50) = z
    obtain ⟨hb, hs, A, B⟩ := two_blocks w z _ _ _ _ hu.symm
    have A0 := A 0 _ rfl
    have a0' := A0.1
    have B0 := B 0 _ rfl
    have A1 := A 1 _ rfl
    have a1' := A1.1
    have B1 := B 1 _ rfl
    have A2 := A 2 _ rfl
    have a2' := A2.1
    have B2 := B 2 _ rfl
    clear hu hs A B
    refine wp_region_inv (by kernel_rfl) (fun ls ac w' => ∃ v9 v10 v11 v12 v13 v14 v15 v16 v17 v18 v19 v20, ac = ⟨#[.agg #[.int .i64 mn, .int .i64 mx, .int .i64 g], .int .i64 t, .int .i64 c, .int .i64 u, .pointer (some ⟨w.heap.size, 0, none⟩), undef, undef, undef, .pointer (some ⟨w.heap.size + 1, 0, none⟩), v9, v10, v11, v12, v13, v14, v15, v16, v17, v18, v19, v20, undef, undef, undef, undef, undef, undef, undef], []⟩ ∧ ls.size = 13 ∧ Below z.heap.size z w' ∧ (ls.getD 0 false = true → v10 = .int .i64 u) ∧ (ls.getD 1 false = true → v11 = .agg #[.int .i64 f1, .int .i64 f2, .bool f3]) ∧ (ls.getD 2 false = true → v12 = .int .i64 c) ∧ (ls.getD 3 false = true → v13 = .agg #[.int .i64 c1, .int .i64 c2, .bool c3]) ∧ (ls.getD 4 false = true → v14 = .agg #[.int .i64 r1, .int .i64 r2, .bool r3]) ∧ (ls.getD 5 false = true → v15 = .pointer (some ⟨w.heap.size, 0, none⟩)) ∧ (ls.getD 6 false = true → v16 = .int .i64 mn) ∧ (ls.getD 7 false = true → v17 = .pointer (some ⟨w.heap.size, 1, none⟩)) ∧ (ls.getD 8 false = true → v18 = .int .i64 mx) ∧ (ls.getD 9 false = true → v19 = .agg #[.int .i64 o1, .int .i64 o2, .bool o3]) ∧ (ls.getD 10 false = true → v20 = .agg #[.int .i64 k1, .int .i64 k2, .bool k3]) ∧ (ls.getD 11 false = true → ∃ b, v9 = .pointer (some ⟨b, 0, none⟩) ∧ z.heap.size ≤ b ∧ (ls.getD 12 false = false → SpanAt w' b 0 0 false) ∧ (ls.getD 12 false = true → SpanAt w' b k1 k2 k3)) ∧ (ls.getD 12 false = true → ls.getD 11 false = true)) ?_ ?_ ?_
    · exact ⟨_, _, _, _, _, _, _, _, _, _, _, _, rfl, rfl, bdrew (brefl _), fun h => (by cases h), fun h => (by cases h), fun h => (by cases h), fun h => (by cases h), fun h => (by cases h), fun h => (by cases h), fun h => (by cases h), fun h => (by cases h), fun h => (by cases h), fun h => (by cases h), fun h => (by cases h), fun h => (by cases h), fun h => (by cases h)⟩
    · intro i hii
      have hin : i < 13 := hii
      have hor : i = 0 ∨ i = 1 ∨ i = 2 ∨ i = 3 ∨ i = 4 ∨ i = 5 ∨ i = 6 ∨ i = 7 ∨ i = 8 ∨ i = 9 ∨ i = 10 ∨ i = 11 ∨ i = 12 := (by decide : ∀ i : Nat, i < 13 → (i = 0 ∨ i = 1 ∨ i = 2 ∨ i = 3 ∨ i = 4 ∨ i = 5 ∨ i = 6 ∨ i = 7 ∨ i = 8 ∨ i = 9 ∨ i = 10 ∨ i = 11 ∨ i = 12)) i hin
      rcases hor with rfl | rfl | rfl | rfl | rfl | rfl | rfl | rfl | rfl | rfl | rfl | rfl | rfl
      · rintro ls ac w' hr ⟨v9, v10, v11, v12, v13, v14, v15, v16, v17, v18, v19, v20, rfl, hl, hB, zg0, zg1, zg2, zg3, zg4, zg5, zg6, zg7, zg8, zg9, zg10, zh1, zk1⟩
        refine wpOp_step rfl (fun K hK => ?_)
        clear hr
        go_simp
        refine hK _ _ ?_
        simp only [getD_own (l := ls) (i := 0) (by omega), gq 0 1, gq 0 2, gq 0 3, gq 0 4, gq 0 5, gq 0 6, gq 0 7, gq 0 8, gq 0 9, gq 0 10, gq 0 11, gq 0 12]
        exact ⟨v9, _, v11, v12, v13, v14, v15, v16, v17, v18, v19, v20, rfl, by simp [hl], hB, fun _ => rfl, zg1, zg2, zg3, zg4, zg5, zg6, zg7, zg8, zg9, zg10, zh1, zk1⟩
      · rintro ls ac w' hr ⟨v9, v10, v11, v12, v13, v14, v15, v16, v17, v18, v19, v20, rfl, hl, hB, zg0, zg1, zg2, zg3, zg4, zg5, zg6, zg7, zg8, zg9, zg10, zh1, zk1⟩
        have zd0 := rdd hr 0
        obtain rfl := zg0 zd0
        refine wpOp_step rfl (fun K hK => ?_)
        clear hr
        go_simp
        refine (alone_is _ _ _ _ Hf _).mono ?_
        rintro e w1 ⟨rfl, hk⟩
        dsimp only
        refine hK _ _ ?_
        simp only [getD_own (l := ls) (i := 1) (by omega), gq 1 0, gq 1 2, gq 1 3, gq 1 4, gq 1 5, gq 1 6, gq 1 7, gq 1 8, gq 1 9, gq 1 10, gq 1 11, gq 1 12]
        exact ⟨v9, _, _, v12, v13, v14, v15, v16, v17, v18, v19, v20, rfl, by simp [hl], bstep hB hk, fun _ => rfl, fun _ => rfl, zg2, zg3, zg4, zg5, zg6, zg7, zg8, zg9, zg10, fun h => (by obtain ⟨b, e1, e2, e4, e5⟩ := zh1 h; exact ⟨b, e1, e2, fun h => (e4 h).keep hk, fun h => (e5 h).keep hk⟩), zk1⟩
      · rintro ls ac w' hr ⟨v9, v10, v11, v12, v13, v14, v15, v16, v17, v18, v19, v20, rfl, hl, hB, zg0, zg1, zg2, zg3, zg4, zg5, zg6, zg7, zg8, zg9, zg10, zh1, zk1⟩
        refine wpOp_step rfl (fun K hK => ?_)
        clear hr
        go_simp
        refine hK _ _ ?_
        simp only [getD_own (l := ls) (i := 2) (by omega), gq 2 0, gq 2 1, gq 2 3, gq 2 4, gq 2 5, gq 2 6, gq 2 7, gq 2 8, gq 2 9, gq 2 10, gq 2 11, gq 2 12]
        exact ⟨v9, v10, v11, _, v13, v14, v15, v16, v17, v18, v19, v20, rfl, by simp [hl], hB, zg0, zg1, fun _ => rfl, zg3, zg4, zg5, zg6, zg7, zg8, zg9, zg10, zh1, zk1⟩
      · rintro ls ac w' hr ⟨v9, v10, v11, v12, v13, v14, v15, v16, v17, v18, v19, v20, rfl, hl, hB, zg0, zg1, zg2, zg3, zg4, zg5, zg6, zg7, zg8, zg9, zg10, zh1, zk1⟩
        have zd2 := rdd hr 2
        obtain rfl := zg2 zd2
        refine wpOp_step rfl (fun K hK => ?_)
        clear hr
        go_simp
        refine (correction_is _ hc _ _ _ Hc _).mono ?_
        rintro e w1 ⟨rfl, hk⟩
        dsimp only
        refine hK _ _ ?_
        simp only [getD_own (l := ls) (i := 3) (by omega), gq 3 0, gq 3 1, gq 3 2, gq 3 4, gq 3 5, gq 3 6, gq 3 7, gq 3 8, gq 3 9, gq 3 10, gq 3 11, gq 3 12]
        exact ⟨v9, v10, v11, _, _, v14, v15, v16, v17, v18, v19, v20, rfl, by simp [hl], bstep hB hk, zg0, zg1, fun _ => rfl, fun _ => rfl, zg4, zg5, zg6, zg7, zg8, zg9, zg10, fun h => (by obtain ⟨b, e1, e2, e4, e5⟩ := zh1 h; exact ⟨b, e1, e2, fun h => (e4 h).keep hk, fun h => (e5 h).keep hk⟩), zk1⟩
      · rintro ls ac w' hr ⟨v9, v10, v11, v12, v13, v14, v15, v16, v17, v18, v19, v20, rfl, hl, hB, zg0, zg1, zg2, zg3, zg4, zg5, zg6, zg7, zg8, zg9, zg10, zh1, zk1⟩
        have zd1 := rdd hr 1
        have zd3 := rdd hr 3
        obtain rfl := zg1 zd1
        obtain rfl := zg3 zd3
        refine wpOp_step rfl (fun K hK => ?_)
        clear hr
        go_simp
        refine (SpSub_is _ _ _ _ _ _ _ _ _ Hr _).mono ?_
        rintro e w1 ⟨rfl, hk⟩
        dsimp only
        refine hK _ _ ?_
        simp only [getD_own (l := ls) (i := 4) (by omega), gq 4 0, gq 4 1, gq 4 2, gq 4 3, gq 4 5, gq 4 6, gq 4 7, gq 4 8, gq 4 9, gq 4 10, gq 4 11, gq 4 12]
        exact ⟨v9, v10, _, v12, _, _, v15, v16, v17, v18, v19, v20, rfl, by simp [hl], bstep hB hk, zg0, fun _ => rfl, zg2, fun _ => rfl, fun _ => rfl, zg5, zg6, zg7, zg8, zg9, zg10, fun h => (by obtain ⟨b, e1, e2, e4, e5⟩ := zh1 h; exact ⟨b, e1, e2, fun h => (e4 h).keep hk, fun h => (e5 h).keep hk⟩), zk1⟩
      · rintro ls ac w' hr ⟨v9, v10, v11, v12, v13, v14, v15, v16, v17, v18, v19, v20, rfl, hl, hB, zg0, zg1, zg2, zg3, zg4, zg5, zg6, zg7, zg8, zg9, zg10, zh1, zk1⟩
        refine wpOp_step rfl (fun K hK => ?_)
        clear hr
        go_simp
        refine hK _ _ ?_
        simp only [getD_own (l := ls) (i := 5) (by omega), gq 5 0, gq 5 1, gq 5 2, gq 5 3, gq 5 4, gq 5 6, gq 5 7, gq 5 8, gq 5 9, gq 5 10, gq 5 11, gq 5 12]
        exact ⟨v9, v10, v11, v12, v13, v14, _, v16, v17, v18, v19, v20, rfl, by simp [hl], hB, zg0, zg1, zg2, zg3, zg4, fun _ => rfl, zg6, zg7, zg8, zg9, zg10, zh1, zk1⟩
      · rintro ls ac w' hr ⟨v9, v10, v11, v12, v13, v14, v15, v16, v17, v18, v19, v20, rfl, hl, hB, zg0, zg1, zg2, zg3, zg4, zg5, zg6, zg7, zg8, zg9, zg10, zh1, zk1⟩
        have zd5 := rdd hr 5
        obtain rfl := zg5 zd5
        have a0 := (hB.cell (ltc a0')).trans a0'
        have a1 := (hB.cell (ltc a1')).trans a1'
        have a2 := (hB.cell (ltc a2')).trans a2'
        refine wpOp_step rfl (fun K hK => ?_)
        clear hr
        go_simp
        refine hK _ _ ?_
        simp only [getD_own (l := ls) (i := 6) (by omega), gq 6 0, gq 6 1, gq 6 2, gq 6 3, gq 6 4, gq 6 5, gq 6 7, gq 6 8, gq 6 9, gq 6 10, gq 6 11, gq 6 12]
        exact ⟨v9, v10, v11, v12, v13, v14, _, _, v17, v18, v19, v20, rfl, by simp [hl], hB, zg0, zg1, zg2, zg3, zg4, fun _ => rfl, fun _ => rfl, zg7, zg8, zg9, zg10, zh1, zk1⟩
      · rintro ls ac w' hr ⟨v9, v10, v11, v12, v13, v14, v15, v16, v17, v18, v19, v20, rfl, hl, hB, zg0, zg1, zg2, zg3, zg4, zg5, zg6, zg7, zg8, zg9, zg10, zh1, zk1⟩
        refine wpOp_step rfl (fun K hK => ?_)
        clear hr
        go_simp
        refine hK _ _ ?_
        simp only [getD_own (l := ls) (i := 7) (by omega), gq 7 0, gq 7 1, gq 7 2, gq 7 3, gq 7 4, gq 7 5, gq 7 6, gq 7 8, gq 7 9, gq 7 10, gq 7 11, gq 7 12]
        exact ⟨v9, v10, v11, v12, v13, v14, v15, v16, _, v18, v19, v20, rfl, by simp [hl], hB, zg0, zg1, zg2, zg3, zg4, zg5, zg6, fun _ => rfl, zg8, zg9, zg10, zh1, zk1⟩
      · rintro ls ac w' hr ⟨v9, v10, v11, v12, v13, v14, v15, v16, v17, v18, v19, v20, rfl, hl, hB, zg0, zg1, zg2, zg3, zg4, zg5, zg6, zg7, zg8, zg9, zg10, zh1, zk1⟩
        have zd7 := rdd hr 7
        obtain rfl := zg7 zd7
        have a0 := (hB.cell (ltc a0')).trans a0'
        have a1 := (hB.cell (ltc a1')).trans a1'
        have a2 := (hB.cell (ltc a2')).trans a2'
        refine wpOp_step rfl (fun K hK => ?_)
        clear hr
        go_simp
        refine hK _ _ ?_
        simp only [getD_own (l := ls) (i := 8) (by omega), gq 8 0, gq 8 1, gq 8 2, gq 8 3, gq 8 4, gq 8 5, gq 8 6, gq 8 7, gq 8 9, gq 8 10, gq 8 11, gq 8 12]
        exact ⟨v9, v10, v11, v12, v13, v14, v15, v16, _, _, v19, v20, rfl, by simp [hl], hB, zg0, zg1, zg2, zg3, zg4, zg5, zg6, fun _ => rfl, fun _ => rfl, zg9, zg10, zh1, zk1⟩
      · rintro ls ac w' hr ⟨v9, v10, v11, v12, v13, v14, v15, v16, v17, v18, v19, v20, rfl, hl, hB, zg0, zg1, zg2, zg3, zg4, zg5, zg6, zg7, zg8, zg9, zg10, zh1, zk1⟩
        have zd6 := rdd hr 6
        have zd8 := rdd hr 8
        obtain rfl := zg6 zd6
        obtain rfl := zg8 zd8
        refine wpOp_step rfl (fun K hK => ?_)
        clear hr
        go_simp
        refine (Of_is _ _ _ _ _ Ho _).mono ?_
        rintro e w1 ⟨rfl, hk⟩
        dsimp only
        refine hK _ _ ?_
        simp only [getD_own (l := ls) (i := 9) (by omega), gq 9 0, gq 9 1, gq 9 2, gq 9 3, gq 9 4, gq 9 5, gq 9 6, gq 9 7, gq 9 8, gq 9 10, gq 9 11, gq 9 12]
        exact ⟨v9, v10, v11, v12, v13, v14, v15, _, v17, _, _, v20, rfl, by simp [hl], bstep hB hk, zg0, zg1, zg2, zg3, zg4, zg5, fun _ => rfl, zg7, fun _ => rfl, fun _ => rfl, zg10, fun h => (by obtain ⟨b, e1, e2, e4, e5⟩ := zh1 h; exact ⟨b, e1, e2, fun h => (e4 h).keep hk, fun h => (e5 h).keep hk⟩), zk1⟩
      · rintro ls ac w' hr ⟨v9, v10, v11, v12, v13, v14, v15, v16, v17, v18, v19, v20, rfl, hl, hB, zg0, zg1, zg2, zg3, zg4, zg5, zg6, zg7, zg8, zg9, zg10, zh1, zk1⟩
        have zd4 := rdd hr 4
        have zd9 := rdd hr 9
        obtain rfl := zg4 zd4
        obtain rfl := zg9 zd9
        refine wpOp_step rfl (fun K hK => ?_)
        clear hr
        go_simp
        refine (SpSub_is _ _ _ _ _ _ _ _ _ Hk _).mono ?_
        rintro e w1 ⟨rfl, hk⟩
        dsimp only
        refine hK _ _ ?_
        simp only [getD_own (l := ls) (i := 10) (by omega), gq 10 0, gq 10 1, gq 10 2, gq 10 3, gq 10 4, gq 10 5, gq 10 6, gq 10 7, gq 10 8, gq 10 9, gq 10 11, gq 10 12]
        exact ⟨v9, v10, v11, v12, v13, _, v15, v16, v17, v18, _, _, rfl, by simp [hl], bstep hB hk, zg0, zg1, zg2, zg3, fun _ => rfl, zg5, zg6, zg7, zg8, fun _ => rfl, fun _ => rfl, fun h => (by obtain ⟨b, e1, e2, e4, e5⟩ := zh1 h; exact ⟨b, e1, e2, fun h => (e4 h).keep hk, fun h => (e5 h).keep hk⟩), zk1⟩
      · rintro ls ac w' hr ⟨v9, v10, v11, v12, v13, v14, v15, v16, v17, v18, v19, v20, rfl, hl, hB, zg0, zg1, zg2, zg3, zg4, zg5, zg6, zg7, zg8, zg9, zg10, zh1, zk1⟩
        have hz := hB.size
        have hn := (ready_dep hr rfl).1
        have hna : ls.getD 11 false = false := by cases hc : ls.getD 11 false with | false => rfl | true => (exfalso; have hs4 := getD_both hc; rw [hs4] at hn; cases hn)
        have hus : ls.getD 12 false = false := by cases hc : ls.getD 12 false with | false => rfl | true => (rw [zk1 hc] at hna; cases hna)
        refine wpOp_step rfl (fun K hK => ?_)
        clear hr
        go_simp
        refine hK _ _ ?_
        simp only [getD_own (l := ls) (i := 11) (by omega), gq 11 0, gq 11 1, gq 11 2, gq 11 3, gq 11 4, gq 11 5, gq 11 6, gq 11 7, gq 11 8, gq 11 9, gq 11 10, gq 11 12]
        exact ⟨_, v10, v11, v12, v13, v14, v15, v16, v17, v18, v19, v20, rfl, by simp [hl], balloc hB _, zg0, zg1, zg2, zg3, zg4, zg5, zg6, zg7, zg8, zg9, zg10, fun _ => ⟨_, rfl, hz, fun _ => SpanAt.new rfl, fun h => (by rw [hus] at h; cases h)⟩, fun _ => (by first | rfl | trivial)⟩
      · rintro ls ac w' hr ⟨v9, v10, v11, v12, v13, v14, v15, v16, v17, v18, v19, v20, rfl, hl, hB, zg0, zg1, zg2, zg3, zg4, zg5, zg6, zg7, zg8, zg9, zg10, zh1, zk1⟩
        have zd11 := rdd hr 11
        have zd10 := rdd hr 10
        obtain rfl := zg10 zd10
        have hn := (ready_dep hr rfl).1
        have hns : ls.getD 12 false = false := by cases hc : ls.getD 12 false with | false => rfl | true => (exfalso; have hs4 := getD_both hc; rw [hs4] at hn; cases hn)
        obtain ⟨b, rfl, hub, e4, _⟩ := zh1 zd11
        have hS := e4 hns
        have hT := span_sets (x := k1) (y := k2) (z := k3) hS
        have zs0 := (hS).1.1
        have zs1 := (hS).2.1.1
        have zs2 := (hS).2.2.1
        have zs3 := (hS).1.2
        have zs4 := (hS).2.1.2
        have zs5 := (hS).2.2.2
        refine wpOp_step rfl (fun K hK => ?_)
        clear hr
        clear hS e4
        go_simp
        refine hK _ _ ?_
        simp only [getD_own (l := ls) (i := 12) (by omega), gq 12 0, gq 12 1, gq 12 2, gq 12 3, gq 12 4, gq 12 5, gq 12 6, gq 12 7, gq 12 8, gq 12 9, gq 12 10, gq 12 11]
        exact ⟨_, v10, v11, v12, v13, v14, v15, v16, v17, v18, v19, _, rfl, by simp [hl], hB.trans (hT.2.2 _ hub), zg0, zg1, zg2, zg3, zg4, zg5, zg6, zg7, zg8, zg9, fun _ => rfl, fun _ => ⟨b, rfl, hub, fun h => (by cases h), fun _ => hT.1⟩, fun _ => zd11⟩
    · rintro ls ac w' ⟨v9, v10, v11, v12, v13, v14, v15, v16, v17, v18, v19, v20, rfl, hl, hB, zg0, zg1, zg2, zg3, zg4, zg5, zg6, zg7, zg8, zg9, zg10, zh1, zk1⟩ hr
      have hall := ready_allb (by decide) hl hr
      obtain ⟨b1, rfl, hub1, _, f1⟩ := zh1 (hall 11 (by decide))
      have F1 := f1 (hall 12 (by decide))
      go_wp2_with fail
      go_meet
      exact ⟨b1, rfl, Lib.hid (hb.trans (hB.mono hb.size)), Lib.hid ⟨A0.keep hB, A1.keep hB, A2.keep hB⟩, Lib.hid ⟨B0.keep hB, B1.keep hB, B2.keep hB⟩, Lib.hid F1⟩
  case rest =>
    obtain ⟨bk, rfl, HB, HP, HR, HK⟩ := hcut
    have hwc := HB.out
    have hR := HR.out
    have a0' := HP.out.1.1
    have k0' := HK.out.1.1
    have a1' := HP.out.2.1.1
    have k1' := HK.out.2.1.1
    have a2' := HP.out.2.2.1
    have k2' := HK.out.2.2.1
    clear HB HP HR HK
    have hsz := ltc hR.1.1
    dsimp only at hsz
    go_wp2_with fail
    refine wp_region_inv (by kernel_rfl) (fun ls ac w' => ∃ v21 v22 v23 v24 v25 v26 v27, ac = ⟨#[.agg #[.int .i64 mn, .int .i64 mx, .int .i64 g], .int .i64 t, .int .i64 c, .int .i64 u, .pointer (some ⟨w.heap.size, 0, none⟩), undef, undef, undef, .pointer (some ⟨w.heap.size + 1, 0, none⟩), .pointer (some ⟨bk, 0, none⟩), u10, u11, u12, u13, u14, u15, u16, u17, u18, u19, u20, v21, v22, v23, v24, v25, v26, v27], []⟩ ∧ ls.size = 8 ∧ (ls.getD 7 false = false → Below wc.heap.size wc w') ∧ (ls.getD 0 false = true → v21 = .agg #[.int .i64 mn, .int .i64 mx, .int .i64 g]) ∧ (ls.getD 1 false = true → ls.getD 7 false = false → IsWider w' v22 mn mx g 2) ∧ (ls.getD 2 false = true → v23 = .agg #[.int .i64 k1, .int .i64 k2, .bool k3]) ∧ (ls.getD 3 false = true → v24 = .agg #[.int .i64 d1, .int .i64 d2, .bool d3]) ∧ (ls.getD 4 false = true → v25 = .int .i64 t) ∧ (ls.getD 5 false = true → v26 = .agg #[.int .i64 a1, .int .i64 a2, .bool a3]) ∧ (ls.getD 6 false = true → v27 = .agg #[.int .i64 x1, .int .i64 x2, .bool x3]) ∧ (ls.getD 1 false = true → ls.getD 0 false = true ∧ True) ∧ (ls.getD 3 false = true → ls.getD 1 false = true ∧ ls.getD 2 false = true ∧ True) ∧ (ls.getD 5 false = true → ls.getD 4 false = true ∧ True) ∧ (ls.getD 6 false = true → ls.getD 3 false = true ∧ ls.getD 5 false = true ∧ True) ∧ (ls.getD 7 false = true → Below w.heap.size wc w' ∧ SpanAt w' (w.heap.size + 1) x1 x2 x3) ∧ (ls.getD 7 false = true → ∀ i, i < 8 → ls.getD i false = true)) ?_ ?_ ?_
    · exact ⟨_, _, _, _, _, _, _, rfl, rfl, fun _ => bdrew (brefl _), fun h => (by cases h), fun h => (by cases h), fun h => (by cases h), fun h => (by cases h), fun h => (by cases h), fun h => (by cases h), fun h => (by cases h), fun h => (by cases h), fun h => (by cases h), fun h => (by cases h), fun h => (by cases h), fun h => (by cases h), fun h => (by cases h)⟩
    · intro i hii
      have hin : i < 8 := hii
      have hor : i = 0 ∨ i = 1 ∨ i = 2 ∨ i = 3 ∨ i = 4 ∨ i = 5 ∨ i = 6 ∨ i = 7 := (by decide : ∀ i : Nat, i < 8 → (i = 0 ∨ i = 1 ∨ i = 2 ∨ i = 3 ∨ i = 4 ∨ i = 5 ∨ i = 6 ∨ i = 7)) i hin
      rcases hor with rfl | rfl | rfl | rfl | rfl | rfl | rfl | rfl
      · rintro ls ac w' hr ⟨v21, v22, v23, v24, v25, v26, v27, rfl, hl, hB', zg0, zg1, zg2, zg3, zg4, zg5, zg6, zc1, zc3, zc5, zc6, hS, hK⟩
        have hs0 : ls.getD 7 false = false := by cases hc : ls.getD 7 false with | false => rfl | true => (exfalso; have hz := hK hc 0 (by decide); have hn := (ready_dep hr rfl).1; rw [getD_both hz] at hn; cases hn)
        have hB := hB' hs0
        have a0 := (hB.cell (ltc a0')).trans a0'
        have a1 := (hB.cell (ltc a1')).trans a1'
        have a2 := (hB.cell (ltc a2')).trans a2'
        have a3 := (hB.cell (ltc k0')).trans k0'
        have a4 := (hB.cell (ltc k1')).trans k1'
        have a5 := (hB.cell (ltc k2')).trans k2'
        refine wpOp_step rfl (fun K hK => ?_)
        clear hr
        go_simp
        refine hK _ _ ?_
        simp only [getD_own (l := ls) (i := 0) (by omega), gq 0 1, gq 0 2, gq 0 3, gq 0 4, gq 0 5, gq 0 6, gq 0 7]
        exact ⟨_, v22, v23, v24, v25, v26, v27, rfl, by simp [hl], fun _ => hB, fun _ => rfl, zg1, zg2, zg3, zg4, zg5, zg6, fun h => ⟨(by first | rfl | trivial), trivial⟩, zc3, zc5, zc6, fun h => (by rw [hs0] at h; cases h), fun h => (by rw [hs0] at h; cases h)⟩
      · rintro ls ac w' hr ⟨v21, v22, v23, v24, v25, v26, v27, rfl, hl, hB', zg0, zg1, zg2, zg3, zg4, zg5, zg6, zc1, zc3, zc5, zc6, hS, hK⟩
        have zd0 := rdd hr 0
        have hs0 : ls.getD 7 false = false := by cases hc : ls.getD 7 false with | false => rfl | true => (exfalso; have hz := hK hc 1 (by decide); have hn := (ready_dep hr rfl).1; rw [getD_both hz] at hn; cases hn)
        have hB := hB' hs0
        obtain rfl := zg0 zd0
        refine wpOp_step rfl (fun K hK => ?_)
        clear hr
        go_simp
        refine (wider_is _ _ _ _ _).mono ?_
        rintro e w1 ⟨v, rfl, hk, hp⟩
        dsimp only
        refine hK _ _ ?_
        simp only [getD_own (l := ls) (i := 1) (by omega), gq 1 0, gq 1 2, gq 1 3, gq 1 4, gq 1 5, gq 1 6, gq 1 7]
        exact ⟨_, _, v23, v24, v25, v26, v27, rfl, by simp [hl], fun _ => bstep hB hk, fun _ => rfl, fun _ _ => hp, zg2, zg3, zg4, zg5, zg6, fun _ => ⟨zd0, trivial⟩, fun h => ⟨(by first | rfl | trivial), (zc3 h).2.1, trivial⟩, zc5, zc6, fun h => (by rw [hs0] at h; cases h), fun h => (by rw [hs0] at h; cases h)⟩
      · rintro ls ac w' hr ⟨v21, v22, v23, v24, v25, v26, v27, rfl, hl, hB', zg0, zg1, zg2, zg3, zg4, zg5, zg6, zc1, zc3, zc5, zc6, hS, hK⟩
        have hs0 : ls.getD 7 false = false := by cases hc : ls.getD 7 false with | false => rfl | true => (exfalso; have hz := hK hc 2 (by decide); have hn := (ready_dep hr rfl).1; rw [getD_both hz] at hn; cases hn)
        have hB := hB' hs0
        have a0 := (hB.cell (ltc a0')).trans a0'
        have a1 := (hB.cell (ltc a1')).trans a1'
        have a2 := (hB.cell (ltc a2')).trans a2'
        have a3 := (hB.cell (ltc k0')).trans k0'
        have a4 := (hB.cell (ltc k1')).trans k1'
        have a5 := (hB.cell (ltc k2')).trans k2'
        refine wpOp_step rfl (fun K hK => ?_)
        clear hr
        go_simp
        refine hK _ _ ?_
        simp only [getD_own (l := ls) (i := 2) (by omega), gq 2 0, gq 2 1, gq 2 3, gq 2 4, gq 2 5, gq 2 6, gq 2 7]
        exact ⟨v21, v22, _, v24, v25, v26, v27, rfl, by simp [hl], fun _ => hB, zg0, zg1, fun _ => rfl, zg3, zg4, zg5, zg6, zc1, fun h => ⟨(zc3 h).1, (by first | rfl | trivial), trivial⟩, zc5, zc6, fun h => (by rw [hs0] at h; cases h), fun h => (by rw [hs0] at h; cases h)⟩
      · rintro ls ac w' hr ⟨v21, v22, v23, v24, v25, v26, v27, rfl, hl, hB', zg0, zg1, zg2, zg3, zg4, zg5, zg6, zc1, zc3, zc5, zc6, hS, hK⟩
        have zd1 := rdd hr 1
        have zd2 := rdd hr 2
        have zd0 := (zc1 zd1).1
        have hs0 : ls.getD 7 false = false := by cases hc : ls.getD 7 false with | false => rfl | true => (exfalso; have hz := hK hc 3 (by decide); have hn := (ready_dep hr rfl).1; rw [getD_both hz] at hn; cases hn)
        have hB := hB' hs0
        obtain ⟨bp, bt, rfl, W1, W2, W3, W4⟩ := zg1 zd1 hs0
        have w1' := W1.1
        have w2' := W2.1
        have w3' := W3.1
        have w4' := W4.1
        obtain rfl := zg2 zd2
        obtain rfl := zg0 zd0
        refine wpOp_step rfl (fun K hK => ?_)
        clear hr
        go_simp
        refine (wider1_is _ _ _ _ _ _ _ _ _ _ (by decide) (by decide) Hd _ _ _ W1 W2 W3 W4).mono ?_
        rintro e w1 ⟨rfl, hk⟩
        dsimp only
        refine hK _ _ ?_
        simp only [getD_own (l := ls) (i := 3) (by omega), gq 3 0, gq 3 1, gq 3 2, gq 3 4, gq 3 5, gq 3 6, gq 3 7]
        exact ⟨_, _, _, _, v25, v26, v27, rfl, by simp [hl], fun _ => bstep hB hk, fun _ => rfl, fun _ _ => ⟨bp, bt, rfl, W1.keep hk, W2.keep hk, W3.keep hk, W4.keep hk⟩, fun _ => rfl, fun _ => rfl, zg4, zg5, zg6, zc1, fun _ => ⟨zd1, zd2, trivial⟩, zc5, fun h => ⟨(by first | rfl | trivial), (zc6 h).2.1, trivial⟩, fun h => (by rw [hs0] at h; cases h), fun h => (by rw [hs0] at h; cases h)⟩
      · rintro ls ac w' hr ⟨v21, v22, v23, v24, v25, v26, v27, rfl, hl, hB', zg0, zg1, zg2, zg3, zg4, zg5, zg6, zc1, zc3, zc5, zc6, hS, hK⟩
        have hs0 : ls.getD 7 false = false := by cases hc : ls.getD 7 false with | false => rfl | true => (exfalso; have hz := hK hc 4 (by decide); have hn := (ready_dep hr rfl).1; rw [getD_both hz] at hn; cases hn)
        have hB := hB' hs0
        refine wpOp_step rfl (fun K hK => ?_)
        clear hr
        go_simp
        refine hK _ _ ?_
        simp only [getD_own (l := ls) (i := 4) (by omega), gq 4 0, gq 4 1, gq 4 2, gq 4 3, gq 4 5, gq 4 6, gq 4 7]
        exact ⟨v21, v22, v23, v24, _, v26, v27, rfl, by simp [hl], fun _ => hB, zg0, zg1, zg2, zg3, fun _ => rfl, zg5, zg6, zc1, zc3, fun h => ⟨(by first | rfl | trivial), trivial⟩, zc6, fun h => (by rw [hs0] at h; cases h), fun h => (by rw [hs0] at h; cases h)⟩
      · rintro ls ac w' hr ⟨v21, v22, v23, v24, v25, v26, v27, rfl, hl, hB', zg0, zg1, zg2, zg3, zg4, zg5, zg6, zc1, zc3, zc5, zc6, hS, hK⟩
        have zd4 := rdd hr 4
        have hs0 : ls.getD 7 false = false := by cases hc : ls.getD 7 false with | false => rfl | true => (exfalso; have hz := hK hc 5 (by decide); have hn := (ready_dep hr rfl).1; rw [getD_both hz] at hn; cases hn)
        have hB := hB' hs0
        obtain rfl := zg4 zd4
        refine wpOp_step rfl (fun K hK => ?_)
        clear hr
        go_simp
        refine (alone_is _ _ _ _ Ha _).mono ?_
        rintro e w1 ⟨rfl, hk⟩
        dsimp only
        refine hK _ _ ?_
        simp only [getD_own (l := ls) (i := 5) (by omega), gq 5 0, gq 5 1, gq 5 2, gq 5 3, gq 5 4, gq 5 6, gq 5 7]
        exact ⟨v21, v22, v23, v24, _, _, v27, rfl, by simp [hl], fun _ => bstep hB hk, zg0, fun h h2 => (zg1 h h2).keep hk, zg2, zg3, fun _ => rfl, fun _ => rfl, zg6, zc1, zc3, fun _ => ⟨zd4, trivial⟩, fun h => ⟨(zc6 h).1, (by first | rfl | trivial), trivial⟩, fun h => (by rw [hs0] at h; cases h), fun h => (by rw [hs0] at h; cases h)⟩
      · rintro ls ac w' hr ⟨v21, v22, v23, v24, v25, v26, v27, rfl, hl, hB', zg0, zg1, zg2, zg3, zg4, zg5, zg6, zc1, zc3, zc5, zc6, hS, hK⟩
        have zd3 := rdd hr 3
        have zd5 := rdd hr 5
        have zd1 := (zc3 zd3).1
        have zd2 := (zc3 zd3).2.1
        have zd4 := (zc5 zd5).1
        have zd0 := (zc1 zd1).1
        have hs0 : ls.getD 7 false = false := by cases hc : ls.getD 7 false with | false => rfl | true => (exfalso; have hz := hK hc 6 (by decide); have hn := (ready_dep hr rfl).1; rw [getD_both hz] at hn; cases hn)
        have hB := hB' hs0
        obtain rfl := zg3 zd3
        obtain rfl := zg5 zd5
        obtain rfl := zg2 zd2
        obtain rfl := zg4 zd4
        obtain rfl := zg0 zd0
        refine wpOp_step rfl (fun K hK => ?_)
        clear hr
        go_simp
        refine (SpSub_is _ _ _ _ _ _ _ _ _ HX _).mono ?_
        rintro e w1 ⟨rfl, hk⟩
        dsimp only
        refine hK _ _ ?_
        simp only [getD_own (l := ls) (i := 6) (by omega), gq 6 0, gq 6 1, gq 6 2, gq 6 3, gq 6 4, gq 6 5, gq 6 7]
        exact ⟨_, v22, _, _, _, _, _, rfl, by simp [hl], fun _ => bstep hB hk, fun _ => rfl, fun h h2 => (zg1 h h2).keep hk, fun _ => rfl, fun _ => rfl, fun _ => rfl, fun _ => rfl, fun _ => rfl, zc1, zc3, zc5, fun _ => ⟨zd3, zd5, trivial⟩, fun h => (by rw [hs0] at h; cases h), fun h => (by rw [hs0] at h; cases h)⟩
      · rintro ls ac w' hr ⟨v21, v22, v23, v24, v25, v26, v27, rfl, hl, hB', zg0, zg1, zg2, zg3, zg4, zg5, zg6, zc1, zc3, zc5, zc6, hS, hK⟩
        have zd6 := rdd hr 6
        have zd3 := (zc6 zd6).1
        have zd5 := (zc6 zd6).2.1
        have zd1 := (zc3 zd3).1
        have zd2 := (zc3 zd3).2.1
        have zd4 := (zc5 zd5).1
        have zd0 := (zc1 zd1).1
        obtain rfl := zg6 zd6
        obtain rfl := zg3 zd3
        obtain rfl := zg5 zd5
        obtain rfl := zg2 zd2
        obtain rfl := zg4 zd4
        obtain rfl := zg0 zd0
        have hns : ls.getD 7 false = false := by cases hc : ls.getD 7 false with | false => rfl | true => (exfalso; have hn := (ready_dep hr rfl).1; rw [getD_both hc] at hn; cases hn)
        have hB := hB' hns
        have hall : ∀ i, i < 8 → (ls.setIfInBounds 7 true).getD i false = true := by intro i hi; have hi' : i = 0 ∨ i = 1 ∨ i = 2 ∨ i = 3 ∨ i = 4 ∨ i = 5 ∨ i = 6 ∨ i = 7 := (by decide : ∀ i : Nat, i < 8 → (i = 0 ∨ i = 1 ∨ i = 2 ∨ i = 3 ∨ i = 4 ∨ i = 5 ∨ i = 6 ∨ i = 7)) i hi; rcases hi' with rfl | rfl | rfl | rfl | rfl | rfl | rfl | rfl <;> first | exact getD_own (by omega) | (rw [getD_set ls (by decide)]; assumption)
        have hSp := SpanAt.keep hB hR
        have hT := span_sets (x := x1) (y := x2) (z := x3) hSp
        have zs0 := (hSp).1.1
        have zs1 := (hSp).2.1.1
        have zs2 := (hSp).2.2.1
        have zs3 := (hSp).1.2
        have zs4 := (hSp).2.1.2
        have zs5 := (hSp).2.2.2
        refine wpOp_step rfl (fun K hK' => ?_)
        clear hr
        clear hSp
        go_simp
        refine hK' _ _ ?_
        simp only [getD_own (l := ls) (i := 7) (by omega), gq 7 0, gq 7 1, gq 7 2, gq 7 3, gq 7 4, gq 7 5, gq 7 6]
        exact ⟨_, v22, _, _, _, _, _, rfl, by simp [hl], fun h => (by cases h), fun _ => rfl, fun _ h => (by cases h), fun _ => rfl, fun _ => rfl, fun _ => rfl, fun _ => rfl, fun _ => rfl, zc1, zc3, zc5, zc6, fun _ => ⟨(hB.mono hwc.size).trans (hT.2.2 _ (Nat.le_succ _)), hT.1⟩, fun _ => hall⟩
    · rintro ls ac w' ⟨v21, v22, v23, v24, v25, v26, v27, rfl, hl, hB', zg0, zg1, zg2, zg3, zg4, zg5, zg6, zc1, zc3, zc5, zc6, hS, hK⟩ hr
      have hall := ready_allb (by decide) hl hr
      have hSx := hS (hall 7 (by decide))
      have x0' := hSx.2.1.1
      have x1' := hSx.2.2.1.1
      have x2' := hSx.2.2.2.1
      go_wp2
      exact bodyPost_ret (v := .agg #[.int .i64 x1, .int .i64 x2, .bool x3]) (by simp [results, Try.results67, go_sem, x0', x1', x2']) rfl ⟨rfl, hwc.trans hSx.1⟩
end Go.Proofs.Ytnphbdhcoiaklaa
namespace Go.Proofs.Ytnphbdhcoiaklaa
open Go.RowKit

set_option maxRecDepth 100000 in
set_option maxHeartbeats 4000000 in
theorem Mean_is (mn mx g x0 x1 x2 x3 c0 c1 y1 y2 : Int) (y3 : Bool) (hc0 : I64 c0) (hc1 : I64 c1) (H : Hid (dMean mn mx g x0 x1 x2 x3 c0 c1 = ⟨y1, y2, y3⟩)) (w : World) :
    Calls Try.prog 72 #[.agg #[.int .i64 mn, .int .i64 mx, .int .i64 g], .agg #[.int .i64 x0, .int .i64 x1, .int .i64 x2, .int .i64 x3], .agg #[.int .i64 c0, .int .i64 c1]] w fun e w' => e = .returned (.agg #[.int .i64 y1, .int .i64 y2, .bool y3]) ∧ Below w.heap.size w w' := by
  obtain ⟨⟨a1, a2, a3⟩, ea⟩ : ∃ s, spOf x1 x1 = s := ⟨_, rfl⟩
  have Ha := Lib.hid ea
  obtain ⟨⟨b1, b2, b3⟩, eb⟩ : ∃ s, spOf x0 x0 = s := ⟨_, rfl⟩
  have Hb := Lib.hid eb
  obtain ⟨⟨d1, d2, d3⟩, ed⟩ : ∃ s, spSub ⟨a1, a2, a3⟩ ⟨b1, b2, b3⟩ = s := ⟨_, rfl⟩
  have Hd := Lib.hid ed
  obtain ⟨⟨e1, e2, e3⟩, ee⟩ : ∃ s, dCorr c0 = s := ⟨_, rfl⟩
  have He := Lib.hid ee
  obtain ⟨⟨f1, f2, f3⟩, ef⟩ : ∃ s, spSub ⟨d1, d2, d3⟩ ⟨e1, e2, e3⟩ = s := ⟨_, rfl⟩
  have Hf := Lib.hid ef
  obtain ⟨⟨i1, i2, i3⟩, ei⟩ : ∃ s, spOf x3 x3 = s := ⟨_, rfl⟩
  have Hi := Lib.hid ei
  obtain ⟨⟨j1, j2, j3⟩, ej⟩ : ∃ s, spOf x2 x2 = s := ⟨_, rfl⟩
  have Hj := Lib.hid ej
  obtain ⟨⟨k1, k2, k3⟩, ek⟩ : ∃ s, spSub ⟨i1, i2, i3⟩ ⟨j1, j2, j3⟩ = s := ⟨_, rfl⟩
  have Hk := Lib.hid ek
  obtain ⟨⟨l1, l2, l3⟩, el⟩ : ∃ s, dCorr c1 = s := ⟨_, rfl⟩
  have Hl := Lib.hid el
  obtain ⟨⟨m1, m2, m3⟩, em⟩ : ∃ s, spSub ⟨k1, k2, k3⟩ ⟨l1, l2, l3⟩ = s := ⟨_, rfl⟩
  have Hm := Lib.hid em
  obtain ⟨⟨n1, n2, n3⟩, en⟩ : ∃ s, spAdd ⟨f1, f2, f3⟩ ⟨m1, m2, m3⟩ = s := ⟨_, rfl⟩
  have Hn := Lib.hid en
  obtain ⟨⟨s1, s2, s3⟩, es⟩ : ∃ s, dWider mn mx g 4 ⟨n1, n2, n3⟩ = s := ⟨_, rfl⟩
  have Hs := Lib.hid es
  have HX : (if s3 = true then spOf (floorP s1 1 2).1 (ceilP s2 1 2).1 else spNo) = ⟨y1, y2, y3⟩ := by
    have hx := H.out
    unfold dMean dTwo at hx
    rw [ea, eb, ed, ee, ef, ei, ej, ek, el, em, en, es] at hx
    exact hx
  have HXh := Lib.hid HX
  clear H HX ea eb ed ee ef ei ej ek el em en es
  obtain ⟨fl1, fi, hfl⟩ : ∃ x p, floorP s1 1 2 = (x, p) := ⟨_, _, rfl⟩
  have HF := Lib.hid hfl
  obtain ⟨ce1, ci, hce⟩ : ∃ x p, ceilP s2 1 2 = (x, p) := ⟨_, _, rfl⟩
  have HC := Lib.hid hce
  clear hfl hce
  go_enter Try.func72, Try.ntmps72
  go_upto_region 1 with (fail)
  generalize hu : (((w.alloc (.cells #[.int .i64 mn, .int .i64 mx, .int .i64 g] 74)).alloc (.cells #[.int .i64 x0, .int .i64 x1, .int .i64 x2, .int .i64 x3] 72)).alloc (.cells #[.int .i64 c0, .int .i64 c1] 73)).alloc (.cells #[.int .i64 0, .int .i64 0, .bool false] 50) = z
  have hb : Below w.heap.size w z := by rw [← hu]; exact balloc (balloc (balloc (balloc (brefl _) _) _) _) _
  have qB0_0 : CellF z ⟨w.heap.size, 0, none⟩ (.int .i64 mn) := by rw [← hu]; repeat (first | with_reducible exact CellF.at_ (by simp) rfl | with_reducible refine CellF.past _ ?_)
  have cB0_0 := qB0_0.1
  have qB0_1 : CellF z ⟨w.heap.size, 1, none⟩ (.int .i64 mx) := by rw [← hu]; repeat (first | with_reducible exact CellF.at_ (by simp) rfl | with_reducible refine CellF.past _ ?_)
  have cB0_1 := qB0_1.1
  have qB0_2 : CellF z ⟨w.heap.size, 2, none⟩ (.int .i64 g) := by rw [← hu]; repeat (first | with_reducible exact CellF.at_ (by simp) rfl | with_reducible refine CellF.past _ ?_)
  have cB0_2 := qB0_2.1
  have zB0 := ltc cB0_0
  have qB1_0 : CellF z ⟨(w.heap.size + 1), 0, none⟩ (.int .i64 x0) := by rw [← hu]; repeat (first | with_reducible exact CellF.at_ (by simp) rfl | with_reducible refine CellF.past _ ?_)
  have cB1_0 := qB1_0.1
  have qB1_1 : CellF z ⟨(w.heap.size + 1), 1, none⟩ (.int .i64 x1) := by rw [← hu]; repeat (first | with_reducible exact CellF.at_ (by simp) rfl | with_reducible refine CellF.past _ ?_)
  have cB1_1 := qB1_1.1
  have qB1_2 : CellF z ⟨(w.heap.size + 1), 2, none⟩ (.int .i64 x2) := by rw [← hu]; repeat (first | with_reducible exact CellF.at_ (by simp) rfl | with_reducible refine CellF.past _ ?_)
  have cB1_2 := qB1_2.1
  have qB1_3 : CellF z ⟨(w.heap.size + 1), 3, none⟩ (.int .i64 x3) := by rw [← hu]; repeat (first | with_reducible exact CellF.at_ (by simp) rfl | with_reducible refine CellF.past _ ?_)
  have cB1_3 := qB1_3.1
  have zB1 := ltc cB1_0
  have qB2_0 : CellF z ⟨(w.heap.size + 2), 0, none⟩ (.int .i64 c0) := by rw [← hu]; repeat (first | with_reducible exact CellF.at_ (by simp) rfl | with_reducible refine CellF.past _ ?_)
  have cB2_0 := qB2_0.1
  have qB2_1 : CellF z ⟨(w.heap.size + 2), 1, none⟩ (.int .i64 c1) := by rw [← hu]; repeat (first | with_reducible exact CellF.at_ (by simp) rfl | with_reducible refine CellF.past _ ?_)
  have cB2_1 := qB2_1.1
  have zB2 := ltc cB2_0
  have qB3_0 : CellF z ⟨(w.heap.size + 3), 0, none⟩ (.int .i64 0) := by rw [← hu]; repeat (first | with_reducible exact CellF.at_ (by simp) rfl | with_reducible refine CellF.past _ ?_)
  have cB3_0 := qB3_0.1
  have qB3_1 : CellF z ⟨(w.heap.size + 3), 1, none⟩ (.int .i64 0) := by rw [← hu]; repeat (first | with_reducible exact CellF.at_ (by simp) rfl | with_reducible refine CellF.past _ ?_)
  have cB3_1 := qB3_1.1
  have qB3_2 : CellF z ⟨(w.heap.size + 3), 2, none⟩ (.bool false) := by rw [← hu]; repeat (first | with_reducible exact CellF.at_ (by simp) rfl | with_reducible refine CellF.past _ ?_)
  have cB3_2 := qB3_2.1
  have zB3 := ltc cB3_0
  clear hu
  go_upto_region 1 with (fail)
  go_cut [7] (fun v7 wd => ∃ bf, v7 = .pointer (some ⟨bf, 0, none⟩) ∧ Hid (Below w.heap.size w wd) ∧ Hid (CellF wd ⟨w.heap.size, 0, none⟩ (.int .i64 mn) ∧ CellF wd ⟨w.heap.size, 1, none⟩ (.int .i64 mx) ∧ CellF wd ⟨w.heap.size, 2, none⟩ (.int .i64 g)) ∧ Hid (CellF wd ⟨(w.heap.size + 1), 0, none⟩ (.int .i64 x0) ∧ CellF wd ⟨(w.heap.size + 1), 1, none⟩ (.int .i64 x1) ∧ CellF wd ⟨(w.heap.size + 1), 2, none⟩ (.int .i64 x2) ∧ CellF wd ⟨(w.heap.size + 1), 3, none⟩ (.int .i64 x3)) ∧ Hid (CellF wd ⟨(w.heap.size + 2), 0, none⟩ (.int .i64 c0) ∧ CellF wd ⟨(w.heap.size + 2), 1, none⟩ (.int .i64 c1)) ∧ Hid (CellF wd ⟨(w.heap.size + 3), 0, none⟩ (.int .i64 0) ∧ CellF wd ⟨(w.heap.size + 3), 1, none⟩ (.int .i64 0) ∧ CellF wd ⟨(w.heap.size + 3), 2, none⟩ (.bool false)) ∧ Hid (SpanAt wd bf f1 f2 f3))
  case first =>
    refine wp_region_inv (by kernel_rfl) (fun ls ac w' => ∃ v7 v14 v15 v16 v17 v18 v19 v20 v21 v22 v23 v24, ac = ⟨#[.agg #[.int .i64 mn, .int .i64 mx, .int .i64 g], .agg #[.int .i64 x0, .int .i64 x1, .int .i64 x2, .int .i64 x3], .agg #[.int .i64 c0, .int .i64 c1], .pointer (some ⟨w.heap.size, 0, none⟩), .pointer (some ⟨w.heap.size + 1, 0, none⟩), .pointer (some ⟨w.heap.size + 2, 0, none⟩), .pointer (some ⟨w.heap.size + 3, 0, none⟩), v7, undef, undef, undef, undef, undef, undef, v14, v15, v16, v17, v18, v19, v20, v21, v22, v23, v24, undef, undef, undef, undef, undef, undef, undef, undef, undef, undef, undef, undef, undef, undef, undef, undef, undef, undef, undef, undef, undef, undef, undef, undef, undef, undef, undef, undef, undef, undef, undef, undef, undef, undef, undef, undef], []⟩ ∧ ls.size = 13 ∧ Below z.heap.size z w' ∧ (ls.getD 0 false = true → v14 = .pointer (some ⟨w.heap.size + 1, 1, none⟩)) ∧ (ls.getD 1 false = true → v15 = .int .i64 x1) ∧ (ls.getD 2 false = true → v16 = .agg #[.int .i64 a1, .int .i64 a2, .bool a3]) ∧ (ls.getD 3 false = true → v17 = .pointer (some ⟨w.heap.size + 1, 0, none⟩)) ∧ (ls.getD 4 false = true → v18 = .int .i64 x0) ∧ (ls.getD 5 false = true → v19 = .agg #[.int .i64 b1, .int .i64 b2, .bool b3]) ∧ (ls.getD 6 false = true → v20 = .agg #[.int .i64 d1, .int .i64 d2, .bool d3]) ∧ (ls.getD 7 false = true → v21 = .pointer (some ⟨w.heap.size + 2, 0, none⟩)) ∧ (ls.getD 8 false = true → v22 = .int .i64 c0) ∧ (ls.getD 9 false = true → v23 = .agg #[.int .i64 e1, .int .i64 e2, .bool e3]) ∧ (ls.getD 10 false = true → v24 = .agg #[.int .i64 f1, .int .i64 f2, .bool f3]) ∧ (ls.getD 11 false = true → ∃ b, v7 = .pointer (some ⟨b, 0, none⟩) ∧ z.heap.size ≤ b ∧ (ls.getD 12 false = false → SpanAt w' b 0 0 false) ∧ (ls.getD 12 false = true → SpanAt w' b f1 f2 f3)) ∧ (ls.getD 12 false = true → ls.getD 11 false = true)) ?_ ?_ ?_
    · exact ⟨_, _, _, _, _, _, _, _, _, _, _, _, rfl, rfl, bdrew (brefl _), fun h => (by cases h), fun h => (by cases h), fun h => (by cases h), fun h => (by cases h), fun h => (by cases h), fun h => (by cases h), fun h => (by cases h), fun h => (by cases h), fun h => (by cases h), fun h => (by cases h), fun h => (by cases h), fun h => (by cases h), fun h => (by cases h)⟩
    · intro i hii
      have hin : i < 13 := hii
      have hor : i = 0 ∨ i = 1 ∨ i = 2 ∨ i = 3 ∨ i = 4 ∨ i = 5 ∨ i = 6 ∨ i = 7 ∨ i = 8 ∨ i = 9 ∨ i = 10 ∨ i = 11 ∨ i = 12 := (by decide : ∀ i : Nat, i < 13 → (i = 0 ∨ i = 1 ∨ i = 2 ∨ i = 3 ∨ i = 4 ∨ i = 5 ∨ i = 6 ∨ i = 7 ∨ i = 8 ∨ i = 9 ∨ i = 10 ∨ i = 11 ∨ i = 12)) i hin
      rcases hor with rfl | rfl | rfl | rfl | rfl | rfl | rfl | rfl | rfl | rfl | rfl | rfl | rfl
      · rintro ls ac w' hr ⟨v7, v14, v15, v16, v17, v18, v19, v20, v21, v22, v23, v24, rfl, hl, hB, zg0, zg1, zg2, zg3, zg4, zg5, zg6, zg7, zg8, zg9, zg10, zh1, zk1⟩
        refine wpOp_step rfl (fun K hK => ?_)
        clear hr
        go_simp
        refine hK _ _ ?_
        simp only [getD_own (l := ls) (i := 0) (by omega), gq 0 1, gq 0 2, gq 0 3, gq 0 4, gq 0 5, gq 0 6, gq 0 7, gq 0 8, gq 0 9, gq 0 10, gq 0 11, gq 0 12]
        exact ⟨v7, _, v15, v16, v17, v18, v19, v20, v21, v22, v23, v24, rfl, by simp [hl], hB, fun _ => rfl, zg1, zg2, zg3, zg4, zg5, zg6, zg7, zg8, zg9, zg10, zh1, zk1⟩
      · rintro ls ac w' hr ⟨v7, v14, v15, v16, v17, v18, v19, v20, v21, v22, v23, v24, rfl, hl, hB, zg0, zg1, zg2, zg3, zg4, zg5, zg6, zg7, zg8, zg9, zg10, zh1, zk1⟩
        have zd0 := rdd hr 0
        obtain rfl := zg0 zd0
        have a4 := (hB.cell (ltc cB1_1)).trans cB1_1
        refine wpOp_step rfl (fun K hK => ?_)
        clear hr
        go_simp
        refine hK _ _ ?_
        simp only [getD_own (l := ls) (i := 1) (by omega), gq 1 0, gq 1 2, gq 1 3, gq 1 4, gq 1 5, gq 1 6, gq 1 7, gq 1 8, gq 1 9, gq 1 10, gq 1 11, gq 1 12]
        exact ⟨v7, _, _, v16, v17, v18, v19, v20, v21, v22, v23, v24, rfl, by simp [hl], hB, fun _ => rfl, fun _ => rfl, zg2, zg3, zg4, zg5, zg6, zg7, zg8, zg9, zg10, zh1, zk1⟩
      · rintro ls ac w' hr ⟨v7, v14, v15, v16, v17, v18, v19, v20, v21, v22, v23, v24, rfl, hl, hB, zg0, zg1, zg2, zg3, zg4, zg5, zg6, zg7, zg8, zg9, zg10, zh1, zk1⟩
        have zd1 := rdd hr 1
        obtain rfl := zg1 zd1
        refine wpOp_step rfl (fun K hK => ?_)
        clear hr
        go_simp
        refine (alone_is _ _ _ _ Ha _).mono ?_
        rintro e w1 ⟨rfl, hk⟩
        dsimp only
        refine hK _ _ ?_
        simp only [getD_own (l := ls) (i := 2) (by omega), gq 2 0, gq 2 1, gq 2 3, gq 2 4, gq 2 5, gq 2 6, gq 2 7, gq 2 8, gq 2 9, gq 2 10, gq 2 11, gq 2 12]
        exact ⟨v7, v14, _, _, v17, v18, v19, v20, v21, v22, v23, v24, rfl, by simp [hl], bstep hB hk, zg0, fun _ => rfl, fun _ => rfl, zg3, zg4, zg5, zg6, zg7, zg8, zg9, zg10, fun h => (by obtain ⟨b, e1, e2, e4, e5⟩ := zh1 h; exact ⟨b, e1, e2, fun h => (e4 h).keep hk, fun h => (e5 h).keep hk⟩), zk1⟩
      · rintro ls ac w' hr ⟨v7, v14, v15, v16, v17, v18, v19, v20, v21, v22, v23, v24, rfl, hl, hB, zg0, zg1, zg2, zg3, zg4, zg5, zg6, zg7, zg8, zg9, zg10, zh1, zk1⟩
        refine wpOp_step rfl (fun K hK => ?_)
        clear hr
        go_simp
        refine hK _ _ ?_
        simp only [getD_own (l := ls) (i := 3) (by omega), gq 3 0, gq 3 1, gq 3 2, gq 3 4, gq 3 5, gq 3 6, gq 3 7, gq 3 8, gq 3 9, gq 3 10, gq 3 11, gq 3 12]
        exact ⟨v7, v14, v15, v16, _, v18, v19, v20, v21, v22, v23, v24, rfl, by simp [hl], hB, zg0, zg1, zg2, fun _ => rfl, zg4, zg5, zg6, zg7, zg8, zg9, zg10, zh1, zk1⟩
      · rintro ls ac w' hr ⟨v7, v14, v15, v16, v17, v18, v19, v20, v21, v22, v23, v24, rfl, hl, hB, zg0, zg1, zg2, zg3, zg4, zg5, zg6, zg7, zg8, zg9, zg10, zh1, zk1⟩
        have zd3 := rdd hr 3
        obtain rfl := zg3 zd3
        have a3 := (hB.cell (ltc cB1_0)).trans cB1_0
        refine wpOp_step rfl (fun K hK => ?_)
        clear hr
        go_simp
        refine hK _ _ ?_
        simp only [getD_own (l := ls) (i := 4) (by omega), gq 4 0, gq 4 1, gq 4 2, gq 4 3, gq 4 5, gq 4 6, gq 4 7, gq 4 8, gq 4 9, gq 4 10, gq 4 11, gq 4 12]
        exact ⟨v7, v14, v15, v16, _, _, v19, v20, v21, v22, v23, v24, rfl, by simp [hl], hB, zg0, zg1, zg2, fun _ => rfl, fun _ => rfl, zg5, zg6, zg7, zg8, zg9, zg10, zh1, zk1⟩
      · rintro ls ac w' hr ⟨v7, v14, v15, v16, v17, v18, v19, v20, v21, v22, v23, v24, rfl, hl, hB, zg0, zg1, zg2, zg3, zg4, zg5, zg6, zg7, zg8, zg9, zg10, zh1, zk1⟩
        have zd4 := rdd hr 4
        obtain rfl := zg4 zd4
        refine wpOp_step rfl (fun K hK => ?_)
        clear hr
        go_simp
        refine (alone_is _ _ _ _ Hb _).mono ?_
        rintro e w1 ⟨rfl, hk⟩
        dsimp only
        refine hK _ _ ?_
        simp only [getD_own (l := ls) (i := 5) (by omega), gq 5 0, gq 5 1, gq 5 2, gq 5 3, gq 5 4, gq 5 6, gq 5 7, gq 5 8, gq 5 9, gq 5 10, gq 5 11, gq 5 12]
        exact ⟨v7, v14, v15, v16, v17, _, _, v20, v21, v22, v23, v24, rfl, by simp [hl], bstep hB hk, zg0, zg1, zg2, zg3, fun _ => rfl, fun _ => rfl, zg6, zg7, zg8, zg9, zg10, fun h => (by obtain ⟨b, e1, e2, e4, e5⟩ := zh1 h; exact ⟨b, e1, e2, fun h => (e4 h).keep hk, fun h => (e5 h).keep hk⟩), zk1⟩
      · rintro ls ac w' hr ⟨v7, v14, v15, v16, v17, v18, v19, v20, v21, v22, v23, v24, rfl, hl, hB, zg0, zg1, zg2, zg3, zg4, zg5, zg6, zg7, zg8, zg9, zg10, zh1, zk1⟩
        have zd2 := rdd hr 2
        have zd5 := rdd hr 5
        obtain rfl := zg2 zd2
        obtain rfl := zg5 zd5
        refine wpOp_step rfl (fun K hK => ?_)
        clear hr
        go_simp
        refine (SpSub_is _ _ _ _ _ _ _ _ _ Hd _).mono ?_
        rintro e w1 ⟨rfl, hk⟩
        dsimp only
        refine hK _ _ ?_
        simp only [getD_own (l := ls) (i := 6) (by omega), gq 6 0, gq 6 1, gq 6 2, gq 6 3, gq 6 4, gq 6 5, gq 6 7, gq 6 8, gq 6 9, gq 6 10, gq 6 11, gq 6 12]
        exact ⟨v7, v14, v15, _, v17, v18, _, _, v21, v22, v23, v24, rfl, by simp [hl], bstep hB hk, zg0, zg1, fun _ => rfl, zg3, zg4, fun _ => rfl, fun _ => rfl, zg7, zg8, zg9, zg10, fun h => (by obtain ⟨b, e1, e2, e4, e5⟩ := zh1 h; exact ⟨b, e1, e2, fun h => (e4 h).keep hk, fun h => (e5 h).keep hk⟩), zk1⟩
      · rintro ls ac w' hr ⟨v7, v14, v15, v16, v17, v18, v19, v20, v21, v22, v23, v24, rfl, hl, hB, zg0, zg1, zg2, zg3, zg4, zg5, zg6, zg7, zg8, zg9, zg10, zh1, zk1⟩
        refine wpOp_step rfl (fun K hK => ?_)
        clear hr
        go_simp
        refine hK _ _ ?_
        simp only [getD_own (l := ls) (i := 7) (by omega), gq 7 0, gq 7 1, gq 7 2, gq 7 3, gq 7 4, gq 7 5, gq 7 6, gq 7 8, gq 7 9, gq 7 10, gq 7 11, gq 7 12]
        exact ⟨v7, v14, v15, v16, v17, v18, v19, v20, _, v22, v23, v24, rfl, by simp [hl], hB, zg0, zg1, zg2, zg3, zg4, zg5, zg6, fun _ => rfl, zg8, zg9, zg10, zh1, zk1⟩
      · rintro ls ac w' hr ⟨v7, v14, v15, v16, v17, v18, v19, v20, v21, v22, v23, v24, rfl, hl, hB, zg0, zg1, zg2, zg3, zg4, zg5, zg6, zg7, zg8, zg9, zg10, zh1, zk1⟩
        have zd7 := rdd hr 7
        obtain rfl := zg7 zd7
        have a7 := (hB.cell (ltc cB2_0)).trans cB2_0
        refine wpOp_step rfl (fun K hK => ?_)
        clear hr
        go_simp
        refine hK _ _ ?_
        simp only [getD_own (l := ls) (i := 8) (by omega), gq 8 0, gq 8 1, gq 8 2, gq 8 3, gq 8 4, gq 8 5, gq 8 6, gq 8 7, gq 8 9, gq 8 10, gq 8 11, gq 8 12]
        exact ⟨v7, v14, v15, v16, v17, v18, v19, v20, _, _, v23, v24, rfl, by simp [hl], hB, zg0, zg1, zg2, zg3, zg4, zg5, zg6, fun _ => rfl, fun _ => rfl, zg9, zg10, zh1, zk1⟩
      · rintro ls ac w' hr ⟨v7, v14, v15, v16, v17, v18, v19, v20, v21, v22, v23, v24, rfl, hl, hB, zg0, zg1, zg2, zg3, zg4, zg5, zg6, zg7, zg8, zg9, zg10, zh1, zk1⟩
        have zd8 := rdd hr 8
        obtain rfl := zg8 zd8
        refine wpOp_step rfl (fun K hK => ?_)
        clear hr
        go_simp
        refine (correction_is _ hc0 _ _ _ He _).mono ?_
        rintro e w1 ⟨rfl, hk⟩
        dsimp only
        refine hK _ _ ?_
        simp only [getD_own (l := ls) (i := 9) (by omega), gq 9 0, gq 9 1, gq 9 2, gq 9 3, gq 9 4, gq 9 5, gq 9 6, gq 9 7, gq 9 8, gq 9 10, gq 9 11, gq 9 12]
        exact ⟨v7, v14, v15, v16, v17, v18, v19, v20, v21, _, _, v24, rfl, by simp [hl], bstep hB hk, zg0, zg1, zg2, zg3, zg4, zg5, zg6, zg7, fun _ => rfl, fun _ => rfl, zg10, fun h => (by obtain ⟨b, e1, e2, e4, e5⟩ := zh1 h; exact ⟨b, e1, e2, fun h => (e4 h).keep hk, fun h => (e5 h).keep hk⟩), zk1⟩
      · rintro ls ac w' hr ⟨v7, v14, v15, v16, v17, v18, v19, v20, v21, v22, v23, v24, rfl, hl, hB, zg0, zg1, zg2, zg3, zg4, zg5, zg6, zg7, zg8, zg9, zg10, zh1, zk1⟩
        have zd6 := rdd hr 6
        have zd9 := rdd hr 9
        obtain rfl := zg6 zd6
        obtain rfl := zg9 zd9
        refine wpOp_step rfl (fun K hK => ?_)
        clear hr
        go_simp
        refine (SpSub_is _ _ _ _ _ _ _ _ _ Hf _).mono ?_
        rintro e w1 ⟨rfl, hk⟩
        dsimp only
        refine hK _ _ ?_
        simp only [getD_own (l := ls) (i := 10) (by omega), gq 10 0, gq 10 1, gq 10 2, gq 10 3, gq 10 4, gq 10 5, gq 10 6, gq 10 7, gq 10 8, gq 10 9, gq 10 11, gq 10 12]
        exact ⟨v7, v14, v15, v16, v17, v18, v19, _, v21, v22, _, _, rfl, by simp [hl], bstep hB hk, zg0, zg1, zg2, zg3, zg4, zg5, fun _ => rfl, zg7, zg8, fun _ => rfl, fun _ => rfl, fun h => (by obtain ⟨b, e1, e2, e4, e5⟩ := zh1 h; exact ⟨b, e1, e2, fun h => (e4 h).keep hk, fun h => (e5 h).keep hk⟩), zk1⟩
      · rintro ls ac w' hr ⟨v7, v14, v15, v16, v17, v18, v19, v20, v21, v22, v23, v24, rfl, hl, hB, zg0, zg1, zg2, zg3, zg4, zg5, zg6, zg7, zg8, zg9, zg10, zh1, zk1⟩
        have hz := hB.size
        have hn := (ready_dep hr rfl).1
        have hna : ls.getD 11 false = false := by cases hc : ls.getD 11 false with | false => rfl | true => (exfalso; have hs4 := getD_both hc; rw [hs4] at hn; cases hn)
        have hus : ls.getD 12 false = false := by cases hc : ls.getD 12 false with | false => rfl | true => (rw [zk1 hc] at hna; cases hna)
        refine wpOp_step rfl (fun K hK => ?_)
        clear hr
        go_simp
        refine hK _ _ ?_
        simp only [getD_own (l := ls) (i := 11) (by omega), gq 11 0, gq 11 1, gq 11 2, gq 11 3, gq 11 4, gq 11 5, gq 11 6, gq 11 7, gq 11 8, gq 11 9, gq 11 10, gq 11 12]
        exact ⟨_, v14, v15, v16, v17, v18, v19, v20, v21, v22, v23, v24, rfl, by simp [hl], balloc hB _, zg0, zg1, zg2, zg3, zg4, zg5, zg6, zg7, zg8, zg9, zg10, fun _ => ⟨_, rfl, hz, fun _ => SpanAt.new rfl, fun h => (by rw [hus] at h; cases h)⟩, fun _ => (by first | rfl | trivial)⟩
      · rintro ls ac w' hr ⟨v7, v14, v15, v16, v17, v18, v19, v20, v21, v22, v23, v24, rfl, hl, hB, zg0, zg1, zg2, zg3, zg4, zg5, zg6, zg7, zg8, zg9, zg10, zh1, zk1⟩
        have zd11 := rdd hr 11
        have zd10 := rdd hr 10
        obtain rfl := zg10 zd10
        have hn := (ready_dep hr rfl).1
        have hns : ls.getD 12 false = false := by cases hc : ls.getD 12 false with | false => rfl | true => (exfalso; have hs4 := getD_both hc; rw [hs4] at hn; cases hn)
        obtain ⟨b, rfl, hub, e4, _⟩ := zh1 zd11
        have hS := e4 hns
        have hT := span_sets (x := f1) (y := f2) (z := f3) hS
        have zs0 := (hS).1.1
        have zs1 := (hS).2.1.1
        have zs2 := (hS).2.2.1
        have zs3 := (hS).1.2
        have zs4 := (hS).2.1.2
        have zs5 := (hS).2.2.2
        refine wpOp_step rfl (fun K hK => ?_)
        clear hr
        clear hS e4
        go_simp
        refine hK _ _ ?_
        simp only [getD_own (l := ls) (i := 12) (by omega), gq 12 0, gq 12 1, gq 12 2, gq 12 3, gq 12 4, gq 12 5, gq 12 6, gq 12 7, gq 12 8, gq 12 9, gq 12 10, gq 12 11]
        exact ⟨_, v14, v15, v16, v17, v18, v19, v20, v21, v22, v23, _, rfl, by simp [hl], hB.trans (hT.2.2 _ hub), zg0, zg1, zg2, zg3, zg4, zg5, zg6, zg7, zg8, zg9, fun _ => rfl, fun _ => ⟨b, rfl, hub, fun h => (by cases h), fun _ => hT.1⟩, fun _ => zd11⟩
    · rintro ls ac w' ⟨v7, v14, v15, v16, v17, v18, v19, v20, v21, v22, v23, v24, rfl, hl, hB, zg0, zg1, zg2, zg3, zg4, zg5, zg6, zg7, zg8, zg9, zg10, zh1, zk1⟩ hr
      have hall := ready_allb (by decide) hl hr
      obtain ⟨b1, rfl, hub1, _, f1⟩ := zh1 (hall 11 (by decide))
      have F1 := f1 (hall 12 (by decide))
      go_wp2_with fail
      go_meet
      exact ⟨b1, rfl, Lib.hid (Below.trans hb (hB.mono (Below.size hb))), Lib.hid ⟨CellF.keep hB qB0_0, CellF.keep hB qB0_1, CellF.keep hB qB0_2⟩, Lib.hid ⟨CellF.keep hB qB1_0, CellF.keep hB qB1_1, CellF.keep hB qB1_2, CellF.keep hB qB1_3⟩, Lib.hid ⟨CellF.keep hB qB2_0, CellF.keep hB qB2_1⟩, Lib.hid ⟨CellF.keep hB qB3_0, CellF.keep hB qB3_1, CellF.keep hB qB3_2⟩, Lib.hid F1⟩
  case rest =>
    obtain ⟨bf, rfl, HB, HA0, HA1, HA2, HA3, XA0⟩ := hcut
    have hwA := HB.out
    have qHA0_0 := HA0.out.1
    have cHA0_0 := qHA0_0.1
    have qHA0_1 := HA0.out.2.1
    have cHA0_1 := qHA0_1.1
    have qHA0_2 := HA0.out.2.2
    have cHA0_2 := qHA0_2.1
    have zHA0 := ltc cHA0_0
    have qHA1_0 := HA1.out.1
    have cHA1_0 := qHA1_0.1
    have qHA1_1 := HA1.out.2.1
    have cHA1_1 := qHA1_1.1
    have qHA1_2 := HA1.out.2.2.1
    have cHA1_2 := qHA1_2.1
    have qHA1_3 := HA1.out.2.2.2
    have cHA1_3 := qHA1_3.1
    have zHA1 := ltc cHA1_0
    have qHA2_0 := HA2.out.1
    have cHA2_0 := qHA2_0.1
    have qHA2_1 := HA2.out.2
    have cHA2_1 := qHA2_1.1
    have zHA2 := ltc cHA2_0
    have qHA3_0 := HA3.out.1
    have cHA3_0 := qHA3_0.1
    have qHA3_1 := HA3.out.2.1
    have cHA3_1 := qHA3_1.1
    have qHA3_2 := HA3.out.2.2
    have cHA3_2 := qHA3_2.1
    have zHA3 := ltc cHA3_0
    have qXA0_0 := XA0.out.1
    have cXA0_0 := qXA0_0.1
    have qXA0_1 := XA0.out.2.1
    have cXA0_1 := qXA0_1.1
    have qXA0_2 := XA0.out.2.2
    have cXA0_2 := qXA0_2.1
    have zXA0 := ltc cXA0_0
    clear HB HA0 HA1 HA2 HA3 XA0
    go_upto_region 2 with (fail)
    go_cut [8] (fun v8 wd => ∃ bm, v8 = .pointer (some ⟨bm, 0, none⟩) ∧ Hid (Below w.heap.size w wd) ∧ Hid (CellF wd ⟨w.heap.size, 0, none⟩ (.int .i64 mn) ∧ CellF wd ⟨w.heap.size, 1, none⟩ (.int .i64 mx) ∧ CellF wd ⟨w.heap.size, 2, none⟩ (.int .i64 g)) ∧ Hid (CellF wd ⟨(w.heap.size + 1), 0, none⟩ (.int .i64 x0) ∧ CellF wd ⟨(w.heap.size + 1), 1, none⟩ (.int .i64 x1) ∧ CellF wd ⟨(w.heap.size + 1), 2, none⟩ (.int .i64 x2) ∧ CellF wd ⟨(w.heap.size + 1), 3, none⟩ (.int .i64 x3)) ∧ Hid (CellF wd ⟨(w.heap.size + 2), 0, none⟩ (.int .i64 c0) ∧ CellF wd ⟨(w.heap.size + 2), 1, none⟩ (.int .i64 c1)) ∧ Hid (CellF wd ⟨(w.heap.size + 3), 0, none⟩ (.int .i64 0) ∧ CellF wd ⟨(w.heap.size + 3), 1, none⟩ (.int .i64 0) ∧ CellF wd ⟨(w.heap.size + 3), 2, none⟩ (.bool false)) ∧ Hid (CellF wd ⟨bf, 0, none⟩ (.int .i64 f1) ∧ CellF wd ⟨bf, 1, none⟩ (.int .i64 f2) ∧ CellF wd ⟨bf, 2, none⟩ (.bool f3)) ∧ Hid (SpanAt wd bm m1 m2 m3))
    case first =>
      refine wp_region_inv (by kernel_rfl) (fun ls ac w' => ∃ v8 v25 v26 v27 v28 v29 v30 v31 v32 v33 v34 v35, ac = ⟨#[.agg #[.int .i64 mn, .int .i64 mx, .int .i64 g], .agg #[.int .i64 x0, .int .i64 x1, .int .i64 x2, .int .i64 x3], .agg #[.int .i64 c0, .int .i64 c1], .pointer (some ⟨w.heap.size, 0, none⟩), .pointer (some ⟨w.heap.size + 1, 0, none⟩), .pointer (some ⟨w.heap.size + 2, 0, none⟩), .pointer (some ⟨w.heap.size + 3, 0, none⟩), .pointer (some ⟨bf, 0, none⟩), v8, undef, undef, undef, undef, undef, u14, u15, u16, u17, u18, u19, u20, u21, u22, u23, u24, v25, v26, v27, v28, v29, v30, v31, v32, v33, v34, v35, u36, u37, u38, u39, u40, u41, u42, u43, u44, u45, u46, u47, u48, u49, u50, u51, u52, u53, u54, u55, u56, u57, u58, u59, u60], []⟩ ∧ ls.size = 13 ∧ Below wc.heap.size wc w' ∧ (ls.getD 0 false = true → v25 = .pointer (some ⟨w.heap.size + 1, 3, none⟩)) ∧ (ls.getD 1 false = true → v26 = .int .i64 x3) ∧ (ls.getD 2 false = true → v27 = .agg #[.int .i64 i1, .int .i64 i2, .bool i3]) ∧ (ls.getD 3 false = true → v28 = .pointer (some ⟨w.heap.size + 1, 2, none⟩)) ∧ (ls.getD 4 false = true → v29 = .int .i64 x2) ∧ (ls.getD 5 false = true → v30 = .agg #[.int .i64 j1, .int .i64 j2, .bool j3]) ∧ (ls.getD 6 false = true → v31 = .agg #[.int .i64 k1, .int .i64 k2, .bool k3]) ∧ (ls.getD 7 false = true → v32 = .pointer (some ⟨w.heap.size + 2, 1, none⟩)) ∧ (ls.getD 8 false = true → v33 = .int .i64 c1) ∧ (ls.getD 9 false = true → v34 = .agg #[.int .i64 l1, .int .i64 l2, .bool l3]) ∧ (ls.getD 10 false = true → v35 = .agg #[.int .i64 m1, .int .i64 m2, .bool m3]) ∧ (ls.getD 11 false = true → ∃ b, v8 = .pointer (some ⟨b, 0, none⟩) ∧ wc.heap.size ≤ b ∧ (ls.getD 12 false = false → SpanAt w' b 0 0 false) ∧ (ls.getD 12 false = true → SpanAt w' b m1 m2 m3)) ∧ (ls.getD 12 false = true → ls.getD 11 false = true)) ?_ ?_ ?_
      · exact ⟨_, _, _, _, _, _, _, _, _, _, _, _, rfl, rfl, bdrew (brefl _), fun h => (by cases h), fun h => (by cases h), fun h => (by cases h), fun h => (by cases h), fun h => (by cases h), fun h => (by cases h), fun h => (by cases h), fun h => (by cases h), fun h => (by cases h), fun h => (by cases h), fun h => (by cases h), fun h => (by cases h), fun h => (by cases h)⟩
      · intro i hii
        have hin : i < 13 := hii
        have hor : i = 0 ∨ i = 1 ∨ i = 2 ∨ i = 3 ∨ i = 4 ∨ i = 5 ∨ i = 6 ∨ i = 7 ∨ i = 8 ∨ i = 9 ∨ i = 10 ∨ i = 11 ∨ i = 12 := (by decide : ∀ i : Nat, i < 13 → (i = 0 ∨ i = 1 ∨ i = 2 ∨ i = 3 ∨ i = 4 ∨ i = 5 ∨ i = 6 ∨ i = 7 ∨ i = 8 ∨ i = 9 ∨ i = 10 ∨ i = 11 ∨ i = 12)) i hin
        rcases hor with rfl | rfl | rfl | rfl | rfl | rfl | rfl | rfl | rfl | rfl | rfl | rfl | rfl
        · rintro ls ac w' hr ⟨v8, v25, v26, v27, v28, v29, v30, v31, v32, v33, v34, v35, rfl, hl, hB, zg0, zg1, zg2, zg3, zg4, zg5, zg6, zg7, zg8, zg9, zg10, zh1, zk1⟩
          refine wpOp_step rfl (fun K hK => ?_)
          clear hr
          go_simp
          refine hK _ _ ?_
          simp only [getD_own (l := ls) (i := 0) (by omega), gq 0 1, gq 0 2, gq 0 3, gq 0 4, gq 0 5, gq 0 6, gq 0 7, gq 0 8, gq 0 9, gq 0 10, gq 0 11, gq 0 12]
          exact ⟨v8, _, v26, v27, v28, v29, v30, v31, v32, v33, v34, v35, rfl, by simp [hl], hB, fun _ => rfl, zg1, zg2, zg3, zg4, zg5, zg6, zg7, zg8, zg9, zg10, zh1, zk1⟩
        · rintro ls ac w' hr ⟨v8, v25, v26, v27, v28, v29, v30, v31, v32, v33, v34, v35, rfl, hl, hB, zg0, zg1, zg2, zg3, zg4, zg5, zg6, zg7, zg8, zg9, zg10, zh1, zk1⟩
          have zd0 := rdd hr 0
          obtain rfl := zg0 zd0
          have a6 := (hB.cell (ltc cHA1_3)).trans cHA1_3
          refine wpOp_step rfl (fun K hK => ?_)
          clear hr
          go_simp
          refine hK _ _ ?_
          simp only [getD_own (l := ls) (i := 1) (by omega), gq 1 0, gq 1 2, gq 1 3, gq 1 4, gq 1 5, gq 1 6, gq 1 7, gq 1 8, gq 1 9, gq 1 10, gq 1 11, gq 1 12]
          exact ⟨v8, _, _, v27, v28, v29, v30, v31, v32, v33, v34, v35, rfl, by simp [hl], hB, fun _ => rfl, fun _ => rfl, zg2, zg3, zg4, zg5, zg6, zg7, zg8, zg9, zg10, zh1, zk1⟩
        · rintro ls ac w' hr ⟨v8, v25, v26, v27, v28, v29, v30, v31, v32, v33, v34, v35, rfl, hl, hB, zg0, zg1, zg2, zg3, zg4, zg5, zg6, zg7, zg8, zg9, zg10, zh1, zk1⟩
          have zd1 := rdd hr 1
          obtain rfl := zg1 zd1
          refine wpOp_step rfl (fun K hK => ?_)
          clear hr
          go_simp
          refine (alone_is _ _ _ _ Hi _).mono ?_
          rintro e w1 ⟨rfl, hk⟩
          dsimp only
          refine hK _ _ ?_
          simp only [getD_own (l := ls) (i := 2) (by omega), gq 2 0, gq 2 1, gq 2 3, gq 2 4, gq 2 5, gq 2 6, gq 2 7, gq 2 8, gq 2 9, gq 2 10, gq 2 11, gq 2 12]
          exact ⟨v8, v25, _, _, v28, v29, v30, v31, v32, v33, v34, v35, rfl, by simp [hl], bstep hB hk, zg0, fun _ => rfl, fun _ => rfl, zg3, zg4, zg5, zg6, zg7, zg8, zg9, zg10, fun h => (by obtain ⟨b, e1, e2, e4, e5⟩ := zh1 h; exact ⟨b, e1, e2, fun h => (e4 h).keep hk, fun h => (e5 h).keep hk⟩), zk1⟩
        · rintro ls ac w' hr ⟨v8, v25, v26, v27, v28, v29, v30, v31, v32, v33, v34, v35, rfl, hl, hB, zg0, zg1, zg2, zg3, zg4, zg5, zg6, zg7, zg8, zg9, zg10, zh1, zk1⟩
          refine wpOp_step rfl (fun K hK => ?_)
          clear hr
          go_simp
          refine hK _ _ ?_
          simp only [getD_own (l := ls) (i := 3) (by omega), gq 3 0, gq 3 1, gq 3 2, gq 3 4, gq 3 5, gq 3 6, gq 3 7, gq 3 8, gq 3 9, gq 3 10, gq 3 11, gq 3 12]
          exact ⟨v8, v25, v26, v27, _, v29, v30, v31, v32, v33, v34, v35, rfl, by simp [hl], hB, zg0, zg1, zg2, fun _ => rfl, zg4, zg5, zg6, zg7, zg8, zg9, zg10, zh1, zk1⟩
        · rintro ls ac w' hr ⟨v8, v25, v26, v27, v28, v29, v30, v31, v32, v33, v34, v35, rfl, hl, hB, zg0, zg1, zg2, zg3, zg4, zg5, zg6, zg7, zg8, zg9, zg10, zh1, zk1⟩
          have zd3 := rdd hr 3
          obtain rfl := zg3 zd3
          have a5 := (hB.cell (ltc cHA1_2)).trans cHA1_2
          refine wpOp_step rfl (fun K hK => ?_)
          clear hr
          go_simp
          refine hK _ _ ?_
          simp only [getD_own (l := ls) (i := 4) (by omega), gq 4 0, gq 4 1, gq 4 2, gq 4 3, gq 4 5, gq 4 6, gq 4 7, gq 4 8, gq 4 9, gq 4 10, gq 4 11, gq 4 12]
          exact ⟨v8, v25, v26, v27, _, _, v30, v31, v32, v33, v34, v35, rfl, by simp [hl], hB, zg0, zg1, zg2, fun _ => rfl, fun _ => rfl, zg5, zg6, zg7, zg8, zg9, zg10, zh1, zk1⟩
        · rintro ls ac w' hr ⟨v8, v25, v26, v27, v28, v29, v30, v31, v32, v33, v34, v35, rfl, hl, hB, zg0, zg1, zg2, zg3, zg4, zg5, zg6, zg7, zg8, zg9, zg10, zh1, zk1⟩
          have zd4 := rdd hr 4
          obtain rfl := zg4 zd4
          refine wpOp_step rfl (fun K hK => ?_)
          clear hr
          go_simp
          refine (alone_is _ _ _ _ Hj _).mono ?_
          rintro e w1 ⟨rfl, hk⟩
          dsimp only
          refine hK _ _ ?_
          simp only [getD_own (l := ls) (i := 5) (by omega), gq 5 0, gq 5 1, gq 5 2, gq 5 3, gq 5 4, gq 5 6, gq 5 7, gq 5 8, gq 5 9, gq 5 10, gq 5 11, gq 5 12]
          exact ⟨v8, v25, v26, v27, v28, _, _, v31, v32, v33, v34, v35, rfl, by simp [hl], bstep hB hk, zg0, zg1, zg2, zg3, fun _ => rfl, fun _ => rfl, zg6, zg7, zg8, zg9, zg10, fun h => (by obtain ⟨b, e1, e2, e4, e5⟩ := zh1 h; exact ⟨b, e1, e2, fun h => (e4 h).keep hk, fun h => (e5 h).keep hk⟩), zk1⟩
        · rintro ls ac w' hr ⟨v8, v25, v26, v27, v28, v29, v30, v31, v32, v33, v34, v35, rfl, hl, hB, zg0, zg1, zg2, zg3, zg4, zg5, zg6, zg7, zg8, zg9, zg10, zh1, zk1⟩
          have zd2 := rdd hr 2
          have zd5 := rdd hr 5
          obtain rfl := zg2 zd2
          obtain rfl := zg5 zd5
          refine wpOp_step rfl (fun K hK => ?_)
          clear hr
          go_simp
          refine (SpSub_is _ _ _ _ _ _ _ _ _ Hk _).mono ?_
          rintro e w1 ⟨rfl, hk⟩
          dsimp only
          refine hK _ _ ?_
          simp only [getD_own (l := ls) (i := 6) (by omega), gq 6 0, gq 6 1, gq 6 2, gq 6 3, gq 6 4, gq 6 5, gq 6 7, gq 6 8, gq 6 9, gq 6 10, gq 6 11, gq 6 12]
          exact ⟨v8, v25, v26, _, v28, v29, _, _, v32, v33, v34, v35, rfl, by simp [hl], bstep hB hk, zg0, zg1, fun _ => rfl, zg3, zg4, fun _ => rfl, fun _ => rfl, zg7, zg8, zg9, zg10, fun h => (by obtain ⟨b, e1, e2, e4, e5⟩ := zh1 h; exact ⟨b, e1, e2, fun h => (e4 h).keep hk, fun h => (e5 h).keep hk⟩), zk1⟩
        · rintro ls ac w' hr ⟨v8, v25, v26, v27, v28, v29, v30, v31, v32, v33, v34, v35, rfl, hl, hB, zg0, zg1, zg2, zg3, zg4, zg5, zg6, zg7, zg8, zg9, zg10, zh1, zk1⟩
          refine wpOp_step rfl (fun K hK => ?_)
          clear hr
          go_simp
          refine hK _ _ ?_
          simp only [getD_own (l := ls) (i := 7) (by omega), gq 7 0, gq 7 1, gq 7 2, gq 7 3, gq 7 4, gq 7 5, gq 7 6, gq 7 8, gq 7 9, gq 7 10, gq 7 11, gq 7 12]
          exact ⟨v8, v25, v26, v27, v28, v29, v30, v31, _, v33, v34, v35, rfl, by simp [hl], hB, zg0, zg1, zg2, zg3, zg4, zg5, zg6, fun _ => rfl, zg8, zg9, zg10, zh1, zk1⟩
        · rintro ls ac w' hr ⟨v8, v25, v26, v27, v28, v29, v30, v31, v32, v33, v34, v35, rfl, hl, hB, zg0, zg1, zg2, zg3, zg4, zg5, zg6, zg7, zg8, zg9, zg10, zh1, zk1⟩
          have zd7 := rdd hr 7
          obtain rfl := zg7 zd7
          have a8 := (hB.cell (ltc cHA2_1)).trans cHA2_1
          refine wpOp_step rfl (fun K hK => ?_)
          clear hr
          go_simp
          refine hK _ _ ?_
          simp only [getD_own (l := ls) (i := 8) (by omega), gq 8 0, gq 8 1, gq 8 2, gq 8 3, gq 8 4, gq 8 5, gq 8 6, gq 8 7, gq 8 9, gq 8 10, gq 8 11, gq 8 12]
          exact ⟨v8, v25, v26, v27, v28, v29, v30, v31, _, _, v34, v35, rfl, by simp [hl], hB, zg0, zg1, zg2, zg3, zg4, zg5, zg6, fun _ => rfl, fun _ => rfl, zg9, zg10, zh1, zk1⟩
        · rintro ls ac w' hr ⟨v8, v25, v26, v27, v28, v29, v30, v31, v32, v33, v34, v35, rfl, hl, hB, zg0, zg1, zg2, zg3, zg4, zg5, zg6, zg7, zg8, zg9, zg10, zh1, zk1⟩
          have zd8 := rdd hr 8
          obtain rfl := zg8 zd8
          refine wpOp_step rfl (fun K hK => ?_)
          clear hr
          go_simp
          refine (correction_is _ hc1 _ _ _ Hl _).mono ?_
          rintro e w1 ⟨rfl, hk⟩
          dsimp only
          refine hK _ _ ?_
          simp only [getD_own (l := ls) (i := 9) (by omega), gq 9 0, gq 9 1, gq 9 2, gq 9 3, gq 9 4, gq 9 5, gq 9 6, gq 9 7, gq 9 8, gq 9 10, gq 9 11, gq 9 12]
          exact ⟨v8, v25, v26, v27, v28, v29, v30, v31, v32, _, _, v35, rfl, by simp [hl], bstep hB hk, zg0, zg1, zg2, zg3, zg4, zg5, zg6, zg7, fun _ => rfl, fun _ => rfl, zg10, fun h => (by obtain ⟨b, e1, e2, e4, e5⟩ := zh1 h; exact ⟨b, e1, e2, fun h => (e4 h).keep hk, fun h => (e5 h).keep hk⟩), zk1⟩
        · rintro ls ac w' hr ⟨v8, v25, v26, v27, v28, v29, v30, v31, v32, v33, v34, v35, rfl, hl, hB, zg0, zg1, zg2, zg3, zg4, zg5, zg6, zg7, zg8, zg9, zg10, zh1, zk1⟩
          have zd6 := rdd hr 6
          have zd9 := rdd hr 9
          obtain rfl := zg6 zd6
          obtain rfl := zg9 zd9
          refine wpOp_step rfl (fun K hK => ?_)
          clear hr
          go_simp
          refine (SpSub_is _ _ _ _ _ _ _ _ _ Hm _).mono ?_
          rintro e w1 ⟨rfl, hk⟩
          dsimp only
          refine hK _ _ ?_
          simp only [getD_own (l := ls) (i := 10) (by omega), gq 10 0, gq 10 1, gq 10 2, gq 10 3, gq 10 4, gq 10 5, gq 10 6, gq 10 7, gq 10 8, gq 10 9, gq 10 11, gq 10 12]
          exact ⟨v8, v25, v26, v27, v28, v29, v30, _, v32, v33, _, _, rfl, by simp [hl], bstep hB hk, zg0, zg1, zg2, zg3, zg4, zg5, fun _ => rfl, zg7, zg8, fun _ => rfl, fun _ => rfl, fun h => (by obtain ⟨b, e1, e2, e4, e5⟩ := zh1 h; exact ⟨b, e1, e2, fun h => (e4 h).keep hk, fun h => (e5 h).keep hk⟩), zk1⟩
        · rintro ls ac w' hr ⟨v8, v25, v26, v27, v28, v29, v30, v31, v32, v33, v34, v35, rfl, hl, hB, zg0, zg1, zg2, zg3, zg4, zg5, zg6, zg7, zg8, zg9, zg10, zh1, zk1⟩
          have hz := hB.size
          have hn := (ready_dep hr rfl).1
          have hna : ls.getD 11 false = false := by cases hc : ls.getD 11 false with | false => rfl | true => (exfalso; have hs4 := getD_both hc; rw [hs4] at hn; cases hn)
          have hus : ls.getD 12 false = false := by cases hc : ls.getD 12 false with | false => rfl | true => (rw [zk1 hc] at hna; cases hna)
          refine wpOp_step rfl (fun K hK => ?_)
          clear hr
          go_simp
          refine hK _ _ ?_
          simp only [getD_own (l := ls) (i := 11) (by omega), gq 11 0, gq 11 1, gq 11 2, gq 11 3, gq 11 4, gq 11 5, gq 11 6, gq 11 7, gq 11 8, gq 11 9, gq 11 10, gq 11 12]
          exact ⟨_, v25, v26, v27, v28, v29, v30, v31, v32, v33, v34, v35, rfl, by simp [hl], balloc hB _, zg0, zg1, zg2, zg3, zg4, zg5, zg6, zg7, zg8, zg9, zg10, fun _ => ⟨_, rfl, hz, fun _ => SpanAt.new rfl, fun h => (by rw [hus] at h; cases h)⟩, fun _ => (by first | rfl | trivial)⟩
        · rintro ls ac w' hr ⟨v8, v25, v26, v27, v28, v29, v30, v31, v32, v33, v34, v35, rfl, hl, hB, zg0, zg1, zg2, zg3, zg4, zg5, zg6, zg7, zg8, zg9, zg10, zh1, zk1⟩
          have zd11 := rdd hr 11
          have zd10 := rdd hr 10
          obtain rfl := zg10 zd10
          have hn := (ready_dep hr rfl).1
          have hns : ls.getD 12 false = false := by cases hc : ls.getD 12 false with | false => rfl | true => (exfalso; have hs4 := getD_both hc; rw [hs4] at hn; cases hn)
          obtain ⟨b, rfl, hub, e4, _⟩ := zh1 zd11
          have hS := e4 hns
          have hT := span_sets (x := m1) (y := m2) (z := m3) hS
          have zs0 := (hS).1.1
          have zs1 := (hS).2.1.1
          have zs2 := (hS).2.2.1
          have zs3 := (hS).1.2
          have zs4 := (hS).2.1.2
          have zs5 := (hS).2.2.2
          refine wpOp_step rfl (fun K hK => ?_)
          clear hr
          clear hS e4
          go_simp
          refine hK _ _ ?_
          simp only [getD_own (l := ls) (i := 12) (by omega), gq 12 0, gq 12 1, gq 12 2, gq 12 3, gq 12 4, gq 12 5, gq 12 6, gq 12 7, gq 12 8, gq 12 9, gq 12 10, gq 12 11]
          exact ⟨_, v25, v26, v27, v28, v29, v30, v31, v32, v33, v34, _, rfl, by simp [hl], hB.trans (hT.2.2 _ hub), zg0, zg1, zg2, zg3, zg4, zg5, zg6, zg7, zg8, zg9, fun _ => rfl, fun _ => ⟨b, rfl, hub, fun h => (by cases h), fun _ => hT.1⟩, fun _ => zd11⟩
      · rintro ls ac w' ⟨v8, v25, v26, v27, v28, v29, v30, v31, v32, v33, v34, v35, rfl, hl, hB, zg0, zg1, zg2, zg3, zg4, zg5, zg6, zg7, zg8, zg9, zg10, zh1, zk1⟩ hr
        have hall := ready_allb (by decide) hl hr
        obtain ⟨b1, rfl, hub1, _, f1⟩ := zh1 (hall 11 (by decide))
        have F1 := f1 (hall 12 (by decide))
        go_wp2_with fail
        go_meet
        exact ⟨b1, rfl, Lib.hid (Below.trans hwA (hB.mono (Below.size hwA))), Lib.hid ⟨CellF.keep hB qHA0_0, CellF.keep hB qHA0_1, CellF.keep hB qHA0_2⟩, Lib.hid ⟨CellF.keep hB qHA1_0, CellF.keep hB qHA1_1, CellF.keep hB qHA1_2, CellF.keep hB qHA1_3⟩, Lib.hid ⟨CellF.keep hB qHA2_0, CellF.keep hB qHA2_1⟩, Lib.hid ⟨CellF.keep hB qHA3_0, CellF.keep hB qHA3_1, CellF.keep hB qHA3_2⟩, Lib.hid ⟨CellF.keep hB qXA0_0, CellF.keep hB qXA0_1, CellF.keep hB qXA0_2⟩, Lib.hid F1⟩
    case rest =>
      obtain ⟨bm, rfl, HB, HC0, HC1, HC2, HC3, HC4, XC0⟩ := hcut
      have hwC := HB.out
      have qHC0_0 := HC0.out.1
      have cHC0_0 := qHC0_0.1
      have qHC0_1 := HC0.out.2.1
      have cHC0_1 := qHC0_1.1
      have qHC0_2 := HC0.out.2.2
      have cHC0_2 := qHC0_2.1
      have zHC0 := ltc cHC0_0
      have qHC1_0 := HC1.out.1
      have cHC1_0 := qHC1_0.1
      have qHC1_1 := HC1.out.2.1
      have cHC1_1 := qHC1_1.1
      have qHC1_2 := HC1.out.2.2.1
      have cHC1_2 := qHC1_2.1
      have qHC1_3 := HC1.out.2.2.2
      have cHC1_3 := qHC1_3.1
      have zHC1 := ltc cHC1_0
      have qHC2_0 := HC2.out.1
      have cHC2_0 := qHC2_0.1
      have qHC2_1 := HC2.out.2
      have cHC2_1 := qHC2_1.1
      have zHC2 := ltc cHC2_0
      have qHC3_0 := HC3.out.1
      have cHC3_0 := qHC3_0.1
      have qHC3_1 := HC3.out.2.1
      have cHC3_1 := qHC3_1.1
      have qHC3_2 := HC3.out.2.2
      have cHC3_2 := qHC3_2.1
      have zHC3 := ltc cHC3_0
      have qHC4_0 := HC4.out.1
      have cHC4_0 := qHC4_0.1
      have qHC4_1 := HC4.out.2.1
      have cHC4_1 := qHC4_1.1
      have qHC4_2 := HC4.out.2.2
      have cHC4_2 := qHC4_2.1
      have zHC4 := ltc cHC4_0
      have qXC0_0 := XC0.out.1
      have cXC0_0 := qXC0_0.1
      have qXC0_1 := XC0.out.2.1
      have cXC0_1 := qXC0_1.1
      have qXC0_2 := XC0.out.2.2
      have cXC0_2 := qXC0_2.1
      have zXC0 := ltc cXC0_0
      clear HB HC0 HC1 HC2 HC3 HC4 XC0
      go_upto_region 3 with (fail)
      go_cut [9] (fun v9 wd => ∃ bs, v9 = .pointer (some ⟨bs, 0, none⟩) ∧ Hid (Below w.heap.size w wd) ∧ Hid (CellF wd ⟨w.heap.size, 0, none⟩ (.int .i64 mn) ∧ CellF wd ⟨w.heap.size, 1, none⟩ (.int .i64 mx) ∧ CellF wd ⟨w.heap.size, 2, none⟩ (.int .i64 g)) ∧ Hid (CellF wd ⟨(w.heap.size + 1), 0, none⟩ (.int .i64 x0) ∧ CellF wd ⟨(w.heap.size + 1), 1, none⟩ (.int .i64 x1) ∧ CellF wd ⟨(w.heap.size + 1), 2, none⟩ (.int .i64 x2) ∧ CellF wd ⟨(w.heap.size + 1), 3, none⟩ (.int .i64 x3)) ∧ Hid (CellF wd ⟨(w.heap.size + 2), 0, none⟩ (.int .i64 c0) ∧ CellF wd ⟨(w.heap.size + 2), 1, none⟩ (.int .i64 c1)) ∧ Hid (CellF wd ⟨(w.heap.size + 3), 0, none⟩ (.int .i64 0) ∧ CellF wd ⟨(w.heap.size + 3), 1, none⟩ (.int .i64 0) ∧ CellF wd ⟨(w.heap.size + 3), 2, none⟩ (.bool false)) ∧ Hid (CellF wd ⟨bf, 0, none⟩ (.int .i64 f1) ∧ CellF wd ⟨bf, 1, none⟩ (.int .i64 f2) ∧ CellF wd ⟨bf, 2, none⟩ (.bool f3)) ∧ Hid (CellF wd ⟨bm, 0, none⟩ (.int .i64 m1) ∧ CellF wd ⟨bm, 1, none⟩ (.int .i64 m2) ∧ CellF wd ⟨bm, 2, none⟩ (.bool m3)) ∧ Hid (SpanAt wd bs s1 s2 s3))
      case first =>
        refine wp_region_inv (by kernel_rfl) (fun ls ac w' => ∃ v9 v36 v37 v38 v39 v40 v41, ac = ⟨#[.agg #[.int .i64 mn, .int .i64 mx, .int .i64 g], .agg #[.int .i64 x0, .int .i64 x1, .int .i64 x2, .int .i64 x3], .agg #[.int .i64 c0, .int .i64 c1], .pointer (some ⟨w.heap.size, 0, none⟩), .pointer (some ⟨w.heap.size + 1, 0, none⟩), .pointer (some ⟨w.heap.size + 2, 0, none⟩), .pointer (some ⟨w.heap.size + 3, 0, none⟩), .pointer (some ⟨bf, 0, none⟩), .pointer (some ⟨bm, 0, none⟩), v9, undef, undef, undef, undef, u14, u15, u16, u17, u18, u19, u20, u21, u22, u23, u24, u25, u26, u27, u28, u29, u30, u31, u32, u33, u34, u35, v36, v37, v38, v39, v40, v41, u42, u43, u44, u45, u46, u47, u48, u49, u50, u51, u52, u53, u54, u55, u56, u57, u58, u59, u60], []⟩ ∧ ls.size = 8 ∧ Below wc.heap.size wc w' ∧ (ls.getD 0 false = true → v36 = .agg #[.int .i64 mn, .int .i64 mx, .int .i64 g]) ∧ (ls.getD 1 false = true → ls.getD 7 false = false → IsWider w' v37 mn mx g 4) ∧ (ls.getD 2 false = true → v38 = .agg #[.int .i64 f1, .int .i64 f2, .bool f3]) ∧ (ls.getD 3 false = true → v39 = .agg #[.int .i64 m1, .int .i64 m2, .bool m3]) ∧ (ls.getD 4 false = true → v40 = .agg #[.int .i64 n1, .int .i64 n2, .bool n3]) ∧ (ls.getD 5 false = true → v41 = .agg #[.int .i64 s1, .int .i64 s2, .bool s3]) ∧ (ls.getD 6 false = true → ∃ b, v9 = .pointer (some ⟨b, 0, none⟩) ∧ wc.heap.size ≤ b ∧ (ls.getD 7 false = false → SpanAt w' b 0 0 false) ∧ (ls.getD 7 false = true → SpanAt w' b s1 s2 s3)) ∧ (ls.getD 7 false = true → ls.getD 6 false = true) ∧ (ls.getD 7 false = true → ls.getD 5 false = true)) ?_ ?_ ?_
        · exact ⟨_, _, _, _, _, _, _, rfl, rfl, bdrew (brefl _), fun h => (by cases h), fun h => (by cases h), fun h => (by cases h), fun h => (by cases h), fun h => (by cases h), fun h => (by cases h), fun h => (by cases h), fun h => (by cases h), fun h => (by cases h)⟩
        · intro i hii
          have hin : i < 8 := hii
          have hor : i = 0 ∨ i = 1 ∨ i = 2 ∨ i = 3 ∨ i = 4 ∨ i = 5 ∨ i = 6 ∨ i = 7 := (by decide : ∀ i : Nat, i < 8 → (i = 0 ∨ i = 1 ∨ i = 2 ∨ i = 3 ∨ i = 4 ∨ i = 5 ∨ i = 6 ∨ i = 7)) i hin
          rcases hor with rfl | rfl | rfl | rfl | rfl | rfl | rfl | rfl
          · rintro ls ac w' hr ⟨v9, v36, v37, v38, v39, v40, v41, rfl, hl, hB, zg0, zg1, zg2, zg3, zg4, zg5, zh1, zk1, zq7⟩
            have a0 := (hB.cell (ltc cHC0_0)).trans cHC0_0
            have a1 := (hB.cell (ltc cHC0_1)).trans cHC0_1
            have a2 := (hB.cell (ltc cHC0_2)).trans cHC0_2
            refine wpOp_step rfl (fun K hK => ?_)
            clear hr
            go_simp
            refine hK _ _ ?_
            simp only [getD_own (l := ls) (i := 0) (by omega), gq 0 1, gq 0 2, gq 0 3, gq 0 4, gq 0 5, gq 0 6, gq 0 7]
            exact ⟨v9, _, v37, v38, v39, v40, v41, rfl, by simp [hl], hB, fun _ => rfl, zg1, zg2, zg3, zg4, zg5, zh1, zk1, zq7⟩
          · rintro ls ac w' hr ⟨v9, v36, v37, v38, v39, v40, v41, rfl, hl, hB, zg0, zg1, zg2, zg3, zg4, zg5, zh1, zk1, zq7⟩
            have zd0 := rdd hr 0
            obtain rfl := zg0 zd0
            refine wpOp_step rfl (fun K hK => ?_)
            clear hr
            go_simp
            refine (wider_is _ _ _ _ _).mono ?_
            rintro e w1 ⟨v, rfl, hk, hp⟩
            dsimp only
            refine hK _ _ ?_
            simp only [getD_own (l := ls) (i := 1) (by omega), gq 1 0, gq 1 2, gq 1 3, gq 1 4, gq 1 5, gq 1 6, gq 1 7]
            exact ⟨v9, _, _, v38, v39, v40, v41, rfl, by simp [hl], bstep hB hk, fun _ => rfl, fun _ _ => hp, zg2, zg3, zg4, zg5, fun h => (by obtain ⟨b, e1, e2, e4, e5⟩ := zh1 h; exact ⟨b, e1, e2, fun h => (e4 h).keep hk, fun h => (e5 h).keep hk⟩), zk1, zq7⟩
          · rintro ls ac w' hr ⟨v9, v36, v37, v38, v39, v40, v41, rfl, hl, hB, zg0, zg1, zg2, zg3, zg4, zg5, zh1, zk1, zq7⟩
            have a12 := (hB.cell (ltc cHC4_0)).trans cHC4_0
            have a13 := (hB.cell (ltc cHC4_1)).trans cHC4_1
            have a14 := (hB.cell (ltc cHC4_2)).trans cHC4_2
            refine wpOp_step rfl (fun K hK => ?_)
            clear hr
            go_simp
            refine hK _ _ ?_
            simp only [getD_own (l := ls) (i := 2) (by omega), gq 2 0, gq 2 1, gq 2 3, gq 2 4, gq 2 5, gq 2 6, gq 2 7]
            exact ⟨v9, v36, v37, _, v39, v40, v41, rfl, by simp [hl], hB, zg0, zg1, fun _ => rfl, zg3, zg4, zg5, zh1, zk1, zq7⟩
          · rintro ls ac w' hr ⟨v9, v36, v37, v38, v39, v40, v41, rfl, hl, hB, zg0, zg1, zg2, zg3, zg4, zg5, zh1, zk1, zq7⟩
            have a15 := (hB.cell (ltc cXC0_0)).trans cXC0_0
            have a16 := (hB.cell (ltc cXC0_1)).trans cXC0_1
            have a17 := (hB.cell (ltc cXC0_2)).trans cXC0_2
            refine wpOp_step rfl (fun K hK => ?_)
            clear hr
            go_simp
            refine hK _ _ ?_
            simp only [getD_own (l := ls) (i := 3) (by omega), gq 3 0, gq 3 1, gq 3 2, gq 3 4, gq 3 5, gq 3 6, gq 3 7]
            exact ⟨v9, v36, v37, v38, _, v40, v41, rfl, by simp [hl], hB, zg0, zg1, zg2, fun _ => rfl, zg4, zg5, zh1, zk1, zq7⟩
          · rintro ls ac w' hr ⟨v9, v36, v37, v38, v39, v40, v41, rfl, hl, hB, zg0, zg1, zg2, zg3, zg4, zg5, zh1, zk1, zq7⟩
            have zd2 := rdd hr 2
            have zd3 := rdd hr 3
            obtain rfl := zg2 zd2
            obtain rfl := zg3 zd3
            refine wpOp_step rfl (fun K hK => ?_)
            clear hr
            go_simp
            refine (SpAdd_is _ _ _ _ _ _ _ _ _ Hn _).mono ?_
            rintro e w1 ⟨rfl, hk⟩
            dsimp only
            refine hK _ _ ?_
            simp only [getD_own (l := ls) (i := 4) (by omega), gq 4 0, gq 4 1, gq 4 2, gq 4 3, gq 4 5, gq 4 6, gq 4 7]
            exact ⟨v9, v36, v37, _, _, _, v41, rfl, by simp [hl], bstep hB hk, zg0, fun h h2 => (zg1 h h2).keep hk, fun _ => rfl, fun _ => rfl, fun _ => rfl, zg5, fun h => (by obtain ⟨b, e1, e2, e4, e5⟩ := zh1 h; exact ⟨b, e1, e2, fun h => (e4 h).keep hk, fun h => (e5 h).keep hk⟩), zk1, zq7⟩
          · rintro ls ac w' hr ⟨v9, v36, v37, v38, v39, v40, v41, rfl, hl, hB, zg0, zg1, zg2, zg3, zg4, zg5, zh1, zk1, zq7⟩
            have hst : ls.getD 7 false = false := by cases hc : ls.getD 7 false with | false => rfl | true => (exfalso; have hn := (ready_dep hr rfl).1; rw [getD_both (zq7 hc)] at hn; cases hn)
            have zd1 := rdd hr 1
            have zd4 := rdd hr 4
            obtain ⟨bp, bt, rfl, W1, W2, W3, W4⟩ := zg1 zd1 hst
            have w1' := W1.1
            have w2' := W2.1
            have w3' := W3.1
            have w4' := W4.1
            obtain rfl := zg4 zd4
            refine wpOp_step rfl (fun K hK => ?_)
            clear hr
            go_simp
            refine (wider1_is _ _ _ _ _ _ _ _ _ _ (by decide) (by decide) Hs _ _ _ W1 W2 W3 W4).mono ?_
            rintro e w1 ⟨rfl, hk⟩
            dsimp only
            refine hK _ _ ?_
            simp only [getD_own (l := ls) (i := 5) (by omega), gq 5 0, gq 5 1, gq 5 2, gq 5 3, gq 5 4, gq 5 6, gq 5 7]
            exact ⟨v9, v36, _, v38, v39, _, _, rfl, by simp [hl], bstep hB hk, zg0, fun _ _ => ⟨bp, bt, rfl, W1.keep hk, W2.keep hk, W3.keep hk, W4.keep hk⟩, zg2, zg3, fun _ => rfl, fun _ => rfl, fun h => (by obtain ⟨b, e1, e2, e4, e5⟩ := zh1 h; exact ⟨b, e1, e2, fun h => (e4 h).keep hk, fun h => (e5 h).keep hk⟩), zk1, fun _ => (by first | rfl | trivial)⟩
          · rintro ls ac w' hr ⟨v9, v36, v37, v38, v39, v40, v41, rfl, hl, hB, zg0, zg1, zg2, zg3, zg4, zg5, zh1, zk1, zq7⟩
            have hz := hB.size
            have hn := (ready_dep hr rfl).1
            have hna : ls.getD 6 false = false := by cases hc : ls.getD 6 false with | false => rfl | true => (exfalso; have hs4 := getD_both hc; rw [hs4] at hn; cases hn)
            have hus : ls.getD 7 false = false := by cases hc : ls.getD 7 false with | false => rfl | true => (rw [zk1 hc] at hna; cases hna)
            refine wpOp_step rfl (fun K hK => ?_)
            clear hr
            go_simp
            refine hK _ _ ?_
            simp only [getD_own (l := ls) (i := 6) (by omega), gq 6 0, gq 6 1, gq 6 2, gq 6 3, gq 6 4, gq 6 5, gq 6 7]
            exact ⟨_, v36, v37, v38, v39, v40, v41, rfl, by simp [hl], balloc hB _, zg0, fun h h2 => (zg1 h h2).keep (balloc (brefl _) _), zg2, zg3, zg4, zg5, fun _ => ⟨_, rfl, hz, fun _ => SpanAt.new rfl, fun h => (by rw [hus] at h; cases h)⟩, fun _ => (by first | rfl | trivial), zq7⟩
          · rintro ls ac w' hr ⟨v9, v36, v37, v38, v39, v40, v41, rfl, hl, hB, zg0, zg1, zg2, zg3, zg4, zg5, zh1, zk1, zq7⟩
            have zd6 := rdd hr 6
            have zd5 := rdd hr 5
            obtain rfl := zg5 zd5
            have hn := (ready_dep hr rfl).1
            have hns : ls.getD 7 false = false := by cases hc : ls.getD 7 false with | false => rfl | true => (exfalso; have hs4 := getD_both hc; rw [hs4] at hn; cases hn)
            obtain ⟨b, rfl, hub, e4, _⟩ := zh1 zd6
            have hS := e4 hns
            have hT := span_sets (x := s1) (y := s2) (z := s3) hS
            have zs0 := (hS).1.1
            have zs1 := (hS).2.1.1
            have zs2 := (hS).2.2.1
            have zs3 := (hS).1.2
            have zs4 := (hS).2.1.2
            have zs5 := (hS).2.2.2
            refine wpOp_step rfl (fun K hK => ?_)
            clear hr
            clear hS e4
            go_simp
            refine hK _ _ ?_
            simp only [getD_own (l := ls) (i := 7) (by omega), gq 7 0, gq 7 1, gq 7 2, gq 7 3, gq 7 4, gq 7 5, gq 7 6]
            exact ⟨_, v36, v37, v38, v39, v40, _, rfl, by simp [hl], hB.trans (hT.2.2 _ hub), zg0, fun _ h => (by cases h), zg2, zg3, zg4, fun _ => rfl, fun _ => ⟨b, rfl, hub, fun h => (by cases h), fun _ => hT.1⟩, fun _ => zd6, fun _ => zd5⟩
        · rintro ls ac w' ⟨v9, v36, v37, v38, v39, v40, v41, rfl, hl, hB, zg0, zg1, zg2, zg3, zg4, zg5, zh1, zk1, zq7⟩ hr
          have hall := ready_allb (by decide) hl hr
          obtain ⟨b1, rfl, hub1, _, f1⟩ := zh1 (hall 6 (by decide))
          have F1 := f1 (hall 7 (by decide))
          go_wp2_with fail
          go_meet
          exact ⟨b1, rfl, Lib.hid (Below.trans hwC (hB.mono (Below.size hwC))), Lib.hid ⟨CellF.keep hB qHC0_0, CellF.keep hB qHC0_1, CellF.keep hB qHC0_2⟩, Lib.hid ⟨CellF.keep hB qHC1_0, CellF.keep hB qHC1_1, CellF.keep hB qHC1_2, CellF.keep hB qHC1_3⟩, Lib.hid ⟨CellF.keep hB qHC2_0, CellF.keep hB qHC2_1⟩, Lib.hid ⟨CellF.keep hB qHC3_0, CellF.keep hB qHC3_1, CellF.keep hB qHC3_2⟩, Lib.hid ⟨CellF.keep hB qHC4_0, CellF.keep hB qHC4_1, CellF.keep hB qHC4_2⟩, Lib.hid ⟨CellF.keep hB qXC0_0, CellF.keep hB qXC0_1, CellF.keep hB qXC0_2⟩, Lib.hid F1⟩
      case rest =>
        obtain ⟨bs, rfl, HB, HD0, HD1, HD2, HD3, HD4, HD5, XD0⟩ := hcut
        have hwD := HB.out
        have qHD0_0 := HD0.out.1
        have cHD0_0 := qHD0_0.1
        have qHD0_1 := HD0.out.2.1
        have cHD0_1 := qHD0_1.1
        have qHD0_2 := HD0.out.2.2
        have cHD0_2 := qHD0_2.1
        have zHD0 := ltc cHD0_0
        have qHD1_0 := HD1.out.1
        have cHD1_0 := qHD1_0.1
        have qHD1_1 := HD1.out.2.1
        have cHD1_1 := qHD1_1.1
        have qHD1_2 := HD1.out.2.2.1
        have cHD1_2 := qHD1_2.1
        have qHD1_3 := HD1.out.2.2.2
        have cHD1_3 := qHD1_3.1
        have zHD1 := ltc cHD1_0
        have qHD2_0 := HD2.out.1
        have cHD2_0 := qHD2_0.1
        have qHD2_1 := HD2.out.2
        have cHD2_1 := qHD2_1.1
        have zHD2 := ltc cHD2_0
        have qHD3_0 := HD3.out.1
        have cHD3_0 := qHD3_0.1
        have qHD3_1 := HD3.out.2.1
        have cHD3_1 := qHD3_1.1
        have qHD3_2 := HD3.out.2.2
        have cHD3_2 := qHD3_2.1
        have zHD3 := ltc cHD3_0
        have qHD4_0 := HD4.out.1
        have cHD4_0 := qHD4_0.1
        have qHD4_1 := HD4.out.2.1
        have cHD4_1 := qHD4_1.1
        have qHD4_2 := HD4.out.2.2
        have cHD4_2 := qHD4_2.1
        have zHD4 := ltc cHD4_0
        have qHD5_0 := HD5.out.1
        have cHD5_0 := qHD5_0.1
        have qHD5_1 := HD5.out.2.1
        have cHD5_1 := qHD5_1.1
        have qHD5_2 := HD5.out.2.2
        have cHD5_2 := qHD5_2.1
        have zHD5 := ltc cHD5_0
        have qXD0_0 := XD0.out.1
        have cXD0_0 := qXD0_0.1
        have qXD0_1 := XD0.out.2.1
        have cXD0_1 := qXD0_1.1
        have qXD0_2 := XD0.out.2.2
        have cXD0_2 := qXD0_2.1
        have zXD0 := ltc cXD0_0
        clear HB HD0 HD1 HD2 HD3 HD4 HD5 XD0
        cases s3 with
        | false =>
          obtain ⟨rfl, rfl, rfl⟩ : 0 = y1 ∧ 0 = y2 ∧ false = y3 := by have := HXh.out; rw [if_neg (by decide)] at this; cases this; exact ⟨rfl, rfl, rfl⟩
          go_wp2_with fail
          refine (Unknown_is _).mono ?_
          rintro e w1 ⟨rfl, hb1⟩
          have q1_1_0 : CellF w1 ⟨(w.heap.size + 3), 0, none⟩ (.int .i64 0) := (by first | exact qHD3_0.keep hb1 | exact qHD3_0.drew.keep hb1 | exact (qHD3_0.past _).keep hb1 | exact (qHD3_0.past _).drew.keep hb1)
          have c1_1_0 := q1_1_0.1
          have q1_1_1 : CellF w1 ⟨(w.heap.size + 3), 1, none⟩ (.int .i64 0) := (by first | exact qHD3_1.keep hb1 | exact qHD3_1.drew.keep hb1 | exact (qHD3_1.past _).keep hb1 | exact (qHD3_1.past _).drew.keep hb1)
          have c1_1_1 := q1_1_1.1
          have q1_1_2 : CellF w1 ⟨(w.heap.size + 3), 2, none⟩ (.bool false) := (by first | exact qHD3_2.keep hb1 | exact qHD3_2.drew.keep hb1 | exact (qHD3_2.past _).keep hb1 | exact (qHD3_2.past _).drew.keep hb1)
          have c1_1_2 := q1_1_2.1
          have z1_1 : (w.heap.size + 3) < w1.heap.size := ltc c1_1_0
          have q1_2_0 : CellF w1 ⟨bs, 0, none⟩ (.int .i64 s1) := (by first | exact qXD0_0.keep hb1 | exact qXD0_0.drew.keep hb1 | exact (qXD0_0.past _).keep hb1 | exact (qXD0_0.past _).drew.keep hb1)
          have c1_2_0 := q1_2_0.1
          have q1_2_1 : CellF w1 ⟨bs, 1, none⟩ (.int .i64 s2) := (by first | exact qXD0_1.keep hb1 | exact qXD0_1.drew.keep hb1 | exact (qXD0_1.past _).keep hb1 | exact (qXD0_1.past _).drew.keep hb1)
          have c1_2_1 := q1_2_1.1
          have q1_2_2 : CellF w1 ⟨bs, 2, none⟩ (.bool false) := (by first | exact qXD0_2.keep hb1 | exact qXD0_2.drew.keep hb1 | exact (qXD0_2.past _).keep hb1 | exact (qXD0_2.past _).drew.keep hb1)
          have c1_2_2 := q1_2_2.1
          have z1_2 : bs < w1.heap.size := ltc c1_2_0
          clear qHD4_0 cHD4_0 qHD4_1 cHD4_1 qHD4_2 cHD4_2 zHD4 qHD5_0 cHD5_0 qHD5_1 cHD5_1 qHD5_2 cHD5_2 zHD5 qHD0_0 cHD0_0 qHD0_1 cHD0_1 qHD0_2 cHD0_2 zHD0 qHD1_0 cHD1_0 qHD1_1 cHD1_1 qHD1_2 cHD1_2 qHD1_3 cHD1_3 zHD1 qHD2_0 cHD2_0 qHD2_1 cHD2_1 zHD2 qHD3_0 cHD3_0 qHD3_1 cHD3_1 qHD3_2 cHD3_2 zHD3 qXD0_0 cXD0_0 qXD0_1 cXD0_1 qXD0_2 cXD0_2 zXD0
          have f1_1_0 := q1_1_0.2
          have f1_1_1 := q1_1_1.2
          have f1_1_2 := q1_1_2.2
          go_wp2
          exact bodyPost_ret (v := .agg #[.int .i64 0, .int .i64 0, .bool false]) (by simp [results, Try.results72, go_sem, c1_1_0, c1_1_1, c1_1_2]) rfl ⟨rfl, (by repeat (first | exact brefl _ | refine balloc ?_ _ | refine bdrewN ?_ _ | refine bset ?_ (by dsimp only; omega) _ | refine bstep ?_ (by assumption)))⟩
        | true =>
          have HO : Hid (spOf fl1 ce1 = ⟨y1, y2, y3⟩) := by have h := HXh.out; rw [if_pos rfl, HF.out, HC.out] at h; exact Lib.hid h
          go_wp2_with fail
          refine (Floor_is _ _ _ _ _ HF _).mono ?_
          rintro e w1 ⟨rfl, hb1⟩
          have q1_1_0 : CellF w1 ⟨(w.heap.size + 3), 0, none⟩ (.int .i64 0) := (by first | exact qHD3_0.keep hb1 | exact qHD3_0.drew.keep hb1 | exact (qHD3_0.past _).keep hb1 | exact (qHD3_0.past _).drew.keep hb1)
          have c1_1_0 := q1_1_0.1
          have q1_1_1 : CellF w1 ⟨(w.heap.size + 3), 1, none⟩ (.int .i64 0) := (by first | exact qHD3_1.keep hb1 | exact qHD3_1.drew.keep hb1 | exact (qHD3_1.past _).keep hb1 | exact (qHD3_1.past _).drew.keep hb1)
          have c1_1_1 := q1_1_1.1
          have q1_1_2 : CellF w1 ⟨(w.heap.size + 3), 2, none⟩ (.bool false) := (by first | exact qHD3_2.keep hb1 | exact qHD3_2.drew.keep hb1 | exact (qHD3_2.past _).keep hb1 | exact (qHD3_2.past _).drew.keep hb1)
          have c1_1_2 := q1_1_2.1
          have z1_1 : (w.heap.size + 3) < w1.heap.size := ltc c1_1_0
          have q1_2_0 : CellF w1 ⟨bs, 0, none⟩ (.int .i64 s1) := (by first | exact qXD0_0.keep hb1 | exact qXD0_0.drew.keep hb1 | exact (qXD0_0.past _).keep hb1 | exact (qXD0_0.past _).drew.keep hb1)
          have c1_2_0 := q1_2_0.1
          have q1_2_1 : CellF w1 ⟨bs, 1, none⟩ (.int .i64 s2) := (by first | exact qXD0_1.keep hb1 | exact qXD0_1.drew.keep hb1 | exact (qXD0_1.past _).keep hb1 | exact (qXD0_1.past _).drew.keep hb1)
          have c1_2_1 := q1_2_1.1
          have q1_2_2 : CellF w1 ⟨bs, 2, none⟩ (.bool true) := (by first | exact qXD0_2.keep hb1 | exact qXD0_2.drew.keep hb1 | exact (qXD0_2.past _).keep hb1 | exact (qXD0_2.past _).drew.keep hb1)
          have c1_2_2 := q1_2_2.1
          have z1_2 : bs < w1.heap.size := ltc c1_2_0
          clear qHD4_0 cHD4_0 qHD4_1 cHD4_1 qHD4_2 cHD4_2 zHD4 qHD5_0 cHD5_0 qHD5_1 cHD5_1 qHD5_2 cHD5_2 zHD5 qHD0_0 cHD0_0 qHD0_1 cHD0_1 qHD0_2 cHD0_2 zHD0 qHD1_0 cHD1_0 qHD1_1 cHD1_1 qHD1_2 cHD1_2 qHD1_3 cHD1_3 zHD1 qHD2_0 cHD2_0 qHD2_1 cHD2_1 zHD2 qHD3_0 cHD3_0 qHD3_1 cHD3_1 qHD3_2 cHD3_2 zHD3 qXD0_0 cXD0_0 qXD0_1 cXD0_1 qXD0_2 cXD0_2 zXD0
          go_wp2_with fail
          refine (Ceil_is _ _ _ _ _ HC _).mono ?_
          rintro e w2 ⟨rfl, hb2⟩
          have q2_3_0 : CellF w2 ⟨(w.heap.size + 3), 0, none⟩ (.int .i64 0) := (by first | exact q1_1_0.keep hb2 | exact q1_1_0.drew.keep hb2 | exact (q1_1_0.past _).keep hb2 | exact (q1_1_0.past _).drew.keep hb2)
          have c2_3_0 := q2_3_0.1
          have q2_3_1 : CellF w2 ⟨(w.heap.size + 3), 1, none⟩ (.int .i64 0) := (by first | exact q1_1_1.keep hb2 | exact q1_1_1.drew.keep hb2 | exact (q1_1_1.past _).keep hb2 | exact (q1_1_1.past _).drew.keep hb2)
          have c2_3_1 := q2_3_1.1
          have q2_3_2 : CellF w2 ⟨(w.heap.size + 3), 2, none⟩ (.bool false) := (by first | exact q1_1_2.keep hb2 | exact q1_1_2.drew.keep hb2 | exact (q1_1_2.past _).keep hb2 | exact (q1_1_2.past _).drew.keep hb2)
          have c2_3_2 := q2_3_2.1
          have z2_3 : (w.heap.size + 3) < w2.heap.size := ltc c2_3_0
          have q2_4_0 : CellF w2 ⟨bs, 0, none⟩ (.int .i64 s1) := (by first | exact q1_2_0.keep hb2 | exact q1_2_0.drew.keep hb2 | exact (q1_2_0.past _).keep hb2 | exact (q1_2_0.past _).drew.keep hb2)
          have c2_4_0 := q2_4_0.1
          have q2_4_1 : CellF w2 ⟨bs, 1, none⟩ (.int .i64 s2) := (by first | exact q1_2_1.keep hb2 | exact q1_2_1.drew.keep hb2 | exact (q1_2_1.past _).keep hb2 | exact (q1_2_1.past _).drew.keep hb2)
          have c2_4_1 := q2_4_1.1
          have q2_4_2 : CellF w2 ⟨bs, 2, none⟩ (.bool true) := (by first | exact q1_2_2.keep hb2 | exact q1_2_2.drew.keep hb2 | exact (q1_2_2.past _).keep hb2 | exact (q1_2_2.past _).drew.keep hb2)
          have c2_4_2 := q2_4_2.1
          have z2_4 : bs < w2.heap.size := ltc c2_4_0
          clear q1_1_0 c1_1_0 q1_1_1 c1_1_1 q1_1_2 c1_1_2 z1_1 q1_2_0 c1_2_0 q1_2_1 c1_2_1 q1_2_2 c1_2_2 z1_2
          go_wp2_with fail
          refine (Of_is _ _ _ _ _ HO _).mono ?_
          rintro e w3 ⟨rfl, hb3⟩
          have q3_5_0 : CellF w3 ⟨(w.heap.size + 3), 0, none⟩ (.int .i64 0) := (by first | exact q2_3_0.keep hb3 | exact q2_3_0.drew.keep hb3 | exact (q2_3_0.past _).keep hb3 | exact (q2_3_0.past _).drew.keep hb3)
          have c3_5_0 := q3_5_0.1
          have q3_5_1 : CellF w3 ⟨(w.heap.size + 3), 1, none⟩ (.int .i64 0) := (by first | exact q2_3_1.keep hb3 | exact q2_3_1.drew.keep hb3 | exact (q2_3_1.past _).keep hb3 | exact (q2_3_1.past _).drew.keep hb3)
          have c3_5_1 := q3_5_1.1
          have q3_5_2 : CellF w3 ⟨(w.heap.size + 3), 2, none⟩ (.bool false) := (by first | exact q2_3_2.keep hb3 | exact q2_3_2.drew.keep hb3 | exact (q2_3_2.past _).keep hb3 | exact (q2_3_2.past _).drew.keep hb3)
          have c3_5_2 := q3_5_2.1
          have z3_5 : (w.heap.size + 3) < w3.heap.size := ltc c3_5_0
          clear q2_4_0 c2_4_0 q2_4_1 c2_4_1 q2_4_2 c2_4_2 z2_4 q2_3_0 c2_3_0 q2_3_1 c2_3_1 q2_3_2 c2_3_2 z2_3
          have f3_5_0 := q3_5_0.2
          have f3_5_1 := q3_5_1.2
          have f3_5_2 := q3_5_2.2
          go_wp2
          exact bodyPost_ret (v := .agg #[.int .i64 y1, .int .i64 y2, .bool y3]) (by simp [results, Try.results72, go_sem, c3_5_0, c3_5_1, c3_5_2]) rfl ⟨rfl, (by repeat (first | exact brefl _ | refine balloc ?_ _ | refine bdrewN ?_ _ | refine bset ?_ (by dsimp only; omega) _ | refine bstep ?_ (by assumption)))⟩
end Go.Proofs.Ytnphbdhcoiaklaa
namespace Go.Proofs.Ytnphbdhcoiaklaa
open Go.RowKit

set_option maxRecDepth 100000 in
set_option maxHeartbeats 4000000 in
theorem Both_is (mn mx g x0 x1 x2 x3 c0 c1 y1 y2 : Int) (y3 : Bool) (hc0 : I64 c0) (hc1 : I64 c1) (H : Hid (dBoth mn mx g x0 x1 x2 x3 c0 c1 = ⟨y1, y2, y3⟩)) (w : World) :
    Calls Try.prog 70 #[.agg #[.int .i64 mn, .int .i64 mx, .int .i64 g], .agg #[.int .i64 x0, .int .i64 x1, .int .i64 x2, .int .i64 x3], .agg #[.int .i64 c0, .int .i64 c1]] w fun e w' => e = .returned (.agg #[.int .i64 y1, .int .i64 y2, .bool y3]) ∧ Below w.heap.size w w' := by
  obtain ⟨⟨s1, s2, s3⟩, es⟩ : ∃ s, dSync mn mx g x0 c0 x1 = s := ⟨_, rfl⟩
  have Hs := Lib.hid es
  obtain ⟨⟨r1, r2, r3⟩, er⟩ : ∃ s, dReq mn mx g x2 c1 x3 = s := ⟨_, rfl⟩
  have Hr := Lib.hid er
  have HX : Hid (spMeet ⟨s1, s2, s3⟩ ⟨r1, r2, r3⟩ = ⟨y1, y2, y3⟩) := by
    have hx := H.out
    unfold dBoth at hx
    rw [es, er] at hx
    exact Lib.hid hx
  clear H es er
  go_enter Try.func70, Try.ntmps70
  go_upto_region 1 with (fail)
  generalize hu : (((w.alloc (.cells #[.int .i64 mn, .int .i64 mx, .int .i64 g] 74)).alloc (.cells #[.int .i64 x0, .int .i64 x1, .int .i64 x2, .int .i64 x3] 72)).alloc (.cells #[.int .i64 c0, .int .i64 c1] 73)).alloc (.cells #[.int .i64 0, .int .i64 0, .bool false] 50) = z
  have hb : Below w.heap.size w z := by rw [← hu]; exact balloc (balloc (balloc (balloc (brefl _) _) _) _) _
  have qB0_0 : CellF z ⟨w.heap.size, 0, none⟩ (.int .i64 mn) := by rw [← hu]; repeat (first | with_reducible exact CellF.at_ (by simp) rfl | with_reducible refine CellF.past _ ?_)
  have cB0_0 := qB0_0.1
  have qB0_1 : CellF z ⟨w.heap.size, 1, none⟩ (.int .i64 mx) := by rw [← hu]; repeat (first | with_reducible exact CellF.at_ (by simp) rfl | with_reducible refine CellF.past _ ?_)
  have cB0_1 := qB0_1.1
  have qB0_2 : CellF z ⟨w.heap.size, 2, none⟩ (.int .i64 g) := by rw [← hu]; repeat (first | with_reducible exact CellF.at_ (by simp) rfl | with_reducible refine CellF.past _ ?_)
  have cB0_2 := qB0_2.1
  have zB0 := ltc cB0_0
  have qB1_0 : CellF z ⟨(w.heap.size + 1), 0, none⟩ (.int .i64 x0) := by rw [← hu]; repeat (first | with_reducible exact CellF.at_ (by simp) rfl | with_reducible refine CellF.past _ ?_)
  have cB1_0 := qB1_0.1
  have qB1_1 : CellF z ⟨(w.heap.size + 1), 1, none⟩ (.int .i64 x1) := by rw [← hu]; repeat (first | with_reducible exact CellF.at_ (by simp) rfl | with_reducible refine CellF.past _ ?_)
  have cB1_1 := qB1_1.1
  have qB1_2 : CellF z ⟨(w.heap.size + 1), 2, none⟩ (.int .i64 x2) := by rw [← hu]; repeat (first | with_reducible exact CellF.at_ (by simp) rfl | with_reducible refine CellF.past _ ?_)
  have cB1_2 := qB1_2.1
  have qB1_3 : CellF z ⟨(w.heap.size + 1), 3, none⟩ (.int .i64 x3) := by rw [← hu]; repeat (first | with_reducible exact CellF.at_ (by simp) rfl | with_reducible refine CellF.past _ ?_)
  have cB1_3 := qB1_3.1
  have zB1 := ltc cB1_0
  have qB2_0 : CellF z ⟨(w.heap.size + 2), 0, none⟩ (.int .i64 c0) := by rw [← hu]; repeat (first | with_reducible exact CellF.at_ (by simp) rfl | with_reducible refine CellF.past _ ?_)
  have cB2_0 := qB2_0.1
  have qB2_1 : CellF z ⟨(w.heap.size + 2), 1, none⟩ (.int .i64 c1) := by rw [← hu]; repeat (first | with_reducible exact CellF.at_ (by simp) rfl | with_reducible refine CellF.past _ ?_)
  have cB2_1 := qB2_1.1
  have zB2 := ltc cB2_0
  have qB3_0 : CellF z ⟨(w.heap.size + 3), 0, none⟩ (.int .i64 0) := by rw [← hu]; repeat (first | with_reducible exact CellF.at_ (by simp) rfl | with_reducible refine CellF.past _ ?_)
  have cB3_0 := qB3_0.1
  have qB3_1 : CellF z ⟨(w.heap.size + 3), 1, none⟩ (.int .i64 0) := by rw [← hu]; repeat (first | with_reducible exact CellF.at_ (by simp) rfl | with_reducible refine CellF.past _ ?_)
  have cB3_1 := qB3_1.1
  have qB3_2 : CellF z ⟨(w.heap.size + 3), 2, none⟩ (.bool false) := by rw [← hu]; repeat (first | with_reducible exact CellF.at_ (by simp) rfl | with_reducible refine CellF.past _ ?_)
  have cB3_2 := qB3_2.1
  have zB3 := ltc cB3_0
  clear hu
  have hR : SpanAt z (w.heap.size + 3) 0 0 false := ⟨qB3_0, qB3_1, qB3_2⟩
  dsimp only at zB3
  clear qB3_0 qB3_1 qB3_2 cB3_0 cB3_1 cB3_2
  refine wp_region_inv (by kernel_rfl) (fun ls ac w' => ∃ v7 v8 v9 v10 v11 v12 v13 v14 v15 v16 v17 v18 v19 v20 v21 v22 v23, ac = ⟨#[.agg #[.int .i64 mn, .int .i64 mx, .int .i64 g], .agg #[.int .i64 x0, .int .i64 x1, .int .i64 x2, .int .i64 x3], .agg #[.int .i64 c0, .int .i64 c1], .pointer (some ⟨w.heap.size, 0, none⟩), .pointer (some ⟨w.heap.size + 1, 0, none⟩), .pointer (some ⟨w.heap.size + 2, 0, none⟩), .pointer (some ⟨w.heap.size + 3, 0, none⟩), v7, v8, v9, v10, v11, v12, v13, v14, v15, v16, v17, v18, v19, v20, v21, v22, v23], []⟩ ∧ ls.size = 18 ∧ (ls.getD 17 false = false → Below z.heap.size z w') ∧ (ls.getD 0 false = true → v7 = .agg #[.int .i64 mn, .int .i64 mx, .int .i64 g]) ∧ (ls.getD 1 false = true → v8 = .pointer (some ⟨w.heap.size + 1, 0, none⟩)) ∧ (ls.getD 2 false = true → v9 = .int .i64 x0) ∧ (ls.getD 3 false = true → v10 = .pointer (some ⟨w.heap.size + 2, 0, none⟩)) ∧ (ls.getD 4 false = true → v11 = .int .i64 c0) ∧ (ls.getD 5 false = true → v12 = .pointer (some ⟨w.heap.size + 1, 1, none⟩)) ∧ (ls.getD 6 false = true → v13 = .int .i64 x1) ∧ (ls.getD 7 false = true → v14 = .agg #[.int .i64 s1, .int .i64 s2, .bool s3]) ∧ (ls.getD 8 false = true → v15 = .agg #[.int .i64 mn, .int .i64 mx, .int .i64 g]) ∧ (ls.getD 9 false = true → v16 = .pointer (some ⟨w.heap.size + 1, 2, none⟩)) ∧ (ls.getD 10 false = true → v17 = .int .i64 x2) ∧ (ls.getD 11 false = true → v18 = .pointer (some ⟨w.heap.size + 2, 1, none⟩)) ∧ (ls.getD 12 false = true → v19 = .int .i64 c1) ∧ (ls.getD 13 false = true → v20 = .pointer (some ⟨w.heap.size + 1, 3, none⟩)) ∧ (ls.getD 14 false = true → v21 = .int .i64 x3) ∧ (ls.getD 15 false = true → v22 = .agg #[.int .i64 r1, .int .i64 r2, .bool r3]) ∧ (ls.getD 16 false = true → v23 = .agg #[.int .i64 y1, .int .i64 y2, .bool y3]) ∧ (ls.getD 2 false = true → ls.getD 1 false = true ∧ True) ∧ (ls.getD 4 false = true → ls.getD 3 false = true ∧ True) ∧ (ls.getD 6 false = true → ls.getD 5 false = true ∧ True) ∧ (ls.getD 7 false = true → ls.getD 0 false = true ∧ ls.getD 2 false = true ∧ ls.getD 4 false = true ∧ ls.getD 6 false = true ∧ True) ∧ (ls.getD 10 false = true → ls.getD 9 false = true ∧ True) ∧ (ls.getD 12 false = true → ls.getD 11 false = true ∧ True) ∧ (ls.getD 14 false = true → ls.getD 13 false = true ∧ True) ∧ (ls.getD 15 false = true → ls.getD 8 false = true ∧ ls.getD 10 false = true ∧ ls.getD 12 false = true ∧ ls.getD 14 false = true ∧ True) ∧ (ls.getD 16 false = true → ls.getD 7 false = true ∧ ls.getD 15 false = true ∧ True) ∧ (ls.getD 17 false = true → Below w.heap.size z w' ∧ SpanAt w' (w.heap.size + 3) y1 y2 y3) ∧ (ls.getD 17 false = true → ∀ i, i < 18 → ls.getD i false = true)) ?_ ?_ ?_
  · exact ⟨_, _, _, _, _, _, _, _, _, _, _, _, _, _, _, _, _, rfl, rfl, fun _ => bdrew (brefl _), fun h => (by cases h), fun h => (by cases h), fun h => (by cases h), fun h => (by cases h), fun h => (by cases h), fun h => (by cases h), fun h => (by cases h), fun h => (by cases h), fun h => (by cases h), fun h => (by cases h), fun h => (by cases h), fun h => (by cases h), fun h => (by cases h), fun h => (by cases h), fun h => (by cases h), fun h => (by cases h), fun h => (by cases h), fun h => (by cases h), fun h => (by cases h), fun h => (by cases h), fun h => (by cases h), fun h => (by cases h), fun h => (by cases h), fun h => (by cases h), fun h => (by cases h), fun h => (by cases h), fun h => (by cases h), fun h => (by cases h)⟩
  · intro i hii
    have hin : i < 18 := hii
    have hor : i = 0 ∨ i = 1 ∨ i = 2 ∨ i = 3 ∨ i = 4 ∨ i = 5 ∨ i = 6 ∨ i = 7 ∨ i = 8 ∨ i = 9 ∨ i = 10 ∨ i = 11 ∨ i = 12 ∨ i = 13 ∨ i = 14 ∨ i = 15 ∨ i = 16 ∨ i = 17 := (by decide : ∀ i : Nat, i < 18 → (i = 0 ∨ i = 1 ∨ i = 2 ∨ i = 3 ∨ i = 4 ∨ i = 5 ∨ i = 6 ∨ i = 7 ∨ i = 8 ∨ i = 9 ∨ i = 10 ∨ i = 11 ∨ i = 12 ∨ i = 13 ∨ i = 14 ∨ i = 15 ∨ i = 16 ∨ i = 17)) i hin
    rcases hor with rfl | rfl | rfl | rfl | rfl | rfl | rfl | rfl | rfl | rfl | rfl | rfl | rfl | rfl | rfl | rfl | rfl | rfl
    · rintro ls ac w' hr ⟨v7, v8, v9, v10, v11, v12, v13, v14, v15, v16, v17, v18, v19, v20, v21, v22, v23, rfl, hl, hB', zg0, zg1, zg2, zg3, zg4, zg5, zg6, zg7, zg8, zg9, zg10, zg11, zg12, zg13, zg14, zg15, zg16, zc2, zc4, zc6, zc7, zc10, zc12, zc14, zc15, zc16, hS, hK⟩
      have hs0 : ls.getD 17 false = false := by cases hc : ls.getD 17 false with | false => rfl | true => (exfalso; have hz := hK hc 0 (by decide); have hn := (ready_dep hr rfl).1; rw [getD_both hz] at hn; cases hn)
      have hB := hB' hs0
      have a0 := (hB.cell (ltc cB0_0)).trans cB0_0
      have a1 := (hB.cell (ltc cB0_1)).trans cB0_1
      have a2 := (hB.cell (ltc cB0_2)).trans cB0_2
      have a3 := (hB.cell (ltc cB1_0)).trans cB1_0
      have a4 := (hB.cell (ltc cB1_1)).trans cB1_1
      have a5 := (hB.cell (ltc cB1_2)).trans cB1_2
      have a6 := (hB.cell (ltc cB1_3)).trans cB1_3
      have a7 := (hB.cell (ltc cB2_0)).trans cB2_0
      have a8 := (hB.cell (ltc cB2_1)).trans cB2_1
      refine wpOp_step rfl (fun K hK => ?_)
      clear hr
      go_simp
      refine hK _ _ ?_
      simp only [getD_own (l := ls) (i := 0) (by omega), gq 0 1, gq 0 2, gq 0 3, gq 0 4, gq 0 5, gq 0 6, gq 0 7, gq 0 8, gq 0 9, gq 0 10, gq 0 11, gq 0 12, gq 0 13, gq 0 14, gq 0 15, gq 0 16, gq 0 17]
      exact ⟨_, v8, v9, v10, v11, v12, v13, v14, v15, v16, v17, v18, v19, v20, v21, v22, v23, rfl, by simp [hl], fun _ => hB, fun _ => rfl, zg1, zg2, zg3, zg4, zg5, zg6, zg7, zg8, zg9, zg10, zg11, zg12, zg13, zg14, zg15, zg16, zc2, zc4, zc6, fun h => ⟨(by first | rfl | trivial), (zc7 h).2.1, (zc7 h).2.2.1, (zc7 h).2.2.2.1, trivial⟩, zc10, zc12, zc14, zc15, zc16, fun h => (by rw [hs0] at h; cases h), fun h => (by rw [hs0] at h; cases h)⟩
    · rintro ls ac w' hr ⟨v7, v8, v9, v10, v11, v12, v13, v14, v15, v16, v17, v18, v19, v20, v21, v22, v23, rfl, hl, hB', zg0, zg1, zg2, zg3, zg4, zg5, zg6, zg7, zg8, zg9, zg10, zg11, zg12, zg13, zg14, zg15, zg16, zc2, zc4, zc6, zc7, zc10, zc12, zc14, zc15, zc16, hS, hK⟩
      have hs0 : ls.getD 17 false = false := by cases hc : ls.getD 17 false with | false => rfl | true => (exfalso; have hz := hK hc 1 (by decide); have hn := (ready_dep hr rfl).1; rw [getD_both hz] at hn; cases hn)
      have hB := hB' hs0
      refine wpOp_step rfl (fun K hK => ?_)
      clear hr
      go_simp
      refine hK _ _ ?_
      simp only [getD_own (l := ls) (i := 1) (by omega), gq 1 0, gq 1 2, gq 1 3, gq 1 4, gq 1 5, gq 1 6, gq 1 7, gq 1 8, gq 1 9, gq 1 10, gq 1 11, gq 1 12, gq 1 13, gq 1 14, gq 1 15, gq 1 16, gq 1 17]
      exact ⟨v7, _, v9, v10, v11, v12, v13, v14, v15, v16, v17, v18, v19, v20, v21, v22, v23, rfl, by simp [hl], fun _ => hB, zg0, fun _ => rfl, zg2, zg3, zg4, zg5, zg6, zg7, zg8, zg9, zg10, zg11, zg12, zg13, zg14, zg15, zg16, fun h => ⟨(by first | rfl | trivial), trivial⟩, zc4, zc6, zc7, zc10, zc12, zc14, zc15, zc16, fun h => (by rw [hs0] at h; cases h), fun h => (by rw [hs0] at h; cases h)⟩
    · rintro ls ac w' hr ⟨v7, v8, v9, v10, v11, v12, v13, v14, v15, v16, v17, v18, v19, v20, v21, v22, v23, rfl, hl, hB', zg0, zg1, zg2, zg3, zg4, zg5, zg6, zg7, zg8, zg9, zg10, zg11, zg12, zg13, zg14, zg15, zg16, zc2, zc4, zc6, zc7, zc10, zc12, zc14, zc15, zc16, hS, hK⟩
      have zd1 := rdd hr 1
      have hs0 : ls.getD 17 false = false := by cases hc : ls.getD 17 false with | false => rfl | true => (exfalso; have hz := hK hc 2 (by decide); have hn := (ready_dep hr rfl).1; rw [getD_both hz] at hn; cases hn)
      have hB := hB' hs0
      obtain rfl := zg1 zd1
      have a0 := (hB.cell (ltc cB0_0)).trans cB0_0
      have a1 := (hB.cell (ltc cB0_1)).trans cB0_1
      have a2 := (hB.cell (ltc cB0_2)).trans cB0_2
      have a3 := (hB.cell (ltc cB1_0)).trans cB1_0
      have a4 := (hB.cell (ltc cB1_1)).trans cB1_1
      have a5 := (hB.cell (ltc cB1_2)).trans cB1_2
      have a6 := (hB.cell (ltc cB1_3)).trans cB1_3
      have a7 := (hB.cell (ltc cB2_0)).trans cB2_0
      have a8 := (hB.cell (ltc cB2_1)).trans cB2_1
      refine wpOp_step rfl (fun K hK => ?_)
      clear hr
      go_simp
      refine hK _ _ ?_
      simp only [getD_own (l := ls) (i := 2) (by omega), gq 2 0, gq 2 1, gq 2 3, gq 2 4, gq 2 5, gq 2 6, gq 2 7, gq 2 8, gq 2 9, gq 2 10, gq 2 11, gq 2 12, gq 2 13, gq 2 14, gq 2 15, gq 2 16, gq 2 17]
      exact ⟨v7, _, _, v10, v11, v12, v13, v14, v15, v16, v17, v18, v19, v20, v21, v22, v23, rfl, by simp [hl], fun _ => hB, zg0, fun _ => rfl, fun _ => rfl, zg3, zg4, zg5, zg6, zg7, zg8, zg9, zg10, zg11, zg12, zg13, zg14, zg15, zg16, fun _ => ⟨zd1, trivial⟩, zc4, zc6, fun h => ⟨(zc7 h).1, (by first | rfl | trivial), (zc7 h).2.2.1, (zc7 h).2.2.2.1, trivial⟩, zc10, zc12, zc14, zc15, zc16, fun h => (by rw [hs0] at h; cases h), fun h => (by rw [hs0] at h; cases h)⟩
    · rintro ls ac w' hr ⟨v7, v8, v9, v10, v11, v12, v13, v14, v15, v16, v17, v18, v19, v20, v21, v22, v23, rfl, hl, hB', zg0, zg1, zg2, zg3, zg4, zg5, zg6, zg7, zg8, zg9, zg10, zg11, zg12, zg13, zg14, zg15, zg16, zc2, zc4, zc6, zc7, zc10, zc12, zc14, zc15, zc16, hS, hK⟩
      have hs0 : ls.getD 17 false = false := by cases hc : ls.getD 17 false with | false => rfl | true => (exfalso; have hz := hK hc 3 (by decide); have hn := (ready_dep hr rfl).1; rw [getD_both hz] at hn; cases hn)
      have hB := hB' hs0
      refine wpOp_step rfl (fun K hK => ?_)
      clear hr
      go_simp
      refine hK _ _ ?_
      simp only [getD_own (l := ls) (i := 3) (by omega), gq 3 0, gq 3 1, gq 3 2, gq 3 4, gq 3 5, gq 3 6, gq 3 7, gq 3 8, gq 3 9, gq 3 10, gq 3 11, gq 3 12, gq 3 13, gq 3 14, gq 3 15, gq 3 16, gq 3 17]
      exact ⟨v7, v8, v9, _, v11, v12, v13, v14, v15, v16, v17, v18, v19, v20, v21, v22, v23, rfl, by simp [hl], fun _ => hB, zg0, zg1, zg2, fun _ => rfl, zg4, zg5, zg6, zg7, zg8, zg9, zg10, zg11, zg12, zg13, zg14, zg15, zg16, zc2, fun h => ⟨(by first | rfl | trivial), trivial⟩, zc6, zc7, zc10, zc12, zc14, zc15, zc16, fun h => (by rw [hs0] at h; cases h), fun h => (by rw [hs0] at h; cases h)⟩
    · rintro ls ac w' hr ⟨v7, v8, v9, v10, v11, v12, v13, v14, v15, v16, v17, v18, v19, v20, v21, v22, v23, rfl, hl, hB', zg0, zg1, zg2, zg3, zg4, zg5, zg6, zg7, zg8, zg9, zg10, zg11, zg12, zg13, zg14, zg15, zg16, zc2, zc4, zc6, zc7, zc10, zc12, zc14, zc15, zc16, hS, hK⟩
      have zd3 := rdd hr 3
      have hs0 : ls.getD 17 false = false := by cases hc : ls.getD 17 false with | false => rfl | true => (exfalso; have hz := hK hc 4 (by decide); have hn := (ready_dep hr rfl).1; rw [getD_both hz] at hn; cases hn)
      have hB := hB' hs0
      obtain rfl := zg3 zd3
      have a0 := (hB.cell (ltc cB0_0)).trans cB0_0
      have a1 := (hB.cell (ltc cB0_1)).trans cB0_1
      have a2 := (hB.cell (ltc cB0_2)).trans cB0_2
      have a3 := (hB.cell (ltc cB1_0)).trans cB1_0
      have a4 := (hB.cell (ltc cB1_1)).trans cB1_1
      have a5 := (hB.cell (ltc cB1_2)).trans cB1_2
      have a6 := (hB.cell (ltc cB1_3)).trans cB1_3
      have a7 := (hB.cell (ltc cB2_0)).trans cB2_0
      have a8 := (hB.cell (ltc cB2_1)).trans cB2_1
      refine wpOp_step rfl (fun K hK => ?_)
      clear hr
      go_simp
      refine hK _ _ ?_
      simp only [getD_own (l := ls) (i := 4) (by omega), gq 4 0, gq 4 1, gq 4 2, gq 4 3, gq 4 5, gq 4 6, gq 4 7, gq 4 8, gq 4 9, gq 4 10, gq 4 11, gq 4 12, gq 4 13, gq 4 14, gq 4 15, gq 4 16, gq 4 17]
      exact ⟨v7, v8, v9, _, _, v12, v13, v14, v15, v16, v17, v18, v19, v20, v21, v22, v23, rfl, by simp [hl], fun _ => hB, zg0, zg1, zg2, fun _ => rfl, fun _ => rfl, zg5, zg6, zg7, zg8, zg9, zg10, zg11, zg12, zg13, zg14, zg15, zg16, zc2, fun _ => ⟨zd3, trivial⟩, zc6, fun h => ⟨(zc7 h).1, (zc7 h).2.1, (by first | rfl | trivial), (zc7 h).2.2.2.1, trivial⟩, zc10, zc12, zc14, zc15, zc16, fun h => (by rw [hs0] at h; cases h), fun h => (by rw [hs0] at h; cases h)⟩
    · rintro ls ac w' hr ⟨v7, v8, v9, v10, v11, v12, v13, v14, v15, v16, v17, v18, v19, v20, v21, v22, v23, rfl, hl, hB', zg0, zg1, zg2, zg3, zg4, zg5, zg6, zg7, zg8, zg9, zg10, zg11, zg12, zg13, zg14, zg15, zg16, zc2, zc4, zc6, zc7, zc10, zc12, zc14, zc15, zc16, hS, hK⟩
      have hs0 : ls.getD 17 false = false := by cases hc : ls.getD 17 false with | false => rfl | true => (exfalso; have hz := hK hc 5 (by decide); have hn := (ready_dep hr rfl).1; rw [getD_both hz] at hn; cases hn)
      have hB := hB' hs0
      refine wpOp_step rfl (fun K hK => ?_)
      clear hr
      go_simp
      refine hK _ _ ?_
      simp only [getD_own (l := ls) (i := 5) (by omega), gq 5 0, gq 5 1, gq 5 2, gq 5 3, gq 5 4, gq 5 6, gq 5 7, gq 5 8, gq 5 9, gq 5 10, gq 5 11, gq 5 12, gq 5 13, gq 5 14, gq 5 15, gq 5 16, gq 5 17]
      exact ⟨v7, v8, v9, v10, v11, _, v13, v14, v15, v16, v17, v18, v19, v20, v21, v22, v23, rfl, by simp [hl], fun _ => hB, zg0, zg1, zg2, zg3, zg4, fun _ => rfl, zg6, zg7, zg8, zg9, zg10, zg11, zg12, zg13, zg14, zg15, zg16, zc2, zc4, fun h => ⟨(by first | rfl | trivial), trivial⟩, zc7, zc10, zc12, zc14, zc15, zc16, fun h => (by rw [hs0] at h; cases h), fun h => (by rw [hs0] at h; cases h)⟩
    · rintro ls ac w' hr ⟨v7, v8, v9, v10, v11, v12, v13, v14, v15, v16, v17, v18, v19, v20, v21, v22, v23, rfl, hl, hB', zg0, zg1, zg2, zg3, zg4, zg5, zg6, zg7, zg8, zg9, zg10, zg11, zg12, zg13, zg14, zg15, zg16, zc2, zc4, zc6, zc7, zc10, zc12, zc14, zc15, zc16, hS, hK⟩
      have zd5 := rdd hr 5
      have hs0 : ls.getD 17 false = false := by cases hc : ls.getD 17 false with | false => rfl | true => (exfalso; have hz := hK hc 6 (by decide); have hn := (ready_dep hr rfl).1; rw [getD_both hz] at hn; cases hn)
      have hB := hB' hs0
      obtain rfl := zg5 zd5
      have a0 := (hB.cell (ltc cB0_0)).trans cB0_0
      have a1 := (hB.cell (ltc cB0_1)).trans cB0_1
      have a2 := (hB.cell (ltc cB0_2)).trans cB0_2
      have a3 := (hB.cell (ltc cB1_0)).trans cB1_0
      have a4 := (hB.cell (ltc cB1_1)).trans cB1_1
      have a5 := (hB.cell (ltc cB1_2)).trans cB1_2
      have a6 := (hB.cell (ltc cB1_3)).trans cB1_3
      have a7 := (hB.cell (ltc cB2_0)).trans cB2_0
      have a8 := (hB.cell (ltc cB2_1)).trans cB2_1
      refine wpOp_step rfl (fun K hK => ?_)
      clear hr
      go_simp
      refine hK _ _ ?_
      simp only [getD_own (l := ls) (i := 6) (by omega), gq 6 0, gq 6 1, gq 6 2, gq 6 3, gq 6 4, gq 6 5, gq 6 7, gq 6 8, gq 6 9, gq 6 10, gq 6 11, gq 6 12, gq 6 13, gq 6 14, gq 6 15, gq 6 16, gq 6 17]
      exact ⟨v7, v8, v9, v10, v11, _, _, v14, v15, v16, v17, v18, v19, v20, v21, v22, v23, rfl, by simp [hl], fun _ => hB, zg0, zg1, zg2, zg3, zg4, fun _ => rfl, fun _ => rfl, zg7, zg8, zg9, zg10, zg11, zg12, zg13, zg14, zg15, zg16, zc2, zc4, fun _ => ⟨zd5, trivial⟩, fun h => ⟨(zc7 h).1, (zc7 h).2.1, (zc7 h).2.2.1, (by first | rfl | trivial), trivial⟩, zc10, zc12, zc14, zc15, zc16, fun h => (by rw [hs0] at h; cases h), fun h => (by rw [hs0] at h; cases h)⟩
    · rintro ls ac w' hr ⟨v7, v8, v9, v10, v11, v12, v13, v14, v15, v16, v17, v18, v19, v20, v21, v22, v23, rfl, hl, hB', zg0, zg1, zg2, zg3, zg4, zg5, zg6, zg7, zg8, zg9, zg10, zg11, zg12, zg13, zg14, zg15, zg16, zc2, zc4, zc6, zc7, zc10, zc12, zc14, zc15, zc16, hS, hK⟩
      have zd0 := rdd hr 0
      have zd2 := rdd hr 2
      have zd4 := rdd hr 4
      have zd6 := rdd hr 6
      have zd1 := (zc2 zd2).1
      have zd3 := (zc4 zd4).1
      have zd5 := (zc6 zd6).1
      have hs0 : ls.getD 17 false = false := by cases hc : ls.getD 17 false with | false => rfl | true => (exfalso; have hz := hK hc 7 (by decide); have hn := (ready_dep hr rfl).1; rw [getD_both hz] at hn; cases hn)
      have hB := hB' hs0
      obtain rfl := zg0 zd0
      obtain rfl := zg2 zd2
      obtain rfl := zg4 zd4
      obtain rfl := zg6 zd6
      obtain rfl := zg1 zd1
      obtain rfl := zg3 zd3
      obtain rfl := zg5 zd5
      refine wpOp_step rfl (fun K hK => ?_)
      clear hr
      go_simp
      refine (Sync_is _ _ _ _ _ _ _ _ _ hc0 Hs _).mono ?_
      rintro e w1 ⟨rfl, hk⟩
      dsimp only
      refine hK _ _ ?_
      simp only [getD_own (l := ls) (i := 7) (by omega), gq 7 0, gq 7 1, gq 7 2, gq 7 3, gq 7 4, gq 7 5, gq 7 6, gq 7 8, gq 7 9, gq 7 10, gq 7 11, gq 7 12, gq 7 13, gq 7 14, gq 7 15, gq 7 16, gq 7 17]
      exact ⟨_, _, _, _, _, _, _, _, v15, v16, v17, v18, v19, v20, v21, v22, v23, rfl, by simp [hl], fun _ => bstep hB hk, fun _ => rfl, fun _ => rfl, fun _ => rfl, fun _ => rfl, fun _ => rfl, fun _ => rfl, fun _ => rfl, fun _ => rfl, zg8, zg9, zg10, zg11, zg12, zg13, zg14, zg15, zg16, zc2, zc4, zc6, fun _ => ⟨zd0, zd2, zd4, zd6, trivial⟩, zc10, zc12, zc14, zc15, fun h => ⟨(by first | rfl | trivial), (zc16 h).2.1, trivial⟩, fun h => (by rw [hs0] at h; cases h), fun h => (by rw [hs0] at h; cases h)⟩
    · rintro ls ac w' hr ⟨v7, v8, v9, v10, v11, v12, v13, v14, v15, v16, v17, v18, v19, v20, v21, v22, v23, rfl, hl, hB', zg0, zg1, zg2, zg3, zg4, zg5, zg6, zg7, zg8, zg9, zg10, zg11, zg12, zg13, zg14, zg15, zg16, zc2, zc4, zc6, zc7, zc10, zc12, zc14, zc15, zc16, hS, hK⟩
      have hs0 : ls.getD 17 false = false := by cases hc : ls.getD 17 false with | false => rfl | true => (exfalso; have hz := hK hc 8 (by decide); have hn := (ready_dep hr rfl).1; rw [getD_both hz] at hn; cases hn)
      have hB := hB' hs0
      have a0 := (hB.cell (ltc cB0_0)).trans cB0_0
      have a1 := (hB.cell (ltc cB0_1)).trans cB0_1
      have a2 := (hB.cell (ltc cB0_2)).trans cB0_2
      have a3 := (hB.cell (ltc cB1_0)).trans cB1_0
      have a4 := (hB.cell (ltc cB1_1)).trans cB1_1
      have a5 := (hB.cell (ltc cB1_2)).trans cB1_2
      have a6 := (hB.cell (ltc cB1_3)).trans cB1_3
      have a7 := (hB.cell (ltc cB2_0)).trans cB2_0
      have a8 := (hB.cell (ltc cB2_1)).trans cB2_1
      refine wpOp_step rfl (fun K hK => ?_)
      clear hr
      go_simp
      refine hK _ _ ?_
      simp only [getD_own (l := ls) (i := 8) (by omega), gq 8 0, gq 8 1, gq 8 2, gq 8 3, gq 8 4, gq 8 5, gq 8 6, gq 8 7, gq 8 9, gq 8 10, gq 8 11, gq 8 12, gq 8 13, gq 8 14, gq 8 15, gq 8 16, gq 8 17]
      exact ⟨v7, v8, v9, v10, v11, v12, v13, v14, _, v16, v17, v18, v19, v20, v21, v22, v23, rfl, by simp [hl], fun _ => hB, zg0, zg1, zg2, zg3, zg4, zg5, zg6, zg7, fun _ => rfl, zg9, zg10, zg11, zg12, zg13, zg14, zg15, zg16, zc2, zc4, zc6, zc7, zc10, zc12, zc14, fun h => ⟨(by first | rfl | trivial), (zc15 h).2.1, (zc15 h).2.2.1, (zc15 h).2.2.2.1, trivial⟩, zc16, fun h => (by rw [hs0] at h; cases h), fun h => (by rw [hs0] at h; cases h)⟩
    · rintro ls ac w' hr ⟨v7, v8, v9, v10, v11, v12, v13, v14, v15, v16, v17, v18, v19, v20, v21, v22, v23, rfl, hl, hB', zg0, zg1, zg2, zg3, zg4, zg5, zg6, zg7, zg8, zg9, zg10, zg11, zg12, zg13, zg14, zg15, zg16, zc2, zc4, zc6, zc7, zc10, zc12, zc14, zc15, zc16, hS, hK⟩
      have hs0 : ls.getD 17 false = false := by cases hc : ls.getD 17 false with | false => rfl | true => (exfalso; have hz := hK hc 9 (by decide); have hn := (ready_dep hr rfl).1; rw [getD_both hz] at hn; cases hn)
      have hB := hB' hs0
      refine wpOp_step rfl (fun K hK => ?_)
      clear hr
      go_simp
      refine hK _ _ ?_
      simp only [getD_own (l := ls) (i := 9) (by omega), gq 9 0, gq 9 1, gq 9 2, gq 9 3, gq 9 4, gq 9 5, gq 9 6, gq 9 7, gq 9 8, gq 9 10, gq 9 11, gq 9 12, gq 9 13, gq 9 14, gq 9 15, gq 9 16, gq 9 17]
      exact ⟨v7, v8, v9, v10, v11, v12, v13, v14, v15, _, v17, v18, v19, v20, v21, v22, v23, rfl, by simp [hl], fun _ => hB, zg0, zg1, zg2, zg3, zg4, zg5, zg6, zg7, zg8, fun _ => rfl, zg10, zg11, zg12, zg13, zg14, zg15, zg16, zc2, zc4, zc6, zc7, fun h => ⟨(by first | rfl | trivial), trivial⟩, zc12, zc14, zc15, zc16, fun h => (by rw [hs0] at h; cases h), fun h => (by rw [hs0] at h; cases h)⟩
    · rintro ls ac w' hr ⟨v7, v8, v9, v10, v11, v12, v13, v14, v15, v16, v17, v18, v19, v20, v21, v22, v23, rfl, hl, hB', zg0, zg1, zg2, zg3, zg4, zg5, zg6, zg7, zg8, zg9, zg10, zg11, zg12, zg13, zg14, zg15, zg16, zc2, zc4, zc6, zc7, zc10, zc12, zc14, zc15, zc16, hS, hK⟩
      have zd9 := rdd hr 9
      have hs0 : ls.getD 17 false = false := by cases hc : ls.getD 17 false with | false => rfl | true => (exfalso; have hz := hK hc 10 (by decide); have hn := (ready_dep hr rfl).1; rw [getD_both hz] at hn; cases hn)
      have hB := hB' hs0
      obtain rfl := zg9 zd9
      have a0 := (hB.cell (ltc cB0_0)).trans cB0_0
      have a1 := (hB.cell (ltc cB0_1)).trans cB0_1
      have a2 := (hB.cell (ltc cB0_2)).trans cB0_2
      have a3 := (hB.cell (ltc cB1_0)).trans cB1_0
      have a4 := (hB.cell (ltc cB1_1)).trans cB1_1
      have a5 := (hB.cell (ltc cB1_2)).trans cB1_2
      have a6 := (hB.cell (ltc cB1_3)).trans cB1_3
      have a7 := (hB.cell (ltc cB2_0)).trans cB2_0
      have a8 := (hB.cell (ltc cB2_1)).trans cB2_1
      refine wpOp_step rfl (fun K hK => ?_)
      clear hr
      go_simp
      refine hK _ _ ?_
      simp only [getD_own (l := ls) (i := 10) (by omega), gq 10 0, gq 10 1, gq 10 2, gq 10 3, gq 10 4, gq 10 5, gq 10 6, gq 10 7, gq 10 8, gq 10 9, gq 10 11, gq 10 12, gq 10 13, gq 10 14, gq 10 15, gq 10 16, gq 10 17]
      exact ⟨v7, v8, v9, v10, v11, v12, v13, v14, v15, _, _, v18, v19, v20, v21, v22, v23, rfl, by simp [hl], fun _ => hB, zg0, zg1, zg2, zg3, zg4, zg5, zg6, zg7, zg8, fun _ => rfl, fun _ => rfl, zg11, zg12, zg13, zg14, zg15, zg16, zc2, zc4, zc6, zc7, fun _ => ⟨zd9, trivial⟩, zc12, zc14, fun h => ⟨(zc15 h).1, (by first | rfl | trivial), (zc15 h).2.2.1, (zc15 h).2.2.2.1, trivial⟩, zc16, fun h => (by rw [hs0] at h; cases h), fun h => (by rw [hs0] at h; cases h)⟩
    · rintro ls ac w' hr ⟨v7, v8, v9, v10, v11, v12, v13, v14, v15, v16, v17, v18, v19, v20, v21, v22, v23, rfl, hl, hB', zg0, zg1, zg2, zg3, zg4, zg5, zg6, zg7, zg8, zg9, zg10, zg11, zg12, zg13, zg14, zg15, zg16, zc2, zc4, zc6, zc7, zc10, zc12, zc14, zc15, zc16, hS, hK⟩
      have hs0 : ls.getD 17 false = false := by cases hc : ls.getD 17 false with | false => rfl | true => (exfalso; have hz := hK hc 11 (by decide); have hn := (ready_dep hr rfl).1; rw [getD_both hz] at hn; cases hn)
      have hB := hB' hs0
      refine wpOp_step rfl (fun K hK => ?_)
      clear hr
      go_simp
      refine hK _ _ ?_
      simp only [getD_own (l := ls) (i := 11) (by omega), gq 11 0, gq 11 1, gq 11 2, gq 11 3, gq 11 4, gq 11 5, gq 11 6, gq 11 7, gq 11 8, gq 11 9, gq 11 10, gq 11 12, gq 11 13, gq 11 14, gq 11 15, gq 11 16, gq 11 17]
      exact ⟨v7, v8, v9, v10, v11, v12, v13, v14, v15, v16, v17, _, v19, v20, v21, v22, v23, rfl, by simp [hl], fun _ => hB, zg0, zg1, zg2, zg3, zg4, zg5, zg6, zg7, zg8, zg9, zg10, fun _ => rfl, zg12, zg13, zg14, zg15, zg16, zc2, zc4, zc6, zc7, zc10, fun h => ⟨(by first | rfl | trivial), trivial⟩, zc14, zc15, zc16, fun h => (by rw [hs0] at h; cases h), fun h => (by rw [hs0] at h; cases h)⟩
    · rintro ls ac w' hr ⟨v7, v8, v9, v10, v11, v12, v13, v14, v15, v16, v17, v18, v19, v20, v21, v22, v23, rfl, hl, hB', zg0, zg1, zg2, zg3, zg4, zg5, zg6, zg7, zg8, zg9, zg10, zg11, zg12, zg13, zg14, zg15, zg16, zc2, zc4, zc6, zc7, zc10, zc12, zc14, zc15, zc16, hS, hK⟩
      have zd11 := rdd hr 11
      have hs0 : ls.getD 17 false = false := by cases hc : ls.getD 17 false with | false => rfl | true => (exfalso; have hz := hK hc 12 (by decide); have hn := (ready_dep hr rfl).1; rw [getD_both hz] at hn; cases hn)
      have hB := hB' hs0
      obtain rfl := zg11 zd11
      have a0 := (hB.cell (ltc cB0_0)).trans cB0_0
      have a1 := (hB.cell (ltc cB0_1)).trans cB0_1
      have a2 := (hB.cell (ltc cB0_2)).trans cB0_2
      have a3 := (hB.cell (ltc cB1_0)).trans cB1_0
      have a4 := (hB.cell (ltc cB1_1)).trans cB1_1
      have a5 := (hB.cell (ltc cB1_2)).trans cB1_2
      have a6 := (hB.cell (ltc cB1_3)).trans cB1_3
      have a7 := (hB.cell (ltc cB2_0)).trans cB2_0
      have a8 := (hB.cell (ltc cB2_1)).trans cB2_1
      refine wpOp_step rfl (fun K hK => ?_)
      clear hr
      go_simp
      refine hK _ _ ?_
      simp only [getD_own (l := ls) (i := 12) (by omega), gq 12 0, gq 12 1, gq 12 2, gq 12 3, gq 12 4, gq 12 5, gq 12 6, gq 12 7, gq 12 8, gq 12 9, gq 12 10, gq 12 11, gq 12 13, gq 12 14, gq 12 15, gq 12 16, gq 12 17]
      exact ⟨v7, v8, v9, v10, v11, v12, v13, v14, v15, v16, v17, _, _, v20, v21, v22, v23, rfl, by simp [hl], fun _ => hB, zg0, zg1, zg2, zg3, zg4, zg5, zg6, zg7, zg8, zg9, zg10, fun _ => rfl, fun _ => rfl, zg13, zg14, zg15, zg16, zc2, zc4, zc6, zc7, zc10, fun _ => ⟨zd11, trivial⟩, zc14, fun h => ⟨(zc15 h).1, (zc15 h).2.1, (by first | rfl | trivial), (zc15 h).2.2.2.1, trivial⟩, zc16, fun h => (by rw [hs0] at h; cases h), fun h => (by rw [hs0] at h; cases h)⟩
    · rintro ls ac w' hr ⟨v7, v8, v9, v10, v11, v12, v13, v14, v15, v16, v17, v18, v19, v20, v21, v22, v23, rfl, hl, hB', zg0, zg1, zg2, zg3, zg4, zg5, zg6, zg7, zg8, zg9, zg10, zg11, zg12, zg13, zg14, zg15, zg16, zc2, zc4, zc6, zc7, zc10, zc12, zc14, zc15, zc16, hS, hK⟩
      have hs0 : ls.getD 17 false = false := by cases hc : ls.getD 17 false with | false => rfl | true => (exfalso; have hz := hK hc 13 (by decide); have hn := (ready_dep hr rfl).1; rw [getD_both hz] at hn; cases hn)
      have hB := hB' hs0
      refine wpOp_step rfl (fun K hK => ?_)
      clear hr
      go_simp
      refine hK _ _ ?_
      simp only [getD_own (l := ls) (i := 13) (by omega), gq 13 0, gq 13 1, gq 13 2, gq 13 3, gq 13 4, gq 13 5, gq 13 6, gq 13 7, gq 13 8, gq 13 9, gq 13 10, gq 13 11, gq 13 12, gq 13 14, gq 13 15, gq 13 16, gq 13 17]
      exact ⟨v7, v8, v9, v10, v11, v12, v13, v14, v15, v16, v17, v18, v19, _, v21, v22, v23, rfl, by simp [hl], fun _ => hB, zg0, zg1, zg2, zg3, zg4, zg5, zg6, zg7, zg8, zg9, zg10, zg11, zg12, fun _ => rfl, zg14, zg15, zg16, zc2, zc4, zc6, zc7, zc10, zc12, fun h => ⟨(by first | rfl | trivial), trivial⟩, zc15, zc16, fun h => (by rw [hs0] at h; cases h), fun h => (by rw [hs0] at h; cases h)⟩
    · rintro ls ac w' hr ⟨v7, v8, v9, v10, v11, v12, v13, v14, v15, v16, v17, v18, v19, v20, v21, v22, v23, rfl, hl, hB', zg0, zg1, zg2, zg3, zg4, zg5, zg6, zg7, zg8, zg9, zg10, zg11, zg12, zg13, zg14, zg15, zg16, zc2, zc4, zc6, zc7, zc10, zc12, zc14, zc15, zc16, hS, hK⟩
      have zd13 := rdd hr 13
      have hs0 : ls.getD 17 false = false := by cases hc : ls.getD 17 false with | false => rfl | true => (exfalso; have hz := hK hc 14 (by decide); have hn := (ready_dep hr rfl).1; rw [getD_both hz] at hn; cases hn)
      have hB := hB' hs0
      obtain rfl := zg13 zd13
      have a0 := (hB.cell (ltc cB0_0)).trans cB0_0
      have a1 := (hB.cell (ltc cB0_1)).trans cB0_1
      have a2 := (hB.cell (ltc cB0_2)).trans cB0_2
      have a3 := (hB.cell (ltc cB1_0)).trans cB1_0
      have a4 := (hB.cell (ltc cB1_1)).trans cB1_1
      have a5 := (hB.cell (ltc cB1_2)).trans cB1_2
      have a6 := (hB.cell (ltc cB1_3)).trans cB1_3
      have a7 := (hB.cell (ltc cB2_0)).trans cB2_0
      have a8 := (hB.cell (ltc cB2_1)).trans cB2_1
      refine wpOp_step rfl (fun K hK => ?_)
      clear hr
      go_simp
      refine hK _ _ ?_
      simp only [getD_own (l := ls) (i := 14) (by omega), gq 14 0, gq 14 1, gq 14 2, gq 14 3, gq 14 4, gq 14 5, gq 14 6, gq 14 7, gq 14 8, gq 14 9, gq 14 10, gq 14 11, gq 14 12, gq 14 13, gq 14 15, gq 14 16, gq 14 17]
      exact ⟨v7, v8, v9, v10, v11, v12, v13, v14, v15, v16, v17, v18, v19, _, _, v22, v23, rfl, by simp [hl], fun _ => hB, zg0, zg1, zg2, zg3, zg4, zg5, zg6, zg7, zg8, zg9, zg10, zg11, zg12, fun _ => rfl, fun _ => rfl, zg15, zg16, zc2, zc4, zc6, zc7, zc10, zc12, fun _ => ⟨zd13, trivial⟩, fun h => ⟨(zc15 h).1, (zc15 h).2.1, (zc15 h).2.2.1, (by first | rfl | trivial), trivial⟩, zc16, fun h => (by rw [hs0] at h; cases h), fun h => (by rw [hs0] at h; cases h)⟩
    · rintro ls ac w' hr ⟨v7, v8, v9, v10, v11, v12, v13, v14, v15, v16, v17, v18, v19, v20, v21, v22, v23, rfl, hl, hB', zg0, zg1, zg2, zg3, zg4, zg5, zg6, zg7, zg8, zg9, zg10, zg11, zg12, zg13, zg14, zg15, zg16, zc2, zc4, zc6, zc7, zc10, zc12, zc14, zc15, zc16, hS, hK⟩
      have zd8 := rdd hr 8
      have zd10 := rdd hr 10
      have zd12 := rdd hr 12
      have zd14 := rdd hr 14
      have zd9 := (zc10 zd10).1
      have zd11 := (zc12 zd12).1
      have zd13 := (zc14 zd14).1
      have hs0 : ls.getD 17 false = false := by cases hc : ls.getD 17 false with | false => rfl | true => (exfalso; have hz := hK hc 15 (by decide); have hn := (ready_dep hr rfl).1; rw [getD_both hz] at hn; cases hn)
      have hB := hB' hs0
      obtain rfl := zg8 zd8
      obtain rfl := zg10 zd10
      obtain rfl := zg12 zd12
      obtain rfl := zg14 zd14
      obtain rfl := zg9 zd9
      obtain rfl := zg11 zd11
      obtain rfl := zg13 zd13
      refine wpOp_step rfl (fun K hK => ?_)
      clear hr
      go_simp
      refine (Req_is _ _ _ _ _ _ _ _ _ hc1 Hr _).mono ?_
      rintro e w1 ⟨rfl, hk⟩
      dsimp only
      refine hK _ _ ?_
      simp only [getD_own (l := ls) (i := 15) (by omega), gq 15 0, gq 15 1, gq 15 2, gq 15 3, gq 15 4, gq 15 5, gq 15 6, gq 15 7, gq 15 8, gq 15 9, gq 15 10, gq 15 11, gq 15 12, gq 15 13, gq 15 14, gq 15 16, gq 15 17]
      exact ⟨v7, v8, v9, v10, v11, v12, v13, v14, _, _, _, _, _, _, _, _, v23, rfl, by simp [hl], fun _ => bstep hB hk, zg0, zg1, zg2, zg3, zg4, zg5, zg6, zg7, fun _ => rfl, fun _ => rfl, fun _ => rfl, fun _ => rfl, fun _ => rfl, fun _ => rfl, fun _ => rfl, fun _ => rfl, zg16, zc2, zc4, zc6, zc7, zc10, zc12, zc14, fun _ => ⟨zd8, zd10, zd12, zd14, trivial⟩, fun h => ⟨(zc16 h).1, (by first | rfl | trivial), trivial⟩, fun h => (by rw [hs0] at h; cases h), fun h => (by rw [hs0] at h; cases h)⟩
    · rintro ls ac w' hr ⟨v7, v8, v9, v10, v11, v12, v13, v14, v15, v16, v17, v18, v19, v20, v21, v22, v23, rfl, hl, hB', zg0, zg1, zg2, zg3, zg4, zg5, zg6, zg7, zg8, zg9, zg10, zg11, zg12, zg13, zg14, zg15, zg16, zc2, zc4, zc6, zc7, zc10, zc12, zc14, zc15, zc16, hS, hK⟩
      have zd7 := rdd hr 7
      have zd15 := rdd hr 15
      have zd0 := (zc7 zd7).1
      have zd2 := (zc7 zd7).2.1
      have zd4 := (zc7 zd7).2.2.1
      have zd6 := (zc7 zd7).2.2.2.1
      have zd8 := (zc15 zd15).1
      have zd10 := (zc15 zd15).2.1
      have zd12 := (zc15 zd15).2.2.1
      have zd14 := (zc15 zd15).2.2.2.1
      have zd1 := (zc2 zd2).1
      have zd3 := (zc4 zd4).1
      have zd5 := (zc6 zd6).1
      have zd9 := (zc10 zd10).1
      have zd11 := (zc12 zd12).1
      have zd13 := (zc14 zd14).1
      have hs0 : ls.getD 17 false = false := by cases hc : ls.getD 17 false with | false => rfl | true => (exfalso; have hz := hK hc 16 (by decide); have hn := (ready_dep hr rfl).1; rw [getD_both hz] at hn; cases hn)
      have hB := hB' hs0
      obtain rfl := zg7 zd7
      obtain rfl := zg15 zd15
      obtain rfl := zg0 zd0
      obtain rfl := zg2 zd2
      obtain rfl := zg4 zd4
      obtain rfl := zg6 zd6
      obtain rfl := zg8 zd8
      obtain rfl := zg10 zd10
      obtain rfl := zg12 zd12
      obtain rfl := zg14 zd14
      obtain rfl := zg1 zd1
      obtain rfl := zg3 zd3
      obtain rfl := zg5 zd5
      obtain rfl := zg9 zd9
      obtain rfl := zg11 zd11
      obtain rfl := zg13 zd13
      refine wpOp_step rfl (fun K hK => ?_)
      clear hr
      go_simp
      refine (Meet_is _ _ _ _ _ _ _ _ _ HX _).mono ?_
      rintro e w1 ⟨rfl, hk⟩
      dsimp only
      refine hK _ _ ?_
      simp only [getD_own (l := ls) (i := 16) (by omega), gq 16 0, gq 16 1, gq 16 2, gq 16 3, gq 16 4, gq 16 5, gq 16 6, gq 16 7, gq 16 8, gq 16 9, gq 16 10, gq 16 11, gq 16 12, gq 16 13, gq 16 14, gq 16 15, gq 16 17]
      exact ⟨_, _, _, _, _, _, _, _, _, _, _, _, _, _, _, _, _, rfl, by simp [hl], fun _ => bstep hB hk, fun _ => rfl, fun _ => rfl, fun _ => rfl, fun _ => rfl, fun _ => rfl, fun _ => rfl, fun _ => rfl, fun _ => rfl, fun _ => rfl, fun _ => rfl, fun _ => rfl, fun _ => rfl, fun _ => rfl, fun _ => rfl, fun _ => rfl, fun _ => rfl, fun _ => rfl, zc2, zc4, zc6, zc7, zc10, zc12, zc14, zc15, fun _ => ⟨zd7, zd15, trivial⟩, fun h => (by rw [hs0] at h; cases h), fun h => (by rw [hs0] at h; cases h)⟩
    · rintro ls ac w' hr ⟨v7, v8, v9, v10, v11, v12, v13, v14, v15, v16, v17, v18, v19, v20, v21, v22, v23, rfl, hl, hB', zg0, zg1, zg2, zg3, zg4, zg5, zg6, zg7, zg8, zg9, zg10, zg11, zg12, zg13, zg14, zg15, zg16, zc2, zc4, zc6, zc7, zc10, zc12, zc14, zc15, zc16, hS, hK⟩
      have zd16 := rdd hr 16
      have zd7 := (zc16 zd16).1
      have zd15 := (zc16 zd16).2.1
      have zd0 := (zc7 zd7).1
      have zd2 := (zc7 zd7).2.1
      have zd4 := (zc7 zd7).2.2.1
      have zd6 := (zc7 zd7).2.2.2.1
      have zd8 := (zc15 zd15).1
      have zd10 := (zc15 zd15).2.1
      have zd12 := (zc15 zd15).2.2.1
      have zd14 := (zc15 zd15).2.2.2.1
      have zd1 := (zc2 zd2).1
      have zd3 := (zc4 zd4).1
      have zd5 := (zc6 zd6).1
      have zd9 := (zc10 zd10).1
      have zd11 := (zc12 zd12).1
      have zd13 := (zc14 zd14).1
      obtain rfl := zg16 zd16
      obtain rfl := zg7 zd7
      obtain rfl := zg15 zd15
      obtain rfl := zg0 zd0
      obtain rfl := zg2 zd2
      obtain rfl := zg4 zd4
      obtain rfl := zg6 zd6
      obtain rfl := zg8 zd8
      obtain rfl := zg10 zd10
      obtain rfl := zg12 zd12
      obtain rfl := zg14 zd14
      obtain rfl := zg1 zd1
      obtain rfl := zg3 zd3
      obtain rfl := zg5 zd5
      obtain rfl := zg9 zd9
      obtain rfl := zg11 zd11
      obtain rfl := zg13 zd13
      have hns : ls.getD 17 false = false := by cases hc : ls.getD 17 false with | false => rfl | true => (exfalso; have hn := (ready_dep hr rfl).1; rw [getD_both hc] at hn; cases hn)
      have hB := hB' hns
      have hall : ∀ i, i < 18 → (ls.setIfInBounds 17 true).getD i false = true := by intro i hi; have hi' : i = 0 ∨ i = 1 ∨ i = 2 ∨ i = 3 ∨ i = 4 ∨ i = 5 ∨ i = 6 ∨ i = 7 ∨ i = 8 ∨ i = 9 ∨ i = 10 ∨ i = 11 ∨ i = 12 ∨ i = 13 ∨ i = 14 ∨ i = 15 ∨ i = 16 ∨ i = 17 := (by decide : ∀ i : Nat, i < 18 → (i = 0 ∨ i = 1 ∨ i = 2 ∨ i = 3 ∨ i = 4 ∨ i = 5 ∨ i = 6 ∨ i = 7 ∨ i = 8 ∨ i = 9 ∨ i = 10 ∨ i = 11 ∨ i = 12 ∨ i = 13 ∨ i = 14 ∨ i = 15 ∨ i = 16 ∨ i = 17)) i hi; rcases hi' with rfl | rfl | rfl | rfl | rfl | rfl | rfl | rfl | rfl | rfl | rfl | rfl | rfl | rfl | rfl | rfl | rfl | rfl <;> first | exact getD_own (by omega) | (rw [getD_set ls (by decide)]; assumption)
      have hSp := SpanAt.keep hB hR
      have hT := span_sets (x := y1) (y := y2) (z := y3) hSp
      have zs0 := (hSp).1.1
      have zs1 := (hSp).2.1.1
      have zs2 := (hSp).2.2.1
      have zs3 := (hSp).1.2
      have zs4 := (hSp).2.1.2
      have zs5 := (hSp).2.2.2
      refine wpOp_step rfl (fun K hK' => ?_)
      clear hr
      clear hSp
      go_simp
      refine hK' _ _ ?_
      simp only [getD_own (l := ls) (i := 17) (by omega), gq 17 0, gq 17 1, gq 17 2, gq 17 3, gq 17 4, gq 17 5, gq 17 6, gq 17 7, gq 17 8, gq 17 9, gq 17 10, gq 17 11, gq 17 12, gq 17 13, gq 17 14, gq 17 15, gq 17 16]
      exact ⟨_, _, _, _, _, _, _, _, _, _, _, _, _, _, _, _, _, rfl, by simp [hl], fun h => (by cases h), fun _ => rfl, fun _ => rfl, fun _ => rfl, fun _ => rfl, fun _ => rfl, fun _ => rfl, fun _ => rfl, fun _ => rfl, fun _ => rfl, fun _ => rfl, fun _ => rfl, fun _ => rfl, fun _ => rfl, fun _ => rfl, fun _ => rfl, fun _ => rfl, fun _ => rfl, zc2, zc4, zc6, zc7, zc10, zc12, zc14, zc15, zc16, fun _ => ⟨(hB.mono hb.size).trans (hT.2.2 _ (by omega)), hT.1⟩, fun _ => hall⟩
  · rintro ls ac w' ⟨v7, v8, v9, v10, v11, v12, v13, v14, v15, v16, v17, v18, v19, v20, v21, v22, v23, rfl, hl, hB', zg0, zg1, zg2, zg3, zg4, zg5, zg6, zg7, zg8, zg9, zg10, zg11, zg12, zg13, zg14, zg15, zg16, zc2, zc4, zc6, zc7, zc10, zc12, zc14, zc15, zc16, hS, hK⟩ hr
    have hall := ready_allb (by decide) hl hr
    have hSx := hS (hall 17 (by decide))
    have x0' := hSx.2.1.1
    have x1' := hSx.2.2.1.1
    have x2' := hSx.2.2.2.1
    go_wp2
    exact bodyPost_ret (v := .agg #[.int .i64 y1, .int .i64 y2, .bool y3]) (by simp [results, Try.results70, go_sem, x0', x1', x2']) rfl ⟨rfl, hb.trans hSx.1⟩
end Go.Proofs.Ytnphbdhcoiaklaa
namespace Go.Proofs.Ytnphbdhcoiaklaa
open Go.RowKit

deriving instance DecidableEq for Sp
theorem d_1 : dSync 10 20 0 1000 0 900 = ⟨110, 120, true⟩ := by decide +kernel
theorem d_2 : dReq 10 20 0 900 0 1030 = ⟨110, 120, true⟩ := by decide +kernel
theorem d_3 : dMean 10 20 0 0 10 10 20 0 0 = ⟨10, 10, true⟩ := by decide +kernel
theorem o_1 : spOf 110 120 = ⟨110, 120, true⟩ := by decide +kernel
theorem o_2 : spOf 10 10 = ⟨10, 10, true⟩ := by decide +kernel
theorem p_1 : pRight 10 20 0 = true := by decide +kernel

theorem alive_is (w : World) : Calls Try.prog 69 #[] w fun e w' => e = .returned (.bool true) ∧ Below w.heap.size w w' := by
  have Hd1 := Lib.hid d_1
  have Hd2 := Lib.hid d_2
  have Hd3 := Lib.hid d_3
  have Ho1 := Lib.hid o_1
  have Ho2 := Lib.hid o_2
  have Hp1 := Lib.hid p_1
  go_enter Try.func69, Try.ntmps69
  go_wp2_with fail
  refine (Sync_is _ _ _ _ _ _ _ _ _ (by unfold I64; omega) Hd1 _).mono ?_
  rintro e w1 ⟨rfl, hb1⟩
  have q1_1_0 : CellF w1 ⟨w.heap.size, 0, none⟩ (.int .i64 10) := (by refine CellF.keep hb1 ?_; (first | ((repeat (first | ((with_reducible refine CellF.at_ ?_ ?_); (first | (simp; done) | rfl); rfl) | with_reducible refine CellF.past _ ?_ | with_reducible refine CellF.drew ?_ | with_reducible refine CellF.drewN _ ?_)); done) | (refine ⟨?_, ?_⟩ <;> go_simp)))
  have c1_1_0 := q1_1_0.1
  have q1_1_1 : CellF w1 ⟨w.heap.size, 1, none⟩ (.int .i64 20) := (by refine CellF.keep hb1 ?_; (first | ((repeat (first | ((with_reducible refine CellF.at_ ?_ ?_); (first | (simp; done) | rfl); rfl) | with_reducible refine CellF.past _ ?_ | with_reducible refine CellF.drew ?_ | with_reducible refine CellF.drewN _ ?_)); done) | (refine ⟨?_, ?_⟩ <;> go_simp)))
  have c1_1_1 := q1_1_1.1
  have q1_1_2 : CellF w1 ⟨w.heap.size, 2, none⟩ (.int .i64 0) := (by refine CellF.keep hb1 ?_; (first | ((repeat (first | ((with_reducible refine CellF.at_ ?_ ?_); (first | (simp; done) | rfl); rfl) | with_reducible refine CellF.past _ ?_ | with_reducible refine CellF.drew ?_ | with_reducible refine CellF.drewN _ ?_)); done) | (refine ⟨?_, ?_⟩ <;> go_simp)))
  have c1_1_2 := q1_1_2.1
  have z1_1 : w.heap.size < w1.heap.size := ltc c1_1_0
  go_wp2_with fail
  refine (Of_is _ _ _ _ _ Ho1 _).mono ?_
  rintro e w2 ⟨rfl, hb2⟩
  have q2_2_0 : CellF w2 ⟨w.heap.size, 0, none⟩ (.int .i64 10) := (by first | exact q1_1_0.keep hb2 | exact q1_1_0.drew.keep hb2 | exact (q1_1_0.past _).keep hb2 | exact (q1_1_0.past _).drew.keep hb2)
  have c2_2_0 := q2_2_0.1
  have q2_2_1 : CellF w2 ⟨w.heap.size, 1, none⟩ (.int .i64 20) := (by first | exact q1_1_1.keep hb2 | exact q1_1_1.drew.keep hb2 | exact (q1_1_1.past _).keep hb2 | exact (q1_1_1.past _).drew.keep hb2)
  have c2_2_1 := q2_2_1.1
  have q2_2_2 : CellF w2 ⟨w.heap.size, 2, none⟩ (.int .i64 0) := (by first | exact q1_1_2.keep hb2 | exact q1_1_2.drew.keep hb2 | exact (q1_1_2.past _).keep hb2 | exact (q1_1_2.past _).drew.keep hb2)
  have c2_2_2 := q2_2_2.1
  have z2_2 : w.heap.size < w2.heap.size := ltc c2_2_0
  clear q1_1_0 c1_1_0 q1_1_1 c1_1_1 q1_1_2 c1_1_2 z1_1
  go_wp2_with fail
  refine (Req_is _ _ _ _ _ _ _ _ _ (by unfold I64; omega) Hd2 _).mono ?_
  rintro e w3 ⟨rfl, hb3⟩
  have q3_3_0 : CellF w3 ⟨w.heap.size, 0, none⟩ (.int .i64 10) := (by first | exact q2_2_0.keep hb3 | exact q2_2_0.drew.keep hb3 | exact (q2_2_0.past _).keep hb3 | exact (q2_2_0.past _).drew.keep hb3)
  have c3_3_0 := q3_3_0.1
  have q3_3_1 : CellF w3 ⟨w.heap.size, 1, none⟩ (.int .i64 20) := (by first | exact q2_2_1.keep hb3 | exact q2_2_1.drew.keep hb3 | exact (q2_2_1.past _).keep hb3 | exact (q2_2_1.past _).drew.keep hb3)
  have c3_3_1 := q3_3_1.1
  have q3_3_2 : CellF w3 ⟨w.heap.size, 2, none⟩ (.int .i64 0) := (by first | exact q2_2_2.keep hb3 | exact q2_2_2.drew.keep hb3 | exact (q2_2_2.past _).keep hb3 | exact (q2_2_2.past _).drew.keep hb3)
  have c3_3_2 := q3_3_2.1
  have z3_3 : w.heap.size < w3.heap.size := ltc c3_3_0
  clear q2_2_0 c2_2_0 q2_2_1 c2_2_1 q2_2_2 c2_2_2 z2_2
  go_wp2_with fail
  refine (Of_is _ _ _ _ _ Ho1 _).mono ?_
  rintro e w4 ⟨rfl, hb4⟩
  have q4_4_0 : CellF w4 ⟨w.heap.size, 0, none⟩ (.int .i64 10) := (by first | exact q3_3_0.keep hb4 | exact q3_3_0.drew.keep hb4 | exact (q3_3_0.past _).keep hb4 | exact (q3_3_0.past _).drew.keep hb4)
  have c4_4_0 := q4_4_0.1
  have q4_4_1 : CellF w4 ⟨w.heap.size, 1, none⟩ (.int .i64 20) := (by first | exact q3_3_1.keep hb4 | exact q3_3_1.drew.keep hb4 | exact (q3_3_1.past _).keep hb4 | exact (q3_3_1.past _).drew.keep hb4)
  have c4_4_1 := q4_4_1.1
  have q4_4_2 : CellF w4 ⟨w.heap.size, 2, none⟩ (.int .i64 0) := (by first | exact q3_3_2.keep hb4 | exact q3_3_2.drew.keep hb4 | exact (q3_3_2.past _).keep hb4 | exact (q3_3_2.past _).drew.keep hb4)
  have c4_4_2 := q4_4_2.1
  have z4_4 : w.heap.size < w4.heap.size := ltc c4_4_0
  clear q3_3_0 c3_3_0 q3_3_1 c3_3_1 q3_3_2 c3_3_2 z3_3
  go_wp2_with fail
  refine (Mean_is _ _ _ _ _ _ _ _ _ _ _ _ (by unfold I64; omega) (by unfold I64; omega) Hd3 _).mono ?_
  rintro e w5 ⟨rfl, hb5⟩
  have q5_5_0 : CellF w5 ⟨w.heap.size, 0, none⟩ (.int .i64 10) := (by first | exact q4_4_0.keep hb5 | exact q4_4_0.drew.keep hb5 | exact (q4_4_0.past _).keep hb5 | exact (q4_4_0.past _).drew.keep hb5)
  have c5_5_0 := q5_5_0.1
  have q5_5_1 : CellF w5 ⟨w.heap.size, 1, none⟩ (.int .i64 20) := (by first | exact q4_4_1.keep hb5 | exact q4_4_1.drew.keep hb5 | exact (q4_4_1.past _).keep hb5 | exact (q4_4_1.past _).drew.keep hb5)
  have c5_5_1 := q5_5_1.1
  have q5_5_2 : CellF w5 ⟨w.heap.size, 2, none⟩ (.int .i64 0) := (by first | exact q4_4_2.keep hb5 | exact q4_4_2.drew.keep hb5 | exact (q4_4_2.past _).keep hb5 | exact (q4_4_2.past _).drew.keep hb5)
  have c5_5_2 := q5_5_2.1
  have z5_5 : w.heap.size < w5.heap.size := ltc c5_5_0
  clear q4_4_0 c4_4_0 q4_4_1 c4_4_1 q4_4_2 c4_4_2 z4_4
  go_wp2_with fail
  refine (Of_is _ _ _ _ _ Ho2 _).mono ?_
  rintro e w6 ⟨rfl, hb6⟩
  have q6_6_0 : CellF w6 ⟨w.heap.size, 0, none⟩ (.int .i64 10) := (by first | exact q5_5_0.keep hb6 | exact q5_5_0.drew.keep hb6 | exact (q5_5_0.past _).keep hb6 | exact (q5_5_0.past _).drew.keep hb6)
  have c6_6_0 := q6_6_0.1
  have q6_6_1 : CellF w6 ⟨w.heap.size, 1, none⟩ (.int .i64 20) := (by first | exact q5_5_1.keep hb6 | exact q5_5_1.drew.keep hb6 | exact (q5_5_1.past _).keep hb6 | exact (q5_5_1.past _).drew.keep hb6)
  have c6_6_1 := q6_6_1.1
  have q6_6_2 : CellF w6 ⟨w.heap.size, 2, none⟩ (.int .i64 0) := (by first | exact q5_5_2.keep hb6 | exact q5_5_2.drew.keep hb6 | exact (q5_5_2.past _).keep hb6 | exact (q5_5_2.past _).drew.keep hb6)
  have c6_6_2 := q6_6_2.1
  have z6_6 : w.heap.size < w6.heap.size := ltc c6_6_0
  clear q5_5_0 c5_5_0 q5_5_1 c5_5_1 q5_5_2 c5_5_2 z5_5
  go_wp2_with fail
  refine (PRight_is _ _ _ _ Hp1 _).mono ?_
  rintro e w7 ⟨rfl, hb7⟩
  have q7_7_0 : CellF w7 ⟨w.heap.size, 0, none⟩ (.int .i64 10) := (by first | exact q6_6_0.keep hb7 | exact q6_6_0.drew.keep hb7 | exact (q6_6_0.past _).keep hb7 | exact (q6_6_0.past _).drew.keep hb7)
  have c7_7_0 := q7_7_0.1
  have q7_7_1 : CellF w7 ⟨w.heap.size, 1, none⟩ (.int .i64 20) := (by first | exact q6_6_1.keep hb7 | exact q6_6_1.drew.keep hb7 | exact (q6_6_1.past _).keep hb7 | exact (q6_6_1.past _).drew.keep hb7)
  have c7_7_1 := q7_7_1.1
  have q7_7_2 : CellF w7 ⟨w.heap.size, 2, none⟩ (.int .i64 0) := (by first | exact q6_6_2.keep hb7 | exact q6_6_2.drew.keep hb7 | exact (q6_6_2.past _).keep hb7 | exact (q6_6_2.past _).drew.keep hb7)
  have c7_7_2 := q7_7_2.1
  have z7_7 : w.heap.size < w7.heap.size := ltc c7_7_0
  clear q6_6_0 c6_6_0 q6_6_1 c6_6_1 q6_6_2 c6_6_2 z6_6
  all_goals (go_wp2; go_ret; exact ⟨rfl, (by repeat (first | exact brefl _ | refine balloc ?_ _ | refine bdrewN ?_ _ | refine bset ?_ (by dsimp only; omega) _ | refine bstep ?_ (by assumption)))⟩)
end Go.Proofs.Ytnphbdhcoiaklaa
