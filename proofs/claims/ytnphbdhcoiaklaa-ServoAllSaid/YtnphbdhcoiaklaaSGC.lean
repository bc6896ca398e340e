/-
  The walks of package servo's New, Reset, Count, Last, Master's parts.
  The walks of package servo's Read and Master.
  The walk of package servo's Observe.
-/
import Derived.Test.YtnphbdhcoiaklaaSGB
import Derived.BigRegion
import Derived.BigQuiet
import Derived.Deep.QuietTactic
import Derived.Deep.RegionHeld3
import Derived.Deep.Cut
import Derived.Deep.CutRange
import Derived.Deep.DeepCutAuto
namespace Go.Proofs.Ytnphbdhcoiaklaa
open Go.RowKit

theorem CellF.lt {a : World} {p : Addr} {v : Value} (h : CellF a p v) : p.block < a.heap.size := ltc h.1
/-- Only block b is written, all else that was there stays; more may be made. -/
def Only (b : Nat) (w w' : World) : Prop := Below b w w' ∧ ∀ p v, p.block ≠ b → CellF w p v → CellF w' p v
theorem Only.of {b : Nat} {w w' : World} (hb : Below w.heap.size w w') (hlt : b ≤ w.heap.size) : Only b w w' := ⟨hb.mono hlt, fun _ _ _ h => h.keep hb⟩
theorem Only.trans {b : Nat} {w u w' : World} (h : Only b w u) (k : Only b u w') : Only b w w' := ⟨h.1.trans k.1, fun p v hp hv => k.2 p v hp (h.2 p v hp hv)⟩

/-- A servo in a block: what is known of the offset, since when, how many agreed, and the drift. -/
def SrvAt (w : World) (b : Nat) (lo hi : Int) (k : Bool) (a m p : Int) : Prop := CellF w ⟨b, 0, none⟩ (.int .i64 lo) ∧ CellF w ⟨b, 1, none⟩ (.int .i64 hi) ∧ CellF w ⟨b, 2, none⟩ (.bool k) ∧ CellF w ⟨b, 3, none⟩ (.int .i64 a) ∧ CellF w ⟨b, 4, none⟩ (.int .i64 m) ∧ CellF w ⟨b, 5, none⟩ (.int .i64 p)
theorem SrvAt.keep {u v : World} {b : Nat} {lo hi : Int} {k : Bool} {a m p : Int} (hb : Below u.heap.size u v) (h : SrvAt u b lo hi k a m p) : SrvAt v b lo hi k a m p := ⟨h.1.keep hb, h.2.1.keep hb, h.2.2.1.keep hb, h.2.2.2.1.keep hb, h.2.2.2.2.1.keep hb, h.2.2.2.2.2.keep hb⟩
theorem SrvAt.lt {u : World} {b : Nat} {lo hi : Int} {k : Bool} {a m p : Int} (h : SrvAt u b lo hi k a m p) : b < u.heap.size := ltc h.1.1
theorem SrvAt.only {u v : World} {b c : Nat} {lo hi : Int} {k : Bool} {a m p : Int} (hb : Only c u v) (hn : b ≠ c) (h : SrvAt u b lo hi k a m p) : SrvAt v b lo hi k a m p := ⟨hb.2 _ _ hn h.1, hb.2 _ _ hn h.2.1, hb.2 _ _ hn h.2.2.1, hb.2 _ _ hn h.2.2.2.1, hb.2 _ _ hn h.2.2.2.2.1, hb.2 _ _ hn h.2.2.2.2.2⟩

/-- What is known, written anew. -/
theorem known_sets {u : World} {b : Nat} {lo hi : Int} {k : Bool} {a m p : Int} (lo' hi' : Int) (k' : Bool) (a' m' : Int) (h : SrvAt u b lo hi k a m p) :
    SrvAt (((((u.setCell ⟨b, 0, none⟩ (.int .i64 lo')).setCell ⟨b, 1, none⟩ (.int .i64 hi')).setCell ⟨b, 2, none⟩ (.bool k')).setCell ⟨b, 3, none⟩ (.int .i64 a')).setCell ⟨b, 4, none⟩ (.int .i64 m')) b lo' hi' k' a' m' p ∧
    Only b u (((((u.setCell ⟨b, 0, none⟩ (.int .i64 lo')).setCell ⟨b, 1, none⟩ (.int .i64 hi')).setCell ⟨b, 2, none⟩ (.bool k')).setCell ⟨b, 3, none⟩ (.int .i64 a')).setCell ⟨b, 4, none⟩ (.int .i64 m')) := by
  obtain ⟨h0, h1, h2, h3, h4, h5⟩ := h
  have n4 : ∀ i j : Nat, i ≠ j → (⟨b, i, none⟩ : Addr) ≠ ⟨b, j, none⟩ := fun _ _ hij h => hij (by injection h)
  refine ⟨⟨?_, ?_, ?_, ?_, ?_, ?_⟩, ?_, fun q v hq hh => ?_⟩
  · exact ((((h0.set_same' _).set_other' _ (n4 1 0 (by decide))).set_other' _ (n4 2 0 (by decide))).set_other' _ (n4 3 0 (by decide))).set_other' _ (n4 4 0 (by decide))
  · exact ((((h1.set_other' _ (n4 0 1 (by decide))).set_same' _).set_other' _ (n4 2 1 (by decide))).set_other' _ (n4 3 1 (by decide))).set_other' _ (n4 4 1 (by decide))
  · exact ((((h2.set_other' _ (n4 0 2 (by decide))).set_other' _ (n4 1 2 (by decide))).set_same' _).set_other' _ (n4 3 2 (by decide))).set_other' _ (n4 4 2 (by decide))
  · exact ((((h3.set_other' _ (n4 0 3 (by decide))).set_other' _ (n4 1 3 (by decide))).set_other' _ (n4 2 3 (by decide))).set_same' _).set_other' _ (n4 4 3 (by decide))
  · exact ((((h4.set_other' _ (n4 0 4 (by decide))).set_other' _ (n4 1 4 (by decide))).set_other' _ (n4 2 4 (by decide))).set_other' _ (n4 3 4 (by decide))).set_same' _
  · exact ((((h5.set_other' _ (n4 0 5 (by decide))).set_other' _ (n4 1 5 (by decide))).set_other' _ (n4 2 5 (by decide))).set_other' _ (n4 3 5 (by decide))).set_other' _ (n4 4 5 (by decide))
  · exact (((((Below.refl b u).setCell (Nat.le_refl _) _).setCell (Nat.le_refl _) _).setCell (Nat.le_refl _) _).setCell (Nat.le_refl _) _).setCell (Nat.le_refl _) _
  · have n1 : ∀ i, (⟨b, i, none⟩ : Addr) ≠ q := fun i e => hq (by rw [← e])
    exact ((((hh.set_other' _ (n1 0)).set_other' _ (n1 1)).set_other' _ (n1 2)).set_other' _ (n1 3)).set_other' _ (n1 4)

theorem SNew_no (p : Int) (hp : I64 p) (h : p < 0 ∨ 1000000000 < p) (w : World) :
    Calls Try.prog 76 #[.int .i64 p] w fun e w' => e = .returned (.tuple #[.pointer none, .int .i64 1]) ∧ Below w.heap.size w w' := by
  unfold I64 at hp
  by_cases h1 : p < 0
  · clear h
    go_enter Try.func76, Try.ntmps76
    go_wp2
    go_ret2
    exact ⟨rfl, (by repeat (first | exact brefl _ | refine balloc ?_ _ | refine bdrewN ?_ _ | refine bset ?_ (by dsimp only; omega) _ | refine bstep ?_ (by assumption)))⟩
  have h4 : 1000000000 < p := by omega
  clear h
  go_enter Try.func76, Try.ntmps76
  go_wp2
  go_ret2
  exact ⟨rfl, (by repeat (first | exact brefl _ | refine balloc ?_ _ | refine bdrewN ?_ _ | refine bset ?_ (by dsimp only; omega) _ | refine bstep ?_ (by assumption)))⟩

theorem SNew_yes (p : Int) (h1 : 0 ≤ p) (h2 : p ≤ 1000000000) (w : World) :
    Calls Try.prog 76 #[.int .i64 p] w fun e w' => ∃ b, e = .returned (.tuple #[.pointer (some ⟨b, 0, none⟩), .int .i64 0]) ∧ Below w.heap.size w w' ∧ w.heap.size ≤ b ∧ SrvAt w' b 0 0 false 0 0 p := by
  go_enter Try.func76, Try.ntmps76
  go_wp2
  go_ret2
  exact ⟨_, rfl, (by repeat (first | exact brefl _ | refine balloc ?_ _ | refine bdrewN ?_ _ | refine bset ?_ (by dsimp only; omega) _ | refine bstep ?_ (by assumption))), Nat.le_refl _, by exact ⟨CellF.at_ rfl rfl, CellF.at_ rfl rfl, CellF.at_ rfl rfl, CellF.at_ rfl rfl, CellF.at_ rfl rfl, CellF.at_ rfl rfl⟩⟩

theorem Count_is (b : Nat) (lo hi : Int) (k : Bool) (a m p : Int) (w : World) (h : SrvAt w b lo hi k a m p) :
    Calls Try.prog 80 #[.pointer (some ⟨b, 0, none⟩)] w fun e w' => e = .returned (.int .i64 m) ∧ Below w.heap.size w w' := by
  have c0 := h.2.2.2.2.1.1
  clear h
  go_enter Try.func80, Try.ntmps80
  go_wp2
  go_ret
  exact ⟨rfl, (by repeat (first | exact brefl _ | refine balloc ?_ _ | refine bdrewN ?_ _ | refine bset ?_ (by dsimp only; omega) _ | refine bstep ?_ (by assumption)))⟩

theorem Last_is (b : Nat) (lo hi : Int) (k : Bool) (a m p : Int) (w : World) (h : SrvAt w b lo hi k a m p) :
    Calls Try.prog 83 #[.pointer (some ⟨b, 0, none⟩)] w fun e w' => e = .returned (.tuple #[.int .i64 a, .bool k]) ∧ Below w.heap.size w w' := by
  have c2 := h.2.2.1.1
  have c3 := h.2.2.2.1.1
  clear h
  go_enter Try.func83, Try.ntmps83
  go_wp2_with fail
  go_quiet (fail)
  go_wp2
  go_ret2
  exact ⟨rfl, (by repeat (first | exact brefl _ | refine balloc ?_ _ | refine bdrewN ?_ _ | refine bset ?_ (by dsimp only; omega) _ | refine bstep ?_ (by assumption)))⟩

theorem Reset_is (b : Nat) (lo hi : Int) (k : Bool) (a m p : Int) (w : World) (h : SrvAt w b lo hi k a m p) :
    Calls Try.prog 107 #[.pointer (some ⟨b, 0, none⟩)] w fun e w' => e = .returned (.tuple #[]) ∧ Only b w w' ∧ SrvAt w' b 0 0 false 0 0 p := by
  have hk := known_sets 0 0 false 0 0 h
  have HK := Lib.hid hk
  have c0 := h.1.1
  have c1 := h.2.1.1
  have c2 := h.2.2.1.1
  have c3 := h.2.2.2.1.1
  have c4 := h.2.2.2.2.1.1
  have f0 := h.1.2
  have f1 := h.2.1.2
  have f2 := h.2.2.1.2
  have f3 := h.2.2.2.1.2
  have f4 := h.2.2.2.2.1.2
  clear h hk
  go_enter Try.func107, Try.ntmps107
  go_wp2
  go_end0
  exact ⟨rfl, HK.out.2, HK.out.1⟩
end Go.Proofs.Ytnphbdhcoiaklaa
namespace Go.Proofs.Ytnphbdhcoiaklaa
open Go.RowKit

/-- What is known at a time, of a span that was told at a. -/
def sRead (s : Sp) (a p t : Int) : Sp := if (subP t a).2 = false ∨ s.kn = false then spNo else spDrift s (subP t a).1 p
def sMaster (s : Sp) (a p t : Int) : Sp := spShift (sRead s a p t) t

theorem Read_is (b : Nat) (lo hi : Int) (k : Bool) (a m p t x y : Int) (z : Bool) (H : Hid (sRead ⟨lo, hi, k⟩ a p t = ⟨x, y, z⟩)) (w : World) (h : SrvAt w b lo hi k a m p) :
    Calls Try.prog 81 #[.pointer (some ⟨b, 0, none⟩), .int .i64 t] w fun e w' => e = .returned (.agg #[.int .i64 x, .int .i64 y, .bool z]) ∧ Below w.heap.size w w' := by
  obtain ⟨q, i, hq⟩ : ∃ q i, subP t a = (q, i) := ⟨_, _, rfl⟩
  have hx := H.out
  unfold sRead at hx
  rw [hq] at hx
  have HQ := Lib.hid hq
  have q0 := h.1
  have q1 := h.2.1
  have q2 := h.2.2.1
  have q3 := h.2.2.2.1
  have q5 := h.2.2.2.2.2
  have c0 := q0.1
  have c1 := q1.1
  have c2 := q2.1
  have c3 := q3.1
  have c5 := q5.1
  have hlt := h.lt
  clear H h hq
  cases i with
  | false =>
    rw [if_pos (.inl rfl)] at hx
    cases hx
    go_enter Try.func81, Try.ntmps81
    go_wp2_with fail
    refine (Sub_is _ _ _ _ HQ _).mono ?_
    rintro e w1 ⟨rfl, hb1⟩
    have q1_1_0 : CellF w1 ⟨w.heap.size, 0, none⟩ (.int .i64 0) := (by refine CellF.keep hb1 ?_; refine ⟨?_, ?_⟩ <;> go_simp)
    have c1_1_0 := q1_1_0.1
    have g1_1_0 := q1_1_0.2
    have q1_1_1 : CellF w1 ⟨w.heap.size, 1, none⟩ (.int .i64 0) := (by refine CellF.keep hb1 ?_; refine ⟨?_, ?_⟩ <;> go_simp)
    have c1_1_1 := q1_1_1.1
    have g1_1_1 := q1_1_1.2
    have q1_1_2 : CellF w1 ⟨w.heap.size, 2, none⟩ (.bool false) := (by refine CellF.keep hb1 ?_; refine ⟨?_, ?_⟩ <;> go_simp)
    have c1_1_2 := q1_1_2.1
    have g1_1_2 := q1_1_2.2
    have z1_1 : w.heap.size < w1.heap.size := ltc c1_1_0
    go_wp2_with fail
    refine (Unknown_is _).mono ?_
    rintro e w2 ⟨rfl, hb2⟩
    have q2_2_0 : CellF w2 ⟨w.heap.size, 0, none⟩ (.int .i64 0) := (by first | exact CellF.keep hb2 q1_1_0 | exact CellF.keep hb2 (CellF.past _ q1_1_0) | exact CellF.keep hb2 (CellF.past _ (CellF.past _ q1_1_0)) | exact CellF.keep hb2 (CellF.drewN _ q1_1_0))
    have c2_2_0 := q2_2_0.1
    have g2_2_0 := q2_2_0.2
    have q2_2_1 : CellF w2 ⟨w.heap.size, 1, none⟩ (.int .i64 0) := (by first | exact CellF.keep hb2 q1_1_1 | exact CellF.keep hb2 (CellF.past _ q1_1_1) | exact CellF.keep hb2 (CellF.past _ (CellF.past _ q1_1_1)) | exact CellF.keep hb2 (CellF.drewN _ q1_1_1))
    have c2_2_1 := q2_2_1.1
    have g2_2_1 := q2_2_1.2
    have q2_2_2 : CellF w2 ⟨w.heap.size, 2, none⟩ (.bool false) := (by first | exact CellF.keep hb2 q1_1_2 | exact CellF.keep hb2 (CellF.past _ q1_1_2) | exact CellF.keep hb2 (CellF.past _ (CellF.past _ q1_1_2)) | exact CellF.keep hb2 (CellF.drewN _ q1_1_2))
    have c2_2_2 := q2_2_2.1
    have g2_2_2 := q2_2_2.2
    have z2_2 : w.heap.size < w2.heap.size := ltc c2_2_0
    go_wp2
    exact bodyPost_ret (v := .agg #[.int .i64 0, .int .i64 0, .bool false]) (by simp [results, Try.results81, go_sem, c2_2_0, c2_2_1, c2_2_2]) rfl ⟨rfl, (by repeat (first | exact brefl _ | refine balloc ?_ _ | refine bdrewN ?_ _ | refine bset ?_ (by dsimp only; omega) _ | refine bstep ?_ (by assumption)))⟩
  | true =>
    cases k with
    | false =>
      rw [if_pos (.inr rfl)] at hx
      cases hx
      go_enter Try.func81, Try.ntmps81
      go_wp2_with fail
      refine (Sub_is _ _ _ _ HQ _).mono ?_
      rintro e w1 ⟨rfl, hb1⟩
      have q1_1_0 : CellF w1 ⟨w.heap.size, 0, none⟩ (.int .i64 0) := (by refine CellF.keep hb1 ?_; refine ⟨?_, ?_⟩ <;> go_simp)
      have c1_1_0 := q1_1_0.1
      have g1_1_0 := q1_1_0.2
      have q1_1_1 : CellF w1 ⟨w.heap.size, 1, none⟩ (.int .i64 0) := (by refine CellF.keep hb1 ?_; refine ⟨?_, ?_⟩ <;> go_simp)
      have c1_1_1 := q1_1_1.1
      have g1_1_1 := q1_1_1.2
      have q1_1_2 : CellF w1 ⟨w.heap.size, 2, none⟩ (.bool false) := (by refine CellF.keep hb1 ?_; refine ⟨?_, ?_⟩ <;> go_simp)
      have c1_1_2 := q1_1_2.1
      have g1_1_2 := q1_1_2.2
      have z1_1 : w.heap.size < w1.heap.size := ltc c1_1_0
      have c2' : w1.cell? ⟨b, 2, none⟩ = some (.bool false) := (CellF.keep hb1 (CellF.past _ q2)).1
      go_wp2_with fail
      refine (Unknown_is _).mono ?_
      rintro e w2 ⟨rfl, hb2⟩
      have q2_2_0 : CellF w2 ⟨w.heap.size, 0, none⟩ (.int .i64 0) := (by first | exact CellF.keep hb2 q1_1_0 | exact CellF.keep hb2 (CellF.past _ q1_1_0) | exact CellF.keep hb2 (CellF.past _ (CellF.past _ q1_1_0)) | exact CellF.keep hb2 (CellF.drewN _ q1_1_0))
      have c2_2_0 := q2_2_0.1
      have g2_2_0 := q2_2_0.2
      have q2_2_1 : CellF w2 ⟨w.heap.size, 1, none⟩ (.int .i64 0) := (by first | exact CellF.keep hb2 q1_1_1 | exact CellF.keep hb2 (CellF.past _ q1_1_1) | exact CellF.keep hb2 (CellF.past _ (CellF.past _ q1_1_1)) | exact CellF.keep hb2 (CellF.drewN _ q1_1_1))
      have c2_2_1 := q2_2_1.1
      have g2_2_1 := q2_2_1.2
      have q2_2_2 : CellF w2 ⟨w.heap.size, 2, none⟩ (.bool false) := (by first | exact CellF.keep hb2 q1_1_2 | exact CellF.keep hb2 (CellF.past _ q1_1_2) | exact CellF.keep hb2 (CellF.past _ (CellF.past _ q1_1_2)) | exact CellF.keep hb2 (CellF.drewN _ q1_1_2))
      have c2_2_2 := q2_2_2.1
      have g2_2_2 := q2_2_2.2
      have z2_2 : w.heap.size < w2.heap.size := ltc c2_2_0
      go_wp2
      exact bodyPost_ret (v := .agg #[.int .i64 0, .int .i64 0, .bool false]) (by simp [results, Try.results81, go_sem, c2_2_0, c2_2_1, c2_2_2]) rfl ⟨rfl, (by repeat (first | exact brefl _ | refine balloc ?_ _ | refine bdrewN ?_ _ | refine bset ?_ (by dsimp only; omega) _ | refine bstep ?_ (by assumption)))⟩
    | true =>
      rw [if_neg (by rintro (h | h) <;> cases h)] at hx
      have HD : Hid (spDrift ⟨lo, hi, true⟩ q p = ⟨x, y, z⟩) := Lib.hid hx
      clear hx
      go_enter Try.func81, Try.ntmps81
      go_wp2_with fail
      refine (Sub_is _ _ _ _ HQ _).mono ?_
      rintro e w1 ⟨rfl, hb1⟩
      have q1_1_0 : CellF w1 ⟨w.heap.size, 0, none⟩ (.int .i64 0) := (by refine CellF.keep hb1 ?_; refine ⟨?_, ?_⟩ <;> go_simp)
      have c1_1_0 := q1_1_0.1
      have g1_1_0 := q1_1_0.2
      have q1_1_1 : CellF w1 ⟨w.heap.size, 1, none⟩ (.int .i64 0) := (by refine CellF.keep hb1 ?_; refine ⟨?_, ?_⟩ <;> go_simp)
      have c1_1_1 := q1_1_1.1
      have g1_1_1 := q1_1_1.2
      have q1_1_2 : CellF w1 ⟨w.heap.size, 2, none⟩ (.bool false) := (by refine CellF.keep hb1 ?_; refine ⟨?_, ?_⟩ <;> go_simp)
      have c1_1_2 := q1_1_2.1
      have g1_1_2 := q1_1_2.2
      have z1_1 : w.heap.size < w1.heap.size := ltc c1_1_0
      have d0 : CellF w1 ⟨b, 0, none⟩ (.int .i64 lo) := CellF.keep hb1 (CellF.past _ q0)
      have d1 : CellF w1 ⟨b, 1, none⟩ (.int .i64 hi) := CellF.keep hb1 (CellF.past _ q1)
      have d2 : CellF w1 ⟨b, 2, none⟩ (.bool true) := CellF.keep hb1 (CellF.past _ q2)
      have d5 : CellF w1 ⟨b, 5, none⟩ (.int .i64 p) := CellF.keep hb1 (CellF.past _ q5)
      have e0 := d0.1
      have e1 := d1.1
      have e2 := d2.1
      have e5 := d5.1
      have hb5 := ltc e0
      have hne : ¬ b = w.heap.size := Nat.ne_of_lt hlt
      have hne2 : ¬ w.heap.size = b := fun e => hne e.symm
      go_wp2_with fail
      go_region_held3 (fun w' => w'.cell? ⟨b, 0, none⟩ = some (.int .i64 lo) ∧ w'.cell? ⟨b, 1, none⟩ = some (.int .i64 hi) ∧ w'.cell? ⟨b, 2, none⟩ = some (.bool true) ∧ w'.cell? ⟨b, 5, none⟩ = some (.int .i64 p))
        (go_keep)
        (first | (go_at_call 60; ((with_reducible refine (Drift_is _ _ _ _ _ _ _ _ HD _).mono ?_)); rintro e w2 ⟨rfl, hb2⟩; have r0 := CellF.keep hb2 (CellF.drew d0); have r1 := CellF.keep hb2 (CellF.drew d1); have r2 := CellF.keep hb2 (CellF.drew d2); have r5 := CellF.keep hb2 (CellF.drew d5); have s0 := r0.1; have s1 := r1.1; have s2 := r2.1; have s5 := r5.1; have u0 : CellF w2 ⟨w.heap.size, 0, none⟩ (.int .i64 0) := CellF.keep hb2 (CellF.drew q1_1_0); have u1 : CellF w2 ⟨w.heap.size, 1, none⟩ (.int .i64 0) := CellF.keep hb2 (CellF.drew q1_1_1); have u2 : CellF w2 ⟨w.heap.size, 2, none⟩ (.bool false) := CellF.keep hb2 (CellF.drew q1_1_2); have v0 := u0.1; have v1 := u1.1; have v2 := u2.1; have t0 := u0.2; have t1 := u1.2; have t2 := u2.2))
      all_goals (go_wp2; exact bodyPost_ret (v := .agg #[.int .i64 x, .int .i64 y, .bool z]) (by simp [results, Try.results81, go_sem, v0, v1, v2]) rfl ⟨rfl, (by repeat (first | exact brefl _ | refine balloc ?_ _ | refine bdrewN ?_ _ | refine bset ?_ (by dsimp only; omega) _ | refine bstep ?_ (by assumption)))⟩)

theorem Master_is (b : Nat) (lo hi : Int) (k : Bool) (a m p t x y : Int) (z : Bool) (H : Hid (sMaster ⟨lo, hi, k⟩ a p t = ⟨x, y, z⟩)) (w : World) (h : SrvAt w b lo hi k a m p) :
    Calls Try.prog 84 #[.pointer (some ⟨b, 0, none⟩), .int .i64 t] w fun e w' => e = .returned (.agg #[.int .i64 x, .int .i64 y, .bool z]) ∧ Below w.heap.size w w' := by
  obtain ⟨⟨r1, r2, r3⟩, hr⟩ : ∃ s, sRead ⟨lo, hi, k⟩ a p t = s := ⟨_, rfl⟩
  have HR := Lib.hid hr
  have HX : Hid (spShift ⟨r1, r2, r3⟩ t = ⟨x, y, z⟩) := by
    have := H.out
    unfold sMaster at this
    rw [hr] at this
    exact Lib.hid this
  have hlt := h.lt
  have HS := Lib.hid h
  clear h hr H
  go_enter Try.func84, Try.ntmps84
  go_wp2_with fail
  refine (Read_is _ _ _ _ _ _ _ _ _ _ _ HR _ (SrvAt.keep (balloc (brefl _) _) HS.out)).mono ?_
  rintro e w1 ⟨rfl, hb1⟩
  have q1_1_0 : CellF w1 ⟨w.heap.size, 0, none⟩ (.int .i64 0) := (by refine CellF.keep hb1 ?_; refine ⟨?_, ?_⟩ <;> go_simp)
  have c1_1_0 := q1_1_0.1
  have g1_1_0 := q1_1_0.2
  have q1_1_1 : CellF w1 ⟨w.heap.size, 1, none⟩ (.int .i64 0) := (by refine CellF.keep hb1 ?_; refine ⟨?_, ?_⟩ <;> go_simp)
  have c1_1_1 := q1_1_1.1
  have g1_1_1 := q1_1_1.2
  have q1_1_2 : CellF w1 ⟨w.heap.size, 2, none⟩ (.bool false) := (by refine CellF.keep hb1 ?_; refine ⟨?_, ?_⟩ <;> go_simp)
  have c1_1_2 := q1_1_2.1
  have g1_1_2 := q1_1_2.2
  have z1_1 : w.heap.size < w1.heap.size := ltc c1_1_0
  go_wp2_with fail
  refine (Shift_is _ _ _ _ _ _ _ HX _).mono ?_
  rintro e w2 ⟨rfl, hb2⟩
  have q2_2_0 : CellF w2 ⟨w.heap.size, 0, none⟩ (.int .i64 0) := (by first | exact CellF.keep hb2 q1_1_0 | exact CellF.keep hb2 (CellF.past _ q1_1_0) | exact CellF.keep hb2 (CellF.past _ (CellF.past _ q1_1_0)) | exact CellF.keep hb2 (CellF.drewN _ q1_1_0))
  have c2_2_0 := q2_2_0.1
  have g2_2_0 := q2_2_0.2
  have q2_2_1 : CellF w2 ⟨w.heap.size, 1, none⟩ (.int .i64 0) := (by first | exact CellF.keep hb2 q1_1_1 | exact CellF.keep hb2 (CellF.past _ q1_1_1) | exact CellF.keep hb2 (CellF.past _ (CellF.past _ q1_1_1)) | exact CellF.keep hb2 (CellF.drewN _ q1_1_1))
  have c2_2_1 := q2_2_1.1
  have g2_2_1 := q2_2_1.2
  have q2_2_2 : CellF w2 ⟨w.heap.size, 2, none⟩ (.bool false) := (by first | exact CellF.keep hb2 q1_1_2 | exact CellF.keep hb2 (CellF.past _ q1_1_2) | exact CellF.keep hb2 (CellF.past _ (CellF.past _ q1_1_2)) | exact CellF.keep hb2 (CellF.drewN _ q1_1_2))
  have c2_2_2 := q2_2_2.1
  have g2_2_2 := q2_2_2.2
  have z2_2 : w.heap.size < w2.heap.size := ltc c2_2_0
  go_wp2
  exact bodyPost_ret (v := .agg #[.int .i64 x, .int .i64 y, .bool z]) (by simp [results, Try.results84, go_sem, c2_2_0, c2_2_1, c2_2_2]) rfl ⟨rfl, (by repeat (first | exact brefl _ | refine balloc ?_ _ | refine bdrewN ?_ _ | refine bset ?_ (by dsimp only; omega) _ | refine bstep ?_ (by assumption)))⟩
end Go.Proofs.Ytnphbdhcoiaklaa
namespace Go.Proofs.Ytnphbdhcoiaklaa
open Go.RowKit

/-- May an observation be? -/
def sMay (s : Sp) (a : Int) (o : Sp) (t : Int) : Bool := ((o.kn && spRight o) && smallB t) && (!s.kn || decide (a ≤ t))
/-- Behind an observation: what is known, since when, how many agreed, and the answer. -/
def sObs (s : Sp) (a m p : Int) (o : Sp) (t : Int) : Sp × Int × Int × Bool :=
  if sMay s a o t = true then
    (if (sRead s a p t).kn = false ∨ (spMeet (sRead s a p t) o).kn = false then (o, t, 1, !s.kn) else (spMeet (sRead s a p t) o, t, m + 1, true))
  else (s, a, m, false)

theorem gs {ls : Array Bool} (i j : Nat) (h : i ≠ j := by decide) : (ls.setIfInBounds i true).getD j false = ls.getD j false := getD_set ls h
/-- A slice of one number, in a block of its own. -/
def IsOne (w : World) (v : Value) (t : Int) : Prop := ∃ bb, v = .slice (some ⟨bb, 0, none⟩) 1 1 ∧ CellF w ⟨bb, 0, none⟩ (.int .i64 t)
theorem IsOne.keep {a b : World} {v : Value} {t : Int} (hb : Below a.heap.size a b) (h : IsOne a v t) : IsOne b v t := by
  obtain ⟨bb, e, h1⟩ := h
  exact ⟨bb, e, h1.keep hb⟩
theorem small1b (x : Int) (p : Bool) (hp : smallB x = p) (b : Nat) (w : World) (h0 : w.cell? ⟨b, 0, none⟩ = some (.int .i64 x)) :
    Calls Try.prog 18 #[.slice (some ⟨b, 0, none⟩) 1 1] w fun e w' => e = .returned (.bool p) ∧ Below w.heap.size w w' :=
  (small1 x p hp b w h0).mono fun _ _ h => ⟨h.1, h.2 ▸ Below.refl _ _⟩

end Go.Proofs.Ytnphbdhcoiaklaa
