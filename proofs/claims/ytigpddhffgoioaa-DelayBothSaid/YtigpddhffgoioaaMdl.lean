/-
  Plain delays: what a message tells.
-/
import Derived.Test.YtigpddhffgoioaaMsl
import Derived.Test.YtigpddhffgoioaaTm
import Derived.Test.YtigpddhffgoioaaMa
namespace Go.Proofs.Ytigpddhffgoioaa
open Go.RowKit

def pRight (mn mx g : Int) : Bool := (((decide (0 ≤ mn) && decide (mn ≤ mx)) && decide (mx ≤ 10000000000)) && decide (0 ≤ g)) && decide (g ≤ 1000000000)
def dCorr (c : Int) : Sp := spOf (stDown c) (stUp c)
def dWider (mn mx g t : Int) (s : Sp) : Sp := if pRight mn mx g = true then spWider s (t * g) (t * g) else spNo
def dSync (mn mx g t1 c t2 : Int) : Sp := spSub (spShift (dWider mn mx g 2 (spAdd (dCorr c) (spOf mn mx))) t1) (spOf t2 t2)
def dReq (mn mx g t3 c t4 : Int) : Sp := spSub (dWider mn mx g 2 (spSub (spSub (spOf t4 t4) (dCorr c)) (spOf mn mx))) (spOf t3 t3)
def dBoth (mn mx g x0 x1 x2 x3 c0 c1 : Int) : Sp := spMeet (dSync mn mx g x0 c0 x1) (dReq mn mx g x2 c1 x3)
def dTwo (mn mx g x0 x1 x2 x3 c0 c1 : Int) : Sp := dWider mn mx g 4 (spAdd (spSub (spSub (spOf x1 x1) (spOf x0 x0)) (dCorr c0)) (spSub (spSub (spOf x3 x3) (spOf x2 x2)) (dCorr c1)))
def dMean (mn mx g x0 x1 x2 x3 c0 c1 : Int) : Sp :=
  if (dTwo mn mx g x0 x1 x2 x3 c0 c1).kn = true then spOf (floorP (dTwo mn mx g x0 x1 x2 x3 c0 c1).lo 1 2).1 (ceilP (dTwo mn mx g x0 x1 x2 x3 c0 c1).hi 1 2).1 else spNo

theorem pRight_iff {mn mx g : Int} : pRight mn mx g = true ↔ 0 ≤ mn ∧ mn ≤ mx ∧ mx ≤ 10000000000 ∧ 0 ≤ g ∧ g ≤ 1000000000 := by
  unfold pRight; simp only [Bool.and_eq_true, decide_eq_true_eq]; omega

/-- So small a number is. -/
def InS (x : Int) : Prop := -4611686018427387904 ≤ x ∧ x ≤ 4611686018427387904
theorem inS {x : Int} (h : InS x) : smallB x = true := smallB_true h.1 h.2
theorem ofInS {x : Int} (h : smallB x = true) : InS x := smallB_iff.1 h

theorem of_kn {a b : Int} (h1 : InS a) (h2 : InS b) (h : a ≤ b) : spOf a b = ⟨a, b, true⟩ := spOf_yes (by rw [inS h1, inS h2]; rfl) h
theorem kn_K {a b : Int} (h1 : InS a) (h2 : InS b) (h : a ≤ b) : spK ⟨a, b, true⟩ = true := spK_iff.2 ⟨rfl, inS h1, inS h2, h⟩
theorem add_kn {a b c d : Int} (h1 : InS a) (h2 : InS b) (h3 : a ≤ b) (g1 : InS c) (g2 : InS d) (g3 : c ≤ d) (k1 : InS (a + c)) (k2 : InS (b + d)) : spAdd ⟨a, b, true⟩ ⟨c, d, true⟩ = ⟨a + c, b + d, true⟩ :=
  add_known (kn_K h1 h2 h3) (kn_K g1 g2 g3) (inS k1) (inS k2)
theorem sub_kn {a b c d : Int} (h1 : InS a) (h2 : InS b) (h3 : a ≤ b) (g1 : InS c) (g2 : InS d) (g3 : c ≤ d) (k1 : InS (a - d)) (k2 : InS (b - c)) : spSub ⟨a, b, true⟩ ⟨c, d, true⟩ = ⟨a - d, b - c, true⟩ := by
  have e1 : subP a d = (a - d, true) := sub_yes (inS h1) (inS g2) (inS k1)
  have e2 : subP b c = (b - c, true) := sub_yes (inS h2) (inS g1) (inS k2)
  unfold spSub
  rw [if_pos (by rw [kn_K h1 h2 h3, kn_K g1 g2 g3]; rfl)]
  unfold spMade
  dsimp only
  rw [e1, e2, if_pos (by rfl)]
  exact of_kn k1 k2 (by omega)
theorem wider_kn {a b l : Int} (h1 : InS a) (h2 : InS b) (h3 : a ≤ b) (g0 : 0 ≤ l) (g1 : InS l) (k1 : InS (a - l)) (k2 : InS (b + l)) : spWider ⟨a, b, true⟩ l l = ⟨a - l, b + l, true⟩ := by
  have hn : InS (-l) := by unfold InS at *; omega
  unfold spWider
  rw [if_neg (by rw [inS g1]; rintro (h | h | h) <;> first | omega | cases h), of_kn hn g1 (by omega), add_kn h1 h2 h3 hn g1 (by omega) (by rw [show a + -l = a - l by omega]; exact k1) k2, show a + -l = a - l by omega]
theorem shift_kn {a b n : Int} (h1 : InS a) (h2 : InS b) (h3 : a ≤ b) (g1 : InS n) (k1 : InS (a + n)) (k2 : InS (b + n)) : spShift ⟨a, b, true⟩ n = ⟨a + n, b + n, true⟩ := by
  unfold spShift
  rw [of_kn g1 g1 (Int.le_refl _)]
  exact add_kn h1 h2 h3 g1 g1 (Int.le_refl _) k1 k2

theorem corr_bd (c : Int) : stDown c ≤ stUp c ∧ stUp c ≤ stDown c + 1 := by unfold stDown stUp; split <;> omega
theorem corr_in {c : Int} (h : I64 c) : -140737488355328 ≤ stDown c ∧ stUp c ≤ 140737488355328 ∧ stDown c ≤ 140737488355328 ∧ -140737488355328 ≤ stUp c := by unfold I64 at h; unfold stDown stUp; split <;> omega
theorem corr_kn {c : Int} (h : I64 c) : dCorr c = ⟨stDown c, stUp c, true⟩ := by
  have := corr_in h; have := corr_bd c
  exact of_kn (by unfold InS; omega) (by unfold InS; omega) (by omega)
theorem corr_whole (n : Int) : stDown (n * 65536) = n ∧ stUp (n * 65536) = n := by
  unfold stDown stUp; rw [if_pos (by omega)]; omega
theorem corr_zero : stDown 0 = 0 ∧ stUp 0 = 0 := by decide

/-- What a message from the master tells is known just so. -/
def SyncB (mn mx g t1 d u t2 : Int) : Prop := InS (d + mn) ∧ InS (u + mx) ∧ InS (d + mn - 2 * g) ∧ InS (u + mx + 2 * g) ∧ InS t1 ∧ InS (d + mn - 2 * g + t1) ∧ InS (u + mx + 2 * g + t1) ∧ InS t2 ∧ InS (d + mn - 2 * g + t1 - t2) ∧ InS (u + mx + 2 * g + t1 - t2)
def ReqB (mn mx g t3 d u t4 : Int) : Prop := InS t4 ∧ InS (t4 - u) ∧ InS (t4 - d) ∧ InS (t4 - u - mx) ∧ InS (t4 - d - mn) ∧ InS (t4 - u - mx - 2 * g) ∧ InS (t4 - d - mn + 2 * g) ∧ InS t3 ∧ InS (t4 - u - mx - 2 * g - t3) ∧ InS (t4 - d - mn + 2 * g - t3)

theorem sync_yes {mn mx g t1 c t2 : Int} (hr : pRight mn mx g = true) (hc : I64 c) (h : SyncB mn mx g t1 (stDown c) (stUp c) t2) :
    dSync mn mx g t1 c t2 = ⟨stDown c + mn - 2 * g + t1 - t2, stUp c + mx + 2 * g + t1 - t2, true⟩ := by
  obtain ⟨r1, r2, r3, r4, r5⟩ := pRight_iff.1 hr
  have c1 := corr_in hc
  have c2 := corr_bd c
  obtain ⟨h1, h2, h3, h4, h5, h6, h7, h8, h9, h10⟩ := h
  unfold dSync dWider
  rw [if_pos hr, corr_kn hc, of_kn (a := mn) (b := mx) (by unfold InS; omega) (by unfold InS; omega) r2,
    add_kn (by unfold InS; omega) (by unfold InS; omega) c2.1 (by unfold InS; omega) (by unfold InS; omega) r2 h1 h2,
    wider_kn h1 h2 (by omega) (by omega) (by unfold InS; omega) h3 h4, shift_kn h3 h4 (by omega) h5 h6 h7, of_kn h8 h8 (Int.le_refl _), sub_kn h6 h7 (by omega) h8 h8 (Int.le_refl _) h9 h10]

theorem req_yes {mn mx g t3 c t4 : Int} (hr : pRight mn mx g = true) (hc : I64 c) (h : ReqB mn mx g t3 (stDown c) (stUp c) t4) :
    dReq mn mx g t3 c t4 = ⟨t4 - stUp c - mx - 2 * g - t3, t4 - stDown c - mn + 2 * g - t3, true⟩ := by
  obtain ⟨r1, r2, r3, r4, r5⟩ := pRight_iff.1 hr
  have c1 := corr_in hc
  have c2 := corr_bd c
  obtain ⟨h1, h2, h3, h4, h5, h6, h7, h8, h9, h10⟩ := h
  unfold dReq dWider
  rw [if_pos hr, corr_kn hc, of_kn h1 h1 (Int.le_refl _), of_kn (a := mn) (b := mx) (by unfold InS; omega) (by unfold InS; omega) r2,
    sub_kn h1 h1 (Int.le_refl _) (by unfold InS; omega) (by unfold InS; omega) c2.1 h2 h3,
    sub_kn h2 h3 (by omega) (by unfold InS; omega) (by unfold InS; omega) r2 h4 h5,
    wider_kn h4 h5 (by omega) (by omega) (by unfold InS; omega) h6 h7, of_kn h8 h8 (Int.le_refl _), sub_kn h6 h7 (by omega) h8 h8 (Int.le_refl _) h9 h10]

theorem of_no_K {a b : Int} (h : spK (spOf a b) = true) : InS a ∧ InS b ∧ a ≤ b ∧ spOf a b = ⟨a, b, true⟩ := by
  rcases of_cases a b with e | e
  · rw [e] at h; cases h
  · exact ⟨ofInS e.1, ofInS e.2.1, e.2.2.1, e.2.2.2⟩

theorem wider_inv {s : Sp} {l : Int} (h : spK (spWider s l l) = true) : spK s = true ∧ InS (s.lo - l) ∧ InS (s.hi + l) ∧ spWider s l l = ⟨s.lo - l, s.hi + l, true⟩ := by
  unfold spWider at h ⊢
  split at h
  · cases h
  · rename_i hn
    rw [if_neg hn]
    rcases add_cases s (spOf (-l) l) with e | ⟨k1, k2, k3, k4, e⟩
    · rw [e] at h; cases h
    · have ho := of_no_K k2
      rw [ho.2.2.2] at k3 k4 e ⊢
      have e1 : s.lo + -l = s.lo - l := by omega
      dsimp only at k3 k4 e
      rw [e1] at k3 e
      exact ⟨k1, ofInS k3, ofInS k4, e⟩

theorem sub_inv {s t : Sp} (h : spK (spSub s t) = true) : spK s = true ∧ spK t = true ∧ InS (s.lo - t.hi) ∧ InS (s.hi - t.lo) ∧ spSub s t = ⟨s.lo - t.hi, s.hi - t.lo, true⟩ := by
  rcases sub_cases s t with e | ⟨k1, k2, k3, k4, e⟩
  · rw [e] at h; cases h
  · exact ⟨k1, k2, ofInS k3, ofInS k4, e⟩
theorem add_inv {s t : Sp} (h : spK (spAdd s t) = true) : spK s = true ∧ spK t = true ∧ InS (s.lo + t.lo) ∧ InS (s.hi + t.hi) ∧ spAdd s t = ⟨s.lo + t.lo, s.hi + t.hi, true⟩ := by
  rcases add_cases s t with e | ⟨k1, k2, k3, k4, e⟩
  · rw [e] at h; cases h
  · exact ⟨k1, k2, ofInS k3, ofInS k4, e⟩

theorem sync_inv {mn mx g t1 c t2 : Int} (hc : I64 c) (h : spK (dSync mn mx g t1 c t2) = true) : pRight mn mx g = true ∧ SyncB mn mx g t1 (stDown c) (stUp c) t2 := by
  unfold dSync at h
  obtain ⟨k1, k2, k3, k4, _⟩ := sub_inv h
  have o2 := of_no_K k2
  rw [o2.2.2.2] at k3 k4
  unfold spShift at k1 k3 k4
  obtain ⟨l1, l2, l3, l4, l5⟩ := add_inv k1
  have o3 := of_no_K l2
  rw [l5, o3.2.2.2] at k3 k4
  rw [o3.2.2.2] at l3 l4
  have hr : pRight mn mx g = true := by
    cases hh : pRight mn mx g with
    | true => rfl
    | false => unfold dWider at l1; rw [hh] at l1; cases l1
  unfold dWider at l1 l3 l4 k3 k4
  rw [if_pos hr] at l1 l3 l4 k3 k4
  obtain ⟨m1, m2, m3, m4⟩ := wider_inv l1
  rw [m4] at l3 l4 k3 k4
  obtain ⟨n1, n2, n3, n4, n5⟩ := add_inv m1
  have o4 := of_no_K n2
  rw [n5, o4.2.2.2, corr_kn hc] at m2 m3 l3 l4 k3 k4
  rw [o4.2.2.2, corr_kn hc] at n3 n4
  exact ⟨hr, n3, n4, m2, m3, o3.1, l3, l4, o2.1, k3, k4⟩

theorem req_inv {mn mx g t3 c t4 : Int} (hc : I64 c) (h : spK (dReq mn mx g t3 c t4) = true) : pRight mn mx g = true ∧ ReqB mn mx g t3 (stDown c) (stUp c) t4 := by
  unfold dReq at h
  obtain ⟨k1, k2, k3, k4, _⟩ := sub_inv h
  have o2 := of_no_K k2
  rw [o2.2.2.2] at k3 k4
  have hr : pRight mn mx g = true := by
    cases hh : pRight mn mx g with
    | true => rfl
    | false => unfold dWider at k1; rw [hh] at k1; cases k1
  unfold dWider at k1 k3 k4
  rw [if_pos hr] at k1 k3 k4
  obtain ⟨m1, m2, m3, m4⟩ := wider_inv k1
  rw [m4] at k3 k4
  obtain ⟨n1, n2, n3, n4, n5⟩ := sub_inv m1
  have o4 := of_no_K n2
  rw [n5, o4.2.2.2] at m2 m3 k3 k4
  rw [o4.2.2.2] at n3 n4
  obtain ⟨p1, p2, p3, p4, p5⟩ := sub_inv n1
  have o5 := of_no_K p1
  rw [p5, o5.2.2.2, corr_kn hc] at m2 m3 n3 n4 k3 k4
  rw [o5.2.2.2, corr_kn hc] at p3 p4
  exact ⟨hr, o5.1, p3, p4, n3, n4, m2, m3, o2.1, k3, k4⟩
end Go.Proofs.Ytigpddhffgoioaa
