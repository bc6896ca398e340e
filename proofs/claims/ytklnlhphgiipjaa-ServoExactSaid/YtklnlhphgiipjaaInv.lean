/-
  A region that draws its order, by one invariant: each operation is shown once, whatever has come up before it.
-/
import Derived.RegionTactic
namespace Go.Proofs.Ytklnlhphgiipjaa
open Go

section
variable {P : Program} {ops : Array Oper} {Q : Exit → Act → World → Prop}

/-- What is asked of operation i: from any state in which it may come up. -/
def InvStep (P : Program) (ops : Array Oper) (Q : Exit → Act → World → Prop) (I : Array Bool → Act → World → Prop) (i : Nat) : Prop :=
  ∀ l a w, i ∈ Region.ready .any ops l → I l a w → wpOp P ops Q i (I (l.setIfInBounds i true)) a w

theorem unlisted_set {l : Array Bool} {i : Nat} (h : l.getD i true = false) : (l.setIfInBounds i true).toList.count false + 1 = l.toList.count false := by
  have hi : i < l.size := by
    rcases Nat.lt_or_ge i l.size with h1 | h1
    · exact h1
    · rw [Array.getD_eq_getD_getElem?, Array.getElem?_eq_none h1] at h; cases h
  have hv : l[i] = false := by
    rw [Array.getD_eq_getD_getElem?, Array.getElem?_eq_getElem hi] at h; exact h
  rw [Array.toList_setIfInBounds]
  have hv' : l.toList[i]'(by simpa using hi) = false := by simpa using hv
  rw [List.count_set (by simpa using hi)]
  have hp : 0 < l.toList.count false := List.count_pos_iff.2 (by rw [← hv']; exact List.getElem_mem _)
  rw [hv']
  show l.toList.count false - 1 + 0 + 1 = _
  omega

theorem wpAny_inv (I : Array Bool → Act → World → Prop) (hstep : ∀ i, InvStep P ops Q I i)
    (hend : ∀ l a w, I l a w → Region.ready .any ops l = [] → Q .normal a w) :
    ∀ fuel l a w, I l a w → l.toList.count false ≤ fuel → wpAny P .any ops Q fuel l a w := by
  intro fuel
  induction fuel with
  | zero =>
    intro l a w hI hc
    have hr : Region.ready .any ops l = [] := by
      unfold Region.ready
      rw [List.filter_eq_nil_iff]
      intro i _ hi
      rw [Bool.and_eq_true] at hi
      have h1 : l.getD i true = false := by simpa using hi.1
      have := unlisted_set h1
      omega
    exact ⟨hr, hend l a w hI hr⟩
  | succ fuel ih =>
    intro l a w hI hc
    refine ⟨fun hr => hend l a w hI hr, fun i hi => ?_⟩
    have h1 : l.getD i true = false := by
      have := (List.mem_filter.1 hi).2
      rw [Bool.and_eq_true] at this
      simpa using this.1
    have h2 := unlisted_set h1
    exact wpOp_mono (fun a w h => ih _ a w h (by omega)) (hstep i l a w hi hI)

theorem wp_region_inv {id : Nat} {a : Act} {w : World} (hm : P.follows .mixedOrders = true) (I : Array Bool → Act → World → Prop)
    (h0 : I (Array.replicate ops.size false) a w.drew) (hstep : ∀ i, i < ops.size → InvStep P ops Q I i)
    (hend : ∀ l a w, I l a w → Region.ready .any ops l = [] → Q .normal a w) : (Code.region id ops true).wp P Q a w := by
  refine wp_region_any hm (wpAny_inv I (fun i l a w hi hI => ?_) hend ops.size _ a _ h0 (by simp))
  have : i < ops.size := List.mem_range.1 (List.mem_filter.1 hi).1
  exact hstep i this l a w hi hI
theorem ready_dep {l : Array Bool} {i : Nat} {o : Oper} (hr : i ∈ Region.ready .any ops l) (ho : ops[i]? = some o) :
    l.getD i true = false ∧ ∀ e ∈ o.after, Region.binds .any e = true → l.getD e.on false = true := by
  have h := (List.mem_filter.1 hr).2
  rw [ho, Bool.and_eq_true] at h
  refine ⟨by simpa using h.1, fun e he hb => ?_⟩
  have h2 := h.2
  simp only [Option.map_some, Option.getD_some] at h2
  have h3 := Array.all_eq_true_iff_forall_mem.1 h2 e he
  rw [hb] at h3
  simpa using h3
theorem getD_set (l : Array Bool) {i j : Nat} (hij : i ≠ j) : (l.setIfInBounds i true).getD j false = l.getD j false := by
  rw [Array.getD_eq_getD_getElem?, Array.getD_eq_getD_getElem?, Array.getElem?_setIfInBounds_ne hij]
theorem getD_own {l : Array Bool} {i : Nat} (hi : i < l.size) : (l.setIfInBounds i true).getD i false = true := by
  rw [Array.getD_eq_getD_getElem?, Array.getElem?_setIfInBounds_self_of_lt hi]; rfl
theorem getD_both {l : Array Bool} {i : Nat} (h : l.getD i false = true) : l.getD i true = true := by
  rw [Array.getD_eq_getD_getElem?] at h ⊢
  cases hv : l[i]? with
  | none => rfl
  | some b => rw [hv] at h; exact h
theorem ptr_ne {a b : Nat} (h : a ≠ b) : Value.pointer (some ⟨a, 0, none⟩) ≠ Value.pointer (some ⟨b, 0, none⟩) := fun hh => h (by injection hh with hh; injection hh with hh; injection hh)
/-- At the end all has come up: each operation waits for earlier ones alone. -/
theorem ready_all {l : Array Bool} (hac : ∀ (i : Fin ops.size), ∀ e ∈ ops[i].after, e.on < i.val) (hl : l.size = ops.size) (hr : Region.ready .any ops l = []) :
    ∀ i, i < ops.size → l.getD i false = true := by
  intro i
  induction i using Nat.strongRecOn with
  | _ i ih =>
    intro hi
    cases hv : l.getD i true with
    | true =>
      rw [Array.getD_eq_getD_getElem?, Array.getElem?_eq_getElem (by omega)] at hv ⊢
      exact hv
    | false =>
      exfalso
      have hm : i ∈ Region.ready .any ops l := by
        refine List.mem_filter.2 ⟨List.mem_range.2 hi, ?_⟩
        rw [hv, Array.getElem?_eq_getElem hi]
        simp only [Bool.not_false, Bool.true_and, Option.map_some, Option.getD_some]
        rw [Array.all_eq_true_iff_forall_mem]
        intro e he
        have h1 := hac ⟨i, hi⟩ e he
        have h2 := ih e.on h1 (by dsimp only at h1; omega)
        rw [h2]; simp
      rw [hr] at hm
      cases hm
end
end Go.Proofs.Ytklnlhphgiipjaa
