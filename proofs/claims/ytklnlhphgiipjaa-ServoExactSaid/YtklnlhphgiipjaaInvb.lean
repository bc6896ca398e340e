/-
  At the end of a region all has come up: only the edges that bind in this mode need lead backward.
-/
import Derived.Test.YtklnlhphgiipjaaInv
namespace Go.Proofs.Ytklnlhphgiipjaa
open Go

theorem ready_allb {ops : Array Oper} {l : Array Bool} (hac : ∀ (i : Fin ops.size), ∀ e ∈ ops[i].after, Region.binds .any e = true → e.on < i.val) (hl : l.size = ops.size) (hr : Region.ready .any ops l = []) :
    ∀ i, i < ops.size → l.getD i false = true := by
  intro i
  induction i using Nat.strongRecOn with
  | _ i ih =>
    intro hi
    cases hv : l.getD i true with
    | true =>
      rw [Array.getD_eq_getD_getElem?, Array.getElem?_eq_getElem (by omega)] at hv ⊢
      exact hv
    | false =>
      exfalso
      have hm : i ∈ Region.ready .any ops l := by
        refine List.mem_filter.2 ⟨List.mem_range.2 hi, ?_⟩
        rw [hv, Array.getElem?_eq_getElem hi]
        simp only [Bool.not_false, Bool.true_and, Option.map_some, Option.getD_some]
        rw [Array.all_eq_true_iff_forall_mem]
        intro e he
        cases hb : Region.binds .any e with
        | false => simp
        | true =>
          have h1 := hac ⟨i, hi⟩ e he hb
          have h2 := ih e.on h1 (by dsimp only at h1; omega)
          rw [h2]; simp
      rw [hr] at hm
      cases hm
end Go.Proofs.Ytklnlhphgiipjaa
