/-
  The walk of package servo's Observe.
-/
import Derived.Test.YtklnlhphgiipjaaVb
import Derived.Test.YtklnlhphgiipjaaSf
import Derived.Test.YtklnlhphgiipjaaInvb
import Derived.Deep.Cut
import Derived.Deep.CutRange
import Derived.Deep.DeepCutAuto
namespace Go.Proofs.Ytklnlhphgiipjaa
open Go.RowKit

/-- May an observation be? -/
def sMay (s : Sp) (a : Int) (o : Sp) (t : Int) : Bool := ((o.kn && spRight o) && smallB t) && (!s.kn || decide (a ≤ t))
/-- Behind an observation: what is known, since when, how many agreed, and the answer. -/
def sObs (s : Sp) (a m p : Int) (o : Sp) (t : Int) : Sp × Int × Int × Bool :=
  if sMay s a o t = true then
    (if (sRead s a p t).kn = false ∨ (spMeet (sRead s a p t) o).kn = false then (o, t, 1, !s.kn) else (spMeet (sRead s a p t) o, t, m + 1, true))
  else (s, a, m, false)

/-- A slice of one number, in a block of its own. -/
def IsOne (w : World) (v : Value) (t : Int) : Prop := ∃ bb, v = .slice (some ⟨bb, 0, none⟩) 1 1 ∧ CellF w ⟨bb, 0, none⟩ (.int .i64 t)
theorem IsOne.keep {a b : World} {v : Value} {t : Int} (hb : Below a.heap.size a b) (h : IsOne a v t) : IsOne b v t := by
  obtain ⟨bb, e, h1⟩ := h
  exact ⟨bb, e, h1.keep hb⟩
theorem small1b (x : Int) (p : Bool) (hp : smallB x = p) (b : Nat) (w : World) (h0 : w.cell? ⟨b, 0, none⟩ = some (.int .i64 x)) :
    Calls Try.prog 30 #[.slice (some ⟨b, 0, none⟩) 1 1] w fun e w' => e = .returned (.bool p) ∧ Below w.heap.size w w' :=
  (small1 x p hp b w h0).mono fun _ _ h => ⟨h.1, h.2 ▸ Below.refl _ _⟩

end Go.Proofs.Ytklnlhphgiipjaa
