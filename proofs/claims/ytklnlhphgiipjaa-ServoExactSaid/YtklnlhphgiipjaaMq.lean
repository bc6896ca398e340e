/-
  Plain spans: what is scaled.
-/
import Derived.Test.YtklnlhphgiipjaaMp
namespace Go.Proofs.Ytklnlhphgiipjaa
open Go.RowKit

/-- One step of Scale's: whether all was told so far, and what was met so far. -/
def scOut (out : Sp) (m q : Int) : Sp := if out.kn = true then spHull (spOf (floorP m q 1000000000).1 (ceilP m q 1000000000).1) out else spOf (floorP m q 1000000000).1 (ceilP m q 1000000000).1
def scGood (good : Bool) (m q : Int) : Bool := (good && (floorP m q 1000000000).2) && (ceilP m q 1000000000).2
def spScale (s : Sp) (ppb : Int) : Sp :=
  if spK s = false ∨ ppb < 0 ∨ 1000000000 < ppb then spNo else
    (if scGood (scGood (scGood (scGood true s.lo (1000000000 - ppb)) s.lo (1000000000 + ppb)) s.hi (1000000000 - ppb)) s.hi (1000000000 + ppb) = true then
      scOut (scOut (scOut (scOut spNo s.lo (1000000000 - ppb)) s.lo (1000000000 + ppb)) s.hi (1000000000 - ppb)) s.hi (1000000000 + ppb) else spNo)
end Go.Proofs.Ytklnlhphgiipjaa
