/-
  No cell of these rows narrows 'for every input' (looked for: loops, veiled, ifaces, maps, wideKeys, modest, calm, conditions, laid).
  DERIVED. THE GIVEN ROWS OF THIS SEAT. 8 by the template 'for every input the law returns true; each argument reads behind the call as it read before'; 0 by the template 'total and deterministic' (their statements: YtldgcigdoncgdaaTotals.lean).
  GIVEN WITH THE SEED: the statements are not yours to turn. If you find one false, say at which input.
  Laid BY PROGRAM, IN A SANDBOX (cutbox-rows.mjs): the forced cells as the released guide's own fill.sh prints them over the translation 993b8f333c2628b5… (all of the seat's roots in one cut). By AI agents, Wed Nov 11 2026. No macro, syntax, notation, axiom, sorry.
-/
import Derived.Test.YtldgcigdoncgdaaChecked
import GoSem.Claim
import GoSem.ClaimJoined
import GoSem.ClaimMapViews
import Derived.JoinedTies
import Derived.KernelRfl
namespace Go.Proofs.Ytldgcigdoncgdaa
/- THE CELL 'sum', in the pinned program and in every row, IS THE sha256 OF THE DUMP (.gsa) THAT YtldgcigdoncgdaaProg.lean LOADS. Nothing in Lean hashes anything: it is a label: what it is worth is what the hold of that sum in a sandbox is worth. -/
noncomputable def Try.pinned : Pinned := { name := "ytldgcigdoncgdaa", sum := "993b8f333c2628b5f2d707cf03bfbbc9b12a56434ea80d5d8bbaf45653d35c92", checked := Try.checked }
namespace Rows
def none {H : Type} : Left H := { results := [], args := [] }

/-- 'horologelaw03.SpanMakes': WHATEVER THE INPUT: true; the input reads as it did. -/
def spanMakesSpec : ChangeSpec := { name := "spanMakes", fn := fun _ => fun
  | [d1, d2, d3] => { results := [.lit (.bool true)], args := [d1, d2, d3] }
  | _ => none }
def spanMakesRow : OpenClaim := { program := "ytldgcigdoncgdaa", sum := "993b8f333c2628b5f2d707cf03bfbbc9b12a56434ea80d5d8bbaf45653d35c92", func := "horologe/horologelaw03.SpanMakes", spec := "spanMakes", unfollowed := true, recurses := true, apart := false }
def SpanMakesSaid : Prop := spanMakesRow.holds Try.pinned (OpenSpec.ofChange spanMakesSpec)

/-- ITS FALSE NEIGHBOUR: 'it returns false'. Refute it at one input. -/
def spanMakesWrong : ChangeSpec := { name := "spanMakes", fn := fun _ => fun
  | [d1, d2, d3] => { results := [.lit (.bool false)], args := [d1, d2, d3] }
  | _ => none }
def SpanMakesWrongFalsely : Prop := spanMakesRow.holds Try.pinned (OpenSpec.ofChange spanMakesWrong)

/-- 'horologelaw03.SpanWidens': WHATEVER THE INPUT: true; the input reads as it did. -/
def spanWidensSpec : ChangeSpec := { name := "spanWidens", fn := fun _ => fun
  | [d1, d2, d3] => { results := [.lit (.bool true)], args := [d1, d2, d3] }
  | _ => none }
def spanWidensRow : OpenClaim := { program := "ytldgcigdoncgdaa", sum := "993b8f333c2628b5f2d707cf03bfbbc9b12a56434ea80d5d8bbaf45653d35c92", func := "horologe/horologelaw03.SpanWidens", spec := "spanWidens", unfollowed := true, recurses := true, apart := false }
def SpanWidensSaid : Prop := spanWidensRow.holds Try.pinned (OpenSpec.ofChange spanWidensSpec)

/-- ITS FALSE NEIGHBOUR: 'it returns false'. Refute it at one input. -/
def spanWidensWrong : ChangeSpec := { name := "spanWidens", fn := fun _ => fun
  | [d1, d2, d3] => { results := [.lit (.bool false)], args := [d1, d2, d3] }
  | _ => none }
def SpanWidensWrongFalsely : Prop := spanWidensRow.holds Try.pinned (OpenSpec.ofChange spanWidensWrong)

/-- 'horologelaw03.SpanNear': WHATEVER THE INPUT: true; the input reads as it did. -/
def spanNearSpec : ChangeSpec := { name := "spanNear", fn := fun _ => fun
  | [d1, d2, d3] => { results := [.lit (.bool true)], args := [d1, d2, d3] }
  | _ => none }
def spanNearRow : OpenClaim := { program := "ytldgcigdoncgdaa", sum := "993b8f333c2628b5f2d707cf03bfbbc9b12a56434ea80d5d8bbaf45653d35c92", func := "horologe/horologelaw03.SpanNear", spec := "spanNear", unfollowed := true, recurses := true, apart := false }
def SpanNearSaid : Prop := spanNearRow.holds Try.pinned (OpenSpec.ofChange spanNearSpec)

/-- ITS FALSE NEIGHBOUR: 'it returns false'. Refute it at one input. -/
def spanNearWrong : ChangeSpec := { name := "spanNear", fn := fun _ => fun
  | [d1, d2, d3] => { results := [.lit (.bool false)], args := [d1, d2, d3] }
  | _ => none }
def SpanNearWrongFalsely : Prop := spanNearRow.holds Try.pinned (OpenSpec.ofChange spanNearWrong)

/-- 'horologelaw03.SpanMeets': WHATEVER THE INPUT: true; the input reads as it did. -/
def spanMeetsSpec : ChangeSpec := { name := "spanMeets", fn := fun _ => fun
  | [d1, d2, d3] => { results := [.lit (.bool true)], args := [d1, d2, d3] }
  | _ => none }
def spanMeetsRow : OpenClaim := { program := "ytldgcigdoncgdaa", sum := "993b8f333c2628b5f2d707cf03bfbbc9b12a56434ea80d5d8bbaf45653d35c92", func := "horologe/horologelaw03.SpanMeets", spec := "spanMeets", unfollowed := true, recurses := true, apart := false }
def SpanMeetsSaid : Prop := spanMeetsRow.holds Try.pinned (OpenSpec.ofChange spanMeetsSpec)

/-- ITS FALSE NEIGHBOUR: 'it returns false'. Refute it at one input. -/
def spanMeetsWrong : ChangeSpec := { name := "spanMeets", fn := fun _ => fun
  | [d1, d2, d3] => { results := [.lit (.bool false)], args := [d1, d2, d3] }
  | _ => none }
def SpanMeetsWrongFalsely : Prop := spanMeetsRow.holds Try.pinned (OpenSpec.ofChange spanMeetsWrong)

/-- 'horologelaw03.SpanDrifts': WHATEVER THE INPUT: true; the input reads as it did. -/
def spanDriftsSpec : ChangeSpec := { name := "spanDrifts", fn := fun _ => fun
  | [d1, d2, d3] => { results := [.lit (.bool true)], args := [d1, d2, d3] }
  | _ => none }
def spanDriftsRow : OpenClaim := { program := "ytldgcigdoncgdaa", sum := "993b8f333c2628b5f2d707cf03bfbbc9b12a56434ea80d5d8bbaf45653d35c92", func := "horologe/horologelaw03.SpanDrifts", spec := "spanDrifts", unfollowed := true, recurses := true, apart := false }
def SpanDriftsSaid : Prop := spanDriftsRow.holds Try.pinned (OpenSpec.ofChange spanDriftsSpec)

/-- ITS FALSE NEIGHBOUR: 'it returns false'. Refute it at one input. -/
def spanDriftsWrong : ChangeSpec := { name := "spanDrifts", fn := fun _ => fun
  | [d1, d2, d3] => { results := [.lit (.bool false)], args := [d1, d2, d3] }
  | _ => none }
def SpanDriftsWrongFalsely : Prop := spanDriftsRow.holds Try.pinned (OpenSpec.ofChange spanDriftsWrong)

/-- 'horologelaw03.SpanSums': WHATEVER THE INPUT: true; the input reads as it did. -/
def spanSumsSpec : ChangeSpec := { name := "spanSums", fn := fun _ => fun
  | [d1, d2, d3] => { results := [.lit (.bool true)], args := [d1, d2, d3] }
  | _ => none }
def spanSumsRow : OpenClaim := { program := "ytldgcigdoncgdaa", sum := "993b8f333c2628b5f2d707cf03bfbbc9b12a56434ea80d5d8bbaf45653d35c92", func := "horologe/horologelaw03.SpanSums", spec := "spanSums", unfollowed := true, recurses := true, apart := false }
def SpanSumsSaid : Prop := spanSumsRow.holds Try.pinned (OpenSpec.ofChange spanSumsSpec)

/-- ITS FALSE NEIGHBOUR: 'it returns false'. Refute it at one input. -/
def spanSumsWrong : ChangeSpec := { name := "spanSums", fn := fun _ => fun
  | [d1, d2, d3] => { results := [.lit (.bool false)], args := [d1, d2, d3] }
  | _ => none }
def SpanSumsWrongFalsely : Prop := spanSumsRow.holds Try.pinned (OpenSpec.ofChange spanSumsWrong)

/-- 'horologelaw03.SpanWide': WHATEVER THE INPUT: true; the input reads as it did. -/
def spanWideSpec : ChangeSpec := { name := "spanWide", fn := fun _ => fun
  | [d1, d2, d3] => { results := [.lit (.bool true)], args := [d1, d2, d3] }
  | _ => none }
def spanWideRow : OpenClaim := { program := "ytldgcigdoncgdaa", sum := "993b8f333c2628b5f2d707cf03bfbbc9b12a56434ea80d5d8bbaf45653d35c92", func := "horologe/horologelaw03.SpanWide", spec := "spanWide", unfollowed := true, recurses := true, apart := false }
def SpanWideSaid : Prop := spanWideRow.holds Try.pinned (OpenSpec.ofChange spanWideSpec)

/-- ITS FALSE NEIGHBOUR: 'it returns false'. Refute it at one input. -/
def spanWideWrong : ChangeSpec := { name := "spanWide", fn := fun _ => fun
  | [d1, d2, d3] => { results := [.lit (.bool false)], args := [d1, d2, d3] }
  | _ => none }
def SpanWideWrongFalsely : Prop := spanWideRow.holds Try.pinned (OpenSpec.ofChange spanWideWrong)

/-- 'horologelaw03.SpanBack': WHATEVER THE INPUT: true; the input reads as it did. -/
def spanBackSpec : ChangeSpec := { name := "spanBack", fn := fun _ => fun
  | [d1, d2, d3] => { results := [.lit (.bool true)], args := [d1, d2, d3] }
  | _ => none }
def spanBackRow : OpenClaim := { program := "ytldgcigdoncgdaa", sum := "993b8f333c2628b5f2d707cf03bfbbc9b12a56434ea80d5d8bbaf45653d35c92", func := "horologe/horologelaw03.SpanBack", spec := "spanBack", unfollowed := true, recurses := true, apart := false }
def SpanBackSaid : Prop := spanBackRow.holds Try.pinned (OpenSpec.ofChange spanBackSpec)

/-- ITS FALSE NEIGHBOUR: 'it returns false'. Refute it at one input. -/
def spanBackWrong : ChangeSpec := { name := "spanBack", fn := fun _ => fun
  | [d1, d2, d3] => { results := [.lit (.bool false)], args := [d1, d2, d3] }
  | _ => none }
def SpanBackWrongFalsely : Prop := spanBackRow.holds Try.pinned (OpenSpec.ofChange spanBackWrong)

/- THE SECOND FORM. 'bulk': how many values and letters a reading holds, each counted each time it is reached (what is shared counts as often as it is met; a slice's spare places count too). A statement '..UptoSaid' is the law's where the arguments, and the package variables that the reading takes, are together of bulk at most 1048576: NARROWER than '..Said'. Prove '..Said' where nothing that the law and all that it calls make is longer than what came in: it says more and counts as full. Else prove '..UptoSaid'. A law counts once. -/
mutual
def uptoBulk {H : Type} : DataW H → Nat
  | .lit (.string bytes) => bytes.length + 1
  | .lit _ => 1
  | .nil => 1
  | .ptr d => uptoBulk d + 1
  | .slice elems spare => uptoBulkAll elems + uptoBulkAll spare + 1
  | .agg parts => uptoBulkAll parts + 1
  | .iface _ d => uptoBulk d + 1
  | .map entries => uptoBulkEntries entries + 1
  | .held _ => 1
def uptoBulkAll {H : Type} : List (DataW H) → Nat
  | [] => 0
  | d :: r => uptoBulk d + uptoBulkAll r
def uptoBulkEntries {H : Type} : List (Lit × DataW H) → Nat
  | [] => 0
  | x :: r => uptoBulkEntry x + uptoBulkEntries r
def uptoBulkEntry {H : Type} : Lit × DataW H → Nat
  | (.string bytes, d) => bytes.length + uptoBulk d + 1
  | (_, d) => uptoBulk d + 1
 end
def uptoSmall : (H : Type) → List (DataW H) → Bool := fun _ ds => decide (uptoBulkAll ds ≤ 1048576)
def OpenSpec.upto (s : _root_.Go.ChangeSpec) : _root_.Go.OpenSpec := { _root_.Go.OpenSpec.ofChange s with cond := some uptoSmall }

/-- 'horologelaw03.SpanMakes', WHERE WHAT IT READS IS OF BULK AT MOST 1048576: true; the input reads as it did. -/
def spanMakesUptoRow : OpenClaim := { program := "ytldgcigdoncgdaa", sum := "993b8f333c2628b5f2d707cf03bfbbc9b12a56434ea80d5d8bbaf45653d35c92", func := "horologe/horologelaw03.SpanMakes", spec := "spanMakes", unfollowed := true, recurses := true, apart := false, narrowed := true }
def SpanMakesUptoSaid : Prop := spanMakesUptoRow.holds Try.pinned (OpenSpec.upto spanMakesSpec)

/-- 'horologelaw03.SpanWidens', WHERE WHAT IT READS IS OF BULK AT MOST 1048576: true; the input reads as it did. -/
def spanWidensUptoRow : OpenClaim := { program := "ytldgcigdoncgdaa", sum := "993b8f333c2628b5f2d707cf03bfbbc9b12a56434ea80d5d8bbaf45653d35c92", func := "horologe/horologelaw03.SpanWidens", spec := "spanWidens", unfollowed := true, recurses := true, apart := false, narrowed := true }
def SpanWidensUptoSaid : Prop := spanWidensUptoRow.holds Try.pinned (OpenSpec.upto spanWidensSpec)

/-- 'horologelaw03.SpanNear', WHERE WHAT IT READS IS OF BULK AT MOST 1048576: true; the input reads as it did. -/
def spanNearUptoRow : OpenClaim := { program := "ytldgcigdoncgdaa", sum := "993b8f333c2628b5f2d707cf03bfbbc9b12a56434ea80d5d8bbaf45653d35c92", func := "horologe/horologelaw03.SpanNear", spec := "spanNear", unfollowed := true, recurses := true, apart := false, narrowed := true }
def SpanNearUptoSaid : Prop := spanNearUptoRow.holds Try.pinned (OpenSpec.upto spanNearSpec)

/-- 'horologelaw03.SpanMeets', WHERE WHAT IT READS IS OF BULK AT MOST 1048576: true; the input reads as it did. -/
def spanMeetsUptoRow : OpenClaim := { program := "ytldgcigdoncgdaa", sum := "993b8f333c2628b5f2d707cf03bfbbc9b12a56434ea80d5d8bbaf45653d35c92", func := "horologe/horologelaw03.SpanMeets", spec := "spanMeets", unfollowed := true, recurses := true, apart := false, narrowed := true }
def SpanMeetsUptoSaid : Prop := spanMeetsUptoRow.holds Try.pinned (OpenSpec.upto spanMeetsSpec)

/-- 'horologelaw03.SpanDrifts', WHERE WHAT IT READS IS OF BULK AT MOST 1048576: true; the input reads as it did. -/
def spanDriftsUptoRow : OpenClaim := { program := "ytldgcigdoncgdaa", sum := "993b8f333c2628b5f2d707cf03bfbbc9b12a56434ea80d5d8bbaf45653d35c92", func := "horologe/horologelaw03.SpanDrifts", spec := "spanDrifts", unfollowed := true, recurses := true, apart := false, narrowed := true }
def SpanDriftsUptoSaid : Prop := spanDriftsUptoRow.holds Try.pinned (OpenSpec.upto spanDriftsSpec)

/-- 'horologelaw03.SpanSums', WHERE WHAT IT READS IS OF BULK AT MOST 1048576: true; the input reads as it did. -/
def spanSumsUptoRow : OpenClaim := { program := "ytldgcigdoncgdaa", sum := "993b8f333c2628b5f2d707cf03bfbbc9b12a56434ea80d5d8bbaf45653d35c92", func := "horologe/horologelaw03.SpanSums", spec := "spanSums", unfollowed := true, recurses := true, apart := false, narrowed := true }
def SpanSumsUptoSaid : Prop := spanSumsUptoRow.holds Try.pinned (OpenSpec.upto spanSumsSpec)

/-- 'horologelaw03.SpanWide', WHERE WHAT IT READS IS OF BULK AT MOST 1048576: true; the input reads as it did. -/
def spanWideUptoRow : OpenClaim := { program := "ytldgcigdoncgdaa", sum := "993b8f333c2628b5f2d707cf03bfbbc9b12a56434ea80d5d8bbaf45653d35c92", func := "horologe/horologelaw03.SpanWide", spec := "spanWide", unfollowed := true, recurses := true, apart := false, narrowed := true }
def SpanWideUptoSaid : Prop := spanWideUptoRow.holds Try.pinned (OpenSpec.upto spanWideSpec)

/-- 'horologelaw03.SpanBack', WHERE WHAT IT READS IS OF BULK AT MOST 1048576: true; the input reads as it did. -/
def spanBackUptoRow : OpenClaim := { program := "ytldgcigdoncgdaa", sum := "993b8f333c2628b5f2d707cf03bfbbc9b12a56434ea80d5d8bbaf45653d35c92", func := "horologe/horologelaw03.SpanBack", spec := "spanBack", unfollowed := true, recurses := true, apart := false, narrowed := true }
def SpanBackUptoSaid : Prop := spanBackUptoRow.holds Try.pinned (OpenSpec.upto spanBackSpec)

end Rows
end Go.Proofs.Ytldgcigdoncgdaa
