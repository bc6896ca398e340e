/-
  No cell of these rows narrows 'for every input' (looked for: loops, veiled, ifaces, maps, wideKeys, modest, calm, conditions, laid).
  DERIVED. THE GIVEN ROWS OF THIS SEAT. 8 by the template 'for every input the law returns true; each argument reads behind the call as it read before'; 0 by the template 'total and deterministic' (their statements: YtaahobgjkkeccaaTotals.lean).
  GIVEN WITH THE SEED: the statements are not yours to turn. If you find one false, say at which input.
  Laid BY PROGRAM, IN A SANDBOX (cutbox-rows.mjs): the forced cells as the released guide's own fill.sh prints them over the translation 711d3608aed0f673… (all of the seat's roots in one cut). By AI agents, Wed Nov 11 2026. No macro, syntax, notation, axiom, sorry.
-/
import Derived.Test.YtaahobgjkkeccaaChecked
import GoSem.Claim
import GoSem.ClaimJoined
import GoSem.ClaimMapViews
import Derived.JoinedTies
import Derived.KernelRfl
namespace Go.Proofs.Ytaahobgjkkeccaa
/- THE CELL 'sum', in the pinned program and in every row, IS THE sha256 OF THE DUMP (.gsa) THAT YtaahobgjkkeccaaProg.lean LOADS. Nothing in Lean hashes anything: it is a label: what it is worth is what the hold of that sum in a sandbox is worth. -/
noncomputable def Try.pinned : Pinned := { name := "ytaahobgjkkeccaa", sum := "711d3608aed0f673959d47c7ddd48911fa908dbe2bdfe25f101870c8efcd7a06", checked := Try.checked }
namespace Rows
def none {H : Type} : Left H := { results := [], args := [] }

/-- 'horologelaw01.WideSigns': WHATEVER THE INPUT: true; the input reads as it did. -/
def wideSignsSpec : ChangeSpec := { name := "wideSigns", fn := fun _ => fun
  | [d1, d2, d3] => { results := [.lit (.bool true)], args := [d1, d2, d3] }
  | _ => none }
def wideSignsRow : OpenClaim := { program := "ytaahobgjkkeccaa", sum := "711d3608aed0f673959d47c7ddd48911fa908dbe2bdfe25f101870c8efcd7a06", func := "horologe/horologelaw01.WideSigns", spec := "wideSigns", apart := false }
def WideSignsSaid : Prop := wideSignsRow.holds Try.pinned (OpenSpec.ofChange wideSignsSpec)

/-- ITS FALSE NEIGHBOUR: 'it returns false'. Refute it at one input. -/
def wideSignsWrong : ChangeSpec := { name := "wideSigns", fn := fun _ => fun
  | [d1, d2, d3] => { results := [.lit (.bool false)], args := [d1, d2, d3] }
  | _ => none }
def WideSignsWrongFalsely : Prop := wideSignsRow.holds Try.pinned (OpenSpec.ofChange wideSignsWrong)

/-- 'horologelaw01.WideBack': WHATEVER THE INPUT: true; the input reads as it did. -/
def wideBackSpec : ChangeSpec := { name := "wideBack", fn := fun _ => fun
  | [d1, d2] => { results := [.lit (.bool true)], args := [d1, d2] }
  | _ => none }
def wideBackRow : OpenClaim := { program := "ytaahobgjkkeccaa", sum := "711d3608aed0f673959d47c7ddd48911fa908dbe2bdfe25f101870c8efcd7a06", func := "horologe/horologelaw01.WideBack", spec := "wideBack", apart := false }
def WideBackSaid : Prop := wideBackRow.holds Try.pinned (OpenSpec.ofChange wideBackSpec)

/-- ITS FALSE NEIGHBOUR: 'it returns false'. Refute it at one input. -/
def wideBackWrong : ChangeSpec := { name := "wideBack", fn := fun _ => fun
  | [d1, d2] => { results := [.lit (.bool false)], args := [d1, d2] }
  | _ => none }
def WideBackWrongFalsely : Prop := wideBackRow.holds Try.pinned (OpenSpec.ofChange wideBackWrong)

/-- 'horologelaw01.WideOrder': WHATEVER THE INPUT: true; the input reads as it did. -/
def wideOrderSpec : ChangeSpec := { name := "wideOrder", fn := fun _ => fun
  | [d1, d2, d3] => { results := [.lit (.bool true)], args := [d1, d2, d3] }
  | _ => none }
def wideOrderRow : OpenClaim := { program := "ytaahobgjkkeccaa", sum := "711d3608aed0f673959d47c7ddd48911fa908dbe2bdfe25f101870c8efcd7a06", func := "horologe/horologelaw01.WideOrder", spec := "wideOrder", apart := false }
def WideOrderSaid : Prop := wideOrderRow.holds Try.pinned (OpenSpec.ofChange wideOrderSpec)

/-- ITS FALSE NEIGHBOUR: 'it returns false'. Refute it at one input. -/
def wideOrderWrong : ChangeSpec := { name := "wideOrder", fn := fun _ => fun
  | [d1, d2, d3] => { results := [.lit (.bool false)], args := [d1, d2, d3] }
  | _ => none }
def WideOrderWrongFalsely : Prop := wideOrderRow.holds Try.pinned (OpenSpec.ofChange wideOrderWrong)

/-- 'horologelaw01.WideNear': WHATEVER THE INPUT: true; the input reads as it did. -/
def wideNearSpec : ChangeSpec := { name := "wideNear", fn := fun _ => fun
  | [d1, d2, d3] => { results := [.lit (.bool true)], args := [d1, d2, d3] }
  | _ => none }
def wideNearRow : OpenClaim := { program := "ytaahobgjkkeccaa", sum := "711d3608aed0f673959d47c7ddd48911fa908dbe2bdfe25f101870c8efcd7a06", func := "horologe/horologelaw01.WideNear", spec := "wideNear", apart := false }
def WideNearSaid : Prop := wideNearRow.holds Try.pinned (OpenSpec.ofChange wideNearSpec)

/-- ITS FALSE NEIGHBOUR: 'it returns false'. Refute it at one input. -/
def wideNearWrong : ChangeSpec := { name := "wideNear", fn := fun _ => fun
  | [d1, d2, d3] => { results := [.lit (.bool false)], args := [d1, d2, d3] }
  | _ => none }
def WideNearWrongFalsely : Prop := wideNearRow.holds Try.pinned (OpenSpec.ofChange wideNearWrong)

/-- 'horologelaw01.WideAway': WHATEVER THE INPUT: true; the input reads as it did. -/
def wideAwaySpec : ChangeSpec := { name := "wideAway", fn := fun _ => fun
  | [d1, d2] => { results := [.lit (.bool true)], args := [d1, d2] }
  | _ => none }
def wideAwayRow : OpenClaim := { program := "ytaahobgjkkeccaa", sum := "711d3608aed0f673959d47c7ddd48911fa908dbe2bdfe25f101870c8efcd7a06", func := "horologe/horologelaw01.WideAway", spec := "wideAway", apart := false }
def WideAwaySaid : Prop := wideAwayRow.holds Try.pinned (OpenSpec.ofChange wideAwaySpec)

/-- ITS FALSE NEIGHBOUR: 'it returns false'. Refute it at one input. -/
def wideAwayWrong : ChangeSpec := { name := "wideAway", fn := fun _ => fun
  | [d1, d2] => { results := [.lit (.bool false)], args := [d1, d2] }
  | _ => none }
def WideAwayWrongFalsely : Prop := wideAwayRow.holds Try.pinned (OpenSpec.ofChange wideAwayWrong)

/-- 'horologelaw01.WideReckons': WHATEVER THE INPUT: true; the input reads as it did. -/
def wideReckonsSpec : ChangeSpec := { name := "wideReckons", fn := fun _ => fun
  | [d1, d2] => { results := [.lit (.bool true)], args := [d1, d2] }
  | _ => none }
def wideReckonsRow : OpenClaim := { program := "ytaahobgjkkeccaa", sum := "711d3608aed0f673959d47c7ddd48911fa908dbe2bdfe25f101870c8efcd7a06", func := "horologe/horologelaw01.WideReckons", spec := "wideReckons", apart := false }
def WideReckonsSaid : Prop := wideReckonsRow.holds Try.pinned (OpenSpec.ofChange wideReckonsSpec)

/-- ITS FALSE NEIGHBOUR: 'it returns false'. Refute it at one input. -/
def wideReckonsWrong : ChangeSpec := { name := "wideReckons", fn := fun _ => fun
  | [d1, d2] => { results := [.lit (.bool false)], args := [d1, d2] }
  | _ => none }
def WideReckonsWrongFalsely : Prop := wideReckonsRow.holds Try.pinned (OpenSpec.ofChange wideReckonsWrong)

/-- 'horologelaw01.WideTurns': WHATEVER THE INPUT: true; the input reads as it did. -/
def wideTurnsSpec : ChangeSpec := { name := "wideTurns", fn := fun _ => fun
  | [d1, d2] => { results := [.lit (.bool true)], args := [d1, d2] }
  | _ => none }
def wideTurnsRow : OpenClaim := { program := "ytaahobgjkkeccaa", sum := "711d3608aed0f673959d47c7ddd48911fa908dbe2bdfe25f101870c8efcd7a06", func := "horologe/horologelaw01.WideTurns", spec := "wideTurns", apart := false }
def WideTurnsSaid : Prop := wideTurnsRow.holds Try.pinned (OpenSpec.ofChange wideTurnsSpec)

/-- ITS FALSE NEIGHBOUR: 'it returns false'. Refute it at one input. -/
def wideTurnsWrong : ChangeSpec := { name := "wideTurns", fn := fun _ => fun
  | [d1, d2] => { results := [.lit (.bool false)], args := [d1, d2] }
  | _ => none }
def WideTurnsWrongFalsely : Prop := wideTurnsRow.holds Try.pinned (OpenSpec.ofChange wideTurnsWrong)

/-- 'horologelaw01.WideDivides': WHATEVER THE INPUT: true; the input reads as it did. -/
def wideDividesSpec : ChangeSpec := { name := "wideDivides", fn := fun _ => fun
  | [d1, d2, d3] => { results := [.lit (.bool true)], args := [d1, d2, d3] }
  | _ => none }
def wideDividesRow : OpenClaim := { program := "ytaahobgjkkeccaa", sum := "711d3608aed0f673959d47c7ddd48911fa908dbe2bdfe25f101870c8efcd7a06", func := "horologe/horologelaw01.WideDivides", spec := "wideDivides", apart := false }
def WideDividesSaid : Prop := wideDividesRow.holds Try.pinned (OpenSpec.ofChange wideDividesSpec)

/-- ITS FALSE NEIGHBOUR: 'it returns false'. Refute it at one input. -/
def wideDividesWrong : ChangeSpec := { name := "wideDivides", fn := fun _ => fun
  | [d1, d2, d3] => { results := [.lit (.bool false)], args := [d1, d2, d3] }
  | _ => none }
def WideDividesWrongFalsely : Prop := wideDividesRow.holds Try.pinned (OpenSpec.ofChange wideDividesWrong)

/- THE SECOND FORM. 'bulk': how many values and letters a reading holds, each counted each time it is reached (what is shared counts as often as it is met; a slice's spare places count too). A statement '..UptoSaid' is the law's where the arguments, and the package variables that the reading takes, are together of bulk at most 1048576: NARROWER than '..Said'. Prove '..Said' where nothing that the law and all that it calls make is longer than what came in: it says more and counts as full. Else prove '..UptoSaid'. A law counts once. -/
mutual
def uptoBulk {H : Type} : DataW H → Nat
  | .lit (.string bytes) => bytes.length + 1
  | .lit _ => 1
  | .nil => 1
  | .ptr d => uptoBulk d + 1
  | .slice elems spare => uptoBulkAll elems + uptoBulkAll spare + 1
  | .agg parts => uptoBulkAll parts + 1
  | .iface _ d => uptoBulk d + 1
  | .map entries => uptoBulkEntries entries + 1
  | .held _ => 1
def uptoBulkAll {H : Type} : List (DataW H) → Nat
  | [] => 0
  | d :: r => uptoBulk d + uptoBulkAll r
def uptoBulkEntries {H : Type} : List (Lit × DataW H) → Nat
  | [] => 0
  | x :: r => uptoBulkEntry x + uptoBulkEntries r
def uptoBulkEntry {H : Type} : Lit × DataW H → Nat
  | (.string bytes, d) => bytes.length + uptoBulk d + 1
  | (_, d) => uptoBulk d + 1
 end
def uptoSmall : (H : Type) → List (DataW H) → Bool := fun _ ds => decide (uptoBulkAll ds ≤ 1048576)
def OpenSpec.upto (s : _root_.Go.ChangeSpec) : _root_.Go.OpenSpec := { _root_.Go.OpenSpec.ofChange s with cond := some uptoSmall }

/-- 'horologelaw01.WideSigns', WHERE WHAT IT READS IS OF BULK AT MOST 1048576: true; the input reads as it did. -/
def wideSignsUptoRow : OpenClaim := { program := "ytaahobgjkkeccaa", sum := "711d3608aed0f673959d47c7ddd48911fa908dbe2bdfe25f101870c8efcd7a06", func := "horologe/horologelaw01.WideSigns", spec := "wideSigns", apart := false, narrowed := true }
def WideSignsUptoSaid : Prop := wideSignsUptoRow.holds Try.pinned (OpenSpec.upto wideSignsSpec)

/-- 'horologelaw01.WideBack', WHERE WHAT IT READS IS OF BULK AT MOST 1048576: true; the input reads as it did. -/
def wideBackUptoRow : OpenClaim := { program := "ytaahobgjkkeccaa", sum := "711d3608aed0f673959d47c7ddd48911fa908dbe2bdfe25f101870c8efcd7a06", func := "horologe/horologelaw01.WideBack", spec := "wideBack", apart := false, narrowed := true }
def WideBackUptoSaid : Prop := wideBackUptoRow.holds Try.pinned (OpenSpec.upto wideBackSpec)

/-- 'horologelaw01.WideOrder', WHERE WHAT IT READS IS OF BULK AT MOST 1048576: true; the input reads as it did. -/
def wideOrderUptoRow : OpenClaim := { program := "ytaahobgjkkeccaa", sum := "711d3608aed0f673959d47c7ddd48911fa908dbe2bdfe25f101870c8efcd7a06", func := "horologe/horologelaw01.WideOrder", spec := "wideOrder", apart := false, narrowed := true }
def WideOrderUptoSaid : Prop := wideOrderUptoRow.holds Try.pinned (OpenSpec.upto wideOrderSpec)

/-- 'horologelaw01.WideNear', WHERE WHAT IT READS IS OF BULK AT MOST 1048576: true; the input reads as it did. -/
def wideNearUptoRow : OpenClaim := { program := "ytaahobgjkkeccaa", sum := "711d3608aed0f673959d47c7ddd48911fa908dbe2bdfe25f101870c8efcd7a06", func := "horologe/horologelaw01.WideNear", spec := "wideNear", apart := false, narrowed := true }
def WideNearUptoSaid : Prop := wideNearUptoRow.holds Try.pinned (OpenSpec.upto wideNearSpec)

/-- 'horologelaw01.WideAway', WHERE WHAT IT READS IS OF BULK AT MOST 1048576: true; the input reads as it did. -/
def wideAwayUptoRow : OpenClaim := { program := "ytaahobgjkkeccaa", sum := "711d3608aed0f673959d47c7ddd48911fa908dbe2bdfe25f101870c8efcd7a06", func := "horologe/horologelaw01.WideAway", spec := "wideAway", apart := false, narrowed := true }
def WideAwayUptoSaid : Prop := wideAwayUptoRow.holds Try.pinned (OpenSpec.upto wideAwaySpec)

/-- 'horologelaw01.WideReckons', WHERE WHAT IT READS IS OF BULK AT MOST 1048576: true; the input reads as it did. -/
def wideReckonsUptoRow : OpenClaim := { program := "ytaahobgjkkeccaa", sum := "711d3608aed0f673959d47c7ddd48911fa908dbe2bdfe25f101870c8efcd7a06", func := "horologe/horologelaw01.WideReckons", spec := "wideReckons", apart := false, narrowed := true }
def WideReckonsUptoSaid : Prop := wideReckonsUptoRow.holds Try.pinned (OpenSpec.upto wideReckonsSpec)

/-- 'horologelaw01.WideTurns', WHERE WHAT IT READS IS OF BULK AT MOST 1048576: true; the input reads as it did. -/
def wideTurnsUptoRow : OpenClaim := { program := "ytaahobgjkkeccaa", sum := "711d3608aed0f673959d47c7ddd48911fa908dbe2bdfe25f101870c8efcd7a06", func := "horologe/horologelaw01.WideTurns", spec := "wideTurns", apart := false, narrowed := true }
def WideTurnsUptoSaid : Prop := wideTurnsUptoRow.holds Try.pinned (OpenSpec.upto wideTurnsSpec)

/-- 'horologelaw01.WideDivides', WHERE WHAT IT READS IS OF BULK AT MOST 1048576: true; the input reads as it did. -/
def wideDividesUptoRow : OpenClaim := { program := "ytaahobgjkkeccaa", sum := "711d3608aed0f673959d47c7ddd48911fa908dbe2bdfe25f101870c8efcd7a06", func := "horologe/horologelaw01.WideDivides", spec := "wideDivides", apart := false, narrowed := true }
def WideDividesUptoSaid : Prop := wideDividesUptoRow.holds Try.pinned (OpenSpec.upto wideDividesSpec)

end Rows
end Go.Proofs.Ytaahobgjkkeccaa
