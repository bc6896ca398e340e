/-
  No cell of these rows narrows 'for every input' (looked for: loops, veiled, ifaces, maps, wideKeys, modest, calm, conditions, laid).
  DERIVED. THE GIVEN ROWS OF THIS SEAT. 7 by the template 'for every input the law returns true; each argument reads behind the call as it read before'; 0 by the template 'total and deterministic' (their statements: YtigpddhffgoioaaTotals.lean).
  GIVEN WITH THE SEED: the statements are not yours to turn. If you find one false, say at which input.
  Laid BY PROGRAM, IN A SANDBOX (cutbox-rows.mjs): the forced cells as the released guide's own fill.sh prints them over the translation 924634ec35e99a1e… (all of the seat's roots in one cut). By AI agents, Wed Nov 11 2026. No macro, syntax, notation, axiom, sorry.
-/
import Derived.Test.YtigpddhffgoioaaChecked
import GoSem.Claim
import GoSem.ClaimJoined
import GoSem.ClaimMapViews
import Derived.JoinedTies
import Derived.KernelRfl
namespace Go.Proofs.Ytigpddhffgoioaa
/- THE CELL 'sum', in the pinned program and in every row, IS THE sha256 OF THE DUMP (.gsa) THAT YtigpddhffgoioaaProg.lean LOADS. Nothing in Lean hashes anything: it is a label: what it is worth is what the hold of that sum in a sandbox is worth. -/
noncomputable def Try.pinned : Pinned := { name := "ytigpddhffgoioaa", sum := "924634ec35e99a1e639d712abe4a7d1ee4ca22051f7afddba6314a2f5523b79a", checked := Try.checked }
namespace Rows
def none {H : Type} : Left H := { results := [], args := [] }

/-- 'horologelaw13.DelayBoth': WHATEVER THE INPUT: true; the input reads as it did. -/
def delayBothSpec : ChangeSpec := { name := "delayBoth", fn := fun _ => fun
  | [d1, d2, d3] => { results := [.lit (.bool true)], args := [d1, d2, d3] }
  | _ => none }
def delayBothRow : OpenClaim := { program := "ytigpddhffgoioaa", sum := "924634ec35e99a1e639d712abe4a7d1ee4ca22051f7afddba6314a2f5523b79a", func := "horologe/horologelaw13.DelayBoth", spec := "delayBoth", unfollowed := true, recurses := true, apart := false }
def DelayBothSaid : Prop := delayBothRow.holds Try.pinned (OpenSpec.ofChange delayBothSpec)

/-- ITS FALSE NEIGHBOUR: 'it returns false'. Refute it at one input. -/
def delayBothWrong : ChangeSpec := { name := "delayBoth", fn := fun _ => fun
  | [d1, d2, d3] => { results := [.lit (.bool false)], args := [d1, d2, d3] }
  | _ => none }
def DelayBothWrongFalsely : Prop := delayBothRow.holds Try.pinned (OpenSpec.ofChange delayBothWrong)

/-- 'horologelaw13.DelayExact': WHATEVER THE INPUT: true; the input reads as it did. -/
def delayExactSpec : ChangeSpec := { name := "delayExact", fn := fun _ => fun
  | [d1, d2, d3] => { results := [.lit (.bool true)], args := [d1, d2, d3] }
  | _ => none }
def delayExactRow : OpenClaim := { program := "ytigpddhffgoioaa", sum := "924634ec35e99a1e639d712abe4a7d1ee4ca22051f7afddba6314a2f5523b79a", func := "horologe/horologelaw13.DelayExact", spec := "delayExact", unfollowed := true, recurses := true, apart := false }
def DelayExactSaid : Prop := delayExactRow.holds Try.pinned (OpenSpec.ofChange delayExactSpec)

/-- ITS FALSE NEIGHBOUR: 'it returns false'. Refute it at one input. -/
def delayExactWrong : ChangeSpec := { name := "delayExact", fn := fun _ => fun
  | [d1, d2, d3] => { results := [.lit (.bool false)], args := [d1, d2, d3] }
  | _ => none }
def DelayExactWrongFalsely : Prop := delayExactRow.holds Try.pinned (OpenSpec.ofChange delayExactWrong)

/-- 'horologelaw13.DelaySync': WHATEVER THE INPUT: true; the input reads as it did. -/
def delaySyncSpec : ChangeSpec := { name := "delaySync", fn := fun _ => fun
  | [d1, d2] => { results := [.lit (.bool true)], args := [d1, d2] }
  | _ => none }
def delaySyncRow : OpenClaim := { program := "ytigpddhffgoioaa", sum := "924634ec35e99a1e639d712abe4a7d1ee4ca22051f7afddba6314a2f5523b79a", func := "horologe/horologelaw13.DelaySync", spec := "delaySync", unfollowed := true, recurses := true, apart := false }
def DelaySyncSaid : Prop := delaySyncRow.holds Try.pinned (OpenSpec.ofChange delaySyncSpec)

/-- ITS FALSE NEIGHBOUR: 'it returns false'. Refute it at one input. -/
def delaySyncWrong : ChangeSpec := { name := "delaySync", fn := fun _ => fun
  | [d1, d2] => { results := [.lit (.bool false)], args := [d1, d2] }
  | _ => none }
def DelaySyncWrongFalsely : Prop := delaySyncRow.holds Try.pinned (OpenSpec.ofChange delaySyncWrong)

/-- 'horologelaw13.DelayReq': WHATEVER THE INPUT: true; the input reads as it did. -/
def delayReqSpec : ChangeSpec := { name := "delayReq", fn := fun _ => fun
  | [d1, d2] => { results := [.lit (.bool true)], args := [d1, d2] }
  | _ => none }
def delayReqRow : OpenClaim := { program := "ytigpddhffgoioaa", sum := "924634ec35e99a1e639d712abe4a7d1ee4ca22051f7afddba6314a2f5523b79a", func := "horologe/horologelaw13.DelayReq", spec := "delayReq", unfollowed := true, recurses := true, apart := false }
def DelayReqSaid : Prop := delayReqRow.holds Try.pinned (OpenSpec.ofChange delayReqSpec)

/-- ITS FALSE NEIGHBOUR: 'it returns false'. Refute it at one input. -/
def delayReqWrong : ChangeSpec := { name := "delayReq", fn := fun _ => fun
  | [d1, d2] => { results := [.lit (.bool false)], args := [d1, d2] }
  | _ => none }
def DelayReqWrongFalsely : Prop := delayReqRow.holds Try.pinned (OpenSpec.ofChange delayReqWrong)

/-- 'horologelaw13.DelayWider': WHATEVER THE INPUT: true; the input reads as it did. -/
def delayWiderSpec : ChangeSpec := { name := "delayWider", fn := fun _ => fun
  | [d1, d2, d3] => { results := [.lit (.bool true)], args := [d1, d2, d3] }
  | _ => none }
def delayWiderRow : OpenClaim := { program := "ytigpddhffgoioaa", sum := "924634ec35e99a1e639d712abe4a7d1ee4ca22051f7afddba6314a2f5523b79a", func := "horologe/horologelaw13.DelayWider", spec := "delayWider", unfollowed := true, recurses := true, apart := false }
def DelayWiderSaid : Prop := delayWiderRow.holds Try.pinned (OpenSpec.ofChange delayWiderSpec)

/-- ITS FALSE NEIGHBOUR: 'it returns false'. Refute it at one input. -/
def delayWiderWrong : ChangeSpec := { name := "delayWider", fn := fun _ => fun
  | [d1, d2, d3] => { results := [.lit (.bool false)], args := [d1, d2, d3] }
  | _ => none }
def DelayWiderWrongFalsely : Prop := delayWiderRow.holds Try.pinned (OpenSpec.ofChange delayWiderWrong)

/-- 'horologelaw13.DelayTells': WHATEVER THE INPUT: true; the input reads as it did. -/
def delayTellsSpec : ChangeSpec := { name := "delayTells", fn := fun _ => fun
  | [d1, d2, d3] => { results := [.lit (.bool true)], args := [d1, d2, d3] }
  | _ => none }
def delayTellsRow : OpenClaim := { program := "ytigpddhffgoioaa", sum := "924634ec35e99a1e639d712abe4a7d1ee4ca22051f7afddba6314a2f5523b79a", func := "horologe/horologelaw13.DelayTells", spec := "delayTells", unfollowed := true, recurses := true, apart := false }
def DelayTellsSaid : Prop := delayTellsRow.holds Try.pinned (OpenSpec.ofChange delayTellsSpec)

/-- ITS FALSE NEIGHBOUR: 'it returns false'. Refute it at one input. -/
def delayTellsWrong : ChangeSpec := { name := "delayTells", fn := fun _ => fun
  | [d1, d2, d3] => { results := [.lit (.bool false)], args := [d1, d2, d3] }
  | _ => none }
def DelayTellsWrongFalsely : Prop := delayTellsRow.holds Try.pinned (OpenSpec.ofChange delayTellsWrong)

/-- 'horologelaw13.DelayMoves': WHATEVER THE INPUT: true; the input reads as it did. -/
def delayMovesSpec : ChangeSpec := { name := "delayMoves", fn := fun _ => fun
  | [d1, d2, d3] => { results := [.lit (.bool true)], args := [d1, d2, d3] }
  | _ => none }
def delayMovesRow : OpenClaim := { program := "ytigpddhffgoioaa", sum := "924634ec35e99a1e639d712abe4a7d1ee4ca22051f7afddba6314a2f5523b79a", func := "horologe/horologelaw13.DelayMoves", spec := "delayMoves", unfollowed := true, recurses := true, apart := false }
def DelayMovesSaid : Prop := delayMovesRow.holds Try.pinned (OpenSpec.ofChange delayMovesSpec)

/-- ITS FALSE NEIGHBOUR: 'it returns false'. Refute it at one input. -/
def delayMovesWrong : ChangeSpec := { name := "delayMoves", fn := fun _ => fun
  | [d1, d2, d3] => { results := [.lit (.bool false)], args := [d1, d2, d3] }
  | _ => none }
def DelayMovesWrongFalsely : Prop := delayMovesRow.holds Try.pinned (OpenSpec.ofChange delayMovesWrong)

/- THE SECOND FORM. 'bulk': how many values and letters a reading holds, each counted each time it is reached (what is shared counts as often as it is met; a slice's spare places count too). A statement '..UptoSaid' is the law's where the arguments, and the package variables that the reading takes, are together of bulk at most 1048576: NARROWER than '..Said'. Prove '..Said' where nothing that the law and all that it calls make is longer than what came in: it says more and counts as full. Else prove '..UptoSaid'. A law counts once. -/
mutual
def uptoBulk {H : Type} : DataW H → Nat
  | .lit (.string bytes) => bytes.length + 1
  | .lit _ => 1
  | .nil => 1
  | .ptr d => uptoBulk d + 1
  | .slice elems spare => uptoBulkAll elems + uptoBulkAll spare + 1
  | .agg parts => uptoBulkAll parts + 1
  | .iface _ d => uptoBulk d + 1
  | .map entries => uptoBulkEntries entries + 1
  | .held _ => 1
def uptoBulkAll {H : Type} : List (DataW H) → Nat
  | [] => 0
  | d :: r => uptoBulk d + uptoBulkAll r
def uptoBulkEntries {H : Type} : List (Lit × DataW H) → Nat
  | [] => 0
  | x :: r => uptoBulkEntry x + uptoBulkEntries r
def uptoBulkEntry {H : Type} : Lit × DataW H → Nat
  | (.string bytes, d) => bytes.length + uptoBulk d + 1
  | (_, d) => uptoBulk d + 1
 end
def uptoSmall : (H : Type) → List (DataW H) → Bool := fun _ ds => decide (uptoBulkAll ds ≤ 1048576)
def OpenSpec.upto (s : _root_.Go.ChangeSpec) : _root_.Go.OpenSpec := { _root_.Go.OpenSpec.ofChange s with cond := some uptoSmall }

/-- 'horologelaw13.DelayBoth', WHERE WHAT IT READS IS OF BULK AT MOST 1048576: true; the input reads as it did. -/
def delayBothUptoRow : OpenClaim := { program := "ytigpddhffgoioaa", sum := "924634ec35e99a1e639d712abe4a7d1ee4ca22051f7afddba6314a2f5523b79a", func := "horologe/horologelaw13.DelayBoth", spec := "delayBoth", unfollowed := true, recurses := true, apart := false, narrowed := true }
def DelayBothUptoSaid : Prop := delayBothUptoRow.holds Try.pinned (OpenSpec.upto delayBothSpec)

/-- 'horologelaw13.DelayExact', WHERE WHAT IT READS IS OF BULK AT MOST 1048576: true; the input reads as it did. -/
def delayExactUptoRow : OpenClaim := { program := "ytigpddhffgoioaa", sum := "924634ec35e99a1e639d712abe4a7d1ee4ca22051f7afddba6314a2f5523b79a", func := "horologe/horologelaw13.DelayExact", spec := "delayExact", unfollowed := true, recurses := true, apart := false, narrowed := true }
def DelayExactUptoSaid : Prop := delayExactUptoRow.holds Try.pinned (OpenSpec.upto delayExactSpec)

/-- 'horologelaw13.DelaySync', WHERE WHAT IT READS IS OF BULK AT MOST 1048576: true; the input reads as it did. -/
def delaySyncUptoRow : OpenClaim := { program := "ytigpddhffgoioaa", sum := "924634ec35e99a1e639d712abe4a7d1ee4ca22051f7afddba6314a2f5523b79a", func := "horologe/horologelaw13.DelaySync", spec := "delaySync", unfollowed := true, recurses := true, apart := false, narrowed := true }
def DelaySyncUptoSaid : Prop := delaySyncUptoRow.holds Try.pinned (OpenSpec.upto delaySyncSpec)

/-- 'horologelaw13.DelayReq', WHERE WHAT IT READS IS OF BULK AT MOST 1048576: true; the input reads as it did. -/
def delayReqUptoRow : OpenClaim := { program := "ytigpddhffgoioaa", sum := "924634ec35e99a1e639d712abe4a7d1ee4ca22051f7afddba6314a2f5523b79a", func := "horologe/horologelaw13.DelayReq", spec := "delayReq", unfollowed := true, recurses := true, apart := false, narrowed := true }
def DelayReqUptoSaid : Prop := delayReqUptoRow.holds Try.pinned (OpenSpec.upto delayReqSpec)

/-- 'horologelaw13.DelayWider', WHERE WHAT IT READS IS OF BULK AT MOST 1048576: true; the input reads as it did. -/
def delayWiderUptoRow : OpenClaim := { program := "ytigpddhffgoioaa", sum := "924634ec35e99a1e639d712abe4a7d1ee4ca22051f7afddba6314a2f5523b79a", func := "horologe/horologelaw13.DelayWider", spec := "delayWider", unfollowed := true, recurses := true, apart := false, narrowed := true }
def DelayWiderUptoSaid : Prop := delayWiderUptoRow.holds Try.pinned (OpenSpec.upto delayWiderSpec)

/-- 'horologelaw13.DelayTells', WHERE WHAT IT READS IS OF BULK AT MOST 1048576: true; the input reads as it did. -/
def delayTellsUptoRow : OpenClaim := { program := "ytigpddhffgoioaa", sum := "924634ec35e99a1e639d712abe4a7d1ee4ca22051f7afddba6314a2f5523b79a", func := "horologe/horologelaw13.DelayTells", spec := "delayTells", unfollowed := true, recurses := true, apart := false, narrowed := true }
def DelayTellsUptoSaid : Prop := delayTellsUptoRow.holds Try.pinned (OpenSpec.upto delayTellsSpec)

/-- 'horologelaw13.DelayMoves', WHERE WHAT IT READS IS OF BULK AT MOST 1048576: true; the input reads as it did. -/
def delayMovesUptoRow : OpenClaim := { program := "ytigpddhffgoioaa", sum := "924634ec35e99a1e639d712abe4a7d1ee4ca22051f7afddba6314a2f5523b79a", func := "horologe/horologelaw13.DelayMoves", spec := "delayMoves", unfollowed := true, recurses := true, apart := false, narrowed := true }
def DelayMovesUptoSaid : Prop := delayMovesUptoRow.holds Try.pinned (OpenSpec.upto delayMovesSpec)

end Rows
end Go.Proofs.Ytigpddhffgoioaa
