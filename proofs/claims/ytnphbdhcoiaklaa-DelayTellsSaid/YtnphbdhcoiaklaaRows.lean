/-
  No cell of these rows narrows 'for every input' (looked for: loops, veiled, ifaces, maps, wideKeys, modest, calm, conditions, laid).
  DERIVED. THE GIVEN ROWS OF THIS SEAT. 8 by the template 'for every input the law returns true; each argument reads behind the call as it read before'; 0 by the template 'total and deterministic' (their statements: YtnphbdhcoiaklaaTotals.lean).
  GIVEN WITH THE SEED: the statements are not yours to turn. If you find one false, say at which input.
  Laid BY PROGRAM, IN A SANDBOX (cutbox-rows.mjs): the forced cells as the released guide's own fill.sh prints them over the translation 5628370abea4c67b… (all of the seat's roots in one cut). By AI agents, Wed Nov 11 2026. No macro, syntax, notation, axiom, sorry.
-/
import Derived.Test.YtnphbdhcoiaklaaChecked
import GoSem.Claim
import GoSem.ClaimJoined
import GoSem.ClaimMapViews
import Derived.JoinedTies
import Derived.KernelRfl
namespace Go.Proofs.Ytnphbdhcoiaklaa
/- THE CELL 'sum', in the pinned program and in every row, IS THE sha256 OF THE DUMP (.gsa) THAT YtnphbdhcoiaklaaProg.lean LOADS. Nothing in Lean hashes anything: it is a label: what it is worth is what the hold of that sum in a sandbox is worth. -/
noncomputable def Try.pinned : Pinned := { name := "ytnphbdhcoiaklaa", sum := "5628370abea4c67bbb72d88ddb39f3b104bf342f9aa0c1095d218306efc747eb", checked := Try.checked }
namespace Rows
def none {H : Type} : Left H := { results := [], args := [] }

/-- 'horologelaw01.WideReckons': WHATEVER THE INPUT: true; the input reads as it did. -/
def wideReckonsSpec : ChangeSpec := { name := "wideReckons", fn := fun _ => fun
  | [d1, d2] => { results := [.lit (.bool true)], args := [d1, d2] }
  | _ => none }
def wideReckonsRow : OpenClaim := { program := "ytnphbdhcoiaklaa", sum := "5628370abea4c67bbb72d88ddb39f3b104bf342f9aa0c1095d218306efc747eb", func := "horologe/horologelaw01.WideReckons", spec := "wideReckons", apart := false }
def WideReckonsSaid : Prop := wideReckonsRow.holds Try.pinned (OpenSpec.ofChange wideReckonsSpec)

/-- ITS FALSE NEIGHBOUR: 'it returns false'. Refute it at one input. -/
def wideReckonsWrong : ChangeSpec := { name := "wideReckons", fn := fun _ => fun
  | [d1, d2] => { results := [.lit (.bool false)], args := [d1, d2] }
  | _ => none }
def WideReckonsWrongFalsely : Prop := wideReckonsRow.holds Try.pinned (OpenSpec.ofChange wideReckonsWrong)

/-- 'horologelaw01.WideDivides': WHATEVER THE INPUT: true; the input reads as it did. -/
def wideDividesSpec : ChangeSpec := { name := "wideDivides", fn := fun _ => fun
  | [d1, d2, d3] => { results := [.lit (.bool true)], args := [d1, d2, d3] }
  | _ => none }
def wideDividesRow : OpenClaim := { program := "ytnphbdhcoiaklaa", sum := "5628370abea4c67bbb72d88ddb39f3b104bf342f9aa0c1095d218306efc747eb", func := "horologe/horologelaw01.WideDivides", spec := "wideDivides", apart := false }
def WideDividesSaid : Prop := wideDividesRow.holds Try.pinned (OpenSpec.ofChange wideDividesSpec)

/-- ITS FALSE NEIGHBOUR: 'it returns false'. Refute it at one input. -/
def wideDividesWrong : ChangeSpec := { name := "wideDivides", fn := fun _ => fun
  | [d1, d2, d3] => { results := [.lit (.bool false)], args := [d1, d2, d3] }
  | _ => none }
def WideDividesWrongFalsely : Prop := wideDividesRow.holds Try.pinned (OpenSpec.ofChange wideDividesWrong)

/-- 'horologelaw19.OscAll': WHATEVER THE INPUT: true; the input reads as it did. -/
def oscAllSpec : ChangeSpec := { name := "oscAll", fn := fun _ => fun
  | [d1, d2, d3] => { results := [.lit (.bool true)], args := [d1, d2, d3] }
  | _ => none }
def oscAllRow : OpenClaim := { program := "ytnphbdhcoiaklaa", sum := "5628370abea4c67bbb72d88ddb39f3b104bf342f9aa0c1095d218306efc747eb", func := "horologe/horologelaw19.OscAll", spec := "oscAll", unfollowed := true, recurses := true, apart := false }
def OscAllSaid : Prop := oscAllRow.holds Try.pinned (OpenSpec.ofChange oscAllSpec)

/-- ITS FALSE NEIGHBOUR: 'it returns false'. Refute it at one input. -/
def oscAllWrong : ChangeSpec := { name := "oscAll", fn := fun _ => fun
  | [d1, d2, d3] => { results := [.lit (.bool false)], args := [d1, d2, d3] }
  | _ => none }
def OscAllWrongFalsely : Prop := oscAllRow.holds Try.pinned (OpenSpec.ofChange oscAllWrong)

/-- 'horologelaw03.SpanMakes': WHATEVER THE INPUT: true; the input reads as it did. -/
def spanMakesSpec : ChangeSpec := { name := "spanMakes", fn := fun _ => fun
  | [d1, d2, d3] => { results := [.lit (.bool true)], args := [d1, d2, d3] }
  | _ => none }
def spanMakesRow : OpenClaim := { program := "ytnphbdhcoiaklaa", sum := "5628370abea4c67bbb72d88ddb39f3b104bf342f9aa0c1095d218306efc747eb", func := "horologe/horologelaw03.SpanMakes", spec := "spanMakes", unfollowed := true, recurses := true, apart := false }
def SpanMakesSaid : Prop := spanMakesRow.holds Try.pinned (OpenSpec.ofChange spanMakesSpec)

/-- ITS FALSE NEIGHBOUR: 'it returns false'. Refute it at one input. -/
def spanMakesWrong : ChangeSpec := { name := "spanMakes", fn := fun _ => fun
  | [d1, d2, d3] => { results := [.lit (.bool false)], args := [d1, d2, d3] }
  | _ => none }
def SpanMakesWrongFalsely : Prop := spanMakesRow.holds Try.pinned (OpenSpec.ofChange spanMakesWrong)

/-- 'horologelaw03.SpanWidens': WHATEVER THE INPUT: true; the input reads as it did. -/
def spanWidensSpec : ChangeSpec := { name := "spanWidens", fn := fun _ => fun
  | [d1, d2, d3] => { results := [.lit (.bool true)], args := [d1, d2, d3] }
  | _ => none }
def spanWidensRow : OpenClaim := { program := "ytnphbdhcoiaklaa", sum := "5628370abea4c67bbb72d88ddb39f3b104bf342f9aa0c1095d218306efc747eb", func := "horologe/horologelaw03.SpanWidens", spec := "spanWidens", unfollowed := true, recurses := true, apart := false }
def SpanWidensSaid : Prop := spanWidensRow.holds Try.pinned (OpenSpec.ofChange spanWidensSpec)

/-- ITS FALSE NEIGHBOUR: 'it returns false'. Refute it at one input. -/
def spanWidensWrong : ChangeSpec := { name := "spanWidens", fn := fun _ => fun
  | [d1, d2, d3] => { results := [.lit (.bool false)], args := [d1, d2, d3] }
  | _ => none }
def SpanWidensWrongFalsely : Prop := spanWidensRow.holds Try.pinned (OpenSpec.ofChange spanWidensWrong)

/-- 'horologelaw13.DelayTells': WHATEVER THE INPUT: true; the input reads as it did. -/
def delayTellsSpec : ChangeSpec := { name := "delayTells", fn := fun _ => fun
  | [d1, d2, d3] => { results := [.lit (.bool true)], args := [d1, d2, d3] }
  | _ => none }
def delayTellsRow : OpenClaim := { program := "ytnphbdhcoiaklaa", sum := "5628370abea4c67bbb72d88ddb39f3b104bf342f9aa0c1095d218306efc747eb", func := "horologe/horologelaw13.DelayTells", spec := "delayTells", unfollowed := true, recurses := true, apart := false }
def DelayTellsSaid : Prop := delayTellsRow.holds Try.pinned (OpenSpec.ofChange delayTellsSpec)

/-- ITS FALSE NEIGHBOUR: 'it returns false'. Refute it at one input. -/
def delayTellsWrong : ChangeSpec := { name := "delayTells", fn := fun _ => fun
  | [d1, d2, d3] => { results := [.lit (.bool false)], args := [d1, d2, d3] }
  | _ => none }
def DelayTellsWrongFalsely : Prop := delayTellsRow.holds Try.pinned (OpenSpec.ofChange delayTellsWrong)

/-- 'horologelaw14.ServoAll': WHATEVER THE INPUT: true; the input reads as it did. -/
def servoAllSpec : ChangeSpec := { name := "servoAll", fn := fun _ => fun
  | [d1, d2, d3] => { results := [.lit (.bool true)], args := [d1, d2, d3] }
  | _ => none }
def servoAllRow : OpenClaim := { program := "ytnphbdhcoiaklaa", sum := "5628370abea4c67bbb72d88ddb39f3b104bf342f9aa0c1095d218306efc747eb", func := "horologe/horologelaw14.ServoAll", spec := "servoAll", unfollowed := true, recurses := true, apart := false }
def ServoAllSaid : Prop := servoAllRow.holds Try.pinned (OpenSpec.ofChange servoAllSpec)

/-- ITS FALSE NEIGHBOUR: 'it returns false'. Refute it at one input. -/
def servoAllWrong : ChangeSpec := { name := "servoAll", fn := fun _ => fun
  | [d1, d2, d3] => { results := [.lit (.bool false)], args := [d1, d2, d3] }
  | _ => none }
def ServoAllWrongFalsely : Prop := servoAllRow.holds Try.pinned (OpenSpec.ofChange servoAllWrong)

/-- 'horologelaw14.ServoSound': WHATEVER THE INPUT: true; the input reads as it did. -/
def servoSoundSpec : ChangeSpec := { name := "servoSound", fn := fun _ => fun
  | [d1, d2, d3] => { results := [.lit (.bool true)], args := [d1, d2, d3] }
  | _ => none }
def servoSoundRow : OpenClaim := { program := "ytnphbdhcoiaklaa", sum := "5628370abea4c67bbb72d88ddb39f3b104bf342f9aa0c1095d218306efc747eb", func := "horologe/horologelaw14.ServoSound", spec := "servoSound", unfollowed := true, recurses := true, apart := false }
def ServoSoundSaid : Prop := servoSoundRow.holds Try.pinned (OpenSpec.ofChange servoSoundSpec)

/-- ITS FALSE NEIGHBOUR: 'it returns false'. Refute it at one input. -/
def servoSoundWrong : ChangeSpec := { name := "servoSound", fn := fun _ => fun
  | [d1, d2, d3] => { results := [.lit (.bool false)], args := [d1, d2, d3] }
  | _ => none }
def ServoSoundWrongFalsely : Prop := servoSoundRow.holds Try.pinned (OpenSpec.ofChange servoSoundWrong)

/- THE SECOND FORM. 'bulk': how many values and letters a reading holds, each counted each time it is reached (what is shared counts as often as it is met; a slice's spare places count too). A statement '..UptoSaid' is the law's where the arguments, and the package variables that the reading takes, are together of bulk at most 1048576: NARROWER than '..Said'. Prove '..Said' where nothing that the law and all that it calls make is longer than what came in: it says more and counts as full. Else prove '..UptoSaid'. A law counts once. -/
mutual
def uptoBulk {H : Type} : DataW H → Nat
  | .lit (.string bytes) => bytes.length + 1
  | .lit _ => 1
  | .nil => 1
  | .ptr d => uptoBulk d + 1
  | .slice elems spare => uptoBulkAll elems + uptoBulkAll spare + 1
  | .agg parts => uptoBulkAll parts + 1
  | .iface _ d => uptoBulk d + 1
  | .map entries => uptoBulkEntries entries + 1
  | .held _ => 1
def uptoBulkAll {H : Type} : List (DataW H) → Nat
  | [] => 0
  | d :: r => uptoBulk d + uptoBulkAll r
def uptoBulkEntries {H : Type} : List (Lit × DataW H) → Nat
  | [] => 0
  | x :: r => uptoBulkEntry x + uptoBulkEntries r
def uptoBulkEntry {H : Type} : Lit × DataW H → Nat
  | (.string bytes, d) => bytes.length + uptoBulk d + 1
  | (_, d) => uptoBulk d + 1
 end
def uptoSmall : (H : Type) → List (DataW H) → Bool := fun _ ds => decide (uptoBulkAll ds ≤ 1048576)
def OpenSpec.upto (s : _root_.Go.ChangeSpec) : _root_.Go.OpenSpec := { _root_.Go.OpenSpec.ofChange s with cond := some uptoSmall }

/-- 'horologelaw01.WideReckons', WHERE WHAT IT READS IS OF BULK AT MOST 1048576: true; the input reads as it did. -/
def wideReckonsUptoRow : OpenClaim := { program := "ytnphbdhcoiaklaa", sum := "5628370abea4c67bbb72d88ddb39f3b104bf342f9aa0c1095d218306efc747eb", func := "horologe/horologelaw01.WideReckons", spec := "wideReckons", apart := false, narrowed := true }
def WideReckonsUptoSaid : Prop := wideReckonsUptoRow.holds Try.pinned (OpenSpec.upto wideReckonsSpec)

/-- 'horologelaw01.WideDivides', WHERE WHAT IT READS IS OF BULK AT MOST 1048576: true; the input reads as it did. -/
def wideDividesUptoRow : OpenClaim := { program := "ytnphbdhcoiaklaa", sum := "5628370abea4c67bbb72d88ddb39f3b104bf342f9aa0c1095d218306efc747eb", func := "horologe/horologelaw01.WideDivides", spec := "wideDivides", apart := false, narrowed := true }
def WideDividesUptoSaid : Prop := wideDividesUptoRow.holds Try.pinned (OpenSpec.upto wideDividesSpec)

/-- 'horologelaw19.OscAll', WHERE WHAT IT READS IS OF BULK AT MOST 1048576: true; the input reads as it did. -/
def oscAllUptoRow : OpenClaim := { program := "ytnphbdhcoiaklaa", sum := "5628370abea4c67bbb72d88ddb39f3b104bf342f9aa0c1095d218306efc747eb", func := "horologe/horologelaw19.OscAll", spec := "oscAll", unfollowed := true, recurses := true, apart := false, narrowed := true }
def OscAllUptoSaid : Prop := oscAllUptoRow.holds Try.pinned (OpenSpec.upto oscAllSpec)

/-- 'horologelaw03.SpanMakes', WHERE WHAT IT READS IS OF BULK AT MOST 1048576: true; the input reads as it did. -/
def spanMakesUptoRow : OpenClaim := { program := "ytnphbdhcoiaklaa", sum := "5628370abea4c67bbb72d88ddb39f3b104bf342f9aa0c1095d218306efc747eb", func := "horologe/horologelaw03.SpanMakes", spec := "spanMakes", unfollowed := true, recurses := true, apart := false, narrowed := true }
def SpanMakesUptoSaid : Prop := spanMakesUptoRow.holds Try.pinned (OpenSpec.upto spanMakesSpec)

/-- 'horologelaw03.SpanWidens', WHERE WHAT IT READS IS OF BULK AT MOST 1048576: true; the input reads as it did. -/
def spanWidensUptoRow : OpenClaim := { program := "ytnphbdhcoiaklaa", sum := "5628370abea4c67bbb72d88ddb39f3b104bf342f9aa0c1095d218306efc747eb", func := "horologe/horologelaw03.SpanWidens", spec := "spanWidens", unfollowed := true, recurses := true, apart := false, narrowed := true }
def SpanWidensUptoSaid : Prop := spanWidensUptoRow.holds Try.pinned (OpenSpec.upto spanWidensSpec)

/-- 'horologelaw13.DelayTells', WHERE WHAT IT READS IS OF BULK AT MOST 1048576: true; the input reads as it did. -/
def delayTellsUptoRow : OpenClaim := { program := "ytnphbdhcoiaklaa", sum := "5628370abea4c67bbb72d88ddb39f3b104bf342f9aa0c1095d218306efc747eb", func := "horologe/horologelaw13.DelayTells", spec := "delayTells", unfollowed := true, recurses := true, apart := false, narrowed := true }
def DelayTellsUptoSaid : Prop := delayTellsUptoRow.holds Try.pinned (OpenSpec.upto delayTellsSpec)

/-- 'horologelaw14.ServoAll', WHERE WHAT IT READS IS OF BULK AT MOST 1048576: true; the input reads as it did. -/
def servoAllUptoRow : OpenClaim := { program := "ytnphbdhcoiaklaa", sum := "5628370abea4c67bbb72d88ddb39f3b104bf342f9aa0c1095d218306efc747eb", func := "horologe/horologelaw14.ServoAll", spec := "servoAll", unfollowed := true, recurses := true, apart := false, narrowed := true }
def ServoAllUptoSaid : Prop := servoAllUptoRow.holds Try.pinned (OpenSpec.upto servoAllSpec)

/-- 'horologelaw14.ServoSound', WHERE WHAT IT READS IS OF BULK AT MOST 1048576: true; the input reads as it did. -/
def servoSoundUptoRow : OpenClaim := { program := "ytnphbdhcoiaklaa", sum := "5628370abea4c67bbb72d88ddb39f3b104bf342f9aa0c1095d218306efc747eb", func := "horologe/horologelaw14.ServoSound", spec := "servoSound", unfollowed := true, recurses := true, apart := false, narrowed := true }
def ServoSoundUptoSaid : Prop := servoSoundUptoRow.holds Try.pinned (OpenSpec.upto servoSoundSpec)

end Rows
end Go.Proofs.Ytnphbdhcoiaklaa
