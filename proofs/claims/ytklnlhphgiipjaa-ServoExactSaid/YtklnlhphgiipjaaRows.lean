/-
  No cell of these rows narrows 'for every input' (looked for: loops, veiled, ifaces, maps, wideKeys, modest, calm, conditions, laid).
  DERIVED. THE GIVEN ROWS OF THIS SEAT. 6 by the template 'for every input the law returns true; each argument reads behind the call as it read before'; 0 by the template 'total and deterministic' (their statements: YtklnlhphgiipjaaTotals.lean).
  GIVEN WITH THE SEED: the statements are not yours to turn. If you find one false, say at which input.
  Laid BY PROGRAM, IN A SANDBOX (cutbox-rows.mjs): the forced cells as the released guide's own fill.sh prints them over the translation ea0da9e8209c8c9c… (all of the seat's roots in one cut). By AI agents, Wed Nov 11 2026. No macro, syntax, notation, axiom, sorry.
-/
import Derived.Test.YtklnlhphgiipjaaChecked
import GoSem.Claim
import GoSem.ClaimJoined
import GoSem.ClaimMapViews
import Derived.JoinedTies
import Derived.KernelRfl
namespace Go.Proofs.Ytklnlhphgiipjaa
/- THE CELL 'sum', in the pinned program and in every row, IS THE sha256 OF THE DUMP (.gsa) THAT YtklnlhphgiipjaaProg.lean LOADS. Nothing in Lean hashes anything: it is a label: what it is worth is what the hold of that sum in a sandbox is worth. -/
noncomputable def Try.pinned : Pinned := { name := "ytklnlhphgiipjaa", sum := "ea0da9e8209c8c9c6023dbf22ddba8aa0d9cdf5c2cb4002e204da013814d8733", checked := Try.checked }
namespace Rows
def none {H : Type} : Left H := { results := [], args := [] }

/-- 'horologelaw14.ServoExact': WHATEVER THE INPUT: true; the input reads as it did. -/
def servoExactSpec : ChangeSpec := { name := "servoExact", fn := fun _ => fun
  | [d1, d2, d3] => { results := [.lit (.bool true)], args := [d1, d2, d3] }
  | _ => none }
def servoExactRow : OpenClaim := { program := "ytklnlhphgiipjaa", sum := "ea0da9e8209c8c9c6023dbf22ddba8aa0d9cdf5c2cb4002e204da013814d8733", func := "horologe/horologelaw14.ServoExact", spec := "servoExact", unfollowed := true, recurses := true, apart := false }
def ServoExactSaid : Prop := servoExactRow.holds Try.pinned (OpenSpec.ofChange servoExactSpec)

/-- ITS FALSE NEIGHBOUR: 'it returns false'. Refute it at one input. -/
def servoExactWrong : ChangeSpec := { name := "servoExact", fn := fun _ => fun
  | [d1, d2, d3] => { results := [.lit (.bool false)], args := [d1, d2, d3] }
  | _ => none }
def ServoExactWrongFalsely : Prop := servoExactRow.holds Try.pinned (OpenSpec.ofChange servoExactWrong)

/-- 'horologelaw14.ServoSound': WHATEVER THE INPUT: true; the input reads as it did. -/
def servoSoundSpec : ChangeSpec := { name := "servoSound", fn := fun _ => fun
  | [d1, d2, d3] => { results := [.lit (.bool true)], args := [d1, d2, d3] }
  | _ => none }
def servoSoundRow : OpenClaim := { program := "ytklnlhphgiipjaa", sum := "ea0da9e8209c8c9c6023dbf22ddba8aa0d9cdf5c2cb4002e204da013814d8733", func := "horologe/horologelaw14.ServoSound", spec := "servoSound", unfollowed := true, recurses := true, apart := false }
def ServoSoundSaid : Prop := servoSoundRow.holds Try.pinned (OpenSpec.ofChange servoSoundSpec)

/-- ITS FALSE NEIGHBOUR: 'it returns false'. Refute it at one input. -/
def servoSoundWrong : ChangeSpec := { name := "servoSound", fn := fun _ => fun
  | [d1, d2, d3] => { results := [.lit (.bool false)], args := [d1, d2, d3] }
  | _ => none }
def ServoSoundWrongFalsely : Prop := servoSoundRow.holds Try.pinned (OpenSpec.ofChange servoSoundWrong)

/-- 'horologelaw14.ServoForgets': WHATEVER THE INPUT: true; the input reads as it did. -/
def servoForgetsSpec : ChangeSpec := { name := "servoForgets", fn := fun _ => fun
  | [d1, d2, d3] => { results := [.lit (.bool true)], args := [d1, d2, d3] }
  | _ => none }
def servoForgetsRow : OpenClaim := { program := "ytklnlhphgiipjaa", sum := "ea0da9e8209c8c9c6023dbf22ddba8aa0d9cdf5c2cb4002e204da013814d8733", func := "horologe/horologelaw14.ServoForgets", spec := "servoForgets", unfollowed := true, recurses := true, apart := false }
def ServoForgetsSaid : Prop := servoForgetsRow.holds Try.pinned (OpenSpec.ofChange servoForgetsSpec)

/-- ITS FALSE NEIGHBOUR: 'it returns false'. Refute it at one input. -/
def servoForgetsWrong : ChangeSpec := { name := "servoForgets", fn := fun _ => fun
  | [d1, d2, d3] => { results := [.lit (.bool false)], args := [d1, d2, d3] }
  | _ => none }
def ServoForgetsWrongFalsely : Prop := servoForgetsRow.holds Try.pinned (OpenSpec.ofChange servoForgetsWrong)

/-- 'horologelaw14.ServoAll': WHATEVER THE INPUT: true; the input reads as it did. -/
def servoAllSpec : ChangeSpec := { name := "servoAll", fn := fun _ => fun
  | [d1, d2, d3] => { results := [.lit (.bool true)], args := [d1, d2, d3] }
  | _ => none }
def servoAllRow : OpenClaim := { program := "ytklnlhphgiipjaa", sum := "ea0da9e8209c8c9c6023dbf22ddba8aa0d9cdf5c2cb4002e204da013814d8733", func := "horologe/horologelaw14.ServoAll", spec := "servoAll", unfollowed := true, recurses := true, apart := false }
def ServoAllSaid : Prop := servoAllRow.holds Try.pinned (OpenSpec.ofChange servoAllSpec)

/-- ITS FALSE NEIGHBOUR: 'it returns false'. Refute it at one input. -/
def servoAllWrong : ChangeSpec := { name := "servoAll", fn := fun _ => fun
  | [d1, d2, d3] => { results := [.lit (.bool false)], args := [d1, d2, d3] }
  | _ => none }
def ServoAllWrongFalsely : Prop := servoAllRow.holds Try.pinned (OpenSpec.ofChange servoAllWrong)

/-- 'horologelaw14.ServoNarrow': WHATEVER THE INPUT: true; the input reads as it did. -/
def servoNarrowSpec : ChangeSpec := { name := "servoNarrow", fn := fun _ => fun
  | [d1, d2] => { results := [.lit (.bool true)], args := [d1, d2] }
  | _ => none }
def servoNarrowRow : OpenClaim := { program := "ytklnlhphgiipjaa", sum := "ea0da9e8209c8c9c6023dbf22ddba8aa0d9cdf5c2cb4002e204da013814d8733", func := "horologe/horologelaw14.ServoNarrow", spec := "servoNarrow", unfollowed := true, recurses := true, apart := false }
def ServoNarrowSaid : Prop := servoNarrowRow.holds Try.pinned (OpenSpec.ofChange servoNarrowSpec)

/-- ITS FALSE NEIGHBOUR: 'it returns false'. Refute it at one input. -/
def servoNarrowWrong : ChangeSpec := { name := "servoNarrow", fn := fun _ => fun
  | [d1, d2] => { results := [.lit (.bool false)], args := [d1, d2] }
  | _ => none }
def ServoNarrowWrongFalsely : Prop := servoNarrowRow.holds Try.pinned (OpenSpec.ofChange servoNarrowWrong)

/-- 'horologelaw14.ServoWidens': WHATEVER THE INPUT: true; the input reads as it did. -/
def servoWidensSpec : ChangeSpec := { name := "servoWidens", fn := fun _ => fun
  | [d1, d2, d3] => { results := [.lit (.bool true)], args := [d1, d2, d3] }
  | _ => none }
def servoWidensRow : OpenClaim := { program := "ytklnlhphgiipjaa", sum := "ea0da9e8209c8c9c6023dbf22ddba8aa0d9cdf5c2cb4002e204da013814d8733", func := "horologe/horologelaw14.ServoWidens", spec := "servoWidens", unfollowed := true, recurses := true, apart := false }
def ServoWidensSaid : Prop := servoWidensRow.holds Try.pinned (OpenSpec.ofChange servoWidensSpec)

/-- ITS FALSE NEIGHBOUR: 'it returns false'. Refute it at one input. -/
def servoWidensWrong : ChangeSpec := { name := "servoWidens", fn := fun _ => fun
  | [d1, d2, d3] => { results := [.lit (.bool false)], args := [d1, d2, d3] }
  | _ => none }
def ServoWidensWrongFalsely : Prop := servoWidensRow.holds Try.pinned (OpenSpec.ofChange servoWidensWrong)

/- THE SECOND FORM. 'bulk': how many values and letters a reading holds, each counted each time it is reached (what is shared counts as often as it is met; a slice's spare places count too). A statement '..UptoSaid' is the law's where the arguments, and the package variables that the reading takes, are together of bulk at most 1048576: NARROWER than '..Said'. Prove '..Said' where nothing that the law and all that it calls make is longer than what came in: it says more and counts as full. Else prove '..UptoSaid'. A law counts once. -/
mutual
def uptoBulk {H : Type} : DataW H → Nat
  | .lit (.string bytes) => bytes.length + 1
  | .lit _ => 1
  | .nil => 1
  | .ptr d => uptoBulk d + 1
  | .slice elems spare => uptoBulkAll elems + uptoBulkAll spare + 1
  | .agg parts => uptoBulkAll parts + 1
  | .iface _ d => uptoBulk d + 1
  | .map entries => uptoBulkEntries entries + 1
  | .held _ => 1
def uptoBulkAll {H : Type} : List (DataW H) → Nat
  | [] => 0
  | d :: r => uptoBulk d + uptoBulkAll r
def uptoBulkEntries {H : Type} : List (Lit × DataW H) → Nat
  | [] => 0
  | x :: r => uptoBulkEntry x + uptoBulkEntries r
def uptoBulkEntry {H : Type} : Lit × DataW H → Nat
  | (.string bytes, d) => bytes.length + uptoBulk d + 1
  | (_, d) => uptoBulk d + 1
 end
def uptoSmall : (H : Type) → List (DataW H) → Bool := fun _ ds => decide (uptoBulkAll ds ≤ 1048576)
def OpenSpec.upto (s : _root_.Go.ChangeSpec) : _root_.Go.OpenSpec := { _root_.Go.OpenSpec.ofChange s with cond := some uptoSmall }

/-- 'horologelaw14.ServoExact', WHERE WHAT IT READS IS OF BULK AT MOST 1048576: true; the input reads as it did. -/
def servoExactUptoRow : OpenClaim := { program := "ytklnlhphgiipjaa", sum := "ea0da9e8209c8c9c6023dbf22ddba8aa0d9cdf5c2cb4002e204da013814d8733", func := "horologe/horologelaw14.ServoExact", spec := "servoExact", unfollowed := true, recurses := true, apart := false, narrowed := true }
def ServoExactUptoSaid : Prop := servoExactUptoRow.holds Try.pinned (OpenSpec.upto servoExactSpec)

/-- 'horologelaw14.ServoSound', WHERE WHAT IT READS IS OF BULK AT MOST 1048576: true; the input reads as it did. -/
def servoSoundUptoRow : OpenClaim := { program := "ytklnlhphgiipjaa", sum := "ea0da9e8209c8c9c6023dbf22ddba8aa0d9cdf5c2cb4002e204da013814d8733", func := "horologe/horologelaw14.ServoSound", spec := "servoSound", unfollowed := true, recurses := true, apart := false, narrowed := true }
def ServoSoundUptoSaid : Prop := servoSoundUptoRow.holds Try.pinned (OpenSpec.upto servoSoundSpec)

/-- 'horologelaw14.ServoForgets', WHERE WHAT IT READS IS OF BULK AT MOST 1048576: true; the input reads as it did. -/
def servoForgetsUptoRow : OpenClaim := { program := "ytklnlhphgiipjaa", sum := "ea0da9e8209c8c9c6023dbf22ddba8aa0d9cdf5c2cb4002e204da013814d8733", func := "horologe/horologelaw14.ServoForgets", spec := "servoForgets", unfollowed := true, recurses := true, apart := false, narrowed := true }
def ServoForgetsUptoSaid : Prop := servoForgetsUptoRow.holds Try.pinned (OpenSpec.upto servoForgetsSpec)

/-- 'horologelaw14.ServoAll', WHERE WHAT IT READS IS OF BULK AT MOST 1048576: true; the input reads as it did. -/
def servoAllUptoRow : OpenClaim := { program := "ytklnlhphgiipjaa", sum := "ea0da9e8209c8c9c6023dbf22ddba8aa0d9cdf5c2cb4002e204da013814d8733", func := "horologe/horologelaw14.ServoAll", spec := "servoAll", unfollowed := true, recurses := true, apart := false, narrowed := true }
def ServoAllUptoSaid : Prop := servoAllUptoRow.holds Try.pinned (OpenSpec.upto servoAllSpec)

/-- 'horologelaw14.ServoNarrow', WHERE WHAT IT READS IS OF BULK AT MOST 1048576: true; the input reads as it did. -/
def servoNarrowUptoRow : OpenClaim := { program := "ytklnlhphgiipjaa", sum := "ea0da9e8209c8c9c6023dbf22ddba8aa0d9cdf5c2cb4002e204da013814d8733", func := "horologe/horologelaw14.ServoNarrow", spec := "servoNarrow", unfollowed := true, recurses := true, apart := false, narrowed := true }
def ServoNarrowUptoSaid : Prop := servoNarrowUptoRow.holds Try.pinned (OpenSpec.upto servoNarrowSpec)

/-- 'horologelaw14.ServoWidens', WHERE WHAT IT READS IS OF BULK AT MOST 1048576: true; the input reads as it did. -/
def servoWidensUptoRow : OpenClaim := { program := "ytklnlhphgiipjaa", sum := "ea0da9e8209c8c9c6023dbf22ddba8aa0d9cdf5c2cb4002e204da013814d8733", func := "horologe/horologelaw14.ServoWidens", spec := "servoWidens", unfollowed := true, recurses := true, apart := false, narrowed := true }
def ServoWidensUptoSaid : Prop := servoWidensUptoRow.holds Try.pinned (OpenSpec.upto servoWidensSpec)

end Rows
end Go.Proofs.Ytklnlhphgiipjaa
