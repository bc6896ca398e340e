/-
  No cell of these rows narrows 'for every input' (looked for: loops, veiled, ifaces, maps, wideKeys, modest, calm, conditions, laid).
  DERIVED. THE GIVEN ROWS OF THIS SEAT. 8 by the template 'for every input the law returns true; each argument reads behind the call as it read before'; 0 by the template 'total and deterministic' (their statements: YtoijjnhlmndhpaaTotals.lean).
  GIVEN WITH THE SEED: the statements are not yours to turn. If you find one false, say at which input.
  Laid BY PROGRAM, IN A SANDBOX (cutbox-rows.mjs): the forced cells as the released guide's own fill.sh prints them over the translation 6fb7a2efaa86978f… (all of the seat's roots in one cut). By AI agents, Wed Nov 11 2026. No macro, syntax, notation, axiom, sorry.
-/
import Derived.Test.YtoijjnhlmndhpaaChecked
import GoSem.Claim
import GoSem.ClaimJoined
import GoSem.ClaimMapViews
import Derived.JoinedTies
import Derived.KernelRfl
namespace Go.Proofs.Ytoijjnhlmndhpaa
/- THE CELL 'sum', in the pinned program and in every row, IS THE sha256 OF THE DUMP (.gsa) THAT YtoijjnhlmndhpaaProg.lean LOADS. Nothing in Lean hashes anything: it is a label: what it is worth is what the hold of that sum in a sandbox is worth. -/
noncomputable def Try.pinned : Pinned := { name := "ytoijjnhlmndhpaa", sum := "6fb7a2efaa86978f98fb4923d6d2a557d7409bbe6ef0a1196431207719662423", checked := Try.checked }
namespace Rows
def none {H : Type} : Left H := { results := [], args := [] }

/-- 'horologelaw02.StampSeconds': WHATEVER THE INPUT: true; the input reads as it did. -/
def stampSecondsSpec : ChangeSpec := { name := "stampSeconds", fn := fun _ => fun
  | [d1, d2] => { results := [.lit (.bool true)], args := [d1, d2] }
  | _ => none }
def stampSecondsRow : OpenClaim := { program := "ytoijjnhlmndhpaa", sum := "6fb7a2efaa86978f98fb4923d6d2a557d7409bbe6ef0a1196431207719662423", func := "horologe/horologelaw02.StampSeconds", spec := "stampSeconds", apart := false }
def StampSecondsSaid : Prop := stampSecondsRow.holds Try.pinned (OpenSpec.ofChange stampSecondsSpec)

/-- ITS FALSE NEIGHBOUR: 'it returns false'. Refute it at one input. -/
def stampSecondsWrong : ChangeSpec := { name := "stampSeconds", fn := fun _ => fun
  | [d1, d2] => { results := [.lit (.bool false)], args := [d1, d2] }
  | _ => none }
def StampSecondsWrongFalsely : Prop := stampSecondsRow.holds Try.pinned (OpenSpec.ofChange stampSecondsWrong)

/-- 'horologelaw02.StampTimes': WHATEVER THE INPUT: true; the input reads as it did. -/
def stampTimesSpec : ChangeSpec := { name := "stampTimes", fn := fun _ => fun
  | [d1, d2, d3] => { results := [.lit (.bool true)], args := [d1, d2, d3] }
  | _ => none }
def stampTimesRow : OpenClaim := { program := "ytoijjnhlmndhpaa", sum := "6fb7a2efaa86978f98fb4923d6d2a557d7409bbe6ef0a1196431207719662423", func := "horologe/horologelaw02.StampTimes", spec := "stampTimes", apart := false }
def StampTimesSaid : Prop := stampTimesRow.holds Try.pinned (OpenSpec.ofChange stampTimesSpec)

/-- ITS FALSE NEIGHBOUR: 'it returns false'. Refute it at one input. -/
def stampTimesWrong : ChangeSpec := { name := "stampTimes", fn := fun _ => fun
  | [d1, d2, d3] => { results := [.lit (.bool false)], args := [d1, d2, d3] }
  | _ => none }
def StampTimesWrongFalsely : Prop := stampTimesRow.holds Try.pinned (OpenSpec.ofChange stampTimesWrong)

/-- 'horologelaw02.StampOrder': WHATEVER THE INPUT: true; the input reads as it did. -/
def stampOrderSpec : ChangeSpec := { name := "stampOrder", fn := fun _ => fun
  | [d1, d2] => { results := [.lit (.bool true)], args := [d1, d2] }
  | _ => none }
def stampOrderRow : OpenClaim := { program := "ytoijjnhlmndhpaa", sum := "6fb7a2efaa86978f98fb4923d6d2a557d7409bbe6ef0a1196431207719662423", func := "horologe/horologelaw02.StampOrder", spec := "stampOrder", apart := false }
def StampOrderSaid : Prop := stampOrderRow.holds Try.pinned (OpenSpec.ofChange stampOrderSpec)

/-- ITS FALSE NEIGHBOUR: 'it returns false'. Refute it at one input. -/
def stampOrderWrong : ChangeSpec := { name := "stampOrder", fn := fun _ => fun
  | [d1, d2] => { results := [.lit (.bool false)], args := [d1, d2] }
  | _ => none }
def StampOrderWrongFalsely : Prop := stampOrderRow.holds Try.pinned (OpenSpec.ofChange stampOrderWrong)

/-- 'horologelaw02.StampThree': WHATEVER THE INPUT: true; the input reads as it did. -/
def stampThreeSpec : ChangeSpec := { name := "stampThree", fn := fun _ => fun
  | [d1, d2, d3] => { results := [.lit (.bool true)], args := [d1, d2, d3] }
  | _ => none }
def stampThreeRow : OpenClaim := { program := "ytoijjnhlmndhpaa", sum := "6fb7a2efaa86978f98fb4923d6d2a557d7409bbe6ef0a1196431207719662423", func := "horologe/horologelaw02.StampThree", spec := "stampThree", apart := false }
def StampThreeSaid : Prop := stampThreeRow.holds Try.pinned (OpenSpec.ofChange stampThreeSpec)

/-- ITS FALSE NEIGHBOUR: 'it returns false'. Refute it at one input. -/
def stampThreeWrong : ChangeSpec := { name := "stampThree", fn := fun _ => fun
  | [d1, d2, d3] => { results := [.lit (.bool false)], args := [d1, d2, d3] }
  | _ => none }
def StampThreeWrongFalsely : Prop := stampThreeRow.holds Try.pinned (OpenSpec.ofChange stampThreeWrong)

/-- 'horologelaw02.StampScales': WHATEVER THE INPUT: true; the input reads as it did. -/
def stampScalesSpec : ChangeSpec := { name := "stampScales", fn := fun _ => fun
  | [d] => { results := [.lit (.bool true)], args := [d] }
  | _ => none }
def stampScalesRow : OpenClaim := { program := "ytoijjnhlmndhpaa", sum := "6fb7a2efaa86978f98fb4923d6d2a557d7409bbe6ef0a1196431207719662423", func := "horologe/horologelaw02.StampScales", spec := "stampScales", apart := false }
def StampScalesSaid : Prop := stampScalesRow.holds Try.pinned (OpenSpec.ofChange stampScalesSpec)

/-- ITS FALSE NEIGHBOUR: 'it returns false'. Refute it at one input. -/
def stampScalesWrong : ChangeSpec := { name := "stampScales", fn := fun _ => fun
  | [d] => { results := [.lit (.bool false)], args := [d] }
  | _ => none }
def StampScalesWrongFalsely : Prop := stampScalesRow.holds Try.pinned (OpenSpec.ofChange stampScalesWrong)

/-- 'horologelaw02.StampHalves': WHATEVER THE INPUT: true; the input reads as it did. -/
def stampHalvesSpec : ChangeSpec := { name := "stampHalves", fn := fun _ => fun
  | [d] => { results := [.lit (.bool true)], args := [d] }
  | _ => none }
def stampHalvesRow : OpenClaim := { program := "ytoijjnhlmndhpaa", sum := "6fb7a2efaa86978f98fb4923d6d2a557d7409bbe6ef0a1196431207719662423", func := "horologe/horologelaw02.StampHalves", spec := "stampHalves", apart := false }
def StampHalvesSaid : Prop := stampHalvesRow.holds Try.pinned (OpenSpec.ofChange stampHalvesSpec)

/-- ITS FALSE NEIGHBOUR: 'it returns false'. Refute it at one input. -/
def stampHalvesWrong : ChangeSpec := { name := "stampHalves", fn := fun _ => fun
  | [d] => { results := [.lit (.bool false)], args := [d] }
  | _ => none }
def StampHalvesWrongFalsely : Prop := stampHalvesRow.holds Try.pinned (OpenSpec.ofChange stampHalvesWrong)

/-- 'horologelaw02.StampBytes': WHATEVER THE INPUT: true; the input reads as it did. -/
def stampBytesSpec : ChangeSpec := { name := "stampBytes", fn := fun _ => fun
  | [d1, d2] => { results := [.lit (.bool true)], args := [d1, d2] }
  | _ => none }
def stampBytesRow : OpenClaim := { program := "ytoijjnhlmndhpaa", sum := "6fb7a2efaa86978f98fb4923d6d2a557d7409bbe6ef0a1196431207719662423", func := "horologe/horologelaw02.StampBytes", spec := "stampBytes", recurses := true, apart := false }
def StampBytesSaid : Prop := stampBytesRow.holds Try.pinned (OpenSpec.ofChange stampBytesSpec)

/-- ITS FALSE NEIGHBOUR: 'it returns false'. Refute it at one input. -/
def stampBytesWrong : ChangeSpec := { name := "stampBytes", fn := fun _ => fun
  | [d1, d2] => { results := [.lit (.bool false)], args := [d1, d2] }
  | _ => none }
def StampBytesWrongFalsely : Prop := stampBytesRow.holds Try.pinned (OpenSpec.ofChange stampBytesWrong)

/-- 'horologelaw02.StampBack': WHATEVER THE INPUT: true; the input reads as it did. -/
def stampBackSpec : ChangeSpec := { name := "stampBack", fn := fun _ => fun
  | [d1, d2] => { results := [.lit (.bool true)], args := [d1, d2] }
  | _ => none }
def stampBackRow : OpenClaim := { program := "ytoijjnhlmndhpaa", sum := "6fb7a2efaa86978f98fb4923d6d2a557d7409bbe6ef0a1196431207719662423", func := "horologe/horologelaw02.StampBack", spec := "stampBack", apart := false }
def StampBackSaid : Prop := stampBackRow.holds Try.pinned (OpenSpec.ofChange stampBackSpec)

/-- ITS FALSE NEIGHBOUR: 'it returns false'. Refute it at one input. -/
def stampBackWrong : ChangeSpec := { name := "stampBack", fn := fun _ => fun
  | [d1, d2] => { results := [.lit (.bool false)], args := [d1, d2] }
  | _ => none }
def StampBackWrongFalsely : Prop := stampBackRow.holds Try.pinned (OpenSpec.ofChange stampBackWrong)

/- THE SECOND FORM. 'bulk': how many values and letters a reading holds, each counted each time it is reached (what is shared counts as often as it is met; a slice's spare places count too). A statement '..UptoSaid' is the law's where the arguments, and the package variables that the reading takes, are together of bulk at most 1048576: NARROWER than '..Said'. Prove '..Said' where nothing that the law and all that it calls make is longer than what came in: it says more and counts as full. Else prove '..UptoSaid'. A law counts once. -/
mutual
def uptoBulk {H : Type} : DataW H → Nat
  | .lit (.string bytes) => bytes.length + 1
  | .lit _ => 1
  | .nil => 1
  | .ptr d => uptoBulk d + 1
  | .slice elems spare => uptoBulkAll elems + uptoBulkAll spare + 1
  | .agg parts => uptoBulkAll parts + 1
  | .iface _ d => uptoBulk d + 1
  | .map entries => uptoBulkEntries entries + 1
  | .held _ => 1
def uptoBulkAll {H : Type} : List (DataW H) → Nat
  | [] => 0
  | d :: r => uptoBulk d + uptoBulkAll r
def uptoBulkEntries {H : Type} : List (Lit × DataW H) → Nat
  | [] => 0
  | x :: r => uptoBulkEntry x + uptoBulkEntries r
def uptoBulkEntry {H : Type} : Lit × DataW H → Nat
  | (.string bytes, d) => bytes.length + uptoBulk d + 1
  | (_, d) => uptoBulk d + 1
 end
def uptoSmall : (H : Type) → List (DataW H) → Bool := fun _ ds => decide (uptoBulkAll ds ≤ 1048576)
def OpenSpec.upto (s : _root_.Go.ChangeSpec) : _root_.Go.OpenSpec := { _root_.Go.OpenSpec.ofChange s with cond := some uptoSmall }

/-- 'horologelaw02.StampSeconds', WHERE WHAT IT READS IS OF BULK AT MOST 1048576: true; the input reads as it did. -/
def stampSecondsUptoRow : OpenClaim := { program := "ytoijjnhlmndhpaa", sum := "6fb7a2efaa86978f98fb4923d6d2a557d7409bbe6ef0a1196431207719662423", func := "horologe/horologelaw02.StampSeconds", spec := "stampSeconds", apart := false, narrowed := true }
def StampSecondsUptoSaid : Prop := stampSecondsUptoRow.holds Try.pinned (OpenSpec.upto stampSecondsSpec)

/-- 'horologelaw02.StampTimes', WHERE WHAT IT READS IS OF BULK AT MOST 1048576: true; the input reads as it did. -/
def stampTimesUptoRow : OpenClaim := { program := "ytoijjnhlmndhpaa", sum := "6fb7a2efaa86978f98fb4923d6d2a557d7409bbe6ef0a1196431207719662423", func := "horologe/horologelaw02.StampTimes", spec := "stampTimes", apart := false, narrowed := true }
def StampTimesUptoSaid : Prop := stampTimesUptoRow.holds Try.pinned (OpenSpec.upto stampTimesSpec)

/-- 'horologelaw02.StampOrder', WHERE WHAT IT READS IS OF BULK AT MOST 1048576: true; the input reads as it did. -/
def stampOrderUptoRow : OpenClaim := { program := "ytoijjnhlmndhpaa", sum := "6fb7a2efaa86978f98fb4923d6d2a557d7409bbe6ef0a1196431207719662423", func := "horologe/horologelaw02.StampOrder", spec := "stampOrder", apart := false, narrowed := true }
def StampOrderUptoSaid : Prop := stampOrderUptoRow.holds Try.pinned (OpenSpec.upto stampOrderSpec)

/-- 'horologelaw02.StampThree', WHERE WHAT IT READS IS OF BULK AT MOST 1048576: true; the input reads as it did. -/
def stampThreeUptoRow : OpenClaim := { program := "ytoijjnhlmndhpaa", sum := "6fb7a2efaa86978f98fb4923d6d2a557d7409bbe6ef0a1196431207719662423", func := "horologe/horologelaw02.StampThree", spec := "stampThree", apart := false, narrowed := true }
def StampThreeUptoSaid : Prop := stampThreeUptoRow.holds Try.pinned (OpenSpec.upto stampThreeSpec)

/-- 'horologelaw02.StampScales', WHERE WHAT IT READS IS OF BULK AT MOST 1048576: true; the input reads as it did. -/
def stampScalesUptoRow : OpenClaim := { program := "ytoijjnhlmndhpaa", sum := "6fb7a2efaa86978f98fb4923d6d2a557d7409bbe6ef0a1196431207719662423", func := "horologe/horologelaw02.StampScales", spec := "stampScales", apart := false, narrowed := true }
def StampScalesUptoSaid : Prop := stampScalesUptoRow.holds Try.pinned (OpenSpec.upto stampScalesSpec)

/-- 'horologelaw02.StampHalves', WHERE WHAT IT READS IS OF BULK AT MOST 1048576: true; the input reads as it did. -/
def stampHalvesUptoRow : OpenClaim := { program := "ytoijjnhlmndhpaa", sum := "6fb7a2efaa86978f98fb4923d6d2a557d7409bbe6ef0a1196431207719662423", func := "horologe/horologelaw02.StampHalves", spec := "stampHalves", apart := false, narrowed := true }
def StampHalvesUptoSaid : Prop := stampHalvesUptoRow.holds Try.pinned (OpenSpec.upto stampHalvesSpec)

/-- 'horologelaw02.StampBytes', WHERE WHAT IT READS IS OF BULK AT MOST 1048576: true; the input reads as it did. -/
def stampBytesUptoRow : OpenClaim := { program := "ytoijjnhlmndhpaa", sum := "6fb7a2efaa86978f98fb4923d6d2a557d7409bbe6ef0a1196431207719662423", func := "horologe/horologelaw02.StampBytes", spec := "stampBytes", recurses := true, apart := false, narrowed := true }
def StampBytesUptoSaid : Prop := stampBytesUptoRow.holds Try.pinned (OpenSpec.upto stampBytesSpec)

/-- 'horologelaw02.StampBack', WHERE WHAT IT READS IS OF BULK AT MOST 1048576: true; the input reads as it did. -/
def stampBackUptoRow : OpenClaim := { program := "ytoijjnhlmndhpaa", sum := "6fb7a2efaa86978f98fb4923d6d2a557d7409bbe6ef0a1196431207719662423", func := "horologe/horologelaw02.StampBack", spec := "stampBack", apart := false, narrowed := true }
def StampBackUptoSaid : Prop := stampBackUptoRow.holds Try.pinned (OpenSpec.upto stampBackSpec)

end Rows
end Go.Proofs.Ytoijjnhlmndhpaa
