/-
  No cell of these rows narrows 'for every input' (looked for: loops, veiled, ifaces, maps, wideKeys, modest, calm, conditions, laid).
  DERIVED. THE GIVEN ROWS OF THIS SEAT. 6 by the template 'for every input the law returns true; each argument reads behind the call as it read before'; 0 by the template 'total and deterministic' (their statements: YtdkdckfkhhbfnaaTotals.lean).
  GIVEN WITH THE SEED: the statements are not yours to turn. If you find one false, say at which input.
  Laid BY PROGRAM, IN A SANDBOX (cutbox-rows.mjs): the forced cells as the released guide's own fill.sh prints them over the translation 703e5d12095cc51f… (all of the seat's roots in one cut). By AI agents, Wed Nov 11 2026. No macro, syntax, notation, axiom, sorry.
-/
import Derived.Test.YtdkdckfkhhbfnaaChecked
import GoSem.Claim
import GoSem.ClaimJoined
import GoSem.ClaimMapViews
import Derived.JoinedTies
import Derived.KernelRfl
namespace Go.Proofs.Ytdkdckfkhhbfnaa
/- THE CELL 'sum', in the pinned program and in every row, IS THE sha256 OF THE DUMP (.gsa) THAT YtdkdckfkhhbfnaaProg.lean LOADS. Nothing in Lean hashes anything: it is a label: what it is worth is what the hold of that sum in a sandbox is worth. -/
noncomputable def Try.pinned : Pinned := { name := "ytdkdckfkhhbfnaa", sum := "703e5d12095cc51fb1be4ce390a8b83ec1e20222761434495b1558f2811a6774", checked := Try.checked }
namespace Rows
def none {H : Type} : Left H := { results := [], args := [] }

/-- 'horologelaw19.OscAll': WHATEVER THE INPUT: true; the input reads as it did. -/
def oscAllSpec : ChangeSpec := { name := "oscAll", fn := fun _ => fun
  | [d1, d2, d3] => { results := [.lit (.bool true)], args := [d1, d2, d3] }
  | _ => none }
def oscAllRow : OpenClaim := { program := "ytdkdckfkhhbfnaa", sum := "703e5d12095cc51fb1be4ce390a8b83ec1e20222761434495b1558f2811a6774", func := "horologe/horologelaw19.OscAll", spec := "oscAll", unfollowed := true, recurses := true, apart := false }
def OscAllSaid : Prop := oscAllRow.holds Try.pinned (OpenSpec.ofChange oscAllSpec)

/-- ITS FALSE NEIGHBOUR: 'it returns false'. Refute it at one input. -/
def oscAllWrong : ChangeSpec := { name := "oscAll", fn := fun _ => fun
  | [d1, d2, d3] => { results := [.lit (.bool false)], args := [d1, d2, d3] }
  | _ => none }
def OscAllWrongFalsely : Prop := oscAllRow.holds Try.pinned (OpenSpec.ofChange oscAllWrong)

/-- 'horologelaw19.OscBound': WHATEVER THE INPUT: true; the input reads as it did. -/
def oscBoundSpec : ChangeSpec := { name := "oscBound", fn := fun _ => fun
  | [d1, d2, d3] => { results := [.lit (.bool true)], args := [d1, d2, d3] }
  | _ => none }
def oscBoundRow : OpenClaim := { program := "ytdkdckfkhhbfnaa", sum := "703e5d12095cc51fb1be4ce390a8b83ec1e20222761434495b1558f2811a6774", func := "horologe/horologelaw19.OscBound", spec := "oscBound", unfollowed := true, recurses := true, apart := false }
def OscBoundSaid : Prop := oscBoundRow.holds Try.pinned (OpenSpec.ofChange oscBoundSpec)

/-- ITS FALSE NEIGHBOUR: 'it returns false'. Refute it at one input. -/
def oscBoundWrong : ChangeSpec := { name := "oscBound", fn := fun _ => fun
  | [d1, d2, d3] => { results := [.lit (.bool false)], args := [d1, d2, d3] }
  | _ => none }
def OscBoundWrongFalsely : Prop := oscBoundRow.holds Try.pinned (OpenSpec.ofChange oscBoundWrong)

/-- 'horologelaw19.OscTwo': WHATEVER THE INPUT: true; the input reads as it did. -/
def oscTwoSpec : ChangeSpec := { name := "oscTwo", fn := fun _ => fun
  | [d1, d2, d3] => { results := [.lit (.bool true)], args := [d1, d2, d3] }
  | _ => none }
def oscTwoRow : OpenClaim := { program := "ytdkdckfkhhbfnaa", sum := "703e5d12095cc51fb1be4ce390a8b83ec1e20222761434495b1558f2811a6774", func := "horologe/horologelaw19.OscTwo", spec := "oscTwo", unfollowed := true, recurses := true, apart := false }
def OscTwoSaid : Prop := oscTwoRow.holds Try.pinned (OpenSpec.ofChange oscTwoSpec)

/-- ITS FALSE NEIGHBOUR: 'it returns false'. Refute it at one input. -/
def oscTwoWrong : ChangeSpec := { name := "oscTwo", fn := fun _ => fun
  | [d1, d2, d3] => { results := [.lit (.bool false)], args := [d1, d2, d3] }
  | _ => none }
def OscTwoWrongFalsely : Prop := oscTwoRow.holds Try.pinned (OpenSpec.ofChange oscTwoWrong)

/-- 'horologelaw19.OscGain': WHATEVER THE INPUT: true; the input reads as it did. -/
def oscGainSpec : ChangeSpec := { name := "oscGain", fn := fun _ => fun
  | [d1, d2] => { results := [.lit (.bool true)], args := [d1, d2] }
  | _ => none }
def oscGainRow : OpenClaim := { program := "ytdkdckfkhhbfnaa", sum := "703e5d12095cc51fb1be4ce390a8b83ec1e20222761434495b1558f2811a6774", func := "horologe/horologelaw19.OscGain", spec := "oscGain", unfollowed := true, recurses := true, apart := false }
def OscGainSaid : Prop := oscGainRow.holds Try.pinned (OpenSpec.ofChange oscGainSpec)

/-- ITS FALSE NEIGHBOUR: 'it returns false'. Refute it at one input. -/
def oscGainWrong : ChangeSpec := { name := "oscGain", fn := fun _ => fun
  | [d1, d2] => { results := [.lit (.bool false)], args := [d1, d2] }
  | _ => none }
def OscGainWrongFalsely : Prop := oscGainRow.holds Try.pinned (OpenSpec.ofChange oscGainWrong)

/-- 'horologelaw19.OscEven': WHATEVER THE INPUT: true; the input reads as it did. -/
def oscEvenSpec : ChangeSpec := { name := "oscEven", fn := fun _ => fun
  | [d1, d2, d3] => { results := [.lit (.bool true)], args := [d1, d2, d3] }
  | _ => none }
def oscEvenRow : OpenClaim := { program := "ytdkdckfkhhbfnaa", sum := "703e5d12095cc51fb1be4ce390a8b83ec1e20222761434495b1558f2811a6774", func := "horologe/horologelaw19.OscEven", spec := "oscEven", unfollowed := true, recurses := true, apart := false }
def OscEvenSaid : Prop := oscEvenRow.holds Try.pinned (OpenSpec.ofChange oscEvenSpec)

/-- ITS FALSE NEIGHBOUR: 'it returns false'. Refute it at one input. -/
def oscEvenWrong : ChangeSpec := { name := "oscEven", fn := fun _ => fun
  | [d1, d2, d3] => { results := [.lit (.bool false)], args := [d1, d2, d3] }
  | _ => none }
def OscEvenWrongFalsely : Prop := oscEvenRow.holds Try.pinned (OpenSpec.ofChange oscEvenWrong)

/-- 'horologelaw19.OscRefuses': WHATEVER THE INPUT: true; the input reads as it did. -/
def oscRefusesSpec : ChangeSpec := { name := "oscRefuses", fn := fun _ => fun
  | [d1, d2, d3] => { results := [.lit (.bool true)], args := [d1, d2, d3] }
  | _ => none }
def oscRefusesRow : OpenClaim := { program := "ytdkdckfkhhbfnaa", sum := "703e5d12095cc51fb1be4ce390a8b83ec1e20222761434495b1558f2811a6774", func := "horologe/horologelaw19.OscRefuses", spec := "oscRefuses", unfollowed := true, recurses := true, apart := false }
def OscRefusesSaid : Prop := oscRefusesRow.holds Try.pinned (OpenSpec.ofChange oscRefusesSpec)

/-- ITS FALSE NEIGHBOUR: 'it returns false'. Refute it at one input. -/
def oscRefusesWrong : ChangeSpec := { name := "oscRefuses", fn := fun _ => fun
  | [d1, d2, d3] => { results := [.lit (.bool false)], args := [d1, d2, d3] }
  | _ => none }
def OscRefusesWrongFalsely : Prop := oscRefusesRow.holds Try.pinned (OpenSpec.ofChange oscRefusesWrong)

/- THE SECOND FORM. 'bulk': how many values and letters a reading holds, each counted each time it is reached (what is shared counts as often as it is met; a slice's spare places count too). A statement '..UptoSaid' is the law's where the arguments, and the package variables that the reading takes, are together of bulk at most 1048576: NARROWER than '..Said'. Prove '..Said' where nothing that the law and all that it calls make is longer than what came in: it says more and counts as full. Else prove '..UptoSaid'. A law counts once. -/
mutual
def uptoBulk {H : Type} : DataW H → Nat
  | .lit (.string bytes) => bytes.length + 1
  | .lit _ => 1
  | .nil => 1
  | .ptr d => uptoBulk d + 1
  | .slice elems spare => uptoBulkAll elems + uptoBulkAll spare + 1
  | .agg parts => uptoBulkAll parts + 1
  | .iface _ d => uptoBulk d + 1
  | .map entries => uptoBulkEntries entries + 1
  | .held _ => 1
def uptoBulkAll {H : Type} : List (DataW H) → Nat
  | [] => 0
  | d :: r => uptoBulk d + uptoBulkAll r
def uptoBulkEntries {H : Type} : List (Lit × DataW H) → Nat
  | [] => 0
  | x :: r => uptoBulkEntry x + uptoBulkEntries r
def uptoBulkEntry {H : Type} : Lit × DataW H → Nat
  | (.string bytes, d) => bytes.length + uptoBulk d + 1
  | (_, d) => uptoBulk d + 1
 end
def uptoSmall : (H : Type) → List (DataW H) → Bool := fun _ ds => decide (uptoBulkAll ds ≤ 1048576)
def OpenSpec.upto (s : _root_.Go.ChangeSpec) : _root_.Go.OpenSpec := { _root_.Go.OpenSpec.ofChange s with cond := some uptoSmall }

/-- 'horologelaw19.OscAll', WHERE WHAT IT READS IS OF BULK AT MOST 1048576: true; the input reads as it did. -/
def oscAllUptoRow : OpenClaim := { program := "ytdkdckfkhhbfnaa", sum := "703e5d12095cc51fb1be4ce390a8b83ec1e20222761434495b1558f2811a6774", func := "horologe/horologelaw19.OscAll", spec := "oscAll", unfollowed := true, recurses := true, apart := false, narrowed := true }
def OscAllUptoSaid : Prop := oscAllUptoRow.holds Try.pinned (OpenSpec.upto oscAllSpec)

/-- 'horologelaw19.OscBound', WHERE WHAT IT READS IS OF BULK AT MOST 1048576: true; the input reads as it did. -/
def oscBoundUptoRow : OpenClaim := { program := "ytdkdckfkhhbfnaa", sum := "703e5d12095cc51fb1be4ce390a8b83ec1e20222761434495b1558f2811a6774", func := "horologe/horologelaw19.OscBound", spec := "oscBound", unfollowed := true, recurses := true, apart := false, narrowed := true }
def OscBoundUptoSaid : Prop := oscBoundUptoRow.holds Try.pinned (OpenSpec.upto oscBoundSpec)

/-- 'horologelaw19.OscTwo', WHERE WHAT IT READS IS OF BULK AT MOST 1048576: true; the input reads as it did. -/
def oscTwoUptoRow : OpenClaim := { program := "ytdkdckfkhhbfnaa", sum := "703e5d12095cc51fb1be4ce390a8b83ec1e20222761434495b1558f2811a6774", func := "horologe/horologelaw19.OscTwo", spec := "oscTwo", unfollowed := true, recurses := true, apart := false, narrowed := true }
def OscTwoUptoSaid : Prop := oscTwoUptoRow.holds Try.pinned (OpenSpec.upto oscTwoSpec)

/-- 'horologelaw19.OscGain', WHERE WHAT IT READS IS OF BULK AT MOST 1048576: true; the input reads as it did. -/
def oscGainUptoRow : OpenClaim := { program := "ytdkdckfkhhbfnaa", sum := "703e5d12095cc51fb1be4ce390a8b83ec1e20222761434495b1558f2811a6774", func := "horologe/horologelaw19.OscGain", spec := "oscGain", unfollowed := true, recurses := true, apart := false, narrowed := true }
def OscGainUptoSaid : Prop := oscGainUptoRow.holds Try.pinned (OpenSpec.upto oscGainSpec)

/-- 'horologelaw19.OscEven', WHERE WHAT IT READS IS OF BULK AT MOST 1048576: true; the input reads as it did. -/
def oscEvenUptoRow : OpenClaim := { program := "ytdkdckfkhhbfnaa", sum := "703e5d12095cc51fb1be4ce390a8b83ec1e20222761434495b1558f2811a6774", func := "horologe/horologelaw19.OscEven", spec := "oscEven", unfollowed := true, recurses := true, apart := false, narrowed := true }
def OscEvenUptoSaid : Prop := oscEvenUptoRow.holds Try.pinned (OpenSpec.upto oscEvenSpec)

/-- 'horologelaw19.OscRefuses', WHERE WHAT IT READS IS OF BULK AT MOST 1048576: true; the input reads as it did. -/
def oscRefusesUptoRow : OpenClaim := { program := "ytdkdckfkhhbfnaa", sum := "703e5d12095cc51fb1be4ce390a8b83ec1e20222761434495b1558f2811a6774", func := "horologe/horologelaw19.OscRefuses", spec := "oscRefuses", unfollowed := true, recurses := true, apart := false, narrowed := true }
def OscRefusesUptoSaid : Prop := oscRefusesUptoRow.holds Try.pinned (OpenSpec.upto oscRefusesSpec)

end Rows
end Go.Proofs.Ytdkdckfkhhbfnaa
