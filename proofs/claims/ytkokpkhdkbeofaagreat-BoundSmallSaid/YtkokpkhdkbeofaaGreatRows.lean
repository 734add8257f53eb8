/-
  No cell of these rows narrows 'for every input' (looked for: loops, veiled, ifaces, maps, wideKeys, modest, calm, conditions, laid).
  DERIVED. THE GIVEN ROWS OF THIS SEAT. 6 by the template 'for every input the law returns true; each argument reads behind the call as it read before'; 0 by the template 'total and deterministic' (their statements: YtkokpkhdkbeofaaGreatTotals.lean).
  GIVEN WITH THE SEED: the statements are not yours to turn. If you find one false, say at which input.
  Laid BY PROGRAM, IN A SANDBOX (cutbox-rows.mjs): the forced cells as the released guide's own fill.sh prints them over the translation 26de5d05f19cb080… (all of the seat's roots in one cut). By AI agents, Wed Nov 11 2026. No macro, syntax, notation, axiom, sorry.
-/
import Derived.Test.YtkokpkhdkbeofaaGreatChecked
import GoSem.Claim
import GoSem.ClaimJoined
import GoSem.ClaimMapViews
import Derived.JoinedTies
import Derived.KernelRfl
namespace Go.Proofs.YtkokpkhdkbeofaaGreat
/- THE CELL 'sum', in the pinned program and in every row, IS THE sha256 OF THE DUMP (.gsa) THAT YtkokpkhdkbeofaaGreatProg.lean LOADS. Nothing in Lean hashes anything: it is a label: what it is worth is what the hold of that sum in a sandbox is worth. -/
noncomputable def Tryz.pinned : Pinned := { name := "ytkokpkhdkbeofaagreat", sum := "26de5d05f19cb080ceb9d01db7fa37c810110b171d87c07e5adb5fe25d89d200", checked := Tryz.checked }
namespace Rows
def none {H : Type} : Left H := { results := [], args := [] }

/-- 'algoristlaw16.BoundMatchesReference': WHATEVER THE INPUT: true; the input reads as it did. -/
def boundMatchesReferenceSpec : ChangeSpec := { name := "boundMatchesReference", fn := fun _ => fun
  | [d1, d2, d3] => { results := [.lit (.bool true)], args := [d1, d2, d3] }
  | _ => none }
def boundMatchesReferenceRow : OpenClaim := { program := "ytkokpkhdkbeofaagreat", sum := "26de5d05f19cb080ceb9d01db7fa37c810110b171d87c07e5adb5fe25d89d200", func := "algorist/algoristlaw16.BoundMatchesReference", spec := "boundMatchesReference", unfollowed := true, recurses := true, named := ["math/bits.overflowError"], apart := false }
def BoundMatchesReferenceSaid : Prop := boundMatchesReferenceRow.holds Tryz.pinned (OpenSpec.ofChange boundMatchesReferenceSpec)

/-- ITS FALSE NEIGHBOUR: 'it returns false'. Refute it at one input. -/
def boundMatchesReferenceWrong : ChangeSpec := { name := "boundMatchesReference", fn := fun _ => fun
  | [d1, d2, d3] => { results := [.lit (.bool false)], args := [d1, d2, d3] }
  | _ => none }
def BoundMatchesReferenceWrongFalsely : Prop := boundMatchesReferenceRow.holds Tryz.pinned (OpenSpec.ofChange boundMatchesReferenceWrong)

/-- 'algoristlaw16.BoundRoots': WHATEVER THE INPUT: true; the input reads as it did. -/
def boundRootsSpec : ChangeSpec := { name := "boundRoots", fn := fun _ => fun
  | [d1, d2] => { results := [.lit (.bool true)], args := [d1, d2] }
  | _ => none }
def boundRootsRow : OpenClaim := { program := "ytkokpkhdkbeofaagreat", sum := "26de5d05f19cb080ceb9d01db7fa37c810110b171d87c07e5adb5fe25d89d200", func := "algorist/algoristlaw16.BoundRoots", spec := "boundRoots", unfollowed := true, recurses := true, named := ["math/bits.overflowError"], apart := false }
def BoundRootsSaid : Prop := boundRootsRow.holds Tryz.pinned (OpenSpec.ofChange boundRootsSpec)

/-- ITS FALSE NEIGHBOUR: 'it returns false'. Refute it at one input. -/
def boundRootsWrong : ChangeSpec := { name := "boundRoots", fn := fun _ => fun
  | [d1, d2] => { results := [.lit (.bool false)], args := [d1, d2] }
  | _ => none }
def BoundRootsWrongFalsely : Prop := boundRootsRow.holds Tryz.pinned (OpenSpec.ofChange boundRootsWrong)

/-- 'algoristlaw16.BoundNested': WHATEVER THE INPUT: true; the input reads as it did. -/
def boundNestedSpec : ChangeSpec := { name := "boundNested", fn := fun _ => fun
  | [d1, d2, d3] => { results := [.lit (.bool true)], args := [d1, d2, d3] }
  | _ => none }
def boundNestedRow : OpenClaim := { program := "ytkokpkhdkbeofaagreat", sum := "26de5d05f19cb080ceb9d01db7fa37c810110b171d87c07e5adb5fe25d89d200", func := "algorist/algoristlaw16.BoundNested", spec := "boundNested", unfollowed := true, recurses := true, named := ["math/bits.overflowError"], apart := false }
def BoundNestedSaid : Prop := boundNestedRow.holds Tryz.pinned (OpenSpec.ofChange boundNestedSpec)

/-- ITS FALSE NEIGHBOUR: 'it returns false'. Refute it at one input. -/
def boundNestedWrong : ChangeSpec := { name := "boundNested", fn := fun _ => fun
  | [d1, d2, d3] => { results := [.lit (.bool false)], args := [d1, d2, d3] }
  | _ => none }
def BoundNestedWrongFalsely : Prop := boundNestedRow.holds Tryz.pinned (OpenSpec.ofChange boundNestedWrong)

/-- 'algoristlaw16.BoundLogs': WHATEVER THE INPUT: true; the input reads as it did. -/
def boundLogsSpec : ChangeSpec := { name := "boundLogs", fn := fun _ => fun
  | [d1, d2, d3] => { results := [.lit (.bool true)], args := [d1, d2, d3] }
  | _ => none }
def boundLogsRow : OpenClaim := { program := "ytkokpkhdkbeofaagreat", sum := "26de5d05f19cb080ceb9d01db7fa37c810110b171d87c07e5adb5fe25d89d200", func := "algorist/algoristlaw16.BoundLogs", spec := "boundLogs", unfollowed := true, recurses := true, named := ["math/bits.overflowError"], apart := false }
def BoundLogsSaid : Prop := boundLogsRow.holds Tryz.pinned (OpenSpec.ofChange boundLogsSpec)

/-- ITS FALSE NEIGHBOUR: 'it returns false'. Refute it at one input. -/
def boundLogsWrong : ChangeSpec := { name := "boundLogs", fn := fun _ => fun
  | [d1, d2, d3] => { results := [.lit (.bool false)], args := [d1, d2, d3] }
  | _ => none }
def BoundLogsWrongFalsely : Prop := boundLogsRow.holds Tryz.pinned (OpenSpec.ofChange boundLogsWrong)

/-- 'algoristlaw16.BoundSmall': WHATEVER THE INPUT: true; the input reads as it did. -/
def boundSmallSpec : ChangeSpec := { name := "boundSmall", fn := fun _ => fun
  | [d1, d2] => { results := [.lit (.bool true)], args := [d1, d2] }
  | _ => none }
def boundSmallRow : OpenClaim := { program := "ytkokpkhdkbeofaagreat", sum := "26de5d05f19cb080ceb9d01db7fa37c810110b171d87c07e5adb5fe25d89d200", func := "algorist/algoristlaw16.BoundSmall", spec := "boundSmall", unfollowed := true, recurses := true, named := ["math/bits.overflowError"], apart := false }
def BoundSmallSaid : Prop := boundSmallRow.holds Tryz.pinned (OpenSpec.ofChange boundSmallSpec)

/-- ITS FALSE NEIGHBOUR: 'it returns false'. Refute it at one input. -/
def boundSmallWrong : ChangeSpec := { name := "boundSmall", fn := fun _ => fun
  | [d1, d2] => { results := [.lit (.bool false)], args := [d1, d2] }
  | _ => none }
def BoundSmallWrongFalsely : Prop := boundSmallRow.holds Tryz.pinned (OpenSpec.ofChange boundSmallWrong)

/-- 'algoristlaw16.BoundQuads': WHATEVER THE INPUT: true; the input reads as it did. -/
def boundQuadsSpec : ChangeSpec := { name := "boundQuads", fn := fun _ => fun
  | [d1, d2, d3] => { results := [.lit (.bool true)], args := [d1, d2, d3] }
  | _ => none }
def boundQuadsRow : OpenClaim := { program := "ytkokpkhdkbeofaagreat", sum := "26de5d05f19cb080ceb9d01db7fa37c810110b171d87c07e5adb5fe25d89d200", func := "algorist/algoristlaw16.BoundQuads", spec := "boundQuads", unfollowed := true, recurses := true, named := ["math/bits.overflowError"], apart := false }
def BoundQuadsSaid : Prop := boundQuadsRow.holds Tryz.pinned (OpenSpec.ofChange boundQuadsSpec)

/-- ITS FALSE NEIGHBOUR: 'it returns false'. Refute it at one input. -/
def boundQuadsWrong : ChangeSpec := { name := "boundQuads", fn := fun _ => fun
  | [d1, d2, d3] => { results := [.lit (.bool false)], args := [d1, d2, d3] }
  | _ => none }
def BoundQuadsWrongFalsely : Prop := boundQuadsRow.holds Tryz.pinned (OpenSpec.ofChange boundQuadsWrong)

/- THE SECOND FORM. 'bulk': how many values and letters a reading holds, each counted each time it is reached (what is shared counts as often as it is met; a slice's spare places count too). A statement '..UptoSaid' is the law's where the arguments, and the package variables that the reading takes, are together of bulk at most 1048576: NARROWER than '..Said'. Prove '..Said' where nothing that the law and all that it calls make is longer than what came in: it says more and counts as full. Else prove '..UptoSaid'. A law counts once. -/
mutual
def uptoBulk {H : Type} : DataW H → Nat
  | .lit (.string bytes) => bytes.length + 1
  | .lit _ => 1
  | .nil => 1
  | .ptr d => uptoBulk d + 1
  | .slice elems spare => uptoBulkAll elems + uptoBulkAll spare + 1
  | .agg parts => uptoBulkAll parts + 1
  | .iface _ d => uptoBulk d + 1
  | .map entries => uptoBulkEntries entries + 1
  | .held _ => 1
def uptoBulkAll {H : Type} : List (DataW H) → Nat
  | [] => 0
  | d :: r => uptoBulk d + uptoBulkAll r
def uptoBulkEntries {H : Type} : List (Lit × DataW H) → Nat
  | [] => 0
  | x :: r => uptoBulkEntry x + uptoBulkEntries r
def uptoBulkEntry {H : Type} : Lit × DataW H → Nat
  | (.string bytes, d) => bytes.length + uptoBulk d + 1
  | (_, d) => uptoBulk d + 1
 end
def uptoSmall : (H : Type) → List (DataW H) → Bool := fun _ ds => decide (uptoBulkAll ds ≤ 1048576)
def OpenSpec.upto (s : _root_.Go.ChangeSpec) : _root_.Go.OpenSpec := { _root_.Go.OpenSpec.ofChange s with cond := some uptoSmall }

/-- 'algoristlaw16.BoundMatchesReference', WHERE WHAT IT READS IS OF BULK AT MOST 1048576: true; the input reads as it did. -/
def boundMatchesReferenceUptoRow : OpenClaim := { program := "ytkokpkhdkbeofaagreat", sum := "26de5d05f19cb080ceb9d01db7fa37c810110b171d87c07e5adb5fe25d89d200", func := "algorist/algoristlaw16.BoundMatchesReference", spec := "boundMatchesReference", unfollowed := true, recurses := true, named := ["math/bits.overflowError"], apart := false, narrowed := true }
def BoundMatchesReferenceUptoSaid : Prop := boundMatchesReferenceUptoRow.holds Tryz.pinned (OpenSpec.upto boundMatchesReferenceSpec)

/-- 'algoristlaw16.BoundRoots', WHERE WHAT IT READS IS OF BULK AT MOST 1048576: true; the input reads as it did. -/
def boundRootsUptoRow : OpenClaim := { program := "ytkokpkhdkbeofaagreat", sum := "26de5d05f19cb080ceb9d01db7fa37c810110b171d87c07e5adb5fe25d89d200", func := "algorist/algoristlaw16.BoundRoots", spec := "boundRoots", unfollowed := true, recurses := true, named := ["math/bits.overflowError"], apart := false, narrowed := true }
def BoundRootsUptoSaid : Prop := boundRootsUptoRow.holds Tryz.pinned (OpenSpec.upto boundRootsSpec)

/-- 'algoristlaw16.BoundNested', WHERE WHAT IT READS IS OF BULK AT MOST 1048576: true; the input reads as it did. -/
def boundNestedUptoRow : OpenClaim := { program := "ytkokpkhdkbeofaagreat", sum := "26de5d05f19cb080ceb9d01db7fa37c810110b171d87c07e5adb5fe25d89d200", func := "algorist/algoristlaw16.BoundNested", spec := "boundNested", unfollowed := true, recurses := true, named := ["math/bits.overflowError"], apart := false, narrowed := true }
def BoundNestedUptoSaid : Prop := boundNestedUptoRow.holds Tryz.pinned (OpenSpec.upto boundNestedSpec)

/-- 'algoristlaw16.BoundLogs', WHERE WHAT IT READS IS OF BULK AT MOST 1048576: true; the input reads as it did. -/
def boundLogsUptoRow : OpenClaim := { program := "ytkokpkhdkbeofaagreat", sum := "26de5d05f19cb080ceb9d01db7fa37c810110b171d87c07e5adb5fe25d89d200", func := "algorist/algoristlaw16.BoundLogs", spec := "boundLogs", unfollowed := true, recurses := true, named := ["math/bits.overflowError"], apart := false, narrowed := true }
def BoundLogsUptoSaid : Prop := boundLogsUptoRow.holds Tryz.pinned (OpenSpec.upto boundLogsSpec)

/-- 'algoristlaw16.BoundSmall', WHERE WHAT IT READS IS OF BULK AT MOST 1048576: true; the input reads as it did. -/
def boundSmallUptoRow : OpenClaim := { program := "ytkokpkhdkbeofaagreat", sum := "26de5d05f19cb080ceb9d01db7fa37c810110b171d87c07e5adb5fe25d89d200", func := "algorist/algoristlaw16.BoundSmall", spec := "boundSmall", unfollowed := true, recurses := true, named := ["math/bits.overflowError"], apart := false, narrowed := true }
def BoundSmallUptoSaid : Prop := boundSmallUptoRow.holds Tryz.pinned (OpenSpec.upto boundSmallSpec)

/-- 'algoristlaw16.BoundQuads', WHERE WHAT IT READS IS OF BULK AT MOST 1048576: true; the input reads as it did. -/
def boundQuadsUptoRow : OpenClaim := { program := "ytkokpkhdkbeofaagreat", sum := "26de5d05f19cb080ceb9d01db7fa37c810110b171d87c07e5adb5fe25d89d200", func := "algorist/algoristlaw16.BoundQuads", spec := "boundQuads", unfollowed := true, recurses := true, named := ["math/bits.overflowError"], apart := false, narrowed := true }
def BoundQuadsUptoSaid : Prop := boundQuadsUptoRow.holds Tryz.pinned (OpenSpec.upto boundQuadsSpec)

end Rows
end Go.Proofs.YtkokpkhdkbeofaaGreat
