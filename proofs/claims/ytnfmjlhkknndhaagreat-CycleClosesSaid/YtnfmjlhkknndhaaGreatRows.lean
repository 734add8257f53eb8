/-
  No cell of these rows narrows 'for every input' (looked for: loops, veiled, ifaces, maps, wideKeys, modest, calm, conditions, laid).
  DERIVED. THE GIVEN ROWS OF THIS SEAT. 9 by the template 'for every input the law returns true; each argument reads behind the call as it read before'; 0 by the template 'total and deterministic' (their statements: YtnfmjlhkknndhaaGreatTotals.lean).
  GIVEN WITH THE SEED: the statements are not yours to turn. If you find one false, say at which input.
  Laid BY PROGRAM, IN A SANDBOX (cutbox-rows.mjs): the forced cells as the released guide's own fill.sh prints them over the translation 6b9cd296001b5926… (all of the seat's roots in one cut). By AI agents, Wed Nov 11 2026. No macro, syntax, notation, axiom, sorry.
-/
import Derived.Test.YtnfmjlhkknndhaaGreatChecked
import GoSem.Claim
import GoSem.ClaimJoined
import GoSem.ClaimMapViews
import Derived.JoinedTies
import Derived.KernelRfl
namespace Go.Proofs.YtnfmjlhkknndhaaGreat
/- THE CELL 'sum', in the pinned program and in every row, IS THE sha256 OF THE DUMP (.gsa) THAT YtnfmjlhkknndhaaGreatProg.lean LOADS. Nothing in Lean hashes anything: it is a label: what it is worth is what the hold of that sum in a sandbox is worth. -/
noncomputable def Tryz.pinned : Pinned := { name := "ytnfmjlhkknndhaagreat", sum := "6b9cd296001b5926ebdb6724f026e0f6a7368c16ee839e02329adcf1c2e72cec", checked := Tryz.checked }
namespace Rows
def none {H : Type} : Left H := { results := [], args := [] }

/-- 'algoristlaw17.CycleMatchesReference': WHATEVER THE INPUT: true; the input reads as it did. -/
def cycleMatchesReferenceSpec : ChangeSpec := { name := "cycleMatchesReference", fn := fun _ => fun
  | [d1, d2, d3] => { results := [.lit (.bool true)], args := [d1, d2, d3] }
  | _ => none }
def cycleMatchesReferenceRow : OpenClaim := { program := "ytnfmjlhkknndhaagreat", sum := "6b9cd296001b5926ebdb6724f026e0f6a7368c16ee839e02329adcf1c2e72cec", func := "algorist/algoristlaw17.CycleMatchesReference", spec := "cycleMatchesReference", unfollowed := true, recurses := true, named := ["math/bits.overflowError"], plainKeys := false, apart := false }
def CycleMatchesReferenceSaid : Prop := cycleMatchesReferenceRow.holds Tryz.pinned (OpenSpec.ofChange cycleMatchesReferenceSpec)

/-- ITS FALSE NEIGHBOUR: 'it returns false'. Refute it at one input. -/
def cycleMatchesReferenceWrong : ChangeSpec := { name := "cycleMatchesReference", fn := fun _ => fun
  | [d1, d2, d3] => { results := [.lit (.bool false)], args := [d1, d2, d3] }
  | _ => none }
def CycleMatchesReferenceWrongFalsely : Prop := cycleMatchesReferenceRow.holds Tryz.pinned (OpenSpec.ofChange cycleMatchesReferenceWrong)

/-- 'algoristlaw17.CycleLists': WHATEVER THE INPUT: true; the input reads as it did. -/
def cycleListsSpec : ChangeSpec := { name := "cycleLists", fn := fun _ => fun
  | [d] => { results := [.lit (.bool true)], args := [d] }
  | _ => none }
def cycleListsRow : OpenClaim := { program := "ytnfmjlhkknndhaagreat", sum := "6b9cd296001b5926ebdb6724f026e0f6a7368c16ee839e02329adcf1c2e72cec", func := "algorist/algoristlaw17.CycleLists", spec := "cycleLists", unfollowed := true, recurses := true, named := ["math/bits.overflowError"], plainKeys := false, apart := false }
def CycleListsSaid : Prop := cycleListsRow.holds Tryz.pinned (OpenSpec.ofChange cycleListsSpec)

/-- ITS FALSE NEIGHBOUR: 'it returns false'. Refute it at one input. -/
def cycleListsWrong : ChangeSpec := { name := "cycleLists", fn := fun _ => fun
  | [d] => { results := [.lit (.bool false)], args := [d] }
  | _ => none }
def CycleListsWrongFalsely : Prop := cycleListsRow.holds Tryz.pinned (OpenSpec.ofChange cycleListsWrong)

/-- 'algoristlaw17.CycleCloses': WHATEVER THE INPUT: true; the input reads as it did. -/
def cycleClosesSpec : ChangeSpec := { name := "cycleCloses", fn := fun _ => fun
  | [d1, d2] => { results := [.lit (.bool true)], args := [d1, d2] }
  | _ => none }
def cycleClosesRow : OpenClaim := { program := "ytnfmjlhkknndhaagreat", sum := "6b9cd296001b5926ebdb6724f026e0f6a7368c16ee839e02329adcf1c2e72cec", func := "algorist/algoristlaw17.CycleCloses", spec := "cycleCloses", unfollowed := true, recurses := true, named := ["math/bits.overflowError"], plainKeys := false, apart := false }
def CycleClosesSaid : Prop := cycleClosesRow.holds Tryz.pinned (OpenSpec.ofChange cycleClosesSpec)

/-- ITS FALSE NEIGHBOUR: 'it returns false'. Refute it at one input. -/
def cycleClosesWrong : ChangeSpec := { name := "cycleCloses", fn := fun _ => fun
  | [d1, d2] => { results := [.lit (.bool false)], args := [d1, d2] }
  | _ => none }
def CycleClosesWrongFalsely : Prop := cycleClosesRow.holds Tryz.pinned (OpenSpec.ofChange cycleClosesWrong)

/-- 'algoristlaw17.CyclePartition': WHATEVER THE INPUT: true; the input reads as it did. -/
def cyclePartitionSpec : ChangeSpec := { name := "cyclePartition", fn := fun _ => fun
  | [d] => { results := [.lit (.bool true)], args := [d] }
  | _ => none }
def cyclePartitionRow : OpenClaim := { program := "ytnfmjlhkknndhaagreat", sum := "6b9cd296001b5926ebdb6724f026e0f6a7368c16ee839e02329adcf1c2e72cec", func := "algorist/algoristlaw17.CyclePartition", spec := "cyclePartition", unfollowed := true, recurses := true, named := ["math/bits.overflowError"], plainKeys := false, apart := false }
def CyclePartitionSaid : Prop := cyclePartitionRow.holds Tryz.pinned (OpenSpec.ofChange cyclePartitionSpec)

/-- ITS FALSE NEIGHBOUR: 'it returns false'. Refute it at one input. -/
def cyclePartitionWrong : ChangeSpec := { name := "cyclePartition", fn := fun _ => fun
  | [d] => { results := [.lit (.bool false)], args := [d] }
  | _ => none }
def CyclePartitionWrongFalsely : Prop := cyclePartitionRow.holds Tryz.pinned (OpenSpec.ofChange cyclePartitionWrong)

/-- 'algoristlaw17.CycleNeighbors': WHATEVER THE INPUT: true; the input reads as it did. -/
def cycleNeighborsSpec : ChangeSpec := { name := "cycleNeighbors", fn := fun _ => fun
  | [d] => { results := [.lit (.bool true)], args := [d] }
  | _ => none }
def cycleNeighborsRow : OpenClaim := { program := "ytnfmjlhkknndhaagreat", sum := "6b9cd296001b5926ebdb6724f026e0f6a7368c16ee839e02329adcf1c2e72cec", func := "algorist/algoristlaw17.CycleNeighbors", spec := "cycleNeighbors", unfollowed := true, recurses := true, named := ["math/bits.overflowError"], plainKeys := false, apart := false }
def CycleNeighborsSaid : Prop := cycleNeighborsRow.holds Tryz.pinned (OpenSpec.ofChange cycleNeighborsSpec)

/-- ITS FALSE NEIGHBOUR: 'it returns false'. Refute it at one input. -/
def cycleNeighborsWrong : ChangeSpec := { name := "cycleNeighbors", fn := fun _ => fun
  | [d] => { results := [.lit (.bool false)], args := [d] }
  | _ => none }
def CycleNeighborsWrongFalsely : Prop := cycleNeighborsRow.holds Tryz.pinned (OpenSpec.ofChange cycleNeighborsWrong)

/-- 'algoristlaw17.CycleReduces': WHATEVER THE INPUT: true; the input reads as it did. -/
def cycleReducesSpec : ChangeSpec := { name := "cycleReduces", fn := fun _ => fun
  | [d1, d2] => { results := [.lit (.bool true)], args := [d1, d2] }
  | _ => none }
def cycleReducesRow : OpenClaim := { program := "ytnfmjlhkknndhaagreat", sum := "6b9cd296001b5926ebdb6724f026e0f6a7368c16ee839e02329adcf1c2e72cec", func := "algorist/algoristlaw17.CycleReduces", spec := "cycleReduces", unfollowed := true, recurses := true, named := ["math/bits.overflowError"], plainKeys := false, apart := false }
def CycleReducesSaid : Prop := cycleReducesRow.holds Tryz.pinned (OpenSpec.ofChange cycleReducesSpec)

/-- ITS FALSE NEIGHBOUR: 'it returns false'. Refute it at one input. -/
def cycleReducesWrong : ChangeSpec := { name := "cycleReduces", fn := fun _ => fun
  | [d1, d2] => { results := [.lit (.bool false)], args := [d1, d2] }
  | _ => none }
def CycleReducesWrongFalsely : Prop := cycleReducesRow.holds Tryz.pinned (OpenSpec.ofChange cycleReducesWrong)

/-- 'algoristlaw17.CycleSame': WHATEVER THE INPUT: true; the input reads as it did. -/
def cycleSameSpec : ChangeSpec := { name := "cycleSame", fn := fun _ => fun
  | [d1, d2] => { results := [.lit (.bool true)], args := [d1, d2] }
  | _ => none }
def cycleSameRow : OpenClaim := { program := "ytnfmjlhkknndhaagreat", sum := "6b9cd296001b5926ebdb6724f026e0f6a7368c16ee839e02329adcf1c2e72cec", func := "algorist/algoristlaw17.CycleSame", spec := "cycleSame", unfollowed := true, recurses := true, named := ["math/bits.overflowError"], plainKeys := false, apart := false }
def CycleSameSaid : Prop := cycleSameRow.holds Tryz.pinned (OpenSpec.ofChange cycleSameSpec)

/-- ITS FALSE NEIGHBOUR: 'it returns false'. Refute it at one input. -/
def cycleSameWrong : ChangeSpec := { name := "cycleSame", fn := fun _ => fun
  | [d1, d2] => { results := [.lit (.bool false)], args := [d1, d2] }
  | _ => none }
def CycleSameWrongFalsely : Prop := cycleSameRow.holds Tryz.pinned (OpenSpec.ofChange cycleSameWrong)

/-- 'algoristlaw17.CycleSmall': WHATEVER THE INPUT: true; the input reads as it did. -/
def cycleSmallSpec : ChangeSpec := { name := "cycleSmall", fn := fun _ => fun
  | [d1, d2] => { results := [.lit (.bool true)], args := [d1, d2] }
  | _ => none }
def cycleSmallRow : OpenClaim := { program := "ytnfmjlhkknndhaagreat", sum := "6b9cd296001b5926ebdb6724f026e0f6a7368c16ee839e02329adcf1c2e72cec", func := "algorist/algoristlaw17.CycleSmall", spec := "cycleSmall", unfollowed := true, recurses := true, named := ["math/bits.overflowError"], plainKeys := false, apart := false }
def CycleSmallSaid : Prop := cycleSmallRow.holds Tryz.pinned (OpenSpec.ofChange cycleSmallSpec)

/-- ITS FALSE NEIGHBOUR: 'it returns false'. Refute it at one input. -/
def cycleSmallWrong : ChangeSpec := { name := "cycleSmall", fn := fun _ => fun
  | [d1, d2] => { results := [.lit (.bool false)], args := [d1, d2] }
  | _ => none }
def CycleSmallWrongFalsely : Prop := cycleSmallRow.holds Tryz.pinned (OpenSpec.ofChange cycleSmallWrong)

/-- 'algoristlaw17.CycleRefuses': WHATEVER THE INPUT: true; the input reads as it did. -/
def cycleRefusesSpec : ChangeSpec := { name := "cycleRefuses", fn := fun _ => fun
  | [d1, d2] => { results := [.lit (.bool true)], args := [d1, d2] }
  | _ => none }
def cycleRefusesRow : OpenClaim := { program := "ytnfmjlhkknndhaagreat", sum := "6b9cd296001b5926ebdb6724f026e0f6a7368c16ee839e02329adcf1c2e72cec", func := "algorist/algoristlaw17.CycleRefuses", spec := "cycleRefuses", unfollowed := true, recurses := true, named := ["math/bits.overflowError"], plainKeys := false, apart := false }
def CycleRefusesSaid : Prop := cycleRefusesRow.holds Tryz.pinned (OpenSpec.ofChange cycleRefusesSpec)

/-- ITS FALSE NEIGHBOUR: 'it returns false'. Refute it at one input. -/
def cycleRefusesWrong : ChangeSpec := { name := "cycleRefuses", fn := fun _ => fun
  | [d1, d2] => { results := [.lit (.bool false)], args := [d1, d2] }
  | _ => none }
def CycleRefusesWrongFalsely : Prop := cycleRefusesRow.holds Tryz.pinned (OpenSpec.ofChange cycleRefusesWrong)

/- THE SECOND FORM. 'bulk': how many values and letters a reading holds, each counted each time it is reached (what is shared counts as often as it is met; a slice's spare places count too). A statement '..UptoSaid' is the law's where the arguments, and the package variables that the reading takes, are together of bulk at most 1048576: NARROWER than '..Said'. Prove '..Said' where nothing that the law and all that it calls make is longer than what came in: it says more and counts as full. Else prove '..UptoSaid'. A law counts once. -/
mutual
def uptoBulk {H : Type} : DataW H → Nat
  | .lit (.string bytes) => bytes.length + 1
  | .lit _ => 1
  | .nil => 1
  | .ptr d => uptoBulk d + 1
  | .slice elems spare => uptoBulkAll elems + uptoBulkAll spare + 1
  | .agg parts => uptoBulkAll parts + 1
  | .iface _ d => uptoBulk d + 1
  | .map entries => uptoBulkEntries entries + 1
  | .held _ => 1
def uptoBulkAll {H : Type} : List (DataW H) → Nat
  | [] => 0
  | d :: r => uptoBulk d + uptoBulkAll r
def uptoBulkEntries {H : Type} : List (Lit × DataW H) → Nat
  | [] => 0
  | x :: r => uptoBulkEntry x + uptoBulkEntries r
def uptoBulkEntry {H : Type} : Lit × DataW H → Nat
  | (.string bytes, d) => bytes.length + uptoBulk d + 1
  | (_, d) => uptoBulk d + 1
 end
def uptoSmall : (H : Type) → List (DataW H) → Bool := fun _ ds => decide (uptoBulkAll ds ≤ 1048576)
def OpenSpec.upto (s : _root_.Go.ChangeSpec) : _root_.Go.OpenSpec := { _root_.Go.OpenSpec.ofChange s with cond := some uptoSmall }

/-- 'algoristlaw17.CycleMatchesReference', WHERE WHAT IT READS IS OF BULK AT MOST 1048576: true; the input reads as it did. -/
def cycleMatchesReferenceUptoRow : OpenClaim := { program := "ytnfmjlhkknndhaagreat", sum := "6b9cd296001b5926ebdb6724f026e0f6a7368c16ee839e02329adcf1c2e72cec", func := "algorist/algoristlaw17.CycleMatchesReference", spec := "cycleMatchesReference", unfollowed := true, recurses := true, named := ["math/bits.overflowError"], plainKeys := false, apart := false, narrowed := true }
def CycleMatchesReferenceUptoSaid : Prop := cycleMatchesReferenceUptoRow.holds Tryz.pinned (OpenSpec.upto cycleMatchesReferenceSpec)

/-- 'algoristlaw17.CycleLists', WHERE WHAT IT READS IS OF BULK AT MOST 1048576: true; the input reads as it did. -/
def cycleListsUptoRow : OpenClaim := { program := "ytnfmjlhkknndhaagreat", sum := "6b9cd296001b5926ebdb6724f026e0f6a7368c16ee839e02329adcf1c2e72cec", func := "algorist/algoristlaw17.CycleLists", spec := "cycleLists", unfollowed := true, recurses := true, named := ["math/bits.overflowError"], plainKeys := false, apart := false, narrowed := true }
def CycleListsUptoSaid : Prop := cycleListsUptoRow.holds Tryz.pinned (OpenSpec.upto cycleListsSpec)

/-- 'algoristlaw17.CycleCloses', WHERE WHAT IT READS IS OF BULK AT MOST 1048576: true; the input reads as it did. -/
def cycleClosesUptoRow : OpenClaim := { program := "ytnfmjlhkknndhaagreat", sum := "6b9cd296001b5926ebdb6724f026e0f6a7368c16ee839e02329adcf1c2e72cec", func := "algorist/algoristlaw17.CycleCloses", spec := "cycleCloses", unfollowed := true, recurses := true, named := ["math/bits.overflowError"], plainKeys := false, apart := false, narrowed := true }
def CycleClosesUptoSaid : Prop := cycleClosesUptoRow.holds Tryz.pinned (OpenSpec.upto cycleClosesSpec)

/-- 'algoristlaw17.CyclePartition', WHERE WHAT IT READS IS OF BULK AT MOST 1048576: true; the input reads as it did. -/
def cyclePartitionUptoRow : OpenClaim := { program := "ytnfmjlhkknndhaagreat", sum := "6b9cd296001b5926ebdb6724f026e0f6a7368c16ee839e02329adcf1c2e72cec", func := "algorist/algoristlaw17.CyclePartition", spec := "cyclePartition", unfollowed := true, recurses := true, named := ["math/bits.overflowError"], plainKeys := false, apart := false, narrowed := true }
def CyclePartitionUptoSaid : Prop := cyclePartitionUptoRow.holds Tryz.pinned (OpenSpec.upto cyclePartitionSpec)

/-- 'algoristlaw17.CycleNeighbors', WHERE WHAT IT READS IS OF BULK AT MOST 1048576: true; the input reads as it did. -/
def cycleNeighborsUptoRow : OpenClaim := { program := "ytnfmjlhkknndhaagreat", sum := "6b9cd296001b5926ebdb6724f026e0f6a7368c16ee839e02329adcf1c2e72cec", func := "algorist/algoristlaw17.CycleNeighbors", spec := "cycleNeighbors", unfollowed := true, recurses := true, named := ["math/bits.overflowError"], plainKeys := false, apart := false, narrowed := true }
def CycleNeighborsUptoSaid : Prop := cycleNeighborsUptoRow.holds Tryz.pinned (OpenSpec.upto cycleNeighborsSpec)

/-- 'algoristlaw17.CycleReduces', WHERE WHAT IT READS IS OF BULK AT MOST 1048576: true; the input reads as it did. -/
def cycleReducesUptoRow : OpenClaim := { program := "ytnfmjlhkknndhaagreat", sum := "6b9cd296001b5926ebdb6724f026e0f6a7368c16ee839e02329adcf1c2e72cec", func := "algorist/algoristlaw17.CycleReduces", spec := "cycleReduces", unfollowed := true, recurses := true, named := ["math/bits.overflowError"], plainKeys := false, apart := false, narrowed := true }
def CycleReducesUptoSaid : Prop := cycleReducesUptoRow.holds Tryz.pinned (OpenSpec.upto cycleReducesSpec)

/-- 'algoristlaw17.CycleSame', WHERE WHAT IT READS IS OF BULK AT MOST 1048576: true; the input reads as it did. -/
def cycleSameUptoRow : OpenClaim := { program := "ytnfmjlhkknndhaagreat", sum := "6b9cd296001b5926ebdb6724f026e0f6a7368c16ee839e02329adcf1c2e72cec", func := "algorist/algoristlaw17.CycleSame", spec := "cycleSame", unfollowed := true, recurses := true, named := ["math/bits.overflowError"], plainKeys := false, apart := false, narrowed := true }
def CycleSameUptoSaid : Prop := cycleSameUptoRow.holds Tryz.pinned (OpenSpec.upto cycleSameSpec)

/-- 'algoristlaw17.CycleSmall', WHERE WHAT IT READS IS OF BULK AT MOST 1048576: true; the input reads as it did. -/
def cycleSmallUptoRow : OpenClaim := { program := "ytnfmjlhkknndhaagreat", sum := "6b9cd296001b5926ebdb6724f026e0f6a7368c16ee839e02329adcf1c2e72cec", func := "algorist/algoristlaw17.CycleSmall", spec := "cycleSmall", unfollowed := true, recurses := true, named := ["math/bits.overflowError"], plainKeys := false, apart := false, narrowed := true }
def CycleSmallUptoSaid : Prop := cycleSmallUptoRow.holds Tryz.pinned (OpenSpec.upto cycleSmallSpec)

/-- 'algoristlaw17.CycleRefuses', WHERE WHAT IT READS IS OF BULK AT MOST 1048576: true; the input reads as it did. -/
def cycleRefusesUptoRow : OpenClaim := { program := "ytnfmjlhkknndhaagreat", sum := "6b9cd296001b5926ebdb6724f026e0f6a7368c16ee839e02329adcf1c2e72cec", func := "algorist/algoristlaw17.CycleRefuses", spec := "cycleRefuses", unfollowed := true, recurses := true, named := ["math/bits.overflowError"], plainKeys := false, apart := false, narrowed := true }
def CycleRefusesUptoSaid : Prop := cycleRefusesUptoRow.holds Tryz.pinned (OpenSpec.upto cycleRefusesSpec)

end Rows
end Go.Proofs.YtnfmjlhkknndhaaGreat
