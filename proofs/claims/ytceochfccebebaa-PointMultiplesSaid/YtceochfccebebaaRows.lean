/-
  No cell of these rows narrows 'for every input' (looked for: loops, veiled, ifaces, maps, wideKeys, modest, calm, conditions, laid).
  DERIVED. THE GIVEN ROWS OF THIS SEAT. 4 by the template 'for every input the law returns true; each argument reads behind the call as it read before'; 0 by the template 'total and deterministic' (their statements: YtceochfccebebaaTotals.lean).
  GIVEN WITH THE SEED: the statements are not yours to turn. If you find one false, say at which input.
  Laid BY PROGRAM, IN A SANDBOX (cutbox-rows.mjs): the forced cells as the released guide's own fill.sh prints them over the translation ca64d163001ffaf9… (all of the seat's roots in one cut). By AI agents, Wed Nov 11 2026. No macro, syntax, notation, axiom, sorry.
-/
import Derived.Test.YtceochfccebebaaChecked
import GoSem.Claim
import GoSem.ClaimJoined
import GoSem.ClaimMapViews
import Derived.JoinedTies
import Derived.KernelRfl
namespace Go.Proofs.Ytceochfccebebaa
/- THE CELL 'sum', in the pinned program and in every row, IS THE sha256 OF THE DUMP (.gsa) THAT YtceochfccebebaaProg.lean LOADS. Nothing in Lean hashes anything: it is a label: what it is worth is what the hold of that sum in a sandbox is worth. -/
noncomputable def Try.pinned : Pinned := { name := "ytceochfccebebaa", sum := "ca64d163001ffaf92f1beeb168579384bae1f2988a53884fd0d2a0ca727ba028", checked := Try.checked }
namespace Rows
def none {H : Type} : Left H := { results := [], args := [] }

/-- 'algoristlaw06.PointGroup': WHATEVER THE INPUT: true; the input reads as it did. -/
def pointGroupSpec : ChangeSpec := { name := "pointGroup", fn := fun _ => fun
  | [d1, d2] => { results := [.lit (.bool true)], args := [d1, d2] }
  | _ => none }
def pointGroupRow : OpenClaim := { program := "ytceochfccebebaa", sum := "ca64d163001ffaf92f1beeb168579384bae1f2988a53884fd0d2a0ca727ba028", func := "algorist/algoristlaw06.PointGroup", spec := "pointGroup", unfollowed := true, recurses := true, named := ["math/bits.overflowError"], apart := false }
def PointGroupSaid : Prop := pointGroupRow.holds Try.pinned (OpenSpec.ofChange pointGroupSpec)

/-- ITS FALSE NEIGHBOUR: 'it returns false'. Refute it at one input. -/
def pointGroupWrong : ChangeSpec := { name := "pointGroup", fn := fun _ => fun
  | [d1, d2] => { results := [.lit (.bool false)], args := [d1, d2] }
  | _ => none }
def PointGroupWrongFalsely : Prop := pointGroupRow.holds Try.pinned (OpenSpec.ofChange pointGroupWrong)

/-- 'algoristlaw06.PointMultiples': WHATEVER THE INPUT: true; the input reads as it did. -/
def pointMultiplesSpec : ChangeSpec := { name := "pointMultiples", fn := fun _ => fun
  | [d1, d2, d3] => { results := [.lit (.bool true)], args := [d1, d2, d3] }
  | _ => none }
def pointMultiplesRow : OpenClaim := { program := "ytceochfccebebaa", sum := "ca64d163001ffaf92f1beeb168579384bae1f2988a53884fd0d2a0ca727ba028", func := "algorist/algoristlaw06.PointMultiples", spec := "pointMultiples", unfollowed := true, recurses := true, named := ["math/bits.overflowError"], apart := false }
def PointMultiplesSaid : Prop := pointMultiplesRow.holds Try.pinned (OpenSpec.ofChange pointMultiplesSpec)

/-- ITS FALSE NEIGHBOUR: 'it returns false'. Refute it at one input. -/
def pointMultiplesWrong : ChangeSpec := { name := "pointMultiples", fn := fun _ => fun
  | [d1, d2, d3] => { results := [.lit (.bool false)], args := [d1, d2, d3] }
  | _ => none }
def PointMultiplesWrongFalsely : Prop := pointMultiplesRow.holds Try.pinned (OpenSpec.ofChange pointMultiplesWrong)

/-- 'algoristlaw06.PointDivides': WHATEVER THE INPUT: true; the input reads as it did. -/
def pointDividesSpec : ChangeSpec := { name := "pointDivides", fn := fun _ => fun
  | [d1, d2] => { results := [.lit (.bool true)], args := [d1, d2] }
  | _ => none }
def pointDividesRow : OpenClaim := { program := "ytceochfccebebaa", sum := "ca64d163001ffaf92f1beeb168579384bae1f2988a53884fd0d2a0ca727ba028", func := "algorist/algoristlaw06.PointDivides", spec := "pointDivides", unfollowed := true, recurses := true, named := ["math/bits.overflowError"], apart := false }
def PointDividesSaid : Prop := pointDividesRow.holds Try.pinned (OpenSpec.ofChange pointDividesSpec)

/-- ITS FALSE NEIGHBOUR: 'it returns false'. Refute it at one input. -/
def pointDividesWrong : ChangeSpec := { name := "pointDivides", fn := fun _ => fun
  | [d1, d2] => { results := [.lit (.bool false)], args := [d1, d2] }
  | _ => none }
def PointDividesWrongFalsely : Prop := pointDividesRow.holds Try.pinned (OpenSpec.ofChange pointDividesWrong)

/-- 'algoristlaw06.PointProjects': WHATEVER THE INPUT: true; the input reads as it did. -/
def pointProjectsSpec : ChangeSpec := { name := "pointProjects", fn := fun _ => fun
  | [d1, d2] => { results := [.lit (.bool true)], args := [d1, d2] }
  | _ => none }
def pointProjectsRow : OpenClaim := { program := "ytceochfccebebaa", sum := "ca64d163001ffaf92f1beeb168579384bae1f2988a53884fd0d2a0ca727ba028", func := "algorist/algoristlaw06.PointProjects", spec := "pointProjects", unfollowed := true, recurses := true, named := ["math/bits.overflowError"], apart := false }
def PointProjectsSaid : Prop := pointProjectsRow.holds Try.pinned (OpenSpec.ofChange pointProjectsSpec)

/-- ITS FALSE NEIGHBOUR: 'it returns false'. Refute it at one input. -/
def pointProjectsWrong : ChangeSpec := { name := "pointProjects", fn := fun _ => fun
  | [d1, d2] => { results := [.lit (.bool false)], args := [d1, d2] }
  | _ => none }
def PointProjectsWrongFalsely : Prop := pointProjectsRow.holds Try.pinned (OpenSpec.ofChange pointProjectsWrong)

/- THE SECOND FORM. 'bulk': how many values and letters a reading holds, each counted each time it is reached (what is shared counts as often as it is met; a slice's spare places count too). A statement '..UptoSaid' is the law's where the arguments, and the package variables that the reading takes, are together of bulk at most 1048576: NARROWER than '..Said'. Prove '..Said' where nothing that the law and all that it calls make is longer than what came in: it says more and counts as full. Else prove '..UptoSaid'. A law counts once. -/
mutual
def uptoBulk {H : Type} : DataW H → Nat
  | .lit (.string bytes) => bytes.length + 1
  | .lit _ => 1
  | .nil => 1
  | .ptr d => uptoBulk d + 1
  | .slice elems spare => uptoBulkAll elems + uptoBulkAll spare + 1
  | .agg parts => uptoBulkAll parts + 1
  | .iface _ d => uptoBulk d + 1
  | .map entries => uptoBulkEntries entries + 1
  | .held _ => 1
def uptoBulkAll {H : Type} : List (DataW H) → Nat
  | [] => 0
  | d :: r => uptoBulk d + uptoBulkAll r
def uptoBulkEntries {H : Type} : List (Lit × DataW H) → Nat
  | [] => 0
  | x :: r => uptoBulkEntry x + uptoBulkEntries r
def uptoBulkEntry {H : Type} : Lit × DataW H → Nat
  | (.string bytes, d) => bytes.length + uptoBulk d + 1
  | (_, d) => uptoBulk d + 1
 end
def uptoSmall : (H : Type) → List (DataW H) → Bool := fun _ ds => decide (uptoBulkAll ds ≤ 1048576)
def OpenSpec.upto (s : _root_.Go.ChangeSpec) : _root_.Go.OpenSpec := { _root_.Go.OpenSpec.ofChange s with cond := some uptoSmall }

/-- 'algoristlaw06.PointGroup', WHERE WHAT IT READS IS OF BULK AT MOST 1048576: true; the input reads as it did. -/
def pointGroupUptoRow : OpenClaim := { program := "ytceochfccebebaa", sum := "ca64d163001ffaf92f1beeb168579384bae1f2988a53884fd0d2a0ca727ba028", func := "algorist/algoristlaw06.PointGroup", spec := "pointGroup", unfollowed := true, recurses := true, named := ["math/bits.overflowError"], apart := false, narrowed := true }
def PointGroupUptoSaid : Prop := pointGroupUptoRow.holds Try.pinned (OpenSpec.upto pointGroupSpec)

/-- 'algoristlaw06.PointMultiples', WHERE WHAT IT READS IS OF BULK AT MOST 1048576: true; the input reads as it did. -/
def pointMultiplesUptoRow : OpenClaim := { program := "ytceochfccebebaa", sum := "ca64d163001ffaf92f1beeb168579384bae1f2988a53884fd0d2a0ca727ba028", func := "algorist/algoristlaw06.PointMultiples", spec := "pointMultiples", unfollowed := true, recurses := true, named := ["math/bits.overflowError"], apart := false, narrowed := true }
def PointMultiplesUptoSaid : Prop := pointMultiplesUptoRow.holds Try.pinned (OpenSpec.upto pointMultiplesSpec)

/-- 'algoristlaw06.PointDivides', WHERE WHAT IT READS IS OF BULK AT MOST 1048576: true; the input reads as it did. -/
def pointDividesUptoRow : OpenClaim := { program := "ytceochfccebebaa", sum := "ca64d163001ffaf92f1beeb168579384bae1f2988a53884fd0d2a0ca727ba028", func := "algorist/algoristlaw06.PointDivides", spec := "pointDivides", unfollowed := true, recurses := true, named := ["math/bits.overflowError"], apart := false, narrowed := true }
def PointDividesUptoSaid : Prop := pointDividesUptoRow.holds Try.pinned (OpenSpec.upto pointDividesSpec)

/-- 'algoristlaw06.PointProjects', WHERE WHAT IT READS IS OF BULK AT MOST 1048576: true; the input reads as it did. -/
def pointProjectsUptoRow : OpenClaim := { program := "ytceochfccebebaa", sum := "ca64d163001ffaf92f1beeb168579384bae1f2988a53884fd0d2a0ca727ba028", func := "algorist/algoristlaw06.PointProjects", spec := "pointProjects", unfollowed := true, recurses := true, named := ["math/bits.overflowError"], apart := false, narrowed := true }
def PointProjectsUptoSaid : Prop := pointProjectsUptoRow.holds Try.pinned (OpenSpec.upto pointProjectsSpec)

end Rows
end Go.Proofs.Ytceochfccebebaa
