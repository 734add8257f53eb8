/-
  No cell of these rows narrows 'for every input' (looked for: loops, veiled, ifaces, maps, wideKeys, modest, calm, conditions, laid).
  DERIVED. THE GIVEN ROWS OF THIS SEAT. 7 by the template 'for every input the law returns true; each argument reads behind the call as it read before'; 0 by the template 'total and deterministic' (their statements: YtihcjnpabcejlaaGreatTotals.lean).
  GIVEN WITH THE SEED: the statements are not yours to turn. If you find one false, say at which input.
  Laid BY PROGRAM, IN A SANDBOX (cutbox-rows.mjs): the forced cells as the released guide's own fill.sh prints them over the translation 7dc311b53efd7ca9… (all of the seat's roots in one cut). By AI agents, Wed Nov 11 2026. No macro, syntax, notation, axiom, sorry.
-/
import Derived.Test.YtihcjnpabcejlaaGreatChecked
import GoSem.Claim
import GoSem.ClaimJoined
import GoSem.ClaimMapViews
import Derived.JoinedTies
import Derived.KernelRfl
namespace Go.Proofs.YtihcjnpabcejlaaGreat
/- THE CELL 'sum', in the pinned program and in every row, IS THE sha256 OF THE DUMP (.gsa) THAT YtihcjnpabcejlaaGreatProg.lean LOADS. Nothing in Lean hashes anything: it is a label: what it is worth is what the hold of that sum in a sandbox is worth. -/
noncomputable def Tryz.pinned : Pinned := { name := "ytihcjnpabcejlaagreat", sum := "7dc311b53efd7ca97469fb6bb998c3ade676603021a46106971f82f330ed7e7e", checked := Tryz.checked }
namespace Rows
def none {H : Type} : Left H := { results := [], args := [] }

/-- 'algoristlaw19.PellMatchesReference': WHATEVER THE INPUT: true; the input reads as it did. -/
def pellMatchesReferenceSpec : ChangeSpec := { name := "pellMatchesReference", fn := fun _ => fun
  | [d1, d2, d3] => { results := [.lit (.bool true)], args := [d1, d2, d3] }
  | _ => none }
def pellMatchesReferenceRow : OpenClaim := { program := "ytihcjnpabcejlaagreat", sum := "7dc311b53efd7ca97469fb6bb998c3ade676603021a46106971f82f330ed7e7e", func := "algorist/algoristlaw19.PellMatchesReference", spec := "pellMatchesReference", unfollowed := true, recurses := true, named := ["math/bits.overflowError"], plainKeys := false, apart := false }
def PellMatchesReferenceSaid : Prop := pellMatchesReferenceRow.holds Tryz.pinned (OpenSpec.ofChange pellMatchesReferenceSpec)

/-- ITS FALSE NEIGHBOUR: 'it returns false'. Refute it at one input. -/
def pellMatchesReferenceWrong : ChangeSpec := { name := "pellMatchesReference", fn := fun _ => fun
  | [d1, d2, d3] => { results := [.lit (.bool false)], args := [d1, d2, d3] }
  | _ => none }
def PellMatchesReferenceWrongFalsely : Prop := pellMatchesReferenceRow.holds Tryz.pinned (OpenSpec.ofChange pellMatchesReferenceWrong)

/-- 'algoristlaw19.PellSolves': WHATEVER THE INPUT: true; the input reads as it did. -/
def pellSolvesSpec : ChangeSpec := { name := "pellSolves", fn := fun _ => fun
  | [d1, d2] => { results := [.lit (.bool true)], args := [d1, d2] }
  | _ => none }
def pellSolvesRow : OpenClaim := { program := "ytihcjnpabcejlaagreat", sum := "7dc311b53efd7ca97469fb6bb998c3ade676603021a46106971f82f330ed7e7e", func := "algorist/algoristlaw19.PellSolves", spec := "pellSolves", unfollowed := true, recurses := true, named := ["math/bits.overflowError"], plainKeys := false, apart := false }
def PellSolvesSaid : Prop := pellSolvesRow.holds Tryz.pinned (OpenSpec.ofChange pellSolvesSpec)

/-- ITS FALSE NEIGHBOUR: 'it returns false'. Refute it at one input. -/
def pellSolvesWrong : ChangeSpec := { name := "pellSolves", fn := fun _ => fun
  | [d1, d2] => { results := [.lit (.bool false)], args := [d1, d2] }
  | _ => none }
def PellSolvesWrongFalsely : Prop := pellSolvesRow.holds Tryz.pinned (OpenSpec.ofChange pellSolvesWrong)

/-- 'algoristlaw19.PellComplete': WHATEVER THE INPUT: true; the input reads as it did. -/
def pellCompleteSpec : ChangeSpec := { name := "pellComplete", fn := fun _ => fun
  | [d1, d2] => { results := [.lit (.bool true)], args := [d1, d2] }
  | _ => none }
def pellCompleteRow : OpenClaim := { program := "ytihcjnpabcejlaagreat", sum := "7dc311b53efd7ca97469fb6bb998c3ade676603021a46106971f82f330ed7e7e", func := "algorist/algoristlaw19.PellComplete", spec := "pellComplete", unfollowed := true, recurses := true, named := ["math/bits.overflowError"], plainKeys := false, apart := false }
def PellCompleteSaid : Prop := pellCompleteRow.holds Tryz.pinned (OpenSpec.ofChange pellCompleteSpec)

/-- ITS FALSE NEIGHBOUR: 'it returns false'. Refute it at one input. -/
def pellCompleteWrong : ChangeSpec := { name := "pellComplete", fn := fun _ => fun
  | [d1, d2] => { results := [.lit (.bool false)], args := [d1, d2] }
  | _ => none }
def PellCompleteWrongFalsely : Prop := pellCompleteRow.holds Tryz.pinned (OpenSpec.ofChange pellCompleteWrong)

/-- 'algoristlaw19.PellOrbits': WHATEVER THE INPUT: true; the input reads as it did. -/
def pellOrbitsSpec : ChangeSpec := { name := "pellOrbits", fn := fun _ => fun
  | [d1, d2, d3] => { results := [.lit (.bool true)], args := [d1, d2, d3] }
  | _ => none }
def pellOrbitsRow : OpenClaim := { program := "ytihcjnpabcejlaagreat", sum := "7dc311b53efd7ca97469fb6bb998c3ade676603021a46106971f82f330ed7e7e", func := "algorist/algoristlaw19.PellOrbits", spec := "pellOrbits", unfollowed := true, recurses := true, named := ["math/bits.overflowError"], plainKeys := false, apart := false }
def PellOrbitsSaid : Prop := pellOrbitsRow.holds Tryz.pinned (OpenSpec.ofChange pellOrbitsSpec)

/-- ITS FALSE NEIGHBOUR: 'it returns false'. Refute it at one input. -/
def pellOrbitsWrong : ChangeSpec := { name := "pellOrbits", fn := fun _ => fun
  | [d1, d2, d3] => { results := [.lit (.bool false)], args := [d1, d2, d3] }
  | _ => none }
def PellOrbitsWrongFalsely : Prop := pellOrbitsRow.holds Tryz.pinned (OpenSpec.ofChange pellOrbitsWrong)

/-- 'algoristlaw19.PellUnits': WHATEVER THE INPUT: true; the input reads as it did. -/
def pellUnitsSpec : ChangeSpec := { name := "pellUnits", fn := fun _ => fun
  | [d] => { results := [.lit (.bool true)], args := [d] }
  | _ => none }
def pellUnitsRow : OpenClaim := { program := "ytihcjnpabcejlaagreat", sum := "7dc311b53efd7ca97469fb6bb998c3ade676603021a46106971f82f330ed7e7e", func := "algorist/algoristlaw19.PellUnits", spec := "pellUnits", unfollowed := true, recurses := true, named := ["math/bits.overflowError"], plainKeys := false, apart := false }
def PellUnitsSaid : Prop := pellUnitsRow.holds Tryz.pinned (OpenSpec.ofChange pellUnitsSpec)

/-- ITS FALSE NEIGHBOUR: 'it returns false'. Refute it at one input. -/
def pellUnitsWrong : ChangeSpec := { name := "pellUnits", fn := fun _ => fun
  | [d] => { results := [.lit (.bool false)], args := [d] }
  | _ => none }
def PellUnitsWrongFalsely : Prop := pellUnitsRow.holds Tryz.pinned (OpenSpec.ofChange pellUnitsWrong)

/-- 'algoristlaw19.PellProducts': WHATEVER THE INPUT: true; the input reads as it did. -/
def pellProductsSpec : ChangeSpec := { name := "pellProducts", fn := fun _ => fun
  | [d1, d2, d3] => { results := [.lit (.bool true)], args := [d1, d2, d3] }
  | _ => none }
def pellProductsRow : OpenClaim := { program := "ytihcjnpabcejlaagreat", sum := "7dc311b53efd7ca97469fb6bb998c3ade676603021a46106971f82f330ed7e7e", func := "algorist/algoristlaw19.PellProducts", spec := "pellProducts", unfollowed := true, recurses := true, named := ["math/bits.overflowError"], plainKeys := false, apart := false }
def PellProductsSaid : Prop := pellProductsRow.holds Tryz.pinned (OpenSpec.ofChange pellProductsSpec)

/-- ITS FALSE NEIGHBOUR: 'it returns false'. Refute it at one input. -/
def pellProductsWrong : ChangeSpec := { name := "pellProducts", fn := fun _ => fun
  | [d1, d2, d3] => { results := [.lit (.bool false)], args := [d1, d2, d3] }
  | _ => none }
def PellProductsWrongFalsely : Prop := pellProductsRow.holds Tryz.pinned (OpenSpec.ofChange pellProductsWrong)

/-- 'algoristlaw19.PellChecks': WHATEVER THE INPUT: true; the input reads as it did. -/
def pellChecksSpec : ChangeSpec := { name := "pellChecks", fn := fun _ => fun
  | [d1, d2, d3] => { results := [.lit (.bool true)], args := [d1, d2, d3] }
  | _ => none }
def pellChecksRow : OpenClaim := { program := "ytihcjnpabcejlaagreat", sum := "7dc311b53efd7ca97469fb6bb998c3ade676603021a46106971f82f330ed7e7e", func := "algorist/algoristlaw19.PellChecks", spec := "pellChecks", unfollowed := true, recurses := true, named := ["math/bits.overflowError"], plainKeys := false, apart := false }
def PellChecksSaid : Prop := pellChecksRow.holds Tryz.pinned (OpenSpec.ofChange pellChecksSpec)

/-- ITS FALSE NEIGHBOUR: 'it returns false'. Refute it at one input. -/
def pellChecksWrong : ChangeSpec := { name := "pellChecks", fn := fun _ => fun
  | [d1, d2, d3] => { results := [.lit (.bool false)], args := [d1, d2, d3] }
  | _ => none }
def PellChecksWrongFalsely : Prop := pellChecksRow.holds Tryz.pinned (OpenSpec.ofChange pellChecksWrong)

/- THE SECOND FORM. 'bulk': how many values and letters a reading holds, each counted each time it is reached (what is shared counts as often as it is met; a slice's spare places count too). A statement '..UptoSaid' is the law's where the arguments, and the package variables that the reading takes, are together of bulk at most 1048576: NARROWER than '..Said'. Prove '..Said' where nothing that the law and all that it calls make is longer than what came in: it says more and counts as full. Else prove '..UptoSaid'. A law counts once. -/
mutual
def uptoBulk {H : Type} : DataW H → Nat
  | .lit (.string bytes) => bytes.length + 1
  | .lit _ => 1
  | .nil => 1
  | .ptr d => uptoBulk d + 1
  | .slice elems spare => uptoBulkAll elems + uptoBulkAll spare + 1
  | .agg parts => uptoBulkAll parts + 1
  | .iface _ d => uptoBulk d + 1
  | .map entries => uptoBulkEntries entries + 1
  | .held _ => 1
def uptoBulkAll {H : Type} : List (DataW H) → Nat
  | [] => 0
  | d :: r => uptoBulk d + uptoBulkAll r
def uptoBulkEntries {H : Type} : List (Lit × DataW H) → Nat
  | [] => 0
  | x :: r => uptoBulkEntry x + uptoBulkEntries r
def uptoBulkEntry {H : Type} : Lit × DataW H → Nat
  | (.string bytes, d) => bytes.length + uptoBulk d + 1
  | (_, d) => uptoBulk d + 1
 end
def uptoSmall : (H : Type) → List (DataW H) → Bool := fun _ ds => decide (uptoBulkAll ds ≤ 1048576)
def OpenSpec.upto (s : _root_.Go.ChangeSpec) : _root_.Go.OpenSpec := { _root_.Go.OpenSpec.ofChange s with cond := some uptoSmall }

/-- 'algoristlaw19.PellMatchesReference', WHERE WHAT IT READS IS OF BULK AT MOST 1048576: true; the input reads as it did. -/
def pellMatchesReferenceUptoRow : OpenClaim := { program := "ytihcjnpabcejlaagreat", sum := "7dc311b53efd7ca97469fb6bb998c3ade676603021a46106971f82f330ed7e7e", func := "algorist/algoristlaw19.PellMatchesReference", spec := "pellMatchesReference", unfollowed := true, recurses := true, named := ["math/bits.overflowError"], plainKeys := false, apart := false, narrowed := true }
def PellMatchesReferenceUptoSaid : Prop := pellMatchesReferenceUptoRow.holds Tryz.pinned (OpenSpec.upto pellMatchesReferenceSpec)

/-- 'algoristlaw19.PellSolves', WHERE WHAT IT READS IS OF BULK AT MOST 1048576: true; the input reads as it did. -/
def pellSolvesUptoRow : OpenClaim := { program := "ytihcjnpabcejlaagreat", sum := "7dc311b53efd7ca97469fb6bb998c3ade676603021a46106971f82f330ed7e7e", func := "algorist/algoristlaw19.PellSolves", spec := "pellSolves", unfollowed := true, recurses := true, named := ["math/bits.overflowError"], plainKeys := false, apart := false, narrowed := true }
def PellSolvesUptoSaid : Prop := pellSolvesUptoRow.holds Tryz.pinned (OpenSpec.upto pellSolvesSpec)

/-- 'algoristlaw19.PellComplete', WHERE WHAT IT READS IS OF BULK AT MOST 1048576: true; the input reads as it did. -/
def pellCompleteUptoRow : OpenClaim := { program := "ytihcjnpabcejlaagreat", sum := "7dc311b53efd7ca97469fb6bb998c3ade676603021a46106971f82f330ed7e7e", func := "algorist/algoristlaw19.PellComplete", spec := "pellComplete", unfollowed := true, recurses := true, named := ["math/bits.overflowError"], plainKeys := false, apart := false, narrowed := true }
def PellCompleteUptoSaid : Prop := pellCompleteUptoRow.holds Tryz.pinned (OpenSpec.upto pellCompleteSpec)

/-- 'algoristlaw19.PellOrbits', WHERE WHAT IT READS IS OF BULK AT MOST 1048576: true; the input reads as it did. -/
def pellOrbitsUptoRow : OpenClaim := { program := "ytihcjnpabcejlaagreat", sum := "7dc311b53efd7ca97469fb6bb998c3ade676603021a46106971f82f330ed7e7e", func := "algorist/algoristlaw19.PellOrbits", spec := "pellOrbits", unfollowed := true, recurses := true, named := ["math/bits.overflowError"], plainKeys := false, apart := false, narrowed := true }
def PellOrbitsUptoSaid : Prop := pellOrbitsUptoRow.holds Tryz.pinned (OpenSpec.upto pellOrbitsSpec)

/-- 'algoristlaw19.PellUnits', WHERE WHAT IT READS IS OF BULK AT MOST 1048576: true; the input reads as it did. -/
def pellUnitsUptoRow : OpenClaim := { program := "ytihcjnpabcejlaagreat", sum := "7dc311b53efd7ca97469fb6bb998c3ade676603021a46106971f82f330ed7e7e", func := "algorist/algoristlaw19.PellUnits", spec := "pellUnits", unfollowed := true, recurses := true, named := ["math/bits.overflowError"], plainKeys := false, apart := false, narrowed := true }
def PellUnitsUptoSaid : Prop := pellUnitsUptoRow.holds Tryz.pinned (OpenSpec.upto pellUnitsSpec)

/-- 'algoristlaw19.PellProducts', WHERE WHAT IT READS IS OF BULK AT MOST 1048576: true; the input reads as it did. -/
def pellProductsUptoRow : OpenClaim := { program := "ytihcjnpabcejlaagreat", sum := "7dc311b53efd7ca97469fb6bb998c3ade676603021a46106971f82f330ed7e7e", func := "algorist/algoristlaw19.PellProducts", spec := "pellProducts", unfollowed := true, recurses := true, named := ["math/bits.overflowError"], plainKeys := false, apart := false, narrowed := true }
def PellProductsUptoSaid : Prop := pellProductsUptoRow.holds Tryz.pinned (OpenSpec.upto pellProductsSpec)

/-- 'algoristlaw19.PellChecks', WHERE WHAT IT READS IS OF BULK AT MOST 1048576: true; the input reads as it did. -/
def pellChecksUptoRow : OpenClaim := { program := "ytihcjnpabcejlaagreat", sum := "7dc311b53efd7ca97469fb6bb998c3ade676603021a46106971f82f330ed7e7e", func := "algorist/algoristlaw19.PellChecks", spec := "pellChecks", unfollowed := true, recurses := true, named := ["math/bits.overflowError"], plainKeys := false, apart := false, narrowed := true }
def PellChecksUptoSaid : Prop := pellChecksUptoRow.holds Tryz.pinned (OpenSpec.upto pellChecksSpec)

end Rows
end Go.Proofs.YtihcjnpabcejlaaGreat
