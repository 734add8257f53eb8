/-
  NARROWER THAN 'FOR EVERY INPUT', by the rows' own cells (each row's printed sentence says how): ModularEuler: laid · ModularAllRoots: laid · ModularMatchesReference: laid · ModularRoots: laid · ModularPowers: laid · ModularSymbols: laid · ModularCongruences: laid.
  DERIVED. THE GIVEN ROWS OF THIS SEAT. 7 by the template 'for every input the law returns true; each argument reads behind the call as it read before'; 0 by the template 'total and deterministic' (their statements: YtcikhffhikgahaaDoorTotals.lean).
  GIVEN WITH THE SEED: the statements are not yours to turn. If you find one false, say at which input.
  Laid BY PROGRAM, IN A SANDBOX (cutbox-rows.mjs): the forced cells as the released guide's own fill.sh prints them over the translation 7ea95ea19ae76104… (all of the seat's roots in one cut). By AI agents, Wed Nov 11 2026. No macro, syntax, notation, axiom, sorry.
-/
import Derived.Test.YtcikhffhikgahaaDoorChecked
import GoSem.Claim
import GoSem.ClaimJoined
import GoSem.ClaimMapViews
import Derived.JoinedTies
import Derived.KernelRfl
namespace Go.Proofs.YtcikhffhikgahaaDoor
/- THE CELL 'sum', in the pinned program and in every row, IS THE sha256 OF THE DUMP (.gsa) THAT YtcikhffhikgahaaDoorProg.lean LOADS. Nothing in Lean hashes anything: it is a label: what it is worth is what the hold of that sum in a sandbox is worth. -/
noncomputable def Tryd.pinned : Pinned := { name := "ytcikhffhikgahaadoor", sum := "7ea95ea19ae7610416a0282d6fe4bd0553ca67a0c11f2168e4aa578f313d4fa3", checked := Tryd.checked }
namespace Rows
def none {H : Type} : Left H := { results := [], args := [] }

/- WHAT THE LISTED PACKAGE-LEVEL VARIABLES READ AS WHEN THE CALL BEGINS. Each datum BY PROGRAM (the guide's laid-datum.mjs) off the statement by which the dump's own 'gosem.cut.vars' lays the variable. In a bare row this is a premise. The card (YtcikhffhikgahaaDoorCards.lean) ties it to the program's text. -/
def laid_algorist_modular_signs {H : Type} : DataW H := .agg [.lit (.int .i64 0), .lit (.int .i64 1), .lit (.int .i64 0), .lit (.int .i64 (-1)), .lit (.int .i64 0), .lit (.int .i64 (-1)), .lit (.int .i64 0), .lit (.int .i64 1)]

/-- 'algoristlaw03.ModularEuler': WHATEVER THE INPUT: true; the input reads as it did. -/
def modularEulerSpec : ChangeSpec := { name := "modularEuler", fn := fun _ => fun
  | [d1, d2] => { results := [.lit (.bool true)], args := [d1, d2] }
  | _ => none }
def modularEulerRow : OpenClaim := { program := "ytcikhffhikgahaadoor", sum := "7ea95ea19ae7610416a0282d6fe4bd0553ca67a0c11f2168e4aa578f313d4fa3", func := "algorist/algoristlaw03.ModularEuler", spec := "modularEuler", unfollowed := true, recurses := true, named := ["math/bits.overflowError", "algorist/modular.signs"], apart := false, laid := [("algorist/modular.signs", laid_algorist_modular_signs)] }
def ModularEulerSaid : Prop := modularEulerRow.holds Tryd.pinned (OpenSpec.ofChange modularEulerSpec)

/-- ITS FALSE NEIGHBOUR: 'it returns false'. Refute it at one input. -/
def modularEulerWrong : ChangeSpec := { name := "modularEuler", fn := fun _ => fun
  | [d1, d2] => { results := [.lit (.bool false)], args := [d1, d2] }
  | _ => none }
def ModularEulerWrongFalsely : Prop := modularEulerRow.holds Tryd.pinned (OpenSpec.ofChange modularEulerWrong)

/-- 'algoristlaw03.ModularAllRoots': WHATEVER THE INPUT: true; the input reads as it did. -/
def modularAllRootsSpec : ChangeSpec := { name := "modularAllRoots", fn := fun _ => fun
  | [d1, d2, d3] => { results := [.lit (.bool true)], args := [d1, d2, d3] }
  | _ => none }
def modularAllRootsRow : OpenClaim := { program := "ytcikhffhikgahaadoor", sum := "7ea95ea19ae7610416a0282d6fe4bd0553ca67a0c11f2168e4aa578f313d4fa3", func := "algorist/algoristlaw03.ModularAllRoots", spec := "modularAllRoots", unfollowed := true, recurses := true, named := ["math/bits.overflowError", "algorist/modular.signs"], apart := false, laid := [("algorist/modular.signs", laid_algorist_modular_signs)] }
def ModularAllRootsSaid : Prop := modularAllRootsRow.holds Tryd.pinned (OpenSpec.ofChange modularAllRootsSpec)

/-- ITS FALSE NEIGHBOUR: 'it returns false'. Refute it at one input. -/
def modularAllRootsWrong : ChangeSpec := { name := "modularAllRoots", fn := fun _ => fun
  | [d1, d2, d3] => { results := [.lit (.bool false)], args := [d1, d2, d3] }
  | _ => none }
def ModularAllRootsWrongFalsely : Prop := modularAllRootsRow.holds Tryd.pinned (OpenSpec.ofChange modularAllRootsWrong)

/-- 'algoristlaw03.ModularMatchesReference': WHATEVER THE INPUT: true; the input reads as it did. -/
def modularMatchesReferenceSpec : ChangeSpec := { name := "modularMatchesReference", fn := fun _ => fun
  | [d] => { results := [.lit (.bool true)], args := [d] }
  | _ => none }
def modularMatchesReferenceRow : OpenClaim := { program := "ytcikhffhikgahaadoor", sum := "7ea95ea19ae7610416a0282d6fe4bd0553ca67a0c11f2168e4aa578f313d4fa3", func := "algorist/algoristlaw03.ModularMatchesReference", spec := "modularMatchesReference", unfollowed := true, recurses := true, named := ["math/bits.overflowError", "algorist/modular.signs"], apart := false, laid := [("algorist/modular.signs", laid_algorist_modular_signs)] }
def ModularMatchesReferenceSaid : Prop := modularMatchesReferenceRow.holds Tryd.pinned (OpenSpec.ofChange modularMatchesReferenceSpec)

/-- ITS FALSE NEIGHBOUR: 'it returns false'. Refute it at one input. -/
def modularMatchesReferenceWrong : ChangeSpec := { name := "modularMatchesReference", fn := fun _ => fun
  | [d] => { results := [.lit (.bool false)], args := [d] }
  | _ => none }
def ModularMatchesReferenceWrongFalsely : Prop := modularMatchesReferenceRow.holds Tryd.pinned (OpenSpec.ofChange modularMatchesReferenceWrong)

/-- 'algoristlaw03.ModularRoots': WHATEVER THE INPUT: true; the input reads as it did. -/
def modularRootsSpec : ChangeSpec := { name := "modularRoots", fn := fun _ => fun
  | [d1, d2] => { results := [.lit (.bool true)], args := [d1, d2] }
  | _ => none }
def modularRootsRow : OpenClaim := { program := "ytcikhffhikgahaadoor", sum := "7ea95ea19ae7610416a0282d6fe4bd0553ca67a0c11f2168e4aa578f313d4fa3", func := "algorist/algoristlaw03.ModularRoots", spec := "modularRoots", unfollowed := true, recurses := true, named := ["math/bits.overflowError", "algorist/modular.signs"], apart := false, laid := [("algorist/modular.signs", laid_algorist_modular_signs)] }
def ModularRootsSaid : Prop := modularRootsRow.holds Tryd.pinned (OpenSpec.ofChange modularRootsSpec)

/-- ITS FALSE NEIGHBOUR: 'it returns false'. Refute it at one input. -/
def modularRootsWrong : ChangeSpec := { name := "modularRoots", fn := fun _ => fun
  | [d1, d2] => { results := [.lit (.bool false)], args := [d1, d2] }
  | _ => none }
def ModularRootsWrongFalsely : Prop := modularRootsRow.holds Tryd.pinned (OpenSpec.ofChange modularRootsWrong)

/-- 'algoristlaw03.ModularPowers': WHATEVER THE INPUT: true; the input reads as it did. -/
def modularPowersSpec : ChangeSpec := { name := "modularPowers", fn := fun _ => fun
  | [d1, d2, d3] => { results := [.lit (.bool true)], args := [d1, d2, d3] }
  | _ => none }
def modularPowersRow : OpenClaim := { program := "ytcikhffhikgahaadoor", sum := "7ea95ea19ae7610416a0282d6fe4bd0553ca67a0c11f2168e4aa578f313d4fa3", func := "algorist/algoristlaw03.ModularPowers", spec := "modularPowers", unfollowed := true, recurses := true, named := ["math/bits.overflowError", "algorist/modular.signs"], apart := false, laid := [("algorist/modular.signs", laid_algorist_modular_signs)] }
def ModularPowersSaid : Prop := modularPowersRow.holds Tryd.pinned (OpenSpec.ofChange modularPowersSpec)

/-- ITS FALSE NEIGHBOUR: 'it returns false'. Refute it at one input. -/
def modularPowersWrong : ChangeSpec := { name := "modularPowers", fn := fun _ => fun
  | [d1, d2, d3] => { results := [.lit (.bool false)], args := [d1, d2, d3] }
  | _ => none }
def ModularPowersWrongFalsely : Prop := modularPowersRow.holds Tryd.pinned (OpenSpec.ofChange modularPowersWrong)

/-- 'algoristlaw03.ModularSymbols': WHATEVER THE INPUT: true; the input reads as it did. -/
def modularSymbolsSpec : ChangeSpec := { name := "modularSymbols", fn := fun _ => fun
  | [d] => { results := [.lit (.bool true)], args := [d] }
  | _ => none }
def modularSymbolsRow : OpenClaim := { program := "ytcikhffhikgahaadoor", sum := "7ea95ea19ae7610416a0282d6fe4bd0553ca67a0c11f2168e4aa578f313d4fa3", func := "algorist/algoristlaw03.ModularSymbols", spec := "modularSymbols", unfollowed := true, recurses := true, named := ["math/bits.overflowError", "algorist/modular.signs"], apart := false, laid := [("algorist/modular.signs", laid_algorist_modular_signs)] }
def ModularSymbolsSaid : Prop := modularSymbolsRow.holds Tryd.pinned (OpenSpec.ofChange modularSymbolsSpec)

/-- ITS FALSE NEIGHBOUR: 'it returns false'. Refute it at one input. -/
def modularSymbolsWrong : ChangeSpec := { name := "modularSymbols", fn := fun _ => fun
  | [d] => { results := [.lit (.bool false)], args := [d] }
  | _ => none }
def ModularSymbolsWrongFalsely : Prop := modularSymbolsRow.holds Tryd.pinned (OpenSpec.ofChange modularSymbolsWrong)

/-- 'algoristlaw03.ModularCongruences': WHATEVER THE INPUT: true; the input reads as it did. -/
def modularCongruencesSpec : ChangeSpec := { name := "modularCongruences", fn := fun _ => fun
  | [d1, d2] => { results := [.lit (.bool true)], args := [d1, d2] }
  | _ => none }
def modularCongruencesRow : OpenClaim := { program := "ytcikhffhikgahaadoor", sum := "7ea95ea19ae7610416a0282d6fe4bd0553ca67a0c11f2168e4aa578f313d4fa3", func := "algorist/algoristlaw03.ModularCongruences", spec := "modularCongruences", unfollowed := true, recurses := true, named := ["math/bits.overflowError", "algorist/modular.signs"], apart := false, laid := [("algorist/modular.signs", laid_algorist_modular_signs)] }
def ModularCongruencesSaid : Prop := modularCongruencesRow.holds Tryd.pinned (OpenSpec.ofChange modularCongruencesSpec)

/-- ITS FALSE NEIGHBOUR: 'it returns false'. Refute it at one input. -/
def modularCongruencesWrong : ChangeSpec := { name := "modularCongruences", fn := fun _ => fun
  | [d1, d2] => { results := [.lit (.bool false)], args := [d1, d2] }
  | _ => none }
def ModularCongruencesWrongFalsely : Prop := modularCongruencesRow.holds Tryd.pinned (OpenSpec.ofChange modularCongruencesWrong)

/- THE SECOND FORM. 'bulk': how many values and letters a reading holds, each counted each time it is reached (what is shared counts as often as it is met; a slice's spare places count too). A statement '..UptoSaid' is the law's where the arguments, and the package variables that the reading takes, are together of bulk at most 1048576: NARROWER than '..Said'. Prove '..Said' where nothing that the law and all that it calls make is longer than what came in: it says more and counts as full. Else prove '..UptoSaid'. A law counts once. -/
mutual
def uptoBulk {H : Type} : DataW H → Nat
  | .lit (.string bytes) => bytes.length + 1
  | .lit _ => 1
  | .nil => 1
  | .ptr d => uptoBulk d + 1
  | .slice elems spare => uptoBulkAll elems + uptoBulkAll spare + 1
  | .agg parts => uptoBulkAll parts + 1
  | .iface _ d => uptoBulk d + 1
  | .map entries => uptoBulkEntries entries + 1
  | .held _ => 1
def uptoBulkAll {H : Type} : List (DataW H) → Nat
  | [] => 0
  | d :: r => uptoBulk d + uptoBulkAll r
def uptoBulkEntries {H : Type} : List (Lit × DataW H) → Nat
  | [] => 0
  | x :: r => uptoBulkEntry x + uptoBulkEntries r
def uptoBulkEntry {H : Type} : Lit × DataW H → Nat
  | (.string bytes, d) => bytes.length + uptoBulk d + 1
  | (_, d) => uptoBulk d + 1
 end
def uptoSmall : (H : Type) → List (DataW H) → Bool := fun _ ds => decide (uptoBulkAll ds ≤ 1048576)
def OpenSpec.upto (s : _root_.Go.ChangeSpec) : _root_.Go.OpenSpec := { _root_.Go.OpenSpec.ofChange s with cond := some uptoSmall }

/-- 'algoristlaw03.ModularEuler', WHERE WHAT IT READS IS OF BULK AT MOST 1048576: true; the input reads as it did. -/
def modularEulerUptoRow : OpenClaim := { program := "ytcikhffhikgahaadoor", sum := "7ea95ea19ae7610416a0282d6fe4bd0553ca67a0c11f2168e4aa578f313d4fa3", func := "algorist/algoristlaw03.ModularEuler", spec := "modularEuler", unfollowed := true, recurses := true, named := ["math/bits.overflowError", "algorist/modular.signs"], apart := false, laid := [("algorist/modular.signs", laid_algorist_modular_signs)], narrowed := true }
def ModularEulerUptoSaid : Prop := modularEulerUptoRow.holds Tryd.pinned (OpenSpec.upto modularEulerSpec)

/-- 'algoristlaw03.ModularAllRoots', WHERE WHAT IT READS IS OF BULK AT MOST 1048576: true; the input reads as it did. -/
def modularAllRootsUptoRow : OpenClaim := { program := "ytcikhffhikgahaadoor", sum := "7ea95ea19ae7610416a0282d6fe4bd0553ca67a0c11f2168e4aa578f313d4fa3", func := "algorist/algoristlaw03.ModularAllRoots", spec := "modularAllRoots", unfollowed := true, recurses := true, named := ["math/bits.overflowError", "algorist/modular.signs"], apart := false, laid := [("algorist/modular.signs", laid_algorist_modular_signs)], narrowed := true }
def ModularAllRootsUptoSaid : Prop := modularAllRootsUptoRow.holds Tryd.pinned (OpenSpec.upto modularAllRootsSpec)

/-- 'algoristlaw03.ModularMatchesReference', WHERE WHAT IT READS IS OF BULK AT MOST 1048576: true; the input reads as it did. -/
def modularMatchesReferenceUptoRow : OpenClaim := { program := "ytcikhffhikgahaadoor", sum := "7ea95ea19ae7610416a0282d6fe4bd0553ca67a0c11f2168e4aa578f313d4fa3", func := "algorist/algoristlaw03.ModularMatchesReference", spec := "modularMatchesReference", unfollowed := true, recurses := true, named := ["math/bits.overflowError", "algorist/modular.signs"], apart := false, laid := [("algorist/modular.signs", laid_algorist_modular_signs)], narrowed := true }
def ModularMatchesReferenceUptoSaid : Prop := modularMatchesReferenceUptoRow.holds Tryd.pinned (OpenSpec.upto modularMatchesReferenceSpec)

/-- 'algoristlaw03.ModularRoots', WHERE WHAT IT READS IS OF BULK AT MOST 1048576: true; the input reads as it did. -/
def modularRootsUptoRow : OpenClaim := { program := "ytcikhffhikgahaadoor", sum := "7ea95ea19ae7610416a0282d6fe4bd0553ca67a0c11f2168e4aa578f313d4fa3", func := "algorist/algoristlaw03.ModularRoots", spec := "modularRoots", unfollowed := true, recurses := true, named := ["math/bits.overflowError", "algorist/modular.signs"], apart := false, laid := [("algorist/modular.signs", laid_algorist_modular_signs)], narrowed := true }
def ModularRootsUptoSaid : Prop := modularRootsUptoRow.holds Tryd.pinned (OpenSpec.upto modularRootsSpec)

/-- 'algoristlaw03.ModularPowers', WHERE WHAT IT READS IS OF BULK AT MOST 1048576: true; the input reads as it did. -/
def modularPowersUptoRow : OpenClaim := { program := "ytcikhffhikgahaadoor", sum := "7ea95ea19ae7610416a0282d6fe4bd0553ca67a0c11f2168e4aa578f313d4fa3", func := "algorist/algoristlaw03.ModularPowers", spec := "modularPowers", unfollowed := true, recurses := true, named := ["math/bits.overflowError", "algorist/modular.signs"], apart := false, laid := [("algorist/modular.signs", laid_algorist_modular_signs)], narrowed := true }
def ModularPowersUptoSaid : Prop := modularPowersUptoRow.holds Tryd.pinned (OpenSpec.upto modularPowersSpec)

/-- 'algoristlaw03.ModularSymbols', WHERE WHAT IT READS IS OF BULK AT MOST 1048576: true; the input reads as it did. -/
def modularSymbolsUptoRow : OpenClaim := { program := "ytcikhffhikgahaadoor", sum := "7ea95ea19ae7610416a0282d6fe4bd0553ca67a0c11f2168e4aa578f313d4fa3", func := "algorist/algoristlaw03.ModularSymbols", spec := "modularSymbols", unfollowed := true, recurses := true, named := ["math/bits.overflowError", "algorist/modular.signs"], apart := false, laid := [("algorist/modular.signs", laid_algorist_modular_signs)], narrowed := true }
def ModularSymbolsUptoSaid : Prop := modularSymbolsUptoRow.holds Tryd.pinned (OpenSpec.upto modularSymbolsSpec)

/-- 'algoristlaw03.ModularCongruences', WHERE WHAT IT READS IS OF BULK AT MOST 1048576: true; the input reads as it did. -/
def modularCongruencesUptoRow : OpenClaim := { program := "ytcikhffhikgahaadoor", sum := "7ea95ea19ae7610416a0282d6fe4bd0553ca67a0c11f2168e4aa578f313d4fa3", func := "algorist/algoristlaw03.ModularCongruences", spec := "modularCongruences", unfollowed := true, recurses := true, named := ["math/bits.overflowError", "algorist/modular.signs"], apart := false, laid := [("algorist/modular.signs", laid_algorist_modular_signs)], narrowed := true }
def ModularCongruencesUptoSaid : Prop := modularCongruencesUptoRow.holds Tryd.pinned (OpenSpec.upto modularCongruencesSpec)

end Rows
end Go.Proofs.YtcikhffhikgahaaDoor
