/-
  NARROWER THAN 'FOR EVERY INPUT', by the rows' own cells (each row's printed sentence says how): ProofMatchesReference: laid · ProofSound: laid · ProofMakes: laid · ProofKinds: laid · ProofParts: laid · ProofDenies: laid.
  DERIVED. THE GIVEN ROWS OF THIS SEAT. 6 by the template 'for every input the law returns true; each argument reads behind the call as it read before'; 0 by the template 'total and deterministic' (their statements: YtkejceafemeifaaGreatDoorTotals.lean).
  GIVEN WITH THE SEED: the statements are not yours to turn. If you find one false, say at which input.
  Laid BY PROGRAM, IN A SANDBOX (cutbox-rows.mjs): the forced cells as the released guide's own fill.sh prints them over the translation 8b82b8cca6dae83e… (all of the seat's roots in one cut). By AI agents, Wed Nov 11 2026. No macro, syntax, notation, axiom, sorry.
-/
import Derived.Test.YtkejceafemeifaaGreatDoorChecked
import GoSem.Claim
import GoSem.ClaimJoined
import GoSem.ClaimMapViews
import Derived.JoinedTies
import Derived.KernelRfl
namespace Go.Proofs.YtkejceafemeifaaGreatDoor
/- THE CELL 'sum', in the pinned program and in every row, IS THE sha256 OF THE DUMP (.gsa) THAT YtkejceafemeifaaGreatDoorProg.lean LOADS. Nothing in Lean hashes anything: it is a label: what it is worth is what the hold of that sum in a sandbox is worth. -/
noncomputable def Tryz.pinned : Pinned := { name := "ytkejceafemeifaagreatdoor", sum := "8b82b8cca6dae83ec2f80653d27dd585f7f995992078debaae0d41db1a2f6569", checked := Tryz.checked }
namespace Rows
def none {H : Type} : Left H := { results := [], args := [] }

/- WHAT THE LISTED PACKAGE-LEVEL VARIABLES READ AS WHEN THE CALL BEGINS. Each datum BY PROGRAM (the guide's laid-datum.mjs) off the statement by which the dump's own 'gosem.cut.vars' lays the variable. In a bare row this is a premise. The card (YtkejceafemeifaaGreatDoorCards.lean) ties it to the program's text. -/
def laid_math_bits_deBruijn64tab {H : Type} : DataW H := .agg [.lit (.int .u8 0), .lit (.int .u8 1), .lit (.int .u8 56), .lit (.int .u8 2), .lit (.int .u8 57), .lit (.int .u8 49), .lit (.int .u8 28), .lit (.int .u8 3), .lit (.int .u8 61), .lit (.int .u8 58), .lit (.int .u8 42), .lit (.int .u8 50), .lit (.int .u8 38), .lit (.int .u8 29), .lit (.int .u8 17), .lit (.int .u8 4), .lit (.int .u8 62), .lit (.int .u8 47), .lit (.int .u8 59), .lit (.int .u8 36), .lit (.int .u8 45), .lit (.int .u8 43), .lit (.int .u8 51), .lit (.int .u8 22), .lit (.int .u8 53), .lit (.int .u8 39), .lit (.int .u8 33), .lit (.int .u8 30), .lit (.int .u8 24), .lit (.int .u8 18), .lit (.int .u8 12), .lit (.int .u8 5), .lit (.int .u8 63), .lit (.int .u8 55), .lit (.int .u8 48), .lit (.int .u8 27), .lit (.int .u8 60), .lit (.int .u8 41), .lit (.int .u8 37), .lit (.int .u8 16), .lit (.int .u8 46), .lit (.int .u8 35), .lit (.int .u8 44), .lit (.int .u8 21), .lit (.int .u8 52), .lit (.int .u8 32), .lit (.int .u8 23), .lit (.int .u8 11), .lit (.int .u8 54), .lit (.int .u8 26), .lit (.int .u8 40), .lit (.int .u8 15), .lit (.int .u8 34), .lit (.int .u8 20), .lit (.int .u8 31), .lit (.int .u8 10), .lit (.int .u8 25), .lit (.int .u8 14), .lit (.int .u8 19), .lit (.int .u8 9), .lit (.int .u8 13), .lit (.int .u8 8), .lit (.int .u8 7), .lit (.int .u8 6)]
def laid_algorist_modular_signs {H : Type} : DataW H := .agg [.lit (.int .i64 0), .lit (.int .i64 1), .lit (.int .i64 0), .lit (.int .i64 (-1)), .lit (.int .i64 0), .lit (.int .i64 (-1)), .lit (.int .i64 0), .lit (.int .i64 1)]

/-- 'algoristlaw07.ProofMatchesReference': WHATEVER THE INPUT: true; the input reads as it did. -/
def proofMatchesReferenceSpec : ChangeSpec := { name := "proofMatchesReference", fn := fun _ => fun
  | [d1, d2, d3] => { results := [.lit (.bool true)], args := [d1, d2, d3] }
  | _ => none }
def proofMatchesReferenceRow : OpenClaim := { program := "ytkejceafemeifaagreatdoor", sum := "8b82b8cca6dae83ec2f80653d27dd585f7f995992078debaae0d41db1a2f6569", func := "algorist/algoristlaw07.ProofMatchesReference", spec := "proofMatchesReference", unfollowed := true, recurses := true, named := ["math/bits.deBruijn64tab", "math/bits.divideError", "math/bits.overflowError", "algorist/modular.signs"], apart := false, laid := [("math/bits.deBruijn64tab", laid_math_bits_deBruijn64tab), ("algorist/modular.signs", laid_algorist_modular_signs)] }
def ProofMatchesReferenceSaid : Prop := proofMatchesReferenceRow.holds Tryz.pinned (OpenSpec.ofChange proofMatchesReferenceSpec)

/-- ITS FALSE NEIGHBOUR: 'it returns false'. Refute it at one input. -/
def proofMatchesReferenceWrong : ChangeSpec := { name := "proofMatchesReference", fn := fun _ => fun
  | [d1, d2, d3] => { results := [.lit (.bool false)], args := [d1, d2, d3] }
  | _ => none }
def ProofMatchesReferenceWrongFalsely : Prop := proofMatchesReferenceRow.holds Tryz.pinned (OpenSpec.ofChange proofMatchesReferenceWrong)

/-- 'algoristlaw07.ProofSound': WHATEVER THE INPUT: true; the input reads as it did. -/
def proofSoundSpec : ChangeSpec := { name := "proofSound", fn := fun _ => fun
  | [d1, d2, d3] => { results := [.lit (.bool true)], args := [d1, d2, d3] }
  | _ => none }
def proofSoundRow : OpenClaim := { program := "ytkejceafemeifaagreatdoor", sum := "8b82b8cca6dae83ec2f80653d27dd585f7f995992078debaae0d41db1a2f6569", func := "algorist/algoristlaw07.ProofSound", spec := "proofSound", unfollowed := true, recurses := true, named := ["math/bits.deBruijn64tab", "math/bits.divideError", "math/bits.overflowError", "algorist/modular.signs"], apart := false, laid := [("math/bits.deBruijn64tab", laid_math_bits_deBruijn64tab), ("algorist/modular.signs", laid_algorist_modular_signs)] }
def ProofSoundSaid : Prop := proofSoundRow.holds Tryz.pinned (OpenSpec.ofChange proofSoundSpec)

/-- ITS FALSE NEIGHBOUR: 'it returns false'. Refute it at one input. -/
def proofSoundWrong : ChangeSpec := { name := "proofSound", fn := fun _ => fun
  | [d1, d2, d3] => { results := [.lit (.bool false)], args := [d1, d2, d3] }
  | _ => none }
def ProofSoundWrongFalsely : Prop := proofSoundRow.holds Tryz.pinned (OpenSpec.ofChange proofSoundWrong)

/-- 'algoristlaw07.ProofMakes': WHATEVER THE INPUT: true; the input reads as it did. -/
def proofMakesSpec : ChangeSpec := { name := "proofMakes", fn := fun _ => fun
  | [d1, d2] => { results := [.lit (.bool true)], args := [d1, d2] }
  | _ => none }
def proofMakesRow : OpenClaim := { program := "ytkejceafemeifaagreatdoor", sum := "8b82b8cca6dae83ec2f80653d27dd585f7f995992078debaae0d41db1a2f6569", func := "algorist/algoristlaw07.ProofMakes", spec := "proofMakes", unfollowed := true, recurses := true, named := ["math/bits.deBruijn64tab", "math/bits.divideError", "math/bits.overflowError", "algorist/modular.signs"], apart := false, laid := [("math/bits.deBruijn64tab", laid_math_bits_deBruijn64tab), ("algorist/modular.signs", laid_algorist_modular_signs)] }
def ProofMakesSaid : Prop := proofMakesRow.holds Tryz.pinned (OpenSpec.ofChange proofMakesSpec)

/-- ITS FALSE NEIGHBOUR: 'it returns false'. Refute it at one input. -/
def proofMakesWrong : ChangeSpec := { name := "proofMakes", fn := fun _ => fun
  | [d1, d2] => { results := [.lit (.bool false)], args := [d1, d2] }
  | _ => none }
def ProofMakesWrongFalsely : Prop := proofMakesRow.holds Tryz.pinned (OpenSpec.ofChange proofMakesWrong)

/-- 'algoristlaw07.ProofKinds': WHATEVER THE INPUT: true; the input reads as it did. -/
def proofKindsSpec : ChangeSpec := { name := "proofKinds", fn := fun _ => fun
  | [d1, d2] => { results := [.lit (.bool true)], args := [d1, d2] }
  | _ => none }
def proofKindsRow : OpenClaim := { program := "ytkejceafemeifaagreatdoor", sum := "8b82b8cca6dae83ec2f80653d27dd585f7f995992078debaae0d41db1a2f6569", func := "algorist/algoristlaw07.ProofKinds", spec := "proofKinds", unfollowed := true, recurses := true, named := ["math/bits.deBruijn64tab", "math/bits.divideError", "math/bits.overflowError", "algorist/modular.signs"], apart := false, laid := [("math/bits.deBruijn64tab", laid_math_bits_deBruijn64tab), ("algorist/modular.signs", laid_algorist_modular_signs)] }
def ProofKindsSaid : Prop := proofKindsRow.holds Tryz.pinned (OpenSpec.ofChange proofKindsSpec)

/-- ITS FALSE NEIGHBOUR: 'it returns false'. Refute it at one input. -/
def proofKindsWrong : ChangeSpec := { name := "proofKinds", fn := fun _ => fun
  | [d1, d2] => { results := [.lit (.bool false)], args := [d1, d2] }
  | _ => none }
def ProofKindsWrongFalsely : Prop := proofKindsRow.holds Tryz.pinned (OpenSpec.ofChange proofKindsWrong)

/-- 'algoristlaw07.ProofParts': WHATEVER THE INPUT: true; the input reads as it did. -/
def proofPartsSpec : ChangeSpec := { name := "proofParts", fn := fun _ => fun
  | [d1, d2, d3] => { results := [.lit (.bool true)], args := [d1, d2, d3] }
  | _ => none }
def proofPartsRow : OpenClaim := { program := "ytkejceafemeifaagreatdoor", sum := "8b82b8cca6dae83ec2f80653d27dd585f7f995992078debaae0d41db1a2f6569", func := "algorist/algoristlaw07.ProofParts", spec := "proofParts", unfollowed := true, recurses := true, named := ["math/bits.deBruijn64tab", "math/bits.divideError", "math/bits.overflowError", "algorist/modular.signs"], apart := false, laid := [("math/bits.deBruijn64tab", laid_math_bits_deBruijn64tab), ("algorist/modular.signs", laid_algorist_modular_signs)] }
def ProofPartsSaid : Prop := proofPartsRow.holds Tryz.pinned (OpenSpec.ofChange proofPartsSpec)

/-- ITS FALSE NEIGHBOUR: 'it returns false'. Refute it at one input. -/
def proofPartsWrong : ChangeSpec := { name := "proofParts", fn := fun _ => fun
  | [d1, d2, d3] => { results := [.lit (.bool false)], args := [d1, d2, d3] }
  | _ => none }
def ProofPartsWrongFalsely : Prop := proofPartsRow.holds Tryz.pinned (OpenSpec.ofChange proofPartsWrong)

/-- 'algoristlaw07.ProofDenies': WHATEVER THE INPUT: true; the input reads as it did. -/
def proofDeniesSpec : ChangeSpec := { name := "proofDenies", fn := fun _ => fun
  | [d1, d2, d3] => { results := [.lit (.bool true)], args := [d1, d2, d3] }
  | _ => none }
def proofDeniesRow : OpenClaim := { program := "ytkejceafemeifaagreatdoor", sum := "8b82b8cca6dae83ec2f80653d27dd585f7f995992078debaae0d41db1a2f6569", func := "algorist/algoristlaw07.ProofDenies", spec := "proofDenies", unfollowed := true, recurses := true, named := ["math/bits.deBruijn64tab", "math/bits.divideError", "math/bits.overflowError", "algorist/modular.signs"], apart := false, laid := [("math/bits.deBruijn64tab", laid_math_bits_deBruijn64tab), ("algorist/modular.signs", laid_algorist_modular_signs)] }
def ProofDeniesSaid : Prop := proofDeniesRow.holds Tryz.pinned (OpenSpec.ofChange proofDeniesSpec)

/-- ITS FALSE NEIGHBOUR: 'it returns false'. Refute it at one input. -/
def proofDeniesWrong : ChangeSpec := { name := "proofDenies", fn := fun _ => fun
  | [d1, d2, d3] => { results := [.lit (.bool false)], args := [d1, d2, d3] }
  | _ => none }
def ProofDeniesWrongFalsely : Prop := proofDeniesRow.holds Tryz.pinned (OpenSpec.ofChange proofDeniesWrong)

/- THE SECOND FORM. 'bulk': how many values and letters a reading holds, each counted each time it is reached (what is shared counts as often as it is met; a slice's spare places count too). A statement '..UptoSaid' is the law's where the arguments, and the package variables that the reading takes, are together of bulk at most 1048576: NARROWER than '..Said'. Prove '..Said' where nothing that the law and all that it calls make is longer than what came in: it says more and counts as full. Else prove '..UptoSaid'. A law counts once. -/
mutual
def uptoBulk {H : Type} : DataW H → Nat
  | .lit (.string bytes) => bytes.length + 1
  | .lit _ => 1
  | .nil => 1
  | .ptr d => uptoBulk d + 1
  | .slice elems spare => uptoBulkAll elems + uptoBulkAll spare + 1
  | .agg parts => uptoBulkAll parts + 1
  | .iface _ d => uptoBulk d + 1
  | .map entries => uptoBulkEntries entries + 1
  | .held _ => 1
def uptoBulkAll {H : Type} : List (DataW H) → Nat
  | [] => 0
  | d :: r => uptoBulk d + uptoBulkAll r
def uptoBulkEntries {H : Type} : List (Lit × DataW H) → Nat
  | [] => 0
  | x :: r => uptoBulkEntry x + uptoBulkEntries r
def uptoBulkEntry {H : Type} : Lit × DataW H → Nat
  | (.string bytes, d) => bytes.length + uptoBulk d + 1
  | (_, d) => uptoBulk d + 1
 end
def uptoSmall : (H : Type) → List (DataW H) → Bool := fun _ ds => decide (uptoBulkAll ds ≤ 1048576)
def OpenSpec.upto (s : _root_.Go.ChangeSpec) : _root_.Go.OpenSpec := { _root_.Go.OpenSpec.ofChange s with cond := some uptoSmall }

/-- 'algoristlaw07.ProofMatchesReference', WHERE WHAT IT READS IS OF BULK AT MOST 1048576: true; the input reads as it did. -/
def proofMatchesReferenceUptoRow : OpenClaim := { program := "ytkejceafemeifaagreatdoor", sum := "8b82b8cca6dae83ec2f80653d27dd585f7f995992078debaae0d41db1a2f6569", func := "algorist/algoristlaw07.ProofMatchesReference", spec := "proofMatchesReference", unfollowed := true, recurses := true, named := ["math/bits.deBruijn64tab", "math/bits.divideError", "math/bits.overflowError", "algorist/modular.signs"], apart := false, laid := [("math/bits.deBruijn64tab", laid_math_bits_deBruijn64tab), ("algorist/modular.signs", laid_algorist_modular_signs)], narrowed := true }
def ProofMatchesReferenceUptoSaid : Prop := proofMatchesReferenceUptoRow.holds Tryz.pinned (OpenSpec.upto proofMatchesReferenceSpec)

/-- 'algoristlaw07.ProofSound', WHERE WHAT IT READS IS OF BULK AT MOST 1048576: true; the input reads as it did. -/
def proofSoundUptoRow : OpenClaim := { program := "ytkejceafemeifaagreatdoor", sum := "8b82b8cca6dae83ec2f80653d27dd585f7f995992078debaae0d41db1a2f6569", func := "algorist/algoristlaw07.ProofSound", spec := "proofSound", unfollowed := true, recurses := true, named := ["math/bits.deBruijn64tab", "math/bits.divideError", "math/bits.overflowError", "algorist/modular.signs"], apart := false, laid := [("math/bits.deBruijn64tab", laid_math_bits_deBruijn64tab), ("algorist/modular.signs", laid_algorist_modular_signs)], narrowed := true }
def ProofSoundUptoSaid : Prop := proofSoundUptoRow.holds Tryz.pinned (OpenSpec.upto proofSoundSpec)

/-- 'algoristlaw07.ProofMakes', WHERE WHAT IT READS IS OF BULK AT MOST 1048576: true; the input reads as it did. -/
def proofMakesUptoRow : OpenClaim := { program := "ytkejceafemeifaagreatdoor", sum := "8b82b8cca6dae83ec2f80653d27dd585f7f995992078debaae0d41db1a2f6569", func := "algorist/algoristlaw07.ProofMakes", spec := "proofMakes", unfollowed := true, recurses := true, named := ["math/bits.deBruijn64tab", "math/bits.divideError", "math/bits.overflowError", "algorist/modular.signs"], apart := false, laid := [("math/bits.deBruijn64tab", laid_math_bits_deBruijn64tab), ("algorist/modular.signs", laid_algorist_modular_signs)], narrowed := true }
def ProofMakesUptoSaid : Prop := proofMakesUptoRow.holds Tryz.pinned (OpenSpec.upto proofMakesSpec)

/-- 'algoristlaw07.ProofKinds', WHERE WHAT IT READS IS OF BULK AT MOST 1048576: true; the input reads as it did. -/
def proofKindsUptoRow : OpenClaim := { program := "ytkejceafemeifaagreatdoor", sum := "8b82b8cca6dae83ec2f80653d27dd585f7f995992078debaae0d41db1a2f6569", func := "algorist/algoristlaw07.ProofKinds", spec := "proofKinds", unfollowed := true, recurses := true, named := ["math/bits.deBruijn64tab", "math/bits.divideError", "math/bits.overflowError", "algorist/modular.signs"], apart := false, laid := [("math/bits.deBruijn64tab", laid_math_bits_deBruijn64tab), ("algorist/modular.signs", laid_algorist_modular_signs)], narrowed := true }
def ProofKindsUptoSaid : Prop := proofKindsUptoRow.holds Tryz.pinned (OpenSpec.upto proofKindsSpec)

/-- 'algoristlaw07.ProofParts', WHERE WHAT IT READS IS OF BULK AT MOST 1048576: true; the input reads as it did. -/
def proofPartsUptoRow : OpenClaim := { program := "ytkejceafemeifaagreatdoor", sum := "8b82b8cca6dae83ec2f80653d27dd585f7f995992078debaae0d41db1a2f6569", func := "algorist/algoristlaw07.ProofParts", spec := "proofParts", unfollowed := true, recurses := true, named := ["math/bits.deBruijn64tab", "math/bits.divideError", "math/bits.overflowError", "algorist/modular.signs"], apart := false, laid := [("math/bits.deBruijn64tab", laid_math_bits_deBruijn64tab), ("algorist/modular.signs", laid_algorist_modular_signs)], narrowed := true }
def ProofPartsUptoSaid : Prop := proofPartsUptoRow.holds Tryz.pinned (OpenSpec.upto proofPartsSpec)

/-- 'algoristlaw07.ProofDenies', WHERE WHAT IT READS IS OF BULK AT MOST 1048576: true; the input reads as it did. -/
def proofDeniesUptoRow : OpenClaim := { program := "ytkejceafemeifaagreatdoor", sum := "8b82b8cca6dae83ec2f80653d27dd585f7f995992078debaae0d41db1a2f6569", func := "algorist/algoristlaw07.ProofDenies", spec := "proofDenies", unfollowed := true, recurses := true, named := ["math/bits.deBruijn64tab", "math/bits.divideError", "math/bits.overflowError", "algorist/modular.signs"], apart := false, laid := [("math/bits.deBruijn64tab", laid_math_bits_deBruijn64tab), ("algorist/modular.signs", laid_algorist_modular_signs)], narrowed := true }
def ProofDeniesUptoSaid : Prop := proofDeniesUptoRow.holds Tryz.pinned (OpenSpec.upto proofDeniesSpec)

end Rows
end Go.Proofs.YtkejceafemeifaaGreatDoor
