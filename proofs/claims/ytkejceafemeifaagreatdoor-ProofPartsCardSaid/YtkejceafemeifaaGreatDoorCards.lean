/-
  DERIVED. GIVEN WITH THE SEED: THE CARDS: each row of YtkejceafemeifaaGreatDoorRows.lean that lists a variable, with what it lists TIED to the program's text (the seventh form; the later family's looks); each row that meets fmt, with fmt's text TOLD by the authors' own Lean function (tested against real Go, not proved from fmt's source: count such statements apart). THE CARD IS WHAT COUNTS. Prove the row's statement (the work); the ties are given (YtkejceafemeifaaGreatDoorTie.lean); close each card by the builder's one call (the guide's Derived/Test/ToyasCard.lean, 'card_holds'). Laid BY PROGRAM, IN A SANDBOX (cutbox-door.mjs). By AI agents, Wed Nov 11 2026. No macro, syntax, notation, axiom, sorry.
-/
import Derived.Test.YtkejceafemeifaaGreatDoorRows
import GoSem.ClaimSeven
namespace Go.Proofs.YtkejceafemeifaaGreatDoor
namespace Rows

/-- THE TIED CARD OF 'algoristlaw07.ProofMatchesReference'. -/
def proofMatchesReferenceCard : Claim7 := { stood := { row := proofMatchesReferenceRow, standIns := [], harness := (true, "52d40c01190fe94ecaf83586f22a77b22b28f52565d537f446449226f04bc4a3"), looks := true }, kinds := [], alts := [], laidByText := true, laidKinds := [.data, .data], laidTests := true, laidLooks := .later }
def ProofMatchesReferenceCardSaid : Prop := Claim7.holds Tryz.pinned (.plain (OpenSpec.ofChange proofMatchesReferenceSpec)) proofMatchesReferenceCard

/-- THE TIED CARD OF 'algoristlaw07.ProofSound'. -/
def proofSoundCard : Claim7 := { stood := { row := proofSoundRow, standIns := [], harness := (true, "52d40c01190fe94ecaf83586f22a77b22b28f52565d537f446449226f04bc4a3"), looks := true }, kinds := [], alts := [], laidByText := true, laidKinds := [.data, .data], laidTests := true, laidLooks := .later }
def ProofSoundCardSaid : Prop := Claim7.holds Tryz.pinned (.plain (OpenSpec.ofChange proofSoundSpec)) proofSoundCard

/-- THE TIED CARD OF 'algoristlaw07.ProofMakes'. -/
def proofMakesCard : Claim7 := { stood := { row := proofMakesRow, standIns := [], harness := (true, "52d40c01190fe94ecaf83586f22a77b22b28f52565d537f446449226f04bc4a3"), looks := true }, kinds := [], alts := [], laidByText := true, laidKinds := [.data, .data], laidTests := true, laidLooks := .later }
def ProofMakesCardSaid : Prop := Claim7.holds Tryz.pinned (.plain (OpenSpec.ofChange proofMakesSpec)) proofMakesCard

/-- THE TIED CARD OF 'algoristlaw07.ProofKinds'. -/
def proofKindsCard : Claim7 := { stood := { row := proofKindsRow, standIns := [], harness := (true, "52d40c01190fe94ecaf83586f22a77b22b28f52565d537f446449226f04bc4a3"), looks := true }, kinds := [], alts := [], laidByText := true, laidKinds := [.data, .data], laidTests := true, laidLooks := .later }
def ProofKindsCardSaid : Prop := Claim7.holds Tryz.pinned (.plain (OpenSpec.ofChange proofKindsSpec)) proofKindsCard

/-- THE TIED CARD OF 'algoristlaw07.ProofParts'. -/
def proofPartsCard : Claim7 := { stood := { row := proofPartsRow, standIns := [], harness := (true, "52d40c01190fe94ecaf83586f22a77b22b28f52565d537f446449226f04bc4a3"), looks := true }, kinds := [], alts := [], laidByText := true, laidKinds := [.data, .data], laidTests := true, laidLooks := .later }
def ProofPartsCardSaid : Prop := Claim7.holds Tryz.pinned (.plain (OpenSpec.ofChange proofPartsSpec)) proofPartsCard

/-- THE TIED CARD OF 'algoristlaw07.ProofDenies'. -/
def proofDeniesCard : Claim7 := { stood := { row := proofDeniesRow, standIns := [], harness := (true, "52d40c01190fe94ecaf83586f22a77b22b28f52565d537f446449226f04bc4a3"), looks := true }, kinds := [], alts := [], laidByText := true, laidKinds := [.data, .data], laidTests := true, laidLooks := .later }
def ProofDeniesCardSaid : Prop := Claim7.holds Tryz.pinned (.plain (OpenSpec.ofChange proofDeniesSpec)) proofDeniesCard

/-- THE SECOND FORM's CARD OF 'algoristlaw07.ProofMatchesReference'. -/
def proofMatchesReferenceUptoCard : Claim7 := { stood := { row := proofMatchesReferenceUptoRow, standIns := [], harness := (true, "52d40c01190fe94ecaf83586f22a77b22b28f52565d537f446449226f04bc4a3"), looks := true }, kinds := [], alts := [], laidByText := true, laidKinds := [.data, .data], laidTests := true, laidLooks := .later }
def ProofMatchesReferenceUptoCardSaid : Prop := Claim7.holds Tryz.pinned (.plain (OpenSpec.upto proofMatchesReferenceSpec)) proofMatchesReferenceUptoCard

/-- THE SECOND FORM's CARD OF 'algoristlaw07.ProofSound'. -/
def proofSoundUptoCard : Claim7 := { stood := { row := proofSoundUptoRow, standIns := [], harness := (true, "52d40c01190fe94ecaf83586f22a77b22b28f52565d537f446449226f04bc4a3"), looks := true }, kinds := [], alts := [], laidByText := true, laidKinds := [.data, .data], laidTests := true, laidLooks := .later }
def ProofSoundUptoCardSaid : Prop := Claim7.holds Tryz.pinned (.plain (OpenSpec.upto proofSoundSpec)) proofSoundUptoCard

/-- THE SECOND FORM's CARD OF 'algoristlaw07.ProofMakes'. -/
def proofMakesUptoCard : Claim7 := { stood := { row := proofMakesUptoRow, standIns := [], harness := (true, "52d40c01190fe94ecaf83586f22a77b22b28f52565d537f446449226f04bc4a3"), looks := true }, kinds := [], alts := [], laidByText := true, laidKinds := [.data, .data], laidTests := true, laidLooks := .later }
def ProofMakesUptoCardSaid : Prop := Claim7.holds Tryz.pinned (.plain (OpenSpec.upto proofMakesSpec)) proofMakesUptoCard

/-- THE SECOND FORM's CARD OF 'algoristlaw07.ProofKinds'. -/
def proofKindsUptoCard : Claim7 := { stood := { row := proofKindsUptoRow, standIns := [], harness := (true, "52d40c01190fe94ecaf83586f22a77b22b28f52565d537f446449226f04bc4a3"), looks := true }, kinds := [], alts := [], laidByText := true, laidKinds := [.data, .data], laidTests := true, laidLooks := .later }
def ProofKindsUptoCardSaid : Prop := Claim7.holds Tryz.pinned (.plain (OpenSpec.upto proofKindsSpec)) proofKindsUptoCard

/-- THE SECOND FORM's CARD OF 'algoristlaw07.ProofParts'. -/
def proofPartsUptoCard : Claim7 := { stood := { row := proofPartsUptoRow, standIns := [], harness := (true, "52d40c01190fe94ecaf83586f22a77b22b28f52565d537f446449226f04bc4a3"), looks := true }, kinds := [], alts := [], laidByText := true, laidKinds := [.data, .data], laidTests := true, laidLooks := .later }
def ProofPartsUptoCardSaid : Prop := Claim7.holds Tryz.pinned (.plain (OpenSpec.upto proofPartsSpec)) proofPartsUptoCard

/-- THE SECOND FORM's CARD OF 'algoristlaw07.ProofDenies'. -/
def proofDeniesUptoCard : Claim7 := { stood := { row := proofDeniesUptoRow, standIns := [], harness := (true, "52d40c01190fe94ecaf83586f22a77b22b28f52565d537f446449226f04bc4a3"), looks := true }, kinds := [], alts := [], laidByText := true, laidKinds := [.data, .data], laidTests := true, laidLooks := .later }
def ProofDeniesUptoCardSaid : Prop := Claim7.holds Tryz.pinned (.plain (OpenSpec.upto proofDeniesSpec)) proofDeniesUptoCard
end Rows
end Go.Proofs.YtkejceafemeifaaGreatDoor
