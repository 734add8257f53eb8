/-
  DERIVED. GIVEN WITH THE SEED: THE CARDS: each row of YtmjklcpdfmgcaaaDoorRows.lean that lists a variable, with what it lists TIED to the program's text (the seventh form; the later family's looks); each row that meets fmt, with fmt's text TOLD by the authors' own Lean function (tested against real Go, not proved from fmt's source: count such statements apart). THE CARD IS WHAT COUNTS. Prove the row's statement (the work); the ties are given (YtmjklcpdfmgcaaaDoorTie.lean); close each card by the builder's one call (the guide's Derived/Test/ToyasCard.lean, 'card_holds'). Laid BY PROGRAM, IN A SANDBOX (cutbox-door.mjs). By AI agents, Wed Nov 11 2026. No macro, syntax, notation, axiom, sorry.
-/
import Derived.Test.YtmjklcpdfmgcaaaDoorRows
import GoSem.ClaimSeven
namespace Go.Proofs.YtmjklcpdfmgcaaaDoor
namespace Rows

/-- THE TIED CARD OF 'algoristlaw04.PrimeMatchesReference'. -/
def primeMatchesReferenceCard : Claim7 := { stood := { row := primeMatchesReferenceRow, standIns := [], harness := (true, "399f7d14fbc48cb0d1b2f54e69cab9aaaf667570add0e93d7c885f3a467fe152"), looks := false }, kinds := [], alts := [], laidByText := true, laidKinds := [.data], laidTests := true, laidLooks := .later }
def PrimeMatchesReferenceCardSaid : Prop := Claim7.holds Tryd.pinned (.plain (OpenSpec.ofChange primeMatchesReferenceSpec)) primeMatchesReferenceCard

/-- THE TIED CARD OF 'algoristlaw04.PrimeSieve'. -/
def primeSieveCard : Claim7 := { stood := { row := primeSieveRow, standIns := [], harness := (true, "399f7d14fbc48cb0d1b2f54e69cab9aaaf667570add0e93d7c885f3a467fe152"), looks := false }, kinds := [], alts := [], laidByText := true, laidKinds := [.data], laidTests := true, laidLooks := .later }
def PrimeSieveCardSaid : Prop := Claim7.holds Tryd.pinned (.plain (OpenSpec.ofChange primeSieveSpec)) primeSieveCard

/-- THE TIED CARD OF 'algoristlaw04.PrimeBases'. -/
def primeBasesCard : Claim7 := { stood := { row := primeBasesRow, standIns := [], harness := (true, "399f7d14fbc48cb0d1b2f54e69cab9aaaf667570add0e93d7c885f3a467fe152"), looks := false }, kinds := [], alts := [], laidByText := true, laidKinds := [.data], laidTests := true, laidLooks := .later }
def PrimeBasesCardSaid : Prop := Claim7.holds Tryd.pinned (.plain (OpenSpec.ofChange primeBasesSpec)) primeBasesCard

/-- THE SECOND FORM's CARD OF 'algoristlaw04.PrimeMatchesReference'. -/
def primeMatchesReferenceUptoCard : Claim7 := { stood := { row := primeMatchesReferenceUptoRow, standIns := [], harness := (true, "399f7d14fbc48cb0d1b2f54e69cab9aaaf667570add0e93d7c885f3a467fe152"), looks := false }, kinds := [], alts := [], laidByText := true, laidKinds := [.data], laidTests := true, laidLooks := .later }
def PrimeMatchesReferenceUptoCardSaid : Prop := Claim7.holds Tryd.pinned (.plain (OpenSpec.upto primeMatchesReferenceSpec)) primeMatchesReferenceUptoCard

/-- THE SECOND FORM's CARD OF 'algoristlaw04.PrimeSieve'. -/
def primeSieveUptoCard : Claim7 := { stood := { row := primeSieveUptoRow, standIns := [], harness := (true, "399f7d14fbc48cb0d1b2f54e69cab9aaaf667570add0e93d7c885f3a467fe152"), looks := false }, kinds := [], alts := [], laidByText := true, laidKinds := [.data], laidTests := true, laidLooks := .later }
def PrimeSieveUptoCardSaid : Prop := Claim7.holds Tryd.pinned (.plain (OpenSpec.upto primeSieveSpec)) primeSieveUptoCard

/-- THE SECOND FORM's CARD OF 'algoristlaw04.PrimeBases'. -/
def primeBasesUptoCard : Claim7 := { stood := { row := primeBasesUptoRow, standIns := [], harness := (true, "399f7d14fbc48cb0d1b2f54e69cab9aaaf667570add0e93d7c885f3a467fe152"), looks := false }, kinds := [], alts := [], laidByText := true, laidKinds := [.data], laidTests := true, laidLooks := .later }
def PrimeBasesUptoCardSaid : Prop := Claim7.holds Tryd.pinned (.plain (OpenSpec.upto primeBasesSpec)) primeBasesUptoCard
end Rows
end Go.Proofs.YtmjklcpdfmgcaaaDoor
