/-
  DERIVED. GIVEN WITH THE SEED: THE CARDS: each row of YtcikhffhikgahaaDoorRows.lean that lists a variable, with what it lists TIED to the program's text (the seventh form; the later family's looks); each row that meets fmt, with fmt's text TOLD by the authors' own Lean function (tested against real Go, not proved from fmt's source: count such statements apart). THE CARD IS WHAT COUNTS. Prove the row's statement (the work); the ties are given (YtcikhffhikgahaaDoorTie.lean); close each card by the builder's one call (the guide's Derived/Test/ToyasCard.lean, 'card_holds'). Laid BY PROGRAM, IN A SANDBOX (cutbox-door.mjs). By AI agents, Wed Nov 11 2026. No macro, syntax, notation, axiom, sorry.
-/
import Derived.Test.YtcikhffhikgahaaDoorRows
import GoSem.ClaimSeven
namespace Go.Proofs.YtcikhffhikgahaaDoor
namespace Rows

/-- THE TIED CARD OF 'algoristlaw03.ModularEuler'. -/
def modularEulerCard : Claim7 := { stood := { row := modularEulerRow, standIns := [], harness := (true, "ae880acedfe3fc5cbcd46a41e646ac6e56fb8240f942bbb1fc40ba7f646419bf"), looks := false }, kinds := [], alts := [], laidByText := true, laidKinds := [.data], laidTests := true, laidLooks := .later }
def ModularEulerCardSaid : Prop := Claim7.holds Tryd.pinned (.plain (OpenSpec.ofChange modularEulerSpec)) modularEulerCard

/-- THE TIED CARD OF 'algoristlaw03.ModularAllRoots'. -/
def modularAllRootsCard : Claim7 := { stood := { row := modularAllRootsRow, standIns := [], harness := (true, "ae880acedfe3fc5cbcd46a41e646ac6e56fb8240f942bbb1fc40ba7f646419bf"), looks := false }, kinds := [], alts := [], laidByText := true, laidKinds := [.data], laidTests := true, laidLooks := .later }
def ModularAllRootsCardSaid : Prop := Claim7.holds Tryd.pinned (.plain (OpenSpec.ofChange modularAllRootsSpec)) modularAllRootsCard

/-- THE TIED CARD OF 'algoristlaw03.ModularMatchesReference'. -/
def modularMatchesReferenceCard : Claim7 := { stood := { row := modularMatchesReferenceRow, standIns := [], harness := (true, "ae880acedfe3fc5cbcd46a41e646ac6e56fb8240f942bbb1fc40ba7f646419bf"), looks := false }, kinds := [], alts := [], laidByText := true, laidKinds := [.data], laidTests := true, laidLooks := .later }
def ModularMatchesReferenceCardSaid : Prop := Claim7.holds Tryd.pinned (.plain (OpenSpec.ofChange modularMatchesReferenceSpec)) modularMatchesReferenceCard

/-- THE TIED CARD OF 'algoristlaw03.ModularRoots'. -/
def modularRootsCard : Claim7 := { stood := { row := modularRootsRow, standIns := [], harness := (true, "ae880acedfe3fc5cbcd46a41e646ac6e56fb8240f942bbb1fc40ba7f646419bf"), looks := false }, kinds := [], alts := [], laidByText := true, laidKinds := [.data], laidTests := true, laidLooks := .later }
def ModularRootsCardSaid : Prop := Claim7.holds Tryd.pinned (.plain (OpenSpec.ofChange modularRootsSpec)) modularRootsCard

/-- THE TIED CARD OF 'algoristlaw03.ModularPowers'. -/
def modularPowersCard : Claim7 := { stood := { row := modularPowersRow, standIns := [], harness := (true, "ae880acedfe3fc5cbcd46a41e646ac6e56fb8240f942bbb1fc40ba7f646419bf"), looks := false }, kinds := [], alts := [], laidByText := true, laidKinds := [.data], laidTests := true, laidLooks := .later }
def ModularPowersCardSaid : Prop := Claim7.holds Tryd.pinned (.plain (OpenSpec.ofChange modularPowersSpec)) modularPowersCard

/-- THE TIED CARD OF 'algoristlaw03.ModularSymbols'. -/
def modularSymbolsCard : Claim7 := { stood := { row := modularSymbolsRow, standIns := [], harness := (true, "ae880acedfe3fc5cbcd46a41e646ac6e56fb8240f942bbb1fc40ba7f646419bf"), looks := false }, kinds := [], alts := [], laidByText := true, laidKinds := [.data], laidTests := true, laidLooks := .later }
def ModularSymbolsCardSaid : Prop := Claim7.holds Tryd.pinned (.plain (OpenSpec.ofChange modularSymbolsSpec)) modularSymbolsCard

/-- THE TIED CARD OF 'algoristlaw03.ModularCongruences'. -/
def modularCongruencesCard : Claim7 := { stood := { row := modularCongruencesRow, standIns := [], harness := (true, "ae880acedfe3fc5cbcd46a41e646ac6e56fb8240f942bbb1fc40ba7f646419bf"), looks := false }, kinds := [], alts := [], laidByText := true, laidKinds := [.data], laidTests := true, laidLooks := .later }
def ModularCongruencesCardSaid : Prop := Claim7.holds Tryd.pinned (.plain (OpenSpec.ofChange modularCongruencesSpec)) modularCongruencesCard

/-- THE SECOND FORM's CARD OF 'algoristlaw03.ModularEuler'. -/
def modularEulerUptoCard : Claim7 := { stood := { row := modularEulerUptoRow, standIns := [], harness := (true, "ae880acedfe3fc5cbcd46a41e646ac6e56fb8240f942bbb1fc40ba7f646419bf"), looks := false }, kinds := [], alts := [], laidByText := true, laidKinds := [.data], laidTests := true, laidLooks := .later }
def ModularEulerUptoCardSaid : Prop := Claim7.holds Tryd.pinned (.plain (OpenSpec.upto modularEulerSpec)) modularEulerUptoCard

/-- THE SECOND FORM's CARD OF 'algoristlaw03.ModularAllRoots'. -/
def modularAllRootsUptoCard : Claim7 := { stood := { row := modularAllRootsUptoRow, standIns := [], harness := (true, "ae880acedfe3fc5cbcd46a41e646ac6e56fb8240f942bbb1fc40ba7f646419bf"), looks := false }, kinds := [], alts := [], laidByText := true, laidKinds := [.data], laidTests := true, laidLooks := .later }
def ModularAllRootsUptoCardSaid : Prop := Claim7.holds Tryd.pinned (.plain (OpenSpec.upto modularAllRootsSpec)) modularAllRootsUptoCard

/-- THE SECOND FORM's CARD OF 'algoristlaw03.ModularMatchesReference'. -/
def modularMatchesReferenceUptoCard : Claim7 := { stood := { row := modularMatchesReferenceUptoRow, standIns := [], harness := (true, "ae880acedfe3fc5cbcd46a41e646ac6e56fb8240f942bbb1fc40ba7f646419bf"), looks := false }, kinds := [], alts := [], laidByText := true, laidKinds := [.data], laidTests := true, laidLooks := .later }
def ModularMatchesReferenceUptoCardSaid : Prop := Claim7.holds Tryd.pinned (.plain (OpenSpec.upto modularMatchesReferenceSpec)) modularMatchesReferenceUptoCard

/-- THE SECOND FORM's CARD OF 'algoristlaw03.ModularRoots'. -/
def modularRootsUptoCard : Claim7 := { stood := { row := modularRootsUptoRow, standIns := [], harness := (true, "ae880acedfe3fc5cbcd46a41e646ac6e56fb8240f942bbb1fc40ba7f646419bf"), looks := false }, kinds := [], alts := [], laidByText := true, laidKinds := [.data], laidTests := true, laidLooks := .later }
def ModularRootsUptoCardSaid : Prop := Claim7.holds Tryd.pinned (.plain (OpenSpec.upto modularRootsSpec)) modularRootsUptoCard

/-- THE SECOND FORM's CARD OF 'algoristlaw03.ModularPowers'. -/
def modularPowersUptoCard : Claim7 := { stood := { row := modularPowersUptoRow, standIns := [], harness := (true, "ae880acedfe3fc5cbcd46a41e646ac6e56fb8240f942bbb1fc40ba7f646419bf"), looks := false }, kinds := [], alts := [], laidByText := true, laidKinds := [.data], laidTests := true, laidLooks := .later }
def ModularPowersUptoCardSaid : Prop := Claim7.holds Tryd.pinned (.plain (OpenSpec.upto modularPowersSpec)) modularPowersUptoCard

/-- THE SECOND FORM's CARD OF 'algoristlaw03.ModularSymbols'. -/
def modularSymbolsUptoCard : Claim7 := { stood := { row := modularSymbolsUptoRow, standIns := [], harness := (true, "ae880acedfe3fc5cbcd46a41e646ac6e56fb8240f942bbb1fc40ba7f646419bf"), looks := false }, kinds := [], alts := [], laidByText := true, laidKinds := [.data], laidTests := true, laidLooks := .later }
def ModularSymbolsUptoCardSaid : Prop := Claim7.holds Tryd.pinned (.plain (OpenSpec.upto modularSymbolsSpec)) modularSymbolsUptoCard

/-- THE SECOND FORM's CARD OF 'algoristlaw03.ModularCongruences'. -/
def modularCongruencesUptoCard : Claim7 := { stood := { row := modularCongruencesUptoRow, standIns := [], harness := (true, "ae880acedfe3fc5cbcd46a41e646ac6e56fb8240f942bbb1fc40ba7f646419bf"), looks := false }, kinds := [], alts := [], laidByText := true, laidKinds := [.data], laidTests := true, laidLooks := .later }
def ModularCongruencesUptoCardSaid : Prop := Claim7.holds Tryd.pinned (.plain (OpenSpec.upto modularCongruencesSpec)) modularCongruencesUptoCard
end Rows
end Go.Proofs.YtcikhffhikgahaaDoor
