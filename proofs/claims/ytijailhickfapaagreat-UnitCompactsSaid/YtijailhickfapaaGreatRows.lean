/-
  No cell of these rows narrows 'for every input' (looked for: loops, veiled, ifaces, maps, wideKeys, modest, calm, conditions, laid).
  DERIVED. THE GIVEN ROWS OF THIS SEAT. 8 by the template 'for every input the law returns true; each argument reads behind the call as it read before'; 0 by the template 'total and deterministic' (their statements: YtijailhickfapaaGreatTotals.lean).
  GIVEN WITH THE SEED: the statements are not yours to turn. If you find one false, say at which input.
  Laid BY PROGRAM, IN A SANDBOX (cutbox-rows.mjs): the forced cells as the released guide's own fill.sh prints them over the translation 950c1418363bcc9f… (all of the seat's roots in one cut). By AI agents, Wed Nov 11 2026. No macro, syntax, notation, axiom, sorry.
-/
import Derived.Test.YtijailhickfapaaGreatChecked
import GoSem.Claim
import GoSem.ClaimJoined
import GoSem.ClaimMapViews
import Derived.JoinedTies
import Derived.KernelRfl
namespace Go.Proofs.YtijailhickfapaaGreat
/- THE CELL 'sum', in the pinned program and in every row, IS THE sha256 OF THE DUMP (.gsa) THAT YtijailhickfapaaGreatProg.lean LOADS. Nothing in Lean hashes anything: it is a label: what it is worth is what the hold of that sum in a sandbox is worth. -/
noncomputable def Tryz.pinned : Pinned := { name := "ytijailhickfapaagreat", sum := "950c1418363bcc9f4ff4b6806481081187b1edf7eae35795b715d26d0147eca6", checked := Tryz.checked }
namespace Rows
def none {H : Type} : Left H := { results := [], args := [] }

/-- 'algoristlaw18.UnitMatchesReference': WHATEVER THE INPUT: true; the input reads as it did. -/
def unitMatchesReferenceSpec : ChangeSpec := { name := "unitMatchesReference", fn := fun _ => fun
  | [d1, d2, d3] => { results := [.lit (.bool true)], args := [d1, d2, d3] }
  | _ => none }
def unitMatchesReferenceRow : OpenClaim := { program := "ytijailhickfapaagreat", sum := "950c1418363bcc9f4ff4b6806481081187b1edf7eae35795b715d26d0147eca6", func := "algorist/algoristlaw18.UnitMatchesReference", spec := "unitMatchesReference", unfollowed := true, recurses := true, named := ["math/bits.overflowError"], plainKeys := false, apart := false }
def UnitMatchesReferenceSaid : Prop := unitMatchesReferenceRow.holds Tryz.pinned (OpenSpec.ofChange unitMatchesReferenceSpec)

/-- ITS FALSE NEIGHBOUR: 'it returns false'. Refute it at one input. -/
def unitMatchesReferenceWrong : ChangeSpec := { name := "unitMatchesReference", fn := fun _ => fun
  | [d1, d2, d3] => { results := [.lit (.bool false)], args := [d1, d2, d3] }
  | _ => none }
def UnitMatchesReferenceWrongFalsely : Prop := unitMatchesReferenceRow.holds Tryz.pinned (OpenSpec.ofChange unitMatchesReferenceWrong)

/-- 'algoristlaw18.UnitProducts': WHATEVER THE INPUT: true; the input reads as it did. -/
def unitProductsSpec : ChangeSpec := { name := "unitProducts", fn := fun _ => fun
  | [d1, d2, d3] => { results := [.lit (.bool true)], args := [d1, d2, d3] }
  | _ => none }
def unitProductsRow : OpenClaim := { program := "ytijailhickfapaagreat", sum := "950c1418363bcc9f4ff4b6806481081187b1edf7eae35795b715d26d0147eca6", func := "algorist/algoristlaw18.UnitProducts", spec := "unitProducts", unfollowed := true, recurses := true, named := ["math/bits.overflowError"], plainKeys := false, apart := false }
def UnitProductsSaid : Prop := unitProductsRow.holds Tryz.pinned (OpenSpec.ofChange unitProductsSpec)

/-- ITS FALSE NEIGHBOUR: 'it returns false'. Refute it at one input. -/
def unitProductsWrong : ChangeSpec := { name := "unitProducts", fn := fun _ => fun
  | [d1, d2, d3] => { results := [.lit (.bool false)], args := [d1, d2, d3] }
  | _ => none }
def UnitProductsWrongFalsely : Prop := unitProductsRow.holds Tryz.pinned (OpenSpec.ofChange unitProductsWrong)

/-- 'algoristlaw18.UnitLeast': WHATEVER THE INPUT: true; the input reads as it did. -/
def unitLeastSpec : ChangeSpec := { name := "unitLeast", fn := fun _ => fun
  | [d] => { results := [.lit (.bool true)], args := [d] }
  | _ => none }
def unitLeastRow : OpenClaim := { program := "ytijailhickfapaagreat", sum := "950c1418363bcc9f4ff4b6806481081187b1edf7eae35795b715d26d0147eca6", func := "algorist/algoristlaw18.UnitLeast", spec := "unitLeast", unfollowed := true, recurses := true, named := ["math/bits.overflowError"], plainKeys := false, apart := false }
def UnitLeastSaid : Prop := unitLeastRow.holds Tryz.pinned (OpenSpec.ofChange unitLeastSpec)

/-- ITS FALSE NEIGHBOUR: 'it returns false'. Refute it at one input. -/
def unitLeastWrong : ChangeSpec := { name := "unitLeast", fn := fun _ => fun
  | [d] => { results := [.lit (.bool false)], args := [d] }
  | _ => none }
def UnitLeastWrongFalsely : Prop := unitLeastRow.holds Tryz.pinned (OpenSpec.ofChange unitLeastWrong)

/-- 'algoristlaw18.UnitRing': WHATEVER THE INPUT: true; the input reads as it did. -/
def unitRingSpec : ChangeSpec := { name := "unitRing", fn := fun _ => fun
  | [d1, d2] => { results := [.lit (.bool true)], args := [d1, d2] }
  | _ => none }
def unitRingRow : OpenClaim := { program := "ytijailhickfapaagreat", sum := "950c1418363bcc9f4ff4b6806481081187b1edf7eae35795b715d26d0147eca6", func := "algorist/algoristlaw18.UnitRing", spec := "unitRing", unfollowed := true, recurses := true, named := ["math/bits.overflowError"], plainKeys := false, apart := false }
def UnitRingSaid : Prop := unitRingRow.holds Tryz.pinned (OpenSpec.ofChange unitRingSpec)

/-- ITS FALSE NEIGHBOUR: 'it returns false'. Refute it at one input. -/
def unitRingWrong : ChangeSpec := { name := "unitRing", fn := fun _ => fun
  | [d1, d2] => { results := [.lit (.bool false)], args := [d1, d2] }
  | _ => none }
def UnitRingWrongFalsely : Prop := unitRingRow.holds Tryz.pinned (OpenSpec.ofChange unitRingWrong)

/-- 'algoristlaw18.UnitPowers': WHATEVER THE INPUT: true; the input reads as it did. -/
def unitPowersSpec : ChangeSpec := { name := "unitPowers", fn := fun _ => fun
  | [d1, d2, d3] => { results := [.lit (.bool true)], args := [d1, d2, d3] }
  | _ => none }
def unitPowersRow : OpenClaim := { program := "ytijailhickfapaagreat", sum := "950c1418363bcc9f4ff4b6806481081187b1edf7eae35795b715d26d0147eca6", func := "algorist/algoristlaw18.UnitPowers", spec := "unitPowers", unfollowed := true, recurses := true, named := ["math/bits.overflowError"], plainKeys := false, apart := false }
def UnitPowersSaid : Prop := unitPowersRow.holds Tryz.pinned (OpenSpec.ofChange unitPowersSpec)

/-- ITS FALSE NEIGHBOUR: 'it returns false'. Refute it at one input. -/
def unitPowersWrong : ChangeSpec := { name := "unitPowers", fn := fun _ => fun
  | [d1, d2, d3] => { results := [.lit (.bool false)], args := [d1, d2, d3] }
  | _ => none }
def UnitPowersWrongFalsely : Prop := unitPowersRow.holds Tryz.pinned (OpenSpec.ofChange unitPowersWrong)

/-- 'algoristlaw18.UnitCompacts': WHATEVER THE INPUT: true; the input reads as it did. -/
def unitCompactsSpec : ChangeSpec := { name := "unitCompacts", fn := fun _ => fun
  | [d1, d2, d3] => { results := [.lit (.bool true)], args := [d1, d2, d3] }
  | _ => none }
def unitCompactsRow : OpenClaim := { program := "ytijailhickfapaagreat", sum := "950c1418363bcc9f4ff4b6806481081187b1edf7eae35795b715d26d0147eca6", func := "algorist/algoristlaw18.UnitCompacts", spec := "unitCompacts", unfollowed := true, recurses := true, named := ["math/bits.overflowError"], plainKeys := false, apart := false }
def UnitCompactsSaid : Prop := unitCompactsRow.holds Tryz.pinned (OpenSpec.ofChange unitCompactsSpec)

/-- ITS FALSE NEIGHBOUR: 'it returns false'. Refute it at one input. -/
def unitCompactsWrong : ChangeSpec := { name := "unitCompacts", fn := fun _ => fun
  | [d1, d2, d3] => { results := [.lit (.bool false)], args := [d1, d2, d3] }
  | _ => none }
def UnitCompactsWrongFalsely : Prop := unitCompactsRow.holds Tryz.pinned (OpenSpec.ofChange unitCompactsWrong)

/-- 'algoristlaw18.UnitLogs': WHATEVER THE INPUT: true; the input reads as it did. -/
def unitLogsSpec : ChangeSpec := { name := "unitLogs", fn := fun _ => fun
  | [d1, d2] => { results := [.lit (.bool true)], args := [d1, d2] }
  | _ => none }
def unitLogsRow : OpenClaim := { program := "ytijailhickfapaagreat", sum := "950c1418363bcc9f4ff4b6806481081187b1edf7eae35795b715d26d0147eca6", func := "algorist/algoristlaw18.UnitLogs", spec := "unitLogs", unfollowed := true, recurses := true, named := ["math/bits.overflowError"], plainKeys := false, apart := false }
def UnitLogsSaid : Prop := unitLogsRow.holds Tryz.pinned (OpenSpec.ofChange unitLogsSpec)

/-- ITS FALSE NEIGHBOUR: 'it returns false'. Refute it at one input. -/
def unitLogsWrong : ChangeSpec := { name := "unitLogs", fn := fun _ => fun
  | [d1, d2] => { results := [.lit (.bool false)], args := [d1, d2] }
  | _ => none }
def UnitLogsWrongFalsely : Prop := unitLogsRow.holds Tryz.pinned (OpenSpec.ofChange unitLogsWrong)

/-- 'algoristlaw18.UnitCycles': WHATEVER THE INPUT: true; the input reads as it did. -/
def unitCyclesSpec : ChangeSpec := { name := "unitCycles", fn := fun _ => fun
  | [d] => { results := [.lit (.bool true)], args := [d] }
  | _ => none }
def unitCyclesRow : OpenClaim := { program := "ytijailhickfapaagreat", sum := "950c1418363bcc9f4ff4b6806481081187b1edf7eae35795b715d26d0147eca6", func := "algorist/algoristlaw18.UnitCycles", spec := "unitCycles", unfollowed := true, recurses := true, named := ["math/bits.overflowError"], plainKeys := false, apart := false }
def UnitCyclesSaid : Prop := unitCyclesRow.holds Tryz.pinned (OpenSpec.ofChange unitCyclesSpec)

/-- ITS FALSE NEIGHBOUR: 'it returns false'. Refute it at one input. -/
def unitCyclesWrong : ChangeSpec := { name := "unitCycles", fn := fun _ => fun
  | [d] => { results := [.lit (.bool false)], args := [d] }
  | _ => none }
def UnitCyclesWrongFalsely : Prop := unitCyclesRow.holds Tryz.pinned (OpenSpec.ofChange unitCyclesWrong)

/- THE SECOND FORM. 'bulk': how many values and letters a reading holds, each counted each time it is reached (what is shared counts as often as it is met; a slice's spare places count too). A statement '..UptoSaid' is the law's where the arguments, and the package variables that the reading takes, are together of bulk at most 1048576: NARROWER than '..Said'. Prove '..Said' where nothing that the law and all that it calls make is longer than what came in: it says more and counts as full. Else prove '..UptoSaid'. A law counts once. -/
mutual
def uptoBulk {H : Type} : DataW H → Nat
  | .lit (.string bytes) => bytes.length + 1
  | .lit _ => 1
  | .nil => 1
  | .ptr d => uptoBulk d + 1
  | .slice elems spare => uptoBulkAll elems + uptoBulkAll spare + 1
  | .agg parts => uptoBulkAll parts + 1
  | .iface _ d => uptoBulk d + 1
  | .map entries => uptoBulkEntries entries + 1
  | .held _ => 1
def uptoBulkAll {H : Type} : List (DataW H) → Nat
  | [] => 0
  | d :: r => uptoBulk d + uptoBulkAll r
def uptoBulkEntries {H : Type} : List (Lit × DataW H) → Nat
  | [] => 0
  | x :: r => uptoBulkEntry x + uptoBulkEntries r
def uptoBulkEntry {H : Type} : Lit × DataW H → Nat
  | (.string bytes, d) => bytes.length + uptoBulk d + 1
  | (_, d) => uptoBulk d + 1
 end
def uptoSmall : (H : Type) → List (DataW H) → Bool := fun _ ds => decide (uptoBulkAll ds ≤ 1048576)
def OpenSpec.upto (s : _root_.Go.ChangeSpec) : _root_.Go.OpenSpec := { _root_.Go.OpenSpec.ofChange s with cond := some uptoSmall }

/-- 'algoristlaw18.UnitMatchesReference', WHERE WHAT IT READS IS OF BULK AT MOST 1048576: true; the input reads as it did. -/
def unitMatchesReferenceUptoRow : OpenClaim := { program := "ytijailhickfapaagreat", sum := "950c1418363bcc9f4ff4b6806481081187b1edf7eae35795b715d26d0147eca6", func := "algorist/algoristlaw18.UnitMatchesReference", spec := "unitMatchesReference", unfollowed := true, recurses := true, named := ["math/bits.overflowError"], plainKeys := false, apart := false, narrowed := true }
def UnitMatchesReferenceUptoSaid : Prop := unitMatchesReferenceUptoRow.holds Tryz.pinned (OpenSpec.upto unitMatchesReferenceSpec)

/-- 'algoristlaw18.UnitProducts', WHERE WHAT IT READS IS OF BULK AT MOST 1048576: true; the input reads as it did. -/
def unitProductsUptoRow : OpenClaim := { program := "ytijailhickfapaagreat", sum := "950c1418363bcc9f4ff4b6806481081187b1edf7eae35795b715d26d0147eca6", func := "algorist/algoristlaw18.UnitProducts", spec := "unitProducts", unfollowed := true, recurses := true, named := ["math/bits.overflowError"], plainKeys := false, apart := false, narrowed := true }
def UnitProductsUptoSaid : Prop := unitProductsUptoRow.holds Tryz.pinned (OpenSpec.upto unitProductsSpec)

/-- 'algoristlaw18.UnitLeast', WHERE WHAT IT READS IS OF BULK AT MOST 1048576: true; the input reads as it did. -/
def unitLeastUptoRow : OpenClaim := { program := "ytijailhickfapaagreat", sum := "950c1418363bcc9f4ff4b6806481081187b1edf7eae35795b715d26d0147eca6", func := "algorist/algoristlaw18.UnitLeast", spec := "unitLeast", unfollowed := true, recurses := true, named := ["math/bits.overflowError"], plainKeys := false, apart := false, narrowed := true }
def UnitLeastUptoSaid : Prop := unitLeastUptoRow.holds Tryz.pinned (OpenSpec.upto unitLeastSpec)

/-- 'algoristlaw18.UnitRing', WHERE WHAT IT READS IS OF BULK AT MOST 1048576: true; the input reads as it did. -/
def unitRingUptoRow : OpenClaim := { program := "ytijailhickfapaagreat", sum := "950c1418363bcc9f4ff4b6806481081187b1edf7eae35795b715d26d0147eca6", func := "algorist/algoristlaw18.UnitRing", spec := "unitRing", unfollowed := true, recurses := true, named := ["math/bits.overflowError"], plainKeys := false, apart := false, narrowed := true }
def UnitRingUptoSaid : Prop := unitRingUptoRow.holds Tryz.pinned (OpenSpec.upto unitRingSpec)

/-- 'algoristlaw18.UnitPowers', WHERE WHAT IT READS IS OF BULK AT MOST 1048576: true; the input reads as it did. -/
def unitPowersUptoRow : OpenClaim := { program := "ytijailhickfapaagreat", sum := "950c1418363bcc9f4ff4b6806481081187b1edf7eae35795b715d26d0147eca6", func := "algorist/algoristlaw18.UnitPowers", spec := "unitPowers", unfollowed := true, recurses := true, named := ["math/bits.overflowError"], plainKeys := false, apart := false, narrowed := true }
def UnitPowersUptoSaid : Prop := unitPowersUptoRow.holds Tryz.pinned (OpenSpec.upto unitPowersSpec)

/-- 'algoristlaw18.UnitCompacts', WHERE WHAT IT READS IS OF BULK AT MOST 1048576: true; the input reads as it did. -/
def unitCompactsUptoRow : OpenClaim := { program := "ytijailhickfapaagreat", sum := "950c1418363bcc9f4ff4b6806481081187b1edf7eae35795b715d26d0147eca6", func := "algorist/algoristlaw18.UnitCompacts", spec := "unitCompacts", unfollowed := true, recurses := true, named := ["math/bits.overflowError"], plainKeys := false, apart := false, narrowed := true }
def UnitCompactsUptoSaid : Prop := unitCompactsUptoRow.holds Tryz.pinned (OpenSpec.upto unitCompactsSpec)

/-- 'algoristlaw18.UnitLogs', WHERE WHAT IT READS IS OF BULK AT MOST 1048576: true; the input reads as it did. -/
def unitLogsUptoRow : OpenClaim := { program := "ytijailhickfapaagreat", sum := "950c1418363bcc9f4ff4b6806481081187b1edf7eae35795b715d26d0147eca6", func := "algorist/algoristlaw18.UnitLogs", spec := "unitLogs", unfollowed := true, recurses := true, named := ["math/bits.overflowError"], plainKeys := false, apart := false, narrowed := true }
def UnitLogsUptoSaid : Prop := unitLogsUptoRow.holds Tryz.pinned (OpenSpec.upto unitLogsSpec)

/-- 'algoristlaw18.UnitCycles', WHERE WHAT IT READS IS OF BULK AT MOST 1048576: true; the input reads as it did. -/
def unitCyclesUptoRow : OpenClaim := { program := "ytijailhickfapaagreat", sum := "950c1418363bcc9f4ff4b6806481081187b1edf7eae35795b715d26d0147eca6", func := "algorist/algoristlaw18.UnitCycles", spec := "unitCycles", unfollowed := true, recurses := true, named := ["math/bits.overflowError"], plainKeys := false, apart := false, narrowed := true }
def UnitCyclesUptoSaid : Prop := unitCyclesUptoRow.holds Tryz.pinned (OpenSpec.upto unitCyclesSpec)

end Rows
end Go.Proofs.YtijailhickfapaaGreat
