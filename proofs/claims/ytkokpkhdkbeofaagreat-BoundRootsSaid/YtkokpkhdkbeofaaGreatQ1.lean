/-
  BoundRoots: whatever the description of a fraction and the byte are: the interval of the square root has its ends on the grid; the square of the lower end is not greater than the number, that of the upper one is greater, unless the root is on the grid; negative numbers are refused.
-/
import Derived.Test.YtkokpkhdkbeofaaGreatW6


namespace Go.Proofs.YtkokpkhdkbeofaaGreat
open Go Go.ChangeShapes Go.WideShapes Go.ChangeAt Go.RowKit

def tysRo : List Nat := [26, 24, 4, 22, 93, 5]
theorem tysRo_ok : tysRo.all (subOk Tryz.prog tysRo) = true := by kernel_rfl
theorem par_ro : Tryz.f4.params[1]? = some 5 := by rw [Tryz.params4]; rfl
set_option maxRecDepth 100000 in
theorem ro_contract (H : Type) (enc : TypeId × Value → H) (W : World) (base : Nat) (args : Array Value) (ds gs : List (DataW H)) (before : List MemPlace)
    (hval : ∀ (j : Nat) t v, Tryz.f4.params[j]? = some t → args[j]? = some v → Value.okWide Tryz.prog W .any base t v)
    (hW : DataW.Whole enc Tryz.prog Tryz.f4.params.toList Rows.boundRootsSpec.vars Rows.boundRootsRow.apart W args.toList ds gs before) :
    Calls Tryz.prog 4 args W fun e W' => ∃ v, e = .returned v ∧ Rows.boundRootsSpec.post enc Tryz.prog Tryz.f4 Rows.boundRootsRow.apart Rows.boundRootsRow.fresh Rows.boundRootsRow.handsOn Rows.boundRootsRow.again W args v W' := by
  have hW' := hW
  obtain ⟨p, q, hA, hV, rfl, hfz, hnd⟩ := hW
  rw [Tryz.params4] at hA
  obtain ⟨v0, v1, d0, d1, p0, p1, rfl, rfl, rfl, h0, h1⟩ := trodAll_two hA
  obtain ⟨rfl, rfl⟩ := trodVars_none hV
  obtain ⟨b1, b2, l1, l2, r0, c0, c0'⟩ := rep_qraw h0
  obtain ⟨k, rfl, _, _, hw⟩ := open_int Tryz.underlying5 (ok_at hval par_ro rfl) h1
  have r1 : Rep1 (Ctx.args noS) W (.int .u8 k) (.int .u8 k) := rfl
  have c1 := u8_wf hw
  refine law_calls c_broots rfl rfl tysRo_ok (by rw [Tryz.params4]; decide) hW' (gw0 W) ⟨[qrawV b1 b2 l1 l2, .int .u8 k], _, rfl, ⟨c0, c0', c1⟩, _, _, rfl, r0, _, _, rfl, r1, rfl⟩ rfl

set_option maxHeartbeats 1600000 in
set_option maxRecDepth 100000 in
theorem ro_lifted (os : Os) (started : os.Started) (H : Type) (enc : TypeId × Value → H) :
    ReturnsInHanded {} Tryz.checked os 4 .any (Rows.boundRootsSpec.pre6 enc Tryz.prog Tryz.f4 Rows.boundRootsRow.domain Rows.boundRootsRow.apart) (Rows.boundRootsSpec.post enc Tryz.prog Tryz.f4 Rows.boundRootsRow.apart Rows.boundRootsRow.fresh Rows.boundRootsRow.handsOn Rows.boundRootsRow.again) := by
  refine returnsInHanded_of_change (C := Tryz.checked) own started (by kernel_rfl) Tryz.func4
    (ChangeSpec.witness6 (enc := enc) (C := Tryz.checked) false ⟨#[], #[.agg #[.bool false, .slice none 0 0, .bool false, .slice none 0 0], .int .u8 0], []⟩ 8 (by kernel_rfl) (by kernel_rfl) (by kernel_rfl) (by kernel_rfl)) ?_
  intro W base args ds gs before hval hW _ _
  exact ro_contract H enc W base args ds gs before hval hW

theorem ro_over : Rows.boundRootsRow.holds Tryz.pinned (OpenSpec.ofChange Rows.boundRootsSpec) :=
  OpenClaim.holds_of_wide 4 Tryz.f4 rfl rfl rfl rfl rfl rfl rfl ⟨rfl, rfl, rfl, rfl, rfl⟩ rfl rfl rfl rfl rfl (by kernel_rfl) Tryz.func4 (by kernel_rfl)
    (of_decide_eq_true (by kernel_rfl)) (by unfold Func.isWrapper; first | (rw [if_pos (by decide +kernel)]; kernel_rfl) | (rw [if_neg (by decide +kernel)]; exact ⟨rfl, rfl⟩))
    (fun os started H enc _ => ro_lifted os started H enc)

theorem boundRoots_holds : Rows.BoundRootsSaid := ro_over

end Go.Proofs.YtkokpkhdkbeofaaGreat
