/-
  PrimeMatchesReference: whether numbers are prime, strong probable primes, and their witnesses agree with the reference implementation, whatever the number and the base are.
-/
import Derived.Test.YtmjklcpdfmgcaaaDoorW5
import Derived.Test.YtmjklcpdfmgcaaaDoorW4

/-
 The walks of PrimeMatchesReference and PrimeBases.
-/
namespace Go.Proofs.YtmjklcpdfmgcaaaDoor
open Go Go.RowKit
open Go.IntKind (wrap i64 i32 i16 i8 u64 u32 u16 u8)
def s_num4 : FSpec
 | [.st [.bool b, .ws l]] => some (some (Wd l ∧ l.length < 9223372036854775808), .ret (.big (madeI b l 3) 96))
 | _ => none
theorem vc_num4 (b : Bool) (l : List Int) : (((∀ (x : Int), x ∈ l → (0 : Int) ≤ x ∧ x < (4294967296 : Int)) ∧ (0 : Int) ≤ (3 : Int) ∧ (3 : Int) ≤ (1000 : Int) ∧ List.length l < (9223372036854775808 : Nat)) ∧ madeI b l (Int.toNat (3 : Int)) = madeI b l (3 : Nat) ∧ ((32 : Nat) * Int.toNat (3 : Int) ≤ (96 : Nat) ∨ Int.natAbs (madeI b l (Int.toNat (3 : Int))) < (2 : Nat) ^ (96 : Nat))) = evFn (env [c_rMade] noAnn) Tryd.f7 [.st [.bool b, .ws l]] (MRes.sat (.ret (.big (madeI b l 3) 96))) := by kernel_rfl
theorem p_num4 : Good Tryd.f7 s_num4 := by
 intro ms p r h hp
 unfold s_num4 at h
 split at h
 ·rename_i b l
  simp only [Option.some.injEq, Prod.mk.injEq] at h
  obtain ⟨rfl, rfl⟩ := h
  obtain ⟨h1, h2⟩ : Wd l ∧ l.length < 9223372036854775808 := hp
  refine ⟨env [c_rMade] noAnn, ?_⟩
  rw [← vc_num4 b l]
  exact ⟨⟨h1, by omega, by omega, h2⟩, rfl, .inl (Nat.le_refl _)⟩
 ·simp at h
def c_num4 : Ctr Tryd.prog := ⟨7, s_num4, fun args w => Tryd.call7 args w, fn_ok mix Tryd.func7 s_num4 p_num4⟩
theorem vc_p4m (b : Bool) (l : List Int) (k : Int) : (((∀ (x : Int), x ∈ l → (0 : Int) ≤ x ∧ x < (4294967296 : Int)) ∧ List.length l < (9223372036854775808 : Nat)) ∧ ((96 : Nat) ≤ (128 : Nat) ∧ (-9223372036854775808 : Int) ≤ k ∧ k ≤ (9223372036854775807 : Int)) ∧ ((96 : Nat) ≤ (128 : Nat) ∧ (-9223372036854775808 : Int) ≤ k ∧ k ≤ (9223372036854775807 : Int)) ∧ (96 : Nat) ≤ (128 : Nat) ∧ (96 : Nat) ≤ (128 : Nat) ∧ bif isB (madeI b l (3 : Nat)) == isB (madeI b l (3 : Nat)) then bif isE (madeI b l (3 : Nat)) == isE (madeI b l (3 : Nat)) then bif strB (madeI b l (3 : Nat)) k == strB (madeI b l (3 : Nat)) k then bif strE (madeI b l (3 : Nat)) k == strE (madeI b l (3 : Nat)) k then bif witT (madeI b l (3 : Nat)) == witT (madeI b l (3 : Nat)) then (witE (madeI b l (3 : Nat)) == witE (madeI b l (3 : Nat))) = true else false = true else false = true else false = true else false = true else false = true) = evFn (env [c_lex4, c_num4, c_pis, c_ris, c_pstr, c_rst4, c_wit4, c_rwit4] noAnn) Tryd.f3 [.st [.bool b, .ws l], .int .i64 k] (MRes.sat (.ret (.bool true))) := by kernel_rfl
def s_p4m : FSpec
 | [.st [.bool _, .ws l], .int .i64 k] => some (some ((Wd l ∧ l.length < 9223372036854775808) ∧ -9223372036854775808 ≤ k ∧ k ≤ 9223372036854775807), .ret (.bool true))
 | _ => none
theorem p_p4m : Good Tryd.f3 s_p4m := by
 intro ms p r h hp
 unfold s_p4m at h
 split at h
 ·rename_i b l k
  simp only [Option.some.injEq, Prod.mk.injEq] at h
  obtain ⟨rfl, rfl⟩ := h
  obtain ⟨⟨h1, h2⟩, h3, h4⟩ : (Wd l ∧ l.length < 9223372036854775808) ∧ -9223372036854775808 ≤ k ∧ k ≤ 9223372036854775807 := hp
  refine ⟨env [c_lex4, c_num4, c_pis, c_ris, c_pstr, c_rst4, c_wit4, c_rwit4] noAnn, ?_⟩
  rw [← vc_p4m b l k]
  exact ⟨⟨h1, h2⟩, by omega, by omega, by omega, by omega, condT (beq_self_eq_true _) (condT (beq_self_eq_true _) (condT (beq_self_eq_true _) (condT (beq_self_eq_true _) (condT (beq_self_eq_true _) (beq_self_eq_true _)))))⟩
 ·simp at h
noncomputable def c_p4m : Ctr Tryd.prog := ⟨3, s_p4m, fun args w => Tryd.call3 args w, fn_ok mix Tryd.func3 s_p4m p_p4m⟩
end Go.Proofs.YtmjklcpdfmgcaaaDoor
/-
 PrimeMatchesReference: whether numbers are prime, strong probable primes, and their witnesses agree with the reference implementation, whatever the number and the base are.
-/
namespace Go.Proofs.YtmjklcpdfmgcaaaDoor
open Go Go.ChangeShapes Go.WideShapes Go.ChangeAt Go.RowKit
open Go.IntKind (wrap i64 i32 i16 i8 u64 u32 u16 u8)
def tysPrimeMatchesReference : List Nat := [24, 4, 22, 44, 3]
theorem tysPrimeMatchesReference_ok : tysPrimeMatchesReference.all (subOk Tryd.prog tysPrimeMatchesReference) = true := by kernel_rfl
theorem parPrimeMatchesReference1 : Tryd.f3.params[1]? = some 3 := by rw [Tryd.params3]; rfl
set_option maxRecDepth 100000 in
theorem primeMatchesReference_contract (H : Type) (enc : TypeId × Value → H) (W : World) (base : Nat) (args : Array Value) (ds gs : List (DataW H)) (before : List MemPlace) (hG : GW noS W)
  (hval : ∀ (j : Nat) t v, Tryd.f3.params[j]? = some t → args[j]? = some v → Value.okWide Tryd.prog W .any base t v)
  (hW : DataW.Whole enc Tryd.prog Tryd.f3.params.toList Rows.primeMatchesReferenceSpec.vars Rows.primeMatchesReferenceRow.apart W args.toList ds gs before) :
  Calls Tryd.prog 3 args W fun e W' => ∃ v, e = .returned v ∧ Rows.primeMatchesReferenceSpec.post enc Tryd.prog Tryd.f3 Rows.primeMatchesReferenceRow.apart Rows.primeMatchesReferenceRow.fresh Rows.primeMatchesReferenceRow.handsOn Rows.primeMatchesReferenceRow.again W args v W' := by
 have hW' := hW
 obtain ⟨p, q, hA, hV, rfl, hfz, hnd⟩ := hW
 rw [Tryd.params3] at hA
 obtain ⟨v0, v1, d0, d1, p0, p1, rfl, rfl, rfl, h0, h1⟩ := trodAll_two hA
 obtain ⟨rfl, rfl⟩ := trodVars_none hV
 obtain ⟨b0, l0, r0, w0⟩ := rep_raw h0
 obtain ⟨z1, rfl, _, _, hw1⟩ := open_int Tryd.underlying3 (ok_at hval parPrimeMatchesReference1 rfl) h1
 have r1 : Rep1 (Ctx.args noS) W (.int .i64 z1) (.int .i64 z1) := rfl
 have w1 := i64_wf hw1
 refine law_calls c_p4m rfl rfl tysPrimeMatchesReference_ok (by rw [Tryd.params3]; decide) hW' hG ⟨[rawM b0 l0, .int .i64 z1], _, rfl, ⟨w0, w1⟩, _, _, rfl, r0, _, _, rfl, r1, rfl⟩ rfl
set_option maxHeartbeats 1600000 in
set_option maxRecDepth 100000 in
theorem primeMatchesReference_lifted (os : Os) (started : os.Started) (H : Type) (enc : TypeId × Value → H) :
  ReturnsInHanded {} Tryd.checked os 3 .any (fun w args => (Rows.primeMatchesReferenceSpec.pre enc Tryd.prog Tryd.f3 [] false w args ∧ laidMetH Tryd.prog laid1 w) ∧ sizedMet enc Tryd.prog Tryd.f3 (OpenSpec.ofChange Rows.primeMatchesReferenceSpec) false w args)
   (Rows.primeMatchesReferenceSpec.post enc Tryd.prog Tryd.f3 false true false false) := by
 refine returnsInHanded_of_change_and (C := Tryd.checked) (X := fun w _ => laidMetH Tryd.prog laid1 w) (fun _ _ _ hh h => h.of_heap hh) own started (by kernel_rfl) Tryd.func3
  (ChangeSpec.witness_shaped (enc := enc) (C := Tryd.checked) (os := os) (X := fun w _ => laidMetH Tryd.prog laid1 w) false (World.doorLaid Tryd.prog 400 os) #[.agg #[.bool false, .slice none 0 0], .int .i64 0] 8 rfl (World.shaped_of_RefB (by kernel_rfl) (by kernel_rfl)) (by kernel_rfl) (by kernel_rfl) (by kernel_rfl) (door_met os _)) ?_
 intro W base args ds gs before hval0 hW _ _ hL _
 exact primeMatchesReference_contract H enc W base args ds gs before (gw_of_laid hL) hval0 hW
theorem primeMatchesReference_over : Rows.PrimeMatchesReferenceSaid :=
 OpenClaim.holds_of_wide 3 Tryd.f3 rfl rfl rfl rfl rfl rfl rfl ⟨rfl, rfl, rfl, rfl, rfl⟩ rfl rfl rfl rfl rfl (by kernel_rfl) Tryd.func3 (by kernel_rfl)
  (of_decide_eq_true (by kernel_rfl)) (by unfold Func.isWrapper; first | (rw [if_pos (by decide +kernel)]; kernel_rfl) | (rw [if_neg (by decide +kernel)]; exact ⟨rfl, rfl⟩))
  (fun os started H enc _ => primeMatchesReference_lifted os started H enc)
theorem primeMatchesReference_holds : Rows.PrimeMatchesReferenceCardSaid :=
 Claim7.holds_tied_plain_at .later [] [.data] true (true, Rows.primeMatchesReferenceCard.stood.harness.2) false
  primeMatchesReference_over (fun _ h => by cases h) (by kernel_rfl) (fun _ h => by cases h) primeMatchesReference_row_tie rfl ⟨rfl, rfl⟩ (by kernel_rfl) rfl
  (fun f fn hf hfn => by
   obtain rfl : f = 3 := Option.some.inj ((show Tryd.prog.funcNamed "algorist/algoristlaw04.PrimeMatchesReference" = some 3 by kernel_rfl).symm.trans hf) |>.symm
   obtain rfl : fn = Tryd.f3 := (Option.some.inj (Tryd.func3.symm.trans hfn)).symm
   exact ⟨by kernel_rfl, fun j t ht => by
    rw [Tryd.params3] at ht
    have hm : t ∈ [24, 3] := by simpa using Array.mem_of_getElem? ht
    have hall : ([24, 3].all fun u => !Tryd.prog.wantsStandIn u) = true := by kernel_rfl
    exact (show Tryd.prog.wantsStandIn t = false by simpa using List.all_eq_true.1 hall t hm)⟩)
  (by kernel_rfl)
end Go.Proofs.YtmjklcpdfmgcaaaDoor
