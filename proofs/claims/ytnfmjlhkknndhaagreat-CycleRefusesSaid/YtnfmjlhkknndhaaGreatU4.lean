/-
  CycleRefuses, whatever the numbers are.
-/
import Derived.Test.YtnfmjlhkknndhaaGreatW6

/-
 The walk of CycleRefuses.
-/
namespace Go.Proofs.YtnfmjlhkknndhaaGreat
open Go Go.RowKit
theorem vc_v9 (b1 b2 b3 c1 c2 c3 c4 e : Bool) (l1 l2 l3 k1 k2 k3 k4 r : List Int) : (((∀ (x : Int), x ∈ l1 → (0 : Int) ≤ x ∧ x < 4294967296) ∧ List.length l1 < 9223372036854775808 ∧ (∀ (x : Int), x ∈ l2 → (0 : Int) ≤ x ∧ x < 4294967296) ∧ List.length l2 < 9223372036854775808 ∧ (∀ (x : Int), x ∈ l3 → (0 : Int) ≤ x ∧ x < 4294967296) ∧ List.length l3 < 9223372036854775808) ∧ ((∀ (x : Int), x ∈ r → (0 : Int) ≤ x ∧ x < 4294967296) ∧ (0 : Int) ≤ 2 ∧ (2 : Int) ≤ 1000 ∧ List.length r < 9223372036854775808) ∧ ((64 : Nat) ≤ 100000 ∧ (64 : Nat) ≤ 100000 ∧ (64 : Nat) ≤ 100000) ∧ (194 : Nat) ≤ 100000 ∧ (64 : Nat) ≤ 100000 ∧ bif knE (Fm.disc (Fm.mk (madeI b1 l1 (2 : Nat)) (madeI b2 l2 (2 : Nat)) (madeI b3 l3 (2 : Nat)))) != 0 then ((64 : Nat) ≤ 10000 ∧ (64 : Nat) ≤ 10000 ∧ (64 : Nat) ≤ 10000) ∧ ((64 : Nat) ≤ 300 ∧ (64 : Nat) ≤ 300 ∧ (64 : Nat) ≤ 300) ∧ ((64 : Nat) ≤ 300 ∧ (64 : Nat) ≤ 300 ∧ (64 : Nat) ≤ 300) ∧ ((64 : Nat) ≤ 300 ∧ (64 : Nat) ≤ 300 ∧ (64 : Nat) ≤ 300 ∧ (64 : Nat) ≤ 100000) ∧ ((64 : Nat) ≤ 300 ∧ (64 : Nat) ≤ 300 ∧ (64 : Nat) ≤ 300 ∧ (64 : Nat) ≤ 300 ∧ (64 : Nat) ≤ 300 ∧ (64 : Nat) ≤ 300) ∧ bif knE (Fm.disc (Fm.mk (madeI b1 l1 (2 : Nat)) (madeI b2 l2 (2 : Nat)) (madeI b3 l3 (2 : Nat)))) != knE (Fm.disc (Fm.mk (madeI b1 l1 (2 : Nat)) (madeI b2 l2 (2 : Nat)) (madeI b3 l3 (2 : Nat)))) then false = true else bif knE (Fm.disc (Fm.mk (madeI b1 l1 (2 : Nat)) (madeI b2 l2 (2 : Nat)) (madeI b3 l3 (2 : Nat)))) != knE (Fm.disc (Fm.mk (madeI b1 l1 (2 : Nat)) (madeI b2 l2 (2 : Nat)) (madeI b3 l3 (2 : Nat)))) then false = true else bif knE (Fm.disc (Fm.mk (madeI b1 l1 (2 : Nat)) (madeI b2 l2 (2 : Nat)) (madeI b3 l3 (2 : Nat)))) != knE (Fm.disc (Fm.mk (madeI b1 l1 (2 : Nat)) (madeI b2 l2 (2 : Nat)) (madeI b3 l3 (2 : Nat)))) then false = true else bif showE (Fm.mk (madeI b1 l1 (2 : Nat)) (madeI b2 l2 (2 : Nat)) (madeI b3 l3 (2 : Nat))) (madeI e r (2 : Nat)) != knE (Fm.disc (Fm.mk (madeI b1 l1 (2 : Nat)) (madeI b2 l2 (2 : Nat)) (madeI b3 l3 (2 : Nat)))) then false = true else bif sameB (Fm.mk (madeI b1 l1 (2 : Nat)) (madeI b2 l2 (2 : Nat)) (madeI b3 l3 (2 : Nat))) (Fm.mk (madeI b1 l1 (2 : Nat)) (madeI b2 l2 (2 : Nat)) (madeI b3 l3 (2 : Nat))) then false = true else bif decide ((↑(List.length (cyL (Fm.mk (madeI b1 l1 (2 : Nat)) (madeI b2 l2 (2 : Nat)) (madeI b3 l3 (2 : Nat))))) : Int) > 0) then false = true else ((64 : Nat) ≤ 40000 ∧ (64 : Nat) ≤ 40000 ∧ (64 : Nat) ≤ 40000) ∧ bif redQ (Fm.mk (madeI b1 l1 (2 : Nat)) (madeI b2 l2 (2 : Nat)) (madeI b3 l3 (2 : Nat))) then false = true else bif knE (madeI e r (2 : Nat)) != 0 then (64 : Nat) ≤ 100000 ∧ (64 : Nat) ≤ 100000 ∧ bif knE (madeI e r (2 : Nat)) == knE (madeI e r (2 : Nat)) then bif knE (madeI e r (2 : Nat)) == knE (madeI e r (2 : Nat)) then bif (↑(List.length (cysL (madeI e r (2 : Nat)))) : Int) == 0 then bif (↑(List.length (cysL (madeI e r (2 : Nat)))) : Int) == 0 then true = true else false = true else false = true else false = true else false = true else true = true else bif knE (madeI e r (2 : Nat)) != 0 then (64 : Nat) ≤ 100000 ∧ (64 : Nat) ≤ 100000 ∧ bif knE (madeI e r (2 : Nat)) == knE (madeI e r (2 : Nat)) then bif knE (madeI e r (2 : Nat)) == knE (madeI e r (2 : Nat)) then bif (↑(List.length (cysL (madeI e r (2 : Nat)))) : Int) == 0 then bif (↑(List.length (cysL (madeI e r (2 : Nat)))) : Int) == 0 then true = true else false = true else false = true else false = true else false = true else true = true) = evFn (env [c_lex, c_r8any, c_rMade, c_r8disc, c_r17known, c_crho, c_creduce, c_ccycle, c_cshows, c_csame, c_creduced, c_cys, c_class] noAnn) Tryz.f11 [.st [.st [.st [.bool b1, .ws l1], .st [.bool b2, .ws l2], .st [.bool b3, .ws l3]], .st [.st [.bool c1, .ws k1], .st [.bool c2, .ws k2], .st [.bool c3, .ws k3], .st [.bool c4, .ws k4]]], rawM e r] (MRes.sat (.ret (.bool true))) := by kernel_rfl
theorem sameB_no {f g : Fm} (h : knE f.disc ≠ 0) : sameB f g = false := decide_eq_false fun q => h q.1
theorem redQ_no {f : Fm} (h : knE f.disc ≠ 0) : redQ f = false := by
 unfold redQ
 rw [decide_eq_false h]
 rfl
theorem showE_no {f : Fm} {z : Int} (h : knE f.disc ≠ 0) : (showE f z != knE f.disc) = false := by
 rw [showE, if_neg h]
 exact bneI _
theorem cyL_no {f : Fm} (h : knE f.disc ≠ 0) : decide (((cyL f).length : Int) > 0) = false := by
 rw [cyL, if_neg h]
 rfl
theorem cysL_no {d : Int} (h : knE d ≠ 0) : (((cysL d).length : Int) == 0) = true := by
 rw [cysL, if_neg h]
 rfl
def s_v9 : FSpec
 | [.st [.st [.st [.bool _, .ws l1], .st [.bool _, .ws l2], .st [.bool _, .ws l3]], .st [.st [.bool _, .ws _], .st [.bool _, .ws _], .st [.bool _, .ws _], .st [.bool _, .ws _]]], .st [.bool _, .ws r]] =>
   some (some ((Wd l1 ∧ l1.length < 9223372036854775808) ∧ (Wd l2 ∧ l2.length < 9223372036854775808) ∧ (Wd l3 ∧ l3.length < 9223372036854775808) ∧ Wd r ∧ r.length < 9223372036854775808), .ret (.bool true))
 | _ => none
theorem p_v9 : Good Tryz.f11 s_v9 := by
 intro ms p r h hp
 unfold s_v9 at h
 split at h
 ·rename_i b1 l1 b2 l2 b3 l3 c1 k1 c2 k2 c3 k3 c4 k4 e r
  simp only [Option.some.injEq, Prod.mk.injEq] at h
  obtain ⟨rfl, rfl⟩ := h
  obtain ⟨⟨w1, w2⟩, ⟨w3, w4⟩, ⟨w5, w6⟩, w7, w8⟩ : (Wd l1 ∧ l1.length < 9223372036854775808) ∧ (Wd l2 ∧ l2.length < 9223372036854775808) ∧ (Wd l3 ∧ l3.length < 9223372036854775808) ∧ Wd r ∧ r.length < 9223372036854775808 := hp
  refine ⟨env [c_lex, c_r8any, c_rMade, c_r8disc, c_r17known, c_crho, c_creduce, c_ccycle, c_cshows, c_csame, c_creduced, c_cys, c_class] noAnn, ?_⟩
  rw [← vc_v9 b1 b2 b3 c1 c2 c3 c4 e l1 l2 l3 k1 k2 k3 k4 r]
  refine ⟨⟨w1, w2, w3, w4, w5, w6⟩, ⟨w7, ?_⟩, ?_⟩
  ·and_intros <;> first | exact w8 | omega
  repeat (first | refine ⟨by omega, ?_⟩ | refine ⟨by decide, ?_⟩)
  refine condI bne_iff_ne (fun hk => ?_) (fun _ => ?_)
  ·repeat (first | refine condF (bneI _) ?_ | refine condF (showE_no hk) ?_ | refine condF (sameB_no hk) ?_ | refine condF (cyL_no hk) ?_ | refine condF (redQ_no hk) ?_ | refine ⟨by omega, ?_⟩ | refine ⟨by decide, ?_⟩)
   refine condI bne_iff_ne (fun hq => ?_) (fun _ => rfl)
   repeat (first | rfl | refine condT (beq_self_eq_true _) ?_ | refine condT (cysL_no hq) ?_ | refine ⟨by omega, ?_⟩ | refine ⟨by decide, ?_⟩)
  ·refine condI bne_iff_ne (fun hq => ?_) (fun _ => rfl)
   repeat (first | rfl | refine condT (beq_self_eq_true _) ?_ | refine condT (cysL_no hq) ?_ | refine ⟨by omega, ?_⟩ | refine ⟨by decide, ?_⟩)
 ·simp at h
noncomputable def c_v9 : Ctr Tryz.prog := ⟨11, s_v9, fun args w => Tryz.call11 args w, fn_ok mix Tryz.func11 s_v9 p_v9⟩
end Go.Proofs.YtnfmjlhkknndhaaGreat
/-
 CycleRefuses, whatever the numbers are.
-/
namespace Go.Proofs.YtnfmjlhkknndhaaGreat
open Go Go.ChangeShapes Go.WideShapes Go.ChangeAt Go.RowKit
def tysCycleRefuses : List Nat := [33, 30, 31, 29, 4, 27, 99]
theorem tysCycleRefuses_ok : tysCycleRefuses.all (subOk Tryz.prog tysCycleRefuses) = true := by kernel_rfl
theorem cycleRefuses_contract (H : Type) (enc : TypeId × Value → H) (W : World) (args : Array Value) (ds gs : List (DataW H)) (before : List MemPlace)
  (hW : DataW.Whole enc Tryz.prog Tryz.f11.params.toList Rows.cycleRefusesSpec.vars Rows.cycleRefusesRow.apart W args.toList ds gs before) :
  Calls Tryz.prog 11 args W fun e W' => ∃ v, e = .returned v ∧ Rows.cycleRefusesSpec.post enc Tryz.prog Tryz.f11 Rows.cycleRefusesRow.apart Rows.cycleRefusesRow.fresh Rows.cycleRefusesRow.handsOn Rows.cycleRefusesRow.again W args v W' := by
 have hW' := hW
 obtain ⟨p, q, hA, hV, rfl, hfz, hnd⟩ := hW
 rw [Tryz.params11] at hA
 obtain ⟨v0, v1, d0d, d1d, p0, p1, rfl, rfl, rfl, h0, h1⟩ := trodAll_two hA
 obtain ⟨rfl, rfl⟩ := trodVars_none hV
 obtain ⟨x0, x0a, x0b, y0, y0a, y0b, y0c, l0, l0a, l0b, k0, k0a, k0b, k0c, r0, w0, w0a, w0b⟩ := rep_odd h0
 obtain ⟨b1, l1, r1, w1⟩ := rep_raw h1
 refine law_calls c_v9 rfl rfl tysCycleRefuses_ok (by rw [Tryz.params11]; decide) hW' (gw0 W) ⟨[.st [.st [.st [.bool x0, .ws l0], .st [.bool x0a, .ws l0a], .st [.bool x0b, .ws l0b]], .st [.st [.bool y0, .ws k0], .st [.bool y0a, .ws k0a], .st [.bool y0b, .ws k0b], .st [.bool y0c, .ws k0c]]], rawM b1 l1], _, rfl, ⟨w0, w0a, w0b, w1⟩, _, _, rfl, r0, _, _, rfl, r1, rfl⟩ rfl
set_option maxHeartbeats 1600000 in
set_option maxRecDepth 100000 in
theorem cycleRefuses_lifted (os : Os) (started : os.Started) (H : Type) (enc : TypeId × Value → H) :
  ReturnsInHanded {} Tryz.checked os 11 .any (Rows.cycleRefusesSpec.pre6 enc Tryz.prog Tryz.f11 Rows.cycleRefusesRow.domain Rows.cycleRefusesRow.apart) (Rows.cycleRefusesSpec.post enc Tryz.prog Tryz.f11 Rows.cycleRefusesRow.apart Rows.cycleRefusesRow.fresh Rows.cycleRefusesRow.handsOn Rows.cycleRefusesRow.again) := by
 refine returnsInHanded_of_change (C := Tryz.checked) own started (by kernel_rfl) Tryz.func11
  (ChangeSpec.witness6 (enc := enc) (C := Tryz.checked) false ⟨#[], #[.agg #[.bool false, .slice none 0 0, .bool false, .slice none 0 0, .bool false, .slice none 0 0, .bool false, .slice none 0 0, .bool false, .slice none 0 0, .bool false, .slice none 0 0, .bool false, .slice none 0 0], .agg #[.bool false, .slice none 0 0]], []⟩ 8 (by kernel_rfl) (by kernel_rfl) (by kernel_rfl) (by kernel_rfl)) ?_
 intro W _ args ds gs before _ hW _ _
 exact cycleRefuses_contract H enc W args ds gs before hW
theorem cycleRefuses_over : Rows.cycleRefusesRow.holds Tryz.pinned (OpenSpec.ofChange Rows.cycleRefusesSpec) :=
 OpenClaim.holds_of_wide 11 Tryz.f11 rfl rfl rfl rfl rfl rfl rfl ⟨rfl, rfl, rfl, rfl, rfl⟩ rfl rfl rfl rfl rfl (by kernel_rfl) Tryz.func11 (by kernel_rfl)
  (of_decide_eq_true (by kernel_rfl)) (by unfold Func.isWrapper; first | (rw [if_pos (by decide +kernel)]; kernel_rfl) | (rw [if_neg (by decide +kernel)]; exact ⟨rfl, rfl⟩))
  (fun os started H enc _ => cycleRefuses_lifted os started H enc)
theorem cycleRefuses_holds : Rows.CycleRefusesSaid := cycleRefuses_over
end Go.Proofs.YtnfmjlhkknndhaaGreat
