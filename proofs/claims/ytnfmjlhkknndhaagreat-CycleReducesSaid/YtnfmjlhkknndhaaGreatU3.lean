/-
  CycleReduces, whatever the description and the turn are.
-/
import Derived.Test.YtnfmjlhkknndhaaGreatW6

/-
 The walk of CycleReduces.
-/
namespace Go.Proofs.YtnfmjlhkknndhaaGreat
open Go Go.RowKit
theorem vc_v6 (d i0 i1 m0 m1 b : Int) : (((0 : Int) ≤ d ∧ d < 65536 ∧ (0 : Int) ≤ i0 ∧ i0 < 65536 ∧ (0 : Int) ≤ m0 ∧ m0 < 256) ∧ ((0 : Int) ≤ b ∧ b < 256) ∧ ((20 : Nat) ≤ 40000 ∧ (20 : Nat) ≤ 40000 ∧ (20 : Nat) ≤ 40000 ∧ (6 : Nat) ≤ 100000 ∧ (6 : Nat) ≤ 100000 ∧ (6 : Nat) ≤ 100000 ∧ (6 : Nat) ≤ 100000) ∧ ((102 : Nat) ≤ 300 ∧ (102 : Nat) ≤ 300 ∧ (102 : Nat) ≤ 300) ∧ ((102 : Nat) ≤ 300 ∧ (102 : Nat) ≤ 300 ∧ (102 : Nat) ≤ 300) ∧ bif knE (Fm.disc (hideF (Fm.app (madeF d i0 m0) (hideM (turnM b))))) != 0 then false = true else bif knE (Fm.disc (redR (hideF (Fm.app (madeF d i0 m0) (hideM (turnM b)))))) != 0 then false = true else ((102 : Nat) ≤ 40000 ∧ (102 : Nat) ≤ 40000 ∧ (102 : Nat) ≤ 40000) ∧ bif !redQ (redR (hideF (Fm.app (madeF d i0 m0) (hideM (turnM b))))) then false = true else ((102 : Nat) ≤ 40000 ∧ (102 : Nat) ≤ 40000 ∧ (102 : Nat) ≤ 40000) ∧ bif !redQ (redR (hideF (Fm.app (madeF d i0 m0) (hideM (turnM b))))) then false = true else ((10609 : Nat) ≤ 400000 ∧ (10609 : Nat) ≤ 400000 ∧ (10609 : Nat) ≤ 400000 ∧ (10609 : Nat) ≤ 400000) ∧ Fit 1 ∧ ((21219 : Nat) ≤ 1000000 ∧ (64 : Nat) ≤ 1000000) ∧ bif !decide (Mx.det (redRM (hideF (Fm.app (madeF d i0 m0) (hideM (turnM b))))) = 1) then false = true else ((102 : Nat) ≤ 40000 ∧ (102 : Nat) ≤ 40000 ∧ (102 : Nat) ≤ 40000 ∧ (10609 : Nat) ≤ 40000 ∧ (10609 : Nat) ≤ 40000 ∧ (10609 : Nat) ≤ 40000 ∧ (10609 : Nat) ≤ 40000) ∧ ((21388 : Nat) ≤ 1000000 ∧ (21388 : Nat) ≤ 1000000 ∧ (21388 : Nat) ≤ 1000000 ∧ (102 : Nat) ≤ 1000000 ∧ (102 : Nat) ≤ 1000000 ∧ (102 : Nat) ≤ 1000000) ∧ bif !eqF (Fm.mk (Fm.val (hideF (Fm.app (madeF d i0 m0) (hideM (turnM b)))) (Mx.a (redRM (hideF (Fm.app (madeF d i0 m0) (hideM (turnM b)))))) (Mx.c (redRM (hideF (Fm.app (madeF d i0 m0) (hideM (turnM b))))))) ((2 : Int) * (Fm.A (hideF (Fm.app (madeF d i0 m0) (hideM (turnM b)))) * (Mx.a (redRM (hideF (Fm.app (madeF d i0 m0) (hideM (turnM b))))) * Mx.b (redRM (hideF (Fm.app (madeF d i0 m0) (hideM (turnM b)))))) + Fm.C (hideF (Fm.app (madeF d i0 m0) (hideM (turnM b)))) * (Mx.c (redRM (hideF (Fm.app (madeF d i0 m0) (hideM (turnM b))))) * Mx.d (redRM (hideF (Fm.app (madeF d i0 m0) (hideM (turnM b))))))) + Fm.B (hideF (Fm.app (madeF d i0 m0) (hideM (turnM b)))) * (Mx.a (redRM (hideF (Fm.app (madeF d i0 m0) (hideM (turnM b))))) * Mx.d (redRM (hideF (Fm.app (madeF d i0 m0) (hideM (turnM b))))) + Mx.b (redRM (hideF (Fm.app (madeF d i0 m0) (hideM (turnM b))))) * Mx.c (redRM (hideF (Fm.app (madeF d i0 m0) (hideM (turnM b))))))) (Fm.val (hideF (Fm.app (madeF d i0 m0) (hideM (turnM b)))) (Mx.b (redRM (hideF (Fm.app (madeF d i0 m0) (hideM (turnM b)))))) (Mx.d (redRM (hideF (Fm.app (madeF d i0 m0) (hideM (turnM b)))))))) (redR (hideF (Fm.app (madeF d i0 m0) (hideM (turnM b))))) then false = true else ((102 : Nat) ≤ 1000000 ∧ (102 : Nat) ≤ 1000000 ∧ (102 : Nat) ≤ 1000000 ∧ (102 : Nat) ≤ 1000000 ∧ (102 : Nat) ≤ 1000000 ∧ (102 : Nat) ≤ 1000000) ∧ bif eqF (redR (hideF (Fm.app (madeF d i0 m0) (hideM (turnM b))))) (redR (redR (hideF (Fm.app (madeF d i0 m0) (hideM (turnM b)))))) then ((10609 : Nat) ≤ 400000 ∧ (10609 : Nat) ≤ 400000 ∧ (10609 : Nat) ≤ 400000 ∧ (10609 : Nat) ≤ 400000) ∧ Fit 1 ∧ ((21219 : Nat) ≤ 1000000 ∧ (64 : Nat) ≤ 1000000) ∧ bif decide (Mx.det (redRM (redR (hideF (Fm.app (madeF d i0 m0) (hideM (turnM b)))))) = 1) then ((102 : Nat) ≤ 40000 ∧ (102 : Nat) ≤ 40000 ∧ (102 : Nat) ≤ 40000 ∧ (10609 : Nat) ≤ 40000 ∧ (10609 : Nat) ≤ 40000 ∧ (10609 : Nat) ≤ 40000 ∧ (10609 : Nat) ≤ 40000) ∧ ((21388 : Nat) ≤ 1000000 ∧ (21388 : Nat) ≤ 1000000 ∧ (21388 : Nat) ≤ 1000000 ∧ (102 : Nat) ≤ 1000000 ∧ (102 : Nat) ≤ 1000000 ∧ (102 : Nat) ≤ 1000000) ∧ bif eqF (Fm.mk (Fm.val (redR (hideF (Fm.app (madeF d i0 m0) (hideM (turnM b))))) (Mx.a (redRM (redR (hideF (Fm.app (madeF d i0 m0) (hideM (turnM b))))))) (Mx.c (redRM (redR (hideF (Fm.app (madeF d i0 m0) (hideM (turnM b)))))))) ((2 : Int) * (Fm.A (redR (hideF (Fm.app (madeF d i0 m0) (hideM (turnM b))))) * (Mx.a (redRM (redR (hideF (Fm.app (madeF d i0 m0) (hideM (turnM b)))))) * Mx.b (redRM (redR (hideF (Fm.app (madeF d i0 m0) (hideM (turnM b))))))) + Fm.C (redR (hideF (Fm.app (madeF d i0 m0) (hideM (turnM b))))) * (Mx.c (redRM (redR (hideF (Fm.app (madeF d i0 m0) (hideM (turnM b)))))) * Mx.d (redRM (redR (hideF (Fm.app (madeF d i0 m0) (hideM (turnM b)))))))) + Fm.B (redR (hideF (Fm.app (madeF d i0 m0) (hideM (turnM b))))) * (Mx.a (redRM (redR (hideF (Fm.app (madeF d i0 m0) (hideM (turnM b)))))) * Mx.d (redRM (redR (hideF (Fm.app (madeF d i0 m0) (hideM (turnM b)))))) + Mx.b (redRM (redR (hideF (Fm.app (madeF d i0 m0) (hideM (turnM b)))))) * Mx.c (redRM (redR (hideF (Fm.app (madeF d i0 m0) (hideM (turnM b)))))))) (Fm.val (redR (hideF (Fm.app (madeF d i0 m0) (hideM (turnM b))))) (Mx.b (redRM (redR (hideF (Fm.app (madeF d i0 m0) (hideM (turnM b))))))) (Mx.d (redRM (redR (hideF (Fm.app (madeF d i0 m0) (hideM (turnM b))))))))) (redR (hideF (Fm.app (madeF d i0 m0) (hideM (turnM b))))) then true = true else false = true else false = true else false = true) = evFn (env [c_lex, c_made, c_r8turnH, c_r8applyH, c_creduce, c_creduced, c_r17reduced, c_qdet, c_rof, c_rsame, c_qapply, c_r8equal] noAnn) Tryz.f8 [.st [.int .u16 d, .st [.int .u16 i0, .int .u16 i1], .st [.int .u8 m0, .int .u8 m1]], .int .u8 b] (MRes.sat (.ret (.bool true))) := by kernel_rfl
structure RdOk (f : Fm) : Prop where
 k : (knE f.disc != 0) = false
 kr : (knE (redR f).disc != 0) = false
 r : (!redQ (redR f)) = false
 det : (!decide ((redRM f).det = 1)) = false
 app : (!eqF (f.app (redRM f)) (redR f)) = false
 s : eqF (redR f) (redR (redR f)) = true
 det2 : decide ((redRM (redR f)).det = 1) = true
 app2 : eqF ((redR f).app (redRM (redR f))) (redR f) = true
theorem red_self {f : Fm} (h : redQ f = true) : redR f = f := by
 have h0 : stepsOf f = 0 := redN0_spec _ _ 0 f (by omega) h (fun i hi => by omega)
 rw [redR, if_pos (redQ_iff.1 h).1, redG, h0]
 rfl
theorem redRM_app {f : Fm} (h : knE f.disc = 0) : (redRM f).det = 1 ∧ f.app (redRM f) = redR f := by
 obtain ⟨hd, _⟩ := kn_dis h
 rw [redRM, redR, if_pos h, if_pos h]
 exact ⟨walkR_det _ _ _, walkR_app hd _ rfl⟩
theorem rdOk {f : Fm} (h : knE f.disc = 0) : RdOk f := by
 obtain ⟨h1, h2⟩ := redR_RD h
 have hk : knE (redR f).disc = 0 := by rw [h2, h]
 obtain ⟨h3, h4⟩ := redRM_app h
 obtain ⟨h5, h6⟩ := redRM_app hk
 have h7 := red_self h1
 refine ⟨by rw [h]; rfl, by rw [hk]; rfl, not_of h1, by rw [h3]; rfl, ?_, ?_, decide_eq_true h5, ?_⟩
 ·rw [h4]; exact not_of (eqF_refl _)
 ·rw [h7]; exact eqF_refl _
 ·rw [h6, h7]; exact eqF_refl _
def s_v6 : FSpec
 | [.st [.int .u16 d, .st [.int .u16 i0, .int .u16 i1], .st [.int .u8 m0, .int .u8 m1]], .int .u8 b] => some (some (OkX d i0 i1 m0 m1 ∧ 0 ≤ b ∧ b ≤ 255), .ret (.bool true))
 | _ => none
theorem p_v6 : Good Tryz.f8 s_v6 := by
 intro ms p r h hp
 unfold s_v6 at h
 split at h
 ·rename_i d i0 i1 m0 m1 b
  simp only [Option.some.injEq, Prod.mk.injEq] at h
  obtain ⟨rfl, rfl⟩ := h
  obtain ⟨hx, hb0, hb1⟩ : OkX d i0 i1 m0 m1 ∧ 0 ≤ b ∧ b ≤ 255 := hp
  refine ⟨env [c_lex, c_made, c_r8turnH, c_r8applyH, c_creduce, c_creduced, c_r17reduced, c_qdet, c_rof, c_rsame, c_qapply, c_r8equal] noAnn, ?_⟩
  rw [← vc_v6 d i0 i1 m0 m1 b]
  have hn := rdOk (f := hideF ((madeF d i0 m0).app (hideM (turnM b)))) (by rw [hideF_eq, hideM_eq, app_disc1 (turn_det b), made_disc hx.a]; exact (size_spec hx.a).1)
  refine ⟨⟨hx.a, hx.b, hx.c, hx.d, hx.g, hx.h⟩, ⟨hb0, by omega⟩, ?_⟩
  repeat (first | rfl | refine condF hn.k ?_ | refine condF hn.kr ?_ | refine condF hn.r ?_ | refine condF hn.det ?_ | refine condF hn.app ?_ | refine condT hn.s ?_ | refine condT hn.det2 ?_ | refine condT hn.app2 ?_ | refine ⟨by omega, ?_⟩ | refine ⟨by decide, ?_⟩ | refine ⟨by and_intros <;> first | exact True.intro | rfl | omega | decide, ?_⟩)
 ·simp at h
noncomputable def c_v6 : Ctr Tryz.prog := ⟨8, s_v6, fun args w => Tryz.call8 args w, fn_ok mix Tryz.func8 s_v6 p_v6⟩
end Go.Proofs.YtnfmjlhkknndhaaGreat
/-
 CycleReduces, whatever the description and the turn are.
-/
namespace Go.Proofs.YtnfmjlhkknndhaaGreat
open Go Go.ChangeShapes Go.WideShapes Go.ChangeAt Go.RowKit
def tysCycleReduces : List Nat := [26, 22, 23, 24, 5]
theorem tysCycleReduces_ok : tysCycleReduces.all (subOk Tryz.prog tysCycleReduces) = true := by kernel_rfl
theorem parCycleReduces1 : Tryz.f8.params[1]? = some 5 := by rw [Tryz.params8]; rfl
set_option maxRecDepth 100000 in
theorem cycleReduces_contract (H : Type) (enc : TypeId × Value → H) (W : World) (base : Nat) (args : Array Value) (ds gs : List (DataW H)) (before : List MemPlace)
  (hval : ∀ (j : Nat) t v, Tryz.f8.params[j]? = some t → args[j]? = some v → Value.okWide Tryz.prog W .any base t v)
  (hW : DataW.Whole enc Tryz.prog Tryz.f8.params.toList Rows.cycleReducesSpec.vars Rows.cycleReducesRow.apart W args.toList ds gs before) :
  Calls Tryz.prog 8 args W fun e W' => ∃ v, e = .returned v ∧ Rows.cycleReducesSpec.post enc Tryz.prog Tryz.f8 Rows.cycleReducesRow.apart Rows.cycleReducesRow.fresh Rows.cycleReducesRow.handsOn Rows.cycleReducesRow.again W args v W' := by
 have hW' := hW
 obtain ⟨p, q, hA, hV, rfl, hfz, hnd⟩ := hW
 rw [Tryz.params8] at hA
 obtain ⟨v0, v1, d0d, d1d, p0, p1, rfl, rfl, rfl, h0, h1⟩ := trodAll_two hA
 obtain ⟨rfl, rfl⟩ := trodVars_none hV
 obtain ⟨d0, i0a, i0b, m0a, m0b, r0, w0⟩ := rep_r17 h0
 obtain ⟨z1, rfl, _, _, hw1⟩ := open_int Tryz.underlying5 (ok_at hval parCycleReduces1 rfl) h1
 have r1 : Rep1 (Ctx.args noS) W (.int .u8 z1) (.int .u8 z1) := rfl
 have w1 := u8_wf hw1
 refine law_calls c_v6 rfl rfl tysCycleReduces_ok (by rw [Tryz.params8]; decide) hW' (gw0 W) ⟨[.st [.int .u16 d0, .st [.int .u16 i0a, .int .u16 i0b], .st [.int .u8 m0a, .int .u8 m0b]], .int .u8 z1], _, rfl, ⟨w0, w1⟩, _, _, rfl, r0, _, _, rfl, r1, rfl⟩ rfl
set_option maxHeartbeats 1600000 in
set_option maxRecDepth 100000 in
theorem cycleReduces_lifted (os : Os) (started : os.Started) (H : Type) (enc : TypeId × Value → H) :
  ReturnsInHanded {} Tryz.checked os 8 .any (Rows.cycleReducesSpec.pre6 enc Tryz.prog Tryz.f8 Rows.cycleReducesRow.domain Rows.cycleReducesRow.apart) (Rows.cycleReducesSpec.post enc Tryz.prog Tryz.f8 Rows.cycleReducesRow.apart Rows.cycleReducesRow.fresh Rows.cycleReducesRow.handsOn Rows.cycleReducesRow.again) := by
 refine returnsInHanded_of_change (C := Tryz.checked) own started (by kernel_rfl) Tryz.func8
  (ChangeSpec.witness6 (enc := enc) (C := Tryz.checked) false ⟨#[], #[.agg #[.int .u16 0, .int .u16 0, .int .u16 0, .int .u8 0, .int .u8 0], .int .u8 0], []⟩ 8 (by kernel_rfl) (by kernel_rfl) (by kernel_rfl) (by kernel_rfl)) ?_
 intro W base args ds gs before hval hW _ _
 exact cycleReduces_contract H enc W base args ds gs before hval hW
theorem cycleReduces_over : Rows.cycleReducesRow.holds Tryz.pinned (OpenSpec.ofChange Rows.cycleReducesSpec) :=
 OpenClaim.holds_of_wide 8 Tryz.f8 rfl rfl rfl rfl rfl rfl rfl ⟨rfl, rfl, rfl, rfl, rfl⟩ rfl rfl rfl rfl rfl (by kernel_rfl) Tryz.func8 (by kernel_rfl)
  (of_decide_eq_true (by kernel_rfl)) (by unfold Func.isWrapper; first | (rw [if_pos (by decide +kernel)]; kernel_rfl) | (rw [if_neg (by decide +kernel)]; exact ⟨rfl, rfl⟩))
  (fun os started H enc _ => cycleReduces_lifted os started H enc)
theorem cycleReduces_holds : Rows.CycleReducesSaid := cycleReduces_over
end Go.Proofs.YtnfmjlhkknndhaaGreat
