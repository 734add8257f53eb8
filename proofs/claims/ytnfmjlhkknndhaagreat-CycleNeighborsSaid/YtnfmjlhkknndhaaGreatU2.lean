/-
  CycleNeighbors, whatever the description is.
-/
import Derived.Test.YtnfmjlhkknndhaaGreatW6

/-
 The walk of CycleNeighbors.
-/
namespace Go.Proofs.YtnfmjlhkknndhaaGreat
open Go Go.RowKit
theorem vc_v5 (d i0 i1 m0 m1 : Int) : (((0 : Int) ≤ d ∧ d < 65536 ∧ (0 : Int) ≤ i0 ∧ i0 < 65536 ∧ (0 : Int) ≤ m0 ∧ m0 < 256) ∧ ((20 : Nat) ≤ 10000 ∧ (20 : Nat) ≤ 10000 ∧ (20 : Nat) ≤ 10000) ∧ ((20 : Nat) ≤ 300 ∧ (20 : Nat) ≤ 300 ∧ (20 : Nat) ≤ 300) ∧ ((64 : Nat) ≤ 10000 ∧ (64 : Nat) ≤ 10000 ∧ (64 : Nat) ≤ 10000) ∧ bif knE (Fm.disc (madeF d i0 m0)) != 0 then false = true else bif knE (Fm.disc (madeF d i0 m0)) != 0 then false = true else bif knE (Fm.disc (redR (madeF d i0 m0))) != 0 then false = true else ((64 : Nat) ≤ 400000 ∧ (64 : Nat) ≤ 400000 ∧ (64 : Nat) ≤ 400000 ∧ (64 : Nat) ≤ 400000) ∧ Fit 1 ∧ ((129 : Nat) ≤ 1000000 ∧ (64 : Nat) ≤ 1000000) ∧ bif !decide (Mx.det (rhoM (madeF d i0 m0)) = 1) then false = true else ((20 : Nat) ≤ 40000 ∧ (20 : Nat) ≤ 40000 ∧ (20 : Nat) ≤ 40000 ∧ (64 : Nat) ≤ 40000 ∧ (64 : Nat) ≤ 40000 ∧ (64 : Nat) ≤ 40000 ∧ (64 : Nat) ≤ 40000) ∧ ((216 : Nat) ≤ 1000000 ∧ (216 : Nat) ≤ 1000000 ∧ (216 : Nat) ≤ 1000000 ∧ (64 : Nat) ≤ 1000000 ∧ (64 : Nat) ≤ 1000000 ∧ (64 : Nat) ≤ 1000000) ∧ bif !eqF (Fm.mk (Fm.val (madeF d i0 m0) (Mx.a (rhoM (madeF d i0 m0))) (Mx.c (rhoM (madeF d i0 m0)))) ((2 : Int) * (Fm.A (madeF d i0 m0) * (Mx.a (rhoM (madeF d i0 m0)) * Mx.b (rhoM (madeF d i0 m0))) + Fm.C (madeF d i0 m0) * (Mx.c (rhoM (madeF d i0 m0)) * Mx.d (rhoM (madeF d i0 m0)))) + Fm.B (madeF d i0 m0) * (Mx.a (rhoM (madeF d i0 m0)) * Mx.d (rhoM (madeF d i0 m0)) + Mx.b (rhoM (madeF d i0 m0)) * Mx.c (rhoM (madeF d i0 m0)))) (Fm.val (madeF d i0 m0) (Mx.b (rhoM (madeF d i0 m0))) (Mx.d (rhoM (madeF d i0 m0))))) (rhoR (madeF d i0 m0)) then false = true else ((64 : Nat) ≤ 1000000 ∧ (20 : Nat) ≤ 1000000) ∧ bif !decide (Fm.A (rhoR (madeF d i0 m0)) = Fm.C (madeF d i0 m0)) then false = true else ((64 : Nat) ≤ 40000 ∧ (64 : Nat) ≤ 40000 ∧ (64 : Nat) ≤ 40000) ∧ bif redQ (redR (madeF d i0 m0)) then ((64 : Nat) ≤ 40000 ∧ (64 : Nat) ≤ 40000 ∧ (64 : Nat) ≤ 40000) ∧ bif redQ (rhoR (redR (madeF d i0 m0))) then bif IntKind.wrap IntKind.i64 (sgn (Fm.A (redR (madeF d i0 m0))) * sgn (Fm.A (rhoR (redR (madeF d i0 m0))))) == (-1 : Int) then ((64 : Nat) ≤ 100000 ∧ (64 : Nat) ≤ 100000 ∧ (64 : Nat) ≤ 100000) ∧ ((20 : Nat) ≤ 100000 ∧ (20 : Nat) ≤ 100000 ∧ (20 : Nat) ≤ 100000) ∧ ((194 : Nat) ≤ 1000000 ∧ (106 : Nat) ≤ 1000000) ∧ bif decide (Fm.disc (rhoR (redR (madeF d i0 m0))) = Fm.disc (madeF d i0 m0)) then true = true else false = true else false = true else false = true else false = true) = evFn (env [c_lex, c_made, c_crho, c_creduce, c_creduced, c_qdet, c_rof, c_rsame, c_qapply, c_r8equal, c_rsign, c_qdisc] noAnn) Tryz.f7 [.st [.int .u16 d, .st [.int .u16 i0, .int .u16 i1], .st [.int .u8 m0, .int .u8 m1]]] (MRes.sat (.ret (.bool true))) := by kernel_rfl
structure NbOk (f : Fm) : Prop where
 k : (knE f.disc != 0) = false
 kr : (knE (redR f).disc != 0) = false
 det : (!decide ((rhoM f).det = 1)) = false
 app : (!eqF (f.app (rhoM f)) (rhoR f)) = false
 A : (!decide ((rhoR f).A = f.C)) = false
 r : redQ (redR f) = true
 rr : redQ (rhoR (redR f)) = true
 s : (IntKind.wrap IntKind.i64 (sgn (redR f).A * sgn (rhoR (redR f)).A) == -1) = true
 D : decide ((rhoR (redR f)).disc = f.disc) = true
theorem nbOk {f : Fm} (h : knE f.disc = 0) : NbOk f := by
 obtain ⟨hd, hs, _⟩ := kn_dis h
 obtain ⟨h1, h2⟩ := redR_RD h
 have hk : knE (redR f).disc = 0 := by rw [h2, h]
 have hC : f.C ≠ 0 := (disc_ne hd rfl).2
 have e1 : rhoR f = rho (knS f.disc) f := if_pos h
 have e2 : rhoM f = stepM (knS f.disc) f := if_pos h
 have e3 : rhoR (redR f) = rho (knS (redR f).disc) (redR f) := if_pos hk
 have hr := (redQ_RD.1 h1).2
 obtain ⟨hd2, _⟩ := kn_dis hk
 have hr2 := hr.rho hd2
 refine ⟨by rw [h]; rfl, by rw [hk]; rfl, ?_, ?_, ?_, h1, ?_, ?_, ?_⟩
 ·rw [e2, step_det]; rfl
 ·rw [e1, e2, rho_app hC]; exact not_of (eqF_refl _)
 ·rw [e1]; exact not_of (decide_eq_true rfl)
 ·rw [e3]
  refine redQ_RD.2 ⟨by rw [hr2.h, hk], ?_⟩
  rw [hr2.h]; exact hr2
 ·rw [e3]
  have h3 := neg_iff.1 (rho_alt hd2 hr.h hr.r)
  rcases h3 with ⟨h4, h5⟩ | ⟨h4, h5⟩
  ·rw [show sgn (redR f).A = -1 from (by rw [sgn, if_neg (by omega), if_pos h4]), show sgn (rho (knS (redR f).disc) (redR f)).A = 1 from (by rw [sgn, if_neg (by omega), if_neg (by omega)])]
   decide
  ·rw [show sgn (redR f).A = 1 from (by rw [sgn, if_neg (by omega), if_neg (by omega)]), show sgn (rho (knS (redR f).disc) (redR f)).A = -1 from (by rw [sgn, if_neg (by omega), if_pos h5])]
   decide
 ·rw [e3, hr2.h, h2]; exact decide_eq_true rfl
def s_v5 : FSpec
 | [.st [.int .u16 d, .st [.int .u16 i0, .int .u16 i1], .st [.int .u8 m0, .int .u8 m1]]] => some (some (OkX d i0 i1 m0 m1), .ret (.bool true))
 | _ => none
theorem p_v5 : Good Tryz.f7 s_v5 := by
 intro ms p r h hp
 unfold s_v5 at h
 split at h
 ·rename_i d i0 i1 m0 m1
  simp only [Option.some.injEq, Prod.mk.injEq] at h
  obtain ⟨rfl, rfl⟩ := h
  have hx : OkX d i0 i1 m0 m1 := hp
  refine ⟨env [c_lex, c_made, c_crho, c_creduce, c_creduced, c_qdet, c_rof, c_rsame, c_qapply, c_r8equal, c_rsign, c_qdisc] noAnn, ?_⟩
  rw [← vc_v5 d i0 i1 m0 m1]
  have hn := nbOk (f := madeF d i0 m0) (by rw [made_disc hx.a]; exact (size_spec hx.a).1)
  refine ⟨⟨hx.a, hx.b, hx.c, hx.d, hx.g, hx.h⟩, ?_⟩
  repeat (first | rfl | refine condF hn.k ?_ | refine condF hn.kr ?_ | refine condF hn.det ?_ | refine condF hn.app ?_ | refine condF hn.A ?_ | refine condT hn.r ?_ | refine condT hn.rr ?_ | refine condT hn.s ?_ | refine condT hn.D ?_ | refine ⟨by omega, ?_⟩ | refine ⟨by decide, ?_⟩ | refine ⟨by and_intros <;> first | exact True.intro | rfl | omega | decide, ?_⟩)
 ·simp at h
noncomputable def c_v5 : Ctr Tryz.prog := ⟨7, s_v5, fun args w => Tryz.call7 args w, fn_ok mix Tryz.func7 s_v5 p_v5⟩
end Go.Proofs.YtnfmjlhkknndhaaGreat
/-
 CycleNeighbors, whatever the description is.
-/
namespace Go.Proofs.YtnfmjlhkknndhaaGreat
open Go Go.ChangeShapes Go.WideShapes Go.ChangeAt Go.RowKit
def tysCycleNeighbors : List Nat := [26, 22, 23, 24, 5]
theorem tysCycleNeighbors_ok : tysCycleNeighbors.all (subOk Tryz.prog tysCycleNeighbors) = true := by kernel_rfl
theorem cycleNeighbors_contract (H : Type) (enc : TypeId × Value → H) (W : World) (args : Array Value) (ds gs : List (DataW H)) (before : List MemPlace)
  (hW : DataW.Whole enc Tryz.prog Tryz.f7.params.toList Rows.cycleNeighborsSpec.vars Rows.cycleNeighborsRow.apart W args.toList ds gs before) :
  Calls Tryz.prog 7 args W fun e W' => ∃ v, e = .returned v ∧ Rows.cycleNeighborsSpec.post enc Tryz.prog Tryz.f7 Rows.cycleNeighborsRow.apart Rows.cycleNeighborsRow.fresh Rows.cycleNeighborsRow.handsOn Rows.cycleNeighborsRow.again W args v W' := by
 have hW' := hW
 obtain ⟨p, q, hA, hV, rfl, hfz, hnd⟩ := hW
 rw [Tryz.params7] at hA
 obtain ⟨v0, d0d, rfl, rfl, h0⟩ := trodAll_one hA
 obtain ⟨rfl, rfl⟩ := trodVars_none hV
 obtain ⟨d0, i0a, i0b, m0a, m0b, r0, w0⟩ := rep_r17 h0
 refine law_calls c_v5 rfl rfl tysCycleNeighbors_ok (by rw [Tryz.params7]; decide) hW' (gw0 W) ⟨[.st [.int .u16 d0, .st [.int .u16 i0a, .int .u16 i0b], .st [.int .u8 m0a, .int .u8 m0b]]], _, rfl, w0, _, _, rfl, r0, rfl⟩ rfl
set_option maxHeartbeats 1600000 in
set_option maxRecDepth 100000 in
theorem cycleNeighbors_lifted (os : Os) (started : os.Started) (H : Type) (enc : TypeId × Value → H) :
  ReturnsInHanded {} Tryz.checked os 7 .any (Rows.cycleNeighborsSpec.pre6 enc Tryz.prog Tryz.f7 Rows.cycleNeighborsRow.domain Rows.cycleNeighborsRow.apart) (Rows.cycleNeighborsSpec.post enc Tryz.prog Tryz.f7 Rows.cycleNeighborsRow.apart Rows.cycleNeighborsRow.fresh Rows.cycleNeighborsRow.handsOn Rows.cycleNeighborsRow.again) := by
 refine returnsInHanded_of_change (C := Tryz.checked) own started (by kernel_rfl) Tryz.func7
  (ChangeSpec.witness6 (enc := enc) (C := Tryz.checked) false ⟨#[], #[.agg #[.int .u16 0, .int .u16 0, .int .u16 0, .int .u8 0, .int .u8 0]], []⟩ 8 (by kernel_rfl) (by kernel_rfl) (by kernel_rfl) (by kernel_rfl)) ?_
 intro W _ args ds gs before _ hW _ _
 exact cycleNeighbors_contract H enc W args ds gs before hW
theorem cycleNeighbors_over : Rows.cycleNeighborsRow.holds Tryz.pinned (OpenSpec.ofChange Rows.cycleNeighborsSpec) :=
 OpenClaim.holds_of_wide 7 Tryz.f7 rfl rfl rfl rfl rfl rfl rfl ⟨rfl, rfl, rfl, rfl, rfl⟩ rfl rfl rfl rfl rfl (by kernel_rfl) Tryz.func7 (by kernel_rfl)
  (of_decide_eq_true (by kernel_rfl)) (by unfold Func.isWrapper; first | (rw [if_pos (by decide +kernel)]; kernel_rfl) | (rw [if_neg (by decide +kernel)]; exact ⟨rfl, rfl⟩))
  (fun os started H enc _ => cycleNeighbors_lifted os started H enc)
theorem cycleNeighbors_holds : Rows.CycleNeighborsSaid := cycleNeighbors_over
end Go.Proofs.YtnfmjlhkknndhaaGreat
