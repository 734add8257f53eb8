/-
  CycleLists, whatever the description is.
-/
import Derived.Test.YtnfmjlhkknndhaaGreatW6

/-
 The walk of CycleLists.
-/
namespace Go.Proofs.YtnfmjlhkknndhaaGreat
open Go Go.RowKit
def a_v2 (L : List Fm) : Nat → MS → Option LoopAnn
 | 11, e => some (.inv WalkI (fun i => i.i ≤ L.length) (fun i => ⟨73, [(3, .bool true), (5, .sl 1 L.length (cysR L)), (7, .sl 1 L.length (cysR L)), (11, .int .i64 (i.i : Int))], e.bx, 0⟩) (fun i => L.length - i.i))
 | _, _ => none
theorem vc_v2 (d i0 i1 m0 m1 : Int) : (((0 : Int) ≤ d ∧ d < 65536) ∧ Fit (sizeD d) ∧ (64 : Nat) ≤ 100000 ∧ (64 : Nat) ≤ 100000 ∧ (64 : Nat) ≤ 100000 ∧ bif knE (sizeD d) != 0 then false = true else bif knE (sizeD d) != 0 then false = true else bif knE (sizeD d) != 0 then false = true else bif (↑(List.length (cysL (sizeD d))) : Int) != (↑(List.length (cysL (sizeD d))) : Int) then false = true else bif (↑(List.length (cysL (sizeD d))) : Int) != (↑(List.length (cysL (sizeD d))) : Int) then false = true else (∃ i, WalkI.i i ≤ List.length (cysL (sizeD d)) ∧ (true = true ∧ ((1 : Nat) = 1 ∧ List.length (cysL (sizeD d)) = List.length (cysL (sizeD d)) ∧ LeFun (List.length (cysL (sizeD d))) (cysR (cysL (sizeD d))) (cysR (cysL (sizeD d)))) ∧ ((1 : Nat) = 1 ∧ List.length (cysL (sizeD d)) = List.length (cysL (sizeD d)) ∧ LeFun (List.length (cysL (sizeD d))) (cysR (cysL (sizeD d))) (cysR (cysL (sizeD d)))) ∧ (0 : Int) = (↑(WalkI.i i) : Int) ∧ True) ∧ (d = d ∧ (i0 = i0 ∧ i1 = i1 ∧ True) ∧ (m0 = m0 ∧ m1 = m1 ∧ True) ∧ True) ∧ LeB (sizeD d) (sizeD d) 64 64 ∧ True) ∧ ∀ (i : WalkI), WalkI.i i ≤ List.length (cysL (sizeD d)) → bif decide ((↑(WalkI.i i) : Int) < (↑(List.length (cysL (sizeD d))) : Int)) then ((0 : Int) ≤ (↑(WalkI.i i) : Int) ∧ (↑(WalkI.i i) : Int) < (↑(List.length (cysL (sizeD d))) : Int)) ∧ ((0 : Int) ≤ (↑(WalkI.i i) : Int) ∧ (↑(WalkI.i i) : Int) < (↑(List.length (cysL (sizeD d))) : Int)) ∧ ((∀ (i_1 : Nat), i_1 < List.length (cyG (List.getD (cysL (sizeD d)) (Int.toNat (↑(WalkI.i i) : Int)) (Fm.mk (0 : Int) (0 : Int) (0 : Int)))) → isFm (1000 : Nat) (fL (cyG (List.getD (cysL (sizeD d)) (Int.toNat (↑(WalkI.i i) : Int)) (Fm.mk (0 : Int) (0 : Int) (0 : Int)))) (8 : Nat) i_1)) ∧ (∀ (i_1 : Nat), i_1 < List.length (cyG (List.getD (cysL (sizeD d)) (Int.toNat (↑(WalkI.i i) : Int)) (Fm.mk (0 : Int) (0 : Int) (0 : Int)))) → isFm (1000 : Nat) (fL (cyG (List.getD (cysL (sizeD d)) (Int.toNat (↑(WalkI.i i) : Int)) (Fm.mk (0 : Int) (0 : Int) (0 : Int)))) (8 : Nat) i_1)) ∧ List.length (cyG (List.getD (cysL (sizeD d)) (Int.toNat (↑(WalkI.i i) : Int)) (Fm.mk (0 : Int) (0 : Int) (0 : Int)))) ≤ 1000000000) ∧ bif !eqFL (fvals (List.length (cyG (List.getD (cysL (sizeD d)) (Int.toNat (↑(WalkI.i i) : Int)) (Fm.mk (0 : Int) (0 : Int) (0 : Int))))) (fL (cyG (List.getD (cysL (sizeD d)) (Int.toNat (↑(WalkI.i i) : Int)) (Fm.mk (0 : Int) (0 : Int) (0 : Int)))) (8 : Nat))) (fvals (List.length (cyG (List.getD (cysL (sizeD d)) (Int.toNat (↑(WalkI.i i) : Int)) (Fm.mk (0 : Int) (0 : Int) (0 : Int))))) (fL (cyG (List.getD (cysL (sizeD d)) (Int.toNat (↑(WalkI.i i) : Int)) (Fm.mk (0 : Int) (0 : Int) (0 : Int)))) (8 : Nat))) then false = true else ∃ j, WalkI.i j ≤ List.length (cysL (sizeD d)) ∧ ((true = true ∧ ((1 : Nat) = 1 ∧ List.length (cysL (sizeD d)) = List.length (cysL (sizeD d)) ∧ LeFun (List.length (cysL (sizeD d))) (cysR (cysL (sizeD d))) (cysR (cysL (sizeD d)))) ∧ ((1 : Nat) = 1 ∧ List.length (cysL (sizeD d)) = List.length (cysL (sizeD d)) ∧ LeFun (List.length (cysL (sizeD d))) (cysR (cysL (sizeD d))) (cysR (cysL (sizeD d)))) ∧ IntKind.wrap IntKind.i64 ((↑(WalkI.i i) : Int) + 1) = (↑(WalkI.i j) : Int) ∧ True) ∧ (d = d ∧ (i0 = i0 ∧ i1 = i1 ∧ True) ∧ (m0 = m0 ∧ m1 = m1 ∧ True) ∧ True) ∧ LeB (sizeD d) (sizeD d) 64 64 ∧ True) ∧ List.length (cysL (sizeD d)) - WalkI.i j < List.length (cysL (sizeD d)) - WalkI.i i else true = true) = evFn (env [c_lex, c_size, c_rof, c_cys, c_r17cys, c_class, c_r17sl] (a_v2 (cysL (sizeD d)))) Tryz.f4 [.st [.int .u16 d, .st [.int .u16 i0, .int .u16 i1], .st [.int .u8 m0, .int .u8 m1]]] (MRes.sat (.ret (.bool true))) := by kernel_rfl
theorem perGo_le (s : Int) (f : Fm) : ∀ (k : Nat) (g : Fm), perGo k s f g ≤ k + 1
 | 0, _ => Nat.le_refl _
 | k + 1, g => by
  show (cond _ 1 (perGo k s f (rho s g) + 1)) ≤ k + 1 + 1
  have := perGo_le s f k (rho s g)
  cases (decide (g.A = f.A) && (decide (g.B = f.B) && decide (g.C = f.C))) <;> simp only [cond_true, cond_false] <;> omega
theorem knS_le (d : Int) : knS d ≤ 255 := by
 by_cases h : knE d = 0
 ·exact (kn_dis h).2.1
 ·rw [knS, if_neg h]; omega
theorem cyG_le (g : Fm) : (cyG g).length ≤ 65409 := by
 rw [cyG, List.length_map, List.length_range]
 have h1 := perGo_le (knS g.disc) g ((2 * (knS g.disc).toNat + 1) * ((knS g.disc).toNat / 2 + 1)) (rho (knS g.disc) g)
 have hs := knS_le g.disc
 have h2 : (2 * (knS g.disc).toNat + 1) * ((knS g.disc).toNat / 2 + 1) ≤ 511 * 128 := Nat.mul_le_mul (by omega) (by omega)
 show perGo _ _ _ _ ≤ _
 omega
theorem cysL_le (d : Int) : (cysL d).length ≤ 130305 := by
 rw [cysL]
 by_cases h : knE d = 0
 ·rw [if_pos h]
  have hs := knS_le d
  have h2 : (2 * (knS d).toNat + 1) * (knS d).toNat ≤ 511 * 255 := Nat.mul_le_mul (by omega) (by omega)
  have := all_len d (knS d) (2 * (knS d).toNat + 1)
  omega
 ·rw [if_neg h]; simp
def s_v2 : FSpec
 | [.st [.int .u16 d, .st [.int .u16 i0, .int .u16 i1], .st [.int .u8 m0, .int .u8 m1]]] => some (some (OkX d i0 i1 m0 m1), .ret (.bool true))
 | _ => none
theorem p_v2 : Good Tryz.f4 s_v2 := by
 intro ms p r h hp
 unfold s_v2 at h
 split at h
 ·rename_i d i0 i1 m0 m1
  simp only [Option.some.injEq, Prod.mk.injEq] at h
  obtain ⟨rfl, rfl⟩ := h
  have hx : OkX d i0 i1 m0 m1 := hp
  refine ⟨env [c_lex, c_size, c_rof, c_cys, c_r17cys, c_class, c_r17sl] (a_v2 (cysL (sizeD d))), ?_⟩
  rw [← vc_v2 d i0 i1 m0 m1]
  obtain ⟨hk, h5, h6⟩ := size_spec hx.a
  have hk' : (knE (sizeD d) != 0) = false := by rw [hk]; rfl
  have hL := cysL_le (sizeD d)
  generalize cysL (sizeD d) = L at hL ⊢
  have h7 : (sizeD d).natAbs < 2 ^ 64 := by have : (2 : Nat) ^ 64 = 18446744073709551616 := rfl; omega
  refine ⟨⟨hx.a, hx.b⟩, ?_⟩
  repeat (first | refine condF hk' ?_ | refine condF (bneI _) ?_ | refine ⟨by omega, ?_⟩ | refine ⟨by decide, ?_⟩)
  refine ⟨⟨⟨0⟩, Nat.zero_le _, ?_⟩, fun i hi => ?_⟩
  ·and_intros <;> first | exact True.intro | rfl | exact .inl (Nat.le_refl _) | exact LeFun.refl | exact .inr h7 | omega
  obtain ⟨i⟩ := i
  have hi : i ≤ L.length := hi
  dsimp only
  rw [Int.toNat_natCast]
  refine condI decide_eq_true_iff (fun q => ?_) (fun q => rfl)
  have hl := cyG_le (L.getD i ⟨0, 0, 0⟩)
  have e5 : IntKind.wrap IntKind.i64 ((i : Int) + 1) = ((i + 1 : Nat) : Int) := by rw [i64w (by omega) (by omega)]; omega
  rw [e5]
  refine ⟨by omega, by omega, ⟨fun _ _ => isFm_fmv _ (by decide), fun _ _ => isFm_fmv _ (by decide), by omega⟩, condF (not_of (eqFL_refl _)) ?_⟩
  refine ⟨⟨i + 1⟩, by show i + 1 ≤ L.length; omega, ?_, by show L.length - (i + 1) < L.length - i; omega⟩
  and_intros <;> first | exact True.intro | rfl | exact .inl (Nat.le_refl _) | exact LeFun.refl | exact .inr h7
 ·simp at h
noncomputable def c_v2 : Ctr Tryz.prog := ⟨4, s_v2, fun args w => Tryz.call4 args w, fn_ok mix Tryz.func4 s_v2 p_v2⟩
end Go.Proofs.YtnfmjlhkknndhaaGreat
/-
 CycleLists, whatever the description is.
-/
namespace Go.Proofs.YtnfmjlhkknndhaaGreat
open Go Go.ChangeShapes Go.WideShapes Go.ChangeAt Go.RowKit
def tysCycleLists : List Nat := [26, 22, 23, 24, 5]
theorem tysCycleLists_ok : tysCycleLists.all (subOk Tryz.prog tysCycleLists) = true := by kernel_rfl
theorem cycleLists_contract (H : Type) (enc : TypeId × Value → H) (W : World) (args : Array Value) (ds gs : List (DataW H)) (before : List MemPlace)
  (hW : DataW.Whole enc Tryz.prog Tryz.f4.params.toList Rows.cycleListsSpec.vars Rows.cycleListsRow.apart W args.toList ds gs before) :
  Calls Tryz.prog 4 args W fun e W' => ∃ v, e = .returned v ∧ Rows.cycleListsSpec.post enc Tryz.prog Tryz.f4 Rows.cycleListsRow.apart Rows.cycleListsRow.fresh Rows.cycleListsRow.handsOn Rows.cycleListsRow.again W args v W' := by
 have hW' := hW
 obtain ⟨p, q, hA, hV, rfl, hfz, hnd⟩ := hW
 rw [Tryz.params4] at hA
 obtain ⟨v0, d0d, rfl, rfl, h0⟩ := trodAll_one hA
 obtain ⟨rfl, rfl⟩ := trodVars_none hV
 obtain ⟨d0, i0a, i0b, m0a, m0b, r0, w0⟩ := rep_r17 h0
 refine law_calls c_v2 rfl rfl tysCycleLists_ok (by rw [Tryz.params4]; decide) hW' (gw0 W) ⟨[.st [.int .u16 d0, .st [.int .u16 i0a, .int .u16 i0b], .st [.int .u8 m0a, .int .u8 m0b]]], _, rfl, w0, _, _, rfl, r0, rfl⟩ rfl
set_option maxHeartbeats 1600000 in
set_option maxRecDepth 100000 in
theorem cycleLists_lifted (os : Os) (started : os.Started) (H : Type) (enc : TypeId × Value → H) :
  ReturnsInHanded {} Tryz.checked os 4 .any (Rows.cycleListsSpec.pre6 enc Tryz.prog Tryz.f4 Rows.cycleListsRow.domain Rows.cycleListsRow.apart) (Rows.cycleListsSpec.post enc Tryz.prog Tryz.f4 Rows.cycleListsRow.apart Rows.cycleListsRow.fresh Rows.cycleListsRow.handsOn Rows.cycleListsRow.again) := by
 refine returnsInHanded_of_change (C := Tryz.checked) own started (by kernel_rfl) Tryz.func4
  (ChangeSpec.witness6 (enc := enc) (C := Tryz.checked) false ⟨#[], #[.agg #[.int .u16 0, .int .u16 0, .int .u16 0, .int .u8 0, .int .u8 0]], []⟩ 8 (by kernel_rfl) (by kernel_rfl) (by kernel_rfl) (by kernel_rfl)) ?_
 intro W _ args ds gs before _ hW _ _
 exact cycleLists_contract H enc W args ds gs before hW
theorem cycleLists_over : Rows.cycleListsRow.holds Tryz.pinned (OpenSpec.ofChange Rows.cycleListsSpec) :=
 OpenClaim.holds_of_wide 4 Tryz.f4 rfl rfl rfl rfl rfl rfl rfl ⟨rfl, rfl, rfl, rfl, rfl⟩ rfl rfl rfl rfl rfl (by kernel_rfl) Tryz.func4 (by kernel_rfl)
  (of_decide_eq_true (by kernel_rfl)) (by unfold Func.isWrapper; first | (rw [if_pos (by decide +kernel)]; kernel_rfl) | (rw [if_neg (by decide +kernel)]; exact ⟨rfl, rfl⟩))
  (fun os started H enc _ => cycleLists_lifted os started H enc)
theorem cycleLists_holds : Rows.CycleListsSaid := cycleLists_over
end Go.Proofs.YtnfmjlhkknndhaaGreat
