/-
  The frame of the laws of chapter 17: descriptions of forms and of matrices.
-/
import Derived.Test.YtnfmjlhkknndhaaGreatW5
import Derived.Test.YtnfmjlhkknndhaaGreatW2
import Derived.Test.YtnfmjlhkknndhaaGreatRows
import Derived.Test.YtnfmjlhkknndhaaGreatW4
import Derived.ProofKit
import Derived.OpenShut
import Derived.JoinedCond
import Derived.LaidMore
import Derived.LaidLaws
import Derived.LaidHandle
import Derived.ChangeVars
import Derived.Stop.Joined
import Derived.ChangeSame
import Derived.MakeChecks

/-
 Contracts of functions: algoristref17 (cycles of the reference), second part.
-/
namespace Go.Proofs.YtnfmjlhkknndhaaGreat
open Go Go.RowKit
def a_r17red (s : Int) (f : Fm) (W n0 : Nat) : Nat → MS → Option LoopAnn
 | 5, e => some (.inv WalkI (fun i => i.i ≤ n0) (fun i => ⟨34, [(1, .bp 0 0), (2, .bp 1 0), (3, .bp 2 0), (6, .bp 3 0)], setNth (setNth e.bx 0 ⟨false, .one (fmv (rhoN s i.i f) W)⟩) 3 ⟨false, .one (mmv (walkR s i.i f) (i.i * W + 1))⟩, 0⟩) (fun i => n0 - i.i))
 | _, _ => none
theorem vc_r17red (a b c : Int) (n m k W : Nat) : ((n ≤ 100000 ∧ m ≤ 100000 ∧ k ≤ 100000) ∧ (2 : Nat) * max3 n m k + 66 ≤ 100000 ∧ bif knE (Fm.disc (Fm.mk a b c)) != 0 then FLe (Fm.mk 0 0 0) (redR (Fm.mk a b c)) 0 W ∧ MLe (Mx.mk 0 0 0 0) (redRM (Fm.mk a b c)) 0 (widM W) ∧ knE (Fm.disc (Fm.mk a b c)) = knE (Fm.disc (Fm.mk a b c)) ∧ True else ((-9223372036854775808 : Int) ≤ 1 ∧ (1 : Int) ≤ 9223372036854775807 ∧ (-9223372036854775808 : Int) ≤ 0 ∧ (0 : Int) ≤ 9223372036854775807 ∧ (-9223372036854775808 : Int) ≤ 0 ∧ (0 : Int) ≤ 9223372036854775807 ∧ (-9223372036854775808 : Int) ≤ 1 ∧ (1 : Int) ≤ 9223372036854775807) ∧ (∃ i, WalkI.i i ≤ stepsOf (Fm.mk a b c) ∧ ((0 : Nat) = 0 ∧ (0 : Nat) = 0 ∧ (0 : Nat) = 0 ∧ (0 : Nat) = 0 ∧ True) ∧ (LeB a (Fm.A (rhoN (knS (Fm.disc (Fm.mk a b c))) (WalkI.i i) (Fm.mk a b c))) n W ∧ LeB b (Fm.B (rhoN (knS (Fm.disc (Fm.mk a b c))) (WalkI.i i) (Fm.mk a b c))) m W ∧ LeB c (Fm.C (rhoN (knS (Fm.disc (Fm.mk a b c))) (WalkI.i i) (Fm.mk a b c))) k W ∧ True) ∧ (LeB 0 0 0 0 ∧ LeB 0 0 0 0 ∧ LeB 0 0 0 0 ∧ True) ∧ (LeB 0 0 0 0 ∧ LeB 0 0 0 0 ∧ LeB 0 0 0 0 ∧ LeB 0 0 0 0 ∧ True) ∧ MLe (Mx.mk 1 0 0 1) (walkR (knS (Fm.disc (Fm.mk a b c))) (WalkI.i i) (Fm.mk a b c)) 64 (WalkI.i i * W + 1) ∧ True) ∧ ∀ (i : WalkI), WalkI.i i ≤ stepsOf (Fm.mk a b c) → (W ≤ 40000 ∧ W ≤ 40000 ∧ W ≤ 40000) ∧ bif !redQ (rhoN (knS (Fm.disc (Fm.mk a b c))) (WalkI.i i) (Fm.mk a b c)) then (W ≤ 10000 ∧ W ≤ 10000 ∧ W ≤ 10000) ∧ max4 (WalkI.i i * W + 1) (WalkI.i i * W + 1) (WalkI.i i * W + 1) (WalkI.i i * W + 1) + max4 (max (max3 W W W) (64 : Nat)) (max (max3 W W W) (64 : Nat)) (max (max3 W W W) (64 : Nat)) (max (max3 W W W) (64 : Nat)) ≤ 900000 ∧ ∃ j, WalkI.i j ≤ stepsOf (Fm.mk a b c) ∧ (((0 : Nat) = 0 ∧ (0 : Nat) = 0 ∧ (0 : Nat) = 0 ∧ (0 : Nat) = 0 ∧ True) ∧ FLe (rhoR (rhoN (knS (Fm.disc (Fm.mk a b c))) (WalkI.i i) (Fm.mk a b c))) (rhoN (knS (Fm.disc (Fm.mk a b c))) (WalkI.i j) (Fm.mk a b c)) (max (max3 W W W) (64 : Nat)) W ∧ (LeB 0 0 0 0 ∧ LeB 0 0 0 0 ∧ LeB 0 0 0 0 ∧ True) ∧ (LeB 0 0 0 0 ∧ LeB 0 0 0 0 ∧ LeB 0 0 0 0 ∧ LeB 0 0 0 0 ∧ True) ∧ MLe (Mx.mk (Mx.a (walkR (knS (Fm.disc (Fm.mk a b c))) (WalkI.i i) (Fm.mk a b c)) * Mx.a (rhoM (rhoN (knS (Fm.disc (Fm.mk a b c))) (WalkI.i i) (Fm.mk a b c))) + Mx.b (walkR (knS (Fm.disc (Fm.mk a b c))) (WalkI.i i) (Fm.mk a b c)) * Mx.c (rhoM (rhoN (knS (Fm.disc (Fm.mk a b c))) (WalkI.i i) (Fm.mk a b c)))) (Mx.a (walkR (knS (Fm.disc (Fm.mk a b c))) (WalkI.i i) (Fm.mk a b c)) * Mx.b (rhoM (rhoN (knS (Fm.disc (Fm.mk a b c))) (WalkI.i i) (Fm.mk a b c))) + Mx.b (walkR (knS (Fm.disc (Fm.mk a b c))) (WalkI.i i) (Fm.mk a b c)) * Mx.d (rhoM (rhoN (knS (Fm.disc (Fm.mk a b c))) (WalkI.i i) (Fm.mk a b c)))) (Mx.c (walkR (knS (Fm.disc (Fm.mk a b c))) (WalkI.i i) (Fm.mk a b c)) * Mx.a (rhoM (rhoN (knS (Fm.disc (Fm.mk a b c))) (WalkI.i i) (Fm.mk a b c))) + Mx.d (walkR (knS (Fm.disc (Fm.mk a b c))) (WalkI.i i) (Fm.mk a b c)) * Mx.c (rhoM (rhoN (knS (Fm.disc (Fm.mk a b c))) (WalkI.i i) (Fm.mk a b c)))) (Mx.c (walkR (knS (Fm.disc (Fm.mk a b c))) (WalkI.i i) (Fm.mk a b c)) * Mx.b (rhoM (rhoN (knS (Fm.disc (Fm.mk a b c))) (WalkI.i i) (Fm.mk a b c))) + Mx.d (walkR (knS (Fm.disc (Fm.mk a b c))) (WalkI.i i) (Fm.mk a b c)) * Mx.d (rhoM (rhoN (knS (Fm.disc (Fm.mk a b c))) (WalkI.i i) (Fm.mk a b c))))) (walkR (knS (Fm.disc (Fm.mk a b c))) (WalkI.i j) (Fm.mk a b c)) (max4 (WalkI.i i * W + 1) (WalkI.i i * W + 1) (WalkI.i i * W + 1) (WalkI.i i * W + 1) + max4 (max (max3 W W W) (64 : Nat)) (max (max3 W W W) (64 : Nat)) (max (max3 W W W) (64 : Nat)) (max (max3 W W W) (64 : Nat)) + 1) (WalkI.i j * W + 1) ∧ True) ∧ stepsOf (Fm.mk a b c) - WalkI.i j < stepsOf (Fm.mk a b c) - WalkI.i i else FLe (rhoN (knS (Fm.disc (Fm.mk a b c))) (WalkI.i i) (Fm.mk a b c)) (redR (Fm.mk a b c)) W W ∧ MLe (walkR (knS (Fm.disc (Fm.mk a b c))) (WalkI.i i) (Fm.mk a b c)) (redRM (Fm.mk a b c)) (WalkI.i i * W + 1) (widM W) ∧ (0 : Int) = knE (Fm.disc (Fm.mk a b c)) ∧ True) = evFn (env [c_r8disc, c_r17known, c_r8mat, c_r17reduced, c_r17rho, c_r8times] (a_r17red (knS (Fm.disc ⟨a, b, c⟩)) ⟨a, b, c⟩ W (stepsOf ⟨a, b, c⟩))) Tryz.f18 [.st [.big a n, .big b m, .big c k]] (MRes.sat (.ret (.tup [fmv (redR ⟨a, b, c⟩) W, mmv (redRM ⟨a, b, c⟩) (widM W), .int .i64 (knE (Fm.disc ⟨a, b, c⟩))]))) := by kernel_rfl
theorem p_r17red : GoodF Tryz.f18 s_creduce := by
 intro ms p r h hp hf
 unfold s_creduce at h
 split at h
 ·rename_i a n b m c k
  simp only [Option.some.injEq, Prod.mk.injEq] at h
  obtain ⟨rfl, rfl⟩ := h
  obtain ⟨h1, h2, h3⟩ : n ≤ 300 ∧ m ≤ 300 ∧ k ≤ 300 := hp
  simp only [factsL, MV.facts] at hf
  obtain ⟨⟨ha, hb, hc, _⟩, _⟩ := hf
  have hm3 : max3 n m k = max n (max m k) := rfl
  generalize hWW : wid n m k = W
  have hW : W = max (max n (max m k)) 64 := hWW.symm
  refine ⟨env [c_r8disc, c_r17known, c_r8mat, c_r17reduced, c_r17rho, c_r8times] (a_r17red (knS (Fm.disc ⟨a, b, c⟩)) ⟨a, b, c⟩ W (stepsOf ⟨a, b, c⟩)), ?_⟩
  rw [← vc_r17red a b c n m k W]
  refine ⟨by omega, by omega, condI bne_iff_ne (fun q => ?_) (fun q => ?_)⟩
  ·have e1 : redR ⟨a, b, c⟩ = ⟨0, 0, 0⟩ := if_neg q
   have e2 : redRM ⟨a, b, c⟩ = ⟨0, 0, 0, 0⟩ := if_neg q
   rw [e1, e2]
   and_intros <;> first | exact True.intro | rfl | exact .inl (Nat.zero_le _)
  ·have q := Decidable.not_not.1 q
   obtain ⟨hd, hs, _⟩ := kn_dis q
   have e1 : redR ⟨a, b, c⟩ = redG ⟨a, b, c⟩ := if_pos q
   have e2 : redRM ⟨a, b, c⟩ = redM ⟨a, b, c⟩ := if_pos q
   have hbd : Fm.bd ⟨a, b, c⟩ W := ⟨lt_pow_le ha (by omega), lt_pow_le hb (by omega), lt_pow_le hc (by omega)⟩
   obtain ⟨k1, k2, k3⟩ := steps_spec q (k := W) hbd.C
   rw [e1, e2]
   unfold max3 max4
   generalize hS : knS (Fm.disc ⟨a, b, c⟩) = s at *
   refine ⟨by omega, ⟨⟨0⟩, Nat.zero_le _, ?_⟩, ?_⟩
   ·and_intros <;> first | exact True.intro | rfl | exact .inl (Nat.le_refl _) | exact .inl (by omega) | (right; show _ < 2 ^ (0 * W + 1); rw [Nat.zero_mul]; decide)
   ·intro i hi
    obtain ⟨i⟩ := i
    have hi : i ≤ stepsOf ⟨a, b, c⟩ := hi
    have hg := rhoN_bd hd hs (k := W) (by omega) i rfl hbd
    have hM := walkR_bd hd hs (k := W) (by omega) rfl hbd i
    have hiw : i * W + 1 ≤ widM W := by
     have := Nat.mul_le_mul_right W (show i ≤ W + 2 by omega)
     unfold widM
     omega
    have hwm : widM W ≤ 90601 := by
     have := Nat.mul_le_mul (show W + 2 ≤ 302 by omega) (show W ≤ 300 by omega)
     unfold widM
     omega
    have hdi := rhoN_disc hd i (f := ⟨a, b, c⟩) rfl
    have gR : rhoR (rhoN s i ⟨a, b, c⟩) = rhoN s (i + 1) ⟨a, b, c⟩ := by
     unfold rhoR
     rw [hdi, if_pos q, hS, ← rhoN_succ]
    have gM : rhoM (rhoN s i ⟨a, b, c⟩) = stepM s (rhoN s i ⟨a, b, c⟩) := by
     unfold rhoM
     rw [hdi, if_pos q, hS]
    dsimp only
    rw [gR, gM]
    refine ⟨by omega, condI Iff.rfl (fun q1 => ?_) (fun q1 => ?_)⟩
    ·have q1 : redQ (rhoN s i ⟨a, b, c⟩) = false := by
      cases hb : redQ (rhoN s i ⟨a, b, c⟩) with
      | true => rw [show redQ _ = true from hb] at q1; simp at q1
      | false => rfl
     have hlt : i < stepsOf ⟨a, b, c⟩ := by
      rcases Nat.lt_or_ge i (stepsOf ⟨a, b, c⟩) with hl | hl
      ·exact hl
      ·obtain rfl : i = stepsOf ⟨a, b, c⟩ := by omega
       rw [k2] at q1; simp at q1
     have hg' := rhoN_bd hd hs (k := W) (by omega) (i + 1) rfl hbd
     have hM' := walkR_bd hd hs (k := W) (by omega) rfl hbd (i + 1)
     refine ⟨by omega, by omega, ⟨i + 1⟩, hlt, ?_, ?_⟩
     ·dsimp only
      and_intros <;> first | exact True.intro | rfl | exact .inl (Nat.le_refl _) | exact .inr hg'.A | exact .inr hg'.B | exact .inr hg'.C | exact .inr hM'.a | exact .inr hM'.b | exact .inr hM'.c | exact .inr hM'.d
     ·show stepsOf _ - (i + 1) < stepsOf _ - i
      omega
    ·have q1 : redQ (rhoN s i ⟨a, b, c⟩) = true := by
      cases hb : redQ (rhoN s i ⟨a, b, c⟩) with
      | true => rfl
      | false => exact absurd (by rw [show redQ _ = false from hb]; rfl) q1
     have hii : i = stepsOf ⟨a, b, c⟩ := by
      rcases Nat.lt_or_ge i (stepsOf ⟨a, b, c⟩) with hl | hl
      ·have := k3 i hl
       rw [q1] at this
       simp at this
      ·omega
     have g1 : redG ⟨a, b, c⟩ = rhoN s i ⟨a, b, c⟩ := by unfold redG; rw [hS, ← hii]
     have g2 : redM ⟨a, b, c⟩ = walkR s i ⟨a, b, c⟩ := by unfold redM; rw [hS, ← hii]
     rw [g1, g2, q]
     and_intros <;> first | exact True.intro | rfl | exact .inl (Nat.le_refl _) | exact .inl hiw
 ·simp at h
def c_r17red : Ctr Tryz.prog := ⟨18, s_creduce, fun args w => Tryz.call18 args w, fn_ok_facts mix Tryz.func18 s_creduce p_r17red⟩
def a_r17cyc (s : Int) (g : Fm) (n0 : Nat) : Nat → MS → Option LoopAnn
 | 6, e => some (.inv WalkI (fun i => 1 ≤ i.i ∧ i.i ≤ n0) (fun i => ⟨43, [(4, .bp 1 0), (7, .bs 3 0 i.i), (8, .bp 4 0)], setNth (setNth (setNth e.bx 1 ⟨false, .one (fmv g 8)⟩) 3 ⟨false, .rows 6 i.i (fun j => fmv (rhoN s j g) 8)⟩) 4 ⟨false, .one (fmv (rhoN s i.i g) 8)⟩, 0⟩) (fun i => n0 - i.i))
 | _, _ => none
theorem vc_r17cyc (a b c : Int) (n m k : Nat) : ((n ≤ 300 ∧ m ≤ 300 ∧ k ≤ 300) ∧ bif knE (Fm.disc (Fm.mk a b c)) != 0 then (Value.slice none (0 : Nat) (0 : Nat) = Value.slice none (0 : Nat) (0 : Nat) ∧ List.length (cyL (Fm.mk a b c)) = 0) ∧ knE (Fm.disc (Fm.mk a b c)) = knE (Fm.disc (Fm.mk a b c)) ∧ True else (wid n m k ≤ 10000 ∧ wid n m k ≤ 10000 ∧ wid n m k ≤ 10000) ∧ (∃ i, ((1 : Nat) ≤ WalkI.i i ∧ WalkI.i i ≤ perOf (redR (Fm.mk a b c))) ∧ ((0 : Nat) = 0 ∧ ((0 : Nat) = 0 ∧ (1 : Nat) = WalkI.i i) ∧ (0 : Nat) = 0 ∧ True) ∧ (LeB a a n n ∧ LeB b b m m ∧ LeB c c k k ∧ True) ∧ FLe (redR (Fm.mk a b c)) (redR (Fm.mk a b c)) (wid n m k) 8 ∧ MLe (redRM (Fm.mk a b c)) (redRM (Fm.mk a b c)) (widM (wid n m k)) (widM (wid n m k)) ∧ ((1 : Nat) = WalkI.i i ∧ LeFun (1 : Nat) (rowOf [MV.st [MV.big (Fm.A (redR (Fm.mk a b c))) (wid n m k), MV.big (Fm.B (redR (Fm.mk a b c))) (wid n m k), MV.big (Fm.C (redR (Fm.mk a b c))) (wid n m k)]]) fun j => fmv (rhoN (knS (Fm.disc (redR (Fm.mk a b c)))) j (redR (Fm.mk a b c))) (8 : Nat)) ∧ FLe (rhoR (redR (Fm.mk a b c))) (rhoN (knS (Fm.disc (redR (Fm.mk a b c)))) (WalkI.i i) (redR (Fm.mk a b c))) (max (max3 (wid n m k) (wid n m k) (wid n m k)) (64 : Nat)) 8 ∧ MLe (rhoM (redR (Fm.mk a b c))) (rhoM (redR (Fm.mk a b c))) (max (max3 (wid n m k) (wid n m k) (wid n m k)) (64 : Nat)) (max (max3 (wid n m k) (wid n m k) (wid n m k)) (64 : Nat)) ∧ True) ∧ ∀ (i : WalkI), (1 : Nat) ≤ WalkI.i i ∧ WalkI.i i ≤ perOf (redR (Fm.mk a b c)) → ((8 : Nat) ≤ 1000000 ∧ (8 : Nat) ≤ 1000000 ∧ (8 : Nat) ≤ 1000000 ∧ (8 : Nat) ≤ 1000000 ∧ (8 : Nat) ≤ 1000000 ∧ (8 : Nat) ≤ 1000000) ∧ bif !eqF (rhoN (knS (Fm.disc (redR (Fm.mk a b c)))) (WalkI.i i) (redR (Fm.mk a b c))) (redR (Fm.mk a b c)) then ((1 : Nat) ≤ 1 ∧ WalkI.i i ≤ WalkI.i i ∧ (WalkI.i i + News.len (News.rows (6 : Nat) (1 : Nat) (rowOf [MV.st [MV.big (Fm.A (rhoN (knS (Fm.disc (redR (Fm.mk a b c)))) (WalkI.i i) (redR (Fm.mk a b c)))) (8 : Nat), MV.big (Fm.B (rhoN (knS (Fm.disc (redR (Fm.mk a b c)))) (WalkI.i i) (redR (Fm.mk a b c)))) (8 : Nat), MV.big (Fm.C (rhoN (knS (Fm.disc (redR (Fm.mk a b c)))) (WalkI.i i) (redR (Fm.mk a b c)))) (8 : Nat)]]))) * 96 ≤ 140737488355328) ∧ ((8 : Nat) ≤ 10000 ∧ (8 : Nat) ≤ 10000 ∧ (8 : Nat) ≤ 10000) ∧ ∃ j, ((1 : Nat) ≤ WalkI.i j ∧ WalkI.i j ≤ perOf (redR (Fm.mk a b c))) ∧ (((0 : Nat) = 0 ∧ ((0 : Nat) = 0 ∧ WalkI.i i + News.len (News.rows (6 : Nat) (1 : Nat) (rowOf [MV.st [MV.big (Fm.A (rhoN (knS (Fm.disc (redR (Fm.mk a b c)))) (WalkI.i i) (redR (Fm.mk a b c)))) (8 : Nat), MV.big (Fm.B (rhoN (knS (Fm.disc (redR (Fm.mk a b c)))) (WalkI.i i) (redR (Fm.mk a b c)))) (8 : Nat), MV.big (Fm.C (rhoN (knS (Fm.disc (redR (Fm.mk a b c)))) (WalkI.i i) (redR (Fm.mk a b c)))) (8 : Nat)]])) = WalkI.i j) ∧ (0 : Nat) = 0 ∧ True) ∧ (LeB a a n n ∧ LeB b b m m ∧ LeB c c k k ∧ True) ∧ FLe (redR (Fm.mk a b c)) (redR (Fm.mk a b c)) 8 8 ∧ MLe (redRM (Fm.mk a b c)) (redRM (Fm.mk a b c)) (widM (wid n m k)) (widM (wid n m k)) ∧ (WalkI.i i + 1 = WalkI.i j ∧ LeFun (WalkI.i i + 1) (fun q => bif Nat.blt q (WalkI.i i) then fmv (rhoN (knS (Fm.disc (redR (Fm.mk a b c)))) q (redR (Fm.mk a b c))) (8 : Nat) else rowOf [MV.st [MV.big (Fm.A (rhoN (knS (Fm.disc (redR (Fm.mk a b c)))) (WalkI.i i) (redR (Fm.mk a b c)))) (8 : Nat), MV.big (Fm.B (rhoN (knS (Fm.disc (redR (Fm.mk a b c)))) (WalkI.i i) (redR (Fm.mk a b c)))) (8 : Nat), MV.big (Fm.C (rhoN (knS (Fm.disc (redR (Fm.mk a b c)))) (WalkI.i i) (redR (Fm.mk a b c)))) (8 : Nat)]] (q - WalkI.i i)) fun j => fmv (rhoN (knS (Fm.disc (redR (Fm.mk a b c)))) j (redR (Fm.mk a b c))) (8 : Nat)) ∧ FLe (rhoR (rhoN (knS (Fm.disc (redR (Fm.mk a b c)))) (WalkI.i i) (redR (Fm.mk a b c)))) (rhoN (knS (Fm.disc (redR (Fm.mk a b c)))) (WalkI.i j) (redR (Fm.mk a b c))) 64 8 ∧ MLe (rhoM (redR (Fm.mk a b c))) (rhoM (redR (Fm.mk a b c))) (max (max3 (wid n m k) (wid n m k) (wid n m k)) (64 : Nat)) (max (max3 (wid n m k) (wid n m k) (wid n m k)) (64 : Nat)) ∧ True) ∧ perOf (redR (Fm.mk a b c)) - WalkI.i j < perOf (redR (Fm.mk a b c)) - WalkI.i i else WalkI.i i ≤ WalkI.i i ∧ ((6 : Nat) = 6 ∧ WalkI.i i = List.length (cyL (Fm.mk a b c)) ∧ LeFun (WalkI.i i) (fun j => fmv (rhoN (knS (Fm.disc (redR (Fm.mk a b c)))) j (redR (Fm.mk a b c))) (8 : Nat)) (fL (cyL (Fm.mk a b c)) (8 : Nat))) ∧ (0 : Int) = knE (Fm.disc (Fm.mk a b c)) ∧ True) = evFn (env [c_r17red, c_r17rho, c_r8equal] (a_r17cyc (knS (redR ⟨a, b, c⟩).disc) (redR ⟨a, b, c⟩) (perOf (redR ⟨a, b, c⟩)))) Tryz.f24 [.st [.big a n, .big b m, .big c k]] (MRes.sat (.ret (.tup [lmv (cyL ⟨a, b, c⟩) 8, .int .i64 (knE (Fm.disc ⟨a, b, c⟩))]))) := by kernel_rfl
def s_r17cyc : FSpec := s_ccycle
theorem p_r17cyc : GoodF Tryz.f24 s_r17cyc := by
 intro ms p r h hp hf
 unfold s_r17cyc s_ccycle at h
 split at h
 ·rename_i a n b m c k
  simp only [Option.some.injEq, Prod.mk.injEq] at h
  obtain ⟨rfl, rfl⟩ := h
  obtain ⟨h1, h2, h3⟩ : n ≤ 300 ∧ m ≤ 300 ∧ k ≤ 300 := hp
  refine ⟨env [c_r17red, c_r17rho, c_r8equal] (a_r17cyc (knS (redR ⟨a, b, c⟩).disc) (redR ⟨a, b, c⟩) (perOf (redR ⟨a, b, c⟩))), ?_⟩
  rw [← vc_r17cyc a b c n m k]
  refine ⟨by omega, condI bne_iff_ne (fun q => ?_) (fun q => ?_)⟩
  ·have e : cyL ⟨a, b, c⟩ = [] := if_neg q
   exact ⟨⟨rfl, by rw [e]; rfl⟩, rfl, True.intro⟩
  have q := Decidable.not_not.1 q
  have hw : wid n m k ≤ 300 := by unfold wid max3; omega
  have ec : cyL ⟨a, b, c⟩ = (List.range (perOf (redR ⟨a, b, c⟩))).map fun j => rhoN (knS (redR ⟨a, b, c⟩).disc) j (redR ⟨a, b, c⟩) := if_pos q
  obtain ⟨hR, hRd⟩ := redR_RD q
  generalize redR ⟨a, b, c⟩ = R at *
  generalize redRM ⟨a, b, c⟩ = RM
  generalize wid n m k = W at *
  generalize widM W = V
  obtain ⟨q', hr⟩ := redQ_RD.1 hR
  obtain ⟨hd, hs, _⟩ := kn_dis q'
  obtain ⟨p1, _, p3, p4⟩ := per_spec hR
  have p5 := per_le hR
  have e8 : (2 : Nat) ^ 8 = 256 := rfl
  have stp : ∀ i, rhoR (rhoN (knS R.disc) i R) = rhoN (knS R.disc) (i + 1) R := fun i => by
   unfold rhoR
   rw [rhoN_disc hd i rfl, if_pos q', ← rhoN_succ]
  have stp0 : rhoR R = rhoN (knS R.disc) 1 R := stp 0
  rw [stp0]
  generalize hT : knS R.disc = T at *
  obtain ⟨r1, r2, r3, _⟩ := hr.small hd hs
  obtain ⟨s1, s2, s3, _⟩ := (hr.rhoN hd 1).small hd hs
  unfold max3
  refine ⟨by omega, ⟨⟨1⟩, ⟨Nat.le_refl _, p1⟩, ?_⟩, fun i hi => ?_⟩
  ·have hle : LeFun 1 (rowOf [MV.st [MV.big R.A W, MV.big R.B W, MV.big R.C W]]) (fun j => fmv (rhoN T j R) 8) := LeFun.of_le fun j hj => by
    obtain rfl : j = 0 := by omega
    show leMV 0 (.st [MV.big R.A W, MV.big R.B W, MV.big R.C W]) (fmv R 8)
    unfold fmv
    simp only [leMV, leMVs]
    exact ⟨⟨trivial, .inr r1⟩, ⟨trivial, .inr r2⟩, ⟨trivial, .inr r3⟩, True.intro⟩
   and_intros <;> first | exact True.intro | rfl | exact .inl (Nat.le_refl _) | exact hle | exact .inr r1 | exact .inr r2 | exact .inr r3 | exact .inr s1 | exact .inr s2 | exact .inr s3
  obtain ⟨i⟩ := i
  obtain ⟨hi1, hi2⟩ : 1 ≤ i ∧ i ≤ perOf R := hi
  dsimp only
  rw [stp i]
  have n1 : ∀ x : MV, News.len (.rows 6 1 (rowOf [x])) = 1 := fun _ => rfl
  rw [n1]
  refine ⟨by omega, condI Iff.rfl (fun q1 => ?_) (fun q1 => ?_)⟩
  ·have q1 : rhoN T i R ≠ R := fun e => by
    rw [show eqF (rhoN T i R) R = true from decide_eq_true e] at q1
    simp at q1
   have hlt : i < perOf R := by
    rcases Nat.lt_or_ge i (perOf R) with hl | hl
    ·exact hl
    ·obtain rfl : i = perOf R := by omega
     exact absurd p3 q1
   obtain ⟨s1, s2, s3, _⟩ := (hr.rhoN hd (i + 1)).small hd hs
   refine ⟨⟨by omega, Nat.le_refl _, by omega⟩, by omega, ⟨i + 1⟩, ⟨by show 1 ≤ i + 1; omega, hlt⟩, ?_, by show perOf R - (i + 1) < perOf R - i; omega⟩
   dsimp only
   and_intros <;> first | exact True.intro | rfl | exact .inl (Nat.le_refl _) | exact .inr s1 | exact .inr s2 | exact .inr s3 | exact le_snoc (le_fm _ (Nat.le_refl _))
  ·have q1 : rhoN T i R = R := by
    cases hb : eqF (rhoN T i R) R with
    | true => exact of_decide_eq_true hb
    | false => exact absurd (by rw [show eqF (rhoN T i R) R = false from hb]; rfl) q1
   have hii : i = perOf R := by
    rcases Nat.lt_or_ge i (perOf R) with hl | hl
    ·exact absurd q1 (p4 i hi1 hl)
    ·omega
   subst hii
   obtain ⟨k1, k2⟩ := lmv_le (V := 8) (W := 8) ec (Nat.le_refl _)
   exact ⟨Nat.le_refl _, ⟨rfl, k1, k2⟩, q.symm, True.intro⟩
 ·simp at h
def c_r17cyc : Ctr Tryz.prog := ⟨24, s_r17cyc, fun args w => Tryz.call24 args w, fn_ok_facts mix Tryz.func24 s_r17cyc p_r17cyc⟩
def a_has (l : List Fm) (g : Fm) (n m k : Nat) : Nat → MS → Option LoopAnn
 | 2, _ => some (.inv WalkI (fun i => i.i ≤ l.length ∧ (l.take i.i).any (fun h => eqF h g) = false) (fun i => ⟨18, [(0, .sl 6 l.length (fL l 1000)), (3, .bp 0 0), (5, .int .i64 i.i)], [⟨false, .one (.st [.big g.A n, .big g.B m, .big g.C k])⟩], 0⟩) (fun i => l.length - i.i))
 | _, _ => none
theorem vc_has (l : List Fm) (a b c : Int) (n m k : Nat) : ((∃ i, (WalkI.i i ≤ List.length l ∧ (List.any (List.take (WalkI.i i) l) fun h => eqF h (Fm.mk a b c)) = false) ∧ (((6 : Nat) = 6 ∧ List.length l = List.length l ∧ LeFun (List.length l) (fL l (1000 : Nat)) (fL l (1000 : Nat))) ∧ (0 : Nat) = 0 ∧ (0 : Int) = (↑(WalkI.i i) : Int) ∧ True) ∧ (LeB a a n n ∧ LeB b b m m ∧ LeB c c k k ∧ True) ∧ True) ∧ ∀ (i : WalkI), WalkI.i i ≤ List.length l ∧ (List.any (List.take (WalkI.i i) l) fun h => eqF h (Fm.mk a b c)) = false → bif decide ((↑(WalkI.i i) : Int) < (↑(List.length l) : Int)) then ((0 : Int) ≤ (↑(WalkI.i i) : Int) ∧ (↑(WalkI.i i) : Int) < (↑(List.length l) : Int)) ∧ ((1000 : Nat) ≤ 1000000 ∧ (1000 : Nat) ≤ 1000000 ∧ (1000 : Nat) ≤ 1000000 ∧ n ≤ 1000000 ∧ m ≤ 1000000 ∧ k ≤ 1000000) ∧ bif eqF (List.getD l (Int.toNat (↑(WalkI.i i) : Int)) (Fm.mk (0 : Int) (0 : Int) (0 : Int))) (Fm.mk a b c) then true = List.any l fun h => eqF h (Fm.mk a b c) else ∃ j, (WalkI.i j ≤ List.length l ∧ (List.any (List.take (WalkI.i j) l) fun h => eqF h (Fm.mk a b c)) = false) ∧ ((((6 : Nat) = 6 ∧ List.length l = List.length l ∧ LeFun (List.length l) (fL l (1000 : Nat)) (fL l (1000 : Nat))) ∧ (0 : Nat) = 0 ∧ IntKind.wrap IntKind.i64 ((↑(WalkI.i i) : Int) + 1) = (↑(WalkI.i j) : Int) ∧ True) ∧ (LeB a a n n ∧ LeB b b m m ∧ LeB c c k k ∧ True) ∧ True) ∧ List.length l - WalkI.i j < List.length l - WalkI.i i else false = List.any l fun h => eqF h (Fm.mk a b c)) = evFn (env [c_r8equal] (a_has l ⟨a, b, c⟩ n m k)) Tryz.f78 [.sl 6 l.length (fL l 1000), .st [.big a n, .big b m, .big c k]] (MRes.sat (.ret (.bool (l.any fun h => eqF h ⟨a, b, c⟩)))) := by kernel_rfl
def a_r17sl (a b : List Fm) : Nat → MS → Option LoopAnn
 | 4, _ => some (.inv WalkI (fun i => i.i ≤ a.length ∧ a.take i.i = b.take i.i) (fun i => ⟨27, [(0, .sl 6 a.length (fL a 1000)), (1, .sl 6 b.length (fL b 1000)), (5, .int .i64 i.i)], [], 0⟩) (fun i => a.length - i.i))
 | _, _ => none
def eqFL (a b : List Fm) : Bool := decide (a = b)
theorem vc_r17sl (a b : List Fm) : (bif (↑(List.length a) : Int) != (↑(List.length b) : Int) then false = eqFL a b else (∃ i, (WalkI.i i ≤ List.length a ∧ List.take (WalkI.i i) a = List.take (WalkI.i i) b) ∧ (((6 : Nat) = 6 ∧ List.length a = List.length a ∧ LeFun (List.length a) (fL a (1000 : Nat)) (fL a (1000 : Nat))) ∧ ((6 : Nat) = 6 ∧ List.length b = List.length b ∧ LeFun (List.length b) (fL b (1000 : Nat)) (fL b (1000 : Nat))) ∧ (0 : Int) = (↑(WalkI.i i) : Int) ∧ True) ∧ True) ∧ ∀ (i : WalkI), WalkI.i i ≤ List.length a ∧ List.take (WalkI.i i) a = List.take (WalkI.i i) b → bif decide ((↑(WalkI.i i) : Int) < (↑(List.length a) : Int)) then ((0 : Int) ≤ (↑(WalkI.i i) : Int) ∧ (↑(WalkI.i i) : Int) < (↑(List.length a) : Int)) ∧ ((0 : Int) ≤ (↑(WalkI.i i) : Int) ∧ (↑(WalkI.i i) : Int) < (↑(List.length b) : Int)) ∧ ((1000 : Nat) ≤ 1000000 ∧ (1000 : Nat) ≤ 1000000 ∧ (1000 : Nat) ≤ 1000000 ∧ (1000 : Nat) ≤ 1000000 ∧ (1000 : Nat) ≤ 1000000 ∧ (1000 : Nat) ≤ 1000000) ∧ bif !eqF (List.getD a (Int.toNat (↑(WalkI.i i) : Int)) (Fm.mk (0 : Int) (0 : Int) (0 : Int))) (List.getD b (Int.toNat (↑(WalkI.i i) : Int)) (Fm.mk (0 : Int) (0 : Int) (0 : Int))) then false = eqFL a b else ∃ j, (WalkI.i j ≤ List.length a ∧ List.take (WalkI.i j) a = List.take (WalkI.i j) b) ∧ ((((6 : Nat) = 6 ∧ List.length a = List.length a ∧ LeFun (List.length a) (fL a (1000 : Nat)) (fL a (1000 : Nat))) ∧ ((6 : Nat) = 6 ∧ List.length b = List.length b ∧ LeFun (List.length b) (fL b (1000 : Nat)) (fL b (1000 : Nat))) ∧ IntKind.wrap IntKind.i64 ((↑(WalkI.i i) : Int) + 1) = (↑(WalkI.i j) : Int) ∧ True) ∧ True) ∧ List.length a - WalkI.i j < List.length a - WalkI.i i else true = eqFL a b) = evFn (env [c_r8equal] (a_r17sl a b)) Tryz.f28 [.sl 6 a.length (fL a 1000), .sl 6 b.length (fL b 1000)] (MRes.sat (.ret (.bool (eqFL a b)))) := by kernel_rfl
theorem getD_at {l : List Fm} {i : Nat} (h : i < l.length) : l.getD i ⟨0, 0, 0⟩ = l[i] := by simp [h]
theorem has_ok (l : List Fm) (a b c : Int) (n m k : Nat) (hn : n ≤ 1000 ∧ m ≤ 1000 ∧ k ≤ 1000) (hl : l.length ≤ 1000000000000) : ∃ E : Env Tryz.prog, evFn E Tryz.f78 [.sl 6 l.length (fL l 1000), .st [.big a n, .big b m, .big c k]] (MRes.sat (.ret (.bool (l.any fun h => eqF h ⟨a, b, c⟩)))) := by
 refine ⟨env [c_r8equal] (a_has l ⟨a, b, c⟩ n m k), ?_⟩
 rw [← vc_has l a b c n m k]
 refine ⟨⟨⟨0⟩, ⟨Nat.zero_le _, rfl⟩, ?_⟩, fun i hi => ?_⟩
 ·and_intros <;> first | exact True.intro | rfl | exact .inl (Nat.le_refl _) | exact LeFun.refl
 obtain ⟨i⟩ := i
 obtain ⟨h1, h2⟩ : i ≤ l.length ∧ ((l.take i).any fun h => eqF h ⟨a, b, c⟩) = false := hi
 dsimp only
 rw [Int.toNat_natCast]
 refine condI decide_eq_true_iff (fun q => ?_) (fun q => ?_)
 ·have hlt : i < l.length := by omega
  rw [getD_at hlt]
  refine ⟨by omega, by omega, condI Iff.rfl (fun q2 => ?_) (fun q2 => ?_)⟩
  ·symm
   rw [List.any_eq_true]
   exact ⟨l[i], List.getElem_mem hlt, q2⟩
  ·have e5 : IntKind.wrap IntKind.i64 ((i : Int) + 1) = ((i + 1 : Nat) : Int) := by rw [i64w (by omega) (by omega)]; omega
   have q2' : eqF l[i] ⟨a, b, c⟩ = false := by
    cases hb : eqF l[i] ⟨a, b, c⟩ with
    | true => exact absurd hb q2
    | false => rfl
   rw [e5]
   refine ⟨⟨i + 1⟩, ⟨hlt, ?_⟩, ?_, by show l.length - (i + 1) < l.length - i; omega⟩
   ·show ((l.take (i + 1)).any fun h => eqF h ⟨a, b, c⟩) = false
    rw [List.take_add_one, List.getElem?_eq_getElem hlt, List.any_append, h2]
    simp [q2']
   ·and_intros <;> first | exact True.intro | rfl | exact .inl (Nat.le_refl _) | exact LeFun.refl
 ·obtain rfl : i = l.length := by omega
  rw [List.take_length] at h2
  exact h2.symm
def s_has : FSpec
 | [.sl 6 n f, .st [.big a i, .big b j, .big c k]] => some (some ((∀ i, i < n → isFm 1000 (f i)) ∧ n ≤ 1000000000000 ∧ i ≤ 1000 ∧ j ≤ 1000 ∧ k ≤ 1000), .ret (.bool ((fvals n f).any fun h => eqF h ⟨a, b, c⟩)))
 | _ => none
theorem p_has : ∀ ms p r, s_has ms = some (p, r) → p.holds → ∃ ms', leV.leVs 0 ms ms' ∧ ∃ E : Env Tryz.prog, evFn E Tryz.f78 ms' r.sat := by
 intro ms p r h hp
 unfold s_has at h
 split at h
 ·rename_i n f a i b j c k
  simp only [Option.some.injEq, Prod.mk.injEq] at h
  obtain ⟨rfl, rfl⟩ := h
  obtain ⟨h1, h2, h3⟩ : (∀ i, i < n → isFm 1000 (f i)) ∧ n ≤ 1000000000000 ∧ i ≤ 1000 ∧ j ≤ 1000 ∧ k ≤ 1000 := hp
  exact ⟨[.sl 6 (fvals n f).length (fL (fvals n f) 1000), .st [.big a i, .big b j, .big c k]], ⟨⟨rfl, (fvals_length n f).symm, fvals_le h1⟩, ⟨⟨rfl, .inl (Nat.le_refl _)⟩, ⟨rfl, .inl (Nat.le_refl _)⟩, ⟨rfl, .inl (Nat.le_refl _)⟩, True.intro⟩, True.intro⟩, has_ok _ a b c i j k h3 (by rw [fvals_length]; exact h2)⟩
 ·simp at h
def c_has : Ctr Tryz.prog := ⟨78, s_has, fun args w => Tryz.call78 args w, fn_ok_le mix Tryz.func78 s_has p_has⟩
theorem sl_ok (a b : List Fm) (hl : a.length ≤ 1000000000) : ∃ E : Env Tryz.prog, evFn E Tryz.f28 [.sl 6 a.length (fL a 1000), .sl 6 b.length (fL b 1000)] (MRes.sat (.ret (.bool (eqFL a b)))) := by
 refine ⟨env [c_r8equal] (a_r17sl a b), ?_⟩
 rw [← vc_r17sl a b]
 have hi : eqFL a b = true ↔ a = b := decide_eq_true_iff
 refine condI bne_iff_ne (fun q => falseI hi fun e => q (by rw [e])) (fun q => ?_)
 have q : (a.length : Int) = b.length := Decidable.not_not.1 q
 have hab : a.length = b.length := by omega
 refine ⟨⟨⟨0⟩, ⟨Nat.zero_le _, rfl⟩, ?_⟩, fun i hi' => ?_⟩
 ·and_intros <;> first | exact True.intro | rfl | exact .inl (Nat.le_refl _) | exact LeFun.refl
 obtain ⟨i⟩ := i
 obtain ⟨h1, h2⟩ : i ≤ a.length ∧ a.take i = b.take i := hi'
 dsimp only
 rw [Int.toNat_natCast]
 refine condI decide_eq_true_iff (fun q2 => ?_) (fun q2 => ?_)
 ·have hlt : i < a.length := by omega
  have hlt2 : i < b.length := by omega
  rw [getD_at hlt, getD_at hlt2]
  refine ⟨by omega, by omega, by omega, condI Iff.rfl (fun q3 => ?_) (fun q3 => ?_)⟩
  ·refine falseI hi fun e => ?_
   subst e
   rw [show eqF (a[i]) (a[i]) = true from decide_eq_true rfl] at q3
   simp at q3
  ·have e5 : IntKind.wrap IntKind.i64 ((i : Int) + 1) = ((i + 1 : Nat) : Int) := by rw [i64w (by omega) (by omega)]; omega
   have q3' : a[i] = b[i] := by
    cases hb : eqF a[i] b[i] with
    | true => exact of_decide_eq_true hb
    | false => exact absurd (by rw [show eqF a[i] b[i] = false from hb]; rfl) q3
   rw [e5]
   refine ⟨⟨i + 1⟩, ⟨hlt, ?_⟩, ?_, by show a.length - (i + 1) < a.length - i; omega⟩
   ·show a.take (i + 1) = b.take (i + 1)
    rw [List.take_add_one, List.take_add_one, List.getElem?_eq_getElem hlt, List.getElem?_eq_getElem hlt2, h2, q3']
   ·and_intros <;> first | exact True.intro | rfl | exact .inl (Nat.le_refl _) | exact LeFun.refl
 ·obtain rfl : i = a.length := by omega
  rw [List.take_length, hab, List.take_length] at h2
  exact trueI hi h2
def s_r17sl : FSpec
 | [.sl 6 n f, .sl 6 k g] => some (some ((∀ i, i < n → isFm 1000 (f i)) ∧ (∀ i, i < k → isFm 1000 (g i)) ∧ n ≤ 1000000000), .ret (.bool (eqFL (fvals n f) (fvals k g))))
 | _ => none
theorem p_r17sl : ∀ ms p r, s_r17sl ms = some (p, r) → p.holds → ∃ ms', leV.leVs 0 ms ms' ∧ ∃ E : Env Tryz.prog, evFn E Tryz.f28 ms' r.sat := by
 intro ms p r h hp
 unfold s_r17sl at h
 split at h
 ·rename_i n f k g
  simp only [Option.some.injEq, Prod.mk.injEq] at h
  obtain ⟨rfl, rfl⟩ := h
  obtain ⟨h1, h2, h3⟩ : (∀ i, i < n → isFm 1000 (f i)) ∧ (∀ i, i < k → isFm 1000 (g i)) ∧ n ≤ 1000000000 := hp
  exact ⟨[.sl 6 (fvals n f).length (fL (fvals n f) 1000), .sl 6 (fvals k g).length (fL (fvals k g) 1000)], ⟨⟨rfl, (fvals_length n f).symm, fvals_le h1⟩, ⟨rfl, (fvals_length k g).symm, fvals_le h2⟩, True.intro⟩, sl_ok _ _ (by rw [fvals_length]; exact h3)⟩
 ·simp at h
def c_r17sl : Ctr Tryz.prog := ⟨28, s_r17sl, fun args w => Tryz.call28 args w, fn_ok_le mix Tryz.func28 s_r17sl p_r17sl⟩
end Go.Proofs.YtnfmjlhkknndhaaGreat
/-
 Contracts of functions: algoristref17 (cycles of the reference), third part.
-/
namespace Go.Proofs.YtnfmjlhkknndhaaGreat
open Go Go.RowKit
def a_whole (d : Int) : Nat → MS → Option LoopAnn
 | 2, _ => some (.inv WalkI (fun i => i.i ≤ nsq d.natAbs) (fun i => ⟨14, [(0, .int .i64 d), (3, .int .i64 i.i)], [], 0⟩) (fun i => nsq d.natAbs - i.i))
 | _, _ => none
theorem vc_whole (d : Int) : ((∃ i, WalkI.i i ≤ nsq (Int.natAbs d) ∧ (d = d ∧ (0 : Int) = (↑(WalkI.i i) : Int) ∧ True) ∧ True) ∧ ∀ (i : WalkI), WalkI.i i ≤ nsq (Int.natAbs d) → bif decide (IntKind.wrap IntKind.i64 (IntKind.wrap IntKind.i64 ((↑(WalkI.i i) : Int) + 1) * IntKind.wrap IntKind.i64 ((↑(WalkI.i i) : Int) + 1)) ≤ d) then ∃ j, WalkI.i j ≤ nsq (Int.natAbs d) ∧ ((d = d ∧ IntKind.wrap IntKind.i64 ((↑(WalkI.i i) : Int) + 1) = (↑(WalkI.i j) : Int) ∧ True) ∧ True) ∧ nsq (Int.natAbs d) - WalkI.i j < nsq (Int.natAbs d) - WalkI.i i else (↑(WalkI.i i) : Int) = (↑(nsq (Int.natAbs d)) : Int)) = evFn (env [] (a_whole d)) Tryz.f79 [.int .i64 d] (MRes.sat (.ret (.int .i64 (nsq d.natAbs)))) := by kernel_rfl
def procL (D : Int) (out : List Fm) (a b : Int) : List Fm := if goodF D a b = true then out ++ [cF D a b] else out
def rowL (D a : Int) : Nat → List Fm → List Fm
 | 0, out => out
 | j + 1, out => procL D (rowL D a j out) a ((j : Int) + 1)
def allL (D s : Int) : Nat → List Fm
 | 0 => []
 | i + 1 => rowL D (-s + (i : Int)) s.toNat (allL D s i)
def listL (d : Int) : List Fm := allL d (knS d) (2 * (knS d).toNat + 1)
def a_list (D s : Int) : Nat → MS → Option LoopAnn
 | 3, e => some (.inv WalkI (fun i => i.i ≤ 2 * s.toNat + 1) (fun i => ⟨59, [(0, look 0 e.tm), (3, .bs 0 0 (allL D s i.i).length), (4, look 4 e.tm), (5, .int .i64 (-s + (i.i : Int)))], [⟨false, .rows 6 (allL D s i.i).length (fL (allL D s i.i) 64)⟩], 0⟩) (fun i => 2 * s.toNat + 1 - i.i))
 | 6, e => some (.inv WalkI (fun j => j.i ≤ s.toNat) (fun j => ⟨59, [(0, look 0 e.tm), (3, .bs 0 0 (rowL D (xA (look 5 e.tm)) j.i (allL D s (xA (look 5 e.tm) + s).toNat)).length), (4, look 4 e.tm), (5, look 5 e.tm), (6, .int .i64 ((j.i : Int) + 1))],
   [⟨false, .rows 6 (rowL D (xA (look 5 e.tm)) j.i (allL D s (xA (look 5 e.tm) + s).toNat)).length (fL (rowL D (xA (look 5 e.tm)) j.i (allL D s (xA (look 5 e.tm) + s).toNat)) 64)⟩], 0⟩) (fun j => s.toNat - j.i))
 | _, _ => none
def s_whole : FSpec
 | [.int .i64 d] => some (some (0 ≤ d ∧ d ≤ 65536), .ret (.int .i64 (nsq d.natAbs)))
 | _ => none
theorem p_whole : Good Tryz.f79 s_whole := by
 intro ms p r h hp
 unfold s_whole at h
 split at h
 ·rename_i d
  simp only [Option.some.injEq, Prod.mk.injEq] at h
  obtain ⟨rfl, rfl⟩ := h
  obtain ⟨h1, h2⟩ : 0 ≤ d ∧ d ≤ 65536 := hp
  refine ⟨env [] (a_whole d), ?_⟩
  rw [← vc_whole d]
  obtain ⟨k1, k2⟩ := nsq_spec d.natAbs
  generalize nsq d.natAbs = s at *
  have hs : s ≤ 256 := by
   rcases Nat.lt_or_ge 256 s with q | q
   ·have := Nat.mul_le_mul (show 257 ≤ s by omega) (show 257 ≤ s by omega)
    omega
   ·exact q
  refine ⟨⟨⟨0⟩, Nat.zero_le _, ⟨rfl, rfl, True.intro⟩, True.intro⟩, fun i hi => ?_⟩
  obtain ⟨i⟩ := i
  have hi : i ≤ s := hi
  dsimp only
  have hm : (i + 1) * (i + 1) ≤ 257 * 257 := Nat.mul_le_mul (by omega) (by omega)
  have e1 : IntKind.wrap IntKind.i64 ((i : Int) + 1) = ((i + 1 : Nat) : Int) := by rw [i64w (by omega) (by omega)]; omega
  have e2 : IntKind.wrap IntKind.i64 (((i + 1 : Nat) : Int) * ((i + 1 : Nat) : Int)) = (((i + 1) * (i + 1) : Nat) : Int) := by
   rw [← Int.natCast_mul]
   exact i64w (by omega) (by omega)
  rw [e1, e2]
  refine condI decide_eq_true_iff (fun q => ?_) (fun q => ?_)
  ·have hlt : i < s := by
    rcases Nat.lt_or_ge i s with q' | q'
    ·exact q'
    ·obtain rfl : i = s := by omega
     omega
   exact ⟨⟨i + 1⟩, hlt, ⟨⟨rfl, rfl, True.intro⟩, True.intro⟩, by show s - (i + 1) < s - i; omega⟩
  ·have : i = s := by
    rcases Nat.lt_or_ge i s with q' | q'
    ·have := Nat.mul_le_mul (show i + 1 ≤ s by omega) (show i + 1 ≤ s by omega)
     omega
    ·omega
   rw [this]
 ·simp at h
def c_whole : Ctr Tryz.prog := ⟨79, s_whole, fun args w => Tryz.call79 args w, fn_ok mix Tryz.func79 s_whole p_whole⟩
theorem vc_list (d : Int) : (((0 : Int) ≤ d ∧ d ≤ 65536) ∧ (∃ i, WalkI.i i ≤ 2 * Int.toNat (knS d) + 1 ∧ (d = d ∧ ((0 : Nat) = 0 ∧ (0 : Nat) = List.length (allL d (knS d) (WalkI.i i))) ∧ (↑(nsq (Int.natAbs d)) : Int) = (↑(nsq (Int.natAbs d)) : Int) ∧ IntKind.wrap IntKind.i64 ((0 : Int) - (↑(nsq (Int.natAbs d)) : Int)) = -knS d + (↑(WalkI.i i) : Int) ∧ True) ∧ ((0 : Nat) = List.length (allL d (knS d) (WalkI.i i)) ∧ LeFun (0 : Nat) (rowOf []) (fL (allL d (knS d) (WalkI.i i)) (64 : Nat))) ∧ True) ∧ ∀ (i : WalkI), WalkI.i i ≤ 2 * Int.toNat (knS d) + 1 → bif decide (-knS d + (↑(WalkI.i i) : Int) ≤ (↑(nsq (Int.natAbs d)) : Int)) then (∃ i_1, WalkI.i i_1 ≤ Int.toNat (knS d) ∧ (d = d ∧ ((0 : Nat) = 0 ∧ List.length (allL d (knS d) (WalkI.i i)) = List.length (rowL d (-knS d + (↑(WalkI.i i) : Int)) (WalkI.i i_1) (allL d (knS d) (Int.toNat (-knS d + (↑(WalkI.i i) : Int) + knS d))))) ∧ (↑(nsq (Int.natAbs d)) : Int) = (↑(nsq (Int.natAbs d)) : Int) ∧ -knS d + (↑(WalkI.i i) : Int) = -knS d + (↑(WalkI.i i) : Int) ∧ (1 : Int) = (↑(WalkI.i i_1) : Int) + 1 ∧ True) ∧ (List.length (allL d (knS d) (WalkI.i i)) = List.length (rowL d (-knS d + (↑(WalkI.i i) : Int)) (WalkI.i i_1) (allL d (knS d) (Int.toNat (-knS d + (↑(WalkI.i i) : Int) + knS d)))) ∧ LeFun (List.length (allL d (knS d) (WalkI.i i))) (fL (allL d (knS d) (WalkI.i i)) (64 : Nat)) (fL (rowL d (-knS d + (↑(WalkI.i i) : Int)) (WalkI.i i_1) (allL d (knS d) (Int.toNat (-knS d + (↑(WalkI.i i) : Int) + knS d)))) (64 : Nat))) ∧ True) ∧ ∀ (i_1 : WalkI), WalkI.i i_1 ≤ Int.toNat (knS d) → bif decide ((↑(WalkI.i i_1) : Int) + 1 ≤ (↑(nsq (Int.natAbs d)) : Int)) then bif -knS d + (↑(WalkI.i i) : Int) != 0 then (IntKind.wrap IntKind.i64 ((4 : Int) * (-knS d + (↑(WalkI.i i) : Int))) = 0 → False) ∧ bif Int.tmod (IntKind.wrap IntKind.i64 (d - IntKind.wrap IntKind.i64 (((↑(WalkI.i i_1) : Int) + 1) * ((↑(WalkI.i i_1) : Int) + 1)))) (IntKind.wrap IntKind.i64 ((4 : Int) * (-knS d + (↑(WalkI.i i) : Int)))) != 0 then ∃ j, WalkI.i j ≤ Int.toNat (knS d) ∧ ((d = d ∧ ((0 : Nat) = 0 ∧ List.length (rowL d (-knS d + (↑(WalkI.i i) : Int)) (WalkI.i i_1) (allL d (knS d) (Int.toNat (-knS d + (↑(WalkI.i i) : Int) + knS d)))) = List.length (rowL d (-knS d + (↑(WalkI.i i) : Int)) (WalkI.i j) (allL d (knS d) (Int.toNat (-knS d + (↑(WalkI.i i) : Int) + knS d))))) ∧ (↑(nsq (Int.natAbs d)) : Int) = (↑(nsq (Int.natAbs d)) : Int) ∧ -knS d + (↑(WalkI.i i) : Int) = -knS d + (↑(WalkI.i i) : Int) ∧ IntKind.wrap IntKind.i64 ((↑(WalkI.i i_1) : Int) + 1 + 1) = (↑(WalkI.i j) : Int) + 1 ∧ True) ∧ (List.length (rowL d (-knS d + (↑(WalkI.i i) : Int)) (WalkI.i i_1) (allL d (knS d) (Int.toNat (-knS d + (↑(WalkI.i i) : Int) + knS d)))) = List.length (rowL d (-knS d + (↑(WalkI.i i) : Int)) (WalkI.i j) (allL d (knS d) (Int.toNat (-knS d + (↑(WalkI.i i) : Int) + knS d)))) ∧ LeFun (List.length (rowL d (-knS d + (↑(WalkI.i i) : Int)) (WalkI.i i_1) (allL d (knS d) (Int.toNat (-knS d + (↑(WalkI.i i) : Int) + knS d))))) (fL (rowL d (-knS d + (↑(WalkI.i i) : Int)) (WalkI.i i_1) (allL d (knS d) (Int.toNat (-knS d + (↑(WalkI.i i) : Int) + knS d)))) (64 : Nat)) (fL (rowL d (-knS d + (↑(WalkI.i i) : Int)) (WalkI.i j) (allL d (knS d) (Int.toNat (-knS d + (↑(WalkI.i i) : Int) + knS d)))) (64 : Nat))) ∧ True) ∧ Int.toNat (knS d) - WalkI.i j < Int.toNat (knS d) - WalkI.i i_1 else (IntKind.wrap IntKind.i64 ((4 : Int) * (-knS d + (↑(WalkI.i i) : Int))) = 0 → False) ∧ ((-9223372036854775808 : Int) ≤ -knS d + (↑(WalkI.i i) : Int) ∧ -knS d + (↑(WalkI.i i) : Int) ≤ 9223372036854775807 ∧ (-9223372036854775808 : Int) ≤ (↑(WalkI.i i_1) : Int) + 1 ∧ (↑(WalkI.i i_1) : Int) + 1 ≤ 9223372036854775807 ∧ (-9223372036854775808 : Int) ≤ (goC d (-knS d + (↑(WalkI.i i) : Int)) ((↑(WalkI.i i_1) : Int) + 1)) ∧ (goC d (-knS d + (↑(WalkI.i i) : Int)) ((↑(WalkI.i i_1) : Int) + 1)) ≤ 9223372036854775807) ∧ ((64 : Nat) ≤ 40000 ∧ (64 : Nat) ≤ 40000 ∧ (64 : Nat) ≤ 40000) ∧ bif redQ (goF d i i_1) then ((64 : Nat) ≤ 100000 ∧ (64 : Nat) ≤ 100000 ∧ (64 : Nat) ≤ 100000) ∧ bif primF (goF d i i_1) then ((1 : Nat) ≤ 1 ∧ List.length (rowL d (-knS d + (↑(WalkI.i i) : Int)) (WalkI.i i_1) (allL d (knS d) (Int.toNat (-knS d + (↑(WalkI.i i) : Int) + knS d)))) ≤ List.length (rowL d (-knS d + (↑(WalkI.i i) : Int)) (WalkI.i i_1) (allL d (knS d) (Int.toNat (-knS d + (↑(WalkI.i i) : Int) + knS d)))) ∧ (List.length (rowL d (-knS d + (↑(WalkI.i i) : Int)) (WalkI.i i_1) (allL d (knS d) (Int.toNat (-knS d + (↑(WalkI.i i) : Int) + knS d)))) + News.len (News.rows (6 : Nat) (1 : Nat) (rowOf [MV.st [MV.big (-knS d + (↑(WalkI.i i) : Int)) (64 : Nat), MV.big ((↑(WalkI.i i_1) : Int) + 1) (64 : Nat), MV.big ((goC d (-knS d + (↑(WalkI.i i) : Int)) ((↑(WalkI.i i_1) : Int) + 1))) (64 : Nat)]]))) * 96 ≤ 140737488355328) ∧ ∃ j, WalkI.i j ≤ Int.toNat (knS d) ∧ ((d = d ∧ ((0 : Nat) = 0 ∧ List.length (rowL d (-knS d + (↑(WalkI.i i) : Int)) (WalkI.i i_1) (allL d (knS d) (Int.toNat (-knS d + (↑(WalkI.i i) : Int) + knS d)))) + News.len (News.rows (6 : Nat) (1 : Nat) (rowOf [MV.st [MV.big (-knS d + (↑(WalkI.i i) : Int)) (64 : Nat), MV.big ((↑(WalkI.i i_1) : Int) + 1) (64 : Nat), MV.big ((goC d (-knS d + (↑(WalkI.i i) : Int)) ((↑(WalkI.i i_1) : Int) + 1))) (64 : Nat)]])) = List.length (rowL d (-knS d + (↑(WalkI.i i) : Int)) (WalkI.i j) (allL d (knS d) (Int.toNat (-knS d + (↑(WalkI.i i) : Int) + knS d))))) ∧ (↑(nsq (Int.natAbs d)) : Int) = (↑(nsq (Int.natAbs d)) : Int) ∧ -knS d + (↑(WalkI.i i) : Int) = -knS d + (↑(WalkI.i i) : Int) ∧ IntKind.wrap IntKind.i64 ((↑(WalkI.i i_1) : Int) + 1 + 1) = (↑(WalkI.i j) : Int) + 1 ∧ True) ∧ (List.length (rowL d (-knS d + (↑(WalkI.i i) : Int)) (WalkI.i i_1) (allL d (knS d) (Int.toNat (-knS d + (↑(WalkI.i i) : Int) + knS d)))) + 1 = List.length (rowL d (-knS d + (↑(WalkI.i i) : Int)) (WalkI.i j) (allL d (knS d) (Int.toNat (-knS d + (↑(WalkI.i i) : Int) + knS d)))) ∧ LeFun (List.length (rowL d (-knS d + (↑(WalkI.i i) : Int)) (WalkI.i i_1) (allL d (knS d) (Int.toNat (-knS d + (↑(WalkI.i i) : Int) + knS d)))) + 1) (fun q => bif Nat.blt q (List.length (rowL d (-knS d + (↑(WalkI.i i) : Int)) (WalkI.i i_1) (allL d (knS d) (Int.toNat (-knS d + (↑(WalkI.i i) : Int) + knS d))))) then fL (rowL d (-knS d + (↑(WalkI.i i) : Int)) (WalkI.i i_1) (allL d (knS d) (Int.toNat (-knS d + (↑(WalkI.i i) : Int) + knS d)))) (64 : Nat) q else rowOf [MV.st [MV.big (-knS d + (↑(WalkI.i i) : Int)) (64 : Nat), MV.big ((↑(WalkI.i i_1) : Int) + 1) (64 : Nat), MV.big ((goC d (-knS d + (↑(WalkI.i i) : Int)) ((↑(WalkI.i i_1) : Int) + 1))) (64 : Nat)]] (q - List.length (rowL d (-knS d + (↑(WalkI.i i) : Int)) (WalkI.i i_1) (allL d (knS d) (Int.toNat (-knS d + (↑(WalkI.i i) : Int) + knS d)))))) (fL (rowL d (-knS d + (↑(WalkI.i i) : Int)) (WalkI.i j) (allL d (knS d) (Int.toNat (-knS d + (↑(WalkI.i i) : Int) + knS d)))) (64 : Nat))) ∧ True) ∧ Int.toNat (knS d) - WalkI.i j < Int.toNat (knS d) - WalkI.i i_1 else ∃ j, WalkI.i j ≤ Int.toNat (knS d) ∧ ((d = d ∧ ((0 : Nat) = 0 ∧ List.length (rowL d (-knS d + (↑(WalkI.i i) : Int)) (WalkI.i i_1) (allL d (knS d) (Int.toNat (-knS d + (↑(WalkI.i i) : Int) + knS d)))) = List.length (rowL d (-knS d + (↑(WalkI.i i) : Int)) (WalkI.i j) (allL d (knS d) (Int.toNat (-knS d + (↑(WalkI.i i) : Int) + knS d))))) ∧ (↑(nsq (Int.natAbs d)) : Int) = (↑(nsq (Int.natAbs d)) : Int) ∧ -knS d + (↑(WalkI.i i) : Int) = -knS d + (↑(WalkI.i i) : Int) ∧ IntKind.wrap IntKind.i64 ((↑(WalkI.i i_1) : Int) + 1 + 1) = (↑(WalkI.i j) : Int) + 1 ∧ True) ∧ (List.length (rowL d (-knS d + (↑(WalkI.i i) : Int)) (WalkI.i i_1) (allL d (knS d) (Int.toNat (-knS d + (↑(WalkI.i i) : Int) + knS d)))) = List.length (rowL d (-knS d + (↑(WalkI.i i) : Int)) (WalkI.i j) (allL d (knS d) (Int.toNat (-knS d + (↑(WalkI.i i) : Int) + knS d)))) ∧ LeFun (List.length (rowL d (-knS d + (↑(WalkI.i i) : Int)) (WalkI.i i_1) (allL d (knS d) (Int.toNat (-knS d + (↑(WalkI.i i) : Int) + knS d))))) (fL (rowL d (-knS d + (↑(WalkI.i i) : Int)) (WalkI.i i_1) (allL d (knS d) (Int.toNat (-knS d + (↑(WalkI.i i) : Int) + knS d)))) (64 : Nat)) (fL (rowL d (-knS d + (↑(WalkI.i i) : Int)) (WalkI.i j) (allL d (knS d) (Int.toNat (-knS d + (↑(WalkI.i i) : Int) + knS d)))) (64 : Nat))) ∧ True) ∧ Int.toNat (knS d) - WalkI.i j < Int.toNat (knS d) - WalkI.i i_1 else ∃ j, WalkI.i j ≤ Int.toNat (knS d) ∧ ((d = d ∧ ((0 : Nat) = 0 ∧ List.length (rowL d (-knS d + (↑(WalkI.i i) : Int)) (WalkI.i i_1) (allL d (knS d) (Int.toNat (-knS d + (↑(WalkI.i i) : Int) + knS d)))) = List.length (rowL d (-knS d + (↑(WalkI.i i) : Int)) (WalkI.i j) (allL d (knS d) (Int.toNat (-knS d + (↑(WalkI.i i) : Int) + knS d))))) ∧ (↑(nsq (Int.natAbs d)) : Int) = (↑(nsq (Int.natAbs d)) : Int) ∧ -knS d + (↑(WalkI.i i) : Int) = -knS d + (↑(WalkI.i i) : Int) ∧ IntKind.wrap IntKind.i64 ((↑(WalkI.i i_1) : Int) + 1 + 1) = (↑(WalkI.i j) : Int) + 1 ∧ True) ∧ (List.length (rowL d (-knS d + (↑(WalkI.i i) : Int)) (WalkI.i i_1) (allL d (knS d) (Int.toNat (-knS d + (↑(WalkI.i i) : Int) + knS d)))) = List.length (rowL d (-knS d + (↑(WalkI.i i) : Int)) (WalkI.i j) (allL d (knS d) (Int.toNat (-knS d + (↑(WalkI.i i) : Int) + knS d)))) ∧ LeFun (List.length (rowL d (-knS d + (↑(WalkI.i i) : Int)) (WalkI.i i_1) (allL d (knS d) (Int.toNat (-knS d + (↑(WalkI.i i) : Int) + knS d))))) (fL (rowL d (-knS d + (↑(WalkI.i i) : Int)) (WalkI.i i_1) (allL d (knS d) (Int.toNat (-knS d + (↑(WalkI.i i) : Int) + knS d)))) (64 : Nat)) (fL (rowL d (-knS d + (↑(WalkI.i i) : Int)) (WalkI.i j) (allL d (knS d) (Int.toNat (-knS d + (↑(WalkI.i i) : Int) + knS d)))) (64 : Nat))) ∧ True) ∧ Int.toNat (knS d) - WalkI.i j < Int.toNat (knS d) - WalkI.i i_1 else ∃ j, WalkI.i j ≤ 2 * Int.toNat (knS d) + 1 ∧ ((d = d ∧ ((0 : Nat) = 0 ∧ List.length (rowL d (-knS d + (↑(WalkI.i i) : Int)) (WalkI.i i_1) (allL d (knS d) (Int.toNat (-knS d + (↑(WalkI.i i) : Int) + knS d)))) = List.length (allL d (knS d) (WalkI.i j))) ∧ (↑(nsq (Int.natAbs d)) : Int) = (↑(nsq (Int.natAbs d)) : Int) ∧ IntKind.wrap IntKind.i64 (-knS d + (↑(WalkI.i i) : Int) + 1) = -knS d + (↑(WalkI.i j) : Int) ∧ True) ∧ (List.length (rowL d (-knS d + (↑(WalkI.i i) : Int)) (WalkI.i i_1) (allL d (knS d) (Int.toNat (-knS d + (↑(WalkI.i i) : Int) + knS d)))) = List.length (allL d (knS d) (WalkI.i j)) ∧ LeFun (List.length (rowL d (-knS d + (↑(WalkI.i i) : Int)) (WalkI.i i_1) (allL d (knS d) (Int.toNat (-knS d + (↑(WalkI.i i) : Int) + knS d))))) (fL (rowL d (-knS d + (↑(WalkI.i i) : Int)) (WalkI.i i_1) (allL d (knS d) (Int.toNat (-knS d + (↑(WalkI.i i) : Int) + knS d)))) (64 : Nat)) (fL (allL d (knS d) (WalkI.i j)) (64 : Nat))) ∧ True) ∧ (2 : Nat) * Int.toNat (knS d) + 1 - WalkI.i j < 2 * Int.toNat (knS d) + 1 - WalkI.i i else ∃ j, WalkI.i j ≤ 2 * Int.toNat (knS d) + 1 ∧ ((d = d ∧ ((0 : Nat) = 0 ∧ List.length (rowL d (-knS d + (↑(WalkI.i i) : Int)) (WalkI.i i_1) (allL d (knS d) (Int.toNat (-knS d + (↑(WalkI.i i) : Int) + knS d)))) = List.length (allL d (knS d) (WalkI.i j))) ∧ (↑(nsq (Int.natAbs d)) : Int) = (↑(nsq (Int.natAbs d)) : Int) ∧ IntKind.wrap IntKind.i64 (-knS d + (↑(WalkI.i i) : Int) + 1) = -knS d + (↑(WalkI.i j) : Int) ∧ True) ∧ (List.length (rowL d (-knS d + (↑(WalkI.i i) : Int)) (WalkI.i i_1) (allL d (knS d) (Int.toNat (-knS d + (↑(WalkI.i i) : Int) + knS d)))) = List.length (allL d (knS d) (WalkI.i j)) ∧ LeFun (List.length (rowL d (-knS d + (↑(WalkI.i i) : Int)) (WalkI.i i_1) (allL d (knS d) (Int.toNat (-knS d + (↑(WalkI.i i) : Int) + knS d))))) (fL (rowL d (-knS d + (↑(WalkI.i i) : Int)) (WalkI.i i_1) (allL d (knS d) (Int.toNat (-knS d + (↑(WalkI.i i) : Int) + knS d)))) (64 : Nat)) (fL (allL d (knS d) (WalkI.i j)) (64 : Nat))) ∧ True) ∧ (2 : Nat) * Int.toNat (knS d) + 1 - WalkI.i j < 2 * Int.toNat (knS d) + 1 - WalkI.i i else List.length (allL d (knS d) (WalkI.i i)) ≤ List.length (allL d (knS d) (WalkI.i i)) ∧ (6 : Nat) = 6 ∧ List.length (allL d (knS d) (WalkI.i i)) = List.length (listL d) ∧ LeFun (List.length (allL d (knS d) (WalkI.i i))) (fL (allL d (knS d) (WalkI.i i)) (64 : Nat)) (fL (listL d) (64 : Nat))) = evFn (env [c_whole, c_r8of, c_r17reduced, c_r8prim] (a_list d (knS d))) Tryz.f33 [.int .i64 d] (MRes.sat (.ret (lmv (listL d) 64))) := by kernel_rfl
theorem rowL_zero (d : Int) (out : List Fm) : ∀ j, rowL d 0 j out = out
 | 0 => rfl
 | j + 1 => by
  show procL d (rowL d 0 j out) 0 _ = out
  rw [rowL_zero d out j]
  exact if_neg (by simp [goodF])
theorem procL_len (d a b : Int) (out : List Fm) : (procL d out a b).length ≤ out.length + 1 := by
 unfold procL
 split <;> simp
theorem rowL_len (d a : Int) (out : List Fm) : ∀ j, (rowL d a j out).length ≤ out.length + j
 | 0 => Nat.le_refl _
 | j + 1 => by
  have h1 := rowL_len d a out j
  have h2 := procL_len d a ((j : Int) + 1) (rowL d a j out)
  show (procL d (rowL d a j out) a ((j : Int) + 1)).length ≤ _
  omega
theorem allL_len (d s : Int) : ∀ i, (allL d s i).length ≤ i * s.toNat
 | 0 => Nat.zero_le _
 | i + 1 => by
  have h1 := allL_len d s i
  have h2 := rowL_len d (-s + (i : Int)) (allL d s i) s.toNat
  show (rowL d (-s + (i : Int)) s.toNat (allL d s i)).length ≤ _
  rw [Nat.add_mul]
  omega
theorem le_snocL (l : List Fm) (g : Fm) {V W : Nat} (hV : V ≤ W) : LeFun (l.length + 1) (fun q => bif Nat.blt q l.length then fL l W q else rowOf [.st [.big g.A V, .big g.B V, .big g.C V]] (q - l.length)) (fL (l ++ [g]) W) := by
 have e : (fun q => bif Nat.blt q l.length then fL l W q else rowOf [MV.st [.big g.A V, .big g.B V, .big g.C V]] (q - l.length)) = (fun q => bif Nat.blt q l.length then fL (l ++ [g]) W q else rowOf [MV.st [.big g.A V, .big g.B V, .big g.C V]] (q - l.length)) := by
  funext q
  cases hb : Nat.blt q l.length with
  | false => rfl
  | true =>
   rw [Nat.blt_eq] at hb
   simp [fL, List.getElem?_append_left hb]
 rw [e]
 refine le_snoc ?_
 have e2 : fL (l ++ [g]) W l.length = fmv g W := by simp [fL]
 rw [e2]
 exact le_fm _ hV
def s_list : FSpec
 | [.int .i64 d] => some (some (knE d = 0), .ret (lmv (listL d) 64))
 | _ => none
theorem p_list : Good Tryz.f33 s_list := by
 intro ms p r h hp
 unfold s_list at h
 split at h
 ·rename_i d
  simp only [Option.some.injEq, Prod.mk.injEq] at h
  obtain ⟨rfl, rfl⟩ := h
  have q : knE d = 0 := hp
  refine ⟨env [c_whole, c_r8of, c_r17reduced, c_r8prim] (a_list d (knS d)), ?_⟩
  rw [← vc_list d, ← knS_ok q]
  obtain ⟨hd, hs, hd2, _⟩ := kn_dis q
  have hcl : listL d = allL d (knS d) (2 * (knS d).toNat + 1) := rfl
  have hs0 := hd.pos
  have hd0 : 0 < d := by
   have := hd.lo
   have := Int.mul_pos hs0 hs0
   omega
  have hgF : ∀ i j : Nat, goF d ⟨i⟩ ⟨j⟩ = ⟨-knS d + (i : Int), (j : Int) + 1, goC d (-knS d + (i : Int)) ((j : Int) + 1)⟩ := fun _ _ => rfl
  generalize hS : knS d = s at *
  refine ⟨by omega, ⟨⟨0⟩, Nat.zero_le _, ?_⟩, fun i hi => ?_⟩
  ·have e : IntKind.wrap IntKind.i64 (0 - s) = -s + ((0 : Nat) : Int) := by rw [i64w (by omega) (by omega)]; omega
   rw [e]
   and_intros <;> first | exact True.intro | rfl | exact .inl (Nat.le_refl _) | exact ⟨fun i hi => by omega⟩
  obtain ⟨i⟩ := i
  have hi : i ≤ 2 * s.toNat + 1 := hi
  dsimp only
  have e9 : ∀ i' : Nat, i' ≤ 2 * s.toNat + 1 → (-s + (i' : Int) + s).toNat = i' := fun i' _ => by omega
  rw [e9 i hi]
  refine condI decide_eq_true_iff (fun q1 => ?_) (fun q1 => ?_)
  rotate_left
  ·obtain rfl : i = 2 * s.toNat + 1 := by omega
   rw [hcl]
   exact ⟨Nat.le_refl _, rfl, rfl, LeFun.refl⟩
  have hlen1 := allL_len d s i
  have hmul : i * s.toNat ≤ 511 * 255 := Nat.mul_le_mul (by omega) (by omega)
  refine ⟨⟨⟨0⟩, Nat.zero_le _, ?_⟩, fun j hj => ?_⟩
  ·and_intros <;> first | exact True.intro | rfl | exact .inl (Nat.le_refl _) | exact LeFun.refl
  obtain ⟨j⟩ := j
  have hj : j ≤ s.toNat := hj
  dsimp only
  have hai : IntKind.wrap IntKind.i64 (-s + (i : Int) + 1) = -s + ((i + 1 : Nat) : Int) := by rw [i64w (by omega) (by omega)]; omega
  have hbj : IntKind.wrap IntKind.i64 ((j : Int) + 1 + 1) = ((j + 1 : Nat) : Int) + 1 := by rw [i64w (by omega) (by omega)]; omega
  have hlen2 := rowL_len d (-s + (i : Int)) (allL d s i) j
  refine condI decide_eq_true_iff (fun q2 => condI bne_iff_ne (fun q3 => ?_) (fun q3 => ?_)) (fun q2 => ?_)
  rotate_left
  ·have q3 : -s + (i : Int) = 0 := Decidable.not_not.1 q3
   have e : rowL d (-s + (i : Int)) j (allL d s i) = allL d s (i + 1) := by
    show _ = rowL d (-s + (i : Int)) s.toNat (allL d s i)
    rw [q3, rowL_zero, rowL_zero]
   rw [e, hai]
   refine ⟨⟨i + 1⟩, by show i + 1 ≤ _; omega, ?_, by show 2 * s.toNat + 1 - (i + 1) < 2 * s.toNat + 1 - i; omega⟩
   and_intros <;> first | exact True.intro | rfl | exact .inl (Nat.le_refl _) | exact LeFun.refl
  ·obtain rfl : j = s.toNat := by omega
   have e : rowL d (-s + (i : Int)) s.toNat (allL d s i) = allL d s (i + 1) := rfl
   rw [e, hai]
   refine ⟨⟨i + 1⟩, by show i + 1 ≤ _; omega, ?_, by show 2 * s.toNat + 1 - (i + 1) < 2 * s.toNat + 1 - i; omega⟩
   and_intros <;> first | exact True.intro | rfl | exact .inl (Nat.le_refl _) | exact LeFun.refl
  obtain ⟨g1, g2, g3⟩ := goC_all (d := d) (a := -s + (i : Int)) (b := (j : Int) + 1) (by omega) (by omega) (by omega) hd0 hd2
  rw [g1, g2]
  generalize hO : rowL d (-s + (i : Int)) j (allL d s i) = O at *
  have hrow : rowL d (-s + (i : Int)) (j + 1) (allL d s i) = procL d O (-s + (i : Int)) ((j : Int) + 1) := by rw [← hO]; rfl
  have hjl : j + 1 ≤ s.toNat := by omega
  have hmj : s.toNat - (j + 1) < s.toNat - j := by omega
  refine ⟨by omega, condI bne_iff_ne (fun q4 => ?_) (fun q4 => ?_)⟩
  ·have hsame : rowL d (-s + (i : Int)) (j + 1) (allL d s i) = O := by
    rw [hrow]
    refine if_neg fun h => ?_
    simp only [goodF, Bool.and_eq_true, decide_eq_true_eq] at h
    exact absurd (Int.tmod_eq_zero_of_dvd (Int.dvd_of_emod_eq_zero h.2.1)) q4
   refine ⟨⟨j + 1⟩, hjl, ?_, hmj⟩
   dsimp only
   rw [hsame, hbj]
   and_intros <;> first | exact True.intro | rfl | exact .inl (Nat.le_refl _) | exact LeFun.refl
  have q4 : (d - ((j : Int) + 1) * ((j : Int) + 1)) % (4 * (-s + (i : Int))) = 0 := Int.emod_eq_zero_of_dvd (Int.dvd_of_tmod_eq_zero (Decidable.not_not.1 q4))
  obtain ⟨g4, g5⟩ := g3 q4
  have hcF : goF d ⟨i⟩ ⟨j⟩ = cF d (-s + (i : Int)) ((j : Int) + 1) := by
   rw [hgF, g4]
   rfl
  have hgood : goodF d (-s + (i : Int)) ((j : Int) + 1) = (redQ (cF d (-s + (i : Int)) ((j : Int) + 1)) && primF (cF d (-s + (i : Int)) ((j : Int) + 1))) := by
   unfold goodF
   rw [decide_eq_true q3, decide_eq_true q4, Bool.true_and, Bool.true_and]
  rw [hcF, g4]
  have hFA : (cF d (-s + (i : Int)) ((j : Int) + 1)).A = -s + (i : Int) := rfl
  have hFB : (cF d (-s + (i : Int)) ((j : Int) + 1)).B = (j : Int) + 1 := rfl
  have hFC : (cF d (-s + (i : Int)) ((j : Int) + 1)).C = (((j : Int) + 1) * ((j : Int) + 1) - d) / (4 * (-s + (i : Int))) := rfl
  generalize hF : cF d (-s + (i : Int)) ((j : Int) + 1) = F at *
  have n1 : ∀ x : MV, News.len (.rows 6 1 (rowOf [x])) = 1 := fun _ => rfl
  rw [n1]
  refine ⟨by omega, by omega, by omega, condI Iff.rfl (fun q6 => ⟨by omega, condI Iff.rfl (fun q7 => ?_) (fun q7 => ?_)⟩) (fun q6 => ?_)⟩
  ·have hstep : rowL d (-s + (i : Int)) (j + 1) (allL d s i) = O ++ [F] := by
    rw [hrow]
    unfold procL
    rw [hF]
    exact if_pos (by rw [hgood, q6, q7]; rfl)
   refine ⟨⟨Nat.le_refl _, Nat.le_refl _, by omega⟩, ⟨j + 1⟩, hjl, ?_, hmj⟩
   dsimp only
   rw [hstep, hbj]
   have hll : (O ++ [F]).length = O.length + 1 := by simp
   rw [hll, ← hFC, ← hFB, ← hFA]
   and_intros <;> first | exact True.intro | rfl | exact .inl (Nat.le_refl _) | exact LeFun.refl | exact le_snocL O F (Nat.le_refl _)
  all_goals
   have hsame : rowL d (-s + (i : Int)) (j + 1) (allL d s i) = O := by
    rw [hrow]
    refine if_neg fun h => ?_
    rw [hgood] at h
    simp only [Bool.and_eq_true] at h
    first
     | exact q7 h.2
     | exact q6 h.1
   refine ⟨⟨j + 1⟩, hjl, ?_, hmj⟩
   dsimp only
   rw [hsame, hbj]
   and_intros <;> first | exact True.intro | rfl | exact .inl (Nat.le_refl _) | exact LeFun.refl
 ·simp at h
def c_list : Ctr Tryz.prog := ⟨33, s_list, fun args w => Tryz.call33 args w, fn_ok mix Tryz.func33 s_list p_list⟩
end Go.Proofs.YtnfmjlhkknndhaaGreat
/-
 Contracts of functions: algoristref17 (cycles of the reference), fourth part.
-/
namespace Go.Proofs.YtnfmjlhkknndhaaGreat
open Go Go.RowKit
def stepG (out : List Fm) (f : Fm) : List Fm := if seenL out f = true then out else out ++ [f]
theorem procG_eq (D a b : Int) (L : List Fm) : procF D (L.foldl stepG []) a b = (procL D L a b).foldl stepG [] := by
 have e : (L ++ [cF D a b]).foldl stepG [] = stepG (L.foldl stepG []) (cF D a b) := by rw [List.foldl_append]; rfl
 unfold procF procL
 cases hg : goodF D a b with
 | false => rw [if_neg (by simp), if_neg (by simp)]
 | true =>
  rw [if_pos rfl, e]
  generalize L.foldl stepG [] = O
  unfold stepG
  cases hs : seenL O (cF D a b) with
  | true => rw [if_neg (by simp), if_pos rfl]
  | false => rw [if_pos ⟨rfl, rfl⟩, if_neg (by simp)]
theorem rowG_eq (D a : Int) (L : List Fm) : ∀ j, rowG D a j (L.foldl stepG []) = (rowL D a j L).foldl stepG []
 | 0 => rfl
 | j + 1 => by
  show procF D (rowG D a j _) a _ = (procL D (rowL D a j L) a _).foldl stepG []
  rw [rowG_eq D a L j, procG_eq]
theorem allG_eq (D s : Int) : ∀ i, allG D s i = (allL D s i).foldl stepG []
 | 0 => rfl
 | i + 1 => by
  show rowG D _ _ (allG D s i) = (rowL D _ _ (allL D s i)).foldl stepG []
  rw [allG_eq D s i, rowG_eq]
theorem cysL_eq {d : Int} (h : knE d = 0) : cysL d = (listL d).foldl stepG [] := by
 unfold cysL listL
 rw [if_pos h, allG_eq]
theorem procL_mem {D a b : Int} {out : List Fm} {f : Fm} : f ∈ procL D out a b ↔ f ∈ out ∨ (goodF D a b = true ∧ f = cF D a b) := by
 unfold procL
 split
 ·rename_i h
  rw [List.mem_append, List.mem_singleton]
  exact ⟨fun e => e.imp id fun q => ⟨h, q⟩, fun e => e.imp id fun q => q.2⟩
 ·rename_i h
  exact ⟨.inl, fun e => e.elim id fun q => absurd q.1 h⟩
theorem rowL_mem {D a : Int} {out : List Fm} {f : Fm} : ∀ {j : Nat}, f ∈ rowL D a j out ↔ f ∈ out ∨ ∃ k : Nat, k < j ∧ goodF D a ((k : Int) + 1) = true ∧ f = cF D a ((k : Int) + 1)
 | 0 => ⟨.inl, fun e => e.elim id fun ⟨k, h, _⟩ => absurd h (by omega)⟩
 | j + 1 => by
  show f ∈ procL D (rowL D a j out) a ((j : Int) + 1) ↔ _
  rw [procL_mem, rowL_mem]
  constructor
  ·rintro ((h | ⟨k, h1, h2⟩) | h)
   ·exact .inl h
   ·exact .inr ⟨k, by omega, h2⟩
   ·exact .inr ⟨j, by omega, h⟩
  ·rintro (h | ⟨k, h1, h2⟩)
   ·exact .inl (.inl h)
   ·rcases Nat.lt_or_ge k j with q | q
    ·exact .inl (.inr ⟨k, q, h2⟩)
    ·obtain rfl : k = j := by omega
     exact .inr h2
theorem allL_mem {D s : Int} {f : Fm} : ∀ {i : Nat}, f ∈ allL D s i ↔ ∃ h k : Nat, h < i ∧ k < s.toNat ∧ goodF D (-s + (h : Int)) ((k : Int) + 1) = true ∧ f = cF D (-s + (h : Int)) ((k : Int) + 1)
 | 0 => ⟨fun e => by simp [allL] at e, fun ⟨h, _, q, _⟩ => absurd q (by omega)⟩
 | i + 1 => by
  show f ∈ rowL D (-s + (i : Int)) s.toNat (allL D s i) ↔ _
  rw [rowL_mem, allL_mem]
  constructor
  ·rintro (⟨h, k, q1, q2⟩ | ⟨k, q⟩)
   ·exact ⟨h, k, by omega, q2⟩
   ·exact ⟨i, k, by omega, q⟩
  ·rintro ⟨h, k, q1, q2⟩
   rcases Nat.lt_or_ge h i with q | q
   ·exact .inl ⟨h, k, q, q2⟩
   ·obtain rfl : h = i := by omega
    exact .inr ⟨k, q2⟩
theorem cF_disc {D a b : Int} (ha : a ≠ 0) (h : (D - b * b) % (4 * a) = 0) : (cF D a b).disc = D := by
 have hdv : 4 * a ∣ D - b * b := Int.dvd_of_emod_eq_zero h
 obtain ⟨q, hq⟩ := hdv
 have e : (b * b - D) / (4 * a) = -q := by
  rw [show b * b - D = 4 * a * -q by rw [Int.mul_neg]; omega]
  exact Int.mul_ediv_cancel_left _ (by omega)
 unfold cF Fm.disc
 rw [e]
 show b * b - 4 * a * -q = D
 rw [Int.mul_neg]
 omega
theorem goodF_spec {D a b : Int} (h : goodF D a b = true) : a ≠ 0 ∧ redQ (cF D a b) = true ∧ primF (cF D a b) = true ∧ (cF D a b).disc = D := by
 simp only [goodF, Bool.and_eq_true, decide_eq_true_eq] at h
 exact ⟨h.1, h.2.2.1, h.2.2.2, cF_disc h.1 h.2.1⟩
theorem listL_mem {d : Int} (hk : knE d = 0) {f : Fm} : f ∈ listL d ↔ f.disc = d ∧ redQ f = true ∧ primF f = true := by
 obtain ⟨hd, hs, _⟩ := kn_dis hk
 unfold listL
 rw [allL_mem]
 constructor
 ·rintro ⟨h, k, _, _, q, rfl⟩
  have := goodF_spec q
  exact ⟨this.2.2.2, this.2.1, this.2.2.1⟩
 ·rintro ⟨h1, h2, h3⟩
  obtain ⟨q, hr⟩ := redQ_RD.1 h2
  rw [h1] at hr
  have hA := hr.abs
  have hB0 := hr.r.b0
  have hB1 := hr.r.b1
  have hs0 := hd.pos
  have hA0 := (disc_ne hd h1).1
  refine ⟨(f.A + knS d).toNat, (f.B - 1).toNat, by omega, by omega, ?_⟩
  have ea : -knS d + ((f.A + knS d).toNat : Int) = f.A := by omega
  have eb : ((f.B - 1).toNat : Int) + 1 = f.B := by omega
  rw [ea, eb]
  have e1 : d - f.B * f.B = 4 * f.A * -f.C := by
   unfold Fm.disc at h1
   rw [Int.mul_neg]
   omega
  have e2 : cF d f.A f.B = f := by
   unfold cF
   rw [show f.B * f.B - d = 4 * f.A * f.C by rw [Int.mul_neg] at e1; omega, Int.mul_ediv_cancel_left _ (by omega)]
  refine ⟨?_, e2.symm⟩
  unfold goodF
  rw [e2, h2, h3, decide_eq_true hA0, e1, decide_eq_true (Int.mul_emod_right _ _)]
  rfl
theorem listL_le {d : Int} (hk : knE d = 0) : (listL d).length ≤ 511 * 255 := by
 obtain ⟨hd, hs, _⟩ := kn_dis hk
 have h1 := allL_len d (knS d) (2 * (knS d).toNat + 1)
 have h2 : (2 * (knS d).toNat + 1) * (knS d).toNat ≤ 511 * 255 := Nat.mul_le_mul (by omega) (by omega)
 unfold listL
 omega
theorem redQ_steps {f : Fm} (h : redQ f = true) : redR f = f := by
 obtain ⟨q, _⟩ := redQ_RD.1 h
 unfold redR redG
 rw [if_pos q]
 have e : stepsOf f = 0 := by
  unfold stepsOf
  show redN0 (_ + 1) _ _ = 0
  simp [redN0, h]
 rw [e]
 rfl
theorem cyL_red {f : Fm} (h : redQ f = true) : cyL f = cyG f := by
 obtain ⟨q, _⟩ := redQ_RD.1 h
 unfold cyL cyG
 rw [if_pos q, redQ_steps h]
def seenF (out : List Fm) : List Fm := out.flatMap cyG
theorem seenF_any (out : List Fm) (f : Fm) : ((seenF out).any fun h => eqF h f) = seenL out f := by
 unfold seenF seenL
 rw [List.any_flatMap]
 rfl
theorem foldG_len : ∀ (l out : List Fm), (l.foldl stepG out).length ≤ out.length + l.length
 | [], _ => Nat.le_refl _
 | f :: r, out => by
  have h := foldG_len r (stepG out f)
  have h2 : (stepG out f).length ≤ out.length + 1 := by unfold stepG; split <;> simp
  rw [List.foldl_cons, List.length_cons]
  omega
theorem seenF_len : ∀ (out : List Fm), (∀ f ∈ out, redQ f = true) → (seenF out).length ≤ out.length * 65408
 | [], _ => Nat.zero_le _
 | f :: r, h => by
  have h1 := seenF_len r fun g hg => h g (List.mem_cons_of_mem _ hg)
  have h2 := per_le (h f (List.mem_cons_self ..))
  have e : seenF (f :: r) = cyG f ++ seenF r := rfl
  have e2 : (cyG f).length = perOf f := by simp [cyG]
  rw [e, List.length_append, List.length_cons, e2, Nat.add_mul]
  omega
theorem foldG_mem : ∀ (l out : List Fm) (f : Fm), f ∈ l.foldl stepG out → f ∈ out ∨ f ∈ l
 | [], _, _, h => .inl h
 | g :: r, out, f, h => by
  rcases foldG_mem r (stepG out g) f h with h | h
  ·unfold stepG at h
   split at h
   ·exact .inl h
   ·rcases List.mem_append.1 h with h | h
    ·exact .inl h
    ·rw [List.mem_singleton] at h; exact .inr (h ▸ List.mem_cons_self ..)
  ·exact .inr (List.mem_cons_of_mem _ h)
theorem le_catL (l r : List Fm) {V W : Nat} (hV : V ≤ W) : LeFun (l.length + r.length) (fun q => bif Nat.blt q l.length then fL l W q else fL r V (q - l.length)) (fL (l ++ r) W) := LeFun.of_le fun q hq => by
 cases hb : Nat.blt q l.length with
 | true =>
  rw [Nat.blt_eq] at hb
  have e : fL (l ++ r) W q = fL l W q := by simp [fL, List.getElem?_append_left hb]
  rw [e]
  exact le_fm _ (Nat.le_refl _)
 | false =>
  have hb : l.length ≤ q := by
   rcases Nat.lt_or_ge q l.length with k | k
   ·rw [← Nat.blt_eq, hb] at k; simp at k
   ·exact k
  have e : fL (l ++ r) W q = fmv (r.getD (q - l.length) ⟨0, 0, 0⟩) W := by simp [fL, List.getElem?_append_right hb]
  rw [e]
  exact le_fm _ hV
def a_r17cys (d : Int) : Nat → MS → Option LoopAnn
 | 7, e => some (.inv WalkI (fun i => i.i ≤ (listL d).length) (fun i => ⟨56, [(7, .bs 1 0 (((listL d).take i.i).foldl stepG []).length), (8, lmv (listL d) 64), (9, .bs 2 0 (seenF (((listL d).take i.i).foldl stepG [])).length), (10, .int .i64 i.i)],
   setNth (setNth e.bx 1 ⟨false, .rows 1 (((listL d).take i.i).foldl stepG []).length (cysR (((listL d).take i.i).foldl stepG []))⟩) 2 ⟨false, .rows 6 (seenF (((listL d).take i.i).foldl stepG [])).length (fL (seenF (((listL d).take i.i).foldl stepG [])) 8)⟩, 0⟩) (fun i => (listL d).length - i.i))
 | _, _ => none
theorem vc_r17cys (d : Int) (n : Nat) : (n ≤ 100000 ∧ bif knE d != 0 then (Value.slice none (0 : Nat) (0 : Nat) = Value.slice none (0 : Nat) (0 : Nat) ∧ List.length (cysL d) = 0) ∧ knE d = knE d ∧ True else Int.natAbs d < 9223372036854775808 ∧ knE d = 0 ∧ (∃ i, WalkI.i i ≤ List.length (listL d) ∧ (((0 : Nat) = 0 ∧ (0 : Nat) = List.length (List.foldl stepG [] (List.take (WalkI.i i) (listL d)))) ∧ ((6 : Nat) = 6 ∧ List.length (listL d) = List.length (listL d) ∧ LeFun (List.length (listL d)) (fL (listL d) (64 : Nat)) (fL (listL d) (64 : Nat))) ∧ ((0 : Nat) = 0 ∧ (0 : Nat) = List.length (seenF (List.foldl stepG [] (List.take (WalkI.i i) (listL d))))) ∧ (0 : Int) = (↑(WalkI.i i) : Int) ∧ True) ∧ LeB d d n n ∧ ((0 : Nat) = List.length (List.foldl stepG [] (List.take (WalkI.i i) (listL d))) ∧ LeFun (0 : Nat) (rowOf []) (cysR (List.foldl stepG [] (List.take (WalkI.i i) (listL d))))) ∧ ((0 : Nat) = List.length (seenF (List.foldl stepG [] (List.take (WalkI.i i) (listL d)))) ∧ LeFun (0 : Nat) (rowOf []) (fL (seenF (List.foldl stepG [] (List.take (WalkI.i i) (listL d)))) (8 : Nat))) ∧ True) ∧ ∀ (i : WalkI), WalkI.i i ≤ List.length (listL d) → bif decide ((↑(WalkI.i i) : Int) < (↑(List.length (listL d)) : Int)) then ((0 : Int) ≤ (↑(WalkI.i i) : Int) ∧ (↑(WalkI.i i) : Int) < (↑(List.length (listL d)) : Int)) ∧ (List.length (seenF (List.foldl stepG [] (List.take (WalkI.i i) (listL d)))) ≤ List.length (seenF (List.foldl stepG [] (List.take (WalkI.i i) (listL d)))) ∧ (∀ (i_1 : Nat), i_1 < List.length (seenF (List.foldl stepG [] (List.take (WalkI.i i) (listL d)))) → isFm (1000 : Nat) (fL (seenF (List.foldl stepG [] (List.take (WalkI.i i) (listL d)))) (8 : Nat) i_1)) ∧ List.length (seenF (List.foldl stepG [] (List.take (WalkI.i i) (listL d)))) ≤ 1000000000000 ∧ (64 : Nat) ≤ 1000 ∧ (64 : Nat) ≤ 1000 ∧ (64 : Nat) ≤ 1000) ∧ bif !List.any (fvals (List.length (seenF (List.foldl stepG [] (List.take (WalkI.i i) (listL d))))) (fL (seenF (List.foldl stepG [] (List.take (WalkI.i i) (listL d)))) (8 : Nat))) fun h => eqF h (List.getD (listL d) (Int.toNat (↑(WalkI.i i) : Int)) (Fm.mk (0 : Int) (0 : Int) (0 : Int))) then ((0 : Int) ≤ (↑(WalkI.i i) : Int) ∧ (↑(WalkI.i i) : Int) < (↑(List.length (listL d)) : Int)) ∧ ((64 : Nat) ≤ 300 ∧ (64 : Nat) ≤ 300 ∧ (64 : Nat) ≤ 300) ∧ ((1 : Nat) ≤ 1 ∧ List.length (List.foldl stepG [] (List.take (WalkI.i i) (listL d))) ≤ List.length (List.foldl stepG [] (List.take (WalkI.i i) (listL d))) ∧ (List.length (List.foldl stepG [] (List.take (WalkI.i i) (listL d))) + News.len (News.rows (1 : Nat) (1 : Nat) (rowOf [MV.sl (6 : Nat) (List.length (cyL (List.getD (listL d) (Int.toNat (↑(WalkI.i i) : Int)) (Fm.mk (0 : Int) (0 : Int) (0 : Int))))) (fL (cyL (List.getD (listL d) (Int.toNat (↑(WalkI.i i) : Int)) (Fm.mk (0 : Int) (0 : Int) (0 : Int)))) (8 : Nat))]))) * 24 ≤ 140737488355328) ∧ (List.length (seenF (List.foldl stepG [] (List.take (WalkI.i i) (listL d)))) ≤ List.length (seenF (List.foldl stepG [] (List.take (WalkI.i i) (listL d)))) ∧ (List.length (seenF (List.foldl stepG [] (List.take (WalkI.i i) (listL d)))) + News.len (News.rows (6 : Nat) (List.length (cyL (List.getD (listL d) (Int.toNat (↑(WalkI.i i) : Int)) (Fm.mk (0 : Int) (0 : Int) (0 : Int))))) (fL (cyL (List.getD (listL d) (Int.toNat (↑(WalkI.i i) : Int)) (Fm.mk (0 : Int) (0 : Int) (0 : Int)))) (8 : Nat)))) * 96 ≤ 140737488355328) ∧ ∃ j, WalkI.i j ≤ List.length (listL d) ∧ ((((0 : Nat) = 0 ∧ List.length (List.foldl stepG [] (List.take (WalkI.i i) (listL d))) + News.len (News.rows (1 : Nat) (1 : Nat) (rowOf [MV.sl (6 : Nat) (List.length (cyL (List.getD (listL d) (Int.toNat (↑(WalkI.i i) : Int)) (Fm.mk (0 : Int) (0 : Int) (0 : Int))))) (fL (cyL (List.getD (listL d) (Int.toNat (↑(WalkI.i i) : Int)) (Fm.mk (0 : Int) (0 : Int) (0 : Int)))) (8 : Nat))])) = List.length (List.foldl stepG [] (List.take (WalkI.i j) (listL d)))) ∧ ((6 : Nat) = 6 ∧ List.length (listL d) = List.length (listL d) ∧ LeFun (List.length (listL d)) (fL (listL d) (64 : Nat)) (fL (listL d) (64 : Nat))) ∧ ((0 : Nat) = 0 ∧ List.length (seenF (List.foldl stepG [] (List.take (WalkI.i i) (listL d)))) + News.len (News.rows (6 : Nat) (List.length (cyL (List.getD (listL d) (Int.toNat (↑(WalkI.i i) : Int)) (Fm.mk (0 : Int) (0 : Int) (0 : Int))))) (fL (cyL (List.getD (listL d) (Int.toNat (↑(WalkI.i i) : Int)) (Fm.mk (0 : Int) (0 : Int) (0 : Int)))) (8 : Nat))) = List.length (seenF (List.foldl stepG [] (List.take (WalkI.i j) (listL d))))) ∧ IntKind.wrap IntKind.i64 ((↑(WalkI.i i) : Int) + 1) = (↑(WalkI.i j) : Int) ∧ True) ∧ LeB d d n n ∧ (List.length (List.foldl stepG [] (List.take (WalkI.i i) (listL d))) + 1 = List.length (List.foldl stepG [] (List.take (WalkI.i j) (listL d))) ∧ LeFun (List.length (List.foldl stepG [] (List.take (WalkI.i i) (listL d))) + 1) (fun q => bif Nat.blt q (List.length (List.foldl stepG [] (List.take (WalkI.i i) (listL d)))) then cysR (List.foldl stepG [] (List.take (WalkI.i i) (listL d))) q else rowOf [MV.sl (6 : Nat) (List.length (cyL (List.getD (listL d) (Int.toNat (↑(WalkI.i i) : Int)) (Fm.mk (0 : Int) (0 : Int) (0 : Int))))) (fL (cyL (List.getD (listL d) (Int.toNat (↑(WalkI.i i) : Int)) (Fm.mk (0 : Int) (0 : Int) (0 : Int)))) (8 : Nat))] (q - List.length (List.foldl stepG [] (List.take (WalkI.i i) (listL d))))) (cysR (List.foldl stepG [] (List.take (WalkI.i j) (listL d))))) ∧ (List.length (seenF (List.foldl stepG [] (List.take (WalkI.i i) (listL d)))) + List.length (cyL (List.getD (listL d) (Int.toNat (↑(WalkI.i i) : Int)) (Fm.mk (0 : Int) (0 : Int) (0 : Int)))) = List.length (seenF (List.foldl stepG [] (List.take (WalkI.i j) (listL d)))) ∧ LeFun (List.length (seenF (List.foldl stepG [] (List.take (WalkI.i i) (listL d)))) + List.length (cyL (List.getD (listL d) (Int.toNat (↑(WalkI.i i) : Int)) (Fm.mk (0 : Int) (0 : Int) (0 : Int))))) (fun q => bif Nat.blt q (List.length (seenF (List.foldl stepG [] (List.take (WalkI.i i) (listL d))))) then fL (seenF (List.foldl stepG [] (List.take (WalkI.i i) (listL d)))) (8 : Nat) q else fL (cyL (List.getD (listL d) (Int.toNat (↑(WalkI.i i) : Int)) (Fm.mk (0 : Int) (0 : Int) (0 : Int)))) (8 : Nat) (q - List.length (seenF (List.foldl stepG [] (List.take (WalkI.i i) (listL d)))))) (fL (seenF (List.foldl stepG [] (List.take (WalkI.i j) (listL d)))) (8 : Nat))) ∧ True) ∧ List.length (listL d) - WalkI.i j < List.length (listL d) - WalkI.i i else ∃ j, WalkI.i j ≤ List.length (listL d) ∧ ((((0 : Nat) = 0 ∧ List.length (List.foldl stepG [] (List.take (WalkI.i i) (listL d))) = List.length (List.foldl stepG [] (List.take (WalkI.i j) (listL d)))) ∧ ((6 : Nat) = 6 ∧ List.length (listL d) = List.length (listL d) ∧ LeFun (List.length (listL d)) (fL (listL d) (64 : Nat)) (fL (listL d) (64 : Nat))) ∧ ((0 : Nat) = 0 ∧ List.length (seenF (List.foldl stepG [] (List.take (WalkI.i i) (listL d)))) = List.length (seenF (List.foldl stepG [] (List.take (WalkI.i j) (listL d))))) ∧ IntKind.wrap IntKind.i64 ((↑(WalkI.i i) : Int) + 1) = (↑(WalkI.i j) : Int) ∧ True) ∧ LeB d d n n ∧ (List.length (List.foldl stepG [] (List.take (WalkI.i i) (listL d))) = List.length (List.foldl stepG [] (List.take (WalkI.i j) (listL d))) ∧ LeFun (List.length (List.foldl stepG [] (List.take (WalkI.i i) (listL d)))) (cysR (List.foldl stepG [] (List.take (WalkI.i i) (listL d)))) (cysR (List.foldl stepG [] (List.take (WalkI.i j) (listL d))))) ∧ (List.length (seenF (List.foldl stepG [] (List.take (WalkI.i i) (listL d)))) = List.length (seenF (List.foldl stepG [] (List.take (WalkI.i j) (listL d)))) ∧ LeFun (List.length (seenF (List.foldl stepG [] (List.take (WalkI.i i) (listL d))))) (fL (seenF (List.foldl stepG [] (List.take (WalkI.i i) (listL d)))) (8 : Nat)) (fL (seenF (List.foldl stepG [] (List.take (WalkI.i j) (listL d)))) (8 : Nat))) ∧ True) ∧ List.length (listL d) - WalkI.i j < List.length (listL d) - WalkI.i i else List.length (List.foldl stepG [] (List.take (WalkI.i i) (listL d))) ≤ List.length (List.foldl stepG [] (List.take (WalkI.i i) (listL d))) ∧ ((1 : Nat) = 1 ∧ List.length (List.foldl stepG [] (List.take (WalkI.i i) (listL d))) = List.length (cysL d) ∧ LeFun (List.length (List.foldl stepG [] (List.take (WalkI.i i) (listL d)))) (cysR (List.foldl stepG [] (List.take (WalkI.i i) (listL d)))) (cysR (cysL d))) ∧ (0 : Int) = knE d ∧ True) = evFn (env [c_r17known, c_rlow, c_list, c_has, c_r17cyc] (a_r17cys d)) Tryz.f31 [.big d n] (MRes.sat (.ret (.tup [.sl 1 (cysL d).length (cysR (cysL d)), .int .i64 (knE d)]))) := by kernel_rfl
theorem p_r17cys : Good Tryz.f31 s_cys := by
 intro ms p r h hp
 unfold s_cys at h
 split at h
 ·rename_i d n
  simp only [Option.some.injEq, Prod.mk.injEq] at h
  obtain ⟨rfl, rfl⟩ := h
  have h1 : n ≤ 100000 := hp
  refine ⟨env [c_r17known, c_rlow, c_list, c_has, c_r17cyc] (a_r17cys d), ?_⟩
  rw [← vc_r17cys d n]
  refine ⟨h1, condI bne_iff_ne (fun q => ?_) (fun q => ?_)⟩
  ·have e : cysL d = [] := if_neg q
   exact ⟨⟨rfl, by rw [e]; rfl⟩, rfl, True.intro⟩
  have q := Decidable.not_not.1 q
  obtain ⟨hd, hs, hd2, _⟩ := kn_dis q
  have hd0 : 0 < d := by
   have := hd.lo
   have := Int.mul_pos hd.pos hd.pos
   omega
  have hcl := cysL_eq q
  have hmem : ∀ f ∈ listL d, redQ f = true := fun f hf => ((listL_mem q).1 hf).2.1
  have hll := listL_le q
  generalize listL d = L at *
  refine ⟨by omega, q, ⟨⟨0⟩, Nat.zero_le _, ?_⟩, fun i hi => ?_⟩
  ·and_intros <;> first | exact True.intro | rfl | exact .inl (Nat.le_refl _) | exact LeFun.refl | exact ⟨fun i hi => by omega⟩
  obtain ⟨i⟩ := i
  have hi : i ≤ L.length := hi
  dsimp only
  rw [Int.toNat_natCast]
  have hOl : ((L.take i).foldl stepG []).length ≤ i := by
   have h2 := foldG_len (L.take i) []
   rw [List.length_take, List.length_nil] at h2
   omega
  have hOm : ∀ f ∈ (L.take i).foldl stepG [], redQ f = true := fun f hf => by
   rcases foldG_mem _ _ f hf with h | h
   ·simp at h
   ·exact hmem f (List.mem_of_mem_take h)
  have hSl := seenF_len _ hOm
  have hstep : i < L.length → (L.take (i + 1)).foldl stepG [] = stepG ((L.take i).foldl stepG []) (L.getD i ⟨0, 0, 0⟩) := fun hlt => by
   rw [List.take_add_one, List.getElem?_eq_getElem hlt, List.foldl_append, getD_at hlt]
   rfl
  refine condI decide_eq_true_iff (fun q1 => ?_) (fun q1 => ?_)
  rotate_left
  ·obtain rfl : i = L.length := by omega
   rw [List.take_length, ← hcl, q]
   exact ⟨Nat.le_refl _, ⟨rfl, rfl, LeFun.refl⟩, rfl, True.intro⟩
  have hlt : i < L.length := by omega
  have hst := hstep hlt
  have hF : redQ (L.getD i ⟨0, 0, 0⟩) = true := by rw [getD_at hlt]; exact hmem _ (List.getElem_mem hlt)
  have hcy := cyL_red hF
  have hpl := per_le hF
  have hcyl : (cyG (L.getD i ⟨0, 0, 0⟩)).length = perOf (L.getD i ⟨0, 0, 0⟩) := by simp [cyG]
  have e5 : IntKind.wrap IntKind.i64 ((i : Int) + 1) = ((i + 1 : Nat) : Int) := by rw [i64w (by omega) (by omega)]; omega
  rw [fvals_fL, seenF_any, e5]
  have hml : ((L.take i).foldl stepG []).length * 65408 ≤ 130305 * 65408 := Nat.mul_le_mul_right _ (by omega)
  generalize (L.take i).foldl stepG [] = O at *
  generalize hG : L.getD i ⟨0, 0, 0⟩ = G at *
  rw [hcy]
  refine ⟨by omega, ⟨Nat.le_refl _, fun k _ => isFm_fmv _ (by omega), by omega, by omega⟩, condI Iff.rfl (fun q2 => ?_) (fun q2 => ?_)⟩
  ·have hse : seenL O G = false := by
    cases hb : seenL O G with
    | true => rw [show seenL O _ = true from hb] at q2; simp at q2
    | false => rfl
   have hO2 : stepG O G = O ++ [G] := if_neg (by rw [hse]; simp)
   rw [hO2] at hst
   have hs2 : seenF (O ++ [G]) = seenF O ++ cyG G := by simp [seenF]
   have n1 : ∀ x : MV, News.len (.rows 1 1 (rowOf [x])) = 1 := fun _ => rfl
   have n2 : ∀ (m : Nat) (f : Nat → MV), News.len (.rows 6 m f) = m := fun _ _ => rfl
   rw [n1, n2]
   refine ⟨by omega, by omega, ⟨Nat.le_refl _, Nat.le_refl _, by omega⟩, ⟨Nat.le_refl _, by omega⟩, ⟨i + 1⟩, hlt, ?_, by show L.length - (i + 1) < L.length - i; omega⟩
   dsimp only
   rw [hst, hs2]
   have e6 : (O ++ [G]).length = O.length + 1 := by simp
   have e7 : (seenF O ++ cyG G).length = (seenF O).length + (cyG G).length := by simp
   rw [e6, e7]
   have hlc : LeFun (O.length + 1) (fun q => bif Nat.blt q O.length then cysR O q else rowOf [MV.sl 6 (cyG G).length (fL (cyG G) 8)] (q - O.length)) (cysR (O ++ [G])) := by
    have k := le_cys O G
    refine ⟨fun q hq c w cs r => ?_⟩
    have r : RepC c w (bif Nat.blt q O.length then cysR O q else rowOf [MV.sl 6 (cyG G).length (fL (cyG G) 8)] (q - O.length)) cs := r
    cases hb : Nat.blt q O.length with
    | true =>
     refine k.h q hq c w cs ?_
     show RepC c w (bif Nat.blt q O.length then _ else _) cs
     rw [hb] at r ⊢
     exact r
    | false =>
     rw [hb, cond_false] at r
     have hq2 : q = O.length := by
      rcases Nat.lt_or_ge q O.length with k | k
      ·rw [← Nat.blt_eq, hb] at k; simp at k
      ·omega
     subst hq2
     have e2 : cysR (O ++ [G]) O.length = lmv (cyG G) 8 := by simp [cysR]
     have e0 : rowOf [MV.sl 6 (cyG G).length (fL (cyG G) 8)] (O.length - O.length) = lmv (cyG G) 8 := by rw [Nat.sub_self]; rfl
     rw [e2]
     rw [e0] at r
     exact r
   and_intros <;> first | exact True.intro | rfl | exact .inl (Nat.le_refl _) | exact LeFun.refl | exact hlc | exact le_catL _ _ (Nat.le_refl _)
  ·have hse : seenL O G = true := by
    cases hb : seenL O G with
    | true => rfl
    | false => exact absurd (by rw [show seenL O G = false from hb]; rfl) q2
   have hO2 : stepG O G = O := if_pos hse
   rw [hO2] at hst
   refine ⟨⟨i + 1⟩, hlt, ?_, by show L.length - (i + 1) < L.length - i; omega⟩
   dsimp only
   rw [hst]
   and_intros <;> first | exact True.intro | rfl | exact .inl (Nat.le_refl _) | exact LeFun.refl
 ·simp at h
noncomputable def c_r17cys : Ctr Tryz.prog := ⟨31, s_cys, fun args w => Tryz.call31 args w, fn_ok mix Tryz.func31 s_cys p_r17cys⟩
end Go.Proofs.YtnfmjlhkknndhaaGreat
/-
 Contracts of functions: algoristref17 (cycles of the reference), what its descriptions are.
-/
namespace Go.Proofs.YtnfmjlhkknndhaaGreat
open Go Go.RowKit
def sizeGo : Nat → Int → Int
 | 0, n => n
 | k + 1, n => if knE n = 0 then n else sizeGo k (n + 1)
def sizeD (d : Int) : Int := sizeGo 10 (5 + d % 1995)
theorem size_all : ∀ n : Nat, n < 1995 → ∃ j : Nat, j < 10 ∧ knE (5 + (n : Int) + (j : Int)) = 0 := by
 have h : ∀ n : Fin 1995, ∃ j : Fin 10, knE (5 + (n.val : Int) + (j.val : Int)) = 0 := by decide +kernel
 intro n hn
 obtain ⟨j, hj⟩ := h ⟨n, hn⟩
 exact ⟨j.val, j.isLt, hj⟩
theorem sizeGo_succ (k : Nat) (n : Int) : sizeGo (k + 1) n = if knE n = 0 then n else sizeGo k (n + 1) := rfl
theorem sizeGo_spec : ∀ (k j : Nat) (n : Int), j < k → knE (n + j) = 0 → knE (sizeGo k n) = 0 ∧ n ≤ sizeGo k n ∧ sizeGo k n ≤ n + j
 | 0, j, n, h, _ => absurd h (by omega)
 | k + 1, j, n, h, hj => by
  unfold sizeGo
  by_cases h0 : knE n = 0
  ·rw [if_pos h0]; exact ⟨h0, by omega, by omega⟩
  ·rw [if_neg h0]
   have hj0 : j ≠ 0 := fun e => h0 (by rw [e] at hj; simpa using hj)
   obtain ⟨k1, k2, k3⟩ := sizeGo_spec k (j - 1) (n + 1) (by omega) (by rw [show n + 1 + ((j - 1 : Nat) : Int) = n + j by omega]; exact hj)
   exact ⟨k1, by omega, by omega⟩
theorem size_spec {d : Int} (_h : 0 ≤ d) : knE (sizeD d) = 0 ∧ 5 ≤ sizeD d ∧ sizeD d ≤ 2008 := by
 obtain ⟨j, h1, h2⟩ := size_all (d % 1995).toNat (by omega)
 have e : (((d % 1995).toNat : Nat) : Int) = d % 1995 := by omega
 rw [e] at h2
 obtain ⟨k1, k2, k3⟩ := sizeGo_spec 10 j (5 + d % 1995) h1 h2
 exact ⟨k1, by unfold sizeD; omega, by unfold sizeD; omega⟩
def a_size (b : Int) : Nat → MS → Option LoopAnn
 | 2, _ => some (.inv WalkI (fun i => i.i ≤ 9 ∧ sizeGo (10 - i.i) (b + (i.i : Int)) = sizeGo 10 b ∧ ∃ j : Nat, i.i ≤ j ∧ j ≤ 9 ∧ knE (b + (j : Int)) = 0) (fun i => ⟨16, [(3, .int .i64 (b + (i.i : Int)))], [], 0⟩) (fun i => 10 - i.i))
 | _, _ => none
theorem vc_size (d i0 i1 m0 m1 : Int) : (((1995 : Int) = 0 → False) ∧ (∃ i, (WalkI.i i ≤ 9 ∧ sizeGo ((10 : Nat) - WalkI.i i) ((5 : Int) + d % 1995 + (↑(WalkI.i i) : Int)) = sizeGo (10 : Nat) ((5 : Int) + d % 1995) ∧ ∃ j, WalkI.i i ≤ j ∧ j ≤ 9 ∧ knE ((5 : Int) + d % 1995 + (↑j : Int)) = 0) ∧ (IntKind.wrap IntKind.i64 ((5 : Int) + IntKind.wrap IntKind.i64 (Int.tmod d (1995 : Int))) = 5 + d % 1995 + (↑(WalkI.i i) : Int) ∧ True) ∧ True) ∧ ∀ (i : WalkI), (WalkI.i i ≤ 9 ∧ sizeGo ((10 : Nat) - WalkI.i i) ((5 : Int) + d % 1995 + (↑(WalkI.i i) : Int)) = sizeGo (10 : Nat) ((5 : Int) + d % 1995) ∧ ∃ j, WalkI.i i ≤ j ∧ j ≤ 9 ∧ knE ((5 : Int) + d % 1995 + (↑j : Int)) = 0) → Fit ((5 : Int) + d % 1995 + (↑(WalkI.i i) : Int)) ∧ (64 : Nat) ≤ 100000 ∧ bif knE ((5 : Int) + d % 1995 + (↑(WalkI.i i) : Int)) != 0 then ∃ j, (WalkI.i j ≤ 9 ∧ sizeGo ((10 : Nat) - WalkI.i j) ((5 : Int) + d % 1995 + (↑(WalkI.i j) : Int)) = sizeGo (10 : Nat) ((5 : Int) + d % 1995) ∧ ∃ j_1, WalkI.i j ≤ j_1 ∧ j_1 ≤ 9 ∧ knE ((5 : Int) + d % 1995 + (↑j_1 : Int)) = 0) ∧ ((IntKind.wrap IntKind.i64 ((5 : Int) + d % 1995 + (↑(WalkI.i i) : Int) + 1) = 5 + d % 1995 + (↑(WalkI.i j) : Int) ∧ True) ∧ True) ∧ (10 : Nat) - WalkI.i j < 10 - WalkI.i i else (5 : Int) + d % 1995 + (↑(WalkI.i i) : Int) = sizeD d) = evFn (env [c_rof, c_r17known] (a_size (5 + d % 1995))) Tryz.f29 [.st [.int .u16 d, .st [.int .u16 i0, .int .u16 i1], .st [.int .u8 m0, .int .u8 m1]]] (MRes.sat (.ret (.int .i64 (sizeD d)))) := by kernel_rfl
def s_size : FSpec
 | [.st [.int .u16 d, .st [.int .u16 _, .int .u16 _], .st [.int .u8 _, .int .u8 _]]] => some (some (0 ≤ d ∧ d < 65536), .ret (.int .i64 (sizeD d)))
 | _ => none
theorem p_size : Good Tryz.f29 s_size := by
 intro ms p r h hp
 unfold s_size at h
 split at h
 ·rename_i d i0 i1 m0 m1
  simp only [Option.some.injEq, Prod.mk.injEq] at h
  obtain ⟨rfl, rfl⟩ := h
  obtain ⟨h1, h2⟩ : 0 ≤ d ∧ d < 65536 := hp
  refine ⟨env [c_rof, c_r17known] (a_size (5 + d % 1995)), ?_⟩
  rw [← vc_size d i0 i1 m0 m1]
  obtain ⟨j0, j1, j2⟩ := size_all (d % 1995).toNat (by omega)
  have e : (((d % 1995).toNat : Nat) : Int) = d % 1995 := by omega
  rw [e] at j2
  have hm : 0 ≤ d % 1995 ∧ d % 1995 < 1995 := by omega
  have e1 : IntKind.wrap IntKind.i64 (5 + IntKind.wrap IntKind.i64 (Int.tmod d 1995)) = 5 + d % 1995 := by
   rw [Int.tmod_eq_emod_of_nonneg h1]
   have a1 : IntKind.wrap IntKind.i64 (d % 1995) = d % 1995 := i64w (by omega) (by omega)
   rw [a1]
   exact i64w (by omega) (by omega)
  rw [e1]
  have eS : sizeD d = sizeGo 10 (5 + d % 1995) := rfl
  rw [eS]
  have hb : 5 ≤ 5 + d % 1995 ∧ 5 + d % 1995 < 2000 := by omega
  clear hm e1 eS e
  generalize 5 + d % 1995 = b at *
  refine ⟨by omega, ⟨⟨0⟩, ⟨Nat.zero_le _, by simp, j0, Nat.zero_le _, by omega, j2⟩, ⟨by simp, True.intro⟩, True.intro⟩, fun i hi => ?_⟩
  obtain ⟨i⟩ := i
  obtain ⟨i1, i2, j, i3, i4, i5⟩ : i ≤ 9 ∧ sizeGo (10 - i) (b + (i : Int)) = sizeGo 10 b ∧ ∃ j : Nat, i ≤ j ∧ j ≤ 9 ∧ knE (b + (j : Int)) = 0 := hi
  dsimp only
  have e10 : 10 - i = (10 - (i + 1)) + 1 := by omega
  rw [e10, sizeGo_succ (10 - (i + 1))] at i2
  refine ⟨by omega, by omega, condI bne_iff_ne (fun q => ?_) (fun q => ?_)⟩
  ·rw [if_neg q] at i2
   have hij : i ≠ j := fun e => q (by rw [e]; exact i5)
   have e2 : IntKind.wrap IntKind.i64 (b + (i : Int) + 1) = b + ((i + 1 : Nat) : Int) := by rw [i64w (by omega) (by omega)]; omega
   rw [e2]
   refine ⟨⟨i + 1⟩, ⟨by show i + 1 ≤ 9; omega, ?_, j, by show i + 1 ≤ j; omega, i4, i5⟩, ⟨⟨rfl, True.intro⟩, True.intro⟩, by show 10 - (i + 1) < 10 - i; omega⟩
   show sizeGo (10 - (i + 1)) (b + ((i + 1 : Nat) : Int)) = _
   rw [show b + ((i + 1 : Nat) : Int) = b + (i : Int) + 1 by omega]
   exact i2
  ·rw [if_pos (Decidable.not_not.1 q)] at i2
   exact i2
 ·simp at h
def c_size : Ctr Tryz.prog := ⟨29, s_size, fun args w => Tryz.call29 args w, fn_ok mix Tryz.func29 s_size p_size⟩
structure OkX (d i0 i1 m0 m1 : Int) : Prop where
 a : 0 ≤ d
 b : d < 65536
 c : 0 ≤ i0
 d : i0 < 65536
 e : 0 ≤ i1
 f : i1 < 65536
 g : 0 ≤ m0
 h : m0 < 256
 i : 0 ≤ m1
 j : m1 < 256
end Go.Proofs.YtnfmjlhkknndhaaGreat
/-
 Contracts of functions: algoristlaw17, the examples.
-/
namespace Go.Proofs.YtnfmjlhkknndhaaGreat
open Go Go.RowKit
theorem vc_lex  : (Fit 12 ∧ (64 : Nat) ≤ 100000 ∧ Fit 5 ∧ (64 : Nat) ≤ 100000 ∧ ((-9223372036854775808 : Int) ≤ 1 ∧ (1 : Int) ≤ 9223372036854775807 ∧ (-9223372036854775808 : Int) ≤ 2 ∧ (2 : Int) ≤ 9223372036854775807 ∧ (-9223372036854775808 : Int) ≤ (-2 : Int) ∧ (-2 : Int) ≤ 9223372036854775807) ∧ ((64 : Nat) ≤ 10000 ∧ (64 : Nat) ≤ 10000 ∧ (64 : Nat) ≤ 10000) ∧ ((-9223372036854775808 : Int) ≤ 1 ∧ (1 : Int) ≤ 9223372036854775807 ∧ (-9223372036854775808 : Int) ≤ 0 ∧ (0 : Int) ≤ 9223372036854775807 ∧ (-9223372036854775808 : Int) ≤ (-3 : Int) ∧ (-3 : Int) ≤ 9223372036854775807) ∧ ((64 : Nat) ≤ 300 ∧ (64 : Nat) ≤ 300 ∧ (64 : Nat) ≤ 300) ∧ Fit 9 ∧ (64 : Nat) ≤ 100000 ∧ Fit 65545 ∧ (64 : Nat) ≤ 100000 ∧ ((-9223372036854775808 : Int) ≤ 1 ∧ (1 : Int) ≤ 9223372036854775807 ∧ (-9223372036854775808 : Int) ≤ 0 ∧ (0 : Int) ≤ 9223372036854775807 ∧ (-9223372036854775808 : Int) ≤ 1 ∧ (1 : Int) ≤ 9223372036854775807) ∧ ((64 : Nat) ≤ 300 ∧ (64 : Nat) ≤ 300 ∧ (64 : Nat) ≤ 300) ∧ ((-9223372036854775808 : Int) ≤ 1 ∧ (1 : Int) ≤ 9223372036854775807 ∧ (-9223372036854775808 : Int) ≤ 2 ∧ (2 : Int) ≤ 9223372036854775807 ∧ (-9223372036854775808 : Int) ≤ (-2 : Int) ∧ (-2 : Int) ≤ 9223372036854775807) ∧ Fit 2 ∧ ((64 : Nat) ≤ 300 ∧ (64 : Nat) ≤ 300 ∧ (64 : Nat) ≤ 300 ∧ (64 : Nat) ≤ 100000) ∧ ((0 : Int) ≤ 0 ∧ (0 : Int) < (↑(2 : Nat) : Int)) ∧ ((-9223372036854775808 : Int) ≤ (-2 : Int) ∧ (-2 : Int) ≤ 9223372036854775807 ∧ (-9223372036854775808 : Int) ≤ 2 ∧ (2 : Int) ≤ 9223372036854775807 ∧ (-9223372036854775808 : Int) ≤ 1 ∧ (1 : Int) ≤ 9223372036854775807) ∧ ((-9223372036854775808 : Int) ≤ 1 ∧ (1 : Int) ≤ 9223372036854775807 ∧ (-9223372036854775808 : Int) ≤ 2 ∧ (2 : Int) ≤ 9223372036854775807 ∧ (-9223372036854775808 : Int) ≤ (-2 : Int) ∧ (-2 : Int) ≤ 9223372036854775807) ∧ ((∀ (i : Nat), i < 2 → isFm (1000 : Nat) (fL (cyG (List.getD (cysL (12 : Int)) (0 : Nat) (Fm.mk (0 : Int) (0 : Int) (0 : Int)))) (8 : Nat) i)) ∧ (∀ (i : Nat), i < 2 → isFm (1000 : Nat) (rowOf [MV.st [MV.big (-2 : Int) (64 : Nat), MV.big (2 : Int) (64 : Nat), MV.big (1 : Int) (64 : Nat)], MV.st [MV.big (1 : Int) (64 : Nat), MV.big (2 : Int) (64 : Nat), MV.big (-2 : Int) (64 : Nat)]] i)) ∧ (2 : Nat) ≤ 1000000000) ∧ ((0 : Int) ≤ 1 ∧ (1 : Int) < (↑(2 : Nat) : Int)) ∧ ((-9223372036854775808 : Int) ≤ (-1 : Int) ∧ (-1 : Int) ≤ 9223372036854775807 ∧ (-9223372036854775808 : Int) ≤ 2 ∧ (2 : Int) ≤ 9223372036854775807 ∧ (-9223372036854775808 : Int) ≤ 2 ∧ (2 : Int) ≤ 9223372036854775807) ∧ ((-9223372036854775808 : Int) ≤ 2 ∧ (2 : Int) ≤ 9223372036854775807 ∧ (-9223372036854775808 : Int) ≤ 2 ∧ (2 : Int) ≤ 9223372036854775807 ∧ (-9223372036854775808 : Int) ≤ (-1 : Int) ∧ (-1 : Int) ≤ 9223372036854775807) ∧ ((∀ (i : Nat), i < 2 → isFm (1000 : Nat) (fL (cyG (List.getD (cysL (12 : Int)) (1 : Nat) (Fm.mk (0 : Int) (0 : Int) (0 : Int)))) (8 : Nat) i)) ∧ (∀ (i : Nat), i < 2 → isFm (1000 : Nat) (rowOf [MV.st [MV.big (-1 : Int) (64 : Nat), MV.big (2 : Int) (64 : Nat), MV.big (2 : Int) (64 : Nat)], MV.st [MV.big (2 : Int) (64 : Nat), MV.big (2 : Int) (64 : Nat), MV.big (-1 : Int) (64 : Nat)]] i)) ∧ (2 : Nat) ≤ 1000000000) ∧ ((-9223372036854775808 : Int) ≤ (-2 : Int) ∧ (-2 : Int) ≤ 9223372036854775807 ∧ (-9223372036854775808 : Int) ≤ 2 ∧ (2 : Int) ≤ 9223372036854775807 ∧ (-9223372036854775808 : Int) ≤ 1 ∧ (1 : Int) ≤ 9223372036854775807) ∧ ((64 : Nat) ≤ 1000000 ∧ (64 : Nat) ≤ 1000000 ∧ (64 : Nat) ≤ 1000000 ∧ (64 : Nat) ≤ 1000000 ∧ (64 : Nat) ≤ 1000000 ∧ (64 : Nat) ≤ 1000000) ∧ ((-9223372036854775808 : Int) ≤ 1 ∧ (1 : Int) ≤ 9223372036854775807 ∧ (-9223372036854775808 : Int) ≤ 2 ∧ (2 : Int) ≤ 9223372036854775807 ∧ (-9223372036854775808 : Int) ≤ (-2 : Int) ∧ (-2 : Int) ≤ 9223372036854775807) ∧ ((64 : Nat) ≤ 40000 ∧ (64 : Nat) ≤ 40000 ∧ (64 : Nat) ≤ 40000 ∧ (64 : Nat) ≤ 100000 ∧ (64 : Nat) ≤ 100000 ∧ (64 : Nat) ≤ 100000 ∧ (64 : Nat) ≤ 100000) ∧ ((262 : Nat) ≤ 1000000 ∧ (262 : Nat) ≤ 1000000 ∧ (262 : Nat) ≤ 1000000 ∧ (64 : Nat) ≤ 1000000 ∧ (64 : Nat) ≤ 1000000 ∧ (64 : Nat) ≤ 1000000) ∧ ((-9223372036854775808 : Int) ≤ 1 ∧ (1 : Int) ≤ 9223372036854775807 ∧ (-9223372036854775808 : Int) ≤ 2 ∧ (2 : Int) ≤ 9223372036854775807 ∧ (-9223372036854775808 : Int) ≤ (-2 : Int) ∧ (-2 : Int) ≤ 9223372036854775807) ∧ ((64 : Nat) ≤ 1000000 ∧ (64 : Nat) ≤ 1000000 ∧ (64 : Nat) ≤ 1000000 ∧ (64 : Nat) ≤ 1000000 ∧ (64 : Nat) ≤ 1000000 ∧ (64 : Nat) ≤ 1000000) ∧ ((4225 : Nat) ≤ 400000 ∧ (4225 : Nat) ≤ 400000 ∧ (4225 : Nat) ≤ 400000 ∧ (4225 : Nat) ≤ 400000) ∧ Fit 1 ∧ ((8451 : Nat) ≤ 1000000 ∧ (64 : Nat) ≤ 1000000) ∧ ((64 : Nat) ≤ 40000 ∧ (64 : Nat) ≤ 40000 ∧ (64 : Nat) ≤ 40000) ∧ ((-9223372036854775808 : Int) ≤ 1 ∧ (1 : Int) ≤ 9223372036854775807 ∧ (-9223372036854775808 : Int) ≤ 0 ∧ (0 : Int) ≤ 9223372036854775807 ∧ (-9223372036854775808 : Int) ≤ (-3 : Int) ∧ (-3 : Int) ≤ 9223372036854775807) ∧ ((64 : Nat) ≤ 40000 ∧ (64 : Nat) ≤ 40000 ∧ (64 : Nat) ≤ 40000) ∧ (!redQ (Fm.mk (1 : Int) (0 : Int) (-3 : Int))) = true) = evFn (env [c_cys, c_class, c_crho, c_creduce, c_ccycle, c_cshows, c_rof, c_r8of, c_r17sl, c_r8equal, c_r8apply, c_rsame, c_r8det, c_creduced] noAnn) Tryz.f12 [] (MRes.sat (.ret (.bool true))) := by kernel_rfl
theorem rowOf2 {f g : Fm} {n W : Nat} (h : n ≤ W) : ∀ i, i < 2 → isFm W (rowOf [.st [.big f.A n, .big f.B n, .big f.C n], .st [.big g.A n, .big g.B n, .big g.C n]] i) := by
 intro i hi
 have : i = 0 ∨ i = 1 := by omega
 rcases this with rfl | rfl
 ·exact isFm_fmv f h
 ·exact isFm_fmv g h
def s_lex : FSpec
 | [] => some (none, .ret (.bool true))
 | _ => none
set_option maxRecDepth 20000 in
theorem p_lex : Good Tryz.f12 s_lex := by
 intro ms p r h hp
 unfold s_lex at h
 split at h
 ·simp only [Option.some.injEq, Prod.mk.injEq] at h
  obtain ⟨rfl, rfl⟩ := h
  refine ⟨env [c_cys, c_class, c_crho, c_creduce, c_ccycle, c_cshows, c_rof, c_r8of, c_r17sl, c_r8equal, c_r8apply, c_rsame, c_r8det, c_creduced] noAnn, ?_⟩
  rw [← vc_lex]
  and_intros <;> first | omega | exact fun i _ => isFm_fmv _ (by omega) | exact rowOf2 (f := ⟨-2, 2, 1⟩) (g := ⟨1, 2, -2⟩) (by omega) | exact rowOf2 (f := ⟨-1, 2, 2⟩) (g := ⟨2, 2, -1⟩) (by omega) | rfl
 ·simp at h
noncomputable def c_lex : Ctr Tryz.prog := ⟨12, s_lex, fun args w => Tryz.call12 args w, fn_ok mix Tryz.func12 s_lex p_lex⟩
theorem condF {b : Bool} {x y : Prop} (hb : b = false) (h : y) : cond b x y := by subst hb; exact h
theorem not_of {b : Bool} (h : b = true) : (!b) = false := by rw [h]; rfl
theorem eqFL_refl (f : List Fm) : eqFL f f = true := decide_eq_true rfl
theorem bneI (a : Int) : (a != a) = false := by simp
end Go.Proofs.YtnfmjlhkknndhaaGreat
/-
 The frame of a law: what was read before the call is read behind it.
-/
namespace Go.Proofs.YtnfmjlhkknndhaaGreat
open Go Go.RowKit
theorem mapM_keep {α β : Type} {f g : α → Option β} : ∀ (l : List α) (xs : List β), l.mapM f = some xs → (∀ a x, f a = some x → x ∈ xs → g a = some x) → l.mapM g = some xs
 | [], xs, h, _ => h
 | a :: l, xs, h, hk => by
  simp only [List.mapM_cons, Option.bind_eq_bind, Option.pure_def, Option.bind_eq_some_iff, Option.some.injEq] at h ⊢
  obtain ⟨x, h1, ys, h2, rfl⟩ := h
  exact ⟨x, hk a x h1 (List.mem_cons_self ..), ys, mapM_keep l ys h2 fun b y hb hy => hk b y hb (List.mem_cons_of_mem _ hy), rfl⟩
theorem mapM_keep2 {α β : Type} {f g : α → Option β} : ∀ (l : List α) (xs : List β), l.mapM f = some xs → (∀ a ∈ l, ∀ x, f a = some x → x ∈ xs → g a = some x) → l.mapM g = some xs
 | [], xs, h, _ => h
 | a :: l, xs, h, hk => by
  simp only [List.mapM_cons, Option.bind_eq_bind, Option.pure_def, Option.bind_eq_some_iff, Option.some.injEq] at h ⊢
  obtain ⟨x, h1, ys, h2, rfl⟩ := h
  exact ⟨x, hk a (List.mem_cons_self ..) x h1 (List.mem_cons_self ..), ys, mapM_keep2 l ys h2 fun b hb y hy hm => hk b (List.mem_cons_of_mem _ hb) y hy (List.mem_cons_of_mem _ hm), rfl⟩
theorem cell_keep {w w' : World} (e : ∀ b, b < w.heap.size → w'.heap[b]? = w.heap[b]?) {a : Addr} {v : Value} (h : w.cell? a = some v) : w'.cell? a = some v := by
 have hlt : a.block < w.heap.size := by
  unfold World.cell? at h
  split at h
  ·rename_i h0; exact (Array.getElem?_eq_some_iff.1 h0).1
  ·simp at h
 unfold World.cell? at h ⊢
 rw [e _ hlt]; exact h
theorem cells_keep {w w' : World} (e : ∀ b, b < w.heap.size → w'.heap[b]? = w.heap[b]?) {base : Nat} {a : Addr} {n : Nat} {vs : List Value} (h : w.cells? base a n = some vs) : w'.cells? base a n = some vs := by
 unfold World.cells? at h ⊢
 split at h
 ·rename_i hb
  rw [if_pos hb]
  exact mapM_keep _ _ h fun i v hi _ => cell_keep e hi
 ·simp at h
section
variable {H : Type} {enc : TypeId × Value → H} {P : Program} {w w' : World}
def subOk (P : Program) (L : List Nat) (t : Nat) : Bool := match P.underlying t with
 | some (.pointer e) => L.elem e
 | some (.slice e) => L.elem e && (0).blt (P.cellsOf e)
 | some (.struct fs) => fs.toList.all fun f => L.elem f.type
 | some (.array _ e) => L.elem e
 | some (.interface _) => false
 | some (.map _ e) => L.elem e
 | _ => true
theorem trod_keep {L : List Nat} (hL : L.all (subOk P L) = true) (e : ∀ b, b < w.heap.size → w'.heap[b]? = w.heap[b]?) (sp : Nat → Bool) (held : Bool) :
  ∀ (fuel : Nat) (t : TypeId) (cs : List Value) (x : DataW H × List MemPlace), t ∈ L → DataW.trod enc P w 0 (fun _ => true) held fuel t cs = some x → (∀ p ∈ x.2, sp p.block = true) → DataW.trod enc P w' 0 sp held fuel t cs = some x
 | 0, _, _, _, _, h, _ => by simp [DataW.trod] at h
 | fuel + 1, t, cs, x, ht, h, hsp => by
  have ih := trod_keep hL e sp held fuel
  have hok := List.all_eq_true.1 hL t ht
  unfold subOk at hok
  unfold DataW.trod at h ⊢
  have el : ∀ (a : Addr) (n : Nat) (u : TypeId) (y : DataW H × List MemPlace), u ∈ L → (w.cells? 0 a n).bind (DataW.trod enc P w 0 (fun _ => true) held fuel u) = some y → (∀ p ∈ y.2, sp p.block = true) → (w'.cells? 0 a n).bind (DataW.trod enc P w' 0 sp held fuel u) = some y := by
   intro a n u y hu hy hs
   obtain ⟨vs, h1, h2⟩ := Option.bind_eq_some_iff.1 hy
   exact Option.bind_eq_some_iff.2 ⟨vs, cells_keep e h1, ih u vs y hu h2 hs⟩
  split at h
  case h_21 => simp at h
  case h_6 =>
   rename_i hu
   rw [hu] at hok
   obtain ⟨y, h1, rfl⟩ := Option.map_eq_some_iff.1 h
   exact Option.map_eq_some_iff.2 ⟨y, el _ _ _ _ (List.mem_of_elem_eq_true hok) h1 fun p hp => hsp p (List.mem_append_right _ hp), rfl⟩
  case h_8 =>
   rename_i ee a len cap hu
   rw [hu] at hok
   simp only [Bool.and_eq_true, Nat.blt_eq] at hok
   have hee := List.mem_of_elem_eq_true hok.1
   dsimp only at h ⊢
   split at h
   ·rename_i hc
    rw [if_pos hc]
    obtain ⟨elems, h1, h⟩ := Option.bind_eq_some_iff.1 h
    obtain ⟨rest, h2, rfl⟩ := Option.map_eq_some_iff.1 h
    rw [if_pos rfl] at h2
    have hsz := hok.2
    have q1 : ∀ y ∈ elems, ∀ p ∈ y.2, sp p.block = true := fun y hy p hp => hsp p (List.mem_append_right _ (List.mem_flatMap.2 ⟨y, List.mem_append_left _ hy, hp⟩))
    have q2 : ∀ y ∈ rest, ∀ p ∈ y.2, sp p.block = true := fun y hy p hp => hsp p (List.mem_append_right _ (List.mem_flatMap.2 ⟨y, List.mem_append_right _ hy, hp⟩))
    refine Option.bind_eq_some_iff.2 ⟨elems, mapM_keep _ _ h1 fun i y hi hy => el _ _ _ _ hee hi (q1 y hy), Option.map_eq_some_iff.2 ⟨rest, ?_, rfl⟩⟩
    by_cases h0 : rest = []
    ·subst h0
     have : cap - len = 0 := by
      rcases Nat.eq_zero_or_pos (cap - len) with h | h
      ·exact h
      ·obtain ⟨n, hn⟩ := Nat.exists_eq_succ_of_ne_zero (Nat.pos_iff_ne_zero.1 h)
       rw [hn, List.range_succ_eq_map] at h2
       simp [Option.bind_eq_some_iff] at h2
     rw [this]
     split <;> simp
    ·have hpos : 0 < (elems.length + rest.length) * P.cellsOf ee := Nat.mul_pos (by have := List.length_pos_iff.2 h0; omega) hsz
     have : sp a.block = true := hsp (.cell a.block (a.off + 0)) (List.mem_append_left _ (List.mem_map.2 ⟨0, List.mem_range.2 hpos, rfl⟩))
     rw [if_pos this]
     exact mapM_keep _ _ h2 fun i y hi hy => el _ _ _ _ hee hi (q2 y hy)
   ·simp at h
  case h_9 =>
   rename_i fs hu
   rw [hu] at hok
   split at h
   ·rename_i hc
    rw [if_pos hc]
    obtain ⟨xs, h1, rfl⟩ := Option.map_eq_some_iff.1 h
    exact Option.map_eq_some_iff.2 ⟨xs, mapM_keep2 _ _ h1 fun f hfm y hf hy => ih _ _ _ (List.mem_of_elem_eq_true (List.all_eq_true.1 hok f hfm)) hf fun p hp => hsp p (List.mem_flatMap.2 ⟨y, hy, hp⟩), rfl⟩
   ·simp at h
  case h_10 =>
   rename_i n ee hu
   rw [hu] at hok
   split at h
   ·rename_i hc
    rw [if_pos hc]
    obtain ⟨xs, h1, rfl⟩ := Option.map_eq_some_iff.1 h
    exact Option.map_eq_some_iff.2 ⟨xs, mapM_keep _ _ h1 fun f y hf hy => ih _ _ _ (List.mem_of_elem_eq_true hok) hf fun p hp => hsp p (List.mem_flatMap.2 ⟨y, hy, hp⟩), rfl⟩
   ·simp at h
  case h_12 =>
   rename_i hu
   rw [hu] at hok
   simp at hok
  case h_14 =>
   rename_i b hu
   rw [hu] at hok
   split at h
   ·rename_i es clock hb
    rw [e b (Array.getElem?_eq_some_iff.1 hb).1, hb]
    dsimp only
    split at h
    ·rename_i hc
     rw [if_pos hc]
     obtain ⟨entries, h1, h⟩ := Option.bind_eq_some_iff.1 h
     have hpl : ∀ y ∈ entries, ∀ p ∈ y.2, sp p.block = true := by
      dsimp only at h
      split at h
      ·simp only [Option.some.injEq] at h
       subst h
       exact fun y hy p hp => hsp p (List.mem_cons_of_mem _ (List.mem_flatMap.2 ⟨y, hy, hp⟩))
      ·simp at h
     refine Option.bind_eq_some_iff.2 ⟨entries, mapM_keep _ _ h1 fun f y hf hy => ?_, h⟩
     obtain ⟨key, k1, k2⟩ := Option.bind_eq_some_iff.1 hf
     refine Option.bind_eq_some_iff.2 ⟨key, k1, ?_⟩
     split at k2
     ·rename_i hfm
      rw [if_pos hfm]
      obtain ⟨z, z1, rfl⟩ := Option.map_eq_some_iff.1 k2
      exact Option.map_eq_some_iff.2 ⟨z, ih _ _ _ (List.mem_of_elem_eq_true hok) z1 (hpl _ hy), rfl⟩
     ·simp at k2
    ·simp at h
   ·simp at h
  all_goals
   exact h
theorem trodAll_keep {L : List Nat} (hL : L.all (subOk P L) = true) (e : ∀ b, b < w.heap.size → w'.heap[b]? = w.heap[b]?) (sp : Nat → Bool) :
  ∀ (ts : List TypeId) (vs : List Value) (ds : List (DataW H)) (ps : List MemPlace), (∀ t ∈ ts, t ∈ L) → DataW.TrodAll enc P w 0 (fun _ => true) true ts vs ds ps → (∀ p ∈ ps, sp p.block = true) → DataW.TrodAll enc P w' 0 sp true ts vs ds ps
 | [], [], [], _, _, h, _ => h
 | t :: ts, v :: vs, d :: ds, ps, ht, h, hsp => by
  obtain ⟨p, q, ⟨fuel, h1⟩, h2, rfl⟩ := h
  exact ⟨p, q, ⟨fuel, trod_keep hL e sp true fuel t _ _ (ht t (List.mem_cons_self ..)) h1 fun p hp => hsp p (List.mem_append_left _ hp)⟩, trodAll_keep hL e sp ts vs ds q (fun u hu => ht u (List.mem_cons_of_mem _ hu)) h2 fun p hp => hsp p (List.mem_append_right _ hp), rfl⟩
 | [], _ :: _, _, _, _, h, _ => h.elim
 | [], [], _ :: _, _, _, h, _ => h.elim
 | _ :: _, [], _, _, _, h, _ => h.elim
 | _ :: _, _ :: _, [], _, _, h, _ => h.elim
end
end Go.Proofs.YtnfmjlhkknndhaaGreat
/-
 The frame of a law: what the arguments are, as the evaluator says it.
-/
namespace Go.Proofs.YtnfmjlhkknndhaaGreat
open Go Go.RowKit
abbrev noS : Nat → Prop := fun _ => False
section
variable {H : Type} {enc : TypeId × Value → H} {P : Program} {w : World} {sp : Nat → Bool} {held : Bool}
theorem mapM_all {α β : Type} {f : α → Option β} : ∀ (l : List α) (xs : List β), l.mapM f = some xs → ∀ a ∈ l, ∃ x, f a = some x
 | [], _, _, a, ha => by simp at ha
 | b :: l, xs, h, a, ha => by
  simp only [List.mapM_cons, Option.bind_eq_bind, Option.pure_def, Option.bind_eq_some_iff, Option.some.injEq] at h
  obtain ⟨x, h1, ys, h2, rfl⟩ := h
  rcases List.mem_cons.1 ha with rfl | ha
  ·exact ⟨x, h1⟩
  ·exact mapM_all l ys h2 a ha
theorem trod_fields {t : TypeId} {fs : Array Field} {fuel : Nat} {cs : List Value} {x : DataW H × List MemPlace} (hu : P.underlying t = some (.struct fs)) (h : DataW.trod enc P w 0 sp held fuel t cs = some x) :
  cs.length = P.cellsOf t ∧ ∃ fuel', ∀ f ∈ fs.toList, ∃ y, DataW.trod enc P w 0 sp held fuel' f.type ((cs.drop f.offset).take (P.cellsOf f.type)) = some y := by
 cases fuel with
 | zero => simp [DataW.trod] at h
 | succ fuel =>
  unfold DataW.trod at h
  rw [hu] at h
  split at h
  all_goals first | (rename_i h0; simp at h0; done) | skip
  ·rename_i fs' hf
   simp only [Option.some.injEq, TypeDesc.struct.injEq] at hf
   subst hf
   split at h
   ·rename_i hc
    obtain ⟨xs, h1, rfl⟩ := Option.map_eq_some_iff.1 h
    exact ⟨hc, fuel, mapM_all _ _ h1⟩
   ·simp at h
  ·rename ∀ (fs_1 : Array Field), some (TypeDesc.struct fs) = some (TypeDesc.struct fs_1) → False => hh
   exact (hh fs rfl).elim
theorem trod_array {t e : TypeId} {n : Nat} {fuel : Nat} {cs : List Value} {x : DataW H × List MemPlace} (hu : P.underlying t = some (.array n e)) (h : DataW.trod enc P w 0 sp held fuel t cs = some x) :
  cs.length = P.cellsOf t ∧ ∃ fuel', ∀ i, i < n → ∃ y, DataW.trod enc P w 0 sp held fuel' e ((cs.drop (i * P.cellsOf e)).take (P.cellsOf e)) = some y := by
 cases fuel with
 | zero => simp [DataW.trod] at h
 | succ fuel =>
  unfold DataW.trod at h
  rw [hu] at h
  split at h
  all_goals first | (rename_i h0; simp at h0; done) | skip
  ·rename_i n' e' hf
   simp only [Option.some.injEq, TypeDesc.array.injEq] at hf
   obtain ⟨rfl, rfl⟩ := hf
   split at h
   ·rename_i hc
    obtain ⟨xs, h1, rfl⟩ := Option.map_eq_some_iff.1 h
    exact ⟨hc, fuel, fun i hi => mapM_all _ _ h1 i (List.mem_range.2 hi)⟩
   ·simp at h
  ·rename ∀ (k : Nat) (e_1 : TypeId), some (TypeDesc.array n e) = some (TypeDesc.array k e_1) → False => hh
   exact (hh n e rfl).elim
theorem trod_int {t : TypeId} {k : IntKind} {fuel : Nat} {cs : List Value} {x : DataW H × List MemPlace} (hu : P.underlying t = some (.int k)) (h : DataW.trod enc P w 0 sp held fuel t cs = some x) :
  ∃ n, cs = [.int k n] ∧ (Lit.int k n).wf = true := by
 cases fuel with
 | zero => simp [DataW.trod] at h
 | succ fuel =>
  unfold DataW.trod at h
  rw [hu] at h
  split at h
  all_goals first | (rename_i h0; simp at h0; done) | skip
  ·rename_i k0 k' n hk
   simp only [Option.some.injEq, TypeDesc.int.injEq] at hk
   subst hk
   split at h
   ·rename_i hc
    exact ⟨n, by rw [hc.1], hc.2⟩
   ·simp at h
  ·simp at h
end
end Go.Proofs.YtnfmjlhkknndhaaGreat
/-
 The frame of a law that may read a package-level array: what is laid; descriptions of numbers; what the contract of a law gives.
-/
namespace Go.Proofs.YtnfmjlhkknndhaaGreat
open Go Go.ChangeShapes Go.WideShapes Go.ChangeAt Go.RowKit
theorem own : ownKnob Tryz.prog.godebug = none := by kernel_rfl
theorem agg_cells {v : Value} {a b : Value} {r : List Value} (h : v.cells.toList = a :: b :: r) : v = .agg (a :: b :: r).toArray := by
 cases v <;> first | (simp [Value.cells] at h; done) | skip
 rename_i cs
 have : cs = (a :: b :: r).toArray := by apply Array.ext'; simpa [Value.cells] using h
 rw [this]
theorem len_two {cs : List Value} (h : cs.length = 2) : ∃ a b, cs = [a, b] := by
 match cs, h with
 | [a, b], _ => exact ⟨a, b, rfl⟩
section
variable {H : Type} {enc : TypeId × Value → H} {w : World} {sp : Nat → Bool} {held : Bool}
theorem u16_wf {n : Int} (h : (Lit.int .u16 n).wf = true) : 0 ≤ n ∧ n ≤ 65535 := by simpa [Lit.wf, IntKind.min, IntKind.max, IntKind.signed, IntKind.bits] using h
theorem post_same {P : Program} {f : Func} {s : ChangeSpec} {apart fresh handsOn again : Bool} {W W' : World} {args : Array Value} {v : Value} {ds gs : List (DataW H)} {before pa pv : List MemPlace}
  (hW : DataW.Whole enc P f.params.toList s.vars apart W args.toList ds gs before)
  (hres : ∀ (b : Nat) (sp : Nat → Bool) (hd : Bool), DataW.TrodAll enc P W' b sp hd f.resultTypes.toList (v.resultList f.resultTypes.size) (s.fn H (ds ++ gs)).results [])
  (hargs : ∀ sp : Nat → Bool, (∀ p ∈ before, sp p.block = true) → DataW.TrodAll enc P W' 0 sp true f.params.toList args.toList (s.fn H (ds ++ gs)).args pa)
  (hvars : ∀ sp : Nat → Bool, (∀ p ∈ before, sp p.block = true) → DataW.TrodVars enc P W' sp s.vars (s.fn H (ds ++ gs)).vars pv)
  (hps : before = pa ++ pv) (hk : W.keptBut W' (· ∈ before)) (hfz : ∀ a : Addr, a.block < W.heap.size → W'.frozen? a = W.frozen? a)
  (hok : ∀ (j : Nat) (t : TypeId) (r : Value), f.resultTypes[j]? = some t → (v.resultList f.resultTypes.size)[j]? = some r → Value.okWide P W' .any 0 t r) :
  s.post enc P f apart fresh handsOn again W args v W' := by
 have hlt : ∀ p ∈ before, p.block < W.heap.size := hW.lt
 have hold : ∀ p ∈ before, (fun b => decide (b < W.heap.size)) p.block = true := fun p hp => by simpa using hlt p hp
 refine ⟨ds, gs, before, [], pa, pv, hW, hres _ _ _, hargs _ hold, hvars _ hold, World.keptBut_mono (fun p hp => ⟨hp, ?_⟩) hk, fun _ => ?_⟩
 ·rw [hps, List.mem_append] at hp
  exact Or.inr hp
 ·obtain ⟨_, _, _, _, _, hz, hn⟩ := hW
  refine ⟨hok, _, _, ([] ++ pa) ++ pv, ⟨[] ++ pa, pv, trodAll_append (hargs _ (fun _ _ => rfl)) (hres _ _ _), hvars _ (fun _ _ => rfl), rfl, ?_, ?_⟩, ?_⟩
  ·intro b off hp
   have hm : MemPlace.cell b off ∈ before := by rw [hps]; simpa using hp
   rw [hfz ⟨b, off, none⟩ (hlt _ hm)]
   exact hz b off hm
  ·intro ha
   have := hn ha
   rw [hps] at this
   simpa using this
  ·intro p hp _
   rw [hps]
   simpa using hp
set_option maxRecDepth 100000 in
theorem law_calls {fn : Func} {s : ChangeSpec} (ctr : Ctr Tryz.prog) (hvars : s.vars = []) (hrt : fn.resultTypes = #[4]) {L : List Nat} (hL : L.all (subOk Tryz.prog L) = true) (hin : ∀ t ∈ fn.params.toList, t ∈ L) {apart fresh handsOn again : Bool} {W : World} {args : Array Value} {ds gs : List (DataW H)} {before : List MemPlace}
  (hW : DataW.Whole enc Tryz.prog fn.params.toList s.vars apart W args.toList ds gs before) (hG : GW noS W)
  (hrep : ∃ ms p, ctr.spec ms = some (p, .ret (.bool true)) ∧ p.holds ∧ RepAll (Ctx.args noS) W ms args.toList)
  (hspec : s.fn H (ds ++ gs) = { results := [.lit (.bool true)], args := ds }) :
  Calls Tryz.prog ctr.f args W fun e W' => ∃ v, e = .returned v ∧ s.post enc Tryz.prog fn apart fresh handsOn again W args v W' := by
 obtain ⟨ms, p, h1, h2, h3⟩ := hrep
 refine (ctr.ok noS W ms args p _ h1 h2 (fun _ h => h.elim) hG h3).mono fun e W' ⟨hE, hh⟩ => ?_
 obtain ⟨v, rfl, hr⟩ : ∃ v, e = .returned v ∧ Rep (Ctx.res noS) W' (.bool true) v := by
  cases e with
  | returned v => exact ⟨v, rfl, hh⟩
  | panicked _ => exact hh.elim
  | outgrown => exact hh.elim
 have hv : v = .bool true := rep_bool hr
 subst hv
 refine ⟨_, rfl, ?_⟩
 have hW' := hW
 obtain ⟨p, q, hA, hV, rfl, _, _⟩ := hW
 rw [hvars] at hV
 obtain ⟨rfl, rfl⟩ : gs = [] ∧ q = [] := trodVars_none hV
 refine post_same (pa := p) (pv := []) hW' (fun _ _ _ => ?_) (fun sp hsp => ?_) (fun _ _ => ?_) rfl (hE.kept _) hE.frz ?_
 ·rw [hspec, hrt]
  exact trodAll_cons_mk (shut_bool Tryz.underlying4 _) trodAll_mk0
 ·rw [hspec]
  exact trodAll_keep hL hE.block sp _ _ _ _ hin hA fun p hp => hsp p (List.mem_append_left _ hp)
 ·rw [hspec, hvars]; rfl
 ·have hw : Value.okWide Tryz.prog W' .any 0 4 (.bool true) := okWide_bool_mk Tryz.underlying4 true
  exact ok_one hrt rfl hw
end
end Go.Proofs.YtnfmjlhkknndhaaGreat
/-
 The frame of the laws of chapter 17: descriptions of forms and of matrices.
-/
namespace Go.Proofs.YtnfmjlhkknndhaaGreat
open Go Go.ChangeShapes Go.WideShapes Go.ChangeAt Go.RowKit
theorem gw0 (W : World) : GW noS W := fun h => by cases h
theorem u8_wf {n : Int} (h : (Lit.int .u8 n).wf = true) : 0 ≤ n ∧ n ≤ 255 := by simpa [Lit.wf, IntKind.min, IntKind.max, IntKind.signed, IntKind.bits] using h
theorem len_5 {cs : List Value} (h : cs.length = 5) : ∃ a b c d e, cs = [a, b, c, d, e] := by
 match cs, h with
 | [a, b, c, d, e], _ => exact ⟨a, b, c, d, e, rfl⟩
theorem cells_u16 : Tryz.prog.cellsOf 22 = 1 := by kernel_rfl
theorem cells_u8 : Tryz.prog.cellsOf 5 = 1 := by kernel_rfl
theorem cells_2u16 : Tryz.prog.cellsOf 23 = 2 := by kernel_rfl
theorem cells_2u8 : Tryz.prog.cellsOf 24 = 2 := by kernel_rfl
theorem cells_r17 : Tryz.prog.cellsOf 26 = 5 := by kernel_rfl
section
variable {H : Type} {enc : TypeId × Value → H} {w : World} {sp : Nat → Bool} {held : Bool}
theorem repc_two {k : IntKind} {t e : TypeId} (hu : Tryz.prog.underlying t = some (.array 2 e)) (he : Tryz.prog.underlying e = some (.int k)) (h1 : Tryz.prog.cellsOf t = 2) (h2 : Tryz.prog.cellsOf e = 1) {fuel : Nat} {cs : List Value} {y : DataW H × List MemPlace} (h : DataW.trod enc Tryz.prog w 0 sp held fuel t cs = some y) :
  ∃ a b, RepC (Ctx.args noS) w (.st [.int k a, .int k b]) cs ∧ (Lit.int k a).wf = true ∧ (Lit.int k b).wf = true := by
 obtain ⟨hl, f', hf⟩ := trod_array hu h
 rw [h1] at hl
 rw [h2] at hf
 obtain ⟨a, b, e⟩ := len_two hl
 rw [e] at hf ⊢
 obtain ⟨y0, g0⟩ := hf 0 (by decide)
 obtain ⟨y1, g1⟩ := hf 1 (by decide)
 obtain ⟨n0, e0, w0⟩ := trod_int he g0
 obtain ⟨n1, e1, w1⟩ := trod_int he g1
 have z0 : [a] = [.int k n0] := e0
 have z1 : [b] = [.int k n1] := e1
 simp only [List.cons.injEq, and_true] at z0 z1
 subst z0 z1
 exact ⟨n0, n1, ⟨_, _, rfl, rfl, _, _, rfl, rfl, rfl⟩, w0, w1⟩
theorem rep_r17 {v : Value} {d : DataW H} {ps : List MemPlace} (h : DataW.Trod enc Tryz.prog w 0 sp held 26 v d ps) :
  ∃ d i0 i1 m0 m1, Rep1 (Ctx.args noS) w (.st [.int .u16 d, .st [.int .u16 i0, .int .u16 i1], .st [.int .u8 m0, .int .u8 m1]]) v ∧ OkX d i0 i1 m0 m1 := by
 obtain ⟨fuel, h⟩ := h
 obtain ⟨hl, f', hf⟩ := trod_fields Tryz.underlying26 h
 rw [cells_r17] at hl
 obtain ⟨a, b, c, e, g, hc⟩ := len_5 hl
 rw [hc] at hf
 obtain ⟨y0, h0⟩ := hf _ (List.mem_cons_self ..)
 obtain ⟨y1, h1⟩ := hf _ (List.mem_cons_of_mem _ (List.mem_cons_self ..))
 obtain ⟨y2, h2⟩ := hf _ (List.mem_cons_of_mem _ (List.mem_cons_of_mem _ (List.mem_cons_self ..)))
 dsimp only at h0 h1 h2
 rw [cells_u16] at h0
 rw [cells_2u16] at h1
 rw [cells_2u8] at h2
 obtain ⟨n0, e0, w0⟩ := trod_int Tryz.underlying22 h0
 have z0 : [a] = [.int .u16 n0] := e0
 simp only [List.cons.injEq, and_true] at z0
 subst z0
 obtain ⟨i0, i1, r1, w1, w2⟩ := repc_two (cs := [b, c]) Tryz.underlying23 Tryz.underlying22 cells_2u16 cells_u16 h1
 obtain ⟨m0, m1, r2, w3, w4⟩ := repc_two (cs := [e, g]) Tryz.underlying24 Tryz.underlying5 cells_2u8 cells_u8 h2
 have k0 := u16_wf w0
 have k1 := u16_wf w1
 have k2 := u16_wf w2
 have k3 := u8_wf w3
 have k4 := u8_wf w4
 exact ⟨n0, i0, i1, m0, m1, (rep1_agg rfl).2 ⟨_, agg_cells hc, [.int .u16 n0], _, rfl, rfl, [b, c], _, rfl, r1, [e, g], _, rfl, r2, rfl⟩, ⟨by omega, by omega, by omega, by omega, by omega, by omega, by omega, by omega, by omega, by omega⟩⟩
end
end Go.Proofs.YtnfmjlhkknndhaaGreat
