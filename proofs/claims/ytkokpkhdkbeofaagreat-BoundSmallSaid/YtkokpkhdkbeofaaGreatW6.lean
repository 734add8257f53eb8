/-
  The frame of the laws of chapter 16: descriptions of fractions.
-/
import Derived.Test.YtkokpkhdkbeofaaGreatW5
import Derived.Test.YtkokpkhdkbeofaaGreatW2
import Derived.Test.YtkokpkhdkbeofaaGreatRows
import Derived.Test.YtkokpkhdkbeofaaGreatW4
import Derived.ProofKit
import Derived.OpenShut
import Derived.JoinedCond
import Derived.LaidMore
import Derived.LaidLaws
import Derived.LaidHandle
import Derived.ChangeVars
import Derived.Stop.Joined
import Derived.ChangeSame
import Derived.MakeChecks


/-
  Contracts of functions: the laws of chapter 16: the examples.
-/
namespace Go.Proofs.YtkokpkhdkbeofaaGreat
open Go Go.RowKit

theorem vc_lex  : (((-9223372036854775808 : Int) ≤ (2 : Int) ∧ (2 : Int) ≤ (9223372036854775807 : Int) ∧ (0 : Int) < (1 : Int) ∧ (1 : Int) ≤ (9223372036854775807 : Int)) ∧ ((64 : Nat) ≤ (10000 : Nat) ∧ (64 : Nat) ≤ (10000 : Nat) ∧ (0 : Int) < redD (2 : Int) (1 : Int)) ∧ ((-9223372036854775808 : Int) ≤ (9 : Int) ∧ (9 : Int) ≤ (9223372036854775807 : Int) ∧ (0 : Int) < (4 : Int) ∧ (4 : Int) ≤ (9223372036854775807 : Int)) ∧ ((64 : Nat) ≤ (10000 : Nat) ∧ (64 : Nat) ≤ (10000 : Nat) ∧ (0 : Int) < redD (9 : Int) (4 : Int)) ∧ ((-9223372036854775808 : Int) ≤ (9 : Int) ∧ (9 : Int) ≤ (9223372036854775807 : Int) ∧ (0 : Int) < (4 : Int) ∧ (4 : Int) ≤ (9223372036854775807 : Int)) ∧ ((64 : Nat) ≤ (10000 : Nat) ∧ (64 : Nat) ≤ (10000 : Nat) ∧ (0 : Int) < redD (9 : Int) (4 : Int)) ∧ ((-9223372036854775808 : Int) ≤ (2 : Int) ∧ (2 : Int) ≤ (9223372036854775807 : Int) ∧ (0 : Int) < (1 : Int) ∧ (1 : Int) ≤ (9223372036854775807 : Int)) ∧ ((64 : Nat) ≤ (10000 : Nat) ∧ (64 : Nat) ≤ (10000 : Nat) ∧ LogOk (redN (2 : Int) (1 : Int)) (redD (2 : Int) (1 : Int)) (4 : Int)) ∧ ((-9223372036854775808 : Int) ≤ (1 : Int) ∧ (1 : Int) ≤ (9223372036854775807 : Int) ∧ (0 : Int) < (2 : Int) ∧ (2 : Int) ≤ (9223372036854775807 : Int)) ∧ ((64 : Nat) ≤ (10000 : Nat) ∧ (64 : Nat) ≤ (10000 : Nat) ∧ LogOk (redN (1 : Int) (2 : Int)) (redD (1 : Int) (2 : Int)) (4 : Int)) ∧ ((-9223372036854775808 : Int) ≤ (1 : Int) ∧ (1 : Int) ≤ (9223372036854775807 : Int) ∧ (0 : Int) < (1 : Int) ∧ (1 : Int) ≤ (9223372036854775807 : Int)) ∧ ((-9223372036854775808 : Int) ≤ (1 : Int) ∧ (1 : Int) ≤ (9223372036854775807 : Int) ∧ (0 : Int) < (1 : Int) ∧ (1 : Int) ≤ (9223372036854775807 : Int)) ∧ ((-9223372036854775808 : Int) ≤ (2 : Int) ∧ (2 : Int) ≤ (9223372036854775807 : Int)) ∧ ((64 : Nat) ≤ (200 : Nat) ∧ (64 : Nat) ≤ (200 : Nat) ∧ (64 : Nat) ≤ (200 : Nat) ∧ (64 : Nat) ≤ (200 : Nat) ∧ (64 : Nat) ≤ (200 : Nat) ∧ QuadOk (redN (1 : Int) (1 : Int)) (redD (1 : Int) (1 : Int)) (redN (1 : Int) (1 : Int)) (redD (1 : Int) (1 : Int)) (2 : Int) (3 : Int)) ∧ ((-9223372036854775808 : Int) ≤ (1 : Int) ∧ (1 : Int) ≤ (9223372036854775807 : Int) ∧ (0 : Int) < (1 : Int) ∧ (1 : Int) ≤ (9223372036854775807 : Int)) ∧ ((-9223372036854775808 : Int) ≤ (-1 : Int) ∧ (-1 : Int) ≤ (9223372036854775807 : Int) ∧ (0 : Int) < (1 : Int) ∧ (1 : Int) ≤ (9223372036854775807 : Int)) ∧ ((-9223372036854775808 : Int) ≤ (2 : Int) ∧ (2 : Int) ≤ (9223372036854775807 : Int)) ∧ ((64 : Nat) ≤ (200 : Nat) ∧ (64 : Nat) ≤ (200 : Nat) ∧ (64 : Nat) ≤ (200 : Nat) ∧ (64 : Nat) ≤ (200 : Nat) ∧ (64 : Nat) ≤ (200 : Nat) ∧ QuadOk (redN (1 : Int) (1 : Int)) (redD (1 : Int) (1 : Int)) (redN (-1 : Int) (1 : Int)) (redD (-1 : Int) (1 : Int)) (2 : Int) (3 : Int)) ∧ ((-9223372036854775808 : Int) ≤ (0 : Int) ∧ (0 : Int) ≤ (9223372036854775807 : Int) ∧ (0 : Int) < (1 : Int) ∧ (1 : Int) ≤ (9223372036854775807 : Int)) ∧ ((64 : Nat) ≤ (10000 : Nat) ∧ (64 : Nat) ≤ (10000 : Nat) ∧ LogOk (redN (0 : Int) (1 : Int)) (redD (0 : Int) (1 : Int)) (3 : Int)) ∧ ((-9223372036854775808 : Int) ≤ (1 : Int) ∧ (1 : Int) ≤ (9223372036854775807 : Int) ∧ (0 : Int) < (1 : Int) ∧ (1 : Int) ≤ (9223372036854775807 : Int)) ∧ ((-9223372036854775808 : Int) ≤ (1 : Int) ∧ (1 : Int) ≤ (9223372036854775807 : Int) ∧ (0 : Int) < (1 : Int) ∧ (1 : Int) ≤ (9223372036854775807 : Int)) ∧ ((-9223372036854775808 : Int) ≤ (4 : Int) ∧ (4 : Int) ≤ (9223372036854775807 : Int)) ∧ ((64 : Nat) ≤ (200 : Nat) ∧ (64 : Nat) ≤ (200 : Nat) ∧ (64 : Nat) ≤ (200 : Nat) ∧ (64 : Nat) ≤ (200 : Nat) ∧ (64 : Nat) ≤ (200 : Nat) ∧ QuadOk (redN (1 : Int) (1 : Int)) (redD (1 : Int) (1 : Int)) (redN (1 : Int) (1 : Int)) (redD (1 : Int) (1 : Int)) (4 : Int) (3 : Int)) ∧ ((-9223372036854775808 : Int) ≤ (0 : Int) ∧ (0 : Int) ≤ (9223372036854775807 : Int) ∧ (0 : Int) < (1 : Int) ∧ (1 : Int) ≤ (9223372036854775807 : Int)) ∧ ((-9223372036854775808 : Int) ≤ (0 : Int) ∧ (0 : Int) ≤ (9223372036854775807 : Int) ∧ (0 : Int) < (1 : Int) ∧ (1 : Int) ≤ (9223372036854775807 : Int)) ∧ ((-9223372036854775808 : Int) ≤ (4 : Int) ∧ (4 : Int) ≤ (9223372036854775807 : Int)) ∧ ((64 : Nat) ≤ (200 : Nat) ∧ (64 : Nat) ≤ (200 : Nat) ∧ (64 : Nat) ≤ (200 : Nat) ∧ (64 : Nat) ≤ (200 : Nat) ∧ (64 : Nat) ≤ (200 : Nat) ∧ QuadOk (redN (0 : Int) (1 : Int)) (redD (0 : Int) (1 : Int)) (redN (0 : Int) (1 : Int)) (redD (0 : Int) (1 : Int)) (4 : Int) (3 : Int)) ∧ ((70000 : Nat) ≤ (200000 : Nat) ∧ (201 : Nat) ≤ (200000 : Nat) ∧ (70001 : Nat) ≤ (200000 : Nat) ∧ (201 : Nat) ≤ (200000 : Nat) ∧ (-9223372036854775808 : Int) ≤ (11 : Int) ∧ (11 : Int) ≤ (9223372036854775807 : Int) ∧ (0 : Int) < (8 : Int) ∧ (8 : Int) ≤ (9223372036854775807 : Int) ∧ (-9223372036854775808 : Int) ≤ (3 : Int) ∧ (3 : Int) ≤ (9223372036854775807 : Int) ∧ (0 : Int) < (2 : Int) ∧ (2 : Int) ≤ (9223372036854775807 : Int)) ∧ ((70000 : Nat) ≤ (200000 : Nat) ∧ (201 : Nat) ≤ (200000 : Nat) ∧ (70001 : Nat) ≤ (200000 : Nat) ∧ (201 : Nat) ≤ (200000 : Nat) ∧ (-9223372036854775808 : Int) ≤ (3 : Int) ∧ (3 : Int) ≤ (9223372036854775807 : Int) ∧ (0 : Int) < (2 : Int) ∧ (2 : Int) ≤ (9223372036854775807 : Int) ∧ (-9223372036854775808 : Int) ≤ (3 : Int) ∧ (3 : Int) ≤ (9223372036854775807 : Int) ∧ (0 : Int) < (2 : Int) ∧ (2 : Int) ≤ (9223372036854775807 : Int)) ∧ ((70000 : Nat) ≤ (200000 : Nat) ∧ (201 : Nat) ≤ (200000 : Nat) ∧ (70001 : Nat) ≤ (200000 : Nat) ∧ (201 : Nat) ≤ (200000 : Nat) ∧ (-9223372036854775808 : Int) ≤ (1 : Int) ∧ (1 : Int) ≤ (9223372036854775807 : Int) ∧ (0 : Int) < (1 : Int) ∧ (1 : Int) ≤ (9223372036854775807 : Int) ∧ (-9223372036854775808 : Int) ≤ (2 : Int) ∧ (2 : Int) ≤ (9223372036854775807 : Int) ∧ (0 : Int) < (1 : Int) ∧ (1 : Int) ≤ (9223372036854775807 : Int)) ∧ ((5000 : Nat) ≤ (200000 : Nat) ∧ (201 : Nat) ≤ (200000 : Nat) ∧ (5001 : Nat) ≤ (200000 : Nat) ∧ (201 : Nat) ≤ (200000 : Nat) ∧ (-9223372036854775808 : Int) ≤ (11 : Int) ∧ (11 : Int) ≤ (9223372036854775807 : Int) ∧ (0 : Int) < (16 : Int) ∧ (16 : Int) ≤ (9223372036854775807 : Int) ∧ (-9223372036854775808 : Int) ≤ (3 : Int) ∧ (3 : Int) ≤ (9223372036854775807 : Int) ∧ (0 : Int) < (4 : Int) ∧ (4 : Int) ≤ (9223372036854775807 : Int)) ∧ ((5000 : Nat) ≤ (200000 : Nat) ∧ (201 : Nat) ≤ (200000 : Nat) ∧ (5001 : Nat) ≤ (200000 : Nat) ∧ (201 : Nat) ≤ (200000 : Nat) ∧ (-9223372036854775808 : Int) ≤ (-3 : Int) ∧ (-3 : Int) ≤ (9223372036854775807 : Int) ∧ (0 : Int) < (4 : Int) ∧ (4 : Int) ≤ (9223372036854775807 : Int) ∧ (-9223372036854775808 : Int) ≤ (-11 : Int) ∧ (-11 : Int) ≤ (9223372036854775807 : Int) ∧ (0 : Int) < (16 : Int) ∧ (16 : Int) ≤ (9223372036854775807 : Int)) ∧ ((10000 : Nat) ≤ (200000 : Nat) ∧ (201 : Nat) ≤ (200000 : Nat) ∧ (10001 : Nat) ≤ (200000 : Nat) ∧ (201 : Nat) ≤ (200000 : Nat) ∧ (-9223372036854775808 : Int) ≤ (7 : Int) ∧ (7 : Int) ≤ (9223372036854775807 : Int) ∧ (0 : Int) < (8 : Int) ∧ (8 : Int) ≤ (9223372036854775807 : Int) ∧ (-9223372036854775808 : Int) ≤ (1 : Int) ∧ (1 : Int) ≤ (9223372036854775807 : Int) ∧ (0 : Int) < (1 : Int) ∧ (1 : Int) ≤ (9223372036854775807 : Int)) ∧ ((10000 : Nat) ≤ (200000 : Nat) ∧ (201 : Nat) ≤ (200000 : Nat) ∧ (10001 : Nat) ≤ (200000 : Nat) ∧ (201 : Nat) ≤ (200000 : Nat) ∧ (-9223372036854775808 : Int) ≤ (-1 : Int) ∧ (-1 : Int) ≤ (9223372036854775807 : Int) ∧ (0 : Int) < (1 : Int) ∧ (1 : Int) ≤ (9223372036854775807 : Int) ∧ (-9223372036854775808 : Int) ≤ (-7 : Int) ∧ (-7 : Int) ≤ (9223372036854775807 : Int) ∧ (0 : Int) < (8 : Int) ∧ (8 : Int) ≤ (9223372036854775807 : Int)) ∧ decide (redN (Option.getD (quadS (redN (1 : Int) (1 : Int)) (redD (1 : Int) (1 : Int)) (redN (-1 : Int) (1 : Int)) (redD (-1 : Int) (1 : Int)) (2 : Int) (3 : Int)) (0 : Int)) ((2 : Int) ^ Int.toNat (3 : Int)) = redN (-1 : Int) (1 : Int) ∧ redD (Option.getD (quadS (redN (1 : Int) (1 : Int)) (redD (1 : Int) (1 : Int)) (redN (-1 : Int) (1 : Int)) (redD (-1 : Int) (1 : Int)) (2 : Int) (3 : Int)) (0 : Int)) ((2 : Int) ^ Int.toNat (3 : Int)) = redD (-1 : Int) (1 : Int) ∧ redN (Option.getD (quadS (redN (1 : Int) (1 : Int)) (redD (1 : Int) (1 : Int)) (redN (-1 : Int) (1 : Int)) (redD (-1 : Int) (1 : Int)) (2 : Int) (3 : Int)) (0 : Int) + (1 : Int)) ((2 : Int) ^ Int.toNat (3 : Int)) = redN (-7 : Int) (8 : Int) ∧ redD (Option.getD (quadS (redN (1 : Int) (1 : Int)) (redD (1 : Int) (1 : Int)) (redN (-1 : Int) (1 : Int)) (redD (-1 : Int) (1 : Int)) (2 : Int) (3 : Int)) (0 : Int) + (1 : Int)) ((2 : Int) ^ Int.toNat (3 : Int)) = redD (-7 : Int) (8 : Int)) = true) = evFn (env [c_fof, c_sqrtU, c_logU, c_quad, c_rof, c_lis] noAnn) Tryz.f9 [] (MRes.sat (.ret (.bool true))) := by kernel_rfl
theorem ok_log1 : LogOk (redN 2 1) (redD 2 1) 4 := ⟨by decide +kernel, fun _ _ _ _ => by decide +kernel⟩
theorem ok_log2 : LogOk (redN 1 2) (redD 1 2) 4 := ⟨by decide +kernel, fun _ _ _ _ => by decide +kernel⟩
theorem ok_log3 : LogOk (redN 0 1) (redD 0 1) 3 := ⟨by decide +kernel, fun _ _ h _ => absurd h (by decide +kernel)⟩
theorem ok_quad1 : QuadOk (redN 1 1) (redD 1 1) (redN 1 1) (redD 1 1) 2 3 := ⟨by decide +kernel, by decide +kernel, fun h => absurd h (by decide +kernel), fun _ _ _ h => absurd h (by decide +kernel), fun _ _ _ _ => by decide +kernel⟩
theorem ok_quad2 : QuadOk (redN 1 1) (redD 1 1) (redN (-1) 1) (redD (-1) 1) 2 3 := ⟨by decide +kernel, by decide +kernel, fun h => absurd h (by decide +kernel), fun _ _ _ _ => ⟨by decide +kernel, by decide +kernel⟩, fun _ _ _ h => absurd (by decide +kernel) h⟩
theorem ok_quad3 : QuadOk (redN 1 1) (redD 1 1) (redN 1 1) (redD 1 1) 4 3 := ⟨by decide +kernel, by decide +kernel, fun h => absurd h (by decide +kernel), fun _ h => absurd (show badD 4 by decide +kernel) h, fun _ h => absurd (show badD 4 by decide +kernel) h⟩
theorem ok_quad4 : QuadOk (redN 0 1) (redD 0 1) (redN 0 1) (redD 0 1) 4 3 := ⟨by decide +kernel, by decide +kernel, fun _ => ⟨by decide +kernel, fun _ _ h _ => absurd h (by decide +kernel)⟩, fun _ h => absurd (show badD 4 by decide +kernel) h, fun _ h => absurd (show badD 4 by decide +kernel) h⟩
def s_lex : FSpec
  | [] => some (none, .ret (.bool true))
  | _ => none
theorem p_lex : Good Tryz.f9 s_lex := by
  intro ms p r h hp
  unfold s_lex at h
  split at h
  · simp only [Option.some.injEq, Prod.mk.injEq] at h
    obtain ⟨rfl, rfl⟩ := h
    refine ⟨env [c_fof, c_sqrtU, c_logU, c_quad, c_rof, c_lis] noAnn, ?_⟩
    rw [← vc_lex]
    have hd : 0 < redD 2 1 ∧ 0 < redD 9 4 := by decide +kernel
    refine ⟨by omega, ⟨by omega, by omega, hd.1⟩, by omega, ⟨by omega, by omega, hd.2⟩, by omega, ⟨by omega, by omega, hd.2⟩, by omega, ⟨by omega, by omega, ok_log1⟩, by omega, ⟨by omega, by omega, ok_log2⟩, by omega, by omega, by omega, ⟨by omega, by omega, by omega, by omega, by omega, ok_quad1⟩, by omega, by omega, by omega, ⟨by omega, by omega, by omega, by omega, by omega, ok_quad2⟩,
      by omega, ⟨by omega, by omega, ok_log3⟩, by omega, by omega, by omega, ⟨by omega, by omega, by omega, by omega, by omega, ok_quad3⟩, by omega, by omega, by omega, ⟨by omega, by omega, by omega, by omega, by omega, ok_quad4⟩, by omega, by omega, by omega, by omega, by omega, by omega, by omega, by decide +kernel⟩
  · simp at h
def c_lex : Ctr Tryz.prog := ⟨9, s_lex, fun args w => Tryz.call9 args w, fn_ok mix Tryz.func9 s_lex p_lex⟩

def s_roots : FSpec
  | [.st [.st [.bool _, .ws l], .st [.bool _, .ws r]], .int .u8 k] => some (some ((Wd l ∧ l.length < 9223372036854775808) ∧ (Wd r ∧ r.length < 9223372036854775808) ∧ (0 ≤ k ∧ k ≤ 255)), .ret (.bool true))
  | _ => none
theorem vc_broots (s t : Bool) (l r : List Int) (k : Nat) : (((∀ (x : Int), x ∈ l → (0 : Int) ≤ x ∧ x < (4294967296 : Int)) ∧ (∀ (x : Int), x ∈ r → (0 : Int) ≤ x ∧ x < (4294967296 : Int)) ∧ (0 : Int) ≤ (4 : Int) ∧ (4 : Int) ≤ (1000 : Int) ∧ List.length l < (9223372036854775808 : Nat) ∧ List.length r < (9223372036854775808 : Nat)) ∧ ((201 : Int) = (0 : Int) → False) ∧ ((32 : Nat) * Int.toNat (4 : Int) ≤ (10000 : Nat) ∧ (32 : Nat) * Int.toNat (4 : Int) + (64 : Nat) ≤ (10000 : Nat) ∧ (0 : Int) < redD (madeI s l (Int.toNat (4 : Int))) (if Int.natAbs (madeI t r (Int.toNat (4 : Int))) = (0 : Nat) then (1 : Int) else (↑(Int.natAbs (madeI t r (Int.toNat (4 : Int)))) : Int))) ∧ bif decide (redN (madeI s l (Int.toNat (4 : Int))) (if Int.natAbs (madeI t r (Int.toNat (4 : Int))) = (0 : Nat) then (1 : Int) else (↑(Int.natAbs (madeI t r (Int.toNat (4 : Int)))) : Int)) < (0 : Int)) then (Iv.e (sqrtV (redN (madeI s l (Int.toNat (4 : Int))) (if Int.natAbs (madeI t r (Int.toNat (4 : Int))) = (0 : Nat) then (1 : Int) else (↑(Int.natAbs (madeI t r (Int.toNat (4 : Int)))) : Int))) (redD (madeI s l (Int.toNat (4 : Int))) (if Int.natAbs (madeI t r (Int.toNat (4 : Int))) = (0 : Nat) then (1 : Int) else (↑(Int.natAbs (madeI t r (Int.toNat (4 : Int)))) : Int))) (Int.tmod (IntKind.wrap IntKind.i64 (↑k : Int)) (201 : Int))) == (1 : Int)) = true else bif Iv.e (sqrtV (redN (madeI s l (Int.toNat (4 : Int))) (if Int.natAbs (madeI t r (Int.toNat (4 : Int))) = (0 : Nat) then (1 : Int) else (↑(Int.natAbs (madeI t r (Int.toNat (4 : Int)))) : Int))) (redD (madeI s l (Int.toNat (4 : Int))) (if Int.natAbs (madeI t r (Int.toNat (4 : Int))) = (0 : Nat) then (1 : Int) else (↑(Int.natAbs (madeI t r (Int.toNat (4 : Int)))) : Int))) (Int.tmod (IntKind.wrap IntKind.i64 (↑k : Int)) (201 : Int))) != (0 : Int) then false = true else ((70000 : Nat) ≤ (200000 : Nat) ∧ (201 : Nat) ≤ (200000 : Nat) ∧ (70001 : Nat) ≤ (200000 : Nat) ∧ (201 : Nat) ≤ (200000 : Nat)) ∧ bif !decide (((0 : Int) < Iv.b (sqrtV (redN (madeI s l (Int.toNat (4 : Int))) (if Int.natAbs (madeI t r (Int.toNat (4 : Int))) = (0 : Nat) then (1 : Int) else (↑(Int.natAbs (madeI t r (Int.toNat (4 : Int)))) : Int))) (redD (madeI s l (Int.toNat (4 : Int))) (if Int.natAbs (madeI t r (Int.toNat (4 : Int))) = (0 : Nat) then (1 : Int) else (↑(Int.natAbs (madeI t r (Int.toNat (4 : Int)))) : Int))) (Int.tmod (IntKind.wrap IntKind.i64 (↑k : Int)) (201 : Int))) ∧ Int.gcd (Iv.a (sqrtV (redN (madeI s l (Int.toNat (4 : Int))) (if Int.natAbs (madeI t r (Int.toNat (4 : Int))) = (0 : Nat) then (1 : Int) else (↑(Int.natAbs (madeI t r (Int.toNat (4 : Int)))) : Int))) (redD (madeI s l (Int.toNat (4 : Int))) (if Int.natAbs (madeI t r (Int.toNat (4 : Int))) = (0 : Nat) then (1 : Int) else (↑(Int.natAbs (madeI t r (Int.toNat (4 : Int)))) : Int))) (Int.tmod (IntKind.wrap IntKind.i64 (↑k : Int)) (201 : Int)))) (Iv.b (sqrtV (redN (madeI s l (Int.toNat (4 : Int))) (if Int.natAbs (madeI t r (Int.toNat (4 : Int))) = (0 : Nat) then (1 : Int) else (↑(Int.natAbs (madeI t r (Int.toNat (4 : Int)))) : Int))) (redD (madeI s l (Int.toNat (4 : Int))) (if Int.natAbs (madeI t r (Int.toNat (4 : Int))) = (0 : Nat) then (1 : Int) else (↑(Int.natAbs (madeI t r (Int.toNat (4 : Int)))) : Int))) (Int.tmod (IntKind.wrap IntKind.i64 (↑k : Int)) (201 : Int)))) = (1 : Nat)) ∧ ((0 : Int) < Iv.d (sqrtV (redN (madeI s l (Int.toNat (4 : Int))) (if Int.natAbs (madeI t r (Int.toNat (4 : Int))) = (0 : Nat) then (1 : Int) else (↑(Int.natAbs (madeI t r (Int.toNat (4 : Int)))) : Int))) (redD (madeI s l (Int.toNat (4 : Int))) (if Int.natAbs (madeI t r (Int.toNat (4 : Int))) = (0 : Nat) then (1 : Int) else (↑(Int.natAbs (madeI t r (Int.toNat (4 : Int)))) : Int))) (Int.tmod (IntKind.wrap IntKind.i64 (↑k : Int)) (201 : Int))) ∧ Int.gcd (Iv.c (sqrtV (redN (madeI s l (Int.toNat (4 : Int))) (if Int.natAbs (madeI t r (Int.toNat (4 : Int))) = (0 : Nat) then (1 : Int) else (↑(Int.natAbs (madeI t r (Int.toNat (4 : Int)))) : Int))) (redD (madeI s l (Int.toNat (4 : Int))) (if Int.natAbs (madeI t r (Int.toNat (4 : Int))) = (0 : Nat) then (1 : Int) else (↑(Int.natAbs (madeI t r (Int.toNat (4 : Int)))) : Int))) (Int.tmod (IntKind.wrap IntKind.i64 (↑k : Int)) (201 : Int)))) (Iv.d (sqrtV (redN (madeI s l (Int.toNat (4 : Int))) (if Int.natAbs (madeI t r (Int.toNat (4 : Int))) = (0 : Nat) then (1 : Int) else (↑(Int.natAbs (madeI t r (Int.toNat (4 : Int)))) : Int))) (redD (madeI s l (Int.toNat (4 : Int))) (if Int.natAbs (madeI t r (Int.toNat (4 : Int))) = (0 : Nat) then (1 : Int) else (↑(Int.natAbs (madeI t r (Int.toNat (4 : Int)))) : Int))) (Int.tmod (IntKind.wrap IntKind.i64 (↑k : Int)) (201 : Int)))) = (1 : Nat)) ∧ Iv.a (sqrtV (redN (madeI s l (Int.toNat (4 : Int))) (if Int.natAbs (madeI t r (Int.toNat (4 : Int))) = (0 : Nat) then (1 : Int) else (↑(Int.natAbs (madeI t r (Int.toNat (4 : Int)))) : Int))) (redD (madeI s l (Int.toNat (4 : Int))) (if Int.natAbs (madeI t r (Int.toNat (4 : Int))) = (0 : Nat) then (1 : Int) else (↑(Int.natAbs (madeI t r (Int.toNat (4 : Int)))) : Int))) (Int.tmod (IntKind.wrap IntKind.i64 (↑k : Int)) (201 : Int))) * Iv.d (sqrtV (redN (madeI s l (Int.toNat (4 : Int))) (if Int.natAbs (madeI t r (Int.toNat (4 : Int))) = (0 : Nat) then (1 : Int) else (↑(Int.natAbs (madeI t r (Int.toNat (4 : Int)))) : Int))) (redD (madeI s l (Int.toNat (4 : Int))) (if Int.natAbs (madeI t r (Int.toNat (4 : Int))) = (0 : Nat) then (1 : Int) else (↑(Int.natAbs (madeI t r (Int.toNat (4 : Int)))) : Int))) (Int.tmod (IntKind.wrap IntKind.i64 (↑k : Int)) (201 : Int))) ≤ Iv.c (sqrtV (redN (madeI s l (Int.toNat (4 : Int))) (if Int.natAbs (madeI t r (Int.toNat (4 : Int))) = (0 : Nat) then (1 : Int) else (↑(Int.natAbs (madeI t r (Int.toNat (4 : Int)))) : Int))) (redD (madeI s l (Int.toNat (4 : Int))) (if Int.natAbs (madeI t r (Int.toNat (4 : Int))) = (0 : Nat) then (1 : Int) else (↑(Int.natAbs (madeI t r (Int.toNat (4 : Int)))) : Int))) (Int.tmod (IntKind.wrap IntKind.i64 (↑k : Int)) (201 : Int))) * Iv.b (sqrtV (redN (madeI s l (Int.toNat (4 : Int))) (if Int.natAbs (madeI t r (Int.toNat (4 : Int))) = (0 : Nat) then (1 : Int) else (↑(Int.natAbs (madeI t r (Int.toNat (4 : Int)))) : Int))) (redD (madeI s l (Int.toNat (4 : Int))) (if Int.natAbs (madeI t r (Int.toNat (4 : Int))) = (0 : Nat) then (1 : Int) else (↑(Int.natAbs (madeI t r (Int.toNat (4 : Int)))) : Int))) (Int.tmod (IntKind.wrap IntKind.i64 (↑k : Int)) (201 : Int)))) then false = true else bif decide (Iv.a (sqrtV (redN (madeI s l (Int.toNat (4 : Int))) (if Int.natAbs (madeI t r (Int.toNat (4 : Int))) = (0 : Nat) then (1 : Int) else (↑(Int.natAbs (madeI t r (Int.toNat (4 : Int)))) : Int))) (redD (madeI s l (Int.toNat (4 : Int))) (if Int.natAbs (madeI t r (Int.toNat (4 : Int))) = (0 : Nat) then (1 : Int) else (↑(Int.natAbs (madeI t r (Int.toNat (4 : Int)))) : Int))) (Int.tmod (IntKind.wrap IntKind.i64 (↑k : Int)) (201 : Int))) < (0 : Int)) then false = true else ((-9223372036854775808 : Int) ≤ (1 : Int) ∧ (1 : Int) ≤ (9223372036854775807 : Int) ∧ (0 : Int) < (1 : Int) ∧ (1 : Int) ≤ (9223372036854775807 : Int)) ∧ ((-9223372036854775808 : Int) ≤ (1 : Int) ∧ (1 : Int) ≤ (9223372036854775807 : Int)) ∧ ((64 : Nat) ≤ (100000 : Nat) ∧ (0 : Int) ≤ Int.tmod (IntKind.wrap IntKind.i64 (↑k : Int)) (201 : Int) ∧ Int.tmod (IntKind.wrap IntKind.i64 (↑k : Int)) (201 : Int) ≤ (100000 : Int)) ∧ ((70000 : Nat) ≤ (200000 : Nat) ∧ (201 : Nat) ≤ (200000 : Nat) ∧ (70000 : Nat) ≤ (200000 : Nat) ∧ (201 : Nat) ≤ (200000 : Nat) ∧ (0 : Int) < Iv.b (sqrtV (redN (madeI s l (Int.toNat (4 : Int))) (if Int.natAbs (madeI t r (Int.toNat (4 : Int))) = (0 : Nat) then (1 : Int) else (↑(Int.natAbs (madeI t r (Int.toNat (4 : Int)))) : Int))) (redD (madeI s l (Int.toNat (4 : Int))) (if Int.natAbs (madeI t r (Int.toNat (4 : Int))) = (0 : Nat) then (1 : Int) else (↑(Int.natAbs (madeI t r (Int.toNat (4 : Int)))) : Int))) (Int.tmod (IntKind.wrap IntKind.i64 (↑k : Int)) (201 : Int))) ∧ (0 : Int) < Iv.b (sqrtV (redN (madeI s l (Int.toNat (4 : Int))) (if Int.natAbs (madeI t r (Int.toNat (4 : Int))) = (0 : Nat) then (1 : Int) else (↑(Int.natAbs (madeI t r (Int.toNat (4 : Int)))) : Int))) (redD (madeI s l (Int.toNat (4 : Int))) (if Int.natAbs (madeI t r (Int.toNat (4 : Int))) = (0 : Nat) then (1 : Int) else (↑(Int.natAbs (madeI t r (Int.toNat (4 : Int)))) : Int))) (Int.tmod (IntKind.wrap IntKind.i64 (↑k : Int)) (201 : Int)))) ∧ ((70000 : Nat) + (70000 : Nat) ≤ (200000 : Nat) ∧ (201 : Nat) + (201 : Nat) ≤ (200000 : Nat) ∧ (32 : Nat) * Int.toNat (4 : Int) ≤ (200000 : Nat) ∧ (32 : Nat) * Int.toNat (4 : Int) + (64 : Nat) ≤ (200000 : Nat)) ∧ bif decide (icmp (redN (Iv.a (sqrtV (redN (madeI s l (Int.toNat (4 : Int))) (if Int.natAbs (madeI t r (Int.toNat (4 : Int))) = (0 : Nat) then (1 : Int) else (↑(Int.natAbs (madeI t r (Int.toNat (4 : Int)))) : Int))) (redD (madeI s l (Int.toNat (4 : Int))) (if Int.natAbs (madeI t r (Int.toNat (4 : Int))) = (0 : Nat) then (1 : Int) else (↑(Int.natAbs (madeI t r (Int.toNat (4 : Int)))) : Int))) (Int.tmod (IntKind.wrap IntKind.i64 (↑k : Int)) (201 : Int))) * Iv.a (sqrtV (redN (madeI s l (Int.toNat (4 : Int))) (if Int.natAbs (madeI t r (Int.toNat (4 : Int))) = (0 : Nat) then (1 : Int) else (↑(Int.natAbs (madeI t r (Int.toNat (4 : Int)))) : Int))) (redD (madeI s l (Int.toNat (4 : Int))) (if Int.natAbs (madeI t r (Int.toNat (4 : Int))) = (0 : Nat) then (1 : Int) else (↑(Int.natAbs (madeI t r (Int.toNat (4 : Int)))) : Int))) (Int.tmod (IntKind.wrap IntKind.i64 (↑k : Int)) (201 : Int)))) (Iv.b (sqrtV (redN (madeI s l (Int.toNat (4 : Int))) (if Int.natAbs (madeI t r (Int.toNat (4 : Int))) = (0 : Nat) then (1 : Int) else (↑(Int.natAbs (madeI t r (Int.toNat (4 : Int)))) : Int))) (redD (madeI s l (Int.toNat (4 : Int))) (if Int.natAbs (madeI t r (Int.toNat (4 : Int))) = (0 : Nat) then (1 : Int) else (↑(Int.natAbs (madeI t r (Int.toNat (4 : Int)))) : Int))) (Int.tmod (IntKind.wrap IntKind.i64 (↑k : Int)) (201 : Int))) * Iv.b (sqrtV (redN (madeI s l (Int.toNat (4 : Int))) (if Int.natAbs (madeI t r (Int.toNat (4 : Int))) = (0 : Nat) then (1 : Int) else (↑(Int.natAbs (madeI t r (Int.toNat (4 : Int)))) : Int))) (redD (madeI s l (Int.toNat (4 : Int))) (if Int.natAbs (madeI t r (Int.toNat (4 : Int))) = (0 : Nat) then (1 : Int) else (↑(Int.natAbs (madeI t r (Int.toNat (4 : Int)))) : Int))) (Int.tmod (IntKind.wrap IntKind.i64 (↑k : Int)) (201 : Int)))) * redD (madeI s l (Int.toNat (4 : Int))) (if Int.natAbs (madeI t r (Int.toNat (4 : Int))) = (0 : Nat) then (1 : Int) else (↑(Int.natAbs (madeI t r (Int.toNat (4 : Int)))) : Int))) (redN (madeI s l (Int.toNat (4 : Int))) (if Int.natAbs (madeI t r (Int.toNat (4 : Int))) = (0 : Nat) then (1 : Int) else (↑(Int.natAbs (madeI t r (Int.toNat (4 : Int)))) : Int)) * redD (Iv.a (sqrtV (redN (madeI s l (Int.toNat (4 : Int))) (if Int.natAbs (madeI t r (Int.toNat (4 : Int))) = (0 : Nat) then (1 : Int) else (↑(Int.natAbs (madeI t r (Int.toNat (4 : Int)))) : Int))) (redD (madeI s l (Int.toNat (4 : Int))) (if Int.natAbs (madeI t r (Int.toNat (4 : Int))) = (0 : Nat) then (1 : Int) else (↑(Int.natAbs (madeI t r (Int.toNat (4 : Int)))) : Int))) (Int.tmod (IntKind.wrap IntKind.i64 (↑k : Int)) (201 : Int))) * Iv.a (sqrtV (redN (madeI s l (Int.toNat (4 : Int))) (if Int.natAbs (madeI t r (Int.toNat (4 : Int))) = (0 : Nat) then (1 : Int) else (↑(Int.natAbs (madeI t r (Int.toNat (4 : Int)))) : Int))) (redD (madeI s l (Int.toNat (4 : Int))) (if Int.natAbs (madeI t r (Int.toNat (4 : Int))) = (0 : Nat) then (1 : Int) else (↑(Int.natAbs (madeI t r (Int.toNat (4 : Int)))) : Int))) (Int.tmod (IntKind.wrap IntKind.i64 (↑k : Int)) (201 : Int)))) (Iv.b (sqrtV (redN (madeI s l (Int.toNat (4 : Int))) (if Int.natAbs (madeI t r (Int.toNat (4 : Int))) = (0 : Nat) then (1 : Int) else (↑(Int.natAbs (madeI t r (Int.toNat (4 : Int)))) : Int))) (redD (madeI s l (Int.toNat (4 : Int))) (if Int.natAbs (madeI t r (Int.toNat (4 : Int))) = (0 : Nat) then (1 : Int) else (↑(Int.natAbs (madeI t r (Int.toNat (4 : Int)))) : Int))) (Int.tmod (IntKind.wrap IntKind.i64 (↑k : Int)) (201 : Int))) * Iv.b (sqrtV (redN (madeI s l (Int.toNat (4 : Int))) (if Int.natAbs (madeI t r (Int.toNat (4 : Int))) = (0 : Nat) then (1 : Int) else (↑(Int.natAbs (madeI t r (Int.toNat (4 : Int)))) : Int))) (redD (madeI s l (Int.toNat (4 : Int))) (if Int.natAbs (madeI t r (Int.toNat (4 : Int))) = (0 : Nat) then (1 : Int) else (↑(Int.natAbs (madeI t r (Int.toNat (4 : Int)))) : Int))) (Int.tmod (IntKind.wrap IntKind.i64 (↑k : Int)) (201 : Int))))) > (0 : Int)) then false = true else ((70000 : Nat) ≤ (200000 : Nat) ∧ (201 : Nat) ≤ (200000 : Nat) ∧ (64 : Nat) + Int.toNat (Int.tmod (IntKind.wrap IntKind.i64 (↑k : Int)) (201 : Int)) ≤ (200000 : Nat) ∧ (64 : Nat) ≤ (200000 : Nat) ∧ (0 : Int) < Iv.b (sqrtV (redN (madeI s l (Int.toNat (4 : Int))) (if Int.natAbs (madeI t r (Int.toNat (4 : Int))) = (0 : Nat) then (1 : Int) else (↑(Int.natAbs (madeI t r (Int.toNat (4 : Int)))) : Int))) (redD (madeI s l (Int.toNat (4 : Int))) (if Int.natAbs (madeI t r (Int.toNat (4 : Int))) = (0 : Nat) then (1 : Int) else (↑(Int.natAbs (madeI t r (Int.toNat (4 : Int)))) : Int))) (Int.tmod (IntKind.wrap IntKind.i64 (↑k : Int)) (201 : Int))) ∧ (0 : Int) < (1 : Int)) ∧ ((-9223372036854775808 : Int) ≤ (1 : Int) ∧ (1 : Int) ≤ (9223372036854775807 : Int)) ∧ ((201 : Nat) + (64 : Nat) ≤ (1000000 : Nat) ∧ (64 : Nat) ≤ (1000000 : Nat)) ∧ bif !decide (redD (Iv.a (sqrtV (redN (madeI s l (Int.toNat (4 : Int))) (if Int.natAbs (madeI t r (Int.toNat (4 : Int))) = (0 : Nat) then (1 : Int) else (↑(Int.natAbs (madeI t r (Int.toNat (4 : Int)))) : Int))) (redD (madeI s l (Int.toNat (4 : Int))) (if Int.natAbs (madeI t r (Int.toNat (4 : Int))) = (0 : Nat) then (1 : Int) else (↑(Int.natAbs (madeI t r (Int.toNat (4 : Int)))) : Int))) (Int.tmod (IntKind.wrap IntKind.i64 (↑k : Int)) (201 : Int))) * ((1 : Int) * (2 : Int) ^ Int.toNat (Int.tmod (IntKind.wrap IntKind.i64 (↑k : Int)) (201 : Int)))) (Iv.b (sqrtV (redN (madeI s l (Int.toNat (4 : Int))) (if Int.natAbs (madeI t r (Int.toNat (4 : Int))) = (0 : Nat) then (1 : Int) else (↑(Int.natAbs (madeI t r (Int.toNat (4 : Int)))) : Int))) (redD (madeI s l (Int.toNat (4 : Int))) (if Int.natAbs (madeI t r (Int.toNat (4 : Int))) = (0 : Nat) then (1 : Int) else (↑(Int.natAbs (madeI t r (Int.toNat (4 : Int)))) : Int))) (Int.tmod (IntKind.wrap IntKind.i64 (↑k : Int)) (201 : Int))) * (1 : Int)) = (1 : Int)) then false = true else bif icmp (redN (Iv.a (sqrtV (redN (madeI s l (Int.toNat (4 : Int))) (if Int.natAbs (madeI t r (Int.toNat (4 : Int))) = (0 : Nat) then (1 : Int) else (↑(Int.natAbs (madeI t r (Int.toNat (4 : Int)))) : Int))) (redD (madeI s l (Int.toNat (4 : Int))) (if Int.natAbs (madeI t r (Int.toNat (4 : Int))) = (0 : Nat) then (1 : Int) else (↑(Int.natAbs (madeI t r (Int.toNat (4 : Int)))) : Int))) (Int.tmod (IntKind.wrap IntKind.i64 (↑k : Int)) (201 : Int))) * Iv.a (sqrtV (redN (madeI s l (Int.toNat (4 : Int))) (if Int.natAbs (madeI t r (Int.toNat (4 : Int))) = (0 : Nat) then (1 : Int) else (↑(Int.natAbs (madeI t r (Int.toNat (4 : Int)))) : Int))) (redD (madeI s l (Int.toNat (4 : Int))) (if Int.natAbs (madeI t r (Int.toNat (4 : Int))) = (0 : Nat) then (1 : Int) else (↑(Int.natAbs (madeI t r (Int.toNat (4 : Int)))) : Int))) (Int.tmod (IntKind.wrap IntKind.i64 (↑k : Int)) (201 : Int)))) (Iv.b (sqrtV (redN (madeI s l (Int.toNat (4 : Int))) (if Int.natAbs (madeI t r (Int.toNat (4 : Int))) = (0 : Nat) then (1 : Int) else (↑(Int.natAbs (madeI t r (Int.toNat (4 : Int)))) : Int))) (redD (madeI s l (Int.toNat (4 : Int))) (if Int.natAbs (madeI t r (Int.toNat (4 : Int))) = (0 : Nat) then (1 : Int) else (↑(Int.natAbs (madeI t r (Int.toNat (4 : Int)))) : Int))) (Int.tmod (IntKind.wrap IntKind.i64 (↑k : Int)) (201 : Int))) * Iv.b (sqrtV (redN (madeI s l (Int.toNat (4 : Int))) (if Int.natAbs (madeI t r (Int.toNat (4 : Int))) = (0 : Nat) then (1 : Int) else (↑(Int.natAbs (madeI t r (Int.toNat (4 : Int)))) : Int))) (redD (madeI s l (Int.toNat (4 : Int))) (if Int.natAbs (madeI t r (Int.toNat (4 : Int))) = (0 : Nat) then (1 : Int) else (↑(Int.natAbs (madeI t r (Int.toNat (4 : Int)))) : Int))) (Int.tmod (IntKind.wrap IntKind.i64 (↑k : Int)) (201 : Int)))) * redD (madeI s l (Int.toNat (4 : Int))) (if Int.natAbs (madeI t r (Int.toNat (4 : Int))) = (0 : Nat) then (1 : Int) else (↑(Int.natAbs (madeI t r (Int.toNat (4 : Int)))) : Int))) (redN (madeI s l (Int.toNat (4 : Int))) (if Int.natAbs (madeI t r (Int.toNat (4 : Int))) = (0 : Nat) then (1 : Int) else (↑(Int.natAbs (madeI t r (Int.toNat (4 : Int)))) : Int)) * redD (Iv.a (sqrtV (redN (madeI s l (Int.toNat (4 : Int))) (if Int.natAbs (madeI t r (Int.toNat (4 : Int))) = (0 : Nat) then (1 : Int) else (↑(Int.natAbs (madeI t r (Int.toNat (4 : Int)))) : Int))) (redD (madeI s l (Int.toNat (4 : Int))) (if Int.natAbs (madeI t r (Int.toNat (4 : Int))) = (0 : Nat) then (1 : Int) else (↑(Int.natAbs (madeI t r (Int.toNat (4 : Int)))) : Int))) (Int.tmod (IntKind.wrap IntKind.i64 (↑k : Int)) (201 : Int))) * Iv.a (sqrtV (redN (madeI s l (Int.toNat (4 : Int))) (if Int.natAbs (madeI t r (Int.toNat (4 : Int))) = (0 : Nat) then (1 : Int) else (↑(Int.natAbs (madeI t r (Int.toNat (4 : Int)))) : Int))) (redD (madeI s l (Int.toNat (4 : Int))) (if Int.natAbs (madeI t r (Int.toNat (4 : Int))) = (0 : Nat) then (1 : Int) else (↑(Int.natAbs (madeI t r (Int.toNat (4 : Int)))) : Int))) (Int.tmod (IntKind.wrap IntKind.i64 (↑k : Int)) (201 : Int)))) (Iv.b (sqrtV (redN (madeI s l (Int.toNat (4 : Int))) (if Int.natAbs (madeI t r (Int.toNat (4 : Int))) = (0 : Nat) then (1 : Int) else (↑(Int.natAbs (madeI t r (Int.toNat (4 : Int)))) : Int))) (redD (madeI s l (Int.toNat (4 : Int))) (if Int.natAbs (madeI t r (Int.toNat (4 : Int))) = (0 : Nat) then (1 : Int) else (↑(Int.natAbs (madeI t r (Int.toNat (4 : Int)))) : Int))) (Int.tmod (IntKind.wrap IntKind.i64 (↑k : Int)) (201 : Int))) * Iv.b (sqrtV (redN (madeI s l (Int.toNat (4 : Int))) (if Int.natAbs (madeI t r (Int.toNat (4 : Int))) = (0 : Nat) then (1 : Int) else (↑(Int.natAbs (madeI t r (Int.toNat (4 : Int)))) : Int))) (redD (madeI s l (Int.toNat (4 : Int))) (if Int.natAbs (madeI t r (Int.toNat (4 : Int))) = (0 : Nat) then (1 : Int) else (↑(Int.natAbs (madeI t r (Int.toNat (4 : Int)))) : Int))) (Int.tmod (IntKind.wrap IntKind.i64 (↑k : Int)) (201 : Int))))) == (0 : Int) then ((70000 : Nat) ≤ (200000 : Nat) ∧ (201 : Nat) ≤ (200000 : Nat) ∧ (70001 : Nat) ≤ (200000 : Nat) ∧ (201 : Nat) ≤ (200000 : Nat)) ∧ decide (Iv.a (sqrtV (redN (madeI s l (Int.toNat (4 : Int))) (if Int.natAbs (madeI t r (Int.toNat (4 : Int))) = (0 : Nat) then (1 : Int) else (↑(Int.natAbs (madeI t r (Int.toNat (4 : Int)))) : Int))) (redD (madeI s l (Int.toNat (4 : Int))) (if Int.natAbs (madeI t r (Int.toNat (4 : Int))) = (0 : Nat) then (1 : Int) else (↑(Int.natAbs (madeI t r (Int.toNat (4 : Int)))) : Int))) (Int.tmod (IntKind.wrap IntKind.i64 (↑k : Int)) (201 : Int))) = Iv.c (sqrtV (redN (madeI s l (Int.toNat (4 : Int))) (if Int.natAbs (madeI t r (Int.toNat (4 : Int))) = (0 : Nat) then (1 : Int) else (↑(Int.natAbs (madeI t r (Int.toNat (4 : Int)))) : Int))) (redD (madeI s l (Int.toNat (4 : Int))) (if Int.natAbs (madeI t r (Int.toNat (4 : Int))) = (0 : Nat) then (1 : Int) else (↑(Int.natAbs (madeI t r (Int.toNat (4 : Int)))) : Int))) (Int.tmod (IntKind.wrap IntKind.i64 (↑k : Int)) (201 : Int))) ∧ Iv.b (sqrtV (redN (madeI s l (Int.toNat (4 : Int))) (if Int.natAbs (madeI t r (Int.toNat (4 : Int))) = (0 : Nat) then (1 : Int) else (↑(Int.natAbs (madeI t r (Int.toNat (4 : Int)))) : Int))) (redD (madeI s l (Int.toNat (4 : Int))) (if Int.natAbs (madeI t r (Int.toNat (4 : Int))) = (0 : Nat) then (1 : Int) else (↑(Int.natAbs (madeI t r (Int.toNat (4 : Int)))) : Int))) (Int.tmod (IntKind.wrap IntKind.i64 (↑k : Int)) (201 : Int))) = Iv.d (sqrtV (redN (madeI s l (Int.toNat (4 : Int))) (if Int.natAbs (madeI t r (Int.toNat (4 : Int))) = (0 : Nat) then (1 : Int) else (↑(Int.natAbs (madeI t r (Int.toNat (4 : Int)))) : Int))) (redD (madeI s l (Int.toNat (4 : Int))) (if Int.natAbs (madeI t r (Int.toNat (4 : Int))) = (0 : Nat) then (1 : Int) else (↑(Int.natAbs (madeI t r (Int.toNat (4 : Int)))) : Int))) (Int.tmod (IntKind.wrap IntKind.i64 (↑k : Int)) (201 : Int)))) = true else ((70001 : Nat) ≤ (200000 : Nat) ∧ (201 : Nat) ≤ (200000 : Nat) ∧ (70001 : Nat) ≤ (200000 : Nat) ∧ (201 : Nat) ≤ (200000 : Nat) ∧ (0 : Int) < Iv.d (sqrtV (redN (madeI s l (Int.toNat (4 : Int))) (if Int.natAbs (madeI t r (Int.toNat (4 : Int))) = (0 : Nat) then (1 : Int) else (↑(Int.natAbs (madeI t r (Int.toNat (4 : Int)))) : Int))) (redD (madeI s l (Int.toNat (4 : Int))) (if Int.natAbs (madeI t r (Int.toNat (4 : Int))) = (0 : Nat) then (1 : Int) else (↑(Int.natAbs (madeI t r (Int.toNat (4 : Int)))) : Int))) (Int.tmod (IntKind.wrap IntKind.i64 (↑k : Int)) (201 : Int))) ∧ (0 : Int) < Iv.d (sqrtV (redN (madeI s l (Int.toNat (4 : Int))) (if Int.natAbs (madeI t r (Int.toNat (4 : Int))) = (0 : Nat) then (1 : Int) else (↑(Int.natAbs (madeI t r (Int.toNat (4 : Int)))) : Int))) (redD (madeI s l (Int.toNat (4 : Int))) (if Int.natAbs (madeI t r (Int.toNat (4 : Int))) = (0 : Nat) then (1 : Int) else (↑(Int.natAbs (madeI t r (Int.toNat (4 : Int)))) : Int))) (Int.tmod (IntKind.wrap IntKind.i64 (↑k : Int)) (201 : Int)))) ∧ ((70001 : Nat) + (70001 : Nat) ≤ (200000 : Nat) ∧ (201 : Nat) + (201 : Nat) ≤ (200000 : Nat) ∧ (32 : Nat) * Int.toNat (4 : Int) ≤ (200000 : Nat) ∧ (32 : Nat) * Int.toNat (4 : Int) + (64 : Nat) ≤ (200000 : Nat)) ∧ bif decide (icmp (redN (Iv.c (sqrtV (redN (madeI s l (Int.toNat (4 : Int))) (if Int.natAbs (madeI t r (Int.toNat (4 : Int))) = (0 : Nat) then (1 : Int) else (↑(Int.natAbs (madeI t r (Int.toNat (4 : Int)))) : Int))) (redD (madeI s l (Int.toNat (4 : Int))) (if Int.natAbs (madeI t r (Int.toNat (4 : Int))) = (0 : Nat) then (1 : Int) else (↑(Int.natAbs (madeI t r (Int.toNat (4 : Int)))) : Int))) (Int.tmod (IntKind.wrap IntKind.i64 (↑k : Int)) (201 : Int))) * Iv.c (sqrtV (redN (madeI s l (Int.toNat (4 : Int))) (if Int.natAbs (madeI t r (Int.toNat (4 : Int))) = (0 : Nat) then (1 : Int) else (↑(Int.natAbs (madeI t r (Int.toNat (4 : Int)))) : Int))) (redD (madeI s l (Int.toNat (4 : Int))) (if Int.natAbs (madeI t r (Int.toNat (4 : Int))) = (0 : Nat) then (1 : Int) else (↑(Int.natAbs (madeI t r (Int.toNat (4 : Int)))) : Int))) (Int.tmod (IntKind.wrap IntKind.i64 (↑k : Int)) (201 : Int)))) (Iv.d (sqrtV (redN (madeI s l (Int.toNat (4 : Int))) (if Int.natAbs (madeI t r (Int.toNat (4 : Int))) = (0 : Nat) then (1 : Int) else (↑(Int.natAbs (madeI t r (Int.toNat (4 : Int)))) : Int))) (redD (madeI s l (Int.toNat (4 : Int))) (if Int.natAbs (madeI t r (Int.toNat (4 : Int))) = (0 : Nat) then (1 : Int) else (↑(Int.natAbs (madeI t r (Int.toNat (4 : Int)))) : Int))) (Int.tmod (IntKind.wrap IntKind.i64 (↑k : Int)) (201 : Int))) * Iv.d (sqrtV (redN (madeI s l (Int.toNat (4 : Int))) (if Int.natAbs (madeI t r (Int.toNat (4 : Int))) = (0 : Nat) then (1 : Int) else (↑(Int.natAbs (madeI t r (Int.toNat (4 : Int)))) : Int))) (redD (madeI s l (Int.toNat (4 : Int))) (if Int.natAbs (madeI t r (Int.toNat (4 : Int))) = (0 : Nat) then (1 : Int) else (↑(Int.natAbs (madeI t r (Int.toNat (4 : Int)))) : Int))) (Int.tmod (IntKind.wrap IntKind.i64 (↑k : Int)) (201 : Int)))) * redD (madeI s l (Int.toNat (4 : Int))) (if Int.natAbs (madeI t r (Int.toNat (4 : Int))) = (0 : Nat) then (1 : Int) else (↑(Int.natAbs (madeI t r (Int.toNat (4 : Int)))) : Int))) (redN (madeI s l (Int.toNat (4 : Int))) (if Int.natAbs (madeI t r (Int.toNat (4 : Int))) = (0 : Nat) then (1 : Int) else (↑(Int.natAbs (madeI t r (Int.toNat (4 : Int)))) : Int)) * redD (Iv.c (sqrtV (redN (madeI s l (Int.toNat (4 : Int))) (if Int.natAbs (madeI t r (Int.toNat (4 : Int))) = (0 : Nat) then (1 : Int) else (↑(Int.natAbs (madeI t r (Int.toNat (4 : Int)))) : Int))) (redD (madeI s l (Int.toNat (4 : Int))) (if Int.natAbs (madeI t r (Int.toNat (4 : Int))) = (0 : Nat) then (1 : Int) else (↑(Int.natAbs (madeI t r (Int.toNat (4 : Int)))) : Int))) (Int.tmod (IntKind.wrap IntKind.i64 (↑k : Int)) (201 : Int))) * Iv.c (sqrtV (redN (madeI s l (Int.toNat (4 : Int))) (if Int.natAbs (madeI t r (Int.toNat (4 : Int))) = (0 : Nat) then (1 : Int) else (↑(Int.natAbs (madeI t r (Int.toNat (4 : Int)))) : Int))) (redD (madeI s l (Int.toNat (4 : Int))) (if Int.natAbs (madeI t r (Int.toNat (4 : Int))) = (0 : Nat) then (1 : Int) else (↑(Int.natAbs (madeI t r (Int.toNat (4 : Int)))) : Int))) (Int.tmod (IntKind.wrap IntKind.i64 (↑k : Int)) (201 : Int)))) (Iv.d (sqrtV (redN (madeI s l (Int.toNat (4 : Int))) (if Int.natAbs (madeI t r (Int.toNat (4 : Int))) = (0 : Nat) then (1 : Int) else (↑(Int.natAbs (madeI t r (Int.toNat (4 : Int)))) : Int))) (redD (madeI s l (Int.toNat (4 : Int))) (if Int.natAbs (madeI t r (Int.toNat (4 : Int))) = (0 : Nat) then (1 : Int) else (↑(Int.natAbs (madeI t r (Int.toNat (4 : Int)))) : Int))) (Int.tmod (IntKind.wrap IntKind.i64 (↑k : Int)) (201 : Int))) * Iv.d (sqrtV (redN (madeI s l (Int.toNat (4 : Int))) (if Int.natAbs (madeI t r (Int.toNat (4 : Int))) = (0 : Nat) then (1 : Int) else (↑(Int.natAbs (madeI t r (Int.toNat (4 : Int)))) : Int))) (redD (madeI s l (Int.toNat (4 : Int))) (if Int.natAbs (madeI t r (Int.toNat (4 : Int))) = (0 : Nat) then (1 : Int) else (↑(Int.natAbs (madeI t r (Int.toNat (4 : Int)))) : Int))) (Int.tmod (IntKind.wrap IntKind.i64 (↑k : Int)) (201 : Int))))) > (0 : Int)) then ((70001 : Nat) ≤ (200000 : Nat) ∧ (201 : Nat) ≤ (200000 : Nat) ∧ (70000 : Nat) ≤ (200000 : Nat) ∧ (201 : Nat) ≤ (200000 : Nat) ∧ (0 : Int) < Iv.d (sqrtV (redN (madeI s l (Int.toNat (4 : Int))) (if Int.natAbs (madeI t r (Int.toNat (4 : Int))) = (0 : Nat) then (1 : Int) else (↑(Int.natAbs (madeI t r (Int.toNat (4 : Int)))) : Int))) (redD (madeI s l (Int.toNat (4 : Int))) (if Int.natAbs (madeI t r (Int.toNat (4 : Int))) = (0 : Nat) then (1 : Int) else (↑(Int.natAbs (madeI t r (Int.toNat (4 : Int)))) : Int))) (Int.tmod (IntKind.wrap IntKind.i64 (↑k : Int)) (201 : Int))) ∧ (0 : Int) < Iv.b (sqrtV (redN (madeI s l (Int.toNat (4 : Int))) (if Int.natAbs (madeI t r (Int.toNat (4 : Int))) = (0 : Nat) then (1 : Int) else (↑(Int.natAbs (madeI t r (Int.toNat (4 : Int)))) : Int))) (redD (madeI s l (Int.toNat (4 : Int))) (if Int.natAbs (madeI t r (Int.toNat (4 : Int))) = (0 : Nat) then (1 : Int) else (↑(Int.natAbs (madeI t r (Int.toNat (4 : Int)))) : Int))) (Int.tmod (IntKind.wrap IntKind.i64 (↑k : Int)) (201 : Int)))) ∧ (max ((70001 : Nat) + (201 : Nat)) ((70000 : Nat) + (201 : Nat)) + (1 : Nat) ≤ (200000 : Nat) ∧ (201 : Nat) + (201 : Nat) ≤ (200000 : Nat) ∧ (64 : Nat) ≤ (200000 : Nat) ∧ (64 : Nat) + Int.toNat (Int.tmod (IntKind.wrap IntKind.i64 (↑k : Int)) (201 : Int)) ≤ (200000 : Nat)) ∧ decide (redN (Iv.c (sqrtV (redN (madeI s l (Int.toNat (4 : Int))) (if Int.natAbs (madeI t r (Int.toNat (4 : Int))) = (0 : Nat) then (1 : Int) else (↑(Int.natAbs (madeI t r (Int.toNat (4 : Int)))) : Int))) (redD (madeI s l (Int.toNat (4 : Int))) (if Int.natAbs (madeI t r (Int.toNat (4 : Int))) = (0 : Nat) then (1 : Int) else (↑(Int.natAbs (madeI t r (Int.toNat (4 : Int)))) : Int))) (Int.tmod (IntKind.wrap IntKind.i64 (↑k : Int)) (201 : Int))) * Iv.b (sqrtV (redN (madeI s l (Int.toNat (4 : Int))) (if Int.natAbs (madeI t r (Int.toNat (4 : Int))) = (0 : Nat) then (1 : Int) else (↑(Int.natAbs (madeI t r (Int.toNat (4 : Int)))) : Int))) (redD (madeI s l (Int.toNat (4 : Int))) (if Int.natAbs (madeI t r (Int.toNat (4 : Int))) = (0 : Nat) then (1 : Int) else (↑(Int.natAbs (madeI t r (Int.toNat (4 : Int)))) : Int))) (Int.tmod (IntKind.wrap IntKind.i64 (↑k : Int)) (201 : Int))) + -Iv.a (sqrtV (redN (madeI s l (Int.toNat (4 : Int))) (if Int.natAbs (madeI t r (Int.toNat (4 : Int))) = (0 : Nat) then (1 : Int) else (↑(Int.natAbs (madeI t r (Int.toNat (4 : Int)))) : Int))) (redD (madeI s l (Int.toNat (4 : Int))) (if Int.natAbs (madeI t r (Int.toNat (4 : Int))) = (0 : Nat) then (1 : Int) else (↑(Int.natAbs (madeI t r (Int.toNat (4 : Int)))) : Int))) (Int.tmod (IntKind.wrap IntKind.i64 (↑k : Int)) (201 : Int))) * Iv.d (sqrtV (redN (madeI s l (Int.toNat (4 : Int))) (if Int.natAbs (madeI t r (Int.toNat (4 : Int))) = (0 : Nat) then (1 : Int) else (↑(Int.natAbs (madeI t r (Int.toNat (4 : Int)))) : Int))) (redD (madeI s l (Int.toNat (4 : Int))) (if Int.natAbs (madeI t r (Int.toNat (4 : Int))) = (0 : Nat) then (1 : Int) else (↑(Int.natAbs (madeI t r (Int.toNat (4 : Int)))) : Int))) (Int.tmod (IntKind.wrap IntKind.i64 (↑k : Int)) (201 : Int)))) (Iv.d (sqrtV (redN (madeI s l (Int.toNat (4 : Int))) (if Int.natAbs (madeI t r (Int.toNat (4 : Int))) = (0 : Nat) then (1 : Int) else (↑(Int.natAbs (madeI t r (Int.toNat (4 : Int)))) : Int))) (redD (madeI s l (Int.toNat (4 : Int))) (if Int.natAbs (madeI t r (Int.toNat (4 : Int))) = (0 : Nat) then (1 : Int) else (↑(Int.natAbs (madeI t r (Int.toNat (4 : Int)))) : Int))) (Int.tmod (IntKind.wrap IntKind.i64 (↑k : Int)) (201 : Int))) * Iv.b (sqrtV (redN (madeI s l (Int.toNat (4 : Int))) (if Int.natAbs (madeI t r (Int.toNat (4 : Int))) = (0 : Nat) then (1 : Int) else (↑(Int.natAbs (madeI t r (Int.toNat (4 : Int)))) : Int))) (redD (madeI s l (Int.toNat (4 : Int))) (if Int.natAbs (madeI t r (Int.toNat (4 : Int))) = (0 : Nat) then (1 : Int) else (↑(Int.natAbs (madeI t r (Int.toNat (4 : Int)))) : Int))) (Int.tmod (IntKind.wrap IntKind.i64 (↑k : Int)) (201 : Int)))) = redN (1 : Int) (1 : Int) ∧ redD (Iv.c (sqrtV (redN (madeI s l (Int.toNat (4 : Int))) (if Int.natAbs (madeI t r (Int.toNat (4 : Int))) = (0 : Nat) then (1 : Int) else (↑(Int.natAbs (madeI t r (Int.toNat (4 : Int)))) : Int))) (redD (madeI s l (Int.toNat (4 : Int))) (if Int.natAbs (madeI t r (Int.toNat (4 : Int))) = (0 : Nat) then (1 : Int) else (↑(Int.natAbs (madeI t r (Int.toNat (4 : Int)))) : Int))) (Int.tmod (IntKind.wrap IntKind.i64 (↑k : Int)) (201 : Int))) * Iv.b (sqrtV (redN (madeI s l (Int.toNat (4 : Int))) (if Int.natAbs (madeI t r (Int.toNat (4 : Int))) = (0 : Nat) then (1 : Int) else (↑(Int.natAbs (madeI t r (Int.toNat (4 : Int)))) : Int))) (redD (madeI s l (Int.toNat (4 : Int))) (if Int.natAbs (madeI t r (Int.toNat (4 : Int))) = (0 : Nat) then (1 : Int) else (↑(Int.natAbs (madeI t r (Int.toNat (4 : Int)))) : Int))) (Int.tmod (IntKind.wrap IntKind.i64 (↑k : Int)) (201 : Int))) + -Iv.a (sqrtV (redN (madeI s l (Int.toNat (4 : Int))) (if Int.natAbs (madeI t r (Int.toNat (4 : Int))) = (0 : Nat) then (1 : Int) else (↑(Int.natAbs (madeI t r (Int.toNat (4 : Int)))) : Int))) (redD (madeI s l (Int.toNat (4 : Int))) (if Int.natAbs (madeI t r (Int.toNat (4 : Int))) = (0 : Nat) then (1 : Int) else (↑(Int.natAbs (madeI t r (Int.toNat (4 : Int)))) : Int))) (Int.tmod (IntKind.wrap IntKind.i64 (↑k : Int)) (201 : Int))) * Iv.d (sqrtV (redN (madeI s l (Int.toNat (4 : Int))) (if Int.natAbs (madeI t r (Int.toNat (4 : Int))) = (0 : Nat) then (1 : Int) else (↑(Int.natAbs (madeI t r (Int.toNat (4 : Int)))) : Int))) (redD (madeI s l (Int.toNat (4 : Int))) (if Int.natAbs (madeI t r (Int.toNat (4 : Int))) = (0 : Nat) then (1 : Int) else (↑(Int.natAbs (madeI t r (Int.toNat (4 : Int)))) : Int))) (Int.tmod (IntKind.wrap IntKind.i64 (↑k : Int)) (201 : Int)))) (Iv.d (sqrtV (redN (madeI s l (Int.toNat (4 : Int))) (if Int.natAbs (madeI t r (Int.toNat (4 : Int))) = (0 : Nat) then (1 : Int) else (↑(Int.natAbs (madeI t r (Int.toNat (4 : Int)))) : Int))) (redD (madeI s l (Int.toNat (4 : Int))) (if Int.natAbs (madeI t r (Int.toNat (4 : Int))) = (0 : Nat) then (1 : Int) else (↑(Int.natAbs (madeI t r (Int.toNat (4 : Int)))) : Int))) (Int.tmod (IntKind.wrap IntKind.i64 (↑k : Int)) (201 : Int))) * Iv.b (sqrtV (redN (madeI s l (Int.toNat (4 : Int))) (if Int.natAbs (madeI t r (Int.toNat (4 : Int))) = (0 : Nat) then (1 : Int) else (↑(Int.natAbs (madeI t r (Int.toNat (4 : Int)))) : Int))) (redD (madeI s l (Int.toNat (4 : Int))) (if Int.natAbs (madeI t r (Int.toNat (4 : Int))) = (0 : Nat) then (1 : Int) else (↑(Int.natAbs (madeI t r (Int.toNat (4 : Int)))) : Int))) (Int.tmod (IntKind.wrap IntKind.i64 (↑k : Int)) (201 : Int)))) = (1 : Int) * (2 : Int) ^ Int.toNat (Int.tmod (IntKind.wrap IntKind.i64 (↑k : Int)) (201 : Int))) = true else false = true) = evFn (env [c_lex, c_fmade, c_sqrtU, c_lvalid, c_fof, c_rof, c_rshl, c_ffmul, c_ffcmp, c_fwhole, c_rsame, c_ffsame, c_ffsub] noAnn) Tryz.f4 [.st [.st [.bool s, .ws l], .st [.bool t, .ws r]], .int .u8 k] (MRes.sat (.ret (.bool true))) := by kernel_rfl
theorem rootG_spec {N D K : Int} (hN : 0 ≤ N) (hD : 0 < D) (hK : 0 ≤ K) : 0 ≤ rootG N D K ∧ rootG N D K * rootG N D K * D ≤ N * (2 ^ K.toNat * 2 ^ K.toNat) ∧ N * (2 ^ K.toNat * 2 ^ K.toNat) < (rootG N D K + 1) * (rootG N D K + 1) * D := by
  have e : (2 : Int) ^ (2 * K).toNat = 2 ^ K.toNat * 2 ^ K.toNat := by rw [← Int.pow_add]; congr 1; omega
  unfold rootG
  rw [e]
  have hP := two_pos K.toNat
  have hNP : 0 ≤ N * (2 ^ K.toNat * 2 ^ K.toNat) := Int.mul_nonneg hN (Int.le_of_lt (Int.mul_pos hP hP))
  generalize N * (2 ^ K.toNat * 2 ^ K.toNat) = Q at *
  have m1 := Int.mul_ediv_add_emod Q D
  have m2 := Int.emod_nonneg Q (show D ≠ 0 by omega)
  have m3 := Int.emod_lt_of_pos Q hD
  have m4 := Int.ediv_nonneg hNP (Int.le_of_lt hD)
  generalize Q / D = M at *
  obtain ⟨k1, k2⟩ := nsq_spec M.natAbs
  generalize nsq M.natAbs = s at *
  have k1' : (s : Int) * s ≤ M := by have := Int.ofNat_le.2 k1; rw [Int.natCast_mul] at this; omega
  have k2' : M + 1 ≤ ((s : Int) + 1) * (s + 1) := by have := Int.ofNat_lt.2 k2; rw [Int.natCast_mul, show ((s + 1 : Nat) : Int) = (s : Int) + 1 by omega] at this; omega
  have q1 := Int.mul_le_mul_of_nonneg_right k1' (Int.le_of_lt hD)
  have q2 := Int.mul_le_mul_of_nonneg_right k2' (Int.le_of_lt hD)
  rw [Int.add_mul, Int.one_mul] at q2
  rw [Int.mul_comm D M] at m1
  exact ⟨by omega, by omega, by omega⟩
/-- The square of s/P, against N/D. -/
theorem frac_sq {a b P s D N : Int} (hb : 0 < b) (hP : 0 < P) (h : a * P = s * b) :
    (s * s * D ≤ N * (P * P) → redN (a * a) (b * b) * D ≤ N * redD (a * a) (b * b)) ∧ (N * (P * P) < s * s * D → N * redD (a * a) (b * b) < redN (a * a) (b * b) * D) := by
  have hbb := Int.mul_pos hb hb
  have hy := redD_pos (n := a * a) hbb
  have hx : redN (a * a) (b * b) * (b * b) = a * a * redD (a * a) (b * b) := red_eq (a * a) (b * b)
  generalize redN (a * a) (b * b) = x at *
  generalize redD (a * a) (b * b) = y at *
  have hc : 0 < b * b * (P * P) := Int.mul_pos hbb (Int.mul_pos hP hP)
  have e1 : x * D * (b * b * (P * P)) = s * s * D * (b * b * y) := by
    have : x * D * (b * b * (P * P)) = (x * (b * b)) * D * (P * P) := by grind
    rw [this, hx]
    have : a * a * y * D * (P * P) = (a * P) * (a * P) * y * D := by grind
    rw [this, h]; grind
  have e2 : N * y * (b * b * (P * P)) = N * (P * P) * (b * b * y) := by grind
  have hz : 0 < b * b * y := Int.mul_pos hbb hy
  refine ⟨fun q => ?_, fun q => ?_⟩
  · refine Int.le_of_mul_le_mul_right ?_ hc
    rw [e1, e2]
    exact Int.mul_le_mul_of_nonneg_right q (Int.le_of_lt hz)
  · refine Int.lt_of_mul_lt_mul_right ?_ (Int.le_of_lt hc)
    rw [e1, e2]
    exact Int.mul_lt_mul_of_pos_right q hz
structure SqLaw (N D K : Int) (v : Iv) : Prop where
  e : v.e = 0
  b : 0 < v.b
  gb : Int.gcd v.a v.b = 1
  d : 0 < v.d
  gd : Int.gcd v.c v.d = 1
  le : v.a * v.d ≤ v.c * v.b
  a0 : 0 ≤ v.a
  low : redN (v.a * v.a) (v.b * v.b) * D ≤ N * redD (v.a * v.a) (v.b * v.b)
  one : redD (v.a * 2 ^ K.toNat) v.b = 1
  eq : redN (v.a * v.a) (v.b * v.b) * D = N * redD (v.a * v.a) (v.b * v.b) → v.a = v.c ∧ v.b = v.d
  ne : ¬ redN (v.a * v.a) (v.b * v.b) * D = N * redD (v.a * v.a) (v.b * v.b) → N * redD (v.c * v.c) (v.d * v.d) < redN (v.c * v.c) (v.d * v.d) * D ∧ redN (v.c * v.b + -v.a * v.d) (v.d * v.b) = 1 ∧ redD (v.c * v.b + -v.a * v.d) (v.d * v.b) = 2 ^ K.toNat
theorem sqrt_law {N D K : Int} (hN : 0 ≤ N) (hD : 0 < D) (h0 : 0 ≤ K) (h1 : K ≤ 200) : SqLaw N D K (sqrtV N D K) := by
  obtain ⟨r0, r1, r2⟩ := rootG_spec hN hD h0
  have hP := two_pos K.toNat
  have hw : ¬ (wrongK K ∨ N < 0) := by unfold wrongK; omega
  have ha : redN (rootG N D K) (2 ^ K.toNat) * 2 ^ K.toNat = rootG N D K * redD (rootG N D K) (2 ^ K.toNat) := red_eq _ _
  have hc : redN (rootG N D K + 1) (2 ^ K.toNat) * 2 ^ K.toNat = (rootG N D K + 1) * redD (rootG N D K + 1) (2 ^ K.toNat) := red_eq _ _
  have hb := redD_pos (n := rootG N D K) hP
  have hd := redD_pos (n := rootG N D K + 1) hP
  have gb : Int.gcd (redN (rootG N D K) (2 ^ K.toNat)) (redD (rootG N D K) (2 ^ K.toNat)) = 1 := red_cop hP
  have gd : Int.gcd (redN (rootG N D K + 1) (2 ^ K.toNat)) (redD (rootG N D K + 1) (2 ^ K.toNat)) = 1 := red_cop hP
  have a0 := (redN_sign (n := rootG N D K) hP).1 r0
  have hone : redD (redN (rootG N D K) (2 ^ K.toNat) * 2 ^ K.toNat) (redD (rootG N D K) (2 ^ K.toNat)) = 1 := by
    rw [ha]
    have k1 : redN (rootG N D K * redD (rootG N D K) (2 ^ K.toNat)) (redD (rootG N D K) (2 ^ K.toNat)) * redD (rootG N D K) (2 ^ K.toNat) = rootG N D K * redD (rootG N D K) (2 ^ K.toNat) * redD (rootG N D K * redD (rootG N D K) (2 ^ K.toNat)) (redD (rootG N D K) (2 ^ K.toNat)) := red_eq _ _
    have k2 : Int.gcd (redN (rootG N D K * redD (rootG N D K) (2 ^ K.toNat)) (redD (rootG N D K) (2 ^ K.toNat))) (redD (rootG N D K * redD (rootG N D K) (2 ^ K.toNat)) (redD (rootG N D K) (2 ^ K.toNat))) = 1 := red_cop hb
    have k3 := redD_pos (n := rootG N D K * redD (rootG N D K) (2 ^ K.toNat)) hb
    refine (red_uniq k3 (by omega) k2 (Int.gcd_one_right (a := rootG N D K)) ?_).2
    rw [Int.mul_one]
    refine Int.eq_of_mul_eq_mul_right (a := redD (rootG N D K) (2 ^ K.toNat)) (by omega) ?_
    rw [k1]; grind
  have low := (frac_sq (D := D) (N := N) hb hP ha).1 r1
  have hi := (frac_sq (D := D) (N := N) hd hP hc).2 r2
  have hsq : sqEq N D K ↔ redN (redN (rootG N D K) (2 ^ K.toNat) * redN (rootG N D K) (2 ^ K.toNat)) (redD (rootG N D K) (2 ^ K.toNat) * redD (rootG N D K) (2 ^ K.toNat)) * D = N * redD (redN (rootG N D K) (2 ^ K.toNat) * redN (rootG N D K) (2 ^ K.toNat)) (redD (rootG N D K) (2 ^ K.toNat) * redD (rootG N D K) (2 ^ K.toNat)) := Iff.rfl
  unfold sqrtV
  rw [if_neg hw]
  by_cases hs : sqEq N D K
  · rw [if_pos hs]
    exact ⟨rfl, hb, gb, hb, gb, Int.le_refl _, a0, low, hone, fun _ => ⟨rfl, rfl⟩, fun q => absurd (hsq.1 hs) q⟩
  · rw [if_neg hs]
    have hn : (redN (rootG N D K + 1) (2 ^ K.toNat) * redD (rootG N D K) (2 ^ K.toNat) + -redN (rootG N D K) (2 ^ K.toNat) * redD (rootG N D K + 1) (2 ^ K.toNat)) * 2 ^ K.toNat = redD (rootG N D K + 1) (2 ^ K.toNat) * redD (rootG N D K) (2 ^ K.toNat) := by
      have : (redN (rootG N D K + 1) (2 ^ K.toNat) * redD (rootG N D K) (2 ^ K.toNat) + -redN (rootG N D K) (2 ^ K.toNat) * redD (rootG N D K + 1) (2 ^ K.toNat)) * 2 ^ K.toNat = (redN (rootG N D K + 1) (2 ^ K.toNat) * 2 ^ K.toNat) * redD (rootG N D K) (2 ^ K.toNat) - (redN (rootG N D K) (2 ^ K.toNat) * 2 ^ K.toNat) * redD (rootG N D K + 1) (2 ^ K.toNat) := by grind
      rw [this, ha, hc]; grind
    have hdb := Int.mul_pos hd hb
    refine ⟨rfl, hb, gb, hd, gd, ?_, a0, low, hone, fun q => absurd (hsq.2 q) hs, fun _ => ⟨hi, ?_⟩⟩
    · show redN (rootG N D K) (2 ^ K.toNat) * redD (rootG N D K + 1) (2 ^ K.toNat) ≤ redN (rootG N D K + 1) (2 ^ K.toNat) * redD (rootG N D K) (2 ^ K.toNat)
      rw [Int.neg_mul] at hn
      rcases Int.lt_or_le (redN (rootG N D K + 1) (2 ^ K.toNat) * redD (rootG N D K) (2 ^ K.toNat) + -(redN (rootG N D K) (2 ^ K.toNat) * redD (rootG N D K + 1) (2 ^ K.toNat))) 0 with q | q
      · have := Int.mul_neg_of_neg_of_pos q hP; omega
      · omega
    · show redN (redN (rootG N D K + 1) (2 ^ K.toNat) * redD (rootG N D K) (2 ^ K.toNat) + -redN (rootG N D K) (2 ^ K.toNat) * redD (rootG N D K + 1) (2 ^ K.toNat)) (redD (rootG N D K + 1) (2 ^ K.toNat) * redD (rootG N D K) (2 ^ K.toNat)) = 1 ∧ redD (redN (rootG N D K + 1) (2 ^ K.toNat) * redD (rootG N D K) (2 ^ K.toNat) + -redN (rootG N D K) (2 ^ K.toNat) * redD (rootG N D K + 1) (2 ^ K.toNat)) (redD (rootG N D K + 1) (2 ^ K.toNat) * redD (rootG N D K) (2 ^ K.toNat)) = 2 ^ K.toNat
      generalize redN (rootG N D K + 1) (2 ^ K.toNat) * redD (rootG N D K) (2 ^ K.toNat) + -redN (rootG N D K) (2 ^ K.toNat) * redD (rootG N D K + 1) (2 ^ K.toNat) = n at *
      generalize redD (rootG N D K + 1) (2 ^ K.toNat) * redD (rootG N D K) (2 ^ K.toNat) = m at *
      have k1 : redN n m * m = n * redD n m := red_eq n m
      have n0 : n ≠ 0 := fun h => by rw [h, Int.zero_mul] at hn; omega
      refine red_uniq (redD_pos hdb) hP (red_cop hdb) (Int.gcd_one_left ..) ?_
      rw [Int.one_mul]
      refine Int.eq_of_mul_eq_mul_left n0 ?_
      rw [← k1, ← hn]; grind
theorem p_broots : Good Tryz.f4 s_roots := by
  intro ms p r h hp
  unfold s_roots at h
  split at h
  · rename_i s l t r k0
    simp only [Option.some.injEq, Prod.mk.injEq] at h
    obtain ⟨rfl, rfl⟩ := h
    obtain ⟨⟨w1, n1⟩, ⟨w2, n2⟩, x1, x2⟩ : (Wd l ∧ l.length < 9223372036854775808) ∧ (Wd r ∧ r.length < 9223372036854775808) ∧ (0 ≤ k0 ∧ k0 ≤ 255) := hp
    obtain ⟨k, rfl⟩ := Int.eq_ofNat_of_zero_le x1
    refine ⟨env [c_lex, c_fmade, c_sqrtU, c_lvalid, c_fof, c_rof, c_rshl, c_ffmul, c_ffcmp, c_fwhole, c_rsame, c_ffsame, c_ffsub] noAnn, ?_⟩
    rw [← vc_broots s t l r k]
    have eK : Int.tmod (IntKind.wrap IntKind.i64 (k : Int)) 201 = ((k % 201 : Nat) : Int) := by rw [i64w (by omega) (by omega)]; rfl
    have hK : ((k % 201 : Nat) : Int) ≤ 200 := by omega
    have hK0 : 0 ≤ ((k % 201 : Nat) : Int) := by omega
    rw [eK]
    generalize ((k % 201 : Nat) : Int) = K at *
    have hD : 0 < redD (madeI s l (Int.toNat 4)) (if (madeI t r (Int.toNat 4)).natAbs = 0 then 1 else (madeI t r (Int.toNat 4)).natAbs) := redD_pos (by split <;> omega)
    generalize redD (madeI s l (Int.toNat 4)) (if (madeI t r (Int.toNat 4)).natAbs = 0 then 1 else (madeI t r (Int.toNat 4)).natAbs) = D at *
    generalize redN (madeI s l (Int.toNat 4)) (if (madeI t r (Int.toNat 4)).natAbs = 0 then 1 else (madeI t r (Int.toNat 4)).natAbs) = N at *
    refine ⟨⟨w1, w2, by omega, by omega, n1, n2⟩, fun h => by omega, ⟨by decide, by decide, hD⟩, ?_⟩
    by_cases hN : N < 0
    · rw [decide_eq_true hN, cond_true]
      have : sqrtV N D K = errV 1 := by unfold sqrtV; rw [if_pos (.inr hN)]
      rw [this]; rfl
    rw [decide_eq_false hN, cond_false]
    obtain ⟨l1, l2, l3, l4, l5, l6, l7, l8, l9, l10, l11⟩ := sqrt_law (N := N) (show 0 ≤ N by omega) hD hK0 hK
    generalize sqrtV N D K = V at *
    have e11 : redN 1 1 = 1 := by decide
    rw [l1, decide_eq_true (show (0 < V.b ∧ Int.gcd V.a V.b = 1) ∧ (0 < V.d ∧ Int.gcd V.c V.d = 1) ∧ V.a * V.d ≤ V.c * V.b from ⟨⟨l2, l3⟩, ⟨l4, l5⟩, l6⟩), decide_eq_false (show ¬ V.a < 0 by omega), icmp_eq0, Int.one_mul, Int.mul_one, decide_eq_true l9, e11]
    have ic : ∀ a b : Int, decide (icmp a b > 0) = decide (b < a) := fun a b => decide_eq_decide.2 (by unfold icmp; split <;> (try split) <;> omega)
    rw [ic, ic, decide_eq_false (show ¬ N * redD (V.a * V.a) (V.b * V.b) < redN (V.a * V.a) (V.b * V.b) * D by omega)]
    refine ⟨by omega, by omega, by omega, ⟨by omega, hK0, by omega⟩, ⟨by omega, by omega, by omega, by omega, l2, l2⟩, ⟨by omega, by omega, by decide, by decide⟩, ⟨by omega, by omega, by omega, by omega, l2, by omega⟩, by omega, by omega, ?_⟩
    by_cases hq : redN (V.a * V.a) (V.b * V.b) * D = N * redD (V.a * V.a) (V.b * V.b)
    · rw [decide_eq_true hq]
      exact ⟨by omega, decide_eq_true (l10 hq)⟩
    · rw [decide_eq_false hq]
      obtain ⟨g1, g2, g3⟩ := l11 hq
      rw [decide_eq_true g1]
      exact ⟨⟨by omega, by omega, by omega, by omega, l4, l4⟩, ⟨by omega, by omega, by decide, by decide⟩, ⟨by omega, by omega, by omega, by omega, l4, l2⟩, ⟨by omega, by omega, by omega, by omega⟩, decide_eq_true ⟨g2, g3⟩⟩
  · simp at h
def c_broots : Ctr Tryz.prog := ⟨4, s_roots, fun args w => Tryz.call4 args w, fn_ok mix Tryz.func4 s_roots p_broots⟩

end Go.Proofs.YtkokpkhdkbeofaaGreat

/-
  The frame of a law: what was read before the call is read behind it.
-/
namespace Go.Proofs.YtkokpkhdkbeofaaGreat
open Go Go.RowKit

theorem mapM_keep {α β : Type} {f g : α → Option β} : ∀ (l : List α) (xs : List β), l.mapM f = some xs → (∀ a x, f a = some x → x ∈ xs → g a = some x) → l.mapM g = some xs
  | [], xs, h, _ => h
  | a :: l, xs, h, hk => by
    simp only [List.mapM_cons, Option.bind_eq_bind, Option.pure_def, Option.bind_eq_some_iff, Option.some.injEq] at h ⊢
    obtain ⟨x, h1, ys, h2, rfl⟩ := h
    exact ⟨x, hk a x h1 (List.mem_cons_self ..), ys, mapM_keep l ys h2 fun b y hb hy => hk b y hb (List.mem_cons_of_mem _ hy), rfl⟩

theorem mapM_keep2 {α β : Type} {f g : α → Option β} : ∀ (l : List α) (xs : List β), l.mapM f = some xs → (∀ a ∈ l, ∀ x, f a = some x → x ∈ xs → g a = some x) → l.mapM g = some xs
  | [], xs, h, _ => h
  | a :: l, xs, h, hk => by
    simp only [List.mapM_cons, Option.bind_eq_bind, Option.pure_def, Option.bind_eq_some_iff, Option.some.injEq] at h ⊢
    obtain ⟨x, h1, ys, h2, rfl⟩ := h
    exact ⟨x, hk a (List.mem_cons_self ..) x h1 (List.mem_cons_self ..), ys, mapM_keep2 l ys h2 fun b hb y hy hm => hk b (List.mem_cons_of_mem _ hb) y hy (List.mem_cons_of_mem _ hm), rfl⟩

theorem cell_keep {w w' : World} (e : ∀ b, b < w.heap.size → w'.heap[b]? = w.heap[b]?) {a : Addr} {v : Value} (h : w.cell? a = some v) : w'.cell? a = some v := by
  have hlt : a.block < w.heap.size := by
    unfold World.cell? at h
    split at h
    · rename_i h0; exact (Array.getElem?_eq_some_iff.1 h0).1
    · simp at h
  unfold World.cell? at h ⊢
  rw [e _ hlt]; exact h
theorem cells_keep {w w' : World} (e : ∀ b, b < w.heap.size → w'.heap[b]? = w.heap[b]?) {base : Nat} {a : Addr} {n : Nat} {vs : List Value} (h : w.cells? base a n = some vs) : w'.cells? base a n = some vs := by
  unfold World.cells? at h ⊢
  split at h
  · rename_i hb
    rw [if_pos hb]
    exact mapM_keep _ _ h fun i v hi _ => cell_keep e hi
  · simp at h

section
variable {H : Type} {enc : TypeId × Value → H} {P : Program} {w w' : World}

/-- What a type leads to is in the list; no element takes no cell. -/
def subOk (P : Program) (L : List Nat) (t : Nat) : Bool := match P.underlying t with
  | some (.pointer e) => L.elem e
  | some (.slice e) => L.elem e && (0).blt (P.cellsOf e)
  | some (.struct fs) => fs.toList.all fun f => L.elem f.type
  | some (.array _ e) => L.elem e
  | some (.interface _) => false
  | some (.map _ e) => L.elem e
  | _ => true

theorem trod_keep {L : List Nat} (hL : L.all (subOk P L) = true) (e : ∀ b, b < w.heap.size → w'.heap[b]? = w.heap[b]?) (sp : Nat → Bool) (held : Bool) :
    ∀ (fuel : Nat) (t : TypeId) (cs : List Value) (x : DataW H × List MemPlace), t ∈ L → DataW.trod enc P w 0 (fun _ => true) held fuel t cs = some x → (∀ p ∈ x.2, sp p.block = true) → DataW.trod enc P w' 0 sp held fuel t cs = some x
  | 0, _, _, _, _, h, _ => by simp [DataW.trod] at h
  | fuel + 1, t, cs, x, ht, h, hsp => by
    have ih := trod_keep hL e sp held fuel
    have hok := List.all_eq_true.1 hL t ht
    unfold subOk at hok
    unfold DataW.trod at h ⊢
    have el : ∀ (a : Addr) (n : Nat) (u : TypeId) (y : DataW H × List MemPlace), u ∈ L → (w.cells? 0 a n).bind (DataW.trod enc P w 0 (fun _ => true) held fuel u) = some y → (∀ p ∈ y.2, sp p.block = true) → (w'.cells? 0 a n).bind (DataW.trod enc P w' 0 sp held fuel u) = some y := by
      intro a n u y hu hy hs
      obtain ⟨vs, h1, h2⟩ := Option.bind_eq_some_iff.1 hy
      exact Option.bind_eq_some_iff.2 ⟨vs, cells_keep e h1, ih u vs y hu h2 hs⟩
    split at h
    case h_21 => simp at h
    case h_6 =>
      rename_i hu
      rw [hu] at hok
      obtain ⟨y, h1, rfl⟩ := Option.map_eq_some_iff.1 h
      exact Option.map_eq_some_iff.2 ⟨y, el _ _ _ _ (List.mem_of_elem_eq_true hok) h1 fun p hp => hsp p (List.mem_append_right _ hp), rfl⟩
    case h_8 =>
      rename_i ee a len cap hu
      rw [hu] at hok
      simp only [Bool.and_eq_true, Nat.blt_eq] at hok
      have hee := List.mem_of_elem_eq_true hok.1
      dsimp only at h ⊢
      split at h
      · rename_i hc
        rw [if_pos hc]
        obtain ⟨elems, h1, h⟩ := Option.bind_eq_some_iff.1 h
        obtain ⟨rest, h2, rfl⟩ := Option.map_eq_some_iff.1 h
        rw [if_pos rfl] at h2
        have hsz := hok.2
        have q1 : ∀ y ∈ elems, ∀ p ∈ y.2, sp p.block = true := fun y hy p hp => hsp p (List.mem_append_right _ (List.mem_flatMap.2 ⟨y, List.mem_append_left _ hy, hp⟩))
        have q2 : ∀ y ∈ rest, ∀ p ∈ y.2, sp p.block = true := fun y hy p hp => hsp p (List.mem_append_right _ (List.mem_flatMap.2 ⟨y, List.mem_append_right _ hy, hp⟩))
        refine Option.bind_eq_some_iff.2 ⟨elems, mapM_keep _ _ h1 fun i y hi hy => el _ _ _ _ hee hi (q1 y hy), Option.map_eq_some_iff.2 ⟨rest, ?_, rfl⟩⟩
        by_cases h0 : rest = []
        · subst h0
          have : cap - len = 0 := by
            rcases Nat.eq_zero_or_pos (cap - len) with h | h
            · exact h
            · obtain ⟨n, hn⟩ := Nat.exists_eq_succ_of_ne_zero (Nat.pos_iff_ne_zero.1 h)
              rw [hn, List.range_succ_eq_map] at h2
              simp [Option.bind_eq_some_iff] at h2
          rw [this]
          split <;> simp
        · have hpos : 0 < (elems.length + rest.length) * P.cellsOf ee := Nat.mul_pos (by have := List.length_pos_iff.2 h0; omega) hsz
          have : sp a.block = true := hsp (.cell a.block (a.off + 0)) (List.mem_append_left _ (List.mem_map.2 ⟨0, List.mem_range.2 hpos, rfl⟩))
          rw [if_pos this]
          exact mapM_keep _ _ h2 fun i y hi hy => el _ _ _ _ hee hi (q2 y hy)
      · simp at h
    case h_9 =>
      rename_i fs hu
      rw [hu] at hok
      split at h
      · rename_i hc
        rw [if_pos hc]
        obtain ⟨xs, h1, rfl⟩ := Option.map_eq_some_iff.1 h
        exact Option.map_eq_some_iff.2 ⟨xs, mapM_keep2 _ _ h1 fun f hfm y hf hy => ih _ _ _ (List.mem_of_elem_eq_true (List.all_eq_true.1 hok f hfm)) hf fun p hp => hsp p (List.mem_flatMap.2 ⟨y, hy, hp⟩), rfl⟩
      · simp at h
    case h_10 =>
      rename_i n ee hu
      rw [hu] at hok
      split at h
      · rename_i hc
        rw [if_pos hc]
        obtain ⟨xs, h1, rfl⟩ := Option.map_eq_some_iff.1 h
        exact Option.map_eq_some_iff.2 ⟨xs, mapM_keep _ _ h1 fun f y hf hy => ih _ _ _ (List.mem_of_elem_eq_true hok) hf fun p hp => hsp p (List.mem_flatMap.2 ⟨y, hy, hp⟩), rfl⟩
      · simp at h
    case h_12 =>
      rename_i hu
      rw [hu] at hok
      simp at hok
    case h_14 =>
      rename_i b hu
      rw [hu] at hok
      split at h
      · rename_i es clock hb
        rw [e b (Array.getElem?_eq_some_iff.1 hb).1, hb]
        dsimp only
        split at h
        · rename_i hc
          rw [if_pos hc]
          obtain ⟨entries, h1, h⟩ := Option.bind_eq_some_iff.1 h
          have hpl : ∀ y ∈ entries, ∀ p ∈ y.2, sp p.block = true := by
            dsimp only at h
            split at h
            · simp only [Option.some.injEq] at h
              subst h
              exact fun y hy p hp => hsp p (List.mem_cons_of_mem _ (List.mem_flatMap.2 ⟨y, hy, hp⟩))
            · simp at h
          refine Option.bind_eq_some_iff.2 ⟨entries, mapM_keep _ _ h1 fun f y hf hy => ?_, h⟩
          obtain ⟨key, k1, k2⟩ := Option.bind_eq_some_iff.1 hf
          refine Option.bind_eq_some_iff.2 ⟨key, k1, ?_⟩
          split at k2
          · rename_i hfm
            rw [if_pos hfm]
            obtain ⟨z, z1, rfl⟩ := Option.map_eq_some_iff.1 k2
            exact Option.map_eq_some_iff.2 ⟨z, ih _ _ _ (List.mem_of_elem_eq_true hok) z1 (hpl _ hy), rfl⟩
          · simp at k2
        · simp at h
      · simp at h
    all_goals
      exact h

theorem trodAll_keep {L : List Nat} (hL : L.all (subOk P L) = true) (e : ∀ b, b < w.heap.size → w'.heap[b]? = w.heap[b]?) (sp : Nat → Bool) :
    ∀ (ts : List TypeId) (vs : List Value) (ds : List (DataW H)) (ps : List MemPlace), (∀ t ∈ ts, t ∈ L) → DataW.TrodAll enc P w 0 (fun _ => true) true ts vs ds ps → (∀ p ∈ ps, sp p.block = true) → DataW.TrodAll enc P w' 0 sp true ts vs ds ps
  | [], [], [], _, _, h, _ => h
  | t :: ts, v :: vs, d :: ds, ps, ht, h, hsp => by
    obtain ⟨p, q, ⟨fuel, h1⟩, h2, rfl⟩ := h
    exact ⟨p, q, ⟨fuel, trod_keep hL e sp true fuel t _ _ (ht t (List.mem_cons_self ..)) h1 fun p hp => hsp p (List.mem_append_left _ hp)⟩, trodAll_keep hL e sp ts vs ds q (fun u hu => ht u (List.mem_cons_of_mem _ hu)) h2 fun p hp => hsp p (List.mem_append_right _ hp), rfl⟩
  | [], _ :: _, _, _, _, h, _ => h.elim
  | [], [], _ :: _, _, _, h, _ => h.elim
  | _ :: _, [], _, _, _, h, _ => h.elim
  | _ :: _, _ :: _, [], _, _, h, _ => h.elim

end
end Go.Proofs.YtkokpkhdkbeofaaGreat

/-
  The frame of a law: what the arguments are, as the evaluator says it.
-/
namespace Go.Proofs.YtkokpkhdkbeofaaGreat
open Go Go.RowKit

abbrev noS : Nat → Prop := fun _ => False

section
variable {H : Type} {enc : TypeId × Value → H} {P : Program} {w : World} {sp : Nat → Bool} {held : Bool}

theorem mapM_all {α β : Type} {f : α → Option β} : ∀ (l : List α) (xs : List β), l.mapM f = some xs → ∀ a ∈ l, ∃ x, f a = some x
  | [], _, _, a, ha => by simp at ha
  | b :: l, xs, h, a, ha => by
    simp only [List.mapM_cons, Option.bind_eq_bind, Option.pure_def, Option.bind_eq_some_iff, Option.some.injEq] at h
    obtain ⟨x, h1, ys, h2, rfl⟩ := h
    rcases List.mem_cons.1 ha with rfl | ha
    · exact ⟨x, h1⟩
    · exact mapM_all l ys h2 a ha

theorem trod_fields {t : TypeId} {fs : Array Field} {fuel : Nat} {cs : List Value} {x : DataW H × List MemPlace} (hu : P.underlying t = some (.struct fs)) (h : DataW.trod enc P w 0 sp held fuel t cs = some x) :
    cs.length = P.cellsOf t ∧ ∃ fuel', ∀ f ∈ fs.toList, ∃ y, DataW.trod enc P w 0 sp held fuel' f.type ((cs.drop f.offset).take (P.cellsOf f.type)) = some y := by
  cases fuel with
  | zero => simp [DataW.trod] at h
  | succ fuel =>
    unfold DataW.trod at h
    rw [hu] at h
    split at h
    all_goals first | (rename_i h0; simp at h0; done) | skip
    · rename_i fs' hf
      simp only [Option.some.injEq, TypeDesc.struct.injEq] at hf
      subst hf
      split at h
      · rename_i hc
        obtain ⟨xs, h1, rfl⟩ := Option.map_eq_some_iff.1 h
        exact ⟨hc, fuel, mapM_all _ _ h1⟩
      · simp at h
    · rename ∀ (fs_1 : Array Field), some (TypeDesc.struct fs) = some (TypeDesc.struct fs_1) → False => hh
      exact (hh fs rfl).elim

theorem trod_array {t e : TypeId} {n : Nat} {fuel : Nat} {cs : List Value} {x : DataW H × List MemPlace} (hu : P.underlying t = some (.array n e)) (h : DataW.trod enc P w 0 sp held fuel t cs = some x) :
    cs.length = P.cellsOf t ∧ ∃ fuel', ∀ i, i < n → ∃ y, DataW.trod enc P w 0 sp held fuel' e ((cs.drop (i * P.cellsOf e)).take (P.cellsOf e)) = some y := by
  cases fuel with
  | zero => simp [DataW.trod] at h
  | succ fuel =>
    unfold DataW.trod at h
    rw [hu] at h
    split at h
    all_goals first | (rename_i h0; simp at h0; done) | skip
    · rename_i n' e' hf
      simp only [Option.some.injEq, TypeDesc.array.injEq] at hf
      obtain ⟨rfl, rfl⟩ := hf
      split at h
      · rename_i hc
        obtain ⟨xs, h1, rfl⟩ := Option.map_eq_some_iff.1 h
        exact ⟨hc, fuel, fun i hi => mapM_all _ _ h1 i (List.mem_range.2 hi)⟩
      · simp at h
    · rename ∀ (k : Nat) (e_1 : TypeId), some (TypeDesc.array n e) = some (TypeDesc.array k e_1) → False => hh
      exact (hh n e rfl).elim

theorem trod_int {t : TypeId} {k : IntKind} {fuel : Nat} {cs : List Value} {x : DataW H × List MemPlace} (hu : P.underlying t = some (.int k)) (h : DataW.trod enc P w 0 sp held fuel t cs = some x) :
    ∃ n, cs = [.int k n] ∧ (Lit.int k n).wf = true := by
  cases fuel with
  | zero => simp [DataW.trod] at h
  | succ fuel =>
    unfold DataW.trod at h
    rw [hu] at h
    split at h
    all_goals first | (rename_i h0; simp at h0; done) | skip
    · rename_i k0 k' n hk
      simp only [Option.some.injEq, TypeDesc.int.injEq] at hk
      subst hk
      split at h
      · rename_i hc
        exact ⟨n, by rw [hc.1], hc.2⟩
      · simp at h
    · simp at h

theorem trod_bool {t : TypeId} {fuel : Nat} {cs : List Value} {x : DataW H × List MemPlace} (hu : P.underlying t = some .bool) (h : DataW.trod enc P w 0 sp held fuel t cs = some x) : ∃ b, cs = [.bool b] := by
  cases fuel with
  | zero => simp [DataW.trod] at h
  | succ fuel =>
    unfold DataW.trod at h
    rw [hu] at h
    split at h
    all_goals first | (rename_i h0; simp at h0; done) | skip
    · exact ⟨_, rfl⟩
    · simp at h


theorem range_mapM {β : Type} {f : Nat → Option β} {n : Nat} {xs : List β} (h : (List.range n).mapM f = some xs) (i : Nat) (hi : i < n) : ∃ x, f i = some x := mapM_all _ _ h i (List.mem_range.2 hi)

theorem cells_one {a : Addr} {vs : List Value} (h : w.cells? 0 a 1 = some vs) : ∃ v, w.cell? a = some v ∧ vs = [v] := by
  unfold World.cells? at h
  rw [if_pos (Nat.zero_le _)] at h
  simp only [show List.range 1 = [0] from rfl, List.mapM_cons, List.mapM_nil, Option.bind_eq_bind, Option.pure_def, Option.bind_eq_some_iff, Option.some.injEq] at h
  obtain ⟨x, h1, ys, rfl, rfl⟩ := h
  exact ⟨x, by simpa [Addr.add] using h1, rfl⟩
theorem cell_some {a : Addr} {v : Value} (h : w.cell? a = some v) : ∃ arr ty fr, w.heap[a.block]? = some (.cells arr ty fr) ∧ a.spot = none ∧ arr[a.off]? = some v := by
  unfold World.cell? at h
  split at h
  · rename_i c t f hb
    split at h
    · simp at h
    · rename_i hs
      exact ⟨c, t, f, hb, by simpa using hs, h⟩
  · simp at h

/-- A slice of words. -/
theorem trod_words {t e : TypeId} {fuel : Nat} {cs : List Value} {x : DataW H × List MemPlace} (hu : P.underlying t = some (.slice e)) (he : P.underlying e = some (.int .u32)) (hc : P.cellsOf e = 1)
    (h : DataW.trod enc P w 0 sp held fuel t cs = some x) : ∃ s l, cs = [s] ∧ WordsR (Ctx.args noS) w l s ∧ Wd l ∧ l.length ≤ maxLen := by
  cases fuel with
  | zero => simp [DataW.trod] at h
  | succ fuel =>
    unfold DataW.trod at h
    rw [hu] at h
    split at h
    all_goals first | (rename_i h0; simp at h0; done) | skip
    · exact ⟨_, [], rfl, ⟨none, 0, rfl, Nat.le_refl _, fun h => absurd h (by simp)⟩, Wd.nil, Nat.zero_le _⟩
    · rename_i e' a len cap hs
      simp only [Option.some.injEq, TypeDesc.slice.injEq] at hs
      subst hs
      dsimp only at h
      split at h
      · rename_i hcc
        obtain ⟨elems, h1, h⟩ := Option.bind_eq_some_iff.1 h
        rw [hc] at h1
        have hel : ∀ i, i < len → ∃ n, w.cell? (a.add (i * 1)) = some (.int .u32 n) ∧ 0 ≤ n ∧ n < 4294967296 := by
          intro i hi
          obtain ⟨y, hy⟩ := range_mapM h1 i hi
          obtain ⟨vs, g1, g2⟩ := Option.bind_eq_some_iff.1 hy
          obtain ⟨v, g3, rfl⟩ := cells_one g1
          obtain ⟨n, g4, g5⟩ := trod_int he g2
          simp only [List.cons.injEq, and_true] at g4
          subst g4
          have : 0 ≤ n ∧ n ≤ 4294967295 := by simpa [Lit.wf, IntKind.min, IntKind.max, IntKind.signed, IntKind.bits] using g5
          exact ⟨n, g3, by omega⟩
        obtain ⟨l, hl1, hl2⟩ : ∃ l : List Int, l.length = len ∧ ∀ i n, l[i]? = some n → w.cell? (a.add (i * 1)) = some (.int .u32 n) ∧ 0 ≤ n ∧ n < 4294967296 := by
          refine ⟨(List.range len).pmap (fun i hi => Classical.choose (hel i (List.mem_range.1 hi))) (fun i hi => hi), by simp, fun i n hn => ?_⟩
          rw [List.getElem?_pmap] at hn
          simp only [Option.pmap_eq_some_iff] at hn
          obtain ⟨k, hk, hm, rfl⟩ := hn
          have hi : i < len := by rw [← List.length_range (n := len)]; exact (List.getElem?_eq_some_iff.1 hm).1
          have : k = i := by rw [List.getElem?_range hi] at hm; simpa using hm.symm
          subst this
          exact Classical.choose_spec (hel k hi)
        refine ⟨_, l, rfl, ⟨some a, cap, by rw [hl1], by rw [hl1]; exact hcc.2.1, fun hp => ?_⟩, fun y hy => ?_, by rw [hl1]; exact Nat.le_trans hcc.2.1 hcc.2.2⟩
        · obtain ⟨v0, _⟩ := hl2 0 l[0] (by simp [hp])
          rw [Nat.zero_mul, show a.add 0 = a from rfl] at v0
          obtain ⟨arr, ty, fr, r1, r2, r3⟩ := cell_some v0
          refine ⟨a.block, a.off, by cases a; simp_all, id, arr, ty, fr, r1, fun j v hv => ?_⟩
          simp only [List.getElem?_map, Option.map_eq_some_iff] at hv
          obtain ⟨n, hn, rfl⟩ := hv
          obtain ⟨s1, _⟩ := hl2 j n hn
          obtain ⟨arr', ty', fr', t1, t2, t3⟩ := cell_some s1
          have hb : (a.add (j * 1)).block = a.block := by unfold Addr.add; split <;> rfl
          have ho : (a.add (j * 1)).off = a.off + j := by unfold Addr.add; split <;> simp_all
          rw [hb, r1] at t1
          simp only [Option.some.injEq, Obj.cells.injEq] at t1
          rw [ho] at t3
          rw [t1.1]; exact t3
        · obtain ⟨i, hi, rfl⟩ := List.getElem_of_mem hy
          exact (hl2 i l[i] (by simp [hi])).2
      · simp at h
    · simp at h

end
end Go.Proofs.YtkokpkhdkbeofaaGreat

/-
  The frame of a law that may read a package-level array: what is laid; descriptions of numbers; what the contract of a law gives.
-/
namespace Go.Proofs.YtkokpkhdkbeofaaGreat
open Go Go.ChangeShapes Go.WideShapes Go.ChangeAt Go.RowKit

theorem own : ownKnob Tryz.prog.godebug = none := by kernel_rfl

theorem agg_cells {v : Value} {a b : Value} {r : List Value} (h : v.cells.toList = a :: b :: r) : v = .agg (a :: b :: r).toArray := by
  cases v <;> first | (simp [Value.cells] at h; done) | skip
  rename_i cs
  have : cs = (a :: b :: r).toArray := by apply Array.ext'; simpa [Value.cells] using h
  rw [this]
theorem len_two {cs : List Value} (h : cs.length = 2) : ∃ a b, cs = [a, b] := by
  match cs, h with
  | [a, b], _ => exact ⟨a, b, rfl⟩

theorem cells_u32 : Tryz.prog.cellsOf 93 = 1 := by kernel_rfl
theorem cells_bool : Tryz.prog.cellsOf 4 = 1 := by kernel_rfl
theorem cells_int : Tryz.prog.cellsOf 3 = 1 := by kernel_rfl
theorem cells_words : Tryz.prog.cellsOf 22 = 1 := by kernel_rfl
theorem cells_raw : Tryz.prog.cellsOf 24 = 2 := by kernel_rfl

section
variable {H : Type} {enc : TypeId × Value → H} {w : World} {sp : Nat → Bool} {held : Bool}
theorem u16_wf {n : Int} (h : (Lit.int .u16 n).wf = true) : 0 ≤ n ∧ n ≤ 65535 := by simpa [Lit.wf, IntKind.min, IntKind.max, IntKind.signed, IntKind.bits] using h
theorem i16_wf {n : Int} (h : (Lit.int .i16 n).wf = true) : -32768 ≤ n ∧ n ≤ 32767 := by simpa [Lit.wf, IntKind.min, IntKind.max, IntKind.signed, IntKind.bits] using h

theorem repc_raw {fuel : Nat} {cs : List Value} {y : DataW H × List MemPlace} (h : DataW.trod enc Tryz.prog w 0 sp held fuel 24 cs = some y) : ∃ b l, RepC (Ctx.args noS) w (rawM b l) cs ∧ Wd l ∧ l.length < 9223372036854775808 := by
  obtain ⟨hl, f', hf⟩ := trod_fields Tryz.underlying24 h
  rw [cells_raw] at hl
  obtain ⟨a, b, e⟩ := len_two hl
  rw [e] at hf ⊢
  clear e hl h
  obtain ⟨y0, h0⟩ := hf _ (List.mem_cons_self ..)
  obtain ⟨y1, h1⟩ := hf _ (List.mem_cons_of_mem _ (List.mem_cons_self ..))
  dsimp only at h0 h1
  rw [cells_bool] at h0
  rw [cells_words] at h1
  obtain ⟨b0, e0⟩ := trod_bool Tryz.underlying4 h0
  obtain ⟨s, l, e1, hw, hwd, hlen⟩ := trod_words Tryz.underlying22 Tryz.underlying93 cells_u32 h1
  have z0 : [a] = [.bool b0] := e0
  have z1 : [b] = [s] := e1
  simp only [List.cons.injEq, and_true] at z0 z1
  subst z0 z1
  refine ⟨b0, l, ⟨_, _, rfl, rfl, _, _, rfl, ⟨_, rfl, hw⟩, rfl⟩, hwd, ?_⟩
  have : maxLen = 2 ^ 63 - 1 := rfl
  omega
theorem rep_raw {v : Value} {d : DataW H} {ps : List MemPlace} (h : DataW.Trod enc Tryz.prog w 0 sp held 24 v d ps) : ∃ b l, Rep1 (Ctx.args noS) w (rawM b l) v ∧ Wd l ∧ l.length < 9223372036854775808 := by
  obtain ⟨fuel, h⟩ := h
  obtain ⟨hl, _⟩ := trod_fields Tryz.underlying24 h
  rw [cells_raw] at hl
  obtain ⟨a, b, e⟩ := len_two hl
  obtain ⟨b0, l, h1, h2, h3⟩ := repc_raw h
  rw [e] at h1
  exact ⟨b0, l, (rep1_agg rfl).2 ⟨_, agg_cells e, h1⟩, h2, h3⟩

/-- What the call leaves as it was reads as it read. -/
theorem post_same {P : Program} {f : Func} {s : ChangeSpec} {apart fresh handsOn again : Bool} {W W' : World} {args : Array Value} {v : Value} {ds gs : List (DataW H)} {before pa pv : List MemPlace}
    (hW : DataW.Whole enc P f.params.toList s.vars apart W args.toList ds gs before)
    (hres : ∀ (b : Nat) (sp : Nat → Bool) (hd : Bool), DataW.TrodAll enc P W' b sp hd f.resultTypes.toList (v.resultList f.resultTypes.size) (s.fn H (ds ++ gs)).results [])
    (hargs : ∀ sp : Nat → Bool, (∀ p ∈ before, sp p.block = true) → DataW.TrodAll enc P W' 0 sp true f.params.toList args.toList (s.fn H (ds ++ gs)).args pa)
    (hvars : ∀ sp : Nat → Bool, (∀ p ∈ before, sp p.block = true) → DataW.TrodVars enc P W' sp s.vars (s.fn H (ds ++ gs)).vars pv)
    (hps : before = pa ++ pv) (hk : W.keptBut W' (· ∈ before)) (hfz : ∀ a : Addr, a.block < W.heap.size → W'.frozen? a = W.frozen? a)
    (hok : ∀ (j : Nat) (t : TypeId) (r : Value), f.resultTypes[j]? = some t → (v.resultList f.resultTypes.size)[j]? = some r → Value.okWide P W' .any 0 t r) :
    s.post enc P f apart fresh handsOn again W args v W' := by
  have hlt : ∀ p ∈ before, p.block < W.heap.size := hW.lt
  have hold : ∀ p ∈ before, (fun b => decide (b < W.heap.size)) p.block = true := fun p hp => by simpa using hlt p hp
  refine ⟨ds, gs, before, [], pa, pv, hW, hres _ _ _, hargs _ hold, hvars _ hold, World.keptBut_mono (fun p hp => ⟨hp, ?_⟩) hk, fun _ => ?_⟩
  · rw [hps, List.mem_append] at hp
    exact Or.inr hp
  · obtain ⟨_, _, _, _, _, hz, hn⟩ := hW
    refine ⟨hok, _, _, ([] ++ pa) ++ pv, ⟨[] ++ pa, pv, trodAll_append (hargs _ (fun _ _ => rfl)) (hres _ _ _), hvars _ (fun _ _ => rfl), rfl, ?_, ?_⟩, ?_⟩
    · intro b off hp
      have hm : MemPlace.cell b off ∈ before := by rw [hps]; simpa using hp
      rw [hfz ⟨b, off, none⟩ (hlt _ hm)]
      exact hz b off hm
    · intro ha
      have := hn ha
      rw [hps] at this
      simpa using this
    · intro p hp _
      rw [hps]
      simpa using hp

set_option maxRecDepth 100000 in
/-- What the contract of a law gives. -/
theorem law_calls {fn : Func} {s : ChangeSpec} (ctr : Ctr Tryz.prog) (hvars : s.vars = []) (hrt : fn.resultTypes = #[4]) {L : List Nat} (hL : L.all (subOk Tryz.prog L) = true) (hin : ∀ t ∈ fn.params.toList, t ∈ L) {apart fresh handsOn again : Bool} {W : World} {args : Array Value} {ds gs : List (DataW H)} {before : List MemPlace}
    (hW : DataW.Whole enc Tryz.prog fn.params.toList s.vars apart W args.toList ds gs before) (hG : GW noS W)
    (hrep : ∃ ms p, ctr.spec ms = some (p, .ret (.bool true)) ∧ p.holds ∧ RepAll (Ctx.args noS) W ms args.toList)
    (hspec : s.fn H (ds ++ gs) = { results := [.lit (.bool true)], args := ds }) :
    Calls Tryz.prog ctr.f args W fun e W' => ∃ v, e = .returned v ∧ s.post enc Tryz.prog fn apart fresh handsOn again W args v W' := by
  obtain ⟨ms, p, h1, h2, h3⟩ := hrep
  refine (ctr.ok noS W ms args p _ h1 h2 (fun _ h => h.elim) hG h3).mono fun e W' ⟨hE, hh⟩ => ?_
  obtain ⟨v, rfl, hr⟩ : ∃ v, e = .returned v ∧ Rep (Ctx.res noS) W' (.bool true) v := by
    cases e with
    | returned v => exact ⟨v, rfl, hh⟩
    | panicked _ => exact hh.elim
    | outgrown => exact hh.elim
  have hv : v = .bool true := rep_bool hr
  subst hv
  refine ⟨_, rfl, ?_⟩
  have hW' := hW
  obtain ⟨p, q, hA, hV, rfl, _, _⟩ := hW
  rw [hvars] at hV
  obtain ⟨rfl, rfl⟩ : gs = [] ∧ q = [] := trodVars_none hV
  refine post_same (pa := p) (pv := []) hW' (fun _ _ _ => ?_) (fun sp hsp => ?_) (fun _ _ => ?_) rfl (hE.kept _) hE.frz ?_
  · rw [hspec, hrt]
    exact trodAll_cons_mk (shut_bool Tryz.underlying4 _) trodAll_mk0
  · rw [hspec]
    exact trodAll_keep hL hE.block sp _ _ _ _ hin hA fun p hp => hsp p (List.mem_append_left _ hp)
  · rw [hspec, hvars]; rfl
  · have hw : Value.okWide Tryz.prog W' .any 0 4 (.bool true) := okWide_bool_mk Tryz.underlying4 true
    exact ok_one hrt rfl hw
end


end Go.Proofs.YtkokpkhdkbeofaaGreat

namespace Go.Proofs.YtkokpkhdkbeofaaGreat
open Go Go.ChangeShapes Go.WideShapes Go.ChangeAt Go.RowKit

theorem gw0 (W : World) : GW noS W := fun h => by cases h
theorem u8_wf {n : Int} (h : (Lit.int .u8 n).wf = true) : 0 ≤ n ∧ n ≤ 255 := by simpa [Lit.wf, IntKind.min, IntKind.max, IntKind.signed, IntKind.bits] using h
abbrev qrawV (b1 b2 : Bool) (l1 l2 : List Int) : MV := .st [rawM b1 l1, rawM b2 l2]
theorem cells_qraw : Tryz.prog.cellsOf 26 = 4 := by kernel_rfl
theorem rep_qraw {H : Type} {enc : TypeId × Value → H} {w : World} {sp : Nat → Bool} {held : Bool} {v : Value} {d : DataW H} {ps : List MemPlace} (h : DataW.Trod enc Tryz.prog w 0 sp held 26 v d ps) :
    ∃ b1 b2 l1 l2, Rep1 (Ctx.args noS) w (qrawV b1 b2 l1 l2) v ∧ (Wd l1 ∧ l1.length < 9223372036854775808) ∧ (Wd l2 ∧ l2.length < 9223372036854775808) := by
  obtain ⟨fuel, h⟩ := h
  obtain ⟨hl, f', hf⟩ := trod_fields Tryz.underlying26 h
  rw [cells_qraw] at hl
  match hc : v.cells.toList, hl with
  | [a0, a1, a2, a3], _ =>
    rw [hc] at hf
    obtain ⟨y0, h0⟩ := hf _ (List.mem_cons_self ..)
    obtain ⟨y1, h1⟩ := hf _ (List.mem_cons_of_mem _ (List.mem_cons_self ..))
    dsimp only at h0 h1
    rw [cells_raw] at h0 h1
    obtain ⟨b1, l1, r1, w1⟩ := repc_raw (cs := [a0, a1]) h0
    obtain ⟨b2, l2, r2, w2⟩ := repc_raw (cs := [a2, a3]) h1
    exact ⟨b1, b2, l1, l2, (rep1_agg rfl).2 ⟨_, agg_cells hc, [a0, a1], _, rfl, r1, [a2, a3], _, rfl, r2, rfl⟩, w1, w2⟩
theorem ok_at {P : Program} {W : World} {base : Nat} {args : Array Value} {ts : Array TypeId} (hval : ∀ (j : Nat) t v, ts[j]? = some t → args[j]? = some v → Value.okWide P W .any base t v) {j : Nat} {t : TypeId} {v : Value} (h1 : ts[j]? = some t) (h2 : args[j]? = some v) : Value.okWide P W .any base t v := hval j t v h1 h2

end Go.Proofs.YtkokpkhdkbeofaaGreat
