/-
  The frame of the laws of chapter 17: descriptions of forms and of matrices.
-/
import Derived.Test.YtnfmjlhkknndhaaGreatW5
import Derived.Test.YtnfmjlhkknndhaaGreatW2
import Derived.Test.YtnfmjlhkknndhaaGreatRows
import Derived.Test.YtnfmjlhkknndhaaGreatW4
import Derived.ProofKit
import Derived.OpenShut
import Derived.JoinedCond
import Derived.LaidMore
import Derived.LaidLaws
import Derived.LaidHandle
import Derived.ChangeVars
import Derived.Stop.Joined
import Derived.ChangeSame
import Derived.MakeChecks

/-
 Contracts of functions: algoristref17 (cycles of the reference), third part.
-/
namespace Go.Proofs.YtnfmjlhkknndhaaGreat
open Go Go.RowKit
open Go.IntKind (wrap i64 i32 i16 i8 u64 u32 u16 u8)
def a_whole (d : Int) : Nat → MS → Option LoopAnn
 | 2, _ => some (.inv WalkI (fun i => i.i ≤ nsq d.natAbs) (fun i => ⟨14, [(0, .int .i64 d), (3, .int .i64 i.i)], [], 0⟩) (fun i => nsq d.natAbs - i.i))
 | _, _ => none
theorem vc_whole (d : Int) : ((∃ i : WalkI, i.1 ≤ nsq (Int.natAbs d) ∧ (d = d ∧ (0 : Int) = (↑(i.1) : Int) ∧ True) ∧ True) ∧ ∀ (i : WalkI), i.1 ≤ nsq (Int.natAbs d) → bif decide (wrap i64 (wrap i64 ((↑(i.1) : Int) + 1) * wrap i64 ((↑(i.1) : Int) + 1)) ≤ d) then ∃ j : WalkI, j.1 ≤ nsq (Int.natAbs d) ∧ ((d = d ∧ wrap i64 ((↑(i.1) : Int) + 1) = (↑(j.1) : Int) ∧ True) ∧ True) ∧ nsq (Int.natAbs d) - j.1 < nsq (Int.natAbs d) - i.1 else (↑(i.1) : Int) = (↑(nsq (Int.natAbs d)) : Int)) = evFn (env [] (a_whole d)) Tryz.f79 [.int .i64 d] (MRes.sat (.ret (.int .i64 (nsq d.natAbs)))) := by kernel_rfl
def procL (D : Int) (out : List Fm) (a b : Int) : List Fm := if goodF D a b = true then out ++ [cF D a b] else out
def rowL (D a : Int) : Nat → List Fm → List Fm
 | 0, out => out
 | j + 1, out => procL D (rowL D a j out) a ((j : Int) + 1)
def allL (D s : Int) : Nat → List Fm
 | 0 => []
 | i + 1 => rowL D (-s + (i : Int)) s.toNat (allL D s i)
def listL (d : Int) : List Fm := allL d (knS d) (2 * (knS d).toNat + 1)
def a_list (D s : Int) : Nat → MS → Option LoopAnn
 | 3, e => some (.inv WalkI (fun i => i.i ≤ 2 * s.toNat + 1) (fun i => ⟨59, [(0, look 0 e.tm), (3, .bs 0 0 (allL D s i.i).length), (4, look 4 e.tm), (5, .int .i64 (-s + (i.i : Int)))], [⟨false, .rows 6 (allL D s i.i).length (fL (allL D s i.i) 64)⟩], 0⟩) (fun i => 2 * s.toNat + 1 - i.i))
 | 6, e => some (.inv WalkI (fun j => j.i ≤ s.toNat) (fun j => ⟨59, [(0, look 0 e.tm), (3, .bs 0 0 (rowL D (xA (look 5 e.tm)) j.i (allL D s (xA (look 5 e.tm) + s).toNat)).length), (4, look 4 e.tm), (5, look 5 e.tm), (6, .int .i64 ((j.i : Int) + 1))],
   [⟨false, .rows 6 (rowL D (xA (look 5 e.tm)) j.i (allL D s (xA (look 5 e.tm) + s).toNat)).length (fL (rowL D (xA (look 5 e.tm)) j.i (allL D s (xA (look 5 e.tm) + s).toNat)) 64)⟩], 0⟩) (fun j => s.toNat - j.i))
 | _, _ => none
def s_whole : FSpec
 | [.int .i64 d] => some (some (0 ≤ d ∧ d ≤ 65536), .ret (.int .i64 (nsq d.natAbs)))
 | _ => none
theorem p_whole : Good Tryz.f79 s_whole := by
 intro ms p r h hp
 unfold s_whole at h
 split at h
 ·rename_i d
  simp only [Option.some.injEq, Prod.mk.injEq] at h
  obtain ⟨rfl, rfl⟩ := h
  obtain ⟨h1, h2⟩ : 0 ≤ d ∧ d ≤ 65536 := hp
  refine ⟨env [] (a_whole d), ?_⟩
  rw [← vc_whole d]
  obtain ⟨k1, k2⟩ := nsq_spec d.natAbs
  generalize nsq d.natAbs = s at *
  have hs : s ≤ 256 := by
   rcases Nat.lt_or_ge 256 s with q | q
   ·have := Nat.mul_le_mul (show 257 ≤ s by omega) (show 257 ≤ s by omega)
    omega
   ·exact q
  refine ⟨⟨⟨0⟩, Nat.zero_le _, ⟨rfl, rfl, True.intro⟩, True.intro⟩, fun i hi => ?_⟩
  obtain ⟨i⟩ := i
  have hi : i ≤ s := hi
  dsimp only
  have hm : (i + 1) * (i + 1) ≤ 257 * 257 := Nat.mul_le_mul (by omega) (by omega)
  have e1 : wrap i64 ((i : Int) + 1) = ((i + 1 : Nat) : Int) := by rw [i64w (by omega) (by omega)]; omega
  have e2 : wrap i64 (((i + 1 : Nat) : Int) * ((i + 1 : Nat) : Int)) = (((i + 1) * (i + 1) : Nat) : Int) := by
   rw [← Int.natCast_mul]
   exact i64w (by omega) (by omega)
  rw [e1, e2]
  refine condI decide_eq_true_iff (fun q => ?_) (fun q => ?_)
  ·have hlt : i < s := by
    rcases Nat.lt_or_ge i s with q' | q'
    ·exact q'
    ·obtain rfl : i = s := by omega
     omega
   exact ⟨⟨i + 1⟩, hlt, ⟨⟨rfl, rfl, True.intro⟩, True.intro⟩, by show s - (i + 1) < s - i; omega⟩
  ·have : i = s := by
    rcases Nat.lt_or_ge i s with q' | q'
    ·have := Nat.mul_le_mul (show i + 1 ≤ s by omega) (show i + 1 ≤ s by omega)
     omega
    ·omega
   rw [this]
 ·simp at h
def c_whole : Ctr Tryz.prog := ⟨79, s_whole, fun args w => Tryz.call79 args w, fn_ok mix Tryz.func79 s_whole p_whole⟩
theorem vc_list (d : Int) : (((0 : Int) ≤ d ∧ d ≤ 65536) ∧ (∃ i : WalkI, i.1 ≤ 2 * Int.toNat (knS d) + 1 ∧ (d = d ∧ ((0 : Nat) = 0 ∧ (0 : Nat) = List.length (allL d (knS d) (i.1))) ∧ (↑(nsq (Int.natAbs d)) : Int) = (↑(nsq (Int.natAbs d)) : Int) ∧ wrap i64 ((0 : Int) - (↑(nsq (Int.natAbs d)) : Int)) = -knS d + (↑(i.1) : Int) ∧ True) ∧ ((0 : Nat) = List.length (allL d (knS d) (i.1)) ∧ LeFun (0 : Nat) (rowOf []) (fL (allL d (knS d) (i.1)) (64 : Nat))) ∧ True) ∧ ∀ (i : WalkI), i.1 ≤ 2 * Int.toNat (knS d) + 1 → bif decide (-knS d + (↑(i.1) : Int) ≤ (↑(nsq (Int.natAbs d)) : Int)) then (∃ i_1 : WalkI, i_1.1 ≤ Int.toNat (knS d) ∧ (d = d ∧ ((0 : Nat) = 0 ∧ List.length (allL d (knS d) (i.1)) = List.length (rowL d (-knS d + (↑(i.1) : Int)) (i_1.1) (allL d (knS d) (Int.toNat (-knS d + (↑(i.1) : Int) + knS d))))) ∧ (↑(nsq (Int.natAbs d)) : Int) = (↑(nsq (Int.natAbs d)) : Int) ∧ -knS d + (↑(i.1) : Int) = -knS d + (↑(i.1) : Int) ∧ (1 : Int) = (↑(i_1.1) : Int) + 1 ∧ True) ∧ (List.length (allL d (knS d) (i.1)) = List.length (rowL d (-knS d + (↑(i.1) : Int)) (i_1.1) (allL d (knS d) (Int.toNat (-knS d + (↑(i.1) : Int) + knS d)))) ∧ LeFun (List.length (allL d (knS d) (i.1))) (fL (allL d (knS d) (i.1)) (64 : Nat)) (fL (rowL d (-knS d + (↑(i.1) : Int)) (i_1.1) (allL d (knS d) (Int.toNat (-knS d + (↑(i.1) : Int) + knS d)))) (64 : Nat))) ∧ True) ∧ ∀ (i_1 : WalkI), i_1.1 ≤ Int.toNat (knS d) → bif decide ((↑(i_1.1) : Int) + 1 ≤ (↑(nsq (Int.natAbs d)) : Int)) then bif -knS d + (↑(i.1) : Int) != 0 then (wrap i64 ((4 : Int) * (-knS d + (↑(i.1) : Int))) = 0 → False) ∧ bif Int.tmod (wrap i64 (d - wrap i64 (((↑(i_1.1) : Int) + 1) * ((↑(i_1.1) : Int) + 1)))) (wrap i64 ((4 : Int) * (-knS d + (↑(i.1) : Int)))) != 0 then ∃ j : WalkI, j.1 ≤ Int.toNat (knS d) ∧ ((d = d ∧ ((0 : Nat) = 0 ∧ List.length (rowL d (-knS d + (↑(i.1) : Int)) (i_1.1) (allL d (knS d) (Int.toNat (-knS d + (↑(i.1) : Int) + knS d)))) = List.length (rowL d (-knS d + (↑(i.1) : Int)) (j.1) (allL d (knS d) (Int.toNat (-knS d + (↑(i.1) : Int) + knS d))))) ∧ (↑(nsq (Int.natAbs d)) : Int) = (↑(nsq (Int.natAbs d)) : Int) ∧ -knS d + (↑(i.1) : Int) = -knS d + (↑(i.1) : Int) ∧ wrap i64 ((↑(i_1.1) : Int) + 1 + 1) = (↑(j.1) : Int) + 1 ∧ True) ∧ (List.length (rowL d (-knS d + (↑(i.1) : Int)) (i_1.1) (allL d (knS d) (Int.toNat (-knS d + (↑(i.1) : Int) + knS d)))) = List.length (rowL d (-knS d + (↑(i.1) : Int)) (j.1) (allL d (knS d) (Int.toNat (-knS d + (↑(i.1) : Int) + knS d)))) ∧ LeFun (List.length (rowL d (-knS d + (↑(i.1) : Int)) (i_1.1) (allL d (knS d) (Int.toNat (-knS d + (↑(i.1) : Int) + knS d))))) (fL (rowL d (-knS d + (↑(i.1) : Int)) (i_1.1) (allL d (knS d) (Int.toNat (-knS d + (↑(i.1) : Int) + knS d)))) (64 : Nat)) (fL (rowL d (-knS d + (↑(i.1) : Int)) (j.1) (allL d (knS d) (Int.toNat (-knS d + (↑(i.1) : Int) + knS d)))) (64 : Nat))) ∧ True) ∧ Int.toNat (knS d) - j.1 < Int.toNat (knS d) - i_1.1 else (wrap i64 ((4 : Int) * (-knS d + (↑(i.1) : Int))) = 0 → False) ∧ ((-9223372036854775808 : Int) ≤ -knS d + (↑(i.1) : Int) ∧ -knS d + (↑(i.1) : Int) ≤ 9223372036854775807 ∧ (-9223372036854775808 : Int) ≤ (↑(i_1.1) : Int) + 1 ∧ (↑(i_1.1) : Int) + 1 ≤ 9223372036854775807 ∧ (-9223372036854775808 : Int) ≤ (goC d (-knS d + (↑(i.1) : Int)) ((↑(i_1.1) : Int) + 1)) ∧ (goC d (-knS d + (↑(i.1) : Int)) ((↑(i_1.1) : Int) + 1)) ≤ 9223372036854775807) ∧ ((64 : Nat) ≤ 40000 ∧ (64 : Nat) ≤ 40000 ∧ (64 : Nat) ≤ 40000) ∧ bif redQ (goF d i i_1) then ((64 : Nat) ≤ 100000 ∧ (64 : Nat) ≤ 100000 ∧ (64 : Nat) ≤ 100000) ∧ bif primF (goF d i i_1) then ((1 : Nat) ≤ 1 ∧ List.length (rowL d (-knS d + (↑(i.1) : Int)) (i_1.1) (allL d (knS d) (Int.toNat (-knS d + (↑(i.1) : Int) + knS d)))) ≤ List.length (rowL d (-knS d + (↑(i.1) : Int)) (i_1.1) (allL d (knS d) (Int.toNat (-knS d + (↑(i.1) : Int) + knS d)))) ∧ (List.length (rowL d (-knS d + (↑(i.1) : Int)) (i_1.1) (allL d (knS d) (Int.toNat (-knS d + (↑(i.1) : Int) + knS d)))) + News.len (News.rows (6 : Nat) (1 : Nat) (rowOf [MV.st [MV.big (-knS d + (↑(i.1) : Int)) (64 : Nat), MV.big ((↑(i_1.1) : Int) + 1) (64 : Nat), MV.big ((goC d (-knS d + (↑(i.1) : Int)) ((↑(i_1.1) : Int) + 1))) (64 : Nat)]]))) * 96 ≤ 140737488355328) ∧ ∃ j : WalkI, j.1 ≤ Int.toNat (knS d) ∧ ((d = d ∧ ((0 : Nat) = 0 ∧ List.length (rowL d (-knS d + (↑(i.1) : Int)) (i_1.1) (allL d (knS d) (Int.toNat (-knS d + (↑(i.1) : Int) + knS d)))) + News.len (News.rows (6 : Nat) (1 : Nat) (rowOf [MV.st [MV.big (-knS d + (↑(i.1) : Int)) (64 : Nat), MV.big ((↑(i_1.1) : Int) + 1) (64 : Nat), MV.big ((goC d (-knS d + (↑(i.1) : Int)) ((↑(i_1.1) : Int) + 1))) (64 : Nat)]])) = List.length (rowL d (-knS d + (↑(i.1) : Int)) (j.1) (allL d (knS d) (Int.toNat (-knS d + (↑(i.1) : Int) + knS d))))) ∧ (↑(nsq (Int.natAbs d)) : Int) = (↑(nsq (Int.natAbs d)) : Int) ∧ -knS d + (↑(i.1) : Int) = -knS d + (↑(i.1) : Int) ∧ wrap i64 ((↑(i_1.1) : Int) + 1 + 1) = (↑(j.1) : Int) + 1 ∧ True) ∧ (List.length (rowL d (-knS d + (↑(i.1) : Int)) (i_1.1) (allL d (knS d) (Int.toNat (-knS d + (↑(i.1) : Int) + knS d)))) + 1 = List.length (rowL d (-knS d + (↑(i.1) : Int)) (j.1) (allL d (knS d) (Int.toNat (-knS d + (↑(i.1) : Int) + knS d)))) ∧ LeFun (List.length (rowL d (-knS d + (↑(i.1) : Int)) (i_1.1) (allL d (knS d) (Int.toNat (-knS d + (↑(i.1) : Int) + knS d)))) + 1) (fun q => bif Nat.blt q (List.length (rowL d (-knS d + (↑(i.1) : Int)) (i_1.1) (allL d (knS d) (Int.toNat (-knS d + (↑(i.1) : Int) + knS d))))) then fL (rowL d (-knS d + (↑(i.1) : Int)) (i_1.1) (allL d (knS d) (Int.toNat (-knS d + (↑(i.1) : Int) + knS d)))) (64 : Nat) q else rowOf [MV.st [MV.big (-knS d + (↑(i.1) : Int)) (64 : Nat), MV.big ((↑(i_1.1) : Int) + 1) (64 : Nat), MV.big ((goC d (-knS d + (↑(i.1) : Int)) ((↑(i_1.1) : Int) + 1))) (64 : Nat)]] (q - List.length (rowL d (-knS d + (↑(i.1) : Int)) (i_1.1) (allL d (knS d) (Int.toNat (-knS d + (↑(i.1) : Int) + knS d)))))) (fL (rowL d (-knS d + (↑(i.1) : Int)) (j.1) (allL d (knS d) (Int.toNat (-knS d + (↑(i.1) : Int) + knS d)))) (64 : Nat))) ∧ True) ∧ Int.toNat (knS d) - j.1 < Int.toNat (knS d) - i_1.1 else ∃ j : WalkI, j.1 ≤ Int.toNat (knS d) ∧ ((d = d ∧ ((0 : Nat) = 0 ∧ List.length (rowL d (-knS d + (↑(i.1) : Int)) (i_1.1) (allL d (knS d) (Int.toNat (-knS d + (↑(i.1) : Int) + knS d)))) = List.length (rowL d (-knS d + (↑(i.1) : Int)) (j.1) (allL d (knS d) (Int.toNat (-knS d + (↑(i.1) : Int) + knS d))))) ∧ (↑(nsq (Int.natAbs d)) : Int) = (↑(nsq (Int.natAbs d)) : Int) ∧ -knS d + (↑(i.1) : Int) = -knS d + (↑(i.1) : Int) ∧ wrap i64 ((↑(i_1.1) : Int) + 1 + 1) = (↑(j.1) : Int) + 1 ∧ True) ∧ (List.length (rowL d (-knS d + (↑(i.1) : Int)) (i_1.1) (allL d (knS d) (Int.toNat (-knS d + (↑(i.1) : Int) + knS d)))) = List.length (rowL d (-knS d + (↑(i.1) : Int)) (j.1) (allL d (knS d) (Int.toNat (-knS d + (↑(i.1) : Int) + knS d)))) ∧ LeFun (List.length (rowL d (-knS d + (↑(i.1) : Int)) (i_1.1) (allL d (knS d) (Int.toNat (-knS d + (↑(i.1) : Int) + knS d))))) (fL (rowL d (-knS d + (↑(i.1) : Int)) (i_1.1) (allL d (knS d) (Int.toNat (-knS d + (↑(i.1) : Int) + knS d)))) (64 : Nat)) (fL (rowL d (-knS d + (↑(i.1) : Int)) (j.1) (allL d (knS d) (Int.toNat (-knS d + (↑(i.1) : Int) + knS d)))) (64 : Nat))) ∧ True) ∧ Int.toNat (knS d) - j.1 < Int.toNat (knS d) - i_1.1 else ∃ j : WalkI, j.1 ≤ Int.toNat (knS d) ∧ ((d = d ∧ ((0 : Nat) = 0 ∧ List.length (rowL d (-knS d + (↑(i.1) : Int)) (i_1.1) (allL d (knS d) (Int.toNat (-knS d + (↑(i.1) : Int) + knS d)))) = List.length (rowL d (-knS d + (↑(i.1) : Int)) (j.1) (allL d (knS d) (Int.toNat (-knS d + (↑(i.1) : Int) + knS d))))) ∧ (↑(nsq (Int.natAbs d)) : Int) = (↑(nsq (Int.natAbs d)) : Int) ∧ -knS d + (↑(i.1) : Int) = -knS d + (↑(i.1) : Int) ∧ wrap i64 ((↑(i_1.1) : Int) + 1 + 1) = (↑(j.1) : Int) + 1 ∧ True) ∧ (List.length (rowL d (-knS d + (↑(i.1) : Int)) (i_1.1) (allL d (knS d) (Int.toNat (-knS d + (↑(i.1) : Int) + knS d)))) = List.length (rowL d (-knS d + (↑(i.1) : Int)) (j.1) (allL d (knS d) (Int.toNat (-knS d + (↑(i.1) : Int) + knS d)))) ∧ LeFun (List.length (rowL d (-knS d + (↑(i.1) : Int)) (i_1.1) (allL d (knS d) (Int.toNat (-knS d + (↑(i.1) : Int) + knS d))))) (fL (rowL d (-knS d + (↑(i.1) : Int)) (i_1.1) (allL d (knS d) (Int.toNat (-knS d + (↑(i.1) : Int) + knS d)))) (64 : Nat)) (fL (rowL d (-knS d + (↑(i.1) : Int)) (j.1) (allL d (knS d) (Int.toNat (-knS d + (↑(i.1) : Int) + knS d)))) (64 : Nat))) ∧ True) ∧ Int.toNat (knS d) - j.1 < Int.toNat (knS d) - i_1.1 else ∃ j : WalkI, j.1 ≤ 2 * Int.toNat (knS d) + 1 ∧ ((d = d ∧ ((0 : Nat) = 0 ∧ List.length (rowL d (-knS d + (↑(i.1) : Int)) (i_1.1) (allL d (knS d) (Int.toNat (-knS d + (↑(i.1) : Int) + knS d)))) = List.length (allL d (knS d) (j.1))) ∧ (↑(nsq (Int.natAbs d)) : Int) = (↑(nsq (Int.natAbs d)) : Int) ∧ wrap i64 (-knS d + (↑(i.1) : Int) + 1) = -knS d + (↑(j.1) : Int) ∧ True) ∧ (List.length (rowL d (-knS d + (↑(i.1) : Int)) (i_1.1) (allL d (knS d) (Int.toNat (-knS d + (↑(i.1) : Int) + knS d)))) = List.length (allL d (knS d) (j.1)) ∧ LeFun (List.length (rowL d (-knS d + (↑(i.1) : Int)) (i_1.1) (allL d (knS d) (Int.toNat (-knS d + (↑(i.1) : Int) + knS d))))) (fL (rowL d (-knS d + (↑(i.1) : Int)) (i_1.1) (allL d (knS d) (Int.toNat (-knS d + (↑(i.1) : Int) + knS d)))) (64 : Nat)) (fL (allL d (knS d) (j.1)) (64 : Nat))) ∧ True) ∧ (2 : Nat) * Int.toNat (knS d) + 1 - j.1 < 2 * Int.toNat (knS d) + 1 - i.1 else ∃ j : WalkI, j.1 ≤ 2 * Int.toNat (knS d) + 1 ∧ ((d = d ∧ ((0 : Nat) = 0 ∧ List.length (rowL d (-knS d + (↑(i.1) : Int)) (i_1.1) (allL d (knS d) (Int.toNat (-knS d + (↑(i.1) : Int) + knS d)))) = List.length (allL d (knS d) (j.1))) ∧ (↑(nsq (Int.natAbs d)) : Int) = (↑(nsq (Int.natAbs d)) : Int) ∧ wrap i64 (-knS d + (↑(i.1) : Int) + 1) = -knS d + (↑(j.1) : Int) ∧ True) ∧ (List.length (rowL d (-knS d + (↑(i.1) : Int)) (i_1.1) (allL d (knS d) (Int.toNat (-knS d + (↑(i.1) : Int) + knS d)))) = List.length (allL d (knS d) (j.1)) ∧ LeFun (List.length (rowL d (-knS d + (↑(i.1) : Int)) (i_1.1) (allL d (knS d) (Int.toNat (-knS d + (↑(i.1) : Int) + knS d))))) (fL (rowL d (-knS d + (↑(i.1) : Int)) (i_1.1) (allL d (knS d) (Int.toNat (-knS d + (↑(i.1) : Int) + knS d)))) (64 : Nat)) (fL (allL d (knS d) (j.1)) (64 : Nat))) ∧ True) ∧ (2 : Nat) * Int.toNat (knS d) + 1 - j.1 < 2 * Int.toNat (knS d) + 1 - i.1 else List.length (allL d (knS d) (i.1)) ≤ List.length (allL d (knS d) (i.1)) ∧ (6 : Nat) = 6 ∧ List.length (allL d (knS d) (i.1)) = List.length (listL d) ∧ LeFun (List.length (allL d (knS d) (i.1))) (fL (allL d (knS d) (i.1)) (64 : Nat)) (fL (listL d) (64 : Nat))) = evFn (env [c_whole, c_r8of, c_r17reduced, c_r8prim] (a_list d (knS d))) Tryz.f33 [.int .i64 d] (MRes.sat (.ret (lmv (listL d) 64))) := by kernel_rfl
theorem rowL_zero (d : Int) (out : List Fm) : ∀ j, rowL d 0 j out = out
 | 0 => rfl
 | j + 1 => by
  show procL d (rowL d 0 j out) 0 _ = out
  rw [rowL_zero d out j]
  exact if_neg (by simp [goodF])
theorem procL_len (d a b : Int) (out : List Fm) : (procL d out a b).length ≤ out.length + 1 := by
 unfold procL
 split <;> simp
theorem rowL_len (d a : Int) (out : List Fm) : ∀ j, (rowL d a j out).length ≤ out.length + j
 | 0 => Nat.le_refl _
 | j + 1 => by
  have h1 := rowL_len d a out j
  have h2 := procL_len d a ((j : Int) + 1) (rowL d a j out)
  show (procL d (rowL d a j out) a ((j : Int) + 1)).length ≤ _
  omega
theorem allL_len (d s : Int) : ∀ i, (allL d s i).length ≤ i * s.toNat
 | 0 => Nat.zero_le _
 | i + 1 => by
  have h1 := allL_len d s i
  have h2 := rowL_len d (-s + (i : Int)) (allL d s i) s.toNat
  show (rowL d (-s + (i : Int)) s.toNat (allL d s i)).length ≤ _
  rw [Nat.add_mul]
  omega
theorem le_snocL (l : List Fm) (g : Fm) {V W : Nat} (hV : V ≤ W) : LeFun (l.length + 1) (fun q => bif Nat.blt q l.length then fL l W q else rowOf [.st [.big g.A V, .big g.B V, .big g.C V]] (q - l.length)) (fL (l ++ [g]) W) := by
 have e : (fun q => bif Nat.blt q l.length then fL l W q else rowOf [MV.st [.big g.A V, .big g.B V, .big g.C V]] (q - l.length)) = (fun q => bif Nat.blt q l.length then fL (l ++ [g]) W q else rowOf [MV.st [.big g.A V, .big g.B V, .big g.C V]] (q - l.length)) := by
  funext q
  cases hb : Nat.blt q l.length with
  | false => rfl
  | true =>
   rw [Nat.blt_eq] at hb
   simp [fL, List.getElem?_append_left hb]
 rw [e]
 refine le_snoc ?_
 have e2 : fL (l ++ [g]) W l.length = fmv g W := by simp [fL]
 rw [e2]
 exact le_fm _ hV
def s_list : FSpec
 | [.int .i64 d] => some (some (knE d = 0), .ret (lmv (listL d) 64))
 | _ => none
theorem p_list : Good Tryz.f33 s_list := by
 intro ms p r h hp
 unfold s_list at h
 split at h
 ·rename_i d
  simp only [Option.some.injEq, Prod.mk.injEq] at h
  obtain ⟨rfl, rfl⟩ := h
  have q : knE d = 0 := hp
  refine ⟨env [c_whole, c_r8of, c_r17reduced, c_r8prim] (a_list d (knS d)), ?_⟩
  rw [← vc_list d, ← knS_ok q]
  obtain ⟨hd, hs, hd2, _⟩ := kn_dis q
  have hcl : listL d = allL d (knS d) (2 * (knS d).toNat + 1) := rfl
  have hs0 := hd.pos
  have hd0 : 0 < d := by
   have := hd.lo
   have := Int.mul_pos hs0 hs0
   omega
  have hgF : ∀ i j : Nat, goF d ⟨i⟩ ⟨j⟩ = ⟨-knS d + (i : Int), (j : Int) + 1, goC d (-knS d + (i : Int)) ((j : Int) + 1)⟩ := fun _ _ => rfl
  generalize hS : knS d = s at *
  refine ⟨by omega, ⟨⟨0⟩, Nat.zero_le _, ?_⟩, fun i hi => ?_⟩
  ·have e : wrap i64 (0 - s) = -s + ((0 : Nat) : Int) := by rw [i64w (by omega) (by omega)]; omega
   rw [e]
   and_intros <;> first | exact True.intro | rfl | exact .inl (Nat.le_refl _) | exact ⟨fun i hi => by omega⟩
  obtain ⟨i⟩ := i
  have hi : i ≤ 2 * s.toNat + 1 := hi
  dsimp only
  have e9 : ∀ i' : Nat, i' ≤ 2 * s.toNat + 1 → (-s + (i' : Int) + s).toNat = i' := fun i' _ => by omega
  rw [e9 i hi]
  refine condI decide_eq_true_iff (fun q1 => ?_) (fun q1 => ?_)
  rotate_left
  ·obtain rfl : i = 2 * s.toNat + 1 := by omega
   rw [hcl]
   exact ⟨Nat.le_refl _, rfl, rfl, LeFun.refl⟩
  have hlen1 := allL_len d s i
  have hmul : i * s.toNat ≤ 511 * 255 := Nat.mul_le_mul (by omega) (by omega)
  refine ⟨⟨⟨0⟩, Nat.zero_le _, ?_⟩, fun j hj => ?_⟩
  ·and_intros <;> first | exact True.intro | rfl | exact .inl (Nat.le_refl _) | exact LeFun.refl
  obtain ⟨j⟩ := j
  have hj : j ≤ s.toNat := hj
  dsimp only
  have hai : wrap i64 (-s + (i : Int) + 1) = -s + ((i + 1 : Nat) : Int) := by rw [i64w (by omega) (by omega)]; omega
  have hbj : wrap i64 ((j : Int) + 1 + 1) = ((j + 1 : Nat) : Int) + 1 := by rw [i64w (by omega) (by omega)]; omega
  have hlen2 := rowL_len d (-s + (i : Int)) (allL d s i) j
  refine condI decide_eq_true_iff (fun q2 => condI bne_iff_ne (fun q3 => ?_) (fun q3 => ?_)) (fun q2 => ?_)
  rotate_left
  ·have q3 : -s + (i : Int) = 0 := Decidable.not_not.1 q3
   have e : rowL d (-s + (i : Int)) j (allL d s i) = allL d s (i + 1) := by
    show _ = rowL d (-s + (i : Int)) s.toNat (allL d s i)
    rw [q3, rowL_zero, rowL_zero]
   rw [e, hai]
   refine ⟨⟨i + 1⟩, by show i + 1 ≤ _; omega, ?_, by show 2 * s.toNat + 1 - (i + 1) < 2 * s.toNat + 1 - i; omega⟩
   and_intros <;> first | exact True.intro | rfl | exact .inl (Nat.le_refl _) | exact LeFun.refl
  ·obtain rfl : j = s.toNat := by omega
   have e : rowL d (-s + (i : Int)) s.toNat (allL d s i) = allL d s (i + 1) := rfl
   rw [e, hai]
   refine ⟨⟨i + 1⟩, by show i + 1 ≤ _; omega, ?_, by show 2 * s.toNat + 1 - (i + 1) < 2 * s.toNat + 1 - i; omega⟩
   and_intros <;> first | exact True.intro | rfl | exact .inl (Nat.le_refl _) | exact LeFun.refl
  obtain ⟨g1, g2, g3⟩ := goC_all (d := d) (a := -s + (i : Int)) (b := (j : Int) + 1) (by omega) (by omega) (by omega) hd0 hd2
  rw [g1, g2]
  generalize hO : rowL d (-s + (i : Int)) j (allL d s i) = O at *
  have hrow : rowL d (-s + (i : Int)) (j + 1) (allL d s i) = procL d O (-s + (i : Int)) ((j : Int) + 1) := by rw [← hO]; rfl
  have hjl : j + 1 ≤ s.toNat := by omega
  have hmj : s.toNat - (j + 1) < s.toNat - j := by omega
  refine ⟨by omega, condI bne_iff_ne (fun q4 => ?_) (fun q4 => ?_)⟩
  ·have hsame : rowL d (-s + (i : Int)) (j + 1) (allL d s i) = O := by
    rw [hrow]
    refine if_neg fun h => ?_
    simp only [goodF, Bool.and_eq_true, decide_eq_true_eq] at h
    exact absurd (Int.tmod_eq_zero_of_dvd (Int.dvd_of_emod_eq_zero h.2.1)) q4
   refine ⟨⟨j + 1⟩, hjl, ?_, hmj⟩
   dsimp only
   rw [hsame, hbj]
   and_intros <;> first | exact True.intro | rfl | exact .inl (Nat.le_refl _) | exact LeFun.refl
  have q4 : (d - ((j : Int) + 1) * ((j : Int) + 1)) % (4 * (-s + (i : Int))) = 0 := Int.emod_eq_zero_of_dvd (Int.dvd_of_tmod_eq_zero (Decidable.not_not.1 q4))
  obtain ⟨g4, g5⟩ := g3 q4
  have hcF : goF d ⟨i⟩ ⟨j⟩ = cF d (-s + (i : Int)) ((j : Int) + 1) := by
   rw [hgF, g4]
   rfl
  have hgood : goodF d (-s + (i : Int)) ((j : Int) + 1) = (redQ (cF d (-s + (i : Int)) ((j : Int) + 1)) && primF (cF d (-s + (i : Int)) ((j : Int) + 1))) := by
   unfold goodF
   rw [decide_eq_true q3, decide_eq_true q4, Bool.true_and, Bool.true_and]
  rw [hcF, g4]
  have hFA : (cF d (-s + (i : Int)) ((j : Int) + 1)).A = -s + (i : Int) := rfl
  have hFB : (cF d (-s + (i : Int)) ((j : Int) + 1)).B = (j : Int) + 1 := rfl
  have hFC : (cF d (-s + (i : Int)) ((j : Int) + 1)).C = (((j : Int) + 1) * ((j : Int) + 1) - d) / (4 * (-s + (i : Int))) := rfl
  generalize hF : cF d (-s + (i : Int)) ((j : Int) + 1) = F at *
  have n1 : ∀ x : MV, News.len (.rows 6 1 (rowOf [x])) = 1 := fun _ => rfl
  rw [n1]
  refine ⟨by omega, by omega, by omega, condI Iff.rfl (fun q6 => ⟨by omega, condI Iff.rfl (fun q7 => ?_) (fun q7 => ?_)⟩) (fun q6 => ?_)⟩
  ·have hstep : rowL d (-s + (i : Int)) (j + 1) (allL d s i) = O ++ [F] := by
    rw [hrow]
    unfold procL
    rw [hF]
    exact if_pos (by rw [hgood, q6, q7]; rfl)
   refine ⟨⟨Nat.le_refl _, Nat.le_refl _, by omega⟩, ⟨j + 1⟩, hjl, ?_, hmj⟩
   dsimp only
   rw [hstep, hbj]
   have hll : (O ++ [F]).length = O.length + 1 := by simp
   rw [hll, ← hFC, ← hFB, ← hFA]
   and_intros <;> first | exact True.intro | rfl | exact .inl (Nat.le_refl _) | exact LeFun.refl | exact le_snocL O F (Nat.le_refl _)
  all_goals
   have hsame : rowL d (-s + (i : Int)) (j + 1) (allL d s i) = O := by
    rw [hrow]
    refine if_neg fun h => ?_
    rw [hgood] at h
    simp only [Bool.and_eq_true] at h
    first
     | exact q7 h.2
     | exact q6 h.1
   refine ⟨⟨j + 1⟩, hjl, ?_, hmj⟩
   dsimp only
   rw [hsame, hbj]
   and_intros <;> first | exact True.intro | rfl | exact .inl (Nat.le_refl _) | exact LeFun.refl
 ·simp at h
def c_list : Ctr Tryz.prog := ⟨33, s_list, fun args w => Tryz.call33 args w, fn_ok mix Tryz.func33 s_list p_list⟩
end Go.Proofs.YtnfmjlhkknndhaaGreat
/-
 Contracts of functions: algoristref17 (cycles of the reference), fourth part.
-/
namespace Go.Proofs.YtnfmjlhkknndhaaGreat
open Go Go.RowKit
open Go.IntKind (wrap i64 i32 i16 i8 u64 u32 u16 u8)
theorem procL_mem {D a b : Int} {out : List Fm} {f : Fm} : f ∈ procL D out a b ↔ f ∈ out ∨ (goodF D a b = true ∧ f = cF D a b) := by
 unfold procL
 split
 ·rename_i h
  rw [List.mem_append, List.mem_singleton]
  exact ⟨fun e => e.imp id fun q => ⟨h, q⟩, fun e => e.imp id fun q => q.2⟩
 ·rename_i h
  exact ⟨.inl, fun e => e.elim id fun q => absurd q.1 h⟩
theorem rowL_mem {D a : Int} {out : List Fm} {f : Fm} : ∀ {j : Nat}, f ∈ rowL D a j out ↔ f ∈ out ∨ ∃ k : Nat, k < j ∧ goodF D a ((k : Int) + 1) = true ∧ f = cF D a ((k : Int) + 1)
 | 0 => ⟨.inl, fun e => e.elim id fun ⟨k, h, _⟩ => absurd h (by omega)⟩
 | j + 1 => by
  show f ∈ procL D (rowL D a j out) a ((j : Int) + 1) ↔ _
  rw [procL_mem, rowL_mem]
  constructor
  ·rintro ((h | ⟨k, h1, h2⟩) | h)
   ·exact .inl h
   ·exact .inr ⟨k, by omega, h2⟩
   ·exact .inr ⟨j, by omega, h⟩
  ·rintro (h | ⟨k, h1, h2⟩)
   ·exact .inl (.inl h)
   ·rcases Nat.lt_or_ge k j with q | q
    ·exact .inl (.inr ⟨k, q, h2⟩)
    ·obtain rfl : k = j := by omega
     exact .inr h2
theorem allL_mem {D s : Int} {f : Fm} : ∀ {i : Nat}, f ∈ allL D s i ↔ ∃ h k : Nat, h < i ∧ k < s.toNat ∧ goodF D (-s + (h : Int)) ((k : Int) + 1) = true ∧ f = cF D (-s + (h : Int)) ((k : Int) + 1)
 | 0 => ⟨fun e => by simp [allL] at e, fun ⟨h, _, q, _⟩ => absurd q (by omega)⟩
 | i + 1 => by
  show f ∈ rowL D (-s + (i : Int)) s.toNat (allL D s i) ↔ _
  rw [rowL_mem, allL_mem]
  constructor
  ·rintro (⟨h, k, q1, q2⟩ | ⟨k, q⟩)
   ·exact ⟨h, k, by omega, q2⟩
   ·exact ⟨i, k, by omega, q⟩
  ·rintro ⟨h, k, q1, q2⟩
   rcases Nat.lt_or_ge h i with q | q
   ·exact .inl ⟨h, k, q, q2⟩
   ·obtain rfl : h = i := by omega
    exact .inr ⟨k, q2⟩
theorem cF_disc {D a b : Int} (ha : a ≠ 0) (h : (D - b * b) % (4 * a) = 0) : (cF D a b).disc = D := by
 have hdv : 4 * a ∣ D - b * b := Int.dvd_of_emod_eq_zero h
 obtain ⟨q, hq⟩ := hdv
 have e : (b * b - D) / (4 * a) = -q := by
  rw [show b * b - D = 4 * a * -q by rw [Int.mul_neg]; omega]
  exact Int.mul_ediv_cancel_left _ (by omega)
 unfold cF Fm.disc
 rw [e]
 show b * b - 4 * a * -q = D
 rw [Int.mul_neg]
 omega
theorem goodF_spec {D a b : Int} (h : goodF D a b = true) : a ≠ 0 ∧ redQ (cF D a b) = true ∧ primF (cF D a b) = true ∧ (cF D a b).disc = D := by
 simp only [goodF, Bool.and_eq_true, decide_eq_true_eq] at h
 exact ⟨h.1, h.2.2.1, h.2.2.2, cF_disc h.1 h.2.1⟩
theorem listL_mem {d : Int} (hk : knE d = 0) {f : Fm} : f ∈ listL d ↔ f.disc = d ∧ redQ f = true ∧ primF f = true := by
 obtain ⟨hd, hs, _⟩ := kn_dis hk
 unfold listL
 rw [allL_mem]
 constructor
 ·rintro ⟨h, k, _, _, q, rfl⟩
  have := goodF_spec q
  exact ⟨this.2.2.2, this.2.1, this.2.2.1⟩
 ·rintro ⟨h1, h2, h3⟩
  obtain ⟨q, hr⟩ := redQ_RD.1 h2
  rw [h1] at hr
  have hA := hr.abs
  have hB0 := hr.r.b0
  have hB1 := hr.r.b1
  have hs0 := hd.pos
  have hA0 := (disc_ne hd h1).1
  refine ⟨(f.A + knS d).toNat, (f.B - 1).toNat, by omega, by omega, ?_⟩
  have ea : -knS d + ((f.A + knS d).toNat : Int) = f.A := by omega
  have eb : ((f.B - 1).toNat : Int) + 1 = f.B := by omega
  rw [ea, eb]
  have e1 : d - f.B * f.B = 4 * f.A * -f.C := by
   unfold Fm.disc at h1
   rw [Int.mul_neg]
   omega
  have e2 : cF d f.A f.B = f := by
   unfold cF
   rw [show f.B * f.B - d = 4 * f.A * f.C by rw [Int.mul_neg] at e1; omega, Int.mul_ediv_cancel_left _ (by omega)]
  refine ⟨?_, e2.symm⟩
  unfold goodF
  rw [e2, h2, h3, decide_eq_true hA0, e1, decide_eq_true (Int.mul_emod_right _ _)]
  rfl
theorem listL_le {d : Int} (hk : knE d = 0) : (listL d).length ≤ 511 * 255 := by
 obtain ⟨hd, hs, _⟩ := kn_dis hk
 have h1 := allL_len d (knS d) (2 * (knS d).toNat + 1)
 have h2 : (2 * (knS d).toNat + 1) * (knS d).toNat ≤ 511 * 255 := Nat.mul_le_mul (by omega) (by omega)
 unfold listL
 omega
end Go.Proofs.YtnfmjlhkknndhaaGreat
/-
 Contracts of functions: algoristref17 (cycles of the reference), what its descriptions are.
-/
namespace Go.Proofs.YtnfmjlhkknndhaaGreat
open Go Go.RowKit
open Go.IntKind (wrap i64 i32 i16 i8 u64 u32 u16 u8)
def sizeGo : Nat → Int → Int
 | 0, n => n
 | k + 1, n => if knE n = 0 then n else sizeGo k (n + 1)
def sizeD (d : Int) : Int := sizeGo 10 (5 + d % 1995)
theorem size_all : ∀ n : Nat, n < 1995 → ∃ j : Nat, j < 10 ∧ knE (5 + (n : Int) + (j : Int)) = 0 := by
 have h : ∀ n : Fin 1995, ∃ j : Fin 10, knE (5 + (n.val : Int) + (j.val : Int)) = 0 := by decide +kernel
 intro n hn
 obtain ⟨j, hj⟩ := h ⟨n, hn⟩
 exact ⟨j.val, j.isLt, hj⟩
theorem sizeGo_succ (k : Nat) (n : Int) : sizeGo (k + 1) n = if knE n = 0 then n else sizeGo k (n + 1) := rfl
theorem sizeGo_spec : ∀ (k j : Nat) (n : Int), j < k → knE (n + j) = 0 → knE (sizeGo k n) = 0 ∧ n ≤ sizeGo k n ∧ sizeGo k n ≤ n + j
 | 0, j, n, h, _ => absurd h (by omega)
 | k + 1, j, n, h, hj => by
  unfold sizeGo
  by_cases h0 : knE n = 0
  ·rw [if_pos h0]; exact ⟨h0, by omega, by omega⟩
  ·rw [if_neg h0]
   have hj0 : j ≠ 0 := fun e => h0 (by rw [e] at hj; simpa using hj)
   obtain ⟨k1, k2, k3⟩ := sizeGo_spec k (j - 1) (n + 1) (by omega) (by rw [show n + 1 + ((j - 1 : Nat) : Int) = n + j by omega]; exact hj)
   exact ⟨k1, by omega, by omega⟩
theorem size_spec {d : Int} (_h : 0 ≤ d) : knE (sizeD d) = 0 ∧ 5 ≤ sizeD d ∧ sizeD d ≤ 2008 := by
 obtain ⟨j, h1, h2⟩ := size_all (d % 1995).toNat (by omega)
 have e : (((d % 1995).toNat : Nat) : Int) = d % 1995 := by omega
 rw [e] at h2
 obtain ⟨k1, k2, k3⟩ := sizeGo_spec 10 j (5 + d % 1995) h1 h2
 exact ⟨k1, by unfold sizeD; omega, by unfold sizeD; omega⟩
theorem nsq_mono {a b : Nat} (h : a ≤ b) : nsq a ≤ nsq b := by
 obtain ⟨h1, _⟩ := nsq_spec a
 obtain ⟨_, h4⟩ := nsq_spec b
 rcases Nat.lt_or_ge (nsq b) (nsq a) with q | q
 ·have := Nat.mul_le_mul (show nsq b + 1 ≤ nsq a by omega) (show nsq b + 1 ≤ nsq a by omega)
  omega
 ·exact q
theorem size_root {d : Int} (h : 0 ≤ d) : 2 ≤ knS (sizeD d) ∧ knS (sizeD d) ≤ 44 := by
 obtain ⟨h1, h2, h3⟩ := size_spec h
 have h4 := nsq_mono (show 5 ≤ (sizeD d).natAbs by omega)
 have h5 := nsq_mono (show (sizeD d).natAbs ≤ 2008 by omega)
 have e1 : nsq 5 = 2 := rfl
 have e2 : nsq 2008 = 44 := rfl
 rw [knS_ok h1]
 omega
theorem listL_ne {d : Int} (hk : knE d = 0) (h2 : 2 ≤ knS d) : listL d ≠ [] := by
 obtain ⟨hd, hs, hd2, h4⟩ := kn_dis hk
 have hs0 := hd.pos
 have hlo := hd.lo
 have hhi := hd.hi
 obtain ⟨b, hb, hb2⟩ : ∃ b : Int, (b = knS d ∨ b = knS d - 1) ∧ b % 2 = d % 4 := by
  rcases (show d % 4 = 0 ∨ d % 4 = 1 by omega) with h | h <;> rcases (show knS d % 2 = 0 ∨ knS d % 2 = 1 by omega) with h' | h'
  ·exact ⟨knS d, .inl rfl, by omega⟩
  ·exact ⟨knS d - 1, .inr rfl, by omega⟩
  ·exact ⟨knS d - 1, .inr rfl, by omega⟩
  ·exact ⟨knS d, .inl rfl, by omega⟩
 have hm := sq_mod4 b
 obtain ⟨c, hc⟩ : ∃ c : Int, b * b - d = 4 * c := ⟨(b * b - d) / 4, by omega⟩
 have hf : (⟨1, b, c⟩ : Fm).disc = d := by
  show b * b - 4 * 1 * c = d
  omega
 have hmem : (⟨1, b, c⟩ : Fm) ∈ listL d := (listL_mem hk).2 ⟨hf, redQ_iff.2 (by
  rw [hf]
  exact ⟨hk, ⟨by show 0 < b; omega, by show b ≤ _; omega, by show knS d < 2 * ((1 : Int).natAbs : Int) + b; simp; omega, by show 2 * ((1 : Int).natAbs : Int) - b ≤ _; simp; omega⟩⟩), by
  unfold primF
  refine decide_eq_true ?_
  show Int.gcd (Int.gcd 1 b : Int) c = 1
  rw [Int.one_gcd]
  exact Int.one_gcd⟩
 intro e
 rw [e] at hmem
 simp at hmem
def a_size (b : Int) : Nat → MS → Option LoopAnn
 | 2, _ => some (.inv WalkI (fun i => i.i ≤ 9 ∧ sizeGo (10 - i.i) (b + (i.i : Int)) = sizeGo 10 b ∧ ∃ j : Nat, i.i ≤ j ∧ j ≤ 9 ∧ knE (b + (j : Int)) = 0) (fun i => ⟨16, [(3, .int .i64 (b + (i.i : Int)))], [], 0⟩) (fun i => 10 - i.i))
 | _, _ => none
theorem vc_size (d i0 i1 m0 m1 : Int) : (((1995 : Int) = 0 → False) ∧ (∃ i : WalkI, (i.1 ≤ 9 ∧ sizeGo ((10 : Nat) - i.1) ((5 : Int) + d % 1995 + (↑(i.1) : Int)) = sizeGo (10 : Nat) ((5 : Int) + d % 1995) ∧ ∃ j, i.1 ≤ j ∧ j ≤ 9 ∧ knE ((5 : Int) + d % 1995 + (↑j : Int)) = 0) ∧ (wrap i64 ((5 : Int) + wrap i64 (Int.tmod d (1995 : Int))) = 5 + d % 1995 + (↑(i.1) : Int) ∧ True) ∧ True) ∧ ∀ (i : WalkI), (i.1 ≤ 9 ∧ sizeGo ((10 : Nat) - i.1) ((5 : Int) + d % 1995 + (↑(i.1) : Int)) = sizeGo (10 : Nat) ((5 : Int) + d % 1995) ∧ ∃ j, i.1 ≤ j ∧ j ≤ 9 ∧ knE ((5 : Int) + d % 1995 + (↑j : Int)) = 0) → Fit ((5 : Int) + d % 1995 + (↑(i.1) : Int)) ∧ (64 : Nat) ≤ 100000 ∧ bif knE ((5 : Int) + d % 1995 + (↑(i.1) : Int)) != 0 then ∃ j : WalkI, (j.1 ≤ 9 ∧ sizeGo ((10 : Nat) - j.1) ((5 : Int) + d % 1995 + (↑(j.1) : Int)) = sizeGo (10 : Nat) ((5 : Int) + d % 1995) ∧ ∃ j_1, j.1 ≤ j_1 ∧ j_1 ≤ 9 ∧ knE ((5 : Int) + d % 1995 + (↑j_1 : Int)) = 0) ∧ ((wrap i64 ((5 : Int) + d % 1995 + (↑(i.1) : Int) + 1) = 5 + d % 1995 + (↑(j.1) : Int) ∧ True) ∧ True) ∧ (10 : Nat) - j.1 < 10 - i.1 else (5 : Int) + d % 1995 + (↑(i.1) : Int) = sizeD d) = evFn (env [c_rof, c_r17known] (a_size (5 + d % 1995))) Tryz.f29 [.st [.int .u16 d, .st [.int .u16 i0, .int .u16 i1], .st [.int .u8 m0, .int .u8 m1]]] (MRes.sat (.ret (.int .i64 (sizeD d)))) := by kernel_rfl
def s_size : FSpec
 | [.st [.int .u16 d, .st [.int .u16 _, .int .u16 _], .st [.int .u8 _, .int .u8 _]]] => some (some (0 ≤ d ∧ d < 65536), .ret (.int .i64 (sizeD d)))
 | _ => none
theorem p_size : Good Tryz.f29 s_size := by
 intro ms p r h hp
 unfold s_size at h
 split at h
 ·rename_i d i0 i1 m0 m1
  simp only [Option.some.injEq, Prod.mk.injEq] at h
  obtain ⟨rfl, rfl⟩ := h
  obtain ⟨h1, h2⟩ : 0 ≤ d ∧ d < 65536 := hp
  refine ⟨env [c_rof, c_r17known] (a_size (5 + d % 1995)), ?_⟩
  rw [← vc_size d i0 i1 m0 m1]
  obtain ⟨j0, j1, j2⟩ := size_all (d % 1995).toNat (by omega)
  have e : (((d % 1995).toNat : Nat) : Int) = d % 1995 := by omega
  rw [e] at j2
  have hm : 0 ≤ d % 1995 ∧ d % 1995 < 1995 := by omega
  have e1 : wrap i64 (5 + wrap i64 (Int.tmod d 1995)) = 5 + d % 1995 := by
   rw [Int.tmod_eq_emod_of_nonneg h1]
   have a1 : wrap i64 (d % 1995) = d % 1995 := i64w (by omega) (by omega)
   rw [a1]
   exact i64w (by omega) (by omega)
  rw [e1]
  have eS : sizeD d = sizeGo 10 (5 + d % 1995) := rfl
  rw [eS]
  have hb : 5 ≤ 5 + d % 1995 ∧ 5 + d % 1995 < 2000 := by omega
  clear hm e1 eS e
  generalize 5 + d % 1995 = b at *
  refine ⟨by omega, ⟨⟨0⟩, ⟨Nat.zero_le _, by simp, j0, Nat.zero_le _, by omega, j2⟩, ⟨by simp, True.intro⟩, True.intro⟩, fun i hi => ?_⟩
  obtain ⟨i⟩ := i
  obtain ⟨i1, i2, j, i3, i4, i5⟩ : i ≤ 9 ∧ sizeGo (10 - i) (b + (i : Int)) = sizeGo 10 b ∧ ∃ j : Nat, i ≤ j ∧ j ≤ 9 ∧ knE (b + (j : Int)) = 0 := hi
  dsimp only
  have e10 : 10 - i = (10 - (i + 1)) + 1 := by omega
  rw [e10, sizeGo_succ (10 - (i + 1))] at i2
  refine ⟨by omega, by omega, condI bne_iff_ne (fun q => ?_) (fun q => ?_)⟩
  ·rw [if_neg q] at i2
   have hij : i ≠ j := fun e => q (by rw [e]; exact i5)
   have e2 : wrap i64 (b + (i : Int) + 1) = b + ((i + 1 : Nat) : Int) := by rw [i64w (by omega) (by omega)]; omega
   rw [e2]
   refine ⟨⟨i + 1⟩, ⟨by show i + 1 ≤ 9; omega, ?_, j, by show i + 1 ≤ j; omega, i4, i5⟩, ⟨⟨rfl, True.intro⟩, True.intro⟩, by show 10 - (i + 1) < 10 - i; omega⟩
   show sizeGo (10 - (i + 1)) (b + ((i + 1 : Nat) : Int)) = _
   rw [show b + ((i + 1 : Nat) : Int) = b + (i : Int) + 1 by omega]
   exact i2
  ·rw [if_pos (Decidable.not_not.1 q)] at i2
   exact i2
 ·simp at h
def c_size : Ctr Tryz.prog := ⟨29, s_size, fun args w => Tryz.call29 args w, fn_ok mix Tryz.func29 s_size p_size⟩
def madeF (d i m : Int) : Fm := if m % 4 = 0 then (listL (sizeD d)).getD (i % (listL (sizeD d)).length).toNat ⟨0, 0, 0⟩ else ((listL (sizeD d)).getD (i % (listL (sizeD d)).length).toNat ⟨0, 0, 0⟩).app (turnM m)
theorem vc_made0 (d i0 i1 m0 m1 : Int) : (((0 : Int) ≤ d ∧ d < 65536) ∧ knE (sizeD d) = 0 ∧ ((2 : Int) = 0 → False) ∧ ((0 : Int) ≤ Int.tmod (0 : Int) (2 : Int) ∧ Int.tmod (0 : Int) (2 : Int) < (↑(2 : Nat) : Int)) ∧ ((↑(List.length (listL (sizeD d))) : Int) = 0 → False) ∧ ((0 : Int) ≤ Int.tmod (wrap i64 i0) (↑(List.length (listL (sizeD d))) : Int) ∧ Int.tmod (wrap i64 i0) (↑(List.length (listL (sizeD d))) : Int) < (↑(List.length (listL (sizeD d))) : Int)) ∧ ((2 : Int) = 0 → False) ∧ ((0 : Int) ≤ Int.tmod (0 : Int) (2 : Int) ∧ Int.tmod (0 : Int) (2 : Int) < (↑(2 : Nat) : Int)) ∧ ((4 : Int) = 0 → False) ∧ bif Int.tmod m0 (4 : Int) == 0 then LeB (Fm.A (List.getD (listL (sizeD d)) (Int.toNat (Int.tmod (wrap i64 i0) (↑(List.length (listL (sizeD d))) : Int))) (Fm.mk (0 : Int) (0 : Int) (0 : Int)))) (Fm.A (madeF d i0 m0)) 64 20 ∧ LeB (Fm.B (List.getD (listL (sizeD d)) (Int.toNat (Int.tmod (wrap i64 i0) (↑(List.length (listL (sizeD d))) : Int))) (Fm.mk (0 : Int) (0 : Int) (0 : Int)))) (Fm.B (madeF d i0 m0)) 64 20 ∧ LeB (Fm.C (List.getD (listL (sizeD d)) (Int.toNat (Int.tmod (wrap i64 i0) (↑(List.length (listL (sizeD d))) : Int))) (Fm.mk (0 : Int) (0 : Int) (0 : Int)))) (Fm.C (madeF d i0 m0)) 64 20 ∧ True else ((2 : Int) = 0 → False) ∧ ((0 : Int) ≤ Int.tmod (0 : Int) (2 : Int) ∧ Int.tmod (0 : Int) (2 : Int) < (↑(2 : Nat) : Int)) ∧ ((0 : Int) ≤ m0 ∧ m0 < 256) ∧ ((64 : Nat) ≤ 40000 ∧ (64 : Nat) ≤ 40000 ∧ (64 : Nat) ≤ 40000 ∧ (6 : Nat) ≤ 100000 ∧ (6 : Nat) ≤ 100000 ∧ (6 : Nat) ≤ 100000 ∧ (6 : Nat) ≤ 100000) ∧ LeB (Fm.val (List.getD (listL (sizeD d)) (Int.toNat (Int.tmod (wrap i64 i0) (↑(List.length (listL (sizeD d))) : Int))) (Fm.mk (0 : Int) (0 : Int) (0 : Int))) (((1 : Int) * 0 + (m0 % 8 - 3) * 1) * 1 + ((1 : Int) * (-1 : Int) + (m0 % 8 - 3) * 0) * 0) (((0 : Int) * 0 + 1 * 1) * 1 + ((0 : Int) * (-1 : Int) + 1 * 0) * 0)) (Fm.A (madeF d i0 m0)) 146 20 ∧ LeB ((2 : Int) * (Fm.A (List.getD (listL (sizeD d)) (Int.toNat (Int.tmod (wrap i64 i0) (↑(List.length (listL (sizeD d))) : Int))) (Fm.mk (0 : Int) (0 : Int) (0 : Int))) * ((((1 : Int) * 0 + (m0 % 8 - 3) * 1) * 1 + ((1 : Int) * (-1 : Int) + (m0 % 8 - 3) * 0) * 0) * (((1 : Int) * 0 + (m0 % 8 - 3) * 1) * (m0 / 8 % 8 - 4) + ((1 : Int) * (-1 : Int) + (m0 % 8 - 3) * 0) * 1)) + Fm.C (List.getD (listL (sizeD d)) (Int.toNat (Int.tmod (wrap i64 i0) (↑(List.length (listL (sizeD d))) : Int))) (Fm.mk (0 : Int) (0 : Int) (0 : Int))) * ((((0 : Int) * 0 + 1 * 1) * 1 + ((0 : Int) * (-1 : Int) + 1 * 0) * 0) * (((0 : Int) * 0 + 1 * 1) * (m0 / 8 % 8 - 4) + ((0 : Int) * (-1 : Int) + 1 * 0) * 1))) + Fm.B (List.getD (listL (sizeD d)) (Int.toNat (Int.tmod (wrap i64 i0) (↑(List.length (listL (sizeD d))) : Int))) (Fm.mk (0 : Int) (0 : Int) (0 : Int))) * ((((1 : Int) * 0 + (m0 % 8 - 3) * 1) * 1 + ((1 : Int) * (-1 : Int) + (m0 % 8 - 3) * 0) * 0) * (((0 : Int) * 0 + 1 * 1) * (m0 / 8 % 8 - 4) + ((0 : Int) * (-1 : Int) + 1 * 0) * 1) + (((1 : Int) * 0 + (m0 % 8 - 3) * 1) * (m0 / 8 % 8 - 4) + ((1 : Int) * (-1 : Int) + (m0 % 8 - 3) * 0) * 1) * (((0 : Int) * 0 + 1 * 1) * 1 + ((0 : Int) * (-1 : Int) + 1 * 0) * 0))) (Fm.B (madeF d i0 m0)) 146 20 ∧ LeB (Fm.val (List.getD (listL (sizeD d)) (Int.toNat (Int.tmod (wrap i64 i0) (↑(List.length (listL (sizeD d))) : Int))) (Fm.mk (0 : Int) (0 : Int) (0 : Int))) (((1 : Int) * 0 + (m0 % 8 - 3) * 1) * (m0 / 8 % 8 - 4) + ((1 : Int) * (-1 : Int) + (m0 % 8 - 3) * 0) * 1) (((0 : Int) * 0 + 1 * 1) * (m0 / 8 % 8 - 4) + ((0 : Int) * (-1 : Int) + 1 * 0) * 1)) (Fm.C (madeF d i0 m0)) 146 20 ∧ True) = evFn (env [c_size, c_list, c_r8turn, c_r8apply] noAnn) Tryz.f13 [.st [.int .u16 d, .st [.int .u16 i0, .int .u16 i1], .st [.int .u8 m0, .int .u8 m1]], .int .i64 0] (MRes.sat (.ret (fmv (madeF d i0 m0) 20))) := by kernel_rfl
theorem vc_made1 (d i0 i1 m0 m1 : Int) : (((0 : Int) ≤ d ∧ d < 65536) ∧ knE (sizeD d) = 0 ∧ ((2 : Int) = 0 → False) ∧ ((0 : Int) ≤ Int.tmod (1 : Int) (2 : Int) ∧ Int.tmod (1 : Int) (2 : Int) < (↑(2 : Nat) : Int)) ∧ ((↑(List.length (listL (sizeD d))) : Int) = 0 → False) ∧ ((0 : Int) ≤ Int.tmod (wrap i64 i1) (↑(List.length (listL (sizeD d))) : Int) ∧ Int.tmod (wrap i64 i1) (↑(List.length (listL (sizeD d))) : Int) < (↑(List.length (listL (sizeD d))) : Int)) ∧ ((2 : Int) = 0 → False) ∧ ((0 : Int) ≤ Int.tmod (1 : Int) (2 : Int) ∧ Int.tmod (1 : Int) (2 : Int) < (↑(2 : Nat) : Int)) ∧ ((4 : Int) = 0 → False) ∧ bif Int.tmod m1 (4 : Int) == 0 then LeB (Fm.A (List.getD (listL (sizeD d)) (Int.toNat (Int.tmod (wrap i64 i1) (↑(List.length (listL (sizeD d))) : Int))) (Fm.mk (0 : Int) (0 : Int) (0 : Int)))) (Fm.A (madeF d i1 m1)) 64 20 ∧ LeB (Fm.B (List.getD (listL (sizeD d)) (Int.toNat (Int.tmod (wrap i64 i1) (↑(List.length (listL (sizeD d))) : Int))) (Fm.mk (0 : Int) (0 : Int) (0 : Int)))) (Fm.B (madeF d i1 m1)) 64 20 ∧ LeB (Fm.C (List.getD (listL (sizeD d)) (Int.toNat (Int.tmod (wrap i64 i1) (↑(List.length (listL (sizeD d))) : Int))) (Fm.mk (0 : Int) (0 : Int) (0 : Int)))) (Fm.C (madeF d i1 m1)) 64 20 ∧ True else ((2 : Int) = 0 → False) ∧ ((0 : Int) ≤ Int.tmod (1 : Int) (2 : Int) ∧ Int.tmod (1 : Int) (2 : Int) < (↑(2 : Nat) : Int)) ∧ ((0 : Int) ≤ m1 ∧ m1 < 256) ∧ ((64 : Nat) ≤ 40000 ∧ (64 : Nat) ≤ 40000 ∧ (64 : Nat) ≤ 40000 ∧ (6 : Nat) ≤ 100000 ∧ (6 : Nat) ≤ 100000 ∧ (6 : Nat) ≤ 100000 ∧ (6 : Nat) ≤ 100000) ∧ LeB (Fm.val (List.getD (listL (sizeD d)) (Int.toNat (Int.tmod (wrap i64 i1) (↑(List.length (listL (sizeD d))) : Int))) (Fm.mk (0 : Int) (0 : Int) (0 : Int))) (((1 : Int) * 0 + (m1 % 8 - 3) * 1) * 1 + ((1 : Int) * (-1 : Int) + (m1 % 8 - 3) * 0) * 0) (((0 : Int) * 0 + 1 * 1) * 1 + ((0 : Int) * (-1 : Int) + 1 * 0) * 0)) (Fm.A (madeF d i1 m1)) 146 20 ∧ LeB ((2 : Int) * (Fm.A (List.getD (listL (sizeD d)) (Int.toNat (Int.tmod (wrap i64 i1) (↑(List.length (listL (sizeD d))) : Int))) (Fm.mk (0 : Int) (0 : Int) (0 : Int))) * ((((1 : Int) * 0 + (m1 % 8 - 3) * 1) * 1 + ((1 : Int) * (-1 : Int) + (m1 % 8 - 3) * 0) * 0) * (((1 : Int) * 0 + (m1 % 8 - 3) * 1) * (m1 / 8 % 8 - 4) + ((1 : Int) * (-1 : Int) + (m1 % 8 - 3) * 0) * 1)) + Fm.C (List.getD (listL (sizeD d)) (Int.toNat (Int.tmod (wrap i64 i1) (↑(List.length (listL (sizeD d))) : Int))) (Fm.mk (0 : Int) (0 : Int) (0 : Int))) * ((((0 : Int) * 0 + 1 * 1) * 1 + ((0 : Int) * (-1 : Int) + 1 * 0) * 0) * (((0 : Int) * 0 + 1 * 1) * (m1 / 8 % 8 - 4) + ((0 : Int) * (-1 : Int) + 1 * 0) * 1))) + Fm.B (List.getD (listL (sizeD d)) (Int.toNat (Int.tmod (wrap i64 i1) (↑(List.length (listL (sizeD d))) : Int))) (Fm.mk (0 : Int) (0 : Int) (0 : Int))) * ((((1 : Int) * 0 + (m1 % 8 - 3) * 1) * 1 + ((1 : Int) * (-1 : Int) + (m1 % 8 - 3) * 0) * 0) * (((0 : Int) * 0 + 1 * 1) * (m1 / 8 % 8 - 4) + ((0 : Int) * (-1 : Int) + 1 * 0) * 1) + (((1 : Int) * 0 + (m1 % 8 - 3) * 1) * (m1 / 8 % 8 - 4) + ((1 : Int) * (-1 : Int) + (m1 % 8 - 3) * 0) * 1) * (((0 : Int) * 0 + 1 * 1) * 1 + ((0 : Int) * (-1 : Int) + 1 * 0) * 0))) (Fm.B (madeF d i1 m1)) 146 20 ∧ LeB (Fm.val (List.getD (listL (sizeD d)) (Int.toNat (Int.tmod (wrap i64 i1) (↑(List.length (listL (sizeD d))) : Int))) (Fm.mk (0 : Int) (0 : Int) (0 : Int))) (((1 : Int) * 0 + (m1 % 8 - 3) * 1) * (m1 / 8 % 8 - 4) + ((1 : Int) * (-1 : Int) + (m1 % 8 - 3) * 0) * 1) (((0 : Int) * 0 + 1 * 1) * (m1 / 8 % 8 - 4) + ((0 : Int) * (-1 : Int) + 1 * 0) * 1)) (Fm.C (madeF d i1 m1)) 146 20 ∧ True) = evFn (env [c_size, c_list, c_r8turn, c_r8apply] noAnn) Tryz.f13 [.st [.int .u16 d, .st [.int .u16 i0, .int .u16 i1], .st [.int .u8 m0, .int .u8 m1]], .int .i64 1] (MRes.sat (.ret (fmv (madeF d i1 m1) 20))) := by kernel_rfl
def s_made : FSpec
 | [.st [.int .u16 d, .st [.int .u16 i0, .int .u16 i1], .st [.int .u8 m0, .int .u8 m1]], .int .i64 k] => cond (k == (0 : Int))
   (some (some (0 ≤ d ∧ d < 65536 ∧ 0 ≤ i0 ∧ i0 < 65536 ∧ 0 ≤ m0 ∧ m0 < 256), .ret (fmv (madeF d i0 m0) 20)))
   (cond (k == (1 : Int)) (some (some (0 ≤ d ∧ d < 65536 ∧ 0 ≤ i1 ∧ i1 < 65536 ∧ 0 ≤ m1 ∧ m1 < 256), .ret (fmv (madeF d i1 m1) 20))) none)
 | _ => none
theorem made_len {d : Int} (h : 0 ≤ d) : 0 < (listL (sizeD d)).length ∧ (listL (sizeD d)).length ≤ 130305 := by
 have h1 := (size_spec h).1
 have h2 := listL_ne h1 (size_root h).1
 have h3 := listL_le h1
 have : 0 < (listL (sizeD d)).length := List.length_pos_iff.2 h2
 omega
theorem val_abs {f : Fm} (hA : f.A.natAbs ≤ 63) (hB : f.B.natAbs ≤ 63) (hC : f.C.natAbs ≤ 63) {x y : Int} (hx : x.natAbs ≤ 17) (hy : y.natAbs ≤ 17) : (f.val x y).natAbs ≤ 54621 := by
 have h1 : (f.A * (x * x)).natAbs ≤ 63 * (17 * 17) := by rw [Int.natAbs_mul, Int.natAbs_mul]; exact Nat.mul_le_mul hA (Nat.mul_le_mul hx hx)
 have h2 : (f.B * (x * y)).natAbs ≤ 63 * (17 * 17) := by rw [Int.natAbs_mul, Int.natAbs_mul]; exact Nat.mul_le_mul hB (Nat.mul_le_mul hx hy)
 have h3 : (f.C * (y * y)).natAbs ≤ 63 * (17 * 17) := by rw [Int.natAbs_mul, Int.natAbs_mul]; exact Nat.mul_le_mul hC (Nat.mul_le_mul hy hy)
 unfold Fm.val
 omega
theorem mid_abs {f : Fm} (hA : f.A.natAbs ≤ 63) (hB : f.B.natAbs ≤ 63) (hC : f.C.natAbs ≤ 63) {m : Mx} (ha : m.a.natAbs ≤ 17) (hb : m.b.natAbs ≤ 17) (hc : m.c.natAbs ≤ 17) (hd : m.d.natAbs ≤ 17) : (f.app m).B.natAbs ≤ 109242 := by
 have h1 : (f.A * (m.a * m.b)).natAbs ≤ 63 * (17 * 17) := by rw [Int.natAbs_mul, Int.natAbs_mul]; exact Nat.mul_le_mul hA (Nat.mul_le_mul ha hb)
 have h2 : (f.C * (m.c * m.d)).natAbs ≤ 63 * (17 * 17) := by rw [Int.natAbs_mul, Int.natAbs_mul]; exact Nat.mul_le_mul hC (Nat.mul_le_mul hc hd)
 have h3 : (m.a * m.d).natAbs ≤ 17 * 17 := by rw [Int.natAbs_mul]; exact Nat.mul_le_mul ha hd
 have h4 : (m.b * m.c).natAbs ≤ 17 * 17 := by rw [Int.natAbs_mul]; exact Nat.mul_le_mul hb hc
 have h5 : (f.B * (m.a * m.d + m.b * m.c)).natAbs ≤ 63 * 578 := by rw [Int.natAbs_mul]; exact Nat.mul_le_mul hB (by omega)
 show (2 * (f.A * (m.a * m.b) + f.C * (m.c * m.d)) + f.B * (m.a * m.d + m.b * m.c)).natAbs ≤ 109242
 omega
theorem turn_abs {b : Int} (_h0 : 0 ≤ b) (_h1 : b < 256) : (turnM b).a.natAbs ≤ 17 ∧ (turnM b).b.natAbs ≤ 17 ∧ (turnM b).c.natAbs ≤ 17 ∧ (turnM b).d.natAbs ≤ 17 := by
 have e : turnM b = ⟨b % 8 - 3, (b % 8 - 3) * (b / 8 % 8 - 4) - 1, 1, b / 8 % 8 - 4⟩ := by
  unfold turnM
  simp only [Mx.mul, Mx.mk.injEq]
  refine ⟨?_, ?_, ?_, ?_⟩ <;> grind
 rw [e]
 have hu : (b % 8 - 3).natAbs ≤ 4 := by omega
 have hv : (b / 8 % 8 - 4).natAbs ≤ 4 := by omega
 have huv : ((b % 8 - 3) * (b / 8 % 8 - 4)).natAbs ≤ 16 := by rw [Int.natAbs_mul]; exact Nat.mul_le_mul hu hv
 simp only
 omega
theorem made_disc0 {d i : Int} (h : 0 ≤ d) : (listL (sizeD d)).getD (i % (listL (sizeD d)).length).toNat ⟨0, 0, 0⟩ ∈ listL (sizeD d) := by
 obtain ⟨l1, _⟩ := made_len h
 have r1 := Int.emod_nonneg i (show ((listL (sizeD d)).length : Int) ≠ 0 by omega)
 have r2 := Int.emod_lt_of_pos i (show (0 : Int) < (listL (sizeD d)).length by omega)
 rw [getD_at (by omega)]
 exact List.getElem_mem _
theorem made_bd {d i m : Int} (h : 0 ≤ d) (m0 : 0 ≤ m) (m1 : m < 256) : (madeF d i m).bd 20 := by
 have hk := (size_spec h).1
 obtain ⟨h5, h6, _⟩ := (listL_mem hk).1 (made_disc0 (i := i) h)
 obtain ⟨q, hr⟩ := redQ_RD.1 h6
 rw [h5] at hr
 obtain ⟨hd, _⟩ := kn_dis hk
 have hs := (size_root h).2
 have b1 := hr.abs
 have b2 := hr.r.b0
 have b3 := hr.r.b1
 obtain ⟨_, b4⟩ := red_mirror hd hr.h hr.r
 have e20 : (2 : Nat) ^ 20 = 1048576 := rfl
 unfold madeF
 generalize (listL (sizeD d)).getD (i % (listL (sizeD d)).length).toNat ⟨0, 0, 0⟩ = f at *
 split
 ·exact ⟨by omega, by omega, by omega⟩
 ·obtain ⟨t1, t2, t3, t4⟩ := turn_abs m0 m1
  have v1 := val_abs (f := f) (by omega) (by omega) (by omega) t1 t3
  have v2 := val_abs (f := f) (by omega) (by omega) (by omega) t2 t4
  have v3 := mid_abs (f := f) (by omega) (by omega) (by omega) t1 t2 t3 t4
  have e1 : (f.app (turnM m)).A = f.val (turnM m).a (turnM m).c := rfl
  have e2 : (f.app (turnM m)).C = f.val (turnM m).b (turnM m).d := rfl
  exact ⟨by rw [e1]; omega, by omega, by rw [e2]; omega⟩
theorem p_made : Good Tryz.f13 s_made := by
 intro ms p r h hp
 unfold s_made at h
 split at h
 ·rename_i d i0 i1 m0 m1 k
  have t0 : Int.tmod 0 2 = 0 := rfl
  have t1 : Int.tmod 1 2 = 1 := rfl
  cases hk : (k == (0 : Int)) with
  | true =>
   rw [hk, cond_true] at h
   obtain rfl : k = 0 := by simpa using hk
   simp only [Option.some.injEq, Prod.mk.injEq] at h
   obtain ⟨rfl, rfl⟩ := h
   obtain ⟨h1, h2, h3, h4, h5, h6⟩ : 0 ≤ d ∧ d < 65536 ∧ 0 ≤ i0 ∧ i0 < 65536 ∧ 0 ≤ m0 ∧ m0 < 256 := hp
   refine ⟨env [c_size, c_list, c_r8turn, c_r8apply] noAnn, ?_⟩
   rw [← vc_made0 d i0 i1 m0 m1]
   have hb := made_bd (i := i0) h1 h5 h6
   obtain ⟨l1, l2⟩ := made_len h1
   have e1 : wrap i64 i0 = i0 := i64w (by omega) (by omega)
   rw [e1, Int.tmod_eq_emod_of_nonneg h3, Int.tmod_eq_emod_of_nonneg h5, t0]
   have r1 := Int.emod_nonneg i0 (show ((listL (sizeD d)).length : Int) ≠ 0 by omega)
   have r2 := Int.emod_lt_of_pos i0 (show (0 : Int) < (listL (sizeD d)).length by omega)
   refine ⟨⟨h1, h2⟩, (size_spec h1).1, by omega, ⟨by omega, by omega⟩, by omega, ⟨r1, r2⟩, by omega, ⟨by omega, by omega⟩, by omega, condI beq_iff_eq (fun q => ?_) (fun q => ?_)⟩
   ·have e : madeF d i0 m0 = (listL (sizeD d)).getD (i0 % (listL (sizeD d)).length).toNat ⟨0, 0, 0⟩ := if_pos q
    rw [e] at hb ⊢
    exact ⟨⟨rfl, .inr hb.A⟩, ⟨rfl, .inr hb.B⟩, ⟨rfl, .inr hb.C⟩, True.intro⟩
   ·have e : madeF d i0 m0 = ((listL (sizeD d)).getD (i0 % (listL (sizeD d)).length).toNat ⟨0, 0, 0⟩).app (turnM m0) := if_neg q
    rw [e] at hb ⊢
    exact ⟨by omega, ⟨by omega, by omega⟩, ⟨h5, h6⟩, by omega, ⟨rfl, .inr hb.A⟩, ⟨rfl, .inr hb.B⟩, ⟨rfl, .inr hb.C⟩, True.intro⟩
  | false =>
   rw [hk, cond_false] at h
   cases hk2 : (k == (1 : Int)) with
   | false => rw [hk2, cond_false] at h; simp at h
   | true =>
    rw [hk2, cond_true] at h
    obtain rfl : k = 1 := by simpa using hk2
    simp only [Option.some.injEq, Prod.mk.injEq] at h
    obtain ⟨rfl, rfl⟩ := h
    obtain ⟨h1, h2, h3, h4, h5, h6⟩ : 0 ≤ d ∧ d < 65536 ∧ 0 ≤ i1 ∧ i1 < 65536 ∧ 0 ≤ m1 ∧ m1 < 256 := hp
    refine ⟨env [c_size, c_list, c_r8turn, c_r8apply] noAnn, ?_⟩
    rw [← vc_made1 d i0 i1 m0 m1]
    have hb := made_bd (i := i1) h1 h5 h6
    obtain ⟨l1, l2⟩ := made_len h1
    have e1 : wrap i64 i1 = i1 := i64w (by omega) (by omega)
    rw [e1, Int.tmod_eq_emod_of_nonneg h3, Int.tmod_eq_emod_of_nonneg h5, t1]
    have r1 := Int.emod_nonneg i1 (show ((listL (sizeD d)).length : Int) ≠ 0 by omega)
    have r2 := Int.emod_lt_of_pos i1 (show (0 : Int) < (listL (sizeD d)).length by omega)
    refine ⟨⟨h1, h2⟩, (size_spec h1).1, by omega, ⟨by omega, by omega⟩, by omega, ⟨r1, r2⟩, by omega, ⟨by omega, by omega⟩, by omega, condI beq_iff_eq (fun q => ?_) (fun q => ?_)⟩
    ·have e : madeF d i1 m1 = (listL (sizeD d)).getD (i1 % (listL (sizeD d)).length).toNat ⟨0, 0, 0⟩ := if_pos q
     rw [e] at hb ⊢
     exact ⟨⟨rfl, .inr hb.A⟩, ⟨rfl, .inr hb.B⟩, ⟨rfl, .inr hb.C⟩, True.intro⟩
    ·have e : madeF d i1 m1 = ((listL (sizeD d)).getD (i1 % (listL (sizeD d)).length).toNat ⟨0, 0, 0⟩).app (turnM m1) := if_neg q
     rw [e] at hb ⊢
     exact ⟨by omega, ⟨by omega, by omega⟩, ⟨h5, h6⟩, by omega, ⟨rfl, .inr hb.A⟩, ⟨rfl, .inr hb.B⟩, ⟨rfl, .inr hb.C⟩, True.intro⟩
 ·simp at h
def c_made : Ctr Tryz.prog := ⟨13, s_made, fun args w => Tryz.call13 args w, fn_ok mix Tryz.func13 s_made p_made⟩
theorem turn_det (b : Int) : (turnM b).det = 1 := by
 unfold turnM
 rw [det_mul, det_mul]
 simp [Mx.det]
theorem app_disc1 {f : Fm} {m : Mx} (h : m.det = 1) : (f.app m).disc = f.disc := by rw [app_disc, h]; omega
theorem made_disc {d i m : Int} (h : 0 ≤ d) : (madeF d i m).disc = sizeD d := by
 have h5 := ((listL_mem (size_spec h).1).1 (made_disc0 (i := i) h)).1
 unfold madeF
 split
 ·exact h5
 ·rw [app_disc1 (turn_det m), h5]
structure OkX (d i0 i1 m0 m1 : Int) : Prop where
 a : 0 ≤ d
 b : d < 65536
 c : 0 ≤ i0
 d : i0 < 65536
 e : 0 ≤ i1
 f : i1 < 65536
 g : 0 ≤ m0
 h : m0 < 256
 i : 0 ≤ m1
 j : m1 < 256
end Go.Proofs.YtnfmjlhkknndhaaGreat
/-
 Contracts of functions: algoristlaw17, the examples.
-/
namespace Go.Proofs.YtnfmjlhkknndhaaGreat
open Go Go.RowKit
open Go.IntKind (wrap i64 i32 i16 i8 u64 u32 u16 u8)
theorem vc_lex  : (Fit 12 ∧ (64 : Nat) ≤ 100000 ∧ Fit 5 ∧ (64 : Nat) ≤ 100000 ∧ ((-9223372036854775808 : Int) ≤ 1 ∧ (1 : Int) ≤ 9223372036854775807 ∧ (-9223372036854775808 : Int) ≤ 2 ∧ (2 : Int) ≤ 9223372036854775807 ∧ (-9223372036854775808 : Int) ≤ (-2 : Int) ∧ (-2 : Int) ≤ 9223372036854775807) ∧ ((64 : Nat) ≤ 10000 ∧ (64 : Nat) ≤ 10000 ∧ (64 : Nat) ≤ 10000) ∧ ((-9223372036854775808 : Int) ≤ 1 ∧ (1 : Int) ≤ 9223372036854775807 ∧ (-9223372036854775808 : Int) ≤ 0 ∧ (0 : Int) ≤ 9223372036854775807 ∧ (-9223372036854775808 : Int) ≤ (-3 : Int) ∧ (-3 : Int) ≤ 9223372036854775807) ∧ ((64 : Nat) ≤ 300 ∧ (64 : Nat) ≤ 300 ∧ (64 : Nat) ≤ 300) ∧ Fit 9 ∧ (64 : Nat) ≤ 100000 ∧ Fit 65545 ∧ (64 : Nat) ≤ 100000 ∧ ((-9223372036854775808 : Int) ≤ 1 ∧ (1 : Int) ≤ 9223372036854775807 ∧ (-9223372036854775808 : Int) ≤ 0 ∧ (0 : Int) ≤ 9223372036854775807 ∧ (-9223372036854775808 : Int) ≤ 1 ∧ (1 : Int) ≤ 9223372036854775807) ∧ ((64 : Nat) ≤ 300 ∧ (64 : Nat) ≤ 300 ∧ (64 : Nat) ≤ 300) ∧ ((-9223372036854775808 : Int) ≤ 1 ∧ (1 : Int) ≤ 9223372036854775807 ∧ (-9223372036854775808 : Int) ≤ 2 ∧ (2 : Int) ≤ 9223372036854775807 ∧ (-9223372036854775808 : Int) ≤ (-2 : Int) ∧ (-2 : Int) ≤ 9223372036854775807) ∧ Fit 2 ∧ ((64 : Nat) ≤ 300 ∧ (64 : Nat) ≤ 300 ∧ (64 : Nat) ≤ 300 ∧ (64 : Nat) ≤ 100000) ∧ ((0 : Int) ≤ 0 ∧ (0 : Int) < (↑(2 : Nat) : Int)) ∧ ((-9223372036854775808 : Int) ≤ (-2 : Int) ∧ (-2 : Int) ≤ 9223372036854775807 ∧ (-9223372036854775808 : Int) ≤ 2 ∧ (2 : Int) ≤ 9223372036854775807 ∧ (-9223372036854775808 : Int) ≤ 1 ∧ (1 : Int) ≤ 9223372036854775807) ∧ ((-9223372036854775808 : Int) ≤ 1 ∧ (1 : Int) ≤ 9223372036854775807 ∧ (-9223372036854775808 : Int) ≤ 2 ∧ (2 : Int) ≤ 9223372036854775807 ∧ (-9223372036854775808 : Int) ≤ (-2 : Int) ∧ (-2 : Int) ≤ 9223372036854775807) ∧ ((∀ (i : Nat), i < 2 → isFm (1000 : Nat) (fL (cyG (List.getD (cysL (12 : Int)) (0 : Nat) (Fm.mk (0 : Int) (0 : Int) (0 : Int)))) (8 : Nat) i)) ∧ (∀ (i : Nat), i < 2 → isFm (1000 : Nat) (rowOf [MV.st [MV.big (-2 : Int) (64 : Nat), MV.big (2 : Int) (64 : Nat), MV.big (1 : Int) (64 : Nat)], MV.st [MV.big (1 : Int) (64 : Nat), MV.big (2 : Int) (64 : Nat), MV.big (-2 : Int) (64 : Nat)]] i)) ∧ (2 : Nat) ≤ 1000000000) ∧ ((0 : Int) ≤ 1 ∧ (1 : Int) < (↑(2 : Nat) : Int)) ∧ ((-9223372036854775808 : Int) ≤ (-1 : Int) ∧ (-1 : Int) ≤ 9223372036854775807 ∧ (-9223372036854775808 : Int) ≤ 2 ∧ (2 : Int) ≤ 9223372036854775807 ∧ (-9223372036854775808 : Int) ≤ 2 ∧ (2 : Int) ≤ 9223372036854775807) ∧ ((-9223372036854775808 : Int) ≤ 2 ∧ (2 : Int) ≤ 9223372036854775807 ∧ (-9223372036854775808 : Int) ≤ 2 ∧ (2 : Int) ≤ 9223372036854775807 ∧ (-9223372036854775808 : Int) ≤ (-1 : Int) ∧ (-1 : Int) ≤ 9223372036854775807) ∧ ((∀ (i : Nat), i < 2 → isFm (1000 : Nat) (fL (cyG (List.getD (cysL (12 : Int)) (1 : Nat) (Fm.mk (0 : Int) (0 : Int) (0 : Int)))) (8 : Nat) i)) ∧ (∀ (i : Nat), i < 2 → isFm (1000 : Nat) (rowOf [MV.st [MV.big (-1 : Int) (64 : Nat), MV.big (2 : Int) (64 : Nat), MV.big (2 : Int) (64 : Nat)], MV.st [MV.big (2 : Int) (64 : Nat), MV.big (2 : Int) (64 : Nat), MV.big (-1 : Int) (64 : Nat)]] i)) ∧ (2 : Nat) ≤ 1000000000) ∧ ((-9223372036854775808 : Int) ≤ (-2 : Int) ∧ (-2 : Int) ≤ 9223372036854775807 ∧ (-9223372036854775808 : Int) ≤ 2 ∧ (2 : Int) ≤ 9223372036854775807 ∧ (-9223372036854775808 : Int) ≤ 1 ∧ (1 : Int) ≤ 9223372036854775807) ∧ ((64 : Nat) ≤ 1000000 ∧ (64 : Nat) ≤ 1000000 ∧ (64 : Nat) ≤ 1000000 ∧ (64 : Nat) ≤ 1000000 ∧ (64 : Nat) ≤ 1000000 ∧ (64 : Nat) ≤ 1000000) ∧ ((-9223372036854775808 : Int) ≤ 1 ∧ (1 : Int) ≤ 9223372036854775807 ∧ (-9223372036854775808 : Int) ≤ 2 ∧ (2 : Int) ≤ 9223372036854775807 ∧ (-9223372036854775808 : Int) ≤ (-2 : Int) ∧ (-2 : Int) ≤ 9223372036854775807) ∧ ((64 : Nat) ≤ 40000 ∧ (64 : Nat) ≤ 40000 ∧ (64 : Nat) ≤ 40000 ∧ (64 : Nat) ≤ 100000 ∧ (64 : Nat) ≤ 100000 ∧ (64 : Nat) ≤ 100000 ∧ (64 : Nat) ≤ 100000) ∧ ((262 : Nat) ≤ 1000000 ∧ (262 : Nat) ≤ 1000000 ∧ (262 : Nat) ≤ 1000000 ∧ (64 : Nat) ≤ 1000000 ∧ (64 : Nat) ≤ 1000000 ∧ (64 : Nat) ≤ 1000000) ∧ ((-9223372036854775808 : Int) ≤ 1 ∧ (1 : Int) ≤ 9223372036854775807 ∧ (-9223372036854775808 : Int) ≤ 2 ∧ (2 : Int) ≤ 9223372036854775807 ∧ (-9223372036854775808 : Int) ≤ (-2 : Int) ∧ (-2 : Int) ≤ 9223372036854775807) ∧ ((64 : Nat) ≤ 1000000 ∧ (64 : Nat) ≤ 1000000 ∧ (64 : Nat) ≤ 1000000 ∧ (64 : Nat) ≤ 1000000 ∧ (64 : Nat) ≤ 1000000 ∧ (64 : Nat) ≤ 1000000) ∧ ((4225 : Nat) ≤ 400000 ∧ (4225 : Nat) ≤ 400000 ∧ (4225 : Nat) ≤ 400000 ∧ (4225 : Nat) ≤ 400000) ∧ Fit 1 ∧ ((8451 : Nat) ≤ 1000000 ∧ (64 : Nat) ≤ 1000000) ∧ ((64 : Nat) ≤ 40000 ∧ (64 : Nat) ≤ 40000 ∧ (64 : Nat) ≤ 40000) ∧ ((-9223372036854775808 : Int) ≤ 1 ∧ (1 : Int) ≤ 9223372036854775807 ∧ (-9223372036854775808 : Int) ≤ 0 ∧ (0 : Int) ≤ 9223372036854775807 ∧ (-9223372036854775808 : Int) ≤ (-3 : Int) ∧ (-3 : Int) ≤ 9223372036854775807) ∧ ((64 : Nat) ≤ 40000 ∧ (64 : Nat) ≤ 40000 ∧ (64 : Nat) ≤ 40000) ∧ (!redQ (Fm.mk (1 : Int) (0 : Int) (-3 : Int))) = true) = evFn (env [c_cys, c_class, c_crho, c_creduce, c_ccycle, c_cshows, c_rof, c_r8of, c_r17sl, c_r8equal, c_r8apply, c_rsame, c_r8det, c_creduced] noAnn) Tryz.f12 [] (MRes.sat (.ret (.bool true))) := by kernel_rfl
theorem rowOf2 {f g : Fm} {n W : Nat} (h : n ≤ W) : ∀ i, i < 2 → isFm W (rowOf [.st [.big f.A n, .big f.B n, .big f.C n], .st [.big g.A n, .big g.B n, .big g.C n]] i) := by
 intro i hi
 have : i = 0 ∨ i = 1 := by omega
 rcases this with rfl | rfl
 ·exact isFm_fmv f h
 ·exact isFm_fmv g h
def s_lex : FSpec
 | [] => some (none, .ret (.bool true))
 | _ => none
set_option maxRecDepth 20000 in
theorem p_lex : Good Tryz.f12 s_lex := by
 intro ms p r h hp
 unfold s_lex at h
 split at h
 ·simp only [Option.some.injEq, Prod.mk.injEq] at h
  obtain ⟨rfl, rfl⟩ := h
  refine ⟨env [c_cys, c_class, c_crho, c_creduce, c_ccycle, c_cshows, c_rof, c_r8of, c_r17sl, c_r8equal, c_r8apply, c_rsame, c_r8det, c_creduced] noAnn, ?_⟩
  rw [← vc_lex]
  and_intros <;> first | omega | exact fun i _ => isFm_fmv _ (by omega) | exact rowOf2 (f := ⟨-2, 2, 1⟩) (g := ⟨1, 2, -2⟩) (by omega) | exact rowOf2 (f := ⟨-1, 2, 2⟩) (g := ⟨2, 2, -1⟩) (by omega) | rfl
 ·simp at h
noncomputable def c_lex : Ctr Tryz.prog := ⟨12, s_lex, fun args w => Tryz.call12 args w, fn_ok mix Tryz.func12 s_lex p_lex⟩
theorem condF {b : Bool} {x y : Prop} (hb : b = false) (h : y) : cond b x y := by subst hb; exact h
theorem condT {b : Bool} {x y : Prop} (hb : b = true) (h : x) : cond b x y := by subst hb; exact h
theorem not_of {b : Bool} (h : b = true) : (!b) = false := by rw [h]; rfl
theorem eqF_refl (f : Fm) : eqF f f = true := decide_eq_true rfl
end Go.Proofs.YtnfmjlhkknndhaaGreat
/-
 The frame of a law: what was read before the call is read behind it.
-/
namespace Go.Proofs.YtnfmjlhkknndhaaGreat
open Go Go.RowKit
open Go.IntKind (wrap i64 i32 i16 i8 u64 u32 u16 u8)
theorem mapM_keep {α β : Type} {f g : α → Option β} : ∀ (l : List α) (xs : List β), l.mapM f = some xs → (∀ a x, f a = some x → x ∈ xs → g a = some x) → l.mapM g = some xs
 | [], xs, h, _ => h
 | a :: l, xs, h, hk => by
  simp only [List.mapM_cons, Option.bind_eq_bind, Option.pure_def, Option.bind_eq_some_iff, Option.some.injEq] at h ⊢
  obtain ⟨x, h1, ys, h2, rfl⟩ := h
  exact ⟨x, hk a x h1 (List.mem_cons_self ..), ys, mapM_keep l ys h2 fun b y hb hy => hk b y hb (List.mem_cons_of_mem _ hy), rfl⟩
theorem mapM_keep2 {α β : Type} {f g : α → Option β} : ∀ (l : List α) (xs : List β), l.mapM f = some xs → (∀ a ∈ l, ∀ x, f a = some x → x ∈ xs → g a = some x) → l.mapM g = some xs
 | [], xs, h, _ => h
 | a :: l, xs, h, hk => by
  simp only [List.mapM_cons, Option.bind_eq_bind, Option.pure_def, Option.bind_eq_some_iff, Option.some.injEq] at h ⊢
  obtain ⟨x, h1, ys, h2, rfl⟩ := h
  exact ⟨x, hk a (List.mem_cons_self ..) x h1 (List.mem_cons_self ..), ys, mapM_keep2 l ys h2 fun b hb y hy hm => hk b (List.mem_cons_of_mem _ hb) y hy (List.mem_cons_of_mem _ hm), rfl⟩
theorem cell_keep {w w' : World} (e : ∀ b, b < w.heap.size → w'.heap[b]? = w.heap[b]?) {a : Addr} {v : Value} (h : w.cell? a = some v) : w'.cell? a = some v := by
 have hlt : a.block < w.heap.size := by
  unfold World.cell? at h
  split at h
  ·rename_i h0; exact (Array.getElem?_eq_some_iff.1 h0).1
  ·simp at h
 unfold World.cell? at h ⊢
 rw [e _ hlt]; exact h
theorem cells_keep {w w' : World} (e : ∀ b, b < w.heap.size → w'.heap[b]? = w.heap[b]?) {base : Nat} {a : Addr} {n : Nat} {vs : List Value} (h : w.cells? base a n = some vs) : w'.cells? base a n = some vs := by
 unfold World.cells? at h ⊢
 split at h
 ·rename_i hb
  rw [if_pos hb]
  exact mapM_keep _ _ h fun i v hi _ => cell_keep e hi
 ·simp at h
section
variable {H : Type} {enc : TypeId × Value → H} {P : Program} {w w' : World}
def subOk (P : Program) (L : List Nat) (t : Nat) : Bool := match P.underlying t with
 | some (.pointer e) => L.elem e
 | some (.slice e) => L.elem e && (0).blt (P.cellsOf e)
 | some (.struct fs) => fs.toList.all fun f => L.elem f.type
 | some (.array _ e) => L.elem e
 | some (.interface _) => false
 | some (.map _ e) => L.elem e
 | _ => true
theorem trod_keep {L : List Nat} (hL : L.all (subOk P L) = true) (e : ∀ b, b < w.heap.size → w'.heap[b]? = w.heap[b]?) (sp : Nat → Bool) (held : Bool) :
  ∀ (fuel : Nat) (t : TypeId) (cs : List Value) (x : DataW H × List MemPlace), t ∈ L → DataW.trod enc P w 0 (fun _ => true) held fuel t cs = some x → (∀ p ∈ x.2, sp p.block = true) → DataW.trod enc P w' 0 sp held fuel t cs = some x
 | 0, _, _, _, _, h, _ => by simp [DataW.trod] at h
 | fuel + 1, t, cs, x, ht, h, hsp => by
  have ih := trod_keep hL e sp held fuel
  have hok := List.all_eq_true.1 hL t ht
  unfold subOk at hok
  unfold DataW.trod at h ⊢
  have el : ∀ (a : Addr) (n : Nat) (u : TypeId) (y : DataW H × List MemPlace), u ∈ L → (w.cells? 0 a n).bind (DataW.trod enc P w 0 (fun _ => true) held fuel u) = some y → (∀ p ∈ y.2, sp p.block = true) → (w'.cells? 0 a n).bind (DataW.trod enc P w' 0 sp held fuel u) = some y := by
   intro a n u y hu hy hs
   obtain ⟨vs, h1, h2⟩ := Option.bind_eq_some_iff.1 hy
   exact Option.bind_eq_some_iff.2 ⟨vs, cells_keep e h1, ih u vs y hu h2 hs⟩
  split at h
  case h_21 => simp at h
  case h_6 =>
   rename_i hu
   rw [hu] at hok
   obtain ⟨y, h1, rfl⟩ := Option.map_eq_some_iff.1 h
   exact Option.map_eq_some_iff.2 ⟨y, el _ _ _ _ (List.mem_of_elem_eq_true hok) h1 fun p hp => hsp p (List.mem_append_right _ hp), rfl⟩
  case h_8 =>
   rename_i ee a len cap hu
   rw [hu] at hok
   simp only [Bool.and_eq_true, Nat.blt_eq] at hok
   have hee := List.mem_of_elem_eq_true hok.1
   dsimp only at h ⊢
   split at h
   ·rename_i hc
    rw [if_pos hc]
    obtain ⟨elems, h1, h⟩ := Option.bind_eq_some_iff.1 h
    obtain ⟨rest, h2, rfl⟩ := Option.map_eq_some_iff.1 h
    rw [if_pos rfl] at h2
    have hsz := hok.2
    have q1 : ∀ y ∈ elems, ∀ p ∈ y.2, sp p.block = true := fun y hy p hp => hsp p (List.mem_append_right _ (List.mem_flatMap.2 ⟨y, List.mem_append_left _ hy, hp⟩))
    have q2 : ∀ y ∈ rest, ∀ p ∈ y.2, sp p.block = true := fun y hy p hp => hsp p (List.mem_append_right _ (List.mem_flatMap.2 ⟨y, List.mem_append_right _ hy, hp⟩))
    refine Option.bind_eq_some_iff.2 ⟨elems, mapM_keep _ _ h1 fun i y hi hy => el _ _ _ _ hee hi (q1 y hy), Option.map_eq_some_iff.2 ⟨rest, ?_, rfl⟩⟩
    by_cases h0 : rest = []
    ·subst h0
     have : cap - len = 0 := by
      rcases Nat.eq_zero_or_pos (cap - len) with h | h
      ·exact h
      ·obtain ⟨n, hn⟩ := Nat.exists_eq_succ_of_ne_zero (Nat.pos_iff_ne_zero.1 h)
       rw [hn, List.range_succ_eq_map] at h2
       simp [Option.bind_eq_some_iff] at h2
     rw [this]
     split <;> simp
    ·have hpos : 0 < (elems.length + rest.length) * P.cellsOf ee := Nat.mul_pos (by have := List.length_pos_iff.2 h0; omega) hsz
     have : sp a.block = true := hsp (.cell a.block (a.off + 0)) (List.mem_append_left _ (List.mem_map.2 ⟨0, List.mem_range.2 hpos, rfl⟩))
     rw [if_pos this]
     exact mapM_keep _ _ h2 fun i y hi hy => el _ _ _ _ hee hi (q2 y hy)
   ·simp at h
  case h_9 =>
   rename_i fs hu
   rw [hu] at hok
   split at h
   ·rename_i hc
    rw [if_pos hc]
    obtain ⟨xs, h1, rfl⟩ := Option.map_eq_some_iff.1 h
    exact Option.map_eq_some_iff.2 ⟨xs, mapM_keep2 _ _ h1 fun f hfm y hf hy => ih _ _ _ (List.mem_of_elem_eq_true (List.all_eq_true.1 hok f hfm)) hf fun p hp => hsp p (List.mem_flatMap.2 ⟨y, hy, hp⟩), rfl⟩
   ·simp at h
  case h_10 =>
   rename_i n ee hu
   rw [hu] at hok
   split at h
   ·rename_i hc
    rw [if_pos hc]
    obtain ⟨xs, h1, rfl⟩ := Option.map_eq_some_iff.1 h
    exact Option.map_eq_some_iff.2 ⟨xs, mapM_keep _ _ h1 fun f y hf hy => ih _ _ _ (List.mem_of_elem_eq_true hok) hf fun p hp => hsp p (List.mem_flatMap.2 ⟨y, hy, hp⟩), rfl⟩
   ·simp at h
  case h_12 =>
   rename_i hu
   rw [hu] at hok
   simp at hok
  case h_14 =>
   rename_i b hu
   rw [hu] at hok
   split at h
   ·rename_i es clock hb
    rw [e b (Array.getElem?_eq_some_iff.1 hb).1, hb]
    dsimp only
    split at h
    ·rename_i hc
     rw [if_pos hc]
     obtain ⟨entries, h1, h⟩ := Option.bind_eq_some_iff.1 h
     have hpl : ∀ y ∈ entries, ∀ p ∈ y.2, sp p.block = true := by
      dsimp only at h
      split at h
      ·simp only [Option.some.injEq] at h
       subst h
       exact fun y hy p hp => hsp p (List.mem_cons_of_mem _ (List.mem_flatMap.2 ⟨y, hy, hp⟩))
      ·simp at h
     refine Option.bind_eq_some_iff.2 ⟨entries, mapM_keep _ _ h1 fun f y hf hy => ?_, h⟩
     obtain ⟨key, k1, k2⟩ := Option.bind_eq_some_iff.1 hf
     refine Option.bind_eq_some_iff.2 ⟨key, k1, ?_⟩
     split at k2
     ·rename_i hfm
      rw [if_pos hfm]
      obtain ⟨z, z1, rfl⟩ := Option.map_eq_some_iff.1 k2
      exact Option.map_eq_some_iff.2 ⟨z, ih _ _ _ (List.mem_of_elem_eq_true hok) z1 (hpl _ hy), rfl⟩
     ·simp at k2
    ·simp at h
   ·simp at h
  all_goals
   exact h
theorem trodAll_keep {L : List Nat} (hL : L.all (subOk P L) = true) (e : ∀ b, b < w.heap.size → w'.heap[b]? = w.heap[b]?) (sp : Nat → Bool) :
  ∀ (ts : List TypeId) (vs : List Value) (ds : List (DataW H)) (ps : List MemPlace), (∀ t ∈ ts, t ∈ L) → DataW.TrodAll enc P w 0 (fun _ => true) true ts vs ds ps → (∀ p ∈ ps, sp p.block = true) → DataW.TrodAll enc P w' 0 sp true ts vs ds ps
 | [], [], [], _, _, h, _ => h
 | t :: ts, v :: vs, d :: ds, ps, ht, h, hsp => by
  obtain ⟨p, q, ⟨fuel, h1⟩, h2, rfl⟩ := h
  exact ⟨p, q, ⟨fuel, trod_keep hL e sp true fuel t _ _ (ht t (List.mem_cons_self ..)) h1 fun p hp => hsp p (List.mem_append_left _ hp)⟩, trodAll_keep hL e sp ts vs ds q (fun u hu => ht u (List.mem_cons_of_mem _ hu)) h2 fun p hp => hsp p (List.mem_append_right _ hp), rfl⟩
 | [], _ :: _, _, _, _, h, _ => h.elim
 | [], [], _ :: _, _, _, h, _ => h.elim
 | _ :: _, [], _, _, _, h, _ => h.elim
 | _ :: _, _ :: _, [], _, _, h, _ => h.elim
end
end Go.Proofs.YtnfmjlhkknndhaaGreat
/-
 The frame of a law: what the arguments are, as the evaluator says it.
-/
namespace Go.Proofs.YtnfmjlhkknndhaaGreat
open Go Go.RowKit
open Go.IntKind (wrap i64 i32 i16 i8 u64 u32 u16 u8)
abbrev noS : Nat → Prop := fun _ => False
section
variable {H : Type} {enc : TypeId × Value → H} {P : Program} {w : World} {sp : Nat → Bool} {held : Bool}
theorem mapM_all {α β : Type} {f : α → Option β} : ∀ (l : List α) (xs : List β), l.mapM f = some xs → ∀ a ∈ l, ∃ x, f a = some x
 | [], _, _, a, ha => by simp at ha
 | b :: l, xs, h, a, ha => by
  simp only [List.mapM_cons, Option.bind_eq_bind, Option.pure_def, Option.bind_eq_some_iff, Option.some.injEq] at h
  obtain ⟨x, h1, ys, h2, rfl⟩ := h
  rcases List.mem_cons.1 ha with rfl | ha
  ·exact ⟨x, h1⟩
  ·exact mapM_all l ys h2 a ha
theorem trod_fields {t : TypeId} {fs : Array Field} {fuel : Nat} {cs : List Value} {x : DataW H × List MemPlace} (hu : P.underlying t = some (.struct fs)) (h : DataW.trod enc P w 0 sp held fuel t cs = some x) :
  cs.length = P.cellsOf t ∧ ∃ fuel', ∀ f ∈ fs.toList, ∃ y, DataW.trod enc P w 0 sp held fuel' f.type ((cs.drop f.offset).take (P.cellsOf f.type)) = some y := by
 cases fuel with
 | zero => simp [DataW.trod] at h
 | succ fuel =>
  unfold DataW.trod at h
  rw [hu] at h
  split at h
  all_goals first | (rename_i h0; simp at h0; done) | skip
  ·rename_i fs' hf
   simp only [Option.some.injEq, TypeDesc.struct.injEq] at hf
   subst hf
   split at h
   ·rename_i hc
    obtain ⟨xs, h1, rfl⟩ := Option.map_eq_some_iff.1 h
    exact ⟨hc, fuel, mapM_all _ _ h1⟩
   ·simp at h
  ·rename ∀ (fs_1 : Array Field), some (TypeDesc.struct fs) = some (TypeDesc.struct fs_1) → False => hh
   exact (hh fs rfl).elim
theorem trod_array {t e : TypeId} {n : Nat} {fuel : Nat} {cs : List Value} {x : DataW H × List MemPlace} (hu : P.underlying t = some (.array n e)) (h : DataW.trod enc P w 0 sp held fuel t cs = some x) :
  cs.length = P.cellsOf t ∧ ∃ fuel', ∀ i, i < n → ∃ y, DataW.trod enc P w 0 sp held fuel' e ((cs.drop (i * P.cellsOf e)).take (P.cellsOf e)) = some y := by
 cases fuel with
 | zero => simp [DataW.trod] at h
 | succ fuel =>
  unfold DataW.trod at h
  rw [hu] at h
  split at h
  all_goals first | (rename_i h0; simp at h0; done) | skip
  ·rename_i n' e' hf
   simp only [Option.some.injEq, TypeDesc.array.injEq] at hf
   obtain ⟨rfl, rfl⟩ := hf
   split at h
   ·rename_i hc
    obtain ⟨xs, h1, rfl⟩ := Option.map_eq_some_iff.1 h
    exact ⟨hc, fuel, fun i hi => mapM_all _ _ h1 i (List.mem_range.2 hi)⟩
   ·simp at h
  ·rename ∀ (k : Nat) (e_1 : TypeId), some (TypeDesc.array n e) = some (TypeDesc.array k e_1) → False => hh
   exact (hh n e rfl).elim
theorem trod_int {t : TypeId} {k : IntKind} {fuel : Nat} {cs : List Value} {x : DataW H × List MemPlace} (hu : P.underlying t = some (.int k)) (h : DataW.trod enc P w 0 sp held fuel t cs = some x) :
  ∃ n, cs = [.int k n] ∧ (Lit.int k n).wf = true := by
 cases fuel with
 | zero => simp [DataW.trod] at h
 | succ fuel =>
  unfold DataW.trod at h
  rw [hu] at h
  split at h
  all_goals first | (rename_i h0; simp at h0; done) | skip
  ·rename_i k0 k' n hk
   simp only [Option.some.injEq, TypeDesc.int.injEq] at hk
   subst hk
   split at h
   ·rename_i hc
    exact ⟨n, by rw [hc.1], hc.2⟩
   ·simp at h
  ·simp at h
end
end Go.Proofs.YtnfmjlhkknndhaaGreat
/-
 The frame of a law that may read a package-level array: what is laid; descriptions of numbers; what the contract of a law gives.
-/
namespace Go.Proofs.YtnfmjlhkknndhaaGreat
open Go Go.ChangeShapes Go.WideShapes Go.ChangeAt Go.RowKit
open Go.IntKind (wrap i64 i32 i16 i8 u64 u32 u16 u8)
theorem own : ownKnob Tryz.prog.godebug = none := by kernel_rfl
theorem agg_cells {v : Value} {a b : Value} {r : List Value} (h : v.cells.toList = a :: b :: r) : v = .agg (a :: b :: r).toArray := by
 cases v <;> first | (simp [Value.cells] at h; done) | skip
 rename_i cs
 have : cs = (a :: b :: r).toArray := by apply Array.ext'; simpa [Value.cells] using h
 rw [this]
theorem len_two {cs : List Value} (h : cs.length = 2) : ∃ a b, cs = [a, b] := by
 match cs, h with
 | [a, b], _ => exact ⟨a, b, rfl⟩
section
variable {H : Type} {enc : TypeId × Value → H} {w : World} {sp : Nat → Bool} {held : Bool}
theorem u16_wf {n : Int} (h : (Lit.int .u16 n).wf = true) : 0 ≤ n ∧ n ≤ 65535 := by simpa [Lit.wf, IntKind.min, IntKind.max, IntKind.signed, IntKind.bits] using h
theorem post_same {P : Program} {f : Func} {s : ChangeSpec} {apart fresh handsOn again : Bool} {W W' : World} {args : Array Value} {v : Value} {ds gs : List (DataW H)} {before pa pv : List MemPlace}
  (hW : DataW.Whole enc P f.params.toList s.vars apart W args.toList ds gs before)
  (hres : ∀ (b : Nat) (sp : Nat → Bool) (hd : Bool), DataW.TrodAll enc P W' b sp hd f.resultTypes.toList (v.resultList f.resultTypes.size) (s.fn H (ds ++ gs)).results [])
  (hargs : ∀ sp : Nat → Bool, (∀ p ∈ before, sp p.block = true) → DataW.TrodAll enc P W' 0 sp true f.params.toList args.toList (s.fn H (ds ++ gs)).args pa)
  (hvars : ∀ sp : Nat → Bool, (∀ p ∈ before, sp p.block = true) → DataW.TrodVars enc P W' sp s.vars (s.fn H (ds ++ gs)).vars pv)
  (hps : before = pa ++ pv) (hk : W.keptBut W' (· ∈ before)) (hfz : ∀ a : Addr, a.block < W.heap.size → W'.frozen? a = W.frozen? a)
  (hok : ∀ (j : Nat) (t : TypeId) (r : Value), f.resultTypes[j]? = some t → (v.resultList f.resultTypes.size)[j]? = some r → Value.okWide P W' .any 0 t r) :
  s.post enc P f apart fresh handsOn again W args v W' := by
 have hlt : ∀ p ∈ before, p.block < W.heap.size := hW.lt
 have hold : ∀ p ∈ before, (fun b => decide (b < W.heap.size)) p.block = true := fun p hp => by simpa using hlt p hp
 refine ⟨ds, gs, before, [], pa, pv, hW, hres _ _ _, hargs _ hold, hvars _ hold, World.keptBut_mono (fun p hp => ⟨hp, ?_⟩) hk, fun _ => ?_⟩
 ·rw [hps, List.mem_append] at hp
  exact Or.inr hp
 ·obtain ⟨_, _, _, _, _, hz, hn⟩ := hW
  refine ⟨hok, _, _, ([] ++ pa) ++ pv, ⟨[] ++ pa, pv, trodAll_append (hargs _ (fun _ _ => rfl)) (hres _ _ _), hvars _ (fun _ _ => rfl), rfl, ?_, ?_⟩, ?_⟩
  ·intro b off hp
   have hm : MemPlace.cell b off ∈ before := by rw [hps]; simpa using hp
   rw [hfz ⟨b, off, none⟩ (hlt _ hm)]
   exact hz b off hm
  ·intro ha
   have := hn ha
   rw [hps] at this
   simpa using this
  ·intro p hp _
   rw [hps]
   simpa using hp
set_option maxRecDepth 100000 in
theorem law_calls {fn : Func} {s : ChangeSpec} (ctr : Ctr Tryz.prog) (hvars : s.vars = []) (hrt : fn.resultTypes = #[4]) {L : List Nat} (hL : L.all (subOk Tryz.prog L) = true) (hin : ∀ t ∈ fn.params.toList, t ∈ L) {apart fresh handsOn again : Bool} {W : World} {args : Array Value} {ds gs : List (DataW H)} {before : List MemPlace}
  (hW : DataW.Whole enc Tryz.prog fn.params.toList s.vars apart W args.toList ds gs before) (hG : GW noS W)
  (hrep : ∃ ms p, ctr.spec ms = some (p, .ret (.bool true)) ∧ p.holds ∧ RepAll (Ctx.args noS) W ms args.toList)
  (hspec : s.fn H (ds ++ gs) = { results := [.lit (.bool true)], args := ds }) :
  Calls Tryz.prog ctr.f args W fun e W' => ∃ v, e = .returned v ∧ s.post enc Tryz.prog fn apart fresh handsOn again W args v W' := by
 obtain ⟨ms, p, h1, h2, h3⟩ := hrep
 refine (ctr.ok noS W ms args p _ h1 h2 (fun _ h => h.elim) hG h3).mono fun e W' ⟨hE, hh⟩ => ?_
 obtain ⟨v, rfl, hr⟩ : ∃ v, e = .returned v ∧ Rep (Ctx.res noS) W' (.bool true) v := by
  cases e with
  | returned v => exact ⟨v, rfl, hh⟩
  | panicked _ => exact hh.elim
  | outgrown => exact hh.elim
 have hv : v = .bool true := rep_bool hr
 subst hv
 refine ⟨_, rfl, ?_⟩
 have hW' := hW
 obtain ⟨p, q, hA, hV, rfl, _, _⟩ := hW
 rw [hvars] at hV
 obtain ⟨rfl, rfl⟩ : gs = [] ∧ q = [] := trodVars_none hV
 refine post_same (pa := p) (pv := []) hW' (fun _ _ _ => ?_) (fun sp hsp => ?_) (fun _ _ => ?_) rfl (hE.kept _) hE.frz ?_
 ·rw [hspec, hrt]
  exact trodAll_cons_mk (shut_bool Tryz.underlying4 _) trodAll_mk0
 ·rw [hspec]
  exact trodAll_keep hL hE.block sp _ _ _ _ hin hA fun p hp => hsp p (List.mem_append_left _ hp)
 ·rw [hspec, hvars]; rfl
 ·have hw : Value.okWide Tryz.prog W' .any 0 4 (.bool true) := okWide_bool_mk Tryz.underlying4 true
  exact ok_one hrt rfl hw
end
end Go.Proofs.YtnfmjlhkknndhaaGreat
/-
 The frame of the laws of chapter 17: descriptions of forms and of matrices.
-/
namespace Go.Proofs.YtnfmjlhkknndhaaGreat
open Go Go.ChangeShapes Go.WideShapes Go.ChangeAt Go.RowKit
open Go.IntKind (wrap i64 i32 i16 i8 u64 u32 u16 u8)
theorem gw0 (W : World) : GW noS W := fun h => by cases h
theorem u8_wf {n : Int} (h : (Lit.int .u8 n).wf = true) : 0 ≤ n ∧ n ≤ 255 := by simpa [Lit.wf, IntKind.min, IntKind.max, IntKind.signed, IntKind.bits] using h
theorem ok_at {P : Program} {W : World} {base : Nat} {args : Array Value} {ts : Array TypeId} (hval : ∀ (j : Nat) t v, ts[j]? = some t → args[j]? = some v → Value.okWide P W .any base t v) {j : Nat} {t : TypeId} {v : Value} (h1 : ts[j]? = some t) (h2 : args[j]? = some v) : Value.okWide P W .any base t v := hval j t v h1 h2
theorem len_5 {cs : List Value} (h : cs.length = 5) : ∃ a b c d e, cs = [a, b, c, d, e] := by
 match cs, h with
 | [a, b, c, d, e], _ => exact ⟨a, b, c, d, e, rfl⟩
theorem cells_u16 : Tryz.prog.cellsOf 22 = 1 := by kernel_rfl
theorem cells_u8 : Tryz.prog.cellsOf 5 = 1 := by kernel_rfl
theorem cells_2u16 : Tryz.prog.cellsOf 23 = 2 := by kernel_rfl
theorem cells_2u8 : Tryz.prog.cellsOf 24 = 2 := by kernel_rfl
theorem cells_r17 : Tryz.prog.cellsOf 26 = 5 := by kernel_rfl
section
variable {H : Type} {enc : TypeId × Value → H} {w : World} {sp : Nat → Bool} {held : Bool}
theorem repc_two {k : IntKind} {t e : TypeId} (hu : Tryz.prog.underlying t = some (.array 2 e)) (he : Tryz.prog.underlying e = some (.int k)) (h1 : Tryz.prog.cellsOf t = 2) (h2 : Tryz.prog.cellsOf e = 1) {fuel : Nat} {cs : List Value} {y : DataW H × List MemPlace} (h : DataW.trod enc Tryz.prog w 0 sp held fuel t cs = some y) :
  ∃ a b, RepC (Ctx.args noS) w (.st [.int k a, .int k b]) cs ∧ (Lit.int k a).wf = true ∧ (Lit.int k b).wf = true := by
 obtain ⟨hl, f', hf⟩ := trod_array hu h
 rw [h1] at hl
 rw [h2] at hf
 obtain ⟨a, b, e⟩ := len_two hl
 rw [e] at hf ⊢
 obtain ⟨y0, g0⟩ := hf 0 (by decide)
 obtain ⟨y1, g1⟩ := hf 1 (by decide)
 obtain ⟨n0, e0, w0⟩ := trod_int he g0
 obtain ⟨n1, e1, w1⟩ := trod_int he g1
 have z0 : [a] = [.int k n0] := e0
 have z1 : [b] = [.int k n1] := e1
 simp only [List.cons.injEq, and_true] at z0 z1
 subst z0 z1
 exact ⟨n0, n1, ⟨_, _, rfl, rfl, _, _, rfl, rfl, rfl⟩, w0, w1⟩
theorem rep_r17 {v : Value} {d : DataW H} {ps : List MemPlace} (h : DataW.Trod enc Tryz.prog w 0 sp held 26 v d ps) :
  ∃ d i0 i1 m0 m1, Rep1 (Ctx.args noS) w (.st [.int .u16 d, .st [.int .u16 i0, .int .u16 i1], .st [.int .u8 m0, .int .u8 m1]]) v ∧ OkX d i0 i1 m0 m1 := by
 obtain ⟨fuel, h⟩ := h
 obtain ⟨hl, f', hf⟩ := trod_fields Tryz.underlying26 h
 rw [cells_r17] at hl
 obtain ⟨a, b, c, e, g, hc⟩ := len_5 hl
 rw [hc] at hf
 obtain ⟨y0, h0⟩ := hf _ (List.mem_cons_self ..)
 obtain ⟨y1, h1⟩ := hf _ (List.mem_cons_of_mem _ (List.mem_cons_self ..))
 obtain ⟨y2, h2⟩ := hf _ (List.mem_cons_of_mem _ (List.mem_cons_of_mem _ (List.mem_cons_self ..)))
 dsimp only at h0 h1 h2
 rw [cells_u16] at h0
 rw [cells_2u16] at h1
 rw [cells_2u8] at h2
 obtain ⟨n0, e0, w0⟩ := trod_int Tryz.underlying22 h0
 have z0 : [a] = [.int .u16 n0] := e0
 simp only [List.cons.injEq, and_true] at z0
 subst z0
 obtain ⟨i0, i1, r1, w1, w2⟩ := repc_two (cs := [b, c]) Tryz.underlying23 Tryz.underlying22 cells_2u16 cells_u16 h1
 obtain ⟨m0, m1, r2, w3, w4⟩ := repc_two (cs := [e, g]) Tryz.underlying24 Tryz.underlying5 cells_2u8 cells_u8 h2
 have k0 := u16_wf w0
 have k1 := u16_wf w1
 have k2 := u16_wf w2
 have k3 := u8_wf w3
 have k4 := u8_wf w4
 exact ⟨n0, i0, i1, m0, m1, (rep1_agg rfl).2 ⟨_, agg_cells hc, [.int .u16 n0], _, rfl, rfl, [b, c], _, rfl, r1, [e, g], _, rfl, r2, rfl⟩, ⟨by omega, by omega, by omega, by omega, by omega, by omega, by omega, by omega, by omega, by omega⟩⟩
end
end Go.Proofs.YtnfmjlhkknndhaaGreat
