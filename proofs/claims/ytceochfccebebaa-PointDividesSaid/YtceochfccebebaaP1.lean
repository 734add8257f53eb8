/-
  PointDivides: whatever the curve, its two points and the factor are (moduli from 5 to 259, a factor of at most two words), each sum and multiple is a point of the curve, or a proper divisor of the modulus is returned.
-/
import Derived.Test.YtceochfccebebaaW5


/-
  The walk of PointDivides.
-/
namespace Go.Proofs.Ytceochfccebebaa
open Go Go.RowKit

/-- The four results. -/
noncomputable def pdRs (M A X Y Q : Int) (b : Bool) (l : List Int) (i : Nat) : RS :=
  match i with
  | 0 => addI (A % mdM M) (mdB (mdM M) A X Y) (mdM M) (X % mdM M) (Y % mdM M) false (mdP (mdM M) A X Y Q).1 (mdP (mdM M) A X Y Q).2.1 (mdP (mdM M) A X Y Q).2.2
  | 1 => addI (A % mdM M) (mdB (mdM M) A X Y) (mdM M) (mdP (mdM M) A X Y Q).1 (mdP (mdM M) A X Y Q).2.1 (mdP (mdM M) A X Y Q).2.2 (mdP (mdM M) A X Y Q).1 (mdP (mdM M) A X Y Q).2.1 (mdP (mdM M) A X Y Q).2.2
  | 2 => mulI (A % mdM M) (mdB (mdM M) A X Y) (mdM M) (madeI b l 2) (X % mdM M) (Y % mdM M) false
  | _ => mulI (A % mdM M) (mdB (mdM M) A X Y) (mdM M) (madeI b l 2) (mdP (mdM M) A X Y Q).1 (mdP (mdM M) A X Y Q).2.1 (mdP (mdM M) A X Y Q).2.2
noncomputable def pdF (M A X Y Q : Int) (b : Bool) (l : List Int) (i : Nat) : MV := sumM (pdRs M A X Y Q b l i)
noncomputable def pdS (M A X Y Q : Int) (b : Bool) (l : List Int) (i : Nat) : MS :=
  ⟨120, [(2, .bp 0 0), (3, .bp 1 0), (5, .bool true), (6, .bp 2 0), (9, .bs 5 0 4), (10, .int .i64 i)],
    [⟨false, .one (crvM M A X Y Q)⟩, ⟨false, .one (rawM b l)⟩, ⟨false, .one (cvM (A % mdM M) (mdB (mdM M) A X Y) (mdM M) 64 64 64)⟩, ⟨false, .one (ptM (X % mdM M) (Y % mdM M) false 64 64)⟩, ⟨false, .one (ptOf (mdP (mdM M) A X Y Q))⟩, ⟨false, .rows 8 4 (pdF M A X Y Q b l)⟩], 0⟩
noncomputable def a_pd (M A X Y Q : Int) (b : Bool) (l : List Int) : Nat → MS → Option LoopAnn
  | 7, _ => some (.inv Nat (fun i => i ≤ 4) (pdS M A X Y Q b l) (fun i => 4 - i))
  | _, _ => none
theorem vc_pd (M A X Y Q : Int) (b : Bool) (l : List Int) : (((0 : Int) ≤ M ∧ M ≤ (255 : Int) ∧ (0 : Int) ≤ A ∧ A ≤ (255 : Int) ∧ (0 : Int) ≤ X ∧ X ≤ (255 : Int) ∧ (0 : Int) ≤ Y ∧ Y ≤ (255 : Int) ∧ (0 : Int) ≤ Q ∧ Q ≤ (65535 : Int)) ∧ ((64 : Nat) ≤ (200 : Nat) ∧ (64 : Nat) ≤ (200 : Nat) ∧ (64 : Nat) ≤ (200 : Nat) ∧ (64 : Nat) ≤ (200 : Nat) ∧ (64 : Nat) ≤ (200 : Nat) ∧ (64 : Nat) ≤ (200 : Nat) ∧ (64 : Nat) ≤ (200 : Nat)) ∧ ((64 : Nat) ≤ (200 : Nat) ∧ (64 : Nat) ≤ (200 : Nat) ∧ (64 : Nat) ≤ (200 : Nat) ∧ (64 : Nat) ≤ (200 : Nat) ∧ (64 : Nat) ≤ (200 : Nat) ∧ (64 : Nat) ≤ (200 : Nat) ∧ (64 : Nat) ≤ (200 : Nat)) ∧ ((∀ (x : Int), x ∈ l → (0 : Int) ≤ x ∧ x < (4294967296 : Int)) ∧ (0 : Int) ≤ (2 : Int) ∧ (2 : Int) ≤ (1000 : Int) ∧ List.length l < (9223372036854775808 : Nat)) ∧ ((32 : Nat) * Int.toNat (2 : Int) ≤ (100000 : Nat) ∧ (64 : Nat) ≤ (200 : Nat) ∧ (64 : Nat) ≤ (200 : Nat) ∧ (64 : Nat) ≤ (200 : Nat) ∧ (64 : Nat) ≤ (200 : Nat) ∧ (64 : Nat) ≤ (200 : Nat)) ∧ ((∀ (x : Int), x ∈ l → (0 : Int) ≤ x ∧ x < (4294967296 : Int)) ∧ (0 : Int) ≤ (2 : Int) ∧ (2 : Int) ≤ (1000 : Int) ∧ List.length l < (9223372036854775808 : Nat)) ∧ ((32 : Nat) * Int.toNat (2 : Int) ≤ (100000 : Nat) ∧ (64 : Nat) ≤ (200 : Nat) ∧ (64 : Nat) ≤ (200 : Nat) ∧ (64 : Nat) ≤ (200 : Nat) ∧ (64 : Nat) ≤ (200 : Nat) ∧ (64 : Nat) ≤ (200 : Nat)) ∧ (∃ i, i ≤ (4 : Nat) ∧ ((0 : Nat) = (0 : Nat) ∧ (0 : Nat) = (0 : Nat) ∧ true = true ∧ (0 : Nat) = (0 : Nat) ∧ ((0 : Nat) = (0 : Nat) ∧ (4 : Nat) = (4 : Nat)) ∧ (0 : Int) = (↑i : Int) ∧ True) ∧ (M = M ∧ A = A ∧ X = X ∧ Y = Y ∧ Q = Q ∧ True) ∧ (b = b ∧ l = l ∧ True) ∧ ((A % mdM M = A % mdM M ∧ ((64 : Nat) ≤ (64 : Nat) ∨ Int.natAbs (A % mdM M) < (2 : Nat) ^ (64 : Nat))) ∧ (mdB (mdM M) A X Y = mdB (mdM M) A X Y ∧ ((64 : Nat) ≤ (64 : Nat) ∨ Int.natAbs (mdB (mdM M) A X Y) < (2 : Nat) ^ (64 : Nat))) ∧ (mdM M = mdM M ∧ ((64 : Nat) ≤ (64 : Nat) ∨ Int.natAbs (mdM M) < (2 : Nat) ^ (64 : Nat))) ∧ True) ∧ ((X % mdM M = X % mdM M ∧ ((64 : Nat) ≤ (64 : Nat) ∨ Int.natAbs (X % mdM M) < (2 : Nat) ^ (64 : Nat))) ∧ (Y % mdM M = Y % mdM M ∧ ((64 : Nat) ≤ (64 : Nat) ∨ Int.natAbs (Y % mdM M) < (2 : Nat) ^ (64 : Nat))) ∧ false = false ∧ True) ∧ ((Prod.fst (mdP (mdM M) A X Y Q) = Prod.fst (mdP (mdM M) A X Y Q) ∧ ((64 : Nat) ≤ (64 : Nat) ∨ Int.natAbs (Prod.fst (mdP (mdM M) A X Y Q)) < (2 : Nat) ^ (64 : Nat))) ∧ (Prod.fst (Prod.snd (mdP (mdM M) A X Y Q)) = Prod.fst (Prod.snd (mdP (mdM M) A X Y Q)) ∧ ((64 : Nat) ≤ (64 : Nat) ∨ Int.natAbs (Prod.fst (Prod.snd (mdP (mdM M) A X Y Q))) < (2 : Nat) ^ (64 : Nat))) ∧ Prod.snd (Prod.snd (mdP (mdM M) A X Y Q)) = Prod.snd (Prod.snd (mdP (mdM M) A X Y Q)) ∧ True) ∧ ((4 : Nat) = (4 : Nat) ∧ LeFun (4 : Nat) (rowOf [MV.st [ptM (RS.X (addI (A % mdM M) (mdB (mdM M) A X Y) (mdM M) (X % mdM M) (Y % mdM M) false (Prod.fst (mdP (mdM M) A X Y Q)) (Prod.fst (Prod.snd (mdP (mdM M) A X Y Q))) (Prod.snd (Prod.snd (mdP (mdM M) A X Y Q))))) (RS.Y (addI (A % mdM M) (mdB (mdM M) A X Y) (mdM M) (X % mdM M) (Y % mdM M) false (Prod.fst (mdP (mdM M) A X Y Q)) (Prod.fst (Prod.snd (mdP (mdM M) A X Y Q))) (Prod.snd (Prod.snd (mdP (mdM M) A X Y Q))))) (RS.o (addI (A % mdM M) (mdB (mdM M) A X Y) (mdM M) (X % mdM M) (Y % mdM M) false (Prod.fst (mdP (mdM M) A X Y Q)) (Prod.fst (Prod.snd (mdP (mdM M) A X Y Q))) (Prod.snd (Prod.snd (mdP (mdM M) A X Y Q))))) (200 : Nat) (200 : Nat), MV.big (RS.d (addI (A % mdM M) (mdB (mdM M) A X Y) (mdM M) (X % mdM M) (Y % mdM M) false (Prod.fst (mdP (mdM M) A X Y Q)) (Prod.fst (Prod.snd (mdP (mdM M) A X Y Q))) (Prod.snd (Prod.snd (mdP (mdM M) A X Y Q))))) (200 : Nat), MV.int IntKind.i64 (RS.e (addI (A % mdM M) (mdB (mdM M) A X Y) (mdM M) (X % mdM M) (Y % mdM M) false (Prod.fst (mdP (mdM M) A X Y Q)) (Prod.fst (Prod.snd (mdP (mdM M) A X Y Q))) (Prod.snd (Prod.snd (mdP (mdM M) A X Y Q)))))], MV.st [ptM (RS.X (addI (A % mdM M) (mdB (mdM M) A X Y) (mdM M) (Prod.fst (mdP (mdM M) A X Y Q)) (Prod.fst (Prod.snd (mdP (mdM M) A X Y Q))) (Prod.snd (Prod.snd (mdP (mdM M) A X Y Q))) (Prod.fst (mdP (mdM M) A X Y Q)) (Prod.fst (Prod.snd (mdP (mdM M) A X Y Q))) (Prod.snd (Prod.snd (mdP (mdM M) A X Y Q))))) (RS.Y (addI (A % mdM M) (mdB (mdM M) A X Y) (mdM M) (Prod.fst (mdP (mdM M) A X Y Q)) (Prod.fst (Prod.snd (mdP (mdM M) A X Y Q))) (Prod.snd (Prod.snd (mdP (mdM M) A X Y Q))) (Prod.fst (mdP (mdM M) A X Y Q)) (Prod.fst (Prod.snd (mdP (mdM M) A X Y Q))) (Prod.snd (Prod.snd (mdP (mdM M) A X Y Q))))) (RS.o (addI (A % mdM M) (mdB (mdM M) A X Y) (mdM M) (Prod.fst (mdP (mdM M) A X Y Q)) (Prod.fst (Prod.snd (mdP (mdM M) A X Y Q))) (Prod.snd (Prod.snd (mdP (mdM M) A X Y Q))) (Prod.fst (mdP (mdM M) A X Y Q)) (Prod.fst (Prod.snd (mdP (mdM M) A X Y Q))) (Prod.snd (Prod.snd (mdP (mdM M) A X Y Q))))) (200 : Nat) (200 : Nat), MV.big (RS.d (addI (A % mdM M) (mdB (mdM M) A X Y) (mdM M) (Prod.fst (mdP (mdM M) A X Y Q)) (Prod.fst (Prod.snd (mdP (mdM M) A X Y Q))) (Prod.snd (Prod.snd (mdP (mdM M) A X Y Q))) (Prod.fst (mdP (mdM M) A X Y Q)) (Prod.fst (Prod.snd (mdP (mdM M) A X Y Q))) (Prod.snd (Prod.snd (mdP (mdM M) A X Y Q))))) (200 : Nat), MV.int IntKind.i64 (RS.e (addI (A % mdM M) (mdB (mdM M) A X Y) (mdM M) (Prod.fst (mdP (mdM M) A X Y Q)) (Prod.fst (Prod.snd (mdP (mdM M) A X Y Q))) (Prod.snd (Prod.snd (mdP (mdM M) A X Y Q))) (Prod.fst (mdP (mdM M) A X Y Q)) (Prod.fst (Prod.snd (mdP (mdM M) A X Y Q))) (Prod.snd (Prod.snd (mdP (mdM M) A X Y Q)))))], MV.st [ptM (RS.X (mulI (A % mdM M) (mdB (mdM M) A X Y) (mdM M) (madeI b l (Int.toNat (2 : Int))) (X % mdM M) (Y % mdM M) false)) (RS.Y (mulI (A % mdM M) (mdB (mdM M) A X Y) (mdM M) (madeI b l (Int.toNat (2 : Int))) (X % mdM M) (Y % mdM M) false)) (RS.o (mulI (A % mdM M) (mdB (mdM M) A X Y) (mdM M) (madeI b l (Int.toNat (2 : Int))) (X % mdM M) (Y % mdM M) false)) (200 : Nat) (200 : Nat), MV.big (RS.d (mulI (A % mdM M) (mdB (mdM M) A X Y) (mdM M) (madeI b l (Int.toNat (2 : Int))) (X % mdM M) (Y % mdM M) false)) (200 : Nat), MV.int IntKind.i64 (RS.e (mulI (A % mdM M) (mdB (mdM M) A X Y) (mdM M) (madeI b l (Int.toNat (2 : Int))) (X % mdM M) (Y % mdM M) false))], MV.st [ptM (RS.X (mulI (A % mdM M) (mdB (mdM M) A X Y) (mdM M) (madeI b l (Int.toNat (2 : Int))) (Prod.fst (mdP (mdM M) A X Y Q)) (Prod.fst (Prod.snd (mdP (mdM M) A X Y Q))) (Prod.snd (Prod.snd (mdP (mdM M) A X Y Q))))) (RS.Y (mulI (A % mdM M) (mdB (mdM M) A X Y) (mdM M) (madeI b l (Int.toNat (2 : Int))) (Prod.fst (mdP (mdM M) A X Y Q)) (Prod.fst (Prod.snd (mdP (mdM M) A X Y Q))) (Prod.snd (Prod.snd (mdP (mdM M) A X Y Q))))) (RS.o (mulI (A % mdM M) (mdB (mdM M) A X Y) (mdM M) (madeI b l (Int.toNat (2 : Int))) (Prod.fst (mdP (mdM M) A X Y Q)) (Prod.fst (Prod.snd (mdP (mdM M) A X Y Q))) (Prod.snd (Prod.snd (mdP (mdM M) A X Y Q))))) (200 : Nat) (200 : Nat), MV.big (RS.d (mulI (A % mdM M) (mdB (mdM M) A X Y) (mdM M) (madeI b l (Int.toNat (2 : Int))) (Prod.fst (mdP (mdM M) A X Y Q)) (Prod.fst (Prod.snd (mdP (mdM M) A X Y Q))) (Prod.snd (Prod.snd (mdP (mdM M) A X Y Q))))) (200 : Nat), MV.int IntKind.i64 (RS.e (mulI (A % mdM M) (mdB (mdM M) A X Y) (mdM M) (madeI b l (Int.toNat (2 : Int))) (Prod.fst (mdP (mdM M) A X Y Q)) (Prod.fst (Prod.snd (mdP (mdM M) A X Y Q))) (Prod.snd (Prod.snd (mdP (mdM M) A X Y Q)))))]]) (pdF M A X Y Q b l)) ∧ True) ∧ ∀ (i : Nat), i ≤ (4 : Nat) → bif decide ((↑i : Int) < (↑(4 : Nat) : Int)) then ((0 : Int) ≤ (↑i : Int) ∧ (↑i : Int) < (↑(4 : Nat) : Int)) ∧ Int.toNat (↑i : Int) < (4 : Nat) ∧ bif RS.e (pdRs M A X Y Q b l (Int.toNat (↑i : Int))) == (0 : Int) then ((0 : Int) ≤ (↑i : Int) ∧ (↑i : Int) < (↑(4 : Nat) : Int)) ∧ Int.toNat (↑i : Int) < (4 : Nat) ∧ ((64 : Nat) ≤ (1000 : Nat) ∧ (64 : Nat) ≤ (1000 : Nat) ∧ (64 : Nat) ≤ (1000 : Nat) ∧ (200 : Nat) ≤ (1000 : Nat) ∧ (200 : Nat) ≤ (1000 : Nat)) ∧ bif !onB (A % mdM M) (mdB (mdM M) A X Y) (mdM M) (RS.X (pdRs M A X Y Q b l (Int.toNat (↑i : Int)))) (RS.Y (pdRs M A X Y Q b l (Int.toNat (↑i : Int)))) (RS.o (pdRs M A X Y Q b l (Int.toNat (↑i : Int)))) then false = true else ((0 : Int) ≤ (↑i : Int) ∧ (↑i : Int) < (↑(4 : Nat) : Int)) ∧ Int.toNat (↑i : Int) < (4 : Nat) ∧ bif sgn (RS.d (pdRs M A X Y Q b l (Int.toNat (↑i : Int)))) != (0 : Int) then false = true else ∃ j, j ≤ (4 : Nat) ∧ (((0 : Nat) = (0 : Nat) ∧ (0 : Nat) = (0 : Nat) ∧ true = true ∧ (0 : Nat) = (0 : Nat) ∧ ((0 : Nat) = (0 : Nat) ∧ (4 : Nat) = (4 : Nat)) ∧ IntKind.wrap IntKind.i64 ((↑i : Int) + (1 : Int)) = (↑j : Int) ∧ True) ∧ (M = M ∧ A = A ∧ X = X ∧ Y = Y ∧ Q = Q ∧ True) ∧ (b = b ∧ l = l ∧ True) ∧ ((A % mdM M = A % mdM M ∧ ((64 : Nat) ≤ (64 : Nat) ∨ Int.natAbs (A % mdM M) < (2 : Nat) ^ (64 : Nat))) ∧ (mdB (mdM M) A X Y = mdB (mdM M) A X Y ∧ ((64 : Nat) ≤ (64 : Nat) ∨ Int.natAbs (mdB (mdM M) A X Y) < (2 : Nat) ^ (64 : Nat))) ∧ (mdM M = mdM M ∧ ((64 : Nat) ≤ (64 : Nat) ∨ Int.natAbs (mdM M) < (2 : Nat) ^ (64 : Nat))) ∧ True) ∧ ((X % mdM M = X % mdM M ∧ ((64 : Nat) ≤ (64 : Nat) ∨ Int.natAbs (X % mdM M) < (2 : Nat) ^ (64 : Nat))) ∧ (Y % mdM M = Y % mdM M ∧ ((64 : Nat) ≤ (64 : Nat) ∨ Int.natAbs (Y % mdM M) < (2 : Nat) ^ (64 : Nat))) ∧ false = false ∧ True) ∧ ((Prod.fst (mdP (mdM M) A X Y Q) = Prod.fst (mdP (mdM M) A X Y Q) ∧ ((64 : Nat) ≤ (64 : Nat) ∨ Int.natAbs (Prod.fst (mdP (mdM M) A X Y Q)) < (2 : Nat) ^ (64 : Nat))) ∧ (Prod.fst (Prod.snd (mdP (mdM M) A X Y Q)) = Prod.fst (Prod.snd (mdP (mdM M) A X Y Q)) ∧ ((64 : Nat) ≤ (64 : Nat) ∨ Int.natAbs (Prod.fst (Prod.snd (mdP (mdM M) A X Y Q))) < (2 : Nat) ^ (64 : Nat))) ∧ Prod.snd (Prod.snd (mdP (mdM M) A X Y Q)) = Prod.snd (Prod.snd (mdP (mdM M) A X Y Q)) ∧ True) ∧ ((4 : Nat) = (4 : Nat) ∧ LeFun (4 : Nat) (pdF M A X Y Q b l) (pdF M A X Y Q b l)) ∧ True) ∧ (4 : Nat) - j < (4 : Nat) - i else ((0 : Int) ≤ (↑i : Int) ∧ (↑i : Int) < (↑(4 : Nat) : Int)) ∧ Int.toNat (↑i : Int) < (4 : Nat) ∧ ((64 : Nat) ≤ (900000 : Nat) ∧ (200 : Nat) ≤ (900000 : Nat) ∧ (RS.d (pdRs M A X Y Q b l (Int.toNat (↑i : Int))) = (0 : Int) → False)) ∧ ((0 : Int) ≤ (↑i : Int) ∧ (↑i : Int) < (↑(4 : Nat) : Int)) ∧ Int.toNat (↑i : Int) < (4 : Nat) ∧ bif RS.e (pdRs M A X Y Q b l (Int.toNat (↑i : Int))) != (6 : Int) then false = true else bif sgn (mdM M % RS.d (pdRs M A X Y Q b l (Int.toNat (↑i : Int)))) != (0 : Int) then false = true else ((0 : Int) ≤ (↑i : Int) ∧ (↑i : Int) < (↑(4 : Nat) : Int)) ∧ Int.toNat (↑i : Int) < (4 : Nat) ∧ ((-9223372036854775808 : Int) ≤ (1 : Int) ∧ (1 : Int) ≤ (9223372036854775807 : Int)) ∧ ((200 : Nat) ≤ (1000000 : Nat) ∧ (64 : Nat) ≤ (1000000 : Nat)) ∧ bif decide (icmp (RS.d (pdRs M A X Y Q b l (Int.toNat (↑i : Int)))) (1 : Int) ≤ (0 : Int)) then false = true else ((0 : Int) ≤ (↑i : Int) ∧ (↑i : Int) < (↑(4 : Nat) : Int)) ∧ Int.toNat (↑i : Int) < (4 : Nat) ∧ ((200 : Nat) ≤ (1000000 : Nat) ∧ (64 : Nat) ≤ (1000000 : Nat)) ∧ bif decide (icmp (RS.d (pdRs M A X Y Q b l (Int.toNat (↑i : Int)))) (mdM M) ≥ (0 : Int)) then false = true else ∃ j, j ≤ (4 : Nat) ∧ (((0 : Nat) = (0 : Nat) ∧ (0 : Nat) = (0 : Nat) ∧ true = true ∧ (0 : Nat) = (0 : Nat) ∧ ((0 : Nat) = (0 : Nat) ∧ (4 : Nat) = (4 : Nat)) ∧ IntKind.wrap IntKind.i64 ((↑i : Int) + (1 : Int)) = (↑j : Int) ∧ True) ∧ (M = M ∧ A = A ∧ X = X ∧ Y = Y ∧ Q = Q ∧ True) ∧ (b = b ∧ l = l ∧ True) ∧ ((A % mdM M = A % mdM M ∧ ((64 : Nat) ≤ (64 : Nat) ∨ Int.natAbs (A % mdM M) < (2 : Nat) ^ (64 : Nat))) ∧ (mdB (mdM M) A X Y = mdB (mdM M) A X Y ∧ ((64 : Nat) ≤ (64 : Nat) ∨ Int.natAbs (mdB (mdM M) A X Y) < (2 : Nat) ^ (64 : Nat))) ∧ (mdM M = mdM M ∧ ((64 : Nat) ≤ (64 : Nat) ∨ Int.natAbs (mdM M) < (2 : Nat) ^ (64 : Nat))) ∧ True) ∧ ((X % mdM M = X % mdM M ∧ ((64 : Nat) ≤ (64 : Nat) ∨ Int.natAbs (X % mdM M) < (2 : Nat) ^ (64 : Nat))) ∧ (Y % mdM M = Y % mdM M ∧ ((64 : Nat) ≤ (64 : Nat) ∨ Int.natAbs (Y % mdM M) < (2 : Nat) ^ (64 : Nat))) ∧ false = false ∧ True) ∧ ((Prod.fst (mdP (mdM M) A X Y Q) = Prod.fst (mdP (mdM M) A X Y Q) ∧ ((64 : Nat) ≤ (64 : Nat) ∨ Int.natAbs (Prod.fst (mdP (mdM M) A X Y Q)) < (2 : Nat) ^ (64 : Nat))) ∧ (Prod.fst (Prod.snd (mdP (mdM M) A X Y Q)) = Prod.fst (Prod.snd (mdP (mdM M) A X Y Q)) ∧ ((64 : Nat) ≤ (64 : Nat) ∨ Int.natAbs (Prod.fst (Prod.snd (mdP (mdM M) A X Y Q))) < (2 : Nat) ^ (64 : Nat))) ∧ Prod.snd (Prod.snd (mdP (mdM M) A X Y Q)) = Prod.snd (Prod.snd (mdP (mdM M) A X Y Q)) ∧ True) ∧ ((4 : Nat) = (4 : Nat) ∧ LeFun (4 : Nat) (pdF M A X Y Q b l) (pdF M A X Y Q b l)) ∧ True) ∧ (4 : Nat) - j < (4 : Nat) - i else true = true) = evFn (env [c_ex, c_made, c_ladd, c_ltimes, c_rMade, c_pon, c_sign, c_divmod1, c_icmp, c_rof] (a_pd M A X Y Q b l)) Try.f5 [crvM M A X Y Q, rawM b l] (MRes.sat (.ret (.bool true))) := by kernel_rfl

theorem le_sumM (r : RS) : leMV 0 (sumM r) (sumM r) := ⟨⟨⟨rfl, .inl (Nat.le_refl _)⟩, ⟨rfl, .inl (Nat.le_refl _)⟩, rfl, trivial⟩, ⟨rfl, .inl (Nat.le_refl _)⟩, rfl, trivial⟩
theorem icmp_pos {a b : Int} : 0 ≤ icmp a b ↔ b ≤ a := by unfold icmp; split <;> (try split) <;> omega

theorem pdRs_ok {M A X Y Q : Int} (h : crvP M A X Y Q) (b : Bool) (l : List Int) : ∀ i, pdOk (A % mdM M) (mdB (mdM M) A X Y) (mdM M) (pdRs M A X Y Q b l i) := by
  obtain ⟨hm1, hm2⟩ := mdM_b h.1
  obtain ⟨h1, h2⟩ := mdP_on (m := mdM M) (A := A) (X := X) (Y := Y) (Q := Q) (by omega) (by unfold mdM; omega)
  intro i
  match i with
  | 0 => exact addI_ok h1 h2
  | 1 => exact addI_ok h2 h2
  | 2 => exact mulI_ok h1
  | n + 3 => exact mulI_ok h2

def s_pd : FSpec
  | [.st [.int .u8 M, .int .u8 A, .int .u8 X, .int .u8 Y, .int .u16 Q], .st [.bool _, .ws l]] => some (some (crvP M A X Y Q ∧ Wd l ∧ l.length < 9223372036854775808), .ret (.bool true))
  | _ => none
theorem p_pd : Good Try.f5 s_pd := by
  intro ms p r h hp
  unfold s_pd at h
  split at h
  · rename_i M A X Y Q b l
    simp only [Option.some.injEq, Prod.mk.injEq] at h
    obtain ⟨rfl, rfl⟩ := h
    obtain ⟨hc, hw, hl⟩ : crvP M A X Y Q ∧ Wd l ∧ l.length < 9223372036854775808 := hp
    refine ⟨env [c_ex, c_made, c_ladd, c_ltimes, c_rMade, c_pon, c_sign, c_divmod1, c_icmp, c_rof] (a_pd M A X Y Q b l), ?_⟩
    rw [← vc_pd M A X Y Q b l]
    have hall := pdRs_ok hc b l
    refine ⟨hc, by omega, by omega, ⟨hw, by omega, by omega, hl⟩, ⟨by decide, by omega⟩, ⟨hw, by omega, by omega, hl⟩, ⟨by decide, by omega⟩, ⟨0, Nat.zero_le _, ?_⟩, fun i hi => ?_⟩
    · have hle : LeFun 4 _ (pdF M A X Y Q b l) := LeFun.of_le (f := rowOf [sumM (pdRs M A X Y Q b l 0), sumM (pdRs M A X Y Q b l 1), sumM (pdRs M A X Y Q b l 2), sumM (pdRs M A X Y Q b l 3)]) fun i hi => by
        match i, hi with
        | 0, _ => exact le_sumM _
        | 1, _ => exact le_sumM _
        | 2, _ => exact le_sumM _
        | 3, _ => exact le_sumM _
      and_intros <;> first | exact True.intro | exact hle | rfl | exact .inl (Nat.le_refl _)
    · rw [Bool.cond_decide]
      split
      · rename_i hi4
        have hi4 : i < 4 := by omega
        rw [Int.toNat_natCast]
        have e3 : IntKind.wrap IntKind.i64 ((i : Int) + 1) = ((i + 1 : Nat) : Int) := by rw [i64w (by omega) (by omega)]; omega
        have hlf : LeFun 4 (pdF M A X Y Q b l) (pdF M A X Y Q b l) := LeFun.same rfl
        refine ⟨⟨by omega, by omega⟩, hi4, ?_⟩
        rcases hall i with ⟨q1, q2, q3⟩ | ⟨q1, q2, q3, q4⟩
        · rw [q1, q2, q3]
          refine ⟨⟨by omega, by omega⟩, hi4, ⟨by omega, by omega, by omega, by omega, by omega⟩, ⟨by omega, by omega⟩, hi4, i + 1, by omega, ?_, by omega⟩
          rw [e3]
          and_intros <;> first | exact True.intro | exact hlf | rfl | exact .inl (Nat.le_refl _)
        · have hb1 : (mdM M).natAbs < 2 ^ 200 := by have := mdM_b hc.1; exact Nat.lt_of_lt_of_le (show (mdM M).natAbs < 2 ^ 9 by omega) (Nat.pow_le_pow_right (by omega) (by omega))
          rw [q1, q2]
          refine ⟨⟨by omega, by omega⟩, hi4, ⟨by omega, by omega, by omega⟩, ⟨by omega, by omega⟩, hi4, ⟨by omega, by omega⟩, hi4, ⟨by omega, by omega⟩, ⟨by omega, by omega⟩, ?_⟩
          rw [decide_eq_false (show ¬ icmp (pdRs M A X Y Q b l i).d 1 ≤ 0 by rw [icmp_le]; omega), cond_false]
          refine ⟨⟨by omega, by omega⟩, hi4, ⟨by omega, by omega⟩, ?_⟩
          rw [decide_eq_false (show ¬ icmp (pdRs M A X Y Q b l i).d (mdM M) ≥ 0 by rw [ge_iff_le, icmp_pos]; omega), cond_false]
          refine ⟨i + 1, by omega, ?_, by omega⟩
          rw [e3]
          and_intros <;> first | exact True.intro | exact hlf | rfl | exact .inl (Nat.le_refl _)
      · rfl
  · simp at h
noncomputable def c_pd : Ctr Try.prog := ⟨5, s_pd, fun args w => Try.call5 args w, fn_ok mix Try.func5 s_pd p_pd⟩

end Go.Proofs.Ytceochfccebebaa

namespace Go.Proofs.Ytceochfccebebaa
open Go Go.ChangeShapes Go.WideShapes Go.ChangeAt Go.RowKit

def tysPd : List Nat := [24, 49, 5, 22, 4, 27, 76]
theorem tysPd_ok : tysPd.all (subOk Try.prog tysPd) = true := by kernel_rfl

theorem pd_contract (H : Type) (enc : TypeId × Value → H) (W : World) (args : Array Value) (ds gs : List (DataW H)) (before : List MemPlace)
    (hW : DataW.Whole enc Try.prog Try.f5.params.toList Rows.pointDividesSpec.vars Rows.pointDividesRow.apart W args.toList ds gs before) :
    Calls Try.prog 5 args W fun e W' => ∃ v, e = .returned v ∧ Rows.pointDividesSpec.post enc Try.prog Try.f5 Rows.pointDividesRow.apart Rows.pointDividesRow.fresh Rows.pointDividesRow.handsOn Rows.pointDividesRow.again W args v W' := by
  have hW' := hW
  obtain ⟨p, q, hA, hV, rfl, hfz, hnd⟩ := hW
  rw [Try.params5] at hA
  obtain ⟨v0, v1, d0, d1, p0, p1, rfl, rfl, rfl, h0, h1⟩ := trodAll_two hA
  obtain ⟨rfl, rfl⟩ := trodVars_none hV
  obtain ⟨M, A, X, Y, Q, r0, c0⟩ := rep_crv h0
  obtain ⟨b, l, r1, c1, c2⟩ := rep_raw h1
  refine law_calls c_pd rfl rfl tysPd_ok (by rw [Try.params5]; decide) hW' ⟨[crvM M A X Y Q, rawM b l], _, rfl, ⟨c0, c1, c2⟩, _, _, rfl, r0, _, _, rfl, r1, rfl⟩ rfl

set_option maxHeartbeats 1600000 in
set_option maxRecDepth 100000 in
theorem pd_lifted (os : Os) (started : os.Started) (H : Type) (enc : TypeId × Value → H) :
    ReturnsInHanded {} Try.checked os 5 .any (Rows.pointDividesSpec.pre6 enc Try.prog Try.f5 Rows.pointDividesRow.domain Rows.pointDividesRow.apart) (Rows.pointDividesSpec.post enc Try.prog Try.f5 Rows.pointDividesRow.apart Rows.pointDividesRow.fresh Rows.pointDividesRow.handsOn Rows.pointDividesRow.again) := by
  refine returnsInHanded_of_change (C := Try.checked) own started (by kernel_rfl) Try.func5
    (ChangeSpec.witness6 (enc := enc) (C := Try.checked) false ⟨#[], #[.agg #[.int .u8 0, .int .u8 0, .int .u8 0, .int .u8 0, .int .u16 0], .agg #[.bool false, .slice none 0 0]], []⟩ 8 (by kernel_rfl) (by kernel_rfl) (by kernel_rfl) (by kernel_rfl)) ?_
  intro W base args ds gs before hval hW _ _
  exact pd_contract H enc W args ds gs before hW

theorem pd_over : Rows.pointDividesRow.holds Try.pinned (OpenSpec.ofChange Rows.pointDividesSpec) :=
  OpenClaim.holds_of_wide 5 Try.f5 rfl rfl rfl rfl rfl rfl rfl ⟨rfl, rfl, rfl, rfl, rfl⟩ rfl rfl rfl rfl rfl (by kernel_rfl) Try.func5 (by kernel_rfl)
    (of_decide_eq_true (by kernel_rfl)) (by unfold Func.isWrapper; first | (rw [if_pos (by decide +kernel)]; kernel_rfl) | (rw [if_neg (by decide +kernel)]; exact ⟨rfl, rfl⟩))
    (fun os started H enc _ => pd_lifted os started H enc)

theorem pointDivides_holds : Rows.PointDividesSaid := pd_over

end Go.Proofs.Ytceochfccebebaa
