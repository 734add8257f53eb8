/-
  ModularPowers: whatever the base, the modulus and the two exponents are: powers multiply by adding exponents, and there are negative powers exactly of what is coprime to the modulus.
-/
import Derived.Test.YtcikhffhikgahaaDoorW5
import Derived.Test.YtcikhffhikgahaaDoorW4


/-
  The walk of ModularPowers.
-/
namespace Go.Proofs.YtcikhffhikgahaaDoor
open Go Go.RowKit

theorem icmp_eq1 (a b : Int) : (icmp a b == 0) = decide (a = b) := by
  by_cases h : a = b
  · rw [decide_eq_true h, icmp_zero.2 h]; rfl
  · rw [decide_eq_false h]
    simp only [beq_eq_false_iff_ne]
    exact fun e => h (icmp_zero.1 e)
theorem icmp_self0 (a : Int) : icmp a a = 0 := icmp_zero.2 rfl

theorem vc_mpows (b1 b2 : Bool) (l1 l2 : List Int) (e1 e2 : Int) : (((∀ (x : Int), x ∈ l1 → (0 : Int) ≤ x ∧ x < (4294967296 : Int)) ∧ (0 : Int) ≤ (3 : Int) ∧ (3 : Int) ≤ (1000 : Int) ∧ List.length l1 < (9223372036854775808 : Nat)) ∧ ((∀ (x : Int), x ∈ l2 → (0 : Int) ≤ x ∧ x < (4294967296 : Int)) ∧ (0 : Int) ≤ (3 : Int) ∧ (3 : Int) ≤ (1000 : Int) ∧ List.length l2 < (9223372036854775808 : Nat)) ∧ (32 : Nat) * Int.toNat (3 : Int) ≤ (1000000 : Nat) ∧ ((-9223372036854775808 : Int) ≤ (1 : Int) ∧ (1 : Int) ≤ (9223372036854775807 : Int)) ∧ ((32 : Nat) * Int.toNat (3 : Int) ≤ (1000000 : Nat) ∧ (64 : Nat) ≤ (1000000 : Nat)) ∧ ((32 : Nat) * Int.toNat (3 : Int) ≤ (1000 : Nat) ∧ max ((32 : Nat) * Int.toNat (3 : Int)) (64 : Nat) + (1 : Nat) ≤ (1000 : Nat)) ∧ ((32 : Nat) * Int.toNat (3 : Int) ≤ (900000 : Nat) ∧ max ((32 : Nat) * Int.toNat (3 : Int)) (64 : Nat) + (1 : Nat) ≤ (900000 : Nat)) ∧ ((-9223372036854775808 : Int) ≤ (1 : Int) ∧ (1 : Int) ≤ (9223372036854775807 : Int)) ∧ (max ((32 : Nat) * Int.toNat (3 : Int)) (max ((32 : Nat) * Int.toNat (3 : Int)) (64 : Nat) + (1 : Nat)) ≤ (1000000 : Nat) ∧ (64 : Nat) ≤ (1000000 : Nat)) ∧ bif !(invE (madeI b1 l1 (Int.toNat (3 : Int))) ((↑(Int.natAbs (madeI b2 l2 (Int.toNat (3 : Int)))) : Int) + (1 : Int)) == (0 : Int)) == (icmp (↑(Int.gcd (madeI b1 l1 (Int.toNat (3 : Int))) ((↑(Int.natAbs (madeI b2 l2 (Int.toNat (3 : Int)))) : Int) + (1 : Int))) : Int) (1 : Int) == (0 : Int)) then false = true else ((0 : Int) ≤ (0 : Int) ∧ (0 : Int) < (↑(2 : Nat) : Int)) ∧ ((-9223372036854775808 : Int) ≤ IntKind.wrap IntKind.i64 e1 ∧ IntKind.wrap IntKind.i64 e1 ≤ (9223372036854775807 : Int)) ∧ ((0 : Int) ≤ (1 : Int) ∧ (1 : Int) < (↑(2 : Nat) : Int)) ∧ ((-9223372036854775808 : Int) ≤ IntKind.wrap IntKind.i64 e2 ∧ IntKind.wrap IntKind.i64 e2 ≤ (9223372036854775807 : Int)) ∧ ((32 : Nat) * Int.toNat (3 : Int) ≤ (1000 : Nat) ∧ (64 : Nat) ≤ (1000 : Nat) ∧ max ((32 : Nat) * Int.toNat (3 : Int)) (64 : Nat) + (1 : Nat) ≤ (1000 : Nat)) ∧ ((32 : Nat) * Int.toNat (3 : Int) ≤ (1000 : Nat) ∧ (64 : Nat) ≤ (1000 : Nat) ∧ max ((32 : Nat) * Int.toNat (3 : Int)) (64 : Nat) + (1 : Nat) ≤ (1000 : Nat)) ∧ ((64 : Nat) ≤ (1000000 : Nat) ∧ (64 : Nat) ≤ (1000000 : Nat)) ∧ ((32 : Nat) * Int.toNat (3 : Int) ≤ (1000 : Nat) ∧ max (64 : Nat) (64 : Nat) + (1 : Nat) ≤ (1000 : Nat) ∧ max ((32 : Nat) * Int.toNat (3 : Int)) (64 : Nat) + (1 : Nat) ≤ (1000 : Nat)) ∧ bif icmp (↑(Int.gcd (madeI b1 l1 (Int.toNat (3 : Int))) ((↑(Int.natAbs (madeI b2 l2 (Int.toNat (3 : Int)))) : Int) + (1 : Int))) : Int) (1 : Int) == (0 : Int) then ((32 : Nat) * Int.toNat (3 : Int) ≤ (1000000 : Nat) ∧ max ((32 : Nat) * Int.toNat (3 : Int)) (64 : Nat) + (1 : Nat) ≤ (1000000 : Nat)) ∧ ((32 : Nat) * Int.toNat (3 : Int) + (max ((32 : Nat) * Int.toNat (3 : Int)) (64 : Nat) + (1 : Nat)) ≤ (900000 : Nat) ∧ max ((32 : Nat) * Int.toNat (3 : Int)) (64 : Nat) + (1 : Nat) ≤ (900000 : Nat)) ∧ ((-9223372036854775808 : Int) ≤ (1 : Int) ∧ (1 : Int) ≤ (9223372036854775807 : Int)) ∧ ((64 : Nat) ≤ (900000 : Nat) ∧ max ((32 : Nat) * Int.toNat (3 : Int)) (64 : Nat) + (1 : Nat) ≤ (900000 : Nat)) ∧ bif modE ((↑(Int.natAbs (madeI b2 l2 (Int.toNat (3 : Int)))) : Int) + (1 : Int)) != (0 : Int) then false = true else bif modE ((↑(Int.natAbs (madeI b2 l2 (Int.toNat (3 : Int)))) : Int) + (1 : Int)) != (0 : Int) then false = true else (max ((32 : Nat) * Int.toNat (3 : Int)) (64 : Nat) + (1 : Nat) ≤ (1000000 : Nat) ∧ max ((32 : Nat) * Int.toNat (3 : Int)) (64 : Nat) + (1 : Nat) ≤ (1000000 : Nat)) ∧ bif icmp (modV (madeI b1 l1 (Int.toNat (3 : Int)) * invV (madeI b1 l1 (Int.toNat (3 : Int))) ((↑(Int.natAbs (madeI b2 l2 (Int.toNat (3 : Int)))) : Int) + (1 : Int))) ((↑(Int.natAbs (madeI b2 l2 (Int.toNat (3 : Int)))) : Int) + (1 : Int))) (modV (1 : Int) ((↑(Int.natAbs (madeI b2 l2 (Int.toNat (3 : Int)))) : Int) + (1 : Int))) != (0 : Int) then false = true else bif powE (madeI b1 l1 (Int.toNat (3 : Int))) (IntKind.wrap IntKind.i64 e1) ((↑(Int.natAbs (madeI b2 l2 (Int.toNat (3 : Int)))) : Int) + (1 : Int)) != (0 : Int) then bif powE (madeI b1 l1 (Int.toNat (3 : Int))) (IntKind.wrap IntKind.i64 e1) ((↑(Int.natAbs (madeI b2 l2 (Int.toNat (3 : Int)))) : Int) + (1 : Int)) == (0 : Int) then bif powE (madeI b1 l1 (Int.toNat (3 : Int))) (IntKind.wrap IntKind.i64 e2) ((↑(Int.natAbs (madeI b2 l2 (Int.toNat (3 : Int)))) : Int) + (1 : Int)) == (0 : Int) then bif !icmp (↑(Int.gcd (madeI b1 l1 (Int.toNat (3 : Int))) ((↑(Int.natAbs (madeI b2 l2 (Int.toNat (3 : Int)))) : Int) + (1 : Int))) : Int) (1 : Int) == (0 : Int) then true = true else false = true else bif powE (madeI b1 l1 (Int.toNat (3 : Int))) (IntKind.wrap IntKind.i64 e2) ((↑(Int.natAbs (madeI b2 l2 (Int.toNat (3 : Int)))) : Int) + (1 : Int)) == (4 : Int) then ((0 : Int) ≤ (1 : Int) ∧ (1 : Int) < (↑(2 : Nat) : Int)) ∧ bif decide (e2 < (0 : Int)) then bif !icmp (↑(Int.gcd (madeI b1 l1 (Int.toNat (3 : Int))) ((↑(Int.natAbs (madeI b2 l2 (Int.toNat (3 : Int)))) : Int) + (1 : Int))) : Int) (1 : Int) == (0 : Int) then true = true else false = true else false = true else false = true else bif powE (madeI b1 l1 (Int.toNat (3 : Int))) (IntKind.wrap IntKind.i64 e1) ((↑(Int.natAbs (madeI b2 l2 (Int.toNat (3 : Int)))) : Int) + (1 : Int)) == (4 : Int) then ((0 : Int) ≤ (0 : Int) ∧ (0 : Int) < (↑(2 : Nat) : Int)) ∧ bif decide (e1 < (0 : Int)) then bif powE (madeI b1 l1 (Int.toNat (3 : Int))) (IntKind.wrap IntKind.i64 e2) ((↑(Int.natAbs (madeI b2 l2 (Int.toNat (3 : Int)))) : Int) + (1 : Int)) == (0 : Int) then bif !icmp (↑(Int.gcd (madeI b1 l1 (Int.toNat (3 : Int))) ((↑(Int.natAbs (madeI b2 l2 (Int.toNat (3 : Int)))) : Int) + (1 : Int))) : Int) (1 : Int) == (0 : Int) then true = true else false = true else bif powE (madeI b1 l1 (Int.toNat (3 : Int))) (IntKind.wrap IntKind.i64 e2) ((↑(Int.natAbs (madeI b2 l2 (Int.toNat (3 : Int)))) : Int) + (1 : Int)) == (4 : Int) then ((0 : Int) ≤ (1 : Int) ∧ (1 : Int) < (↑(2 : Nat) : Int)) ∧ bif decide (e2 < (0 : Int)) then bif !icmp (↑(Int.gcd (madeI b1 l1 (Int.toNat (3 : Int))) ((↑(Int.natAbs (madeI b2 l2 (Int.toNat (3 : Int)))) : Int) + (1 : Int))) : Int) (1 : Int) == (0 : Int) then true = true else false = true else false = true else false = true else false = true else false = true else bif powE (madeI b1 l1 (Int.toNat (3 : Int))) (IntKind.wrap IntKind.i64 e2) ((↑(Int.natAbs (madeI b2 l2 (Int.toNat (3 : Int)))) : Int) + (1 : Int)) != (0 : Int) then bif powE (madeI b1 l1 (Int.toNat (3 : Int))) (IntKind.wrap IntKind.i64 e1) ((↑(Int.natAbs (madeI b2 l2 (Int.toNat (3 : Int)))) : Int) + (1 : Int)) == (0 : Int) then bif powE (madeI b1 l1 (Int.toNat (3 : Int))) (IntKind.wrap IntKind.i64 e2) ((↑(Int.natAbs (madeI b2 l2 (Int.toNat (3 : Int)))) : Int) + (1 : Int)) == (0 : Int) then bif !icmp (↑(Int.gcd (madeI b1 l1 (Int.toNat (3 : Int))) ((↑(Int.natAbs (madeI b2 l2 (Int.toNat (3 : Int)))) : Int) + (1 : Int))) : Int) (1 : Int) == (0 : Int) then true = true else false = true else bif powE (madeI b1 l1 (Int.toNat (3 : Int))) (IntKind.wrap IntKind.i64 e2) ((↑(Int.natAbs (madeI b2 l2 (Int.toNat (3 : Int)))) : Int) + (1 : Int)) == (4 : Int) then ((0 : Int) ≤ (1 : Int) ∧ (1 : Int) < (↑(2 : Nat) : Int)) ∧ bif decide (e2 < (0 : Int)) then bif !icmp (↑(Int.gcd (madeI b1 l1 (Int.toNat (3 : Int))) ((↑(Int.natAbs (madeI b2 l2 (Int.toNat (3 : Int)))) : Int) + (1 : Int))) : Int) (1 : Int) == (0 : Int) then true = true else false = true else false = true else false = true else bif powE (madeI b1 l1 (Int.toNat (3 : Int))) (IntKind.wrap IntKind.i64 e1) ((↑(Int.natAbs (madeI b2 l2 (Int.toNat (3 : Int)))) : Int) + (1 : Int)) == (4 : Int) then ((0 : Int) ≤ (0 : Int) ∧ (0 : Int) < (↑(2 : Nat) : Int)) ∧ bif decide (e1 < (0 : Int)) then bif powE (madeI b1 l1 (Int.toNat (3 : Int))) (IntKind.wrap IntKind.i64 e2) ((↑(Int.natAbs (madeI b2 l2 (Int.toNat (3 : Int)))) : Int) + (1 : Int)) == (0 : Int) then bif !icmp (↑(Int.gcd (madeI b1 l1 (Int.toNat (3 : Int))) ((↑(Int.natAbs (madeI b2 l2 (Int.toNat (3 : Int)))) : Int) + (1 : Int))) : Int) (1 : Int) == (0 : Int) then true = true else false = true else bif powE (madeI b1 l1 (Int.toNat (3 : Int))) (IntKind.wrap IntKind.i64 e2) ((↑(Int.natAbs (madeI b2 l2 (Int.toNat (3 : Int)))) : Int) + (1 : Int)) == (4 : Int) then ((0 : Int) ≤ (1 : Int) ∧ (1 : Int) < (↑(2 : Nat) : Int)) ∧ bif decide (e2 < (0 : Int)) then bif !icmp (↑(Int.gcd (madeI b1 l1 (Int.toNat (3 : Int))) ((↑(Int.natAbs (madeI b2 l2 (Int.toNat (3 : Int)))) : Int) + (1 : Int))) : Int) (1 : Int) == (0 : Int) then true = true else false = true else false = true else false = true else false = true else false = true else (max ((32 : Nat) * Int.toNat (3 : Int)) (64 : Nat) + (1 : Nat) ≤ (1000000 : Nat) ∧ max ((32 : Nat) * Int.toNat (3 : Int)) (64 : Nat) + (1 : Nat) ≤ (1000000 : Nat)) ∧ (max ((32 : Nat) * Int.toNat (3 : Int)) (64 : Nat) + (1 : Nat) + (max ((32 : Nat) * Int.toNat (3 : Int)) (64 : Nat) + (1 : Nat)) ≤ (900000 : Nat) ∧ max ((32 : Nat) * Int.toNat (3 : Int)) (64 : Nat) + (1 : Nat) ≤ (900000 : Nat)) ∧ bif powE (madeI b1 l1 (Int.toNat (3 : Int))) (IntKind.wrap IntKind.i64 e1 + IntKind.wrap IntKind.i64 e2) ((↑(Int.natAbs (madeI b2 l2 (Int.toNat (3 : Int)))) : Int) + (1 : Int)) == (0 : Int) then bif modE ((↑(Int.natAbs (madeI b2 l2 (Int.toNat (3 : Int)))) : Int) + (1 : Int)) == (0 : Int) then (max ((32 : Nat) * Int.toNat (3 : Int)) (64 : Nat) + (1 : Nat) ≤ (1000000 : Nat) ∧ max ((32 : Nat) * Int.toNat (3 : Int)) (64 : Nat) + (1 : Nat) ≤ (1000000 : Nat)) ∧ bif icmp (modV (powV (madeI b1 l1 (Int.toNat (3 : Int))) (IntKind.wrap IntKind.i64 e1) ((↑(Int.natAbs (madeI b2 l2 (Int.toNat (3 : Int)))) : Int) + (1 : Int)) * powV (madeI b1 l1 (Int.toNat (3 : Int))) (IntKind.wrap IntKind.i64 e2) ((↑(Int.natAbs (madeI b2 l2 (Int.toNat (3 : Int)))) : Int) + (1 : Int))) ((↑(Int.natAbs (madeI b2 l2 (Int.toNat (3 : Int)))) : Int) + (1 : Int))) (powV (madeI b1 l1 (Int.toNat (3 : Int))) (IntKind.wrap IntKind.i64 e1 + IntKind.wrap IntKind.i64 e2) ((↑(Int.natAbs (madeI b2 l2 (Int.toNat (3 : Int)))) : Int) + (1 : Int))) == (0 : Int) then true = true else false = true else false = true else false = true else bif powE (madeI b1 l1 (Int.toNat (3 : Int))) (IntKind.wrap IntKind.i64 e1) ((↑(Int.natAbs (madeI b2 l2 (Int.toNat (3 : Int)))) : Int) + (1 : Int)) != (0 : Int) then bif powE (madeI b1 l1 (Int.toNat (3 : Int))) (IntKind.wrap IntKind.i64 e1) ((↑(Int.natAbs (madeI b2 l2 (Int.toNat (3 : Int)))) : Int) + (1 : Int)) == (0 : Int) then bif powE (madeI b1 l1 (Int.toNat (3 : Int))) (IntKind.wrap IntKind.i64 e2) ((↑(Int.natAbs (madeI b2 l2 (Int.toNat (3 : Int)))) : Int) + (1 : Int)) == (0 : Int) then bif !icmp (↑(Int.gcd (madeI b1 l1 (Int.toNat (3 : Int))) ((↑(Int.natAbs (madeI b2 l2 (Int.toNat (3 : Int)))) : Int) + (1 : Int))) : Int) (1 : Int) == (0 : Int) then true = true else false = true else bif powE (madeI b1 l1 (Int.toNat (3 : Int))) (IntKind.wrap IntKind.i64 e2) ((↑(Int.natAbs (madeI b2 l2 (Int.toNat (3 : Int)))) : Int) + (1 : Int)) == (4 : Int) then ((0 : Int) ≤ (1 : Int) ∧ (1 : Int) < (↑(2 : Nat) : Int)) ∧ bif decide (e2 < (0 : Int)) then bif !icmp (↑(Int.gcd (madeI b1 l1 (Int.toNat (3 : Int))) ((↑(Int.natAbs (madeI b2 l2 (Int.toNat (3 : Int)))) : Int) + (1 : Int))) : Int) (1 : Int) == (0 : Int) then true = true else false = true else false = true else false = true else bif powE (madeI b1 l1 (Int.toNat (3 : Int))) (IntKind.wrap IntKind.i64 e1) ((↑(Int.natAbs (madeI b2 l2 (Int.toNat (3 : Int)))) : Int) + (1 : Int)) == (4 : Int) then ((0 : Int) ≤ (0 : Int) ∧ (0 : Int) < (↑(2 : Nat) : Int)) ∧ bif decide (e1 < (0 : Int)) then bif powE (madeI b1 l1 (Int.toNat (3 : Int))) (IntKind.wrap IntKind.i64 e2) ((↑(Int.natAbs (madeI b2 l2 (Int.toNat (3 : Int)))) : Int) + (1 : Int)) == (0 : Int) then bif !icmp (↑(Int.gcd (madeI b1 l1 (Int.toNat (3 : Int))) ((↑(Int.natAbs (madeI b2 l2 (Int.toNat (3 : Int)))) : Int) + (1 : Int))) : Int) (1 : Int) == (0 : Int) then true = true else false = true else bif powE (madeI b1 l1 (Int.toNat (3 : Int))) (IntKind.wrap IntKind.i64 e2) ((↑(Int.natAbs (madeI b2 l2 (Int.toNat (3 : Int)))) : Int) + (1 : Int)) == (4 : Int) then ((0 : Int) ≤ (1 : Int) ∧ (1 : Int) < (↑(2 : Nat) : Int)) ∧ bif decide (e2 < (0 : Int)) then bif !icmp (↑(Int.gcd (madeI b1 l1 (Int.toNat (3 : Int))) ((↑(Int.natAbs (madeI b2 l2 (Int.toNat (3 : Int)))) : Int) + (1 : Int))) : Int) (1 : Int) == (0 : Int) then true = true else false = true else false = true else false = true else false = true else false = true else bif powE (madeI b1 l1 (Int.toNat (3 : Int))) (IntKind.wrap IntKind.i64 e2) ((↑(Int.natAbs (madeI b2 l2 (Int.toNat (3 : Int)))) : Int) + (1 : Int)) != (0 : Int) then bif powE (madeI b1 l1 (Int.toNat (3 : Int))) (IntKind.wrap IntKind.i64 e1) ((↑(Int.natAbs (madeI b2 l2 (Int.toNat (3 : Int)))) : Int) + (1 : Int)) == (0 : Int) then bif powE (madeI b1 l1 (Int.toNat (3 : Int))) (IntKind.wrap IntKind.i64 e2) ((↑(Int.natAbs (madeI b2 l2 (Int.toNat (3 : Int)))) : Int) + (1 : Int)) == (0 : Int) then bif !icmp (↑(Int.gcd (madeI b1 l1 (Int.toNat (3 : Int))) ((↑(Int.natAbs (madeI b2 l2 (Int.toNat (3 : Int)))) : Int) + (1 : Int))) : Int) (1 : Int) == (0 : Int) then true = true else false = true else bif powE (madeI b1 l1 (Int.toNat (3 : Int))) (IntKind.wrap IntKind.i64 e2) ((↑(Int.natAbs (madeI b2 l2 (Int.toNat (3 : Int)))) : Int) + (1 : Int)) == (4 : Int) then ((0 : Int) ≤ (1 : Int) ∧ (1 : Int) < (↑(2 : Nat) : Int)) ∧ bif decide (e2 < (0 : Int)) then bif !icmp (↑(Int.gcd (madeI b1 l1 (Int.toNat (3 : Int))) ((↑(Int.natAbs (madeI b2 l2 (Int.toNat (3 : Int)))) : Int) + (1 : Int))) : Int) (1 : Int) == (0 : Int) then true = true else false = true else false = true else false = true else bif powE (madeI b1 l1 (Int.toNat (3 : Int))) (IntKind.wrap IntKind.i64 e1) ((↑(Int.natAbs (madeI b2 l2 (Int.toNat (3 : Int)))) : Int) + (1 : Int)) == (4 : Int) then ((0 : Int) ≤ (0 : Int) ∧ (0 : Int) < (↑(2 : Nat) : Int)) ∧ bif decide (e1 < (0 : Int)) then bif powE (madeI b1 l1 (Int.toNat (3 : Int))) (IntKind.wrap IntKind.i64 e2) ((↑(Int.natAbs (madeI b2 l2 (Int.toNat (3 : Int)))) : Int) + (1 : Int)) == (0 : Int) then bif !icmp (↑(Int.gcd (madeI b1 l1 (Int.toNat (3 : Int))) ((↑(Int.natAbs (madeI b2 l2 (Int.toNat (3 : Int)))) : Int) + (1 : Int))) : Int) (1 : Int) == (0 : Int) then true = true else false = true else bif powE (madeI b1 l1 (Int.toNat (3 : Int))) (IntKind.wrap IntKind.i64 e2) ((↑(Int.natAbs (madeI b2 l2 (Int.toNat (3 : Int)))) : Int) + (1 : Int)) == (4 : Int) then ((0 : Int) ≤ (1 : Int) ∧ (1 : Int) < (↑(2 : Nat) : Int)) ∧ bif decide (e2 < (0 : Int)) then bif !icmp (↑(Int.gcd (madeI b1 l1 (Int.toNat (3 : Int))) ((↑(Int.natAbs (madeI b2 l2 (Int.toNat (3 : Int)))) : Int) + (1 : Int))) : Int) (1 : Int) == (0 : Int) then true = true else false = true else false = true else false = true else false = true else false = true else (max ((32 : Nat) * Int.toNat (3 : Int)) (64 : Nat) + (1 : Nat) ≤ (1000000 : Nat) ∧ max ((32 : Nat) * Int.toNat (3 : Int)) (64 : Nat) + (1 : Nat) ≤ (1000000 : Nat)) ∧ (max ((32 : Nat) * Int.toNat (3 : Int)) (64 : Nat) + (1 : Nat) + (max ((32 : Nat) * Int.toNat (3 : Int)) (64 : Nat) + (1 : Nat)) ≤ (900000 : Nat) ∧ max ((32 : Nat) * Int.toNat (3 : Int)) (64 : Nat) + (1 : Nat) ≤ (900000 : Nat)) ∧ bif powE (madeI b1 l1 (Int.toNat (3 : Int))) (IntKind.wrap IntKind.i64 e1 + IntKind.wrap IntKind.i64 e2) ((↑(Int.natAbs (madeI b2 l2 (Int.toNat (3 : Int)))) : Int) + (1 : Int)) == (0 : Int) then bif modE ((↑(Int.natAbs (madeI b2 l2 (Int.toNat (3 : Int)))) : Int) + (1 : Int)) == (0 : Int) then (max ((32 : Nat) * Int.toNat (3 : Int)) (64 : Nat) + (1 : Nat) ≤ (1000000 : Nat) ∧ max ((32 : Nat) * Int.toNat (3 : Int)) (64 : Nat) + (1 : Nat) ≤ (1000000 : Nat)) ∧ bif icmp (modV (powV (madeI b1 l1 (Int.toNat (3 : Int))) (IntKind.wrap IntKind.i64 e1) ((↑(Int.natAbs (madeI b2 l2 (Int.toNat (3 : Int)))) : Int) + (1 : Int)) * powV (madeI b1 l1 (Int.toNat (3 : Int))) (IntKind.wrap IntKind.i64 e2) ((↑(Int.natAbs (madeI b2 l2 (Int.toNat (3 : Int)))) : Int) + (1 : Int))) ((↑(Int.natAbs (madeI b2 l2 (Int.toNat (3 : Int)))) : Int) + (1 : Int))) (powV (madeI b1 l1 (Int.toNat (3 : Int))) (IntKind.wrap IntKind.i64 e1 + IntKind.wrap IntKind.i64 e2) ((↑(Int.natAbs (madeI b2 l2 (Int.toNat (3 : Int)))) : Int) + (1 : Int))) == (0 : Int) then true = true else false = true else false = true else false = true) = evFn (env [c_lex, c_rMade, c_abs, c_lof, c_iadd, c_linv, c_igcd, c_icmp, c_lpow, c_mul, c_modU] noAnn) Tryd.f7 [rawM b1 l1, rawM b2 l2, .st [.int .i16 e1, .int .i16 e2]] (MRes.sat (.ret (.bool true))) := by kernel_rfl

theorem pwm_mulE (a b m : Int) (i : Nat) : pwm (a * b) i m = pwm a i m * pwm b i m % m := by
  unfold pwm
  rw [← Int.mul_emod, Int.mul_pow]
theorem pwm_cong {a m : Int} (h : a % m = 1 % m) (i : Nat) : pwm a i m = 1 % m := by
  induction i with
  | zero => exact pwm_zero a m
  | succ i ih => rw [← pwm_mul, ih, pwm_one, h, ← Int.mul_emod, Int.one_mul]
theorem emod_mul_l (x y m : Int) : x % m * y % m = x * y % m := by
  rw [Int.mul_emod, Int.emod_emod_of_dvd _ (Int.dvd_refl m), ← Int.mul_emod]
theorem emod_mul_r (x y m : Int) : x * (y % m) % m = x * y % m := by
  rw [Int.mul_emod, Int.emod_emod_of_dvd _ (Int.dvd_refl m), ← Int.mul_emod]
/-- A power of a and a power of what a is inverse to. -/
theorem pwm_cancel {a u m : Int} (h : u * a % m = 1 % m) (i d : Nat) : pwm a (i + d) m * pwm u i m % m = pwm a d m := by
  rw [← pwm_mul, emod_mul_l, Int.mul_comm (pwm a i m), Int.mul_assoc, ← emod_mul_r, ← pwm_mulE, Int.mul_comm a u, pwm_cong h, emod_mul_r, Int.mul_one]
  unfold pwm
  exact Int.emod_emod_of_dvd _ (Int.dvd_refl m)
theorem powR_mul {a m : Int} (hm : 0 < m) (hg : Int.gcd a m = 1) (e f : Int) : powR a e m * powR a f m % m = powR a (e + f) m := by
  obtain ⟨_, _, c, h3⟩ := minv_spec hm hg
  have hu : minv a m * a % m = 1 % m := by
    have : minv a m * a = 1 + m * c := by omega
    rw [this, Int.add_mul_emod_self_left]
  have hu' : a * minv a m % m = 1 % m := by rw [Int.mul_comm]; exact hu
  unfold powR
  by_cases h1 : e < 0 <;> by_cases h2 : f < 0
  · rw [if_pos h1, if_pos h2, if_pos (by omega), pwm_mul]
    congr 1; omega
  · rw [if_pos h1, if_neg h2]
    by_cases h4 : e + f < 0
    · rw [if_pos h4]
      have := pwm_cancel hu' f.natAbs (e + f).natAbs
      rwa [show f.natAbs + (e + f).natAbs = e.natAbs by omega] at this
    · rw [if_neg h4]
      have := pwm_cancel hu e.natAbs (e + f).natAbs
      rwa [show e.natAbs + (e + f).natAbs = f.natAbs by omega, Int.mul_comm] at this
  · rw [if_neg h1, if_pos h2]
    by_cases h4 : e + f < 0
    · rw [if_pos h4]
      have := pwm_cancel hu' e.natAbs (e + f).natAbs
      rwa [show e.natAbs + (e + f).natAbs = f.natAbs by omega, Int.mul_comm] at this
    · rw [if_neg h4]
      have := pwm_cancel hu f.natAbs (e + f).natAbs
      rwa [show f.natAbs + (e + f).natAbs = e.natAbs by omega] at this
  · rw [if_neg h1, if_neg h2, if_neg (by omega), pwm_mul]
    congr 1; omega

/-- What the errors and values are. -/
theorem pw_cop {a n : Int} (hn : 0 < n) (hg : Int.gcd a n = 1) (e f : Int) :
    powE a e n = 0 ∧ powE a f n = 0 ∧ powE a (e + f) n = 0 ∧ powV a e n * powV a f n % n = powV a (e + f) n := by
  unfold powE powV
  rw [if_pos hn, if_pos hn, if_pos hn, if_pos hn, if_pos hn, if_pos hn, if_neg (fun h => h.2 hg), if_neg (fun h => h.2 hg), if_neg (fun h => h.2 hg), if_neg (fun h => h.2 hg), if_neg (fun h => h.2 hg), if_neg (fun h => h.2 hg)]
  exact ⟨rfl, rfl, rfl, powR_mul hn hg e f⟩
theorem pw_not {a n : Int} (hn : 0 < n) (hg : ¬ Int.gcd a n = 1) (e : Int) : powE a e n = if e < 0 then 4 else 0 := by
  unfold powE
  rw [if_pos hn]
  by_cases he : e < 0
  · rw [if_pos ⟨he, hg⟩, if_pos he]
  · rw [if_neg (fun h => he h.1), if_neg he]
theorem pw_notV {a n : Int} (hn : 0 < n) (e f : Int) (he : ¬ e < 0) (hf : ¬ f < 0) : powV a e n * powV a f n % n = powV a (e + f) n := by
  unfold powV
  rw [if_pos hn, if_pos hn, if_pos hn, if_neg (fun h => he h.1), if_neg (fun h => hf h.1), if_neg (fun h => by omega)]
  unfold powR
  rw [if_neg he, if_neg hf, if_neg (by omega), pwm_mul]
  congr 1; omega
theorem inv_prod {a n : Int} (hn : 0 < n) (hg : Int.gcd a n = 1) : a * invV a n % n = 1 % n := by
  obtain ⟨_, _, c, h3⟩ := minv_spec hn hg
  unfold invV
  rw [if_pos hn, if_pos hg]
  have : a * minv a n = 1 + n * c := by rw [Int.mul_comm]; omega
  rw [this, Int.add_mul_emod_self_left]

def s_mpows : FSpec
  | [.st [.bool _, .ws l1], .st [.bool _, .ws l2], .st [.int .i16 e1, .int .i16 e2]] =>
    some (some ((Wd l1 ∧ l1.length < 9223372036854775808) ∧ (Wd l2 ∧ l2.length < 9223372036854775808) ∧ (-32768 ≤ e1 ∧ e1 ≤ 32767) ∧ (-32768 ≤ e2 ∧ e2 ≤ 32767)), .ret (.bool true))
  | _ => none
theorem p_mpows : Good Tryd.f7 s_mpows := by
  intro ms p r h hp
  unfold s_mpows at h
  split at h
  · rename_i b1 l1 b2 l2 e1 e2
    simp only [Option.some.injEq, Prod.mk.injEq] at h
    obtain ⟨rfl, rfl⟩ := h
    obtain ⟨⟨w1, n1⟩, ⟨w2, n2⟩, ⟨x1, x2⟩, y1, y2⟩ : (Wd l1 ∧ l1.length < 9223372036854775808) ∧ (Wd l2 ∧ l2.length < 9223372036854775808) ∧ (-32768 ≤ e1 ∧ e1 ≤ 32767) ∧ (-32768 ≤ e2 ∧ e2 ≤ 32767) := hp
    refine ⟨env [c_lex, c_rMade, c_abs, c_lof, c_iadd, c_linv, c_igcd, c_icmp, c_lpow, c_mul, c_modU] noAnn, ?_⟩
    rw [← vc_mpows b1 b2 l1 l2 e1 e2]
    have hx : IntKind.wrap IntKind.i64 e1 = e1 := i64w (by omega) (by omega)
    have hy : IntKind.wrap IntKind.i64 e2 = e2 := i64w (by omega) (by omega)
    rw [hx, hy]
    refine ⟨⟨w1, by omega, by omega, n1⟩, ⟨w2, by omega, by omega, n2⟩, by omega, by omega, by omega, by omega, by omega, by omega, by omega, ?_⟩
    have hnp : 0 < ((madeI b2 l2 (Int.toNat 3)).natAbs : Int) + 1 := by omega
    generalize madeI b1 l1 (Int.toNat 3) = a
    generalize ((madeI b2 l2 (Int.toNat 3)).natAbs : Int) + 1 = n at *
    have em : modE n = 0 := if_pos hnp
    have ev : ∀ x, modV x n = x % n := fun x => if_pos hnp
    rw [em]
    simp only [ev, icmp_eq1]
    by_cases hg : Int.gcd a n = 1
    · have ei : invE a n = 0 := by unfold invE; rw [if_pos hnp, if_pos hg]
      obtain ⟨p1, p2, p3, p4⟩ := pw_cop hnp hg e1 e2
      have hi := inv_prod hnp hg
      have hG : ((Int.gcd a n : Int) = 1) := by omega
      simp only [ei, p1, p2, p3, p4, hi, hG, icmp_self0, decide_true, Bool.not_true, cond_false, cond_true, beq_self_eq_true, bne_self_eq_false, and_true]
      and_intros <;> omega
    · have ei : invE a n = 4 := by unfold invE; rw [if_pos hnp, if_neg hg]
      have p1 := pw_not hnp hg e1
      have p2 := pw_not hnp hg e2
      have p3 := pw_not hnp hg (e1 + e2)
      have hG : ¬ ((Int.gcd a n : Int) = 1) := by omega
      have q40 : ((4 : Int) == 0) = false := rfl
      have q41 : ((4 : Int) != 0) = true := rfl
      by_cases h1 : e1 < 0
      · rw [if_pos h1] at p1
        by_cases h2 : e2 < 0
        · rw [if_pos h2] at p2
          simp only [ei, p1, p2, hG, h1, h2, q40, q41, decide_true, decide_false, Bool.not_true, Bool.not_false, cond_false, cond_true, beq_self_eq_true, and_true]
          and_intros <;> omega
        · rw [if_neg h2] at p2
          simp only [ei, p1, p2, hG, h1, q40, q41, decide_true, decide_false, Bool.not_true, Bool.not_false, cond_false, cond_true, beq_self_eq_true, and_true]
          and_intros <;> omega
      · rw [if_neg h1] at p1
        by_cases h2 : e2 < 0
        · rw [if_pos h2] at p2
          simp only [ei, p1, p2, hG, h2, q40, q41, decide_true, decide_false, Bool.not_true, Bool.not_false, cond_false, cond_true, beq_self_eq_true, bne_self_eq_false, and_true]
          and_intros <;> omega
        · rw [if_neg h2] at p2
          rw [if_neg (show ¬ e1 + e2 < 0 by omega)] at p3
          have p4 := pw_notV (a := a) hnp e1 e2 h1 h2
          simp only [ei, p1, p2, p3, p4, hG, q40, decide_true, decide_false, Bool.not_true, cond_false, cond_true, beq_self_eq_true, bne_self_eq_false, and_true]
          and_intros <;> omega
  · simp at h
def c_mpows : Ctr Tryd.prog := ⟨7, s_mpows, fun args w => Tryd.call7 args w, fn_ok mix Tryd.func7 s_mpows p_mpows⟩

end Go.Proofs.YtcikhffhikgahaaDoor

/-
  The frame of the laws of chapter 03: pairs of numbers of 16 bits; numbers.
-/
namespace Go.Proofs.YtcikhffhikgahaaDoor
open Go Go.ChangeShapes Go.WideShapes Go.ChangeAt Go.RowKit

theorem cells_two16 : Tryd.prog.cellsOf 61 = 2 := by kernel_rfl
theorem cells_i16 : Tryd.prog.cellsOf 39 = 1 := by kernel_rfl
theorem rep_two16 {H : Type} {enc : TypeId × Value → H} {w : World} {sp : Nat → Bool} {held : Bool} {v : Value} {d : DataW H} {ps : List MemPlace} (h : DataW.Trod enc Tryd.prog w 0 sp held 61 v d ps) :
    ∃ k0 k1, Rep1 (Ctx.args noS) w (.st [.int .i16 k0, .int .i16 k1]) v ∧ (-32768 ≤ k0 ∧ k0 ≤ 32767) ∧ (-32768 ≤ k1 ∧ k1 ≤ 32767) := by
  obtain ⟨fuel, h⟩ := h
  obtain ⟨hl, f', hf⟩ := trod_array Tryd.underlying61 h
  rw [cells_two16] at hl
  match hc : v.cells.toList, hl with
  | [a, b], _ =>
    rw [hc, cells_i16] at hf
    obtain ⟨y0, h0⟩ := hf 0 (by decide)
    obtain ⟨y1, h1⟩ := hf 1 (by decide)
    obtain ⟨n0, e0, w0⟩ := trod_int Tryd.underlying39 h0
    obtain ⟨n1, e1, w1⟩ := trod_int Tryd.underlying39 h1
    have z0 : [a] = [.int .i16 n0] := e0
    have z1 : [b] = [.int .i16 n1] := e1
    simp only [List.cons.injEq, and_true] at z0 z1
    subst z0 z1
    exact ⟨n0, n1, (rep1_agg rfl).2 ⟨_, agg_cells hc, _, _, rfl, rfl, _, _, rfl, rfl, rfl⟩, i16_wf w0, i16_wf w1⟩
theorem ok_at {P : Program} {W : World} {base : Nat} {args : Array Value} {ts : Array TypeId} (hval : ∀ (j : Nat) t v, ts[j]? = some t → args[j]? = some v → Value.okWide P W .any base t v) {j : Nat} {t : TypeId} {v : Value} (h1 : ts[j]? = some t) (h2 : args[j]? = some v) : Value.okWide P W .any base t v := hval j t v h1 h2

end Go.Proofs.YtcikhffhikgahaaDoor

namespace Go.Proofs.YtcikhffhikgahaaDoor
open Go Go.ChangeShapes Go.WideShapes Go.ChangeAt Go.RowKit

def tysModularPowers : List Nat := [24, 4, 22, 72, 61, 39]
theorem tysModularPowers_ok : tysModularPowers.all (subOk Tryd.prog tysModularPowers) = true := by kernel_rfl

theorem modularPowers_contract (H : Type) (enc : TypeId × Value → H) (W : World) (args : Array Value) (ds gs : List (DataW H)) (before : List MemPlace) (hG : GW noS W)
    (hW : DataW.Whole enc Tryd.prog Tryd.f7.params.toList Rows.modularPowersSpec.vars Rows.modularPowersRow.apart W args.toList ds gs before) :
    Calls Tryd.prog 7 args W fun e W' => ∃ v, e = .returned v ∧ Rows.modularPowersSpec.post enc Tryd.prog Tryd.f7 Rows.modularPowersRow.apart Rows.modularPowersRow.fresh Rows.modularPowersRow.handsOn Rows.modularPowersRow.again W args v W' := by
  have hW' := hW
  obtain ⟨p, q, hA, hV, rfl, hfz, hnd⟩ := hW
  rw [Tryd.params7] at hA
  obtain ⟨v0, v1, v2, d0, d1, d2, p0, p1, p2, rfl, rfl, rfl, h0, h1, h2⟩ := trodAll_three hA
  obtain ⟨rfl, rfl⟩ := trodVars_none hV
  obtain ⟨b0, l0, r0, w0⟩ := rep_raw h0
  obtain ⟨b1, l1, r1, w1⟩ := rep_raw h1
  obtain ⟨z2, z2x, r2, w2, w2x⟩ := rep_two16 h2
  refine law_calls c_mpows rfl rfl tysModularPowers_ok (by rw [Tryd.params7]; decide) hW' hG ⟨[rawM b0 l0, rawM b1 l1, .st [.int .i16 z2, .int .i16 z2x]], _, rfl, ⟨w0, w1, w2, w2x⟩, _, _, rfl, r0, _, _, rfl, r1, _, _, rfl, r2, rfl⟩ rfl

set_option maxHeartbeats 1600000 in
set_option maxRecDepth 100000 in
theorem modularPowers_lifted (os : Os) (started : os.Started) (H : Type) (enc : TypeId × Value → H) :
    ReturnsInHanded {} Tryd.checked os 7 .any (fun w args => (Rows.modularPowersSpec.pre enc Tryd.prog Tryd.f7 [] false w args ∧ laidMetH Tryd.prog laid1 w) ∧ sizedMet enc Tryd.prog Tryd.f7 (OpenSpec.ofChange Rows.modularPowersSpec) false w args)
      (Rows.modularPowersSpec.post enc Tryd.prog Tryd.f7 false true false false) := by
  refine returnsInHanded_of_change_and (C := Tryd.checked) (X := fun w _ => laidMetH Tryd.prog laid1 w) (fun _ _ _ hh h => h.of_heap hh) own started (by kernel_rfl) Tryd.func7
    (ChangeSpec.witness_shaped (enc := enc) (C := Tryd.checked) (os := os) (X := fun w _ => laidMetH Tryd.prog laid1 w) false (World.doorLaid Tryd.prog 400 os) #[.agg #[.bool false, .slice none 0 0], .agg #[.bool false, .slice none 0 0], .agg #[.int .i16 0, .int .i16 0]] 8 rfl (World.shaped_of_RefB (by kernel_rfl) (by kernel_rfl)) (by kernel_rfl) (by kernel_rfl) (by kernel_rfl) (door_met os _)) ?_
  intro W base args ds gs before hval0 hW _ _ hL _
  exact modularPowers_contract H enc W args ds gs before (gw_of_laid hL) hW

theorem modularPowers_over : Rows.ModularPowersSaid :=
  OpenClaim.holds_of_wide 7 Tryd.f7 rfl rfl rfl rfl rfl rfl rfl ⟨rfl, rfl, rfl, rfl, rfl⟩ rfl rfl rfl rfl rfl (by kernel_rfl) Tryd.func7 (by kernel_rfl)
    (of_decide_eq_true (by kernel_rfl)) (by unfold Func.isWrapper; first | (rw [if_pos (by decide +kernel)]; kernel_rfl) | (rw [if_neg (by decide +kernel)]; exact ⟨rfl, rfl⟩))
    (fun os started H enc _ => modularPowers_lifted os started H enc)

theorem modularPowers_holds : Rows.ModularPowersCardSaid :=
  Claim7.holds_tied_plain_at .later [] [.data] true (true, Rows.modularPowersCard.stood.harness.2) false
    modularPowers_over (fun _ h => by cases h) (by kernel_rfl) (fun _ h => by cases h) modularPowers_row_tie rfl ⟨rfl, rfl⟩ (by kernel_rfl) rfl
    (fun f fn hf hfn => by
      obtain rfl : f = 7 := Option.some.inj ((show Tryd.prog.funcNamed "algorist/algoristlaw03.ModularPowers" = some 7 by kernel_rfl).symm.trans hf) |>.symm
      obtain rfl : fn = Tryd.f7 := (Option.some.inj (Tryd.func7.symm.trans hfn)).symm
      exact ⟨by kernel_rfl, fun j t ht => by
        rw [Tryd.params7] at ht
        have hm : t ∈ [24, 24, 61] := by simpa using Array.mem_of_getElem? ht
        have hall : ([24, 24, 61].all fun u => !Tryd.prog.wantsStandIn u) = true := by kernel_rfl
        exact (show Tryd.prog.wantsStandIn t = false by simpa using List.all_eq_true.1 hall t hm)⟩)
    (by kernel_rfl)

end Go.Proofs.YtcikhffhikgahaaDoor
