/-
  PointMatchesReference: whatever the curve, the other curve and point, and the factor are: membership, negatives, sums and multiples are those of the reference.
-/
import Derived.Test.YtceochfccebebaaGreatW5


/-
  The walk of PointMatchesReference.
-/
namespace Go.Proofs.YtceochfccebebaaGreat
open Go Go.RowKit

/-- A description of a curve and a point. -/
abbrev oddM (b1 b2 b3 b4 b5 o : Bool) (l1 l2 l3 l4 l5 : List Int) : MV := .st [rawM b1 l1, rawM b2 l2, rawM b3 l3, rawM b4 l4, rawM b5 l5, .bool o]
/-- The curve, the point on it, the other point; the factor; another curve and another point. -/
structure PmS where
  A : Int
  B : Int
  M : Int
  X : Int
  Y : Int
  P : Pt
  k : Int
  oA : Int
  oB : Int
  oM : Int
  rX : Int
  rY : Int
  rO : Bool
abbrev pmBx5 (x y n : MV) (s : PmS) : List Box := [⟨false, .one x⟩, ⟨false, .one y⟩, ⟨false, .one n⟩, ⟨false, .one (cvM s.A s.B s.M 64 64 64)⟩, ⟨false, .one (ptM s.X s.Y false 64 64)⟩, ⟨false, .one (ptOf s.P)⟩]
abbrev pmTm5 : List (Nat × MV) := [(3, .bp 0 0), (4, .bp 1 0), (5, .bp 2 0), (6, .bool false), (7, .bool true), (8, .bp 3 0), (9, .bp 4 0), (10, .bp 5 0)]
abbrev pmBx8 (x y n : MV) (s : PmS) : List Box := pmBx5 x y n s ++ [⟨false, .one (.big s.k 64)⟩, ⟨false, .one (cvM s.oA s.oB s.oM 64 64 64)⟩, ⟨false, .one (ptM s.rX s.rY s.rO 64 64)⟩]
abbrev pmTm8 : List (Nat × MV) := pmTm5 ++ [(11, .bp 6 0), (12, .bp 7 0), (13, .bp 8 0)]
noncomputable abbrev pmN (s : PmS) : RS := negI s.A s.B s.M s.rX s.rY s.rO
noncomputable def pmCut (x y n : MV) (s : PmS) : Nat → MS → Option CutAnn
  | 5, _ => some (.mk Bool (fun t => t = true) (fun _ => ⟨139, pmTm5, pmBx5 x y n s, 0⟩))
  | 8, _ => some (.mk Bool (fun t => t = true) (fun _ => ⟨139, pmTm8, pmBx8 x y n s, 0⟩))
  | 10, _ => some (.mk Bool (fun t => t = true) (fun _ => ⟨139, pmTm8, pmBx8 x y n s, 0⟩))
  | 12, _ => some (.mk Bool (fun t => t = true) (fun _ => ⟨139, pmTm8 ++ [(14, .bp 9 0), (15, .int .i64 (pmN s).e), (16, .bp 10 0), (17, .int .i64 (pmN s).e)],
      pmBx8 x y n s ++ [⟨false, .one (ptM (pmN s).X (pmN s).Y (pmN s).o 200 200)⟩, ⟨false, .one (ptM (pmN s).X (pmN s).Y (pmN s).o 200 200)⟩], 0⟩))
  | _, _ => none
theorem vc_pm (M A X Y Q : Int) (b1 b2 b3 b4 b5 b6 o : Bool) (l1 l2 l3 l4 l5 l6 : List Int) (s : PmS) : ((((0 : Int) ≤ M ∧ M ≤ (255 : Int) ∧ (0 : Int) ≤ A ∧ A ≤ (255 : Int) ∧ (0 : Int) ≤ X ∧ X ≤ (255 : Int) ∧ (0 : Int) ≤ Y ∧ Y ≤ (255 : Int) ∧ (0 : Int) ≤ Q ∧ Q ≤ (65535 : Int)) ∧ ∃ i, i = true ∧ ((0 : Nat) = (0 : Nat) ∧ (0 : Nat) = (0 : Nat) ∧ (0 : Nat) = (0 : Nat) ∧ false = false ∧ true = true ∧ (0 : Nat) = (0 : Nat) ∧ (0 : Nat) = (0 : Nat) ∧ (0 : Nat) = (0 : Nat) ∧ True) ∧ (M = M ∧ A = A ∧ X = X ∧ Y = Y ∧ Q = Q ∧ True) ∧ ((b1 = b1 ∧ l1 = l1 ∧ True) ∧ (b2 = b2 ∧ l2 = l2 ∧ True) ∧ (b3 = b3 ∧ l3 = l3 ∧ True) ∧ (b4 = b4 ∧ l4 = l4 ∧ True) ∧ (b5 = b5 ∧ l5 = l5 ∧ True) ∧ o = o ∧ True) ∧ (b6 = b6 ∧ l6 = l6 ∧ True) ∧ ((A % mdM M = PmS.A s ∧ ((64 : Nat) ≤ (64 : Nat) ∨ Int.natAbs (A % mdM M) < (2 : Nat) ^ (64 : Nat))) ∧ (mdB (mdM M) A X Y = PmS.B s ∧ ((64 : Nat) ≤ (64 : Nat) ∨ Int.natAbs (mdB (mdM M) A X Y) < (2 : Nat) ^ (64 : Nat))) ∧ (mdM M = PmS.M s ∧ ((64 : Nat) ≤ (64 : Nat) ∨ Int.natAbs (mdM M) < (2 : Nat) ^ (64 : Nat))) ∧ True) ∧ ((X % mdM M = PmS.X s ∧ ((64 : Nat) ≤ (64 : Nat) ∨ Int.natAbs (X % mdM M) < (2 : Nat) ^ (64 : Nat))) ∧ (Y % mdM M = PmS.Y s ∧ ((64 : Nat) ≤ (64 : Nat) ∨ Int.natAbs (Y % mdM M) < (2 : Nat) ^ (64 : Nat))) ∧ false = false ∧ True) ∧ ((Prod.fst (mdP (mdM M) A X Y Q) = Prod.fst (PmS.P s) ∧ ((64 : Nat) ≤ (64 : Nat) ∨ Int.natAbs (Prod.fst (mdP (mdM M) A X Y Q)) < (2 : Nat) ^ (64 : Nat))) ∧ (Prod.fst (Prod.snd (mdP (mdM M) A X Y Q)) = Prod.fst (Prod.snd (PmS.P s)) ∧ ((64 : Nat) ≤ (64 : Nat) ∨ Int.natAbs (Prod.fst (Prod.snd (mdP (mdM M) A X Y Q))) < (2 : Nat) ^ (64 : Nat))) ∧ Prod.snd (Prod.snd (mdP (mdM M) A X Y Q)) = Prod.snd (Prod.snd (PmS.P s)) ∧ True) ∧ True) ∧ ∀ (i : Bool), i = true → ((∀ (x : Int), x ∈ l6 → (0 : Int) ≤ x ∧ x < (4294967296 : Int)) ∧ (0 : Int) ≤ (2 : Int) ∧ (2 : Int) ≤ (1000 : Int) ∧ List.length l6 < (9223372036854775808 : Nat)) ∧ ((∀ (x : Int), x ∈ l1 → (0 : Int) ≤ x ∧ x < (4294967296 : Int)) ∧ (0 : Int) ≤ (2 : Int) ∧ (2 : Int) ≤ (1000 : Int) ∧ List.length l1 < (9223372036854775808 : Nat)) ∧ ((∀ (x : Int), x ∈ l2 → (0 : Int) ≤ x ∧ x < (4294967296 : Int)) ∧ (0 : Int) ≤ (2 : Int) ∧ (2 : Int) ≤ (1000 : Int) ∧ List.length l2 < (9223372036854775808 : Nat)) ∧ ((∀ (x : Int), x ∈ l3 → (0 : Int) ≤ x ∧ x < (4294967296 : Int)) ∧ (0 : Int) ≤ (2 : Int) ∧ (2 : Int) ≤ (1000 : Int) ∧ List.length l3 < (9223372036854775808 : Nat)) ∧ (((∀ (x : Int), x ∈ l4 → (0 : Int) ≤ x ∧ x < (4294967296 : Int)) ∧ (0 : Int) ≤ (2 : Int) ∧ (2 : Int) ≤ (1000 : Int) ∧ List.length l4 < (9223372036854775808 : Nat)) ∧ ((∀ (x : Int), x ∈ l5 → (0 : Int) ≤ x ∧ x < (4294967296 : Int)) ∧ (0 : Int) ≤ (2 : Int) ∧ (2 : Int) ≤ (1000 : Int) ∧ List.length l5 < (9223372036854775808 : Nat)) ∧ ∃ i, i = true ∧ ((0 : Nat) = (0 : Nat) ∧ (0 : Nat) = (0 : Nat) ∧ (0 : Nat) = (0 : Nat) ∧ false = false ∧ true = true ∧ (0 : Nat) = (0 : Nat) ∧ (0 : Nat) = (0 : Nat) ∧ (0 : Nat) = (0 : Nat) ∧ (0 : Nat) = (0 : Nat) ∧ (0 : Nat) = (0 : Nat) ∧ (0 : Nat) = (0 : Nat) ∧ True) ∧ (M = M ∧ A = A ∧ X = X ∧ Y = Y ∧ Q = Q ∧ True) ∧ ((b1 = b1 ∧ l1 = l1 ∧ True) ∧ (b2 = b2 ∧ l2 = l2 ∧ True) ∧ (b3 = b3 ∧ l3 = l3 ∧ True) ∧ (b4 = b4 ∧ l4 = l4 ∧ True) ∧ (b5 = b5 ∧ l5 = l5 ∧ True) ∧ o = o ∧ True) ∧ (b6 = b6 ∧ l6 = l6 ∧ True) ∧ ((PmS.A s = PmS.A s ∧ ((64 : Nat) ≤ (64 : Nat) ∨ Int.natAbs (PmS.A s) < (2 : Nat) ^ (64 : Nat))) ∧ (PmS.B s = PmS.B s ∧ ((64 : Nat) ≤ (64 : Nat) ∨ Int.natAbs (PmS.B s) < (2 : Nat) ^ (64 : Nat))) ∧ (PmS.M s = PmS.M s ∧ ((64 : Nat) ≤ (64 : Nat) ∨ Int.natAbs (PmS.M s) < (2 : Nat) ^ (64 : Nat))) ∧ True) ∧ ((PmS.X s = PmS.X s ∧ ((64 : Nat) ≤ (64 : Nat) ∨ Int.natAbs (PmS.X s) < (2 : Nat) ^ (64 : Nat))) ∧ (PmS.Y s = PmS.Y s ∧ ((64 : Nat) ≤ (64 : Nat) ∨ Int.natAbs (PmS.Y s) < (2 : Nat) ^ (64 : Nat))) ∧ false = false ∧ True) ∧ ((Prod.fst (PmS.P s) = Prod.fst (PmS.P s) ∧ ((64 : Nat) ≤ (64 : Nat) ∨ Int.natAbs (Prod.fst (PmS.P s)) < (2 : Nat) ^ (64 : Nat))) ∧ (Prod.fst (Prod.snd (PmS.P s)) = Prod.fst (Prod.snd (PmS.P s)) ∧ ((64 : Nat) ≤ (64 : Nat) ∨ Int.natAbs (Prod.fst (Prod.snd (PmS.P s))) < (2 : Nat) ^ (64 : Nat))) ∧ Prod.snd (Prod.snd (PmS.P s)) = Prod.snd (Prod.snd (PmS.P s)) ∧ True) ∧ (madeI b6 l6 (Int.toNat (2 : Int)) = PmS.k s ∧ ((32 : Nat) * Int.toNat (2 : Int) ≤ (64 : Nat) ∨ Int.natAbs (madeI b6 l6 (Int.toNat (2 : Int))) < (2 : Nat) ^ (64 : Nat))) ∧ ((madeI b1 l1 (Int.toNat (2 : Int)) = PmS.oA s ∧ ((32 : Nat) * Int.toNat (2 : Int) ≤ (64 : Nat) ∨ Int.natAbs (madeI b1 l1 (Int.toNat (2 : Int))) < (2 : Nat) ^ (64 : Nat))) ∧ (madeI b2 l2 (Int.toNat (2 : Int)) = PmS.oB s ∧ ((32 : Nat) * Int.toNat (2 : Int) ≤ (64 : Nat) ∨ Int.natAbs (madeI b2 l2 (Int.toNat (2 : Int))) < (2 : Nat) ^ (64 : Nat))) ∧ (madeI b3 l3 (Int.toNat (2 : Int)) = PmS.oM s ∧ ((32 : Nat) * Int.toNat (2 : Int) ≤ (64 : Nat) ∨ Int.natAbs (madeI b3 l3 (Int.toNat (2 : Int))) < (2 : Nat) ^ (64 : Nat))) ∧ True) ∧ ((madeI b4 l4 (Int.toNat (2 : Int)) = PmS.rX s ∧ ((32 : Nat) * Int.toNat (2 : Int) ≤ (64 : Nat) ∨ Int.natAbs (madeI b4 l4 (Int.toNat (2 : Int))) < (2 : Nat) ^ (64 : Nat))) ∧ (madeI b5 l5 (Int.toNat (2 : Int)) = PmS.rY s ∧ ((32 : Nat) * Int.toNat (2 : Int) ≤ (64 : Nat) ∨ Int.natAbs (madeI b5 l5 (Int.toNat (2 : Int))) < (2 : Nat) ^ (64 : Nat))) ∧ o = PmS.rO s ∧ True) ∧ True) ∧ ∀ (i : Bool), i = true → (((64 : Nat) ≤ (1000 : Nat) ∧ (64 : Nat) ≤ (1000 : Nat) ∧ (64 : Nat) ≤ (1000 : Nat) ∧ (64 : Nat) ≤ (1000 : Nat) ∧ (64 : Nat) ≤ (1000 : Nat)) ∧ ((64 : Nat) ≤ (200 : Nat) ∧ (64 : Nat) ≤ (200 : Nat) ∧ (64 : Nat) ≤ (200 : Nat) ∧ (64 : Nat) ≤ (200 : Nat) ∧ (64 : Nat) ≤ (200 : Nat)) ∧ bif !onB (PmS.oA s) (PmS.oB s) (PmS.oM s) (PmS.rX s) (PmS.rY s) (PmS.rO s) == onB (PmS.oA s) (PmS.oB s) (PmS.oM s) (PmS.rX s) (PmS.rY s) (PmS.rO s) then false = true else ((64 : Nat) ≤ (1000 : Nat) ∧ (64 : Nat) ≤ (1000 : Nat) ∧ (64 : Nat) ≤ (1000 : Nat) ∧ (64 : Nat) ≤ (1000 : Nat) ∧ (64 : Nat) ≤ (1000 : Nat)) ∧ ((64 : Nat) ≤ (200 : Nat) ∧ (64 : Nat) ≤ (200 : Nat) ∧ (64 : Nat) ≤ (200 : Nat) ∧ (64 : Nat) ≤ (200 : Nat) ∧ (64 : Nat) ≤ (200 : Nat)) ∧ bif !onB (PmS.A s) (PmS.B s) (PmS.M s) (PmS.rX s) (PmS.rY s) (PmS.rO s) == onB (PmS.A s) (PmS.B s) (PmS.M s) (PmS.rX s) (PmS.rY s) (PmS.rO s) then false = true else ((64 : Nat) ≤ (1000 : Nat) ∧ (64 : Nat) ≤ (1000 : Nat) ∧ (64 : Nat) ≤ (1000 : Nat) ∧ (64 : Nat) ≤ (1000 : Nat) ∧ (64 : Nat) ≤ (1000 : Nat)) ∧ bif !onB (PmS.A s) (PmS.B s) (PmS.M s) (PmS.X s) (PmS.Y s) false then false = true else ((64 : Nat) ≤ (200 : Nat) ∧ (64 : Nat) ≤ (200 : Nat) ∧ (64 : Nat) ≤ (200 : Nat) ∧ (64 : Nat) ≤ (200 : Nat) ∧ (64 : Nat) ≤ (200 : Nat) ∧ (64 : Nat) ≤ (200 : Nat) ∧ (64 : Nat) ≤ (200 : Nat)) ∧ ((64 : Nat) ≤ (200 : Nat) ∧ (64 : Nat) ≤ (200 : Nat) ∧ (64 : Nat) ≤ (200 : Nat) ∧ (64 : Nat) ≤ (200 : Nat) ∧ (64 : Nat) ≤ (200 : Nat) ∧ (64 : Nat) ≤ (200 : Nat) ∧ (64 : Nat) ≤ (200 : Nat)) ∧ ((200 : Nat) ≤ (200 : Nat) ∧ (200 : Nat) ≤ (200 : Nat) ∧ (200 : Nat) ≤ (200 : Nat) ∧ (200 : Nat) ≤ (200 : Nat) ∧ (200 : Nat) ≤ (200 : Nat) ∧ (200 : Nat) ≤ (200 : Nat)) ∧ bif !(sameB (RS.X (addI (PmS.A s) (PmS.B s) (PmS.M s) (PmS.X s) (PmS.Y s) false (Prod.fst (PmS.P s)) (Prod.fst (Prod.snd (PmS.P s))) (Prod.snd (Prod.snd (PmS.P s))))) (RS.Y (addI (PmS.A s) (PmS.B s) (PmS.M s) (PmS.X s) (PmS.Y s) false (Prod.fst (PmS.P s)) (Prod.fst (Prod.snd (PmS.P s))) (Prod.snd (Prod.snd (PmS.P s))))) (RS.o (addI (PmS.A s) (PmS.B s) (PmS.M s) (PmS.X s) (PmS.Y s) false (Prod.fst (PmS.P s)) (Prod.fst (Prod.snd (PmS.P s))) (Prod.snd (Prod.snd (PmS.P s))))) (RS.X (addI (PmS.A s) (PmS.B s) (PmS.M s) (PmS.X s) (PmS.Y s) false (Prod.fst (PmS.P s)) (Prod.fst (Prod.snd (PmS.P s))) (Prod.snd (Prod.snd (PmS.P s))))) (RS.Y (addI (PmS.A s) (PmS.B s) (PmS.M s) (PmS.X s) (PmS.Y s) false (Prod.fst (PmS.P s)) (Prod.fst (Prod.snd (PmS.P s))) (Prod.snd (Prod.snd (PmS.P s))))) (RS.o (addI (PmS.A s) (PmS.B s) (PmS.M s) (PmS.X s) (PmS.Y s) false (Prod.fst (PmS.P s)) (Prod.fst (Prod.snd (PmS.P s))) (Prod.snd (Prod.snd (PmS.P s))))) && decide (RS.d (addI (PmS.A s) (PmS.B s) (PmS.M s) (PmS.X s) (PmS.Y s) false (Prod.fst (PmS.P s)) (Prod.fst (Prod.snd (PmS.P s))) (Prod.snd (Prod.snd (PmS.P s)))) = RS.d (addI (PmS.A s) (PmS.B s) (PmS.M s) (PmS.X s) (PmS.Y s) false (Prod.fst (PmS.P s)) (Prod.fst (Prod.snd (PmS.P s))) (Prod.snd (Prod.snd (PmS.P s))))) && RS.e (addI (PmS.A s) (PmS.B s) (PmS.M s) (PmS.X s) (PmS.Y s) false (Prod.fst (PmS.P s)) (Prod.fst (Prod.snd (PmS.P s))) (Prod.snd (Prod.snd (PmS.P s)))) == RS.e (addI (PmS.A s) (PmS.B s) (PmS.M s) (PmS.X s) (PmS.Y s) false (Prod.fst (PmS.P s)) (Prod.fst (Prod.snd (PmS.P s))) (Prod.snd (Prod.snd (PmS.P s))))) then false = true else ((64 : Nat) ≤ (200 : Nat) ∧ (64 : Nat) ≤ (200 : Nat) ∧ (64 : Nat) ≤ (200 : Nat) ∧ (64 : Nat) ≤ (200 : Nat) ∧ (64 : Nat) ≤ (200 : Nat) ∧ (64 : Nat) ≤ (200 : Nat) ∧ (64 : Nat) ≤ (200 : Nat)) ∧ ((64 : Nat) ≤ (200 : Nat) ∧ (64 : Nat) ≤ (200 : Nat) ∧ (64 : Nat) ≤ (200 : Nat) ∧ (64 : Nat) ≤ (200 : Nat) ∧ (64 : Nat) ≤ (200 : Nat) ∧ (64 : Nat) ≤ (200 : Nat) ∧ (64 : Nat) ≤ (200 : Nat)) ∧ ((200 : Nat) ≤ (200 : Nat) ∧ (200 : Nat) ≤ (200 : Nat) ∧ (200 : Nat) ≤ (200 : Nat) ∧ (200 : Nat) ≤ (200 : Nat) ∧ (200 : Nat) ≤ (200 : Nat) ∧ (200 : Nat) ≤ (200 : Nat)) ∧ bif !(sameB (RS.X (addI (PmS.A s) (PmS.B s) (PmS.M s) (PmS.X s) (PmS.Y s) false (PmS.rX s) (PmS.rY s) (PmS.rO s))) (RS.Y (addI (PmS.A s) (PmS.B s) (PmS.M s) (PmS.X s) (PmS.Y s) false (PmS.rX s) (PmS.rY s) (PmS.rO s))) (RS.o (addI (PmS.A s) (PmS.B s) (PmS.M s) (PmS.X s) (PmS.Y s) false (PmS.rX s) (PmS.rY s) (PmS.rO s))) (RS.X (addI (PmS.A s) (PmS.B s) (PmS.M s) (PmS.X s) (PmS.Y s) false (PmS.rX s) (PmS.rY s) (PmS.rO s))) (RS.Y (addI (PmS.A s) (PmS.B s) (PmS.M s) (PmS.X s) (PmS.Y s) false (PmS.rX s) (PmS.rY s) (PmS.rO s))) (RS.o (addI (PmS.A s) (PmS.B s) (PmS.M s) (PmS.X s) (PmS.Y s) false (PmS.rX s) (PmS.rY s) (PmS.rO s))) && decide (RS.d (addI (PmS.A s) (PmS.B s) (PmS.M s) (PmS.X s) (PmS.Y s) false (PmS.rX s) (PmS.rY s) (PmS.rO s)) = RS.d (addI (PmS.A s) (PmS.B s) (PmS.M s) (PmS.X s) (PmS.Y s) false (PmS.rX s) (PmS.rY s) (PmS.rO s))) && RS.e (addI (PmS.A s) (PmS.B s) (PmS.M s) (PmS.X s) (PmS.Y s) false (PmS.rX s) (PmS.rY s) (PmS.rO s)) == RS.e (addI (PmS.A s) (PmS.B s) (PmS.M s) (PmS.X s) (PmS.Y s) false (PmS.rX s) (PmS.rY s) (PmS.rO s))) then false = true else ∃ i, i = true ∧ ((0 : Nat) = (0 : Nat) ∧ (0 : Nat) = (0 : Nat) ∧ (0 : Nat) = (0 : Nat) ∧ false = false ∧ true = true ∧ (0 : Nat) = (0 : Nat) ∧ (0 : Nat) = (0 : Nat) ∧ (0 : Nat) = (0 : Nat) ∧ (0 : Nat) = (0 : Nat) ∧ (0 : Nat) = (0 : Nat) ∧ (0 : Nat) = (0 : Nat) ∧ True) ∧ (M = M ∧ A = A ∧ X = X ∧ Y = Y ∧ Q = Q ∧ True) ∧ ((b1 = b1 ∧ l1 = l1 ∧ True) ∧ (b2 = b2 ∧ l2 = l2 ∧ True) ∧ (b3 = b3 ∧ l3 = l3 ∧ True) ∧ (b4 = b4 ∧ l4 = l4 ∧ True) ∧ (b5 = b5 ∧ l5 = l5 ∧ True) ∧ o = o ∧ True) ∧ (b6 = b6 ∧ l6 = l6 ∧ True) ∧ ((PmS.A s = PmS.A s ∧ ((64 : Nat) ≤ (64 : Nat) ∨ Int.natAbs (PmS.A s) < (2 : Nat) ^ (64 : Nat))) ∧ (PmS.B s = PmS.B s ∧ ((64 : Nat) ≤ (64 : Nat) ∨ Int.natAbs (PmS.B s) < (2 : Nat) ^ (64 : Nat))) ∧ (PmS.M s = PmS.M s ∧ ((64 : Nat) ≤ (64 : Nat) ∨ Int.natAbs (PmS.M s) < (2 : Nat) ^ (64 : Nat))) ∧ True) ∧ ((PmS.X s = PmS.X s ∧ ((64 : Nat) ≤ (64 : Nat) ∨ Int.natAbs (PmS.X s) < (2 : Nat) ^ (64 : Nat))) ∧ (PmS.Y s = PmS.Y s ∧ ((64 : Nat) ≤ (64 : Nat) ∨ Int.natAbs (PmS.Y s) < (2 : Nat) ^ (64 : Nat))) ∧ false = false ∧ True) ∧ ((Prod.fst (PmS.P s) = Prod.fst (PmS.P s) ∧ ((64 : Nat) ≤ (64 : Nat) ∨ Int.natAbs (Prod.fst (PmS.P s)) < (2 : Nat) ^ (64 : Nat))) ∧ (Prod.fst (Prod.snd (PmS.P s)) = Prod.fst (Prod.snd (PmS.P s)) ∧ ((64 : Nat) ≤ (64 : Nat) ∨ Int.natAbs (Prod.fst (Prod.snd (PmS.P s))) < (2 : Nat) ^ (64 : Nat))) ∧ Prod.snd (Prod.snd (PmS.P s)) = Prod.snd (Prod.snd (PmS.P s)) ∧ True) ∧ (PmS.k s = PmS.k s ∧ ((64 : Nat) ≤ (64 : Nat) ∨ Int.natAbs (PmS.k s) < (2 : Nat) ^ (64 : Nat))) ∧ ((PmS.oA s = PmS.oA s ∧ ((64 : Nat) ≤ (64 : Nat) ∨ Int.natAbs (PmS.oA s) < (2 : Nat) ^ (64 : Nat))) ∧ (PmS.oB s = PmS.oB s ∧ ((64 : Nat) ≤ (64 : Nat) ∨ Int.natAbs (PmS.oB s) < (2 : Nat) ^ (64 : Nat))) ∧ (PmS.oM s = PmS.oM s ∧ ((64 : Nat) ≤ (64 : Nat) ∨ Int.natAbs (PmS.oM s) < (2 : Nat) ^ (64 : Nat))) ∧ True) ∧ ((PmS.rX s = PmS.rX s ∧ ((64 : Nat) ≤ (64 : Nat) ∨ Int.natAbs (PmS.rX s) < (2 : Nat) ^ (64 : Nat))) ∧ (PmS.rY s = PmS.rY s ∧ ((64 : Nat) ≤ (64 : Nat) ∨ Int.natAbs (PmS.rY s) < (2 : Nat) ^ (64 : Nat))) ∧ PmS.rO s = PmS.rO s ∧ True) ∧ True) ∧ ∀ (i : Bool), i = true → ((64 : Nat) ≤ (200 : Nat) ∧ (64 : Nat) ≤ (200 : Nat) ∧ (64 : Nat) ≤ (200 : Nat) ∧ (64 : Nat) ≤ (200 : Nat) ∧ (64 : Nat) ≤ (200 : Nat)) ∧ (((64 : Nat) ≤ (200 : Nat) ∧ (64 : Nat) ≤ (200 : Nat) ∧ (64 : Nat) ≤ (200 : Nat) ∧ (64 : Nat) ≤ (200 : Nat) ∧ (64 : Nat) ≤ (200 : Nat)) ∧ ∃ i, i = true ∧ ((0 : Nat) = (0 : Nat) ∧ (0 : Nat) = (0 : Nat) ∧ (0 : Nat) = (0 : Nat) ∧ false = false ∧ true = true ∧ (0 : Nat) = (0 : Nat) ∧ (0 : Nat) = (0 : Nat) ∧ (0 : Nat) = (0 : Nat) ∧ (0 : Nat) = (0 : Nat) ∧ (0 : Nat) = (0 : Nat) ∧ (0 : Nat) = (0 : Nat) ∧ (0 : Nat) = (0 : Nat) ∧ RS.e (negI (PmS.A s) (PmS.B s) (PmS.M s) (PmS.rX s) (PmS.rY s) (PmS.rO s)) = RS.e (pmN s) ∧ (0 : Nat) = (0 : Nat) ∧ RS.e (negI (PmS.A s) (PmS.B s) (PmS.M s) (PmS.rX s) (PmS.rY s) (PmS.rO s)) = RS.e (pmN s) ∧ True) ∧ (M = M ∧ A = A ∧ X = X ∧ Y = Y ∧ Q = Q ∧ True) ∧ ((b1 = b1 ∧ l1 = l1 ∧ True) ∧ (b2 = b2 ∧ l2 = l2 ∧ True) ∧ (b3 = b3 ∧ l3 = l3 ∧ True) ∧ (b4 = b4 ∧ l4 = l4 ∧ True) ∧ (b5 = b5 ∧ l5 = l5 ∧ True) ∧ o = o ∧ True) ∧ (b6 = b6 ∧ l6 = l6 ∧ True) ∧ ((PmS.A s = PmS.A s ∧ ((64 : Nat) ≤ (64 : Nat) ∨ Int.natAbs (PmS.A s) < (2 : Nat) ^ (64 : Nat))) ∧ (PmS.B s = PmS.B s ∧ ((64 : Nat) ≤ (64 : Nat) ∨ Int.natAbs (PmS.B s) < (2 : Nat) ^ (64 : Nat))) ∧ (PmS.M s = PmS.M s ∧ ((64 : Nat) ≤ (64 : Nat) ∨ Int.natAbs (PmS.M s) < (2 : Nat) ^ (64 : Nat))) ∧ True) ∧ ((PmS.X s = PmS.X s ∧ ((64 : Nat) ≤ (64 : Nat) ∨ Int.natAbs (PmS.X s) < (2 : Nat) ^ (64 : Nat))) ∧ (PmS.Y s = PmS.Y s ∧ ((64 : Nat) ≤ (64 : Nat) ∨ Int.natAbs (PmS.Y s) < (2 : Nat) ^ (64 : Nat))) ∧ false = false ∧ True) ∧ ((Prod.fst (PmS.P s) = Prod.fst (PmS.P s) ∧ ((64 : Nat) ≤ (64 : Nat) ∨ Int.natAbs (Prod.fst (PmS.P s)) < (2 : Nat) ^ (64 : Nat))) ∧ (Prod.fst (Prod.snd (PmS.P s)) = Prod.fst (Prod.snd (PmS.P s)) ∧ ((64 : Nat) ≤ (64 : Nat) ∨ Int.natAbs (Prod.fst (Prod.snd (PmS.P s))) < (2 : Nat) ^ (64 : Nat))) ∧ Prod.snd (Prod.snd (PmS.P s)) = Prod.snd (Prod.snd (PmS.P s)) ∧ True) ∧ (PmS.k s = PmS.k s ∧ ((64 : Nat) ≤ (64 : Nat) ∨ Int.natAbs (PmS.k s) < (2 : Nat) ^ (64 : Nat))) ∧ ((PmS.oA s = PmS.oA s ∧ ((64 : Nat) ≤ (64 : Nat) ∨ Int.natAbs (PmS.oA s) < (2 : Nat) ^ (64 : Nat))) ∧ (PmS.oB s = PmS.oB s ∧ ((64 : Nat) ≤ (64 : Nat) ∨ Int.natAbs (PmS.oB s) < (2 : Nat) ^ (64 : Nat))) ∧ (PmS.oM s = PmS.oM s ∧ ((64 : Nat) ≤ (64 : Nat) ∨ Int.natAbs (PmS.oM s) < (2 : Nat) ^ (64 : Nat))) ∧ True) ∧ ((PmS.rX s = PmS.rX s ∧ ((64 : Nat) ≤ (64 : Nat) ∨ Int.natAbs (PmS.rX s) < (2 : Nat) ^ (64 : Nat))) ∧ (PmS.rY s = PmS.rY s ∧ ((64 : Nat) ≤ (64 : Nat) ∨ Int.natAbs (PmS.rY s) < (2 : Nat) ^ (64 : Nat))) ∧ PmS.rO s = PmS.rO s ∧ True) ∧ ((RS.X (negI (PmS.A s) (PmS.B s) (PmS.M s) (PmS.rX s) (PmS.rY s) (PmS.rO s)) = RS.X (pmN s) ∧ ((200 : Nat) ≤ (200 : Nat) ∨ Int.natAbs (RS.X (negI (PmS.A s) (PmS.B s) (PmS.M s) (PmS.rX s) (PmS.rY s) (PmS.rO s))) < (2 : Nat) ^ (200 : Nat))) ∧ (RS.Y (negI (PmS.A s) (PmS.B s) (PmS.M s) (PmS.rX s) (PmS.rY s) (PmS.rO s)) = RS.Y (pmN s) ∧ ((200 : Nat) ≤ (200 : Nat) ∨ Int.natAbs (RS.Y (negI (PmS.A s) (PmS.B s) (PmS.M s) (PmS.rX s) (PmS.rY s) (PmS.rO s))) < (2 : Nat) ^ (200 : Nat))) ∧ RS.o (negI (PmS.A s) (PmS.B s) (PmS.M s) (PmS.rX s) (PmS.rY s) (PmS.rO s)) = RS.o (pmN s) ∧ True) ∧ ((RS.X (negI (PmS.A s) (PmS.B s) (PmS.M s) (PmS.rX s) (PmS.rY s) (PmS.rO s)) = RS.X (pmN s) ∧ ((200 : Nat) ≤ (200 : Nat) ∨ Int.natAbs (RS.X (negI (PmS.A s) (PmS.B s) (PmS.M s) (PmS.rX s) (PmS.rY s) (PmS.rO s))) < (2 : Nat) ^ (200 : Nat))) ∧ (RS.Y (negI (PmS.A s) (PmS.B s) (PmS.M s) (PmS.rX s) (PmS.rY s) (PmS.rO s)) = RS.Y (pmN s) ∧ ((200 : Nat) ≤ (200 : Nat) ∨ Int.natAbs (RS.Y (negI (PmS.A s) (PmS.B s) (PmS.M s) (PmS.rX s) (PmS.rY s) (PmS.rO s))) < (2 : Nat) ^ (200 : Nat))) ∧ RS.o (negI (PmS.A s) (PmS.B s) (PmS.M s) (PmS.rX s) (PmS.rY s) (PmS.rO s)) = RS.o (pmN s) ∧ True) ∧ True) ∧ ∀ (i : Bool), i = true → bif RS.e (pmN s) == RS.e (pmN s) then ((200 : Nat) ≤ (1000 : Nat) ∧ (200 : Nat) ≤ (1000 : Nat) ∧ (200 : Nat) ≤ (1000 : Nat) ∧ (200 : Nat) ≤ (1000 : Nat)) ∧ bif sameB (RS.X (pmN s)) (RS.Y (pmN s)) (RS.o (pmN s)) (RS.X (pmN s)) (RS.Y (pmN s)) (RS.o (pmN s)) then ((64 : Nat) ≤ (100000 : Nat) ∧ (64 : Nat) ≤ (200 : Nat) ∧ (64 : Nat) ≤ (200 : Nat) ∧ (64 : Nat) ≤ (200 : Nat) ∧ (64 : Nat) ≤ (200 : Nat) ∧ (64 : Nat) ≤ (200 : Nat)) ∧ ((64 : Nat) ≤ (100000 : Nat) ∧ (64 : Nat) ≤ (200 : Nat) ∧ (64 : Nat) ≤ (200 : Nat) ∧ (64 : Nat) ≤ (200 : Nat) ∧ (64 : Nat) ≤ (200 : Nat) ∧ (64 : Nat) ≤ (200 : Nat)) ∧ ((200 : Nat) ≤ (200 : Nat) ∧ (200 : Nat) ≤ (200 : Nat) ∧ (200 : Nat) ≤ (200 : Nat) ∧ (200 : Nat) ≤ (200 : Nat) ∧ (200 : Nat) ≤ (200 : Nat) ∧ (200 : Nat) ≤ (200 : Nat)) ∧ bif sameB (RS.X (mulI (PmS.A s) (PmS.B s) (PmS.M s) (PmS.k s) (Prod.fst (PmS.P s)) (Prod.fst (Prod.snd (PmS.P s))) (Prod.snd (Prod.snd (PmS.P s))))) (RS.Y (mulI (PmS.A s) (PmS.B s) (PmS.M s) (PmS.k s) (Prod.fst (PmS.P s)) (Prod.fst (Prod.snd (PmS.P s))) (Prod.snd (Prod.snd (PmS.P s))))) (RS.o (mulI (PmS.A s) (PmS.B s) (PmS.M s) (PmS.k s) (Prod.fst (PmS.P s)) (Prod.fst (Prod.snd (PmS.P s))) (Prod.snd (Prod.snd (PmS.P s))))) (RS.X (mulI (PmS.A s) (PmS.B s) (PmS.M s) (PmS.k s) (Prod.fst (PmS.P s)) (Prod.fst (Prod.snd (PmS.P s))) (Prod.snd (Prod.snd (PmS.P s))))) (RS.Y (mulI (PmS.A s) (PmS.B s) (PmS.M s) (PmS.k s) (Prod.fst (PmS.P s)) (Prod.fst (Prod.snd (PmS.P s))) (Prod.snd (Prod.snd (PmS.P s))))) (RS.o (mulI (PmS.A s) (PmS.B s) (PmS.M s) (PmS.k s) (Prod.fst (PmS.P s)) (Prod.fst (Prod.snd (PmS.P s))) (Prod.snd (Prod.snd (PmS.P s))))) && decide (RS.d (mulI (PmS.A s) (PmS.B s) (PmS.M s) (PmS.k s) (Prod.fst (PmS.P s)) (Prod.fst (Prod.snd (PmS.P s))) (Prod.snd (Prod.snd (PmS.P s)))) = RS.d (mulI (PmS.A s) (PmS.B s) (PmS.M s) (PmS.k s) (Prod.fst (PmS.P s)) (Prod.fst (Prod.snd (PmS.P s))) (Prod.snd (Prod.snd (PmS.P s))))) && RS.e (mulI (PmS.A s) (PmS.B s) (PmS.M s) (PmS.k s) (Prod.fst (PmS.P s)) (Prod.fst (Prod.snd (PmS.P s))) (Prod.snd (Prod.snd (PmS.P s)))) == RS.e (mulI (PmS.A s) (PmS.B s) (PmS.M s) (PmS.k s) (Prod.fst (PmS.P s)) (Prod.fst (Prod.snd (PmS.P s))) (Prod.snd (Prod.snd (PmS.P s)))) then ((64 : Nat) ≤ (100000 : Nat) ∧ (64 : Nat) ≤ (200 : Nat) ∧ (64 : Nat) ≤ (200 : Nat) ∧ (64 : Nat) ≤ (200 : Nat) ∧ (64 : Nat) ≤ (200 : Nat) ∧ (64 : Nat) ≤ (200 : Nat)) ∧ ((64 : Nat) ≤ (100000 : Nat) ∧ (64 : Nat) ≤ (200 : Nat) ∧ (64 : Nat) ≤ (200 : Nat) ∧ (64 : Nat) ≤ (200 : Nat) ∧ (64 : Nat) ≤ (200 : Nat) ∧ (64 : Nat) ≤ (200 : Nat)) ∧ ((200 : Nat) ≤ (200 : Nat) ∧ (200 : Nat) ≤ (200 : Nat) ∧ (200 : Nat) ≤ (200 : Nat) ∧ (200 : Nat) ≤ (200 : Nat) ∧ (200 : Nat) ≤ (200 : Nat) ∧ (200 : Nat) ≤ (200 : Nat)) ∧ bif sameB (RS.X (mulI (PmS.oA s) (PmS.oB s) (PmS.oM s) (PmS.k s) (PmS.rX s) (PmS.rY s) (PmS.rO s))) (RS.Y (mulI (PmS.oA s) (PmS.oB s) (PmS.oM s) (PmS.k s) (PmS.rX s) (PmS.rY s) (PmS.rO s))) (RS.o (mulI (PmS.oA s) (PmS.oB s) (PmS.oM s) (PmS.k s) (PmS.rX s) (PmS.rY s) (PmS.rO s))) (RS.X (mulI (PmS.oA s) (PmS.oB s) (PmS.oM s) (PmS.k s) (PmS.rX s) (PmS.rY s) (PmS.rO s))) (RS.Y (mulI (PmS.oA s) (PmS.oB s) (PmS.oM s) (PmS.k s) (PmS.rX s) (PmS.rY s) (PmS.rO s))) (RS.o (mulI (PmS.oA s) (PmS.oB s) (PmS.oM s) (PmS.k s) (PmS.rX s) (PmS.rY s) (PmS.rO s))) && decide (RS.d (mulI (PmS.oA s) (PmS.oB s) (PmS.oM s) (PmS.k s) (PmS.rX s) (PmS.rY s) (PmS.rO s)) = RS.d (mulI (PmS.oA s) (PmS.oB s) (PmS.oM s) (PmS.k s) (PmS.rX s) (PmS.rY s) (PmS.rO s))) && RS.e (mulI (PmS.oA s) (PmS.oB s) (PmS.oM s) (PmS.k s) (PmS.rX s) (PmS.rY s) (PmS.rO s)) == RS.e (mulI (PmS.oA s) (PmS.oB s) (PmS.oM s) (PmS.k s) (PmS.rX s) (PmS.rY s) (PmS.rO s)) then true = true else false = true else false = true else false = true else false = true) = evFn (envC [c_ex, c_made, c_rMade, c_pon, c_rOn, c_ladd, c_rAddIn, c_same2, c_Neg, c_rNeg, c_R6same, c_ltimes, c_rtimes] noAnn (pmCut (crvM M A X Y Q) (oddM b1 b2 b3 b4 b5 o l1 l2 l3 l4 l5) (rawM b6 l6) s)) Tryz.f3 [crvM M A X Y Q, oddM b1 b2 b3 b4 b5 o l1 l2 l3 l4 l5, rawM b6 l6] (MRes.sat (.ret (.bool true))) := by kernel_rfl

theorem sameB_self (X Y : Int) (o : Bool) : sameB X Y o X Y o = true := by simp [sameB]
def s_pm : FSpec
  | [.st [.int .u8 M, .int .u8 A, .int .u8 X, .int .u8 Y, .int .u16 Q], .st [.st [.bool _, .ws l1], .st [.bool _, .ws l2], .st [.bool _, .ws l3], .st [.bool _, .ws l4], .st [.bool _, .ws l5], .bool _], .st [.bool _, .ws l6]] =>
    some (some (crvP M A X Y Q ∧ (Wd l1 ∧ l1.length < 9223372036854775808) ∧ (Wd l2 ∧ l2.length < 9223372036854775808) ∧ (Wd l3 ∧ l3.length < 9223372036854775808) ∧ (Wd l4 ∧ l4.length < 9223372036854775808) ∧ (Wd l5 ∧ l5.length < 9223372036854775808) ∧ (Wd l6 ∧ l6.length < 9223372036854775808)), .ret (.bool true))
  | _ => none
theorem p_pm : Good Tryz.f3 s_pm := by
  intro ms p r h hp
  unfold s_pm at h
  split at h
  · rename_i M A X Y Q b1 l1 b2 l2 b3 l3 b4 l4 b5 l5 o b6 l6
    simp only [Option.some.injEq, Prod.mk.injEq] at h
    obtain ⟨rfl, rfl⟩ := h
    obtain ⟨hc, ⟨w1, g1⟩, ⟨w2, g2⟩, ⟨w3, g3⟩, ⟨w4, g4⟩, ⟨w5, g5⟩, w6, g6⟩ : crvP M A X Y Q ∧ (Wd l1 ∧ l1.length < 9223372036854775808) ∧ (Wd l2 ∧ l2.length < 9223372036854775808) ∧ (Wd l3 ∧ l3.length < 9223372036854775808) ∧ (Wd l4 ∧ l4.length < 9223372036854775808) ∧ (Wd l5 ∧ l5.length < 9223372036854775808) ∧ (Wd l6 ∧ l6.length < 9223372036854775808) := hp
    have hm3 : 3 < mdM M := by unfold mdM; omega
    have hmo : mdM M % 2 ≠ 0 := by unfold mdM; omega
    have hr : ∀ z : Int, 0 ≤ z % mdM M ∧ z % mdM M < mdM M := fun z => ⟨Int.emod_nonneg _ (by omega), Int.emod_lt_of_pos _ (by omega)⟩
    obtain ⟨s, e1, e2, e3, e4, e5, e6, e7, e8, e9, e10, e11, e12, e13, hon⟩ : ∃ s : PmS, A % mdM M = s.A ∧ mdB (mdM M) A X Y = s.B ∧ mdM M = s.M ∧ X % mdM M = s.X ∧ Y % mdM M = s.Y ∧ mdP (mdM M) A X Y Q = s.P ∧ madeI b6 l6 (Int.toNat 2) = s.k ∧ madeI b1 l1 (Int.toNat 2) = s.oA ∧ madeI b2 l2 (Int.toNat 2) = s.oB ∧ madeI b3 l3 (Int.toNat 2) = s.oM ∧ madeI b4 l4 (Int.toNat 2) = s.rX ∧ madeI b5 l5 (Int.toNat 2) = s.rY ∧ o = s.rO ∧ onB s.A s.B s.M s.X s.Y false = true :=
      ⟨⟨_, _, _, _, _, _, _, _, _, _, _, _, _⟩, rfl, rfl, rfl, rfl, rfl, rfl, rfl, rfl, rfl, rfl, rfl, rfl, rfl, curve_on hm3 hmo (hr _).1 (hr _).2 (hr _).1 (hr _).2 (hr _).1 (hr _).2⟩
    refine ⟨envC [c_ex, c_made, c_rMade, c_pon, c_rOn, c_ladd, c_rAddIn, c_same2, c_Neg, c_rNeg, c_R6same, c_ltimes, c_rtimes] noAnn (pmCut (crvM M A X Y Q) (oddM b1 b2 b3 b4 b5 o l1 l2 l3 l4 l5) (rawM b6 l6) s), ?_⟩
    rw [← vc_pm M A X Y Q b1 b2 b3 b4 b5 b6 o l1 l2 l3 l4 l5 l6 s, hon, e6]
    simp only [sameB_self, decide_true, beq_self_eq_true, Bool.and_self, Bool.not_true, cond_false, cond_true, Nat.le_refl, Nat.reduceLeDiff, true_or, and_self, true_and, and_true]
    refine ⟨⟨hc, true, rfl, ?_⟩, fun _ _ => ⟨⟨w6, by omega, by omega, g6⟩, ⟨w1, by omega, by omega, g1⟩, ⟨w2, by omega, by omega, g2⟩, ⟨w3, by omega, by omega, g3⟩, ⟨⟨w4, by omega, by omega, g4⟩, ⟨w5, by omega, by omega, g5⟩, true, rfl, ?_⟩, fun _ _ => ⟨?_, fun _ _ => ?_⟩⟩⟩
    · and_intros <;> first | exact True.intro | rfl | assumption | exact .inl (Nat.le_refl _)
    · and_intros <;> first | exact True.intro | rfl | assumption | exact .inl (Nat.le_refl _)
    · exact ⟨true, rfl⟩
    · exact ⟨⟨true, rfl⟩, fun _ _ => True.intro⟩
  · simp at h
noncomputable def c_pm : Ctr Tryz.prog := ⟨3, s_pm, fun args w => Tryz.call3 args w, fn_ok mix Tryz.func3 s_pm p_pm⟩

end Go.Proofs.YtceochfccebebaaGreat

namespace Go.Proofs.YtceochfccebebaaGreat
open Go Go.ChangeShapes Go.WideShapes Go.ChangeAt Go.RowKit

theorem cells_odd : Tryz.prog.cellsOf 29 = 11 := by kernel_rfl
section
variable {H : Type} {enc : TypeId × Value → H} {w : World} {sp : Nat → Bool} {held : Bool}
theorem len_two {cs : List Value} (h : cs.length = 2) : ∃ a b, cs = [a, b] := by
  match cs, h with
  | [a, b], _ => exact ⟨a, b, rfl⟩
theorem repc_raw {fuel : Nat} {cs : List Value} {y : DataW H × List MemPlace} (h : DataW.trod enc Tryz.prog w 0 sp held fuel 27 cs = some y) : ∃ b l, RepC (Ctx.args noS) w (rawM b l) cs ∧ Wd l ∧ l.length < 9223372036854775808 := by
  obtain ⟨hl, f', hf⟩ := trod_fields Tryz.underlying27 h
  rw [cells_raw] at hl
  obtain ⟨a, b, e⟩ := len_two hl
  rw [e] at hf ⊢
  clear e hl h
  obtain ⟨y0, h0⟩ := hf _ (List.mem_cons_self ..)
  obtain ⟨y1, h1⟩ := hf _ (List.mem_cons_of_mem _ (List.mem_cons_self ..))
  dsimp only at h0 h1
  rw [cells_bool] at h0
  rw [cells_words] at h1
  obtain ⟨b0, e0⟩ := trod_bool Tryz.underlying4 h0
  obtain ⟨s, l, e1, hw, hwd, hlen⟩ := trod_words Tryz.underlying25 Tryz.underlying61 cells_u32 h1
  have z0 : [a] = [.bool b0] := e0
  have z1 : [b] = [s] := e1
  simp only [List.cons.injEq, and_true] at z0 z1
  subst z0 z1
  refine ⟨b0, l, ⟨_, _, rfl, rfl, _, _, rfl, ⟨_, rfl, hw⟩, rfl⟩, hwd, ?_⟩
  have : maxLen = 2 ^ 63 - 1 := rfl
  omega
theorem rep_odd {v : Value} {d : DataW H} {ps : List MemPlace} (h : DataW.Trod enc Tryz.prog w 0 sp held 29 v d ps) : ∃ b1 b2 b3 b4 b5 o l1 l2 l3 l4 l5, Rep1 (Ctx.args noS) w (oddM b1 b2 b3 b4 b5 o l1 l2 l3 l4 l5) v ∧
    (Wd l1 ∧ l1.length < 9223372036854775808) ∧ (Wd l2 ∧ l2.length < 9223372036854775808) ∧ (Wd l3 ∧ l3.length < 9223372036854775808) ∧ (Wd l4 ∧ l4.length < 9223372036854775808) ∧ (Wd l5 ∧ l5.length < 9223372036854775808) := by
  obtain ⟨fuel, h⟩ := h
  obtain ⟨hl, f', hf⟩ := trod_fields Tryz.underlying29 h
  rw [cells_odd] at hl
  match hc : v.cells.toList, hl with
  | [a0, a1, a2, a3, a4, a5, a6, a7, a8, a9, a10], _ =>
    rw [hc] at hf
    obtain ⟨y0, h0⟩ := hf _ (List.mem_cons_self ..)
    obtain ⟨y1, h1⟩ := hf _ (List.mem_cons_of_mem _ (List.mem_cons_self ..))
    obtain ⟨y2, h2⟩ := hf _ (List.mem_cons_of_mem _ (List.mem_cons_of_mem _ (List.mem_cons_self ..)))
    obtain ⟨y3, h3⟩ := hf _ (List.mem_cons_of_mem _ (List.mem_cons_of_mem _ (List.mem_cons_of_mem _ (List.mem_cons_self ..))))
    obtain ⟨y4, h4⟩ := hf _ (List.mem_cons_of_mem _ (List.mem_cons_of_mem _ (List.mem_cons_of_mem _ (List.mem_cons_of_mem _ (List.mem_cons_self ..)))))
    obtain ⟨y5, h5⟩ := hf _ (List.mem_cons_of_mem _ (List.mem_cons_of_mem _ (List.mem_cons_of_mem _ (List.mem_cons_of_mem _ (List.mem_cons_of_mem _ (List.mem_cons_self ..))))))
    dsimp only at h0 h1 h2 h3 h4 h5
    rw [cells_raw] at h0 h1 h2 h3 h4
    rw [cells_bool] at h5
    obtain ⟨b1, l1, r1, w1⟩ := repc_raw (cs := [a0, a1]) h0
    obtain ⟨b2, l2, r2, w2⟩ := repc_raw (cs := [a2, a3]) h1
    obtain ⟨b3, l3, r3, w3⟩ := repc_raw (cs := [a4, a5]) h2
    obtain ⟨b4, l4, r4, w4⟩ := repc_raw (cs := [a6, a7]) h3
    obtain ⟨b5, l5, r5, w5⟩ := repc_raw (cs := [a8, a9]) h4
    obtain ⟨o, e0⟩ := trod_bool Tryz.underlying4 h5
    have z0 : [a10] = [.bool o] := e0
    simp only [List.cons.injEq, and_true] at z0
    subst z0
    exact ⟨b1, b2, b3, b4, b5, o, l1, l2, l3, l4, l5, (rep1_agg rfl).2 ⟨_, agg_cells hc, [a0, a1], _, rfl, r1, [a2, a3], _, rfl, r2, [a4, a5], _, rfl, r3, [a6, a7], _, rfl, r4, [a8, a9], _, rfl, r5, _, _, rfl, rfl, rfl⟩, w1, w2, w3, w4, w5⟩
end

def tysPm : List Nat := [24, 29, 27, 5, 22, 4, 25, 61]
theorem tysPm_ok : tysPm.all (subOk Tryz.prog tysPm) = true := by kernel_rfl

theorem pm_contract (H : Type) (enc : TypeId × Value → H) (W : World) (args : Array Value) (ds gs : List (DataW H)) (before : List MemPlace)
    (hW : DataW.Whole enc Tryz.prog Tryz.f3.params.toList Rows.pointMatchesReferenceSpec.vars Rows.pointMatchesReferenceRow.apart W args.toList ds gs before) :
    Calls Tryz.prog 3 args W fun e W' => ∃ v, e = .returned v ∧ Rows.pointMatchesReferenceSpec.post enc Tryz.prog Tryz.f3 Rows.pointMatchesReferenceRow.apart Rows.pointMatchesReferenceRow.fresh Rows.pointMatchesReferenceRow.handsOn Rows.pointMatchesReferenceRow.again W args v W' := by
  have hW' := hW
  obtain ⟨p, q, hA, hV, rfl, hfz, hnd⟩ := hW
  rw [Tryz.params3] at hA
  obtain ⟨v0, v1, v2, d0, d1, d2, p0, p1, p2, rfl, rfl, rfl, h0, h1, h2⟩ := trodAll_three hA
  obtain ⟨rfl, rfl⟩ := trodVars_none hV
  obtain ⟨M, A, X, Y, Q, r0, c0⟩ := rep_crv h0
  obtain ⟨b1, b2, b3, b4, b5, o, l1, l2, l3, l4, l5, r1, w1, w2, w3, w4, w5⟩ := rep_odd h1
  obtain ⟨b6, l6, r2, w6⟩ := rep_raw h2
  refine law_calls c_pm rfl rfl tysPm_ok (by rw [Tryz.params3]; decide) hW' ⟨[crvM M A X Y Q, oddM b1 b2 b3 b4 b5 o l1 l2 l3 l4 l5, rawM b6 l6], _, rfl, ⟨c0, w1, w2, w3, w4, w5, w6⟩, _, _, rfl, r0, _, _, rfl, r1, _, _, rfl, r2, rfl⟩ rfl

set_option maxHeartbeats 1600000 in
set_option maxRecDepth 100000 in
theorem pm_lifted (os : Os) (started : os.Started) (H : Type) (enc : TypeId × Value → H) :
    ReturnsInHanded {} Tryz.checked os 3 .any (Rows.pointMatchesReferenceSpec.pre6 enc Tryz.prog Tryz.f3 Rows.pointMatchesReferenceRow.domain Rows.pointMatchesReferenceRow.apart) (Rows.pointMatchesReferenceSpec.post enc Tryz.prog Tryz.f3 Rows.pointMatchesReferenceRow.apart Rows.pointMatchesReferenceRow.fresh Rows.pointMatchesReferenceRow.handsOn Rows.pointMatchesReferenceRow.again) := by
  refine returnsInHanded_of_change (C := Tryz.checked) own started (by kernel_rfl) Tryz.func3
    (ChangeSpec.witness6 (enc := enc) (C := Tryz.checked) false ⟨#[], #[.agg #[.int .u8 0, .int .u8 0, .int .u8 0, .int .u8 0, .int .u16 0], .agg #[.bool false, .slice none 0 0, .bool false, .slice none 0 0, .bool false, .slice none 0 0, .bool false, .slice none 0 0, .bool false, .slice none 0 0, .bool false], .agg #[.bool false, .slice none 0 0]], []⟩ 8 (by kernel_rfl) (by kernel_rfl) (by kernel_rfl) (by kernel_rfl)) ?_
  intro W base args ds gs before hval hW _ _
  exact pm_contract H enc W args ds gs before hW

theorem pm_over : Rows.pointMatchesReferenceRow.holds Tryz.pinned (OpenSpec.ofChange Rows.pointMatchesReferenceSpec) :=
  OpenClaim.holds_of_wide 3 Tryz.f3 rfl rfl rfl rfl rfl rfl rfl ⟨rfl, rfl, rfl, rfl, rfl⟩ rfl rfl rfl rfl rfl (by kernel_rfl) Tryz.func3 (by kernel_rfl)
    (of_decide_eq_true (by kernel_rfl)) (by unfold Func.isWrapper; first | (rw [if_pos (by decide +kernel)]; kernel_rfl) | (rw [if_neg (by decide +kernel)]; exact ⟨rfl, rfl⟩))
    (fun os started H enc _ => pm_lifted os started H enc)

theorem pointMatchesReference_holds : Rows.PointMatchesReferenceSaid := pm_over

end Go.Proofs.YtceochfccebebaaGreat
