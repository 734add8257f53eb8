/-
  The frame of the laws of chapter 04: what is laid (the table of math/bits), the witness, numbers.
-/
import Derived.Test.YtmjklcpdfmgcaaaDoorW4
import Derived.Test.YtmjklcpdfmgcaaaDoorW2
import Derived.Test.YtmjklcpdfmgcaaaDoorRows
import Derived.Test.YtmjklcpdfmgcaaaDoorCards
import Derived.Test.YtmjklcpdfmgcaaaDoorTie
import Derived.ProofKit
import Derived.OpenShut
import Derived.JoinedCond
import Derived.LaidMore
import Derived.LaidLaws
import Derived.LaidHandle
import Derived.ChangeVars
import Derived.Stop.Joined
import Derived.ChangeSame
import Derived.MakeChecks

/-
 Contracts of functions: prime.sieve, Small, Next (at small numbers); the examples of chapter 04.
-/
namespace Go.Proofs.YtmjklcpdfmgcaaaDoor
open Go Go.RowKit
open Go.IntKind (wrap i64 i32 i16 i8 u64 u32 u16 u8)
def cmpS : Nat → Nat → Bool
 | 0, _ => false
 | p + 1, j => cmpS p j || (Nat.ble 2 p && (Nat.ble (p * p) j && Nat.beq (j % p) 0))
def outP : Nat → List Int
 | 0 => []
 | p + 1 => outP p ++ cond (Nat.ble 2 p && !(cmpS p p)) [(p : Int)] []
def cmpK (p k j : Nat) : Bool := cmpS p j || (Nat.ble (p * p) j && (Nat.blt j k && Nat.beq (j % p) 0))
def rowB (f : Nat → Bool) : Nat → MV := fun j => .bool (f j)
def bxA : Option Box → Int
 | some ⟨_, .one (.int _ n)⟩ => n
 | _ => 0
structure MkI (p k : Nat) : Prop where
 d : k % p = 0
 l : p * p ≤ k
def x_mult (L : Nat) : Nat → MS → XS → Option XAnn
 | 1, e, _ => some (.inv WalkI (fun k => MkI (bxA (nth e.bx 4)).toNat k.i) (fun k => ⟨18, [(0, look 0 e.tm), (1, .bp 4 0), (2, .bp 5 0), (4, .int .i64 k.i)], setNth e.bx 0 ⟨false, .rows 1 (L + 1) (rowB (cmpK (bxA (nth e.bx 4)).toNat k.i))⟩, 6⟩) (fun _ => none) (fun k => L + (bxA (nth e.bx 4)).toNat - k.i))
 | _, _, _ => none
def x_sieve (L : Nat) : Nat → MS → XS → Option XAnn
 | 4, _, _ => some (.inv WalkI (fun p => 2 ≤ p.i ∧ (p.i ≤ L + 1 ∨ p.i = 2)) (fun p => ⟨31, [(0, .int .i64 L), (3, .bp 1 0), (4, .bs 2 0 (outP p.i).length), (5, .int .i64 p.i)], [⟨false, .rows 1 (L + 1) (rowB (cmpS p.i))⟩, ⟨false, .one (.bs 0 0 (L + 1))⟩, ⟨false, .arr .i64 (outP p.i)⟩], 0⟩) (fun _ => none) (fun p => L + 2 - p.i))
 | _, _, _ => none
noncomputable def xe_sieve (L : Nat) : XE Tryd.prog where
 E := env [] noAnn
 xann := x_sieve L
 its := [⟨77, Tryd.f77, Tryd.func77, fun args w => Tryd.call77 args w, env [] noAnn, x_mult L⟩]
 inl := [⟨56, Tryd.f56, Tryd.func56, fun args w => Tryd.call56 args w, env [] noAnn, fun _ _ _ => none⟩]
 rnp := fun _ => 6
 all := fun _ => none
theorem vc_sieve (L : Nat) (f : Nat → MV) (n : Nat) : (((0 : Int) ≤ wrap i64 ((↑L : Int) + (1 : Int)) ∧ wrap i64 ((↑L : Int) + (1 : Int)) = wrap i64 ((↑L : Int) + (1 : Int)) ∧ (↑(1 : Nat) : Int) * wrap i64 ((↑L : Int) + (1 : Int)) ≤ (140737488355328 : Int)) ∧ (∃ i : WalkI, ((2 : Nat) ≤ i.1 ∧ (i.1 ≤ L + (1 : Nat) ∨ i.1 = (2 : Nat))) ∧ (((↑L : Int) = (↑L : Int) ∧ (0 : Nat) = (0 : Nat) ∧ (Value.slice none (0 : Nat) (0 : Nat) = Value.slice none (0 : Nat) (0 : Nat) ∧ (0 : Nat) = (0 : Nat) ∧ List.length (outP (i.1)) = (0 : Nat)) ∧ (2 : Int) = (↑(i.1) : Int) ∧ True) ∧ (Int.toNat (wrap i64 ((↑L : Int) + (1 : Int))) = L + (1 : Nat) ∧ LeFun (Int.toNat (wrap i64 ((↑L : Int) + (1 : Int)))) (fun x => MV.bool false) (rowB (cmpS (i.1)))) ∧ ((0 : Nat) = (0 : Nat) ∧ Int.toNat (wrap i64 ((↑L : Int) + (1 : Int))) = L + (1 : Nat)) ∧ True) ∧ True) ∧ ∀ (i : WalkI), (2 : Nat) ≤ i.1 ∧ (i.1 ≤ L + (1 : Nat) ∨ i.1 = (2 : Nat)) → bif decide ((↑(i.1) : Int) ≤ (↑L : Int)) then ((0 : Int) ≤ (↑(i.1) : Int) ∧ (↑(i.1) : Int) < (↑(L + (1 : Nat)) : Int)) ∧ Int.toNat (↑(i.1) : Int) < L + (1 : Nat) ∧ bif cmpS (i.1) (Int.toNat (↑(i.1) : Int)) then ∃ j : WalkI, ((2 : Nat) ≤ j.1 ∧ (j.1 ≤ L + (1 : Nat) ∨ j.1 = (2 : Nat))) ∧ (((↑L : Int) = (↑L : Int) ∧ (0 : Nat) = (0 : Nat) ∧ ((0 : Nat) = (0 : Nat) ∧ List.length (outP (i.1)) = List.length (outP (j.1))) ∧ wrap i64 ((↑(i.1) : Int) + (1 : Int)) = (↑(j.1) : Int) ∧ True) ∧ (L + (1 : Nat) = L + (1 : Nat) ∧ LeFun (L + (1 : Nat)) (rowB (cmpS (i.1))) (rowB (cmpS (j.1)))) ∧ ((0 : Nat) = (0 : Nat) ∧ L + (1 : Nat) = L + (1 : Nat)) ∧ outP (i.1) = outP (j.1) ∧ True) ∧ True ∧ L + (2 : Nat) - j.1 < L + (2 : Nat) - i.1 else ((0 : Nat) + (1 : Nat) ≤ (1 : Nat) ∧ List.length (outP (i.1)) ≤ List.length (outP (i.1)) ∧ (List.length (outP (i.1)) + News.len (News.ints i64 (List.take (1 : Nat) (List.drop (0 : Nat) [(↑(i.1) : Int)])))) * (8 : Nat) ≤ (140737488355328 : Nat)) ∧ ∀ (L_1 : Nat), (∃ i_1 : WalkI, MkI (Int.toNat (↑(i.1) : Int)) (i_1.1) ∧ ((Value.func (Fn.yield L_1) #[] #[] = Value.func (Fn.yield L_1) #[] #[] ∧ (0 : Nat) = (0 : Nat) ∧ (0 : Nat) = (0 : Nat) ∧ wrap i64 ((↑(i.1) : Int) * (↑(i.1) : Int)) = (↑(i_1.1) : Int) ∧ True) ∧ (L + (1 : Nat) = L + (1 : Nat) ∧ LeFun (L + (1 : Nat)) (rowB (cmpS (i.1))) (rowB (cmpK (Int.toNat (↑(i.1) : Int)) (i_1.1)))) ∧ ((0 : Nat) = (0 : Nat) ∧ L + (1 : Nat) = L + (1 : Nat)) ∧ List.take (List.length (outP (i.1))) (outP (i.1)) ++ List.take (1 : Nat) (List.drop (0 : Nat) [(↑(i.1) : Int)]) = List.take (List.length (outP (i.1))) (outP (i.1)) ++ List.take (1 : Nat) (List.drop (0 : Nat) [(↑(i.1) : Int)]) ∧ [(↑(i.1) : Int)] = [(↑(i.1) : Int)] ∧ (↑(i.1) : Int) = (↑(i.1) : Int) ∧ (↑L : Int) = (↑L : Int) ∧ True) ∧ True) ∧ ∀ (i_1 : WalkI), MkI (Int.toNat (↑(i.1) : Int)) (i_1.1) → bif decide ((↑(i_1.1) : Int) ≤ (↑L : Int)) then L_1 = L_1 ∧ ((0 : Int) ≤ (↑(i_1.1) : Int) ∧ (↑(i_1.1) : Int) < (↑(L + (1 : Nat)) : Int)) ∧ Int.toNat (↑(i_1.1) : Int) < L + (1 : Nat) ∧ ∃ j : WalkI, MkI (Int.toNat (↑(i.1) : Int)) (j.1) ∧ ((Value.func (Fn.yield L_1) #[] #[] = Value.func (Fn.yield L_1) #[] #[] ∧ (0 : Nat) = (0 : Nat) ∧ (0 : Nat) = (0 : Nat) ∧ wrap i64 ((↑(i_1.1) : Int) + (↑(i.1) : Int)) = (↑(j.1) : Int) ∧ True) ∧ (L + (1 : Nat) = L + (1 : Nat) ∧ LeFun (L + (1 : Nat)) (fun j => bif Nat.beq j (Int.toNat (↑(i_1.1) : Int)) then MV.bool true else rowB (cmpK (Int.toNat (↑(i.1) : Int)) (i_1.1)) j) (rowB (cmpK (Int.toNat (↑(i.1) : Int)) (j.1)))) ∧ ((0 : Nat) = (0 : Nat) ∧ L + (1 : Nat) = L + (1 : Nat)) ∧ List.take (List.length (outP (i.1))) (outP (i.1)) ++ List.take (1 : Nat) (List.drop (0 : Nat) [(↑(i.1) : Int)]) = List.take (List.length (outP (i.1))) (outP (i.1)) ++ List.take (1 : Nat) (List.drop (0 : Nat) [(↑(i.1) : Int)]) ∧ [(↑(i.1) : Int)] = [(↑(i.1) : Int)] ∧ (↑(i.1) : Int) = (↑(i.1) : Int) ∧ (↑L : Int) = (↑L : Int) ∧ True) ∧ True ∧ L + Int.toNat (↑(i.1) : Int) - j.1 < L + Int.toNat (↑(i.1) : Int) - i_1.1 else ∃ j : WalkI, ((2 : Nat) ≤ j.1 ∧ (j.1 ≤ L + (1 : Nat) ∨ j.1 = (2 : Nat))) ∧ (((↑L : Int) = (↑L : Int) ∧ (0 : Nat) = (0 : Nat) ∧ ((0 : Nat) = (0 : Nat) ∧ List.length (outP (i.1)) + News.len (News.ints i64 (List.take (1 : Nat) (List.drop (0 : Nat) [(↑(i.1) : Int)]))) = List.length (outP (j.1))) ∧ wrap i64 ((↑(i.1) : Int) + (1 : Int)) = (↑(j.1) : Int) ∧ True) ∧ (L + (1 : Nat) = L + (1 : Nat) ∧ LeFun (L + (1 : Nat)) (rowB (cmpK (Int.toNat (↑(i.1) : Int)) (i_1.1))) (rowB (cmpS (j.1)))) ∧ ((0 : Nat) = (0 : Nat) ∧ L + (1 : Nat) = L + (1 : Nat)) ∧ List.take (List.length (outP (i.1))) (outP (i.1)) ++ List.take (1 : Nat) (List.drop (0 : Nat) [(↑(i.1) : Int)]) = outP (j.1) ∧ True) ∧ True ∧ L + (2 : Nat) - j.1 < L + (2 : Nat) - i.1 else (0 : Nat) + List.length (outP (i.1)) ≤ List.length (outP (i.1)) ∧ (1 : Nat) = (1 : Nat) ∧ List.length (outP (i.1)) = n ∧ LeFun (List.length (outP (i.1))) (fun j => MV.int i64 (List.getD (outP (i.1)) ((0 : Nat) + j) (0 : Int))) f) = evFnX (xe_sieve L) Tryd.f35 [.int .i64 L] (MRes.sat (.ret (.sl 1 n f))) := by kernel_rfl
theorem cmpS_iff : ∀ {p j : Nat}, cmpS p j = true ↔ ∃ d, 2 ≤ d ∧ d < p ∧ d * d ≤ j ∧ j % d = 0
 | 0, j => by simp [cmpS]
 | p + 1, j => by
  simp only [cmpS, Bool.or_eq_true, Bool.and_eq_true, Nat.ble_eq, Nat.beq_eq, cmpS_iff (p := p)]
  constructor
  ·rintro (⟨d, h1, h2, h3⟩ | ⟨h1, h2, h3⟩)
   ·exact ⟨d, h1, by omega, h3⟩
   ·exact ⟨p, h1, by omega, h2, h3⟩
  ·rintro ⟨d, h1, h2, h3, h4⟩
   rcases Nat.lt_or_ge d p with q | q
   ·exact .inl ⟨d, h1, q, h3, h4⟩
   ·obtain rfl : d = p := by omega
    exact .inr ⟨h1, h3, h4⟩
theorem boolEq {a b : Bool} (h : a = true ↔ b = true) : a = b := by
 cases a <;> cases b <;> simp_all
theorem cmp_skip {p : Nat} (h : cmpS p p = true) (j : Nat) : cmpS p j = cmpS (p + 1) j := by
 refine boolEq (cmpS_iff.trans (Iff.trans ?_ cmpS_iff.symm))
 obtain ⟨d, h1, h2, h3, h4⟩ := cmpS_iff.1 h
 constructor
 ·rintro ⟨e, k1, k2, k3⟩; exact ⟨e, k1, by omega, k3⟩
 ·rintro ⟨e, k1, k2, k3, k4⟩
  rcases Nat.lt_or_ge e p with q | q
  ·exact ⟨e, k1, q, k3, k4⟩
  ·obtain rfl : e = p := by omega
   have hle : e * 1 ≤ e * e := Nat.mul_le_mul_left _ (by omega)
   exact ⟨d, h1, h2, by omega, Nat.mod_eq_zero_of_dvd (Nat.dvd_trans (Nat.dvd_of_mod_eq_zero h4) (Nat.dvd_of_mod_eq_zero k4))⟩
theorem cmpK_iff {p k j : Nat} : cmpK p k j = true ↔ cmpS p j = true ∨ (p * p ≤ j ∧ j < k ∧ j % p = 0) := by
 simp only [cmpK, Bool.or_eq_true, Bool.and_eq_true, Nat.ble_eq, Nat.blt_eq, Nat.beq_eq]
theorem cmpK_start (p j : Nat) : cmpS p j = cmpK p (p * p) j := boolEq (Iff.trans ⟨.inl, fun h => h.elim id (fun h => by omega)⟩ cmpK_iff.symm)
theorem cmpK_step {p k j : Nat} (hp : 0 < p) (hk : k % p = 0) (hl : p * p ≤ k) : (Nat.beq j k || cmpK p k j) = cmpK p (k + p) j := by
 refine boolEq (Iff.trans ?_ cmpK_iff.symm)
 rw [Bool.or_eq_true, Nat.beq_eq, cmpK_iff]
 constructor
 ·rintro (rfl | h | ⟨h1, h2, h3⟩)
  ·exact .inr ⟨hl, by omega, hk⟩
  ·exact .inl h
  ·exact .inr ⟨h1, by omega, h3⟩
 ·rintro (h | ⟨h1, h2, h3⟩)
  ·exact .inr (.inl h)
  ·rcases Nat.lt_or_ge j k with q | q
   ·exact .inr (.inr ⟨h1, q, h3⟩)
   ·refine .inl ?_
    obtain ⟨a, ha⟩ := Nat.dvd_of_mod_eq_zero h3
    obtain ⟨b, hb⟩ := Nat.dvd_of_mod_eq_zero hk
    have h4 : p * a < p * (b + 1) := by rw [Nat.mul_add, Nat.mul_one]; omega
    have h5 : p * b ≤ p * a := by omega
    have h6 := Nat.lt_of_mul_lt_mul_left h4
    have h7 := Nat.le_of_mul_le_mul_left h5 hp
    have : a = b := by omega
    rw [ha, hb, this]
theorem cmpK_end {p k j : Nat} (hp : 2 ≤ p) (hj : j < k) : cmpK p k j = cmpS (p + 1) j := by
 refine boolEq (cmpK_iff.trans ?_)
 simp only [cmpS, Bool.or_eq_true, Bool.and_eq_true, Nat.ble_eq, Nat.beq_eq]
 constructor
 ·rintro (h | ⟨h1, _, h3⟩)
  ·exact .inl h
  ·exact .inr ⟨hp, h1, h3⟩
 ·rintro (h | ⟨_, h1, h3⟩)
  ·exact .inl h
  ·exact .inr ⟨h1, hj, h3⟩
theorem out_skip {p : Nat} (h : cmpS p p = true) : outP p = outP (p + 1) := by
 rw [outP, h]
 simp
theorem out_add {p : Nat} (hp : 2 ≤ p) (h : cmpS p p = false) : outP p ++ [(p : Int)] = outP (p + 1) := by
 rw [outP, h, show Nat.ble 2 p = true by rw [Nat.ble_eq]; exact hp]
 rfl
theorem outP_len : ∀ p, (outP p).length ≤ p
 | 0 => Nat.le_refl _
 | p + 1 => by
  have := outP_len p
  rw [outP, List.length_append]
  cases Nat.ble 2 p && !(cmpS p p) <;> simp <;> omega
def primL (L : Nat) : List Int := outP (L + 1)
def intR (l : List Int) : Nat → MV := fun i => .int .i64 (l.getD i 0)
theorem rowB_le {len : Nat} {g f : Nat → Bool} (h : ∀ j, j < len → g j = f j) : LeFun len (rowB g) (rowB f) := ⟨fun i hi c w cs r => by
 have : rowB g i = rowB f i := congrArg MV.bool (h i hi)
 rw [this] at r
 exact r⟩
def s_sieve : FSpec
 | [.int .i64 L] => some (some (0 ≤ L ∧ L ≤ 1048576), .ret (.sl 1 (primL L.toNat).length (intR (primL L.toNat))))
 | _ => none
theorem p_sieve : GoodX Tryd.f35 s_sieve := by
 intro ms p r h hp hf
 unfold s_sieve at h
 split at h
 ·rename_i L0
  simp only [Option.some.injEq, Prod.mk.injEq] at h
  obtain ⟨rfl, rfl⟩ := h
  obtain ⟨hL0, hL1⟩ : 0 ≤ L0 ∧ L0 ≤ 1048576 := hp
  obtain ⟨L, rfl⟩ : ∃ n : Nat, L0 = n := ⟨L0.toNat, by omega⟩
  rw [Int.toNat_natCast]
  refine ⟨xe_sieve L, ?_, allOk_none rfl _⟩
  rw [← vc_sieve L (intR (primL L)) (primL L).length]
  have e0 : wrap i64 ((L : Int) + 1) = ((L + 1 : Nat) : Int) := by rw [i64w (by omega) (by omega)]; omega
  rw [e0, Int.toNat_natCast]
  refine ⟨⟨by omega, rfl, by omega⟩, ⟨⟨2⟩, ⟨Nat.le_refl _, .inr rfl⟩, ⟨⟨rfl, rfl, ⟨rfl, rfl, rfl⟩, rfl, True.intro⟩, ⟨rfl, ⟨fun i hi c w cs r => r⟩⟩, ⟨rfl, rfl⟩, True.intro⟩, True.intro⟩, fun i hi => ?_⟩
  obtain ⟨p⟩ := i
  obtain ⟨h2, hl⟩ : 2 ≤ p ∧ (p ≤ L + 1 ∨ p = 2) := hi
  have hol := outP_len p
  dsimp only
  rw [Int.toNat_natCast, List.take_length]
  refine condI decide_eq_true_iff (fun q => ?_) (fun q => ?_)
  ·have e1 : wrap i64 ((p : Int) + 1) = ((p + 1 : Nat) : Int) := by rw [i64w (by omega) (by omega)]; omega
   have hpp : p * p ≤ 1048576 * 1048576 := Nat.mul_le_mul (by omega) (by omega)
   refine ⟨⟨by omega, by omega⟩, by omega, condI Iff.rfl (fun q2 => ?_) (fun q2 => ?_)⟩
   ·rw [e1]
    exact ⟨⟨p + 1⟩, ⟨by show 2 ≤ p + 1; omega, .inl (by show p + 1 ≤ L + 1; omega)⟩, ⟨⟨rfl, rfl, ⟨rfl, by rw [out_skip q2]⟩, rfl, True.intro⟩, ⟨rfl, rowB_le fun j _ => cmp_skip q2 j⟩, ⟨rfl, rfl⟩, out_skip q2, True.intro⟩, True.intro, by show L + 2 - (p + 1) < L + 2 - p; omega⟩
   ·have q2 : cmpS p p = false := by simpa using q2
    have e2 : wrap i64 ((p : Int) * (p : Int)) = ((p * p : Nat) : Int) := by
     rw [← Int.natCast_mul, i64w (by omega) (by omega)]
    rw [e2]
    refine ⟨⟨by omega, by omega, by show ((outP p).length + 1) * 8 ≤ _; omega⟩, fun L1 => ⟨⟨⟨p * p⟩, ⟨Nat.mul_mod_left p p, Nat.le_refl _⟩, ⟨⟨rfl, rfl, rfl, rfl, True.intro⟩, ⟨rfl, rowB_le fun j _ => cmpK_start p j⟩, ⟨rfl, rfl⟩, rfl, rfl, rfl, rfl, True.intro⟩, True.intro⟩, fun k K => ?_⟩⟩
    obtain ⟨k⟩ := k
    have kd := K.d
    have kl := K.l
    dsimp only at kd kl ⊢
    rw [Int.toNat_natCast]
    refine condI decide_eq_true_iff (fun q3 => ?_) (fun q3 => ?_)
    ·have e3 : wrap i64 ((k : Int) + (p : Int)) = ((k + p : Nat) : Int) := by rw [i64w (by omega) (by omega)]; omega
     rw [e3]
     refine ⟨rfl, ⟨by omega, by omega⟩, by omega, ⟨k + p⟩, ⟨by show (k + p) % p = 0; rw [Nat.add_mod_right]; exact kd, by show p * p ≤ k + p; omega⟩, ⟨⟨rfl, rfl, rfl, rfl, True.intro⟩, ⟨rfl, ⟨fun j hj c w cs r => ?_⟩⟩, ⟨rfl, rfl⟩, rfl, rfl, rfl, rfl, True.intro⟩, True.intro, by show L + p - (k + p) < L + p - k; omega⟩
     have e4 := cmpK_step (j := j) (by omega) kd kl
     show RepC c w (.bool (cmpK p (k + p) j)) cs
     rw [← e4]
     cases hb : Nat.beq j k with
     | true => rw [hb] at r; exact r
     | false => rw [hb] at r; rw [Bool.false_or]; exact r
    ·rw [e1]
     exact ⟨⟨p + 1⟩, ⟨by show 2 ≤ p + 1; omega, .inl (by show p + 1 ≤ L + 1; omega)⟩, ⟨⟨rfl, rfl, ⟨rfl, by rw [← out_add h2 q2, List.length_append]; rfl⟩, rfl, True.intro⟩, ⟨rfl, rowB_le fun j hj => cmpK_end h2 (by omega)⟩, ⟨rfl, rfl⟩, out_add h2 q2, True.intro⟩, True.intro, by show L + 2 - (p + 1) < L + 2 - p; omega⟩
  ·have hL : outP p = primL L := by
    unfold primL
    rcases (show p = L + 1 ∨ p = L + 2 ∧ L = 0 by omega) with e | ⟨e, e2⟩
    ·rw [e]
    ·subst e2
     rw [e]; rfl
   rw [← hL]
   exact ⟨by omega, rfl, rfl, ⟨fun i hi c w cs r => by rw [Nat.zero_add] at r; exact r⟩⟩
 ·simp at h
noncomputable def c_sieve : Ctr Tryd.prog := ⟨35, s_sieve, fun args w => Tryd.call35 args w, fnX_ok_facts Tryd.func35 s_sieve p_sieve⟩
end Go.Proofs.YtmjklcpdfmgcaaaDoor
/-
 Contracts of functions: prime.Small, prime.Next at small numbers; the examples of chapter 04.
-/
namespace Go.Proofs.YtmjklcpdfmgcaaaDoor
open Go Go.RowKit
open Go.IntKind (wrap i64 i32 i16 i8 u64 u32 u16 u8)
def smL (n : Int) : List Int := if n > 1048576 then [] else primL n.toNat
def smE (n : Int) : Int := if n > 1048576 then 2 else 0
theorem vc_sml4 (n : Int) (k : Nat) (f : Nat → MV) (e : Int) : (bif decide (n > (1048576 : Int)) then (Value.slice none (0 : Nat) (0 : Nat) = Value.slice none (0 : Nat) (0 : Nat) ∧ k = (0 : Nat)) ∧ (2 : Int) = e ∧ True else ((0 : Int) ≤ maxI n (0 : Int) ∧ maxI n (0 : Int) ≤ (1048576 : Int)) ∧ ((1 : Nat) = (1 : Nat) ∧ List.length (primL (Int.toNat (maxI n (0 : Int)))) = k ∧ LeFun (List.length (primL (Int.toNat (maxI n (0 : Int))))) (intR (primL (Int.toNat (maxI n (0 : Int))))) f) ∧ (0 : Int) = e ∧ True) = evFn (env [c_sieve] noAnn) Tryd.f14 [.int .i64 n] (MRes.sat (.ret (.tup [.sl 1 k f, .int .i64 e]))) := by kernel_rfl
def s_sml4 : FSpec
 | [.int .i64 n] => some (none, .ret (.tup [.sl 1 (smL n).length (intR (smL n)), .int .i64 (smE n)]))
 | _ => none
theorem p_sml4 : Good Tryd.f14 s_sml4 := by
 intro ms p r h hp
 unfold s_sml4 at h
 split at h
 ·rename_i n
  simp only [Option.some.injEq, Prod.mk.injEq] at h
  obtain ⟨rfl, rfl⟩ := h
  refine ⟨env [c_sieve] noAnn, ?_⟩
  rw [← vc_sml4 n (smL n).length (intR (smL n)) (smE n)]
  unfold smL smE
  refine condI decide_eq_true_iff (fun q => ?_) (fun q => ?_)
  ·rw [if_pos q, if_pos q]
   exact ⟨⟨rfl, rfl⟩, rfl, True.intro⟩
  ·rw [if_neg q, if_neg q]
   have em : 0 ≤ maxI n 0 ∧ maxI n 0 ≤ 1048576 ∧ (maxI n 0).toNat = n.toNat := by
    unfold maxI
    split <;> omega
   rw [em.2.2]
   exact ⟨⟨em.1, em.2.1⟩, ⟨rfl, rfl, LeFun.refl⟩, rfl, True.intro⟩
 ·simp at h
def c_sml4 : Ctr Tryd.prog := ⟨14, s_sml4, fun args w => Tryd.call14 args w, fn_ok mix Tryd.func14 s_sml4 p_sml4⟩
def mvI : MV → Int
 | .int _ z => z
 | _ => 0
structure isI (m : MV) : Prop where
 h : m = .int .i64 (mvI m)
def ivals (n : Nat) (f : Nat → MV) : List Int := (List.range n).map fun i => mvI (f i)
theorem isI_intR (l : List Int) (i : Nat) : isI (intR l i) := ⟨rfl⟩
theorem ivals_le {n : Nat} {f : Nat → MV} (h : ∀ i, i < n → isI (f i)) : LeFun n f (intR (ivals n f)) := ⟨fun i hi c w cs r => by
 have e : intR (ivals n f) i = f i := by
  rw [(h i hi).h]
  simp [intR, ivals, hi, mvI]
 rw [e]; exact r⟩
def a_same4 (a b : List Int) : Nat → MS → Option LoopAnn
 | 4, _ => some (.inv WalkI (fun i => i.i ≤ a.length ∧ a.take i.i = b.take i.i) (fun i => ⟨26, [(0, .sl 1 a.length (intR a)), (1, .sl 1 b.length (intR b)), (5, .int .i64 i.i)], [], 0⟩) (fun i => a.length - i.i))
 | _, _ => none
theorem vc_same4 (a b : List Int) (T : Bool) : (bif (↑(List.length a) : Int) != (↑(List.length b) : Int) then false = T else (∃ i : WalkI, (i.1 ≤ List.length a ∧ List.take (i.1) a = List.take (i.1) b) ∧ (((1 : Nat) = (1 : Nat) ∧ List.length a = List.length a ∧ LeFun (List.length a) (intR a) (intR a)) ∧ ((1 : Nat) = (1 : Nat) ∧ List.length b = List.length b ∧ LeFun (List.length b) (intR b) (intR b)) ∧ (0 : Int) = (↑(i.1) : Int) ∧ True) ∧ True) ∧ ∀ (i : WalkI), i.1 ≤ List.length a ∧ List.take (i.1) a = List.take (i.1) b → bif decide ((↑(i.1) : Int) < (↑(List.length a) : Int)) then ((0 : Int) ≤ (↑(i.1) : Int) ∧ (↑(i.1) : Int) < (↑(List.length a) : Int)) ∧ ((0 : Int) ≤ (↑(i.1) : Int) ∧ (↑(i.1) : Int) < (↑(List.length b) : Int)) ∧ bif List.getD a (Int.toNat (↑(i.1) : Int)) (0 : Int) != List.getD b (Int.toNat (↑(i.1) : Int)) (0 : Int) then false = T else ∃ j : WalkI, (j.1 ≤ List.length a ∧ List.take (j.1) a = List.take (j.1) b) ∧ ((((1 : Nat) = (1 : Nat) ∧ List.length a = List.length a ∧ LeFun (List.length a) (intR a) (intR a)) ∧ ((1 : Nat) = (1 : Nat) ∧ List.length b = List.length b ∧ LeFun (List.length b) (intR b) (intR b)) ∧ wrap i64 ((↑(i.1) : Int) + (1 : Int)) = (↑(j.1) : Int) ∧ True) ∧ True) ∧ List.length a - j.1 < List.length a - i.1 else true = T) = evFn (env [] (a_same4 a b)) Tryd.f19 [.sl 1 a.length (intR a), .sl 1 b.length (intR b)] (MRes.sat (.ret (.bool T))) := by kernel_rfl
theorem same4_ok (a b : List Int) (ha : a.length ≤ 1000000) : ∃ E : Env Tryd.prog, evFn E Tryd.f19 [.sl 1 a.length (intR a), .sl 1 b.length (intR b)] (MRes.sat (.ret (.bool (decide (a = b))))) := by
 refine ⟨env [] (a_same4 a b), ?_⟩
 rw [← vc_same4 a b (decide (a = b))]
 refine condI bne_iff_ne (fun q => (decide_eq_false (fun e => q (by rw [e]))).symm) (fun q => ⟨⟨⟨0⟩, ⟨Nat.zero_le _, rfl⟩, ?_⟩, fun i hi => ?_⟩)
 ·and_intros <;> first | exact True.intro | rfl | exact LeFun.refl
 obtain ⟨i⟩ := i
 obtain ⟨h1, h2⟩ : i ≤ a.length ∧ a.take i = b.take i := hi
 dsimp only
 rw [Int.toNat_natCast]
 refine condI decide_eq_true_iff (fun q2 => ?_) (fun q2 => ?_)
 ·have e5 : wrap i64 ((i : Int) + 1) = ((i + 1 : Nat) : Int) := by rw [i64w (by omega) (by omega)]; omega
  have ga : a.getD i 0 = a[i]'(by omega) := by simp [show i < a.length by omega]
  have gb : b.getD i 0 = b[i]'(by omega) := by simp [show i < b.length by omega]
  rw [e5, ga, gb]
  refine ⟨by omega, by omega, condI bne_iff_ne (fun q3 => (decide_eq_false (fun e => q3 (by subst e; rfl))).symm) (fun q3 => ⟨⟨i + 1⟩, ⟨by show i + 1 ≤ a.length; omega, ?_⟩, ?_, by show a.length - (i + 1) < a.length - i; omega⟩)⟩
  ·show a.take (i + 1) = b.take (i + 1)
   rw [List.take_add_one, List.take_add_one, h2, List.getElem?_eq_getElem (by omega), List.getElem?_eq_getElem (by omega), Decidable.not_not.1 q3]
  ·and_intros <;> first | exact True.intro | rfl | exact LeFun.refl
 ·have e : i = a.length := by omega
  have e2 : i = b.length := by omega
  have : a = b := by rw [← List.take_length (l := a), ← List.take_length (l := b), ← e, ← e2]; exact h2
  exact (decide_eq_true this).symm
def s_same4 : FSpec
 | [.sl 1 n f, .sl 1 m g] => some (some ((∀ i, i < n → isI (f i)) ∧ (∀ i, i < m → isI (g i)) ∧ n ≤ 1000000), .ret (.bool (decide (ivals n f = ivals m g))))
 | _ => none
theorem p_same4 : ∀ ms p r, s_same4 ms = some (p, r) → p.holds → ∃ ms', leV.leVs 0 ms ms' ∧ ∃ E : Env Tryd.prog, evFn E Tryd.f19 ms' r.sat := by
 intro ms p r h hp
 unfold s_same4 at h
 split at h
 ·rename_i n f m g
  simp only [Option.some.injEq, Prod.mk.injEq] at h
  obtain ⟨rfl, rfl⟩ := h
  obtain ⟨h1, h2, h3⟩ : (∀ i, i < n → isI (f i)) ∧ (∀ i, i < m → isI (g i)) ∧ n ≤ 1000000 := hp
  have l1 : (ivals n f).length = n := by simp [ivals]
  have l2 : (ivals m g).length = m := by simp [ivals]
  exact ⟨[.sl 1 (ivals n f).length (intR (ivals n f)), .sl 1 (ivals m g).length (intR (ivals m g))], ⟨⟨rfl, l1.symm, ivals_le h1⟩, ⟨rfl, l2.symm, ivals_le h2⟩, True.intro⟩, same4_ok _ _ (by omega)⟩
 ·simp at h
def c_same4 : Ctr Tryd.prog := ⟨19, s_same4, fun args w => Tryd.call19 args w, fn_ok_le mix Tryd.func19 s_same4 p_same4⟩
def a_next (k : Nat) : Nat → MS → Option LoopAnn
 | 7, _ => some (.unroll k)
 | _, _ => none
theorem vc_nextn (z : Int) (n : Nat) : (bif decide (z < (0 : Int)) then ((-9223372036854775808 : Int) ≤ (2 : Int) ∧ (2 : Int) ≤ (9223372036854775807 : Int)) ∧ ((2 : Int) = (2 : Int) ∧ ((64 : Nat) ≤ (70 : Nat) ∨ Int.natAbs (2 : Int) < (2 : Nat) ^ (70 : Nat))) ∧ (0 : Int) = (0 : Int) ∧ True else bif !decide ((0 : Int) ≤ z ∧ z < (18446744073709551616 : Int)) then ((0 : Int) = (2 : Int) ∧ ((0 : Nat) ≤ (70 : Nat) ∨ Int.natAbs (0 : Int) < (2 : Nat) ^ (70 : Nat))) ∧ (2 : Int) = (0 : Int) ∧ True else (0 : Int) ≤ (63 : Int) ∧ bif decide (Int.fdiv ((↑(Int.natAbs z) : Int) % (18446744073709551616 : Int)) ((2 : Int) ^ min (Int.toNat (63 : Int)) (IntKind.bits u64)) > (0 : Int)) then ((0 : Int) = (2 : Int) ∧ ((0 : Nat) ≤ (70 : Nat) ∨ Int.natAbs (0 : Int) < (2 : Nat) ^ (70 : Nat))) ∧ (2 : Int) = (0 : Int) ∧ True else False) = evFn (env [c_word, c_ppr, c_iof, c_iadd] (a_next 0)) Tryd.f18 [.big z n] (MRes.sat (.ret (.tup [.big 2 70, .int .i64 0]))) := by kernel_rfl
theorem vc_next7 (n : Nat) : ((0 : Int) ≤ (63 : Int) ∧ ((0 : Int) ≤ wrap u64 ((↑(Int.natAbs (7 : Int)) : Int) % (18446744073709551616 : Int) + (1 : Int)) ∧ wrap u64 ((↑(Int.natAbs (7 : Int)) : Int) % (18446744073709551616 : Int) + (1 : Int)) < (18446744073709551616 : Int)) ∧ ((0 : Int) ≤ wrap u64 (wrap u64 ((↑(Int.natAbs (7 : Int)) : Int) % (18446744073709551616 : Int) + (1 : Int)) + (1 : Int)) ∧ wrap u64 (wrap u64 ((↑(Int.natAbs (7 : Int)) : Int) % (18446744073709551616 : Int) + (1 : Int)) + (1 : Int)) < (18446744073709551616 : Int)) ∧ ((0 : Int) ≤ wrap u64 (wrap u64 (wrap u64 ((↑(Int.natAbs (7 : Int)) : Int) % (18446744073709551616 : Int) + (1 : Int)) + (1 : Int)) + (1 : Int)) ∧ wrap u64 (wrap u64 (wrap u64 ((↑(Int.natAbs (7 : Int)) : Int) % (18446744073709551616 : Int) + (1 : Int)) + (1 : Int)) + (1 : Int)) < (18446744073709551616 : Int)) ∧ ((0 : Int) ≤ wrap u64 (wrap u64 (wrap u64 (wrap u64 ((↑(Int.natAbs (7 : Int)) : Int) % (18446744073709551616 : Int) + (1 : Int)) + (1 : Int)) + (1 : Int)) + (1 : Int)) ∧ wrap u64 (wrap u64 (wrap u64 (wrap u64 ((↑(Int.natAbs (7 : Int)) : Int) % (18446744073709551616 : Int) + (1 : Int)) + (1 : Int)) + (1 : Int)) + (1 : Int)) < (18446744073709551616 : Int)) ∧ (0 : Int) ≤ (1 : Int) ∧ ((-9223372036854775808 : Int) ≤ wrap i64 (Int.fdiv (wrap u64 (wrap u64 (wrap u64 (wrap u64 ((↑(Int.natAbs (7 : Int)) : Int) % (18446744073709551616 : Int) + (1 : Int)) + (1 : Int)) + (1 : Int)) + (1 : Int))) ((2 : Int) ^ min (Int.toNat (1 : Int)) (IntKind.bits u64))) ∧ wrap i64 (Int.fdiv (wrap u64 (wrap u64 (wrap u64 (wrap u64 ((↑(Int.natAbs (7 : Int)) : Int) % (18446744073709551616 : Int) + (1 : Int)) + (1 : Int)) + (1 : Int)) + (1 : Int))) ((2 : Int) ^ min (Int.toNat (1 : Int)) (IntKind.bits u64))) ≤ (9223372036854775807 : Int)) ∧ (0 : Int) ≤ (1 : Int) ∧ ((-9223372036854775808 : Int) ≤ wrap i64 (wrap u64 (wrap u64 (wrap u64 (wrap u64 (wrap u64 ((↑(Int.natAbs (7 : Int)) : Int) % (18446744073709551616 : Int) + (1 : Int)) + (1 : Int)) + (1 : Int)) + (1 : Int)) - Int.fdiv (wrap u64 (wrap u64 (wrap u64 (wrap u64 ((↑(Int.natAbs (7 : Int)) : Int) % (18446744073709551616 : Int) + (1 : Int)) + (1 : Int)) + (1 : Int)) + (1 : Int))) ((2 : Int) ^ min (Int.toNat (1 : Int)) (IntKind.bits u64)))) ∧ wrap i64 (wrap u64 (wrap u64 (wrap u64 (wrap u64 (wrap u64 ((↑(Int.natAbs (7 : Int)) : Int) % (18446744073709551616 : Int) + (1 : Int)) + (1 : Int)) + (1 : Int)) + (1 : Int)) - Int.fdiv (wrap u64 (wrap u64 (wrap u64 (wrap u64 ((↑(Int.natAbs (7 : Int)) : Int) % (18446744073709551616 : Int) + (1 : Int)) + (1 : Int)) + (1 : Int)) + (1 : Int))) ((2 : Int) ^ min (Int.toNat (1 : Int)) (IntKind.bits u64)))) ≤ (9223372036854775807 : Int)) ∧ ((64 : Nat) ≤ (1000000 : Nat) ∧ (64 : Nat) ≤ (1000000 : Nat)) ∧ (wrap i64 (Int.fdiv (wrap u64 (wrap u64 (wrap u64 (wrap u64 ((↑(Int.natAbs (7 : Int)) : Int) % (18446744073709551616 : Int) + (1 : Int)) + (1 : Int)) + (1 : Int)) + (1 : Int))) ((2 : Int) ^ min (Int.toNat (1 : Int)) (IntKind.bits u64))) + wrap i64 (wrap u64 (wrap u64 (wrap u64 (wrap u64 (wrap u64 ((↑(Int.natAbs (7 : Int)) : Int) % (18446744073709551616 : Int) + (1 : Int)) + (1 : Int)) + (1 : Int)) + (1 : Int)) - Int.fdiv (wrap u64 (wrap u64 (wrap u64 (wrap u64 ((↑(Int.natAbs (7 : Int)) : Int) % (18446744073709551616 : Int) + (1 : Int)) + (1 : Int)) + (1 : Int)) + (1 : Int))) ((2 : Int) ^ min (Int.toNat (1 : Int)) (IntKind.bits u64)))) = (11 : Int) ∧ (max (64 : Nat) (64 : Nat) + (1 : Nat) ≤ (70 : Nat) ∨ Int.natAbs (wrap i64 (Int.fdiv (wrap u64 (wrap u64 (wrap u64 (wrap u64 ((↑(Int.natAbs (7 : Int)) : Int) % (18446744073709551616 : Int) + (1 : Int)) + (1 : Int)) + (1 : Int)) + (1 : Int))) ((2 : Int) ^ min (Int.toNat (1 : Int)) (IntKind.bits u64))) + wrap i64 (wrap u64 (wrap u64 (wrap u64 (wrap u64 (wrap u64 ((↑(Int.natAbs (7 : Int)) : Int) % (18446744073709551616 : Int) + (1 : Int)) + (1 : Int)) + (1 : Int)) + (1 : Int)) - Int.fdiv (wrap u64 (wrap u64 (wrap u64 (wrap u64 ((↑(Int.natAbs (7 : Int)) : Int) % (18446744073709551616 : Int) + (1 : Int)) + (1 : Int)) + (1 : Int)) + (1 : Int))) ((2 : Int) ^ min (Int.toNat (1 : Int)) (IntKind.bits u64))))) < (2 : Nat) ^ (70 : Nat))) ∧ (0 : Int) = (0 : Int) ∧ True) = evFn (env [c_word, c_ppr, c_iof, c_iadd] (a_next 6)) Tryd.f18 [.big 7 n] (MRes.sat (.ret (.tup [.big 11 70, .int .i64 0]))) := by kernel_rfl
def s_next4 : FSpec
 | [.big z _] => some (some (z = 7 ∨ z < 0), .ret (.tup [.big (if z = 7 then 11 else 2) 70, .int .i64 0]))
 | _ => none
theorem p_next4 : Good Tryd.f18 s_next4 := by
 intro ms p r h hp
 unfold s_next4 at h
 split at h
 ·rename_i z n
  simp only [Option.some.injEq, Prod.mk.injEq] at h
  obtain ⟨rfl, rfl⟩ := h
  rcases (hp : z = 7 ∨ z < 0) with rfl | hz
  ·rw [if_pos rfl]
   refine ⟨env [c_word, c_ppr, c_iof, c_iadd] (a_next 6), ?_⟩
   rw [← vc_next7 n]
   and_intros <;> first | exact True.intro | rfl | decide +kernel
  ·rw [if_neg (by omega)]
   refine ⟨env [c_word, c_ppr, c_iof, c_iadd] (a_next 0), ?_⟩
   rw [← vc_nextn z n]
   exact condT (decide_eq_true hz) ⟨by omega, ⟨rfl, .inl (by omega)⟩, rfl, True.intro⟩
 ·simp at h
def c_next4 : Ctr Tryd.prog := ⟨18, s_next4, fun args w => Tryd.call18 args w, fn_ok mix Tryd.func18 s_next4 p_next4⟩
theorem vc_lex4  : (((-9223372036854775808 : Int) ≤ (2047 : Int) ∧ (2047 : Int) ≤ (9223372036854775807 : Int)) ∧ ((64 : Nat) ≤ (128 : Nat) ∧ (-9223372036854775808 : Int) ≤ (2 : Int) ∧ (2 : Int) ≤ (9223372036854775807 : Int)) ∧ ((-9223372036854775808 : Int) ≤ (2047 : Int) ∧ (2047 : Int) ≤ (9223372036854775807 : Int)) ∧ ((64 : Nat) ≤ (128 : Nat) ∧ (-9223372036854775808 : Int) ≤ (3 : Int) ∧ (3 : Int) ≤ (9223372036854775807 : Int)) ∧ ((-9223372036854775808 : Int) ≤ (2047 : Int) ∧ (2047 : Int) ≤ (9223372036854775807 : Int)) ∧ (64 : Nat) ≤ (128 : Nat) ∧ ((-9223372036854775808 : Int) ≤ (2305843009213693951 : Int) ∧ (2305843009213693951 : Int) ≤ (9223372036854775807 : Int)) ∧ ((-9223372036854775808 : Int) ≤ (2305843009213693953 : Int) ∧ (2305843009213693953 : Int) ≤ (9223372036854775807 : Int)) ∧ ((-9223372036854775808 : Int) ≤ (7 : Int) ∧ (7 : Int) ≤ (9223372036854775807 : Int)) ∧ ((7 : Int) = (7 : Int) ∨ (7 : Int) < (0 : Int)) ∧ ((-9223372036854775808 : Int) ≤ (-5 : Int) ∧ (-5 : Int) ≤ (9223372036854775807 : Int)) ∧ ((-5 : Int) = (7 : Int) ∨ (-5 : Int) < (0 : Int)) ∧ ((-9223372036854775808 : Int) ≤ (11 : Int) ∧ (11 : Int) ≤ (9223372036854775807 : Int)) ∧ (64 : Nat) ≤ (128 : Nat) ∧ ((-9223372036854775808 : Int) ≤ (4 : Int) ∧ (4 : Int) ≤ (9223372036854775807 : Int)) ∧ ((64 : Nat) ≤ (128 : Nat) ∧ (-9223372036854775808 : Int) ≤ (3 : Int) ∧ (3 : Int) ≤ (9223372036854775807 : Int)) ∧ ((0 : Nat) + (4 : Nat) ≤ (4 : Nat) ∧ (∀ (i : Nat), i < (4 : Nat) → isI (intR (smL (10 : Int)) i)) ∧ (∀ (i : Nat), i < (4 : Nat) → isI (MV.int i64 (List.getD [(2 : Int), (3 : Int), (5 : Int), (7 : Int)] ((0 : Nat) + i) (0 : Int)))) ∧ (4 : Nat) ≤ (1000000 : Nat)) ∧ ((-9223372036854775808 : Int) ≤ (11 : Int) ∧ (11 : Int) ≤ (9223372036854775807 : Int)) ∧ ((70 : Nat) ≤ (1000000 : Nat) ∧ (64 : Nat) ≤ (1000000 : Nat)) ∧ ((-9223372036854775808 : Int) ≤ (2 : Int) ∧ (2 : Int) ≤ (9223372036854775807 : Int)) ∧ ((70 : Nat) ≤ (1000000 : Nat) ∧ (64 : Nat) ≤ (1000000 : Nat)) ∧ decide ((if (-5 : Int) = (7 : Int) then (11 : Int) else (2 : Int)) = (2 : Int)) = true) = evFn (env [c_sml4, c_rof, c_pstr, c_wit4, c_pis, c_next4, c_same4, c_rsame] noAnn) Tryd.f6 [] (MRes.sat (.ret (.bool true))) := by kernel_rfl
def s_lex4 : FSpec
 | [] => some (none, .ret (.bool true))
 | _ => none
theorem p_lex4 : Good Tryd.f6 s_lex4 := by
 intro ms p r h hp
 unfold s_lex4 at h
 split at h
 ·simp only [Option.some.injEq, Prod.mk.injEq] at h
  obtain ⟨rfl, rfl⟩ := h
  refine ⟨env [c_sml4, c_rof, c_pstr, c_wit4, c_pis, c_next4, c_same4, c_rsame] noAnn, ?_⟩
  rw [← vc_lex4]
  and_intros <;> first | exact True.intro | omega | exact fun i _ => isI_intR _ i | exact fun i _ => ⟨rfl⟩ | rfl
 ·simp at h
def c_lex4 : Ctr Tryd.prog := ⟨6, s_lex4, fun args w => Tryd.call6 args w, fn_ok mix Tryd.func6 s_lex4 p_lex4⟩
end Go.Proofs.YtmjklcpdfmgcaaaDoor
/-
 The frame of a law: what was read before the call is read behind it.
-/
namespace Go.Proofs.YtmjklcpdfmgcaaaDoor
open Go Go.RowKit
open Go.IntKind (wrap i64 i32 i16 i8 u64 u32 u16 u8)
theorem mapM_keep {α β : Type} {f g : α → Option β} : ∀ (l : List α) (xs : List β), l.mapM f = some xs → (∀ a x, f a = some x → x ∈ xs → g a = some x) → l.mapM g = some xs
 | [], xs, h, _ => h
 | a :: l, xs, h, hk => by
  simp only [List.mapM_cons, Option.bind_eq_bind, Option.pure_def, Option.bind_eq_some_iff, Option.some.injEq] at h ⊢
  obtain ⟨x, h1, ys, h2, rfl⟩ := h
  exact ⟨x, hk a x h1 (List.mem_cons_self ..), ys, mapM_keep l ys h2 fun b y hb hy => hk b y hb (List.mem_cons_of_mem _ hy), rfl⟩
theorem mapM_keep2 {α β : Type} {f g : α → Option β} : ∀ (l : List α) (xs : List β), l.mapM f = some xs → (∀ a ∈ l, ∀ x, f a = some x → x ∈ xs → g a = some x) → l.mapM g = some xs
 | [], xs, h, _ => h
 | a :: l, xs, h, hk => by
  simp only [List.mapM_cons, Option.bind_eq_bind, Option.pure_def, Option.bind_eq_some_iff, Option.some.injEq] at h ⊢
  obtain ⟨x, h1, ys, h2, rfl⟩ := h
  exact ⟨x, hk a (List.mem_cons_self ..) x h1 (List.mem_cons_self ..), ys, mapM_keep2 l ys h2 fun b hb y hy hm => hk b (List.mem_cons_of_mem _ hb) y hy (List.mem_cons_of_mem _ hm), rfl⟩
theorem cell_keep {w w' : World} (e : ∀ b, b < w.heap.size → w'.heap[b]? = w.heap[b]?) {a : Addr} {v : Value} (h : w.cell? a = some v) : w'.cell? a = some v := by
 have hlt : a.block < w.heap.size := by
  unfold World.cell? at h
  split at h
  ·rename_i h0; exact (Array.getElem?_eq_some_iff.1 h0).1
  ·simp at h
 unfold World.cell? at h ⊢
 rw [e _ hlt]; exact h
theorem cells_keep {w w' : World} (e : ∀ b, b < w.heap.size → w'.heap[b]? = w.heap[b]?) {base : Nat} {a : Addr} {n : Nat} {vs : List Value} (h : w.cells? base a n = some vs) : w'.cells? base a n = some vs := by
 unfold World.cells? at h ⊢
 split at h
 ·rename_i hb
  rw [if_pos hb]
  exact mapM_keep _ _ h fun i v hi _ => cell_keep e hi
 ·simp at h
section
variable {H : Type} {enc : TypeId × Value → H} {P : Program} {w w' : World}
def subOk (P : Program) (L : List Nat) (t : Nat) : Bool := match P.underlying t with
 | some (.pointer e) => L.elem e
 | some (.slice e) => L.elem e && (0).blt (P.cellsOf e)
 | some (.struct fs) => fs.toList.all fun f => L.elem f.type
 | some (.array _ e) => L.elem e
 | some (.interface _) => false
 | some (.map _ e) => L.elem e
 | _ => true
theorem trod_keep {L : List Nat} (hL : L.all (subOk P L) = true) (e : ∀ b, b < w.heap.size → w'.heap[b]? = w.heap[b]?) (sp : Nat → Bool) (held : Bool) :
  ∀ (fuel : Nat) (t : TypeId) (cs : List Value) (x : DataW H × List MemPlace), t ∈ L → DataW.trod enc P w 0 (fun _ => true) held fuel t cs = some x → (∀ p ∈ x.2, sp p.block = true) → DataW.trod enc P w' 0 sp held fuel t cs = some x
 | 0, _, _, _, _, h, _ => by simp [DataW.trod] at h
 | fuel + 1, t, cs, x, ht, h, hsp => by
  have ih := trod_keep hL e sp held fuel
  have hok := List.all_eq_true.1 hL t ht
  unfold subOk at hok
  unfold DataW.trod at h ⊢
  have el : ∀ (a : Addr) (n : Nat) (u : TypeId) (y : DataW H × List MemPlace), u ∈ L → (w.cells? 0 a n).bind (DataW.trod enc P w 0 (fun _ => true) held fuel u) = some y → (∀ p ∈ y.2, sp p.block = true) → (w'.cells? 0 a n).bind (DataW.trod enc P w' 0 sp held fuel u) = some y := by
   intro a n u y hu hy hs
   obtain ⟨vs, h1, h2⟩ := Option.bind_eq_some_iff.1 hy
   exact Option.bind_eq_some_iff.2 ⟨vs, cells_keep e h1, ih u vs y hu h2 hs⟩
  split at h
  case h_21 => simp at h
  case h_6 =>
   rename_i hu
   rw [hu] at hok
   obtain ⟨y, h1, rfl⟩ := Option.map_eq_some_iff.1 h
   exact Option.map_eq_some_iff.2 ⟨y, el _ _ _ _ (List.mem_of_elem_eq_true hok) h1 fun p hp => hsp p (List.mem_append_right _ hp), rfl⟩
  case h_8 =>
   rename_i ee a len cap hu
   rw [hu] at hok
   simp only [Bool.and_eq_true, Nat.blt_eq] at hok
   have hee := List.mem_of_elem_eq_true hok.1
   dsimp only at h ⊢
   split at h
   ·rename_i hc
    rw [if_pos hc]
    obtain ⟨elems, h1, h⟩ := Option.bind_eq_some_iff.1 h
    obtain ⟨rest, h2, rfl⟩ := Option.map_eq_some_iff.1 h
    rw [if_pos rfl] at h2
    have hsz := hok.2
    have q1 : ∀ y ∈ elems, ∀ p ∈ y.2, sp p.block = true := fun y hy p hp => hsp p (List.mem_append_right _ (List.mem_flatMap.2 ⟨y, List.mem_append_left _ hy, hp⟩))
    have q2 : ∀ y ∈ rest, ∀ p ∈ y.2, sp p.block = true := fun y hy p hp => hsp p (List.mem_append_right _ (List.mem_flatMap.2 ⟨y, List.mem_append_right _ hy, hp⟩))
    refine Option.bind_eq_some_iff.2 ⟨elems, mapM_keep _ _ h1 fun i y hi hy => el _ _ _ _ hee hi (q1 y hy), Option.map_eq_some_iff.2 ⟨rest, ?_, rfl⟩⟩
    by_cases h0 : rest = []
    ·subst h0
     have : cap - len = 0 := by
      rcases Nat.eq_zero_or_pos (cap - len) with h | h
      ·exact h
      ·obtain ⟨n, hn⟩ := Nat.exists_eq_succ_of_ne_zero (Nat.pos_iff_ne_zero.1 h)
       rw [hn, List.range_succ_eq_map] at h2
       simp [Option.bind_eq_some_iff] at h2
     rw [this]
     split <;> simp
    ·have hpos : 0 < (elems.length + rest.length) * P.cellsOf ee := Nat.mul_pos (by have := List.length_pos_iff.2 h0; omega) hsz
     have : sp a.block = true := hsp (.cell a.block (a.off + 0)) (List.mem_append_left _ (List.mem_map.2 ⟨0, List.mem_range.2 hpos, rfl⟩))
     rw [if_pos this]
     exact mapM_keep _ _ h2 fun i y hi hy => el _ _ _ _ hee hi (q2 y hy)
   ·simp at h
  case h_9 =>
   rename_i fs hu
   rw [hu] at hok
   split at h
   ·rename_i hc
    rw [if_pos hc]
    obtain ⟨xs, h1, rfl⟩ := Option.map_eq_some_iff.1 h
    exact Option.map_eq_some_iff.2 ⟨xs, mapM_keep2 _ _ h1 fun f hfm y hf hy => ih _ _ _ (List.mem_of_elem_eq_true (List.all_eq_true.1 hok f hfm)) hf fun p hp => hsp p (List.mem_flatMap.2 ⟨y, hy, hp⟩), rfl⟩
   ·simp at h
  case h_10 =>
   rename_i n ee hu
   rw [hu] at hok
   split at h
   ·rename_i hc
    rw [if_pos hc]
    obtain ⟨xs, h1, rfl⟩ := Option.map_eq_some_iff.1 h
    exact Option.map_eq_some_iff.2 ⟨xs, mapM_keep _ _ h1 fun f y hf hy => ih _ _ _ (List.mem_of_elem_eq_true hok) hf fun p hp => hsp p (List.mem_flatMap.2 ⟨y, hy, hp⟩), rfl⟩
   ·simp at h
  case h_12 =>
   rename_i hu
   rw [hu] at hok
   simp at hok
  case h_14 =>
   rename_i b hu
   rw [hu] at hok
   split at h
   ·rename_i es clock hb
    rw [e b (Array.getElem?_eq_some_iff.1 hb).1, hb]
    dsimp only
    split at h
    ·rename_i hc
     rw [if_pos hc]
     obtain ⟨entries, h1, h⟩ := Option.bind_eq_some_iff.1 h
     have hpl : ∀ y ∈ entries, ∀ p ∈ y.2, sp p.block = true := by
      dsimp only at h
      split at h
      ·simp only [Option.some.injEq] at h
       subst h
       exact fun y hy p hp => hsp p (List.mem_cons_of_mem _ (List.mem_flatMap.2 ⟨y, hy, hp⟩))
      ·simp at h
     refine Option.bind_eq_some_iff.2 ⟨entries, mapM_keep _ _ h1 fun f y hf hy => ?_, h⟩
     obtain ⟨key, k1, k2⟩ := Option.bind_eq_some_iff.1 hf
     refine Option.bind_eq_some_iff.2 ⟨key, k1, ?_⟩
     split at k2
     ·rename_i hfm
      rw [if_pos hfm]
      obtain ⟨z, z1, rfl⟩ := Option.map_eq_some_iff.1 k2
      exact Option.map_eq_some_iff.2 ⟨z, ih _ _ _ (List.mem_of_elem_eq_true hok) z1 (hpl _ hy), rfl⟩
     ·simp at k2
    ·simp at h
   ·simp at h
  all_goals
   exact h
theorem trodAll_keep {L : List Nat} (hL : L.all (subOk P L) = true) (e : ∀ b, b < w.heap.size → w'.heap[b]? = w.heap[b]?) (sp : Nat → Bool) :
  ∀ (ts : List TypeId) (vs : List Value) (ds : List (DataW H)) (ps : List MemPlace), (∀ t ∈ ts, t ∈ L) → DataW.TrodAll enc P w 0 (fun _ => true) true ts vs ds ps → (∀ p ∈ ps, sp p.block = true) → DataW.TrodAll enc P w' 0 sp true ts vs ds ps
 | [], [], [], _, _, h, _ => h
 | t :: ts, v :: vs, d :: ds, ps, ht, h, hsp => by
  obtain ⟨p, q, ⟨fuel, h1⟩, h2, rfl⟩ := h
  exact ⟨p, q, ⟨fuel, trod_keep hL e sp true fuel t _ _ (ht t (List.mem_cons_self ..)) h1 fun p hp => hsp p (List.mem_append_left _ hp)⟩, trodAll_keep hL e sp ts vs ds q (fun u hu => ht u (List.mem_cons_of_mem _ hu)) h2 fun p hp => hsp p (List.mem_append_right _ hp), rfl⟩
 | [], _ :: _, _, _, _, h, _ => h.elim
 | [], [], _ :: _, _, _, h, _ => h.elim
 | _ :: _, [], _, _, _, h, _ => h.elim
 | _ :: _, _ :: _, [], _, _, h, _ => h.elim
end
end Go.Proofs.YtmjklcpdfmgcaaaDoor
/-
 The frame of a law: what the arguments are, as the evaluator says it.
-/
namespace Go.Proofs.YtmjklcpdfmgcaaaDoor
open Go Go.RowKit
open Go.IntKind (wrap i64 i32 i16 i8 u64 u32 u16 u8)
abbrev noS : Nat → Prop := fun _ => False
section
variable {H : Type} {enc : TypeId × Value → H} {P : Program} {w : World} {sp : Nat → Bool} {held : Bool}
theorem mapM_all {α β : Type} {f : α → Option β} : ∀ (l : List α) (xs : List β), l.mapM f = some xs → ∀ a ∈ l, ∃ x, f a = some x
 | [], _, _, a, ha => by simp at ha
 | b :: l, xs, h, a, ha => by
  simp only [List.mapM_cons, Option.bind_eq_bind, Option.pure_def, Option.bind_eq_some_iff, Option.some.injEq] at h
  obtain ⟨x, h1, ys, h2, rfl⟩ := h
  rcases List.mem_cons.1 ha with rfl | ha
  ·exact ⟨x, h1⟩
  ·exact mapM_all l ys h2 a ha
theorem trod_array {t e : TypeId} {n : Nat} {fuel : Nat} {cs : List Value} {x : DataW H × List MemPlace} (hu : P.underlying t = some (.array n e)) (h : DataW.trod enc P w 0 sp held fuel t cs = some x) :
  cs.length = P.cellsOf t ∧ ∃ fuel', ∀ i, i < n → ∃ y, DataW.trod enc P w 0 sp held fuel' e ((cs.drop (i * P.cellsOf e)).take (P.cellsOf e)) = some y := by
 cases fuel with
 | zero => simp [DataW.trod] at h
 | succ fuel =>
  unfold DataW.trod at h
  rw [hu] at h
  split at h
  all_goals first | (rename_i h0; simp at h0; done) | skip
  ·rename_i n' e' hf
   simp only [Option.some.injEq, TypeDesc.array.injEq] at hf
   obtain ⟨rfl, rfl⟩ := hf
   split at h
   ·rename_i hc
    obtain ⟨xs, h1, rfl⟩ := Option.map_eq_some_iff.1 h
    exact ⟨hc, fuel, fun i hi => mapM_all _ _ h1 i (List.mem_range.2 hi)⟩
   ·simp at h
  ·rename ∀ (k : Nat) (e_1 : TypeId), some (TypeDesc.array n e) = some (TypeDesc.array k e_1) → False => hh
   exact (hh n e rfl).elim
theorem trod_int {t : TypeId} {k : IntKind} {fuel : Nat} {cs : List Value} {x : DataW H × List MemPlace} (hu : P.underlying t = some (.int k)) (h : DataW.trod enc P w 0 sp held fuel t cs = some x) :
  ∃ n, cs = [.int k n] ∧ (Lit.int k n).wf = true := by
 cases fuel with
 | zero => simp [DataW.trod] at h
 | succ fuel =>
  unfold DataW.trod at h
  rw [hu] at h
  split at h
  all_goals first | (rename_i h0; simp at h0; done) | skip
  ·rename_i k0 k' n hk
   simp only [Option.some.injEq, TypeDesc.int.injEq] at hk
   subst hk
   split at h
   ·rename_i hc
    exact ⟨n, by rw [hc.1], hc.2⟩
   ·simp at h
  ·simp at h
end
end Go.Proofs.YtmjklcpdfmgcaaaDoor
/-
 The frame of a law that may read a package-level array: what is laid; descriptions of numbers; what the contract of a law gives.
-/
namespace Go.Proofs.YtmjklcpdfmgcaaaDoor
open Go Go.ChangeShapes Go.WideShapes Go.ChangeAt Go.RowKit
open Go.IntKind (wrap i64 i32 i16 i8 u64 u32 u16 u8)
theorem own : ownKnob Tryd.prog.godebug = none := by kernel_rfl
section
variable {H : Type} {enc : TypeId × Value → H} {w : World} {sp : Nat → Bool} {held : Bool}
theorem post_same {P : Program} {f : Func} {s : ChangeSpec} {apart fresh handsOn again : Bool} {W W' : World} {args : Array Value} {v : Value} {ds gs : List (DataW H)} {before pa pv : List MemPlace}
  (hW : DataW.Whole enc P f.params.toList s.vars apart W args.toList ds gs before)
  (hres : ∀ (b : Nat) (sp : Nat → Bool) (hd : Bool), DataW.TrodAll enc P W' b sp hd f.resultTypes.toList (v.resultList f.resultTypes.size) (s.fn H (ds ++ gs)).results [])
  (hargs : ∀ sp : Nat → Bool, (∀ p ∈ before, sp p.block = true) → DataW.TrodAll enc P W' 0 sp true f.params.toList args.toList (s.fn H (ds ++ gs)).args pa)
  (hvars : ∀ sp : Nat → Bool, (∀ p ∈ before, sp p.block = true) → DataW.TrodVars enc P W' sp s.vars (s.fn H (ds ++ gs)).vars pv)
  (hps : before = pa ++ pv) (hk : W.keptBut W' (· ∈ before)) (hfz : ∀ a : Addr, a.block < W.heap.size → W'.frozen? a = W.frozen? a)
  (hok : ∀ (j : Nat) (t : TypeId) (r : Value), f.resultTypes[j]? = some t → (v.resultList f.resultTypes.size)[j]? = some r → Value.okWide P W' .any 0 t r) :
  s.post enc P f apart fresh handsOn again W args v W' := by
 have hlt : ∀ p ∈ before, p.block < W.heap.size := hW.lt
 have hold : ∀ p ∈ before, (fun b => decide (b < W.heap.size)) p.block = true := fun p hp => by simpa using hlt p hp
 refine ⟨ds, gs, before, [], pa, pv, hW, hres _ _ _, hargs _ hold, hvars _ hold, World.keptBut_mono (fun p hp => ⟨hp, ?_⟩) hk, fun _ => ?_⟩
 ·rw [hps, List.mem_append] at hp
  exact Or.inr hp
 ·obtain ⟨_, _, _, _, _, hz, hn⟩ := hW
  refine ⟨hok, _, _, ([] ++ pa) ++ pv, ⟨[] ++ pa, pv, trodAll_append (hargs _ (fun _ _ => rfl)) (hres _ _ _), hvars _ (fun _ _ => rfl), rfl, ?_, ?_⟩, ?_⟩
  ·intro b off hp
   have hm : MemPlace.cell b off ∈ before := by rw [hps]; simpa using hp
   rw [hfz ⟨b, off, none⟩ (hlt _ hm)]
   exact hz b off hm
  ·intro ha
   have := hn ha
   rw [hps] at this
   simpa using this
  ·intro p hp _
   rw [hps]
   simpa using hp
set_option maxRecDepth 100000 in
theorem law_calls {fn : Func} {s : ChangeSpec} (ctr : Ctr Tryd.prog) (hvars : s.vars = []) (hrt : fn.resultTypes = #[4]) {L : List Nat} (hL : L.all (subOk Tryd.prog L) = true) (hin : ∀ t ∈ fn.params.toList, t ∈ L) {apart fresh handsOn again : Bool} {W : World} {args : Array Value} {ds gs : List (DataW H)} {before : List MemPlace}
  (hW : DataW.Whole enc Tryd.prog fn.params.toList s.vars apart W args.toList ds gs before) (hG : GW noS W)
  (hrep : ∃ ms p, ctr.spec ms = some (p, .ret (.bool true)) ∧ p.holds ∧ RepAll (Ctx.args noS) W ms args.toList)
  (hspec : s.fn H (ds ++ gs) = { results := [.lit (.bool true)], args := ds }) :
  Calls Tryd.prog ctr.f args W fun e W' => ∃ v, e = .returned v ∧ s.post enc Tryd.prog fn apart fresh handsOn again W args v W' := by
 obtain ⟨ms, p, h1, h2, h3⟩ := hrep
 refine (ctr.ok noS W ms args p _ h1 h2 (fun _ h => h.elim) hG h3).mono fun e W' ⟨hE, hh⟩ => ?_
 obtain ⟨v, rfl, hr⟩ : ∃ v, e = .returned v ∧ Rep (Ctx.res noS) W' (.bool true) v := by
  cases e with
  | returned v => exact ⟨v, rfl, hh⟩
  | panicked _ => exact hh.elim
  | outgrown => exact hh.elim
 have hv : v = .bool true := rep_bool hr
 subst hv
 refine ⟨_, rfl, ?_⟩
 have hW' := hW
 obtain ⟨p, q, hA, hV, rfl, _, _⟩ := hW
 rw [hvars] at hV
 obtain ⟨rfl, rfl⟩ : gs = [] ∧ q = [] := trodVars_none hV
 refine post_same (pa := p) (pv := []) hW' (fun _ _ _ => ?_) (fun sp hsp => ?_) (fun _ _ => ?_) rfl (hE.kept _) hE.frz ?_
 ·rw [hspec, hrt]
  exact trodAll_cons_mk (shut_bool Tryd.underlying4 _) trodAll_mk0
 ·rw [hspec]
  exact trodAll_keep hL hE.block sp _ _ _ _ hin hA fun p hp => hsp p (List.mem_append_left _ hp)
 ·rw [hspec, hvars]; rfl
 ·have hw : Value.okWide Tryd.prog W' .any 0 4 (.bool true) := okWide_bool_mk Tryd.underlying4 true
  exact ok_one hrt rfl hw
end
end Go.Proofs.YtmjklcpdfmgcaaaDoor
/-
 The frame of the laws of chapter 04: what is laid (the table of math/bits), the witness, numbers.
-/
namespace Go.Proofs.YtmjklcpdfmgcaaaDoor
open Go Go.ChangeShapes Go.WideShapes Go.ChangeAt Go.RowKit
open Go.IntKind (wrap i64 i32 i16 i8 u64 u32 u16 u8)
theorem cells_u8 : Tryd.prog.cellsOf 5 = 1 := by kernel_rfl
noncomputable abbrev laid1 : List (String × DataW Unit) := [("math/bits.deBruijn64tab", Rows.laid_math_bits_deBruijn64tab)]
theorem gTab : Tryd.prog.globalNamed "math/bits.deBruijn64tab" = some 0 := by kernel_rfl
theorem tTab : (Tryd.prog.globals[0]?).map (·.type) = some 88 := by kernel_rfl
theorem laid_list : (Rows.laid_math_bits_deBruijn64tab : DataW Unit) = .agg (gList.map fun n => .lit (.int .u8 n)) := rfl
theorem gw_of_laid {W : World} (h : laidMetH Tryd.prog laid1 W) : GW noS W := by
 intro _
 rw [MakeChecks.laidMetH_plain _ _ _ (by kernel_rfl)] at h
 obtain ⟨ps, ⟨g0, t0, cs0, f0, p0, q0, hg0, ht0, hv0, hd0, _, _⟩, _, _⟩ := h
 obtain rfl := Option.some.inj (gTab.symm.trans hg0)
 obtain rfl := Option.some.inj (tTab.symm.trans ht0)
 obtain ⟨xs, m1, rfl, hx1, hlen, hn, hel⟩ := DataW.trod_array Tryd.underlying88 hd0
 rw [cells_u8] at hel
 simp only [Prod.mk.injEq] at hx1
 have hd := hx1.1
 rw [laid_list, DataW.agg.injEq] at hd
 have key : ∀ i, i < 64 → W.cell? ⟨0, i, none⟩ = some (.int .u8 (gList.getD i 0)) := by
  intro i hi
  have h1 := hel i hi
  obtain ⟨x, hxe⟩ : ∃ x, xs[i]? = some x := ⟨_, List.getElem?_eq_getElem (by omega)⟩
  rw [hxe] at h1
  obtain ⟨k, e1, e2, _⟩ := DataW.trod_int Tryd.underlying5 h1
  have hk : x.1 = .lit (.int .u8 (gList.getD i 0)) := by
   have e3 : (gList.map fun n => (DataW.lit (Lit.int .u8 n) : DataW Unit))[i]? = some x.1 := by
    rw [hd, List.getElem?_map, hxe]; rfl
   rw [List.getElem?_map, List.getElem?_eq_getElem (show i < gList.length from hi)] at e3
   simp only [Option.map_some, Option.some.injEq] at e3
   rw [← e3, List.getD_eq_getElem?_getD, List.getElem?_eq_getElem (show i < gList.length from hi)]
   rfl
  rw [e2] at hk
  simp only [DataW.lit.injEq, Lit.int.injEq, true_and] at hk
  subst hk
  have := World.var?_cell hg0 hv0 i
  rw [this]
  rw [Nat.mul_one] at e1
  have e3 : (cs0.toList.drop i)[0]? = some (.int .u8 (gList.getD i 0)) := by
   have : ((cs0.toList.drop i).take 1)[0]? = some (.int .u8 (gList.getD i 0)) := by rw [e1]; rfl
   rw [List.getElem?_take] at this
   simpa using this
  rw [List.getElem?_drop] at e3
  simpa using e3
 clear hel hd0 hv0 hn hlen hd hx1
 have c0 := key 0 (by omega)
 obtain ⟨arr, ty, fr, ha⟩ : ∃ arr ty fr, W.heap[0]? = some (.cells arr ty fr) := by
  unfold World.cell? at c0
  split at c0
  ·rename_i arr ty fr e; exact ⟨arr, ty, fr, e⟩
  ·simp at c0
 have hc : ∀ (i : Nat) v, W.cell? ⟨0, i, none⟩ = some v → arr[i]? = some v := fun i v h => by
  unfold World.cell? at h
  rw [show W.heap[(⟨0, i, none⟩ : Addr).block]? = _ from ha] at h
  exact h
 refine ⟨id, (Array.getElem?_eq_some_iff.1 ha).1, arr, ty, fr, ha, fun j v hv => ?_⟩
 rw [Nat.zero_add]
 rw [List.getElem?_map] at hv
 have hj : j < 64 := by
  rcases Nat.lt_or_ge j gList.length with q | q
  ·exact q
  ·rw [List.getElem?_eq_none q] at hv; simp at hv
 have := hc _ _ (key j hj)
 rw [this]
 rw [List.getElem?_eq_getElem (show j < gList.length from hj)] at hv
 rw [List.getD_eq_getElem?_getD, List.getElem?_eq_getElem (show j < gList.length from hj)]
 exact hv
theorem door_met (os : Os) (args : Array Value) : laidMetH Tryd.prog laid1 ((World.doorLaid Tryd.prog 400 os).forCall (fun _ _ => 0) ⟨#[], args, []⟩).memory :=
 laidMetH_of_parts3 (fuel := 8) (laidMet_of_run' 8 (by kernel_rfl) (by kernel_rfl)) (by kernel_rfl) (by kernel_rfl)
theorem ok_at {P : Program} {W : World} {base : Nat} {args : Array Value} {ts : Array TypeId} (hval : ∀ (j : Nat) t v, ts[j]? = some t → args[j]? = some v → Value.okWide P W .any base t v) {j : Nat} {t : TypeId} {v : Value} (h1 : ts[j]? = some t) (h2 : args[j]? = some v) : Value.okWide P W .any base t v := hval j t v h1 h2
theorem i64_wf {n : Int} (h : (Lit.int .i64 n).wf = true) : -9223372036854775808 ≤ n ∧ n ≤ 9223372036854775807 := by simpa [Lit.wf, IntKind.min, IntKind.max, IntKind.signed, IntKind.bits] using h
end Go.Proofs.YtmjklcpdfmgcaaaDoor
