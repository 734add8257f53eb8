/-
  PrimeSieve: the small primes are increasing, all numbers up to the limit are divided by one of them, and none is divided by a smaller one, whatever the limit is.
-/
import Derived.Test.YtmjklcpdfmgcaaaDoorW5

/-
 The walk of PrimeSieve.
-/
namespace Go.Proofs.YtmjklcpdfmgcaaaDoor
open Go Go.RowKit
open Go.IntKind (wrap i64 i32 i16 i8 u64 u32 u16 u8)
def dvF (l : List Int) (k i : Nat) : Bool := (l.take i).any fun x => (k : Int) % x == 0
structure InI (l : List Int) (k : Nat) (i : WalkI) : Prop where
 le : i.i ≤ (outP k).length
 s : ∀ j, j < i.i → l.getD j 0 * l.getD j 0 ≤ (k : Int)
def a_p4s (n : Int) (l : List Int) : Nat → MS → Option LoopAnn
 | 13, _ => some (.inv WalkI (fun k => 2 ≤ k.i ∧ ((k.i : Int) ≤ n + 1 ∨ k.i = 2)) (fun k => ⟨95, [(0, .int .i64 n), (3, .bool true), (4, .sl 1 l.length (intR l)), (5, .int .i64 0), (6, .int .i64 (outP k.i).length), (7, .int .i64 k.i)], [], 0⟩) (fun k => 3002 - k.i))
 | 17, e => some (.inv WalkI (InI l (mvI (look 7 e.tm)).toNat) (fun i => ⟨95, [(0, .int .i64 n), (3, .bool true), (4, .sl 1 l.length (intR l)), (5, .int .i64 0), (6, look 6 e.tm), (7, look 7 e.tm), (8, .bool (dvF l (mvI (look 7 e.tm)).toNat i.i)), (9, .int .i64 i.i)], [], 0⟩) (fun i => 1000000 - i.i))
 | _, _ => none
theorem vc_p4s (n : Int) (l : List Int) : (bif decide (n > (1048576 : Int)) then bif smE n == (2 : Int) then ((↑(List.length (smL n)) : Int) == (0 : Int)) = true else false = true else bif decide (n > (3000 : Int)) then (smE n == (0 : Int)) = true else bif smE n != (0 : Int) then false = true else (∃ i : WalkI, ((2 : Nat) ≤ i.1 ∧ ((↑(i.1) : Int) ≤ n + (1 : Int) ∨ i.1 = (2 : Nat))) ∧ (n = n ∧ true = true ∧ ((1 : Nat) = (1 : Nat) ∧ List.length (smL n) = List.length l ∧ LeFun (List.length (smL n)) (intR (smL n)) (intR l)) ∧ smE n = (0 : Int) ∧ (0 : Int) = (↑(List.length (outP (i.1))) : Int) ∧ (2 : Int) = (↑(i.1) : Int) ∧ True) ∧ True) ∧ ∀ (i : WalkI), (2 : Nat) ≤ i.1 ∧ ((↑(i.1) : Int) ≤ n + (1 : Int) ∨ i.1 = (2 : Nat)) → bif decide ((↑(i.1) : Int) ≤ n) then (∃ i_1, InI l (Int.toNat (mvI (MV.int i64 (↑(i.1) : Int)))) i_1 ∧ (n = n ∧ true = true ∧ ((1 : Nat) = (1 : Nat) ∧ List.length l = List.length l ∧ LeFun (List.length l) (intR l) (intR l)) ∧ (0 : Int) = (0 : Int) ∧ (↑(List.length (outP (i.1))) : Int) = (↑(List.length (outP (i.1))) : Int) ∧ (↑(i.1) : Int) = (↑(i.1) : Int) ∧ false = dvF l (Int.toNat (mvI (MV.int i64 (↑(i.1) : Int)))) (i_1.1) ∧ (0 : Int) = (↑(i_1.1) : Int) ∧ True) ∧ True) ∧ ∀ (i_1 : WalkI), InI l (Int.toNat (mvI (MV.int i64 (↑(i.1) : Int)))) i_1 → bif decide ((↑(i_1.1) : Int) < (↑(List.length (outP (i.1))) : Int)) then ((0 : Int) ≤ (↑(i_1.1) : Int) ∧ (↑(i_1.1) : Int) < (↑(List.length l) : Int)) ∧ ((0 : Int) ≤ (↑(i_1.1) : Int) ∧ (↑(i_1.1) : Int) < (↑(List.length l) : Int)) ∧ bif decide (wrap i64 (List.getD l (Int.toNat (↑(i_1.1) : Int)) (0 : Int) * List.getD l (Int.toNat (↑(i_1.1) : Int)) (0 : Int)) ≤ (↑(i.1) : Int)) then bif dvF l (Int.toNat (mvI (MV.int i64 (↑(i.1) : Int)))) (i_1.1) then ∃ j, InI l (Int.toNat (mvI (MV.int i64 (↑(i.1) : Int)))) j ∧ ((n = n ∧ true = true ∧ ((1 : Nat) = (1 : Nat) ∧ List.length l = List.length l ∧ LeFun (List.length l) (intR l) (intR l)) ∧ (0 : Int) = (0 : Int) ∧ (↑(List.length (outP (i.1))) : Int) = (↑(List.length (outP (i.1))) : Int) ∧ (↑(i.1) : Int) = (↑(i.1) : Int) ∧ true = dvF l (Int.toNat (mvI (MV.int i64 (↑(i.1) : Int)))) (j.1) ∧ wrap i64 ((↑(i_1.1) : Int) + (1 : Int)) = (↑(j.1) : Int) ∧ True) ∧ True) ∧ (1000000 : Nat) - j.1 < (1000000 : Nat) - i_1.1 else ((0 : Int) ≤ (↑(i_1.1) : Int) ∧ (↑(i_1.1) : Int) < (↑(List.length l) : Int)) ∧ (List.getD l (Int.toNat (↑(i_1.1) : Int)) (0 : Int) = (0 : Int) → False) ∧ ∃ j, InI l (Int.toNat (mvI (MV.int i64 (↑(i.1) : Int)))) j ∧ ((n = n ∧ true = true ∧ ((1 : Nat) = (1 : Nat) ∧ List.length l = List.length l ∧ LeFun (List.length l) (intR l) (intR l)) ∧ (0 : Int) = (0 : Int) ∧ (↑(List.length (outP (i.1))) : Int) = (↑(List.length (outP (i.1))) : Int) ∧ (↑(i.1) : Int) = (↑(i.1) : Int) ∧ (Int.tmod (↑(i.1) : Int) (List.getD l (Int.toNat (↑(i_1.1) : Int)) (0 : Int)) == (0 : Int)) = dvF l (Int.toNat (mvI (MV.int i64 (↑(i.1) : Int)))) (j.1) ∧ wrap i64 ((↑(i_1.1) : Int) + (1 : Int)) = (↑(j.1) : Int) ∧ True) ∧ True) ∧ (1000000 : Nat) - j.1 < (1000000 : Nat) - i_1.1 else bif !dvF l (Int.toNat (mvI (MV.int i64 (↑(i.1) : Int)))) (i_1.1) then bif decide ((↑(List.length (outP (i.1))) : Int) ≥ (↑(List.length l) : Int)) then false = true else ((0 : Int) ≤ (↑(List.length (outP (i.1))) : Int) ∧ (↑(List.length (outP (i.1))) : Int) < (↑(List.length l) : Int)) ∧ bif List.getD l (Int.toNat (↑(List.length (outP (i.1))) : Int)) (0 : Int) != (↑(i.1) : Int) then false = true else ∃ j : WalkI, ((2 : Nat) ≤ j.1 ∧ ((↑(j.1) : Int) ≤ n + (1 : Int) ∨ j.1 = (2 : Nat))) ∧ ((n = n ∧ true = true ∧ ((1 : Nat) = (1 : Nat) ∧ List.length l = List.length l ∧ LeFun (List.length l) (intR l) (intR l)) ∧ (0 : Int) = (0 : Int) ∧ wrap i64 ((↑(List.length (outP (i.1))) : Int) + (1 : Int)) = (↑(List.length (outP (j.1))) : Int) ∧ wrap i64 ((↑(i.1) : Int) + (1 : Int)) = (↑(j.1) : Int) ∧ True) ∧ True) ∧ (3002 : Nat) - j.1 < (3002 : Nat) - i.1 else ∃ j : WalkI, ((2 : Nat) ≤ j.1 ∧ ((↑(j.1) : Int) ≤ n + (1 : Int) ∨ j.1 = (2 : Nat))) ∧ ((n = n ∧ true = true ∧ ((1 : Nat) = (1 : Nat) ∧ List.length l = List.length l ∧ LeFun (List.length l) (intR l) (intR l)) ∧ (0 : Int) = (0 : Int) ∧ (↑(List.length (outP (i.1))) : Int) = (↑(List.length (outP (j.1))) : Int) ∧ wrap i64 ((↑(i.1) : Int) + (1 : Int)) = (↑(j.1) : Int) ∧ True) ∧ True) ∧ (3002 : Nat) - j.1 < (3002 : Nat) - i.1 else bif !dvF l (Int.toNat (mvI (MV.int i64 (↑(i.1) : Int)))) (i_1.1) then bif decide ((↑(List.length (outP (i.1))) : Int) ≥ (↑(List.length l) : Int)) then false = true else ((0 : Int) ≤ (↑(List.length (outP (i.1))) : Int) ∧ (↑(List.length (outP (i.1))) : Int) < (↑(List.length l) : Int)) ∧ bif List.getD l (Int.toNat (↑(List.length (outP (i.1))) : Int)) (0 : Int) != (↑(i.1) : Int) then false = true else ∃ j : WalkI, ((2 : Nat) ≤ j.1 ∧ ((↑(j.1) : Int) ≤ n + (1 : Int) ∨ j.1 = (2 : Nat))) ∧ ((n = n ∧ true = true ∧ ((1 : Nat) = (1 : Nat) ∧ List.length l = List.length l ∧ LeFun (List.length l) (intR l) (intR l)) ∧ (0 : Int) = (0 : Int) ∧ wrap i64 ((↑(List.length (outP (i.1))) : Int) + (1 : Int)) = (↑(List.length (outP (j.1))) : Int) ∧ wrap i64 ((↑(i.1) : Int) + (1 : Int)) = (↑(j.1) : Int) ∧ True) ∧ True) ∧ (3002 : Nat) - j.1 < (3002 : Nat) - i.1 else ∃ j : WalkI, ((2 : Nat) ≤ j.1 ∧ ((↑(j.1) : Int) ≤ n + (1 : Int) ∨ j.1 = (2 : Nat))) ∧ ((n = n ∧ true = true ∧ ((1 : Nat) = (1 : Nat) ∧ List.length l = List.length l ∧ LeFun (List.length l) (intR l) (intR l)) ∧ (0 : Int) = (0 : Int) ∧ (↑(List.length (outP (i.1))) : Int) = (↑(List.length (outP (j.1))) : Int) ∧ wrap i64 ((↑(i.1) : Int) + (1 : Int)) = (↑(j.1) : Int) ∧ True) ∧ True) ∧ (3002 : Nat) - j.1 < (3002 : Nat) - i.1 else ((↑(List.length (outP (i.1))) : Int) == (↑(List.length l) : Int)) = true) = evFn (env [c_lex4, c_sml4] (a_p4s n l)) Tryd.f4 [.int .i64 n] (MRes.sat (.ret (.bool true))) := by kernel_rfl
/-! ### Primes below a number -/
theorem getD_in {l : List Int} {j : Nat} (h : j < l.length) : l.getD j 0 = l[j] := by
 rw [List.getD_eq_getElem?_getD, List.getElem?_eq_getElem h]; rfl
theorem getD_app {l r : List Int} {j : Nat} (h : j < l.length) : (l ++ r).getD j 0 = l.getD j 0 := by
 rw [List.getD_eq_getElem?_getD, List.getD_eq_getElem?_getD, List.getElem?_append_left h]
theorem getD_app0 (l r : List Int) : (l ++ r).getD l.length 0 = r.getD 0 0 := by
 rw [List.getD_eq_getElem?_getD, List.getD_eq_getElem?_getD, List.getElem?_append_right (Nat.le_refl _), Nat.sub_self]
theorem out_mem {x : Int} : ∀ {p : Nat}, x ∈ outP p ↔ ∃ q : Nat, x = q ∧ 2 ≤ q ∧ q < p ∧ cmpS q q = false
 | 0 => by simp [outP]
 | p + 1 => by
  rw [outP, List.mem_append, out_mem (p := p)]
  constructor
  ·rintro (⟨q, h1, h2, h3, h4⟩ | h)
   ·exact ⟨q, h1, h2, by omega, h4⟩
   ·cases hc : (Nat.ble 2 p && !(cmpS p p)) with
    | false => rw [hc] at h; simp at h
    | true =>
     rw [hc, cond_true, List.mem_singleton] at h
     simp at hc
     exact ⟨p, h, hc.1, by omega, hc.2⟩
  ·rintro ⟨q, h1, h2, h3, h4⟩
   rcases Nat.lt_or_ge q p with g | g
   ·exact .inl ⟨q, h1, h2, g, h4⟩
   ·obtain rfl : q = p := by omega
    refine .inr ?_
    have : (Nat.ble 2 q && !(cmpS q q)) = true := by rw [h4]; simp [h2]
    rw [this, cond_true, List.mem_singleton, h1]
theorem out_lt : ∀ p, (outP p).Pairwise (· < ·)
 | 0 => .nil
 | p + 1 => by
  rw [outP]
  refine List.pairwise_append.2 ⟨out_lt p, ?_, fun a ha b hb => ?_⟩
  ·cases (Nat.ble 2 p && !(cmpS p p)) with
   | false => exact .nil
   | true => exact List.pairwise_singleton _ _
  ·obtain ⟨q, h1, _, h3, _⟩ := out_mem.1 ha
   cases hc : (Nat.ble 2 p && !(cmpS p p)) with
   | false => rw [hc] at hb; simp at hb
   | true => rw [hc, cond_true, List.mem_singleton] at hb; omega
theorem out_pre {p n : Nat} (h : p ≤ n) : ∃ r, outP n = outP p ++ r := by
 induction n with
 | zero => exact ⟨[], by rw [show p = 0 by omega]; rfl⟩
 | succ n ih =>
  rcases Nat.lt_or_ge n p with q | q
  ·exact ⟨[], by rw [show p = n + 1 by omega, List.append_nil]⟩
  ·obtain ⟨r, hr⟩ := ih q
   exact ⟨r ++ cond (Nat.ble 2 n && !(cmpS n n)) [(n : Int)] [], by rw [outP, hr, List.append_assoc]⟩
theorem out_get {p n j : Nat} (h : p ≤ n) (hj : j < (outP p).length) : (outP n).getD j 0 = (outP p).getD j 0 := by
 obtain ⟨r, hr⟩ := out_pre h
 rw [hr, getD_app hj]
theorem out_at {p j : Nat} (hj : j < (outP p).length) : ∃ q : Nat, (outP p).getD j 0 = q ∧ 2 ≤ q ∧ q < p ∧ cmpS q q = false := by
 have : (outP p).getD j 0 ∈ outP p := by
  rw [getD_in hj]
  exact List.getElem_mem hj
 exact out_mem.1 this
theorem out_next {k n : Nat} (h2 : 2 ≤ k) (h : k + 1 ≤ n) (hc : cmpS k k = false) : (outP k).length < (outP n).length ∧ (outP n).getD (outP k).length 0 = k := by
 have e := out_add h2 hc
 have hl : (outP (k + 1)).length = (outP k).length + 1 := by rw [← e, List.length_append]; rfl
 constructor
 ·obtain ⟨r, hr⟩ := out_pre h
  rw [hr, List.length_append]
  omega
 ·rw [out_get h (by omega), ← e, getD_app0]
  rfl
theorem out_mono {n i j : Nat} (hij : i ≤ j) (hj : j < (outP n).length) : (outP n).getD i 0 ≤ (outP n).getD j 0 := by
 rcases Nat.lt_or_ge i j with q | q
 ·rw [getD_in hj, getD_in (show i < _ by omega)]
  exact Int.le_of_lt (List.pairwise_iff_getElem.1 (out_lt n) i j (by omega) hj q)
 ·rw [show i = j by omega]; exact Int.le_refl _
theorem dv_iff {l : List Int} {k i : Nat} (hi : i ≤ l.length) : dvF l k i = true ↔ ∃ j, j < i ∧ (k : Int) % l.getD j 0 = 0 := by
 unfold dvF
 rw [List.any_eq_true]
 constructor
 ·rintro ⟨x, hx, he⟩
  obtain ⟨j, hj, e⟩ := List.mem_iff_getElem.1 hx
  rw [List.length_take] at hj
  refine ⟨j, by omega, ?_⟩
  rw [List.getElem_take] at e
  rw [getD_in (show j < _ by omega), e]
  exact eq_of_beq he
 ·rintro ⟨j, hj, he⟩
  refine ⟨l.getD j 0, ?_, by rw [he]; rfl⟩
  rw [getD_in (show j < _ by omega)]
  refine List.mem_iff_getElem.2 ⟨j, by rw [List.length_take]; omega, List.getElem_take⟩
theorem dv_succ {l : List Int} {k i : Nat} (hi : i < l.length) : dvF l k (i + 1) = (dvF l k i || (k : Int) % l.getD i 0 == 0) := by
 refine boolEq ?_
 rw [dv_iff (by omega), Bool.or_eq_true, dv_iff (by omega), beq_iff_eq]
 constructor
 ·rintro ⟨j, h1, h2⟩
  rcases Nat.lt_or_ge j i with q | q
  ·exact .inl ⟨j, q, h2⟩
  ·exact .inr (by rw [show i = j by omega]; exact h2)
 ·rintro (⟨j, h1, h2⟩ | h)
  ·exact ⟨j, by omega, h2⟩
  ·exact ⟨i, by omega, h⟩
theorem least_div {k : Nat} : ∀ {d : Nat}, 2 ≤ d → d < k → d * d ≤ k → k % d = 0 → ∃ e, 2 ≤ e ∧ e < k ∧ e * e ≤ k ∧ k % e = 0 ∧ cmpS e e = false := by
 intro d
 induction d using Nat.strongRecOn with
 | _ d ih =>
  intro h1 h2 h3 h4
  cases hc : cmpS d d with
  | false => exact ⟨d, h1, h2, h3, h4, hc⟩
  | true =>
   obtain ⟨e, k1, k2, k3, k4⟩ := cmpS_iff.1 hc
   exact ih e k2 k1 (by omega) (by omega) (Nat.mod_eq_zero_of_dvd (Nat.dvd_trans (Nat.dvd_of_mod_eq_zero k4) (Nat.dvd_of_mod_eq_zero h4)))
theorem dv_exit {n k i : Nat} (hk : k ≤ n) (hi : i ≤ (outP k).length) (hs : ∀ j, j < i → (outP n).getD j 0 * (outP n).getD j 0 ≤ (k : Int))
  (he : i = (outP k).length ∨ (k : Int) < (outP n).getD i 0 * (outP n).getD i 0) : dvF (outP n) k i = cmpS k k := by
 have hl : (outP k).length ≤ (outP n).length := by
  obtain ⟨r, hr⟩ := out_pre hk
  rw [hr, List.length_append]; omega
 refine boolEq ?_
 rw [dv_iff (by omega), cmpS_iff]
 constructor
 ·rintro ⟨j, hj, h⟩
  have h2 := hs j hj
  rw [out_get hk (by omega)] at h h2
  obtain ⟨q, q1, q2, q3, q4⟩ := out_at (show j < (outP k).length by omega)
  rw [q1] at h h2
  refine ⟨q, q2, q3, by rw [← Int.natCast_mul] at h2; omega, by omega⟩
 ·rintro ⟨d, h1, h2, h3, h4⟩
  obtain ⟨e, k1, k2, k3, k4, k5⟩ := least_div h1 h2 h3 h4
  obtain ⟨j, hj, ej⟩ := List.mem_iff_getElem.1 (out_mem.2 ⟨e, rfl, k1, k2, k5⟩)
  have eg : (outP n).getD j 0 = (e : Int) := by rw [out_get hk hj, getD_in hj, ej]
  refine ⟨j, ?_, by rw [eg]; omega⟩
  rcases Nat.lt_or_ge j i with q | q
  ·exact q
  ·exfalso
   rcases he with he | he
   ·omega
   ·have hm := out_mono (n := n) q (by omega)
    rw [eg] at hm
    have h0 : 0 ≤ (outP n).getD i 0 := by
     obtain ⟨q, q1, _⟩ := out_at (p := n) (show i < (outP n).length by omega)
     omega
    have := Int.mul_le_mul hm hm h0 (by omega)
    rw [← Int.natCast_mul] at this
    omega
/-! ### The walk -/
def s_p4s : FSpec
 | [.int .i64 n] => some (some (-9223372036854775808 ≤ n ∧ n ≤ 9223372036854775807), .ret (.bool true))
 | _ => none
theorem p_p4s : Good Tryd.f4 s_p4s := by
 intro ms p r h hp
 unfold s_p4s at h
 split at h
 ·rename_i n
  simp only [Option.some.injEq, Prod.mk.injEq] at h
  obtain ⟨rfl, rfl⟩ := h
  obtain ⟨hn0, hn1⟩ : -9223372036854775808 ≤ n ∧ n ≤ 9223372036854775807 := hp
  refine ⟨env [c_lex4, c_sml4] (a_p4s n (smL n)), ?_⟩
  rw [← vc_p4s n (smL n)]
  refine condI decide_eq_true_iff (fun q => ?_) (fun q => ?_)
  ·have e1 : smE n = 2 := if_pos q
   have e2 : smL n = [] := if_pos q
   rw [e1, e2]
   exact rfl
  have e1 : smE n = 0 := if_neg q
  have e2 : smL n = outP (n.toNat + 1) := if_neg q
  rw [e1, e2]
  refine condI decide_eq_true_iff (fun q2 => rfl) (fun q2 => ?_)
  refine condF rfl ⟨⟨⟨2⟩, ⟨Nat.le_refl _, .inr rfl⟩, ⟨rfl, rfl, ⟨rfl, rfl, LeFun.refl⟩, rfl, rfl, rfl, True.intro⟩, True.intro⟩, fun k hk => ?_⟩
  obtain ⟨k⟩ := k
  obtain ⟨h2, hk⟩ : 2 ≤ k ∧ ((k : Int) ≤ n + 1 ∨ k = 2) := hk
  dsimp only
  have hm : Int.toNat (mvI (.int .i64 (k : Int))) = k := rfl
  rw [hm]
  have hol := outP_len k
  refine condI decide_eq_true_iff (fun q3 => ?_) (fun q3 => ?_)
  ·have hkn : k + 1 ≤ n.toNat + 1 := by omega
   have hll : (outP k).length ≤ (outP (n.toNat + 1)).length := by
    obtain ⟨r, hr⟩ := out_pre (show k ≤ n.toNat + 1 by omega)
    rw [hr, List.length_append]; omega
   refine ⟨⟨⟨0⟩, ⟨Nat.zero_le _, fun j hj => absurd hj (Nat.not_lt_zero j)⟩, ⟨rfl, rfl, ⟨rfl, rfl, LeFun.refl⟩, rfl, rfl, rfl, rfl, rfl, True.intro⟩, True.intro⟩, fun i hi => ?_⟩
   obtain ⟨i⟩ := i
   have hi1 := hi.le
   have hi2 := hi.s
   dsimp only at hi1 hi2 ⊢
   rw [Int.toNat_natCast, Int.toNat_natCast]
   have w1 : wrap i64 ((k : Int) + 1) = ((k + 1 : Nat) : Int) := by rw [i64w (by omega) (by omega)]; omega
   have w2 : wrap i64 ((i : Int) + 1) = ((i + 1 : Nat) : Int) := by rw [i64w (by omega) (by omega)]; omega
   have w3 : wrap i64 (((outP k).length : Int) + 1) = (((outP k).length + 1 : Nat) : Int) := by rw [i64w (by omega) (by omega)]; omega
   rw [w1, w2, w3]
   have key : (i = (outP k).length ∨ (k : Int) < (outP (n.toNat + 1)).getD i 0 * (outP (n.toNat + 1)).getD i 0) → dvF (outP (n.toNat + 1)) k i = cmpS k k := fun he => dv_exit (by omega) hi1 hi2 he
   refine condI decide_eq_true_iff (fun q4 => ?_) (fun q4 => ?_)
   ·obtain ⟨x, x1, x2, x3, x4⟩ := out_at (show i < (outP k).length by omega)
    have hx : (outP (n.toNat + 1)).getD i 0 = (x : Int) := by rw [out_get (p := k) (by omega) (by omega), x1]
    have hxx : x * x ≤ 3001 * 3001 := Nat.mul_le_mul (by omega) (by omega)
    have w4 : wrap i64 ((outP (n.toNat + 1)).getD i 0 * (outP (n.toNat + 1)).getD i 0) = ((x * x : Nat) : Int) := by rw [hx, ← Int.natCast_mul, i64w (by omega) (by omega)]
    rw [w4]
    refine ⟨⟨by omega, by omega⟩, ⟨by omega, by omega⟩, ?_⟩
    refine condI decide_eq_true_iff (fun q5 => ?_) (fun q5 => ?_)
    ·have hI : InI (outP (n.toNat + 1)) k ⟨i + 1⟩ := ⟨by show i + 1 ≤ _; omega, fun j hj => by
      rcases Nat.lt_or_ge j i with g | g
      ·exact hi2 j g
      ·rw [show j = i by have : j < i + 1 := hj; omega, hx, ← Int.natCast_mul]; exact q5⟩
     have hd := dv_succ (l := outP (n.toNat + 1)) (k := k) (i := i) (by omega)
     cases hc : dvF (outP (n.toNat + 1)) k i with
     | true =>
      rw [hc, Bool.true_or] at hd
      exact ⟨⟨i + 1⟩, hI, ⟨⟨rfl, rfl, ⟨rfl, rfl, LeFun.refl⟩, rfl, rfl, rfl, hd.symm, rfl, True.intro⟩, True.intro⟩, by show 1000000 - (i + 1) < 1000000 - i; omega⟩
     | false =>
      rw [hc, Bool.false_or] at hd
      refine ⟨⟨by omega, by omega⟩, by rw [hx]; omega, ⟨i + 1⟩, hI, ⟨⟨rfl, rfl, ⟨rfl, rfl, LeFun.refl⟩, rfl, rfl, rfl, ?_, rfl, True.intro⟩, True.intro⟩, by show 1000000 - (i + 1) < 1000000 - i; omega⟩
      rw [Int.tmod_eq_emod_of_nonneg (by omega)]
      exact hd.symm
    ·have hd := key (.inr (by rw [hx, ← Int.natCast_mul]; omega))
     rw [hd]
     cases hc : cmpS k k with
     | true => exact condF rfl ⟨⟨k + 1⟩, ⟨by show 2 ≤ k + 1; omega, .inl (by show ((k + 1 : Nat) : Int) ≤ n + 1; omega)⟩, ⟨⟨rfl, rfl, ⟨rfl, rfl, LeFun.refl⟩, rfl, by rw [out_skip hc], rfl, True.intro⟩, True.intro⟩, by show 3002 - (k + 1) < 3002 - k; omega⟩
     | false =>
      obtain ⟨l1, l2⟩ := out_next h2 hkn hc
      have e := out_add h2 hc
      have hl : (outP (k + 1)).length = (outP k).length + 1 := by rw [← e, List.length_append]; rfl
      refine condT rfl (condF (decide_eq_false (by omega)) ⟨⟨by omega, by omega⟩, condF (by rw [l2]; simp) ?_⟩)
      exact ⟨⟨k + 1⟩, ⟨by show 2 ≤ k + 1; omega, .inl (by show ((k + 1 : Nat) : Int) ≤ n + 1; omega)⟩, ⟨⟨rfl, rfl, ⟨rfl, rfl, LeFun.refl⟩, rfl, by rw [← hl], rfl, True.intro⟩, True.intro⟩, by show 3002 - (k + 1) < 3002 - k; omega⟩
   ·have hd := key (.inl (by omega))
    rw [hd]
    cases hc : cmpS k k with
    | true => exact condF rfl ⟨⟨k + 1⟩, ⟨by show 2 ≤ k + 1; omega, .inl (by show ((k + 1 : Nat) : Int) ≤ n + 1; omega)⟩, ⟨⟨rfl, rfl, ⟨rfl, rfl, LeFun.refl⟩, rfl, by rw [out_skip hc], rfl, True.intro⟩, True.intro⟩, by show 3002 - (k + 1) < 3002 - k; omega⟩
    | false =>
     obtain ⟨l1, l2⟩ := out_next h2 hkn hc
     have e := out_add h2 hc
     have hl : (outP (k + 1)).length = (outP k).length + 1 := by rw [← e, List.length_append]; rfl
     refine condT rfl (condF (decide_eq_false (by omega)) ⟨⟨by omega, by omega⟩, condF (by rw [l2]; simp) ?_⟩)
     exact ⟨⟨k + 1⟩, ⟨by show 2 ≤ k + 1; omega, .inl (by show ((k + 1 : Nat) : Int) ≤ n + 1; omega)⟩, ⟨⟨rfl, rfl, ⟨rfl, rfl, LeFun.refl⟩, rfl, by rw [← hl], rfl, True.intro⟩, True.intro⟩, by show 3002 - (k + 1) < 3002 - k; omega⟩
  ·have hlen : (outP k).length = (outP (n.toNat + 1)).length := by
    rcases (show n < 2 ∨ 2 ≤ n by omega) with g | g
    ·have hk2 : k = 2 := by omega
     rw [hk2]
     have : n.toNat = 0 ∨ n.toNat = 1 := by omega
     rcases this with h | h <;> rw [h] <;> decide
    ·rw [show k = n.toNat + 1 by omega]
   rw [hlen]
   exact beq_self_eq_true _
 ·simp at h
noncomputable def c_p4s : Ctr Tryd.prog := ⟨4, s_p4s, fun args w => Tryd.call4 args w, fn_ok mix Tryd.func4 s_p4s p_p4s⟩
end Go.Proofs.YtmjklcpdfmgcaaaDoor
/-
 PrimeSieve: the small primes are increasing, all numbers up to the limit are divided by one of them, and none is divided by a smaller one, whatever the limit is.
-/
namespace Go.Proofs.YtmjklcpdfmgcaaaDoor
open Go Go.ChangeShapes Go.WideShapes Go.ChangeAt Go.RowKit
open Go.IntKind (wrap i64 i32 i16 i8 u64 u32 u16 u8)
def tysPrimeSieve : List Nat := [3]
theorem tysPrimeSieve_ok : tysPrimeSieve.all (subOk Tryd.prog tysPrimeSieve) = true := by kernel_rfl
theorem parPrimeSieve0 : Tryd.f4.params[0]? = some 3 := by rw [Tryd.params4]; rfl
set_option maxRecDepth 100000 in
theorem primeSieve_contract (H : Type) (enc : TypeId × Value → H) (W : World) (base : Nat) (args : Array Value) (ds gs : List (DataW H)) (before : List MemPlace) (hG : GW noS W)
  (hval : ∀ (j : Nat) t v, Tryd.f4.params[j]? = some t → args[j]? = some v → Value.okWide Tryd.prog W .any base t v)
  (hW : DataW.Whole enc Tryd.prog Tryd.f4.params.toList Rows.primeSieveSpec.vars Rows.primeSieveRow.apart W args.toList ds gs before) :
  Calls Tryd.prog 4 args W fun e W' => ∃ v, e = .returned v ∧ Rows.primeSieveSpec.post enc Tryd.prog Tryd.f4 Rows.primeSieveRow.apart Rows.primeSieveRow.fresh Rows.primeSieveRow.handsOn Rows.primeSieveRow.again W args v W' := by
 have hW' := hW
 obtain ⟨p, q, hA, hV, rfl, hfz, hnd⟩ := hW
 rw [Tryd.params4] at hA
 obtain ⟨v0, d0, rfl, rfl, h0⟩ := trodAll_one hA
 obtain ⟨rfl, rfl⟩ := trodVars_none hV
 obtain ⟨z0, rfl, _, _, hw0⟩ := open_int Tryd.underlying3 (ok_at hval parPrimeSieve0 rfl) h0
 have r0 : Rep1 (Ctx.args noS) W (.int .i64 z0) (.int .i64 z0) := rfl
 have w0 := i64_wf hw0
 refine law_calls c_p4s rfl rfl tysPrimeSieve_ok (by rw [Tryd.params4]; decide) hW' hG ⟨[.int .i64 z0], _, rfl, w0, _, _, rfl, r0, rfl⟩ rfl
set_option maxHeartbeats 1600000 in
set_option maxRecDepth 100000 in
theorem primeSieve_lifted (os : Os) (started : os.Started) (H : Type) (enc : TypeId × Value → H) :
  ReturnsInHanded {} Tryd.checked os 4 .any (fun w args => (Rows.primeSieveSpec.pre enc Tryd.prog Tryd.f4 [] false w args ∧ laidMetH Tryd.prog laid1 w) ∧ sizedMet enc Tryd.prog Tryd.f4 (OpenSpec.ofChange Rows.primeSieveSpec) false w args)
   (Rows.primeSieveSpec.post enc Tryd.prog Tryd.f4 false true false false) := by
 refine returnsInHanded_of_change_and (C := Tryd.checked) (X := fun w _ => laidMetH Tryd.prog laid1 w) (fun _ _ _ hh h => h.of_heap hh) own started (by kernel_rfl) Tryd.func4
  (ChangeSpec.witness_shaped (enc := enc) (C := Tryd.checked) (os := os) (X := fun w _ => laidMetH Tryd.prog laid1 w) false (World.doorLaid Tryd.prog 400 os) #[.int .i64 0] 8 rfl (World.shaped_of_RefB (by kernel_rfl) (by kernel_rfl)) (by kernel_rfl) (by kernel_rfl) (by kernel_rfl) (door_met os _)) ?_
 intro W base args ds gs before hval0 hW _ _ hL _
 exact primeSieve_contract H enc W base args ds gs before (gw_of_laid hL) hval0 hW
theorem primeSieve_over : Rows.PrimeSieveSaid :=
 OpenClaim.holds_of_wide 4 Tryd.f4 rfl rfl rfl rfl rfl rfl rfl ⟨rfl, rfl, rfl, rfl, rfl⟩ rfl rfl rfl rfl rfl (by kernel_rfl) Tryd.func4 (by kernel_rfl)
  (of_decide_eq_true (by kernel_rfl)) (by unfold Func.isWrapper; first | (rw [if_pos (by decide +kernel)]; kernel_rfl) | (rw [if_neg (by decide +kernel)]; exact ⟨rfl, rfl⟩))
  (fun os started H enc _ => primeSieve_lifted os started H enc)
theorem primeSieve_holds : Rows.PrimeSieveCardSaid :=
 Claim7.holds_tied_plain_at .later [] [.data] true (true, Rows.primeSieveCard.stood.harness.2) false
  primeSieve_over (fun _ h => by cases h) (by kernel_rfl) (fun _ h => by cases h) primeSieve_row_tie rfl ⟨rfl, rfl⟩ (by kernel_rfl) rfl
  (fun f fn hf hfn => by
   obtain rfl : f = 4 := Option.some.inj ((show Tryd.prog.funcNamed "algorist/algoristlaw04.PrimeSieve" = some 4 by kernel_rfl).symm.trans hf) |>.symm
   obtain rfl : fn = Tryd.f4 := (Option.some.inj (Tryd.func4.symm.trans hfn)).symm
   exact ⟨by kernel_rfl, fun j t ht => by
    rw [Tryd.params4] at ht
    have hm : t ∈ [3] := by simpa using Array.mem_of_getElem? ht
    have hall : ([3].all fun u => !Tryd.prog.wantsStandIn u) = true := by kernel_rfl
    exact (show Tryd.prog.wantsStandIn t = false by simpa using List.all_eq_true.1 hall t hm)⟩)
  (by kernel_rfl)
end Go.Proofs.YtmjklcpdfmgcaaaDoor
