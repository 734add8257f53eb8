/-
  PrimeBases: one is a strong probable prime's witness of nothing; a base, the base more by the number, and its opposite answer alike, whatever the number and the base are.
-/
import Derived.Test.YtmjklcpdfmgcaaaDoorW5
import Derived.Test.YtmjklcpdfmgcaaaDoorW4

/-
 The walks of PrimeMatchesReference and PrimeBases.
-/
namespace Go.Proofs.YtmjklcpdfmgcaaaDoor
open Go Go.RowKit
open Go.IntKind (wrap i64 i32 i16 i8 u64 u32 u16 u8)
end Go.Proofs.YtmjklcpdfmgcaaaDoor
/-
 The walk of PrimeBases.
-/
namespace Go.Proofs.YtmjklcpdfmgcaaaDoor
open Go Go.RowKit
open Go.IntKind (wrap i64 i32 i16 i8 u64 u32 u16 u8)
/-! ### Opposite bases -/
theorem pow_sub_dvd (a c : Int) : ∀ n : Nat, (a - c) ∣ (a ^ n - c ^ n)
 | 0 => ⟨0, by simp⟩
 | n + 1 => by
  obtain ⟨k, hk⟩ := pow_sub_dvd a c n
  refine ⟨a * k + c ^ n, ?_⟩
  have e1 : a ^ (n + 1) - c ^ (n + 1) = a * (a ^ n - c ^ n) + (a - c) * c ^ n := by
   rw [Int.pow_succ, Int.pow_succ, Int.mul_sub, Int.sub_mul, Int.mul_comm (a ^ n) a, Int.mul_comm (c ^ n) c]
   omega
  rw [e1, hk, Int.mul_add, Int.mul_left_comm]
theorem neg_pow_odd (c : Int) (m : Nat) : (-c) ^ (2 * m + 1) = -(c ^ (2 * m + 1)) := by
 rw [Int.pow_succ, Int.pow_succ, Int.pow_mul, Int.pow_mul]
 have : (-c) ^ 2 = c ^ 2 := by rw [Int.pow_succ, Int.pow_succ, Int.pow_zero, Int.pow_succ, Int.pow_succ, Int.pow_zero, Int.one_mul, Int.one_mul, Int.neg_mul_neg]
 rw [this, Int.mul_neg]
theorem opp_pow {N r d : Nat} (hr : r < N) (hd : d % 2 = 1) : ((N - r) ^ d + r ^ d) % N = 0 := by
 have h := pow_sub_dvd ((N : Int) - r) (-(r : Int)) d
 rw [show d = 2 * (d / 2) + 1 by omega, neg_pow_odd, Int.sub_neg, Int.sub_neg, ← show d = 2 * (d / 2) + 1 by omega] at h
 rw [show (N : Int) - r + r = (N : Int) by omega] at h
 have e : ((N - r : Nat) : Int) = (N : Int) - r := by omega
 rw [← e] at h
 have h2 : ((N : Nat) : Int) ∣ (((N - r) ^ d + r ^ d : Nat) : Int) := by
  rw [Int.natCast_add, Int.natCast_pow, Int.natCast_pow]; exact h
 exact Nat.mod_eq_zero_of_dvd (Int.natCast_dvd_natCast.1 h2)
theorem strongN_neg {N r : Nat} (h2 : 2 < N) (ho : N % 2 = 1) (hN : N < 2 ^ 128) (h0 : 0 < r) (hr : r < N) : strongN N (N - r) = strongN N r := by
 have e1 : (N - r) % N = N - r := Nat.mod_eq_of_lt (by omega)
 have e2 : r % N = r := Nat.mod_eq_of_lt hr
 have hT := tz_ok (n := N - 1) (by omega) (by omega)
 rw [strongN_eq (n := N) (b := N - r) (by omega) (by omega) hN, strongN_eq (n := N) (b := r) (by omega) (by omega) hN, e1, e2]
 have hs : tz (N - 1) ≠ 0 := fun e => by
  have := hT.o
  rw [e] at this
  simp at this
  omega
 have hop := opp_pow (N := N) (r := r) hr hT.o
 rw [Nat.one_mul, Nat.one_mul]
 generalize hd : (N - 1) / 2 ^ tz (N - 1) = d at *
 rw [Nat.add_mod] at hop
 have hx : r ^ d % N < N := Nat.mod_lt _ (by omega)
 have hy : (N - r) ^ d % N < N := Nat.mod_lt _ (by omega)
 generalize r ^ d % N = x at *
 generalize (N - r) ^ d % N = y at *
 obtain ⟨s, hs⟩ : ∃ s, tz (N - 1) = s + 1 := ⟨tz (N - 1) - 1, by omega⟩
 rw [hs, hitF, hitF]
 rcases Nat.eq_zero_or_pos x with hx0 | hx0
 ·subst hx0
  have hy0 : y = 0 := by
   simp only [Nat.add_zero] at hop
   rw [Nat.mod_eq_of_lt hy] at hop
   exact hop
  rw [hy0]
 ·have hyx : y = N - x := by
   rcases Nat.lt_or_ge (y + x) N with q | q
   ·rw [Nat.mod_eq_of_lt q] at hop; omega
   ·have : (y + x) % N = y + x - N := by rw [Nat.mod_eq_sub_mod q]; exact Nat.mod_eq_of_lt (by omega)
    omega
  subst hyx
  have e3 : (N - x) * (N - x) % N = x * x % N := by
   have h := opp_pow (N := N) (r := x) hx (d := 1) rfl
   have h3 : (N - x) * (N - x) = x * x + N * (N - x - x) ∨ (N - x) * (N - x) + N * (x - (N - x)) = x * x := by
    rcases Nat.le_total x (N - x) with q | q
    ·refine .inl ?_
     obtain ⟨k, hk⟩ : ∃ k, N - x = x + k := ⟨N - x - x, by omega⟩
     have hN2 : N = x + (x + k) := by omega
     rw [hk, show x + k - x = k by omega, hN2, Nat.add_mul, Nat.mul_add, Nat.mul_add, Nat.add_mul, Nat.add_mul, Nat.mul_comm k x]
     omega
    ·refine .inr ?_
     obtain ⟨k, hk⟩ : ∃ k, x = (N - x) + k := ⟨x - (N - x), by omega⟩
     have hN2 : N = (N - x) + x := by omega
     rw [show x - (N - x) = k by omega]
     generalize N - x = y at *
     subst hk
     rw [hN2]
     simp only [Nat.add_mul, Nat.mul_add, Nat.mul_comm k y]
     omega
   rcases h3 with h3 | h3
   ·rw [h3, Nat.add_mul_mod_self_left]
   ·rw [← h3, Nat.add_mul_mod_self_left]
  rw [e3]
  generalize hitF s (x * x % N) N = H
  have b1 : Nat.beq (N - x) 1 = Nat.beq x (N - 1) := by
   by_cases q : x = N - 1
   ·subst q; rw [show N - (N - 1) = 1 by omega, Nat.beq_refl, Nat.beq_refl]
   ·rw [beqN q, beqN (by omega)]
  have b2 : Nat.beq (N - x) (N - 1) = Nat.beq x 1 := by
   by_cases q : x = 1
   ·subst q; rw [Nat.beq_refl, Nat.beq_refl]
   ·rw [beqN q, beqN (by omega)]
  rw [b1, b2]
  cases Nat.beq x 1 <;> cases Nat.beq x (N - 1) <;> rfl
theorem strongN_one {N : Nat} (h2 : 2 < N) (hN : N < 2 ^ 128) : strongN N 1 = true := by
 rw [strongN_eq (n := N) (b := 1) (by rw [Nat.mod_eq_of_lt (by omega)]; omega) (by omega) hN, Nat.mod_eq_of_lt (show 1 < N by omega), Nat.one_pow, Nat.mul_one, Nat.mod_eq_of_lt (show 1 < N by omega)]
 rfl
theorem vc_p4b (b : Bool) (l : List Int) (k : Int) : (((∀ (x : Int), x ∈ l → (0 : Int) ≤ x ∧ x < (4294967296 : Int)) ∧ (0 : Int) ≤ (1 : Int) ∧ (1 : Int) ≤ (1000 : Int) ∧ List.length l < (9223372036854775808 : Nat)) ∧ ((32 : Nat) * Int.toNat (1 : Int) ≤ (128 : Nat) ∧ (-9223372036854775808 : Int) ≤ (1 : Int) ∧ (1 : Int) ≤ (9223372036854775807 : Int)) ∧ ((32 : Nat) * Int.toNat (1 : Int) ≤ (128 : Nat) ∧ (-9223372036854775808 : Int) ≤ wrap i64 ((1 : Int) + wrap i64 k) ∧ wrap i64 ((1 : Int) + wrap i64 k) ≤ (9223372036854775807 : Int)) ∧ ((-9223372036854775808 : Int) ≤ (2 : Int) ∧ (2 : Int) ≤ (9223372036854775807 : Int)) ∧ ((32 : Nat) * Int.toNat (1 : Int) ≤ (1000000 : Nat) ∧ (64 : Nat) ≤ (1000000 : Nat)) ∧ bif decide (icmp (madeI b l (Int.toNat (1 : Int))) (2 : Int) ≤ (0 : Int)) then bif strE (madeI b l (Int.toNat (1 : Int))) (1 : Int) == (1 : Int) then bif strE (madeI b l (Int.toNat (1 : Int))) (wrap i64 ((1 : Int) + wrap i64 k)) == (1 : Int) then bif !strB (madeI b l (Int.toNat (1 : Int))) (1 : Int) then (!strB (madeI b l (Int.toNat (1 : Int))) (wrap i64 ((1 : Int) + wrap i64 k))) = true else false = true else false = true else false = true else ((0 : Int) ≤ (0 : Int) ∧ (0 : Int) < (↑(List.length (limbs (Int.natAbs (madeI b l (Int.toNat (1 : Int)))))) : Int)) ∧ ((2 : Int) = (0 : Int) → False) ∧ bif Int.tmod (List.getD (limbs (Int.natAbs (madeI b l (Int.toNat (1 : Int))))) (Int.toNat (0 : Int)) (0 : Int)) (2 : Int) == (0 : Int) then bif strE (madeI b l (Int.toNat (1 : Int))) (1 : Int) == (1 : Int) then bif strE (madeI b l (Int.toNat (1 : Int))) (wrap i64 ((1 : Int) + wrap i64 k)) == (1 : Int) then bif !strB (madeI b l (Int.toNat (1 : Int))) (1 : Int) then (!strB (madeI b l (Int.toNat (1 : Int))) (wrap i64 ((1 : Int) + wrap i64 k))) = true else false = true else false = true else false = true else ((0 : Int) ≤ (0 : Int) ∧ (0 : Int) < (↑(List.length (limbs (Int.natAbs (madeI b l (Int.toNat (1 : Int)))))) : Int)) ∧ ((32 : Nat) * Int.toNat (1 : Int) ≤ (128 : Nat) ∧ (-9223372036854775808 : Int) ≤ wrap i64 (wrap i64 ((1 : Int) + wrap i64 k) + wrap i64 (List.getD (limbs (Int.natAbs (madeI b l (Int.toNat (1 : Int))))) (Int.toNat (0 : Int)) (0 : Int))) ∧ wrap i64 (wrap i64 ((1 : Int) + wrap i64 k) + wrap i64 (List.getD (limbs (Int.natAbs (madeI b l (Int.toNat (1 : Int))))) (Int.toNat (0 : Int)) (0 : Int))) ≤ (9223372036854775807 : Int)) ∧ ((32 : Nat) * Int.toNat (1 : Int) ≤ (128 : Nat) ∧ (-9223372036854775808 : Int) ≤ wrap i64 (List.getD (limbs (Int.natAbs (madeI b l (Int.toNat (1 : Int))))) (Int.toNat (0 : Int)) (0 : Int)) ∧ wrap i64 (List.getD (limbs (Int.natAbs (madeI b l (Int.toNat (1 : Int))))) (Int.toNat (0 : Int)) (0 : Int)) ≤ (9223372036854775807 : Int)) ∧ (wrap i64 (List.getD (limbs (Int.natAbs (madeI b l (Int.toNat (1 : Int))))) (Int.toNat (0 : Int)) (0 : Int)) = (0 : Int) → False) ∧ (wrap i64 (List.getD (limbs (Int.natAbs (madeI b l (Int.toNat (1 : Int))))) (Int.toNat (0 : Int)) (0 : Int)) = (0 : Int) → False) ∧ ((32 : Nat) * Int.toNat (1 : Int) ≤ (128 : Nat) ∧ (-9223372036854775808 : Int) ≤ wrap i64 (wrap i64 (wrap i64 (List.getD (limbs (Int.natAbs (madeI b l (Int.toNat (1 : Int))))) (Int.toNat (0 : Int)) (0 : Int)) * wrap i64 (wrap i64 (Int.tdiv (wrap i64 ((1 : Int) + wrap i64 k)) (wrap i64 (List.getD (limbs (Int.natAbs (madeI b l (Int.toNat (1 : Int))))) (Int.toNat (0 : Int)) (0 : Int)))) + (1 : Int))) - Int.tmod (wrap i64 ((1 : Int) + wrap i64 k)) (wrap i64 (List.getD (limbs (Int.natAbs (madeI b l (Int.toNat (1 : Int))))) (Int.toNat (0 : Int)) (0 : Int)))) ∧ wrap i64 (wrap i64 (wrap i64 (List.getD (limbs (Int.natAbs (madeI b l (Int.toNat (1 : Int))))) (Int.toNat (0 : Int)) (0 : Int)) * wrap i64 (wrap i64 (Int.tdiv (wrap i64 ((1 : Int) + wrap i64 k)) (wrap i64 (List.getD (limbs (Int.natAbs (madeI b l (Int.toNat (1 : Int))))) (Int.toNat (0 : Int)) (0 : Int)))) + (1 : Int))) - Int.tmod (wrap i64 ((1 : Int) + wrap i64 k)) (wrap i64 (List.getD (limbs (Int.natAbs (madeI b l (Int.toNat (1 : Int))))) (Int.toNat (0 : Int)) (0 : Int)))) ≤ (9223372036854775807 : Int)) ∧ bif strE (madeI b l (Int.toNat (1 : Int))) (1 : Int) == (0 : Int) then bif strE (madeI b l (Int.toNat (1 : Int))) (wrap i64 ((1 : Int) + wrap i64 k)) == (0 : Int) then bif strE (madeI b l (Int.toNat (1 : Int))) (wrap i64 (wrap i64 ((1 : Int) + wrap i64 k) + wrap i64 (List.getD (limbs (Int.natAbs (madeI b l (Int.toNat (1 : Int))))) (Int.toNat (0 : Int)) (0 : Int)))) == (0 : Int) then bif strE (madeI b l (Int.toNat (1 : Int))) (wrap i64 (List.getD (limbs (Int.natAbs (madeI b l (Int.toNat (1 : Int))))) (Int.toNat (0 : Int)) (0 : Int))) == (0 : Int) then bif strE (madeI b l (Int.toNat (1 : Int))) (wrap i64 (wrap i64 (wrap i64 (List.getD (limbs (Int.natAbs (madeI b l (Int.toNat (1 : Int))))) (Int.toNat (0 : Int)) (0 : Int)) * wrap i64 (wrap i64 (Int.tdiv (wrap i64 ((1 : Int) + wrap i64 k)) (wrap i64 (List.getD (limbs (Int.natAbs (madeI b l (Int.toNat (1 : Int))))) (Int.toNat (0 : Int)) (0 : Int)))) + (1 : Int))) - Int.tmod (wrap i64 ((1 : Int) + wrap i64 k)) (wrap i64 (List.getD (limbs (Int.natAbs (madeI b l (Int.toNat (1 : Int))))) (Int.toNat (0 : Int)) (0 : Int))))) == (0 : Int) then bif strB (madeI b l (Int.toNat (1 : Int))) (1 : Int) then bif strB (madeI b l (Int.toNat (1 : Int))) (wrap i64 ((1 : Int) + wrap i64 k)) == strB (madeI b l (Int.toNat (1 : Int))) (wrap i64 (wrap i64 ((1 : Int) + wrap i64 k) + wrap i64 (List.getD (limbs (Int.natAbs (madeI b l (Int.toNat (1 : Int))))) (Int.toNat (0 : Int)) (0 : Int)))) then bif strB (madeI b l (Int.toNat (1 : Int))) (wrap i64 (List.getD (limbs (Int.natAbs (madeI b l (Int.toNat (1 : Int))))) (Int.toNat (0 : Int)) (0 : Int))) then (strB (madeI b l (Int.toNat (1 : Int))) (wrap i64 (wrap i64 (wrap i64 (List.getD (limbs (Int.natAbs (madeI b l (Int.toNat (1 : Int))))) (Int.toNat (0 : Int)) (0 : Int)) * wrap i64 (wrap i64 (Int.tdiv (wrap i64 ((1 : Int) + wrap i64 k)) (wrap i64 (List.getD (limbs (Int.natAbs (madeI b l (Int.toNat (1 : Int))))) (Int.toNat (0 : Int)) (0 : Int)))) + (1 : Int))) - Int.tmod (wrap i64 ((1 : Int) + wrap i64 k)) (wrap i64 (List.getD (limbs (Int.natAbs (madeI b l (Int.toNat (1 : Int))))) (Int.toNat (0 : Int)) (0 : Int))))) == strB (madeI b l (Int.toNat (1 : Int))) (wrap i64 ((1 : Int) + wrap i64 k))) = true else false = true else false = true else false = true else false = true else false = true else false = true else false = true else false = true) = evFn (env [c_lex4, c_rMade, c_rof, c_rcmp, c_pstr] noAnn) Tryd.f5 [.st [.bool b, .ws l], .int .u16 k] (MRes.sat (.ret (.bool true))) := by kernel_rfl
/-! ### The walk -/
theorem strE1 {z b : Int} (h : ¬ (2 < z ∧ z % 2 = 1)) : (strE z b == 1) = true := by
 unfold strE
 rw [if_neg fun q => h ⟨q.1, q.2.1⟩]; rfl
theorem strE0 {z b : Int} (h : 2 < z) (h1 : z % 2 = 1) (hb : 1 ≤ b) : (strE z b == 0) = true := by
 unfold strE
 rw [if_pos ⟨h, h1, hb⟩]; rfl
theorem strB0 {z b : Int} (h : ¬ (2 < z ∧ z % 2 = 1)) : (!strB z b) = true := by
 unfold strB
 rw [if_neg fun q => h ⟨q.1, q.2.1⟩]; rfl
theorem strB1 {z b : Int} (h : 2 < z) (h1 : z % 2 = 1) (hb : 1 ≤ b) : strB z b = strongN z.toNat b.toNat := if_pos ⟨h, h1, hb⟩
theorem madeI_abs {b : Bool} {l : List Int} (h : Wd l) : (madeI b l 1).natAbs < 4294967296 := by
 have hw : Wd (l.take 1) := fun x hx => h x (List.mem_of_mem_take hx)
 have h0 := wv_nonneg hw
 have h1 := wv_lt hw
 have hl : (l.take 1).length ≤ 1 := by rw [List.length_take]; omega
 have h2 : (4294967296 : Int) ^ (l.take 1).length ≤ 4294967296 := by
  rcases Nat.lt_or_ge (l.take 1).length 1 with q | q
  ·rw [show (l.take 1).length = 0 by omega]; decide
  ·rw [show (l.take 1).length = 1 by omega]; decide
 unfold madeI sg
 cases b with
 | true => rw [cond_true]; omega
 | false => rw [cond_false]; omega
def s_p4b : FSpec
 | [.st [.bool _, .ws l], .int .u16 k] => some (some ((Wd l ∧ l.length < 9223372036854775808) ∧ 0 ≤ k ∧ k ≤ 65535), .ret (.bool true))
 | _ => none
theorem p_p4b : Good Tryd.f5 s_p4b := by
 intro ms p r h hp
 unfold s_p4b at h
 split at h
 ·rename_i b l k
  simp only [Option.some.injEq, Prod.mk.injEq] at h
  obtain ⟨rfl, rfl⟩ := h
  obtain ⟨⟨h1, h2⟩, h3, h4⟩ : (Wd l ∧ l.length < 9223372036854775808) ∧ 0 ≤ k ∧ k ≤ 65535 := hp
  refine ⟨env [c_lex4, c_rMade, c_rof, c_rcmp, c_pstr] noAnn, ?_⟩
  rw [← vc_p4b b l k]
  have hz : (madeI b l (Int.toNat 1)).natAbs < 4294967296 := madeI_abs h1
  generalize madeI b l (Int.toNat 1) = z at *
  have w1 : wrap .i64 (1 + wrap .i64 k) = 1 + k := by
   rw [IntWalk.i64_in k ⟨by omega, by omega⟩, IntWalk.i64_in (1 + k) ⟨by omega, by omega⟩]
  rw [w1]
  refine ⟨⟨h1, by omega, by omega, h2⟩, ⟨by decide, by omega, by omega⟩, ⟨by decide, by omega, by omega⟩, by omega, by decide, ?_⟩
  by_cases hz2 : z ≤ 2
  ·have hn : ¬ (2 < z ∧ z % 2 = 1) := by omega
   refine condT (decide_eq_true (by have := @icmp_pos z 2; omega)) ?_
   exact condT (strE1 hn) (condT (strE1 hn) (condT (strB0 hn) (strB0 hn)))
  ·have hl : (limbs z.natAbs).getD (Int.toNat 0) 0 = z := by rw [limb0]; omega
   refine condF (decide_eq_false (by have := @icmp_pos z 2; omega)) ?_
   rw [hl]
   have w2 : wrap .i64 z = z := IntWalk.i64_in z ⟨by omega, by omega⟩
   have w3 : wrap .i64 (1 + k + z) = 1 + k + z := IntWalk.i64_in _ ⟨by omega, by omega⟩
   rw [w2, w3]
   have hd0 : 0 ≤ (1 + k) / z := Int.ediv_nonneg (by omega) (by omega)
   have hd1 : (1 + k) / z ≤ 65536 := Int.le_trans (Int.ediv_le_self z (by omega)) (by omega)
   have hm0 := Int.emod_nonneg (1 + k) (show z ≠ 0 by omega)
   have hm1 := Int.emod_lt_of_pos (1 + k) (show 0 < z by omega)
   have hdm := Int.mul_ediv_add_emod (1 + k) z
   rw [Int.tdiv_eq_ediv_of_nonneg (show 0 ≤ 1 + k by omega), Int.tmod_eq_emod_of_nonneg (show 0 ≤ 1 + k by omega)]
   have w4 : wrap .i64 ((1 + k) / z) = (1 + k) / z := IntWalk.i64_in _ ⟨by omega, by omega⟩
   rw [w4]
   have w5 : wrap .i64 ((1 + k) / z + 1) = (1 + k) / z + 1 := IntWalk.i64_in _ ⟨by omega, by omega⟩
   rw [w5]
   have hmz : z * ((1 + k) / z + 1) = z * ((1 + k) / z) + z := by rw [Int.mul_add, Int.mul_one]
   have w6 : wrap .i64 (z * ((1 + k) / z + 1)) = z * ((1 + k) / z + 1) := IntWalk.i64_in _ ⟨by rw [hmz]; omega, by rw [hmz]; omega⟩
   rw [w6]
   have w7 : wrap .i64 (z * ((1 + k) / z + 1) - (1 + k) % z) = z * ((1 + k) / z + 1) - (1 + k) % z := IntWalk.i64_in _ ⟨by rw [hmz]; omega, by rw [hmz]; omega⟩
   rw [w7]
   generalize hq : (1 + k) / z = q at *
   generalize hr : (1 + k) % z = r at *
   rw [hmz]
   have hP0 : 0 ≤ z * q := Int.mul_nonneg (by omega) hd0
   generalize hP : z * q = P at *
   refine ⟨⟨by omega, limbs_ne (by omega)⟩, by omega, ?_⟩
   by_cases hz : z % 2 = 1
   ·refine condF (beqI0 (by rw [Int.tmod_eq_emod_of_nonneg (by omega)]; omega)) ?_
    have h2z : 2 < z := by omega
    have hl0 : 0 < z.natAbs := by omega
    refine ⟨⟨by omega, limbs_ne (by omega)⟩, ⟨by decide, by omega, by omega⟩, ⟨by decide, by omega, by omega⟩, by omega, by omega, ⟨by decide, by omega, by omega⟩, ?_⟩
    refine condT (strE0 h2z hz (by omega)) (condT (strE0 h2z hz (by omega)) (condT (strE0 h2z hz (by omega)) (condT (strE0 h2z hz (by omega)) (condT (strE0 h2z hz (by omega)) ?_))))
    rw [strB1 h2z hz (show 1 ≤ (1 : Int) by omega), strB1 h2z hz (show 1 ≤ 1 + k by omega), strB1 h2z hz (show 1 ≤ 1 + k + z by omega), strB1 h2z hz (show 1 ≤ z by omega), strB1 h2z hz (show 1 ≤ P + z - r by omega)]
    obtain ⟨N, rfl⟩ := Int.eq_ofNat_of_zero_le (show 0 ≤ z by omega)
    obtain ⟨c, rfl⟩ := Int.eq_ofNat_of_zero_le (show 0 ≤ k by omega)
    have hN : N < 2 ^ 128 := Nat.lt_trans (show N < 4294967296 by omega) (by decide)
    have e1 : (((N : Nat) : Int)).toNat = N := rfl
    have e2 : (1 + (c : Int)).toNat = 1 + c := by omega
    have e3 : (1 + (c : Int) + (N : Int)).toNat = 1 + c + N := by omega
    rw [e1, e2, e3]
    refine condT (strongN_one (by omega) hN) (condT ?_ (condT (strongN_zero (Nat.mod_self N)) ?_))
    ·rw [beq_iff_eq, ← strongN_mod N (1 + c), ← strongN_mod N (1 + c + N), Nat.add_mod_right]
    ·rw [beq_iff_eq]
     obtain ⟨Q, rfl⟩ := Int.eq_ofNat_of_zero_le hd0
     obtain ⟨R, rfl⟩ := Int.eq_ofNat_of_zero_le hm0
     have hPn : P = ((N * Q : Nat) : Int) := by rw [← hP]; simp
     have hR : (1 + c) % N = R := by
      have : (((1 + c) % N : Nat) : Int) = (R : Int) := by rw [← hr]; simp
      omega
     have e4 : (P + (N : Int) - (R : Int)).toNat = (N - R) + N * Q := by
      generalize N * Q = T at *
      omega
     rw [e4, ← strongN_mod N ((N - R) + N * Q), Nat.add_mul_mod_self_left, strongN_mod, ← strongN_mod N (1 + c), hR]
     rcases Nat.eq_zero_or_pos R with hR0 | hR0
     ·rw [hR0, strongN_zero (b := N - 0) (by simp), strongN_zero (b := 0) (Nat.zero_mod N)]
     ·exact strongN_neg (by omega) (by omega) hN hR0 (by omega)
   ·refine condT ?_ ?_
    ·rw [Int.tmod_eq_emod_of_nonneg (by omega), beq_iff_eq]; omega
    ·have hn : ¬ (2 < z ∧ z % 2 = 1) := by omega
     exact condT (strE1 hn) (condT (strE1 hn) (condT (strB0 hn) (strB0 hn)))
 ·simp at h
noncomputable def c_p4b : Ctr Tryd.prog := ⟨5, s_p4b, fun args w => Tryd.call5 args w, fn_ok mix Tryd.func5 s_p4b p_p4b⟩
end Go.Proofs.YtmjklcpdfmgcaaaDoor
/-
 PrimeBases: one is a strong probable prime's witness of nothing; a base, the base more by the number, and its opposite answer alike, whatever the number and the base are.
-/
namespace Go.Proofs.YtmjklcpdfmgcaaaDoor
open Go Go.ChangeShapes Go.WideShapes Go.ChangeAt Go.RowKit
open Go.IntKind (wrap i64 i32 i16 i8 u64 u32 u16 u8)
def tysPrimeBases : List Nat := [24, 4, 22, 44, 40]
theorem tysPrimeBases_ok : tysPrimeBases.all (subOk Tryd.prog tysPrimeBases) = true := by kernel_rfl
theorem parPrimeBases1 : Tryd.f5.params[1]? = some 40 := by rw [Tryd.params5]; rfl
set_option maxRecDepth 100000 in
theorem primeBases_contract (H : Type) (enc : TypeId × Value → H) (W : World) (base : Nat) (args : Array Value) (ds gs : List (DataW H)) (before : List MemPlace) (hG : GW noS W)
  (hval : ∀ (j : Nat) t v, Tryd.f5.params[j]? = some t → args[j]? = some v → Value.okWide Tryd.prog W .any base t v)
  (hW : DataW.Whole enc Tryd.prog Tryd.f5.params.toList Rows.primeBasesSpec.vars Rows.primeBasesRow.apart W args.toList ds gs before) :
  Calls Tryd.prog 5 args W fun e W' => ∃ v, e = .returned v ∧ Rows.primeBasesSpec.post enc Tryd.prog Tryd.f5 Rows.primeBasesRow.apart Rows.primeBasesRow.fresh Rows.primeBasesRow.handsOn Rows.primeBasesRow.again W args v W' := by
 have hW' := hW
 obtain ⟨p, q, hA, hV, rfl, hfz, hnd⟩ := hW
 rw [Tryd.params5] at hA
 obtain ⟨v0, v1, d0, d1, p0, p1, rfl, rfl, rfl, h0, h1⟩ := trodAll_two hA
 obtain ⟨rfl, rfl⟩ := trodVars_none hV
 obtain ⟨b0, l0, r0, w0⟩ := rep_raw h0
 obtain ⟨z1, rfl, _, _, hw1⟩ := open_int Tryd.underlying40 (ok_at hval parPrimeBases1 rfl) h1
 have r1 : Rep1 (Ctx.args noS) W (.int .u16 z1) (.int .u16 z1) := rfl
 have w1 := u16_wf hw1
 refine law_calls c_p4b rfl rfl tysPrimeBases_ok (by rw [Tryd.params5]; decide) hW' hG ⟨[rawM b0 l0, .int .u16 z1], _, rfl, ⟨w0, w1⟩, _, _, rfl, r0, _, _, rfl, r1, rfl⟩ rfl
set_option maxHeartbeats 1600000 in
set_option maxRecDepth 100000 in
theorem primeBases_lifted (os : Os) (started : os.Started) (H : Type) (enc : TypeId × Value → H) :
  ReturnsInHanded {} Tryd.checked os 5 .any (fun w args => (Rows.primeBasesSpec.pre enc Tryd.prog Tryd.f5 [] false w args ∧ laidMetH Tryd.prog laid1 w) ∧ sizedMet enc Tryd.prog Tryd.f5 (OpenSpec.ofChange Rows.primeBasesSpec) false w args)
   (Rows.primeBasesSpec.post enc Tryd.prog Tryd.f5 false true false false) := by
 refine returnsInHanded_of_change_and (C := Tryd.checked) (X := fun w _ => laidMetH Tryd.prog laid1 w) (fun _ _ _ hh h => h.of_heap hh) own started (by kernel_rfl) Tryd.func5
  (ChangeSpec.witness_shaped (enc := enc) (C := Tryd.checked) (os := os) (X := fun w _ => laidMetH Tryd.prog laid1 w) false (World.doorLaid Tryd.prog 400 os) #[.agg #[.bool false, .slice none 0 0], .int .u16 0] 8 rfl (World.shaped_of_RefB (by kernel_rfl) (by kernel_rfl)) (by kernel_rfl) (by kernel_rfl) (by kernel_rfl) (door_met os _)) ?_
 intro W base args ds gs before hval0 hW _ _ hL _
 exact primeBases_contract H enc W base args ds gs before (gw_of_laid hL) hval0 hW
theorem primeBases_over : Rows.PrimeBasesSaid :=
 OpenClaim.holds_of_wide 5 Tryd.f5 rfl rfl rfl rfl rfl rfl rfl ⟨rfl, rfl, rfl, rfl, rfl⟩ rfl rfl rfl rfl rfl (by kernel_rfl) Tryd.func5 (by kernel_rfl)
  (of_decide_eq_true (by kernel_rfl)) (by unfold Func.isWrapper; first | (rw [if_pos (by decide +kernel)]; kernel_rfl) | (rw [if_neg (by decide +kernel)]; exact ⟨rfl, rfl⟩))
  (fun os started H enc _ => primeBases_lifted os started H enc)
theorem primeBases_holds : Rows.PrimeBasesCardSaid :=
 Claim7.holds_tied_plain_at .later [] [.data] true (true, Rows.primeBasesCard.stood.harness.2) false
  primeBases_over (fun _ h => by cases h) (by kernel_rfl) (fun _ h => by cases h) primeBases_row_tie rfl ⟨rfl, rfl⟩ (by kernel_rfl) rfl
  (fun f fn hf hfn => by
   obtain rfl : f = 5 := Option.some.inj ((show Tryd.prog.funcNamed "algorist/algoristlaw04.PrimeBases" = some 5 by kernel_rfl).symm.trans hf) |>.symm
   obtain rfl : fn = Tryd.f5 := (Option.some.inj (Tryd.func5.symm.trans hfn)).symm
   exact ⟨by kernel_rfl, fun j t ht => by
    rw [Tryd.params5] at ht
    have hm : t ∈ [24, 40] := by simpa using Array.mem_of_getElem? ht
    have hall : ([24, 40].all fun u => !Tryd.prog.wantsStandIn u) = true := by kernel_rfl
    exact (show Tryd.prog.wantsStandIn t = false by simpa using List.all_eq_true.1 hall t hm)⟩)
  (by kernel_rfl)
end Go.Proofs.YtmjklcpdfmgcaaaDoor
