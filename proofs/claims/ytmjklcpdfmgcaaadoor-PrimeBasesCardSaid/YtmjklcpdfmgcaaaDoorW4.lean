/-
  Contracts of functions: prime.long, Strong, Witness; algoristref04.Power, Strong, Witness.
-/
import Derived.Test.YtmjklcpdfmgcaaaDoorW3
import Derived.Test.YtmjklcpdfmgcaaaDoorW2
import Derived.RangeFuncNested
import Derived.RangeFuncLeaves
import Derived.Sort.LoopGhostIn
import Derived.OrdersIn
import Derived.Maps.Keyed
import Derived.WideKeyArr

/-
 Contracts of functions: the reference of layer 1: division of sizes.
-/
namespace Go.Proofs.YtmjklcpdfmgcaaaDoor
open Go Go.RowKit
open Go.IntKind (wrap i64 i32 i16 i8 u64 u32 u16 u8)
structure RdS where
 k : Nat
 r : List Int
 q : List Int
 d : List Int
structure RdI (a b : List Int) (n : Nat) (s : RdS) : Prop where
 hk : s.k ≤ n + 1
 lr : s.r.length = a.length
 lq : s.q.length = n / 32 + 1
 ld : s.d.length = n / 32 + b.length + 1
 wr : Wd s.r
 wq : Wd s.q
 wd : Wd s.d
 dv : wv s.d = wv b * 2 ^ s.k / 2
 sum : wv a = wv s.q * wv b + wv s.r
 lt : wv s.r < wv b * 2 ^ s.k
 qz : (2 ^ s.k : Int) ∣ wv s.q
theorem pow_split (i : Nat) : (2 : Int) ^ i = 4294967296 ^ (i / 32) * 2 ^ (i % 32) := by
 rw [show (4294967296 : Int) = 2 ^ 32 from rfl, ← Int.pow_mul, ← Int.pow_add]; congr 1; omega
theorem RdI.init {a b : List Int} (ha : Cn a) (hb : Cn b) (hne : b ≠ []) {n : Nat} (hn : bl (wv a).toNat = bl (wv b).toNat + n) :
  RdI a b n ⟨n + 1, a, List.replicate (n / 32 + 1) 0, digs (n / 32 + b.length + 1) (wv b * 2 ^ n)⟩ := by
 have hap := ha.pos
 have hbp : 0 < wv b := by have := hb.top hne; have := pow_pos32 (b.length - 1); omega
 have hP : (0 : Int) < 2 ^ n := Int.pow_pos (by omega)
 have hd : wv (digs (n / 32 + b.length + 1) (wv b * 2 ^ n)) = wv b * 2 ^ n := by
  refine wv_digs _ _ (Int.mul_nonneg (by omega) (by omega)) ?_
  have h1 := wv_lt hb.wd
  have h2 : (2 : Int) ^ (n % 32) < 4294967296 := by
   have := Nat.pow_lt_pow_right (show 1 < 2 by omega) (Nat.mod_lt n (show 0 < 32 by omega))
   rw [← cast_pow2]; omega
  have h3 : (0 : Int) < 2 ^ (n % 32) := Int.pow_pos (by omega)
  have h4 : (4294967296 : Int) ^ (n / 32 + b.length + 1) = 4294967296 ^ (n / 32) * (4294967296 ^ b.length * 4294967296) := by rw [Int.pow_add, Int.pow_add]; simp [Int.mul_assoc]
  have h5 : wv b * 2 ^ (n % 32) < 4294967296 ^ b.length * 4294967296 := Int.mul_lt_mul h1 (by omega) h3 (by have := pow_pos32 b.length; omega)
  rw [h4, pow_split n, ← Int.mul_assoc, Int.mul_comm (wv b), Int.mul_assoc]
  exact Int.mul_lt_mul_of_pos_left h5 (pow_pos32 _)
 refine ⟨Nat.le_refl _, rfl, by simp, digs_len _ _, ha.wd, Wd.replicate _, digs_wd _ _, ?_, ?_, ?_, ?_⟩
 ·show wv (digs _ _) = wv b * 2 ^ (n + 1) / 2
  rw [hd, Int.pow_succ, ← Int.mul_assoc, Int.mul_ediv_cancel _ (by omega)]
 ·show wv a = wv (List.replicate _ 0) * _ + wv a
  rw [wv_replicate, Int.zero_mul]; omega
 ·show wv a < wv b * 2 ^ (n + 1)
  obtain ⟨A, hA⟩ := Int.eq_ofNat_of_zero_le hap
  obtain ⟨B, hB⟩ := Int.eq_ofNat_of_zero_le (show 0 ≤ wv b by omega)
  rw [hA, hB, Int.toNat_natCast, Int.toNat_natCast] at hn
  have h1 := bl_lt A
  have hB0 : B ≠ 0 := by omega
  have h2 := bl_le hB0
  have hbl : bl B ≠ 0 := by intro e; have := bl_lt B; rw [e] at this; omega
  have h3 : 2 ^ bl A = 2 ^ (bl B - 1) * 2 ^ (n + 1) := by rw [← Nat.pow_add]; congr 1; omega
  have h4 : 2 ^ (bl B - 1) * 2 ^ (n + 1) ≤ B * 2 ^ (n + 1) := Nat.mul_le_mul_right _ h2
  rw [hA, hB, ← cast_pow2, ← Int.natCast_mul]
  omega
 ·show _ ∣ wv (List.replicate _ 0)
  rw [wv_replicate]; exact Int.dvd_zero _
theorem RdI.digit {a b : List Int} {n : Nat} {s : RdS} (h : RdI a b n s) {i : Nat} (hi : s.k = i + 1) :
  (s.q.getD (i / 32) 0).toNat % 2 ^ (i % 32 + 1) = 0 ∧ s.q.getD (i / 32) 0 + 2 ^ (i % 32) < 4294967296 := by
 have hq := h.qz
 rw [hi] at hq
 have hw := h.wq.getD (i / 32)
 have h1 := wv_take_drop s.q (i / 32)
 rw [getD_drop_wv] at h1
 have h2 := wv_take_lt h.wq (i / 32)
 have hp := pow_pos32 (i / 32)
 have hc : (2 : Int) ^ (i + 1) = 4294967296 ^ (i / 32) * 2 ^ (i % 32 + 1) := by rw [Int.pow_succ, pow_split i, Int.pow_succ]; grind
 obtain ⟨k, hk⟩ := hq
 rw [hc] at hk
 have hz : wv (s.q.take (i / 32)) = 0 := by
  have e : wv (s.q.take (i / 32)) = 4294967296 ^ (i / 32) * (2 ^ (i % 32 + 1) * k - (s.q.getD (i / 32) 0 + 4294967296 * wv (s.q.drop (i / 32 + 1)))) := by
   rw [Int.mul_sub, ← Int.mul_assoc]; omega
  have d : (4294967296 : Int) ^ (i / 32) ∣ wv (s.q.take (i / 32)) := ⟨_, e⟩
  rw [← Int.emod_eq_of_lt h2.1 h2.2]; exact Int.emod_eq_zero_of_dvd d
 rw [hz, Int.zero_add] at h1
 have h3 : s.q.getD (i / 32) 0 + 4294967296 * wv (s.q.drop (i / 32 + 1)) = 2 ^ (i % 32 + 1) * k := by
  refine Int.eq_of_mul_eq_mul_left (show (4294967296 : Int) ^ (i / 32) ≠ 0 by omega) ?_
  rw [← h1, hk, Int.mul_assoc]
 have hm : i % 32 + 1 + (31 - i % 32) = 32 := by omega
 have h4 : (4294967296 : Int) = 2 ^ (i % 32 + 1) * 2 ^ (31 - i % 32) := by rw [← Int.pow_add, hm]; rfl
 have hP : (0 : Int) < 2 ^ (i % 32 + 1) := Int.pow_pos (by omega)
 have hd : (2 : Int) ^ (i % 32 + 1) ∣ s.q.getD (i / 32) 0 := by
  refine ⟨k - 2 ^ (31 - i % 32) * wv (s.q.drop (i / 32 + 1)), ?_⟩
  rw [Int.mul_sub, ← Int.mul_assoc, ← h4]; omega
 obtain ⟨m, hm⟩ := hd
 have hm0 : 0 ≤ m := by
  rcases Int.lt_or_le m 0 with q | q
  ·have := Int.mul_lt_mul_of_pos_left q hP
   omega
  ·exact q
 have hP1 : (2 : Int) ^ (i % 32 + 1) = 2 ^ (i % 32) * 2 := Int.pow_succ ..
 refine ⟨?_, ?_⟩
 ·obtain ⟨M, rfl⟩ := Int.eq_ofNat_of_zero_le hm0
  rw [hm, ← cast_pow2, ← Int.natCast_mul, Int.toNat_natCast, Nat.mul_mod_right]
 ·have hlt : m < 2 ^ (31 - i % 32) := by
   refine mul_lt_cancel hP ?_
   rw [← hm, ← h4]; exact hw.2
  have h5 : (2 : Int) ^ (i % 32 + 1) * (m + 1) ≤ 2 ^ (i % 32 + 1) * 2 ^ (31 - i % 32) := Int.mul_le_mul_of_nonneg_left (by omega) (by omega)
  rw [← h4, Int.mul_add, Int.mul_one, ← hm] at h5
  have h6 : (0 : Int) < 2 ^ (i % 32) := Int.pow_pos (by omega)
  omega
theorem RdI.dval {a b : List Int} {n : Nat} {s : RdS} (h : RdI a b n s) {i : Nat} (hi : s.k = i + 1) : wv s.d = wv b * 2 ^ i := by
 rw [h.dv, hi, Int.pow_succ, ← Int.mul_assoc, Int.mul_ediv_cancel _ (by omega)]
theorem wv_half_digs {l : List Int} (h : Wd l) : wv (digs l.length (wv l / 2)) = wv l / 2 := by
 have h0 := wv_nonneg h
 have h1 := wv_lt h
 exact wv_digs _ _ (by omega) (by omega)
theorem RdI.skip {a b : List Int} {n : Nat} {s : RdS} (h : RdI a b n s) {i : Nat} (hi : s.k = i + 1) (hc : ¬ wv s.d ≤ wv s.r) : RdI a b n ⟨i, s.r, s.q, digs s.d.length (wv s.d / 2)⟩ := by
 have hd := h.dval hi
 refine ⟨by show i ≤ n + 1; have := h.hk; omega, h.lr, h.lq, by simp [digs_len, h.ld], h.wr, h.wq, digs_wd _ _, ?_, h.sum, ?_, ?_⟩
 ·show wv (digs _ _) = _
  rw [wv_half_digs h.wd, hd]
 ·show wv s.r < wv b * 2 ^ i
  rw [hd] at hc; omega
 ·have := h.qz
  rw [hi, Int.pow_succ] at this
  exact Int.dvd_trans (Int.dvd_mul_right _ _) this
theorem RdI.take {a b : List Int} {n : Nat} {s : RdS} (h : RdI a b n s) {i : Nat} (hi : s.k = i + 1) (hc : wv s.d ≤ wv s.r) :
  RdI a b n ⟨i, digs s.r.length (wv s.r - wv s.d), s.q.set (i / 32) (s.q.getD (i / 32) 0 + 2 ^ (i % 32)), digs s.d.length (wv s.d / 2)⟩ := by
 have hd := h.dval hi
 have hk := h.hk
 have hg := h.digit hi
 have hw := h.wq.getD (i / 32)
 have hP : (0 : Int) < 2 ^ (i % 32) := Int.pow_pos (by omega)
 have hr : wv (digs s.r.length (wv s.r - wv s.d)) = wv s.r - wv s.d := by
  have h0 := wv_nonneg h.wd
  have h1 := wv_lt h.wr
  exact wv_digs _ _ (by omega) (by omega)
 have hq : wv (s.q.set (i / 32) (s.q.getD (i / 32) 0 + 2 ^ (i % 32))) = wv s.q + 2 ^ i := by
  rw [wv_set _ _ _ (by rw [h.lq]; omega), pow_split i]
  congr 2; omega
 refine ⟨by show i ≤ n + 1; omega, by simp [digs_len, h.lr], by simp [h.lq], by simp [digs_len, h.ld], digs_wd _ _, h.wq.set _ ⟨by omega, hg.2⟩, digs_wd _ _, ?_, ?_, ?_, ?_⟩
 ·show wv (digs _ _) = _
  rw [wv_half_digs h.wd, hd]
 ·show wv a = wv (s.q.set _ _) * wv b + wv (digs _ _)
  rw [hq, hr, hd, h.sum, Int.add_mul, Int.mul_comm (wv b)]; omega
 ·show wv (digs _ _) < wv b * 2 ^ i
  rw [hr, hd]
  have := h.lt
  rw [hi, Int.pow_succ, ← Int.mul_assoc] at this
  omega
 ·show _ ∣ wv (s.q.set _ _)
  rw [hq]
  have := h.qz
  rw [hi, Int.pow_succ] at this
  exact Int.dvd_add (Int.dvd_trans (Int.dvd_mul_right _ _) this) (Int.dvd_refl _)
theorem RdI.fin {a b : List Int} (hb : 0 < wv b) {n : Nat} {s : RdS} (h : RdI a b n s) (hk : s.k = 0) : wv s.q = wv a / wv b ∧ wv s.r = wv a % wv b := by
 have h1 := h.lt
 rw [hk, Int.pow_zero, Int.mul_one] at h1
 have h2 := h.sum
 have h3 := wv_nonneg h.wr
 have := divmod_unique (a := wv a) (b := wv b) (q := wv s.q) (r := wv s.r) (by rw [Int.mul_comm]; omega) h3 (by omega)
 exact ⟨this.1.symm, this.2.symm⟩
end Go.Proofs.YtmjklcpdfmgcaaaDoor
/-
 Contracts of functions: the reference of layer 1: division, common divisors.
-/
namespace Go.Proofs.YtmjklcpdfmgcaaaDoor
open Go Go.RowKit
open Go.IntKind (wrap i64 i32 i16 i8 u64 u32 u16 u8)
end Go.Proofs.YtmjklcpdfmgcaaaDoor
/-
 Contracts of functions: the reference: common divisors; primes.
-/
namespace Go.Proofs.YtmjklcpdfmgcaaaDoor
open Go Go.RowKit
open Go.IntKind (wrap i64 i32 i16 i8 u64 u32 u16 u8)
end Go.Proofs.YtmjklcpdfmgcaaaDoor
/-
 Contracts of functions: numbers of 64 bits; package modular.
-/
namespace Go.Proofs.YtmjklcpdfmgcaaaDoor
open Go Go.RowKit
open Go.IntKind (wrap i64 i32 i16 i8 u64 u32 u16 u8)
end Go.Proofs.YtmjklcpdfmgcaaaDoor
/-
 Contracts of functions: the reference's Made.
-/
namespace Go.Proofs.YtmjklcpdfmgcaaaDoor
open Go Go.RowKit
open Go.IntKind (wrap i64 i32 i16 i8 u64 u32 u16 u8)
abbrev rawM (b : Bool) (l : List Int) : MV := .st [.bool b, .ws l]
def madeI (b : Bool) (l : List Int) (k : Nat) : Int := sg b (wv (l.take k))
def s_rMade : FSpec
 | [.st [.bool b, .ws l], .int .i64 k] => some (some (Wd l ∧ 0 ≤ k ∧ k ≤ 1000 ∧ l.length < 9223372036854775808), .ret (.big (madeI b l k.toNat) (32 * k.toNat)))
 | _ => none
theorem vc_rMade (b : Bool) (l : List Int) (k : Int) : (((0 : Int) ≤ minI (↑(List.length l) : Int) k ∧ minI (↑(List.length l) : Int) k ≤ (↑(List.length l) : Int)) ∧ News.len (News.ints u32 (List.take (Int.toNat (minI (↑(List.length l) : Int) k)) l)) * (4 : Nat) ≤ (140737488355328 : Nat) ∧ ((∀ (x : Int), x ∈ List.take (Int.toNat (minI (↑(List.length l) : Int) k)) l → (0 : Int) ≤ x ∧ x < (4294967296 : Int)) ∧ List.length (List.take (Int.toNat (minI (↑(List.length l) : Int) k)) l) ≤ (1000000000 : Nat)) ∧ sg b (wv (List.take (Int.toNat (minI (↑(List.length l) : Int) k)) l)) = madeI b l (Int.toNat k) ∧ ((32 : Nat) * List.length (List.take (Int.toNat (minI (↑(List.length l) : Int) k)) l) ≤ (32 : Nat) * Int.toNat k ∨ Int.natAbs (sg b (wv (List.take (Int.toNat (minI (↑(List.length l) : Int) k)) l))) < (2 : Nat) ^ ((32 : Nat) * Int.toNat k))) = evFn (env [c_rmade] noAnn) Tryd.f15 [rawM b l, .int .i64 k] (MRes.sat (.ret (.big (madeI b l k.toNat) (32 * k.toNat)))) := by kernel_rfl
theorem p_rMade : Good Tryd.f15 s_rMade := by
 intro ms p r h hp
 unfold s_rMade at h
 split at h
 ·rename_i b l k
  simp only [Option.some.injEq, Prod.mk.injEq] at h
  obtain ⟨rfl, rfl⟩ := h
  obtain ⟨hw, h0, h1, h2⟩ : Wd l ∧ 0 ≤ k ∧ k ≤ 1000 ∧ l.length < 9223372036854775808 := hp
  refine ⟨env [c_rmade] noAnn, ?_⟩
  rw [← vc_rMade b l k]
  have hm : minI (l.length : Int) k = (min l.length k.toNat : Nat) := by unfold minI; split <;> omega
  have ht : l.take (minI (l.length : Int) k).toNat = l.take k.toNat := by
   rw [hm, Int.toNat_natCast]
   rcases Nat.le_total l.length k.toNat with h | h
   ·rw [Nat.min_eq_left h, List.take_of_length_le (Nat.le_refl _), List.take_of_length_le h]
   ·rw [Nat.min_eq_right h]
  have hl : (l.take k.toNat).length ≤ k.toNat := by rw [List.length_take]; exact Nat.min_le_left ..
  rw [ht]
  refine ⟨by rw [hm]; omega, ?_, ⟨hw.take _, by omega⟩, rfl, .inl (by omega)⟩
  show (l.take k.toNat).length * 4 ≤ 140737488355328
  omega
 ·simp at h
def c_rMade : Ctr Tryd.prog := ⟨15, s_rMade, fun args w => Tryd.call15 args w, fn_ok mix Tryd.func15 s_rMade p_rMade⟩
end Go.Proofs.YtmjklcpdfmgcaaaDoor
/-
 Contracts of functions: the reference's Sign, Cmp, Div, Bezout, Inv.
-/
namespace Go.Proofs.YtmjklcpdfmgcaaaDoor
open Go Go.RowKit
open Go.IntKind (wrap i64 i32 i16 i8 u64 u32 u16 u8)
theorem vc_rcmp (a b : Int) (n m : Nat) : (bif !decide (a < (0 : Int)) == decide (b < (0 : Int)) then bif decide (a < (0 : Int)) then (-1 : Int) = icmp a b else (1 : Int) = icmp a b else bif decide (a < (0 : Int)) then (limbs (Int.toNat (wv (limbs (Int.natAbs b)))) = limbs (Int.natAbs b) ∧ limbs (Int.toNat (wv (limbs (Int.natAbs a)))) = limbs (Int.natAbs a) ∧ List.length (limbs (Int.natAbs b)) ≤ (1099511627776 : Nat) ∧ List.length (limbs (Int.natAbs a)) ≤ (1099511627776 : Nat)) ∧ icmp (wv (limbs (Int.natAbs b))) (wv (limbs (Int.natAbs a))) = icmp a b else (limbs (Int.toNat (wv (limbs (Int.natAbs a)))) = limbs (Int.natAbs a) ∧ limbs (Int.toNat (wv (limbs (Int.natAbs b)))) = limbs (Int.natAbs b) ∧ List.length (limbs (Int.natAbs a)) ≤ (1099511627776 : Nat) ∧ List.length (limbs (Int.natAbs b)) ≤ (1099511627776 : Nat)) ∧ icmp (wv (limbs (Int.natAbs a))) (wv (limbs (Int.natAbs b))) = icmp a b) = evFn (env [c_rsize] noAnn) Tryd.f16 [.big a n, .big b m] (MRes.sat (.ret (.int .i64 (icmp a b)))) := by kernel_rfl
theorem p_rcmp : GoodF Tryd.f16 s_icmp := by
 intro ms p r h hp hf
 unfold s_icmp at h
 split at h
 ·rename_i a n b m
  simp only [Option.some.injEq, Prod.mk.injEq] at h
  obtain ⟨rfl, rfl⟩ := h
  obtain ⟨hn, hm⟩ : n ≤ 1000000 ∧ m ≤ 1000000 := hp
  have ha : a.natAbs < 2 ^ n := hf.1
  have hb : b.natAbs < 2 ^ m := hf.2.1
  have l1 := lim_len ha (by omega)
  have l2 := lim_len hb (by omega)
  refine ⟨env [c_rsize] noAnn, ?_⟩
  rw [← vc_rcmp a b n m, wvl, wvl, Int.toNat_natCast, Int.toNat_natCast]
  have e1 : ∀ {x y : Int}, (0 ≤ x → 0 ≤ y → icmp (x.natAbs : Int) (y.natAbs : Int) = icmp x y) ∧ (x < 0 → y < 0 → icmp (y.natAbs : Int) (x.natAbs : Int) = icmp x y) := by
   intro x y
   constructor
   ·intro h1 h2; unfold icmp; (repeat' split) <;> omega
   ·intro h1 h2; unfold icmp; (repeat' split) <;> omega
  rcases Int.lt_or_le a 0 with q1 | q1 <;> rcases Int.lt_or_le b 0 with q2 | q2
  ·rw [decide_eq_true q1, decide_eq_true q2]
   exact ⟨⟨rfl, rfl, by omega, by omega⟩, e1.2 q1 q2⟩
  ·rw [decide_eq_true q1, decide_eq_false (show ¬ b < 0 by omega)]
   show (-1 : Int) = icmp a b
   unfold icmp; (repeat' split) <;> omega
  ·rw [decide_eq_false (show ¬ a < 0 by omega), decide_eq_true q2]
   show (1 : Int) = icmp a b
   unfold icmp; (repeat' split) <;> omega
  ·rw [decide_eq_false (show ¬ a < 0 by omega), decide_eq_false (show ¬ b < 0 by omega)]
   exact ⟨⟨rfl, rfl, by omega, by omega⟩, e1.1 q1 q2⟩
 ·simp at h
def c_rcmp : Ctr Tryd.prog := ⟨16, s_icmp, fun args w => Tryd.call16 args w, fn_ok_facts mix Tryd.func16 s_icmp p_rcmp⟩
end Go.Proofs.YtmjklcpdfmgcaaaDoor
/-
 The bits of a number in its words.
-/
namespace Go.Proofs.YtmjklcpdfmgcaaaDoor
open Go Go.RowKit
open Go.IntKind (wrap i64 i32 i16 i8 u64 u32 u16 u8)
/-! ### Bits -/
theorem limbs_getD (n k : Nat) : (limbs n).getD k 0 = ((n / 4294967296 ^ k % 4294967296 : Nat) : Int) := by
 induction k generalizing n with
 | zero =>
  by_cases h : n = 0
  ·subst h; rw [limbs_zero]; simp
  ·rw [limbs_pos h]; simp
 | succ k ih =>
  by_cases h : n = 0
  ·subst h; rw [limbs_zero]; simp
  ·rw [limbs_pos h, List.getD_cons_succ, ih, Nat.pow_succ, Nat.mul_comm (4294967296 ^ k) 4294967296, Nat.div_div_eq_div_mul]
theorem and_one_word (x : Nat) (h : x < 4294967296) : wrap u32 ((BitVec.ofInt (IntKind.bits u32) (x : Int) &&& BitVec.ofInt (IntKind.bits u32) 1).toNat : Int) = ((x % 2 : Nat) : Int) := by
 have e : (BitVec.ofInt (IntKind.bits u32) (x : Int) &&& BitVec.ofInt (IntKind.bits u32) 1).toNat = x % 2 := by
  rw [BitVec.toNat_and]
  have e1 : (BitVec.ofInt (IntKind.bits u32) (x : Int)).toNat = x := by
   rw [BitVec.toNat_ofInt]
   show ((x : Int) % ((2 ^ 32 : Nat) : Int)).toNat = x
   omega
  have e2 : (BitVec.ofInt (IntKind.bits u32) 1).toNat = 1 := by rfl
  rw [e1, e2, Nat.and_one_is_mod]
 rw [e]
 exact IntWalk.u32_in _ ⟨by omega, by omega⟩
theorem bit_word (n i : Nat) : (wrap u32 ((BitVec.ofInt (IntKind.bits u32) (((limbs n).getD (i / 32) 0).fdiv (2 ^ min (i % 32) (IntKind.bits u32))) &&& BitVec.ofInt (IntKind.bits u32) 1).toNat : Int) == 1) = decide (n / 2 ^ i % 2 = 1) := by
 have hm : min (i % 32) (IntKind.bits u32) = i % 32 := by
  show min (i % 32) 32 = i % 32
  omega
 have hx : n / 4294967296 ^ (i / 32) % 4294967296 / 2 ^ (i % 32) < 4294967296 := Nat.lt_of_le_of_lt (Nat.div_le_self _ _) (Nat.mod_lt _ (by omega))
 have hf : ((limbs n).getD (i / 32) 0).fdiv (2 ^ min (i % 32) (IntKind.bits u32)) = ((n / 4294967296 ^ (i / 32) % 4294967296 / 2 ^ (i % 32) : Nat) : Int) := by
  rw [hm, limbs_getD, Int.fdiv_eq_ediv_of_nonneg _ (Int.pow_nonneg (by omega))]
  rw [Int.natCast_ediv, Int.natCast_pow]
  rfl
 rw [hf, and_one_word _ hx]
 have hb : n / 4294967296 ^ (i / 32) % 4294967296 / 2 ^ (i % 32) % 2 = n / 2 ^ i % 2 := by
  have e1 : n / 2 ^ i = n / 4294967296 ^ (i / 32) / 2 ^ (i % 32) := by
   rw [Nat.div_div_eq_div_mul, pow_words, ← Nat.pow_add]
   congr 2; omega
  rw [e1]
  generalize n / 4294967296 ^ (i / 32) = q
  have hr : i % 32 < 32 := Nat.mod_lt _ (by omega)
  have := Nat.testBit_mod_two_pow q 32 (i % 32)
  simp only [Nat.testBit_eq_decide_div_mod_eq, hr, decide_true, Bool.true_and] at this
  have h2 := decide_eq_decide.1 this
  have a1 := Nat.mod_two_eq_zero_or_one (q % 4294967296 / 2 ^ (i % 32))
  have a2 := Nat.mod_two_eq_zero_or_one (q / 2 ^ (i % 32))
  rcases a1 with a1 | a1 <;> rcases a2 with a2 | a2 <;> simp_all
 rw [hb]
 have := Nat.mod_two_eq_zero_or_one (n / 2 ^ i)
 rcases this with h | h <;> rw [h] <;> rfl
theorem limbs_idx {N c : Nat} (h : c < bl N) : c / 32 < (limbs N).length := by
 rcases Nat.lt_or_ge (c / 32) (limbs N).length with q | q
 ·exact q
 ·exfalso
  have hne : N ≠ 0 := by intro e; subst e; rw [bl_zero] at h; omega
  have e6 : (2 : Nat) ^ c ≤ N := Nat.le_trans (Nat.pow_le_pow_right (by omega) (by omega)) (bl_le hne)
  have hll := limbs_lt N
  have h8 : 4294967296 ^ (limbs N).length ≤ 2 ^ c := by
   rw [pow_words]
   exact Nat.pow_le_pow_right (by omega) (by omega)
  omega
end Go.Proofs.YtmjklcpdfmgcaaaDoor
/-
 The evaluator, part 5: maps, ranges over functions, calls in place: what code comes to ('evX'), and the frames in which it is walked.
-/
namespace Go.Proofs.YtmjklcpdfmgcaaaDoor
open Go Go.RowKit
open Go.IntKind (wrap i64 i32 i16 i8 u64 u32 u16 u8)
structure MapC where
 kt : TypeId
 kk : IntKind
 n : Nat
 f : List Int → Bool
structure XS where
 mp : Option (Nat × MapC)
 pe : Option Ex
inductive XAnn where
 | inv (ι : Type) (I : ι → Prop) (T : ι → MS) (X : ι → Option (Nat × MapC)) (μ : ι → Nat)
structure ItE (P : Program) where
 f : FuncId
 fn : Func
 hf : P.funcs[f]? = some fn
 hc : ∀ args w, (callFunc f args).run P w = .ok (.enter f args) w
 E : Env P
 xann : Nat → MS → XS → Option XAnn
structure XE (P : Program) where
 E : Env P
 xann : Nat → MS → XS → Option XAnn
 its : List (ItE P)
 inl : List (ItE P)
 rnp : Nat → Nat
 all : Nat → Option (List Oper)
def findIt {P : Program} (f : Nat) : List (ItE P) → Option (ItE P)
 | [] => none
 | c :: r => cond (c.f.beq f) (some c) (findIt f r)
def stayM (np : Nat) : MV → MV
 | .bool b => .bool b
 | .int k n => .int k n
 | .val v => .val v
 | .bp i off => cond (i.blt np) (.bp i off) .any
 | .br i idx off => cond (i.blt np) (.br i idx off) .any
 | .bs i off len => cond (i.blt np) (.bs i off len) .any
 | _ => .any
def stayTm (np : Nat) : List (Nat × MV) → List (Nat × MV)
 | [] => []
 | (t, m) :: r => (t, stayM np m) :: stayTm np r
def leX (x : XS) (q : Option (Nat × MapC)) : Prop :=
 match x.pe with
 | some _ => False
 | none => match q with
  | none => True
  | some (B, m) => match x.mp with
   | none => False
   | some (B', m') => B' = B ∧ m'.kt = m.kt ∧ m'.kk = m.kk ∧ m'.n = m.n ∧ ∀ l, l.length = m.n → m'.f l = m.f l
abbrev XK := Ex → MS → XS → Prop
structure Hnd where
 L : Nat
 yh : List MV → MS → XS → (List Box → Option (Nat × MapC) → Prop) → (Ex → List Box → Option (Nat × MapC) → Prop) → Prop
 rng : Operand → Array Tmp → Code → Code → MS → XS → XK → Prop
def Hnd.none : Hnd := ⟨0, fun _ _ _ _ _ => False, fun _ _ _ _ _ _ _ => False⟩
inductive XOp where
 | plain
 | mk (t : TypeId)
 | look (t : TypeId) (m k : MV)
 | upd (t : TypeId) (m k v : MV)
 | yield (l : Nat) (args : List MV)
 | inl (f : Nat) (args : List MV)
 | app (i : Nat)
def inlIs {P : Program} (X : XE P) (f : Nat) : Bool := match findIt f X.inl with | some _ => true | none => false
def xopCall {P : Program} (X : XE P) (s : MS) (c : Call) : XOp :=
 match c.callee with
 | .value g => (match s.ev g with
  | .val v => (match v with
   | .func fn a b => (match fn with
    | .yield l => cond (a.size.beq 0 && b.size.beq 0) (.yield l (c.args.toList.map s.ev)) .plain
    | _ => .plain)
   | _ => .plain)
  | .fn f caps => (match caps with
   | [] => cond (inlIs X f) (.inl f (c.args.toList.map s.ev)) .plain
   | _ :: _ => .plain)
  | _ => .plain)
 | .builtin b => (match b with
  | .append => (match c.args.toList with
   | d :: _ => (match s.ev d with
    | .bs i _ _ => .app i
    | _ => .plain)
   | [] => .plain)
  | _ => .plain)
 | _ => .plain
def xop {P : Program} (X : XE P) (s : MS) (o : Op) : XOp :=
 match o with
 | .makeMap t r => (match r with | none => .mk t | some _ => .plain)
 | .lookup t m k ok => cond ok .plain (.look t (s.ev m) (s.ev k))
 | .mapUpdate t m k v => .upd t (s.ev m) (s.ev k) (s.ev v)
 | .call c => xopCall X s c
 | _ => .plain
def zeroFalse (P : Program) (t : TypeId) : Bool :=
 match P.info? t with
 | some i => (match i.zero with
  | some v => (match v with | .bool b => !b | _ => false)
  | none => false)
 | none => false
def mapTy (P : Program) (t : TypeId) : Option (TypeId × IntKind × Nat) :=
 match P.underlying t with
 | some (.map kt et) => (match P.underlying et with
  | some .bool => (match P.underlying kt with
   | some (.array n e) => (match P.underlying e with
    | some (.int q) => cond ((P.cellsOf e).beq 1 && (P.cellsOf kt).beq n && (0).blt P.types.size && zeroFalse P et) (some (kt, q, n)) none
    | _ => none)
   | _ => none)
  | _ => none)
 | _ => none
def MapC.add (m : MapC) (l : List Int) : MapC := ⟨m.kt, m.kk, m.n, fun l' => eqL l' l || m.f l'⟩
def mapKey? (P : Program) (t : TypeId) (mv kv : MV) (x : XS) : Option (Prop × Nat × MapC × List Int) :=
 match mv with
 | .val v => (match v with
  | .map r => (match r with
   | some B => (match x.mp with
    | some (B', m) => (match mapTy P t with
     | some (kt, q, n) => (match kv with
      | .st ms => (match arrInts q ms with
       | some l => cond (l.length.beq n) (some ((B = B' ∧ m.kt = kt ∧ m.kk = q ∧ m.n = n) ∧ wfL q l, B', m, l)) none
       | none => none)
      | _ => none)
     | none => none)
    | none => none)
   | none => none)
  | _ => none)
 | _ => none
def forgetB (i : Nat) : Nat → List Box → List Box
 | _, [] => []
 | j, b :: r => cond (j.beq i) b (match b.c with
   | .one m => cond (m.ment i) ⟨b.fz, .one (cond m.isAgg (.junk m.width) .any)⟩ b
   | _ => b) :: forgetB i (j + 1) r
def MS.forget (i : Nat) (s : MS) : MS := { s with bx := forgetB i 0 s.bx }
def env0 (P : Program) : Env P := ⟨[], [], 0, fun _ _ => none, fun _ => [], fun _ _ => none⟩
def putS (t : Nat) (m : MV) : List (Nat × MV) → List (Nat × MV)
 | [] => [(t, m)]
 | (u, x) :: r => cond (u.blt t) ((u, x) :: putS t m r) (cond (u.beq t) ((t, m) :: r) ((t, m) :: (u, x) :: r))
def MS.putSO (s : MS) (d : Option Nat) (m : MV) : MS := match d with | some t => ⟨s.n, putS t m s.tm, s.bx, s.np⟩ | none => s
def freeTm (i : Nat) : List (Nat × MV) → Bool
 | [] => true
 | (_, m) :: r => !(m.ment i) && freeTm i r
def stepOf (s : MS) (o : Oper) : Act1 → Option (OProp × MS)
 | .val p m => some (p, s.putSO o.dst m)
 | .upd p s' m => some (p, s'.putSO o.dst m)
 | _ => none
def appTo (s : MS) (o : Op) : Option Nat :=
 match o with
 | .call c => (match c.args.toList with
  | d :: _ => (match s.ev d with | .bs i _ _ => some i | _ => none)
  | [] => none)
 | _ => none
def stepAll (P : Program) (s : MS) (o : Oper) : Option (OProp × MS) :=
 match o.guard with
 | some _ => none
 | none => cond (dstOk o.dst s.n) (match o.op with
  | .buildSlice t len parts => (match evBuildSlice P t len (parts.toList.map fun (i, x) => (i, s.ev x)) with
   | .new p b _ => (match b.c with
    | .rows wd n f => cond (!b.fz && freeTm s.bx.length s.tm && bxFree s.bx.length 0 s.bx) (some (p, s.putSO o.dst (.sl wd n f))) none
    | _ => none)
   | _ => none)
  | .call _ => (match appTo s o.op with
   | some i => stepOf (s.forget i) o (ev1 (env0 P) (s.forget i) o.op)
   | none => none)
  | _ => stepOf s o (ev1 (env0 P) s o.op)) none
def runF (P : Program) : List Oper → List Bool → MS → Option MS
 | o :: r, f :: fs, s => cond f (match stepAll P s o with | some (_, s') => runF P r fs s' | none => none) (runF P r fs s)
 | _, _, s => some s
def runPs (P : Program) : List Oper → MS → List OProp
 | [], _ => []
 | o :: r, s => match stepAll P s o with
  | some (p, s') => p :: runPs P r s'
  | none => []
def allFl : Nat → List (List Bool)
 | 0 => [[]]
 | n + 1 => (allFl n).map (false :: ·) ++ (allFl n).map (true :: ·)
def edgesIn (fl : List Bool) (o : Oper) : Bool := o.after.toList.all fun e => !(Region.binds .any e) || fl.getD e.on false
def downB : List Oper → List Bool → List Bool → Bool
 | o :: r, f :: fs, fl => (!f || edgesIn fl o) && downB r fs fl
 | _, _, _ => true
def readyAt : Nat → List Oper → List Bool → List Bool → List (Nat × Oper)
 | k, o :: r, f :: fs, fl => cond (!f && edgesIn fl o) ((k, o) :: readyAt (k + 1) r fs fl) (readyAt (k + 1) r fs fl)
 | _, _, _, _ => []
def drawL (P : Program) (ops : List Oper) (s : MS) : List (List Bool) → List (List (Option (Option (OProp × MS))))
 | [] => []
 | fl :: r => cond (downB ops fl fl) ((readyAt 0 ops fl fl).map fun (_, o) => match runF P ops fl s with | some s1 => some (stepAll P s1 o) | none => none) [] :: drawL P ops s r
def drawR (P : Program) (ops : List Oper) (s : MS) (ps : List OProp) : List (List Bool) → List (List (Option (Option (OProp × MS))))
 | [] => []
 | fl :: r => cond (downB ops fl fl) ((readyAt 0 ops fl fl).map fun (k, _) => match runF P ops (fl.set k true) s with | some s2 => some (some (ps.getD k none, s2)) | none => none) [] :: drawR P ops s ps r
def psHold : List OProp → Prop → Prop
 | [], q => q
 | p :: r, q => oand p (psHold r q)
structure DrawOk (P : Program) (ops : List Oper) (s : MS) : Prop where
 h : drawL P ops s (allFl ops.length) = drawR P ops s (runPs P ops s) (allFl ops.length)
def evAll (P : Program) (ops : List Oper) (s : MS) (K : MS → Prop) : Prop :=
 backAll 0 ops = true ∧ DrawOk P ops s ∧ psHold (runPs P ops s) (match runF P ops (List.replicate ops.length true) s with | some s' => K s' | none => False)
def evInl {P : Program} (ie : ItE P) (args : List MV) (s : MS) (K : MV → List Box → Prop) : Prop :=
 match ie.fn.body with
 | some c => (match ie.fn.results.toList with
  | [.tmp t] => cond (args.length.ble ie.fn.ntmps) (evCode ie.E (fun _ => False) c ⟨ie.fn.ntmps, numbered 0 args, s.bx, s.bx.length⟩ (fun e s' => match e with
    | .exit _ => False
    | _ => K (look t s'.tm) s'.bx)) False
  | _ => False)
 | none => False
def evStepX {P : Program} (X : XE P) (H : Hnd) (ops : List Oper) (o : Oper) (s : MS) (x : XS) (K : MS → XS → Prop) : Prop :=
 match xop X s o.op with
 | .plain => evSeq X.E ops (fun _ => False) [o] s (fun s' => K s' x)
 | .app i => evSeq X.E ops (fun _ => False) [o] (s.forget i) (fun s' => K s' x)
 | k => (match o.guard with
  | some _ => Stuck o.op s
  | none => cond (dstOk o.dst s.n) (match k with
   | .mk t => (match mapTy P t with
    | some (kt, q, n) => (match x.mp with
     | none => ∀ B : Nat, K (s.putO o.dst (.val (.map (some B)))) ⟨some (B, ⟨kt, q, n, fun _ => false⟩), x.pe⟩
     | some _ => Stuck o.op s)
    | none => Stuck o.op s)
   | .look t m kv => (match mapKey? P t m kv x with
    | some (p, _, m, l) => p ∧ K (s.putO o.dst (.bool (m.f l))) x
    | none => Stuck o.op s)
   | .upd t m kv v => (match mapKey? P t m kv x with
    | some (p, B, m, l) => (match v with
     | .bool b => (match o.dst with
      | none => (p ∧ b = true) ∧ K s ⟨some (B, m.add l), x.pe⟩
      | some _ => Stuck o.op s)
     | _ => Stuck o.op s)
    | none => Stuck o.op s)
   | .yield l args => cond (args.all fun m => !m.isTup) (match x.pe with
    | none => l = H.L ∧ H.yh args s x (fun bx mp => K ((⟨s.n, stayTm s.np s.tm, bx, s.np⟩ : MS).putO o.dst (.bool true)) ⟨mp, none⟩)
      (fun e bx mp => K ((⟨s.n, stayTm s.np s.tm, bx, s.np⟩ : MS).putO o.dst (.bool false)) ⟨mp, some e⟩)
    | some _ => Stuck o.op s) (Stuck o.op s)
   | .inl f args => cond (args.all fun m => !m.isTup) (match findIt f X.inl with
    | some ie => evInl ie args s (fun m bx => K ((⟨s.n, stayTm s.bx.length s.tm, bx, s.np⟩ : MS).putO o.dst m) x)
    | none => Stuck o.op s) (Stuck o.op s)
   | _ => Stuck o.op s) (Stuck o.op s))
def evSeqX {P : Program} (X : XE P) (H : Hnd) (ops : List Oper) : List Oper → MS → XS → (MS → XS → Prop) → Prop
 | [], s, x, K => K s x
 | o :: r, s, x, K => evStepX X H ops o s x (fun s' x' => evSeqX X H ops r s' x' K)
def evRegionX {P : Program} (X : XE P) (H : Hnd) (id : Nat) (ops : List Oper) (draw : Bool) (s : MS) (x : XS) (K : MS → XS → Prop) : Prop :=
 match draw with
 | false => evSeqX X H ops ops s x K
 | true => (match X.all id with
  | some L => evAll P L s (fun s' => K s' x)
  | none => evRegion X.E ops true s (fun s' => K s' x) (fun _ => False))
def allOk {P : Program} (X : XE P) : Code → Prop
 | .region id ops _ => (match X.all id with | some L => ops.toList = L | none => True)
 | .seq a b => allOk X a ∧ allOk X b
 | .cond _ a b => allOk X a ∧ allOk X b
 | .block _ c => allOk X c
 | .loop c => allOk X c
 | .scope c => allOk X c
 | .rangeFunc _ _ a b => allOk X a ∧ allOk X b
 | _ => True
def evLoopX (id : Nat) (F : MS → XS → XK → Prop) (A : Option XAnn) (s : MS) (x : XS) (K : XK) : Prop :=
 match A with
 | none => StuckLoop id
 | some (.inv _ I T X μ) => (∃ i, I i ∧ leMS s (T i) ∧ leX x (X i)) ∧ ∀ i, I i → F (T i) ⟨X i, none⟩ (fun e s' x' => match e with
  | .normal => ∃ j, I j ∧ leMS s' (T j) ∧ leX x' (X j) ∧ μ j < μ i
  | e => K e s' x')
def evX {P : Program} (X : XE P) (H : Hnd) : Code → MS → XS → XK → Prop
 | .skip, s, x, K => K .normal s x
 | .label _, s, x, K => K .normal s x
 | .region id ops draw, s, x, K => evRegionX X H id ops.toList draw (s.frz (X.E.fzs id)) x (K .normal)
 | .seq a b, s, x, K => evX X H a s x (fun e s' x' => match e with | .normal => evX X H b s' x' K | e => K e s' x')
 | .cond c a b, s, x, K => (match c with
  | .tmp t => (match look t s.tm with
   | .bool y => Br y (evX X H a (s.put t (.bool true)) x K) (evX X H b (s.put t (.bool false)) x K)
   | _ => StuckCode (.cond c .skip .skip))
  | _ => StuckCode (.cond c .skip .skip))
 | .block id c, s, x, K => evX X H c s x (fun e s' x' => match e with | .exit j => cond (j.beq id) (K .normal s' x') (K (.exit j) s' x') | e => K e s' x')
 | .loop c, s, x, K => evLoopX (firstRegion c) (evX X H c) (X.xann (firstRegion c) s x) s x K
 | .exit id, s, x, K => K (.exit id) s x
 | .ret, s, x, K => K .ret s x
 | .rangeFunc g ps a b, s, x, K => H.rng g ps a b s x K
 | c, _, _, _ => StuckCode c
def ndOp : Op → Bool
 | .defer _ => false
 | _ => true
def ndCode : Code → Bool
 | .region _ ops _ => ops.toList.all fun o => ndOp o.op
 | .seq a b => ndCode a && ndCode b
 | .cond _ a b => ndCode a && ndCode b
 | .block _ c => ndCode c
 | .loop c => ndCode c
 | .scope c => ndCode c
 | .rangeFunc _ _ a b => ndCode a && ndCode b
 | _ => true
def putPs : List Tmp → List MV → List (Nat × MV) → List (Nat × MV)
 | p :: ps, m :: ms, l => putPs ps ms ((p, m) :: l)
 | _, _, l => l
def roundH {P : Program} (X : XE P) (so : MS) (np : Nat) (ps : Array Tmp) (a b : Code) (ys : List MV) (si : MS) (x : XS) (kN : List Box → Option (Nat × MapC) → Prop) (kX : Ex → List Box → Option (Nat × MapC) → Prop) : Prop :=
 cond (ys.length.beq ps.size && ps.toList.all (fun p => p.blt so.n) && si.np.beq np) (evX X Hnd.none a ⟨so.n, putPs ps.toList ys (stayTm np so.tm), si.bx, np⟩ ⟨x.mp, none⟩ (fun e s1 x1 => match e with
  | .normal => evX X Hnd.none b s1 x1 (fun e s2 x2 => match e with
   | .normal => kN s2.bx x2.mp
   | e => kX e s2.bx x2.mp)
  | _ => False)) False
def rngH {P : Program} (X : XE P) (g : Operand) (ps : Array Tmp) (a b : Code) (s : MS) (x : XS) (K : XK) : Prop :=
 match g with
 | .tmp t => (match look t s.tm with
  | .fn f caps => (match findIt f X.its with
   | some ie => (match ie.fn.body with
    | some c => (match x.pe with
     | none => cond ((caps.length + 1).ble ie.fn.ntmps && ie.fn.results.size.beq 0 && ndCode a && ndCode b && ndCode c)
       (∀ L : Nat, evX { X with E := ie.E, xann := ie.xann, all := fun _ => none } ⟨L, roundH X s (X.rnp (firstRegion b)) ps a b, fun _ _ _ _ _ _ _ => False⟩ c
        ⟨ie.fn.ntmps, (0, .val (.func (.yield L) #[] #[])) :: numbered 1 caps, s.bx, X.rnp (firstRegion b)⟩ x (fun e s' x' => match e with
        | .exit _ => False
        | _ => (match x'.pe with
         | none => K .normal ⟨s.n, stayTm (X.rnp (firstRegion b)) s.tm, s'.bx, s.np⟩ ⟨x'.mp, none⟩
         | some e => K e ⟨s.n, stayTm (X.rnp (firstRegion b)) s.tm, s'.bx, s.np⟩ ⟨x'.mp, none⟩))) False
     | some _ => False)
    | none => False)
   | none => False)
  | _ => False)
 | _ => False
def hFn {P : Program} (X : XE P) : Hnd := ⟨0, fun _ _ _ _ _ => False, rngH X⟩
def evFnX {P : Program} (X : XE P) (fn : Func) (args : List MV) (post : MRes → Prop) : Prop :=
 match fn.body with
 | some c => cond (args.length.ble fn.ntmps && ndCode c) (evX X (hFn X) c ⟨fn.ntmps, numbered 0 args, [], 0⟩ ⟨none, none⟩ (fun e s _ => match e with
  | .exit _ => False
  | _ => match evResults P s fn.results.toList with
   | some (p, l) => oand p <| post (.ret (oneOrTup l))
   | none => StuckRet s)) False
 | none => False
end Go.Proofs.YtmjklcpdfmgcaaaDoor
/-
 The evaluator, part 6: what lies outside of the call's own blocks may turn.
-/
namespace Go.Proofs.YtmjklcpdfmgcaaaDoor
open Go Go.RowKit
open Go.IntKind (wrap i64 i32 i16 i8 u64 u32 u16 u8)
structure Moved (N : Nat) (w w' : World) : Prop where
 os : w'.os = w.os
 output : w'.output = w.output
 size : w.heap.size ≤ w'.heap.size
 cells : ∀ (b : Nat) arr ty fr, w.heap[b]? = some (Obj.cells arr ty fr) → w'.heap[b]? = some (Obj.cells arr ty fr)
 lo : ∀ k, k < N → w'.heap[k]? = w.heap[k]?
 frz : ∀ a : Addr, a.block < w.heap.size → w'.frozen? a = w.frozen? a
theorem Moved.refl (N : Nat) (w : World) : Moved N w w := ⟨rfl, rfl, Nat.le_refl _, fun _ _ _ _ h => h, fun _ _ => rfl, fun _ _ => rfl⟩
theorem Moved.trans {N : Nat} {a b c : World} (h : Moved N a b) (k : Moved N b c) : Moved N a c :=
 ⟨k.os.trans h.os, k.output.trans h.output, Nat.le_trans h.size k.size, fun i x y z e => k.cells i x y z (h.cells i x y z e), fun i hi => (k.lo i hi).trans (h.lo i hi), fun x hx => (k.frz x (Nat.lt_of_lt_of_le hx h.size)).trans (h.frz x hx)⟩
theorem Moved.alloc {N : Nat} {w : World} (hN : N ≤ w.heap.size) (o : Obj) : Moved N w (w.alloc o) := by
 have hb : ∀ k, k < w.heap.size → (w.alloc o).heap[k]? = w.heap[k]? := fun k hk => Below.heap_alloc w o k hk
 exact ⟨rfl, rfl, by simp, fun b arr ty fr h => (hb b (Array.getElem?_eq_some_iff.1 h).1).trans h, fun k hk => hb k (by omega), fun a ha => World.frozen?_of_block (hb _ ha)⟩
theorem Moved.put {N : Nat} {w : World} {e : Nat} {o o' : Obj} (he : w.heap[e]? = some o) (hN : N ≤ e) (ho : o.isCells = false) (ho' : o'.isCells = false) : Moved N w (w.putObj e o') := by
 have hlt := (Array.getElem?_eq_some_iff.1 he).1
 refine ⟨rfl, rfl, by simp, fun b arr ty fr h => ?_, fun k hk => World.putObj_heap_other (by omega), fun a ha => ?_⟩
 ·refine (World.putObj_heap_other fun q => ?_).trans h
  subst q
  rw [he, Option.some.injEq] at h
  subst h
  simp [Obj.isCells] at ho
 ·by_cases hk : a.block = e
  ·unfold World.frozen?
   rw [hk, World.putObj_heap_same hlt, he]
   cases o <;> cases o' <;> first | rfl | (simp [Obj.isCells] at ho ho')
  ·exact World.frozen?_of_block (World.putObj_heap_other hk)
theorem seg.moved {N : Nat} {w w' : World} (h : Moved N w w') {b off : Nat} {cs : List Value} (s : seg w b off cs) : seg w' b off cs := by
 obtain ⟨arr, ty, fr, h1, h2⟩ := s
 exact ⟨arr, ty, fr, h.cells _ _ _ _ h1, h2⟩
theorem WordsR.moved {N : Nat} {c : Ctx} {w w' : World} (h : Moved N w w') {l : List Int} {s : Value} (r : WordsR c w l s) : WordsR c w' l s := by
 obtain ⟨a, cap, h1, h2, h3⟩ := r
 refine ⟨a, cap, h1, h2, fun hl => ?_⟩
 obtain ⟨b, off, h4, h5, h6⟩ := h3 hl
 exact ⟨b, off, h4, h5, h6.moved h⟩
mutual
theorem RepC.moved {N : Nat} {w w' : World} (k : Moved N w w') : ∀ (m : MV) (c : Ctx) (vs : List Value), RepC c w m vs → RepC c w' m vs
 | .any, c, vs, h => h
 | .junk n, c, vs, h => h
 | .bool _, c, vs, h => h
 | .int _ _, c, vs, h => h
 | .val _, c, vs, h => h
 | .big _ _, c, vs, h => by obtain ⟨s, h1, h2, h3⟩ := h; exact ⟨s, h1, h2, h3.moved k⟩
 | .ws _, c, vs, h => by obtain ⟨s, h1, h2⟩ := h; exact ⟨s, h1, h2.moved k⟩
 | .sl wd len f, c, vs, h => by
  obtain ⟨a, cap, h1, h2, h3⟩ := h
  refine ⟨a, cap, h1, h2, fun hl => ?_⟩
  obtain ⟨b, off, h4, h5, h6⟩ := h3 hl
  refine ⟨b, off, h4, h5, fun i hi => ?_⟩
  obtain ⟨cs, h7, h8, h9⟩ := h6 i hi
  exact ⟨cs, h7, RepC.moved k (f i) c.elem cs h8, h9.moved k⟩
 | .st ms, c, vs, h => RepCs.moved k ms c vs h
 | .ref m, c, vs, h => by
  obtain ⟨b, off, cs, h1, h2, h3, h4⟩ := h
  exact ⟨b, off, cs, h1, h2, RepC.moved k m c cs h3, h4.moved k⟩
 | .bp i off, c, vs, h => h
 | .br i _ _, c, vs, h => h
 | .bs i off len, c, vs, h => h
 | .tup _, c, vs, h => h.elim
 | .fn f caps, c, vs, h => by
  obtain ⟨cs, h1, h2, h3⟩ := h
  exact ⟨cs, h1, RepCs.moved k caps c cs h2, h3⟩
 | .iface t m, c, vs, h => by
  obtain ⟨cs, u, h1, h2, h3⟩ := h
  exact ⟨cs, u, h1, RepC.moved k m c cs h2, h3⟩
 | .emp, c, vs, h => h
theorem RepCs.moved {N : Nat} {w w' : World} (k : Moved N w w') : ∀ (ms : List MV) (c : Ctx) (vs : List Value), RepCs c w ms vs → RepCs c w' ms vs
 | [], c, vs, h => h
 | m :: ms, c, vs, h => by
  obtain ⟨x, y, h1, h2, h3⟩ := h
  exact ⟨x, y, h1, RepC.moved k m c x h2, RepCs.moved k ms c y h3⟩
end
theorem Rep1.moved {N : Nat} {c : Ctx} {w w' : World} (k : Moved N w w') {m : MV} {v : Value} (h : Rep1 c w m v) : Rep1 c w' m v := by
 by_cases hn : m = .any
 ·subst hn; trivial
 ·cases hg : m.isAgg with
  | true =>
   rw [rep1_agg hg] at h ⊢
   obtain ⟨cs, h1, h2⟩ := h
   exact ⟨cs, h1, RepC.moved k m c _ h2⟩
  | false =>
   rw [rep1_cell hg hn] at h ⊢
   exact RepC.moved k m c _ h
theorem RepAll.moved {N : Nat} {c : Ctx} {w w' : World} (k : Moved N w w') : ∀ (ms : List MV) (vs : List Value), RepAll c w ms vs → RepAll c w' ms vs
 | [], _, h => h
 | _ :: ms, _, h => by
  obtain ⟨v, r, h1, h2, h3⟩ := h
  exact ⟨v, r, h1, Rep1.moved k h2, RepAll.moved k ms r h3⟩
theorem Rep.moved {N : Nat} {c : Ctx} {w w' : World} (k : Moved N w w') {m : MV} {v : Value} (h : Rep c w m v) : Rep c w' m v := by
 cases hm : m.isTup with
 | false => exact (rep1_iff hm).2 (((rep1_iff hm).1 h).moved k)
 | true =>
  cases m <;> simp [MV.isTup] at hm
  obtain ⟨vs, h1, h2⟩ := h
  exact ⟨vs, h1, RepAll.moved k _ _ h2⟩
theorem BCRep.moved {N : Nat} {c : Ctx} {w w' : World} (k : Moved N w w') {b : BC} {arr : Array Value} (h : BCRep c w b arr) : BCRep c w' b arr := by
 cases b with
 | one m => obtain ⟨cs, h1, h2⟩ := h; exact ⟨cs, RepC.moved k m c cs h1, h2⟩
 | arr _ _ => exact h
 | rows wd len f =>
  intro i hi
  obtain ⟨cs, h1, h2, h3⟩ := h i hi
  exact ⟨cs, h1, RepC.moved k (f i) c.elem cs h2, h3⟩
theorem BoxRep.moved {N : Nat} {c : Ctx} {w w' : World} (k : Moved N w w') {i : Nat} {b : Box} (h : BoxRep c w i b) : BoxRep c w' i b := by
 obtain ⟨arr, ty, h1, h2, h3, h4⟩ := h
 exact ⟨arr, ty, k.cells _ _ _ _ h1, h2, h3, h4.moved k⟩
def ownB (c : Ctx) (b : Nat) : Prop := ∃ i, c.live i ∧ c.β i = b
abbrev baseAt (w : World) (c : Ctx) (pin : Nat → Nat → Sz → Prop) (df : List Deferred) : Base := ⟨w, ownB c, pin, df⟩
theorem Mem.moved {S0 : Nat → Prop} {w1 : Base} {bx : List Box} {c : Ctx} {w w' : World} {N : Nat} (h : Mem S0 w1 bx c w) (k : Moved N w w') (pin : Nat → Nat → Sz → Prop) (df : List Deferred)
  (hp : ∀ i b z, pin i b z → c.live i ∧ c.β i = b ∧ c.sz i = z) : Mem S0 (baseAt w' c pin df) bx c w' := by
 refine ⟨⟨rfl, rfl, Nat.le_refl _, fun _ _ _ => rfl, fun _ _ => rfl⟩, fun b hb => ⟨?_, ?_⟩, ⟨fun hg => ?_, fun hg => ?_⟩, h.hS, h.hW, h.inj, fun i hi => ⟨.inr ⟨i, hi, rfl⟩, Nat.lt_of_lt_of_le (h.fresh i hi).2.1 k.size, (h.fresh i hi).2.2⟩, fun i b hi hb => (h.box i b hi hb).moved k, hp⟩
 ·exact Nat.lt_of_lt_of_le (h.S0lt b hb).1 (Nat.le_trans h.ext.size k.size)
 ·rintro ⟨i, hi, rfl⟩
  exact h.notS0 hi hb
 ·obtain ⟨g1, g2, arr, ty, fr, g3, g4⟩ := h.gl.1 hg
  exact ⟨g1, Nat.lt_of_lt_of_le g2 (Nat.le_trans h.ext.size k.size), arr, ty, fr, k.cells _ _ _ _ ((h.ext.block _ g2 (h.gl.2 hg)).trans g3), g4⟩
 ·rintro ⟨i, hi, e⟩
  obtain ⟨_, g2, _⟩ := h.gl.1 hg
  rcases (h.fresh i hi).1 with q | q
  ·rw [e] at q; exact absurd g2 (by omega)
  ·exact h.gl.2 hg (e ▸ q)
structure Reb (w0 w1 : Base) : Prop where
 ext : ExtB w0 w1.w
 X : ∀ b, w1.X b → w0.new b
theorem Reb.refl (w0 : Base) : Reb w0 w0 := ⟨⟨rfl, rfl, Nat.le_refl _, fun _ _ _ => rfl, fun _ _ => rfl⟩, fun _ h => .inr h⟩
theorem Reb.end_ {w0 w1 : Base} (h : Reb w0 w1) {w : World} (e : ExtB w1 w) : ExtB w0 w :=
 ⟨e.os.trans h.ext.os, e.output.trans h.ext.output, Nat.le_trans h.ext.size e.size, fun k hk hx => (e.block k (Nat.lt_of_lt_of_le hk h.ext.size) (fun q => (h.X k q).elim (fun r => by omega) hx)).trans (h.ext.block k hk hx),
  fun a ha => (e.frz a (Nat.lt_of_lt_of_le ha h.ext.size)).trans (h.ext.frz a ha)⟩
theorem Reb.move {S0 : Nat → Prop} {w0 w1 : Base} {bx : List Box} {c : Ctx} {w w' : World} (h : Reb w0 w1) (m : Mem S0 w1 bx c w) (k : Moved w0.w.heap.size w w') (pin : Nat → Nat → Sz → Prop) (df : List Deferred) : Reb w0 (baseAt w' c pin df) := by
 have e := h.end_ m.ext
 refine ⟨⟨k.os.trans e.os, k.output.trans e.output, Nat.le_trans e.size k.size, fun i hi hx => (k.lo i hi).trans (e.block i hi hx), fun a ha => (k.frz a (Nat.lt_of_lt_of_le ha e.size)).trans (e.frz a ha)⟩, ?_⟩
 rintro b ⟨i, hi, rfl⟩
 rcases (m.fresh i hi).1 with q | q
 ·exact .inl (Nat.le_trans h.ext.size q)
 ·exact h.X _ q
structure Extn (w0 w1 : Base) (e : Nat) (o : Obj) : Prop where
 at_ : w1.w.heap[e]? = some o
 notX : ¬ w1.X e
 lo : w0.w.heap.size ≤ e
theorem Extn.now {S0 : Nat → Prop} {w0 w1 : Base} {bx : List Box} {c : Ctx} {w : World} {e : Nat} {o : Obj} (h : Extn w0 w1 e o) (m : Mem S0 w1 bx c w) : w.heap[e]? = some o ∧ ¬ ownB c e := by
 have hlt := (Array.getElem?_eq_some_iff.1 h.at_).1
 refine ⟨(m.ext.block e hlt h.notX).trans h.at_, ?_⟩
 rintro ⟨i, hi, rfl⟩
 rcases (m.fresh i hi).1 with q | q
 ·omega
 ·exact h.notX q
def markOf (D : Nat) : Deferred := { target := .collected D, args := #[] }
def keyV (q : IntKind) (l : List Int) : Value := .agg (l.map (Value.int q)).toArray
structure MapTy (P : Program) (m : MapC) : Prop where
 ex : ∃ e, WideMaps.ArrKey P m.kt e m.n ∧ P.underlying e = some (.int m.kk)
 size : ∃ k, P.types.size = k + 1
def MapOk (m : MapC) (o : Obj) : Prop := ∃ es clock, o = .map es clock ∧ (∀ e ∈ es.toList, ∃ l, l.length = m.n ∧ wfL m.kk l ∧ e.key = keyV m.kk l ∧ e.val = .bool true ∧ m.f l = true) ∧
 ∀ l, l.length = m.n → m.f l = true → ∃ e ∈ es.toList, e.key = keyV m.kk l
structure Out (P : Program) (w0 w1 : Base) (zl : List (Nat × Obj)) (Ds : List Nat) (mp : Option (Nat × MapC)) : Prop where
 reb : Reb w0 w1
 nd : Ds.Nodup
 ds : ∀ D ∈ Ds, Extn w0 w1 D (.deferred (some []))
 zs : ∀ z ∈ zl, Extn w0 w1 z.1 z.2
 mp : ∀ B m, mp = some (B, m) → MapTy P m ∧ ∃ o, MapOk m o ∧ Extn w0 w1 B o
 dis : ∀ z ∈ zl, z.1 ∉ Ds
def XSt (P : Program) (S0 : Nat → Prop) (w0 : Base) (pin : Nat → Nat → Sz → Prop) (zs : Option Ex → List (Nat × Obj)) (s : MS) (x : XS) (c : Ctx) (a : Act) (w : World) : Prop :=
 ∃ (w1 : Base) (Ds : List Nat), Out P w0 w1 (zs x.pe) Ds x.mp ∧ St S0 w1 s c a w ∧ (∀ i b z, pin i b z → w1.pin i b z) ∧ w1.df = Ds.map markOf
theorem Extn.move {S0 : Nat → Prop} {w0 w1 : Base} {bx : List Box} {c : Ctx} {w w' : World} {e : Nat} {o : Obj} (h : Extn w0 w1 e o) (m : Mem S0 w1 bx c w) (hw : w'.heap[e]? = w.heap[e]?) (pin : Nat → Nat → Sz → Prop) (df : List Deferred) : Extn w0 (baseAt w' c pin df) e o :=
 let ⟨h1, h2⟩ := h.now m
 ⟨hw.trans h1, h2, h.lo⟩
theorem MapOk.notCells {m : MapC} {o : Obj} (h : MapOk m o) : o.isCells = false := by
 obtain ⟨es, clock, rfl, _⟩ := h
 rfl
theorem Out.move {P : Program} {S0 : Nat → Prop} {w0 w1 : Base} {zl : List (Nat × Obj)} {Ds : List Nat} {mp : Option (Nat × MapC)} {bx : List Box} {c : Ctx} {w w' : World} (h : Out P w0 w1 zl Ds mp) (m : Mem S0 w1 bx c w) (k : Moved w0.w.heap.size w w')
  (he : ∀ e, e < w.heap.size → ¬ ownB c e → w'.heap[e]? = w.heap[e]?) (pin : Nat → Nat → Sz → Prop) (df : List Deferred) : Out P w0 (baseAt w' c pin df) zl Ds mp := by
 have hx : ∀ e o, Extn w0 w1 e o → Extn w0 (baseAt w' c pin df) e o := fun e o q => by
  have := q.now m
  exact q.move m (he e (Array.getElem?_eq_some_iff.1 this.1).1 this.2) pin df
 exact ⟨h.reb.move m k pin df, h.nd, fun D hD => hx _ _ (h.ds D hD), fun z hz => hx _ _ (h.zs z hz), fun B m hB => by
  obtain ⟨q1, o, q2, q3⟩ := h.mp B m hB
  exact ⟨q1, o, q2, hx _ _ q3⟩, h.dis⟩
theorem XSt.with_ {P : Program} {S0 : Nat → Prop} {w0 : Base} {pin : Nat → Nat → Sz → Prop} {zs : Option Ex → List (Nat × Obj)} {s : MS} {x : XS} {c : Ctx} {a : Act} {w : World} (h : XSt P S0 w0 pin zs s x c a w) :
  ∃ w1, St S0 w1 s c a w ∧ Reb w0 w1 ∧ ∀ s' c' a' w', St S0 w1 s' c' a' w' → XSt P S0 w0 pin zs s' x c' a' w' := by
 obtain ⟨w1, Ds, h1, h2, h3, h4⟩ := h
 exact ⟨w1, h2, h1.reb, fun s' c' a' w' hs => ⟨w1, Ds, h1, hs, h3, h4⟩⟩
theorem XSt.le {P : Program} {S0 : Nat → Prop} {w0 : Base} {pin : Nat → Nat → Sz → Prop} {zs : Option Ex → List (Nat × Obj)} {s t : MS} {x : XS} {q : Option (Nat × MapC)} {c : Ctx} {a : Act} {w : World} (h : XSt P S0 w0 pin zs s x c a w) (hle : leMS s t) (hx : leX x q) : ∃ c', XSt P S0 w0 pin zs t ⟨q, none⟩ c' a w := by
 obtain ⟨w1, Ds, h1, h2, h3, h4⟩ := h
 obtain ⟨c', h2'⟩ := h2.le hle
 unfold leX at hx
 split at hx
 ·exact hx.elim
 ·rename_i hpe
  refine ⟨c', w1, Ds, ⟨h1.reb, h1.nd, h1.ds, by rw [← hpe]; exact h1.zs, fun B m hBm => ?_, by rw [← hpe]; exact h1.dis⟩, h2', h3, h4⟩
  simp only at hBm
  subst hBm
  simp only at hx
  split at hx
  ·exact hx.elim
  ·rename_i B' m' hmp
   obtain ⟨rfl, e1, e2, e3, hf⟩ := hx
   obtain ⟨⟨⟨e, k1, k2⟩, k3⟩, o, ⟨es, clock, ho, o1, o2⟩, hext⟩ := h1.mp B' m' hmp
   rw [e1, e3] at k1
   rw [e2] at k2
   refine ⟨⟨⟨e, k1, k2⟩, k3⟩, o, ⟨es, clock, ho, fun y hy => ?_, fun l hl hfl => ?_⟩, hext⟩
   ·obtain ⟨l, q1, q2, q3, q4, q5⟩ := o1 y hy
    exact ⟨l, q1.trans e3, by rw [← e2]; exact q2, by rw [← e2]; exact q3, q4, by rw [← hf l (q1.trans e3)]; exact q5⟩
   ·obtain ⟨y, hy, hk⟩ := o2 l (hl.trans e3.symm) (by rw [hf l hl]; exact hfl)
    exact ⟨y, hy, by rw [← e2]; exact hk⟩
end Go.Proofs.YtmjklcpdfmgcaaaDoor
/-
 The evaluator, part 7: the operations on a map run.
-/
namespace Go.Proofs.YtmjklcpdfmgcaaaDoor
open Go Go.RowKit
open Go.IntKind (wrap i64 i32 i16 i8 u64 u32 u16 u8)
theorem keyOf_ints {P : Program} {m : MapC} (hT : MapTy P m) {l : List Int} (hl : l.length = m.n) (hw : wfL m.kk l) : ∃ k, keyOf P m.kt (keyV m.kk l) = some k := by
 obtain ⟨⟨e, A, he⟩, hs⟩ := hT
 have hk := A.keyType hs
 obtain ⟨q, hq⟩ := hs
 have hq2 : P.types.size + 1 = q + 2 := by omega
 refine ⟨.string (keyBytes (l.map (Lit.int m.kk))), ?_⟩
 unfold keyOf
 rw [A.hu]
 simp only
 rw [if_pos (by simp [hk, Value.formed, keyV, A.hu, A.size, hl])]
 rw [show (keyV m.kk l).cells.toList = l.map (Value.int m.kk) from by simp [keyV, Value.cells], hq2, keyLits_ints A.hu he A.one A.size hl (wfL_mem hw) q]
 rfl
theorem valInt_inj {q : IntKind} : ∀ (a b : List Int), a.map (Value.int q) = b.map (Value.int q) → a = b
 | [], [], _ => rfl
 | [], _ :: _, h => by simp at h
 | _ :: _, [], h => by simp at h
 | x :: a, y :: b, h => by
  simp only [List.map_cons, List.cons.injEq, Value.int.injEq, true_and] at h
  rw [h.1, valInt_inj a b h.2]
theorem keyV_inj {q : IntKind} {a b : List Int} (h : keyV q a = keyV q b) : a = b := by
 simp only [keyV, Value.agg.injEq] at h
 exact valInt_inj a b (by simpa using congrArg Array.toList h)
theorem mapTy_spec {P : Program} {t kt : TypeId} {q : IntKind} {n : Nat} (h : mapTy P t = some (kt, q, n)) : ∃ et e, P.underlying t = some (.map kt et) ∧ P.underlying et = some .bool ∧ WideMaps.ArrKey P kt e n ∧ P.underlying e = some (.int q) ∧ (∃ k, P.types.size = k + 1) ∧ ∀ w, (zeroValue et).run P w = .ok (.bool false) w := by
 unfold mapTy at h
 split at h
 ·rename_i kt' et hu
  split at h
  ·rename_i hb
   split at h
   ·rename_i n' e hk
    split at h
    ·rename_i q' he
     cases hc : ((P.cellsOf e).beq 1 && (P.cellsOf kt').beq n' && (0).blt P.types.size && zeroFalse P et) with
     | false => rw [hc] at h; simp at h
     | true =>
      rw [hc] at h
      simp only [cond_true, Option.some.injEq, Prod.mk.injEq] at h
      obtain ⟨rfl, rfl, rfl⟩ := h
      simp only [Bool.and_eq_true, Nat.beq_eq, Nat.blt_eq] at hc
      obtain ⟨⟨⟨h1, h2⟩, h3⟩, h4⟩ := hc
      refine ⟨et, e, hu, hb, ⟨hk, by simp [Program.plainKey, he], h1, h2⟩, he, ⟨P.types.size - 1, by omega⟩, fun w => ?_⟩
      unfold zeroFalse at h4
      split at h4
      ·rename_i i hi
       split at h4
       ·rename_i v hv
        split at h4
        ·rename_i b
         simp only [Bool.not_eq_true'] at h4
         subst h4
         simp [zeroValue, typeInfo, hi, hv, Sem.run_bind, go_sem, Result.andThen]
        ·simp at h4
       ·simp at h4
      ·simp at h4
    ·simp at h
   ·simp at h
  ·simp at h
 ·simp at h
section
variable {P : Program} {m : MapC} {w : World} {B : Nat} {o : Obj} {l : List Int} {t : TypeId}
theorem map_find (hT : MapTy P m) (hm : MapOk m o) (hl : l.length = m.n) (hw : wfL m.kk l) : ∃ es clock, o = .map es clock ∧ (Instr.checkKey es.isEmpty 10000 m.kt (keyV m.kk l)).run P w = .ok () w ∧ (Instr.checkKey false 10000 m.kt (keyV m.kk l)).run P w = .ok () w ∧
  (((Instr.findKey m.kt (keyV m.kk l) es.toList).run P w = .ok none w ∧ m.f l = false) ∨ ∃ j e, (Instr.findKey m.kt (keyV m.kk l) es.toList).run P w = .ok (some (j, e.val)) w ∧ es[j]? = some e ∧ e.key = keyV m.kk l ∧ e.val = .bool true ∧ m.f l = true) := by
 obtain ⟨es, clock, rfl, h1, h2⟩ := hm
 obtain ⟨kl, hkl⟩ := keyOf_ints hT hl hw
 obtain ⟨⟨e, A, he⟩, hs⟩ := hT
 have K := A.law
 refine ⟨es, clock, rfl, K.check w _ hkl, K.check w _ hkl, ?_⟩
 have hall : ∀ x ∈ es.toList, ∃ l, keyOf P m.kt x.key = some l := by
  intro x hx
  obtain ⟨l', q1, q2, q3, _⟩ := h1 x hx
  rw [q3]
  exact keyOf_ints ⟨⟨e, A, he⟩, hs⟩ q1 q2
 rcases K.find w hkl es.toList hall with ⟨h3, h4⟩ | ⟨j, x, h3, h4, h5⟩
 ·refine .inl ⟨h3, ?_⟩
  cases hf : m.f l with
  | false => rfl
  | true =>
   obtain ⟨x, hx, hk⟩ := h2 l hl hf
   exact absurd hk (h4 x hx)
 ·have hx : x ∈ es.toList := List.mem_of_getElem? h4
  obtain ⟨l', q1, q2, q3, q4, q5⟩ := h1 x hx
  have : l' = l := keyV_inj (q3.symm.trans h5)
  subst this
  exact .inr ⟨j, x, h3, by simpa using h4, h5, q4, q5⟩
theorem run_lookup (hT : MapTy P m) (hm : MapOk m o) (hB : w.heap[B]? = some o) (hl : l.length = m.n) (hw : wfL m.kk l) {et : TypeId} (ht : P.underlying t = some (.map m.kt et)) (hz : (zeroValue et).run P w = .ok (.bool false) w) :
  (Instr.lookup t (.map (some B)) (keyV m.kk l) false).run P w = .ok (.bool (m.f l)) w := by
 obtain ⟨es, clock, rfl, h1, _, h2⟩ := map_find (P := P) (w := w) hT hm hl hw
 rcases h2 with ⟨h3, h4⟩ | ⟨j, e, h3, _, _, h6, h7⟩
 ·simp [Instr.lookup, run_underlying ht, MapKept.run_getObj_map hB, Sem.run_bind, Result.andThen, h1, h3, h4, hz]
 ·simp [Instr.lookup, run_underlying ht, MapKept.run_getObj_map hB, Sem.run_bind, Result.andThen, h1, h3, h6, h7]
theorem run_update (hT : MapTy P m) (hm : MapOk m o) (hB : w.heap[B]? = some o) (hl : l.length = m.n) (hw : wfL m.kk l) {et : TypeId} (ht : P.underlying t = some (.map m.kt et)) :
  ∃ o', (Instr.mapUpdate t (.map (some B)) (keyV m.kk l) (.bool true)).run P w = .ok () (w.putObj B o') ∧ MapOk (m.add l) o' := by
 have hm0 := hm
 obtain ⟨es, clock, rfl, _, h1, h2⟩ := map_find (P := P) (w := w) hT hm hl hw
 obtain ⟨es', clock', ho, g1, g2⟩ := hm0
 simp only [Obj.map.injEq] at ho
 obtain ⟨rfl, rfl⟩ := ho
 obtain ⟨kl, hkl⟩ := keyOf_ints hT hl hw
 have hst : (Instr.keyThatStays (keyV m.kk l) (keyV m.kk l)).run P w = .ok (keyV m.kk l) w := by
  obtain ⟨⟨e, A, he⟩, hs⟩ := hT
  exact A.law.stays w hkl
 have hadd : ∀ l', (m.add l).f l' = true ↔ l' = l ∨ m.f l' = true := fun l' => by simp [MapC.add, eqL_iff]
 rcases h2 with ⟨h3, h4⟩ | ⟨j, e, h3, h5, h6, h7, h8⟩
 ·refine ⟨.map (es.push { key := keyV m.kk l, val := .bool true, born := clock }) (clock + 1), ?_, _, _, rfl, ?_, ?_⟩
  ·simp [Instr.mapUpdate, run_underlying ht, MapKept.run_getObj_map hB, Sem.run_bind, Result.andThen, h1, h3, MapKept.run_setObj_map _ hB, World.putObj]
  ·intro x hx
   simp only [Array.toList_push, List.mem_append, List.mem_singleton] at hx
   rcases hx with hx | rfl
   ·obtain ⟨l', q1, q2, q3, q4, q5⟩ := g1 x hx
    exact ⟨l', q1, q2, q3, q4, (hadd l').2 (.inr q5)⟩
   ·exact ⟨l, hl, hw, rfl, rfl, (hadd l).2 (.inl rfl)⟩
  ·intro l' hl' hf
   rcases (hadd l').1 hf with rfl | hf
   ·exact ⟨⟨keyV m.kk l', .bool true, clock⟩, by simp, rfl⟩
   ·obtain ⟨x, hx, hk⟩ := g2 l' hl' hf
    exact ⟨x, by simp; exact .inl (by simpa using hx), hk⟩
 ·refine ⟨.map (es.modify j fun e => { e with key := keyV m.kk l, val := .bool true }) clock, ?_, _, _, rfl, ?_, ?_⟩
  ·simp [Instr.mapUpdate, run_underlying ht, MapKept.run_getObj_map hB, Sem.run_bind, Result.andThen, h1, h3, h5, h6, hst, MapKept.run_setObj_map _ hB, World.putObj]
  ·intro x hx
   obtain ⟨i, hi⟩ := List.mem_iff_getElem?.1 hx
   rw [Array.getElem?_toList, Array.getElem?_modify] at hi
   by_cases hij : j = i
   ·subst hij
    rw [if_pos rfl, h5] at hi
    simp only [Option.map_some, Option.some.injEq] at hi
    subst hi
    exact ⟨l, hl, hw, rfl, rfl, (hadd l).2 (.inl rfl)⟩
   ·rw [if_neg hij] at hi
    obtain ⟨l', q1, q2, q3, q4, q5⟩ := g1 x (by rw [← Array.getElem?_toList] at hi; exact List.mem_of_getElem? hi)
    exact ⟨l', q1, q2, q3, q4, (hadd l').2 (.inr q5)⟩
  ·intro l' hl' hf
   have hf : m.f l' = true := by
    rcases (hadd l').1 hf with rfl | hf
    ·exact h8
    ·exact hf
   obtain ⟨x, hx, hk⟩ := g2 l' hl' hf
   obtain ⟨i, hi⟩ := List.mem_iff_getElem?.1 hx
   rw [Array.getElem?_toList] at hi
   by_cases hij : j = i
   ·subst hij
    rw [h5, Option.some.injEq] at hi
    subst hi
    refine ⟨{ e with key := keyV m.kk l, val := .bool true }, List.mem_of_getElem? (i := j) ?_, ?_⟩
    ·rw [Array.getElem?_toList, Array.getElem?_modify, if_pos rfl, h5]; rfl
    ·exact h6.symm.trans hk
   ·refine ⟨x, List.mem_of_getElem? (i := i) ?_, hk⟩
    rw [Array.getElem?_toList, Array.getElem?_modify, if_neg hij]; exact hi
end
end Go.Proofs.YtmjklcpdfmgcaaaDoor
/-
 The evaluator, part 8: rows of operations with maps, calls in place, calls of yield; code.
-/
namespace Go.Proofs.YtmjklcpdfmgcaaaDoor
open Go Go.RowKit
open Go.IntKind (wrap i64 i32 i16 i8 u64 u32 u16 u8)
structure Fw (F : Fence) (P : Program) : Prop where
 fn : ∀ f, F.fn f
 depth : F.depth = none
 sem : ∀ (o : Oper) (ρ : Operand → Value), (∀ c, o.op ≠ .defer c) → o.semAt F.round ρ = execOp ρ o
 calls : ∀ {n : Nat} {f : FuncId} {args : Array Value} {w : World} {R : Ending → World → Prop}, Calls P f args w R → CallsIn F n P f args w R
 rows : ∀ {n : Nat} {row : String} {args : Array Value} {w : World} {R : Value → World → Prop}, Rows P row args w R → RowsIn F n P row args w R
theorem fw_wide (P : Program) : Fw Fence.wide P :=
 ⟨fun _ => trivial, rfl, fun _ _ _ => rfl, fun h => callsIn_wide.2 h, fun h c cs _ => let ⟨v, w', r, s⟩ := h c cs; ⟨v, w', r, stepsIn_wide.2 s⟩⟩
theorem fw_round (P : Program) (l : Nat) : Fw (Fence.wide.inRound l) P :=
 ⟨fun _ => trivial, rfl, fun o ρ h => Oper.semAt_some l ρ o h, fun h => CallsIn.inRound l (callsIn_wide.2 h), fun h c cs _ => let ⟨v, w', r, s⟩ := h c cs; ⟨v, w', r, stepsIn_wide.2 s⟩⟩
section
variable {F : Fence} {P : Program} {m : Nat} {ops : Array Oper}
theorem wpListIn_of (hF : Fw F P) {Q Q1 : Exit → Act → World → Prop} (hQ1 : ∀ a w, ¬ Q1 .outgrown a w) (hp : ∀ ch a w, Q1 (.panic ch) a w → Q (.panic ch) a w) {rest : List Oper} (hr : ∀ a w, Q1 .normal a w → wpListIn F m P ops Q rest a w) :
  ∀ (l : List Oper) (a : Act) (w : World), (∀ o ∈ l, ∀ c, o.op ≠ .defer c) → wpList P ops Q1 l a w → wpListIn F m P ops Q (l ++ rest) a w
 | [], a, w, _, h => hr a w h
 | o :: r, a, w, hd, h => by
  have ih := wpListIn_of hF hQ1 hp hr r
  have hd' : ∀ o ∈ r, ∀ c, o.op ≠ .defer c := fun o ho => hd o (List.mem_cons_of_mem _ ho)
  have hdep : ¬ F.depth.isSome = true := by rw [hF.depth]; simp
  unfold wpList at h
  rw [List.cons_append]
  unfold wpListIn
  split at h
  ·rename_i hw
   rw [if_pos hw]
   rcases h with h | ⟨_, h⟩
   ·refine ⟨fun f _ => hF.fn f, ?_⟩
    rw [hF.sem _ _ (hd o (List.mem_cons_self ..))]
    unfold Oper.wp at h
    generalize (execOp a.eval o).run P w = res at h ⊢
    cases res with
    | ok nx w' =>
     cases nx with
     | value v => exact ih _ _ hd' h
     | skip => exact ih _ _ hd' h
     | defer d => exact ih _ _ hd' h
     | enter f args =>
      refine ⟨fun h => absurd h hdep, hF.calls (Calls.mono h ?_)⟩
      intro e w'' he
      cases e with
      | returned v => exact ih _ _ hd' he
      | panicked c => exact hp _ _ _ he
      | outgrown => exact (let ⟨a, w, q⟩ := he; (hQ1 a w q).elim)
     | row rw args =>
      refine ⟨fun h => absurd h hdep, hF.rows fun c cs => ?_⟩
      obtain ⟨v, w'', r', s⟩ := h c cs
      exact ⟨v, w'', ih _ _ hd' r', s⟩
     | round l f t x y => exact h.elim
     | _ => exact h.elim
    | halt hh w' =>
     cases hh
     all_goals first | exact hp _ _ _ h | exact h.elim
   ·exact (let ⟨a, w, q⟩ := h; (hQ1 a w q).elim)
  ·rename_i hw
   rw [if_neg hw]
   exact ⟨fun f _ => hF.fn f, ih _ _ hd' h⟩
theorem wpOpIn_of (hF : Fw F P) {Q : Exit → Act → World → Prop} (hQ : ∀ a w, ¬ Q .outgrown a w) {i : Nat} {K K' : Act → World → Prop} (hd : ∀ o, ops[i]? = some o → ∀ c, o.op ≠ .defer c) (hK : ∀ a w, K a w → K' a w) {a : Act} {w : World} (h : wpOp P ops Q i K a w) : wpOpIn F m P ops Q i K' a w := by
 have hdep : ¬ F.depth.isSome = true := by rw [hF.depth]; simp
 unfold wpOp at h
 unfold wpOpIn
 split at h
 ·rename_i hn
  simp only [hn]
  exact hK _ _ h
 ·rename_i o ho
  simp only [ho]
  split at h
  ·rename_i hw
   rw [if_pos hw]
   rcases h with h | ⟨_, h⟩
   ·refine ⟨fun f _ => hF.fn f, ?_⟩
    rw [hF.sem _ _ (hd o ho)]
    unfold Oper.wp at h
    generalize (execOp a.eval o).run P w = res at h ⊢
    cases res with
    | ok nx w' =>
     cases nx with
     | value v => exact hK _ _ h
     | skip => exact hK _ _ h
     | defer d => exact hK _ _ h
     | enter f args =>
      refine ⟨fun h => absurd h hdep, hF.calls (Calls.mono h ?_)⟩
      intro e w'' he
      cases e with
      | returned v => exact hK _ _ he
      | panicked c => exact he
      | outgrown => exact he
     | row rw args =>
      refine ⟨fun h => absurd h hdep, hF.rows fun c cs => ?_⟩
      obtain ⟨v, w'', r', s⟩ := h c cs
      exact ⟨v, w'', hK _ _ r', s⟩
     | round l f t x y => exact h.elim
     | _ => exact h.elim
    | halt hh w' =>
     cases hh <;> exact h
   ·exact (let ⟨a, w, q⟩ := h; (hQ a w q).elim)
  ·rename_i hw
   rw [if_neg hw]
   exact ⟨fun f _ => hF.fn f, hK _ _ h⟩
theorem wpAnyIn_of (hF : Fw F P) {md : Region.Mode} {Q : Exit → Act → World → Prop} (hQ : ∀ a w, ¬ Q .outgrown a w) (hd : ∀ (i : Nat) o, ops[i]? = some o → ∀ c, o.op ≠ .defer c) : ∀ (fuel : Nat) (listed : Array Bool) (a : Act) (w : World), wpAny P md ops Q fuel listed a w → wpAnyIn F m P md ops Q fuel listed a w
 | 0, _, _, _, h => h
 | fuel + 1, listed, a, w, h => ⟨h.1, fun i hi => wpOpIn_of hF hQ (hd i) (fun a' w' => wpAnyIn_of hF hQ hd fuel _ a' w') (h.2 i hi)⟩
theorem nd_ops {ops : Array Oper} (h : (ops.toList.all fun o => ndOp o.op) = true) : ∀ o ∈ ops.toList, ∀ c, o.op ≠ .defer c := fun o ho c e => by
 have := List.all_eq_true.1 h o ho
 rw [e] at this
 simp [ndOp] at this
theorem wpIn_of_reg (hmix : P.follows .mixedOrders = true) (hF : Fw F P) {Q : Exit → Act → World → Prop} (hQ : ∀ a w, ¬ Q .outgrown a w) (hd : (ops.toList.all fun o => ndOp o.op) = true) {draw : Bool} {id : Nat} {a : Act} {w : World} (h : RegWp P ops draw Q a w) : (Code.region id ops draw).wpIn F m P Q a w := by
 cases draw with
 | false =>
  refine wpIn_region_list ?_
  have := wpListIn_of (m := m) (rest := []) hF (Q := Q) hQ (fun _ _ _ h => h) (fun a w h => h) ops.toList a w (nd_ops hd) h
  rwa [List.append_nil] at this
 | true => exact wpIn_region_any hmix (wpAnyIn_of hF hQ (fun i o ho => nd_ops hd o (by have := List.mem_of_getElem? (l := ops.toList) (i := i) (a := o) (by simpa using ho); exact this)) _ _ _ _ h)
end
end Go.Proofs.YtmjklcpdfmgcaaaDoor
/-
 The evaluator, part 9: one operation is right.
-/
namespace Go.Proofs.YtmjklcpdfmgcaaaDoor
open Go Go.RowKit
open Go.IntKind (wrap i64 i32 i16 i8 u64 u32 u16 u8)
theorem look_stay (np t : Nat) : ∀ (l : List (Nat × MV)), look t (stayTm np l) = stayM np (look t l)
 | [] => rfl
 | (u, m) :: r => by
  simp only [stayTm, look]
  cases u.beq t with
  | true => rfl
  | false => exact look_stay np t r
theorem stayM_rep {c c' : Ctx} {w w' : World} {np : Nat} (hk : ∀ i, i < np → c.live i → c'.live i ∧ c'.β i = c.β i ∧ c'.sz i = c.sz i) {m : MV} {v : Value} (h : Rep c w m v) : Rep c' w' (stayM np m) v := by
 cases m <;> try exact trivial
 case bool b => exact h
 case int k n => exact h
 case val u => exact h
 case bp i off =>
  simp only [stayM]
  cases hb : i.blt np with
  | false => exact trivial
  | true =>
   rw [Nat.blt_eq] at hb
   obtain ⟨h1, h2⟩ := rep_cell h rfl (by simp) rfl
   obtain ⟨q1, q2, _⟩ := hk i hb h1
   exact (rep1_iff rfl).2 ((rep1_cell rfl (by simp)).2 ⟨q1, by rw [q2]; exact h2⟩)
 case br i idx off =>
  simp only [stayM]
  cases hb : i.blt np with
  | false => exact trivial
  | true =>
   rw [Nat.blt_eq] at hb
   obtain ⟨h1, h2⟩ := rep_cell h rfl (by simp) rfl
   obtain ⟨q1, q2, q3⟩ := hk i hb h1
   exact (rep1_iff rfl).2 ((rep1_cell rfl (by simp)).2 ⟨q1, by rw [q2, q3]; exact h2⟩)
 case bs i off len =>
  simp only [stayM]
  cases hb : i.blt np with
  | false => exact trivial
  | true =>
   rw [Nat.blt_eq] at hb
   obtain ⟨a, cap, h1, h2, h3⟩ := rep_cell h rfl (by simp) rfl
   refine (rep1_iff rfl).2 ((rep1_cell rfl (by simp)).2 ⟨a, cap, h1, h2, h3.imp (fun ⟨h4, h5, h6⟩ => ?_) id⟩)
   obtain ⟨q1, q2, q3⟩ := hk i hb h5
   exact ⟨by rw [q2]; exact h4, q1, by rw [q3]; exact h6⟩
/-! ### BLOCKS OF WHICH LESS IS SAID -/
theorem nth_forget (i : Nat) : ∀ (l : List Box) (j k : Nat) (b' : Box), nth (forgetB i j l) k = some b' → ∃ b, nth l k = some b ∧ b.fz = b'.fz ∧ (b' = b ∨ ∃ m, b.c = .one m ∧ b'.c = .one (cond m.isAgg (.junk m.width) .any))
 | [], _, _, _, h => by simp [forgetB, nth] at h
 | b :: r, j, 0, b', h => by
  simp only [forgetB, nth, Option.some.injEq] at h
  refine ⟨b, rfl, ?_⟩
  cases hj : j.beq i with
  | true => rw [hj, cond_true] at h; subst h; exact ⟨rfl, .inl rfl⟩
  | false =>
   rw [hj, cond_false] at h
   split at h
   ·rename_i m hm
    cases hc : m.ment i with
    | true => rw [hc, cond_true] at h; subst h; exact ⟨rfl, .inr ⟨m, hm, rfl⟩⟩
    | false => rw [hc, cond_false] at h; subst h; exact ⟨rfl, .inl rfl⟩
   ·subst h; exact ⟨rfl, .inl rfl⟩
 | b :: r, j, k + 1, b', h => nth_forget i r (j + 1) k b' h
theorem forget_nth (i : Nat) : ∀ (l : List Box) (j k : Nat) (b : Box), nth l k = some b → ∃ b', nth (forgetB i j l) k = some b' ∧ b'.fz = b.fz
 | [], _, _, _, h => by simp [nth] at h
 | b :: r, j, 0, b', h => by
  simp only [nth, Option.some.injEq] at h
  subst h
  refine ⟨_, rfl, ?_⟩
  cases j.beq i with
  | true => rfl
  | false =>
   simp only [cond_false]
   split
   ·rename_i m _
    cases m.ment i <;> rfl
   ·rfl
 | b :: r, j, k + 1, b', h => forget_nth i r (j + 1) k b' h
theorem length_forget (i : Nat) : ∀ (l : List Box) (j : Nat), (forgetB i j l).length = l.length
 | [], _ => rfl
 | _ :: r, j => by simp [forgetB, length_forget i r (j + 1)]
theorem St.forget {S0 : Nat → Prop} {w0 : Base} {w : World} {s : MS} {c : Ctx} {a : Act} (h : St S0 w0 s c a w) (i : Nat) : St S0 w0 (s.forget i) c a w := by
 have hM := h.mem
 refine ⟨⟨hM.ext, hM.S0lt, hM.gl, hM.hS, fun b => ?_, hM.inj, fun j hj => ⟨(hM.fresh j hj).1, (hM.fresh j hj).2.1, by show j < (forgetB i 0 s.bx).length; rw [length_forget]; exact (hM.fresh j hj).2.2⟩, fun j b' hj hb => ?_, hM.pin⟩, h.tm, h.size, h.defers, h.np⟩
 ·rw [hM.hW]
  constructor
  ·rintro ⟨j, b0, h1, h2, h3, h4⟩
   obtain ⟨b', q1, q2⟩ := forget_nth i s.bx 0 j b0 h2
   exact ⟨j, b', h1, q1, q2.trans h3, h4⟩
  ·rintro ⟨j, b', h1, h2, h3, h4⟩
   obtain ⟨b0, q1, q2, _⟩ := nth_forget i s.bx 0 j b' h2
   exact ⟨j, b0, h1, q1, q2.trans h3, h4⟩
 ·obtain ⟨b0, q1, q2, q3⟩ := nth_forget i s.bx 0 j b' hb
  obtain ⟨arr, ty, r1, r2, r3, r4⟩ := hM.box j b0 hj q1
  rcases q3 with rfl | ⟨m, e1, e2⟩
  ·exact ⟨arr, ty, r1, r2, r3, r4⟩
  ·rw [e1] at r3 r4
   obtain ⟨cs, k1, k2⟩ := r4
   refine ⟨arr, ty, r1, r2, by rw [e2]; exact r3, ?_⟩
   rw [e2]
   refine ⟨cs, ?_, k2⟩
   cases hg : m.isAgg with
   | true => exact ⟨RepC.len _ _ k1, RepC.one _ _ k1⟩
   | false =>
    refine any_of_cell k1 ?_
    exact width_cell hg (fun ms e => by subst e; exact k1.elim)
/-! ### RUNS -/
theorem exec_yield {P : Program} {o : Oper} {c : Call} {g : Operand} {l : Nat} (ho : o.op = .call c) (hc : c.callee = .value g) {ρ : Operand → Value} (hg : ρ g = .func (.yield l) #[] #[]) (w : World) : (execOp ρ o).run P w = (Instr.yield l (c.args.map ρ)).run P w := by
 simp [execOp, ho, resolve, hc, Deferred.ofValue, hg, invoke]
theorem exec_enter {P : Program} {o : Oper} {c : Call} {g : Operand} {f : FuncId} (ho : o.op = .call c) (hc : c.callee = .value g) {ρ : Operand → Value} (hg : ρ g = .func (.func f) #[] #[]) (hcf : ∀ args w, (callFunc f args).run P w = .ok (.enter f args) w) (w : World) : (execOp ρ o).run P w = .ok (.enter f (c.args.map ρ)) w := by
 simp [execOp, ho, resolve, hc, Deferred.ofValue, hg, invoke, hcf]
theorem repAll_of {c : Ctx} {w : World} {s : MS} {a : Act} : ∀ (l : List Operand), (∀ x ∈ l, Rep c w (s.ev x) (a.eval x)) → ((l.map s.ev).all fun m => !m.isTup) = true → RepAll c w (l.map s.ev) (l.map a.eval)
 | [], _, _ => rfl
 | x :: l, h, ht => by
  simp only [List.map_cons, List.all_cons, Bool.and_eq_true, Bool.not_eq_true'] at ht
  exact ⟨_, _, rfl, (rep1_iff ht.1).1 (h x (by simp)), repAll_of l (fun y hy => h y (by simp [hy])) ht.2⟩
theorem St.at {S0 : Nat → Prop} {w1 : Base} {s : MS} {c : Ctx} {a : Act} {w w' : World} {N : Nat} (h : St S0 w1 s c a w) (k : Moved N w w') : St S0 (baseAt w' c w1.pin w1.df) s c a w' :=
 ⟨h.mem.moved k w1.pin w1.df h.mem.pin, fun t => (h.tm t).moved k, h.size, h.defers, h.np⟩
structure YSnd (F : Fence) (n : Nat) (P : Program) (S0 : Nat → Prop) (w0 : Base) (pin : Nat → Nat → Sz → Prop) (zs : Option Ex → List (Nat × Obj)) (H : Hnd) : Prop where
 h : ∀ (args : List MV) (s : MS) (mp : Option (Nat × MapC)) (c : Ctx) (a : Act) (w : World) (vs : List Value) kN kX, H.yh args s ⟨mp, none⟩ kN kX → XSt P S0 w0 pin zs s ⟨mp, none⟩ c a w → RepAll c w args vs →
  ∃ f0 tmps assign body, (Instr.yield H.L vs.toArray).run P w = .ok (.round H.L f0 tmps assign body) w ∧ RoundIn F n P H.L f0 tmps assign body w (fun e w' =>
   (e = .returned (.bool true) ∧ ∃ bx mp' c', kN bx mp' ∧ XSt P S0 w0 pin zs ⟨s.n, stayTm s.np s.tm, bx, s.np⟩ ⟨mp', none⟩ c' a w') ∨
   (e = .returned (.bool false) ∧ ∃ e' bx mp' c', kX e' bx mp' ∧ XSt P S0 w0 pin zs ⟨s.n, stayTm s.np s.tm, bx, s.np⟩ ⟨mp', some e'⟩ c' a w'))
theorem XSt.putO {P : Program} {S0 : Nat → Prop} {w0 : Base} {pin : Nat → Nat → Sz → Prop} {zs : Option Ex → List (Nat × Obj)} {s : MS} {x : XS} {c : Ctx} {a : Act} {w : World} (h : XSt P S0 w0 pin zs s x c a w) {t : Option Nat} {m : MV} {v : Value} (ht : dstOk t s.n = true) (hr : Rep c w m v) :
  XSt P S0 w0 pin zs (s.putO t m) x c (a.put t v) w := by
 obtain ⟨w1, h1, _, h3⟩ := h.with_
 exact h3 _ _ _ _ (h1.putO ht hr)
theorem XSt.tm {P : Program} {S0 : Nat → Prop} {w0 : Base} {pin : Nat → Nat → Sz → Prop} {zs : Option Ex → List (Nat × Obj)} {s : MS} {x : XS} {c : Ctx} {a : Act} {w : World} (h : XSt P S0 w0 pin zs s x c a w) (y : Operand) : Rep c w (s.ev y) (a.eval y) := by
 obtain ⟨w1, h1, _, _⟩ := h.with_
 exact (opnds_of_tmps (l := [y]) fun t _ => h1.tm t) y (by simp)
theorem key_spec {P : Program} {t : TypeId} {mv kv : MV} {x : XS} {p : Prop} {B : Nat} {m : MapC} {l : List Int} (h : mapKey? P t mv kv x = some (p, B, m, l)) (hp : p) : mv = .val (.map (some B)) ∧ x.mp = some (B, m) ∧ wfL m.kk l ∧ l.length = m.n ∧
  ∃ ms, kv = .st ms ∧ arrInts m.kk ms = some l ∧ ∃ et, P.underlying t = some (.map m.kt et) ∧ ∀ w, (zeroValue et).run P w = .ok (.bool false) w := by
 unfold mapKey? at h
 split at h
 ·split at h
  ·split at h
   ·rename_i B0
    split at h
    ·rename_i B' m' hmp
     split at h
     ·rename_i kt q n hty
      split at h
      ·rename_i ms
       split at h
       ·rename_i l' hl'
        cases hc : l'.length.beq n with
        | false => rw [hc] at h; simp at h
        | true =>
         rw [hc] at h
         simp only [cond_true, Option.some.injEq, Prod.mk.injEq] at h
         obtain ⟨rfl, rfl, rfl, rfl⟩ := h
         obtain ⟨⟨rfl, e1, e2, e3⟩, hw⟩ := hp
         simp only [Nat.beq_eq] at hc
         obtain ⟨et, e, k1, _, _, _, _, k6⟩ := mapTy_spec hty
         exact ⟨rfl, hmp, by rw [e2]; exact hw, by rw [e3]; exact hc, ms, rfl, by rw [e2]; exact hl', et, by rw [e1]; exact k1, k6⟩
       ·simp at h
      ·simp at h
     ·simp at h
    ·simp at h
   ·simp at h
  ·simp at h
 ·simp at h
theorem key_val {c : Ctx} {w : World} {q : IntKind} {ms : List MV} {l : List Int} {v : Value} (h : arrInts q ms = some l) (hr : Rep c w (.st ms) v) : v = keyV q l := by
 obtain ⟨cs, h1, h2⟩ := (rep1_agg rfl).1 ((rep1_iff rfl).1 hr)
 rw [h1, keyV, ← intsOf_rep _ _ _ h h2]
end Go.Proofs.YtmjklcpdfmgcaaaDoor
/-
 The evaluator, part 10: rows of operations, regions, code are right.
-/
namespace Go.Proofs.YtmjklcpdfmgcaaaDoor
open Go Go.RowKit
open Go.IntKind (wrap i64 i32 i16 i8 u64 u32 u16 u8)
section
variable {F : Fence} {P : Program} {n : Nat} {S0 : Nat → Prop} {w0 : Base} {pin : Nat → Nat → Sz → Prop} {zs : Option Ex → List (Nat × Obj)} {H : Hnd} {X : XE P}
def XOp.callK : XOp → Bool
 | .mk _ => false
 | .look _ _ _ => false
 | .upd _ _ _ _ => false
 | _ => true
theorem xopCall_kind {s : MS} {c : Call} : (xopCall X s c).callK = true := by
 unfold xopCall
 split
 ·split
  ·split
   ·split
    ·exact Bool.rec (motive := fun b => (cond b (XOp.yield _ _) XOp.plain).callK = true) rfl rfl _
    ·rfl
   ·rfl
  ·split
   ·exact Bool.rec (motive := fun b => (cond b (XOp.inl _ _) XOp.plain).callK = true) rfl rfl _
   ·rfl
  ·rfl
 ·split
  ·split
   ·split <;> rfl
   ·rfl
  ·rfl
 ·rfl
theorem xop_mk {s : MS} {o : Op} {t : TypeId} (h : xop X s o = .mk t) : o = .makeMap t none := by
 unfold xop at h
 split at h
 ·split at h
  ·simp only [XOp.mk.injEq] at h; subst h; rfl
  ·simp at h
 ·rename_i t m k ok; cases ok <;> simp at h
 ·simp at h
 ·have := xopCall_kind (X := X) (s := s) (c := by assumption)
  rw [h] at this
  simp [XOp.callK] at this
 ·simp at h
theorem xop_look {s : MS} {o : Op} {t : TypeId} {m k : MV} (h : xop X s o = .look t m k) : ∃ m' k', o = .lookup t m' k' false ∧ m = s.ev m' ∧ k = s.ev k' := by
 unfold xop at h
 split at h
 ·split at h <;> simp at h
 ·rename_i t m k ok
  cases ok with
  | true => simp at h
  | false =>
   simp only [cond_false, XOp.look.injEq] at h
   obtain ⟨rfl, rfl, rfl⟩ := h
   exact ⟨_, _, rfl, rfl, rfl⟩
 ·simp at h
 ·have := xopCall_kind (X := X) (s := s) (c := by assumption)
  rw [h] at this
  simp [XOp.callK] at this
 ·simp at h
theorem xop_upd {s : MS} {o : Op} {t : TypeId} {m k v : MV} (h : xop X s o = .upd t m k v) : ∃ m' k' v', o = .mapUpdate t m' k' v' ∧ m = s.ev m' ∧ k = s.ev k' ∧ v = s.ev v' := by
 unfold xop at h
 split at h
 ·split at h <;> simp at h
 ·rename_i t m k ok; cases ok <;> simp at h
 ·simp only [XOp.upd.injEq] at h
  obtain ⟨rfl, rfl, rfl, rfl⟩ := h
  exact ⟨_, _, _, rfl, rfl, rfl, rfl⟩
 ·have := xopCall_kind (X := X) (s := s) (c := by assumption)
  rw [h] at this
  simp [XOp.callK] at this
 ·simp at h
theorem xop_call {s : MS} {o : Op} {l : Nat} {args : List MV} (h : xop X s o = .yield l args ∨ xop X s o = .inl l args) : ∃ c g, o = .call c ∧ c.callee = .value g ∧ args = c.args.toList.map s.ev ∧
  ((xop X s o = .yield l args ∧ s.ev g = .val (.func (.yield l) #[] #[])) ∨ (xop X s o = .inl l args ∧ s.ev g = .fn l [])) := by
 have h0 := h
 unfold xop at h
 split at h
 ·split at h <;> simp at h
 ·rename_i t m k ok; cases ok <;> simp at h
 ·simp at h
 ·rename_i c
  unfold xopCall at h
  split at h
  ·rename_i g hg
   split at h
   ·rename_i v hv
    split at h
    ·rename_i fn a b
     split at h
     ·rename_i l'
      cases hc : (a.size.beq 0 && b.size.beq 0) with
      | false => rw [hc] at h; simp at h
      | true =>
       rw [hc] at h
       simp only [cond_true, XOp.yield.injEq, reduceCtorEq, or_false] at h
       obtain ⟨rfl, rfl⟩ := h
       simp only [Bool.and_eq_true, Nat.beq_eq] at hc
       have ha : a = #[] := Array.eq_empty_of_size_eq_zero hc.1
       have hb : b = #[] := Array.eq_empty_of_size_eq_zero hc.2
       subst ha; subst hb
       refine ⟨c, g, rfl, hg, rfl, .inl ⟨?_, hv⟩⟩
       rcases h0 with h0 | h0
       ·exact h0
       ·exfalso
        simp only [xop, xopCall, hg, hv] at h0
        simp at h0
     ·simp at h
    ·simp at h
   ·rename_i f caps hv
    split at h
    ·cases hc : inlIs X f with
     | false => rw [hc] at h; simp at h
     | true =>
      rw [hc] at h
      simp only [cond_true, XOp.inl.injEq, reduceCtorEq, false_or] at h
      obtain ⟨rfl, rfl⟩ := h
      refine ⟨c, g, rfl, hg, rfl, .inr ⟨?_, hv⟩⟩
      rcases h0 with h0 | h0
      ·exfalso
       simp only [xop, xopCall, hg, hv, hc] at h0
       simp at h0
      ·exact h0
    ·simp at h
   ·simp at h
  ·split at h
   ·split at h
    ·split at h <;> simp at h
    ·simp at h
   ·simp at h
  ·simp at h
 ·simp at h
variable {ops : Array Oper} {Q : Exit → Act → World → Prop} {rest : List Oper}
theorem step_plain (hF : Fw F P) {E : Env P} {o : Oper} (hnd : ∀ c, o.op ≠ .defer c) {s : MS} {x : XS} {c : Ctx} {a : Act} {w : World} {K : MS → XS → Prop} (h : evSeq E ops.toList (fun _ => False) [o] s (fun s' => K s' x)) (hs : XSt P S0 w0 pin zs s x c a w)
  (hK : ∀ s' x' c' a' w', K s' x' → XSt P S0 w0 pin zs s' x' c' a' w' → wpListIn F n P ops Q rest a' w') : wpListIn F n P ops Q (o :: rest) a w := by
 obtain ⟨w1, hst, hreb, hback⟩ := hs.with_
 have := evSeq_sound (Q := fun e a' w' => match e with | .normal => ∃ s' c', K s' x ∧ St S0 w1 s' c' a' w' | _ => False) (ops := ops) (w0 := w1) (fun m v w' a' hk _ _ _ => hk.elim) [o] s _ c a w h hst (fun s' c' a' w' q1 q2 _ => ⟨s', c', q1, q2⟩)
 exact wpListIn_of hF (fun a w q => q) (fun ch a w q => q.elim) (fun a' w' ⟨s', c', q1, q2⟩ => hK s' x c' a' w' q1 (hback _ _ _ _ q2)) [o] a w (by simpa using hnd) this
theorem step_value (hF : Fw F P) {o : Oper} (hnd : ∀ c, o.op ≠ .defer c) (hg : o.guard = none) {a : Act} {w w' : World} {v : Value} (hrun : (execOp a.eval o).run P w = .ok (.value v) w') (h : wpListIn F n P ops Q rest (a.put o.dst v) w') : wpListIn F n P ops Q (o :: rest) a w := by
 unfold wpListIn
 rw [if_pos (by simp [Region.wanted, hg])]
 refine ⟨fun f _ => hF.fn f, ?_⟩
 rw [hF.sem _ _ hnd, hrun, Oper.uponIn_value]
 exact h
theorem inl_sound (hmix : P.follows .mixedOrders = true) {ie : ItE P} {args : List MV} {s : MS} {x : XS} {c : Ctx} {a : Act} {w : World} {K : MV → List Box → Prop} (h : evInl ie args s K) (hs : XSt P S0 w0 pin zs s x c a w) {vs : Array Value} (hv : RepAll c w args vs.toList) :
  Calls P ie.f vs w fun e w' => ∃ v m bx c', e = .returned v ∧ K m bx ∧ Rep c' w' m v ∧ XSt P S0 w0 pin zs ⟨s.n, stayTm s.bx.length s.tm, bx, s.np⟩ x c' a w' := by
 unfold evInl at h
 split at h
 ·rename_i body hb
  split at h
  ·rename_i t hres
   cases hl : args.length.ble ie.fn.ntmps with
   | false => rw [hl] at h; exact h.elim
   | true =>
    rw [hl, cond_true] at h
    have hle : args.length ≤ ie.fn.ntmps := Nat.le_of_ble_eq_true hl
    have hlen := repAll_length _ _ hv
    simp only [Array.length_toList] at hlen
    obtain ⟨w1, Ds, hO, hst, hp, hdf⟩ := hs
    have hM := hst.mem
    generalize hpa : (fun (i : Nat) (b : Nat) (z : Sz) => c.live i ∧ c.β i = b ∧ c.sz i = z) = pa
    have hpa' : ∀ i b z, pa i b z → c.live i ∧ c.β i = b ∧ c.sz i = z := by subst hpa; exact fun _ _ _ h => h
    have k0 := Moved.refl w0.w.heap.size w
    have hst2 : St S0 (baseAt w c pa []) ⟨ie.fn.ntmps, numbered 0 args, s.bx, s.bx.length⟩ c { tmps := vs ++ Array.replicate (ie.fn.ntmps - vs.size) undef, defers := [] } w := by
     refine ⟨hM.moved k0 pa [] hpa', fun t => ?_, by simp; omega, rfl, fun i b z q => (hM.fresh i (hpa' i b z q).1).2.2⟩
     have := (look_numbered args vs.toList 0 hv t).2 (Nat.zero_le _)
     rw [Nat.sub_zero] at this
     have e : (vs ++ Array.replicate (ie.fn.ntmps - vs.size) undef).getD t undef = vs.toList.getD t undef := by
      simp only [Array.getD_eq_getD_getElem?, Array.getElem?_append, List.getD_eq_getElem?_getD, Array.getElem?_toList]
      split
      ·rfl
      ·rename_i hge
       rw [Array.getElem?_replicate, Array.getElem?_eq_none (by omega : vs.size ≤ t)]
       split <;> rfl
     rw [e]
     exact this
    have hO2 := hO.move hM k0 (fun e _ _ => rfl) pa []
    refine calls_of_wp ie.hf hb (evCode_sound hmix body _ _ c _ w _ h hst2 (fun e s' c' a' w' hk hst' => ?_) (fun m v w' a' hk => hk.elim))
    have fin : K (look t s'.tm) s'.bx → ∃ v, (results ie.fn a'.tmps).run P w' = .ok v w' ∧ ∃ v' m bx c'', Ending.returned v = .returned v' ∧ K m bx ∧ Rep c'' w' m v' ∧ XSt P S0 w0 pin zs ⟨s.n, stayTm s.bx.length s.tm, bx, s.np⟩ x c'' a w' := by
     intro hk
     refine ⟨a'.tmps.getD t undef, ?_, _, look t s'.tm, s'.bx, c', rfl, hk, hst'.tm t, ?_⟩
     ·rw [results_eq, Array.mapM_eq_mapM_toList, hres]
      simp [resF]
     ·have hM' := hst'.mem
      have hkeep : ∀ i, i < s.bx.length → c.live i → c'.live i ∧ c'.β i = c.β i ∧ c'.sz i = c.sz i := fun i _ hi => hM'.pin i (c.β i) (c.sz i) (by subst hpa; exact ⟨hi, rfl, rfl⟩)
      have k1 : Moved w0.w.heap.size w' w' := Moved.refl _ _
      have hpin' : ∀ i b z, w1.pin i b z → c'.live i ∧ c'.β i = b ∧ c'.sz i = z := fun i b z q => by
       obtain ⟨q1, q2, q3⟩ := hM.pin i b z q
       obtain ⟨r1, r2, r3⟩ := hkeep i (hM.fresh i q1).2.2 q1
       exact ⟨r1, r2.trans q2, r3.trans q3⟩
      refine ⟨baseAt w' c' w1.pin w1.df, Ds, hO2.move hM' k1 (fun e _ _ => rfl) w1.pin w1.df, ⟨hM'.moved k1 w1.pin w1.df hpin', fun u => ?_, hst.size, hst.defers, hst.np⟩, hp, hdf⟩
      rw [look_stay]
      exact stayM_rep hkeep (hst.tm u)
    cases e with
    | normal =>
     obtain ⟨v, q1, q2⟩ := fin hk
     exact ⟨hst'.defers, v, q1, q2⟩
    | ret =>
     obtain ⟨v, q1, q2⟩ := fin hk
     exact ⟨hst'.defers, v, q1, q2⟩
    | exit id => exact hk.elim
  ·exact h.elim
 ·exact h.elim
theorem findIt_spec {f : Nat} {ie : ItE P} : ∀ {l : List (ItE P)}, findIt f l = some ie → ie.f = f
 | [], h => by simp [findIt] at h
 | c :: r, h => by
  simp only [findIt] at h
  cases hc : c.f.beq f with
  | true => rw [hc, cond_true, Option.some.injEq] at h; subst h; simpa using hc
  | false => rw [hc, cond_false] at h; exact findIt_spec h
theorem step_ok (hmix : P.follows .mixedOrders = true) (hF : Fw F P) (hY : YSnd F (n - 1) P S0 w0 pin zs H) (hz : ∀ pe z, z ∈ zs pe → z.2.isWalk = false) {o : Oper} (hnd : ∀ c, o.op ≠ .defer c) {s : MS} {x : XS} {c : Ctx} {a : Act} {w : World} {K : MS → XS → Prop}
  (h : evStepX X H ops.toList o s x K) (hs : XSt P S0 w0 pin zs s x c a w)
  (hK : ∀ s' x' c' a' w', K s' x' → XSt P S0 w0 pin zs s' x' c' a' w' → wpListIn F n P ops Q rest a' w') : wpListIn F n P ops Q (o :: rest) a w := by
 have hdep : ¬ F.depth.isSome = true := by rw [hF.depth]; simp
 unfold evStepX at h
 split at h
 ·exact step_plain hF hnd h hs hK
 ·rename_i i _
  obtain ⟨w1, hst, _, hback⟩ := hs.with_
  exact step_plain hF hnd h (hback _ _ _ _ (hst.forget i)) hK
 ·split at h
  ·exact h.elim
  ·rename_i hg
   cases hdd : dstOk o.dst s.n with
   | false => rw [hdd] at h; exact h.elim
   | true =>
    rw [hdd, cond_true] at h
    split at h
    ·
     rename_i t hx
     split at h
     ·rename_i kt q n' hty
      split at h
      ·rename_i hmp
       have ho := xop_mk hx
       obtain ⟨et, e, _, _, k3, k4, k5, _⟩ := mapTy_spec hty
       have hrun : (execOp a.eval o).run P w = .ok (.value (.map (some w.heap.size))) (w.alloc (.map #[] 0)) := by
        simp [execOp, ho, Instr.makeMap, Result.andThen]
       refine step_value hF hnd hg hrun (hK _ _ c _ _ (h w.heap.size) ?_)
       obtain ⟨w1, Ds, hO, hst, hp, hdf⟩ := hs
       have hN : w0.w.heap.size ≤ w.heap.size := Nat.le_trans hO.reb.ext.size hst.mem.ext.size
       have k := Moved.alloc hN (.map #[] 0)
       have hO2 := hO.move hst.mem k (fun e he _ => Below.heap_alloc w _ e he) w1.pin w1.df
       refine ⟨_, Ds, ⟨hO2.reb, hO2.nd, hO2.ds, hO2.zs, fun B m hBm => ?_, hO2.dis⟩, (hst.at k).putO hdd ((rep1_iff rfl).2 ((rep1_cell rfl (by simp)).2 ⟨rfl, rfl⟩)), hp, hdf⟩
       simp only [Option.some.injEq, Prod.mk.injEq] at hBm
       obtain ⟨rfl, rfl⟩ := hBm
       refine ⟨⟨⟨e, k3, k4⟩, k5⟩, _, ⟨#[], 0, rfl, fun y hy => by simp at hy, fun l _ hf => by simp at hf⟩, World.alloc_heap_new w _, ?_, hN⟩
       rintro ⟨i, hi, he⟩
       have := (hst.mem.fresh i hi).2.1
       omega
      ·exact h.elim
     ·exact h.elim
    ·
     rename_i t m kv hx
     split at h
     ·rename_i p B mm l hkey
      obtain ⟨hp, h⟩ := h
      obtain ⟨m', k', ho, rfl, rfl⟩ := xop_look hx
      obtain ⟨q1, q2, q3, q4, ms, q5, q6, et, q7, q8⟩ := key_spec hkey hp
      have r1 := hs.tm m'
      have r2 := hs.tm k'
      rw [q1] at r1
      rw [q5] at r2
      obtain ⟨w1, Ds, hO, hst, hp, hdf⟩ := id hs
      obtain ⟨hT, ob, hmo, hext⟩ := hO.mp B mm q2
      have hnow := (hext.now hst.mem).1
      have hrun : (execOp a.eval o).run P w = .ok (.value (.bool (mm.f l))) w := by
       have := run_lookup (P := P) (w := w) hT hmo hnow q4 q3 q7 (q8 w)
       rw [← key_val q6 r2, ← (rep_val r1).1] at this
       simp [execOp, ho, this, Sem.run_bind, Result.andThen]
      exact step_value hF hnd hg hrun (hK _ _ c _ _ h (hs.putO hdd (mk_bool _)))
     ·exact h.elim
    ·
     rename_i t m kv v hx
     split at h
     ·rename_i p B mm l hkey
      split at h
      ·rename_i b
       split at h
       ·rename_i hdst
        obtain ⟨⟨hp, hb⟩, h⟩ := h
        subst hb
        obtain ⟨m', k', v', ho, e1, e2, e3⟩ := xop_upd hx
        subst e1 e2
        obtain ⟨q1, q2, q3, q4, ms, q5, q6, et, q7, q8⟩ := key_spec hkey hp
        have r1 := hs.tm m'
        have r2 := hs.tm k'
        have r3 := hs.tm v'
        rw [q1] at r1
        rw [q5] at r2
        rw [← e3] at r3
        obtain ⟨w1, Ds, hO, hst, hp, hdf⟩ := hs
        obtain ⟨hT, ob, hmo, hext⟩ := hO.mp B mm q2
        obtain ⟨hnow, hnown⟩ := hext.now hst.mem
        obtain ⟨o', hu, hmo'⟩ := run_update (P := P) (w := w) hT hmo hnow q4 q3 q7
        have hrun : (execOp a.eval o).run P w = .ok .skip (w.putObj B o') := by
         rw [← key_val q6 r2, ← (rep_val r1).1, ← rep_bool r3] at hu
         simp [execOp, ho, hu, Sem.run_bind, Result.andThen]
        unfold wpListIn
        rw [if_pos (by simp [Region.wanted, hg])]
        refine ⟨fun f _ => hF.fn f, ?_⟩
        rw [hF.sem _ _ hnd, hrun, Oper.uponIn_skip, hdst]
        have hlt := (Array.getElem?_eq_some_iff.1 hnow).1
        have k := Moved.put (N := w0.w.heap.size) hnow hext.lo hmo.notCells hmo'.notCells
        have hne : ∀ e ob', Extn w0 w1 e ob' → ob'.isWalk = false → e ≠ B := fun e ob' q hw hh => by
         subst hh
         have := (q.now hst.mem).1
         rw [hnow, Option.some.injEq] at this
         obtain ⟨es, clock, he, _⟩ := hmo
         rw [← this, he] at hw
         simp [Obj.isWalk] at hw
        refine hK _ _ c _ _ h ⟨baseAt (w.putObj B o') c w1.pin w1.df, Ds, ⟨hO.reb.move hst.mem k w1.pin w1.df, hO.nd, fun D hD => (hO.ds D hD).move hst.mem (World.putObj_heap_other (hne D _ (hO.ds D hD) rfl)) _ _, fun z hzz => (hO.zs z hzz).move hst.mem (World.putObj_heap_other (hne _ _ (hO.zs z hzz) (hz _ z hzz))) _ _, fun B' m' hBm => ?_, hO.dis⟩, hst.at k, hp, hdf⟩
        simp only [Option.some.injEq, Prod.mk.injEq] at hBm
        obtain ⟨rfl, rfl⟩ := hBm
        exact ⟨⟨hT.ex, hT.size⟩, o', hmo', World.putObj_heap_same hlt, hnown, hext.lo⟩
       ·exact h.elim
      ·exact h.elim
     ·exact h.elim
    ·
     rename_i l args hx
     cases hta : (args.all fun m => !m.isTup) with
     | false => rw [hta] at h; exact h.elim
     | true =>
      rw [hta, cond_true] at h
      split at h
      ·rename_i hpe
       obtain ⟨rfl, h⟩ := h
       obtain ⟨cc, g, ho, hc, rfl, hh⟩ := xop_call (.inl hx)
       rcases hh with ⟨_, hev⟩ | ⟨hh, _⟩
       ·have hgv : a.eval g = .func (.yield H.L) #[] #[] := by
         have := hs.tm g
         rw [hev] at this
         exact (rep_val this).1
        have hall := repAll_of (c := c) (w := w) (s := s) (a := a) cc.args.toList (fun y _ => hs.tm y) hta
        have hx2 : x = ⟨x.mp, none⟩ := by cases x; simp only at hpe; subst hpe; rfl
        rw [hx2] at h hs
        obtain ⟨f0, tmps, assign, body, hyr, hR⟩ := hY.h _ s x.mp c a w _ _ _ h hs hall
        have eargs : (cc.args.toList.map a.eval).toArray = cc.args.map a.eval := by apply Array.ext'; simp
        rw [eargs] at hyr
        unfold wpListIn
        rw [if_pos (by simp [Region.wanted, hg])]
        refine ⟨fun f _ => hF.fn f, ?_⟩
        rw [hF.sem _ _ hnd, exec_yield ho hc hgv, hyr, Oper.uponIn_round]
        refine ⟨fun h => absurd h hdep, hR.mono fun e w' he => ?_⟩
        rcases he with ⟨rfl, bx, mp', c', q1, q2⟩ | ⟨rfl, e', bx, mp', c', q1, q2⟩
        ·exact hK _ _ c' _ _ q1 (q2.putO hdd (mk_bool _))
        ·exact hK _ _ c' _ _ q1 (q2.putO hdd (mk_bool _))
       ·rw [hh] at hx; simp at hx
      ·exact h.elim
    ·
     rename_i f args hx
     cases hta : (args.all fun m => !m.isTup) with
     | false => rw [hta] at h; exact h.elim
     | true =>
      rw [hta, cond_true] at h
      split at h
      ·rename_i ie hie
       have hf := findIt_spec hie
       obtain ⟨cc, g, ho, hc, rfl, hh⟩ := xop_call (.inr hx)
       rcases hh with ⟨hh, _⟩ | ⟨_, hev⟩
       ·rw [hh] at hx; simp at hx
       ·have hgv : a.eval g = .func (.func f) #[] #[] := by
         have := hs.tm g
         rw [hev] at this
         obtain ⟨cs, h1, h2, _⟩ := rep_cell this rfl (by simp) rfl
         have h2 : cs = [] := h2
         subst h2
         simpa using h1
        have hall := repAll_of (c := c) (w := w) (s := s) (a := a) cc.args.toList (fun y _ => hs.tm y) hta
        have eargs : (cc.args.toList.map a.eval).toArray = cc.args.map a.eval := by apply Array.ext'; simp
        have hC := inl_sound hmix h hs (vs := cc.args.map a.eval) (by rw [← eargs]; exact hall)
        unfold wpListIn
        rw [if_pos (by simp [Region.wanted, hg])]
        refine ⟨fun f _ => hF.fn f, ?_⟩
        rw [hF.sem _ _ hnd, exec_enter ho hc hgv (hf ▸ ie.hc), Oper.uponIn_enter]
        refine ⟨fun h => absurd h hdep, hF.calls (hf ▸ hC.mono ?_)⟩
        rintro e w' ⟨v, m, bx, c', rfl, q1, q2, q3⟩
        exact hK _ _ c' _ _ q1 (q3.putO hdd q2)
      ·exact h.elim
    ·exact h.elim
end
end Go.Proofs.YtmjklcpdfmgcaaaDoor
/-
 The evaluator, part 14: a region that draws its order, walked through all its orders.
-/
namespace Go.Proofs.YtmjklcpdfmgcaaaDoor
open Go Go.RowKit
open Go.IntKind (wrap i64 i32 i16 i8 u64 u32 u16 u8)
theorem look_putS (t u : Nat) (m : MV) : ∀ (l : List (Nat × MV)), look u (putS t m l) = if t = u then m else look u l
 | [] => by
  simp only [putS, look]
  cases h : t.beq u with
  | true => simp only [Nat.beq_eq] at h; simp [h]
  | false =>
   have : t ≠ u := by intro e; subst e; simp at h
   simp [this]
 | (v, x) :: r => by
  simp only [putS]
  cases h1 : v.blt t with
  | true =>
   rw [Nat.blt_eq] at h1
   simp only [cond_true, look, look_putS t u m r]
   cases h : v.beq u with
   | true =>
    simp only [Nat.beq_eq] at h
    subst h
    have hne : t ≠ v := by omega
    simp [hne]
   | false => rfl
  | false =>
   simp only [cond_false]
   cases h2 : v.beq t with
   | true =>
    simp only [Nat.beq_eq] at h2
    subst h2
    simp only [cond_true, look]
    cases h : v.beq u with
    | true => simp only [Nat.beq_eq] at h; simp [h]
    | false =>
     have : v ≠ u := by intro e; subst e; simp at h
     simp [this]
   | false =>
    simp only [cond_false, look]
    cases h : t.beq u with
    | true => simp only [Nat.beq_eq] at h; simp [h]
    | false =>
     have : t ≠ u := by intro e; subst e; simp at h
     simp [this]
section
variable {P : Program} {ops : Array Oper} {S0 : Nat → Prop} {w1 : Base} {Q : Exit → Act → World → Prop}
theorem St.look {s s' : MS} {c : Ctx} {a : Act} {w : World} (h : St S0 w1 s c a w) (hn : s'.n = s.n) (hb : s'.bx = s.bx) (hp : s'.np = s.np) (hl : ∀ t, Go.Proofs.YtmjklcpdfmgcaaaDoor.look t s'.tm = Go.Proofs.YtmjklcpdfmgcaaaDoor.look t s.tm) : St S0 w1 s' c a w :=
 ⟨hb ▸ h.mem, fun t => by rw [hl]; exact h.tm t, by rw [hn]; exact h.size, h.defers, by rw [hp]; exact h.np⟩
theorem St.sorted {s : MS} {c : Ctx} {a : Act} {w : World} {d : Option Nat} {m : MV} (h : St S0 w1 (s.putO d m) c a w) : St S0 w1 (s.putSO d m) c a w := by
 cases d with
 | none => exact h
 | some t => exact h.look rfl rfl rfl (fun u => by show Go.Proofs.YtmjklcpdfmgcaaaDoor.look u (putS t m s.tm) = _; rw [look_putS]; show _ = Go.Proofs.YtmjklcpdfmgcaaaDoor.look u (s.put t m).tm; rw [look_put])
theorem wpOp_Q {Q1 : Exit → Act → World → Prop} (hp : ∀ ch a w, ¬ Q1 (.panic ch) a w) (ho : ∀ a w, ¬ Q1 .outgrown a w) {i : Nat} {K K' : Act → World → Prop} (hK : ∀ a w, K a w → K' a w) {a : Act} {w : World} (h : wpOp P ops Q1 i K a w) : wpOp P ops Q i K' a w := by
 unfold wpOp at h ⊢
 split at h
 ·exact hK _ _ h
 ·rename_i o _
  split at h
  ·rename_i hw
   rw [if_pos hw]
   rcases h with h | ⟨_, h⟩
   ·refine .inl ?_
    unfold Oper.wp at h ⊢
    generalize (execOp a.eval o).run P w = res at h ⊢
    cases res with
    | ok nx w' =>
     cases nx with
     | value v => exact hK _ _ h
     | skip => exact hK _ _ h
     | defer d => exact hK _ _ h
     | enter f args =>
      refine Calls.mono h ?_
      intro e w'' he
      cases e with
      | returned v => exact hK _ _ he
      | panicked c => exact (hp _ _ _ he).elim
      | outgrown => exact (let ⟨a, w, q⟩ := he; (ho a w q).elim)
     | row rw args => exact Rows.mono h fun v w'' hv => hK _ _ hv
     | round l f t x y => exact h.elim
     | _ => exact h.elim
    | halt hh w' =>
     cases hh
     all_goals first | exact (hp _ _ _ h).elim | exact h.elim
   ·exact (let ⟨a, w, q⟩ := h; (ho a w q).elim)
  ·rename_i hw
   rw [if_neg hw]
   exact hK _ _ h
theorem freeTm_spec {i : Nat} : ∀ (l : List (Nat × MV)), freeTm i l = true → ∀ t, (Go.Proofs.YtmjklcpdfmgcaaaDoor.look t l).ment i = false
 | [], _, t => rfl
 | (u, m) :: r, h, t => by
  simp only [freeTm, Bool.and_eq_true, Bool.not_eq_true'] at h
  simp only [Go.Proofs.YtmjklcpdfmgcaaaDoor.look]
  cases u.beq t with
  | true => exact h.1
  | false => exact freeTm_spec r h.2 t
theorem step_by {o : Oper} {i : Nat} (hi : ops[i]? = some o) {E : Env P} {s : MS} {c : Ctx} {a : Act} {w : World} {K : MS → Prop} {K' : Act → World → Prop} (h : evSeq E ops.toList (fun _ => False) [o] s K) (hs : St S0 w1 s c a w)
  (hK : ∀ s' c' a' w', K s' → St S0 w1 s' c' a' w' → K' a' w') : wpOp P ops Q i K' a w := by
 have := evSeq_sound (Q := fun e a' w' => match e with | .normal => K' a' w' | _ => False) (ops := ops) (w0 := w1) (fun m v w' a' hk _ _ _ => hk.elim) [o] s _ c a w h hs (fun s' c' a' w' q1 q2 _ => hK s' c' a' w' q1 q2)
 exact wpOp_Q (fun _ _ _ q => q) (fun _ _ q => q) (fun a' w' q => q) (wpOp_of_wpList hi this)
theorem stepOf_ok {o : Oper} {i : Nat} (hi : ops[i]? = some o) (hg : o.guard = none) {s : MS} {p : OProp} {s' : MS} (hd : dstOk o.dst s.n = true) (h : stepOf s o (ev1 (env0 P) s o.op) = some (p, s')) (hp : p.holds) {c : Ctx} {a : Act} {w : World} (hs : St S0 w1 s c a w) :
  wpOp P ops Q i (fun a' w' => ∃ c', St S0 w1 s' c' a' w') a w := by
 cases he : ev1 (env0 P) s o.op with
 | val p' m =>
  rw [he] at h
  simp only [stepOf, Option.some.injEq, Prod.mk.injEq] at h
  obtain ⟨rfl, rfl⟩ := h
  refine step_by hi (E := env0 P) (K := fun s2 => s2 = s.putO o.dst m) ?_ hs (fun s2 c' a' w' q1 q2 => ⟨c', by subst q1; exact q2.sorted⟩)
  simp only [evSeq, hg, hd, he, cond_true]
  exact oand_holds.2 ⟨hp, trivial⟩
 | upd p' s2 m =>
  rw [he] at h
  simp only [stepOf, Option.some.injEq, Prod.mk.injEq] at h
  obtain ⟨rfl, rfl⟩ := h
  refine step_by hi (E := env0 P) (K := fun s3 => s3 = s2.putO o.dst m) ?_ hs (fun s3 c' a' w' q1 q2 => ⟨c', by subst q1; exact q2.sorted⟩)
  simp only [evSeq, hg, hd, he, cond_true]
  exact oand_holds.2 ⟨hp, trivial⟩
 | new _ _ _ => rw [he] at h; simp [stepOf] at h
 | res _ _ _ => rw [he] at h; simp [stepOf] at h
 | pan _ => rw [he] at h; simp [stepOf] at h
 | stuck => rw [he] at h; simp [stepOf] at h
theorem St.Ab {s : MS} {wd len : Nat} {f : Nat → MV} {d : Option Nat} {c : Ctx} {a : Act} {w : World} (h : St S0 w1 (({ s with bx := s.bx ++ [⟨false, .rows wd len f⟩] } : MS).putO d (.bs s.bx.length 0 len)) c a w) (hd : dstOk d s.n = true)
  (ht : freeTm s.bx.length s.tm = true) (hb : bxFree s.bx.length 0 s.bx = true) (hpin : ∀ b z, ¬ w1.pin s.bx.length b z) : ∃ c', St S0 w1 (s.putO d (.sl wd len f)) c' a w := by
 have hM : Mem S0 w1 (s.bx ++ [⟨false, .rows wd len f⟩]) c w := by
  have := h.mem
  rwa [putO_bx] at this
 have hbf : bxFree s.bx.length 0 (s.bx ++ [⟨false, .rows wd len f⟩]) = true := by
  have : ∀ (l : List Box) (j : Nat), bxFree s.bx.length j l = true → bxFree s.bx.length j (l ++ [⟨false, .rows wd len f⟩]) = true := by
   intro l
   induction l with
   | nil => intro j _; simp [bxFree]
   | cons x r ih =>
    intro j hj
    simp only [bxFree, Bool.and_eq_true] at hj
    simp only [List.cons_append, bxFree, Bool.and_eq_true]
    exact ⟨hj.1, ih _ hj.2⟩
  exact this _ _ hb
 obtain ⟨m1, k1⟩ := hM.drop hbf ⟨false, .rows wd len f⟩ hpin
 generalize hcd : ctxOf S0 (setNth (s.bx ++ [⟨false, .rows wd len f⟩]) s.bx.length ⟨false, .rows wd len f⟩) (c.but s.bx.length).live c.β c.sz = cd at m1 k1
 have hl : ∀ i, cd.live i ↔ c.live i ∧ i ≠ s.bx.length := by subst hcd; exact fun i => Iff.rfl
 have hβ : cd.β = c.β := by subst hcd; rfl
 have hsz : cd.sz = c.sz := by subst hcd; rfl
 have hlt : ∀ i, cd.live i → i < s.bx.length := fun i hi => by
  have h1 := (m1.fresh i hi).2.2
  rw [length_setNth, List.length_append, List.length_singleton] at h1
  have := ((hl i).1 hi).2
  omega
 have hnth : ∀ i, i < s.bx.length → nth (setNth (s.bx ++ [⟨false, .rows wd len f⟩]) s.bx.length ⟨false, .rows wd len f⟩) i = nth s.bx i := fun i hi => by
  rw [nth_setNth, if_neg (by omega)]
  simp only [nth_eq]
  rw [List.getElem?_append_left hi]
 have m2 : Mem S0 w1 s.bx cd w := by
  refine ⟨m1.ext, m1.S0lt, m1.gl, m1.hS, fun b => (m1.hW b).trans ?_, m1.inj, fun i hi => ⟨(m1.fresh i hi).1, (m1.fresh i hi).2.1, hlt i hi⟩, fun i b hi hb => m1.box i b hi (by rw [hnth i (hlt i hi)]; exact hb), m1.pin⟩
  constructor
  ·rintro ⟨i, b0, h1, h2, h3, h4⟩
   exact ⟨i, b0, h1, by rw [hnth i (hlt i h1)] at h2; exact h2, h3, h4⟩
  ·rintro ⟨i, b0, h1, h2, h3, h4⟩
   exact ⟨i, b0, h1, by rw [hnth i (hlt i h1)]; exact h2, h3, h4⟩
 have htm : ∀ t, d ≠ some t → Rep cd w (Go.Proofs.YtmjklcpdfmgcaaaDoor.look t s.tm) (a.tmps.getD t undef) := fun t ht' => by
  have h1 := h.tm t
  rw [look_putO _ _ _ _ ht'] at h1
  exact (Rep.but (freeTm_spec _ ht t) h1).keep k1
 refine ⟨cd, by rw [putO_bx]; exact m2, fun t => ?_, by rw [putO_n]; have := h.size; rw [putO_n] at this; exact this, h.defers, fun i b z q => ?_⟩
 ·by_cases hdt : d = some t
  ·subst hdt
   rw [look_putO_same]
   have h1 := h.tm t
   rw [look_putO_same] at h1
   obtain ⟨ad, cap, e1, e2, e3⟩ := rep_cell h1 rfl (by simp) rfl
   refine (rep1_iff rfl).2 ((rep1_cell rfl (by simp)).2 ⟨ad, cap, e1, e2, fun hpos => ?_⟩)
   rcases e3 with ⟨rfl, hlv, hcap⟩ | ⟨_, h0, _⟩
   ·obtain ⟨arr, ty, q1, q2, q3, q4⟩ := hM.box s.bx.length ⟨false, .rows wd len f⟩ hlv (by simp [nth_eq])
    refine ⟨c.β s.bx.length, 0, rfl, fun hS => ?_, fun i hi => ?_⟩
    ·rcases (m2.hS _).1 hS with q | q
     ·exact hM.notS0 hlv q
     ·obtain ⟨j, b0, r1, _, _, r4⟩ := (m2.hW _).1 q
      rw [hβ] at r4
      have := hM.inj j s.bx.length ((hl j).1 r1).1 hlv r4
      exact ((hl j).1 r1).2 this
    ·obtain ⟨cs, r1, r2, r3⟩ := q4 i hi
     refine ⟨cs, r1, RepC.keep k1.elem (f i) cs (show RepC (c.but s.bx.length).elem w (f i) cs from r2), arr, ty, _, q1, fun j v hj => ?_⟩
     rw [Nat.zero_add]
     exact r3 j v hj
   ·omega
  ·rw [look_putO _ _ _ _ hdt]
   exact htm t hdt
 ·have := h.np i b z q
  cases d <;> exact this
theorem cond_new {b : Bool} {x y : Act1} (h : cond b x .stuck = y) (hy : y ≠ .stuck) : x = y := by
 cases b with
 | true => exact h
 | false => exact absurd h.symm hy
theorem stepAll_ok {o : Oper} {i : Nat} (hi : ops[i]? = some o) {s : MS} {p : OProp} {s' : MS} (h : stepAll P s o = some (p, s')) (hp : p.holds) {c : Ctx} {a : Act} {w : World} (hs : St S0 w1 s c a w) :
  wpOp P ops Q i (fun a' w' => ∃ c', St S0 w1 s' c' a' w') a w := by
 unfold stepAll at h
 split at h
 ·simp at h
 ·rename_i hg
  cases hd : dstOk o.dst s.n with
  | false => rw [hd] at h; simp at h
  | true =>
   rw [hd, cond_true] at h
   split at h
   ·rename_i t len parts ho
    split at h
    ·rename_i p' b mk he
     split at h
     ·rename_i wd n f hb
      cases hc : (!b.fz && freeTm s.bx.length s.tm && bxFree s.bx.length 0 s.bx) with
      | false => rw [hc] at h; simp at h
      | true =>
       rw [hc] at h
       simp only [cond_true, Option.some.injEq, Prod.mk.injEq] at h
       obtain ⟨rfl, rfl⟩ := h
       simp only [Bool.and_eq_true, Bool.not_eq_true'] at hc
       have hbe : b = ⟨false, .rows wd n f⟩ := by cases b; simp only at hb hc; rw [hb, hc.1.1]
       subst hbe
       have hmk : mk = fun i => .bs i 0 n := by
        unfold evBuildSlice at he
        split at he
        ·split at he
         ·split at he
          ·have := cond_new he (by simp)
           simp at this
          ·simp at he
         ·have := cond_new he (by simp)
          simp only [Act1.new.injEq, Box.mk.injEq, BC.rows.injEq, true_and] at this
          obtain ⟨_, ⟨_, rfl, _⟩, rfl⟩ := this
          rfl
         ·simp at he
        ·simp at he
       have hev : ev1 (env0 P) s o.op = .new p' ⟨false, .rows wd n f⟩ mk := by rw [ho]; exact he
       refine step_by hi (E := env0 P) (K := fun s2 => s2 = ({ s with bx := s.bx ++ [⟨false, .rows wd n f⟩] } : MS).putO o.dst (.bs s.bx.length 0 n)) ?_ hs (fun s2 c' a' w' q1 q2 => ?_)
       ·simp only [evSeq, hg, hd, hev, cond_true]
        exact oand_holds.2 ⟨hp, by rw [hmk]⟩
       ·subst q1
        obtain ⟨c2, h2⟩ := q2.Ab hd hc.1.2 hc.2 (fun b z q => by have := (hs.mem.fresh _ (hs.mem.pin _ _ _ q).1).2.2; omega)
        exact ⟨c2, h2.sorted⟩
     ·simp at h
    ·simp at h
   ·split at h
    ·rename_i i' _
     exact stepOf_ok (s := s.forget i') hi hg hd h hp (hs.forget i')
    ·simp at h
   ·exact stepOf_ok hi hg hd h hp hs
theorem mem_allFl : ∀ (n : Nat) (fl : List Bool), fl.length = n → fl ∈ allFl n
 | 0, fl, h => by
  have : fl = [] := List.eq_nil_of_length_eq_zero h
  subst this
  simp [allFl]
 | n + 1, [], h => by simp at h
 | n + 1, b :: r, h => by
  have := mem_allFl n r (by simpa using h)
  simp only [allFl, List.mem_append, List.mem_map]
  cases b
  ·exact .inl ⟨r, this, rfl⟩
  ·exact .inr ⟨r, this, rfl⟩
theorem draw_spec {L : List Oper} {s : MS} {ps : List OProp} : ∀ (fls : List (List Bool)), drawL P L s fls = drawR P L s ps fls → ∀ fl ∈ fls, downB L fl fl = true → ∀ k o, (k, o) ∈ readyAt 0 L fl fl → ∀ s1, runF P L fl s = some s1 →
  ∃ s2, runF P L (fl.set k true) s = some s2 ∧ stepAll P s1 o = some (ps.getD k none, s2)
 | [], _, fl, hfl => by simp at hfl
 | f0 :: r, h, fl, hfl => by
  simp only [drawL, drawR, List.cons.injEq] at h
  rcases List.mem_cons.1 hfl with rfl | hfl
  ·intro hd k o hk s1 hs1
   have h1 := h.1
   rw [hd, cond_true, cond_true] at h1
   have h2 := List.map_inj_left.1 h1 (k, o) hk
   simp only [hs1] at h2
   split at h2
   ·rename_i s2 hs2
    exact ⟨s2, hs2, by simpa using h2⟩
   ·simp at h2
  ·exact draw_spec r h.2 fl hfl
theorem edgesIn_spec {fl : List Bool} {o : Oper} (h : ∀ e ∈ o.after.toList, Region.binds .any e = true → fl.getD e.on false = true) : edgesIn fl o = true := by
 simp only [edgesIn, List.all_eq_true, Bool.or_eq_true, Bool.not_eq_true']
 intro e he
 cases hb : Region.binds .any e with
 | false => exact .inl rfl
 | true => exact .inr (h e he hb)
theorem downB_spec (fl : List Bool) : ∀ (L : List Oper) (fs : List Bool), (∀ i o, nth L i = some o → fs.getD i false = true → edgesIn fl o = true) → downB L fs fl = true
 | [], _, _ => by simp [downB]
 | _ :: _, [], _ => by simp [downB]
 | o :: r, f :: fs, h => by
  simp only [downB, Bool.and_eq_true, Bool.or_eq_true, Bool.not_eq_true']
  refine ⟨?_, downB_spec fl r fs fun i o' h1 h2 => h (i + 1) o' h1 (by simpa using h2)⟩
  cases f with
  | false => exact .inl rfl
  | true => exact .inr (h 0 o rfl (by simp))
theorem readyAt_spec (fl : List Bool) : ∀ (L : List Oper) (fs : List Bool) (k i : Nat) (o : Oper), nth L i = some o → i < fs.length → fs.getD i true = false → edgesIn fl o = true → (k + i, o) ∈ readyAt k L fs fl
 | [], _, _, _, _, h, _, _, _ => by simp [nth] at h
 | _ :: _, [], _, _, _, _, h, _, _ => by simp at h
 | o' :: r, f :: fs, k, 0, o, h, _, h2, h3 => by
  simp only [nth, Option.some.injEq] at h
  subst h
  have h2 : f = false := by simpa using h2
  subst h2
  simp [readyAt, h3]
 | o' :: r, f :: fs, k, i + 1, o, h, hl, h2, h3 => by
  have := readyAt_spec fl r fs (k + 1) i o h (by simpa using hl) (by simpa using h2) h3
  rw [show k + (i + 1) = k + 1 + i by omega]
  simp only [readyAt]
  cases (!f && edgesIn fl o') with
  | true => exact List.mem_cons_of_mem _ this
  | false => exact this
theorem getD_toList (l : Array Bool) (i : Nat) (b : Bool) : l.toList.getD i b = l.getD i b := by
 simp [List.getD_eq_getElem?_getD, Array.getD_eq_getD_getElem?]
theorem wp_of_all {s s' : MS} (hback : backAll 0 ops.toList = true) (heq : drawL P ops.toList s (allFl ops.toList.length) = drawR P ops.toList s (runPs P ops.toList s) (allFl ops.toList.length)) (hps : ∀ p ∈ runPs P ops.toList s, p.holds) (hfin : runF P ops.toList (List.replicate ops.toList.length true) s = some s')
  (hK : ∀ c' a' w', St S0 w1 s' c' a' w' → Q .normal a' w') : ∀ (fuel : Nat) (listed : Array Bool) (c : Ctx) (a : Act) (w : World), left ops listed = fuel → Down ops listed → (∃ s1, runF P ops.toList listed.toList s = some s1 ∧ St S0 w1 s1 c a w) → wpAny P .any ops Q fuel listed a w := by
 have hps' : ∀ k, ((runPs P ops.toList s).getD k none).holds := by
  intro k
  rw [List.getD_eq_getElem?_getD]
  cases hk : (runPs P ops.toList s)[k]? with
  | none => trivial
  | some p => exact hps p (List.mem_of_getElem? hk)
 have hdone : ∀ (listed : Array Bool) (c : Ctx) (a : Act) (w : World), Down ops listed → (∀ j, j < ops.size → listed.getD j false = true) → (∃ s1, runF P ops.toList listed.toList s = some s1 ∧ St S0 w1 s1 c a w) → Q .normal a w := by
  rintro listed c a w hd hall ⟨s1, h1, h2⟩
  have : listed.toList = List.replicate ops.toList.length true := by
   apply List.ext_getElem?
   intro j
   by_cases hj : j < ops.size
   ·have h3 := hall j hj
    rw [← getD_toList, List.getD_eq_getElem?_getD] at h3
    have hj' : j < listed.toList.length := by simpa [hd.size] using hj
    rw [List.getElem?_eq_getElem hj'] at h3 ⊢
    rw [List.getElem?_replicate, if_pos (by simpa using hj)]
    simpa using h3
   ·rw [List.getElem?_eq_none (by simp [hd.size]; omega), List.getElem?_eq_none (by simp; omega)]
  rw [this, hfin, Option.some.injEq] at h1
  subst h1
  exact hK _ _ _ h2
 have hnoready : ∀ (listed : Array Bool), Down ops listed → Region.ready .any ops listed = [] → ∀ j, j < ops.size → listed.getD j false = true := by
  intro listed hd h0 j
  induction j using Nat.strongRecOn with
  | _ j ih =>
   intro hj
   cases hb : listed.getD j false with
   | true => rfl
   | false =>
    exfalso
    have : j ∈ Region.ready .any ops listed := mem_ready.2 ⟨hj, by rw [getD_true_false (by rw [hd.size]; exact hj), hb], ops[j], by simp [hj], fun e he hbd => by
     have := backAll_spec ops.toList 0 hback j ops[j] (by rw [nth_eq]; simp [hj]) e he hbd
     exact ih e.on (by omega) (by omega)⟩
    rw [h0] at this
    simp at this
 intro fuel
 induction fuel with
 | zero =>
  intro listed c a w hleft hd h
  have hall : ∀ j, j < ops.size → listed.getD j false = true := by
   intro j hj
   cases hb : listed.getD j false with
   | true => rfl
   | false =>
    exfalso
    have hmem : j ∈ (List.range ops.size).filter fun i => !listed.getD i true := by
     simp only [List.mem_filter, List.mem_range, hj, true_and]
     rw [getD_true_false (by rw [hd.size]; exact hj), hb]; rfl
    unfold left at hleft
    rw [List.length_eq_zero_iff] at hleft
    rw [hleft] at hmem
    simp at hmem
  refine ⟨?_, hdone listed c a w hd hall h⟩
  apply List.eq_nil_iff_forall_not_mem.2
  intro i hi
  obtain ⟨h1, h2, _⟩ := mem_ready.1 hi
  rw [getD_true_false (by rw [hd.size]; exact h1), hall i h1] at h2
  simp at h2
 | succ fuel ih =>
  intro listed c a w hleft hd h
  refine ⟨fun h0 => hdone listed c a w hd (hnoready listed hd h0) h, fun i hi => ?_⟩
  obtain ⟨s1, h1, h2⟩ := h
  obtain ⟨q1, q2, o, q3, q4⟩ := mem_ready.1 hi
  have hl : listed.toList ∈ allFl ops.toList.length := mem_allFl _ _ (by simp [hd.size])
  have hdn : downB ops.toList listed.toList listed.toList = true := downB_spec _ _ _ fun j oj hj hfj => edgesIn_spec fun e he hb => by
   rw [getD_toList] at hfj ⊢
   exact hd.down j oj (by rw [nth_eq] at hj; simpa using hj) hfj e he hb
  have hrd := readyAt_spec listed.toList ops.toList listed.toList 0 i o (by rw [nth_eq]; simpa using q3) (by simp [hd.size, q1]) (by rw [getD_toList]; exact q2) (edgesIn_spec fun e he hb => by rw [getD_toList]; exact q4 e he hb)
  rw [Nat.zero_add] at hrd
  obtain ⟨s2, r1, r2⟩ := draw_spec _ heq _ hl hdn i o hrd s1 h1
  refine wpOp_mono (fun a' w' h' => ?_) (stepAll_ok (Q := Q) q3 r2 (hps' i) h2)
  obtain ⟨c', h'⟩ := h'
  exact ih _ c' a' w' (by have := left_put hd.size hi; omega) (hd.put hi) ⟨s2, by rw [Array.toList_setIfInBounds]; exact r1, h'⟩
theorem evAll_core {s : MS} {K : MS → Prop} {c : Ctx} {a : Act} {w : World} (h : evAll P ops.toList s K) (hs : St S0 w1 s c a w) (hK : ∀ s' c' a' w', K s' → St S0 w1 s' c' a' w' → Q .normal a' w') : RegWp P ops true Q a w := by
 obtain ⟨h0, ⟨h1⟩, h2⟩ := h
 have hall : ∀ (l : List OProp) (q : Prop), psHold l q → (∀ p ∈ l, p.holds) ∧ q := by
  intro l
  induction l with
  | nil => intro q h; exact ⟨fun p hp => by simp at hp, h⟩
  | cons p r ih =>
   intro q h
   obtain ⟨hp, hr⟩ := oand_holds.1 h
   obtain ⟨h3, h4⟩ := ih q hr
   exact ⟨fun x hx => by rcases List.mem_cons.1 hx with rfl | hx; exact hp; exact h3 x hx, h4⟩
 obtain ⟨h3, h4⟩ := hall _ _ h2
 split at h4
 ·rename_i s' hfin
  have e : Ext w { w with drawn := w.drawn + 1 } := ⟨rfl, rfl, Nat.le_refl _, fun _ _ => rfl, fun _ _ => rfl⟩
  obtain ⟨hm, hk⟩ := hs.mem.grow e
  have hst : St S0 w1 s _ a { w with drawn := w.drawn + 1 } := hs.keepTm hk hm rfl rfl rfl
  have hrep : ∀ j, (Array.replicate ops.size false).getD j false = false := by
   intro j
   simp only [Array.getD_eq_getD_getElem?, Array.getElem?_replicate]
   split <;> rfl
  refine wp_of_all h0 h1 h3 hfin (fun c' a' w' q => hK s' c' a' w' h4 q) ops.size _ _ a _ ?_ ⟨by simp, fun i o _ hl => ?_⟩ ⟨s, ?_, hst⟩
  ·have : left ops (Array.replicate ops.size false) = ops.size - 0 := left_suffix (by simp) (fun j => by rw [hrep j]; simp)
   simpa using this
  ·rw [hrep i] at hl; simp at hl
  ·have : ∀ (L : List Oper) (n : Nat), runF P L (List.replicate n false) s = some s := by
    intro L
    induction L with
    | nil => intro n; cases n <;> rfl
    | cons o r ih => intro n; cases n with
     | zero => rfl
     | succ n => simp only [List.replicate_succ, runF, cond_false]; exact ih n
   simpa using this ops.toList ops.size
 ·exact h4.elim
end
end Go.Proofs.YtmjklcpdfmgcaaaDoor
/-
 The evaluator, part 11: code is right.
-/
namespace Go.Proofs.YtmjklcpdfmgcaaaDoor
open Go Go.RowKit
open Go.IntKind (wrap i64 i32 i16 i8 u64 u32 u16 u8)
section
variable {F : Fence} {P : Program} {n : Nat} {S0 : Nat → Prop} {w0 : Base} {pin : Nat → Nat → Sz → Prop} {zs : Option Ex → List (Nat × Obj)} {H : Hnd} {X : XE P}
theorem seqX_sound (hmix : P.follows .mixedOrders = true) (hF : Fw F P) (hY : YSnd F (n - 1) P S0 w0 pin zs H) (hz : ∀ pe z, z ∈ zs pe → z.2.isWalk = false) {ops : Array Oper} {Q : Exit → Act → World → Prop} {K : MS → XS → Prop}
  (hK : ∀ s' x' c' a' w', K s' x' → XSt P S0 w0 pin zs s' x' c' a' w' → Q .normal a' w') : ∀ (l : List Oper) (s : MS) (x : XS) (c : Ctx) (a : Act) (w : World), (∀ o ∈ l, ∀ c, o.op ≠ .defer c) → evSeqX X H ops.toList l s x K → XSt P S0 w0 pin zs s x c a w →
  wpListIn F n P ops Q l a w
 | [], s, x, c, a, w, _, h, hs => hK s x c a w h hs
 | o :: r, s, x, c, a, w, hd, h, hs => step_ok hmix hF hY hz (hd o (by simp)) h hs fun s' x' c' a' w' q1 q2 => seqX_sound hmix hF hY hz hK r s' x' c' a' w' (fun o ho => hd o (by simp [ho])) q1 q2
theorem regionX_sound (hmix : P.follows .mixedOrders = true) (hF : Fw F P) (hY : YSnd F (n - 1) P S0 w0 pin zs H) (hz : ∀ pe z, z ∈ zs pe → z.2.isWalk = false) {ops : Array Oper} {draw : Bool} {id : Nat} {Q : Exit → Act → World → Prop} (hQ : ∀ a w, ¬ Q .outgrown a w) {K : MS → XS → Prop}
  (hK : ∀ s' x' c' a' w', K s' x' → XSt P S0 w0 pin zs s' x' c' a' w' → Q .normal a' w') {s : MS} {x : XS} {c : Ctx} {a : Act} {w : World} (hd : (ops.toList.all fun o => ndOp o.op) = true) (ha : allOk X (.region id ops draw)) (h : evRegionX X H id ops.toList draw s x K) (hs : XSt P S0 w0 pin zs s x c a w) :
  (Code.region id ops draw).wpIn F n P Q a w := by
 unfold evRegionX at h
 split at h
 ·exact wpIn_region_list (seqX_sound hmix hF hY hz hK ops.toList s x c a w (nd_ops hd) h hs)
 ·obtain ⟨w1, hst, _, hback⟩ := hs.with_
  split at h
  ·rename_i L hL
   have e : ops.toList = L := by simpa only [allOk, hL] using ha
   subst e
   exact wpIn_of_reg hmix hF hQ hd (evAll_core h hst (fun s' c' a' w' q1 q2 => hK s' x c' a' w' q1 (hback _ _ _ _ q2)))
  exact wpIn_of_reg hmix hF hQ hd (evRegion_core (fun m v w' a' hk => hk.elim) h hst (fun s' c' a' w' q1 q2 _ => hK s' x c' a' w' q1 (hback _ _ _ _ q2)))
structure RSnd (F : Fence) (n : Nat) (P : Program) (S0 : Nat → Prop) (w0 : Base) (pin : Nat → Nat → Sz → Prop) (zs : Option Ex → List (Nat × Obj)) (ha : Code → Prop) (H : Hnd) : Prop where
 h : ∀ (g : Operand) (ps : Array Tmp) (p q : Code) (s : MS) (x : XS) (K : XK) (c : Ctx) (a : Act) (w : World) (Q : Exit → Act → World → Prop), (∀ a w, ¬ Q .outgrown a w) → (ha p ∧ ha q) → H.rng g ps p q s x K → XSt P S0 w0 pin zs s x c a w →
  (∀ e s' x' c' a' w', K e s' x' → XSt P S0 w0 pin zs s' x' c' a' w' → Q e.out a' w') → (Code.rangeFunc g ps p q).wpIn F n P Q a w
theorem noOut_then {Q : Exit → Act → World → Prop} (hQ : ∀ a w, ¬ Q .outgrown a w) (K : Act → World → Prop) : ∀ a w, ¬ Exit.then K Q .outgrown a w := hQ
theorem evX_sound (hmix : P.follows .mixedOrders = true) (hF : Fw F P) (hY : YSnd F (n - 1) P S0 w0 pin zs H) (hR : RSnd F n P S0 w0 pin zs (allOk X) H) (hz : ∀ pe z, z ∈ zs pe → z.2.isWalk = false) :
  ∀ (c : Code) (s : MS) (x : XS) (K : XK) (ct : Ctx) (a : Act) (w : World) (Q : Exit → Act → World → Prop), (∀ a w, ¬ Q .outgrown a w) → ndCode c = true → allOk X c → evX X H c s x K → XSt P S0 w0 pin zs s x ct a w →
  (∀ e s' x' c' a' w', K e s' x' → XSt P S0 w0 pin zs s' x' c' a' w' → Q e.out a' w') → c.wpIn F n P Q a w
 | .skip, s, x, K, ct, a, w, Q, hQ, hd, ha, h, hs, hK => wpIn_skip (hK .normal s x ct a w h hs)
 | .label l, s, x, K, ct, a, w, Q, hQ, hd, ha, h, hs, hK => wpIn_label (hK .normal s x ct a w h hs)
 | .region id ops draw, s, x, K, ct, a, w, Q, hQ, hd, ha, h, hs, hK => by
  simp only [evX] at h
  obtain ⟨w1, hst, _, hback⟩ := hs.with_
  exact regionX_sound hmix hF hY hz hQ (fun s' x' c' a' w' q1 q2 => hK .normal s' x' c' a' w' q1 q2) hd ha h (hback _ _ _ _ (hst.frzs _))
 | .seq p q, s, x, K, ct, a, w, Q, hQ, hd, ha, h, hs, hK => by
  simp only [evX] at h
  simp only [ndCode, Bool.and_eq_true] at hd
  refine wpIn_seq (evX_sound hmix hF hY hR hz p s x _ ct a w _ hQ hd.1 ha.1 h hs (fun e s' x' c' a' w' q1 q2 => ?_))
  cases e with
  | normal => exact evX_sound hmix hF hY hR hz q s' x' K c' a' w' Q hQ hd.2 ha.2 q1 q2 hK
  | exit id => exact hK (.exit id) s' x' c' a' w' q1 q2
  | ret => exact hK .ret s' x' c' a' w' q1 q2
 | .cond cc p q, s, x, K, ct, a, w, Q, hQ, hd, ha, h, hs, hK => by
  simp only [evX] at h
  simp only [ndCode, Bool.and_eq_true] at hd
  split at h
  ·rename_i t
   split at h
   ·rename_i b hb
    obtain ⟨w1, hst, _, hback⟩ := hs.with_
    have hr := hst.tm t
    rw [hb] at hr
    have he : a.eval (.tmp t) = .bool b := rep_bool hr
    unfold Br at h
    cases b with
    | true =>
     rw [cond_true] at h
     exact wpIn_cond he (evX_sound hmix hF hY hR hz p _ x K ct a w Q hQ hd.1 ha.1 h (hback _ _ _ _ (hst.again hr)) hK)
    | false =>
     rw [cond_false] at h
     exact wpIn_cond he (evX_sound hmix hF hY hR hz q _ x K ct a w Q hQ hd.2 ha.2 h (hback _ _ _ _ (hst.again hr)) hK)
   ·exact h.elim
  ·exact h.elim
 | .block id p, s, x, K, ct, a, w, Q, hQ, hd, ha, h, hs, hK => by
  simp only [evX] at h
  refine wpIn_block (evX_sound hmix hF hY hR hz p s x _ ct a w _ (fun a w => hQ a w) hd ha h hs (fun e s' x' c' a' w' q1 q2 => ?_))
  cases e with
  | normal => exact hK .normal s' x' c' a' w' q1 q2
  | exit j =>
   simp only [Ex.out, Exit.inBlock]
   have q1 : cond (j.beq id) (K .normal s' x') (K (.exit j) s' x') := q1
   cases hj : j.beq id with
   | true =>
    rw [hj, cond_true] at q1
    simp only [Nat.beq_eq] at hj
    rw [if_pos hj]
    exact hK .normal s' x' c' a' w' q1 q2
   | false =>
    rw [hj, cond_false] at q1
    have hne : ¬ j = id := by intro e; subst e; simp at hj
    rw [if_neg hne]
    exact hK (.exit j) s' x' c' a' w' q1 q2
  | ret => exact hK .ret s' x' c' a' w' q1 q2
 | .loop p, s, x, K, ct, a, w, Q, hQ, hd, ha, h, hs, hK => by
  simp only [evX] at h
  generalize hann : X.xann (firstRegion p) s x = A at h
  unfold evLoopX at h
  split at h
  ·exact h.elim
  ·rename_i ι I T Xm μ
   obtain ⟨⟨i0, hi0, hle0, hlx0⟩, hround⟩ := h
   refine wpIn_loop_ghost (fun m a' w' => ∃ i c', I i ∧ μ i = m ∧ XSt P S0 w0 pin zs (T i) ⟨Xm i, none⟩ c' a' w') (μ i0) (by
    obtain ⟨c', hc'⟩ := hs.le hle0 hlx0
    exact ⟨i0, c', hi0, rfl, hc'⟩) ?_
   rintro m a' w' ⟨i, c', hi, rfl, hst⟩
   refine evX_sound hmix hF hY hR hz p (T i) _ _ c' a' w' _ (noOut_then hQ _) hd ha (hround i hi) hst (fun e s2 x2 c2 a2 w2 q1 q2 => ?_)
   cases e with
   | normal =>
    obtain ⟨j, hj, hle, hlx, hlt⟩ := q1
    obtain ⟨c3, hc3⟩ := q2.le hle hlx
    exact ⟨μ j, hlt, j, c3, hj, rfl, hc3⟩
   | exit id => exact hK (.exit id) s2 x2 c2 a2 w2 q1 q2
   | ret => exact hK .ret s2 x2 c2 a2 w2 q1 q2
 | .exit id, s, x, K, ct, a, w, Q, hQ, hd, ha, h, hs, hK => wpIn_exit (hK (.exit id) s x ct a w h hs)
 | .ret, s, x, K, ct, a, w, Q, hQ, hd, ha, h, hs, hK => wpIn_ret (hK .ret s x ct a w h hs)
 | .rangeFunc g ps p q, s, x, K, ct, a, w, Q, hQ, hd, ha, h, hs, hK => hR.h g ps p q s x K ct a w Q hQ ha (by simpa only [evX] using h) hs hK
 | .scope p, s, x, K, ct, a, w, Q, hQ, hd, ha, h, hs, hK => by simp only [evX] at h; exact h.elim
 | .goto _, s, x, K, ct, a, w, Q, hQ, hd, ha, h, hs, hK => by simp only [evX] at h; exact h.elim
 | .refuse _, s, x, K, ct, a, w, Q, hQ, hd, ha, h, hs, hK => by simp only [evX] at h; exact h.elim
end
end Go.Proofs.YtmjklcpdfmgcaaaDoor
/-
 The evaluator, part 12: a range over a function is right.
-/
namespace Go.Proofs.YtmjklcpdfmgcaaaDoor
open Go Go.RowKit
open Go.IntKind (wrap i64 i32 i16 i8 u64 u32 u16 u8)
def exCode : Ex → Code
 | .normal => .skip
 | .exit id => .exit id
 | .ret => .ret
theorem putPs_rep {c : Ctx} {w : World} {n : Nat} : ∀ (ps : List Tmp) (ms : List MV) (vs : List Value) (l : List (Nat × MV)) (tmps : Array Value), RepAll c w ms vs → ms.length = ps.length → (ps.all fun p => p.blt n) = true → tmps.size = n → (∀ t, Rep c w (look t l) (tmps.getD t undef)) →
  (∀ t, Rep c w (look t (putPs ps ms l)) (((ps.zip vs).foldl (fun t (p, v) => t.setIfInBounds p v) tmps).getD t undef)) ∧ ((ps.zip vs).foldl (fun t (p, v) => t.setIfInBounds p v) tmps).size = n
 | [], ms, vs, l, tmps, _, hl, _, hs, h => by
  have : ms = [] := List.eq_nil_of_length_eq_zero hl
  subst this
  exact ⟨h, hs⟩
 | p :: ps, [], vs, l, tmps, _, hl, _, hs, h => by simp at hl
 | p :: ps, m :: ms, vs, l, tmps, hr, hl, hp, hs, h => by
  obtain ⟨v, r, rfl, h1, h2⟩ := hr
  simp only [List.all_cons, Bool.and_eq_true, Nat.blt_eq] at hp
  simp only [List.zip_cons_cons, List.foldl_cons, putPs]
  refine putPs_rep ps ms r _ _ h2 (by simpa using hl) hp.2 (by simpa using hs) fun t => ?_
  simp only [look]
  cases hb : p.beq t with
  | true =>
   simp only [Nat.beq_eq] at hb
   subst hb
   have : (tmps.setIfInBounds p v).getD p undef = v := by simp [Array.getD_eq_getD_getElem?, hs, hp.1]
   rw [this]
   exact rep_of_rep1 h1
  | false =>
   have hne : p ≠ t := by intro e; subst e; simp at hb
   have : (tmps.setIfInBounds p v).getD t undef = tmps.getD t undef := by simp [Array.getD_eq_getD_getElem?, hne]
   rw [this]
   exact h t
section
variable {P : Program} {S0 : Nat → Prop} {w0 : Base}
theorem noneY {F : Fence} {n : Nat} {pin : Nat → Nat → Sz → Prop} {zs : Option Ex → List (Nat × Obj)} : YSnd F n P S0 w0 pin zs Hnd.none := ⟨fun _ _ _ _ _ _ _ _ _ h => h.elim⟩
theorem noneR {F : Fence} {n : Nat} {pin : Nat → Nat → Sz → Prop} {zs : Option Ex → List (Nat × Obj)} {ha : Code → Prop} : RSnd F n P S0 w0 pin zs ha Hnd.none := ⟨fun _ _ _ _ _ _ _ _ _ _ _ _ _ h => h.elim⟩
theorem leaves_marks {fn : Func} {tmps : Array Value} {R : Ending → World → Prop} {n : Nat} {N : Nat} : ∀ (Ds : List Nat) (w : World), Ds.Nodup → (∀ D ∈ Ds, N ≤ D ∧ w.heap[D]? = some (.deferred (some []))) →
  (∀ w', Moved N w w' → (∀ e, e ∉ Ds → w'.heap[e]? = w.heap[e]?) → ∃ v, (results fn tmps).run P w' = .ok v w' ∧ R (.returned v) w') → LeavesInM Fence.wide n P fn tmps R (Ds.map markOf) .returning w
 | [], w, _, _, h => h w (Moved.refl N w) (fun _ _ => rfl)
 | D :: Ds, w, hn, hD, h => by
  obtain ⟨h1, h2⟩ := hD D (by simp)
  have hk := Moved.put (N := N) (o' := .deferred none) h2 h1 rfl rfl
  simp only [List.nodup_cons] at hn
  refine ⟨by simp, .inl ⟨D, _, rfl, run_takeDeferred h2, leaves_marks (N := N) Ds _ hn.2 (fun D' hD' => ?_) (fun w' k q => ?_)⟩⟩
  ·have hne : D' ≠ D := fun e => hn.1 (e ▸ hD')
   exact ⟨(hD D' (by simp [hD'])).1, (World.putObj_heap_other hne).trans (hD D' (by simp [hD'])).2⟩
  ·refine h w' (hk.trans k) fun e he => ?_
   simp only [List.mem_cons, not_or] at he
   exact (q e he.2).trans (World.putObj_heap_other he.1)
def pin0 : Nat → Nat → Sz → Prop := fun _ _ _ => False
def zs0 : Option Ex → List (Nat × Obj) := fun _ => []
def recOf (fn : FuncId) (tmps : Array Value) (ps : Array Tmp) (p q : Code) (D : Nat) (st : LoopState) (pe : Option Code) : Loop := { state := st, pending := pe, fn, tmps, params := ps, assign := p, body := q, defers := D }
def isLoop : Obj → Bool
 | .loop _ => true
 | _ => false
theorem MapOk.notLoop {m : MapC} {o : Obj} (h : MapOk m o) : isLoop o = false := by
 obtain ⟨es, clock, rfl, _⟩ := h
 rfl
theorem Out.putL {w1 : Base} {L : Nat} {r r' : Loop} {zl zl' : List (Nat × Obj)} {Ds : List Nat} {mp : Option (Nat × MapC)} {bx : List Box} {c : Ctx} {w : World} (h : Out P w0 w1 zl Ds mp) (hL : Extn w0 w1 L (.loop r)) (m : Mem S0 w1 bx c w)
  (hz : ∀ z ∈ zl', z = (L, .loop r') ∨ (Extn w0 w1 z.1 z.2 ∧ isLoop z.2 = false)) (pin : Nat → Nat → Sz → Prop) (df : List Deferred) {Ds' : List Nat} (hn : Ds'.Nodup) (hDs : ∀ D ∈ Ds', Extn w0 w1 D (.deferred (some []))) (hdis : ∀ z ∈ zl', z.1 ∉ Ds') :
  Out P w0 (baseAt (w.putObj L (.loop r')) c pin df) zl' Ds' mp ∧ Moved w0.w.heap.size w (w.putObj L (.loop r')) := by
 obtain ⟨hnow, hnown⟩ := hL.now m
 have hlt := (Array.getElem?_eq_some_iff.1 hnow).1
 have k := Moved.put (N := w0.w.heap.size) (o' := .loop r') hnow hL.lo rfl rfl
 have hne : ∀ e ob, Extn w0 w1 e ob → isLoop ob = false → e ≠ L := fun e ob q hw hh => by
  subst hh
  have := (q.now m).1
  rw [hnow, Option.some.injEq] at this
  rw [← this] at hw
  simp [isLoop] at hw
 refine ⟨⟨h.reb.move m k pin df, hn, fun D hD => (hDs D hD).move m (World.putObj_heap_other (hne D _ (hDs D hD) rfl)) _ _, fun z hzz => ?_, fun B mm hB => ?_, hdis⟩, k⟩
 ·rcases hz z hzz with rfl | ⟨q1, q2⟩
  ·exact ⟨World.putObj_heap_same hlt, hnown, hL.lo⟩
  ·exact q1.move m (World.putObj_heap_other (hne _ _ q1 q2)) _ _
 ·obtain ⟨q1, o, q2, q3⟩ := h.mp B mm hB
  exact ⟨q1, o, q2, q3.move m (World.putObj_heap_other (hne _ _ q3 q2.notLoop)) _ _⟩
def zsIt (L : Nat) (rec : LoopState → Option Code → Loop) (Ds : List Nat) (pe : Option Ex) : List (Nat × Obj) :=
 (L, .loop (match pe with | none => rec .ready none | some e => rec .done (some (exCode e)))) :: Ds.map fun D => (D, .deferred (some []))
theorem zsIt_walk {L : Nat} {rec : LoopState → Option Code → Loop} {Ds : List Nat} : ∀ pe z, z ∈ zsIt L rec Ds pe → z.2.isWalk = false := by
 intro pe z hz
 simp only [zsIt, List.mem_cons, List.mem_map] at hz
 rcases hz with rfl | ⟨D, _, rfl⟩
 ·cases pe <;> rfl
 ·rfl
theorem round_sound (hmix : P.follows .mixedOrders = true) {X : XE P} {s : MS} {np : Nat} {ps : Array Tmp} {p q : Code} {L : Nat} {fn : FuncId} {a : Act} {D : Nat} {Ds : List Nat} {rec : LoopState → Option Code → Loop} (hrec : ∀ st pe, rec st pe = recOf fn a.tmps ps p q D st pe)
  {c0 : Ctx} {w00 : World} (hnd : ndCode p = true ∧ ndCode q = true) (hall : allOk X p ∧ allOk X q) (htm : ∀ t, Rep c0 w00 (look t s.tm) (a.tmps.getD t undef)) (hsz : a.tmps.size = s.n) {pinI : Nat → Nat → Sz → Prop} (hpI : ∀ i b z, pinI i b z ↔ i < np ∧ c0.live i ∧ c0.β i = b ∧ c0.sz i = z) {m : Nat} (rn : Operand → Array Tmp → Code → Code → MS → XS → XK → Prop) :
  YSnd Fence.wide m P S0 w0 pinI (zsIt L rec Ds) ⟨L, roundH X s np ps p q, rn⟩ := ⟨by
 intro args si mp ci ai W vs kN kX h hs hv
 have h : roundH X s np ps p q args si ⟨mp, none⟩ kN kX := h
 unfold roundH at h
 cases hc : (args.length.beq ps.size && ps.toList.all (fun p => p.blt s.n) && si.np.beq np) with
 | false => rw [hc] at h; exact h.elim
 | true =>
  rw [hc, cond_true] at h
  simp only [Bool.and_eq_true, Nat.beq_eq] at hc
  obtain ⟨⟨hlen, hps⟩, hnp⟩ := hc
  have hvl := repAll_length _ _ hv
  obtain ⟨w1, Dr, hO, hst, hp, hdf⟩ := hs
  have hM := hst.mem
  have hL : Extn w0 w1 L (.loop (rec .ready none)) := hO.zs (L, _) (by simp [zsIt])
  have hLnow := (hL.now hM).1
  have hDe : ∀ E ∈ Ds, Extn w0 w1 E (.deferred (some [])) := fun E hE => hO.zs (E, _) (by simp [zsIt, hE])
  have hy := run_yield (P := P) (args := vs.toArray) hLnow (by rw [hrec]; simp [recOf]; omega)
  rw [hrec] at hy
  refine ⟨fn, _, p, q, hy, roundIn_of_wpIn trivial ?_⟩
  generalize hpr : (fun (i : Nat) (b : Nat) (z : Sz) => i < np ∧ ci.live i ∧ ci.β i = b ∧ ci.sz i = z) = pr
  have hpr' : ∀ i b z, pr i b z ↔ i < np ∧ ci.live i ∧ ci.β i = b ∧ ci.sz i = z := by subst hpr; exact fun _ _ _ => Iff.rfl
  have hIc : ∀ i, i < np → c0.live i → ci.live i ∧ ci.β i = c0.β i ∧ ci.sz i = c0.sz i := fun i hi hl => hM.pin i _ _ (hp i _ _ ((hpI i _ _).2 ⟨hi, hl, rfl, rfl⟩))
  have k0 := Moved.refl w0.w.heap.size W
  obtain ⟨htm2, hsz2⟩ := putPs_rep (c := ci) (w := W) (n := s.n) ps.toList args vs (stayTm np s.tm) a.tmps hv (by rw [Array.length_toList]; exact hlen) hps hsz (fun t => by rw [look_stay]; exact stayM_rep hIc (htm t))
  have efold : (ps.zip vs.toArray).foldl (fun t (p, v) => t.setIfInBounds p v) a.tmps = (ps.toList.zip vs).foldl (fun t (p, v) => t.setIfInBounds p v) a.tmps := by
   rw [← Array.foldl_toList, Array.toList_zip]
  have hstr : St S0 (baseAt W ci pr []) ⟨s.n, putPs ps.toList args (stayTm np s.tm), si.bx, np⟩ ci { tmps := (ps.zip vs.toArray).foldl (fun t (p, v) => t.setIfInBounds p v) a.tmps, defers := [] } W :=
   ⟨hM.moved k0 pr [] (fun i b z h => ((hpr' i b z).1 h).2), fun t => by rw [efold]; exact htm2 t, by rw [efold]; exact hsz2, rfl, fun i b z h => ((hpr' i b z).1 h).1⟩
  have hOm := hO.move hM k0 (fun _ _ _ => rfl) pr []
  let zr : LoopState → Option Ex → List (Nat × Obj) := fun st _ => (L, .loop (rec st none)) :: (Ds ++ Dr).map fun D => (D, .deferred (some []))
  have hzr : ∀ st pe z, z ∈ zr st pe → z.2.isWalk = false := by
   intro st pe z hz
   simp only [zr, List.mem_cons, List.mem_map] at hz
   rcases hz with rfl | ⟨D, _, rfl⟩ <;> rfl
  have hx1 : XSt P S0 w0 pr (zr .ready) ⟨s.n, putPs ps.toList args (stayTm np s.tm), si.bx, np⟩ ⟨mp, none⟩ ci { tmps := (ps.zip vs.toArray).foldl (fun t (p, v) => t.setIfInBounds p v) a.tmps, defers := [] } W := by
   refine ⟨_, [], ⟨hOm.reb, List.nodup_nil, fun D hD => by simp at hD, fun z hz => ?_, hOm.mp, fun z _ => by simp⟩, hstr, fun _ _ _ h => h, rfl⟩
   simp only [zr, List.mem_cons, List.mem_map, List.mem_append] at hz
   rcases hz with rfl | ⟨E, hE, rfl⟩
   ·exact hL.move hM rfl _ _
   ·rcases hE with hE | hE
    ·exact (hDe E hE).move hM rfl _ _
    ·exact (hO.ds E hE).move hM rfl _ _
  refine evX_sound hmix (fw_round P L) noneY noneR (hzr .ready) p _ _ _ ci _ W _ (fun _ _ h => h) hnd.1 hall.1 h hx1 (fun e s1 x1 c1 a1 wa q1 q2 => ?_)
  cases e with
  | exit id => exact q1.elim
  | ret => exact q1.elim
  | normal =>
   obtain ⟨w2, D2, hO2, hst2, hp2, hdf2⟩ := q2
   have hM2 := hst2.mem
   have hL2 : Extn w0 w2 L (.loop (rec .ready none)) := hO2.zs (L, _) (by simp [zr])
   have hd2 : ∀ E ∈ Ds ++ Dr, Extn w0 w2 E (.deferred (some [])) := fun E hE => hO2.zs (E, _) (by simp only [zr, List.mem_cons, List.mem_map]; exact .inr ⟨E, hE, rfl⟩)
   obtain ⟨hO3, hk3⟩ := hO2.putL (S0 := S0) (r' := rec .busy none) (zl' := zr .busy none) hL2 hM2 (fun z hz => by
    simp only [zr, List.mem_cons, List.mem_map] at hz
    rcases hz with rfl | ⟨E, hE, rfl⟩
    ·exact .inl rfl
    ·exact .inr ⟨hd2 E hE, rfl⟩) w2.pin w2.df hO2.nd hO2.ds (fun z hz => by
    simp only [zr, List.mem_cons, List.mem_map] at hz
    rcases hz with rfl | ⟨E, hE, rfl⟩
    ·exact hO2.dis (L, .loop (rec .ready none)) (by simp [zr])
    ·exact hO2.dis (E, _) (by simp only [zr, List.mem_cons, List.mem_map]; exact .inr ⟨E, hE, rfl⟩))
   refine ⟨_, by have := run_beginRound (P := P) (hL2.now hM2).1 (by rw [hrec]; rfl); rw [hrec] at this; exact this, ?_⟩
   have hx3 : XSt P S0 w0 pr (zr .busy) s1 x1 c1 a1 (wa.putObj L (.loop (rec .busy none))) := ⟨_, D2, hO3, hst2.at hk3, hp2, hdf2⟩
   rw [hrec] at hx3
   refine evX_sound hmix (fw_round P L) noneY noneR (hzr .busy) q s1 x1 _ c1 a1 _ _ (fun _ _ h => h) hnd.2 hall.2 q1 hx3 (fun e s2 x2 c2 a2 w3 r1 r2 => ?_)
   obtain ⟨w4, D4, hO4, hst4, hp4, hdf4⟩ := r2
   have hM4 := hst4.mem
   have hL4 : Extn w0 w4 L (.loop (rec .busy none)) := hO4.zs (L, _) (by simp [zr])
   have hd4 : ∀ E ∈ Ds ++ Dr, Extn w0 w4 E (.deferred (some [])) := fun E hE => hO4.zs (E, _) (by simp only [zr, List.mem_cons, List.mem_map]; exact .inr ⟨E, hE, rfl⟩)
   have hcc : ∀ i, i < np → ci.live i → c2.live i ∧ c2.β i = ci.β i ∧ c2.sz i = ci.sz i := fun i hi hl => hM4.pin i _ _ (hp4 i _ _ ((hpr' i _ _).2 ⟨hi, hl, rfl, rfl⟩))
   have back : ∀ (pe : Option Ex) (r' : Loop), r' = (match pe with | none => rec .ready none | some e => rec .done (some (exCode e))) → XSt P S0 w0 pinI (zsIt L rec Ds) ⟨si.n, stayTm si.np si.tm, s2.bx, si.np⟩ ⟨x2.mp, pe⟩ c2 ai (w3.putObj L (.loop r')) := by
    intro pe r' hr'
    obtain ⟨hO5, hk5⟩ := hO4.putL (S0 := S0) (r' := r') (zl' := zsIt L rec Ds pe) hL4 hM4 (fun z hz => by
     simp only [zsIt, List.mem_cons, List.mem_map] at hz
     rcases hz with rfl | ⟨E, hE, rfl⟩
     ·exact .inl (by rw [hr'])
     ·exact .inr ⟨hd4 E (by simp [hE]), rfl⟩) pinI w1.df hO.nd (fun E hE => hd4 E (by simp [hE])) (fun z hz => by
     simp only [zsIt, List.mem_cons, List.mem_map] at hz
     rcases hz with rfl | ⟨E, hE, rfl⟩
     ·exact hO.dis (L, .loop (rec .ready none)) (by simp [zsIt])
     ·exact hO.dis (E, _) (by simp [zsIt, hE]))
    refine ⟨_, Dr, hO5, ⟨hM4.moved hk5 pinI w1.df (fun i b z h => ?_), fun t => ?_, hst.size, hst.defers, fun i b z h => ?_⟩, fun _ _ _ h => h, hdf⟩
    ·obtain ⟨h1, h2, rfl, rfl⟩ := (hpI i b z).1 h
     obtain ⟨g1, g2, g3⟩ := hIc i h1 h2
     obtain ⟨f1, f2, f3⟩ := hcc i h1 g1
     exact ⟨f1, f2.trans g2, f3.trans g3⟩
    ·show Rep c2 _ (look t (stayTm si.np si.tm)) _
     rw [look_stay, hnp]
     exact stayM_rep hcc (hst.tm t)
    ·show i < si.np
     rw [hnp]; exact ((hpI i b z).1 h).1
   have fin : ∀ (jump : Option Code), (Instr.endRound L jump).run P w3 = .ok (.bool jump.isNone) (w3.putObj L (.loop (rec (if jump.isNone then .ready else .done) jump))) := fun jump => by
    have := run_endRound (P := P) jump (hL4.now hM4).1
    rw [hrec] at this ⊢
    exact this
   cases e with
   | normal => exact ⟨_, _, fin none, .inl ⟨rfl, s2.bx, x2.mp, c2, r1, back none _ rfl⟩⟩
   | ret => exact ⟨_, _, fin (some .ret), .inr ⟨rfl, .ret, s2.bx, x2.mp, c2, r1, back (some .ret) _ rfl⟩⟩
   | exit id => exact ⟨_, _, fin (some (.exit id)), .inr ⟨rfl, .exit id, s2.bx, x2.mp, c2, r1, back (some (.exit id)) _ rfl⟩⟩⟩
end
end Go.Proofs.YtmjklcpdfmgcaaaDoor
/-
 The evaluator, part 13: what 'evFnX' says is a contract.
-/
namespace Go.Proofs.YtmjklcpdfmgcaaaDoor
open Go Go.RowKit
open Go.IntKind (wrap i64 i32 i16 i8 u64 u32 u16 u8)
section
variable {P : Program} {S0 : Nat → Prop} {w0 : Base}
theorem allOk_none {X : XE P} (hX : X.all = fun _ => none) : ∀ (c : Code), allOk X c
 | .region _ _ _ => by simp [allOk, hX]
 | .seq a b => ⟨allOk_none hX a, allOk_none hX b⟩
 | .cond _ a b => ⟨allOk_none hX a, allOk_none hX b⟩
 | .block _ c => allOk_none hX c
 | .loop c => allOk_none hX c
 | .scope c => allOk_none hX c
 | .rangeFunc _ _ a b => ⟨allOk_none hX a, allOk_none hX b⟩
 | .skip => trivial
 | .label _ => trivial
 | .exit _ => trivial
 | .ret => trivial
 | .goto _ => trivial
 | .refuse _ => trivial
theorem rng_sound (hmix : P.follows .mixedOrders = true) {X : XE P} {n : Nat} : RSnd Fence.wide n P S0 w0 pin0 zs0 (allOk X) (hFn X) := ⟨by
 intro g ps p q s x K c a w Q hQ hall h hs hK
 replace h : rngH X g ps p q s x K := h
 unfold rngH at h
 split at h
 ·rename_i t
  split at h
  ·rename_i f caps hlk
   split at h
   ·rename_i ie hie
    have hief := findIt_spec hie
    subst hief
    split at h
    ·rename_i code hbody
     split at h
     ·rename_i hpe
      generalize hnp : X.rnp (firstRegion q) = np at h
      cases hc : ((caps.length + 1).ble ie.fn.ntmps && ie.fn.results.size.beq 0 && ndCode p && ndCode q && ndCode code) with
      | false => rw [hc] at h; exact h.elim
      | true =>
       rw [hc, cond_true] at h
       simp only [Bool.and_eq_true, Nat.beq_eq, Nat.ble_eq] at hc
       obtain ⟨⟨⟨⟨hcl, hres⟩, hnp1⟩, hnp2⟩, hnp3⟩ := hc
       obtain ⟨w1, Ds, hO, hst, hp, hdf⟩ := id hs
       have hM := hst.mem
       obtain ⟨cs, hv0, hcs, hagg⟩ := rep_cell (show Rep c w (.fn ie.f caps) (a.tmps.getD t undef) from hlk ▸ hst.tm t) rfl (by simp) rfl
       have hgv : a.eval (.tmp t) = .func (.func ie.f) #[] cs.toArray := by
        simp only [List.cons.injEq, and_true] at hv0
        exact hv0
       have hcv := repcs_all caps cs hcs hagg
       have hcsl := repAll_length _ _ hcv
       have hwN : w0.w.heap.size ≤ w.heap.size := Nat.le_trans hO.reb.ext.size hM.ext.size
       refine wpIn_rangeFunc ?_
       intro fn hfn
       obtain ⟨rec, hrec⟩ : ∃ rec : LoopState → Option Code → Loop, ∀ st pe, rec st pe = recOf fn a.tmps ps p q w.heap.size st pe := ⟨_, fun _ _ => rfl⟩
       obtain ⟨W1, hW1⟩ : ∃ W1, (w.alloc (.deferred (some []))).alloc (.loop (rec .ready none)) = W1 := ⟨_, rfl⟩
       have hL1 : W1.heap[w.heap.size + 1]? = some (.loop (rec .ready none)) := by
        rw [← hW1]; have := World.alloc_heap_new (w.alloc (.deferred (some []))) (.loop (rec .ready none)); rwa [World.size_alloc] at this
       have hD1 : W1.heap[w.heap.size]? = some (.deferred (some [])) := by
        rw [← hW1]; exact (Below.heap_alloc _ _ _ (by simp)).trans (World.alloc_heap_new w _)
       have k1 : Moved w0.w.heap.size w W1 := by
        rw [← hW1]
        exact (Moved.alloc hwN _).trans (Moved.alloc (by simp; omega) _)
       have hsame : ∀ e, e < w.heap.size → W1.heap[e]? = w.heap[e]? := fun e he => by
        rw [← hW1]
        exact (Below.heap_alloc _ _ _ (by simp; omega)).trans (Below.heap_alloc _ _ _ he)
       refine ⟨w.heap.size + 1, [markOf w.heap.size], W1, { target := .fn (.func ie.f) cs.toArray, args := #[Value.func (.yield (w.heap.size + 1)) #[] #[]] }, W1, ie.f, #[Value.func (.yield (w.heap.size + 1)) #[] #[]] ++ cs.toArray, W1, ?_, ?_, ?_, ?_, fun h => by simp [Fence.wide] at h, ?_⟩
       ·rw [← hW1, hrec]; exact run_enterLoop_outer _ _ _ _ _
       ·simp only [resolve, hgv]
        simp [go_sem]
       ·intro f' _; trivial
       ·simp [invoke, go_sem, ie.hc]
       ·
        generalize hpI : (fun (i : Nat) (b : Nat) (z : Sz) => i < np ∧ c.live i ∧ c.β i = b ∧ c.sz i = z) = pI
        have hpI' : ∀ i b z, pI i b z ↔ i < np ∧ c.live i ∧ c.β i = b ∧ c.sz i = z := by subst hpI; exact fun _ _ _ => Iff.rfl
        have hOm := hO.move hM k1 (fun e he _ => hsame e he) pI []
        have hL : Extn w0 (baseAt W1 c pI []) (w.heap.size + 1) (.loop (rec .ready none)) := ⟨hL1, fun ⟨i, hi, e⟩ => by have := (hM.fresh i hi).2.1; omega, by omega⟩
        have hD : Extn w0 (baseAt W1 c pI []) w.heap.size (.deferred (some [])) := ⟨hD1, fun ⟨i, hi, e⟩ => by have := (hM.fresh i hi).2.1; omega, by omega⟩
        have hsti : St S0 (baseAt W1 c pI []) ⟨ie.fn.ntmps, numbered 0 (.val (.func (.yield (w.heap.size + 1)) #[] #[]) :: caps), s.bx, np⟩ c { tmps := (#[Value.func (.yield (w.heap.size + 1)) #[] #[]] ++ cs.toArray) ++ Array.replicate (ie.fn.ntmps - (#[Value.func (.yield (w.heap.size + 1)) #[] #[]] ++ cs.toArray).size) undef, defers := [] } W1 := by
         refine ⟨hM.moved k1 pI [] (fun i b z h => ((hpI' i b z).1 h).2), fun u => ?_, by simp; omega, rfl, fun i b z h => ((hpI' i b z).1 h).1⟩
         have hall : RepAll c W1 (.val (.func (.yield (w.heap.size + 1)) #[] #[]) :: caps) (.func (.yield (w.heap.size + 1)) #[] #[] :: cs) := ⟨_, _, rfl, (rep1_cell rfl (by simp)).2 ⟨rfl, rfl⟩, RepAll.moved k1 _ _ hcv⟩
         have := (look_numbered _ _ 0 hall u).2 (Nat.zero_le _)
         rw [Nat.sub_zero] at this
         have e : ((#[Value.func (.yield (w.heap.size + 1)) #[] #[]] ++ cs.toArray) ++ Array.replicate (ie.fn.ntmps - (#[Value.func (.yield (w.heap.size + 1)) #[] #[]] ++ cs.toArray).size) undef).getD u undef = (Value.func (.yield (w.heap.size + 1)) #[] #[] :: cs).getD u undef := by
          have e0 : (#[Value.func (.yield (w.heap.size + 1)) #[] #[]] ++ cs.toArray).toList = Value.func (.yield (w.heap.size + 1)) #[] #[] :: cs := by simp
          rw [← e0]
          simp only [Array.getD_eq_getD_getElem?, List.getD_eq_getElem?_getD, Array.getElem?_toList]
          rw [Array.getElem?_append]
          split
          ·rfl
          ·rename_i hge
           rw [Array.getElem?_replicate, Array.getElem?_eq_none (by omega : (#[Value.func (.yield (w.heap.size + 1)) #[] #[]] ++ cs.toArray).size ≤ u)]
           split <;> rfl
         rw [e]
         exact this
        have hx1 : ∀ ai, St S0 (baseAt W1 c pI []) ⟨ie.fn.ntmps, numbered 0 (.val (.func (.yield (w.heap.size + 1)) #[] #[]) :: caps), s.bx, np⟩ c ai W1 → XSt P S0 w0 pI (zsIt (w.heap.size + 1) rec (w.heap.size :: Ds)) ⟨ie.fn.ntmps, (0, .val (.func (.yield (w.heap.size + 1)) #[] #[])) :: numbered 1 caps, s.bx, np⟩ x c ai W1 := by
         intro ai hsti
         refine ⟨_, [], ⟨hOm.reb, List.nodup_nil, fun D hD => by simp at hD, fun z hz => ?_, hOm.mp, fun z _ => by simp⟩, hsti, fun _ _ _ h => h, rfl⟩
         rw [hpe] at hz
         simp only [zsIt, List.mem_cons, List.map_cons, List.mem_map] at hz
         rcases hz with rfl | rfl | ⟨E, hE, rfl⟩
         ·exact hL
         ·exact hD
         ·exact hOm.ds E hE
        refine callsIn_of_wp_marks ie.hf hbody trivial ?_ rfl
        refine evX_sound (X := { X with E := ie.E, xann := ie.xann, all := fun _ => none }) hmix (fw_wide P) (round_sound hmix hrec ⟨hnp1, hnp2⟩ hall (fun u => hst.tm u) hst.size hpI' _) ⟨fun _ _ _ _ _ _ _ _ _ _ _ _ _ h => h.elim⟩ zsIt_walk code _ x _ c _ W1 _ (fun _ _ hh => ?_) hnp3 (allOk_none rfl code) (h (w.heap.size + 1)) (hx1 _ hsti) (fun e s' x' c' a' w' q1 q2 => ?_)
        ·obtain ⟨a0, w0', hq⟩ := hh
         exact hQ a0 w0' hq
        ·obtain ⟨w2, D2, hO2, hst2, hp2, hdf2⟩ := q2
         have hM2 := hst2.mem
         have hcc : ∀ i, i < np → c.live i → c'.live i ∧ c'.β i = c.β i ∧ c'.sz i = c.sz i := fun i hi hl => hM2.pin i _ _ (hp2 i _ _ ((hpI' i _ _).2 ⟨hi, hl, rfl, rfl⟩))
         have fin : (match x'.pe with
           | none => K .normal ⟨s.n, stayTm np s.tm, s'.bx, s.np⟩ ⟨x'.mp, none⟩
           | some e => K e ⟨s.n, stayTm np s.tm, s'.bx, s.np⟩ ⟨x'.mp, none⟩) → LeavesInM Fence.wide (n - 1) P ie.fn a'.tmps (rangePost Fence.wide n P (w.heap.size + 1) Q { a with defers := [markOf w.heap.size] ++ a.defers }) a'.defers .returning w' := by
          intro hk
          rw [hst2.defers, hdf2]
          refine leaves_marks (N := w0.w.heap.size) D2 w' hO2.nd (fun D hD => ⟨(hO2.ds D hD).lo, ((hO2.ds D hD).now hM2).1⟩) fun w3 k3 hs3 => ?_
          refine ⟨.tuple #[], ?_, ?_⟩
          ·have : ie.fn.results = #[] := Array.eq_empty_of_size_eq_zero hres
           rw [results_eq, this, Array.mapM_eq_mapM_toList]
           simp
          ·have hLx : Extn w0 w2 (w.heap.size + 1) (.loop (match x'.pe with | none => rec .ready none | some e => rec .done (some (exCode e)))) := hO2.zs (w.heap.size + 1, _) (List.mem_cons_self ..)
           have hne : ∀ e o, Extn w0 w2 e o → (∀ ds, o ≠ .deferred ds) → e ∉ D2 := fun e o he ho hm => by
            have h1 := he.at_
            rw [(hO2.ds e hm).at_, Option.some.injEq] at h1
            exact ho _ h1.symm
           have hLn := (hLx.now hM2).1
           have hL3 : w3.heap[w.heap.size + 1]? = some (.loop (match x'.pe with | none => rec .ready none | some e => rec .done (some (exCode e)))) := (hs3 _ (hne _ _ hLx (by simp))).trans hLn
           have hend := run_endLoop (P := P) hL3 (by cases x'.pe <;> (simp only [hrec]; simp [recOf]))
           refine ⟨_, _, hend, ?_⟩
           generalize hw4 : w3.putObj (w.heap.size + 1) (.loop { (match x'.pe with | none => rec .ready none | some e => rec .done (some (exCode e))) with state := .exhausted }) = w4
           have k4 : Moved w0.w.heap.size w3 w4 := by rw [← hw4]; exact Moved.put hL3 (by omega) rfl rfl
           have k := k3.trans k4
           have hs4 : ∀ e, e ∉ D2 → e ≠ w.heap.size + 1 → w4.heap[e]? = w'.heap[e]? := fun e h1 h2 => by rw [← hw4]; exact (World.putObj_heap_other h2).trans (hs3 e h1)
           have hDm : ∀ E, E ∈ w.heap.size :: Ds → Extn w0 w2 E (.deferred (some [])) := fun E hE => hO2.zs (E, _) (by simp only [zsIt, List.mem_cons, List.mem_map]; exact .inr ⟨E, by simpa using hE, rfl⟩)
           have hlast : ∀ E, E ∈ Ds → E < w.heap.size := fun E hE => (Array.getElem?_eq_some_iff.1 ((hO.ds E hE).now hM).1).1
           have hX : K (match x'.pe with | none => .normal | some e => e) ⟨s.n, stayTm np s.tm, s'.bx, s.np⟩ ⟨x'.mp, none⟩ := by
            revert hk
            cases x'.pe <;> exact id
           have hxs : (∀ E ∈ w.heap.size :: Ds, E ∉ D2) → XSt P S0 w0 pin0 zs0 ⟨s.n, stayTm np s.tm, s'.bx, s.np⟩ ⟨x'.mp, none⟩ c' { a with defers := [markOf w.heap.size] ++ a.defers } w4 := by
            intro hdis
            refine ⟨baseAt w4 c' pin0 ([markOf w.heap.size] ++ a.defers), w.heap.size :: Ds, ⟨hO2.reb.move hM2 k pin0 _, List.nodup_cons.2 ⟨fun hm => absurd (hlast _ hm) (Nat.lt_irrefl _), hO.nd⟩, fun E hE => (hDm E hE).move hM2 (hs4 E (hdis E hE) (fun e => by
             rcases List.mem_cons.1 hE with rfl | hE
             ·omega
             ·have := hlast E hE; omega)) _ _, fun z hz => by simp [zs0] at hz, fun B m hB => ?_, fun z hz => by simp [zs0] at hz⟩, ⟨hM2.moved k pin0 _ (fun _ _ _ h => h.elim), fun u => ?_, hst.size, rfl, fun _ _ _ h => h.elim⟩, fun _ _ _ h => h.elim, ?_⟩
            ·obtain ⟨g1, o, g2, g3⟩ := hO2.mp B m hB
             refine ⟨g1, o, g2, g3.move hM2 (hs4 B (hne _ _ g3 (fun ds e => ?_)) (fun e => ?_)) _ _⟩
             ·obtain ⟨es, clock, rfl, _⟩ := g2
              cases e
             ·have h1 := g3.at_
              rw [e, hLx.at_, Option.some.injEq] at h1
              obtain ⟨es, clock, rfl, _⟩ := g2
              cases h1
            ·show Rep c' w4 (look u (stayTm np s.tm)) _
             rw [look_stay]
             exact stayM_rep hcc (hst.tm u)
            ·show [markOf w.heap.size] ++ a.defers = (w.heap.size :: Ds).map markOf
             rw [hst.defers, hdf]
             rfl
           have hxs' := hxs (fun E hE => hO2.dis (E, .deferred (some [])) (by simp only [zsIt, List.mem_cons, List.mem_map]; exact .inr ⟨E, by simpa using hE, rfl⟩))
           have hfin := hK _ _ _ c' _ _ hX hxs'
           cases hpe' : x'.pe with
           | none =>
            rw [hpe'] at hfin
            simp only [hrec]
            exact hfin
           | some e' =>
            rw [hpe'] at hfin
            simp only [hrec]
            cases e' with
            | normal => exact wpIn_skip hfin
            | ret => exact wpIn_ret hfin
            | exit id => exact wpIn_exit hfin
         cases e with
         | normal => exact fin q1
         | ret => exact fin q1
         | exit id => exact q1.elim
     ·exact h.elim
    ·exact h.elim
   ·exact h.elim
  ·exact h.elim
 ·exact h.elim⟩
end
theorem holds_out {c : Ctx} {w : World} : ∀ (r : MRes), ¬ r.holds c w .outgrown
 | .ret _, h => h
 | .pan _, h => h
 | .br b x y, h => by
  simp only [MRes.holds] at h
  cases b with
  | true => exact holds_out x h
  | false => exact holds_out y h
theorem fnY {P : Program} {S0 : Nat → Prop} {w0 : Base} {F : Fence} {n : Nat} {pin : Nat → Nat → Sz → Prop} {zs : Option Ex → List (Nat × Obj)} (X : XE P) : YSnd F n P S0 w0 pin zs (hFn X) := ⟨fun _ _ _ _ _ _ _ _ _ h => (show False from h).elim⟩
theorem fnX_ok {P : Program} (hmix : P.follows .mixedOrders = true) {f : FuncId} {fn : Func} (hf : P.funcs[f]? = some fn) (spec : FSpec)
  (hspec : ∀ ms p r, spec ms = some (p, r) → p.holds → ∃ X : XE P, evFnX X fn ms r.sat ∧ allOk X (fn.body.getD .skip))
  (S : Nat → Prop) (w : World) (ms : List MV) (args : Array Value) (p : OProp) (r : MRes) (hs : spec ms = some (p, r)) (hp : p.holds) (hS : ∀ b, S b → b < w.heap.size) (hG : GW S w)
  (ha : RepAll (Ctx.args S) w ms args.toList) : Calls P f args w fun e w' => Ext w w' ∧ r.holds (Ctx.res S) w' e := by
 obtain ⟨X, h, hall⟩ := hspec ms p r hs hp
 unfold evFnX at h
 split at h
 ·rename_i c hb
  cases hl : (ms.length.ble fn.ntmps && ndCode c) with
  | false => rw [hl] at h; exact h.elim
  | true =>
   rw [hl, cond_true] at h
   simp only [Bool.and_eq_true] at hl
   have hle : ms.length ≤ fn.ntmps := Nat.le_of_ble_eq_true hl.1
   have hst0 := St.start (n := fn.ntmps) hS hG ha hle
   have hx0 : XSt P S (base0 w) pin0 zs0 ⟨fn.ntmps, numbered 0 ms, [], 0⟩ ⟨none, none⟩ (ctxOf S [] (fun _ => False) (fun _ => 0) (fun _ => ⟨0, 0⟩)) { tmps := args ++ Array.replicate (fn.ntmps - args.size) undef, defers := [] } w :=
    ⟨_, [], ⟨Reb.refl _, List.nodup_nil, fun D hD => by simp at hD, fun z hz => by simp [zs0] at hz, fun B m hB => by simp at hB, fun z hz => by simp [zs0] at hz⟩, hst0, fun _ _ _ h => h, rfl⟩
   refine (callsIn_wide (n := 1)).1 (callsIn_of_wp_marks hf hb trivial ?_ rfl)
   refine evX_sound hmix (fw_wide P) (fnY X) (rng_sound hmix) (fun _ z hz => by simp [zs0] at hz) c _ _ _ _ _ w _ (fun _ _ hh => ?_) hl.2 (by rw [hb] at hall; exact hall) h hx0 (fun e s' x' c' a' w' q1 q2 => ?_)
   ·exact holds_out r hh.2
   ·obtain ⟨w2, D2, hO2, hst2, hp2, hdf2⟩ := q2
    have fin : (match evResults P s' fn.results.toList with | some (p, l) => oand p <| r.sat (.ret (oneOrTup l)) | none => StuckRet s') →
      LeavesInM Fence.wide 1 P fn a'.tmps (fun e w' => Ext w w' ∧ r.holds (Ctx.res S) w' e) a'.defers .returning w' := by
     intro hK
     rw [hst2.defers, hdf2]
     refine leaves_marks (N := w.heap.size) D2 w' hO2.nd (fun D hD => ⟨(hO2.ds D hD).lo, ((hO2.ds D hD).now hst2.mem).1⟩) fun w3 k3 _ => ?_
     split at hK
     ·rename_i p l hres
      obtain ⟨hp, hK⟩ := oand_holds.1 hK
      have hst3 := hst2.at k3
      obtain ⟨vs, hvs, hrs⟩ := evResults_ok hst3 _ p l hres hp
      refine ⟨_, ?_, ?_, sat_ret r hK (oneOrTup_rep hrs)⟩
      ·rw [results_eq, Array.mapM_eq_mapM_toList]
       simp only [Sem.run_bind, Sem.run_map, hvs, Result.andThen, Sem.run_pure]
      ·have e := (hO2.reb.move hst2.mem k3 (fun _ _ _ => False) []).ext
       exact e.free (fun _ h => h)
     ·exact hK.elim
    cases e with
    | normal => exact fin q1
    | ret => exact fin q1
    | exit id => exact q1.elim
 ·exact h.elim
end Go.Proofs.YtmjklcpdfmgcaaaDoor
/-
 Contracts of functions: math/bits.Len64, LeadingZeros64, Mul64, Div64, TrailingZeros64.
-/
namespace Go.Proofs.YtmjklcpdfmgcaaaDoor
open Go Go.RowKit
open Go.IntKind (wrap i64 i32 i16 i8 u64 u32 u16 u8)
theorem q58 : ((2 : Int) ^ min (Int.toNat 58) (IntKind.bits u64)) = 288230376151711744 := by decide +kernel
theorem q32 : ((2 : Int) ^ min (Int.toNat 32) (IntKind.bits u64)) = 4294967296 := by decide +kernel
theorem q16 : ((2 : Int) ^ min (Int.toNat 16) (IntKind.bits u64)) = 65536 := by decide +kernel
theorem q8 : ((2 : Int) ^ min (Int.toNat 8) (IntKind.bits u64)) = 256 := by decide +kernel
theorem fd {x : Int} {k : Int} (h : 0 ≤ k) : Int.fdiv x k = x / k := Int.fdiv_eq_ediv_of_nonneg _ h
theorem len_step6 {x : Int} {z k : Nat} (hz : z < 256) (h0 : z ≠ 0) (hk : k ≤ 56) (h : ∃ r, x.toNat = z * 2 ^ k + r ∧ r < 2 ^ k) : i64.wrap ((k : Int) + i64.wrap (byteAt len8tab z)) = (bl x.toNat : Int) := by
 obtain ⟨r, h1, h2⟩ := h
 rw [h1, bl_mul h0 r h2, len8_at hz]
 have := bl8 hz
 have e1 : i64.wrap (bl z : Int) = bl z := i64w (by omega) (by omega)
 rw [e1, i64w (by omega) (by omega)]
 omega
theorem vc_len64 (x : Int) : (bif decide (x ≥ (4294967296 : Int)) then (0 : Int) ≤ (32 : Int) ∧ bif decide (Int.fdiv x ((2 : Int) ^ min (Int.toNat (32 : Int)) (IntKind.bits u64)) ≥ (65536 : Int)) then (0 : Int) ≤ (16 : Int) ∧ bif decide (Int.fdiv (Int.fdiv x ((2 : Int) ^ min (Int.toNat (32 : Int)) (IntKind.bits u64))) ((2 : Int) ^ min (Int.toNat (16 : Int)) (IntKind.bits u64)) ≥ (256 : Int)) then (0 : Int) ≤ (8 : Int) ∧ ((0 : Int) ≤ wrap u8 (Int.fdiv (Int.fdiv (Int.fdiv x ((2 : Int) ^ min (Int.toNat (32 : Int)) (IntKind.bits u64))) ((2 : Int) ^ min (Int.toNat (16 : Int)) (IntKind.bits u64))) ((2 : Int) ^ min (Int.toNat (8 : Int)) (IntKind.bits u64))) ∧ wrap u8 (Int.fdiv (Int.fdiv (Int.fdiv x ((2 : Int) ^ min (Int.toNat (32 : Int)) (IntKind.bits u64))) ((2 : Int) ^ min (Int.toNat (16 : Int)) (IntKind.bits u64))) ((2 : Int) ^ min (Int.toNat (8 : Int)) (IntKind.bits u64))) < (↑(ByteArray.size len8tab) : Int)) ∧ wrap i64 (wrap i64 (wrap i64 ((32 : Int) + (16 : Int)) + (8 : Int)) + wrap i64 (byteAt len8tab (Int.toNat (wrap u8 (Int.fdiv (Int.fdiv (Int.fdiv x ((2 : Int) ^ min (Int.toNat (32 : Int)) (IntKind.bits u64))) ((2 : Int) ^ min (Int.toNat (16 : Int)) (IntKind.bits u64))) ((2 : Int) ^ min (Int.toNat (8 : Int)) (IntKind.bits u64))))))) = (↑(bl (Int.toNat x)) : Int) else ((0 : Int) ≤ wrap u8 (Int.fdiv (Int.fdiv x ((2 : Int) ^ min (Int.toNat (32 : Int)) (IntKind.bits u64))) ((2 : Int) ^ min (Int.toNat (16 : Int)) (IntKind.bits u64))) ∧ wrap u8 (Int.fdiv (Int.fdiv x ((2 : Int) ^ min (Int.toNat (32 : Int)) (IntKind.bits u64))) ((2 : Int) ^ min (Int.toNat (16 : Int)) (IntKind.bits u64))) < (↑(ByteArray.size len8tab) : Int)) ∧ wrap i64 (wrap i64 ((32 : Int) + (16 : Int)) + wrap i64 (byteAt len8tab (Int.toNat (wrap u8 (Int.fdiv (Int.fdiv x ((2 : Int) ^ min (Int.toNat (32 : Int)) (IntKind.bits u64))) ((2 : Int) ^ min (Int.toNat (16 : Int)) (IntKind.bits u64))))))) = (↑(bl (Int.toNat x)) : Int) else bif decide (Int.fdiv x ((2 : Int) ^ min (Int.toNat (32 : Int)) (IntKind.bits u64)) ≥ (256 : Int)) then (0 : Int) ≤ (8 : Int) ∧ ((0 : Int) ≤ wrap u8 (Int.fdiv (Int.fdiv x ((2 : Int) ^ min (Int.toNat (32 : Int)) (IntKind.bits u64))) ((2 : Int) ^ min (Int.toNat (8 : Int)) (IntKind.bits u64))) ∧ wrap u8 (Int.fdiv (Int.fdiv x ((2 : Int) ^ min (Int.toNat (32 : Int)) (IntKind.bits u64))) ((2 : Int) ^ min (Int.toNat (8 : Int)) (IntKind.bits u64))) < (↑(ByteArray.size len8tab) : Int)) ∧ wrap i64 (wrap i64 ((32 : Int) + (8 : Int)) + wrap i64 (byteAt len8tab (Int.toNat (wrap u8 (Int.fdiv (Int.fdiv x ((2 : Int) ^ min (Int.toNat (32 : Int)) (IntKind.bits u64))) ((2 : Int) ^ min (Int.toNat (8 : Int)) (IntKind.bits u64))))))) = (↑(bl (Int.toNat x)) : Int) else ((0 : Int) ≤ wrap u8 (Int.fdiv x ((2 : Int) ^ min (Int.toNat (32 : Int)) (IntKind.bits u64))) ∧ wrap u8 (Int.fdiv x ((2 : Int) ^ min (Int.toNat (32 : Int)) (IntKind.bits u64))) < (↑(ByteArray.size len8tab) : Int)) ∧ wrap i64 ((32 : Int) + wrap i64 (byteAt len8tab (Int.toNat (wrap u8 (Int.fdiv x ((2 : Int) ^ min (Int.toNat (32 : Int)) (IntKind.bits u64))))))) = (↑(bl (Int.toNat x)) : Int) else bif decide (x ≥ (65536 : Int)) then (0 : Int) ≤ (16 : Int) ∧ bif decide (Int.fdiv x ((2 : Int) ^ min (Int.toNat (16 : Int)) (IntKind.bits u64)) ≥ (256 : Int)) then (0 : Int) ≤ (8 : Int) ∧ ((0 : Int) ≤ wrap u8 (Int.fdiv (Int.fdiv x ((2 : Int) ^ min (Int.toNat (16 : Int)) (IntKind.bits u64))) ((2 : Int) ^ min (Int.toNat (8 : Int)) (IntKind.bits u64))) ∧ wrap u8 (Int.fdiv (Int.fdiv x ((2 : Int) ^ min (Int.toNat (16 : Int)) (IntKind.bits u64))) ((2 : Int) ^ min (Int.toNat (8 : Int)) (IntKind.bits u64))) < (↑(ByteArray.size len8tab) : Int)) ∧ wrap i64 (wrap i64 (wrap i64 ((0 : Int) + (16 : Int)) + (8 : Int)) + wrap i64 (byteAt len8tab (Int.toNat (wrap u8 (Int.fdiv (Int.fdiv x ((2 : Int) ^ min (Int.toNat (16 : Int)) (IntKind.bits u64))) ((2 : Int) ^ min (Int.toNat (8 : Int)) (IntKind.bits u64))))))) = (↑(bl (Int.toNat x)) : Int) else ((0 : Int) ≤ wrap u8 (Int.fdiv x ((2 : Int) ^ min (Int.toNat (16 : Int)) (IntKind.bits u64))) ∧ wrap u8 (Int.fdiv x ((2 : Int) ^ min (Int.toNat (16 : Int)) (IntKind.bits u64))) < (↑(ByteArray.size len8tab) : Int)) ∧ wrap i64 (wrap i64 ((0 : Int) + (16 : Int)) + wrap i64 (byteAt len8tab (Int.toNat (wrap u8 (Int.fdiv x ((2 : Int) ^ min (Int.toNat (16 : Int)) (IntKind.bits u64))))))) = (↑(bl (Int.toNat x)) : Int) else bif decide (x ≥ (256 : Int)) then (0 : Int) ≤ (8 : Int) ∧ ((0 : Int) ≤ wrap u8 (Int.fdiv x ((2 : Int) ^ min (Int.toNat (8 : Int)) (IntKind.bits u64))) ∧ wrap u8 (Int.fdiv x ((2 : Int) ^ min (Int.toNat (8 : Int)) (IntKind.bits u64))) < (↑(ByteArray.size len8tab) : Int)) ∧ wrap i64 (wrap i64 ((0 : Int) + (8 : Int)) + wrap i64 (byteAt len8tab (Int.toNat (wrap u8 (Int.fdiv x ((2 : Int) ^ min (Int.toNat (8 : Int)) (IntKind.bits u64))))))) = (↑(bl (Int.toNat x)) : Int) else ((0 : Int) ≤ wrap u8 x ∧ wrap u8 x < (↑(ByteArray.size len8tab) : Int)) ∧ wrap i64 ((0 : Int) + wrap i64 (byteAt len8tab (Int.toNat (wrap u8 x)))) = (↑(bl (Int.toNat x)) : Int)) = evFn (env [] noAnn) Tryd.f93 [.int .u64 x] (MRes.sat (.ret (.int .i64 (bl x.toNat)))) := by kernel_rfl
def s_len64 : FSpec
 | [.int .u64 x] => some (some (0 ≤ x ∧ x < 18446744073709551616), .ret (.int .i64 (bl x.toNat)))
 | _ => none
theorem w56 : i64.wrap (i64.wrap ((32 : Int) + 16) + 8) = 56 := by decide +kernel
theorem w48 : i64.wrap ((32 : Int) + 16) = 48 := by decide +kernel
theorem w40 : i64.wrap ((32 : Int) + 8) = 40 := by decide +kernel
theorem w24' : i64.wrap (i64.wrap ((0 : Int) + 16) + 8) = 24 := by decide +kernel
theorem w16' : i64.wrap ((0 : Int) + 16) = 16 := by decide +kernel
theorem p_len64 : Good Tryd.f93 s_len64 := by
 intro ms p r h hp
 unfold s_len64 at h
 split at h
 ·rename_i x
  simp only [Option.some.injEq, Prod.mk.injEq] at h
  obtain ⟨rfl, rfl⟩ := h
  obtain ⟨h1, h2⟩ : 0 ≤ x ∧ x < 18446744073709551616 := hp
  refine ⟨env [] noAnn, ?_⟩
  rw [← vc_len64 x, q32, q16, q8, len8_size, w56, w48, w40, w24', w16', w8]
  simp only [u8w, fd (show (0 : Int) ≤ 4294967296 by omega), fd (show (0 : Int) ≤ 65536 by omega), fd (show (0 : Int) ≤ 256 by omega), Bool.cond_decide]
  split
  ·refine ⟨by omega, ?_⟩
   split
   ·refine ⟨by omega, ?_⟩
    split
    ·refine ⟨by omega, by omega, ?_⟩
     exact len_step6 (z := (x / 4294967296 / 65536 / 256 % 256).toNat) (k := 56) (by omega) (by omega) (by omega) ⟨(x % 72057594037927936).toNat, by omega, by omega⟩
    ·refine ⟨by omega, ?_⟩
     exact len_step6 (z := (x / 4294967296 / 65536 % 256).toNat) (k := 48) (by omega) (by omega) (by omega) ⟨(x % 281474976710656).toNat, by omega, by omega⟩
   ·split
    ·refine ⟨by omega, by omega, ?_⟩
     exact len_step6 (z := (x / 4294967296 / 256 % 256).toNat) (k := 40) (by omega) (by omega) (by omega) ⟨(x % 1099511627776).toNat, by omega, by omega⟩
    ·refine ⟨by omega, ?_⟩
     exact len_step6 (z := (x / 4294967296 % 256).toNat) (k := 32) (by omega) (by omega) (by omega) ⟨(x % 4294967296).toNat, by omega, by omega⟩
  ·split
   ·refine ⟨by omega, ?_⟩
    split
    ·refine ⟨by omega, by omega, ?_⟩
     exact len_step6 (z := (x / 65536 / 256 % 256).toNat) (k := 24) (by omega) (by omega) (by omega) ⟨(x % 16777216).toNat, by omega, by omega⟩
    ·refine ⟨by omega, ?_⟩
     exact len_step6 (z := (x / 65536 % 256).toNat) (k := 16) (by omega) (by omega) (by omega) ⟨(x % 65536).toNat, by omega, by omega⟩
   ·split
    ·refine ⟨by omega, by omega, ?_⟩
     exact len_step6 (z := (x / 256 % 256).toNat) (k := 8) (by omega) (by omega) (by omega) ⟨(x % 256).toNat, by omega, by omega⟩
    ·refine ⟨by omega, ?_⟩
     by_cases e : x = 0
     ·subst e
      have : ((0 : Int) % 256).toNat = 0 := by omega
      rw [this, len8_at (by omega), bl_zero]
      decide +kernel
     ·exact len_step6 (z := (x % 256).toNat) (k := 0) (by omega) (by omega) (by omega) ⟨0, by omega, by omega⟩
 ·simp at h
def c_len64 : Ctr Tryd.prog := ⟨93, s_len64, fun args w => Tryd.call93 args w, fn_ok mix Tryd.func93 s_len64 p_len64⟩
theorem bl64 {x : Int} (h : x < 18446744073709551616) : bl x.toNat ≤ 64 := bl_le_of (show x.toNat < 2 ^ 64 by omega)
def s_lz64 : FSpec
 | [.int .u64 x] => some (some (0 ≤ x ∧ x < 18446744073709551616), .ret (.int .i64 (64 - bl x.toNat)))
 | _ => none
theorem vc_lz64 (x : Int) : (((0 : Int) ≤ x ∧ x < (18446744073709551616 : Int)) ∧ wrap i64 ((64 : Int) - (↑(bl (Int.toNat x)) : Int)) = (64 : Int) - (↑(bl (Int.toNat x)) : Int)) = evFn (env [c_len64] noAnn) Tryd.f83 [.int .u64 x] (MRes.sat (.ret (.int .i64 (64 - bl x.toNat)))) := by kernel_rfl
theorem p_lz64 : Good Tryd.f83 s_lz64 := by
 intro ms p r h hp
 unfold s_lz64 at h
 split at h
 ·rename_i x
  simp only [Option.some.injEq, Prod.mk.injEq] at h
  obtain ⟨rfl, rfl⟩ := h
  obtain ⟨h1, h2⟩ : 0 ≤ x ∧ x < 18446744073709551616 := hp
  refine ⟨env [c_len64] noAnn, ?_⟩
  rw [← vc_lz64 x]
  have := bl64 h2
  refine ⟨⟨h1, h2⟩, i64w (by omega) (by omega)⟩
 ·simp at h
def c_lz64 : Ctr Tryd.prog := ⟨83, s_lz64, fun args w => Tryd.call83 args w, fn_ok mix Tryd.func83 s_lz64 p_lz64⟩
/-! ### Mul64 -/
theorem vc_mul64 (x y h l : Int) : ((0 : Int) ≤ (32 : Int) ∧ (0 : Int) ≤ (32 : Int) ∧ (0 : Int) ≤ (32 : Int) ∧ (0 : Int) ≤ (32 : Int) ∧ (0 : Int) ≤ (32 : Int) ∧ wrap u64 (wrap u64 (wrap u64 (Int.fdiv x ((2 : Int) ^ min (Int.toNat (32 : Int)) (IntKind.bits u64)) * Int.fdiv y ((2 : Int) ^ min (Int.toNat (32 : Int)) (IntKind.bits u64))) + Int.fdiv (wrap u64 (wrap u64 (Int.fdiv x ((2 : Int) ^ min (Int.toNat (32 : Int)) (IntKind.bits u64)) * wrap u64 (↑(BitVec.toNat (BitVec.ofInt (IntKind.bits u64) y &&& BitVec.ofInt (IntKind.bits u64) (4294967295 : Int))) : Int)) + Int.fdiv (wrap u64 (wrap u64 (↑(BitVec.toNat (BitVec.ofInt (IntKind.bits u64) x &&& BitVec.ofInt (IntKind.bits u64) (4294967295 : Int))) : Int) * wrap u64 (↑(BitVec.toNat (BitVec.ofInt (IntKind.bits u64) y &&& BitVec.ofInt (IntKind.bits u64) (4294967295 : Int))) : Int))) ((2 : Int) ^ min (Int.toNat (32 : Int)) (IntKind.bits u64)))) ((2 : Int) ^ min (Int.toNat (32 : Int)) (IntKind.bits u64))) + Int.fdiv (wrap u64 (wrap u64 (↑(BitVec.toNat (BitVec.ofInt (IntKind.bits u64) (wrap u64 (wrap u64 (Int.fdiv x ((2 : Int) ^ min (Int.toNat (32 : Int)) (IntKind.bits u64)) * wrap u64 (↑(BitVec.toNat (BitVec.ofInt (IntKind.bits u64) y &&& BitVec.ofInt (IntKind.bits u64) (4294967295 : Int))) : Int)) + Int.fdiv (wrap u64 (wrap u64 (↑(BitVec.toNat (BitVec.ofInt (IntKind.bits u64) x &&& BitVec.ofInt (IntKind.bits u64) (4294967295 : Int))) : Int) * wrap u64 (↑(BitVec.toNat (BitVec.ofInt (IntKind.bits u64) y &&& BitVec.ofInt (IntKind.bits u64) (4294967295 : Int))) : Int))) ((2 : Int) ^ min (Int.toNat (32 : Int)) (IntKind.bits u64)))) &&& BitVec.ofInt (IntKind.bits u64) (4294967295 : Int))) : Int) + wrap u64 (wrap u64 (↑(BitVec.toNat (BitVec.ofInt (IntKind.bits u64) x &&& BitVec.ofInt (IntKind.bits u64) (4294967295 : Int))) : Int) * Int.fdiv y ((2 : Int) ^ min (Int.toNat (32 : Int)) (IntKind.bits u64))))) ((2 : Int) ^ min (Int.toNat (32 : Int)) (IntKind.bits u64))) = h ∧ wrap u64 (x * y) = l ∧ True) = evFn (env [] noAnn) Tryd.f66 [.int .u64 x, .int .u64 y] (MRes.sat (.ret (.tup [.int .u64 h, .int .u64 l]))) := by kernel_rfl
theorem and_lowI {x : Int} (h0 : 0 ≤ x) (h : x < 18446744073709551616) : wrap u64 ((BitVec.ofInt (IntKind.bits u64) x &&& BitVec.ofInt (IntKind.bits u64) 4294967295).toNat : Int) = x % 4294967296 := by
 have := and_low64 x.toNat (by omega)
 rw [show ((x.toNat : Nat) : Int) = x by omega] at this
 rw [this]; omega
theorem mul_hi {x0 x1 y0 y1 : Int} (a0 : 0 ≤ x0) (a1 : x0 < 4294967296) (b0 : 0 ≤ x1) (b1 : x1 < 4294967296) (c0 : 0 ≤ y0) (c1 : y0 < 4294967296) (d0 : 0 ≤ y1) (d1 : y1 < 4294967296) :
  x1 * y1 + (x1 * y0 + x0 * y0 / 4294967296) / 4294967296 + ((x1 * y0 + x0 * y0 / 4294967296) % 4294967296 + x0 * y1) / 4294967296 = (x1 * 4294967296 + x0) * (y1 * 4294967296 + y0) / 18446744073709551616 := by
 have e : (x1 * 4294967296 + x0) * (y1 * 4294967296 + y0) = x1 * y1 * 18446744073709551616 + (x1 * y0 + x0 * y1) * 4294967296 + x0 * y0 := by
  rw [Int.add_mul, Int.mul_add, Int.mul_add]
  have e1 : x1 * 4294967296 * (y1 * 4294967296) = x1 * y1 * 18446744073709551616 := by
   rw [Int.mul_assoc, Int.mul_left_comm 4294967296 y1, ← Int.mul_assoc]; rfl
  have e2 : x1 * 4294967296 * y0 = x1 * y0 * 4294967296 := by rw [Int.mul_right_comm]
  have e3 : x0 * (y1 * 4294967296) = x0 * y1 * 4294967296 := by rw [← Int.mul_assoc]
  rw [e1, e2, e3]; omega
 rw [e]
 have h1 := mul_lt_sq a0 a1 c0 c1
 have h2 := mul_lt_sq b0 b1 c0 c1
 have h3 := mul_lt_sq a0 a1 d0 d1
 have h4 := mul_lt_sq b0 b1 d0 d1
 generalize x0 * y0 = p at *
 generalize x1 * y0 = q at *
 generalize x0 * y1 = r at *
 generalize x1 * y1 = s at *
 omega
def s_mul64 : FSpec
 | [.int .u64 x, .int .u64 y] => some (some ((0 ≤ x ∧ x < 18446744073709551616) ∧ 0 ≤ y ∧ y < 18446744073709551616), .ret (.tup [.int .u64 (x * y / 18446744073709551616), .int .u64 (x * y % 18446744073709551616)]))
 | _ => none
theorem p_mul64 : Good Tryd.f66 s_mul64 := by
 intro ms p r h hp
 unfold s_mul64 at h
 split at h
 ·rename_i x y
  simp only [Option.some.injEq, Prod.mk.injEq] at h
  obtain ⟨rfl, rfl⟩ := h
  obtain ⟨⟨hx0, hx1⟩, hy0, hy1⟩ : (0 ≤ x ∧ x < 18446744073709551616) ∧ 0 ≤ y ∧ y < 18446744073709551616 := hp
  refine ⟨env [] noAnn, ?_⟩
  rw [← vc_mul64 x y, q32]
  simp only [fd (show (0 : Int) ≤ 4294967296 by omega)]
  rw [and_lowI hx0 hx1, and_lowI hy0 hy1]
  have ex : x = x / 4294967296 * 4294967296 + x % 4294967296 := by omega
  have ey : y = y / 4294967296 * 4294967296 + y % 4294967296 := by omega
  have a0 : 0 ≤ x % 4294967296 := by omega
  have a1 : x % 4294967296 < 4294967296 := by omega
  have b0 : 0 ≤ x / 4294967296 := by omega
  have b1 : x / 4294967296 < 4294967296 := by omega
  have c0 : 0 ≤ y % 4294967296 := by omega
  have c1 : y % 4294967296 < 4294967296 := by omega
  have d0 : 0 ≤ y / 4294967296 := by omega
  have d1 : y / 4294967296 < 4294967296 := by omega
  have hm := mul_hi a0 a1 b0 b1 c0 c1 d0 d1
  rw [← ex, ← ey] at hm
  generalize x % 4294967296 = x0 at *
  generalize x / 4294967296 = x1 at *
  generalize y % 4294967296 = y0 at *
  generalize y / 4294967296 = y1 at *
  have h1 := mul_lt_sq a0 a1 c0 c1
  have h2 := mul_lt_sq b0 b1 c0 c1
  have h3 := mul_lt_sq a0 a1 d0 d1
  have h4 := mul_lt_sq b0 b1 d0 d1
  rw [u64i h1.1 (by omega), u64i h2.1 (by omega), u64i h3.1 (by omega), u64i h4.1 (by omega)]
  have t0 : 0 ≤ x0 * y0 / 4294967296 := by omega
  have t1 : x0 * y0 / 4294967296 < 4294967296 := by omega
  rw [u64i (x := x1 * y0 + x0 * y0 / 4294967296) (by omega) (by omega), and_lowI (x := x1 * y0 + x0 * y0 / 4294967296) (by omega) (by omega)]
  rw [u64i (x := (x1 * y0 + x0 * y0 / 4294967296) % 4294967296 + x0 * y1) (by omega) (by omega)]
  have hz : 0 ≤ x1 * y1 + (x1 * y0 + x0 * y0 / 4294967296) / 4294967296 := by omega
  have hz2 : x1 * y1 + (x1 * y0 + x0 * y0 / 4294967296) / 4294967296 + ((x1 * y0 + x0 * y0 / 4294967296) % 4294967296 + x0 * y1) / 4294967296 ≤ 18446744073709551615 := by
   generalize x0 * y0 = p at *
   generalize x1 * y0 = q at *
   generalize x0 * y1 = r at *
   generalize x1 * y1 = s at *
   omega
  rw [u64i hz (by omega), u64i (by omega) hz2, hm, u64w]
  and_intros <;> first | exact True.intro | rfl | omega
 ·simp at h
def c_mul64 : Ctr Tryd.prog := ⟨66, s_mul64, fun args w => Tryd.call66 args w, fn_ok mix Tryd.func66 s_mul64 p_mul64⟩
/-! ### TrailingZeros64 -/
theorem vc_tz64 (x z : Int) : (bif x == (0 : Int) then (64 : Int) = z else (0 : Int) ≤ (58 : Int) ∧ ((0 : Int) ≤ Int.fdiv (wrap u64 (wrap u64 (↑(BitVec.toNat (BitVec.ofInt (IntKind.bits u64) x &&& BitVec.ofInt (IntKind.bits u64) (wrap u64 ((0 : Int) - x)))) : Int) * (285870213051353865 : Int))) ((2 : Int) ^ min (Int.toNat (58 : Int)) (IntKind.bits u64)) ∧ Int.fdiv (wrap u64 (wrap u64 (↑(BitVec.toNat (BitVec.ofInt (IntKind.bits u64) x &&& BitVec.ofInt (IntKind.bits u64) (wrap u64 ((0 : Int) - x)))) : Int) * (285870213051353865 : Int))) ((2 : Int) ^ min (Int.toNat (58 : Int)) (IntKind.bits u64)) < (↑(64 : Nat) : Int)) ∧ wrap i64 (List.getD gList (Int.toNat (Int.fdiv (wrap u64 (wrap u64 (↑(BitVec.toNat (BitVec.ofInt (IntKind.bits u64) x &&& BitVec.ofInt (IntKind.bits u64) (wrap u64 ((0 : Int) - x)))) : Int) * (285870213051353865 : Int))) ((2 : Int) ^ min (Int.toNat (58 : Int)) (IntKind.bits u64)))) (0 : Int)) = z) = evFn (env [] noAnn) Tryd.f44 [.int .u64 x] (MRes.sat (.ret (.int .i64 z))) := by kernel_rfl
theorem tz_table : ∀ k : Fin 64, 2 ^ k.1 * 285870213051353865 % 18446744073709551616 / 288230376151711744 < 64 ∧ gList.getD (2 ^ k.1 * 285870213051353865 % 18446744073709551616 / 288230376151711744) 0 = (k.1 : Int) := by decide +kernel
theorem and_negI {x : Int} (h0 : 0 < x) (h : x < 18446744073709551616) : wrap u64 ((BitVec.ofInt (IntKind.bits u64) x &&& BitVec.ofInt (IntKind.bits u64) (wrap u64 (0 - x))).toNat : Int) = ((2 ^ tzF 64 x.toNat : Nat) : Int) := by
 obtain ⟨n, rfl⟩ : ∃ n : Nat, x = n := ⟨x.toNat, by omega⟩
 have e1 : wrap u64 (0 - (n : Int)) = ((18446744073709551616 - n : Nat) : Int) := by rw [u64w]; omega
 rw [e1, Int.toNat_natCast, BitVec.toNat_and]
 have b1 : (BitVec.ofInt (IntKind.bits u64) (n : Int)).toNat = n := bv64 n (by omega)
 have b2 : (BitVec.ofInt (IntKind.bits u64) ((18446744073709551616 - n : Nat) : Int)).toNat = 18446744073709551616 - n := bv64 _ (by omega)
 rw [b1, b2]
 have ha := and_neg 64 n (by omega) (show n < 18446744073709551616 by omega)
 have ha : n &&& (18446744073709551616 - n) = 2 ^ tzF 64 n := ha
 have hk := (tzF_ok 64 n (by omega) (show n < 18446744073709551616 by omega)).l
 rw [ha]
 have hp : 2 ^ tzF 64 n < 2 ^ 64 := Nat.pow_lt_pow_right (by omega) hk
 have : (2 : Nat) ^ 64 = 18446744073709551616 := rfl
 exact u64i (by omega) (by omega)
def s_tz64 : FSpec
 | [.int .u64 x] => some (some (0 < x ∧ x < 18446744073709551616), .ret (.int .i64 (tzF 64 x.toNat)))
 | _ => none
theorem p_tz64 : Good Tryd.f44 s_tz64 := by
 intro ms p r h hp
 unfold s_tz64 at h
 split at h
 ·rename_i x
  simp only [Option.some.injEq, Prod.mk.injEq] at h
  obtain ⟨rfl, rfl⟩ := h
  obtain ⟨h0, h1⟩ : 0 < x ∧ x < 18446744073709551616 := hp
  refine ⟨env [] noAnn, ?_⟩
  rw [← vc_tz64 x, q58, and_negI h0 h1]
  have hk := (tzF_ok 64 x.toNat (by omega) (show x.toNat < 18446744073709551616 by omega)).l
  generalize tzF 64 x.toNat = k at hk ⊢
  obtain ⟨t1, t2⟩ := tz_table ⟨k, hk⟩
  simp only at t1 t2
  have e : Int.fdiv (wrap u64 (((2 ^ k : Nat) : Int) * 285870213051353865)) 288230376151711744 = ((2 ^ k * 285870213051353865 % 18446744073709551616 / 288230376151711744 : Nat) : Int) := by
   rw [fd (by omega), u64w]
   generalize (2 : Nat) ^ k = P
   omega
  rw [e, Int.toNat_natCast, t2]
  exact condF (beqI0 (by omega)) ⟨by omega, ⟨by omega, by omega⟩, i64w (by omega) (by omega)⟩
 ·simp at h
def c_tz64 : Ctr Tryd.prog := ⟨44, s_tz64, fun args w => Tryd.call44 args w, fn_ok mix Tryd.func44 s_tz64 p_tz64⟩
/-! ### Div64 -/
def dqT (Y S a b U c d q r V : Int) (k : Nat) : MS :=
 cond (Nat.beq k 0) ⟨135, [(2, .int .u64 Y), (8, .int .u64 S), (9, .int .u64 a), (10, .int .u64 b), (11, .int .u64 U), (13, .int .u64 c), (14, .int .u64 d), (15, .int .u64 q), (16, .int .u64 r)], [], 0⟩
  ⟨135, [(2, .int .u64 Y), (8, .int .u64 S), (9, .int .u64 a), (10, .int .u64 b), (14, .int .u64 d), (15, .int .u64 V), (17, .int .u64 U), (18, .int .u64 q), (16, .int .u64 r)], [], 0⟩
def a_div64 (Y S a b U V c d Q : Int) : Nat → MS → Option LoopAnn
 | 17, _ => some (.inv DQ (DqI a U c Y) (fun i => dqT Y S a b U c d i.q i.r 0 0) (fun i => i.q.toNat))
 | 24, _ => some (.inv DQ (DqI a V d Y) (fun i => dqT Y S a b V 0 d i.q i.r Q 1) (fun i => i.q.toNat))
 | _, _ => none
def k_div64 (Y S a b U V c d Q q : Int) : Nat → MS → Option CutAnn
 | 21, _ => some (.mk Nat (fun i => i = 0) (fun _ => ⟨135, [(2, .int .u64 Y), (8, .int .u64 S), (9, .int .u64 a), (10, .int .u64 b), (11, .int .u64 U), (13, .int .u64 c), (14, .int .u64 d), (15, .int .u64 Q)], [], 0⟩))
 | 28, _ => some (.mk Nat (fun i => i = 0) (fun _ => ⟨135, [(2, .int .u64 Y), (8, .int .u64 S), (14, .int .u64 d), (15, .int .u64 Q), (17, .int .u64 V), (18, .int .u64 q)], [], 0⟩))
 | _, _ => none
def envK (Γ : List (Ctr Tryd.prog)) (ann : Nat → MS → Option LoopAnn) (cut : Nat → MS → Option CutAnn) : Env Tryd.prog := ⟨Γ, [], 27, ann, fun _ => [], cut⟩
theorem vc_div64 (h l y Y S a b U V c d Q q A B : Int) : (bif y == (0 : Int) then False else bif decide (y ≤ h) then False else bif h == (0 : Int) then (y = (0 : Int) → False) ∧ (y = (0 : Int) → False) ∧ wrap u64 (Int.tdiv l y) = A ∧ Int.tmod l y = B ∧ True else ((0 : Int) ≤ y ∧ y < (18446744073709551616 : Int)) ∧ (0 : Int) ≤ wrap u64 ((64 : Int) - (↑(bl (Int.toNat y)) : Int)) ∧ (0 : Int) ≤ (32 : Int) ∧ (0 : Int) ≤ wrap u64 ((64 : Int) - (↑(bl (Int.toNat y)) : Int)) ∧ (0 : Int) ≤ wrap u64 ((64 : Int) - wrap u64 ((64 : Int) - (↑(bl (Int.toNat y)) : Int))) ∧ (0 : Int) ≤ wrap u64 ((64 : Int) - (↑(bl (Int.toNat y)) : Int)) ∧ (0 : Int) ≤ (32 : Int) ∧ (Int.fdiv (wrap u64 (y * (2 : Int) ^ min (Int.toNat (wrap u64 ((64 : Int) - (↑(bl (Int.toNat y)) : Int)))) (IntKind.bits u64))) ((2 : Int) ^ min (Int.toNat (32 : Int)) (IntKind.bits u64)) = (0 : Int) → False) ∧ ((∃ i, DqI a U c Y i ∧ (wrap u64 (y * (2 : Int) ^ min (Int.toNat (wrap u64 ((64 : Int) - (↑(bl (Int.toNat y)) : Int)))) (IntKind.bits u64)) = Y ∧ wrap u64 ((64 : Int) - (↑(bl (Int.toNat y)) : Int)) = S ∧ Int.fdiv (wrap u64 (y * (2 : Int) ^ min (Int.toNat (wrap u64 ((64 : Int) - (↑(bl (Int.toNat y)) : Int)))) (IntKind.bits u64))) ((2 : Int) ^ min (Int.toNat (32 : Int)) (IntKind.bits u64)) = a ∧ wrap u64 (↑(BitVec.toNat (BitVec.ofInt (IntKind.bits u64) (wrap u64 (y * (2 : Int) ^ min (Int.toNat (wrap u64 ((64 : Int) - (↑(bl (Int.toNat y)) : Int)))) (IntKind.bits u64))) &&& BitVec.ofInt (IntKind.bits u64) (4294967295 : Int))) : Int) = b ∧ wrap u64 (↑(BitVec.toNat (BitVec.ofInt (IntKind.bits u64) (wrap u64 (h * (2 : Int) ^ min (Int.toNat (wrap u64 ((64 : Int) - (↑(bl (Int.toNat y)) : Int)))) (IntKind.bits u64))) ||| BitVec.ofInt (IntKind.bits u64) (Int.fdiv l ((2 : Int) ^ min (Int.toNat (wrap u64 ((64 : Int) - wrap u64 ((64 : Int) - (↑(bl (Int.toNat y)) : Int))))) (IntKind.bits u64))))) : Int) = U ∧ Int.fdiv (wrap u64 (l * (2 : Int) ^ min (Int.toNat (wrap u64 ((64 : Int) - (↑(bl (Int.toNat y)) : Int)))) (IntKind.bits u64))) ((2 : Int) ^ min (Int.toNat (32 : Int)) (IntKind.bits u64)) = c ∧ wrap u64 (↑(BitVec.toNat (BitVec.ofInt (IntKind.bits u64) (wrap u64 (l * (2 : Int) ^ min (Int.toNat (wrap u64 ((64 : Int) - (↑(bl (Int.toNat y)) : Int)))) (IntKind.bits u64))) &&& BitVec.ofInt (IntKind.bits u64) (4294967295 : Int))) : Int) = d ∧ wrap u64 (Int.tdiv (wrap u64 (↑(BitVec.toNat (BitVec.ofInt (IntKind.bits u64) (wrap u64 (h * (2 : Int) ^ min (Int.toNat (wrap u64 ((64 : Int) - (↑(bl (Int.toNat y)) : Int)))) (IntKind.bits u64))) ||| BitVec.ofInt (IntKind.bits u64) (Int.fdiv l ((2 : Int) ^ min (Int.toNat (wrap u64 ((64 : Int) - wrap u64 ((64 : Int) - (↑(bl (Int.toNat y)) : Int))))) (IntKind.bits u64))))) : Int)) (Int.fdiv (wrap u64 (y * (2 : Int) ^ min (Int.toNat (wrap u64 ((64 : Int) - (↑(bl (Int.toNat y)) : Int)))) (IntKind.bits u64))) ((2 : Int) ^ min (Int.toNat (32 : Int)) (IntKind.bits u64)))) = DQ.q i ∧ wrap u64 (wrap u64 (↑(BitVec.toNat (BitVec.ofInt (IntKind.bits u64) (wrap u64 (h * (2 : Int) ^ min (Int.toNat (wrap u64 ((64 : Int) - (↑(bl (Int.toNat y)) : Int)))) (IntKind.bits u64))) ||| BitVec.ofInt (IntKind.bits u64) (Int.fdiv l ((2 : Int) ^ min (Int.toNat (wrap u64 ((64 : Int) - wrap u64 ((64 : Int) - (↑(bl (Int.toNat y)) : Int))))) (IntKind.bits u64))))) : Int) - wrap u64 (wrap u64 (Int.tdiv (wrap u64 (↑(BitVec.toNat (BitVec.ofInt (IntKind.bits u64) (wrap u64 (h * (2 : Int) ^ min (Int.toNat (wrap u64 ((64 : Int) - (↑(bl (Int.toNat y)) : Int)))) (IntKind.bits u64))) ||| BitVec.ofInt (IntKind.bits u64) (Int.fdiv l ((2 : Int) ^ min (Int.toNat (wrap u64 ((64 : Int) - wrap u64 ((64 : Int) - (↑(bl (Int.toNat y)) : Int))))) (IntKind.bits u64))))) : Int)) (Int.fdiv (wrap u64 (y * (2 : Int) ^ min (Int.toNat (wrap u64 ((64 : Int) - (↑(bl (Int.toNat y)) : Int)))) (IntKind.bits u64))) ((2 : Int) ^ min (Int.toNat (32 : Int)) (IntKind.bits u64)))) * Int.fdiv (wrap u64 (y * (2 : Int) ^ min (Int.toNat (wrap u64 ((64 : Int) - (↑(bl (Int.toNat y)) : Int)))) (IntKind.bits u64))) ((2 : Int) ^ min (Int.toNat (32 : Int)) (IntKind.bits u64)))) = DQ.r i ∧ True) ∧ True) ∧ ∀ (i : DQ), DqI a U c Y i → bif decide (DQ.q i ≥ (4294967296 : Int)) then bif decide (wrap u64 (DQ.r i + a) ≥ (4294967296 : Int)) then ∃ i_1, i_1 = (0 : Nat) ∧ (Y = Y ∧ S = S ∧ a = a ∧ b = b ∧ U = U ∧ c = c ∧ d = d ∧ wrap u64 (DQ.q i - (1 : Int)) = Q ∧ True) ∧ True else ∃ j, DqI a U c Y j ∧ ((Y = Y ∧ S = S ∧ a = a ∧ b = b ∧ U = U ∧ c = c ∧ d = d ∧ wrap u64 (DQ.q i - (1 : Int)) = DQ.q j ∧ wrap u64 (DQ.r i + a) = DQ.r j ∧ True) ∧ True) ∧ Int.toNat (DQ.q j) < Int.toNat (DQ.q i) else bif decide (wrap u64 (DQ.q i * b) > wrap u64 (wrap u64 ((4294967296 : Int) * DQ.r i) + c)) then bif decide (wrap u64 (DQ.r i + a) ≥ (4294967296 : Int)) then ∃ i_1, i_1 = (0 : Nat) ∧ (Y = Y ∧ S = S ∧ a = a ∧ b = b ∧ U = U ∧ c = c ∧ d = d ∧ wrap u64 (DQ.q i - (1 : Int)) = Q ∧ True) ∧ True else ∃ j, DqI a U c Y j ∧ ((Y = Y ∧ S = S ∧ a = a ∧ b = b ∧ U = U ∧ c = c ∧ d = d ∧ wrap u64 (DQ.q i - (1 : Int)) = DQ.q j ∧ wrap u64 (DQ.r i + a) = DQ.r j ∧ True) ∧ True) ∧ Int.toNat (DQ.q j) < Int.toNat (DQ.q i) else ∃ i_1, i_1 = (0 : Nat) ∧ (Y = Y ∧ S = S ∧ a = a ∧ b = b ∧ U = U ∧ c = c ∧ d = d ∧ DQ.q i = Q ∧ True) ∧ True) ∧ ∀ (i : Nat), i = (0 : Nat) → (a = (0 : Int) → False) ∧ ((∃ i, DqI a V d Y i ∧ (Y = Y ∧ S = S ∧ a = a ∧ b = b ∧ d = d ∧ Q = Q ∧ wrap u64 (wrap u64 (wrap u64 (U * (4294967296 : Int)) + c) - wrap u64 (Q * Y)) = V ∧ wrap u64 (Int.tdiv (wrap u64 (wrap u64 (wrap u64 (U * (4294967296 : Int)) + c) - wrap u64 (Q * Y))) a) = DQ.q i ∧ wrap u64 (wrap u64 (wrap u64 (wrap u64 (U * (4294967296 : Int)) + c) - wrap u64 (Q * Y)) - wrap u64 (wrap u64 (Int.tdiv (wrap u64 (wrap u64 (wrap u64 (U * (4294967296 : Int)) + c) - wrap u64 (Q * Y))) a) * a)) = DQ.r i ∧ True) ∧ True) ∧ ∀ (i : DQ), DqI a V d Y i → bif decide (DQ.q i ≥ (4294967296 : Int)) then bif decide (wrap u64 (DQ.r i + a) ≥ (4294967296 : Int)) then ∃ i_1, i_1 = (0 : Nat) ∧ (Y = Y ∧ S = S ∧ d = d ∧ Q = Q ∧ V = V ∧ wrap u64 (DQ.q i - (1 : Int)) = q ∧ True) ∧ True else ∃ j, DqI a V d Y j ∧ ((Y = Y ∧ S = S ∧ a = a ∧ b = b ∧ d = d ∧ Q = Q ∧ V = V ∧ wrap u64 (DQ.q i - (1 : Int)) = DQ.q j ∧ wrap u64 (DQ.r i + a) = DQ.r j ∧ True) ∧ True) ∧ Int.toNat (DQ.q j) < Int.toNat (DQ.q i) else bif decide (wrap u64 (DQ.q i * b) > wrap u64 (wrap u64 ((4294967296 : Int) * DQ.r i) + d)) then bif decide (wrap u64 (DQ.r i + a) ≥ (4294967296 : Int)) then ∃ i_1, i_1 = (0 : Nat) ∧ (Y = Y ∧ S = S ∧ d = d ∧ Q = Q ∧ V = V ∧ wrap u64 (DQ.q i - (1 : Int)) = q ∧ True) ∧ True else ∃ j, DqI a V d Y j ∧ ((Y = Y ∧ S = S ∧ a = a ∧ b = b ∧ d = d ∧ Q = Q ∧ V = V ∧ wrap u64 (DQ.q i - (1 : Int)) = DQ.q j ∧ wrap u64 (DQ.r i + a) = DQ.r j ∧ True) ∧ True) ∧ Int.toNat (DQ.q j) < Int.toNat (DQ.q i) else ∃ i_1, i_1 = (0 : Nat) ∧ (Y = Y ∧ S = S ∧ d = d ∧ Q = Q ∧ V = V ∧ DQ.q i = q ∧ True) ∧ True) ∧ ∀ (i : Nat), i = (0 : Nat) → (0 : Int) ≤ S ∧ wrap u64 (wrap u64 (Q * (4294967296 : Int)) + q) = A ∧ Int.fdiv (wrap u64 (wrap u64 (wrap u64 (V * (4294967296 : Int)) + d) - wrap u64 (q * Y))) ((2 : Int) ^ min (Int.toNat S) (IntKind.bits u64)) = B ∧ True) = evFn (envK [c_lz64] (a_div64 Y S a b U V c d Q) (k_div64 Y S a b U V c d Q q)) Tryd.f67 [.int .u64 h, .int .u64 l, .int .u64 y] (MRes.sat (.ret (.tup [.int .u64 A, .int .u64 B]))) := by kernel_rfl
theorem or_sum {a b s : Nat} (hb : b < 2 ^ s) (h : a * 2 ^ s + b < 18446744073709551616) : wrap u64 ((BitVec.ofInt (IntKind.bits u64) ((a * 2 ^ s : Nat) : Int) ||| BitVec.ofInt (IntKind.bits u64) (b : Int)).toNat : Int) = ((a * 2 ^ s + b : Nat) : Int) := by
 rw [BitVec.toNat_or]
 have b1 : (BitVec.ofInt (IntKind.bits u64) ((a * 2 ^ s : Nat) : Int)).toNat = a * 2 ^ s := bv64 _ (by omega)
 have b2 : (BitVec.ofInt (IntKind.bits u64) (b : Int)).toNat = b := bv64 _ (by omega)
 rw [b1, b2]
 have e := Nat.shiftLeft_add_eq_or_of_lt hb a
 rw [Nat.shiftLeft_eq] at e
 rw [← e]
 exact u64i (by omega) (by omega)
structure DvOk (h l y : Nat) (s : Nat) : Prop where
 ls : s ≤ 63
 y0 : 9223372036854775808 ≤ y * 2 ^ s
 y1 : y * 2 ^ s < 18446744073709551616
 h1 : h * 2 ^ s + l / 2 ^ (64 - s) < y * 2 ^ s
 l1 : l / 2 ^ (64 - s) < 2 ^ s
 e : (h * 18446744073709551616 + l) * 2 ^ s = (h * 2 ^ s + l / 2 ^ (64 - s)) * 18446744073709551616 + l * 2 ^ s % 18446744073709551616
theorem dvOk {h l y : Nat} (hy : h < y) (y1 : y < 18446744073709551616) (hl : l < 18446744073709551616) : DvOk h l y (64 - bl y) := by
 have hb : bl y ≤ 64 := bl_le_of (show y < 2 ^ 64 by omega)
 have hlt := bl_lt y
 have hle := bl_le (show y ≠ 0 by omega)
 have hb1 : 0 < bl y := by
  rcases Nat.eq_zero_or_pos (bl y) with q | q
  ·rw [q] at hlt; simp at hlt; omega
  ·exact q
 have hs : (2 : Nat) ^ (64 - bl y) * 2 ^ bl y = 18446744073709551616 := by rw [← Nat.pow_add, Nat.sub_add_cancel hb]
 have hs2 : (2 : Nat) ^ (64 - bl y) * 2 ^ (bl y - 1) = 9223372036854775808 := by rw [← Nat.pow_add, show 64 - bl y + (bl y - 1) = 63 by omega]
 have e64 : 64 - (64 - bl y) = bl y := by omega
 have hp : 0 < 2 ^ (64 - bl y) := Nat.pow_pos (by omega)
 have hq : 0 < 2 ^ bl y := Nat.pow_pos (by omega)
 have hl1 : l / 2 ^ bl y < 2 ^ (64 - bl y) := (Nat.div_lt_iff_lt_mul hq).2 (by rw [hs]; exact hl)
 refine ⟨by omega, ?_, ?_, ?_, by rw [e64]; exact hl1, ?_⟩
 ·rw [← hs2, Nat.mul_comm]; exact Nat.mul_le_mul_right _ hle
 ·rw [← hs, Nat.mul_comm]; exact Nat.mul_lt_mul_of_pos_left hlt hp
 ·rw [e64]
  have : (h + 1) * 2 ^ (64 - bl y) ≤ y * 2 ^ (64 - bl y) := Nat.mul_le_mul_right _ hy
  rw [Nat.add_mul] at this
  omega
 ·rw [e64]
  have h1 : l * 2 ^ (64 - bl y) / 18446744073709551616 = l / 2 ^ bl y := by
   rw [← hs, Nat.mul_comm (2 ^ (64 - bl y)), Nat.mul_div_mul_right _ _ hp]
  have h2 := Nat.div_add_mod (l * 2 ^ (64 - bl y)) 18446744073709551616
  rw [h1] at h2
  rw [Nat.add_mul, Nat.add_mul, Nat.mul_right_comm]
  omega
theorem two_digits {N p y U c d : Int} (hp : 0 < p) (hy : 0 < y) (he : N * p = (U * 4294967296 + c) * 4294967296 + d) :
  let Y := y * p
  let Q := (U * 4294967296 + c) / Y
  let V := (U * 4294967296 + c) % Y
  let q := (V * 4294967296 + d) / Y
  Q * 4294967296 + q = N / y ∧ (V * 4294967296 + d) % Y / p = N % y := by
 intro Y Q V q
 have hY : 0 < Y := Int.mul_pos hy hp
 have e1 : Y * Q + V = U * 4294967296 + c := Int.mul_ediv_add_emod _ _
 have e2 : Y * q + (V * 4294967296 + d) % Y = V * 4294967296 + d := Int.mul_ediv_add_emod _ _
 have r0 := Int.emod_nonneg (V * 4294967296 + d) (show Y ≠ 0 by omega)
 have r1 := Int.emod_lt_of_pos (V * 4294967296 + d) hY
 generalize (V * 4294967296 + d) % Y = R at *
 have e3 : N * p = Y * (Q * 4294967296 + q) + R := by
  rw [he, ← e1, Int.mul_add, ← Int.mul_assoc, Int.add_mul]
  generalize Y * Q = z at *
  generalize Y * q = z2 at *
  omega
 have e4 : R = (N - y * (Q * 4294967296 + q)) * p := by
  rw [Int.sub_mul, e3]
  have : y * (Q * 4294967296 + q) * p = Y * (Q * 4294967296 + q) := by
   show _ = y * p * _
   rw [Int.mul_right_comm]
  rw [this]; omega
 have e5 : R / p = N - y * (Q * 4294967296 + q) := by rw [e4, Int.mul_ediv_cancel _ (by omega)]
 have s0 : 0 ≤ N - y * (Q * 4294967296 + q) := by
  rw [← e5]; exact Int.ediv_nonneg r0 (by omega)
 have s1 : N - y * (Q * 4294967296 + q) < y := by
  rw [← e5]; exact (Int.ediv_lt_iff_lt_mul hp).2 r1
 have hdm : y * (N / y) + N % y = N := Int.mul_ediv_add_emod N y
 have m0 := Int.emod_nonneg N (show y ≠ 0 by omega)
 have m1 := Int.emod_lt_of_pos N hy
 have hq : Q * 4294967296 + q = N / y := by
  have := Int.le_ediv_iff_mul_le (a := Q * 4294967296 + q) (b := N) hy
  have h1 : Q * 4294967296 + q ≤ N / y := this.2 (by rw [Int.mul_comm]; omega)
  have h2 : N / y < Q * 4294967296 + q + 1 := (Int.ediv_lt_iff_lt_mul hy).2 (by rw [Int.mul_comm, Int.mul_add, Int.mul_one]; omega)
  omega
 refine ⟨hq, ?_⟩
 rw [e5, hq]
 omega
def s_div64 : FSpec
 | [.int .u64 h, .int .u64 l, .int .u64 y] => some (some ((0 ≤ h ∧ h < y) ∧ y < 18446744073709551616 ∧ 0 ≤ l ∧ l < 18446744073709551616), .ret (.tup [.int .u64 ((h * 18446744073709551616 + l) / y), .int .u64 ((h * 18446744073709551616 + l) % y)]))
 | _ => none
theorem dq_loop {Y a b U c Q : Int} (H : DqH Y a b U c) (hQ : Q = (U * 4294967296 + c) / Y) {i : DQ} (I : DqI a U c Y i) (P0 : Int → Prop) (X : Int → Int → Prop) (hx : P0 Q) (hX : ∀ j : DQ, DqI a U c Y j → j.q.toNat < i.q.toNat → X j.q j.r) :
  bif decide (i.q ≥ 4294967296) then (bif decide (wrap u64 (i.r + a) ≥ 4294967296) then P0 (wrap u64 (i.q - 1)) else X (wrap u64 (i.q - 1)) (wrap u64 (i.r + a)))
  else bif decide (wrap u64 (i.q * b) > wrap u64 (wrap u64 (4294967296 * i.r) + c)) then (bif decide (wrap u64 (i.r + a) ≥ 4294967296) then P0 (wrap u64 (i.q - 1)) else X (wrap u64 (i.q - 1)) (wrap u64 (i.r + a)))
  else P0 i.q := by
 have hq := H.qle I
 have r0 := I.r0
 have r1 := I.r1
 have a0 := H.a0
 have a1 := H.a1
 have c0 := H.c0
 have c1 := H.c1
 have q0 := H.q0
 have q1 := H.q1
 have iq := I.q
 have down : (U * 4294967296 + c) / Y < i.q → (bif decide (wrap u64 (i.r + a) ≥ 4294967296) then P0 (wrap u64 (i.q - 1)) else X (wrap u64 (i.q - 1)) (wrap u64 (i.r + a))) := by
  intro hlt
  obtain ⟨d1, d2⟩ := H.down I hlt
  rw [u64i (x := i.q - 1) (by omega) (by omega), u64i (x := i.r + a) (by omega) (by omega)]
  refine condI decide_eq_true_iff (fun q => ?_) (fun q => ?_)
  ·rw [d1 q, ← hQ]; exact hx
  ·exact hX ⟨i.q - 1, i.r + a⟩ (d2 (by omega)) (by show (i.q - 1).toNat < i.q.toNat; omega)
 refine condI decide_eq_true_iff (fun q => down (by omega)) (fun q => ?_)
 have hb := mul_lt_sq (show 0 ≤ i.q by omega) (show i.q < 4294967296 by omega) H.b0 H.b1
 rw [u64i (x := i.q * b) hb.1 (by omega), u64i (x := 4294967296 * i.r) (by omega) (by omega), u64i (x := 4294967296 * i.r + c) (by omega) (by omega)]
 refine condI decide_eq_true_iff (fun q => down (H.lt (dq_gt H.eY I.e q))) (fun q => ?_)
 have := H.ge (dq_le (c := c) H.eY I.e (by omega))
 rw [show i.q = Q by omega]
 exact hx
theorem p_div64 : Good Tryd.f67 s_div64 := by
 intro ms p r h hp
 unfold s_div64 at h
 split at h
 ·rename_i h0 l0 y0
  simp only [Option.some.injEq, Prod.mk.injEq] at h
  obtain ⟨rfl, rfl⟩ := h
  obtain ⟨⟨g0, g1⟩, g2, g3, g4⟩ : (0 ≤ h0 ∧ h0 < y0) ∧ y0 < 18446744073709551616 ∧ 0 ≤ l0 ∧ l0 < 18446744073709551616 := hp
  obtain ⟨h, rfl⟩ : ∃ n : Nat, h0 = n := ⟨h0.toNat, by omega⟩
  obtain ⟨l, rfl⟩ : ∃ n : Nat, l0 = n := ⟨l0.toNat, by omega⟩
  obtain ⟨y, rfl⟩ : ∃ n : Nat, y0 = n := ⟨y0.toNat, by omega⟩
  have hD := dvOk (h := h) (l := l) (y := y) (by omega) (by omega) (by omega)
  have hbl : bl y ≤ 64 := bl_le_of (show y < 2 ^ 64 by omega)
  have E1 : wrap u64 ((64 : Int) - (bl (Int.toNat (y : Int)) : Nat)) = ((64 - bl y : Nat) : Int) := by
   rw [Int.toNat_natCast, u64i (by omega) (by omega)]; omega
  generalize 64 - bl y = s at hD E1
  have hs := hD.ls
  obtain ⟨P, hP⟩ : ∃ P : Nat, P = 2 ^ s := ⟨_, rfl⟩
  have E2 : (2 : Int) ^ min (Int.toNat (s : Int)) (IntKind.bits u64) = (P : Int) := by
   rw [Int.toNat_natCast, hP, show min s (IntKind.bits u64) = s from Nat.min_eq_left (by show s ≤ 64; omega)]
   simp
  have E3 : wrap u64 ((64 : Int) - (s : Int)) = ((64 - s : Nat) : Int) := by rw [u64i (by omega) (by omega)]; omega
  have E4 : (2 : Int) ^ min (Int.toNat ((64 - s : Nat) : Int)) (IntKind.bits u64) = ((2 ^ (64 - s) : Nat) : Int) := by
   rw [Int.toNat_natCast, show min (64 - s) (IntKind.bits u64) = 64 - s from Nat.min_eq_left (by show 64 - s ≤ 64; omega)]
   simp
  have hPp : 0 < P := by rw [hP]; exact Nat.pow_pos (by omega)
  have hN := hD.e
  have hY0 := hD.y0
  have hY1 := hD.y1
  have hU := hD.h1
  have hl1 := hD.l1
  have hor := or_sum (a := h) hl1 (by omega)
  rw [← hP] at hN hY0 hY1 hU hl1 hor
  have E5 : wrap u64 ((y : Int) * (P : Int)) = ((y * P : Nat) : Int) := by
   rw [← Int.natCast_mul]
   generalize y * P = z at hY1
   exact u64i (Int.natCast_nonneg _) (by omega)
  have E6 : wrap u64 ((h : Int) * (P : Int)) = ((h * P : Nat) : Int) := by
   have hh : h * P < 18446744073709551616 := Nat.lt_of_le_of_lt (Nat.le_trans (Nat.le_add_right _ _) (Nat.le_of_lt hU)) hY1
   rw [← Int.natCast_mul]
   generalize h * P = z at hh
   exact u64i (Int.natCast_nonneg _) (by omega)
  have E7 : Int.fdiv (l : Int) ((2 ^ (64 - s) : Nat) : Int) = ((l / 2 ^ (64 - s) : Nat) : Int) := by rw [fd (Int.natCast_nonneg _)]; rfl
  have E8 : wrap u64 ((l : Int) * (P : Int)) = ((l * P % 18446744073709551616 : Nat) : Int) := by rw [← Int.natCast_mul, u64w]; rfl
  have hPe : (2 : Int) ^ s = (P : Int) := by rw [hP]; simp
  generalize l / 2 ^ (64 - s) = lt at *
  generalize hM : l * P % 18446744073709551616 = M at *
  have hM1 : M < 18446744073709551616 := by omega
  obtain ⟨Y, hYe⟩ : ∃ Y : Nat, Y = y * P := ⟨_, rfl⟩
  obtain ⟨U, hUe⟩ : ∃ U : Nat, U = h * P + lt := ⟨_, rfl⟩
  rw [← hYe] at E5 hY0 hY1 hU
  rw [← hUe] at hN hU hor
  obtain ⟨a, ha⟩ : ∃ a : Int, a = (Y : Int) / 4294967296 := ⟨_, rfl⟩
  obtain ⟨b, hb⟩ : ∃ b : Int, b = (Y : Int) % 4294967296 := ⟨_, rfl⟩
  obtain ⟨c, hc⟩ : ∃ c : Int, c = (M : Int) / 4294967296 := ⟨_, rfl⟩
  obtain ⟨d, hd⟩ : ∃ d : Int, d = (M : Int) % 4294967296 := ⟨_, rfl⟩
  have H1 : DqH (Y : Int) a b (U : Int) c := ⟨by omega, by omega, by omega, by omega, by omega, by omega, by omega, by omega, by omega⟩
  have hY : (0 : Int) < Y := by omega
  have Q0 := H1.q0
  have Q1 := H1.q1
  have v0 := Int.emod_nonneg ((U : Int) * 4294967296 + c) (show (Y : Int) ≠ 0 by omega)
  have v1 := Int.emod_lt_of_pos ((U : Int) * 4294967296 + c) hY
  have vd := Int.mul_ediv_add_emod ((U : Int) * 4294967296 + c) (Y : Int)
  obtain ⟨t1, t2⟩ := two_digits (N := (h : Int) * 18446744073709551616 + l) (p := (P : Int)) (y := (y : Int)) (U := (U : Int)) (c := c) (d := d) (by omega) (by omega) (by
   have : ((h * 18446744073709551616 + l : Nat) : Int) * (P : Int) = ((U * 18446744073709551616 + M : Nat) : Int) := by rw [← hN]; simp
   have e : (h : Int) * 18446744073709551616 + l = ((h * 18446744073709551616 + l : Nat) : Int) := by omega
   rw [e, this]; omega)
  rw [show (y : Int) * (P : Int) = (Y : Int) by rw [hYe]; simp] at t1 t2
  rw [← t1, ← t2]
  obtain ⟨Q, hQ⟩ : ∃ Q : Int, Q = ((U : Int) * 4294967296 + c) / Y := ⟨_, rfl⟩
  obtain ⟨V, hV⟩ : ∃ V : Int, V = ((U : Int) * 4294967296 + c) % Y := ⟨_, rfl⟩
  rw [← hQ] at Q0 Q1 vd ⊢
  rw [← hV] at v0 v1 vd ⊢
  have H2 : DqH (Y : Int) a b V d := ⟨H1.eY, H1.a0, H1.a1, H1.b0, H1.b1, v0, v1, by omega, by omega⟩
  have R0 := H2.q0
  have R1 := H2.q1
  have r0 := Int.emod_nonneg (V * 4294967296 + d) (show (Y : Int) ≠ 0 by omega)
  have r1 := Int.emod_lt_of_pos (V * 4294967296 + d) hY
  have rd := Int.mul_ediv_add_emod (V * 4294967296 + d) (Y : Int)
  obtain ⟨q, hq⟩ : ∃ q : Int, q = (V * 4294967296 + d) / Y := ⟨_, rfl⟩
  obtain ⟨R, hR⟩ : ∃ R : Int, R = (V * 4294967296 + d) % Y := ⟨_, rfl⟩
  rw [← hq] at R0 R1 rd ⊢
  rw [← hR] at r0 r1 rd ⊢
  rw [← hQ, ← hV, ← hq] at t1
  rw [← hV, ← hR] at t2
  refine ⟨envK [c_lz64] (a_div64 Y s a b U V c d Q) (k_div64 Y s a b U V c d Q q), ?_⟩
  rw [← vc_div64 (h : Int) l y Y s a b U V c d Q q]
  refine condF (beqI0 (by omega)) (condF (decide_eq_false (by omega)) (condI beq_iff_eq (fun hz => ?_) (fun hz => ?_)))
  ·have e0 : (h : Int) * 18446744073709551616 + l = l := by omega
   rw [t1, t2, e0, Int.tdiv_eq_ediv_of_nonneg (by omega), Int.tmod_eq_emod_of_nonneg (by omega)]
   have : (l : Int) / y ≤ l := Int.ediv_le_self _ (by omega)
   have h1 : 0 ≤ (l : Int) / y := Int.ediv_nonneg (by omega) (by omega)
   rw [u64i h1 (by omega)]
   exact ⟨by omega, by omega, rfl, rfl, True.intro⟩
  ·rw [E1, E2, E3, E4, E5, E6, E7, E8, hor, q32, and_lowI (x := (Y : Int)) (by omega) (by omega), and_lowI (x := (M : Int)) (by omega) (by omega), fd (x := (Y : Int)) (by omega), fd (x := (M : Int)) (by omega), ← ha, ← hb, ← hc, ← hd]
   have start : ∀ {W x : Int}, DqH (Y : Int) a b W x → wrap u64 (Int.tdiv W a) = W / a ∧ wrap u64 (W - wrap u64 (W / a * a)) = W % a := by
    intro W x H
    have h0 := H.a0
    have h1 := H.u0
    have h2 := H.u1
    have h3 := H.start_lt
    have h4 := Int.mul_ediv_add_emod W a
    have h5 := Int.emod_nonneg W (show a ≠ 0 by omega)
    have h6 := Int.emod_lt_of_pos W (show 0 < a by omega)
    have h7 := H.a1
    rw [Int.mul_comm] at h4
    have h8 : 0 ≤ W / a * a := Int.mul_nonneg h3.1 (by omega)
    rw [Int.tdiv_eq_ediv_of_nonneg h1, u64i h3.1 (by omega)]
    refine ⟨rfl, ?_⟩
    generalize W / a * a = z at *
    rw [u64i (x := z) (by omega) (by omega), u64i (by omega) (by omega)]
    omega
   obtain ⟨s1, s2⟩ := start H1
   obtain ⟨s3, s4⟩ := start H2
   have hV2 : wrap u64 (wrap u64 (wrap u64 ((U : Int) * 4294967296) + c) - wrap u64 (Q * Y)) = V := by
    simp only [u64w]
    rw [Int.mul_comm] at vd
    generalize Q * (Y : Int) = z at *
    omega
   have hR2 : wrap u64 (wrap u64 (wrap u64 (V * 4294967296) + d) - wrap u64 (q * Y)) = R := by
    simp only [u64w]
    rw [Int.mul_comm] at rd
    generalize q * (Y : Int) = z at *
    omega
   rw [s1, s2, hV2, s3, s4, hR2]
   refine ⟨by omega, by omega, by omega, by omega, by omega, by omega, by omega, by omega, ⟨⟨⟨_, H1.start, ?_⟩, fun i I => ?_⟩, fun i0 hi0 => ⟨by omega, ⟨⟨⟨_, H2.start, ?_⟩, fun i I => ?_⟩, fun i1 hi1 => ⟨by omega, ?_⟩⟩⟩⟩⟩
   ·and_intros <;> first | exact True.intro | rfl
   ·refine dq_loop H1 hQ I (P0 := fun z => ∃ i_1, i_1 = 0 ∧ ((Y : Int) = Y ∧ (s : Int) = s ∧ a = a ∧ b = b ∧ (U : Int) = U ∧ c = c ∧ d = d ∧ z = Q ∧ True) ∧ True) (X := fun x1 x2 => ∃ j : DQ, DqI a (U : Int) c (Y : Int) j ∧ (((Y : Int) = Y ∧ (s : Int) = s ∧ a = a ∧ b = b ∧ (U : Int) = U ∧ c = c ∧ d = d ∧ x1 = j.q ∧ x2 = j.r ∧ True) ∧ True) ∧ Int.toNat j.q < Int.toNat i.q) ?_ ?_
    ·exact ⟨0, rfl, ⟨rfl, rfl, rfl, rfl, rfl, rfl, rfl, rfl, True.intro⟩, True.intro⟩
    ·exact fun j J hlt => ⟨j, J, ⟨⟨rfl, rfl, rfl, rfl, rfl, rfl, rfl, rfl, rfl, True.intro⟩, True.intro⟩, hlt⟩
   ·and_intros <;> first | exact True.intro | rfl
   ·refine dq_loop H2 hq I (P0 := fun z => ∃ i_1, i_1 = 0 ∧ ((Y : Int) = Y ∧ (s : Int) = s ∧ d = d ∧ Q = Q ∧ V = V ∧ z = q ∧ True) ∧ True) (X := fun x1 x2 => ∃ j : DQ, DqI a V d (Y : Int) j ∧ (((Y : Int) = Y ∧ (s : Int) = s ∧ a = a ∧ b = b ∧ d = d ∧ Q = Q ∧ V = V ∧ x1 = j.q ∧ x2 = j.r ∧ True) ∧ True) ∧ Int.toNat j.q < Int.toNat i.q) ?_ ?_
    ·exact ⟨0, rfl, ⟨rfl, rfl, rfl, rfl, rfl, rfl, True.intro⟩, True.intro⟩
    ·exact fun j J hlt => ⟨j, J, ⟨⟨rfl, rfl, rfl, rfl, rfl, rfl, rfl, rfl, rfl, True.intro⟩, True.intro⟩, hlt⟩
   ·rw [fd (x := R) (by omega), u64i (x := Q * 4294967296) (by omega) (by omega), u64i (x := Q * 4294967296 + q) (by omega) (by omega)]
    exact ⟨rfl, rfl, True.intro⟩
 ·simp at h
def c_div64 : Ctr Tryd.prog := ⟨67, s_div64, fun args w => Tryd.call67 args w, fn_ok mix Tryd.func67 s_div64 p_div64⟩
end Go.Proofs.YtmjklcpdfmgcaaaDoor
/-
 Contracts of functions: prime.mul, prime.strong, prime.isPrime; algoristref04.plus, times, strong, Prime.
-/
namespace Go.Proofs.YtmjklcpdfmgcaaaDoor
open Go Go.RowKit
open Go.IntKind (wrap i64 i32 i16 i8 u64 u32 u16 u8)
theorem mul_hi_lt {a b m : Int} (h0 : 0 ≤ a) (h1 : a < m) (k0 : 0 ≤ b) (k1 : b < 18446744073709551616) : a * b / 18446744073709551616 < m := by
 refine (Int.ediv_lt_iff_lt_mul (by omega)).2 ?_
 have e1 : a * b ≤ a * 18446744073709551615 := Int.mul_le_mul_of_nonneg_left (by omega) h0
 omega
def s_pmul : FSpec
 | [.int .u64 a, .int .u64 b, .int .u64 m] => some (some (0 ≤ a ∧ a < m ∧ 0 ≤ b ∧ b < 18446744073709551616 ∧ m < 18446744073709551616), .ret (.int .u64 (a * b % m)))
 | _ => none
theorem vc_pmul (a b m : Int) : ((((0 : Int) ≤ a ∧ a < (18446744073709551616 : Int)) ∧ (0 : Int) ≤ b ∧ b < (18446744073709551616 : Int)) ∧ (((0 : Int) ≤ a * b / (18446744073709551616 : Int) ∧ a * b / (18446744073709551616 : Int) < m) ∧ m < (18446744073709551616 : Int) ∧ (0 : Int) ≤ a * b % (18446744073709551616 : Int) ∧ a * b % (18446744073709551616 : Int) < (18446744073709551616 : Int)) ∧ (a * b / (18446744073709551616 : Int) * (18446744073709551616 : Int) + a * b % (18446744073709551616 : Int)) % m = a * b % m) = evFn (env [c_mul64, c_div64] noAnn) Tryd.f45 [.int .u64 a, .int .u64 b, .int .u64 m] (MRes.sat (.ret (.int .u64 (a * b % m)))) := by kernel_rfl
theorem p_pmul : Good Tryd.f45 s_pmul := by
 intro ms p r h hp
 unfold s_pmul at h
 split at h
 ·rename_i a b m
  simp only [Option.some.injEq, Prod.mk.injEq] at h
  obtain ⟨rfl, rfl⟩ := h
  obtain ⟨h1, h2, h3, h4, h5⟩ : 0 ≤ a ∧ a < m ∧ 0 ≤ b ∧ b < 18446744073709551616 ∧ m < 18446744073709551616 := hp
  refine ⟨env [c_mul64, c_div64] noAnn, ?_⟩
  rw [← vc_pmul a b m]
  have hn : 0 ≤ a * b := Int.mul_nonneg h1 h3
  have hd : a * b / 18446744073709551616 * 18446744073709551616 + a * b % 18446744073709551616 = a * b := by omega
  rw [hd]
  exact ⟨⟨⟨h1, by omega⟩, h3, h4⟩, ⟨⟨by omega, mul_hi_lt h1 h2 h3 h4⟩, h5, by omega, by omega⟩, rfl⟩
 ·simp at h
def c_pmul : Ctr Tryd.prog := ⟨45, s_pmul, fun args w => Tryd.call45 args w, fn_ok mix Tryd.func45 s_pmul p_pmul⟩
/-! ### prime.strong -/
structure SP where
 x : Nat
 y : Nat
 d : Nat
structure SpI (n R : Nat) (i : SP) : Prop where
 x : i.x < n
 y : i.y < n
 d : i.d < 18446744073709551616
 e : i.x * i.y ^ i.d % n = R
structure SH where
 k : Nat
 x : Nat
structure ShI (n s : Nat) (B : Bool) (i : SH) : Prop where
 k : i.k ≤ s
 x : i.x < n
 e : hitF (s - i.k) i.x n = B
def a_strong (n s R : Nat) (B : Bool) : Nat → MS → Option LoopAnn
 | 7, _ => some (.inv SP (SpI n R) (fun i => ⟨49, [(0, .int .u64 n), (1, .int .u64 i.y), (5, .int .i64 s), (6, .int .u64 i.x), (7, .int .u64 i.d)], [], 0⟩) (fun i => i.d))
 | 15, _ => some (.inv SH (ShI n s B) (fun i => ⟨49, [(0, .int .u64 n), (6, .int .u64 i.x), (37, .int .i64 s), (38, .int .i64 i.k)], [], 0⟩) (fun i => s - i.k))
 | _, _ => none
theorem vc_strong (n b s R : Nat) (B T : Bool) : (((↑n : Int) = (0 : Int) → False) ∧ bif Int.tmod (↑b : Int) (↑n : Int) == (0 : Int) then true = T else ((0 : Int) < wrap u64 ((↑n : Int) - (1 : Int)) ∧ wrap u64 ((↑n : Int) - (1 : Int)) < (18446744073709551616 : Int)) ∧ (0 : Int) ≤ (↑(tzF (64 : Nat) (Int.toNat (wrap u64 ((↑n : Int) - (1 : Int))))) : Int) ∧ (∃ i, SpI n R i ∧ ((↑n : Int) = (↑n : Int) ∧ Int.tmod (↑b : Int) (↑n : Int) = (↑(SP.y i) : Int) ∧ (↑(tzF (64 : Nat) (Int.toNat (wrap u64 ((↑n : Int) - (1 : Int))))) : Int) = (↑s : Int) ∧ (1 : Int) = (↑(SP.x i) : Int) ∧ Int.fdiv (wrap u64 ((↑n : Int) - (1 : Int))) ((2 : Int) ^ min (Int.toNat (↑(tzF (64 : Nat) (Int.toNat (wrap u64 ((↑n : Int) - (1 : Int))))) : Int)) (IntKind.bits u64)) = (↑(SP.d i) : Int) ∧ True) ∧ True) ∧ ∀ (i : SP), SpI n R i → bif decide ((↑(SP.d i) : Int) > (0 : Int)) then bif wrap u64 (↑(BitVec.toNat (BitVec.ofInt (IntKind.bits u64) (↑(SP.d i) : Int) &&& BitVec.ofInt (IntKind.bits u64) (1 : Int))) : Int) == (1 : Int) then ((0 : Int) ≤ (↑(SP.x i) : Int) ∧ (↑(SP.x i) : Int) < (↑n : Int) ∧ (0 : Int) ≤ (↑(SP.y i) : Int) ∧ (↑(SP.y i) : Int) < (18446744073709551616 : Int) ∧ (↑n : Int) < (18446744073709551616 : Int)) ∧ ((0 : Int) ≤ (↑(SP.y i) : Int) ∧ (↑(SP.y i) : Int) < (↑n : Int) ∧ (0 : Int) ≤ (↑(SP.y i) : Int) ∧ (↑(SP.y i) : Int) < (18446744073709551616 : Int) ∧ (↑n : Int) < (18446744073709551616 : Int)) ∧ (0 : Int) ≤ (1 : Int) ∧ ∃ j, SpI n R j ∧ (((↑n : Int) = (↑n : Int) ∧ (↑(SP.y i) : Int) * (↑(SP.y i) : Int) % (↑n : Int) = (↑(SP.y j) : Int) ∧ (↑s : Int) = (↑s : Int) ∧ (↑(SP.x i) : Int) * (↑(SP.y i) : Int) % (↑n : Int) = (↑(SP.x j) : Int) ∧ Int.fdiv (↑(SP.d i) : Int) ((2 : Int) ^ min (Int.toNat (1 : Int)) (IntKind.bits u64)) = (↑(SP.d j) : Int) ∧ True) ∧ True) ∧ SP.d j < SP.d i else ((0 : Int) ≤ (↑(SP.y i) : Int) ∧ (↑(SP.y i) : Int) < (↑n : Int) ∧ (0 : Int) ≤ (↑(SP.y i) : Int) ∧ (↑(SP.y i) : Int) < (18446744073709551616 : Int) ∧ (↑n : Int) < (18446744073709551616 : Int)) ∧ (0 : Int) ≤ (1 : Int) ∧ ∃ j, SpI n R j ∧ (((↑n : Int) = (↑n : Int) ∧ (↑(SP.y i) : Int) * (↑(SP.y i) : Int) % (↑n : Int) = (↑(SP.y j) : Int) ∧ (↑s : Int) = (↑s : Int) ∧ (↑(SP.x i) : Int) = (↑(SP.x j) : Int) ∧ Int.fdiv (↑(SP.d i) : Int) ((2 : Int) ^ min (Int.toNat (1 : Int)) (IntKind.bits u64)) = (↑(SP.d j) : Int) ∧ True) ∧ True) ∧ SP.d j < SP.d i else bif (↑(SP.x i) : Int) == (1 : Int) then true = T else (∃ i_1, ShI n s B i_1 ∧ ((↑n : Int) = (↑n : Int) ∧ (↑(SP.x i) : Int) = (↑(SH.x i_1) : Int) ∧ (↑s : Int) = (↑s : Int) ∧ (0 : Int) = (↑(SH.k i_1) : Int) ∧ True) ∧ True) ∧ ∀ (i : SH), ShI n s B i → bif decide ((↑(SH.k i) : Int) < (↑s : Int)) then bif (↑(SH.x i) : Int) == wrap u64 ((↑n : Int) - (1 : Int)) then true = T else ((0 : Int) ≤ (↑(SH.x i) : Int) ∧ (↑(SH.x i) : Int) < (↑n : Int) ∧ (0 : Int) ≤ (↑(SH.x i) : Int) ∧ (↑(SH.x i) : Int) < (18446744073709551616 : Int) ∧ (↑n : Int) < (18446744073709551616 : Int)) ∧ ∃ j, ShI n s B j ∧ (((↑n : Int) = (↑n : Int) ∧ (↑(SH.x i) : Int) * (↑(SH.x i) : Int) % (↑n : Int) = (↑(SH.x j) : Int) ∧ (↑s : Int) = (↑s : Int) ∧ wrap i64 ((↑(SH.k i) : Int) + (1 : Int)) = (↑(SH.k j) : Int) ∧ True) ∧ True) ∧ s - SH.k j < s - SH.k i else false = T) = evFn (env [c_tz64, c_pmul] (a_strong n s R B)) Tryd.f26 [.int .u64 n, .int .u64 b] (MRes.sat (.ret (.bool T))) := by kernel_rfl
theorem q1' : ((2 : Int) ^ min (Int.toNat 1) (IntKind.bits u64)) = 2 := by decide +kernel
theorem tz64_eq {n : Nat} (h : 0 < n) (k : n < 18446744073709551616) : tzF 64 n = tz n := tz_uniq (tzF_ok 64 n h k) (tz_ok h (Nat.lt_trans k (by decide)))
theorem strongN_eq {n b : Nat} (h : b % n ≠ 0) (h1 : 1 < n) (h2 : n < 2 ^ 128) : strongN n b = (Nat.beq (1 * (b % n) ^ ((n - 1) / 2 ^ tz (n - 1)) % n) 1 || hitF (tz (n - 1)) (1 * (b % n) ^ ((n - 1) / 2 ^ tz (n - 1)) % n) n) := by
 have hb : Nat.beq (b % n) 0 = false := by
  cases hb : Nat.beq (b % n) 0 with
  | false => rfl
  | true => exact absurd (Nat.eq_of_beq_eq_true hb) h
 have hd : (n - 1) / 2 ^ tz (n - 1) < 2 ^ 128 := Nat.lt_of_le_of_lt (Nat.div_le_self _ _) (by omega)
 unfold strongN
 rw [hb, cond_false, pmF_eq 128 1 (b % n) _ n h1 hd]
theorem sp_odd {n R : Nat} {i : SP} (I : SpI n R i) (h1 : 1 < n) (hd : i.d % 2 = 1) : SpI n R ⟨i.x * i.y % n, i.y * i.y % n, i.d / 2⟩ := by
 refine ⟨Nat.mod_lt _ (by omega), Nat.mod_lt _ (by omega), by show i.d / 2 < _; have := I.d; omega, ?_⟩
 have := pm_step (x := i.x) (y := i.y) (d := i.d) (n := n)
 rw [show Nat.beq (i.d % 2) 1 = true by rw [hd]; rfl, cond_true, I.e] at this
 exact this
theorem sp_even {n R : Nat} {i : SP} (I : SpI n R i) (h1 : 1 < n) (hd : i.d % 2 = 0) : SpI n R ⟨i.x, i.y * i.y % n, i.d / 2⟩ := by
 refine ⟨I.x, Nat.mod_lt _ (by omega), by show i.d / 2 < _; have := I.d; omega, ?_⟩
 have := pm_step (x := i.x) (y := i.y) (d := i.d) (n := n)
 rw [show Nat.beq (i.d % 2) 1 = false by rw [hd]; rfl, cond_false, I.e] at this
 exact this
theorem sp_end {n R : Nat} {i : SP} (I : SpI n R i) (hd : i.d = 0) : i.x = R := by
 have := I.e
 rw [hd, Nat.pow_zero, Nat.mul_one, Nat.mod_eq_of_lt I.x] at this
 exact this
theorem sh_hit {n s : Nat} {B : Bool} {i : SH} (I : ShI n s B i) (hk : i.k < s) (hx : i.x = n - 1) : B = true := by
 have := I.e
 rw [show s - i.k = (s - i.k - 1) + 1 by omega, hitF, hx, Nat.beq_refl, Bool.true_or] at this
 exact this.symm
theorem sh_step {n s : Nat} {B : Bool} {i : SH} (I : ShI n s B i) (hk : i.k < s) (hx : i.x ≠ n - 1) (h1 : 1 < n) : ShI n s B ⟨i.k + 1, i.x * i.x % n⟩ := by
 refine ⟨hk, Nat.mod_lt _ (by omega), ?_⟩
 have := I.e
 have hb : Nat.beq i.x (n - 1) = false := by
  cases hb : Nat.beq i.x (n - 1) with
  | false => rfl
  | true => exact absurd (Nat.eq_of_beq_eq_true hb) hx
 rw [show s - i.k = (s - (i.k + 1)) + 1 by omega, hitF, hb, Bool.false_or] at this
 exact this
theorem sh_end {n s : Nat} {B : Bool} {i : SH} (I : ShI n s B i) (hk : i.k = s) : B = false := by
 have := I.e
 rw [hk, Nat.sub_self] at this
 exact this.symm
theorem beqN {a b : Nat} (h : a ≠ b) : Nat.beq a b = false := by
 cases hb : Nat.beq a b with
 | false => rfl
 | true => exact absurd (Nat.eq_of_beq_eq_true hb) h
def s_strong : FSpec
 | [.int .u64 n, .int .u64 b] => some (some ((2 < n ∧ n < 18446744073709551616) ∧ n % 2 = 1 ∧ 0 ≤ b ∧ b < 18446744073709551616), .ret (.bool (strongN n.toNat b.toNat)))
 | _ => none
theorem p_strong : Good Tryd.f26 s_strong := by
 intro ms p r h hp
 unfold s_strong at h
 split at h
 ·rename_i n0 b0
  simp only [Option.some.injEq, Prod.mk.injEq] at h
  obtain ⟨rfl, rfl⟩ := h
  obtain ⟨⟨h2, h3⟩, ho, h4, h5⟩ : (2 < n0 ∧ n0 < 18446744073709551616) ∧ n0 % 2 = 1 ∧ 0 ≤ b0 ∧ b0 < 18446744073709551616 := hp
  obtain ⟨n, rfl⟩ : ∃ n : Nat, n0 = n := ⟨n0.toNat, by omega⟩
  obtain ⟨b, rfl⟩ : ∃ n : Nat, b0 = n := ⟨b0.toNat, by omega⟩
  rw [Int.toNat_natCast, Int.toNat_natCast]
  have hs := tz64_eq (n := n - 1) (by omega) (by omega)
  have hS := tzF_ok 64 (n - 1) (by omega) (show n - 1 < 18446744073709551616 by omega)
  have hsl := hS.l
  have eS := strongN_eq (n := n) (b := b)
  rw [← hs] at eS
  have en : wrap u64 ((n : Int) - 1) = ((n - 1 : Nat) : Int) := by rw [u64i (by omega) (by omega)]; omega
  generalize hsg : tzF 64 (n - 1) = s at *
  have hpl : (n - 1) / 2 ^ s < 18446744073709551616 := Nat.lt_of_le_of_lt (Nat.div_le_self _ _) (by omega)
  refine ⟨env [c_tz64, c_pmul] (a_strong n s (1 * (b % n) ^ ((n - 1) / 2 ^ s) % n) (hitF s (1 * (b % n) ^ ((n - 1) / 2 ^ s) % n) n)), ?_⟩
  rw [← vc_strong n b s (1 * (b % n) ^ ((n - 1) / 2 ^ s) % n) (hitF s (1 * (b % n) ^ ((n - 1) / 2 ^ s) % n) n) (strongN n b)]
  have ebn : Int.tmod (b : Int) (n : Int) = ((b % n : Nat) : Int) := by rw [Int.tmod_eq_emod_of_nonneg (by omega)]; omega
  have ep : (2 : Int) ^ min (Int.toNat (s : Int)) (IntKind.bits u64) = ((2 ^ s : Nat) : Int) := by
   rw [Int.toNat_natCast, show min s (IntKind.bits u64) = s from Nat.min_eq_left (by show s ≤ 64; omega)]; simp
  rw [ebn, en, Int.toNat_natCast, hsg, ep, fd (Int.natCast_nonneg _), q1']
  refine ⟨by omega, condI beq_iff_eq (fun q => (strongN_zero (by omega)).symm) (fun q => ?_)⟩
  have eS := eS (by omega) (by omega) (Nat.lt_trans (show n < 18446744073709551616 by omega) (by decide))
  generalize hR : 1 * (b % n) ^ ((n - 1) / 2 ^ s) % n = R at *
  have hbn : b % n < n := Nat.mod_lt _ (by omega)
  refine ⟨⟨by omega, by omega⟩, by omega, ⟨⟨⟨1, b % n, (n - 1) / 2 ^ s⟩, ⟨by show 1 < n; omega, hbn, hpl, hR⟩, ?_⟩, fun i I => ?_⟩⟩
  ·refine ⟨⟨rfl, rfl, rfl, rfl, ?_, True.intro⟩, True.intro⟩
   exact (Int.natCast_ediv _ _).symm
  have hx := I.x
  have hy := I.y
  have hd := I.d
  have m1 : (i.y : Int) * (i.y : Int) % (n : Int) = ((i.y * i.y % n : Nat) : Int) := by simp
  have m2 : (i.x : Int) * (i.y : Int) % (n : Int) = ((i.x * i.y % n : Nat) : Int) := by simp
  have m3 : Int.fdiv (i.d : Int) 2 = ((i.d / 2 : Nat) : Int) := by rw [fd (by omega)]; omega
  rw [and_one64 i.d hd, m1, m2, m3]
  refine condI decide_eq_true_iff (fun q => ?_) (fun q => ?_)
  ·refine condI beq_iff_eq (fun q2 => ?_) (fun q2 => ?_)
   ·refine ⟨by omega, by omega, by omega, ⟨_, sp_odd I (by omega) (by omega), ⟨⟨rfl, rfl, rfl, rfl, rfl, True.intro⟩, True.intro⟩, by show i.d / 2 < i.d; omega⟩⟩
   ·refine ⟨by omega, by omega, ⟨_, sp_even I (by omega) (by omega), ⟨⟨rfl, rfl, rfl, rfl, rfl, True.intro⟩, True.intro⟩, by show i.d / 2 < i.d; omega⟩⟩
  ·have hxR := sp_end I (by omega)
   rw [hxR] at hx ⊢
   refine condI beq_iff_eq (fun q2 => ?_) (fun q2 => ⟨⟨⟨0, R⟩, ⟨Nat.zero_le _, hx, rfl⟩, ⟨rfl, rfl, rfl, rfl, True.intro⟩, True.intro⟩, fun i I => ?_⟩)
   ·rw [eS, show R = 1 by omega]; rfl
   rw [beqN (show R ≠ 1 by omega), Bool.false_or] at eS
   have hx := I.x
   have hk := I.k
   have m1 : (i.x : Int) * (i.x : Int) % (n : Int) = ((i.x * i.x % n : Nat) : Int) := by simp
   rw [m1]
   refine condI decide_eq_true_iff (fun q => ?_) (fun q => ?_)
   ·refine condI beq_iff_eq (fun q2 => ?_) (fun q2 => ?_)
    ·rw [eS]; exact (sh_hit I (by omega) (by omega)).symm
    ·refine ⟨by omega, ⟨_, sh_step I (by omega) (by omega) (by omega), ⟨⟨rfl, rfl, rfl, ?_, True.intro⟩, True.intro⟩, by show s - (i.k + 1) < s - i.k; omega⟩⟩
     rw [i64w (by omega) (by omega)]
     rfl
   ·rw [eS]; exact (sh_end I (by omega)).symm
 ·simp at h
def c_strong : Ctr Tryd.prog := ⟨26, s_strong, fun args w => Tryd.call26 args w, fn_ok mix Tryd.func26 s_strong p_strong⟩
/-! ### prime.isPrime -/
def s_pr1 : FSpec
 | [.int .u64 p, .ref (.int .u64 n)] => some (some (2 < n ∧ n < 18446744073709551616 ∧ n % 2 = 1 ∧ 0 ≤ p ∧ p < 18446744073709551616), .ret (.bool (!(strongN n.toNat p.toNat))))
 | _ => none
theorem vc_pr1 (p n : Int) : ((((2 : Int) < n ∧ n < (18446744073709551616 : Int)) ∧ n % (2 : Int) = (1 : Int) ∧ (0 : Int) ≤ p ∧ p < (18446744073709551616 : Int)) ∧ (!strongN (Int.toNat n) (Int.toNat p)) = !strongN (Int.toNat n) (Int.toNat p)) = evFn (env [c_strong] noAnn) Tryd.f42 [.int .u64 p, .ref (.int .u64 n)] (MRes.sat (.ret (.bool (!(strongN n.toNat p.toNat))))) := by kernel_rfl
theorem p_pr1 : Good Tryd.f42 s_pr1 := by
 intro ms p r h hp
 unfold s_pr1 at h
 split at h
 ·rename_i p n
  simp only [Option.some.injEq, Prod.mk.injEq] at h
  obtain ⟨rfl, rfl⟩ := h
  obtain ⟨h1, h2, h3, h4, h5⟩ : 2 < n ∧ n < 18446744073709551616 ∧ n % 2 = 1 ∧ 0 ≤ p ∧ p < 18446744073709551616 := hp
  refine ⟨env [c_strong] noAnn, ?_⟩
  rw [← vc_pr1 p n]
  exact ⟨⟨⟨h1, h2⟩, h3, h4, h5⟩, rfl⟩
 ·simp at h
def c_pr1 : Ctr Tryd.prog := ⟨42, s_pr1, fun args w => Tryd.call42 args w, fn_ok mix Tryd.func42 s_pr1 p_pr1⟩
def basesI : List Int := [2, 3, 5, 7, 11, 13, 17, 19, 23, 29, 31, 37, 41]
structure IxI where
 i : Nat
def a_ix4 (n : Nat) : Nat → MS → Option LoopAnn
 | 2, _ => some (.inv IxI (fun i => i.i ≤ 13 ∧ idxS n (fbases.drop i.i) i.i = idxS n fbases 0) (fun i => ⟨19, [(0, .sl 1 13 (fun j => .int .u64 (basesI.getD j 0))), (1, .fn 42 [.ref (.int .u64 n)]), (7, .int .i64 13), (8, .int .i64 i.i)], [], 0⟩) (fun i => 13 - i.i))
 | _, _ => none
theorem vc_ix4 (n : Nat) : ((∃ i, (IxI.i i ≤ (13 : Nat) ∧ idxS n (List.drop (IxI.i i) fbases) (IxI.i i) = idxS n fbases (0 : Nat)) ∧ (((1 : Nat) = (1 : Nat) ∧ (13 : Nat) = (13 : Nat) ∧ LeFun (13 : Nat) (fun j => MV.int u64 (List.getD basesI j (0 : Int))) fun j => MV.int u64 (List.getD basesI j (0 : Int))) ∧ ((↑n : Int) = (↑n : Int) ∧ True) ∧ (↑(13 : Nat) : Int) = (13 : Int) ∧ (0 : Int) = (↑(IxI.i i) : Int) ∧ True) ∧ True) ∧ ∀ (i : IxI), IxI.i i ≤ (13 : Nat) ∧ idxS n (List.drop (IxI.i i) fbases) (IxI.i i) = idxS n fbases (0 : Nat) → bif decide ((↑(IxI.i i) : Int) < (13 : Int)) then ((0 : Int) ≤ (↑(IxI.i i) : Int) ∧ (↑(IxI.i i) : Int) < (↑(13 : Nat) : Int)) ∧ ((2 : Int) < (↑n : Int) ∧ (↑n : Int) < (18446744073709551616 : Int) ∧ (↑n : Int) % (2 : Int) = (1 : Int) ∧ (0 : Int) ≤ List.getD basesI (Int.toNat (↑(IxI.i i) : Int)) (0 : Int) ∧ List.getD basesI (Int.toNat (↑(IxI.i i) : Int)) (0 : Int) < (18446744073709551616 : Int)) ∧ bif !strongN (Int.toNat (↑n : Int)) (Int.toNat (List.getD basesI (Int.toNat (↑(IxI.i i) : Int)) (0 : Int))) then (↑(IxI.i i) : Int) = idxS n fbases (0 : Nat) else ∃ j, (IxI.i j ≤ (13 : Nat) ∧ idxS n (List.drop (IxI.i j) fbases) (IxI.i j) = idxS n fbases (0 : Nat)) ∧ ((((1 : Nat) = (1 : Nat) ∧ (13 : Nat) = (13 : Nat) ∧ LeFun (13 : Nat) (fun j => MV.int u64 (List.getD basesI j (0 : Int))) fun j => MV.int u64 (List.getD basesI j (0 : Int))) ∧ ((↑n : Int) = (↑n : Int) ∧ True) ∧ (13 : Int) = (13 : Int) ∧ wrap i64 ((↑(IxI.i i) : Int) + (1 : Int)) = (↑(IxI.i j) : Int) ∧ True) ∧ True) ∧ (13 : Nat) - IxI.i j < (13 : Nat) - IxI.i i else (-1 : Int) = idxS n fbases (0 : Nat)) = evFn (env [c_pr1] (a_ix4 n)) Tryd.f63 [.sl 1 13 (fun j => .int .u64 (basesI.getD j 0)), .fn 42 [.ref (.int .u64 n)]] (MRes.sat (.ret (.int .i64 (idxS n fbases 0)))) := by kernel_rfl
theorem LeFun.refl {len : Nat} {f : Nat → MV} : LeFun len f f := ⟨fun _ _ _ _ _ r => r⟩
theorem ix_step (n : Nat) {l : List Nat} {i : Nat} (h : i < l.length) : idxS n (l.drop i) i = cond (strongN n (l.getD i 0)) (idxS n (l.drop (i + 1)) (i + 1)) (i : Int) := by
 rw [List.drop_eq_getElem_cons h]
 simp [idxS, h]
theorem basesI_eq {i : Nat} (h : i < 13) : basesI.getD i 0 = ((fbases.getD i 0 : Nat) : Int) ∧ fbases.getD i 0 < 100 := by
 have : ∀ i : Fin 13, basesI.getD i.1 0 = ((fbases.getD i.1 0 : Nat) : Int) ∧ fbases.getD i.1 0 < 100 := by decide
 exact this ⟨i, h⟩
theorem ix4_ok {n : Nat} (h2 : 2 < n) (h3 : n < 18446744073709551616) (ho : n % 2 = 1) : ∃ E : Env Tryd.prog, evFn E Tryd.f63 [.sl 1 13 (fun j => .int .u64 (basesI.getD j 0)), .fn 42 [.ref (.int .u64 n)]] (MRes.sat (.ret (.int .i64 (idxS n fbases 0)))) := by
 refine ⟨env [c_pr1] (a_ix4 n), ?_⟩
 rw [← vc_ix4 n]
 refine ⟨⟨⟨0⟩, ⟨Nat.zero_le _, rfl⟩, ?_⟩, fun i hi => ?_⟩
 ·and_intros <;> first | exact True.intro | rfl | exact LeFun.refl
 obtain ⟨i⟩ := i
 obtain ⟨h1, h4⟩ : i ≤ 13 ∧ idxS n (fbases.drop i) i = idxS n fbases 0 := hi
 dsimp only
 refine condI decide_eq_true_iff (fun q => ?_) (fun q => ?_)
 ·have hi' : i < 13 := by omega
  obtain ⟨b1, b2⟩ := basesI_eq hi'
  have hs := ix_step n (l := fbases) (i := i) hi'
  rw [h4] at hs
  rw [Int.toNat_natCast, b1, Int.toNat_natCast, Int.toNat_natCast]
  refine ⟨by omega, by omega, ?_⟩
  cases hc : strongN n (fbases.getD i 0) with
  | true =>
   rw [hc, cond_true] at hs
   rw [Bool.not_true, cond_false]
   have e5 : wrap i64 ((i : Int) + 1) = ((i + 1 : Nat) : Int) := by rw [i64w (by omega) (by omega)]; omega
   rw [e5]
   refine ⟨⟨i + 1⟩, ⟨hi', hs.symm⟩, ?_, by show 13 - (i + 1) < 13 - i; omega⟩
   and_intros <;> first | exact True.intro | rfl | exact LeFun.refl
  | false =>
   rw [hc, cond_false] at hs
   rw [Bool.not_false, cond_true]
   exact hs.symm
 ·obtain rfl : i = 13 := by omega
  rw [← h4]; rfl
def s_ix4 : FSpec
 | [.sl 1 13 f, .fn 42 [.ref (.int .u64 n)]] => some (some ((∀ j, j < 13 → f j = .int .u64 (basesI.getD j 0)) ∧ 2 < n ∧ n < 18446744073709551616 ∧ n % 2 = 1), .ret (.int .i64 (idxS n.toNat fbases 0)))
 | _ => none
theorem p_ix4 : ∀ ms p r, s_ix4 ms = some (p, r) → p.holds → ∃ ms', leV.leVs 0 ms ms' ∧ ∃ E : Env Tryd.prog, evFn E Tryd.f63 ms' r.sat := by
 intro ms p r h hp
 unfold s_ix4 at h
 split at h
 ·rename_i f n0
  simp only [Option.some.injEq, Prod.mk.injEq] at h
  obtain ⟨rfl, rfl⟩ := h
  obtain ⟨hf, h2, h3, ho⟩ : (∀ j, j < 13 → f j = .int .u64 (basesI.getD j 0)) ∧ 2 < n0 ∧ n0 < 18446744073709551616 ∧ n0 % 2 = 1 := hp
  obtain ⟨n, rfl⟩ : ∃ n : Nat, n0 = n := ⟨n0.toNat, by omega⟩
  rw [Int.toNat_natCast]
  refine ⟨_, ?_, ix4_ok (by omega) (by omega) (by omega)⟩
  exact ⟨⟨rfl, rfl, ⟨fun i hi c w cs r => by rw [hf i hi] at r; exact r⟩⟩, ⟨rfl, True.intro⟩, True.intro⟩
 ·simp at h
def c_ix4 : Ctr Tryd.prog := ⟨63, s_ix4, fun args w => Tryd.call63 args w, fn_ok_le mix Tryd.func63 s_ix4 p_ix4⟩
theorem vc_cf4 (f : Nat → MV) (n : Int) : (((∀ (j : Nat), j < (13 : Nat) → f j = MV.int u64 (List.getD basesI j (0 : Int))) ∧ (2 : Int) < n ∧ n < (18446744073709551616 : Int) ∧ n % (2 : Int) = (1 : Int)) ∧ decide (idxS (Int.toNat n) fbases (0 : Nat) ≥ (0 : Int)) = !allS (Int.toNat n) fbases) = evFn (env [c_ix4] noAnn) Tryd.f41 [.sl 1 13 f, .fn 42 [.ref (.int .u64 n)]] (MRes.sat (.ret (.bool (!allS n.toNat fbases)))) := by kernel_rfl
def s_cf4 : FSpec
 | [.sl 1 13 f, .fn 42 [.ref (.int .u64 n)]] => some (some ((∀ j, j < 13 → f j = .int .u64 (basesI.getD j 0)) ∧ 2 < n ∧ n < 18446744073709551616 ∧ n % 2 = 1), .ret (.bool (!allS n.toNat fbases)))
 | _ => none
theorem p_cf4 : Good Tryd.f41 s_cf4 := by
 intro ms p r h hp
 unfold s_cf4 at h
 split at h
 ·rename_i f n
  simp only [Option.some.injEq, Prod.mk.injEq] at h
  obtain ⟨rfl, rfl⟩ := h
  have hp : (∀ j, j < 13 → f j = .int .u64 (basesI.getD j 0)) ∧ 2 < n ∧ n < 18446744073709551616 ∧ n % 2 = 1 := hp
  refine ⟨env [c_ix4] noAnn, ?_⟩
  rw [← vc_cf4 f n]
  exact ⟨hp, idxS_all _ _ _⟩
 ·simp at h
def c_cf4 : Ctr Tryd.prog := ⟨41, s_cf4, fun args w => Tryd.call41 args w, fn_ok mix Tryd.func41 s_cf4 p_cf4⟩
def envF (Γ : List (Ctr Tryd.prog)) (fz : Nat → List Nat) (ann : Nat → MS → Option LoopAnn) : Env Tryd.prog := ⟨Γ, [], 27, ann, fz, fun _ _ => none⟩
def a_ppr : Nat → MS → Option LoopAnn
 | 3, _ => some (.unroll 14)
 | _, _ => none
def z_ppr : Nat → List Nat
 | 8 => [0, 1]
 | _ => []
theorem vc_ppr (n : Nat) (T : Bool) : (((0 : Int) ≤ (0 : Int) ∧ (0 : Int) < (↑(13 : Nat) : Int)) ∧ ((2 : Int) = (0 : Int) → False) ∧ bif Int.tmod (↑n : Int) (2 : Int) == (0 : Int) then ((↑n : Int) == (2 : Int)) = T else ((0 : Int) ≤ wrap i64 ((0 : Int) + (1 : Int)) ∧ wrap i64 ((0 : Int) + (1 : Int)) < (↑(13 : Nat) : Int)) ∧ ((3 : Int) = (0 : Int) → False) ∧ bif Int.tmod (↑n : Int) (3 : Int) == (0 : Int) then ((↑n : Int) == (3 : Int)) = T else ((0 : Int) ≤ wrap i64 (wrap i64 ((0 : Int) + (1 : Int)) + (1 : Int)) ∧ wrap i64 (wrap i64 ((0 : Int) + (1 : Int)) + (1 : Int)) < (↑(13 : Nat) : Int)) ∧ ((5 : Int) = (0 : Int) → False) ∧ bif Int.tmod (↑n : Int) (5 : Int) == (0 : Int) then ((↑n : Int) == (5 : Int)) = T else ((0 : Int) ≤ wrap i64 (wrap i64 (wrap i64 ((0 : Int) + (1 : Int)) + (1 : Int)) + (1 : Int)) ∧ wrap i64 (wrap i64 (wrap i64 ((0 : Int) + (1 : Int)) + (1 : Int)) + (1 : Int)) < (↑(13 : Nat) : Int)) ∧ ((7 : Int) = (0 : Int) → False) ∧ bif Int.tmod (↑n : Int) (7 : Int) == (0 : Int) then ((↑n : Int) == (7 : Int)) = T else ((0 : Int) ≤ wrap i64 (wrap i64 (wrap i64 (wrap i64 ((0 : Int) + (1 : Int)) + (1 : Int)) + (1 : Int)) + (1 : Int)) ∧ wrap i64 (wrap i64 (wrap i64 (wrap i64 ((0 : Int) + (1 : Int)) + (1 : Int)) + (1 : Int)) + (1 : Int)) < (↑(13 : Nat) : Int)) ∧ ((11 : Int) = (0 : Int) → False) ∧ bif Int.tmod (↑n : Int) (11 : Int) == (0 : Int) then ((↑n : Int) == (11 : Int)) = T else ((0 : Int) ≤ wrap i64 (wrap i64 (wrap i64 (wrap i64 (wrap i64 ((0 : Int) + (1 : Int)) + (1 : Int)) + (1 : Int)) + (1 : Int)) + (1 : Int)) ∧ wrap i64 (wrap i64 (wrap i64 (wrap i64 (wrap i64 ((0 : Int) + (1 : Int)) + (1 : Int)) + (1 : Int)) + (1 : Int)) + (1 : Int)) < (↑(13 : Nat) : Int)) ∧ ((13 : Int) = (0 : Int) → False) ∧ bif Int.tmod (↑n : Int) (13 : Int) == (0 : Int) then ((↑n : Int) == (13 : Int)) = T else ((0 : Int) ≤ wrap i64 (wrap i64 (wrap i64 (wrap i64 (wrap i64 (wrap i64 ((0 : Int) + (1 : Int)) + (1 : Int)) + (1 : Int)) + (1 : Int)) + (1 : Int)) + (1 : Int)) ∧ wrap i64 (wrap i64 (wrap i64 (wrap i64 (wrap i64 (wrap i64 ((0 : Int) + (1 : Int)) + (1 : Int)) + (1 : Int)) + (1 : Int)) + (1 : Int)) + (1 : Int)) < (↑(13 : Nat) : Int)) ∧ ((17 : Int) = (0 : Int) → False) ∧ bif Int.tmod (↑n : Int) (17 : Int) == (0 : Int) then ((↑n : Int) == (17 : Int)) = T else ((0 : Int) ≤ wrap i64 (wrap i64 (wrap i64 (wrap i64 (wrap i64 (wrap i64 (wrap i64 ((0 : Int) + (1 : Int)) + (1 : Int)) + (1 : Int)) + (1 : Int)) + (1 : Int)) + (1 : Int)) + (1 : Int)) ∧ wrap i64 (wrap i64 (wrap i64 (wrap i64 (wrap i64 (wrap i64 (wrap i64 ((0 : Int) + (1 : Int)) + (1 : Int)) + (1 : Int)) + (1 : Int)) + (1 : Int)) + (1 : Int)) + (1 : Int)) < (↑(13 : Nat) : Int)) ∧ ((19 : Int) = (0 : Int) → False) ∧ bif Int.tmod (↑n : Int) (19 : Int) == (0 : Int) then ((↑n : Int) == (19 : Int)) = T else ((0 : Int) ≤ wrap i64 (wrap i64 (wrap i64 (wrap i64 (wrap i64 (wrap i64 (wrap i64 (wrap i64 ((0 : Int) + (1 : Int)) + (1 : Int)) + (1 : Int)) + (1 : Int)) + (1 : Int)) + (1 : Int)) + (1 : Int)) + (1 : Int)) ∧ wrap i64 (wrap i64 (wrap i64 (wrap i64 (wrap i64 (wrap i64 (wrap i64 (wrap i64 ((0 : Int) + (1 : Int)) + (1 : Int)) + (1 : Int)) + (1 : Int)) + (1 : Int)) + (1 : Int)) + (1 : Int)) + (1 : Int)) < (↑(13 : Nat) : Int)) ∧ ((23 : Int) = (0 : Int) → False) ∧ bif Int.tmod (↑n : Int) (23 : Int) == (0 : Int) then ((↑n : Int) == (23 : Int)) = T else ((0 : Int) ≤ wrap i64 (wrap i64 (wrap i64 (wrap i64 (wrap i64 (wrap i64 (wrap i64 (wrap i64 (wrap i64 ((0 : Int) + (1 : Int)) + (1 : Int)) + (1 : Int)) + (1 : Int)) + (1 : Int)) + (1 : Int)) + (1 : Int)) + (1 : Int)) + (1 : Int)) ∧ wrap i64 (wrap i64 (wrap i64 (wrap i64 (wrap i64 (wrap i64 (wrap i64 (wrap i64 (wrap i64 ((0 : Int) + (1 : Int)) + (1 : Int)) + (1 : Int)) + (1 : Int)) + (1 : Int)) + (1 : Int)) + (1 : Int)) + (1 : Int)) + (1 : Int)) < (↑(13 : Nat) : Int)) ∧ ((29 : Int) = (0 : Int) → False) ∧ bif Int.tmod (↑n : Int) (29 : Int) == (0 : Int) then ((↑n : Int) == (29 : Int)) = T else ((0 : Int) ≤ wrap i64 (wrap i64 (wrap i64 (wrap i64 (wrap i64 (wrap i64 (wrap i64 (wrap i64 (wrap i64 (wrap i64 ((0 : Int) + (1 : Int)) + (1 : Int)) + (1 : Int)) + (1 : Int)) + (1 : Int)) + (1 : Int)) + (1 : Int)) + (1 : Int)) + (1 : Int)) + (1 : Int)) ∧ wrap i64 (wrap i64 (wrap i64 (wrap i64 (wrap i64 (wrap i64 (wrap i64 (wrap i64 (wrap i64 (wrap i64 ((0 : Int) + (1 : Int)) + (1 : Int)) + (1 : Int)) + (1 : Int)) + (1 : Int)) + (1 : Int)) + (1 : Int)) + (1 : Int)) + (1 : Int)) + (1 : Int)) < (↑(13 : Nat) : Int)) ∧ ((31 : Int) = (0 : Int) → False) ∧ bif Int.tmod (↑n : Int) (31 : Int) == (0 : Int) then ((↑n : Int) == (31 : Int)) = T else ((0 : Int) ≤ wrap i64 (wrap i64 (wrap i64 (wrap i64 (wrap i64 (wrap i64 (wrap i64 (wrap i64 (wrap i64 (wrap i64 (wrap i64 ((0 : Int) + (1 : Int)) + (1 : Int)) + (1 : Int)) + (1 : Int)) + (1 : Int)) + (1 : Int)) + (1 : Int)) + (1 : Int)) + (1 : Int)) + (1 : Int)) + (1 : Int)) ∧ wrap i64 (wrap i64 (wrap i64 (wrap i64 (wrap i64 (wrap i64 (wrap i64 (wrap i64 (wrap i64 (wrap i64 (wrap i64 ((0 : Int) + (1 : Int)) + (1 : Int)) + (1 : Int)) + (1 : Int)) + (1 : Int)) + (1 : Int)) + (1 : Int)) + (1 : Int)) + (1 : Int)) + (1 : Int)) + (1 : Int)) < (↑(13 : Nat) : Int)) ∧ ((37 : Int) = (0 : Int) → False) ∧ bif Int.tmod (↑n : Int) (37 : Int) == (0 : Int) then ((↑n : Int) == (37 : Int)) = T else ((0 : Int) ≤ wrap i64 (wrap i64 (wrap i64 (wrap i64 (wrap i64 (wrap i64 (wrap i64 (wrap i64 (wrap i64 (wrap i64 (wrap i64 (wrap i64 ((0 : Int) + (1 : Int)) + (1 : Int)) + (1 : Int)) + (1 : Int)) + (1 : Int)) + (1 : Int)) + (1 : Int)) + (1 : Int)) + (1 : Int)) + (1 : Int)) + (1 : Int)) + (1 : Int)) ∧ wrap i64 (wrap i64 (wrap i64 (wrap i64 (wrap i64 (wrap i64 (wrap i64 (wrap i64 (wrap i64 (wrap i64 (wrap i64 (wrap i64 ((0 : Int) + (1 : Int)) + (1 : Int)) + (1 : Int)) + (1 : Int)) + (1 : Int)) + (1 : Int)) + (1 : Int)) + (1 : Int)) + (1 : Int)) + (1 : Int)) + (1 : Int)) + (1 : Int)) < (↑(13 : Nat) : Int)) ∧ ((41 : Int) = (0 : Int) → False) ∧ bif Int.tmod (↑n : Int) (41 : Int) == (0 : Int) then ((↑n : Int) == (41 : Int)) = T else bif decide ((↑n : Int) > (1 : Int)) then ((∀ (j : Nat), j < (13 : Nat) → MV.int u64 (List.getD [(2 : Int), (3 : Int), (5 : Int), (7 : Int), (11 : Int), (13 : Int), (17 : Int), (19 : Int), (23 : Int), (29 : Int), (31 : Int), (37 : Int), (41 : Int)] j (0 : Int)) = MV.int u64 (List.getD basesI j (0 : Int))) ∧ (2 : Int) < (↑n : Int) ∧ (↑n : Int) < (18446744073709551616 : Int) ∧ (↑n : Int) % (2 : Int) = (1 : Int)) ∧ (!!allS (Int.toNat (↑n : Int)) fbases) = T else false = T) = evFn (envF [c_cf4] z_ppr a_ppr) Tryd.f22 [.int .u64 n] (MRes.sat (.ret (.bool T))) := by kernel_rfl
theorem pr_lvl {n p : Nat} {r : List Nat} {Y : Prop} {T : Bool} (hT : T = isPR n (p :: r)) (hY : n % p ≠ 0 → Y) : bif (Int.tmod (n : Int) (p : Int)) == 0 then ((n : Int) == (p : Int)) = T else Y := by
 have e : Int.tmod (n : Int) (p : Int) = ((n % p : Nat) : Int) := by rw [Int.tmod_eq_emod_of_nonneg (by omega)]; omega
 rw [e]
 refine condI beq_iff_eq (fun q => ?_) (fun q => hY (by omega))
 rw [hT, pr_yes (by omega)]
 cases hb : Nat.beq n p with
 | true => rw [Nat.eq_of_beq_eq_true hb]; exact beqI1 _
 | false => exact beqI0 (by have := Nat.ne_of_beq_eq_false hb; omega)
theorem bltN {a b : Nat} (h : a < b) : Nat.blt a b = true := by rw [Nat.blt_eq]; exact h
theorem bltN0 {a b : Nat} (h : ¬ a < b) : Nat.blt a b = false := by
 cases hb : Nat.blt a b with
 | false => rfl
 | true => rw [Nat.blt_eq] at hb; exact absurd hb h
def s_ppr : FSpec
 | [.int .u64 n] => some (some (0 ≤ n ∧ n < 18446744073709551616), .ret (.bool (isPN n.toNat)))
 | _ => none
theorem p_ppr : Good Tryd.f22 s_ppr := by
 intro ms p r h hp
 unfold s_ppr at h
 split at h
 ·rename_i n0
  simp only [Option.some.injEq, Prod.mk.injEq] at h
  obtain ⟨rfl, rfl⟩ := h
  obtain ⟨h0, h1⟩ : 0 ≤ n0 ∧ n0 < 18446744073709551616 := hp
  obtain ⟨n, rfl⟩ : ∃ n : Nat, n0 = n := ⟨n0.toNat, by omega⟩
  rw [Int.toNat_natCast]
  refine ⟨envF [c_cf4] z_ppr a_ppr, ?_⟩
  rw [← vc_ppr n (isPN n)]
  have hT : isPN n = isPR n [2, 3, 5, 7, 11, 13, 17, 19, 23, 29, 31, 37, 41] := rfl
  generalize isPN n = T at hT ⊢
  refine ⟨by decide +kernel, by decide, pr_lvl hT (fun q2 => ?_)⟩
  have q2 : n % 2 ≠ 0 := q2
  replace hT := hT.trans (pr_no q2)
  iterate 12
   refine ⟨by decide +kernel, by decide, pr_lvl hT (fun q => ?_)⟩
   replace hT := hT.trans (pr_no q)
   clear q
  rw [isPR] at hT
  refine condI decide_eq_true_iff (fun q => ⟨⟨fun _ _ => rfl, by omega, h1, by omega⟩, ?_⟩) (fun q => ?_)
  ·rw [hT, bltN (by omega), Bool.true_and, Bool.not_not, Int.toNat_natCast]
  ·rw [hT, bltN0 (by omega), Bool.false_and]
 ·simp at h
def c_ppr : Ctr Tryd.prog := ⟨22, s_ppr, fun args w => Tryd.call22 args w, fn_ok mix Tryd.func22 s_ppr p_ppr⟩
/-! ### The reference -/
/-! ### algoristref04.strong -/
end Go.Proofs.YtmjklcpdfmgcaaaDoor
/-
 Contracts of functions: prime.word, Is, odd, rest, Strong, Witness; the reference's.
-/
namespace Go.Proofs.YtmjklcpdfmgcaaaDoor
open Go Go.RowKit
open Go.IntKind (wrap i64 i32 i16 i8 u64 u32 u16 u8)
def GoodX (fn : Func) (s : FSpec) : Prop := ∀ ms p r, s ms = some (p, r) → p.holds → factsL ms → ∃ X : XE Tryd.prog, evFnX X fn ms r.sat ∧ allOk X (fn.body.getD .skip)
theorem fnX_ok_facts {f : FuncId} {fn : Func} (hf : Tryd.prog.funcs[f]? = some fn) (spec : FSpec) (hspec : GoodX fn spec)
  (S : Nat → Prop) (w : World) (ms : List MV) (args : Array Value) (p : OProp) (r : MRes) (hs : spec ms = some (p, r)) (hp : p.holds) (hS : ∀ b, S b → b < w.heap.size) (hG : GW S w)
  (ha : RepAll (Ctx.args S) w ms args.toList) : Calls Tryd.prog f args w fun e w' => Ext w w' ∧ r.holds (Ctx.res S) w' e := by
 have hfx : factsL ms := RepAll.facts ms _ ha
 obtain ⟨X, h1, h2⟩ := hspec ms p r hs hp hfx
 refine fnX_ok mix hf (fun m => some (some (∃ X : XE Tryd.prog, evFnX X fn m r.sat ∧ allOk X (fn.body.getD .skip)), r)) (fun m p2 r2 h3 hp2 => ?_) S w ms args _ r rfl ⟨X, h1, h2⟩ hS hG ha
 simp only [Option.some.injEq, Prod.mk.injEq] at h3
 obtain ⟨rfl, rfl⟩ := h3
 exact hp2
structure WalkI where
 i : Nat
def x_word (l : List Int) : Nat → MS → XS → Option XAnn
 | 1, e, _ => some (.inv WalkI (fun i => i.i ≤ l.length) (fun i => ⟨19, [(0, look 0 e.tm), (1, .bp 2 0), (3, .int .i64 ((l.length : Int) - 1 - (i.i : Int)))], setNth e.bx 1 ⟨false, .one (.int .u64 (wv (l.drop (l.length - i.i))))⟩, 3⟩) (fun _ => none) (fun i => l.length - i.i))
 | _, _, _ => none
noncomputable def xe_word (l : List Int) : XE Tryd.prog where
 E := env [] noAnn
 xann := fun _ _ _ => none
 its := [⟨62, Tryd.f62, Tryd.func62, fun args w => Tryd.call62 args w, env [] noAnn, x_word l⟩]
 inl := [⟨40, Tryd.f40, Tryd.func40, fun args w => Tryd.call40 args w, env [] noAnn, fun _ _ _ => none⟩]
 rnp := fun _ => 3
 all := fun _ => none
theorem vc_word (z : Int) (n : Nat) (l : List Int) (v : Int) (o : Bool) : (((0 : Int) ≤ minI (↑(List.length (limbs (Int.natAbs z))) : Int) (2 : Int) ∧ minI (↑(List.length (limbs (Int.natAbs z))) : Int) (2 : Int) ≤ (↑(List.length (limbs (Int.natAbs z))) : Int)) ∧ ∀ (L : Nat), (∃ i : WalkI, i.1 ≤ List.length l ∧ ((Value.func (Fn.yield L) #[] #[] = Value.func (Fn.yield L) #[] #[] ∧ (0 : Nat) = (0 : Nat) ∧ wrap i64 ((↑(List.length (List.take (Int.toNat (minI (↑(List.length (limbs (Int.natAbs z))) : Int) (2 : Int))) (limbs (Int.natAbs z)))) : Int) - (1 : Int)) = (↑(List.length l) : Int) - (1 : Int) - (↑(i.1) : Int) ∧ True) ∧ (z = z ∧ (n ≤ n ∨ Int.natAbs z < (2 : Nat) ^ n)) ∧ (0 : Int) = wv (List.drop (List.length l - i.1) l) ∧ List.take (Int.toNat (minI (↑(List.length (limbs (Int.natAbs z))) : Int) (2 : Int))) (limbs (Int.natAbs z)) = List.take (Int.toNat (minI (↑(List.length (limbs (Int.natAbs z))) : Int) (2 : Int))) (limbs (Int.natAbs z)) ∧ True) ∧ True) ∧ ∀ (i : WalkI), i.1 ≤ List.length l → bif decide ((↑(List.length l) : Int) - (1 : Int) - (↑(i.1) : Int) ≥ (0 : Int)) then ((0 : Int) ≤ (↑(List.length l) : Int) - (1 : Int) - (↑(i.1) : Int) ∧ (↑(List.length l) : Int) - (1 : Int) - (↑(i.1) : Int) < (↑(List.length (List.take (Int.toNat (minI (↑(List.length (limbs (Int.natAbs z))) : Int) (2 : Int))) (limbs (Int.natAbs z)))) : Int)) ∧ L = L ∧ (0 : Int) ≤ (32 : Int) ∧ ∃ j : WalkI, j.1 ≤ List.length l ∧ ((Value.func (Fn.yield L) #[] #[] = Value.func (Fn.yield L) #[] #[] ∧ (0 : Nat) = (0 : Nat) ∧ wrap i64 ((↑(List.length l) : Int) - (1 : Int) - (↑(i.1) : Int) - (1 : Int)) = (↑(List.length l) : Int) - (1 : Int) - (↑(j.1) : Int) ∧ True) ∧ (z = z ∧ (n ≤ n ∨ Int.natAbs z < (2 : Nat) ^ n)) ∧ wrap u64 (↑(BitVec.toNat (BitVec.ofInt (IntKind.bits u64) (wrap u64 (wv (List.drop (List.length l - i.1) l) * (2 : Int) ^ min (Int.toNat (32 : Int)) (IntKind.bits u64))) ||| BitVec.ofInt (IntKind.bits u64) (wrap u64 (List.getD (List.take (Int.toNat (minI (↑(List.length (limbs (Int.natAbs z))) : Int) (2 : Int))) (limbs (Int.natAbs z))) (Int.toNat ((↑(List.length l) : Int) - (1 : Int) - (↑(i.1) : Int))) (0 : Int))))) : Int) = wv (List.drop (List.length l - j.1) l) ∧ List.take (Int.toNat (minI (↑(List.length (limbs (Int.natAbs z))) : Int) (2 : Int))) (limbs (Int.natAbs z)) = List.take (Int.toNat (minI (↑(List.length (limbs (Int.natAbs z))) : Int) (2 : Int))) (limbs (Int.natAbs z)) ∧ True) ∧ True ∧ List.length l - j.1 < List.length l - i.1 else bif !decide (z < (0 : Int)) then wv (List.drop (List.length l - i.1) l) = v ∧ decide ((↑(List.length (limbs (Int.natAbs z))) : Int) ≤ (2 : Int)) = o ∧ True else wv (List.drop (List.length l - i.1) l) = v ∧ false = o ∧ True) = evFnX (xe_word l) Tryd.f21 [.big z n] (MRes.sat (.ret (.tup [.int .u64 v, .bool o]))) := by kernel_rfl
theorem wv_drop_succ (l : List Int) {k : Nat} (h : k < l.length) : wv (l.drop k) = l.getD k 0 + 4294967296 * wv (l.drop (k + 1)) := by
 rw [List.drop_eq_getElem_cons h]
 simp [wv, h]
theorem wv_take2 (n : Nat) : wv ((limbs n).take 2) = ((n % 18446744073709551616 : Nat) : Int) := by
 by_cases h : n = 0
 ·subst h; rw [limbs_zero]; rfl
 ·rw [limbs_pos h]
  by_cases h2 : n / 4294967296 = 0
  ·rw [h2, limbs_zero]
   show ((n % 4294967296 : Nat) : Int) + 4294967296 * 0 = _
   omega
  ·rw [limbs_pos h2]
   show ((n % 4294967296 : Nat) : Int) + 4294967296 * (((n / 4294967296 % 4294967296 : Nat) : Int) + 4294967296 * 0) = _
   omega
theorem len2_iff (n : Nat) : (limbs n).length ≤ 2 ↔ n < 18446744073709551616 := by
 constructor
 ·intro h
  have h1 := limbs_lt n
  have h2 : 4294967296 ^ (limbs n).length ≤ 4294967296 ^ 2 := Nat.pow_le_pow_right (by omega) h
  have h3 : (4294967296 : Nat) ^ 2 = 18446744073709551616 := rfl
  omega
 ·intro h; exact limbs_len_le (by omega)
theorem word_step {l : List Int} (hw : Wd l) (hl : l.length ≤ 2) {i : Nat} (h0 : i < l.length) : wrap u64 (BitVec.ofInt u64.bits (u64.wrap (wv (l.drop (l.length - i)) * 4294967296)) ||| BitVec.ofInt u64.bits (u64.wrap (l.getD (l.length - 1 - i) 0))).toNat = wv (l.drop (l.length - (i + 1))) := by
 have es := wv_drop_succ l (k := l.length - 1 - i) (by omega)
 rw [show l.length - 1 - i + 1 = l.length - i by omega] at es
 have hx : 0 ≤ l.getD (l.length - 1 - i) 0 ∧ l.getD (l.length - 1 - i) 0 < 4294967296 := by
  have hk : l.length - 1 - i < l.length := by omega
  rw [show l.getD (l.length - 1 - i) 0 = l[l.length - 1 - i] by simp [hk]]
  exact hw _ (List.getElem_mem hk)
 have hv : 0 ≤ wv (l.drop (l.length - i)) ∧ wv (l.drop (l.length - i)) < 4294967296 := by
  have hwd : Wd (l.drop (l.length - i)) := fun x hx => hw x (List.mem_of_mem_drop hx)
  have hdl : (l.drop (l.length - i)).length ≤ 1 := by rw [List.length_drop]; omega
  have h2 := wv_lt hwd
  have h3 := wv_nonneg hwd
  have h4 : (4294967296 : Int) ^ (l.drop (l.length - i)).length ≤ 4294967296 ^ 1 := by
   rcases (show (l.drop (l.length - i)).length = 0 ∨ (l.drop (l.length - i)).length = 1 by omega) with q | q <;> rw [q] <;> decide
  omega
 rw [show l.length - (i + 1) = l.length - 1 - i by omega, es]
 generalize wv (l.drop (l.length - i)) = v at *
 generalize l.getD (l.length - 1 - i) 0 = x at *
 rw [eu64 (x := v * 4294967296) (by omega), eu64 (x := x) (by omega), or64 32 (by omega) (by omega) (by omega) (by omega) (by omega) (by omega)]
 omega
theorem minI_nat (a b : Nat) : minI (a : Int) (b : Int) = ((min a b : Nat) : Int) := by
 unfold minI
 split <;> omega
def s_word : FSpec
 | [.big z _] => some (none, .ret (.tup [.int .u64 ((z.natAbs : Int) % 18446744073709551616), .bool (decide (0 ≤ z ∧ z < 18446744073709551616))]))
 | _ => none
theorem p_word : GoodX Tryd.f21 s_word := by
 intro ms p r h hp hf
 unfold s_word at h
 split at h
 ·rename_i z n
  simp only [Option.some.injEq, Prod.mk.injEq] at h
  obtain ⟨rfl, rfl⟩ := h
  refine ⟨xe_word ((limbs z.natAbs).take 2), ?_, allOk_none rfl _⟩
  rw [← vc_word z n ((limbs z.natAbs).take 2) _ _, p32]
  have em : minI ((limbs z.natAbs).length : Int) 2 = ((min (limbs z.natAbs).length 2 : Nat) : Int) := minI_nat _ 2
  have et : (limbs z.natAbs).take (min (limbs z.natAbs).length 2) = (limbs z.natAbs).take 2 := by
   rcases Nat.le_total (limbs z.natAbs).length 2 with q | q
   ·rw [Nat.min_eq_left q, List.take_length, List.take_of_length_le q]
   ·rw [Nat.min_eq_right q]
  rw [em, Int.toNat_natCast, et]
  have hw : Wd ((limbs z.natAbs).take 2) := fun x hx => limbs_wd z.natAbs x (List.mem_of_mem_take hx)
  have hl : ((limbs z.natAbs).take 2).length ≤ 2 := by rw [List.length_take]; omega
  have hv := wv_take2 z.natAbs
  have h2 := len2_iff z.natAbs
  generalize (limbs z.natAbs).take 2 = l at *
  refine ⟨⟨by omega, by omega⟩, fun L => ⟨⟨⟨0⟩, Nat.zero_le _, ?_, True.intro⟩, fun i hi => ?_⟩⟩
  ·have e1 : wrap i64 ((l.length : Int) - 1) = (l.length : Int) - 1 - ((0 : Nat) : Int) := by rw [i64w (by omega) (by omega)]; omega
   have e2 : wv (l.drop (l.length - 0)) = 0 := by rw [Nat.sub_zero, List.drop_length]; rfl
   rw [e1]
   refine ⟨⟨rfl, rfl, rfl, True.intro⟩, ⟨rfl, .inl (Nat.le_refl _)⟩, e2.symm, rfl, True.intro⟩
  obtain ⟨i⟩ := i
  have hi : i ≤ l.length := hi
  dsimp only
  refine condI decide_eq_true_iff (fun q => ?_) (fun q => ?_)
  ·have h0 : i < l.length := by omega
   have eq : ((l.length : Int) - 1 - (i : Int)).toNat = l.length - 1 - i := by omega
   have e1 : wrap i64 ((l.length : Int) - 1 - (i : Int) - 1) = (l.length : Int) - 1 - ((i + 1 : Nat) : Int) := by rw [i64w (by omega) (by omega)]; omega
   rw [eq, word_step hw hl h0, e1]
   refine ⟨⟨by omega, by omega⟩, rfl, by omega, ⟨i + 1⟩, h0, ⟨⟨rfl, rfl, rfl, True.intro⟩, ⟨rfl, .inl (Nat.le_refl _)⟩, rfl, rfl, True.intro⟩, True.intro, by show l.length - (i + 1) < l.length - i; omega⟩
  ·obtain rfl : i = l.length := by omega
   rw [Nat.sub_self, List.drop_zero, hv]
   by_cases hz : z < 0
   ·rw [decide_eq_true hz, Bool.not_true, cond_false]
    exact ⟨by omega, (decide_eq_false (by omega)).symm, True.intro⟩
   ·rw [decide_eq_false hz, Bool.not_false, cond_true]
    refine ⟨by omega, ?_, True.intro⟩
    by_cases hs : z < 18446744073709551616
    ·rw [decide_eq_true (show 0 ≤ z ∧ z < 18446744073709551616 by omega)]
     exact decide_eq_true (by have := h2.2 (by omega); omega)
    ·rw [decide_eq_false (show ¬ (0 ≤ z ∧ z < 18446744073709551616) by omega)]
     refine decide_eq_false (fun h => ?_)
     have := h2.1 (by omega)
     omega
 ·simp at h
noncomputable def c_word : Ctr Tryd.prog := ⟨21, s_word, fun args w => Tryd.call21 args w, fnX_ok_facts Tryd.func21 s_word p_word⟩
def isE (z : Int) : Int := if 18446744073709551616 ≤ z then 2 else 0
def isB (z : Int) : Bool := if 0 ≤ z ∧ z < 18446744073709551616 then isPN z.toNat else false
def s_pis : FSpec
 | [.big z _] => some (none, .ret (.tup [.bool (isB z), .int .i64 (isE z)]))
 | _ => none
theorem vc_pis (z : Int) (n : Nat) : (bif decide (z < (0 : Int)) then false = isB z ∧ (0 : Int) = isE z ∧ True else bif !decide ((0 : Int) ≤ z ∧ z < (18446744073709551616 : Int)) then false = isB z ∧ (2 : Int) = isE z ∧ True else ((0 : Int) ≤ (↑(Int.natAbs z) : Int) % (18446744073709551616 : Int) ∧ (↑(Int.natAbs z) : Int) % (18446744073709551616 : Int) < (18446744073709551616 : Int)) ∧ isPN (Int.toNat ((↑(Int.natAbs z) : Int) % (18446744073709551616 : Int))) = isB z ∧ (0 : Int) = isE z ∧ True) = evFn (env [c_word, c_ppr] noAnn) Tryd.f8 [.big z n] (MRes.sat (.ret (.tup [.bool (isB z), .int .i64 (isE z)]))) := by kernel_rfl
theorem p_pis : Good Tryd.f8 s_pis := by
 intro ms p r h hp
 unfold s_pis at h
 split at h
 ·rename_i z n
  simp only [Option.some.injEq, Prod.mk.injEq] at h
  obtain ⟨rfl, rfl⟩ := h
  refine ⟨env [c_word, c_ppr] noAnn, ?_⟩
  rw [← vc_pis z n]
  unfold isB isE
  refine condI decide_eq_true_iff (fun q => ⟨by rw [if_neg (by omega)], by rw [if_neg (by omega)], True.intro⟩) (fun q => ?_)
  by_cases q2 : 0 ≤ z ∧ z < 18446744073709551616
  ·rw [decide_eq_true q2, Bool.not_true, cond_false, if_pos q2, if_neg (show ¬ 18446744073709551616 ≤ z by omega)]
   have e : (z.natAbs : Int) % 18446744073709551616 = z := by omega
   rw [e]
   exact ⟨q2, rfl, rfl, True.intro⟩
  ·rw [decide_eq_false q2, Bool.not_false, cond_true, if_neg q2, if_pos (show 18446744073709551616 ≤ z by omega)]
   exact ⟨rfl, rfl, True.intro⟩
 ·simp at h
def c_pis : Ctr Tryd.prog := ⟨8, s_pis, fun args w => Tryd.call8 args w, fn_ok mix Tryd.func8 s_pis p_pis⟩
def oddB (z t : Int) : Bool := decide (t < z ∧ z % 2 = 1)
theorem limb0 (n : Nat) : (limbs n).getD (Int.toNat 0) 0 = ((n % 4294967296 : Nat) : Int) := by
 have := limbs_getD n 0
 rw [Nat.pow_zero, Nat.div_one] at this
 exact this
theorem icmp_pos {a b : Int} : icmp a b > 0 ↔ b < a := by
 unfold icmp
 split
 ·omega
 ·split <;> omega
theorem limbs_ne {z : Int} (h : 0 < z) : (0 : Int) < ((limbs z.natAbs).length : Int) := by
 have : (limbs z.natAbs).length ≠ 0 := fun e => by
  have := limbs_eq_nil.1 (List.eq_nil_of_length_eq_zero e)
  omega
 omega
def s_podd : FSpec
 | [.big z n, .int .i64 t] => some (some (0 ≤ t ∧ t ≤ 1000 ∧ n ≤ 1000000), .ret (.bool (oddB z t)))
 | _ => none
theorem vc_podd (z t : Int) (n : Nat) : (((-9223372036854775808 : Int) ≤ t ∧ t ≤ (9223372036854775807 : Int)) ∧ (n ≤ (1000000 : Nat) ∧ (64 : Nat) ≤ (1000000 : Nat)) ∧ bif decide (icmp z t > (0 : Int)) then ((0 : Int) ≤ (0 : Int) ∧ (0 : Int) < (↑(List.length (limbs (Int.natAbs z))) : Int)) ∧ (wrap u32 (↑(BitVec.toNat (BitVec.ofInt (IntKind.bits u32) (List.getD (limbs (Int.natAbs z)) (Int.toNat (0 : Int)) (0 : Int)) &&& BitVec.ofInt (IntKind.bits u32) (1 : Int))) : Int) == (1 : Int)) = oddB z t else false = oddB z t) = evFn (env [c_iof, c_icmp] noAnn) Tryd.f25 [.big z n, .int .i64 t] (MRes.sat (.ret (.bool (oddB z t)))) := by kernel_rfl
theorem p_podd : Good Tryd.f25 s_podd := by
 intro ms p r h hp
 unfold s_podd at h
 split at h
 ·rename_i z n t
  simp only [Option.some.injEq, Prod.mk.injEq] at h
  obtain ⟨rfl, rfl⟩ := h
  obtain ⟨h1, h2, h3⟩ : 0 ≤ t ∧ t ≤ 1000 ∧ n ≤ 1000000 := hp
  refine ⟨env [c_iof, c_icmp] noAnn, ?_⟩
  rw [← vc_podd z t n]
  refine ⟨by omega, by omega, condI decide_eq_true_iff (fun q => ?_) (fun q => ?_)⟩
  ·have q := icmp_pos.1 q
   rw [limb0, and_one_word _ (by omega)]
   refine ⟨⟨by omega, limbs_ne (by omega)⟩, ?_⟩
   unfold oddB
   by_cases q2 : z % 2 = 1
   ·rw [decide_eq_true (show t < z ∧ z % 2 = 1 from ⟨q, q2⟩)]
    rw [show z.natAbs % 4294967296 % 2 = 1 by omega]; rfl
   ·rw [decide_eq_false (show ¬ (t < z ∧ z % 2 = 1) from fun h => q2 h.2)]
    rw [show z.natAbs % 4294967296 % 2 = 0 by omega]; rfl
  ·have q : ¬ t < z := fun h => q (icmp_pos.2 h)
   exact (decide_eq_false (show ¬ (t < z ∧ z % 2 = 1) from fun h => q h.1)).symm
 ·simp at h
def c_podd : Ctr Tryd.prog := ⟨25, s_podd, fun args w => Tryd.call25 args w, fn_ok mix Tryd.func25 s_podd p_podd⟩
def s_rest : FSpec
 | [.big a n, .big m k] => some (some (n ≤ 900000 ∧ k ≤ 900000 ∧ m ≠ 0), .ret (.big (a % m) k))
 | _ => none
theorem vc_rest (a m : Int) (n k : Nat) : ((n ≤ (900000 : Nat) ∧ k ≤ (900000 : Nat) ∧ (m = (0 : Int) → False)) ∧ a % m = a % m ∧ (k ≤ k ∨ Int.natAbs (a % m) < (2 : Nat) ^ k)) = evFn (env [c_divmod1] noAnn) Tryd.f47 [.big a n, .big m k] (MRes.sat (.ret (.big (a % m) k))) := by kernel_rfl
theorem p_rest : Good Tryd.f47 s_rest := by
 intro ms p r h hp
 unfold s_rest at h
 split at h
 ·rename_i a n m k
  simp only [Option.some.injEq, Prod.mk.injEq] at h
  obtain ⟨rfl, rfl⟩ := h
  obtain ⟨h1, h2, h3⟩ : n ≤ 900000 ∧ k ≤ 900000 ∧ m ≠ 0 := hp
  refine ⟨env [c_divmod1] noAnn, ?_⟩
  rw [← vc_rest a m n k]
  exact ⟨⟨h1, h2, h3⟩, rfl, .inl (Nat.le_refl _)⟩
 ·simp at h
def c_rest : Ctr Tryd.prog := ⟨47, s_rest, fun args w => Tryd.call47 args w, fn_ok mix Tryd.func47 s_rest p_rest⟩
end Go.Proofs.YtmjklcpdfmgcaaaDoor
/-
 Contracts of functions: prime.long, Strong, Witness; algoristref04.Power, Strong, Witness.
-/
namespace Go.Proofs.YtmjklcpdfmgcaaaDoor
open Go Go.RowKit
open Go.IntKind (wrap i64 i32 i16 i8 u64 u32 u16 u8)
structure LkI (M : Nat) (s : Nat) : Prop where
 m : M % 2 ^ s = 0
 l : s < bl M
structure PK where
 k : Nat
 x : Nat
structure PkI (N M c s : Nat) (i : PK) : Prop where
 s : s ≤ i.k
 l : i.k ≤ bl M
 x : i.x = c ^ (M / 2 ^ i.k) % N
def a_long (b : Int) (W N M c s : Nat) (B : Bool) : Nat → MS → Option LoopAnn
 | 4, e => some (.inv WalkI (fun i => LkI M i.i) (fun i => ⟨82, [(1, .int .i64 b), (2, .bp 0 0), (5, .bp 1 0), (6, .bp 2 0), (7, .int .i64 i.i)], e.bx, 0⟩) (fun i => bl M - i.i))
 | 11, e => some (.inv PK (PkI N M c s) (fun i => ⟨82, [(2, .bp 0 0), (5, .bp 1 0), (6, .bp 2 0), (7, .int .i64 s), (8, .bp 3 0), (9, .bp 4 0), (10, .int .i64 ((i.k : Int) - 1))], setNth e.bx 4 ⟨false, .one (.big i.x W)⟩, 0⟩) (fun i => i.k))
 | 19, e => some (.inv SH (ShI N s B) (fun i => ⟨82, [(2, .bp 0 0), (5, .bp 1 0), (6, .bp 2 0), (9, .bp 4 0), (69, .int .i64 s), (70, .int .i64 i.k)], setNth e.bx 4 ⟨false, .one (.big i.x W)⟩, 0⟩) (fun i => s - i.k))
 | _, _ => none
theorem vc_long (z b : Int) (W N M c s : Nat) (B T : Bool) : (((-9223372036854775808 : Int) ≤ (1 : Int) ∧ (1 : Int) ≤ (9223372036854775807 : Int)) ∧ (W ≤ (1000000 : Nat) ∧ (64 : Nat) ≤ (1000000 : Nat)) ∧ (∃ i : WalkI, LkI M (i.1) ∧ (b = b ∧ (0 : Nat) = (0 : Nat) ∧ (0 : Nat) = (0 : Nat) ∧ (0 : Nat) = (0 : Nat) ∧ (0 : Int) = (↑(i.1) : Int) ∧ True) ∧ (z = z ∧ (W ≤ W ∨ Int.natAbs z < (2 : Nat) ^ W)) ∧ ((1 : Int) = (1 : Int) ∧ ((64 : Nat) ≤ (64 : Nat) ∨ Int.natAbs (1 : Int) < (2 : Nat) ^ (64 : Nat))) ∧ (z - (1 : Int) = z - (1 : Int) ∧ (max W (64 : Nat) + (1 : Nat) ≤ max W (64 : Nat) + (1 : Nat) ∨ Int.natAbs (z - (1 : Int)) < (2 : Nat) ^ (max W (64 : Nat) + (1 : Nat)))) ∧ True) ∧ ∀ (i : WalkI), LkI M (i.1) → ((32 : Int) = (0 : Int) → False) ∧ ((0 : Int) ≤ wrap i64 (Int.tdiv (↑(i.1) : Int) (32 : Int)) ∧ wrap i64 (Int.tdiv (↑(i.1) : Int) (32 : Int)) < (↑(List.length (limbs (Int.natAbs (z - (1 : Int))))) : Int)) ∧ ((32 : Int) = (0 : Int) → False) ∧ (0 : Int) ≤ Int.tmod (↑(i.1) : Int) (32 : Int) ∧ bif wrap u32 (↑(BitVec.toNat (BitVec.ofInt (IntKind.bits u32) (Int.fdiv (List.getD (limbs (Int.natAbs (z - (1 : Int)))) (Int.toNat (wrap i64 (Int.tdiv (↑(i.1) : Int) (32 : Int)))) (0 : Int)) ((2 : Int) ^ min (Int.toNat (Int.tmod (↑(i.1) : Int) (32 : Int))) (IntKind.bits u32))) &&& BitVec.ofInt (IntKind.bits u32) (1 : Int))) : Int) == (0 : Int) then ∃ j : WalkI, LkI M (j.1) ∧ ((b = b ∧ (0 : Nat) = (0 : Nat) ∧ (0 : Nat) = (0 : Nat) ∧ (0 : Nat) = (0 : Nat) ∧ wrap i64 ((↑(i.1) : Int) + (1 : Int)) = (↑(j.1) : Int) ∧ True) ∧ (z = z ∧ (W ≤ W ∨ Int.natAbs z < (2 : Nat) ^ W)) ∧ ((1 : Int) = (1 : Int) ∧ ((64 : Nat) ≤ (64 : Nat) ∨ Int.natAbs (1 : Int) < (2 : Nat) ^ (64 : Nat))) ∧ (z - (1 : Int) = z - (1 : Int) ∧ (max W (64 : Nat) + (1 : Nat) ≤ max W (64 : Nat) + (1 : Nat) ∨ Int.natAbs (z - (1 : Int)) < (2 : Nat) ^ (max W (64 : Nat) + (1 : Nat)))) ∧ True) ∧ bl M - j.1 < bl M - i.1 else ((-9223372036854775808 : Int) ≤ b ∧ b ≤ (9223372036854775807 : Int)) ∧ ((64 : Nat) ≤ (900000 : Nat) ∧ W ≤ (900000 : Nat) ∧ (z = (0 : Int) → False)) ∧ bif sgn (b % z) == (0 : Int) then true = T else max W (64 : Nat) + (1 : Nat) ≤ (1000000 : Nat) ∧ (∃ i_1, PkI N M c s i_1 ∧ ((0 : Nat) = (0 : Nat) ∧ (0 : Nat) = (0 : Nat) ∧ (0 : Nat) = (0 : Nat) ∧ (↑(i.1) : Int) = (↑s : Int) ∧ (0 : Nat) = (0 : Nat) ∧ (0 : Nat) = (0 : Nat) ∧ wrap i64 ((↑(bl (Int.natAbs (z - (1 : Int)))) : Int) - (1 : Int)) = (↑(PK.k i_1) : Int) - (1 : Int) ∧ True) ∧ (z = z ∧ (W ≤ W ∨ Int.natAbs z < (2 : Nat) ^ W)) ∧ ((1 : Int) = (1 : Int) ∧ ((64 : Nat) ≤ (64 : Nat) ∨ Int.natAbs (1 : Int) < (2 : Nat) ^ (64 : Nat))) ∧ (z - (1 : Int) = z - (1 : Int) ∧ (max W (64 : Nat) + (1 : Nat) ≤ max W (64 : Nat) + (1 : Nat) ∨ Int.natAbs (z - (1 : Int)) < (2 : Nat) ^ (max W (64 : Nat) + (1 : Nat)))) ∧ (b % z = b % z ∧ (W ≤ W ∨ Int.natAbs (b % z) < (2 : Nat) ^ W)) ∧ ((1 : Int) = (↑(PK.x i_1) : Int) ∧ ((64 : Nat) ≤ W ∨ Int.natAbs (1 : Int) < (2 : Nat) ^ W)) ∧ True) ∧ ∀ (i : PK), PkI N M c s i → bif decide ((↑(PK.k i) : Int) - (1 : Int) ≥ (↑s : Int)) then (W ≤ (1000000 : Nat) ∧ W ≤ (1000000 : Nat)) ∧ (W + W ≤ (900000 : Nat) ∧ W ≤ (900000 : Nat) ∧ (z = (0 : Int) → False)) ∧ ((32 : Int) = (0 : Int) → False) ∧ ((0 : Int) ≤ wrap i64 (Int.tdiv ((↑(PK.k i) : Int) - (1 : Int)) (32 : Int)) ∧ wrap i64 (Int.tdiv ((↑(PK.k i) : Int) - (1 : Int)) (32 : Int)) < (↑(List.length (limbs (Int.natAbs (z - (1 : Int))))) : Int)) ∧ ((32 : Int) = (0 : Int) → False) ∧ (0 : Int) ≤ Int.tmod ((↑(PK.k i) : Int) - (1 : Int)) (32 : Int) ∧ bif wrap u32 (↑(BitVec.toNat (BitVec.ofInt (IntKind.bits u32) (Int.fdiv (List.getD (limbs (Int.natAbs (z - (1 : Int)))) (Int.toNat (wrap i64 (Int.tdiv ((↑(PK.k i) : Int) - (1 : Int)) (32 : Int)))) (0 : Int)) ((2 : Int) ^ min (Int.toNat (Int.tmod ((↑(PK.k i) : Int) - (1 : Int)) (32 : Int))) (IntKind.bits u32))) &&& BitVec.ofInt (IntKind.bits u32) (1 : Int))) : Int) == (1 : Int) then (W ≤ (1000000 : Nat) ∧ W ≤ (1000000 : Nat)) ∧ (W + W ≤ (900000 : Nat) ∧ W ≤ (900000 : Nat) ∧ (z = (0 : Int) → False)) ∧ ∃ j, PkI N M c s j ∧ (((0 : Nat) = (0 : Nat) ∧ (0 : Nat) = (0 : Nat) ∧ (0 : Nat) = (0 : Nat) ∧ (↑s : Int) = (↑s : Int) ∧ (0 : Nat) = (0 : Nat) ∧ (0 : Nat) = (0 : Nat) ∧ wrap i64 ((↑(PK.k i) : Int) - (1 : Int) - (1 : Int)) = (↑(PK.k j) : Int) - (1 : Int) ∧ True) ∧ (z = z ∧ (W ≤ W ∨ Int.natAbs z < (2 : Nat) ^ W)) ∧ ((1 : Int) = (1 : Int) ∧ ((64 : Nat) ≤ (64 : Nat) ∨ Int.natAbs (1 : Int) < (2 : Nat) ^ (64 : Nat))) ∧ (z - (1 : Int) = z - (1 : Int) ∧ (max W (64 : Nat) + (1 : Nat) ≤ max W (64 : Nat) + (1 : Nat) ∨ Int.natAbs (z - (1 : Int)) < (2 : Nat) ^ (max W (64 : Nat) + (1 : Nat)))) ∧ (b % z = b % z ∧ (W ≤ W ∨ Int.natAbs (b % z) < (2 : Nat) ^ W)) ∧ ((↑(PK.x i) : Int) * (↑(PK.x i) : Int) % z * (b % z) % z = (↑(PK.x j) : Int) ∧ (W ≤ W ∨ Int.natAbs ((↑(PK.x i) : Int) * (↑(PK.x i) : Int) % z * (b % z) % z) < (2 : Nat) ^ W)) ∧ True) ∧ PK.k j < PK.k i else ∃ j, PkI N M c s j ∧ (((0 : Nat) = (0 : Nat) ∧ (0 : Nat) = (0 : Nat) ∧ (0 : Nat) = (0 : Nat) ∧ (↑s : Int) = (↑s : Int) ∧ (0 : Nat) = (0 : Nat) ∧ (0 : Nat) = (0 : Nat) ∧ wrap i64 ((↑(PK.k i) : Int) - (1 : Int) - (1 : Int)) = (↑(PK.k j) : Int) - (1 : Int) ∧ True) ∧ (z = z ∧ (W ≤ W ∨ Int.natAbs z < (2 : Nat) ^ W)) ∧ ((1 : Int) = (1 : Int) ∧ ((64 : Nat) ≤ (64 : Nat) ∨ Int.natAbs (1 : Int) < (2 : Nat) ^ (64 : Nat))) ∧ (z - (1 : Int) = z - (1 : Int) ∧ (max W (64 : Nat) + (1 : Nat) ≤ max W (64 : Nat) + (1 : Nat) ∨ Int.natAbs (z - (1 : Int)) < (2 : Nat) ^ (max W (64 : Nat) + (1 : Nat)))) ∧ (b % z = b % z ∧ (W ≤ W ∨ Int.natAbs (b % z) < (2 : Nat) ^ W)) ∧ ((↑(PK.x i) : Int) * (↑(PK.x i) : Int) % z = (↑(PK.x j) : Int) ∧ (W ≤ W ∨ Int.natAbs ((↑(PK.x i) : Int) * (↑(PK.x i) : Int) % z) < (2 : Nat) ^ W)) ∧ True) ∧ PK.k j < PK.k i else (W ≤ (1000000 : Nat) ∧ (64 : Nat) ≤ (1000000 : Nat)) ∧ bif icmp (↑(PK.x i) : Int) (1 : Int) == (0 : Int) then true = T else (∃ i_1, ShI N s B i_1 ∧ ((0 : Nat) = (0 : Nat) ∧ (0 : Nat) = (0 : Nat) ∧ (0 : Nat) = (0 : Nat) ∧ (0 : Nat) = (0 : Nat) ∧ (↑s : Int) = (↑s : Int) ∧ (0 : Int) = (↑(SH.k i_1) : Int) ∧ True) ∧ (z = z ∧ (W ≤ W ∨ Int.natAbs z < (2 : Nat) ^ W)) ∧ ((1 : Int) = (1 : Int) ∧ ((64 : Nat) ≤ (64 : Nat) ∨ Int.natAbs (1 : Int) < (2 : Nat) ^ (64 : Nat))) ∧ (z - (1 : Int) = z - (1 : Int) ∧ (max W (64 : Nat) + (1 : Nat) ≤ max W (64 : Nat) + (1 : Nat) ∨ Int.natAbs (z - (1 : Int)) < (2 : Nat) ^ (max W (64 : Nat) + (1 : Nat)))) ∧ (b % z = b % z ∧ (W ≤ W ∨ Int.natAbs (b % z) < (2 : Nat) ^ W)) ∧ ((↑(PK.x i) : Int) = (↑(SH.x i_1) : Int) ∧ (W ≤ W ∨ Int.natAbs (↑(PK.x i) : Int) < (2 : Nat) ^ W)) ∧ True) ∧ ∀ (i : SH), ShI N s B i → bif decide ((↑(SH.k i) : Int) < (↑s : Int)) then (W ≤ (1000000 : Nat) ∧ max W (64 : Nat) + (1 : Nat) ≤ (1000000 : Nat)) ∧ bif icmp (↑(SH.x i) : Int) (z - (1 : Int)) == (0 : Int) then true = T else (W ≤ (1000000 : Nat) ∧ W ≤ (1000000 : Nat)) ∧ (W + W ≤ (900000 : Nat) ∧ W ≤ (900000 : Nat) ∧ (z = (0 : Int) → False)) ∧ ∃ j, ShI N s B j ∧ (((0 : Nat) = (0 : Nat) ∧ (0 : Nat) = (0 : Nat) ∧ (0 : Nat) = (0 : Nat) ∧ (0 : Nat) = (0 : Nat) ∧ (↑s : Int) = (↑s : Int) ∧ wrap i64 ((↑(SH.k i) : Int) + (1 : Int)) = (↑(SH.k j) : Int) ∧ True) ∧ (z = z ∧ (W ≤ W ∨ Int.natAbs z < (2 : Nat) ^ W)) ∧ ((1 : Int) = (1 : Int) ∧ ((64 : Nat) ≤ (64 : Nat) ∨ Int.natAbs (1 : Int) < (2 : Nat) ^ (64 : Nat))) ∧ (z - (1 : Int) = z - (1 : Int) ∧ (max W (64 : Nat) + (1 : Nat) ≤ max W (64 : Nat) + (1 : Nat) ∨ Int.natAbs (z - (1 : Int)) < (2 : Nat) ^ (max W (64 : Nat) + (1 : Nat)))) ∧ (b % z = b % z ∧ (W ≤ W ∨ Int.natAbs (b % z) < (2 : Nat) ^ W)) ∧ ((↑(SH.x i) : Int) * (↑(SH.x i) : Int) % z = (↑(SH.x j) : Int) ∧ (W ≤ W ∨ Int.natAbs ((↑(SH.x i) : Int) * (↑(SH.x i) : Int) % z) < (2 : Nat) ^ W)) ∧ True) ∧ s - SH.k j < s - SH.k i else false = T) = evFn (env [c_iof, c_isub, c_rest, c_sign, c_bits, c_mul, c_icmp] (a_long b W N M c s B)) Tryd.f27 [.big z W, .int .i64 b] (MRes.sat (.ret (.bool T))) := by kernel_rfl
theorem ixE {i : Nat} (h : i ≤ 1000000) : wrap i64 (Int.tdiv (i : Int) 32) = ((i / 32 : Nat) : Int) := by
 rw [Int.tdiv_eq_ediv_of_nonneg (by omega), i64w (by omega) (by omega)]
 omega
theorem imE (i : Nat) : Int.tmod (i : Int) 32 = ((i % 32 : Nat) : Int) := by
 rw [Int.tmod_eq_emod_of_nonneg (by omega)]
 omega
theorem bit_val (n i : Nat) : wrap u32 ((BitVec.ofInt (IntKind.bits u32) (((limbs n).getD (i / 32) 0).fdiv (2 ^ min (i % 32) (IntKind.bits u32))) &&& BitVec.ofInt (IntKind.bits u32) 1).toNat : Int) = ((n / 2 ^ i % 2 : Nat) : Int) := by
 have hm : min (i % 32) (IntKind.bits u32) = i % 32 := by
  show min (i % 32) 32 = i % 32
  omega
 have hx : n / 4294967296 ^ (i / 32) % 4294967296 / 2 ^ (i % 32) < 4294967296 := Nat.lt_of_le_of_lt (Nat.div_le_self _ _) (Nat.mod_lt _ (by omega))
 have hf : ((limbs n).getD (i / 32) 0).fdiv (2 ^ min (i % 32) (IntKind.bits u32)) = ((n / 4294967296 ^ (i / 32) % 4294967296 / 2 ^ (i % 32) : Nat) : Int) := by
  rw [hm, limbs_getD, Int.fdiv_eq_ediv_of_nonneg _ (Int.pow_nonneg (by omega)), Int.natCast_ediv, Int.natCast_pow]
  rfl
 have hb := bit_word n i
 rw [hf, and_one_word _ hx] at hb ⊢
 by_cases h : n / 2 ^ i % 2 = 1
 ·rw [decide_eq_true h, beq_iff_eq] at hb
  omega
 ·rw [decide_eq_false h] at hb
  have : ¬ ((n / 4294967296 ^ (i / 32) % 4294967296 / 2 ^ (i % 32) % 2 : Nat) : Int) = 1 := fun e => by rw [e] at hb; simp at hb
  omega
theorem lk_step {M s : Nat} (h : LkI M s) (hM : 0 < M) (hb : M / 2 ^ s % 2 = 0) : LkI M (s + 1) := by
 have e : M % 2 ^ (s + 1) = 0 := by rw [Nat.mod_pow_succ, h.m, hb]; simp
 refine ⟨e, ?_⟩
 have h1 : 2 ^ (s + 1) ≤ M := Nat.le_of_dvd hM (Nat.dvd_of_mod_eq_zero e)
 have h2 := bl_lt M
 false_or_by_contra
 rename_i hno
 have := Nat.pow_le_pow_right (show 0 < 2 by omega) (show bl M ≤ s + 1 by omega)
 omega
theorem lk_end {M s : Nat} (h : LkI M s) (hl : bl M ≤ 128) (hb : M / 2 ^ s % 2 ≠ 0) : TzOk 128 M s := ⟨h.m, by omega, by have := h.l; omega⟩
theorem pk_start {N M c s : Nat} (hN : 1 < N) (hs : s ≤ bl M) : PkI N M c s ⟨bl M, 1⟩ := by
 refine ⟨hs, Nat.le_refl _, ?_⟩
 show 1 = c ^ (M / 2 ^ bl M) % N
 rw [Nat.div_eq_of_lt (bl_lt M), Nat.pow_zero, Nat.mod_eq_of_lt hN]
theorem pk_div {M k : Nat} (h : 0 < k) : M / 2 ^ (k - 1) = M / 2 ^ k + M / 2 ^ k + M / 2 ^ (k - 1) % 2 := by
 have e : M / 2 ^ k = M / 2 ^ (k - 1) / 2 := by rw [Nat.div_div_eq_div_mul, ← Nat.pow_succ]; congr 2; omega
 rw [e]; omega
theorem pk_even {N M c s : Nat} {i : PK} (I : PkI N M c s i) (h : s < i.k) (hb : M / 2 ^ (i.k - 1) % 2 = 0) : PkI N M c s ⟨i.k - 1, i.x * i.x % N⟩ := by
 refine ⟨by show s ≤ i.k - 1; omega, by have := I.l; show i.k - 1 ≤ _; omega, ?_⟩
 show i.x * i.x % N = c ^ (M / 2 ^ (i.k - 1)) % N
 rw [pk_div (show 0 < i.k by omega), hb, Nat.add_zero, Nat.pow_add, I.x, ← Nat.mul_mod]
theorem pk_odd {N M c s : Nat} {i : PK} (I : PkI N M c s i) (h : s < i.k) (hb : M / 2 ^ (i.k - 1) % 2 = 1) : PkI N M c s ⟨i.k - 1, i.x * i.x % N * c % N⟩ := by
 refine ⟨by show s ≤ i.k - 1; omega, by have := I.l; show i.k - 1 ≤ _; omega, ?_⟩
 show i.x * i.x % N * c % N = c ^ (M / 2 ^ (i.k - 1)) % N
 rw [pk_div (show 0 < i.k by omega), hb, Nat.pow_succ, Nat.pow_add, Nat.mod_mul_mod, I.x, ← Nat.mul_mod_mod, Nat.mul_mod (c ^ (M / 2 ^ i.k) % N * (c ^ (M / 2 ^ i.k) % N)), ← Nat.mul_mod (c ^ (M / 2 ^ i.k)), Nat.mod_mod, ← Nat.mul_mod]
theorem le1 {x : Int} {n : Nat} {P : Prop} : x = x ∧ (n ≤ n ∨ P) := ⟨rfl, .inl (Nat.le_refl _)⟩
theorem natmod (a b n : Nat) : (a : Int) * (b : Int) % (n : Int) = ((a * b % n : Nat) : Int) := by simp
theorem width2 {z : Int} {W : Nat} (h : 2 < z) (hf : z.natAbs < 2 ^ W) : (1 : Int).natAbs < 2 ^ W := by
 show 1 < _
 omega
def s_long : FSpec
 | [.big z W, .int .i64 b] => some (some ((2 < z ∧ z % 2 = 1) ∧ W ≤ 128 ∧ 1 ≤ b ∧ b ≤ 9223372036854775807), .ret (.bool (strongN z.toNat b.toNat)))
 | _ => none
theorem p_long : GoodF Tryd.f27 s_long := by
 intro ms p r h hp hf
 unfold s_long at h
 split at h
 ·rename_i z W b
  simp only [Option.some.injEq, Prod.mk.injEq] at h
  obtain ⟨rfl, rfl⟩ := h
  obtain ⟨⟨h2, ho⟩, hW, hb1, hb2⟩ : (2 < z ∧ z % 2 = 1) ∧ W ≤ 128 ∧ 1 ≤ b ∧ b ≤ 9223372036854775807 := hp
  simp only [factsL, MV.facts] at hf
  obtain ⟨hz, _⟩ := hf
  obtain ⟨N, rfl⟩ : ∃ n : Nat, z = n := ⟨z.toNat, by omega⟩
  obtain ⟨b', rfl⟩ : ∃ n : Nat, b = n := ⟨b.toNat, by omega⟩
  rw [Int.toNat_natCast, Int.toNat_natCast]
  have hN : N < 2 ^ 128 := Nat.lt_of_lt_of_le hz (Nat.pow_le_pow_right (by omega) hW)
  have hM0 : 0 < N - 1 := by omega
  have hMa : Int.natAbs ((N : Int) - 1) = N - 1 := by omega
  have hbl : bl (N - 1) ≤ 128 := bl_le_of (by omega)
  have hT := tz_ok (n := N - 1) hM0 (by omega)
  have eS := strongN_eq (n := N) (b := b')
  have hc : (b' : Int) % (N : Int) = ((b' % N : Nat) : Int) := by simp
  obtain ⟨M, hM⟩ : ∃ M, M = N - 1 := ⟨_, rfl⟩
  obtain ⟨s, hs⟩ : ∃ s, s = tz M := ⟨_, rfl⟩
  obtain ⟨c, hcc⟩ : ∃ c, c = b' % N := ⟨_, rfl⟩
  rw [← hM] at hM0 hMa hbl hT eS
  rw [← hs] at hT eS
  rw [← hcc] at hc eS
  have w1 := width2 h2 hz
  refine ⟨env [c_iof, c_isub, c_rest, c_sign, c_bits, c_mul, c_icmp] (a_long b' W N M c s (hitF s (1 * c ^ (M / 2 ^ s) % N) N)), ?_⟩
  rw [← vc_long N b' W N M c s (hitF s (1 * c ^ (M / 2 ^ s) % N) N) (strongN N b'), hMa, hc]
  refine ⟨by omega, by omega, ⟨⟨⟨0⟩, ⟨by show M % 2 ^ 0 = 0; rw [Nat.pow_zero, Nat.mod_one], ?_⟩, ⟨rfl, rfl, rfl, rfl, rfl, True.intro⟩, le1, le1, le1, True.intro⟩, fun i I => ?_⟩⟩
  ·show 0 < bl M
   rcases Nat.eq_zero_or_pos (bl M) with q | q
   ·have := bl_lt M; rw [q] at this; simp at this; omega
   ·exact q
  obtain ⟨i⟩ := i
  have I : LkI M i := I
  have il := I.l
  have hix := limbs_idx il
  dsimp only
  rw [ixE (by omega), imE, Int.toNat_natCast, Int.toNat_natCast, bit_val]
  refine ⟨by omega, ⟨by omega, by omega⟩, by omega, by omega, condI beq_iff_eq (fun q => ?_) (fun q => ?_)⟩
  ·have e1 : wrap i64 ((i : Int) + 1) = ((i + 1 : Nat) : Int) := by rw [i64w (by omega) (by omega)]; omega
   rw [e1]
   exact ⟨⟨i + 1⟩, lk_step I hM0 (by omega), ⟨⟨rfl, rfl, rfl, rfl, rfl, True.intro⟩, le1, le1, le1, True.intro⟩, by show bl M - (i + 1) < bl M - i; omega⟩
  ·have his : i = s := tz_uniq (lk_end I hbl (by omega)) hT
   subst his
   refine ⟨by omega, by omega, condI beq_iff_eq (fun q2 => ?_) (fun q2 => ?_)⟩
   ·have hc0 : c = 0 := by
     unfold sgn at q2
     split at q2
     ·omega
     ·split at q2 <;> omega
    exact (strongN_zero (by omega)).symm
   have hc0 : c ≠ 0 := fun e => q2 (by rw [e]; rfl)
   have eS := eS hc0 (by omega) hN
   generalize hB : hitF i (1 * c ^ (M / 2 ^ i) % N) N = B at *
   have e1 : wrap i64 ((bl M : Int) - 1) = (bl M : Int) - 1 := i64w (by omega) (by omega)
   rw [e1]
   refine ⟨by omega, ⟨⟨bl M, 1⟩, pk_start (by omega) (by omega), ⟨rfl, rfl, rfl, rfl, rfl, rfl, rfl, True.intro⟩, le1, le1, le1, le1, ⟨rfl, .inr w1⟩, True.intro⟩, fun k K => ?_⟩
   have ks := K.s
   have kl := K.l
   refine condI decide_eq_true_iff (fun q => ?_) (fun q => ?_)
   ·have ek : (k.k : Int) - 1 = ((k.k - 1 : Nat) : Int) := by omega
    have hix := limbs_idx (N := M) (c := k.k - 1) (by omega)
    rw [ek, ixE (by omega), imE, Int.toNat_natCast, Int.toNat_natCast, bit_val]
    have m1 : (k.x : Int) * (k.x : Int) % (N : Int) = ((k.x * k.x % N : Nat) : Int) := by simp
    have m2 : ((k.x * k.x % N : Nat) : Int) * (c : Int) % (N : Int) = ((k.x * k.x % N * c % N : Nat) : Int) := natmod _ _ _
    have e1 : wrap i64 (((k.k - 1 : Nat) : Int) - 1) = ((k.k - 1 : Nat) : Int) - 1 := i64w (by omega) (by omega)
    rw [m1, m2, e1]
    refine ⟨by omega, by omega, by omega, ⟨by omega, by omega⟩, by omega, by omega, condI beq_iff_eq (fun q3 => ?_) (fun q3 => ?_)⟩
    ·exact ⟨by omega, by omega, _, pk_odd K (by omega) (by omega), ⟨⟨rfl, rfl, rfl, rfl, rfl, rfl, rfl, True.intro⟩, le1, le1, le1, le1, le1, True.intro⟩, by show k.k - 1 < k.k; omega⟩
    ·exact ⟨_, pk_even K (by omega) (by omega), ⟨⟨rfl, rfl, rfl, rfl, rfl, rfl, rfl, True.intro⟩, le1, le1, le1, le1, le1, True.intro⟩, by show k.k - 1 < k.k; omega⟩
   ·have hk : k.k = i := by omega
    have hx := K.x
    rw [hk] at hx
    rw [Nat.one_mul, ← hx] at hB eS
    have hxN : k.x < N := by rw [hx]; exact Nat.mod_lt _ (by omega)
    refine ⟨by omega, condI beq_iff_eq (fun q3 => ?_) (fun q3 => ⟨⟨⟨0, k.x⟩, ⟨Nat.zero_le _, hxN, hB⟩, ⟨rfl, rfl, rfl, rfl, rfl, rfl, True.intro⟩, le1, le1, le1, le1, le1, True.intro⟩, fun j J => ?_⟩)⟩
    ·have := icmp_zero.1 q3
     rw [eS, show k.x = 1 by omega]; rfl
    ·have hne : k.x ≠ 1 := fun e => q3 (icmp_zero.2 (by omega))
     rw [beqN hne, Bool.false_or] at eS
     have jx := J.x
     have jk := J.k
     have m1 : (j.x : Int) * (j.x : Int) % (N : Int) = ((j.x * j.x % N : Nat) : Int) := by simp
     rw [m1]
     refine condI decide_eq_true_iff (fun q => ⟨by omega, condI beq_iff_eq (fun q2 => ?_) (fun q2 => ?_)⟩) (fun q => ?_)
     ·have := icmp_zero.1 q2
      rw [eS]; exact (sh_hit J (by omega) (by omega)).symm
     ·have hne : j.x ≠ N - 1 := fun e => q2 (icmp_zero.2 (by omega))
      refine ⟨by omega, by omega, _, sh_step J (by omega) hne (by omega), ⟨⟨rfl, rfl, rfl, rfl, rfl, ?_, True.intro⟩, le1, le1, le1, le1, le1, True.intro⟩, by show i - (j.k + 1) < i - j.k; omega⟩
      rw [i64w (by omega) (by omega)]; rfl
     ·rw [eS]; exact (sh_end J (by omega)).symm
 ·simp at h
def c_long : Ctr Tryd.prog := ⟨27, s_long, fun args w => Tryd.call27 args w, fn_ok_facts mix Tryd.func27 s_long p_long⟩
/-! ### Strong and Witness of the program -/
def strB (z b : Int) : Bool := if 2 < z ∧ z % 2 = 1 ∧ 1 ≤ b then strongN z.toNat b.toNat else false
def strE (z b : Int) : Int := if 2 < z ∧ z % 2 = 1 ∧ 1 ≤ b then 0 else 1
theorem oddB_iff {z : Int} : oddB z 2 = true ↔ 2 < z ∧ z % 2 = 1 := decide_eq_true_iff
def s_pstr : FSpec
 | [.big z n, .int .i64 b] => some (some (n ≤ 128 ∧ -9223372036854775808 ≤ b ∧ b ≤ 9223372036854775807), .ret (.tup [.bool (strB z b), .int .i64 (strE z b)]))
 | _ => none
theorem vc_pstr (z b : Int) (n : Nat) : (((0 : Int) ≤ (2 : Int) ∧ (2 : Int) ≤ (1000 : Int) ∧ n ≤ (1000000 : Nat)) ∧ bif !oddB z (2 : Int) then false = strB z b ∧ (1 : Int) = strE z b ∧ True else bif decide (b < (1 : Int)) then false = strB z b ∧ (1 : Int) = strE z b ∧ True else bif decide ((0 : Int) ≤ z ∧ z < (18446744073709551616 : Int)) then (((2 : Int) < (↑(Int.natAbs z) : Int) % (18446744073709551616 : Int) ∧ (↑(Int.natAbs z) : Int) % (18446744073709551616 : Int) < (18446744073709551616 : Int)) ∧ (↑(Int.natAbs z) : Int) % (18446744073709551616 : Int) % (2 : Int) = (1 : Int) ∧ (0 : Int) ≤ wrap u64 b ∧ wrap u64 b < (18446744073709551616 : Int)) ∧ strongN (Int.toNat ((↑(Int.natAbs z) : Int) % (18446744073709551616 : Int))) (Int.toNat (wrap u64 b)) = strB z b ∧ (0 : Int) = strE z b ∧ True else (((2 : Int) < z ∧ z % (2 : Int) = (1 : Int)) ∧ n ≤ (128 : Nat) ∧ (1 : Int) ≤ b ∧ b ≤ (9223372036854775807 : Int)) ∧ strongN (Int.toNat z) (Int.toNat b) = strB z b ∧ (0 : Int) = strE z b ∧ True) = evFn (env [c_podd, c_word, c_strong, c_long] noAnn) Tryd.f10 [.big z n, .int .i64 b] (MRes.sat (.ret (.tup [.bool (strB z b), .int .i64 (strE z b)]))) := by kernel_rfl
theorem p_pstr : Good Tryd.f10 s_pstr := by
 intro ms p r h hp
 unfold s_pstr at h
 split at h
 ·rename_i z n b
  simp only [Option.some.injEq, Prod.mk.injEq] at h
  obtain ⟨rfl, rfl⟩ := h
  obtain ⟨h1, h2, h3⟩ : n ≤ 128 ∧ -9223372036854775808 ≤ b ∧ b ≤ 9223372036854775807 := hp
  refine ⟨env [c_podd, c_word, c_strong, c_long] noAnn, ?_⟩
  rw [← vc_pstr z b n]
  unfold strB strE
  refine ⟨by omega, ?_⟩
  by_cases q : 2 < z ∧ z % 2 = 1
  ·rw [oddB_iff.2 q, Bool.not_true, cond_false]
   refine condI decide_eq_true_iff (fun q2 => ⟨by rw [if_neg (by omega)], by rw [if_neg (by omega)], True.intro⟩) (fun q2 => ?_)
   have hc : 2 < z ∧ z % 2 = 1 ∧ 1 ≤ b := ⟨q.1, q.2, by omega⟩
   rw [if_pos hc, if_pos hc, u64i (x := b) (by omega) (by omega)]
   refine condI decide_eq_true_iff (fun q3 => ?_) (fun q3 => ⟨⟨q, h1, by omega, h3⟩, rfl, rfl, True.intro⟩)
   have e : (z.natAbs : Int) % 18446744073709551616 = z := by omega
   rw [e]
   exact ⟨⟨⟨q.1, q3.2⟩, q.2, by omega, by omega⟩, rfl, rfl, True.intro⟩
  ·have hq : oddB z 2 = false := by
    cases hb : oddB z 2 with|true => exact absurd (oddB_iff.1 hb) q|false => rfl
   have hc : ¬ (2 < z ∧ z % 2 = 1 ∧ 1 ≤ b) := fun h => q ⟨h.1, h.2.1⟩
   rw [hq, Bool.not_false, cond_true, if_neg hc, if_neg hc]
   exact ⟨rfl, rfl, True.intro⟩
 ·simp at h
def c_pstr : Ctr Tryd.prog := ⟨10, s_pstr, fun args w => Tryd.call10 args w, fn_ok mix Tryd.func10 s_pstr p_pstr⟩
/-! ### algoristref04.Power -/
structure WiI (z : Int) (R : Nat) (i : WalkI) : Prop where
 l : i.i ≤ 199
 e : witF (199 - i.i) (2 + i.i) z.toNat = R
def a_wit4 (z : Int) (R : Nat) : Nat → MS → Option LoopAnn
 | 4, e => some (.inv WalkI (WiI z R) (fun i => ⟨23, [(1, .bp 0 0), (4, .int .i64 ((i.i : Int) + 2))], e.bx, 0⟩) (fun i => 199 - i.i))
 | _, _ => none
theorem vc_wit4 (z : Int) (n R : Nat) (T E : Int) : (((0 : Int) ≤ (9 : Int) ∧ (9 : Int) ≤ (1000 : Int) ∧ n ≤ (1000000 : Nat)) ∧ bif !oddB z (9 : Int) then (0 : Int) = T ∧ (1 : Int) = E ∧ True else (∃ i, WiI z R i ∧ ((0 : Nat) = (0 : Nat) ∧ (2 : Int) = (↑(i.1) : Int) + (2 : Int) ∧ True) ∧ (z = z ∧ (n ≤ n ∨ Int.natAbs z < (2 : Nat) ^ n)) ∧ True) ∧ ∀ (i : WalkI), WiI z R i → bif decide ((↑(i.1) : Int) + (2 : Int) ≤ (200 : Int)) then (n ≤ (128 : Nat) ∧ (-9223372036854775808 : Int) ≤ (↑(i.1) : Int) + (2 : Int) ∧ (↑(i.1) : Int) + (2 : Int) ≤ (9223372036854775807 : Int)) ∧ bif !strB z ((↑(i.1) : Int) + (2 : Int)) then (↑(i.1) : Int) + (2 : Int) = T ∧ (0 : Int) = E ∧ True else ∃ j, WiI z R j ∧ (((0 : Nat) = (0 : Nat) ∧ wrap i64 ((↑(i.1) : Int) + (2 : Int) + (1 : Int)) = (↑(j.1) : Int) + (2 : Int) ∧ True) ∧ (z = z ∧ (n ≤ n ∨ Int.natAbs z < (2 : Nat) ^ n)) ∧ True) ∧ (199 : Nat) - j.1 < (199 : Nat) - i.1 else (0 : Int) = T ∧ (6 : Int) = E ∧ True) = evFn (env [c_podd, c_pstr] (a_wit4 z R)) Tryd.f12 [.big z n] (MRes.sat (.ret (.tup [.int .i64 T, .int .i64 E]))) := by kernel_rfl
def witT (z : Int) : Int := if oddB z 9 = true then witN z.toNat else 0
def witE (z : Int) : Int := if oddB z 9 = true then (if witN z.toNat = 0 then 6 else 0) else 1
theorem odd9 {z : Int} (h : oddB z 9 = true) : 9 < z ∧ z % 2 = 1 := of_decide_eq_true h
theorem strB_odd {z b : Int} (h : oddB z 9 = true) (hb : 1 ≤ b) : strB z b = strongN z.toNat b.toNat := by
 have := odd9 h
 unfold strB
 rw [if_pos ⟨by omega, this.2, hb⟩]
theorem wit_step {i R N : Nat} (hi : i < 199) (h : witF (199 - i) (2 + i) N = R) : (strongN N (2 + i) = true → witF (199 - (i + 1)) (2 + (i + 1)) N = R) ∧ (strongN N (2 + i) = false → R = 2 + i) := by
 rw [show 199 - i = (199 - (i + 1)) + 1 by omega, witF] at h
 constructor
 ·intro q
  rw [q, cond_true] at h
  exact h
 ·intro q
  rw [q, cond_false] at h
  exact h.symm
set_option maxRecDepth 100000 in
theorem wit_ok (z : Int) (n R : Nat) (hn : n ≤ 128) (hR : R = witN z.toNat) {X : Nat → Prop} (hX : ∀ i, X i) :
  bif !oddB z 9 then (0 : Int) = witT z ∧ (1 : Int) = witE z ∧ True else
   WiI z R ⟨0⟩ ∧ ∀ i : WalkI, WiI z R i →
    bif decide ((i.i : Int) + 2 ≤ 200) then (n ≤ 128 ∧ (-9223372036854775808 : Int) ≤ (i.i : Int) + 2 ∧ (i.i : Int) + 2 ≤ 9223372036854775807) ∧ (bif !strB z ((i.i : Int) + 2) then (i.i : Int) + 2 = witT z ∧ (0 : Int) = witE z ∧ True else
     ∃ j : WalkI, WiI z R j ∧ wrap i64 ((i.i : Int) + 2 + 1) = (j.i : Int) + 2 ∧ X j.i ∧ 199 - j.i < 199 - i.i) else (0 : Int) = witT z ∧ (6 : Int) = witE z ∧ True := by
 unfold witT witE
 by_cases h9 : oddB z 9 = true
 ·rw [h9, Bool.not_true, cond_false, if_pos rfl, if_pos rfl]
  refine ⟨⟨Nat.zero_le _, by rw [hR]; unfold witN; rfl⟩, fun i hi => ?_⟩
  have h1 := hi.l
  have h2 := hi.e
  obtain ⟨i⟩ := i
  dsimp only at h1 h2 ⊢
  refine condI decide_eq_true_iff (fun q => ⟨by omega, ?_⟩) (fun q => ?_)
  ·obtain ⟨s1, s2⟩ := wit_step (by omega) h2
   have e : strB z ((i : Int) + 2) = strongN z.toNat (2 + i) := by
    rw [strB_odd h9 (by omega)]
    congr 1
    omega
   rw [e]
   cases hc : strongN z.toNat (2 + i) with
   | true =>
    rw [Bool.not_true, cond_false, i64w (by omega) (by omega)]
    exact ⟨⟨i + 1⟩, ⟨by show i + 1 ≤ 199; omega, s1 hc⟩, by show (i : Int) + 2 + 1 = ((i + 1 : Nat) : Int) + 2; omega, hX _, by show 199 - (i + 1) < 199 - i; omega⟩
   | false =>
    have := s2 hc
    rw [Bool.not_false, cond_true, ← hR, if_neg (by omega)]
    exact ⟨by omega, rfl, True.intro⟩
  ·rw [show 199 - i = 0 by omega, witF] at h2
   rw [← hR, if_pos h2.symm]
   exact ⟨by omega, rfl, True.intro⟩
 ·have h9 : oddB z 9 = false := by simpa using h9
  rw [h9, Bool.not_false, cond_true, if_neg (by simp), if_neg (by simp)]
  exact ⟨rfl, rfl, True.intro⟩
def s_wit4 : FSpec
 | [.big z n] => some (some (n ≤ 128), .ret (.tup [.int .i64 (witT z), .int .i64 (witE z)]))
 | _ => none
set_option maxRecDepth 100000 in
theorem p_wit4 : Good Tryd.f12 s_wit4 := by
 intro ms p r h hp
 unfold s_wit4 at h
 split at h
 ·rename_i z n
  simp only [Option.some.injEq, Prod.mk.injEq] at h
  obtain ⟨rfl, rfl⟩ := h
  have hn : n ≤ 128 := hp
  refine ⟨env [c_podd, c_pstr] (a_wit4 z (witN z.toNat)), ?_⟩
  rw [← vc_wit4 z n (witN z.toNat) (witT z) (witE z)]
  have h := wit_ok z n (witN z.toNat) hn rfl (X := fun _ => True) (fun _ => True.intro)
  refine ⟨by omega, ?_⟩
  cases hq : oddB z 9 with
  | false => rw [hq] at h; exact h
  | true =>
   rw [hq] at h
   obtain ⟨h1, h2⟩ := h
   refine ⟨⟨⟨0⟩, h1, ⟨rfl, rfl, True.intro⟩, le1, True.intro⟩, fun i hi => ?_⟩
   have h3 := h2 i hi
   cases hd : decide ((i.i : Int) + 2 ≤ 200) with
   | false => rw [hd] at h3; exact h3
   | true =>
    rw [hd] at h3
    obtain ⟨h4, h5⟩ := h3
    refine ⟨h4, ?_⟩
    cases hs : strB z ((i.i : Int) + 2) with
    | false => rw [hs] at h5; exact h5
    | true =>
     rw [hs] at h5
     obtain ⟨j, j1, j2, _, j3⟩ := h5
     exact ⟨j, j1, ⟨⟨rfl, j2, True.intro⟩, le1, True.intro⟩, j3⟩
 ·simp at h
def c_wit4 : Ctr Tryd.prog := ⟨12, s_wit4, fun args w => Tryd.call12 args w, fn_ok mix Tryd.func12 s_wit4 p_wit4⟩
/-! ### algoristref04.Strong -/
end Go.Proofs.YtmjklcpdfmgcaaaDoor
