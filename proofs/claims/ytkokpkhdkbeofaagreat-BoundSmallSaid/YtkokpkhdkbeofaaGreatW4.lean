/-
  Contracts of functions: package rational.
-/
import Derived.Test.YtkokpkhdkbeofaaGreatW3


/-
  Contracts of functions: division of integers, common divisors.
-/
namespace Go.Proofs.YtkokpkhdkbeofaaGreat
open Go Go.RowKit

/-! ### integer.DivMod, mod, Gcd, Bezout -/
def s_divmod : FSpec
  | [.big a n, .big b m] => some (some (n ≤ 900000 ∧ m ≤ 900000), .br (decide (b = 0)) (.ret (.tup [.big 0 0, .big 0 0, .int .i64 4])) (.ret (.tup [.big (a / b) n, .big (a % b) m, .int .i64 0])))
  | _ => none
theorem vc_divmod (a b : Int) (n m : Nat) : (bif (↑(List.length (limbs (Int.natAbs b))) : Int) == (0 : Int) then bif decide (b = (0 : Int)) then ((0 : Int) = (0 : Int) ∧ ((0 : Nat) ≤ (0 : Nat) ∨ Int.natAbs (0 : Int) < (2 : Nat) ^ (0 : Nat))) ∧ ((0 : Int) = (0 : Int) ∧ ((0 : Nat) ≤ (0 : Nat) ∨ Int.natAbs (0 : Int) < (2 : Nat) ^ (0 : Nat))) ∧ (4 : Int) = (4 : Int) ∧ True else ((0 : Int) = a / b ∧ ((0 : Nat) ≤ n ∨ Int.natAbs (0 : Int) < (2 : Nat) ^ n)) ∧ ((0 : Int) = a % b ∧ ((0 : Nat) ≤ m ∨ Int.natAbs (0 : Int) < (2 : Nat) ^ m)) ∧ (4 : Int) = (0 : Int) ∧ True else (limbs (Int.toNat (wv (limbs (Int.natAbs a)))) = limbs (Int.natAbs a) ∧ limbs (Int.toNat (wv (limbs (Int.natAbs b)))) = limbs (Int.natAbs b) ∧ (limbs (Int.natAbs b) = [] → False) ∧ List.length (limbs (Int.natAbs a)) ≤ (1000000 : Nat) ∧ List.length (limbs (Int.natAbs b)) ≤ (1000000 : Nat)) ∧ ((∀ (x : Int), x ∈ limbs (Int.toNat (wv (limbs (Int.natAbs a)) / wv (limbs (Int.natAbs b)))) → (0 : Int) ≤ x ∧ x < (4294967296 : Int)) ∧ List.length (limbs (Int.toNat (wv (limbs (Int.natAbs a)) / wv (limbs (Int.natAbs b))))) ≤ (1000000000 : Nat)) ∧ ((∀ (x : Int), x ∈ limbs (Int.toNat (wv (limbs (Int.natAbs a)) % wv (limbs (Int.natAbs b)))) → (0 : Int) ≤ x ∧ x < (4294967296 : Int)) ∧ List.length (limbs (Int.toNat (wv (limbs (Int.natAbs a)) % wv (limbs (Int.natAbs b))))) ≤ (1000000000 : Nat)) ∧ bif decide (sg (decide (a < (0 : Int))) (wv (limbs (Int.toNat (wv (limbs (Int.natAbs a)) % wv (limbs (Int.natAbs b)))))) < (0 : Int)) then m ≤ (1000000 : Nat) ∧ ((32 : Nat) * List.length (limbs (Int.toNat (wv (limbs (Int.natAbs a)) % wv (limbs (Int.natAbs b))))) ≤ (1000000 : Nat) ∧ m ≤ (1000000 : Nat)) ∧ ((-9223372036854775808 : Int) ≤ sgn b ∧ sgn b ≤ (9223372036854775807 : Int)) ∧ ((32 : Nat) * List.length (limbs (Int.toNat (wv (limbs (Int.natAbs a)) / wv (limbs (Int.natAbs b))))) ≤ (1000000 : Nat) ∧ (64 : Nat) ≤ (1000000 : Nat)) ∧ bif decide (b = (0 : Int)) then (sg (!decide (a < (0 : Int)) == decide (b < (0 : Int))) (wv (limbs (Int.toNat (wv (limbs (Int.natAbs a)) / wv (limbs (Int.natAbs b)))))) - sgn b = (0 : Int) ∧ (max ((32 : Nat) * List.length (limbs (Int.toNat (wv (limbs (Int.natAbs a)) / wv (limbs (Int.natAbs b)))))) (64 : Nat) + (1 : Nat) ≤ (0 : Nat) ∨ Int.natAbs (sg (!decide (a < (0 : Int)) == decide (b < (0 : Int))) (wv (limbs (Int.toNat (wv (limbs (Int.natAbs a)) / wv (limbs (Int.natAbs b)))))) - sgn b) < (2 : Nat) ^ (0 : Nat))) ∧ (sg (decide (a < (0 : Int))) (wv (limbs (Int.toNat (wv (limbs (Int.natAbs a)) % wv (limbs (Int.natAbs b)))))) + (↑(Int.natAbs b) : Int) = (0 : Int) ∧ (max ((32 : Nat) * List.length (limbs (Int.toNat (wv (limbs (Int.natAbs a)) % wv (limbs (Int.natAbs b)))))) m + (1 : Nat) ≤ (0 : Nat) ∨ Int.natAbs (sg (decide (a < (0 : Int))) (wv (limbs (Int.toNat (wv (limbs (Int.natAbs a)) % wv (limbs (Int.natAbs b)))))) + (↑(Int.natAbs b) : Int)) < (2 : Nat) ^ (0 : Nat))) ∧ (0 : Int) = (4 : Int) ∧ True else (sg (!decide (a < (0 : Int)) == decide (b < (0 : Int))) (wv (limbs (Int.toNat (wv (limbs (Int.natAbs a)) / wv (limbs (Int.natAbs b)))))) - sgn b = a / b ∧ (max ((32 : Nat) * List.length (limbs (Int.toNat (wv (limbs (Int.natAbs a)) / wv (limbs (Int.natAbs b)))))) (64 : Nat) + (1 : Nat) ≤ n ∨ Int.natAbs (sg (!decide (a < (0 : Int)) == decide (b < (0 : Int))) (wv (limbs (Int.toNat (wv (limbs (Int.natAbs a)) / wv (limbs (Int.natAbs b)))))) - sgn b) < (2 : Nat) ^ n)) ∧ (sg (decide (a < (0 : Int))) (wv (limbs (Int.toNat (wv (limbs (Int.natAbs a)) % wv (limbs (Int.natAbs b)))))) + (↑(Int.natAbs b) : Int) = a % b ∧ (max ((32 : Nat) * List.length (limbs (Int.toNat (wv (limbs (Int.natAbs a)) % wv (limbs (Int.natAbs b)))))) m + (1 : Nat) ≤ m ∨ Int.natAbs (sg (decide (a < (0 : Int))) (wv (limbs (Int.toNat (wv (limbs (Int.natAbs a)) % wv (limbs (Int.natAbs b)))))) + (↑(Int.natAbs b) : Int)) < (2 : Nat) ^ m)) ∧ (0 : Int) = (0 : Int) ∧ True else bif decide (b = (0 : Int)) then (sg (!decide (a < (0 : Int)) == decide (b < (0 : Int))) (wv (limbs (Int.toNat (wv (limbs (Int.natAbs a)) / wv (limbs (Int.natAbs b)))))) = (0 : Int) ∧ ((32 : Nat) * List.length (limbs (Int.toNat (wv (limbs (Int.natAbs a)) / wv (limbs (Int.natAbs b))))) ≤ (0 : Nat) ∨ Int.natAbs (sg (!decide (a < (0 : Int)) == decide (b < (0 : Int))) (wv (limbs (Int.toNat (wv (limbs (Int.natAbs a)) / wv (limbs (Int.natAbs b))))))) < (2 : Nat) ^ (0 : Nat))) ∧ (sg (decide (a < (0 : Int))) (wv (limbs (Int.toNat (wv (limbs (Int.natAbs a)) % wv (limbs (Int.natAbs b)))))) = (0 : Int) ∧ ((32 : Nat) * List.length (limbs (Int.toNat (wv (limbs (Int.natAbs a)) % wv (limbs (Int.natAbs b))))) ≤ (0 : Nat) ∨ Int.natAbs (sg (decide (a < (0 : Int))) (wv (limbs (Int.toNat (wv (limbs (Int.natAbs a)) % wv (limbs (Int.natAbs b))))))) < (2 : Nat) ^ (0 : Nat))) ∧ (0 : Int) = (4 : Int) ∧ True else (sg (!decide (a < (0 : Int)) == decide (b < (0 : Int))) (wv (limbs (Int.toNat (wv (limbs (Int.natAbs a)) / wv (limbs (Int.natAbs b)))))) = a / b ∧ ((32 : Nat) * List.length (limbs (Int.toNat (wv (limbs (Int.natAbs a)) / wv (limbs (Int.natAbs b))))) ≤ n ∨ Int.natAbs (sg (!decide (a < (0 : Int)) == decide (b < (0 : Int))) (wv (limbs (Int.toNat (wv (limbs (Int.natAbs a)) / wv (limbs (Int.natAbs b))))))) < (2 : Nat) ^ n)) ∧ (sg (decide (a < (0 : Int))) (wv (limbs (Int.toNat (wv (limbs (Int.natAbs a)) % wv (limbs (Int.natAbs b)))))) = a % b ∧ ((32 : Nat) * List.length (limbs (Int.toNat (wv (limbs (Int.natAbs a)) % wv (limbs (Int.natAbs b))))) ≤ m ∨ Int.natAbs (sg (decide (a < (0 : Int))) (wv (limbs (Int.toNat (wv (limbs (Int.natAbs a)) % wv (limbs (Int.natAbs b))))))) < (2 : Nat) ^ m)) ∧ (0 : Int) = (0 : Int) ∧ True) = evFn (env [c_ndiv, c_of, c_iadd, c_isub, c_abs, c_sign, c_iof] noAnn) Tryz.f115 [.big a n, .big b m] (MRes.sat (.br (decide (b = 0)) (.ret (.tup [.big 0 0, .big 0 0, .int .i64 4])) (.ret (.tup [.big (a / b) n, .big (a % b) m, .int .i64 0])))) := by kernel_rfl

theorem divmod_unique {a b q r : Int} (h : b * q + r = a) (h0 : 0 ≤ r) (h1 : r < (b.natAbs : Int)) : a / b = q ∧ a % b = r := by
  have e : a % b = r := by
    rw [← h, Int.mul_add_emod_self_left]
    rcases Int.lt_or_le b 0 with hb | hb
    · rw [← Int.emod_neg, Int.emod_eq_of_lt h0 (by omega)]
    · rw [Int.emod_eq_of_lt h0 (by omega)]
  refine ⟨?_, e⟩
  have h2 := Int.mul_ediv_add_emod a b
  rw [e] at h2
  have h3 : b * (a / b) = b * q := by omega
  exact Int.eq_of_mul_eq_mul_left (by omega) h3

/-- Quotient and remainder from those of the sizes. -/
theorem divmod_signs (a b : Int) (hb : b ≠ 0) {x y : Nat} (hx : x = a.natAbs / b.natAbs) (hy : y = a.natAbs % b.natAbs) :
    (sg (decide (a < 0)) (y : Int) < 0 → sg (decide (a < 0)) (y : Int) + (b.natAbs : Int) = a % b ∧ sg (!(decide (a < 0) == decide (b < 0))) (x : Int) - sgn b = a / b) ∧
    (¬ sg (decide (a < 0)) (y : Int) < 0 → sg (decide (a < 0)) (y : Int) = a % b ∧ sg (!(decide (a < 0) == decide (b < 0))) (x : Int) = a / b) := by
  have hm : b.natAbs * x + y = a.natAbs := by rw [hx, hy]; exact Nat.div_add_mod ..
  have hlt : y < b.natAbs := by rw [hy]; exact Nat.mod_lt _ (by omega)
  clear hx hy
  have hm' : (b.natAbs : Int) * (x : Int) + (y : Int) = (a.natAbs : Int) := by rw [← hm]; simp
  have uniq : ∀ q r : Int, b * q + r = a → 0 ≤ r → r < (b.natAbs : Int) → r = a % b ∧ q = a / b := fun q r h h0 h1 => by
    have := divmod_unique h h0 h1
    exact ⟨this.2.symm, this.1.symm⟩
  rcases Int.lt_or_le a 0 with q1 | q1 <;> rcases Int.lt_or_le b 0 with q2 | q2
  · rw [show decide (a < 0) = true from decide_eq_true q1, show decide (b < 0) = true from decide_eq_true q2]
    have e1 : (b.natAbs : Int) = -b := by omega
    have e2 : (a.natAbs : Int) = -a := by omega
    have e3 : sgn b = -1 := by unfold sgn; rw [if_neg hb, if_pos q2]
    rw [e1, e2, Int.neg_mul] at hm'
    refine ⟨fun h => ?_, fun h => ?_⟩
    · show -(y : Int) + _ = _ ∧ (x : Int) - sgn b = _
      rw [e3]
      refine uniq _ _ ?_ (by omega) (by have : -(y : Int) < 0 := h; omega)
      rw [Int.mul_sub, e1]; omega
    · have h : ¬ -(y : Int) < 0 := h
      show -(y : Int) = _ ∧ (x : Int) = _
      exact uniq _ _ (by omega) (by omega) (by omega)
  · rw [show decide (a < 0) = true from decide_eq_true q1, show decide (b < 0) = false from decide_eq_false (by omega)]
    have e1 : (b.natAbs : Int) = b := by omega
    have e2 : (a.natAbs : Int) = -a := by omega
    have e3 : sgn b = 1 := by unfold sgn; rw [if_neg hb, if_neg (by omega)]
    rw [e1, e2] at hm'
    refine ⟨fun h => ?_, fun h => ?_⟩
    · show -(y : Int) + _ = _ ∧ -(x : Int) - sgn b = _
      rw [e3]
      refine uniq _ _ ?_ (by omega) (by have : -(y : Int) < 0 := h; omega)
      rw [Int.mul_sub, Int.mul_neg, e1]; omega
    · have h : ¬ -(y : Int) < 0 := h
      show -(y : Int) = _ ∧ -(x : Int) = _
      exact uniq _ _ (by rw [Int.mul_neg]; omega) (by omega) (by omega)
  · rw [show decide (a < 0) = false from decide_eq_false (by omega), show decide (b < 0) = true from decide_eq_true q2]
    have e1 : (b.natAbs : Int) = -b := by omega
    have e2 : (a.natAbs : Int) = a := by omega
    rw [e1, e2, Int.neg_mul] at hm'
    refine ⟨fun h => ?_, fun h => ?_⟩
    · have h : (y : Int) < 0 := h
      omega
    · show (y : Int) = _ ∧ -(x : Int) = _
      exact uniq _ _ (by rw [Int.mul_neg]; omega) (by omega) (by omega)
  · rw [show decide (a < 0) = false from decide_eq_false (by omega), show decide (b < 0) = false from decide_eq_false (by omega)]
    have e1 : (b.natAbs : Int) = b := by omega
    have e2 : (a.natAbs : Int) = a := by omega
    rw [e1, e2] at hm'
    refine ⟨fun h => ?_, fun h => ?_⟩
    · have h : (y : Int) < 0 := h
      omega
    · show (y : Int) = _ ∧ (x : Int) = _
      exact uniq _ _ (by omega) (by omega) (by omega)

theorem natAbs_ediv (a b : Int) : (a / b).natAbs ≤ a.natAbs := Int.natAbs_ediv_le_natAbs a b
theorem natAbs_emod {a b : Int} (hb : b ≠ 0) : (a % b).natAbs < b.natAbs := by
  have h1 := Int.emod_nonneg a hb
  have h2 := Int.emod_lt a hb
  omega

theorem p_divmod : GoodF Tryz.f115 s_divmod := by
  intro ms p r h hp hf
  unfold s_divmod at h
  split at h
  · rename_i a n b m
    simp only [Option.some.injEq, Prod.mk.injEq] at h
    obtain ⟨rfl, rfl⟩ := h
    obtain ⟨hn, hm⟩ : n ≤ 900000 ∧ m ≤ 900000 := hp
    have ha : a.natAbs < 2 ^ n := hf.1
    have hb : b.natAbs < 2 ^ m := hf.2.1
    refine ⟨env [c_ndiv, c_of, c_iadd, c_isub, c_abs, c_sign, c_iof] noAnn, ?_⟩
    rw [← vc_divmod a b n m]
    have l1 := limbs_len_bits ha
    have l2 := limbs_len_bits hb
    by_cases hz : b = 0
    · subst hz
      have e : ((((limbs (0 : Int).natAbs).length : Nat) : Int) == 0) = true := by rw [show (0 : Int).natAbs = 0 from rfl, limbs_zero]; rfl
      rw [e, cond_true, show decide ((0 : Int) = 0) = true from rfl, cond_true]
      exact ⟨⟨rfl, .inl (Nat.le_refl _)⟩, ⟨rfl, .inl (Nat.le_refl _)⟩, rfl, True.intro⟩
    · have hne : limbs b.natAbs ≠ [] := fun e => hz (by have := limbs_eq_nil.1 e; omega)
      have e : ((((limbs b.natAbs).length : Nat) : Int) == 0) = false := by
        have : (limbs b.natAbs).length ≠ 0 := fun e => hne (List.eq_nil_of_length_eq_zero e)
        simpa using this
      have ed : ((a.natAbs : Int) / (b.natAbs : Int)).toNat = a.natAbs / b.natAbs := by rw [← Int.natCast_ediv, Int.toNat_natCast]
      have em : ((a.natAbs : Int) % (b.natAbs : Int)).toNat = a.natAbs % b.natAbs := by rw [← Int.natCast_emod, Int.toNat_natCast]
      simp only [e, cond_false, wvl, ed, em, Int.toNat_natCast, show decide (b = 0) = false from decide_eq_false hz]
      obtain ⟨k1, k2⟩ := divmod_signs a b hz rfl rfl
      have hq : (a / b).natAbs < 2 ^ n := Nat.lt_of_le_of_lt (natAbs_ediv a b) ha
      have hr : (a % b).natAbs < 2 ^ m := Nat.lt_of_lt_of_le (natAbs_emod hz) (by omega)
      have hx : a.natAbs / b.natAbs < 2 ^ n := Nat.lt_of_le_of_lt (Nat.div_le_self ..) ha
      have hy : a.natAbs % b.natAbs < 2 ^ m := Nat.lt_of_lt_of_le (Nat.mod_lt _ (by omega)) (by omega)
      have l3 := limbs_len_bits hx
      have l4 := limbs_len_bits hy
      have hs : -1 ≤ sgn b ∧ sgn b ≤ 1 := by unfold sgn; (repeat' split) <;> omega
      refine ⟨⟨True.intro, True.intro, fun e => hne e, by omega, by omega⟩, ⟨limbs_wd _, by omega⟩, ⟨limbs_wd _, by omega⟩, ?_⟩
      rw [Bool.cond_decide]
      split
      · rename_i hc
        obtain ⟨k3, k4⟩ := k1 hc
        rw [k3, k4]
        exact ⟨by omega, by omega, by omega, by omega, ⟨rfl, .inr hq⟩, ⟨rfl, .inr hr⟩, (by and_intros <;> first | exact True.intro | rfl | omega)⟩
      · rename_i hc
        obtain ⟨k3, k4⟩ := k2 hc
        rw [k3, k4]
        exact ⟨⟨rfl, .inr hq⟩, ⟨rfl, .inr hr⟩, (by and_intros <;> first | exact True.intro | rfl | omega)⟩
  · simp at h
def c_divmod : Ctr Tryz.prog := ⟨115, s_divmod, fun args w => Tryz.call115 args w, fn_ok_facts mix Tryz.func115 s_divmod p_divmod⟩

/-- A contract that says less. -/
def Ctr.weaken {P : Program} (c : Ctr P) (spec : FSpec) (h : ∀ ms p r, spec ms = some (p, r) → p.holds → ∃ p' r', c.spec ms = some (p', r') ∧ p'.holds ∧ ∀ ct w e, r'.holds ct w e → r.holds ct w e) : Ctr P :=
  ⟨c.f, spec, c.call, fun S w ms args p r hs hp hS hG ha => by
    obtain ⟨p', r', h1, h2, h3⟩ := h ms p r hs hp
    exact (c.ok S w ms args p' r' h1 h2 hS hG ha).mono fun e w' ⟨q1, q2⟩ => ⟨q1, h3 _ _ _ q2⟩⟩

/-- Division by a number that is not 0. -/
def s_divmod1 : FSpec
  | [.big a n, .big b m] => some (some (n ≤ 900000 ∧ m ≤ 900000 ∧ b ≠ 0), .ret (.tup [.big (a / b) n, .big (a % b) m, .int .i64 0]))
  | _ => none
theorem w_divmod1 : ∀ ms p r, s_divmod1 ms = some (p, r) → p.holds → ∃ p' r', c_divmod.spec ms = some (p', r') ∧ p'.holds ∧ ∀ ct w e, r'.holds ct w e → r.holds ct w e := by
  intro ms p r h hp
  unfold s_divmod1 at h
  split at h
  · rename_i a n b m
    simp only [Option.some.injEq, Prod.mk.injEq] at h
    obtain ⟨rfl, rfl⟩ := h
    obtain ⟨h1, h2, h3⟩ : n ≤ 900000 ∧ m ≤ 900000 ∧ b ≠ 0 := hp
    refine ⟨_, _, rfl, ⟨h1, h2⟩, fun ct w e he => ?_⟩
    rw [show decide (b = 0) = false from decide_eq_false h3] at he
    exact he
  · simp at h
def c_divmod1 : Ctr Tryz.prog := c_divmod.weaken s_divmod1 w_divmod1

def s_imod : FSpec
  | [.big a n, .big b m] => some (some (n ≤ 900000 ∧ m ≤ 900000 ∧ b ≠ 0), .ret (.big (a % b) m))
  | _ => none
theorem vc_imod (a b : Int) (n m : Nat) : ((n ≤ (900000 : Nat) ∧ m ≤ (900000 : Nat)) ∧ bif decide (b = (0 : Int)) then (0 : Int) = a % b ∧ ((0 : Nat) ≤ m ∨ Int.natAbs (0 : Int) < (2 : Nat) ^ m) else a % b = a % b ∧ (m ≤ m ∨ Int.natAbs (a % b) < (2 : Nat) ^ m)) = evFn (env [c_divmod] noAnn) Tryz.f136 [.big a n, .big b m] (MRes.sat (.ret (.big (a % b) m))) := by kernel_rfl

theorem p_imod : Good Tryz.f136 s_imod := by
  intro ms p r h hp
  unfold s_imod at h
  split at h
  · rename_i a n b m
    simp only [Option.some.injEq, Prod.mk.injEq] at h
    obtain ⟨rfl, rfl⟩ := h
    obtain ⟨hn, hm, hb⟩ : n ≤ 900000 ∧ m ≤ 900000 ∧ b ≠ 0 := hp
    refine ⟨env [c_divmod] noAnn, ?_⟩
    rw [← vc_imod a b n m, show decide (b = 0) = false from decide_eq_false hb]
    exact ⟨⟨hn, hm⟩, rfl, .inl (Nat.le_refl _)⟩
  · simp at h
def c_imod : Ctr Tryz.prog := ⟨136, s_imod, fun args w => Tryz.call136 args w, fn_ok mix Tryz.func136 s_imod p_imod⟩

/-! ### integer.Gcd -/
structure GcS where
  x : Int
  y : Int
structure GcI (a b : Int) (N : Nat) (s : GcS) : Prop where
  g : Int.gcd s.x s.y = Int.gcd a b
  hx : s.x.natAbs < 2 ^ N
  hy : s.y.natAbs < 2 ^ N
def a_igcd (a b : Int) (N : Nat) : Nat → MS → Option LoopAnn
  | 1, _ => some (.inv GcS (GcI a b N) (fun s => ⟨15, [(2, .bp 0 0), (3, .bp 1 0), (4, .bp 2 0)], [⟨false, .one (.big s.x N)⟩, ⟨false, .one (.big s.y N)⟩, ⟨false, .one (.big 0 0)⟩], 0⟩) (fun s => s.y.natAbs))
  | _, _ => none
def s_igcd : FSpec
  | [.big a n, .big b m] => some (some (n ≤ 900000 ∧ m ≤ 900000), .ret (.big (Int.gcd a b) (max n m)))
  | _ => none
theorem vc_igcd (a b : Int) (n m : Nat) : ((∃ i, GcI a b (max n m) i ∧ ((0 : Nat) = (0 : Nat) ∧ (0 : Nat) = (0 : Nat) ∧ (0 : Nat) = (0 : Nat) ∧ True) ∧ (a = GcS.x i ∧ (n ≤ max n m ∨ Int.natAbs a < (2 : Nat) ^ max n m)) ∧ (b = GcS.y i ∧ (m ≤ max n m ∨ Int.natAbs b < (2 : Nat) ^ max n m)) ∧ ((0 : Int) = (0 : Int) ∧ ((0 : Nat) ≤ (0 : Nat) ∨ Int.natAbs (0 : Int) < (2 : Nat) ^ (0 : Nat))) ∧ True) ∧ ∀ (i : GcS), GcI a b (max n m) i → bif decide ((↑(List.length (limbs (Int.natAbs (GcS.y i)))) : Int) > (0 : Int)) then (max n m ≤ (900000 : Nat) ∧ max n m ≤ (900000 : Nat) ∧ (GcS.y i = (0 : Int) → False)) ∧ ∃ j, GcI a b (max n m) j ∧ (((0 : Nat) = (0 : Nat) ∧ (0 : Nat) = (0 : Nat) ∧ (0 : Nat) = (0 : Nat) ∧ True) ∧ (GcS.y i = GcS.x j ∧ (max n m ≤ max n m ∨ Int.natAbs (GcS.y i) < (2 : Nat) ^ max n m)) ∧ (GcS.x i % GcS.y i = GcS.y j ∧ (max n m ≤ max n m ∨ Int.natAbs (GcS.x i % GcS.y i) < (2 : Nat) ^ max n m)) ∧ ((0 : Int) = (0 : Int) ∧ ((0 : Nat) ≤ (0 : Nat) ∨ Int.natAbs (0 : Int) < (2 : Nat) ^ (0 : Nat))) ∧ True) ∧ Int.natAbs (GcS.y j) < Int.natAbs (GcS.y i) else max n m ≤ (1000000 : Nat) ∧ (↑(Int.natAbs (GcS.x i)) : Int) = (↑(Int.gcd a b) : Int) ∧ (max n m ≤ max n m ∨ Int.natAbs (↑(Int.natAbs (GcS.x i)) : Int) < (2 : Nat) ^ max n m)) = evFn (env [c_imod, c_abs] (a_igcd a b (max n m))) Tryz.f119 [.big a n, .big b m] (MRes.sat (.ret (.big (Int.gcd a b) (max n m)))) := by kernel_rfl

theorem len_pos_iff (z : Int) : decide ((((limbs z.natAbs).length : Nat) : Int) > 0) = decide (z ≠ 0) := by
  by_cases h : z = 0
  · subst h; rw [show (0 : Int).natAbs = 0 from rfl, limbs_zero]; rfl
  · have : (limbs z.natAbs).length ≠ 0 := fun e => h (by have := limbs_eq_nil.1 (List.eq_nil_of_length_eq_zero e); omega)
    rw [decide_eq_true (by omega), decide_eq_true h]
theorem len_zero_iff (z : Int) : ((((limbs z.natAbs).length : Nat) : Int) == 0) = decide (z = 0) := by
  by_cases h : z = 0
  · subst h; rw [show (0 : Int).natAbs = 0 from rfl, limbs_zero]; rfl
  · have : (limbs z.natAbs).length ≠ 0 := fun e => h (by have := limbs_eq_nil.1 (List.eq_nil_of_length_eq_zero e); omega)
    rw [decide_eq_false h]
    simpa using this

theorem gcd_step (x y : Int) : Int.gcd y (x % y) = Int.gcd x y := by
  rw [Int.emod_def, Int.gcd_sub_mul_left_right, Int.gcd_comm]

theorem gcd_lt {a b : Int} {n m : Nat} (ha : a.natAbs < 2 ^ n) (hb : b.natAbs < 2 ^ m) : (Int.gcd a b) < 2 ^ max n m := by
  have h1 : 2 ^ n ≤ 2 ^ max n m := Nat.pow_le_pow_right (by omega) (by omega)
  have h2 : 2 ^ m ≤ 2 ^ max n m := Nat.pow_le_pow_right (by omega) (by omega)
  by_cases h : a = 0
  · subst h; rw [Int.gcd_zero_left]; omega
  · have := Nat.le_of_dvd (by omega) (Int.gcd_dvd_natAbs_left a b)
    omega

theorem p_igcd : GoodF Tryz.f119 s_igcd := by
  intro ms p r h hp hf
  unfold s_igcd at h
  split at h
  · rename_i a n b m
    simp only [Option.some.injEq, Prod.mk.injEq] at h
    obtain ⟨rfl, rfl⟩ := h
    obtain ⟨hn, hm⟩ : n ≤ 900000 ∧ m ≤ 900000 := hp
    have ha : a.natAbs < 2 ^ n := hf.1
    have hb : b.natAbs < 2 ^ m := hf.2.1
    have h1 : 2 ^ n ≤ 2 ^ max n m := Nat.pow_le_pow_right (by omega) (by omega)
    have h2 : 2 ^ m ≤ 2 ^ max n m := Nat.pow_le_pow_right (by omega) (by omega)
    have hM : max n m ≤ 900000 := by omega
    refine ⟨env [c_imod, c_abs] (a_igcd a b (max n m)), ?_⟩
    rw [← vc_igcd a b n m]
    refine ⟨⟨⟨a, b⟩, ⟨rfl, by show a.natAbs < _; omega, by show b.natAbs < _; omega⟩, (by and_intros <;> first | exact True.intro | rfl | omega), ⟨rfl, .inl (by omega)⟩, ⟨rfl, .inl (by omega)⟩, ⟨rfl, .inl (Nat.le_refl _)⟩, True.intro⟩, ?_⟩
    rintro ⟨x, y⟩ ⟨hg, hx, hy⟩
    rw [len_pos_iff, Bool.cond_decide]
    split
    · rename_i hne
      have hne : y ≠ 0 := hne
      have hl := natAbs_emod (a := x) hne
      have hy : y.natAbs < 2 ^ max n m := hy
      refine ⟨⟨hM, hM, hne⟩, ⟨y, x % y⟩, ⟨by rw [← hg]; exact gcd_step x y, hy, by show (x % y).natAbs < _; omega⟩, ⟨(by and_intros <;> first | exact True.intro | rfl | omega), ⟨rfl, .inl (Nat.le_refl _)⟩, ⟨rfl, .inl (Nat.le_refl _)⟩, ⟨rfl, .inl (Nat.le_refl _)⟩, True.intro⟩, hl⟩
    · rename_i hne
      have hz : y = 0 := by
        by_cases e : y = 0
        · exact e
        · exact absurd e hne
      subst hz
      refine ⟨by omega, ?_, .inl (Nat.le_refl _)⟩
      have hg : Int.gcd x 0 = Int.gcd a b := hg
      rw [Int.gcd_zero_right] at hg
      show (x.natAbs : Int) = _
      rw [hg]
  · simp at h
def c_igcd : Ctr Tryz.prog := ⟨119, s_igcd, fun args w => Tryz.call119 args w, fn_ok_facts mix Tryz.func119 s_igcd p_igcd⟩

/-! ### integer.Bezout -/
/-- The least factor that is not negative. -/
structure BzU (a b u : Int) : Prop where
  u0 : 0 ≤ u
  u1 : u < ((b / (Int.gcd a b : Int)).natAbs : Int)
  dv : b ∣ (Int.gcd a b : Int) - u * a

open Classical in
noncomputable def bzu (a b : Int) : Int := if h : ∃ u, BzU a b u then Classical.choose h else 0

theorem dvd_of_coprime {k n m : Int} (h : Int.gcd k n = 1) (hd : k ∣ n * m) : k ∣ m := by
  have := Int.dvd_gcd_mul_iff_dvd_mul.2 hd
  rw [h] at this
  simpa using this

theorem BzU.unique {a b u v : Int} (hb : b ≠ 0) (hu : BzU a b u) (hv : BzU a b v) : u = v := by
  have hg0 : (Int.gcd a b : Int) ≠ 0 := by
    intro e
    have : Int.gcd a b = 0 := by omega
    exact hb (Int.gcd_eq_zero_iff.1 this).2
  obtain ⟨a', ha'⟩ := Int.gcd_dvd_left a b
  obtain ⟨b', hb'⟩ := Int.gcd_dvd_right a b
  generalize hg : (Int.gcd a b : Int) = g at *
  have hq : b / g = b' := by rw [hb', Int.mul_ediv_cancel_left _ hg0]
  have h1 : b ∣ (v - u) * a := by
    have := Int.dvd_sub hu.dv hv.dv
    rw [hg] at this
    have e : g - u * a - (g - v * a) = (v - u) * a := by rw [Int.sub_mul]; omega
    rwa [e] at this
  have hcop : Int.gcd b' a' = 1 := by
    have : Int.gcd (g * a') (g * b') = g.natAbs * Int.gcd a' b' := Int.gcd_mul_left ..
    rw [← ha', ← hb'] at this
    have hgn : Int.gcd a b = g.natAbs := by omega
    rw [hgn] at this
    rw [Int.gcd_comm]
    exact Nat.eq_of_mul_eq_mul_left (show 0 < g.natAbs by omega) (by omega)
  have h2 : b' ∣ a' * (v - u) := by
    obtain ⟨k, hk⟩ := h1
    refine ⟨k, Int.eq_of_mul_eq_mul_left hg0 ?_⟩
    rw [← Int.mul_assoc, ← Int.mul_assoc, ← ha', ← hb', Int.mul_comm a]; exact hk
  have h3 := dvd_of_coprime hcop h2
  have l1 := hu.u0
  have l2 := hu.u1
  have l3 := hv.u0
  have l4 := hv.u1
  rw [hg, hq] at l2 l4
  obtain ⟨k, hk⟩ := h3
  have hk0 : k = 0 := by
    rcases Int.lt_trichotomy k 0 with q | q | q
    · exfalso
      have := Int.natAbs_mul b' k
      have h5 : b'.natAbs * 1 ≤ b'.natAbs * k.natAbs := Nat.mul_le_mul_left _ (by omega)
      rw [← hk] at this
      omega
    · exact q
    · exfalso
      have := Int.natAbs_mul b' k
      have h5 : b'.natAbs * 1 ≤ b'.natAbs * k.natAbs := Nat.mul_le_mul_left _ (by omega)
      rw [← hk] at this
      omega
  rw [hk0, Int.mul_zero] at hk
  omega

theorem BzU.eq {a b u : Int} (hb : b ≠ 0) (hu : BzU a b u) : u = bzu a b := by
  have h : ∃ u, BzU a b u := ⟨u, hu⟩
  unfold bzu
  rw [dif_pos h]
  exact hu.unique hb (Classical.choose_spec h)

/-- The state of the extended algorithm. -/
structure BzS where
  g : Int
  x : Int
  u : Int
  v : Int
structure BzI (a b : Int) (s : BzS) : Prop where
  g0 : 0 < s.g ∧ s.g ≤ b.natAbs
  x0 : 0 ≤ s.x ∧ s.x ≤ b.natAbs
  gc : Int.gcd s.g s.x = Int.gcd a b
  du : b ∣ s.g - s.u * a
  dv : b ∣ s.x - s.v * a
  sg : (s.v * s.g - s.u * s.x = b.natAbs ∧ 0 ≤ s.v ∧ s.u ≤ 0) ∨ (s.u * s.x - s.v * s.g = b.natAbs ∧ s.v ≤ 0 ∧ 0 ≤ s.u)
  bu : s.u.natAbs ≤ b.natAbs
  bv : s.v.natAbs ≤ b.natAbs

theorem BzI.init {a b : Int} (hb : b ≠ 0) : BzI a b ⟨b.natAbs, a % b, 0, 1⟩ := by
  have h1 := natAbs_emod (a := a) hb
  have h2 := Int.emod_nonneg a hb
  refine ⟨by show (0 : Int) < b.natAbs ∧ (b.natAbs : Int) ≤ b.natAbs; omega, by show 0 ≤ a % b ∧ a % b ≤ _; omega, ?_, ?_, ?_, .inl ⟨?_, by show (0 : Int) ≤ 1; omega, by show (0 : Int) ≤ 0; omega⟩, by show (0 : Int).natAbs ≤ _; omega, by show (1 : Int).natAbs ≤ _; omega⟩
  · show Int.gcd (b.natAbs : Int) (a % b) = _
    have : Int.gcd (b.natAbs : Int) (a % b) = Int.gcd b (a % b) := by simp [Int.gcd]
    rw [this]; exact gcd_step a b
  · show b ∣ (b.natAbs : Int) - 0 * a
    rw [Int.zero_mul, Int.sub_zero]; exact Int.dvd_natAbs.2 (Int.dvd_refl b)
  · show b ∣ a % b - 1 * a
    rw [Int.one_mul, Int.emod_def]
    exact ⟨-(a / b), by rw [Int.mul_neg]; omega⟩
  · show 1 * (b.natAbs : Int) - 0 * _ = _
    omega

theorem BzI.step {a b : Int} {s : BzS} (h : BzI a b s) (hx : s.x ≠ 0) : BzI a b ⟨s.x, s.g % s.x, s.v, s.u - s.g / s.x * s.v⟩ := by
  have hx0 := h.x0
  have hg0 := h.g0
  have hm0 := Int.emod_nonneg s.g hx
  have hm1 := Int.emod_lt_of_pos s.g (show 0 < s.x by omega)
  have hq := Int.mul_ediv_add_emod s.g s.x
  have hq0 : 0 ≤ s.g / s.x := Int.ediv_nonneg (by omega) (by omega)
  have hsg := h.sg
  have hdu := h.du
  have hdv := h.dv
  have gs : Int.gcd s.x (s.g % s.x) = Int.gcd a b := by rw [← h.gc]; exact gcd_step s.g s.x
  have em : s.g % s.x = s.g - s.x * (s.g / s.x) := Int.emod_def ..
  obtain ⟨g, x, u, v⟩ := s
  simp only at *
  generalize g / x = q at *
  generalize g % x = r at *
  subst em
  have hsg2 : ((u - q * v) * x - v * (g - x * q) = b.natAbs ∧ 0 ≤ u - q * v ∧ v ≤ 0) ∨ (v * (g - x * q) - (u - q * v) * x = b.natAbs ∧ u - q * v ≤ 0 ∧ 0 ≤ v) := by
    rcases hsg with ⟨h1, h2, h3⟩ | ⟨h1, h2, h3⟩
    · refine .inr ⟨by rw [← h1]; grind, ?_, h2⟩
      have := Int.mul_nonneg hq0 h2
      omega
    · refine .inl ⟨by rw [← h1]; grind, ?_, h2⟩
      have := Int.mul_nonpos_of_nonneg_of_nonpos hq0 h2
      omega
  have hbv : (u - q * v).natAbs ≤ b.natAbs := by
    rcases hsg2 with ⟨h1, h2, h3⟩ | ⟨h1, h2, h3⟩
    · have k1 := Int.mul_nonpos_of_nonpos_of_nonneg h3 hm0
      have k2 : (u - q * v) * 1 ≤ (u - q * v) * x := Int.mul_le_mul_of_nonneg_left (by omega) h2
      omega
    · have k1 := Int.mul_nonneg h3 hm0
      have k2 : (u - q * v) * x ≤ (u - q * v) * 1 := Int.mul_le_mul_of_nonpos_left h2 (by omega)
      omega
  refine ⟨by show 0 < x ∧ x ≤ _; omega, by show 0 ≤ g - x * q ∧ g - x * q ≤ _; omega, gs, hdv, ?_, hsg2, h.bv, hbv⟩
  · show b ∣ g - x * q - (u - q * v) * a
    have e : g - x * q - (u - q * v) * a = (g - u * a) - q * (x - v * a) := by grind
    rw [e]
    exact Int.dvd_sub hdu (Int.dvd_mul_of_dvd_right hdv)

theorem BzI.fin {a b : Int} (hb : b ≠ 0) {s : BzS} (h : BzI a b s) (hx : s.x = 0) : s.g = Int.gcd a b ∧ b / s.g ≠ 0 ∧ s.u % (b / s.g) = bzu a b ∧ (b / s.g).natAbs ≤ b.natAbs ∧ (bzu a b).natAbs < (b / s.g).natAbs := by
  have hg0 := h.g0
  have hg : s.g = Int.gcd a b := by
    have := h.gc
    rw [hx, Int.gcd_zero_right] at this
    omega
  obtain ⟨a', ha'⟩ := Int.gcd_dvd_left a b
  obtain ⟨b', hb'⟩ := Int.gcd_dvd_right a b
  rw [← hg] at ha' hb'
  have hq : b / s.g = b' := by rw [hb', Int.mul_ediv_cancel_left _ (by omega)]
  have hb0 : b' ≠ 0 := by intro e; rw [e, Int.mul_zero] at hb'; exact hb hb'
  have hm0 := Int.emod_nonneg s.u hb0
  have hm1 := Int.emod_lt s.u hb0
  have e : s.u % b' = bzu a b := by
    refine BzU.eq hb ⟨hm0, by rw [← hg, hq]; omega, ?_⟩
    rw [← hg, Int.emod_def]
    have e : s.g - (s.u - b' * (s.u / b')) * a = (s.g - s.u * a) + b * (a' * (s.u / b')) := by
      have : b * (a' * (s.u / b')) = b' * (s.u / b') * a := by
        rw [hb']
        conv => rhs; rw [ha']
        generalize s.u / b' = k
        grind
      rw [this, Int.sub_mul]; omega
    rw [e]
    exact Int.dvd_add h.du (Int.dvd_mul_right ..)
  rw [hq]
  refine ⟨hg, hb0, e, ?_, by rw [← e]; omega⟩
  have : b.natAbs = s.g.natAbs * b'.natAbs := by
    conv => lhs; rw [hb']
    exact Int.natAbs_mul ..
  have h5 : 1 * b'.natAbs ≤ s.g.natAbs * b'.natAbs := Nat.mul_le_mul_right _ (by omega)
  omega


end Go.Proofs.YtkokpkhdkbeofaaGreat

/-
  Contracts of functions: the reference of layer 1: words, comparisons, signs.
-/
namespace Go.Proofs.YtkokpkhdkbeofaaGreat
open Go Go.RowKit

/-! ### trim, made -/
def a_rtrim (l : List Int) : Nat → MS → Option LoopAnn
  | 1, _ => some (.inv Nat (fun k => k ≤ l.length ∧ wv (l.take k) = wv l) (fun k => ⟨21, [(0, .ws (l.take k))], [], 0⟩) id)
  | _, _ => none
theorem vc_rtrim (l : List Int) : ((∃ i, (i ≤ List.length l ∧ wv (List.take i l) = wv l) ∧ (l = List.take i l ∧ True) ∧ True) ∧ ∀ (i : Nat), i ≤ List.length l ∧ wv (List.take i l) = wv l → bif decide ((↑(List.length (List.take i l)) : Int) > (0 : Int)) then ((0 : Int) ≤ IntKind.wrap IntKind.i64 ((↑(List.length (List.take i l)) : Int) - (1 : Int)) ∧ IntKind.wrap IntKind.i64 ((↑(List.length (List.take i l)) : Int) - (1 : Int)) < (↑(List.length (List.take i l)) : Int)) ∧ bif List.getD (List.take i l) (Int.toNat (IntKind.wrap IntKind.i64 ((↑(List.length (List.take i l)) : Int) - (1 : Int)))) (0 : Int) == (0 : Int) then ((0 : Int) ≤ IntKind.wrap IntKind.i64 ((↑(List.length (List.take i l)) : Int) - (1 : Int)) ∧ IntKind.wrap IntKind.i64 ((↑(List.length (List.take i l)) : Int) - (1 : Int)) ≤ (↑(List.length (List.take i l)) : Int)) ∧ ∃ j, (j ≤ List.length l ∧ wv (List.take j l) = wv l) ∧ ((List.take (Int.toNat (IntKind.wrap IntKind.i64 ((↑(List.length (List.take i l)) : Int) - (1 : Int)))) (List.take i l) = List.take j l ∧ True) ∧ True) ∧ id j < id i else List.take i l = limbs (Int.toNat (wv l)) else List.take i l = limbs (Int.toNat (wv l))) = evFn (env [] (a_rtrim l)) Tryz.f108 [.ws l] (MRes.sat (.ret (.ws (limbs (wv l).toNat)))) := by kernel_rfl
theorem p_rtrim : Good Tryz.f108 s_trim := by
  intro ms p r h hp
  unfold s_trim at h
  split at h
  · rename_i l
    simp only [Option.some.injEq, Prod.mk.injEq] at h
    obtain ⟨rfl, rfl⟩ := h
    obtain ⟨hw, hlen⟩ : Wd l ∧ l.length ≤ 1099511627776 := hp
    refine ⟨_, cast (vc_rtrim l) ⟨⟨l.length, ⟨Nat.le_refl _, by rw [List.take_length]⟩, ⟨by rw [List.take_length], trivial⟩, trivial⟩, fun i ⟨hi, hv⟩ => ?_⟩⟩
    have hl : (l.take i).length = i := by simp [hi]
    have hlim : i = 0 ∨ (l.take i).getLast? ≠ some 0 → l.take i = limbs (wv l).toNat := by
      intro h
      rw [← hv]
      refine (limbs_wv (hw.take i) fun hne e => ?_).symm
      rcases h with h | h
      · subst h; exact hne rfl
      · exact h (by rw [List.getLast?_eq_some_getLast hne, e])
    rw [hl, Bool.cond_decide]
    split
    · rename_i h0
      have hi1 : i - 1 < l.length := by omega
      have e1 : IntKind.i64.wrap ((i : Int) - 1) = i - 1 := i64w (by omega) (by omega)
      have e2 : ((i : Int) - 1).toNat = i - 1 := by omega
      rw [e1, e2]
      have hs : l.take i = l.take (i - 1) ++ [l.getD (i - 1) 0] := by
        have := take_snoc hi1
        rwa [show i - 1 + 1 = i by omega] at this
      have hg : (l.take i).getD (i - 1) 0 = l.getD (i - 1) 0 := by
        simp [show i - 1 < i by omega]
      rw [hg]
      refine ⟨by omega, ?_⟩
      cases hz : (l.getD (i - 1) 0 == 0) with
      | true =>
        simp only [beq_iff_eq] at hz
        rw [hz] at hs
        refine ⟨by omega, i - 1, ⟨by omega, ?_⟩, ⟨⟨?_, trivial⟩, trivial⟩, by show i - 1 < i; omega⟩
        · rw [← hv, hs, wv_append]; simp [wv]
        · rw [List.take_take]; congr 1; omega
      | false =>
        rw [cond_false]
        refine hlim (.inr ?_)
        rw [hs]
        simpa using hz
    · exact hlim (.inl (by omega))
  · simp at h

def c_rtrim : Ctr Tryz.prog := ⟨108, s_trim, fun args w => Tryz.call108 args w, fn_ok mix Tryz.func108 s_trim p_rtrim⟩

theorem vc_rmade (b : Bool) (l : List Int) : (((∀ (x : Int), x ∈ l → (0 : Int) ≤ x ∧ x < (4294967296 : Int)) ∧ List.length l ≤ (1099511627776 : Nat)) ∧ bif (↑(List.length (limbs (Int.toNat (wv l)))) : Int) == (0 : Int) then (0 : Int) = sg b (wv l) ∧ ((0 : Nat) ≤ (32 : Nat) * List.length l ∨ Int.natAbs (0 : Int) < (2 : Nat) ^ ((32 : Nat) * List.length l)) else b = decide (sg b (wv l) < (0 : Int)) ∧ limbs (Int.toNat (wv l)) = limbs (Int.natAbs (sg b (wv l))) ∧ Int.natAbs (sg b (wv l)) < (2 : Nat) ^ ((32 : Nat) * List.length l)) = evFn (env [c_rtrim] noAnn) Tryz.f74 [.bool b, .ws l] (MRes.sat (.ret (.big (sg b (wv l)) (32 * l.length)))) := by kernel_rfl
theorem p_rmade : Good Tryz.f74 s_of := by
  intro ms p r h hp
  unfold s_of at h
  split at h
  · rename_i b l
    simp only [Option.some.injEq, Prod.mk.injEq] at h
    obtain ⟨rfl, rfl⟩ := h
    obtain ⟨hw, hl⟩ : Wd l ∧ l.length ≤ 1000000000 := hp
    refine ⟨env [c_rtrim] noAnn, ?_⟩
    rw [← vc_rmade b l]
    have h0 := wv_nonneg hw
    have hlen := limbs_len_le (n := (wv l).toNat) (k := l.length) (by
      have h1 := wv_lt hw
      have e : ((4294967296 ^ l.length : Nat) : Int) = (4294967296 : Int) ^ l.length := by simp [Int.natCast_pow]
      omega)
    refine ⟨⟨hw, by omega⟩, ?_⟩
    by_cases hz : wv l = 0
    · rw [hz]
      have : ((((limbs (0 : Int).toNat).length : Nat) : Int) == 0) = true := by rw [show (0 : Int).toNat = 0 from rfl, limbs_zero]; rfl
      rw [this, cond_true]
      exact ⟨by cases b <;> rfl, .inl (Nat.zero_le _)⟩
    · have hne : (limbs (wv l).toNat).length ≠ 0 := fun e => by
        have := limbs_eq_nil.1 (List.eq_nil_of_length_eq_zero e)
        omega
      have : ((((limbs (wv l).toNat).length : Nat) : Int) == 0) = false := by simpa using hne
      rw [this, cond_false, natAbs_sg]
      refine ⟨?_, by rw [show (wv l).natAbs = (wv l).toNat by omega], len_of_wv hw⟩
      cases b
      · exact (decide_eq_false (show ¬ wv l < 0 by omega)).symm
      · exact (decide_eq_true (show -wv l < 0 by omega)).symm
  · simp at h
def c_rmade : Ctr Tryz.prog := ⟨74, s_of, fun args w => Tryz.call74 args w, fn_ok mix Tryz.func74 s_of p_rmade⟩

/-! ### word -/
/-- A word of a list, 0 beyond its ends. -/
def wdg (l : List Int) (i : Int) : Int := if 0 ≤ i then l.getD i.toNat 0 else 0
theorem wdg_nat (l : List Int) (i : Nat) : wdg l (i : Int) = l.getD i 0 := by unfold wdg; rw [if_pos (by omega), Int.toNat_natCast]
theorem wdg_wd {l : List Int} (h : Wd l) (i : Int) : 0 ≤ wdg l i ∧ wdg l i < 4294967296 := by
  unfold wdg
  split
  · exact h.getD _
  · omega
def s_rword : FSpec
  | [.ws l, .int .i64 i] => some (some (Wd l), .ret (.int .u64 (wdg l i)))
  | _ => none
theorem vc_rword (l : List Int) (i : Int) : (bif decide (i < (0 : Int)) then (0 : Int) = wdg l i else bif decide (i ≥ (↑(List.length l) : Int)) then (0 : Int) = wdg l i else ((0 : Int) ≤ i ∧ i < (↑(List.length l) : Int)) ∧ IntKind.wrap IntKind.u64 (List.getD l (Int.toNat i) (0 : Int)) = wdg l i) = evFn (env [] noAnn) Tryz.f109 [.ws l, .int .i64 i] (MRes.sat (.ret (.int .u64 (wdg l i)))) := by kernel_rfl
theorem p_rword : Good Tryz.f109 s_rword := by
  intro ms p r h hp
  unfold s_rword at h
  split at h
  · rename_i l i
    simp only [Option.some.injEq, Prod.mk.injEq] at h
    obtain ⟨rfl, rfl⟩ := h
    have hw : Wd l := hp
    refine ⟨env [] noAnn, ?_⟩
    rw [← vc_rword l i]
    simp only [Bool.cond_decide]
    split
    · unfold wdg; rw [if_neg (by omega)]
    · split
      · unfold wdg; rw [if_pos (by omega)]
        simp [List.getElem?_eq_none (show l.length ≤ i.toNat by omega)]
      · unfold wdg
        rw [if_pos (by omega)]
        exact ⟨by omega, eu64 (by have := hw.getD i.toNat; omega)⟩
  · simp at h
def c_rword : Ctr Tryz.prog := ⟨109, s_rword, fun args w => Tryz.call109 args w, fn_ok mix Tryz.func109 s_rword p_rword⟩

/-! ### size, Cmp, Same -/
def a_rsize (a b : List Int) : Nat → MS → Option LoopAnn
  | 6, _ => some (.inv Nat (fun k => k ≤ a.length ∧ a.drop k = b.drop k) (fun k => ⟨41, [(0, .ws a), (1, .ws b), (5, .int .i64 ((k : Int) - 1))], [], 0⟩) id)
  | _, _ => none
theorem vc_rsize (a b : List Int) : (bif (↑(List.length a) : Int) != (↑(List.length b) : Int) then bif decide ((↑(List.length a) : Int) < (↑(List.length b) : Int)) then (-1 : Int) = icmp (wv a) (wv b) else (1 : Int) = icmp (wv a) (wv b) else (∃ i, (i ≤ List.length a ∧ List.drop i a = List.drop i b) ∧ (a = a ∧ b = b ∧ IntKind.wrap IntKind.i64 ((↑(List.length a) : Int) - (1 : Int)) = (↑i : Int) - (1 : Int) ∧ True) ∧ True) ∧ ∀ (i : Nat), i ≤ List.length a ∧ List.drop i a = List.drop i b → bif decide ((↑i : Int) - (1 : Int) ≥ (0 : Int)) then ((0 : Int) ≤ (↑i : Int) - (1 : Int) ∧ (↑i : Int) - (1 : Int) < (↑(List.length a) : Int)) ∧ ((0 : Int) ≤ (↑i : Int) - (1 : Int) ∧ (↑i : Int) - (1 : Int) < (↑(List.length b) : Int)) ∧ bif decide (List.getD a (Int.toNat ((↑i : Int) - (1 : Int))) (0 : Int) < List.getD b (Int.toNat ((↑i : Int) - (1 : Int))) (0 : Int)) then (-1 : Int) = icmp (wv a) (wv b) else ((0 : Int) ≤ (↑i : Int) - (1 : Int) ∧ (↑i : Int) - (1 : Int) < (↑(List.length a) : Int)) ∧ ((0 : Int) ≤ (↑i : Int) - (1 : Int) ∧ (↑i : Int) - (1 : Int) < (↑(List.length b) : Int)) ∧ bif decide (List.getD a (Int.toNat ((↑i : Int) - (1 : Int))) (0 : Int) > List.getD b (Int.toNat ((↑i : Int) - (1 : Int))) (0 : Int)) then (1 : Int) = icmp (wv a) (wv b) else ∃ j, (j ≤ List.length a ∧ List.drop j a = List.drop j b) ∧ ((a = a ∧ b = b ∧ IntKind.wrap IntKind.i64 ((↑i : Int) - (1 : Int) - (1 : Int)) = (↑j : Int) - (1 : Int) ∧ True) ∧ True) ∧ id j < id i else (0 : Int) = icmp (wv a) (wv b)) = evFn (env [] (a_rsize a b)) Tryz.f78 [.ws a, .ws b] (MRes.sat (.ret (.int .i64 (icmp (wv a) (wv b))))) := by kernel_rfl
theorem p_rsize : Good Tryz.f78 s_ncmp := by
  intro ms p r h hp
  unfold s_ncmp at h
  split at h
  · rename_i a b
    simp only [Option.some.injEq, Prod.mk.injEq] at h
    obtain ⟨rfl, rfl⟩ := h
    obtain ⟨ha, hb, la, lb⟩ : Cn a ∧ Cn b ∧ a.length ≤ 1099511627776 ∧ b.length ≤ 1099511627776 := hp
    refine ⟨env [] (a_rsize a b), ?_⟩
    rw [← vc_rsize a b]
    cases hc : ((a.length : Int) != (b.length : Int)) with
    | true =>
      have hne : (a.length : Int) ≠ b.length := by simpa using hc
      rw [cond_true, Bool.cond_decide]
      split
      · exact (icmp_lt (wv_lt_of_len ha.wd hb (by omega))).symm
      · exact (icmp_gt (wv_lt_of_len hb.wd ha (by omega))).symm
    | false =>
      rw [cond_false]
      have heq : a.length = b.length := by
        have : (a.length : Int) = b.length := by simpa using hc
        omega
      refine ⟨⟨a.length, ⟨Nat.le_refl _, by rw [List.drop_length, heq, List.drop_length]⟩, ⟨rfl, rfl, i64w (by omega) (by omega), True.intro⟩, True.intro⟩, fun i ⟨hi, hd⟩ => ?_⟩
      simp only [Bool.cond_decide]
      split
      · rename_i h0
        have e2 : ((i : Int) - 1).toNat = i - 1 := by omega
        rw [e2]
        have hd' : a.drop (i - 1 + 1) = b.drop (i - 1 + 1) := by rw [show i - 1 + 1 = i by omega]; exact hd
        refine ⟨by omega, by omega, ?_⟩
        split
        · rename_i h
          exact (icmp_lt (wv_decide ha.wd hb.wd (by omega) (by omega) hd' h)).symm
        · refine ⟨by omega, by omega, ?_⟩
          split
          · rename_i h
            exact (icmp_gt (wv_decide hb.wd ha.wd (by omega) (by omega) hd'.symm h)).symm
          · have he : a.getD (i - 1) 0 = b.getD (i - 1) 0 := by omega
            refine ⟨i - 1, ⟨by omega, ?_⟩, ⟨⟨(by and_intros <;> first | exact True.intro | rfl | omega), (by and_intros <;> first | exact True.intro | rfl | omega), ?_, True.intro⟩, True.intro⟩, by show i - 1 < i; omega⟩
            · rw [drop_cons (l := a) (by omega), drop_cons (l := b) (by omega), he, hd']
            · rw [i64w (by omega) (by omega)]; omega
      · have : i = 0 := by omega
        subst this
        rw [List.drop_zero, List.drop_zero] at hd
        rw [hd, icmp_same]
  · simp at h
def c_rsize : Ctr Tryz.prog := ⟨78, s_ncmp, fun args w => Tryz.call78 args w, fn_ok mix Tryz.func78 s_ncmp p_rsize⟩

def s_rsame : FSpec
  | [.big a n, .big b m] => some (some (n ≤ 1000000 ∧ m ≤ 1000000), .ret (.bool (decide (a = b))))
  | _ => none
theorem vc_rsame (a b : Int) (n m : Nat) : (bif decide (a < (0 : Int)) == decide (b < (0 : Int)) then (limbs (Int.toNat (wv (limbs (Int.natAbs a)))) = limbs (Int.natAbs a) ∧ limbs (Int.toNat (wv (limbs (Int.natAbs b)))) = limbs (Int.natAbs b) ∧ List.length (limbs (Int.natAbs a)) ≤ (1099511627776 : Nat) ∧ List.length (limbs (Int.natAbs b)) ≤ (1099511627776 : Nat)) ∧ (icmp (wv (limbs (Int.natAbs a))) (wv (limbs (Int.natAbs b))) == (0 : Int)) = decide (a = b) else false = decide (a = b)) = evFn (env [c_rsize] noAnn) Tryz.f24 [.big a n, .big b m] (MRes.sat (.ret (.bool (decide (a = b))))) := by kernel_rfl
theorem p_rsame : GoodF Tryz.f24 s_rsame := by
  intro ms p r h hp hf
  unfold s_rsame at h
  split at h
  · rename_i a n b m
    simp only [Option.some.injEq, Prod.mk.injEq] at h
    obtain ⟨rfl, rfl⟩ := h
    obtain ⟨hn, hm⟩ : n ≤ 1000000 ∧ m ≤ 1000000 := hp
    have ha : a.natAbs < 2 ^ n := hf.1
    have hb : b.natAbs < 2 ^ m := hf.2.1
    have l1 := lim_len ha (by omega)
    have l2 := lim_len hb (by omega)
    refine ⟨env [c_rsize] noAnn, ?_⟩
    rw [← vc_rsame a b n m, wvl, wvl, Int.toNat_natCast, Int.toNat_natCast]
    have e : (icmp (a.natAbs : Int) (b.natAbs : Int) == 0) = decide (a.natAbs = b.natAbs) := by
      have := icmp_zero (a := (a.natAbs : Int)) (b := (b.natAbs : Int))
      by_cases h : a.natAbs = b.natAbs
      · rw [decide_eq_true h]; simp only [beq_iff_eq]; exact this.2 (by omega)
      · rw [decide_eq_false h]
        simp only [beq_eq_false_iff_ne]
        exact fun e => h (by have := this.1 e; omega)
    rw [e]
    cases hs : (decide (a < 0) == decide (b < 0)) with
    | true =>
      rw [cond_true]
      have hs : (a < 0) = (b < 0) := by simpa [beq_iff_eq] using hs
      have hs : a < 0 ↔ b < 0 := by rw [hs]
      exact ⟨⟨rfl, rfl, by omega, by omega⟩, decide_eq_decide.2 (by omega)⟩
    | false =>
      rw [cond_false]
      have hne : a ≠ b := by intro e; subst e; simp at hs
      exact (decide_eq_false hne).symm
  · simp at h
def c_rsame : Ctr Tryz.prog := ⟨24, s_rsame, fun args w => Tryz.call24 args w, fn_ok_facts mix Tryz.func24 s_rsame p_rsame⟩

theorem vc_rof (z : Int) : (bif decide (z < (0 : Int)) then (0 : Int) ≤ (32 : Int) ∧ ((0 : Nat) + (2 : Nat) ≤ List.length [IntKind.wrap IntKind.u32 (IntKind.wrap IntKind.u64 ((0 : Int) - IntKind.wrap IntKind.u64 z)), IntKind.wrap IntKind.u32 (Int.fdiv (IntKind.wrap IntKind.u64 ((0 : Int) - IntKind.wrap IntKind.u64 z)) ((2 : Int) ^ min (Int.toNat (32 : Int)) (IntKind.bits IntKind.u64)))] ∧ (∀ (x : Int), x ∈ List.take (2 : Nat) (List.drop (0 : Nat) [IntKind.wrap IntKind.u32 (IntKind.wrap IntKind.u64 ((0 : Int) - IntKind.wrap IntKind.u64 z)), IntKind.wrap IntKind.u32 (Int.fdiv (IntKind.wrap IntKind.u64 ((0 : Int) - IntKind.wrap IntKind.u64 z)) ((2 : Int) ^ min (Int.toNat (32 : Int)) (IntKind.bits IntKind.u64)))]) → (0 : Int) ≤ x ∧ x < (4294967296 : Int)) ∧ List.length (List.take (2 : Nat) (List.drop (0 : Nat) [IntKind.wrap IntKind.u32 (IntKind.wrap IntKind.u64 ((0 : Int) - IntKind.wrap IntKind.u64 z)), IntKind.wrap IntKind.u32 (Int.fdiv (IntKind.wrap IntKind.u64 ((0 : Int) - IntKind.wrap IntKind.u64 z)) ((2 : Int) ^ min (Int.toNat (32 : Int)) (IntKind.bits IntKind.u64)))])) ≤ (1000000000 : Nat)) ∧ sg (decide (z < (0 : Int))) (wv (List.take (2 : Nat) (List.drop (0 : Nat) [IntKind.wrap IntKind.u32 (IntKind.wrap IntKind.u64 ((0 : Int) - IntKind.wrap IntKind.u64 z)), IntKind.wrap IntKind.u32 (Int.fdiv (IntKind.wrap IntKind.u64 ((0 : Int) - IntKind.wrap IntKind.u64 z)) ((2 : Int) ^ min (Int.toNat (32 : Int)) (IntKind.bits IntKind.u64)))]))) = z ∧ ((32 : Nat) * List.length (List.take (2 : Nat) (List.drop (0 : Nat) [IntKind.wrap IntKind.u32 (IntKind.wrap IntKind.u64 ((0 : Int) - IntKind.wrap IntKind.u64 z)), IntKind.wrap IntKind.u32 (Int.fdiv (IntKind.wrap IntKind.u64 ((0 : Int) - IntKind.wrap IntKind.u64 z)) ((2 : Int) ^ min (Int.toNat (32 : Int)) (IntKind.bits IntKind.u64)))])) ≤ (64 : Nat) ∨ Int.natAbs (sg (decide (z < (0 : Int))) (wv (List.take (2 : Nat) (List.drop (0 : Nat) [IntKind.wrap IntKind.u32 (IntKind.wrap IntKind.u64 ((0 : Int) - IntKind.wrap IntKind.u64 z)), IntKind.wrap IntKind.u32 (Int.fdiv (IntKind.wrap IntKind.u64 ((0 : Int) - IntKind.wrap IntKind.u64 z)) ((2 : Int) ^ min (Int.toNat (32 : Int)) (IntKind.bits IntKind.u64)))])))) < (2 : Nat) ^ (64 : Nat)) else (0 : Int) ≤ (32 : Int) ∧ ((0 : Nat) + (2 : Nat) ≤ List.length [IntKind.wrap IntKind.u32 (IntKind.wrap IntKind.u64 z), IntKind.wrap IntKind.u32 (Int.fdiv (IntKind.wrap IntKind.u64 z) ((2 : Int) ^ min (Int.toNat (32 : Int)) (IntKind.bits IntKind.u64)))] ∧ (∀ (x : Int), x ∈ List.take (2 : Nat) (List.drop (0 : Nat) [IntKind.wrap IntKind.u32 (IntKind.wrap IntKind.u64 z), IntKind.wrap IntKind.u32 (Int.fdiv (IntKind.wrap IntKind.u64 z) ((2 : Int) ^ min (Int.toNat (32 : Int)) (IntKind.bits IntKind.u64)))]) → (0 : Int) ≤ x ∧ x < (4294967296 : Int)) ∧ List.length (List.take (2 : Nat) (List.drop (0 : Nat) [IntKind.wrap IntKind.u32 (IntKind.wrap IntKind.u64 z), IntKind.wrap IntKind.u32 (Int.fdiv (IntKind.wrap IntKind.u64 z) ((2 : Int) ^ min (Int.toNat (32 : Int)) (IntKind.bits IntKind.u64)))])) ≤ (1000000000 : Nat)) ∧ sg (decide (z < (0 : Int))) (wv (List.take (2 : Nat) (List.drop (0 : Nat) [IntKind.wrap IntKind.u32 (IntKind.wrap IntKind.u64 z), IntKind.wrap IntKind.u32 (Int.fdiv (IntKind.wrap IntKind.u64 z) ((2 : Int) ^ min (Int.toNat (32 : Int)) (IntKind.bits IntKind.u64)))]))) = z ∧ ((32 : Nat) * List.length (List.take (2 : Nat) (List.drop (0 : Nat) [IntKind.wrap IntKind.u32 (IntKind.wrap IntKind.u64 z), IntKind.wrap IntKind.u32 (Int.fdiv (IntKind.wrap IntKind.u64 z) ((2 : Int) ^ min (Int.toNat (32 : Int)) (IntKind.bits IntKind.u64)))])) ≤ (64 : Nat) ∨ Int.natAbs (sg (decide (z < (0 : Int))) (wv (List.take (2 : Nat) (List.drop (0 : Nat) [IntKind.wrap IntKind.u32 (IntKind.wrap IntKind.u64 z), IntKind.wrap IntKind.u32 (Int.fdiv (IntKind.wrap IntKind.u64 z) ((2 : Int) ^ min (Int.toNat (32 : Int)) (IntKind.bits IntKind.u64)))])))) < (2 : Nat) ^ (64 : Nat))) = evFn (env [c_rmade] noAnn) Tryz.f21 [.int .i64 z] (MRes.sat (.ret (.big z 64))) := by kernel_rfl
theorem p_rof : Good Tryz.f21 s_iof := by
  intro ms p r h hp
  unfold s_iof at h
  split at h
  · rename_i z
    simp only [Option.some.injEq, Prod.mk.injEq] at h
    obtain ⟨rfl, rfl⟩ := h
    obtain ⟨h1, h2⟩ : -9223372036854775808 ≤ z ∧ z ≤ 9223372036854775807 := hp
    refine ⟨env [c_rmade] noAnn, ?_⟩
    rw [← vc_rof z, p32]
    have hV : z < 0 → IntKind.u64.wrap ((0 : Int) - IntKind.u64.wrap z) = z.natAbs := fun h => by simp only [u64w]; omega
    have hW : ¬ z < 0 → IntKind.u64.wrap z = z.natAbs := fun h => by rw [u64w]; omega
    have hl : (List.take 2 (List.drop 0 [(z.natAbs : Int) % 4294967296, (z.natAbs : Int) / 4294967296 % 4294967296])) = [(z.natAbs : Int) % 4294967296, (z.natAbs : Int) / 4294967296 % 4294967296] := rfl
    have hw : wv [(z.natAbs : Int) % 4294967296, (z.natAbs : Int) / 4294967296 % 4294967296] = z.natAbs := by simp only [wv]; omega
    rw [Bool.cond_decide]
    split
    all_goals
      rename_i hc
      first | rw [hV hc] | rw [hW hc]
      rw [Int.fdiv_eq_ediv_of_nonneg _ (by omega), u32w, u32w, hl, hw, sg_dec]
      refine ⟨by omega, ⟨by simp, fun x hx => ?_, by simp⟩, rfl, .inl (by simp)⟩
      simp only [List.mem_cons, List.not_mem_nil, or_false] at hx
      rcases hx with rfl | rfl <;> omega
  · simp at h
def c_rof : Ctr Tryz.prog := ⟨21, s_iof, fun args w => Tryz.call21 args w, fn_ok mix Tryz.func21 s_iof p_rof⟩
theorem vc_rneg (z : Int) (n : Nat) : (((∀ (x : Int), x ∈ limbs (Int.natAbs z) → (0 : Int) ≤ x ∧ x < (4294967296 : Int)) ∧ List.length (limbs (Int.natAbs z)) ≤ (1000000000 : Nat)) ∧ sg (!decide (z < (0 : Int))) (wv (limbs (Int.natAbs z))) = -z ∧ ((32 : Nat) * List.length (limbs (Int.natAbs z)) ≤ n ∨ Int.natAbs (sg (!decide (z < (0 : Int))) (wv (limbs (Int.natAbs z)))) < (2 : Nat) ^ n)) = evFn (env [c_rmade] noAnn) Tryz.f80 [.big z n] (MRes.sat (.ret (.big (-z) n))) := by kernel_rfl
theorem p_rneg : GoodF Tryz.f80 s_neg := by
  intro ms p r h hp hf
  unfold s_neg at h
  split at h
  · rename_i z n
    simp only [Option.some.injEq, Prod.mk.injEq] at h
    obtain ⟨rfl, rfl⟩ := h
    have hn : n ≤ 1000000 := hp
    have hz : z.natAbs < 2 ^ n := hf.1
    refine ⟨env [c_rmade] noAnn, ?_⟩
    rw [← vc_rneg z n, wvl, sg_ndec]
    have := lim_len hz (by omega)
    exact ⟨⟨limbs_wd _, by omega⟩, rfl, .inr (by rw [Int.natAbs_neg]; exact hz)⟩
  · simp at h
def c_rneg : Ctr Tryz.prog := ⟨80, s_neg, fun args w => Tryz.call80 args w, fn_ok_facts mix Tryz.func80 s_neg p_rneg⟩
theorem vc_rabs (z : Int) (n : Nat) : (((∀ (x : Int), x ∈ limbs (Int.natAbs z) → (0 : Int) ≤ x ∧ x < (4294967296 : Int)) ∧ List.length (limbs (Int.natAbs z)) ≤ (1000000000 : Nat)) ∧ sg false (wv (limbs (Int.natAbs z))) = (↑(Int.natAbs z) : Int) ∧ ((32 : Nat) * List.length (limbs (Int.natAbs z)) ≤ n ∨ Int.natAbs (sg false (wv (limbs (Int.natAbs z)))) < (2 : Nat) ^ n)) = evFn (env [c_rmade] noAnn) Tryz.f37 [.big z n] (MRes.sat (.ret (.big z.natAbs n))) := by kernel_rfl
theorem p_rabs : GoodF Tryz.f37 s_abs := by
  intro ms p r h hp hf
  unfold s_abs at h
  split at h
  · rename_i z n
    simp only [Option.some.injEq, Prod.mk.injEq] at h
    obtain ⟨rfl, rfl⟩ := h
    have hn : n ≤ 1000000 := hp
    have hz : z.natAbs < 2 ^ n := hf.1
    refine ⟨env [c_rmade] noAnn, ?_⟩
    rw [← vc_rabs z n, wvl]
    have := lim_len hz (by omega)
    exact ⟨⟨limbs_wd _, by omega⟩, rfl, .inr (by rw [natAbs_sg, Int.natAbs_natCast]; exact hz)⟩
  · simp at h
def c_rabs : Ctr Tryz.prog := ⟨37, s_abs, fun args w => Tryz.call37 args w, fn_ok_facts mix Tryz.func37 s_abs p_rabs⟩

end Go.Proofs.YtkokpkhdkbeofaaGreat

/-
  Contracts of functions: the reference of layer 1: sums, differences, products.
-/
namespace Go.Proofs.YtkokpkhdkbeofaaGreat
open Go Go.RowKit

/-- The first k digits of a number. -/
def digs : Nat → Int → List Int
  | 0, _ => []
  | k + 1, n => n % 4294967296 :: digs k (n / 4294967296)
theorem digs_len : ∀ (k : Nat) (n : Int), (digs k n).length = k
  | 0, _ => rfl
  | k + 1, n => by simp [digs, digs_len k]
theorem digs_wd : ∀ (k : Nat) (n : Int), Wd (digs k n)
  | 0, _ => Wd.nil
  | k + 1, n => Wd.cons ⟨Int.emod_nonneg _ (by omega), Int.emod_lt_of_pos _ (by omega)⟩ (digs_wd k _)
theorem wv_digs : ∀ (k : Nat) (n : Int), 0 ≤ n → n < 4294967296 ^ k → wv (digs k n) = n
  | 0, n, h0, h1 => by simp [digs, wv] at *; omega
  | k + 1, n, h0, h1 => by
    rw [Int.pow_succ] at h1
    simp only [digs, wv]
    rw [wv_digs k _ (by omega) (Int.ediv_lt_of_lt_mul (by omega) h1)]
    omega
theorem digs_wv : ∀ {l : List Int}, Wd l → digs l.length (wv l) = l
  | [], _ => rfl
  | x :: r, h => by
    have h1 := h.head
    have h2 := digs_wv h.tail
    simp only [List.length_cons, digs, wv]
    rw [show (x + 4294967296 * wv r) % 4294967296 = x by omega, show (x + 4294967296 * wv r) / 4294967296 = wv r by omega, h2]

/-! ### plus -/
def s_rplus : FSpec
  | [.ws a, .ws b] => some (some (Wd a ∧ Wd b ∧ a.length ≤ 1000000000 ∧ b.length ≤ 1000000000), .ret (.ws (digs (max a.length b.length + 1) (wv a + wv b))))
  | _ => none
structure RpS where
  i : Nat
  out : List Int
  c : Int
structure RpI (a b : List Int) (s : RpS) : Prop where
  hi : s.i ≤ max a.length b.length
  len : s.out.length = s.i
  wd : Wd s.out
  c0 : 0 ≤ s.c ∧ s.c ≤ 1
  sum : wv s.out + 4294967296 ^ s.i * s.c = wv (a.take s.i) + wv (b.take s.i)
def a_rplus (a b : List Int) : Nat → MS → Option LoopAnn
  | 4, _ => some (.inv RpS (RpI a b) (fun s => ⟨39, [(0, .ws a), (1, .ws b), (5, .bs 0 0 s.i), (6, .int .u64 s.c), (7, .int .i64 s.i)], [⟨false, .arr .u32 s.out⟩], 0⟩) (fun s => max a.length b.length - s.i))
  | _, _ => none
theorem vc_rplus (a b : List Int) : ((∃ i, RpI a b i ∧ (a = a ∧ b = b ∧ ((0 : Nat) = (0 : Nat) ∧ (0 : Nat) = RpS.i i) ∧ (0 : Int) = RpS.c i ∧ (0 : Int) = (↑(RpS.i i) : Int) ∧ True) ∧ [] = RpS.out i ∧ True) ∧ ∀ (i : RpS), RpI a b i → bif decide ((↑(RpS.i i) : Int) < maxI (↑(List.length a) : Int) (↑(List.length b) : Int)) then (∀ (x : Int), x ∈ a → (0 : Int) ≤ x ∧ x < (4294967296 : Int)) ∧ (∀ (x : Int), x ∈ b → (0 : Int) ≤ x ∧ x < (4294967296 : Int)) ∧ ((0 : Nat) + (1 : Nat) ≤ List.length [IntKind.wrap IntKind.u32 (IntKind.wrap IntKind.u64 (RpS.c i + IntKind.wrap IntKind.u64 (wdg a (↑(RpS.i i) : Int) + wdg b (↑(RpS.i i) : Int))))] ∧ RpS.i i ≤ List.length (RpS.out i) ∧ (RpS.i i + News.len (News.ints IntKind.u32 (List.take (1 : Nat) (List.drop (0 : Nat) [IntKind.wrap IntKind.u32 (IntKind.wrap IntKind.u64 (RpS.c i + IntKind.wrap IntKind.u64 (wdg a (↑(RpS.i i) : Int) + wdg b (↑(RpS.i i) : Int))))])))) * (4 : Nat) ≤ (140737488355328 : Nat)) ∧ (0 : Int) ≤ (32 : Int) ∧ ∃ j, RpI a b j ∧ ((a = a ∧ b = b ∧ ((0 : Nat) = (0 : Nat) ∧ RpS.i i + News.len (News.ints IntKind.u32 (List.take (1 : Nat) (List.drop (0 : Nat) [IntKind.wrap IntKind.u32 (IntKind.wrap IntKind.u64 (RpS.c i + IntKind.wrap IntKind.u64 (wdg a (↑(RpS.i i) : Int) + wdg b (↑(RpS.i i) : Int))))]))) = RpS.i j) ∧ Int.fdiv (IntKind.wrap IntKind.u64 (RpS.c i + IntKind.wrap IntKind.u64 (wdg a (↑(RpS.i i) : Int) + wdg b (↑(RpS.i i) : Int)))) ((2 : Int) ^ min (Int.toNat (32 : Int)) (IntKind.bits IntKind.u64)) = RpS.c j ∧ IntKind.wrap IntKind.i64 ((↑(RpS.i i) : Int) + (1 : Int)) = (↑(RpS.i j) : Int) ∧ True) ∧ List.take (RpS.i i) (RpS.out i) ++ List.take (1 : Nat) (List.drop (0 : Nat) [IntKind.wrap IntKind.u32 (IntKind.wrap IntKind.u64 (RpS.c i + IntKind.wrap IntKind.u64 (wdg a (↑(RpS.i i) : Int) + wdg b (↑(RpS.i i) : Int))))]) = RpS.out j ∧ True) ∧ max (List.length a) (List.length b) - RpS.i j < max (List.length a) (List.length b) - RpS.i i else ((0 : Nat) + (1 : Nat) ≤ List.length [IntKind.wrap IntKind.u32 (RpS.c i)] ∧ RpS.i i ≤ List.length (RpS.out i) ∧ (RpS.i i + News.len (News.ints IntKind.u32 (List.take (1 : Nat) (List.drop (0 : Nat) [IntKind.wrap IntKind.u32 (RpS.c i)])))) * (4 : Nat) ≤ (140737488355328 : Nat)) ∧ (0 : Nat) + (RpS.i i + News.len (News.ints IntKind.u32 (List.take (1 : Nat) (List.drop (0 : Nat) [IntKind.wrap IntKind.u32 (RpS.c i)])))) ≤ List.length (List.take (RpS.i i) (RpS.out i) ++ List.take (1 : Nat) (List.drop (0 : Nat) [IntKind.wrap IntKind.u32 (RpS.c i)])) ∧ List.take (RpS.i i + News.len (News.ints IntKind.u32 (List.take (1 : Nat) (List.drop (0 : Nat) [IntKind.wrap IntKind.u32 (RpS.c i)])))) (List.drop (0 : Nat) (List.take (RpS.i i) (RpS.out i) ++ List.take (1 : Nat) (List.drop (0 : Nat) [IntKind.wrap IntKind.u32 (RpS.c i)]))) = digs (max (List.length a) (List.length b) + (1 : Nat)) (wv a + wv b)) = evFn (env [c_rword] (a_rplus a b)) Tryz.f112 [.ws a, .ws b] (MRes.sat (.ret (.ws (digs (max a.length b.length + 1) (wv a + wv b))))) := by kernel_rfl

/-! ### minus -/
def s_rminus : FSpec
  | [.ws a, .ws b] => some (some (Wd a ∧ Wd b ∧ a.length ≤ 1000000000 ∧ b.length ≤ a.length ∧ wv b ≤ wv a), .ret (.ws (digs a.length (wv a - wv b))))
  | _ => none
structure RmI (a b : List Int) (s : RpS) : Prop where
  hi : s.i ≤ a.length
  len : s.out.length = s.i
  wd : Wd s.out
  c0 : 0 ≤ s.c ∧ s.c ≤ 1
  sum : wv s.out - 4294967296 ^ s.i * s.c = wv (a.take s.i) - wv (b.take s.i)
def a_rminus (a b : List Int) : Nat → MS → Option LoopAnn
  | 4, _ => some (.inv RpS (RmI a b) (fun s => ⟨35, [(0, .ws a), (1, .ws b), (5, .bs 0 0 s.i), (6, .int .u64 s.c), (7, .int .i64 s.i)], [⟨false, .arr .u32 s.out⟩], 0⟩) (fun s => a.length - s.i))
  | _, _ => none
theorem vc_rminus (a b : List Int) : ((∃ i, RmI a b i ∧ (a = a ∧ b = b ∧ ((0 : Nat) = (0 : Nat) ∧ (0 : Nat) = RpS.i i) ∧ (0 : Int) = RpS.c i ∧ (0 : Int) = (↑(RpS.i i) : Int) ∧ True) ∧ [] = RpS.out i ∧ True) ∧ ∀ (i : RpS), RmI a b i → bif decide ((↑(RpS.i i) : Int) < (↑(List.length a) : Int)) then (∀ (x : Int), x ∈ a → (0 : Int) ≤ x ∧ x < (4294967296 : Int)) ∧ (∀ (x : Int), x ∈ b → (0 : Int) ≤ x ∧ x < (4294967296 : Int)) ∧ ((0 : Nat) + (1 : Nat) ≤ List.length [IntKind.wrap IntKind.u32 (IntKind.wrap IntKind.u64 (IntKind.wrap IntKind.u64 (IntKind.wrap IntKind.u64 ((4294967296 : Int) + wdg a (↑(RpS.i i) : Int)) - wdg b (↑(RpS.i i) : Int)) - RpS.c i))] ∧ RpS.i i ≤ List.length (RpS.out i) ∧ (RpS.i i + News.len (News.ints IntKind.u32 (List.take (1 : Nat) (List.drop (0 : Nat) [IntKind.wrap IntKind.u32 (IntKind.wrap IntKind.u64 (IntKind.wrap IntKind.u64 (IntKind.wrap IntKind.u64 ((4294967296 : Int) + wdg a (↑(RpS.i i) : Int)) - wdg b (↑(RpS.i i) : Int)) - RpS.c i))])))) * (4 : Nat) ≤ (140737488355328 : Nat)) ∧ (0 : Int) ≤ (32 : Int) ∧ ∃ j, RmI a b j ∧ ((a = a ∧ b = b ∧ ((0 : Nat) = (0 : Nat) ∧ RpS.i i + News.len (News.ints IntKind.u32 (List.take (1 : Nat) (List.drop (0 : Nat) [IntKind.wrap IntKind.u32 (IntKind.wrap IntKind.u64 (IntKind.wrap IntKind.u64 (IntKind.wrap IntKind.u64 ((4294967296 : Int) + wdg a (↑(RpS.i i) : Int)) - wdg b (↑(RpS.i i) : Int)) - RpS.c i))]))) = RpS.i j) ∧ IntKind.wrap IntKind.u64 ((1 : Int) - Int.fdiv (IntKind.wrap IntKind.u64 (IntKind.wrap IntKind.u64 (IntKind.wrap IntKind.u64 ((4294967296 : Int) + wdg a (↑(RpS.i i) : Int)) - wdg b (↑(RpS.i i) : Int)) - RpS.c i)) ((2 : Int) ^ min (Int.toNat (32 : Int)) (IntKind.bits IntKind.u64))) = RpS.c j ∧ IntKind.wrap IntKind.i64 ((↑(RpS.i i) : Int) + (1 : Int)) = (↑(RpS.i j) : Int) ∧ True) ∧ List.take (RpS.i i) (RpS.out i) ++ List.take (1 : Nat) (List.drop (0 : Nat) [IntKind.wrap IntKind.u32 (IntKind.wrap IntKind.u64 (IntKind.wrap IntKind.u64 (IntKind.wrap IntKind.u64 ((4294967296 : Int) + wdg a (↑(RpS.i i) : Int)) - wdg b (↑(RpS.i i) : Int)) - RpS.c i))]) = RpS.out j ∧ True) ∧ List.length a - RpS.i j < List.length a - RpS.i i else (0 : Nat) + RpS.i i ≤ List.length (RpS.out i) ∧ List.take (RpS.i i) (List.drop (0 : Nat) (RpS.out i)) = digs (List.length a) (wv a - wv b)) = evFn (env [c_rword] (a_rminus a b)) Tryz.f113 [.ws a, .ws b] (MRes.sat (.ret (.ws (digs a.length (wv a - wv b))))) := by kernel_rfl

theorem ones (x : Int) : List.take 1 (List.drop 0 [x]) = [x] := rfl
theorem ones' (x : Int) : List.take 1 [x] = [x] := rfl
theorem news1 (x : Int) : News.len (News.ints .u32 [x]) = 1 := rfl
theorem wv_one (x : Int) : wv [x] = x := by simp [wv]
theorem Wd.one {x : Int} (h : 0 ≤ x ∧ x < 4294967296) : Wd [x] := Wd.cons h Wd.nil

theorem RpI.step {a b : List Int} {s : RpS} (h : RpI a b s) (ha : Wd a) (hb : Wd b) (hi : s.i < max a.length b.length) {t : Int} (ht : t = s.c + (a.getD s.i 0 + b.getD s.i 0)) :
    RpI a b ⟨s.i + 1, s.out ++ [t % 4294967296], t / 4294967296⟩ := by
  have h1 := ha.getD s.i
  have h2 := hb.getD s.i
  have h3 := h.c0
  refine ⟨by show s.i + 1 ≤ _; omega, by simp [h.len], h.wd.append (Wd.one (by omega)), by show 0 ≤ t / 4294967296 ∧ t / 4294967296 ≤ 1; omega, ?_⟩
  show wv (s.out ++ [t % 4294967296]) + 4294967296 ^ (s.i + 1) * (t / 4294967296) = wv (a.take (s.i + 1)) + wv (b.take (s.i + 1))
  rw [wv_append, wv_one, wv_take_succ, wv_take_succ, h.len, Int.pow_succ]
  have h4 := h.sum
  have h5 := carry_step (4294967296 ^ s.i) t
  have h6 : (4294967296 : Int) ^ s.i * t = 4294967296 ^ s.i * s.c + (4294967296 ^ s.i * a.getD s.i 0 + 4294967296 ^ s.i * b.getD s.i 0) := by rw [ht, Int.mul_add, Int.mul_add]
  omega

theorem p_rplus : Good Tryz.f112 s_rplus := by
  intro ms p r h hp
  unfold s_rplus at h
  split at h
  · rename_i a b
    simp only [Option.some.injEq, Prod.mk.injEq] at h
    obtain ⟨rfl, rfl⟩ := h
    obtain ⟨ha, hb, la, lb⟩ : Wd a ∧ Wd b ∧ a.length ≤ 1000000000 ∧ b.length ≤ 1000000000 := hp
    refine ⟨env [c_rword] (a_rplus a b), ?_⟩
    rw [← vc_rplus a b]
    refine ⟨⟨⟨0, [], 0⟩, ⟨Nat.zero_le _, rfl, Wd.nil, ⟨Int.le_refl _, by show (0 : Int) ≤ 1; omega⟩, by simp [wv]⟩, (by and_intros <;> first | exact True.intro | rfl | omega)⟩, ?_⟩
    rintro ⟨i, out, c⟩ hI
    have hc : 0 ≤ c ∧ c ≤ 1 := hI.c0
    have hl : out.length = i := hI.len
    have hi : i ≤ max a.length b.length := hI.hi
    have hm : maxI (a.length : Int) (b.length : Int) = ((max a.length b.length : Nat) : Int) := by unfold maxI; split <;> omega
    have h1 := ha.getD i
    have h2 := hb.getD i
    have e1 : IntKind.u64.wrap (a.getD i 0 + b.getD i 0) = a.getD i 0 + b.getD i 0 := eu64 (by omega)
    have e2 : IntKind.u64.wrap (c + (a.getD i 0 + b.getD i 0)) = c + (a.getD i 0 + b.getD i 0) := eu64 (by omega)
    have e3 : IntKind.i64.wrap ((i : Int) + 1) = ((i + 1 : Nat) : Int) := by rw [i64w (by omega) (by omega)]; omega
    have e4 : IntKind.u32.wrap c = c := eu32 (by omega)
    have e5 : Int.fdiv (c + (a.getD i 0 + b.getD i 0)) 4294967296 = (c + (a.getD i 0 + b.getD i 0)) / 4294967296 := Int.fdiv_eq_ediv_of_nonneg _ (by omega)
    have e6 : List.take i out = out := List.take_of_length_le (by omega)
    simp only [wdg_nat, hm, e1, e2, e3, e4, ones, news1, p32, e5, e6, u32w (c + (a.getD i 0 + b.getD i 0)), Bool.cond_decide]
    split
    · rename_i hlt
      have hlt : i < max a.length b.length := by omega
      exact ⟨ha, hb, ⟨by simp, by omega, by omega⟩, by omega, _, hI.step ha hb hlt rfl, (by and_intros <;> first | exact True.intro | rfl | omega), by show max a.length b.length - (i + 1) < max a.length b.length - i; omega⟩
    · rename_i hge
      have hE : i = max a.length b.length := by omega
      have hsum : wv out + 4294967296 ^ i * c = wv (a.take i) + wv (b.take i) := hI.sum
      rw [wv_take_all (by omega), wv_take_all (by omega)] at hsum
      have e7 : List.take (i + 1) (List.drop 0 (out ++ [c])) = out ++ [c] := by rw [List.drop_zero]; exact List.take_of_length_le (by simp; omega)
      rw [e7]
      refine ⟨⟨by simp, by omega, by omega⟩, by simp; omega, ?_⟩
      have := digs_wv (l := out ++ [c]) (hI.wd.append (Wd.one (by omega)))
      rw [wv_append, wv_one, hl, hsum] at this
      rw [← this, ← hE]
      simp [hl]
  · simp at h
def c_rplus : Ctr Tryz.prog := ⟨112, s_rplus, fun args w => Tryz.call112 args w, fn_ok mix Tryz.func112 s_rplus p_rplus⟩

theorem RmI.step {a b : List Int} {s : RpS} (h : RmI a b s) (ha : Wd a) (hb : Wd b) (hi : s.i < a.length) {t : Int} (ht : t = 4294967296 + a.getD s.i 0 - b.getD s.i 0 - s.c) :
    RmI a b ⟨s.i + 1, s.out ++ [t % 4294967296], 1 - t / 4294967296⟩ := by
  have h1 := ha.getD s.i
  have h2 := hb.getD s.i
  have h3 := h.c0
  refine ⟨by show s.i + 1 ≤ _; omega, by simp [h.len], h.wd.append (Wd.one (by omega)), by show 0 ≤ 1 - t / 4294967296 ∧ 1 - t / 4294967296 ≤ 1; omega, ?_⟩
  show wv (s.out ++ [t % 4294967296]) - 4294967296 ^ (s.i + 1) * (1 - t / 4294967296) = wv (a.take (s.i + 1)) - wv (b.take (s.i + 1))
  rw [wv_append, wv_one, wv_take_succ, wv_take_succ, h.len, Int.pow_succ]
  have h4 := h.sum
  have h5 := carry_step (4294967296 ^ s.i) t
  have h6 : (4294967296 : Int) ^ s.i * t = 4294967296 ^ s.i * 4294967296 + 4294967296 ^ s.i * a.getD s.i 0 - 4294967296 ^ s.i * b.getD s.i 0 - 4294967296 ^ s.i * s.c := by rw [ht, Int.mul_sub, Int.mul_sub, Int.mul_add]
  rw [Int.mul_sub, Int.mul_one]
  omega

theorem p_rminus : Good Tryz.f113 s_rminus := by
  intro ms p r h hp
  unfold s_rminus at h
  split at h
  · rename_i a b
    simp only [Option.some.injEq, Prod.mk.injEq] at h
    obtain ⟨rfl, rfl⟩ := h
    obtain ⟨ha, hb, la, lb, hle⟩ : Wd a ∧ Wd b ∧ a.length ≤ 1000000000 ∧ b.length ≤ a.length ∧ wv b ≤ wv a := hp
    refine ⟨env [c_rword] (a_rminus a b), ?_⟩
    rw [← vc_rminus a b]
    refine ⟨⟨⟨0, [], 0⟩, ⟨Nat.zero_le _, rfl, Wd.nil, ⟨Int.le_refl _, by show (0 : Int) ≤ 1; omega⟩, by simp [wv]⟩, (by and_intros <;> first | exact True.intro | rfl | omega)⟩, ?_⟩
    rintro ⟨i, out, c⟩ hI
    have hc : 0 ≤ c ∧ c ≤ 1 := hI.c0
    have hl : out.length = i := hI.len
    have hi : i ≤ a.length := hI.hi
    have h1 := ha.getD i
    have h2 := hb.getD i
    have e0 : IntKind.u64.wrap (4294967296 + a.getD i 0) = 4294967296 + a.getD i 0 := eu64 (by omega)
    have e1 : IntKind.u64.wrap (4294967296 + a.getD i 0 - b.getD i 0) = 4294967296 + a.getD i 0 - b.getD i 0 := eu64 (by omega)
    have e2 : IntKind.u64.wrap (4294967296 + a.getD i 0 - b.getD i 0 - c) = 4294967296 + a.getD i 0 - b.getD i 0 - c := eu64 (by omega)
    have e3 : IntKind.i64.wrap ((i : Int) + 1) = ((i + 1 : Nat) : Int) := by rw [i64w (by omega) (by omega)]; omega
    have e5 : Int.fdiv (4294967296 + a.getD i 0 - b.getD i 0 - c) 4294967296 = (4294967296 + a.getD i 0 - b.getD i 0 - c) / 4294967296 := Int.fdiv_eq_ediv_of_nonneg _ (by omega)
    have e6 : List.take i out = out := List.take_of_length_le (by omega)
    have e8 : IntKind.u64.wrap (1 - (4294967296 + a.getD i 0 - b.getD i 0 - c) / 4294967296) = 1 - (4294967296 + a.getD i 0 - b.getD i 0 - c) / 4294967296 := eu64 (by omega)
    simp only [wdg_nat, e0, e1, e2, e3, ones', news1, p32, e5, e6, e8, u32w (4294967296 + a.getD i 0 - b.getD i 0 - c), Bool.cond_decide, List.drop_zero]
    split
    · rename_i hlt
      have hlt : i < a.length := by omega
      exact ⟨ha, hb, ⟨by simp, by omega, by omega⟩, by omega, _, hI.step ha hb hlt rfl, (by and_intros <;> first | exact True.intro | rfl | omega), by show a.length - (i + 1) < a.length - i; omega⟩
    · rename_i hge
      have hE : i = a.length := by omega
      have hsum : wv out - 4294967296 ^ i * c = wv (a.take i) - wv (b.take i) := hI.sum
      rw [wv_take_all (by omega), wv_take_all (by omega)] at hsum
      have hw : wv out < 4294967296 ^ i := by have := wv_lt hI.wd; rwa [hl] at this
      have hp := pow_pos32 i
      have hc0 : c = 0 := by
        rcases (show c = 0 ∨ c = 1 by omega) with q | q
        · exact q
        · rw [q, Int.mul_one] at hsum; omega
      rw [hc0, Int.mul_zero, Int.sub_zero] at hsum
      have := digs_wv (l := out) hI.wd
      rw [hsum, hl, hE] at this
      exact ⟨by omega, this.symm⟩
  · simp at h
def c_rminus : Ctr Tryz.prog := ⟨113, s_rminus, fun args w => Tryz.call113 args w, fn_ok mix Tryz.func113 s_rminus p_rminus⟩

/-! ### Add, Sub, Mul, Bits -/
theorem vc_radd (a b : Int) (n m : Nat) : (bif decide (a < (0 : Int)) == decide (b < (0 : Int)) then ((∀ (x : Int), x ∈ limbs (Int.natAbs a) → (0 : Int) ≤ x ∧ x < (4294967296 : Int)) ∧ (∀ (x : Int), x ∈ limbs (Int.natAbs b) → (0 : Int) ≤ x ∧ x < (4294967296 : Int)) ∧ List.length (limbs (Int.natAbs a)) ≤ (1000000000 : Nat) ∧ List.length (limbs (Int.natAbs b)) ≤ (1000000000 : Nat)) ∧ ((∀ (x : Int), x ∈ digs (max (List.length (limbs (Int.natAbs a))) (List.length (limbs (Int.natAbs b))) + (1 : Nat)) (wv (limbs (Int.natAbs a)) + wv (limbs (Int.natAbs b))) → (0 : Int) ≤ x ∧ x < (4294967296 : Int)) ∧ List.length (digs (max (List.length (limbs (Int.natAbs a))) (List.length (limbs (Int.natAbs b))) + (1 : Nat)) (wv (limbs (Int.natAbs a)) + wv (limbs (Int.natAbs b)))) ≤ (1000000000 : Nat)) ∧ sg (decide (a < (0 : Int))) (wv (digs (max (List.length (limbs (Int.natAbs a))) (List.length (limbs (Int.natAbs b))) + (1 : Nat)) (wv (limbs (Int.natAbs a)) + wv (limbs (Int.natAbs b))))) = a + b ∧ ((32 : Nat) * List.length (digs (max (List.length (limbs (Int.natAbs a))) (List.length (limbs (Int.natAbs b))) + (1 : Nat)) (wv (limbs (Int.natAbs a)) + wv (limbs (Int.natAbs b)))) ≤ max n m + (1 : Nat) ∨ Int.natAbs (sg (decide (a < (0 : Int))) (wv (digs (max (List.length (limbs (Int.natAbs a))) (List.length (limbs (Int.natAbs b))) + (1 : Nat)) (wv (limbs (Int.natAbs a)) + wv (limbs (Int.natAbs b)))))) < (2 : Nat) ^ (max n m + (1 : Nat))) else (limbs (Int.toNat (wv (limbs (Int.natAbs a)))) = limbs (Int.natAbs a) ∧ limbs (Int.toNat (wv (limbs (Int.natAbs b)))) = limbs (Int.natAbs b) ∧ List.length (limbs (Int.natAbs a)) ≤ (1099511627776 : Nat) ∧ List.length (limbs (Int.natAbs b)) ≤ (1099511627776 : Nat)) ∧ bif decide (icmp (wv (limbs (Int.natAbs a))) (wv (limbs (Int.natAbs b))) ≥ (0 : Int)) then ((∀ (x : Int), x ∈ limbs (Int.natAbs a) → (0 : Int) ≤ x ∧ x < (4294967296 : Int)) ∧ (∀ (x : Int), x ∈ limbs (Int.natAbs b) → (0 : Int) ≤ x ∧ x < (4294967296 : Int)) ∧ List.length (limbs (Int.natAbs a)) ≤ (1000000000 : Nat) ∧ List.length (limbs (Int.natAbs b)) ≤ List.length (limbs (Int.natAbs a)) ∧ wv (limbs (Int.natAbs b)) ≤ wv (limbs (Int.natAbs a))) ∧ ((∀ (x : Int), x ∈ digs (List.length (limbs (Int.natAbs a))) (wv (limbs (Int.natAbs a)) - wv (limbs (Int.natAbs b))) → (0 : Int) ≤ x ∧ x < (4294967296 : Int)) ∧ List.length (digs (List.length (limbs (Int.natAbs a))) (wv (limbs (Int.natAbs a)) - wv (limbs (Int.natAbs b)))) ≤ (1000000000 : Nat)) ∧ sg (decide (a < (0 : Int))) (wv (digs (List.length (limbs (Int.natAbs a))) (wv (limbs (Int.natAbs a)) - wv (limbs (Int.natAbs b))))) = a + b ∧ ((32 : Nat) * List.length (digs (List.length (limbs (Int.natAbs a))) (wv (limbs (Int.natAbs a)) - wv (limbs (Int.natAbs b)))) ≤ max n m + (1 : Nat) ∨ Int.natAbs (sg (decide (a < (0 : Int))) (wv (digs (List.length (limbs (Int.natAbs a))) (wv (limbs (Int.natAbs a)) - wv (limbs (Int.natAbs b)))))) < (2 : Nat) ^ (max n m + (1 : Nat))) else ((∀ (x : Int), x ∈ limbs (Int.natAbs b) → (0 : Int) ≤ x ∧ x < (4294967296 : Int)) ∧ (∀ (x : Int), x ∈ limbs (Int.natAbs a) → (0 : Int) ≤ x ∧ x < (4294967296 : Int)) ∧ List.length (limbs (Int.natAbs b)) ≤ (1000000000 : Nat) ∧ List.length (limbs (Int.natAbs a)) ≤ List.length (limbs (Int.natAbs b)) ∧ wv (limbs (Int.natAbs a)) ≤ wv (limbs (Int.natAbs b))) ∧ ((∀ (x : Int), x ∈ digs (List.length (limbs (Int.natAbs b))) (wv (limbs (Int.natAbs b)) - wv (limbs (Int.natAbs a))) → (0 : Int) ≤ x ∧ x < (4294967296 : Int)) ∧ List.length (digs (List.length (limbs (Int.natAbs b))) (wv (limbs (Int.natAbs b)) - wv (limbs (Int.natAbs a)))) ≤ (1000000000 : Nat)) ∧ sg (decide (b < (0 : Int))) (wv (digs (List.length (limbs (Int.natAbs b))) (wv (limbs (Int.natAbs b)) - wv (limbs (Int.natAbs a))))) = a + b ∧ ((32 : Nat) * List.length (digs (List.length (limbs (Int.natAbs b))) (wv (limbs (Int.natAbs b)) - wv (limbs (Int.natAbs a)))) ≤ max n m + (1 : Nat) ∨ Int.natAbs (sg (decide (b < (0 : Int))) (wv (digs (List.length (limbs (Int.natAbs b))) (wv (limbs (Int.natAbs b)) - wv (limbs (Int.natAbs a)))))) < (2 : Nat) ^ (max n m + (1 : Nat)))) = evFn (env [c_rmade, c_rplus, c_rminus, c_rsize] noAnn) Tryz.f81 [.big a n, .big b m] (MRes.sat (.ret (.big (a + b) (max n m + 1)))) := by kernel_rfl
def a_rmul (a b : Int) (n m : Nat) : Nat → MS → Option LoopAnn
  | 3, _ => some (.inv MulS (MulO (limbs a.natAbs) (limbs b.natAbs)) (fun s => ⟨79, [(2, .bp 0 0), (3, .bp 1 0), (4, .bp 2 0), (5, .bs 3 0 ((limbs a.natAbs).length + (limbs b.natAbs).length)), (6, .int .i64 s.i)], [⟨false, .one (.big a n)⟩, ⟨false, .one (.big b m)⟩, ⟨false, .one (.big 0 0)⟩, ⟨false, .arr .u32 s.out⟩], 0⟩) (fun s => (limbs a.natAbs).length - s.i))
  | 7, s0 => some (.inv MulS (fun s => MulN (limbs a.natAbs) (limbs b.natAbs) s ∧ .int .i64 (s.i : Int) = look 6 s0.tm) (fun s => ⟨79, [(2, .bp 0 0), (3, .bp 1 0), (4, .bp 2 0), (5, .bs 3 0 ((limbs a.natAbs).length + (limbs b.natAbs).length)), (6, .int .i64 s.i), (7, .int .u64 s.c), (8, .int .i64 s.k)], [⟨false, .one (.big a n)⟩, ⟨false, .one (.big b m)⟩, ⟨false, .one (.big 0 0)⟩, ⟨false, .arr .u32 s.out⟩], 0⟩) (fun s => (limbs b.natAbs).length - s.k))
  | _, _ => none
theorem vc_rmul (a b : Int) (n m : Nat) : (((0 : Int) ≤ IntKind.wrap IntKind.i64 ((↑(List.length (limbs (Int.natAbs a))) : Int) + (↑(List.length (limbs (Int.natAbs b))) : Int)) ∧ IntKind.wrap IntKind.i64 ((↑(List.length (limbs (Int.natAbs a))) : Int) + (↑(List.length (limbs (Int.natAbs b))) : Int)) = IntKind.wrap IntKind.i64 ((↑(List.length (limbs (Int.natAbs a))) : Int) + (↑(List.length (limbs (Int.natAbs b))) : Int)) ∧ (↑(4 : Nat) : Int) * IntKind.wrap IntKind.i64 ((↑(List.length (limbs (Int.natAbs a))) : Int) + (↑(List.length (limbs (Int.natAbs b))) : Int)) ≤ (140737488355328 : Int)) ∧ (∃ i, MulO (limbs (Int.natAbs a)) (limbs (Int.natAbs b)) i ∧ ((0 : Nat) = (0 : Nat) ∧ (0 : Nat) = (0 : Nat) ∧ (0 : Nat) = (0 : Nat) ∧ ((0 : Nat) = (0 : Nat) ∧ Int.toNat (IntKind.wrap IntKind.i64 ((↑(List.length (limbs (Int.natAbs a))) : Int) + (↑(List.length (limbs (Int.natAbs b))) : Int))) = List.length (limbs (Int.natAbs a)) + List.length (limbs (Int.natAbs b))) ∧ (0 : Int) = (↑(MulS.i i) : Int) ∧ True) ∧ (a = a ∧ (n ≤ n ∨ Int.natAbs a < (2 : Nat) ^ n)) ∧ (b = b ∧ (m ≤ m ∨ Int.natAbs b < (2 : Nat) ^ m)) ∧ ((0 : Int) = (0 : Int) ∧ ((0 : Nat) ≤ (0 : Nat) ∨ Int.natAbs (0 : Int) < (2 : Nat) ^ (0 : Nat))) ∧ List.replicate (Int.toNat (IntKind.wrap IntKind.i64 ((↑(List.length (limbs (Int.natAbs a))) : Int) + (↑(List.length (limbs (Int.natAbs b))) : Int)))) (0 : Int) = MulS.out i ∧ True) ∧ ∀ (i : MulS), MulO (limbs (Int.natAbs a)) (limbs (Int.natAbs b)) i → bif decide ((↑(MulS.i i) : Int) < (↑(List.length (limbs (Int.natAbs a))) : Int)) then (∃ i_1, (MulN (limbs (Int.natAbs a)) (limbs (Int.natAbs b)) i_1 ∧ MV.int IntKind.i64 (↑(MulS.i i_1) : Int) = MV.int IntKind.i64 (↑(MulS.i i) : Int)) ∧ ((0 : Nat) = (0 : Nat) ∧ (0 : Nat) = (0 : Nat) ∧ (0 : Nat) = (0 : Nat) ∧ ((0 : Nat) = (0 : Nat) ∧ List.length (limbs (Int.natAbs a)) + List.length (limbs (Int.natAbs b)) = List.length (limbs (Int.natAbs a)) + List.length (limbs (Int.natAbs b))) ∧ (↑(MulS.i i) : Int) = (↑(MulS.i i_1) : Int) ∧ (0 : Int) = MulS.c i_1 ∧ (0 : Int) = (↑(MulS.k i_1) : Int) ∧ True) ∧ (a = a ∧ (n ≤ n ∨ Int.natAbs a < (2 : Nat) ^ n)) ∧ (b = b ∧ (m ≤ m ∨ Int.natAbs b < (2 : Nat) ^ m)) ∧ ((0 : Int) = (0 : Int) ∧ ((0 : Nat) ≤ (0 : Nat) ∨ Int.natAbs (0 : Int) < (2 : Nat) ^ (0 : Nat))) ∧ MulS.out i = MulS.out i_1 ∧ True) ∧ ∀ (i_1 : MulS), MulN (limbs (Int.natAbs a)) (limbs (Int.natAbs b)) i_1 ∧ MV.int IntKind.i64 (↑(MulS.i i_1) : Int) = MV.int IntKind.i64 (↑(MulS.i i) : Int) → bif decide ((↑(MulS.k i_1) : Int) < (↑(List.length (limbs (Int.natAbs b))) : Int)) then ((0 : Int) ≤ (↑(MulS.i i_1) : Int) ∧ (↑(MulS.i i_1) : Int) < (↑(List.length (limbs (Int.natAbs a))) : Int)) ∧ ((0 : Int) ≤ (↑(MulS.k i_1) : Int) ∧ (↑(MulS.k i_1) : Int) < (↑(List.length (limbs (Int.natAbs b))) : Int)) ∧ ((0 : Int) ≤ IntKind.wrap IntKind.i64 ((↑(MulS.i i_1) : Int) + (↑(MulS.k i_1) : Int)) ∧ IntKind.wrap IntKind.i64 ((↑(MulS.i i_1) : Int) + (↑(MulS.k i_1) : Int)) < (↑(List.length (limbs (Int.natAbs a)) + List.length (limbs (Int.natAbs b))) : Int)) ∧ (0 : Nat) + Int.toNat (IntKind.wrap IntKind.i64 ((↑(MulS.i i_1) : Int) + (↑(MulS.k i_1) : Int))) < List.length (MulS.out i_1) ∧ ((0 : Int) ≤ IntKind.wrap IntKind.i64 ((↑(MulS.i i_1) : Int) + (↑(MulS.k i_1) : Int)) ∧ IntKind.wrap IntKind.i64 ((↑(MulS.i i_1) : Int) + (↑(MulS.k i_1) : Int)) < (↑(List.length (limbs (Int.natAbs a)) + List.length (limbs (Int.natAbs b))) : Int)) ∧ (0 : Nat) + Int.toNat (IntKind.wrap IntKind.i64 ((↑(MulS.i i_1) : Int) + (↑(MulS.k i_1) : Int))) < List.length (MulS.out i_1) ∧ (0 : Int) ≤ (32 : Int) ∧ ∃ j, (MulN (limbs (Int.natAbs a)) (limbs (Int.natAbs b)) j ∧ MV.int IntKind.i64 (↑(MulS.i j) : Int) = MV.int IntKind.i64 (↑(MulS.i i) : Int)) ∧ (((0 : Nat) = (0 : Nat) ∧ (0 : Nat) = (0 : Nat) ∧ (0 : Nat) = (0 : Nat) ∧ ((0 : Nat) = (0 : Nat) ∧ List.length (limbs (Int.natAbs a)) + List.length (limbs (Int.natAbs b)) = List.length (limbs (Int.natAbs a)) + List.length (limbs (Int.natAbs b))) ∧ (↑(MulS.i i_1) : Int) = (↑(MulS.i j) : Int) ∧ Int.fdiv (IntKind.wrap IntKind.u64 (MulS.c i_1 + IntKind.wrap IntKind.u64 (IntKind.wrap IntKind.u64 (IntKind.wrap IntKind.u64 (List.getD (limbs (Int.natAbs a)) (Int.toNat (↑(MulS.i i_1) : Int)) (0 : Int)) * IntKind.wrap IntKind.u64 (List.getD (limbs (Int.natAbs b)) (Int.toNat (↑(MulS.k i_1) : Int)) (0 : Int))) + IntKind.wrap IntKind.u64 (List.getD (MulS.out i_1) ((0 : Nat) + Int.toNat (IntKind.wrap IntKind.i64 ((↑(MulS.i i_1) : Int) + (↑(MulS.k i_1) : Int)))) (0 : Int))))) ((2 : Int) ^ min (Int.toNat (32 : Int)) (IntKind.bits IntKind.u64)) = MulS.c j ∧ IntKind.wrap IntKind.i64 ((↑(MulS.k i_1) : Int) + (1 : Int)) = (↑(MulS.k j) : Int) ∧ True) ∧ (a = a ∧ (n ≤ n ∨ Int.natAbs a < (2 : Nat) ^ n)) ∧ (b = b ∧ (m ≤ m ∨ Int.natAbs b < (2 : Nat) ^ m)) ∧ ((0 : Int) = (0 : Int) ∧ ((0 : Nat) ≤ (0 : Nat) ∨ Int.natAbs (0 : Int) < (2 : Nat) ^ (0 : Nat))) ∧ List.set (MulS.out i_1) ((0 : Nat) + Int.toNat (IntKind.wrap IntKind.i64 ((↑(MulS.i i_1) : Int) + (↑(MulS.k i_1) : Int)))) (IntKind.wrap IntKind.u32 (IntKind.wrap IntKind.u64 (MulS.c i_1 + IntKind.wrap IntKind.u64 (IntKind.wrap IntKind.u64 (IntKind.wrap IntKind.u64 (List.getD (limbs (Int.natAbs a)) (Int.toNat (↑(MulS.i i_1) : Int)) (0 : Int)) * IntKind.wrap IntKind.u64 (List.getD (limbs (Int.natAbs b)) (Int.toNat (↑(MulS.k i_1) : Int)) (0 : Int))) + IntKind.wrap IntKind.u64 (List.getD (MulS.out i_1) ((0 : Nat) + Int.toNat (IntKind.wrap IntKind.i64 ((↑(MulS.i i_1) : Int) + (↑(MulS.k i_1) : Int)))) (0 : Int)))))) = MulS.out j ∧ True) ∧ List.length (limbs (Int.natAbs b)) - MulS.k j < List.length (limbs (Int.natAbs b)) - MulS.k i_1 else ((0 : Int) ≤ IntKind.wrap IntKind.i64 ((↑(MulS.i i_1) : Int) + (↑(List.length (limbs (Int.natAbs b))) : Int)) ∧ IntKind.wrap IntKind.i64 ((↑(MulS.i i_1) : Int) + (↑(List.length (limbs (Int.natAbs b))) : Int)) < (↑(List.length (limbs (Int.natAbs a)) + List.length (limbs (Int.natAbs b))) : Int)) ∧ (0 : Nat) + Int.toNat (IntKind.wrap IntKind.i64 ((↑(MulS.i i_1) : Int) + (↑(List.length (limbs (Int.natAbs b))) : Int))) < List.length (MulS.out i_1) ∧ ∃ j, MulO (limbs (Int.natAbs a)) (limbs (Int.natAbs b)) j ∧ (((0 : Nat) = (0 : Nat) ∧ (0 : Nat) = (0 : Nat) ∧ (0 : Nat) = (0 : Nat) ∧ ((0 : Nat) = (0 : Nat) ∧ List.length (limbs (Int.natAbs a)) + List.length (limbs (Int.natAbs b)) = List.length (limbs (Int.natAbs a)) + List.length (limbs (Int.natAbs b))) ∧ IntKind.wrap IntKind.i64 ((↑(MulS.i i_1) : Int) + (1 : Int)) = (↑(MulS.i j) : Int) ∧ True) ∧ (a = a ∧ (n ≤ n ∨ Int.natAbs a < (2 : Nat) ^ n)) ∧ (b = b ∧ (m ≤ m ∨ Int.natAbs b < (2 : Nat) ^ m)) ∧ ((0 : Int) = (0 : Int) ∧ ((0 : Nat) ≤ (0 : Nat) ∨ Int.natAbs (0 : Int) < (2 : Nat) ^ (0 : Nat))) ∧ List.set (MulS.out i_1) ((0 : Nat) + Int.toNat (IntKind.wrap IntKind.i64 ((↑(MulS.i i_1) : Int) + (↑(List.length (limbs (Int.natAbs b))) : Int)))) (IntKind.wrap IntKind.u32 (MulS.c i_1)) = MulS.out j ∧ True) ∧ List.length (limbs (Int.natAbs a)) - MulS.i j < List.length (limbs (Int.natAbs a)) - MulS.i i else ((0 : Nat) + (List.length (limbs (Int.natAbs a)) + List.length (limbs (Int.natAbs b))) ≤ List.length (MulS.out i) ∧ (∀ (x : Int), x ∈ List.take (List.length (limbs (Int.natAbs a)) + List.length (limbs (Int.natAbs b))) (List.drop (0 : Nat) (MulS.out i)) → (0 : Int) ≤ x ∧ x < (4294967296 : Int)) ∧ List.length (List.take (List.length (limbs (Int.natAbs a)) + List.length (limbs (Int.natAbs b))) (List.drop (0 : Nat) (MulS.out i))) ≤ (1000000000 : Nat)) ∧ sg (!decide (a < (0 : Int)) == decide (b < (0 : Int))) (wv (List.take (List.length (limbs (Int.natAbs a)) + List.length (limbs (Int.natAbs b))) (List.drop (0 : Nat) (MulS.out i)))) = a * b ∧ ((32 : Nat) * List.length (List.take (List.length (limbs (Int.natAbs a)) + List.length (limbs (Int.natAbs b))) (List.drop (0 : Nat) (MulS.out i))) ≤ n + m ∨ Int.natAbs (sg (!decide (a < (0 : Int)) == decide (b < (0 : Int))) (wv (List.take (List.length (limbs (Int.natAbs a)) + List.length (limbs (Int.natAbs b))) (List.drop (0 : Nat) (MulS.out i))))) < (2 : Nat) ^ (n + m))) = evFn (env [c_rmade] (a_rmul a b n m)) Tryz.f77 [.big a n, .big b m] (MRes.sat (.ret (.big (a * b) (n + m)))) := by kernel_rfl

theorem sg_mul (a b : Int) : sg (!(decide (a < 0) == decide (b < 0))) ((a.natAbs : Int) * (b.natAbs : Int)) = a * b := by
  have e : ((a.natAbs : Int) * (b.natAbs : Int)) = ((a * b).natAbs : Int) := by rw [Int.natAbs_mul, Int.natCast_mul]
  rw [e]
  rcases Int.lt_or_le a 0 with h1 | h1 <;> rcases Int.lt_or_le b 0 with h2 | h2
  · rw [show decide (a < 0) = true from decide_eq_true h1, show decide (b < 0) = true from decide_eq_true h2]
    show ((a * b).natAbs : Int) = a * b
    have := Int.mul_nonneg_of_nonpos_of_nonpos (show a ≤ 0 by omega) (show b ≤ 0 by omega)
    omega
  · rw [show decide (a < 0) = true from decide_eq_true h1, show decide (b < 0) = false from decide_eq_false (by omega)]
    show -((a * b).natAbs : Int) = a * b
    have := Int.mul_nonpos_of_nonpos_of_nonneg (show a ≤ 0 by omega) h2
    omega
  · rw [show decide (a < 0) = false from decide_eq_false (by omega), show decide (b < 0) = true from decide_eq_true h2]
    show -((a * b).natAbs : Int) = a * b
    have := Int.mul_nonpos_of_nonneg_of_nonpos h1 (show b ≤ 0 by omega)
    omega
  · rw [show decide (a < 0) = false from decide_eq_false (by omega), show decide (b < 0) = false from decide_eq_false (by omega)]
    show ((a * b).natAbs : Int) = a * b
    have := Int.mul_nonneg h1 h2
    omega

theorem wv_nat_lt (k : Nat) : (k : Int) < 4294967296 ^ (limbs k).length := by
  have := limbs_lt k
  rw [← cast_pow32]; omega

theorem p_radd : GoodF Tryz.f81 s_iadd := by
  intro ms p r h hp hf
  unfold s_iadd at h
  split at h
  · rename_i a n b m
    simp only [Option.some.injEq, Prod.mk.injEq] at h
    obtain ⟨rfl, rfl⟩ := h
    obtain ⟨hn, hm⟩ : n ≤ 1000000 ∧ m ≤ 1000000 := hp
    have ha : a.natAbs < 2 ^ n := hf.1
    have hb : b.natAbs < 2 ^ m := hf.2.1
    refine ⟨env [c_rmade, c_rplus, c_rminus, c_rsize] noAnn, ?_⟩
    have h1 : 2 ^ n ≤ 2 ^ max n m := Nat.pow_le_pow_right (by omega) (by omega)
    have h2 : 2 ^ m ≤ 2 ^ max n m := Nat.pow_le_pow_right (by omega) (by omega)
    have h3 : 2 ^ (max n m + 1) = 2 ^ max n m * 2 := Nat.pow_succ ..
    have hab : (a + b).natAbs < 2 ^ (max n m + 1) := by omega
    have l1 := lim_len ha (by omega)
    have l2 := lim_len hb (by omega)
    have w1 := wv_nat_lt a.natAbs
    have w2 := wv_nat_lt b.natAbs
    have mono : ∀ x y : Nat, x ≤ y → (limbs x).length ≤ (limbs y).length := fun x y hxy => limbs_len_le (Nat.lt_of_le_of_lt hxy (limbs_lt y))
    rw [← vc_radd a b n m]
    simp only [wvl, digs_len, Int.toNat_natCast]
    have hS : wv (digs (max (limbs a.natAbs).length (limbs b.natAbs).length + 1) ((a.natAbs : Int) + (b.natAbs : Int))) = (a.natAbs : Int) + (b.natAbs : Int) := by
      refine wv_digs _ _ (by omega) ?_
      have k1 := pow_le32 (show (limbs a.natAbs).length ≤ max (limbs a.natAbs).length (limbs b.natAbs).length by omega)
      have k2 := pow_le32 (show (limbs b.natAbs).length ≤ max (limbs a.natAbs).length (limbs b.natAbs).length by omega)
      rw [Int.pow_succ]; omega
    have hD1 : b.natAbs ≤ a.natAbs → wv (digs (limbs a.natAbs).length ((a.natAbs : Int) - (b.natAbs : Int))) = (a.natAbs : Int) - (b.natAbs : Int) := fun h => wv_digs _ _ (by omega) (by omega)
    have hD2 : a.natAbs ≤ b.natAbs → wv (digs (limbs b.natAbs).length ((b.natAbs : Int) - (a.natAbs : Int))) = (b.natAbs : Int) - (a.natAbs : Int) := fun h => wv_digs _ _ (by omega) (by omega)
    cases hs : (decide (a < 0) == decide (b < 0)) with
    | true =>
      rw [cond_true, hS]
      have hs : (a < 0) = (b < 0) := by simpa [beq_iff_eq] using hs
      have hs : a < 0 ↔ b < 0 := by rw [hs]
      have es : sg (decide (a < 0)) ((a.natAbs : Int) + (b.natAbs : Int)) = a + b := by
        unfold sg
        by_cases h : a < 0 <;> simp [h] <;> omega
      exact ⟨⟨limbs_wd _, limbs_wd _, by omega, by omega⟩, ⟨digs_wd _ _, by omega⟩, es, .inr (by rw [es]; exact hab)⟩
    | false =>
      rw [cond_false, Bool.cond_decide]
      have hs : ¬ (a < 0 ↔ b < 0) := by
        intro h
        have : decide (a < 0) = decide (b < 0) := decide_eq_decide.2 h
        rw [this] at hs; simp at hs
      refine ⟨⟨True.intro, True.intro, by omega, by omega⟩, ?_⟩
      split
      · rename_i hc
        have hc : b.natAbs ≤ a.natAbs := by unfold icmp at hc; split at hc <;> (try split at hc) <;> omega
        rw [hD1 hc]
        have es : sg (decide (a < 0)) ((a.natAbs : Int) - (b.natAbs : Int)) = a + b := by
          unfold sg
          by_cases h : a < 0 <;> simp [h] <;> omega
        exact ⟨⟨limbs_wd _, limbs_wd _, by omega, mono _ _ hc, by omega⟩, ⟨digs_wd _ _, by omega⟩, es, .inr (by rw [es]; exact hab)⟩
      · rename_i hc
        have hc : a.natAbs ≤ b.natAbs := by unfold icmp at hc; split at hc <;> (try split at hc) <;> omega
        rw [hD2 hc]
        have es : sg (decide (b < 0)) ((b.natAbs : Int) - (a.natAbs : Int)) = a + b := by
          unfold sg
          by_cases h : b < 0 <;> simp [h] <;> omega
        exact ⟨⟨limbs_wd _, limbs_wd _, by omega, mono _ _ hc, by omega⟩, ⟨digs_wd _ _, by omega⟩, es, .inr (by rw [es]; exact hab)⟩
  · simp at h
def c_radd : Ctr Tryz.prog := ⟨81, s_iadd, fun args w => Tryz.call81 args w, fn_ok_facts mix Tryz.func81 s_iadd p_radd⟩

theorem p_rmul : GoodF Tryz.f77 s_mul := by
  intro ms p r h hp hf
  unfold s_mul at h
  split at h
  · rename_i a n b m
    simp only [Option.some.injEq, Prod.mk.injEq] at h
    obtain ⟨rfl, rfl⟩ := h
    obtain ⟨hn, hm⟩ : n ≤ 1000000 ∧ m ≤ 1000000 := hp
    have ha : a.natAbs < 2 ^ n := hf.1
    have hb : b.natAbs < 2 ^ m := hf.2.1
    refine ⟨env [c_rmade] (a_rmul a b n m), ?_⟩
    have hab : (a * b).natAbs < 2 ^ (n + m) := by
      rw [Int.natAbs_mul, Nat.pow_add]
      exact Nat.mul_lt_mul_of_lt_of_le ha (by omega) (Nat.two_pow_pos m)
    rw [← vc_rmul a b n m]
    have l1 := lim_len ha (by omega)
    have l2 := lim_len hb (by omega)
    have hwa := limbs_wd a.natAbs
    have hwb := limbs_wd b.natAbs
    have ev1 := wvl a.natAbs
    have ev2 := wvl b.natAbs
    generalize limbs a.natAbs = A at *
    generalize limbs b.natAbs = B at *
    have ew : IntKind.i64.wrap ((A.length : Int) + B.length) = ((A.length + B.length : Nat) : Int) := by rw [i64w (by omega) (by omega)]; omega
    simp only [Bool.cond_decide, ew, Nat.zero_add, Int.toNat_natCast, List.drop_zero, p32]
    refine ⟨(by and_intros <;> first | exact True.intro | rfl | omega), ⟨⟨0, 0, List.replicate (A.length + B.length) 0, 0⟩, ⟨by show 0 ≤ _; omega, by simp, Wd.replicate _, by show wv (List.replicate _ 0) = _; rw [wv_replicate]; simp [wv], fun j _ => ?_⟩, (by and_intros <;> first | exact True.intro | rfl | omega), ⟨(by and_intros <;> first | exact True.intro | rfl | omega), .inl (Nat.le_refl _)⟩, ⟨(by and_intros <;> first | exact True.intro | rfl | omega), .inl (Nat.le_refl _)⟩, ⟨(by and_intros <;> first | exact True.intro | rfl | omega), .inl (Nat.le_refl _)⟩, (by and_intros <;> first | exact True.intro | rfl | omega)⟩, ?_⟩
    · show (List.replicate _ (0 : Int)).getD j 0 = 0
      simp [List.getElem?_replicate]; split <;> rfl
    · intro s hs
      split
      · rename_i hlt
        have hi : s.i < A.length := by omega
        refine ⟨⟨⟨s.i, 0, s.out, 0⟩, ⟨⟨hi, by show 0 ≤ _; omega, hs.len, hs.wd, ⟨Int.le_refl _, by show (0 : Int) < 4294967296; omega⟩, ?_, hs.rest⟩, (by and_intros <;> first | exact True.intro | rfl | omega)⟩, (by and_intros <;> first | exact True.intro | rfl | omega), ⟨(by and_intros <;> first | exact True.intro | rfl | omega), .inl (Nat.le_refl _)⟩, ⟨(by and_intros <;> first | exact True.intro | rfl | omega), .inl (Nat.le_refl _)⟩, ⟨(by and_intros <;> first | exact True.intro | rfl | omega), .inl (Nat.le_refl _)⟩, (by and_intros <;> first | exact True.intro | rfl | omega)⟩, fun t ⟨ht, hti⟩ => ?_⟩
        · show wv s.out + 4294967296 ^ (s.i + 0) * 0 = wv (A.take s.i) * wv B + 4294967296 ^ s.i * (A.getD s.i 0 * wv (B.take 0))
          rw [hs.sum]; simp [wv]
        · have hti : (t.i : Int) = s.i := by simpa using hti
          have hti : t.i = s.i := by omega
          have hk := ht.hk
          have hl := ht.len
          have ek : IntKind.i64.wrap ((t.i : Int) + t.k) = ((t.i + t.k : Nat) : Int) := by rw [i64w (by omega) (by omega)]; omega
          have eb : IntKind.i64.wrap ((t.i : Int) + B.length) = ((t.i + B.length : Nat) : Int) := by rw [i64w (by omega) (by omega)]; omega
          have e1 : IntKind.i64.wrap ((t.k : Int) + 1) = ((t.k + 1 : Nat) : Int) := by rw [i64w (by omega) (by omega)]; omega
          have e2 : IntKind.i64.wrap ((t.i : Int) + 1) = ((t.i + 1 : Nat) : Int) := by rw [i64w (by omega) (by omega)]; omega
          simp only [ek, eb, e1, e2, Int.toNat_natCast]
          split
          · rename_i hkl
            obtain ⟨hp, h0, h1, hst⟩ := ht.step hwa hwb (by omega) _ rfl
            have ga := hwa.getD t.i
            have gb := hwb.getD t.k
            have go := ht.wd.getD (t.i + t.k)
            have hc := ht.c0
            have x1 : IntKind.u64.wrap (A.getD t.i 0) = A.getD t.i 0 := eu64 (by omega)
            have x2 : IntKind.u64.wrap (B.getD t.k 0) = B.getD t.k 0 := eu64 (by omega)
            have x3 : IntKind.u64.wrap (t.out.getD (t.i + t.k) 0) = t.out.getD (t.i + t.k) 0 := eu64 (by omega)
            have x4 : IntKind.u64.wrap (A.getD t.i 0 * B.getD t.k 0) = A.getD t.i 0 * B.getD t.k 0 := eu64 (by omega)
            have x5 : IntKind.u64.wrap (A.getD t.i 0 * B.getD t.k 0 + t.out.getD (t.i + t.k) 0) = A.getD t.i 0 * B.getD t.k 0 + t.out.getD (t.i + t.k) 0 := eu64 (by omega)
            have x6 : IntKind.u64.wrap (t.c + (A.getD t.i 0 * B.getD t.k 0 + t.out.getD (t.i + t.k) 0)) = A.getD t.i 0 * B.getD t.k 0 + t.out.getD (t.i + t.k) 0 + t.c := by rw [eu64 (by omega)]; omega
            simp only [x1, x2, x3, x4, x5, x6]
            rw [Int.fdiv_eq_ediv_of_nonneg _ (by omega), u32w]
            exact ⟨(by and_intros <;> first | exact True.intro | rfl | omega), (by and_intros <;> first | exact True.intro | rfl | omega), (by and_intros <;> first | exact True.intro | rfl | omega), by omega, (by and_intros <;> first | exact True.intro | rfl | omega), by omega, by omega, _, ⟨hst, by rw [hti]⟩, ⟨(by and_intros <;> first | exact True.intro | rfl | omega), ⟨(by and_intros <;> first | exact True.intro | rfl | omega), .inl (Nat.le_refl _)⟩, ⟨(by and_intros <;> first | exact True.intro | rfl | omega), .inl (Nat.le_refl _)⟩, ⟨(by and_intros <;> first | exact True.intro | rfl | omega), .inl (Nat.le_refl _)⟩, (by and_intros <;> first | exact True.intro | rfl | omega)⟩, by show B.length - (t.k + 1) < B.length - t.k; omega⟩
          · rename_i hkl
            have hc := ht.c0
            have e3 : IntKind.u32.wrap t.c = t.c := by rw [u32w]; omega
            rw [e3]
            exact ⟨(by and_intros <;> first | exact True.intro | rfl | omega), by omega, _, ht.done (by omega), ⟨(by and_intros <;> first | exact True.intro | rfl | omega), ⟨(by and_intros <;> first | exact True.intro | rfl | omega), .inl (Nat.le_refl _)⟩, ⟨(by and_intros <;> first | exact True.intro | rfl | omega), .inl (Nat.le_refl _)⟩, ⟨(by and_intros <;> first | exact True.intro | rfl | omega), .inl (Nat.le_refl _)⟩, (by and_intros <;> first | exact True.intro | rfl | omega)⟩, by show A.length - (t.i + 1) < A.length - s.i; omega⟩
      · rename_i hlt
        have e : s.i = A.length := by have := hs.hi; omega
        have hsum := hs.sum
        have hl := hs.len
        have e2 : s.out.take (A.length + B.length) = s.out := List.take_of_length_le (by omega)
        rw [e, List.take_length, ev1, ev2] at hsum
        rw [e2, hsum, sg_mul]
        exact ⟨⟨by omega, hs.wd, by omega⟩, rfl, .inr hab⟩
  · simp at h
def c_rmul : Ctr Tryz.prog := ⟨77, s_mul, fun args w => Tryz.call77 args w, fn_ok_facts mix Tryz.func77 s_mul p_rmul⟩

theorem vc_rsub (a b : Int) (n m : Nat) : (m ≤ (1000000 : Nat) ∧ (n ≤ (1000000 : Nat) ∧ m ≤ (1000000 : Nat)) ∧ a + -b = a - b ∧ (max n m + (1 : Nat) ≤ max n m + (1 : Nat) ∨ Int.natAbs (a + -b) < (2 : Nat) ^ (max n m + (1 : Nat)))) = evFn (env [c_radd, c_rneg] noAnn) Tryz.f72 [.big a n, .big b m] (MRes.sat (.ret (.big (a - b) (max n m + 1)))) := by kernel_rfl
theorem p_rsub : Good Tryz.f72 s_isub := by
  intro ms p r h hp
  unfold s_isub at h
  split at h
  · rename_i a n b m
    simp only [Option.some.injEq, Prod.mk.injEq] at h
    obtain ⟨rfl, rfl⟩ := h
    obtain ⟨hn, hm⟩ : n ≤ 1000000 ∧ m ≤ 1000000 := hp
    refine ⟨env [c_radd, c_rneg] noAnn, ?_⟩
    rw [← vc_rsub a b n m]
    exact ⟨hm, ⟨hn, hm⟩, by omega, .inl (Nat.le_refl _)⟩
  · simp at h
def c_rsub : Ctr Tryz.prog := ⟨72, s_isub, fun args w => Tryz.call72 args w, fn_ok mix Tryz.func72 s_isub p_rsub⟩

/-- The bits of a word, counted. -/
def a_rbits (z : Int) (n : Nat) : Nat → MS → Option LoopAnn
  | 5, _ => some (.inv (Nat × Nat) (fun s => s.1 + bl s.2 = bl z.natAbs ∧ s.2 < 4294967296 ∧ s.1 ≤ 1000000000) (fun s => ⟨29, [(1, .bp 0 0), (3, .int .i64 s.1), (4, .int .u32 s.2)], [⟨false, .one (.big z n)⟩], 0⟩) (fun s => s.2))
  | _, _ => none

end Go.Proofs.YtkokpkhdkbeofaaGreat

/-
  Contracts of functions: the reference of layer 1: bits, division.
-/
namespace Go.Proofs.YtkokpkhdkbeofaaGreat
open Go Go.RowKit

theorem vc_rbits (z : Int) (n : Nat) : (bif (↑(List.length (limbs (Int.natAbs z))) : Int) == (0 : Int) then (0 : Int) = (↑(bl (Int.natAbs z)) : Int) else ((0 : Int) ≤ IntKind.wrap IntKind.i64 ((↑(List.length (limbs (Int.natAbs z))) : Int) - (1 : Int)) ∧ IntKind.wrap IntKind.i64 ((↑(List.length (limbs (Int.natAbs z))) : Int) - (1 : Int)) < (↑(List.length (limbs (Int.natAbs z))) : Int)) ∧ (∃ i, (Prod.fst i + bl (Prod.snd i) = bl (Int.natAbs z) ∧ Prod.snd i < (4294967296 : Nat) ∧ Prod.fst i ≤ (1000000000 : Nat)) ∧ ((0 : Nat) = (0 : Nat) ∧ IntKind.wrap IntKind.i64 ((32 : Int) * IntKind.wrap IntKind.i64 ((↑(List.length (limbs (Int.natAbs z))) : Int) - (1 : Int))) = (↑(Prod.fst i) : Int) ∧ List.getD (limbs (Int.natAbs z)) (Int.toNat (IntKind.wrap IntKind.i64 ((↑(List.length (limbs (Int.natAbs z))) : Int) - (1 : Int)))) (0 : Int) = (↑(Prod.snd i) : Int) ∧ True) ∧ (z = z ∧ (n ≤ n ∨ Int.natAbs z < (2 : Nat) ^ n)) ∧ True) ∧ ∀ (i : Nat × Nat), Prod.fst i + bl (Prod.snd i) = bl (Int.natAbs z) ∧ Prod.snd i < (4294967296 : Nat) ∧ Prod.fst i ≤ (1000000000 : Nat) → bif decide ((↑(Prod.snd i) : Int) > (0 : Int)) then ((2 : Int) = (0 : Int) → False) ∧ ∃ j, (Prod.fst j + bl (Prod.snd j) = bl (Int.natAbs z) ∧ Prod.snd j < (4294967296 : Nat) ∧ Prod.fst j ≤ (1000000000 : Nat)) ∧ (((0 : Nat) = (0 : Nat) ∧ IntKind.wrap IntKind.i64 ((↑(Prod.fst i) : Int) + (1 : Int)) = (↑(Prod.fst j) : Int) ∧ IntKind.wrap IntKind.u32 (Int.tdiv (↑(Prod.snd i) : Int) (2 : Int)) = (↑(Prod.snd j) : Int) ∧ True) ∧ (z = z ∧ (n ≤ n ∨ Int.natAbs z < (2 : Nat) ^ n)) ∧ True) ∧ Prod.snd j < Prod.snd i else (↑(Prod.fst i) : Int) = (↑(bl (Int.natAbs z)) : Int)) = evFn (env [] (a_rbits z n)) Tryz.f82 [.big z n] (MRes.sat (.ret (.int .i64 (bl z.natAbs)))) := by kernel_rfl

theorem bl_half {x : Nat} (h : x ≠ 0) : bl x = bl (x / 2) + 1 := by
  by_cases h2 : x / 2 = 0
  · have : x = 1 := by omega
    subst this; decide
  · have := bl_mul (n := x / 2) h2 (x % 2) (k := 1) (by omega)
    rw [← this]; congr 1; omega

theorem p_rbits : GoodF Tryz.f82 s_bits := by
  intro ms p r h hp hf
  unfold s_bits at h
  split at h
  · rename_i z n
    simp only [Option.some.injEq, Prod.mk.injEq] at h
    obtain ⟨rfl, rfl⟩ := h
    have hn : n ≤ 1000000 := hp
    have hz : z.natAbs < 2 ^ n := hf.1
    refine ⟨env [] (a_rbits z n), ?_⟩
    rw [← vc_rbits z n, len_zero_iff]
    by_cases h0 : z = 0
    · subst h0
      rw [show decide ((0 : Int) = 0) = true from rfl, cond_true]; rfl
    · rw [decide_eq_false h0, cond_false]
      have hne : limbs z.natAbs ≠ [] := fun e => h0 (by have := limbs_eq_nil.1 e; omega)
      have hp : 0 < (limbs z.natAbs).length := List.length_pos_iff.2 hne
      have l1 := lim_len hz (by omega)
      have e1 : IntKind.i64.wrap (((limbs z.natAbs).length : Int) - 1) = (((limbs z.natAbs).length - 1 : Nat) : Int) := by rw [i64w (by omega) (by omega)]; omega
      have e2 : IntKind.i64.wrap ((32 : Int) * (((limbs z.natAbs).length - 1 : Nat) : Int)) = ((32 * ((limbs z.natAbs).length - 1) : Nat) : Int) := by rw [i64w (by omega) (by omega)]; omega
      have hb := bl_words (cn_limbs z.natAbs) hne
      rw [wvl, Int.toNat_natCast] at hb
      have hd := (limbs_wd z.natAbs).getD ((limbs z.natAbs).length - 1)
      have hbl : bl z.natAbs ≤ n := bl_le_of hz
      obtain ⟨x, hx⟩ : ∃ x : Nat, (limbs z.natAbs).getD ((limbs z.natAbs).length - 1) 0 = x := ⟨_, (Int.toNat_of_nonneg hd.1).symm⟩
      rw [e1, e2, Int.toNat_natCast, hx]
      rw [hx, Int.toNat_natCast] at hb
      refine ⟨(by and_intros <;> first | exact True.intro | rfl | omega), ⟨(32 * ((limbs z.natAbs).length - 1), x), ⟨hb.symm, by show x < _; omega, by show 32 * _ ≤ _; omega⟩, (by and_intros <;> first | exact True.intro | rfl | omega), ⟨rfl, .inl (Nat.le_refl _)⟩, True.intro⟩, ?_⟩
      rintro ⟨k, y⟩ ⟨h1, h2, h3⟩
      have h1 : k + bl y = bl z.natAbs := h1
      have h2 : y < 4294967296 := h2
      simp only [Bool.cond_decide]
      split
      · rename_i hy
        have hy0 : y ≠ 0 := by omega
        have hh := bl_half hy0
        have e3 : IntKind.i64.wrap ((k : Int) + 1) = ((k + 1 : Nat) : Int) := by rw [i64w (by omega) (by omega)]; omega
        have e4 : IntKind.u32.wrap (Int.tdiv (y : Int) 2) = ((y / 2 : Nat) : Int) := by
          have : Int.tdiv (y : Int) 2 = ((y / 2 : Nat) : Int) := rfl
          rw [this, eu32 (by omega)]
        rw [e3, e4]
        exact ⟨fun e => by omega, ⟨k + 1, y / 2⟩, ⟨by show k + 1 + bl (y / 2) = _; omega, by show y / 2 < _; omega, by show k + 1 ≤ _; omega⟩, ⟨(by and_intros <;> first | exact True.intro | rfl | omega), ⟨(by and_intros <;> first | exact True.intro | rfl | omega), .inl (Nat.le_refl _)⟩, (by and_intros <;> first | exact True.intro | rfl | omega)⟩, by show y / 2 < y; omega⟩
      · rename_i hy
        have : y = 0 := by omega
        subst this
        rw [bl_zero, Nat.add_zero] at h1
        rw [h1]
  · simp at h
def c_rbits : Ctr Tryz.prog := ⟨82, s_bits, fun args w => Tryz.call82 args w, fn_ok_facts mix Tryz.func82 s_bits p_rbits⟩

/-! ### reaches -/
def s_rreach : FSpec
  | [.ws a, .ws b] => some (some (Wd a ∧ Wd b ∧ a.length ≤ 1000000000 ∧ b.length ≤ 1000000000), .ret (.bool (decide (wv b ≤ wv a))))
  | _ => none
def a_rreach (a b : List Int) : Nat → MS → Option LoopAnn
  | 2, _ => some (.inv Nat (fun k => k ≤ max a.length b.length ∧ wv (a.drop k) = wv (b.drop k)) (fun k => ⟨30, [(0, .ws a), (1, .ws b), (5, .int .i64 ((k : Int) - 1))], [], 0⟩) id)
  | _, _ => none
theorem vc_rreach (a b : List Int) : ((∃ i, (i ≤ max (List.length a) (List.length b) ∧ wv (List.drop i a) = wv (List.drop i b)) ∧ (a = a ∧ b = b ∧ IntKind.wrap IntKind.i64 (maxI (↑(List.length a) : Int) (↑(List.length b) : Int) - (1 : Int)) = (↑i : Int) - (1 : Int) ∧ True) ∧ True) ∧ ∀ (i : Nat), i ≤ max (List.length a) (List.length b) ∧ wv (List.drop i a) = wv (List.drop i b) → bif decide ((↑i : Int) - (1 : Int) ≥ (0 : Int)) then (∀ (x : Int), x ∈ a → (0 : Int) ≤ x ∧ x < (4294967296 : Int)) ∧ (∀ (x : Int), x ∈ b → (0 : Int) ≤ x ∧ x < (4294967296 : Int)) ∧ bif wdg a ((↑i : Int) - (1 : Int)) != wdg b ((↑i : Int) - (1 : Int)) then (∀ (x : Int), x ∈ a → (0 : Int) ≤ x ∧ x < (4294967296 : Int)) ∧ (∀ (x : Int), x ∈ b → (0 : Int) ≤ x ∧ x < (4294967296 : Int)) ∧ decide (wdg a ((↑i : Int) - (1 : Int)) > wdg b ((↑i : Int) - (1 : Int))) = decide (wv b ≤ wv a) else ∃ j, (j ≤ max (List.length a) (List.length b) ∧ wv (List.drop j a) = wv (List.drop j b)) ∧ ((a = a ∧ b = b ∧ IntKind.wrap IntKind.i64 ((↑i : Int) - (1 : Int) - (1 : Int)) = (↑j : Int) - (1 : Int) ∧ True) ∧ True) ∧ id j < id i else true = decide (wv b ≤ wv a)) = evFn (env [c_rword] (a_rreach a b)) Tryz.f140 [.ws a, .ws b] (MRes.sat (.ret (.bool (decide (wv b ≤ wv a))))) := by kernel_rfl

/-! ### left -/
def s_rleft : List MV → Option (OProp × List Int)
  | [.ws l, .int .i64 n] => some (some (Wd l ∧ 0 ≤ n ∧ n ≤ 1000000000 ∧ l.length ≤ 1000000000), digs (n.toNat / 32 + l.length + 1) (wv l * 2 ^ n.toNat))
  | _ => none
structure RlI (l : List Int) (n : Nat) (s : DwS) : Prop where
  hk : s.k ≤ l.length + 1
  len : s.out.length = n / 32 + s.k
  wd : Wd s.out
  sum : wv s.out + 4294967296 ^ (n / 32 + s.k) * (wdg l ((s.k : Int) - 1) * 2 ^ (n % 32) / 4294967296) = wv (l.take s.k) * 2 ^ n
def a_rleft (l : List Int) (n : Nat) : Nat → MS → Option LoopAnn
  | 4, _ => some (.inv DwS (RlI l n) (fun s => ⟨38, [(0, .ws l), (5, .bs 0 0 (n / 32 + s.k)), (6, .int .u64 ((n % 32 : Nat) : Int)), (7, .int .i64 s.k)], [⟨false, .arr .u32 s.out⟩], 0⟩) (fun s => l.length + 1 - s.k))
  | _, _ => none
theorem vc_rleft (l : List Int) (n : Nat) : (((32 : Int) = (0 : Int) → False) ∧ ((0 : Int) ≤ IntKind.wrap IntKind.i64 (Int.tdiv (↑n : Int) (32 : Int)) ∧ IntKind.wrap IntKind.i64 (Int.tdiv (↑n : Int) (32 : Int)) = IntKind.wrap IntKind.i64 (Int.tdiv (↑n : Int) (32 : Int)) ∧ (↑(4 : Nat) : Int) * IntKind.wrap IntKind.i64 (Int.tdiv (↑n : Int) (32 : Int)) ≤ (140737488355328 : Int)) ∧ ((32 : Int) = (0 : Int) → False) ∧ (∃ i, RlI l n i ∧ (l = l ∧ ((0 : Nat) = (0 : Nat) ∧ Int.toNat (IntKind.wrap IntKind.i64 (Int.tdiv (↑n : Int) (32 : Int))) = n / (32 : Nat) + DwS.k i) ∧ IntKind.wrap IntKind.u64 (Int.tmod (↑n : Int) (32 : Int)) = (↑(n % (32 : Nat)) : Int) ∧ (0 : Int) = (↑(DwS.k i) : Int) ∧ True) ∧ List.replicate (Int.toNat (IntKind.wrap IntKind.i64 (Int.tdiv (↑n : Int) (32 : Int)))) (0 : Int) = DwS.out i ∧ True) ∧ ∀ (i : DwS), RlI l n i → bif decide ((↑(DwS.k i) : Int) ≤ (↑(List.length l) : Int)) then (∀ (x : Int), x ∈ l → (0 : Int) ≤ x ∧ x < (4294967296 : Int)) ∧ (0 : Int) ≤ (↑(n % (32 : Nat)) : Int) ∧ (∀ (x : Int), x ∈ l → (0 : Int) ≤ x ∧ x < (4294967296 : Int)) ∧ (0 : Int) ≤ (↑(n % (32 : Nat)) : Int) ∧ (0 : Int) ≤ (32 : Int) ∧ ((0 : Nat) + (1 : Nat) ≤ List.length [IntKind.wrap IntKind.u32 (IntKind.wrap IntKind.u64 (↑(BitVec.toNat (BitVec.ofInt (IntKind.bits IntKind.u64) (IntKind.wrap IntKind.u64 (wdg l (↑(DwS.k i) : Int) * (2 : Int) ^ min (Int.toNat (↑(n % (32 : Nat)) : Int)) (IntKind.bits IntKind.u64))) ||| BitVec.ofInt (IntKind.bits IntKind.u64) (Int.fdiv (IntKind.wrap IntKind.u64 (wdg l (IntKind.wrap IntKind.i64 ((↑(DwS.k i) : Int) - (1 : Int))) * (2 : Int) ^ min (Int.toNat (↑(n % (32 : Nat)) : Int)) (IntKind.bits IntKind.u64))) ((2 : Int) ^ min (Int.toNat (32 : Int)) (IntKind.bits IntKind.u64))))) : Int))] ∧ n / (32 : Nat) + DwS.k i ≤ List.length (DwS.out i) ∧ (n / (32 : Nat) + DwS.k i + News.len (News.ints IntKind.u32 (List.take (1 : Nat) (List.drop (0 : Nat) [IntKind.wrap IntKind.u32 (IntKind.wrap IntKind.u64 (↑(BitVec.toNat (BitVec.ofInt (IntKind.bits IntKind.u64) (IntKind.wrap IntKind.u64 (wdg l (↑(DwS.k i) : Int) * (2 : Int) ^ min (Int.toNat (↑(n % (32 : Nat)) : Int)) (IntKind.bits IntKind.u64))) ||| BitVec.ofInt (IntKind.bits IntKind.u64) (Int.fdiv (IntKind.wrap IntKind.u64 (wdg l (IntKind.wrap IntKind.i64 ((↑(DwS.k i) : Int) - (1 : Int))) * (2 : Int) ^ min (Int.toNat (↑(n % (32 : Nat)) : Int)) (IntKind.bits IntKind.u64))) ((2 : Int) ^ min (Int.toNat (32 : Int)) (IntKind.bits IntKind.u64))))) : Int))])))) * (4 : Nat) ≤ (140737488355328 : Nat)) ∧ ∃ j, RlI l n j ∧ ((l = l ∧ ((0 : Nat) = (0 : Nat) ∧ n / (32 : Nat) + DwS.k i + News.len (News.ints IntKind.u32 (List.take (1 : Nat) (List.drop (0 : Nat) [IntKind.wrap IntKind.u32 (IntKind.wrap IntKind.u64 (↑(BitVec.toNat (BitVec.ofInt (IntKind.bits IntKind.u64) (IntKind.wrap IntKind.u64 (wdg l (↑(DwS.k i) : Int) * (2 : Int) ^ min (Int.toNat (↑(n % (32 : Nat)) : Int)) (IntKind.bits IntKind.u64))) ||| BitVec.ofInt (IntKind.bits IntKind.u64) (Int.fdiv (IntKind.wrap IntKind.u64 (wdg l (IntKind.wrap IntKind.i64 ((↑(DwS.k i) : Int) - (1 : Int))) * (2 : Int) ^ min (Int.toNat (↑(n % (32 : Nat)) : Int)) (IntKind.bits IntKind.u64))) ((2 : Int) ^ min (Int.toNat (32 : Int)) (IntKind.bits IntKind.u64))))) : Int))]))) = n / (32 : Nat) + DwS.k j) ∧ (↑(n % (32 : Nat)) : Int) = (↑(n % (32 : Nat)) : Int) ∧ IntKind.wrap IntKind.i64 ((↑(DwS.k i) : Int) + (1 : Int)) = (↑(DwS.k j) : Int) ∧ True) ∧ List.take (n / (32 : Nat) + DwS.k i) (DwS.out i) ++ List.take (1 : Nat) (List.drop (0 : Nat) [IntKind.wrap IntKind.u32 (IntKind.wrap IntKind.u64 (↑(BitVec.toNat (BitVec.ofInt (IntKind.bits IntKind.u64) (IntKind.wrap IntKind.u64 (wdg l (↑(DwS.k i) : Int) * (2 : Int) ^ min (Int.toNat (↑(n % (32 : Nat)) : Int)) (IntKind.bits IntKind.u64))) ||| BitVec.ofInt (IntKind.bits IntKind.u64) (Int.fdiv (IntKind.wrap IntKind.u64 (wdg l (IntKind.wrap IntKind.i64 ((↑(DwS.k i) : Int) - (1 : Int))) * (2 : Int) ^ min (Int.toNat (↑(n % (32 : Nat)) : Int)) (IntKind.bits IntKind.u64))) ((2 : Int) ^ min (Int.toNat (32 : Int)) (IntKind.bits IntKind.u64))))) : Int))]) = DwS.out j ∧ True) ∧ List.length l + (1 : Nat) - DwS.k j < List.length l + (1 : Nat) - DwS.k i else (0 : Nat) = (0 : Nat) ∧ n / (32 : Nat) + DwS.k i = List.length (digs (n / (32 : Nat) + List.length l + (1 : Nat)) (wv l * (2 : Int) ^ n)) ∧ (0 : Nat) < n / (32 : Nat) + DwS.k i ∧ List.take (n / (32 : Nat) + DwS.k i) (DwS.out i) = digs (n / (32 : Nat) + List.length l + (1 : Nat)) (wv l * (2 : Int) ^ n)) = evNFn (env [c_rword] (a_rleft l n)) Tryz.f75 [.ws l, .int .i64 n] (digs (n / 32 + l.length + 1) (wv l * 2 ^ n)) := by kernel_rfl

/-! ### half, take -/
def s_rhalf : List MV → List BC → Option (OProp × List BC)
  | [.bs 0 0 n], [.arr .u32 l] => some (some (Wd l ∧ n = l.length ∧ n ≤ 1000000000), [.arr .u32 (digs l.length (wv l / 2))])
  | _, _ => none
def a_rhalf (l : List Int) : Nat → MS → Option LoopAnn
  | 1, _ => some (.inv DwS (fun s => ShrI l 1 s ∧ s.out.drop s.k = l.drop s.k) (fun s => ⟨23, [(0, .bs 0 0 l.length), (2, .int .i64 s.k)], [⟨false, .arr .u32 s.out⟩], 1⟩) (fun s => l.length - s.k))
  | _, _ => none
theorem vc_rhalf (l : List Int) : ((∃ i, (ShrI l (1 : Nat) i ∧ List.drop (DwS.k i) (DwS.out i) = List.drop (DwS.k i) l) ∧ (((0 : Nat) = (0 : Nat) ∧ List.length l = List.length l) ∧ (0 : Int) = (↑(DwS.k i) : Int) ∧ True) ∧ l = DwS.out i ∧ True) ∧ ∀ (i : DwS), ShrI l (1 : Nat) i ∧ List.drop (DwS.k i) (DwS.out i) = List.drop (DwS.k i) l → bif decide ((↑(DwS.k i) : Int) < (↑(List.length l) : Int)) then ((0 : Nat) + List.length l ≤ List.length (DwS.out i) ∧ ∀ (x : Int), x ∈ List.take (List.length l) (List.drop (0 : Nat) (DwS.out i)) → (0 : Int) ≤ x ∧ x < (4294967296 : Int)) ∧ (0 : Int) ≤ (1 : Int) ∧ ((0 : Nat) + List.length l ≤ List.length (DwS.out i) ∧ ∀ (x : Int), x ∈ List.take (List.length l) (List.drop (0 : Nat) (DwS.out i)) → (0 : Int) ≤ x ∧ x < (4294967296 : Int)) ∧ (0 : Int) ≤ (31 : Int) ∧ ((0 : Int) ≤ (↑(DwS.k i) : Int) ∧ (↑(DwS.k i) : Int) < (↑(List.length l) : Int)) ∧ (0 : Nat) + Int.toNat (↑(DwS.k i) : Int) < List.length (DwS.out i) ∧ ∃ j, (ShrI l (1 : Nat) j ∧ List.drop (DwS.k j) (DwS.out j) = List.drop (DwS.k j) l) ∧ ((((0 : Nat) = (0 : Nat) ∧ List.length l = List.length l) ∧ IntKind.wrap IntKind.i64 ((↑(DwS.k i) : Int) + (1 : Int)) = (↑(DwS.k j) : Int) ∧ True) ∧ List.set (DwS.out i) ((0 : Nat) + Int.toNat (↑(DwS.k i) : Int)) (IntKind.wrap IntKind.u32 (IntKind.wrap IntKind.u64 (↑(BitVec.toNat (BitVec.ofInt (IntKind.bits IntKind.u64) (Int.fdiv (wdg (List.take (List.length l) (List.drop (0 : Nat) (DwS.out i))) (↑(DwS.k i) : Int)) ((2 : Int) ^ min (Int.toNat (1 : Int)) (IntKind.bits IntKind.u64))) ||| BitVec.ofInt (IntKind.bits IntKind.u64) (IntKind.wrap IntKind.u64 (wdg (List.take (List.length l) (List.drop (0 : Nat) (DwS.out i))) (IntKind.wrap IntKind.i64 ((↑(DwS.k i) : Int) + (1 : Int))) * (2 : Int) ^ min (Int.toNat (31 : Int)) (IntKind.bits IntKind.u64))))) : Int))) = DwS.out j ∧ True) ∧ List.length l - DwS.k j < List.length l - DwS.k i else DwS.out i = digs (List.length l) (wv l / (2 : Int)) ∧ True) = evMFn (env [c_rword] (a_rhalf l)) Tryz.f142 [.bs 0 0 l.length] [.arr .u32 l] [.arr .u32 (digs l.length (wv l / 2))] := by kernel_rfl
def s_rtake : List MV → List BC → Option (OProp × List BC)
  | [.bs 0 0 n, .bs 1 0 m], [.arr .u32 a, .arr .u32 b] => some (some (Wd a ∧ Wd b ∧ n = a.length ∧ m = b.length ∧ n ≤ 1000000000 ∧ wv b ≤ wv a), [.arr .u32 (digs a.length (wv a - wv b)), .arr .u32 b])
  | _, _ => none
def a_rtake (a b : List Int) : Nat → MS → Option LoopAnn
  | 2, _ => some (.inv AddS (SubI a b) (fun s => ⟨33, [(0, .bs 0 0 a.length), (1, .bs 1 0 b.length), (4, .int .u64 s.c), (5, .int .i64 s.i)], [⟨false, .arr .u32 s.out⟩, ⟨false, .arr .u32 b⟩], 2⟩) (fun s => a.length - s.i))
  | _, _ => none
theorem vc_rtake (a b : List Int) : ((∃ i, SubI a b i ∧ (((0 : Nat) = (0 : Nat) ∧ List.length a = List.length a) ∧ ((0 : Nat) = (0 : Nat) ∧ List.length b = List.length b) ∧ (0 : Int) = AddS.c i ∧ (0 : Int) = (↑(AddS.i i) : Int) ∧ True) ∧ a = AddS.out i ∧ b = b ∧ True) ∧ ∀ (i : AddS), SubI a b i → bif decide ((↑(AddS.i i) : Int) < (↑(List.length a) : Int)) then ((0 : Int) ≤ (↑(AddS.i i) : Int) ∧ (↑(AddS.i i) : Int) < (↑(List.length a) : Int)) ∧ (0 : Nat) + Int.toNat (↑(AddS.i i) : Int) < List.length (AddS.out i) ∧ ((0 : Nat) + List.length b ≤ List.length b ∧ ∀ (x : Int), x ∈ List.take (List.length b) (List.drop (0 : Nat) b) → (0 : Int) ≤ x ∧ x < (4294967296 : Int)) ∧ ((0 : Int) ≤ (↑(AddS.i i) : Int) ∧ (↑(AddS.i i) : Int) < (↑(List.length a) : Int)) ∧ (0 : Nat) + Int.toNat (↑(AddS.i i) : Int) < List.length (AddS.out i) ∧ (0 : Int) ≤ (32 : Int) ∧ ∃ j, SubI a b j ∧ ((((0 : Nat) = (0 : Nat) ∧ List.length a = List.length a) ∧ ((0 : Nat) = (0 : Nat) ∧ List.length b = List.length b) ∧ IntKind.wrap IntKind.u64 ((1 : Int) - Int.fdiv (IntKind.wrap IntKind.u64 (IntKind.wrap IntKind.u64 (IntKind.wrap IntKind.u64 ((4294967296 : Int) + IntKind.wrap IntKind.u64 (List.getD (AddS.out i) ((0 : Nat) + Int.toNat (↑(AddS.i i) : Int)) (0 : Int))) - wdg (List.take (List.length b) (List.drop (0 : Nat) b)) (↑(AddS.i i) : Int)) - AddS.c i)) ((2 : Int) ^ min (Int.toNat (32 : Int)) (IntKind.bits IntKind.u64))) = AddS.c j ∧ IntKind.wrap IntKind.i64 ((↑(AddS.i i) : Int) + (1 : Int)) = (↑(AddS.i j) : Int) ∧ True) ∧ List.set (AddS.out i) ((0 : Nat) + Int.toNat (↑(AddS.i i) : Int)) (IntKind.wrap IntKind.u32 (IntKind.wrap IntKind.u64 (IntKind.wrap IntKind.u64 (IntKind.wrap IntKind.u64 ((4294967296 : Int) + IntKind.wrap IntKind.u64 (List.getD (AddS.out i) ((0 : Nat) + Int.toNat (↑(AddS.i i) : Int)) (0 : Int))) - wdg (List.take (List.length b) (List.drop (0 : Nat) b)) (↑(AddS.i i) : Int)) - AddS.c i))) = AddS.out j ∧ b = b ∧ True) ∧ List.length a - AddS.i j < List.length a - AddS.i i else AddS.out i = digs (List.length a) (wv a - wv b) ∧ b = b ∧ True) = evMFn (env [c_rword] (a_rtake a b)) Tryz.f141 [.bs 0 0 a.length, .bs 1 0 b.length] [.arr .u32 a, .arr .u32 b] [.arr .u32 (digs a.length (wv a - wv b)), .arr .u32 b] := by kernel_rfl

theorem wv_decide2 {a b : List Int} {k : Nat} (ha : Wd a) (hb : Wd b) (hd : wv (a.drop (k + 1)) = wv (b.drop (k + 1))) (h : a.getD k 0 < b.getD k 0) : wv a < wv b := by
  have h1 := wv_take_drop a k
  have h2 := wv_take_drop b k
  rw [getD_drop_wv] at h1 h2
  rw [hd] at h1
  have h3 := wv_take_lt ha k
  have h4 := wv_take_lt hb k
  have hp := pow_pos32 k
  have h6 : (4294967296 : Int) ^ k * (a.getD k 0 + 4294967296 * wv (b.drop (k + 1)) + 1) ≤ 4294967296 ^ k * (b.getD k 0 + 4294967296 * wv (b.drop (k + 1))) := Int.mul_le_mul_of_nonneg_left (by omega) (by omega)
  rw [Int.mul_add _ _ 1] at h6
  omega

theorem p_rreach : Good Tryz.f140 s_rreach := by
  intro ms p r h hp
  unfold s_rreach at h
  split at h
  · rename_i a b
    simp only [Option.some.injEq, Prod.mk.injEq] at h
    obtain ⟨rfl, rfl⟩ := h
    obtain ⟨ha, hb, la, lb⟩ : Wd a ∧ Wd b ∧ a.length ≤ 1000000000 ∧ b.length ≤ 1000000000 := hp
    refine ⟨env [c_rword] (a_rreach a b), ?_⟩
    rw [← vc_rreach a b]
    have hm : maxI (a.length : Int) (b.length : Int) = ((max a.length b.length : Nat) : Int) := by unfold maxI; split <;> omega
    rw [hm]
    refine ⟨⟨max a.length b.length, ⟨Nat.le_refl _, by rw [List.drop_of_length_le (by omega), List.drop_of_length_le (by omega)]⟩, ⟨rfl, rfl, i64w (by omega) (by omega), True.intro⟩, True.intro⟩, fun i ⟨hi, hd⟩ => ?_⟩
    rw [Bool.cond_decide]
    split
    · rename_i h0
      obtain ⟨k, rfl⟩ : ∃ k, i = k + 1 := ⟨i - 1, by omega⟩
      have e1 : (((k + 1 : Nat) : Int) - 1) = (k : Int) := by omega
      simp only [e1, wdg_nat]
      refine ⟨ha, hb, ?_⟩
      cases hc : (a.getD k 0 != b.getD k 0) with
      | true =>
        rw [cond_true]
        have hne : a.getD k 0 ≠ b.getD k 0 := by simpa using hc
        refine ⟨ha, hb, decide_eq_decide.2 ⟨fun h => ?_, fun h => ?_⟩⟩
        · have := wv_decide2 hb ha hd.symm h; omega
        · rcases Int.lt_or_gt_of_ne hne with q | q
          · have := wv_decide2 ha hb hd q; omega
          · exact q
      | false =>
        rw [cond_false]
        have he : a.getD k 0 = b.getD k 0 := by simpa using hc
        exact ⟨k, ⟨by omega, by rw [getD_drop_wv (a := a) k, getD_drop_wv (a := b) k, he, hd]⟩, ⟨⟨(by and_intros <;> first | exact True.intro | rfl | omega), (by and_intros <;> first | exact True.intro | rfl | omega), i64w (by omega) (by omega), True.intro⟩, True.intro⟩, Nat.lt_succ_self k⟩
    · have : i = 0 := by omega
      subst this
      rw [List.drop_zero, List.drop_zero] at hd
      exact (decide_eq_true (by omega)).symm
  · simp at h
def c_rreach : Ctr Tryz.prog := ⟨140, s_rreach, fun args w => Tryz.call140 args w, fn_ok mix Tryz.func140 s_rreach p_rreach⟩

theorem RlI.step {l : List Int} {n : Nat} {s : DwS} (h : RlI l n s) (hl : Wd l) (hk : s.k ≤ l.length) :
    ShlW (l.getD s.k 0) (wdg l ((s.k : Int) - 1) * 2 ^ (n % 32) / 4294967296) (n % 32) ∧ ShlW (wdg l ((s.k : Int) - 1)) 0 (n % 32) ∧
    RlI l n ⟨s.k + 1, s.out ++ [l.getD s.k 0 * 2 ^ (n % 32) % 4294967296 + wdg l ((s.k : Int) - 1) * 2 ^ (n % 32) / 4294967296], s.c⟩ := by
  have hc : n % 32 < 32 := Nat.mod_lt _ (by omega)
  have hp : (0 : Int) < 2 ^ (n % 32) := Int.pow_pos (by omega)
  have W0 := shl_word (x := wdg l ((s.k : Int) - 1)) (o := 0) hc (wdg_wd hl _) ⟨Int.le_refl _, hp⟩
  have W1 := shl_word (x := l.getD s.k 0) (o := wdg l ((s.k : Int) - 1) * 2 ^ (n % 32) / 4294967296) hc (hl.getD _) ⟨W0.q0, W0.q1⟩
  refine ⟨W1, W0, by show s.k + 1 ≤ _; omega, by simp [h.len]; omega, h.wd.append (Wd.one ⟨by have := W1.a0; have := W0.q0; omega, W1.a1⟩), ?_⟩
  show wv (s.out ++ [_]) + 4294967296 ^ (n / 32 + (s.k + 1)) * (wdg l (((s.k + 1 : Nat) : Int) - 1) * 2 ^ (n % 32) / 4294967296) = wv (l.take (s.k + 1)) * 2 ^ n
  have e1 : (((s.k + 1 : Nat) : Int) - 1) = (s.k : Int) := by omega
  rw [e1, wdg_nat, wv_append, wv_one, h.len, wv_take_succ, Int.add_mul, ← h.sum, show n / 32 + (s.k + 1) = n / 32 + s.k + 1 by omega, Int.pow_succ]
  have h5 := carry_step (4294967296 ^ (n / 32 + s.k)) (l.getD s.k 0 * 2 ^ (n % 32))
  have h6 : (4294967296 : Int) ^ s.k * l.getD s.k 0 * 2 ^ n = 4294967296 ^ (n / 32 + s.k) * (l.getD s.k 0 * 2 ^ (n % 32)) := by
    have e : (2 : Int) ^ n = 4294967296 ^ (n / 32) * 2 ^ (n % 32) := by
      rw [show (4294967296 : Int) = 2 ^ 32 from rfl, ← Int.pow_mul, ← Int.pow_add]; congr 1; omega
    rw [e, Int.pow_add]; grind
  rw [h6, h5, Int.mul_add]
  omega

theorem p_rleft : ∀ ms p l, s_rleft ms = some (p, l) → p.holds → ∃ E : Env Tryz.prog, evNFn E Tryz.f75 ms l := by
  intro ms p r h hp
  unfold s_rleft at h
  split at h
  · rename_i l n0
    simp only [Option.some.injEq, Prod.mk.injEq] at h
    obtain ⟨rfl, rfl⟩ := h
    obtain ⟨hl, hn0, hn, ll⟩ : Wd l ∧ 0 ≤ n0 ∧ n0 ≤ 1000000000 ∧ l.length ≤ 1000000000 := hp
    obtain ⟨n, rfl⟩ := Int.eq_ofNat_of_zero_le hn0
    have hn : n ≤ 1000000000 := by omega
    have hc : n % 32 < 32 := Nat.mod_lt n (by omega)
    refine ⟨env [c_rword] (a_rleft l n), ?_⟩
    rw [show ((n : Int)).toNat = n from rfl, ← vc_rleft l n]
    have em : IntKind.i64.wrap (Int.tdiv (n : Int) 32) = ((n / 32 : Nat) : Int) := by
      have e : Int.tdiv (n : Int) 32 = ((n / 32 : Nat) : Int) := rfl
      rw [e, i64w (by omega) (by omega)]
    have er : IntKind.u64.wrap (Int.tmod (n : Int) 32) = ((n % 32 : Nat) : Int) := by
      have e : Int.tmod (n : Int) 32 = ((n % 32 : Nat) : Int) := rfl
      rw [e, eu64 (by omega)]
    simp only [em, er, Int.toNat_natCast, pmin2 hc, p32, digs_len, ones, news1]
    refine ⟨fun e => by omega, (by and_intros <;> first | exact True.intro | rfl | omega), fun e => by omega, ⟨⟨0, List.replicate (n / 32) 0, 0⟩, ⟨Nat.zero_le _, by simp, Wd.replicate _, ?_⟩, (by and_intros <;> first | exact True.intro | rfl | omega)⟩, ?_⟩
    · show wv (List.replicate _ 0) + _ * (wdg l (((0 : Nat) : Int) - 1) * _ / _) = wv (l.take 0) * _
      have : wdg l (((0 : Nat) : Int) - 1) = 0 := rfl
      rw [wv_replicate, this]; simp [wv]
    · rintro ⟨k, out, c⟩ hI
      have hk : k ≤ l.length + 1 := hI.hk
      have hlen : out.length = n / 32 + k := hI.len
      have e1 : IntKind.i64.wrap ((k : Int) + 1) = ((k + 1 : Nat) : Int) := by rw [i64w (by omega) (by omega)]; omega
      have e2 : IntKind.i64.wrap ((k : Int) - 1) = (k : Int) - 1 := i64w (by omega) (by omega)
      have e6 : List.take (n / 32 + k) out = out := List.take_of_length_le (by omega)
      simp only [e1, e2, wdg_nat, e6]
      rw [Bool.cond_decide]
      split
      · rename_i hlt
        obtain ⟨W1, W0, hst⟩ := hI.step hl (by show k ≤ l.length; omega)
        have W1 : ShlW (l.getD k 0) (wdg l ((k : Int) - 1) * 2 ^ (n % 32) / 4294967296) (n % 32) := W1
        have W0 : ShlW (wdg l ((k : Int) - 1)) 0 (n % 32) := W0
        have x1 : IntKind.u64.wrap (l.getD k 0 * 2 ^ (n % 32)) = l.getD k 0 * 2 ^ (n % 32) := eu64 ⟨W1.t0, W1.t1⟩
        have x2 : IntKind.u64.wrap (wdg l ((k : Int) - 1) * 2 ^ (n % 32)) = wdg l ((k : Int) - 1) * 2 ^ (n % 32) := eu64 ⟨W0.t0, W0.t1⟩
        have x3 : Int.fdiv (wdg l ((k : Int) - 1) * 2 ^ (n % 32)) 4294967296 = wdg l ((k : Int) - 1) * 2 ^ (n % 32) / 4294967296 := Int.fdiv_eq_ediv_of_nonneg _ (by omega)
        have hP : ((2 ^ (n % 32) : Nat) : Int) = (2 : Int) ^ (n % 32) := cast_pow2 _
        have hlk := hl.getD k
        have hdv : (l.getD k 0 * 2 ^ (n % 32)).toNat % 2 ^ (n % 32) = 0 := by
          obtain ⟨y, hy⟩ := Int.eq_ofNat_of_zero_le hlk.1
          rw [hy, ← hP, ← Int.natCast_mul, Int.toNat_natCast, Nat.mul_mod_left]
        have q0 := W0.q0
        have q1 := W0.q1
        have t1 := W1.t1
        have a1 := W1.a1
        have ht64 : l.getD k 0 * 2 ^ (n % 32) + wdg l ((k : Int) - 1) * 2 ^ (n % 32) / 4294967296 < 18446744073709551616 := by
          have := W1.a1
          have := Int.mul_ediv_add_emod (l.getD k 0 * 2 ^ (n % 32)) 4294967296
          have := W1.q2
          omega
        have x4 := or64 (A := l.getD k 0 * 2 ^ (n % 32)) (y := wdg l ((k : Int) - 1) * 2 ^ (n % 32) / 4294967296) (n % 32) W1.t0 W1.t1 hdv q0 (by omega) ht64
        have x5 : IntKind.u32.wrap (l.getD k 0 * 2 ^ (n % 32) + wdg l ((k : Int) - 1) * 2 ^ (n % 32) / 4294967296) = l.getD k 0 * 2 ^ (n % 32) % 4294967296 + wdg l ((k : Int) - 1) * 2 ^ (n % 32) / 4294967296 := by
          rw [u32w]
          have := W1.a0
          omega
        simp only [x1, x2, x3, x4, x5]
        exact ⟨hl, by omega, hl, by omega, by omega, ⟨by simp, by omega, by omega⟩, _, hst, (by and_intros <;> first | exact True.intro | rfl | omega), by show l.length + 1 - (k + 1) < l.length + 1 - k; omega⟩
      · rename_i hge
        have hE : k = l.length + 1 := by omega
        have hs : wv out + 4294967296 ^ (n / 32 + k) * (wdg l ((k : Int) - 1) * 2 ^ (n % 32) / 4294967296) = wv (l.take k) * 2 ^ n := hI.sum
        have hz : wdg l ((k : Int) - 1) = 0 := by
          rw [hE, show (((l.length + 1 : Nat) : Int) - 1) = ((l.length : Nat) : Int) by omega, wdg_nat]; simp
        rw [hz, Int.zero_mul, Int.zero_ediv, Int.mul_zero, Int.add_zero, wv_take_all (by omega)] at hs
        have hd := digs_wv (l := out) hI.wd
        rw [hs, hlen, hE] at hd
        exact ⟨(by and_intros <;> first | exact True.intro | rfl | omega), by omega, by omega, by rw [← hd]; rfl⟩
  · simp at h
def n_rleft : Mu Tryz.prog := .nw ⟨75, s_rleft, fun args w => Tryz.call75 args w, evNFn_ok mix Tryz.func75 s_rleft p_rleft⟩

theorem wdg_take {l : List Int} {n : Nat} (h : l.length ≤ n) (i : Int) : wdg (List.take n (List.drop 0 l)) i = wdg l i := by
  rw [List.drop_zero, List.take_of_length_le h]

theorem p_rhalf : ∀ ms bcs p bcs', s_rhalf ms bcs = some (p, bcs') → p.holds → bcs'.length = bcs.length ∧ ∃ E : Env Tryz.prog, evMFn E Tryz.f142 ms bcs bcs' := by
  intro ms bcs p r h hp
  unfold s_rhalf at h
  split at h
  · rename_i n l
    simp only [Option.some.injEq, Prod.mk.injEq] at h
    obtain ⟨rfl, rfl⟩ := h
    obtain ⟨hl, rfl, ll⟩ : Wd l ∧ n = l.length ∧ n ≤ 1000000000 := hp
    refine ⟨rfl, env [c_rword] (a_rhalf l), ?_⟩
    rw [← vc_rhalf l]
    refine ⟨⟨⟨0, l, 0⟩, ⟨⟨Nat.zero_le _, rfl, hl, by simp [wv, Int.emod_one]⟩, rfl⟩, (by and_intros <;> first | exact True.intro | rfl | omega)⟩, ?_⟩
    rintro ⟨k, out, c⟩ ⟨hI, hrest⟩
    have hk : k ≤ l.length := hI.hk
    have hlen : out.length = l.length := hI.len
    have hw : Wd out := hI.wd
    have hrest : out.drop k = l.drop k := hrest
    have e1 : IntKind.i64.wrap ((k : Int) + 1) = ((k + 1 : Nat) : Int) := by rw [i64w (by omega) (by omega)]; omega
    have hx := hw.getD k
    have hy := hw.getD (k + 1)
    have p1 : ((2 : Int) ^ min (Int.toNat 1) (IntKind.bits IntKind.u64)) = 2 := by decide +kernel
    have p31' : ((2 : Int) ^ min (Int.toNat 31) (IntKind.bits IntKind.u64)) = 2147483648 := by decide +kernel
    have e3 : Int.fdiv (out.getD k 0) 2 = out.getD k 0 / 2 := Int.fdiv_eq_ediv_of_nonneg _ (by omega)
    have e4 : IntKind.u64.wrap (out.getD (k + 1) 0 * 2147483648) = out.getD (k + 1) 0 * 2147483648 := eu64 (by omega)
    have e5 : IntKind.u64.wrap (↑(BitVec.ofInt (IntKind.bits IntKind.u64) (out.getD k 0 / 2) ||| BitVec.ofInt (IntKind.bits IntKind.u64) (out.getD (k + 1) 0 * 2147483648)).toNat) = out.getD (k + 1) 0 * 2147483648 + out.getD k 0 / 2 := by
      rw [BitVec.or_comm]
      exact or64 31 (by omega) (by omega) (by omega) (by omega) (by omega) (by omega)
    simp only [e1, wdg_take (show out.length ≤ l.length by omega), wdg_nat, p1, p31', e3, e4, e5, u32w (out.getD (k + 1) 0 * 2147483648 + out.getD k 0 / 2), Bool.cond_decide, Int.toNat_natCast, Nat.zero_add]
    split
    · rename_i hlt
      have hlt : k < l.length := by omega
      have g0 : out.getD k 0 = l.getD k 0 := getD_of_drop hrest k (Nat.le_refl _)
      have g1 : out.getD (k + 1) 0 = l.getD (k + 1) 0 := getD_of_drop hrest (k + 1) (by omega)
      have hst := hI.step hl (by omega) hlt ((out.getD (k + 1) 0 * 2147483648 + out.getD k 0 / 2) % 4294967296) (by
        show _ = (l.getD k 0 + 4294967296 * l.getD (k + 1) 0) / 2 ^ 1 % 4294967296
        rw [g0, g1]
        have : (2 : Int) ^ 1 = 2 := rfl
        rw [this]; omega)
      exact ⟨⟨by omega, fun x hx => (hw.drop 0).take _ x hx⟩, by omega, ⟨by omega, fun x hx => (hw.drop 0).take _ x hx⟩, by omega, (by and_intros <;> first | exact True.intro | rfl | omega), by omega, _, ⟨hst, by show (out.set k _).drop (k + 1) = l.drop (k + 1); rw [drop_set]; exact drop_of_drop hrest⟩, (by and_intros <;> first | exact True.intro | rfl | omega), by show l.length - (k + 1) < l.length - k; omega⟩
    · rename_i hge
      have hE : k = l.length := by omega
      have hs : wv (out.take k) = wv l / 2 ^ 1 % 4294967296 ^ k := hI.sum
      rw [hE, wv_take_all (by omega)] at hs
      have h0 := wv_nonneg hl
      have h1 := wv_lt hl
      have h2 : (2 : Int) ^ 1 = 2 := rfl
      rw [h2, Int.emod_eq_of_lt (by omega) (by omega)] at hs
      have hd := digs_wv hw
      rw [hs, hlen] at hd
      exact ⟨hd.symm, True.intro⟩
  · simp at h
def n_rhalf : Mu Tryz.prog := .wr ⟨142, s_rhalf, fun args w => Tryz.call142 args w, fn_mok mix Tryz.func142 s_rhalf p_rhalf⟩

theorem p_rtake : ∀ ms bcs p bcs', s_rtake ms bcs = some (p, bcs') → p.holds → bcs'.length = bcs.length ∧ ∃ E : Env Tryz.prog, evMFn E Tryz.f141 ms bcs bcs' := by
  intro ms bcs p r h hp
  unfold s_rtake at h
  split at h
  · rename_i n m a b
    simp only [Option.some.injEq, Prod.mk.injEq] at h
    obtain ⟨rfl, rfl⟩ := h
    obtain ⟨ha, hb, rfl, rfl, la, hle⟩ : Wd a ∧ Wd b ∧ n = a.length ∧ m = b.length ∧ n ≤ 1000000000 ∧ wv b ≤ wv a := hp
    refine ⟨rfl, env [c_rword] (a_rtake a b), ?_⟩
    rw [← vc_rtake a b]
    refine ⟨⟨⟨a, b, 0, a, 0⟩, ⟨Nat.zero_le _, rfl, ha, ⟨Int.le_refl _, by show (0 : Int) ≤ 1; omega⟩, by simp [wv], rfl⟩, (by and_intros <;> first | exact True.intro | rfl | omega)⟩, ?_⟩
    rintro ⟨x0, y0, k, out, c⟩ hI
    have hk : k ≤ a.length := hI.hi
    have hlen : out.length = a.length := hI.len
    have hw : Wd out := hI.wd
    have hc : 0 ≤ c ∧ c ≤ 1 := hI.c0
    have e1 : IntKind.i64.wrap ((k : Int) + 1) = ((k + 1 : Nat) : Int) := by rw [i64w (by omega) (by omega)]; omega
    have hx := hw.getD k
    have hy := hb.getD k
    have f1 : IntKind.u64.wrap (out.getD k 0) = out.getD k 0 := eu64 (by omega)
    have f2 : IntKind.u64.wrap (4294967296 + out.getD k 0) = 4294967296 + out.getD k 0 := eu64 (by omega)
    have f3 : IntKind.u64.wrap (4294967296 + out.getD k 0 - b.getD k 0) = 4294967296 + out.getD k 0 - b.getD k 0 := eu64 (by omega)
    have f4 : IntKind.u64.wrap (4294967296 + out.getD k 0 - b.getD k 0 - c) = 4294967296 + out.getD k 0 - b.getD k 0 - c := eu64 (by omega)
    have f5 : Int.fdiv (4294967296 + out.getD k 0 - b.getD k 0 - c) 4294967296 = (4294967296 + out.getD k 0 - b.getD k 0 - c) / 4294967296 := Int.fdiv_eq_ediv_of_nonneg _ (by omega)
    have f6 : IntKind.u64.wrap (1 - (4294967296 + out.getD k 0 - b.getD k 0 - c) / 4294967296) = if out.getD k 0 < b.getD k 0 + c then 1 else 0 := by
      rw [eu64 (by omega)]; split <;> omega
    have f7 : (4294967296 + out.getD k 0 - b.getD k 0 - c) % 4294967296 = (out.getD k 0 - b.getD k 0 - c) % 4294967296 := by omega
    simp only [e1, wdg_take (Nat.le_refl b.length), wdg_nat, p32, f1, f2, f3, f4, f5, f6, u32w (4294967296 + out.getD k 0 - b.getD k 0 - c), f7, Bool.cond_decide, Int.toNat_natCast, Nat.zero_add]
    split
    · rename_i hlt
      have hlt : k < a.length := by omega
      have hst := hI.step hb hlt (b.getD k 0) rfl
      exact ⟨(by and_intros <;> first | exact True.intro | rfl | omega), by omega, ⟨(by and_intros <;> first | exact True.intro | rfl | omega), fun x hx => (hb.drop 0).take _ x hx⟩, (by and_intros <;> first | exact True.intro | rfl | omega), by omega, by omega, _, hst, (by and_intros <;> first | exact True.intro | rfl | omega), by show a.length - (k + 1) < a.length - k; omega⟩
    · rename_i hge
      have hlb : wv b < 4294967296 ^ a.length := by have := wv_lt ha; omega
      have hf : wv out = wv a - wv b := by
        have h1 : wv (out.take k) - 4294967296 ^ k * c = wv (a.take k) - wv (b.take k) := hI.sum
        have e : k = a.length := by omega
        rw [e, wv_take_all (by omega), wv_take_all (by omega)] at h1
        have h3 := wv_take_drop b a.length
        have h4 := wv_take_lt hb a.length
        have h5 := wv_nonneg (hb.drop a.length)
        have h6 := pow_pos32 a.length
        have hz : wv (b.drop a.length) = 0 := by
          rcases Int.lt_or_le 0 (wv (b.drop a.length)) with q | q
          · have : (4294967296 : Int) ^ a.length * 1 ≤ 4294967296 ^ a.length * wv (b.drop a.length) := Int.mul_le_mul_of_nonneg_left (by omega) (by omega)
            omega
          · omega
        rw [hz, Int.mul_zero, Int.add_zero] at h3
        have h2 := wv_lt hw
        rw [hlen] at h2
        have hc0 : c = 0 := by
          rcases (show c = 0 ∨ c = 1 by omega) with q | q
          · exact q
          · rw [q, Int.mul_one] at h1; omega
        rw [hc0, Int.mul_zero] at h1
        omega
      have hd := digs_wv hw
      rw [hf, hlen] at hd
      exact ⟨hd.symm, (by and_intros <;> first | exact True.intro | rfl | omega)⟩
  · simp at h
def n_rtake : Mu Tryz.prog := .wr ⟨141, s_rtake, fun args w => Tryz.call141 args w, fn_mok mix Tryz.func141 s_rtake p_rtake⟩

end Go.Proofs.YtkokpkhdkbeofaaGreat

/-
  Contracts of functions: the reference of layer 1: division of sizes.
-/
namespace Go.Proofs.YtkokpkhdkbeofaaGreat
open Go Go.RowKit

/-- A contract for arguments that are said more sharply. -/
def Ctr.adapt {P : Program} (c : Ctr P) (spec : FSpec) (h : ∀ ms p r, spec ms = some (p, r) → p.holds → ∃ ms' p', leV.leVs 0 ms ms' ∧ c.spec ms' = some (p', r) ∧ p'.holds) : Ctr P :=
  ⟨c.f, spec, c.call, fun S w ms args p r hs hp hS hG ha => by
    obtain ⟨ms', p', h1, h2, h3⟩ := h ms p r hs hp
    have k : Cuts 0 (Ctx.args S) (Ctx.args S) := ⟨fun _ h => h, fun _ h => h, fun i hi => by omega⟩
    exact c.ok S w ms' args p' r h2 h3 hS hG (leVs_all k ms ms' _ h1 ha)⟩

/-- Bits of an integer that is made of words. -/
def s_rbits2 : FSpec
  | [.st [.bool false, .ws l]] => some (some (Cn l ∧ l.length ≤ 31000), .ret (.int .i64 (bl (wv l).toNat)))
  | _ => none
theorem bl_words2 {l : List Int} {k : Nat} (hl : Wd l) (h : 32 * l.length ≤ k) : bl (wv l).toNat ≤ k := bl_le_of (by
  have h1 := wv_lt hl
  have h2 : (4294967296 : Nat) ^ l.length ≤ 2 ^ k := by rw [pow_words]; exact Nat.pow_le_pow_right (by omega) h
  have h3 := cast_pow32 l.length
  have h4 := Nat.two_pow_pos k
  generalize (2 : Nat) ^ k = X at *
  omega)
theorem w_rbits2 : ∀ ms p r, s_rbits2 ms = some (p, r) → p.holds → ∃ ms' p', leV.leVs 0 ms ms' ∧ c_rbits.spec ms' = some (p', r) ∧ p'.holds := by
  intro ms p r h hp
  unfold s_rbits2 at h
  split at h
  · rename_i l
    simp only [Option.some.injEq, Prod.mk.injEq] at h
    obtain ⟨rfl, rfl⟩ := h
    obtain ⟨h1, h2⟩ : Cn l ∧ l.length ≤ 31000 := hp
    have h0 := h1.pos
    have e : (wv l).natAbs = (wv l).toNat := by omega
    refine ⟨[.big (wv l) (32 * l.length)], some (32 * l.length ≤ 1000000), ⟨⟨?_, ?_, len_of_wv h1.wd⟩, True.intro⟩, ?_, by show 32 * l.length ≤ 1000000; omega⟩
    · exact (decide_eq_false (show ¬ wv l < 0 by omega)).symm
    · rw [e]; exact h1.symm
    · show s_bits [.big (wv l) (32 * l.length)] = _
      simp only [s_bits, e]
  · simp at h
def c_rbits2 : Ctr Tryz.prog := c_rbits.adapt s_rbits2 w_rbits2

/-- Quotient and remainder as the reference gives them. -/
def smallL (a b : List Int) : Bool := decide (a.length ≤ 2) && decide (b.length ≤ 2)
def divQ (a b : List Int) : List Int := cond (smallL a b) (digs 2 (wv a / wv b)) (cond (decide (bl (wv a).toNat < bl (wv b).toNat)) [] (digs ((bl (wv a).toNat - bl (wv b).toNat) / 32 + 1) (wv a / wv b)))
def divR (a b : List Int) : List Int := cond (smallL a b) (digs 2 (wv a % wv b)) (cond (decide (bl (wv a).toNat < bl (wv b).toNat)) a (digs a.length (wv a % wv b)))

structure RdS where
  k : Nat
  r : List Int
  q : List Int
  d : List Int
structure RdI (a b : List Int) (n : Nat) (s : RdS) : Prop where
  hk : s.k ≤ n + 1
  lr : s.r.length = a.length
  lq : s.q.length = n / 32 + 1
  ld : s.d.length = n / 32 + b.length + 1
  wr : Wd s.r
  wq : Wd s.q
  wd : Wd s.d
  dv : wv s.d = wv b * 2 ^ s.k / 2
  sum : wv a = wv s.q * wv b + wv s.r
  lt : wv s.r < wv b * 2 ^ s.k
  qz : (2 ^ s.k : Int) ∣ wv s.q
def a_rdivide (a b : List Int) (n : Nat) : Nat → MS → Option LoopAnn
  | 12, _ => some (.inv RdS (RdI a b n) (fun s => ⟨101, [(4, .bp 0 0), (7, .bs 1 0 a.length), (9, .bs 2 0 (n / 32 + 1)), (10, .bs 3 0 (n / 32 + b.length + 1)), (11, .int .i64 ((s.k : Int) - 1))],
      [⟨false, .one (.st [.val (.slice none 0 0), .val (.slice none 0 0)])⟩, ⟨false, .arr .u32 s.r⟩, ⟨false, .arr .u32 s.q⟩, ⟨false, .arr .u32 s.d⟩], 0⟩) (fun s => s.k))
  | _, _ => none
def k_rdivide (a b : List Int) : Nat → MS → Option CutAnn
  | 5, _ => some (.mk Unit (fun u => u = () ∧ smallL a b = false) (fun _ => ⟨101, [(0, .ws a), (1, .ws b), (4, .bp 0 0)], [⟨false, .one (.st [.val (.slice none 0 0), .val (.slice none 0 0)])⟩], 0⟩))
  | _, _ => none
def envM (Γ : List (Ctr Tryz.prog)) (Δ : List (Mu Tryz.prog)) (ann : Nat → MS → Option LoopAnn) (cut : Nat → MS → Option CutAnn) : Env Tryz.prog := ⟨Γ, Δ, 29, ann, fun _ => [], cut⟩
def s_rdivide : FSpec
  | [.ws a, .ws b] => some (some (Cn a ∧ Cn b ∧ b ≠ [] ∧ a.length ≤ 31000 ∧ b.length ≤ 31000), .ret (.st [.ws (divQ a b), .ws (divR a b)]))
  | _ => none
theorem vc_rdivide (a b : List Int) (n : Nat) : ((bif decide ((↑(List.length a) : Int) ≤ (2 : Int)) then bif decide ((↑(List.length b) : Int) ≤ (2 : Int)) then (∀ (x : Int), x ∈ a → (0 : Int) ≤ x ∧ x < (4294967296 : Int)) ∧ (∀ (x : Int), x ∈ a → (0 : Int) ≤ x ∧ x < (4294967296 : Int)) ∧ (0 : Int) ≤ (32 : Int) ∧ (∀ (x : Int), x ∈ b → (0 : Int) ≤ x ∧ x < (4294967296 : Int)) ∧ (∀ (x : Int), x ∈ b → (0 : Int) ≤ x ∧ x < (4294967296 : Int)) ∧ (0 : Int) ≤ (32 : Int) ∧ (IntKind.wrap IntKind.u64 (↑(BitVec.toNat (BitVec.ofInt (IntKind.bits IntKind.u64) (wdg b (0 : Int)) ||| BitVec.ofInt (IntKind.bits IntKind.u64) (IntKind.wrap IntKind.u64 (wdg b (1 : Int) * (2 : Int) ^ min (Int.toNat (32 : Int)) (IntKind.bits IntKind.u64))))) : Int) = (0 : Int) → False) ∧ (IntKind.wrap IntKind.u64 (↑(BitVec.toNat (BitVec.ofInt (IntKind.bits IntKind.u64) (wdg b (0 : Int)) ||| BitVec.ofInt (IntKind.bits IntKind.u64) (IntKind.wrap IntKind.u64 (wdg b (1 : Int) * (2 : Int) ^ min (Int.toNat (32 : Int)) (IntKind.bits IntKind.u64))))) : Int) = (0 : Int) → False) ∧ (0 : Int) ≤ (32 : Int) ∧ (IntKind.wrap IntKind.u64 (↑(BitVec.toNat (BitVec.ofInt (IntKind.bits IntKind.u64) (wdg b (0 : Int)) ||| BitVec.ofInt (IntKind.bits IntKind.u64) (IntKind.wrap IntKind.u64 (wdg b (1 : Int) * (2 : Int) ^ min (Int.toNat (32 : Int)) (IntKind.bits IntKind.u64))))) : Int) = (0 : Int) → False) ∧ (IntKind.wrap IntKind.u64 (↑(BitVec.toNat (BitVec.ofInt (IntKind.bits IntKind.u64) (wdg b (0 : Int)) ||| BitVec.ofInt (IntKind.bits IntKind.u64) (IntKind.wrap IntKind.u64 (wdg b (1 : Int) * (2 : Int) ^ min (Int.toNat (32 : Int)) (IntKind.bits IntKind.u64))))) : Int) = (0 : Int) → False) ∧ (0 : Int) ≤ (32 : Int) ∧ ((0 : Nat) + (2 : Nat) ≤ List.length [IntKind.wrap IntKind.u32 (IntKind.wrap IntKind.u64 (Int.tdiv (IntKind.wrap IntKind.u64 (↑(BitVec.toNat (BitVec.ofInt (IntKind.bits IntKind.u64) (wdg a (0 : Int)) ||| BitVec.ofInt (IntKind.bits IntKind.u64) (IntKind.wrap IntKind.u64 (wdg a (1 : Int) * (2 : Int) ^ min (Int.toNat (32 : Int)) (IntKind.bits IntKind.u64))))) : Int)) (IntKind.wrap IntKind.u64 (↑(BitVec.toNat (BitVec.ofInt (IntKind.bits IntKind.u64) (wdg b (0 : Int)) ||| BitVec.ofInt (IntKind.bits IntKind.u64) (IntKind.wrap IntKind.u64 (wdg b (1 : Int) * (2 : Int) ^ min (Int.toNat (32 : Int)) (IntKind.bits IntKind.u64))))) : Int)))), IntKind.wrap IntKind.u32 (Int.fdiv (IntKind.wrap IntKind.u64 (Int.tdiv (IntKind.wrap IntKind.u64 (↑(BitVec.toNat (BitVec.ofInt (IntKind.bits IntKind.u64) (wdg a (0 : Int)) ||| BitVec.ofInt (IntKind.bits IntKind.u64) (IntKind.wrap IntKind.u64 (wdg a (1 : Int) * (2 : Int) ^ min (Int.toNat (32 : Int)) (IntKind.bits IntKind.u64))))) : Int)) (IntKind.wrap IntKind.u64 (↑(BitVec.toNat (BitVec.ofInt (IntKind.bits IntKind.u64) (wdg b (0 : Int)) ||| BitVec.ofInt (IntKind.bits IntKind.u64) (IntKind.wrap IntKind.u64 (wdg b (1 : Int) * (2 : Int) ^ min (Int.toNat (32 : Int)) (IntKind.bits IntKind.u64))))) : Int)))) ((2 : Int) ^ min (Int.toNat (32 : Int)) (IntKind.bits IntKind.u64)))] ∧ (0 : Nat) + (2 : Nat) ≤ List.length [IntKind.wrap IntKind.u32 (Int.tmod (IntKind.wrap IntKind.u64 (↑(BitVec.toNat (BitVec.ofInt (IntKind.bits IntKind.u64) (wdg a (0 : Int)) ||| BitVec.ofInt (IntKind.bits IntKind.u64) (IntKind.wrap IntKind.u64 (wdg a (1 : Int) * (2 : Int) ^ min (Int.toNat (32 : Int)) (IntKind.bits IntKind.u64))))) : Int)) (IntKind.wrap IntKind.u64 (↑(BitVec.toNat (BitVec.ofInt (IntKind.bits IntKind.u64) (wdg b (0 : Int)) ||| BitVec.ofInt (IntKind.bits IntKind.u64) (IntKind.wrap IntKind.u64 (wdg b (1 : Int) * (2 : Int) ^ min (Int.toNat (32 : Int)) (IntKind.bits IntKind.u64))))) : Int))), IntKind.wrap IntKind.u32 (Int.fdiv (Int.tmod (IntKind.wrap IntKind.u64 (↑(BitVec.toNat (BitVec.ofInt (IntKind.bits IntKind.u64) (wdg a (0 : Int)) ||| BitVec.ofInt (IntKind.bits IntKind.u64) (IntKind.wrap IntKind.u64 (wdg a (1 : Int) * (2 : Int) ^ min (Int.toNat (32 : Int)) (IntKind.bits IntKind.u64))))) : Int)) (IntKind.wrap IntKind.u64 (↑(BitVec.toNat (BitVec.ofInt (IntKind.bits IntKind.u64) (wdg b (0 : Int)) ||| BitVec.ofInt (IntKind.bits IntKind.u64) (IntKind.wrap IntKind.u64 (wdg b (1 : Int) * (2 : Int) ^ min (Int.toNat (32 : Int)) (IntKind.bits IntKind.u64))))) : Int))) ((2 : Int) ^ min (Int.toNat (32 : Int)) (IntKind.bits IntKind.u64)))]) ∧ List.take (2 : Nat) (List.drop (0 : Nat) [IntKind.wrap IntKind.u32 (IntKind.wrap IntKind.u64 (Int.tdiv (IntKind.wrap IntKind.u64 (↑(BitVec.toNat (BitVec.ofInt (IntKind.bits IntKind.u64) (wdg a (0 : Int)) ||| BitVec.ofInt (IntKind.bits IntKind.u64) (IntKind.wrap IntKind.u64 (wdg a (1 : Int) * (2 : Int) ^ min (Int.toNat (32 : Int)) (IntKind.bits IntKind.u64))))) : Int)) (IntKind.wrap IntKind.u64 (↑(BitVec.toNat (BitVec.ofInt (IntKind.bits IntKind.u64) (wdg b (0 : Int)) ||| BitVec.ofInt (IntKind.bits IntKind.u64) (IntKind.wrap IntKind.u64 (wdg b (1 : Int) * (2 : Int) ^ min (Int.toNat (32 : Int)) (IntKind.bits IntKind.u64))))) : Int)))), IntKind.wrap IntKind.u32 (Int.fdiv (IntKind.wrap IntKind.u64 (Int.tdiv (IntKind.wrap IntKind.u64 (↑(BitVec.toNat (BitVec.ofInt (IntKind.bits IntKind.u64) (wdg a (0 : Int)) ||| BitVec.ofInt (IntKind.bits IntKind.u64) (IntKind.wrap IntKind.u64 (wdg a (1 : Int) * (2 : Int) ^ min (Int.toNat (32 : Int)) (IntKind.bits IntKind.u64))))) : Int)) (IntKind.wrap IntKind.u64 (↑(BitVec.toNat (BitVec.ofInt (IntKind.bits IntKind.u64) (wdg b (0 : Int)) ||| BitVec.ofInt (IntKind.bits IntKind.u64) (IntKind.wrap IntKind.u64 (wdg b (1 : Int) * (2 : Int) ^ min (Int.toNat (32 : Int)) (IntKind.bits IntKind.u64))))) : Int)))) ((2 : Int) ^ min (Int.toNat (32 : Int)) (IntKind.bits IntKind.u64)))]) = divQ a b ∧ List.take (2 : Nat) (List.drop (0 : Nat) [IntKind.wrap IntKind.u32 (Int.tmod (IntKind.wrap IntKind.u64 (↑(BitVec.toNat (BitVec.ofInt (IntKind.bits IntKind.u64) (wdg a (0 : Int)) ||| BitVec.ofInt (IntKind.bits IntKind.u64) (IntKind.wrap IntKind.u64 (wdg a (1 : Int) * (2 : Int) ^ min (Int.toNat (32 : Int)) (IntKind.bits IntKind.u64))))) : Int)) (IntKind.wrap IntKind.u64 (↑(BitVec.toNat (BitVec.ofInt (IntKind.bits IntKind.u64) (wdg b (0 : Int)) ||| BitVec.ofInt (IntKind.bits IntKind.u64) (IntKind.wrap IntKind.u64 (wdg b (1 : Int) * (2 : Int) ^ min (Int.toNat (32 : Int)) (IntKind.bits IntKind.u64))))) : Int))), IntKind.wrap IntKind.u32 (Int.fdiv (Int.tmod (IntKind.wrap IntKind.u64 (↑(BitVec.toNat (BitVec.ofInt (IntKind.bits IntKind.u64) (wdg a (0 : Int)) ||| BitVec.ofInt (IntKind.bits IntKind.u64) (IntKind.wrap IntKind.u64 (wdg a (1 : Int) * (2 : Int) ^ min (Int.toNat (32 : Int)) (IntKind.bits IntKind.u64))))) : Int)) (IntKind.wrap IntKind.u64 (↑(BitVec.toNat (BitVec.ofInt (IntKind.bits IntKind.u64) (wdg b (0 : Int)) ||| BitVec.ofInt (IntKind.bits IntKind.u64) (IntKind.wrap IntKind.u64 (wdg b (1 : Int) * (2 : Int) ^ min (Int.toNat (32 : Int)) (IntKind.bits IntKind.u64))))) : Int))) ((2 : Int) ^ min (Int.toNat (32 : Int)) (IntKind.bits IntKind.u64)))]) = divR a b ∧ True else ∃ i, (i = () ∧ smallL a b = false) ∧ (a = a ∧ b = b ∧ (0 : Nat) = (0 : Nat) ∧ True) ∧ (Value.slice none (0 : Nat) (0 : Nat) = Value.slice none (0 : Nat) (0 : Nat) ∧ Value.slice none (0 : Nat) (0 : Nat) = Value.slice none (0 : Nat) (0 : Nat) ∧ True) ∧ True else ∃ i, (i = () ∧ smallL a b = false) ∧ (a = a ∧ b = b ∧ (0 : Nat) = (0 : Nat) ∧ True) ∧ (Value.slice none (0 : Nat) (0 : Nat) = Value.slice none (0 : Nat) (0 : Nat) ∧ Value.slice none (0 : Nat) (0 : Nat) = Value.slice none (0 : Nat) (0 : Nat) ∧ True) ∧ True) ∧ ∀ (i : Unit), i = () ∧ smallL a b = false → ((0 : Nat) ≤ List.length ([] : List Int) ∧ ((0 : Nat) + News.len (News.ints IntKind.u32 a)) * (4 : Nat) ≤ (140737488355328 : Nat)) ∧ (limbs (Int.toNat (wv a)) = a ∧ List.length a ≤ (31000 : Nat)) ∧ (limbs (Int.toNat (wv b)) = b ∧ List.length b ≤ (31000 : Nat)) ∧ bif decide (IntKind.wrap IntKind.i64 ((↑(bl (Int.toNat (wv a))) : Int) - (↑(bl (Int.toNat (wv b))) : Int)) < (0 : Int)) then (0 : Nat) + ((0 : Nat) + News.len (News.ints IntKind.u32 a)) ≤ List.length (List.take (0 : Nat) [] ++ a) ∧ (Value.slice none (0 : Nat) (0 : Nat) = Value.slice none (0 : Nat) (0 : Nat) ∧ divQ a b = []) ∧ List.take ((0 : Nat) + News.len (News.ints IntKind.u32 a)) (List.drop (0 : Nat) (List.take (0 : Nat) [] ++ a)) = divR a b ∧ True else ((32 : Int) = (0 : Int) → False) ∧ ((0 : Int) ≤ IntKind.wrap IntKind.i64 (IntKind.wrap IntKind.i64 (Int.tdiv (IntKind.wrap IntKind.i64 ((↑(bl (Int.toNat (wv a))) : Int) - (↑(bl (Int.toNat (wv b))) : Int))) (32 : Int)) + (1 : Int)) ∧ IntKind.wrap IntKind.i64 (IntKind.wrap IntKind.i64 (Int.tdiv (IntKind.wrap IntKind.i64 ((↑(bl (Int.toNat (wv a))) : Int) - (↑(bl (Int.toNat (wv b))) : Int))) (32 : Int)) + (1 : Int)) = IntKind.wrap IntKind.i64 (IntKind.wrap IntKind.i64 (Int.tdiv (IntKind.wrap IntKind.i64 ((↑(bl (Int.toNat (wv a))) : Int) - (↑(bl (Int.toNat (wv b))) : Int))) (32 : Int)) + (1 : Int)) ∧ (↑(4 : Nat) : Int) * IntKind.wrap IntKind.i64 (IntKind.wrap IntKind.i64 (Int.tdiv (IntKind.wrap IntKind.i64 ((↑(bl (Int.toNat (wv a))) : Int) - (↑(bl (Int.toNat (wv b))) : Int))) (32 : Int)) + (1 : Int)) ≤ (140737488355328 : Int)) ∧ ((∀ (x : Int), x ∈ b → (0 : Int) ≤ x ∧ x < (4294967296 : Int)) ∧ (0 : Int) ≤ IntKind.wrap IntKind.i64 ((↑(bl (Int.toNat (wv a))) : Int) - (↑(bl (Int.toNat (wv b))) : Int)) ∧ IntKind.wrap IntKind.i64 ((↑(bl (Int.toNat (wv a))) : Int) - (↑(bl (Int.toNat (wv b))) : Int)) ≤ (1000000000 : Int) ∧ List.length b ≤ (1000000000 : Nat)) ∧ (∃ i, RdI a b n i ∧ ((0 : Nat) = (0 : Nat) ∧ ((0 : Nat) = (0 : Nat) ∧ (0 : Nat) + News.len (News.ints IntKind.u32 a) = List.length a) ∧ ((0 : Nat) = (0 : Nat) ∧ Int.toNat (IntKind.wrap IntKind.i64 (IntKind.wrap IntKind.i64 (Int.tdiv (IntKind.wrap IntKind.i64 ((↑(bl (Int.toNat (wv a))) : Int) - (↑(bl (Int.toNat (wv b))) : Int))) (32 : Int)) + (1 : Int))) = n / (32 : Nat) + (1 : Nat)) ∧ ((0 : Nat) = (0 : Nat) ∧ List.length (digs (Int.toNat (IntKind.wrap IntKind.i64 ((↑(bl (Int.toNat (wv a))) : Int) - (↑(bl (Int.toNat (wv b))) : Int))) / (32 : Nat) + List.length b + (1 : Nat)) (wv b * (2 : Int) ^ Int.toNat (IntKind.wrap IntKind.i64 ((↑(bl (Int.toNat (wv a))) : Int) - (↑(bl (Int.toNat (wv b))) : Int))))) = n / (32 : Nat) + List.length b + (1 : Nat)) ∧ IntKind.wrap IntKind.i64 ((↑(bl (Int.toNat (wv a))) : Int) - (↑(bl (Int.toNat (wv b))) : Int)) = (↑(RdS.k i) : Int) - (1 : Int) ∧ True) ∧ (Value.slice none (0 : Nat) (0 : Nat) = Value.slice none (0 : Nat) (0 : Nat) ∧ Value.slice none (0 : Nat) (0 : Nat) = Value.slice none (0 : Nat) (0 : Nat) ∧ True) ∧ List.take (0 : Nat) [] ++ a = RdS.r i ∧ List.replicate (Int.toNat (IntKind.wrap IntKind.i64 (IntKind.wrap IntKind.i64 (Int.tdiv (IntKind.wrap IntKind.i64 ((↑(bl (Int.toNat (wv a))) : Int) - (↑(bl (Int.toNat (wv b))) : Int))) (32 : Int)) + (1 : Int)))) (0 : Int) = RdS.q i ∧ digs (Int.toNat (IntKind.wrap IntKind.i64 ((↑(bl (Int.toNat (wv a))) : Int) - (↑(bl (Int.toNat (wv b))) : Int))) / (32 : Nat) + List.length b + (1 : Nat)) (wv b * (2 : Int) ^ Int.toNat (IntKind.wrap IntKind.i64 ((↑(bl (Int.toNat (wv a))) : Int) - (↑(bl (Int.toNat (wv b))) : Int)))) = RdS.d i ∧ True) ∧ ∀ (i : RdS), RdI a b n i → bif decide ((↑(RdS.k i) : Int) - (1 : Int) ≥ (0 : Int)) then (((0 : Nat) + List.length a ≤ List.length (RdS.r i) ∧ (0 : Nat) + (n / (32 : Nat) + List.length b + (1 : Nat)) ≤ List.length (RdS.d i)) ∧ (∀ (x : Int), x ∈ List.take (List.length a) (List.drop (0 : Nat) (RdS.r i)) → (0 : Int) ≤ x ∧ x < (4294967296 : Int)) ∧ (∀ (x : Int), x ∈ List.take (n / (32 : Nat) + List.length b + (1 : Nat)) (List.drop (0 : Nat) (RdS.d i)) → (0 : Int) ≤ x ∧ x < (4294967296 : Int)) ∧ List.length (List.take (List.length a) (List.drop (0 : Nat) (RdS.r i))) ≤ (1000000000 : Nat) ∧ List.length (List.take (n / (32 : Nat) + List.length b + (1 : Nat)) (List.drop (0 : Nat) (RdS.d i))) ≤ (1000000000 : Nat)) ∧ bif decide (wv (List.take (n / (32 : Nat) + List.length b + (1 : Nat)) (List.drop (0 : Nat) (RdS.d i))) ≤ wv (List.take (List.length a) (List.drop (0 : Nat) (RdS.r i)))) then ((∀ (x : Int), x ∈ RdS.r i → (0 : Int) ≤ x ∧ x < (4294967296 : Int)) ∧ (∀ (x : Int), x ∈ RdS.d i → (0 : Int) ≤ x ∧ x < (4294967296 : Int)) ∧ List.length a = List.length (RdS.r i) ∧ n / (32 : Nat) + List.length b + (1 : Nat) = List.length (RdS.d i) ∧ List.length a ≤ (1000000000 : Nat) ∧ wv (RdS.d i) ≤ wv (RdS.r i)) ∧ ((32 : Int) = (0 : Int) → False) ∧ ((0 : Int) ≤ IntKind.wrap IntKind.i64 (Int.tdiv ((↑(RdS.k i) : Int) - (1 : Int)) (32 : Int)) ∧ IntKind.wrap IntKind.i64 (Int.tdiv ((↑(RdS.k i) : Int) - (1 : Int)) (32 : Int)) < (↑(n / (32 : Nat) + (1 : Nat)) : Int)) ∧ (0 : Nat) + Int.toNat (IntKind.wrap IntKind.i64 (Int.tdiv ((↑(RdS.k i) : Int) - (1 : Int)) (32 : Int))) < List.length (RdS.q i) ∧ ((32 : Int) = (0 : Int) → False) ∧ (0 : Int) ≤ IntKind.wrap IntKind.u64 (Int.tmod ((↑(RdS.k i) : Int) - (1 : Int)) (32 : Int)) ∧ ((0 : Int) ≤ IntKind.wrap IntKind.i64 (Int.tdiv ((↑(RdS.k i) : Int) - (1 : Int)) (32 : Int)) ∧ IntKind.wrap IntKind.i64 (Int.tdiv ((↑(RdS.k i) : Int) - (1 : Int)) (32 : Int)) < (↑(n / (32 : Nat) + (1 : Nat)) : Int)) ∧ (0 : Nat) + Int.toNat (IntKind.wrap IntKind.i64 (Int.tdiv ((↑(RdS.k i) : Int) - (1 : Int)) (32 : Int))) < List.length (RdS.q i) ∧ ((∀ (x : Int), x ∈ RdS.d i → (0 : Int) ≤ x ∧ x < (4294967296 : Int)) ∧ n / (32 : Nat) + List.length b + (1 : Nat) = List.length (RdS.d i) ∧ n / (32 : Nat) + List.length b + (1 : Nat) ≤ (1000000000 : Nat)) ∧ ∃ j, RdI a b n j ∧ (((0 : Nat) = (0 : Nat) ∧ ((0 : Nat) = (0 : Nat) ∧ List.length a = List.length a) ∧ ((0 : Nat) = (0 : Nat) ∧ n / (32 : Nat) + (1 : Nat) = n / (32 : Nat) + (1 : Nat)) ∧ ((0 : Nat) = (0 : Nat) ∧ n / (32 : Nat) + List.length b + (1 : Nat) = n / (32 : Nat) + List.length b + (1 : Nat)) ∧ IntKind.wrap IntKind.i64 ((↑(RdS.k i) : Int) - (1 : Int) - (1 : Int)) = (↑(RdS.k j) : Int) - (1 : Int) ∧ True) ∧ (Value.slice none (0 : Nat) (0 : Nat) = Value.slice none (0 : Nat) (0 : Nat) ∧ Value.slice none (0 : Nat) (0 : Nat) = Value.slice none (0 : Nat) (0 : Nat) ∧ True) ∧ digs (List.length (RdS.r i)) (wv (RdS.r i) - wv (RdS.d i)) = RdS.r j ∧ List.set (RdS.q i) ((0 : Nat) + Int.toNat (IntKind.wrap IntKind.i64 (Int.tdiv ((↑(RdS.k i) : Int) - (1 : Int)) (32 : Int)))) (IntKind.wrap IntKind.u32 (↑(BitVec.toNat (BitVec.ofInt (IntKind.bits IntKind.u32) (List.getD (RdS.q i) ((0 : Nat) + Int.toNat (IntKind.wrap IntKind.i64 (Int.tdiv ((↑(RdS.k i) : Int) - (1 : Int)) (32 : Int)))) (0 : Int)) ||| BitVec.ofInt (IntKind.bits IntKind.u32) (IntKind.wrap IntKind.u32 ((1 : Int) * (2 : Int) ^ min (Int.toNat (IntKind.wrap IntKind.u64 (Int.tmod ((↑(RdS.k i) : Int) - (1 : Int)) (32 : Int)))) (IntKind.bits IntKind.u32))))) : Int)) = RdS.q j ∧ digs (List.length (RdS.d i)) (wv (RdS.d i) / (2 : Int)) = RdS.d j ∧ True) ∧ RdS.k j < RdS.k i else ((∀ (x : Int), x ∈ RdS.d i → (0 : Int) ≤ x ∧ x < (4294967296 : Int)) ∧ n / (32 : Nat) + List.length b + (1 : Nat) = List.length (RdS.d i) ∧ n / (32 : Nat) + List.length b + (1 : Nat) ≤ (1000000000 : Nat)) ∧ ∃ j, RdI a b n j ∧ (((0 : Nat) = (0 : Nat) ∧ ((0 : Nat) = (0 : Nat) ∧ List.length a = List.length a) ∧ ((0 : Nat) = (0 : Nat) ∧ n / (32 : Nat) + (1 : Nat) = n / (32 : Nat) + (1 : Nat)) ∧ ((0 : Nat) = (0 : Nat) ∧ n / (32 : Nat) + List.length b + (1 : Nat) = n / (32 : Nat) + List.length b + (1 : Nat)) ∧ IntKind.wrap IntKind.i64 ((↑(RdS.k i) : Int) - (1 : Int) - (1 : Int)) = (↑(RdS.k j) : Int) - (1 : Int) ∧ True) ∧ (Value.slice none (0 : Nat) (0 : Nat) = Value.slice none (0 : Nat) (0 : Nat) ∧ Value.slice none (0 : Nat) (0 : Nat) = Value.slice none (0 : Nat) (0 : Nat) ∧ True) ∧ RdS.r i = RdS.r j ∧ RdS.q i = RdS.q j ∧ digs (List.length (RdS.d i)) (wv (RdS.d i) / (2 : Int)) = RdS.d j ∧ True) ∧ RdS.k j < RdS.k i else ((0 : Nat) + (n / (32 : Nat) + (1 : Nat)) ≤ List.length (RdS.q i) ∧ (0 : Nat) + List.length a ≤ List.length (RdS.r i)) ∧ List.take (n / (32 : Nat) + (1 : Nat)) (List.drop (0 : Nat) (RdS.q i)) = divQ a b ∧ List.take (List.length a) (List.drop (0 : Nat) (RdS.r i)) = divR a b ∧ True) = evFn (envM [c_rword, c_rbits2, c_rreach] [n_rleft, n_rhalf, n_rtake] (a_rdivide a b n) (k_rdivide a b)) Tryz.f133 [.ws a, .ws b] (MRes.sat (.ret (.st [.ws (divQ a b), .ws (divR a b)]))) := by kernel_rfl

theorem pow_split (i : Nat) : (2 : Int) ^ i = 4294967296 ^ (i / 32) * 2 ^ (i % 32) := by
  rw [show (4294967296 : Int) = 2 ^ 32 from rfl, ← Int.pow_mul, ← Int.pow_add]; congr 1; omega

theorem wv2 {l : List Int} (h : l.length ≤ 2) : wdg l 1 * 4294967296 + wdg l 0 = wv l := by
  have e0 : wdg l 0 = l.getD 0 0 := wdg_nat l 0
  have e1 : wdg l 1 = l.getD 1 0 := wdg_nat l 1
  rw [e0, e1]
  match l, h with
  | [], _ => simp [wv]
  | [x], _ => simp [wv]
  | [x, y], _ => simp [wv]; omega

theorem RdI.init {a b : List Int} (ha : Cn a) (hb : Cn b) (hne : b ≠ []) {n : Nat} (hn : bl (wv a).toNat = bl (wv b).toNat + n) :
    RdI a b n ⟨n + 1, a, List.replicate (n / 32 + 1) 0, digs (n / 32 + b.length + 1) (wv b * 2 ^ n)⟩ := by
  have hap := ha.pos
  have hbp : 0 < wv b := by have := hb.top hne; have := pow_pos32 (b.length - 1); omega
  have hP : (0 : Int) < 2 ^ n := Int.pow_pos (by omega)
  have hd : wv (digs (n / 32 + b.length + 1) (wv b * 2 ^ n)) = wv b * 2 ^ n := by
    refine wv_digs _ _ (Int.mul_nonneg (by omega) (by omega)) ?_
    have h1 := wv_lt hb.wd
    have h2 : (2 : Int) ^ (n % 32) < 4294967296 := by
      have := Nat.pow_lt_pow_right (show 1 < 2 by omega) (Nat.mod_lt n (show 0 < 32 by omega))
      rw [← cast_pow2]; omega
    have h3 : (0 : Int) < 2 ^ (n % 32) := Int.pow_pos (by omega)
    have h4 : (4294967296 : Int) ^ (n / 32 + b.length + 1) = 4294967296 ^ (n / 32) * (4294967296 ^ b.length * 4294967296) := by rw [Int.pow_add, Int.pow_add]; simp [Int.mul_assoc]
    have h5 : wv b * 2 ^ (n % 32) < 4294967296 ^ b.length * 4294967296 := Int.mul_lt_mul h1 (by omega) h3 (by have := pow_pos32 b.length; omega)
    rw [h4, pow_split n, ← Int.mul_assoc, Int.mul_comm (wv b), Int.mul_assoc]
    exact Int.mul_lt_mul_of_pos_left h5 (pow_pos32 _)
  refine ⟨Nat.le_refl _, rfl, by simp, digs_len _ _, ha.wd, Wd.replicate _, digs_wd _ _, ?_, ?_, ?_, ?_⟩
  · show wv (digs _ _) = wv b * 2 ^ (n + 1) / 2
    rw [hd, Int.pow_succ, ← Int.mul_assoc, Int.mul_ediv_cancel _ (by omega)]
  · show wv a = wv (List.replicate _ 0) * _ + wv a
    rw [wv_replicate, Int.zero_mul]; omega
  · show wv a < wv b * 2 ^ (n + 1)
    obtain ⟨A, hA⟩ := Int.eq_ofNat_of_zero_le hap
    obtain ⟨B, hB⟩ := Int.eq_ofNat_of_zero_le (show 0 ≤ wv b by omega)
    rw [hA, hB, Int.toNat_natCast, Int.toNat_natCast] at hn
    have h1 := bl_lt A
    have hB0 : B ≠ 0 := by omega
    have h2 := bl_le hB0
    have hbl : bl B ≠ 0 := by intro e; have := bl_lt B; rw [e] at this; omega
    have h3 : 2 ^ bl A = 2 ^ (bl B - 1) * 2 ^ (n + 1) := by rw [← Nat.pow_add]; congr 1; omega
    have h4 : 2 ^ (bl B - 1) * 2 ^ (n + 1) ≤ B * 2 ^ (n + 1) := Nat.mul_le_mul_right _ h2
    rw [hA, hB, ← cast_pow2, ← Int.natCast_mul]
    omega
  · show _ ∣ wv (List.replicate _ 0)
    rw [wv_replicate]; exact Int.dvd_zero _

theorem RdI.digit {a b : List Int} {n : Nat} {s : RdS} (h : RdI a b n s) {i : Nat} (hi : s.k = i + 1) :
    (s.q.getD (i / 32) 0).toNat % 2 ^ (i % 32 + 1) = 0 ∧ s.q.getD (i / 32) 0 + 2 ^ (i % 32) < 4294967296 := by
  have hq := h.qz
  rw [hi] at hq
  have hw := h.wq.getD (i / 32)
  have h1 := wv_take_drop s.q (i / 32)
  rw [getD_drop_wv] at h1
  have h2 := wv_take_lt h.wq (i / 32)
  have hp := pow_pos32 (i / 32)
  have hc : (2 : Int) ^ (i + 1) = 4294967296 ^ (i / 32) * 2 ^ (i % 32 + 1) := by rw [Int.pow_succ, pow_split i, Int.pow_succ]; grind
  obtain ⟨k, hk⟩ := hq
  rw [hc] at hk
  have hz : wv (s.q.take (i / 32)) = 0 := by
    have e : wv (s.q.take (i / 32)) = 4294967296 ^ (i / 32) * (2 ^ (i % 32 + 1) * k - (s.q.getD (i / 32) 0 + 4294967296 * wv (s.q.drop (i / 32 + 1)))) := by
      rw [Int.mul_sub, ← Int.mul_assoc]; omega
    have d : (4294967296 : Int) ^ (i / 32) ∣ wv (s.q.take (i / 32)) := ⟨_, e⟩
    rw [← Int.emod_eq_of_lt h2.1 h2.2]; exact Int.emod_eq_zero_of_dvd d
  rw [hz, Int.zero_add] at h1
  have h3 : s.q.getD (i / 32) 0 + 4294967296 * wv (s.q.drop (i / 32 + 1)) = 2 ^ (i % 32 + 1) * k := by
    refine Int.eq_of_mul_eq_mul_left (show (4294967296 : Int) ^ (i / 32) ≠ 0 by omega) ?_
    rw [← h1, hk, Int.mul_assoc]
  have hm : i % 32 + 1 + (31 - i % 32) = 32 := by omega
  have h4 : (4294967296 : Int) = 2 ^ (i % 32 + 1) * 2 ^ (31 - i % 32) := by rw [← Int.pow_add, hm]; rfl
  have hP : (0 : Int) < 2 ^ (i % 32 + 1) := Int.pow_pos (by omega)
  have hd : (2 : Int) ^ (i % 32 + 1) ∣ s.q.getD (i / 32) 0 := by
    refine ⟨k - 2 ^ (31 - i % 32) * wv (s.q.drop (i / 32 + 1)), ?_⟩
    rw [Int.mul_sub, ← Int.mul_assoc, ← h4]; omega
  obtain ⟨m, hm⟩ := hd
  have hm0 : 0 ≤ m := by
    rcases Int.lt_or_le m 0 with q | q
    · have := Int.mul_lt_mul_of_pos_left q hP
      omega
    · exact q
  have hP1 : (2 : Int) ^ (i % 32 + 1) = 2 ^ (i % 32) * 2 := Int.pow_succ ..
  refine ⟨?_, ?_⟩
  · obtain ⟨M, rfl⟩ := Int.eq_ofNat_of_zero_le hm0
    rw [hm, ← cast_pow2, ← Int.natCast_mul, Int.toNat_natCast, Nat.mul_mod_right]
  · have hlt : m < 2 ^ (31 - i % 32) := by
      refine mul_lt_cancel hP ?_
      rw [← hm, ← h4]; exact hw.2
    have h5 : (2 : Int) ^ (i % 32 + 1) * (m + 1) ≤ 2 ^ (i % 32 + 1) * 2 ^ (31 - i % 32) := Int.mul_le_mul_of_nonneg_left (by omega) (by omega)
    rw [← h4, Int.mul_add, Int.mul_one, ← hm] at h5
    have h6 : (0 : Int) < 2 ^ (i % 32) := Int.pow_pos (by omega)
    omega

theorem RdI.dval {a b : List Int} {n : Nat} {s : RdS} (h : RdI a b n s) {i : Nat} (hi : s.k = i + 1) : wv s.d = wv b * 2 ^ i := by
  rw [h.dv, hi, Int.pow_succ, ← Int.mul_assoc, Int.mul_ediv_cancel _ (by omega)]

theorem wv_half_digs {l : List Int} (h : Wd l) : wv (digs l.length (wv l / 2)) = wv l / 2 := by
  have h0 := wv_nonneg h
  have h1 := wv_lt h
  exact wv_digs _ _ (by omega) (by omega)

theorem RdI.skip {a b : List Int} {n : Nat} {s : RdS} (h : RdI a b n s) {i : Nat} (hi : s.k = i + 1) (hc : ¬ wv s.d ≤ wv s.r) : RdI a b n ⟨i, s.r, s.q, digs s.d.length (wv s.d / 2)⟩ := by
  have hd := h.dval hi
  refine ⟨by show i ≤ n + 1; have := h.hk; omega, h.lr, h.lq, by simp [digs_len, h.ld], h.wr, h.wq, digs_wd _ _, ?_, h.sum, ?_, ?_⟩
  · show wv (digs _ _) = _
    rw [wv_half_digs h.wd, hd]
  · show wv s.r < wv b * 2 ^ i
    rw [hd] at hc; omega
  · have := h.qz
    rw [hi, Int.pow_succ] at this
    exact Int.dvd_trans (Int.dvd_mul_right _ _) this

theorem RdI.take {a b : List Int} {n : Nat} {s : RdS} (h : RdI a b n s) {i : Nat} (hi : s.k = i + 1) (hc : wv s.d ≤ wv s.r) :
    RdI a b n ⟨i, digs s.r.length (wv s.r - wv s.d), s.q.set (i / 32) (s.q.getD (i / 32) 0 + 2 ^ (i % 32)), digs s.d.length (wv s.d / 2)⟩ := by
  have hd := h.dval hi
  have hk := h.hk
  have hg := h.digit hi
  have hw := h.wq.getD (i / 32)
  have hP : (0 : Int) < 2 ^ (i % 32) := Int.pow_pos (by omega)
  have hr : wv (digs s.r.length (wv s.r - wv s.d)) = wv s.r - wv s.d := by
    have h0 := wv_nonneg h.wd
    have h1 := wv_lt h.wr
    exact wv_digs _ _ (by omega) (by omega)
  have hq : wv (s.q.set (i / 32) (s.q.getD (i / 32) 0 + 2 ^ (i % 32))) = wv s.q + 2 ^ i := by
    rw [wv_set _ _ _ (by rw [h.lq]; omega), pow_split i]
    congr 2; omega
  refine ⟨by show i ≤ n + 1; omega, by simp [digs_len, h.lr], by simp [h.lq], by simp [digs_len, h.ld], digs_wd _ _, h.wq.set _ ⟨by omega, hg.2⟩, digs_wd _ _, ?_, ?_, ?_, ?_⟩
  · show wv (digs _ _) = _
    rw [wv_half_digs h.wd, hd]
  · show wv a = wv (s.q.set _ _) * wv b + wv (digs _ _)
    rw [hq, hr, hd, h.sum, Int.add_mul, Int.mul_comm (wv b)]; omega
  · show wv (digs _ _) < wv b * 2 ^ i
    rw [hr, hd]
    have := h.lt
    rw [hi, Int.pow_succ, ← Int.mul_assoc] at this
    omega
  · show _ ∣ wv (s.q.set _ _)
    rw [hq]
    have := h.qz
    rw [hi, Int.pow_succ] at this
    exact Int.dvd_add (Int.dvd_trans (Int.dvd_mul_right _ _) this) (Int.dvd_refl _)

theorem RdI.fin {a b : List Int} (hb : 0 < wv b) {n : Nat} {s : RdS} (h : RdI a b n s) (hk : s.k = 0) : wv s.q = wv a / wv b ∧ wv s.r = wv a % wv b := by
  have h1 := h.lt
  rw [hk, Int.pow_zero, Int.mul_one] at h1
  have h2 := h.sum
  have h3 := wv_nonneg h.wr
  have := divmod_unique (a := wv a) (b := wv b) (q := wv s.q) (r := wv s.r) (by rw [Int.mul_comm]; omega) h3 (by omega)
  exact ⟨this.1.symm, this.2.symm⟩

theorem digs2 (z : Int) : digs 2 z = [z % 4294967296, z / 4294967296 % 4294967296] := rfl

theorem p_rdivide : Good Tryz.f133 s_rdivide := by
  intro ms p r h hp
  unfold s_rdivide at h
  split at h
  · rename_i a b
    simp only [Option.some.injEq, Prod.mk.injEq] at h
    obtain ⟨rfl, rfl⟩ := h
    obtain ⟨ha, hb, hne, la, lb⟩ : Cn a ∧ Cn b ∧ b ≠ [] ∧ a.length ≤ 31000 ∧ b.length ≤ 31000 := hp
    have hap := ha.pos
    have hbp : 0 < wv b := by have := hb.top hne; have := pow_pos32 (b.length - 1); omega
    refine ⟨envM [c_rword, c_rbits2, c_rreach] [n_rleft, n_rhalf, n_rtake] (a_rdivide a b (bl (wv a).toNat - bl (wv b).toNat)) (k_rdivide a b), ?_⟩
    rw [← vc_rdivide a b (bl (wv a).toNat - bl (wv b).toNat)]
    refine ⟨?_, ?_⟩
    · have fin : smallL a b = false → ∃ _ : Unit, (True ∧ smallL a b = false) ∧ (True ∧ True ∧ True ∧ True) ∧ (True ∧ True ∧ True) ∧ True := fun h => ⟨(), ⟨True.intro, h⟩, ⟨True.intro, True.intro, True.intro, True.intro⟩, ⟨True.intro, True.intro, True.intro⟩, True.intro⟩
      simp only [Bool.cond_decide]
      split
      · rename_i h1
        split
        · rename_i h2
          have ea := wv2 (show a.length ≤ 2 by omega)
          have eb := wv2 (show b.length ≤ 2 by omega)
          have wa0 := wdg_wd ha.wd 0
          have wa1 := wdg_wd ha.wd 1
          have wb0 := wdg_wd hb.wd 0
          have wb1 := wdg_wd hb.wd 1
          have oa : IntKind.u64.wrap (↑(BitVec.ofInt (IntKind.bits IntKind.u64) (wdg a 0) ||| BitVec.ofInt (IntKind.bits IntKind.u64) (IntKind.u64.wrap (wdg a 1 * 4294967296))).toNat) = wv a := by
            rw [BitVec.or_comm, or_hi wa1 wa0, ea]
          have ob : IntKind.u64.wrap (↑(BitVec.ofInt (IntKind.bits IntKind.u64) (wdg b 0) ||| BitVec.ofInt (IntKind.bits IntKind.u64) (IntKind.u64.wrap (wdg b 1 * 4294967296))).toNat) = wv b := by
            rw [BitVec.or_comm, or_hi wb1 wb0, eb]
          have hdv0 := Int.ediv_nonneg hap (show 0 ≤ wv b by omega)
          have hdv1 := Int.ediv_le_self (wv b) hap
          have hm0 := Int.emod_nonneg (wv a) (show wv b ≠ 0 by omega)
          have hm1 := Int.emod_lt_of_pos (wv a) hbp
          have x1 : IntKind.u64.wrap (wv a / wv b) = wv a / wv b := eu64 (by omega)
          have hs : smallL a b = true := by unfold smallL; rw [decide_eq_true (by omega), decide_eq_true (by omega)]; rfl
          simp only [p32, oa, ob, Int.tdiv_eq_ediv_of_nonneg hap, Int.tmod_eq_emod_of_nonneg hap, x1, Int.fdiv_eq_ediv_of_nonneg _ (show (0 : Int) ≤ 4294967296 by omega), u32w, divQ, divR, hs, cond_true, digs2]
          exact ⟨ha.wd, ha.wd, by omega, hb.wd, hb.wd, by omega, fun e => by omega, fun e => by omega, by omega, fun e => by omega, fun e => by omega, by omega, ⟨by simp, by simp⟩, rfl, rfl, True.intro⟩
        · rename_i h2
          exact fin (by unfold smallL; rw [decide_eq_false (p := b.length ≤ 2) (by omega)]; simp)
      · rename_i h1
        exact fin (by unfold smallL; rw [decide_eq_false (p := a.length ≤ 2) (by omega)]; simp)
    · rintro ⟨⟩ ⟨-, hs⟩
      have hla : bl (wv a).toNat ≤ 1000000 := bl_words2 ha.wd (by omega)
      have hlb : bl (wv b).toNat ≤ 1000000 := bl_words2 hb.wd (by omega)
      have ew : IntKind.i64.wrap ((bl (wv a).toNat : Int) - (bl (wv b).toNat : Int)) = (bl (wv a).toNat : Int) - (bl (wv b).toNat : Int) := i64w (by omega) (by omega)
      simp only [ew, Bool.cond_decide]
      refine ⟨⟨by simp, by show (0 + a.length) * 4 ≤ _; omega⟩, ⟨ha, by omega⟩, ⟨hb, by omega⟩, ?_⟩
      split
      · rename_i hlt
        have hlt : decide (bl (wv a).toNat < bl (wv b).toNat) = true := decide_eq_true (by omega)
        refine ⟨by show 0 + (0 + a.length) ≤ (a).length; omega, ⟨(by and_intros <;> first | exact True.intro | rfl | omega), ?_⟩, ?_, True.intro⟩
        · unfold divQ; rw [hs, cond_false, hlt, cond_true]
        · unfold divR; rw [hs, cond_false, hlt, cond_true]
          show List.take (0 + a.length) a = a
          rw [Nat.zero_add, List.take_length]
      · rename_i hlt
        have hltd : decide (bl (wv a).toNat < bl (wv b).toNat) = false := decide_eq_false (by omega)
        obtain ⟨n, hn⟩ : ∃ n : Nat, bl (wv a).toNat = bl (wv b).toNat + n := ⟨bl (wv a).toNat - bl (wv b).toNat, by omega⟩
        have e0 : (bl (wv a).toNat : Int) - (bl (wv b).toNat : Int) = (n : Int) := by omega
        have e1 : bl (wv a).toNat - bl (wv b).toNat = n := by omega
        have eq : IntKind.i64.wrap (Int.tdiv (n : Int) 32) = ((n / 32 : Nat) : Int) := by
          have e : Int.tdiv (n : Int) 32 = ((n / 32 : Nat) : Int) := rfl
          rw [e, i64w (by omega) (by omega)]
        have eq1 : IntKind.i64.wrap (((n / 32 : Nat) : Int) + 1) = ((n / 32 + 1 : Nat) : Int) := by rw [i64w (by omega) (by omega)]; omega
        have hQ : divQ a b = digs (n / 32 + 1) (wv a / wv b) := by unfold divQ; rw [hs, cond_false, hltd, cond_false, e1]
        have hR : divR a b = digs a.length (wv a % wv b) := by unfold divR; rw [hs, cond_false, hltd, cond_false]
        simp only [e0, e1, eq, eq1, Int.toNat_natCast, hQ, hR]
        refine ⟨fun e => by omega, (by and_intros <;> first | exact True.intro | rfl | omega), ⟨hb.wd, by omega, by omega, by omega⟩, ⟨_, RdI.init ha hb hne hn, ⟨(by and_intros <;> first | exact True.intro | rfl | omega), ⟨(by and_intros <;> first | exact True.intro | rfl | omega), by show 0 + a.length = a.length; omega⟩, (by and_intros <;> first | exact True.intro | rfl | omega), ⟨(by and_intros <;> first | exact True.intro | rfl | omega), digs_len _ _⟩, by show (n : Int) = ((n + 1 : Nat) : Int) - 1; omega, True.intro⟩, (by and_intros <;> first | exact True.intro | rfl | omega), (by and_intros <;> first | exact True.intro | rfl | omega)⟩, ?_⟩
        rintro ⟨k, rr, q, d⟩ hI
        have hk : k ≤ n + 1 := hI.hk
        have hlr : rr.length = a.length := hI.lr
        have hlq : q.length = n / 32 + 1 := hI.lq
        have hld : d.length = n / 32 + b.length + 1 := hI.ld
        have hwr : Wd rr := hI.wr
        have hwd : Wd d := hI.wd
        have t1 : List.take a.length (List.drop 0 rr) = rr := by rw [List.drop_zero]; exact List.take_of_length_le (by omega)
        have t2 : List.take (n / 32 + b.length + 1) (List.drop 0 d) = d := by rw [List.drop_zero]; exact List.take_of_length_le (by omega)
        have t3 : List.take (n / 32 + 1) (List.drop 0 q) = q := by rw [List.drop_zero]; exact List.take_of_length_le (by omega)
        simp only [t1, t2, t3]
        split
        · rename_i hge
          have hge : (k : Int) - 1 ≥ 0 := hge
          obtain ⟨i, rfl⟩ : ∃ i, k = i + 1 := ⟨k - 1, by omega⟩
          have f0 : (((i + 1 : Nat) : Int) - 1) = (i : Int) := by omega
          have f1 : IntKind.i64.wrap (Int.tdiv (i : Int) 32) = ((i / 32 : Nat) : Int) := by
            have e : Int.tdiv (i : Int) 32 = ((i / 32 : Nat) : Int) := rfl
            rw [e, i64w (by omega) (by omega)]
          have f2 : IntKind.u64.wrap (Int.tmod (i : Int) 32) = ((i % 32 : Nat) : Int) := by
            have e : Int.tmod (i : Int) 32 = ((i % 32 : Nat) : Int) := rfl
            rw [e, eu64 (by omega)]
          have hc : i % 32 < 32 := Nat.mod_lt _ (by omega)
          have f3 : min (i % 32) (IntKind.bits IntKind.u32) = i % 32 := by show min (i % 32) 32 = _; omega
          have f4 : IntKind.i64.wrap ((i : Int) - 1) = (i : Int) - 1 := i64w (by omega) (by omega)
          have hg := hI.digit (i := i) rfl
          have hgw := hI.wq.getD (i / 32)
          have hP : (0 : Int) < 2 ^ (i % 32) := Int.pow_pos (by omega)
          have hg2 : q.getD (i / 32) 0 + 2 ^ (i % 32) < 4294967296 := hg.2
          have hgw : 0 ≤ q.getD (i / 32) 0 ∧ q.getD (i / 32) 0 < 4294967296 := hgw
          have f5 : IntKind.u32.wrap (1 * 2 ^ (i % 32)) = 2 ^ (i % 32) := by rw [Int.one_mul]; exact eu32 (by omega)
          have hn2 : ((2 ^ (i % 32) : Nat) : Int) = (2 : Int) ^ (i % 32) := cast_pow2 _
          have hn3 : 2 ^ (i % 32 + 1) = 2 ^ (i % 32) * 2 := Nat.pow_succ ..
          have f6 := or32 (A := q.getD (i / 32) 0) (y := 2 ^ (i % 32)) (i % 32 + 1) hgw.1 hgw.2 hg.1 (by omega) (by omega) hg2
          rw [BitVec.or_comm] at f6
          simp only [f0, f1, f2, f3, f4, f5, f6, Int.toNat_natCast, Nat.zero_add]
          refine ⟨⟨⟨by omega, by omega⟩, hwr, hwd, by omega, by omega⟩, ?_⟩
          split
          · rename_i hle
            exact ⟨⟨hwr, hwd, by omega, by omega, by omega, hle⟩, fun e => by omega, (by and_intros <;> first | exact True.intro | rfl | omega), by omega, fun e => by omega, by omega, (by and_intros <;> first | exact True.intro | rfl | omega), by omega, ⟨hwd, by omega, by omega⟩, _, hI.take (i := i) rfl hle, ⟨(by and_intros <;> first | exact True.intro | rfl | omega), (by and_intros <;> first | exact True.intro | rfl | omega), (by and_intros <;> first | exact True.intro | rfl | omega)⟩, Nat.lt_succ_self i⟩
          · rename_i hle
            exact ⟨⟨hwd, by omega, by omega⟩, _, hI.skip (i := i) rfl hle, ⟨(by and_intros <;> first | exact True.intro | rfl | omega), (by and_intros <;> first | exact True.intro | rfl | omega), (by and_intros <;> first | exact True.intro | rfl | omega)⟩, Nat.lt_succ_self i⟩
        · rename_i hge
          have hk0 : k = 0 := by have : ¬ (k : Int) - 1 ≥ 0 := hge; omega
          obtain ⟨g1, g2⟩ := hI.fin hbp hk0
          have g1 : wv q = wv a / wv b := g1
          have g2 : wv rr = wv a % wv b := g2
          have d1 := digs_wv hI.wq
          have d2 := digs_wv hwr
          have d1 : digs q.length (wv q) = q := d1
          rw [g1, hlq] at d1
          rw [g2, hlr] at d2
          exact ⟨⟨by omega, by omega⟩, d1.symm, d2.symm, True.intro⟩
  · simp at h
def c_rdivide : Ctr Tryz.prog := ⟨133, s_rdivide, fun args w => Tryz.call133 args w, fn_ok mix Tryz.func133 s_rdivide p_rdivide⟩

end Go.Proofs.YtkokpkhdkbeofaaGreat

/-
  Contracts of functions: the reference of layer 1: division, common divisors.
-/
namespace Go.Proofs.YtkokpkhdkbeofaaGreat
open Go Go.RowKit

theorem divQ_wd (a b : List Int) : Wd (divQ a b) := by
  unfold divQ
  cases smallL a b
  · cases decide (bl (wv a).toNat < bl (wv b).toNat)
    · exact digs_wd _ _
    · exact Wd.nil
  · exact digs_wd _ _
theorem divR_wd {a : List Int} (ha : Wd a) (b : List Int) : Wd (divR a b) := by
  unfold divR
  cases smallL a b
  · cases decide (bl (wv a).toNat < bl (wv b).toNat)
    · exact digs_wd _ _
    · exact ha
  · exact digs_wd _ _
theorem divR_len (a b : List Int) : (divR a b).length ≤ a.length + 2 := by
  unfold divR
  cases smallL a b
  · cases decide (bl (wv a).toNat < bl (wv b).toNat)
    · rw [cond_false, cond_false, digs_len]; omega
    · rw [cond_false, cond_true]; omega
  · rw [cond_true, digs_len]; omega
theorem divQ_len (a b : List Int) : (divQ a b).length ≤ bl (wv a).toNat / 32 + 2 := by
  unfold divQ
  cases smallL a b
  · cases decide (bl (wv a).toNat < bl (wv b).toNat)
    · rw [cond_false, cond_false, digs_len]; omega
    · rw [cond_false, cond_true]; simp
  · rw [cond_true, digs_len]; omega

theorem bl_lt_of {a b : Nat} (h : bl a < bl b) : a < b := by
  rcases Nat.lt_or_ge a b with q | q
  · exact q
  · have h1 := bl_lt a
    have h2 := bl_le (n := b) (by intro e; subst e; rw [bl_zero] at h; omega)
    have : 2 ^ (bl b - 1) < 2 ^ bl a := by omega
    have := (Nat.pow_lt_pow_iff_right (by omega : 1 < 2)).1 this
    have h5 : 2 ^ bl a ≤ 2 ^ (bl b - 1) := Nat.pow_le_pow_right (by omega) (by omega)
    omega

theorem div_wv {a b : List Int} (ha : Cn a) (hb : 0 < wv b) : wv (divQ a b) = wv a / wv b ∧ wv (divR a b) = wv a % wv b := by
  have hap := ha.pos
  have hlt := wv_lt ha.wd
  have hd0 := Int.ediv_nonneg hap (show 0 ≤ wv b by omega)
  have hd1 := Int.ediv_le_self (wv b) hap
  have hm0 := Int.emod_nonneg (wv a) (show wv b ≠ 0 by omega)
  have hm1 : wv a % wv b ≤ wv a := by
    have h1 := Int.mul_ediv_add_emod (wv a) (wv b)
    have h2 := Int.mul_nonneg (show 0 ≤ wv b by omega) hd0
    omega
  unfold divQ divR
  cases hs : smallL a b with
  | true =>
    rw [cond_true, cond_true]
    have hl : a.length ≤ 2 := by unfold smallL at hs; simp at hs; exact hs.1
    have h2 := pow_le32 hl
    exact ⟨wv_digs _ _ hd0 (by omega), wv_digs _ _ hm0 (by omega)⟩
  | false =>
    rw [cond_false, cond_false]
    cases hc : decide (bl (wv a).toNat < bl (wv b).toNat) with
    | true =>
      rw [cond_true, cond_true]
      have := bl_lt_of (of_decide_eq_true hc)
      rw [Int.ediv_eq_zero_of_lt hap (by omega), Int.emod_eq_of_lt hap (by omega)]
      exact ⟨rfl, rfl⟩
    | false =>
      rw [cond_false, cond_false]
      refine ⟨wv_digs _ _ hd0 ?_, wv_digs _ _ hm0 (by omega)⟩
      obtain ⟨A, hA⟩ := Int.eq_ofNat_of_zero_le hap
      obtain ⟨B, hB⟩ := Int.eq_ofNat_of_zero_le (show 0 ≤ wv b by omega)
      rw [hA, hB, Int.toNat_natCast, Int.toNat_natCast] at hc ⊢
      have hc := of_decide_eq_false hc
      have h1 := bl_lt A
      have h2 := bl_le (n := B) (by omega)
      have hbB : bl B ≠ 0 := by intro e; have := bl_lt B; rw [e] at this; omega
      have h3 : A / B < 2 ^ (bl A - bl B + 1) := by
        rw [Nat.div_lt_iff_lt_mul (by omega)]
        have h4 : 2 ^ bl A = 2 ^ (bl A - bl B + 1) * 2 ^ (bl B - 1) := by rw [← Nat.pow_add]; congr 1; omega
        have h5 : 2 ^ (bl A - bl B + 1) * 2 ^ (bl B - 1) ≤ 2 ^ (bl A - bl B + 1) * B := Nat.mul_le_mul_left _ h2
        omega
      have h6 : 2 ^ (bl A - bl B + 1) ≤ 4294967296 ^ ((bl A - bl B) / 32 + 1) := by
        rw [pow_words]; exact Nat.pow_le_pow_right (by omega) (by omega)
      rw [← cast_pow32, ← Int.natCast_ediv]
      omega

theorem vc_rdivmod (a b : Int) (n m : Nat) : (bif (↑(List.length (limbs (Int.natAbs b))) : Int) == (0 : Int) then bif decide (b = (0 : Int)) then ((0 : Int) = (0 : Int) ∧ ((0 : Nat) ≤ (0 : Nat) ∨ Int.natAbs (0 : Int) < (2 : Nat) ^ (0 : Nat))) ∧ ((0 : Int) = (0 : Int) ∧ ((0 : Nat) ≤ (0 : Nat) ∨ Int.natAbs (0 : Int) < (2 : Nat) ^ (0 : Nat))) ∧ (4 : Int) = (4 : Int) ∧ True else ((0 : Int) = a / b ∧ ((0 : Nat) ≤ n ∨ Int.natAbs (0 : Int) < (2 : Nat) ^ n)) ∧ ((0 : Int) = a % b ∧ ((0 : Nat) ≤ m ∨ Int.natAbs (0 : Int) < (2 : Nat) ^ m)) ∧ (4 : Int) = (0 : Int) ∧ True else (limbs (Int.toNat (wv (limbs (Int.natAbs a)))) = limbs (Int.natAbs a) ∧ limbs (Int.toNat (wv (limbs (Int.natAbs b)))) = limbs (Int.natAbs b) ∧ (limbs (Int.natAbs b) = [] → False) ∧ List.length (limbs (Int.natAbs a)) ≤ (31000 : Nat) ∧ List.length (limbs (Int.natAbs b)) ≤ (31000 : Nat)) ∧ ((∀ (x : Int), x ∈ divQ (limbs (Int.natAbs a)) (limbs (Int.natAbs b)) → (0 : Int) ≤ x ∧ x < (4294967296 : Int)) ∧ List.length (divQ (limbs (Int.natAbs a)) (limbs (Int.natAbs b))) ≤ (1000000000 : Nat)) ∧ ((∀ (x : Int), x ∈ divR (limbs (Int.natAbs a)) (limbs (Int.natAbs b)) → (0 : Int) ≤ x ∧ x < (4294967296 : Int)) ∧ List.length (divR (limbs (Int.natAbs a)) (limbs (Int.natAbs b))) ≤ (1000000000 : Nat)) ∧ bif decide (sg (decide (a < (0 : Int))) (wv (divR (limbs (Int.natAbs a)) (limbs (Int.natAbs b)))) < (0 : Int)) then m ≤ (1000000 : Nat) ∧ ((32 : Nat) * List.length (divR (limbs (Int.natAbs a)) (limbs (Int.natAbs b))) ≤ (1000000 : Nat) ∧ m ≤ (1000000 : Nat)) ∧ bif decide (b < (0 : Int)) then ((-9223372036854775808 : Int) ≤ (1 : Int) ∧ (1 : Int) ≤ (9223372036854775807 : Int)) ∧ ((32 : Nat) * List.length (divQ (limbs (Int.natAbs a)) (limbs (Int.natAbs b))) ≤ (1000000 : Nat) ∧ (64 : Nat) ≤ (1000000 : Nat)) ∧ bif decide (b = (0 : Int)) then (sg (!decide (a < (0 : Int)) == decide (b < (0 : Int))) (wv (divQ (limbs (Int.natAbs a)) (limbs (Int.natAbs b)))) + (1 : Int) = (0 : Int) ∧ (max ((32 : Nat) * List.length (divQ (limbs (Int.natAbs a)) (limbs (Int.natAbs b)))) (64 : Nat) + (1 : Nat) ≤ (0 : Nat) ∨ Int.natAbs (sg (!decide (a < (0 : Int)) == decide (b < (0 : Int))) (wv (divQ (limbs (Int.natAbs a)) (limbs (Int.natAbs b)))) + (1 : Int)) < (2 : Nat) ^ (0 : Nat))) ∧ (sg (decide (a < (0 : Int))) (wv (divR (limbs (Int.natAbs a)) (limbs (Int.natAbs b)))) + (↑(Int.natAbs b) : Int) = (0 : Int) ∧ (max ((32 : Nat) * List.length (divR (limbs (Int.natAbs a)) (limbs (Int.natAbs b)))) m + (1 : Nat) ≤ (0 : Nat) ∨ Int.natAbs (sg (decide (a < (0 : Int))) (wv (divR (limbs (Int.natAbs a)) (limbs (Int.natAbs b)))) + (↑(Int.natAbs b) : Int)) < (2 : Nat) ^ (0 : Nat))) ∧ (0 : Int) = (4 : Int) ∧ True else (sg (!decide (a < (0 : Int)) == decide (b < (0 : Int))) (wv (divQ (limbs (Int.natAbs a)) (limbs (Int.natAbs b)))) + (1 : Int) = a / b ∧ (max ((32 : Nat) * List.length (divQ (limbs (Int.natAbs a)) (limbs (Int.natAbs b)))) (64 : Nat) + (1 : Nat) ≤ n ∨ Int.natAbs (sg (!decide (a < (0 : Int)) == decide (b < (0 : Int))) (wv (divQ (limbs (Int.natAbs a)) (limbs (Int.natAbs b)))) + (1 : Int)) < (2 : Nat) ^ n)) ∧ (sg (decide (a < (0 : Int))) (wv (divR (limbs (Int.natAbs a)) (limbs (Int.natAbs b)))) + (↑(Int.natAbs b) : Int) = a % b ∧ (max ((32 : Nat) * List.length (divR (limbs (Int.natAbs a)) (limbs (Int.natAbs b)))) m + (1 : Nat) ≤ m ∨ Int.natAbs (sg (decide (a < (0 : Int))) (wv (divR (limbs (Int.natAbs a)) (limbs (Int.natAbs b)))) + (↑(Int.natAbs b) : Int)) < (2 : Nat) ^ m)) ∧ (0 : Int) = (0 : Int) ∧ True else ((-9223372036854775808 : Int) ≤ (1 : Int) ∧ (1 : Int) ≤ (9223372036854775807 : Int)) ∧ ((32 : Nat) * List.length (divQ (limbs (Int.natAbs a)) (limbs (Int.natAbs b))) ≤ (1000000 : Nat) ∧ (64 : Nat) ≤ (1000000 : Nat)) ∧ bif decide (b = (0 : Int)) then (sg (!decide (a < (0 : Int)) == decide (b < (0 : Int))) (wv (divQ (limbs (Int.natAbs a)) (limbs (Int.natAbs b)))) - (1 : Int) = (0 : Int) ∧ (max ((32 : Nat) * List.length (divQ (limbs (Int.natAbs a)) (limbs (Int.natAbs b)))) (64 : Nat) + (1 : Nat) ≤ (0 : Nat) ∨ Int.natAbs (sg (!decide (a < (0 : Int)) == decide (b < (0 : Int))) (wv (divQ (limbs (Int.natAbs a)) (limbs (Int.natAbs b)))) - (1 : Int)) < (2 : Nat) ^ (0 : Nat))) ∧ (sg (decide (a < (0 : Int))) (wv (divR (limbs (Int.natAbs a)) (limbs (Int.natAbs b)))) + (↑(Int.natAbs b) : Int) = (0 : Int) ∧ (max ((32 : Nat) * List.length (divR (limbs (Int.natAbs a)) (limbs (Int.natAbs b)))) m + (1 : Nat) ≤ (0 : Nat) ∨ Int.natAbs (sg (decide (a < (0 : Int))) (wv (divR (limbs (Int.natAbs a)) (limbs (Int.natAbs b)))) + (↑(Int.natAbs b) : Int)) < (2 : Nat) ^ (0 : Nat))) ∧ (0 : Int) = (4 : Int) ∧ True else (sg (!decide (a < (0 : Int)) == decide (b < (0 : Int))) (wv (divQ (limbs (Int.natAbs a)) (limbs (Int.natAbs b)))) - (1 : Int) = a / b ∧ (max ((32 : Nat) * List.length (divQ (limbs (Int.natAbs a)) (limbs (Int.natAbs b)))) (64 : Nat) + (1 : Nat) ≤ n ∨ Int.natAbs (sg (!decide (a < (0 : Int)) == decide (b < (0 : Int))) (wv (divQ (limbs (Int.natAbs a)) (limbs (Int.natAbs b)))) - (1 : Int)) < (2 : Nat) ^ n)) ∧ (sg (decide (a < (0 : Int))) (wv (divR (limbs (Int.natAbs a)) (limbs (Int.natAbs b)))) + (↑(Int.natAbs b) : Int) = a % b ∧ (max ((32 : Nat) * List.length (divR (limbs (Int.natAbs a)) (limbs (Int.natAbs b)))) m + (1 : Nat) ≤ m ∨ Int.natAbs (sg (decide (a < (0 : Int))) (wv (divR (limbs (Int.natAbs a)) (limbs (Int.natAbs b)))) + (↑(Int.natAbs b) : Int)) < (2 : Nat) ^ m)) ∧ (0 : Int) = (0 : Int) ∧ True else bif decide (b = (0 : Int)) then (sg (!decide (a < (0 : Int)) == decide (b < (0 : Int))) (wv (divQ (limbs (Int.natAbs a)) (limbs (Int.natAbs b)))) = (0 : Int) ∧ ((32 : Nat) * List.length (divQ (limbs (Int.natAbs a)) (limbs (Int.natAbs b))) ≤ (0 : Nat) ∨ Int.natAbs (sg (!decide (a < (0 : Int)) == decide (b < (0 : Int))) (wv (divQ (limbs (Int.natAbs a)) (limbs (Int.natAbs b))))) < (2 : Nat) ^ (0 : Nat))) ∧ (sg (decide (a < (0 : Int))) (wv (divR (limbs (Int.natAbs a)) (limbs (Int.natAbs b)))) = (0 : Int) ∧ ((32 : Nat) * List.length (divR (limbs (Int.natAbs a)) (limbs (Int.natAbs b))) ≤ (0 : Nat) ∨ Int.natAbs (sg (decide (a < (0 : Int))) (wv (divR (limbs (Int.natAbs a)) (limbs (Int.natAbs b))))) < (2 : Nat) ^ (0 : Nat))) ∧ (0 : Int) = (4 : Int) ∧ True else (sg (!decide (a < (0 : Int)) == decide (b < (0 : Int))) (wv (divQ (limbs (Int.natAbs a)) (limbs (Int.natAbs b)))) = a / b ∧ ((32 : Nat) * List.length (divQ (limbs (Int.natAbs a)) (limbs (Int.natAbs b))) ≤ n ∨ Int.natAbs (sg (!decide (a < (0 : Int)) == decide (b < (0 : Int))) (wv (divQ (limbs (Int.natAbs a)) (limbs (Int.natAbs b))))) < (2 : Nat) ^ n)) ∧ (sg (decide (a < (0 : Int))) (wv (divR (limbs (Int.natAbs a)) (limbs (Int.natAbs b)))) = a % b ∧ ((32 : Nat) * List.length (divR (limbs (Int.natAbs a)) (limbs (Int.natAbs b))) ≤ m ∨ Int.natAbs (sg (decide (a < (0 : Int))) (wv (divR (limbs (Int.natAbs a)) (limbs (Int.natAbs b))))) < (2 : Nat) ^ m)) ∧ (0 : Int) = (0 : Int) ∧ True) = evFn (env [c_rdivide, c_rmade, c_radd, c_rsub, c_rabs, c_rof] noAnn) Tryz.f114 [.big a n, .big b m] (MRes.sat (.br (decide (b = 0)) (.ret (.tup [.big 0 0, .big 0 0, .int .i64 4])) (.ret (.tup [.big (a / b) n, .big (a % b) m, .int .i64 0])))) := by kernel_rfl

theorem p_rdivmod : GoodF Tryz.f114 s_divmod := by
  intro ms p r h hp hf
  unfold s_divmod at h
  split at h
  · rename_i a n b m
    simp only [Option.some.injEq, Prod.mk.injEq] at h
    obtain ⟨rfl, rfl⟩ := h
    obtain ⟨hn, hm⟩ : n ≤ 900000 ∧ m ≤ 900000 := hp
    have ha : a.natAbs < 2 ^ n := hf.1
    have hb : b.natAbs < 2 ^ m := hf.2.1
    refine ⟨env [c_rdivide, c_rmade, c_radd, c_rsub, c_rabs, c_rof] noAnn, ?_⟩
    rw [← vc_rdivmod a b n m, len_zero_iff]
    have l1 := limbs_len_bits ha
    have l2 := limbs_len_bits hb
    by_cases hz : b = 0
    · subst hz
      rw [show decide ((0 : Int) = 0) = true from rfl, cond_true, cond_true]
      exact ⟨⟨rfl, .inl (Nat.le_refl _)⟩, ⟨rfl, .inl (Nat.le_refl _)⟩, (by and_intros <;> first | exact True.intro | rfl | omega)⟩
    · have hne : limbs b.natAbs ≠ [] := fun e => hz (by have := limbs_eq_nil.1 e; omega)
      have dq := div_wv (a := limbs a.natAbs) (b := limbs b.natAbs) (cn_limbs _) (by rw [wvl]; omega)
      rw [wvl, wvl, ← Int.natCast_ediv, ← Int.natCast_emod] at dq
      have q1 := divQ_len (limbs a.natAbs) (limbs b.natAbs)
      have q2 := divR_len (limbs a.natAbs) (limbs b.natAbs)
      rw [wvl, Int.toNat_natCast] at q1
      have hbl : bl a.natAbs ≤ n := bl_le_of ha
      simp only [show decide (b = 0) = false from decide_eq_false hz, cond_false, dq.1, dq.2, wvl, Int.toNat_natCast]
      obtain ⟨k1, k2⟩ := divmod_signs a b hz rfl rfl
      have hq : (a / b).natAbs < 2 ^ n := Nat.lt_of_le_of_lt (natAbs_ediv a b) ha
      have hr : (a % b).natAbs < 2 ^ m := Nat.lt_of_lt_of_le (natAbs_emod hz) (by omega)
      refine ⟨⟨True.intro, True.intro, hne, by omega, by omega⟩, ⟨divQ_wd _ _, by omega⟩, ⟨divR_wd (limbs_wd _) _, by omega⟩, ?_⟩
      simp only [Bool.cond_decide]
      split
      · rename_i hc
        obtain ⟨k3, k4⟩ := k1 hc
        refine ⟨by omega, ⟨by omega, by omega⟩, ?_⟩
        split
        · rename_i hneg
          have hs : sgn b = -1 := by unfold sgn; rw [if_neg hz, if_pos hneg]
          rw [hs] at k4
          have k4 : sg (!(decide (a < 0) == decide (b < 0))) ((a.natAbs / b.natAbs : Nat) : Int) + 1 = a / b := by omega
          rw [k3, k4]
          exact ⟨(by and_intros <;> first | exact True.intro | rfl | omega), ⟨by omega, by omega⟩, ⟨rfl, .inr hq⟩, ⟨rfl, .inr hr⟩, (by and_intros <;> first | exact True.intro | rfl | omega)⟩
        · rename_i hneg
          have hs : sgn b = 1 := by unfold sgn; rw [if_neg hz, if_neg hneg]
          rw [hs] at k4
          rw [k3, k4]
          exact ⟨(by and_intros <;> first | exact True.intro | rfl | omega), ⟨by omega, by omega⟩, ⟨rfl, .inr hq⟩, ⟨rfl, .inr hr⟩, (by and_intros <;> first | exact True.intro | rfl | omega)⟩
      · rename_i hc
        obtain ⟨k3, k4⟩ := k2 hc
        rw [k3, k4]
        exact ⟨⟨rfl, .inr hq⟩, ⟨rfl, .inr hr⟩, (by and_intros <;> first | exact True.intro | rfl | omega)⟩
  · simp at h
def c_rdivmod : Ctr Tryz.prog := ⟨114, s_divmod, fun args w => Tryz.call114 args w, fn_ok_facts mix Tryz.func114 s_divmod p_rdivmod⟩
def c_rdivmod1 : Ctr Tryz.prog := c_rdivmod.weaken s_divmod1 w_divmod1

theorem vc_rmod (a b : Int) (n m : Nat) : ((n ≤ (900000 : Nat) ∧ m ≤ (900000 : Nat) ∧ (b = (0 : Int) → False)) ∧ a % b = a % b ∧ (m ≤ m ∨ Int.natAbs (a % b) < (2 : Nat) ^ m)) = evFn (env [c_rdivmod1] noAnn) Tryz.f132 [.big a n, .big b m] (MRes.sat (.ret (.big (a % b) m))) := by kernel_rfl
theorem p_rmod : Good Tryz.f132 s_imod := by
  intro ms p r h hp
  unfold s_imod at h
  split at h
  · rename_i a n b m
    simp only [Option.some.injEq, Prod.mk.injEq] at h
    obtain ⟨rfl, rfl⟩ := h
    obtain ⟨hn, hm, hb⟩ : n ≤ 900000 ∧ m ≤ 900000 ∧ b ≠ 0 := hp
    refine ⟨env [c_rdivmod1] noAnn, ?_⟩
    rw [← vc_rmod a b n m]
    exact ⟨⟨hn, hm, hb⟩, rfl, .inl (Nat.le_refl _)⟩
  · simp at h
def c_rmod : Ctr Tryz.prog := ⟨132, s_imod, fun args w => Tryz.call132 args w, fn_ok mix Tryz.func132 s_imod p_rmod⟩

end Go.Proofs.YtkokpkhdkbeofaaGreat

/-
  Contracts of functions: the reference: common divisors; primes.
-/
namespace Go.Proofs.YtkokpkhdkbeofaaGreat
open Go Go.RowKit

def a_rgcd (a b : Int) (N : Nat) : Nat → MS → Option LoopAnn
  | 3, _ => some (.inv GcS (fun s => GcI a b N s ∧ 0 ≤ s.x ∧ 0 ≤ s.y) (fun s => ⟨20, [(2, .bp 0 0), (3, .bp 1 0), (4, .bp 2 0)], [⟨false, .one (.big s.x N)⟩, ⟨false, .one (.big s.y N)⟩, ⟨false, .one (.big 0 0)⟩], 0⟩) (fun s => s.y.natAbs))
  | _, _ => none
theorem vc_rgcd (a b : Int) (n m : Nat) : (n ≤ (1000000 : Nat) ∧ m ≤ (1000000 : Nat) ∧ (∃ i, (GcI a b (max n m) i ∧ (0 : Int) ≤ GcS.x i ∧ (0 : Int) ≤ GcS.y i) ∧ ((0 : Nat) = (0 : Nat) ∧ (0 : Nat) = (0 : Nat) ∧ (0 : Nat) = (0 : Nat) ∧ True) ∧ ((↑(Int.natAbs a) : Int) = GcS.x i ∧ (n ≤ max n m ∨ Int.natAbs (↑(Int.natAbs a) : Int) < (2 : Nat) ^ max n m)) ∧ ((↑(Int.natAbs b) : Int) = GcS.y i ∧ (m ≤ max n m ∨ Int.natAbs (↑(Int.natAbs b) : Int) < (2 : Nat) ^ max n m)) ∧ ((0 : Int) = (0 : Int) ∧ ((0 : Nat) ≤ (0 : Nat) ∨ Int.natAbs (0 : Int) < (2 : Nat) ^ (0 : Nat))) ∧ True) ∧ ∀ (i : GcS), GcI a b (max n m) i ∧ (0 : Int) ≤ GcS.x i ∧ (0 : Int) ≤ GcS.y i → bif decide ((↑(List.length (limbs (Int.natAbs (GcS.y i)))) : Int) > (0 : Int)) then (max n m ≤ (900000 : Nat) ∧ max n m ≤ (900000 : Nat) ∧ (GcS.y i = (0 : Int) → False)) ∧ ∃ j, (GcI a b (max n m) j ∧ (0 : Int) ≤ GcS.x j ∧ (0 : Int) ≤ GcS.y j) ∧ (((0 : Nat) = (0 : Nat) ∧ (0 : Nat) = (0 : Nat) ∧ (0 : Nat) = (0 : Nat) ∧ True) ∧ (GcS.y i = GcS.x j ∧ (max n m ≤ max n m ∨ Int.natAbs (GcS.y i) < (2 : Nat) ^ max n m)) ∧ (GcS.x i % GcS.y i = GcS.y j ∧ (max n m ≤ max n m ∨ Int.natAbs (GcS.x i % GcS.y i) < (2 : Nat) ^ max n m)) ∧ ((0 : Int) = (0 : Int) ∧ ((0 : Nat) ≤ (0 : Nat) ∨ Int.natAbs (0 : Int) < (2 : Nat) ^ (0 : Nat))) ∧ True) ∧ Int.natAbs (GcS.y j) < Int.natAbs (GcS.y i) else GcS.x i = (↑(Int.gcd a b) : Int) ∧ (max n m ≤ max n m ∨ Int.natAbs (GcS.x i) < (2 : Nat) ^ max n m)) = evFn (env [c_rmod, c_rabs] (a_rgcd a b (max n m))) Tryz.f107 [.big a n, .big b m] (MRes.sat (.ret (.big (Int.gcd a b) (max n m)))) := by kernel_rfl

/-- Whether a number is a prime. -/
def primeB (n : Nat) : Bool := decide (1 < n) && (List.range n).all fun d => decide (d < 2) || decide (n < d * d) || decide (n % d ≠ 0)
theorem primeB_iff {n : Nat} : primeB n = true ↔ 1 < n ∧ ∀ d, 2 ≤ d → d * d ≤ n → n % d ≠ 0 := by
  unfold primeB
  simp only [Bool.and_eq_true, decide_eq_true_eq, List.all_eq_true, List.mem_range, Bool.or_eq_true]
  constructor
  · rintro ⟨h1, h2⟩
    refine ⟨h1, fun d hd hdd => ?_⟩
    have h3 : d * 2 ≤ d * d := Nat.mul_le_mul_left _ hd
    rcases h2 d (by omega) with (h | h) | h
    · omega
    · omega
    · exact h
  · rintro ⟨h1, h2⟩
    refine ⟨h1, fun d _ => ?_⟩
    by_cases h3 : d < 2
    · exact .inl (.inl h3)
    · by_cases h4 : n < d * d
      · exact .inl (.inr h4)
      · exact .inr (h2 d (by omega) (by omega))
def s_isprime : FSpec
  | [.int .i64 z] => some (some (0 ≤ z ∧ z ≤ 1000000000), .ret (.bool (primeB z.toNat)))
  | _ => none
def a_isprime (n : Nat) : Nat → MS → Option LoopAnn
  | 2, _ => some (.inv Nat (fun d => 2 ≤ d ∧ (d - 1) * (d - 1) ≤ n + 1 ∧ ∀ e, 2 ≤ e → e < d → n % e ≠ 0) (fun d => ⟨17, [(0, .int .i64 n), (3, .int .i64 d)], [], 0⟩) (fun d => n + 2 - d))
  | _, _ => none

/-- The next prime. -/
def nextPf : Nat → Nat → Nat
  | 0, p => p
  | f + 1, p => cond (primeB p) p (nextPf f (p + 1))
def nextP (n : Nat) : Nat := nextPf (263 - n) n
def s_rprime : FSpec
  | [.int .u16 z] => some (some (0 ≤ z ∧ z ≤ 263), .ret (.int .i64 (nextP z.toNat)))
  | _ => none

theorem p_rgcd : GoodF Tryz.f107 s_igcd := by
  intro ms p r h hp hf
  unfold s_igcd at h
  split at h
  · rename_i a n b m
    simp only [Option.some.injEq, Prod.mk.injEq] at h
    obtain ⟨rfl, rfl⟩ := h
    obtain ⟨hn, hm⟩ : n ≤ 900000 ∧ m ≤ 900000 := hp
    have ha : a.natAbs < 2 ^ n := hf.1
    have hb : b.natAbs < 2 ^ m := hf.2.1
    have h1 : 2 ^ n ≤ 2 ^ max n m := Nat.pow_le_pow_right (by omega) (by omega)
    have h2 : 2 ^ m ≤ 2 ^ max n m := Nat.pow_le_pow_right (by omega) (by omega)
    have hM : max n m ≤ 900000 := by omega
    refine ⟨env [c_rmod, c_rabs] (a_rgcd a b (max n m)), ?_⟩
    rw [← vc_rgcd a b n m]
    have hg : Int.gcd (a.natAbs : Int) (b.natAbs : Int) = Int.gcd a b := by simp [Int.gcd]
    refine ⟨by omega, by omega, ⟨⟨a.natAbs, b.natAbs⟩, ⟨⟨hg, by show (a.natAbs : Int).natAbs < _; omega, by show (b.natAbs : Int).natAbs < _; omega⟩, by show (0 : Int) ≤ a.natAbs; omega, by show (0 : Int) ≤ b.natAbs; omega⟩, (by and_intros <;> first | exact True.intro | rfl | omega), ⟨rfl, .inl (by omega)⟩, ⟨rfl, .inl (by omega)⟩, ⟨rfl, .inl (Nat.le_refl _)⟩, True.intro⟩, ?_⟩
    rintro ⟨x, y⟩ ⟨⟨hg, hx, hy⟩, hx0, hy0⟩
    rw [len_pos_iff, Bool.cond_decide]
    split
    · rename_i hne
      have hne : y ≠ 0 := hne
      have hl := natAbs_emod (a := x) hne
      have hy : y.natAbs < 2 ^ max n m := hy
      exact ⟨⟨hM, hM, hne⟩, ⟨y, x % y⟩, ⟨⟨by rw [← hg]; exact gcd_step x y, hy, by show (x % y).natAbs < _; omega⟩, hy0, Int.emod_nonneg _ hne⟩, ⟨(by and_intros <;> first | exact True.intro | rfl | omega), ⟨rfl, .inl (Nat.le_refl _)⟩, ⟨rfl, .inl (Nat.le_refl _)⟩, ⟨rfl, .inl (Nat.le_refl _)⟩, True.intro⟩, hl⟩
    · rename_i hne
      have hz : y = 0 := by
        by_cases e : y = 0
        · exact e
        · exact absurd e hne
      subst hz
      have hg : Int.gcd x 0 = Int.gcd a b := hg
      have hx0 : 0 ≤ x := hx0
      rw [Int.gcd_zero_right] at hg
      exact ⟨by show x = _; omega, .inl (Nat.le_refl _)⟩
  · simp at h
def c_rgcd : Ctr Tryz.prog := ⟨107, s_igcd, fun args w => Tryz.call107 args w, fn_ok_facts mix Tryz.func107 s_igcd p_rgcd⟩



end Go.Proofs.YtkokpkhdkbeofaaGreat

/-
  Contracts of functions: numbers of 64 bits; package modular.
-/
namespace Go.Proofs.YtkokpkhdkbeofaaGreat
open Go Go.RowKit

theorem sgn_pos {b : Int} (h : 0 < b) : sgn b = 1 := by unfold sgn; rw [if_neg (by omega), if_neg (by omega)]
theorem gcd_mod (a b : Int) : Int.gcd (a % b) b = Int.gcd a b := by rw [Int.gcd_comm]; exact gcd_step a b

end Go.Proofs.YtkokpkhdkbeofaaGreat

/-
  Contracts of functions: the reference's Made.
-/
namespace Go.Proofs.YtkokpkhdkbeofaaGreat
open Go Go.RowKit

/-- A description of an integer. -/
abbrev rawM (b : Bool) (l : List Int) : MV := .st [.bool b, .ws l]
/-- The integer of a description. -/
def madeI (b : Bool) (l : List Int) (k : Nat) : Int := sg b (wv (l.take k))

def s_rMade : FSpec
  | [.st [.bool b, .ws l], .int .i64 k] => some (some (Wd l ∧ 0 ≤ k ∧ k ≤ 1000 ∧ l.length < 9223372036854775808), .ret (.big (madeI b l k.toNat) (32 * k.toNat)))
  | _ => none
theorem vc_rMade (b : Bool) (l : List Int) (k : Int) : (((0 : Int) ≤ minI (↑(List.length l) : Int) k ∧ minI (↑(List.length l) : Int) k ≤ (↑(List.length l) : Int)) ∧ News.len (News.ints IntKind.u32 (List.take (Int.toNat (minI (↑(List.length l) : Int) k)) l)) * (4 : Nat) ≤ (140737488355328 : Nat) ∧ ((∀ (x : Int), x ∈ List.take (Int.toNat (minI (↑(List.length l) : Int) k)) l → (0 : Int) ≤ x ∧ x < (4294967296 : Int)) ∧ List.length (List.take (Int.toNat (minI (↑(List.length l) : Int) k)) l) ≤ (1000000000 : Nat)) ∧ sg b (wv (List.take (Int.toNat (minI (↑(List.length l) : Int) k)) l)) = madeI b l (Int.toNat k) ∧ ((32 : Nat) * List.length (List.take (Int.toNat (minI (↑(List.length l) : Int) k)) l) ≤ (32 : Nat) * Int.toNat k ∨ Int.natAbs (sg b (wv (List.take (Int.toNat (minI (↑(List.length l) : Int) k)) l))) < (2 : Nat) ^ ((32 : Nat) * Int.toNat k))) = evFn (env [c_rmade] noAnn) Tryz.f39 [rawM b l, .int .i64 k] (MRes.sat (.ret (.big (madeI b l k.toNat) (32 * k.toNat)))) := by kernel_rfl

theorem p_rMade : Good Tryz.f39 s_rMade := by
  intro ms p r h hp
  unfold s_rMade at h
  split at h
  · rename_i b l k
    simp only [Option.some.injEq, Prod.mk.injEq] at h
    obtain ⟨rfl, rfl⟩ := h
    obtain ⟨hw, h0, h1, h2⟩ : Wd l ∧ 0 ≤ k ∧ k ≤ 1000 ∧ l.length < 9223372036854775808 := hp
    refine ⟨env [c_rmade] noAnn, ?_⟩
    rw [← vc_rMade b l k]
    have hm : minI (l.length : Int) k = (min l.length k.toNat : Nat) := by unfold minI; split <;> omega
    have ht : l.take (minI (l.length : Int) k).toNat = l.take k.toNat := by
      rw [hm, Int.toNat_natCast]
      rcases Nat.le_total l.length k.toNat with h | h
      · rw [Nat.min_eq_left h, List.take_of_length_le (Nat.le_refl _), List.take_of_length_le h]
      · rw [Nat.min_eq_right h]
    have hl : (l.take k.toNat).length ≤ k.toNat := by rw [List.length_take]; exact Nat.min_le_left ..
    rw [ht]
    refine ⟨by rw [hm]; omega, ?_, ⟨hw.take _, by omega⟩, rfl, .inl (by omega)⟩
    show (l.take k.toNat).length * 4 ≤ 140737488355328
    omega
  · simp at h
def c_rMade : Ctr Tryz.prog := ⟨39, s_rMade, fun args w => Tryz.call39 args w, fn_ok mix Tryz.func39 s_rMade p_rMade⟩

end Go.Proofs.YtkokpkhdkbeofaaGreat

/-
  Contracts of functions: the reference's Sign, Cmp, Div, Bezout, Inv.
-/
namespace Go.Proofs.YtkokpkhdkbeofaaGreat
open Go Go.RowKit

theorem vc_rsign (z : Int) (n : Nat) : (bif (↑(List.length (limbs (Int.natAbs z))) : Int) == (0 : Int) then (0 : Int) = sgn z else bif decide (z < (0 : Int)) then (-1 : Int) = sgn z else (1 : Int) = sgn z) = evFn (env [] noAnn) Tryz.f40 [.big z n] (MRes.sat (.ret (.int .i64 (sgn z)))) := by kernel_rfl
theorem p_rsign : Good Tryz.f40 s_sign := by
  intro ms p r h hp
  unfold s_sign at h
  split at h
  · rename_i z n
    simp only [Option.some.injEq, Prod.mk.injEq] at h
    obtain ⟨rfl, rfl⟩ := h
    refine ⟨env [] noAnn, ?_⟩
    rw [← vc_rsign z n]
    by_cases hz : z = 0
    · subst hz
      have : ((((limbs (0 : Int).natAbs).length : Nat) : Int) == 0) = true := by rw [show (0 : Int).natAbs = 0 from rfl, limbs_zero]; rfl
      rw [this]; rfl
    · have hne : (limbs z.natAbs).length ≠ 0 := fun e => by
        have := limbs_eq_nil.1 (List.eq_nil_of_length_eq_zero e)
        omega
      have : ((((limbs z.natAbs).length : Nat) : Int) == 0) = false := by simpa using hne
      rw [this, cond_false, Bool.cond_decide]
      unfold sgn
      rw [if_neg hz]
      split <;> rfl
  · simp at h
def c_rsign : Ctr Tryz.prog := ⟨40, s_sign, fun args w => Tryz.call40 args w, fn_ok mix Tryz.func40 s_sign p_rsign⟩

theorem vc_rcmp (a b : Int) (n m : Nat) : (bif !decide (a < (0 : Int)) == decide (b < (0 : Int)) then bif decide (a < (0 : Int)) then (-1 : Int) = icmp a b else (1 : Int) = icmp a b else bif decide (a < (0 : Int)) then (limbs (Int.toNat (wv (limbs (Int.natAbs b)))) = limbs (Int.natAbs b) ∧ limbs (Int.toNat (wv (limbs (Int.natAbs a)))) = limbs (Int.natAbs a) ∧ List.length (limbs (Int.natAbs b)) ≤ (1099511627776 : Nat) ∧ List.length (limbs (Int.natAbs a)) ≤ (1099511627776 : Nat)) ∧ icmp (wv (limbs (Int.natAbs b))) (wv (limbs (Int.natAbs a))) = icmp a b else (limbs (Int.toNat (wv (limbs (Int.natAbs a)))) = limbs (Int.natAbs a) ∧ limbs (Int.toNat (wv (limbs (Int.natAbs b)))) = limbs (Int.natAbs b) ∧ List.length (limbs (Int.natAbs a)) ≤ (1099511627776 : Nat) ∧ List.length (limbs (Int.natAbs b)) ≤ (1099511627776 : Nat)) ∧ icmp (wv (limbs (Int.natAbs a))) (wv (limbs (Int.natAbs b))) = icmp a b) = evFn (env [c_rsize] noAnn) Tryz.f76 [.big a n, .big b m] (MRes.sat (.ret (.int .i64 (icmp a b)))) := by kernel_rfl
theorem p_rcmp : GoodF Tryz.f76 s_icmp := by
  intro ms p r h hp hf
  unfold s_icmp at h
  split at h
  · rename_i a n b m
    simp only [Option.some.injEq, Prod.mk.injEq] at h
    obtain ⟨rfl, rfl⟩ := h
    obtain ⟨hn, hm⟩ : n ≤ 1000000 ∧ m ≤ 1000000 := hp
    have ha : a.natAbs < 2 ^ n := hf.1
    have hb : b.natAbs < 2 ^ m := hf.2.1
    have l1 := lim_len ha (by omega)
    have l2 := lim_len hb (by omega)
    refine ⟨env [c_rsize] noAnn, ?_⟩
    rw [← vc_rcmp a b n m, wvl, wvl, Int.toNat_natCast, Int.toNat_natCast]
    have e1 : ∀ {x y : Int}, (0 ≤ x → 0 ≤ y → icmp (x.natAbs : Int) (y.natAbs : Int) = icmp x y) ∧ (x < 0 → y < 0 → icmp (y.natAbs : Int) (x.natAbs : Int) = icmp x y) := by
      intro x y
      constructor
      · intro h1 h2; unfold icmp; (repeat' split) <;> omega
      · intro h1 h2; unfold icmp; (repeat' split) <;> omega
    rcases Int.lt_or_le a 0 with q1 | q1 <;> rcases Int.lt_or_le b 0 with q2 | q2
    · rw [decide_eq_true q1, decide_eq_true q2]
      exact ⟨⟨rfl, rfl, by omega, by omega⟩, e1.2 q1 q2⟩
    · rw [decide_eq_true q1, decide_eq_false (show ¬ b < 0 by omega)]
      show (-1 : Int) = icmp a b
      unfold icmp; (repeat' split) <;> omega
    · rw [decide_eq_false (show ¬ a < 0 by omega), decide_eq_true q2]
      show (1 : Int) = icmp a b
      unfold icmp; (repeat' split) <;> omega
    · rw [decide_eq_false (show ¬ a < 0 by omega), decide_eq_false (show ¬ b < 0 by omega)]
      exact ⟨⟨rfl, rfl, by omega, by omega⟩, e1.1 q1 q2⟩
  · simp at h
def c_rcmp : Ctr Tryz.prog := ⟨76, s_icmp, fun args w => Tryz.call76 args w, fn_ok_facts mix Tryz.func76 s_icmp p_rcmp⟩

def s_rdiv : FSpec
  | [.big a n, .big b m] => some (some (n ≤ 900000 ∧ m ≤ 900000 ∧ b ≠ 0), .ret (.big (a / b) n))
  | _ => none
theorem vc_rdiv (a b : Int) (n m : Nat) : ((n ≤ (900000 : Nat) ∧ m ≤ (900000 : Nat) ∧ (b = (0 : Int) → False)) ∧ a / b = a / b ∧ (n ≤ n ∨ Int.natAbs (a / b) < (2 : Nat) ^ n)) = evFn (env [c_rdivmod1] noAnn) Tryz.f83 [.big a n, .big b m] (MRes.sat (.ret (.big (a / b) n))) := by kernel_rfl
theorem p_rdiv : Good Tryz.f83 s_rdiv := by
  intro ms p r h hp
  unfold s_rdiv at h
  split at h
  · rename_i a n b m
    simp only [Option.some.injEq, Prod.mk.injEq] at h
    obtain ⟨rfl, rfl⟩ := h
    obtain ⟨hn, hm, hb⟩ : n ≤ 900000 ∧ m ≤ 900000 ∧ b ≠ 0 := hp
    refine ⟨env [c_rdivmod1] noAnn, ?_⟩
    rw [← vc_rdiv a b n m]
    exact ⟨⟨hn, hm, hb⟩, rfl, .inl (Nat.le_refl _)⟩
  · simp at h
def c_rdiv : Ctr Tryz.prog := ⟨83, s_rdiv, fun args w => Tryz.call83 args w, fn_ok mix Tryz.func83 s_rdiv p_rdiv⟩
end Go.Proofs.YtkokpkhdkbeofaaGreat

/-
  Plain facts: square roots rounded down, fractions in lowest terms.
-/
namespace Go.Proofs.YtkokpkhdkbeofaaGreat
open Go Go.RowKit

/-! ### The square root of a natural number, rounded down -/
def sqStep (r n : Nat) : Nat := cond (Nat.ble ((r + 1) * (r + 1)) n) (r + 1) r
def sqF : Nat → Nat → Nat
  | 0, _ => 0
  | f + 1, n => sqStep (2 * sqF f (n / 4)) n
def nsq (n : Nat) : Nat := sqF (bl n) n
theorem sqStep_spec {r n : Nat} (h1 : r * r ≤ n) (h2 : n < (r + 2) * (r + 2)) : sqStep r n * sqStep r n ≤ n ∧ n < (sqStep r n + 1) * (sqStep r n + 1) := by
  unfold sqStep
  cases h : Nat.ble ((r + 1) * (r + 1)) n with
  | true => exact ⟨Nat.le_of_ble_eq_true h, h2⟩
  | false =>
    refine ⟨h1, ?_⟩
    rcases Nat.lt_or_ge n ((r + 1) * (r + 1)) with q | q
    · exact q
    · rw [Nat.ble_eq_true_of_le q] at h; simp at h
theorem sqF_spec : ∀ f n : Nat, n < 4 ^ f → sqF f n * sqF f n ≤ n ∧ n < (sqF f n + 1) * (sqF f n + 1)
  | 0, n, h => by
    rw [Nat.pow_zero] at h
    obtain rfl : n = 0 := by omega
    exact ⟨Nat.le_refl _, by show 0 < 1; omega⟩
  | f + 1, n, h => by
    rw [Nat.pow_succ] at h
    obtain ⟨h1, h2⟩ := sqF_spec f (n / 4) (by omega)
    show sqStep (2 * sqF f (n / 4)) n * sqStep (2 * sqF f (n / 4)) n ≤ n ∧ n < (sqStep (2 * sqF f (n / 4)) n + 1) * (sqStep (2 * sqF f (n / 4)) n + 1)
    generalize sqF f (n / 4) = r at *
    refine sqStep_spec ?_ ?_
    · have : 2 * r * (2 * r) = 4 * (r * r) := by grind
      omega
    · have : (2 * r + 2) * (2 * r + 2) = 4 * ((r + 1) * (r + 1)) := by grind
      omega
theorem nsq_spec (n : Nat) : nsq n * nsq n ≤ n ∧ n < (nsq n + 1) * (nsq n + 1) := by
  refine sqF_spec _ _ (Nat.lt_of_lt_of_le (bl_lt n) ?_)
  exact Nat.pow_le_pow_left (by omega) _
theorem nsq_uniq {n s : Nat} (h1 : s * s ≤ n) (h2 : n < (s + 1) * (s + 1)) : nsq n = s := by
  obtain ⟨k1, k2⟩ := nsq_spec n
  generalize nsq n = r at *
  rcases Nat.lt_trichotomy r s with h | h | h
  · have := Nat.mul_le_mul (show r + 1 ≤ s by omega) (show r + 1 ≤ s by omega); omega
  · exact h
  · have := Nat.mul_le_mul (show s + 1 ≤ r by omega) (show s + 1 ≤ r by omega); omega
/-- Newton's step from above. -/
theorem newton_ge {a s : Nat} (h0 : 0 < s) : a < ((s + a / s) / 2 + 1) * ((s + a / s) / 2 + 1) := by
  have h1 : a < s * (a / s + 1) := by
    have := Nat.div_add_mod a s
    have := Nat.mod_lt a h0
    rw [Nat.mul_add]; omega
  generalize a / s = q at *
  have h2 : s + q + 1 ≤ 2 * ((s + q) / 2 + 1) := by omega
  generalize (s + q) / 2 + 1 = u at *
  have h3 := Nat.mul_le_mul h2 h2
  have h4 : 4 * (s * (q + 1)) ≤ (s + q + 1) * (s + q + 1) := by
    rcases Nat.le_total s (q + 1) with h | h
    · obtain ⟨d, hd⟩ := Nat.le.dest h
      rw [show s + q + 1 = s + (s + d) by omega, ← hd]
      have : (s + (s + d)) * (s + (s + d)) = 4 * (s * (s + d)) + d * d := by grind
      omega
    · obtain ⟨d, hd⟩ := Nat.le.dest h
      rw [show s + q + 1 = (q + 1 + d) + (q + 1) by omega, ← hd]
      have : (q + 1 + d + (q + 1)) * (q + 1 + d + (q + 1)) = 4 * ((q + 1 + d) * (q + 1)) + d * d := by grind
      omega
  have h5 : 2 * u * (2 * u) = 4 * (u * u) := by grind
  omega
theorem newton_end {a s : Nat} (h : s ≤ (s + a / s) / 2) : s * s ≤ a := by
  have h1 : s ≤ a / s := by omega
  have := Nat.div_add_mod a s
  have := Nat.mul_le_mul_left s h1
  omega

/-! ### Fractions -/
/-- In lowest terms. -/
def redN (n d : Int) : Int := n / Int.gcd n d
def redD (n d : Int) : Int := d / Int.gcd n d
def red (n d : Int) : Int × Int := (redN n d, redD n d)
def fadd (a b : Int × Int) : Int × Int := red (a.1 * b.2 + b.1 * a.2) (a.2 * b.2)
def fneg (a : Int × Int) : Int × Int := (-a.1, a.2)
def fsub (a b : Int × Int) : Int × Int := fadd a (fneg b)
def fmul (a b : Int × Int) : Int × Int := red (a.1 * b.1) (a.2 * b.2)
theorem gcd_pos {n d : Int} (h : 0 < d) : 0 < Int.gcd n d := Int.gcd_pos_of_ne_zero_right _ (by omega)
theorem red_pos {n d : Int} (h : 0 < d) : 0 < (red n d).2 := by
  have hg := gcd_pos (n := n) h
  obtain ⟨c, hc⟩ := Int.gcd_dvd_right n d
  show 0 < d / (Int.gcd n d : Int)
  generalize (Int.gcd n d : Nat) = g at *
  rw [hc, Int.mul_ediv_cancel_left _ (by omega)]
  rcases Int.lt_trichotomy c 0 with h1 | h1 | h1
  · have := Int.mul_neg_of_pos_of_neg (show (0 : Int) < g by omega) h1; omega
  · subst h1; omega
  · exact h1
theorem red_mul {n d : Int} : n = Int.gcd n d * (red n d).1 ∧ d = Int.gcd n d * (red n d).2 :=
  ⟨(Int.mul_ediv_cancel' (Int.gcd_dvd_left n d)).symm, (Int.mul_ediv_cancel' (Int.gcd_dvd_right n d)).symm⟩
/-- A fraction in lowest terms is the fraction: n d' = n' d. -/
theorem red_eq (n d : Int) : (red n d).1 * d = n * (red n d).2 := by
  obtain ⟨h1, h2⟩ := red_mul (n := n) (d := d)
  generalize (red n d).1 = x at *
  generalize (red n d).2 = y at *
  generalize (Int.gcd n d : Int) = g at *
  rw [h1, h2]; grind
theorem red_cop {n d : Int} (h : 0 < d) : Int.gcd (red n d).1 (red n d).2 = 1 := Int.gcd_ediv_gcd_ediv_gcd (gcd_pos h)
theorem ediv_small {x g : Int} {k : Nat} (h : x.natAbs < 2 ^ k) : (x / g).natAbs < 2 ^ k ∨ ¬ 0 < g := by
  rcases Int.lt_or_le 0 g with h0 | h0
  · refine .inl ?_
    have h1 := Int.natAbs_ediv_le_natAbs x g
    omega
  · exact .inr (by omega)
theorem dvd_cop {a b d : Int} (hg : Int.gcd a b = 1) (h : b ∣ a * d) : b ∣ d := by
  have h := Int.natAbs_dvd_natAbs.2 h
  rw [Int.natAbs_mul] at h
  exact Int.natAbs_dvd_natAbs.1 (Nat.Coprime.dvd_of_dvd_mul_left (Nat.Coprime.symm hg) h)
/-- Two equal fractions in lowest terms are the same. -/
theorem red_uniq {a b c d : Int} (hb : 0 < b) (hd : 0 < d) (h1 : Int.gcd a b = 1) (h2 : Int.gcd c d = 1) (h : a * d = c * b) : a = c ∧ b = d := by
  have e1 : b ∣ d := by
    exact dvd_cop h1 ⟨c, by rw [h, Int.mul_comm]⟩
  have e2 : d ∣ b := by
    exact dvd_cop h2 ⟨a, by rw [← h, Int.mul_comm]⟩
  have e3 : b = d := Int.dvd_antisymm (by omega) (by omega) e1 e2
  subst e3
  exact ⟨Int.eq_of_mul_eq_mul_right (by omega) h, rfl⟩

end Go.Proofs.YtkokpkhdkbeofaaGreat

/-
  Plain definitions: bounds of logarithms (package bound), by fuel.
-/
namespace Go.Proofs.YtkokpkhdkbeofaaGreat
open Go Go.RowKit

/-- Rounded up. -/
def ce (a b : Int) : Int := -(-a / b)
def sAdd (s t : Int × Int) : Int × Int := (s.1 + t.1, s.2 + t.2)
def sNeg (s : Int × Int) : Int × Int := (-s.2, -s.1)
def sTim (s : Int × Int) (n : Int) : Int × Int := if n < 0 then (-s.2 * -n, -s.1 * -n) else (s.1 * n, s.2 * n)
def sOver (s : Int × Int) (d : Int) : Int × Int := (s.1 / d, ce s.2 d)
def sProd (s t : Int × Int) (u : Int) : Int × Int := sOver (s.1 * t.1, s.2 * t.2) u
/-- The series: k odd, the power of z, the sum up to now. -/
def tanF (sq : Int × Int) (u : Int) : Nat → Int → Int × Int → Int × Int → Option (Int × Int)
  | 0, _, _, _ => none
  | f + 1, k, pw, sm => if pw.2 ≤ 1 then some (sAdd sm (sOver pw k)) else tanF sq u f (k + 2) (sProd pw sq u) (sAdd sm (sOver pw k))
def tanG (n d p : Int) : Option (Int × Int) :=
  let u : Int := 2 ^ p.toNat
  let pw := sOver (n * u, n * u) d
  (tanF (sProd pw pw u) u 1000 1 pw (0, 0)).map fun s => (s.1 * 2, (s.2 + 1) * 2)
/-- The numerator and the denominator, scaled to a quotient from 1 to 2, and the power of 2. -/
def natE (N D : Int) : Int := (bl N.natAbs : Int) - bl D.natAbs
def natN (N D : Int) : Int := if 0 ≤ natE N D then N else N * 2 ^ (-natE N D).toNat
def natD (N D : Int) : Int := if 0 ≤ natE N D then D * 2 ^ (natE N D).toNat else D
def natN' (N D : Int) : Int := if natN N D < natD N D then natN N D + natN N D else natN N D
def natE' (N D : Int) : Int := if natN N D < natD N D then natE N D - 1 else natE N D
def natG (N D p : Int) : Option (Int × Int) :=
  match tanG 1 3 p, tanG (natN' N D - natD N D) (natN' N D + natD N D) p with
  | some b, some t => some (sAdd t (sTim b (natE' N D)))
  | _, _ => none
/-- The cell in which a number lies, by bounds that get narrower. -/
def decF (g : Int → Option (Int × Int)) (k : Int) : Nat → Int → Option Int
  | 0, _ => none
  | f + 1, p => match g p with
    | some s => if s.1 / 2 ^ (p - k).toNat = s.2 / 2 ^ (p - k).toNat then some (s.1 / 2 ^ (p - k).toNat) else decF g k f (p * 2)
    | none => none
def logG (N D k : Int) : Option Int := decF (fun p => natG N D p) k 4 (k + 24)

/-- The sum 1 + 1/2 + .. + 1/m, as a fraction (not in lowest terms). -/
def harF : Nat → Int × Int
  | 0 => (0, 1)
  | m + 1 => ((harF m).1 * (m + 1 : Nat) + (harF m).2, (harF m).2 * (m + 1 : Nat))
def small1 (m k : Nat) : Bool := match logG (m + 1) m k with
  | some a => decide (a * m < 2 ^ k) && decide ((a + 1) * (2 * m + 1) > 2 * 2 ^ k) && decide (a.natAbs < 2 ^ 80)
  | none => false
def small2 (m k : Nat) (h : Int × Int) : Bool := match logG m 1 k with
  | some a => decide (a * h.2 < h.1 * 2 ^ k) && decide ((a + 1) * h.2 > (h.1 - h.2) * 2 ^ k) && decide (a.natAbs < 2 ^ 80)
  | none => false

end Go.Proofs.YtkokpkhdkbeofaaGreat

/-
  Contracts of functions: package integer: power, Pow, Root, Sqrt.
-/
namespace Go.Proofs.YtkokpkhdkbeofaaGreat
open Go Go.RowKit

/-! ### integer.power -/
def s_ipower : FSpec
  | [.big a n, .int .i64 k] => some (some (n ≤ 1000000 ∧ 0 ≤ k ∧ k ≤ 4096 ∧ bl a.natAbs * k.toNat ≤ 200000), .ret (.big (a ^ k.toNat) (bl a.natAbs * k.toNat + 1)))
  | _ => none
structure PwX where
  i : Nat
structure PwXI (K : Nat) (s : PwX) : Prop where
  i : s.i ≤ bl K
/-- How far a has been squared: not in the last round. -/
def pwE (K i : Nat) : Nat := if K / 2 ^ i = 0 then 2 ^ (i - 1) else 2 ^ i
def a_ipower (a : Int) (K : Nat) : Nat → MS → Option LoopAnn
  | 2, _ => some (.inv PwX (PwXI K) (fun s => ⟨23, [(1, .int .i64 (K / 2 ^ s.i : Nat)), (2, .bp 0 0), (4, .bp 1 0), (5, .bp 2 0)], [⟨false, .one (.big (a ^ pwE K s.i) (bl a.natAbs * pwE K s.i + 1))⟩, ⟨false, .one (.big 0 0)⟩, ⟨false, .one (.big (a ^ (K % 2 ^ s.i)) (bl a.natAbs * (K % 2 ^ s.i) + 1))⟩], 0⟩) (fun s => bl K - s.i))
  | _, _ => none
theorem vc_ipower (a : Int) (K n : Nat) : (((-9223372036854775808 : Int) ≤ (1 : Int) ∧ (1 : Int) ≤ (9223372036854775807 : Int)) ∧ (∃ i, PwXI K i ∧ ((↑K : Int) = (↑(K / (2 : Nat) ^ PwX.i i) : Int) ∧ (0 : Nat) = (0 : Nat) ∧ (0 : Nat) = (0 : Nat) ∧ (0 : Nat) = (0 : Nat) ∧ True) ∧ (a = a ^ pwE K (PwX.i i) ∧ (n ≤ bl (Int.natAbs a) * pwE K (PwX.i i) + (1 : Nat) ∨ Int.natAbs a < (2 : Nat) ^ (bl (Int.natAbs a) * pwE K (PwX.i i) + (1 : Nat)))) ∧ ((0 : Int) = (0 : Int) ∧ ((0 : Nat) ≤ (0 : Nat) ∨ Int.natAbs (0 : Int) < (2 : Nat) ^ (0 : Nat))) ∧ ((1 : Int) = a ^ (K % (2 : Nat) ^ PwX.i i) ∧ ((64 : Nat) ≤ bl (Int.natAbs a) * (K % (2 : Nat) ^ PwX.i i) + (1 : Nat) ∨ Int.natAbs (1 : Int) < (2 : Nat) ^ (bl (Int.natAbs a) * (K % (2 : Nat) ^ PwX.i i) + (1 : Nat)))) ∧ True) ∧ ∀ (i : PwX), PwXI K i → bif decide ((↑(K / (2 : Nat) ^ PwX.i i) : Int) > (0 : Int)) then ((2 : Int) = (0 : Int) → False) ∧ bif Int.tmod (↑(K / (2 : Nat) ^ PwX.i i) : Int) (2 : Int) == (1 : Int) then (bl (Int.natAbs a) * (K % (2 : Nat) ^ PwX.i i) + (1 : Nat) ≤ (1000000 : Nat) ∧ bl (Int.natAbs a) * pwE K (PwX.i i) + (1 : Nat) ≤ (1000000 : Nat)) ∧ bif decide ((↑(K / (2 : Nat) ^ PwX.i i) : Int) > (1 : Int)) then (bl (Int.natAbs a) * pwE K (PwX.i i) + (1 : Nat) ≤ (1000000 : Nat) ∧ bl (Int.natAbs a) * pwE K (PwX.i i) + (1 : Nat) ≤ (1000000 : Nat)) ∧ ((2 : Int) = (0 : Int) → False) ∧ ∃ j, PwXI K j ∧ ((IntKind.wrap IntKind.i64 (Int.tdiv (↑(K / (2 : Nat) ^ PwX.i i) : Int) (2 : Int)) = (↑(K / (2 : Nat) ^ PwX.i j) : Int) ∧ (0 : Nat) = (0 : Nat) ∧ (0 : Nat) = (0 : Nat) ∧ (0 : Nat) = (0 : Nat) ∧ True) ∧ (a ^ pwE K (PwX.i i) * a ^ pwE K (PwX.i i) = a ^ pwE K (PwX.i j) ∧ (bl (Int.natAbs a) * pwE K (PwX.i i) + (1 : Nat) + (bl (Int.natAbs a) * pwE K (PwX.i i) + (1 : Nat)) ≤ bl (Int.natAbs a) * pwE K (PwX.i j) + (1 : Nat) ∨ Int.natAbs (a ^ pwE K (PwX.i i) * a ^ pwE K (PwX.i i)) < (2 : Nat) ^ (bl (Int.natAbs a) * pwE K (PwX.i j) + (1 : Nat)))) ∧ ((0 : Int) = (0 : Int) ∧ ((0 : Nat) ≤ (0 : Nat) ∨ Int.natAbs (0 : Int) < (2 : Nat) ^ (0 : Nat))) ∧ (a ^ (K % (2 : Nat) ^ PwX.i i) * a ^ pwE K (PwX.i i) = a ^ (K % (2 : Nat) ^ PwX.i j) ∧ (bl (Int.natAbs a) * (K % (2 : Nat) ^ PwX.i i) + (1 : Nat) + (bl (Int.natAbs a) * pwE K (PwX.i i) + (1 : Nat)) ≤ bl (Int.natAbs a) * (K % (2 : Nat) ^ PwX.i j) + (1 : Nat) ∨ Int.natAbs (a ^ (K % (2 : Nat) ^ PwX.i i) * a ^ pwE K (PwX.i i)) < (2 : Nat) ^ (bl (Int.natAbs a) * (K % (2 : Nat) ^ PwX.i j) + (1 : Nat)))) ∧ True) ∧ bl K - PwX.i j < bl K - PwX.i i else ((2 : Int) = (0 : Int) → False) ∧ ∃ j, PwXI K j ∧ ((IntKind.wrap IntKind.i64 (Int.tdiv (↑(K / (2 : Nat) ^ PwX.i i) : Int) (2 : Int)) = (↑(K / (2 : Nat) ^ PwX.i j) : Int) ∧ (0 : Nat) = (0 : Nat) ∧ (0 : Nat) = (0 : Nat) ∧ (0 : Nat) = (0 : Nat) ∧ True) ∧ (a ^ pwE K (PwX.i i) = a ^ pwE K (PwX.i j) ∧ (bl (Int.natAbs a) * pwE K (PwX.i i) + (1 : Nat) ≤ bl (Int.natAbs a) * pwE K (PwX.i j) + (1 : Nat) ∨ Int.natAbs (a ^ pwE K (PwX.i i)) < (2 : Nat) ^ (bl (Int.natAbs a) * pwE K (PwX.i j) + (1 : Nat)))) ∧ ((0 : Int) = (0 : Int) ∧ ((0 : Nat) ≤ (0 : Nat) ∨ Int.natAbs (0 : Int) < (2 : Nat) ^ (0 : Nat))) ∧ (a ^ (K % (2 : Nat) ^ PwX.i i) * a ^ pwE K (PwX.i i) = a ^ (K % (2 : Nat) ^ PwX.i j) ∧ (bl (Int.natAbs a) * (K % (2 : Nat) ^ PwX.i i) + (1 : Nat) + (bl (Int.natAbs a) * pwE K (PwX.i i) + (1 : Nat)) ≤ bl (Int.natAbs a) * (K % (2 : Nat) ^ PwX.i j) + (1 : Nat) ∨ Int.natAbs (a ^ (K % (2 : Nat) ^ PwX.i i) * a ^ pwE K (PwX.i i)) < (2 : Nat) ^ (bl (Int.natAbs a) * (K % (2 : Nat) ^ PwX.i j) + (1 : Nat)))) ∧ True) ∧ bl K - PwX.i j < bl K - PwX.i i else bif decide ((↑(K / (2 : Nat) ^ PwX.i i) : Int) > (1 : Int)) then (bl (Int.natAbs a) * pwE K (PwX.i i) + (1 : Nat) ≤ (1000000 : Nat) ∧ bl (Int.natAbs a) * pwE K (PwX.i i) + (1 : Nat) ≤ (1000000 : Nat)) ∧ ((2 : Int) = (0 : Int) → False) ∧ ∃ j, PwXI K j ∧ ((IntKind.wrap IntKind.i64 (Int.tdiv (↑(K / (2 : Nat) ^ PwX.i i) : Int) (2 : Int)) = (↑(K / (2 : Nat) ^ PwX.i j) : Int) ∧ (0 : Nat) = (0 : Nat) ∧ (0 : Nat) = (0 : Nat) ∧ (0 : Nat) = (0 : Nat) ∧ True) ∧ (a ^ pwE K (PwX.i i) * a ^ pwE K (PwX.i i) = a ^ pwE K (PwX.i j) ∧ (bl (Int.natAbs a) * pwE K (PwX.i i) + (1 : Nat) + (bl (Int.natAbs a) * pwE K (PwX.i i) + (1 : Nat)) ≤ bl (Int.natAbs a) * pwE K (PwX.i j) + (1 : Nat) ∨ Int.natAbs (a ^ pwE K (PwX.i i) * a ^ pwE K (PwX.i i)) < (2 : Nat) ^ (bl (Int.natAbs a) * pwE K (PwX.i j) + (1 : Nat)))) ∧ ((0 : Int) = (0 : Int) ∧ ((0 : Nat) ≤ (0 : Nat) ∨ Int.natAbs (0 : Int) < (2 : Nat) ^ (0 : Nat))) ∧ (a ^ (K % (2 : Nat) ^ PwX.i i) = a ^ (K % (2 : Nat) ^ PwX.i j) ∧ (bl (Int.natAbs a) * (K % (2 : Nat) ^ PwX.i i) + (1 : Nat) ≤ bl (Int.natAbs a) * (K % (2 : Nat) ^ PwX.i j) + (1 : Nat) ∨ Int.natAbs (a ^ (K % (2 : Nat) ^ PwX.i i)) < (2 : Nat) ^ (bl (Int.natAbs a) * (K % (2 : Nat) ^ PwX.i j) + (1 : Nat)))) ∧ True) ∧ bl K - PwX.i j < bl K - PwX.i i else ((2 : Int) = (0 : Int) → False) ∧ ∃ j, PwXI K j ∧ ((IntKind.wrap IntKind.i64 (Int.tdiv (↑(K / (2 : Nat) ^ PwX.i i) : Int) (2 : Int)) = (↑(K / (2 : Nat) ^ PwX.i j) : Int) ∧ (0 : Nat) = (0 : Nat) ∧ (0 : Nat) = (0 : Nat) ∧ (0 : Nat) = (0 : Nat) ∧ True) ∧ (a ^ pwE K (PwX.i i) = a ^ pwE K (PwX.i j) ∧ (bl (Int.natAbs a) * pwE K (PwX.i i) + (1 : Nat) ≤ bl (Int.natAbs a) * pwE K (PwX.i j) + (1 : Nat) ∨ Int.natAbs (a ^ pwE K (PwX.i i)) < (2 : Nat) ^ (bl (Int.natAbs a) * pwE K (PwX.i j) + (1 : Nat)))) ∧ ((0 : Int) = (0 : Int) ∧ ((0 : Nat) ≤ (0 : Nat) ∨ Int.natAbs (0 : Int) < (2 : Nat) ^ (0 : Nat))) ∧ (a ^ (K % (2 : Nat) ^ PwX.i i) = a ^ (K % (2 : Nat) ^ PwX.i j) ∧ (bl (Int.natAbs a) * (K % (2 : Nat) ^ PwX.i i) + (1 : Nat) ≤ bl (Int.natAbs a) * (K % (2 : Nat) ^ PwX.i j) + (1 : Nat) ∨ Int.natAbs (a ^ (K % (2 : Nat) ^ PwX.i i)) < (2 : Nat) ^ (bl (Int.natAbs a) * (K % (2 : Nat) ^ PwX.i j) + (1 : Nat)))) ∧ True) ∧ bl K - PwX.i j < bl K - PwX.i i else a ^ (K % (2 : Nat) ^ PwX.i i) = a ^ K ∧ (bl (Int.natAbs a) * (K % (2 : Nat) ^ PwX.i i) + (1 : Nat) ≤ bl (Int.natAbs a) * K + (1 : Nat) ∨ Int.natAbs (a ^ (K % (2 : Nat) ^ PwX.i i)) < (2 : Nat) ^ (bl (Int.natAbs a) * K + (1 : Nat)))) = evFn (env [c_iof, c_mul] (a_ipower a K)) Tryz.f128 [.big a n, .int .i64 K] (MRes.sat (.ret (.big (a ^ K) (bl a.natAbs * K + 1)))) := by kernel_rfl
theorem pow_bl (a : Int) (m : Nat) : (a ^ m).natAbs < 2 ^ (bl a.natAbs * m + 1) := by
  have h1 : a.natAbs ^ m ≤ (2 ^ bl a.natAbs) ^ m := Nat.pow_le_pow_left (Nat.le_of_lt (bl_lt _)) _
  rw [← Nat.pow_mul] at h1
  have h2 : 2 ^ (bl a.natAbs * m + 1) = 2 * 2 ^ (bl a.natAbs * m) := by rw [Nat.pow_succ, Nat.mul_comm]
  have h3 := Nat.two_pow_pos (bl a.natAbs * m)
  rw [Int.natAbs_pow]
  omega
theorem p_ipower : Good Tryz.f128 s_ipower := by
  intro ms p r h hp
  unfold s_ipower at h
  split at h
  · rename_i a n k
    simp only [Option.some.injEq, Prod.mk.injEq] at h
    obtain ⟨rfl, rfl⟩ := h
    obtain ⟨h1, h2, h3, h4⟩ : n ≤ 1000000 ∧ 0 ≤ k ∧ k ≤ 4096 ∧ bl a.natAbs * k.toNat ≤ 200000 := hp
    obtain ⟨K, rfl⟩ := Int.eq_ofNat_of_zero_le h2
    refine ⟨env [c_iof, c_mul] (a_ipower a K), ?_⟩
    rw [show ((K : Int)).toNat = K from rfl] at h4 ⊢
    rw [← vc_ipower a K n]
    refine ⟨by omega, ⟨⟨0⟩, ⟨Nat.zero_le _⟩, ?_, ?_, ⟨rfl, .inl (Nat.le_refl _)⟩, ⟨?_, .inr ?_⟩, True.intro⟩, ?_⟩
    · rw [show (2 : Nat) ^ PwX.i ⟨0⟩ = 1 from rfl, Nat.div_one]
      exact ⟨rfl, rfl, rfl, rfl, True.intro⟩
    · have e : pwE K (PwX.i ⟨0⟩) = 1 := by unfold pwE; split <;> rfl
      rw [e, Int.pow_one]
      have := pow_bl a 1
      rw [Int.pow_one] at this
      exact ⟨rfl, .inr this⟩
    · rw [show (2 : Nat) ^ PwX.i ⟨0⟩ = 1 from rfl, Nat.mod_one, Int.pow_zero]
    · rw [show (2 : Nat) ^ PwX.i ⟨0⟩ = 1 from rfl, Nat.mod_one, Nat.mul_zero]; decide
    rintro ⟨i⟩ hI
    have hi : i ≤ bl K := hI.i
    clear hI
    dsimp only
    by_cases hc : K / 2 ^ i = 0
    · rw [hc, decide_eq_false (by omega), cond_false]
      have hlt : K < 2 ^ i := by
        rcases Nat.lt_or_ge K (2 ^ i) with q | q
        · exact q
        · have := Nat.div_pos q (Nat.two_pow_pos i); omega
      rw [Nat.mod_eq_of_lt hlt]
      exact ⟨rfl, .inl (Nat.le_refl _)⟩
    · rw [decide_eq_true (show ((K / 2 ^ i : Nat) : Int) > 0 from Int.ofNat_lt.2 (Nat.pos_of_ne_zero hc)), cond_true]
      have hge : 2 ^ i ≤ K := by
        rcases Nat.lt_or_ge K (2 ^ i) with q | q
        · exact absurd (Nat.div_eq_of_lt q) hc
        · exact q
      have hlt : i < bl K := by
        rcases Nat.lt_or_ge i (bl K) with q | q
        · exact q
        · have h5 := bl_lt K
          have h6 : 2 ^ bl K ≤ 2 ^ i := Nat.pow_le_pow_right (by omega) q
          omega
      have hs : K % 2 ^ (i + 1) = K % 2 ^ i + 2 ^ i * (K / 2 ^ i % 2) := Nat.mod_pow_succ
      have hm := Nat.mod_lt K (Nat.two_pow_pos i)
      have hp2 : 2 ^ (i + 1) = 2 ^ i + 2 ^ i := by rw [Nat.pow_succ, Nat.mul_two]
      have hd : K / 2 ^ (i + 1) = K / 2 ^ i / 2 := by rw [Nat.pow_succ, Nat.div_div_eq_div_mul]
      have hE : pwE K i = 2 ^ i := by unfold pwE; rw [if_neg hc]
      have b1 : bl a.natAbs * 2 ^ i ≤ 200000 := Nat.le_trans (Nat.mul_le_mul_left _ hge) h4
      have b2 : bl a.natAbs * (K % 2 ^ i) ≤ 200000 := Nat.le_trans (Nat.mul_le_mul_left _ (Nat.mod_le _ _)) h4
      have e1 : Int.tdiv ((K / 2 ^ i : Nat) : Int) 2 = ((K / 2 ^ i / 2 : Nat) : Int) := rfl
      have hK3 : K / 2 ^ i / 2 ≤ 4096 := Nat.le_trans (Nat.div_le_self _ _) (Nat.le_trans (Nat.div_le_self _ _) (by omega))
      have e2 : IntKind.wrap IntKind.i64 ((K / 2 ^ i / 2 : Nat) : Int) = ((K / 2 ^ (i + 1) : Nat) : Int) := by
        rw [hd]
        clear hd hs hm
        generalize K / 2 ^ i / 2 = m at *
        exact i64w (by omega) (by omega)
      have e3 : Int.tmod ((K / 2 ^ i : Nat) : Int) 2 = ((K / 2 ^ i % 2 : Nat) : Int) := rfl
      have hout : (K / 2 ^ i % 2 = 0 → a ^ (K % 2 ^ i) = a ^ (K % 2 ^ (i + 1))) ∧ (K / 2 ^ i % 2 = 1 → a ^ (K % 2 ^ i) * a ^ 2 ^ i = a ^ (K % 2 ^ (i + 1))) := by
        refine ⟨fun h => ?_, fun h => ?_⟩
        · rw [hs, h, Nat.mul_zero, Nat.add_zero]
        · rw [hs, h, Nat.mul_one, Int.pow_add]
      have hsq : (1 < K / 2 ^ i → a ^ 2 ^ i * a ^ 2 ^ i = a ^ pwE K (i + 1)) ∧ (¬ 1 < K / 2 ^ i → a ^ 2 ^ i = a ^ pwE K (i + 1)) := by
        unfold pwE
        refine ⟨fun h => ?_, fun h => ?_⟩
        · rw [hd, if_neg (by clear hs hm hd hc e1 e2 e3 hK3 hout; generalize K / 2 ^ i = Q at *; omega), ← Int.pow_add, hp2]
        · rw [hd, if_pos (by clear hs hm hd hc e1 e2 e3 hK3 hout; generalize K / 2 ^ i = Q at *; omega), Nat.add_sub_cancel]
      have d1 : decide (((K / 2 ^ i : Nat) : Int) > 1) = decide (1 < K / 2 ^ i) := decide_eq_decide.2 (by generalize K / 2 ^ i = Q; omega)
      have szP := pow_bl a (pwE K (i + 1))
      have szO := pow_bl a (K % 2 ^ (i + 1))
      rw [e1, e2, e3, hE, d1]
      refine ⟨fun h => by omega, ?_⟩
      have fin : ∀ x y z w, x = a ^ pwE K (i + 1) → y = a ^ (K % 2 ^ (i + 1)) → ∃ j, PwXI K j ∧ ((((K / 2 ^ (i + 1) : Nat) : Int) = ((K / 2 ^ PwX.i j : Nat) : Int) ∧ (0 : Nat) = 0 ∧ (0 : Nat) = 0 ∧ (0 : Nat) = 0 ∧ True) ∧
          (x = a ^ pwE K (PwX.i j) ∧ (z ≤ bl a.natAbs * pwE K (PwX.i j) + 1 ∨ x.natAbs < 2 ^ (bl a.natAbs * pwE K (PwX.i j) + 1))) ∧ ((0 : Int) = 0 ∧ ((0 : Nat) ≤ 0 ∨ Int.natAbs 0 < 2 ^ 0)) ∧
          (y = a ^ (K % 2 ^ PwX.i j) ∧ (w ≤ bl a.natAbs * (K % 2 ^ PwX.i j) + 1 ∨ y.natAbs < 2 ^ (bl a.natAbs * (K % 2 ^ PwX.i j) + 1))) ∧ True) ∧ bl K - PwX.i j < bl K - i := by
        rintro x y z w rfl rfl
        exact ⟨⟨i + 1⟩, ⟨hlt⟩, ⟨⟨rfl, rfl, rfl, rfl, True.intro⟩, ⟨rfl, .inr szP⟩, ⟨rfl, .inl (Nat.le_refl _)⟩, ⟨rfl, .inr szO⟩, True.intro⟩, by show bl K - (i + 1) < bl K - i; omega⟩
      have z : (2 : Int) = 0 → False := fun h => by omega
      by_cases h : K / 2 ^ i % 2 = 1
      · have hm2 := hout.2 h
        rw [h, show (((1 : Nat) : Int) == 1) = true from rfl, cond_true]
        refine ⟨⟨by omega, by omega⟩, ?_⟩
        by_cases hq : 1 < K / 2 ^ i
        · rw [decide_eq_true hq, cond_true]
          exact ⟨⟨by omega, by omega⟩, z, fin _ _ _ _ (hsq.1 hq) hm2⟩
        · rw [decide_eq_false hq, cond_false]
          exact ⟨z, fin _ _ _ _ (hsq.2 hq) hm2⟩
      · have h0 : K / 2 ^ i % 2 = 0 := by generalize K / 2 ^ i = Q at *; omega
        have hm2 := hout.1 h0
        rw [h0, show (((0 : Nat) : Int) == 1) = false from rfl, cond_false]
        by_cases hq : 1 < K / 2 ^ i
        · rw [decide_eq_true hq, cond_true]
          exact ⟨⟨by omega, by omega⟩, z, fin _ _ _ _ (hsq.1 hq) hm2⟩
        · rw [decide_eq_false hq, cond_false]
          exact ⟨z, fin _ _ _ _ (hsq.2 hq) hm2⟩
  · simp at h
def c_ipower : Ctr Tryz.prog := ⟨128, s_ipower, fun args w => Tryz.call128 args w, fn_ok mix Tryz.func128 s_ipower p_ipower⟩

/-! ### Pow of 2 -/
theorem bl_two : bl (Int.natAbs 2) = 2 := by decide
theorem two_pow_nat (k : Nat) : ((2 : Int) ^ k).natAbs = 2 ^ k := by rw [Int.natAbs_pow]; rfl
theorem two_lt (k : Nat) : ((2 : Int) ^ k).natAbs < 2 ^ (k + 1) := by
  rw [two_pow_nat, Nat.pow_succ]
  have := Nat.two_pow_pos k
  omega
def s_ipow2 : FSpec
  | [.big a n, .int .i64 k] => some (some (n ≤ 1000000 ∧ a = 2 ∧ 0 ≤ k ∧ k ≤ 4000), .ret (.tup [.big (2 ^ k.toNat) (k.toNat + 1), .int .i64 0]))
  | _ => none
theorem vc_ipow2 (n K : Nat) : (bif decide ((↑K : Int) > (4096 : Int)) then ((0 : Int) = (2 : Int) ^ K ∧ ((0 : Nat) ≤ K + (1 : Nat) ∨ Int.natAbs (0 : Int) < (2 : Nat) ^ (K + (1 : Nat)))) ∧ (1 : Int) = (0 : Int) ∧ True else n ≤ (1000000 : Nat) ∧ bif decide (IntKind.wrap IntKind.i64 (IntKind.wrap IntKind.i64 ((↑(bl (Int.natAbs (2 : Int))) : Int) - (1 : Int)) * (↑K : Int)) ≥ (4096 : Int)) then ((0 : Int) = (2 : Int) ^ K ∧ ((0 : Nat) ≤ K + (1 : Nat) ∨ Int.natAbs (0 : Int) < (2 : Nat) ^ (K + (1 : Nat)))) ∧ (2 : Int) = (0 : Int) ∧ True else (n ≤ (1000000 : Nat) ∧ (0 : Int) ≤ (↑K : Int) ∧ (↑K : Int) ≤ (4096 : Int) ∧ bl (Int.natAbs (2 : Int)) * Int.toNat (↑K : Int) ≤ (200000 : Nat)) ∧ bl (Int.natAbs (2 : Int)) * Int.toNat (↑K : Int) + (1 : Nat) ≤ (1000000 : Nat) ∧ bif decide ((↑(bl (Int.natAbs ((2 : Int) ^ Int.toNat (↑K : Int)))) : Int) > (4096 : Int)) then ((0 : Int) = (2 : Int) ^ K ∧ ((0 : Nat) ≤ K + (1 : Nat) ∨ Int.natAbs (0 : Int) < (2 : Nat) ^ (K + (1 : Nat)))) ∧ (2 : Int) = (0 : Int) ∧ True else ((2 : Int) ^ Int.toNat (↑K : Int) = (2 : Int) ^ K ∧ (bl (Int.natAbs (2 : Int)) * Int.toNat (↑K : Int) + (1 : Nat) ≤ K + (1 : Nat) ∨ Int.natAbs ((2 : Int) ^ Int.toNat (↑K : Int)) < (2 : Nat) ^ (K + (1 : Nat)))) ∧ (0 : Int) = (0 : Int) ∧ True) = evFn (env [c_bits, c_ipower] noAnn) Tryz.f105 [.big 2 n, .int .i64 K] (MRes.sat (.ret (.tup [.big (2 ^ K) (K + 1), .int .i64 0]))) := by kernel_rfl
theorem p_ipow2 : Good Tryz.f105 s_ipow2 := by
  intro ms p r h hp
  unfold s_ipow2 at h
  split at h
  · rename_i a n k
    simp only [Option.some.injEq, Prod.mk.injEq] at h
    obtain ⟨rfl, rfl⟩ := h
    obtain ⟨h1, rfl, h2, h3⟩ : n ≤ 1000000 ∧ a = 2 ∧ 0 ≤ k ∧ k ≤ 4000 := hp
    obtain ⟨K, rfl⟩ := Int.eq_ofNat_of_zero_le h2
    refine ⟨env [c_bits, c_ipower] noAnn, ?_⟩
    rw [show ((K : Int)).toNat = K from rfl, ← vc_ipow2 n K, bl_two]
    have e1 : IntKind.wrap IntKind.i64 (((2 : Nat) : Int) - 1) = 1 := rfl
    have e2 : IntKind.wrap IntKind.i64 (1 * (K : Int)) = (K : Int) := by rw [Int.one_mul]; exact i64w (by omega) (by omega)
    have hb : bl ((2 : Int) ^ K).natAbs ≤ K + 1 := bl_le_of (two_lt K)
    rw [e1, e2, show ((K : Int)).toNat = K from rfl, decide_eq_false (by omega), decide_eq_false (by omega), decide_eq_false (by omega)]
    exact ⟨h1, ⟨h1, by omega, by omega, by omega⟩, by omega, ⟨rfl, .inr (two_lt K)⟩, rfl, True.intro⟩
  · simp at h
def c_ipow2 : Ctr Tryz.prog := ⟨105, s_ipow2, fun args w => Tryz.call105 args w, fn_ok mix Tryz.func105 s_ipow2 p_ipow2⟩

/-! ### Root, for square roots; Sqrt -/
def s_iroot2 : FSpec
  | [.big a n, .int .i64 k] => some (some (n ≤ 100000 ∧ k = 2), .br (decide (a < 0)) (.ret (.tup [.big 0 0, .int .i64 1])) (.ret (.tup [.big (nsq a.natAbs) n, .int .i64 0])))
  | _ => none
structure NwX where
  s : Nat
structure NwI (A n : Nat) (x : NwX) : Prop where
  s0 : 0 < x.s
  up : A < (x.s + 1) * (x.s + 1)
  lt : x.s < 2 ^ (n + 1)
def a_iroot2 (a : Int) (n : Nat) : Nat → MS → Option LoopAnn
  | 9, _ => some (.inv NwX (NwI a.natAbs n) (fun x => ⟨73, [(1, .int .i64 2), (2, .bp 0 0), (4, .bp 1 0), (7, .bp 3 0)], [⟨false, .one (.big a n)⟩, ⟨false, .one (.big 0 0)⟩, ⟨true, .arr .u32 [1]⟩, ⟨false, .one (.big x.s (n + 1))⟩], 0⟩) (fun x => x.s))
  | _, _ => none
theorem vc_iroot2 (a : Int) (n : Nat) : (n ≤ (1000000 : Nat) ∧ bif decide (a < (0 : Int)) then bif decide (a < (0 : Int)) then ((0 : Int) = (0 : Int) ∧ ((0 : Nat) ≤ (0 : Nat) ∨ Int.natAbs (0 : Int) < (2 : Nat) ^ (0 : Nat))) ∧ (1 : Int) = (1 : Int) ∧ True else ((0 : Int) = (↑(nsq (Int.natAbs a)) : Int) ∧ ((0 : Nat) ≤ n ∨ Int.natAbs (0 : Int) < (2 : Nat) ^ n)) ∧ (1 : Int) = (0 : Int) ∧ True else bif (↑(bl (Int.natAbs a)) : Int) == (0 : Int) then bif decide (a < (0 : Int)) then (a = (0 : Int) ∧ (n ≤ (0 : Nat) ∨ Int.natAbs a < (2 : Nat) ^ (0 : Nat))) ∧ (0 : Int) = (1 : Int) ∧ True else (a = (↑(nsq (Int.natAbs a)) : Int) ∧ (n ≤ n ∨ Int.natAbs a < (2 : Nat) ^ n)) ∧ (0 : Int) = (0 : Int) ∧ True else bif decide ((2 : Int) ≥ (↑(bl (Int.natAbs a)) : Int)) then ((-9223372036854775808 : Int) ≤ (1 : Int) ∧ (1 : Int) ≤ (9223372036854775807 : Int)) ∧ bif decide (a < (0 : Int)) then ((1 : Int) = (0 : Int) ∧ ((64 : Nat) ≤ (0 : Nat) ∨ Int.natAbs (1 : Int) < (2 : Nat) ^ (0 : Nat))) ∧ (0 : Int) = (1 : Int) ∧ True else ((1 : Int) = (↑(nsq (Int.natAbs a)) : Int) ∧ ((64 : Nat) ≤ n ∨ Int.natAbs (1 : Int) < (2 : Nat) ^ n)) ∧ (0 : Int) = (0 : Int) ∧ True else ((2 : Int) = (0 : Int) → False) ∧ ((0 : Nat) + (1 : Nat) ≤ List.length [(1 : Int)] ∧ (∀ (x : Int), x ∈ List.take (1 : Nat) (List.drop (0 : Nat) [(1 : Int)]) → (0 : Int) ≤ x ∧ x < (4294967296 : Int)) ∧ (0 : Int) ≤ IntKind.wrap IntKind.i64 (Int.tdiv (IntKind.wrap IntKind.i64 (IntKind.wrap IntKind.i64 ((↑(bl (Int.natAbs a)) : Int) + (2 : Int)) - (1 : Int))) (2 : Int)) ∧ IntKind.wrap IntKind.i64 (Int.tdiv (IntKind.wrap IntKind.i64 (IntKind.wrap IntKind.i64 ((↑(bl (Int.natAbs a)) : Int) + (2 : Int)) - (1 : Int))) (2 : Int)) ≤ (1000000000 : Int) ∧ List.length (List.take (1 : Nat) (List.drop (0 : Nat) [(1 : Int)])) ≤ (1000000000 : Nat)) ∧ ((∀ (x : Int), x ∈ limbs (Int.toNat (wv (List.take (1 : Nat) (List.drop (0 : Nat) [(1 : Int)])) * (2 : Int) ^ Int.toNat (IntKind.wrap IntKind.i64 (Int.tdiv (IntKind.wrap IntKind.i64 (IntKind.wrap IntKind.i64 ((↑(bl (Int.natAbs a)) : Int) + (2 : Int)) - (1 : Int))) (2 : Int))))) → (0 : Int) ≤ x ∧ x < (4294967296 : Int)) ∧ List.length (limbs (Int.toNat (wv (List.take (1 : Nat) (List.drop (0 : Nat) [(1 : Int)])) * (2 : Int) ^ Int.toNat (IntKind.wrap IntKind.i64 (Int.tdiv (IntKind.wrap IntKind.i64 (IntKind.wrap IntKind.i64 ((↑(bl (Int.natAbs a)) : Int) + (2 : Int)) - (1 : Int))) (2 : Int)))))) ≤ (1000000000 : Nat)) ∧ (∃ i, NwI (Int.natAbs a) n i ∧ ((2 : Int) = (2 : Int) ∧ (0 : Nat) = (0 : Nat) ∧ (0 : Nat) = (0 : Nat) ∧ (0 : Nat) = (0 : Nat) ∧ True) ∧ (a = a ∧ (n ≤ n ∨ Int.natAbs a < (2 : Nat) ^ n)) ∧ ((0 : Int) = (0 : Int) ∧ ((0 : Nat) ≤ (0 : Nat) ∨ Int.natAbs (0 : Int) < (2 : Nat) ^ (0 : Nat))) ∧ [(1 : Int)] = [(1 : Int)] ∧ (sg false (wv (limbs (Int.toNat (wv (List.take (1 : Nat) (List.drop (0 : Nat) [(1 : Int)])) * (2 : Int) ^ Int.toNat (IntKind.wrap IntKind.i64 (Int.tdiv (IntKind.wrap IntKind.i64 (IntKind.wrap IntKind.i64 ((↑(bl (Int.natAbs a)) : Int) + (2 : Int)) - (1 : Int))) (2 : Int))))))) = (↑(NwX.s i) : Int) ∧ ((32 : Nat) * List.length (limbs (Int.toNat (wv (List.take (1 : Nat) (List.drop (0 : Nat) [(1 : Int)])) * (2 : Int) ^ Int.toNat (IntKind.wrap IntKind.i64 (Int.tdiv (IntKind.wrap IntKind.i64 (IntKind.wrap IntKind.i64 ((↑(bl (Int.natAbs a)) : Int) + (2 : Int)) - (1 : Int))) (2 : Int)))))) ≤ n + (1 : Nat) ∨ Int.natAbs (sg false (wv (limbs (Int.toNat (wv (List.take (1 : Nat) (List.drop (0 : Nat) [(1 : Int)])) * (2 : Int) ^ Int.toNat (IntKind.wrap IntKind.i64 (Int.tdiv (IntKind.wrap IntKind.i64 (IntKind.wrap IntKind.i64 ((↑(bl (Int.natAbs a)) : Int) + (2 : Int)) - (1 : Int))) (2 : Int)))))))) < (2 : Nat) ^ (n + (1 : Nat)))) ∧ True) ∧ ∀ (i : NwX), NwI (Int.natAbs a) n i → (n + (1 : Nat) ≤ (1000000 : Nat) ∧ (0 : Int) ≤ IntKind.wrap IntKind.i64 ((2 : Int) - (1 : Int)) ∧ IntKind.wrap IntKind.i64 ((2 : Int) - (1 : Int)) ≤ (4096 : Int) ∧ bl (Int.natAbs (↑(NwX.s i) : Int)) * Int.toNat (IntKind.wrap IntKind.i64 ((2 : Int) - (1 : Int))) ≤ (200000 : Nat)) ∧ (n ≤ (900000 : Nat) ∧ bl (Int.natAbs (↑(NwX.s i) : Int)) * Int.toNat (IntKind.wrap IntKind.i64 ((2 : Int) - (1 : Int))) + (1 : Nat) ≤ (900000 : Nat) ∧ ((↑(NwX.s i) : Int) ^ Int.toNat (IntKind.wrap IntKind.i64 ((2 : Int) - (1 : Int))) = (0 : Int) → False)) ∧ ((-9223372036854775808 : Int) ≤ IntKind.wrap IntKind.i64 ((2 : Int) - (1 : Int)) ∧ IntKind.wrap IntKind.i64 ((2 : Int) - (1 : Int)) ≤ (9223372036854775807 : Int)) ∧ (n + (1 : Nat) ≤ (1000000 : Nat) ∧ (64 : Nat) ≤ (1000000 : Nat)) ∧ (n + (1 : Nat) + (64 : Nat) ≤ (1000000 : Nat) ∧ n ≤ (1000000 : Nat)) ∧ ((-9223372036854775808 : Int) ≤ (2 : Int) ∧ (2 : Int) ≤ (9223372036854775807 : Int)) ∧ (max (n + (1 : Nat) + (64 : Nat)) n + (1 : Nat) ≤ (900000 : Nat) ∧ (64 : Nat) ≤ (900000 : Nat) ∧ ((2 : Int) = (0 : Int) → False)) ∧ (max (n + (1 : Nat) + (64 : Nat)) n + (1 : Nat) ≤ (1000000 : Nat) ∧ n + (1 : Nat) ≤ (1000000 : Nat)) ∧ bif decide (icmp (((↑(NwX.s i) : Int) * IntKind.wrap IntKind.i64 ((2 : Int) - (1 : Int)) + a / (↑(NwX.s i) : Int) ^ Int.toNat (IntKind.wrap IntKind.i64 ((2 : Int) - (1 : Int)))) / (2 : Int)) (↑(NwX.s i) : Int) ≥ (0 : Int)) then bif decide (a < (0 : Int)) then ((↑(NwX.s i) : Int) = (0 : Int) ∧ (n + (1 : Nat) ≤ (0 : Nat) ∨ Int.natAbs (↑(NwX.s i) : Int) < (2 : Nat) ^ (0 : Nat))) ∧ (0 : Int) = (1 : Int) ∧ True else ((↑(NwX.s i) : Int) = (↑(nsq (Int.natAbs a)) : Int) ∧ (n + (1 : Nat) ≤ n ∨ Int.natAbs (↑(NwX.s i) : Int) < (2 : Nat) ^ n)) ∧ (0 : Int) = (0 : Int) ∧ True else ∃ j, NwI (Int.natAbs a) n j ∧ (((2 : Int) = (2 : Int) ∧ (0 : Nat) = (0 : Nat) ∧ (0 : Nat) = (0 : Nat) ∧ (0 : Nat) = (0 : Nat) ∧ True) ∧ (a = a ∧ (n ≤ n ∨ Int.natAbs a < (2 : Nat) ^ n)) ∧ ((0 : Int) = (0 : Int) ∧ ((0 : Nat) ≤ (0 : Nat) ∨ Int.natAbs (0 : Int) < (2 : Nat) ^ (0 : Nat))) ∧ [(1 : Int)] = [(1 : Int)] ∧ (((↑(NwX.s i) : Int) * IntKind.wrap IntKind.i64 ((2 : Int) - (1 : Int)) + a / (↑(NwX.s i) : Int) ^ Int.toNat (IntKind.wrap IntKind.i64 ((2 : Int) - (1 : Int)))) / (2 : Int) = (↑(NwX.s j) : Int) ∧ (max (n + (1 : Nat) + (64 : Nat)) n + (1 : Nat) ≤ n + (1 : Nat) ∨ Int.natAbs (((↑(NwX.s i) : Int) * IntKind.wrap IntKind.i64 ((2 : Int) - (1 : Int)) + a / (↑(NwX.s i) : Int) ^ Int.toNat (IntKind.wrap IntKind.i64 ((2 : Int) - (1 : Int)))) / (2 : Int)) < (2 : Nat) ^ (n + (1 : Nat)))) ∧ True) ∧ NwX.s j < NwX.s i) = evFn (env [c_bits, c_nshl, c_of, c_ipower, c_divmod1, c_iof, c_mul, c_iadd, c_icmp] (a_iroot2 a n)) Tryz.f99 [.big a n, .int .i64 2] (MRes.sat (.br (decide (a < 0)) (.ret (.tup [.big 0 0, .int .i64 1])) (.ret (.tup [.big (nsq a.natAbs) n, .int .i64 0])))) := by kernel_rfl
theorem p_iroot2 : GoodF Tryz.f99 s_iroot2 := by
  intro ms p r h hp hf
  unfold s_iroot2 at h
  split at h
  · rename_i a n k
    simp only [Option.some.injEq, Prod.mk.injEq] at h
    obtain ⟨rfl, rfl⟩ := h
    obtain ⟨h1, rfl⟩ : n ≤ 100000 ∧ k = 2 := hp
    have ha : a.natAbs < 2 ^ n := hf.1
    refine ⟨env [c_bits, c_nshl, c_of, c_ipower, c_divmod1, c_iof, c_mul, c_iadd, c_icmp] (a_iroot2 a n), ?_⟩
    rw [← vc_iroot2 a n]
    refine ⟨by omega, ?_⟩
    by_cases h0 : a < 0
    · rw [decide_eq_true h0]
      exact ⟨⟨rfl, .inl (Nat.le_refl _)⟩, rfl, True.intro⟩
    rw [decide_eq_false h0]
    obtain ⟨A, rfl⟩ := Int.eq_ofNat_of_zero_le (show 0 ≤ a by omega)
    rw [Int.natAbs_natCast] at ha
    rw [Int.natAbs_natCast, cond_false]
    have hbl : bl A ≤ n := bl_le_of ha
    by_cases hz : bl A = 0
    · have hA : A = 0 := by have := bl_lt A; rw [hz] at this; omega
      rw [show (((bl A : Nat) : Int) == 0) = true by rw [hz]; rfl, cond_true]
      have e : nsq A = A := nsq_uniq (by rw [hA]; omega) (by rw [hA]; omega)
      rw [e]
      exact ⟨⟨rfl, .inl (Nat.le_refl _)⟩, rfl, True.intro⟩
    rw [show (((bl A : Nat) : Int) == 0) = false by simpa using hz, cond_false]
    have hA0 : 0 < A := by
      rcases Nat.eq_zero_or_pos A with q | q
      · rw [q] at hz; exact absurd (by decide) hz
      · exact q
    have hnsq : nsq A ≤ A := by
      have h1 := (nsq_spec A).1
      rcases Nat.eq_zero_or_pos (nsq A) with q | q
      · omega
      · have := Nat.le_mul_of_pos_left (nsq A) q; omega
    by_cases h2 : bl A ≤ 2
    · rw [decide_eq_true (by omega), cond_true]
      have h4 : A < 2 ^ 2 := Nat.lt_of_lt_of_le (bl_lt A) (Nat.pow_le_pow_right (by omega) h2)
      have e : nsq A = 1 := nsq_uniq (by omega) (by omega)
      rw [e]
      exact ⟨by omega, ⟨rfl, .inr (by show 1 < 2 ^ n; rw [e] at hnsq; omega)⟩, rfl, True.intro⟩
    rw [decide_eq_false (by omega), cond_false]
    have w1 : IntKind.wrap IntKind.i64 ((bl A : Int) + 2) = (bl A : Int) + 2 := i64w (by omega) (by omega)
    have w2 : IntKind.wrap IntKind.i64 ((bl A : Int) + 2 - 1) = ((bl A + 1 : Nat) : Int) := by rw [i64w (by omega) (by omega)]; omega
    have w3 : Int.tdiv ((bl A + 1 : Nat) : Int) 2 = (((bl A + 1) / 2 : Nat) : Int) := rfl
    have w4 : IntKind.wrap IntKind.i64 (((bl A + 1) / 2 : Nat) : Int) = (((bl A + 1) / 2 : Nat) : Int) := i64w (by omega) (by omega)
    have w5 : IntKind.wrap IntKind.i64 ((2 : Int) - 1) = 1 := rfl
    have w6 : wv (List.take 1 (List.drop 0 [(1 : Int)])) = 1 := by decide
    rw [w1, w2, w3, w4, w5, w6, Int.one_mul, show (((bl A + 1) / 2 : Nat) : Int).toNat = (bl A + 1) / 2 from rfl, show (1 : Int).toNat = 1 from rfl]
    generalize hm : (bl A + 1) / 2 = M
    have e2 : ((2 : Int) ^ M).toNat = 2 ^ M := by
      have e : (2 : Int) ^ M = ((2 ^ M : Nat) : Int) := by rw [Int.natCast_pow]; rfl
      rw [e, Int.toNat_natCast]
    have e3 : wv (limbs (2 ^ M)) = ((2 ^ M : Nat) : Int) := wv_limbs _
    rw [e2, e3]
    have hML : M ≤ n := by omega
    have hMu : A < 2 ^ M * 2 ^ M := by
      rw [← Nat.pow_add]
      exact Nat.lt_of_lt_of_le (bl_lt A) (Nat.pow_le_pow_right (by omega) (by omega))
    have hM0 := Nat.two_pow_pos M
    have hMn : 2 ^ M < 2 ^ (n + 1) := Nat.pow_lt_pow_right (by omega) (by omega)
    have hlen : (limbs (2 ^ M)).length ≤ 1000000000 := by
      have := limbs_len_le (n := 2 ^ M) (k := n) (by rw [show (4294967296 : Nat) = 2 ^ 32 from rfl, ← Nat.pow_mul]; exact Nat.pow_lt_pow_right (by omega) (by omega))
      omega
    refine ⟨fun h => by omega, ⟨by decide, fun x hx => ?_, by omega, by omega, by decide⟩, ⟨fun x hx => limbs_wd _ x hx, hlen⟩, ⟨⟨2 ^ M⟩, ⟨hM0, ?_, hMn⟩, ⟨rfl, rfl, rfl, rfl, True.intro⟩, ⟨rfl, .inl (Nat.le_refl _)⟩, ⟨rfl, .inl (Nat.le_refl _)⟩, rfl, ⟨rfl, .inr hMn⟩, True.intro⟩, ?_⟩
    · have : x = 1 := by simpa using hx
      omega
    · show A < (2 ^ M + 1) * (2 ^ M + 1)
      have := Nat.mul_le_mul (show 2 ^ M ≤ 2 ^ M + 1 by omega) (show 2 ^ M ≤ 2 ^ M + 1 by omega)
      omega
    rintro ⟨S⟩ hI
    have i1 : 0 < S := hI.s0
    have i2 : A < (S + 1) * (S + 1) := hI.up
    have i3 : S < 2 ^ (n + 1) := hI.lt
    clear hI
    dsimp only
    have hb : bl S ≤ n + 1 := bl_le_of i3
    rw [Int.natAbs_natCast, Int.pow_one, Int.mul_one, Nat.mul_one]
    have q1 : ((A : Int) / (S : Int)) = ((A / S : Nat) : Int) := rfl
    have q2 : ((S : Int) + ((A / S : Nat) : Int)) / 2 = (((S + A / S) / 2 : Nat) : Int) := rfl
    rw [q1, q2]
    have hge := newton_ge (a := A) i1
    have hend := newton_end (a := A) (s := S)
    generalize (S + A / S) / 2 = T at *
    refine ⟨⟨by omega, by omega, by omega, by omega⟩, ⟨by omega, by omega, fun h => by omega⟩, by omega, ⟨by omega, by omega⟩, ⟨by omega, by omega⟩, by omega, ⟨by omega, by omega, fun h => by omega⟩, ⟨by omega, by omega⟩, ?_⟩
    have ic : decide (icmp (T : Int) (S : Int) ≥ 0) = decide (S ≤ T) := by
      refine decide_eq_decide.2 ?_
      unfold icmp
      split <;> (try split) <;> omega
    rw [ic]
    by_cases hc : S ≤ T
    · rw [decide_eq_true hc, cond_true]
      have e : nsq A = S := nsq_uniq (hend hc) i2
      rw [e] at hnsq ⊢
      exact ⟨⟨rfl, .inr (by show S < 2 ^ n; omega)⟩, rfl, True.intro⟩
    · rw [decide_eq_false hc, cond_false]
      have hT : 0 < T := by
        rcases Nat.eq_zero_or_pos T with q | q
        · rw [q] at hge; omega
        · exact q
      have hTn : T < 2 ^ (n + 1) := by omega
      exact ⟨⟨T⟩, ⟨hT, hge, hTn⟩, ⟨⟨rfl, rfl, rfl, rfl, True.intro⟩, ⟨rfl, .inl (Nat.le_refl _)⟩, ⟨rfl, .inl (Nat.le_refl _)⟩, rfl, ⟨rfl, .inr hTn⟩, True.intro⟩, by show T < S; omega⟩
  · simp at h
def c_iroot2 : Ctr Tryz.prog := ⟨99, s_iroot2, fun args w => Tryz.call99 args w, fn_ok_facts mix Tryz.func99 s_iroot2 p_iroot2⟩
def s_isqrt : FSpec
  | [.big a n] => some (some (n ≤ 100000), .br (decide (a < 0)) (.ret (.tup [.big 0 0, .big 0 0, .int .i64 1])) (.ret (.tup [.big (nsq a.natAbs) n, .big (a - nsq a.natAbs * nsq a.natAbs) (n + n + 1), .int .i64 0])))
  | _ => none
theorem vc_isqrt (a : Int) (n : Nat) : ((n ≤ (100000 : Nat) ∧ (2 : Int) = (2 : Int)) ∧ bif decide (a < (0 : Int)) then bif decide (a < (0 : Int)) then ((0 : Int) = (0 : Int) ∧ ((0 : Nat) ≤ (0 : Nat) ∨ Int.natAbs (0 : Int) < (2 : Nat) ^ (0 : Nat))) ∧ ((0 : Int) = (0 : Int) ∧ ((0 : Nat) ≤ (0 : Nat) ∨ Int.natAbs (0 : Int) < (2 : Nat) ^ (0 : Nat))) ∧ (1 : Int) = (1 : Int) ∧ True else ((0 : Int) = (↑(nsq (Int.natAbs a)) : Int) ∧ ((0 : Nat) ≤ n ∨ Int.natAbs (0 : Int) < (2 : Nat) ^ n)) ∧ ((0 : Int) = a - (↑(nsq (Int.natAbs a)) : Int) * (↑(nsq (Int.natAbs a)) : Int) ∧ ((0 : Nat) ≤ n + n + (1 : Nat) ∨ Int.natAbs (0 : Int) < (2 : Nat) ^ (n + n + (1 : Nat)))) ∧ (1 : Int) = (0 : Int) ∧ True else (n ≤ (1000000 : Nat) ∧ n ≤ (1000000 : Nat)) ∧ (n ≤ (1000000 : Nat) ∧ n + n ≤ (1000000 : Nat)) ∧ bif decide (a < (0 : Int)) then ((↑(nsq (Int.natAbs a)) : Int) = (0 : Int) ∧ (n ≤ (0 : Nat) ∨ Int.natAbs (↑(nsq (Int.natAbs a)) : Int) < (2 : Nat) ^ (0 : Nat))) ∧ (a - (↑(nsq (Int.natAbs a)) : Int) * (↑(nsq (Int.natAbs a)) : Int) = (0 : Int) ∧ (max n (n + n) + (1 : Nat) ≤ (0 : Nat) ∨ Int.natAbs (a - (↑(nsq (Int.natAbs a)) : Int) * (↑(nsq (Int.natAbs a)) : Int)) < (2 : Nat) ^ (0 : Nat))) ∧ (0 : Int) = (1 : Int) ∧ True else ((↑(nsq (Int.natAbs a)) : Int) = (↑(nsq (Int.natAbs a)) : Int) ∧ (n ≤ n ∨ Int.natAbs (↑(nsq (Int.natAbs a)) : Int) < (2 : Nat) ^ n)) ∧ (a - (↑(nsq (Int.natAbs a)) : Int) * (↑(nsq (Int.natAbs a)) : Int) = a - (↑(nsq (Int.natAbs a)) : Int) * (↑(nsq (Int.natAbs a)) : Int) ∧ (max n (n + n) + (1 : Nat) ≤ n + n + (1 : Nat) ∨ Int.natAbs (a - (↑(nsq (Int.natAbs a)) : Int) * (↑(nsq (Int.natAbs a)) : Int)) < (2 : Nat) ^ (n + n + (1 : Nat)))) ∧ (0 : Int) = (0 : Int) ∧ True) = evFn (env [c_iroot2, c_mul, c_isub] noAnn) Tryz.f59 [.big a n] (MRes.sat (.br (decide (a < 0)) (.ret (.tup [.big 0 0, .big 0 0, .int .i64 1])) (.ret (.tup [.big (nsq a.natAbs) n, .big (a - nsq a.natAbs * nsq a.natAbs) (n + n + 1), .int .i64 0])))) := by kernel_rfl
theorem p_isqrt : Good Tryz.f59 s_isqrt := by
  intro ms p r h hp
  unfold s_isqrt at h
  split at h
  · rename_i a n
    simp only [Option.some.injEq, Prod.mk.injEq] at h
    obtain ⟨rfl, rfl⟩ := h
    have h1 : n ≤ 100000 := hp
    refine ⟨env [c_iroot2, c_mul, c_isub] noAnn, ?_⟩
    rw [← vc_isqrt a n]
    by_cases h0 : a < 0
    · rw [decide_eq_true h0]
      and_intros <;> first | exact True.intro | rfl | exact .inl (Nat.le_refl _) | omega
    · rw [decide_eq_false h0]
      and_intros <;> first | exact True.intro | rfl | exact .inl (Nat.le_refl _) | omega | exact .inl (by omega)
  · simp at h
def c_isqrt : Ctr Tryz.prog := ⟨59, s_isqrt, fun args w => Tryz.call59 args w, fn_ok mix Tryz.func59 s_isqrt p_isqrt⟩

end Go.Proofs.YtkokpkhdkbeofaaGreat

namespace Go.Proofs.YtkokpkhdkbeofaaGreat
open Go Go.RowKit

abbrev ratM (a b : Int) (n m : Nat) : MV := .st [.big a n, .big b m]
def s_quot : FSpec
  | [.big a n, .big b m] => some (some (n ≤ 900000 ∧ m ≤ 900000 ∧ b ≠ 0), .ret (.big (a / b) n))
  | _ => none
theorem vc_quot (a b : Int) (n m : Nat) : ((n ≤ (900000 : Nat) ∧ m ≤ (900000 : Nat) ∧ (b = (0 : Int) → False)) ∧ a / b = a / b ∧ (n ≤ n ∨ Int.natAbs (a / b) < (2 : Nat) ^ n)) = evFn (env [c_divmod1] noAnn) Tryz.f120 [.big a n, .big b m] (MRes.sat (.ret (.big (a / b) n))) := by kernel_rfl
theorem p_quot : Good Tryz.f120 s_quot := by
  intro ms p r h hp
  unfold s_quot at h
  split at h
  · rename_i a n b m
    simp only [Option.some.injEq, Prod.mk.injEq] at h
    obtain ⟨rfl, rfl⟩ := h
    obtain ⟨h1, h2, h3⟩ : n ≤ 900000 ∧ m ≤ 900000 ∧ b ≠ 0 := hp
    refine ⟨env [c_divmod1] noAnn, ?_⟩
    rw [← vc_quot a b n m]
    first | done | (and_intros <;> first | exact True.intro | rfl | exact .inl (Nat.le_refl _) | omega)
  · simp at h
def c_quot : Ctr Tryz.prog := ⟨120, s_quot, fun args w => Tryz.call120 args w, fn_ok mix Tryz.func120 s_quot p_quot⟩
theorem red_size {n d : Int} {k m : Nat} (hd : 0 < d) (hn : n.natAbs < 2 ^ k) (hm : d.natAbs < 2 ^ m) : (redN n d).natAbs < 2 ^ k ∧ (redD n d).natAbs < 2 ^ m := by
  have hg : (0 : Int) < Int.gcd n d := by have := gcd_pos (n := n) hd; omega
  refine ⟨(ediv_small hn).resolve_right fun h => h hg, (ediv_small hm).resolve_right fun h => h hg⟩
theorem gcd_ne {n d : Int} (hd : 0 < d) : (Int.gcd n d : Int) ≠ 0 := by have := gcd_pos (n := n) hd; omega
def s_reduced : FSpec
  | [.big a n, .big d m] => some (some (n ≤ 900000 ∧ m ≤ 900000 ∧ 0 < d), .ret (ratM (redN a d) (redD a d) n m))
  | _ => none
theorem vc_reduced (a d : Int) (n m : Nat) : ((n ≤ (900000 : Nat) ∧ m ≤ (900000 : Nat)) ∧ (n ≤ (900000 : Nat) ∧ max n m ≤ (900000 : Nat) ∧ ((↑(Int.gcd a d) : Int) = (0 : Int) → False)) ∧ (m ≤ (900000 : Nat) ∧ max n m ≤ (900000 : Nat) ∧ ((↑(Int.gcd a d) : Int) = (0 : Int) → False)) ∧ (a / (↑(Int.gcd a d) : Int) = redN a d ∧ (n ≤ n ∨ Int.natAbs (a / (↑(Int.gcd a d) : Int)) < (2 : Nat) ^ n)) ∧ (d / (↑(Int.gcd a d) : Int) = redD a d ∧ (m ≤ m ∨ Int.natAbs (d / (↑(Int.gcd a d) : Int)) < (2 : Nat) ^ m)) ∧ True) = evFn (env [c_igcd, c_quot] noAnn) Tryz.f88 [.big a n, .big d m] (MRes.sat (.ret (ratM (redN a d) (redD a d) n m))) := by kernel_rfl
theorem p_reduced : Good Tryz.f88 s_reduced := by
  intro ms p r h hp
  unfold s_reduced at h
  split at h
  · rename_i a n d m
    simp only [Option.some.injEq, Prod.mk.injEq] at h
    obtain ⟨rfl, rfl⟩ := h
    obtain ⟨h1, h2, h3⟩ : n ≤ 900000 ∧ m ≤ 900000 ∧ 0 < d := hp
    refine ⟨env [c_igcd, c_quot] noAnn, ?_⟩
    rw [← vc_reduced a d n m]
    have hg := gcd_ne (n := a) h3
    and_intros <;> first|exact True.intro|rfl|exact .inl (Nat.le_refl _)|omega|exact hg
  · simp at h
def c_reduced : Ctr Tryz.prog := ⟨88, s_reduced, fun args w => Tryz.call88 args w, fn_ok mix Tryz.func88 s_reduced p_reduced⟩
def s_rnew : FSpec
  | [.big a n, .big d m] => some (some (n ≤ 899000 ∧ m ≤ 899000 ∧ 0 < d), .ret (.tup [ratM (redN a d) (redD a d) n m, .int .i64 0]))
  | _ => none
theorem vc_rnew (a d : Int) (n m : Nat) : (bif sgn d == (0 : Int) then (((0 : Int) = redN a d ∧ ((0 : Nat) ≤ n ∨ Int.natAbs (0 : Int) < (2 : Nat) ^ n)) ∧ ((0 : Int) = redD a d ∧ ((0 : Nat) ≤ m ∨ Int.natAbs (0 : Int) < (2 : Nat) ^ m)) ∧ True) ∧ (4 : Int) = (0 : Int) ∧ True else ((-9223372036854775808 : Int) ≤ sgn d ∧ sgn d ≤ (9223372036854775807 : Int)) ∧ (n ≤ (1000000 : Nat) ∧ (64 : Nat) ≤ (1000000 : Nat)) ∧ m ≤ (1000000 : Nat) ∧ (n + (64 : Nat) ≤ (900000 : Nat) ∧ m ≤ (900000 : Nat) ∧ (0 : Int) < (↑(Int.natAbs d) : Int)) ∧ ((redN (a * sgn d) (↑(Int.natAbs d) : Int) = redN a d ∧ (n + (64 : Nat) ≤ n ∨ Int.natAbs (redN (a * sgn d) (↑(Int.natAbs d) : Int)) < (2 : Nat) ^ n)) ∧ (redD (a * sgn d) (↑(Int.natAbs d) : Int) = redD a d ∧ (m ≤ m ∨ Int.natAbs (redD (a * sgn d) (↑(Int.natAbs d) : Int)) < (2 : Nat) ^ m)) ∧ True) ∧ (0 : Int) = (0 : Int) ∧ True) = evFn (env [c_sign, c_iof, c_mul, c_abs, c_reduced] noAnn) Tryz.f91 [.big a n, .big d m] (MRes.sat (.ret (.tup [ratM (redN a d) (redD a d) n m, .int .i64 0]))) := by kernel_rfl
theorem p_rnew : GoodF Tryz.f91 s_rnew := by
  intro ms p r h hp hf
  unfold s_rnew at h
  split at h
  · rename_i a n d m
    simp only [Option.some.injEq, Prod.mk.injEq] at h
    obtain ⟨rfl, rfl⟩ := h
    obtain ⟨h1, h2, h3⟩ : n ≤ 899000 ∧ m ≤ 899000 ∧ 0 < d := hp
    refine ⟨env [c_sign, c_iof, c_mul, c_abs, c_reduced] noAnn, ?_⟩
    rw [← vc_rnew a d n m]
    have hs : sgn d = 1 := by unfold sgn; rw [if_neg (by omega), if_neg (by omega)]
    have ha : (d.natAbs : Int) = d := by omega
    rw [hs, ha, Int.mul_one]
    obtain ⟨q1, q2⟩ := red_size h3 hf.1 hf.2.1
    and_intros <;> first|exact True.intro|rfl|exact .inl (Nat.le_refl _)|omega|exact .inr q1
  · simp at h
def c_rnew : Ctr Tryz.prog := ⟨91, s_rnew, fun args w => Tryz.call91 args w, fn_ok_facts mix Tryz.func91 s_rnew p_rnew⟩
def s_qadd : FSpec
  | [.st [.big a n, .big b m], .st [.big c k, .big d l]] => some (some (n ≤ 400000 ∧ m ≤ 400000 ∧ k ≤ 400000 ∧ l ≤ 400000 ∧ 0 < b ∧ 0 < d), .ret (ratM (redN (a * d + c * b) (b * d)) (redD (a * d + c * b) (b * d)) (max (n + l) (k + m) + 1) (m + l)))
  | _ => none
theorem vc_qadd (a b c d : Int) (n m k l : Nat) : ((n ≤ (1000000 : Nat) ∧ l ≤ (1000000 : Nat)) ∧ (k ≤ (1000000 : Nat) ∧ m ≤ (1000000 : Nat)) ∧ (n + l ≤ (1000000 : Nat) ∧ k + m ≤ (1000000 : Nat)) ∧ (m ≤ (1000000 : Nat) ∧ l ≤ (1000000 : Nat)) ∧ (max (n + l) (k + m) + (1 : Nat) ≤ (900000 : Nat) ∧ m + l ≤ (900000 : Nat) ∧ (0 : Int) < b * d) ∧ (redN (a * d + c * b) (b * d) = redN (a * d + c * b) (b * d) ∧ (max (n + l) (k + m) + (1 : Nat) ≤ max (n + l) (k + m) + (1 : Nat) ∨ Int.natAbs (redN (a * d + c * b) (b * d)) < (2 : Nat) ^ (max (n + l) (k + m) + (1 : Nat)))) ∧ (redD (a * d + c * b) (b * d) = redD (a * d + c * b) (b * d) ∧ (m + l ≤ m + l ∨ Int.natAbs (redD (a * d + c * b) (b * d)) < (2 : Nat) ^ (m + l))) ∧ True) = evFn (env [c_mul, c_iadd, c_reduced] noAnn) Tryz.f63 [.st [.big a n, .big b m], .st [.big c k, .big d l]] (MRes.sat (.ret (ratM (redN (a * d + c * b) (b * d)) (redD (a * d + c * b) (b * d)) (max (n + l) (k + m) + 1) (m + l)))) := by kernel_rfl
theorem p_qadd : Good Tryz.f63 s_qadd := by
  intro ms p r h hp
  unfold s_qadd at h
  split at h
  · rename_i a n b m c k d l
    simp only [Option.some.injEq, Prod.mk.injEq] at h
    obtain ⟨rfl, rfl⟩ := h
    obtain ⟨h1, h2, h3, h4, h5, h6⟩ : n ≤ 400000 ∧ m ≤ 400000 ∧ k ≤ 400000 ∧ l ≤ 400000 ∧ 0 < b ∧ 0 < d := hp
    refine ⟨env [c_mul, c_iadd, c_reduced] noAnn, ?_⟩
    rw [← vc_qadd a b c d n m k l]
    have hb := Int.mul_pos h5 h6
    and_intros <;> first|exact True.intro|rfl|exact .inl (Nat.le_refl _)|omega|exact hb
  · simp at h
def c_qadd : Ctr Tryz.prog := ⟨63, s_qadd, fun args w => Tryz.call63 args w, fn_ok mix Tryz.func63 s_qadd p_qadd⟩
def s_qneg : FSpec
  | [.st [.big a n, .big b m]] => some (some (n ≤ 900000 ∧ m ≤ 900000), .ret (ratM (-a) b n m))
  | _ => none
theorem vc_qneg (a b : Int) (n m : Nat) : (n ≤ (1000000 : Nat) ∧ (-a = -a ∧ (n ≤ n ∨ Int.natAbs (-a) < (2 : Nat) ^ n)) ∧ (b = b ∧ (m ≤ m ∨ Int.natAbs b < (2 : Nat) ^ m)) ∧ True) = evFn (env [c_neg] noAnn) Tryz.f93 [.st [.big a n, .big b m]] (MRes.sat (.ret (ratM (-a) b n m))) := by kernel_rfl
theorem p_qneg : Good Tryz.f93 s_qneg := by
  intro ms p r h hp
  unfold s_qneg at h
  split at h
  · rename_i a n b m
    simp only [Option.some.injEq, Prod.mk.injEq] at h
    obtain ⟨rfl, rfl⟩ := h
    obtain ⟨h1, h2⟩ : n ≤ 900000 ∧ m ≤ 900000 := hp
    refine ⟨env [c_neg] noAnn, ?_⟩
    rw [← vc_qneg a b n m]
    first | done | (and_intros <;> first | exact True.intro | rfl | exact .inl (Nat.le_refl _) | omega)
  · simp at h
def c_qneg : Ctr Tryz.prog := ⟨93, s_qneg, fun args w => Tryz.call93 args w, fn_ok mix Tryz.func93 s_qneg p_qneg⟩
def s_qsub : FSpec
  | [.st [.big a n, .big b m], .st [.big c k, .big d l]] => some (some (n ≤ 400000 ∧ m ≤ 400000 ∧ k ≤ 400000 ∧ l ≤ 400000 ∧ 0 < b ∧ 0 < d), .ret (ratM (redN (a * d + -c * b) (b * d)) (redD (a * d + -c * b) (b * d)) (max (n + l) (k + m) + 1) (m + l)))
  | _ => none
theorem vc_qsub (a b c d : Int) (n m k l : Nat) : ((k ≤ (900000 : Nat) ∧ l ≤ (900000 : Nat)) ∧ (n ≤ (400000 : Nat) ∧ m ≤ (400000 : Nat) ∧ k ≤ (400000 : Nat) ∧ l ≤ (400000 : Nat) ∧ (0 : Int) < b ∧ (0 : Int) < d) ∧ (redN (a * d + -c * b) (b * d) = redN (a * d + -c * b) (b * d) ∧ (max (n + l) (k + m) + (1 : Nat) ≤ max (n + l) (k + m) + (1 : Nat) ∨ Int.natAbs (redN (a * d + -c * b) (b * d)) < (2 : Nat) ^ (max (n + l) (k + m) + (1 : Nat)))) ∧ (redD (a * d + -c * b) (b * d) = redD (a * d + -c * b) (b * d) ∧ (m + l ≤ m + l ∨ Int.natAbs (redD (a * d + -c * b) (b * d)) < (2 : Nat) ^ (m + l))) ∧ True) = evFn (env [c_qneg, c_qadd] noAnn) Tryz.f53 [.st [.big a n, .big b m], .st [.big c k, .big d l]] (MRes.sat (.ret (ratM (redN (a * d + -c * b) (b * d)) (redD (a * d + -c * b) (b * d)) (max (n + l) (k + m) + 1) (m + l)))) := by kernel_rfl
theorem p_qsub : Good Tryz.f53 s_qsub := by
  intro ms p r h hp
  unfold s_qsub at h
  split at h
  · rename_i a n b m c k d l
    simp only [Option.some.injEq, Prod.mk.injEq] at h
    obtain ⟨rfl, rfl⟩ := h
    obtain ⟨h1, h2, h3, h4, h5, h6⟩ : n ≤ 400000 ∧ m ≤ 400000 ∧ k ≤ 400000 ∧ l ≤ 400000 ∧ 0 < b ∧ 0 < d := hp
    refine ⟨env [c_qneg, c_qadd] noAnn, ?_⟩
    rw [← vc_qsub a b c d n m k l]
    first | done | (and_intros <;> first | exact True.intro | rfl | exact .inl (Nat.le_refl _) | omega)
  · simp at h
def c_qsub : Ctr Tryz.prog := ⟨53, s_qsub, fun args w => Tryz.call53 args w, fn_ok mix Tryz.func53 s_qsub p_qsub⟩
def s_qmul : FSpec
  | [.st [.big a n, .big b m], .st [.big c k, .big d l]] => some (some (n ≤ 400000 ∧ m ≤ 400000 ∧ k ≤ 400000 ∧ l ≤ 400000 ∧ 0 < b ∧ 0 < d), .ret (ratM (redN (a * c) (b * d)) (redD (a * c) (b * d)) (n + k) (m + l)))
  | _ => none
theorem vc_qmul (a b c d : Int) (n m k l : Nat) : ((n ≤ (1000000 : Nat) ∧ k ≤ (1000000 : Nat)) ∧ (m ≤ (1000000 : Nat) ∧ l ≤ (1000000 : Nat)) ∧ (n + k ≤ (900000 : Nat) ∧ m + l ≤ (900000 : Nat) ∧ (0 : Int) < b * d) ∧ (redN (a * c) (b * d) = redN (a * c) (b * d) ∧ (n + k ≤ n + k ∨ Int.natAbs (redN (a * c) (b * d)) < (2 : Nat) ^ (n + k))) ∧ (redD (a * c) (b * d) = redD (a * c) (b * d) ∧ (m + l ≤ m + l ∨ Int.natAbs (redD (a * c) (b * d)) < (2 : Nat) ^ (m + l))) ∧ True) = evFn (env [c_mul, c_reduced] noAnn) Tryz.f47 [.st [.big a n, .big b m], .st [.big c k, .big d l]] (MRes.sat (.ret (ratM (redN (a * c) (b * d)) (redD (a * c) (b * d)) (n + k) (m + l)))) := by kernel_rfl
theorem p_qmul : Good Tryz.f47 s_qmul := by
  intro ms p r h hp
  unfold s_qmul at h
  split at h
  · rename_i a n b m c k d l
    simp only [Option.some.injEq, Prod.mk.injEq] at h
    obtain ⟨rfl, rfl⟩ := h
    obtain ⟨h1, h2, h3, h4, h5, h6⟩ : n ≤ 400000 ∧ m ≤ 400000 ∧ k ≤ 400000 ∧ l ≤ 400000 ∧ 0 < b ∧ 0 < d := hp
    refine ⟨env [c_mul, c_reduced] noAnn, ?_⟩
    rw [← vc_qmul a b c d n m k l]
    have hb := Int.mul_pos h5 h6
    and_intros <;> first|exact True.intro|rfl|exact .inl (Nat.le_refl _)|omega|exact hb
  · simp at h
def c_qmul : Ctr Tryz.prog := ⟨47, s_qmul, fun args w => Tryz.call47 args w, fn_ok mix Tryz.func47 s_qmul p_qmul⟩
def s_qcmp : FSpec
  | [.st [.big a n, .big b m], .st [.big c k, .big d l]] => some (some (n ≤ 400000 ∧ m ≤ 400000 ∧ k ≤ 400000 ∧ l ≤ 400000), .ret (.int .i64 (icmp (a * d) (c * b))))
  | _ => none
theorem vc_qcmp (a b c d : Int) (n m k l : Nat) : ((n ≤ (1000000 : Nat) ∧ l ≤ (1000000 : Nat)) ∧ (k ≤ (1000000 : Nat) ∧ m ≤ (1000000 : Nat)) ∧ (n + l ≤ (1000000 : Nat) ∧ k + m ≤ (1000000 : Nat)) ∧ icmp (a * d) (c * b) = icmp (a * d) (c * b)) = evFn (env [c_mul, c_icmp] noAnn) Tryz.f46 [.st [.big a n, .big b m], .st [.big c k, .big d l]] (MRes.sat (.ret (.int .i64 (icmp (a * d) (c * b))))) := by kernel_rfl
theorem p_qcmp : Good Tryz.f46 s_qcmp := by
  intro ms p r h hp
  unfold s_qcmp at h
  split at h
  · rename_i a n b m c k d l
    simp only [Option.some.injEq, Prod.mk.injEq] at h
    obtain ⟨rfl, rfl⟩ := h
    obtain ⟨h1, h2, h3, h4⟩ : n ≤ 400000 ∧ m ≤ 400000 ∧ k ≤ 400000 ∧ l ≤ 400000 := hp
    refine ⟨env [c_mul, c_icmp] noAnn, ?_⟩
    rw [← vc_qcmp a b c d n m k l]
    first | done | (and_intros <;> first | exact True.intro | rfl | exact .inl (Nat.le_refl _) | omega)
  · simp at h
def c_qcmp : Ctr Tryz.prog := ⟨46, s_qcmp, fun args w => Tryz.call46 args w, fn_ok mix Tryz.func46 s_qcmp p_qcmp⟩
def s_qsign : FSpec
  | [.st [.big a _, .big _ _]] => some (none, .ret (.int .i64 (sgn a)))
  | _ => none
theorem vc_qsign (a b : Int) (n m : Nat) : (sgn a = sgn a) = evFn (env [c_sign] noAnn) Tryz.f43 [.st [.big a n, .big b m]] (MRes.sat (.ret (.int .i64 (sgn a)))) := by kernel_rfl
theorem p_qsign : Good Tryz.f43 s_qsign := by
  intro ms p r h hp
  unfold s_qsign at h
  split at h
  · rename_i a n b m
    simp only [Option.some.injEq, Prod.mk.injEq] at h
    obtain ⟨rfl, rfl⟩ := h
    refine ⟨env [c_sign] noAnn, ?_⟩
    rw [← vc_qsign a b n m]
    first | done | (and_intros <;> first | exact True.intro | rfl | exact .inl (Nat.le_refl _) | omega)
  · simp at h
def c_qsign : Ctr Tryz.prog := ⟨43, s_qsign, fun args w => Tryz.call43 args w, fn_ok mix Tryz.func43 s_qsign p_qsign⟩
def s_qex : FSpec
  | [.st [.big a n, .big b m]] => some (none, .ret (.st [ratM a b n m, ratM a b n m]))
  | _ => none
theorem vc_qex (a b : Int) (n m : Nat) : (((a = a ∧ (n ≤ n ∨ Int.natAbs a < (2 : Nat) ^ n)) ∧ (b = b ∧ (m ≤ m ∨ Int.natAbs b < (2 : Nat) ^ m)) ∧ True) ∧ ((a = a ∧ (n ≤ n ∨ Int.natAbs a < (2 : Nat) ^ n)) ∧ (b = b ∧ (m ≤ m ∨ Int.natAbs b < (2 : Nat) ^ m)) ∧ True) ∧ True) = evFn (env [] noAnn) Tryz.f52 [.st [.big a n, .big b m]] (MRes.sat (.ret (.st [ratM a b n m, ratM a b n m]))) := by kernel_rfl
theorem p_qex : Good Tryz.f52 s_qex := by
  intro ms p r h hp
  unfold s_qex at h
  split at h
  · rename_i a n b m
    simp only [Option.some.injEq, Prod.mk.injEq] at h
    obtain ⟨rfl, rfl⟩ := h
    refine ⟨env [] noAnn, ?_⟩
    rw [← vc_qex a b n m]
    first | done | (and_intros <;> first | exact True.intro | rfl | exact .inl (Nat.le_refl _) | omega)
  · simp at h
def c_qex : Ctr Tryz.prog := ⟨52, s_qex, fun args w => Tryz.call52 args w, fn_ok mix Tryz.func52 s_qex p_qex⟩

end Go.Proofs.YtkokpkhdkbeofaaGreat
