/-
  Contracts of functions: the reference's Made.
-/
import Derived.Test.YtcikhffhikgahaaDoorW3


/-
  Contracts of functions: division of integers, common divisors.
-/
namespace Go.Proofs.YtcikhffhikgahaaDoor
open Go Go.RowKit

/-! ### integer.DivMod, mod, Gcd, Bezout -/
def s_divmod : FSpec
  | [.big a n, .big b m] => some (some (n ≤ 900000 ∧ m ≤ 900000), .br (decide (b = 0)) (.ret (.tup [.big 0 0, .big 0 0, .int .i64 4])) (.ret (.tup [.big (a / b) n, .big (a % b) m, .int .i64 0])))
  | _ => none
theorem vc_divmod (a b : Int) (n m : Nat) : (bif (↑(List.length (limbs (Int.natAbs b))) : Int) == (0 : Int) then bif decide (b = (0 : Int)) then ((0 : Int) = (0 : Int) ∧ ((0 : Nat) ≤ (0 : Nat) ∨ Int.natAbs (0 : Int) < (2 : Nat) ^ (0 : Nat))) ∧ ((0 : Int) = (0 : Int) ∧ ((0 : Nat) ≤ (0 : Nat) ∨ Int.natAbs (0 : Int) < (2 : Nat) ^ (0 : Nat))) ∧ (4 : Int) = (4 : Int) ∧ True else ((0 : Int) = a / b ∧ ((0 : Nat) ≤ n ∨ Int.natAbs (0 : Int) < (2 : Nat) ^ n)) ∧ ((0 : Int) = a % b ∧ ((0 : Nat) ≤ m ∨ Int.natAbs (0 : Int) < (2 : Nat) ^ m)) ∧ (4 : Int) = (0 : Int) ∧ True else (limbs (Int.toNat (wv (limbs (Int.natAbs a)))) = limbs (Int.natAbs a) ∧ limbs (Int.toNat (wv (limbs (Int.natAbs b)))) = limbs (Int.natAbs b) ∧ (limbs (Int.natAbs b) = [] → False) ∧ List.length (limbs (Int.natAbs a)) ≤ (1000000 : Nat) ∧ List.length (limbs (Int.natAbs b)) ≤ (1000000 : Nat)) ∧ ((∀ (x : Int), x ∈ limbs (Int.toNat (wv (limbs (Int.natAbs a)) / wv (limbs (Int.natAbs b)))) → (0 : Int) ≤ x ∧ x < (4294967296 : Int)) ∧ List.length (limbs (Int.toNat (wv (limbs (Int.natAbs a)) / wv (limbs (Int.natAbs b))))) ≤ (1000000000 : Nat)) ∧ ((∀ (x : Int), x ∈ limbs (Int.toNat (wv (limbs (Int.natAbs a)) % wv (limbs (Int.natAbs b)))) → (0 : Int) ≤ x ∧ x < (4294967296 : Int)) ∧ List.length (limbs (Int.toNat (wv (limbs (Int.natAbs a)) % wv (limbs (Int.natAbs b))))) ≤ (1000000000 : Nat)) ∧ bif decide (sg (decide (a < (0 : Int))) (wv (limbs (Int.toNat (wv (limbs (Int.natAbs a)) % wv (limbs (Int.natAbs b)))))) < (0 : Int)) then m ≤ (1000000 : Nat) ∧ ((32 : Nat) * List.length (limbs (Int.toNat (wv (limbs (Int.natAbs a)) % wv (limbs (Int.natAbs b))))) ≤ (1000000 : Nat) ∧ m ≤ (1000000 : Nat)) ∧ ((-9223372036854775808 : Int) ≤ sgn b ∧ sgn b ≤ (9223372036854775807 : Int)) ∧ ((32 : Nat) * List.length (limbs (Int.toNat (wv (limbs (Int.natAbs a)) / wv (limbs (Int.natAbs b))))) ≤ (1000000 : Nat) ∧ (64 : Nat) ≤ (1000000 : Nat)) ∧ bif decide (b = (0 : Int)) then (sg (!decide (a < (0 : Int)) == decide (b < (0 : Int))) (wv (limbs (Int.toNat (wv (limbs (Int.natAbs a)) / wv (limbs (Int.natAbs b)))))) - sgn b = (0 : Int) ∧ (max ((32 : Nat) * List.length (limbs (Int.toNat (wv (limbs (Int.natAbs a)) / wv (limbs (Int.natAbs b)))))) (64 : Nat) + (1 : Nat) ≤ (0 : Nat) ∨ Int.natAbs (sg (!decide (a < (0 : Int)) == decide (b < (0 : Int))) (wv (limbs (Int.toNat (wv (limbs (Int.natAbs a)) / wv (limbs (Int.natAbs b)))))) - sgn b) < (2 : Nat) ^ (0 : Nat))) ∧ (sg (decide (a < (0 : Int))) (wv (limbs (Int.toNat (wv (limbs (Int.natAbs a)) % wv (limbs (Int.natAbs b)))))) + (↑(Int.natAbs b) : Int) = (0 : Int) ∧ (max ((32 : Nat) * List.length (limbs (Int.toNat (wv (limbs (Int.natAbs a)) % wv (limbs (Int.natAbs b)))))) m + (1 : Nat) ≤ (0 : Nat) ∨ Int.natAbs (sg (decide (a < (0 : Int))) (wv (limbs (Int.toNat (wv (limbs (Int.natAbs a)) % wv (limbs (Int.natAbs b)))))) + (↑(Int.natAbs b) : Int)) < (2 : Nat) ^ (0 : Nat))) ∧ (0 : Int) = (4 : Int) ∧ True else (sg (!decide (a < (0 : Int)) == decide (b < (0 : Int))) (wv (limbs (Int.toNat (wv (limbs (Int.natAbs a)) / wv (limbs (Int.natAbs b)))))) - sgn b = a / b ∧ (max ((32 : Nat) * List.length (limbs (Int.toNat (wv (limbs (Int.natAbs a)) / wv (limbs (Int.natAbs b)))))) (64 : Nat) + (1 : Nat) ≤ n ∨ Int.natAbs (sg (!decide (a < (0 : Int)) == decide (b < (0 : Int))) (wv (limbs (Int.toNat (wv (limbs (Int.natAbs a)) / wv (limbs (Int.natAbs b)))))) - sgn b) < (2 : Nat) ^ n)) ∧ (sg (decide (a < (0 : Int))) (wv (limbs (Int.toNat (wv (limbs (Int.natAbs a)) % wv (limbs (Int.natAbs b)))))) + (↑(Int.natAbs b) : Int) = a % b ∧ (max ((32 : Nat) * List.length (limbs (Int.toNat (wv (limbs (Int.natAbs a)) % wv (limbs (Int.natAbs b)))))) m + (1 : Nat) ≤ m ∨ Int.natAbs (sg (decide (a < (0 : Int))) (wv (limbs (Int.toNat (wv (limbs (Int.natAbs a)) % wv (limbs (Int.natAbs b)))))) + (↑(Int.natAbs b) : Int)) < (2 : Nat) ^ m)) ∧ (0 : Int) = (0 : Int) ∧ True else bif decide (b = (0 : Int)) then (sg (!decide (a < (0 : Int)) == decide (b < (0 : Int))) (wv (limbs (Int.toNat (wv (limbs (Int.natAbs a)) / wv (limbs (Int.natAbs b)))))) = (0 : Int) ∧ ((32 : Nat) * List.length (limbs (Int.toNat (wv (limbs (Int.natAbs a)) / wv (limbs (Int.natAbs b))))) ≤ (0 : Nat) ∨ Int.natAbs (sg (!decide (a < (0 : Int)) == decide (b < (0 : Int))) (wv (limbs (Int.toNat (wv (limbs (Int.natAbs a)) / wv (limbs (Int.natAbs b))))))) < (2 : Nat) ^ (0 : Nat))) ∧ (sg (decide (a < (0 : Int))) (wv (limbs (Int.toNat (wv (limbs (Int.natAbs a)) % wv (limbs (Int.natAbs b)))))) = (0 : Int) ∧ ((32 : Nat) * List.length (limbs (Int.toNat (wv (limbs (Int.natAbs a)) % wv (limbs (Int.natAbs b))))) ≤ (0 : Nat) ∨ Int.natAbs (sg (decide (a < (0 : Int))) (wv (limbs (Int.toNat (wv (limbs (Int.natAbs a)) % wv (limbs (Int.natAbs b))))))) < (2 : Nat) ^ (0 : Nat))) ∧ (0 : Int) = (4 : Int) ∧ True else (sg (!decide (a < (0 : Int)) == decide (b < (0 : Int))) (wv (limbs (Int.toNat (wv (limbs (Int.natAbs a)) / wv (limbs (Int.natAbs b)))))) = a / b ∧ ((32 : Nat) * List.length (limbs (Int.toNat (wv (limbs (Int.natAbs a)) / wv (limbs (Int.natAbs b))))) ≤ n ∨ Int.natAbs (sg (!decide (a < (0 : Int)) == decide (b < (0 : Int))) (wv (limbs (Int.toNat (wv (limbs (Int.natAbs a)) / wv (limbs (Int.natAbs b))))))) < (2 : Nat) ^ n)) ∧ (sg (decide (a < (0 : Int))) (wv (limbs (Int.toNat (wv (limbs (Int.natAbs a)) % wv (limbs (Int.natAbs b)))))) = a % b ∧ ((32 : Nat) * List.length (limbs (Int.toNat (wv (limbs (Int.natAbs a)) % wv (limbs (Int.natAbs b))))) ≤ m ∨ Int.natAbs (sg (decide (a < (0 : Int))) (wv (limbs (Int.toNat (wv (limbs (Int.natAbs a)) % wv (limbs (Int.natAbs b))))))) < (2 : Nat) ^ m)) ∧ (0 : Int) = (0 : Int) ∧ True) = evFn (env [c_ndiv, c_of, c_iadd, c_isub, c_abs, c_sign, c_iof] noAnn) Tryd.f74 [.big a n, .big b m] (MRes.sat (.br (decide (b = 0)) (.ret (.tup [.big 0 0, .big 0 0, .int .i64 4])) (.ret (.tup [.big (a / b) n, .big (a % b) m, .int .i64 0])))) := by kernel_rfl

theorem divmod_unique {a b q r : Int} (h : b * q + r = a) (h0 : 0 ≤ r) (h1 : r < (b.natAbs : Int)) : a / b = q ∧ a % b = r := by
  have e : a % b = r := by
    rw [← h, Int.mul_add_emod_self_left]
    rcases Int.lt_or_le b 0 with hb | hb
    · rw [← Int.emod_neg, Int.emod_eq_of_lt h0 (by omega)]
    · rw [Int.emod_eq_of_lt h0 (by omega)]
  refine ⟨?_, e⟩
  have h2 := Int.mul_ediv_add_emod a b
  rw [e] at h2
  have h3 : b * (a / b) = b * q := by omega
  exact Int.eq_of_mul_eq_mul_left (by omega) h3

/-- Quotient and remainder from those of the sizes. -/
theorem divmod_signs (a b : Int) (hb : b ≠ 0) {x y : Nat} (hx : x = a.natAbs / b.natAbs) (hy : y = a.natAbs % b.natAbs) :
    (sg (decide (a < 0)) (y : Int) < 0 → sg (decide (a < 0)) (y : Int) + (b.natAbs : Int) = a % b ∧ sg (!(decide (a < 0) == decide (b < 0))) (x : Int) - sgn b = a / b) ∧
    (¬ sg (decide (a < 0)) (y : Int) < 0 → sg (decide (a < 0)) (y : Int) = a % b ∧ sg (!(decide (a < 0) == decide (b < 0))) (x : Int) = a / b) := by
  have hm : b.natAbs * x + y = a.natAbs := by rw [hx, hy]; exact Nat.div_add_mod ..
  have hlt : y < b.natAbs := by rw [hy]; exact Nat.mod_lt _ (by omega)
  clear hx hy
  have hm' : (b.natAbs : Int) * (x : Int) + (y : Int) = (a.natAbs : Int) := by rw [← hm]; simp
  have uniq : ∀ q r : Int, b * q + r = a → 0 ≤ r → r < (b.natAbs : Int) → r = a % b ∧ q = a / b := fun q r h h0 h1 => by
    have := divmod_unique h h0 h1
    exact ⟨this.2.symm, this.1.symm⟩
  rcases Int.lt_or_le a 0 with q1 | q1 <;> rcases Int.lt_or_le b 0 with q2 | q2
  · rw [show decide (a < 0) = true from decide_eq_true q1, show decide (b < 0) = true from decide_eq_true q2]
    have e1 : (b.natAbs : Int) = -b := by omega
    have e2 : (a.natAbs : Int) = -a := by omega
    have e3 : sgn b = -1 := by unfold sgn; rw [if_neg hb, if_pos q2]
    rw [e1, e2, Int.neg_mul] at hm'
    refine ⟨fun h => ?_, fun h => ?_⟩
    · show -(y : Int) + _ = _ ∧ (x : Int) - sgn b = _
      rw [e3]
      refine uniq _ _ ?_ (by omega) (by have : -(y : Int) < 0 := h; omega)
      rw [Int.mul_sub, e1]; omega
    · have h : ¬ -(y : Int) < 0 := h
      show -(y : Int) = _ ∧ (x : Int) = _
      exact uniq _ _ (by omega) (by omega) (by omega)
  · rw [show decide (a < 0) = true from decide_eq_true q1, show decide (b < 0) = false from decide_eq_false (by omega)]
    have e1 : (b.natAbs : Int) = b := by omega
    have e2 : (a.natAbs : Int) = -a := by omega
    have e3 : sgn b = 1 := by unfold sgn; rw [if_neg hb, if_neg (by omega)]
    rw [e1, e2] at hm'
    refine ⟨fun h => ?_, fun h => ?_⟩
    · show -(y : Int) + _ = _ ∧ -(x : Int) - sgn b = _
      rw [e3]
      refine uniq _ _ ?_ (by omega) (by have : -(y : Int) < 0 := h; omega)
      rw [Int.mul_sub, Int.mul_neg, e1]; omega
    · have h : ¬ -(y : Int) < 0 := h
      show -(y : Int) = _ ∧ -(x : Int) = _
      exact uniq _ _ (by rw [Int.mul_neg]; omega) (by omega) (by omega)
  · rw [show decide (a < 0) = false from decide_eq_false (by omega), show decide (b < 0) = true from decide_eq_true q2]
    have e1 : (b.natAbs : Int) = -b := by omega
    have e2 : (a.natAbs : Int) = a := by omega
    rw [e1, e2, Int.neg_mul] at hm'
    refine ⟨fun h => ?_, fun h => ?_⟩
    · have h : (y : Int) < 0 := h
      omega
    · show (y : Int) = _ ∧ -(x : Int) = _
      exact uniq _ _ (by rw [Int.mul_neg]; omega) (by omega) (by omega)
  · rw [show decide (a < 0) = false from decide_eq_false (by omega), show decide (b < 0) = false from decide_eq_false (by omega)]
    have e1 : (b.natAbs : Int) = b := by omega
    have e2 : (a.natAbs : Int) = a := by omega
    rw [e1, e2] at hm'
    refine ⟨fun h => ?_, fun h => ?_⟩
    · have h : (y : Int) < 0 := h
      omega
    · show (y : Int) = _ ∧ (x : Int) = _
      exact uniq _ _ (by omega) (by omega) (by omega)

theorem natAbs_ediv (a b : Int) : (a / b).natAbs ≤ a.natAbs := Int.natAbs_ediv_le_natAbs a b
theorem natAbs_emod {a b : Int} (hb : b ≠ 0) : (a % b).natAbs < b.natAbs := by
  have h1 := Int.emod_nonneg a hb
  have h2 := Int.emod_lt a hb
  omega

theorem p_divmod : GoodF Tryd.f74 s_divmod := by
  intro ms p r h hp hf
  unfold s_divmod at h
  split at h
  · rename_i a n b m
    simp only [Option.some.injEq, Prod.mk.injEq] at h
    obtain ⟨rfl, rfl⟩ := h
    obtain ⟨hn, hm⟩ : n ≤ 900000 ∧ m ≤ 900000 := hp
    have ha : a.natAbs < 2 ^ n := hf.1
    have hb : b.natAbs < 2 ^ m := hf.2.1
    refine ⟨env [c_ndiv, c_of, c_iadd, c_isub, c_abs, c_sign, c_iof] noAnn, ?_⟩
    rw [← vc_divmod a b n m]
    have l1 := limbs_len_bits ha
    have l2 := limbs_len_bits hb
    by_cases hz : b = 0
    · subst hz
      have e : ((((limbs (0 : Int).natAbs).length : Nat) : Int) == 0) = true := by rw [show (0 : Int).natAbs = 0 from rfl, limbs_zero]; rfl
      rw [e, cond_true, show decide ((0 : Int) = 0) = true from rfl, cond_true]
      exact ⟨⟨rfl, .inl (Nat.le_refl _)⟩, ⟨rfl, .inl (Nat.le_refl _)⟩, rfl, True.intro⟩
    · have hne : limbs b.natAbs ≠ [] := fun e => hz (by have := limbs_eq_nil.1 e; omega)
      have e : ((((limbs b.natAbs).length : Nat) : Int) == 0) = false := by
        have : (limbs b.natAbs).length ≠ 0 := fun e => hne (List.eq_nil_of_length_eq_zero e)
        simpa using this
      have ed : ((a.natAbs : Int) / (b.natAbs : Int)).toNat = a.natAbs / b.natAbs := by rw [← Int.natCast_ediv, Int.toNat_natCast]
      have em : ((a.natAbs : Int) % (b.natAbs : Int)).toNat = a.natAbs % b.natAbs := by rw [← Int.natCast_emod, Int.toNat_natCast]
      simp only [e, cond_false, wvl, ed, em, Int.toNat_natCast, show decide (b = 0) = false from decide_eq_false hz]
      obtain ⟨k1, k2⟩ := divmod_signs a b hz rfl rfl
      have hq : (a / b).natAbs < 2 ^ n := Nat.lt_of_le_of_lt (natAbs_ediv a b) ha
      have hr : (a % b).natAbs < 2 ^ m := Nat.lt_of_lt_of_le (natAbs_emod hz) (by omega)
      have hx : a.natAbs / b.natAbs < 2 ^ n := Nat.lt_of_le_of_lt (Nat.div_le_self ..) ha
      have hy : a.natAbs % b.natAbs < 2 ^ m := Nat.lt_of_lt_of_le (Nat.mod_lt _ (by omega)) (by omega)
      have l3 := limbs_len_bits hx
      have l4 := limbs_len_bits hy
      have hs : -1 ≤ sgn b ∧ sgn b ≤ 1 := by unfold sgn; (repeat' split) <;> omega
      refine ⟨⟨True.intro, True.intro, fun e => hne e, by omega, by omega⟩, ⟨limbs_wd _, by omega⟩, ⟨limbs_wd _, by omega⟩, ?_⟩
      rw [Bool.cond_decide]
      split
      · rename_i hc
        obtain ⟨k3, k4⟩ := k1 hc
        rw [k3, k4]
        exact ⟨by omega, by omega, by omega, by omega, ⟨rfl, .inr hq⟩, ⟨rfl, .inr hr⟩, (by and_intros <;> first | exact True.intro | rfl | omega)⟩
      · rename_i hc
        obtain ⟨k3, k4⟩ := k2 hc
        rw [k3, k4]
        exact ⟨⟨rfl, .inr hq⟩, ⟨rfl, .inr hr⟩, (by and_intros <;> first | exact True.intro | rfl | omega)⟩
  · simp at h
def c_divmod : Ctr Tryd.prog := ⟨74, s_divmod, fun args w => Tryd.call74 args w, fn_ok_facts mix Tryd.func74 s_divmod p_divmod⟩

/-- A contract that says less. -/
def Ctr.weaken {P : Program} (c : Ctr P) (spec : FSpec) (h : ∀ ms p r, spec ms = some (p, r) → p.holds → ∃ p' r', c.spec ms = some (p', r') ∧ p'.holds ∧ ∀ ct w e, r'.holds ct w e → r.holds ct w e) : Ctr P :=
  ⟨c.f, spec, c.call, fun S w ms args p r hs hp hS hG ha => by
    obtain ⟨p', r', h1, h2, h3⟩ := h ms p r hs hp
    exact (c.ok S w ms args p' r' h1 h2 hS hG ha).mono fun e w' ⟨q1, q2⟩ => ⟨q1, h3 _ _ _ q2⟩⟩

/-- Division by a number that is not 0. -/
def s_divmod1 : FSpec
  | [.big a n, .big b m] => some (some (n ≤ 900000 ∧ m ≤ 900000 ∧ b ≠ 0), .ret (.tup [.big (a / b) n, .big (a % b) m, .int .i64 0]))
  | _ => none
theorem w_divmod1 : ∀ ms p r, s_divmod1 ms = some (p, r) → p.holds → ∃ p' r', c_divmod.spec ms = some (p', r') ∧ p'.holds ∧ ∀ ct w e, r'.holds ct w e → r.holds ct w e := by
  intro ms p r h hp
  unfold s_divmod1 at h
  split at h
  · rename_i a n b m
    simp only [Option.some.injEq, Prod.mk.injEq] at h
    obtain ⟨rfl, rfl⟩ := h
    obtain ⟨h1, h2, h3⟩ : n ≤ 900000 ∧ m ≤ 900000 ∧ b ≠ 0 := hp
    refine ⟨_, _, rfl, ⟨h1, h2⟩, fun ct w e he => ?_⟩
    rw [show decide (b = 0) = false from decide_eq_false h3] at he
    exact he
  · simp at h
def c_divmod1 : Ctr Tryd.prog := c_divmod.weaken s_divmod1 w_divmod1

def s_imod : FSpec
  | [.big a n, .big b m] => some (some (n ≤ 900000 ∧ m ≤ 900000 ∧ b ≠ 0), .ret (.big (a % b) m))
  | _ => none
theorem vc_imod (a b : Int) (n m : Nat) : ((n ≤ (900000 : Nat) ∧ m ≤ (900000 : Nat)) ∧ bif decide (b = (0 : Int)) then (0 : Int) = a % b ∧ ((0 : Nat) ≤ m ∨ Int.natAbs (0 : Int) < (2 : Nat) ^ m) else a % b = a % b ∧ (m ≤ m ∨ Int.natAbs (a % b) < (2 : Nat) ^ m)) = evFn (env [c_divmod] noAnn) Tryd.f72 [.big a n, .big b m] (MRes.sat (.ret (.big (a % b) m))) := by kernel_rfl

theorem p_imod : Good Tryd.f72 s_imod := by
  intro ms p r h hp
  unfold s_imod at h
  split at h
  · rename_i a n b m
    simp only [Option.some.injEq, Prod.mk.injEq] at h
    obtain ⟨rfl, rfl⟩ := h
    obtain ⟨hn, hm, hb⟩ : n ≤ 900000 ∧ m ≤ 900000 ∧ b ≠ 0 := hp
    refine ⟨env [c_divmod] noAnn, ?_⟩
    rw [← vc_imod a b n m, show decide (b = 0) = false from decide_eq_false hb]
    exact ⟨⟨hn, hm⟩, rfl, .inl (Nat.le_refl _)⟩
  · simp at h
def c_imod : Ctr Tryd.prog := ⟨72, s_imod, fun args w => Tryd.call72 args w, fn_ok mix Tryd.func72 s_imod p_imod⟩

/-! ### integer.Gcd -/
structure GcS where
  x : Int
  y : Int
structure GcI (a b : Int) (N : Nat) (s : GcS) : Prop where
  g : Int.gcd s.x s.y = Int.gcd a b
  hx : s.x.natAbs < 2 ^ N
  hy : s.y.natAbs < 2 ^ N
def a_igcd (a b : Int) (N : Nat) : Nat → MS → Option LoopAnn
  | 1, _ => some (.inv GcS (GcI a b N) (fun s => ⟨15, [(2, .bp 0 0), (3, .bp 1 0), (4, .bp 2 0)], [⟨false, .one (.big s.x N)⟩, ⟨false, .one (.big s.y N)⟩, ⟨false, .one (.big 0 0)⟩], 0⟩) (fun s => s.y.natAbs))
  | _, _ => none
def s_igcd : FSpec
  | [.big a n, .big b m] => some (some (n ≤ 900000 ∧ m ≤ 900000), .ret (.big (Int.gcd a b) (max n m)))
  | _ => none
theorem vc_igcd (a b : Int) (n m : Nat) : ((∃ i, GcI a b (max n m) i ∧ ((0 : Nat) = (0 : Nat) ∧ (0 : Nat) = (0 : Nat) ∧ (0 : Nat) = (0 : Nat) ∧ True) ∧ (a = GcS.x i ∧ (n ≤ max n m ∨ Int.natAbs a < (2 : Nat) ^ max n m)) ∧ (b = GcS.y i ∧ (m ≤ max n m ∨ Int.natAbs b < (2 : Nat) ^ max n m)) ∧ ((0 : Int) = (0 : Int) ∧ ((0 : Nat) ≤ (0 : Nat) ∨ Int.natAbs (0 : Int) < (2 : Nat) ^ (0 : Nat))) ∧ True) ∧ ∀ (i : GcS), GcI a b (max n m) i → bif decide ((↑(List.length (limbs (Int.natAbs (GcS.y i)))) : Int) > (0 : Int)) then (max n m ≤ (900000 : Nat) ∧ max n m ≤ (900000 : Nat) ∧ (GcS.y i = (0 : Int) → False)) ∧ ∃ j, GcI a b (max n m) j ∧ (((0 : Nat) = (0 : Nat) ∧ (0 : Nat) = (0 : Nat) ∧ (0 : Nat) = (0 : Nat) ∧ True) ∧ (GcS.y i = GcS.x j ∧ (max n m ≤ max n m ∨ Int.natAbs (GcS.y i) < (2 : Nat) ^ max n m)) ∧ (GcS.x i % GcS.y i = GcS.y j ∧ (max n m ≤ max n m ∨ Int.natAbs (GcS.x i % GcS.y i) < (2 : Nat) ^ max n m)) ∧ ((0 : Int) = (0 : Int) ∧ ((0 : Nat) ≤ (0 : Nat) ∨ Int.natAbs (0 : Int) < (2 : Nat) ^ (0 : Nat))) ∧ True) ∧ Int.natAbs (GcS.y j) < Int.natAbs (GcS.y i) else max n m ≤ (1000000 : Nat) ∧ (↑(Int.natAbs (GcS.x i)) : Int) = (↑(Int.gcd a b) : Int) ∧ (max n m ≤ max n m ∨ Int.natAbs (↑(Int.natAbs (GcS.x i)) : Int) < (2 : Nat) ^ max n m)) = evFn (env [c_imod, c_abs] (a_igcd a b (max n m))) Tryd.f37 [.big a n, .big b m] (MRes.sat (.ret (.big (Int.gcd a b) (max n m)))) := by kernel_rfl

theorem len_pos_iff (z : Int) : decide ((((limbs z.natAbs).length : Nat) : Int) > 0) = decide (z ≠ 0) := by
  by_cases h : z = 0
  · subst h; rw [show (0 : Int).natAbs = 0 from rfl, limbs_zero]; rfl
  · have : (limbs z.natAbs).length ≠ 0 := fun e => h (by have := limbs_eq_nil.1 (List.eq_nil_of_length_eq_zero e); omega)
    rw [decide_eq_true (by omega), decide_eq_true h]
theorem len_zero_iff (z : Int) : ((((limbs z.natAbs).length : Nat) : Int) == 0) = decide (z = 0) := by
  by_cases h : z = 0
  · subst h; rw [show (0 : Int).natAbs = 0 from rfl, limbs_zero]; rfl
  · have : (limbs z.natAbs).length ≠ 0 := fun e => h (by have := limbs_eq_nil.1 (List.eq_nil_of_length_eq_zero e); omega)
    rw [decide_eq_false h]
    simpa using this

theorem gcd_step (x y : Int) : Int.gcd y (x % y) = Int.gcd x y := by
  rw [Int.emod_def, Int.gcd_sub_mul_left_right, Int.gcd_comm]

theorem gcd_lt {a b : Int} {n m : Nat} (ha : a.natAbs < 2 ^ n) (hb : b.natAbs < 2 ^ m) : (Int.gcd a b) < 2 ^ max n m := by
  have h1 : 2 ^ n ≤ 2 ^ max n m := Nat.pow_le_pow_right (by omega) (by omega)
  have h2 : 2 ^ m ≤ 2 ^ max n m := Nat.pow_le_pow_right (by omega) (by omega)
  by_cases h : a = 0
  · subst h; rw [Int.gcd_zero_left]; omega
  · have := Nat.le_of_dvd (by omega) (Int.gcd_dvd_natAbs_left a b)
    omega

theorem p_igcd : GoodF Tryd.f37 s_igcd := by
  intro ms p r h hp hf
  unfold s_igcd at h
  split at h
  · rename_i a n b m
    simp only [Option.some.injEq, Prod.mk.injEq] at h
    obtain ⟨rfl, rfl⟩ := h
    obtain ⟨hn, hm⟩ : n ≤ 900000 ∧ m ≤ 900000 := hp
    have ha : a.natAbs < 2 ^ n := hf.1
    have hb : b.natAbs < 2 ^ m := hf.2.1
    have h1 : 2 ^ n ≤ 2 ^ max n m := Nat.pow_le_pow_right (by omega) (by omega)
    have h2 : 2 ^ m ≤ 2 ^ max n m := Nat.pow_le_pow_right (by omega) (by omega)
    have hM : max n m ≤ 900000 := by omega
    refine ⟨env [c_imod, c_abs] (a_igcd a b (max n m)), ?_⟩
    rw [← vc_igcd a b n m]
    refine ⟨⟨⟨a, b⟩, ⟨rfl, by show a.natAbs < _; omega, by show b.natAbs < _; omega⟩, (by and_intros <;> first | exact True.intro | rfl | omega), ⟨rfl, .inl (by omega)⟩, ⟨rfl, .inl (by omega)⟩, ⟨rfl, .inl (Nat.le_refl _)⟩, True.intro⟩, ?_⟩
    rintro ⟨x, y⟩ ⟨hg, hx, hy⟩
    rw [len_pos_iff, Bool.cond_decide]
    split
    · rename_i hne
      have hne : y ≠ 0 := hne
      have hl := natAbs_emod (a := x) hne
      have hy : y.natAbs < 2 ^ max n m := hy
      refine ⟨⟨hM, hM, hne⟩, ⟨y, x % y⟩, ⟨by rw [← hg]; exact gcd_step x y, hy, by show (x % y).natAbs < _; omega⟩, ⟨(by and_intros <;> first | exact True.intro | rfl | omega), ⟨rfl, .inl (Nat.le_refl _)⟩, ⟨rfl, .inl (Nat.le_refl _)⟩, ⟨rfl, .inl (Nat.le_refl _)⟩, True.intro⟩, hl⟩
    · rename_i hne
      have hz : y = 0 := by
        by_cases e : y = 0
        · exact e
        · exact absurd e hne
      subst hz
      refine ⟨by omega, ?_, .inl (Nat.le_refl _)⟩
      have hg : Int.gcd x 0 = Int.gcd a b := hg
      rw [Int.gcd_zero_right] at hg
      show (x.natAbs : Int) = _
      rw [hg]
  · simp at h
def c_igcd : Ctr Tryd.prog := ⟨37, s_igcd, fun args w => Tryd.call37 args w, fn_ok_facts mix Tryd.func37 s_igcd p_igcd⟩

/-! ### integer.Bezout -/
/-- The least factor that is not negative. -/
structure BzU (a b u : Int) : Prop where
  u0 : 0 ≤ u
  u1 : u < ((b / (Int.gcd a b : Int)).natAbs : Int)
  dv : b ∣ (Int.gcd a b : Int) - u * a

open Classical in
noncomputable def bzu (a b : Int) : Int := if h : ∃ u, BzU a b u then Classical.choose h else 0

theorem dvd_of_coprime {k n m : Int} (h : Int.gcd k n = 1) (hd : k ∣ n * m) : k ∣ m := by
  have := Int.dvd_gcd_mul_iff_dvd_mul.2 hd
  rw [h] at this
  simpa using this

theorem BzU.unique {a b u v : Int} (hb : b ≠ 0) (hu : BzU a b u) (hv : BzU a b v) : u = v := by
  have hg0 : (Int.gcd a b : Int) ≠ 0 := by
    intro e
    have : Int.gcd a b = 0 := by omega
    exact hb (Int.gcd_eq_zero_iff.1 this).2
  obtain ⟨a', ha'⟩ := Int.gcd_dvd_left a b
  obtain ⟨b', hb'⟩ := Int.gcd_dvd_right a b
  generalize hg : (Int.gcd a b : Int) = g at *
  have hq : b / g = b' := by rw [hb', Int.mul_ediv_cancel_left _ hg0]
  have h1 : b ∣ (v - u) * a := by
    have := Int.dvd_sub hu.dv hv.dv
    rw [hg] at this
    have e : g - u * a - (g - v * a) = (v - u) * a := by rw [Int.sub_mul]; omega
    rwa [e] at this
  have hcop : Int.gcd b' a' = 1 := by
    have : Int.gcd (g * a') (g * b') = g.natAbs * Int.gcd a' b' := Int.gcd_mul_left ..
    rw [← ha', ← hb'] at this
    have hgn : Int.gcd a b = g.natAbs := by omega
    rw [hgn] at this
    rw [Int.gcd_comm]
    exact Nat.eq_of_mul_eq_mul_left (show 0 < g.natAbs by omega) (by omega)
  have h2 : b' ∣ a' * (v - u) := by
    obtain ⟨k, hk⟩ := h1
    refine ⟨k, Int.eq_of_mul_eq_mul_left hg0 ?_⟩
    rw [← Int.mul_assoc, ← Int.mul_assoc, ← ha', ← hb', Int.mul_comm a]; exact hk
  have h3 := dvd_of_coprime hcop h2
  have l1 := hu.u0
  have l2 := hu.u1
  have l3 := hv.u0
  have l4 := hv.u1
  rw [hg, hq] at l2 l4
  obtain ⟨k, hk⟩ := h3
  have hk0 : k = 0 := by
    rcases Int.lt_trichotomy k 0 with q | q | q
    · exfalso
      have := Int.natAbs_mul b' k
      have h5 : b'.natAbs * 1 ≤ b'.natAbs * k.natAbs := Nat.mul_le_mul_left _ (by omega)
      rw [← hk] at this
      omega
    · exact q
    · exfalso
      have := Int.natAbs_mul b' k
      have h5 : b'.natAbs * 1 ≤ b'.natAbs * k.natAbs := Nat.mul_le_mul_left _ (by omega)
      rw [← hk] at this
      omega
  rw [hk0, Int.mul_zero] at hk
  omega

theorem BzU.eq {a b u : Int} (hb : b ≠ 0) (hu : BzU a b u) : u = bzu a b := by
  have h : ∃ u, BzU a b u := ⟨u, hu⟩
  unfold bzu
  rw [dif_pos h]
  exact hu.unique hb (Classical.choose_spec h)

/-- The state of the extended algorithm. -/
structure BzS where
  g : Int
  x : Int
  u : Int
  v : Int
structure BzI (a b : Int) (s : BzS) : Prop where
  g0 : 0 < s.g ∧ s.g ≤ b.natAbs
  x0 : 0 ≤ s.x ∧ s.x ≤ b.natAbs
  gc : Int.gcd s.g s.x = Int.gcd a b
  du : b ∣ s.g - s.u * a
  dv : b ∣ s.x - s.v * a
  sg : (s.v * s.g - s.u * s.x = b.natAbs ∧ 0 ≤ s.v ∧ s.u ≤ 0) ∨ (s.u * s.x - s.v * s.g = b.natAbs ∧ s.v ≤ 0 ∧ 0 ≤ s.u)
  bu : s.u.natAbs ≤ b.natAbs
  bv : s.v.natAbs ≤ b.natAbs

theorem BzI.init {a b : Int} (hb : b ≠ 0) : BzI a b ⟨b.natAbs, a % b, 0, 1⟩ := by
  have h1 := natAbs_emod (a := a) hb
  have h2 := Int.emod_nonneg a hb
  refine ⟨by show (0 : Int) < b.natAbs ∧ (b.natAbs : Int) ≤ b.natAbs; omega, by show 0 ≤ a % b ∧ a % b ≤ _; omega, ?_, ?_, ?_, .inl ⟨?_, by show (0 : Int) ≤ 1; omega, by show (0 : Int) ≤ 0; omega⟩, by show (0 : Int).natAbs ≤ _; omega, by show (1 : Int).natAbs ≤ _; omega⟩
  · show Int.gcd (b.natAbs : Int) (a % b) = _
    have : Int.gcd (b.natAbs : Int) (a % b) = Int.gcd b (a % b) := by simp [Int.gcd]
    rw [this]; exact gcd_step a b
  · show b ∣ (b.natAbs : Int) - 0 * a
    rw [Int.zero_mul, Int.sub_zero]; exact Int.dvd_natAbs.2 (Int.dvd_refl b)
  · show b ∣ a % b - 1 * a
    rw [Int.one_mul, Int.emod_def]
    exact ⟨-(a / b), by rw [Int.mul_neg]; omega⟩
  · show 1 * (b.natAbs : Int) - 0 * _ = _
    omega

theorem BzI.step {a b : Int} {s : BzS} (h : BzI a b s) (hx : s.x ≠ 0) : BzI a b ⟨s.x, s.g % s.x, s.v, s.u - s.g / s.x * s.v⟩ := by
  have hx0 := h.x0
  have hg0 := h.g0
  have hm0 := Int.emod_nonneg s.g hx
  have hm1 := Int.emod_lt_of_pos s.g (show 0 < s.x by omega)
  have hq := Int.mul_ediv_add_emod s.g s.x
  have hq0 : 0 ≤ s.g / s.x := Int.ediv_nonneg (by omega) (by omega)
  have hsg := h.sg
  have hdu := h.du
  have hdv := h.dv
  have gs : Int.gcd s.x (s.g % s.x) = Int.gcd a b := by rw [← h.gc]; exact gcd_step s.g s.x
  have em : s.g % s.x = s.g - s.x * (s.g / s.x) := Int.emod_def ..
  obtain ⟨g, x, u, v⟩ := s
  simp only at *
  generalize g / x = q at *
  generalize g % x = r at *
  subst em
  have hsg2 : ((u - q * v) * x - v * (g - x * q) = b.natAbs ∧ 0 ≤ u - q * v ∧ v ≤ 0) ∨ (v * (g - x * q) - (u - q * v) * x = b.natAbs ∧ u - q * v ≤ 0 ∧ 0 ≤ v) := by
    rcases hsg with ⟨h1, h2, h3⟩ | ⟨h1, h2, h3⟩
    · refine .inr ⟨by rw [← h1]; grind, ?_, h2⟩
      have := Int.mul_nonneg hq0 h2
      omega
    · refine .inl ⟨by rw [← h1]; grind, ?_, h2⟩
      have := Int.mul_nonpos_of_nonneg_of_nonpos hq0 h2
      omega
  have hbv : (u - q * v).natAbs ≤ b.natAbs := by
    rcases hsg2 with ⟨h1, h2, h3⟩ | ⟨h1, h2, h3⟩
    · have k1 := Int.mul_nonpos_of_nonpos_of_nonneg h3 hm0
      have k2 : (u - q * v) * 1 ≤ (u - q * v) * x := Int.mul_le_mul_of_nonneg_left (by omega) h2
      omega
    · have k1 := Int.mul_nonneg h3 hm0
      have k2 : (u - q * v) * x ≤ (u - q * v) * 1 := Int.mul_le_mul_of_nonpos_left h2 (by omega)
      omega
  refine ⟨by show 0 < x ∧ x ≤ _; omega, by show 0 ≤ g - x * q ∧ g - x * q ≤ _; omega, gs, hdv, ?_, hsg2, h.bv, hbv⟩
  · show b ∣ g - x * q - (u - q * v) * a
    have e : g - x * q - (u - q * v) * a = (g - u * a) - q * (x - v * a) := by grind
    rw [e]
    exact Int.dvd_sub hdu (Int.dvd_mul_of_dvd_right hdv)

theorem BzI.fin {a b : Int} (hb : b ≠ 0) {s : BzS} (h : BzI a b s) (hx : s.x = 0) : s.g = Int.gcd a b ∧ b / s.g ≠ 0 ∧ s.u % (b / s.g) = bzu a b ∧ (b / s.g).natAbs ≤ b.natAbs ∧ (bzu a b).natAbs < (b / s.g).natAbs := by
  have hg0 := h.g0
  have hg : s.g = Int.gcd a b := by
    have := h.gc
    rw [hx, Int.gcd_zero_right] at this
    omega
  obtain ⟨a', ha'⟩ := Int.gcd_dvd_left a b
  obtain ⟨b', hb'⟩ := Int.gcd_dvd_right a b
  rw [← hg] at ha' hb'
  have hq : b / s.g = b' := by rw [hb', Int.mul_ediv_cancel_left _ (by omega)]
  have hb0 : b' ≠ 0 := by intro e; rw [e, Int.mul_zero] at hb'; exact hb hb'
  have hm0 := Int.emod_nonneg s.u hb0
  have hm1 := Int.emod_lt s.u hb0
  have e : s.u % b' = bzu a b := by
    refine BzU.eq hb ⟨hm0, by rw [← hg, hq]; omega, ?_⟩
    rw [← hg, Int.emod_def]
    have e : s.g - (s.u - b' * (s.u / b')) * a = (s.g - s.u * a) + b * (a' * (s.u / b')) := by
      have : b * (a' * (s.u / b')) = b' * (s.u / b') * a := by
        rw [hb']
        conv => rhs; rw [ha']
        generalize s.u / b' = k
        grind
      rw [this, Int.sub_mul]; omega
    rw [e]
    exact Int.dvd_add h.du (Int.dvd_mul_right ..)
  rw [hq]
  refine ⟨hg, hb0, e, ?_, by rw [← e]; omega⟩
  have : b.natAbs = s.g.natAbs * b'.natAbs := by
    conv => lhs; rw [hb']
    exact Int.natAbs_mul ..
  have h5 : 1 * b'.natAbs ≤ s.g.natAbs * b'.natAbs := Nat.mul_le_mul_right _ (by omega)
  omega

def a_ibez (a b : Int) (n m : Nat) : Nat → MS → Option LoopAnn
  | 6, _ => some (.inv BzS (BzI a b) (fun s => ⟨79, [(2, .bp 0 0), (3, .bp 1 0), (4, .bp 2 0), (5, .bp 3 0), (6, .bp 4 0), (7, .bp 5 0), (8, .bp 6 0), (9, .bp 7 0), (10, .bp 8 0)],
      [⟨false, .one (.big a n)⟩, ⟨false, .one (.big b m)⟩, ⟨false, .one (.big 0 0)⟩, ⟨false, .one (.big 0 0)⟩, ⟨false, .one (.big 0 0)⟩, ⟨false, .one (.big s.g m)⟩, ⟨false, .one (.big s.x m)⟩, ⟨false, .one (.big s.u m)⟩, ⟨false, .one (.big s.v m)⟩], 0⟩) (fun s => s.x.natAbs))
  | _, _ => none
noncomputable def s_ibez : FSpec
  | [.big a n, .big b m] => some (some (n ≤ 300000 ∧ m ≤ 300000), .br (decide (b = 0)) (.ret (.tup [.big a.natAbs n, .big (sgn a) 64, .big 0 0])) (.ret (.tup [.big (Int.gcd a b) m, .big (bzu a b) m, .big (((Int.gcd a b : Int) - bzu a b * a) / b) (max m (m + n) + 1)])))
  | _ => none
theorem vc_ibez (a b : Int) (n m : Nat) : (bif (↑(List.length (limbs (Int.natAbs b))) : Int) == (0 : Int) then n ≤ (1000000 : Nat) ∧ ((-9223372036854775808 : Int) ≤ sgn a ∧ sgn a ≤ (9223372036854775807 : Int)) ∧ bif decide (b = (0 : Int)) then ((↑(Int.natAbs a) : Int) = (↑(Int.natAbs a) : Int) ∧ (n ≤ n ∨ Int.natAbs (↑(Int.natAbs a) : Int) < (2 : Nat) ^ n)) ∧ (sgn a = sgn a ∧ ((64 : Nat) ≤ (64 : Nat) ∨ Int.natAbs (sgn a) < (2 : Nat) ^ (64 : Nat))) ∧ ((0 : Int) = (0 : Int) ∧ ((0 : Nat) ≤ (0 : Nat) ∨ Int.natAbs (0 : Int) < (2 : Nat) ^ (0 : Nat))) ∧ True else ((↑(Int.natAbs a) : Int) = (↑(Int.gcd a b) : Int) ∧ (n ≤ m ∨ Int.natAbs (↑(Int.natAbs a) : Int) < (2 : Nat) ^ m)) ∧ (sgn a = bzu a b ∧ ((64 : Nat) ≤ m ∨ Int.natAbs (sgn a) < (2 : Nat) ^ m)) ∧ ((0 : Int) = ((↑(Int.gcd a b) : Int) - bzu a b * a) / b ∧ ((0 : Nat) ≤ max m (m + n) + (1 : Nat) ∨ Int.natAbs (0 : Int) < (2 : Nat) ^ (max m (m + n) + (1 : Nat)))) ∧ True else m ≤ (1000000 : Nat) ∧ (n ≤ (900000 : Nat) ∧ m ≤ (900000 : Nat) ∧ (b = (0 : Int) → False)) ∧ ((-9223372036854775808 : Int) ≤ (1 : Int) ∧ (1 : Int) ≤ (9223372036854775807 : Int)) ∧ (∃ i, BzI a b i ∧ ((0 : Nat) = (0 : Nat) ∧ (0 : Nat) = (0 : Nat) ∧ (0 : Nat) = (0 : Nat) ∧ (0 : Nat) = (0 : Nat) ∧ (0 : Nat) = (0 : Nat) ∧ (0 : Nat) = (0 : Nat) ∧ (0 : Nat) = (0 : Nat) ∧ (0 : Nat) = (0 : Nat) ∧ (0 : Nat) = (0 : Nat) ∧ True) ∧ (a = a ∧ (n ≤ n ∨ Int.natAbs a < (2 : Nat) ^ n)) ∧ (b = b ∧ (m ≤ m ∨ Int.natAbs b < (2 : Nat) ^ m)) ∧ ((0 : Int) = (0 : Int) ∧ ((0 : Nat) ≤ (0 : Nat) ∨ Int.natAbs (0 : Int) < (2 : Nat) ^ (0 : Nat))) ∧ ((0 : Int) = (0 : Int) ∧ ((0 : Nat) ≤ (0 : Nat) ∨ Int.natAbs (0 : Int) < (2 : Nat) ^ (0 : Nat))) ∧ ((0 : Int) = (0 : Int) ∧ ((0 : Nat) ≤ (0 : Nat) ∨ Int.natAbs (0 : Int) < (2 : Nat) ^ (0 : Nat))) ∧ ((↑(Int.natAbs b) : Int) = BzS.g i ∧ (m ≤ m ∨ Int.natAbs (↑(Int.natAbs b) : Int) < (2 : Nat) ^ m)) ∧ (a % b = BzS.x i ∧ (m ≤ m ∨ Int.natAbs (a % b) < (2 : Nat) ^ m)) ∧ ((0 : Int) = BzS.u i ∧ ((0 : Nat) ≤ m ∨ Int.natAbs (0 : Int) < (2 : Nat) ^ m)) ∧ ((1 : Int) = BzS.v i ∧ ((64 : Nat) ≤ m ∨ Int.natAbs (1 : Int) < (2 : Nat) ^ m)) ∧ True) ∧ ∀ (i : BzS), BzI a b i → bif decide ((↑(List.length (limbs (Int.natAbs (BzS.x i)))) : Int) > (0 : Int)) then (m ≤ (900000 : Nat) ∧ m ≤ (900000 : Nat) ∧ (BzS.x i = (0 : Int) → False)) ∧ (m ≤ (1000000 : Nat) ∧ m ≤ (1000000 : Nat)) ∧ (m ≤ (1000000 : Nat) ∧ m + m ≤ (1000000 : Nat)) ∧ ∃ j, BzI a b j ∧ (((0 : Nat) = (0 : Nat) ∧ (0 : Nat) = (0 : Nat) ∧ (0 : Nat) = (0 : Nat) ∧ (0 : Nat) = (0 : Nat) ∧ (0 : Nat) = (0 : Nat) ∧ (0 : Nat) = (0 : Nat) ∧ (0 : Nat) = (0 : Nat) ∧ (0 : Nat) = (0 : Nat) ∧ (0 : Nat) = (0 : Nat) ∧ True) ∧ (a = a ∧ (n ≤ n ∨ Int.natAbs a < (2 : Nat) ^ n)) ∧ (b = b ∧ (m ≤ m ∨ Int.natAbs b < (2 : Nat) ^ m)) ∧ ((0 : Int) = (0 : Int) ∧ ((0 : Nat) ≤ (0 : Nat) ∨ Int.natAbs (0 : Int) < (2 : Nat) ^ (0 : Nat))) ∧ ((0 : Int) = (0 : Int) ∧ ((0 : Nat) ≤ (0 : Nat) ∨ Int.natAbs (0 : Int) < (2 : Nat) ^ (0 : Nat))) ∧ ((0 : Int) = (0 : Int) ∧ ((0 : Nat) ≤ (0 : Nat) ∨ Int.natAbs (0 : Int) < (2 : Nat) ^ (0 : Nat))) ∧ (BzS.x i = BzS.g j ∧ (m ≤ m ∨ Int.natAbs (BzS.x i) < (2 : Nat) ^ m)) ∧ (BzS.g i % BzS.x i = BzS.x j ∧ (m ≤ m ∨ Int.natAbs (BzS.g i % BzS.x i) < (2 : Nat) ^ m)) ∧ (BzS.v i = BzS.u j ∧ (m ≤ m ∨ Int.natAbs (BzS.v i) < (2 : Nat) ^ m)) ∧ (BzS.u i - BzS.g i / BzS.x i * BzS.v i = BzS.v j ∧ (max m (m + m) + (1 : Nat) ≤ m ∨ Int.natAbs (BzS.u i - BzS.g i / BzS.x i * BzS.v i) < (2 : Nat) ^ m)) ∧ True) ∧ Int.natAbs (BzS.x j) < Int.natAbs (BzS.x i) else (m ≤ (900000 : Nat) ∧ m ≤ (900000 : Nat) ∧ (BzS.g i = (0 : Int) → False)) ∧ (m ≤ (900000 : Nat) ∧ m ≤ (900000 : Nat) ∧ (b / BzS.g i = (0 : Int) → False)) ∧ (m ≤ (1000000 : Nat) ∧ n ≤ (1000000 : Nat)) ∧ (m ≤ (1000000 : Nat) ∧ m + n ≤ (1000000 : Nat)) ∧ (max m (m + n) + (1 : Nat) ≤ (900000 : Nat) ∧ m ≤ (900000 : Nat) ∧ (b = (0 : Int) → False)) ∧ bif decide (b = (0 : Int)) then (BzS.g i = (↑(Int.natAbs a) : Int) ∧ (m ≤ n ∨ Int.natAbs (BzS.g i) < (2 : Nat) ^ n)) ∧ (BzS.u i % (b / BzS.g i) = sgn a ∧ (m ≤ (64 : Nat) ∨ Int.natAbs (BzS.u i % (b / BzS.g i)) < (2 : Nat) ^ (64 : Nat))) ∧ ((BzS.g i - BzS.u i % (b / BzS.g i) * a) / b = (0 : Int) ∧ (max m (m + n) + (1 : Nat) ≤ (0 : Nat) ∨ Int.natAbs ((BzS.g i - BzS.u i % (b / BzS.g i) * a) / b) < (2 : Nat) ^ (0 : Nat))) ∧ True else (BzS.g i = (↑(Int.gcd a b) : Int) ∧ (m ≤ m ∨ Int.natAbs (BzS.g i) < (2 : Nat) ^ m)) ∧ (BzS.u i % (b / BzS.g i) = bzu a b ∧ (m ≤ m ∨ Int.natAbs (BzS.u i % (b / BzS.g i)) < (2 : Nat) ^ m)) ∧ ((BzS.g i - BzS.u i % (b / BzS.g i) * a) / b = ((↑(Int.gcd a b) : Int) - bzu a b * a) / b ∧ (max m (m + n) + (1 : Nat) ≤ max m (m + n) + (1 : Nat) ∨ Int.natAbs ((BzS.g i - BzS.u i % (b / BzS.g i) * a) / b) < (2 : Nat) ^ (max m (m + n) + (1 : Nat)))) ∧ True) = evFn (env [c_divmod1, c_imod, c_abs, c_sign, c_iof, c_isub, c_mul] (a_ibez a b n m)) Tryd.f73 [.big a n, .big b m] (MRes.sat (.br (decide (b = 0)) (.ret (.tup [.big a.natAbs n, .big (sgn a) 64, .big 0 0])) (.ret (.tup [.big (Int.gcd a b) m, .big (bzu a b) m, .big (((Int.gcd a b : Int) - bzu a b * a) / b) (max m (m + n) + 1)])))) := by kernel_rfl

theorem p_ibez : GoodF Tryd.f73 s_ibez := by
  intro ms p r h hp hf
  unfold s_ibez at h
  split at h
  · rename_i a n b m
    simp only [Option.some.injEq, Prod.mk.injEq] at h
    obtain ⟨rfl, rfl⟩ := h
    obtain ⟨hn, hm⟩ : n ≤ 300000 ∧ m ≤ 300000 := hp
    have ha : a.natAbs < 2 ^ n := hf.1
    have hb : b.natAbs < 2 ^ m := hf.2.1
    refine ⟨env [c_divmod1, c_imod, c_abs, c_sign, c_iof, c_isub, c_mul] (a_ibez a b n m), ?_⟩
    rw [← vc_ibez a b n m, len_zero_iff]
    have hs : -1 ≤ sgn a ∧ sgn a ≤ 1 := by unfold sgn; (repeat' split) <;> omega
    by_cases hz : b = 0
    · rw [show decide (b = 0) = true from decide_eq_true hz, cond_true, cond_true]
      exact ⟨by omega, by omega, ⟨rfl, .inl (Nat.le_refl _)⟩, ⟨rfl, .inl (Nat.le_refl _)⟩, ⟨rfl, .inl (Nat.le_refl _)⟩, True.intro⟩
    · rw [show decide (b = 0) = false from decide_eq_false hz, cond_false]
      have hr := natAbs_emod (a := a) hz
      refine ⟨by omega, ⟨by omega, by omega, hz⟩, by omega, ⟨_, BzI.init hz, (by and_intros <;> first | exact True.intro | rfl | omega), ⟨rfl, .inl (Nat.le_refl _)⟩, ⟨rfl, .inl (Nat.le_refl _)⟩, ⟨rfl, .inl (Nat.le_refl _)⟩, ⟨rfl, .inl (Nat.le_refl _)⟩, ⟨rfl, .inl (Nat.le_refl _)⟩, ⟨rfl, .inl (Nat.le_refl _)⟩, ⟨rfl, .inl (Nat.le_refl _)⟩, ⟨rfl, .inl (Nat.zero_le _)⟩, ⟨rfl, .inr (by show (1 : Nat) < _; omega)⟩, True.intro⟩, ?_⟩
      rintro ⟨g, x, u, v⟩ hI
      rw [len_pos_iff, Bool.cond_decide]
      split
      · rename_i hx
        have hx : x ≠ 0 := hx
        have hst := hI.step hx
        have hb1 : (u - g / x * v).natAbs ≤ b.natAbs := hst.bv
        have hl := natAbs_emod (a := g) hx
        exact ⟨⟨by omega, by omega, hx⟩, ⟨by omega, by omega⟩, ⟨by omega, by omega⟩, _, hst, ⟨(by and_intros <;> first | exact True.intro | rfl | omega), ⟨rfl, .inl (Nat.le_refl _)⟩, ⟨rfl, .inl (Nat.le_refl _)⟩, ⟨rfl, .inl (Nat.le_refl _)⟩, ⟨rfl, .inl (Nat.le_refl _)⟩, ⟨rfl, .inl (Nat.le_refl _)⟩, ⟨rfl, .inl (Nat.le_refl _)⟩, ⟨rfl, .inl (Nat.le_refl _)⟩, ⟨rfl, .inl (Nat.le_refl _)⟩, ⟨rfl, .inr (by show (u - g / x * v).natAbs < 2 ^ m; omega)⟩, True.intro⟩, hl⟩
      · rename_i hx
        have hx : x = 0 := by
          by_cases e : x = 0
          · exact e
          · exact absurd e hx
        obtain ⟨k1, k2, k3, k4, k5⟩ := hI.fin hz hx
        have hg0 : 0 < g ∧ g ≤ b.natAbs := hI.g0
        have k1 : g = (Int.gcd a b : Int) := k1
        have k2 : b / g ≠ 0 := k2
        have k3 : u % (b / g) = bzu a b := k3
        have k4 : (b / g).natAbs ≤ b.natAbs := k4
        simp only []
        rw [k3]
        refine ⟨⟨by omega, by omega, by omega⟩, ⟨by omega, by omega, k2⟩, ⟨by omega, by omega⟩, ⟨by omega, by omega⟩, ⟨by omega, by omega, hz⟩, ?_⟩
        rw [cond_false]
        exact ⟨⟨k1, .inl (Nat.le_refl _)⟩, ⟨rfl, .inl (Nat.le_refl _)⟩, ⟨by rw [k1], .inl (by omega)⟩, True.intro⟩
  · simp at h
noncomputable def c_ibez : Ctr Tryd.prog := ⟨73, s_ibez, fun args w => Tryd.call73 args w, fn_ok_facts mix Tryd.func73 s_ibez p_ibez⟩

end Go.Proofs.YtcikhffhikgahaaDoor

/-
  Contracts of functions: the reference of layer 1: words, comparisons, signs.
-/
namespace Go.Proofs.YtcikhffhikgahaaDoor
open Go Go.RowKit

/-! ### trim, made -/
def a_rtrim (l : List Int) : Nat → MS → Option LoopAnn
  | 1, _ => some (.inv Nat (fun k => k ≤ l.length ∧ wv (l.take k) = wv l) (fun k => ⟨21, [(0, .ws (l.take k))], [], 0⟩) id)
  | _, _ => none
theorem vc_rtrim (l : List Int) : ((∃ i, (i ≤ List.length l ∧ wv (List.take i l) = wv l) ∧ (l = List.take i l ∧ True) ∧ True) ∧ ∀ (i : Nat), i ≤ List.length l ∧ wv (List.take i l) = wv l → bif decide ((↑(List.length (List.take i l)) : Int) > (0 : Int)) then ((0 : Int) ≤ IntKind.wrap IntKind.i64 ((↑(List.length (List.take i l)) : Int) - (1 : Int)) ∧ IntKind.wrap IntKind.i64 ((↑(List.length (List.take i l)) : Int) - (1 : Int)) < (↑(List.length (List.take i l)) : Int)) ∧ bif List.getD (List.take i l) (Int.toNat (IntKind.wrap IntKind.i64 ((↑(List.length (List.take i l)) : Int) - (1 : Int)))) (0 : Int) == (0 : Int) then ((0 : Int) ≤ IntKind.wrap IntKind.i64 ((↑(List.length (List.take i l)) : Int) - (1 : Int)) ∧ IntKind.wrap IntKind.i64 ((↑(List.length (List.take i l)) : Int) - (1 : Int)) ≤ (↑(List.length (List.take i l)) : Int)) ∧ ∃ j, (j ≤ List.length l ∧ wv (List.take j l) = wv l) ∧ ((List.take (Int.toNat (IntKind.wrap IntKind.i64 ((↑(List.length (List.take i l)) : Int) - (1 : Int)))) (List.take i l) = List.take j l ∧ True) ∧ True) ∧ id j < id i else List.take i l = limbs (Int.toNat (wv l)) else List.take i l = limbs (Int.toNat (wv l))) = evFn (env [] (a_rtrim l)) Tryd.f76 [.ws l] (MRes.sat (.ret (.ws (limbs (wv l).toNat)))) := by kernel_rfl
theorem p_rtrim : Good Tryd.f76 s_trim := by
  intro ms p r h hp
  unfold s_trim at h
  split at h
  · rename_i l
    simp only [Option.some.injEq, Prod.mk.injEq] at h
    obtain ⟨rfl, rfl⟩ := h
    obtain ⟨hw, hlen⟩ : Wd l ∧ l.length ≤ 1099511627776 := hp
    refine ⟨_, cast (vc_rtrim l) ⟨⟨l.length, ⟨Nat.le_refl _, by rw [List.take_length]⟩, ⟨by rw [List.take_length], trivial⟩, trivial⟩, fun i ⟨hi, hv⟩ => ?_⟩⟩
    have hl : (l.take i).length = i := by simp [hi]
    have hlim : i = 0 ∨ (l.take i).getLast? ≠ some 0 → l.take i = limbs (wv l).toNat := by
      intro h
      rw [← hv]
      refine (limbs_wv (hw.take i) fun hne e => ?_).symm
      rcases h with h | h
      · subst h; exact hne rfl
      · exact h (by rw [List.getLast?_eq_some_getLast hne, e])
    rw [hl, Bool.cond_decide]
    split
    · rename_i h0
      have hi1 : i - 1 < l.length := by omega
      have e1 : IntKind.i64.wrap ((i : Int) - 1) = i - 1 := i64w (by omega) (by omega)
      have e2 : ((i : Int) - 1).toNat = i - 1 := by omega
      rw [e1, e2]
      have hs : l.take i = l.take (i - 1) ++ [l.getD (i - 1) 0] := by
        have := take_snoc hi1
        rwa [show i - 1 + 1 = i by omega] at this
      have hg : (l.take i).getD (i - 1) 0 = l.getD (i - 1) 0 := by
        simp [show i - 1 < i by omega]
      rw [hg]
      refine ⟨by omega, ?_⟩
      cases hz : (l.getD (i - 1) 0 == 0) with
      | true =>
        simp only [beq_iff_eq] at hz
        rw [hz] at hs
        refine ⟨by omega, i - 1, ⟨by omega, ?_⟩, ⟨⟨?_, trivial⟩, trivial⟩, by show i - 1 < i; omega⟩
        · rw [← hv, hs, wv_append]; simp [wv]
        · rw [List.take_take]; congr 1; omega
      | false =>
        rw [cond_false]
        refine hlim (.inr ?_)
        rw [hs]
        simpa using hz
    · exact hlim (.inl (by omega))
  · simp at h

def c_rtrim : Ctr Tryd.prog := ⟨76, s_trim, fun args w => Tryd.call76 args w, fn_ok mix Tryd.func76 s_trim p_rtrim⟩

theorem vc_rmade (b : Bool) (l : List Int) : (((∀ (x : Int), x ∈ l → (0 : Int) ≤ x ∧ x < (4294967296 : Int)) ∧ List.length l ≤ (1099511627776 : Nat)) ∧ bif (↑(List.length (limbs (Int.toNat (wv l)))) : Int) == (0 : Int) then (0 : Int) = sg b (wv l) ∧ ((0 : Nat) ≤ (32 : Nat) * List.length l ∨ Int.natAbs (0 : Int) < (2 : Nat) ^ ((32 : Nat) * List.length l)) else b = decide (sg b (wv l) < (0 : Int)) ∧ limbs (Int.toNat (wv l)) = limbs (Int.natAbs (sg b (wv l))) ∧ Int.natAbs (sg b (wv l)) < (2 : Nat) ^ ((32 : Nat) * List.length l)) = evFn (env [c_rtrim] noAnn) Tryd.f40 [.bool b, .ws l] (MRes.sat (.ret (.big (sg b (wv l)) (32 * l.length)))) := by kernel_rfl
theorem p_rmade : Good Tryd.f40 s_of := by
  intro ms p r h hp
  unfold s_of at h
  split at h
  · rename_i b l
    simp only [Option.some.injEq, Prod.mk.injEq] at h
    obtain ⟨rfl, rfl⟩ := h
    obtain ⟨hw, hl⟩ : Wd l ∧ l.length ≤ 1000000000 := hp
    refine ⟨env [c_rtrim] noAnn, ?_⟩
    rw [← vc_rmade b l]
    have h0 := wv_nonneg hw
    have hlen := limbs_len_le (n := (wv l).toNat) (k := l.length) (by
      have h1 := wv_lt hw
      have e : ((4294967296 ^ l.length : Nat) : Int) = (4294967296 : Int) ^ l.length := by simp [Int.natCast_pow]
      omega)
    refine ⟨⟨hw, by omega⟩, ?_⟩
    by_cases hz : wv l = 0
    · rw [hz]
      have : ((((limbs (0 : Int).toNat).length : Nat) : Int) == 0) = true := by rw [show (0 : Int).toNat = 0 from rfl, limbs_zero]; rfl
      rw [this, cond_true]
      exact ⟨by cases b <;> rfl, .inl (Nat.zero_le _)⟩
    · have hne : (limbs (wv l).toNat).length ≠ 0 := fun e => by
        have := limbs_eq_nil.1 (List.eq_nil_of_length_eq_zero e)
        omega
      have : ((((limbs (wv l).toNat).length : Nat) : Int) == 0) = false := by simpa using hne
      rw [this, cond_false, natAbs_sg]
      refine ⟨?_, by rw [show (wv l).natAbs = (wv l).toNat by omega], len_of_wv hw⟩
      cases b
      · exact (decide_eq_false (show ¬ wv l < 0 by omega)).symm
      · exact (decide_eq_true (show -wv l < 0 by omega)).symm
  · simp at h
def c_rmade : Ctr Tryd.prog := ⟨40, s_of, fun args w => Tryd.call40 args w, fn_ok mix Tryd.func40 s_of p_rmade⟩

/-! ### word -/
/-- A word of a list, 0 beyond its ends. -/
def wdg (l : List Int) (i : Int) : Int := if 0 ≤ i then l.getD i.toNat 0 else 0
theorem wdg_nat (l : List Int) (i : Nat) : wdg l (i : Int) = l.getD i 0 := by unfold wdg; rw [if_pos (by omega), Int.toNat_natCast]
theorem wdg_wd {l : List Int} (h : Wd l) (i : Int) : 0 ≤ wdg l i ∧ wdg l i < 4294967296 := by
  unfold wdg
  split
  · exact h.getD _
  · omega
def s_rword : FSpec
  | [.ws l, .int .i64 i] => some (some (Wd l), .ret (.int .u64 (wdg l i)))
  | _ => none
theorem vc_rword (l : List Int) (i : Int) : (bif decide (i < (0 : Int)) then (0 : Int) = wdg l i else bif decide (i ≥ (↑(List.length l) : Int)) then (0 : Int) = wdg l i else ((0 : Int) ≤ i ∧ i < (↑(List.length l) : Int)) ∧ IntKind.wrap IntKind.u64 (List.getD l (Int.toNat i) (0 : Int)) = wdg l i) = evFn (env [] noAnn) Tryd.f81 [.ws l, .int .i64 i] (MRes.sat (.ret (.int .u64 (wdg l i)))) := by kernel_rfl
theorem p_rword : Good Tryd.f81 s_rword := by
  intro ms p r h hp
  unfold s_rword at h
  split at h
  · rename_i l i
    simp only [Option.some.injEq, Prod.mk.injEq] at h
    obtain ⟨rfl, rfl⟩ := h
    have hw : Wd l := hp
    refine ⟨env [] noAnn, ?_⟩
    rw [← vc_rword l i]
    simp only [Bool.cond_decide]
    split
    · unfold wdg; rw [if_neg (by omega)]
    · split
      · unfold wdg; rw [if_pos (by omega)]
        simp [List.getElem?_eq_none (show l.length ≤ i.toNat by omega)]
      · unfold wdg
        rw [if_pos (by omega)]
        exact ⟨by omega, eu64 (by have := hw.getD i.toNat; omega)⟩
  · simp at h
def c_rword : Ctr Tryd.prog := ⟨81, s_rword, fun args w => Tryd.call81 args w, fn_ok mix Tryd.func81 s_rword p_rword⟩

/-! ### size, Cmp, Same -/
def a_rsize (a b : List Int) : Nat → MS → Option LoopAnn
  | 6, _ => some (.inv Nat (fun k => k ≤ a.length ∧ a.drop k = b.drop k) (fun k => ⟨41, [(0, .ws a), (1, .ws b), (5, .int .i64 ((k : Int) - 1))], [], 0⟩) id)
  | _, _ => none
theorem vc_rsize (a b : List Int) : (bif (↑(List.length a) : Int) != (↑(List.length b) : Int) then bif decide ((↑(List.length a) : Int) < (↑(List.length b) : Int)) then (-1 : Int) = icmp (wv a) (wv b) else (1 : Int) = icmp (wv a) (wv b) else (∃ i, (i ≤ List.length a ∧ List.drop i a = List.drop i b) ∧ (a = a ∧ b = b ∧ IntKind.wrap IntKind.i64 ((↑(List.length a) : Int) - (1 : Int)) = (↑i : Int) - (1 : Int) ∧ True) ∧ True) ∧ ∀ (i : Nat), i ≤ List.length a ∧ List.drop i a = List.drop i b → bif decide ((↑i : Int) - (1 : Int) ≥ (0 : Int)) then ((0 : Int) ≤ (↑i : Int) - (1 : Int) ∧ (↑i : Int) - (1 : Int) < (↑(List.length a) : Int)) ∧ ((0 : Int) ≤ (↑i : Int) - (1 : Int) ∧ (↑i : Int) - (1 : Int) < (↑(List.length b) : Int)) ∧ bif decide (List.getD a (Int.toNat ((↑i : Int) - (1 : Int))) (0 : Int) < List.getD b (Int.toNat ((↑i : Int) - (1 : Int))) (0 : Int)) then (-1 : Int) = icmp (wv a) (wv b) else ((0 : Int) ≤ (↑i : Int) - (1 : Int) ∧ (↑i : Int) - (1 : Int) < (↑(List.length a) : Int)) ∧ ((0 : Int) ≤ (↑i : Int) - (1 : Int) ∧ (↑i : Int) - (1 : Int) < (↑(List.length b) : Int)) ∧ bif decide (List.getD a (Int.toNat ((↑i : Int) - (1 : Int))) (0 : Int) > List.getD b (Int.toNat ((↑i : Int) - (1 : Int))) (0 : Int)) then (1 : Int) = icmp (wv a) (wv b) else ∃ j, (j ≤ List.length a ∧ List.drop j a = List.drop j b) ∧ ((a = a ∧ b = b ∧ IntKind.wrap IntKind.i64 ((↑i : Int) - (1 : Int) - (1 : Int)) = (↑j : Int) - (1 : Int) ∧ True) ∧ True) ∧ id j < id i else (0 : Int) = icmp (wv a) (wv b)) = evFn (env [] (a_rsize a b)) Tryd.f56 [.ws a, .ws b] (MRes.sat (.ret (.int .i64 (icmp (wv a) (wv b))))) := by kernel_rfl
theorem p_rsize : Good Tryd.f56 s_ncmp := by
  intro ms p r h hp
  unfold s_ncmp at h
  split at h
  · rename_i a b
    simp only [Option.some.injEq, Prod.mk.injEq] at h
    obtain ⟨rfl, rfl⟩ := h
    obtain ⟨ha, hb, la, lb⟩ : Cn a ∧ Cn b ∧ a.length ≤ 1099511627776 ∧ b.length ≤ 1099511627776 := hp
    refine ⟨env [] (a_rsize a b), ?_⟩
    rw [← vc_rsize a b]
    cases hc : ((a.length : Int) != (b.length : Int)) with
    | true =>
      have hne : (a.length : Int) ≠ b.length := by simpa using hc
      rw [cond_true, Bool.cond_decide]
      split
      · exact (icmp_lt (wv_lt_of_len ha.wd hb (by omega))).symm
      · exact (icmp_gt (wv_lt_of_len hb.wd ha (by omega))).symm
    | false =>
      rw [cond_false]
      have heq : a.length = b.length := by
        have : (a.length : Int) = b.length := by simpa using hc
        omega
      refine ⟨⟨a.length, ⟨Nat.le_refl _, by rw [List.drop_length, heq, List.drop_length]⟩, ⟨rfl, rfl, i64w (by omega) (by omega), True.intro⟩, True.intro⟩, fun i ⟨hi, hd⟩ => ?_⟩
      simp only [Bool.cond_decide]
      split
      · rename_i h0
        have e2 : ((i : Int) - 1).toNat = i - 1 := by omega
        rw [e2]
        have hd' : a.drop (i - 1 + 1) = b.drop (i - 1 + 1) := by rw [show i - 1 + 1 = i by omega]; exact hd
        refine ⟨by omega, by omega, ?_⟩
        split
        · rename_i h
          exact (icmp_lt (wv_decide ha.wd hb.wd (by omega) (by omega) hd' h)).symm
        · refine ⟨by omega, by omega, ?_⟩
          split
          · rename_i h
            exact (icmp_gt (wv_decide hb.wd ha.wd (by omega) (by omega) hd'.symm h)).symm
          · have he : a.getD (i - 1) 0 = b.getD (i - 1) 0 := by omega
            refine ⟨i - 1, ⟨by omega, ?_⟩, ⟨⟨(by and_intros <;> first | exact True.intro | rfl | omega), (by and_intros <;> first | exact True.intro | rfl | omega), ?_, True.intro⟩, True.intro⟩, by show i - 1 < i; omega⟩
            · rw [drop_cons (l := a) (by omega), drop_cons (l := b) (by omega), he, hd']
            · rw [i64w (by omega) (by omega)]; omega
      · have : i = 0 := by omega
        subst this
        rw [List.drop_zero, List.drop_zero] at hd
        rw [hd, icmp_same]
  · simp at h
def c_rsize : Ctr Tryd.prog := ⟨56, s_ncmp, fun args w => Tryd.call56 args w, fn_ok mix Tryd.func56 s_ncmp p_rsize⟩

def s_rsame : FSpec
  | [.big a n, .big b m] => some (some (n ≤ 1000000 ∧ m ≤ 1000000), .ret (.bool (decide (a = b))))
  | _ => none
theorem vc_rsame (a b : Int) (n m : Nat) : (bif decide (a < (0 : Int)) == decide (b < (0 : Int)) then (limbs (Int.toNat (wv (limbs (Int.natAbs a)))) = limbs (Int.natAbs a) ∧ limbs (Int.toNat (wv (limbs (Int.natAbs b)))) = limbs (Int.natAbs b) ∧ List.length (limbs (Int.natAbs a)) ≤ (1099511627776 : Nat) ∧ List.length (limbs (Int.natAbs b)) ≤ (1099511627776 : Nat)) ∧ (icmp (wv (limbs (Int.natAbs a))) (wv (limbs (Int.natAbs b))) == (0 : Int)) = decide (a = b) else false = decide (a = b)) = evFn (env [c_rsize] noAnn) Tryd.f22 [.big a n, .big b m] (MRes.sat (.ret (.bool (decide (a = b))))) := by kernel_rfl
theorem p_rsame : GoodF Tryd.f22 s_rsame := by
  intro ms p r h hp hf
  unfold s_rsame at h
  split at h
  · rename_i a n b m
    simp only [Option.some.injEq, Prod.mk.injEq] at h
    obtain ⟨rfl, rfl⟩ := h
    obtain ⟨hn, hm⟩ : n ≤ 1000000 ∧ m ≤ 1000000 := hp
    have ha : a.natAbs < 2 ^ n := hf.1
    have hb : b.natAbs < 2 ^ m := hf.2.1
    have l1 := lim_len ha (by omega)
    have l2 := lim_len hb (by omega)
    refine ⟨env [c_rsize] noAnn, ?_⟩
    rw [← vc_rsame a b n m, wvl, wvl, Int.toNat_natCast, Int.toNat_natCast]
    have e : (icmp (a.natAbs : Int) (b.natAbs : Int) == 0) = decide (a.natAbs = b.natAbs) := by
      have := icmp_zero (a := (a.natAbs : Int)) (b := (b.natAbs : Int))
      by_cases h : a.natAbs = b.natAbs
      · rw [decide_eq_true h]; simp only [beq_iff_eq]; exact this.2 (by omega)
      · rw [decide_eq_false h]
        simp only [beq_eq_false_iff_ne]
        exact fun e => h (by have := this.1 e; omega)
    rw [e]
    cases hs : (decide (a < 0) == decide (b < 0)) with
    | true =>
      rw [cond_true]
      have hs : (a < 0) = (b < 0) := by simpa [beq_iff_eq] using hs
      have hs : a < 0 ↔ b < 0 := by rw [hs]
      exact ⟨⟨rfl, rfl, by omega, by omega⟩, decide_eq_decide.2 (by omega)⟩
    | false =>
      rw [cond_false]
      have hne : a ≠ b := by intro e; subst e; simp at hs
      exact (decide_eq_false hne).symm
  · simp at h
def c_rsame : Ctr Tryd.prog := ⟨22, s_rsame, fun args w => Tryd.call22 args w, fn_ok_facts mix Tryd.func22 s_rsame p_rsame⟩

theorem vc_rof (z : Int) : (bif decide (z < (0 : Int)) then (0 : Int) ≤ (32 : Int) ∧ ((0 : Nat) + (2 : Nat) ≤ List.length [IntKind.wrap IntKind.u32 (IntKind.wrap IntKind.u64 ((0 : Int) - IntKind.wrap IntKind.u64 z)), IntKind.wrap IntKind.u32 (Int.fdiv (IntKind.wrap IntKind.u64 ((0 : Int) - IntKind.wrap IntKind.u64 z)) ((2 : Int) ^ min (Int.toNat (32 : Int)) (IntKind.bits IntKind.u64)))] ∧ (∀ (x : Int), x ∈ List.take (2 : Nat) (List.drop (0 : Nat) [IntKind.wrap IntKind.u32 (IntKind.wrap IntKind.u64 ((0 : Int) - IntKind.wrap IntKind.u64 z)), IntKind.wrap IntKind.u32 (Int.fdiv (IntKind.wrap IntKind.u64 ((0 : Int) - IntKind.wrap IntKind.u64 z)) ((2 : Int) ^ min (Int.toNat (32 : Int)) (IntKind.bits IntKind.u64)))]) → (0 : Int) ≤ x ∧ x < (4294967296 : Int)) ∧ List.length (List.take (2 : Nat) (List.drop (0 : Nat) [IntKind.wrap IntKind.u32 (IntKind.wrap IntKind.u64 ((0 : Int) - IntKind.wrap IntKind.u64 z)), IntKind.wrap IntKind.u32 (Int.fdiv (IntKind.wrap IntKind.u64 ((0 : Int) - IntKind.wrap IntKind.u64 z)) ((2 : Int) ^ min (Int.toNat (32 : Int)) (IntKind.bits IntKind.u64)))])) ≤ (1000000000 : Nat)) ∧ sg (decide (z < (0 : Int))) (wv (List.take (2 : Nat) (List.drop (0 : Nat) [IntKind.wrap IntKind.u32 (IntKind.wrap IntKind.u64 ((0 : Int) - IntKind.wrap IntKind.u64 z)), IntKind.wrap IntKind.u32 (Int.fdiv (IntKind.wrap IntKind.u64 ((0 : Int) - IntKind.wrap IntKind.u64 z)) ((2 : Int) ^ min (Int.toNat (32 : Int)) (IntKind.bits IntKind.u64)))]))) = z ∧ ((32 : Nat) * List.length (List.take (2 : Nat) (List.drop (0 : Nat) [IntKind.wrap IntKind.u32 (IntKind.wrap IntKind.u64 ((0 : Int) - IntKind.wrap IntKind.u64 z)), IntKind.wrap IntKind.u32 (Int.fdiv (IntKind.wrap IntKind.u64 ((0 : Int) - IntKind.wrap IntKind.u64 z)) ((2 : Int) ^ min (Int.toNat (32 : Int)) (IntKind.bits IntKind.u64)))])) ≤ (64 : Nat) ∨ Int.natAbs (sg (decide (z < (0 : Int))) (wv (List.take (2 : Nat) (List.drop (0 : Nat) [IntKind.wrap IntKind.u32 (IntKind.wrap IntKind.u64 ((0 : Int) - IntKind.wrap IntKind.u64 z)), IntKind.wrap IntKind.u32 (Int.fdiv (IntKind.wrap IntKind.u64 ((0 : Int) - IntKind.wrap IntKind.u64 z)) ((2 : Int) ^ min (Int.toNat (32 : Int)) (IntKind.bits IntKind.u64)))])))) < (2 : Nat) ^ (64 : Nat)) else (0 : Int) ≤ (32 : Int) ∧ ((0 : Nat) + (2 : Nat) ≤ List.length [IntKind.wrap IntKind.u32 (IntKind.wrap IntKind.u64 z), IntKind.wrap IntKind.u32 (Int.fdiv (IntKind.wrap IntKind.u64 z) ((2 : Int) ^ min (Int.toNat (32 : Int)) (IntKind.bits IntKind.u64)))] ∧ (∀ (x : Int), x ∈ List.take (2 : Nat) (List.drop (0 : Nat) [IntKind.wrap IntKind.u32 (IntKind.wrap IntKind.u64 z), IntKind.wrap IntKind.u32 (Int.fdiv (IntKind.wrap IntKind.u64 z) ((2 : Int) ^ min (Int.toNat (32 : Int)) (IntKind.bits IntKind.u64)))]) → (0 : Int) ≤ x ∧ x < (4294967296 : Int)) ∧ List.length (List.take (2 : Nat) (List.drop (0 : Nat) [IntKind.wrap IntKind.u32 (IntKind.wrap IntKind.u64 z), IntKind.wrap IntKind.u32 (Int.fdiv (IntKind.wrap IntKind.u64 z) ((2 : Int) ^ min (Int.toNat (32 : Int)) (IntKind.bits IntKind.u64)))])) ≤ (1000000000 : Nat)) ∧ sg (decide (z < (0 : Int))) (wv (List.take (2 : Nat) (List.drop (0 : Nat) [IntKind.wrap IntKind.u32 (IntKind.wrap IntKind.u64 z), IntKind.wrap IntKind.u32 (Int.fdiv (IntKind.wrap IntKind.u64 z) ((2 : Int) ^ min (Int.toNat (32 : Int)) (IntKind.bits IntKind.u64)))]))) = z ∧ ((32 : Nat) * List.length (List.take (2 : Nat) (List.drop (0 : Nat) [IntKind.wrap IntKind.u32 (IntKind.wrap IntKind.u64 z), IntKind.wrap IntKind.u32 (Int.fdiv (IntKind.wrap IntKind.u64 z) ((2 : Int) ^ min (Int.toNat (32 : Int)) (IntKind.bits IntKind.u64)))])) ≤ (64 : Nat) ∨ Int.natAbs (sg (decide (z < (0 : Int))) (wv (List.take (2 : Nat) (List.drop (0 : Nat) [IntKind.wrap IntKind.u32 (IntKind.wrap IntKind.u64 z), IntKind.wrap IntKind.u32 (Int.fdiv (IntKind.wrap IntKind.u64 z) ((2 : Int) ^ min (Int.toNat (32 : Int)) (IntKind.bits IntKind.u64)))])))) < (2 : Nat) ^ (64 : Nat))) = evFn (env [c_rmade] noAnn) Tryd.f42 [.int .i64 z] (MRes.sat (.ret (.big z 64))) := by kernel_rfl
theorem p_rof : Good Tryd.f42 s_iof := by
  intro ms p r h hp
  unfold s_iof at h
  split at h
  · rename_i z
    simp only [Option.some.injEq, Prod.mk.injEq] at h
    obtain ⟨rfl, rfl⟩ := h
    obtain ⟨h1, h2⟩ : -9223372036854775808 ≤ z ∧ z ≤ 9223372036854775807 := hp
    refine ⟨env [c_rmade] noAnn, ?_⟩
    rw [← vc_rof z, p32]
    have hV : z < 0 → IntKind.u64.wrap ((0 : Int) - IntKind.u64.wrap z) = z.natAbs := fun h => by simp only [u64w]; omega
    have hW : ¬ z < 0 → IntKind.u64.wrap z = z.natAbs := fun h => by rw [u64w]; omega
    have hl : (List.take 2 (List.drop 0 [(z.natAbs : Int) % 4294967296, (z.natAbs : Int) / 4294967296 % 4294967296])) = [(z.natAbs : Int) % 4294967296, (z.natAbs : Int) / 4294967296 % 4294967296] := rfl
    have hw : wv [(z.natAbs : Int) % 4294967296, (z.natAbs : Int) / 4294967296 % 4294967296] = z.natAbs := by simp only [wv]; omega
    rw [Bool.cond_decide]
    split
    all_goals
      rename_i hc
      first | rw [hV hc] | rw [hW hc]
      rw [Int.fdiv_eq_ediv_of_nonneg _ (by omega), u32w, u32w, hl, hw, sg_dec]
      refine ⟨by omega, ⟨by simp, fun x hx => ?_, by simp⟩, rfl, .inl (by simp)⟩
      simp only [List.mem_cons, List.not_mem_nil, or_false] at hx
      rcases hx with rfl | rfl <;> omega
  · simp at h
def c_rof : Ctr Tryd.prog := ⟨42, s_iof, fun args w => Tryd.call42 args w, fn_ok mix Tryd.func42 s_iof p_rof⟩
theorem vc_rneg (z : Int) (n : Nat) : (((∀ (x : Int), x ∈ limbs (Int.natAbs z) → (0 : Int) ≤ x ∧ x < (4294967296 : Int)) ∧ List.length (limbs (Int.natAbs z)) ≤ (1000000000 : Nat)) ∧ sg (!decide (z < (0 : Int))) (wv (limbs (Int.natAbs z))) = -z ∧ ((32 : Nat) * List.length (limbs (Int.natAbs z)) ≤ n ∨ Int.natAbs (sg (!decide (z < (0 : Int))) (wv (limbs (Int.natAbs z)))) < (2 : Nat) ^ n)) = evFn (env [c_rmade] noAnn) Tryd.f59 [.big z n] (MRes.sat (.ret (.big (-z) n))) := by kernel_rfl
theorem p_rneg : GoodF Tryd.f59 s_neg := by
  intro ms p r h hp hf
  unfold s_neg at h
  split at h
  · rename_i z n
    simp only [Option.some.injEq, Prod.mk.injEq] at h
    obtain ⟨rfl, rfl⟩ := h
    have hn : n ≤ 1000000 := hp
    have hz : z.natAbs < 2 ^ n := hf.1
    refine ⟨env [c_rmade] noAnn, ?_⟩
    rw [← vc_rneg z n, wvl, sg_ndec]
    have := lim_len hz (by omega)
    exact ⟨⟨limbs_wd _, by omega⟩, rfl, .inr (by rw [Int.natAbs_neg]; exact hz)⟩
  · simp at h
def c_rneg : Ctr Tryd.prog := ⟨59, s_neg, fun args w => Tryd.call59 args w, fn_ok_facts mix Tryd.func59 s_neg p_rneg⟩
theorem vc_rabs (z : Int) (n : Nat) : (((∀ (x : Int), x ∈ limbs (Int.natAbs z) → (0 : Int) ≤ x ∧ x < (4294967296 : Int)) ∧ List.length (limbs (Int.natAbs z)) ≤ (1000000000 : Nat)) ∧ sg false (wv (limbs (Int.natAbs z))) = (↑(Int.natAbs z) : Int) ∧ ((32 : Nat) * List.length (limbs (Int.natAbs z)) ≤ n ∨ Int.natAbs (sg false (wv (limbs (Int.natAbs z)))) < (2 : Nat) ^ n)) = evFn (env [c_rmade] noAnn) Tryd.f61 [.big z n] (MRes.sat (.ret (.big z.natAbs n))) := by kernel_rfl
theorem p_rabs : GoodF Tryd.f61 s_abs := by
  intro ms p r h hp hf
  unfold s_abs at h
  split at h
  · rename_i z n
    simp only [Option.some.injEq, Prod.mk.injEq] at h
    obtain ⟨rfl, rfl⟩ := h
    have hn : n ≤ 1000000 := hp
    have hz : z.natAbs < 2 ^ n := hf.1
    refine ⟨env [c_rmade] noAnn, ?_⟩
    rw [← vc_rabs z n, wvl]
    have := lim_len hz (by omega)
    exact ⟨⟨limbs_wd _, by omega⟩, rfl, .inr (by rw [natAbs_sg, Int.natAbs_natCast]; exact hz)⟩
  · simp at h
def c_rabs : Ctr Tryd.prog := ⟨61, s_abs, fun args w => Tryd.call61 args w, fn_ok_facts mix Tryd.func61 s_abs p_rabs⟩

end Go.Proofs.YtcikhffhikgahaaDoor

/-
  Contracts of functions: the reference of layer 1: sums, differences, products.
-/
namespace Go.Proofs.YtcikhffhikgahaaDoor
open Go Go.RowKit

/-- The first k digits of a number. -/
def digs : Nat → Int → List Int
  | 0, _ => []
  | k + 1, n => n % 4294967296 :: digs k (n / 4294967296)
theorem digs_len : ∀ (k : Nat) (n : Int), (digs k n).length = k
  | 0, _ => rfl
  | k + 1, n => by simp [digs, digs_len k]
theorem digs_wd : ∀ (k : Nat) (n : Int), Wd (digs k n)
  | 0, _ => Wd.nil
  | k + 1, n => Wd.cons ⟨Int.emod_nonneg _ (by omega), Int.emod_lt_of_pos _ (by omega)⟩ (digs_wd k _)
theorem wv_digs : ∀ (k : Nat) (n : Int), 0 ≤ n → n < 4294967296 ^ k → wv (digs k n) = n
  | 0, n, h0, h1 => by simp [digs, wv] at *; omega
  | k + 1, n, h0, h1 => by
    rw [Int.pow_succ] at h1
    simp only [digs, wv]
    rw [wv_digs k _ (by omega) (Int.ediv_lt_of_lt_mul (by omega) h1)]
    omega
theorem digs_wv : ∀ {l : List Int}, Wd l → digs l.length (wv l) = l
  | [], _ => rfl
  | x :: r, h => by
    have h1 := h.head
    have h2 := digs_wv h.tail
    simp only [List.length_cons, digs, wv]
    rw [show (x + 4294967296 * wv r) % 4294967296 = x by omega, show (x + 4294967296 * wv r) / 4294967296 = wv r by omega, h2]

/-! ### plus -/
def s_rplus : FSpec
  | [.ws a, .ws b] => some (some (Wd a ∧ Wd b ∧ a.length ≤ 1000000000 ∧ b.length ≤ 1000000000), .ret (.ws (digs (max a.length b.length + 1) (wv a + wv b))))
  | _ => none
structure RpS where
  i : Nat
  out : List Int
  c : Int
structure RpI (a b : List Int) (s : RpS) : Prop where
  hi : s.i ≤ max a.length b.length
  len : s.out.length = s.i
  wd : Wd s.out
  c0 : 0 ≤ s.c ∧ s.c ≤ 1
  sum : wv s.out + 4294967296 ^ s.i * s.c = wv (a.take s.i) + wv (b.take s.i)
def a_rplus (a b : List Int) : Nat → MS → Option LoopAnn
  | 4, _ => some (.inv RpS (RpI a b) (fun s => ⟨39, [(0, .ws a), (1, .ws b), (5, .bs 0 0 s.i), (6, .int .u64 s.c), (7, .int .i64 s.i)], [⟨false, .arr .u32 s.out⟩], 0⟩) (fun s => max a.length b.length - s.i))
  | _, _ => none
theorem vc_rplus (a b : List Int) : ((∃ i, RpI a b i ∧ (a = a ∧ b = b ∧ ((0 : Nat) = (0 : Nat) ∧ (0 : Nat) = RpS.i i) ∧ (0 : Int) = RpS.c i ∧ (0 : Int) = (↑(RpS.i i) : Int) ∧ True) ∧ [] = RpS.out i ∧ True) ∧ ∀ (i : RpS), RpI a b i → bif decide ((↑(RpS.i i) : Int) < maxI (↑(List.length a) : Int) (↑(List.length b) : Int)) then (∀ (x : Int), x ∈ a → (0 : Int) ≤ x ∧ x < (4294967296 : Int)) ∧ (∀ (x : Int), x ∈ b → (0 : Int) ≤ x ∧ x < (4294967296 : Int)) ∧ ((0 : Nat) + (1 : Nat) ≤ List.length [IntKind.wrap IntKind.u32 (IntKind.wrap IntKind.u64 (RpS.c i + IntKind.wrap IntKind.u64 (wdg a (↑(RpS.i i) : Int) + wdg b (↑(RpS.i i) : Int))))] ∧ RpS.i i ≤ List.length (RpS.out i) ∧ (RpS.i i + News.len (News.ints IntKind.u32 (List.take (1 : Nat) (List.drop (0 : Nat) [IntKind.wrap IntKind.u32 (IntKind.wrap IntKind.u64 (RpS.c i + IntKind.wrap IntKind.u64 (wdg a (↑(RpS.i i) : Int) + wdg b (↑(RpS.i i) : Int))))])))) * (4 : Nat) ≤ (140737488355328 : Nat)) ∧ (0 : Int) ≤ (32 : Int) ∧ ∃ j, RpI a b j ∧ ((a = a ∧ b = b ∧ ((0 : Nat) = (0 : Nat) ∧ RpS.i i + News.len (News.ints IntKind.u32 (List.take (1 : Nat) (List.drop (0 : Nat) [IntKind.wrap IntKind.u32 (IntKind.wrap IntKind.u64 (RpS.c i + IntKind.wrap IntKind.u64 (wdg a (↑(RpS.i i) : Int) + wdg b (↑(RpS.i i) : Int))))]))) = RpS.i j) ∧ Int.fdiv (IntKind.wrap IntKind.u64 (RpS.c i + IntKind.wrap IntKind.u64 (wdg a (↑(RpS.i i) : Int) + wdg b (↑(RpS.i i) : Int)))) ((2 : Int) ^ min (Int.toNat (32 : Int)) (IntKind.bits IntKind.u64)) = RpS.c j ∧ IntKind.wrap IntKind.i64 ((↑(RpS.i i) : Int) + (1 : Int)) = (↑(RpS.i j) : Int) ∧ True) ∧ List.take (RpS.i i) (RpS.out i) ++ List.take (1 : Nat) (List.drop (0 : Nat) [IntKind.wrap IntKind.u32 (IntKind.wrap IntKind.u64 (RpS.c i + IntKind.wrap IntKind.u64 (wdg a (↑(RpS.i i) : Int) + wdg b (↑(RpS.i i) : Int))))]) = RpS.out j ∧ True) ∧ max (List.length a) (List.length b) - RpS.i j < max (List.length a) (List.length b) - RpS.i i else ((0 : Nat) + (1 : Nat) ≤ List.length [IntKind.wrap IntKind.u32 (RpS.c i)] ∧ RpS.i i ≤ List.length (RpS.out i) ∧ (RpS.i i + News.len (News.ints IntKind.u32 (List.take (1 : Nat) (List.drop (0 : Nat) [IntKind.wrap IntKind.u32 (RpS.c i)])))) * (4 : Nat) ≤ (140737488355328 : Nat)) ∧ (0 : Nat) + (RpS.i i + News.len (News.ints IntKind.u32 (List.take (1 : Nat) (List.drop (0 : Nat) [IntKind.wrap IntKind.u32 (RpS.c i)])))) ≤ List.length (List.take (RpS.i i) (RpS.out i) ++ List.take (1 : Nat) (List.drop (0 : Nat) [IntKind.wrap IntKind.u32 (RpS.c i)])) ∧ List.take (RpS.i i + News.len (News.ints IntKind.u32 (List.take (1 : Nat) (List.drop (0 : Nat) [IntKind.wrap IntKind.u32 (RpS.c i)])))) (List.drop (0 : Nat) (List.take (RpS.i i) (RpS.out i) ++ List.take (1 : Nat) (List.drop (0 : Nat) [IntKind.wrap IntKind.u32 (RpS.c i)]))) = digs (max (List.length a) (List.length b) + (1 : Nat)) (wv a + wv b)) = evFn (env [c_rword] (a_rplus a b)) Tryd.f108 [.ws a, .ws b] (MRes.sat (.ret (.ws (digs (max a.length b.length + 1) (wv a + wv b))))) := by kernel_rfl

/-! ### minus -/
def s_rminus : FSpec
  | [.ws a, .ws b] => some (some (Wd a ∧ Wd b ∧ a.length ≤ 1000000000 ∧ b.length ≤ a.length ∧ wv b ≤ wv a), .ret (.ws (digs a.length (wv a - wv b))))
  | _ => none
structure RmI (a b : List Int) (s : RpS) : Prop where
  hi : s.i ≤ a.length
  len : s.out.length = s.i
  wd : Wd s.out
  c0 : 0 ≤ s.c ∧ s.c ≤ 1
  sum : wv s.out - 4294967296 ^ s.i * s.c = wv (a.take s.i) - wv (b.take s.i)
def a_rminus (a b : List Int) : Nat → MS → Option LoopAnn
  | 4, _ => some (.inv RpS (RmI a b) (fun s => ⟨35, [(0, .ws a), (1, .ws b), (5, .bs 0 0 s.i), (6, .int .u64 s.c), (7, .int .i64 s.i)], [⟨false, .arr .u32 s.out⟩], 0⟩) (fun s => a.length - s.i))
  | _, _ => none
theorem vc_rminus (a b : List Int) : ((∃ i, RmI a b i ∧ (a = a ∧ b = b ∧ ((0 : Nat) = (0 : Nat) ∧ (0 : Nat) = RpS.i i) ∧ (0 : Int) = RpS.c i ∧ (0 : Int) = (↑(RpS.i i) : Int) ∧ True) ∧ [] = RpS.out i ∧ True) ∧ ∀ (i : RpS), RmI a b i → bif decide ((↑(RpS.i i) : Int) < (↑(List.length a) : Int)) then (∀ (x : Int), x ∈ a → (0 : Int) ≤ x ∧ x < (4294967296 : Int)) ∧ (∀ (x : Int), x ∈ b → (0 : Int) ≤ x ∧ x < (4294967296 : Int)) ∧ ((0 : Nat) + (1 : Nat) ≤ List.length [IntKind.wrap IntKind.u32 (IntKind.wrap IntKind.u64 (IntKind.wrap IntKind.u64 (IntKind.wrap IntKind.u64 ((4294967296 : Int) + wdg a (↑(RpS.i i) : Int)) - wdg b (↑(RpS.i i) : Int)) - RpS.c i))] ∧ RpS.i i ≤ List.length (RpS.out i) ∧ (RpS.i i + News.len (News.ints IntKind.u32 (List.take (1 : Nat) (List.drop (0 : Nat) [IntKind.wrap IntKind.u32 (IntKind.wrap IntKind.u64 (IntKind.wrap IntKind.u64 (IntKind.wrap IntKind.u64 ((4294967296 : Int) + wdg a (↑(RpS.i i) : Int)) - wdg b (↑(RpS.i i) : Int)) - RpS.c i))])))) * (4 : Nat) ≤ (140737488355328 : Nat)) ∧ (0 : Int) ≤ (32 : Int) ∧ ∃ j, RmI a b j ∧ ((a = a ∧ b = b ∧ ((0 : Nat) = (0 : Nat) ∧ RpS.i i + News.len (News.ints IntKind.u32 (List.take (1 : Nat) (List.drop (0 : Nat) [IntKind.wrap IntKind.u32 (IntKind.wrap IntKind.u64 (IntKind.wrap IntKind.u64 (IntKind.wrap IntKind.u64 ((4294967296 : Int) + wdg a (↑(RpS.i i) : Int)) - wdg b (↑(RpS.i i) : Int)) - RpS.c i))]))) = RpS.i j) ∧ IntKind.wrap IntKind.u64 ((1 : Int) - Int.fdiv (IntKind.wrap IntKind.u64 (IntKind.wrap IntKind.u64 (IntKind.wrap IntKind.u64 ((4294967296 : Int) + wdg a (↑(RpS.i i) : Int)) - wdg b (↑(RpS.i i) : Int)) - RpS.c i)) ((2 : Int) ^ min (Int.toNat (32 : Int)) (IntKind.bits IntKind.u64))) = RpS.c j ∧ IntKind.wrap IntKind.i64 ((↑(RpS.i i) : Int) + (1 : Int)) = (↑(RpS.i j) : Int) ∧ True) ∧ List.take (RpS.i i) (RpS.out i) ++ List.take (1 : Nat) (List.drop (0 : Nat) [IntKind.wrap IntKind.u32 (IntKind.wrap IntKind.u64 (IntKind.wrap IntKind.u64 (IntKind.wrap IntKind.u64 ((4294967296 : Int) + wdg a (↑(RpS.i i) : Int)) - wdg b (↑(RpS.i i) : Int)) - RpS.c i))]) = RpS.out j ∧ True) ∧ List.length a - RpS.i j < List.length a - RpS.i i else (0 : Nat) + RpS.i i ≤ List.length (RpS.out i) ∧ List.take (RpS.i i) (List.drop (0 : Nat) (RpS.out i)) = digs (List.length a) (wv a - wv b)) = evFn (env [c_rword] (a_rminus a b)) Tryd.f109 [.ws a, .ws b] (MRes.sat (.ret (.ws (digs a.length (wv a - wv b))))) := by kernel_rfl

theorem ones (x : Int) : List.take 1 (List.drop 0 [x]) = [x] := rfl
theorem ones' (x : Int) : List.take 1 [x] = [x] := rfl
theorem news1 (x : Int) : News.len (News.ints .u32 [x]) = 1 := rfl
theorem wv_one (x : Int) : wv [x] = x := by simp [wv]
theorem Wd.one {x : Int} (h : 0 ≤ x ∧ x < 4294967296) : Wd [x] := Wd.cons h Wd.nil

theorem RpI.step {a b : List Int} {s : RpS} (h : RpI a b s) (ha : Wd a) (hb : Wd b) (hi : s.i < max a.length b.length) {t : Int} (ht : t = s.c + (a.getD s.i 0 + b.getD s.i 0)) :
    RpI a b ⟨s.i + 1, s.out ++ [t % 4294967296], t / 4294967296⟩ := by
  have h1 := ha.getD s.i
  have h2 := hb.getD s.i
  have h3 := h.c0
  refine ⟨by show s.i + 1 ≤ _; omega, by simp [h.len], h.wd.append (Wd.one (by omega)), by show 0 ≤ t / 4294967296 ∧ t / 4294967296 ≤ 1; omega, ?_⟩
  show wv (s.out ++ [t % 4294967296]) + 4294967296 ^ (s.i + 1) * (t / 4294967296) = wv (a.take (s.i + 1)) + wv (b.take (s.i + 1))
  rw [wv_append, wv_one, wv_take_succ, wv_take_succ, h.len, Int.pow_succ]
  have h4 := h.sum
  have h5 := carry_step (4294967296 ^ s.i) t
  have h6 : (4294967296 : Int) ^ s.i * t = 4294967296 ^ s.i * s.c + (4294967296 ^ s.i * a.getD s.i 0 + 4294967296 ^ s.i * b.getD s.i 0) := by rw [ht, Int.mul_add, Int.mul_add]
  omega

theorem p_rplus : Good Tryd.f108 s_rplus := by
  intro ms p r h hp
  unfold s_rplus at h
  split at h
  · rename_i a b
    simp only [Option.some.injEq, Prod.mk.injEq] at h
    obtain ⟨rfl, rfl⟩ := h
    obtain ⟨ha, hb, la, lb⟩ : Wd a ∧ Wd b ∧ a.length ≤ 1000000000 ∧ b.length ≤ 1000000000 := hp
    refine ⟨env [c_rword] (a_rplus a b), ?_⟩
    rw [← vc_rplus a b]
    refine ⟨⟨⟨0, [], 0⟩, ⟨Nat.zero_le _, rfl, Wd.nil, ⟨Int.le_refl _, by show (0 : Int) ≤ 1; omega⟩, by simp [wv]⟩, (by and_intros <;> first | exact True.intro | rfl | omega)⟩, ?_⟩
    rintro ⟨i, out, c⟩ hI
    have hc : 0 ≤ c ∧ c ≤ 1 := hI.c0
    have hl : out.length = i := hI.len
    have hi : i ≤ max a.length b.length := hI.hi
    have hm : maxI (a.length : Int) (b.length : Int) = ((max a.length b.length : Nat) : Int) := by unfold maxI; split <;> omega
    have h1 := ha.getD i
    have h2 := hb.getD i
    have e1 : IntKind.u64.wrap (a.getD i 0 + b.getD i 0) = a.getD i 0 + b.getD i 0 := eu64 (by omega)
    have e2 : IntKind.u64.wrap (c + (a.getD i 0 + b.getD i 0)) = c + (a.getD i 0 + b.getD i 0) := eu64 (by omega)
    have e3 : IntKind.i64.wrap ((i : Int) + 1) = ((i + 1 : Nat) : Int) := by rw [i64w (by omega) (by omega)]; omega
    have e4 : IntKind.u32.wrap c = c := eu32 (by omega)
    have e5 : Int.fdiv (c + (a.getD i 0 + b.getD i 0)) 4294967296 = (c + (a.getD i 0 + b.getD i 0)) / 4294967296 := Int.fdiv_eq_ediv_of_nonneg _ (by omega)
    have e6 : List.take i out = out := List.take_of_length_le (by omega)
    simp only [wdg_nat, hm, e1, e2, e3, e4, ones, news1, p32, e5, e6, u32w (c + (a.getD i 0 + b.getD i 0)), Bool.cond_decide]
    split
    · rename_i hlt
      have hlt : i < max a.length b.length := by omega
      exact ⟨ha, hb, ⟨by simp, by omega, by omega⟩, by omega, _, hI.step ha hb hlt rfl, (by and_intros <;> first | exact True.intro | rfl | omega), by show max a.length b.length - (i + 1) < max a.length b.length - i; omega⟩
    · rename_i hge
      have hE : i = max a.length b.length := by omega
      have hsum : wv out + 4294967296 ^ i * c = wv (a.take i) + wv (b.take i) := hI.sum
      rw [wv_take_all (by omega), wv_take_all (by omega)] at hsum
      have e7 : List.take (i + 1) (List.drop 0 (out ++ [c])) = out ++ [c] := by rw [List.drop_zero]; exact List.take_of_length_le (by simp; omega)
      rw [e7]
      refine ⟨⟨by simp, by omega, by omega⟩, by simp; omega, ?_⟩
      have := digs_wv (l := out ++ [c]) (hI.wd.append (Wd.one (by omega)))
      rw [wv_append, wv_one, hl, hsum] at this
      rw [← this, ← hE]
      simp [hl]
  · simp at h
def c_rplus : Ctr Tryd.prog := ⟨108, s_rplus, fun args w => Tryd.call108 args w, fn_ok mix Tryd.func108 s_rplus p_rplus⟩

theorem RmI.step {a b : List Int} {s : RpS} (h : RmI a b s) (ha : Wd a) (hb : Wd b) (hi : s.i < a.length) {t : Int} (ht : t = 4294967296 + a.getD s.i 0 - b.getD s.i 0 - s.c) :
    RmI a b ⟨s.i + 1, s.out ++ [t % 4294967296], 1 - t / 4294967296⟩ := by
  have h1 := ha.getD s.i
  have h2 := hb.getD s.i
  have h3 := h.c0
  refine ⟨by show s.i + 1 ≤ _; omega, by simp [h.len], h.wd.append (Wd.one (by omega)), by show 0 ≤ 1 - t / 4294967296 ∧ 1 - t / 4294967296 ≤ 1; omega, ?_⟩
  show wv (s.out ++ [t % 4294967296]) - 4294967296 ^ (s.i + 1) * (1 - t / 4294967296) = wv (a.take (s.i + 1)) - wv (b.take (s.i + 1))
  rw [wv_append, wv_one, wv_take_succ, wv_take_succ, h.len, Int.pow_succ]
  have h4 := h.sum
  have h5 := carry_step (4294967296 ^ s.i) t
  have h6 : (4294967296 : Int) ^ s.i * t = 4294967296 ^ s.i * 4294967296 + 4294967296 ^ s.i * a.getD s.i 0 - 4294967296 ^ s.i * b.getD s.i 0 - 4294967296 ^ s.i * s.c := by rw [ht, Int.mul_sub, Int.mul_sub, Int.mul_add]
  rw [Int.mul_sub, Int.mul_one]
  omega

theorem p_rminus : Good Tryd.f109 s_rminus := by
  intro ms p r h hp
  unfold s_rminus at h
  split at h
  · rename_i a b
    simp only [Option.some.injEq, Prod.mk.injEq] at h
    obtain ⟨rfl, rfl⟩ := h
    obtain ⟨ha, hb, la, lb, hle⟩ : Wd a ∧ Wd b ∧ a.length ≤ 1000000000 ∧ b.length ≤ a.length ∧ wv b ≤ wv a := hp
    refine ⟨env [c_rword] (a_rminus a b), ?_⟩
    rw [← vc_rminus a b]
    refine ⟨⟨⟨0, [], 0⟩, ⟨Nat.zero_le _, rfl, Wd.nil, ⟨Int.le_refl _, by show (0 : Int) ≤ 1; omega⟩, by simp [wv]⟩, (by and_intros <;> first | exact True.intro | rfl | omega)⟩, ?_⟩
    rintro ⟨i, out, c⟩ hI
    have hc : 0 ≤ c ∧ c ≤ 1 := hI.c0
    have hl : out.length = i := hI.len
    have hi : i ≤ a.length := hI.hi
    have h1 := ha.getD i
    have h2 := hb.getD i
    have e0 : IntKind.u64.wrap (4294967296 + a.getD i 0) = 4294967296 + a.getD i 0 := eu64 (by omega)
    have e1 : IntKind.u64.wrap (4294967296 + a.getD i 0 - b.getD i 0) = 4294967296 + a.getD i 0 - b.getD i 0 := eu64 (by omega)
    have e2 : IntKind.u64.wrap (4294967296 + a.getD i 0 - b.getD i 0 - c) = 4294967296 + a.getD i 0 - b.getD i 0 - c := eu64 (by omega)
    have e3 : IntKind.i64.wrap ((i : Int) + 1) = ((i + 1 : Nat) : Int) := by rw [i64w (by omega) (by omega)]; omega
    have e5 : Int.fdiv (4294967296 + a.getD i 0 - b.getD i 0 - c) 4294967296 = (4294967296 + a.getD i 0 - b.getD i 0 - c) / 4294967296 := Int.fdiv_eq_ediv_of_nonneg _ (by omega)
    have e6 : List.take i out = out := List.take_of_length_le (by omega)
    have e8 : IntKind.u64.wrap (1 - (4294967296 + a.getD i 0 - b.getD i 0 - c) / 4294967296) = 1 - (4294967296 + a.getD i 0 - b.getD i 0 - c) / 4294967296 := eu64 (by omega)
    simp only [wdg_nat, e0, e1, e2, e3, ones', news1, p32, e5, e6, e8, u32w (4294967296 + a.getD i 0 - b.getD i 0 - c), Bool.cond_decide, List.drop_zero]
    split
    · rename_i hlt
      have hlt : i < a.length := by omega
      exact ⟨ha, hb, ⟨by simp, by omega, by omega⟩, by omega, _, hI.step ha hb hlt rfl, (by and_intros <;> first | exact True.intro | rfl | omega), by show a.length - (i + 1) < a.length - i; omega⟩
    · rename_i hge
      have hE : i = a.length := by omega
      have hsum : wv out - 4294967296 ^ i * c = wv (a.take i) - wv (b.take i) := hI.sum
      rw [wv_take_all (by omega), wv_take_all (by omega)] at hsum
      have hw : wv out < 4294967296 ^ i := by have := wv_lt hI.wd; rwa [hl] at this
      have hp := pow_pos32 i
      have hc0 : c = 0 := by
        rcases (show c = 0 ∨ c = 1 by omega) with q | q
        · exact q
        · rw [q, Int.mul_one] at hsum; omega
      rw [hc0, Int.mul_zero, Int.sub_zero] at hsum
      have := digs_wv (l := out) hI.wd
      rw [hsum, hl, hE] at this
      exact ⟨by omega, this.symm⟩
  · simp at h
def c_rminus : Ctr Tryd.prog := ⟨109, s_rminus, fun args w => Tryd.call109 args w, fn_ok mix Tryd.func109 s_rminus p_rminus⟩

/-! ### Add, Sub, Mul, Bits -/
theorem vc_radd (a b : Int) (n m : Nat) : (bif decide (a < (0 : Int)) == decide (b < (0 : Int)) then ((∀ (x : Int), x ∈ limbs (Int.natAbs a) → (0 : Int) ≤ x ∧ x < (4294967296 : Int)) ∧ (∀ (x : Int), x ∈ limbs (Int.natAbs b) → (0 : Int) ≤ x ∧ x < (4294967296 : Int)) ∧ List.length (limbs (Int.natAbs a)) ≤ (1000000000 : Nat) ∧ List.length (limbs (Int.natAbs b)) ≤ (1000000000 : Nat)) ∧ ((∀ (x : Int), x ∈ digs (max (List.length (limbs (Int.natAbs a))) (List.length (limbs (Int.natAbs b))) + (1 : Nat)) (wv (limbs (Int.natAbs a)) + wv (limbs (Int.natAbs b))) → (0 : Int) ≤ x ∧ x < (4294967296 : Int)) ∧ List.length (digs (max (List.length (limbs (Int.natAbs a))) (List.length (limbs (Int.natAbs b))) + (1 : Nat)) (wv (limbs (Int.natAbs a)) + wv (limbs (Int.natAbs b)))) ≤ (1000000000 : Nat)) ∧ sg (decide (a < (0 : Int))) (wv (digs (max (List.length (limbs (Int.natAbs a))) (List.length (limbs (Int.natAbs b))) + (1 : Nat)) (wv (limbs (Int.natAbs a)) + wv (limbs (Int.natAbs b))))) = a + b ∧ ((32 : Nat) * List.length (digs (max (List.length (limbs (Int.natAbs a))) (List.length (limbs (Int.natAbs b))) + (1 : Nat)) (wv (limbs (Int.natAbs a)) + wv (limbs (Int.natAbs b)))) ≤ max n m + (1 : Nat) ∨ Int.natAbs (sg (decide (a < (0 : Int))) (wv (digs (max (List.length (limbs (Int.natAbs a))) (List.length (limbs (Int.natAbs b))) + (1 : Nat)) (wv (limbs (Int.natAbs a)) + wv (limbs (Int.natAbs b)))))) < (2 : Nat) ^ (max n m + (1 : Nat))) else (limbs (Int.toNat (wv (limbs (Int.natAbs a)))) = limbs (Int.natAbs a) ∧ limbs (Int.toNat (wv (limbs (Int.natAbs b)))) = limbs (Int.natAbs b) ∧ List.length (limbs (Int.natAbs a)) ≤ (1099511627776 : Nat) ∧ List.length (limbs (Int.natAbs b)) ≤ (1099511627776 : Nat)) ∧ bif decide (icmp (wv (limbs (Int.natAbs a))) (wv (limbs (Int.natAbs b))) ≥ (0 : Int)) then ((∀ (x : Int), x ∈ limbs (Int.natAbs a) → (0 : Int) ≤ x ∧ x < (4294967296 : Int)) ∧ (∀ (x : Int), x ∈ limbs (Int.natAbs b) → (0 : Int) ≤ x ∧ x < (4294967296 : Int)) ∧ List.length (limbs (Int.natAbs a)) ≤ (1000000000 : Nat) ∧ List.length (limbs (Int.natAbs b)) ≤ List.length (limbs (Int.natAbs a)) ∧ wv (limbs (Int.natAbs b)) ≤ wv (limbs (Int.natAbs a))) ∧ ((∀ (x : Int), x ∈ digs (List.length (limbs (Int.natAbs a))) (wv (limbs (Int.natAbs a)) - wv (limbs (Int.natAbs b))) → (0 : Int) ≤ x ∧ x < (4294967296 : Int)) ∧ List.length (digs (List.length (limbs (Int.natAbs a))) (wv (limbs (Int.natAbs a)) - wv (limbs (Int.natAbs b)))) ≤ (1000000000 : Nat)) ∧ sg (decide (a < (0 : Int))) (wv (digs (List.length (limbs (Int.natAbs a))) (wv (limbs (Int.natAbs a)) - wv (limbs (Int.natAbs b))))) = a + b ∧ ((32 : Nat) * List.length (digs (List.length (limbs (Int.natAbs a))) (wv (limbs (Int.natAbs a)) - wv (limbs (Int.natAbs b)))) ≤ max n m + (1 : Nat) ∨ Int.natAbs (sg (decide (a < (0 : Int))) (wv (digs (List.length (limbs (Int.natAbs a))) (wv (limbs (Int.natAbs a)) - wv (limbs (Int.natAbs b)))))) < (2 : Nat) ^ (max n m + (1 : Nat))) else ((∀ (x : Int), x ∈ limbs (Int.natAbs b) → (0 : Int) ≤ x ∧ x < (4294967296 : Int)) ∧ (∀ (x : Int), x ∈ limbs (Int.natAbs a) → (0 : Int) ≤ x ∧ x < (4294967296 : Int)) ∧ List.length (limbs (Int.natAbs b)) ≤ (1000000000 : Nat) ∧ List.length (limbs (Int.natAbs a)) ≤ List.length (limbs (Int.natAbs b)) ∧ wv (limbs (Int.natAbs a)) ≤ wv (limbs (Int.natAbs b))) ∧ ((∀ (x : Int), x ∈ digs (List.length (limbs (Int.natAbs b))) (wv (limbs (Int.natAbs b)) - wv (limbs (Int.natAbs a))) → (0 : Int) ≤ x ∧ x < (4294967296 : Int)) ∧ List.length (digs (List.length (limbs (Int.natAbs b))) (wv (limbs (Int.natAbs b)) - wv (limbs (Int.natAbs a)))) ≤ (1000000000 : Nat)) ∧ sg (decide (b < (0 : Int))) (wv (digs (List.length (limbs (Int.natAbs b))) (wv (limbs (Int.natAbs b)) - wv (limbs (Int.natAbs a))))) = a + b ∧ ((32 : Nat) * List.length (digs (List.length (limbs (Int.natAbs b))) (wv (limbs (Int.natAbs b)) - wv (limbs (Int.natAbs a)))) ≤ max n m + (1 : Nat) ∨ Int.natAbs (sg (decide (b < (0 : Int))) (wv (digs (List.length (limbs (Int.natAbs b))) (wv (limbs (Int.natAbs b)) - wv (limbs (Int.natAbs a)))))) < (2 : Nat) ^ (max n m + (1 : Nat)))) = evFn (env [c_rmade, c_rplus, c_rminus, c_rsize] noAnn) Tryd.f96 [.big a n, .big b m] (MRes.sat (.ret (.big (a + b) (max n m + 1)))) := by kernel_rfl
def a_rmul (a b : Int) (n m : Nat) : Nat → MS → Option LoopAnn
  | 3, _ => some (.inv MulS (MulO (limbs a.natAbs) (limbs b.natAbs)) (fun s => ⟨79, [(2, .bp 0 0), (3, .bp 1 0), (4, .bp 2 0), (5, .bs 3 0 ((limbs a.natAbs).length + (limbs b.natAbs).length)), (6, .int .i64 s.i)], [⟨false, .one (.big a n)⟩, ⟨false, .one (.big b m)⟩, ⟨false, .one (.big 0 0)⟩, ⟨false, .arr .u32 s.out⟩], 0⟩) (fun s => (limbs a.natAbs).length - s.i))
  | 7, s0 => some (.inv MulS (fun s => MulN (limbs a.natAbs) (limbs b.natAbs) s ∧ .int .i64 (s.i : Int) = look 6 s0.tm) (fun s => ⟨79, [(2, .bp 0 0), (3, .bp 1 0), (4, .bp 2 0), (5, .bs 3 0 ((limbs a.natAbs).length + (limbs b.natAbs).length)), (6, .int .i64 s.i), (7, .int .u64 s.c), (8, .int .i64 s.k)], [⟨false, .one (.big a n)⟩, ⟨false, .one (.big b m)⟩, ⟨false, .one (.big 0 0)⟩, ⟨false, .arr .u32 s.out⟩], 0⟩) (fun s => (limbs b.natAbs).length - s.k))
  | _, _ => none
theorem vc_rmul (a b : Int) (n m : Nat) : (((0 : Int) ≤ IntKind.wrap IntKind.i64 ((↑(List.length (limbs (Int.natAbs a))) : Int) + (↑(List.length (limbs (Int.natAbs b))) : Int)) ∧ IntKind.wrap IntKind.i64 ((↑(List.length (limbs (Int.natAbs a))) : Int) + (↑(List.length (limbs (Int.natAbs b))) : Int)) = IntKind.wrap IntKind.i64 ((↑(List.length (limbs (Int.natAbs a))) : Int) + (↑(List.length (limbs (Int.natAbs b))) : Int)) ∧ (↑(4 : Nat) : Int) * IntKind.wrap IntKind.i64 ((↑(List.length (limbs (Int.natAbs a))) : Int) + (↑(List.length (limbs (Int.natAbs b))) : Int)) ≤ (140737488355328 : Int)) ∧ (∃ i, MulO (limbs (Int.natAbs a)) (limbs (Int.natAbs b)) i ∧ ((0 : Nat) = (0 : Nat) ∧ (0 : Nat) = (0 : Nat) ∧ (0 : Nat) = (0 : Nat) ∧ ((0 : Nat) = (0 : Nat) ∧ Int.toNat (IntKind.wrap IntKind.i64 ((↑(List.length (limbs (Int.natAbs a))) : Int) + (↑(List.length (limbs (Int.natAbs b))) : Int))) = List.length (limbs (Int.natAbs a)) + List.length (limbs (Int.natAbs b))) ∧ (0 : Int) = (↑(MulS.i i) : Int) ∧ True) ∧ (a = a ∧ (n ≤ n ∨ Int.natAbs a < (2 : Nat) ^ n)) ∧ (b = b ∧ (m ≤ m ∨ Int.natAbs b < (2 : Nat) ^ m)) ∧ ((0 : Int) = (0 : Int) ∧ ((0 : Nat) ≤ (0 : Nat) ∨ Int.natAbs (0 : Int) < (2 : Nat) ^ (0 : Nat))) ∧ List.replicate (Int.toNat (IntKind.wrap IntKind.i64 ((↑(List.length (limbs (Int.natAbs a))) : Int) + (↑(List.length (limbs (Int.natAbs b))) : Int)))) (0 : Int) = MulS.out i ∧ True) ∧ ∀ (i : MulS), MulO (limbs (Int.natAbs a)) (limbs (Int.natAbs b)) i → bif decide ((↑(MulS.i i) : Int) < (↑(List.length (limbs (Int.natAbs a))) : Int)) then (∃ i_1, (MulN (limbs (Int.natAbs a)) (limbs (Int.natAbs b)) i_1 ∧ MV.int IntKind.i64 (↑(MulS.i i_1) : Int) = MV.int IntKind.i64 (↑(MulS.i i) : Int)) ∧ ((0 : Nat) = (0 : Nat) ∧ (0 : Nat) = (0 : Nat) ∧ (0 : Nat) = (0 : Nat) ∧ ((0 : Nat) = (0 : Nat) ∧ List.length (limbs (Int.natAbs a)) + List.length (limbs (Int.natAbs b)) = List.length (limbs (Int.natAbs a)) + List.length (limbs (Int.natAbs b))) ∧ (↑(MulS.i i) : Int) = (↑(MulS.i i_1) : Int) ∧ (0 : Int) = MulS.c i_1 ∧ (0 : Int) = (↑(MulS.k i_1) : Int) ∧ True) ∧ (a = a ∧ (n ≤ n ∨ Int.natAbs a < (2 : Nat) ^ n)) ∧ (b = b ∧ (m ≤ m ∨ Int.natAbs b < (2 : Nat) ^ m)) ∧ ((0 : Int) = (0 : Int) ∧ ((0 : Nat) ≤ (0 : Nat) ∨ Int.natAbs (0 : Int) < (2 : Nat) ^ (0 : Nat))) ∧ MulS.out i = MulS.out i_1 ∧ True) ∧ ∀ (i_1 : MulS), MulN (limbs (Int.natAbs a)) (limbs (Int.natAbs b)) i_1 ∧ MV.int IntKind.i64 (↑(MulS.i i_1) : Int) = MV.int IntKind.i64 (↑(MulS.i i) : Int) → bif decide ((↑(MulS.k i_1) : Int) < (↑(List.length (limbs (Int.natAbs b))) : Int)) then ((0 : Int) ≤ (↑(MulS.i i_1) : Int) ∧ (↑(MulS.i i_1) : Int) < (↑(List.length (limbs (Int.natAbs a))) : Int)) ∧ ((0 : Int) ≤ (↑(MulS.k i_1) : Int) ∧ (↑(MulS.k i_1) : Int) < (↑(List.length (limbs (Int.natAbs b))) : Int)) ∧ ((0 : Int) ≤ IntKind.wrap IntKind.i64 ((↑(MulS.i i_1) : Int) + (↑(MulS.k i_1) : Int)) ∧ IntKind.wrap IntKind.i64 ((↑(MulS.i i_1) : Int) + (↑(MulS.k i_1) : Int)) < (↑(List.length (limbs (Int.natAbs a)) + List.length (limbs (Int.natAbs b))) : Int)) ∧ (0 : Nat) + Int.toNat (IntKind.wrap IntKind.i64 ((↑(MulS.i i_1) : Int) + (↑(MulS.k i_1) : Int))) < List.length (MulS.out i_1) ∧ ((0 : Int) ≤ IntKind.wrap IntKind.i64 ((↑(MulS.i i_1) : Int) + (↑(MulS.k i_1) : Int)) ∧ IntKind.wrap IntKind.i64 ((↑(MulS.i i_1) : Int) + (↑(MulS.k i_1) : Int)) < (↑(List.length (limbs (Int.natAbs a)) + List.length (limbs (Int.natAbs b))) : Int)) ∧ (0 : Nat) + Int.toNat (IntKind.wrap IntKind.i64 ((↑(MulS.i i_1) : Int) + (↑(MulS.k i_1) : Int))) < List.length (MulS.out i_1) ∧ (0 : Int) ≤ (32 : Int) ∧ ∃ j, (MulN (limbs (Int.natAbs a)) (limbs (Int.natAbs b)) j ∧ MV.int IntKind.i64 (↑(MulS.i j) : Int) = MV.int IntKind.i64 (↑(MulS.i i) : Int)) ∧ (((0 : Nat) = (0 : Nat) ∧ (0 : Nat) = (0 : Nat) ∧ (0 : Nat) = (0 : Nat) ∧ ((0 : Nat) = (0 : Nat) ∧ List.length (limbs (Int.natAbs a)) + List.length (limbs (Int.natAbs b)) = List.length (limbs (Int.natAbs a)) + List.length (limbs (Int.natAbs b))) ∧ (↑(MulS.i i_1) : Int) = (↑(MulS.i j) : Int) ∧ Int.fdiv (IntKind.wrap IntKind.u64 (MulS.c i_1 + IntKind.wrap IntKind.u64 (IntKind.wrap IntKind.u64 (IntKind.wrap IntKind.u64 (List.getD (limbs (Int.natAbs a)) (Int.toNat (↑(MulS.i i_1) : Int)) (0 : Int)) * IntKind.wrap IntKind.u64 (List.getD (limbs (Int.natAbs b)) (Int.toNat (↑(MulS.k i_1) : Int)) (0 : Int))) + IntKind.wrap IntKind.u64 (List.getD (MulS.out i_1) ((0 : Nat) + Int.toNat (IntKind.wrap IntKind.i64 ((↑(MulS.i i_1) : Int) + (↑(MulS.k i_1) : Int)))) (0 : Int))))) ((2 : Int) ^ min (Int.toNat (32 : Int)) (IntKind.bits IntKind.u64)) = MulS.c j ∧ IntKind.wrap IntKind.i64 ((↑(MulS.k i_1) : Int) + (1 : Int)) = (↑(MulS.k j) : Int) ∧ True) ∧ (a = a ∧ (n ≤ n ∨ Int.natAbs a < (2 : Nat) ^ n)) ∧ (b = b ∧ (m ≤ m ∨ Int.natAbs b < (2 : Nat) ^ m)) ∧ ((0 : Int) = (0 : Int) ∧ ((0 : Nat) ≤ (0 : Nat) ∨ Int.natAbs (0 : Int) < (2 : Nat) ^ (0 : Nat))) ∧ List.set (MulS.out i_1) ((0 : Nat) + Int.toNat (IntKind.wrap IntKind.i64 ((↑(MulS.i i_1) : Int) + (↑(MulS.k i_1) : Int)))) (IntKind.wrap IntKind.u32 (IntKind.wrap IntKind.u64 (MulS.c i_1 + IntKind.wrap IntKind.u64 (IntKind.wrap IntKind.u64 (IntKind.wrap IntKind.u64 (List.getD (limbs (Int.natAbs a)) (Int.toNat (↑(MulS.i i_1) : Int)) (0 : Int)) * IntKind.wrap IntKind.u64 (List.getD (limbs (Int.natAbs b)) (Int.toNat (↑(MulS.k i_1) : Int)) (0 : Int))) + IntKind.wrap IntKind.u64 (List.getD (MulS.out i_1) ((0 : Nat) + Int.toNat (IntKind.wrap IntKind.i64 ((↑(MulS.i i_1) : Int) + (↑(MulS.k i_1) : Int)))) (0 : Int)))))) = MulS.out j ∧ True) ∧ List.length (limbs (Int.natAbs b)) - MulS.k j < List.length (limbs (Int.natAbs b)) - MulS.k i_1 else ((0 : Int) ≤ IntKind.wrap IntKind.i64 ((↑(MulS.i i_1) : Int) + (↑(List.length (limbs (Int.natAbs b))) : Int)) ∧ IntKind.wrap IntKind.i64 ((↑(MulS.i i_1) : Int) + (↑(List.length (limbs (Int.natAbs b))) : Int)) < (↑(List.length (limbs (Int.natAbs a)) + List.length (limbs (Int.natAbs b))) : Int)) ∧ (0 : Nat) + Int.toNat (IntKind.wrap IntKind.i64 ((↑(MulS.i i_1) : Int) + (↑(List.length (limbs (Int.natAbs b))) : Int))) < List.length (MulS.out i_1) ∧ ∃ j, MulO (limbs (Int.natAbs a)) (limbs (Int.natAbs b)) j ∧ (((0 : Nat) = (0 : Nat) ∧ (0 : Nat) = (0 : Nat) ∧ (0 : Nat) = (0 : Nat) ∧ ((0 : Nat) = (0 : Nat) ∧ List.length (limbs (Int.natAbs a)) + List.length (limbs (Int.natAbs b)) = List.length (limbs (Int.natAbs a)) + List.length (limbs (Int.natAbs b))) ∧ IntKind.wrap IntKind.i64 ((↑(MulS.i i_1) : Int) + (1 : Int)) = (↑(MulS.i j) : Int) ∧ True) ∧ (a = a ∧ (n ≤ n ∨ Int.natAbs a < (2 : Nat) ^ n)) ∧ (b = b ∧ (m ≤ m ∨ Int.natAbs b < (2 : Nat) ^ m)) ∧ ((0 : Int) = (0 : Int) ∧ ((0 : Nat) ≤ (0 : Nat) ∨ Int.natAbs (0 : Int) < (2 : Nat) ^ (0 : Nat))) ∧ List.set (MulS.out i_1) ((0 : Nat) + Int.toNat (IntKind.wrap IntKind.i64 ((↑(MulS.i i_1) : Int) + (↑(List.length (limbs (Int.natAbs b))) : Int)))) (IntKind.wrap IntKind.u32 (MulS.c i_1)) = MulS.out j ∧ True) ∧ List.length (limbs (Int.natAbs a)) - MulS.i j < List.length (limbs (Int.natAbs a)) - MulS.i i else ((0 : Nat) + (List.length (limbs (Int.natAbs a)) + List.length (limbs (Int.natAbs b))) ≤ List.length (MulS.out i) ∧ (∀ (x : Int), x ∈ List.take (List.length (limbs (Int.natAbs a)) + List.length (limbs (Int.natAbs b))) (List.drop (0 : Nat) (MulS.out i)) → (0 : Int) ≤ x ∧ x < (4294967296 : Int)) ∧ List.length (List.take (List.length (limbs (Int.natAbs a)) + List.length (limbs (Int.natAbs b))) (List.drop (0 : Nat) (MulS.out i))) ≤ (1000000000 : Nat)) ∧ sg (!decide (a < (0 : Int)) == decide (b < (0 : Int))) (wv (List.take (List.length (limbs (Int.natAbs a)) + List.length (limbs (Int.natAbs b))) (List.drop (0 : Nat) (MulS.out i)))) = a * b ∧ ((32 : Nat) * List.length (List.take (List.length (limbs (Int.natAbs a)) + List.length (limbs (Int.natAbs b))) (List.drop (0 : Nat) (MulS.out i))) ≤ n + m ∨ Int.natAbs (sg (!decide (a < (0 : Int)) == decide (b < (0 : Int))) (wv (List.take (List.length (limbs (Int.natAbs a)) + List.length (limbs (Int.natAbs b))) (List.drop (0 : Nat) (MulS.out i))))) < (2 : Nat) ^ (n + m))) = evFn (env [c_rmade] (a_rmul a b n m)) Tryd.f51 [.big a n, .big b m] (MRes.sat (.ret (.big (a * b) (n + m)))) := by kernel_rfl

theorem sg_mul (a b : Int) : sg (!(decide (a < 0) == decide (b < 0))) ((a.natAbs : Int) * (b.natAbs : Int)) = a * b := by
  have e : ((a.natAbs : Int) * (b.natAbs : Int)) = ((a * b).natAbs : Int) := by rw [Int.natAbs_mul, Int.natCast_mul]
  rw [e]
  rcases Int.lt_or_le a 0 with h1 | h1 <;> rcases Int.lt_or_le b 0 with h2 | h2
  · rw [show decide (a < 0) = true from decide_eq_true h1, show decide (b < 0) = true from decide_eq_true h2]
    show ((a * b).natAbs : Int) = a * b
    have := Int.mul_nonneg_of_nonpos_of_nonpos (show a ≤ 0 by omega) (show b ≤ 0 by omega)
    omega
  · rw [show decide (a < 0) = true from decide_eq_true h1, show decide (b < 0) = false from decide_eq_false (by omega)]
    show -((a * b).natAbs : Int) = a * b
    have := Int.mul_nonpos_of_nonpos_of_nonneg (show a ≤ 0 by omega) h2
    omega
  · rw [show decide (a < 0) = false from decide_eq_false (by omega), show decide (b < 0) = true from decide_eq_true h2]
    show -((a * b).natAbs : Int) = a * b
    have := Int.mul_nonpos_of_nonneg_of_nonpos h1 (show b ≤ 0 by omega)
    omega
  · rw [show decide (a < 0) = false from decide_eq_false (by omega), show decide (b < 0) = false from decide_eq_false (by omega)]
    show ((a * b).natAbs : Int) = a * b
    have := Int.mul_nonneg h1 h2
    omega

theorem wv_nat_lt (k : Nat) : (k : Int) < 4294967296 ^ (limbs k).length := by
  have := limbs_lt k
  rw [← cast_pow32]; omega

theorem p_radd : GoodF Tryd.f96 s_iadd := by
  intro ms p r h hp hf
  unfold s_iadd at h
  split at h
  · rename_i a n b m
    simp only [Option.some.injEq, Prod.mk.injEq] at h
    obtain ⟨rfl, rfl⟩ := h
    obtain ⟨hn, hm⟩ : n ≤ 1000000 ∧ m ≤ 1000000 := hp
    have ha : a.natAbs < 2 ^ n := hf.1
    have hb : b.natAbs < 2 ^ m := hf.2.1
    refine ⟨env [c_rmade, c_rplus, c_rminus, c_rsize] noAnn, ?_⟩
    have h1 : 2 ^ n ≤ 2 ^ max n m := Nat.pow_le_pow_right (by omega) (by omega)
    have h2 : 2 ^ m ≤ 2 ^ max n m := Nat.pow_le_pow_right (by omega) (by omega)
    have h3 : 2 ^ (max n m + 1) = 2 ^ max n m * 2 := Nat.pow_succ ..
    have hab : (a + b).natAbs < 2 ^ (max n m + 1) := by omega
    have l1 := lim_len ha (by omega)
    have l2 := lim_len hb (by omega)
    have w1 := wv_nat_lt a.natAbs
    have w2 := wv_nat_lt b.natAbs
    have mono : ∀ x y : Nat, x ≤ y → (limbs x).length ≤ (limbs y).length := fun x y hxy => limbs_len_le (Nat.lt_of_le_of_lt hxy (limbs_lt y))
    rw [← vc_radd a b n m]
    simp only [wvl, digs_len, Int.toNat_natCast]
    have hS : wv (digs (max (limbs a.natAbs).length (limbs b.natAbs).length + 1) ((a.natAbs : Int) + (b.natAbs : Int))) = (a.natAbs : Int) + (b.natAbs : Int) := by
      refine wv_digs _ _ (by omega) ?_
      have k1 := pow_le32 (show (limbs a.natAbs).length ≤ max (limbs a.natAbs).length (limbs b.natAbs).length by omega)
      have k2 := pow_le32 (show (limbs b.natAbs).length ≤ max (limbs a.natAbs).length (limbs b.natAbs).length by omega)
      rw [Int.pow_succ]; omega
    have hD1 : b.natAbs ≤ a.natAbs → wv (digs (limbs a.natAbs).length ((a.natAbs : Int) - (b.natAbs : Int))) = (a.natAbs : Int) - (b.natAbs : Int) := fun h => wv_digs _ _ (by omega) (by omega)
    have hD2 : a.natAbs ≤ b.natAbs → wv (digs (limbs b.natAbs).length ((b.natAbs : Int) - (a.natAbs : Int))) = (b.natAbs : Int) - (a.natAbs : Int) := fun h => wv_digs _ _ (by omega) (by omega)
    cases hs : (decide (a < 0) == decide (b < 0)) with
    | true =>
      rw [cond_true, hS]
      have hs : (a < 0) = (b < 0) := by simpa [beq_iff_eq] using hs
      have hs : a < 0 ↔ b < 0 := by rw [hs]
      have es : sg (decide (a < 0)) ((a.natAbs : Int) + (b.natAbs : Int)) = a + b := by
        unfold sg
        by_cases h : a < 0 <;> simp [h] <;> omega
      exact ⟨⟨limbs_wd _, limbs_wd _, by omega, by omega⟩, ⟨digs_wd _ _, by omega⟩, es, .inr (by rw [es]; exact hab)⟩
    | false =>
      rw [cond_false, Bool.cond_decide]
      have hs : ¬ (a < 0 ↔ b < 0) := by
        intro h
        have : decide (a < 0) = decide (b < 0) := decide_eq_decide.2 h
        rw [this] at hs; simp at hs
      refine ⟨⟨True.intro, True.intro, by omega, by omega⟩, ?_⟩
      split
      · rename_i hc
        have hc : b.natAbs ≤ a.natAbs := by unfold icmp at hc; split at hc <;> (try split at hc) <;> omega
        rw [hD1 hc]
        have es : sg (decide (a < 0)) ((a.natAbs : Int) - (b.natAbs : Int)) = a + b := by
          unfold sg
          by_cases h : a < 0 <;> simp [h] <;> omega
        exact ⟨⟨limbs_wd _, limbs_wd _, by omega, mono _ _ hc, by omega⟩, ⟨digs_wd _ _, by omega⟩, es, .inr (by rw [es]; exact hab)⟩
      · rename_i hc
        have hc : a.natAbs ≤ b.natAbs := by unfold icmp at hc; split at hc <;> (try split at hc) <;> omega
        rw [hD2 hc]
        have es : sg (decide (b < 0)) ((b.natAbs : Int) - (a.natAbs : Int)) = a + b := by
          unfold sg
          by_cases h : b < 0 <;> simp [h] <;> omega
        exact ⟨⟨limbs_wd _, limbs_wd _, by omega, mono _ _ hc, by omega⟩, ⟨digs_wd _ _, by omega⟩, es, .inr (by rw [es]; exact hab)⟩
  · simp at h
def c_radd : Ctr Tryd.prog := ⟨96, s_iadd, fun args w => Tryd.call96 args w, fn_ok_facts mix Tryd.func96 s_iadd p_radd⟩

theorem p_rmul : GoodF Tryd.f51 s_mul := by
  intro ms p r h hp hf
  unfold s_mul at h
  split at h
  · rename_i a n b m
    simp only [Option.some.injEq, Prod.mk.injEq] at h
    obtain ⟨rfl, rfl⟩ := h
    obtain ⟨hn, hm⟩ : n ≤ 1000000 ∧ m ≤ 1000000 := hp
    have ha : a.natAbs < 2 ^ n := hf.1
    have hb : b.natAbs < 2 ^ m := hf.2.1
    refine ⟨env [c_rmade] (a_rmul a b n m), ?_⟩
    have hab : (a * b).natAbs < 2 ^ (n + m) := by
      rw [Int.natAbs_mul, Nat.pow_add]
      exact Nat.mul_lt_mul_of_lt_of_le ha (by omega) (Nat.two_pow_pos m)
    rw [← vc_rmul a b n m]
    have l1 := lim_len ha (by omega)
    have l2 := lim_len hb (by omega)
    have hwa := limbs_wd a.natAbs
    have hwb := limbs_wd b.natAbs
    have ev1 := wvl a.natAbs
    have ev2 := wvl b.natAbs
    generalize limbs a.natAbs = A at *
    generalize limbs b.natAbs = B at *
    have ew : IntKind.i64.wrap ((A.length : Int) + B.length) = ((A.length + B.length : Nat) : Int) := by rw [i64w (by omega) (by omega)]; omega
    simp only [Bool.cond_decide, ew, Nat.zero_add, Int.toNat_natCast, List.drop_zero, p32]
    refine ⟨(by and_intros <;> first | exact True.intro | rfl | omega), ⟨⟨0, 0, List.replicate (A.length + B.length) 0, 0⟩, ⟨by show 0 ≤ _; omega, by simp, Wd.replicate _, by show wv (List.replicate _ 0) = _; rw [wv_replicate]; simp [wv], fun j _ => ?_⟩, (by and_intros <;> first | exact True.intro | rfl | omega), ⟨(by and_intros <;> first | exact True.intro | rfl | omega), .inl (Nat.le_refl _)⟩, ⟨(by and_intros <;> first | exact True.intro | rfl | omega), .inl (Nat.le_refl _)⟩, ⟨(by and_intros <;> first | exact True.intro | rfl | omega), .inl (Nat.le_refl _)⟩, (by and_intros <;> first | exact True.intro | rfl | omega)⟩, ?_⟩
    · show (List.replicate _ (0 : Int)).getD j 0 = 0
      simp [List.getElem?_replicate]; split <;> rfl
    · intro s hs
      split
      · rename_i hlt
        have hi : s.i < A.length := by omega
        refine ⟨⟨⟨s.i, 0, s.out, 0⟩, ⟨⟨hi, by show 0 ≤ _; omega, hs.len, hs.wd, ⟨Int.le_refl _, by show (0 : Int) < 4294967296; omega⟩, ?_, hs.rest⟩, (by and_intros <;> first | exact True.intro | rfl | omega)⟩, (by and_intros <;> first | exact True.intro | rfl | omega), ⟨(by and_intros <;> first | exact True.intro | rfl | omega), .inl (Nat.le_refl _)⟩, ⟨(by and_intros <;> first | exact True.intro | rfl | omega), .inl (Nat.le_refl _)⟩, ⟨(by and_intros <;> first | exact True.intro | rfl | omega), .inl (Nat.le_refl _)⟩, (by and_intros <;> first | exact True.intro | rfl | omega)⟩, fun t ⟨ht, hti⟩ => ?_⟩
        · show wv s.out + 4294967296 ^ (s.i + 0) * 0 = wv (A.take s.i) * wv B + 4294967296 ^ s.i * (A.getD s.i 0 * wv (B.take 0))
          rw [hs.sum]; simp [wv]
        · have hti : (t.i : Int) = s.i := by simpa using hti
          have hti : t.i = s.i := by omega
          have hk := ht.hk
          have hl := ht.len
          have ek : IntKind.i64.wrap ((t.i : Int) + t.k) = ((t.i + t.k : Nat) : Int) := by rw [i64w (by omega) (by omega)]; omega
          have eb : IntKind.i64.wrap ((t.i : Int) + B.length) = ((t.i + B.length : Nat) : Int) := by rw [i64w (by omega) (by omega)]; omega
          have e1 : IntKind.i64.wrap ((t.k : Int) + 1) = ((t.k + 1 : Nat) : Int) := by rw [i64w (by omega) (by omega)]; omega
          have e2 : IntKind.i64.wrap ((t.i : Int) + 1) = ((t.i + 1 : Nat) : Int) := by rw [i64w (by omega) (by omega)]; omega
          simp only [ek, eb, e1, e2, Int.toNat_natCast]
          split
          · rename_i hkl
            obtain ⟨hp, h0, h1, hst⟩ := ht.step hwa hwb (by omega) _ rfl
            have ga := hwa.getD t.i
            have gb := hwb.getD t.k
            have go := ht.wd.getD (t.i + t.k)
            have hc := ht.c0
            have x1 : IntKind.u64.wrap (A.getD t.i 0) = A.getD t.i 0 := eu64 (by omega)
            have x2 : IntKind.u64.wrap (B.getD t.k 0) = B.getD t.k 0 := eu64 (by omega)
            have x3 : IntKind.u64.wrap (t.out.getD (t.i + t.k) 0) = t.out.getD (t.i + t.k) 0 := eu64 (by omega)
            have x4 : IntKind.u64.wrap (A.getD t.i 0 * B.getD t.k 0) = A.getD t.i 0 * B.getD t.k 0 := eu64 (by omega)
            have x5 : IntKind.u64.wrap (A.getD t.i 0 * B.getD t.k 0 + t.out.getD (t.i + t.k) 0) = A.getD t.i 0 * B.getD t.k 0 + t.out.getD (t.i + t.k) 0 := eu64 (by omega)
            have x6 : IntKind.u64.wrap (t.c + (A.getD t.i 0 * B.getD t.k 0 + t.out.getD (t.i + t.k) 0)) = A.getD t.i 0 * B.getD t.k 0 + t.out.getD (t.i + t.k) 0 + t.c := by rw [eu64 (by omega)]; omega
            simp only [x1, x2, x3, x4, x5, x6]
            rw [Int.fdiv_eq_ediv_of_nonneg _ (by omega), u32w]
            exact ⟨(by and_intros <;> first | exact True.intro | rfl | omega), (by and_intros <;> first | exact True.intro | rfl | omega), (by and_intros <;> first | exact True.intro | rfl | omega), by omega, (by and_intros <;> first | exact True.intro | rfl | omega), by omega, by omega, _, ⟨hst, by rw [hti]⟩, ⟨(by and_intros <;> first | exact True.intro | rfl | omega), ⟨(by and_intros <;> first | exact True.intro | rfl | omega), .inl (Nat.le_refl _)⟩, ⟨(by and_intros <;> first | exact True.intro | rfl | omega), .inl (Nat.le_refl _)⟩, ⟨(by and_intros <;> first | exact True.intro | rfl | omega), .inl (Nat.le_refl _)⟩, (by and_intros <;> first | exact True.intro | rfl | omega)⟩, by show B.length - (t.k + 1) < B.length - t.k; omega⟩
          · rename_i hkl
            have hc := ht.c0
            have e3 : IntKind.u32.wrap t.c = t.c := by rw [u32w]; omega
            rw [e3]
            exact ⟨(by and_intros <;> first | exact True.intro | rfl | omega), by omega, _, ht.done (by omega), ⟨(by and_intros <;> first | exact True.intro | rfl | omega), ⟨(by and_intros <;> first | exact True.intro | rfl | omega), .inl (Nat.le_refl _)⟩, ⟨(by and_intros <;> first | exact True.intro | rfl | omega), .inl (Nat.le_refl _)⟩, ⟨(by and_intros <;> first | exact True.intro | rfl | omega), .inl (Nat.le_refl _)⟩, (by and_intros <;> first | exact True.intro | rfl | omega)⟩, by show A.length - (t.i + 1) < A.length - s.i; omega⟩
      · rename_i hlt
        have e : s.i = A.length := by have := hs.hi; omega
        have hsum := hs.sum
        have hl := hs.len
        have e2 : s.out.take (A.length + B.length) = s.out := List.take_of_length_le (by omega)
        rw [e, List.take_length, ev1, ev2] at hsum
        rw [e2, hsum, sg_mul]
        exact ⟨⟨by omega, hs.wd, by omega⟩, rfl, .inr hab⟩
  · simp at h
def c_rmul : Ctr Tryd.prog := ⟨51, s_mul, fun args w => Tryd.call51 args w, fn_ok_facts mix Tryd.func51 s_mul p_rmul⟩

theorem vc_rsub (a b : Int) (n m : Nat) : (m ≤ (1000000 : Nat) ∧ (n ≤ (1000000 : Nat) ∧ m ≤ (1000000 : Nat)) ∧ a + -b = a - b ∧ (max n m + (1 : Nat) ≤ max n m + (1 : Nat) ∨ Int.natAbs (a + -b) < (2 : Nat) ^ (max n m + (1 : Nat)))) = evFn (env [c_radd, c_rneg] noAnn) Tryd.f83 [.big a n, .big b m] (MRes.sat (.ret (.big (a - b) (max n m + 1)))) := by kernel_rfl
theorem p_rsub : Good Tryd.f83 s_isub := by
  intro ms p r h hp
  unfold s_isub at h
  split at h
  · rename_i a n b m
    simp only [Option.some.injEq, Prod.mk.injEq] at h
    obtain ⟨rfl, rfl⟩ := h
    obtain ⟨hn, hm⟩ : n ≤ 1000000 ∧ m ≤ 1000000 := hp
    refine ⟨env [c_radd, c_rneg] noAnn, ?_⟩
    rw [← vc_rsub a b n m]
    exact ⟨hm, ⟨hn, hm⟩, by omega, .inl (Nat.le_refl _)⟩
  · simp at h
def c_rsub : Ctr Tryd.prog := ⟨83, s_isub, fun args w => Tryd.call83 args w, fn_ok mix Tryd.func83 s_isub p_rsub⟩

/-- The bits of a word, counted. -/
def a_rbits (z : Int) (n : Nat) : Nat → MS → Option LoopAnn
  | 5, _ => some (.inv (Nat × Nat) (fun s => s.1 + bl s.2 = bl z.natAbs ∧ s.2 < 4294967296 ∧ s.1 ≤ 1000000000) (fun s => ⟨29, [(1, .bp 0 0), (3, .int .i64 s.1), (4, .int .u32 s.2)], [⟨false, .one (.big z n)⟩], 0⟩) (fun s => s.2))
  | _, _ => none

end Go.Proofs.YtcikhffhikgahaaDoor

/-
  Contracts of functions: the reference of layer 1: bits, division.
-/
namespace Go.Proofs.YtcikhffhikgahaaDoor
open Go Go.RowKit

theorem vc_rbits (z : Int) (n : Nat) : (bif (↑(List.length (limbs (Int.natAbs z))) : Int) == (0 : Int) then (0 : Int) = (↑(bl (Int.natAbs z)) : Int) else ((0 : Int) ≤ IntKind.wrap IntKind.i64 ((↑(List.length (limbs (Int.natAbs z))) : Int) - (1 : Int)) ∧ IntKind.wrap IntKind.i64 ((↑(List.length (limbs (Int.natAbs z))) : Int) - (1 : Int)) < (↑(List.length (limbs (Int.natAbs z))) : Int)) ∧ (∃ i, (Prod.fst i + bl (Prod.snd i) = bl (Int.natAbs z) ∧ Prod.snd i < (4294967296 : Nat) ∧ Prod.fst i ≤ (1000000000 : Nat)) ∧ ((0 : Nat) = (0 : Nat) ∧ IntKind.wrap IntKind.i64 ((32 : Int) * IntKind.wrap IntKind.i64 ((↑(List.length (limbs (Int.natAbs z))) : Int) - (1 : Int))) = (↑(Prod.fst i) : Int) ∧ List.getD (limbs (Int.natAbs z)) (Int.toNat (IntKind.wrap IntKind.i64 ((↑(List.length (limbs (Int.natAbs z))) : Int) - (1 : Int)))) (0 : Int) = (↑(Prod.snd i) : Int) ∧ True) ∧ (z = z ∧ (n ≤ n ∨ Int.natAbs z < (2 : Nat) ^ n)) ∧ True) ∧ ∀ (i : Nat × Nat), Prod.fst i + bl (Prod.snd i) = bl (Int.natAbs z) ∧ Prod.snd i < (4294967296 : Nat) ∧ Prod.fst i ≤ (1000000000 : Nat) → bif decide ((↑(Prod.snd i) : Int) > (0 : Int)) then ((2 : Int) = (0 : Int) → False) ∧ ∃ j, (Prod.fst j + bl (Prod.snd j) = bl (Int.natAbs z) ∧ Prod.snd j < (4294967296 : Nat) ∧ Prod.fst j ≤ (1000000000 : Nat)) ∧ (((0 : Nat) = (0 : Nat) ∧ IntKind.wrap IntKind.i64 ((↑(Prod.fst i) : Int) + (1 : Int)) = (↑(Prod.fst j) : Int) ∧ IntKind.wrap IntKind.u32 (Int.tdiv (↑(Prod.snd i) : Int) (2 : Int)) = (↑(Prod.snd j) : Int) ∧ True) ∧ (z = z ∧ (n ≤ n ∨ Int.natAbs z < (2 : Nat) ^ n)) ∧ True) ∧ Prod.snd j < Prod.snd i else (↑(Prod.fst i) : Int) = (↑(bl (Int.natAbs z)) : Int)) = evFn (env [] (a_rbits z n)) Tryd.f84 [.big z n] (MRes.sat (.ret (.int .i64 (bl z.natAbs)))) := by kernel_rfl

theorem bl_half {x : Nat} (h : x ≠ 0) : bl x = bl (x / 2) + 1 := by
  by_cases h2 : x / 2 = 0
  · have : x = 1 := by omega
    subst this; decide
  · have := bl_mul (n := x / 2) h2 (x % 2) (k := 1) (by omega)
    rw [← this]; congr 1; omega

theorem p_rbits : GoodF Tryd.f84 s_bits := by
  intro ms p r h hp hf
  unfold s_bits at h
  split at h
  · rename_i z n
    simp only [Option.some.injEq, Prod.mk.injEq] at h
    obtain ⟨rfl, rfl⟩ := h
    have hn : n ≤ 1000000 := hp
    have hz : z.natAbs < 2 ^ n := hf.1
    refine ⟨env [] (a_rbits z n), ?_⟩
    rw [← vc_rbits z n, len_zero_iff]
    by_cases h0 : z = 0
    · subst h0
      rw [show decide ((0 : Int) = 0) = true from rfl, cond_true]; rfl
    · rw [decide_eq_false h0, cond_false]
      have hne : limbs z.natAbs ≠ [] := fun e => h0 (by have := limbs_eq_nil.1 e; omega)
      have hp : 0 < (limbs z.natAbs).length := List.length_pos_iff.2 hne
      have l1 := lim_len hz (by omega)
      have e1 : IntKind.i64.wrap (((limbs z.natAbs).length : Int) - 1) = (((limbs z.natAbs).length - 1 : Nat) : Int) := by rw [i64w (by omega) (by omega)]; omega
      have e2 : IntKind.i64.wrap ((32 : Int) * (((limbs z.natAbs).length - 1 : Nat) : Int)) = ((32 * ((limbs z.natAbs).length - 1) : Nat) : Int) := by rw [i64w (by omega) (by omega)]; omega
      have hb := bl_words (cn_limbs z.natAbs) hne
      rw [wvl, Int.toNat_natCast] at hb
      have hd := (limbs_wd z.natAbs).getD ((limbs z.natAbs).length - 1)
      have hbl : bl z.natAbs ≤ n := bl_le_of hz
      obtain ⟨x, hx⟩ : ∃ x : Nat, (limbs z.natAbs).getD ((limbs z.natAbs).length - 1) 0 = x := ⟨_, (Int.toNat_of_nonneg hd.1).symm⟩
      rw [e1, e2, Int.toNat_natCast, hx]
      rw [hx, Int.toNat_natCast] at hb
      refine ⟨(by and_intros <;> first | exact True.intro | rfl | omega), ⟨(32 * ((limbs z.natAbs).length - 1), x), ⟨hb.symm, by show x < _; omega, by show 32 * _ ≤ _; omega⟩, (by and_intros <;> first | exact True.intro | rfl | omega), ⟨rfl, .inl (Nat.le_refl _)⟩, True.intro⟩, ?_⟩
      rintro ⟨k, y⟩ ⟨h1, h2, h3⟩
      have h1 : k + bl y = bl z.natAbs := h1
      have h2 : y < 4294967296 := h2
      simp only [Bool.cond_decide]
      split
      · rename_i hy
        have hy0 : y ≠ 0 := by omega
        have hh := bl_half hy0
        have e3 : IntKind.i64.wrap ((k : Int) + 1) = ((k + 1 : Nat) : Int) := by rw [i64w (by omega) (by omega)]; omega
        have e4 : IntKind.u32.wrap (Int.tdiv (y : Int) 2) = ((y / 2 : Nat) : Int) := by
          have : Int.tdiv (y : Int) 2 = ((y / 2 : Nat) : Int) := rfl
          rw [this, eu32 (by omega)]
        rw [e3, e4]
        exact ⟨fun e => by omega, ⟨k + 1, y / 2⟩, ⟨by show k + 1 + bl (y / 2) = _; omega, by show y / 2 < _; omega, by show k + 1 ≤ _; omega⟩, ⟨(by and_intros <;> first | exact True.intro | rfl | omega), ⟨(by and_intros <;> first | exact True.intro | rfl | omega), .inl (Nat.le_refl _)⟩, (by and_intros <;> first | exact True.intro | rfl | omega)⟩, by show y / 2 < y; omega⟩
      · rename_i hy
        have : y = 0 := by omega
        subst this
        rw [bl_zero, Nat.add_zero] at h1
        rw [h1]
  · simp at h
def c_rbits : Ctr Tryd.prog := ⟨84, s_bits, fun args w => Tryd.call84 args w, fn_ok_facts mix Tryd.func84 s_bits p_rbits⟩

/-! ### reaches -/
def s_rreach : FSpec
  | [.ws a, .ws b] => some (some (Wd a ∧ Wd b ∧ a.length ≤ 1000000000 ∧ b.length ≤ 1000000000), .ret (.bool (decide (wv b ≤ wv a))))
  | _ => none
def a_rreach (a b : List Int) : Nat → MS → Option LoopAnn
  | 2, _ => some (.inv Nat (fun k => k ≤ max a.length b.length ∧ wv (a.drop k) = wv (b.drop k)) (fun k => ⟨30, [(0, .ws a), (1, .ws b), (5, .int .i64 ((k : Int) - 1))], [], 0⟩) id)
  | _, _ => none
theorem vc_rreach (a b : List Int) : ((∃ i, (i ≤ max (List.length a) (List.length b) ∧ wv (List.drop i a) = wv (List.drop i b)) ∧ (a = a ∧ b = b ∧ IntKind.wrap IntKind.i64 (maxI (↑(List.length a) : Int) (↑(List.length b) : Int) - (1 : Int)) = (↑i : Int) - (1 : Int) ∧ True) ∧ True) ∧ ∀ (i : Nat), i ≤ max (List.length a) (List.length b) ∧ wv (List.drop i a) = wv (List.drop i b) → bif decide ((↑i : Int) - (1 : Int) ≥ (0 : Int)) then (∀ (x : Int), x ∈ a → (0 : Int) ≤ x ∧ x < (4294967296 : Int)) ∧ (∀ (x : Int), x ∈ b → (0 : Int) ≤ x ∧ x < (4294967296 : Int)) ∧ bif wdg a ((↑i : Int) - (1 : Int)) != wdg b ((↑i : Int) - (1 : Int)) then (∀ (x : Int), x ∈ a → (0 : Int) ≤ x ∧ x < (4294967296 : Int)) ∧ (∀ (x : Int), x ∈ b → (0 : Int) ≤ x ∧ x < (4294967296 : Int)) ∧ decide (wdg a ((↑i : Int) - (1 : Int)) > wdg b ((↑i : Int) - (1 : Int))) = decide (wv b ≤ wv a) else ∃ j, (j ≤ max (List.length a) (List.length b) ∧ wv (List.drop j a) = wv (List.drop j b)) ∧ ((a = a ∧ b = b ∧ IntKind.wrap IntKind.i64 ((↑i : Int) - (1 : Int) - (1 : Int)) = (↑j : Int) - (1 : Int) ∧ True) ∧ True) ∧ id j < id i else true = decide (wv b ≤ wv a)) = evFn (env [c_rword] (a_rreach a b)) Tryd.f105 [.ws a, .ws b] (MRes.sat (.ret (.bool (decide (wv b ≤ wv a))))) := by kernel_rfl

/-! ### left -/
def s_rleft : List MV → Option (OProp × List Int)
  | [.ws l, .int .i64 n] => some (some (Wd l ∧ 0 ≤ n ∧ n ≤ 1000000000 ∧ l.length ≤ 1000000000), digs (n.toNat / 32 + l.length + 1) (wv l * 2 ^ n.toNat))
  | _ => none
structure RlI (l : List Int) (n : Nat) (s : DwS) : Prop where
  hk : s.k ≤ l.length + 1
  len : s.out.length = n / 32 + s.k
  wd : Wd s.out
  sum : wv s.out + 4294967296 ^ (n / 32 + s.k) * (wdg l ((s.k : Int) - 1) * 2 ^ (n % 32) / 4294967296) = wv (l.take s.k) * 2 ^ n
def a_rleft (l : List Int) (n : Nat) : Nat → MS → Option LoopAnn
  | 4, _ => some (.inv DwS (RlI l n) (fun s => ⟨38, [(0, .ws l), (5, .bs 0 0 (n / 32 + s.k)), (6, .int .u64 ((n % 32 : Nat) : Int)), (7, .int .i64 s.k)], [⟨false, .arr .u32 s.out⟩], 0⟩) (fun s => l.length + 1 - s.k))
  | _, _ => none
theorem vc_rleft (l : List Int) (n : Nat) : (((32 : Int) = (0 : Int) → False) ∧ ((0 : Int) ≤ IntKind.wrap IntKind.i64 (Int.tdiv (↑n : Int) (32 : Int)) ∧ IntKind.wrap IntKind.i64 (Int.tdiv (↑n : Int) (32 : Int)) = IntKind.wrap IntKind.i64 (Int.tdiv (↑n : Int) (32 : Int)) ∧ (↑(4 : Nat) : Int) * IntKind.wrap IntKind.i64 (Int.tdiv (↑n : Int) (32 : Int)) ≤ (140737488355328 : Int)) ∧ ((32 : Int) = (0 : Int) → False) ∧ (∃ i, RlI l n i ∧ (l = l ∧ ((0 : Nat) = (0 : Nat) ∧ Int.toNat (IntKind.wrap IntKind.i64 (Int.tdiv (↑n : Int) (32 : Int))) = n / (32 : Nat) + DwS.k i) ∧ IntKind.wrap IntKind.u64 (Int.tmod (↑n : Int) (32 : Int)) = (↑(n % (32 : Nat)) : Int) ∧ (0 : Int) = (↑(DwS.k i) : Int) ∧ True) ∧ List.replicate (Int.toNat (IntKind.wrap IntKind.i64 (Int.tdiv (↑n : Int) (32 : Int)))) (0 : Int) = DwS.out i ∧ True) ∧ ∀ (i : DwS), RlI l n i → bif decide ((↑(DwS.k i) : Int) ≤ (↑(List.length l) : Int)) then (∀ (x : Int), x ∈ l → (0 : Int) ≤ x ∧ x < (4294967296 : Int)) ∧ (0 : Int) ≤ (↑(n % (32 : Nat)) : Int) ∧ (∀ (x : Int), x ∈ l → (0 : Int) ≤ x ∧ x < (4294967296 : Int)) ∧ (0 : Int) ≤ (↑(n % (32 : Nat)) : Int) ∧ (0 : Int) ≤ (32 : Int) ∧ ((0 : Nat) + (1 : Nat) ≤ List.length [IntKind.wrap IntKind.u32 (IntKind.wrap IntKind.u64 (↑(BitVec.toNat (BitVec.ofInt (IntKind.bits IntKind.u64) (IntKind.wrap IntKind.u64 (wdg l (↑(DwS.k i) : Int) * (2 : Int) ^ min (Int.toNat (↑(n % (32 : Nat)) : Int)) (IntKind.bits IntKind.u64))) ||| BitVec.ofInt (IntKind.bits IntKind.u64) (Int.fdiv (IntKind.wrap IntKind.u64 (wdg l (IntKind.wrap IntKind.i64 ((↑(DwS.k i) : Int) - (1 : Int))) * (2 : Int) ^ min (Int.toNat (↑(n % (32 : Nat)) : Int)) (IntKind.bits IntKind.u64))) ((2 : Int) ^ min (Int.toNat (32 : Int)) (IntKind.bits IntKind.u64))))) : Int))] ∧ n / (32 : Nat) + DwS.k i ≤ List.length (DwS.out i) ∧ (n / (32 : Nat) + DwS.k i + News.len (News.ints IntKind.u32 (List.take (1 : Nat) (List.drop (0 : Nat) [IntKind.wrap IntKind.u32 (IntKind.wrap IntKind.u64 (↑(BitVec.toNat (BitVec.ofInt (IntKind.bits IntKind.u64) (IntKind.wrap IntKind.u64 (wdg l (↑(DwS.k i) : Int) * (2 : Int) ^ min (Int.toNat (↑(n % (32 : Nat)) : Int)) (IntKind.bits IntKind.u64))) ||| BitVec.ofInt (IntKind.bits IntKind.u64) (Int.fdiv (IntKind.wrap IntKind.u64 (wdg l (IntKind.wrap IntKind.i64 ((↑(DwS.k i) : Int) - (1 : Int))) * (2 : Int) ^ min (Int.toNat (↑(n % (32 : Nat)) : Int)) (IntKind.bits IntKind.u64))) ((2 : Int) ^ min (Int.toNat (32 : Int)) (IntKind.bits IntKind.u64))))) : Int))])))) * (4 : Nat) ≤ (140737488355328 : Nat)) ∧ ∃ j, RlI l n j ∧ ((l = l ∧ ((0 : Nat) = (0 : Nat) ∧ n / (32 : Nat) + DwS.k i + News.len (News.ints IntKind.u32 (List.take (1 : Nat) (List.drop (0 : Nat) [IntKind.wrap IntKind.u32 (IntKind.wrap IntKind.u64 (↑(BitVec.toNat (BitVec.ofInt (IntKind.bits IntKind.u64) (IntKind.wrap IntKind.u64 (wdg l (↑(DwS.k i) : Int) * (2 : Int) ^ min (Int.toNat (↑(n % (32 : Nat)) : Int)) (IntKind.bits IntKind.u64))) ||| BitVec.ofInt (IntKind.bits IntKind.u64) (Int.fdiv (IntKind.wrap IntKind.u64 (wdg l (IntKind.wrap IntKind.i64 ((↑(DwS.k i) : Int) - (1 : Int))) * (2 : Int) ^ min (Int.toNat (↑(n % (32 : Nat)) : Int)) (IntKind.bits IntKind.u64))) ((2 : Int) ^ min (Int.toNat (32 : Int)) (IntKind.bits IntKind.u64))))) : Int))]))) = n / (32 : Nat) + DwS.k j) ∧ (↑(n % (32 : Nat)) : Int) = (↑(n % (32 : Nat)) : Int) ∧ IntKind.wrap IntKind.i64 ((↑(DwS.k i) : Int) + (1 : Int)) = (↑(DwS.k j) : Int) ∧ True) ∧ List.take (n / (32 : Nat) + DwS.k i) (DwS.out i) ++ List.take (1 : Nat) (List.drop (0 : Nat) [IntKind.wrap IntKind.u32 (IntKind.wrap IntKind.u64 (↑(BitVec.toNat (BitVec.ofInt (IntKind.bits IntKind.u64) (IntKind.wrap IntKind.u64 (wdg l (↑(DwS.k i) : Int) * (2 : Int) ^ min (Int.toNat (↑(n % (32 : Nat)) : Int)) (IntKind.bits IntKind.u64))) ||| BitVec.ofInt (IntKind.bits IntKind.u64) (Int.fdiv (IntKind.wrap IntKind.u64 (wdg l (IntKind.wrap IntKind.i64 ((↑(DwS.k i) : Int) - (1 : Int))) * (2 : Int) ^ min (Int.toNat (↑(n % (32 : Nat)) : Int)) (IntKind.bits IntKind.u64))) ((2 : Int) ^ min (Int.toNat (32 : Int)) (IntKind.bits IntKind.u64))))) : Int))]) = DwS.out j ∧ True) ∧ List.length l + (1 : Nat) - DwS.k j < List.length l + (1 : Nat) - DwS.k i else (0 : Nat) = (0 : Nat) ∧ n / (32 : Nat) + DwS.k i = List.length (digs (n / (32 : Nat) + List.length l + (1 : Nat)) (wv l * (2 : Int) ^ n)) ∧ (0 : Nat) < n / (32 : Nat) + DwS.k i ∧ List.take (n / (32 : Nat) + DwS.k i) (DwS.out i) = digs (n / (32 : Nat) + List.length l + (1 : Nat)) (wv l * (2 : Int) ^ n)) = evNFn (env [c_rword] (a_rleft l n)) Tryd.f104 [.ws l, .int .i64 n] (digs (n / 32 + l.length + 1) (wv l * 2 ^ n)) := by kernel_rfl

/-! ### half, take -/
def s_rhalf : List MV → List BC → Option (OProp × List BC)
  | [.bs 0 0 n], [.arr .u32 l] => some (some (Wd l ∧ n = l.length ∧ n ≤ 1000000000), [.arr .u32 (digs l.length (wv l / 2))])
  | _, _ => none
def a_rhalf (l : List Int) : Nat → MS → Option LoopAnn
  | 1, _ => some (.inv DwS (fun s => ShrI l 1 s ∧ s.out.drop s.k = l.drop s.k) (fun s => ⟨23, [(0, .bs 0 0 l.length), (2, .int .i64 s.k)], [⟨false, .arr .u32 s.out⟩], 1⟩) (fun s => l.length - s.k))
  | _, _ => none
theorem vc_rhalf (l : List Int) : ((∃ i, (ShrI l (1 : Nat) i ∧ List.drop (DwS.k i) (DwS.out i) = List.drop (DwS.k i) l) ∧ (((0 : Nat) = (0 : Nat) ∧ List.length l = List.length l) ∧ (0 : Int) = (↑(DwS.k i) : Int) ∧ True) ∧ l = DwS.out i ∧ True) ∧ ∀ (i : DwS), ShrI l (1 : Nat) i ∧ List.drop (DwS.k i) (DwS.out i) = List.drop (DwS.k i) l → bif decide ((↑(DwS.k i) : Int) < (↑(List.length l) : Int)) then ((0 : Nat) + List.length l ≤ List.length (DwS.out i) ∧ ∀ (x : Int), x ∈ List.take (List.length l) (List.drop (0 : Nat) (DwS.out i)) → (0 : Int) ≤ x ∧ x < (4294967296 : Int)) ∧ (0 : Int) ≤ (1 : Int) ∧ ((0 : Nat) + List.length l ≤ List.length (DwS.out i) ∧ ∀ (x : Int), x ∈ List.take (List.length l) (List.drop (0 : Nat) (DwS.out i)) → (0 : Int) ≤ x ∧ x < (4294967296 : Int)) ∧ (0 : Int) ≤ (31 : Int) ∧ ((0 : Int) ≤ (↑(DwS.k i) : Int) ∧ (↑(DwS.k i) : Int) < (↑(List.length l) : Int)) ∧ (0 : Nat) + Int.toNat (↑(DwS.k i) : Int) < List.length (DwS.out i) ∧ ∃ j, (ShrI l (1 : Nat) j ∧ List.drop (DwS.k j) (DwS.out j) = List.drop (DwS.k j) l) ∧ ((((0 : Nat) = (0 : Nat) ∧ List.length l = List.length l) ∧ IntKind.wrap IntKind.i64 ((↑(DwS.k i) : Int) + (1 : Int)) = (↑(DwS.k j) : Int) ∧ True) ∧ List.set (DwS.out i) ((0 : Nat) + Int.toNat (↑(DwS.k i) : Int)) (IntKind.wrap IntKind.u32 (IntKind.wrap IntKind.u64 (↑(BitVec.toNat (BitVec.ofInt (IntKind.bits IntKind.u64) (Int.fdiv (wdg (List.take (List.length l) (List.drop (0 : Nat) (DwS.out i))) (↑(DwS.k i) : Int)) ((2 : Int) ^ min (Int.toNat (1 : Int)) (IntKind.bits IntKind.u64))) ||| BitVec.ofInt (IntKind.bits IntKind.u64) (IntKind.wrap IntKind.u64 (wdg (List.take (List.length l) (List.drop (0 : Nat) (DwS.out i))) (IntKind.wrap IntKind.i64 ((↑(DwS.k i) : Int) + (1 : Int))) * (2 : Int) ^ min (Int.toNat (31 : Int)) (IntKind.bits IntKind.u64))))) : Int))) = DwS.out j ∧ True) ∧ List.length l - DwS.k j < List.length l - DwS.k i else DwS.out i = digs (List.length l) (wv l / (2 : Int)) ∧ True) = evMFn (env [c_rword] (a_rhalf l)) Tryd.f107 [.bs 0 0 l.length] [.arr .u32 l] [.arr .u32 (digs l.length (wv l / 2))] := by kernel_rfl
def s_rtake : List MV → List BC → Option (OProp × List BC)
  | [.bs 0 0 n, .bs 1 0 m], [.arr .u32 a, .arr .u32 b] => some (some (Wd a ∧ Wd b ∧ n = a.length ∧ m = b.length ∧ n ≤ 1000000000 ∧ wv b ≤ wv a), [.arr .u32 (digs a.length (wv a - wv b)), .arr .u32 b])
  | _, _ => none
def a_rtake (a b : List Int) : Nat → MS → Option LoopAnn
  | 2, _ => some (.inv AddS (SubI a b) (fun s => ⟨33, [(0, .bs 0 0 a.length), (1, .bs 1 0 b.length), (4, .int .u64 s.c), (5, .int .i64 s.i)], [⟨false, .arr .u32 s.out⟩, ⟨false, .arr .u32 b⟩], 2⟩) (fun s => a.length - s.i))
  | _, _ => none
theorem vc_rtake (a b : List Int) : ((∃ i, SubI a b i ∧ (((0 : Nat) = (0 : Nat) ∧ List.length a = List.length a) ∧ ((0 : Nat) = (0 : Nat) ∧ List.length b = List.length b) ∧ (0 : Int) = AddS.c i ∧ (0 : Int) = (↑(AddS.i i) : Int) ∧ True) ∧ a = AddS.out i ∧ b = b ∧ True) ∧ ∀ (i : AddS), SubI a b i → bif decide ((↑(AddS.i i) : Int) < (↑(List.length a) : Int)) then ((0 : Int) ≤ (↑(AddS.i i) : Int) ∧ (↑(AddS.i i) : Int) < (↑(List.length a) : Int)) ∧ (0 : Nat) + Int.toNat (↑(AddS.i i) : Int) < List.length (AddS.out i) ∧ ((0 : Nat) + List.length b ≤ List.length b ∧ ∀ (x : Int), x ∈ List.take (List.length b) (List.drop (0 : Nat) b) → (0 : Int) ≤ x ∧ x < (4294967296 : Int)) ∧ ((0 : Int) ≤ (↑(AddS.i i) : Int) ∧ (↑(AddS.i i) : Int) < (↑(List.length a) : Int)) ∧ (0 : Nat) + Int.toNat (↑(AddS.i i) : Int) < List.length (AddS.out i) ∧ (0 : Int) ≤ (32 : Int) ∧ ∃ j, SubI a b j ∧ ((((0 : Nat) = (0 : Nat) ∧ List.length a = List.length a) ∧ ((0 : Nat) = (0 : Nat) ∧ List.length b = List.length b) ∧ IntKind.wrap IntKind.u64 ((1 : Int) - Int.fdiv (IntKind.wrap IntKind.u64 (IntKind.wrap IntKind.u64 (IntKind.wrap IntKind.u64 ((4294967296 : Int) + IntKind.wrap IntKind.u64 (List.getD (AddS.out i) ((0 : Nat) + Int.toNat (↑(AddS.i i) : Int)) (0 : Int))) - wdg (List.take (List.length b) (List.drop (0 : Nat) b)) (↑(AddS.i i) : Int)) - AddS.c i)) ((2 : Int) ^ min (Int.toNat (32 : Int)) (IntKind.bits IntKind.u64))) = AddS.c j ∧ IntKind.wrap IntKind.i64 ((↑(AddS.i i) : Int) + (1 : Int)) = (↑(AddS.i j) : Int) ∧ True) ∧ List.set (AddS.out i) ((0 : Nat) + Int.toNat (↑(AddS.i i) : Int)) (IntKind.wrap IntKind.u32 (IntKind.wrap IntKind.u64 (IntKind.wrap IntKind.u64 (IntKind.wrap IntKind.u64 ((4294967296 : Int) + IntKind.wrap IntKind.u64 (List.getD (AddS.out i) ((0 : Nat) + Int.toNat (↑(AddS.i i) : Int)) (0 : Int))) - wdg (List.take (List.length b) (List.drop (0 : Nat) b)) (↑(AddS.i i) : Int)) - AddS.c i))) = AddS.out j ∧ b = b ∧ True) ∧ List.length a - AddS.i j < List.length a - AddS.i i else AddS.out i = digs (List.length a) (wv a - wv b) ∧ b = b ∧ True) = evMFn (env [c_rword] (a_rtake a b)) Tryd.f106 [.bs 0 0 a.length, .bs 1 0 b.length] [.arr .u32 a, .arr .u32 b] [.arr .u32 (digs a.length (wv a - wv b)), .arr .u32 b] := by kernel_rfl

theorem wv_decide2 {a b : List Int} {k : Nat} (ha : Wd a) (hb : Wd b) (hd : wv (a.drop (k + 1)) = wv (b.drop (k + 1))) (h : a.getD k 0 < b.getD k 0) : wv a < wv b := by
  have h1 := wv_take_drop a k
  have h2 := wv_take_drop b k
  rw [getD_drop_wv] at h1 h2
  rw [hd] at h1
  have h3 := wv_take_lt ha k
  have h4 := wv_take_lt hb k
  have hp := pow_pos32 k
  have h6 : (4294967296 : Int) ^ k * (a.getD k 0 + 4294967296 * wv (b.drop (k + 1)) + 1) ≤ 4294967296 ^ k * (b.getD k 0 + 4294967296 * wv (b.drop (k + 1))) := Int.mul_le_mul_of_nonneg_left (by omega) (by omega)
  rw [Int.mul_add _ _ 1] at h6
  omega

theorem p_rreach : Good Tryd.f105 s_rreach := by
  intro ms p r h hp
  unfold s_rreach at h
  split at h
  · rename_i a b
    simp only [Option.some.injEq, Prod.mk.injEq] at h
    obtain ⟨rfl, rfl⟩ := h
    obtain ⟨ha, hb, la, lb⟩ : Wd a ∧ Wd b ∧ a.length ≤ 1000000000 ∧ b.length ≤ 1000000000 := hp
    refine ⟨env [c_rword] (a_rreach a b), ?_⟩
    rw [← vc_rreach a b]
    have hm : maxI (a.length : Int) (b.length : Int) = ((max a.length b.length : Nat) : Int) := by unfold maxI; split <;> omega
    rw [hm]
    refine ⟨⟨max a.length b.length, ⟨Nat.le_refl _, by rw [List.drop_of_length_le (by omega), List.drop_of_length_le (by omega)]⟩, ⟨rfl, rfl, i64w (by omega) (by omega), True.intro⟩, True.intro⟩, fun i ⟨hi, hd⟩ => ?_⟩
    rw [Bool.cond_decide]
    split
    · rename_i h0
      obtain ⟨k, rfl⟩ : ∃ k, i = k + 1 := ⟨i - 1, by omega⟩
      have e1 : (((k + 1 : Nat) : Int) - 1) = (k : Int) := by omega
      simp only [e1, wdg_nat]
      refine ⟨ha, hb, ?_⟩
      cases hc : (a.getD k 0 != b.getD k 0) with
      | true =>
        rw [cond_true]
        have hne : a.getD k 0 ≠ b.getD k 0 := by simpa using hc
        refine ⟨ha, hb, decide_eq_decide.2 ⟨fun h => ?_, fun h => ?_⟩⟩
        · have := wv_decide2 hb ha hd.symm h; omega
        · rcases Int.lt_or_gt_of_ne hne with q | q
          · have := wv_decide2 ha hb hd q; omega
          · exact q
      | false =>
        rw [cond_false]
        have he : a.getD k 0 = b.getD k 0 := by simpa using hc
        exact ⟨k, ⟨by omega, by rw [getD_drop_wv (a := a) k, getD_drop_wv (a := b) k, he, hd]⟩, ⟨⟨(by and_intros <;> first | exact True.intro | rfl | omega), (by and_intros <;> first | exact True.intro | rfl | omega), i64w (by omega) (by omega), True.intro⟩, True.intro⟩, Nat.lt_succ_self k⟩
    · have : i = 0 := by omega
      subst this
      rw [List.drop_zero, List.drop_zero] at hd
      exact (decide_eq_true (by omega)).symm
  · simp at h
def c_rreach : Ctr Tryd.prog := ⟨105, s_rreach, fun args w => Tryd.call105 args w, fn_ok mix Tryd.func105 s_rreach p_rreach⟩

theorem RlI.step {l : List Int} {n : Nat} {s : DwS} (h : RlI l n s) (hl : Wd l) (hk : s.k ≤ l.length) :
    ShlW (l.getD s.k 0) (wdg l ((s.k : Int) - 1) * 2 ^ (n % 32) / 4294967296) (n % 32) ∧ ShlW (wdg l ((s.k : Int) - 1)) 0 (n % 32) ∧
    RlI l n ⟨s.k + 1, s.out ++ [l.getD s.k 0 * 2 ^ (n % 32) % 4294967296 + wdg l ((s.k : Int) - 1) * 2 ^ (n % 32) / 4294967296], s.c⟩ := by
  have hc : n % 32 < 32 := Nat.mod_lt _ (by omega)
  have hp : (0 : Int) < 2 ^ (n % 32) := Int.pow_pos (by omega)
  have W0 := shl_word (x := wdg l ((s.k : Int) - 1)) (o := 0) hc (wdg_wd hl _) ⟨Int.le_refl _, hp⟩
  have W1 := shl_word (x := l.getD s.k 0) (o := wdg l ((s.k : Int) - 1) * 2 ^ (n % 32) / 4294967296) hc (hl.getD _) ⟨W0.q0, W0.q1⟩
  refine ⟨W1, W0, by show s.k + 1 ≤ _; omega, by simp [h.len]; omega, h.wd.append (Wd.one ⟨by have := W1.a0; have := W0.q0; omega, W1.a1⟩), ?_⟩
  show wv (s.out ++ [_]) + 4294967296 ^ (n / 32 + (s.k + 1)) * (wdg l (((s.k + 1 : Nat) : Int) - 1) * 2 ^ (n % 32) / 4294967296) = wv (l.take (s.k + 1)) * 2 ^ n
  have e1 : (((s.k + 1 : Nat) : Int) - 1) = (s.k : Int) := by omega
  rw [e1, wdg_nat, wv_append, wv_one, h.len, wv_take_succ, Int.add_mul, ← h.sum, show n / 32 + (s.k + 1) = n / 32 + s.k + 1 by omega, Int.pow_succ]
  have h5 := carry_step (4294967296 ^ (n / 32 + s.k)) (l.getD s.k 0 * 2 ^ (n % 32))
  have h6 : (4294967296 : Int) ^ s.k * l.getD s.k 0 * 2 ^ n = 4294967296 ^ (n / 32 + s.k) * (l.getD s.k 0 * 2 ^ (n % 32)) := by
    have e : (2 : Int) ^ n = 4294967296 ^ (n / 32) * 2 ^ (n % 32) := by
      rw [show (4294967296 : Int) = 2 ^ 32 from rfl, ← Int.pow_mul, ← Int.pow_add]; congr 1; omega
    rw [e, Int.pow_add]; grind
  rw [h6, h5, Int.mul_add]
  omega

theorem p_rleft : ∀ ms p l, s_rleft ms = some (p, l) → p.holds → ∃ E : Env Tryd.prog, evNFn E Tryd.f104 ms l := by
  intro ms p r h hp
  unfold s_rleft at h
  split at h
  · rename_i l n0
    simp only [Option.some.injEq, Prod.mk.injEq] at h
    obtain ⟨rfl, rfl⟩ := h
    obtain ⟨hl, hn0, hn, ll⟩ : Wd l ∧ 0 ≤ n0 ∧ n0 ≤ 1000000000 ∧ l.length ≤ 1000000000 := hp
    obtain ⟨n, rfl⟩ := Int.eq_ofNat_of_zero_le hn0
    have hn : n ≤ 1000000000 := by omega
    have hc : n % 32 < 32 := Nat.mod_lt n (by omega)
    refine ⟨env [c_rword] (a_rleft l n), ?_⟩
    rw [show ((n : Int)).toNat = n from rfl, ← vc_rleft l n]
    have em : IntKind.i64.wrap (Int.tdiv (n : Int) 32) = ((n / 32 : Nat) : Int) := by
      have e : Int.tdiv (n : Int) 32 = ((n / 32 : Nat) : Int) := rfl
      rw [e, i64w (by omega) (by omega)]
    have er : IntKind.u64.wrap (Int.tmod (n : Int) 32) = ((n % 32 : Nat) : Int) := by
      have e : Int.tmod (n : Int) 32 = ((n % 32 : Nat) : Int) := rfl
      rw [e, eu64 (by omega)]
    simp only [em, er, Int.toNat_natCast, pmin2 hc, p32, digs_len, ones, news1]
    refine ⟨fun e => by omega, (by and_intros <;> first | exact True.intro | rfl | omega), fun e => by omega, ⟨⟨0, List.replicate (n / 32) 0, 0⟩, ⟨Nat.zero_le _, by simp, Wd.replicate _, ?_⟩, (by and_intros <;> first | exact True.intro | rfl | omega)⟩, ?_⟩
    · show wv (List.replicate _ 0) + _ * (wdg l (((0 : Nat) : Int) - 1) * _ / _) = wv (l.take 0) * _
      have : wdg l (((0 : Nat) : Int) - 1) = 0 := rfl
      rw [wv_replicate, this]; simp [wv]
    · rintro ⟨k, out, c⟩ hI
      have hk : k ≤ l.length + 1 := hI.hk
      have hlen : out.length = n / 32 + k := hI.len
      have e1 : IntKind.i64.wrap ((k : Int) + 1) = ((k + 1 : Nat) : Int) := by rw [i64w (by omega) (by omega)]; omega
      have e2 : IntKind.i64.wrap ((k : Int) - 1) = (k : Int) - 1 := i64w (by omega) (by omega)
      have e6 : List.take (n / 32 + k) out = out := List.take_of_length_le (by omega)
      simp only [e1, e2, wdg_nat, e6]
      rw [Bool.cond_decide]
      split
      · rename_i hlt
        obtain ⟨W1, W0, hst⟩ := hI.step hl (by show k ≤ l.length; omega)
        have W1 : ShlW (l.getD k 0) (wdg l ((k : Int) - 1) * 2 ^ (n % 32) / 4294967296) (n % 32) := W1
        have W0 : ShlW (wdg l ((k : Int) - 1)) 0 (n % 32) := W0
        have x1 : IntKind.u64.wrap (l.getD k 0 * 2 ^ (n % 32)) = l.getD k 0 * 2 ^ (n % 32) := eu64 ⟨W1.t0, W1.t1⟩
        have x2 : IntKind.u64.wrap (wdg l ((k : Int) - 1) * 2 ^ (n % 32)) = wdg l ((k : Int) - 1) * 2 ^ (n % 32) := eu64 ⟨W0.t0, W0.t1⟩
        have x3 : Int.fdiv (wdg l ((k : Int) - 1) * 2 ^ (n % 32)) 4294967296 = wdg l ((k : Int) - 1) * 2 ^ (n % 32) / 4294967296 := Int.fdiv_eq_ediv_of_nonneg _ (by omega)
        have hP : ((2 ^ (n % 32) : Nat) : Int) = (2 : Int) ^ (n % 32) := cast_pow2 _
        have hlk := hl.getD k
        have hdv : (l.getD k 0 * 2 ^ (n % 32)).toNat % 2 ^ (n % 32) = 0 := by
          obtain ⟨y, hy⟩ := Int.eq_ofNat_of_zero_le hlk.1
          rw [hy, ← hP, ← Int.natCast_mul, Int.toNat_natCast, Nat.mul_mod_left]
        have q0 := W0.q0
        have q1 := W0.q1
        have t1 := W1.t1
        have a1 := W1.a1
        have ht64 : l.getD k 0 * 2 ^ (n % 32) + wdg l ((k : Int) - 1) * 2 ^ (n % 32) / 4294967296 < 18446744073709551616 := by
          have := W1.a1
          have := Int.mul_ediv_add_emod (l.getD k 0 * 2 ^ (n % 32)) 4294967296
          have := W1.q2
          omega
        have x4 := or64 (A := l.getD k 0 * 2 ^ (n % 32)) (y := wdg l ((k : Int) - 1) * 2 ^ (n % 32) / 4294967296) (n % 32) W1.t0 W1.t1 hdv q0 (by omega) ht64
        have x5 : IntKind.u32.wrap (l.getD k 0 * 2 ^ (n % 32) + wdg l ((k : Int) - 1) * 2 ^ (n % 32) / 4294967296) = l.getD k 0 * 2 ^ (n % 32) % 4294967296 + wdg l ((k : Int) - 1) * 2 ^ (n % 32) / 4294967296 := by
          rw [u32w]
          have := W1.a0
          omega
        simp only [x1, x2, x3, x4, x5]
        exact ⟨hl, by omega, hl, by omega, by omega, ⟨by simp, by omega, by omega⟩, _, hst, (by and_intros <;> first | exact True.intro | rfl | omega), by show l.length + 1 - (k + 1) < l.length + 1 - k; omega⟩
      · rename_i hge
        have hE : k = l.length + 1 := by omega
        have hs : wv out + 4294967296 ^ (n / 32 + k) * (wdg l ((k : Int) - 1) * 2 ^ (n % 32) / 4294967296) = wv (l.take k) * 2 ^ n := hI.sum
        have hz : wdg l ((k : Int) - 1) = 0 := by
          rw [hE, show (((l.length + 1 : Nat) : Int) - 1) = ((l.length : Nat) : Int) by omega, wdg_nat]; simp
        rw [hz, Int.zero_mul, Int.zero_ediv, Int.mul_zero, Int.add_zero, wv_take_all (by omega)] at hs
        have hd := digs_wv (l := out) hI.wd
        rw [hs, hlen, hE] at hd
        exact ⟨(by and_intros <;> first | exact True.intro | rfl | omega), by omega, by omega, by rw [← hd]; rfl⟩
  · simp at h
def n_rleft : Mu Tryd.prog := .nw ⟨104, s_rleft, fun args w => Tryd.call104 args w, evNFn_ok mix Tryd.func104 s_rleft p_rleft⟩

theorem wdg_take {l : List Int} {n : Nat} (h : l.length ≤ n) (i : Int) : wdg (List.take n (List.drop 0 l)) i = wdg l i := by
  rw [List.drop_zero, List.take_of_length_le h]

theorem p_rhalf : ∀ ms bcs p bcs', s_rhalf ms bcs = some (p, bcs') → p.holds → bcs'.length = bcs.length ∧ ∃ E : Env Tryd.prog, evMFn E Tryd.f107 ms bcs bcs' := by
  intro ms bcs p r h hp
  unfold s_rhalf at h
  split at h
  · rename_i n l
    simp only [Option.some.injEq, Prod.mk.injEq] at h
    obtain ⟨rfl, rfl⟩ := h
    obtain ⟨hl, rfl, ll⟩ : Wd l ∧ n = l.length ∧ n ≤ 1000000000 := hp
    refine ⟨rfl, env [c_rword] (a_rhalf l), ?_⟩
    rw [← vc_rhalf l]
    refine ⟨⟨⟨0, l, 0⟩, ⟨⟨Nat.zero_le _, rfl, hl, by simp [wv, Int.emod_one]⟩, rfl⟩, (by and_intros <;> first | exact True.intro | rfl | omega)⟩, ?_⟩
    rintro ⟨k, out, c⟩ ⟨hI, hrest⟩
    have hk : k ≤ l.length := hI.hk
    have hlen : out.length = l.length := hI.len
    have hw : Wd out := hI.wd
    have hrest : out.drop k = l.drop k := hrest
    have e1 : IntKind.i64.wrap ((k : Int) + 1) = ((k + 1 : Nat) : Int) := by rw [i64w (by omega) (by omega)]; omega
    have hx := hw.getD k
    have hy := hw.getD (k + 1)
    have p1 : ((2 : Int) ^ min (Int.toNat 1) (IntKind.bits IntKind.u64)) = 2 := by decide +kernel
    have p31' : ((2 : Int) ^ min (Int.toNat 31) (IntKind.bits IntKind.u64)) = 2147483648 := by decide +kernel
    have e3 : Int.fdiv (out.getD k 0) 2 = out.getD k 0 / 2 := Int.fdiv_eq_ediv_of_nonneg _ (by omega)
    have e4 : IntKind.u64.wrap (out.getD (k + 1) 0 * 2147483648) = out.getD (k + 1) 0 * 2147483648 := eu64 (by omega)
    have e5 : IntKind.u64.wrap (↑(BitVec.ofInt (IntKind.bits IntKind.u64) (out.getD k 0 / 2) ||| BitVec.ofInt (IntKind.bits IntKind.u64) (out.getD (k + 1) 0 * 2147483648)).toNat) = out.getD (k + 1) 0 * 2147483648 + out.getD k 0 / 2 := by
      rw [BitVec.or_comm]
      exact or64 31 (by omega) (by omega) (by omega) (by omega) (by omega) (by omega)
    simp only [e1, wdg_take (show out.length ≤ l.length by omega), wdg_nat, p1, p31', e3, e4, e5, u32w (out.getD (k + 1) 0 * 2147483648 + out.getD k 0 / 2), Bool.cond_decide, Int.toNat_natCast, Nat.zero_add]
    split
    · rename_i hlt
      have hlt : k < l.length := by omega
      have g0 : out.getD k 0 = l.getD k 0 := getD_of_drop hrest k (Nat.le_refl _)
      have g1 : out.getD (k + 1) 0 = l.getD (k + 1) 0 := getD_of_drop hrest (k + 1) (by omega)
      have hst := hI.step hl (by omega) hlt ((out.getD (k + 1) 0 * 2147483648 + out.getD k 0 / 2) % 4294967296) (by
        show _ = (l.getD k 0 + 4294967296 * l.getD (k + 1) 0) / 2 ^ 1 % 4294967296
        rw [g0, g1]
        have : (2 : Int) ^ 1 = 2 := rfl
        rw [this]; omega)
      exact ⟨⟨by omega, fun x hx => (hw.drop 0).take _ x hx⟩, by omega, ⟨by omega, fun x hx => (hw.drop 0).take _ x hx⟩, by omega, (by and_intros <;> first | exact True.intro | rfl | omega), by omega, _, ⟨hst, by show (out.set k _).drop (k + 1) = l.drop (k + 1); rw [drop_set]; exact drop_of_drop hrest⟩, (by and_intros <;> first | exact True.intro | rfl | omega), by show l.length - (k + 1) < l.length - k; omega⟩
    · rename_i hge
      have hE : k = l.length := by omega
      have hs : wv (out.take k) = wv l / 2 ^ 1 % 4294967296 ^ k := hI.sum
      rw [hE, wv_take_all (by omega)] at hs
      have h0 := wv_nonneg hl
      have h1 := wv_lt hl
      have h2 : (2 : Int) ^ 1 = 2 := rfl
      rw [h2, Int.emod_eq_of_lt (by omega) (by omega)] at hs
      have hd := digs_wv hw
      rw [hs, hlen] at hd
      exact ⟨hd.symm, True.intro⟩
  · simp at h
def n_rhalf : Mu Tryd.prog := .wr ⟨107, s_rhalf, fun args w => Tryd.call107 args w, fn_mok mix Tryd.func107 s_rhalf p_rhalf⟩

theorem p_rtake : ∀ ms bcs p bcs', s_rtake ms bcs = some (p, bcs') → p.holds → bcs'.length = bcs.length ∧ ∃ E : Env Tryd.prog, evMFn E Tryd.f106 ms bcs bcs' := by
  intro ms bcs p r h hp
  unfold s_rtake at h
  split at h
  · rename_i n m a b
    simp only [Option.some.injEq, Prod.mk.injEq] at h
    obtain ⟨rfl, rfl⟩ := h
    obtain ⟨ha, hb, rfl, rfl, la, hle⟩ : Wd a ∧ Wd b ∧ n = a.length ∧ m = b.length ∧ n ≤ 1000000000 ∧ wv b ≤ wv a := hp
    refine ⟨rfl, env [c_rword] (a_rtake a b), ?_⟩
    rw [← vc_rtake a b]
    refine ⟨⟨⟨a, b, 0, a, 0⟩, ⟨Nat.zero_le _, rfl, ha, ⟨Int.le_refl _, by show (0 : Int) ≤ 1; omega⟩, by simp [wv], rfl⟩, (by and_intros <;> first | exact True.intro | rfl | omega)⟩, ?_⟩
    rintro ⟨x0, y0, k, out, c⟩ hI
    have hk : k ≤ a.length := hI.hi
    have hlen : out.length = a.length := hI.len
    have hw : Wd out := hI.wd
    have hc : 0 ≤ c ∧ c ≤ 1 := hI.c0
    have e1 : IntKind.i64.wrap ((k : Int) + 1) = ((k + 1 : Nat) : Int) := by rw [i64w (by omega) (by omega)]; omega
    have hx := hw.getD k
    have hy := hb.getD k
    have f1 : IntKind.u64.wrap (out.getD k 0) = out.getD k 0 := eu64 (by omega)
    have f2 : IntKind.u64.wrap (4294967296 + out.getD k 0) = 4294967296 + out.getD k 0 := eu64 (by omega)
    have f3 : IntKind.u64.wrap (4294967296 + out.getD k 0 - b.getD k 0) = 4294967296 + out.getD k 0 - b.getD k 0 := eu64 (by omega)
    have f4 : IntKind.u64.wrap (4294967296 + out.getD k 0 - b.getD k 0 - c) = 4294967296 + out.getD k 0 - b.getD k 0 - c := eu64 (by omega)
    have f5 : Int.fdiv (4294967296 + out.getD k 0 - b.getD k 0 - c) 4294967296 = (4294967296 + out.getD k 0 - b.getD k 0 - c) / 4294967296 := Int.fdiv_eq_ediv_of_nonneg _ (by omega)
    have f6 : IntKind.u64.wrap (1 - (4294967296 + out.getD k 0 - b.getD k 0 - c) / 4294967296) = if out.getD k 0 < b.getD k 0 + c then 1 else 0 := by
      rw [eu64 (by omega)]; split <;> omega
    have f7 : (4294967296 + out.getD k 0 - b.getD k 0 - c) % 4294967296 = (out.getD k 0 - b.getD k 0 - c) % 4294967296 := by omega
    simp only [e1, wdg_take (Nat.le_refl b.length), wdg_nat, p32, f1, f2, f3, f4, f5, f6, u32w (4294967296 + out.getD k 0 - b.getD k 0 - c), f7, Bool.cond_decide, Int.toNat_natCast, Nat.zero_add]
    split
    · rename_i hlt
      have hlt : k < a.length := by omega
      have hst := hI.step hb hlt (b.getD k 0) rfl
      exact ⟨(by and_intros <;> first | exact True.intro | rfl | omega), by omega, ⟨(by and_intros <;> first | exact True.intro | rfl | omega), fun x hx => (hb.drop 0).take _ x hx⟩, (by and_intros <;> first | exact True.intro | rfl | omega), by omega, by omega, _, hst, (by and_intros <;> first | exact True.intro | rfl | omega), by show a.length - (k + 1) < a.length - k; omega⟩
    · rename_i hge
      have hlb : wv b < 4294967296 ^ a.length := by have := wv_lt ha; omega
      have hf : wv out = wv a - wv b := by
        have h1 : wv (out.take k) - 4294967296 ^ k * c = wv (a.take k) - wv (b.take k) := hI.sum
        have e : k = a.length := by omega
        rw [e, wv_take_all (by omega), wv_take_all (by omega)] at h1
        have h3 := wv_take_drop b a.length
        have h4 := wv_take_lt hb a.length
        have h5 := wv_nonneg (hb.drop a.length)
        have h6 := pow_pos32 a.length
        have hz : wv (b.drop a.length) = 0 := by
          rcases Int.lt_or_le 0 (wv (b.drop a.length)) with q | q
          · have : (4294967296 : Int) ^ a.length * 1 ≤ 4294967296 ^ a.length * wv (b.drop a.length) := Int.mul_le_mul_of_nonneg_left (by omega) (by omega)
            omega
          · omega
        rw [hz, Int.mul_zero, Int.add_zero] at h3
        have h2 := wv_lt hw
        rw [hlen] at h2
        have hc0 : c = 0 := by
          rcases (show c = 0 ∨ c = 1 by omega) with q | q
          · exact q
          · rw [q, Int.mul_one] at h1; omega
        rw [hc0, Int.mul_zero] at h1
        omega
      have hd := digs_wv hw
      rw [hf, hlen] at hd
      exact ⟨hd.symm, (by and_intros <;> first | exact True.intro | rfl | omega)⟩
  · simp at h
def n_rtake : Mu Tryd.prog := .wr ⟨106, s_rtake, fun args w => Tryd.call106 args w, fn_mok mix Tryd.func106 s_rtake p_rtake⟩

end Go.Proofs.YtcikhffhikgahaaDoor

/-
  Contracts of functions: the reference of layer 1: division of sizes.
-/
namespace Go.Proofs.YtcikhffhikgahaaDoor
open Go Go.RowKit

/-- A contract for arguments that are said more sharply. -/
def Ctr.adapt {P : Program} (c : Ctr P) (spec : FSpec) (h : ∀ ms p r, spec ms = some (p, r) → p.holds → ∃ ms' p', leV.leVs 0 ms ms' ∧ c.spec ms' = some (p', r) ∧ p'.holds) : Ctr P :=
  ⟨c.f, spec, c.call, fun S w ms args p r hs hp hS hG ha => by
    obtain ⟨ms', p', h1, h2, h3⟩ := h ms p r hs hp
    have k : Cuts 0 (Ctx.args S) (Ctx.args S) := ⟨fun _ h => h, fun _ h => h, fun i hi => by omega⟩
    exact c.ok S w ms' args p' r h2 h3 hS hG (leVs_all k ms ms' _ h1 ha)⟩

/-- Bits of an integer that is made of words. -/
def s_rbits2 : FSpec
  | [.st [.bool false, .ws l]] => some (some (Cn l ∧ l.length ≤ 31000), .ret (.int .i64 (bl (wv l).toNat)))
  | _ => none
theorem bl_words2 {l : List Int} {k : Nat} (hl : Wd l) (h : 32 * l.length ≤ k) : bl (wv l).toNat ≤ k := bl_le_of (by
  have h1 := wv_lt hl
  have h2 : (4294967296 : Nat) ^ l.length ≤ 2 ^ k := by rw [pow_words]; exact Nat.pow_le_pow_right (by omega) h
  have h3 := cast_pow32 l.length
  have h4 := Nat.two_pow_pos k
  generalize (2 : Nat) ^ k = X at *
  omega)
theorem w_rbits2 : ∀ ms p r, s_rbits2 ms = some (p, r) → p.holds → ∃ ms' p', leV.leVs 0 ms ms' ∧ c_rbits.spec ms' = some (p', r) ∧ p'.holds := by
  intro ms p r h hp
  unfold s_rbits2 at h
  split at h
  · rename_i l
    simp only [Option.some.injEq, Prod.mk.injEq] at h
    obtain ⟨rfl, rfl⟩ := h
    obtain ⟨h1, h2⟩ : Cn l ∧ l.length ≤ 31000 := hp
    have h0 := h1.pos
    have e : (wv l).natAbs = (wv l).toNat := by omega
    refine ⟨[.big (wv l) (32 * l.length)], some (32 * l.length ≤ 1000000), ⟨⟨?_, ?_, len_of_wv h1.wd⟩, True.intro⟩, ?_, by show 32 * l.length ≤ 1000000; omega⟩
    · exact (decide_eq_false (show ¬ wv l < 0 by omega)).symm
    · rw [e]; exact h1.symm
    · show s_bits [.big (wv l) (32 * l.length)] = _
      simp only [s_bits, e]
  · simp at h
def c_rbits2 : Ctr Tryd.prog := c_rbits.adapt s_rbits2 w_rbits2

/-- Quotient and remainder as the reference gives them. -/
def smallL (a b : List Int) : Bool := decide (a.length ≤ 2) && decide (b.length ≤ 2)
def divQ (a b : List Int) : List Int := cond (smallL a b) (digs 2 (wv a / wv b)) (cond (decide (bl (wv a).toNat < bl (wv b).toNat)) [] (digs ((bl (wv a).toNat - bl (wv b).toNat) / 32 + 1) (wv a / wv b)))
def divR (a b : List Int) : List Int := cond (smallL a b) (digs 2 (wv a % wv b)) (cond (decide (bl (wv a).toNat < bl (wv b).toNat)) a (digs a.length (wv a % wv b)))

structure RdS where
  k : Nat
  r : List Int
  q : List Int
  d : List Int
structure RdI (a b : List Int) (n : Nat) (s : RdS) : Prop where
  hk : s.k ≤ n + 1
  lr : s.r.length = a.length
  lq : s.q.length = n / 32 + 1
  ld : s.d.length = n / 32 + b.length + 1
  wr : Wd s.r
  wq : Wd s.q
  wd : Wd s.d
  dv : wv s.d = wv b * 2 ^ s.k / 2
  sum : wv a = wv s.q * wv b + wv s.r
  lt : wv s.r < wv b * 2 ^ s.k
  qz : (2 ^ s.k : Int) ∣ wv s.q
def a_rdivide (a b : List Int) (n : Nat) : Nat → MS → Option LoopAnn
  | 12, _ => some (.inv RdS (RdI a b n) (fun s => ⟨101, [(4, .bp 0 0), (7, .bs 1 0 a.length), (9, .bs 2 0 (n / 32 + 1)), (10, .bs 3 0 (n / 32 + b.length + 1)), (11, .int .i64 ((s.k : Int) - 1))],
      [⟨false, .one (.st [.val (.slice none 0 0), .val (.slice none 0 0)])⟩, ⟨false, .arr .u32 s.r⟩, ⟨false, .arr .u32 s.q⟩, ⟨false, .arr .u32 s.d⟩], 0⟩) (fun s => s.k))
  | _, _ => none
def k_rdivide (a b : List Int) : Nat → MS → Option CutAnn
  | 5, _ => some (.mk Unit (fun u => u = () ∧ smallL a b = false) (fun _ => ⟨101, [(0, .ws a), (1, .ws b), (4, .bp 0 0)], [⟨false, .one (.st [.val (.slice none 0 0), .val (.slice none 0 0)])⟩], 0⟩))
  | _, _ => none
def envM (Γ : List (Ctr Tryd.prog)) (Δ : List (Mu Tryd.prog)) (ann : Nat → MS → Option LoopAnn) (cut : Nat → MS → Option CutAnn) : Env Tryd.prog := ⟨Γ, Δ, 29, ann, fun _ => [], cut⟩
def s_rdivide : FSpec
  | [.ws a, .ws b] => some (some (Cn a ∧ Cn b ∧ b ≠ [] ∧ a.length ≤ 31000 ∧ b.length ≤ 31000), .ret (.st [.ws (divQ a b), .ws (divR a b)]))
  | _ => none
theorem vc_rdivide (a b : List Int) (n : Nat) : ((bif decide ((↑(List.length a) : Int) ≤ (2 : Int)) then bif decide ((↑(List.length b) : Int) ≤ (2 : Int)) then (∀ (x : Int), x ∈ a → (0 : Int) ≤ x ∧ x < (4294967296 : Int)) ∧ (∀ (x : Int), x ∈ a → (0 : Int) ≤ x ∧ x < (4294967296 : Int)) ∧ (0 : Int) ≤ (32 : Int) ∧ (∀ (x : Int), x ∈ b → (0 : Int) ≤ x ∧ x < (4294967296 : Int)) ∧ (∀ (x : Int), x ∈ b → (0 : Int) ≤ x ∧ x < (4294967296 : Int)) ∧ (0 : Int) ≤ (32 : Int) ∧ (IntKind.wrap IntKind.u64 (↑(BitVec.toNat (BitVec.ofInt (IntKind.bits IntKind.u64) (wdg b (0 : Int)) ||| BitVec.ofInt (IntKind.bits IntKind.u64) (IntKind.wrap IntKind.u64 (wdg b (1 : Int) * (2 : Int) ^ min (Int.toNat (32 : Int)) (IntKind.bits IntKind.u64))))) : Int) = (0 : Int) → False) ∧ (IntKind.wrap IntKind.u64 (↑(BitVec.toNat (BitVec.ofInt (IntKind.bits IntKind.u64) (wdg b (0 : Int)) ||| BitVec.ofInt (IntKind.bits IntKind.u64) (IntKind.wrap IntKind.u64 (wdg b (1 : Int) * (2 : Int) ^ min (Int.toNat (32 : Int)) (IntKind.bits IntKind.u64))))) : Int) = (0 : Int) → False) ∧ (0 : Int) ≤ (32 : Int) ∧ (IntKind.wrap IntKind.u64 (↑(BitVec.toNat (BitVec.ofInt (IntKind.bits IntKind.u64) (wdg b (0 : Int)) ||| BitVec.ofInt (IntKind.bits IntKind.u64) (IntKind.wrap IntKind.u64 (wdg b (1 : Int) * (2 : Int) ^ min (Int.toNat (32 : Int)) (IntKind.bits IntKind.u64))))) : Int) = (0 : Int) → False) ∧ (IntKind.wrap IntKind.u64 (↑(BitVec.toNat (BitVec.ofInt (IntKind.bits IntKind.u64) (wdg b (0 : Int)) ||| BitVec.ofInt (IntKind.bits IntKind.u64) (IntKind.wrap IntKind.u64 (wdg b (1 : Int) * (2 : Int) ^ min (Int.toNat (32 : Int)) (IntKind.bits IntKind.u64))))) : Int) = (0 : Int) → False) ∧ (0 : Int) ≤ (32 : Int) ∧ ((0 : Nat) + (2 : Nat) ≤ List.length [IntKind.wrap IntKind.u32 (IntKind.wrap IntKind.u64 (Int.tdiv (IntKind.wrap IntKind.u64 (↑(BitVec.toNat (BitVec.ofInt (IntKind.bits IntKind.u64) (wdg a (0 : Int)) ||| BitVec.ofInt (IntKind.bits IntKind.u64) (IntKind.wrap IntKind.u64 (wdg a (1 : Int) * (2 : Int) ^ min (Int.toNat (32 : Int)) (IntKind.bits IntKind.u64))))) : Int)) (IntKind.wrap IntKind.u64 (↑(BitVec.toNat (BitVec.ofInt (IntKind.bits IntKind.u64) (wdg b (0 : Int)) ||| BitVec.ofInt (IntKind.bits IntKind.u64) (IntKind.wrap IntKind.u64 (wdg b (1 : Int) * (2 : Int) ^ min (Int.toNat (32 : Int)) (IntKind.bits IntKind.u64))))) : Int)))), IntKind.wrap IntKind.u32 (Int.fdiv (IntKind.wrap IntKind.u64 (Int.tdiv (IntKind.wrap IntKind.u64 (↑(BitVec.toNat (BitVec.ofInt (IntKind.bits IntKind.u64) (wdg a (0 : Int)) ||| BitVec.ofInt (IntKind.bits IntKind.u64) (IntKind.wrap IntKind.u64 (wdg a (1 : Int) * (2 : Int) ^ min (Int.toNat (32 : Int)) (IntKind.bits IntKind.u64))))) : Int)) (IntKind.wrap IntKind.u64 (↑(BitVec.toNat (BitVec.ofInt (IntKind.bits IntKind.u64) (wdg b (0 : Int)) ||| BitVec.ofInt (IntKind.bits IntKind.u64) (IntKind.wrap IntKind.u64 (wdg b (1 : Int) * (2 : Int) ^ min (Int.toNat (32 : Int)) (IntKind.bits IntKind.u64))))) : Int)))) ((2 : Int) ^ min (Int.toNat (32 : Int)) (IntKind.bits IntKind.u64)))] ∧ (0 : Nat) + (2 : Nat) ≤ List.length [IntKind.wrap IntKind.u32 (Int.tmod (IntKind.wrap IntKind.u64 (↑(BitVec.toNat (BitVec.ofInt (IntKind.bits IntKind.u64) (wdg a (0 : Int)) ||| BitVec.ofInt (IntKind.bits IntKind.u64) (IntKind.wrap IntKind.u64 (wdg a (1 : Int) * (2 : Int) ^ min (Int.toNat (32 : Int)) (IntKind.bits IntKind.u64))))) : Int)) (IntKind.wrap IntKind.u64 (↑(BitVec.toNat (BitVec.ofInt (IntKind.bits IntKind.u64) (wdg b (0 : Int)) ||| BitVec.ofInt (IntKind.bits IntKind.u64) (IntKind.wrap IntKind.u64 (wdg b (1 : Int) * (2 : Int) ^ min (Int.toNat (32 : Int)) (IntKind.bits IntKind.u64))))) : Int))), IntKind.wrap IntKind.u32 (Int.fdiv (Int.tmod (IntKind.wrap IntKind.u64 (↑(BitVec.toNat (BitVec.ofInt (IntKind.bits IntKind.u64) (wdg a (0 : Int)) ||| BitVec.ofInt (IntKind.bits IntKind.u64) (IntKind.wrap IntKind.u64 (wdg a (1 : Int) * (2 : Int) ^ min (Int.toNat (32 : Int)) (IntKind.bits IntKind.u64))))) : Int)) (IntKind.wrap IntKind.u64 (↑(BitVec.toNat (BitVec.ofInt (IntKind.bits IntKind.u64) (wdg b (0 : Int)) ||| BitVec.ofInt (IntKind.bits IntKind.u64) (IntKind.wrap IntKind.u64 (wdg b (1 : Int) * (2 : Int) ^ min (Int.toNat (32 : Int)) (IntKind.bits IntKind.u64))))) : Int))) ((2 : Int) ^ min (Int.toNat (32 : Int)) (IntKind.bits IntKind.u64)))]) ∧ List.take (2 : Nat) (List.drop (0 : Nat) [IntKind.wrap IntKind.u32 (IntKind.wrap IntKind.u64 (Int.tdiv (IntKind.wrap IntKind.u64 (↑(BitVec.toNat (BitVec.ofInt (IntKind.bits IntKind.u64) (wdg a (0 : Int)) ||| BitVec.ofInt (IntKind.bits IntKind.u64) (IntKind.wrap IntKind.u64 (wdg a (1 : Int) * (2 : Int) ^ min (Int.toNat (32 : Int)) (IntKind.bits IntKind.u64))))) : Int)) (IntKind.wrap IntKind.u64 (↑(BitVec.toNat (BitVec.ofInt (IntKind.bits IntKind.u64) (wdg b (0 : Int)) ||| BitVec.ofInt (IntKind.bits IntKind.u64) (IntKind.wrap IntKind.u64 (wdg b (1 : Int) * (2 : Int) ^ min (Int.toNat (32 : Int)) (IntKind.bits IntKind.u64))))) : Int)))), IntKind.wrap IntKind.u32 (Int.fdiv (IntKind.wrap IntKind.u64 (Int.tdiv (IntKind.wrap IntKind.u64 (↑(BitVec.toNat (BitVec.ofInt (IntKind.bits IntKind.u64) (wdg a (0 : Int)) ||| BitVec.ofInt (IntKind.bits IntKind.u64) (IntKind.wrap IntKind.u64 (wdg a (1 : Int) * (2 : Int) ^ min (Int.toNat (32 : Int)) (IntKind.bits IntKind.u64))))) : Int)) (IntKind.wrap IntKind.u64 (↑(BitVec.toNat (BitVec.ofInt (IntKind.bits IntKind.u64) (wdg b (0 : Int)) ||| BitVec.ofInt (IntKind.bits IntKind.u64) (IntKind.wrap IntKind.u64 (wdg b (1 : Int) * (2 : Int) ^ min (Int.toNat (32 : Int)) (IntKind.bits IntKind.u64))))) : Int)))) ((2 : Int) ^ min (Int.toNat (32 : Int)) (IntKind.bits IntKind.u64)))]) = divQ a b ∧ List.take (2 : Nat) (List.drop (0 : Nat) [IntKind.wrap IntKind.u32 (Int.tmod (IntKind.wrap IntKind.u64 (↑(BitVec.toNat (BitVec.ofInt (IntKind.bits IntKind.u64) (wdg a (0 : Int)) ||| BitVec.ofInt (IntKind.bits IntKind.u64) (IntKind.wrap IntKind.u64 (wdg a (1 : Int) * (2 : Int) ^ min (Int.toNat (32 : Int)) (IntKind.bits IntKind.u64))))) : Int)) (IntKind.wrap IntKind.u64 (↑(BitVec.toNat (BitVec.ofInt (IntKind.bits IntKind.u64) (wdg b (0 : Int)) ||| BitVec.ofInt (IntKind.bits IntKind.u64) (IntKind.wrap IntKind.u64 (wdg b (1 : Int) * (2 : Int) ^ min (Int.toNat (32 : Int)) (IntKind.bits IntKind.u64))))) : Int))), IntKind.wrap IntKind.u32 (Int.fdiv (Int.tmod (IntKind.wrap IntKind.u64 (↑(BitVec.toNat (BitVec.ofInt (IntKind.bits IntKind.u64) (wdg a (0 : Int)) ||| BitVec.ofInt (IntKind.bits IntKind.u64) (IntKind.wrap IntKind.u64 (wdg a (1 : Int) * (2 : Int) ^ min (Int.toNat (32 : Int)) (IntKind.bits IntKind.u64))))) : Int)) (IntKind.wrap IntKind.u64 (↑(BitVec.toNat (BitVec.ofInt (IntKind.bits IntKind.u64) (wdg b (0 : Int)) ||| BitVec.ofInt (IntKind.bits IntKind.u64) (IntKind.wrap IntKind.u64 (wdg b (1 : Int) * (2 : Int) ^ min (Int.toNat (32 : Int)) (IntKind.bits IntKind.u64))))) : Int))) ((2 : Int) ^ min (Int.toNat (32 : Int)) (IntKind.bits IntKind.u64)))]) = divR a b ∧ True else ∃ i, (i = () ∧ smallL a b = false) ∧ (a = a ∧ b = b ∧ (0 : Nat) = (0 : Nat) ∧ True) ∧ (Value.slice none (0 : Nat) (0 : Nat) = Value.slice none (0 : Nat) (0 : Nat) ∧ Value.slice none (0 : Nat) (0 : Nat) = Value.slice none (0 : Nat) (0 : Nat) ∧ True) ∧ True else ∃ i, (i = () ∧ smallL a b = false) ∧ (a = a ∧ b = b ∧ (0 : Nat) = (0 : Nat) ∧ True) ∧ (Value.slice none (0 : Nat) (0 : Nat) = Value.slice none (0 : Nat) (0 : Nat) ∧ Value.slice none (0 : Nat) (0 : Nat) = Value.slice none (0 : Nat) (0 : Nat) ∧ True) ∧ True) ∧ ∀ (i : Unit), i = () ∧ smallL a b = false → ((0 : Nat) ≤ List.length ([] : List Int) ∧ ((0 : Nat) + News.len (News.ints IntKind.u32 a)) * (4 : Nat) ≤ (140737488355328 : Nat)) ∧ (limbs (Int.toNat (wv a)) = a ∧ List.length a ≤ (31000 : Nat)) ∧ (limbs (Int.toNat (wv b)) = b ∧ List.length b ≤ (31000 : Nat)) ∧ bif decide (IntKind.wrap IntKind.i64 ((↑(bl (Int.toNat (wv a))) : Int) - (↑(bl (Int.toNat (wv b))) : Int)) < (0 : Int)) then (0 : Nat) + ((0 : Nat) + News.len (News.ints IntKind.u32 a)) ≤ List.length (List.take (0 : Nat) [] ++ a) ∧ (Value.slice none (0 : Nat) (0 : Nat) = Value.slice none (0 : Nat) (0 : Nat) ∧ divQ a b = []) ∧ List.take ((0 : Nat) + News.len (News.ints IntKind.u32 a)) (List.drop (0 : Nat) (List.take (0 : Nat) [] ++ a)) = divR a b ∧ True else ((32 : Int) = (0 : Int) → False) ∧ ((0 : Int) ≤ IntKind.wrap IntKind.i64 (IntKind.wrap IntKind.i64 (Int.tdiv (IntKind.wrap IntKind.i64 ((↑(bl (Int.toNat (wv a))) : Int) - (↑(bl (Int.toNat (wv b))) : Int))) (32 : Int)) + (1 : Int)) ∧ IntKind.wrap IntKind.i64 (IntKind.wrap IntKind.i64 (Int.tdiv (IntKind.wrap IntKind.i64 ((↑(bl (Int.toNat (wv a))) : Int) - (↑(bl (Int.toNat (wv b))) : Int))) (32 : Int)) + (1 : Int)) = IntKind.wrap IntKind.i64 (IntKind.wrap IntKind.i64 (Int.tdiv (IntKind.wrap IntKind.i64 ((↑(bl (Int.toNat (wv a))) : Int) - (↑(bl (Int.toNat (wv b))) : Int))) (32 : Int)) + (1 : Int)) ∧ (↑(4 : Nat) : Int) * IntKind.wrap IntKind.i64 (IntKind.wrap IntKind.i64 (Int.tdiv (IntKind.wrap IntKind.i64 ((↑(bl (Int.toNat (wv a))) : Int) - (↑(bl (Int.toNat (wv b))) : Int))) (32 : Int)) + (1 : Int)) ≤ (140737488355328 : Int)) ∧ ((∀ (x : Int), x ∈ b → (0 : Int) ≤ x ∧ x < (4294967296 : Int)) ∧ (0 : Int) ≤ IntKind.wrap IntKind.i64 ((↑(bl (Int.toNat (wv a))) : Int) - (↑(bl (Int.toNat (wv b))) : Int)) ∧ IntKind.wrap IntKind.i64 ((↑(bl (Int.toNat (wv a))) : Int) - (↑(bl (Int.toNat (wv b))) : Int)) ≤ (1000000000 : Int) ∧ List.length b ≤ (1000000000 : Nat)) ∧ (∃ i, RdI a b n i ∧ ((0 : Nat) = (0 : Nat) ∧ ((0 : Nat) = (0 : Nat) ∧ (0 : Nat) + News.len (News.ints IntKind.u32 a) = List.length a) ∧ ((0 : Nat) = (0 : Nat) ∧ Int.toNat (IntKind.wrap IntKind.i64 (IntKind.wrap IntKind.i64 (Int.tdiv (IntKind.wrap IntKind.i64 ((↑(bl (Int.toNat (wv a))) : Int) - (↑(bl (Int.toNat (wv b))) : Int))) (32 : Int)) + (1 : Int))) = n / (32 : Nat) + (1 : Nat)) ∧ ((0 : Nat) = (0 : Nat) ∧ List.length (digs (Int.toNat (IntKind.wrap IntKind.i64 ((↑(bl (Int.toNat (wv a))) : Int) - (↑(bl (Int.toNat (wv b))) : Int))) / (32 : Nat) + List.length b + (1 : Nat)) (wv b * (2 : Int) ^ Int.toNat (IntKind.wrap IntKind.i64 ((↑(bl (Int.toNat (wv a))) : Int) - (↑(bl (Int.toNat (wv b))) : Int))))) = n / (32 : Nat) + List.length b + (1 : Nat)) ∧ IntKind.wrap IntKind.i64 ((↑(bl (Int.toNat (wv a))) : Int) - (↑(bl (Int.toNat (wv b))) : Int)) = (↑(RdS.k i) : Int) - (1 : Int) ∧ True) ∧ (Value.slice none (0 : Nat) (0 : Nat) = Value.slice none (0 : Nat) (0 : Nat) ∧ Value.slice none (0 : Nat) (0 : Nat) = Value.slice none (0 : Nat) (0 : Nat) ∧ True) ∧ List.take (0 : Nat) [] ++ a = RdS.r i ∧ List.replicate (Int.toNat (IntKind.wrap IntKind.i64 (IntKind.wrap IntKind.i64 (Int.tdiv (IntKind.wrap IntKind.i64 ((↑(bl (Int.toNat (wv a))) : Int) - (↑(bl (Int.toNat (wv b))) : Int))) (32 : Int)) + (1 : Int)))) (0 : Int) = RdS.q i ∧ digs (Int.toNat (IntKind.wrap IntKind.i64 ((↑(bl (Int.toNat (wv a))) : Int) - (↑(bl (Int.toNat (wv b))) : Int))) / (32 : Nat) + List.length b + (1 : Nat)) (wv b * (2 : Int) ^ Int.toNat (IntKind.wrap IntKind.i64 ((↑(bl (Int.toNat (wv a))) : Int) - (↑(bl (Int.toNat (wv b))) : Int)))) = RdS.d i ∧ True) ∧ ∀ (i : RdS), RdI a b n i → bif decide ((↑(RdS.k i) : Int) - (1 : Int) ≥ (0 : Int)) then (((0 : Nat) + List.length a ≤ List.length (RdS.r i) ∧ (0 : Nat) + (n / (32 : Nat) + List.length b + (1 : Nat)) ≤ List.length (RdS.d i)) ∧ (∀ (x : Int), x ∈ List.take (List.length a) (List.drop (0 : Nat) (RdS.r i)) → (0 : Int) ≤ x ∧ x < (4294967296 : Int)) ∧ (∀ (x : Int), x ∈ List.take (n / (32 : Nat) + List.length b + (1 : Nat)) (List.drop (0 : Nat) (RdS.d i)) → (0 : Int) ≤ x ∧ x < (4294967296 : Int)) ∧ List.length (List.take (List.length a) (List.drop (0 : Nat) (RdS.r i))) ≤ (1000000000 : Nat) ∧ List.length (List.take (n / (32 : Nat) + List.length b + (1 : Nat)) (List.drop (0 : Nat) (RdS.d i))) ≤ (1000000000 : Nat)) ∧ bif decide (wv (List.take (n / (32 : Nat) + List.length b + (1 : Nat)) (List.drop (0 : Nat) (RdS.d i))) ≤ wv (List.take (List.length a) (List.drop (0 : Nat) (RdS.r i)))) then ((∀ (x : Int), x ∈ RdS.r i → (0 : Int) ≤ x ∧ x < (4294967296 : Int)) ∧ (∀ (x : Int), x ∈ RdS.d i → (0 : Int) ≤ x ∧ x < (4294967296 : Int)) ∧ List.length a = List.length (RdS.r i) ∧ n / (32 : Nat) + List.length b + (1 : Nat) = List.length (RdS.d i) ∧ List.length a ≤ (1000000000 : Nat) ∧ wv (RdS.d i) ≤ wv (RdS.r i)) ∧ ((32 : Int) = (0 : Int) → False) ∧ ((0 : Int) ≤ IntKind.wrap IntKind.i64 (Int.tdiv ((↑(RdS.k i) : Int) - (1 : Int)) (32 : Int)) ∧ IntKind.wrap IntKind.i64 (Int.tdiv ((↑(RdS.k i) : Int) - (1 : Int)) (32 : Int)) < (↑(n / (32 : Nat) + (1 : Nat)) : Int)) ∧ (0 : Nat) + Int.toNat (IntKind.wrap IntKind.i64 (Int.tdiv ((↑(RdS.k i) : Int) - (1 : Int)) (32 : Int))) < List.length (RdS.q i) ∧ ((32 : Int) = (0 : Int) → False) ∧ (0 : Int) ≤ IntKind.wrap IntKind.u64 (Int.tmod ((↑(RdS.k i) : Int) - (1 : Int)) (32 : Int)) ∧ ((0 : Int) ≤ IntKind.wrap IntKind.i64 (Int.tdiv ((↑(RdS.k i) : Int) - (1 : Int)) (32 : Int)) ∧ IntKind.wrap IntKind.i64 (Int.tdiv ((↑(RdS.k i) : Int) - (1 : Int)) (32 : Int)) < (↑(n / (32 : Nat) + (1 : Nat)) : Int)) ∧ (0 : Nat) + Int.toNat (IntKind.wrap IntKind.i64 (Int.tdiv ((↑(RdS.k i) : Int) - (1 : Int)) (32 : Int))) < List.length (RdS.q i) ∧ ((∀ (x : Int), x ∈ RdS.d i → (0 : Int) ≤ x ∧ x < (4294967296 : Int)) ∧ n / (32 : Nat) + List.length b + (1 : Nat) = List.length (RdS.d i) ∧ n / (32 : Nat) + List.length b + (1 : Nat) ≤ (1000000000 : Nat)) ∧ ∃ j, RdI a b n j ∧ (((0 : Nat) = (0 : Nat) ∧ ((0 : Nat) = (0 : Nat) ∧ List.length a = List.length a) ∧ ((0 : Nat) = (0 : Nat) ∧ n / (32 : Nat) + (1 : Nat) = n / (32 : Nat) + (1 : Nat)) ∧ ((0 : Nat) = (0 : Nat) ∧ n / (32 : Nat) + List.length b + (1 : Nat) = n / (32 : Nat) + List.length b + (1 : Nat)) ∧ IntKind.wrap IntKind.i64 ((↑(RdS.k i) : Int) - (1 : Int) - (1 : Int)) = (↑(RdS.k j) : Int) - (1 : Int) ∧ True) ∧ (Value.slice none (0 : Nat) (0 : Nat) = Value.slice none (0 : Nat) (0 : Nat) ∧ Value.slice none (0 : Nat) (0 : Nat) = Value.slice none (0 : Nat) (0 : Nat) ∧ True) ∧ digs (List.length (RdS.r i)) (wv (RdS.r i) - wv (RdS.d i)) = RdS.r j ∧ List.set (RdS.q i) ((0 : Nat) + Int.toNat (IntKind.wrap IntKind.i64 (Int.tdiv ((↑(RdS.k i) : Int) - (1 : Int)) (32 : Int)))) (IntKind.wrap IntKind.u32 (↑(BitVec.toNat (BitVec.ofInt (IntKind.bits IntKind.u32) (List.getD (RdS.q i) ((0 : Nat) + Int.toNat (IntKind.wrap IntKind.i64 (Int.tdiv ((↑(RdS.k i) : Int) - (1 : Int)) (32 : Int)))) (0 : Int)) ||| BitVec.ofInt (IntKind.bits IntKind.u32) (IntKind.wrap IntKind.u32 ((1 : Int) * (2 : Int) ^ min (Int.toNat (IntKind.wrap IntKind.u64 (Int.tmod ((↑(RdS.k i) : Int) - (1 : Int)) (32 : Int)))) (IntKind.bits IntKind.u32))))) : Int)) = RdS.q j ∧ digs (List.length (RdS.d i)) (wv (RdS.d i) / (2 : Int)) = RdS.d j ∧ True) ∧ RdS.k j < RdS.k i else ((∀ (x : Int), x ∈ RdS.d i → (0 : Int) ≤ x ∧ x < (4294967296 : Int)) ∧ n / (32 : Nat) + List.length b + (1 : Nat) = List.length (RdS.d i) ∧ n / (32 : Nat) + List.length b + (1 : Nat) ≤ (1000000000 : Nat)) ∧ ∃ j, RdI a b n j ∧ (((0 : Nat) = (0 : Nat) ∧ ((0 : Nat) = (0 : Nat) ∧ List.length a = List.length a) ∧ ((0 : Nat) = (0 : Nat) ∧ n / (32 : Nat) + (1 : Nat) = n / (32 : Nat) + (1 : Nat)) ∧ ((0 : Nat) = (0 : Nat) ∧ n / (32 : Nat) + List.length b + (1 : Nat) = n / (32 : Nat) + List.length b + (1 : Nat)) ∧ IntKind.wrap IntKind.i64 ((↑(RdS.k i) : Int) - (1 : Int) - (1 : Int)) = (↑(RdS.k j) : Int) - (1 : Int) ∧ True) ∧ (Value.slice none (0 : Nat) (0 : Nat) = Value.slice none (0 : Nat) (0 : Nat) ∧ Value.slice none (0 : Nat) (0 : Nat) = Value.slice none (0 : Nat) (0 : Nat) ∧ True) ∧ RdS.r i = RdS.r j ∧ RdS.q i = RdS.q j ∧ digs (List.length (RdS.d i)) (wv (RdS.d i) / (2 : Int)) = RdS.d j ∧ True) ∧ RdS.k j < RdS.k i else ((0 : Nat) + (n / (32 : Nat) + (1 : Nat)) ≤ List.length (RdS.q i) ∧ (0 : Nat) + List.length a ≤ List.length (RdS.r i)) ∧ List.take (n / (32 : Nat) + (1 : Nat)) (List.drop (0 : Nat) (RdS.q i)) = divQ a b ∧ List.take (List.length a) (List.drop (0 : Nat) (RdS.r i)) = divR a b ∧ True) = evFn (envM [c_rword, c_rbits2, c_rreach] [n_rleft, n_rhalf, n_rtake] (a_rdivide a b n) (k_rdivide a b)) Tryd.f95 [.ws a, .ws b] (MRes.sat (.ret (.st [.ws (divQ a b), .ws (divR a b)]))) := by kernel_rfl

theorem pow_split (i : Nat) : (2 : Int) ^ i = 4294967296 ^ (i / 32) * 2 ^ (i % 32) := by
  rw [show (4294967296 : Int) = 2 ^ 32 from rfl, ← Int.pow_mul, ← Int.pow_add]; congr 1; omega

theorem wv2 {l : List Int} (h : l.length ≤ 2) : wdg l 1 * 4294967296 + wdg l 0 = wv l := by
  have e0 : wdg l 0 = l.getD 0 0 := wdg_nat l 0
  have e1 : wdg l 1 = l.getD 1 0 := wdg_nat l 1
  rw [e0, e1]
  match l, h with
  | [], _ => simp [wv]
  | [x], _ => simp [wv]
  | [x, y], _ => simp [wv]; omega

theorem RdI.init {a b : List Int} (ha : Cn a) (hb : Cn b) (hne : b ≠ []) {n : Nat} (hn : bl (wv a).toNat = bl (wv b).toNat + n) :
    RdI a b n ⟨n + 1, a, List.replicate (n / 32 + 1) 0, digs (n / 32 + b.length + 1) (wv b * 2 ^ n)⟩ := by
  have hap := ha.pos
  have hbp : 0 < wv b := by have := hb.top hne; have := pow_pos32 (b.length - 1); omega
  have hP : (0 : Int) < 2 ^ n := Int.pow_pos (by omega)
  have hd : wv (digs (n / 32 + b.length + 1) (wv b * 2 ^ n)) = wv b * 2 ^ n := by
    refine wv_digs _ _ (Int.mul_nonneg (by omega) (by omega)) ?_
    have h1 := wv_lt hb.wd
    have h2 : (2 : Int) ^ (n % 32) < 4294967296 := by
      have := Nat.pow_lt_pow_right (show 1 < 2 by omega) (Nat.mod_lt n (show 0 < 32 by omega))
      rw [← cast_pow2]; omega
    have h3 : (0 : Int) < 2 ^ (n % 32) := Int.pow_pos (by omega)
    have h4 : (4294967296 : Int) ^ (n / 32 + b.length + 1) = 4294967296 ^ (n / 32) * (4294967296 ^ b.length * 4294967296) := by rw [Int.pow_add, Int.pow_add]; simp [Int.mul_assoc]
    have h5 : wv b * 2 ^ (n % 32) < 4294967296 ^ b.length * 4294967296 := Int.mul_lt_mul h1 (by omega) h3 (by have := pow_pos32 b.length; omega)
    rw [h4, pow_split n, ← Int.mul_assoc, Int.mul_comm (wv b), Int.mul_assoc]
    exact Int.mul_lt_mul_of_pos_left h5 (pow_pos32 _)
  refine ⟨Nat.le_refl _, rfl, by simp, digs_len _ _, ha.wd, Wd.replicate _, digs_wd _ _, ?_, ?_, ?_, ?_⟩
  · show wv (digs _ _) = wv b * 2 ^ (n + 1) / 2
    rw [hd, Int.pow_succ, ← Int.mul_assoc, Int.mul_ediv_cancel _ (by omega)]
  · show wv a = wv (List.replicate _ 0) * _ + wv a
    rw [wv_replicate, Int.zero_mul]; omega
  · show wv a < wv b * 2 ^ (n + 1)
    obtain ⟨A, hA⟩ := Int.eq_ofNat_of_zero_le hap
    obtain ⟨B, hB⟩ := Int.eq_ofNat_of_zero_le (show 0 ≤ wv b by omega)
    rw [hA, hB, Int.toNat_natCast, Int.toNat_natCast] at hn
    have h1 := bl_lt A
    have hB0 : B ≠ 0 := by omega
    have h2 := bl_le hB0
    have hbl : bl B ≠ 0 := by intro e; have := bl_lt B; rw [e] at this; omega
    have h3 : 2 ^ bl A = 2 ^ (bl B - 1) * 2 ^ (n + 1) := by rw [← Nat.pow_add]; congr 1; omega
    have h4 : 2 ^ (bl B - 1) * 2 ^ (n + 1) ≤ B * 2 ^ (n + 1) := Nat.mul_le_mul_right _ h2
    rw [hA, hB, ← cast_pow2, ← Int.natCast_mul]
    omega
  · show _ ∣ wv (List.replicate _ 0)
    rw [wv_replicate]; exact Int.dvd_zero _

theorem RdI.digit {a b : List Int} {n : Nat} {s : RdS} (h : RdI a b n s) {i : Nat} (hi : s.k = i + 1) :
    (s.q.getD (i / 32) 0).toNat % 2 ^ (i % 32 + 1) = 0 ∧ s.q.getD (i / 32) 0 + 2 ^ (i % 32) < 4294967296 := by
  have hq := h.qz
  rw [hi] at hq
  have hw := h.wq.getD (i / 32)
  have h1 := wv_take_drop s.q (i / 32)
  rw [getD_drop_wv] at h1
  have h2 := wv_take_lt h.wq (i / 32)
  have hp := pow_pos32 (i / 32)
  have hc : (2 : Int) ^ (i + 1) = 4294967296 ^ (i / 32) * 2 ^ (i % 32 + 1) := by rw [Int.pow_succ, pow_split i, Int.pow_succ]; grind
  obtain ⟨k, hk⟩ := hq
  rw [hc] at hk
  have hz : wv (s.q.take (i / 32)) = 0 := by
    have e : wv (s.q.take (i / 32)) = 4294967296 ^ (i / 32) * (2 ^ (i % 32 + 1) * k - (s.q.getD (i / 32) 0 + 4294967296 * wv (s.q.drop (i / 32 + 1)))) := by
      rw [Int.mul_sub, ← Int.mul_assoc]; omega
    have d : (4294967296 : Int) ^ (i / 32) ∣ wv (s.q.take (i / 32)) := ⟨_, e⟩
    rw [← Int.emod_eq_of_lt h2.1 h2.2]; exact Int.emod_eq_zero_of_dvd d
  rw [hz, Int.zero_add] at h1
  have h3 : s.q.getD (i / 32) 0 + 4294967296 * wv (s.q.drop (i / 32 + 1)) = 2 ^ (i % 32 + 1) * k := by
    refine Int.eq_of_mul_eq_mul_left (show (4294967296 : Int) ^ (i / 32) ≠ 0 by omega) ?_
    rw [← h1, hk, Int.mul_assoc]
  have hm : i % 32 + 1 + (31 - i % 32) = 32 := by omega
  have h4 : (4294967296 : Int) = 2 ^ (i % 32 + 1) * 2 ^ (31 - i % 32) := by rw [← Int.pow_add, hm]; rfl
  have hP : (0 : Int) < 2 ^ (i % 32 + 1) := Int.pow_pos (by omega)
  have hd : (2 : Int) ^ (i % 32 + 1) ∣ s.q.getD (i / 32) 0 := by
    refine ⟨k - 2 ^ (31 - i % 32) * wv (s.q.drop (i / 32 + 1)), ?_⟩
    rw [Int.mul_sub, ← Int.mul_assoc, ← h4]; omega
  obtain ⟨m, hm⟩ := hd
  have hm0 : 0 ≤ m := by
    rcases Int.lt_or_le m 0 with q | q
    · have := Int.mul_lt_mul_of_pos_left q hP
      omega
    · exact q
  have hP1 : (2 : Int) ^ (i % 32 + 1) = 2 ^ (i % 32) * 2 := Int.pow_succ ..
  refine ⟨?_, ?_⟩
  · obtain ⟨M, rfl⟩ := Int.eq_ofNat_of_zero_le hm0
    rw [hm, ← cast_pow2, ← Int.natCast_mul, Int.toNat_natCast, Nat.mul_mod_right]
  · have hlt : m < 2 ^ (31 - i % 32) := by
      refine mul_lt_cancel hP ?_
      rw [← hm, ← h4]; exact hw.2
    have h5 : (2 : Int) ^ (i % 32 + 1) * (m + 1) ≤ 2 ^ (i % 32 + 1) * 2 ^ (31 - i % 32) := Int.mul_le_mul_of_nonneg_left (by omega) (by omega)
    rw [← h4, Int.mul_add, Int.mul_one, ← hm] at h5
    have h6 : (0 : Int) < 2 ^ (i % 32) := Int.pow_pos (by omega)
    omega

theorem RdI.dval {a b : List Int} {n : Nat} {s : RdS} (h : RdI a b n s) {i : Nat} (hi : s.k = i + 1) : wv s.d = wv b * 2 ^ i := by
  rw [h.dv, hi, Int.pow_succ, ← Int.mul_assoc, Int.mul_ediv_cancel _ (by omega)]

theorem wv_half_digs {l : List Int} (h : Wd l) : wv (digs l.length (wv l / 2)) = wv l / 2 := by
  have h0 := wv_nonneg h
  have h1 := wv_lt h
  exact wv_digs _ _ (by omega) (by omega)

theorem RdI.skip {a b : List Int} {n : Nat} {s : RdS} (h : RdI a b n s) {i : Nat} (hi : s.k = i + 1) (hc : ¬ wv s.d ≤ wv s.r) : RdI a b n ⟨i, s.r, s.q, digs s.d.length (wv s.d / 2)⟩ := by
  have hd := h.dval hi
  refine ⟨by show i ≤ n + 1; have := h.hk; omega, h.lr, h.lq, by simp [digs_len, h.ld], h.wr, h.wq, digs_wd _ _, ?_, h.sum, ?_, ?_⟩
  · show wv (digs _ _) = _
    rw [wv_half_digs h.wd, hd]
  · show wv s.r < wv b * 2 ^ i
    rw [hd] at hc; omega
  · have := h.qz
    rw [hi, Int.pow_succ] at this
    exact Int.dvd_trans (Int.dvd_mul_right _ _) this

theorem RdI.take {a b : List Int} {n : Nat} {s : RdS} (h : RdI a b n s) {i : Nat} (hi : s.k = i + 1) (hc : wv s.d ≤ wv s.r) :
    RdI a b n ⟨i, digs s.r.length (wv s.r - wv s.d), s.q.set (i / 32) (s.q.getD (i / 32) 0 + 2 ^ (i % 32)), digs s.d.length (wv s.d / 2)⟩ := by
  have hd := h.dval hi
  have hk := h.hk
  have hg := h.digit hi
  have hw := h.wq.getD (i / 32)
  have hP : (0 : Int) < 2 ^ (i % 32) := Int.pow_pos (by omega)
  have hr : wv (digs s.r.length (wv s.r - wv s.d)) = wv s.r - wv s.d := by
    have h0 := wv_nonneg h.wd
    have h1 := wv_lt h.wr
    exact wv_digs _ _ (by omega) (by omega)
  have hq : wv (s.q.set (i / 32) (s.q.getD (i / 32) 0 + 2 ^ (i % 32))) = wv s.q + 2 ^ i := by
    rw [wv_set _ _ _ (by rw [h.lq]; omega), pow_split i]
    congr 2; omega
  refine ⟨by show i ≤ n + 1; omega, by simp [digs_len, h.lr], by simp [h.lq], by simp [digs_len, h.ld], digs_wd _ _, h.wq.set _ ⟨by omega, hg.2⟩, digs_wd _ _, ?_, ?_, ?_, ?_⟩
  · show wv (digs _ _) = _
    rw [wv_half_digs h.wd, hd]
  · show wv a = wv (s.q.set _ _) * wv b + wv (digs _ _)
    rw [hq, hr, hd, h.sum, Int.add_mul, Int.mul_comm (wv b)]; omega
  · show wv (digs _ _) < wv b * 2 ^ i
    rw [hr, hd]
    have := h.lt
    rw [hi, Int.pow_succ, ← Int.mul_assoc] at this
    omega
  · show _ ∣ wv (s.q.set _ _)
    rw [hq]
    have := h.qz
    rw [hi, Int.pow_succ] at this
    exact Int.dvd_add (Int.dvd_trans (Int.dvd_mul_right _ _) this) (Int.dvd_refl _)

theorem RdI.fin {a b : List Int} (hb : 0 < wv b) {n : Nat} {s : RdS} (h : RdI a b n s) (hk : s.k = 0) : wv s.q = wv a / wv b ∧ wv s.r = wv a % wv b := by
  have h1 := h.lt
  rw [hk, Int.pow_zero, Int.mul_one] at h1
  have h2 := h.sum
  have h3 := wv_nonneg h.wr
  have := divmod_unique (a := wv a) (b := wv b) (q := wv s.q) (r := wv s.r) (by rw [Int.mul_comm]; omega) h3 (by omega)
  exact ⟨this.1.symm, this.2.symm⟩

theorem digs2 (z : Int) : digs 2 z = [z % 4294967296, z / 4294967296 % 4294967296] := rfl

theorem p_rdivide : Good Tryd.f95 s_rdivide := by
  intro ms p r h hp
  unfold s_rdivide at h
  split at h
  · rename_i a b
    simp only [Option.some.injEq, Prod.mk.injEq] at h
    obtain ⟨rfl, rfl⟩ := h
    obtain ⟨ha, hb, hne, la, lb⟩ : Cn a ∧ Cn b ∧ b ≠ [] ∧ a.length ≤ 31000 ∧ b.length ≤ 31000 := hp
    have hap := ha.pos
    have hbp : 0 < wv b := by have := hb.top hne; have := pow_pos32 (b.length - 1); omega
    refine ⟨envM [c_rword, c_rbits2, c_rreach] [n_rleft, n_rhalf, n_rtake] (a_rdivide a b (bl (wv a).toNat - bl (wv b).toNat)) (k_rdivide a b), ?_⟩
    rw [← vc_rdivide a b (bl (wv a).toNat - bl (wv b).toNat)]
    refine ⟨?_, ?_⟩
    · have fin : smallL a b = false → ∃ _ : Unit, (True ∧ smallL a b = false) ∧ (True ∧ True ∧ True ∧ True) ∧ (True ∧ True ∧ True) ∧ True := fun h => ⟨(), ⟨True.intro, h⟩, ⟨True.intro, True.intro, True.intro, True.intro⟩, ⟨True.intro, True.intro, True.intro⟩, True.intro⟩
      simp only [Bool.cond_decide]
      split
      · rename_i h1
        split
        · rename_i h2
          have ea := wv2 (show a.length ≤ 2 by omega)
          have eb := wv2 (show b.length ≤ 2 by omega)
          have wa0 := wdg_wd ha.wd 0
          have wa1 := wdg_wd ha.wd 1
          have wb0 := wdg_wd hb.wd 0
          have wb1 := wdg_wd hb.wd 1
          have oa : IntKind.u64.wrap (↑(BitVec.ofInt (IntKind.bits IntKind.u64) (wdg a 0) ||| BitVec.ofInt (IntKind.bits IntKind.u64) (IntKind.u64.wrap (wdg a 1 * 4294967296))).toNat) = wv a := by
            rw [BitVec.or_comm, or_hi wa1 wa0, ea]
          have ob : IntKind.u64.wrap (↑(BitVec.ofInt (IntKind.bits IntKind.u64) (wdg b 0) ||| BitVec.ofInt (IntKind.bits IntKind.u64) (IntKind.u64.wrap (wdg b 1 * 4294967296))).toNat) = wv b := by
            rw [BitVec.or_comm, or_hi wb1 wb0, eb]
          have hdv0 := Int.ediv_nonneg hap (show 0 ≤ wv b by omega)
          have hdv1 := Int.ediv_le_self (wv b) hap
          have hm0 := Int.emod_nonneg (wv a) (show wv b ≠ 0 by omega)
          have hm1 := Int.emod_lt_of_pos (wv a) hbp
          have x1 : IntKind.u64.wrap (wv a / wv b) = wv a / wv b := eu64 (by omega)
          have hs : smallL a b = true := by unfold smallL; rw [decide_eq_true (by omega), decide_eq_true (by omega)]; rfl
          simp only [p32, oa, ob, Int.tdiv_eq_ediv_of_nonneg hap, Int.tmod_eq_emod_of_nonneg hap, x1, Int.fdiv_eq_ediv_of_nonneg _ (show (0 : Int) ≤ 4294967296 by omega), u32w, divQ, divR, hs, cond_true, digs2]
          exact ⟨ha.wd, ha.wd, by omega, hb.wd, hb.wd, by omega, fun e => by omega, fun e => by omega, by omega, fun e => by omega, fun e => by omega, by omega, ⟨by simp, by simp⟩, rfl, rfl, True.intro⟩
        · rename_i h2
          exact fin (by unfold smallL; rw [decide_eq_false (p := b.length ≤ 2) (by omega)]; simp)
      · rename_i h1
        exact fin (by unfold smallL; rw [decide_eq_false (p := a.length ≤ 2) (by omega)]; simp)
    · rintro ⟨⟩ ⟨-, hs⟩
      have hla : bl (wv a).toNat ≤ 1000000 := bl_words2 ha.wd (by omega)
      have hlb : bl (wv b).toNat ≤ 1000000 := bl_words2 hb.wd (by omega)
      have ew : IntKind.i64.wrap ((bl (wv a).toNat : Int) - (bl (wv b).toNat : Int)) = (bl (wv a).toNat : Int) - (bl (wv b).toNat : Int) := i64w (by omega) (by omega)
      simp only [ew, Bool.cond_decide]
      refine ⟨⟨by simp, by show (0 + a.length) * 4 ≤ _; omega⟩, ⟨ha, by omega⟩, ⟨hb, by omega⟩, ?_⟩
      split
      · rename_i hlt
        have hlt : decide (bl (wv a).toNat < bl (wv b).toNat) = true := decide_eq_true (by omega)
        refine ⟨by show 0 + (0 + a.length) ≤ (a).length; omega, ⟨(by and_intros <;> first | exact True.intro | rfl | omega), ?_⟩, ?_, True.intro⟩
        · unfold divQ; rw [hs, cond_false, hlt, cond_true]
        · unfold divR; rw [hs, cond_false, hlt, cond_true]
          show List.take (0 + a.length) a = a
          rw [Nat.zero_add, List.take_length]
      · rename_i hlt
        have hltd : decide (bl (wv a).toNat < bl (wv b).toNat) = false := decide_eq_false (by omega)
        obtain ⟨n, hn⟩ : ∃ n : Nat, bl (wv a).toNat = bl (wv b).toNat + n := ⟨bl (wv a).toNat - bl (wv b).toNat, by omega⟩
        have e0 : (bl (wv a).toNat : Int) - (bl (wv b).toNat : Int) = (n : Int) := by omega
        have e1 : bl (wv a).toNat - bl (wv b).toNat = n := by omega
        have eq : IntKind.i64.wrap (Int.tdiv (n : Int) 32) = ((n / 32 : Nat) : Int) := by
          have e : Int.tdiv (n : Int) 32 = ((n / 32 : Nat) : Int) := rfl
          rw [e, i64w (by omega) (by omega)]
        have eq1 : IntKind.i64.wrap (((n / 32 : Nat) : Int) + 1) = ((n / 32 + 1 : Nat) : Int) := by rw [i64w (by omega) (by omega)]; omega
        have hQ : divQ a b = digs (n / 32 + 1) (wv a / wv b) := by unfold divQ; rw [hs, cond_false, hltd, cond_false, e1]
        have hR : divR a b = digs a.length (wv a % wv b) := by unfold divR; rw [hs, cond_false, hltd, cond_false]
        simp only [e0, e1, eq, eq1, Int.toNat_natCast, hQ, hR]
        refine ⟨fun e => by omega, (by and_intros <;> first | exact True.intro | rfl | omega), ⟨hb.wd, by omega, by omega, by omega⟩, ⟨_, RdI.init ha hb hne hn, ⟨(by and_intros <;> first | exact True.intro | rfl | omega), ⟨(by and_intros <;> first | exact True.intro | rfl | omega), by show 0 + a.length = a.length; omega⟩, (by and_intros <;> first | exact True.intro | rfl | omega), ⟨(by and_intros <;> first | exact True.intro | rfl | omega), digs_len _ _⟩, by show (n : Int) = ((n + 1 : Nat) : Int) - 1; omega, True.intro⟩, (by and_intros <;> first | exact True.intro | rfl | omega), (by and_intros <;> first | exact True.intro | rfl | omega)⟩, ?_⟩
        rintro ⟨k, rr, q, d⟩ hI
        have hk : k ≤ n + 1 := hI.hk
        have hlr : rr.length = a.length := hI.lr
        have hlq : q.length = n / 32 + 1 := hI.lq
        have hld : d.length = n / 32 + b.length + 1 := hI.ld
        have hwr : Wd rr := hI.wr
        have hwd : Wd d := hI.wd
        have t1 : List.take a.length (List.drop 0 rr) = rr := by rw [List.drop_zero]; exact List.take_of_length_le (by omega)
        have t2 : List.take (n / 32 + b.length + 1) (List.drop 0 d) = d := by rw [List.drop_zero]; exact List.take_of_length_le (by omega)
        have t3 : List.take (n / 32 + 1) (List.drop 0 q) = q := by rw [List.drop_zero]; exact List.take_of_length_le (by omega)
        simp only [t1, t2, t3]
        split
        · rename_i hge
          have hge : (k : Int) - 1 ≥ 0 := hge
          obtain ⟨i, rfl⟩ : ∃ i, k = i + 1 := ⟨k - 1, by omega⟩
          have f0 : (((i + 1 : Nat) : Int) - 1) = (i : Int) := by omega
          have f1 : IntKind.i64.wrap (Int.tdiv (i : Int) 32) = ((i / 32 : Nat) : Int) := by
            have e : Int.tdiv (i : Int) 32 = ((i / 32 : Nat) : Int) := rfl
            rw [e, i64w (by omega) (by omega)]
          have f2 : IntKind.u64.wrap (Int.tmod (i : Int) 32) = ((i % 32 : Nat) : Int) := by
            have e : Int.tmod (i : Int) 32 = ((i % 32 : Nat) : Int) := rfl
            rw [e, eu64 (by omega)]
          have hc : i % 32 < 32 := Nat.mod_lt _ (by omega)
          have f3 : min (i % 32) (IntKind.bits IntKind.u32) = i % 32 := by show min (i % 32) 32 = _; omega
          have f4 : IntKind.i64.wrap ((i : Int) - 1) = (i : Int) - 1 := i64w (by omega) (by omega)
          have hg := hI.digit (i := i) rfl
          have hgw := hI.wq.getD (i / 32)
          have hP : (0 : Int) < 2 ^ (i % 32) := Int.pow_pos (by omega)
          have hg2 : q.getD (i / 32) 0 + 2 ^ (i % 32) < 4294967296 := hg.2
          have hgw : 0 ≤ q.getD (i / 32) 0 ∧ q.getD (i / 32) 0 < 4294967296 := hgw
          have f5 : IntKind.u32.wrap (1 * 2 ^ (i % 32)) = 2 ^ (i % 32) := by rw [Int.one_mul]; exact eu32 (by omega)
          have hn2 : ((2 ^ (i % 32) : Nat) : Int) = (2 : Int) ^ (i % 32) := cast_pow2 _
          have hn3 : 2 ^ (i % 32 + 1) = 2 ^ (i % 32) * 2 := Nat.pow_succ ..
          have f6 := or32 (A := q.getD (i / 32) 0) (y := 2 ^ (i % 32)) (i % 32 + 1) hgw.1 hgw.2 hg.1 (by omega) (by omega) hg2
          rw [BitVec.or_comm] at f6
          simp only [f0, f1, f2, f3, f4, f5, f6, Int.toNat_natCast, Nat.zero_add]
          refine ⟨⟨⟨by omega, by omega⟩, hwr, hwd, by omega, by omega⟩, ?_⟩
          split
          · rename_i hle
            exact ⟨⟨hwr, hwd, by omega, by omega, by omega, hle⟩, fun e => by omega, (by and_intros <;> first | exact True.intro | rfl | omega), by omega, fun e => by omega, by omega, (by and_intros <;> first | exact True.intro | rfl | omega), by omega, ⟨hwd, by omega, by omega⟩, _, hI.take (i := i) rfl hle, ⟨(by and_intros <;> first | exact True.intro | rfl | omega), (by and_intros <;> first | exact True.intro | rfl | omega), (by and_intros <;> first | exact True.intro | rfl | omega)⟩, Nat.lt_succ_self i⟩
          · rename_i hle
            exact ⟨⟨hwd, by omega, by omega⟩, _, hI.skip (i := i) rfl hle, ⟨(by and_intros <;> first | exact True.intro | rfl | omega), (by and_intros <;> first | exact True.intro | rfl | omega), (by and_intros <;> first | exact True.intro | rfl | omega)⟩, Nat.lt_succ_self i⟩
        · rename_i hge
          have hk0 : k = 0 := by have : ¬ (k : Int) - 1 ≥ 0 := hge; omega
          obtain ⟨g1, g2⟩ := hI.fin hbp hk0
          have g1 : wv q = wv a / wv b := g1
          have g2 : wv rr = wv a % wv b := g2
          have d1 := digs_wv hI.wq
          have d2 := digs_wv hwr
          have d1 : digs q.length (wv q) = q := d1
          rw [g1, hlq] at d1
          rw [g2, hlr] at d2
          exact ⟨⟨by omega, by omega⟩, d1.symm, d2.symm, True.intro⟩
  · simp at h
def c_rdivide : Ctr Tryd.prog := ⟨95, s_rdivide, fun args w => Tryd.call95 args w, fn_ok mix Tryd.func95 s_rdivide p_rdivide⟩

end Go.Proofs.YtcikhffhikgahaaDoor

/-
  Contracts of functions: the reference of layer 1: division, common divisors.
-/
namespace Go.Proofs.YtcikhffhikgahaaDoor
open Go Go.RowKit

theorem divQ_wd (a b : List Int) : Wd (divQ a b) := by
  unfold divQ
  cases smallL a b
  · cases decide (bl (wv a).toNat < bl (wv b).toNat)
    · exact digs_wd _ _
    · exact Wd.nil
  · exact digs_wd _ _
theorem divR_wd {a : List Int} (ha : Wd a) (b : List Int) : Wd (divR a b) := by
  unfold divR
  cases smallL a b
  · cases decide (bl (wv a).toNat < bl (wv b).toNat)
    · exact digs_wd _ _
    · exact ha
  · exact digs_wd _ _
theorem divR_len (a b : List Int) : (divR a b).length ≤ a.length + 2 := by
  unfold divR
  cases smallL a b
  · cases decide (bl (wv a).toNat < bl (wv b).toNat)
    · rw [cond_false, cond_false, digs_len]; omega
    · rw [cond_false, cond_true]; omega
  · rw [cond_true, digs_len]; omega
theorem divQ_len (a b : List Int) : (divQ a b).length ≤ bl (wv a).toNat / 32 + 2 := by
  unfold divQ
  cases smallL a b
  · cases decide (bl (wv a).toNat < bl (wv b).toNat)
    · rw [cond_false, cond_false, digs_len]; omega
    · rw [cond_false, cond_true]; simp
  · rw [cond_true, digs_len]; omega

theorem bl_lt_of {a b : Nat} (h : bl a < bl b) : a < b := by
  rcases Nat.lt_or_ge a b with q | q
  · exact q
  · have h1 := bl_lt a
    have h2 := bl_le (n := b) (by intro e; subst e; rw [bl_zero] at h; omega)
    have : 2 ^ (bl b - 1) < 2 ^ bl a := by omega
    have := (Nat.pow_lt_pow_iff_right (by omega : 1 < 2)).1 this
    have h5 : 2 ^ bl a ≤ 2 ^ (bl b - 1) := Nat.pow_le_pow_right (by omega) (by omega)
    omega

theorem div_wv {a b : List Int} (ha : Cn a) (hb : 0 < wv b) : wv (divQ a b) = wv a / wv b ∧ wv (divR a b) = wv a % wv b := by
  have hap := ha.pos
  have hlt := wv_lt ha.wd
  have hd0 := Int.ediv_nonneg hap (show 0 ≤ wv b by omega)
  have hd1 := Int.ediv_le_self (wv b) hap
  have hm0 := Int.emod_nonneg (wv a) (show wv b ≠ 0 by omega)
  have hm1 : wv a % wv b ≤ wv a := by
    have h1 := Int.mul_ediv_add_emod (wv a) (wv b)
    have h2 := Int.mul_nonneg (show 0 ≤ wv b by omega) hd0
    omega
  unfold divQ divR
  cases hs : smallL a b with
  | true =>
    rw [cond_true, cond_true]
    have hl : a.length ≤ 2 := by unfold smallL at hs; simp at hs; exact hs.1
    have h2 := pow_le32 hl
    exact ⟨wv_digs _ _ hd0 (by omega), wv_digs _ _ hm0 (by omega)⟩
  | false =>
    rw [cond_false, cond_false]
    cases hc : decide (bl (wv a).toNat < bl (wv b).toNat) with
    | true =>
      rw [cond_true, cond_true]
      have := bl_lt_of (of_decide_eq_true hc)
      rw [Int.ediv_eq_zero_of_lt hap (by omega), Int.emod_eq_of_lt hap (by omega)]
      exact ⟨rfl, rfl⟩
    | false =>
      rw [cond_false, cond_false]
      refine ⟨wv_digs _ _ hd0 ?_, wv_digs _ _ hm0 (by omega)⟩
      obtain ⟨A, hA⟩ := Int.eq_ofNat_of_zero_le hap
      obtain ⟨B, hB⟩ := Int.eq_ofNat_of_zero_le (show 0 ≤ wv b by omega)
      rw [hA, hB, Int.toNat_natCast, Int.toNat_natCast] at hc ⊢
      have hc := of_decide_eq_false hc
      have h1 := bl_lt A
      have h2 := bl_le (n := B) (by omega)
      have hbB : bl B ≠ 0 := by intro e; have := bl_lt B; rw [e] at this; omega
      have h3 : A / B < 2 ^ (bl A - bl B + 1) := by
        rw [Nat.div_lt_iff_lt_mul (by omega)]
        have h4 : 2 ^ bl A = 2 ^ (bl A - bl B + 1) * 2 ^ (bl B - 1) := by rw [← Nat.pow_add]; congr 1; omega
        have h5 : 2 ^ (bl A - bl B + 1) * 2 ^ (bl B - 1) ≤ 2 ^ (bl A - bl B + 1) * B := Nat.mul_le_mul_left _ h2
        omega
      have h6 : 2 ^ (bl A - bl B + 1) ≤ 4294967296 ^ ((bl A - bl B) / 32 + 1) := by
        rw [pow_words]; exact Nat.pow_le_pow_right (by omega) (by omega)
      rw [← cast_pow32, ← Int.natCast_ediv]
      omega

theorem vc_rdivmod (a b : Int) (n m : Nat) : (bif (↑(List.length (limbs (Int.natAbs b))) : Int) == (0 : Int) then bif decide (b = (0 : Int)) then ((0 : Int) = (0 : Int) ∧ ((0 : Nat) ≤ (0 : Nat) ∨ Int.natAbs (0 : Int) < (2 : Nat) ^ (0 : Nat))) ∧ ((0 : Int) = (0 : Int) ∧ ((0 : Nat) ≤ (0 : Nat) ∨ Int.natAbs (0 : Int) < (2 : Nat) ^ (0 : Nat))) ∧ (4 : Int) = (4 : Int) ∧ True else ((0 : Int) = a / b ∧ ((0 : Nat) ≤ n ∨ Int.natAbs (0 : Int) < (2 : Nat) ^ n)) ∧ ((0 : Int) = a % b ∧ ((0 : Nat) ≤ m ∨ Int.natAbs (0 : Int) < (2 : Nat) ^ m)) ∧ (4 : Int) = (0 : Int) ∧ True else (limbs (Int.toNat (wv (limbs (Int.natAbs a)))) = limbs (Int.natAbs a) ∧ limbs (Int.toNat (wv (limbs (Int.natAbs b)))) = limbs (Int.natAbs b) ∧ (limbs (Int.natAbs b) = [] → False) ∧ List.length (limbs (Int.natAbs a)) ≤ (31000 : Nat) ∧ List.length (limbs (Int.natAbs b)) ≤ (31000 : Nat)) ∧ ((∀ (x : Int), x ∈ divQ (limbs (Int.natAbs a)) (limbs (Int.natAbs b)) → (0 : Int) ≤ x ∧ x < (4294967296 : Int)) ∧ List.length (divQ (limbs (Int.natAbs a)) (limbs (Int.natAbs b))) ≤ (1000000000 : Nat)) ∧ ((∀ (x : Int), x ∈ divR (limbs (Int.natAbs a)) (limbs (Int.natAbs b)) → (0 : Int) ≤ x ∧ x < (4294967296 : Int)) ∧ List.length (divR (limbs (Int.natAbs a)) (limbs (Int.natAbs b))) ≤ (1000000000 : Nat)) ∧ bif decide (sg (decide (a < (0 : Int))) (wv (divR (limbs (Int.natAbs a)) (limbs (Int.natAbs b)))) < (0 : Int)) then m ≤ (1000000 : Nat) ∧ ((32 : Nat) * List.length (divR (limbs (Int.natAbs a)) (limbs (Int.natAbs b))) ≤ (1000000 : Nat) ∧ m ≤ (1000000 : Nat)) ∧ bif decide (b < (0 : Int)) then ((-9223372036854775808 : Int) ≤ (1 : Int) ∧ (1 : Int) ≤ (9223372036854775807 : Int)) ∧ ((32 : Nat) * List.length (divQ (limbs (Int.natAbs a)) (limbs (Int.natAbs b))) ≤ (1000000 : Nat) ∧ (64 : Nat) ≤ (1000000 : Nat)) ∧ bif decide (b = (0 : Int)) then (sg (!decide (a < (0 : Int)) == decide (b < (0 : Int))) (wv (divQ (limbs (Int.natAbs a)) (limbs (Int.natAbs b)))) + (1 : Int) = (0 : Int) ∧ (max ((32 : Nat) * List.length (divQ (limbs (Int.natAbs a)) (limbs (Int.natAbs b)))) (64 : Nat) + (1 : Nat) ≤ (0 : Nat) ∨ Int.natAbs (sg (!decide (a < (0 : Int)) == decide (b < (0 : Int))) (wv (divQ (limbs (Int.natAbs a)) (limbs (Int.natAbs b)))) + (1 : Int)) < (2 : Nat) ^ (0 : Nat))) ∧ (sg (decide (a < (0 : Int))) (wv (divR (limbs (Int.natAbs a)) (limbs (Int.natAbs b)))) + (↑(Int.natAbs b) : Int) = (0 : Int) ∧ (max ((32 : Nat) * List.length (divR (limbs (Int.natAbs a)) (limbs (Int.natAbs b)))) m + (1 : Nat) ≤ (0 : Nat) ∨ Int.natAbs (sg (decide (a < (0 : Int))) (wv (divR (limbs (Int.natAbs a)) (limbs (Int.natAbs b)))) + (↑(Int.natAbs b) : Int)) < (2 : Nat) ^ (0 : Nat))) ∧ (0 : Int) = (4 : Int) ∧ True else (sg (!decide (a < (0 : Int)) == decide (b < (0 : Int))) (wv (divQ (limbs (Int.natAbs a)) (limbs (Int.natAbs b)))) + (1 : Int) = a / b ∧ (max ((32 : Nat) * List.length (divQ (limbs (Int.natAbs a)) (limbs (Int.natAbs b)))) (64 : Nat) + (1 : Nat) ≤ n ∨ Int.natAbs (sg (!decide (a < (0 : Int)) == decide (b < (0 : Int))) (wv (divQ (limbs (Int.natAbs a)) (limbs (Int.natAbs b)))) + (1 : Int)) < (2 : Nat) ^ n)) ∧ (sg (decide (a < (0 : Int))) (wv (divR (limbs (Int.natAbs a)) (limbs (Int.natAbs b)))) + (↑(Int.natAbs b) : Int) = a % b ∧ (max ((32 : Nat) * List.length (divR (limbs (Int.natAbs a)) (limbs (Int.natAbs b)))) m + (1 : Nat) ≤ m ∨ Int.natAbs (sg (decide (a < (0 : Int))) (wv (divR (limbs (Int.natAbs a)) (limbs (Int.natAbs b)))) + (↑(Int.natAbs b) : Int)) < (2 : Nat) ^ m)) ∧ (0 : Int) = (0 : Int) ∧ True else ((-9223372036854775808 : Int) ≤ (1 : Int) ∧ (1 : Int) ≤ (9223372036854775807 : Int)) ∧ ((32 : Nat) * List.length (divQ (limbs (Int.natAbs a)) (limbs (Int.natAbs b))) ≤ (1000000 : Nat) ∧ (64 : Nat) ≤ (1000000 : Nat)) ∧ bif decide (b = (0 : Int)) then (sg (!decide (a < (0 : Int)) == decide (b < (0 : Int))) (wv (divQ (limbs (Int.natAbs a)) (limbs (Int.natAbs b)))) - (1 : Int) = (0 : Int) ∧ (max ((32 : Nat) * List.length (divQ (limbs (Int.natAbs a)) (limbs (Int.natAbs b)))) (64 : Nat) + (1 : Nat) ≤ (0 : Nat) ∨ Int.natAbs (sg (!decide (a < (0 : Int)) == decide (b < (0 : Int))) (wv (divQ (limbs (Int.natAbs a)) (limbs (Int.natAbs b)))) - (1 : Int)) < (2 : Nat) ^ (0 : Nat))) ∧ (sg (decide (a < (0 : Int))) (wv (divR (limbs (Int.natAbs a)) (limbs (Int.natAbs b)))) + (↑(Int.natAbs b) : Int) = (0 : Int) ∧ (max ((32 : Nat) * List.length (divR (limbs (Int.natAbs a)) (limbs (Int.natAbs b)))) m + (1 : Nat) ≤ (0 : Nat) ∨ Int.natAbs (sg (decide (a < (0 : Int))) (wv (divR (limbs (Int.natAbs a)) (limbs (Int.natAbs b)))) + (↑(Int.natAbs b) : Int)) < (2 : Nat) ^ (0 : Nat))) ∧ (0 : Int) = (4 : Int) ∧ True else (sg (!decide (a < (0 : Int)) == decide (b < (0 : Int))) (wv (divQ (limbs (Int.natAbs a)) (limbs (Int.natAbs b)))) - (1 : Int) = a / b ∧ (max ((32 : Nat) * List.length (divQ (limbs (Int.natAbs a)) (limbs (Int.natAbs b)))) (64 : Nat) + (1 : Nat) ≤ n ∨ Int.natAbs (sg (!decide (a < (0 : Int)) == decide (b < (0 : Int))) (wv (divQ (limbs (Int.natAbs a)) (limbs (Int.natAbs b)))) - (1 : Int)) < (2 : Nat) ^ n)) ∧ (sg (decide (a < (0 : Int))) (wv (divR (limbs (Int.natAbs a)) (limbs (Int.natAbs b)))) + (↑(Int.natAbs b) : Int) = a % b ∧ (max ((32 : Nat) * List.length (divR (limbs (Int.natAbs a)) (limbs (Int.natAbs b)))) m + (1 : Nat) ≤ m ∨ Int.natAbs (sg (decide (a < (0 : Int))) (wv (divR (limbs (Int.natAbs a)) (limbs (Int.natAbs b)))) + (↑(Int.natAbs b) : Int)) < (2 : Nat) ^ m)) ∧ (0 : Int) = (0 : Int) ∧ True else bif decide (b = (0 : Int)) then (sg (!decide (a < (0 : Int)) == decide (b < (0 : Int))) (wv (divQ (limbs (Int.natAbs a)) (limbs (Int.natAbs b)))) = (0 : Int) ∧ ((32 : Nat) * List.length (divQ (limbs (Int.natAbs a)) (limbs (Int.natAbs b))) ≤ (0 : Nat) ∨ Int.natAbs (sg (!decide (a < (0 : Int)) == decide (b < (0 : Int))) (wv (divQ (limbs (Int.natAbs a)) (limbs (Int.natAbs b))))) < (2 : Nat) ^ (0 : Nat))) ∧ (sg (decide (a < (0 : Int))) (wv (divR (limbs (Int.natAbs a)) (limbs (Int.natAbs b)))) = (0 : Int) ∧ ((32 : Nat) * List.length (divR (limbs (Int.natAbs a)) (limbs (Int.natAbs b))) ≤ (0 : Nat) ∨ Int.natAbs (sg (decide (a < (0 : Int))) (wv (divR (limbs (Int.natAbs a)) (limbs (Int.natAbs b))))) < (2 : Nat) ^ (0 : Nat))) ∧ (0 : Int) = (4 : Int) ∧ True else (sg (!decide (a < (0 : Int)) == decide (b < (0 : Int))) (wv (divQ (limbs (Int.natAbs a)) (limbs (Int.natAbs b)))) = a / b ∧ ((32 : Nat) * List.length (divQ (limbs (Int.natAbs a)) (limbs (Int.natAbs b))) ≤ n ∨ Int.natAbs (sg (!decide (a < (0 : Int)) == decide (b < (0 : Int))) (wv (divQ (limbs (Int.natAbs a)) (limbs (Int.natAbs b))))) < (2 : Nat) ^ n)) ∧ (sg (decide (a < (0 : Int))) (wv (divR (limbs (Int.natAbs a)) (limbs (Int.natAbs b)))) = a % b ∧ ((32 : Nat) * List.length (divR (limbs (Int.natAbs a)) (limbs (Int.natAbs b))) ≤ m ∨ Int.natAbs (sg (decide (a < (0 : Int))) (wv (divR (limbs (Int.natAbs a)) (limbs (Int.natAbs b))))) < (2 : Nat) ^ m)) ∧ (0 : Int) = (0 : Int) ∧ True) = evFn (env [c_rdivide, c_rmade, c_radd, c_rsub, c_rabs, c_rof] noAnn) Tryd.f82 [.big a n, .big b m] (MRes.sat (.br (decide (b = 0)) (.ret (.tup [.big 0 0, .big 0 0, .int .i64 4])) (.ret (.tup [.big (a / b) n, .big (a % b) m, .int .i64 0])))) := by kernel_rfl

theorem p_rdivmod : GoodF Tryd.f82 s_divmod := by
  intro ms p r h hp hf
  unfold s_divmod at h
  split at h
  · rename_i a n b m
    simp only [Option.some.injEq, Prod.mk.injEq] at h
    obtain ⟨rfl, rfl⟩ := h
    obtain ⟨hn, hm⟩ : n ≤ 900000 ∧ m ≤ 900000 := hp
    have ha : a.natAbs < 2 ^ n := hf.1
    have hb : b.natAbs < 2 ^ m := hf.2.1
    refine ⟨env [c_rdivide, c_rmade, c_radd, c_rsub, c_rabs, c_rof] noAnn, ?_⟩
    rw [← vc_rdivmod a b n m, len_zero_iff]
    have l1 := limbs_len_bits ha
    have l2 := limbs_len_bits hb
    by_cases hz : b = 0
    · subst hz
      rw [show decide ((0 : Int) = 0) = true from rfl, cond_true, cond_true]
      exact ⟨⟨rfl, .inl (Nat.le_refl _)⟩, ⟨rfl, .inl (Nat.le_refl _)⟩, (by and_intros <;> first | exact True.intro | rfl | omega)⟩
    · have hne : limbs b.natAbs ≠ [] := fun e => hz (by have := limbs_eq_nil.1 e; omega)
      have dq := div_wv (a := limbs a.natAbs) (b := limbs b.natAbs) (cn_limbs _) (by rw [wvl]; omega)
      rw [wvl, wvl, ← Int.natCast_ediv, ← Int.natCast_emod] at dq
      have q1 := divQ_len (limbs a.natAbs) (limbs b.natAbs)
      have q2 := divR_len (limbs a.natAbs) (limbs b.natAbs)
      rw [wvl, Int.toNat_natCast] at q1
      have hbl : bl a.natAbs ≤ n := bl_le_of ha
      simp only [show decide (b = 0) = false from decide_eq_false hz, cond_false, dq.1, dq.2, wvl, Int.toNat_natCast]
      obtain ⟨k1, k2⟩ := divmod_signs a b hz rfl rfl
      have hq : (a / b).natAbs < 2 ^ n := Nat.lt_of_le_of_lt (natAbs_ediv a b) ha
      have hr : (a % b).natAbs < 2 ^ m := Nat.lt_of_lt_of_le (natAbs_emod hz) (by omega)
      refine ⟨⟨True.intro, True.intro, hne, by omega, by omega⟩, ⟨divQ_wd _ _, by omega⟩, ⟨divR_wd (limbs_wd _) _, by omega⟩, ?_⟩
      simp only [Bool.cond_decide]
      split
      · rename_i hc
        obtain ⟨k3, k4⟩ := k1 hc
        refine ⟨by omega, ⟨by omega, by omega⟩, ?_⟩
        split
        · rename_i hneg
          have hs : sgn b = -1 := by unfold sgn; rw [if_neg hz, if_pos hneg]
          rw [hs] at k4
          have k4 : sg (!(decide (a < 0) == decide (b < 0))) ((a.natAbs / b.natAbs : Nat) : Int) + 1 = a / b := by omega
          rw [k3, k4]
          exact ⟨(by and_intros <;> first | exact True.intro | rfl | omega), ⟨by omega, by omega⟩, ⟨rfl, .inr hq⟩, ⟨rfl, .inr hr⟩, (by and_intros <;> first | exact True.intro | rfl | omega)⟩
        · rename_i hneg
          have hs : sgn b = 1 := by unfold sgn; rw [if_neg hz, if_neg hneg]
          rw [hs] at k4
          rw [k3, k4]
          exact ⟨(by and_intros <;> first | exact True.intro | rfl | omega), ⟨by omega, by omega⟩, ⟨rfl, .inr hq⟩, ⟨rfl, .inr hr⟩, (by and_intros <;> first | exact True.intro | rfl | omega)⟩
      · rename_i hc
        obtain ⟨k3, k4⟩ := k2 hc
        rw [k3, k4]
        exact ⟨⟨rfl, .inr hq⟩, ⟨rfl, .inr hr⟩, (by and_intros <;> first | exact True.intro | rfl | omega)⟩
  · simp at h
def c_rdivmod : Ctr Tryd.prog := ⟨82, s_divmod, fun args w => Tryd.call82 args w, fn_ok_facts mix Tryd.func82 s_divmod p_rdivmod⟩
def c_rdivmod1 : Ctr Tryd.prog := c_rdivmod.weaken s_divmod1 w_divmod1

theorem vc_rmod (a b : Int) (n m : Nat) : ((n ≤ (900000 : Nat) ∧ m ≤ (900000 : Nat) ∧ (b = (0 : Int) → False)) ∧ a % b = a % b ∧ (m ≤ m ∨ Int.natAbs (a % b) < (2 : Nat) ^ m)) = evFn (env [c_rdivmod1] noAnn) Tryd.f55 [.big a n, .big b m] (MRes.sat (.ret (.big (a % b) m))) := by kernel_rfl
theorem p_rmod : Good Tryd.f55 s_imod := by
  intro ms p r h hp
  unfold s_imod at h
  split at h
  · rename_i a n b m
    simp only [Option.some.injEq, Prod.mk.injEq] at h
    obtain ⟨rfl, rfl⟩ := h
    obtain ⟨hn, hm, hb⟩ : n ≤ 900000 ∧ m ≤ 900000 ∧ b ≠ 0 := hp
    refine ⟨env [c_rdivmod1] noAnn, ?_⟩
    rw [← vc_rmod a b n m]
    exact ⟨⟨hn, hm, hb⟩, rfl, .inl (Nat.le_refl _)⟩
  · simp at h
def c_rmod : Ctr Tryd.prog := ⟨55, s_imod, fun args w => Tryd.call55 args w, fn_ok mix Tryd.func55 s_imod p_rmod⟩

end Go.Proofs.YtcikhffhikgahaaDoor

/-
  Contracts of functions: the reference: common divisors; primes.
-/
namespace Go.Proofs.YtcikhffhikgahaaDoor
open Go Go.RowKit

def a_rgcd (a b : Int) (N : Nat) : Nat → MS → Option LoopAnn
  | 3, _ => some (.inv GcS (fun s => GcI a b N s ∧ 0 ≤ s.x ∧ 0 ≤ s.y) (fun s => ⟨20, [(2, .bp 0 0), (3, .bp 1 0), (4, .bp 2 0)], [⟨false, .one (.big s.x N)⟩, ⟨false, .one (.big s.y N)⟩, ⟨false, .one (.big 0 0)⟩], 0⟩) (fun s => s.y.natAbs))
  | _, _ => none

/-- Whether a number is a prime. -/
def primeB (n : Nat) : Bool := decide (1 < n) && (List.range n).all fun d => decide (d < 2) || decide (n < d * d) || decide (n % d ≠ 0)
theorem primeB_iff {n : Nat} : primeB n = true ↔ 1 < n ∧ ∀ d, 2 ≤ d → d * d ≤ n → n % d ≠ 0 := by
  unfold primeB
  simp only [Bool.and_eq_true, decide_eq_true_eq, List.all_eq_true, List.mem_range, Bool.or_eq_true]
  constructor
  · rintro ⟨h1, h2⟩
    refine ⟨h1, fun d hd hdd => ?_⟩
    have h3 : d * 2 ≤ d * d := Nat.mul_le_mul_left _ hd
    rcases h2 d (by omega) with (h | h) | h
    · omega
    · omega
    · exact h
  · rintro ⟨h1, h2⟩
    refine ⟨h1, fun d _ => ?_⟩
    by_cases h3 : d < 2
    · exact .inl (.inl h3)
    · by_cases h4 : n < d * d
      · exact .inl (.inr h4)
      · exact .inr (h2 d (by omega) (by omega))
def s_isprime : FSpec
  | [.int .i64 z] => some (some (0 ≤ z ∧ z ≤ 1000000000), .ret (.bool (primeB z.toNat)))
  | _ => none
def a_isprime (n : Nat) : Nat → MS → Option LoopAnn
  | 2, _ => some (.inv Nat (fun d => 2 ≤ d ∧ (d - 1) * (d - 1) ≤ n + 1 ∧ ∀ e, 2 ≤ e → e < d → n % e ≠ 0) (fun d => ⟨17, [(0, .int .i64 n), (3, .int .i64 d)], [], 0⟩) (fun d => n + 2 - d))
  | _, _ => none
theorem vc_isprime (n : Nat) : ((∃ i, ((2 : Nat) ≤ i ∧ (i - (1 : Nat)) * (i - (1 : Nat)) ≤ n + (1 : Nat) ∧ ∀ (e : Nat), (2 : Nat) ≤ e → e < i → n % e = (0 : Nat) → False) ∧ ((↑n : Int) = (↑n : Int) ∧ (2 : Int) = (↑i : Int) ∧ True) ∧ True) ∧ ∀ (i : Nat), ((2 : Nat) ≤ i ∧ (i - (1 : Nat)) * (i - (1 : Nat)) ≤ n + (1 : Nat) ∧ ∀ (e : Nat), (2 : Nat) ≤ e → e < i → n % e = (0 : Nat) → False) → bif decide (IntKind.wrap IntKind.i64 ((↑i : Int) * (↑i : Int)) ≤ (↑n : Int)) then ((↑i : Int) = (0 : Int) → False) ∧ bif Int.tmod (↑n : Int) (↑i : Int) == (0 : Int) then false = primeB n else ∃ j, ((2 : Nat) ≤ j ∧ (j - (1 : Nat)) * (j - (1 : Nat)) ≤ n + (1 : Nat) ∧ ∀ (e : Nat), (2 : Nat) ≤ e → e < j → n % e = (0 : Nat) → False) ∧ (((↑n : Int) = (↑n : Int) ∧ IntKind.wrap IntKind.i64 ((↑i : Int) + (1 : Int)) = (↑j : Int) ∧ True) ∧ True) ∧ n + (2 : Nat) - j < n + (2 : Nat) - i else decide ((↑n : Int) > (1 : Int)) = primeB n) = evFn (env [] (a_isprime n)) Tryd.f39 [.int .i64 n] (MRes.sat (.ret (.bool (primeB n)))) := by kernel_rfl

/-- The next prime. -/
def nextPf : Nat → Nat → Nat
  | 0, p => p
  | f + 1, p => cond (primeB p) p (nextPf f (p + 1))
def nextP (n : Nat) : Nat := nextPf (263 - n) n
def s_rprime : FSpec
  | [.int .u16 z] => some (some (0 ≤ z ∧ z ≤ 263), .ret (.int .i64 (nextP z.toNat)))
  | _ => none


theorem p_isprime : Good Tryd.f39 s_isprime := by
  intro ms p r h hp
  unfold s_isprime at h
  split at h
  · rename_i z
    simp only [Option.some.injEq, Prod.mk.injEq] at h
    obtain ⟨rfl, rfl⟩ := h
    obtain ⟨h0, h1⟩ : 0 ≤ z ∧ z ≤ 1000000000 := hp
    obtain ⟨n, rfl⟩ := Int.eq_ofNat_of_zero_le h0
    refine ⟨env [] (a_isprime n), ?_⟩
    rw [show ((n : Int)).toNat = n from rfl, ← vc_isprime n]
    refine ⟨⟨2, ⟨Nat.le_refl _, by omega, fun e h1 h2 => by omega⟩, (by and_intros <;> first | exact True.intro | rfl | omega)⟩, ?_⟩
    rintro d ⟨hd, hdd, hno⟩
    have hd1 : d - 1 ≤ (d - 1) * (d - 1) := by
      have := Nat.mul_le_mul_left (d - 1) (show 1 ≤ d - 1 by omega)
      omega
    have hsq : d * d = (d - 1) * (d - 1) + 2 * d - 1 := by
      obtain ⟨k, rfl⟩ : ∃ k, d = k + 1 := ⟨d - 1, by omega⟩
      simp only [Nat.add_sub_cancel]
      grind
    have e1 : IntKind.i64.wrap ((d : Int) * (d : Int)) = ((d * d : Nat) : Int) := by
      rw [← Int.natCast_mul, i64w (by omega) (by omega)]
    have e2 : IntKind.i64.wrap ((d : Int) + 1) = ((d + 1 : Nat) : Int) := by rw [i64w (by omega) (by omega)]; omega
    rw [e1, e2, Bool.cond_decide]
    split
    · rename_i hle
      have hle : d * d ≤ n := by omega
      refine ⟨fun e => by omega, ?_⟩
      have et : Int.tmod (n : Int) (d : Int) = ((n % d : Nat) : Int) := rfl
      rw [et]
      cases hm : (((n % d : Nat) : Int) == 0) with
      | true =>
        rw [cond_true]
        have hm : n % d = 0 := by have := beq_iff_eq.1 hm; omega
        symm
        have : ¬ primeB n = true := fun h => (primeB_iff.1 h).2 d hd hle hm
        simpa using this
      | false =>
        rw [cond_false]
        have hm : n % d ≠ 0 := by
          intro e; rw [e] at hm; simp at hm
        have hdn : d ≤ n := by
          have := Nat.mul_le_mul_left d (show 1 ≤ d by omega)
          omega
        refine ⟨d + 1, ⟨by omega, by rw [Nat.add_sub_cancel]; omega, fun e h1 h2 => ?_⟩, (by and_intros <;> first | exact True.intro | rfl | omega), by omega⟩
        by_cases he : e = d
        · subst he; exact hm
        · exact hno e h1 (by omega)
    · rename_i hle
      have hle : n < d * d := by omega
      have key : primeB n = true ↔ 1 < n := by
        rw [primeB_iff]
        refine ⟨fun h => h.1, fun h => ⟨h, fun e h1 h2 => hno e h1 ?_⟩⟩
        rcases Nat.lt_or_ge e d with q | q
        · exact q
        · have := Nat.mul_le_mul q q
          omega
      cases hb : primeB n with
      | true =>
        have := key.1 hb
        exact decide_eq_true (by omega)
      | false =>
        refine decide_eq_false fun h => ?_
        have := key.2 (by omega)
        rw [hb] at this; simp at this
  · simp at h
def c_isprime : Ctr Tryd.prog := ⟨39, s_isprime, fun args w => Tryd.call39 args w, fn_ok mix Tryd.func39 s_isprime p_isprime⟩

def a_rprime (n : Nat) : Nat → MS → Option LoopAnn
  | 2, _ => some (.inv Nat (fun p => p ≤ 263 ∧ nextPf (263 - p) p = nextP n) (fun p => ⟨12, [(3, .int .i64 p)], [], 0⟩) (fun p => 263 - p))
  | _, _ => none
theorem vc_rprime (n : Nat) : ((∃ i, (i ≤ (263 : Nat) ∧ nextPf ((263 : Nat) - i) i = nextP n) ∧ (IntKind.wrap IntKind.i64 (↑n : Int) = (↑i : Int) ∧ True) ∧ True) ∧ ∀ (i : Nat), i ≤ (263 : Nat) ∧ nextPf ((263 : Nat) - i) i = nextP n → ((0 : Int) ≤ (↑i : Int) ∧ (↑i : Int) ≤ (1000000000 : Int)) ∧ bif !primeB (Int.toNat (↑i : Int)) then ∃ j, (j ≤ (263 : Nat) ∧ nextPf ((263 : Nat) - j) j = nextP n) ∧ ((IntKind.wrap IntKind.i64 ((↑i : Int) + (1 : Int)) = (↑j : Int) ∧ True) ∧ True) ∧ (263 : Nat) - j < (263 : Nat) - i else (↑i : Int) = (↑(nextP n) : Int)) = evFn (env [c_isprime] (a_rprime n)) Tryd.f11 [.int .u16 n] (MRes.sat (.ret (.int .i64 (nextP n)))) := by kernel_rfl
theorem p_rprime : Good Tryd.f11 s_rprime := by
  intro ms p r h hp
  unfold s_rprime at h
  split at h
  · rename_i z
    simp only [Option.some.injEq, Prod.mk.injEq] at h
    obtain ⟨rfl, rfl⟩ := h
    obtain ⟨h0, h1⟩ : 0 ≤ z ∧ z ≤ 263 := hp
    obtain ⟨n, rfl⟩ := Int.eq_ofNat_of_zero_le h0
    refine ⟨env [c_isprime] (a_rprime n), ?_⟩
    rw [show ((n : Int)).toNat = n from rfl, ← vc_rprime n]
    have hP : primeB 263 = true := by decide +kernel
    refine ⟨⟨n, ⟨by omega, rfl⟩, (by rw [i64w (by omega) (by omega)]; exact ⟨rfl, True.intro⟩), True.intro⟩, ?_⟩
    rintro p ⟨hp, hn⟩
    rw [Int.toNat_natCast]
    refine ⟨by omega, ?_⟩
    cases hb : primeB p with
    | true =>
      show (p : Int) = (nextP n : Int)
      have : nextPf (263 - p) p = p := by
        cases h : 263 - p with
        | zero => rfl
        | succ f => simp [nextPf, hb]
      rw [← hn, this]
    | false =>
      have hlt : p < 263 := by
        rcases Nat.lt_or_ge p 263 with q | q
        · exact q
        · have : p = 263 := by omega
          subst this; rw [hP] at hb; simp at hb
      refine ⟨p + 1, ⟨by omega, ?_⟩, ⟨⟨by rw [i64w (by omega) (by omega)]; omega, True.intro⟩, True.intro⟩, by omega⟩
      rw [← hn, show 263 - p = (263 - (p + 1)) + 1 by omega]
      simp [nextPf, hb]
  · simp at h
def c_rprime : Ctr Tryd.prog := ⟨11, s_rprime, fun args w => Tryd.call11 args w, fn_ok mix Tryd.func11 s_rprime p_rprime⟩

end Go.Proofs.YtcikhffhikgahaaDoor

/-
  Contracts of functions: numbers of 64 bits; package modular.
-/
namespace Go.Proofs.YtcikhffhikgahaaDoor
open Go Go.RowKit

def s_rlow : FSpec
  | [.big z _] => some (some (z.natAbs < 9223372036854775808), .ret (.tup [.int .i64 z, .bool true]))
  | _ => none
theorem vc_rlow (z : Int) (n : Nat) : ((∀ (x : Int), x ∈ limbs (Int.natAbs z) → (0 : Int) ≤ x ∧ x < (4294967296 : Int)) ∧ (∀ (x : Int), x ∈ limbs (Int.natAbs z) → (0 : Int) ≤ x ∧ x < (4294967296 : Int)) ∧ (0 : Int) ≤ (32 : Int) ∧ bif decide ((↑(List.length (limbs (Int.natAbs z))) : Int) > (2 : Int)) then (0 : Int) = z ∧ false = true ∧ True else bif decide (IntKind.wrap IntKind.u64 (↑(BitVec.toNat (BitVec.ofInt (IntKind.bits IntKind.u64) (wdg (limbs (Int.natAbs z)) (0 : Int)) ||| BitVec.ofInt (IntKind.bits IntKind.u64) (IntKind.wrap IntKind.u64 (wdg (limbs (Int.natAbs z)) (1 : Int) * (2 : Int) ^ min (Int.toNat (32 : Int)) (IntKind.bits IntKind.u64))))) : Int) > (9223372036854775808 : Int)) then (0 : Int) = z ∧ false = true ∧ True else bif IntKind.wrap IntKind.u64 (↑(BitVec.toNat (BitVec.ofInt (IntKind.bits IntKind.u64) (wdg (limbs (Int.natAbs z)) (0 : Int)) ||| BitVec.ofInt (IntKind.bits IntKind.u64) (IntKind.wrap IntKind.u64 (wdg (limbs (Int.natAbs z)) (1 : Int) * (2 : Int) ^ min (Int.toNat (32 : Int)) (IntKind.bits IntKind.u64))))) : Int) == (9223372036854775808 : Int) then bif !decide (z < (0 : Int)) then (0 : Int) = z ∧ false = true ∧ True else bif decide (z < (0 : Int)) then IntKind.wrap IntKind.i64 ((0 : Int) - IntKind.wrap IntKind.i64 (IntKind.wrap IntKind.u64 (↑(BitVec.toNat (BitVec.ofInt (IntKind.bits IntKind.u64) (wdg (limbs (Int.natAbs z)) (0 : Int)) ||| BitVec.ofInt (IntKind.bits IntKind.u64) (IntKind.wrap IntKind.u64 (wdg (limbs (Int.natAbs z)) (1 : Int) * (2 : Int) ^ min (Int.toNat (32 : Int)) (IntKind.bits IntKind.u64))))) : Int))) = z ∧ true = true ∧ True else IntKind.wrap IntKind.i64 (IntKind.wrap IntKind.u64 (↑(BitVec.toNat (BitVec.ofInt (IntKind.bits IntKind.u64) (wdg (limbs (Int.natAbs z)) (0 : Int)) ||| BitVec.ofInt (IntKind.bits IntKind.u64) (IntKind.wrap IntKind.u64 (wdg (limbs (Int.natAbs z)) (1 : Int) * (2 : Int) ^ min (Int.toNat (32 : Int)) (IntKind.bits IntKind.u64))))) : Int)) = z ∧ true = true ∧ True else bif decide (z < (0 : Int)) then IntKind.wrap IntKind.i64 ((0 : Int) - IntKind.wrap IntKind.i64 (IntKind.wrap IntKind.u64 (↑(BitVec.toNat (BitVec.ofInt (IntKind.bits IntKind.u64) (wdg (limbs (Int.natAbs z)) (0 : Int)) ||| BitVec.ofInt (IntKind.bits IntKind.u64) (IntKind.wrap IntKind.u64 (wdg (limbs (Int.natAbs z)) (1 : Int) * (2 : Int) ^ min (Int.toNat (32 : Int)) (IntKind.bits IntKind.u64))))) : Int))) = z ∧ true = true ∧ True else IntKind.wrap IntKind.i64 (IntKind.wrap IntKind.u64 (↑(BitVec.toNat (BitVec.ofInt (IntKind.bits IntKind.u64) (wdg (limbs (Int.natAbs z)) (0 : Int)) ||| BitVec.ofInt (IntKind.bits IntKind.u64) (IntKind.wrap IntKind.u64 (wdg (limbs (Int.natAbs z)) (1 : Int) * (2 : Int) ^ min (Int.toNat (32 : Int)) (IntKind.bits IntKind.u64))))) : Int)) = z ∧ true = true ∧ True) = evFn (env [c_rword] noAnn) Tryd.f52 [.big z n] (MRes.sat (.ret (.tup [.int .i64 z, .bool true]))) := by kernel_rfl

theorem vc_mof (z : Int) : (((-9223372036854775808 : Int) ≤ z ∧ z ≤ (9223372036854775807 : Int)) ∧ z = z ∧ ((64 : Nat) ≤ (64 : Nat) ∨ Int.natAbs z < (2 : Nat) ^ (64 : Nat))) = evFn (env [c_iof] noAnn) Tryd.f48 [.int .i64 z] (MRes.sat (.ret (.big z 64))) := by kernel_rfl
def s_mone : FSpec
  | [.big a n] => some (some (n ≤ 1000000), .ret (.bool (decide (a = 1))))
  | _ => none
theorem p_mof : Good Tryd.f48 s_iof := by
  intro ms p r h hp
  unfold s_iof at h
  split at h
  · rename_i z
    simp only [Option.some.injEq, Prod.mk.injEq] at h
    obtain ⟨rfl, rfl⟩ := h
    refine ⟨env [c_iof] noAnn, ?_⟩
    rw [← vc_mof z]
    exact ⟨hp, rfl, .inl (Nat.le_refl _)⟩
  · simp at h
def c_mof : Ctr Tryd.prog := ⟨48, s_iof, fun args w => Tryd.call48 args w, fn_ok mix Tryd.func48 s_iof p_mof⟩
theorem vc_mone (a : Int) (n : Nat) : (((-9223372036854775808 : Int) ≤ (1 : Int) ∧ (1 : Int) ≤ (9223372036854775807 : Int)) ∧ (n ≤ (1000000 : Nat) ∧ (64 : Nat) ≤ (1000000 : Nat)) ∧ (icmp a (1 : Int) == (0 : Int)) = decide (a = (1 : Int))) = evFn (env [c_mof, c_icmp] noAnn) Tryd.f43 [.big a n] (MRes.sat (.ret (.bool (decide (a = 1))))) := by kernel_rfl
theorem p_mone : Good Tryd.f43 s_mone := by
  intro ms p r h hp
  unfold s_mone at h
  split at h
  · rename_i a n
    simp only [Option.some.injEq, Prod.mk.injEq] at h
    obtain ⟨rfl, rfl⟩ := h
    have hn : n ≤ 1000000 := hp
    refine ⟨env [c_mof, c_icmp] noAnn, ?_⟩
    rw [← vc_mone a n]
    refine ⟨by omega, ⟨hn, by omega⟩, ?_⟩
    have := icmp_zero (a := a) (b := 1)
    by_cases h : a = 1
    · rw [decide_eq_true h, this.2 h]; rfl
    · rw [decide_eq_false h]
      simp only [beq_eq_false_iff_ne]
      exact fun e => h (this.1 e)
  · simp at h
def c_mone : Ctr Tryd.prog := ⟨43, s_mone, fun args w => Tryd.call43 args w, fn_ok mix Tryd.func43 s_mone p_mone⟩
theorem vc_mmod (a b : Int) (n m : Nat) : ((n ≤ (900000 : Nat) ∧ m ≤ (900000 : Nat) ∧ (b = (0 : Int) → False)) ∧ a % b = a % b ∧ (m ≤ m ∨ Int.natAbs (a % b) < (2 : Nat) ^ m)) = evFn (env [c_divmod1] noAnn) Tryd.f47 [.big a n, .big b m] (MRes.sat (.ret (.big (a % b) m))) := by kernel_rfl
theorem p_mmod : Good Tryd.f47 s_imod := by
  intro ms p r h hp
  unfold s_imod at h
  split at h
  · rename_i a n b m
    simp only [Option.some.injEq, Prod.mk.injEq] at h
    obtain ⟨rfl, rfl⟩ := h
    obtain ⟨hn, hm, hb⟩ : n ≤ 900000 ∧ m ≤ 900000 ∧ b ≠ 0 := hp
    refine ⟨env [c_divmod1] noAnn, ?_⟩
    rw [← vc_mmod a b n m]
    exact ⟨⟨hn, hm, hb⟩, rfl, .inl (Nat.le_refl _)⟩
  · simp at h
def c_mmod : Ctr Tryd.prog := ⟨47, s_imod, fun args w => Tryd.call47 args w, fn_ok mix Tryd.func47 s_imod p_mmod⟩

/-- Mod, for a positive modulus. -/
def s_mMod : FSpec
  | [.big a n, .big b m] => some (some (n ≤ 900000 ∧ m ≤ 900000 ∧ 0 < b), .ret (.tup [.big (a % b) m, .int .i64 0]))
  | _ => none
theorem vc_mMod (a b : Int) (n m : Nat) : (bif decide (sgn b < (1 : Int)) then ((0 : Int) = a % b ∧ ((0 : Nat) ≤ m ∨ Int.natAbs (0 : Int) < (2 : Nat) ^ m)) ∧ (1 : Int) = (0 : Int) ∧ True else (n ≤ (900000 : Nat) ∧ m ≤ (900000 : Nat) ∧ (b = (0 : Int) → False)) ∧ (a % b = a % b ∧ (m ≤ m ∨ Int.natAbs (a % b) < (2 : Nat) ^ m)) ∧ (0 : Int) = (0 : Int) ∧ True) = evFn (env [c_mmod, c_sign] noAnn) Tryd.f20 [.big a n, .big b m] (MRes.sat (.ret (.tup [.big (a % b) m, .int .i64 0]))) := by kernel_rfl
/-- The inverse modulo b. -/
noncomputable def minv (a b : Int) : Int := bzu (a % b) b % b
/-- Inv, for a positive modulus. -/
noncomputable def s_mInv : FSpec
  | [.big a n, .big b m] => some (some (n ≤ 200000 ∧ m ≤ 200000 ∧ 0 < b), .br (decide (Int.gcd a b = 1)) (.ret (.tup [.big (minv a b) m, .int .i64 0])) (.ret (.tup [.big 0 0, .int .i64 4])))
  | _ => none
/-- Bezout, for a second number that is not 0. -/
noncomputable def s_ibez1 : FSpec
  | [.big a n, .big b m] => some (some (n ≤ 300000 ∧ m ≤ 300000 ∧ b ≠ 0), .ret (.tup [.big (Int.gcd a b) m, .big (bzu a b) m, .big (((Int.gcd a b : Int) - bzu a b * a) / b) (max m (m + n) + 1)]))
  | _ => none
theorem w_ibez1 : ∀ ms p r, s_ibez1 ms = some (p, r) → p.holds → ∃ p' r', c_ibez.spec ms = some (p', r') ∧ p'.holds ∧ ∀ ct w e, r'.holds ct w e → r.holds ct w e := by
  intro ms p r h hp
  unfold s_ibez1 at h
  split at h
  · rename_i a n b m
    simp only [Option.some.injEq, Prod.mk.injEq] at h
    obtain ⟨rfl, rfl⟩ := h
    obtain ⟨h1, h2, h3⟩ : n ≤ 300000 ∧ m ≤ 300000 ∧ b ≠ 0 := hp
    refine ⟨_, _, rfl, ⟨h1, h2⟩, fun ct w e he => ?_⟩
    rw [show decide (b = 0) = false from decide_eq_false h3] at he
    exact he
  · simp at h
noncomputable def c_ibez1 : Ctr Tryd.prog := c_ibez.weaken s_ibez1 w_ibez1
theorem vc_mInv (a b : Int) (n m : Nat) : (bif decide (sgn b < (1 : Int)) then bif decide (Int.gcd a b = (1 : Nat)) then ((0 : Int) = minv a b ∧ ((0 : Nat) ≤ m ∨ Int.natAbs (0 : Int) < (2 : Nat) ^ m)) ∧ (1 : Int) = (0 : Int) ∧ True else ((0 : Int) = (0 : Int) ∧ ((0 : Nat) ≤ (0 : Nat) ∨ Int.natAbs (0 : Int) < (2 : Nat) ^ (0 : Nat))) ∧ (1 : Int) = (4 : Int) ∧ True else (n ≤ (900000 : Nat) ∧ m ≤ (900000 : Nat) ∧ (b = (0 : Int) → False)) ∧ (m ≤ (300000 : Nat) ∧ m ≤ (300000 : Nat) ∧ (b = (0 : Int) → False)) ∧ m ≤ (1000000 : Nat) ∧ bif !decide ((↑(Int.gcd (a % b) b) : Int) = (1 : Int)) then bif decide (Int.gcd a b = (1 : Nat)) then ((0 : Int) = minv a b ∧ ((0 : Nat) ≤ m ∨ Int.natAbs (0 : Int) < (2 : Nat) ^ m)) ∧ (4 : Int) = (0 : Int) ∧ True else ((0 : Int) = (0 : Int) ∧ ((0 : Nat) ≤ (0 : Nat) ∨ Int.natAbs (0 : Int) < (2 : Nat) ^ (0 : Nat))) ∧ (4 : Int) = (4 : Int) ∧ True else (m ≤ (900000 : Nat) ∧ m ≤ (900000 : Nat) ∧ (b = (0 : Int) → False)) ∧ bif decide (Int.gcd a b = (1 : Nat)) then (bzu (a % b) b % b = minv a b ∧ (m ≤ m ∨ Int.natAbs (bzu (a % b) b % b) < (2 : Nat) ^ m)) ∧ (0 : Int) = (0 : Int) ∧ True else (bzu (a % b) b % b = (0 : Int) ∧ (m ≤ (0 : Nat) ∨ Int.natAbs (bzu (a % b) b % b) < (2 : Nat) ^ (0 : Nat))) ∧ (0 : Int) = (4 : Int) ∧ True) = evFn (env [c_mmod, c_sign, c_ibez1, c_mone] noAnn) Tryd.f60 [.big a n, .big b m] (MRes.sat (.br (decide (Int.gcd a b = 1)) (.ret (.tup [.big (minv a b) m, .int .i64 0])) (.ret (.tup [.big 0 0, .int .i64 4])))) := by kernel_rfl

theorem sgn_pos {b : Int} (h : 0 < b) : sgn b = 1 := by unfold sgn; rw [if_neg (by omega), if_neg (by omega)]
theorem p_mMod : Good Tryd.f20 s_mMod := by
  intro ms p r h hp
  unfold s_mMod at h
  split at h
  · rename_i a n b m
    simp only [Option.some.injEq, Prod.mk.injEq] at h
    obtain ⟨rfl, rfl⟩ := h
    obtain ⟨hn, hm, hb⟩ : n ≤ 900000 ∧ m ≤ 900000 ∧ 0 < b := hp
    refine ⟨env [c_mmod, c_sign] noAnn, ?_⟩
    rw [← vc_mMod a b n m, sgn_pos hb, show decide ((1 : Int) < 1) = false from rfl, cond_false]
    exact ⟨⟨hn, hm, by omega⟩, ⟨rfl, .inl (Nat.le_refl _)⟩, (by and_intros <;> first | exact True.intro | rfl | omega)⟩
  · simp at h
def c_mMod : Ctr Tryd.prog := ⟨20, s_mMod, fun args w => Tryd.call20 args w, fn_ok mix Tryd.func20 s_mMod p_mMod⟩

theorem gcd_mod (a b : Int) : Int.gcd (a % b) b = Int.gcd a b := by rw [Int.gcd_comm]; exact gcd_step a b

theorem p_mInv : GoodF Tryd.f60 s_mInv := by
  intro ms p r h hp hf
  unfold s_mInv at h
  split at h
  · rename_i a n b m
    simp only [Option.some.injEq, Prod.mk.injEq] at h
    obtain ⟨rfl, rfl⟩ := h
    obtain ⟨hn, hm, hb⟩ : n ≤ 200000 ∧ m ≤ 200000 ∧ 0 < b := hp
    refine ⟨env [c_mmod, c_sign, c_ibez1, c_mone] noAnn, ?_⟩
    rw [← vc_mInv a b n m, sgn_pos hb, show decide ((1 : Int) < 1) = false from rfl, cond_false, gcd_mod]
    refine ⟨⟨by omega, by omega, by omega⟩, ⟨by omega, by omega, by omega⟩, by omega, ?_⟩
    by_cases hg : Int.gcd a b = 1
    · have h1 : decide ((Int.gcd a b : Int) = 1) = true := decide_eq_true (by omega)
      rw [h1, decide_eq_true hg]
      exact ⟨⟨by omega, by omega, by omega⟩, ⟨rfl, .inl (Nat.le_refl _)⟩, (by and_intros <;> first | exact True.intro | rfl | omega)⟩
    · have h1 : decide ((Int.gcd a b : Int) = 1) = false := decide_eq_false (by omega)
      rw [h1, decide_eq_false hg]
      exact ⟨⟨rfl, .inl (Nat.le_refl _)⟩, (by and_intros <;> first | exact True.intro | rfl | omega)⟩
  · simp at h
noncomputable def c_mInv : Ctr Tryd.prog := ⟨60, s_mInv, fun args w => Tryd.call60 args w, fn_ok_facts mix Tryd.func60 s_mInv p_mInv⟩

theorem bzu_spec {a b : Int} (hb : b ≠ 0) : BzU a b (bzu a b) := by
  have ex : ∃ s : BzS, BzI a b s ∧ s.x = 0 := by
    have : ∀ (k : Nat) (s : BzS), s.x.natAbs ≤ k → BzI a b s → ∃ s : BzS, BzI a b s ∧ s.x = 0 := by
      intro k
      induction k with
      | zero => intro s hs h; exact ⟨s, h, by omega⟩
      | succ k ih =>
        intro s hs h
        by_cases hx : s.x = 0
        · exact ⟨s, h, hx⟩
        · refine ih _ ?_ (h.step hx)
          have := natAbs_emod (a := s.g) hx
          show (s.g % s.x).natAbs ≤ k
          omega
    exact this _ _ (Nat.le_refl _) (BzI.init hb)
  obtain ⟨s, hI, hx⟩ := ex
  have hg0 := hI.g0
  obtain ⟨hg, hq0, he, _, _⟩ := hI.fin hb hx
  have hm0 := Int.emod_nonneg s.u hq0
  have hm1 := Int.emod_lt s.u hq0
  have hu : ∃ u, BzU a b u := by
    obtain ⟨b', hb'⟩ := Int.gcd_dvd_right a b
    obtain ⟨a', ha'⟩ := Int.gcd_dvd_left a b
    rw [← hg] at ha' hb'
    refine ⟨s.u % (b / s.g), by omega, by rw [← hg]; omega, ?_⟩
    have hq : b / s.g = b' := by rw [hb', Int.mul_ediv_cancel_left _ (by omega)]
    rw [← hg, hq, Int.emod_def]
    have e : s.g - (s.u - b' * (s.u / b')) * a = (s.g - s.u * a) + b * (a' * (s.u / b')) := by
      have : b * (a' * (s.u / b')) = b' * (s.u / b') * a := by
        rw [hb']
        conv => rhs; rw [ha']
        generalize s.u / b' = k
        grind
      rw [this, Int.sub_mul]; omega
    rw [e]
    exact Int.dvd_add hI.du (Int.dvd_mul_right ..)
  unfold bzu
  rw [dif_pos hu]
  exact Classical.choose_spec hu

theorem minv_spec {a b : Int} (hb : 0 < b) (hg : Int.gcd a b = 1) : 0 ≤ minv a b ∧ minv a b < b ∧ b ∣ minv a b * a - 1 := by
  have h := bzu_spec (a := a % b) (b := b) (by omega)
  have hd := h.dv
  rw [gcd_mod, hg] at hd
  unfold minv
  refine ⟨Int.emod_nonneg _ (by omega), Int.emod_lt_of_pos _ hb, ?_⟩
  rw [Int.emod_def (bzu _ _) b]
  have e : (bzu (a % b) b - b * (bzu (a % b) b / b)) * a - 1 = b * (bzu (a % b) b * (a / b) - bzu (a % b) b / b * a) - ((1 : Nat) - bzu (a % b) b * (a % b)) := by
    have := Int.emod_def a b
    generalize bzu (a % b) b = u at *
    generalize u / b = v at *
    generalize a / b = c at *
    rw [this]
    grind
  rw [e]
  exact Int.dvd_sub (Int.dvd_mul_right ..) hd

theorem p_rlow : Good Tryd.f52 s_rlow := by
  intro ms p r h hp
  unfold s_rlow at h
  split at h
  · rename_i z n
    simp only [Option.some.injEq, Prod.mk.injEq] at h
    obtain ⟨rfl, rfl⟩ := h
    have hz : z.natAbs < 9223372036854775808 := hp
    refine ⟨env [c_rword] noAnn, ?_⟩
    rw [← vc_rlow z n, p32]
    have hw := limbs_wd z.natAbs
    have hl : (limbs z.natAbs).length ≤ 2 := limbs_len_le (by omega)
    have e := wv2 hl
    rw [wvl] at e
    have w0 := wdg_wd hw 0
    have w1 := wdg_wd hw 1
    have o : IntKind.u64.wrap (↑(BitVec.ofInt (IntKind.bits IntKind.u64) (wdg (limbs z.natAbs) 0) ||| BitVec.ofInt (IntKind.bits IntKind.u64) (IntKind.u64.wrap (wdg (limbs z.natAbs) 1 * 4294967296))).toNat) = (z.natAbs : Int) := by
      rw [BitVec.or_comm, or_hi w1 w0, e]
    have h1 : decide ((((limbs z.natAbs).length : Nat) : Int) > 2) = false := decide_eq_false (by omega)
    have h2 : decide ((z.natAbs : Int) > 9223372036854775808) = false := decide_eq_false (by omega)
    have h3 : ((z.natAbs : Int) == 9223372036854775808) = false := by simp only [beq_eq_false_iff_ne]; omega
    rw [o, h1, h2, h3, cond_false, cond_false, cond_false, Bool.cond_decide]
    have e1 : IntKind.i64.wrap (z.natAbs : Int) = z.natAbs := i64w (by omega) (by omega)
    rw [e1]
    refine ⟨hw, hw, by omega, ?_⟩
    split
    · exact ⟨by rw [i64w (by omega) (by omega)]; omega, (by and_intros <;> first | exact True.intro | rfl | omega)⟩
    · exact ⟨by omega, (by and_intros <;> first | exact True.intro | rfl | omega)⟩
  · simp at h
def c_rlow : Ctr Tryd.prog := ⟨52, s_rlow, fun args w => Tryd.call52 args w, fn_ok mix Tryd.func52 s_rlow p_rlow⟩

end Go.Proofs.YtcikhffhikgahaaDoor

/-
  The bits of a number in its words.
-/
namespace Go.Proofs.YtcikhffhikgahaaDoor
open Go Go.RowKit

/-! ### Bits -/
theorem limbs_getD (n k : Nat) : (limbs n).getD k 0 = ((n / 4294967296 ^ k % 4294967296 : Nat) : Int) := by
  induction k generalizing n with
  | zero =>
    by_cases h : n = 0
    · subst h; rw [limbs_zero]; simp
    · rw [limbs_pos h]; simp
  | succ k ih =>
    by_cases h : n = 0
    · subst h; rw [limbs_zero]; simp
    · rw [limbs_pos h, List.getD_cons_succ, ih, Nat.pow_succ, Nat.mul_comm (4294967296 ^ k) 4294967296, Nat.div_div_eq_div_mul]

theorem and_one_word (x : Nat) (h : x < 4294967296) : IntKind.wrap IntKind.u32 ((BitVec.ofInt (IntKind.bits IntKind.u32) (x : Int) &&& BitVec.ofInt (IntKind.bits IntKind.u32) 1).toNat : Int) = ((x % 2 : Nat) : Int) := by
  have e : (BitVec.ofInt (IntKind.bits IntKind.u32) (x : Int) &&& BitVec.ofInt (IntKind.bits IntKind.u32) 1).toNat = x % 2 := by
    rw [BitVec.toNat_and]
    have e1 : (BitVec.ofInt (IntKind.bits IntKind.u32) (x : Int)).toNat = x := by
      rw [BitVec.toNat_ofInt]
      show ((x : Int) % ((2 ^ 32 : Nat) : Int)).toNat = x
      omega
    have e2 : (BitVec.ofInt (IntKind.bits IntKind.u32) 1).toNat = 1 := by rfl
    rw [e1, e2, Nat.and_one_is_mod]
  rw [e]
  exact IntWalk.u32_in _ ⟨by omega, by omega⟩

/-- The bit that is looked at. -/
theorem bit_word (n i : Nat) : (IntKind.wrap IntKind.u32 ((BitVec.ofInt (IntKind.bits IntKind.u32) (((limbs n).getD (i / 32) 0).fdiv (2 ^ min (i % 32) (IntKind.bits IntKind.u32))) &&& BitVec.ofInt (IntKind.bits IntKind.u32) 1).toNat : Int) == 1) = decide (n / 2 ^ i % 2 = 1) := by
  have hm : min (i % 32) (IntKind.bits IntKind.u32) = i % 32 := by
    show min (i % 32) 32 = i % 32
    omega
  have hx : n / 4294967296 ^ (i / 32) % 4294967296 / 2 ^ (i % 32) < 4294967296 := Nat.lt_of_le_of_lt (Nat.div_le_self _ _) (Nat.mod_lt _ (by omega))
  have hf : ((limbs n).getD (i / 32) 0).fdiv (2 ^ min (i % 32) (IntKind.bits IntKind.u32)) = ((n / 4294967296 ^ (i / 32) % 4294967296 / 2 ^ (i % 32) : Nat) : Int) := by
    rw [hm, limbs_getD, Int.fdiv_eq_ediv_of_nonneg _ (Int.pow_nonneg (by omega))]
    rw [Int.natCast_ediv, Int.natCast_pow]
    rfl
  rw [hf, and_one_word _ hx]
  have hb : n / 4294967296 ^ (i / 32) % 4294967296 / 2 ^ (i % 32) % 2 = n / 2 ^ i % 2 := by
    have e1 : n / 2 ^ i = n / 4294967296 ^ (i / 32) / 2 ^ (i % 32) := by
      rw [Nat.div_div_eq_div_mul, pow_words, ← Nat.pow_add]
      congr 2; omega
    rw [e1]
    generalize n / 4294967296 ^ (i / 32) = q
    have hr : i % 32 < 32 := Nat.mod_lt _ (by omega)
    have := Nat.testBit_mod_two_pow q 32 (i % 32)
    simp only [Nat.testBit_eq_decide_div_mod_eq, hr, decide_true, Bool.true_and] at this
    have h2 := decide_eq_decide.1 this
    have a1 := Nat.mod_two_eq_zero_or_one (q % 4294967296 / 2 ^ (i % 32))
    have a2 := Nat.mod_two_eq_zero_or_one (q / 2 ^ (i % 32))
    rcases a1 with a1 | a1 <;> rcases a2 with a2 | a2 <;> simp_all
  rw [hb]
  have := Nat.mod_two_eq_zero_or_one (n / 2 ^ i)
  rcases this with h | h <;> rw [h] <;> rfl

theorem limbs_idx {N c : Nat} (h : c < bl N) : c / 32 < (limbs N).length := by
  rcases Nat.lt_or_ge (c / 32) (limbs N).length with q | q
  · exact q
  · exfalso
    have hne : N ≠ 0 := by intro e; subst e; rw [bl_zero] at h; omega
    have e6 : (2 : Nat) ^ c ≤ N := Nat.le_trans (Nat.pow_le_pow_right (by omega) (by omega)) (bl_le hne)
    have hll := limbs_lt N
    have h8 : 4294967296 ^ (limbs N).length ≤ 2 ^ c := by
      rw [pow_words]
      exact Nat.pow_le_pow_right (by omega) (by omega)
    omega

end Go.Proofs.YtcikhffhikgahaaDoor

namespace Go.Proofs.YtcikhffhikgahaaDoor
open Go Go.RowKit

/-- A description of an integer. -/
abbrev rawM (b : Bool) (l : List Int) : MV := .st [.bool b, .ws l]
/-- The integer of a description. -/
def madeI (b : Bool) (l : List Int) (k : Nat) : Int := sg b (wv (l.take k))

def s_rMade : FSpec
  | [.st [.bool b, .ws l], .int .i64 k] => some (some (Wd l ∧ 0 ≤ k ∧ k ≤ 1000 ∧ l.length < 9223372036854775808), .ret (.big (madeI b l k.toNat) (32 * k.toNat)))
  | _ => none
theorem vc_rMade (b : Bool) (l : List Int) (k : Int) : (((0 : Int) ≤ minI (↑(List.length l) : Int) k ∧ minI (↑(List.length l) : Int) k ≤ (↑(List.length l) : Int)) ∧ News.len (News.ints IntKind.u32 (List.take (Int.toNat (minI (↑(List.length l) : Int) k)) l)) * (4 : Nat) ≤ (140737488355328 : Nat) ∧ ((∀ (x : Int), x ∈ List.take (Int.toNat (minI (↑(List.length l) : Int) k)) l → (0 : Int) ≤ x ∧ x < (4294967296 : Int)) ∧ List.length (List.take (Int.toNat (minI (↑(List.length l) : Int) k)) l) ≤ (1000000000 : Nat)) ∧ sg b (wv (List.take (Int.toNat (minI (↑(List.length l) : Int) k)) l)) = madeI b l (Int.toNat k) ∧ ((32 : Nat) * List.length (List.take (Int.toNat (minI (↑(List.length l) : Int) k)) l) ≤ (32 : Nat) * Int.toNat k ∨ Int.natAbs (sg b (wv (List.take (Int.toNat (minI (↑(List.length l) : Int) k)) l))) < (2 : Nat) ^ ((32 : Nat) * Int.toNat k))) = evFn (env [c_rmade] noAnn) Tryd.f12 [rawM b l, .int .i64 k] (MRes.sat (.ret (.big (madeI b l k.toNat) (32 * k.toNat)))) := by kernel_rfl

theorem p_rMade : Good Tryd.f12 s_rMade := by
  intro ms p r h hp
  unfold s_rMade at h
  split at h
  · rename_i b l k
    simp only [Option.some.injEq, Prod.mk.injEq] at h
    obtain ⟨rfl, rfl⟩ := h
    obtain ⟨hw, h0, h1, h2⟩ : Wd l ∧ 0 ≤ k ∧ k ≤ 1000 ∧ l.length < 9223372036854775808 := hp
    refine ⟨env [c_rmade] noAnn, ?_⟩
    rw [← vc_rMade b l k]
    have hm : minI (l.length : Int) k = (min l.length k.toNat : Nat) := by unfold minI; split <;> omega
    have ht : l.take (minI (l.length : Int) k).toNat = l.take k.toNat := by
      rw [hm, Int.toNat_natCast]
      rcases Nat.le_total l.length k.toNat with h | h
      · rw [Nat.min_eq_left h, List.take_of_length_le (Nat.le_refl _), List.take_of_length_le h]
      · rw [Nat.min_eq_right h]
    have hl : (l.take k.toNat).length ≤ k.toNat := by rw [List.length_take]; exact Nat.min_le_left ..
    rw [ht]
    refine ⟨by rw [hm]; omega, ?_, ⟨hw.take _, by omega⟩, rfl, .inl (by omega)⟩
    show (l.take k.toNat).length * 4 ≤ 140737488355328
    omega
  · simp at h
def c_rMade : Ctr Tryd.prog := ⟨12, s_rMade, fun args w => Tryd.call12 args w, fn_ok mix Tryd.func12 s_rMade p_rMade⟩

end Go.Proofs.YtcikhffhikgahaaDoor
