/-
  The frame of the laws of chapter 03: descriptions of three numbers; the witness.
-/
import Derived.Test.YtcikhffhikgahaaDoorW4
import Derived.Test.YtcikhffhikgahaaDoorW2
import Derived.Test.YtcikhffhikgahaaDoorRows
import Derived.Test.YtcikhffhikgahaaDoorCards
import Derived.Test.YtcikhffhikgahaaDoorTie
import Derived.RangeFuncNested
import Derived.RangeFuncBound
import Derived.RangeFuncCalls
import Derived.RangeFuncLeaves
import Derived.Shelf.Abstract
import Derived.OwnWalkIn
import Derived.TacticsInMore
import Derived.LoopNIn
import Derived.LoopIn
import Derived.ProofKit
import Derived.OpenShut
import Derived.JoinedCond
import Derived.LaidMore
import Derived.LaidLaws
import Derived.LaidHandle
import Derived.ChangeVars
import Derived.Stop.Joined
import Derived.ChangeSame
import Derived.MakeChecks


/-
  Contracts of functions: package modular: odd, div, twos, low; the symbol.
-/
namespace Go.Proofs.YtcikhffhikgahaaDoor
open Go Go.RowKit

def s_modd : FSpec
  | [.big a n] => some (some (n ≤ 1000000), .ret (.bool (decide (a % 2 = 1))))
  | _ => none
theorem vc_modd (a : Int) (n : Nat) : (bif decide ((↑(List.length (limbs (Int.natAbs a))) : Int) > (0 : Int)) then ((0 : Int) ≤ (0 : Int) ∧ (0 : Int) < (↑(List.length (limbs (Int.natAbs a))) : Int)) ∧ (IntKind.wrap IntKind.u32 (↑(BitVec.toNat (BitVec.ofInt (IntKind.bits IntKind.u32) (List.getD (limbs (Int.natAbs a)) (Int.toNat (0 : Int)) (0 : Int)) &&& BitVec.ofInt (IntKind.bits IntKind.u32) (1 : Int))) : Int) == (1 : Int)) = decide (a % (2 : Int) = (1 : Int)) else false = decide (a % (2 : Int) = (1 : Int))) = evFn (env [] noAnn) Tryd.f44 [.big a n] (MRes.sat (.ret (.bool (decide (a % 2 = 1))))) := by kernel_rfl
def s_mdiv : FSpec
  | [.big a n, .big b m] => some (some (n ≤ 900000 ∧ m ≤ 900000 ∧ b ≠ 0), .ret (.big (a / b) n))
  | _ => none
theorem vc_mdiv (a b : Int) (n m : Nat) : ((n ≤ (900000 : Nat) ∧ m ≤ (900000 : Nat) ∧ (b = (0 : Int) → False)) ∧ a / b = a / b ∧ (n ≤ n ∨ Int.natAbs (a / b) < (2 : Nat) ^ n)) = evFn (env [c_divmod1] noAnn) Tryd.f75 [.big a n, .big b m] (MRes.sat (.ret (.big (a / b) n))) := by kernel_rfl
/-- How often 2 divides a number. -/
def v2f : Nat → Nat → Nat
  | 0, _ => 0
  | f + 1, n => if n % 2 = 0 then v2f f (n / 2) + 1 else 0
def v2 (n : Nat) : Nat := v2f n n
theorem v2f_two : ∀ (f g n : Nat), n ≤ f → n ≤ g → n ≠ 0 → v2f f n = v2f g n := by
  intro f
  induction f with
  | zero => intro g n h _ h0; omega
  | succ f ih =>
    intro g n h hg h0
    obtain ⟨k, rfl⟩ : ∃ k, g = k + 1 := ⟨g - 1, by omega⟩
    simp only [v2f]
    split
    · rw [ih k _ (by omega) (by omega) (by omega)]
    · rfl
theorem v2f_eq (f n : Nat) (h : n ≤ f) (h0 : n ≠ 0) : v2f f n = v2f n n := v2f_two f n n h (Nat.le_refl _) h0
def s_mlow : FSpec
  | [.big a n, .int .u32 m] => some (some (n ≤ 1000000 ∧ (m = 4 ∨ m = 8)), .ret (.int .u32 (a % m)))
  | _ => none
theorem vc_mlow (a m : Int) (n : Nat) : (bif (↑(List.length (limbs (Int.natAbs a))) : Int) == (0 : Int) then (0 : Int) = a % m else ((0 : Int) ≤ (0 : Int) ∧ (0 : Int) < (↑(List.length (limbs (Int.natAbs a))) : Int)) ∧ (m = (0 : Int) → False) ∧ bif decide (a < (0 : Int)) then bif decide (Int.tmod (List.getD (limbs (Int.natAbs a)) (Int.toNat (0 : Int)) (0 : Int)) m > (0 : Int)) then IntKind.wrap IntKind.u32 (m - Int.tmod (List.getD (limbs (Int.natAbs a)) (Int.toNat (0 : Int)) (0 : Int)) m) = a % m else Int.tmod (List.getD (limbs (Int.natAbs a)) (Int.toNat (0 : Int)) (0 : Int)) m = a % m else Int.tmod (List.getD (limbs (Int.natAbs a)) (Int.toNat (0 : Int)) (0 : Int)) m = a % m) = evFn (env [] noAnn) Tryd.f46 [.big a n, .int .u32 m] (MRes.sat (.ret (.int .u32 (a % m)))) := by kernel_rfl

theorem low_bit (n : Nat) : (IntKind.wrap IntKind.u32 ((BitVec.ofInt (IntKind.bits IntKind.u32) ((limbs n).getD 0 0) &&& BitVec.ofInt (IntKind.bits IntKind.u32) 1).toNat : Int) == 1) = decide (n % 2 = 1) := by
  rw [limbs_getD, Nat.pow_zero, Nat.div_one, and_one_word _ (Nat.mod_lt _ (by omega))]
  have := Nat.mod_two_eq_zero_or_one n
  have e : n % 4294967296 % 2 = n % 2 := by omega
  rw [e]
  rcases this with h | h <;> rw [h] <;> rfl

theorem p_modd : Good Tryd.f44 s_modd := by
  intro ms p r h hp
  unfold s_modd at h
  split at h
  · rename_i a n
    simp only [Option.some.injEq, Prod.mk.injEq] at h
    obtain ⟨rfl, rfl⟩ := h
    refine ⟨env [] noAnn, ?_⟩
    rw [← vc_modd a n, len_pos_iff, show Int.toNat (0 : Int) = 0 from rfl, low_bit, Bool.cond_decide]
    have e : (a % 2 = 1) ↔ (a.natAbs % 2 = 1) := by omega
    split
    · rename_i h0
      have hl : limbs a.natAbs ≠ [] := fun e => h0 (by have := limbs_eq_nil.1 e; omega)
      have := List.length_pos_iff.2 hl
      exact ⟨⟨by omega, by omega⟩, decide_eq_decide.2 e.symm⟩
    · rename_i h0
      have : a = 0 := by omega
      subst this; rfl
  · simp at h
def c_modd : Ctr Tryd.prog := ⟨44, s_modd, fun args w => Tryd.call44 args w, fn_ok mix Tryd.func44 s_modd p_modd⟩
theorem p_mdiv : Good Tryd.f75 s_mdiv := by
  intro ms p r h hp
  unfold s_mdiv at h
  split at h
  · rename_i a n b m
    simp only [Option.some.injEq, Prod.mk.injEq] at h
    obtain ⟨rfl, rfl⟩ := h
    obtain ⟨hn, hm, hb⟩ : n ≤ 900000 ∧ m ≤ 900000 ∧ b ≠ 0 := hp
    refine ⟨env [c_divmod1] noAnn, ?_⟩
    rw [← vc_mdiv a b n m]
    exact ⟨⟨hn, hm, hb⟩, rfl, .inl (Nat.le_refl _)⟩
  · simp at h
def c_mdiv : Ctr Tryd.prog := ⟨75, s_mdiv, fun args w => Tryd.call75 args w, fn_ok mix Tryd.func75 s_mdiv p_mdiv⟩
theorem p_mlow : GoodF Tryd.f46 s_mlow := by
  intro ms p r h hp hf
  unfold s_mlow at h
  split at h
  · rename_i a n m
    simp only [Option.some.injEq, Prod.mk.injEq] at h
    obtain ⟨rfl, rfl⟩ := h
    obtain ⟨hn, hm⟩ : n ≤ 1000000 ∧ (m = 4 ∨ m = 8) := hp
    refine ⟨env [] noAnn, ?_⟩
    rw [← vc_mlow a m n, len_zero_iff, show Int.toNat (0 : Int) = 0 from rfl, limbs_getD, Nat.pow_zero, Nat.div_one]
    have e : Int.tmod ((a.natAbs % 4294967296 : Nat) : Int) m = (a.natAbs : Int) % m := by
      rw [Int.tmod_eq_emod_of_nonneg (by omega)]
      rcases hm with rfl | rfl <;> omega
    rw [e]
    by_cases h0 : a = 0
    · subst h0
      rw [decide_eq_true rfl, cond_true]
      rcases hm with rfl | rfl <;> rfl
    rw [decide_eq_false h0, cond_false]
    have hl : limbs a.natAbs ≠ [] := fun e => h0 (by have := limbs_eq_nil.1 e; omega)
    have := List.length_pos_iff.2 hl
    refine ⟨⟨by omega, by omega⟩, (by omega), ?_⟩
    simp only [Bool.cond_decide]
    rcases hm with rfl | rfl
    · split
      · split
        · rw [eu32 (by omega)]; omega
        · omega
      · omega
    · split
      · split
        · rw [eu32 (by omega)]; omega
        · omega
      · omega
  · simp at h
def c_mlow : Ctr Tryd.prog := ⟨46, s_mlow, fun args w => Tryd.call46 args w, fn_ok_facts mix Tryd.func46 s_mlow p_mlow⟩

/-! ### twos -/
theorem v2_even {n : Nat} (h : n ≠ 0) (h2 : n % 2 = 0) : v2 n = v2 (n / 2) + 1 := by
  obtain ⟨m, rfl⟩ : ∃ m, n = m + 1 := ⟨n - 1, by omega⟩
  show v2f (m + 1) (m + 1) = _
  rw [v2f, if_pos h2, v2f_eq _ _ (by omega) (by omega)]
  rfl
theorem v2_odd {n : Nat} (h2 : n % 2 = 1) : v2 n = 0 := by
  obtain ⟨m, rfl⟩ : ∃ m, n = m + 1 := ⟨n - 1, by omega⟩
  show v2f (m + 1) (m + 1) = _
  rw [v2f, if_neg (by omega)]
def s_mtwos : FSpec
  | [.big a n] => some (some (n ≤ 900000 ∧ a ≠ 0), .ret (.tup [.big (a / 2 ^ v2 a.natAbs) n, .int .i64 (v2 a.natAbs)]))
  | _ => none
/-- The state: so many factors are taken, what is left. -/
structure TwS where
  k : Nat
  x : Int
def TwI (a : Int) (s : TwS) : Prop := s.x ≠ 0 ∧ a = s.x * 2 ^ s.k
def a_mtwos (a : Int) (n : Nat) : Nat → MS → Option LoopAnn
  | 2, _ => some (.inv TwS (TwI a) (fun s => ⟨15, [(1, .bp 0 0), (2, .bp 1 0), (4, .int .i64 s.k)], [⟨false, .one (.big s.x n)⟩, ⟨false, .one (.big 0 0)⟩], 0⟩) (fun s => s.x.natAbs))
  | _, _ => none
theorem vc_mtwos (a : Int) (n : Nat) : ((∃ i, ((TwS.x i = (0 : Int) → False) ∧ a = TwS.x i * (2 : Int) ^ TwS.k i) ∧ ((0 : Nat) = (0 : Nat) ∧ (0 : Nat) = (0 : Nat) ∧ (0 : Int) = (↑(TwS.k i) : Int) ∧ True) ∧ (a = TwS.x i ∧ (n ≤ n ∨ Int.natAbs a < (2 : Nat) ^ n)) ∧ ((0 : Int) = (0 : Int) ∧ ((0 : Nat) ≤ (0 : Nat) ∨ Int.natAbs (0 : Int) < (2 : Nat) ^ (0 : Nat))) ∧ True) ∧ ∀ (i : TwS), (TwS.x i = (0 : Int) → False) ∧ a = TwS.x i * (2 : Int) ^ TwS.k i → n ≤ (1000000 : Nat) ∧ bif !decide (TwS.x i % (2 : Int) = (1 : Int)) then ((-9223372036854775808 : Int) ≤ (2 : Int) ∧ (2 : Int) ≤ (9223372036854775807 : Int)) ∧ (n ≤ (900000 : Nat) ∧ (64 : Nat) ≤ (900000 : Nat) ∧ ((2 : Int) = (0 : Int) → False)) ∧ ∃ j, ((TwS.x j = (0 : Int) → False) ∧ a = TwS.x j * (2 : Int) ^ TwS.k j) ∧ (((0 : Nat) = (0 : Nat) ∧ (0 : Nat) = (0 : Nat) ∧ IntKind.wrap IntKind.i64 ((↑(TwS.k i) : Int) + (1 : Int)) = (↑(TwS.k j) : Int) ∧ True) ∧ (TwS.x i / (2 : Int) = TwS.x j ∧ (n ≤ n ∨ Int.natAbs (TwS.x i / (2 : Int)) < (2 : Nat) ^ n)) ∧ ((0 : Int) = (0 : Int) ∧ ((0 : Nat) ≤ (0 : Nat) ∨ Int.natAbs (0 : Int) < (2 : Nat) ^ (0 : Nat))) ∧ True) ∧ Int.natAbs (TwS.x j) < Int.natAbs (TwS.x i) else (TwS.x i = a / (2 : Int) ^ v2 (Int.natAbs a) ∧ (n ≤ n ∨ Int.natAbs (TwS.x i) < (2 : Nat) ^ n)) ∧ (↑(TwS.k i) : Int) = (↑(v2 (Int.natAbs a)) : Int) ∧ True) = evFn (env [c_modd, c_mof, c_mdiv] (a_mtwos a n)) Tryd.f45 [.big a n] (MRes.sat (.ret (.tup [.big (a / 2 ^ v2 a.natAbs) n, .int .i64 (v2 a.natAbs)]))) := by kernel_rfl

theorem v2_pos {n : Nat} : ∀ k x : Nat, x ≠ 0 → n = x * 2 ^ k → v2 n = v2 x + k := by
  intro k
  induction k generalizing n with
  | zero => intro x _ h; rw [h, Nat.pow_zero, Nat.mul_one, Nat.add_zero]
  | succ k ih =>
    intro x hx h
    have h1 : x * 2 ≠ 0 := by omega
    have h2 : n = x * 2 * 2 ^ k := by rw [h, Nat.pow_succ, Nat.mul_assoc, Nat.mul_comm 2]
    rw [ih (x * 2) h1 h2, v2_even h1 (by omega), Nat.mul_div_cancel _ (by omega)]
    omega
theorem p_mtwos : GoodF Tryd.f45 s_mtwos := by
  intro ms p r h hp hf
  unfold s_mtwos at h
  split at h
  · rename_i a n
    simp only [Option.some.injEq, Prod.mk.injEq] at h
    obtain ⟨rfl, rfl⟩ := h
    obtain ⟨hn, ha⟩ : n ≤ 900000 ∧ a ≠ 0 := hp
    have hb : a.natAbs < 2 ^ n := hf.1
    refine ⟨env [c_modd, c_mof, c_mdiv] (a_mtwos a n), ?_⟩
    rw [← vc_mtwos a n]
    refine ⟨⟨⟨0, a⟩, ⟨ha, by simp⟩, (by and_intros <;> first | exact True.intro | rfl | omega), ⟨rfl, .inl (Nat.le_refl _)⟩, ⟨rfl, .inl (Nat.le_refl _)⟩, True.intro⟩, ?_⟩
    rintro ⟨k, x⟩ ⟨hx, hax⟩
    have hx : x ≠ 0 := hx
    have hax : a = x * 2 ^ k := hax
    have hnat : a.natAbs = x.natAbs * 2 ^ k := by rw [hax, Int.natAbs_mul, Int.natAbs_pow]; rfl
    have hkn : k ≤ n := by
      rcases Nat.lt_or_ge n k with q | q
      · have h1 : 2 ^ n ≤ 2 ^ k := Nat.pow_le_pow_right (by omega) (by omega)
        have h2 : 1 * 2 ^ k ≤ x.natAbs * 2 ^ k := Nat.mul_le_mul_right _ (by omega)
        omega
      · exact q
    have hxb : x.natAbs < 2 ^ n := by
      have h1 : 1 ≤ 2 ^ k := Nat.one_le_two_pow
      have h2 : x.natAbs * 1 ≤ x.natAbs * 2 ^ k := Nat.mul_le_mul_left _ h1
      omega
    refine ⟨by omega, ?_⟩
    dsimp only
    by_cases ho : x % 2 = 1
    · rw [decide_eq_true ho]
      have hv : v2 a.natAbs = k := by rw [v2_pos k x.natAbs (by omega) hnat, v2_odd (by omega), Nat.zero_add]
      have hd : x = a / 2 ^ k := by rw [hax, Int.mul_ediv_cancel _ (by have : (0 : Int) < 2 ^ k := Int.pow_pos (by omega); omega)]
      rw [Bool.not_true, cond_false, hv]
      exact ⟨⟨hd, .inl (Nat.le_refl _)⟩, rfl, True.intro⟩
    · rw [decide_eq_false ho]
      have hw : IntKind.wrap IntKind.i64 ((k : Int) + 1) = ((k + 1 : Nat) : Int) := by rw [i64w (by omega) (by omega)]; omega
      rw [Bool.not_false, cond_true]
      refine ⟨by omega, by omega, ⟨k + 1, x / 2⟩, ⟨by show x / 2 ≠ 0; omega, ?_⟩, ⟨⟨rfl, rfl, hw, True.intro⟩, ⟨rfl, .inl (Nat.le_refl _)⟩, ⟨rfl, .inl (Nat.le_refl _)⟩, True.intro⟩, by show (x / 2).natAbs < x.natAbs; omega⟩
      show a = x / 2 * 2 ^ (k + 1)
      rw [hax, Int.pow_succ, Int.mul_comm (2 ^ k) 2, ← Int.mul_assoc]
      congr 1; omega
  · simp at h
def c_mtwos : Ctr Tryd.prog := ⟨45, s_mtwos, fun args w => Tryd.call45 args w, fn_ok_facts mix Tryd.func45 s_mtwos p_mtwos⟩

/-! ### the symbol -/
/-- (a/2). -/
def two8 (a : Int) : Int := if a % 8 = 1 ∨ a % 8 = 7 then 1 else if a % 8 = 3 ∨ a % 8 = 5 then -1 else 0
/-- The sign of reciprocity. -/
def rsg (a n : Nat) : Int := if a % 4 = 3 ∧ n % 4 = 3 then -1 else 1
/-- The symbol for odd numbers n, by reciprocity. -/
def jacf : Nat → Nat → Nat → Int
  | 0, _, _ => 0
  | f + 1, a, n => if a = 0 then (if n = 1 then 1 else 0) else if a % 2 = 0 then two8 n * jacf f (a / 2) n else rsg a n * jacf f (n % a) a
def jac (a n : Nat) : Int := jacf (a + 1) a n
theorem jacf_two : ∀ (f g a n : Nat), a < f → a < g → jacf f a n = jacf g a n := by
  intro f
  induction f with
  | zero => intro g a n h; omega
  | succ f ih =>
    intro g a n h hg
    obtain ⟨k, rfl⟩ : ∃ k, g = k + 1 := ⟨g - 1, by omega⟩
    simp only [jacf]
    split
    · rfl
    · rename_i h0
      split
      · rw [ih k _ _ (by omega) (by omega)]
      · have := Nat.mod_lt n (show a > 0 by omega)
        rw [ih k _ _ (by omega) (by omega)]
theorem jac_zero (n : Nat) : jac 0 n = if n = 1 then 1 else 0 := rfl
theorem jac_even {a n : Nat} (h : a ≠ 0) (h2 : a % 2 = 0) : jac a n = two8 n * jac (a / 2) n := by
  unfold jac
  rw [jacf, if_neg h, if_pos h2, jacf_two a (a / 2 + 1) _ _ (by omega) (by omega)]
theorem jac_odd {a n : Nat} (h2 : a % 2 = 1) : jac a n = rsg a n * jac (n % a) a := by
  have := Nat.mod_lt n (show a > 0 by omega)
  unfold jac
  rw [jacf, if_neg (by omega), if_neg (by omega), jacf_two a (n % a + 1) _ _ (by omega) (by omega)]
/-- The symbol for positive numbers n. -/
def krf (a : Int) : Nat → Nat → Int
  | 0, _ => 0
  | f + 1, n => if n % 2 = 0 then two8 a * krf a f (n / 2) else jac (a % n).toNat n
def kr (a : Int) (n : Nat) : Int := krf a n n
theorem krf_two (a : Int) : ∀ (f g n : Nat), n ≤ f → n ≤ g → n ≠ 0 → krf a f n = krf a g n := by
  intro f
  induction f with
  | zero => intro g n h _ h0; omega
  | succ f ih =>
    intro g n h hg h0
    obtain ⟨k, rfl⟩ : ∃ k, g = k + 1 := ⟨g - 1, by omega⟩
    simp only [krf]
    split
    · rw [ih k _ (by omega) (by omega) (by omega)]
    · rfl
theorem kr_even {a : Int} {n : Nat} (h : n ≠ 0) (h2 : n % 2 = 0) : kr a n = two8 a * kr a (n / 2) := by
  obtain ⟨m, rfl⟩ : ∃ m, n = m + 1 := ⟨n - 1, by omega⟩
  show krf a (m + 1) (m + 1) = _
  rw [krf, if_pos h2, krf_two a m _ _ (by omega) (Nat.le_refl _) (by omega)]
  rfl
theorem kr_odd {a : Int} {n : Nat} (h2 : n % 2 = 1) : kr a n = jac (a % n).toNat n := by
  obtain ⟨m, rfl⟩ : ∃ m, n = m + 1 := ⟨n - 1, by omega⟩
  show krf a (m + 1) (m + 1) = _
  rw [krf, if_neg (by omega)]
/-- The symbol. -/
def kro (a n : Int) : Int := if n = 0 then (if a.natAbs = 1 then 1 else 0) else (if n < 0 ∧ a < 0 then -1 else 1) * kr a n.natAbs

def s_kron : FSpec
  | [.big a n, .big b m] => some (some (n ≤ 200000 ∧ m ≤ 200000), .ret (.int .i64 (kro a b)))
  | _ => none
structure KrS where
  k : Int
  a : Nat
  n : Nat
structure KrI (r : Int) (N : Nat) (s : KrS) : Prop where
  odd : s.n % 2 = 1
  k : s.k = 1 ∨ s.k = -1
  val : s.k * jac s.a s.n = r
  ba : s.a < 2 ^ N
  bn : s.n < 2 ^ N
def a_kron (r : Int) (N : Nat) : Nat → MS → Option LoopAnn
  | 16, _ => some (.inv KrS (KrI r N) (fun s => ⟨79, [(2, .bp 0 0), (3, .bp 1 0), (5, .int .i64 s.k)], [⟨false, .one (.big s.a N)⟩, ⟨false, .one (.big s.n N)⟩], 0⟩) (fun s => s.a))
  | _, _ => none
structure KcS where
  k : Int
  n : Int
structure Kc12 (a r : Int) (m : Nat) (s : KcS) : Prop where
  k : s.k = 1 ∨ s.k = -1
  pos : 0 < s.n
  bn : s.n.natAbs < 2 ^ m
  odd : a % 2 = 1 ∨ s.n % 2 = 1
  val : s.k * kr a s.n.natAbs = r
structure Kc15 (a r : Int) (m : Nat) (s : KcS) : Prop where
  k : s.k = 1 ∨ s.k = -1
  pos : 0 < s.n
  bn : s.n.natAbs < 2 ^ m
  odd : s.n % 2 = 1
  val : s.k * kr a s.n.natAbs = r
def krS (a : Int) (n m : Nat) (k b : Int) : MS := ⟨79, [(2, .bp 0 0), (3, .bp 1 0), (5, .int .i64 k)], [⟨false, .one (.big a n)⟩, ⟨false, .one (.big b m)⟩], 0⟩
def k_kron (a b : Int) (n m : Nat) : Nat → MS → Option CutAnn
  | 12, _ => some (.mk KcS (Kc12 a (kro a b) m) (fun s => krS a n m s.k s.n))
  | 15, _ => some (.mk KcS (Kc15 a (kro a b) m) (fun s => krS a n m s.k s.n))
  | _, _ => none
def envC (Γ : List (Ctr Tryd.prog)) (ann : Nat → MS → Option LoopAnn) (cut : Nat → MS → Option CutAnn) : Env Tryd.prog := ⟨Γ, [], 29, ann, fun _ => [], cut⟩
theorem vc_kron (a b : Int) (n m : Nat) : (bif sgn b == (0 : Int) then n ≤ (1000000 : Nat) ∧ n ≤ (1000000 : Nat) ∧ bif decide ((↑(Int.natAbs a) : Int) = (1 : Int)) then (1 : Int) = kro a b else (0 : Int) = kro a b else n ≤ (1000000 : Nat) ∧ bif !decide (a % (2 : Int) = (1 : Int)) then m ≤ (1000000 : Nat) ∧ bif !decide (b % (2 : Int) = (1 : Int)) then (0 : Int) = kro a b else (bif decide (b < (0 : Int)) then bif decide (a < (0 : Int)) then m ≤ (1000000 : Nat) ∧ ∃ i, Kc12 a (kro a b) m i ∧ ((0 : Nat) = (0 : Nat) ∧ (0 : Nat) = (0 : Nat) ∧ (-1 : Int) = KcS.k i ∧ True) ∧ (a = a ∧ (n ≤ n ∨ Int.natAbs a < (2 : Nat) ^ n)) ∧ (-b = KcS.n i ∧ (m ≤ m ∨ Int.natAbs (-b) < (2 : Nat) ^ m)) ∧ True else m ≤ (1000000 : Nat) ∧ ∃ i, Kc12 a (kro a b) m i ∧ ((0 : Nat) = (0 : Nat) ∧ (0 : Nat) = (0 : Nat) ∧ (1 : Int) = KcS.k i ∧ True) ∧ (a = a ∧ (n ≤ n ∨ Int.natAbs a < (2 : Nat) ^ n)) ∧ (-b = KcS.n i ∧ (m ≤ m ∨ Int.natAbs (-b) < (2 : Nat) ^ m)) ∧ True else ∃ i, Kc12 a (kro a b) m i ∧ ((0 : Nat) = (0 : Nat) ∧ (0 : Nat) = (0 : Nat) ∧ (1 : Int) = KcS.k i ∧ True) ∧ (a = a ∧ (n ≤ n ∨ Int.natAbs a < (2 : Nat) ^ n)) ∧ (b = KcS.n i ∧ (m ≤ m ∨ Int.natAbs b < (2 : Nat) ^ m)) ∧ True) ∧ ∀ (i : KcS), Kc12 a (kro a b) m i → (m ≤ (900000 : Nat) ∧ (KcS.n i = (0 : Int) → False)) ∧ (((2 : Int) = (0 : Int) → False) ∧ bif Int.tmod (↑(v2 (Int.natAbs (KcS.n i))) : Int) (2 : Int) == (1 : Int) then (n ≤ (1000000 : Nat) ∧ ((8 : Int) = (4 : Int) ∨ (8 : Int) = (8 : Int))) ∧ ((0 : Int) ≤ a % (8 : Int) ∧ a % (8 : Int) < (↑(8 : Nat) : Int)) ∧ ∃ i_1, Kc15 a (kro a b) m i_1 ∧ ((0 : Nat) = (0 : Nat) ∧ (0 : Nat) = (0 : Nat) ∧ IntKind.wrap IntKind.i64 (KcS.k i * List.getD gList (Int.toNat (a % (8 : Int))) (0 : Int)) = KcS.k i_1 ∧ True) ∧ (a = a ∧ (n ≤ n ∨ Int.natAbs a < (2 : Nat) ^ n)) ∧ (KcS.n i / (2 : Int) ^ v2 (Int.natAbs (KcS.n i)) = KcS.n i_1 ∧ (m ≤ m ∨ Int.natAbs (KcS.n i / (2 : Int) ^ v2 (Int.natAbs (KcS.n i))) < (2 : Nat) ^ m)) ∧ True else ∃ i_1, Kc15 a (kro a b) m i_1 ∧ ((0 : Nat) = (0 : Nat) ∧ (0 : Nat) = (0 : Nat) ∧ KcS.k i = KcS.k i_1 ∧ True) ∧ (a = a ∧ (n ≤ n ∨ Int.natAbs a < (2 : Nat) ^ n)) ∧ (KcS.n i / (2 : Int) ^ v2 (Int.natAbs (KcS.n i)) = KcS.n i_1 ∧ (m ≤ m ∨ Int.natAbs (KcS.n i / (2 : Int) ^ v2 (Int.natAbs (KcS.n i))) < (2 : Nat) ^ m)) ∧ True) ∧ ∀ (i : KcS), Kc15 a (kro a b) m i → (n ≤ (900000 : Nat) ∧ m ≤ (900000 : Nat) ∧ (KcS.n i = (0 : Int) → False)) ∧ (∃ i_1, KrI (kro a b) m i_1 ∧ ((0 : Nat) = (0 : Nat) ∧ (0 : Nat) = (0 : Nat) ∧ KcS.k i = KrS.k i_1 ∧ True) ∧ (a % KcS.n i = (↑(KrS.a i_1) : Int) ∧ (m ≤ m ∨ Int.natAbs (a % KcS.n i) < (2 : Nat) ^ m)) ∧ (KcS.n i = (↑(KrS.n i_1) : Int) ∧ (m ≤ m ∨ Int.natAbs (KcS.n i) < (2 : Nat) ^ m)) ∧ True) ∧ ∀ (i : KrS), KrI (kro a b) m i → bif decide (sgn (↑(KrS.a i) : Int) > (0 : Int)) then (m ≤ (900000 : Nat) ∧ ((↑(KrS.a i) : Int) = (0 : Int) → False)) ∧ ((2 : Int) = (0 : Int) → False) ∧ bif Int.tmod (↑(v2 (Int.natAbs (↑(KrS.a i) : Int))) : Int) (2 : Int) == (1 : Int) then (m ≤ (1000000 : Nat) ∧ ((8 : Int) = (4 : Int) ∨ (8 : Int) = (8 : Int))) ∧ ((0 : Int) ≤ (↑(KrS.n i) : Int) % (8 : Int) ∧ (↑(KrS.n i) : Int) % (8 : Int) < (↑(8 : Nat) : Int)) ∧ (m ≤ (1000000 : Nat) ∧ ((4 : Int) = (4 : Int) ∨ (4 : Int) = (8 : Int))) ∧ bif (↑(KrS.a i) : Int) / (2 : Int) ^ v2 (Int.natAbs (↑(KrS.a i) : Int)) % (4 : Int) == (3 : Int) then (m ≤ (1000000 : Nat) ∧ ((4 : Int) = (4 : Int) ∨ (4 : Int) = (8 : Int))) ∧ bif (↑(KrS.n i) : Int) % (4 : Int) == (3 : Int) then (m ≤ (900000 : Nat) ∧ m ≤ (900000 : Nat) ∧ ((↑(KrS.a i) : Int) / (2 : Int) ^ v2 (Int.natAbs (↑(KrS.a i) : Int)) = (0 : Int) → False)) ∧ ∃ j, KrI (kro a b) m j ∧ (((0 : Nat) = (0 : Nat) ∧ (0 : Nat) = (0 : Nat) ∧ IntKind.wrap IntKind.i64 ((0 : Int) - IntKind.wrap IntKind.i64 (KrS.k i * List.getD gList (Int.toNat ((↑(KrS.n i) : Int) % (8 : Int))) (0 : Int))) = KrS.k j ∧ True) ∧ ((↑(KrS.n i) : Int) % ((↑(KrS.a i) : Int) / (2 : Int) ^ v2 (Int.natAbs (↑(KrS.a i) : Int))) = (↑(KrS.a j) : Int) ∧ (m ≤ m ∨ Int.natAbs ((↑(KrS.n i) : Int) % ((↑(KrS.a i) : Int) / (2 : Int) ^ v2 (Int.natAbs (↑(KrS.a i) : Int)))) < (2 : Nat) ^ m)) ∧ ((↑(KrS.a i) : Int) / (2 : Int) ^ v2 (Int.natAbs (↑(KrS.a i) : Int)) = (↑(KrS.n j) : Int) ∧ (m ≤ m ∨ Int.natAbs ((↑(KrS.a i) : Int) / (2 : Int) ^ v2 (Int.natAbs (↑(KrS.a i) : Int))) < (2 : Nat) ^ m)) ∧ True) ∧ KrS.a j < KrS.a i else (m ≤ (900000 : Nat) ∧ m ≤ (900000 : Nat) ∧ ((↑(KrS.a i) : Int) / (2 : Int) ^ v2 (Int.natAbs (↑(KrS.a i) : Int)) = (0 : Int) → False)) ∧ ∃ j, KrI (kro a b) m j ∧ (((0 : Nat) = (0 : Nat) ∧ (0 : Nat) = (0 : Nat) ∧ IntKind.wrap IntKind.i64 (KrS.k i * List.getD gList (Int.toNat ((↑(KrS.n i) : Int) % (8 : Int))) (0 : Int)) = KrS.k j ∧ True) ∧ ((↑(KrS.n i) : Int) % ((↑(KrS.a i) : Int) / (2 : Int) ^ v2 (Int.natAbs (↑(KrS.a i) : Int))) = (↑(KrS.a j) : Int) ∧ (m ≤ m ∨ Int.natAbs ((↑(KrS.n i) : Int) % ((↑(KrS.a i) : Int) / (2 : Int) ^ v2 (Int.natAbs (↑(KrS.a i) : Int)))) < (2 : Nat) ^ m)) ∧ ((↑(KrS.a i) : Int) / (2 : Int) ^ v2 (Int.natAbs (↑(KrS.a i) : Int)) = (↑(KrS.n j) : Int) ∧ (m ≤ m ∨ Int.natAbs ((↑(KrS.a i) : Int) / (2 : Int) ^ v2 (Int.natAbs (↑(KrS.a i) : Int))) < (2 : Nat) ^ m)) ∧ True) ∧ KrS.a j < KrS.a i else (m ≤ (900000 : Nat) ∧ m ≤ (900000 : Nat) ∧ ((↑(KrS.a i) : Int) / (2 : Int) ^ v2 (Int.natAbs (↑(KrS.a i) : Int)) = (0 : Int) → False)) ∧ ∃ j, KrI (kro a b) m j ∧ (((0 : Nat) = (0 : Nat) ∧ (0 : Nat) = (0 : Nat) ∧ IntKind.wrap IntKind.i64 (KrS.k i * List.getD gList (Int.toNat ((↑(KrS.n i) : Int) % (8 : Int))) (0 : Int)) = KrS.k j ∧ True) ∧ ((↑(KrS.n i) : Int) % ((↑(KrS.a i) : Int) / (2 : Int) ^ v2 (Int.natAbs (↑(KrS.a i) : Int))) = (↑(KrS.a j) : Int) ∧ (m ≤ m ∨ Int.natAbs ((↑(KrS.n i) : Int) % ((↑(KrS.a i) : Int) / (2 : Int) ^ v2 (Int.natAbs (↑(KrS.a i) : Int)))) < (2 : Nat) ^ m)) ∧ ((↑(KrS.a i) : Int) / (2 : Int) ^ v2 (Int.natAbs (↑(KrS.a i) : Int)) = (↑(KrS.n j) : Int) ∧ (m ≤ m ∨ Int.natAbs ((↑(KrS.a i) : Int) / (2 : Int) ^ v2 (Int.natAbs (↑(KrS.a i) : Int))) < (2 : Nat) ^ m)) ∧ True) ∧ KrS.a j < KrS.a i else (m ≤ (1000000 : Nat) ∧ ((4 : Int) = (4 : Int) ∨ (4 : Int) = (8 : Int))) ∧ bif (↑(KrS.a i) : Int) / (2 : Int) ^ v2 (Int.natAbs (↑(KrS.a i) : Int)) % (4 : Int) == (3 : Int) then (m ≤ (1000000 : Nat) ∧ ((4 : Int) = (4 : Int) ∨ (4 : Int) = (8 : Int))) ∧ bif (↑(KrS.n i) : Int) % (4 : Int) == (3 : Int) then (m ≤ (900000 : Nat) ∧ m ≤ (900000 : Nat) ∧ ((↑(KrS.a i) : Int) / (2 : Int) ^ v2 (Int.natAbs (↑(KrS.a i) : Int)) = (0 : Int) → False)) ∧ ∃ j, KrI (kro a b) m j ∧ (((0 : Nat) = (0 : Nat) ∧ (0 : Nat) = (0 : Nat) ∧ IntKind.wrap IntKind.i64 ((0 : Int) - KrS.k i) = KrS.k j ∧ True) ∧ ((↑(KrS.n i) : Int) % ((↑(KrS.a i) : Int) / (2 : Int) ^ v2 (Int.natAbs (↑(KrS.a i) : Int))) = (↑(KrS.a j) : Int) ∧ (m ≤ m ∨ Int.natAbs ((↑(KrS.n i) : Int) % ((↑(KrS.a i) : Int) / (2 : Int) ^ v2 (Int.natAbs (↑(KrS.a i) : Int)))) < (2 : Nat) ^ m)) ∧ ((↑(KrS.a i) : Int) / (2 : Int) ^ v2 (Int.natAbs (↑(KrS.a i) : Int)) = (↑(KrS.n j) : Int) ∧ (m ≤ m ∨ Int.natAbs ((↑(KrS.a i) : Int) / (2 : Int) ^ v2 (Int.natAbs (↑(KrS.a i) : Int))) < (2 : Nat) ^ m)) ∧ True) ∧ KrS.a j < KrS.a i else (m ≤ (900000 : Nat) ∧ m ≤ (900000 : Nat) ∧ ((↑(KrS.a i) : Int) / (2 : Int) ^ v2 (Int.natAbs (↑(KrS.a i) : Int)) = (0 : Int) → False)) ∧ ∃ j, KrI (kro a b) m j ∧ (((0 : Nat) = (0 : Nat) ∧ (0 : Nat) = (0 : Nat) ∧ KrS.k i = KrS.k j ∧ True) ∧ ((↑(KrS.n i) : Int) % ((↑(KrS.a i) : Int) / (2 : Int) ^ v2 (Int.natAbs (↑(KrS.a i) : Int))) = (↑(KrS.a j) : Int) ∧ (m ≤ m ∨ Int.natAbs ((↑(KrS.n i) : Int) % ((↑(KrS.a i) : Int) / (2 : Int) ^ v2 (Int.natAbs (↑(KrS.a i) : Int)))) < (2 : Nat) ^ m)) ∧ ((↑(KrS.a i) : Int) / (2 : Int) ^ v2 (Int.natAbs (↑(KrS.a i) : Int)) = (↑(KrS.n j) : Int) ∧ (m ≤ m ∨ Int.natAbs ((↑(KrS.a i) : Int) / (2 : Int) ^ v2 (Int.natAbs (↑(KrS.a i) : Int))) < (2 : Nat) ^ m)) ∧ True) ∧ KrS.a j < KrS.a i else (m ≤ (900000 : Nat) ∧ m ≤ (900000 : Nat) ∧ ((↑(KrS.a i) : Int) / (2 : Int) ^ v2 (Int.natAbs (↑(KrS.a i) : Int)) = (0 : Int) → False)) ∧ ∃ j, KrI (kro a b) m j ∧ (((0 : Nat) = (0 : Nat) ∧ (0 : Nat) = (0 : Nat) ∧ KrS.k i = KrS.k j ∧ True) ∧ ((↑(KrS.n i) : Int) % ((↑(KrS.a i) : Int) / (2 : Int) ^ v2 (Int.natAbs (↑(KrS.a i) : Int))) = (↑(KrS.a j) : Int) ∧ (m ≤ m ∨ Int.natAbs ((↑(KrS.n i) : Int) % ((↑(KrS.a i) : Int) / (2 : Int) ^ v2 (Int.natAbs (↑(KrS.a i) : Int)))) < (2 : Nat) ^ m)) ∧ ((↑(KrS.a i) : Int) / (2 : Int) ^ v2 (Int.natAbs (↑(KrS.a i) : Int)) = (↑(KrS.n j) : Int) ∧ (m ≤ m ∨ Int.natAbs ((↑(KrS.a i) : Int) / (2 : Int) ^ v2 (Int.natAbs (↑(KrS.a i) : Int))) < (2 : Nat) ^ m)) ∧ True) ∧ KrS.a j < KrS.a i else m ≤ (1000000 : Nat) ∧ bif !decide ((↑(KrS.n i) : Int) = (1 : Int)) then (0 : Int) = kro a b else KrS.k i = kro a b else (bif decide (b < (0 : Int)) then bif decide (a < (0 : Int)) then m ≤ (1000000 : Nat) ∧ ∃ i, Kc12 a (kro a b) m i ∧ ((0 : Nat) = (0 : Nat) ∧ (0 : Nat) = (0 : Nat) ∧ (-1 : Int) = KcS.k i ∧ True) ∧ (a = a ∧ (n ≤ n ∨ Int.natAbs a < (2 : Nat) ^ n)) ∧ (-b = KcS.n i ∧ (m ≤ m ∨ Int.natAbs (-b) < (2 : Nat) ^ m)) ∧ True else m ≤ (1000000 : Nat) ∧ ∃ i, Kc12 a (kro a b) m i ∧ ((0 : Nat) = (0 : Nat) ∧ (0 : Nat) = (0 : Nat) ∧ (1 : Int) = KcS.k i ∧ True) ∧ (a = a ∧ (n ≤ n ∨ Int.natAbs a < (2 : Nat) ^ n)) ∧ (-b = KcS.n i ∧ (m ≤ m ∨ Int.natAbs (-b) < (2 : Nat) ^ m)) ∧ True else ∃ i, Kc12 a (kro a b) m i ∧ ((0 : Nat) = (0 : Nat) ∧ (0 : Nat) = (0 : Nat) ∧ (1 : Int) = KcS.k i ∧ True) ∧ (a = a ∧ (n ≤ n ∨ Int.natAbs a < (2 : Nat) ^ n)) ∧ (b = KcS.n i ∧ (m ≤ m ∨ Int.natAbs b < (2 : Nat) ^ m)) ∧ True) ∧ ∀ (i : KcS), Kc12 a (kro a b) m i → (m ≤ (900000 : Nat) ∧ (KcS.n i = (0 : Int) → False)) ∧ (((2 : Int) = (0 : Int) → False) ∧ bif Int.tmod (↑(v2 (Int.natAbs (KcS.n i))) : Int) (2 : Int) == (1 : Int) then (n ≤ (1000000 : Nat) ∧ ((8 : Int) = (4 : Int) ∨ (8 : Int) = (8 : Int))) ∧ ((0 : Int) ≤ a % (8 : Int) ∧ a % (8 : Int) < (↑(8 : Nat) : Int)) ∧ ∃ i_1, Kc15 a (kro a b) m i_1 ∧ ((0 : Nat) = (0 : Nat) ∧ (0 : Nat) = (0 : Nat) ∧ IntKind.wrap IntKind.i64 (KcS.k i * List.getD gList (Int.toNat (a % (8 : Int))) (0 : Int)) = KcS.k i_1 ∧ True) ∧ (a = a ∧ (n ≤ n ∨ Int.natAbs a < (2 : Nat) ^ n)) ∧ (KcS.n i / (2 : Int) ^ v2 (Int.natAbs (KcS.n i)) = KcS.n i_1 ∧ (m ≤ m ∨ Int.natAbs (KcS.n i / (2 : Int) ^ v2 (Int.natAbs (KcS.n i))) < (2 : Nat) ^ m)) ∧ True else ∃ i_1, Kc15 a (kro a b) m i_1 ∧ ((0 : Nat) = (0 : Nat) ∧ (0 : Nat) = (0 : Nat) ∧ KcS.k i = KcS.k i_1 ∧ True) ∧ (a = a ∧ (n ≤ n ∨ Int.natAbs a < (2 : Nat) ^ n)) ∧ (KcS.n i / (2 : Int) ^ v2 (Int.natAbs (KcS.n i)) = KcS.n i_1 ∧ (m ≤ m ∨ Int.natAbs (KcS.n i / (2 : Int) ^ v2 (Int.natAbs (KcS.n i))) < (2 : Nat) ^ m)) ∧ True) ∧ ∀ (i : KcS), Kc15 a (kro a b) m i → (n ≤ (900000 : Nat) ∧ m ≤ (900000 : Nat) ∧ (KcS.n i = (0 : Int) → False)) ∧ (∃ i_1, KrI (kro a b) m i_1 ∧ ((0 : Nat) = (0 : Nat) ∧ (0 : Nat) = (0 : Nat) ∧ KcS.k i = KrS.k i_1 ∧ True) ∧ (a % KcS.n i = (↑(KrS.a i_1) : Int) ∧ (m ≤ m ∨ Int.natAbs (a % KcS.n i) < (2 : Nat) ^ m)) ∧ (KcS.n i = (↑(KrS.n i_1) : Int) ∧ (m ≤ m ∨ Int.natAbs (KcS.n i) < (2 : Nat) ^ m)) ∧ True) ∧ ∀ (i : KrS), KrI (kro a b) m i → bif decide (sgn (↑(KrS.a i) : Int) > (0 : Int)) then (m ≤ (900000 : Nat) ∧ ((↑(KrS.a i) : Int) = (0 : Int) → False)) ∧ ((2 : Int) = (0 : Int) → False) ∧ bif Int.tmod (↑(v2 (Int.natAbs (↑(KrS.a i) : Int))) : Int) (2 : Int) == (1 : Int) then (m ≤ (1000000 : Nat) ∧ ((8 : Int) = (4 : Int) ∨ (8 : Int) = (8 : Int))) ∧ ((0 : Int) ≤ (↑(KrS.n i) : Int) % (8 : Int) ∧ (↑(KrS.n i) : Int) % (8 : Int) < (↑(8 : Nat) : Int)) ∧ (m ≤ (1000000 : Nat) ∧ ((4 : Int) = (4 : Int) ∨ (4 : Int) = (8 : Int))) ∧ bif (↑(KrS.a i) : Int) / (2 : Int) ^ v2 (Int.natAbs (↑(KrS.a i) : Int)) % (4 : Int) == (3 : Int) then (m ≤ (1000000 : Nat) ∧ ((4 : Int) = (4 : Int) ∨ (4 : Int) = (8 : Int))) ∧ bif (↑(KrS.n i) : Int) % (4 : Int) == (3 : Int) then (m ≤ (900000 : Nat) ∧ m ≤ (900000 : Nat) ∧ ((↑(KrS.a i) : Int) / (2 : Int) ^ v2 (Int.natAbs (↑(KrS.a i) : Int)) = (0 : Int) → False)) ∧ ∃ j, KrI (kro a b) m j ∧ (((0 : Nat) = (0 : Nat) ∧ (0 : Nat) = (0 : Nat) ∧ IntKind.wrap IntKind.i64 ((0 : Int) - IntKind.wrap IntKind.i64 (KrS.k i * List.getD gList (Int.toNat ((↑(KrS.n i) : Int) % (8 : Int))) (0 : Int))) = KrS.k j ∧ True) ∧ ((↑(KrS.n i) : Int) % ((↑(KrS.a i) : Int) / (2 : Int) ^ v2 (Int.natAbs (↑(KrS.a i) : Int))) = (↑(KrS.a j) : Int) ∧ (m ≤ m ∨ Int.natAbs ((↑(KrS.n i) : Int) % ((↑(KrS.a i) : Int) / (2 : Int) ^ v2 (Int.natAbs (↑(KrS.a i) : Int)))) < (2 : Nat) ^ m)) ∧ ((↑(KrS.a i) : Int) / (2 : Int) ^ v2 (Int.natAbs (↑(KrS.a i) : Int)) = (↑(KrS.n j) : Int) ∧ (m ≤ m ∨ Int.natAbs ((↑(KrS.a i) : Int) / (2 : Int) ^ v2 (Int.natAbs (↑(KrS.a i) : Int))) < (2 : Nat) ^ m)) ∧ True) ∧ KrS.a j < KrS.a i else (m ≤ (900000 : Nat) ∧ m ≤ (900000 : Nat) ∧ ((↑(KrS.a i) : Int) / (2 : Int) ^ v2 (Int.natAbs (↑(KrS.a i) : Int)) = (0 : Int) → False)) ∧ ∃ j, KrI (kro a b) m j ∧ (((0 : Nat) = (0 : Nat) ∧ (0 : Nat) = (0 : Nat) ∧ IntKind.wrap IntKind.i64 (KrS.k i * List.getD gList (Int.toNat ((↑(KrS.n i) : Int) % (8 : Int))) (0 : Int)) = KrS.k j ∧ True) ∧ ((↑(KrS.n i) : Int) % ((↑(KrS.a i) : Int) / (2 : Int) ^ v2 (Int.natAbs (↑(KrS.a i) : Int))) = (↑(KrS.a j) : Int) ∧ (m ≤ m ∨ Int.natAbs ((↑(KrS.n i) : Int) % ((↑(KrS.a i) : Int) / (2 : Int) ^ v2 (Int.natAbs (↑(KrS.a i) : Int)))) < (2 : Nat) ^ m)) ∧ ((↑(KrS.a i) : Int) / (2 : Int) ^ v2 (Int.natAbs (↑(KrS.a i) : Int)) = (↑(KrS.n j) : Int) ∧ (m ≤ m ∨ Int.natAbs ((↑(KrS.a i) : Int) / (2 : Int) ^ v2 (Int.natAbs (↑(KrS.a i) : Int))) < (2 : Nat) ^ m)) ∧ True) ∧ KrS.a j < KrS.a i else (m ≤ (900000 : Nat) ∧ m ≤ (900000 : Nat) ∧ ((↑(KrS.a i) : Int) / (2 : Int) ^ v2 (Int.natAbs (↑(KrS.a i) : Int)) = (0 : Int) → False)) ∧ ∃ j, KrI (kro a b) m j ∧ (((0 : Nat) = (0 : Nat) ∧ (0 : Nat) = (0 : Nat) ∧ IntKind.wrap IntKind.i64 (KrS.k i * List.getD gList (Int.toNat ((↑(KrS.n i) : Int) % (8 : Int))) (0 : Int)) = KrS.k j ∧ True) ∧ ((↑(KrS.n i) : Int) % ((↑(KrS.a i) : Int) / (2 : Int) ^ v2 (Int.natAbs (↑(KrS.a i) : Int))) = (↑(KrS.a j) : Int) ∧ (m ≤ m ∨ Int.natAbs ((↑(KrS.n i) : Int) % ((↑(KrS.a i) : Int) / (2 : Int) ^ v2 (Int.natAbs (↑(KrS.a i) : Int)))) < (2 : Nat) ^ m)) ∧ ((↑(KrS.a i) : Int) / (2 : Int) ^ v2 (Int.natAbs (↑(KrS.a i) : Int)) = (↑(KrS.n j) : Int) ∧ (m ≤ m ∨ Int.natAbs ((↑(KrS.a i) : Int) / (2 : Int) ^ v2 (Int.natAbs (↑(KrS.a i) : Int))) < (2 : Nat) ^ m)) ∧ True) ∧ KrS.a j < KrS.a i else (m ≤ (1000000 : Nat) ∧ ((4 : Int) = (4 : Int) ∨ (4 : Int) = (8 : Int))) ∧ bif (↑(KrS.a i) : Int) / (2 : Int) ^ v2 (Int.natAbs (↑(KrS.a i) : Int)) % (4 : Int) == (3 : Int) then (m ≤ (1000000 : Nat) ∧ ((4 : Int) = (4 : Int) ∨ (4 : Int) = (8 : Int))) ∧ bif (↑(KrS.n i) : Int) % (4 : Int) == (3 : Int) then (m ≤ (900000 : Nat) ∧ m ≤ (900000 : Nat) ∧ ((↑(KrS.a i) : Int) / (2 : Int) ^ v2 (Int.natAbs (↑(KrS.a i) : Int)) = (0 : Int) → False)) ∧ ∃ j, KrI (kro a b) m j ∧ (((0 : Nat) = (0 : Nat) ∧ (0 : Nat) = (0 : Nat) ∧ IntKind.wrap IntKind.i64 ((0 : Int) - KrS.k i) = KrS.k j ∧ True) ∧ ((↑(KrS.n i) : Int) % ((↑(KrS.a i) : Int) / (2 : Int) ^ v2 (Int.natAbs (↑(KrS.a i) : Int))) = (↑(KrS.a j) : Int) ∧ (m ≤ m ∨ Int.natAbs ((↑(KrS.n i) : Int) % ((↑(KrS.a i) : Int) / (2 : Int) ^ v2 (Int.natAbs (↑(KrS.a i) : Int)))) < (2 : Nat) ^ m)) ∧ ((↑(KrS.a i) : Int) / (2 : Int) ^ v2 (Int.natAbs (↑(KrS.a i) : Int)) = (↑(KrS.n j) : Int) ∧ (m ≤ m ∨ Int.natAbs ((↑(KrS.a i) : Int) / (2 : Int) ^ v2 (Int.natAbs (↑(KrS.a i) : Int))) < (2 : Nat) ^ m)) ∧ True) ∧ KrS.a j < KrS.a i else (m ≤ (900000 : Nat) ∧ m ≤ (900000 : Nat) ∧ ((↑(KrS.a i) : Int) / (2 : Int) ^ v2 (Int.natAbs (↑(KrS.a i) : Int)) = (0 : Int) → False)) ∧ ∃ j, KrI (kro a b) m j ∧ (((0 : Nat) = (0 : Nat) ∧ (0 : Nat) = (0 : Nat) ∧ KrS.k i = KrS.k j ∧ True) ∧ ((↑(KrS.n i) : Int) % ((↑(KrS.a i) : Int) / (2 : Int) ^ v2 (Int.natAbs (↑(KrS.a i) : Int))) = (↑(KrS.a j) : Int) ∧ (m ≤ m ∨ Int.natAbs ((↑(KrS.n i) : Int) % ((↑(KrS.a i) : Int) / (2 : Int) ^ v2 (Int.natAbs (↑(KrS.a i) : Int)))) < (2 : Nat) ^ m)) ∧ ((↑(KrS.a i) : Int) / (2 : Int) ^ v2 (Int.natAbs (↑(KrS.a i) : Int)) = (↑(KrS.n j) : Int) ∧ (m ≤ m ∨ Int.natAbs ((↑(KrS.a i) : Int) / (2 : Int) ^ v2 (Int.natAbs (↑(KrS.a i) : Int))) < (2 : Nat) ^ m)) ∧ True) ∧ KrS.a j < KrS.a i else (m ≤ (900000 : Nat) ∧ m ≤ (900000 : Nat) ∧ ((↑(KrS.a i) : Int) / (2 : Int) ^ v2 (Int.natAbs (↑(KrS.a i) : Int)) = (0 : Int) → False)) ∧ ∃ j, KrI (kro a b) m j ∧ (((0 : Nat) = (0 : Nat) ∧ (0 : Nat) = (0 : Nat) ∧ KrS.k i = KrS.k j ∧ True) ∧ ((↑(KrS.n i) : Int) % ((↑(KrS.a i) : Int) / (2 : Int) ^ v2 (Int.natAbs (↑(KrS.a i) : Int))) = (↑(KrS.a j) : Int) ∧ (m ≤ m ∨ Int.natAbs ((↑(KrS.n i) : Int) % ((↑(KrS.a i) : Int) / (2 : Int) ^ v2 (Int.natAbs (↑(KrS.a i) : Int)))) < (2 : Nat) ^ m)) ∧ ((↑(KrS.a i) : Int) / (2 : Int) ^ v2 (Int.natAbs (↑(KrS.a i) : Int)) = (↑(KrS.n j) : Int) ∧ (m ≤ m ∨ Int.natAbs ((↑(KrS.a i) : Int) / (2 : Int) ^ v2 (Int.natAbs (↑(KrS.a i) : Int))) < (2 : Nat) ^ m)) ∧ True) ∧ KrS.a j < KrS.a i else m ≤ (1000000 : Nat) ∧ bif !decide ((↑(KrS.n i) : Int) = (1 : Int)) then (0 : Int) = kro a b else KrS.k i = kro a b) = evFn (envC [c_sign, c_abs, c_mone, c_modd, c_neg, c_mtwos, c_mlow, c_mmod] (a_kron (kro a b) m) (k_kron a b n m)) Tryd.f15 [.big a n, .big b m] (MRes.sat (.ret (.int .i64 (kro a b)))) := by kernel_rfl

theorem v2_spec {n : Nat} (h : n ≠ 0) : n = n / 2 ^ v2 n * 2 ^ v2 n ∧ n / 2 ^ v2 n % 2 = 1 := by
  induction n using Nat.strongRecOn with
  | ind n ih =>
    by_cases h2 : n % 2 = 0
    · obtain ⟨h3, h4⟩ := ih (n / 2) (by omega) (by omega)
      rw [v2_even h h2, Nat.pow_succ, Nat.mul_comm (2 ^ v2 (n / 2)) 2, ← Nat.div_div_eq_div_mul]
      refine ⟨?_, h4⟩
      generalize n / 2 / 2 ^ v2 (n / 2) = y at *
      have h5 : y * (2 * 2 ^ v2 (n / 2)) = y * 2 ^ v2 (n / 2) * 2 := by rw [Nat.mul_comm 2, Nat.mul_assoc]
      omega
    · rw [v2_odd (by omega), Nat.pow_zero, Nat.div_one]
      omega
theorem two8_odd {q : Int} (h : q % 2 = 1) : two8 q = 1 ∨ two8 q = -1 := by
  unfold two8
  split
  · exact .inl rfl
  · split
    · exact .inr rfl
    · omega
theorem two8_even {q : Int} (h : ¬ q % 2 = 1) : two8 q = 0 := by
  unfold two8
  rw [if_neg (by omega), if_neg (by omega)]
theorem gList_two8 (a : Int) : gList.getD (a % 8).toNat 0 = two8 a := by
  have h1 : 0 ≤ a % 8 ∧ a % 8 < 8 := by omega
  unfold two8
  generalize a % 8 = r at *
  rcases (show r = 0 ∨ r = 1 ∨ r = 2 ∨ r = 3 ∨ r = 4 ∨ r = 5 ∨ r = 6 ∨ r = 7 by omega) with h | h | h | h | h | h | h | h <;> subst h <;> decide
theorem sq_one {x : Int} (h : x = 1 ∨ x = -1) : x * x = 1 := by rcases h with h | h <;> rw [h] <;> rfl
/-- The sign of an odd number of factors 2. -/
def tsg (c : Nat) (x : Int) : Int := if c % 2 = 1 then x else 1
theorem tsg_succ {c : Nat} {x : Int} (h : x = 1 ∨ x = -1) : tsg (c + 1) x = x * tsg c x := by
  unfold tsg
  by_cases hc : c % 2 = 1
  · rw [if_pos hc, if_neg (by omega), sq_one h]
  · rw [if_neg hc, if_pos (by omega), Int.mul_one]
theorem jac_v2 {x q : Nat} (hx : x ≠ 0) (hq : q % 2 = 1) : jac x q = tsg (v2 x) (two8 q) * jac (x / 2 ^ v2 x) q := by
  induction x using Nat.strongRecOn with
  | ind x ih =>
    by_cases h2 : x % 2 = 0
    · rw [jac_even hx h2, ih (x / 2) (by omega) (by omega), v2_even hx h2, Nat.pow_succ, Nat.mul_comm (2 ^ v2 (x / 2)) 2, ← Nat.div_div_eq_div_mul, tsg_succ (two8_odd (by omega)), Int.mul_assoc]
    · rw [v2_odd (by omega), Nat.pow_zero, Nat.div_one]
      show _ = 1 * _
      rw [Int.one_mul]
theorem kr_v2 {a : Int} {b : Nat} (hb : b ≠ 0) (ho : a % 2 = 1 ∨ b % 2 = 1) : kr a b = tsg (v2 b) (two8 a) * kr a (b / 2 ^ v2 b) := by
  induction b using Nat.strongRecOn with
  | ind x ih =>
    by_cases h2 : x % 2 = 0
    · have ha : a % 2 = 1 := by omega
      rw [kr_even hb h2, ih (x / 2) (by omega) (by omega) (.inl ha), v2_even hb h2, Nat.pow_succ, Nat.mul_comm (2 ^ v2 (x / 2)) 2, ← Nat.div_div_eq_div_mul, tsg_succ (two8_odd ha), Int.mul_assoc]
    · rw [v2_odd (by omega), Nat.pow_zero, Nat.div_one]
      show _ = 1 * _
      rw [Int.one_mul]
theorem tm2 (c : Nat) : (Int.tmod (c : Int) 2 == 1) = decide (c % 2 = 1) := by
  have e : Int.tmod (c : Int) 2 = ((c % 2 : Nat) : Int) := rfl
  rw [e]
  rcases Nat.mod_two_eq_zero_or_one c with h | h <;> rw [h] <;> rfl
theorem beq3 (x : Nat) : ((x : Int) % 4 == 3) = decide (x % 4 = 3) := by
  have : x % 4 < 4 := Nat.mod_lt _ (by omega)
  have e : (x : Int) % 4 = ((x % 4 : Nat) : Int) := rfl
  rw [e]
  rcases (show x % 4 = 0 ∨ x % 4 = 1 ∨ x % 4 = 2 ∨ x % 4 = 3 by omega) with h | h | h | h <;> rw [h] <;> rfl
theorem pm1_mul {x y : Int} (h : x = 1 ∨ x = -1) (k : y = 1 ∨ y = -1) : x * y = 1 ∨ x * y = -1 := by
  rcases h with h | h <;> rcases k with k | k <;> rw [h, k] <;> decide
theorem ediv_v2 {z : Int} (h : 0 < z) : z / 2 ^ v2 z.natAbs = ((z.natAbs / 2 ^ v2 z.natAbs : Nat) : Int) := by
  obtain ⟨x, rfl⟩ := Int.eq_ofNat_of_zero_le (Int.le_of_lt h)
  rw [Int.natAbs_natCast, Int.natCast_ediv, Int.natCast_pow]
  rfl

theorem k_split {p q : Bool} {M R T : Prop} (h0 : M) (hR : p = true → q = true → R) (hT : p = false ∨ q = false → T) : bif p then M ∧ bif q then R else T else T := by
  cases p with
  | false => exact hT (.inl rfl)
  | true =>
    cases q with
    | false => exact ⟨h0, hT (.inr rfl)⟩
    | true => exact ⟨h0, hR rfl rfl⟩
theorem kron_leaf {r e k' : Int} {m x q y : Nat} (hm : m ≤ 900000) (hy : y % 2 = 1) (hyx : y ≤ x) (hxm : x < 2 ^ m) (he : e = k') (hk : k' = 1 ∨ k' = -1) (hv : k' * jac (q % y) y = r) :
    (m ≤ (900000 : Nat) ∧ m ≤ (900000 : Nat) ∧ ((y : Int) = (0 : Int) → False)) ∧ ∃ j, KrI r m j ∧ (((0 : Nat) = (0 : Nat) ∧ (0 : Nat) = (0 : Nat) ∧ e = KrS.k j ∧ True) ∧
      ((q : Int) % (y : Int) = (KrS.a j : Int) ∧ (m ≤ m ∨ Int.natAbs ((q : Int) % (y : Int)) < (2 : Nat) ^ m)) ∧ ((y : Int) = (KrS.n j : Int) ∧ (m ≤ m ∨ Int.natAbs (y : Int) < (2 : Nat) ^ m)) ∧ True) ∧ KrS.a j < x := by
  have hlt := Nat.mod_lt q (show y > 0 by omega)
  exact ⟨⟨hm, hm, by omega⟩, ⟨k', q % y, y⟩, ⟨hy, hk, hv, by show q % y < _; omega, by show y < _; omega⟩, ⟨⟨rfl, rfl, he, True.intro⟩, ⟨by show _ = ((q % y : Nat) : Int); omega, .inl (Nat.le_refl _)⟩, ⟨rfl, .inl (Nat.le_refl _)⟩, True.intro⟩, by show q % y < x; omega⟩
theorem rsg_pm (a n : Nat) : rsg a n = 1 ∨ rsg a n = -1 := by unfold rsg; split <;> simp

theorem p_kron : GoodF Tryd.f15 s_kron := by
  intro ms p r h hp hf
  unfold s_kron at h
  split at h
  · rename_i a n b m
    simp only [Option.some.injEq, Prod.mk.injEq] at h
    obtain ⟨rfl, rfl⟩ := h
    obtain ⟨hn, hm⟩ : n ≤ 200000 ∧ m ≤ 200000 := hp
    have ha : a.natAbs < 2 ^ n := hf.1
    have hb : b.natAbs < 2 ^ m := hf.2.1
    refine ⟨envC [c_sign, c_abs, c_mone, c_modd, c_neg, c_mtwos, c_mlow, c_mmod] (a_kron (kro a b) m) (k_kron a b n m), ?_⟩
    rw [← vc_kron a b n m]
    by_cases hb0 : b = 0
    · have e1 : (sgn b == 0) = true := by subst hb0; rfl
      rw [e1, cond_true]
      refine ⟨by omega, by omega, ?_⟩
      rw [Bool.cond_decide]
      unfold kro
      rw [if_pos hb0]
      split
      · rw [if_pos (by omega)]
      · rw [if_neg (by omega)]
    have e1 : (sgn b == 0) = false := by
      unfold sgn
      rw [if_neg hb0]
      split <;> rfl
    have hkro : kro a b = (if b < 0 ∧ a < 0 then -1 else 1) * kr a b.natAbs := by unfold kro; rw [if_neg hb0]
    generalize hr : kro a b = r at *
    rw [e1, cond_false]
    refine ⟨by omega, ?_⟩
    refine k_split (by omega) (fun h1 h2 => ?_) (fun hodd => ?_)
    · have h1 : ¬ a % 2 = 1 := by simpa using h1
      have h2 : ¬ b % 2 = 1 := by simpa using h2
      rw [hkro, kr_even (by omega) (by omega), two8_even h1, Int.zero_mul, Int.mul_zero]
    have hodd : a % 2 = 1 ∨ b % 2 = 1 := by simpa using hodd
    refine ⟨?_, ?_⟩
    · rw [Bool.cond_decide]
      split
      · rw [Bool.cond_decide]
        split
        · refine ⟨by omega, ⟨-1, -b⟩, ⟨.inr rfl, by show 0 < -b; omega, by show (-b).natAbs < _; omega, by show a % 2 = 1 ∨ -b % 2 = 1; omega, ?_⟩, ⟨rfl, rfl, rfl, True.intro⟩, ⟨rfl, .inl (Nat.le_refl _)⟩, ⟨rfl, .inl (Nat.le_refl _)⟩, True.intro⟩
          show -1 * kr a (-b).natAbs = r
          rw [hkro, if_pos ⟨by assumption, by assumption⟩, Int.natAbs_neg]
        · refine ⟨by omega, ⟨1, -b⟩, ⟨.inl rfl, by show 0 < -b; omega, by show (-b).natAbs < _; omega, by show a % 2 = 1 ∨ -b % 2 = 1; omega, ?_⟩, ⟨rfl, rfl, rfl, True.intro⟩, ⟨rfl, .inl (Nat.le_refl _)⟩, ⟨rfl, .inl (Nat.le_refl _)⟩, True.intro⟩
          show 1 * kr a (-b).natAbs = r
          rw [hkro, if_neg (by omega), Int.natAbs_neg]
      · refine ⟨⟨1, b⟩, ⟨.inl rfl, by show 0 < b; omega, hb, hodd, ?_⟩, ⟨rfl, rfl, rfl, True.intro⟩, ⟨rfl, .inl (Nat.le_refl _)⟩, ⟨rfl, .inl (Nat.le_refl _)⟩, True.intro⟩
        show 1 * kr a b.natAbs = r
        rw [hkro, if_neg (by omega)]
    rintro ⟨k, c⟩ hi
    have hk : k = 1 ∨ k = -1 := hi.k
    have hpos : 0 < c := hi.pos
    have hcb : c.natAbs < 2 ^ m := hi.bn
    have ho : a % 2 = 1 ∨ c % 2 = 1 := hi.odd
    have hv : k * kr a c.natAbs = r := hi.val
    clear hi
    dsimp only
    rw [tm2, ediv_v2 hpos, gList_two8]
    have hc0 : c.natAbs ≠ 0 := by omega
    have hvo : v2 c.natAbs % 2 = 1 → a % 2 = 1 := fun h => by
      by_cases h2 : c.natAbs % 2 = 1
      · rw [v2_odd h2] at h; omega
      · omega
    obtain ⟨s1, s2⟩ := v2_spec hc0
    rw [kr_v2 hc0 (by omega)] at hv
    generalize v2 c.natAbs = v at *
    generalize c.natAbs / 2 ^ v = y at *
    have hyb : y < 2 ^ m := by
      have h1 : 1 ≤ 2 ^ v := Nat.one_le_two_pow
      have h2 : y * 1 ≤ y * 2 ^ v := Nat.mul_le_mul_left _ h1
      omega
    refine ⟨⟨by omega, by omega⟩, ⟨by omega, ?_⟩, ?_⟩
    · rw [Bool.cond_decide]
      split
      · rename_i hc
        have ha1 := hvo hc
        have ht := pm1_mul hk (two8_odd ha1)
        have hw : IntKind.wrap IntKind.i64 (k * two8 a) = k * two8 a := by rcases ht with h | h <;> rw [h] <;> rfl
        refine ⟨⟨by omega, .inr rfl⟩, by omega, ⟨k * two8 a, y⟩, ⟨ht, by show (0 : Int) < y; omega, by show (y : Int).natAbs < _; omega, by show (y : Int) % 2 = 1; omega, ?_⟩, ⟨rfl, rfl, hw, True.intro⟩, ⟨rfl, .inl (Nat.le_refl _)⟩, ⟨rfl, .inl (Nat.le_refl _)⟩, True.intro⟩
        show k * two8 a * kr a (y : Int).natAbs = r
        unfold tsg at hv
        rw [if_pos hc] at hv
        rw [Int.natAbs_natCast, Int.mul_assoc, hv]
      · rename_i hc
        refine ⟨⟨k, y⟩, ⟨hk, by show (0 : Int) < y; omega, by show (y : Int).natAbs < _; omega, by show (y : Int) % 2 = 1; omega, ?_⟩, ⟨rfl, rfl, rfl, True.intro⟩, ⟨rfl, .inl (Nat.le_refl _)⟩, ⟨rfl, .inl (Nat.le_refl _)⟩, True.intro⟩
        show k * kr a (y : Int).natAbs = r
        unfold tsg at hv
        rw [if_neg hc, Int.one_mul] at hv
        rw [Int.natAbs_natCast, hv]
    clear hv hk s1 s2 hyb hvo ho hcb hpos hc0
    rintro ⟨k, c⟩ hi
    have hk : k = 1 ∨ k = -1 := hi.k
    have hpos : 0 < c := hi.pos
    have hcb : c.natAbs < 2 ^ m := hi.bn
    have ho : c % 2 = 1 := hi.odd
    have hv : k * kr a c.natAbs = r := hi.val
    clear hi
    dsimp only
    obtain ⟨q, rfl⟩ := Int.eq_ofNat_of_zero_le (Int.le_of_lt hpos)
    rw [Int.natAbs_natCast] at hcb hv
    have hm0 := Int.emod_nonneg a (show (q : Int) ≠ 0 by omega)
    have hm1 := Int.emod_lt_of_pos a hpos
    refine ⟨⟨by omega, by omega, by omega⟩, ⟨⟨k, (a % q).toNat, q⟩, ⟨by show q % 2 = 1; omega, hk, ?_, by show (a % q).toNat < _; omega, hcb⟩, ⟨rfl, rfl, rfl, True.intro⟩, ⟨by show a % q = ((a % q).toNat : Int); omega, .inl (Nat.le_refl _)⟩, ⟨rfl, .inl (Nat.le_refl _)⟩, True.intro⟩, ?_⟩
    · show k * jac (a % q).toNat q = r
      rw [← hv, kr_odd (by omega)]
    clear hv hk ho hm0 hm1 hcb hpos
    rintro ⟨k, x, q⟩ hI
    have hq : q % 2 = 1 := hI.odd
    have hk : k = 1 ∨ k = -1 := hI.k
    have hv : k * jac x q = r := hI.val
    have hxm : x < 2 ^ m := hI.ba
    have hqm : q < 2 ^ m := hI.bn
    clear hI
    dsimp only
    by_cases hx : x = 0
    · subst hx
      have e2 : decide (sgn ((0 : Nat) : Int) > 0) = false := rfl
      rw [e2, cond_false]
      refine ⟨by omega, ?_⟩
      rw [jac_zero] at hv
      by_cases h1 : q = 1
      · rw [if_pos h1, Int.mul_one] at hv
        rw [decide_eq_true (show (q : Int) = 1 by omega)]
        exact hv
      · rw [if_neg h1, Int.mul_zero] at hv
        rw [decide_eq_false (show ¬ (q : Int) = 1 by omega)]
        exact hv
    have e2 : decide (sgn (x : Int) > 0) = true := by rw [sgn_pos (by omega)]; rfl
    have e3 := ediv_v2 (z := (x : Int)) (by omega)
    rw [Int.natAbs_natCast] at e3
    rw [e2, cond_true]
    rw [Int.natAbs_natCast, e3, tm2, gList_two8, beq3, beq3]
    obtain ⟨s1, s2⟩ := v2_spec hx
    rw [jac_v2 hx hq] at hv
    generalize v2 x = v at *
    generalize x / 2 ^ v = y at *
    have hyx : y ≤ x := by
      have h1 : 1 ≤ 2 ^ v := Nat.one_le_two_pow
      have h2 : y * 1 ≤ y * 2 ^ v := Nat.mul_le_mul_left _ h1
      omega
    rw [jac_odd s2] at hv
    have ht := two8_odd (q := (q : Int)) (by omega)
    have hw : ∀ {z : Int}, z = 1 ∨ z = -1 → IntKind.wrap IntKind.i64 z = z := fun h => by rcases h with h | h <;> rw [h] <;> rfl
    have hkt := pm1_mul hk ht
    have hng : ∀ {z : Int}, z = 1 ∨ z = -1 → (0 - z = 1 ∨ 0 - z = -1) := fun h => by rcases h with h | h <;> rw [h] <;> decide
    refine ⟨⟨by omega, by omega⟩, by omega, ?_⟩
    by_cases hc : v % 2 = 1
    · rw [decide_eq_true hc, cond_true]
      unfold tsg at hv
      rw [if_pos hc] at hv
      refine ⟨⟨by omega, .inr rfl⟩, by omega, ⟨by omega, .inl rfl⟩, ?_⟩
      by_cases h3 : y % 4 = 3
      · rw [decide_eq_true h3, cond_true]
        refine ⟨⟨by omega, .inl rfl⟩, ?_⟩
        by_cases h4 : q % 4 = 3
        · rw [decide_eq_true h4, cond_true]
          unfold rsg at hv
          rw [if_pos ⟨h3, h4⟩] at hv
          exact kron_leaf (by omega) s2 hyx hxm (by rw [hw hkt, hw (hng hkt)]) (hng hkt) (by rw [← hv]; grind)
        · rw [decide_eq_false h4, cond_false]
          unfold rsg at hv
          rw [if_neg (by omega)] at hv
          exact kron_leaf (by omega) s2 hyx hxm (hw hkt) hkt (by rw [← hv]; grind)
      · rw [decide_eq_false h3, cond_false]
        unfold rsg at hv
        rw [if_neg (by omega)] at hv
        exact kron_leaf (by omega) s2 hyx hxm (hw hkt) hkt (by rw [← hv]; grind)
    · rw [decide_eq_false hc, cond_false]
      unfold tsg at hv
      rw [if_neg hc, Int.one_mul] at hv
      refine ⟨⟨by omega, .inl rfl⟩, ?_⟩
      by_cases h3 : y % 4 = 3
      · rw [decide_eq_true h3, cond_true]
        refine ⟨⟨by omega, .inl rfl⟩, ?_⟩
        by_cases h4 : q % 4 = 3
        · rw [decide_eq_true h4, cond_true]
          unfold rsg at hv
          rw [if_pos ⟨h3, h4⟩] at hv
          exact kron_leaf (by omega) s2 hyx hxm (hw (hng hk)) (hng hk) (by rw [← hv]; grind)
        · rw [decide_eq_false h4, cond_false]
          unfold rsg at hv
          rw [if_neg (by omega), Int.one_mul] at hv
          exact kron_leaf (by omega) s2 hyx hxm rfl hk hv
      · rw [decide_eq_false h3, cond_false]
        unfold rsg at hv
        rw [if_neg (by omega), Int.one_mul] at hv
        exact kron_leaf (by omega) s2 hyx hxm rfl hk hv
  · simp at h
def c_kron : Ctr Tryd.prog := ⟨15, s_kron, fun args w => Tryd.call15 args w, fn_ok_facts mix Tryd.func15 s_kron p_kron⟩

end Go.Proofs.YtcikhffhikgahaaDoor

/-
  Contracts of functions: package modular: Mod, Inv, Pow, for any modulus.
-/
namespace Go.Proofs.YtcikhffhikgahaaDoor
open Go Go.RowKit

def s_mModG : FSpec
  | [.big a n, .big b m] => some (some (n ≤ 900000 ∧ m ≤ 900000), .br (decide (0 < b)) (.ret (.tup [.big (a % b) m, .int .i64 0])) (.ret (.tup [.big 0 0, .int .i64 1])))
  | _ => none
theorem vc_mModG (a b : Int) (n m : Nat) : (bif decide (sgn b < (1 : Int)) then bif decide ((0 : Int) < b) then ((0 : Int) = a % b ∧ ((0 : Nat) ≤ m ∨ Int.natAbs (0 : Int) < (2 : Nat) ^ m)) ∧ (1 : Int) = (0 : Int) ∧ True else ((0 : Int) = (0 : Int) ∧ ((0 : Nat) ≤ (0 : Nat) ∨ Int.natAbs (0 : Int) < (2 : Nat) ^ (0 : Nat))) ∧ (1 : Int) = (1 : Int) ∧ True else (n ≤ (900000 : Nat) ∧ m ≤ (900000 : Nat) ∧ (b = (0 : Int) → False)) ∧ bif decide ((0 : Int) < b) then (a % b = a % b ∧ (m ≤ m ∨ Int.natAbs (a % b) < (2 : Nat) ^ m)) ∧ (0 : Int) = (0 : Int) ∧ True else (a % b = (0 : Int) ∧ (m ≤ (0 : Nat) ∨ Int.natAbs (a % b) < (2 : Nat) ^ (0 : Nat))) ∧ (0 : Int) = (1 : Int) ∧ True) = evFn (env [c_mmod, c_sign] noAnn) Tryd.f20 [.big a n, .big b m] (MRes.sat (.br (decide (0 < b)) (.ret (.tup [.big (a % b) m, .int .i64 0])) (.ret (.tup [.big 0 0, .int .i64 1])))) := by kernel_rfl
noncomputable def s_mInvG : FSpec
  | [.big a n, .big b m] => some (some (n ≤ 200000 ∧ m ≤ 200000), .br (decide (0 < b)) (.br (decide (Int.gcd a b = 1)) (.ret (.tup [.big (minv a b) m, .int .i64 0])) (.ret (.tup [.big 0 0, .int .i64 4]))) (.ret (.tup [.big 0 0, .int .i64 1])))
  | _ => none
theorem vc_mInvG (a b : Int) (n m : Nat) : (bif decide (sgn b < (1 : Int)) then bif decide ((0 : Int) < b) then bif decide (Int.gcd a b = (1 : Nat)) then ((0 : Int) = minv a b ∧ ((0 : Nat) ≤ m ∨ Int.natAbs (0 : Int) < (2 : Nat) ^ m)) ∧ (1 : Int) = (0 : Int) ∧ True else ((0 : Int) = (0 : Int) ∧ ((0 : Nat) ≤ (0 : Nat) ∨ Int.natAbs (0 : Int) < (2 : Nat) ^ (0 : Nat))) ∧ (1 : Int) = (4 : Int) ∧ True else ((0 : Int) = (0 : Int) ∧ ((0 : Nat) ≤ (0 : Nat) ∨ Int.natAbs (0 : Int) < (2 : Nat) ^ (0 : Nat))) ∧ (1 : Int) = (1 : Int) ∧ True else (n ≤ (900000 : Nat) ∧ m ≤ (900000 : Nat) ∧ (b = (0 : Int) → False)) ∧ (m ≤ (300000 : Nat) ∧ m ≤ (300000 : Nat) ∧ (b = (0 : Int) → False)) ∧ m ≤ (1000000 : Nat) ∧ bif !decide ((↑(Int.gcd (a % b) b) : Int) = (1 : Int)) then bif decide ((0 : Int) < b) then bif decide (Int.gcd a b = (1 : Nat)) then ((0 : Int) = minv a b ∧ ((0 : Nat) ≤ m ∨ Int.natAbs (0 : Int) < (2 : Nat) ^ m)) ∧ (4 : Int) = (0 : Int) ∧ True else ((0 : Int) = (0 : Int) ∧ ((0 : Nat) ≤ (0 : Nat) ∨ Int.natAbs (0 : Int) < (2 : Nat) ^ (0 : Nat))) ∧ (4 : Int) = (4 : Int) ∧ True else ((0 : Int) = (0 : Int) ∧ ((0 : Nat) ≤ (0 : Nat) ∨ Int.natAbs (0 : Int) < (2 : Nat) ^ (0 : Nat))) ∧ (4 : Int) = (1 : Int) ∧ True else (m ≤ (900000 : Nat) ∧ m ≤ (900000 : Nat) ∧ (b = (0 : Int) → False)) ∧ bif decide ((0 : Int) < b) then bif decide (Int.gcd a b = (1 : Nat)) then (bzu (a % b) b % b = minv a b ∧ (m ≤ m ∨ Int.natAbs (bzu (a % b) b % b) < (2 : Nat) ^ m)) ∧ (0 : Int) = (0 : Int) ∧ True else (bzu (a % b) b % b = (0 : Int) ∧ (m ≤ (0 : Nat) ∨ Int.natAbs (bzu (a % b) b % b) < (2 : Nat) ^ (0 : Nat))) ∧ (0 : Int) = (4 : Int) ∧ True else (bzu (a % b) b % b = (0 : Int) ∧ (m ≤ (0 : Nat) ∨ Int.natAbs (bzu (a % b) b % b) < (2 : Nat) ^ (0 : Nat))) ∧ (0 : Int) = (1 : Int) ∧ True) = evFn (env [c_mmod, c_sign, c_ibez1, c_mone] noAnn) Tryd.f60 [.big a n, .big b m] (MRes.sat (.br (decide (0 < b)) (.br (decide (Int.gcd a b = 1)) (.ret (.tup [.big (minv a b) m, .int .i64 0])) (.ret (.tup [.big 0 0, .int .i64 4]))) (.ret (.tup [.big 0 0, .int .i64 1])))) := by kernel_rfl
theorem sgn_lt1 {b : Int} : decide (sgn b < 1) = !decide (0 < b) := by
  unfold sgn
  by_cases h : b = 0
  · subst h; rfl
  · rw [if_neg h]
    by_cases h2 : b < 0
    · rw [if_pos h2, decide_eq_false (show ¬ 0 < b by omega)]; rfl
    · rw [if_neg h2, decide_eq_true (show 0 < b by omega)]; rfl
theorem p_mModG : Good Tryd.f20 s_mModG := by
  intro ms p r h hp
  unfold s_mModG at h
  split at h
  · rename_i a n b m
    simp only [Option.some.injEq, Prod.mk.injEq] at h
    obtain ⟨rfl, rfl⟩ := h
    obtain ⟨hn, hm⟩ : n ≤ 900000 ∧ m ≤ 900000 := hp
    refine ⟨env [c_mmod, c_sign] noAnn, ?_⟩
    rw [← vc_mModG a b n m, sgn_lt1]
    by_cases hb : 0 < b
    · rw [decide_eq_true hb]
      exact ⟨⟨hn, hm, by omega⟩, ⟨rfl, .inl (Nat.le_refl _)⟩, (by and_intros <;> first | exact True.intro | rfl | omega)⟩
    · rw [decide_eq_false hb]
      exact ⟨⟨rfl, .inl (Nat.le_refl _)⟩, (by and_intros <;> first | exact True.intro | rfl | omega)⟩
  · simp at h
def c_mModG : Ctr Tryd.prog := ⟨20, s_mModG, fun args w => Tryd.call20 args w, fn_ok mix Tryd.func20 s_mModG p_mModG⟩
theorem p_mInvG : GoodF Tryd.f60 s_mInvG := by
  intro ms p r h hp hf
  unfold s_mInvG at h
  split at h
  · rename_i a n b m
    simp only [Option.some.injEq, Prod.mk.injEq] at h
    obtain ⟨rfl, rfl⟩ := h
    obtain ⟨hn, hm⟩ : n ≤ 200000 ∧ m ≤ 200000 := hp
    refine ⟨env [c_mmod, c_sign, c_ibez1, c_mone] noAnn, ?_⟩
    rw [← vc_mInvG a b n m, sgn_lt1]
    by_cases hb : 0 < b
    · rw [decide_eq_true hb, gcd_mod]
      refine ⟨⟨by omega, by omega, by omega⟩, ⟨by omega, by omega, by omega⟩, by omega, ?_⟩
      by_cases hg : Int.gcd a b = 1
      · have h1 : decide ((Int.gcd a b : Int) = 1) = true := decide_eq_true (by omega)
        rw [h1, decide_eq_true hg]
        exact ⟨⟨by omega, by omega, by omega⟩, ⟨rfl, .inl (Nat.le_refl _)⟩, (by and_intros <;> first | exact True.intro | rfl | omega)⟩
      · have h1 : decide ((Int.gcd a b : Int) = 1) = false := decide_eq_false (by omega)
        rw [h1, decide_eq_false hg]
        exact ⟨⟨rfl, .inl (Nat.le_refl _)⟩, (by and_intros <;> first | exact True.intro | rfl | omega)⟩
    · rw [decide_eq_false hb]
      exact ⟨⟨rfl, .inl (Nat.le_refl _)⟩, (by and_intros <;> first | exact True.intro | rfl | omega)⟩
  · simp at h
noncomputable def c_mInvG : Ctr Tryd.prog := ⟨60, s_mInvG, fun args w => Tryd.call60 args w, fn_ok_facts mix Tryd.func60 s_mInvG p_mInvG⟩

/-! ### Pow -/
/-- A power modulo m. -/
def pwm (a : Int) (e : Nat) (m : Int) : Int := a ^ e % m
def s_mpow1 : FSpec
  | [.big a n, .big b k, .ref (.big m l)] => some (some (n ≤ 200000 ∧ k ≤ 200000 ∧ l ≤ 200000 ∧ 0 < m), .ret (.big (a * b % m) l))
  | _ => none
theorem vc_mpow1 (a b m : Int) (n k l : Nat) : ((n ≤ (1000000 : Nat) ∧ k ≤ (1000000 : Nat)) ∧ (n + k ≤ (900000 : Nat) ∧ l ≤ (900000 : Nat) ∧ (m = (0 : Int) → False)) ∧ a * b % m = a * b % m ∧ (l ≤ l ∨ Int.natAbs (a * b % m) < (2 : Nat) ^ l)) = evFn (env [c_mul, c_mmod] noAnn) Tryd.f77 [.big a n, .big b k, .ref (.big m l)] (MRes.sat (.ret (.big (a * b % m) l))) := by kernel_rfl
theorem p_mpow1 : Good Tryd.f77 s_mpow1 := by
  intro ms p r h hp
  unfold s_mpow1 at h
  split at h
  · rename_i a n b k m l
    simp only [Option.some.injEq, Prod.mk.injEq] at h
    obtain ⟨rfl, rfl⟩ := h
    obtain ⟨h1, h2, h3, h4⟩ : n ≤ 200000 ∧ k ≤ 200000 ∧ l ≤ 200000 ∧ 0 < m := hp
    refine ⟨env [c_mul, c_mmod] noAnn, ?_⟩
    rw [← vc_mpow1 a b m n k l]
    exact ⟨⟨by omega, by omega⟩, ⟨by omega, by omega, by omega⟩, rfl, .inl (Nat.le_refl _)⟩
  · simp at h
def c_mpow1 : Ctr Tryd.prog := ⟨77, s_mpow1, fun args w => Tryd.call77 args w, fn_ok mix Tryd.func77 s_mpow1 p_mpow1⟩

noncomputable def powR (a e m : Int) : Int := if e < 0 then pwm (minv a m) e.natAbs m else pwm a e.natAbs m
noncomputable def s_mpow : FSpec
  | [.big a n, .big e k, .big m l] => some (some (n ≤ 100000 ∧ k ≤ 100000 ∧ l ≤ 100000), .br (decide (0 < m)) (.br (decide (e < 0) && !decide (Int.gcd a m = 1)) (.ret (.tup [.big 0 0, .int .i64 4])) (.ret (.tup [.big (powR a e m) l, .int .i64 0]))) (.ret (.tup [.big 0 0, .int .i64 1])))
  | _ => none
structure PwC where
  a : Int
  e : Int
structure PwCI (a e m : Int) (k : Nat) (s : PwC) : Prop where
  e0 : 0 ≤ s.e
  ek : s.e.natAbs < 2 ^ k
  m0 : 0 < m
  g : e < 0 → Int.gcd a m = 1
  v : pwm s.a s.e.natAbs m = powR a e m
structure PwS where
  i : Nat
  x : Int
  y : Int
structure PwI (a : Int) (e : Nat) (m : Int) (s : PwS) : Prop where
  i : s.i ≤ bl e
  x : s.x = pwm a (e % 2 ^ s.i) m
  y : s.y = pwm a (2 ^ s.i) m
def pwS (a e m : Int) (n k l : Nat) (r : Int × Nat) (s : PwS) : MS := ⟨66, [(4, .bp 1 0), (5, .bp 2 0), (6, .bp 3 0), (10, .fn 77 [.bp 2 0]), (11, .bp 4 0), (12, .bp 5 0), (41, .int .i64 (bl e.natAbs)), (42, .int .i64 s.i)],
  [⟨false, .one (.big a n)⟩, ⟨false, .one (.big e k)⟩, ⟨false, .one (.big m l)⟩, ⟨false, .one (.big r.1 r.2)⟩, ⟨false, .one (.big s.x l)⟩, ⟨false, .one (.big s.y l)⟩], 0⟩
def a_mpow (m : Int) (n k l : Nat) : Nat → MS → Option LoopAnn
  | 11, s => (match s.bx with
    | ⟨_, .one (.big a _)⟩ :: ⟨_, .one (.big e _)⟩ :: _ => some (.inv PwS (PwI a e.natAbs m) (pwS a e m n k l (0, 0)) (fun s => bl e.natAbs - s.i))
    | _ => none)
  | _, _ => none
def k_mpow (a e m : Int) (n k l : Nat) : Nat → MS → Option CutAnn
  | 8, _ => some (.mk PwC (PwCI a e m k) (fun s => ⟨66, [(3, .bp 0 0), (4, .bp 1 0), (5, .bp 2 0), (6, .bp 3 0)], [⟨false, .one (.big s.a n)⟩, ⟨false, .one (.big s.e k)⟩, ⟨false, .one (.big m l)⟩, ⟨false, .one (.big 0 0)⟩], 0⟩))
  | _, _ => none
theorem vc_mpow (a e m : Int) (n k l : Nat) : (bif decide (sgn m < (1 : Int)) then bif decide ((0 : Int) < m) then bif decide (e < (0 : Int)) && !decide (Int.gcd a m = (1 : Nat)) then ((0 : Int) = (0 : Int) ∧ ((0 : Nat) ≤ (0 : Nat) ∨ Int.natAbs (0 : Int) < (2 : Nat) ^ (0 : Nat))) ∧ (1 : Int) = (4 : Int) ∧ True else ((0 : Int) = powR a e m ∧ ((0 : Nat) ≤ l ∨ Int.natAbs (0 : Int) < (2 : Nat) ^ l)) ∧ (1 : Int) = (0 : Int) ∧ True else ((0 : Int) = (0 : Int) ∧ ((0 : Nat) ≤ (0 : Nat) ∨ Int.natAbs (0 : Int) < (2 : Nat) ^ (0 : Nat))) ∧ (1 : Int) = (1 : Int) ∧ True else (bif decide (e < (0 : Int)) then (n ≤ (200000 : Nat) ∧ l ≤ (200000 : Nat)) ∧ bif decide ((0 : Int) < m) then bif decide (Int.gcd a m = (1 : Nat)) then k ≤ (1000000 : Nat) ∧ ∃ i, PwCI a e m k i ∧ ((0 : Nat) = (0 : Nat) ∧ (0 : Nat) = (0 : Nat) ∧ (0 : Nat) = (0 : Nat) ∧ (0 : Nat) = (0 : Nat) ∧ True) ∧ (minv a m = PwC.a i ∧ (l ≤ max n l ∨ Int.natAbs (minv a m) < (2 : Nat) ^ max n l)) ∧ (-e = PwC.e i ∧ (k ≤ k ∨ Int.natAbs (-e) < (2 : Nat) ^ k)) ∧ (m = m ∧ (l ≤ l ∨ Int.natAbs m < (2 : Nat) ^ l)) ∧ ((0 : Int) = (0 : Int) ∧ ((0 : Nat) ≤ (0 : Nat) ∨ Int.natAbs (0 : Int) < (2 : Nat) ^ (0 : Nat))) ∧ True else bif decide ((0 : Int) < m) then bif decide (e < (0 : Int)) && !decide (Int.gcd a m = (1 : Nat)) then ((0 : Int) = (0 : Int) ∧ ((0 : Nat) ≤ (0 : Nat) ∨ Int.natAbs (0 : Int) < (2 : Nat) ^ (0 : Nat))) ∧ (4 : Int) = (4 : Int) ∧ True else ((0 : Int) = powR a e m ∧ ((0 : Nat) ≤ l ∨ Int.natAbs (0 : Int) < (2 : Nat) ^ l)) ∧ (4 : Int) = (0 : Int) ∧ True else ((0 : Int) = (0 : Int) ∧ ((0 : Nat) ≤ (0 : Nat) ∨ Int.natAbs (0 : Int) < (2 : Nat) ^ (0 : Nat))) ∧ (4 : Int) = (1 : Int) ∧ True else bif decide ((0 : Int) < m) then bif decide (e < (0 : Int)) && !decide (Int.gcd a m = (1 : Nat)) then ((0 : Int) = (0 : Int) ∧ ((0 : Nat) ≤ (0 : Nat) ∨ Int.natAbs (0 : Int) < (2 : Nat) ^ (0 : Nat))) ∧ (1 : Int) = (4 : Int) ∧ True else ((0 : Int) = powR a e m ∧ ((0 : Nat) ≤ l ∨ Int.natAbs (0 : Int) < (2 : Nat) ^ l)) ∧ (1 : Int) = (0 : Int) ∧ True else ((0 : Int) = (0 : Int) ∧ ((0 : Nat) ≤ (0 : Nat) ∨ Int.natAbs (0 : Int) < (2 : Nat) ^ (0 : Nat))) ∧ (1 : Int) = (1 : Int) ∧ True else ∃ i, PwCI a e m k i ∧ ((0 : Nat) = (0 : Nat) ∧ (0 : Nat) = (0 : Nat) ∧ (0 : Nat) = (0 : Nat) ∧ (0 : Nat) = (0 : Nat) ∧ True) ∧ (a = PwC.a i ∧ (n ≤ max n l ∨ Int.natAbs a < (2 : Nat) ^ max n l)) ∧ (e = PwC.e i ∧ (k ≤ k ∨ Int.natAbs e < (2 : Nat) ^ k)) ∧ (m = m ∧ (l ≤ l ∨ Int.natAbs m < (2 : Nat) ^ l)) ∧ ((0 : Int) = (0 : Int) ∧ ((0 : Nat) ≤ (0 : Nat) ∨ Int.natAbs (0 : Int) < (2 : Nat) ^ (0 : Nat))) ∧ True) ∧ ∀ (i : PwC), PwCI a e m k i → ((-9223372036854775808 : Int) ≤ (1 : Int) ∧ (1 : Int) ≤ (9223372036854775807 : Int)) ∧ ((64 : Nat) ≤ (900000 : Nat) ∧ l ≤ (900000 : Nat) ∧ (m = (0 : Int) → False)) ∧ (max n l ≤ (900000 : Nat) ∧ l ≤ (900000 : Nat) ∧ (m = (0 : Int) → False)) ∧ k ≤ (1000000 : Nat) ∧ (∃ i_1, PwI (PwC.a i) (Int.natAbs (PwC.e i)) m i_1 ∧ ((0 : Nat) = (0 : Nat) ∧ (0 : Nat) = (0 : Nat) ∧ (0 : Nat) = (0 : Nat) ∧ ((0 : Nat) = (0 : Nat) ∧ True) ∧ (0 : Nat) = (0 : Nat) ∧ (0 : Nat) = (0 : Nat) ∧ (↑(bl (Int.natAbs (PwC.e i))) : Int) = (↑(bl (Int.natAbs (PwC.e i))) : Int) ∧ (0 : Int) = (↑(PwS.i i_1) : Int) ∧ True) ∧ (PwC.a i = PwC.a i ∧ (max n l ≤ max n l ∨ Int.natAbs (PwC.a i) < (2 : Nat) ^ max n l)) ∧ (PwC.e i = PwC.e i ∧ (k ≤ k ∨ Int.natAbs (PwC.e i) < (2 : Nat) ^ k)) ∧ (m = m ∧ (l ≤ l ∨ Int.natAbs m < (2 : Nat) ^ l)) ∧ ((0 : Int) = (0 : Int) ∧ ((0 : Nat) ≤ (0 : Nat) ∨ Int.natAbs (0 : Int) < (2 : Nat) ^ (0 : Nat))) ∧ ((1 : Int) % m = PwS.x i_1 ∧ (l ≤ l ∨ Int.natAbs ((1 : Int) % m) < (2 : Nat) ^ l)) ∧ (PwC.a i % m = PwS.y i_1 ∧ (l ≤ l ∨ Int.natAbs (PwC.a i % m) < (2 : Nat) ^ l)) ∧ True) ∧ ∀ (i_1 : PwS), PwI (PwC.a i) (Int.natAbs (PwC.e i)) m i_1 → bif decide ((↑(PwS.i i_1) : Int) < (↑(bl (Int.natAbs (PwC.e i))) : Int)) then ((32 : Int) = (0 : Int) → False) ∧ ((0 : Int) ≤ IntKind.wrap IntKind.i64 (Int.tdiv (↑(PwS.i i_1) : Int) (32 : Int)) ∧ IntKind.wrap IntKind.i64 (Int.tdiv (↑(PwS.i i_1) : Int) (32 : Int)) < (↑(List.length (limbs (Int.natAbs (PwC.e i)))) : Int)) ∧ ((32 : Int) = (0 : Int) → False) ∧ (0 : Int) ≤ Int.tmod (↑(PwS.i i_1) : Int) (32 : Int) ∧ bif IntKind.wrap IntKind.u32 (↑(BitVec.toNat (BitVec.ofInt (IntKind.bits IntKind.u32) (Int.fdiv (List.getD (limbs (Int.natAbs (PwC.e i))) (Int.toNat (IntKind.wrap IntKind.i64 (Int.tdiv (↑(PwS.i i_1) : Int) (32 : Int)))) (0 : Int)) ((2 : Int) ^ min (Int.toNat (Int.tmod (↑(PwS.i i_1) : Int) (32 : Int))) (IntKind.bits IntKind.u32))) &&& BitVec.ofInt (IntKind.bits IntKind.u32) (1 : Int))) : Int) == (1 : Int) then (l ≤ (200000 : Nat) ∧ l ≤ (200000 : Nat) ∧ l ≤ (200000 : Nat) ∧ (0 : Int) < m) ∧ (l ≤ (200000 : Nat) ∧ l ≤ (200000 : Nat) ∧ l ≤ (200000 : Nat) ∧ (0 : Int) < m) ∧ ∃ j, PwI (PwC.a i) (Int.natAbs (PwC.e i)) m j ∧ (((0 : Nat) = (0 : Nat) ∧ (0 : Nat) = (0 : Nat) ∧ (0 : Nat) = (0 : Nat) ∧ ((0 : Nat) = (0 : Nat) ∧ True) ∧ (0 : Nat) = (0 : Nat) ∧ (0 : Nat) = (0 : Nat) ∧ (↑(bl (Int.natAbs (PwC.e i))) : Int) = (↑(bl (Int.natAbs (PwC.e i))) : Int) ∧ IntKind.wrap IntKind.i64 ((↑(PwS.i i_1) : Int) + (1 : Int)) = (↑(PwS.i j) : Int) ∧ True) ∧ (PwC.a i = PwC.a i ∧ (max n l ≤ max n l ∨ Int.natAbs (PwC.a i) < (2 : Nat) ^ max n l)) ∧ (PwC.e i = PwC.e i ∧ (k ≤ k ∨ Int.natAbs (PwC.e i) < (2 : Nat) ^ k)) ∧ (m = m ∧ (l ≤ l ∨ Int.natAbs m < (2 : Nat) ^ l)) ∧ ((0 : Int) = (0 : Int) ∧ ((0 : Nat) ≤ (0 : Nat) ∨ Int.natAbs (0 : Int) < (2 : Nat) ^ (0 : Nat))) ∧ (PwS.x i_1 * PwS.y i_1 % m = PwS.x j ∧ (l ≤ l ∨ Int.natAbs (PwS.x i_1 * PwS.y i_1 % m) < (2 : Nat) ^ l)) ∧ (PwS.y i_1 * PwS.y i_1 % m = PwS.y j ∧ (l ≤ l ∨ Int.natAbs (PwS.y i_1 * PwS.y i_1 % m) < (2 : Nat) ^ l)) ∧ True) ∧ bl (Int.natAbs (PwC.e i)) - PwS.i j < bl (Int.natAbs (PwC.e i)) - PwS.i i_1 else (l ≤ (200000 : Nat) ∧ l ≤ (200000 : Nat) ∧ l ≤ (200000 : Nat) ∧ (0 : Int) < m) ∧ ∃ j, PwI (PwC.a i) (Int.natAbs (PwC.e i)) m j ∧ (((0 : Nat) = (0 : Nat) ∧ (0 : Nat) = (0 : Nat) ∧ (0 : Nat) = (0 : Nat) ∧ ((0 : Nat) = (0 : Nat) ∧ True) ∧ (0 : Nat) = (0 : Nat) ∧ (0 : Nat) = (0 : Nat) ∧ (↑(bl (Int.natAbs (PwC.e i))) : Int) = (↑(bl (Int.natAbs (PwC.e i))) : Int) ∧ IntKind.wrap IntKind.i64 ((↑(PwS.i i_1) : Int) + (1 : Int)) = (↑(PwS.i j) : Int) ∧ True) ∧ (PwC.a i = PwC.a i ∧ (max n l ≤ max n l ∨ Int.natAbs (PwC.a i) < (2 : Nat) ^ max n l)) ∧ (PwC.e i = PwC.e i ∧ (k ≤ k ∨ Int.natAbs (PwC.e i) < (2 : Nat) ^ k)) ∧ (m = m ∧ (l ≤ l ∨ Int.natAbs m < (2 : Nat) ^ l)) ∧ ((0 : Int) = (0 : Int) ∧ ((0 : Nat) ≤ (0 : Nat) ∨ Int.natAbs (0 : Int) < (2 : Nat) ^ (0 : Nat))) ∧ (PwS.x i_1 = PwS.x j ∧ (l ≤ l ∨ Int.natAbs (PwS.x i_1) < (2 : Nat) ^ l)) ∧ (PwS.y i_1 * PwS.y i_1 % m = PwS.y j ∧ (l ≤ l ∨ Int.natAbs (PwS.y i_1 * PwS.y i_1 % m) < (2 : Nat) ^ l)) ∧ True) ∧ bl (Int.natAbs (PwC.e i)) - PwS.i j < bl (Int.natAbs (PwC.e i)) - PwS.i i_1 else bif decide ((0 : Int) < m) then bif decide (e < (0 : Int)) && !decide (Int.gcd a m = (1 : Nat)) then (PwS.x i_1 = (0 : Int) ∧ (l ≤ (0 : Nat) ∨ Int.natAbs (PwS.x i_1) < (2 : Nat) ^ (0 : Nat))) ∧ (0 : Int) = (4 : Int) ∧ True else (PwS.x i_1 = powR a e m ∧ (l ≤ l ∨ Int.natAbs (PwS.x i_1) < (2 : Nat) ^ l)) ∧ (0 : Int) = (0 : Int) ∧ True else (PwS.x i_1 = (0 : Int) ∧ (l ≤ (0 : Nat) ∨ Int.natAbs (PwS.x i_1) < (2 : Nat) ^ (0 : Nat))) ∧ (0 : Int) = (1 : Int) ∧ True) = evFn (envC [c_sign, c_mInvG, c_neg, c_mpow1, c_mof, c_mmod, c_bits] (a_mpow m (max n l) k l) (k_mpow a e m (max n l) k l)) Tryd.f41 [.big a n, .big e k, .big m l] (MRes.sat (.br (decide (0 < m)) (.br (decide (e < 0) && !decide (Int.gcd a m = 1)) (.ret (.tup [.big 0 0, .int .i64 4])) (.ret (.tup [.big (powR a e m) l, .int .i64 0]))) (.ret (.tup [.big 0 0, .int .i64 1])))) := by kernel_rfl

theorem pwm_zero (a m : Int) : pwm a 0 m = 1 % m := by unfold pwm; rw [Int.pow_zero]
theorem pwm_one (a m : Int) : pwm a 1 m = a % m := by unfold pwm; rw [Int.pow_succ, Int.pow_zero, Int.one_mul]
theorem pwm_mul (a m : Int) (i j : Nat) : pwm a i m * pwm a j m % m = pwm a (i + j) m := by
  unfold pwm
  rw [← Int.mul_emod, Int.pow_add]
theorem PwI.init (a : Int) (e : Nat) (m : Int) : PwI a e m ⟨0, 1 % m, a % m⟩ :=
  ⟨Nat.zero_le _, by show 1 % m = pwm a (e % 2 ^ 0) m; rw [Nat.pow_zero, Nat.mod_one, pwm_zero], by show a % m = pwm a (2 ^ 0) m; rw [Nat.pow_zero, pwm_one]⟩
theorem PwI.step {a : Int} {e : Nat} {m : Int} {i : Nat} {x y : Int} (h : PwI a e m ⟨i, x, y⟩) (hi : i < bl e) :
    (decide (e / 2 ^ i % 2 = 1) = true → PwI a e m ⟨i + 1, x * y % m, y * y % m⟩) ∧ (decide (e / 2 ^ i % 2 = 1) = false → PwI a e m ⟨i + 1, x, y * y % m⟩) := by
  have hx : x = pwm a (e % 2 ^ i) m := h.x
  have hy : y = pwm a (2 ^ i) m := h.y
  have hyy : y * y % m = pwm a (2 ^ (i + 1)) m := by rw [hy, pwm_mul, Nat.pow_succ, Nat.mul_two]
  have hs : e % 2 ^ (i + 1) = e % 2 ^ i + 2 ^ i * (e / 2 ^ i % 2) := Nat.mod_pow_succ
  refine ⟨fun hb => ⟨hi, ?_, hyy⟩, fun hb => ⟨hi, ?_, hyy⟩⟩
  · have hb := of_decide_eq_true hb
    show x * y % m = pwm a (e % 2 ^ (i + 1)) m
    rw [hs, hb, Nat.mul_one, ← pwm_mul, hx, hy]
  · have hb := of_decide_eq_false hb
    show x = pwm a (e % 2 ^ (i + 1)) m
    rw [hs, show e / 2 ^ i % 2 = 0 by omega, Nat.mul_zero, Nat.add_zero, hx]
theorem PwI.fin {a : Int} {e : Nat} {m : Int} {i : Nat} {x y : Int} (h : PwI a e m ⟨i, x, y⟩) (hi : ¬ i < bl e) : x = pwm a e m := by
  have h1 : i ≤ bl e := h.i
  have hx : x = pwm a (e % 2 ^ i) m := h.x
  have : i = bl e := by omega
  rw [hx, this, Nat.mod_eq_of_lt (bl_lt e)]

theorem p_mpow : GoodF Tryd.f41 s_mpow := by
  intro ms p r h hp hf
  unfold s_mpow at h
  split at h
  · rename_i a n e k m l
    simp only [Option.some.injEq, Prod.mk.injEq] at h
    obtain ⟨rfl, rfl⟩ := h
    obtain ⟨hn, hk, hl⟩ : n ≤ 100000 ∧ k ≤ 100000 ∧ l ≤ 100000 := hp
    have he : e.natAbs < 2 ^ k := hf.2.1
    refine ⟨envC [c_sign, c_mInvG, c_neg, c_mpow1, c_mof, c_mmod, c_bits] (a_mpow m (max n l) k l) (k_mpow a e m (max n l) k l), ?_⟩
    rw [← vc_mpow a e m n k l, sgn_lt1]
    by_cases hm : 0 < m
    · rw [decide_eq_true hm, Bool.not_true, cond_false]
      refine ⟨?_, ?_⟩
      · by_cases he0 : e < 0
        · rw [decide_eq_true he0, cond_true, cond_true]
          refine ⟨⟨by omega, by omega⟩, ?_⟩
          by_cases hg : Int.gcd a m = 1
          · rw [decide_eq_true hg, cond_true]
            refine ⟨by omega, ⟨minv a m, -e⟩, ⟨by show 0 ≤ -e; omega, by show (-e).natAbs < _; omega, hm, fun _ => hg, ?_⟩, ?_⟩
            · show pwm (minv a m) (-e).natAbs m = powR a e m
              unfold powR
              rw [if_pos he0, Int.natAbs_neg]
            · and_intros <;> first | exact True.intro | rfl | exact .inl (Nat.le_refl _) | exact .inl (Nat.le_max_right _ _)
          · rw [decide_eq_false hg]
            exact ⟨⟨rfl, .inl (Nat.le_refl _)⟩, rfl, True.intro⟩
        · rw [decide_eq_false he0, cond_false]
          refine ⟨⟨a, e⟩, ⟨by show 0 ≤ e; omega, he, hm, fun h => absurd h he0, ?_⟩, ?_⟩
          · show pwm a e.natAbs m = powR a e m
            unfold powR
            rw [if_neg he0]
          · and_intros <;> first | exact True.intro | rfl | exact .inl (Nat.le_refl _) | exact .inl (Nat.le_max_left _ _)
      · rintro ⟨A, E⟩ hI
        have hE0 : 0 ≤ E := hI.e0
        have hEk : E.natAbs < 2 ^ k := hI.ek
        have hg := hI.g
        have hv : pwm A E.natAbs m = powR a e m := hI.v
        have hbr : (decide (e < 0) && !decide (Int.gcd a m = 1)) = false := by
          by_cases he0 : e < 0
          · rw [decide_eq_true (hg he0)]; simp
          · rw [decide_eq_false he0]; rfl
        clear hI hg
        dsimp only
        generalize hN : E.natAbs = N at *
        have hbl : bl N ≤ k := bl_le_of hEk
        refine ⟨by omega, ⟨by omega, by omega, by omega⟩, ⟨by omega, by omega, by omega⟩, by omega, ⟨⟨0, 1 % m, A % m⟩, PwI.init A N m, ?_⟩, ?_⟩
        · and_intros <;> first | exact True.intro | rfl | exact .inl (Nat.le_refl _) | exact .inl (Nat.le_max_left _ _)
        rintro ⟨i, x, y⟩ hP
        dsimp only
        rw [Bool.cond_decide]
        split
        · rename_i hc
          have hc : i < bl N := by omega
          have e2 : Int.tdiv (i : Int) 32 = ((i / 32 : Nat) : Int) := rfl
          have e3 : Int.tmod (i : Int) 32 = ((i % 32 : Nat) : Int) := rfl
          have e4 : IntKind.wrap IntKind.i64 ((i / 32 : Nat) : Int) = ((i / 32 : Nat) : Int) := i64w (by omega) (by omega)
          have e5 : IntKind.wrap IntKind.i64 ((i : Int) + 1) = ((i + 1 : Nat) : Int) := by rw [i64w (by omega) (by omega)]; omega
          have hidx := limbs_idx hc
          rw [e2, e3, e4, e5, Int.toNat_natCast, Int.toNat_natCast, bit_word]
          refine ⟨by omega, ⟨by omega, by omega⟩, by omega, by omega, ?_⟩
          obtain ⟨st1, st2⟩ := hP.step hc
          cases hb : decide (N / 2 ^ i % 2 = 1) with
          | true =>
            rw [cond_true]
            refine ⟨⟨by omega, by omega, by omega, hm⟩, ⟨by omega, by omega, by omega, hm⟩, ⟨i + 1, x * y % m, y * y % m⟩, st1 hb, ?_, by show bl N - (i + 1) < bl N - i; omega⟩
            and_intros <;> first | exact True.intro | rfl | exact .inl (Nat.le_refl _)
          | false =>
            rw [cond_false]
            refine ⟨⟨by omega, by omega, by omega, hm⟩, ⟨i + 1, x, y * y % m⟩, st2 hb, ?_, by show bl N - (i + 1) < bl N - i; omega⟩
            and_intros <;> first | exact True.intro | rfl | exact .inl (Nat.le_refl _)
        · rename_i hc
          have := hP.fin (by omega)
          rw [cond_true, hbr, cond_false, this, hv]
          exact ⟨⟨rfl, .inl (Nat.le_refl _)⟩, rfl, True.intro⟩
    · rw [decide_eq_false hm]
      exact ⟨⟨rfl, .inl (Nat.le_refl _)⟩, rfl, True.intro⟩
  · simp at h
noncomputable def c_mpow : Ctr Tryd.prog := ⟨41, s_mpow, fun args w => Tryd.call41 args w, fn_ok_facts mix Tryd.func41 s_mpow p_mpow⟩

end Go.Proofs.YtcikhffhikgahaaDoor

/-
  A range over a function: the library's slices.Backward; integer.Low.
-/
namespace Go.Proofs.YtcikhffhikgahaaDoor
open Go Go.RowKit Go.Shelf

attribute [local go_sem] Oper.semAt_some

/-- What has come when k rounds are over. -/
def upto {α : Type} (f : Nat → α) (k : Nat) : List α := (List.range k).map f
theorem upto_succ {α : Type} (f : Nat → α) (k : Nat) : upto f (k + 1) = upto f k ++ [f k] := by simp [upto, List.range_succ]
theorem upto_length {α : Type} (f : Nat → α) (k : Nat) : (upto f k).length = k := by simp [upto]

/-- Whatever lay below N lies as it lay, but for block B. -/
structure But (N B : Nat) (w w' : World) : Prop where
  os : w'.os = w.os
  output : w'.output = w.output
  size : w.heap.size ≤ w'.heap.size
  block : ∀ k, k < N → k ≠ B → w'.heap[k]? = w.heap[k]?
theorem But.refl (N B : Nat) (w : World) : But N B w w := ⟨rfl, rfl, Nat.le_refl _, fun _ _ _ => rfl⟩
theorem But.trans {N B : Nat} {a b c : World} (h : But N B a b) (k : But N B b c) : But N B a c :=
  ⟨k.os.trans h.os, k.output.trans h.output, Nat.le_trans h.size k.size, fun i hi hb => (k.block i hi hb).trans (h.block i hi hb)⟩
theorem But.cell {N B : Nat} {w w' : World} (h : But N B w w') {p : Addr} (hp : p.block < N) (hb : p.block ≠ B) : w'.cell? p = w.cell? p := by
  unfold World.cell?
  rw [h.block _ hp hb]

def ivOf : Value → Int | .int _ q => q | _ => 0

/-- The k-th round. -/
def backF (l : List Int) (k : Nat) : Int × Int := ((l.length : Int) - 1 - k, l[l.length - 1 - k]?.getD 0)

set_option maxRecDepth 100000 in
set_option maxHeartbeats 2000000 in
theorem back1_in (F : Fence) (n : Nat) (h94 : F.fn 94) (hro : F.round = none) (hn : 1 ≤ n) (lp Bs N B b off cap : Nat) (l : List Int) (hreach : l.length ≤ 1000000000) (hb : b < N) (hbB : b ≠ B) (hBs : Bs < N) (hBsB : Bs ≠ B) (J Jx : List (Int × Int) → World → Prop)
    (hY : ∀ pre x W, J pre W → pre.length < l.length → YieldAt F (n - 1) Tryd.prog lp #[.int .i64 x.1, .int .u32 x.2] W fun e W' =>
      (e = .returned (.bool true) ∧ J (pre ++ [x]) W' ∧ But N B W W') ∨ (e = .returned (.bool false) ∧ Jx (pre ++ [x]) W'))
    (W : World) (hc0 : W.cell? ⟨Bs, 0, none⟩ = some (.slice (some ⟨b, off, none⟩) l.length cap)) (hc : ∀ j, j < l.length → W.cell? ⟨b, off + j, none⟩ = some (.int .u32 (l[j]?.getD 0))) (h0 : J [] W) :
    CallsIn F n Tryd.prog 94 #[.func (.yield lp) #[] #[], .pointer (some ⟨Bs, 0, none⟩)] W fun e W' => (∃ v, e = .returned v) ∧
      ((∃ ys, ys = upto (backF l) l.length ∧ J ys W') ∨ (∃ pre, (∃ k, k ≤ l.length ∧ pre = upto (backF l) k) ∧ Jx pre W')) := by
  refine callsIn_of_wp Tryd.func94 rfl h94 ?_ hro
  simp only [Tryd.ntmps94, List.size_toArray, List.length_cons, List.length_nil, Nat.reduceAdd, Nat.reduceSub, Array.replicate_succ, Array.replicate_zero, List.push_toArray, List.append_toArray, List.nil_append, List.cons_append]
  gi_wp2
  gi_loopw [3] (fun i wr => ∃ k : Nat, k ≤ l.length ∧ i = .int .i64 ((l.length : Int) - 1 - k) ∧ J (upto (backF l) k) wr ∧ But N B W wr)
    (fun i _ => ((ivOf i) + 1).toNat)
  case atStart =>
    exact ⟨0, Nat.zero_le _, by simp, h0, But.refl _ _ _⟩
  case round =>
    obtain ⟨k, hk, rfl, hJs, hnx⟩ := hrel
    have hs0 := (hnx.cell (p := ⟨Bs, 0, none⟩) hBs hBsB).trans hc0
    by_cases hlt : k < l.length
    · obtain ⟨fn, tmps, assign, body, hy, hR⟩ := hY _ (backF l k) wr hJs (by rw [upto_length]; exact hlt)
      have hcx' := (hnx.cell (p := ⟨b, off + (l.length - 1 - k), none⟩) hb hbB).trans (hc (l.length - 1 - k) (by omega))
      dsimp only [backF] at hy
      gi_wp2
      refine hR.mono ?_
      rintro e W3 (⟨rfl, hJ3, hk3⟩ | ⟨rfl, hJx3⟩)
      · gi_wp2
        go_roundw
        case rel => exact ⟨k + 1, by omega, by simp; omega, by rw [upto_succ]; exact hJ3, hnx.trans hk3⟩
        case measure => simp [ivOf]; omega
      · gi_wp2
        refine bodyPost_ret (results_none rfl _ _ _) rfl ?_
        exact ⟨⟨_, rfl⟩, .inr ⟨_, ⟨k + 1, by omega, (upto_succ _ _).symm⟩, hJx3⟩⟩
    · obtain rfl : k = l.length := by omega
      gi_wp2
      go_end0
      exact ⟨⟨_, rfl⟩, .inl ⟨_, rfl, hJs⟩⟩

set_option maxRecDepth 100000 in
set_option maxHeartbeats 2000000 in
theorem back1_nil_in (F : Fence) (n : Nat) (h94 : F.fn 94) (hro : F.round = none) (lp Bs cap : Nat) (p : Option Addr) (J : List (Int × Int) → World → Prop) (W : World) (hc0 : W.cell? ⟨Bs, 0, none⟩ = some (.slice p 0 cap)) (h0 : J [] W) :
    CallsIn F n Tryd.prog 94 #[.func (.yield lp) #[] #[], .pointer (some ⟨Bs, 0, none⟩)] W fun e W' => (∃ v, e = .returned v) ∧ J [] W' := by
  refine callsIn_of_wp Tryd.func94 rfl h94 ?_ hro
  simp only [Tryd.ntmps94, List.size_toArray, List.length_cons, List.length_nil, Nat.reduceAdd, Nat.reduceSub, Array.replicate_succ, Array.replicate_zero, List.push_toArray, List.append_toArray, List.nil_append, List.cons_append]
  gi_wp2
  gi_loopw [3] (fun i wr => i = .int .i64 (-1) ∧ J [] wr) (fun _ _ => 0)
  case atStart => exact ⟨by simp, h0⟩
  case round =>
    obtain ⟨rfl, hJs⟩ := hrel
    gi_wp2
    go_end0
    exact ⟨⟨_, rfl⟩, hJs⟩

/-- What a pointer to words is. -/
theorem back_stops (F : Fence) (n : Nat) (h94 : F.fn 94) (hro : F.round = none) (hn : 1 ≤ n) (N B Bs cap : Nat) (a : Option Addr) (l : List Int) (hreach : l.length ≤ 1000000000) (hBs : Bs < N) (hBsB : Bs ≠ B) (w : World) (hN : w.heap.size = N)
    (hc0 : w.cell? ⟨Bs, 0, none⟩ = some (.slice a l.length cap)) (hs : 0 < l.length → ∃ b off, a = some ⟨b, off, none⟩ ∧ b ≠ B ∧ seg w b off (l.map (Value.int .u32))) :
    SeqStopsK F n Tryd.prog 94 #[.pointer (some ⟨Bs, 0, none⟩)] (fun x : Int × Int => #[Value.int .i64 x.1, Value.int .u32 x.2]) (But N B) (fun ys => ys = upto (backF l) l.length)
      (fun pre => ∃ k, k ≤ l.length ∧ pre = upto (backF l) k) l.length w := fun lp J Jx W hW _ _ hY h0 => by
  subst hN
  have hc' := (hW.cell (p := ⟨Bs, 0, none⟩) hBs).trans hc0
  by_cases hl : 0 < l.length
  · obtain ⟨b, off, rfl, hbB, hseg⟩ := hs hl
    have hcs := seg_cell hseg
    obtain ⟨arr, ty, fr, hh, _⟩ := hseg
    have hb : b < w.heap.size := (Array.getElem?_eq_some_iff.1 hh).1
    exact back1_in F n h94 hro hn lp Bs _ B b off cap l hreach hb hbB hBs hBsB J Jx hY W hc' (fun j hj => (hW.cell (p := ⟨b, off + j, none⟩) hb).trans (by
      have := hcs j (.int .u32 (l[j]?.getD 0)) (by simp [hj])
      exact this)) h0
  · have : l = [] := List.eq_nil_of_length_eq_zero (by omega)
    subst this
    exact (back1_nil_in F n h94 hro lp Bs cap a J W hc' h0).mono fun e W' ⟨he, hj⟩ => ⟨he, .inl ⟨_, rfl, hj⟩⟩

/-! ### Walks in a round -/
theorem rows_wide {P : Program} {l m : Nat} {row : String} {args : Array Value} {w : World} {R : Value → World → Prop} (h : Rows P row args w R) : RowsIn (Fence.wide.inRound l) m P row args w R :=
  fun c cs _ => let ⟨v, w', r, s⟩ := h c cs; ⟨v, w', r, stepsIn_wide.2 s⟩

theorem wpListIn_wide {P : Program} {ops : Array Oper} {Q : Exit → Act → World → Prop} (hQ : ¬ LetsOut Q) (lp m : Nat) : ∀ (l : List Oper) (a : Act) (w : World), (∀ o ∈ l, ∀ c, o.op ≠ .defer c) → wpList P ops Q l a w → wpListIn (Fence.wide.inRound lp) m P ops Q l a w
  | [], a, w, _, h => h
  | o :: r, a, w, hd, h => by
    have ih := wpListIn_wide (P := P) (ops := ops) hQ lp m r
    have hd' : ∀ o ∈ r, ∀ c, o.op ≠ .defer c := fun o ho => hd o (List.mem_cons_of_mem _ ho)
    unfold wpList at h
    unfold wpListIn
    split at h
    · rename_i hw
      rw [if_pos hw]
      rcases h with h | ⟨_, h⟩
      · refine ⟨fun _ _ => trivial, ?_⟩
        rw [show (Fence.wide.inRound lp).round = some lp from rfl, Oper.semAt_some lp _ _ (hd o (List.mem_cons_self ..))]
        unfold Oper.wp at h
        generalize (execOp a.eval o).run P w = res at h ⊢
        cases res with
        | ok nx w' =>
          cases nx with
          | value v => exact ih _ _ hd' h
          | skip => exact ih _ _ hd' h
          | defer d => exact ih _ _ hd' h
          | enter f args =>
            refine ⟨fun h => by simp [Fence.inRound, Fence.wide] at h, CallsIn.inRound lp (callsIn_wide.2 (Calls.mono h ?_))⟩
            intro e w'' he
            cases e with
            | returned v => exact ih _ _ hd' he
            | panicked c => exact he
            | outgrown => exact he
          | row rw args =>
            refine ⟨fun h => by simp [Fence.inRound, Fence.wide] at h, fun c cs _ => ?_⟩
            obtain ⟨v, w'', r', s⟩ := h c cs
            exact ⟨v, w'', ih _ _ hd' r', stepsIn_wide.2 s⟩
          | round l f t x y => exact h.elim
          | _ => exact h.elim
        | halt hh w' =>
          cases hh <;> exact h
      · exact absurd h hQ
    · rename_i hw
      rw [if_neg hw]
      exact ⟨fun _ _ => trivial, ih _ _ hd' h⟩

/-- The state of a call in a world in which one of its blocks, B, has turned, with other blocks let go. -/
theorem St.reloc {S0 : Nat → Prop} {w0 : Base} {s : MS} {ct : Ctx} {a : Act} {w1 W : World} {B : Nat} (h : St S0 w0 s ct a w1) (hB : ct.W B) (hW : But w1.heap.size B w1 W)
    (s' : MS) (live' : Nat → Prop) (hl : ∀ i, live' i → ct.live i ∧ i < s'.bx.length) (a' : Act) (hn : a'.tmps.size = s'.n)
    (hbox : ∀ i b, live' i → nth s'.bx i = some b → BoxRep (ctxOf S0 s'.bx live' ct.β ct.sz) W i b) (htm : ∀ t, Rep (ctxOf S0 s'.bx live' ct.β ct.sz) W (look t s'.tm) (a'.tmps.getD t undef)) :
    St S0 ⟨W, fun b => ∃ i, live' i ∧ ct.β i = b, fun i b z => i < s'.np ∧ live' i ∧ ct.β i = b ∧ ct.sz i = z, a'.defers⟩ s' (ctxOf S0 s'.bx live' ct.β ct.sz) a' W := by
  have hM := h.mem
  refine ⟨⟨⟨rfl, rfl, Nat.le_refl _, fun _ _ _ => rfl, fun _ _ => rfl⟩, fun b hb => ⟨Nat.lt_of_lt_of_le (Nat.lt_of_lt_of_le (hM.S0lt b hb).1 hM.ext.size) hW.size, ?_⟩, ⟨fun hg => ?_, fun hg => ?_⟩, fun b => Iff.rfl, fun b => Iff.rfl, fun i j hi hj => hM.inj i j (hl i hi).1 (hl j hj).1,
    fun i hi => ⟨.inr ⟨i, hi, rfl⟩, Nat.lt_of_lt_of_le (hM.fresh i (hl i hi).1).2.1 hW.size, (hl i hi).2⟩, hbox, fun _ _ _ h => h.2⟩, htm, hn, rfl, fun _ _ _ h => h.1⟩
  · rintro ⟨_, hi, rfl⟩
    exact hM.notS0 (hl _ hi).1 hb
  · obtain ⟨g1, g2, arr, ty, fr, g3, g4⟩ := hM.gw hg
    have hne : gId ≠ B := fun e => g1 (hM.WS _ (e ▸ hB))
    exact ⟨fun q => g1 ((hM.hS _).2 (.inl q)), Nat.lt_of_lt_of_le g2 hW.size, arr, ty, fr, (hW.block _ g2 hne).trans g3, g4⟩
  · rintro ⟨i, hi, e⟩
    obtain ⟨g1, g2, _⟩ := hM.gl.1 hg
    rcases (hM.fresh i (hl i hi).1).1 with q | q
    · omega
    · exact hM.gl.2 hg (e ▸ q)

theorem Keeps.reloc {S0 : Nat → Prop} {w0 : Base} {bx : List Box} {ct : Ctx} {w1 W : World} {B : Nat} (hM : Mem S0 w0 bx ct w1) (hB : ct.W B) (hW : But w1.heap.size B w1 W) : Keeps ct ct w1 W :=
  ⟨fun _ _ h => h, fun _ _ h => h, fun _ hi => ⟨hi, rfl, rfl⟩, fun b hb hS => hW.block b hb fun e => hS (hM.WS _ (e ▸ hB)), fun b hb hw => hW.block b hb fun e => hw (e ▸ hB)⟩

/-- Some pieces of code, one after the other. -/
def crest : Nat → Code → Code
  | 0, c => c
  | n + 1, .seq _ b => crest n b
  | _ + 1, c => c
def evPrefix {P : Program} (E : Env P) (Kp : MV → Prop) : Nat → Code → MS → (MS → Prop) → Prop
  | 0, _, s, K => K s
  | n + 1, .seq a b, s, K => evCode E Kp a s (fun e s' => match e with | .normal => evPrefix E Kp n b s' K | _ => False)
  | _ + 1, _, _, _ => False
theorem evPrefix_sound {P : Program} (hmix : P.follows .mixedOrders = true) {E : Env P} {S0 : Nat → Prop} {w0 : Base} : ∀ (n : Nat) (c : Code) (s : MS) (K : MS → Prop) (ct : Ctx) (a : Act) (w : World) (Q : Exit → Act → World → Prop),
    evPrefix E (fun _ => False) n c s K → St S0 w0 s ct a w → (∀ s' c' a' w', K s' → St S0 w0 s' c' a' w' → (crest n c).wp P Q a' w') → c.wp P Q a w
  | 0, c, s, K, ct, a, w, Q, h, hs, hK => hK s ct a w h hs
  | n + 1, c, s, K, ct, a, w, Q, h, hs, hK => by
    cases c
    case seq x y =>
      refine wp_seq (evCode_sound hmix x s _ ct a w _ h hs (fun e s' c' a' w' q1 q2 => ?_) (fun _ _ _ _ hk => hk.elim))
      cases e with
      | normal => exact evPrefix_sound hmix n y s' K c' a' w' Q q1 q2 hK
      | exit id => exact q1.elim
      | ret => exact q1.elim
    all_goals exact h.elim

end Go.Proofs.YtcikhffhikgahaaDoor

/-
  integer.Low: a number of 64 bits.
-/
namespace Go.Proofs.YtcikhffhikgahaaDoor
open Go Go.RowKit Go.Shelf

attribute [local go_sem] Oper.semAt_some

set_option maxHeartbeats 1000000 in
theorem backw_calls (v : Value) (w : World) (hv : ∃ p n c, v = .slice p n c) : Calls Tryd.prog 80 #[v] w fun e w' =>
    e = .returned (.func (.func 94) #[] #[.pointer (some ⟨w.heap.size, 0, none⟩)]) ∧ ∃ ty, w' = w.alloc (.cells #[v] ty) := by
  obtain ⟨p, k, c, rfl⟩ := hv
  refine (callsIn_wide (n := 3)).1 ?_
  refine callsIn_of_wp Tryd.func80 rfl trivial ?_ rfl
  simp only [Tryd.ntmps80, List.size_toArray, List.length_cons, List.length_nil, Nat.reduceAdd, Nat.reduceSub, Array.replicate_succ, Array.replicate_zero, List.push_toArray, List.append_toArray, List.nil_append, List.cons_append]
  gi_wp2
  go_ret
  exact ⟨rfl, _, rfl⟩

def cFst : Code → Code | .seq a _ => a | c => c
def cSnd : Code → Code | .seq _ b => b | c => c
def cIn : Code → Code | .block _ c => c | c => c
def cOps : Code → Array Oper | .region _ ops _ => ops | _ => #[]
def cBody (f : Func) : Code := f.body.getD .skip
noncomputable def lowC : Code := crest 3 (cBody Tryd.f49)
noncomputable def lowEnd : Code := cSnd lowC
def rfAssign : Code → Code | .rangeFunc _ _ a _ => a | c => c
def rfBody : Code → Code | .rangeFunc _ _ _ b => b | c => c
noncomputable def lowAs : Code := rfAssign (cIn (cSnd (cFst lowC)))
noncomputable def lowOps : List Oper := (cOps (cIn (rfBody (cIn (cSnd (cFst lowC)))))).toList

def lowT (z : Int) (n : Nat) : MS := ⟨38, [(1, .bp 0 0), (4, .bp 1 0)], [⟨false, .one (.big z n)⟩, ⟨false, .one (.int .u64 0)⟩], 0⟩
theorem vc_low1 (z : Int) (n : Nat) : (bif decide ((↑(List.length (limbs (Int.natAbs z))) : Int) > (2 : Int)) then False else ((0 : Nat) = (0 : Nat) ∧ (0 : Nat) = (0 : Nat) ∧ True) ∧ (z = z ∧ (n ≤ n ∨ Int.natAbs z < (2 : Nat) ^ n)) ∧ (0 : Int) = (0 : Int) ∧ True) = evPrefix (env [] noAnn) (fun _ => False) 3 (cBody Tryd.f49) ⟨38, numbered 0 [.big z n], [], 0⟩ (fun s => leMS s (lowT z n)) := by kernel_rfl
/-- One word more. -/
def vst (v x : Int) : Int := IntKind.u64.wrap (BitVec.ofInt IntKind.u64.bits (IntKind.u64.wrap (v * 2 ^ min (Int.toNat 32) IntKind.u64.bits)) ||| BitVec.ofInt IntKind.u64.bits (IntKind.u64.wrap x)).toNat
def lowB (v : Int) (l : List (Nat × MV)) : MS := ⟨38, l, [⟨false, .one (.big 0 0)⟩, ⟨false, .one (.int .u64 v)⟩], 2⟩
theorem vc_low2 (v x : Int) : ((0 : Int) ≤ (32 : Int) ∧ True ∧ ((0 : Int) = (0 : Int) ∧ ((0 : Nat) ≤ (0 : Nat) ∨ Int.natAbs (0 : Int) < (2 : Nat) ^ (0 : Nat))) ∧ IntKind.wrap IntKind.u64 (↑(BitVec.toNat (BitVec.ofInt (IntKind.bits IntKind.u64) (IntKind.wrap IntKind.u64 (v * (2 : Int) ^ min (Int.toNat (32 : Int)) (IntKind.bits IntKind.u64))) ||| BitVec.ofInt (IntKind.bits IntKind.u64) (IntKind.wrap IntKind.u64 x))) : Int) = vst v x ∧ True) = evSeq (env [] noAnn) lowOps (fun _ => False) lowOps (lowB v [(4, .bp 1 0), (6, .int .u32 x)]) (fun s' => leMS s' (lowB (vst v x) [])) := by kernel_rfl
def lowE (z V : Int) (n : Nat) : MS := ⟨38, [(1, .bp 0 0), (4, .bp 1 0)], [⟨false, .one (.big z n)⟩, ⟨false, .one (.int .u64 V)⟩], 0⟩
def ifRet (K : MS → Prop) : Ex → MS → Prop
  | .ret, s => K s
  | _, _ => False
theorem vc_low3 (z V : Int) (n : Nat) : (bif decide (z < (0 : Int)) then bif IntKind.wrap IntKind.i64 ((0 : Int) - IntKind.wrap IntKind.i64 V) != (0 : Int) then bif !decide (z < (0 : Int)) == decide (IntKind.wrap IntKind.i64 ((0 : Int) - IntKind.wrap IntKind.i64 V) < (0 : Int)) then (0 : Int) = z ∧ false = true else IntKind.wrap IntKind.i64 ((0 : Int) - IntKind.wrap IntKind.i64 V) = z ∧ true = true else IntKind.wrap IntKind.i64 ((0 : Int) - IntKind.wrap IntKind.i64 V) = z ∧ true = true else bif IntKind.wrap IntKind.i64 V != (0 : Int) then bif !decide (z < (0 : Int)) == decide (IntKind.wrap IntKind.i64 V < (0 : Int)) then (0 : Int) = z ∧ false = true else IntKind.wrap IntKind.i64 V = z ∧ true = true else IntKind.wrap IntKind.i64 V = z ∧ true = true) = evCode (env [] noAnn) (fun _ => False) lowEnd (lowE z V n) (ifRet fun s => leV 0 (look 2 s.tm) (.int .i64 z) ∧ leV 0 (look 3 s.tm) (.bool true)) := by kernel_rfl

theorem vst_eq {v x : Int} (hv : 0 ≤ v ∧ v < 4294967296) (hx : 0 ≤ x ∧ x < 4294967296) : vst v x = v * 4294967296 + x := by
  unfold vst
  rw [p32, eu64 (x := v * 4294967296) (by omega), eu64 (x := x) (by omega)]
  exact or64 32 (by omega) (by omega) (by omega) (by omega) (by omega) (by omega)
theorem lowV_eq {l : List Int} (h : Wd l) (hl : l.length ≤ 2) : (upto (backF l) l.length).foldl (fun v x => vst v x.2) 0 = wv l := by
  match l, h, hl with
  | [], _, _ => rfl
  | [x], h, _ =>
    have hx := h.head
    have e : upto (backF [x]) [x].length = [(0, x)] := rfl
    rw [e]
    show vst 0 x = x + 4294967296 * 0
    rw [vst_eq (by omega) hx]; omega
  | [x, y], h, _ =>
    have hx := h.head
    have hy := h.tail.head
    have e : upto (backF [x, y]) [x, y].length = [(1, y), (0, x)] := rfl
    rw [e]
    show vst (vst 0 y) x = x + 4294967296 * (y + 4294967296 * 0)
    rw [vst_eq (v := 0) (by omega) hy, vst_eq (by omega) hx]; omega
  | _ :: _ :: _ :: _, _, hl => simp at hl
def HoldsV (W : World) (B k : Nat) (v : Int) : Prop := ∃ arr ty, W.heap[B]? = some (.cells arr ty (0, 0)) ∧ arr.size = k ∧ arr[0]? = some (.int .u64 v)
theorem HoldsV.box {c : Ctx} {W : World} {i k : Nat} {v : Int} {fz : Bool} (h : HoldsV W (c.β i) k v) (hk : (c.sz i).n = k) (hw : (c.sz i).wd = 0) : BoxRep c W i ⟨fz, .one (.int .u64 v)⟩ := by
  obtain ⟨arr, ty, h1, h2, h3⟩ := h
  refine ⟨arr, ty, h1, by rw [hk, h2], hw, [.int .u64 v], rfl, fun j u hu => ?_⟩
  cases j with
  | zero => simp at hu; subst hu; exact h3
  | succ j => simp at hu
theorem HoldsV.of {c : Ctx} {W : World} {i : Nat} {v : Int} {fz : Bool} (h : BoxRep c W i ⟨fz, .one (.int .u64 v)⟩) : HoldsV W (c.β i) (c.sz i).n v ∧ (c.sz i).wd = 0 := by
  obtain ⟨arr, ty, h1, h2, h3, cs, h4, h5⟩ := h
  have h4 : cs = [.int .u64 v] := h4
  subst h4
  exact ⟨⟨arr, ty, h1, h2, h5 0 _ rfl⟩, h3⟩

noncomputable def lowV (l : List Int) : Int := (upto (backF l) l.length).foldl (fun v x => vst v x.2) 0
theorem fold_two (t : Array Value) (i j : Nat) (u v : Value) : (#[i, j].zip #[u, v]).foldl (fun t (p, v) => t.setIfInBounds p v) t = (t.setIfInBounds i u).setIfInBounds j v := by
  rw [← Array.foldl_toList, Array.toList_zip]
  rfl
def noDef (o : Oper) : Bool := match o.op with | .defer _ => false | _ => true
theorem no_defer {l : List Oper} (h : l.all noDef = true) : ∀ o ∈ l, ∀ c, o.op ≠ .defer c := fun o ho c e => by
  have := List.all_eq_true.1 h o ho
  unfold noDef at this
  rw [e] at this
  simp at this
theorem look_two {c : Ctx} {W : World} {i j : Nat} {m1 m2 : MV} {ts : Array Value} (h1 : Rep c W m1 (ts.getD i undef)) (h2 : Rep c W m2 (ts.getD j undef)) (t : Nat) : Rep c W (look t [(i, m1), (j, m2)]) (ts.getD t undef) := by
  simp only [look]
  cases hi : i.beq t with
  | true =>
    rw [Nat.beq_eq] at hi
    subst hi; exact h1
  | false =>
    rw [cond_false]
    cases hj : j.beq t with
    | true =>
      rw [Nat.beq_eq] at hj
      subst hj; exact h2
    | false => exact trivial
theorem not_lets {Q : Exit → Act → World → Prop} (h : ∀ a w, ¬ Q .outgrown a w) : ¬ LetsOut Q := fun ⟨a, w, q⟩ => h a w q

theorem low3_ok (z : Int) (n : Nat) (hz : z.natAbs < 9223372036854775808) : evCode (env [] noAnn) (fun _ => False) lowEnd (lowE z z.natAbs n) (ifRet fun s => leV 0 (look 2 s.tm) (.int .i64 z) ∧ leV 0 (look 3 s.tm) (.bool true)) := by
  rw [← vc_low3]
  have e1 : IntKind.wrap IntKind.i64 (z.natAbs : Int) = z.natAbs := i64w (by omega) (by omega)
  have e2 : IntKind.wrap IntKind.i64 (0 - (z.natAbs : Int)) = 0 - (z.natAbs : Int) := i64w (by omega) (by omega)
  rw [e1, e2]
  by_cases hz0 : z < 0
  · have e3 : (0 - (z.natAbs : Int) != 0) = true := by simp only [bne_iff_ne]; omega
    have e4 : decide (0 - (z.natAbs : Int) < 0) = true := decide_eq_true (by omega)
    rw [decide_eq_true hz0, cond_true, e3, cond_true, e4]
    exact ⟨by omega, rfl⟩
  · have e4 : decide ((z.natAbs : Int) < 0) = false := decide_eq_false (by omega)
    rw [decide_eq_false hz0, cond_false, e4]
    cases ((z.natAbs : Int) != 0)
    · exact ⟨by omega, rfl⟩
    · exact ⟨by omega, rfl⟩

set_option maxRecDepth 100000 in
set_option maxHeartbeats 2000000 in
theorem low_ok (z : Int) (n : Nat) (hz : z.natAbs < 9223372036854775808) (S : Nat → Prop) (w : World) (args : Array Value) (hS : ∀ b, S b → b < w.heap.size) (hG : GW S w)
    (ha : RepAll (Ctx.args S) w [.big z n] args.toList) : Calls Tryd.prog 49 args w fun e w' => Ext w w' ∧ (MRes.ret (.tup [.int .i64 z, .bool true])).holds (Ctx.res S) w' e := by
  have hst0 := St.start (n := 38) hS hG ha (by simp)
  have hlen : (limbs z.natAbs).length ≤ 2 := limbs_len_le (by omega)
  have he1 : evPrefix (env [] noAnn) (fun _ => False) 3 (cBody Tryd.f49) ⟨38, numbered 0 [.big z n], [], 0⟩ (fun s => leMS s (lowT z n)) := by
    rw [← vc_low1 z n, decide_eq_false (by omega), cond_false]
    and_intros <;> first | exact True.intro | rfl | exact .inl (Nat.le_refl _)
  refine (callsIn_wide (n := 3)).1 ?_
  refine callsIn_of_wp_marks Tryd.func49 rfl trivial ?_ rfl
  refine wpIn_wide.2 ?_
  refine evPrefix_sound mix 3 _ _ _ _ _ w _ he1 hst0 fun s1 c1 a1 w1 hk hst1 => ?_
  obtain ⟨c2, hst2⟩ := hst1.le hk
  clear hst1 hk
  refine wp_seq (wp_seq (wp_region_list ?_))
  refine wpList_ev (E := env [] noAnn) (m := .bp 0 1) (p := none) rfl rfl trivial hst2 rfl fun a3 hst3 => ?_
  refine wpList_ev (E := env [] noAnn) (m := .ws (limbs z.natAbs)) (p := none) rfl rfl trivial hst3 rfl fun a4 hst4 => ?_
  obtain ⟨sa, sc, hsv, hscap, hsg⟩ := rep_ws (show Rep c2 w1 (.ws (limbs z.natAbs)) (a4.tmps.getD 13 undef) from hst4.tm 13)
  have hl4 := rep_bp (show Rep c2 w1 (.bp 1 0) (a4.tmps.getD 4 undef) from hst4.tm 4)
  have hl1 := rep_bp (show Rep c2 w1 (.bp 0 0) (a4.tmps.getD 1 undef) from hst4.tm 1)
  have hBW : c2.W (c2.β 1) := (hst4.mem.hW _).2 ⟨1, ⟨false, .one (.int .u64 0)⟩, hl4.1, rfl, rfl, rfl⟩
  refine wpList_enter (f := 80) (args := #[a4.tmps.getD 13 undef]) rfl ?_ (backw_calls _ w1 ⟨_, _, _, hsv⟩) ?_ (fun _ _ h => by simp at h) (fun _ h => by simp at h)
  · have := Tryd.call80 #[a4.tmps.getD 13 undef] w1
    simp [execOp, resolve, Deferred.ofValue, Act.eval, invoke]
  rintro v w2 ⟨hv, ty, rfl⟩
  simp only [Ending.returned.injEq] at hv
  subst hv
  obtain ⟨hm5, hk5⟩ := hst4.mem.grow (Ext.alloc w1 #[a4.tmps.getD 13 undef] ty)
  have hst5 := (hst4.keepTm (s' := _) hk5 hm5 rfl rfl rfl).put (t := 14) (m := .any) (v := .func (.func 94) #[] #[.pointer (some ⟨w1.heap.size, 0, none⟩)]) (show 14 < 38 by decide) trivial
  refine wpList_nil ?_
  refine wp_block ((wpIn_wide (n := 3)).1 ?_)
  obtain ⟨a5, ha5⟩ : ∃ a5, a4.put (some 14) (.func (.func 94) #[] #[.pointer (some ⟨w1.heap.size, 0, none⟩)]) = a5 := ⟨_, rfl⟩
  have h14 : a5.eval (.tmp 14) = .func (.func 94) #[] #[.pointer (some ⟨w1.heap.size, 0, none⟩)] := by
    rw [← ha5]
    show (a4.put _ _).tmps.getD 14 undef = _
    rw [getD_put a4 14 14 _ (by rw [hst4.size]; show 14 < 38; decide), if_pos rfl]
  have ht4 : a5.tmps.getD 4 undef = .pointer (some ⟨c2.β 1, 0, none⟩) := by
    rw [← ha5, getD_put a4 14 4 _ (by rw [hst4.size]; show 14 < 38; decide), if_neg (by decide), hl4.2]
  have ht1 : a5.tmps.getD 1 undef = .pointer (some ⟨c2.β 0, 0, none⟩) := by
    rw [← ha5, getD_put a4 14 1 _ (by rw [hst4.size]; show 14 < 38; decide), if_neg (by decide), hl1.2]
  have hsz5 : a5.tmps.size = 38 := by rw [← ha5]; exact hst5.size
  rw [ha5] at hst5 ⊢
  have hd5 : a5.defers = [] := hst5.defers
  obtain ⟨w2, hw2⟩ : ∃ w2, w1.alloc (.cells #[a4.tmps.getD 13 undef] ty) = w2 := ⟨_, rfl⟩
  have hnew : w2.cell? ⟨w1.heap.size, 0, none⟩ = some (.slice sa (limbs z.natAbs).length sc) := by
    rw [← hw2, ← hsv]
    have := World.alloc_heap_new w1 (.cells #[a4.tmps.getD 13 undef] ty)
    unfold World.cell?
    rw [show (w1.alloc (.cells #[a4.tmps.getD 13 undef] ty)).heap[(⟨w1.heap.size, 0, none⟩ : Addr).block]? = _ from this]
    rfl
  have hsz2 : w2.heap.size = w1.heap.size + 1 := by rw [← hw2, World.size_alloc]
  rw [hw2] at hm5 hk5 hst5 ⊢
  have hl1' : c2.live 1 := hl4.1
  have hB1 : c2.β 1 < w1.heap.size := (hst4.mem.fresh 1 hl1').2.1
  have hbox1 : HoldsV w2 (c2.β 1) (c2.sz 1).n 0 ∧ (c2.sz 1).wd = 0 := HoldsV.of (hst5.mem.box 1 ⟨false, .one (.int .u64 0)⟩ hl1' rfl)
  have hseg2 : 0 < (limbs z.natAbs).length → ∃ b off, sa = some ⟨b, off, none⟩ ∧ b ≠ c2.β 1 ∧ seg w2 b off ((limbs z.natAbs).map (Value.int .u32)) := fun h => by
    obtain ⟨b, off, e1, e2, arr, ty, fr, e3, e4⟩ := hsg h
    exact ⟨b, off, e1, fun e => e2 (hst4.mem.WS _ (e ▸ hBW)), arr, ty, fr, (hk5.heapS b (Array.getElem?_eq_some_iff.1 e3).1 e2).trans e3, e4⟩
  refine wpIn_rangeFunc_ownG (F := Fence.wide) (n := 3) rfl (by omega) (gf := 94) (lb := #[.pointer (some ⟨w1.heap.size, 0, none⟩)]) h14 trivial (enters_of Tryd.func94 (by kernel_rfl) rfl)
    (back_stops Fence.wide 2 trivial rfl (by omega) w2.heap.size (c2.β 1) w1.heap.size sc sa (limbs z.natAbs) (by omega) (by omega) (by omega) w2 rfl hnew hseg2) (fun h k => But.trans h k)
    (fun W l o o' hl ho _ _ => ⟨rfl, rfl, by simp [World.putObj], fun k hk _ => World.putObj_heap_other (by omega)⟩) (Below.refl _ _) (fun _ => rfl)
    (fun pre W => HoldsV W (c2.β 1) (c2.sz 1).n (pre.foldl (fun v x => vst v x.2) 0) ∧ But w2.heap.size (c2.β 1) w2 W) (fun _ _ _ => False)
    ?hI (fun _ _ _ _ _ hs _ _ => hs) ⟨hbox1.1, But.refl _ _ _⟩
    (fun x => { tmps := ((a5.tmps.setIfInBounds 15 (.int .i64 x.1)).setIfInBounds 16 (.int .u32 x.2)).setIfInBounds 6 (.int .u32 x.2), defers := [] }) ?assign ?body ?done ?stop
  case hI =>
    rintro pre W W' row ⟨⟨arr, ty', h1, h2, h3⟩, hb⟩ hg hr
    have hB : c2.β 1 < W.heap.size := (Array.getElem?_eq_some_iff.1 h1).1
    refine ⟨⟨arr, ty', (hg.block _ hB fun e => ?_).trans h1, h2, h3⟩, hb.trans ⟨hg.os, hg.output, hg.size, fun k hk hkB => hg.block k (Nat.lt_of_lt_of_le hk hb.size) fun e => ?_⟩⟩
    · obtain ⟨_, o, ho, hc⟩ := hr _ e.symm
      rw [h1, Option.some.injEq] at ho
      subst ho
      simp [Obj.isCells] at hc
    · have := (hr _ e.symm).1
      omega
  case assign =>
    intro lp x W K hK
    rw [fold_two]
    refine wpIn_region_list (wpListIn_wide (not_lets fun _ _ h => h) lp _ _ _ _ (no_defer rfl) (wpList_val (v := .int .u32 x.2) rfl ?_ fun a' e => ?_))
    · have : (((a5.tmps.setIfInBounds 15 (.int .i64 x.1)).setIfInBounds 16 (.int .u32 x.2)).getD 16 undef) = .int .u32 x.2 := by
        simp [Array.getD_eq_getD_getElem?, hsz5]
      show (pure (Next.value (((a5.tmps.setIfInBounds 15 (.int .i64 x.1)).setIfInBounds 16 (.int .u32 x.2)).getD 16 undef)) : Sem Next).run _ _ = _
      rw [this]
      rfl
    · subst e
      exact wpList_nil hK
  case body =>
    rintro lp pre x W ⟨hv, hb⟩ _
    generalize hV : pre.foldl (fun v x => vst v x.2) 0 = V at hv
    have hst6 := hst5.reloc (a' := { tmps := ((a5.tmps.setIfInBounds 15 (.int .i64 x.1)).setIfInBounds 16 (.int .u32 x.2)).setIfInBounds 6 (.int .u32 x.2), defers := [] }) hBW hb (lowB V [(4, .bp 1 0), (6, .int .u32 x.2)]) (fun i => i = 1)
      (fun i hi => by subst hi; exact ⟨hl1', by show 1 < 2; decide⟩) (by simp [hsz5, lowB]) (fun i b hi hb => by
        subst hi
        simp only [lowB, nth, Option.some.injEq] at hb
        subst hb
        exact HoldsV.box (c := ctxOf S _ _ c2.β c2.sz) hv rfl hbox1.2) (look_two (by
          have : ((((a5.tmps.setIfInBounds 15 (.int .i64 x.1)).setIfInBounds 16 (.int .u32 x.2)).setIfInBounds 6 (.int .u32 x.2)).getD 4 undef) = .pointer (some ⟨c2.β 1, 0, none⟩) := by
            rw [← ht4]; simp [Array.getD_eq_getD_getElem?]
          rw [this]
          exact mk_cell rfl (by simp) rfl ⟨rfl, rfl⟩) (by
          have : ((((a5.tmps.setIfInBounds 15 (.int .i64 x.1)).setIfInBounds 16 (.int .u32 x.2)).setIfInBounds 6 (.int .u32 x.2)).getD 6 undef) = .int .u32 x.2 := by
            simp [Array.getD_eq_getD_getElem?, hsz5]
          rw [this]
          exact mk_int _ _))
    have hE : evSeq (env [] noAnn) lowOps (fun _ => False) lowOps (lowB V [(4, .bp 1 0), (6, .int .u32 x.2)]) (fun s' => leMS s' (lowB (vst V x.2) [])) := by
      rw [← vc_low2]
      refine ⟨by decide, True.intro, ⟨rfl, .inl (Nat.le_refl _)⟩, rfl, True.intro⟩
    refine wpIn_block (wpIn_region_list (wpListIn_wide (not_lets fun _ _ h => h) lp _ _ _ _ (no_defer rfl) ?_))
    refine evSeq_sound (E := env [] noAnn) (Kp := fun _ => False) (fun _ _ _ _ hk => hk.elim) lowOps _ (fun s' => leMS s' (lowB (vst V x.2) [])) _ _ W hE hst6 fun s' c' a' w' hk hst7 _ => ?_
    obtain ⟨c8, hst8⟩ := hst7.le hk
    obtain ⟨p1, p2, p3⟩ := hst8.mem.pin 1 (c2.β 1) (c2.sz 1) ⟨by show 1 < 2; decide, rfl, rfl, rfl⟩
    have hbx : HoldsV w' (c8.β 1) (c8.sz 1).n (vst V x.2) ∧ (c8.sz 1).wd = 0 := HoldsV.of (hst8.mem.box 1 ⟨false, .one (.int .u64 (vst V x.2))⟩ p1 rfl)
    rw [p2, p3] at hbx
    have he := hst8.mem.ext
    have hblk : ∀ k, k < W.heap.size → k ≠ c2.β 1 → w'.heap[k]? = W.heap[k]? := fun k hk hne => he.block k hk (by rintro ⟨i, rfl, e⟩; exact hne e.symm)
    have hbut : But w2.heap.size (c2.β 1) W w' := ⟨he.os, he.output, he.size, fun k hk hne => hblk k (Nat.lt_of_lt_of_le hk hb.size) hne⟩
    refine ⟨⟨he.size, fun k o _ ho hnc => ?_⟩, hbut, ?_, hb.trans hbut⟩
    · refine (hblk k (Array.getElem?_eq_some_iff.1 ho).1 fun e => ?_).trans ho
      obtain ⟨arr, ty', h1, _⟩ := hv
      rw [e, h1, Option.some.injEq] at ho
      subst ho
      simp [Obj.isCells] at hnc
    · rw [List.foldl_append, hV]
      exact hbx.1
  case done =>
    rintro D xs W hD rfl ⟨hv, hb⟩ hK
    have hkp := Keeps.reloc hst5.mem hBW hb
    have hlV : lowV (limbs z.natAbs) = z.natAbs := by unfold lowV; rw [lowV_eq (limbs_wd _) hlen, wv_limbs]
    have hv : HoldsV W (c2.β 1) (c2.sz 1).n (z.natAbs : Int) := hlV ▸ hv
    have hl0 : c2.live 0 := hl1.1
    have hst6 := hst5.reloc (a' := { a5 with defers := { target := .collected D, args := #[] } :: a5.defers }) hBW hb (lowE z z.natAbs n) (fun i => i = 0 ∨ i = 1)
      (fun i hi => by rcases hi with rfl | rfl; exact ⟨hl0, by show 0 < 2; decide⟩; exact ⟨hl1', by show 1 < 2; decide⟩) hsz5 (fun i b hi hb' => by
        rcases hi with rfl | rfl
        · simp only [lowE, nth, Option.some.injEq] at hb'
          subst hb'
          have hbx0 := hst5.mem.box 0 ⟨false, .one (.big z n)⟩ hl0 rfl
          have hW' : ∀ b, (ctxOf S (lowE z z.natAbs n).bx (fun i => i = 0 ∨ i = 1) c2.β c2.sz).W b → c2.W b := by
            rintro b ⟨i, b0, hi, _, _, rfl⟩
            rcases hi with rfl | rfl
            · exact (hst5.mem.hW _).2 ⟨0, ⟨false, .one (.big z n)⟩, hl0, rfl, rfl, rfl⟩
            · exact hBW
          have k : Keeps c2 (ctxOf S (lowE z z.natAbs n).bx (fun i => i = 0 ∨ i = 1) c2.β c2.sz) w2 W :=
            ⟨fun b _ h => h.elim (fun q => (hst5.mem.hS b).2 (.inl q)) (fun q => hst5.mem.WS b (hW' b q)), fun b _ h => hW' b h, fun i hi => ⟨by
              have : i < 2 := (hst5.mem.fresh i hi).2.2
              show i = 0 ∨ i = 1
              omega, rfl, rfl⟩, hkp.heapS, hkp.heapW⟩
          exact hbx0.keep k hl0 (hb.block _ (hst5.mem.fresh 0 hl0).2.1 fun e => by have := hst5.mem.inj 0 1 hl0 hl1' e; omega)
        · simp only [lowE, nth, Option.some.injEq] at hb'
          subst hb'
          exact HoldsV.box (c := ctxOf S _ _ c2.β c2.sz) hv rfl hbox1.2) (look_two (by
          show Rep _ _ _ (a5.tmps.getD 1 undef)
          rw [ht1]
          exact mk_cell rfl (by simp) rfl ⟨.inl rfl, rfl⟩) (by
          show Rep _ _ _ (a5.tmps.getD 4 undef)
          rw [ht4]
          exact mk_cell rfl (by simp) rfl ⟨.inr rfl, rfl⟩))
    have hcode := low3_ok z n hz
    refine evCode_sound mix lowEnd _ _ _ _ W _ hcode hst6 (fun e s' c' a' w' hk hst7 => ?_) (fun _ _ _ _ hk => hk.elim)
    cases e with
    | normal => exact hk.elim
    | exit _ => exact hk.elim
    | ret =>
      obtain ⟨q1, q2⟩ : leV 0 (look 2 s'.tm) (.int .i64 z) ∧ leV 0 (look 3 s'.tm) (.bool true) := hk
      have cut : Cuts 0 c' c' := ⟨fun _ h => h, fun _ h => h, fun i hi => by omega⟩
      have r2 := rep_int (le_rep cut q1 (hst7.tm 2))
      have r3 := rep_bool (le_rep cut q2 (hst7.tm 3))
      have he := hst7.mem.ext
      have hDlt : D < W.heap.size := (Array.getElem?_eq_some_iff.1 hK).1
      have hK' : w'.heap[D]? = some (.deferred (some [])) := (he.block D hDlt (by
        rintro ⟨i, hi, e⟩
        have : c2.live i := by rcases hi with rfl | rfl; exact hl0; exact hl1'
        have := (hst5.mem.fresh i this).2.1
        omega)).trans hK
      show LeavesInM _ _ _ _ a'.tmps _ a'.defers _ w'
      rw [hst7.defers]
      show LeavesInM _ _ _ _ a'.tmps _ ({ target := .collected D, args := #[] } :: a5.defers) _ w'
      rw [hd5]
      refine ⟨by simp, .inl ⟨D, _, rfl, run_takeDeferred hK', ?_⟩⟩
      refine ⟨.tuple #[.int .i64 z, .bool true], ?_, ?_, ?_⟩
      · rw [results_eq]
        simp [resF, r2, r3, Tryd.results49]
      · have hext5 := hst5.mem.ext
        have hw5 : w.heap.size ≤ w2.heap.size := hext5.size
        have hblk : ∀ k, k < w.heap.size → (w'.putObj D (.deferred none)).heap[k]? = w.heap[k]? := fun k hk => by
          have hk2 : k < w2.heap.size := Nat.lt_of_lt_of_le hk hw5
          have hnew : ∀ i, c2.live i → c2.β i ≠ k := fun i hi e => by
            rcases (hst5.mem.fresh i hi).1 with q | q
            · have q : w.heap.size ≤ c2.β i := q
              omega
            · exact q.elim
          refine (World.putObj_heap_other (by omega)).trans ((he.block k (Nat.lt_of_lt_of_le hk2 hb.size) ?_).trans ((hb.block k hk2 fun e => hnew 1 hl1' e.symm).trans (hext5.block k hk fun h => h)))
          rintro ⟨i, hi, e⟩
          have : c2.live i := by rcases hi with rfl | rfl; exact hl0; exact hl1'
          exact hnew i this e
        refine ⟨he.os.trans (hb.os.trans hext5.os), he.output.trans (hb.output.trans hext5.output), ?_, hblk, fun ad hk => World.frozen?_of_block (hblk _ hk)⟩
        have h1 := he.size
        have h2 := hb.size
        show w.heap.size ≤ (w'.heap.setIfInBounds D _).size
        rw [Array.size_setIfInBounds]
        exact Nat.le_trans hw5 (Nat.le_trans h2 h1)
      · exact ⟨_, rfl, _, _, rfl, rfl, _, _, rfl, rfl, rfl⟩
  case stop => 
    rintro D c pre W _ _ h _
    exact h.elim

def s_ilow : FSpec
  | [.big z _] => some (some (z.natAbs < 9223372036854775808), .ret (.tup [.int .i64 z, .bool true]))
  | _ => none
noncomputable def c_ilow : Ctr Tryd.prog := ⟨49, s_ilow, fun args w => Tryd.call49 args w, fun S w ms args p r hs hp hS hG ha => by
  unfold s_ilow at hs
  split at hs
  · rename_i z n
    simp only [Option.some.injEq, Prod.mk.injEq] at hs
    obtain ⟨rfl, rfl⟩ := hs
    exact low_ok z n hp S w args hS hG ha
  · simp at hs⟩

end Go.Proofs.YtcikhffhikgahaaDoor

/-
  Contracts of functions: package modular: half, Sqrt.
-/
namespace Go.Proofs.YtcikhffhikgahaaDoor
open Go Go.RowKit

/-! ### Numbers x + y sqrt w -/
def zmul (w : Int) (a b : Int × Int) : Int × Int := (a.1 * b.1 + w * (a.2 * b.2), a.1 * b.2 + a.2 * b.1)
def zp (t w : Int) : Nat → Int × Int
  | 0 => (1, 0)
  | e + 1 => zmul w (zp t w e) (t, 1)
theorem zmul_assoc (w : Int) (a b c : Int × Int) : zmul w (zmul w a b) c = zmul w a (zmul w b c) := by
  unfold zmul
  apply Prod.ext <;> dsimp only <;> grind
theorem zp_add (t w : Int) (i j : Nat) : zmul w (zp t w i) (zp t w j) = zp t w (i + j) := by
  induction j with
  | zero => unfold zp zmul; apply Prod.ext <;> dsimp only <;> simp
  | succ j ih =>
    show zmul w (zp t w i) (zmul w (zp t w j) (t, 1)) = zmul w (zp t w (i + j)) (t, 1)
    rw [← zmul_assoc, ih]
theorem zp_one (t w : Int) : zp t w 1 = (t, 1) := by
  show zmul w (1, 0) (t, 1) = _
  unfold zmul; apply Prod.ext <;> dsimp only <;> simp
/-- The parts modulo p. -/
def zx (t w p : Int) (e : Nat) : Int := (zp t w e).1 % p
def zy (t w p : Int) (e : Nat) : Int := (zp t w e).2 % p
theorem emod_lin (a b c d w p : Int) : (a % p * (b % p) + w * (c % p * (d % p))) % p = (a * b + w * (c * d)) % p := by
  rw [Int.add_emod, ← Int.mul_emod a b p, Int.mul_emod w (c % p * (d % p)) p, ← Int.mul_emod c d p, ← Int.mul_emod w (c * d) p, ← Int.add_emod]
theorem zx_add (t w p : Int) (i j : Nat) : (zx t w p i * zx t w p j + w * (zy t w p i * zy t w p j)) % p = zx t w p (i + j) := by
  unfold zx zy
  rw [← zp_add, emod_lin]
  rfl
theorem zy_add (t w p : Int) (i j : Nat) : (zx t w p i * zy t w p j + zy t w p i * zx t w p j) % p = zy t w p (i + j) := by
  have := emod_lin (zp t w i).1 (zp t w j).2 (zp t w i).2 (zp t w j).1 1 p
  rw [Int.one_mul, Int.one_mul] at this
  unfold zx zy
  rw [← zp_add, this]
  rfl

def s_half1 : FSpec
  | [.big a n1, .big b n2, .big c n3, .big d n4, .ref (.big w k), .ref (.big p l)] =>
    some (some (n1 ≤ 100000 ∧ n2 ≤ 100000 ∧ n3 ≤ 100000 ∧ n4 ≤ 100000 ∧ k ≤ 100000 ∧ l ≤ 100000 ∧ 0 < p), .ret (.tup [.big ((a * c + w * (b * d)) % p) l, .big ((a * d + b * c) % p) l]))
  | _ => none
theorem vc_half1 (a b c d w p : Int) (n1 n2 n3 n4 k l : Nat) : ((n1 ≤ (1000000 : Nat) ∧ n3 ≤ (1000000 : Nat)) ∧ (n2 ≤ (1000000 : Nat) ∧ n4 ≤ (1000000 : Nat)) ∧ (k ≤ (1000000 : Nat) ∧ n2 + n4 ≤ (1000000 : Nat)) ∧ (n1 + n3 ≤ (1000000 : Nat) ∧ k + (n2 + n4) ≤ (1000000 : Nat)) ∧ (max (n1 + n3) (k + (n2 + n4)) + (1 : Nat) ≤ (900000 : Nat) ∧ l ≤ (900000 : Nat) ∧ (p = (0 : Int) → False)) ∧ (n1 ≤ (1000000 : Nat) ∧ n4 ≤ (1000000 : Nat)) ∧ (n2 ≤ (1000000 : Nat) ∧ n3 ≤ (1000000 : Nat)) ∧ (n1 + n4 ≤ (1000000 : Nat) ∧ n2 + n3 ≤ (1000000 : Nat)) ∧ (max (n1 + n4) (n2 + n3) + (1 : Nat) ≤ (900000 : Nat) ∧ l ≤ (900000 : Nat) ∧ (p = (0 : Int) → False)) ∧ ((a * c + w * (b * d)) % p = (a * c + w * (b * d)) % p ∧ (l ≤ l ∨ Int.natAbs ((a * c + w * (b * d)) % p) < (2 : Nat) ^ l)) ∧ ((a * d + b * c) % p = (a * d + b * c) % p ∧ (l ≤ l ∨ Int.natAbs ((a * d + b * c) % p) < (2 : Nat) ^ l)) ∧ True) = evFn (env [c_mul, c_iadd, c_mmod] noAnn) Tryd.f97 [.big a n1, .big b n2, .big c n3, .big d n4, .ref (.big w k), .ref (.big p l)] (MRes.sat (.ret (.tup [.big ((a * c + w * (b * d)) % p) l, .big ((a * d + b * c) % p) l]))) := by kernel_rfl
theorem p_half1 : Good Tryd.f97 s_half1 := by
  intro ms p r h hp
  unfold s_half1 at h
  split at h
  · rename_i a n1 b n2 c n3 d n4 w k p l
    simp only [Option.some.injEq, Prod.mk.injEq] at h
    obtain ⟨rfl, rfl⟩ := h
    obtain ⟨h1, h2, h3, h4, h5, h6, h7⟩ : n1 ≤ 100000 ∧ n2 ≤ 100000 ∧ n3 ≤ 100000 ∧ n4 ≤ 100000 ∧ k ≤ 100000 ∧ l ≤ 100000 ∧ 0 < p := hp
    refine ⟨env [c_mul, c_iadd, c_mmod] noAnn, ?_⟩
    rw [← vc_half1 a b c d w p n1 n2 n3 n4 k l]
    and_intros <;> first | exact True.intro | rfl | exact .inl (Nat.le_refl _) | omega
  · simp at h
def c_half1 : Ctr Tryd.prog := ⟨97, s_half1, fun args w => Tryd.call97 args w, fn_ok mix Tryd.func97 s_half1 p_half1⟩

def halfN (p : Int) : Nat := ((p + 1) / 2).natAbs
def s_half : FSpec
  | [.big t n, .big w k, .big p l] => some (some (n ≤ 10000 ∧ k ≤ 10000 ∧ l ≤ 10000 ∧ 2 ≤ p ∧ 0 ≤ t ∧ t < p), .ret (.big (zx t w p (halfN p)) l))
  | _ => none
structure HfS where
  i : Nat
  x : Int
  y : Int
  u : Int
  v : Int
structure HfI (t w p : Int) (N : Nat) (s : HfS) : Prop where
  i : s.i ≤ bl N
  x : s.x = zx t w p (N % 2 ^ s.i)
  y : s.y = zy t w p (N % 2 ^ s.i)
  u : s.u = zx t w p (2 ^ s.i)
  v : s.v = zy t w p (2 ^ s.i)
def a_half (t w p : Int) (n k l : Nat) : Nat → MS → Option LoopAnn
  | 6, _ => some (.inv HfS (HfI t w p (halfN p)) (fun s => ⟨60, [(4, .bp 1 0), (5, .bp 2 0), (6, .bp 3 0), (7, .bp 4 0), (8, .bp 5 0), (9, .bp 6 0), (10, .bp 7 0), (11, .bp 8 0), (12, .fn 97 [.bp 1 0, .bp 2 0]), (25, .int .i64 (bl (halfN p))), (26, .int .i64 s.i)],
      [⟨false, .one (.big t n)⟩, ⟨false, .one (.big w k)⟩, ⟨false, .one (.big p l)⟩, ⟨false, .one (.big 0 0)⟩, ⟨false, .one (.big ((p + 1) / 2) (max l 64 + 1))⟩, ⟨false, .one (.big s.x (l + 64))⟩, ⟨false, .one (.big s.y (l + 64))⟩, ⟨false, .one (.big s.u (l + n + 64))⟩, ⟨false, .one (.big s.v (l + n + 64))⟩], 0⟩) (fun s => bl (halfN p) - s.i))
  | _, _ => none
theorem vc_half (t w p : Int) (n k l : Nat) : (((-9223372036854775808 : Int) ≤ (1 : Int) ∧ (1 : Int) ≤ (9223372036854775807 : Int)) ∧ (l ≤ (1000000 : Nat) ∧ (64 : Nat) ≤ (1000000 : Nat)) ∧ ((-9223372036854775808 : Int) ≤ (2 : Int) ∧ (2 : Int) ≤ (9223372036854775807 : Int)) ∧ (max l (64 : Nat) + (1 : Nat) ≤ (900000 : Nat) ∧ (64 : Nat) ≤ (900000 : Nat) ∧ ((2 : Int) = (0 : Int) → False)) ∧ ((-9223372036854775808 : Int) ≤ (1 : Int) ∧ (1 : Int) ≤ (9223372036854775807 : Int)) ∧ ((-9223372036854775808 : Int) ≤ (1 : Int) ∧ (1 : Int) ≤ (9223372036854775807 : Int)) ∧ max l (64 : Nat) + (1 : Nat) ≤ (1000000 : Nat) ∧ (∃ i, HfI t w p (halfN p) i ∧ ((0 : Nat) = (0 : Nat) ∧ (0 : Nat) = (0 : Nat) ∧ (0 : Nat) = (0 : Nat) ∧ (0 : Nat) = (0 : Nat) ∧ (0 : Nat) = (0 : Nat) ∧ (0 : Nat) = (0 : Nat) ∧ (0 : Nat) = (0 : Nat) ∧ (0 : Nat) = (0 : Nat) ∧ ((0 : Nat) = (0 : Nat) ∧ (0 : Nat) = (0 : Nat) ∧ True) ∧ (↑(bl (Int.natAbs ((p + (1 : Int)) / (2 : Int)))) : Int) = (↑(bl (halfN p)) : Int) ∧ (0 : Int) = (↑(HfS.i i) : Int) ∧ True) ∧ (t = t ∧ (n ≤ n ∨ Int.natAbs t < (2 : Nat) ^ n)) ∧ (w = w ∧ (k ≤ k ∨ Int.natAbs w < (2 : Nat) ^ k)) ∧ (p = p ∧ (l ≤ l ∨ Int.natAbs p < (2 : Nat) ^ l)) ∧ ((0 : Int) = (0 : Int) ∧ ((0 : Nat) ≤ (0 : Nat) ∨ Int.natAbs (0 : Int) < (2 : Nat) ^ (0 : Nat))) ∧ ((p + (1 : Int)) / (2 : Int) = (p + (1 : Int)) / (2 : Int) ∧ (max l (64 : Nat) + (1 : Nat) ≤ max l (64 : Nat) + (1 : Nat) ∨ Int.natAbs ((p + (1 : Int)) / (2 : Int)) < (2 : Nat) ^ (max l (64 : Nat) + (1 : Nat)))) ∧ ((1 : Int) = HfS.x i ∧ ((64 : Nat) ≤ l + (64 : Nat) ∨ Int.natAbs (1 : Int) < (2 : Nat) ^ (l + (64 : Nat)))) ∧ ((0 : Int) = HfS.y i ∧ ((0 : Nat) ≤ l + (64 : Nat) ∨ Int.natAbs (0 : Int) < (2 : Nat) ^ (l + (64 : Nat)))) ∧ (t = HfS.u i ∧ (n ≤ l + n + (64 : Nat) ∨ Int.natAbs t < (2 : Nat) ^ (l + n + (64 : Nat)))) ∧ ((1 : Int) = HfS.v i ∧ ((64 : Nat) ≤ l + n + (64 : Nat) ∨ Int.natAbs (1 : Int) < (2 : Nat) ^ (l + n + (64 : Nat)))) ∧ True) ∧ ∀ (i : HfS), HfI t w p (halfN p) i → bif decide ((↑(HfS.i i) : Int) < (↑(bl (halfN p)) : Int)) then ((32 : Int) = (0 : Int) → False) ∧ ((0 : Int) ≤ IntKind.wrap IntKind.i64 (Int.tdiv (↑(HfS.i i) : Int) (32 : Int)) ∧ IntKind.wrap IntKind.i64 (Int.tdiv (↑(HfS.i i) : Int) (32 : Int)) < (↑(List.length (limbs (Int.natAbs ((p + (1 : Int)) / (2 : Int))))) : Int)) ∧ ((32 : Int) = (0 : Int) → False) ∧ (0 : Int) ≤ Int.tmod (↑(HfS.i i) : Int) (32 : Int) ∧ bif IntKind.wrap IntKind.u32 (↑(BitVec.toNat (BitVec.ofInt (IntKind.bits IntKind.u32) (Int.fdiv (List.getD (limbs (Int.natAbs ((p + (1 : Int)) / (2 : Int)))) (Int.toNat (IntKind.wrap IntKind.i64 (Int.tdiv (↑(HfS.i i) : Int) (32 : Int)))) (0 : Int)) ((2 : Int) ^ min (Int.toNat (Int.tmod (↑(HfS.i i) : Int) (32 : Int))) (IntKind.bits IntKind.u32))) &&& BitVec.ofInt (IntKind.bits IntKind.u32) (1 : Int))) : Int) == (1 : Int) then (l + (64 : Nat) ≤ (100000 : Nat) ∧ l + (64 : Nat) ≤ (100000 : Nat) ∧ l + n + (64 : Nat) ≤ (100000 : Nat) ∧ l + n + (64 : Nat) ≤ (100000 : Nat) ∧ k ≤ (100000 : Nat) ∧ l ≤ (100000 : Nat) ∧ (0 : Int) < p) ∧ (l + n + (64 : Nat) ≤ (100000 : Nat) ∧ l + n + (64 : Nat) ≤ (100000 : Nat) ∧ l + n + (64 : Nat) ≤ (100000 : Nat) ∧ l + n + (64 : Nat) ≤ (100000 : Nat) ∧ k ≤ (100000 : Nat) ∧ l ≤ (100000 : Nat) ∧ (0 : Int) < p) ∧ ∃ j, HfI t w p (halfN p) j ∧ (((0 : Nat) = (0 : Nat) ∧ (0 : Nat) = (0 : Nat) ∧ (0 : Nat) = (0 : Nat) ∧ (0 : Nat) = (0 : Nat) ∧ (0 : Nat) = (0 : Nat) ∧ (0 : Nat) = (0 : Nat) ∧ (0 : Nat) = (0 : Nat) ∧ (0 : Nat) = (0 : Nat) ∧ ((0 : Nat) = (0 : Nat) ∧ (0 : Nat) = (0 : Nat) ∧ True) ∧ (↑(bl (halfN p)) : Int) = (↑(bl (halfN p)) : Int) ∧ IntKind.wrap IntKind.i64 ((↑(HfS.i i) : Int) + (1 : Int)) = (↑(HfS.i j) : Int) ∧ True) ∧ (t = t ∧ (n ≤ n ∨ Int.natAbs t < (2 : Nat) ^ n)) ∧ (w = w ∧ (k ≤ k ∨ Int.natAbs w < (2 : Nat) ^ k)) ∧ (p = p ∧ (l ≤ l ∨ Int.natAbs p < (2 : Nat) ^ l)) ∧ ((0 : Int) = (0 : Int) ∧ ((0 : Nat) ≤ (0 : Nat) ∨ Int.natAbs (0 : Int) < (2 : Nat) ^ (0 : Nat))) ∧ ((p + (1 : Int)) / (2 : Int) = (p + (1 : Int)) / (2 : Int) ∧ (max l (64 : Nat) + (1 : Nat) ≤ max l (64 : Nat) + (1 : Nat) ∨ Int.natAbs ((p + (1 : Int)) / (2 : Int)) < (2 : Nat) ^ (max l (64 : Nat) + (1 : Nat)))) ∧ ((HfS.x i * HfS.u i + w * (HfS.y i * HfS.v i)) % p = HfS.x j ∧ (l ≤ l + (64 : Nat) ∨ Int.natAbs ((HfS.x i * HfS.u i + w * (HfS.y i * HfS.v i)) % p) < (2 : Nat) ^ (l + (64 : Nat)))) ∧ ((HfS.x i * HfS.v i + HfS.y i * HfS.u i) % p = HfS.y j ∧ (l ≤ l + (64 : Nat) ∨ Int.natAbs ((HfS.x i * HfS.v i + HfS.y i * HfS.u i) % p) < (2 : Nat) ^ (l + (64 : Nat)))) ∧ ((HfS.u i * HfS.u i + w * (HfS.v i * HfS.v i)) % p = HfS.u j ∧ (l ≤ l + n + (64 : Nat) ∨ Int.natAbs ((HfS.u i * HfS.u i + w * (HfS.v i * HfS.v i)) % p) < (2 : Nat) ^ (l + n + (64 : Nat)))) ∧ ((HfS.u i * HfS.v i + HfS.v i * HfS.u i) % p = HfS.v j ∧ (l ≤ l + n + (64 : Nat) ∨ Int.natAbs ((HfS.u i * HfS.v i + HfS.v i * HfS.u i) % p) < (2 : Nat) ^ (l + n + (64 : Nat)))) ∧ True) ∧ bl (halfN p) - HfS.i j < bl (halfN p) - HfS.i i else (l + n + (64 : Nat) ≤ (100000 : Nat) ∧ l + n + (64 : Nat) ≤ (100000 : Nat) ∧ l + n + (64 : Nat) ≤ (100000 : Nat) ∧ l + n + (64 : Nat) ≤ (100000 : Nat) ∧ k ≤ (100000 : Nat) ∧ l ≤ (100000 : Nat) ∧ (0 : Int) < p) ∧ ∃ j, HfI t w p (halfN p) j ∧ (((0 : Nat) = (0 : Nat) ∧ (0 : Nat) = (0 : Nat) ∧ (0 : Nat) = (0 : Nat) ∧ (0 : Nat) = (0 : Nat) ∧ (0 : Nat) = (0 : Nat) ∧ (0 : Nat) = (0 : Nat) ∧ (0 : Nat) = (0 : Nat) ∧ (0 : Nat) = (0 : Nat) ∧ ((0 : Nat) = (0 : Nat) ∧ (0 : Nat) = (0 : Nat) ∧ True) ∧ (↑(bl (halfN p)) : Int) = (↑(bl (halfN p)) : Int) ∧ IntKind.wrap IntKind.i64 ((↑(HfS.i i) : Int) + (1 : Int)) = (↑(HfS.i j) : Int) ∧ True) ∧ (t = t ∧ (n ≤ n ∨ Int.natAbs t < (2 : Nat) ^ n)) ∧ (w = w ∧ (k ≤ k ∨ Int.natAbs w < (2 : Nat) ^ k)) ∧ (p = p ∧ (l ≤ l ∨ Int.natAbs p < (2 : Nat) ^ l)) ∧ ((0 : Int) = (0 : Int) ∧ ((0 : Nat) ≤ (0 : Nat) ∨ Int.natAbs (0 : Int) < (2 : Nat) ^ (0 : Nat))) ∧ ((p + (1 : Int)) / (2 : Int) = (p + (1 : Int)) / (2 : Int) ∧ (max l (64 : Nat) + (1 : Nat) ≤ max l (64 : Nat) + (1 : Nat) ∨ Int.natAbs ((p + (1 : Int)) / (2 : Int)) < (2 : Nat) ^ (max l (64 : Nat) + (1 : Nat)))) ∧ (HfS.x i = HfS.x j ∧ (l + (64 : Nat) ≤ l + (64 : Nat) ∨ Int.natAbs (HfS.x i) < (2 : Nat) ^ (l + (64 : Nat)))) ∧ (HfS.y i = HfS.y j ∧ (l + (64 : Nat) ≤ l + (64 : Nat) ∨ Int.natAbs (HfS.y i) < (2 : Nat) ^ (l + (64 : Nat)))) ∧ ((HfS.u i * HfS.u i + w * (HfS.v i * HfS.v i)) % p = HfS.u j ∧ (l ≤ l + n + (64 : Nat) ∨ Int.natAbs ((HfS.u i * HfS.u i + w * (HfS.v i * HfS.v i)) % p) < (2 : Nat) ^ (l + n + (64 : Nat)))) ∧ ((HfS.u i * HfS.v i + HfS.v i * HfS.u i) % p = HfS.v j ∧ (l ≤ l + n + (64 : Nat) ∨ Int.natAbs ((HfS.u i * HfS.v i + HfS.v i * HfS.u i) % p) < (2 : Nat) ^ (l + n + (64 : Nat)))) ∧ True) ∧ bl (halfN p) - HfS.i j < bl (halfN p) - HfS.i i else HfS.x i = zx t w p (halfN p) ∧ (l + (64 : Nat) ≤ l ∨ Int.natAbs (HfS.x i) < (2 : Nat) ^ l)) = evFn (env [c_mof, c_iadd, c_mdiv, c_half1, c_bits] (a_half t w p n k l)) Tryd.f86 [.big t n, .big w k, .big p l] (MRes.sat (.ret (.big (zx t w p (halfN p)) l))) := by kernel_rfl

theorem HfI.step {t w p : Int} {N i : Nat} {x y u v : Int} (h : HfI t w p N ⟨i, x, y, u, v⟩) (hi : i < bl N) :
    (decide (N / 2 ^ i % 2 = 1) = true → HfI t w p N ⟨i + 1, (x * u + w * (y * v)) % p, (x * v + y * u) % p, (u * u + w * (v * v)) % p, (u * v + v * u) % p⟩) ∧
    (decide (N / 2 ^ i % 2 = 1) = false → HfI t w p N ⟨i + 1, x, y, (u * u + w * (v * v)) % p, (u * v + v * u) % p⟩) := by
  have hx : x = zx t w p (N % 2 ^ i) := h.x
  have hy : y = zy t w p (N % 2 ^ i) := h.y
  have hu : u = zx t w p (2 ^ i) := h.u
  have hv : v = zy t w p (2 ^ i) := h.v
  have hs : N % 2 ^ (i + 1) = N % 2 ^ i + 2 ^ i * (N / 2 ^ i % 2) := Nat.mod_pow_succ
  have huu : (u * u + w * (v * v)) % p = zx t w p (2 ^ (i + 1)) := by rw [hu, hv, zx_add, Nat.pow_succ, Nat.mul_two]
  have hvv : (u * v + v * u) % p = zy t w p (2 ^ (i + 1)) := by rw [hu, hv, zy_add, Nat.pow_succ, Nat.mul_two]
  refine ⟨fun hb => ⟨hi, ?_, ?_, huu, hvv⟩, fun hb => ⟨hi, ?_, ?_, huu, hvv⟩⟩
  · have hb := of_decide_eq_true hb
    show (x * u + w * (y * v)) % p = zx t w p (N % 2 ^ (i + 1))
    rw [hs, hb, Nat.mul_one, ← zx_add, hx, hy, hu, hv]
  · have hb := of_decide_eq_true hb
    show (x * v + y * u) % p = zy t w p (N % 2 ^ (i + 1))
    rw [hs, hb, Nat.mul_one, ← zy_add, hx, hy, hu, hv]
  · have hb := of_decide_eq_false hb
    show x = zx t w p (N % 2 ^ (i + 1))
    rw [hs, show N / 2 ^ i % 2 = 0 by omega, Nat.mul_zero, Nat.add_zero, hx]
  · have hb := of_decide_eq_false hb
    show y = zy t w p (N % 2 ^ (i + 1))
    rw [hs, show N / 2 ^ i % 2 = 0 by omega, Nat.mul_zero, Nat.add_zero, hy]

theorem p_half : GoodF Tryd.f86 s_half := by
  intro ms p r h hp hf
  unfold s_half at h
  split at h
  · rename_i t n w k p l
    simp only [Option.some.injEq, Prod.mk.injEq] at h
    obtain ⟨rfl, rfl⟩ := h
    obtain ⟨h1, h2, h3, h4, h5, h6⟩ : n ≤ 10000 ∧ k ≤ 10000 ∧ l ≤ 10000 ∧ 2 ≤ p ∧ 0 ≤ t ∧ t < p := hp
    have hpl : p.natAbs < 2 ^ l := hf.2.2.1
    refine ⟨env [c_mof, c_iadd, c_mdiv, c_half1, c_bits] (a_half t w p n k l), ?_⟩
    rw [← vc_half t w p n k l]
    have hN : ((p + 1) / 2).natAbs = halfN p := rfl
    rw [hN]
    have hNl : halfN p < 2 ^ l := by unfold halfN; omega
    have hbl : bl (halfN p) ≤ l := bl_le_of hNl
    generalize halfN p = N at *
    have x0 : (1 : Int) = zx t w p (N % 2 ^ 0) := by
      rw [Nat.pow_zero, Nat.mod_one]
      show 1 = 1 % p
      rw [Int.emod_eq_of_lt (by omega) (by omega)]
    have y0 : (0 : Int) = zy t w p (N % 2 ^ 0) := by
      rw [Nat.pow_zero, Nat.mod_one]
      show 0 = 0 % p
      rw [Int.zero_emod]
    have u0 : t = zx t w p (2 ^ 0) := by
      unfold zx
      rw [Nat.pow_zero, zp_one, Int.emod_eq_of_lt h5 h6]
    have v0 : (1 : Int) = zy t w p (2 ^ 0) := by
      unfold zy
      rw [Nat.pow_zero, zp_one]
      show 1 = 1 % p
      rw [Int.emod_eq_of_lt (by omega) (by omega)]
    refine ⟨by omega, ⟨by omega, by omega⟩, by omega, ⟨by omega, by omega, by omega⟩, by omega, by omega, by omega, ⟨⟨0, 1, 0, t, 1⟩, ⟨Nat.zero_le _, x0, y0, u0, v0⟩, ?_⟩, ?_⟩
    · and_intros <;> first | exact True.intro | rfl | exact .inl (Nat.le_refl _) | exact .inl (by omega)
    rintro ⟨i, x, y, u, v⟩ hI
    dsimp only
    rw [Bool.cond_decide]
    split
    · rename_i hc
      have hc : i < bl N := by omega
      have e2 : Int.tdiv (i : Int) 32 = ((i / 32 : Nat) : Int) := rfl
      have e3 : Int.tmod (i : Int) 32 = ((i % 32 : Nat) : Int) := rfl
      have e4 : IntKind.wrap IntKind.i64 ((i / 32 : Nat) : Int) = ((i / 32 : Nat) : Int) := i64w (by omega) (by omega)
      have e5 : IntKind.wrap IntKind.i64 ((i : Int) + 1) = ((i + 1 : Nat) : Int) := by rw [i64w (by omega) (by omega)]; omega
      have hidx := limbs_idx hc
      rw [e2, e3, e4, e5, Int.toNat_natCast, Int.toNat_natCast, bit_word]
      refine ⟨by omega, ⟨by omega, by omega⟩, by omega, by omega, ?_⟩
      obtain ⟨st1, st2⟩ := hI.step hc
      cases hb : decide (N / 2 ^ i % 2 = 1) with
      | true =>
        rw [cond_true]
        refine ⟨⟨by omega, by omega, by omega, by omega, by omega, by omega, by omega⟩, ⟨by omega, by omega, by omega, by omega, by omega, by omega, by omega⟩, ⟨i + 1, _, _, _, _⟩, st1 hb, ?_, by show bl N - (i + 1) < bl N - i; omega⟩
        and_intros <;> first | exact True.intro | rfl | exact .inl (Nat.le_refl _) | exact .inl (by omega)
      | false =>
        rw [cond_false]
        refine ⟨⟨by omega, by omega, by omega, by omega, by omega, by omega, by omega⟩, ⟨i + 1, _, _, _, _⟩, st2 hb, ?_, by show bl N - (i + 1) < bl N - i; omega⟩
        and_intros <;> first | exact True.intro | rfl | exact .inl (Nat.le_refl _) | exact .inl (by omega)
    · rename_i hc
      have h1 : i ≤ bl N := hI.i
      have hx : x = zx t w p (N % 2 ^ i) := hI.x
      have hi : i = bl N := by omega
      rw [hi, Nat.mod_eq_of_lt (bl_lt N)] at hx
      refine ⟨hx, .inr ?_⟩
      have q0 : 0 ≤ x ∧ x < p := by rw [hx]; exact ⟨Int.emod_nonneg _ (by omega), Int.emod_lt_of_pos _ (by omega)⟩
      omega
  · simp at h
def c_half : Ctr Tryd.prog := ⟨86, s_half, fun args w => Tryd.call86 args w, fn_ok_facts mix Tryd.func86 s_half p_half⟩

/-! ### Sqrt -/
/-- Where the search ends. -/
def sqW (a p : Int) (t : Nat) : Int := ((t : Int) * t - a) % p
def sqStop (a p : Int) (t : Nat) : Bool := decide (sqW a p t = 0) || decide (kro (sqW a p t) p = -1)
def sqFind (a p : Int) : Nat → Nat → Nat
  | 0, t => t
  | f + 1, t => cond (sqStop a p t) t (sqFind a p f (t + 1))
def sqT (a p : Int) : Nat := sqFind a p p.toNat 0
def sqX (a p : Int) : Int := if sqW a p (sqT a p) = 0 then (sqT a p : Int) else zx (sqT a p) (sqW a p (sqT a p)) p (halfN p)
def sqV (a p : Int) : Int := if -sqX a p % p < sqX a p then -sqX a p % p else sqX a p
def sqrtR (a p : Int) (l : Nat) : MRes :=
  .br (decide (p < 2)) (.ret (.tup [.big 0 0, .int .i64 1])) (.br (decide (p % 2 = 0) || decide (a % p = 0)) (.ret (.tup [.big (a % p) l, .int .i64 0]))
    (.br (decide (kro (a % p) p = 1)) (.ret (.tup [.big (sqV (a % p) p) l, .int .i64 0])) (.ret (.tup [.big 0 0, .int .i64 6]))))
structure SqHas (a p : Int) : Prop where
  h : 2 ≤ p → p % 2 = 1 → kro (a % p) p = 1 → ∃ t : Nat, (t : Int) < p ∧ sqStop (a % p) p t = true
def s_sqrt : FSpec
  | [.big a n, .big p l] => some (some (n ≤ 3000 ∧ l ≤ 3000 ∧ SqHas a p), sqrtR a p l)
  | _ => none
structure SqS where
  t : Nat
structure SqI (a p : Int) (s : SqS) : Prop where
  le : s.t ≤ sqT a p
def sqS (a p : Int) (l : Nat) (s : SqS) : MS := ⟨74, [(2, .bp 0 0), (3, .bp 1 0), (4, .bp 2 0), (6, .bp 3 0), (7, .bp 4 0)], [⟨false, .one (.big a l)⟩, ⟨false, .one (.big p l)⟩, ⟨false, .one (.big 0 0)⟩, ⟨false, .one (.big s.t l)⟩, ⟨false, .one (.big (sqW a p s.t) l)⟩], 0⟩
def a_sqrt (a p : Int) (l : Nat) : Nat → MS → Option LoopAnn
  | 10, _ => some (.inv SqS (SqI a p) (sqS a p l) (fun s => p.toNat - s.t))
  | _, _ => none
structure SqE (a p : Int) (s : SqS) : Prop where
  lt : (s.t : Int) < p
  eq : s.t = sqT a p
def k_sqrt (a p : Int) (l : Nat) : Nat → MS → Option CutAnn
  | 14, _ => some (.mk SqS (SqE a p) (sqS a p l))
  | _, _ => none
theorem vc_sqrt (a p : Int) (n l : Nat) : (((-9223372036854775808 : Int) ≤ (2 : Int) ∧ (2 : Int) ≤ (9223372036854775807 : Int)) ∧ (l ≤ (1000000 : Nat) ∧ (64 : Nat) ≤ (1000000 : Nat)) ∧ bif decide (icmp p (2 : Int) < (0 : Int)) then bif decide (p < (2 : Int)) then ((0 : Int) = (0 : Int) ∧ ((0 : Nat) ≤ (0 : Nat) ∨ Int.natAbs (0 : Int) < (2 : Nat) ^ (0 : Nat))) ∧ (1 : Int) = (1 : Int) ∧ True else bif decide (p % (2 : Int) = (0 : Int)) || decide (a % p = (0 : Int)) then ((0 : Int) = a % p ∧ ((0 : Nat) ≤ l ∨ Int.natAbs (0 : Int) < (2 : Nat) ^ l)) ∧ (1 : Int) = (0 : Int) ∧ True else bif decide (kro (a % p) p = (1 : Int)) then ((0 : Int) = sqV (a % p) p ∧ ((0 : Nat) ≤ l ∨ Int.natAbs (0 : Int) < (2 : Nat) ^ l)) ∧ (1 : Int) = (0 : Int) ∧ True else ((0 : Int) = (0 : Int) ∧ ((0 : Nat) ≤ (0 : Nat) ∨ Int.natAbs (0 : Int) < (2 : Nat) ^ (0 : Nat))) ∧ (1 : Int) = (6 : Int) ∧ True else (n ≤ (900000 : Nat) ∧ l ≤ (900000 : Nat) ∧ (p = (0 : Int) → False)) ∧ l ≤ (1000000 : Nat) ∧ bif !decide (p % (2 : Int) = (1 : Int)) then bif decide (p < (2 : Int)) then (a % p = (0 : Int) ∧ (l ≤ (0 : Nat) ∨ Int.natAbs (a % p) < (2 : Nat) ^ (0 : Nat))) ∧ (0 : Int) = (1 : Int) ∧ True else bif decide (p % (2 : Int) = (0 : Int)) || decide (a % p = (0 : Int)) then (a % p = a % p ∧ (l ≤ l ∨ Int.natAbs (a % p) < (2 : Nat) ^ l)) ∧ (0 : Int) = (0 : Int) ∧ True else bif decide (kro (a % p) p = (1 : Int)) then (a % p = sqV (a % p) p ∧ (l ≤ l ∨ Int.natAbs (a % p) < (2 : Nat) ^ l)) ∧ (0 : Int) = (0 : Int) ∧ True else (a % p = (0 : Int) ∧ (l ≤ (0 : Nat) ∨ Int.natAbs (a % p) < (2 : Nat) ^ (0 : Nat))) ∧ (0 : Int) = (6 : Int) ∧ True else bif sgn (a % p) == (0 : Int) then bif decide (p < (2 : Int)) then (a % p = (0 : Int) ∧ (l ≤ (0 : Nat) ∨ Int.natAbs (a % p) < (2 : Nat) ^ (0 : Nat))) ∧ (0 : Int) = (1 : Int) ∧ True else bif decide (p % (2 : Int) = (0 : Int)) || decide (a % p = (0 : Int)) then (a % p = a % p ∧ (l ≤ l ∨ Int.natAbs (a % p) < (2 : Nat) ^ l)) ∧ (0 : Int) = (0 : Int) ∧ True else bif decide (kro (a % p) p = (1 : Int)) then (a % p = sqV (a % p) p ∧ (l ≤ l ∨ Int.natAbs (a % p) < (2 : Nat) ^ l)) ∧ (0 : Int) = (0 : Int) ∧ True else (a % p = (0 : Int) ∧ (l ≤ (0 : Nat) ∨ Int.natAbs (a % p) < (2 : Nat) ^ (0 : Nat))) ∧ (0 : Int) = (6 : Int) ∧ True else (l ≤ (200000 : Nat) ∧ l ≤ (200000 : Nat)) ∧ bif kro (a % p) p != (1 : Int) then bif decide (p < (2 : Int)) then ((0 : Int) = (0 : Int) ∧ ((0 : Nat) ≤ (0 : Nat) ∨ Int.natAbs (0 : Int) < (2 : Nat) ^ (0 : Nat))) ∧ (6 : Int) = (1 : Int) ∧ True else bif decide (p % (2 : Int) = (0 : Int)) || decide (a % p = (0 : Int)) then ((0 : Int) = a % p ∧ ((0 : Nat) ≤ l ∨ Int.natAbs (0 : Int) < (2 : Nat) ^ l)) ∧ (6 : Int) = (0 : Int) ∧ True else bif decide (kro (a % p) p = (1 : Int)) then ((0 : Int) = sqV (a % p) p ∧ ((0 : Nat) ≤ l ∨ Int.natAbs (0 : Int) < (2 : Nat) ^ l)) ∧ (6 : Int) = (0 : Int) ∧ True else ((0 : Int) = (0 : Int) ∧ ((0 : Nat) ≤ (0 : Nat) ∨ Int.natAbs (0 : Int) < (2 : Nat) ^ (0 : Nat))) ∧ (6 : Int) = (6 : Int) ∧ True else l ≤ (1000000 : Nat) ∧ (l ≤ (900000 : Nat) ∧ l ≤ (900000 : Nat) ∧ (p = (0 : Int) → False)) ∧ ((∃ i, SqI (a % p) p i ∧ ((0 : Nat) = (0 : Nat) ∧ (0 : Nat) = (0 : Nat) ∧ (0 : Nat) = (0 : Nat) ∧ (0 : Nat) = (0 : Nat) ∧ (0 : Nat) = (0 : Nat) ∧ True) ∧ (a % p = a % p ∧ (l ≤ l ∨ Int.natAbs (a % p) < (2 : Nat) ^ l)) ∧ (p = p ∧ (l ≤ l ∨ Int.natAbs p < (2 : Nat) ^ l)) ∧ ((0 : Int) = (0 : Int) ∧ ((0 : Nat) ≤ (0 : Nat) ∨ Int.natAbs (0 : Int) < (2 : Nat) ^ (0 : Nat))) ∧ ((0 : Int) = (↑(SqS.t i) : Int) ∧ ((0 : Nat) ≤ l ∨ Int.natAbs (0 : Int) < (2 : Nat) ^ l)) ∧ (-(a % p) % p = sqW (a % p) p (SqS.t i) ∧ (l ≤ l ∨ Int.natAbs (-(a % p) % p) < (2 : Nat) ^ l)) ∧ True) ∧ ∀ (i : SqS), SqI (a % p) p i → bif sgn (sqW (a % p) p (SqS.t i)) == (0 : Int) then ∃ i_1, SqE (a % p) p i_1 ∧ ((0 : Nat) = (0 : Nat) ∧ (0 : Nat) = (0 : Nat) ∧ (0 : Nat) = (0 : Nat) ∧ (0 : Nat) = (0 : Nat) ∧ (0 : Nat) = (0 : Nat) ∧ True) ∧ (a % p = a % p ∧ (l ≤ l ∨ Int.natAbs (a % p) < (2 : Nat) ^ l)) ∧ (p = p ∧ (l ≤ l ∨ Int.natAbs p < (2 : Nat) ^ l)) ∧ ((0 : Int) = (0 : Int) ∧ ((0 : Nat) ≤ (0 : Nat) ∨ Int.natAbs (0 : Int) < (2 : Nat) ^ (0 : Nat))) ∧ ((↑(SqS.t i) : Int) = (↑(SqS.t i_1) : Int) ∧ (l ≤ l ∨ Int.natAbs (↑(SqS.t i) : Int) < (2 : Nat) ^ l)) ∧ (sqW (a % p) p (SqS.t i) = sqW (a % p) p (SqS.t i_1) ∧ (l ≤ l ∨ Int.natAbs (sqW (a % p) p (SqS.t i)) < (2 : Nat) ^ l)) ∧ True else (l ≤ (200000 : Nat) ∧ l ≤ (200000 : Nat)) ∧ bif kro (sqW (a % p) p (SqS.t i)) p == (-1 : Int) then ∃ i_1, SqE (a % p) p i_1 ∧ ((0 : Nat) = (0 : Nat) ∧ (0 : Nat) = (0 : Nat) ∧ (0 : Nat) = (0 : Nat) ∧ (0 : Nat) = (0 : Nat) ∧ (0 : Nat) = (0 : Nat) ∧ True) ∧ (a % p = a % p ∧ (l ≤ l ∨ Int.natAbs (a % p) < (2 : Nat) ^ l)) ∧ (p = p ∧ (l ≤ l ∨ Int.natAbs p < (2 : Nat) ^ l)) ∧ ((0 : Int) = (0 : Int) ∧ ((0 : Nat) ≤ (0 : Nat) ∨ Int.natAbs (0 : Int) < (2 : Nat) ^ (0 : Nat))) ∧ ((↑(SqS.t i) : Int) = (↑(SqS.t i_1) : Int) ∧ (l ≤ l ∨ Int.natAbs (↑(SqS.t i) : Int) < (2 : Nat) ^ l)) ∧ (sqW (a % p) p (SqS.t i) = sqW (a % p) p (SqS.t i_1) ∧ (l ≤ l ∨ Int.natAbs (sqW (a % p) p (SqS.t i)) < (2 : Nat) ^ l)) ∧ True else ((-9223372036854775808 : Int) ≤ (1 : Int) ∧ (1 : Int) ≤ (9223372036854775807 : Int)) ∧ (l ≤ (1000000 : Nat) ∧ (64 : Nat) ≤ (1000000 : Nat)) ∧ (max l (64 : Nat) + (1 : Nat) ≤ (1000000 : Nat) ∧ max l (64 : Nat) + (1 : Nat) ≤ (1000000 : Nat)) ∧ (max l (64 : Nat) + (1 : Nat) + (max l (64 : Nat) + (1 : Nat)) ≤ (1000000 : Nat) ∧ l ≤ (1000000 : Nat)) ∧ (max (max l (64 : Nat) + (1 : Nat) + (max l (64 : Nat) + (1 : Nat))) l + (1 : Nat) ≤ (900000 : Nat) ∧ l ≤ (900000 : Nat) ∧ (p = (0 : Int) → False)) ∧ ∃ j, SqI (a % p) p j ∧ (((0 : Nat) = (0 : Nat) ∧ (0 : Nat) = (0 : Nat) ∧ (0 : Nat) = (0 : Nat) ∧ (0 : Nat) = (0 : Nat) ∧ (0 : Nat) = (0 : Nat) ∧ True) ∧ (a % p = a % p ∧ (l ≤ l ∨ Int.natAbs (a % p) < (2 : Nat) ^ l)) ∧ (p = p ∧ (l ≤ l ∨ Int.natAbs p < (2 : Nat) ^ l)) ∧ ((0 : Int) = (0 : Int) ∧ ((0 : Nat) ≤ (0 : Nat) ∨ Int.natAbs (0 : Int) < (2 : Nat) ^ (0 : Nat))) ∧ ((↑(SqS.t i) : Int) + (1 : Int) = (↑(SqS.t j) : Int) ∧ (max l (64 : Nat) + (1 : Nat) ≤ l ∨ Int.natAbs ((↑(SqS.t i) : Int) + (1 : Int)) < (2 : Nat) ^ l)) ∧ ((((↑(SqS.t i) : Int) + (1 : Int)) * ((↑(SqS.t i) : Int) + (1 : Int)) - a % p) % p = sqW (a % p) p (SqS.t j) ∧ (l ≤ l ∨ Int.natAbs ((((↑(SqS.t i) : Int) + (1 : Int)) * ((↑(SqS.t i) : Int) + (1 : Int)) - a % p) % p) < (2 : Nat) ^ l)) ∧ True) ∧ Int.toNat p - SqS.t j < Int.toNat p - SqS.t i) ∧ ∀ (i : SqS), SqE (a % p) p i → bif sgn (sqW (a % p) p (SqS.t i)) != (0 : Int) then (l ≤ (10000 : Nat) ∧ l ≤ (10000 : Nat) ∧ l ≤ (10000 : Nat) ∧ (2 : Int) ≤ p ∧ (0 : Int) ≤ (↑(SqS.t i) : Int) ∧ (↑(SqS.t i) : Int) < p) ∧ l ≤ (1000000 : Nat) ∧ (l ≤ (900000 : Nat) ∧ l ≤ (900000 : Nat) ∧ (p = (0 : Int) → False)) ∧ (l ≤ (1000000 : Nat) ∧ l ≤ (1000000 : Nat)) ∧ bif decide (icmp (-zx (↑(SqS.t i) : Int) (sqW (a % p) p (SqS.t i)) p (halfN p) % p) (zx (↑(SqS.t i) : Int) (sqW (a % p) p (SqS.t i)) p (halfN p)) < (0 : Int)) then bif decide (p < (2 : Int)) then (-zx (↑(SqS.t i) : Int) (sqW (a % p) p (SqS.t i)) p (halfN p) % p = (0 : Int) ∧ (l ≤ (0 : Nat) ∨ Int.natAbs (-zx (↑(SqS.t i) : Int) (sqW (a % p) p (SqS.t i)) p (halfN p) % p) < (2 : Nat) ^ (0 : Nat))) ∧ (0 : Int) = (1 : Int) ∧ True else bif decide (p % (2 : Int) = (0 : Int)) || decide (a % p = (0 : Int)) then (-zx (↑(SqS.t i) : Int) (sqW (a % p) p (SqS.t i)) p (halfN p) % p = a % p ∧ (l ≤ l ∨ Int.natAbs (-zx (↑(SqS.t i) : Int) (sqW (a % p) p (SqS.t i)) p (halfN p) % p) < (2 : Nat) ^ l)) ∧ (0 : Int) = (0 : Int) ∧ True else bif decide (kro (a % p) p = (1 : Int)) then (-zx (↑(SqS.t i) : Int) (sqW (a % p) p (SqS.t i)) p (halfN p) % p = sqV (a % p) p ∧ (l ≤ l ∨ Int.natAbs (-zx (↑(SqS.t i) : Int) (sqW (a % p) p (SqS.t i)) p (halfN p) % p) < (2 : Nat) ^ l)) ∧ (0 : Int) = (0 : Int) ∧ True else (-zx (↑(SqS.t i) : Int) (sqW (a % p) p (SqS.t i)) p (halfN p) % p = (0 : Int) ∧ (l ≤ (0 : Nat) ∨ Int.natAbs (-zx (↑(SqS.t i) : Int) (sqW (a % p) p (SqS.t i)) p (halfN p) % p) < (2 : Nat) ^ (0 : Nat))) ∧ (0 : Int) = (6 : Int) ∧ True else bif decide (p < (2 : Int)) then (zx (↑(SqS.t i) : Int) (sqW (a % p) p (SqS.t i)) p (halfN p) = (0 : Int) ∧ (l ≤ (0 : Nat) ∨ Int.natAbs (zx (↑(SqS.t i) : Int) (sqW (a % p) p (SqS.t i)) p (halfN p)) < (2 : Nat) ^ (0 : Nat))) ∧ (0 : Int) = (1 : Int) ∧ True else bif decide (p % (2 : Int) = (0 : Int)) || decide (a % p = (0 : Int)) then (zx (↑(SqS.t i) : Int) (sqW (a % p) p (SqS.t i)) p (halfN p) = a % p ∧ (l ≤ l ∨ Int.natAbs (zx (↑(SqS.t i) : Int) (sqW (a % p) p (SqS.t i)) p (halfN p)) < (2 : Nat) ^ l)) ∧ (0 : Int) = (0 : Int) ∧ True else bif decide (kro (a % p) p = (1 : Int)) then (zx (↑(SqS.t i) : Int) (sqW (a % p) p (SqS.t i)) p (halfN p) = sqV (a % p) p ∧ (l ≤ l ∨ Int.natAbs (zx (↑(SqS.t i) : Int) (sqW (a % p) p (SqS.t i)) p (halfN p)) < (2 : Nat) ^ l)) ∧ (0 : Int) = (0 : Int) ∧ True else (zx (↑(SqS.t i) : Int) (sqW (a % p) p (SqS.t i)) p (halfN p) = (0 : Int) ∧ (l ≤ (0 : Nat) ∨ Int.natAbs (zx (↑(SqS.t i) : Int) (sqW (a % p) p (SqS.t i)) p (halfN p)) < (2 : Nat) ^ (0 : Nat))) ∧ (0 : Int) = (6 : Int) ∧ True else l ≤ (1000000 : Nat) ∧ (l ≤ (900000 : Nat) ∧ l ≤ (900000 : Nat) ∧ (p = (0 : Int) → False)) ∧ (l ≤ (1000000 : Nat) ∧ l ≤ (1000000 : Nat)) ∧ bif decide (icmp (-(↑(SqS.t i) : Int) % p) (↑(SqS.t i) : Int) < (0 : Int)) then bif decide (p < (2 : Int)) then (-(↑(SqS.t i) : Int) % p = (0 : Int) ∧ (l ≤ (0 : Nat) ∨ Int.natAbs (-(↑(SqS.t i) : Int) % p) < (2 : Nat) ^ (0 : Nat))) ∧ (0 : Int) = (1 : Int) ∧ True else bif decide (p % (2 : Int) = (0 : Int)) || decide (a % p = (0 : Int)) then (-(↑(SqS.t i) : Int) % p = a % p ∧ (l ≤ l ∨ Int.natAbs (-(↑(SqS.t i) : Int) % p) < (2 : Nat) ^ l)) ∧ (0 : Int) = (0 : Int) ∧ True else bif decide (kro (a % p) p = (1 : Int)) then (-(↑(SqS.t i) : Int) % p = sqV (a % p) p ∧ (l ≤ l ∨ Int.natAbs (-(↑(SqS.t i) : Int) % p) < (2 : Nat) ^ l)) ∧ (0 : Int) = (0 : Int) ∧ True else (-(↑(SqS.t i) : Int) % p = (0 : Int) ∧ (l ≤ (0 : Nat) ∨ Int.natAbs (-(↑(SqS.t i) : Int) % p) < (2 : Nat) ^ (0 : Nat))) ∧ (0 : Int) = (6 : Int) ∧ True else bif decide (p < (2 : Int)) then ((↑(SqS.t i) : Int) = (0 : Int) ∧ (l ≤ (0 : Nat) ∨ Int.natAbs (↑(SqS.t i) : Int) < (2 : Nat) ^ (0 : Nat))) ∧ (0 : Int) = (1 : Int) ∧ True else bif decide (p % (2 : Int) = (0 : Int)) || decide (a % p = (0 : Int)) then ((↑(SqS.t i) : Int) = a % p ∧ (l ≤ l ∨ Int.natAbs (↑(SqS.t i) : Int) < (2 : Nat) ^ l)) ∧ (0 : Int) = (0 : Int) ∧ True else bif decide (kro (a % p) p = (1 : Int)) then ((↑(SqS.t i) : Int) = sqV (a % p) p ∧ (l ≤ l ∨ Int.natAbs (↑(SqS.t i) : Int) < (2 : Nat) ^ l)) ∧ (0 : Int) = (0 : Int) ∧ True else ((↑(SqS.t i) : Int) = (0 : Int) ∧ (l ≤ (0 : Nat) ∨ Int.natAbs (↑(SqS.t i) : Int) < (2 : Nat) ^ (0 : Nat))) ∧ (0 : Int) = (6 : Int) ∧ True) = evFn (envC [c_mof, c_icmp, c_mmod, c_modd, c_sign, c_kron, c_neg, c_iadd, c_isub, c_mul, c_half] (a_sqrt (a % p) p l) (k_sqrt (a % p) p l)) Tryd.f64 [.big a n, .big p l] (MRes.sat (sqrtR a p l)) := by kernel_rfl

theorem sqFind_spec (a p : Int) : ∀ (f t : Nat), (∃ T, t ≤ T ∧ T < t + f ∧ sqStop a p T = true) → t ≤ sqFind a p f t ∧ sqFind a p f t < t + f ∧ sqStop a p (sqFind a p f t) = true ∧ ∀ s, t ≤ s → s < sqFind a p f t → sqStop a p s = false := by
  intro f
  induction f with
  | zero => rintro t ⟨T, h1, h2, _⟩; omega
  | succ f ih =>
    rintro t ⟨T, h1, h2, h3⟩
    simp only [sqFind]
    cases hs : sqStop a p t with
    | true => exact ⟨Nat.le_refl _, by rw [cond_true]; omega, hs, fun s q1 q2 => by rw [cond_true] at q2; omega⟩
    | false =>
      have hne : T ≠ t := fun e => by rw [e, hs] at h3; simp at h3
      obtain ⟨k1, k2, k3, k4⟩ := ih (t + 1) ⟨T, by omega, by omega, h3⟩
      rw [cond_false]
      refine ⟨by omega, by omega, k3, fun s q1 q2 => ?_⟩
      by_cases e : s = t
      · rw [e, hs]
      · exact k4 s (by omega) q2
theorem sqT_spec {a p : Int} (h : ∃ t : Nat, (t : Int) < p ∧ sqStop a p t = true) : (sqT a p : Int) < p ∧ sqStop a p (sqT a p) = true ∧ ∀ s, s < sqT a p → sqStop a p s = false := by
  obtain ⟨T, h1, h2⟩ := h
  obtain ⟨k1, k2, k3, k4⟩ := sqFind_spec a p p.toNat 0 ⟨T, Nat.zero_le _, by omega, h2⟩
  refine ⟨?_, k3, fun s hs => k4 s (Nat.zero_le _) hs⟩
  show (sqFind a p p.toNat 0 : Int) < p
  omega
theorem icmp_ltd (a b : Int) : decide (icmp a b < 0) = decide (a < b) := by
  refine decide_eq_decide.2 ?_
  unfold icmp
  split <;> (try split) <;> omega
theorem sgn_eq0 (x : Int) : (sgn x == 0) = decide (x = 0) := by
  unfold sgn
  by_cases h : x = 0
  · rw [if_pos h, decide_eq_true h]; rfl
  · rw [if_neg h, decide_eq_false h]
    split <;> rfl
theorem sgn_ne0 (x : Int) : (sgn x != 0) = !decide (x = 0) := by
  show (!(sgn x == 0)) = _
  rw [sgn_eq0]

theorem p_sqrt : GoodF Tryd.f64 s_sqrt := by
  intro ms p r h hp hf
  unfold s_sqrt at h
  split at h
  · rename_i a n p l
    simp only [Option.some.injEq, Prod.mk.injEq] at h
    obtain ⟨rfl, rfl⟩ := h
    obtain ⟨hn, hl, ⟨hT⟩⟩ : n ≤ 3000 ∧ l ≤ 3000 ∧ SqHas a p := hp
    have hpl : p.natAbs < 2 ^ l := hf.2.1
    refine ⟨envC [c_mof, c_icmp, c_mmod, c_modd, c_sign, c_kron, c_neg, c_iadd, c_isub, c_mul, c_half] (a_sqrt (a % p) p l) (k_sqrt (a % p) p l), ?_⟩
    rw [← vc_sqrt a p n l, icmp_ltd]
    refine ⟨by omega, ⟨by omega, by omega⟩, ?_⟩
    by_cases hp2 : p < 2
    · rw [decide_eq_true hp2]
      exact ⟨⟨rfl, .inl (Nat.le_refl _)⟩, rfl, True.intro⟩
    rw [decide_eq_false hp2, cond_false]
    refine ⟨⟨by omega, by omega, by omega⟩, by omega, ?_⟩
    by_cases ho : p % 2 = 1
    · rw [decide_eq_true ho, decide_eq_false (show ¬ p % 2 = 0 by omega), Bool.not_true, cond_false, sgn_eq0, Bool.false_or]
      by_cases ha : a % p = 0
      · rw [decide_eq_true ha]
        exact ⟨⟨rfl, .inl (Nat.le_refl _)⟩, rfl, True.intro⟩
      rw [decide_eq_false ha, cond_false]
      refine ⟨⟨by omega, by omega⟩, ?_⟩
      by_cases hk : kro (a % p) p = 1
      · have e1 : (kro (a % p) p != 1) = false := by rw [hk]; rfl
        rw [e1, cond_false]
        obtain ⟨t1, t2, t3⟩ := sqT_spec (hT (by omega) ho hk)
        have hkd : decide (kro (a % p) p = 1) = true := decide_eq_true hk
        rw [hkd]
        clear hT hkd
        generalize a % p = A at *
        refine ⟨by omega, ⟨by omega, by omega, by omega⟩, ⟨⟨⟨0⟩, ⟨Nat.zero_le _⟩, ?_⟩, ?_⟩, ?_⟩
        · have e0 : -A % p = sqW A p 0 := by
            unfold sqW
            congr 1
            show -A = 0 * 0 - A
            omega
          and_intros <;> first | exact True.intro | exact e0 | rfl | exact .inl (Nat.le_refl _) | exact .inl (Nat.zero_le _)
        · rintro ⟨t⟩ hI
          have hle : t ≤ sqT A p := hI.le
          clear hI
          dsimp only
          rw [sgn_eq0]
          have hwb : (sqW A p t).natAbs < 2 ^ l := by
            have h1 := Int.emod_nonneg ((t : Int) * t - A) (show p ≠ 0 by omega)
            have h2 := Int.emod_lt_of_pos ((t : Int) * t - A) (show 0 < p by omega)
            unfold sqW
            omega
          have hend : sqStop A p t = true → ∃ i_1, SqE A p i_1 ∧ ((0 : Nat) = (0 : Nat) ∧ (0 : Nat) = (0 : Nat) ∧ (0 : Nat) = (0 : Nat) ∧ (0 : Nat) = (0 : Nat) ∧ (0 : Nat) = (0 : Nat) ∧ True) ∧ (A = A ∧ (l ≤ l ∨ Int.natAbs A < (2 : Nat) ^ l)) ∧ (p = p ∧ (l ≤ l ∨ Int.natAbs p < (2 : Nat) ^ l)) ∧
              ((0 : Int) = (0 : Int) ∧ ((0 : Nat) ≤ (0 : Nat) ∨ Int.natAbs (0 : Int) < (2 : Nat) ^ (0 : Nat))) ∧ ((t : Int) = (SqS.t i_1 : Int) ∧ (l ≤ l ∨ Int.natAbs (t : Int) < (2 : Nat) ^ l)) ∧ (sqW A p t = sqW A p (SqS.t i_1) ∧ (l ≤ l ∨ Int.natAbs (sqW A p t) < (2 : Nat) ^ l)) ∧ True := fun hs => by
            have he : t = sqT A p := by
              rcases Nat.lt_or_ge t (sqT A p) with q | q
              · have := t3 t q
                rw [hs] at this; simp at this
              · omega
            refine ⟨⟨t⟩, ⟨by show (t : Int) < p; omega, he⟩, ?_⟩
            and_intros <;> first | exact True.intro | rfl | exact .inl (Nat.le_refl _)
          by_cases hw0 : sqW A p t = 0
          · rw [decide_eq_true hw0, cond_true]
            exact hend (by unfold sqStop; rw [decide_eq_true hw0]; rfl)
          · rw [decide_eq_false hw0, cond_false]
            refine ⟨⟨by omega, by omega⟩, ?_⟩
            by_cases hk1 : kro (sqW A p t) p = -1
            · have e2 : (kro (sqW A p t) p == -1) = true := by rw [hk1]; rfl
              rw [e2, cond_true]
              exact hend (by unfold sqStop; rw [decide_eq_true hk1, Bool.or_true])
            · have e2 : (kro (sqW A p t) p == -1) = false := by simpa using hk1
              rw [e2, cond_false]
              have hlt : t + 1 ≤ sqT A p := by
                rcases Nat.lt_or_ge t (sqT A p) with q | q
                · exact q
                · have : t = sqT A p := by omega
                  rw [← this] at t2
                  unfold sqStop at t2
                  rw [decide_eq_false hw0, decide_eq_false hk1] at t2
                  simp at t2
              have e3 : (t : Int) + 1 = ((t + 1 : Nat) : Int) := by omega
              have htl : ((t + 1 : Nat) : Int).natAbs < 2 ^ l := by omega
              rw [e3]
              refine ⟨by omega, ⟨by omega, by omega⟩, ⟨by omega, by omega⟩, ⟨by omega, by omega⟩, ⟨by omega, by omega, by omega⟩, ⟨t + 1⟩, ⟨hlt⟩, ?_, by show p.toNat - (t + 1) < p.toNat - t; omega⟩
              and_intros <;> first | exact True.intro | rfl | exact .inl (Nat.le_refl _) | exact .inr htl
        · rintro ⟨t⟩ hI
          have htp : (t : Int) < p := hI.lt
          have he : t = sqT A p := hI.eq
          clear hI
          dsimp only
          rw [sgn_ne0]
          have hX : sqX A p = if sqW A p t = 0 then (t : Int) else zx t (sqW A p t) p (halfN p) := by unfold sqX; rw [← he]
          have hV : sqV A p = if -sqX A p % p < sqX A p then -sqX A p % p else sqX A p := rfl
          by_cases hw0 : sqW A p t = 0
          · rw [if_pos hw0] at hX
            rw [decide_eq_true hw0, Bool.not_true, cond_false]
            refine ⟨by omega, ⟨by omega, by omega, by omega⟩, ⟨by omega, by omega⟩, ?_⟩
            rw [hX] at hV
            rw [icmp_ltd]
            by_cases hm : -(t : Int) % p < t
            · rw [if_pos hm] at hV
              rw [decide_eq_true hm, cond_true]
              exact ⟨⟨hV.symm, .inl (Nat.le_refl _)⟩, rfl, True.intro⟩
            · rw [if_neg hm] at hV
              rw [decide_eq_false hm, cond_false]
              exact ⟨⟨hV.symm, .inl (Nat.le_refl _)⟩, rfl, True.intro⟩
          · rw [if_neg hw0] at hX
            rw [decide_eq_false hw0, Bool.not_false, cond_true]
            refine ⟨⟨by omega, by omega, by omega, by omega, by omega, htp⟩, by omega, ⟨by omega, by omega, by omega⟩, ⟨by omega, by omega⟩, ?_⟩
            rw [hX] at hV
            rw [icmp_ltd]
            generalize zx t (sqW A p t) p (halfN p) = Z at *
            by_cases hm : -Z % p < Z
            · rw [if_pos hm] at hV
              rw [decide_eq_true hm, cond_true]
              exact ⟨⟨hV.symm, .inl (Nat.le_refl _)⟩, rfl, True.intro⟩
            · rw [if_neg hm] at hV
              rw [decide_eq_false hm, cond_false]
              exact ⟨⟨hV.symm, .inl (Nat.le_refl _)⟩, rfl, True.intro⟩
      · have e1 : (kro (a % p) p != 1) = true := by simpa using hk
        rw [e1, decide_eq_false hk]
        exact ⟨⟨rfl, .inl (Nat.le_refl _)⟩, rfl, True.intro⟩
    · rw [decide_eq_false ho, decide_eq_true (show p % 2 = 0 by omega)]
      exact ⟨⟨rfl, .inl (Nat.le_refl _)⟩, rfl, True.intro⟩
  · simp at h
def c_sqrt : Ctr Tryd.prog := ⟨64, s_sqrt, fun args w => Tryd.call64 args w, fn_ok_facts mix Tryd.func64 s_sqrt p_sqrt⟩

end Go.Proofs.YtcikhffhikgahaaDoor

/-
  Contracts of functions: package modular: Crt, Roots; lists of numbers.
-/
namespace Go.Proofs.YtcikhffhikgahaaDoor
open Go Go.RowKit

/-! ### Crt -/
noncomputable def crtM (m1 m2 : Int) : Int := m1 * (m2 / Int.gcd m1 m2)
noncomputable def crtR (r1 m1 r2 m2 : Int) : Int := (r1 + m1 * (bzu m1 m2 * ((r2 - r1) / Int.gcd m1 m2))) % crtM m1 m2
noncomputable def crtMR (r1 m1 r2 m2 : Int) (k1 k2 : Nat) : MRes :=
  .br (decide (0 < m1) && decide (0 < m2)) (.br (decide ((r2 - r1) % Int.gcd m1 m2 = 0)) (.ret (.tup [.big (crtR r1 m1 r2 m2) (k1 + k2), .big (crtM m1 m2) (k1 + k2), .int .i64 0])) (.ret (.tup [.big 0 0, .big 0 0, .int .i64 6]))) (.ret (.tup [.big 0 0, .big 0 0, .int .i64 1]))
noncomputable def s_crt : FSpec
  | [.big r1 n1, .big m1 k1, .big r2 n2, .big m2 k2] => some (some (n1 ≤ 1000 ∧ k1 ≤ 1000 ∧ n2 ≤ 1000 ∧ k2 ≤ 1000), crtMR r1 m1 r2 m2 k1 k2)
  | _ => none
theorem vc_crt (r1 m1 r2 m2 : Int) (n1 k1 n2 k2 : Nat) : (bif decide (sgn m1 < (1 : Int)) then bif decide ((0 : Int) < m1) && decide ((0 : Int) < m2) then bif decide ((r2 - r1) % (↑(Int.gcd m1 m2) : Int) = (0 : Int)) then ((0 : Int) = crtR r1 m1 r2 m2 ∧ ((0 : Nat) ≤ k1 + k2 ∨ Int.natAbs (0 : Int) < (2 : Nat) ^ (k1 + k2))) ∧ ((0 : Int) = crtM m1 m2 ∧ ((0 : Nat) ≤ k1 + k2 ∨ Int.natAbs (0 : Int) < (2 : Nat) ^ (k1 + k2))) ∧ (1 : Int) = (0 : Int) ∧ True else ((0 : Int) = (0 : Int) ∧ ((0 : Nat) ≤ (0 : Nat) ∨ Int.natAbs (0 : Int) < (2 : Nat) ^ (0 : Nat))) ∧ ((0 : Int) = (0 : Int) ∧ ((0 : Nat) ≤ (0 : Nat) ∨ Int.natAbs (0 : Int) < (2 : Nat) ^ (0 : Nat))) ∧ (1 : Int) = (6 : Int) ∧ True else ((0 : Int) = (0 : Int) ∧ ((0 : Nat) ≤ (0 : Nat) ∨ Int.natAbs (0 : Int) < (2 : Nat) ^ (0 : Nat))) ∧ ((0 : Int) = (0 : Int) ∧ ((0 : Nat) ≤ (0 : Nat) ∨ Int.natAbs (0 : Int) < (2 : Nat) ^ (0 : Nat))) ∧ (1 : Int) = (1 : Int) ∧ True else bif decide (sgn m2 < (1 : Int)) then bif decide ((0 : Int) < m1) && decide ((0 : Int) < m2) then bif decide ((r2 - r1) % (↑(Int.gcd m1 m2) : Int) = (0 : Int)) then ((0 : Int) = crtR r1 m1 r2 m2 ∧ ((0 : Nat) ≤ k1 + k2 ∨ Int.natAbs (0 : Int) < (2 : Nat) ^ (k1 + k2))) ∧ ((0 : Int) = crtM m1 m2 ∧ ((0 : Nat) ≤ k1 + k2 ∨ Int.natAbs (0 : Int) < (2 : Nat) ^ (k1 + k2))) ∧ (1 : Int) = (0 : Int) ∧ True else ((0 : Int) = (0 : Int) ∧ ((0 : Nat) ≤ (0 : Nat) ∨ Int.natAbs (0 : Int) < (2 : Nat) ^ (0 : Nat))) ∧ ((0 : Int) = (0 : Int) ∧ ((0 : Nat) ≤ (0 : Nat) ∨ Int.natAbs (0 : Int) < (2 : Nat) ^ (0 : Nat))) ∧ (1 : Int) = (6 : Int) ∧ True else ((0 : Int) = (0 : Int) ∧ ((0 : Nat) ≤ (0 : Nat) ∨ Int.natAbs (0 : Int) < (2 : Nat) ^ (0 : Nat))) ∧ ((0 : Int) = (0 : Int) ∧ ((0 : Nat) ≤ (0 : Nat) ∨ Int.natAbs (0 : Int) < (2 : Nat) ^ (0 : Nat))) ∧ (1 : Int) = (1 : Int) ∧ True else (k1 ≤ (300000 : Nat) ∧ k2 ≤ (300000 : Nat) ∧ (m2 = (0 : Int) → False)) ∧ (n2 ≤ (1000000 : Nat) ∧ n1 ≤ (1000000 : Nat)) ∧ (max n2 n1 + (1 : Nat) ≤ (900000 : Nat) ∧ k2 ≤ (900000 : Nat) ∧ ((↑(Int.gcd m1 m2) : Int) = (0 : Int) → False)) ∧ bif sgn ((r2 - r1) % (↑(Int.gcd m1 m2) : Int)) != (0 : Int) then bif decide ((0 : Int) < m1) && decide ((0 : Int) < m2) then bif decide ((r2 - r1) % (↑(Int.gcd m1 m2) : Int) = (0 : Int)) then ((0 : Int) = crtR r1 m1 r2 m2 ∧ ((0 : Nat) ≤ k1 + k2 ∨ Int.natAbs (0 : Int) < (2 : Nat) ^ (k1 + k2))) ∧ ((0 : Int) = crtM m1 m2 ∧ ((0 : Nat) ≤ k1 + k2 ∨ Int.natAbs (0 : Int) < (2 : Nat) ^ (k1 + k2))) ∧ (6 : Int) = (0 : Int) ∧ True else ((0 : Int) = (0 : Int) ∧ ((0 : Nat) ≤ (0 : Nat) ∨ Int.natAbs (0 : Int) < (2 : Nat) ^ (0 : Nat))) ∧ ((0 : Int) = (0 : Int) ∧ ((0 : Nat) ≤ (0 : Nat) ∨ Int.natAbs (0 : Int) < (2 : Nat) ^ (0 : Nat))) ∧ (6 : Int) = (6 : Int) ∧ True else ((0 : Int) = (0 : Int) ∧ ((0 : Nat) ≤ (0 : Nat) ∨ Int.natAbs (0 : Int) < (2 : Nat) ^ (0 : Nat))) ∧ ((0 : Int) = (0 : Int) ∧ ((0 : Nat) ≤ (0 : Nat) ∨ Int.natAbs (0 : Int) < (2 : Nat) ^ (0 : Nat))) ∧ (6 : Int) = (1 : Int) ∧ True else (k2 ≤ (900000 : Nat) ∧ k2 ≤ (900000 : Nat) ∧ ((↑(Int.gcd m1 m2) : Int) = (0 : Int) → False)) ∧ (k1 ≤ (1000000 : Nat) ∧ k2 ≤ (1000000 : Nat)) ∧ (k2 ≤ (1000000 : Nat) ∧ max n2 n1 + (1 : Nat) ≤ (1000000 : Nat)) ∧ (k1 ≤ (1000000 : Nat) ∧ k2 + (max n2 n1 + (1 : Nat)) ≤ (1000000 : Nat)) ∧ (n1 ≤ (1000000 : Nat) ∧ k1 + (k2 + (max n2 n1 + (1 : Nat))) ≤ (1000000 : Nat)) ∧ (max n1 (k1 + (k2 + (max n2 n1 + (1 : Nat)))) + (1 : Nat) ≤ (900000 : Nat) ∧ k1 + k2 ≤ (900000 : Nat) ∧ (m1 * (m2 / (↑(Int.gcd m1 m2) : Int)) = (0 : Int) → False)) ∧ bif decide ((0 : Int) < m1) && decide ((0 : Int) < m2) then bif decide ((r2 - r1) % (↑(Int.gcd m1 m2) : Int) = (0 : Int)) then ((r1 + m1 * (bzu m1 m2 * ((r2 - r1) / (↑(Int.gcd m1 m2) : Int)))) % (m1 * (m2 / (↑(Int.gcd m1 m2) : Int))) = crtR r1 m1 r2 m2 ∧ (k1 + k2 ≤ k1 + k2 ∨ Int.natAbs ((r1 + m1 * (bzu m1 m2 * ((r2 - r1) / (↑(Int.gcd m1 m2) : Int)))) % (m1 * (m2 / (↑(Int.gcd m1 m2) : Int)))) < (2 : Nat) ^ (k1 + k2))) ∧ (m1 * (m2 / (↑(Int.gcd m1 m2) : Int)) = crtM m1 m2 ∧ (k1 + k2 ≤ k1 + k2 ∨ Int.natAbs (m1 * (m2 / (↑(Int.gcd m1 m2) : Int))) < (2 : Nat) ^ (k1 + k2))) ∧ (0 : Int) = (0 : Int) ∧ True else ((r1 + m1 * (bzu m1 m2 * ((r2 - r1) / (↑(Int.gcd m1 m2) : Int)))) % (m1 * (m2 / (↑(Int.gcd m1 m2) : Int))) = (0 : Int) ∧ (k1 + k2 ≤ (0 : Nat) ∨ Int.natAbs ((r1 + m1 * (bzu m1 m2 * ((r2 - r1) / (↑(Int.gcd m1 m2) : Int)))) % (m1 * (m2 / (↑(Int.gcd m1 m2) : Int)))) < (2 : Nat) ^ (0 : Nat))) ∧ (m1 * (m2 / (↑(Int.gcd m1 m2) : Int)) = (0 : Int) ∧ (k1 + k2 ≤ (0 : Nat) ∨ Int.natAbs (m1 * (m2 / (↑(Int.gcd m1 m2) : Int))) < (2 : Nat) ^ (0 : Nat))) ∧ (0 : Int) = (6 : Int) ∧ True else ((r1 + m1 * (bzu m1 m2 * ((r2 - r1) / (↑(Int.gcd m1 m2) : Int)))) % (m1 * (m2 / (↑(Int.gcd m1 m2) : Int))) = (0 : Int) ∧ (k1 + k2 ≤ (0 : Nat) ∨ Int.natAbs ((r1 + m1 * (bzu m1 m2 * ((r2 - r1) / (↑(Int.gcd m1 m2) : Int)))) % (m1 * (m2 / (↑(Int.gcd m1 m2) : Int)))) < (2 : Nat) ^ (0 : Nat))) ∧ (m1 * (m2 / (↑(Int.gcd m1 m2) : Int)) = (0 : Int) ∧ (k1 + k2 ≤ (0 : Nat) ∨ Int.natAbs (m1 * (m2 / (↑(Int.gcd m1 m2) : Int))) < (2 : Nat) ^ (0 : Nat))) ∧ (0 : Int) = (1 : Int) ∧ True) = evFn (env [c_sign, c_ibez1, c_isub, c_divmod1, c_mdiv, c_mul, c_iadd, c_mmod] noAnn) Tryd.f38 [.big r1 n1, .big m1 k1, .big r2 n2, .big m2 k2] (MRes.sat (crtMR r1 m1 r2 m2 k1 k2)) := by kernel_rfl

/-! ### SameList -/
def bval : MV → Int
  | .big z _ => z
  | _ => 0
def isBig (m : MV) : Prop := ∃ z k, m = .big z k ∧ k ≤ 1000
def bgF (l : List Int) (b : Nat) : Nat → MV := fun i => .big (l.getD i 0) b
def bvals (n : Nat) (f : Nat → MV) : List Int := (List.range n).map fun i => bval (f i)
def s_samel : FSpec
  | [.sl 2 n f, .sl 2 k g] => some (some ((∀ i, i < n → isBig (f i)) ∧ (∀ i, i < k → isBig (g i)) ∧ n ≤ 1000000000), .ret (.bool (decide (bvals n f = bvals k g))))
  | _ => none
def a_samel (a b : List Int) : Nat → MS → Option LoopAnn
  | 4, _ => some (.inv Nat (fun i => i ≤ a.length ∧ a.take i = b.take i) (fun i => ⟨27, [(0, .sl 2 a.length (bgF a 1000)), (1, .sl 2 b.length (bgF b 1000)), (5, .int .i64 i)], [], 0⟩) (fun i => a.length - i))
  | _, _ => none
theorem vc_samel (a b : List Int) : (bif (↑(List.length a) : Int) != (↑(List.length b) : Int) then false = decide (a = b) else (∃ i, (i ≤ List.length a ∧ List.take i a = List.take i b) ∧ (((2 : Nat) = (2 : Nat) ∧ List.length a = List.length a ∧ LeFun (List.length a) (bgF a (1000 : Nat)) (bgF a (1000 : Nat))) ∧ ((2 : Nat) = (2 : Nat) ∧ List.length b = List.length b ∧ LeFun (List.length b) (bgF b (1000 : Nat)) (bgF b (1000 : Nat))) ∧ (0 : Int) = (↑i : Int) ∧ True) ∧ True) ∧ ∀ (i : Nat), i ≤ List.length a ∧ List.take i a = List.take i b → bif decide ((↑i : Int) < (↑(List.length a) : Int)) then ((0 : Int) ≤ (↑i : Int) ∧ (↑i : Int) < (↑(List.length a) : Int)) ∧ ((0 : Int) ≤ (↑i : Int) ∧ (↑i : Int) < (↑(List.length b) : Int)) ∧ ((1000 : Nat) ≤ (1000000 : Nat) ∧ (1000 : Nat) ≤ (1000000 : Nat)) ∧ bif !decide (List.getD a (Int.toNat (↑i : Int)) (0 : Int) = List.getD b (Int.toNat (↑i : Int)) (0 : Int)) then false = decide (a = b) else ∃ j, (j ≤ List.length a ∧ List.take j a = List.take j b) ∧ ((((2 : Nat) = (2 : Nat) ∧ List.length a = List.length a ∧ LeFun (List.length a) (bgF a (1000 : Nat)) (bgF a (1000 : Nat))) ∧ ((2 : Nat) = (2 : Nat) ∧ List.length b = List.length b ∧ LeFun (List.length b) (bgF b (1000 : Nat)) (bgF b (1000 : Nat))) ∧ IntKind.wrap IntKind.i64 ((↑i : Int) + (1 : Int)) = (↑j : Int) ∧ True) ∧ True) ∧ List.length a - j < List.length a - i else true = decide (a = b)) = evFn (env [c_rsame] (a_samel a b)) Tryd.f19 [.sl 2 a.length (bgF a 1000), .sl 2 b.length (bgF b 1000)] (MRes.sat (.ret (.bool (decide (a = b))))) := by kernel_rfl

/-! ### Roots -/
/-- The numbers below x whose squares are w modulo n. -/
def rootsTo (n w : Nat) : Nat → List Int
  | 0 => []
  | x + 1 => rootsTo n w x ++ cond (decide (x * x % n = w)) [(x : Int)] []
def rootsL (a : Int) (n : Nat) : List Int := rootsTo n (a % n).toNat n
def rootsMR (a p k : Int) : MRes :=
  .br (decide (p < 2) || decide (k < 1)) (.ret (.tup [.sl 2 0 (bgF [] 64), .int .i64 1]))
    (.br (decide (1048576 < p ^ k.toNat)) (.ret (.tup [.sl 2 0 (bgF [] 64), .int .i64 2])) (.ret (.tup [.sl 2 (rootsL a (p ^ k.toNat).toNat).length (bgF (rootsL a (p ^ k.toNat).toNat) 64), .int .i64 0])))
def s_roots : FSpec
  | [.big a n, .big p m, .int .i64 k] => some (some (n ≤ 1000 ∧ m ≤ 1000 ∧ -9223372036854775808 ≤ k ∧ k ≤ 9223372036854775807), rootsMR a p k)
  | _ => none
structure IxS where
  i : Nat
def rtO (a p : Int) (n m : Nat) (l : List Int) (_ N W : Int) (P : Int) (s : IxS) : MS :=
  ⟨65, [(9, .int .i64 N), (11, .int .i64 W), (13, .bs 3 0 l.length), (47, .int .i64 N), (48, .int .i64 s.i)], [⟨false, .one (.big a n)⟩, ⟨false, .one (.big p m)⟩, ⟨false, .one (.big P (m + 64))⟩, ⟨false, .rows 2 l.length (bgF l 64)⟩], 0⟩
structure RtI (p k : Int) (s : IxS) : Prop where
  le : (s.i : Int) ≤ k
  pw : p ^ s.i ≤ 1048576
def a_roots (a p : Int) (k : Int) (n m : Nat) : Nat → MS → Option LoopAnn
  | 5, _ => some (.inv IxS (RtI p k) (fun s => ⟨65, [(3, .bp 0 0), (4, .bp 1 0), (8, .bp 2 0), (24, .int .i64 k), (25, .int .i64 s.i)], [⟨false, .one (.big a n)⟩, ⟨false, .one (.big p m)⟩, ⟨false, .one (.big (p ^ s.i) (m + 64))⟩], 0⟩) (fun s => k.toNat - s.i))
  | 14, s => (match look 9 s.tm, look 11 s.tm with
    | .int _ N, .int _ W => some (.inv IxS (fun s => (s.i : Int) ≤ N) (fun s => rtO a p n m (rootsTo N.toNat W.toNat s.i) k N W (p ^ k.toNat) s) (fun s => N.toNat - s.i))
    | _, _ => none)
  | _, _ => none
theorem vc_roots (a p k : Int) (n m : Nat) : (((-9223372036854775808 : Int) ≤ (2 : Int) ∧ (2 : Int) ≤ (9223372036854775807 : Int)) ∧ (m ≤ (1000000 : Nat) ∧ (64 : Nat) ≤ (1000000 : Nat)) ∧ bif decide (icmp p (2 : Int) < (0 : Int)) then bif decide (p < (2 : Int)) || decide (k < (1 : Int)) then (Value.slice none (0 : Nat) (0 : Nat) = Value.slice none (0 : Nat) (0 : Nat) ∧ (0 : Nat) = (0 : Nat)) ∧ (1 : Int) = (1 : Int) ∧ True else bif decide ((1048576 : Int) < p ^ Int.toNat k) then (Value.slice none (0 : Nat) (0 : Nat) = Value.slice none (0 : Nat) (0 : Nat) ∧ (0 : Nat) = (0 : Nat)) ∧ (1 : Int) = (2 : Int) ∧ True else (Value.slice none (0 : Nat) (0 : Nat) = Value.slice none (0 : Nat) (0 : Nat) ∧ List.length (rootsL a (Int.toNat (p ^ Int.toNat k))) = (0 : Nat)) ∧ (1 : Int) = (0 : Int) ∧ True else bif decide (k < (1 : Int)) then bif decide (p < (2 : Int)) || decide (k < (1 : Int)) then (Value.slice none (0 : Nat) (0 : Nat) = Value.slice none (0 : Nat) (0 : Nat) ∧ (0 : Nat) = (0 : Nat)) ∧ (1 : Int) = (1 : Int) ∧ True else bif decide ((1048576 : Int) < p ^ Int.toNat k) then (Value.slice none (0 : Nat) (0 : Nat) = Value.slice none (0 : Nat) (0 : Nat) ∧ (0 : Nat) = (0 : Nat)) ∧ (1 : Int) = (2 : Int) ∧ True else (Value.slice none (0 : Nat) (0 : Nat) = Value.slice none (0 : Nat) (0 : Nat) ∧ List.length (rootsL a (Int.toNat (p ^ Int.toNat k))) = (0 : Nat)) ∧ (1 : Int) = (0 : Int) ∧ True else ((-9223372036854775808 : Int) ≤ (1 : Int) ∧ (1 : Int) ≤ (9223372036854775807 : Int)) ∧ (∃ i, RtI p k i ∧ ((0 : Nat) = (0 : Nat) ∧ (0 : Nat) = (0 : Nat) ∧ (0 : Nat) = (0 : Nat) ∧ k = k ∧ (0 : Int) = (↑(IxS.i i) : Int) ∧ True) ∧ (a = a ∧ (n ≤ n ∨ Int.natAbs a < (2 : Nat) ^ n)) ∧ (p = p ∧ (m ≤ m ∨ Int.natAbs p < (2 : Nat) ^ m)) ∧ ((1 : Int) = p ^ IxS.i i ∧ ((64 : Nat) ≤ m + (64 : Nat) ∨ Int.natAbs (1 : Int) < (2 : Nat) ^ (m + (64 : Nat)))) ∧ True) ∧ ∀ (i : IxS), RtI p k i → bif decide ((↑(IxS.i i) : Int) < k) then (m + (64 : Nat) ≤ (1000000 : Nat) ∧ m ≤ (1000000 : Nat)) ∧ ((-9223372036854775808 : Int) ≤ (1048576 : Int) ∧ (1048576 : Int) ≤ (9223372036854775807 : Int)) ∧ (m + (64 : Nat) + m ≤ (1000000 : Nat) ∧ (64 : Nat) ≤ (1000000 : Nat)) ∧ bif decide (icmp (p ^ IxS.i i * p) (1048576 : Int) > (0 : Int)) then bif decide (p < (2 : Int)) || decide (k < (1 : Int)) then (Value.slice none (0 : Nat) (0 : Nat) = Value.slice none (0 : Nat) (0 : Nat) ∧ (0 : Nat) = (0 : Nat)) ∧ (2 : Int) = (1 : Int) ∧ True else bif decide ((1048576 : Int) < p ^ Int.toNat k) then (Value.slice none (0 : Nat) (0 : Nat) = Value.slice none (0 : Nat) (0 : Nat) ∧ (0 : Nat) = (0 : Nat)) ∧ (2 : Int) = (2 : Int) ∧ True else (Value.slice none (0 : Nat) (0 : Nat) = Value.slice none (0 : Nat) (0 : Nat) ∧ List.length (rootsL a (Int.toNat (p ^ Int.toNat k))) = (0 : Nat)) ∧ (2 : Int) = (0 : Int) ∧ True else ∃ j, RtI p k j ∧ (((0 : Nat) = (0 : Nat) ∧ (0 : Nat) = (0 : Nat) ∧ (0 : Nat) = (0 : Nat) ∧ k = k ∧ IntKind.wrap IntKind.i64 ((↑(IxS.i i) : Int) + (1 : Int)) = (↑(IxS.i j) : Int) ∧ True) ∧ (a = a ∧ (n ≤ n ∨ Int.natAbs a < (2 : Nat) ^ n)) ∧ (p = p ∧ (m ≤ m ∨ Int.natAbs p < (2 : Nat) ^ m)) ∧ (p ^ IxS.i i * p = p ^ IxS.i j ∧ (m + (64 : Nat) + m ≤ m + (64 : Nat) ∨ Int.natAbs (p ^ IxS.i i * p) < (2 : Nat) ^ (m + (64 : Nat)))) ∧ True) ∧ Int.toNat k - IxS.i j < Int.toNat k - IxS.i i else Int.natAbs (p ^ IxS.i i) < (9223372036854775808 : Nat) ∧ (n ≤ (900000 : Nat) ∧ m + (64 : Nat) ≤ (900000 : Nat) ∧ (p ^ IxS.i i = (0 : Int) → False)) ∧ Int.natAbs (a % p ^ IxS.i i) < (9223372036854775808 : Nat) ∧ (∃ i_1, (↑(IxS.i i_1) : Int) ≤ p ^ IxS.i i ∧ (p ^ IxS.i i = p ^ IxS.i i ∧ a % p ^ IxS.i i = a % p ^ IxS.i i ∧ (Value.slice none (0 : Nat) (0 : Nat) = Value.slice none (0 : Nat) (0 : Nat) ∧ (0 : Nat) = (0 : Nat) ∧ List.length (rootsTo (Int.toNat (p ^ IxS.i i)) (Int.toNat (a % p ^ IxS.i i)) (IxS.i i_1)) = (0 : Nat)) ∧ p ^ IxS.i i = p ^ IxS.i i ∧ (0 : Int) = (↑(IxS.i i_1) : Int) ∧ True) ∧ (a = a ∧ (n ≤ n ∨ Int.natAbs a < (2 : Nat) ^ n)) ∧ (p = p ∧ (m ≤ m ∨ Int.natAbs p < (2 : Nat) ^ m)) ∧ (p ^ IxS.i i = p ^ Int.toNat k ∧ (m + (64 : Nat) ≤ m + (64 : Nat) ∨ Int.natAbs (p ^ IxS.i i) < (2 : Nat) ^ (m + (64 : Nat)))) ∧ True) ∧ ∀ (i_1 : IxS), (↑(IxS.i i_1) : Int) ≤ p ^ IxS.i i → bif decide ((↑(IxS.i i_1) : Int) < p ^ IxS.i i) then (p ^ IxS.i i = (0 : Int) → False) ∧ bif Int.tmod (IntKind.wrap IntKind.i64 ((↑(IxS.i i_1) : Int) * (↑(IxS.i i_1) : Int))) (p ^ IxS.i i) == a % p ^ IxS.i i then ((-9223372036854775808 : Int) ≤ (↑(IxS.i i_1) : Int) ∧ (↑(IxS.i i_1) : Int) ≤ (9223372036854775807 : Int)) ∧ ((1 : Nat) ≤ (1 : Nat) ∧ List.length (rootsTo (Int.toNat (p ^ IxS.i i)) (Int.toNat (a % p ^ IxS.i i)) (IxS.i i_1)) ≤ List.length (rootsTo (Int.toNat (p ^ IxS.i i)) (Int.toNat (a % p ^ IxS.i i)) (IxS.i i_1)) ∧ (List.length (rootsTo (Int.toNat (p ^ IxS.i i)) (Int.toNat (a % p ^ IxS.i i)) (IxS.i i_1)) + News.len (News.rows (2 : Nat) (1 : Nat) (rowOf [MV.big (↑(IxS.i i_1) : Int) (64 : Nat)]))) * (32 : Nat) ≤ (140737488355328 : Nat)) ∧ ∃ j, (↑(IxS.i j) : Int) ≤ p ^ IxS.i i ∧ ((p ^ IxS.i i = p ^ IxS.i i ∧ a % p ^ IxS.i i = a % p ^ IxS.i i ∧ ((0 : Nat) = (0 : Nat) ∧ List.length (rootsTo (Int.toNat (p ^ IxS.i i)) (Int.toNat (a % p ^ IxS.i i)) (IxS.i i_1)) + News.len (News.rows (2 : Nat) (1 : Nat) (rowOf [MV.big (↑(IxS.i i_1) : Int) (64 : Nat)])) = List.length (rootsTo (Int.toNat (p ^ IxS.i i)) (Int.toNat (a % p ^ IxS.i i)) (IxS.i j))) ∧ p ^ IxS.i i = p ^ IxS.i i ∧ IntKind.wrap IntKind.i64 ((↑(IxS.i i_1) : Int) + (1 : Int)) = (↑(IxS.i j) : Int) ∧ True) ∧ (a = a ∧ (n ≤ n ∨ Int.natAbs a < (2 : Nat) ^ n)) ∧ (p = p ∧ (m ≤ m ∨ Int.natAbs p < (2 : Nat) ^ m)) ∧ (p ^ Int.toNat k = p ^ Int.toNat k ∧ (m + (64 : Nat) ≤ m + (64 : Nat) ∨ Int.natAbs (p ^ Int.toNat k) < (2 : Nat) ^ (m + (64 : Nat)))) ∧ (List.length (rootsTo (Int.toNat (p ^ IxS.i i)) (Int.toNat (a % p ^ IxS.i i)) (IxS.i i_1)) + (1 : Nat) = List.length (rootsTo (Int.toNat (p ^ IxS.i i)) (Int.toNat (a % p ^ IxS.i i)) (IxS.i j)) ∧ LeFun (List.length (rootsTo (Int.toNat (p ^ IxS.i i)) (Int.toNat (a % p ^ IxS.i i)) (IxS.i i_1)) + (1 : Nat)) (fun q => bif Nat.blt q (List.length (rootsTo (Int.toNat (p ^ IxS.i i)) (Int.toNat (a % p ^ IxS.i i)) (IxS.i i_1))) then bgF (rootsTo (Int.toNat (p ^ IxS.i i)) (Int.toNat (a % p ^ IxS.i i)) (IxS.i i_1)) (64 : Nat) q else rowOf [MV.big (↑(IxS.i i_1) : Int) (64 : Nat)] (q - List.length (rootsTo (Int.toNat (p ^ IxS.i i)) (Int.toNat (a % p ^ IxS.i i)) (IxS.i i_1)))) (bgF (rootsTo (Int.toNat (p ^ IxS.i i)) (Int.toNat (a % p ^ IxS.i i)) (IxS.i j)) (64 : Nat))) ∧ True) ∧ Int.toNat (p ^ IxS.i i) - IxS.i j < Int.toNat (p ^ IxS.i i) - IxS.i i_1 else ∃ j, (↑(IxS.i j) : Int) ≤ p ^ IxS.i i ∧ ((p ^ IxS.i i = p ^ IxS.i i ∧ a % p ^ IxS.i i = a % p ^ IxS.i i ∧ ((0 : Nat) = (0 : Nat) ∧ List.length (rootsTo (Int.toNat (p ^ IxS.i i)) (Int.toNat (a % p ^ IxS.i i)) (IxS.i i_1)) = List.length (rootsTo (Int.toNat (p ^ IxS.i i)) (Int.toNat (a % p ^ IxS.i i)) (IxS.i j))) ∧ p ^ IxS.i i = p ^ IxS.i i ∧ IntKind.wrap IntKind.i64 ((↑(IxS.i i_1) : Int) + (1 : Int)) = (↑(IxS.i j) : Int) ∧ True) ∧ (a = a ∧ (n ≤ n ∨ Int.natAbs a < (2 : Nat) ^ n)) ∧ (p = p ∧ (m ≤ m ∨ Int.natAbs p < (2 : Nat) ^ m)) ∧ (p ^ Int.toNat k = p ^ Int.toNat k ∧ (m + (64 : Nat) ≤ m + (64 : Nat) ∨ Int.natAbs (p ^ Int.toNat k) < (2 : Nat) ^ (m + (64 : Nat)))) ∧ (List.length (rootsTo (Int.toNat (p ^ IxS.i i)) (Int.toNat (a % p ^ IxS.i i)) (IxS.i i_1)) = List.length (rootsTo (Int.toNat (p ^ IxS.i i)) (Int.toNat (a % p ^ IxS.i i)) (IxS.i j)) ∧ LeFun (List.length (rootsTo (Int.toNat (p ^ IxS.i i)) (Int.toNat (a % p ^ IxS.i i)) (IxS.i i_1))) (bgF (rootsTo (Int.toNat (p ^ IxS.i i)) (Int.toNat (a % p ^ IxS.i i)) (IxS.i i_1)) (64 : Nat)) (bgF (rootsTo (Int.toNat (p ^ IxS.i i)) (Int.toNat (a % p ^ IxS.i i)) (IxS.i j)) (64 : Nat))) ∧ True) ∧ Int.toNat (p ^ IxS.i i) - IxS.i j < Int.toNat (p ^ IxS.i i) - IxS.i i_1 else List.length (rootsTo (Int.toNat (p ^ IxS.i i)) (Int.toNat (a % p ^ IxS.i i)) (IxS.i i_1)) ≤ List.length (rootsTo (Int.toNat (p ^ IxS.i i)) (Int.toNat (a % p ^ IxS.i i)) (IxS.i i_1)) ∧ bif decide (p < (2 : Int)) || decide (k < (1 : Int)) then ((2 : Nat) = (2 : Nat) ∧ List.length (rootsTo (Int.toNat (p ^ IxS.i i)) (Int.toNat (a % p ^ IxS.i i)) (IxS.i i_1)) = (0 : Nat) ∧ LeFun (List.length (rootsTo (Int.toNat (p ^ IxS.i i)) (Int.toNat (a % p ^ IxS.i i)) (IxS.i i_1))) (bgF (rootsTo (Int.toNat (p ^ IxS.i i)) (Int.toNat (a % p ^ IxS.i i)) (IxS.i i_1)) (64 : Nat)) (bgF [] (64 : Nat))) ∧ (0 : Int) = (1 : Int) ∧ True else bif decide ((1048576 : Int) < p ^ Int.toNat k) then ((2 : Nat) = (2 : Nat) ∧ List.length (rootsTo (Int.toNat (p ^ IxS.i i)) (Int.toNat (a % p ^ IxS.i i)) (IxS.i i_1)) = (0 : Nat) ∧ LeFun (List.length (rootsTo (Int.toNat (p ^ IxS.i i)) (Int.toNat (a % p ^ IxS.i i)) (IxS.i i_1))) (bgF (rootsTo (Int.toNat (p ^ IxS.i i)) (Int.toNat (a % p ^ IxS.i i)) (IxS.i i_1)) (64 : Nat)) (bgF [] (64 : Nat))) ∧ (0 : Int) = (2 : Int) ∧ True else ((2 : Nat) = (2 : Nat) ∧ List.length (rootsTo (Int.toNat (p ^ IxS.i i)) (Int.toNat (a % p ^ IxS.i i)) (IxS.i i_1)) = List.length (rootsL a (Int.toNat (p ^ Int.toNat k))) ∧ LeFun (List.length (rootsTo (Int.toNat (p ^ IxS.i i)) (Int.toNat (a % p ^ IxS.i i)) (IxS.i i_1))) (bgF (rootsTo (Int.toNat (p ^ IxS.i i)) (Int.toNat (a % p ^ IxS.i i)) (IxS.i i_1)) (64 : Nat)) (bgF (rootsL a (Int.toNat (p ^ Int.toNat k))) (64 : Nat))) ∧ (0 : Int) = (0 : Int) ∧ True) = evFn (env [c_mof, c_icmp, c_mul, c_ilow, c_mmod] (a_roots a p k n m)) Tryd.f17 [.big a n, .big p m, .int .i64 k] (MRes.sat (rootsMR a p k)) := by kernel_rfl

theorem p_crt : GoodF Tryd.f38 s_crt := by
  intro ms p r h hp hf
  unfold s_crt at h
  split at h
  · rename_i r1 n1 m1 k1 r2 n2 m2 k2
    simp only [Option.some.injEq, Prod.mk.injEq] at h
    obtain ⟨rfl, rfl⟩ := h
    obtain ⟨h1, h2, h3, h4⟩ : n1 ≤ 1000 ∧ k1 ≤ 1000 ∧ n2 ≤ 1000 ∧ k2 ≤ 1000 := hp
    refine ⟨env [c_sign, c_ibez1, c_isub, c_divmod1, c_mdiv, c_mul, c_iadd, c_mmod] noAnn, ?_⟩
    rw [← vc_crt r1 m1 r2 m2 n1 k1 n2 k2, sgn_lt1, sgn_lt1]
    by_cases hm1 : 0 < m1
    · by_cases hm2 : 0 < m2
      · rw [decide_eq_true hm1, decide_eq_true hm2, Bool.not_true, cond_false, cond_false, sgn_ne0, Bool.and_true]
        have hg : (Int.gcd m1 m2 : Int) ≠ 0 := by
          have := Int.gcd_ne_zero_left (b := m2) (show m1 ≠ 0 by omega)
          omega
        refine ⟨⟨by omega, by omega, by omega⟩, ⟨by omega, by omega⟩, ⟨by omega, by omega, hg⟩, ?_⟩
        by_cases he : (r2 - r1) % (Int.gcd m1 m2 : Int) = 0
        · rw [decide_eq_true he, Bool.not_true, cond_false]
          have hM : m1 * (m2 / (Int.gcd m1 m2 : Int)) ≠ 0 := by
            obtain ⟨c, hc⟩ := Int.gcd_dvd_right m1 m2
            have : m2 / (Int.gcd m1 m2 : Int) = c := by
              conv => lhs; lhs; rw [hc]
              exact Int.mul_ediv_cancel_left _ hg
            rw [this]
            intro e
            rcases Int.mul_eq_zero.1 e with e | e
            · omega
            · rw [e, Int.mul_zero] at hc; omega
          refine ⟨⟨by omega, by omega, hg⟩, ⟨by omega, by omega⟩, ⟨by omega, by omega⟩, ⟨by omega, by omega⟩, ⟨by omega, by omega⟩, ⟨by omega, by omega, hM⟩, ?_⟩
          exact ⟨⟨rfl, .inl (Nat.le_refl _)⟩, ⟨rfl, .inl (Nat.le_refl _)⟩, rfl, True.intro⟩
        · rw [decide_eq_false he, Bool.not_false, cond_true]
          exact ⟨⟨rfl, .inl (Nat.le_refl _)⟩, ⟨rfl, .inl (Nat.le_refl _)⟩, rfl, True.intro⟩
      · rw [decide_eq_true hm1, decide_eq_false hm2]
        exact ⟨⟨rfl, .inl (Nat.le_refl _)⟩, ⟨rfl, .inl (Nat.le_refl _)⟩, rfl, True.intro⟩
    · rw [decide_eq_false hm1]
      exact ⟨⟨rfl, .inl (Nat.le_refl _)⟩, ⟨rfl, .inl (Nat.le_refl _)⟩, rfl, True.intro⟩
  · simp at h
noncomputable def c_crt : Ctr Tryd.prog := ⟨38, s_crt, fun args w => Tryd.call38 args w, fn_ok_facts mix Tryd.func38 s_crt p_crt⟩

theorem LeFun.same {len : Nat} {f f' : Nat → MV} (h : f = f') : LeFun len f f' := ⟨fun _ _ _ _ _ r => h ▸ r⟩
theorem bvals_length (n : Nat) (f : Nat → MV) : (bvals n f).length = n := by simp [bvals]
theorem bvals_le {n : Nat} {f : Nat → MV} (h : ∀ i, i < n → isBig (f i)) : LeFun n f (bgF (bvals n f) 1000) := LeFun.of_le fun i hi => by
  obtain ⟨z, k, e, hk⟩ := h i hi
  have e2 : (bvals n f).getD i 0 = z := by
    simp [bvals, hi, e, bval]
  show leMV 0 (f i) (.big ((bvals n f).getD i 0) 1000)
  rw [e2, e]
  exact ⟨rfl, .inl hk⟩
theorem p_samel1 (a b : List Int) (n k : Nat) (hn : a.length = n) (hk : b.length = k) (h : n ≤ 1000000000) : ∃ E : Env Tryd.prog, evFn E Tryd.f19 [.sl 2 n (bgF a 1000), .sl 2 k (bgF b 1000)] (MRes.sat (.ret (.bool (decide (a = b))))) := by
  subst hn
  subst hk
  have ha := h
  refine ⟨env [c_rsame] (a_samel a b), ?_⟩
  rw [← vc_samel a b]
  have la : LeFun a.length (bgF a 1000) (bgF a 1000) := LeFun.same rfl
  have lb : LeFun b.length (bgF b 1000) (bgF b 1000) := LeFun.same rfl
  by_cases hl : a.length = b.length
  · have e1 : ((a.length : Int) != (b.length : Int)) = false := by rw [hl]; simp
    rw [e1, cond_false]
    refine ⟨⟨0, ⟨Nat.zero_le _, rfl⟩, ?_⟩, ?_⟩
    · and_intros <;> first | exact True.intro | exact la | exact lb | rfl
    rintro i ⟨hi, ht⟩
    rw [Bool.cond_decide]
    split
    · rename_i hc
      have hc : i < a.length := by omega
      have e5 : IntKind.wrap IntKind.i64 ((i : Int) + 1) = ((i + 1 : Nat) : Int) := by rw [i64w (by omega) (by omega)]; omega
      rw [Int.toNat_natCast, e5]
      refine ⟨⟨by omega, by omega⟩, ⟨by omega, by omega⟩, ⟨by omega, by omega⟩, ?_⟩
      have ga : a.getD i 0 = a[i] := by simp [hc]
      have gb : b.getD i 0 = b[i] := by simp [show i < b.length by omega]
      by_cases he : a.getD i 0 = b.getD i 0
      · rw [decide_eq_true he, Bool.not_true, cond_false]
        refine ⟨i + 1, ⟨hc, ?_⟩, ?_, by omega⟩
        · rw [List.take_add_one, List.take_add_one, ht, List.getElem?_eq_getElem hc, List.getElem?_eq_getElem (show i < b.length by omega), ← ga, ← gb, he]
        · and_intros <;> first | exact True.intro | exact la | exact lb | rfl
      · rw [decide_eq_false he, Bool.not_false, cond_true]
        symm
        refine decide_eq_false fun e => he (by rw [e])
    · have : i = a.length := by omega
      subst this
      rw [List.take_length, hl, List.take_length] at ht
      exact (decide_eq_true ht).symm
  · have e1 : ((a.length : Int) != (b.length : Int)) = true := by simp only [bne_iff_ne]; omega
    rw [e1, cond_true]
    symm
    exact decide_eq_false fun e => hl (by rw [e])
theorem p_samel : ∀ ms p r, s_samel ms = some (p, r) → p.holds → ∃ ms', leV.leVs 0 ms ms' ∧ ∃ E : Env Tryd.prog, evFn E Tryd.f19 ms' r.sat := by
  intro ms p r h hp
  unfold s_samel at h
  split at h
  · rename_i n f k g
    simp only [Option.some.injEq, Prod.mk.injEq] at h
    obtain ⟨rfl, rfl⟩ := h
    obtain ⟨h1, h2, h3⟩ : (∀ i, i < n → isBig (f i)) ∧ (∀ i, i < k → isBig (g i)) ∧ n ≤ 1000000000 := hp
    exact ⟨[.sl 2 n (bgF (bvals n f) 1000), .sl 2 k (bgF (bvals k g) 1000)], ⟨⟨rfl, rfl, bvals_le h1⟩, ⟨rfl, rfl, bvals_le h2⟩, True.intro⟩, p_samel1 (bvals n f) (bvals k g) n k (bvals_length n f) (bvals_length k g) h3⟩
  · simp at h
def c_samel : Ctr Tryd.prog := ⟨19, s_samel, fun args w => Tryd.call19 args w, fn_ok_le mix Tryd.func19 s_samel p_samel⟩

/-! ### Roots: the walk -/
theorem bg_append (l : List Int) (z : Int) (b : Nat) : LeFun (l.length + 1) (fun q => bif Nat.blt q l.length then bgF l b q else rowOf [.big z b] (q - l.length)) (bgF (l ++ [z]) b) := by
  refine LeFun.of_le fun q hq => ?_
  show leMV 0 (bif Nat.blt q l.length then bgF l b q else rowOf [.big z b] (q - l.length)) (bgF (l ++ [z]) b q)
  unfold bgF
  rw [List.getD_eq_getElem?_getD, List.getD_eq_getElem?_getD, List.getElem?_append]
  by_cases h : q < l.length
  · rw [if_pos h, show Nat.blt q l.length = true from blt_true h, cond_true]
    exact ⟨rfl, .inl (Nat.le_refl _)⟩
  · have e : q - l.length = 0 := by omega
    rw [if_neg h, show Nat.blt q l.length = false from blt_false (by omega), cond_false, e]
    exact ⟨rfl, .inl (Nat.le_refl _)⟩
theorem rootsTo_len (n w : Nat) : ∀ x, (rootsTo n w x).length ≤ x
  | 0 => Nat.le_refl _
  | x + 1 => by
    have := rootsTo_len n w x
    simp only [rootsTo, List.length_append]
    cases decide (x * x % n = w) <;> simp <;> omega
theorem icmp_gtd (a b : Int) : decide (icmp a b > 0) = decide (b < a) := by
  refine decide_eq_decide.2 ?_
  unfold icmp
  split <;> (try split) <;> omega
theorem pow_mono_int {p : Int} (hp : 2 ≤ p) {i j : Nat} (h : i ≤ j) : p ^ i ≤ p ^ j := by
  obtain ⟨q, rfl⟩ := Int.eq_ofNat_of_zero_le (show 0 ≤ p by omega)
  rw [← Int.natCast_pow, ← Int.natCast_pow]
  exact Int.ofNat_le.2 (Nat.pow_le_pow_right (by omega) h)

theorem p_roots : Good Tryd.f17 s_roots := by
  intro ms p r h hp
  unfold s_roots at h
  split at h
  · rename_i a n p m k
    simp only [Option.some.injEq, Prod.mk.injEq] at h
    obtain ⟨rfl, rfl⟩ := h
    obtain ⟨h1, h2, h3, h4⟩ : n ≤ 1000 ∧ m ≤ 1000 ∧ -9223372036854775808 ≤ k ∧ k ≤ 9223372036854775807 := hp
    refine ⟨env [c_mof, c_icmp, c_mul, c_ilow, c_mmod] (a_roots a p k n m), ?_⟩
    rw [← vc_roots a p k n m, icmp_ltd]
    refine ⟨by omega, ⟨by omega, by omega⟩, ?_⟩
    by_cases hp2 : p < 2
    · rw [decide_eq_true hp2]
      exact ⟨⟨rfl, rfl⟩, rfl, True.intro⟩
    rw [decide_eq_false hp2, cond_false]
    by_cases hk1 : k < 1
    · rw [decide_eq_true hk1]
      exact ⟨⟨rfl, rfl⟩, rfl, True.intro⟩
    rw [decide_eq_false hk1, cond_false]
    refine ⟨by omega, ⟨⟨0⟩, ⟨by show ((0 : Nat) : Int) ≤ k; omega, by show p ^ 0 ≤ _; rw [Int.pow_zero]; omega⟩, ?_⟩, ?_⟩
    · have e0 : (1 : Int) = p ^ 0 := (Int.pow_zero p).symm
      and_intros <;> first | exact True.intro | exact e0 | rfl | exact .inl (Nat.le_refl _) | exact .inl (by omega)
    rintro ⟨j⟩ ⟨hjk, hj⟩
    have hjk : (j : Int) ≤ k := hjk
    have hj : p ^ j ≤ 1048576 := hj
    have hpos : 0 < p ^ j := Int.pow_pos (by omega)
    dsimp only
    rw [Bool.cond_decide]
    split
    · rename_i hc
      have e5 : IntKind.wrap IntKind.i64 ((j : Int) + 1) = ((j + 1 : Nat) : Int) := by rw [i64w (by omega) (by omega)]; omega
      refine ⟨⟨by omega, by omega⟩, by omega, ⟨by omega, by omega⟩, ?_⟩
      rw [icmp_gtd, e5, ← Int.pow_succ]
      have hpos2 : 0 < p ^ (j + 1) := Int.pow_pos (by omega)
      by_cases hg : 1048576 < p ^ (j + 1)
      · have hm : p ^ (j + 1) ≤ p ^ k.toNat := pow_mono_int (by omega) (by omega)
        rw [decide_eq_true hg, decide_eq_true (show 1048576 < p ^ k.toNat by omega)]
        exact ⟨⟨rfl, rfl⟩, rfl, True.intro⟩
      · rw [decide_eq_false hg, cond_false]
        have hb : (p ^ (j + 1)).natAbs < 2 ^ (m + 64) := by
          have : 2 ^ 64 ≤ 2 ^ (m + 64) := Nat.pow_le_pow_right (by omega) (by omega)
          omega
        refine ⟨⟨j + 1⟩, ⟨by show ((j + 1 : Nat) : Int) ≤ k; omega, by show p ^ (j + 1) ≤ _; omega⟩, ?_, by show k.toNat - (j + 1) < k.toNat - j; omega⟩
        and_intros <;> first | exact True.intro | rfl | exact .inl (Nat.le_refl _) | exact .inr hb
    · rename_i hc
      have hjk2 : j = k.toNat := by omega
      rw [← hjk2]
      generalize hN : p ^ j = N at *
      have hm0 := Int.emod_nonneg a (show N ≠ 0 by omega)
      have hm1 := Int.emod_lt_of_pos a hpos
      obtain ⟨n', rfl⟩ := Int.eq_ofNat_of_zero_le (Int.le_of_lt hpos)
      obtain ⟨w, hw⟩ := Int.eq_ofNat_of_zero_le hm0
      have hrl : rootsL a n' = rootsTo n' w n' := by unfold rootsL; rw [hw]; rfl
      rw [hw, Int.toNat_natCast, Int.toNat_natCast, hrl]
      refine ⟨by omega, ⟨by omega, by omega, by omega⟩, by omega, ⟨⟨0⟩, by show ((0 : Nat) : Int) ≤ _; omega, ?_⟩, ?_⟩
      · and_intros <;> first | exact True.intro | rfl | exact .inl (Nat.le_refl _)
      rintro ⟨x⟩ hx
      have hx : (x : Int) ≤ n' := hx
      dsimp only
      have hL := rootsTo_len n' w x
      rw [Bool.cond_decide]
      split
      · rename_i hc
        have hxx : 0 ≤ (x : Int) * x ∧ (x : Int) * x ≤ 1099511627776 := ⟨Int.mul_nonneg (by omega) (by omega), Int.le_trans (Int.mul_le_mul (show (x : Int) ≤ 1048576 by omega) (show (x : Int) ≤ 1048576 by omega) (by omega) (by omega)) (by decide)⟩
        have e1 : IntKind.wrap IntKind.i64 ((x : Int) * x) = (x : Int) * x := i64w (by omega) (by omega)
        have e2 : Int.tmod ((x : Int) * x) (n' : Int) = ((x * x % n' : Nat) : Int) := by
          rw [Int.tmod_eq_emod_of_nonneg hxx.1, ← Int.natCast_mul]; rfl
        have e3 : IntKind.wrap IntKind.i64 ((x : Int) + 1) = ((x + 1 : Nat) : Int) := by rw [i64w (by omega) (by omega)]; omega
        have e4 : (((x * x % n' : Nat) : Int) == (w : Int)) = decide (x * x % n' = w) := by
          by_cases h : x * x % n' = w
          · rw [h, decide_eq_true rfl]; simp
          · rw [decide_eq_false h]; simp only [beq_eq_false_iff_ne]; omega
        rw [e1, e2, e3, e4]
        refine ⟨by omega, ?_⟩
        cases hd : decide (x * x % n' = w) with
        | true =>
          rw [cond_true]
          have el : rootsTo n' w (x + 1) = rootsTo n' w x ++ [(x : Int)] := by simp only [rootsTo, hd, cond_true]
          have hn : News.len (News.rows 2 1 (rowOf [MV.big (x : Int) 64])) = 1 := rfl
          have hlen2 : (rootsTo n' w x).length + 1 = (rootsTo n' w (x + 1)).length := by rw [el, List.length_append]; rfl
          have hle := bg_append (rootsTo n' w x) (x : Int) 64
          rw [← el] at hle
          rw [hn]
          refine ⟨⟨by omega, by omega⟩, ⟨Nat.le_refl _, Nat.le_refl _, by omega⟩, ⟨x + 1⟩, by show ((x + 1 : Nat) : Int) ≤ _; omega, ?_, by show n' - (x + 1) < n' - x; omega⟩
          and_intros <;> first | exact True.intro | exact hle | exact hlen2 | rfl | exact .inl (Nat.le_refl _)
        | false =>
          rw [cond_false]
          have el : rootsTo n' w (x + 1) = rootsTo n' w x := by simp only [rootsTo, hd, cond_false, List.append_nil]
          have hl : LeFun (rootsTo n' w x).length (bgF (rootsTo n' w x) 64) (bgF (rootsTo n' w x) 64) := LeFun.same rfl
          refine ⟨⟨x + 1⟩, by show ((x + 1 : Nat) : Int) ≤ _; omega, ?_, by show n' - (x + 1) < n' - x; omega⟩
          dsimp only
          rw [el]
          and_intros <;> first | exact True.intro | exact hl | rfl | exact .inl (Nat.le_refl _)
      · rename_i hc
        have hxe : x = n' := by omega
        subst hxe
        have hl : LeFun (rootsTo x w x).length (bgF (rootsTo x w x) 64) (bgF (rootsTo x w x) 64) := LeFun.same rfl
        rw [decide_eq_false (show ¬ (1048576 : Int) < x by omega)]
        simp only [cond_false, Bool.false_or]
        and_intros <;> first | exact True.intro | exact hl | rfl | exact .inl (Nat.le_refl _) | exact Nat.le_refl _
  · simp at h
def c_roots : Ctr Tryd.prog := ⟨17, s_roots, fun args w => Tryd.call17 args w, fn_ok mix Tryd.func17 s_roots p_roots⟩

end Go.Proofs.YtcikhffhikgahaaDoor

/-
  Contracts of functions: the laws of chapter 03: small functions, the examples.
-/
namespace Go.Proofs.YtcikhffhikgahaaDoor
open Go Go.RowKit

theorem vc_lof (z : Int) : (((-9223372036854775808 : Int) ≤ z ∧ z ≤ (9223372036854775807 : Int)) ∧ z = z ∧ ((64 : Nat) ≤ (64 : Nat) ∨ Int.natAbs z < (2 : Nat) ^ (64 : Nat))) = evFn (env [c_rof] noAnn) Tryd.f14 [.int .i64 z] (MRes.sat (.ret (.big z 64))) := by kernel_rfl
theorem p_lof : Good Tryd.f14 s_iof := by
  intro ms p r h hp
  unfold s_iof at h
  split at h
  · rename_i z
    simp only [Option.some.injEq, Prod.mk.injEq] at h
    obtain ⟨rfl, rfl⟩ := h
    refine ⟨env [c_rof] noAnn, ?_⟩
    rw [← vc_lof z]
    exact ⟨hp, rfl, .inl (Nat.le_refl _)⟩
  · simp at h
def c_lof : Ctr Tryd.prog := ⟨14, s_iof, fun args w => Tryd.call14 args w, fn_ok mix Tryd.func14 s_iof p_lof⟩

/-- A number and an error. -/
abbrev gotM (v e : Int) (k : Nat) : MV := .st [.big v k, .int .i64 e]
noncomputable def invE (a m : Int) : Int := if 0 < m then (if Int.gcd a m = 1 then 0 else 4) else 1
noncomputable def invV (a m : Int) : Int := if 0 < m then (if Int.gcd a m = 1 then minv a m else 0) else 0
noncomputable def s_linv : FSpec
  | [.big a n, .big m k] => some (some (n ≤ 1000 ∧ k ≤ 1000), .ret (gotM (invV a m) (invE a m) k))
  | _ => none
theorem vc_linv (a m : Int) (n k : Nat) : ((n ≤ (200000 : Nat) ∧ k ≤ (200000 : Nat)) ∧ bif decide ((0 : Int) < m) then bif decide (Int.gcd a m = (1 : Nat)) then (minv a m = invV a m ∧ (k ≤ k ∨ Int.natAbs (minv a m) < (2 : Nat) ^ k)) ∧ (0 : Int) = invE a m ∧ True else ((0 : Int) = invV a m ∧ ((0 : Nat) ≤ k ∨ Int.natAbs (0 : Int) < (2 : Nat) ^ k)) ∧ (4 : Int) = invE a m ∧ True else ((0 : Int) = invV a m ∧ ((0 : Nat) ≤ k ∨ Int.natAbs (0 : Int) < (2 : Nat) ^ k)) ∧ (1 : Int) = invE a m ∧ True) = evFn (env [c_mInvG] noAnn) Tryd.f26 [.big a n, .big m k] (MRes.sat (.ret (gotM (invV a m) (invE a m) k))) := by kernel_rfl
theorem p_linv : Good Tryd.f26 s_linv := by
  intro ms p r h hp
  unfold s_linv at h
  split at h
  · rename_i a n m k
    simp only [Option.some.injEq, Prod.mk.injEq] at h
    obtain ⟨rfl, rfl⟩ := h
    obtain ⟨h1, h2⟩ : n ≤ 1000 ∧ k ≤ 1000 := hp
    refine ⟨env [c_mInvG] noAnn, ?_⟩
    rw [← vc_linv a m n k]
    unfold invV invE
    refine ⟨by omega, ?_⟩
    by_cases hm : 0 < m
    · rw [decide_eq_true hm, if_pos hm, if_pos hm, cond_true]
      by_cases hg : Int.gcd a m = 1
      · rw [decide_eq_true hg, if_pos hg, if_pos hg]
        exact ⟨⟨rfl, .inl (Nat.le_refl _)⟩, rfl, True.intro⟩
      · rw [decide_eq_false hg, if_neg hg, if_neg hg]
        exact ⟨⟨rfl, .inl (Nat.zero_le _)⟩, rfl, True.intro⟩
    · rw [decide_eq_false hm, if_neg hm, if_neg hm]
      exact ⟨⟨rfl, .inl (Nat.zero_le _)⟩, rfl, True.intro⟩
  · simp at h
noncomputable def c_linv : Ctr Tryd.prog := ⟨26, s_linv, fun args w => Tryd.call26 args w, fn_ok mix Tryd.func26 s_linv p_linv⟩

noncomputable def powE (a e m : Int) : Int := if 0 < m then (if e < 0 ∧ ¬ Int.gcd a m = 1 then 4 else 0) else 1
noncomputable def powV (a e m : Int) : Int := if 0 < m then (if e < 0 ∧ ¬ Int.gcd a m = 1 then 0 else powR a e m) else 0
noncomputable def s_lpow : FSpec
  | [.big a n, .big e k, .big m l] => some (some (n ≤ 1000 ∧ k ≤ 1000 ∧ l ≤ 1000), .ret (gotM (powV a e m) (powE a e m) l))
  | _ => none
theorem vc_lpow (a e m : Int) (n k l : Nat) : ((n ≤ (100000 : Nat) ∧ k ≤ (100000 : Nat) ∧ l ≤ (100000 : Nat)) ∧ bif decide ((0 : Int) < m) then bif decide (e < (0 : Int)) && !decide (Int.gcd a m = (1 : Nat)) then ((0 : Int) = powV a e m ∧ ((0 : Nat) ≤ l ∨ Int.natAbs (0 : Int) < (2 : Nat) ^ l)) ∧ (4 : Int) = powE a e m ∧ True else (powR a e m = powV a e m ∧ (l ≤ l ∨ Int.natAbs (powR a e m) < (2 : Nat) ^ l)) ∧ (0 : Int) = powE a e m ∧ True else ((0 : Int) = powV a e m ∧ ((0 : Nat) ≤ l ∨ Int.natAbs (0 : Int) < (2 : Nat) ^ l)) ∧ (1 : Int) = powE a e m ∧ True) = evFn (env [c_mpow] noAnn) Tryd.f13 [.big a n, .big e k, .big m l] (MRes.sat (.ret (gotM (powV a e m) (powE a e m) l))) := by kernel_rfl
theorem dec_and_not {p q : Prop} [Decidable p] [Decidable q] : (decide p && !decide q) = decide (p ∧ ¬ q) := by
  by_cases h : p <;> by_cases k : q <;> simp [h, k]
theorem p_lpow : Good Tryd.f13 s_lpow := by
  intro ms p r h hp
  unfold s_lpow at h
  split at h
  · rename_i a n e k m l
    simp only [Option.some.injEq, Prod.mk.injEq] at h
    obtain ⟨rfl, rfl⟩ := h
    obtain ⟨h1, h2, h3⟩ : n ≤ 1000 ∧ k ≤ 1000 ∧ l ≤ 1000 := hp
    refine ⟨env [c_mpow] noAnn, ?_⟩
    rw [← vc_lpow a e m n k l, dec_and_not]
    unfold powV powE
    refine ⟨by omega, ?_⟩
    by_cases hm : 0 < m
    · rw [decide_eq_true hm, if_pos hm, if_pos hm, cond_true]
      by_cases hg : e < 0 ∧ ¬ Int.gcd a m = 1
      · rw [decide_eq_true hg, if_pos hg, if_pos hg]
        exact ⟨⟨rfl, .inl (Nat.zero_le _)⟩, rfl, True.intro⟩
      · rw [decide_eq_false hg, if_neg hg, if_neg hg]
        exact ⟨⟨rfl, .inl (Nat.le_refl _)⟩, rfl, True.intro⟩
    · rw [decide_eq_false hm, if_neg hm, if_neg hm]
      exact ⟨⟨rfl, .inl (Nat.zero_le _)⟩, rfl, True.intro⟩
  · simp at h
noncomputable def c_lpow : Ctr Tryd.prog := ⟨13, s_lpow, fun args w => Tryd.call13 args w, fn_ok mix Tryd.func13 s_lpow p_lpow⟩

def rootE (a p : Int) : Int := if p < 2 then 1 else if p % 2 = 0 ∨ a % p = 0 then 0 else if kro (a % p) p = 1 then 0 else 6
def rootV (a p : Int) : Int := if p < 2 then 0 else if p % 2 = 0 ∨ a % p = 0 then a % p else if kro (a % p) p = 1 then sqV (a % p) p else 0
def s_lroot : FSpec
  | [.big a n, .big p l] => some (some (n ≤ 3000 ∧ l ≤ 3000 ∧ SqHas a p), .ret (gotM (rootV a p) (rootE a p) l))
  | _ => none
theorem vc_lroot (a p : Int) (n l : Nat) : ((n ≤ (3000 : Nat) ∧ l ≤ (3000 : Nat) ∧ SqHas a p) ∧ bif decide (p < (2 : Int)) then ((0 : Int) = rootV a p ∧ ((0 : Nat) ≤ l ∨ Int.natAbs (0 : Int) < (2 : Nat) ^ l)) ∧ (1 : Int) = rootE a p ∧ True else bif decide (p % (2 : Int) = (0 : Int)) || decide (a % p = (0 : Int)) then (a % p = rootV a p ∧ (l ≤ l ∨ Int.natAbs (a % p) < (2 : Nat) ^ l)) ∧ (0 : Int) = rootE a p ∧ True else bif decide (kro (a % p) p = (1 : Int)) then (sqV (a % p) p = rootV a p ∧ (l ≤ l ∨ Int.natAbs (sqV (a % p) p) < (2 : Nat) ^ l)) ∧ (0 : Int) = rootE a p ∧ True else ((0 : Int) = rootV a p ∧ ((0 : Nat) ≤ l ∨ Int.natAbs (0 : Int) < (2 : Nat) ^ l)) ∧ (6 : Int) = rootE a p ∧ True) = evFn (env [c_sqrt] noAnn) Tryd.f30 [.big a n, .big p l] (MRes.sat (.ret (gotM (rootV a p) (rootE a p) l))) := by kernel_rfl
theorem p_lroot : Good Tryd.f30 s_lroot := by
  intro ms p r h hp
  unfold s_lroot at h
  split at h
  · rename_i a n p l
    simp only [Option.some.injEq, Prod.mk.injEq] at h
    obtain ⟨rfl, rfl⟩ := h
    refine ⟨env [c_sqrt] noAnn, ?_⟩
    rw [← vc_lroot a p n l]
    unfold rootV rootE
    refine ⟨hp, ?_⟩
    by_cases h1 : p < 2
    · rw [decide_eq_true h1, if_pos h1, if_pos h1]
      exact ⟨⟨rfl, .inl (Nat.zero_le _)⟩, rfl, True.intro⟩
    rw [decide_eq_false h1, if_neg h1, if_neg h1, cond_false]
    by_cases h2 : p % 2 = 0 ∨ a % p = 0
    · rw [if_pos h2, if_pos h2, show (decide (p % 2 = 0) || decide (a % p = 0)) = true by rcases h2 with h | h <;> simp [h]]
      exact ⟨⟨rfl, .inl (Nat.le_refl _)⟩, rfl, True.intro⟩
    rw [if_neg h2, if_neg h2, show (decide (p % 2 = 0) || decide (a % p = 0)) = false by simp only [not_or] at h2; simp [h2.1, h2.2], cond_false]
    by_cases h3 : kro (a % p) p = 1
    · rw [decide_eq_true h3, if_pos h3, if_pos h3]
      exact ⟨⟨rfl, .inl (Nat.le_refl _)⟩, rfl, True.intro⟩
    · rw [decide_eq_false h3, if_neg h3, if_neg h3]
      exact ⟨⟨rfl, .inl (Nat.zero_le _)⟩, rfl, True.intro⟩
  · simp at h
def c_lroot : Ctr Tryd.prog := ⟨30, s_lroot, fun args w => Tryd.call30 args w, fn_ok mix Tryd.func30 s_lroot p_lroot⟩

def s_lis : FSpec
  | [.st [.big v k, .int .i64 e], .int .i64 n] => some (some (k ≤ 10000 ∧ -9223372036854775808 ≤ n ∧ n ≤ 9223372036854775807), .ret (.bool (decide (e = 0) && decide (v = n))))
  | _ => none
theorem vc_lis (v e n : Int) (k : Nat) : (bif e == (0 : Int) then ((-9223372036854775808 : Int) ≤ n ∧ n ≤ (9223372036854775807 : Int)) ∧ (k ≤ (1000000 : Nat) ∧ (64 : Nat) ≤ (1000000 : Nat)) ∧ decide (v = n) = (decide (e = (0 : Int)) && decide (v = n)) else false = (decide (e = (0 : Int)) && decide (v = n))) = evFn (env [c_lof, c_rsame] noAnn) Tryd.f16 [gotM v e k, .int .i64 n] (MRes.sat (.ret (.bool (decide (e = 0) && decide (v = n))))) := by kernel_rfl
theorem beq_dec (a b : Int) : (a == b) = decide (a = b) := by
  by_cases h : a = b
  · subst h; simp
  · rw [decide_eq_false h]; simpa using h
theorem p_lis : Good Tryd.f16 s_lis := by
  intro ms p r h hp
  unfold s_lis at h
  split at h
  · rename_i v k e n
    simp only [Option.some.injEq, Prod.mk.injEq] at h
    obtain ⟨rfl, rfl⟩ := h
    obtain ⟨h1, h2, h3⟩ : k ≤ 10000 ∧ -9223372036854775808 ≤ n ∧ n ≤ 9223372036854775807 := hp
    refine ⟨env [c_lof, c_rsame] noAnn, ?_⟩
    rw [← vc_lis v e n k, beq_dec]
    by_cases he : e = 0
    · rw [decide_eq_true he, Bool.true_and]
      exact ⟨⟨h2, h3⟩, ⟨by omega, by omega⟩, rfl⟩
    · rw [decide_eq_false he]
      rfl
  · simp at h
def c_lis : Ctr Tryd.prog := ⟨16, s_lis, fun args w => Tryd.call16 args w, fn_ok mix Tryd.func16 s_lis p_lis⟩

theorem vc_lex  : (((-9223372036854775808 : Int) ≤ (1 : Int) ∧ (1 : Int) ≤ (9223372036854775807 : Int)) ∧ ((-9223372036854775808 : Int) ≤ (2 : Int) ∧ (2 : Int) ≤ (9223372036854775807 : Int)) ∧ ((64 : Nat) ≤ (1000 : Nat) ∧ (64 : Nat) ≤ (1000 : Nat) ∧ (-9223372036854775808 : Int) ≤ (3 : Int) ∧ (3 : Int) ≤ (9223372036854775807 : Int)) ∧ ((-9223372036854775808 : Int) ≤ (2 : Int) ∧ (2 : Int) ≤ (9223372036854775807 : Int)) ∧ ((-9223372036854775808 : Int) ≤ (3 : Int) ∧ (3 : Int) ≤ (9223372036854775807 : Int)) ∧ ((-9223372036854775808 : Int) ≤ (3 : Int) ∧ (3 : Int) ≤ (9223372036854775807 : Int)) ∧ ((-9223372036854775808 : Int) ≤ (4 : Int) ∧ (4 : Int) ≤ (9223372036854775807 : Int)) ∧ ((64 : Nat) ≤ (1000 : Nat) ∧ (64 : Nat) ≤ (1000 : Nat) ∧ (64 : Nat) ≤ (1000 : Nat) ∧ (64 : Nat) ≤ (1000 : Nat)) ∧ ((-9223372036854775808 : Int) ≤ (0 : Int) ∧ (0 : Int) ≤ (9223372036854775807 : Int)) ∧ ((-9223372036854775808 : Int) ≤ (4 : Int) ∧ (4 : Int) ≤ (9223372036854775807 : Int)) ∧ ((-9223372036854775808 : Int) ≤ (1 : Int) ∧ (1 : Int) ≤ (9223372036854775807 : Int)) ∧ ((-9223372036854775808 : Int) ≤ (6 : Int) ∧ (6 : Int) ≤ (9223372036854775807 : Int)) ∧ ((64 : Nat) ≤ (1000 : Nat) ∧ (64 : Nat) ≤ (1000 : Nat) ∧ (64 : Nat) ≤ (1000 : Nat) ∧ (64 : Nat) ≤ (1000 : Nat)) ∧ ((-9223372036854775808 : Int) ≤ (2 : Int) ∧ (2 : Int) ≤ (9223372036854775807 : Int)) ∧ ((-9223372036854775808 : Int) ≤ (4 : Int) ∧ (4 : Int) ≤ (9223372036854775807 : Int)) ∧ ((64 : Nat) ≤ (1000 : Nat) ∧ (64 : Nat) ≤ (1000 : Nat)) ∧ ((-9223372036854775808 : Int) ≤ (11 : Int) ∧ (11 : Int) ≤ (9223372036854775807 : Int)) ∧ ((64 : Nat) + (64 : Nat) ≤ (1000000 : Nat) ∧ (64 : Nat) ≤ (1000000 : Nat)) ∧ bif !decide (crtR (2 : Int) (3 : Int) (3 : Int) (4 : Int) = (11 : Int)) then false = true else ((-9223372036854775808 : Int) ≤ (12 : Int) ∧ (12 : Int) ≤ (9223372036854775807 : Int)) ∧ ((64 : Nat) + (64 : Nat) ≤ (1000000 : Nat) ∧ (64 : Nat) ≤ (1000000 : Nat)) ∧ ((-9223372036854775808 : Int) ≤ (2 : Int) ∧ (2 : Int) ≤ (9223372036854775807 : Int)) ∧ ((-9223372036854775808 : Int) ≤ (7 : Int) ∧ (7 : Int) ≤ (9223372036854775807 : Int)) ∧ ((64 : Nat) ≤ (200000 : Nat) ∧ (64 : Nat) ≤ (200000 : Nat)) ∧ ((-9223372036854775808 : Int) ≤ (2 : Int) ∧ (2 : Int) ≤ (9223372036854775807 : Int)) ∧ ((-9223372036854775808 : Int) ≤ (3 : Int) ∧ (3 : Int) ≤ (9223372036854775807 : Int)) ∧ ((64 : Nat) ≤ (200000 : Nat) ∧ (64 : Nat) ≤ (200000 : Nat)) ∧ ((-9223372036854775808 : Int) ≤ (-1 : Int) ∧ (-1 : Int) ≤ (9223372036854775807 : Int)) ∧ ((-9223372036854775808 : Int) ≤ (-1 : Int) ∧ (-1 : Int) ≤ (9223372036854775807 : Int)) ∧ ((64 : Nat) ≤ (200000 : Nat) ∧ (64 : Nat) ≤ (200000 : Nat)) ∧ ((-9223372036854775808 : Int) ≤ (5 : Int) ∧ (5 : Int) ≤ (9223372036854775807 : Int)) ∧ ((-9223372036854775808 : Int) ≤ (0 : Int) ∧ (0 : Int) ≤ (9223372036854775807 : Int)) ∧ ((64 : Nat) ≤ (200000 : Nat) ∧ (64 : Nat) ≤ (200000 : Nat)) ∧ ((-9223372036854775808 : Int) ≤ (3 : Int) ∧ (3 : Int) ≤ (9223372036854775807 : Int)) ∧ ((-9223372036854775808 : Int) ≤ (7 : Int) ∧ (7 : Int) ≤ (9223372036854775807 : Int)) ∧ ((64 : Nat) ≤ (1000 : Nat) ∧ (64 : Nat) ≤ (1000 : Nat)) ∧ ((64 : Nat) ≤ (10000 : Nat) ∧ (-9223372036854775808 : Int) ≤ (5 : Int) ∧ (5 : Int) ≤ (9223372036854775807 : Int)) ∧ bif decide (invE (3 : Int) (7 : Int) = (0 : Int)) && decide (invV (3 : Int) (7 : Int) = (5 : Int)) then ((-9223372036854775808 : Int) ≤ (2 : Int) ∧ (2 : Int) ≤ (9223372036854775807 : Int)) ∧ ((-9223372036854775808 : Int) ≤ (-1 : Int) ∧ (-1 : Int) ≤ (9223372036854775807 : Int)) ∧ ((-9223372036854775808 : Int) ≤ (9 : Int) ∧ (9 : Int) ≤ (9223372036854775807 : Int)) ∧ ((64 : Nat) ≤ (1000 : Nat) ∧ (64 : Nat) ≤ (1000 : Nat) ∧ (64 : Nat) ≤ (1000 : Nat)) ∧ ((64 : Nat) ≤ (10000 : Nat) ∧ (-9223372036854775808 : Int) ≤ (5 : Int) ∧ (5 : Int) ≤ (9223372036854775807 : Int)) ∧ bif decide (powE (2 : Int) (-1 : Int) (9 : Int) = (0 : Int)) && decide (powV (2 : Int) (-1 : Int) (9 : Int) = (5 : Int)) then ((-9223372036854775808 : Int) ≤ (2 : Int) ∧ (2 : Int) ≤ (9223372036854775807 : Int)) ∧ ((-9223372036854775808 : Int) ≤ (7 : Int) ∧ (7 : Int) ≤ (9223372036854775807 : Int)) ∧ ((64 : Nat) ≤ (3000 : Nat) ∧ (64 : Nat) ≤ (3000 : Nat) ∧ SqHas (2 : Int) (7 : Int)) ∧ ((64 : Nat) ≤ (10000 : Nat) ∧ (-9223372036854775808 : Int) ≤ (3 : Int) ∧ (3 : Int) ≤ (9223372036854775807 : Int)) ∧ ((-9223372036854775808 : Int) ≤ (1 : Int) ∧ (1 : Int) ≤ (9223372036854775807 : Int)) ∧ ((-9223372036854775808 : Int) ≤ (3 : Int) ∧ (3 : Int) ≤ (9223372036854775807 : Int)) ∧ ((-9223372036854775808 : Int) ≤ (5 : Int) ∧ (5 : Int) ≤ (9223372036854775807 : Int)) ∧ ((-9223372036854775808 : Int) ≤ (7 : Int) ∧ (7 : Int) ≤ (9223372036854775807 : Int)) ∧ ((4 : Nat) ≤ (4 : Nat) ∧ (∀ (i : Nat), i < List.length (rootsL (1 : Int) (Int.toNat ((2 : Int) ^ Int.toNat (3 : Int)))) → ∃ z k, bgF (rootsL (1 : Int) (Int.toNat ((2 : Int) ^ Int.toNat (3 : Int)))) (64 : Nat) i = MV.big z k ∧ k ≤ (1000 : Nat)) ∧ (∀ (i : Nat), i < (4 : Nat) → ∃ z k, rowOf [MV.big (1 : Int) (64 : Nat), MV.big (3 : Int) (64 : Nat), MV.big (5 : Int) (64 : Nat), MV.big (7 : Int) (64 : Nat)] i = MV.big z k ∧ k ≤ (1000 : Nat)) ∧ List.length (rootsL (1 : Int) (Int.toNat ((2 : Int) ^ Int.toNat (3 : Int)))) ≤ (1000000000 : Nat)) ∧ decide (bvals (List.length (rootsL (1 : Int) (Int.toNat ((2 : Int) ^ Int.toNat (3 : Int))))) (bgF (rootsL (1 : Int) (Int.toNat ((2 : Int) ^ Int.toNat (3 : Int)))) (64 : Nat)) = bvals (4 : Nat) (rowOf [MV.big (1 : Int) (64 : Nat), MV.big (3 : Int) (64 : Nat), MV.big (5 : Int) (64 : Nat), MV.big (7 : Int) (64 : Nat)])) = true else false = true else false = true) = evFn (env [c_lof, c_roots, c_crt, c_linv, c_lpow, c_lroot, c_rsame, c_kron, c_lis, c_samel] noAnn) Tryd.f10 [] (MRes.sat (.ret (.bool true))) := by kernel_rfl

/-! ### The examples -/
theorem x_minv {a b v : Int} (hb : 0 < b) (hg : Int.gcd a b = 1) (hv : ∀ x, 0 ≤ x → x < b → b ∣ x * a - 1 → x = v) : minv a b = v := by
  obtain ⟨h1, h2, h3⟩ := minv_spec hb hg
  exact hv _ h1 h2 h3
theorem x_37 : minv 3 7 = 5 := x_minv (by omega) (by decide) fun x h1 h2 h3 => by omega
theorem x_29 : minv 2 9 = 5 := x_minv (by omega) (by decide) fun x h1 h2 h3 => by omega
theorem x_bzu : bzu 3 4 = 3 := by
  have h := bzu_spec (a := 3) (b := 4) (by omega)
  have h1 := h.u0
  have h2 := h.u1
  have h3 := h.dv
  have g : Int.gcd 3 4 = 1 := by decide
  rw [g] at h2 h3
  have e : ((4 : Int) / ((1 : Nat) : Int)).natAbs = 4 := by decide
  rw [e] at h2
  omega
theorem x_crt : crtR 2 3 3 4 = 11 := by
  unfold crtR crtM
  have g : Int.gcd 3 4 = 1 := by decide
  rw [x_bzu, g]
  decide
theorem x_invE : invE 3 7 = 0 := by
  unfold invE
  rw [if_pos (by omega), if_pos (by decide)]
theorem x_invV : invV 3 7 = 5 := by
  unfold invV
  rw [if_pos (by omega), if_pos (by decide), x_37]
theorem x_powE : powE 2 (-1) 9 = 0 := by
  unfold powE
  rw [if_pos (by omega), if_neg (by decide)]
theorem x_powV : powV 2 (-1) 9 = 5 := by
  unfold powV powR
  rw [if_pos (by omega), if_neg (by decide), if_pos (by omega), x_29]
  decide
theorem x_rootE : rootE 2 7 = 0 := by decide +kernel
theorem x_rootV : rootV 2 7 = 3 := by decide +kernel
theorem x_roots : rootsL 1 8 = [1, 3, 5, 7] := by decide +kernel

def s_lex : FSpec
  | [] => some (none, .ret (.bool true))
  | _ => none
theorem p_lex : Good Tryd.f10 s_lex := by
  intro ms p r h hp
  unfold s_lex at h
  split at h
  · simp only [Option.some.injEq, Prod.mk.injEq] at h
    obtain ⟨rfl, rfl⟩ := h
    refine ⟨env [c_lof, c_roots, c_crt, c_linv, c_lpow, c_lroot, c_rsame, c_kron, c_lis, c_samel] noAnn, ?_⟩
    rw [← vc_lex]
    have e8 : ((2 : Int) ^ Int.toNat (3 : Int)).toNat = 8 := by decide
    have hs : SqHas 2 7 := ⟨fun _ _ _ => ⟨0, by omega, by decide +kernel⟩⟩
    have hB1 : ∀ i : Nat, i < [(1 : Int), 3, 5, 7].length → ∃ z k, bgF [(1 : Int), 3, 5, 7] 64 i = MV.big z k ∧ k ≤ 1000 := fun i _ => ⟨_, _, rfl, by omega⟩
    have hB2 : ∀ i : Nat, i < 4 → ∃ z k, rowOf [MV.big 1 64, MV.big 3 64, MV.big 5 64, MV.big 7 64] i = MV.big z k ∧ k ≤ 1000 := fun i hi => by
      rcases (show i = 0 ∨ i = 1 ∨ i = 2 ∨ i = 3 by omega) with h | h | h | h <;> subst h <;> exact ⟨_, _, rfl, by omega⟩
    have hB3 : bvals [(1 : Int), 3, 5, 7].length (bgF [(1 : Int), 3, 5, 7] 64) = bvals 4 (rowOf [MV.big 1 64, MV.big 3 64, MV.big 5 64, MV.big 7 64]) := by decide
    rw [e8, x_roots]
    simp only [x_crt, x_invE, x_invV, x_powE, x_powV, decide_true, Bool.not_true, cond_false, cond_true, Bool.and_true]
    and_intros <;> first | exact True.intro | rfl | exact hs | exact hB1 | exact hB2 | exact decide_eq_true hB3 | omega | decide
  · simp at h
def c_lex : Ctr Tryd.prog := ⟨10, s_lex, fun args w => Tryd.call10 args w, fn_ok mix Tryd.func10 s_lex p_lex⟩

end Go.Proofs.YtcikhffhikgahaaDoor

/-
  Contracts whose results are said without cases.
-/
namespace Go.Proofs.YtcikhffhikgahaaDoor
open Go Go.RowKit

/-- Whatever way x ends, r allows it. -/
def MRes.imp : MRes → MRes → Prop
  | .br b x y, r => cond b (x.imp r) (y.imp r)
  | .ret m, r => r.sat (.ret m)
  | .pan _, _ => False
theorem sat_holds {c : Ctx} {w : World} {m : MV} {v : Value} : ∀ (r : MRes), r.sat (.ret m) → Rep c w m v → r.holds c w (.returned v)
  | .ret m', h, hr => le_rep (nb := 0) ⟨fun _ h => h, fun _ h => h, fun i hi => by omega⟩ h hr
  | .pan _, h, _ => h.elim
  | .br b x y, h, hr => by
    simp only [MRes.sat, Br] at h
    simp only [MRes.holds]
    cases b with
    | true => exact sat_holds x h hr
    | false => exact sat_holds y h hr
theorem imp_holds {c : Ctx} {w : World} {e : Ending} : ∀ (x r : MRes), x.imp r → x.holds c w e → r.holds c w e
  | .ret m, r, h, hh => by
    cases e with
    | returned v => exact sat_holds r h hh
    | panicked _ => exact hh.elim
    | outgrown => exact hh.elim
  | .pan _, _, h, _ => h.elim
  | .br b x y, r, h, hh => by
    simp only [MRes.imp] at h
    simp only [MRes.holds] at hh
    cases b with
    | true => exact imp_holds x r h hh
    | false => exact imp_holds y r h hh

def modE (m : Int) : Int := if 0 < m then 0 else 1
def modV (a m : Int) : Int := if 0 < m then a % m else 0
def s_modU : FSpec
  | [.big a n, .big b m] => some (some (n ≤ 900000 ∧ m ≤ 900000), .ret (.tup [.big (modV a b) m, .int .i64 (modE b)]))
  | _ => none
theorem w_modU : ∀ ms p r, s_modU ms = some (p, r) → p.holds → ∃ p' r', s_mModG ms = some (p', r') ∧ p'.holds ∧ ∀ ct w e, r'.holds ct w e → r.holds ct w e := by
  intro ms p r h hp
  unfold s_modU at h
  split at h
  · rename_i a n b m
    simp only [Option.some.injEq, Prod.mk.injEq] at h
    obtain ⟨rfl, rfl⟩ := h
    refine ⟨_, _, rfl, hp, fun ct w e => imp_holds _ _ ?_⟩
    unfold modV modE
    by_cases hb : 0 < b
    · rw [decide_eq_true hb, if_pos hb, if_pos hb]
      exact ⟨⟨rfl, .inl (Nat.le_refl _)⟩, rfl, True.intro⟩
    · rw [decide_eq_false hb, if_neg hb, if_neg hb]
      exact ⟨⟨rfl, .inl (Nat.zero_le _)⟩, rfl, True.intro⟩
  · simp at h
def c_modU : Ctr Tryd.prog := c_mModG.weaken s_modU w_modU

noncomputable def crE (r1 m1 r2 m2 : Int) : Int := if 0 < m1 ∧ 0 < m2 then (if (r2 - r1) % Int.gcd m1 m2 = 0 then 0 else 6) else 1
noncomputable def crV (r1 m1 r2 m2 : Int) : Int := if 0 < m1 ∧ 0 < m2 then (if (r2 - r1) % Int.gcd m1 m2 = 0 then crtR r1 m1 r2 m2 else 0) else 0
noncomputable def crW (r1 m1 r2 m2 : Int) : Int := if 0 < m1 ∧ 0 < m2 then (if (r2 - r1) % Int.gcd m1 m2 = 0 then crtM m1 m2 else 0) else 0
noncomputable def s_crtU : FSpec
  | [.big r1 n1, .big m1 k1, .big r2 n2, .big m2 k2] => some (some (n1 ≤ 1000 ∧ k1 ≤ 1000 ∧ n2 ≤ 1000 ∧ k2 ≤ 1000), .ret (.tup [.big (crV r1 m1 r2 m2) (k1 + k2), .big (crW r1 m1 r2 m2) (k1 + k2), .int .i64 (crE r1 m1 r2 m2)]))
  | _ => none
theorem w_crtU : ∀ ms p r, s_crtU ms = some (p, r) → p.holds → ∃ p' r', s_crt ms = some (p', r') ∧ p'.holds ∧ ∀ ct w e, r'.holds ct w e → r.holds ct w e := by
  intro ms p r h hp
  unfold s_crtU at h
  split at h
  · rename_i r1 n1 m1 k1 r2 n2 m2 k2
    simp only [Option.some.injEq, Prod.mk.injEq] at h
    obtain ⟨rfl, rfl⟩ := h
    refine ⟨_, _, rfl, hp, fun ct w e => imp_holds _ _ ?_⟩
    unfold crV crW crE crtMR
    by_cases hm : 0 < m1 ∧ 0 < m2
    · rw [decide_eq_true hm.1, decide_eq_true hm.2, if_pos hm, if_pos hm, if_pos hm]
      by_cases hg : (r2 - r1) % (Int.gcd m1 m2 : Int) = 0
      · rw [decide_eq_true hg, if_pos hg, if_pos hg, if_pos hg]
        exact ⟨⟨rfl, .inl (Nat.le_refl _)⟩, ⟨rfl, .inl (Nat.le_refl _)⟩, rfl, True.intro⟩
      · rw [decide_eq_false hg, if_neg hg, if_neg hg, if_neg hg]
        exact ⟨⟨rfl, .inl (Nat.zero_le _)⟩, ⟨rfl, .inl (Nat.zero_le _)⟩, rfl, True.intro⟩
    · rw [show (decide (0 < m1) && decide (0 < m2)) = false by simpa using hm, if_neg hm, if_neg hm, if_neg hm]
      exact ⟨⟨rfl, .inl (Nat.zero_le _)⟩, ⟨rfl, .inl (Nat.zero_le _)⟩, rfl, True.intro⟩
  · simp at h
noncomputable def c_crtU : Ctr Tryd.prog := c_crt.weaken s_crtU w_crtU

end Go.Proofs.YtcikhffhikgahaaDoor

/-
  The frame of a law: what was read before the call is read behind it.
-/
namespace Go.Proofs.YtcikhffhikgahaaDoor
open Go Go.RowKit

theorem mapM_keep {α β : Type} {f g : α → Option β} : ∀ (l : List α) (xs : List β), l.mapM f = some xs → (∀ a x, f a = some x → x ∈ xs → g a = some x) → l.mapM g = some xs
  | [], xs, h, _ => h
  | a :: l, xs, h, hk => by
    simp only [List.mapM_cons, Option.bind_eq_bind, Option.pure_def, Option.bind_eq_some_iff, Option.some.injEq] at h ⊢
    obtain ⟨x, h1, ys, h2, rfl⟩ := h
    exact ⟨x, hk a x h1 (List.mem_cons_self ..), ys, mapM_keep l ys h2 fun b y hb hy => hk b y hb (List.mem_cons_of_mem _ hy), rfl⟩

theorem mapM_keep2 {α β : Type} {f g : α → Option β} : ∀ (l : List α) (xs : List β), l.mapM f = some xs → (∀ a ∈ l, ∀ x, f a = some x → x ∈ xs → g a = some x) → l.mapM g = some xs
  | [], xs, h, _ => h
  | a :: l, xs, h, hk => by
    simp only [List.mapM_cons, Option.bind_eq_bind, Option.pure_def, Option.bind_eq_some_iff, Option.some.injEq] at h ⊢
    obtain ⟨x, h1, ys, h2, rfl⟩ := h
    exact ⟨x, hk a (List.mem_cons_self ..) x h1 (List.mem_cons_self ..), ys, mapM_keep2 l ys h2 fun b hb y hy hm => hk b (List.mem_cons_of_mem _ hb) y hy (List.mem_cons_of_mem _ hm), rfl⟩

theorem cell_keep {w w' : World} (e : ∀ b, b < w.heap.size → w'.heap[b]? = w.heap[b]?) {a : Addr} {v : Value} (h : w.cell? a = some v) : w'.cell? a = some v := by
  have hlt : a.block < w.heap.size := by
    unfold World.cell? at h
    split at h
    · rename_i h0; exact (Array.getElem?_eq_some_iff.1 h0).1
    · simp at h
  unfold World.cell? at h ⊢
  rw [e _ hlt]; exact h
theorem cells_keep {w w' : World} (e : ∀ b, b < w.heap.size → w'.heap[b]? = w.heap[b]?) {base : Nat} {a : Addr} {n : Nat} {vs : List Value} (h : w.cells? base a n = some vs) : w'.cells? base a n = some vs := by
  unfold World.cells? at h ⊢
  split at h
  · rename_i hb
    rw [if_pos hb]
    exact mapM_keep _ _ h fun i v hi _ => cell_keep e hi
  · simp at h

section
variable {H : Type} {enc : TypeId × Value → H} {P : Program} {w w' : World}

/-- What a type leads to is in the list; no element takes no cell. -/
def subOk (P : Program) (L : List Nat) (t : Nat) : Bool := match P.underlying t with
  | some (.pointer e) => L.elem e
  | some (.slice e) => L.elem e && (0).blt (P.cellsOf e)
  | some (.struct fs) => fs.toList.all fun f => L.elem f.type
  | some (.array _ e) => L.elem e
  | some (.interface _) => false
  | some (.map _ e) => L.elem e
  | _ => true

theorem trod_keep {L : List Nat} (hL : L.all (subOk P L) = true) (e : ∀ b, b < w.heap.size → w'.heap[b]? = w.heap[b]?) (sp : Nat → Bool) (held : Bool) :
    ∀ (fuel : Nat) (t : TypeId) (cs : List Value) (x : DataW H × List MemPlace), t ∈ L → DataW.trod enc P w 0 (fun _ => true) held fuel t cs = some x → (∀ p ∈ x.2, sp p.block = true) → DataW.trod enc P w' 0 sp held fuel t cs = some x
  | 0, _, _, _, _, h, _ => by simp [DataW.trod] at h
  | fuel + 1, t, cs, x, ht, h, hsp => by
    have ih := trod_keep hL e sp held fuel
    have hok := List.all_eq_true.1 hL t ht
    unfold subOk at hok
    unfold DataW.trod at h ⊢
    have el : ∀ (a : Addr) (n : Nat) (u : TypeId) (y : DataW H × List MemPlace), u ∈ L → (w.cells? 0 a n).bind (DataW.trod enc P w 0 (fun _ => true) held fuel u) = some y → (∀ p ∈ y.2, sp p.block = true) → (w'.cells? 0 a n).bind (DataW.trod enc P w' 0 sp held fuel u) = some y := by
      intro a n u y hu hy hs
      obtain ⟨vs, h1, h2⟩ := Option.bind_eq_some_iff.1 hy
      exact Option.bind_eq_some_iff.2 ⟨vs, cells_keep e h1, ih u vs y hu h2 hs⟩
    split at h
    case h_21 => simp at h
    case h_6 =>
      rename_i hu
      rw [hu] at hok
      obtain ⟨y, h1, rfl⟩ := Option.map_eq_some_iff.1 h
      exact Option.map_eq_some_iff.2 ⟨y, el _ _ _ _ (List.mem_of_elem_eq_true hok) h1 fun p hp => hsp p (List.mem_append_right _ hp), rfl⟩
    case h_8 =>
      rename_i ee a len cap hu
      rw [hu] at hok
      simp only [Bool.and_eq_true, Nat.blt_eq] at hok
      have hee := List.mem_of_elem_eq_true hok.1
      dsimp only at h ⊢
      split at h
      · rename_i hc
        rw [if_pos hc]
        obtain ⟨elems, h1, h⟩ := Option.bind_eq_some_iff.1 h
        obtain ⟨rest, h2, rfl⟩ := Option.map_eq_some_iff.1 h
        rw [if_pos rfl] at h2
        have hsz := hok.2
        have q1 : ∀ y ∈ elems, ∀ p ∈ y.2, sp p.block = true := fun y hy p hp => hsp p (List.mem_append_right _ (List.mem_flatMap.2 ⟨y, List.mem_append_left _ hy, hp⟩))
        have q2 : ∀ y ∈ rest, ∀ p ∈ y.2, sp p.block = true := fun y hy p hp => hsp p (List.mem_append_right _ (List.mem_flatMap.2 ⟨y, List.mem_append_right _ hy, hp⟩))
        refine Option.bind_eq_some_iff.2 ⟨elems, mapM_keep _ _ h1 fun i y hi hy => el _ _ _ _ hee hi (q1 y hy), Option.map_eq_some_iff.2 ⟨rest, ?_, rfl⟩⟩
        by_cases h0 : rest = []
        · subst h0
          have : cap - len = 0 := by
            rcases Nat.eq_zero_or_pos (cap - len) with h | h
            · exact h
            · obtain ⟨n, hn⟩ := Nat.exists_eq_succ_of_ne_zero (Nat.pos_iff_ne_zero.1 h)
              rw [hn, List.range_succ_eq_map] at h2
              simp [Option.bind_eq_some_iff] at h2
          rw [this]
          split <;> simp
        · have hpos : 0 < (elems.length + rest.length) * P.cellsOf ee := Nat.mul_pos (by have := List.length_pos_iff.2 h0; omega) hsz
          have : sp a.block = true := hsp (.cell a.block (a.off + 0)) (List.mem_append_left _ (List.mem_map.2 ⟨0, List.mem_range.2 hpos, rfl⟩))
          rw [if_pos this]
          exact mapM_keep _ _ h2 fun i y hi hy => el _ _ _ _ hee hi (q2 y hy)
      · simp at h
    case h_9 =>
      rename_i fs hu
      rw [hu] at hok
      split at h
      · rename_i hc
        rw [if_pos hc]
        obtain ⟨xs, h1, rfl⟩ := Option.map_eq_some_iff.1 h
        exact Option.map_eq_some_iff.2 ⟨xs, mapM_keep2 _ _ h1 fun f hfm y hf hy => ih _ _ _ (List.mem_of_elem_eq_true (List.all_eq_true.1 hok f hfm)) hf fun p hp => hsp p (List.mem_flatMap.2 ⟨y, hy, hp⟩), rfl⟩
      · simp at h
    case h_10 =>
      rename_i n ee hu
      rw [hu] at hok
      split at h
      · rename_i hc
        rw [if_pos hc]
        obtain ⟨xs, h1, rfl⟩ := Option.map_eq_some_iff.1 h
        exact Option.map_eq_some_iff.2 ⟨xs, mapM_keep _ _ h1 fun f y hf hy => ih _ _ _ (List.mem_of_elem_eq_true hok) hf fun p hp => hsp p (List.mem_flatMap.2 ⟨y, hy, hp⟩), rfl⟩
      · simp at h
    case h_12 =>
      rename_i hu
      rw [hu] at hok
      simp at hok
    case h_14 =>
      rename_i b hu
      rw [hu] at hok
      split at h
      · rename_i es clock hb
        rw [e b (Array.getElem?_eq_some_iff.1 hb).1, hb]
        dsimp only
        split at h
        · rename_i hc
          rw [if_pos hc]
          obtain ⟨entries, h1, h⟩ := Option.bind_eq_some_iff.1 h
          have hpl : ∀ y ∈ entries, ∀ p ∈ y.2, sp p.block = true := by
            dsimp only at h
            split at h
            · simp only [Option.some.injEq] at h
              subst h
              exact fun y hy p hp => hsp p (List.mem_cons_of_mem _ (List.mem_flatMap.2 ⟨y, hy, hp⟩))
            · simp at h
          refine Option.bind_eq_some_iff.2 ⟨entries, mapM_keep _ _ h1 fun f y hf hy => ?_, h⟩
          obtain ⟨key, k1, k2⟩ := Option.bind_eq_some_iff.1 hf
          refine Option.bind_eq_some_iff.2 ⟨key, k1, ?_⟩
          split at k2
          · rename_i hfm
            rw [if_pos hfm]
            obtain ⟨z, z1, rfl⟩ := Option.map_eq_some_iff.1 k2
            exact Option.map_eq_some_iff.2 ⟨z, ih _ _ _ (List.mem_of_elem_eq_true hok) z1 (hpl _ hy), rfl⟩
          · simp at k2
        · simp at h
      · simp at h
    all_goals
      exact h

theorem trodAll_keep {L : List Nat} (hL : L.all (subOk P L) = true) (e : ∀ b, b < w.heap.size → w'.heap[b]? = w.heap[b]?) (sp : Nat → Bool) :
    ∀ (ts : List TypeId) (vs : List Value) (ds : List (DataW H)) (ps : List MemPlace), (∀ t ∈ ts, t ∈ L) → DataW.TrodAll enc P w 0 (fun _ => true) true ts vs ds ps → (∀ p ∈ ps, sp p.block = true) → DataW.TrodAll enc P w' 0 sp true ts vs ds ps
  | [], [], [], _, _, h, _ => h
  | t :: ts, v :: vs, d :: ds, ps, ht, h, hsp => by
    obtain ⟨p, q, ⟨fuel, h1⟩, h2, rfl⟩ := h
    exact ⟨p, q, ⟨fuel, trod_keep hL e sp true fuel t _ _ (ht t (List.mem_cons_self ..)) h1 fun p hp => hsp p (List.mem_append_left _ hp)⟩, trodAll_keep hL e sp ts vs ds q (fun u hu => ht u (List.mem_cons_of_mem _ hu)) h2 fun p hp => hsp p (List.mem_append_right _ hp), rfl⟩
  | [], _ :: _, _, _, _, h, _ => h.elim
  | [], [], _ :: _, _, _, h, _ => h.elim
  | _ :: _, [], _, _, _, h, _ => h.elim
  | _ :: _, _ :: _, [], _, _, h, _ => h.elim

end
end Go.Proofs.YtcikhffhikgahaaDoor

/-
  The frame of a law: what the arguments are, as the evaluator says it.
-/
namespace Go.Proofs.YtcikhffhikgahaaDoor
open Go Go.RowKit

abbrev noS : Nat → Prop := fun _ => False

section
variable {H : Type} {enc : TypeId × Value → H} {P : Program} {w : World} {sp : Nat → Bool} {held : Bool}

theorem mapM_all {α β : Type} {f : α → Option β} : ∀ (l : List α) (xs : List β), l.mapM f = some xs → ∀ a ∈ l, ∃ x, f a = some x
  | [], _, _, a, ha => by simp at ha
  | b :: l, xs, h, a, ha => by
    simp only [List.mapM_cons, Option.bind_eq_bind, Option.pure_def, Option.bind_eq_some_iff, Option.some.injEq] at h
    obtain ⟨x, h1, ys, h2, rfl⟩ := h
    rcases List.mem_cons.1 ha with rfl | ha
    · exact ⟨x, h1⟩
    · exact mapM_all l ys h2 a ha

theorem trod_fields {t : TypeId} {fs : Array Field} {fuel : Nat} {cs : List Value} {x : DataW H × List MemPlace} (hu : P.underlying t = some (.struct fs)) (h : DataW.trod enc P w 0 sp held fuel t cs = some x) :
    cs.length = P.cellsOf t ∧ ∃ fuel', ∀ f ∈ fs.toList, ∃ y, DataW.trod enc P w 0 sp held fuel' f.type ((cs.drop f.offset).take (P.cellsOf f.type)) = some y := by
  cases fuel with
  | zero => simp [DataW.trod] at h
  | succ fuel =>
    unfold DataW.trod at h
    rw [hu] at h
    split at h
    all_goals first | (rename_i h0; simp at h0; done) | skip
    · rename_i fs' hf
      simp only [Option.some.injEq, TypeDesc.struct.injEq] at hf
      subst hf
      split at h
      · rename_i hc
        obtain ⟨xs, h1, rfl⟩ := Option.map_eq_some_iff.1 h
        exact ⟨hc, fuel, mapM_all _ _ h1⟩
      · simp at h
    · rename ∀ (fs_1 : Array Field), some (TypeDesc.struct fs) = some (TypeDesc.struct fs_1) → False => hh
      exact (hh fs rfl).elim

theorem trod_array {t e : TypeId} {n : Nat} {fuel : Nat} {cs : List Value} {x : DataW H × List MemPlace} (hu : P.underlying t = some (.array n e)) (h : DataW.trod enc P w 0 sp held fuel t cs = some x) :
    cs.length = P.cellsOf t ∧ ∃ fuel', ∀ i, i < n → ∃ y, DataW.trod enc P w 0 sp held fuel' e ((cs.drop (i * P.cellsOf e)).take (P.cellsOf e)) = some y := by
  cases fuel with
  | zero => simp [DataW.trod] at h
  | succ fuel =>
    unfold DataW.trod at h
    rw [hu] at h
    split at h
    all_goals first | (rename_i h0; simp at h0; done) | skip
    · rename_i n' e' hf
      simp only [Option.some.injEq, TypeDesc.array.injEq] at hf
      obtain ⟨rfl, rfl⟩ := hf
      split at h
      · rename_i hc
        obtain ⟨xs, h1, rfl⟩ := Option.map_eq_some_iff.1 h
        exact ⟨hc, fuel, fun i hi => mapM_all _ _ h1 i (List.mem_range.2 hi)⟩
      · simp at h
    · rename ∀ (k : Nat) (e_1 : TypeId), some (TypeDesc.array n e) = some (TypeDesc.array k e_1) → False => hh
      exact (hh n e rfl).elim

theorem trod_int {t : TypeId} {k : IntKind} {fuel : Nat} {cs : List Value} {x : DataW H × List MemPlace} (hu : P.underlying t = some (.int k)) (h : DataW.trod enc P w 0 sp held fuel t cs = some x) :
    ∃ n, cs = [.int k n] ∧ (Lit.int k n).wf = true := by
  cases fuel with
  | zero => simp [DataW.trod] at h
  | succ fuel =>
    unfold DataW.trod at h
    rw [hu] at h
    split at h
    all_goals first | (rename_i h0; simp at h0; done) | skip
    · rename_i k0 k' n hk
      simp only [Option.some.injEq, TypeDesc.int.injEq] at hk
      subst hk
      split at h
      · rename_i hc
        exact ⟨n, by rw [hc.1], hc.2⟩
      · simp at h
    · simp at h

theorem trod_bool {t : TypeId} {fuel : Nat} {cs : List Value} {x : DataW H × List MemPlace} (hu : P.underlying t = some .bool) (h : DataW.trod enc P w 0 sp held fuel t cs = some x) : ∃ b, cs = [.bool b] := by
  cases fuel with
  | zero => simp [DataW.trod] at h
  | succ fuel =>
    unfold DataW.trod at h
    rw [hu] at h
    split at h
    all_goals first | (rename_i h0; simp at h0; done) | skip
    · exact ⟨_, rfl⟩
    · simp at h


theorem range_mapM {β : Type} {f : Nat → Option β} {n : Nat} {xs : List β} (h : (List.range n).mapM f = some xs) (i : Nat) (hi : i < n) : ∃ x, f i = some x := mapM_all _ _ h i (List.mem_range.2 hi)

theorem cells_one {a : Addr} {vs : List Value} (h : w.cells? 0 a 1 = some vs) : ∃ v, w.cell? a = some v ∧ vs = [v] := by
  unfold World.cells? at h
  rw [if_pos (Nat.zero_le _)] at h
  simp only [show List.range 1 = [0] from rfl, List.mapM_cons, List.mapM_nil, Option.bind_eq_bind, Option.pure_def, Option.bind_eq_some_iff, Option.some.injEq] at h
  obtain ⟨x, h1, ys, rfl, rfl⟩ := h
  exact ⟨x, by simpa [Addr.add] using h1, rfl⟩
theorem cell_some {a : Addr} {v : Value} (h : w.cell? a = some v) : ∃ arr ty fr, w.heap[a.block]? = some (.cells arr ty fr) ∧ a.spot = none ∧ arr[a.off]? = some v := by
  unfold World.cell? at h
  split at h
  · rename_i c t f hb
    split at h
    · simp at h
    · rename_i hs
      exact ⟨c, t, f, hb, by simpa using hs, h⟩
  · simp at h

/-- A slice of words. -/
theorem trod_words {t e : TypeId} {fuel : Nat} {cs : List Value} {x : DataW H × List MemPlace} (hu : P.underlying t = some (.slice e)) (he : P.underlying e = some (.int .u32)) (hc : P.cellsOf e = 1)
    (h : DataW.trod enc P w 0 sp held fuel t cs = some x) : ∃ s l, cs = [s] ∧ WordsR (Ctx.args noS) w l s ∧ Wd l ∧ l.length ≤ maxLen := by
  cases fuel with
  | zero => simp [DataW.trod] at h
  | succ fuel =>
    unfold DataW.trod at h
    rw [hu] at h
    split at h
    all_goals first | (rename_i h0; simp at h0; done) | skip
    · exact ⟨_, [], rfl, ⟨none, 0, rfl, Nat.le_refl _, fun h => absurd h (by simp)⟩, Wd.nil, Nat.zero_le _⟩
    · rename_i e' a len cap hs
      simp only [Option.some.injEq, TypeDesc.slice.injEq] at hs
      subst hs
      dsimp only at h
      split at h
      · rename_i hcc
        obtain ⟨elems, h1, h⟩ := Option.bind_eq_some_iff.1 h
        rw [hc] at h1
        have hel : ∀ i, i < len → ∃ n, w.cell? (a.add (i * 1)) = some (.int .u32 n) ∧ 0 ≤ n ∧ n < 4294967296 := by
          intro i hi
          obtain ⟨y, hy⟩ := range_mapM h1 i hi
          obtain ⟨vs, g1, g2⟩ := Option.bind_eq_some_iff.1 hy
          obtain ⟨v, g3, rfl⟩ := cells_one g1
          obtain ⟨n, g4, g5⟩ := trod_int he g2
          simp only [List.cons.injEq, and_true] at g4
          subst g4
          have : 0 ≤ n ∧ n ≤ 4294967295 := by simpa [Lit.wf, IntKind.min, IntKind.max, IntKind.signed, IntKind.bits] using g5
          exact ⟨n, g3, by omega⟩
        obtain ⟨l, hl1, hl2⟩ : ∃ l : List Int, l.length = len ∧ ∀ i n, l[i]? = some n → w.cell? (a.add (i * 1)) = some (.int .u32 n) ∧ 0 ≤ n ∧ n < 4294967296 := by
          refine ⟨(List.range len).pmap (fun i hi => Classical.choose (hel i (List.mem_range.1 hi))) (fun i hi => hi), by simp, fun i n hn => ?_⟩
          rw [List.getElem?_pmap] at hn
          simp only [Option.pmap_eq_some_iff] at hn
          obtain ⟨k, hk, hm, rfl⟩ := hn
          have hi : i < len := by rw [← List.length_range (n := len)]; exact (List.getElem?_eq_some_iff.1 hm).1
          have : k = i := by rw [List.getElem?_range hi] at hm; simpa using hm.symm
          subst this
          exact Classical.choose_spec (hel k hi)
        refine ⟨_, l, rfl, ⟨some a, cap, by rw [hl1], by rw [hl1]; exact hcc.2.1, fun hp => ?_⟩, fun y hy => ?_, by rw [hl1]; exact Nat.le_trans hcc.2.1 hcc.2.2⟩
        · obtain ⟨v0, _⟩ := hl2 0 l[0] (by simp [hp])
          rw [Nat.zero_mul, show a.add 0 = a from rfl] at v0
          obtain ⟨arr, ty, fr, r1, r2, r3⟩ := cell_some v0
          refine ⟨a.block, a.off, by cases a; simp_all, id, arr, ty, fr, r1, fun j v hv => ?_⟩
          simp only [List.getElem?_map, Option.map_eq_some_iff] at hv
          obtain ⟨n, hn, rfl⟩ := hv
          obtain ⟨s1, _⟩ := hl2 j n hn
          obtain ⟨arr', ty', fr', t1, t2, t3⟩ := cell_some s1
          have hb : (a.add (j * 1)).block = a.block := by unfold Addr.add; split <;> rfl
          have ho : (a.add (j * 1)).off = a.off + j := by unfold Addr.add; split <;> simp_all
          rw [hb, r1] at t1
          simp only [Option.some.injEq, Obj.cells.injEq] at t1
          rw [ho] at t3
          rw [t1.1]; exact t3
        · obtain ⟨i, hi, rfl⟩ := List.getElem_of_mem hy
          exact (hl2 i l[i] (by simp [hi])).2
      · simp at h
    · simp at h

end
end Go.Proofs.YtcikhffhikgahaaDoor

/-
  The frame of a law that may read a package-level array: what is laid; descriptions of numbers; what the contract of a law gives.
-/
namespace Go.Proofs.YtcikhffhikgahaaDoor
open Go Go.ChangeShapes Go.WideShapes Go.ChangeAt Go.RowKit

theorem own : ownKnob Tryd.prog.godebug = none := by kernel_rfl

theorem agg_cells {v : Value} {a b : Value} {r : List Value} (h : v.cells.toList = a :: b :: r) : v = .agg (a :: b :: r).toArray := by
  cases v <;> first | (simp [Value.cells] at h; done) | skip
  rename_i cs
  have : cs = (a :: b :: r).toArray := by apply Array.ext'; simpa [Value.cells] using h
  rw [this]
theorem len_two {cs : List Value} (h : cs.length = 2) : ∃ a b, cs = [a, b] := by
  match cs, h with
  | [a, b], _ => exact ⟨a, b, rfl⟩

theorem cells_u32 : Tryd.prog.cellsOf 72 = 1 := by kernel_rfl
theorem cells_bool : Tryd.prog.cellsOf 4 = 1 := by kernel_rfl
theorem cells_int : Tryd.prog.cellsOf 3 = 1 := by kernel_rfl
theorem cells_words : Tryd.prog.cellsOf 22 = 1 := by kernel_rfl
theorem cells_raw : Tryd.prog.cellsOf 24 = 2 := by kernel_rfl

section
variable {H : Type} {enc : TypeId × Value → H} {w : World} {sp : Nat → Bool} {held : Bool}
theorem u16_wf {n : Int} (h : (Lit.int .u16 n).wf = true) : 0 ≤ n ∧ n ≤ 65535 := by simpa [Lit.wf, IntKind.min, IntKind.max, IntKind.signed, IntKind.bits] using h
theorem i16_wf {n : Int} (h : (Lit.int .i16 n).wf = true) : -32768 ≤ n ∧ n ≤ 32767 := by simpa [Lit.wf, IntKind.min, IntKind.max, IntKind.signed, IntKind.bits] using h

theorem repc_raw {fuel : Nat} {cs : List Value} {y : DataW H × List MemPlace} (h : DataW.trod enc Tryd.prog w 0 sp held fuel 24 cs = some y) : ∃ b l, RepC (Ctx.args noS) w (rawM b l) cs ∧ Wd l ∧ l.length < 9223372036854775808 := by
  obtain ⟨hl, f', hf⟩ := trod_fields Tryd.underlying24 h
  rw [cells_raw] at hl
  obtain ⟨a, b, e⟩ := len_two hl
  rw [e] at hf ⊢
  clear e hl h
  obtain ⟨y0, h0⟩ := hf _ (List.mem_cons_self ..)
  obtain ⟨y1, h1⟩ := hf _ (List.mem_cons_of_mem _ (List.mem_cons_self ..))
  dsimp only at h0 h1
  rw [cells_bool] at h0
  rw [cells_words] at h1
  obtain ⟨b0, e0⟩ := trod_bool Tryd.underlying4 h0
  obtain ⟨s, l, e1, hw, hwd, hlen⟩ := trod_words Tryd.underlying22 Tryd.underlying72 cells_u32 h1
  have z0 : [a] = [.bool b0] := e0
  have z1 : [b] = [s] := e1
  simp only [List.cons.injEq, and_true] at z0 z1
  subst z0 z1
  refine ⟨b0, l, ⟨_, _, rfl, rfl, _, _, rfl, ⟨_, rfl, hw⟩, rfl⟩, hwd, ?_⟩
  have : maxLen = 2 ^ 63 - 1 := rfl
  omega
theorem rep_raw {v : Value} {d : DataW H} {ps : List MemPlace} (h : DataW.Trod enc Tryd.prog w 0 sp held 24 v d ps) : ∃ b l, Rep1 (Ctx.args noS) w (rawM b l) v ∧ Wd l ∧ l.length < 9223372036854775808 := by
  obtain ⟨fuel, h⟩ := h
  obtain ⟨hl, _⟩ := trod_fields Tryd.underlying24 h
  rw [cells_raw] at hl
  obtain ⟨a, b, e⟩ := len_two hl
  obtain ⟨b0, l, h1, h2, h3⟩ := repc_raw h
  rw [e] at h1
  exact ⟨b0, l, (rep1_agg rfl).2 ⟨_, agg_cells e, h1⟩, h2, h3⟩

/-- What the call leaves as it was reads as it read. -/
theorem post_same {P : Program} {f : Func} {s : ChangeSpec} {apart fresh handsOn again : Bool} {W W' : World} {args : Array Value} {v : Value} {ds gs : List (DataW H)} {before pa pv : List MemPlace}
    (hW : DataW.Whole enc P f.params.toList s.vars apart W args.toList ds gs before)
    (hres : ∀ (b : Nat) (sp : Nat → Bool) (hd : Bool), DataW.TrodAll enc P W' b sp hd f.resultTypes.toList (v.resultList f.resultTypes.size) (s.fn H (ds ++ gs)).results [])
    (hargs : ∀ sp : Nat → Bool, (∀ p ∈ before, sp p.block = true) → DataW.TrodAll enc P W' 0 sp true f.params.toList args.toList (s.fn H (ds ++ gs)).args pa)
    (hvars : ∀ sp : Nat → Bool, (∀ p ∈ before, sp p.block = true) → DataW.TrodVars enc P W' sp s.vars (s.fn H (ds ++ gs)).vars pv)
    (hps : before = pa ++ pv) (hk : W.keptBut W' (· ∈ before)) (hfz : ∀ a : Addr, a.block < W.heap.size → W'.frozen? a = W.frozen? a)
    (hok : ∀ (j : Nat) (t : TypeId) (r : Value), f.resultTypes[j]? = some t → (v.resultList f.resultTypes.size)[j]? = some r → Value.okWide P W' .any 0 t r) :
    s.post enc P f apart fresh handsOn again W args v W' := by
  have hlt : ∀ p ∈ before, p.block < W.heap.size := hW.lt
  have hold : ∀ p ∈ before, (fun b => decide (b < W.heap.size)) p.block = true := fun p hp => by simpa using hlt p hp
  refine ⟨ds, gs, before, [], pa, pv, hW, hres _ _ _, hargs _ hold, hvars _ hold, World.keptBut_mono (fun p hp => ⟨hp, ?_⟩) hk, fun _ => ?_⟩
  · rw [hps, List.mem_append] at hp
    exact Or.inr hp
  · obtain ⟨_, _, _, _, _, hz, hn⟩ := hW
    refine ⟨hok, _, _, ([] ++ pa) ++ pv, ⟨[] ++ pa, pv, trodAll_append (hargs _ (fun _ _ => rfl)) (hres _ _ _), hvars _ (fun _ _ => rfl), rfl, ?_, ?_⟩, ?_⟩
    · intro b off hp
      have hm : MemPlace.cell b off ∈ before := by rw [hps]; simpa using hp
      rw [hfz ⟨b, off, none⟩ (hlt _ hm)]
      exact hz b off hm
    · intro ha
      have := hn ha
      rw [hps] at this
      simpa using this
    · intro p hp _
      rw [hps]
      simpa using hp

set_option maxRecDepth 100000 in
/-- What the contract of a law gives. -/
theorem law_calls {fn : Func} {s : ChangeSpec} (ctr : Ctr Tryd.prog) (hvars : s.vars = []) (hrt : fn.resultTypes = #[4]) {L : List Nat} (hL : L.all (subOk Tryd.prog L) = true) (hin : ∀ t ∈ fn.params.toList, t ∈ L) {apart fresh handsOn again : Bool} {W : World} {args : Array Value} {ds gs : List (DataW H)} {before : List MemPlace}
    (hW : DataW.Whole enc Tryd.prog fn.params.toList s.vars apart W args.toList ds gs before) (hG : GW noS W)
    (hrep : ∃ ms p, ctr.spec ms = some (p, .ret (.bool true)) ∧ p.holds ∧ RepAll (Ctx.args noS) W ms args.toList)
    (hspec : s.fn H (ds ++ gs) = { results := [.lit (.bool true)], args := ds }) :
    Calls Tryd.prog ctr.f args W fun e W' => ∃ v, e = .returned v ∧ s.post enc Tryd.prog fn apart fresh handsOn again W args v W' := by
  obtain ⟨ms, p, h1, h2, h3⟩ := hrep
  refine (ctr.ok noS W ms args p _ h1 h2 (fun _ h => h.elim) hG h3).mono fun e W' ⟨hE, hh⟩ => ?_
  obtain ⟨v, rfl, hr⟩ : ∃ v, e = .returned v ∧ Rep (Ctx.res noS) W' (.bool true) v := by
    cases e with
    | returned v => exact ⟨v, rfl, hh⟩
    | panicked _ => exact hh.elim
    | outgrown => exact hh.elim
  have hv : v = .bool true := rep_bool hr
  subst hv
  refine ⟨_, rfl, ?_⟩
  have hW' := hW
  obtain ⟨p, q, hA, hV, rfl, _, _⟩ := hW
  rw [hvars] at hV
  obtain ⟨rfl, rfl⟩ : gs = [] ∧ q = [] := trodVars_none hV
  refine post_same (pa := p) (pv := []) hW' (fun _ _ _ => ?_) (fun sp hsp => ?_) (fun _ _ => ?_) rfl (hE.kept _) hE.frz ?_
  · rw [hspec, hrt]
    exact trodAll_cons_mk (shut_bool Tryd.underlying4 _) trodAll_mk0
  · rw [hspec]
    exact trodAll_keep hL hE.block sp _ _ _ _ hin hA fun p hp => hsp p (List.mem_append_left _ hp)
  · rw [hspec, hvars]; rfl
  · have hw : Value.okWide Tryd.prog W' .any 0 4 (.bool true) := okWide_bool_mk Tryd.underlying4 true
    exact ok_one hrt rfl hw
end

/-! ### What is laid -/
noncomputable abbrev laid1 : List (String × DataW Unit) := [("algorist/modular.signs", Rows.laid_algorist_modular_signs)]
theorem gSigns : Tryd.prog.globalNamed "algorist/modular.signs" = some 0 := by kernel_rfl
theorem tSigns : (Tryd.prog.globals[0]?).map (·.type) = some 71 := by kernel_rfl
theorem list8 {xs : List (DataW Unit × List MemPlace)} (h : xs.length = 8) : ∃ a b c d e f g i, xs = [a, b, c, d, e, f, g, i] := by
  match xs, h with
  | [a, b, c, d, e, f, g, i], _ => exact ⟨a, b, c, d, e, f, g, i, rfl⟩
theorem gw_of_laid {W : World} (h : laidMetH Tryd.prog laid1 W) : GW noS W := by
  intro _
  rw [MakeChecks.laidMetH_plain _ _ _ (by kernel_rfl)] at h
  obtain ⟨ps, ⟨g0, t0, cs0, f0, p0, q0, hg0, ht0, hv0, hd0, _, _⟩, _, _⟩ := h
  obtain rfl := Option.some.inj (gSigns.symm.trans hg0)
  obtain rfl := Option.some.inj (tSigns.symm.trans ht0)
  obtain ⟨xs, m1, rfl, hx1, hlen, hn8, hel⟩ := DataW.trod_array Tryd.underlying71 hd0
  rw [cells_int] at hel
  obtain ⟨x0, x1, x2, x3, x4, x5, x6, x7, rfl⟩ := list8 hn8
  have key : ∀ (i : Nat) (n : Int), i < 8 → (∀ x : DataW Unit × List MemPlace, [x0, x1, x2, x3, x4, x5, x6, x7][i]? = some x → x.1 = .lit (.int .i64 n)) → W.cell? ⟨0, i, none⟩ = some (.int .i64 n) := by
    intro i n hi hx
    have h1 := hel i hi
    obtain ⟨x, hxe⟩ : ∃ x, [x0, x1, x2, x3, x4, x5, x6, x7][i]? = some x := ⟨_, List.getElem?_eq_getElem (by simpa using hi)⟩
    rw [hxe] at h1
    obtain ⟨k, e1, e2, _⟩ := DataW.trod_int Tryd.underlying3 h1
    have hk := hx x hxe
    rw [e2] at hk
    simp only [DataW.lit.injEq, Lit.int.injEq, true_and] at hk
    subst hk
    have := World.var?_cell hg0 hv0 i
    rw [this]
    rw [Nat.mul_one] at e1
    have e3 : (cs0.toList.drop i)[0]? = some (.int .i64 k) := by
      have : ((cs0.toList.drop i).take 1)[0]? = some (.int .i64 k) := by rw [e1]; rfl
      rw [List.getElem?_take] at this
      simpa using this
    rw [List.getElem?_drop] at e3
    simpa using e3
  simp only [Prod.mk.injEq] at hx1
  have hd := hx1.1
  unfold Rows.laid_algorist_modular_signs at hd
  simp only [List.map_cons, List.map_nil, DataW.agg.injEq, List.cons.injEq, and_true] at hd
  obtain ⟨d0, d1, d2, d3, d4, d5, d6, d7⟩ := hd
  have c0 := key 0 0 (by omega) (fun x hx => by cases hx; exact d0.symm)
  have c1 := key 1 1 (by omega) (fun x hx => by cases hx; exact d1.symm)
  have c2 := key 2 0 (by omega) (fun x hx => by cases hx; exact d2.symm)
  have c3 := key 3 (-1) (by omega) (fun x hx => by cases hx; exact d3.symm)
  have c4 := key 4 0 (by omega) (fun x hx => by cases hx; exact d4.symm)
  have c5 := key 5 (-1) (by omega) (fun x hx => by cases hx; exact d5.symm)
  have c6 := key 6 0 (by omega) (fun x hx => by cases hx; exact d6.symm)
  have c7 := key 7 1 (by omega) (fun x hx => by cases hx; exact d7.symm)
  clear key hel hd0 hv0 hn8 hlen d0 d1 d2 d3 d4 d5 d6 d7
  obtain ⟨arr, ty, fr, ha⟩ : ∃ arr ty fr, W.heap[0]? = some (.cells arr ty fr) := by
    unfold World.cell? at c0
    split at c0
    · rename_i arr ty fr e; exact ⟨arr, ty, fr, e⟩
    · simp at c0
  have hc : ∀ (i : Nat) v, W.cell? ⟨0, i, none⟩ = some v → arr[i]? = some v := fun i v h => by
    unfold World.cell? at h
    rw [show W.heap[(⟨0, i, none⟩ : Addr).block]? = _ from ha] at h
    exact h
  refine ⟨id, (Array.getElem?_eq_some_iff.1 ha).1, arr, ty, fr, ha, fun j v hv => ?_⟩
  rw [Nat.zero_add]
  match j, hv with
  | 0, hv => cases hv; exact hc _ _ c0
  | 1, hv => cases hv; exact hc _ _ c1
  | 2, hv => cases hv; exact hc _ _ c2
  | 3, hv => cases hv; exact hc _ _ c3
  | 4, hv => cases hv; exact hc _ _ c4
  | 5, hv => cases hv; exact hc _ _ c5
  | 6, hv => cases hv; exact hc _ _ c6
  | 7, hv => cases hv; exact hc _ _ c7
  | j + 8, hv => simp [gList] at hv

end Go.Proofs.YtcikhffhikgahaaDoor

namespace Go.Proofs.YtcikhffhikgahaaDoor
open Go Go.ChangeShapes Go.WideShapes Go.ChangeAt Go.RowKit

abbrev threeV (b1 b2 b3 : Bool) (l1 l2 l3 : List Int) : MV := .st [rawM b1 l1, rawM b2 l2, rawM b3 l3]
theorem cells_three : Tryd.prog.cellsOf 49 = 6 := by kernel_rfl
theorem rep_three {H : Type} {enc : TypeId × Value → H} {w : World} {sp : Nat → Bool} {held : Bool} {v : Value} {d : DataW H} {ps : List MemPlace} (h : DataW.Trod enc Tryd.prog w 0 sp held 49 v d ps) :
    ∃ b1 b2 b3 l1 l2 l3, Rep1 (Ctx.args noS) w (threeV b1 b2 b3 l1 l2 l3) v ∧ (Wd l1 ∧ l1.length < 9223372036854775808) ∧ (Wd l2 ∧ l2.length < 9223372036854775808) ∧ (Wd l3 ∧ l3.length < 9223372036854775808) := by
  obtain ⟨fuel, h⟩ := h
  obtain ⟨hl, f', hf⟩ := trod_fields Tryd.underlying49 h
  rw [cells_three] at hl
  match hc : v.cells.toList, hl with
  | [a0, a1, a2, a3, a4, a5], _ =>
    rw [hc] at hf
    obtain ⟨y0, h0⟩ := hf _ (List.mem_cons_self ..)
    obtain ⟨y1, h1⟩ := hf _ (List.mem_cons_of_mem _ (List.mem_cons_self ..))
    obtain ⟨y2, h2⟩ := hf _ (List.mem_cons_of_mem _ (List.mem_cons_of_mem _ (List.mem_cons_self ..)))
    dsimp only at h0 h1 h2
    rw [cells_raw] at h0 h1 h2
    obtain ⟨b1, l1, r1, w1⟩ := repc_raw (cs := [a0, a1]) h0
    obtain ⟨b2, l2, r2, w2⟩ := repc_raw (cs := [a2, a3]) h1
    obtain ⟨b3, l3, r3, w3⟩ := repc_raw (cs := [a4, a5]) h2
    exact ⟨b1, b2, b3, l1, l2, l3, (rep1_agg rfl).2 ⟨_, agg_cells hc, [a0, a1], _, rfl, r1, [a2, a3], _, rfl, r2, [a4, a5], _, rfl, r3, rfl⟩, w1, w2, w3⟩

/-- The door's own heap meets the condition. -/
theorem door_met (os : Os) (args : Array Value) : laidMetH Tryd.prog laid1 ((World.doorLaid Tryd.prog 400 os).forCall (fun _ _ => 0) ⟨#[], args, []⟩).memory :=
  laidMetH_of_parts3 (fuel := 8) (laidMet_of_run' 8 (by kernel_rfl) (by kernel_rfl)) (by kernel_rfl) (by kernel_rfl)

end Go.Proofs.YtcikhffhikgahaaDoor
