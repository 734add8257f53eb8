/-
  ModularAllRoots: whatever the number, the prime power's base (below 64) and the exponent are: layer 3 answers the same list of roots, and the same error, as its plainly written reference.
-/
import Derived.Test.YtcikhffhikgahaaDoorW4
import Derived.Test.YtcikhffhikgahaaDoorW5


/-
  Contracts of functions: the reference's Sign, Cmp, Div, Bezout, Inv.
-/
namespace Go.Proofs.YtcikhffhikgahaaDoor
open Go Go.RowKit

theorem vc_rsign (z : Int) (n : Nat) : (bif (↑(List.length (limbs (Int.natAbs z))) : Int) == (0 : Int) then (0 : Int) = sgn z else bif decide (z < (0 : Int)) then (-1 : Int) = sgn z else (1 : Int) = sgn z) = evFn (env [] noAnn) Tryd.f54 [.big z n] (MRes.sat (.ret (.int .i64 (sgn z)))) := by kernel_rfl
theorem p_rsign : Good Tryd.f54 s_sign := by
  intro ms p r h hp
  unfold s_sign at h
  split at h
  · rename_i z n
    simp only [Option.some.injEq, Prod.mk.injEq] at h
    obtain ⟨rfl, rfl⟩ := h
    refine ⟨env [] noAnn, ?_⟩
    rw [← vc_rsign z n]
    by_cases hz : z = 0
    · subst hz
      have : ((((limbs (0 : Int).natAbs).length : Nat) : Int) == 0) = true := by rw [show (0 : Int).natAbs = 0 from rfl, limbs_zero]; rfl
      rw [this]; rfl
    · have hne : (limbs z.natAbs).length ≠ 0 := fun e => by
        have := limbs_eq_nil.1 (List.eq_nil_of_length_eq_zero e)
        omega
      have : ((((limbs z.natAbs).length : Nat) : Int) == 0) = false := by simpa using hne
      rw [this, cond_false, Bool.cond_decide]
      unfold sgn
      rw [if_neg hz]
      split <;> rfl
  · simp at h
def c_rsign : Ctr Tryd.prog := ⟨54, s_sign, fun args w => Tryd.call54 args w, fn_ok mix Tryd.func54 s_sign p_rsign⟩

theorem vc_rcmp (a b : Int) (n m : Nat) : (bif !decide (a < (0 : Int)) == decide (b < (0 : Int)) then bif decide (a < (0 : Int)) then (-1 : Int) = icmp a b else (1 : Int) = icmp a b else bif decide (a < (0 : Int)) then (limbs (Int.toNat (wv (limbs (Int.natAbs b)))) = limbs (Int.natAbs b) ∧ limbs (Int.toNat (wv (limbs (Int.natAbs a)))) = limbs (Int.natAbs a) ∧ List.length (limbs (Int.natAbs b)) ≤ (1099511627776 : Nat) ∧ List.length (limbs (Int.natAbs a)) ≤ (1099511627776 : Nat)) ∧ icmp (wv (limbs (Int.natAbs b))) (wv (limbs (Int.natAbs a))) = icmp a b else (limbs (Int.toNat (wv (limbs (Int.natAbs a)))) = limbs (Int.natAbs a) ∧ limbs (Int.toNat (wv (limbs (Int.natAbs b)))) = limbs (Int.natAbs b) ∧ List.length (limbs (Int.natAbs a)) ≤ (1099511627776 : Nat) ∧ List.length (limbs (Int.natAbs b)) ≤ (1099511627776 : Nat)) ∧ icmp (wv (limbs (Int.natAbs a))) (wv (limbs (Int.natAbs b))) = icmp a b) = evFn (env [c_rsize] noAnn) Tryd.f50 [.big a n, .big b m] (MRes.sat (.ret (.int .i64 (icmp a b)))) := by kernel_rfl
theorem p_rcmp : GoodF Tryd.f50 s_icmp := by
  intro ms p r h hp hf
  unfold s_icmp at h
  split at h
  · rename_i a n b m
    simp only [Option.some.injEq, Prod.mk.injEq] at h
    obtain ⟨rfl, rfl⟩ := h
    obtain ⟨hn, hm⟩ : n ≤ 1000000 ∧ m ≤ 1000000 := hp
    have ha : a.natAbs < 2 ^ n := hf.1
    have hb : b.natAbs < 2 ^ m := hf.2.1
    have l1 := lim_len ha (by omega)
    have l2 := lim_len hb (by omega)
    refine ⟨env [c_rsize] noAnn, ?_⟩
    rw [← vc_rcmp a b n m, wvl, wvl, Int.toNat_natCast, Int.toNat_natCast]
    have e1 : ∀ {x y : Int}, (0 ≤ x → 0 ≤ y → icmp (x.natAbs : Int) (y.natAbs : Int) = icmp x y) ∧ (x < 0 → y < 0 → icmp (y.natAbs : Int) (x.natAbs : Int) = icmp x y) := by
      intro x y
      constructor
      · intro h1 h2; unfold icmp; (repeat' split) <;> omega
      · intro h1 h2; unfold icmp; (repeat' split) <;> omega
    rcases Int.lt_or_le a 0 with q1 | q1 <;> rcases Int.lt_or_le b 0 with q2 | q2
    · rw [decide_eq_true q1, decide_eq_true q2]
      exact ⟨⟨rfl, rfl, by omega, by omega⟩, e1.2 q1 q2⟩
    · rw [decide_eq_true q1, decide_eq_false (show ¬ b < 0 by omega)]
      show (-1 : Int) = icmp a b
      unfold icmp; (repeat' split) <;> omega
    · rw [decide_eq_false (show ¬ a < 0 by omega), decide_eq_true q2]
      show (1 : Int) = icmp a b
      unfold icmp; (repeat' split) <;> omega
    · rw [decide_eq_false (show ¬ a < 0 by omega), decide_eq_false (show ¬ b < 0 by omega)]
      exact ⟨⟨rfl, rfl, by omega, by omega⟩, e1.1 q1 q2⟩
  · simp at h
def c_rcmp : Ctr Tryd.prog := ⟨50, s_icmp, fun args w => Tryd.call50 args w, fn_ok_facts mix Tryd.func50 s_icmp p_rcmp⟩

def s_rdiv : FSpec
  | [.big a n, .big b m] => some (some (n ≤ 900000 ∧ m ≤ 900000 ∧ b ≠ 0), .ret (.big (a / b) n))
  | _ => none
theorem vc_rdiv (a b : Int) (n m : Nat) : ((n ≤ (900000 : Nat) ∧ m ≤ (900000 : Nat) ∧ (b = (0 : Int) → False)) ∧ a / b = a / b ∧ (n ≤ n ∨ Int.natAbs (a / b) < (2 : Nat) ^ n)) = evFn (env [c_rdivmod1] noAnn) Tryd.f63 [.big a n, .big b m] (MRes.sat (.ret (.big (a / b) n))) := by kernel_rfl
theorem p_rdiv : Good Tryd.f63 s_rdiv := by
  intro ms p r h hp
  unfold s_rdiv at h
  split at h
  · rename_i a n b m
    simp only [Option.some.injEq, Prod.mk.injEq] at h
    obtain ⟨rfl, rfl⟩ := h
    obtain ⟨hn, hm, hb⟩ : n ≤ 900000 ∧ m ≤ 900000 ∧ b ≠ 0 := hp
    refine ⟨env [c_rdivmod1] noAnn, ?_⟩
    rw [← vc_rdiv a b n m]
    exact ⟨⟨hn, hm, hb⟩, rfl, .inl (Nat.le_refl _)⟩
  · simp at h
def c_rdiv : Ctr Tryd.prog := ⟨63, s_rdiv, fun args w => Tryd.call63 args w, fn_ok mix Tryd.func63 s_rdiv p_rdiv⟩

def a_rbez (a b : Int) (n m : Nat) : Nat → MS → Option LoopAnn
  | 8, _ => some (.inv BzS (BzI a b) (fun s => ⟨70, [(2, .bp 0 0), (3, .bp 1 0), (4, .bp 2 0), (5, .bp 3 0), (6, .bp 4 0), (7, .bp 5 0), (8, .bp 6 0), (9, .bp 7 0), (10, .bp 8 0), (11, .bp 9 0)],
      [⟨false, .one (.big a n)⟩, ⟨false, .one (.big b m)⟩, ⟨false, .one (.big 0 0)⟩, ⟨false, .one (.big 0 0)⟩, ⟨false, .one (.big 0 0)⟩, ⟨false, .one (.big b.natAbs m)⟩, ⟨false, .one (.big s.x m)⟩, ⟨false, .one (.big s.g m)⟩, ⟨false, .one (.big s.v (m + 1))⟩, ⟨false, .one (.big s.u (m + 1))⟩], 0⟩) (fun s => s.x.toNat))
  | _, _ => none
theorem vc_rbez (a b : Int) (n m : Nat) : (bif (↑(List.length (limbs (Int.natAbs b))) : Int) == (0 : Int) then n ≤ (1000000 : Nat) ∧ ((-9223372036854775808 : Int) ≤ sgn a ∧ sgn a ≤ (9223372036854775807 : Int)) ∧ bif decide (b = (0 : Int)) then ((↑(Int.natAbs a) : Int) = (↑(Int.natAbs a) : Int) ∧ (n ≤ n ∨ Int.natAbs (↑(Int.natAbs a) : Int) < (2 : Nat) ^ n)) ∧ (sgn a = sgn a ∧ ((64 : Nat) ≤ (64 : Nat) ∨ Int.natAbs (sgn a) < (2 : Nat) ^ (64 : Nat))) ∧ ((0 : Int) = (0 : Int) ∧ ((0 : Nat) ≤ (0 : Nat) ∨ Int.natAbs (0 : Int) < (2 : Nat) ^ (0 : Nat))) ∧ True else ((↑(Int.natAbs a) : Int) = (↑(Int.gcd a b) : Int) ∧ (n ≤ m ∨ Int.natAbs (↑(Int.natAbs a) : Int) < (2 : Nat) ^ m)) ∧ (sgn a = bzu a b ∧ ((64 : Nat) ≤ m ∨ Int.natAbs (sgn a) < (2 : Nat) ^ m)) ∧ ((0 : Int) = ((↑(Int.gcd a b) : Int) - bzu a b * a) / b ∧ ((0 : Nat) ≤ max m (m + n) + (1 : Nat) ∨ Int.natAbs (0 : Int) < (2 : Nat) ^ (max m (m + n) + (1 : Nat)))) ∧ True else m ≤ (1000000 : Nat) ∧ (n ≤ (900000 : Nat) ∧ m ≤ (900000 : Nat) ∧ ((↑(Int.natAbs b) : Int) = (0 : Int) → False)) ∧ ((-9223372036854775808 : Int) ≤ (1 : Int) ∧ (1 : Int) ≤ (9223372036854775807 : Int)) ∧ (∃ i, BzI a b i ∧ ((0 : Nat) = (0 : Nat) ∧ (0 : Nat) = (0 : Nat) ∧ (0 : Nat) = (0 : Nat) ∧ (0 : Nat) = (0 : Nat) ∧ (0 : Nat) = (0 : Nat) ∧ (0 : Nat) = (0 : Nat) ∧ (0 : Nat) = (0 : Nat) ∧ (0 : Nat) = (0 : Nat) ∧ (0 : Nat) = (0 : Nat) ∧ (0 : Nat) = (0 : Nat) ∧ True) ∧ (a = a ∧ (n ≤ n ∨ Int.natAbs a < (2 : Nat) ^ n)) ∧ (b = b ∧ (m ≤ m ∨ Int.natAbs b < (2 : Nat) ^ m)) ∧ ((0 : Int) = (0 : Int) ∧ ((0 : Nat) ≤ (0 : Nat) ∨ Int.natAbs (0 : Int) < (2 : Nat) ^ (0 : Nat))) ∧ ((0 : Int) = (0 : Int) ∧ ((0 : Nat) ≤ (0 : Nat) ∨ Int.natAbs (0 : Int) < (2 : Nat) ^ (0 : Nat))) ∧ ((0 : Int) = (0 : Int) ∧ ((0 : Nat) ≤ (0 : Nat) ∨ Int.natAbs (0 : Int) < (2 : Nat) ^ (0 : Nat))) ∧ ((↑(Int.natAbs b) : Int) = (↑(Int.natAbs b) : Int) ∧ (m ≤ m ∨ Int.natAbs (↑(Int.natAbs b) : Int) < (2 : Nat) ^ m)) ∧ (a % (↑(Int.natAbs b) : Int) = BzS.x i ∧ (m ≤ m ∨ Int.natAbs (a % (↑(Int.natAbs b) : Int)) < (2 : Nat) ^ m)) ∧ ((↑(Int.natAbs b) : Int) = BzS.g i ∧ (m ≤ m ∨ Int.natAbs (↑(Int.natAbs b) : Int) < (2 : Nat) ^ m)) ∧ ((1 : Int) = BzS.v i ∧ ((64 : Nat) ≤ m + (1 : Nat) ∨ Int.natAbs (1 : Int) < (2 : Nat) ^ (m + (1 : Nat)))) ∧ ((0 : Int) = BzS.u i ∧ ((0 : Nat) ≤ m + (1 : Nat) ∨ Int.natAbs (0 : Int) < (2 : Nat) ^ (m + (1 : Nat)))) ∧ True) ∧ ∀ (i : BzS), BzI a b i → bif decide ((↑(List.length (limbs (Int.natAbs (BzS.x i)))) : Int) > (0 : Int)) then (m ≤ (900000 : Nat) ∧ m ≤ (900000 : Nat) ∧ (BzS.x i = (0 : Int) → False)) ∧ (m ≤ (1000000 : Nat) ∧ m + (1 : Nat) ≤ (1000000 : Nat)) ∧ (m + (1 : Nat) ≤ (1000000 : Nat) ∧ m + (m + (1 : Nat)) ≤ (1000000 : Nat)) ∧ ∃ j, BzI a b j ∧ (((0 : Nat) = (0 : Nat) ∧ (0 : Nat) = (0 : Nat) ∧ (0 : Nat) = (0 : Nat) ∧ (0 : Nat) = (0 : Nat) ∧ (0 : Nat) = (0 : Nat) ∧ (0 : Nat) = (0 : Nat) ∧ (0 : Nat) = (0 : Nat) ∧ (0 : Nat) = (0 : Nat) ∧ (0 : Nat) = (0 : Nat) ∧ (0 : Nat) = (0 : Nat) ∧ True) ∧ (a = a ∧ (n ≤ n ∨ Int.natAbs a < (2 : Nat) ^ n)) ∧ (b = b ∧ (m ≤ m ∨ Int.natAbs b < (2 : Nat) ^ m)) ∧ ((0 : Int) = (0 : Int) ∧ ((0 : Nat) ≤ (0 : Nat) ∨ Int.natAbs (0 : Int) < (2 : Nat) ^ (0 : Nat))) ∧ ((0 : Int) = (0 : Int) ∧ ((0 : Nat) ≤ (0 : Nat) ∨ Int.natAbs (0 : Int) < (2 : Nat) ^ (0 : Nat))) ∧ ((0 : Int) = (0 : Int) ∧ ((0 : Nat) ≤ (0 : Nat) ∨ Int.natAbs (0 : Int) < (2 : Nat) ^ (0 : Nat))) ∧ ((↑(Int.natAbs b) : Int) = (↑(Int.natAbs b) : Int) ∧ (m ≤ m ∨ Int.natAbs (↑(Int.natAbs b) : Int) < (2 : Nat) ^ m)) ∧ (BzS.g i % BzS.x i = BzS.x j ∧ (m ≤ m ∨ Int.natAbs (BzS.g i % BzS.x i) < (2 : Nat) ^ m)) ∧ (BzS.x i = BzS.g j ∧ (m ≤ m ∨ Int.natAbs (BzS.x i) < (2 : Nat) ^ m)) ∧ (BzS.u i - BzS.g i / BzS.x i * BzS.v i = BzS.v j ∧ (max (m + (1 : Nat)) (m + (m + (1 : Nat))) + (1 : Nat) ≤ m + (1 : Nat) ∨ Int.natAbs (BzS.u i - BzS.g i / BzS.x i * BzS.v i) < (2 : Nat) ^ (m + (1 : Nat)))) ∧ (BzS.v i = BzS.u j ∧ (m + (1 : Nat) ≤ m + (1 : Nat) ∨ Int.natAbs (BzS.v i) < (2 : Nat) ^ (m + (1 : Nat)))) ∧ True) ∧ Int.toNat (BzS.x j) < Int.toNat (BzS.x i) else (m ≤ (900000 : Nat) ∧ m ≤ (900000 : Nat) ∧ (BzS.g i = (0 : Int) → False)) ∧ (m + (1 : Nat) ≤ (900000 : Nat) ∧ m ≤ (900000 : Nat) ∧ ((↑(Int.natAbs b) : Int) / BzS.g i = (0 : Int) → False)) ∧ (m ≤ (1000000 : Nat) ∧ n ≤ (1000000 : Nat)) ∧ (m ≤ (1000000 : Nat) ∧ m + n ≤ (1000000 : Nat)) ∧ (max m (m + n) + (1 : Nat) ≤ (900000 : Nat) ∧ m ≤ (900000 : Nat) ∧ (b = (0 : Int) → False)) ∧ bif decide (b = (0 : Int)) then (BzS.g i = (↑(Int.natAbs a) : Int) ∧ (m ≤ n ∨ Int.natAbs (BzS.g i) < (2 : Nat) ^ n)) ∧ (BzS.u i % ((↑(Int.natAbs b) : Int) / BzS.g i) = sgn a ∧ (m ≤ (64 : Nat) ∨ Int.natAbs (BzS.u i % ((↑(Int.natAbs b) : Int) / BzS.g i)) < (2 : Nat) ^ (64 : Nat))) ∧ ((BzS.g i - BzS.u i % ((↑(Int.natAbs b) : Int) / BzS.g i) * a) / b = (0 : Int) ∧ (max m (m + n) + (1 : Nat) ≤ (0 : Nat) ∨ Int.natAbs ((BzS.g i - BzS.u i % ((↑(Int.natAbs b) : Int) / BzS.g i) * a) / b) < (2 : Nat) ^ (0 : Nat))) ∧ True else (BzS.g i = (↑(Int.gcd a b) : Int) ∧ (m ≤ m ∨ Int.natAbs (BzS.g i) < (2 : Nat) ^ m)) ∧ (BzS.u i % ((↑(Int.natAbs b) : Int) / BzS.g i) = bzu a b ∧ (m ≤ m ∨ Int.natAbs (BzS.u i % ((↑(Int.natAbs b) : Int) / BzS.g i)) < (2 : Nat) ^ m)) ∧ ((BzS.g i - BzS.u i % ((↑(Int.natAbs b) : Int) / BzS.g i) * a) / b = ((↑(Int.gcd a b) : Int) - bzu a b * a) / b ∧ (max m (m + n) + (1 : Nat) ≤ max m (m + n) + (1 : Nat) ∨ Int.natAbs ((BzS.g i - BzS.u i % ((↑(Int.natAbs b) : Int) / BzS.g i) * a) / b) < (2 : Nat) ^ (max m (m + n) + (1 : Nat)))) ∧ True) = evFn (env [c_rdivmod1, c_rmod, c_rdiv, c_rabs, c_rsign, c_rof, c_rsub, c_rmul] (a_rbez a b n m)) Tryd.f57 [.big a n, .big b m] (MRes.sat (.br (decide (b = 0)) (.ret (.tup [.big a.natAbs n, .big (sgn a) 64, .big 0 0])) (.ret (.tup [.big (Int.gcd a b) m, .big (bzu a b) m, .big (((Int.gcd a b : Int) - bzu a b * a) / b) (max m (m + n) + 1)])))) := by kernel_rfl

theorem emod_natAbs_right (a b : Int) : a % (b.natAbs : Int) = a % b := by
  rcases Int.natAbs_eq b with h | h
  · rw [← h]
  · rw [show ((b.natAbs : Nat) : Int) = -b by omega, Int.emod_neg]
theorem emod_absdiv {b g : Int} (u : Int) (hd : g ∣ b) : u % ((b.natAbs : Int) / g) = u % (b / g) := by
  rcases Int.natAbs_eq b with h | h
  · rw [← h]
  · rw [show ((b.natAbs : Nat) : Int) = -b by omega, Int.neg_ediv_of_dvd hd, Int.emod_neg]
theorem absdiv_ne {b g : Int} (hd : g ∣ b) (h : b / g ≠ 0) : (b.natAbs : Int) / g ≠ 0 := by
  rcases Int.natAbs_eq b with e | e
  · rw [← e]; exact h
  · rw [show ((b.natAbs : Nat) : Int) = -b by omega, Int.neg_ediv_of_dvd hd]; omega
theorem p_rbez : GoodF Tryd.f57 s_ibez := by
  intro ms p r h hp hf
  unfold s_ibez at h
  split at h
  · rename_i a n b m
    simp only [Option.some.injEq, Prod.mk.injEq] at h
    obtain ⟨rfl, rfl⟩ := h
    obtain ⟨hn, hm⟩ : n ≤ 300000 ∧ m ≤ 300000 := hp
    have ha : a.natAbs < 2 ^ n := hf.1
    have hb : b.natAbs < 2 ^ m := hf.2.1
    refine ⟨env [c_rdivmod1, c_rmod, c_rdiv, c_rabs, c_rsign, c_rof, c_rsub, c_rmul] (a_rbez a b n m), ?_⟩
    rw [← vc_rbez a b n m, len_zero_iff]
    have hs : -1 ≤ sgn a ∧ sgn a ≤ 1 := by unfold sgn; (repeat' split) <;> omega
    by_cases hz : b = 0
    · rw [show decide (b = 0) = true from decide_eq_true hz, cond_true, cond_true]
      exact ⟨by omega, by omega, ⟨rfl, .inl (Nat.le_refl _)⟩, ⟨rfl, .inl (Nat.le_refl _)⟩, ⟨rfl, .inl (Nat.le_refl _)⟩, True.intro⟩
    · rw [show decide (b = 0) = false from decide_eq_false hz, cond_false]
      have hr := natAbs_emod (a := a) hz
      have hi := BzI.init (a := a) hz
      rw [← emod_natAbs_right a b] at hr hi
      refine ⟨by omega, ⟨by omega, by omega, by omega⟩, by omega, ⟨_, hi, (by and_intros <;> first | exact True.intro | rfl | omega), ⟨rfl, .inl (Nat.le_refl _)⟩, ⟨rfl, .inl (Nat.le_refl _)⟩, ⟨rfl, .inl (Nat.le_refl _)⟩, ⟨rfl, .inl (Nat.le_refl _)⟩, ⟨rfl, .inl (Nat.le_refl _)⟩, ⟨rfl, .inl (Nat.le_refl _)⟩, ⟨rfl, .inl (Nat.le_refl _)⟩, ⟨rfl, .inl (Nat.le_refl _)⟩, ⟨rfl, .inr (by show (1 : Nat) < 2 ^ (m + 1); have := Nat.one_le_two_pow (n := m); rw [Nat.pow_succ]; omega)⟩, ⟨rfl, .inl (Nat.zero_le _)⟩, True.intro⟩, ?_⟩
      rintro ⟨g, x, u, v⟩ hI
      rw [len_pos_iff, Bool.cond_decide]
      split
      · rename_i hx
        have hx : x ≠ 0 := hx
        have hst := hI.step hx
        have hb1 : (u - g / x * v).natAbs ≤ b.natAbs := hst.bv
        have hl := natAbs_emod (a := g) hx
        have hl' : (g % x).toNat < x.toNat := by
          have h1 : 0 ≤ x ∧ x ≤ b.natAbs := hI.x0
          have h2 := Int.emod_nonneg g hx
          omega
        exact ⟨⟨by omega, by omega, hx⟩, ⟨by omega, by omega⟩, ⟨by omega, by omega⟩, _, hst, ⟨(by and_intros <;> first | exact True.intro | rfl | omega), ⟨rfl, .inl (Nat.le_refl _)⟩, ⟨rfl, .inl (Nat.le_refl _)⟩, ⟨rfl, .inl (Nat.le_refl _)⟩, ⟨rfl, .inl (Nat.le_refl _)⟩, ⟨rfl, .inl (Nat.le_refl _)⟩, ⟨rfl, .inl (Nat.le_refl _)⟩, ⟨rfl, .inl (Nat.le_refl _)⟩, ⟨rfl, .inl (Nat.le_refl _)⟩, ⟨rfl, .inr (by show (u - g / x * v).natAbs < 2 ^ (m + 1); rw [Nat.pow_succ]; omega)⟩, ⟨rfl, .inl (Nat.le_refl _)⟩, True.intro⟩, hl'⟩
      · rename_i hx
        have hx : x = 0 := by
          by_cases e : x = 0
          · exact e
          · exact absurd e hx
        obtain ⟨k1, k2, k3, k4, k5⟩ := hI.fin hz hx
        have hg0 : 0 < g ∧ g ≤ b.natAbs := hI.g0
        have k1 : g = (Int.gcd a b : Int) := k1
        have k2 : b / g ≠ 0 := k2
        have k3 : u % (b / g) = bzu a b := k3
        have k4 : (b / g).natAbs ≤ b.natAbs := k4
        have hd : g ∣ b := by rw [k1]; exact Int.gcd_dvd_right ..
        simp only []
        rw [emod_absdiv u hd, k3]
        refine ⟨⟨by omega, by omega, by omega⟩, ⟨by omega, by omega, absdiv_ne hd k2⟩, ⟨by omega, by omega⟩, ⟨by omega, by omega⟩, ⟨by omega, by omega, hz⟩, ?_⟩
        rw [cond_false]
        exact ⟨⟨k1, .inl (Nat.le_refl _)⟩, ⟨rfl, .inl (Nat.le_refl _)⟩, ⟨by rw [k1], .inl (by omega)⟩, True.intro⟩
  · simp at h
noncomputable def c_rbez : Ctr Tryd.prog := ⟨57, s_ibez, fun args w => Tryd.call57 args w, fn_ok_facts mix Tryd.func57 s_ibez p_rbez⟩

end Go.Proofs.YtcikhffhikgahaaDoor

/-
  Contracts of functions: the reference of layer 3.
-/
namespace Go.Proofs.YtcikhffhikgahaaDoor
open Go Go.RowKit

theorem sgn_gt0 {b : Int} : decide (sgn b > 0) = decide (0 < b) := by
  refine decide_eq_decide.2 ?_
  unfold sgn
  split <;> (try split) <;> omega
theorem sgn_lt0 {b : Int} : decide (sgn b < 0) = decide (b < 0) := by
  refine decide_eq_decide.2 ?_
  unfold sgn
  split <;> (try split) <;> omega
theorem sgn_le0' {b : Int} : decide (sgn b ≤ 0) = !decide (0 < b) := by
  unfold sgn
  by_cases h : b = 0
  · subst h; rfl
  · rw [if_neg h]
    by_cases h2 : b < 0
    · rw [if_pos h2, decide_eq_false (show ¬ 0 < b by omega)]; rfl
    · rw [if_neg h2, decide_eq_true (show 0 < b by omega)]; rfl

theorem vc_r3mod (a b : Int) (n m : Nat) : (bif decide (sgn b ≤ (0 : Int)) then ((0 : Int) = modV a b ∧ ((0 : Nat) ≤ m ∨ Int.natAbs (0 : Int) < (2 : Nat) ^ m)) ∧ (1 : Int) = modE b ∧ True else (n ≤ (900000 : Nat) ∧ m ≤ (900000 : Nat) ∧ (b = (0 : Int) → False)) ∧ (a % b = modV a b ∧ (m ≤ m ∨ Int.natAbs (a % b) < (2 : Nat) ^ m)) ∧ (0 : Int) = modE b ∧ True) = evFn (env [c_rsign, c_rmod] noAnn) Tryd.f21 [.big a n, .big b m] (MRes.sat (.ret (.tup [.big (modV a b) m, .int .i64 (modE b)]))) := by kernel_rfl
theorem p_r3mod : Good Tryd.f21 s_modU := by
  intro ms p r h hp
  unfold s_modU at h
  split at h
  · rename_i a n b m
    simp only [Option.some.injEq, Prod.mk.injEq] at h
    obtain ⟨rfl, rfl⟩ := h
    obtain ⟨h1, h2⟩ : n ≤ 900000 ∧ m ≤ 900000 := hp
    refine ⟨env [c_rsign, c_rmod] noAnn, ?_⟩
    rw [← vc_r3mod a b n m, sgn_le0']
    unfold modV modE
    by_cases hb : 0 < b
    · rw [decide_eq_true hb, if_pos hb, if_pos hb]
      exact ⟨⟨h1, h2, by omega⟩, ⟨rfl, .inl (Nat.le_refl _)⟩, rfl, True.intro⟩
    · rw [decide_eq_false hb, if_neg hb, if_neg hb]
      exact ⟨⟨rfl, .inl (Nat.zero_le _)⟩, rfl, True.intro⟩
  · simp at h
def c_r3mod : Ctr Tryd.prog := ⟨21, s_modU, fun args w => Tryd.call21 args w, fn_ok mix Tryd.func21 s_modU p_r3mod⟩

/-- Bezout, for a second number that is not 0. -/
noncomputable def c_rbez1 : Ctr Tryd.prog := c_rbez.weaken s_ibez1 w_ibez1
noncomputable def s_r3inv : FSpec
  | [.big a n, .big m k] => some (some (n ≤ 1000 ∧ k ≤ 1000), .ret (.tup [.big (invV a m) k, .int .i64 (invE a m)]))
  | _ => none
theorem vc_r3inv (a m : Int) (n k : Nat) : (bif decide (sgn m ≤ (0 : Int)) then ((0 : Int) = invV a m ∧ ((0 : Nat) ≤ k ∨ Int.natAbs (0 : Int) < (2 : Nat) ^ k)) ∧ (1 : Int) = invE a m ∧ True else (n ≤ (900000 : Nat) ∧ k ≤ (900000 : Nat) ∧ (m = (0 : Int) → False)) ∧ (k ≤ (300000 : Nat) ∧ k ≤ (300000 : Nat) ∧ (m = (0 : Int) → False)) ∧ ((-9223372036854775808 : Int) ≤ (1 : Int) ∧ (1 : Int) ≤ (9223372036854775807 : Int)) ∧ (k ≤ (1000000 : Nat) ∧ (64 : Nat) ≤ (1000000 : Nat)) ∧ bif !decide ((↑(Int.gcd (a % m) m) : Int) = (1 : Int)) then ((0 : Int) = invV a m ∧ ((0 : Nat) ≤ k ∨ Int.natAbs (0 : Int) < (2 : Nat) ^ k)) ∧ (4 : Int) = invE a m ∧ True else (k ≤ (900000 : Nat) ∧ k ≤ (900000 : Nat) ∧ (m = (0 : Int) → False)) ∧ (bzu (a % m) m % m = invV a m ∧ (k ≤ k ∨ Int.natAbs (bzu (a % m) m % m) < (2 : Nat) ^ k)) ∧ (0 : Int) = invE a m ∧ True) = evFn (env [c_rsign, c_rmod, c_rbez1, c_rof, c_rsame] noAnn) Tryd.f23 [.big a n, .big m k] (MRes.sat (.ret (.tup [.big (invV a m) k, .int .i64 (invE a m)]))) := by kernel_rfl
theorem p_r3inv : Good Tryd.f23 s_r3inv := by
  intro ms p r h hp
  unfold s_r3inv at h
  split at h
  · rename_i a n m k
    simp only [Option.some.injEq, Prod.mk.injEq] at h
    obtain ⟨rfl, rfl⟩ := h
    obtain ⟨h1, h2⟩ : n ≤ 1000 ∧ k ≤ 1000 := hp
    refine ⟨env [c_rsign, c_rmod, c_rbez1, c_rof, c_rsame] noAnn, ?_⟩
    rw [← vc_r3inv a m n k, sgn_le0', gcd_mod]
    unfold invV invE
    by_cases hm : 0 < m
    · rw [decide_eq_true hm, if_pos hm, if_pos hm]
      refine ⟨⟨by omega, by omega, by omega⟩, ⟨by omega, by omega, by omega⟩, by omega, ⟨by omega, by omega⟩, ?_⟩
      by_cases hg : Int.gcd a m = 1
      · rw [show decide ((Int.gcd a m : Int) = 1) = true from decide_eq_true (by omega), if_pos hg, if_pos hg]
        exact ⟨⟨by omega, by omega, by omega⟩, ⟨rfl, .inl (Nat.le_refl _)⟩, rfl, True.intro⟩
      · rw [show decide ((Int.gcd a m : Int) = 1) = false from decide_eq_false (by omega), if_neg hg, if_neg hg]
        exact ⟨⟨rfl, .inl (Nat.zero_le _)⟩, rfl, True.intro⟩
    · rw [decide_eq_false hm, if_neg hm, if_neg hm]
      exact ⟨⟨rfl, .inl (Nat.zero_le _)⟩, rfl, True.intro⟩
  · simp at h
noncomputable def c_r3inv : Ctr Tryd.prog := ⟨23, s_r3inv, fun args w => Tryd.call23 args w, fn_ok mix Tryd.func23 s_r3inv p_r3inv⟩

def s_r3bit : FSpec
  | [.big a n, .int .i64 i] => some (some (n ≤ 1000000 ∧ 0 ≤ i ∧ i.toNat < bl a.natAbs), .ret (.bool (decide (a.natAbs / 2 ^ i.toNat % 2 = 1))))
  | _ => none
theorem vc_r3bit (a : Int) (i n : Nat) : (((32 : Int) = (0 : Int) → False) ∧ ((0 : Int) ≤ IntKind.wrap IntKind.i64 (Int.tdiv (↑i : Int) (32 : Int)) ∧ IntKind.wrap IntKind.i64 (Int.tdiv (↑i : Int) (32 : Int)) < (↑(List.length (limbs (Int.natAbs a))) : Int)) ∧ ((32 : Int) = (0 : Int) → False) ∧ (0 : Int) ≤ IntKind.wrap IntKind.u64 (Int.tmod (↑i : Int) (32 : Int)) ∧ (IntKind.wrap IntKind.u32 (↑(BitVec.toNat (BitVec.ofInt (IntKind.bits IntKind.u32) (Int.fdiv (List.getD (limbs (Int.natAbs a)) (Int.toNat (IntKind.wrap IntKind.i64 (Int.tdiv (↑i : Int) (32 : Int)))) (0 : Int)) ((2 : Int) ^ min (Int.toNat (IntKind.wrap IntKind.u64 (Int.tmod (↑i : Int) (32 : Int)))) (IntKind.bits IntKind.u32))) &&& BitVec.ofInt (IntKind.bits IntKind.u32) (1 : Int))) : Int) == (1 : Int)) = decide (Int.natAbs a / (2 : Nat) ^ i % (2 : Nat) = (1 : Nat))) = evFn (env [] noAnn) Tryd.f85 [.big a n, .int .i64 i] (MRes.sat (.ret (.bool (decide (a.natAbs / 2 ^ i % 2 = 1))))) := by kernel_rfl
theorem p_r3bit : GoodF Tryd.f85 s_r3bit := by
  intro ms p r h hp hf
  unfold s_r3bit at h
  split at h
  · rename_i a n i0
    simp only [Option.some.injEq, Prod.mk.injEq] at h
    obtain ⟨rfl, rfl⟩ := h
    obtain ⟨h1, h2, h3⟩ : n ≤ 1000000 ∧ 0 ≤ i0 ∧ i0.toNat < bl a.natAbs := hp
    have ha : a.natAbs < 2 ^ n := hf.1
    obtain ⟨i, rfl⟩ := Int.eq_ofNat_of_zero_le h2
    rw [Int.toNat_natCast] at h3
    have hbl := bl_le_of ha
    refine ⟨env [] noAnn, ?_⟩
    rw [show ((i : Int)).toNat = i from rfl, ← vc_r3bit a i n]
    have e2 : Int.tdiv (i : Int) 32 = ((i / 32 : Nat) : Int) := rfl
    have e3 : Int.tmod (i : Int) 32 = ((i % 32 : Nat) : Int) := rfl
    have e4 : IntKind.wrap IntKind.i64 ((i / 32 : Nat) : Int) = ((i / 32 : Nat) : Int) := i64w (by omega) (by omega)
    have e5 : IntKind.wrap IntKind.u64 ((i % 32 : Nat) : Int) = ((i % 32 : Nat) : Int) := eu64 (by omega)
    have hidx := limbs_idx h3
    rw [e2, e3, e4, e5, Int.toNat_natCast, Int.toNat_natCast, bit_word]
    exact ⟨by omega, ⟨by omega, by omega⟩, by omega, by omega, rfl⟩
  · simp at h
def c_r3bit : Ctr Tryd.prog := ⟨85, s_r3bit, fun args w => Tryd.call85 args w, fn_ok_facts mix Tryd.func85 s_r3bit p_r3bit⟩

/-! ### Power, Pow -/
def s_r3power : FSpec
  | [.big a n, .big e k, .big m l] => some (some (n ≤ 10000 ∧ k ≤ 10000 ∧ l ≤ 10000 ∧ 0 < m), .ret (.big (pwm a e.natAbs m) l))
  | _ => none
structure R3pS where
  q : Nat
  x : Int
structure R3pI (a : Int) (e : Nat) (m : Int) (s : R3pS) : Prop where
  q : s.q ≤ bl e
  x : s.x = pwm a (e / 2 ^ s.q) m
def a_r3power (a e m : Int) (n k l : Nat) : Nat → MS → Option LoopAnn
  | 3, _ => some (.inv R3pS (R3pI a e.natAbs m) (fun s => ⟨33, [(3, .bp 0 0), (4, .bp 1 0), (5, .bp 2 0), (6, .bp 3 0), (7, .bp 4 0), (8, .int .i64 ((s.q : Int) - 1))], [⟨false, .one (.big a n)⟩, ⟨false, .one (.big e k)⟩, ⟨false, .one (.big m l)⟩, ⟨false, .one (.big 0 0)⟩, ⟨false, .one (.big s.x l)⟩], 0⟩) (fun s => s.q))
  | _, _ => none
theorem vc_r3power (a e m : Int) (n k l : Nat) : (((-9223372036854775808 : Int) ≤ (1 : Int) ∧ (1 : Int) ≤ (9223372036854775807 : Int)) ∧ ((64 : Nat) ≤ (900000 : Nat) ∧ l ≤ (900000 : Nat) ∧ (m = (0 : Int) → False)) ∧ k ≤ (1000000 : Nat) ∧ (∃ i, R3pI a (Int.natAbs e) m i ∧ ((0 : Nat) = (0 : Nat) ∧ (0 : Nat) = (0 : Nat) ∧ (0 : Nat) = (0 : Nat) ∧ (0 : Nat) = (0 : Nat) ∧ (0 : Nat) = (0 : Nat) ∧ IntKind.wrap IntKind.i64 ((↑(bl (Int.natAbs e)) : Int) - (1 : Int)) = (↑(R3pS.q i) : Int) - (1 : Int) ∧ True) ∧ (a = a ∧ (n ≤ n ∨ Int.natAbs a < (2 : Nat) ^ n)) ∧ (e = e ∧ (k ≤ k ∨ Int.natAbs e < (2 : Nat) ^ k)) ∧ (m = m ∧ (l ≤ l ∨ Int.natAbs m < (2 : Nat) ^ l)) ∧ ((0 : Int) = (0 : Int) ∧ ((0 : Nat) ≤ (0 : Nat) ∨ Int.natAbs (0 : Int) < (2 : Nat) ^ (0 : Nat))) ∧ ((1 : Int) % m = R3pS.x i ∧ (l ≤ l ∨ Int.natAbs ((1 : Int) % m) < (2 : Nat) ^ l)) ∧ True) ∧ ∀ (i : R3pS), R3pI a (Int.natAbs e) m i → bif decide ((↑(R3pS.q i) : Int) - (1 : Int) ≥ (0 : Int)) then (l ≤ (1000000 : Nat) ∧ l ≤ (1000000 : Nat)) ∧ (l + l ≤ (900000 : Nat) ∧ l ≤ (900000 : Nat) ∧ (m = (0 : Int) → False)) ∧ (k ≤ (1000000 : Nat) ∧ (0 : Int) ≤ (↑(R3pS.q i) : Int) - (1 : Int) ∧ Int.toNat ((↑(R3pS.q i) : Int) - (1 : Int)) < bl (Int.natAbs e)) ∧ bif decide (Int.natAbs e / (2 : Nat) ^ Int.toNat ((↑(R3pS.q i) : Int) - (1 : Int)) % (2 : Nat) = (1 : Nat)) then (l ≤ (1000000 : Nat) ∧ n ≤ (1000000 : Nat)) ∧ (l + n ≤ (900000 : Nat) ∧ l ≤ (900000 : Nat) ∧ (m = (0 : Int) → False)) ∧ ∃ j, R3pI a (Int.natAbs e) m j ∧ (((0 : Nat) = (0 : Nat) ∧ (0 : Nat) = (0 : Nat) ∧ (0 : Nat) = (0 : Nat) ∧ (0 : Nat) = (0 : Nat) ∧ (0 : Nat) = (0 : Nat) ∧ IntKind.wrap IntKind.i64 ((↑(R3pS.q i) : Int) - (1 : Int) - (1 : Int)) = (↑(R3pS.q j) : Int) - (1 : Int) ∧ True) ∧ (a = a ∧ (n ≤ n ∨ Int.natAbs a < (2 : Nat) ^ n)) ∧ (e = e ∧ (k ≤ k ∨ Int.natAbs e < (2 : Nat) ^ k)) ∧ (m = m ∧ (l ≤ l ∨ Int.natAbs m < (2 : Nat) ^ l)) ∧ ((0 : Int) = (0 : Int) ∧ ((0 : Nat) ≤ (0 : Nat) ∨ Int.natAbs (0 : Int) < (2 : Nat) ^ (0 : Nat))) ∧ (R3pS.x i * R3pS.x i % m * a % m = R3pS.x j ∧ (l ≤ l ∨ Int.natAbs (R3pS.x i * R3pS.x i % m * a % m) < (2 : Nat) ^ l)) ∧ True) ∧ R3pS.q j < R3pS.q i else ∃ j, R3pI a (Int.natAbs e) m j ∧ (((0 : Nat) = (0 : Nat) ∧ (0 : Nat) = (0 : Nat) ∧ (0 : Nat) = (0 : Nat) ∧ (0 : Nat) = (0 : Nat) ∧ (0 : Nat) = (0 : Nat) ∧ IntKind.wrap IntKind.i64 ((↑(R3pS.q i) : Int) - (1 : Int) - (1 : Int)) = (↑(R3pS.q j) : Int) - (1 : Int) ∧ True) ∧ (a = a ∧ (n ≤ n ∨ Int.natAbs a < (2 : Nat) ^ n)) ∧ (e = e ∧ (k ≤ k ∨ Int.natAbs e < (2 : Nat) ^ k)) ∧ (m = m ∧ (l ≤ l ∨ Int.natAbs m < (2 : Nat) ^ l)) ∧ ((0 : Int) = (0 : Int) ∧ ((0 : Nat) ≤ (0 : Nat) ∨ Int.natAbs (0 : Int) < (2 : Nat) ^ (0 : Nat))) ∧ (R3pS.x i * R3pS.x i % m = R3pS.x j ∧ (l ≤ l ∨ Int.natAbs (R3pS.x i * R3pS.x i % m) < (2 : Nat) ^ l)) ∧ True) ∧ R3pS.q j < R3pS.q i else R3pS.x i = pwm a (Int.natAbs e) m ∧ (l ≤ l ∨ Int.natAbs (R3pS.x i) < (2 : Nat) ^ l)) = evFn (env [c_rof, c_rmod, c_rbits, c_rmul, c_r3bit] (a_r3power a e m n k l)) Tryd.f58 [.big a n, .big e k, .big m l] (MRes.sat (.ret (.big (pwm a e.natAbs m) l))) := by kernel_rfl
theorem pwm_sq (a m : Int) (q : Nat) : pwm a q m * pwm a q m % m = pwm a (2 * q) m := by rw [pwm_mul, Nat.two_mul]
theorem pwm_sq1 (a m : Int) (q : Nat) : pwm a q m * pwm a q m % m * a % m = pwm a (2 * q + 1) m := by
  rw [pwm_sq]
  unfold pwm
  rw [Int.pow_succ, Int.mul_emod, Int.emod_emod_of_dvd _ (Int.dvd_refl m), ← Int.mul_emod]
theorem p_r3power : GoodF Tryd.f58 s_r3power := by
  intro ms p r h hp hf
  unfold s_r3power at h
  split at h
  · rename_i a n e k m l
    simp only [Option.some.injEq, Prod.mk.injEq] at h
    obtain ⟨rfl, rfl⟩ := h
    obtain ⟨h1, h2, h3, hm⟩ : n ≤ 10000 ∧ k ≤ 10000 ∧ l ≤ 10000 ∧ 0 < m := hp
    have he : e.natAbs < 2 ^ k := hf.2.1
    refine ⟨env [c_rof, c_rmod, c_rbits, c_rmul, c_r3bit] (a_r3power a e m n k l), ?_⟩
    rw [← vc_r3power a e m n k l]
    generalize hN : e.natAbs = N at *
    have hbl : bl N ≤ k := bl_le_of he
    have e0 : IntKind.wrap IntKind.i64 ((bl N : Int) - 1) = (bl N : Int) - 1 := i64w (by omega) (by omega)
    refine ⟨by omega, ⟨by omega, by omega, by omega⟩, by omega, ⟨⟨bl N, 1 % m⟩, ⟨Nat.le_refl _, ?_⟩, ?_⟩, ?_⟩
    · show 1 % m = pwm a (N / 2 ^ bl N) m
      rw [Nat.div_eq_of_lt (bl_lt N), pwm_zero]
    · and_intros <;> first | exact True.intro | exact e0 | rfl | exact .inl (Nat.le_refl _)
    rintro ⟨q, x⟩ hI
    have hq : q ≤ bl N := hI.q
    have hx : x = pwm a (N / 2 ^ q) m := hI.x
    clear hI
    dsimp only
    rw [Bool.cond_decide]
    split
    · rename_i hc
      obtain ⟨c, rfl⟩ : ∃ c, q = c + 1 := ⟨q - 1, by omega⟩
      have e1 : ((c + 1 : Nat) : Int) - 1 = (c : Nat) := by omega
      have e5 : IntKind.wrap IntKind.i64 ((c : Nat) - 1 : Int) = (c : Nat) - 1 := i64w (by omega) (by omega)
      have e7 : N / 2 ^ c = 2 * (N / 2 ^ (c + 1)) + N / 2 ^ c % 2 := by
        rw [Nat.pow_succ, ← Nat.div_div_eq_div_mul]; omega
      rw [e1, e5, Int.toNat_natCast]
      refine ⟨⟨by omega, by omega⟩, ⟨by omega, by omega, by omega⟩, ⟨by omega, by omega, by omega⟩, ?_⟩
      by_cases hb : N / 2 ^ c % 2 = 1
      · rw [decide_eq_true hb, cond_true]
        refine ⟨⟨by omega, by omega⟩, ⟨by omega, by omega, by omega⟩, ⟨c, x * x % m * a % m⟩, ⟨by show c ≤ bl N; omega, ?_⟩, ?_, by show c < c + 1; omega⟩
        · show x * x % m * a % m = pwm a (N / 2 ^ c) m
          rw [hx, pwm_sq1]
          congr 1; omega
        · and_intros <;> first | exact True.intro | rfl | exact .inl (Nat.le_refl _)
      · rw [decide_eq_false hb, cond_false]
        refine ⟨⟨c, x * x % m⟩, ⟨by show c ≤ bl N; omega, ?_⟩, ?_, by show c < c + 1; omega⟩
        · show x * x % m = pwm a (N / 2 ^ c) m
          rw [hx, pwm_sq]
          congr 1; omega
        · and_intros <;> first | exact True.intro | rfl | exact .inl (Nat.le_refl _)
    · rename_i hc
      have : q = 0 := by omega
      subst this
      rw [Nat.pow_zero, Nat.div_one] at hx
      exact ⟨hx, .inl (Nat.le_refl _)⟩
  · simp at h
def c_r3power : Ctr Tryd.prog := ⟨58, s_r3power, fun args w => Tryd.call58 args w, fn_ok_facts mix Tryd.func58 s_r3power p_r3power⟩

theorem pwm_mod (a m : Int) (e : Nat) : pwm (a % m) e m = pwm a e m := by
  induction e with
  | zero => rw [pwm_zero, pwm_zero]
  | succ e ih =>
    rw [← pwm_mul, ← pwm_mul, ih, pwm_one, pwm_one, Int.emod_emod_of_dvd _ (Int.dvd_refl m)]
noncomputable def s_r3pow : FSpec
  | [.big a n, .big e k, .big m l] => some (some (n ≤ 1000 ∧ k ≤ 1000 ∧ l ≤ 1000), .ret (.tup [.big (powV a e m) l, .int .i64 (powE a e m)]))
  | _ => none
theorem vc_r3pow (a e m : Int) (n k l : Nat) : (bif decide (sgn m ≤ (0 : Int)) then ((0 : Int) = powV a e m ∧ ((0 : Nat) ≤ l ∨ Int.natAbs (0 : Int) < (2 : Nat) ^ l)) ∧ (1 : Int) = powE a e m ∧ True else bif decide (sgn e < (0 : Int)) then (n ≤ (1000 : Nat) ∧ l ≤ (1000 : Nat)) ∧ bif invE a m != (0 : Int) then ((0 : Int) = powV a e m ∧ ((0 : Nat) ≤ l ∨ Int.natAbs (0 : Int) < (2 : Nat) ^ l)) ∧ invE a m = powE a e m ∧ True else k ≤ (1000000 : Nat) ∧ (l ≤ (10000 : Nat) ∧ k ≤ (10000 : Nat) ∧ l ≤ (10000 : Nat) ∧ (0 : Int) < m) ∧ (pwm (invV a m) (Int.natAbs (-e)) m = powV a e m ∧ (l ≤ l ∨ Int.natAbs (pwm (invV a m) (Int.natAbs (-e)) m) < (2 : Nat) ^ l)) ∧ (0 : Int) = powE a e m ∧ True else (n ≤ (900000 : Nat) ∧ l ≤ (900000 : Nat) ∧ (m = (0 : Int) → False)) ∧ (l ≤ (10000 : Nat) ∧ k ≤ (10000 : Nat) ∧ l ≤ (10000 : Nat) ∧ (0 : Int) < m) ∧ (pwm (a % m) (Int.natAbs e) m = powV a e m ∧ (l ≤ l ∨ Int.natAbs (pwm (a % m) (Int.natAbs e) m) < (2 : Nat) ^ l)) ∧ (0 : Int) = powE a e m ∧ True) = evFn (env [c_rsign, c_r3inv, c_rneg, c_r3power, c_rmod] noAnn) Tryd.f24 [.big a n, .big e k, .big m l] (MRes.sat (.ret (.tup [.big (powV a e m) l, .int .i64 (powE a e m)]))) := by kernel_rfl

/-! ### small, two -/
def s_small : FSpec
  | [.big a n, .int .i64 m] => some (some (n ≤ 900000 ∧ 0 < m ∧ m ≤ 4611686018427387904), .ret (.int .i64 (a % m)))
  | _ => none
theorem vc_small (a m : Int) (n : Nat) : (((-9223372036854775808 : Int) ≤ m ∧ m ≤ (9223372036854775807 : Int)) ∧ (n ≤ (900000 : Nat) ∧ (64 : Nat) ≤ (900000 : Nat) ∧ (m = (0 : Int) → False)) ∧ Int.natAbs (a % m) < (9223372036854775808 : Nat) ∧ a % m = a % m) = evFn (env [c_rof, c_rmod, c_rlow] noAnn) Tryd.f53 [.big a n, .int .i64 m] (MRes.sat (.ret (.int .i64 (a % m)))) := by kernel_rfl
theorem p_small : Good Tryd.f53 s_small := by
  intro ms p r h hp
  unfold s_small at h
  split at h
  · rename_i a n m
    simp only [Option.some.injEq, Prod.mk.injEq] at h
    obtain ⟨rfl, rfl⟩ := h
    obtain ⟨h1, h2, h3⟩ : n ≤ 900000 ∧ 0 < m ∧ m ≤ 4611686018427387904 := hp
    have hm0 := Int.emod_nonneg a (show m ≠ 0 by omega)
    have hm1 := Int.emod_lt_of_pos a h2
    refine ⟨env [c_rof, c_rmod, c_rlow] noAnn, ?_⟩
    rw [← vc_small a m n]
    exact ⟨⟨by omega, by omega⟩, ⟨by omega, by omega, by omega⟩, by omega, rfl⟩
  · simp at h
def c_small : Ctr Tryd.prog := ⟨53, s_small, fun args w => Tryd.call53 args w, fn_ok mix Tryd.func53 s_small p_small⟩
def s_r3two : FSpec
  | [.big a n] => some (some (n ≤ 900000), .ret (.int .i64 (two8 a)))
  | _ => none
theorem vc_r3two (a : Int) (n : Nat) : ((n ≤ (900000 : Nat) ∧ (0 : Int) < (8 : Int) ∧ (8 : Int) ≤ (4611686018427387904 : Int)) ∧ ((2 : Int) = (0 : Int) → False) ∧ bif Int.tmod (a % (8 : Int)) (2 : Int) == (0 : Int) then (0 : Int) = two8 a else bif a % (8 : Int) == (3 : Int) then (-1 : Int) = two8 a else bif a % (8 : Int) == (5 : Int) then (-1 : Int) = two8 a else (1 : Int) = two8 a) = evFn (env [c_small] noAnn) Tryd.f62 [.big a n] (MRes.sat (.ret (.int .i64 (two8 a)))) := by kernel_rfl

theorem p_r3pow : Good Tryd.f24 s_r3pow := by
  intro ms p r h hp
  unfold s_r3pow at h
  split at h
  · rename_i a n e k m l
    simp only [Option.some.injEq, Prod.mk.injEq] at h
    obtain ⟨rfl, rfl⟩ := h
    obtain ⟨h1, h2, h3⟩ : n ≤ 1000 ∧ k ≤ 1000 ∧ l ≤ 1000 := hp
    refine ⟨env [c_rsign, c_r3inv, c_rneg, c_r3power, c_rmod] noAnn, ?_⟩
    rw [← vc_r3pow a e m n k l, sgn_le0', sgn_lt0]
    unfold powV powE invV invE
    by_cases hm : 0 < m
    · rw [decide_eq_true hm, if_pos hm, if_pos hm, if_pos hm, if_pos hm, Bool.not_true, cond_false]
      by_cases he : e < 0
      · rw [decide_eq_true he, cond_true]
        refine ⟨by omega, ?_⟩
        by_cases hg : Int.gcd a m = 1
        · rw [if_pos hg, if_pos hg, if_neg (fun h => h.2 hg), if_neg (fun h => h.2 hg)]
          refine ⟨by omega, ⟨by omega, by omega, by omega, hm⟩, ⟨?_, .inl (Nat.le_refl _)⟩, rfl, True.intro⟩
          show pwm (minv a m) (-e).natAbs m = powR a e m
          unfold powR
          rw [if_pos he, Int.natAbs_neg]
        · rw [if_neg hg, if_neg hg, if_pos ⟨he, hg⟩, if_pos ⟨he, hg⟩]
          exact ⟨⟨rfl, .inl (Nat.zero_le _)⟩, rfl, True.intro⟩
      · rw [decide_eq_false he, cond_false, if_neg (fun h => he h.1), if_neg (fun h => he h.1)]
        refine ⟨⟨by omega, by omega, by omega⟩, ⟨by omega, by omega, by omega, hm⟩, ⟨?_, .inl (Nat.le_refl _)⟩, rfl, True.intro⟩
        show pwm (a % m) e.natAbs m = powR a e m
        unfold powR
        rw [if_neg he, pwm_mod]
    · rw [decide_eq_false hm, if_neg hm, if_neg hm]
      exact ⟨⟨rfl, .inl (Nat.zero_le _)⟩, rfl, True.intro⟩
  · simp at h
noncomputable def c_r3pow : Ctr Tryd.prog := ⟨24, s_r3pow, fun args w => Tryd.call24 args w, fn_ok mix Tryd.func24 s_r3pow p_r3pow⟩
theorem p_r3two : Good Tryd.f62 s_r3two := by
  intro ms p r h hp
  unfold s_r3two at h
  split at h
  · rename_i a n
    simp only [Option.some.injEq, Prod.mk.injEq] at h
    obtain ⟨rfl, rfl⟩ := h
    have h1 : n ≤ 900000 := hp
    refine ⟨env [c_small] noAnn, ?_⟩
    rw [← vc_r3two a n]
    have h8 : 0 ≤ a % 8 ∧ a % 8 < 8 := by omega
    unfold two8
    refine ⟨by omega, ?_⟩
    generalize a % 8 = r at *
    rcases (show r = 0 ∨ r = 1 ∨ r = 2 ∨ r = 3 ∨ r = 4 ∨ r = 5 ∨ r = 6 ∨ r = 7 by omega) with h | h | h | h | h | h | h | h <;> subst h <;> exact ⟨by omega, rfl⟩
  · simp at h
def c_r3two : Ctr Tryd.prog := ⟨62, s_r3two, fun args w => Tryd.call62 args w, fn_ok mix Tryd.func62 s_r3two p_r3two⟩
/-! ### Kronecker -/
structure KnI (a r : Int) (m : Nat) (s : KcS) : Prop where
  k : s.k = 1 ∨ s.k = -1
  pos : 0 < s.n
  bn : s.n.natAbs < 2 ^ m
  val : s.k * kr a s.n.natAbs = r
structure KbI (a b : Int) (s : KcS) : Prop where
  k : s.k = if b < 0 ∧ a < 0 then -1 else 1
  n : s.n = b
structure KrJ (r : Int) (N : Nat) (A Q : Int) (s : KrS) : Prop where
  i : KrI r N s
  a : (s.a : Int) ≤ A
  n : (s.n : Int) = Q
  ne : s.a ≠ 0
def rkS (m : Nat) (s : KrS) : MS := ⟨72, [(2, .bp 0 0), (3, .bp 1 0), (5, .int .i64 s.k)], [⟨false, .one (.big s.a m)⟩, ⟨false, .one (.big s.n m)⟩], 0⟩
def rkC (a : Int) (n m : Nat) (s : KcS) : MS := ⟨72, [(2, .bp 0 0), (3, .bp 1 0), (5, .int .i64 s.k)], [⟨false, .one (.big a n)⟩, ⟨false, .one (.big s.n m)⟩], 0⟩
def a_r3kron (a r : Int) (n m : Nat) : Nat → MS → Option LoopAnn
  | 9, _ => some (.inv KcS (KnI a r m) (rkC a n m) (fun s => s.n.natAbs))
  | 15, _ => some (.inv KrS (KrI r m) (rkS m) (fun s => s.a))
  | 16, s => (match s.bx with
    | ⟨_, .one (.big A _)⟩ :: ⟨_, .one (.big Q _)⟩ :: _ => some (.inv KrS (KrJ r m A Q) (rkS m) (fun s => s.a))
    | _ => none)
  | _, _ => none
def k_r3kron (a b : Int) (n m : Nat) : Nat → MS → Option CutAnn
  | 8, _ => some (.mk KcS (KbI a b) (rkC a n m))
  | _, _ => none
theorem vc_r3kron (a b : Int) (n m : Nat) : (bif sgn b == (0 : Int) then n ≤ (1000000 : Nat) ∧ ((-9223372036854775808 : Int) ≤ (1 : Int) ∧ (1 : Int) ≤ (9223372036854775807 : Int)) ∧ (n ≤ (1000000 : Nat) ∧ (64 : Nat) ≤ (1000000 : Nat)) ∧ bif decide ((↑(Int.natAbs a) : Int) = (1 : Int)) then (1 : Int) = kro a b else (0 : Int) = kro a b else (bif decide (sgn b < (0 : Int)) then bif decide (sgn a < (0 : Int)) then ∃ i, KbI a b i ∧ ((0 : Nat) = (0 : Nat) ∧ (0 : Nat) = (0 : Nat) ∧ (-1 : Int) = KcS.k i ∧ True) ∧ (a = a ∧ (n ≤ n ∨ Int.natAbs a < (2 : Nat) ^ n)) ∧ (b = KcS.n i ∧ (m ≤ m ∨ Int.natAbs b < (2 : Nat) ^ m)) ∧ True else ∃ i, KbI a b i ∧ ((0 : Nat) = (0 : Nat) ∧ (0 : Nat) = (0 : Nat) ∧ (1 : Int) = KcS.k i ∧ True) ∧ (a = a ∧ (n ≤ n ∨ Int.natAbs a < (2 : Nat) ^ n)) ∧ (b = KcS.n i ∧ (m ≤ m ∨ Int.natAbs b < (2 : Nat) ^ m)) ∧ True else ∃ i, KbI a b i ∧ ((0 : Nat) = (0 : Nat) ∧ (0 : Nat) = (0 : Nat) ∧ (1 : Int) = KcS.k i ∧ True) ∧ (a = a ∧ (n ≤ n ∨ Int.natAbs a < (2 : Nat) ^ n)) ∧ (b = KcS.n i ∧ (m ≤ m ∨ Int.natAbs b < (2 : Nat) ^ m)) ∧ True) ∧ ∀ (i : KcS), KbI a b i → m ≤ (1000000 : Nat) ∧ (∃ i_1, KnI a (kro a b) m i_1 ∧ ((0 : Nat) = (0 : Nat) ∧ (0 : Nat) = (0 : Nat) ∧ KcS.k i = KcS.k i_1 ∧ True) ∧ (a = a ∧ (n ≤ n ∨ Int.natAbs a < (2 : Nat) ^ n)) ∧ ((↑(Int.natAbs (KcS.n i)) : Int) = KcS.n i_1 ∧ (m ≤ m ∨ Int.natAbs (↑(Int.natAbs (KcS.n i)) : Int) < (2 : Nat) ^ m)) ∧ True) ∧ ∀ (i : KcS), KnI a (kro a b) m i → (m ≤ (900000 : Nat) ∧ (0 : Int) < (2 : Int) ∧ (2 : Int) ≤ (4611686018427387904 : Int)) ∧ bif KcS.n i % (2 : Int) == (0 : Int) then n ≤ (900000 : Nat) ∧ ((-9223372036854775808 : Int) ≤ (2 : Int) ∧ (2 : Int) ≤ (9223372036854775807 : Int)) ∧ (m ≤ (900000 : Nat) ∧ (64 : Nat) ≤ (900000 : Nat) ∧ ((2 : Int) = (0 : Int) → False)) ∧ bif IntKind.wrap IntKind.i64 (KcS.k i * two8 a) == (0 : Int) then (0 : Int) = kro a b else ∃ j, KnI a (kro a b) m j ∧ (((0 : Nat) = (0 : Nat) ∧ (0 : Nat) = (0 : Nat) ∧ IntKind.wrap IntKind.i64 (KcS.k i * two8 a) = KcS.k j ∧ True) ∧ (a = a ∧ (n ≤ n ∨ Int.natAbs a < (2 : Nat) ^ n)) ∧ (KcS.n i / (2 : Int) = KcS.n j ∧ (m ≤ m ∨ Int.natAbs (KcS.n i / (2 : Int)) < (2 : Nat) ^ m)) ∧ True) ∧ Int.natAbs (KcS.n j) < Int.natAbs (KcS.n i) else (n ≤ (900000 : Nat) ∧ m ≤ (900000 : Nat) ∧ (KcS.n i = (0 : Int) → False)) ∧ (∃ i_1, KrI (kro a b) m i_1 ∧ ((0 : Nat) = (0 : Nat) ∧ (0 : Nat) = (0 : Nat) ∧ KcS.k i = KrS.k i_1 ∧ True) ∧ (a % KcS.n i = (↑(KrS.a i_1) : Int) ∧ (m ≤ m ∨ Int.natAbs (a % KcS.n i) < (2 : Nat) ^ m)) ∧ (KcS.n i = (↑(KrS.n i_1) : Int) ∧ (m ≤ m ∨ Int.natAbs (KcS.n i) < (2 : Nat) ^ m)) ∧ True) ∧ ∀ (i : KrS), KrI (kro a b) m i → bif sgn (↑(KrS.a i) : Int) != (0 : Int) then (∃ i_1, KrJ (kro a b) m (↑(KrS.a i) : Int) (↑(KrS.n i) : Int) i_1 ∧ ((0 : Nat) = (0 : Nat) ∧ (0 : Nat) = (0 : Nat) ∧ KrS.k i = KrS.k i_1 ∧ True) ∧ ((↑(KrS.a i) : Int) = (↑(KrS.a i_1) : Int) ∧ (m ≤ m ∨ Int.natAbs (↑(KrS.a i) : Int) < (2 : Nat) ^ m)) ∧ ((↑(KrS.n i) : Int) = (↑(KrS.n i_1) : Int) ∧ (m ≤ m ∨ Int.natAbs (↑(KrS.n i) : Int) < (2 : Nat) ^ m)) ∧ True) ∧ ∀ (i_1 : KrS), KrJ (kro a b) m (↑(KrS.a i) : Int) (↑(KrS.n i) : Int) i_1 → (m ≤ (900000 : Nat) ∧ (0 : Int) < (2 : Int) ∧ (2 : Int) ≤ (4611686018427387904 : Int)) ∧ bif (↑(KrS.a i_1) : Int) % (2 : Int) == (0 : Int) then ((-9223372036854775808 : Int) ≤ (2 : Int) ∧ (2 : Int) ≤ (9223372036854775807 : Int)) ∧ (m ≤ (900000 : Nat) ∧ (64 : Nat) ≤ (900000 : Nat) ∧ ((2 : Int) = (0 : Int) → False)) ∧ m ≤ (900000 : Nat) ∧ ∃ j, KrJ (kro a b) m (↑(KrS.a i) : Int) (↑(KrS.n i) : Int) j ∧ (((0 : Nat) = (0 : Nat) ∧ (0 : Nat) = (0 : Nat) ∧ IntKind.wrap IntKind.i64 (KrS.k i_1 * two8 (↑(KrS.n i_1) : Int)) = KrS.k j ∧ True) ∧ ((↑(KrS.a i_1) : Int) / (2 : Int) = (↑(KrS.a j) : Int) ∧ (m ≤ m ∨ Int.natAbs ((↑(KrS.a i_1) : Int) / (2 : Int)) < (2 : Nat) ^ m)) ∧ ((↑(KrS.n i_1) : Int) = (↑(KrS.n j) : Int) ∧ (m ≤ m ∨ Int.natAbs (↑(KrS.n i_1) : Int) < (2 : Nat) ^ m)) ∧ True) ∧ KrS.a j < KrS.a i_1 else (m ≤ (900000 : Nat) ∧ (0 : Int) < (4 : Int) ∧ (4 : Int) ≤ (4611686018427387904 : Int)) ∧ bif (↑(KrS.a i_1) : Int) % (4 : Int) == (3 : Int) then (m ≤ (900000 : Nat) ∧ (0 : Int) < (4 : Int) ∧ (4 : Int) ≤ (4611686018427387904 : Int)) ∧ bif (↑(KrS.n i_1) : Int) % (4 : Int) == (3 : Int) then (m ≤ (900000 : Nat) ∧ m ≤ (900000 : Nat) ∧ ((↑(KrS.a i_1) : Int) = (0 : Int) → False)) ∧ ∃ j, KrI (kro a b) m j ∧ (((0 : Nat) = (0 : Nat) ∧ (0 : Nat) = (0 : Nat) ∧ IntKind.wrap IntKind.i64 ((0 : Int) - KrS.k i_1) = KrS.k j ∧ True) ∧ ((↑(KrS.n i_1) : Int) % (↑(KrS.a i_1) : Int) = (↑(KrS.a j) : Int) ∧ (m ≤ m ∨ Int.natAbs ((↑(KrS.n i_1) : Int) % (↑(KrS.a i_1) : Int)) < (2 : Nat) ^ m)) ∧ ((↑(KrS.a i_1) : Int) = (↑(KrS.n j) : Int) ∧ (m ≤ m ∨ Int.natAbs (↑(KrS.a i_1) : Int) < (2 : Nat) ^ m)) ∧ True) ∧ KrS.a j < KrS.a i else (m ≤ (900000 : Nat) ∧ m ≤ (900000 : Nat) ∧ ((↑(KrS.a i_1) : Int) = (0 : Int) → False)) ∧ ∃ j, KrI (kro a b) m j ∧ (((0 : Nat) = (0 : Nat) ∧ (0 : Nat) = (0 : Nat) ∧ KrS.k i_1 = KrS.k j ∧ True) ∧ ((↑(KrS.n i_1) : Int) % (↑(KrS.a i_1) : Int) = (↑(KrS.a j) : Int) ∧ (m ≤ m ∨ Int.natAbs ((↑(KrS.n i_1) : Int) % (↑(KrS.a i_1) : Int)) < (2 : Nat) ^ m)) ∧ ((↑(KrS.a i_1) : Int) = (↑(KrS.n j) : Int) ∧ (m ≤ m ∨ Int.natAbs (↑(KrS.a i_1) : Int) < (2 : Nat) ^ m)) ∧ True) ∧ KrS.a j < KrS.a i else (m ≤ (900000 : Nat) ∧ m ≤ (900000 : Nat) ∧ ((↑(KrS.a i_1) : Int) = (0 : Int) → False)) ∧ ∃ j, KrI (kro a b) m j ∧ (((0 : Nat) = (0 : Nat) ∧ (0 : Nat) = (0 : Nat) ∧ KrS.k i_1 = KrS.k j ∧ True) ∧ ((↑(KrS.n i_1) : Int) % (↑(KrS.a i_1) : Int) = (↑(KrS.a j) : Int) ∧ (m ≤ m ∨ Int.natAbs ((↑(KrS.n i_1) : Int) % (↑(KrS.a i_1) : Int)) < (2 : Nat) ^ m)) ∧ ((↑(KrS.a i_1) : Int) = (↑(KrS.n j) : Int) ∧ (m ≤ m ∨ Int.natAbs (↑(KrS.a i_1) : Int) < (2 : Nat) ^ m)) ∧ True) ∧ KrS.a j < KrS.a i else ((-9223372036854775808 : Int) ≤ (1 : Int) ∧ (1 : Int) ≤ (9223372036854775807 : Int)) ∧ (m ≤ (1000000 : Nat) ∧ (64 : Nat) ≤ (1000000 : Nat)) ∧ bif !decide ((↑(KrS.n i) : Int) = (1 : Int)) then (0 : Int) = kro a b else KrS.k i = kro a b) = evFn (envC [c_rsign, c_rabs, c_rof, c_rsame, c_small, c_r3two, c_rdiv, c_rmod] (a_r3kron a (kro a b) n m) (k_r3kron a b n m)) Tryd.f27 [.big a n, .big b m] (MRes.sat (.ret (.int .i64 (kro a b)))) := by kernel_rfl

def s_r3kron : FSpec
  | [.big a n, .big b m] => some (some (n ≤ 200000 ∧ m ≤ 200000), .ret (.int .i64 (kro a b)))
  | _ => none
theorem p_r3kron : GoodF Tryd.f27 s_r3kron := by
  intro ms p r h hp hf
  unfold s_r3kron at h
  split at h
  · rename_i a n b m
    simp only [Option.some.injEq, Prod.mk.injEq] at h
    obtain ⟨rfl, rfl⟩ := h
    obtain ⟨hn, hm⟩ : n ≤ 200000 ∧ m ≤ 200000 := hp
    have ha : a.natAbs < 2 ^ n := hf.1
    have hb : b.natAbs < 2 ^ m := hf.2.1
    refine ⟨envC [c_rsign, c_rabs, c_rof, c_rsame, c_small, c_r3two, c_rdiv, c_rmod] (a_r3kron a (kro a b) n m) (k_r3kron a b n m), ?_⟩
    rw [← vc_r3kron a b n m]
    by_cases hb0 : b = 0
    · have e1 : (sgn b == 0) = true := by subst hb0; rfl
      rw [e1, cond_true]
      refine ⟨by omega, by omega, by omega, ?_⟩
      rw [Bool.cond_decide]
      unfold kro
      rw [if_pos hb0]
      split
      · rw [if_pos (by omega)]
      · rw [if_neg (by omega)]
    have e1 : (sgn b == 0) = false := by
      unfold sgn
      rw [if_neg hb0]
      split <;> rfl
    have hkro : kro a b = (if b < 0 ∧ a < 0 then -1 else 1) * kr a b.natAbs := by unfold kro; rw [if_neg hb0]
    generalize hr : kro a b = r at *
    rw [e1, cond_false]
    refine ⟨?_, ?_⟩
    · rw [sgn_lt0, sgn_lt0]
      by_cases q1 : b < 0
      · rw [decide_eq_true q1, cond_true]
        by_cases q2 : a < 0
        · rw [decide_eq_true q2, cond_true]
          exact ⟨⟨-1, b⟩, ⟨by show (-1 : Int) = _; rw [if_pos ⟨q1, q2⟩], rfl⟩, ⟨rfl, rfl, rfl, True.intro⟩, ⟨rfl, .inl (Nat.le_refl _)⟩, ⟨rfl, .inl (Nat.le_refl _)⟩, True.intro⟩
        · rw [decide_eq_false q2, cond_false]
          exact ⟨⟨1, b⟩, ⟨by show (1 : Int) = _; rw [if_neg (by omega)], rfl⟩, ⟨rfl, rfl, rfl, True.intro⟩, ⟨rfl, .inl (Nat.le_refl _)⟩, ⟨rfl, .inl (Nat.le_refl _)⟩, True.intro⟩
      · rw [decide_eq_false q1, cond_false]
        exact ⟨⟨1, b⟩, ⟨by show (1 : Int) = _; rw [if_neg (by omega)], rfl⟩, ⟨rfl, rfl, rfl, True.intro⟩, ⟨rfl, .inl (Nat.le_refl _)⟩, ⟨rfl, .inl (Nat.le_refl _)⟩, True.intro⟩
    rintro ⟨k, c⟩ hi
    have hk0 : k = if b < 0 ∧ a < 0 then -1 else 1 := hi.k
    have hc0 : c = b := hi.n
    clear hi
    dsimp only
    rw [hc0]
    have hk : k = 1 ∨ k = -1 := by
      rw [hk0]
      split
      · exact .inr rfl
      · exact .inl rfl
    rw [← hk0] at hkro
    refine ⟨by omega, ⟨⟨k, b.natAbs⟩, ⟨hk, by show (0 : Int) < (b.natAbs : Int); omega, by show ((b.natAbs : Int)).natAbs < _; rw [Int.natAbs_natCast]; exact hb, ?_⟩, ⟨rfl, rfl, rfl, True.intro⟩, ⟨rfl, .inl (Nat.le_refl _)⟩, ⟨rfl, .inl (Nat.le_refl _)⟩, True.intro⟩, ?_⟩
    · show k * kr a (b.natAbs : Int).natAbs = r
      rw [Int.natAbs_natCast, hkro]
    clear hk hk0 hkro e1 hb0 hb hc0 hr ha hf
    rintro ⟨k, c⟩ hi
    have hk : k = 1 ∨ k = -1 := hi.k
    have hpos : 0 < c := hi.pos
    have hcb : c.natAbs < 2 ^ m := hi.bn
    have hv : k * kr a c.natAbs = r := hi.val
    clear hi
    dsimp only
    obtain ⟨q, rfl⟩ := Int.eq_ofNat_of_zero_le (Int.le_of_lt hpos)
    rw [Int.natAbs_natCast] at hcb hv
    have hw : ∀ {z : Int}, z = 1 ∨ z = -1 → IntKind.wrap IntKind.i64 z = z := fun h => by rcases h with h | h <;> rw [h] <;> rfl
    have hng : ∀ {z : Int}, z = 1 ∨ z = -1 → (0 - z = 1 ∨ 0 - z = -1) := fun h => by rcases h with h | h <;> rw [h] <;> decide
    refine ⟨by omega, ?_⟩
    rw [beq_dec]
    by_cases h2 : (q : Int) % 2 = 0
    · rw [decide_eq_true h2, cond_true]
      rw [kr_even (by omega) (by omega), ← Int.mul_assoc] at hv
      refine ⟨by omega, by omega, by omega, ?_⟩
      by_cases ho : a % 2 = 1
      · have ht := pm1_mul hk (two8_odd ho)
        rw [hw ht, show (k * two8 a == 0) = false by rcases ht with h | h <;> rw [h] <;> rfl, cond_false]
        refine ⟨⟨k * two8 a, ((q / 2 : Nat) : Int)⟩, ⟨ht, by show (0 : Int) < ((q / 2 : Nat) : Int); omega, by show (((q / 2 : Nat) : Int)).natAbs < _; omega, ?_⟩, ⟨⟨rfl, rfl, rfl, True.intro⟩, ⟨rfl, .inl (Nat.le_refl _)⟩, ⟨by show (q : Int) / 2 = ((q / 2 : Nat) : Int); omega, .inl (Nat.le_refl _)⟩, True.intro⟩, by show (((q / 2 : Nat) : Int)).natAbs < ((q : Int)).natAbs; omega⟩
        show k * two8 a * kr a ((q / 2 : Nat) : Int).natAbs = r
        rw [Int.natAbs_natCast, hv]
      · rw [two8_even ho, Int.mul_zero, Int.zero_mul] at hv
        rw [two8_even ho, Int.mul_zero]
        exact hv
    · rw [decide_eq_false h2, cond_false]
      have hm0 := Int.emod_nonneg a (show (q : Int) ≠ 0 by omega)
      have hm1 := Int.emod_lt_of_pos a hpos
      refine ⟨⟨by omega, by omega, by omega⟩, ⟨⟨k, (a % q).toNat, q⟩, ⟨by show q % 2 = 1; omega, hk, ?_, by show (a % q).toNat < _; omega, hcb⟩, ⟨rfl, rfl, rfl, True.intro⟩, ⟨by show a % q = ((a % q).toNat : Int); omega, .inl (Nat.le_refl _)⟩, ⟨rfl, .inl (Nat.le_refl _)⟩, True.intro⟩, ?_⟩
      · show k * jac (a % q).toNat q = r
        rw [← hv, kr_odd (by omega)]
      clear hv hk hm0 hm1 hcb hpos h2
      rintro ⟨k, x, q⟩ hI
      have hq : q % 2 = 1 := hI.odd
      have hk : k = 1 ∨ k = -1 := hI.k
      have hv : k * jac x q = r := hI.val
      have hxm : x < 2 ^ m := hI.ba
      have hqm : q < 2 ^ m := hI.bn
      clear hI
      dsimp only
      by_cases hx : x = 0
      · subst hx
        have e2 : (sgn ((0 : Nat) : Int) != 0) = false := rfl
        rw [e2, cond_false]
        refine ⟨by omega, by omega, ?_⟩
        rw [jac_zero] at hv
        by_cases h1 : q = 1
        · rw [if_pos h1, Int.mul_one] at hv
          rw [decide_eq_true (show (q : Int) = 1 by omega)]
          exact hv
        · rw [if_neg h1, Int.mul_zero] at hv
          rw [decide_eq_false (show ¬ (q : Int) = 1 by omega)]
          exact hv
      have e2 : (sgn (x : Int) != 0) = true := by rw [sgn_pos (by omega)]; rfl
      rw [e2, cond_true]
      refine ⟨⟨⟨k, x, q⟩, ⟨⟨hq, hk, hv, hxm, hqm⟩, Int.le_refl _, rfl, hx⟩, ⟨rfl, rfl, rfl, True.intro⟩, ⟨rfl, .inl (Nat.le_refl _)⟩, ⟨rfl, .inl (Nat.le_refl _)⟩, True.intro⟩, ?_⟩
      clear hv hk e2
      rintro ⟨k, y, q'⟩ hJ
      have hya : (y : Int) ≤ x := hJ.a
      have hqq : (q' : Int) = q := hJ.n
      have hy0 : y ≠ 0 := hJ.ne
      have hk : k = 1 ∨ k = -1 := hJ.i.k
      have hv : k * jac y q' = r := hJ.i.val
      clear hJ
      obtain rfl : q' = q := by omega
      dsimp only
      refine ⟨by omega, ?_⟩
      rw [beq_dec]
      by_cases h2 : (y : Int) % 2 = 0
      · rw [decide_eq_true h2, cond_true]
        rw [jac_even hy0 (by omega), ← Int.mul_assoc] at hv
        have ht := pm1_mul hk (two8_odd (q := (q' : Int)) (by omega))
        exact ⟨by omega, by omega, by omega, ⟨k * two8 q', y / 2, q'⟩, ⟨⟨hq, ht, hv, by show y / 2 < _; omega, hqm⟩, by show ((y / 2 : Nat) : Int) ≤ x; omega, rfl, by show y / 2 ≠ 0; omega⟩, ⟨⟨rfl, rfl, hw ht, True.intro⟩, ⟨by show (y : Int) / 2 = ((y / 2 : Nat) : Int); omega, .inl (Nat.le_refl _)⟩, ⟨rfl, .inl (Nat.le_refl _)⟩, True.intro⟩, by show y / 2 < y; omega⟩
      · rw [decide_eq_false h2, cond_false]
        rw [jac_odd (by omega)] at hv
        refine ⟨by omega, ?_⟩
        rw [beq3, beq3]
        unfold rsg at hv
        by_cases h3 : y % 4 = 3
        · rw [decide_eq_true h3, cond_true]
          refine ⟨by omega, ?_⟩
          by_cases h4 : q' % 4 = 3
          · rw [decide_eq_true h4, cond_true]
            rw [if_pos ⟨h3, h4⟩] at hv
            exact kron_leaf (by omega) (by omega) (by omega) hxm (hw (hng hk)) (hng hk) (by rw [← hv]; grind)
          · rw [decide_eq_false h4, cond_false]
            rw [if_neg (by omega), Int.one_mul] at hv
            exact kron_leaf (by omega) (by omega) (by omega) hxm rfl hk hv
        · rw [decide_eq_false h3, cond_false]
          rw [if_neg (by omega), Int.one_mul] at hv
          exact kron_leaf (by omega) (by omega) (by omega) hxm rfl hk hv
  · simp at h
def c_r3kron : Ctr Tryd.prog := ⟨27, s_r3kron, fun args w => Tryd.call27 args w, fn_ok_facts mix Tryd.func27 s_r3kron p_r3kron⟩

end Go.Proofs.YtcikhffhikgahaaDoor

/-
  The reference's list of all roots; the walk of ModularAllRoots.
-/
namespace Go.Proofs.YtcikhffhikgahaaDoor
open Go Go.RowKit

def rootsR3 (a p k : Int) : MRes :=
  .br (decide (p < 2) || decide (k < 1)) (.ret (.st [.sl 2 0 (bgF [] 64), .int .i64 1]))
    (.br (decide (1048576 < p ^ k.toNat)) (.ret (.st [.sl 2 0 (bgF [] 64), .int .i64 2])) (.ret (.st [.sl 2 (rootsL a (p ^ k.toNat).toNat).length (bgF (rootsL a (p ^ k.toNat).toNat) 64), .int .i64 0])))
def s_r3roots : FSpec
  | [.big a n, .big p m, .int .i64 k] => some (some (n ≤ 1000 ∧ m ≤ 1000 ∧ -9223372036854775808 ≤ k ∧ k ≤ 9223372036854775807), rootsR3 a p k)
  | _ => none
def r3O (a p : Int) (n m : Nat) (l : List Int) (N W : Int) (P : Int) (s : IxS) : MS :=
  ⟨65, [(6, .bp 2 0), (9, .int .i64 N), (11, .int .i64 W), (12, .bs 4 0 l.length), (13, .int .i64 s.i)], [⟨false, .one (.big a n)⟩, ⟨false, .one (.big p m)⟩, ⟨false, .one (.st [.val (.slice none 0 0), .int .i64 0])⟩, ⟨false, .one (.big P (m + 64))⟩, ⟨false, .rows 2 l.length (bgF l 64)⟩], 0⟩
def a_r3roots (a p : Int) (k : Int) (n m : Nat) : Nat → MS → Option LoopAnn
  | 5, _ => some (.inv IxS (RtI p k) (fun s => ⟨65, [(2, .int .i64 k), (3, .bp 0 0), (4, .bp 1 0), (6, .bp 2 0), (7, .bp 3 0), (8, .int .i64 s.i)], [⟨false, .one (.big a n)⟩, ⟨false, .one (.big p m)⟩, ⟨false, .one (.st [.val (.slice none 0 0), .int .i64 0])⟩, ⟨false, .one (.big (p ^ s.i) (m + 64))⟩], 0⟩) (fun s => k.toNat - s.i))
  | 14, s => (match look 9 s.tm, look 11 s.tm with
    | .int _ N, .int _ W => some (.inv IxS (fun s => (s.i : Int) ≤ N) (fun s => r3O a p n m (rootsTo N.toNat W.toNat s.i) N W (p ^ k.toNat) s) (fun s => N.toNat - s.i))
    | _, _ => none)
  | _, _ => none
theorem vc_r3roots (a p k : Int) (n m : Nat) : (((-9223372036854775808 : Int) ≤ (2 : Int) ∧ (2 : Int) ≤ (9223372036854775807 : Int)) ∧ (m ≤ (1000000 : Nat) ∧ (64 : Nat) ≤ (1000000 : Nat)) ∧ bif decide (icmp p (2 : Int) < (0 : Int)) then bif decide (p < (2 : Int)) || decide (k < (1 : Int)) then (Value.slice none (0 : Nat) (0 : Nat) = Value.slice none (0 : Nat) (0 : Nat) ∧ (0 : Nat) = (0 : Nat)) ∧ (1 : Int) = (1 : Int) ∧ True else bif decide ((1048576 : Int) < p ^ Int.toNat k) then (Value.slice none (0 : Nat) (0 : Nat) = Value.slice none (0 : Nat) (0 : Nat) ∧ (0 : Nat) = (0 : Nat)) ∧ (1 : Int) = (2 : Int) ∧ True else (Value.slice none (0 : Nat) (0 : Nat) = Value.slice none (0 : Nat) (0 : Nat) ∧ List.length (rootsL a (Int.toNat (p ^ Int.toNat k))) = (0 : Nat)) ∧ (1 : Int) = (0 : Int) ∧ True else bif decide (k < (1 : Int)) then bif decide (p < (2 : Int)) || decide (k < (1 : Int)) then (Value.slice none (0 : Nat) (0 : Nat) = Value.slice none (0 : Nat) (0 : Nat) ∧ (0 : Nat) = (0 : Nat)) ∧ (1 : Int) = (1 : Int) ∧ True else bif decide ((1048576 : Int) < p ^ Int.toNat k) then (Value.slice none (0 : Nat) (0 : Nat) = Value.slice none (0 : Nat) (0 : Nat) ∧ (0 : Nat) = (0 : Nat)) ∧ (1 : Int) = (2 : Int) ∧ True else (Value.slice none (0 : Nat) (0 : Nat) = Value.slice none (0 : Nat) (0 : Nat) ∧ List.length (rootsL a (Int.toNat (p ^ Int.toNat k))) = (0 : Nat)) ∧ (1 : Int) = (0 : Int) ∧ True else ((-9223372036854775808 : Int) ≤ (1 : Int) ∧ (1 : Int) ≤ (9223372036854775807 : Int)) ∧ (∃ i, RtI p k i ∧ (k = k ∧ (0 : Nat) = (0 : Nat) ∧ (0 : Nat) = (0 : Nat) ∧ (0 : Nat) = (0 : Nat) ∧ (0 : Nat) = (0 : Nat) ∧ (0 : Int) = (↑(IxS.i i) : Int) ∧ True) ∧ (a = a ∧ (n ≤ n ∨ Int.natAbs a < (2 : Nat) ^ n)) ∧ (p = p ∧ (m ≤ m ∨ Int.natAbs p < (2 : Nat) ^ m)) ∧ (Value.slice none (0 : Nat) (0 : Nat) = Value.slice none (0 : Nat) (0 : Nat) ∧ (0 : Int) = (0 : Int) ∧ True) ∧ ((1 : Int) = p ^ IxS.i i ∧ ((64 : Nat) ≤ m + (64 : Nat) ∨ Int.natAbs (1 : Int) < (2 : Nat) ^ (m + (64 : Nat)))) ∧ True) ∧ ∀ (i : IxS), RtI p k i → bif decide ((↑(IxS.i i) : Int) < k) then (m + (64 : Nat) ≤ (1000000 : Nat) ∧ m ≤ (1000000 : Nat)) ∧ ((-9223372036854775808 : Int) ≤ (1048576 : Int) ∧ (1048576 : Int) ≤ (9223372036854775807 : Int)) ∧ (m + (64 : Nat) + m ≤ (1000000 : Nat) ∧ (64 : Nat) ≤ (1000000 : Nat)) ∧ bif decide (icmp (p ^ IxS.i i * p) (1048576 : Int) > (0 : Int)) then bif decide (p < (2 : Int)) || decide (k < (1 : Int)) then (Value.slice none (0 : Nat) (0 : Nat) = Value.slice none (0 : Nat) (0 : Nat) ∧ (0 : Nat) = (0 : Nat)) ∧ (2 : Int) = (1 : Int) ∧ True else bif decide ((1048576 : Int) < p ^ Int.toNat k) then (Value.slice none (0 : Nat) (0 : Nat) = Value.slice none (0 : Nat) (0 : Nat) ∧ (0 : Nat) = (0 : Nat)) ∧ (2 : Int) = (2 : Int) ∧ True else (Value.slice none (0 : Nat) (0 : Nat) = Value.slice none (0 : Nat) (0 : Nat) ∧ List.length (rootsL a (Int.toNat (p ^ Int.toNat k))) = (0 : Nat)) ∧ (2 : Int) = (0 : Int) ∧ True else ∃ j, RtI p k j ∧ ((k = k ∧ (0 : Nat) = (0 : Nat) ∧ (0 : Nat) = (0 : Nat) ∧ (0 : Nat) = (0 : Nat) ∧ (0 : Nat) = (0 : Nat) ∧ IntKind.wrap IntKind.i64 ((↑(IxS.i i) : Int) + (1 : Int)) = (↑(IxS.i j) : Int) ∧ True) ∧ (a = a ∧ (n ≤ n ∨ Int.natAbs a < (2 : Nat) ^ n)) ∧ (p = p ∧ (m ≤ m ∨ Int.natAbs p < (2 : Nat) ^ m)) ∧ (Value.slice none (0 : Nat) (0 : Nat) = Value.slice none (0 : Nat) (0 : Nat) ∧ (0 : Int) = (0 : Int) ∧ True) ∧ (p ^ IxS.i i * p = p ^ IxS.i j ∧ (m + (64 : Nat) + m ≤ m + (64 : Nat) ∨ Int.natAbs (p ^ IxS.i i * p) < (2 : Nat) ^ (m + (64 : Nat)))) ∧ True) ∧ Int.toNat k - IxS.i j < Int.toNat k - IxS.i i else Int.natAbs (p ^ IxS.i i) < (9223372036854775808 : Nat) ∧ (n ≤ (900000 : Nat) ∧ (0 : Int) < p ^ IxS.i i ∧ p ^ IxS.i i ≤ (4611686018427387904 : Int)) ∧ (∃ i_1, (↑(IxS.i i_1) : Int) ≤ p ^ IxS.i i ∧ ((0 : Nat) = (0 : Nat) ∧ p ^ IxS.i i = p ^ IxS.i i ∧ a % p ^ IxS.i i = a % p ^ IxS.i i ∧ ((0 : Nat) = (0 : Nat) ∧ (0 : Nat) = List.length (rootsTo (Int.toNat (p ^ IxS.i i)) (Int.toNat (a % p ^ IxS.i i)) (IxS.i i_1))) ∧ (0 : Int) = (↑(IxS.i i_1) : Int) ∧ True) ∧ (a = a ∧ (n ≤ n ∨ Int.natAbs a < (2 : Nat) ^ n)) ∧ (p = p ∧ (m ≤ m ∨ Int.natAbs p < (2 : Nat) ^ m)) ∧ (Value.slice none (0 : Nat) (0 : Nat) = Value.slice none (0 : Nat) (0 : Nat) ∧ (0 : Int) = (0 : Int) ∧ True) ∧ (p ^ IxS.i i = p ^ Int.toNat k ∧ (m + (64 : Nat) ≤ m + (64 : Nat) ∨ Int.natAbs (p ^ IxS.i i) < (2 : Nat) ^ (m + (64 : Nat)))) ∧ ((0 : Nat) = List.length (rootsTo (Int.toNat (p ^ IxS.i i)) (Int.toNat (a % p ^ IxS.i i)) (IxS.i i_1)) ∧ LeFun (0 : Nat) (rowOf []) (bgF (rootsTo (Int.toNat (p ^ IxS.i i)) (Int.toNat (a % p ^ IxS.i i)) (IxS.i i_1)) (64 : Nat))) ∧ True) ∧ ∀ (i_1 : IxS), (↑(IxS.i i_1) : Int) ≤ p ^ IxS.i i → bif decide ((↑(IxS.i i_1) : Int) < p ^ IxS.i i) then (p ^ IxS.i i = (0 : Int) → False) ∧ bif Int.tmod (IntKind.wrap IntKind.i64 ((↑(IxS.i i_1) : Int) * (↑(IxS.i i_1) : Int))) (p ^ IxS.i i) == a % p ^ IxS.i i then ((-9223372036854775808 : Int) ≤ (↑(IxS.i i_1) : Int) ∧ (↑(IxS.i i_1) : Int) ≤ (9223372036854775807 : Int)) ∧ ((1 : Nat) ≤ (1 : Nat) ∧ List.length (rootsTo (Int.toNat (p ^ IxS.i i)) (Int.toNat (a % p ^ IxS.i i)) (IxS.i i_1)) ≤ List.length (rootsTo (Int.toNat (p ^ IxS.i i)) (Int.toNat (a % p ^ IxS.i i)) (IxS.i i_1)) ∧ (List.length (rootsTo (Int.toNat (p ^ IxS.i i)) (Int.toNat (a % p ^ IxS.i i)) (IxS.i i_1)) + News.len (News.rows (2 : Nat) (1 : Nat) (rowOf [MV.big (↑(IxS.i i_1) : Int) (64 : Nat)]))) * (32 : Nat) ≤ (140737488355328 : Nat)) ∧ ∃ j, (↑(IxS.i j) : Int) ≤ p ^ IxS.i i ∧ (((0 : Nat) = (0 : Nat) ∧ p ^ IxS.i i = p ^ IxS.i i ∧ a % p ^ IxS.i i = a % p ^ IxS.i i ∧ ((0 : Nat) = (0 : Nat) ∧ List.length (rootsTo (Int.toNat (p ^ IxS.i i)) (Int.toNat (a % p ^ IxS.i i)) (IxS.i i_1)) + News.len (News.rows (2 : Nat) (1 : Nat) (rowOf [MV.big (↑(IxS.i i_1) : Int) (64 : Nat)])) = List.length (rootsTo (Int.toNat (p ^ IxS.i i)) (Int.toNat (a % p ^ IxS.i i)) (IxS.i j))) ∧ IntKind.wrap IntKind.i64 ((↑(IxS.i i_1) : Int) + (1 : Int)) = (↑(IxS.i j) : Int) ∧ True) ∧ (a = a ∧ (n ≤ n ∨ Int.natAbs a < (2 : Nat) ^ n)) ∧ (p = p ∧ (m ≤ m ∨ Int.natAbs p < (2 : Nat) ^ m)) ∧ (Value.slice none (0 : Nat) (0 : Nat) = Value.slice none (0 : Nat) (0 : Nat) ∧ (0 : Int) = (0 : Int) ∧ True) ∧ (p ^ Int.toNat k = p ^ Int.toNat k ∧ (m + (64 : Nat) ≤ m + (64 : Nat) ∨ Int.natAbs (p ^ Int.toNat k) < (2 : Nat) ^ (m + (64 : Nat)))) ∧ (List.length (rootsTo (Int.toNat (p ^ IxS.i i)) (Int.toNat (a % p ^ IxS.i i)) (IxS.i i_1)) + (1 : Nat) = List.length (rootsTo (Int.toNat (p ^ IxS.i i)) (Int.toNat (a % p ^ IxS.i i)) (IxS.i j)) ∧ LeFun (List.length (rootsTo (Int.toNat (p ^ IxS.i i)) (Int.toNat (a % p ^ IxS.i i)) (IxS.i i_1)) + (1 : Nat)) (fun q => bif Nat.blt q (List.length (rootsTo (Int.toNat (p ^ IxS.i i)) (Int.toNat (a % p ^ IxS.i i)) (IxS.i i_1))) then bgF (rootsTo (Int.toNat (p ^ IxS.i i)) (Int.toNat (a % p ^ IxS.i i)) (IxS.i i_1)) (64 : Nat) q else rowOf [MV.big (↑(IxS.i i_1) : Int) (64 : Nat)] (q - List.length (rootsTo (Int.toNat (p ^ IxS.i i)) (Int.toNat (a % p ^ IxS.i i)) (IxS.i i_1)))) (bgF (rootsTo (Int.toNat (p ^ IxS.i i)) (Int.toNat (a % p ^ IxS.i i)) (IxS.i j)) (64 : Nat))) ∧ True) ∧ Int.toNat (p ^ IxS.i i) - IxS.i j < Int.toNat (p ^ IxS.i i) - IxS.i i_1 else ∃ j, (↑(IxS.i j) : Int) ≤ p ^ IxS.i i ∧ (((0 : Nat) = (0 : Nat) ∧ p ^ IxS.i i = p ^ IxS.i i ∧ a % p ^ IxS.i i = a % p ^ IxS.i i ∧ ((0 : Nat) = (0 : Nat) ∧ List.length (rootsTo (Int.toNat (p ^ IxS.i i)) (Int.toNat (a % p ^ IxS.i i)) (IxS.i i_1)) = List.length (rootsTo (Int.toNat (p ^ IxS.i i)) (Int.toNat (a % p ^ IxS.i i)) (IxS.i j))) ∧ IntKind.wrap IntKind.i64 ((↑(IxS.i i_1) : Int) + (1 : Int)) = (↑(IxS.i j) : Int) ∧ True) ∧ (a = a ∧ (n ≤ n ∨ Int.natAbs a < (2 : Nat) ^ n)) ∧ (p = p ∧ (m ≤ m ∨ Int.natAbs p < (2 : Nat) ^ m)) ∧ (Value.slice none (0 : Nat) (0 : Nat) = Value.slice none (0 : Nat) (0 : Nat) ∧ (0 : Int) = (0 : Int) ∧ True) ∧ (p ^ Int.toNat k = p ^ Int.toNat k ∧ (m + (64 : Nat) ≤ m + (64 : Nat) ∨ Int.natAbs (p ^ Int.toNat k) < (2 : Nat) ^ (m + (64 : Nat)))) ∧ (List.length (rootsTo (Int.toNat (p ^ IxS.i i)) (Int.toNat (a % p ^ IxS.i i)) (IxS.i i_1)) = List.length (rootsTo (Int.toNat (p ^ IxS.i i)) (Int.toNat (a % p ^ IxS.i i)) (IxS.i j)) ∧ LeFun (List.length (rootsTo (Int.toNat (p ^ IxS.i i)) (Int.toNat (a % p ^ IxS.i i)) (IxS.i i_1))) (bgF (rootsTo (Int.toNat (p ^ IxS.i i)) (Int.toNat (a % p ^ IxS.i i)) (IxS.i i_1)) (64 : Nat)) (bgF (rootsTo (Int.toNat (p ^ IxS.i i)) (Int.toNat (a % p ^ IxS.i i)) (IxS.i j)) (64 : Nat))) ∧ True) ∧ Int.toNat (p ^ IxS.i i) - IxS.i j < Int.toNat (p ^ IxS.i i) - IxS.i i_1 else List.length (rootsTo (Int.toNat (p ^ IxS.i i)) (Int.toNat (a % p ^ IxS.i i)) (IxS.i i_1)) ≤ List.length (rootsTo (Int.toNat (p ^ IxS.i i)) (Int.toNat (a % p ^ IxS.i i)) (IxS.i i_1)) ∧ bif decide (p < (2 : Int)) || decide (k < (1 : Int)) then ((2 : Nat) = (2 : Nat) ∧ List.length (rootsTo (Int.toNat (p ^ IxS.i i)) (Int.toNat (a % p ^ IxS.i i)) (IxS.i i_1)) = (0 : Nat) ∧ LeFun (List.length (rootsTo (Int.toNat (p ^ IxS.i i)) (Int.toNat (a % p ^ IxS.i i)) (IxS.i i_1))) (bgF (rootsTo (Int.toNat (p ^ IxS.i i)) (Int.toNat (a % p ^ IxS.i i)) (IxS.i i_1)) (64 : Nat)) (bgF [] (64 : Nat))) ∧ (0 : Int) = (1 : Int) ∧ True else bif decide ((1048576 : Int) < p ^ Int.toNat k) then ((2 : Nat) = (2 : Nat) ∧ List.length (rootsTo (Int.toNat (p ^ IxS.i i)) (Int.toNat (a % p ^ IxS.i i)) (IxS.i i_1)) = (0 : Nat) ∧ LeFun (List.length (rootsTo (Int.toNat (p ^ IxS.i i)) (Int.toNat (a % p ^ IxS.i i)) (IxS.i i_1))) (bgF (rootsTo (Int.toNat (p ^ IxS.i i)) (Int.toNat (a % p ^ IxS.i i)) (IxS.i i_1)) (64 : Nat)) (bgF [] (64 : Nat))) ∧ (0 : Int) = (2 : Int) ∧ True else ((2 : Nat) = (2 : Nat) ∧ List.length (rootsTo (Int.toNat (p ^ IxS.i i)) (Int.toNat (a % p ^ IxS.i i)) (IxS.i i_1)) = List.length (rootsL a (Int.toNat (p ^ Int.toNat k))) ∧ LeFun (List.length (rootsTo (Int.toNat (p ^ IxS.i i)) (Int.toNat (a % p ^ IxS.i i)) (IxS.i i_1))) (bgF (rootsTo (Int.toNat (p ^ IxS.i i)) (Int.toNat (a % p ^ IxS.i i)) (IxS.i i_1)) (64 : Nat)) (bgF (rootsL a (Int.toNat (p ^ Int.toNat k))) (64 : Nat))) ∧ (0 : Int) = (0 : Int) ∧ True) = evFn (env [c_rof, c_rcmp, c_rmul, c_rlow, c_small] (a_r3roots a p k n m)) Tryd.f18 [.big a n, .big p m, .int .i64 k] (MRes.sat (rootsR3 a p k)) := by kernel_rfl

theorem p_r3roots : Good Tryd.f18 s_r3roots := by
  intro ms p r h hp
  unfold s_r3roots at h
  split at h
  · rename_i a n p m k
    simp only [Option.some.injEq, Prod.mk.injEq] at h
    obtain ⟨rfl, rfl⟩ := h
    obtain ⟨h1, h2, h3, h4⟩ : n ≤ 1000 ∧ m ≤ 1000 ∧ -9223372036854775808 ≤ k ∧ k ≤ 9223372036854775807 := hp
    refine ⟨env [c_rof, c_rcmp, c_rmul, c_rlow, c_small] (a_r3roots a p k n m), ?_⟩
    rw [← vc_r3roots a p k n m, icmp_ltd]
    refine ⟨by omega, ⟨by omega, by omega⟩, ?_⟩
    by_cases hp2 : p < 2
    · rw [decide_eq_true hp2]
      exact ⟨⟨rfl, rfl⟩, rfl, True.intro⟩
    rw [decide_eq_false hp2, cond_false]
    by_cases hk1 : k < 1
    · rw [decide_eq_true hk1]
      exact ⟨⟨rfl, rfl⟩, rfl, True.intro⟩
    rw [decide_eq_false hk1, cond_false]
    refine ⟨by omega, ⟨⟨0⟩, ⟨by show ((0 : Nat) : Int) ≤ k; omega, by show p ^ 0 ≤ _; rw [Int.pow_zero]; omega⟩, ?_⟩, ?_⟩
    · have e0 : (1 : Int) = p ^ 0 := (Int.pow_zero p).symm
      and_intros <;> first | exact True.intro | exact e0 | rfl | exact .inl (Nat.le_refl _) | exact .inl (by omega)
    rintro ⟨j⟩ ⟨hjk, hj⟩
    have hjk : (j : Int) ≤ k := hjk
    have hj : p ^ j ≤ 1048576 := hj
    have hpos : 0 < p ^ j := Int.pow_pos (by omega)
    dsimp only
    rw [Bool.cond_decide]
    split
    · rename_i hc
      have e5 : IntKind.wrap IntKind.i64 ((j : Int) + 1) = ((j + 1 : Nat) : Int) := by rw [i64w (by omega) (by omega)]; omega
      refine ⟨⟨by omega, by omega⟩, by omega, ⟨by omega, by omega⟩, ?_⟩
      rw [icmp_gtd, e5, ← Int.pow_succ]
      have hpos2 : 0 < p ^ (j + 1) := Int.pow_pos (by omega)
      by_cases hg : 1048576 < p ^ (j + 1)
      · have hm : p ^ (j + 1) ≤ p ^ k.toNat := pow_mono_int (by omega) (by omega)
        rw [decide_eq_true hg, decide_eq_true (show 1048576 < p ^ k.toNat by omega)]
        exact ⟨⟨rfl, rfl⟩, rfl, True.intro⟩
      · rw [decide_eq_false hg, cond_false]
        have hb : (p ^ (j + 1)).natAbs < 2 ^ (m + 64) := by
          have : 2 ^ 64 ≤ 2 ^ (m + 64) := Nat.pow_le_pow_right (by omega) (by omega)
          omega
        refine ⟨⟨j + 1⟩, ⟨by show ((j + 1 : Nat) : Int) ≤ k; omega, by show p ^ (j + 1) ≤ _; omega⟩, ?_, by show k.toNat - (j + 1) < k.toNat - j; omega⟩
        and_intros <;> first | exact True.intro | rfl | exact .inl (Nat.le_refl _) | exact .inr hb
    · rename_i hc
      have hjk2 : j = k.toNat := by omega
      rw [← hjk2]
      generalize hN : p ^ j = N at *
      have hm0 := Int.emod_nonneg a (show N ≠ 0 by omega)
      have hm1 := Int.emod_lt_of_pos a hpos
      obtain ⟨n', rfl⟩ := Int.eq_ofNat_of_zero_le (Int.le_of_lt hpos)
      obtain ⟨w, hw⟩ := Int.eq_ofNat_of_zero_le hm0
      have hrl : rootsL a n' = rootsTo n' w n' := by unfold rootsL; rw [hw]; rfl
      rw [hw, Int.toNat_natCast, Int.toNat_natCast, hrl]
      refine ⟨by omega, ⟨by omega, by omega, by omega⟩, ⟨⟨0⟩, by show ((0 : Nat) : Int) ≤ _; omega, ?_⟩, ?_⟩
      · have l0 : LeFun 0 (rowOf []) (bgF (rootsTo n' w 0) 64) := LeFun.of_le fun i hi => by omega
        and_intros <;> first | exact True.intro | exact l0 | rfl | exact .inl (Nat.le_refl _)
      rintro ⟨x⟩ hx
      have hx : (x : Int) ≤ n' := hx
      dsimp only
      have hL := rootsTo_len n' w x
      rw [Bool.cond_decide]
      split
      · rename_i hc
        have hxx : 0 ≤ (x : Int) * x ∧ (x : Int) * x ≤ 1099511627776 := ⟨Int.mul_nonneg (by omega) (by omega), Int.le_trans (Int.mul_le_mul (show (x : Int) ≤ 1048576 by omega) (show (x : Int) ≤ 1048576 by omega) (by omega) (by omega)) (by decide)⟩
        have e1 : IntKind.wrap IntKind.i64 ((x : Int) * x) = (x : Int) * x := i64w (by omega) (by omega)
        have e2 : Int.tmod ((x : Int) * x) (n' : Int) = ((x * x % n' : Nat) : Int) := by
          rw [Int.tmod_eq_emod_of_nonneg hxx.1, ← Int.natCast_mul]; rfl
        have e3 : IntKind.wrap IntKind.i64 ((x : Int) + 1) = ((x + 1 : Nat) : Int) := by rw [i64w (by omega) (by omega)]; omega
        have e4 : (((x * x % n' : Nat) : Int) == (w : Int)) = decide (x * x % n' = w) := by
          by_cases h : x * x % n' = w
          · rw [h, decide_eq_true rfl]; simp
          · rw [decide_eq_false h]; simp only [beq_eq_false_iff_ne]; omega
        rw [e1, e2, e3, e4]
        refine ⟨by omega, ?_⟩
        cases hd : decide (x * x % n' = w) with
        | true =>
          rw [cond_true]
          have el : rootsTo n' w (x + 1) = rootsTo n' w x ++ [(x : Int)] := by simp only [rootsTo, hd, cond_true]
          have hn : News.len (News.rows 2 1 (rowOf [MV.big (x : Int) 64])) = 1 := rfl
          have hlen2 : (rootsTo n' w x).length + 1 = (rootsTo n' w (x + 1)).length := by rw [el, List.length_append]; rfl
          have hle := bg_append (rootsTo n' w x) (x : Int) 64
          rw [← el] at hle
          rw [hn]
          refine ⟨⟨by omega, by omega⟩, ⟨Nat.le_refl _, Nat.le_refl _, by omega⟩, ⟨x + 1⟩, by show ((x + 1 : Nat) : Int) ≤ _; omega, ?_, by show n' - (x + 1) < n' - x; omega⟩
          and_intros <;> first | exact True.intro | exact hle | exact hlen2 | rfl | exact .inl (Nat.le_refl _)
        | false =>
          rw [cond_false]
          have el : rootsTo n' w (x + 1) = rootsTo n' w x := by simp only [rootsTo, hd, cond_false, List.append_nil]
          have hl : LeFun (rootsTo n' w x).length (bgF (rootsTo n' w x) 64) (bgF (rootsTo n' w x) 64) := LeFun.same rfl
          refine ⟨⟨x + 1⟩, by show ((x + 1 : Nat) : Int) ≤ _; omega, ?_, by show n' - (x + 1) < n' - x; omega⟩
          dsimp only
          rw [el]
          and_intros <;> first | exact True.intro | exact hl | rfl | exact .inl (Nat.le_refl _)
      · rename_i hc
        have hxe : x = n' := by omega
        subst hxe
        have hl : LeFun (rootsTo x w x).length (bgF (rootsTo x w x) 64) (bgF (rootsTo x w x) 64) := LeFun.same rfl
        rw [decide_eq_false (show ¬ (1048576 : Int) < x by omega)]
        simp only [cond_false, Bool.false_or]
        and_intros <;> first | exact True.intro | exact hl | rfl | exact .inl (Nat.le_refl _) | exact Nat.le_refl _
  · simp at h
def c_r3roots : Ctr Tryd.prog := ⟨18, s_r3roots, fun args w => Tryd.call18 args w, fn_ok mix Tryd.func18 s_r3roots p_r3roots⟩

end Go.Proofs.YtcikhffhikgahaaDoor

/-
  The walk of ModularAllRoots.
-/
namespace Go.Proofs.YtcikhffhikgahaaDoor
open Go Go.RowKit

structure AlS where
  w : Int
  i : Nat
structure AlI (s : AlS) : Prop where
  w0 : 1 ≤ s.w
  w1 : s.w ≤ 66060288
  i : s.i ≤ 30
structure AkS where
  k : Int
structure AkI (s : AkS) : Prop where
  k0 : -9223372036854775808 ≤ s.k
  k1 : s.k ≤ 9223372036854775807
def a_mall : Nat → MS → Option LoopAnn
  | 9, s => (match look 2 s.tm, look 9 s.tm with
    | .int _ K, .int _ P => some (.inv AlS AlI (fun x => ⟨73, [(2, .int .i64 K), (7, .bool true), (8, .bp 1 0), (9, .int .i64 P), (10, .int .i64 x.w), (11, .int .i64 x.i)], s.bx, 0⟩) (fun x => 30 - x.i))
    | _, _ => none)
  | _, _ => none
def k_mall : Nat → MS → Option CutAnn
  | 14, s => (match look 9 s.tm with
    | .int _ P => some (.mk AkS AkI (fun x => ⟨73, [(2, .int .i64 x.k), (7, .bool true), (8, .bp 1 0), (9, .int .i64 P)], s.bx, 0⟩))
    | _ => none)
  | _, _ => none
theorem vc_mall (b : Bool) (l : List Int) (p k : Int) : (((∀ (x : Int), x ∈ l → (0 : Int) ≤ x ∧ x < (4294967296 : Int)) ∧ (0 : Int) ≤ (2 : Int) ∧ (2 : Int) ≤ (1000 : Int) ∧ List.length l < (9223372036854775808 : Nat)) ∧ ((64 : Int) = (0 : Int) → False) ∧ (bif decide (Int.tmod (IntKind.wrap IntKind.i64 p) (64 : Int) ≥ (2 : Int)) then (∃ i, AlI i ∧ (k = k ∧ true = true ∧ (0 : Nat) = (0 : Nat) ∧ Int.tmod (IntKind.wrap IntKind.i64 p) (64 : Int) = Int.tmod (IntKind.wrap IntKind.i64 p) (64 : Int) ∧ (1 : Int) = AlS.w i ∧ (0 : Int) = (↑(AlS.i i) : Int) ∧ True) ∧ (b = b ∧ l = l ∧ True) ∧ (madeI b l (Int.toNat (2 : Int)) = madeI b l (Int.toNat (2 : Int)) ∧ ((32 : Nat) * Int.toNat (2 : Int) ≤ (32 : Nat) * Int.toNat (2 : Int) ∨ Int.natAbs (madeI b l (Int.toNat (2 : Int))) < (2 : Nat) ^ ((32 : Nat) * Int.toNat (2 : Int)))) ∧ True) ∧ ∀ (i : AlS), AlI i → bif decide ((↑(AlS.i i) : Int) < k) then bif decide ((↑(AlS.i i) : Int) < (30 : Int)) then bif decide (AlS.w i ≤ (1048576 : Int)) then ∃ j, AlI j ∧ ((k = k ∧ true = true ∧ (0 : Nat) = (0 : Nat) ∧ Int.tmod (IntKind.wrap IntKind.i64 p) (64 : Int) = Int.tmod (IntKind.wrap IntKind.i64 p) (64 : Int) ∧ IntKind.wrap IntKind.i64 (AlS.w i * Int.tmod (IntKind.wrap IntKind.i64 p) (64 : Int)) = AlS.w j ∧ IntKind.wrap IntKind.i64 ((↑(AlS.i i) : Int) + (1 : Int)) = (↑(AlS.i j) : Int) ∧ True) ∧ (b = b ∧ l = l ∧ True) ∧ (madeI b l (Int.toNat (2 : Int)) = madeI b l (Int.toNat (2 : Int)) ∧ ((32 : Nat) * Int.toNat (2 : Int) ≤ (32 : Nat) * Int.toNat (2 : Int) ∨ Int.natAbs (madeI b l (Int.toNat (2 : Int))) < (2 : Nat) ^ ((32 : Nat) * Int.toNat (2 : Int)))) ∧ True) ∧ (30 : Nat) - AlS.i j < (30 : Nat) - AlS.i i else bif decide (AlS.w i > (4096 : Int)) then bif decide (AlS.w i ≤ (1048576 : Int)) then ∃ i, AkI i ∧ ((1 : Int) = AkS.k i ∧ true = true ∧ (0 : Nat) = (0 : Nat) ∧ Int.tmod (IntKind.wrap IntKind.i64 p) (64 : Int) = Int.tmod (IntKind.wrap IntKind.i64 p) (64 : Int) ∧ True) ∧ (b = b ∧ l = l ∧ True) ∧ (madeI b l (Int.toNat (2 : Int)) = madeI b l (Int.toNat (2 : Int)) ∧ ((32 : Nat) * Int.toNat (2 : Int) ≤ (32 : Nat) * Int.toNat (2 : Int) ∨ Int.natAbs (madeI b l (Int.toNat (2 : Int))) < (2 : Nat) ^ ((32 : Nat) * Int.toNat (2 : Int)))) ∧ True else ∃ i, AkI i ∧ (k = AkS.k i ∧ true = true ∧ (0 : Nat) = (0 : Nat) ∧ Int.tmod (IntKind.wrap IntKind.i64 p) (64 : Int) = Int.tmod (IntKind.wrap IntKind.i64 p) (64 : Int) ∧ True) ∧ (b = b ∧ l = l ∧ True) ∧ (madeI b l (Int.toNat (2 : Int)) = madeI b l (Int.toNat (2 : Int)) ∧ ((32 : Nat) * Int.toNat (2 : Int) ≤ (32 : Nat) * Int.toNat (2 : Int) ∨ Int.natAbs (madeI b l (Int.toNat (2 : Int))) < (2 : Nat) ^ ((32 : Nat) * Int.toNat (2 : Int)))) ∧ True else ∃ i, AkI i ∧ (k = AkS.k i ∧ true = true ∧ (0 : Nat) = (0 : Nat) ∧ Int.tmod (IntKind.wrap IntKind.i64 p) (64 : Int) = Int.tmod (IntKind.wrap IntKind.i64 p) (64 : Int) ∧ True) ∧ (b = b ∧ l = l ∧ True) ∧ (madeI b l (Int.toNat (2 : Int)) = madeI b l (Int.toNat (2 : Int)) ∧ ((32 : Nat) * Int.toNat (2 : Int) ≤ (32 : Nat) * Int.toNat (2 : Int) ∨ Int.natAbs (madeI b l (Int.toNat (2 : Int))) < (2 : Nat) ^ ((32 : Nat) * Int.toNat (2 : Int)))) ∧ True else bif decide (AlS.w i > (4096 : Int)) then bif decide (AlS.w i ≤ (1048576 : Int)) then ∃ i, AkI i ∧ ((1 : Int) = AkS.k i ∧ true = true ∧ (0 : Nat) = (0 : Nat) ∧ Int.tmod (IntKind.wrap IntKind.i64 p) (64 : Int) = Int.tmod (IntKind.wrap IntKind.i64 p) (64 : Int) ∧ True) ∧ (b = b ∧ l = l ∧ True) ∧ (madeI b l (Int.toNat (2 : Int)) = madeI b l (Int.toNat (2 : Int)) ∧ ((32 : Nat) * Int.toNat (2 : Int) ≤ (32 : Nat) * Int.toNat (2 : Int) ∨ Int.natAbs (madeI b l (Int.toNat (2 : Int))) < (2 : Nat) ^ ((32 : Nat) * Int.toNat (2 : Int)))) ∧ True else ∃ i, AkI i ∧ (k = AkS.k i ∧ true = true ∧ (0 : Nat) = (0 : Nat) ∧ Int.tmod (IntKind.wrap IntKind.i64 p) (64 : Int) = Int.tmod (IntKind.wrap IntKind.i64 p) (64 : Int) ∧ True) ∧ (b = b ∧ l = l ∧ True) ∧ (madeI b l (Int.toNat (2 : Int)) = madeI b l (Int.toNat (2 : Int)) ∧ ((32 : Nat) * Int.toNat (2 : Int) ≤ (32 : Nat) * Int.toNat (2 : Int) ∨ Int.natAbs (madeI b l (Int.toNat (2 : Int))) < (2 : Nat) ^ ((32 : Nat) * Int.toNat (2 : Int)))) ∧ True else ∃ i, AkI i ∧ (k = AkS.k i ∧ true = true ∧ (0 : Nat) = (0 : Nat) ∧ Int.tmod (IntKind.wrap IntKind.i64 p) (64 : Int) = Int.tmod (IntKind.wrap IntKind.i64 p) (64 : Int) ∧ True) ∧ (b = b ∧ l = l ∧ True) ∧ (madeI b l (Int.toNat (2 : Int)) = madeI b l (Int.toNat (2 : Int)) ∧ ((32 : Nat) * Int.toNat (2 : Int) ≤ (32 : Nat) * Int.toNat (2 : Int) ∨ Int.natAbs (madeI b l (Int.toNat (2 : Int))) < (2 : Nat) ^ ((32 : Nat) * Int.toNat (2 : Int)))) ∧ True else bif decide (AlS.w i > (4096 : Int)) then bif decide (AlS.w i ≤ (1048576 : Int)) then ∃ i, AkI i ∧ ((1 : Int) = AkS.k i ∧ true = true ∧ (0 : Nat) = (0 : Nat) ∧ Int.tmod (IntKind.wrap IntKind.i64 p) (64 : Int) = Int.tmod (IntKind.wrap IntKind.i64 p) (64 : Int) ∧ True) ∧ (b = b ∧ l = l ∧ True) ∧ (madeI b l (Int.toNat (2 : Int)) = madeI b l (Int.toNat (2 : Int)) ∧ ((32 : Nat) * Int.toNat (2 : Int) ≤ (32 : Nat) * Int.toNat (2 : Int) ∨ Int.natAbs (madeI b l (Int.toNat (2 : Int))) < (2 : Nat) ^ ((32 : Nat) * Int.toNat (2 : Int)))) ∧ True else ∃ i, AkI i ∧ (k = AkS.k i ∧ true = true ∧ (0 : Nat) = (0 : Nat) ∧ Int.tmod (IntKind.wrap IntKind.i64 p) (64 : Int) = Int.tmod (IntKind.wrap IntKind.i64 p) (64 : Int) ∧ True) ∧ (b = b ∧ l = l ∧ True) ∧ (madeI b l (Int.toNat (2 : Int)) = madeI b l (Int.toNat (2 : Int)) ∧ ((32 : Nat) * Int.toNat (2 : Int) ≤ (32 : Nat) * Int.toNat (2 : Int) ∨ Int.natAbs (madeI b l (Int.toNat (2 : Int))) < (2 : Nat) ^ ((32 : Nat) * Int.toNat (2 : Int)))) ∧ True else ∃ i, AkI i ∧ (k = AkS.k i ∧ true = true ∧ (0 : Nat) = (0 : Nat) ∧ Int.tmod (IntKind.wrap IntKind.i64 p) (64 : Int) = Int.tmod (IntKind.wrap IntKind.i64 p) (64 : Int) ∧ True) ∧ (b = b ∧ l = l ∧ True) ∧ (madeI b l (Int.toNat (2 : Int)) = madeI b l (Int.toNat (2 : Int)) ∧ ((32 : Nat) * Int.toNat (2 : Int) ≤ (32 : Nat) * Int.toNat (2 : Int) ∨ Int.natAbs (madeI b l (Int.toNat (2 : Int))) < (2 : Nat) ^ ((32 : Nat) * Int.toNat (2 : Int)))) ∧ True else ∃ i, AkI i ∧ (k = AkS.k i ∧ true = true ∧ (0 : Nat) = (0 : Nat) ∧ Int.tmod (IntKind.wrap IntKind.i64 p) (64 : Int) = Int.tmod (IntKind.wrap IntKind.i64 p) (64 : Int) ∧ True) ∧ (b = b ∧ l = l ∧ True) ∧ (madeI b l (Int.toNat (2 : Int)) = madeI b l (Int.toNat (2 : Int)) ∧ ((32 : Nat) * Int.toNat (2 : Int) ≤ (32 : Nat) * Int.toNat (2 : Int) ∨ Int.natAbs (madeI b l (Int.toNat (2 : Int))) < (2 : Nat) ^ ((32 : Nat) * Int.toNat (2 : Int)))) ∧ True) ∧ ∀ (i : AkS), AkI i → ((-9223372036854775808 : Int) ≤ Int.tmod (IntKind.wrap IntKind.i64 p) (64 : Int) ∧ Int.tmod (IntKind.wrap IntKind.i64 p) (64 : Int) ≤ (9223372036854775807 : Int)) ∧ ((32 : Nat) * Int.toNat (2 : Int) ≤ (1000 : Nat) ∧ (64 : Nat) ≤ (1000 : Nat) ∧ (-9223372036854775808 : Int) ≤ AkS.k i ∧ AkS.k i ≤ (9223372036854775807 : Int)) ∧ bif decide (Int.tmod (IntKind.wrap IntKind.i64 p) (64 : Int) < (2 : Int)) || decide (AkS.k i < (1 : Int)) then ((-9223372036854775808 : Int) ≤ Int.tmod (IntKind.wrap IntKind.i64 p) (64 : Int) ∧ Int.tmod (IntKind.wrap IntKind.i64 p) (64 : Int) ≤ (9223372036854775807 : Int)) ∧ ((32 : Nat) * Int.toNat (2 : Int) ≤ (1000 : Nat) ∧ (64 : Nat) ≤ (1000 : Nat) ∧ (-9223372036854775808 : Int) ≤ AkS.k i ∧ AkS.k i ≤ (9223372036854775807 : Int)) ∧ bif decide (Int.tmod (IntKind.wrap IntKind.i64 p) (64 : Int) < (2 : Int)) || decide (AkS.k i < (1 : Int)) then ((∀ (i : Nat), i < (0 : Nat) → ∃ z k, bgF [] (64 : Nat) i = MV.big z k ∧ k ≤ (1000 : Nat)) ∧ (∀ (i : Nat), i < (0 : Nat) → ∃ z k, bgF [] (64 : Nat) i = MV.big z k ∧ k ≤ (1000 : Nat)) ∧ (0 : Nat) ≤ (1000000000 : Nat)) ∧ true = true else bif decide ((1048576 : Int) < Int.tmod (IntKind.wrap IntKind.i64 p) (64 : Int) ^ Int.toNat (AkS.k i)) then false = true else false = true else bif decide ((1048576 : Int) < Int.tmod (IntKind.wrap IntKind.i64 p) (64 : Int) ^ Int.toNat (AkS.k i)) then ((-9223372036854775808 : Int) ≤ Int.tmod (IntKind.wrap IntKind.i64 p) (64 : Int) ∧ Int.tmod (IntKind.wrap IntKind.i64 p) (64 : Int) ≤ (9223372036854775807 : Int)) ∧ ((32 : Nat) * Int.toNat (2 : Int) ≤ (1000 : Nat) ∧ (64 : Nat) ≤ (1000 : Nat) ∧ (-9223372036854775808 : Int) ≤ AkS.k i ∧ AkS.k i ≤ (9223372036854775807 : Int)) ∧ bif decide (Int.tmod (IntKind.wrap IntKind.i64 p) (64 : Int) < (2 : Int)) || decide (AkS.k i < (1 : Int)) then false = true else bif decide ((1048576 : Int) < Int.tmod (IntKind.wrap IntKind.i64 p) (64 : Int) ^ Int.toNat (AkS.k i)) then ((∀ (i : Nat), i < (0 : Nat) → ∃ z k, bgF [] (64 : Nat) i = MV.big z k ∧ k ≤ (1000 : Nat)) ∧ (∀ (i : Nat), i < (0 : Nat) → ∃ z k, bgF [] (64 : Nat) i = MV.big z k ∧ k ≤ (1000 : Nat)) ∧ (0 : Nat) ≤ (1000000000 : Nat)) ∧ true = true else false = true else ((-9223372036854775808 : Int) ≤ Int.tmod (IntKind.wrap IntKind.i64 p) (64 : Int) ∧ Int.tmod (IntKind.wrap IntKind.i64 p) (64 : Int) ≤ (9223372036854775807 : Int)) ∧ ((32 : Nat) * Int.toNat (2 : Int) ≤ (1000 : Nat) ∧ (64 : Nat) ≤ (1000 : Nat) ∧ (-9223372036854775808 : Int) ≤ AkS.k i ∧ AkS.k i ≤ (9223372036854775807 : Int)) ∧ bif decide (Int.tmod (IntKind.wrap IntKind.i64 p) (64 : Int) < (2 : Int)) || decide (AkS.k i < (1 : Int)) then false = true else bif decide ((1048576 : Int) < Int.tmod (IntKind.wrap IntKind.i64 p) (64 : Int) ^ Int.toNat (AkS.k i)) then false = true else ((∀ (i_1 : Nat), i_1 < List.length (rootsL (madeI b l (Int.toNat (2 : Int))) (Int.toNat (Int.tmod (IntKind.wrap IntKind.i64 p) (64 : Int) ^ Int.toNat (AkS.k i)))) → ∃ z k, bgF (rootsL (madeI b l (Int.toNat (2 : Int))) (Int.toNat (Int.tmod (IntKind.wrap IntKind.i64 p) (64 : Int) ^ Int.toNat (AkS.k i)))) (64 : Nat) i_1 = MV.big z k ∧ k ≤ (1000 : Nat)) ∧ (∀ (i_1 : Nat), i_1 < List.length (rootsL (madeI b l (Int.toNat (2 : Int))) (Int.toNat (Int.tmod (IntKind.wrap IntKind.i64 p) (64 : Int) ^ Int.toNat (AkS.k i)))) → ∃ z k, bgF (rootsL (madeI b l (Int.toNat (2 : Int))) (Int.toNat (Int.tmod (IntKind.wrap IntKind.i64 p) (64 : Int) ^ Int.toNat (AkS.k i)))) (64 : Nat) i_1 = MV.big z k ∧ k ≤ (1000 : Nat)) ∧ List.length (rootsL (madeI b l (Int.toNat (2 : Int))) (Int.toNat (Int.tmod (IntKind.wrap IntKind.i64 p) (64 : Int) ^ Int.toNat (AkS.k i)))) ≤ (1000000000 : Nat)) ∧ bif decide (bvals (List.length (rootsL (madeI b l (Int.toNat (2 : Int))) (Int.toNat (Int.tmod (IntKind.wrap IntKind.i64 p) (64 : Int) ^ Int.toNat (AkS.k i))))) (bgF (rootsL (madeI b l (Int.toNat (2 : Int))) (Int.toNat (Int.tmod (IntKind.wrap IntKind.i64 p) (64 : Int) ^ Int.toNat (AkS.k i)))) (64 : Nat)) = bvals (List.length (rootsL (madeI b l (Int.toNat (2 : Int))) (Int.toNat (Int.tmod (IntKind.wrap IntKind.i64 p) (64 : Int) ^ Int.toNat (AkS.k i))))) (bgF (rootsL (madeI b l (Int.toNat (2 : Int))) (Int.toNat (Int.tmod (IntKind.wrap IntKind.i64 p) (64 : Int) ^ Int.toNat (AkS.k i)))) (64 : Nat))) then true = true else false = true) = evFn (envC [c_lex, c_rMade, c_lof, c_roots, c_r3roots, c_samel] a_mall k_mall) Tryd.f4 [rawM b l, .int .i16 p, .int .i64 k] (MRes.sat (.ret (.bool true))) := by kernel_rfl

def s_mall : FSpec
  | [.st [.bool _, .ws l], .int .i16 p, .int .i64 k] =>
    some (some ((Wd l ∧ l.length < 9223372036854775808) ∧ (-32768 ≤ p ∧ p ≤ 32767) ∧ (-9223372036854775808 ≤ k ∧ k ≤ 9223372036854775807)), .ret (.bool true))
  | _ => none
theorem mall_tail {x y : Bool} {X Y : Prop} (hx : X) (hy : Y) : bif x then (bif y then X else Y) else Y := by
  cases x <;> cases y <;> assumption
theorem mall_big (l : List Int) (n : Nat) : ∀ i : Nat, i < n → ∃ z k, bgF l 64 i = MV.big z k ∧ k ≤ 1000 := fun _ _ => ⟨_, _, rfl, by omega⟩
theorem p_mall : Good Tryd.f4 s_mall := by
  intro ms p r h hp
  unfold s_mall at h
  split at h
  · rename_i b l p k
    simp only [Option.some.injEq, Prod.mk.injEq] at h
    obtain ⟨rfl, rfl⟩ := h
    obtain ⟨⟨w1, n1⟩, ⟨x1, x2⟩, y1, y2⟩ : (Wd l ∧ l.length < 9223372036854775808) ∧ (-32768 ≤ p ∧ p ≤ 32767) ∧ (-9223372036854775808 ≤ k ∧ k ≤ 9223372036854775807) := hp
    refine ⟨envC [c_lex, c_rMade, c_lof, c_roots, c_r3roots, c_samel] a_mall k_mall, ?_⟩
    rw [← vc_mall b l p k]
    have hx : IntKind.wrap IntKind.i64 p = p := i64w (by omega) (by omega)
    rw [hx]
    have hP : Int.tmod p 64 < 64 ∧ -64 < Int.tmod p 64 := ⟨Int.tmod_lt_of_pos _ (by omega), Int.lt_tmod_of_pos _ (by omega)⟩
    generalize Int.tmod p 64 = P at *
    refine ⟨⟨w1, by omega, by omega, n1⟩, by omega, ?_, ?_⟩
    · have hc : ∀ k' : Int, -9223372036854775808 ≤ k' → k' ≤ 9223372036854775807 → ∃ i, AkI i ∧ (k' = AkS.k i ∧ true = true ∧ (0 : Nat) = (0 : Nat) ∧ P = P ∧ True) ∧ (b = b ∧ l = l ∧ True) ∧
          (madeI b l (Int.toNat 2) = madeI b l (Int.toNat 2) ∧ (32 * Int.toNat 2 ≤ 32 * Int.toNat 2 ∨ (madeI b l (Int.toNat 2)).natAbs < 2 ^ (32 * Int.toNat 2))) ∧ True :=
        fun k' h1 h2 => ⟨⟨k'⟩, ⟨h1, h2⟩, ⟨rfl, rfl, rfl, rfl, True.intro⟩, ⟨rfl, rfl, True.intro⟩, ⟨rfl, .inl (Nat.le_refl _)⟩, True.intro⟩
      have hc1 := hc 1 (by omega) (by omega)
      have hck := hc k y1 y2
      clear hc
      by_cases hp2 : P ≥ 2
      · rw [decide_eq_true hp2, cond_true]
        refine ⟨⟨⟨1, 0⟩, ⟨by show (1 : Int) ≤ 1; omega, by show (1 : Int) ≤ _; omega, by show (0 : Nat) ≤ 30; omega⟩, ⟨rfl, rfl, rfl, rfl, rfl, rfl, True.intro⟩, ⟨rfl, rfl, True.intro⟩, ⟨rfl, .inl (Nat.le_refl _)⟩, True.intro⟩, ?_⟩
        rintro ⟨w, i⟩ hi
        have h0 : 1 ≤ w := hi.w0
        have h1 : w ≤ 66060288 := hi.w1
        have h2 : i ≤ 30 := hi.i
        clear hi
        dsimp only
        by_cases c1 : (i : Int) < k
        · rw [decide_eq_true c1, cond_true]
          by_cases c2 : (i : Int) < 30
          · rw [decide_eq_true c2, cond_true]
            by_cases c3 : w ≤ 1048576
            · rw [decide_eq_true c3, cond_true]
              have q1 : w * P ≤ 1048576 * 63 := Int.mul_le_mul c3 (by omega) (by omega) (by omega)
              have q2 : 1 * 1 ≤ w * P := Int.mul_le_mul h0 (by omega) (by omega) (by omega)
              have e1 : IntKind.wrap IntKind.i64 (w * P) = w * P := i64w (by omega) (by omega)
              have e2 : IntKind.wrap IntKind.i64 ((i : Int) + 1) = ((i + 1 : Nat) : Int) := by rw [i64w (by omega) (by omega)]; omega
              exact ⟨⟨w * P, i + 1⟩, ⟨by show 1 ≤ w * P; omega, by show w * P ≤ _; omega, by show i + 1 ≤ 30; omega⟩, ⟨⟨rfl, rfl, rfl, rfl, e1, e2, True.intro⟩, ⟨rfl, rfl, True.intro⟩, ⟨rfl, .inl (Nat.le_refl _)⟩, True.intro⟩, by show 30 - (i + 1) < 30 - i; omega⟩
            · rw [decide_eq_false c3, cond_false]
              exact mall_tail hc1 hck
          · rw [decide_eq_false c2, cond_false]
            exact mall_tail hc1 hck
        · rw [decide_eq_false c1, cond_false]
          exact mall_tail hc1 hck
      · rw [decide_eq_false hp2]
        exact hck
    · rintro ⟨k'⟩ hi
      have hk0 : -9223372036854775808 ≤ k' := hi.k0
      have hk1 : k' ≤ 9223372036854775807 := hi.k1
      clear hi
      dsimp only
      refine ⟨⟨by omega, by omega⟩, ⟨by omega, by omega, by omega, by omega⟩, ?_⟩
      cases hb1 : (decide (P < 2) || decide (k' < 1)) with
      | true => exact ⟨⟨by omega, by omega⟩, ⟨by omega, by omega, by omega, by omega⟩, ⟨mall_big _ _, mall_big _ _, by omega⟩, rfl⟩
      | false =>
        simp only [Bool.or_eq_false_iff, decide_eq_false_iff_not] at hb1
        cases hb2 : decide (1048576 < P ^ k'.toNat) with
        | true => exact ⟨⟨by omega, by omega⟩, ⟨by omega, by omega, by omega, by omega⟩, ⟨mall_big _ _, mall_big _ _, by omega⟩, rfl⟩
        | false =>
          have hb2 := of_decide_eq_false hb2
          have hpos : 0 < P ^ k'.toNat := Int.pow_pos (by omega)
          have hlen : (rootsL (madeI b l (Int.toNat 2)) (P ^ k'.toNat).toNat).length ≤ 1000000000 := by
            have := rootsTo_len (P ^ k'.toNat).toNat (madeI b l (Int.toNat 2) % (P ^ k'.toNat).toNat).toNat (P ^ k'.toNat).toNat
            unfold rootsL
            omega
          refine ⟨⟨by omega, by omega⟩, ⟨by omega, by omega, by omega, by omega⟩, ⟨mall_big _ _, mall_big _ _, hlen⟩, ?_⟩
          rw [decide_eq_true rfl]
          rfl
  · simp at h
def c_mall : Ctr Tryd.prog := ⟨4, s_mall, fun args w => Tryd.call4 args w, fn_ok mix Tryd.func4 s_mall p_mall⟩

end Go.Proofs.YtcikhffhikgahaaDoor

/-
  The frame of the laws of chapter 03: pairs of numbers of 16 bits; numbers.
-/
namespace Go.Proofs.YtcikhffhikgahaaDoor
open Go Go.ChangeShapes Go.WideShapes Go.ChangeAt Go.RowKit

theorem cells_two16 : Tryd.prog.cellsOf 61 = 2 := by kernel_rfl
theorem cells_i16 : Tryd.prog.cellsOf 39 = 1 := by kernel_rfl
theorem rep_two16 {H : Type} {enc : TypeId × Value → H} {w : World} {sp : Nat → Bool} {held : Bool} {v : Value} {d : DataW H} {ps : List MemPlace} (h : DataW.Trod enc Tryd.prog w 0 sp held 61 v d ps) :
    ∃ k0 k1, Rep1 (Ctx.args noS) w (.st [.int .i16 k0, .int .i16 k1]) v ∧ (-32768 ≤ k0 ∧ k0 ≤ 32767) ∧ (-32768 ≤ k1 ∧ k1 ≤ 32767) := by
  obtain ⟨fuel, h⟩ := h
  obtain ⟨hl, f', hf⟩ := trod_array Tryd.underlying61 h
  rw [cells_two16] at hl
  match hc : v.cells.toList, hl with
  | [a, b], _ =>
    rw [hc, cells_i16] at hf
    obtain ⟨y0, h0⟩ := hf 0 (by decide)
    obtain ⟨y1, h1⟩ := hf 1 (by decide)
    obtain ⟨n0, e0, w0⟩ := trod_int Tryd.underlying39 h0
    obtain ⟨n1, e1, w1⟩ := trod_int Tryd.underlying39 h1
    have z0 : [a] = [.int .i16 n0] := e0
    have z1 : [b] = [.int .i16 n1] := e1
    simp only [List.cons.injEq, and_true] at z0 z1
    subst z0 z1
    exact ⟨n0, n1, (rep1_agg rfl).2 ⟨_, agg_cells hc, _, _, rfl, rfl, _, _, rfl, rfl, rfl⟩, i16_wf w0, i16_wf w1⟩
theorem ok_at {P : Program} {W : World} {base : Nat} {args : Array Value} {ts : Array TypeId} (hval : ∀ (j : Nat) t v, ts[j]? = some t → args[j]? = some v → Value.okWide P W .any base t v) {j : Nat} {t : TypeId} {v : Value} (h1 : ts[j]? = some t) (h2 : args[j]? = some v) : Value.okWide P W .any base t v := hval j t v h1 h2

end Go.Proofs.YtcikhffhikgahaaDoor

/-
  The frame of the laws of chapter 03: numbers of 64 bits.
-/
namespace Go.Proofs.YtcikhffhikgahaaDoor
open Go Go.ChangeShapes Go.WideShapes Go.ChangeAt Go.RowKit

theorem i64_wf {n : Int} (h : (Lit.int .i64 n).wf = true) : -9223372036854775808 ≤ n ∧ n ≤ 9223372036854775807 := by simpa [Lit.wf, IntKind.min, IntKind.max, IntKind.signed, IntKind.bits] using h

end Go.Proofs.YtcikhffhikgahaaDoor

namespace Go.Proofs.YtcikhffhikgahaaDoor
open Go Go.ChangeShapes Go.WideShapes Go.ChangeAt Go.RowKit

def tysModularAllRoots : List Nat := [24, 4, 22, 72, 39, 3]
theorem tysModularAllRoots_ok : tysModularAllRoots.all (subOk Tryd.prog tysModularAllRoots) = true := by kernel_rfl
theorem parModularAllRoots1 : Tryd.f4.params[1]? = some 39 := by rw [Tryd.params4]; rfl
theorem parModularAllRoots2 : Tryd.f4.params[2]? = some 3 := by rw [Tryd.params4]; rfl

set_option maxRecDepth 100000 in
theorem modularAllRoots_contract (H : Type) (enc : TypeId × Value → H) (W : World) (base : Nat) (args : Array Value) (ds gs : List (DataW H)) (before : List MemPlace) (hG : GW noS W)
    (hval : ∀ (j : Nat) t v, Tryd.f4.params[j]? = some t → args[j]? = some v → Value.okWide Tryd.prog W .any base t v)
    (hW : DataW.Whole enc Tryd.prog Tryd.f4.params.toList Rows.modularAllRootsSpec.vars Rows.modularAllRootsRow.apart W args.toList ds gs before) :
    Calls Tryd.prog 4 args W fun e W' => ∃ v, e = .returned v ∧ Rows.modularAllRootsSpec.post enc Tryd.prog Tryd.f4 Rows.modularAllRootsRow.apart Rows.modularAllRootsRow.fresh Rows.modularAllRootsRow.handsOn Rows.modularAllRootsRow.again W args v W' := by
  have hW' := hW
  obtain ⟨p, q, hA, hV, rfl, hfz, hnd⟩ := hW
  rw [Tryd.params4] at hA
  obtain ⟨v0, v1, v2, d0, d1, d2, p0, p1, p2, rfl, rfl, rfl, h0, h1, h2⟩ := trodAll_three hA
  obtain ⟨rfl, rfl⟩ := trodVars_none hV
  obtain ⟨b0, l0, r0, w0⟩ := rep_raw h0
  obtain ⟨z1, rfl, _, _, hw1⟩ := open_int Tryd.underlying39 (ok_at hval parModularAllRoots1 rfl) h1
  have r1 : Rep1 (Ctx.args noS) W (.int .i16 z1) (.int .i16 z1) := rfl
  have w1 := i16_wf hw1
  obtain ⟨z2, rfl, _, _, hw2⟩ := open_int Tryd.underlying3 (ok_at hval parModularAllRoots2 rfl) h2
  have r2 : Rep1 (Ctx.args noS) W (.int .i64 z2) (.int .i64 z2) := rfl
  have w2 := i64_wf hw2
  refine law_calls c_mall rfl rfl tysModularAllRoots_ok (by rw [Tryd.params4]; decide) hW' hG ⟨[rawM b0 l0, .int .i16 z1, .int .i64 z2], _, rfl, ⟨w0, w1, w2⟩, _, _, rfl, r0, _, _, rfl, r1, _, _, rfl, r2, rfl⟩ rfl

set_option maxHeartbeats 1600000 in
set_option maxRecDepth 100000 in
theorem modularAllRoots_lifted (os : Os) (started : os.Started) (H : Type) (enc : TypeId × Value → H) :
    ReturnsInHanded {} Tryd.checked os 4 .any (fun w args => (Rows.modularAllRootsSpec.pre enc Tryd.prog Tryd.f4 [] false w args ∧ laidMetH Tryd.prog laid1 w) ∧ sizedMet enc Tryd.prog Tryd.f4 (OpenSpec.ofChange Rows.modularAllRootsSpec) false w args)
      (Rows.modularAllRootsSpec.post enc Tryd.prog Tryd.f4 false true false false) := by
  refine returnsInHanded_of_change_and (C := Tryd.checked) (X := fun w _ => laidMetH Tryd.prog laid1 w) (fun _ _ _ hh h => h.of_heap hh) own started (by kernel_rfl) Tryd.func4
    (ChangeSpec.witness_shaped (enc := enc) (C := Tryd.checked) (os := os) (X := fun w _ => laidMetH Tryd.prog laid1 w) false (World.doorLaid Tryd.prog 400 os) #[.agg #[.bool false, .slice none 0 0], .int .i16 0, .int .i64 0] 8 rfl (World.shaped_of_RefB (by kernel_rfl) (by kernel_rfl)) (by kernel_rfl) (by kernel_rfl) (by kernel_rfl) (door_met os _)) ?_
  intro W base args ds gs before hval0 hW _ _ hL _
  exact modularAllRoots_contract H enc W base args ds gs before (gw_of_laid hL) hval0 hW

theorem modularAllRoots_over : Rows.ModularAllRootsSaid :=
  OpenClaim.holds_of_wide 4 Tryd.f4 rfl rfl rfl rfl rfl rfl rfl ⟨rfl, rfl, rfl, rfl, rfl⟩ rfl rfl rfl rfl rfl (by kernel_rfl) Tryd.func4 (by kernel_rfl)
    (of_decide_eq_true (by kernel_rfl)) (by unfold Func.isWrapper; first | (rw [if_pos (by decide +kernel)]; kernel_rfl) | (rw [if_neg (by decide +kernel)]; exact ⟨rfl, rfl⟩))
    (fun os started H enc _ => modularAllRoots_lifted os started H enc)

theorem modularAllRoots_holds : Rows.ModularAllRootsCardSaid :=
  Claim7.holds_tied_plain_at .later [] [.data] true (true, Rows.modularAllRootsCard.stood.harness.2) false
    modularAllRoots_over (fun _ h => by cases h) (by kernel_rfl) (fun _ h => by cases h) modularAllRoots_row_tie rfl ⟨rfl, rfl⟩ (by kernel_rfl) rfl
    (fun f fn hf hfn => by
      obtain rfl : f = 4 := Option.some.inj ((show Tryd.prog.funcNamed "algorist/algoristlaw03.ModularAllRoots" = some 4 by kernel_rfl).symm.trans hf) |>.symm
      obtain rfl : fn = Tryd.f4 := (Option.some.inj (Tryd.func4.symm.trans hfn)).symm
      exact ⟨by kernel_rfl, fun j t ht => by
        rw [Tryd.params4] at ht
        have hm : t ∈ [24, 39, 3] := by simpa using Array.mem_of_getElem? ht
        have hall : ([24, 39, 3].all fun u => !Tryd.prog.wantsStandIn u) = true := by kernel_rfl
        exact (show Tryd.prog.wantsStandIn t = false by simpa using List.all_eq_true.1 hall t hm)⟩)
    (by kernel_rfl)

end Go.Proofs.YtcikhffhikgahaaDoor
