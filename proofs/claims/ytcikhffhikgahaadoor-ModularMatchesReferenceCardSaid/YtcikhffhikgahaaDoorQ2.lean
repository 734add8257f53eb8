/-
  ModularMatchesReference: layer 3 answers the same remainders, inverses, powers and symbols as its plainly written reference, whatever the numbers are.
-/
import Derived.Test.YtcikhffhikgahaaDoorW4
import Derived.Test.YtcikhffhikgahaaDoorW5


/-
  Contracts of functions: the reference's Sign, Cmp, Div, Bezout, Inv.
-/
namespace Go.Proofs.YtcikhffhikgahaaDoor
open Go Go.RowKit

theorem vc_rsign (z : Int) (n : Nat) : (bif (↑(List.length (limbs (Int.natAbs z))) : Int) == (0 : Int) then (0 : Int) = sgn z else bif decide (z < (0 : Int)) then (-1 : Int) = sgn z else (1 : Int) = sgn z) = evFn (env [] noAnn) Tryd.f54 [.big z n] (MRes.sat (.ret (.int .i64 (sgn z)))) := by kernel_rfl
theorem p_rsign : Good Tryd.f54 s_sign := by
  intro ms p r h hp
  unfold s_sign at h
  split at h
  · rename_i z n
    simp only [Option.some.injEq, Prod.mk.injEq] at h
    obtain ⟨rfl, rfl⟩ := h
    refine ⟨env [] noAnn, ?_⟩
    rw [← vc_rsign z n]
    by_cases hz : z = 0
    · subst hz
      have : ((((limbs (0 : Int).natAbs).length : Nat) : Int) == 0) = true := by rw [show (0 : Int).natAbs = 0 from rfl, limbs_zero]; rfl
      rw [this]; rfl
    · have hne : (limbs z.natAbs).length ≠ 0 := fun e => by
        have := limbs_eq_nil.1 (List.eq_nil_of_length_eq_zero e)
        omega
      have : ((((limbs z.natAbs).length : Nat) : Int) == 0) = false := by simpa using hne
      rw [this, cond_false, Bool.cond_decide]
      unfold sgn
      rw [if_neg hz]
      split <;> rfl
  · simp at h
def c_rsign : Ctr Tryd.prog := ⟨54, s_sign, fun args w => Tryd.call54 args w, fn_ok mix Tryd.func54 s_sign p_rsign⟩

theorem vc_rcmp (a b : Int) (n m : Nat) : (bif !decide (a < (0 : Int)) == decide (b < (0 : Int)) then bif decide (a < (0 : Int)) then (-1 : Int) = icmp a b else (1 : Int) = icmp a b else bif decide (a < (0 : Int)) then (limbs (Int.toNat (wv (limbs (Int.natAbs b)))) = limbs (Int.natAbs b) ∧ limbs (Int.toNat (wv (limbs (Int.natAbs a)))) = limbs (Int.natAbs a) ∧ List.length (limbs (Int.natAbs b)) ≤ (1099511627776 : Nat) ∧ List.length (limbs (Int.natAbs a)) ≤ (1099511627776 : Nat)) ∧ icmp (wv (limbs (Int.natAbs b))) (wv (limbs (Int.natAbs a))) = icmp a b else (limbs (Int.toNat (wv (limbs (Int.natAbs a)))) = limbs (Int.natAbs a) ∧ limbs (Int.toNat (wv (limbs (Int.natAbs b)))) = limbs (Int.natAbs b) ∧ List.length (limbs (Int.natAbs a)) ≤ (1099511627776 : Nat) ∧ List.length (limbs (Int.natAbs b)) ≤ (1099511627776 : Nat)) ∧ icmp (wv (limbs (Int.natAbs a))) (wv (limbs (Int.natAbs b))) = icmp a b) = evFn (env [c_rsize] noAnn) Tryd.f50 [.big a n, .big b m] (MRes.sat (.ret (.int .i64 (icmp a b)))) := by kernel_rfl
theorem p_rcmp : GoodF Tryd.f50 s_icmp := by
  intro ms p r h hp hf
  unfold s_icmp at h
  split at h
  · rename_i a n b m
    simp only [Option.some.injEq, Prod.mk.injEq] at h
    obtain ⟨rfl, rfl⟩ := h
    obtain ⟨hn, hm⟩ : n ≤ 1000000 ∧ m ≤ 1000000 := hp
    have ha : a.natAbs < 2 ^ n := hf.1
    have hb : b.natAbs < 2 ^ m := hf.2.1
    have l1 := lim_len ha (by omega)
    have l2 := lim_len hb (by omega)
    refine ⟨env [c_rsize] noAnn, ?_⟩
    rw [← vc_rcmp a b n m, wvl, wvl, Int.toNat_natCast, Int.toNat_natCast]
    have e1 : ∀ {x y : Int}, (0 ≤ x → 0 ≤ y → icmp (x.natAbs : Int) (y.natAbs : Int) = icmp x y) ∧ (x < 0 → y < 0 → icmp (y.natAbs : Int) (x.natAbs : Int) = icmp x y) := by
      intro x y
      constructor
      · intro h1 h2; unfold icmp; (repeat' split) <;> omega
      · intro h1 h2; unfold icmp; (repeat' split) <;> omega
    rcases Int.lt_or_le a 0 with q1 | q1 <;> rcases Int.lt_or_le b 0 with q2 | q2
    · rw [decide_eq_true q1, decide_eq_true q2]
      exact ⟨⟨rfl, rfl, by omega, by omega⟩, e1.2 q1 q2⟩
    · rw [decide_eq_true q1, decide_eq_false (show ¬ b < 0 by omega)]
      show (-1 : Int) = icmp a b
      unfold icmp; (repeat' split) <;> omega
    · rw [decide_eq_false (show ¬ a < 0 by omega), decide_eq_true q2]
      show (1 : Int) = icmp a b
      unfold icmp; (repeat' split) <;> omega
    · rw [decide_eq_false (show ¬ a < 0 by omega), decide_eq_false (show ¬ b < 0 by omega)]
      exact ⟨⟨rfl, rfl, by omega, by omega⟩, e1.1 q1 q2⟩
  · simp at h
def c_rcmp : Ctr Tryd.prog := ⟨50, s_icmp, fun args w => Tryd.call50 args w, fn_ok_facts mix Tryd.func50 s_icmp p_rcmp⟩

def s_rdiv : FSpec
  | [.big a n, .big b m] => some (some (n ≤ 900000 ∧ m ≤ 900000 ∧ b ≠ 0), .ret (.big (a / b) n))
  | _ => none
theorem vc_rdiv (a b : Int) (n m : Nat) : ((n ≤ (900000 : Nat) ∧ m ≤ (900000 : Nat) ∧ (b = (0 : Int) → False)) ∧ a / b = a / b ∧ (n ≤ n ∨ Int.natAbs (a / b) < (2 : Nat) ^ n)) = evFn (env [c_rdivmod1] noAnn) Tryd.f63 [.big a n, .big b m] (MRes.sat (.ret (.big (a / b) n))) := by kernel_rfl
theorem p_rdiv : Good Tryd.f63 s_rdiv := by
  intro ms p r h hp
  unfold s_rdiv at h
  split at h
  · rename_i a n b m
    simp only [Option.some.injEq, Prod.mk.injEq] at h
    obtain ⟨rfl, rfl⟩ := h
    obtain ⟨hn, hm, hb⟩ : n ≤ 900000 ∧ m ≤ 900000 ∧ b ≠ 0 := hp
    refine ⟨env [c_rdivmod1] noAnn, ?_⟩
    rw [← vc_rdiv a b n m]
    exact ⟨⟨hn, hm, hb⟩, rfl, .inl (Nat.le_refl _)⟩
  · simp at h
def c_rdiv : Ctr Tryd.prog := ⟨63, s_rdiv, fun args w => Tryd.call63 args w, fn_ok mix Tryd.func63 s_rdiv p_rdiv⟩

def a_rbez (a b : Int) (n m : Nat) : Nat → MS → Option LoopAnn
  | 8, _ => some (.inv BzS (BzI a b) (fun s => ⟨70, [(2, .bp 0 0), (3, .bp 1 0), (4, .bp 2 0), (5, .bp 3 0), (6, .bp 4 0), (7, .bp 5 0), (8, .bp 6 0), (9, .bp 7 0), (10, .bp 8 0), (11, .bp 9 0)],
      [⟨false, .one (.big a n)⟩, ⟨false, .one (.big b m)⟩, ⟨false, .one (.big 0 0)⟩, ⟨false, .one (.big 0 0)⟩, ⟨false, .one (.big 0 0)⟩, ⟨false, .one (.big b.natAbs m)⟩, ⟨false, .one (.big s.x m)⟩, ⟨false, .one (.big s.g m)⟩, ⟨false, .one (.big s.v (m + 1))⟩, ⟨false, .one (.big s.u (m + 1))⟩], 0⟩) (fun s => s.x.toNat))
  | _, _ => none
theorem vc_rbez (a b : Int) (n m : Nat) : (bif (↑(List.length (limbs (Int.natAbs b))) : Int) == (0 : Int) then n ≤ (1000000 : Nat) ∧ ((-9223372036854775808 : Int) ≤ sgn a ∧ sgn a ≤ (9223372036854775807 : Int)) ∧ bif decide (b = (0 : Int)) then ((↑(Int.natAbs a) : Int) = (↑(Int.natAbs a) : Int) ∧ (n ≤ n ∨ Int.natAbs (↑(Int.natAbs a) : Int) < (2 : Nat) ^ n)) ∧ (sgn a = sgn a ∧ ((64 : Nat) ≤ (64 : Nat) ∨ Int.natAbs (sgn a) < (2 : Nat) ^ (64 : Nat))) ∧ ((0 : Int) = (0 : Int) ∧ ((0 : Nat) ≤ (0 : Nat) ∨ Int.natAbs (0 : Int) < (2 : Nat) ^ (0 : Nat))) ∧ True else ((↑(Int.natAbs a) : Int) = (↑(Int.gcd a b) : Int) ∧ (n ≤ m ∨ Int.natAbs (↑(Int.natAbs a) : Int) < (2 : Nat) ^ m)) ∧ (sgn a = bzu a b ∧ ((64 : Nat) ≤ m ∨ Int.natAbs (sgn a) < (2 : Nat) ^ m)) ∧ ((0 : Int) = ((↑(Int.gcd a b) : Int) - bzu a b * a) / b ∧ ((0 : Nat) ≤ max m (m + n) + (1 : Nat) ∨ Int.natAbs (0 : Int) < (2 : Nat) ^ (max m (m + n) + (1 : Nat)))) ∧ True else m ≤ (1000000 : Nat) ∧ (n ≤ (900000 : Nat) ∧ m ≤ (900000 : Nat) ∧ ((↑(Int.natAbs b) : Int) = (0 : Int) → False)) ∧ ((-9223372036854775808 : Int) ≤ (1 : Int) ∧ (1 : Int) ≤ (9223372036854775807 : Int)) ∧ (∃ i, BzI a b i ∧ ((0 : Nat) = (0 : Nat) ∧ (0 : Nat) = (0 : Nat) ∧ (0 : Nat) = (0 : Nat) ∧ (0 : Nat) = (0 : Nat) ∧ (0 : Nat) = (0 : Nat) ∧ (0 : Nat) = (0 : Nat) ∧ (0 : Nat) = (0 : Nat) ∧ (0 : Nat) = (0 : Nat) ∧ (0 : Nat) = (0 : Nat) ∧ (0 : Nat) = (0 : Nat) ∧ True) ∧ (a = a ∧ (n ≤ n ∨ Int.natAbs a < (2 : Nat) ^ n)) ∧ (b = b ∧ (m ≤ m ∨ Int.natAbs b < (2 : Nat) ^ m)) ∧ ((0 : Int) = (0 : Int) ∧ ((0 : Nat) ≤ (0 : Nat) ∨ Int.natAbs (0 : Int) < (2 : Nat) ^ (0 : Nat))) ∧ ((0 : Int) = (0 : Int) ∧ ((0 : Nat) ≤ (0 : Nat) ∨ Int.natAbs (0 : Int) < (2 : Nat) ^ (0 : Nat))) ∧ ((0 : Int) = (0 : Int) ∧ ((0 : Nat) ≤ (0 : Nat) ∨ Int.natAbs (0 : Int) < (2 : Nat) ^ (0 : Nat))) ∧ ((↑(Int.natAbs b) : Int) = (↑(Int.natAbs b) : Int) ∧ (m ≤ m ∨ Int.natAbs (↑(Int.natAbs b) : Int) < (2 : Nat) ^ m)) ∧ (a % (↑(Int.natAbs b) : Int) = BzS.x i ∧ (m ≤ m ∨ Int.natAbs (a % (↑(Int.natAbs b) : Int)) < (2 : Nat) ^ m)) ∧ ((↑(Int.natAbs b) : Int) = BzS.g i ∧ (m ≤ m ∨ Int.natAbs (↑(Int.natAbs b) : Int) < (2 : Nat) ^ m)) ∧ ((1 : Int) = BzS.v i ∧ ((64 : Nat) ≤ m + (1 : Nat) ∨ Int.natAbs (1 : Int) < (2 : Nat) ^ (m + (1 : Nat)))) ∧ ((0 : Int) = BzS.u i ∧ ((0 : Nat) ≤ m + (1 : Nat) ∨ Int.natAbs (0 : Int) < (2 : Nat) ^ (m + (1 : Nat)))) ∧ True) ∧ ∀ (i : BzS), BzI a b i → bif decide ((↑(List.length (limbs (Int.natAbs (BzS.x i)))) : Int) > (0 : Int)) then (m ≤ (900000 : Nat) ∧ m ≤ (900000 : Nat) ∧ (BzS.x i = (0 : Int) → False)) ∧ (m ≤ (1000000 : Nat) ∧ m + (1 : Nat) ≤ (1000000 : Nat)) ∧ (m + (1 : Nat) ≤ (1000000 : Nat) ∧ m + (m + (1 : Nat)) ≤ (1000000 : Nat)) ∧ ∃ j, BzI a b j ∧ (((0 : Nat) = (0 : Nat) ∧ (0 : Nat) = (0 : Nat) ∧ (0 : Nat) = (0 : Nat) ∧ (0 : Nat) = (0 : Nat) ∧ (0 : Nat) = (0 : Nat) ∧ (0 : Nat) = (0 : Nat) ∧ (0 : Nat) = (0 : Nat) ∧ (0 : Nat) = (0 : Nat) ∧ (0 : Nat) = (0 : Nat) ∧ (0 : Nat) = (0 : Nat) ∧ True) ∧ (a = a ∧ (n ≤ n ∨ Int.natAbs a < (2 : Nat) ^ n)) ∧ (b = b ∧ (m ≤ m ∨ Int.natAbs b < (2 : Nat) ^ m)) ∧ ((0 : Int) = (0 : Int) ∧ ((0 : Nat) ≤ (0 : Nat) ∨ Int.natAbs (0 : Int) < (2 : Nat) ^ (0 : Nat))) ∧ ((0 : Int) = (0 : Int) ∧ ((0 : Nat) ≤ (0 : Nat) ∨ Int.natAbs (0 : Int) < (2 : Nat) ^ (0 : Nat))) ∧ ((0 : Int) = (0 : Int) ∧ ((0 : Nat) ≤ (0 : Nat) ∨ Int.natAbs (0 : Int) < (2 : Nat) ^ (0 : Nat))) ∧ ((↑(Int.natAbs b) : Int) = (↑(Int.natAbs b) : Int) ∧ (m ≤ m ∨ Int.natAbs (↑(Int.natAbs b) : Int) < (2 : Nat) ^ m)) ∧ (BzS.g i % BzS.x i = BzS.x j ∧ (m ≤ m ∨ Int.natAbs (BzS.g i % BzS.x i) < (2 : Nat) ^ m)) ∧ (BzS.x i = BzS.g j ∧ (m ≤ m ∨ Int.natAbs (BzS.x i) < (2 : Nat) ^ m)) ∧ (BzS.u i - BzS.g i / BzS.x i * BzS.v i = BzS.v j ∧ (max (m + (1 : Nat)) (m + (m + (1 : Nat))) + (1 : Nat) ≤ m + (1 : Nat) ∨ Int.natAbs (BzS.u i - BzS.g i / BzS.x i * BzS.v i) < (2 : Nat) ^ (m + (1 : Nat)))) ∧ (BzS.v i = BzS.u j ∧ (m + (1 : Nat) ≤ m + (1 : Nat) ∨ Int.natAbs (BzS.v i) < (2 : Nat) ^ (m + (1 : Nat)))) ∧ True) ∧ Int.toNat (BzS.x j) < Int.toNat (BzS.x i) else (m ≤ (900000 : Nat) ∧ m ≤ (900000 : Nat) ∧ (BzS.g i = (0 : Int) → False)) ∧ (m + (1 : Nat) ≤ (900000 : Nat) ∧ m ≤ (900000 : Nat) ∧ ((↑(Int.natAbs b) : Int) / BzS.g i = (0 : Int) → False)) ∧ (m ≤ (1000000 : Nat) ∧ n ≤ (1000000 : Nat)) ∧ (m ≤ (1000000 : Nat) ∧ m + n ≤ (1000000 : Nat)) ∧ (max m (m + n) + (1 : Nat) ≤ (900000 : Nat) ∧ m ≤ (900000 : Nat) ∧ (b = (0 : Int) → False)) ∧ bif decide (b = (0 : Int)) then (BzS.g i = (↑(Int.natAbs a) : Int) ∧ (m ≤ n ∨ Int.natAbs (BzS.g i) < (2 : Nat) ^ n)) ∧ (BzS.u i % ((↑(Int.natAbs b) : Int) / BzS.g i) = sgn a ∧ (m ≤ (64 : Nat) ∨ Int.natAbs (BzS.u i % ((↑(Int.natAbs b) : Int) / BzS.g i)) < (2 : Nat) ^ (64 : Nat))) ∧ ((BzS.g i - BzS.u i % ((↑(Int.natAbs b) : Int) / BzS.g i) * a) / b = (0 : Int) ∧ (max m (m + n) + (1 : Nat) ≤ (0 : Nat) ∨ Int.natAbs ((BzS.g i - BzS.u i % ((↑(Int.natAbs b) : Int) / BzS.g i) * a) / b) < (2 : Nat) ^ (0 : Nat))) ∧ True else (BzS.g i = (↑(Int.gcd a b) : Int) ∧ (m ≤ m ∨ Int.natAbs (BzS.g i) < (2 : Nat) ^ m)) ∧ (BzS.u i % ((↑(Int.natAbs b) : Int) / BzS.g i) = bzu a b ∧ (m ≤ m ∨ Int.natAbs (BzS.u i % ((↑(Int.natAbs b) : Int) / BzS.g i)) < (2 : Nat) ^ m)) ∧ ((BzS.g i - BzS.u i % ((↑(Int.natAbs b) : Int) / BzS.g i) * a) / b = ((↑(Int.gcd a b) : Int) - bzu a b * a) / b ∧ (max m (m + n) + (1 : Nat) ≤ max m (m + n) + (1 : Nat) ∨ Int.natAbs ((BzS.g i - BzS.u i % ((↑(Int.natAbs b) : Int) / BzS.g i) * a) / b) < (2 : Nat) ^ (max m (m + n) + (1 : Nat)))) ∧ True) = evFn (env [c_rdivmod1, c_rmod, c_rdiv, c_rabs, c_rsign, c_rof, c_rsub, c_rmul] (a_rbez a b n m)) Tryd.f57 [.big a n, .big b m] (MRes.sat (.br (decide (b = 0)) (.ret (.tup [.big a.natAbs n, .big (sgn a) 64, .big 0 0])) (.ret (.tup [.big (Int.gcd a b) m, .big (bzu a b) m, .big (((Int.gcd a b : Int) - bzu a b * a) / b) (max m (m + n) + 1)])))) := by kernel_rfl

theorem emod_natAbs_right (a b : Int) : a % (b.natAbs : Int) = a % b := by
  rcases Int.natAbs_eq b with h | h
  · rw [← h]
  · rw [show ((b.natAbs : Nat) : Int) = -b by omega, Int.emod_neg]
theorem emod_absdiv {b g : Int} (u : Int) (hd : g ∣ b) : u % ((b.natAbs : Int) / g) = u % (b / g) := by
  rcases Int.natAbs_eq b with h | h
  · rw [← h]
  · rw [show ((b.natAbs : Nat) : Int) = -b by omega, Int.neg_ediv_of_dvd hd, Int.emod_neg]
theorem absdiv_ne {b g : Int} (hd : g ∣ b) (h : b / g ≠ 0) : (b.natAbs : Int) / g ≠ 0 := by
  rcases Int.natAbs_eq b with e | e
  · rw [← e]; exact h
  · rw [show ((b.natAbs : Nat) : Int) = -b by omega, Int.neg_ediv_of_dvd hd]; omega
theorem p_rbez : GoodF Tryd.f57 s_ibez := by
  intro ms p r h hp hf
  unfold s_ibez at h
  split at h
  · rename_i a n b m
    simp only [Option.some.injEq, Prod.mk.injEq] at h
    obtain ⟨rfl, rfl⟩ := h
    obtain ⟨hn, hm⟩ : n ≤ 300000 ∧ m ≤ 300000 := hp
    have ha : a.natAbs < 2 ^ n := hf.1
    have hb : b.natAbs < 2 ^ m := hf.2.1
    refine ⟨env [c_rdivmod1, c_rmod, c_rdiv, c_rabs, c_rsign, c_rof, c_rsub, c_rmul] (a_rbez a b n m), ?_⟩
    rw [← vc_rbez a b n m, len_zero_iff]
    have hs : -1 ≤ sgn a ∧ sgn a ≤ 1 := by unfold sgn; (repeat' split) <;> omega
    by_cases hz : b = 0
    · rw [show decide (b = 0) = true from decide_eq_true hz, cond_true, cond_true]
      exact ⟨by omega, by omega, ⟨rfl, .inl (Nat.le_refl _)⟩, ⟨rfl, .inl (Nat.le_refl _)⟩, ⟨rfl, .inl (Nat.le_refl _)⟩, True.intro⟩
    · rw [show decide (b = 0) = false from decide_eq_false hz, cond_false]
      have hr := natAbs_emod (a := a) hz
      have hi := BzI.init (a := a) hz
      rw [← emod_natAbs_right a b] at hr hi
      refine ⟨by omega, ⟨by omega, by omega, by omega⟩, by omega, ⟨_, hi, (by and_intros <;> first | exact True.intro | rfl | omega), ⟨rfl, .inl (Nat.le_refl _)⟩, ⟨rfl, .inl (Nat.le_refl _)⟩, ⟨rfl, .inl (Nat.le_refl _)⟩, ⟨rfl, .inl (Nat.le_refl _)⟩, ⟨rfl, .inl (Nat.le_refl _)⟩, ⟨rfl, .inl (Nat.le_refl _)⟩, ⟨rfl, .inl (Nat.le_refl _)⟩, ⟨rfl, .inl (Nat.le_refl _)⟩, ⟨rfl, .inr (by show (1 : Nat) < 2 ^ (m + 1); have := Nat.one_le_two_pow (n := m); rw [Nat.pow_succ]; omega)⟩, ⟨rfl, .inl (Nat.zero_le _)⟩, True.intro⟩, ?_⟩
      rintro ⟨g, x, u, v⟩ hI
      rw [len_pos_iff, Bool.cond_decide]
      split
      · rename_i hx
        have hx : x ≠ 0 := hx
        have hst := hI.step hx
        have hb1 : (u - g / x * v).natAbs ≤ b.natAbs := hst.bv
        have hl := natAbs_emod (a := g) hx
        have hl' : (g % x).toNat < x.toNat := by
          have h1 : 0 ≤ x ∧ x ≤ b.natAbs := hI.x0
          have h2 := Int.emod_nonneg g hx
          omega
        exact ⟨⟨by omega, by omega, hx⟩, ⟨by omega, by omega⟩, ⟨by omega, by omega⟩, _, hst, ⟨(by and_intros <;> first | exact True.intro | rfl | omega), ⟨rfl, .inl (Nat.le_refl _)⟩, ⟨rfl, .inl (Nat.le_refl _)⟩, ⟨rfl, .inl (Nat.le_refl _)⟩, ⟨rfl, .inl (Nat.le_refl _)⟩, ⟨rfl, .inl (Nat.le_refl _)⟩, ⟨rfl, .inl (Nat.le_refl _)⟩, ⟨rfl, .inl (Nat.le_refl _)⟩, ⟨rfl, .inl (Nat.le_refl _)⟩, ⟨rfl, .inr (by show (u - g / x * v).natAbs < 2 ^ (m + 1); rw [Nat.pow_succ]; omega)⟩, ⟨rfl, .inl (Nat.le_refl _)⟩, True.intro⟩, hl'⟩
      · rename_i hx
        have hx : x = 0 := by
          by_cases e : x = 0
          · exact e
          · exact absurd e hx
        obtain ⟨k1, k2, k3, k4, k5⟩ := hI.fin hz hx
        have hg0 : 0 < g ∧ g ≤ b.natAbs := hI.g0
        have k1 : g = (Int.gcd a b : Int) := k1
        have k2 : b / g ≠ 0 := k2
        have k3 : u % (b / g) = bzu a b := k3
        have k4 : (b / g).natAbs ≤ b.natAbs := k4
        have hd : g ∣ b := by rw [k1]; exact Int.gcd_dvd_right ..
        simp only []
        rw [emod_absdiv u hd, k3]
        refine ⟨⟨by omega, by omega, by omega⟩, ⟨by omega, by omega, absdiv_ne hd k2⟩, ⟨by omega, by omega⟩, ⟨by omega, by omega⟩, ⟨by omega, by omega, hz⟩, ?_⟩
        rw [cond_false]
        exact ⟨⟨k1, .inl (Nat.le_refl _)⟩, ⟨rfl, .inl (Nat.le_refl _)⟩, ⟨by rw [k1], .inl (by omega)⟩, True.intro⟩
  · simp at h
noncomputable def c_rbez : Ctr Tryd.prog := ⟨57, s_ibez, fun args w => Tryd.call57 args w, fn_ok_facts mix Tryd.func57 s_ibez p_rbez⟩

end Go.Proofs.YtcikhffhikgahaaDoor

/-
  Contracts of functions: the reference of layer 3.
-/
namespace Go.Proofs.YtcikhffhikgahaaDoor
open Go Go.RowKit

theorem sgn_gt0 {b : Int} : decide (sgn b > 0) = decide (0 < b) := by
  refine decide_eq_decide.2 ?_
  unfold sgn
  split <;> (try split) <;> omega
theorem sgn_lt0 {b : Int} : decide (sgn b < 0) = decide (b < 0) := by
  refine decide_eq_decide.2 ?_
  unfold sgn
  split <;> (try split) <;> omega
theorem sgn_le0' {b : Int} : decide (sgn b ≤ 0) = !decide (0 < b) := by
  unfold sgn
  by_cases h : b = 0
  · subst h; rfl
  · rw [if_neg h]
    by_cases h2 : b < 0
    · rw [if_pos h2, decide_eq_false (show ¬ 0 < b by omega)]; rfl
    · rw [if_neg h2, decide_eq_true (show 0 < b by omega)]; rfl

theorem vc_r3mod (a b : Int) (n m : Nat) : (bif decide (sgn b ≤ (0 : Int)) then ((0 : Int) = modV a b ∧ ((0 : Nat) ≤ m ∨ Int.natAbs (0 : Int) < (2 : Nat) ^ m)) ∧ (1 : Int) = modE b ∧ True else (n ≤ (900000 : Nat) ∧ m ≤ (900000 : Nat) ∧ (b = (0 : Int) → False)) ∧ (a % b = modV a b ∧ (m ≤ m ∨ Int.natAbs (a % b) < (2 : Nat) ^ m)) ∧ (0 : Int) = modE b ∧ True) = evFn (env [c_rsign, c_rmod] noAnn) Tryd.f21 [.big a n, .big b m] (MRes.sat (.ret (.tup [.big (modV a b) m, .int .i64 (modE b)]))) := by kernel_rfl
theorem p_r3mod : Good Tryd.f21 s_modU := by
  intro ms p r h hp
  unfold s_modU at h
  split at h
  · rename_i a n b m
    simp only [Option.some.injEq, Prod.mk.injEq] at h
    obtain ⟨rfl, rfl⟩ := h
    obtain ⟨h1, h2⟩ : n ≤ 900000 ∧ m ≤ 900000 := hp
    refine ⟨env [c_rsign, c_rmod] noAnn, ?_⟩
    rw [← vc_r3mod a b n m, sgn_le0']
    unfold modV modE
    by_cases hb : 0 < b
    · rw [decide_eq_true hb, if_pos hb, if_pos hb]
      exact ⟨⟨h1, h2, by omega⟩, ⟨rfl, .inl (Nat.le_refl _)⟩, rfl, True.intro⟩
    · rw [decide_eq_false hb, if_neg hb, if_neg hb]
      exact ⟨⟨rfl, .inl (Nat.zero_le _)⟩, rfl, True.intro⟩
  · simp at h
def c_r3mod : Ctr Tryd.prog := ⟨21, s_modU, fun args w => Tryd.call21 args w, fn_ok mix Tryd.func21 s_modU p_r3mod⟩

/-- Bezout, for a second number that is not 0. -/
noncomputable def c_rbez1 : Ctr Tryd.prog := c_rbez.weaken s_ibez1 w_ibez1
noncomputable def s_r3inv : FSpec
  | [.big a n, .big m k] => some (some (n ≤ 1000 ∧ k ≤ 1000), .ret (.tup [.big (invV a m) k, .int .i64 (invE a m)]))
  | _ => none
theorem vc_r3inv (a m : Int) (n k : Nat) : (bif decide (sgn m ≤ (0 : Int)) then ((0 : Int) = invV a m ∧ ((0 : Nat) ≤ k ∨ Int.natAbs (0 : Int) < (2 : Nat) ^ k)) ∧ (1 : Int) = invE a m ∧ True else (n ≤ (900000 : Nat) ∧ k ≤ (900000 : Nat) ∧ (m = (0 : Int) → False)) ∧ (k ≤ (300000 : Nat) ∧ k ≤ (300000 : Nat) ∧ (m = (0 : Int) → False)) ∧ ((-9223372036854775808 : Int) ≤ (1 : Int) ∧ (1 : Int) ≤ (9223372036854775807 : Int)) ∧ (k ≤ (1000000 : Nat) ∧ (64 : Nat) ≤ (1000000 : Nat)) ∧ bif !decide ((↑(Int.gcd (a % m) m) : Int) = (1 : Int)) then ((0 : Int) = invV a m ∧ ((0 : Nat) ≤ k ∨ Int.natAbs (0 : Int) < (2 : Nat) ^ k)) ∧ (4 : Int) = invE a m ∧ True else (k ≤ (900000 : Nat) ∧ k ≤ (900000 : Nat) ∧ (m = (0 : Int) → False)) ∧ (bzu (a % m) m % m = invV a m ∧ (k ≤ k ∨ Int.natAbs (bzu (a % m) m % m) < (2 : Nat) ^ k)) ∧ (0 : Int) = invE a m ∧ True) = evFn (env [c_rsign, c_rmod, c_rbez1, c_rof, c_rsame] noAnn) Tryd.f23 [.big a n, .big m k] (MRes.sat (.ret (.tup [.big (invV a m) k, .int .i64 (invE a m)]))) := by kernel_rfl
theorem p_r3inv : Good Tryd.f23 s_r3inv := by
  intro ms p r h hp
  unfold s_r3inv at h
  split at h
  · rename_i a n m k
    simp only [Option.some.injEq, Prod.mk.injEq] at h
    obtain ⟨rfl, rfl⟩ := h
    obtain ⟨h1, h2⟩ : n ≤ 1000 ∧ k ≤ 1000 := hp
    refine ⟨env [c_rsign, c_rmod, c_rbez1, c_rof, c_rsame] noAnn, ?_⟩
    rw [← vc_r3inv a m n k, sgn_le0', gcd_mod]
    unfold invV invE
    by_cases hm : 0 < m
    · rw [decide_eq_true hm, if_pos hm, if_pos hm]
      refine ⟨⟨by omega, by omega, by omega⟩, ⟨by omega, by omega, by omega⟩, by omega, ⟨by omega, by omega⟩, ?_⟩
      by_cases hg : Int.gcd a m = 1
      · rw [show decide ((Int.gcd a m : Int) = 1) = true from decide_eq_true (by omega), if_pos hg, if_pos hg]
        exact ⟨⟨by omega, by omega, by omega⟩, ⟨rfl, .inl (Nat.le_refl _)⟩, rfl, True.intro⟩
      · rw [show decide ((Int.gcd a m : Int) = 1) = false from decide_eq_false (by omega), if_neg hg, if_neg hg]
        exact ⟨⟨rfl, .inl (Nat.zero_le _)⟩, rfl, True.intro⟩
    · rw [decide_eq_false hm, if_neg hm, if_neg hm]
      exact ⟨⟨rfl, .inl (Nat.zero_le _)⟩, rfl, True.intro⟩
  · simp at h
noncomputable def c_r3inv : Ctr Tryd.prog := ⟨23, s_r3inv, fun args w => Tryd.call23 args w, fn_ok mix Tryd.func23 s_r3inv p_r3inv⟩

def s_r3bit : FSpec
  | [.big a n, .int .i64 i] => some (some (n ≤ 1000000 ∧ 0 ≤ i ∧ i.toNat < bl a.natAbs), .ret (.bool (decide (a.natAbs / 2 ^ i.toNat % 2 = 1))))
  | _ => none
theorem vc_r3bit (a : Int) (i n : Nat) : (((32 : Int) = (0 : Int) → False) ∧ ((0 : Int) ≤ IntKind.wrap IntKind.i64 (Int.tdiv (↑i : Int) (32 : Int)) ∧ IntKind.wrap IntKind.i64 (Int.tdiv (↑i : Int) (32 : Int)) < (↑(List.length (limbs (Int.natAbs a))) : Int)) ∧ ((32 : Int) = (0 : Int) → False) ∧ (0 : Int) ≤ IntKind.wrap IntKind.u64 (Int.tmod (↑i : Int) (32 : Int)) ∧ (IntKind.wrap IntKind.u32 (↑(BitVec.toNat (BitVec.ofInt (IntKind.bits IntKind.u32) (Int.fdiv (List.getD (limbs (Int.natAbs a)) (Int.toNat (IntKind.wrap IntKind.i64 (Int.tdiv (↑i : Int) (32 : Int)))) (0 : Int)) ((2 : Int) ^ min (Int.toNat (IntKind.wrap IntKind.u64 (Int.tmod (↑i : Int) (32 : Int)))) (IntKind.bits IntKind.u32))) &&& BitVec.ofInt (IntKind.bits IntKind.u32) (1 : Int))) : Int) == (1 : Int)) = decide (Int.natAbs a / (2 : Nat) ^ i % (2 : Nat) = (1 : Nat))) = evFn (env [] noAnn) Tryd.f85 [.big a n, .int .i64 i] (MRes.sat (.ret (.bool (decide (a.natAbs / 2 ^ i % 2 = 1))))) := by kernel_rfl
theorem p_r3bit : GoodF Tryd.f85 s_r3bit := by
  intro ms p r h hp hf
  unfold s_r3bit at h
  split at h
  · rename_i a n i0
    simp only [Option.some.injEq, Prod.mk.injEq] at h
    obtain ⟨rfl, rfl⟩ := h
    obtain ⟨h1, h2, h3⟩ : n ≤ 1000000 ∧ 0 ≤ i0 ∧ i0.toNat < bl a.natAbs := hp
    have ha : a.natAbs < 2 ^ n := hf.1
    obtain ⟨i, rfl⟩ := Int.eq_ofNat_of_zero_le h2
    rw [Int.toNat_natCast] at h3
    have hbl := bl_le_of ha
    refine ⟨env [] noAnn, ?_⟩
    rw [show ((i : Int)).toNat = i from rfl, ← vc_r3bit a i n]
    have e2 : Int.tdiv (i : Int) 32 = ((i / 32 : Nat) : Int) := rfl
    have e3 : Int.tmod (i : Int) 32 = ((i % 32 : Nat) : Int) := rfl
    have e4 : IntKind.wrap IntKind.i64 ((i / 32 : Nat) : Int) = ((i / 32 : Nat) : Int) := i64w (by omega) (by omega)
    have e5 : IntKind.wrap IntKind.u64 ((i % 32 : Nat) : Int) = ((i % 32 : Nat) : Int) := eu64 (by omega)
    have hidx := limbs_idx h3
    rw [e2, e3, e4, e5, Int.toNat_natCast, Int.toNat_natCast, bit_word]
    exact ⟨by omega, ⟨by omega, by omega⟩, by omega, by omega, rfl⟩
  · simp at h
def c_r3bit : Ctr Tryd.prog := ⟨85, s_r3bit, fun args w => Tryd.call85 args w, fn_ok_facts mix Tryd.func85 s_r3bit p_r3bit⟩

/-! ### Power, Pow -/
def s_r3power : FSpec
  | [.big a n, .big e k, .big m l] => some (some (n ≤ 10000 ∧ k ≤ 10000 ∧ l ≤ 10000 ∧ 0 < m), .ret (.big (pwm a e.natAbs m) l))
  | _ => none
structure R3pS where
  q : Nat
  x : Int
structure R3pI (a : Int) (e : Nat) (m : Int) (s : R3pS) : Prop where
  q : s.q ≤ bl e
  x : s.x = pwm a (e / 2 ^ s.q) m
def a_r3power (a e m : Int) (n k l : Nat) : Nat → MS → Option LoopAnn
  | 3, _ => some (.inv R3pS (R3pI a e.natAbs m) (fun s => ⟨33, [(3, .bp 0 0), (4, .bp 1 0), (5, .bp 2 0), (6, .bp 3 0), (7, .bp 4 0), (8, .int .i64 ((s.q : Int) - 1))], [⟨false, .one (.big a n)⟩, ⟨false, .one (.big e k)⟩, ⟨false, .one (.big m l)⟩, ⟨false, .one (.big 0 0)⟩, ⟨false, .one (.big s.x l)⟩], 0⟩) (fun s => s.q))
  | _, _ => none
theorem vc_r3power (a e m : Int) (n k l : Nat) : (((-9223372036854775808 : Int) ≤ (1 : Int) ∧ (1 : Int) ≤ (9223372036854775807 : Int)) ∧ ((64 : Nat) ≤ (900000 : Nat) ∧ l ≤ (900000 : Nat) ∧ (m = (0 : Int) → False)) ∧ k ≤ (1000000 : Nat) ∧ (∃ i, R3pI a (Int.natAbs e) m i ∧ ((0 : Nat) = (0 : Nat) ∧ (0 : Nat) = (0 : Nat) ∧ (0 : Nat) = (0 : Nat) ∧ (0 : Nat) = (0 : Nat) ∧ (0 : Nat) = (0 : Nat) ∧ IntKind.wrap IntKind.i64 ((↑(bl (Int.natAbs e)) : Int) - (1 : Int)) = (↑(R3pS.q i) : Int) - (1 : Int) ∧ True) ∧ (a = a ∧ (n ≤ n ∨ Int.natAbs a < (2 : Nat) ^ n)) ∧ (e = e ∧ (k ≤ k ∨ Int.natAbs e < (2 : Nat) ^ k)) ∧ (m = m ∧ (l ≤ l ∨ Int.natAbs m < (2 : Nat) ^ l)) ∧ ((0 : Int) = (0 : Int) ∧ ((0 : Nat) ≤ (0 : Nat) ∨ Int.natAbs (0 : Int) < (2 : Nat) ^ (0 : Nat))) ∧ ((1 : Int) % m = R3pS.x i ∧ (l ≤ l ∨ Int.natAbs ((1 : Int) % m) < (2 : Nat) ^ l)) ∧ True) ∧ ∀ (i : R3pS), R3pI a (Int.natAbs e) m i → bif decide ((↑(R3pS.q i) : Int) - (1 : Int) ≥ (0 : Int)) then (l ≤ (1000000 : Nat) ∧ l ≤ (1000000 : Nat)) ∧ (l + l ≤ (900000 : Nat) ∧ l ≤ (900000 : Nat) ∧ (m = (0 : Int) → False)) ∧ (k ≤ (1000000 : Nat) ∧ (0 : Int) ≤ (↑(R3pS.q i) : Int) - (1 : Int) ∧ Int.toNat ((↑(R3pS.q i) : Int) - (1 : Int)) < bl (Int.natAbs e)) ∧ bif decide (Int.natAbs e / (2 : Nat) ^ Int.toNat ((↑(R3pS.q i) : Int) - (1 : Int)) % (2 : Nat) = (1 : Nat)) then (l ≤ (1000000 : Nat) ∧ n ≤ (1000000 : Nat)) ∧ (l + n ≤ (900000 : Nat) ∧ l ≤ (900000 : Nat) ∧ (m = (0 : Int) → False)) ∧ ∃ j, R3pI a (Int.natAbs e) m j ∧ (((0 : Nat) = (0 : Nat) ∧ (0 : Nat) = (0 : Nat) ∧ (0 : Nat) = (0 : Nat) ∧ (0 : Nat) = (0 : Nat) ∧ (0 : Nat) = (0 : Nat) ∧ IntKind.wrap IntKind.i64 ((↑(R3pS.q i) : Int) - (1 : Int) - (1 : Int)) = (↑(R3pS.q j) : Int) - (1 : Int) ∧ True) ∧ (a = a ∧ (n ≤ n ∨ Int.natAbs a < (2 : Nat) ^ n)) ∧ (e = e ∧ (k ≤ k ∨ Int.natAbs e < (2 : Nat) ^ k)) ∧ (m = m ∧ (l ≤ l ∨ Int.natAbs m < (2 : Nat) ^ l)) ∧ ((0 : Int) = (0 : Int) ∧ ((0 : Nat) ≤ (0 : Nat) ∨ Int.natAbs (0 : Int) < (2 : Nat) ^ (0 : Nat))) ∧ (R3pS.x i * R3pS.x i % m * a % m = R3pS.x j ∧ (l ≤ l ∨ Int.natAbs (R3pS.x i * R3pS.x i % m * a % m) < (2 : Nat) ^ l)) ∧ True) ∧ R3pS.q j < R3pS.q i else ∃ j, R3pI a (Int.natAbs e) m j ∧ (((0 : Nat) = (0 : Nat) ∧ (0 : Nat) = (0 : Nat) ∧ (0 : Nat) = (0 : Nat) ∧ (0 : Nat) = (0 : Nat) ∧ (0 : Nat) = (0 : Nat) ∧ IntKind.wrap IntKind.i64 ((↑(R3pS.q i) : Int) - (1 : Int) - (1 : Int)) = (↑(R3pS.q j) : Int) - (1 : Int) ∧ True) ∧ (a = a ∧ (n ≤ n ∨ Int.natAbs a < (2 : Nat) ^ n)) ∧ (e = e ∧ (k ≤ k ∨ Int.natAbs e < (2 : Nat) ^ k)) ∧ (m = m ∧ (l ≤ l ∨ Int.natAbs m < (2 : Nat) ^ l)) ∧ ((0 : Int) = (0 : Int) ∧ ((0 : Nat) ≤ (0 : Nat) ∨ Int.natAbs (0 : Int) < (2 : Nat) ^ (0 : Nat))) ∧ (R3pS.x i * R3pS.x i % m = R3pS.x j ∧ (l ≤ l ∨ Int.natAbs (R3pS.x i * R3pS.x i % m) < (2 : Nat) ^ l)) ∧ True) ∧ R3pS.q j < R3pS.q i else R3pS.x i = pwm a (Int.natAbs e) m ∧ (l ≤ l ∨ Int.natAbs (R3pS.x i) < (2 : Nat) ^ l)) = evFn (env [c_rof, c_rmod, c_rbits, c_rmul, c_r3bit] (a_r3power a e m n k l)) Tryd.f58 [.big a n, .big e k, .big m l] (MRes.sat (.ret (.big (pwm a e.natAbs m) l))) := by kernel_rfl
theorem pwm_sq (a m : Int) (q : Nat) : pwm a q m * pwm a q m % m = pwm a (2 * q) m := by rw [pwm_mul, Nat.two_mul]
theorem pwm_sq1 (a m : Int) (q : Nat) : pwm a q m * pwm a q m % m * a % m = pwm a (2 * q + 1) m := by
  rw [pwm_sq]
  unfold pwm
  rw [Int.pow_succ, Int.mul_emod, Int.emod_emod_of_dvd _ (Int.dvd_refl m), ← Int.mul_emod]
theorem p_r3power : GoodF Tryd.f58 s_r3power := by
  intro ms p r h hp hf
  unfold s_r3power at h
  split at h
  · rename_i a n e k m l
    simp only [Option.some.injEq, Prod.mk.injEq] at h
    obtain ⟨rfl, rfl⟩ := h
    obtain ⟨h1, h2, h3, hm⟩ : n ≤ 10000 ∧ k ≤ 10000 ∧ l ≤ 10000 ∧ 0 < m := hp
    have he : e.natAbs < 2 ^ k := hf.2.1
    refine ⟨env [c_rof, c_rmod, c_rbits, c_rmul, c_r3bit] (a_r3power a e m n k l), ?_⟩
    rw [← vc_r3power a e m n k l]
    generalize hN : e.natAbs = N at *
    have hbl : bl N ≤ k := bl_le_of he
    have e0 : IntKind.wrap IntKind.i64 ((bl N : Int) - 1) = (bl N : Int) - 1 := i64w (by omega) (by omega)
    refine ⟨by omega, ⟨by omega, by omega, by omega⟩, by omega, ⟨⟨bl N, 1 % m⟩, ⟨Nat.le_refl _, ?_⟩, ?_⟩, ?_⟩
    · show 1 % m = pwm a (N / 2 ^ bl N) m
      rw [Nat.div_eq_of_lt (bl_lt N), pwm_zero]
    · and_intros <;> first | exact True.intro | exact e0 | rfl | exact .inl (Nat.le_refl _)
    rintro ⟨q, x⟩ hI
    have hq : q ≤ bl N := hI.q
    have hx : x = pwm a (N / 2 ^ q) m := hI.x
    clear hI
    dsimp only
    rw [Bool.cond_decide]
    split
    · rename_i hc
      obtain ⟨c, rfl⟩ : ∃ c, q = c + 1 := ⟨q - 1, by omega⟩
      have e1 : ((c + 1 : Nat) : Int) - 1 = (c : Nat) := by omega
      have e5 : IntKind.wrap IntKind.i64 ((c : Nat) - 1 : Int) = (c : Nat) - 1 := i64w (by omega) (by omega)
      have e7 : N / 2 ^ c = 2 * (N / 2 ^ (c + 1)) + N / 2 ^ c % 2 := by
        rw [Nat.pow_succ, ← Nat.div_div_eq_div_mul]; omega
      rw [e1, e5, Int.toNat_natCast]
      refine ⟨⟨by omega, by omega⟩, ⟨by omega, by omega, by omega⟩, ⟨by omega, by omega, by omega⟩, ?_⟩
      by_cases hb : N / 2 ^ c % 2 = 1
      · rw [decide_eq_true hb, cond_true]
        refine ⟨⟨by omega, by omega⟩, ⟨by omega, by omega, by omega⟩, ⟨c, x * x % m * a % m⟩, ⟨by show c ≤ bl N; omega, ?_⟩, ?_, by show c < c + 1; omega⟩
        · show x * x % m * a % m = pwm a (N / 2 ^ c) m
          rw [hx, pwm_sq1]
          congr 1; omega
        · and_intros <;> first | exact True.intro | rfl | exact .inl (Nat.le_refl _)
      · rw [decide_eq_false hb, cond_false]
        refine ⟨⟨c, x * x % m⟩, ⟨by show c ≤ bl N; omega, ?_⟩, ?_, by show c < c + 1; omega⟩
        · show x * x % m = pwm a (N / 2 ^ c) m
          rw [hx, pwm_sq]
          congr 1; omega
        · and_intros <;> first | exact True.intro | rfl | exact .inl (Nat.le_refl _)
    · rename_i hc
      have : q = 0 := by omega
      subst this
      rw [Nat.pow_zero, Nat.div_one] at hx
      exact ⟨hx, .inl (Nat.le_refl _)⟩
  · simp at h
def c_r3power : Ctr Tryd.prog := ⟨58, s_r3power, fun args w => Tryd.call58 args w, fn_ok_facts mix Tryd.func58 s_r3power p_r3power⟩

theorem pwm_mod (a m : Int) (e : Nat) : pwm (a % m) e m = pwm a e m := by
  induction e with
  | zero => rw [pwm_zero, pwm_zero]
  | succ e ih =>
    rw [← pwm_mul, ← pwm_mul, ih, pwm_one, pwm_one, Int.emod_emod_of_dvd _ (Int.dvd_refl m)]
noncomputable def s_r3pow : FSpec
  | [.big a n, .big e k, .big m l] => some (some (n ≤ 1000 ∧ k ≤ 1000 ∧ l ≤ 1000), .ret (.tup [.big (powV a e m) l, .int .i64 (powE a e m)]))
  | _ => none
theorem vc_r3pow (a e m : Int) (n k l : Nat) : (bif decide (sgn m ≤ (0 : Int)) then ((0 : Int) = powV a e m ∧ ((0 : Nat) ≤ l ∨ Int.natAbs (0 : Int) < (2 : Nat) ^ l)) ∧ (1 : Int) = powE a e m ∧ True else bif decide (sgn e < (0 : Int)) then (n ≤ (1000 : Nat) ∧ l ≤ (1000 : Nat)) ∧ bif invE a m != (0 : Int) then ((0 : Int) = powV a e m ∧ ((0 : Nat) ≤ l ∨ Int.natAbs (0 : Int) < (2 : Nat) ^ l)) ∧ invE a m = powE a e m ∧ True else k ≤ (1000000 : Nat) ∧ (l ≤ (10000 : Nat) ∧ k ≤ (10000 : Nat) ∧ l ≤ (10000 : Nat) ∧ (0 : Int) < m) ∧ (pwm (invV a m) (Int.natAbs (-e)) m = powV a e m ∧ (l ≤ l ∨ Int.natAbs (pwm (invV a m) (Int.natAbs (-e)) m) < (2 : Nat) ^ l)) ∧ (0 : Int) = powE a e m ∧ True else (n ≤ (900000 : Nat) ∧ l ≤ (900000 : Nat) ∧ (m = (0 : Int) → False)) ∧ (l ≤ (10000 : Nat) ∧ k ≤ (10000 : Nat) ∧ l ≤ (10000 : Nat) ∧ (0 : Int) < m) ∧ (pwm (a % m) (Int.natAbs e) m = powV a e m ∧ (l ≤ l ∨ Int.natAbs (pwm (a % m) (Int.natAbs e) m) < (2 : Nat) ^ l)) ∧ (0 : Int) = powE a e m ∧ True) = evFn (env [c_rsign, c_r3inv, c_rneg, c_r3power, c_rmod] noAnn) Tryd.f24 [.big a n, .big e k, .big m l] (MRes.sat (.ret (.tup [.big (powV a e m) l, .int .i64 (powE a e m)]))) := by kernel_rfl

/-! ### small, two -/
def s_small : FSpec
  | [.big a n, .int .i64 m] => some (some (n ≤ 900000 ∧ 0 < m ∧ m ≤ 4611686018427387904), .ret (.int .i64 (a % m)))
  | _ => none
theorem vc_small (a m : Int) (n : Nat) : (((-9223372036854775808 : Int) ≤ m ∧ m ≤ (9223372036854775807 : Int)) ∧ (n ≤ (900000 : Nat) ∧ (64 : Nat) ≤ (900000 : Nat) ∧ (m = (0 : Int) → False)) ∧ Int.natAbs (a % m) < (9223372036854775808 : Nat) ∧ a % m = a % m) = evFn (env [c_rof, c_rmod, c_rlow] noAnn) Tryd.f53 [.big a n, .int .i64 m] (MRes.sat (.ret (.int .i64 (a % m)))) := by kernel_rfl
theorem p_small : Good Tryd.f53 s_small := by
  intro ms p r h hp
  unfold s_small at h
  split at h
  · rename_i a n m
    simp only [Option.some.injEq, Prod.mk.injEq] at h
    obtain ⟨rfl, rfl⟩ := h
    obtain ⟨h1, h2, h3⟩ : n ≤ 900000 ∧ 0 < m ∧ m ≤ 4611686018427387904 := hp
    have hm0 := Int.emod_nonneg a (show m ≠ 0 by omega)
    have hm1 := Int.emod_lt_of_pos a h2
    refine ⟨env [c_rof, c_rmod, c_rlow] noAnn, ?_⟩
    rw [← vc_small a m n]
    exact ⟨⟨by omega, by omega⟩, ⟨by omega, by omega, by omega⟩, by omega, rfl⟩
  · simp at h
def c_small : Ctr Tryd.prog := ⟨53, s_small, fun args w => Tryd.call53 args w, fn_ok mix Tryd.func53 s_small p_small⟩
def s_r3two : FSpec
  | [.big a n] => some (some (n ≤ 900000), .ret (.int .i64 (two8 a)))
  | _ => none
theorem vc_r3two (a : Int) (n : Nat) : ((n ≤ (900000 : Nat) ∧ (0 : Int) < (8 : Int) ∧ (8 : Int) ≤ (4611686018427387904 : Int)) ∧ ((2 : Int) = (0 : Int) → False) ∧ bif Int.tmod (a % (8 : Int)) (2 : Int) == (0 : Int) then (0 : Int) = two8 a else bif a % (8 : Int) == (3 : Int) then (-1 : Int) = two8 a else bif a % (8 : Int) == (5 : Int) then (-1 : Int) = two8 a else (1 : Int) = two8 a) = evFn (env [c_small] noAnn) Tryd.f62 [.big a n] (MRes.sat (.ret (.int .i64 (two8 a)))) := by kernel_rfl

theorem p_r3pow : Good Tryd.f24 s_r3pow := by
  intro ms p r h hp
  unfold s_r3pow at h
  split at h
  · rename_i a n e k m l
    simp only [Option.some.injEq, Prod.mk.injEq] at h
    obtain ⟨rfl, rfl⟩ := h
    obtain ⟨h1, h2, h3⟩ : n ≤ 1000 ∧ k ≤ 1000 ∧ l ≤ 1000 := hp
    refine ⟨env [c_rsign, c_r3inv, c_rneg, c_r3power, c_rmod] noAnn, ?_⟩
    rw [← vc_r3pow a e m n k l, sgn_le0', sgn_lt0]
    unfold powV powE invV invE
    by_cases hm : 0 < m
    · rw [decide_eq_true hm, if_pos hm, if_pos hm, if_pos hm, if_pos hm, Bool.not_true, cond_false]
      by_cases he : e < 0
      · rw [decide_eq_true he, cond_true]
        refine ⟨by omega, ?_⟩
        by_cases hg : Int.gcd a m = 1
        · rw [if_pos hg, if_pos hg, if_neg (fun h => h.2 hg), if_neg (fun h => h.2 hg)]
          refine ⟨by omega, ⟨by omega, by omega, by omega, hm⟩, ⟨?_, .inl (Nat.le_refl _)⟩, rfl, True.intro⟩
          show pwm (minv a m) (-e).natAbs m = powR a e m
          unfold powR
          rw [if_pos he, Int.natAbs_neg]
        · rw [if_neg hg, if_neg hg, if_pos ⟨he, hg⟩, if_pos ⟨he, hg⟩]
          exact ⟨⟨rfl, .inl (Nat.zero_le _)⟩, rfl, True.intro⟩
      · rw [decide_eq_false he, cond_false, if_neg (fun h => he h.1), if_neg (fun h => he h.1)]
        refine ⟨⟨by omega, by omega, by omega⟩, ⟨by omega, by omega, by omega, hm⟩, ⟨?_, .inl (Nat.le_refl _)⟩, rfl, True.intro⟩
        show pwm (a % m) e.natAbs m = powR a e m
        unfold powR
        rw [if_neg he, pwm_mod]
    · rw [decide_eq_false hm, if_neg hm, if_neg hm]
      exact ⟨⟨rfl, .inl (Nat.zero_le _)⟩, rfl, True.intro⟩
  · simp at h
noncomputable def c_r3pow : Ctr Tryd.prog := ⟨24, s_r3pow, fun args w => Tryd.call24 args w, fn_ok mix Tryd.func24 s_r3pow p_r3pow⟩
theorem p_r3two : Good Tryd.f62 s_r3two := by
  intro ms p r h hp
  unfold s_r3two at h
  split at h
  · rename_i a n
    simp only [Option.some.injEq, Prod.mk.injEq] at h
    obtain ⟨rfl, rfl⟩ := h
    have h1 : n ≤ 900000 := hp
    refine ⟨env [c_small] noAnn, ?_⟩
    rw [← vc_r3two a n]
    have h8 : 0 ≤ a % 8 ∧ a % 8 < 8 := by omega
    unfold two8
    refine ⟨by omega, ?_⟩
    generalize a % 8 = r at *
    rcases (show r = 0 ∨ r = 1 ∨ r = 2 ∨ r = 3 ∨ r = 4 ∨ r = 5 ∨ r = 6 ∨ r = 7 by omega) with h | h | h | h | h | h | h | h <;> subst h <;> exact ⟨by omega, rfl⟩
  · simp at h
def c_r3two : Ctr Tryd.prog := ⟨62, s_r3two, fun args w => Tryd.call62 args w, fn_ok mix Tryd.func62 s_r3two p_r3two⟩
/-! ### Kronecker -/
structure KnI (a r : Int) (m : Nat) (s : KcS) : Prop where
  k : s.k = 1 ∨ s.k = -1
  pos : 0 < s.n
  bn : s.n.natAbs < 2 ^ m
  val : s.k * kr a s.n.natAbs = r
structure KbI (a b : Int) (s : KcS) : Prop where
  k : s.k = if b < 0 ∧ a < 0 then -1 else 1
  n : s.n = b
structure KrJ (r : Int) (N : Nat) (A Q : Int) (s : KrS) : Prop where
  i : KrI r N s
  a : (s.a : Int) ≤ A
  n : (s.n : Int) = Q
  ne : s.a ≠ 0
def rkS (m : Nat) (s : KrS) : MS := ⟨72, [(2, .bp 0 0), (3, .bp 1 0), (5, .int .i64 s.k)], [⟨false, .one (.big s.a m)⟩, ⟨false, .one (.big s.n m)⟩], 0⟩
def rkC (a : Int) (n m : Nat) (s : KcS) : MS := ⟨72, [(2, .bp 0 0), (3, .bp 1 0), (5, .int .i64 s.k)], [⟨false, .one (.big a n)⟩, ⟨false, .one (.big s.n m)⟩], 0⟩
def a_r3kron (a r : Int) (n m : Nat) : Nat → MS → Option LoopAnn
  | 9, _ => some (.inv KcS (KnI a r m) (rkC a n m) (fun s => s.n.natAbs))
  | 15, _ => some (.inv KrS (KrI r m) (rkS m) (fun s => s.a))
  | 16, s => (match s.bx with
    | ⟨_, .one (.big A _)⟩ :: ⟨_, .one (.big Q _)⟩ :: _ => some (.inv KrS (KrJ r m A Q) (rkS m) (fun s => s.a))
    | _ => none)
  | _, _ => none
def k_r3kron (a b : Int) (n m : Nat) : Nat → MS → Option CutAnn
  | 8, _ => some (.mk KcS (KbI a b) (rkC a n m))
  | _, _ => none
theorem vc_r3kron (a b : Int) (n m : Nat) : (bif sgn b == (0 : Int) then n ≤ (1000000 : Nat) ∧ ((-9223372036854775808 : Int) ≤ (1 : Int) ∧ (1 : Int) ≤ (9223372036854775807 : Int)) ∧ (n ≤ (1000000 : Nat) ∧ (64 : Nat) ≤ (1000000 : Nat)) ∧ bif decide ((↑(Int.natAbs a) : Int) = (1 : Int)) then (1 : Int) = kro a b else (0 : Int) = kro a b else (bif decide (sgn b < (0 : Int)) then bif decide (sgn a < (0 : Int)) then ∃ i, KbI a b i ∧ ((0 : Nat) = (0 : Nat) ∧ (0 : Nat) = (0 : Nat) ∧ (-1 : Int) = KcS.k i ∧ True) ∧ (a = a ∧ (n ≤ n ∨ Int.natAbs a < (2 : Nat) ^ n)) ∧ (b = KcS.n i ∧ (m ≤ m ∨ Int.natAbs b < (2 : Nat) ^ m)) ∧ True else ∃ i, KbI a b i ∧ ((0 : Nat) = (0 : Nat) ∧ (0 : Nat) = (0 : Nat) ∧ (1 : Int) = KcS.k i ∧ True) ∧ (a = a ∧ (n ≤ n ∨ Int.natAbs a < (2 : Nat) ^ n)) ∧ (b = KcS.n i ∧ (m ≤ m ∨ Int.natAbs b < (2 : Nat) ^ m)) ∧ True else ∃ i, KbI a b i ∧ ((0 : Nat) = (0 : Nat) ∧ (0 : Nat) = (0 : Nat) ∧ (1 : Int) = KcS.k i ∧ True) ∧ (a = a ∧ (n ≤ n ∨ Int.natAbs a < (2 : Nat) ^ n)) ∧ (b = KcS.n i ∧ (m ≤ m ∨ Int.natAbs b < (2 : Nat) ^ m)) ∧ True) ∧ ∀ (i : KcS), KbI a b i → m ≤ (1000000 : Nat) ∧ (∃ i_1, KnI a (kro a b) m i_1 ∧ ((0 : Nat) = (0 : Nat) ∧ (0 : Nat) = (0 : Nat) ∧ KcS.k i = KcS.k i_1 ∧ True) ∧ (a = a ∧ (n ≤ n ∨ Int.natAbs a < (2 : Nat) ^ n)) ∧ ((↑(Int.natAbs (KcS.n i)) : Int) = KcS.n i_1 ∧ (m ≤ m ∨ Int.natAbs (↑(Int.natAbs (KcS.n i)) : Int) < (2 : Nat) ^ m)) ∧ True) ∧ ∀ (i : KcS), KnI a (kro a b) m i → (m ≤ (900000 : Nat) ∧ (0 : Int) < (2 : Int) ∧ (2 : Int) ≤ (4611686018427387904 : Int)) ∧ bif KcS.n i % (2 : Int) == (0 : Int) then n ≤ (900000 : Nat) ∧ ((-9223372036854775808 : Int) ≤ (2 : Int) ∧ (2 : Int) ≤ (9223372036854775807 : Int)) ∧ (m ≤ (900000 : Nat) ∧ (64 : Nat) ≤ (900000 : Nat) ∧ ((2 : Int) = (0 : Int) → False)) ∧ bif IntKind.wrap IntKind.i64 (KcS.k i * two8 a) == (0 : Int) then (0 : Int) = kro a b else ∃ j, KnI a (kro a b) m j ∧ (((0 : Nat) = (0 : Nat) ∧ (0 : Nat) = (0 : Nat) ∧ IntKind.wrap IntKind.i64 (KcS.k i * two8 a) = KcS.k j ∧ True) ∧ (a = a ∧ (n ≤ n ∨ Int.natAbs a < (2 : Nat) ^ n)) ∧ (KcS.n i / (2 : Int) = KcS.n j ∧ (m ≤ m ∨ Int.natAbs (KcS.n i / (2 : Int)) < (2 : Nat) ^ m)) ∧ True) ∧ Int.natAbs (KcS.n j) < Int.natAbs (KcS.n i) else (n ≤ (900000 : Nat) ∧ m ≤ (900000 : Nat) ∧ (KcS.n i = (0 : Int) → False)) ∧ (∃ i_1, KrI (kro a b) m i_1 ∧ ((0 : Nat) = (0 : Nat) ∧ (0 : Nat) = (0 : Nat) ∧ KcS.k i = KrS.k i_1 ∧ True) ∧ (a % KcS.n i = (↑(KrS.a i_1) : Int) ∧ (m ≤ m ∨ Int.natAbs (a % KcS.n i) < (2 : Nat) ^ m)) ∧ (KcS.n i = (↑(KrS.n i_1) : Int) ∧ (m ≤ m ∨ Int.natAbs (KcS.n i) < (2 : Nat) ^ m)) ∧ True) ∧ ∀ (i : KrS), KrI (kro a b) m i → bif sgn (↑(KrS.a i) : Int) != (0 : Int) then (∃ i_1, KrJ (kro a b) m (↑(KrS.a i) : Int) (↑(KrS.n i) : Int) i_1 ∧ ((0 : Nat) = (0 : Nat) ∧ (0 : Nat) = (0 : Nat) ∧ KrS.k i = KrS.k i_1 ∧ True) ∧ ((↑(KrS.a i) : Int) = (↑(KrS.a i_1) : Int) ∧ (m ≤ m ∨ Int.natAbs (↑(KrS.a i) : Int) < (2 : Nat) ^ m)) ∧ ((↑(KrS.n i) : Int) = (↑(KrS.n i_1) : Int) ∧ (m ≤ m ∨ Int.natAbs (↑(KrS.n i) : Int) < (2 : Nat) ^ m)) ∧ True) ∧ ∀ (i_1 : KrS), KrJ (kro a b) m (↑(KrS.a i) : Int) (↑(KrS.n i) : Int) i_1 → (m ≤ (900000 : Nat) ∧ (0 : Int) < (2 : Int) ∧ (2 : Int) ≤ (4611686018427387904 : Int)) ∧ bif (↑(KrS.a i_1) : Int) % (2 : Int) == (0 : Int) then ((-9223372036854775808 : Int) ≤ (2 : Int) ∧ (2 : Int) ≤ (9223372036854775807 : Int)) ∧ (m ≤ (900000 : Nat) ∧ (64 : Nat) ≤ (900000 : Nat) ∧ ((2 : Int) = (0 : Int) → False)) ∧ m ≤ (900000 : Nat) ∧ ∃ j, KrJ (kro a b) m (↑(KrS.a i) : Int) (↑(KrS.n i) : Int) j ∧ (((0 : Nat) = (0 : Nat) ∧ (0 : Nat) = (0 : Nat) ∧ IntKind.wrap IntKind.i64 (KrS.k i_1 * two8 (↑(KrS.n i_1) : Int)) = KrS.k j ∧ True) ∧ ((↑(KrS.a i_1) : Int) / (2 : Int) = (↑(KrS.a j) : Int) ∧ (m ≤ m ∨ Int.natAbs ((↑(KrS.a i_1) : Int) / (2 : Int)) < (2 : Nat) ^ m)) ∧ ((↑(KrS.n i_1) : Int) = (↑(KrS.n j) : Int) ∧ (m ≤ m ∨ Int.natAbs (↑(KrS.n i_1) : Int) < (2 : Nat) ^ m)) ∧ True) ∧ KrS.a j < KrS.a i_1 else (m ≤ (900000 : Nat) ∧ (0 : Int) < (4 : Int) ∧ (4 : Int) ≤ (4611686018427387904 : Int)) ∧ bif (↑(KrS.a i_1) : Int) % (4 : Int) == (3 : Int) then (m ≤ (900000 : Nat) ∧ (0 : Int) < (4 : Int) ∧ (4 : Int) ≤ (4611686018427387904 : Int)) ∧ bif (↑(KrS.n i_1) : Int) % (4 : Int) == (3 : Int) then (m ≤ (900000 : Nat) ∧ m ≤ (900000 : Nat) ∧ ((↑(KrS.a i_1) : Int) = (0 : Int) → False)) ∧ ∃ j, KrI (kro a b) m j ∧ (((0 : Nat) = (0 : Nat) ∧ (0 : Nat) = (0 : Nat) ∧ IntKind.wrap IntKind.i64 ((0 : Int) - KrS.k i_1) = KrS.k j ∧ True) ∧ ((↑(KrS.n i_1) : Int) % (↑(KrS.a i_1) : Int) = (↑(KrS.a j) : Int) ∧ (m ≤ m ∨ Int.natAbs ((↑(KrS.n i_1) : Int) % (↑(KrS.a i_1) : Int)) < (2 : Nat) ^ m)) ∧ ((↑(KrS.a i_1) : Int) = (↑(KrS.n j) : Int) ∧ (m ≤ m ∨ Int.natAbs (↑(KrS.a i_1) : Int) < (2 : Nat) ^ m)) ∧ True) ∧ KrS.a j < KrS.a i else (m ≤ (900000 : Nat) ∧ m ≤ (900000 : Nat) ∧ ((↑(KrS.a i_1) : Int) = (0 : Int) → False)) ∧ ∃ j, KrI (kro a b) m j ∧ (((0 : Nat) = (0 : Nat) ∧ (0 : Nat) = (0 : Nat) ∧ KrS.k i_1 = KrS.k j ∧ True) ∧ ((↑(KrS.n i_1) : Int) % (↑(KrS.a i_1) : Int) = (↑(KrS.a j) : Int) ∧ (m ≤ m ∨ Int.natAbs ((↑(KrS.n i_1) : Int) % (↑(KrS.a i_1) : Int)) < (2 : Nat) ^ m)) ∧ ((↑(KrS.a i_1) : Int) = (↑(KrS.n j) : Int) ∧ (m ≤ m ∨ Int.natAbs (↑(KrS.a i_1) : Int) < (2 : Nat) ^ m)) ∧ True) ∧ KrS.a j < KrS.a i else (m ≤ (900000 : Nat) ∧ m ≤ (900000 : Nat) ∧ ((↑(KrS.a i_1) : Int) = (0 : Int) → False)) ∧ ∃ j, KrI (kro a b) m j ∧ (((0 : Nat) = (0 : Nat) ∧ (0 : Nat) = (0 : Nat) ∧ KrS.k i_1 = KrS.k j ∧ True) ∧ ((↑(KrS.n i_1) : Int) % (↑(KrS.a i_1) : Int) = (↑(KrS.a j) : Int) ∧ (m ≤ m ∨ Int.natAbs ((↑(KrS.n i_1) : Int) % (↑(KrS.a i_1) : Int)) < (2 : Nat) ^ m)) ∧ ((↑(KrS.a i_1) : Int) = (↑(KrS.n j) : Int) ∧ (m ≤ m ∨ Int.natAbs (↑(KrS.a i_1) : Int) < (2 : Nat) ^ m)) ∧ True) ∧ KrS.a j < KrS.a i else ((-9223372036854775808 : Int) ≤ (1 : Int) ∧ (1 : Int) ≤ (9223372036854775807 : Int)) ∧ (m ≤ (1000000 : Nat) ∧ (64 : Nat) ≤ (1000000 : Nat)) ∧ bif !decide ((↑(KrS.n i) : Int) = (1 : Int)) then (0 : Int) = kro a b else KrS.k i = kro a b) = evFn (envC [c_rsign, c_rabs, c_rof, c_rsame, c_small, c_r3two, c_rdiv, c_rmod] (a_r3kron a (kro a b) n m) (k_r3kron a b n m)) Tryd.f27 [.big a n, .big b m] (MRes.sat (.ret (.int .i64 (kro a b)))) := by kernel_rfl

def s_r3kron : FSpec
  | [.big a n, .big b m] => some (some (n ≤ 200000 ∧ m ≤ 200000), .ret (.int .i64 (kro a b)))
  | _ => none
theorem p_r3kron : GoodF Tryd.f27 s_r3kron := by
  intro ms p r h hp hf
  unfold s_r3kron at h
  split at h
  · rename_i a n b m
    simp only [Option.some.injEq, Prod.mk.injEq] at h
    obtain ⟨rfl, rfl⟩ := h
    obtain ⟨hn, hm⟩ : n ≤ 200000 ∧ m ≤ 200000 := hp
    have ha : a.natAbs < 2 ^ n := hf.1
    have hb : b.natAbs < 2 ^ m := hf.2.1
    refine ⟨envC [c_rsign, c_rabs, c_rof, c_rsame, c_small, c_r3two, c_rdiv, c_rmod] (a_r3kron a (kro a b) n m) (k_r3kron a b n m), ?_⟩
    rw [← vc_r3kron a b n m]
    by_cases hb0 : b = 0
    · have e1 : (sgn b == 0) = true := by subst hb0; rfl
      rw [e1, cond_true]
      refine ⟨by omega, by omega, by omega, ?_⟩
      rw [Bool.cond_decide]
      unfold kro
      rw [if_pos hb0]
      split
      · rw [if_pos (by omega)]
      · rw [if_neg (by omega)]
    have e1 : (sgn b == 0) = false := by
      unfold sgn
      rw [if_neg hb0]
      split <;> rfl
    have hkro : kro a b = (if b < 0 ∧ a < 0 then -1 else 1) * kr a b.natAbs := by unfold kro; rw [if_neg hb0]
    generalize hr : kro a b = r at *
    rw [e1, cond_false]
    refine ⟨?_, ?_⟩
    · rw [sgn_lt0, sgn_lt0]
      by_cases q1 : b < 0
      · rw [decide_eq_true q1, cond_true]
        by_cases q2 : a < 0
        · rw [decide_eq_true q2, cond_true]
          exact ⟨⟨-1, b⟩, ⟨by show (-1 : Int) = _; rw [if_pos ⟨q1, q2⟩], rfl⟩, ⟨rfl, rfl, rfl, True.intro⟩, ⟨rfl, .inl (Nat.le_refl _)⟩, ⟨rfl, .inl (Nat.le_refl _)⟩, True.intro⟩
        · rw [decide_eq_false q2, cond_false]
          exact ⟨⟨1, b⟩, ⟨by show (1 : Int) = _; rw [if_neg (by omega)], rfl⟩, ⟨rfl, rfl, rfl, True.intro⟩, ⟨rfl, .inl (Nat.le_refl _)⟩, ⟨rfl, .inl (Nat.le_refl _)⟩, True.intro⟩
      · rw [decide_eq_false q1, cond_false]
        exact ⟨⟨1, b⟩, ⟨by show (1 : Int) = _; rw [if_neg (by omega)], rfl⟩, ⟨rfl, rfl, rfl, True.intro⟩, ⟨rfl, .inl (Nat.le_refl _)⟩, ⟨rfl, .inl (Nat.le_refl _)⟩, True.intro⟩
    rintro ⟨k, c⟩ hi
    have hk0 : k = if b < 0 ∧ a < 0 then -1 else 1 := hi.k
    have hc0 : c = b := hi.n
    clear hi
    dsimp only
    rw [hc0]
    have hk : k = 1 ∨ k = -1 := by
      rw [hk0]
      split
      · exact .inr rfl
      · exact .inl rfl
    rw [← hk0] at hkro
    refine ⟨by omega, ⟨⟨k, b.natAbs⟩, ⟨hk, by show (0 : Int) < (b.natAbs : Int); omega, by show ((b.natAbs : Int)).natAbs < _; rw [Int.natAbs_natCast]; exact hb, ?_⟩, ⟨rfl, rfl, rfl, True.intro⟩, ⟨rfl, .inl (Nat.le_refl _)⟩, ⟨rfl, .inl (Nat.le_refl _)⟩, True.intro⟩, ?_⟩
    · show k * kr a (b.natAbs : Int).natAbs = r
      rw [Int.natAbs_natCast, hkro]
    clear hk hk0 hkro e1 hb0 hb hc0 hr ha hf
    rintro ⟨k, c⟩ hi
    have hk : k = 1 ∨ k = -1 := hi.k
    have hpos : 0 < c := hi.pos
    have hcb : c.natAbs < 2 ^ m := hi.bn
    have hv : k * kr a c.natAbs = r := hi.val
    clear hi
    dsimp only
    obtain ⟨q, rfl⟩ := Int.eq_ofNat_of_zero_le (Int.le_of_lt hpos)
    rw [Int.natAbs_natCast] at hcb hv
    have hw : ∀ {z : Int}, z = 1 ∨ z = -1 → IntKind.wrap IntKind.i64 z = z := fun h => by rcases h with h | h <;> rw [h] <;> rfl
    have hng : ∀ {z : Int}, z = 1 ∨ z = -1 → (0 - z = 1 ∨ 0 - z = -1) := fun h => by rcases h with h | h <;> rw [h] <;> decide
    refine ⟨by omega, ?_⟩
    rw [beq_dec]
    by_cases h2 : (q : Int) % 2 = 0
    · rw [decide_eq_true h2, cond_true]
      rw [kr_even (by omega) (by omega), ← Int.mul_assoc] at hv
      refine ⟨by omega, by omega, by omega, ?_⟩
      by_cases ho : a % 2 = 1
      · have ht := pm1_mul hk (two8_odd ho)
        rw [hw ht, show (k * two8 a == 0) = false by rcases ht with h | h <;> rw [h] <;> rfl, cond_false]
        refine ⟨⟨k * two8 a, ((q / 2 : Nat) : Int)⟩, ⟨ht, by show (0 : Int) < ((q / 2 : Nat) : Int); omega, by show (((q / 2 : Nat) : Int)).natAbs < _; omega, ?_⟩, ⟨⟨rfl, rfl, rfl, True.intro⟩, ⟨rfl, .inl (Nat.le_refl _)⟩, ⟨by show (q : Int) / 2 = ((q / 2 : Nat) : Int); omega, .inl (Nat.le_refl _)⟩, True.intro⟩, by show (((q / 2 : Nat) : Int)).natAbs < ((q : Int)).natAbs; omega⟩
        show k * two8 a * kr a ((q / 2 : Nat) : Int).natAbs = r
        rw [Int.natAbs_natCast, hv]
      · rw [two8_even ho, Int.mul_zero, Int.zero_mul] at hv
        rw [two8_even ho, Int.mul_zero]
        exact hv
    · rw [decide_eq_false h2, cond_false]
      have hm0 := Int.emod_nonneg a (show (q : Int) ≠ 0 by omega)
      have hm1 := Int.emod_lt_of_pos a hpos
      refine ⟨⟨by omega, by omega, by omega⟩, ⟨⟨k, (a % q).toNat, q⟩, ⟨by show q % 2 = 1; omega, hk, ?_, by show (a % q).toNat < _; omega, hcb⟩, ⟨rfl, rfl, rfl, True.intro⟩, ⟨by show a % q = ((a % q).toNat : Int); omega, .inl (Nat.le_refl _)⟩, ⟨rfl, .inl (Nat.le_refl _)⟩, True.intro⟩, ?_⟩
      · show k * jac (a % q).toNat q = r
        rw [← hv, kr_odd (by omega)]
      clear hv hk hm0 hm1 hcb hpos h2
      rintro ⟨k, x, q⟩ hI
      have hq : q % 2 = 1 := hI.odd
      have hk : k = 1 ∨ k = -1 := hI.k
      have hv : k * jac x q = r := hI.val
      have hxm : x < 2 ^ m := hI.ba
      have hqm : q < 2 ^ m := hI.bn
      clear hI
      dsimp only
      by_cases hx : x = 0
      · subst hx
        have e2 : (sgn ((0 : Nat) : Int) != 0) = false := rfl
        rw [e2, cond_false]
        refine ⟨by omega, by omega, ?_⟩
        rw [jac_zero] at hv
        by_cases h1 : q = 1
        · rw [if_pos h1, Int.mul_one] at hv
          rw [decide_eq_true (show (q : Int) = 1 by omega)]
          exact hv
        · rw [if_neg h1, Int.mul_zero] at hv
          rw [decide_eq_false (show ¬ (q : Int) = 1 by omega)]
          exact hv
      have e2 : (sgn (x : Int) != 0) = true := by rw [sgn_pos (by omega)]; rfl
      rw [e2, cond_true]
      refine ⟨⟨⟨k, x, q⟩, ⟨⟨hq, hk, hv, hxm, hqm⟩, Int.le_refl _, rfl, hx⟩, ⟨rfl, rfl, rfl, True.intro⟩, ⟨rfl, .inl (Nat.le_refl _)⟩, ⟨rfl, .inl (Nat.le_refl _)⟩, True.intro⟩, ?_⟩
      clear hv hk e2
      rintro ⟨k, y, q'⟩ hJ
      have hya : (y : Int) ≤ x := hJ.a
      have hqq : (q' : Int) = q := hJ.n
      have hy0 : y ≠ 0 := hJ.ne
      have hk : k = 1 ∨ k = -1 := hJ.i.k
      have hv : k * jac y q' = r := hJ.i.val
      clear hJ
      obtain rfl : q' = q := by omega
      dsimp only
      refine ⟨by omega, ?_⟩
      rw [beq_dec]
      by_cases h2 : (y : Int) % 2 = 0
      · rw [decide_eq_true h2, cond_true]
        rw [jac_even hy0 (by omega), ← Int.mul_assoc] at hv
        have ht := pm1_mul hk (two8_odd (q := (q' : Int)) (by omega))
        exact ⟨by omega, by omega, by omega, ⟨k * two8 q', y / 2, q'⟩, ⟨⟨hq, ht, hv, by show y / 2 < _; omega, hqm⟩, by show ((y / 2 : Nat) : Int) ≤ x; omega, rfl, by show y / 2 ≠ 0; omega⟩, ⟨⟨rfl, rfl, hw ht, True.intro⟩, ⟨by show (y : Int) / 2 = ((y / 2 : Nat) : Int); omega, .inl (Nat.le_refl _)⟩, ⟨rfl, .inl (Nat.le_refl _)⟩, True.intro⟩, by show y / 2 < y; omega⟩
      · rw [decide_eq_false h2, cond_false]
        rw [jac_odd (by omega)] at hv
        refine ⟨by omega, ?_⟩
        rw [beq3, beq3]
        unfold rsg at hv
        by_cases h3 : y % 4 = 3
        · rw [decide_eq_true h3, cond_true]
          refine ⟨by omega, ?_⟩
          by_cases h4 : q' % 4 = 3
          · rw [decide_eq_true h4, cond_true]
            rw [if_pos ⟨h3, h4⟩] at hv
            exact kron_leaf (by omega) (by omega) (by omega) hxm (hw (hng hk)) (hng hk) (by rw [← hv]; grind)
          · rw [decide_eq_false h4, cond_false]
            rw [if_neg (by omega), Int.one_mul] at hv
            exact kron_leaf (by omega) (by omega) (by omega) hxm rfl hk hv
        · rw [decide_eq_false h3, cond_false]
          rw [if_neg (by omega), Int.one_mul] at hv
          exact kron_leaf (by omega) (by omega) (by omega) hxm rfl hk hv
  · simp at h
def c_r3kron : Ctr Tryd.prog := ⟨27, s_r3kron, fun args w => Tryd.call27 args w, fn_ok_facts mix Tryd.func27 s_r3kron p_r3kron⟩

end Go.Proofs.YtcikhffhikgahaaDoor

/-
  The walk of ModularMatchesReference.
-/
namespace Go.Proofs.YtcikhffhikgahaaDoor
open Go Go.RowKit

def s_sgot : FSpec
  | [.st [.big v k, .int .i64 e], .big w l, .int .i64 d] => some (some (k ≤ 10000 ∧ l ≤ 10000), .ret (.bool (decide (e = d) && decide (v = w))))
  | _ => none
theorem vc_sgot (v e w d : Int) (k l : Nat) : (bif e == d then (k ≤ (1000000 : Nat) ∧ l ≤ (1000000 : Nat)) ∧ decide (v = w) = (decide (e = d) && decide (v = w)) else false = (decide (e = d) && decide (v = w))) = evFn (env [c_rsame] noAnn) Tryd.f25 [gotM v e k, .big w l, .int .i64 d] (MRes.sat (.ret (.bool (decide (e = d) && decide (v = w))))) := by kernel_rfl
theorem p_sgot : Good Tryd.f25 s_sgot := by
  intro ms p r h hp
  unfold s_sgot at h
  split at h
  · rename_i v k e w l d
    simp only [Option.some.injEq, Prod.mk.injEq] at h
    obtain ⟨rfl, rfl⟩ := h
    obtain ⟨h1, h2⟩ : k ≤ 10000 ∧ l ≤ 10000 := hp
    refine ⟨env [c_rsame] noAnn, ?_⟩
    rw [← vc_sgot v e w d k l, beq_dec]
    by_cases he : e = d
    · rw [decide_eq_true he, Bool.true_and]
      exact ⟨⟨by omega, by omega⟩, rfl⟩
    · rw [decide_eq_false he]
      rfl
  · simp at h
def c_sgot : Ctr Tryd.prog := ⟨25, s_sgot, fun args w => Tryd.call25 args w, fn_ok mix Tryd.func25 s_sgot p_sgot⟩

/-- Descriptions of three numbers. -/
abbrev threeN (b1 b2 b3 : Bool) (l1 l2 l3 : List Int) : MV := .st [rawM b1 l1, rawM b2 l2, rawM b3 l3]
theorem vc_mmref (b1 b2 b3 : Bool) (l1 l2 l3 : List Int) : (((∀ (x : Int), x ∈ l1 → (0 : Int) ≤ x ∧ x < (4294967296 : Int)) ∧ (0 : Int) ≤ (3 : Int) ∧ (3 : Int) ≤ (1000 : Int) ∧ List.length l1 < (9223372036854775808 : Nat)) ∧ ((∀ (x : Int), x ∈ l2 → (0 : Int) ≤ x ∧ x < (4294967296 : Int)) ∧ (0 : Int) ≤ (2 : Int) ∧ (2 : Int) ≤ (1000 : Int) ∧ List.length l2 < (9223372036854775808 : Nat)) ∧ ((∀ (x : Int), x ∈ l3 → (0 : Int) ≤ x ∧ x < (4294967296 : Int)) ∧ (0 : Int) ≤ (3 : Int) ∧ (3 : Int) ≤ (1000 : Int) ∧ List.length l3 < (9223372036854775808 : Nat)) ∧ ((32 : Nat) * Int.toNat (3 : Int) ≤ (900000 : Nat) ∧ (32 : Nat) * Int.toNat (3 : Int) ≤ (900000 : Nat)) ∧ ((32 : Nat) * Int.toNat (3 : Int) ≤ (900000 : Nat) ∧ (32 : Nat) * Int.toNat (3 : Int) ≤ (900000 : Nat)) ∧ bif modE (madeI b3 l3 (Int.toNat (3 : Int))) != modE (madeI b3 l3 (Int.toNat (3 : Int))) then false = true else ((32 : Nat) * Int.toNat (3 : Int) ≤ (1000000 : Nat) ∧ (32 : Nat) * Int.toNat (3 : Int) ≤ (1000000 : Nat)) ∧ bif !decide (modV (madeI b1 l1 (Int.toNat (3 : Int))) (madeI b3 l3 (Int.toNat (3 : Int))) = modV (madeI b1 l1 (Int.toNat (3 : Int))) (madeI b3 l3 (Int.toNat (3 : Int)))) then false = true else ((32 : Nat) * Int.toNat (3 : Int) ≤ (1000 : Nat) ∧ (32 : Nat) * Int.toNat (3 : Int) ≤ (1000 : Nat)) ∧ ((32 : Nat) * Int.toNat (3 : Int) ≤ (1000 : Nat) ∧ (32 : Nat) * Int.toNat (2 : Int) ≤ (1000 : Nat) ∧ (32 : Nat) * Int.toNat (3 : Int) ≤ (1000 : Nat)) ∧ ((32 : Nat) * Int.toNat (3 : Int) ≤ (1000 : Nat) ∧ (32 : Nat) * Int.toNat (3 : Int) ≤ (1000 : Nat)) ∧ ((32 : Nat) * Int.toNat (3 : Int) ≤ (10000 : Nat) ∧ (32 : Nat) * Int.toNat (3 : Int) ≤ (10000 : Nat)) ∧ bif decide (invE (madeI b1 l1 (Int.toNat (3 : Int))) (madeI b3 l3 (Int.toNat (3 : Int))) = invE (madeI b1 l1 (Int.toNat (3 : Int))) (madeI b3 l3 (Int.toNat (3 : Int)))) && decide (invV (madeI b1 l1 (Int.toNat (3 : Int))) (madeI b3 l3 (Int.toNat (3 : Int))) = invV (madeI b1 l1 (Int.toNat (3 : Int))) (madeI b3 l3 (Int.toNat (3 : Int)))) then ((32 : Nat) * Int.toNat (3 : Int) ≤ (1000 : Nat) ∧ (32 : Nat) * Int.toNat (2 : Int) ≤ (1000 : Nat) ∧ (32 : Nat) * Int.toNat (3 : Int) ≤ (1000 : Nat)) ∧ ((32 : Nat) * Int.toNat (3 : Int) ≤ (10000 : Nat) ∧ (32 : Nat) * Int.toNat (3 : Int) ≤ (10000 : Nat)) ∧ bif decide (powE (madeI b1 l1 (Int.toNat (3 : Int))) (madeI b2 l2 (Int.toNat (2 : Int))) (madeI b3 l3 (Int.toNat (3 : Int))) = powE (madeI b1 l1 (Int.toNat (3 : Int))) (madeI b2 l2 (Int.toNat (2 : Int))) (madeI b3 l3 (Int.toNat (3 : Int)))) && decide (powV (madeI b1 l1 (Int.toNat (3 : Int))) (madeI b2 l2 (Int.toNat (2 : Int))) (madeI b3 l3 (Int.toNat (3 : Int))) = powV (madeI b1 l1 (Int.toNat (3 : Int))) (madeI b2 l2 (Int.toNat (2 : Int))) (madeI b3 l3 (Int.toNat (3 : Int)))) then ((32 : Nat) * Int.toNat (3 : Int) ≤ (200000 : Nat) ∧ (32 : Nat) * Int.toNat (3 : Int) ≤ (200000 : Nat)) ∧ ((32 : Nat) * Int.toNat (3 : Int) ≤ (200000 : Nat) ∧ (32 : Nat) * Int.toNat (3 : Int) ≤ (200000 : Nat)) ∧ bif kro (madeI b1 l1 (Int.toNat (3 : Int))) (madeI b3 l3 (Int.toNat (3 : Int))) == kro (madeI b1 l1 (Int.toNat (3 : Int))) (madeI b3 l3 (Int.toNat (3 : Int))) then ((32 : Nat) * Int.toNat (3 : Int) ≤ (200000 : Nat) ∧ (32 : Nat) * Int.toNat (3 : Int) ≤ (200000 : Nat)) ∧ ((32 : Nat) * Int.toNat (3 : Int) ≤ (200000 : Nat) ∧ (32 : Nat) * Int.toNat (3 : Int) ≤ (200000 : Nat)) ∧ bif kro (madeI b3 l3 (Int.toNat (3 : Int))) (madeI b1 l1 (Int.toNat (3 : Int))) == kro (madeI b3 l3 (Int.toNat (3 : Int))) (madeI b1 l1 (Int.toNat (3 : Int))) then true = true else false = true else false = true else false = true else false = true) = evFn (env [c_lex, c_rMade, c_modU, c_r3mod, c_rsame, c_r3inv, c_r3pow, c_linv, c_lpow, c_sgot, c_kron, c_r3kron] noAnn) Tryd.f5 [threeN b1 b2 b3 l1 l2 l3] (MRes.sat (.ret (.bool true))) := by kernel_rfl
def s_mmref : FSpec
  | [.st [.st [.bool _, .ws l1], .st [.bool _, .ws l2], .st [.bool _, .ws l3]]] =>
    some (some ((Wd l1 ∧ l1.length < 9223372036854775808) ∧ (Wd l2 ∧ l2.length < 9223372036854775808) ∧ (Wd l3 ∧ l3.length < 9223372036854775808)), .ret (.bool true))
  | _ => none
theorem p_mmref : Good Tryd.f5 s_mmref := by
  intro ms p r h hp
  unfold s_mmref at h
  split at h
  · rename_i b1 l1 b2 l2 b3 l3
    simp only [Option.some.injEq, Prod.mk.injEq] at h
    obtain ⟨rfl, rfl⟩ := h
    obtain ⟨⟨w1, n1⟩, ⟨w2, n2⟩, w3, n3⟩ : (Wd l1 ∧ l1.length < 9223372036854775808) ∧ (Wd l2 ∧ l2.length < 9223372036854775808) ∧ (Wd l3 ∧ l3.length < 9223372036854775808) := hp
    refine ⟨env [c_lex, c_rMade, c_modU, c_r3mod, c_rsame, c_r3inv, c_r3pow, c_linv, c_lpow, c_sgot, c_kron, c_r3kron] noAnn, ?_⟩
    rw [← vc_mmref b1 b2 b3 l1 l2 l3]
    refine ⟨⟨w1, by omega, by omega, n1⟩, ⟨w2, by omega, by omega, n2⟩, ⟨w3, by omega, by omega, n3⟩, ⟨by omega, by omega⟩, ⟨by omega, by omega⟩, ?_⟩
    generalize madeI b1 l1 (Int.toNat 3) = a
    generalize madeI b2 l2 (Int.toNat 2) = e
    generalize madeI b3 l3 (Int.toNat 3) = m
    simp only [bne_self_eq_false, decide_true, Bool.not_true, cond_false, cond_true, Bool.and_self, beq_self_eq_true, and_true]
    and_intros <;> omega
  · simp at h
def c_mmref : Ctr Tryd.prog := ⟨5, s_mmref, fun args w => Tryd.call5 args w, fn_ok mix Tryd.func5 s_mmref p_mmref⟩

end Go.Proofs.YtcikhffhikgahaaDoor

namespace Go.Proofs.YtcikhffhikgahaaDoor
open Go Go.ChangeShapes Go.WideShapes Go.ChangeAt Go.RowKit

def tysModularMatchesReference : List Nat := [49, 24, 4, 22, 72]
theorem tysModularMatchesReference_ok : tysModularMatchesReference.all (subOk Tryd.prog tysModularMatchesReference) = true := by kernel_rfl

theorem modularMatchesReference_contract (H : Type) (enc : TypeId × Value → H) (W : World) (args : Array Value) (ds gs : List (DataW H)) (before : List MemPlace) (hG : GW noS W)
    (hW : DataW.Whole enc Tryd.prog Tryd.f5.params.toList Rows.modularMatchesReferenceSpec.vars Rows.modularMatchesReferenceRow.apart W args.toList ds gs before) :
    Calls Tryd.prog 5 args W fun e W' => ∃ v, e = .returned v ∧ Rows.modularMatchesReferenceSpec.post enc Tryd.prog Tryd.f5 Rows.modularMatchesReferenceRow.apart Rows.modularMatchesReferenceRow.fresh Rows.modularMatchesReferenceRow.handsOn Rows.modularMatchesReferenceRow.again W args v W' := by
  have hW' := hW
  obtain ⟨p, q, hA, hV, rfl, hfz, hnd⟩ := hW
  rw [Tryd.params5] at hA
  obtain ⟨v0, d0, rfl, rfl, h0⟩ := trodAll_one hA
  obtain ⟨rfl, rfl⟩ := trodVars_none hV
  obtain ⟨b0, b0x, b0y, l0, l0x, l0y, r0, w0, w0x, w0y⟩ := rep_three h0
  refine law_calls c_mmref rfl rfl tysModularMatchesReference_ok (by rw [Tryd.params5]; decide) hW' hG ⟨[threeV b0 b0x b0y l0 l0x l0y], _, rfl, ⟨w0, w0x, w0y⟩, _, _, rfl, r0, rfl⟩ rfl

set_option maxHeartbeats 1600000 in
set_option maxRecDepth 100000 in
theorem modularMatchesReference_lifted (os : Os) (started : os.Started) (H : Type) (enc : TypeId × Value → H) :
    ReturnsInHanded {} Tryd.checked os 5 .any (fun w args => (Rows.modularMatchesReferenceSpec.pre enc Tryd.prog Tryd.f5 [] false w args ∧ laidMetH Tryd.prog laid1 w) ∧ sizedMet enc Tryd.prog Tryd.f5 (OpenSpec.ofChange Rows.modularMatchesReferenceSpec) false w args)
      (Rows.modularMatchesReferenceSpec.post enc Tryd.prog Tryd.f5 false true false false) := by
  refine returnsInHanded_of_change_and (C := Tryd.checked) (X := fun w _ => laidMetH Tryd.prog laid1 w) (fun _ _ _ hh h => h.of_heap hh) own started (by kernel_rfl) Tryd.func5
    (ChangeSpec.witness_shaped (enc := enc) (C := Tryd.checked) (os := os) (X := fun w _ => laidMetH Tryd.prog laid1 w) false (World.doorLaid Tryd.prog 400 os) #[.agg #[.bool false, .slice none 0 0, .bool false, .slice none 0 0, .bool false, .slice none 0 0]] 8 rfl (World.shaped_of_RefB (by kernel_rfl) (by kernel_rfl)) (by kernel_rfl) (by kernel_rfl) (by kernel_rfl) (door_met os _)) ?_
  intro W base args ds gs before hval0 hW _ _ hL _
  exact modularMatchesReference_contract H enc W args ds gs before (gw_of_laid hL) hW

theorem modularMatchesReference_over : Rows.ModularMatchesReferenceSaid :=
  OpenClaim.holds_of_wide 5 Tryd.f5 rfl rfl rfl rfl rfl rfl rfl ⟨rfl, rfl, rfl, rfl, rfl⟩ rfl rfl rfl rfl rfl (by kernel_rfl) Tryd.func5 (by kernel_rfl)
    (of_decide_eq_true (by kernel_rfl)) (by unfold Func.isWrapper; first | (rw [if_pos (by decide +kernel)]; kernel_rfl) | (rw [if_neg (by decide +kernel)]; exact ⟨rfl, rfl⟩))
    (fun os started H enc _ => modularMatchesReference_lifted os started H enc)

theorem modularMatchesReference_holds : Rows.ModularMatchesReferenceCardSaid :=
  Claim7.holds_tied_plain_at .later [] [.data] true (true, Rows.modularMatchesReferenceCard.stood.harness.2) false
    modularMatchesReference_over (fun _ h => by cases h) (by kernel_rfl) (fun _ h => by cases h) modularMatchesReference_row_tie rfl ⟨rfl, rfl⟩ (by kernel_rfl) rfl
    (fun f fn hf hfn => by
      obtain rfl : f = 5 := Option.some.inj ((show Tryd.prog.funcNamed "algorist/algoristlaw03.ModularMatchesReference" = some 5 by kernel_rfl).symm.trans hf) |>.symm
      obtain rfl : fn = Tryd.f5 := (Option.some.inj (Tryd.func5.symm.trans hfn)).symm
      exact ⟨by kernel_rfl, fun j t ht => by
        rw [Tryd.params5] at ht
        have hm : t ∈ [49] := by simpa using Array.mem_of_getElem? ht
        have hall : ([49].all fun u => !Tryd.prog.wantsStandIn u) = true := by kernel_rfl
        exact (show Tryd.prog.wantsStandIn t = false by simpa using List.all_eq_true.1 hall t hm)⟩)
    (by kernel_rfl)

end Go.Proofs.YtcikhffhikgahaaDoor
