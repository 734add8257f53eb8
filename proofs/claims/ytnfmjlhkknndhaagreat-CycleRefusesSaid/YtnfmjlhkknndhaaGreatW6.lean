/-
  The frame of the laws of chapter 17: descriptions of forms and of matrices.
-/
import Derived.Test.YtnfmjlhkknndhaaGreatW5
import Derived.Test.YtnfmjlhkknndhaaGreatW4
import Derived.Test.YtnfmjlhkknndhaaGreatW2
import Derived.Test.YtnfmjlhkknndhaaGreatRows
import Derived.ProofKit
import Derived.OpenShut
import Derived.JoinedCond
import Derived.LaidMore
import Derived.LaidLaws
import Derived.LaidHandle
import Derived.ChangeVars
import Derived.Stop.Joined
import Derived.ChangeSame
import Derived.MakeChecks

/-
 Contracts of functions: algoristref08 (forms of the reference).
-/
namespace Go.Proofs.YtnfmjlhkknndhaaGreat
open Go Go.RowKit
def s_r8of : FSpec
 | [.int .i64 a, .int .i64 b, .int .i64 c] => some (some (-9223372036854775808 ≤ a ∧ a ≤ 9223372036854775807 ∧ -9223372036854775808 ≤ b ∧ b ≤ 9223372036854775807 ∧ -9223372036854775808 ≤ c ∧ c ≤ 9223372036854775807), .ret (fmv ⟨a, b, c⟩ 64))
 | _ => none
theorem vc_r8of (a b c : Int) : (Fit a ∧ Fit b ∧ Fit c ∧ LeB a a 64 64 ∧ LeB b b 64 64 ∧ LeB c c 64 64 ∧ True) = evFn (env [c_rof] noAnn) Tryz.f51 [.int .i64 a, .int .i64 b, .int .i64 c] (MRes.sat (.ret (fmv ⟨a, b, c⟩ 64))) := by kernel_rfl
theorem p_r8of : Good Tryz.f51 s_r8of := by
 intro ms p r h hp
 unfold s_r8of at h
 split at h
 ·rename_i a b c
  simp only [Option.some.injEq, Prod.mk.injEq] at h
  obtain ⟨rfl, rfl⟩ := h
  obtain ⟨h1, h2, h3, h4, h5, h6⟩ : -9223372036854775808 ≤ a ∧ a ≤ 9223372036854775807 ∧ -9223372036854775808 ≤ b ∧ b ≤ 9223372036854775807 ∧ -9223372036854775808 ≤ c ∧ c ≤ 9223372036854775807 := hp
  refine ⟨env [c_rof] noAnn, ?_⟩
  rw [← vc_r8of a b c]
  first | done | (and_intros <;> first | exact True.intro | rfl | exact .inl (Nat.le_refl _) | omega)
 ·simp at h
def c_r8of : Ctr Tryz.prog := ⟨51, s_r8of, fun args w => Tryz.call51 args w, fn_ok mix Tryz.func51 s_r8of p_r8of⟩
def s_r8sum : FSpec
 | [.big a n, .big b m, .big c k, .big d l] => some (some (n + m ≤ 900000 ∧ k + l ≤ 900000), .ret (.big (a * b + c * d) (max (n + m) (k + l) + 1)))
 | _ => none
theorem vc_r8sum (a b c d : Int) (n m k l : Nat) : ((n ≤ 1000000 ∧ m ≤ 1000000) ∧ (k ≤ 1000000 ∧ l ≤ 1000000) ∧ (n + m ≤ 1000000 ∧ k + l ≤ 1000000) ∧ a * b + c * d = a * b + c * d ∧ (max (n + m) (k + l) + 1 ≤ max (n + m) (k + l) + 1 ∨ Int.natAbs (a * b + c * d) < 2 ^ (max (n + m) (k + l) + 1))) = evFn (env [c_rmul, c_radd] noAnn) Tryz.f84 [.big a n, .big b m, .big c k, .big d l] (MRes.sat (.ret (.big (a * b + c * d) (max (n + m) (k + l) + 1)))) := by kernel_rfl
theorem p_r8sum : Good Tryz.f84 s_r8sum := by
 intro ms p r h hp
 unfold s_r8sum at h
 split at h
 ·rename_i a n b m c k d l
  simp only [Option.some.injEq, Prod.mk.injEq] at h
  obtain ⟨rfl, rfl⟩ := h
  obtain ⟨h1, h2⟩ : n + m ≤ 900000 ∧ k + l ≤ 900000 := hp
  refine ⟨env [c_rmul, c_radd] noAnn, ?_⟩
  rw [← vc_r8sum a b c d n m k l]
  first | done | (and_intros <;> first | exact True.intro | rfl | exact .inl (Nat.le_refl _) | omega)
 ·simp at h
def c_r8sum : Ctr Tryz.prog := ⟨84, s_r8sum, fun args w => Tryz.call84 args w, fn_ok mix Tryz.func84 s_r8sum p_r8sum⟩
theorem disc_alt (a b c : Int) : b * b + -4 * a * c = Fm.disc ⟨a, b, c⟩ := by
 unfold Fm.disc
 grind
def s_r8disc : FSpec
 | [.st [.big a n, .big b m, .big c k]] => some (some (n ≤ 100000 ∧ m ≤ 100000 ∧ k ≤ 100000), .ret (.big (Fm.disc ⟨a, b, c⟩) (2 * max3 n m k + 66)))
 | _ => none
theorem vc_r8disc (a b c : Int) (n m k : Nat) : (Fit (-4) ∧ ((64 : Nat) ≤ 1000000 ∧ n ≤ 1000000) ∧ (m + m ≤ 900000 ∧ (64 : Nat) + n + k ≤ 900000) ∧ b * b + (-4 : Int) * a * c = Fm.disc (Fm.mk a b c) ∧ (max (m + m) ((64 : Nat) + n + k) + 1 ≤ 2 * max3 n m k + 66 ∨ Int.natAbs (b * b + (-4 : Int) * a * c) < 2 ^ ((2 : Nat) * max3 n m k + 66))) = evFn (env [c_r8sum, c_rof, c_rmul] noAnn) Tryz.f50 [.st [.big a n, .big b m, .big c k]] (MRes.sat (.ret (.big (Fm.disc ⟨a, b, c⟩) (2 * max3 n m k + 66)))) := by kernel_rfl
theorem p_r8disc : Good Tryz.f50 s_r8disc := by
 intro ms p r h hp
 unfold s_r8disc at h
 split at h
 ·rename_i a n b m c k
  simp only [Option.some.injEq, Prod.mk.injEq] at h
  obtain ⟨rfl, rfl⟩ := h
  obtain ⟨h1, h2, h3⟩ : n ≤ 100000 ∧ m ≤ 100000 ∧ k ≤ 100000 := hp
  refine ⟨env [c_r8sum, c_rof, c_rmul] noAnn, ?_⟩
  rw [← vc_r8disc a b c n m k]
  unfold max3
  exact ⟨by omega, by omega, by omega, disc_alt a b c, .inl (by omega)⟩
 ·simp at h
def c_r8disc : Ctr Tryz.prog := ⟨50, s_r8disc, fun args w => Tryz.call50 args w, fn_ok mix Tryz.func50 s_r8disc p_r8disc⟩
def sqQ (d : Int) : Bool := decide (0 ≤ d ∧ d - nsq d.natAbs * nsq d.natAbs = 0)
def s_r8sq : FSpec
 | [.big d n] => some (some (n ≤ 100000), .ret (.bool (sqQ d)))
 | _ => none
theorem vc_r8sq (d : Int) (n : Nat) : (bif decide (sgn d < 0) then false = sqQ d else n ≤ 100000 ∧ bif decide (d < 0) then (sgn (0 : Int) == 0) = sqQ d else (sgn (d - (↑(nsq (Int.natAbs d)) : Int) * (↑(nsq (Int.natAbs d)) : Int)) == 0) = sqQ d) = evFn (env [c_rsign, c_rsqrt] noAnn) Tryz.f89 [.big d n] (MRes.sat (.ret (.bool (sqQ d)))) := by kernel_rfl
theorem p_r8sq : Good Tryz.f89 s_r8sq := by
 intro ms p r h hp
 unfold s_r8sq at h
 split at h
 ·rename_i d n
  simp only [Option.some.injEq, Prod.mk.injEq] at h
  obtain ⟨rfl, rfl⟩ := h
  have h1 : n ≤ 100000 := hp
  refine ⟨env [c_rsign, c_rsqrt] noAnn, ?_⟩
  rw [← vc_r8sq d n]
  have hi : sqQ d = true ↔ 0 ≤ d ∧ d - nsq d.natAbs * nsq d.natAbs = 0 := decide_eq_true_iff
  refine condI slt0 (fun q => falseI hi fun e => by omega) (fun q => ⟨by omega, condI decide_eq_true_iff (fun q2 => absurd q2 q) (fun q2 => boolI seqz (hi.trans ⟨fun e => e.2, fun e => ⟨by omega, e⟩⟩))⟩)
 ·simp at h
def c_r8sq : Ctr Tryz.prog := ⟨89, s_r8sq, fun args w => Tryz.call89 args w, fn_ok mix Tryz.func89 s_r8sq p_r8sq⟩
def s_r8val : FSpec
 | [.st [.big a n, .big b m, .big c k], .big x l, .big y r] => some (some (n ≤ 100000 ∧ m ≤ 100000 ∧ k ≤ 100000 ∧ l ≤ 100000 ∧ r ≤ 100000), .ret (.big (Fm.val ⟨a, b, c⟩ x y) (max3 n m k + 2 * max l r + 2)))
 | _ => none
theorem vc_r8val (a b c x y : Int) (n m k l r : Nat) : ((n + l ≤ 900000 ∧ m + r ≤ 900000) ∧ (l ≤ 1000000 ∧ max (n + l) (m + r) + 1 ≤ 1000000) ∧ (r ≤ 1000000 ∧ r ≤ 1000000) ∧ (k ≤ 1000000 ∧ r + r ≤ 1000000) ∧ (l + (max (n + l) (m + r) + 1) ≤ 1000000 ∧ k + (r + r) ≤ 1000000) ∧ x * (a * x + b * y) + c * (y * y) = Fm.val (Fm.mk a b c) x y ∧ (max (l + (max (n + l) (m + r) + 1)) (k + (r + r)) + 1 ≤ max3 n m k + 2 * max l r + 2 ∨ Int.natAbs (x * (a * x + b * y) + c * (y * y)) < 2 ^ (max3 n m k + 2 * max l r + 2))) = evFn (env [c_r8sum, c_rmul, c_radd] noAnn) Tryz.f85 [.st [.big a n, .big b m, .big c k], .big x l, .big y r] (MRes.sat (.ret (.big (Fm.val ⟨a, b, c⟩ x y) (max3 n m k + 2 * max l r + 2)))) := by kernel_rfl
theorem p_r8val : Good Tryz.f85 s_r8val := by
 intro ms p r h hp
 unfold s_r8val at h
 split at h
 ·rename_i a n b m c k x l y r
  simp only [Option.some.injEq, Prod.mk.injEq] at h
  obtain ⟨rfl, rfl⟩ := h
  obtain ⟨h1, h2, h3, h4, h5⟩ : n ≤ 100000 ∧ m ≤ 100000 ∧ k ≤ 100000 ∧ l ≤ 100000 ∧ r ≤ 100000 := hp
  refine ⟨env [c_r8sum, c_rmul, c_radd] noAnn, ?_⟩
  rw [← vc_r8val a b c x y n m k l r]
  unfold max3
  refine ⟨by omega, by omega, by omega, by omega, by omega, ?_, .inl (by omega)⟩
  unfold Fm.val
  grind
 ·simp at h
def c_r8val : Ctr Tryz.prog := ⟨85, s_r8val, fun args w => Tryz.call85 args w, fn_ok mix Tryz.func85 s_r8val p_r8val⟩
def s_r8apply : FSpec
 | [.st [.big a n, .big b m, .big c k], .st [.big x l, .big y r, .big z u, .big t v]] => some (some (n ≤ 40000 ∧ m ≤ 40000 ∧ k ≤ 40000 ∧ l ≤ 100000 ∧ r ≤ 100000 ∧ u ≤ 100000 ∧ v ≤ 100000), .ret (fmv (Fm.app ⟨a, b, c⟩ ⟨x, y, z, t⟩) (max3 n m k + 2 * max4 l r u v + 70)))
 | _ => none
theorem vc_r8apply (a b c x y z t : Int) (n m k l r u v : Nat) : (Fit 2 ∧ (l ≤ 1000000 ∧ r ≤ 1000000) ∧ (n ≤ 1000000 ∧ l + r ≤ 1000000) ∧ ((64 : Nat) ≤ 1000000 ∧ n + (l + r) ≤ 1000000) ∧ (l + v ≤ 900000 ∧ r + u ≤ 900000) ∧ (m ≤ 1000000 ∧ max (l + v) (r + u) + 1 ≤ 1000000) ∧ (u ≤ 1000000 ∧ v ≤ 1000000) ∧ (k ≤ 1000000 ∧ u + v ≤ 1000000) ∧ ((64 : Nat) ≤ 1000000 ∧ k + (u + v) ≤ 1000000) ∧ (m + (max (l + v) (r + u) + 1) ≤ 1000000 ∧ (64 : Nat) + (k + (u + v)) ≤ 1000000) ∧ ((64 : Nat) + (n + (l + r)) ≤ 1000000 ∧ max (m + (max (l + v) (r + u) + 1)) ((64 : Nat) + (k + (u + v))) + 1 ≤ 1000000) ∧ (n ≤ 100000 ∧ m ≤ 100000 ∧ k ≤ 100000 ∧ l ≤ 100000 ∧ u ≤ 100000) ∧ (n ≤ 100000 ∧ m ≤ 100000 ∧ k ≤ 100000 ∧ r ≤ 100000 ∧ v ≤ 100000) ∧ LeB (Fm.val (Fm.mk a b c) x z) (Fm.val (Fm.mk a b c) x z) (max3 n m k + 2 * max l u + 2) (max3 n m k + 2 * max4 l r u v + 70) ∧ LeB ((2 : Int) * (a * (x * y)) + (b * (x * t + y * z) + 2 * (c * (z * t)))) ((2 : Int) * (a * (x * y) + c * (z * t)) + b * (x * t + y * z)) (max ((64 : Nat) + (n + (l + r))) (max (m + (max (l + v) (r + u) + 1)) ((64 : Nat) + (k + (u + v))) + 1) + 1) (max3 n m k + 2 * max4 l r u v + 70) ∧ LeB (Fm.val (Fm.mk a b c) y t) (Fm.val (Fm.mk a b c) y t) (max3 n m k + 2 * max r v + 2) (max3 n m k + 2 * max4 l r u v + 70) ∧ True) = evFn (env [c_r8sum, c_rmul, c_radd, c_rof, c_r8val] noAnn) Tryz.f40 [.st [.big a n, .big b m, .big c k], .st [.big x l, .big y r, .big z u, .big t v]] (MRes.sat (.ret (fmv (Fm.app ⟨a, b, c⟩ ⟨x, y, z, t⟩) (max3 n m k + 2 * max4 l r u v + 70)))) := by kernel_rfl
theorem p_r8apply : Good Tryz.f40 s_r8apply := by
 intro ms p r h hp
 unfold s_r8apply at h
 split at h
 ·rename_i a n b m c k x l y r z u t v
  simp only [Option.some.injEq, Prod.mk.injEq] at h
  obtain ⟨rfl, rfl⟩ := h
  obtain ⟨h1, h2, h3, h4, h5, h6, h7⟩ : n ≤ 40000 ∧ m ≤ 40000 ∧ k ≤ 40000 ∧ l ≤ 100000 ∧ r ≤ 100000 ∧ u ≤ 100000 ∧ v ≤ 100000 := hp
  refine ⟨env [c_r8sum, c_rmul, c_radd, c_rof, c_r8val] noAnn, ?_⟩
  rw [← vc_r8apply a b c x y z t n m k l r u v]
  unfold max3 max4
  and_intros <;> first|exact True.intro|rfl|omega|exact .inl (by omega)|grind
 ·simp at h
def c_r8apply : Ctr Tryz.prog := ⟨40, s_r8apply, fun args w => Tryz.call40 args w, fn_ok mix Tryz.func40 s_r8apply p_r8apply⟩
def s_r8det : FSpec
 | [.st [.big a n, .big b m, .big c k, .big d l]] => some (some (n ≤ 400000 ∧ m ≤ 400000 ∧ k ≤ 400000 ∧ l ≤ 400000), .ret (.big (Mx.det ⟨a, b, c, d⟩) (2 * max4 n m k l + 1)))
 | _ => none
theorem vc_r8det (a b c d : Int) (n m k l : Nat) : (m ≤ 1000000 ∧ (n + l ≤ 900000 ∧ m + k ≤ 900000) ∧ a * d + -b * c = Mx.det (Mx.mk a b c d) ∧ (max (n + l) (m + k) + 1 ≤ 2 * max4 n m k l + 1 ∨ Int.natAbs (a * d + -b * c) < 2 ^ ((2 : Nat) * max4 n m k l + 1))) = evFn (env [c_rneg, c_r8sum] noAnn) Tryz.f43 [.st [.big a n, .big b m, .big c k, .big d l]] (MRes.sat (.ret (.big (Mx.det ⟨a, b, c, d⟩) (2 * max4 n m k l + 1)))) := by kernel_rfl
theorem p_r8det : Good Tryz.f43 s_r8det := by
 intro ms p r h hp
 unfold s_r8det at h
 split at h
 ·rename_i a n b m c k d l
  simp only [Option.some.injEq, Prod.mk.injEq] at h
  obtain ⟨rfl, rfl⟩ := h
  obtain ⟨h1, h2, h3, h4⟩ : n ≤ 400000 ∧ m ≤ 400000 ∧ k ≤ 400000 ∧ l ≤ 400000 := hp
  refine ⟨env [c_rneg, c_r8sum] noAnn, ?_⟩
  rw [← vc_r8det a b c d n m k l]
  unfold max4
  refine ⟨by omega, by omega, ?_, .inl (by omega)⟩
  unfold Mx.det
  grind
 ·simp at h
def c_r8det : Ctr Tryz.prog := ⟨43, s_r8det, fun args w => Tryz.call43 args w, fn_ok mix Tryz.func43 s_r8det p_r8det⟩
def eqF (f g : Fm) : Bool := decide (f = g)
def s_r8equal : FSpec
 | [.st [.big a n, .big b m, .big c k], .st [.big x l, .big y r, .big z u]] => some (some (n ≤ 1000000 ∧ m ≤ 1000000 ∧ k ≤ 1000000 ∧ l ≤ 1000000 ∧ r ≤ 1000000 ∧ u ≤ 1000000), .ret (.bool (eqF ⟨a, b, c⟩ ⟨x, y, z⟩)))
 | _ => none
theorem vc_r8equal (a b c x y z : Int) (n m k l r u : Nat) : ((n ≤ 1000000 ∧ l ≤ 1000000) ∧ bif decide (a = x) then (m ≤ 1000000 ∧ r ≤ 1000000) ∧ bif decide (b = y) then (k ≤ 1000000 ∧ u ≤ 1000000) ∧ decide (c = z) = eqF (Fm.mk a b c) (Fm.mk x y z) else false = eqF (Fm.mk a b c) (Fm.mk x y z) else false = eqF (Fm.mk a b c) (Fm.mk x y z)) = evFn (env [c_rsame] noAnn) Tryz.f21 [.st [.big a n, .big b m, .big c k], .st [.big x l, .big y r, .big z u]] (MRes.sat (.ret (.bool (eqF ⟨a, b, c⟩ ⟨x, y, z⟩)))) := by kernel_rfl
theorem p_r8equal : Good Tryz.f21 s_r8equal := by
 intro ms p r h hp
 unfold s_r8equal at h
 split at h
 ·rename_i a n b m c k x l y r z u
  simp only [Option.some.injEq, Prod.mk.injEq] at h
  obtain ⟨rfl, rfl⟩ := h
  obtain ⟨h1, h2, h3, h4, h5, h6⟩ : n ≤ 1000000 ∧ m ≤ 1000000 ∧ k ≤ 1000000 ∧ l ≤ 1000000 ∧ r ≤ 1000000 ∧ u ≤ 1000000 := hp
  refine ⟨env [c_rsame] noAnn, ?_⟩
  rw [← vc_r8equal a b c x y z n m k l r u]
  have hi : eqF ⟨a, b, c⟩ ⟨x, y, z⟩ = true ↔ a = x ∧ b = y ∧ c = z := by
   unfold eqF
   rw [decide_eq_true_iff]
   exact ⟨fun e => by injection e with e1 e2 e3; exact ⟨e1, e2, e3⟩, fun e => Fm.ext' e.1 e.2.1 e.2.2⟩
  refine ⟨by omega, condI decide_eq_true_iff (fun q => ⟨by omega, condI decide_eq_true_iff (fun q2 => ⟨by omega, boolI decide_eq_true_iff (hi.trans ⟨fun e => e.2.2, fun e => ⟨q, q2, e⟩⟩)⟩) (fun q2 => falseI hi fun e => q2 e.2.1)⟩) (fun q => falseI hi fun e => q e.1)⟩
 ·simp at h
def c_r8equal : Ctr Tryz.prog := ⟨21, s_r8equal, fun args w => Tryz.call21 args w, fn_ok mix Tryz.func21 s_r8equal p_r8equal⟩
def s_r8any : FSpec
 | [.st [.st [.st [.bool b1, .ws l1], .st [.bool b2, .ws l2], .st [.bool b3, .ws l3]], .st [.st [.bool _, .ws _], .st [.bool _, .ws _], .st [.bool _, .ws _], .st [.bool _, .ws _]]]] => some (some (Wd l1 ∧ l1.length < 9223372036854775808 ∧ Wd l2 ∧ l2.length < 9223372036854775808 ∧ Wd l3 ∧ l3.length < 9223372036854775808), .ret (fmv ⟨madeI b1 l1 2, madeI b2 l2 2, madeI b3 l3 2⟩ 64))
 | _ => none
theorem vc_r8any (b1 b2 b3 c1 c2 c3 c4 : Bool) (l1 l2 l3 k1 k2 k3 k4 : List Int) : (((0 : Int) ≤ 0 ∧ (0 : Int) < (↑(3 : Nat) : Int)) ∧ ((∀ (x : Int), x ∈ l1 → (0 : Int) ≤ x ∧ x < 4294967296) ∧ (0 : Int) ≤ 2 ∧ (2 : Int) ≤ 1000 ∧ List.length l1 < 9223372036854775808) ∧ ((0 : Int) ≤ 1 ∧ (1 : Int) < (↑(3 : Nat) : Int)) ∧ ((∀ (x : Int), x ∈ l2 → (0 : Int) ≤ x ∧ x < 4294967296) ∧ (0 : Int) ≤ 2 ∧ (2 : Int) ≤ 1000 ∧ List.length l2 < 9223372036854775808) ∧ ((0 : Int) ≤ 2 ∧ (2 : Int) < (↑(3 : Nat) : Int)) ∧ ((∀ (x : Int), x ∈ l3 → (0 : Int) ≤ x ∧ x < 4294967296) ∧ (0 : Int) ≤ 2 ∧ (2 : Int) ≤ 1000 ∧ List.length l3 < 9223372036854775808) ∧ LeB (madeI b1 l1 (Int.toNat (2 : Int))) (madeI b1 l1 (2 : Nat)) ((32 : Nat) * Int.toNat (2 : Int)) 64 ∧ LeB (madeI b2 l2 (Int.toNat (2 : Int))) (madeI b2 l2 (2 : Nat)) ((32 : Nat) * Int.toNat (2 : Int)) 64 ∧ LeB (madeI b3 l3 (Int.toNat (2 : Int))) (madeI b3 l3 (2 : Nat)) ((32 : Nat) * Int.toNat (2 : Int)) 64 ∧ True) = evFn (env [c_rMade] noAnn) Tryz.f14 [.st [.st [.st [.bool b1, .ws l1], .st [.bool b2, .ws l2], .st [.bool b3, .ws l3]], .st [.st [.bool c1, .ws k1], .st [.bool c2, .ws k2], .st [.bool c3, .ws k3], .st [.bool c4, .ws k4]]]] (MRes.sat (.ret (fmv ⟨madeI b1 l1 2, madeI b2 l2 2, madeI b3 l3 2⟩ 64))) := by kernel_rfl
theorem p_r8any : Good Tryz.f14 s_r8any := by
 intro ms p r h hp
 unfold s_r8any at h
 split at h
 ·rename_i b1 l1 b2 l2 b3 l3 c1 k1 c2 k2 c3 k3 c4 k4
  simp only [Option.some.injEq, Prod.mk.injEq] at h
  obtain ⟨rfl, rfl⟩ := h
  obtain ⟨h1, h2, h3, h4, h5, h6⟩ : Wd l1 ∧ l1.length < 9223372036854775808 ∧ Wd l2 ∧ l2.length < 9223372036854775808 ∧ Wd l3 ∧ l3.length < 9223372036854775808 := hp
  refine ⟨env [c_rMade] noAnn, ?_⟩
  rw [← vc_r8any b1 b2 b3 c1 c2 c3 c4 l1 l2 l3 k1 k2 k3 k4]
  have t2 : Int.toNat 2 = 2 := rfl
  rw [t2]
  and_intros <;> first|exact True.intro|rfl|omega|exact h1|exact h3|exact h5|exact .inl (by omega)
 ·simp at h
def c_r8any : Ctr Tryz.prog := ⟨14, s_r8any, fun args w => Tryz.call14 args w, fn_ok mix Tryz.func14 s_r8any p_r8any⟩
end Go.Proofs.YtnfmjlhkknndhaaGreat
/-
 Contracts of functions: algoristref17 (cycles of the reference), first part.
-/
namespace Go.Proofs.YtnfmjlhkknndhaaGreat
open Go Go.RowKit
theorem vc_r17edge  : ((65536 : Int) = 65536) = evFn (env [] noAnn) Tryz.f90 [] (MRes.sat (.ret (.int .i64 65536))) := by kernel_rfl
def s_r17edge : FSpec
 | [] => some (none, .ret (.int .i64 65536))
 | _ => none
theorem p_r17edge : Good Tryz.f90 s_r17edge := by
 intro ms p r h hp
 unfold s_r17edge at h
 split at h
 ·simp only [Option.some.injEq, Prod.mk.injEq] at h
  obtain ⟨rfl, rfl⟩ := h
  refine ⟨env [] noAnn, ?_⟩
  rw [← vc_r17edge]
 ·simp at h
def c_r17edge : Ctr Tryz.prog := ⟨90, s_r17edge, fun args w => Tryz.call90 args w, fn_ok mix Tryz.func90 s_r17edge p_r17edge⟩
def s_r17known : FSpec
 | [.big d n] => some (some (n ≤ 100000), .ret (.int .i64 (knE d)))
 | _ => none
theorem vc_r17known (d : Int) (n : Nat) : (bif decide (sgn d ≤ 0) then (5 : Int) = knE d else Fit 4 ∧ (n ≤ 900000 ∧ (64 : Nat) ≤ 900000 ∧ ((4 : Int) = 0 → False)) ∧ Fit 1 ∧ ((64 : Nat) ≤ 1000000 ∧ (64 : Nat) ≤ 1000000) ∧ bif decide (icmp (d % 4) (1 : Int) > 0) then (5 : Int) = knE d else n ≤ 100000 ∧ bif sqQ d then (5 : Int) = knE d else Fit 65536 ∧ (n ≤ 1000000 ∧ (64 : Nat) ≤ 1000000) ∧ bif decide (icmp d (65536 : Int) > 0) then (2 : Int) = knE d else (0 : Int) = knE d) = evFn (env [c_rsign, c_rcmp, c_rmod, c_rof, c_r8sq, c_r17edge] noAnn) Tryz.f49 [.big d n] (MRes.sat (.ret (.int .i64 (knE d)))) := by kernel_rfl
theorem p_r17known : Good Tryz.f49 s_r17known := by
 intro ms p r h hp
 unfold s_r17known at h
 split at h
 ·rename_i d n
  simp only [Option.some.injEq, Prod.mk.injEq] at h
  obtain ⟨rfl, rfl⟩ := h
  have h1 : n ≤ 100000 := hp
  refine ⟨env [c_rsign, c_rcmp, c_rmod, c_rof, c_r8sq, c_r17edge] noAnn, ?_⟩
  rw [← vc_r17known d n]
  have hsq : sqQ d = true ↔ 0 ≤ d ∧ d - nsq d.natAbs * nsq d.natAbs = 0 := decide_eq_true_iff
  refine condI sle0 (fun q => ?_) (fun q => ⟨by omega, ⟨by omega, by omega, by omega⟩, by omega, by omega, condI cgt (fun q2 => (if_pos (.inr (.inr q2))).symm) (fun q2 => ⟨by omega, condI hsq (fun q3 => (if_pos (.inr (.inl q3.2))).symm) (fun q3 => ⟨by omega, ⟨by omega, by omega⟩, ?_⟩)⟩)⟩)
  ·rcases Int.lt_or_le d 0 with h|h
   ·exact (if_pos (.inl h)).symm
   ·obtain rfl : d = 0 := by omega
    exact (if_pos (.inr (.inl rfl))).symm
  ·have e0 : knE d = if 65536 < d then 2 else 0 := if_neg (by omega)
   rw [e0]
   exact condI cgt (fun q4 => (if_pos q4).symm) (fun q4 => (if_neg q4).symm)
 ·simp at h
def c_r17known : Ctr Tryz.prog := ⟨49, s_r17known, fun args w => Tryz.call49 args w, fn_ok mix Tryz.func49 s_r17known p_r17known⟩
end Go.Proofs.YtnfmjlhkknndhaaGreat
/-
 Contracts of functions: algoristref17 (cycles of the reference), second part.
-/
namespace Go.Proofs.YtnfmjlhkknndhaaGreat
open Go Go.RowKit
def a_r17sl (a b : List Fm) : Nat → MS → Option LoopAnn
 | 4, _ => some (.inv WalkI (fun i => i.i ≤ a.length ∧ a.take i.i = b.take i.i) (fun i => ⟨27, [(0, .sl 6 a.length (fL a 1000)), (1, .sl 6 b.length (fL b 1000)), (5, .int .i64 i.i)], [], 0⟩) (fun i => a.length - i.i))
 | _, _ => none
def eqFL (a b : List Fm) : Bool := decide (a = b)
theorem vc_r17sl (a b : List Fm) : (bif (↑(List.length a) : Int) != (↑(List.length b) : Int) then false = eqFL a b else (∃ i, (WalkI.i i ≤ List.length a ∧ List.take (WalkI.i i) a = List.take (WalkI.i i) b) ∧ (((6 : Nat) = 6 ∧ List.length a = List.length a ∧ LeFun (List.length a) (fL a (1000 : Nat)) (fL a (1000 : Nat))) ∧ ((6 : Nat) = 6 ∧ List.length b = List.length b ∧ LeFun (List.length b) (fL b (1000 : Nat)) (fL b (1000 : Nat))) ∧ (0 : Int) = (↑(WalkI.i i) : Int) ∧ True) ∧ True) ∧ ∀ (i : WalkI), WalkI.i i ≤ List.length a ∧ List.take (WalkI.i i) a = List.take (WalkI.i i) b → bif decide ((↑(WalkI.i i) : Int) < (↑(List.length a) : Int)) then ((0 : Int) ≤ (↑(WalkI.i i) : Int) ∧ (↑(WalkI.i i) : Int) < (↑(List.length a) : Int)) ∧ ((0 : Int) ≤ (↑(WalkI.i i) : Int) ∧ (↑(WalkI.i i) : Int) < (↑(List.length b) : Int)) ∧ ((1000 : Nat) ≤ 1000000 ∧ (1000 : Nat) ≤ 1000000 ∧ (1000 : Nat) ≤ 1000000 ∧ (1000 : Nat) ≤ 1000000 ∧ (1000 : Nat) ≤ 1000000 ∧ (1000 : Nat) ≤ 1000000) ∧ bif !eqF (List.getD a (Int.toNat (↑(WalkI.i i) : Int)) (Fm.mk (0 : Int) (0 : Int) (0 : Int))) (List.getD b (Int.toNat (↑(WalkI.i i) : Int)) (Fm.mk (0 : Int) (0 : Int) (0 : Int))) then false = eqFL a b else ∃ j, (WalkI.i j ≤ List.length a ∧ List.take (WalkI.i j) a = List.take (WalkI.i j) b) ∧ ((((6 : Nat) = 6 ∧ List.length a = List.length a ∧ LeFun (List.length a) (fL a (1000 : Nat)) (fL a (1000 : Nat))) ∧ ((6 : Nat) = 6 ∧ List.length b = List.length b ∧ LeFun (List.length b) (fL b (1000 : Nat)) (fL b (1000 : Nat))) ∧ IntKind.wrap IntKind.i64 ((↑(WalkI.i i) : Int) + 1) = (↑(WalkI.i j) : Int) ∧ True) ∧ True) ∧ List.length a - WalkI.i j < List.length a - WalkI.i i else true = eqFL a b) = evFn (env [c_r8equal] (a_r17sl a b)) Tryz.f28 [.sl 6 a.length (fL a 1000), .sl 6 b.length (fL b 1000)] (MRes.sat (.ret (.bool (eqFL a b)))) := by kernel_rfl
theorem getD_at {l : List Fm} {i : Nat} (h : i < l.length) : l.getD i ⟨0, 0, 0⟩ = l[i] := by simp [h]
theorem sl_ok (a b : List Fm) (hl : a.length ≤ 1000000000) : ∃ E : Env Tryz.prog, evFn E Tryz.f28 [.sl 6 a.length (fL a 1000), .sl 6 b.length (fL b 1000)] (MRes.sat (.ret (.bool (eqFL a b)))) := by
 refine ⟨env [c_r8equal] (a_r17sl a b), ?_⟩
 rw [← vc_r17sl a b]
 have hi : eqFL a b = true ↔ a = b := decide_eq_true_iff
 refine condI bne_iff_ne (fun q => falseI hi fun e => q (by rw [e])) (fun q => ?_)
 have q : (a.length : Int) = b.length := Decidable.not_not.1 q
 have hab : a.length = b.length := by omega
 refine ⟨⟨⟨0⟩, ⟨Nat.zero_le _, rfl⟩, ?_⟩, fun i hi' => ?_⟩
 ·and_intros <;> first | exact True.intro | rfl | exact .inl (Nat.le_refl _) | exact LeFun.refl
 obtain ⟨i⟩ := i
 obtain ⟨h1, h2⟩ : i ≤ a.length ∧ a.take i = b.take i := hi'
 dsimp only
 rw [Int.toNat_natCast]
 refine condI decide_eq_true_iff (fun q2 => ?_) (fun q2 => ?_)
 ·have hlt : i < a.length := by omega
  have hlt2 : i < b.length := by omega
  rw [getD_at hlt, getD_at hlt2]
  refine ⟨by omega, by omega, by omega, condI Iff.rfl (fun q3 => ?_) (fun q3 => ?_)⟩
  ·refine falseI hi fun e => ?_
   subst e
   rw [show eqF (a[i]) (a[i]) = true from decide_eq_true rfl] at q3
   simp at q3
  ·have e5 : IntKind.wrap IntKind.i64 ((i : Int) + 1) = ((i + 1 : Nat) : Int) := by rw [i64w (by omega) (by omega)]; omega
   have q3' : a[i] = b[i] := by
    cases hb : eqF a[i] b[i] with
    | true => exact of_decide_eq_true hb
    | false => exact absurd (by rw [show eqF a[i] b[i] = false from hb]; rfl) q3
   rw [e5]
   refine ⟨⟨i + 1⟩, ⟨hlt, ?_⟩, ?_, by show a.length - (i + 1) < a.length - i; omega⟩
   ·show a.take (i + 1) = b.take (i + 1)
    rw [List.take_add_one, List.take_add_one, List.getElem?_eq_getElem hlt, List.getElem?_eq_getElem hlt2, h2, q3']
   ·and_intros <;> first | exact True.intro | rfl | exact .inl (Nat.le_refl _) | exact LeFun.refl
 ·obtain rfl : i = a.length := by omega
  rw [List.take_length, hab, List.take_length] at h2
  exact trueI hi h2
def s_r17sl : FSpec
 | [.sl 6 n f, .sl 6 k g] => some (some ((∀ i, i < n → isFm 1000 (f i)) ∧ (∀ i, i < k → isFm 1000 (g i)) ∧ n ≤ 1000000000), .ret (.bool (eqFL (fvals n f) (fvals k g))))
 | _ => none
theorem p_r17sl : ∀ ms p r, s_r17sl ms = some (p, r) → p.holds → ∃ ms', leV.leVs 0 ms ms' ∧ ∃ E : Env Tryz.prog, evFn E Tryz.f28 ms' r.sat := by
 intro ms p r h hp
 unfold s_r17sl at h
 split at h
 ·rename_i n f k g
  simp only [Option.some.injEq, Prod.mk.injEq] at h
  obtain ⟨rfl, rfl⟩ := h
  obtain ⟨h1, h2, h3⟩ : (∀ i, i < n → isFm 1000 (f i)) ∧ (∀ i, i < k → isFm 1000 (g i)) ∧ n ≤ 1000000000 := hp
  exact ⟨[.sl 6 (fvals n f).length (fL (fvals n f) 1000), .sl 6 (fvals k g).length (fL (fvals k g) 1000)], ⟨⟨rfl, (fvals_length n f).symm, fvals_le h1⟩, ⟨rfl, (fvals_length k g).symm, fvals_le h2⟩, True.intro⟩, sl_ok _ _ (by rw [fvals_length]; exact h3)⟩
 ·simp at h
def c_r17sl : Ctr Tryz.prog := ⟨28, s_r17sl, fun args w => Tryz.call28 args w, fn_ok_le mix Tryz.func28 s_r17sl p_r17sl⟩
end Go.Proofs.YtnfmjlhkknndhaaGreat
/-
 Contracts of functions: algoristref17 (cycles of the reference), third part.
-/
namespace Go.Proofs.YtnfmjlhkknndhaaGreat
open Go Go.RowKit
end Go.Proofs.YtnfmjlhkknndhaaGreat
/-
 Contracts of functions: algoristref17 (cycles of the reference), fourth part.
-/
namespace Go.Proofs.YtnfmjlhkknndhaaGreat
open Go Go.RowKit
end Go.Proofs.YtnfmjlhkknndhaaGreat
/-
 Contracts of functions: algoristref17 (cycles of the reference), what its descriptions are.
-/
namespace Go.Proofs.YtnfmjlhkknndhaaGreat
open Go Go.RowKit
end Go.Proofs.YtnfmjlhkknndhaaGreat
/-
 Contracts of functions: algoristlaw17, the examples.
-/
namespace Go.Proofs.YtnfmjlhkknndhaaGreat
open Go Go.RowKit
theorem vc_lex  : (Fit 12 ∧ (64 : Nat) ≤ 100000 ∧ Fit 5 ∧ (64 : Nat) ≤ 100000 ∧ ((-9223372036854775808 : Int) ≤ 1 ∧ (1 : Int) ≤ 9223372036854775807 ∧ (-9223372036854775808 : Int) ≤ 2 ∧ (2 : Int) ≤ 9223372036854775807 ∧ (-9223372036854775808 : Int) ≤ (-2 : Int) ∧ (-2 : Int) ≤ 9223372036854775807) ∧ ((64 : Nat) ≤ 10000 ∧ (64 : Nat) ≤ 10000 ∧ (64 : Nat) ≤ 10000) ∧ ((-9223372036854775808 : Int) ≤ 1 ∧ (1 : Int) ≤ 9223372036854775807 ∧ (-9223372036854775808 : Int) ≤ 0 ∧ (0 : Int) ≤ 9223372036854775807 ∧ (-9223372036854775808 : Int) ≤ (-3 : Int) ∧ (-3 : Int) ≤ 9223372036854775807) ∧ ((64 : Nat) ≤ 300 ∧ (64 : Nat) ≤ 300 ∧ (64 : Nat) ≤ 300) ∧ Fit 9 ∧ (64 : Nat) ≤ 100000 ∧ Fit 65545 ∧ (64 : Nat) ≤ 100000 ∧ ((-9223372036854775808 : Int) ≤ 1 ∧ (1 : Int) ≤ 9223372036854775807 ∧ (-9223372036854775808 : Int) ≤ 0 ∧ (0 : Int) ≤ 9223372036854775807 ∧ (-9223372036854775808 : Int) ≤ 1 ∧ (1 : Int) ≤ 9223372036854775807) ∧ ((64 : Nat) ≤ 300 ∧ (64 : Nat) ≤ 300 ∧ (64 : Nat) ≤ 300) ∧ ((-9223372036854775808 : Int) ≤ 1 ∧ (1 : Int) ≤ 9223372036854775807 ∧ (-9223372036854775808 : Int) ≤ 2 ∧ (2 : Int) ≤ 9223372036854775807 ∧ (-9223372036854775808 : Int) ≤ (-2 : Int) ∧ (-2 : Int) ≤ 9223372036854775807) ∧ Fit 2 ∧ ((64 : Nat) ≤ 300 ∧ (64 : Nat) ≤ 300 ∧ (64 : Nat) ≤ 300 ∧ (64 : Nat) ≤ 100000) ∧ ((0 : Int) ≤ 0 ∧ (0 : Int) < (↑(2 : Nat) : Int)) ∧ ((-9223372036854775808 : Int) ≤ (-2 : Int) ∧ (-2 : Int) ≤ 9223372036854775807 ∧ (-9223372036854775808 : Int) ≤ 2 ∧ (2 : Int) ≤ 9223372036854775807 ∧ (-9223372036854775808 : Int) ≤ 1 ∧ (1 : Int) ≤ 9223372036854775807) ∧ ((-9223372036854775808 : Int) ≤ 1 ∧ (1 : Int) ≤ 9223372036854775807 ∧ (-9223372036854775808 : Int) ≤ 2 ∧ (2 : Int) ≤ 9223372036854775807 ∧ (-9223372036854775808 : Int) ≤ (-2 : Int) ∧ (-2 : Int) ≤ 9223372036854775807) ∧ ((∀ (i : Nat), i < 2 → isFm (1000 : Nat) (fL (cyG (List.getD (cysL (12 : Int)) (0 : Nat) (Fm.mk (0 : Int) (0 : Int) (0 : Int)))) (8 : Nat) i)) ∧ (∀ (i : Nat), i < 2 → isFm (1000 : Nat) (rowOf [MV.st [MV.big (-2 : Int) (64 : Nat), MV.big (2 : Int) (64 : Nat), MV.big (1 : Int) (64 : Nat)], MV.st [MV.big (1 : Int) (64 : Nat), MV.big (2 : Int) (64 : Nat), MV.big (-2 : Int) (64 : Nat)]] i)) ∧ (2 : Nat) ≤ 1000000000) ∧ ((0 : Int) ≤ 1 ∧ (1 : Int) < (↑(2 : Nat) : Int)) ∧ ((-9223372036854775808 : Int) ≤ (-1 : Int) ∧ (-1 : Int) ≤ 9223372036854775807 ∧ (-9223372036854775808 : Int) ≤ 2 ∧ (2 : Int) ≤ 9223372036854775807 ∧ (-9223372036854775808 : Int) ≤ 2 ∧ (2 : Int) ≤ 9223372036854775807) ∧ ((-9223372036854775808 : Int) ≤ 2 ∧ (2 : Int) ≤ 9223372036854775807 ∧ (-9223372036854775808 : Int) ≤ 2 ∧ (2 : Int) ≤ 9223372036854775807 ∧ (-9223372036854775808 : Int) ≤ (-1 : Int) ∧ (-1 : Int) ≤ 9223372036854775807) ∧ ((∀ (i : Nat), i < 2 → isFm (1000 : Nat) (fL (cyG (List.getD (cysL (12 : Int)) (1 : Nat) (Fm.mk (0 : Int) (0 : Int) (0 : Int)))) (8 : Nat) i)) ∧ (∀ (i : Nat), i < 2 → isFm (1000 : Nat) (rowOf [MV.st [MV.big (-1 : Int) (64 : Nat), MV.big (2 : Int) (64 : Nat), MV.big (2 : Int) (64 : Nat)], MV.st [MV.big (2 : Int) (64 : Nat), MV.big (2 : Int) (64 : Nat), MV.big (-1 : Int) (64 : Nat)]] i)) ∧ (2 : Nat) ≤ 1000000000) ∧ ((-9223372036854775808 : Int) ≤ (-2 : Int) ∧ (-2 : Int) ≤ 9223372036854775807 ∧ (-9223372036854775808 : Int) ≤ 2 ∧ (2 : Int) ≤ 9223372036854775807 ∧ (-9223372036854775808 : Int) ≤ 1 ∧ (1 : Int) ≤ 9223372036854775807) ∧ ((64 : Nat) ≤ 1000000 ∧ (64 : Nat) ≤ 1000000 ∧ (64 : Nat) ≤ 1000000 ∧ (64 : Nat) ≤ 1000000 ∧ (64 : Nat) ≤ 1000000 ∧ (64 : Nat) ≤ 1000000) ∧ ((-9223372036854775808 : Int) ≤ 1 ∧ (1 : Int) ≤ 9223372036854775807 ∧ (-9223372036854775808 : Int) ≤ 2 ∧ (2 : Int) ≤ 9223372036854775807 ∧ (-9223372036854775808 : Int) ≤ (-2 : Int) ∧ (-2 : Int) ≤ 9223372036854775807) ∧ ((64 : Nat) ≤ 40000 ∧ (64 : Nat) ≤ 40000 ∧ (64 : Nat) ≤ 40000 ∧ (64 : Nat) ≤ 100000 ∧ (64 : Nat) ≤ 100000 ∧ (64 : Nat) ≤ 100000 ∧ (64 : Nat) ≤ 100000) ∧ ((262 : Nat) ≤ 1000000 ∧ (262 : Nat) ≤ 1000000 ∧ (262 : Nat) ≤ 1000000 ∧ (64 : Nat) ≤ 1000000 ∧ (64 : Nat) ≤ 1000000 ∧ (64 : Nat) ≤ 1000000) ∧ ((-9223372036854775808 : Int) ≤ 1 ∧ (1 : Int) ≤ 9223372036854775807 ∧ (-9223372036854775808 : Int) ≤ 2 ∧ (2 : Int) ≤ 9223372036854775807 ∧ (-9223372036854775808 : Int) ≤ (-2 : Int) ∧ (-2 : Int) ≤ 9223372036854775807) ∧ ((64 : Nat) ≤ 1000000 ∧ (64 : Nat) ≤ 1000000 ∧ (64 : Nat) ≤ 1000000 ∧ (64 : Nat) ≤ 1000000 ∧ (64 : Nat) ≤ 1000000 ∧ (64 : Nat) ≤ 1000000) ∧ ((4225 : Nat) ≤ 400000 ∧ (4225 : Nat) ≤ 400000 ∧ (4225 : Nat) ≤ 400000 ∧ (4225 : Nat) ≤ 400000) ∧ Fit 1 ∧ ((8451 : Nat) ≤ 1000000 ∧ (64 : Nat) ≤ 1000000) ∧ ((64 : Nat) ≤ 40000 ∧ (64 : Nat) ≤ 40000 ∧ (64 : Nat) ≤ 40000) ∧ ((-9223372036854775808 : Int) ≤ 1 ∧ (1 : Int) ≤ 9223372036854775807 ∧ (-9223372036854775808 : Int) ≤ 0 ∧ (0 : Int) ≤ 9223372036854775807 ∧ (-9223372036854775808 : Int) ≤ (-3 : Int) ∧ (-3 : Int) ≤ 9223372036854775807) ∧ ((64 : Nat) ≤ 40000 ∧ (64 : Nat) ≤ 40000 ∧ (64 : Nat) ≤ 40000) ∧ (!redQ (Fm.mk (1 : Int) (0 : Int) (-3 : Int))) = true) = evFn (env [c_cys, c_class, c_crho, c_creduce, c_ccycle, c_cshows, c_rof, c_r8of, c_r17sl, c_r8equal, c_r8apply, c_rsame, c_r8det, c_creduced] noAnn) Tryz.f12 [] (MRes.sat (.ret (.bool true))) := by kernel_rfl
theorem rowOf2 {f g : Fm} {n W : Nat} (h : n ≤ W) : ∀ i, i < 2 → isFm W (rowOf [.st [.big f.A n, .big f.B n, .big f.C n], .st [.big g.A n, .big g.B n, .big g.C n]] i) := by
 intro i hi
 have : i = 0 ∨ i = 1 := by omega
 rcases this with rfl | rfl
 ·exact isFm_fmv f h
 ·exact isFm_fmv g h
def s_lex : FSpec
 | [] => some (none, .ret (.bool true))
 | _ => none
set_option maxRecDepth 20000 in
theorem p_lex : Good Tryz.f12 s_lex := by
 intro ms p r h hp
 unfold s_lex at h
 split at h
 ·simp only [Option.some.injEq, Prod.mk.injEq] at h
  obtain ⟨rfl, rfl⟩ := h
  refine ⟨env [c_cys, c_class, c_crho, c_creduce, c_ccycle, c_cshows, c_rof, c_r8of, c_r17sl, c_r8equal, c_r8apply, c_rsame, c_r8det, c_creduced] noAnn, ?_⟩
  rw [← vc_lex]
  and_intros <;> first | omega | exact fun i _ => isFm_fmv _ (by omega) | exact rowOf2 (f := ⟨-2, 2, 1⟩) (g := ⟨1, 2, -2⟩) (by omega) | exact rowOf2 (f := ⟨-1, 2, 2⟩) (g := ⟨2, 2, -1⟩) (by omega) | rfl
 ·simp at h
noncomputable def c_lex : Ctr Tryz.prog := ⟨12, s_lex, fun args w => Tryz.call12 args w, fn_ok mix Tryz.func12 s_lex p_lex⟩
theorem condF {b : Bool} {x y : Prop} (hb : b = false) (h : y) : cond b x y := by subst hb; exact h
theorem condT {b : Bool} {x y : Prop} (hb : b = true) (h : x) : cond b x y := by subst hb; exact h
theorem bneI (a : Int) : (a != a) = false := by simp
end Go.Proofs.YtnfmjlhkknndhaaGreat
/-
 The frame of a law: what was read before the call is read behind it.
-/
namespace Go.Proofs.YtnfmjlhkknndhaaGreat
open Go Go.RowKit
theorem mapM_keep {α β : Type} {f g : α → Option β} : ∀ (l : List α) (xs : List β), l.mapM f = some xs → (∀ a x, f a = some x → x ∈ xs → g a = some x) → l.mapM g = some xs
 | [], xs, h, _ => h
 | a :: l, xs, h, hk => by
  simp only [List.mapM_cons, Option.bind_eq_bind, Option.pure_def, Option.bind_eq_some_iff, Option.some.injEq] at h ⊢
  obtain ⟨x, h1, ys, h2, rfl⟩ := h
  exact ⟨x, hk a x h1 (List.mem_cons_self ..), ys, mapM_keep l ys h2 fun b y hb hy => hk b y hb (List.mem_cons_of_mem _ hy), rfl⟩
theorem mapM_keep2 {α β : Type} {f g : α → Option β} : ∀ (l : List α) (xs : List β), l.mapM f = some xs → (∀ a ∈ l, ∀ x, f a = some x → x ∈ xs → g a = some x) → l.mapM g = some xs
 | [], xs, h, _ => h
 | a :: l, xs, h, hk => by
  simp only [List.mapM_cons, Option.bind_eq_bind, Option.pure_def, Option.bind_eq_some_iff, Option.some.injEq] at h ⊢
  obtain ⟨x, h1, ys, h2, rfl⟩ := h
  exact ⟨x, hk a (List.mem_cons_self ..) x h1 (List.mem_cons_self ..), ys, mapM_keep2 l ys h2 fun b hb y hy hm => hk b (List.mem_cons_of_mem _ hb) y hy (List.mem_cons_of_mem _ hm), rfl⟩
theorem cell_keep {w w' : World} (e : ∀ b, b < w.heap.size → w'.heap[b]? = w.heap[b]?) {a : Addr} {v : Value} (h : w.cell? a = some v) : w'.cell? a = some v := by
 have hlt : a.block < w.heap.size := by
  unfold World.cell? at h
  split at h
  ·rename_i h0; exact (Array.getElem?_eq_some_iff.1 h0).1
  ·simp at h
 unfold World.cell? at h ⊢
 rw [e _ hlt]; exact h
theorem cells_keep {w w' : World} (e : ∀ b, b < w.heap.size → w'.heap[b]? = w.heap[b]?) {base : Nat} {a : Addr} {n : Nat} {vs : List Value} (h : w.cells? base a n = some vs) : w'.cells? base a n = some vs := by
 unfold World.cells? at h ⊢
 split at h
 ·rename_i hb
  rw [if_pos hb]
  exact mapM_keep _ _ h fun i v hi _ => cell_keep e hi
 ·simp at h
section
variable {H : Type} {enc : TypeId × Value → H} {P : Program} {w w' : World}
def subOk (P : Program) (L : List Nat) (t : Nat) : Bool := match P.underlying t with
 | some (.pointer e) => L.elem e
 | some (.slice e) => L.elem e && (0).blt (P.cellsOf e)
 | some (.struct fs) => fs.toList.all fun f => L.elem f.type
 | some (.array _ e) => L.elem e
 | some (.interface _) => false
 | some (.map _ e) => L.elem e
 | _ => true
theorem trod_keep {L : List Nat} (hL : L.all (subOk P L) = true) (e : ∀ b, b < w.heap.size → w'.heap[b]? = w.heap[b]?) (sp : Nat → Bool) (held : Bool) :
  ∀ (fuel : Nat) (t : TypeId) (cs : List Value) (x : DataW H × List MemPlace), t ∈ L → DataW.trod enc P w 0 (fun _ => true) held fuel t cs = some x → (∀ p ∈ x.2, sp p.block = true) → DataW.trod enc P w' 0 sp held fuel t cs = some x
 | 0, _, _, _, _, h, _ => by simp [DataW.trod] at h
 | fuel + 1, t, cs, x, ht, h, hsp => by
  have ih := trod_keep hL e sp held fuel
  have hok := List.all_eq_true.1 hL t ht
  unfold subOk at hok
  unfold DataW.trod at h ⊢
  have el : ∀ (a : Addr) (n : Nat) (u : TypeId) (y : DataW H × List MemPlace), u ∈ L → (w.cells? 0 a n).bind (DataW.trod enc P w 0 (fun _ => true) held fuel u) = some y → (∀ p ∈ y.2, sp p.block = true) → (w'.cells? 0 a n).bind (DataW.trod enc P w' 0 sp held fuel u) = some y := by
   intro a n u y hu hy hs
   obtain ⟨vs, h1, h2⟩ := Option.bind_eq_some_iff.1 hy
   exact Option.bind_eq_some_iff.2 ⟨vs, cells_keep e h1, ih u vs y hu h2 hs⟩
  split at h
  case h_21 => simp at h
  case h_6 =>
   rename_i hu
   rw [hu] at hok
   obtain ⟨y, h1, rfl⟩ := Option.map_eq_some_iff.1 h
   exact Option.map_eq_some_iff.2 ⟨y, el _ _ _ _ (List.mem_of_elem_eq_true hok) h1 fun p hp => hsp p (List.mem_append_right _ hp), rfl⟩
  case h_8 =>
   rename_i ee a len cap hu
   rw [hu] at hok
   simp only [Bool.and_eq_true, Nat.blt_eq] at hok
   have hee := List.mem_of_elem_eq_true hok.1
   dsimp only at h ⊢
   split at h
   ·rename_i hc
    rw [if_pos hc]
    obtain ⟨elems, h1, h⟩ := Option.bind_eq_some_iff.1 h
    obtain ⟨rest, h2, rfl⟩ := Option.map_eq_some_iff.1 h
    rw [if_pos rfl] at h2
    have hsz := hok.2
    have q1 : ∀ y ∈ elems, ∀ p ∈ y.2, sp p.block = true := fun y hy p hp => hsp p (List.mem_append_right _ (List.mem_flatMap.2 ⟨y, List.mem_append_left _ hy, hp⟩))
    have q2 : ∀ y ∈ rest, ∀ p ∈ y.2, sp p.block = true := fun y hy p hp => hsp p (List.mem_append_right _ (List.mem_flatMap.2 ⟨y, List.mem_append_right _ hy, hp⟩))
    refine Option.bind_eq_some_iff.2 ⟨elems, mapM_keep _ _ h1 fun i y hi hy => el _ _ _ _ hee hi (q1 y hy), Option.map_eq_some_iff.2 ⟨rest, ?_, rfl⟩⟩
    by_cases h0 : rest = []
    ·subst h0
     have : cap - len = 0 := by
      rcases Nat.eq_zero_or_pos (cap - len) with h | h
      ·exact h
      ·obtain ⟨n, hn⟩ := Nat.exists_eq_succ_of_ne_zero (Nat.pos_iff_ne_zero.1 h)
       rw [hn, List.range_succ_eq_map] at h2
       simp [Option.bind_eq_some_iff] at h2
     rw [this]
     split <;> simp
    ·have hpos : 0 < (elems.length + rest.length) * P.cellsOf ee := Nat.mul_pos (by have := List.length_pos_iff.2 h0; omega) hsz
     have : sp a.block = true := hsp (.cell a.block (a.off + 0)) (List.mem_append_left _ (List.mem_map.2 ⟨0, List.mem_range.2 hpos, rfl⟩))
     rw [if_pos this]
     exact mapM_keep _ _ h2 fun i y hi hy => el _ _ _ _ hee hi (q2 y hy)
   ·simp at h
  case h_9 =>
   rename_i fs hu
   rw [hu] at hok
   split at h
   ·rename_i hc
    rw [if_pos hc]
    obtain ⟨xs, h1, rfl⟩ := Option.map_eq_some_iff.1 h
    exact Option.map_eq_some_iff.2 ⟨xs, mapM_keep2 _ _ h1 fun f hfm y hf hy => ih _ _ _ (List.mem_of_elem_eq_true (List.all_eq_true.1 hok f hfm)) hf fun p hp => hsp p (List.mem_flatMap.2 ⟨y, hy, hp⟩), rfl⟩
   ·simp at h
  case h_10 =>
   rename_i n ee hu
   rw [hu] at hok
   split at h
   ·rename_i hc
    rw [if_pos hc]
    obtain ⟨xs, h1, rfl⟩ := Option.map_eq_some_iff.1 h
    exact Option.map_eq_some_iff.2 ⟨xs, mapM_keep _ _ h1 fun f y hf hy => ih _ _ _ (List.mem_of_elem_eq_true hok) hf fun p hp => hsp p (List.mem_flatMap.2 ⟨y, hy, hp⟩), rfl⟩
   ·simp at h
  case h_12 =>
   rename_i hu
   rw [hu] at hok
   simp at hok
  case h_14 =>
   rename_i b hu
   rw [hu] at hok
   split at h
   ·rename_i es clock hb
    rw [e b (Array.getElem?_eq_some_iff.1 hb).1, hb]
    dsimp only
    split at h
    ·rename_i hc
     rw [if_pos hc]
     obtain ⟨entries, h1, h⟩ := Option.bind_eq_some_iff.1 h
     have hpl : ∀ y ∈ entries, ∀ p ∈ y.2, sp p.block = true := by
      dsimp only at h
      split at h
      ·simp only [Option.some.injEq] at h
       subst h
       exact fun y hy p hp => hsp p (List.mem_cons_of_mem _ (List.mem_flatMap.2 ⟨y, hy, hp⟩))
      ·simp at h
     refine Option.bind_eq_some_iff.2 ⟨entries, mapM_keep _ _ h1 fun f y hf hy => ?_, h⟩
     obtain ⟨key, k1, k2⟩ := Option.bind_eq_some_iff.1 hf
     refine Option.bind_eq_some_iff.2 ⟨key, k1, ?_⟩
     split at k2
     ·rename_i hfm
      rw [if_pos hfm]
      obtain ⟨z, z1, rfl⟩ := Option.map_eq_some_iff.1 k2
      exact Option.map_eq_some_iff.2 ⟨z, ih _ _ _ (List.mem_of_elem_eq_true hok) z1 (hpl _ hy), rfl⟩
     ·simp at k2
    ·simp at h
   ·simp at h
  all_goals
   exact h
theorem trodAll_keep {L : List Nat} (hL : L.all (subOk P L) = true) (e : ∀ b, b < w.heap.size → w'.heap[b]? = w.heap[b]?) (sp : Nat → Bool) :
  ∀ (ts : List TypeId) (vs : List Value) (ds : List (DataW H)) (ps : List MemPlace), (∀ t ∈ ts, t ∈ L) → DataW.TrodAll enc P w 0 (fun _ => true) true ts vs ds ps → (∀ p ∈ ps, sp p.block = true) → DataW.TrodAll enc P w' 0 sp true ts vs ds ps
 | [], [], [], _, _, h, _ => h
 | t :: ts, v :: vs, d :: ds, ps, ht, h, hsp => by
  obtain ⟨p, q, ⟨fuel, h1⟩, h2, rfl⟩ := h
  exact ⟨p, q, ⟨fuel, trod_keep hL e sp true fuel t _ _ (ht t (List.mem_cons_self ..)) h1 fun p hp => hsp p (List.mem_append_left _ hp)⟩, trodAll_keep hL e sp ts vs ds q (fun u hu => ht u (List.mem_cons_of_mem _ hu)) h2 fun p hp => hsp p (List.mem_append_right _ hp), rfl⟩
 | [], _ :: _, _, _, _, h, _ => h.elim
 | [], [], _ :: _, _, _, h, _ => h.elim
 | _ :: _, [], _, _, _, h, _ => h.elim
 | _ :: _, _ :: _, [], _, _, h, _ => h.elim
end
end Go.Proofs.YtnfmjlhkknndhaaGreat
/-
 The frame of a law: what the arguments are, as the evaluator says it.
-/
namespace Go.Proofs.YtnfmjlhkknndhaaGreat
open Go Go.RowKit
abbrev noS : Nat → Prop := fun _ => False
section
variable {H : Type} {enc : TypeId × Value → H} {P : Program} {w : World} {sp : Nat → Bool} {held : Bool}
theorem mapM_all {α β : Type} {f : α → Option β} : ∀ (l : List α) (xs : List β), l.mapM f = some xs → ∀ a ∈ l, ∃ x, f a = some x
 | [], _, _, a, ha => by simp at ha
 | b :: l, xs, h, a, ha => by
  simp only [List.mapM_cons, Option.bind_eq_bind, Option.pure_def, Option.bind_eq_some_iff, Option.some.injEq] at h
  obtain ⟨x, h1, ys, h2, rfl⟩ := h
  rcases List.mem_cons.1 ha with rfl | ha
  ·exact ⟨x, h1⟩
  ·exact mapM_all l ys h2 a ha
theorem trod_fields {t : TypeId} {fs : Array Field} {fuel : Nat} {cs : List Value} {x : DataW H × List MemPlace} (hu : P.underlying t = some (.struct fs)) (h : DataW.trod enc P w 0 sp held fuel t cs = some x) :
  cs.length = P.cellsOf t ∧ ∃ fuel', ∀ f ∈ fs.toList, ∃ y, DataW.trod enc P w 0 sp held fuel' f.type ((cs.drop f.offset).take (P.cellsOf f.type)) = some y := by
 cases fuel with
 | zero => simp [DataW.trod] at h
 | succ fuel =>
  unfold DataW.trod at h
  rw [hu] at h
  split at h
  all_goals first | (rename_i h0; simp at h0; done) | skip
  ·rename_i fs' hf
   simp only [Option.some.injEq, TypeDesc.struct.injEq] at hf
   subst hf
   split at h
   ·rename_i hc
    obtain ⟨xs, h1, rfl⟩ := Option.map_eq_some_iff.1 h
    exact ⟨hc, fuel, mapM_all _ _ h1⟩
   ·simp at h
  ·rename ∀ (fs_1 : Array Field), some (TypeDesc.struct fs) = some (TypeDesc.struct fs_1) → False => hh
   exact (hh fs rfl).elim
theorem trod_array {t e : TypeId} {n : Nat} {fuel : Nat} {cs : List Value} {x : DataW H × List MemPlace} (hu : P.underlying t = some (.array n e)) (h : DataW.trod enc P w 0 sp held fuel t cs = some x) :
  cs.length = P.cellsOf t ∧ ∃ fuel', ∀ i, i < n → ∃ y, DataW.trod enc P w 0 sp held fuel' e ((cs.drop (i * P.cellsOf e)).take (P.cellsOf e)) = some y := by
 cases fuel with
 | zero => simp [DataW.trod] at h
 | succ fuel =>
  unfold DataW.trod at h
  rw [hu] at h
  split at h
  all_goals first | (rename_i h0; simp at h0; done) | skip
  ·rename_i n' e' hf
   simp only [Option.some.injEq, TypeDesc.array.injEq] at hf
   obtain ⟨rfl, rfl⟩ := hf
   split at h
   ·rename_i hc
    obtain ⟨xs, h1, rfl⟩ := Option.map_eq_some_iff.1 h
    exact ⟨hc, fuel, fun i hi => mapM_all _ _ h1 i (List.mem_range.2 hi)⟩
   ·simp at h
  ·rename ∀ (k : Nat) (e_1 : TypeId), some (TypeDesc.array n e) = some (TypeDesc.array k e_1) → False => hh
   exact (hh n e rfl).elim
theorem trod_int {t : TypeId} {k : IntKind} {fuel : Nat} {cs : List Value} {x : DataW H × List MemPlace} (hu : P.underlying t = some (.int k)) (h : DataW.trod enc P w 0 sp held fuel t cs = some x) :
  ∃ n, cs = [.int k n] ∧ (Lit.int k n).wf = true := by
 cases fuel with
 | zero => simp [DataW.trod] at h
 | succ fuel =>
  unfold DataW.trod at h
  rw [hu] at h
  split at h
  all_goals first | (rename_i h0; simp at h0; done) | skip
  ·rename_i k0 k' n hk
   simp only [Option.some.injEq, TypeDesc.int.injEq] at hk
   subst hk
   split at h
   ·rename_i hc
    exact ⟨n, by rw [hc.1], hc.2⟩
   ·simp at h
  ·simp at h
theorem trod_bool {t : TypeId} {fuel : Nat} {cs : List Value} {x : DataW H × List MemPlace} (hu : P.underlying t = some .bool) (h : DataW.trod enc P w 0 sp held fuel t cs = some x) : ∃ b, cs = [.bool b] := by
 cases fuel with
 | zero => simp [DataW.trod] at h
 | succ fuel =>
  unfold DataW.trod at h
  rw [hu] at h
  split at h
  all_goals first | (rename_i h0; simp at h0; done) | skip
  ·exact ⟨_, rfl⟩
  ·simp at h
theorem range_mapM {β : Type} {f : Nat → Option β} {n : Nat} {xs : List β} (h : (List.range n).mapM f = some xs) (i : Nat) (hi : i < n) : ∃ x, f i = some x := mapM_all _ _ h i (List.mem_range.2 hi)
theorem cells_one {a : Addr} {vs : List Value} (h : w.cells? 0 a 1 = some vs) : ∃ v, w.cell? a = some v ∧ vs = [v] := by
 unfold World.cells? at h
 rw [if_pos (Nat.zero_le _)] at h
 simp only [show List.range 1 = [0] from rfl, List.mapM_cons, List.mapM_nil, Option.bind_eq_bind, Option.pure_def, Option.bind_eq_some_iff, Option.some.injEq] at h
 obtain ⟨x, h1, ys, rfl, rfl⟩ := h
 exact ⟨x, by simpa [Addr.add] using h1, rfl⟩
theorem cell_some {a : Addr} {v : Value} (h : w.cell? a = some v) : ∃ arr ty fr, w.heap[a.block]? = some (.cells arr ty fr) ∧ a.spot = none ∧ arr[a.off]? = some v := by
 unfold World.cell? at h
 split at h
 ·rename_i c t f hb
  split at h
  ·simp at h
  ·rename_i hs
   exact ⟨c, t, f, hb, by simpa using hs, h⟩
 ·simp at h
theorem trod_words {t e : TypeId} {fuel : Nat} {cs : List Value} {x : DataW H × List MemPlace} (hu : P.underlying t = some (.slice e)) (he : P.underlying e = some (.int .u32)) (hc : P.cellsOf e = 1)
  (h : DataW.trod enc P w 0 sp held fuel t cs = some x) : ∃ s l, cs = [s] ∧ WordsR (Ctx.args noS) w l s ∧ Wd l ∧ l.length ≤ maxLen := by
 cases fuel with
 | zero => simp [DataW.trod] at h
 | succ fuel =>
  unfold DataW.trod at h
  rw [hu] at h
  split at h
  all_goals first | (rename_i h0; simp at h0; done) | skip
  ·exact ⟨_, [], rfl, ⟨none, 0, rfl, Nat.le_refl _, fun h => absurd h (by simp)⟩, Wd.nil, Nat.zero_le _⟩
  ·rename_i e' a len cap hs
   simp only [Option.some.injEq, TypeDesc.slice.injEq] at hs
   subst hs
   dsimp only at h
   split at h
   ·rename_i hcc
    obtain ⟨elems, h1, h⟩ := Option.bind_eq_some_iff.1 h
    rw [hc] at h1
    have hel : ∀ i, i < len → ∃ n, w.cell? (a.add (i * 1)) = some (.int .u32 n) ∧ 0 ≤ n ∧ n < 4294967296 := by
     intro i hi
     obtain ⟨y, hy⟩ := range_mapM h1 i hi
     obtain ⟨vs, g1, g2⟩ := Option.bind_eq_some_iff.1 hy
     obtain ⟨v, g3, rfl⟩ := cells_one g1
     obtain ⟨n, g4, g5⟩ := trod_int he g2
     simp only [List.cons.injEq, and_true] at g4
     subst g4
     have : 0 ≤ n ∧ n ≤ 4294967295 := by simpa [Lit.wf, IntKind.min, IntKind.max, IntKind.signed, IntKind.bits] using g5
     exact ⟨n, g3, by omega⟩
    obtain ⟨l, hl1, hl2⟩ : ∃ l : List Int, l.length = len ∧ ∀ i n, l[i]? = some n → w.cell? (a.add (i * 1)) = some (.int .u32 n) ∧ 0 ≤ n ∧ n < 4294967296 := by
     refine ⟨(List.range len).pmap (fun i hi => Classical.choose (hel i (List.mem_range.1 hi))) (fun i hi => hi), by simp, fun i n hn => ?_⟩
     rw [List.getElem?_pmap] at hn
     simp only [Option.pmap_eq_some_iff] at hn
     obtain ⟨k, hk, hm, rfl⟩ := hn
     have hi : i < len := by rw [← List.length_range (n := len)]; exact (List.getElem?_eq_some_iff.1 hm).1
     have : k = i := by rw [List.getElem?_range hi] at hm; simpa using hm.symm
     subst this
     exact Classical.choose_spec (hel k hi)
    refine ⟨_, l, rfl, ⟨some a, cap, by rw [hl1], by rw [hl1]; exact hcc.2.1, fun hp => ?_⟩, fun y hy => ?_, by rw [hl1]; exact Nat.le_trans hcc.2.1 hcc.2.2⟩
    ·obtain ⟨v0, _⟩ := hl2 0 l[0] (by simp [hp])
     rw [Nat.zero_mul, show a.add 0 = a from rfl] at v0
     obtain ⟨arr, ty, fr, r1, r2, r3⟩ := cell_some v0
     refine ⟨a.block, a.off, by cases a; simp_all, id, arr, ty, fr, r1, fun j v hv => ?_⟩
     simp only [List.getElem?_map, Option.map_eq_some_iff] at hv
     obtain ⟨n, hn, rfl⟩ := hv
     obtain ⟨s1, _⟩ := hl2 j n hn
     obtain ⟨arr', ty', fr', t1, t2, t3⟩ := cell_some s1
     have hb : (a.add (j * 1)).block = a.block := by unfold Addr.add; split <;> rfl
     have ho : (a.add (j * 1)).off = a.off + j := by unfold Addr.add; split <;> simp_all
     rw [hb, r1] at t1
     simp only [Option.some.injEq, Obj.cells.injEq] at t1
     rw [ho] at t3
     rw [t1.1]; exact t3
    ·obtain ⟨i, hi, rfl⟩ := List.getElem_of_mem hy
     exact (hl2 i l[i] (by simp [hi])).2
   ·simp at h
  ·simp at h
end
end Go.Proofs.YtnfmjlhkknndhaaGreat
/-
 The frame of a law that may read a package-level array: what is laid; descriptions of numbers; what the contract of a law gives.
-/
namespace Go.Proofs.YtnfmjlhkknndhaaGreat
open Go Go.ChangeShapes Go.WideShapes Go.ChangeAt Go.RowKit
theorem own : ownKnob Tryz.prog.godebug = none := by kernel_rfl
theorem agg_cells {v : Value} {a b : Value} {r : List Value} (h : v.cells.toList = a :: b :: r) : v = .agg (a :: b :: r).toArray := by
 cases v <;> first | (simp [Value.cells] at h; done) | skip
 rename_i cs
 have : cs = (a :: b :: r).toArray := by apply Array.ext'; simpa [Value.cells] using h
 rw [this]
theorem len_two {cs : List Value} (h : cs.length = 2) : ∃ a b, cs = [a, b] := by
 match cs, h with
 | [a, b], _ => exact ⟨a, b, rfl⟩
theorem cells_u32 : Tryz.prog.cellsOf 99 = 1 := by kernel_rfl
theorem cells_bool : Tryz.prog.cellsOf 4 = 1 := by kernel_rfl
theorem cells_words : Tryz.prog.cellsOf 27 = 1 := by kernel_rfl
theorem cells_raw : Tryz.prog.cellsOf 29 = 2 := by kernel_rfl
section
variable {H : Type} {enc : TypeId × Value → H} {w : World} {sp : Nat → Bool} {held : Bool}
theorem repc_raw {fuel : Nat} {cs : List Value} {y : DataW H × List MemPlace} (h : DataW.trod enc Tryz.prog w 0 sp held fuel 29 cs = some y) : ∃ b l, RepC (Ctx.args noS) w (rawM b l) cs ∧ Wd l ∧ l.length < 9223372036854775808 := by
 obtain ⟨hl, f', hf⟩ := trod_fields Tryz.underlying29 h
 rw [cells_raw] at hl
 obtain ⟨a, b, e⟩ := len_two hl
 rw [e] at hf ⊢
 clear e hl h
 obtain ⟨y0, h0⟩ := hf _ (List.mem_cons_self ..)
 obtain ⟨y1, h1⟩ := hf _ (List.mem_cons_of_mem _ (List.mem_cons_self ..))
 dsimp only at h0 h1
 rw [cells_bool] at h0
 rw [cells_words] at h1
 obtain ⟨b0, e0⟩ := trod_bool Tryz.underlying4 h0
 obtain ⟨s, l, e1, hw, hwd, hlen⟩ := trod_words Tryz.underlying27 Tryz.underlying99 cells_u32 h1
 have z0 : [a] = [.bool b0] := e0
 have z1 : [b] = [s] := e1
 simp only [List.cons.injEq, and_true] at z0 z1
 subst z0 z1
 refine ⟨b0, l, ⟨_, _, rfl, rfl, _, _, rfl, ⟨_, rfl, hw⟩, rfl⟩, hwd, ?_⟩
 have : maxLen = 2 ^ 63 - 1 := rfl
 omega
theorem rep_raw {v : Value} {d : DataW H} {ps : List MemPlace} (h : DataW.Trod enc Tryz.prog w 0 sp held 29 v d ps) : ∃ b l, Rep1 (Ctx.args noS) w (rawM b l) v ∧ Wd l ∧ l.length < 9223372036854775808 := by
 obtain ⟨fuel, h⟩ := h
 obtain ⟨hl, _⟩ := trod_fields Tryz.underlying29 h
 rw [cells_raw] at hl
 obtain ⟨a, b, e⟩ := len_two hl
 obtain ⟨b0, l, h1, h2, h3⟩ := repc_raw h
 rw [e] at h1
 exact ⟨b0, l, (rep1_agg rfl).2 ⟨_, agg_cells e, h1⟩, h2, h3⟩
theorem post_same {P : Program} {f : Func} {s : ChangeSpec} {apart fresh handsOn again : Bool} {W W' : World} {args : Array Value} {v : Value} {ds gs : List (DataW H)} {before pa pv : List MemPlace}
  (hW : DataW.Whole enc P f.params.toList s.vars apart W args.toList ds gs before)
  (hres : ∀ (b : Nat) (sp : Nat → Bool) (hd : Bool), DataW.TrodAll enc P W' b sp hd f.resultTypes.toList (v.resultList f.resultTypes.size) (s.fn H (ds ++ gs)).results [])
  (hargs : ∀ sp : Nat → Bool, (∀ p ∈ before, sp p.block = true) → DataW.TrodAll enc P W' 0 sp true f.params.toList args.toList (s.fn H (ds ++ gs)).args pa)
  (hvars : ∀ sp : Nat → Bool, (∀ p ∈ before, sp p.block = true) → DataW.TrodVars enc P W' sp s.vars (s.fn H (ds ++ gs)).vars pv)
  (hps : before = pa ++ pv) (hk : W.keptBut W' (· ∈ before)) (hfz : ∀ a : Addr, a.block < W.heap.size → W'.frozen? a = W.frozen? a)
  (hok : ∀ (j : Nat) (t : TypeId) (r : Value), f.resultTypes[j]? = some t → (v.resultList f.resultTypes.size)[j]? = some r → Value.okWide P W' .any 0 t r) :
  s.post enc P f apart fresh handsOn again W args v W' := by
 have hlt : ∀ p ∈ before, p.block < W.heap.size := hW.lt
 have hold : ∀ p ∈ before, (fun b => decide (b < W.heap.size)) p.block = true := fun p hp => by simpa using hlt p hp
 refine ⟨ds, gs, before, [], pa, pv, hW, hres _ _ _, hargs _ hold, hvars _ hold, World.keptBut_mono (fun p hp => ⟨hp, ?_⟩) hk, fun _ => ?_⟩
 ·rw [hps, List.mem_append] at hp
  exact Or.inr hp
 ·obtain ⟨_, _, _, _, _, hz, hn⟩ := hW
  refine ⟨hok, _, _, ([] ++ pa) ++ pv, ⟨[] ++ pa, pv, trodAll_append (hargs _ (fun _ _ => rfl)) (hres _ _ _), hvars _ (fun _ _ => rfl), rfl, ?_, ?_⟩, ?_⟩
  ·intro b off hp
   have hm : MemPlace.cell b off ∈ before := by rw [hps]; simpa using hp
   rw [hfz ⟨b, off, none⟩ (hlt _ hm)]
   exact hz b off hm
  ·intro ha
   have := hn ha
   rw [hps] at this
   simpa using this
  ·intro p hp _
   rw [hps]
   simpa using hp
set_option maxRecDepth 100000 in
theorem law_calls {fn : Func} {s : ChangeSpec} (ctr : Ctr Tryz.prog) (hvars : s.vars = []) (hrt : fn.resultTypes = #[4]) {L : List Nat} (hL : L.all (subOk Tryz.prog L) = true) (hin : ∀ t ∈ fn.params.toList, t ∈ L) {apart fresh handsOn again : Bool} {W : World} {args : Array Value} {ds gs : List (DataW H)} {before : List MemPlace}
  (hW : DataW.Whole enc Tryz.prog fn.params.toList s.vars apart W args.toList ds gs before) (hG : GW noS W)
  (hrep : ∃ ms p, ctr.spec ms = some (p, .ret (.bool true)) ∧ p.holds ∧ RepAll (Ctx.args noS) W ms args.toList)
  (hspec : s.fn H (ds ++ gs) = { results := [.lit (.bool true)], args := ds }) :
  Calls Tryz.prog ctr.f args W fun e W' => ∃ v, e = .returned v ∧ s.post enc Tryz.prog fn apart fresh handsOn again W args v W' := by
 obtain ⟨ms, p, h1, h2, h3⟩ := hrep
 refine (ctr.ok noS W ms args p _ h1 h2 (fun _ h => h.elim) hG h3).mono fun e W' ⟨hE, hh⟩ => ?_
 obtain ⟨v, rfl, hr⟩ : ∃ v, e = .returned v ∧ Rep (Ctx.res noS) W' (.bool true) v := by
  cases e with
  | returned v => exact ⟨v, rfl, hh⟩
  | panicked _ => exact hh.elim
  | outgrown => exact hh.elim
 have hv : v = .bool true := rep_bool hr
 subst hv
 refine ⟨_, rfl, ?_⟩
 have hW' := hW
 obtain ⟨p, q, hA, hV, rfl, _, _⟩ := hW
 rw [hvars] at hV
 obtain ⟨rfl, rfl⟩ : gs = [] ∧ q = [] := trodVars_none hV
 refine post_same (pa := p) (pv := []) hW' (fun _ _ _ => ?_) (fun sp hsp => ?_) (fun _ _ => ?_) rfl (hE.kept _) hE.frz ?_
 ·rw [hspec, hrt]
  exact trodAll_cons_mk (shut_bool Tryz.underlying4 _) trodAll_mk0
 ·rw [hspec]
  exact trodAll_keep hL hE.block sp _ _ _ _ hin hA fun p hp => hsp p (List.mem_append_left _ hp)
 ·rw [hspec, hvars]; rfl
 ·have hw : Value.okWide Tryz.prog W' .any 0 4 (.bool true) := okWide_bool_mk Tryz.underlying4 true
  exact ok_one hrt rfl hw
end
end Go.Proofs.YtnfmjlhkknndhaaGreat
/-
 The frame of the laws of chapter 17: descriptions of forms and of matrices.
-/
namespace Go.Proofs.YtnfmjlhkknndhaaGreat
open Go Go.ChangeShapes Go.WideShapes Go.ChangeAt Go.RowKit
theorem gw0 (W : World) : GW noS W := fun h => by cases h
theorem len_6 {cs : List Value} (h : cs.length = 6) : ∃ a b c d e f, cs = [a, b, c, d, e, f] := by
 match cs, h with
 | [a, b, c, d, e, f], _ => exact ⟨a, b, c, d, e, f, rfl⟩
theorem len_8 {cs : List Value} (h : cs.length = 8) : ∃ a b c d e f g i, cs = [a, b, c, d, e, f, g, i] := by
 match cs, h with
 | [a, b, c, d, e, f, g, i], _ => exact ⟨a, b, c, d, e, f, g, i, rfl⟩
theorem cells_3raw : Tryz.prog.cellsOf 30 = 6 := by kernel_rfl
theorem cells_4raw : Tryz.prog.cellsOf 31 = 8 := by kernel_rfl
theorem cells_odd : Tryz.prog.cellsOf 33 = 14 := by kernel_rfl
section
variable {H : Type} {enc : TypeId × Value → H} {w : World} {sp : Nat → Bool} {held : Bool}
theorem repc_3raw {fuel : Nat} {cs : List Value} {y : DataW H × List MemPlace} (h : DataW.trod enc Tryz.prog w 0 sp held fuel 30 cs = some y) :
  ∃ b1 b2 b3 l1 l2 l3, RepC (Ctx.args noS) w (.st [.st [.bool b1, .ws l1], .st [.bool b2, .ws l2], .st [.bool b3, .ws l3]]) cs ∧ (Wd l1 ∧ l1.length < 9223372036854775808) ∧ (Wd l2 ∧ l2.length < 9223372036854775808) ∧ (Wd l3 ∧ l3.length < 9223372036854775808) := by
 obtain ⟨hl, f', hf⟩ := trod_array Tryz.underlying30 h
 rw [cells_3raw] at hl
 rw [cells_raw] at hf
 obtain ⟨a0, a1, a2, a3, a4, a5, e⟩ := len_6 hl
 rw [e] at hf ⊢
 obtain ⟨y0, h0⟩ := hf 0 (by decide)
 obtain ⟨y1, h1⟩ := hf 1 (by decide)
 obtain ⟨y2, h2⟩ := hf 2 (by decide)
 obtain ⟨b1, l1, r1, w1⟩ := repc_raw (cs := [a0, a1]) h0
 obtain ⟨b2, l2, r2, w2⟩ := repc_raw (cs := [a2, a3]) h1
 obtain ⟨b3, l3, r3, w3⟩ := repc_raw (cs := [a4, a5]) h2
 exact ⟨b1, b2, b3, l1, l2, l3, ⟨[a0, a1], _, rfl, r1, [a2, a3], _, rfl, r2, [a4, a5], _, rfl, r3, rfl⟩, w1, w2, w3⟩
theorem repc_4raw {fuel : Nat} {cs : List Value} {y : DataW H × List MemPlace} (h : DataW.trod enc Tryz.prog w 0 sp held fuel 31 cs = some y) :
  ∃ b1 b2 b3 b4 l1 l2 l3 l4, RepC (Ctx.args noS) w (.st [.st [.bool b1, .ws l1], .st [.bool b2, .ws l2], .st [.bool b3, .ws l3], .st [.bool b4, .ws l4]]) cs := by
 obtain ⟨hl, f', hf⟩ := trod_array Tryz.underlying31 h
 rw [cells_4raw] at hl
 rw [cells_raw] at hf
 obtain ⟨a0, a1, a2, a3, a4, a5, a6, a7, e⟩ := len_8 hl
 rw [e] at hf ⊢
 obtain ⟨y0, h0⟩ := hf 0 (by decide)
 obtain ⟨y1, h1⟩ := hf 1 (by decide)
 obtain ⟨y2, h2⟩ := hf 2 (by decide)
 obtain ⟨y3, h3⟩ := hf 3 (by decide)
 obtain ⟨b1, l1, r1, _⟩ := repc_raw (cs := [a0, a1]) h0
 obtain ⟨b2, l2, r2, _⟩ := repc_raw (cs := [a2, a3]) h1
 obtain ⟨b3, l3, r3, _⟩ := repc_raw (cs := [a4, a5]) h2
 obtain ⟨b4, l4, r4, _⟩ := repc_raw (cs := [a6, a7]) h3
 exact ⟨b1, b2, b3, b4, l1, l2, l3, l4, ⟨[a0, a1], _, rfl, r1, [a2, a3], _, rfl, r2, [a4, a5], _, rfl, r3, [a6, a7], _, rfl, r4, rfl⟩⟩
theorem rep_odd {v : Value} {d : DataW H} {ps : List MemPlace} (h : DataW.Trod enc Tryz.prog w 0 sp held 33 v d ps) :
  ∃ b1 b2 b3 c1 c2 c3 c4 l1 l2 l3 k1 k2 k3 k4, Rep1 (Ctx.args noS) w (.st [.st [.st [.bool b1, .ws l1], .st [.bool b2, .ws l2], .st [.bool b3, .ws l3]], .st [.st [.bool c1, .ws k1], .st [.bool c2, .ws k2], .st [.bool c3, .ws k3], .st [.bool c4, .ws k4]]]) v ∧
   (Wd l1 ∧ l1.length < 9223372036854775808) ∧ (Wd l2 ∧ l2.length < 9223372036854775808) ∧ (Wd l3 ∧ l3.length < 9223372036854775808) := by
 obtain ⟨fuel, h⟩ := h
 obtain ⟨hl, f', hf⟩ := trod_fields Tryz.underlying33 h
 rw [cells_odd] at hl
 match hc : v.cells.toList, hl with
 | [a0, a1, a2, a3, a4, a5, a6, a7, a8, a9, a10, a11, a12, a13], _ =>
  rw [hc] at hf
  obtain ⟨y0, h0⟩ := hf _ (List.mem_cons_self ..)
  obtain ⟨y1, h1⟩ := hf _ (List.mem_cons_of_mem _ (List.mem_cons_self ..))
  dsimp only at h0 h1
  rw [cells_3raw] at h0
  rw [cells_4raw] at h1
  obtain ⟨b1, b2, b3, l1, l2, l3, r1, w1, w2, w3⟩ := repc_3raw (cs := [a0, a1, a2, a3, a4, a5]) h0
  obtain ⟨c1, c2, c3, c4, k1, k2, k3, k4, r2⟩ := repc_4raw (cs := [a6, a7, a8, a9, a10, a11, a12, a13]) h1
  exact ⟨b1, b2, b3, c1, c2, c3, c4, l1, l2, l3, k1, k2, k3, k4, (rep1_agg rfl).2 ⟨_, agg_cells hc, [a0, a1, a2, a3, a4, a5], _, rfl, r1, [a6, a7, a8, a9, a10, a11, a12, a13], _, rfl, r2, rfl⟩, w1, w2, w3⟩
end
end Go.Proofs.YtnfmjlhkknndhaaGreat
