/-
  Contracts of functions: the reference of layer 2.
-/
import Derived.Test.YtkokpkhdkbeofaaGreatW4


/-
  Contracts of functions: package bound: powers of 2, cells, spans.
-/
namespace Go.Proofs.YtkokpkhdkbeofaaGreat
open Go Go.RowKit

def s_two : FSpec
  | [.int .i64 k] => some (some (0 ≤ k ∧ k ≤ 200000), .ret (.big (2 ^ k.toNat) (k.toNat + 1)))
  | _ => none
structure TwX where
  j : Nat
structure TwI (K : Nat) (x : TwX) : Prop where
  j : x.j ≤ K / 4000
def a_two (K : Nat) : Nat → MS → Option LoopAnn
  | 2, _ => some (.inv TwX (TwI K) (fun x => ⟨27, [(0, .int .i64 (K - 4000 * x.j : Nat)), (2, .bp 0 0), (3, .bp 1 0)], [⟨false, .one (.big 0 0)⟩, ⟨false, .one (.big (2 ^ (K % 4000 + 4000 * x.j)) (K % 4000 + 4000 * x.j + 1))⟩], 0⟩) (fun x => K / 4000 - x.j))
  | _, _ => none
theorem vc_two (K : Nat) : (((-9223372036854775808 : Int) ≤ (2 : Int) ∧ (2 : Int) ≤ (9223372036854775807 : Int)) ∧ ((4000 : Int) = (0 : Int) → False) ∧ ((64 : Nat) ≤ (1000000 : Nat) ∧ (2 : Int) = (2 : Int) ∧ (0 : Int) ≤ Int.tmod (↑K : Int) (4000 : Int) ∧ Int.tmod (↑K : Int) (4000 : Int) ≤ (4000 : Int)) ∧ (∃ i, TwI K i ∧ ((↑K : Int) = (↑(K - (4000 : Nat) * TwX.j i) : Int) ∧ (0 : Nat) = (0 : Nat) ∧ (0 : Nat) = (0 : Nat) ∧ True) ∧ ((0 : Int) = (0 : Int) ∧ ((0 : Nat) ≤ (0 : Nat) ∨ Int.natAbs (0 : Int) < (2 : Nat) ^ (0 : Nat))) ∧ ((2 : Int) ^ Int.toNat (Int.tmod (↑K : Int) (4000 : Int)) = (2 : Int) ^ (K % (4000 : Nat) + (4000 : Nat) * TwX.j i) ∧ (Int.toNat (Int.tmod (↑K : Int) (4000 : Int)) + (1 : Nat) ≤ K % (4000 : Nat) + (4000 : Nat) * TwX.j i + (1 : Nat) ∨ Int.natAbs ((2 : Int) ^ Int.toNat (Int.tmod (↑K : Int) (4000 : Int))) < (2 : Nat) ^ (K % (4000 : Nat) + (4000 : Nat) * TwX.j i + (1 : Nat)))) ∧ True) ∧ ∀ (i : TwX), TwI K i → bif decide ((↑(K - (4000 : Nat) * TwX.j i) : Int) ≥ (4000 : Int)) then ((-9223372036854775808 : Int) ≤ (2 : Int) ∧ (2 : Int) ≤ (9223372036854775807 : Int)) ∧ ((64 : Nat) ≤ (1000000 : Nat) ∧ (2 : Int) = (2 : Int) ∧ (0 : Int) ≤ (4000 : Int) ∧ (4000 : Int) ≤ (4000 : Int)) ∧ (K % (4000 : Nat) + (4000 : Nat) * TwX.j i + (1 : Nat) ≤ (1000000 : Nat) ∧ Int.toNat (4000 : Int) + (1 : Nat) ≤ (1000000 : Nat)) ∧ ∃ j, TwI K j ∧ ((IntKind.wrap IntKind.i64 ((↑(K - (4000 : Nat) * TwX.j i) : Int) - (4000 : Int)) = (↑(K - (4000 : Nat) * TwX.j j) : Int) ∧ (0 : Nat) = (0 : Nat) ∧ (0 : Nat) = (0 : Nat) ∧ True) ∧ ((0 : Int) = (0 : Int) ∧ ((0 : Nat) ≤ (0 : Nat) ∨ Int.natAbs (0 : Int) < (2 : Nat) ^ (0 : Nat))) ∧ ((2 : Int) ^ (K % (4000 : Nat) + (4000 : Nat) * TwX.j i) * (2 : Int) ^ Int.toNat (4000 : Int) = (2 : Int) ^ (K % (4000 : Nat) + (4000 : Nat) * TwX.j j) ∧ (K % (4000 : Nat) + (4000 : Nat) * TwX.j i + (1 : Nat) + (Int.toNat (4000 : Int) + (1 : Nat)) ≤ K % (4000 : Nat) + (4000 : Nat) * TwX.j j + (1 : Nat) ∨ Int.natAbs ((2 : Int) ^ (K % (4000 : Nat) + (4000 : Nat) * TwX.j i) * (2 : Int) ^ Int.toNat (4000 : Int)) < (2 : Nat) ^ (K % (4000 : Nat) + (4000 : Nat) * TwX.j j + (1 : Nat)))) ∧ True) ∧ K / (4000 : Nat) - TwX.j j < K / (4000 : Nat) - TwX.j i else (2 : Int) ^ (K % (4000 : Nat) + (4000 : Nat) * TwX.j i) = (2 : Int) ^ K ∧ (K % (4000 : Nat) + (4000 : Nat) * TwX.j i + (1 : Nat) ≤ K + (1 : Nat) ∨ Int.natAbs ((2 : Int) ^ (K % (4000 : Nat) + (4000 : Nat) * TwX.j i)) < (2 : Nat) ^ (K + (1 : Nat)))) = evFn (env [c_iof, c_ipow2, c_mul] (a_two K)) Tryz.f66 [.int .i64 K] (MRes.sat (.ret (.big (2 ^ K) (K + 1)))) := by kernel_rfl
theorem p_two : Good Tryz.f66 s_two := by
  intro ms p r h hp
  unfold s_two at h
  split at h
  · rename_i k
    simp only [Option.some.injEq, Prod.mk.injEq] at h
    obtain ⟨rfl, rfl⟩ := h
    obtain ⟨h1, h2⟩ : 0 ≤ k ∧ k ≤ 200000 := hp
    obtain ⟨K, rfl⟩ := Int.eq_ofNat_of_zero_le h1
    refine ⟨env [c_iof, c_ipow2, c_mul] (a_two K), ?_⟩
    rw [show ((K : Int)).toNat = K from rfl, ← vc_two K]
    have e1 : Int.tmod (K : Int) 4000 = ((K % 4000 : Nat) : Int) := rfl
    rw [e1, show ((K % 4000 : Nat) : Int).toNat = K % 4000 from rfl, show Int.toNat 4000 = 4000 from rfl]
    have hK := Nat.div_add_mod K 4000
    refine ⟨by omega, fun h => by omega, ⟨by omega, rfl, by omega, by omega⟩, ⟨⟨0⟩, ⟨Nat.zero_le _⟩, ⟨rfl, rfl, rfl, True.intro⟩, ⟨rfl, .inl (Nat.le_refl _)⟩, ⟨rfl, .inl (Nat.le_refl _)⟩, True.intro⟩, ?_⟩
    rintro ⟨j⟩ hI
    have hj : j ≤ K / 4000 := hI.j
    clear hI
    dsimp only
    by_cases hc : ((K - 4000 * j : Nat) : Int) ≥ 4000
    · rw [decide_eq_true hc, cond_true]
      have e2 : IntKind.wrap IntKind.i64 (((K - 4000 * j : Nat) : Int) - 4000) = ((K - 4000 * (j + 1) : Nat) : Int) := by rw [i64w (by omega) (by omega)]; omega
      have e3 : K % 4000 + 4000 * (j + 1) = K % 4000 + 4000 * j + 4000 := by omega
      have e4 : (2 : Int) ^ (K % 4000 + 4000 * j) * 2 ^ 4000 = 2 ^ (K % 4000 + 4000 * (j + 1)) := by rw [e3]; exact (Int.pow_add _ _ _).symm
      have h5 : ((2 : Int) ^ (K % 4000 + 4000 * j) * 2 ^ 4000).natAbs < 2 ^ (K % 4000 + 4000 * (j + 1) + 1) := by rw [e4]; exact two_lt _
      exact ⟨by omega, ⟨by omega, rfl, by omega, by omega⟩, ⟨by omega, by omega⟩, ⟨j + 1⟩, ⟨by show j + 1 ≤ K / 4000; omega⟩, ⟨⟨e2, rfl, rfl, True.intro⟩, ⟨rfl, .inl (Nat.le_refl _)⟩, ⟨e4, .inr h5⟩, True.intro⟩, by show K / 4000 - (j + 1) < K / 4000 - j; omega⟩
    · rw [decide_eq_false hc, cond_false]
      have e : K % 4000 + 4000 * j = K := by omega
      rw [e]
      exact ⟨rfl, .inl (Nat.le_refl _)⟩
  · simp at h
def c_two : Ctr Tryz.prog := ⟨66, s_two, fun args w => Tryz.call66 args w, fn_ok mix Tryz.func66 s_two p_two⟩

def s_bfloor : FSpec
  | [.big a n, .big b m] => some (some (n ≤ 900000 ∧ m ≤ 900000 ∧ b ≠ 0), .ret (.big (a / b) n))
  | _ => none
theorem vc_bfloor (a b : Int) (n m : Nat) : ((n ≤ (900000 : Nat) ∧ m ≤ (900000 : Nat) ∧ (b = (0 : Int) → False)) ∧ a / b = a / b ∧ (n ≤ n ∨ Int.natAbs (a / b) < (2 : Nat) ^ n)) = evFn (env [c_divmod1] noAnn) Tryz.f85 [.big a n, .big b m] (MRes.sat (.ret (.big (a / b) n))) := by kernel_rfl
theorem p_bfloor : Good Tryz.f85 s_bfloor := by
  intro ms p r h hp
  unfold s_bfloor at h
  split at h
  · rename_i a n b m
    simp only [Option.some.injEq, Prod.mk.injEq] at h
    obtain ⟨rfl, rfl⟩ := h
    obtain ⟨h1, h2, h3⟩ : n ≤ 900000 ∧ m ≤ 900000 ∧ b ≠ 0 := hp
    refine ⟨env [c_divmod1] noAnn, ?_⟩
    rw [← vc_bfloor a b n m]
    first | done | (and_intros <;> first | exact True.intro | rfl | exact .inl (Nat.le_refl _) | omega)
  · simp at h
def c_bfloor : Ctr Tryz.prog := ⟨85, s_bfloor, fun args w => Tryz.call85 args w, fn_ok mix Tryz.func85 s_bfloor p_bfloor⟩
def s_bceil : FSpec
  | [.big a n, .big b m] => some (some (n ≤ 900000 ∧ m ≤ 900000 ∧ b ≠ 0), .ret (.big (ce a b) n))
  | _ => none
theorem vc_bceil (a b : Int) (n m : Nat) : (n ≤ (1000000 : Nat) ∧ (n ≤ (900000 : Nat) ∧ m ≤ (900000 : Nat) ∧ (b = (0 : Int) → False)) ∧ n ≤ (1000000 : Nat) ∧ -(-a / b) = ce a b ∧ (n ≤ n ∨ Int.natAbs (-(-a / b)) < (2 : Nat) ^ n)) = evFn (env [c_neg, c_bfloor] noAnn) Tryz.f138 [.big a n, .big b m] (MRes.sat (.ret (.big (ce a b) n))) := by kernel_rfl
theorem p_bceil : Good Tryz.f138 s_bceil := by
  intro ms p r h hp
  unfold s_bceil at h
  split at h
  · rename_i a n b m
    simp only [Option.some.injEq, Prod.mk.injEq] at h
    obtain ⟨rfl, rfl⟩ := h
    obtain ⟨h1, h2, h3⟩ : n ≤ 900000 ∧ m ≤ 900000 ∧ b ≠ 0 := hp
    refine ⟨env [c_neg, c_bfloor] noAnn, ?_⟩
    rw [← vc_bceil a b n m]
    first | done | (and_intros <;> first | exact True.intro | rfl | exact .inl (Nat.le_refl _) | omega)
  · simp at h
def c_bceil : Ctr Tryz.prog := ⟨138, s_bceil, fun args w => Tryz.call138 args w, fn_ok mix Tryz.func138 s_bceil p_bceil⟩
theorem two_pos (k : Nat) : (0 : Int) < 2 ^ k := Int.pow_pos (by omega)
def s_grid : FSpec
  | [.big a n, .int .i64 k] => some (some (n ≤ 300000 ∧ 0 ≤ k ∧ k ≤ 200000), .ret (ratM (redN a (2 ^ k.toNat)) (redD a (2 ^ k.toNat)) n (k.toNat + 1)))
  | _ => none
theorem vc_grid (a k : Int) (n : Nat) : (((0 : Int) ≤ k ∧ k ≤ (200000 : Int)) ∧ (n ≤ (899000 : Nat) ∧ Int.toNat k + (1 : Nat) ≤ (899000 : Nat) ∧ (0 : Int) < (2 : Int) ^ Int.toNat k) ∧ (redN a ((2 : Int) ^ Int.toNat k) = redN a ((2 : Int) ^ Int.toNat k) ∧ (n ≤ n ∨ Int.natAbs (redN a ((2 : Int) ^ Int.toNat k)) < (2 : Nat) ^ n)) ∧ (redD a ((2 : Int) ^ Int.toNat k) = redD a ((2 : Int) ^ Int.toNat k) ∧ (Int.toNat k + (1 : Nat) ≤ Int.toNat k + (1 : Nat) ∨ Int.natAbs (redD a ((2 : Int) ^ Int.toNat k)) < (2 : Nat) ^ (Int.toNat k + (1 : Nat)))) ∧ True) = evFn (env [c_two, c_rnew] noAnn) Tryz.f50 [.big a n, .int .i64 k] (MRes.sat (.ret (ratM (redN a (2 ^ k.toNat)) (redD a (2 ^ k.toNat)) n (k.toNat + 1)))) := by kernel_rfl
theorem p_grid : Good Tryz.f50 s_grid := by
  intro ms p r h hp
  unfold s_grid at h
  split at h
  · rename_i a n k
    simp only [Option.some.injEq, Prod.mk.injEq] at h
    obtain ⟨rfl, rfl⟩ := h
    obtain ⟨h1, h2, h3⟩ : n ≤ 300000 ∧ 0 ≤ k ∧ k ≤ 200000 := hp
    refine ⟨env [c_two, c_rnew] noAnn, ?_⟩
    rw [← vc_grid a k n]
    have hb := two_pos k.toNat
    and_intros <;> first|exact True.intro|rfl|exact .inl (Nat.le_refl _)|omega|exact hb
  · simp at h
def c_grid : Ctr Tryz.prog := ⟨50, s_grid, fun args w => Tryz.call50 args w, fn_ok mix Tryz.func50 s_grid p_grid⟩
def s_cell : FSpec
  | [.big a n, .int .i64 k] => some (some (n ≤ 200000 ∧ 0 ≤ k ∧ k ≤ 200000), .ret (.st [ratM (redN a (2 ^ k.toNat)) (redD a (2 ^ k.toNat)) n (k.toNat + 1), ratM (redN (a + 1) (2 ^ k.toNat)) (redD (a + 1) (2 ^ k.toNat)) (max n 64 + 1) (k.toNat + 1)]))
  | _ => none
theorem vc_cell (a k : Int) (n : Nat) : ((n ≤ (300000 : Nat) ∧ (0 : Int) ≤ k ∧ k ≤ (200000 : Int)) ∧ ((-9223372036854775808 : Int) ≤ (1 : Int) ∧ (1 : Int) ≤ (9223372036854775807 : Int)) ∧ (n ≤ (1000000 : Nat) ∧ (64 : Nat) ≤ (1000000 : Nat)) ∧ (max n (64 : Nat) + (1 : Nat) ≤ (300000 : Nat) ∧ (0 : Int) ≤ k ∧ k ≤ (200000 : Int)) ∧ ((redN a ((2 : Int) ^ Int.toNat k) = redN a ((2 : Int) ^ Int.toNat k) ∧ (n ≤ n ∨ Int.natAbs (redN a ((2 : Int) ^ Int.toNat k)) < (2 : Nat) ^ n)) ∧ (redD a ((2 : Int) ^ Int.toNat k) = redD a ((2 : Int) ^ Int.toNat k) ∧ (Int.toNat k + (1 : Nat) ≤ Int.toNat k + (1 : Nat) ∨ Int.natAbs (redD a ((2 : Int) ^ Int.toNat k)) < (2 : Nat) ^ (Int.toNat k + (1 : Nat)))) ∧ True) ∧ ((redN (a + (1 : Int)) ((2 : Int) ^ Int.toNat k) = redN (a + (1 : Int)) ((2 : Int) ^ Int.toNat k) ∧ (max n (64 : Nat) + (1 : Nat) ≤ max n (64 : Nat) + (1 : Nat) ∨ Int.natAbs (redN (a + (1 : Int)) ((2 : Int) ^ Int.toNat k)) < (2 : Nat) ^ (max n (64 : Nat) + (1 : Nat)))) ∧ (redD (a + (1 : Int)) ((2 : Int) ^ Int.toNat k) = redD (a + (1 : Int)) ((2 : Int) ^ Int.toNat k) ∧ (Int.toNat k + (1 : Nat) ≤ Int.toNat k + (1 : Nat) ∨ Int.natAbs (redD (a + (1 : Int)) ((2 : Int) ^ Int.toNat k)) < (2 : Nat) ^ (Int.toNat k + (1 : Nat)))) ∧ True) ∧ True) = evFn (env [c_grid, c_iof, c_iadd] noAnn) Tryz.f44 [.big a n, .int .i64 k] (MRes.sat (.ret (.st [ratM (redN a (2 ^ k.toNat)) (redD a (2 ^ k.toNat)) n (k.toNat + 1), ratM (redN (a + 1) (2 ^ k.toNat)) (redD (a + 1) (2 ^ k.toNat)) (max n 64 + 1) (k.toNat + 1)]))) := by kernel_rfl
theorem p_cell : Good Tryz.f44 s_cell := by
  intro ms p r h hp
  unfold s_cell at h
  split at h
  · rename_i a n k
    simp only [Option.some.injEq, Prod.mk.injEq] at h
    obtain ⟨rfl, rfl⟩ := h
    obtain ⟨h1, h2, h3⟩ : n ≤ 200000 ∧ 0 ≤ k ∧ k ≤ 200000 := hp
    refine ⟨env [c_grid, c_iof, c_iadd] noAnn, ?_⟩
    rw [← vc_cell a k n]
    first | done | (and_intros <;> first | exact True.intro | rfl | exact .inl (Nat.le_refl _) | omega)
  · simp at h
def c_cell : Ctr Tryz.prog := ⟨44, s_cell, fun args w => Tryz.call44 args w, fn_ok mix Tryz.func44 s_cell p_cell⟩
def s_wrong : FSpec
  | [.int .i64 k] => some (none, .ret (.bool (decide (k < 0 ∨ 200 < k))))
  | _ => none
theorem vc_wrong (k : Int) : (bif decide (k < (0 : Int)) then true = decide (k < (0 : Int) ∨ (200 : Int) < k) else decide (k > (200 : Int)) = decide (k < (0 : Int) ∨ (200 : Int) < k)) = evFn (env [] noAnn) Tryz.f42 [.int .i64 k] (MRes.sat (.ret (.bool (decide (k < 0 ∨ 200 < k))))) := by kernel_rfl
theorem p_wrong : Good Tryz.f42 s_wrong := by
  intro ms p r h hp
  unfold s_wrong at h
  split at h
  · rename_i k
    simp only [Option.some.injEq, Prod.mk.injEq] at h
    obtain ⟨rfl, rfl⟩ := h
    refine ⟨env [] noAnn, ?_⟩
    rw [← vc_wrong k]
    by_cases h1 : k < 0 <;> by_cases h2 : 200 < k <;> simp [h1, h2]
  · simp at h
def c_wrong : Ctr Tryz.prog := ⟨42, s_wrong, fun args w => Tryz.call42 args w, fn_ok mix Tryz.func42 s_wrong p_wrong⟩
def s_babs : FSpec
  | [.st [.big a n, .big b m]] => some (some (n ≤ 900000 ∧ m ≤ 900000), .ret (ratM a.natAbs b n m))
  | _ => none
theorem vc_babs (a b : Int) (n m : Nat) : (n ≤ (1000000 : Nat) ∧ ((↑(Int.natAbs a) : Int) = (↑(Int.natAbs a) : Int) ∧ (n ≤ n ∨ Int.natAbs (↑(Int.natAbs a) : Int) < (2 : Nat) ^ n)) ∧ (b = b ∧ (m ≤ m ∨ Int.natAbs b < (2 : Nat) ^ m)) ∧ True) = evFn (env [c_abs] noAnn) Tryz.f61 [.st [.big a n, .big b m]] (MRes.sat (.ret (ratM a.natAbs b n m))) := by kernel_rfl
theorem p_babs : Good Tryz.f61 s_babs := by
  intro ms p r h hp
  unfold s_babs at h
  split at h
  · rename_i a n b m
    simp only [Option.some.injEq, Prod.mk.injEq] at h
    obtain ⟨rfl, rfl⟩ := h
    obtain ⟨h1, h2⟩ : n ≤ 900000 ∧ m ≤ 900000 := hp
    refine ⟨env [c_abs] noAnn, ?_⟩
    rw [← vc_babs a b n m]
    first | done | (and_intros <;> first | exact True.intro | rfl | exact .inl (Nat.le_refl _) | omega)
  · simp at h
def c_babs : Ctr Tryz.prog := ⟨61, s_babs, fun args w => Tryz.call61 args w, fn_ok mix Tryz.func61 s_babs p_babs⟩
def s_sadd : FSpec
  | [.st [.big a n, .big b m], .st [.big c k, .big d l]] => some (some (n ≤ 900000 ∧ m ≤ 900000 ∧ k ≤ 900000 ∧ l ≤ 900000), .ret (ratM (a + c) (b + d) (max n k + 1) (max m l + 1)))
  | _ => none
theorem vc_sadd (a b c d : Int) (n m k l : Nat) : ((n ≤ (1000000 : Nat) ∧ k ≤ (1000000 : Nat)) ∧ (m ≤ (1000000 : Nat) ∧ l ≤ (1000000 : Nat)) ∧ (a + c = a + c ∧ (max n k + (1 : Nat) ≤ max n k + (1 : Nat) ∨ Int.natAbs (a + c) < (2 : Nat) ^ (max n k + (1 : Nat)))) ∧ (b + d = b + d ∧ (max m l + (1 : Nat) ≤ max m l + (1 : Nat) ∨ Int.natAbs (b + d) < (2 : Nat) ^ (max m l + (1 : Nat)))) ∧ True) = evFn (env [c_iadd] noAnn) Tryz.f68 [.st [.big a n, .big b m], .st [.big c k, .big d l]] (MRes.sat (.ret (ratM (a + c) (b + d) (max n k + 1) (max m l + 1)))) := by kernel_rfl
theorem p_sadd : Good Tryz.f68 s_sadd := by
  intro ms p r h hp
  unfold s_sadd at h
  split at h
  · rename_i a n b m c k d l
    simp only [Option.some.injEq, Prod.mk.injEq] at h
    obtain ⟨rfl, rfl⟩ := h
    obtain ⟨h1, h2, h3, h4⟩ : n ≤ 900000 ∧ m ≤ 900000 ∧ k ≤ 900000 ∧ l ≤ 900000 := hp
    refine ⟨env [c_iadd] noAnn, ?_⟩
    rw [← vc_sadd a b c d n m k l]
    first | done | (and_intros <;> first | exact True.intro | rfl | exact .inl (Nat.le_refl _) | omega)
  · simp at h
def c_sadd : Ctr Tryz.prog := ⟨68, s_sadd, fun args w => Tryz.call68 args w, fn_ok mix Tryz.func68 s_sadd p_sadd⟩
def s_sneg : FSpec
  | [.st [.big a n, .big b m]] => some (some (n ≤ 900000 ∧ m ≤ 900000), .ret (ratM (-b) (-a) m n))
  | _ => none
theorem vc_sneg (a b : Int) (n m : Nat) : (m ≤ (1000000 : Nat) ∧ n ≤ (1000000 : Nat) ∧ (-b = -b ∧ (m ≤ m ∨ Int.natAbs (-b) < (2 : Nat) ^ m)) ∧ (-a = -a ∧ (n ≤ n ∨ Int.natAbs (-a) < (2 : Nat) ^ n)) ∧ True) = evFn (env [c_neg] noAnn) Tryz.f69 [.st [.big a n, .big b m]] (MRes.sat (.ret (ratM (-b) (-a) m n))) := by kernel_rfl
theorem p_sneg : Good Tryz.f69 s_sneg := by
  intro ms p r h hp
  unfold s_sneg at h
  split at h
  · rename_i a n b m
    simp only [Option.some.injEq, Prod.mk.injEq] at h
    obtain ⟨rfl, rfl⟩ := h
    obtain ⟨h1, h2⟩ : n ≤ 900000 ∧ m ≤ 900000 := hp
    refine ⟨env [c_neg] noAnn, ?_⟩
    rw [← vc_sneg a b n m]
    first | done | (and_intros <;> first | exact True.intro | rfl | exact .inl (Nat.le_refl _) | omega)
  · simp at h
def c_sneg : Ctr Tryz.prog := ⟨69, s_sneg, fun args w => Tryz.call69 args w, fn_ok mix Tryz.func69 s_sneg p_sneg⟩
def s_stimes0 : FSpec
  | [.st [.big a n, .big b m], .int .i64 c] => some (some (n ≤ 400000 ∧ m ≤ 400000 ∧ 0 ≤ c ∧ c ≤ 1000000000), .ret (ratM (a * c) (b * c) (n + 64) (m + 64)))
  | _ => none
theorem vc_stimes0 (a b c : Int) (n m : Nat) : (bif decide (c < (0 : Int)) then (n ≤ (900000 : Nat) ∧ m ≤ (900000 : Nat)) ∧ False else ((-9223372036854775808 : Int) ≤ c ∧ c ≤ (9223372036854775807 : Int)) ∧ (n ≤ (1000000 : Nat) ∧ (64 : Nat) ≤ (1000000 : Nat)) ∧ (m ≤ (1000000 : Nat) ∧ (64 : Nat) ≤ (1000000 : Nat)) ∧ (a * c = a * c ∧ (n + (64 : Nat) ≤ n + (64 : Nat) ∨ Int.natAbs (a * c) < (2 : Nat) ^ (n + (64 : Nat)))) ∧ (b * c = b * c ∧ (m + (64 : Nat) ≤ m + (64 : Nat) ∨ Int.natAbs (b * c) < (2 : Nat) ^ (m + (64 : Nat)))) ∧ True) = evFn (env [c_iof, c_mul, c_sneg] noAnn) Tryz.f96 [.st [.big a n, .big b m], .int .i64 c] (MRes.sat (.ret (ratM (a * c) (b * c) (n + 64) (m + 64)))) := by kernel_rfl
theorem p_stimes0 : Good Tryz.f96 s_stimes0 := by
  intro ms p r h hp
  unfold s_stimes0 at h
  split at h
  · rename_i a n b m c
    simp only [Option.some.injEq, Prod.mk.injEq] at h
    obtain ⟨rfl, rfl⟩ := h
    obtain ⟨h1, h2, h3, h4⟩ : n ≤ 400000 ∧ m ≤ 400000 ∧ 0 ≤ c ∧ c ≤ 1000000000 := hp
    refine ⟨env [c_iof, c_mul, c_sneg] noAnn, ?_⟩
    rw [← vc_stimes0 a b c n m]
    rw [decide_eq_false (show ¬ c < 0 by omega), cond_false]
    and_intros <;> first|exact True.intro|rfl|exact .inl (Nat.le_refl _)|omega
  · simp at h
def c_stimes0 : Ctr Tryz.prog := ⟨96, s_stimes0, fun args w => Tryz.call96 args w, fn_ok mix Tryz.func96 s_stimes0 p_stimes0⟩
def s_stimes : FSpec
  | [.st [.big a n, .big b m], .int .i64 c] => some (some (n ≤ 400000 ∧ m ≤ 400000 ∧ -1000000000 ≤ c ∧ c ≤ 1000000000), .ret (ratM (sTim (a, b) c).1 (sTim (a, b) c).2 (max n m + 64) (max n m + 64)))
  | _ => none
theorem vc_stimes (a b c A B : Int) (n m N : Nat) : (bif decide (c < (0 : Int)) then (n ≤ (900000 : Nat) ∧ m ≤ (900000 : Nat)) ∧ (m ≤ (400000 : Nat) ∧ n ≤ (400000 : Nat) ∧ (0 : Int) ≤ IntKind.wrap IntKind.i64 ((0 : Int) - c) ∧ IntKind.wrap IntKind.i64 ((0 : Int) - c) ≤ (1000000000 : Int)) ∧ (-b * IntKind.wrap IntKind.i64 ((0 : Int) - c) = A ∧ (m + (64 : Nat) ≤ N ∨ Int.natAbs (-b * IntKind.wrap IntKind.i64 ((0 : Int) - c)) < (2 : Nat) ^ N)) ∧ (-a * IntKind.wrap IntKind.i64 ((0 : Int) - c) = B ∧ (n + (64 : Nat) ≤ N ∨ Int.natAbs (-a * IntKind.wrap IntKind.i64 ((0 : Int) - c)) < (2 : Nat) ^ N)) ∧ True else ((-9223372036854775808 : Int) ≤ c ∧ c ≤ (9223372036854775807 : Int)) ∧ (n ≤ (1000000 : Nat) ∧ (64 : Nat) ≤ (1000000 : Nat)) ∧ (m ≤ (1000000 : Nat) ∧ (64 : Nat) ≤ (1000000 : Nat)) ∧ (a * c = A ∧ (n + (64 : Nat) ≤ N ∨ Int.natAbs (a * c) < (2 : Nat) ^ N)) ∧ (b * c = B ∧ (m + (64 : Nat) ≤ N ∨ Int.natAbs (b * c) < (2 : Nat) ^ N)) ∧ True) = evFn (env [c_iof, c_mul, c_sneg, c_stimes0] noAnn) Tryz.f96 [.st [.big a n, .big b m], .int .i64 c] (MRes.sat (.ret (ratM A B N N))) := by kernel_rfl
theorem p_stimes : Good Tryz.f96 s_stimes := by
  intro ms p r h hp
  unfold s_stimes at h
  split at h
  · rename_i a n b m c
    simp only [Option.some.injEq, Prod.mk.injEq] at h
    obtain ⟨rfl, rfl⟩ := h
    obtain ⟨h1, h2, h3, h4⟩ : n ≤ 400000 ∧ m ≤ 400000 ∧ -1000000000 ≤ c ∧ c ≤ 1000000000 := hp
    refine ⟨env [c_iof, c_mul, c_sneg, c_stimes0] noAnn, ?_⟩
    rw [← vc_stimes a b c _ _ n m _]
    unfold sTim
    by_cases hc : c < 0
    · have e : IntKind.wrap IntKind.i64 (0 - c) = -c := by rw [i64w (by omega) (by omega)]; omega
      rw [e, decide_eq_true hc, if_pos hc]
      and_intros <;> first | exact True.intro | rfl | exact .inl (by omega) | omega
    · rw [decide_eq_false hc, if_neg hc]
      and_intros <;> first | exact True.intro | rfl | exact .inl (by omega) | omega
  · simp at h
def c_stimes : Ctr Tryz.prog := ⟨96, s_stimes, fun args w => Tryz.call96 args w, fn_ok mix Tryz.func96 s_stimes p_stimes⟩
def s_sover : FSpec
  | [.st [.big a n, .big b m], .big c k] => some (some (n ≤ 900000 ∧ m ≤ 900000 ∧ k ≤ 900000 ∧ c ≠ 0), .ret (ratM (a / c) (ce b c) n m))
  | _ => none
theorem vc_sover (a b c : Int) (n m k : Nat) : ((n ≤ (900000 : Nat) ∧ k ≤ (900000 : Nat) ∧ (c = (0 : Int) → False)) ∧ (m ≤ (900000 : Nat) ∧ k ≤ (900000 : Nat) ∧ (c = (0 : Int) → False)) ∧ (a / c = a / c ∧ (n ≤ n ∨ Int.natAbs (a / c) < (2 : Nat) ^ n)) ∧ (ce b c = ce b c ∧ (m ≤ m ∨ Int.natAbs (ce b c) < (2 : Nat) ^ m)) ∧ True) = evFn (env [c_bfloor, c_bceil] noAnn) Tryz.f123 [.st [.big a n, .big b m], .big c k] (MRes.sat (.ret (ratM (a / c) (ce b c) n m))) := by kernel_rfl
theorem p_sover : Good Tryz.f123 s_sover := by
  intro ms p r h hp
  unfold s_sover at h
  split at h
  · rename_i a n b m c k
    simp only [Option.some.injEq, Prod.mk.injEq] at h
    obtain ⟨rfl, rfl⟩ := h
    obtain ⟨h1, h2, h3, h4⟩ : n ≤ 900000 ∧ m ≤ 900000 ∧ k ≤ 900000 ∧ c ≠ 0 := hp
    refine ⟨env [c_bfloor, c_bceil] noAnn, ?_⟩
    rw [← vc_sover a b c n m k]
    first | done | (and_intros <;> first | exact True.intro | rfl | exact .inl (Nat.le_refl _) | omega)
  · simp at h
def c_sover : Ctr Tryz.prog := ⟨123, s_sover, fun args w => Tryz.call123 args w, fn_ok mix Tryz.func123 s_sover p_sover⟩
def s_sprod : FSpec
  | [.st [.big a n, .big b m], .st [.big c k, .big d l], .big u o] => some (some (n ≤ 400000 ∧ m ≤ 400000 ∧ k ≤ 400000 ∧ l ≤ 400000 ∧ o ≤ 900000 ∧ u ≠ 0), .ret (ratM (a * c / u) (ce (b * d) u) (n + k) (m + l)))
  | _ => none
theorem vc_sprod (a b c d u : Int) (n m k l o : Nat) : ((n ≤ (1000000 : Nat) ∧ k ≤ (1000000 : Nat)) ∧ (m ≤ (1000000 : Nat) ∧ l ≤ (1000000 : Nat)) ∧ (n + k ≤ (900000 : Nat) ∧ m + l ≤ (900000 : Nat) ∧ o ≤ (900000 : Nat) ∧ (u = (0 : Int) → False)) ∧ (a * c / u = a * c / u ∧ (n + k ≤ n + k ∨ Int.natAbs (a * c / u) < (2 : Nat) ^ (n + k))) ∧ (ce (b * d) u = ce (b * d) u ∧ (m + l ≤ m + l ∨ Int.natAbs (ce (b * d) u) < (2 : Nat) ^ (m + l))) ∧ True) = evFn (env [c_mul, c_sover] noAnn) Tryz.f124 [.st [.big a n, .big b m], .st [.big c k, .big d l], .big u o] (MRes.sat (.ret (ratM (a * c / u) (ce (b * d) u) (n + k) (m + l)))) := by kernel_rfl
theorem p_sprod : Good Tryz.f124 s_sprod := by
  intro ms p r h hp
  unfold s_sprod at h
  split at h
  · rename_i a n b m c k d l u o
    simp only [Option.some.injEq, Prod.mk.injEq] at h
    obtain ⟨rfl, rfl⟩ := h
    obtain ⟨h1, h2, h3, h4, h5, h6⟩ : n ≤ 400000 ∧ m ≤ 400000 ∧ k ≤ 400000 ∧ l ≤ 400000 ∧ o ≤ 900000 ∧ u ≠ 0 := hp
    refine ⟨env [c_mul, c_sover] noAnn, ?_⟩
    rw [← vc_sprod a b c d u n m k l o]
    first | done | (and_intros <;> first | exact True.intro | rfl | exact .inl (Nat.le_refl _) | omega)
  · simp at h
def c_sprod : Ctr Tryz.prog := ⟨124, s_sprod, fun args w => Tryz.call124 args w, fn_ok mix Tryz.func124 s_sprod p_sprod⟩

end Go.Proofs.YtkokpkhdkbeofaaGreat

/-
  Contracts of functions: package bound: the series, logarithms.
-/
namespace Go.Proofs.YtkokpkhdkbeofaaGreat
open Go Go.RowKit

theorem fl_le {a b c : Int} (hb : 0 < b) (ha : 0 ≤ a) (h : a ≤ c * b) : 0 ≤ a / b ∧ a / b ≤ c :=
  ⟨Int.ediv_nonneg ha (by omega), Int.ediv_le_of_le_mul hb h⟩
theorem ce_le {a b c : Int} (hb : 0 < b) (ha : 0 ≤ a) (h : a ≤ c * b) : 0 ≤ ce a b ∧ ce a b ≤ c := by
  unfold ce
  have h1 : -a / b ≤ 0 := Int.ediv_le_of_le_mul hb (by omega)
  have h2 : -c ≤ -a / b := by
    refine Int.le_ediv_of_mul_le hb ?_
    rw [Int.neg_mul]
    omega
  omega
theorem le_mul_pos {a b : Int} (ha : 0 ≤ a) (hb : 1 ≤ b) : a ≤ a * b := by
  have := Int.mul_le_mul_of_nonneg_left hb ha
  omega
theorem sz_of {x U : Int} {p k c : Nat} (hU : U = 2 ^ p) (h0 : 0 ≤ x) (h : x ≤ c * U) (hc : c < 2 ^ k) : x.natAbs < 2 ^ (p + k) := by
  have e : U = ((2 ^ p : Nat) : Int) := by rw [hU, Int.natCast_pow]; rfl
  have h1 : x.toNat ≤ c * 2 ^ p := by
    have : x ≤ ((c * 2 ^ p : Nat) : Int) := by rw [Int.natCast_mul, ← e]; exact h
    omega
  have h2 : (c + 1) * 2 ^ p ≤ 2 ^ k * 2 ^ p := Nat.mul_le_mul_right _ hc
  rw [Nat.add_mul] at h2
  have := Nat.two_pow_pos p
  rw [Nat.pow_add, Nat.mul_comm (2 ^ p)]
  omega

structure TgX where
  f : Nat
  k : Int
  a : Int
  b : Int
  s : Int
  t : Int
structure TgI (sq : Int × Int) (U : Int) (R : Int × Int) (x : TgX) : Prop where
  run : tanF sq U x.f x.k (x.a, x.b) (x.s, x.t) = some R
  f : x.f ≤ 1000
  k : x.k = 1 + 2 * (1000 - x.f)
  a0 : 0 ≤ x.a
  a1 : x.a ≤ U
  b0 : 0 ≤ x.b
  b1 : x.b ≤ U
  s0 : 0 ≤ x.s
  s1 : x.s ≤ (1000 - x.f) * U
  t0 : 0 ≤ x.t
  t1 : x.t ≤ (1000 - x.f) * U
def tanP (n d p : Int) : Int × Int := sOver (n * 2 ^ p.toNat, n * 2 ^ p.toNat) d
def tanS (n d p : Int) : Int × Int := sProd (tanP n d p) (tanP n d p) (2 ^ p.toNat)
def tanR (n d p : Int) : Option (Int × Int) := tanF (tanS n d p) (2 ^ p.toNat) 1000 1 (tanP n d p) (0, 0)
theorem tanG_eq (n d p : Int) : tanG n d p = (tanR n d p).map fun s => (s.1 * 2, (s.2 + 1) * 2) := rfl
def a_tan (a d p : Int) (n m : Nat) (R : Int × Int) : Nat → MS → Option LoopAnn
  | 8, _ => some (.inv TgX (TgI (tanS a d p) (2 ^ p.toNat) R) (fun x => ⟨51, [(3, .bp 0 0), (4, .bp 1 0), (6, .bp 2 0), (7, .bp 3 0), (8, .bp 4 0), (9, .bp 5 0), (10, .bp 6 0), (11, .bp 7 0), (12, .int .i64 x.k)],
      [⟨false, .one (.big a n)⟩, ⟨false, .one (.big d m)⟩, ⟨false, .one (ratM 0 0 0 0)⟩, ⟨false, .one (.big (2 ^ p.toNat) (p.toNat + 1))⟩, ⟨false, .one (.big (a * 2 ^ p.toNat) (n + (p.toNat + 1)))⟩, ⟨false, .one (ratM x.a x.b (p.toNat + 20) (p.toNat + 20))⟩, ⟨false, .one (ratM (tanS a d p).1 (tanS a d p).2 (p.toNat + 20) (p.toNat + 20))⟩, ⟨false, .one (ratM x.s x.t (p.toNat + 20) (p.toNat + 20))⟩], 0⟩) (fun x => x.f))
  | _, _ => none
def s_tan : FSpec
  | [.big a n, .big d m, .int .i64 p] => some (some (n ≤ 100000 ∧ m ≤ 100000 ∧ 0 ≤ p ∧ p ≤ 50000 ∧ 0 ≤ a ∧ a < d ∧ (tanR a d p).isSome = true), .ret (ratM (((tanR a d p).getD (0, 0)).1 * 2) ((((tanR a d p).getD (0, 0)).2 + 1) * 2) (p.toNat + 200) (p.toNat + 200)))
  | _ => none
theorem vc_tan (a d p X Y : Int) (n m : Nat) : (((0 : Int) ≤ p ∧ p ≤ (200000 : Int)) ∧ (n ≤ (1000000 : Nat) ∧ Int.toNat p + (1 : Nat) ≤ (1000000 : Nat)) ∧ (n + (Int.toNat p + (1 : Nat)) ≤ (900000 : Nat) ∧ n + (Int.toNat p + (1 : Nat)) ≤ (900000 : Nat) ∧ m ≤ (900000 : Nat) ∧ (d = (0 : Int) → False)) ∧ (n + (Int.toNat p + (1 : Nat)) ≤ (400000 : Nat) ∧ n + (Int.toNat p + (1 : Nat)) ≤ (400000 : Nat) ∧ n + (Int.toNat p + (1 : Nat)) ≤ (400000 : Nat) ∧ n + (Int.toNat p + (1 : Nat)) ≤ (400000 : Nat) ∧ Int.toNat p + (1 : Nat) ≤ (900000 : Nat) ∧ ((2 : Int) ^ Int.toNat p = (0 : Int) → False)) ∧ (∃ i, TgI (tanS a d p) ((2 : Int) ^ Int.toNat p) (X, Y) i ∧ ((0 : Nat) = (0 : Nat) ∧ (0 : Nat) = (0 : Nat) ∧ (0 : Nat) = (0 : Nat) ∧ (0 : Nat) = (0 : Nat) ∧ (0 : Nat) = (0 : Nat) ∧ (0 : Nat) = (0 : Nat) ∧ (0 : Nat) = (0 : Nat) ∧ (0 : Nat) = (0 : Nat) ∧ (1 : Int) = TgX.k i ∧ True) ∧ (a = a ∧ (n ≤ n ∨ Int.natAbs a < (2 : Nat) ^ n)) ∧ (d = d ∧ (m ≤ m ∨ Int.natAbs d < (2 : Nat) ^ m)) ∧ (((0 : Int) = (0 : Int) ∧ ((0 : Nat) ≤ (0 : Nat) ∨ Int.natAbs (0 : Int) < (2 : Nat) ^ (0 : Nat))) ∧ ((0 : Int) = (0 : Int) ∧ ((0 : Nat) ≤ (0 : Nat) ∨ Int.natAbs (0 : Int) < (2 : Nat) ^ (0 : Nat))) ∧ True) ∧ ((2 : Int) ^ Int.toNat p = (2 : Int) ^ Int.toNat p ∧ (Int.toNat p + (1 : Nat) ≤ Int.toNat p + (1 : Nat) ∨ Int.natAbs ((2 : Int) ^ Int.toNat p) < (2 : Nat) ^ (Int.toNat p + (1 : Nat)))) ∧ (a * (2 : Int) ^ Int.toNat p = a * (2 : Int) ^ Int.toNat p ∧ (n + (Int.toNat p + (1 : Nat)) ≤ n + (Int.toNat p + (1 : Nat)) ∨ Int.natAbs (a * (2 : Int) ^ Int.toNat p) < (2 : Nat) ^ (n + (Int.toNat p + (1 : Nat))))) ∧ ((a * (2 : Int) ^ Int.toNat p / d = TgX.a i ∧ (n + (Int.toNat p + (1 : Nat)) ≤ Int.toNat p + (20 : Nat) ∨ Int.natAbs (a * (2 : Int) ^ Int.toNat p / d) < (2 : Nat) ^ (Int.toNat p + (20 : Nat)))) ∧ (ce (a * (2 : Int) ^ Int.toNat p) d = TgX.b i ∧ (n + (Int.toNat p + (1 : Nat)) ≤ Int.toNat p + (20 : Nat) ∨ Int.natAbs (ce (a * (2 : Int) ^ Int.toNat p) d) < (2 : Nat) ^ (Int.toNat p + (20 : Nat)))) ∧ True) ∧ ((a * (2 : Int) ^ Int.toNat p / d * (a * (2 : Int) ^ Int.toNat p / d) / (2 : Int) ^ Int.toNat p = a * (2 : Int) ^ Int.toNat p / d * (a * (2 : Int) ^ Int.toNat p / d) / (2 : Int) ^ Int.toNat p ∧ (n + (Int.toNat p + (1 : Nat)) + (n + (Int.toNat p + (1 : Nat))) ≤ Int.toNat p + (20 : Nat) ∨ Int.natAbs (a * (2 : Int) ^ Int.toNat p / d * (a * (2 : Int) ^ Int.toNat p / d) / (2 : Int) ^ Int.toNat p) < (2 : Nat) ^ (Int.toNat p + (20 : Nat)))) ∧ (ce (ce (a * (2 : Int) ^ Int.toNat p) d * ce (a * (2 : Int) ^ Int.toNat p) d) ((2 : Int) ^ Int.toNat p) = ce (ce (a * (2 : Int) ^ Int.toNat p) d * ce (a * (2 : Int) ^ Int.toNat p) d) ((2 : Int) ^ Int.toNat p) ∧ (n + (Int.toNat p + (1 : Nat)) + (n + (Int.toNat p + (1 : Nat))) ≤ Int.toNat p + (20 : Nat) ∨ Int.natAbs (ce (ce (a * (2 : Int) ^ Int.toNat p) d * ce (a * (2 : Int) ^ Int.toNat p) d) ((2 : Int) ^ Int.toNat p)) < (2 : Nat) ^ (Int.toNat p + (20 : Nat)))) ∧ True) ∧ (((0 : Int) = TgX.s i ∧ ((0 : Nat) ≤ Int.toNat p + (20 : Nat) ∨ Int.natAbs (0 : Int) < (2 : Nat) ^ (Int.toNat p + (20 : Nat)))) ∧ ((0 : Int) = TgX.t i ∧ ((0 : Nat) ≤ Int.toNat p + (20 : Nat) ∨ Int.natAbs (0 : Int) < (2 : Nat) ^ (Int.toNat p + (20 : Nat)))) ∧ True) ∧ True) ∧ ∀ (i : TgX), TgI (tanS a d p) ((2 : Int) ^ Int.toNat p) (X, Y) i → ((-9223372036854775808 : Int) ≤ TgX.k i ∧ TgX.k i ≤ (9223372036854775807 : Int)) ∧ (Int.toNat p + (20 : Nat) ≤ (900000 : Nat) ∧ Int.toNat p + (20 : Nat) ≤ (900000 : Nat) ∧ (64 : Nat) ≤ (900000 : Nat) ∧ (TgX.k i = (0 : Int) → False)) ∧ (Int.toNat p + (20 : Nat) ≤ (900000 : Nat) ∧ Int.toNat p + (20 : Nat) ≤ (900000 : Nat) ∧ Int.toNat p + (20 : Nat) ≤ (900000 : Nat) ∧ Int.toNat p + (20 : Nat) ≤ (900000 : Nat)) ∧ ((-9223372036854775808 : Int) ≤ (1 : Int) ∧ (1 : Int) ≤ (9223372036854775807 : Int)) ∧ (Int.toNat p + (20 : Nat) ≤ (1000000 : Nat) ∧ (64 : Nat) ≤ (1000000 : Nat)) ∧ bif decide (icmp (TgX.b i) (1 : Int) ≤ (0 : Int)) then ((-9223372036854775808 : Int) ≤ (1 : Int) ∧ (1 : Int) ≤ (9223372036854775807 : Int)) ∧ (max (Int.toNat p + (20 : Nat)) (Int.toNat p + (20 : Nat)) + (1 : Nat) ≤ (1000000 : Nat) ∧ (64 : Nat) ≤ (1000000 : Nat)) ∧ (max (Int.toNat p + (20 : Nat)) (Int.toNat p + (20 : Nat)) + (1 : Nat) ≤ (400000 : Nat) ∧ max (max (Int.toNat p + (20 : Nat)) (Int.toNat p + (20 : Nat)) + (1 : Nat)) (64 : Nat) + (1 : Nat) ≤ (400000 : Nat) ∧ (-1000000000 : Int) ≤ (2 : Int) ∧ (2 : Int) ≤ (1000000000 : Int)) ∧ ((TgX.s i + TgX.a i / TgX.k i) * (2 : Int) = X * (2 : Int) ∧ (max (max (Int.toNat p + (20 : Nat)) (Int.toNat p + (20 : Nat)) + (1 : Nat)) (max (max (Int.toNat p + (20 : Nat)) (Int.toNat p + (20 : Nat)) + (1 : Nat)) (64 : Nat) + (1 : Nat)) + (64 : Nat) ≤ Int.toNat p + (200 : Nat) ∨ Int.natAbs ((TgX.s i + TgX.a i / TgX.k i) * (2 : Int)) < (2 : Nat) ^ (Int.toNat p + (200 : Nat)))) ∧ ((TgX.t i + ce (TgX.b i) (TgX.k i) + (1 : Int)) * (2 : Int) = (Y + (1 : Int)) * (2 : Int) ∧ (max (max (Int.toNat p + (20 : Nat)) (Int.toNat p + (20 : Nat)) + (1 : Nat)) (max (max (Int.toNat p + (20 : Nat)) (Int.toNat p + (20 : Nat)) + (1 : Nat)) (64 : Nat) + (1 : Nat)) + (64 : Nat) ≤ Int.toNat p + (200 : Nat) ∨ Int.natAbs ((TgX.t i + ce (TgX.b i) (TgX.k i) + (1 : Int)) * (2 : Int)) < (2 : Nat) ^ (Int.toNat p + (200 : Nat)))) ∧ True else (Int.toNat p + (20 : Nat) ≤ (400000 : Nat) ∧ Int.toNat p + (20 : Nat) ≤ (400000 : Nat) ∧ Int.toNat p + (20 : Nat) ≤ (400000 : Nat) ∧ Int.toNat p + (20 : Nat) ≤ (400000 : Nat) ∧ Int.toNat p + (1 : Nat) ≤ (900000 : Nat) ∧ ((2 : Int) ^ Int.toNat p = (0 : Int) → False)) ∧ ∃ j, TgI (tanS a d p) ((2 : Int) ^ Int.toNat p) (X, Y) j ∧ (((0 : Nat) = (0 : Nat) ∧ (0 : Nat) = (0 : Nat) ∧ (0 : Nat) = (0 : Nat) ∧ (0 : Nat) = (0 : Nat) ∧ (0 : Nat) = (0 : Nat) ∧ (0 : Nat) = (0 : Nat) ∧ (0 : Nat) = (0 : Nat) ∧ (0 : Nat) = (0 : Nat) ∧ IntKind.wrap IntKind.i64 (TgX.k i + (2 : Int)) = TgX.k j ∧ True) ∧ (a = a ∧ (n ≤ n ∨ Int.natAbs a < (2 : Nat) ^ n)) ∧ (d = d ∧ (m ≤ m ∨ Int.natAbs d < (2 : Nat) ^ m)) ∧ (((0 : Int) = (0 : Int) ∧ ((0 : Nat) ≤ (0 : Nat) ∨ Int.natAbs (0 : Int) < (2 : Nat) ^ (0 : Nat))) ∧ ((0 : Int) = (0 : Int) ∧ ((0 : Nat) ≤ (0 : Nat) ∨ Int.natAbs (0 : Int) < (2 : Nat) ^ (0 : Nat))) ∧ True) ∧ ((2 : Int) ^ Int.toNat p = (2 : Int) ^ Int.toNat p ∧ (Int.toNat p + (1 : Nat) ≤ Int.toNat p + (1 : Nat) ∨ Int.natAbs ((2 : Int) ^ Int.toNat p) < (2 : Nat) ^ (Int.toNat p + (1 : Nat)))) ∧ (a * (2 : Int) ^ Int.toNat p = a * (2 : Int) ^ Int.toNat p ∧ (n + (Int.toNat p + (1 : Nat)) ≤ n + (Int.toNat p + (1 : Nat)) ∨ Int.natAbs (a * (2 : Int) ^ Int.toNat p) < (2 : Nat) ^ (n + (Int.toNat p + (1 : Nat))))) ∧ ((TgX.a i * (a * (2 : Int) ^ Int.toNat p / d * (a * (2 : Int) ^ Int.toNat p / d) / (2 : Int) ^ Int.toNat p) / (2 : Int) ^ Int.toNat p = TgX.a j ∧ (Int.toNat p + (20 : Nat) + (Int.toNat p + (20 : Nat)) ≤ Int.toNat p + (20 : Nat) ∨ Int.natAbs (TgX.a i * (a * (2 : Int) ^ Int.toNat p / d * (a * (2 : Int) ^ Int.toNat p / d) / (2 : Int) ^ Int.toNat p) / (2 : Int) ^ Int.toNat p) < (2 : Nat) ^ (Int.toNat p + (20 : Nat)))) ∧ (ce (TgX.b i * ce (ce (a * (2 : Int) ^ Int.toNat p) d * ce (a * (2 : Int) ^ Int.toNat p) d) ((2 : Int) ^ Int.toNat p)) ((2 : Int) ^ Int.toNat p) = TgX.b j ∧ (Int.toNat p + (20 : Nat) + (Int.toNat p + (20 : Nat)) ≤ Int.toNat p + (20 : Nat) ∨ Int.natAbs (ce (TgX.b i * ce (ce (a * (2 : Int) ^ Int.toNat p) d * ce (a * (2 : Int) ^ Int.toNat p) d) ((2 : Int) ^ Int.toNat p)) ((2 : Int) ^ Int.toNat p)) < (2 : Nat) ^ (Int.toNat p + (20 : Nat)))) ∧ True) ∧ ((a * (2 : Int) ^ Int.toNat p / d * (a * (2 : Int) ^ Int.toNat p / d) / (2 : Int) ^ Int.toNat p = a * (2 : Int) ^ Int.toNat p / d * (a * (2 : Int) ^ Int.toNat p / d) / (2 : Int) ^ Int.toNat p ∧ (Int.toNat p + (20 : Nat) ≤ Int.toNat p + (20 : Nat) ∨ Int.natAbs (a * (2 : Int) ^ Int.toNat p / d * (a * (2 : Int) ^ Int.toNat p / d) / (2 : Int) ^ Int.toNat p) < (2 : Nat) ^ (Int.toNat p + (20 : Nat)))) ∧ (ce (ce (a * (2 : Int) ^ Int.toNat p) d * ce (a * (2 : Int) ^ Int.toNat p) d) ((2 : Int) ^ Int.toNat p) = ce (ce (a * (2 : Int) ^ Int.toNat p) d * ce (a * (2 : Int) ^ Int.toNat p) d) ((2 : Int) ^ Int.toNat p) ∧ (Int.toNat p + (20 : Nat) ≤ Int.toNat p + (20 : Nat) ∨ Int.natAbs (ce (ce (a * (2 : Int) ^ Int.toNat p) d * ce (a * (2 : Int) ^ Int.toNat p) d) ((2 : Int) ^ Int.toNat p)) < (2 : Nat) ^ (Int.toNat p + (20 : Nat)))) ∧ True) ∧ ((TgX.s i + TgX.a i / TgX.k i = TgX.s j ∧ (max (Int.toNat p + (20 : Nat)) (Int.toNat p + (20 : Nat)) + (1 : Nat) ≤ Int.toNat p + (20 : Nat) ∨ Int.natAbs (TgX.s i + TgX.a i / TgX.k i) < (2 : Nat) ^ (Int.toNat p + (20 : Nat)))) ∧ (TgX.t i + ce (TgX.b i) (TgX.k i) = TgX.t j ∧ (max (Int.toNat p + (20 : Nat)) (Int.toNat p + (20 : Nat)) + (1 : Nat) ≤ Int.toNat p + (20 : Nat) ∨ Int.natAbs (TgX.t i + ce (TgX.b i) (TgX.k i)) < (2 : Nat) ^ (Int.toNat p + (20 : Nat)))) ∧ True) ∧ True) ∧ TgX.f j < TgX.f i) = evFn (env [c_two, c_mul, c_sover, c_sprod, c_iof, c_sadd, c_icmp, c_iadd, c_stimes] (a_tan a d p n m (X, Y))) Tryz.f95 [.big a n, .big d m, .int .i64 p] (MRes.sat (.ret (ratM (X * 2) ((Y + 1) * 2) (p.toNat + 200) (p.toNat + 200)))) := by kernel_rfl
theorem icmp_le (a b : Int) : decide (icmp a b ≤ 0) = decide (a ≤ b) := by
  refine decide_eq_decide.2 ?_
  unfold icmp
  split <;> (try split) <;> omega
theorem p_tan : Good Tryz.f95 s_tan := by
  intro ms p r h hp
  unfold s_tan at h
  split at h
  · rename_i a n d m p
    simp only [Option.some.injEq, Prod.mk.injEq] at h
    obtain ⟨rfl, rfl⟩ := h
    obtain ⟨h1, h2, h3, h4, h5, h6, h7⟩ : n ≤ 100000 ∧ m ≤ 100000 ∧ 0 ≤ p ∧ p ≤ 50000 ∧ 0 ≤ a ∧ a < d ∧ (tanR a d p).isSome = true := hp
    obtain ⟨⟨X, Y⟩, hR⟩ := Option.isSome_iff_exists.1 h7
    rw [hR]
    refine ⟨env [c_two, c_mul, c_sover, c_sprod, c_iof, c_sadd, c_icmp, c_iadd, c_stimes] (a_tan a d p n m (X, Y)), ?_⟩
    rw [Option.getD_some, ← vc_tan a d p X Y n m]
    have hP : p.toNat ≤ 50000 := by omega
    unfold tanR at hR
    generalize hPe : p.toNat = P at *
    have hU0 : (0 : Int) < 2 ^ P := two_pos P
    have hUU : ∀ x y : Int, 0 ≤ x → x ≤ 2 ^ P → 0 ≤ y → y ≤ 2 ^ P → 0 ≤ x * y ∧ x * y ≤ 2 ^ P * 2 ^ P := fun x y q1 q2 q3 q4 => ⟨Int.mul_nonneg q1 q3, Int.mul_le_mul q2 q4 q3 (by omega)⟩
    have b0 : 0 ≤ a * 2 ^ P := Int.mul_nonneg h5 (by omega)
    have b1 : a * 2 ^ P ≤ 2 ^ P * d := by rw [Int.mul_comm]; exact Int.mul_le_mul_of_nonneg_left (by omega) (by omega)
    have x0 := fl_le (by omega) b0 b1
    have y0 := ce_le (by omega) b0 b1
    have c0 := hUU _ _ x0.1 x0.2 x0.1 x0.2
    have c0 := fl_le hU0 c0.1 c0.2
    have e0 := hUU _ _ y0.1 y0.2 y0.1 y0.2
    have e0 := ce_le hU0 e0.1 e0.2
    have sz1 : ∀ x : Int, 0 ≤ x → x ≤ 2 ^ P → x.natAbs < 2 ^ (P + 20) := fun x q1 q2 => sz_of (c := 1) rfl q1 (by omega) (by omega)
    have sz2 : ∀ x : Int, 0 ≤ x → x ≤ 1000 * 2 ^ P → x.natAbs < 2 ^ (P + 20) := fun x q1 q2 => sz_of (c := 1000) rfl q1 (by omega) (by omega)
    have hS : tanS a d p = (a * 2 ^ P / d * (a * 2 ^ P / d) / 2 ^ P, ce (ce (a * 2 ^ P) d * ce (a * 2 ^ P) d) (2 ^ P)) := by unfold tanS tanP sProd sOver; rw [hPe]
    have hI0 : tanP a d p = (a * 2 ^ P / d, ce (a * 2 ^ P) d) := by unfold tanP sOver; rw [hPe]
    rw [hS, hI0] at hR
    rw [hS]
    have hz : (2 : Int) ^ P = 0 → False := fun h => by omega
    refine ⟨by omega, ⟨by omega, by omega⟩, ⟨by omega, by omega, by omega, fun h => by omega⟩, ⟨by omega, by omega, by omega, by omega, by omega, hz⟩, ⟨⟨1000, 1, _, _, 0, 0⟩, ⟨hR, Nat.le_refl _, rfl, x0.1, x0.2, y0.1, y0.2, Int.le_refl _, ?_, Int.le_refl _, ?_⟩, ⟨rfl, rfl, rfl, rfl, rfl, rfl, rfl, rfl, rfl, True.intro⟩, ⟨rfl, .inl (Nat.le_refl _)⟩, ⟨rfl, .inl (Nat.le_refl _)⟩, ⟨⟨rfl, .inl (Nat.le_refl _)⟩, ⟨rfl, .inl (Nat.le_refl _)⟩, True.intro⟩, ⟨rfl, .inl (Nat.le_refl _)⟩, ⟨rfl, .inl (Nat.le_refl _)⟩,
      ⟨⟨rfl, .inr (sz1 _ x0.1 x0.2)⟩, ⟨rfl, .inr (sz1 _ y0.1 y0.2)⟩, True.intro⟩, ⟨⟨rfl, .inr (sz1 _ c0.1 c0.2)⟩, ⟨rfl, .inr (sz1 _ e0.1 e0.2)⟩, True.intro⟩, ⟨⟨rfl, .inl (by omega)⟩, ⟨rfl, .inl (by omega)⟩, True.intro⟩, True.intro⟩, ?_⟩
    · show (0 : Int) ≤ (1000 - (1000 : Nat)) * 2 ^ P; omega
    · show (0 : Int) ≤ (1000 - (1000 : Nat)) * 2 ^ P; omega
    clear hR hI0
    generalize a * 2 ^ P / d * (a * 2 ^ P / d) / 2 ^ P = C at *
    generalize ce (ce (a * 2 ^ P) d * ce (a * 2 ^ P) d) (2 ^ P) = E at *
    rintro ⟨f, k, A, B, S, T⟩ ⟨hr, i1, i2, i3, i4, i5, i6, i7, i8, i9, i10⟩
    dsimp only at hr i1 i2 i3 i4 i5 i6 i7 i8 i9 i10
    dsimp only
    rw [icmp_le]
    cases f with
    | zero => simp [tanF] at hr
    | succ f =>
      have hk : 1 ≤ k ∧ k ≤ 2001 := by omega
      have A1 := fl_le (by omega) i3 (Int.le_trans i4 (le_mul_pos (by omega) hk.1))
      have B1 := ce_le (by omega) i5 (Int.le_trans i6 (le_mul_pos (by omega) hk.1))
      have A2 := hUU _ _ i3 i4 c0.1 c0.2
      have A2 := fl_le hU0 A2.1 A2.2
      have B2 := hUU _ _ i5 i6 e0.1 e0.2
      have B2 := ce_le hU0 B2.1 B2.2
      have m1 : (1000 - ((f + 1 : Nat) : Int)) * 2 ^ P + 2 ^ P = (1000 - (f : Int)) * 2 ^ P := by rw [show (1000 - (f : Int)) = (1000 - ((f + 1 : Nat) : Int)) + 1 by omega, Int.add_mul, Int.one_mul]
      have m2 : (1000 - (f : Int)) * 2 ^ P ≤ 1000 * 2 ^ P := Int.mul_le_mul_of_nonneg_right (by omega) (by omega)
      have S1 : 0 ≤ S + A / k ∧ S + A / k ≤ (1000 - (f : Int)) * 2 ^ P := by omega
      have T1 : 0 ≤ T + ce B k ∧ T + ce B k ≤ (1000 - (f : Int)) * 2 ^ P := by omega
      unfold tanF at hr
      refine ⟨by omega, ⟨by omega, by omega, by omega, fun h => by omega⟩, ⟨by omega, by omega, by omega, by omega⟩, by omega, ⟨by omega, by omega⟩, ?_⟩
      by_cases hc : B ≤ 1
      · rw [if_pos hc] at hr
        simp only [sAdd, sOver, Option.some.injEq, Prod.mk.injEq] at hr
        obtain ⟨rfl, rfl⟩ := hr
        rw [decide_eq_true hc, cond_true]
        exact ⟨by omega, ⟨by omega, by omega⟩, ⟨by omega, by omega, by omega, by omega⟩, ⟨rfl, .inl (by omega)⟩, ⟨rfl, .inl (by omega)⟩, True.intro⟩
      · rw [if_neg hc] at hr
        rw [decide_eq_false hc, cond_false]
        have ek : IntKind.wrap IntKind.i64 (k + 2) = k + 2 := i64w (by omega) (by omega)
        refine ⟨⟨by omega, by omega, by omega, by omega, by omega, hz⟩, ⟨f, k + 2, _, _, _, _⟩, ⟨hr, by show f ≤ 1000; omega, by show k + 2 = 1 + 2 * (1000 - (f : Int)); omega, A2.1, A2.2, B2.1, B2.2, S1.1, S1.2, T1.1, T1.2⟩,
          ⟨⟨rfl, rfl, rfl, rfl, rfl, rfl, rfl, rfl, ek, True.intro⟩, ⟨rfl, .inl (Nat.le_refl _)⟩, ⟨rfl, .inl (Nat.le_refl _)⟩, ⟨⟨rfl, .inl (Nat.le_refl _)⟩, ⟨rfl, .inl (Nat.le_refl _)⟩, True.intro⟩, ⟨rfl, .inl (Nat.le_refl _)⟩, ⟨rfl, .inl (Nat.le_refl _)⟩,
            ⟨⟨rfl, .inr (sz1 _ A2.1 A2.2)⟩, ⟨rfl, .inr (sz1 _ B2.1 B2.2)⟩, True.intro⟩, ⟨⟨rfl, .inl (Nat.le_refl _)⟩, ⟨rfl, .inl (Nat.le_refl _)⟩, True.intro⟩, ⟨⟨rfl, .inr (sz2 _ S1.1 (by omega))⟩, ⟨rfl, .inr (sz2 _ T1.1 (by omega))⟩, True.intro⟩, True.intro⟩, by show f < f + 1; omega⟩
  · simp at h
def c_tan : Ctr Tryz.prog := ⟨95, s_tan, fun args w => Tryz.call95 args w, fn_ok mix Tryz.func95 s_tan p_tan⟩

end Go.Proofs.YtkokpkhdkbeofaaGreat

/-
  Contracts of functions: package bound: natural.
-/
namespace Go.Proofs.YtkokpkhdkbeofaaGreat
open Go Go.RowKit

def envC (Γ : List (Ctr Tryz.prog)) (ann : Nat → MS → Option LoopAnn) (cut : Nat → MS → Option CutAnn) : Env Tryz.prog := ⟨Γ, [], 29, ann, fun _ => [], cut⟩
def s_nat : FSpec
  | [.st [.big N n, .big D m], .int .i64 p] => some (some (n ≤ 10000 ∧ m ≤ 10000 ∧ 0 < N ∧ 0 < D ∧ 0 ≤ p ∧ p ≤ 50000 ∧ (natG N D p).isSome = true), .ret (ratM ((natG N D p).getD (0, 0)).1 ((natG N D p).getD (0, 0)).2 (p.toNat + 300) (p.toNat + 300)))
  | _ => none
def k_nat (N D p : Int) (n m : Nat) : Nat → MS → Option CutAnn
  | 9, _ => some (.mk Nat (fun i => i = 0) (fun _ => ⟨56, [(1, .int .i64 p), (4, .bp 1 0), (5, .int .i64 (natE' N D)), (6, .bp 2 0), (7, .bp 3 0)], [⟨false, .one (ratM N D n m)⟩, ⟨false, .one (ratM 0 0 0 0)⟩, ⟨false, .one (.big (natN' N D) 30000)⟩, ⟨false, .one (.big (natD N D) 30000)⟩], 0⟩))
  | _, _ => none
theorem vc_nat (N D p X Y : Int) (n m : Nat) : (n ≤ (1000000 : Nat) ∧ m ≤ (1000000 : Nat) ∧ bif decide (IntKind.wrap IntKind.i64 ((↑(bl (Int.natAbs N)) : Int) - (↑(bl (Int.natAbs D)) : Int)) ≥ (0 : Int)) then ((0 : Int) ≤ IntKind.wrap IntKind.i64 ((↑(bl (Int.natAbs N)) : Int) - (↑(bl (Int.natAbs D)) : Int)) ∧ IntKind.wrap IntKind.i64 ((↑(bl (Int.natAbs N)) : Int) - (↑(bl (Int.natAbs D)) : Int)) ≤ (200000 : Int)) ∧ (m ≤ (1000000 : Nat) ∧ Int.toNat (IntKind.wrap IntKind.i64 ((↑(bl (Int.natAbs N)) : Int) - (↑(bl (Int.natAbs D)) : Int))) + (1 : Nat) ≤ (1000000 : Nat)) ∧ ((n ≤ (1000000 : Nat) ∧ m + (Int.toNat (IntKind.wrap IntKind.i64 ((↑(bl (Int.natAbs N)) : Int) - (↑(bl (Int.natAbs D)) : Int))) + (1 : Nat)) ≤ (1000000 : Nat)) ∧ bif decide (icmp N (D * (2 : Int) ^ Int.toNat (IntKind.wrap IntKind.i64 ((↑(bl (Int.natAbs N)) : Int) - (↑(bl (Int.natAbs D)) : Int)))) < (0 : Int)) then (n ≤ (1000000 : Nat) ∧ n ≤ (1000000 : Nat)) ∧ ∃ i, i = (0 : Nat) ∧ (p = p ∧ (0 : Nat) = (0 : Nat) ∧ IntKind.wrap IntKind.i64 (IntKind.wrap IntKind.i64 ((↑(bl (Int.natAbs N)) : Int) - (↑(bl (Int.natAbs D)) : Int)) - (1 : Int)) = natE' N D ∧ (0 : Nat) = (0 : Nat) ∧ (0 : Nat) = (0 : Nat) ∧ True) ∧ ((N = N ∧ (n ≤ n ∨ Int.natAbs N < (2 : Nat) ^ n)) ∧ (D = D ∧ (m ≤ m ∨ Int.natAbs D < (2 : Nat) ^ m)) ∧ True) ∧ (((0 : Int) = (0 : Int) ∧ ((0 : Nat) ≤ (0 : Nat) ∨ Int.natAbs (0 : Int) < (2 : Nat) ^ (0 : Nat))) ∧ ((0 : Int) = (0 : Int) ∧ ((0 : Nat) ≤ (0 : Nat) ∨ Int.natAbs (0 : Int) < (2 : Nat) ^ (0 : Nat))) ∧ True) ∧ (N + N = natN' N D ∧ (max n n + (1 : Nat) ≤ (30000 : Nat) ∨ Int.natAbs (N + N) < (2 : Nat) ^ (30000 : Nat))) ∧ (D * (2 : Int) ^ Int.toNat (IntKind.wrap IntKind.i64 ((↑(bl (Int.natAbs N)) : Int) - (↑(bl (Int.natAbs D)) : Int))) = natD N D ∧ (m + (Int.toNat (IntKind.wrap IntKind.i64 ((↑(bl (Int.natAbs N)) : Int) - (↑(bl (Int.natAbs D)) : Int))) + (1 : Nat)) ≤ (30000 : Nat) ∨ Int.natAbs (D * (2 : Int) ^ Int.toNat (IntKind.wrap IntKind.i64 ((↑(bl (Int.natAbs N)) : Int) - (↑(bl (Int.natAbs D)) : Int)))) < (2 : Nat) ^ (30000 : Nat))) ∧ True else ∃ i, i = (0 : Nat) ∧ (p = p ∧ (0 : Nat) = (0 : Nat) ∧ IntKind.wrap IntKind.i64 ((↑(bl (Int.natAbs N)) : Int) - (↑(bl (Int.natAbs D)) : Int)) = natE' N D ∧ (0 : Nat) = (0 : Nat) ∧ (0 : Nat) = (0 : Nat) ∧ True) ∧ ((N = N ∧ (n ≤ n ∨ Int.natAbs N < (2 : Nat) ^ n)) ∧ (D = D ∧ (m ≤ m ∨ Int.natAbs D < (2 : Nat) ^ m)) ∧ True) ∧ (((0 : Int) = (0 : Int) ∧ ((0 : Nat) ≤ (0 : Nat) ∨ Int.natAbs (0 : Int) < (2 : Nat) ^ (0 : Nat))) ∧ ((0 : Int) = (0 : Int) ∧ ((0 : Nat) ≤ (0 : Nat) ∨ Int.natAbs (0 : Int) < (2 : Nat) ^ (0 : Nat))) ∧ True) ∧ (N = natN' N D ∧ (n ≤ (30000 : Nat) ∨ Int.natAbs N < (2 : Nat) ^ (30000 : Nat))) ∧ (D * (2 : Int) ^ Int.toNat (IntKind.wrap IntKind.i64 ((↑(bl (Int.natAbs N)) : Int) - (↑(bl (Int.natAbs D)) : Int))) = natD N D ∧ (m + (Int.toNat (IntKind.wrap IntKind.i64 ((↑(bl (Int.natAbs N)) : Int) - (↑(bl (Int.natAbs D)) : Int))) + (1 : Nat)) ≤ (30000 : Nat) ∨ Int.natAbs (D * (2 : Int) ^ Int.toNat (IntKind.wrap IntKind.i64 ((↑(bl (Int.natAbs N)) : Int) - (↑(bl (Int.natAbs D)) : Int)))) < (2 : Nat) ^ (30000 : Nat))) ∧ True) ∧ ∀ (i : Nat), i = (0 : Nat) → ((-9223372036854775808 : Int) ≤ (1 : Int) ∧ (1 : Int) ≤ (9223372036854775807 : Int)) ∧ ((-9223372036854775808 : Int) ≤ (3 : Int) ∧ (3 : Int) ≤ (9223372036854775807 : Int)) ∧ ((64 : Nat) ≤ (100000 : Nat) ∧ (64 : Nat) ≤ (100000 : Nat) ∧ (0 : Int) ≤ p ∧ p ≤ (50000 : Int) ∧ (0 : Int) ≤ (1 : Int) ∧ (1 : Int) < (3 : Int) ∧ Option.isSome (tanR (1 : Int) (3 : Int) p) = true) ∧ ((30000 : Nat) ≤ (1000000 : Nat) ∧ (30000 : Nat) ≤ (1000000 : Nat)) ∧ ((30000 : Nat) ≤ (1000000 : Nat) ∧ (30000 : Nat) ≤ (1000000 : Nat)) ∧ (max (30000 : Nat) (30000 : Nat) + (1 : Nat) ≤ (100000 : Nat) ∧ max (30000 : Nat) (30000 : Nat) + (1 : Nat) ≤ (100000 : Nat) ∧ (0 : Int) ≤ p ∧ p ≤ (50000 : Int) ∧ (0 : Int) ≤ natN' N D - natD N D ∧ natN' N D - natD N D < natN' N D + natD N D ∧ Option.isSome (tanR (natN' N D - natD N D) (natN' N D + natD N D) p) = true) ∧ (Int.toNat p + (200 : Nat) ≤ (400000 : Nat) ∧ Int.toNat p + (200 : Nat) ≤ (400000 : Nat) ∧ (-1000000000 : Int) ≤ natE' N D ∧ natE' N D ≤ (1000000000 : Int)) ∧ (Int.toNat p + (200 : Nat) ≤ (900000 : Nat) ∧ Int.toNat p + (200 : Nat) ≤ (900000 : Nat) ∧ max (Int.toNat p + (200 : Nat)) (Int.toNat p + (200 : Nat)) + (64 : Nat) ≤ (900000 : Nat) ∧ max (Int.toNat p + (200 : Nat)) (Int.toNat p + (200 : Nat)) + (64 : Nat) ≤ (900000 : Nat)) ∧ (Prod.fst (Option.getD (tanR (natN' N D - natD N D) (natN' N D + natD N D) p) ((0 : Int), (0 : Int))) * (2 : Int) + Prod.fst (sTim (Prod.fst (Option.getD (tanR (1 : Int) (3 : Int) p) ((0 : Int), (0 : Int))) * (2 : Int), (Prod.snd (Option.getD (tanR (1 : Int) (3 : Int) p) ((0 : Int), (0 : Int))) + (1 : Int)) * (2 : Int)) (natE' N D)) = X ∧ (max (Int.toNat p + (200 : Nat)) (max (Int.toNat p + (200 : Nat)) (Int.toNat p + (200 : Nat)) + (64 : Nat)) + (1 : Nat) ≤ Int.toNat p + (300 : Nat) ∨ Int.natAbs (Prod.fst (Option.getD (tanR (natN' N D - natD N D) (natN' N D + natD N D) p) ((0 : Int), (0 : Int))) * (2 : Int) + Prod.fst (sTim (Prod.fst (Option.getD (tanR (1 : Int) (3 : Int) p) ((0 : Int), (0 : Int))) * (2 : Int), (Prod.snd (Option.getD (tanR (1 : Int) (3 : Int) p) ((0 : Int), (0 : Int))) + (1 : Int)) * (2 : Int)) (natE' N D))) < (2 : Nat) ^ (Int.toNat p + (300 : Nat)))) ∧ ((Prod.snd (Option.getD (tanR (natN' N D - natD N D) (natN' N D + natD N D) p) ((0 : Int), (0 : Int))) + (1 : Int)) * (2 : Int) + Prod.snd (sTim (Prod.fst (Option.getD (tanR (1 : Int) (3 : Int) p) ((0 : Int), (0 : Int))) * (2 : Int), (Prod.snd (Option.getD (tanR (1 : Int) (3 : Int) p) ((0 : Int), (0 : Int))) + (1 : Int)) * (2 : Int)) (natE' N D)) = Y ∧ (max (Int.toNat p + (200 : Nat)) (max (Int.toNat p + (200 : Nat)) (Int.toNat p + (200 : Nat)) + (64 : Nat)) + (1 : Nat) ≤ Int.toNat p + (300 : Nat) ∨ Int.natAbs ((Prod.snd (Option.getD (tanR (natN' N D - natD N D) (natN' N D + natD N D) p) ((0 : Int), (0 : Int))) + (1 : Int)) * (2 : Int) + Prod.snd (sTim (Prod.fst (Option.getD (tanR (1 : Int) (3 : Int) p) ((0 : Int), (0 : Int))) * (2 : Int), (Prod.snd (Option.getD (tanR (1 : Int) (3 : Int) p) ((0 : Int), (0 : Int))) + (1 : Int)) * (2 : Int)) (natE' N D))) < (2 : Nat) ^ (Int.toNat p + (300 : Nat)))) ∧ True else ((0 : Int) ≤ IntKind.wrap IntKind.i64 ((0 : Int) - IntKind.wrap IntKind.i64 ((↑(bl (Int.natAbs N)) : Int) - (↑(bl (Int.natAbs D)) : Int))) ∧ IntKind.wrap IntKind.i64 ((0 : Int) - IntKind.wrap IntKind.i64 ((↑(bl (Int.natAbs N)) : Int) - (↑(bl (Int.natAbs D)) : Int))) ≤ (200000 : Int)) ∧ (n ≤ (1000000 : Nat) ∧ Int.toNat (IntKind.wrap IntKind.i64 ((0 : Int) - IntKind.wrap IntKind.i64 ((↑(bl (Int.natAbs N)) : Int) - (↑(bl (Int.natAbs D)) : Int)))) + (1 : Nat) ≤ (1000000 : Nat)) ∧ ((n + (Int.toNat (IntKind.wrap IntKind.i64 ((0 : Int) - IntKind.wrap IntKind.i64 ((↑(bl (Int.natAbs N)) : Int) - (↑(bl (Int.natAbs D)) : Int)))) + (1 : Nat)) ≤ (1000000 : Nat) ∧ m ≤ (1000000 : Nat)) ∧ bif decide (icmp (N * (2 : Int) ^ Int.toNat (IntKind.wrap IntKind.i64 ((0 : Int) - IntKind.wrap IntKind.i64 ((↑(bl (Int.natAbs N)) : Int) - (↑(bl (Int.natAbs D)) : Int))))) D < (0 : Int)) then (n + (Int.toNat (IntKind.wrap IntKind.i64 ((0 : Int) - IntKind.wrap IntKind.i64 ((↑(bl (Int.natAbs N)) : Int) - (↑(bl (Int.natAbs D)) : Int)))) + (1 : Nat)) ≤ (1000000 : Nat) ∧ n + (Int.toNat (IntKind.wrap IntKind.i64 ((0 : Int) - IntKind.wrap IntKind.i64 ((↑(bl (Int.natAbs N)) : Int) - (↑(bl (Int.natAbs D)) : Int)))) + (1 : Nat)) ≤ (1000000 : Nat)) ∧ ∃ i, i = (0 : Nat) ∧ (p = p ∧ (0 : Nat) = (0 : Nat) ∧ IntKind.wrap IntKind.i64 (IntKind.wrap IntKind.i64 ((↑(bl (Int.natAbs N)) : Int) - (↑(bl (Int.natAbs D)) : Int)) - (1 : Int)) = natE' N D ∧ (0 : Nat) = (0 : Nat) ∧ (0 : Nat) = (0 : Nat) ∧ True) ∧ ((N = N ∧ (n ≤ n ∨ Int.natAbs N < (2 : Nat) ^ n)) ∧ (D = D ∧ (m ≤ m ∨ Int.natAbs D < (2 : Nat) ^ m)) ∧ True) ∧ (((0 : Int) = (0 : Int) ∧ ((0 : Nat) ≤ (0 : Nat) ∨ Int.natAbs (0 : Int) < (2 : Nat) ^ (0 : Nat))) ∧ ((0 : Int) = (0 : Int) ∧ ((0 : Nat) ≤ (0 : Nat) ∨ Int.natAbs (0 : Int) < (2 : Nat) ^ (0 : Nat))) ∧ True) ∧ (N * (2 : Int) ^ Int.toNat (IntKind.wrap IntKind.i64 ((0 : Int) - IntKind.wrap IntKind.i64 ((↑(bl (Int.natAbs N)) : Int) - (↑(bl (Int.natAbs D)) : Int)))) + N * (2 : Int) ^ Int.toNat (IntKind.wrap IntKind.i64 ((0 : Int) - IntKind.wrap IntKind.i64 ((↑(bl (Int.natAbs N)) : Int) - (↑(bl (Int.natAbs D)) : Int)))) = natN' N D ∧ (max (n + (Int.toNat (IntKind.wrap IntKind.i64 ((0 : Int) - IntKind.wrap IntKind.i64 ((↑(bl (Int.natAbs N)) : Int) - (↑(bl (Int.natAbs D)) : Int)))) + (1 : Nat))) (n + (Int.toNat (IntKind.wrap IntKind.i64 ((0 : Int) - IntKind.wrap IntKind.i64 ((↑(bl (Int.natAbs N)) : Int) - (↑(bl (Int.natAbs D)) : Int)))) + (1 : Nat))) + (1 : Nat) ≤ (30000 : Nat) ∨ Int.natAbs (N * (2 : Int) ^ Int.toNat (IntKind.wrap IntKind.i64 ((0 : Int) - IntKind.wrap IntKind.i64 ((↑(bl (Int.natAbs N)) : Int) - (↑(bl (Int.natAbs D)) : Int)))) + N * (2 : Int) ^ Int.toNat (IntKind.wrap IntKind.i64 ((0 : Int) - IntKind.wrap IntKind.i64 ((↑(bl (Int.natAbs N)) : Int) - (↑(bl (Int.natAbs D)) : Int))))) < (2 : Nat) ^ (30000 : Nat))) ∧ (D = natD N D ∧ (m ≤ (30000 : Nat) ∨ Int.natAbs D < (2 : Nat) ^ (30000 : Nat))) ∧ True else ∃ i, i = (0 : Nat) ∧ (p = p ∧ (0 : Nat) = (0 : Nat) ∧ IntKind.wrap IntKind.i64 ((↑(bl (Int.natAbs N)) : Int) - (↑(bl (Int.natAbs D)) : Int)) = natE' N D ∧ (0 : Nat) = (0 : Nat) ∧ (0 : Nat) = (0 : Nat) ∧ True) ∧ ((N = N ∧ (n ≤ n ∨ Int.natAbs N < (2 : Nat) ^ n)) ∧ (D = D ∧ (m ≤ m ∨ Int.natAbs D < (2 : Nat) ^ m)) ∧ True) ∧ (((0 : Int) = (0 : Int) ∧ ((0 : Nat) ≤ (0 : Nat) ∨ Int.natAbs (0 : Int) < (2 : Nat) ^ (0 : Nat))) ∧ ((0 : Int) = (0 : Int) ∧ ((0 : Nat) ≤ (0 : Nat) ∨ Int.natAbs (0 : Int) < (2 : Nat) ^ (0 : Nat))) ∧ True) ∧ (N * (2 : Int) ^ Int.toNat (IntKind.wrap IntKind.i64 ((0 : Int) - IntKind.wrap IntKind.i64 ((↑(bl (Int.natAbs N)) : Int) - (↑(bl (Int.natAbs D)) : Int)))) = natN' N D ∧ (n + (Int.toNat (IntKind.wrap IntKind.i64 ((0 : Int) - IntKind.wrap IntKind.i64 ((↑(bl (Int.natAbs N)) : Int) - (↑(bl (Int.natAbs D)) : Int)))) + (1 : Nat)) ≤ (30000 : Nat) ∨ Int.natAbs (N * (2 : Int) ^ Int.toNat (IntKind.wrap IntKind.i64 ((0 : Int) - IntKind.wrap IntKind.i64 ((↑(bl (Int.natAbs N)) : Int) - (↑(bl (Int.natAbs D)) : Int))))) < (2 : Nat) ^ (30000 : Nat))) ∧ (D = natD N D ∧ (m ≤ (30000 : Nat) ∨ Int.natAbs D < (2 : Nat) ^ (30000 : Nat))) ∧ True) ∧ ∀ (i : Nat), i = (0 : Nat) → ((-9223372036854775808 : Int) ≤ (1 : Int) ∧ (1 : Int) ≤ (9223372036854775807 : Int)) ∧ ((-9223372036854775808 : Int) ≤ (3 : Int) ∧ (3 : Int) ≤ (9223372036854775807 : Int)) ∧ ((64 : Nat) ≤ (100000 : Nat) ∧ (64 : Nat) ≤ (100000 : Nat) ∧ (0 : Int) ≤ p ∧ p ≤ (50000 : Int) ∧ (0 : Int) ≤ (1 : Int) ∧ (1 : Int) < (3 : Int) ∧ Option.isSome (tanR (1 : Int) (3 : Int) p) = true) ∧ ((30000 : Nat) ≤ (1000000 : Nat) ∧ (30000 : Nat) ≤ (1000000 : Nat)) ∧ ((30000 : Nat) ≤ (1000000 : Nat) ∧ (30000 : Nat) ≤ (1000000 : Nat)) ∧ (max (30000 : Nat) (30000 : Nat) + (1 : Nat) ≤ (100000 : Nat) ∧ max (30000 : Nat) (30000 : Nat) + (1 : Nat) ≤ (100000 : Nat) ∧ (0 : Int) ≤ p ∧ p ≤ (50000 : Int) ∧ (0 : Int) ≤ natN' N D - natD N D ∧ natN' N D - natD N D < natN' N D + natD N D ∧ Option.isSome (tanR (natN' N D - natD N D) (natN' N D + natD N D) p) = true) ∧ (Int.toNat p + (200 : Nat) ≤ (400000 : Nat) ∧ Int.toNat p + (200 : Nat) ≤ (400000 : Nat) ∧ (-1000000000 : Int) ≤ natE' N D ∧ natE' N D ≤ (1000000000 : Int)) ∧ (Int.toNat p + (200 : Nat) ≤ (900000 : Nat) ∧ Int.toNat p + (200 : Nat) ≤ (900000 : Nat) ∧ max (Int.toNat p + (200 : Nat)) (Int.toNat p + (200 : Nat)) + (64 : Nat) ≤ (900000 : Nat) ∧ max (Int.toNat p + (200 : Nat)) (Int.toNat p + (200 : Nat)) + (64 : Nat) ≤ (900000 : Nat)) ∧ (Prod.fst (Option.getD (tanR (natN' N D - natD N D) (natN' N D + natD N D) p) ((0 : Int), (0 : Int))) * (2 : Int) + Prod.fst (sTim (Prod.fst (Option.getD (tanR (1 : Int) (3 : Int) p) ((0 : Int), (0 : Int))) * (2 : Int), (Prod.snd (Option.getD (tanR (1 : Int) (3 : Int) p) ((0 : Int), (0 : Int))) + (1 : Int)) * (2 : Int)) (natE' N D)) = X ∧ (max (Int.toNat p + (200 : Nat)) (max (Int.toNat p + (200 : Nat)) (Int.toNat p + (200 : Nat)) + (64 : Nat)) + (1 : Nat) ≤ Int.toNat p + (300 : Nat) ∨ Int.natAbs (Prod.fst (Option.getD (tanR (natN' N D - natD N D) (natN' N D + natD N D) p) ((0 : Int), (0 : Int))) * (2 : Int) + Prod.fst (sTim (Prod.fst (Option.getD (tanR (1 : Int) (3 : Int) p) ((0 : Int), (0 : Int))) * (2 : Int), (Prod.snd (Option.getD (tanR (1 : Int) (3 : Int) p) ((0 : Int), (0 : Int))) + (1 : Int)) * (2 : Int)) (natE' N D))) < (2 : Nat) ^ (Int.toNat p + (300 : Nat)))) ∧ ((Prod.snd (Option.getD (tanR (natN' N D - natD N D) (natN' N D + natD N D) p) ((0 : Int), (0 : Int))) + (1 : Int)) * (2 : Int) + Prod.snd (sTim (Prod.fst (Option.getD (tanR (1 : Int) (3 : Int) p) ((0 : Int), (0 : Int))) * (2 : Int), (Prod.snd (Option.getD (tanR (1 : Int) (3 : Int) p) ((0 : Int), (0 : Int))) + (1 : Int)) * (2 : Int)) (natE' N D)) = Y ∧ (max (Int.toNat p + (200 : Nat)) (max (Int.toNat p + (200 : Nat)) (Int.toNat p + (200 : Nat)) + (64 : Nat)) + (1 : Nat) ≤ Int.toNat p + (300 : Nat) ∨ Int.natAbs ((Prod.snd (Option.getD (tanR (natN' N D - natD N D) (natN' N D + natD N D) p) ((0 : Int), (0 : Int))) + (1 : Int)) * (2 : Int) + Prod.snd (sTim (Prod.fst (Option.getD (tanR (1 : Int) (3 : Int) p) ((0 : Int), (0 : Int))) * (2 : Int), (Prod.snd (Option.getD (tanR (1 : Int) (3 : Int) p) ((0 : Int), (0 : Int))) + (1 : Int)) * (2 : Int)) (natE' N D))) < (2 : Nat) ^ (Int.toNat p + (300 : Nat)))) ∧ True) = evFn (envC [c_bits, c_two, c_mul, c_icmp, c_iadd, c_iof, c_tan, c_isub, c_stimes, c_sadd] noAnn (k_nat N D p n m)) Tryz.f56 [.st [.big N n, .big D m], .int .i64 p] (MRes.sat (.ret (ratM X Y (p.toNat + 300) (p.toNat + 300)))) := by kernel_rfl
theorem icmp_lt0 (a b : Int) : decide (icmp a b < 0) = decide (a < b) := by
  refine decide_eq_decide.2 ?_
  unfold icmp
  split <;> (try split) <;> omega
/-- The scaled quotient is from 1 to 2. -/
theorem nat_scaled {N D : Int} (hN : 0 < N) (hD : 0 < D) : 0 < natD N D ∧ natD N D ≤ natN' N D := by
  have b1 := bl_lt N.natAbs
  have b2 := bl_le (n := N.natAbs) (by omega)
  have b3 := bl_lt D.natAbs
  have b4 := bl_le (n := D.natAbs) (by omega)
  have eN : (N.natAbs : Int) = N := by omega
  have eD : (D.natAbs : Int) = D := by omega
  have n0 : bl N.natAbs ≠ 0 := fun h => by rw [h] at b1; omega
  have d0 : bl D.natAbs ≠ 0 := fun h => by rw [h] at b3; omega
  have key : 0 < natN N D ∧ 0 < natD N D ∧ natD N D ≤ 2 * natN N D := by
    unfold natN natD natE
    by_cases h : (0 : Int) ≤ (bl N.natAbs : Int) - bl D.natAbs
    · rw [if_pos h, if_pos h]
      have e : ((bl N.natAbs : Int) - bl D.natAbs).toNat = bl N.natAbs - bl D.natAbs := by omega
      rw [e]
      have hp := two_pos (bl N.natAbs - bl D.natAbs)
      refine ⟨hN, Int.mul_pos hD hp, ?_⟩
      have h5 : D.natAbs * 2 ^ (bl N.natAbs - bl D.natAbs) ≤ 2 ^ bl D.natAbs * 2 ^ (bl N.natAbs - bl D.natAbs) := Nat.mul_le_mul_right _ (by omega)
      rw [← Nat.pow_add, show bl D.natAbs + (bl N.natAbs - bl D.natAbs) = (bl N.natAbs - 1) + 1 by omega, Nat.pow_succ] at h5
      have h6 : ((D.natAbs * 2 ^ (bl N.natAbs - bl D.natAbs) : Nat) : Int) = D * 2 ^ (bl N.natAbs - bl D.natAbs) := by rw [Int.natCast_mul, eD, Int.natCast_pow]; rfl
      rw [← h6]
      omega
    · rw [if_neg h, if_neg h]
      have e : (-((bl N.natAbs : Int) - bl D.natAbs)).toNat = bl D.natAbs - bl N.natAbs := by omega
      rw [e]
      have hp := two_pos (bl D.natAbs - bl N.natAbs)
      refine ⟨Int.mul_pos hN hp, hD, ?_⟩
      have h5 : 2 ^ (bl N.natAbs - 1) * 2 ^ (bl D.natAbs - bl N.natAbs) ≤ N.natAbs * 2 ^ (bl D.natAbs - bl N.natAbs) := Nat.mul_le_mul_right _ (by omega)
      rw [← Nat.pow_add, show bl N.natAbs - 1 + (bl D.natAbs - bl N.natAbs) = bl D.natAbs - 1 by omega] at h5
      have h6 : ((N.natAbs * 2 ^ (bl D.natAbs - bl N.natAbs) : Nat) : Int) = N * 2 ^ (bl D.natAbs - bl N.natAbs) := by rw [Int.natCast_mul, eN, Int.natCast_pow]; rfl
      have h7 : 2 ^ bl D.natAbs = 2 ^ (bl D.natAbs - 1) * 2 := by rw [← Nat.pow_succ]; congr 1; omega
      rw [← h6]
      omega
  unfold natN'
  refine ⟨key.2.1, ?_⟩
  by_cases h : natN N D < natD N D
  · rw [if_pos h]; omega
  · rw [if_neg h]; omega
theorem natG_some {N D p X Y : Int} (h : natG N D p = some (X, Y)) : ∃ a b c d : Int, tanR 1 3 p = some (a, b) ∧ tanR (natN' N D - natD N D) (natN' N D + natD N D) p = some (c, d) ∧
    X = c * 2 + (sTim (a * 2, (b + 1) * 2) (natE' N D)).1 ∧ Y = (d + 1) * 2 + (sTim (a * 2, (b + 1) * 2) (natE' N D)).2 := by
  unfold natG at h
  rw [tanG_eq, tanG_eq] at h
  cases h1 : tanR 1 3 p with
  | none => rw [h1] at h; simp at h
  | some u =>
    cases h2 : tanR (natN' N D - natD N D) (natN' N D + natD N D) p with
    | none => rw [h1, h2] at h; simp at h
    | some v =>
      rw [h1, h2] at h
      simp only [Option.map_some, sAdd, Option.some.injEq, Prod.mk.injEq] at h
      exact ⟨u.1, u.2, v.1, v.2, rfl, rfl, h.1.symm, h.2.symm⟩
theorem natE_le {N D : Int} {n m : Nat} (hn : N.natAbs < 2 ^ n) (hm : D.natAbs < 2 ^ m) : -(m : Int) ≤ natE N D ∧ natE N D ≤ n := by
  have := bl_le_of hn
  have := bl_le_of hm
  unfold natE
  omega

theorem p_nat : GoodF Tryz.f56 s_nat := by
  intro ms p r h hp hf
  unfold s_nat at h
  split at h
  · rename_i N n D m p
    simp only [Option.some.injEq, Prod.mk.injEq] at h
    obtain ⟨rfl, rfl⟩ := h
    obtain ⟨h1, h2, h3, h4, h5, h6, h7⟩ : n ≤ 10000 ∧ m ≤ 10000 ∧ 0 < N ∧ 0 < D ∧ 0 ≤ p ∧ p ≤ 50000 ∧ (natG N D p).isSome = true := hp
    have hn : N.natAbs < 2 ^ n := hf.1.1
    have hm : D.natAbs < 2 ^ m := hf.1.2.1
    obtain ⟨⟨X, Y⟩, hR⟩ := Option.isSome_iff_exists.1 h7
    rw [hR]
    refine ⟨envC [c_bits, c_two, c_mul, c_icmp, c_iadd, c_iof, c_tan, c_isub, c_stimes, c_sadd] noAnn (k_nat N D p n m), ?_⟩
    rw [Option.getD_some, ← vc_nat N D p X Y n m]
    obtain ⟨u, v, x, y, g1, g2, g3, g4⟩ := natG_some hR
    obtain ⟨s1, s2⟩ := nat_scaled h3 h4
    obtain ⟨e1, e2⟩ := natE_le hn hm
    have hE' : natE' N D = natE N D ∨ natE' N D = natE N D - 1 := by unfold natE'; split <;> omega
    have i1 : (tanR 1 3 p).isSome = true := by rw [g1]; rfl
    have i2 : (tanR (natN' N D - natD N D) (natN' N D + natD N D) p).isSome = true := by rw [g2]; rfl
    have w1 : IntKind.wrap IntKind.i64 ((bl N.natAbs : Int) - (bl D.natAbs : Int)) = natE N D := i64w (by unfold natE at e1; omega) (by unfold natE at e2; omega)
    have w2 : IntKind.wrap IntKind.i64 (natE N D - 1) = natE N D - 1 := i64w (by omega) (by omega)
    have w3 : IntKind.wrap IntKind.i64 (0 - natE N D) = -natE N D := by rw [i64w (by omega) (by omega)]; omega
    rw [w1, w2, w3, icmp_lt0, icmp_lt0]
    refine ⟨by omega, by omega, ?_⟩
    clear hf hR
    have hNN : ∀ c : Bool, decide (natN N D < natD N D) = c → natN' N D = (cond c (natN N D + natN N D) (natN N D)) ∧ natE' N D = cond c (natE N D - 1) (natE N D) := by
      intro c hc
      unfold natN' natE'
      cases c with
      | true => rw [if_pos (of_decide_eq_true hc), if_pos (of_decide_eq_true hc)]; exact ⟨rfl, rfl⟩
      | false => rw [if_neg (of_decide_eq_false hc), if_neg (of_decide_eq_false hc)]; exact ⟨rfl, rfl⟩
    by_cases he : 0 ≤ natE N D
    · have t1 : natN N D = N := by unfold natN; rw [if_pos he]
      have t2 : natD N D = D * 2 ^ (natE N D).toNat := by unfold natD; rw [if_pos he]
      rw [decide_eq_true he, cond_true, ← t2]
      refine ⟨by omega, ⟨by omega, by omega⟩, ⟨⟨by omega, by omega⟩, ?_⟩, ?_⟩
      · rw [t1] at hNN
        cases hc : decide (N < natD N D) with
        | true =>
          obtain ⟨q1, q2⟩ := hNN _ hc
          exact ⟨⟨by omega, by omega⟩, 0, rfl, ⟨rfl, rfl, q2.symm, rfl, rfl, True.intro⟩, ⟨⟨rfl, .inl (Nat.le_refl _)⟩, ⟨rfl, .inl (Nat.le_refl _)⟩, True.intro⟩, ⟨⟨rfl, .inl (Nat.le_refl _)⟩, ⟨rfl, .inl (Nat.le_refl _)⟩, True.intro⟩, ⟨q1.symm, .inl (by omega)⟩, ⟨rfl, .inl (by omega)⟩, True.intro⟩
        | false =>
          obtain ⟨q1, q2⟩ := hNN _ hc
          exact ⟨0, rfl, ⟨rfl, rfl, q2.symm, rfl, rfl, True.intro⟩, ⟨⟨rfl, .inl (Nat.le_refl _)⟩, ⟨rfl, .inl (Nat.le_refl _)⟩, True.intro⟩, ⟨⟨rfl, .inl (Nat.le_refl _)⟩, ⟨rfl, .inl (Nat.le_refl _)⟩, True.intro⟩, ⟨q1.symm, .inl (by omega)⟩, ⟨rfl, .inl (by omega)⟩, True.intro⟩
      · intro i _
        rw [g1, g2]
        exact ⟨by omega, by omega, ⟨by omega, by omega, h5, h6, by omega, by omega, rfl⟩, by omega, by omega, ⟨by omega, by omega, h5, h6, by omega, by omega, rfl⟩, ⟨by omega, by omega, by omega, by omega⟩, ⟨by omega, by omega, by omega, by omega⟩, ⟨g3.symm, .inl (by omega)⟩, ⟨g4.symm, .inl (by omega)⟩, True.intro⟩
    · have t1 : natN N D = N * 2 ^ (-natE N D).toNat := by unfold natN; rw [if_neg he]
      have t2 : natD N D = D := by unfold natD; rw [if_neg he]
      rw [decide_eq_false he, cond_false, ← t1]
      refine ⟨by omega, ⟨by omega, by omega⟩, ⟨⟨by omega, by omega⟩, ?_⟩, ?_⟩
      · rw [t2] at hNN
        cases hc : decide (natN N D < D) with
        | true =>
          obtain ⟨q1, q2⟩ := hNN _ hc
          exact ⟨⟨by omega, by omega⟩, 0, rfl, ⟨rfl, rfl, q2.symm, rfl, rfl, True.intro⟩, ⟨⟨rfl, .inl (Nat.le_refl _)⟩, ⟨rfl, .inl (Nat.le_refl _)⟩, True.intro⟩, ⟨⟨rfl, .inl (Nat.le_refl _)⟩, ⟨rfl, .inl (Nat.le_refl _)⟩, True.intro⟩, ⟨q1.symm, .inl (by omega)⟩, ⟨t2.symm, .inl (by omega)⟩, True.intro⟩
        | false =>
          obtain ⟨q1, q2⟩ := hNN _ hc
          exact ⟨0, rfl, ⟨rfl, rfl, q2.symm, rfl, rfl, True.intro⟩, ⟨⟨rfl, .inl (Nat.le_refl _)⟩, ⟨rfl, .inl (Nat.le_refl _)⟩, True.intro⟩, ⟨⟨rfl, .inl (Nat.le_refl _)⟩, ⟨rfl, .inl (Nat.le_refl _)⟩, True.intro⟩, ⟨q1.symm, .inl (by omega)⟩, ⟨t2.symm, .inl (by omega)⟩, True.intro⟩
      · intro i _
        rw [g1, g2]
        exact ⟨by omega, by omega, ⟨by omega, by omega, h5, h6, by omega, by omega, rfl⟩, by omega, by omega, ⟨by omega, by omega, h5, h6, by omega, by omega, rfl⟩, ⟨by omega, by omega, by omega, by omega⟩, ⟨by omega, by omega, by omega, by omega⟩, ⟨g3.symm, .inl (by omega)⟩, ⟨g4.symm, .inl (by omega)⟩, True.intro⟩
  · simp at h
def c_nat : Ctr Tryz.prog := ⟨56, s_nat, fun args w => Tryz.call56 args w, fn_ok_facts mix Tryz.func56 s_nat p_nat⟩

end Go.Proofs.YtkokpkhdkbeofaaGreat

/-
  Contracts of functions: package bound: Sqrt, Log.
-/
namespace Go.Proofs.YtkokpkhdkbeofaaGreat
open Go Go.RowKit

abbrev ivM (a b c d : Int) (n m k l : Nat) : MV := .st [ratM a b n m, ratM c d k l]
def rootG (N D k : Int) : Int := nsq ((N * 2 ^ (2 * k).toNat) / D).natAbs
def s_root : FSpec
  | [.st [.big N n, .big D m], .int .i64 k] => some (some (n ≤ 10000 ∧ m ≤ 10000 ∧ 0 ≤ N ∧ 0 < D ∧ 0 ≤ k ∧ k ≤ 25000), .ret (.big (rootG N D k) (n + 2 * k.toNat + 1)))
  | _ => none
theorem vc_root (N D k : Int) (n m : Nat) : (((0 : Int) ≤ IntKind.wrap IntKind.i64 ((2 : Int) * k) ∧ IntKind.wrap IntKind.i64 ((2 : Int) * k) ≤ (200000 : Int)) ∧ (n ≤ (1000000 : Nat) ∧ Int.toNat (IntKind.wrap IntKind.i64 ((2 : Int) * k)) + (1 : Nat) ≤ (1000000 : Nat)) ∧ (n + (Int.toNat (IntKind.wrap IntKind.i64 ((2 : Int) * k)) + (1 : Nat)) ≤ (900000 : Nat) ∧ m ≤ (900000 : Nat) ∧ (D = (0 : Int) → False)) ∧ n + (Int.toNat (IntKind.wrap IntKind.i64 ((2 : Int) * k)) + (1 : Nat)) ≤ (100000 : Nat) ∧ bif decide (N * (2 : Int) ^ Int.toNat (IntKind.wrap IntKind.i64 ((2 : Int) * k)) / D < (0 : Int)) then (0 : Int) = rootG N D k ∧ ((0 : Nat) ≤ n + (2 : Nat) * Int.toNat k + (1 : Nat) ∨ Int.natAbs (0 : Int) < (2 : Nat) ^ (n + (2 : Nat) * Int.toNat k + (1 : Nat))) else (↑(nsq (Int.natAbs (N * (2 : Int) ^ Int.toNat (IntKind.wrap IntKind.i64 ((2 : Int) * k)) / D))) : Int) = rootG N D k ∧ (n + (Int.toNat (IntKind.wrap IntKind.i64 ((2 : Int) * k)) + (1 : Nat)) ≤ n + (2 : Nat) * Int.toNat k + (1 : Nat) ∨ Int.natAbs (↑(nsq (Int.natAbs (N * (2 : Int) ^ Int.toNat (IntKind.wrap IntKind.i64 ((2 : Int) * k)) / D))) : Int) < (2 : Nat) ^ (n + (2 : Nat) * Int.toNat k + (1 : Nat)))) = evFn (env [c_two, c_mul, c_bfloor, c_isqrt] noAnn) Tryz.f45 [.st [.big N n, .big D m], .int .i64 k] (MRes.sat (.ret (.big (rootG N D k) (n + 2 * k.toNat + 1)))) := by kernel_rfl
theorem p_root : Good Tryz.f45 s_root := by
  intro ms p r h hp
  unfold s_root at h
  split at h
  · rename_i N n D m k
    simp only [Option.some.injEq, Prod.mk.injEq] at h
    obtain ⟨rfl, rfl⟩ := h
    obtain ⟨h1, h2, h3, h4, h5, h6⟩ : n ≤ 10000 ∧ m ≤ 10000 ∧ 0 ≤ N ∧ 0 < D ∧ 0 ≤ k ∧ k ≤ 25000 := hp
    refine ⟨env [c_two, c_mul, c_bfloor, c_isqrt] noAnn, ?_⟩
    rw [← vc_root N D k n m]
    have e : IntKind.wrap IntKind.i64 (2 * k) = 2 * k := i64w (by omega) (by omega)
    have hq : ¬ N * 2 ^ (2 * k).toNat / D < 0 := by
      have := Int.ediv_nonneg (Int.mul_nonneg h3 (Int.le_of_lt (two_pos (2 * k).toNat))) (show 0 ≤ D by omega)
      omega
    rw [e, decide_eq_false hq]
    exact ⟨by omega, ⟨by omega, by omega⟩, ⟨by omega, by omega, fun h => by omega⟩, by omega, rfl, .inl (by omega)⟩
  · simp at h
def c_root : Ctr Tryz.prog := ⟨45, s_root, fun args w => Tryz.call45 args w, fn_ok mix Tryz.func45 s_root p_root⟩

def sqEq (N D k : Int) : Prop := redN (redN (rootG N D k) (2 ^ k.toNat) * redN (rootG N D k) (2 ^ k.toNat)) (redD (rootG N D k) (2 ^ k.toNat) * redD (rootG N D k) (2 ^ k.toNat)) * D = N * redD (redN (rootG N D k) (2 ^ k.toNat) * redN (rootG N D k) (2 ^ k.toNat)) (redD (rootG N D k) (2 ^ k.toNat) * redD (rootG N D k) (2 ^ k.toNat))
instance (N D k : Int) : Decidable (sqEq N D k) := Int.instDecidableEq ..
def wrongK (k : Int) : Prop := k < 0 ∨ 200 < k
instance (k : Int) : Decidable (wrongK k) := inferInstanceAs (Decidable (_ ∨ _))
def bsqrtR (N D k : Int) : MRes :=
  .br (decide (wrongK k) || decide (N < 0)) (.ret (.tup [ivM 0 0 0 0 0 0 0 0, .int .i64 1]))
    (.br (decide (sqEq N D k)) (.ret (.tup [ivM (redN (rootG N D k) (2 ^ k.toNat)) (redD (rootG N D k) (2 ^ k.toNat)) (redN (rootG N D k) (2 ^ k.toNat)) (redD (rootG N D k) (2 ^ k.toNat)) 70000 201 70001 201, .int .i64 0]))
      (.ret (.tup [ivM (redN (rootG N D k) (2 ^ k.toNat)) (redD (rootG N D k) (2 ^ k.toNat)) (redN (rootG N D k + 1) (2 ^ k.toNat)) (redD (rootG N D k + 1) (2 ^ k.toNat)) 70000 201 70001 201, .int .i64 0])))
def s_bsqrt : FSpec
  | [.st [.big N n, .big D m], .int .i64 k] => some (some (n ≤ 10000 ∧ m ≤ 10000 ∧ 0 < D), bsqrtR N D k)
  | _ => none
theorem vc_bsqrt (N D k : Int) (n m : Nat) : (bif decide (k < (0 : Int) ∨ (200 : Int) < k) then bif decide (wrongK k) || decide (N < (0 : Int)) then ((((0 : Int) = (0 : Int) ∧ ((0 : Nat) ≤ (0 : Nat) ∨ Int.natAbs (0 : Int) < (2 : Nat) ^ (0 : Nat))) ∧ ((0 : Int) = (0 : Int) ∧ ((0 : Nat) ≤ (0 : Nat) ∨ Int.natAbs (0 : Int) < (2 : Nat) ^ (0 : Nat))) ∧ True) ∧ (((0 : Int) = (0 : Int) ∧ ((0 : Nat) ≤ (0 : Nat) ∨ Int.natAbs (0 : Int) < (2 : Nat) ^ (0 : Nat))) ∧ ((0 : Int) = (0 : Int) ∧ ((0 : Nat) ≤ (0 : Nat) ∨ Int.natAbs (0 : Int) < (2 : Nat) ^ (0 : Nat))) ∧ True) ∧ True) ∧ (1 : Int) = (1 : Int) ∧ True else bif decide (sqEq N D k) then ((((0 : Int) = redN (rootG N D k) ((2 : Int) ^ Int.toNat k) ∧ ((0 : Nat) ≤ (70000 : Nat) ∨ Int.natAbs (0 : Int) < (2 : Nat) ^ (70000 : Nat))) ∧ ((0 : Int) = redD (rootG N D k) ((2 : Int) ^ Int.toNat k) ∧ ((0 : Nat) ≤ (201 : Nat) ∨ Int.natAbs (0 : Int) < (2 : Nat) ^ (201 : Nat))) ∧ True) ∧ (((0 : Int) = redN (rootG N D k) ((2 : Int) ^ Int.toNat k) ∧ ((0 : Nat) ≤ (70001 : Nat) ∨ Int.natAbs (0 : Int) < (2 : Nat) ^ (70001 : Nat))) ∧ ((0 : Int) = redD (rootG N D k) ((2 : Int) ^ Int.toNat k) ∧ ((0 : Nat) ≤ (201 : Nat) ∨ Int.natAbs (0 : Int) < (2 : Nat) ^ (201 : Nat))) ∧ True) ∧ True) ∧ (1 : Int) = (0 : Int) ∧ True else ((((0 : Int) = redN (rootG N D k) ((2 : Int) ^ Int.toNat k) ∧ ((0 : Nat) ≤ (70000 : Nat) ∨ Int.natAbs (0 : Int) < (2 : Nat) ^ (70000 : Nat))) ∧ ((0 : Int) = redD (rootG N D k) ((2 : Int) ^ Int.toNat k) ∧ ((0 : Nat) ≤ (201 : Nat) ∨ Int.natAbs (0 : Int) < (2 : Nat) ^ (201 : Nat))) ∧ True) ∧ (((0 : Int) = redN (rootG N D k + (1 : Int)) ((2 : Int) ^ Int.toNat k) ∧ ((0 : Nat) ≤ (70001 : Nat) ∨ Int.natAbs (0 : Int) < (2 : Nat) ^ (70001 : Nat))) ∧ ((0 : Int) = redD (rootG N D k + (1 : Int)) ((2 : Int) ^ Int.toNat k) ∧ ((0 : Nat) ≤ (201 : Nat) ∨ Int.natAbs (0 : Int) < (2 : Nat) ^ (201 : Nat))) ∧ True) ∧ True) ∧ (1 : Int) = (0 : Int) ∧ True else bif decide (sgn N < (0 : Int)) then bif decide (wrongK k) || decide (N < (0 : Int)) then ((((0 : Int) = (0 : Int) ∧ ((0 : Nat) ≤ (0 : Nat) ∨ Int.natAbs (0 : Int) < (2 : Nat) ^ (0 : Nat))) ∧ ((0 : Int) = (0 : Int) ∧ ((0 : Nat) ≤ (0 : Nat) ∨ Int.natAbs (0 : Int) < (2 : Nat) ^ (0 : Nat))) ∧ True) ∧ (((0 : Int) = (0 : Int) ∧ ((0 : Nat) ≤ (0 : Nat) ∨ Int.natAbs (0 : Int) < (2 : Nat) ^ (0 : Nat))) ∧ ((0 : Int) = (0 : Int) ∧ ((0 : Nat) ≤ (0 : Nat) ∨ Int.natAbs (0 : Int) < (2 : Nat) ^ (0 : Nat))) ∧ True) ∧ True) ∧ (1 : Int) = (1 : Int) ∧ True else bif decide (sqEq N D k) then ((((0 : Int) = redN (rootG N D k) ((2 : Int) ^ Int.toNat k) ∧ ((0 : Nat) ≤ (70000 : Nat) ∨ Int.natAbs (0 : Int) < (2 : Nat) ^ (70000 : Nat))) ∧ ((0 : Int) = redD (rootG N D k) ((2 : Int) ^ Int.toNat k) ∧ ((0 : Nat) ≤ (201 : Nat) ∨ Int.natAbs (0 : Int) < (2 : Nat) ^ (201 : Nat))) ∧ True) ∧ (((0 : Int) = redN (rootG N D k) ((2 : Int) ^ Int.toNat k) ∧ ((0 : Nat) ≤ (70001 : Nat) ∨ Int.natAbs (0 : Int) < (2 : Nat) ^ (70001 : Nat))) ∧ ((0 : Int) = redD (rootG N D k) ((2 : Int) ^ Int.toNat k) ∧ ((0 : Nat) ≤ (201 : Nat) ∨ Int.natAbs (0 : Int) < (2 : Nat) ^ (201 : Nat))) ∧ True) ∧ True) ∧ (1 : Int) = (0 : Int) ∧ True else ((((0 : Int) = redN (rootG N D k) ((2 : Int) ^ Int.toNat k) ∧ ((0 : Nat) ≤ (70000 : Nat) ∨ Int.natAbs (0 : Int) < (2 : Nat) ^ (70000 : Nat))) ∧ ((0 : Int) = redD (rootG N D k) ((2 : Int) ^ Int.toNat k) ∧ ((0 : Nat) ≤ (201 : Nat) ∨ Int.natAbs (0 : Int) < (2 : Nat) ^ (201 : Nat))) ∧ True) ∧ (((0 : Int) = redN (rootG N D k + (1 : Int)) ((2 : Int) ^ Int.toNat k) ∧ ((0 : Nat) ≤ (70001 : Nat) ∨ Int.natAbs (0 : Int) < (2 : Nat) ^ (70001 : Nat))) ∧ ((0 : Int) = redD (rootG N D k + (1 : Int)) ((2 : Int) ^ Int.toNat k) ∧ ((0 : Nat) ≤ (201 : Nat) ∨ Int.natAbs (0 : Int) < (2 : Nat) ^ (201 : Nat))) ∧ True) ∧ True) ∧ (1 : Int) = (0 : Int) ∧ True else (n ≤ (10000 : Nat) ∧ m ≤ (10000 : Nat) ∧ (0 : Int) ≤ N ∧ (0 : Int) < D ∧ (0 : Int) ≤ k ∧ k ≤ (25000 : Int)) ∧ (n + (2 : Nat) * Int.toNat k + (1 : Nat) ≤ (200000 : Nat) ∧ (0 : Int) ≤ k ∧ k ≤ (200000 : Int)) ∧ (n + (2 : Nat) * Int.toNat k + (1 : Nat) ≤ (400000 : Nat) ∧ Int.toNat k + (1 : Nat) ≤ (400000 : Nat) ∧ n + (2 : Nat) * Int.toNat k + (1 : Nat) ≤ (400000 : Nat) ∧ Int.toNat k + (1 : Nat) ≤ (400000 : Nat) ∧ (0 : Int) < redD (rootG N D k) ((2 : Int) ^ Int.toNat k) ∧ (0 : Int) < redD (rootG N D k) ((2 : Int) ^ Int.toNat k)) ∧ (n + (2 : Nat) * Int.toNat k + (1 : Nat) + (n + (2 : Nat) * Int.toNat k + (1 : Nat)) ≤ (400000 : Nat) ∧ Int.toNat k + (1 : Nat) + (Int.toNat k + (1 : Nat)) ≤ (400000 : Nat) ∧ n ≤ (400000 : Nat) ∧ m ≤ (400000 : Nat)) ∧ bif icmp (redN (redN (rootG N D k) ((2 : Int) ^ Int.toNat k) * redN (rootG N D k) ((2 : Int) ^ Int.toNat k)) (redD (rootG N D k) ((2 : Int) ^ Int.toNat k) * redD (rootG N D k) ((2 : Int) ^ Int.toNat k)) * D) (N * redD (redN (rootG N D k) ((2 : Int) ^ Int.toNat k) * redN (rootG N D k) ((2 : Int) ^ Int.toNat k)) (redD (rootG N D k) ((2 : Int) ^ Int.toNat k) * redD (rootG N D k) ((2 : Int) ^ Int.toNat k))) == (0 : Int) then bif decide (wrongK k) || decide (N < (0 : Int)) then (((redN (rootG N D k) ((2 : Int) ^ Int.toNat k) = (0 : Int) ∧ (n + (2 : Nat) * Int.toNat k + (1 : Nat) ≤ (0 : Nat) ∨ Int.natAbs (redN (rootG N D k) ((2 : Int) ^ Int.toNat k)) < (2 : Nat) ^ (0 : Nat))) ∧ (redD (rootG N D k) ((2 : Int) ^ Int.toNat k) = (0 : Int) ∧ (Int.toNat k + (1 : Nat) ≤ (0 : Nat) ∨ Int.natAbs (redD (rootG N D k) ((2 : Int) ^ Int.toNat k)) < (2 : Nat) ^ (0 : Nat))) ∧ True) ∧ ((redN (rootG N D k) ((2 : Int) ^ Int.toNat k) = (0 : Int) ∧ (n + (2 : Nat) * Int.toNat k + (1 : Nat) ≤ (0 : Nat) ∨ Int.natAbs (redN (rootG N D k) ((2 : Int) ^ Int.toNat k)) < (2 : Nat) ^ (0 : Nat))) ∧ (redD (rootG N D k) ((2 : Int) ^ Int.toNat k) = (0 : Int) ∧ (Int.toNat k + (1 : Nat) ≤ (0 : Nat) ∨ Int.natAbs (redD (rootG N D k) ((2 : Int) ^ Int.toNat k)) < (2 : Nat) ^ (0 : Nat))) ∧ True) ∧ True) ∧ (0 : Int) = (1 : Int) ∧ True else bif decide (sqEq N D k) then (((redN (rootG N D k) ((2 : Int) ^ Int.toNat k) = redN (rootG N D k) ((2 : Int) ^ Int.toNat k) ∧ (n + (2 : Nat) * Int.toNat k + (1 : Nat) ≤ (70000 : Nat) ∨ Int.natAbs (redN (rootG N D k) ((2 : Int) ^ Int.toNat k)) < (2 : Nat) ^ (70000 : Nat))) ∧ (redD (rootG N D k) ((2 : Int) ^ Int.toNat k) = redD (rootG N D k) ((2 : Int) ^ Int.toNat k) ∧ (Int.toNat k + (1 : Nat) ≤ (201 : Nat) ∨ Int.natAbs (redD (rootG N D k) ((2 : Int) ^ Int.toNat k)) < (2 : Nat) ^ (201 : Nat))) ∧ True) ∧ ((redN (rootG N D k) ((2 : Int) ^ Int.toNat k) = redN (rootG N D k) ((2 : Int) ^ Int.toNat k) ∧ (n + (2 : Nat) * Int.toNat k + (1 : Nat) ≤ (70001 : Nat) ∨ Int.natAbs (redN (rootG N D k) ((2 : Int) ^ Int.toNat k)) < (2 : Nat) ^ (70001 : Nat))) ∧ (redD (rootG N D k) ((2 : Int) ^ Int.toNat k) = redD (rootG N D k) ((2 : Int) ^ Int.toNat k) ∧ (Int.toNat k + (1 : Nat) ≤ (201 : Nat) ∨ Int.natAbs (redD (rootG N D k) ((2 : Int) ^ Int.toNat k)) < (2 : Nat) ^ (201 : Nat))) ∧ True) ∧ True) ∧ (0 : Int) = (0 : Int) ∧ True else (((redN (rootG N D k) ((2 : Int) ^ Int.toNat k) = redN (rootG N D k) ((2 : Int) ^ Int.toNat k) ∧ (n + (2 : Nat) * Int.toNat k + (1 : Nat) ≤ (70000 : Nat) ∨ Int.natAbs (redN (rootG N D k) ((2 : Int) ^ Int.toNat k)) < (2 : Nat) ^ (70000 : Nat))) ∧ (redD (rootG N D k) ((2 : Int) ^ Int.toNat k) = redD (rootG N D k) ((2 : Int) ^ Int.toNat k) ∧ (Int.toNat k + (1 : Nat) ≤ (201 : Nat) ∨ Int.natAbs (redD (rootG N D k) ((2 : Int) ^ Int.toNat k)) < (2 : Nat) ^ (201 : Nat))) ∧ True) ∧ ((redN (rootG N D k) ((2 : Int) ^ Int.toNat k) = redN (rootG N D k + (1 : Int)) ((2 : Int) ^ Int.toNat k) ∧ (n + (2 : Nat) * Int.toNat k + (1 : Nat) ≤ (70001 : Nat) ∨ Int.natAbs (redN (rootG N D k) ((2 : Int) ^ Int.toNat k)) < (2 : Nat) ^ (70001 : Nat))) ∧ (redD (rootG N D k) ((2 : Int) ^ Int.toNat k) = redD (rootG N D k + (1 : Int)) ((2 : Int) ^ Int.toNat k) ∧ (Int.toNat k + (1 : Nat) ≤ (201 : Nat) ∨ Int.natAbs (redD (rootG N D k) ((2 : Int) ^ Int.toNat k)) < (2 : Nat) ^ (201 : Nat))) ∧ True) ∧ True) ∧ (0 : Int) = (0 : Int) ∧ True else bif decide (wrongK k) || decide (N < (0 : Int)) then (((redN (rootG N D k) ((2 : Int) ^ Int.toNat k) = (0 : Int) ∧ (n + (2 : Nat) * Int.toNat k + (1 : Nat) ≤ (0 : Nat) ∨ Int.natAbs (redN (rootG N D k) ((2 : Int) ^ Int.toNat k)) < (2 : Nat) ^ (0 : Nat))) ∧ (redD (rootG N D k) ((2 : Int) ^ Int.toNat k) = (0 : Int) ∧ (Int.toNat k + (1 : Nat) ≤ (0 : Nat) ∨ Int.natAbs (redD (rootG N D k) ((2 : Int) ^ Int.toNat k)) < (2 : Nat) ^ (0 : Nat))) ∧ True) ∧ ((redN (rootG N D k + (1 : Int)) ((2 : Int) ^ Int.toNat k) = (0 : Int) ∧ (max (n + (2 : Nat) * Int.toNat k + (1 : Nat)) (64 : Nat) + (1 : Nat) ≤ (0 : Nat) ∨ Int.natAbs (redN (rootG N D k + (1 : Int)) ((2 : Int) ^ Int.toNat k)) < (2 : Nat) ^ (0 : Nat))) ∧ (redD (rootG N D k + (1 : Int)) ((2 : Int) ^ Int.toNat k) = (0 : Int) ∧ (Int.toNat k + (1 : Nat) ≤ (0 : Nat) ∨ Int.natAbs (redD (rootG N D k + (1 : Int)) ((2 : Int) ^ Int.toNat k)) < (2 : Nat) ^ (0 : Nat))) ∧ True) ∧ True) ∧ (0 : Int) = (1 : Int) ∧ True else bif decide (sqEq N D k) then (((redN (rootG N D k) ((2 : Int) ^ Int.toNat k) = redN (rootG N D k) ((2 : Int) ^ Int.toNat k) ∧ (n + (2 : Nat) * Int.toNat k + (1 : Nat) ≤ (70000 : Nat) ∨ Int.natAbs (redN (rootG N D k) ((2 : Int) ^ Int.toNat k)) < (2 : Nat) ^ (70000 : Nat))) ∧ (redD (rootG N D k) ((2 : Int) ^ Int.toNat k) = redD (rootG N D k) ((2 : Int) ^ Int.toNat k) ∧ (Int.toNat k + (1 : Nat) ≤ (201 : Nat) ∨ Int.natAbs (redD (rootG N D k) ((2 : Int) ^ Int.toNat k)) < (2 : Nat) ^ (201 : Nat))) ∧ True) ∧ ((redN (rootG N D k + (1 : Int)) ((2 : Int) ^ Int.toNat k) = redN (rootG N D k) ((2 : Int) ^ Int.toNat k) ∧ (max (n + (2 : Nat) * Int.toNat k + (1 : Nat)) (64 : Nat) + (1 : Nat) ≤ (70001 : Nat) ∨ Int.natAbs (redN (rootG N D k + (1 : Int)) ((2 : Int) ^ Int.toNat k)) < (2 : Nat) ^ (70001 : Nat))) ∧ (redD (rootG N D k + (1 : Int)) ((2 : Int) ^ Int.toNat k) = redD (rootG N D k) ((2 : Int) ^ Int.toNat k) ∧ (Int.toNat k + (1 : Nat) ≤ (201 : Nat) ∨ Int.natAbs (redD (rootG N D k + (1 : Int)) ((2 : Int) ^ Int.toNat k)) < (2 : Nat) ^ (201 : Nat))) ∧ True) ∧ True) ∧ (0 : Int) = (0 : Int) ∧ True else (((redN (rootG N D k) ((2 : Int) ^ Int.toNat k) = redN (rootG N D k) ((2 : Int) ^ Int.toNat k) ∧ (n + (2 : Nat) * Int.toNat k + (1 : Nat) ≤ (70000 : Nat) ∨ Int.natAbs (redN (rootG N D k) ((2 : Int) ^ Int.toNat k)) < (2 : Nat) ^ (70000 : Nat))) ∧ (redD (rootG N D k) ((2 : Int) ^ Int.toNat k) = redD (rootG N D k) ((2 : Int) ^ Int.toNat k) ∧ (Int.toNat k + (1 : Nat) ≤ (201 : Nat) ∨ Int.natAbs (redD (rootG N D k) ((2 : Int) ^ Int.toNat k)) < (2 : Nat) ^ (201 : Nat))) ∧ True) ∧ ((redN (rootG N D k + (1 : Int)) ((2 : Int) ^ Int.toNat k) = redN (rootG N D k + (1 : Int)) ((2 : Int) ^ Int.toNat k) ∧ (max (n + (2 : Nat) * Int.toNat k + (1 : Nat)) (64 : Nat) + (1 : Nat) ≤ (70001 : Nat) ∨ Int.natAbs (redN (rootG N D k + (1 : Int)) ((2 : Int) ^ Int.toNat k)) < (2 : Nat) ^ (70001 : Nat))) ∧ (redD (rootG N D k + (1 : Int)) ((2 : Int) ^ Int.toNat k) = redD (rootG N D k + (1 : Int)) ((2 : Int) ^ Int.toNat k) ∧ (Int.toNat k + (1 : Nat) ≤ (201 : Nat) ∨ Int.natAbs (redD (rootG N D k + (1 : Int)) ((2 : Int) ^ Int.toNat k)) < (2 : Nat) ^ (201 : Nat))) ∧ True) ∧ True) ∧ (0 : Int) = (0 : Int) ∧ True) = evFn (env [c_wrong, c_qsign, c_root, c_cell, c_qmul, c_qcmp] noAnn) Tryz.f11 [.st [.big N n, .big D m], .int .i64 k] (MRes.sat (bsqrtR N D k)) := by kernel_rfl
theorem redD_pos {n d : Int} (h : 0 < d) : 0 < redD n d := red_pos h
theorem icmp_eq0 (a b : Int) : (icmp a b == 0) = decide (a = b) := by
  unfold icmp
  by_cases h : a = b
  · subst h; simp
  · rw [decide_eq_false h]
    split <;> (try split) <;> first | rfl | omega
theorem sgn_ltz {b : Int} : decide (sgn b < 0) = decide (b < 0) := by
  refine decide_eq_decide.2 ?_
  unfold sgn
  split <;> (try split) <;> omega
theorem p_bsqrt : Good Tryz.f11 s_bsqrt := by
  intro ms p r h hp
  unfold s_bsqrt at h
  split at h
  · rename_i N n D m k
    simp only [Option.some.injEq, Prod.mk.injEq] at h
    obtain ⟨rfl, rfl⟩ := h
    obtain ⟨h1, h2, h3⟩ : n ≤ 10000 ∧ m ≤ 10000 ∧ 0 < D := hp
    refine ⟨env [c_wrong, c_qsign, c_root, c_cell, c_qmul, c_qcmp] noAnn, ?_⟩
    rw [← vc_bsqrt N D k n m, sgn_ltz, icmp_eq0]
    have e0 : decide (k < 0 ∨ 200 < k) = decide (wrongK k) := rfl
    rw [e0]
    by_cases hw : wrongK k
    · rw [decide_eq_true hw]
      and_intros <;> first | exact True.intro | rfl | exact .inl (Nat.le_refl _)
    have hk : 0 ≤ k ∧ k ≤ 200 := by unfold wrongK at hw; omega
    rw [decide_eq_false hw, Bool.false_or]
    by_cases hN : N < 0
    · rw [decide_eq_true hN]
      and_intros <;> first | exact True.intro | rfl | exact .inl (Nat.le_refl _)
    rw [decide_eq_false hN]
    have hd := redD_pos (n := rootG N D k) (two_pos k.toNat)
    by_cases he : sqEq N D k
    · rw [decide_eq_true he, decide_eq_true (show redN (redN (rootG N D k) (2 ^ k.toNat) * redN (rootG N D k) (2 ^ k.toNat)) (redD (rootG N D k) (2 ^ k.toNat) * redD (rootG N D k) (2 ^ k.toNat)) * D = N * redD (redN (rootG N D k) (2 ^ k.toNat) * redN (rootG N D k) (2 ^ k.toNat)) (redD (rootG N D k) (2 ^ k.toNat) * redD (rootG N D k) (2 ^ k.toNat)) from he)]
      and_intros <;> first | exact True.intro | rfl | exact .inl (Nat.le_refl _) | omega | exact hd | exact .inl (by omega)
    · rw [decide_eq_false he, decide_eq_false (show ¬ redN (redN (rootG N D k) (2 ^ k.toNat) * redN (rootG N D k) (2 ^ k.toNat)) (redD (rootG N D k) (2 ^ k.toNat) * redD (rootG N D k) (2 ^ k.toNat)) * D = N * redD (redN (rootG N D k) (2 ^ k.toNat) * redN (rootG N D k) (2 ^ k.toNat)) (redD (rootG N D k) (2 ^ k.toNat) * redD (rootG N D k) (2 ^ k.toNat)) from he)]
      and_intros <;> first | exact True.intro | rfl | exact .inl (Nat.le_refl _) | omega | exact hd | exact .inl (by omega)
  · simp at h
def c_bsqrt : Ctr Tryz.prog := ⟨11, s_bsqrt, fun args w => Tryz.call11 args w, fn_ok mix Tryz.func11 s_bsqrt p_bsqrt⟩

/-! ### Log -/
def s_log1 : FSpec
  | [.int .i64 p, .ref (.st [.big N n, .big D m])] => s_nat [.st [.big N n, .big D m], .int .i64 p]
  | _ => none
theorem vc_log1 (N D p X Y : Int) (n m : Nat) : ((n ≤ (10000 : Nat) ∧ m ≤ (10000 : Nat) ∧ (0 : Int) < N ∧ (0 : Int) < D ∧ (0 : Int) ≤ p ∧ p ≤ (50000 : Int) ∧ Option.isSome (natG N D p) = true) ∧ (Prod.fst (Option.getD (natG N D p) ((0 : Int), (0 : Int))) = X ∧ (Int.toNat p + (300 : Nat) ≤ Int.toNat p + (300 : Nat) ∨ Int.natAbs (Prod.fst (Option.getD (natG N D p) ((0 : Int), (0 : Int)))) < (2 : Nat) ^ (Int.toNat p + (300 : Nat)))) ∧ (Prod.snd (Option.getD (natG N D p) ((0 : Int), (0 : Int))) = Y ∧ (Int.toNat p + (300 : Nat) ≤ Int.toNat p + (300 : Nat) ∨ Int.natAbs (Prod.snd (Option.getD (natG N D p) ((0 : Int), (0 : Int)))) < (2 : Nat) ^ (Int.toNat p + (300 : Nat)))) ∧ True) = evFn (env [c_nat] noAnn) Tryz.f55 [.int .i64 p, .ref (.st [.big N n, .big D m])] (MRes.sat (.ret (ratM X Y (p.toNat + 300) (p.toNat + 300)))) := by kernel_rfl
theorem p_log1 : Good Tryz.f55 s_log1 := by
  intro ms p r h hp
  unfold s_log1 at h
  split at h
  · rename_i p N n D m
    simp only [s_nat, Option.some.injEq, Prod.mk.injEq] at h
    obtain ⟨rfl, rfl⟩ := h
    refine ⟨env [c_nat] noAnn, ?_⟩
    rw [← vc_log1 N D p _ _ n m]
    exact ⟨hp, ⟨rfl, .inl (Nat.le_refl _)⟩, ⟨rfl, .inl (Nat.le_refl _)⟩, True.intro⟩
  · simp at h
def c_log1 : Ctr Tryz.prog := ⟨55, s_log1, fun args w => Tryz.call55 args w, fn_ok mix Tryz.func55 s_log1 p_log1⟩
structure DcX where
  f : Nat
  p : Int
structure DcI (g : Int → Option (Int × Int)) (k A : Int) (x : DcX) : Prop where
  run : decF g k x.f x.p = some A
  p0 : k + 24 ≤ x.p
  p1 : x.p * 2 ^ x.f ≤ 3584
def a_dec (g : Int → Option (Int × Int)) (cl : MV) (k A : Int) : Nat → MS → Option LoopAnn
  | 4, _ => some (.inv DcX (DcI g k A) (fun x => ⟨36, [(0, .int .i64 k), (1, cl), (4, .bp 0 0), (5, .bp 1 0), (6, .int .i64 x.p)], [⟨false, .one (ivM 0 0 0 0 0 0 0 0)⟩, ⟨false, .one (ivM 0 0 0 0 0 0 0 0)⟩], 0⟩) (fun x => x.f))
  | _, _ => none
abbrev cellM (A k : Int) : MV := ivM (redN A (2 ^ k.toNat)) (redD A (2 ^ k.toNat)) (redN (A + 1) (2 ^ k.toNat)) (redD (A + 1) (2 ^ k.toNat)) 5000 201 5001 201
def s_decL : FSpec
  | [.int .i64 k, .fn 55 [.ref (.st [.big N n, .big D m])]] => some (some (n ≤ 10000 ∧ m ≤ 10000 ∧ 0 < N ∧ 0 < D ∧ 0 ≤ k ∧ k ≤ 200 ∧ (logG N D k).isSome = true), .ret (cellM ((logG N D k).getD 0) k))
  | _ => none
theorem vc_decL (N D k A : Int) (n m : Nat) : ((∃ i, DcI (fun p => natG N D p) k A i ∧ (k = k ∧ (((N = N ∧ (n ≤ n ∨ Int.natAbs N < (2 : Nat) ^ n)) ∧ (D = D ∧ (m ≤ m ∨ Int.natAbs D < (2 : Nat) ^ m)) ∧ True) ∧ True) ∧ (0 : Nat) = (0 : Nat) ∧ (0 : Nat) = (0 : Nat) ∧ IntKind.wrap IntKind.i64 (k + (24 : Int)) = DcX.p i ∧ True) ∧ ((((0 : Int) = (0 : Int) ∧ ((0 : Nat) ≤ (0 : Nat) ∨ Int.natAbs (0 : Int) < (2 : Nat) ^ (0 : Nat))) ∧ ((0 : Int) = (0 : Int) ∧ ((0 : Nat) ≤ (0 : Nat) ∨ Int.natAbs (0 : Int) < (2 : Nat) ^ (0 : Nat))) ∧ True) ∧ (((0 : Int) = (0 : Int) ∧ ((0 : Nat) ≤ (0 : Nat) ∨ Int.natAbs (0 : Int) < (2 : Nat) ^ (0 : Nat))) ∧ ((0 : Int) = (0 : Int) ∧ ((0 : Nat) ≤ (0 : Nat) ∨ Int.natAbs (0 : Int) < (2 : Nat) ^ (0 : Nat))) ∧ True) ∧ True) ∧ ((((0 : Int) = (0 : Int) ∧ ((0 : Nat) ≤ (0 : Nat) ∨ Int.natAbs (0 : Int) < (2 : Nat) ^ (0 : Nat))) ∧ ((0 : Int) = (0 : Int) ∧ ((0 : Nat) ≤ (0 : Nat) ∨ Int.natAbs (0 : Int) < (2 : Nat) ^ (0 : Nat))) ∧ True) ∧ (((0 : Int) = (0 : Int) ∧ ((0 : Nat) ≤ (0 : Nat) ∨ Int.natAbs (0 : Int) < (2 : Nat) ^ (0 : Nat))) ∧ ((0 : Int) = (0 : Int) ∧ ((0 : Nat) ≤ (0 : Nat) ∨ Int.natAbs (0 : Int) < (2 : Nat) ^ (0 : Nat))) ∧ True) ∧ True) ∧ True) ∧ ∀ (i : DcX), DcI (fun p => natG N D p) k A i → (n ≤ (10000 : Nat) ∧ m ≤ (10000 : Nat) ∧ (0 : Int) < N ∧ (0 : Int) < D ∧ (0 : Int) ≤ DcX.p i ∧ DcX.p i ≤ (50000 : Int) ∧ Option.isSome (natG N D (DcX.p i)) = true) ∧ ((0 : Int) ≤ IntKind.wrap IntKind.i64 (DcX.p i - k) ∧ IntKind.wrap IntKind.i64 (DcX.p i - k) ≤ (200000 : Int)) ∧ (Int.toNat (DcX.p i) + (300 : Nat) ≤ (900000 : Nat) ∧ Int.toNat (IntKind.wrap IntKind.i64 (DcX.p i - k)) + (1 : Nat) ≤ (900000 : Nat) ∧ ((2 : Int) ^ Int.toNat (IntKind.wrap IntKind.i64 (DcX.p i - k)) = (0 : Int) → False)) ∧ (Int.toNat (DcX.p i) + (300 : Nat) ≤ (900000 : Nat) ∧ Int.toNat (IntKind.wrap IntKind.i64 (DcX.p i - k)) + (1 : Nat) ≤ (900000 : Nat) ∧ ((2 : Int) ^ Int.toNat (IntKind.wrap IntKind.i64 (DcX.p i - k)) = (0 : Int) → False)) ∧ (Int.toNat (DcX.p i) + (300 : Nat) ≤ (1000000 : Nat) ∧ Int.toNat (DcX.p i) + (300 : Nat) ≤ (1000000 : Nat)) ∧ bif icmp (Prod.fst (Option.getD (natG N D (DcX.p i)) ((0 : Int), (0 : Int))) / (2 : Int) ^ Int.toNat (IntKind.wrap IntKind.i64 (DcX.p i - k))) (Prod.snd (Option.getD (natG N D (DcX.p i)) ((0 : Int), (0 : Int))) / (2 : Int) ^ Int.toNat (IntKind.wrap IntKind.i64 (DcX.p i - k))) == (0 : Int) then (Int.toNat (DcX.p i) + (300 : Nat) ≤ (200000 : Nat) ∧ (0 : Int) ≤ k ∧ k ≤ (200000 : Int)) ∧ ((redN (Prod.fst (Option.getD (natG N D (DcX.p i)) ((0 : Int), (0 : Int))) / (2 : Int) ^ Int.toNat (IntKind.wrap IntKind.i64 (DcX.p i - k))) ((2 : Int) ^ Int.toNat k) = redN A ((2 : Int) ^ Int.toNat k) ∧ (Int.toNat (DcX.p i) + (300 : Nat) ≤ (5000 : Nat) ∨ Int.natAbs (redN (Prod.fst (Option.getD (natG N D (DcX.p i)) ((0 : Int), (0 : Int))) / (2 : Int) ^ Int.toNat (IntKind.wrap IntKind.i64 (DcX.p i - k))) ((2 : Int) ^ Int.toNat k)) < (2 : Nat) ^ (5000 : Nat))) ∧ (redD (Prod.fst (Option.getD (natG N D (DcX.p i)) ((0 : Int), (0 : Int))) / (2 : Int) ^ Int.toNat (IntKind.wrap IntKind.i64 (DcX.p i - k))) ((2 : Int) ^ Int.toNat k) = redD A ((2 : Int) ^ Int.toNat k) ∧ (Int.toNat k + (1 : Nat) ≤ (201 : Nat) ∨ Int.natAbs (redD (Prod.fst (Option.getD (natG N D (DcX.p i)) ((0 : Int), (0 : Int))) / (2 : Int) ^ Int.toNat (IntKind.wrap IntKind.i64 (DcX.p i - k))) ((2 : Int) ^ Int.toNat k)) < (2 : Nat) ^ (201 : Nat))) ∧ True) ∧ ((redN (Prod.fst (Option.getD (natG N D (DcX.p i)) ((0 : Int), (0 : Int))) / (2 : Int) ^ Int.toNat (IntKind.wrap IntKind.i64 (DcX.p i - k)) + (1 : Int)) ((2 : Int) ^ Int.toNat k) = redN (A + (1 : Int)) ((2 : Int) ^ Int.toNat k) ∧ (max (Int.toNat (DcX.p i) + (300 : Nat)) (64 : Nat) + (1 : Nat) ≤ (5001 : Nat) ∨ Int.natAbs (redN (Prod.fst (Option.getD (natG N D (DcX.p i)) ((0 : Int), (0 : Int))) / (2 : Int) ^ Int.toNat (IntKind.wrap IntKind.i64 (DcX.p i - k)) + (1 : Int)) ((2 : Int) ^ Int.toNat k)) < (2 : Nat) ^ (5001 : Nat))) ∧ (redD (Prod.fst (Option.getD (natG N D (DcX.p i)) ((0 : Int), (0 : Int))) / (2 : Int) ^ Int.toNat (IntKind.wrap IntKind.i64 (DcX.p i - k)) + (1 : Int)) ((2 : Int) ^ Int.toNat k) = redD (A + (1 : Int)) ((2 : Int) ^ Int.toNat k) ∧ (Int.toNat k + (1 : Nat) ≤ (201 : Nat) ∨ Int.natAbs (redD (Prod.fst (Option.getD (natG N D (DcX.p i)) ((0 : Int), (0 : Int))) / (2 : Int) ^ Int.toNat (IntKind.wrap IntKind.i64 (DcX.p i - k)) + (1 : Int)) ((2 : Int) ^ Int.toNat k)) < (2 : Nat) ^ (201 : Nat))) ∧ True) ∧ True else ∃ j, DcI (fun p => natG N D p) k A j ∧ ((k = k ∧ (((N = N ∧ (n ≤ n ∨ Int.natAbs N < (2 : Nat) ^ n)) ∧ (D = D ∧ (m ≤ m ∨ Int.natAbs D < (2 : Nat) ^ m)) ∧ True) ∧ True) ∧ (0 : Nat) = (0 : Nat) ∧ (0 : Nat) = (0 : Nat) ∧ IntKind.wrap IntKind.i64 (DcX.p i * (2 : Int)) = DcX.p j ∧ True) ∧ ((((0 : Int) = (0 : Int) ∧ ((0 : Nat) ≤ (0 : Nat) ∨ Int.natAbs (0 : Int) < (2 : Nat) ^ (0 : Nat))) ∧ ((0 : Int) = (0 : Int) ∧ ((0 : Nat) ≤ (0 : Nat) ∨ Int.natAbs (0 : Int) < (2 : Nat) ^ (0 : Nat))) ∧ True) ∧ (((0 : Int) = (0 : Int) ∧ ((0 : Nat) ≤ (0 : Nat) ∨ Int.natAbs (0 : Int) < (2 : Nat) ^ (0 : Nat))) ∧ ((0 : Int) = (0 : Int) ∧ ((0 : Nat) ≤ (0 : Nat) ∨ Int.natAbs (0 : Int) < (2 : Nat) ^ (0 : Nat))) ∧ True) ∧ True) ∧ ((((0 : Int) = (0 : Int) ∧ ((0 : Nat) ≤ (0 : Nat) ∨ Int.natAbs (0 : Int) < (2 : Nat) ^ (0 : Nat))) ∧ ((0 : Int) = (0 : Int) ∧ ((0 : Nat) ≤ (0 : Nat) ∨ Int.natAbs (0 : Int) < (2 : Nat) ^ (0 : Nat))) ∧ True) ∧ (((0 : Int) = (0 : Int) ∧ ((0 : Nat) ≤ (0 : Nat) ∨ Int.natAbs (0 : Int) < (2 : Nat) ^ (0 : Nat))) ∧ ((0 : Int) = (0 : Int) ∧ ((0 : Nat) ≤ (0 : Nat) ∨ Int.natAbs (0 : Int) < (2 : Nat) ^ (0 : Nat))) ∧ True) ∧ True) ∧ True) ∧ DcX.f j < DcX.f i) = evFn (env [c_log1, c_two, c_bfloor, c_icmp, c_cell] (a_dec (fun p => natG N D p) (.fn 55 [.ref (ratM N D n m)]) k A)) Tryz.f54 [.int .i64 k, .fn 55 [.ref (ratM N D n m)]] (MRes.sat (.ret (cellM A k))) := by kernel_rfl
theorem p_decL : Good Tryz.f54 s_decL := by
  intro ms p r h hp
  unfold s_decL at h
  split at h
  · rename_i k N n D m
    simp only [Option.some.injEq, Prod.mk.injEq] at h
    obtain ⟨rfl, rfl⟩ := h
    obtain ⟨h1, h2, h3, h4, h5, h6, h7⟩ : n ≤ 10000 ∧ m ≤ 10000 ∧ 0 < N ∧ 0 < D ∧ 0 ≤ k ∧ k ≤ 200 ∧ (logG N D k).isSome = true := hp
    obtain ⟨A, hR⟩ := Option.isSome_iff_exists.1 h7
    refine ⟨env [c_log1, c_two, c_bfloor, c_icmp, c_cell] (a_dec (fun p => natG N D p) (.fn 55 [.ref (ratM N D n m)]) k A), ?_⟩
    rw [hR, Option.getD_some, ← vc_decL N D k A n m]
    have e0 : IntKind.wrap IntKind.i64 (k + 24) = k + 24 := i64w (by omega) (by omega)
    refine ⟨⟨⟨4, k + 24⟩, ⟨hR, Int.le_refl _, by show (k + 24) * 2 ^ 4 ≤ 3584; omega⟩, ?_⟩, ?_⟩
    · and_intros <;> first | exact True.intro | rfl | exact .inl (Nat.le_refl _) | exact e0
    rintro ⟨f, p⟩ ⟨hr, p0, p1⟩
    dsimp only at hr p0 p1
    dsimp only
    rw [icmp_eq0]
    cases f with
    | zero => simp [decF] at hr
    | succ f =>
      have hp2 : p * 1 ≤ p * 2 ^ (f + 1) := Int.mul_le_mul_of_nonneg_left (by have := two_pos (f + 1); omega) (by omega)
      have w1 : IntKind.wrap IntKind.i64 (p - k) = p - k := i64w (by omega) (by omega)
      have w2 : IntKind.wrap IntKind.i64 (p * 2) = p * 2 := i64w (by omega) (by omega)
      have hz := two_pos (p - k).toNat
      rw [w1, w2]
      unfold decF at hr
      cases hg : natG N D p with
      | none => rw [hg] at hr; simp at hr
      | some s =>
        rw [hg] at hr
        dsimp only at hr
        rw [Option.getD_some]
        refine ⟨⟨h1, h2, h3, h4, by omega, by omega, rfl⟩, ⟨by omega, by omega⟩, ⟨by omega, by omega, fun h => by omega⟩, ⟨by omega, by omega, fun h => by omega⟩, ⟨by omega, by omega⟩, ?_⟩
        by_cases hc : s.1 / 2 ^ (p - k).toNat = s.2 / 2 ^ (p - k).toNat
        · rw [if_pos hc] at hr
          simp only [Option.some.injEq] at hr
          rw [decide_eq_true hc, cond_true, hr]
          exact ⟨⟨by omega, h5, by omega⟩, ⟨⟨rfl, .inl (by omega)⟩, ⟨rfl, .inl (by omega)⟩, True.intro⟩, ⟨⟨rfl, .inl (by omega)⟩, ⟨rfl, .inl (by omega)⟩, True.intro⟩, True.intro⟩
        · rw [if_neg hc] at hr
          rw [decide_eq_false hc, cond_false]
          refine ⟨⟨f, p * 2⟩, ⟨hr, by show k + 24 ≤ p * 2; omega, ?_⟩, ?_, by show f < f + 1; omega⟩
          · show p * 2 * 2 ^ f ≤ 3584
            rw [Int.mul_assoc, Int.mul_comm 2 (2 ^ f), ← Int.pow_succ]; exact p1
          · and_intros <;> first | exact True.intro | rfl | exact .inl (Nat.le_refl _)
  · simp at h
def c_decL : Ctr Tryz.prog := ⟨54, s_decL, fun args w => Tryz.call54 args w, fn_ok mix Tryz.func54 s_decL p_decL⟩
def logR (N D k : Int) : MRes :=
  .br (decide (wrongK k) || decide (N ≤ 0)) (.ret (.tup [ivM 0 0 0 0 0 0 0 0, .int .i64 1]))
    (.br (decide (N = D)) (.ret (.tup [ivM 0 1 0 1 5000 201 5001 201, .int .i64 0])) (.ret (.tup [cellM ((logG N D k).getD 0) k, .int .i64 0])))
structure LogOk (N D k : Int) : Prop where
  pos : 0 < D
  ok : 0 ≤ k → k ≤ 200 → 0 < N → N ≠ D → (logG N D k).isSome = true
def s_log : FSpec
  | [.st [.big N n, .big D m], .int .i64 k] => some (some (n ≤ 10000 ∧ m ≤ 10000 ∧ LogOk N D k), logR N D k)
  | _ => none
theorem vc_log (N D k : Int) (n m : Nat) : (bif decide (k < (0 : Int) ∨ (200 : Int) < k) then bif decide (wrongK k) || decide (N ≤ (0 : Int)) then ((((0 : Int) = (0 : Int) ∧ ((0 : Nat) ≤ (0 : Nat) ∨ Int.natAbs (0 : Int) < (2 : Nat) ^ (0 : Nat))) ∧ ((0 : Int) = (0 : Int) ∧ ((0 : Nat) ≤ (0 : Nat) ∨ Int.natAbs (0 : Int) < (2 : Nat) ^ (0 : Nat))) ∧ True) ∧ (((0 : Int) = (0 : Int) ∧ ((0 : Nat) ≤ (0 : Nat) ∨ Int.natAbs (0 : Int) < (2 : Nat) ^ (0 : Nat))) ∧ ((0 : Int) = (0 : Int) ∧ ((0 : Nat) ≤ (0 : Nat) ∨ Int.natAbs (0 : Int) < (2 : Nat) ^ (0 : Nat))) ∧ True) ∧ True) ∧ (1 : Int) = (1 : Int) ∧ True else bif decide (N = D) then ((((0 : Int) = (0 : Int) ∧ ((0 : Nat) ≤ (5000 : Nat) ∨ Int.natAbs (0 : Int) < (2 : Nat) ^ (5000 : Nat))) ∧ ((0 : Int) = (1 : Int) ∧ ((0 : Nat) ≤ (201 : Nat) ∨ Int.natAbs (0 : Int) < (2 : Nat) ^ (201 : Nat))) ∧ True) ∧ (((0 : Int) = (0 : Int) ∧ ((0 : Nat) ≤ (5001 : Nat) ∨ Int.natAbs (0 : Int) < (2 : Nat) ^ (5001 : Nat))) ∧ ((0 : Int) = (1 : Int) ∧ ((0 : Nat) ≤ (201 : Nat) ∨ Int.natAbs (0 : Int) < (2 : Nat) ^ (201 : Nat))) ∧ True) ∧ True) ∧ (1 : Int) = (0 : Int) ∧ True else ((((0 : Int) = redN (Option.getD (logG N D k) (0 : Int)) ((2 : Int) ^ Int.toNat k) ∧ ((0 : Nat) ≤ (5000 : Nat) ∨ Int.natAbs (0 : Int) < (2 : Nat) ^ (5000 : Nat))) ∧ ((0 : Int) = redD (Option.getD (logG N D k) (0 : Int)) ((2 : Int) ^ Int.toNat k) ∧ ((0 : Nat) ≤ (201 : Nat) ∨ Int.natAbs (0 : Int) < (2 : Nat) ^ (201 : Nat))) ∧ True) ∧ (((0 : Int) = redN (Option.getD (logG N D k) (0 : Int) + (1 : Int)) ((2 : Int) ^ Int.toNat k) ∧ ((0 : Nat) ≤ (5001 : Nat) ∨ Int.natAbs (0 : Int) < (2 : Nat) ^ (5001 : Nat))) ∧ ((0 : Int) = redD (Option.getD (logG N D k) (0 : Int) + (1 : Int)) ((2 : Int) ^ Int.toNat k) ∧ ((0 : Nat) ≤ (201 : Nat) ∨ Int.natAbs (0 : Int) < (2 : Nat) ^ (201 : Nat))) ∧ True) ∧ True) ∧ (1 : Int) = (0 : Int) ∧ True else bif decide (sgn N ≤ (0 : Int)) then bif decide (wrongK k) || decide (N ≤ (0 : Int)) then ((((0 : Int) = (0 : Int) ∧ ((0 : Nat) ≤ (0 : Nat) ∨ Int.natAbs (0 : Int) < (2 : Nat) ^ (0 : Nat))) ∧ ((0 : Int) = (0 : Int) ∧ ((0 : Nat) ≤ (0 : Nat) ∨ Int.natAbs (0 : Int) < (2 : Nat) ^ (0 : Nat))) ∧ True) ∧ (((0 : Int) = (0 : Int) ∧ ((0 : Nat) ≤ (0 : Nat) ∨ Int.natAbs (0 : Int) < (2 : Nat) ^ (0 : Nat))) ∧ ((0 : Int) = (0 : Int) ∧ ((0 : Nat) ≤ (0 : Nat) ∨ Int.natAbs (0 : Int) < (2 : Nat) ^ (0 : Nat))) ∧ True) ∧ True) ∧ (1 : Int) = (1 : Int) ∧ True else bif decide (N = D) then ((((0 : Int) = (0 : Int) ∧ ((0 : Nat) ≤ (5000 : Nat) ∨ Int.natAbs (0 : Int) < (2 : Nat) ^ (5000 : Nat))) ∧ ((0 : Int) = (1 : Int) ∧ ((0 : Nat) ≤ (201 : Nat) ∨ Int.natAbs (0 : Int) < (2 : Nat) ^ (201 : Nat))) ∧ True) ∧ (((0 : Int) = (0 : Int) ∧ ((0 : Nat) ≤ (5001 : Nat) ∨ Int.natAbs (0 : Int) < (2 : Nat) ^ (5001 : Nat))) ∧ ((0 : Int) = (1 : Int) ∧ ((0 : Nat) ≤ (201 : Nat) ∨ Int.natAbs (0 : Int) < (2 : Nat) ^ (201 : Nat))) ∧ True) ∧ True) ∧ (1 : Int) = (0 : Int) ∧ True else ((((0 : Int) = redN (Option.getD (logG N D k) (0 : Int)) ((2 : Int) ^ Int.toNat k) ∧ ((0 : Nat) ≤ (5000 : Nat) ∨ Int.natAbs (0 : Int) < (2 : Nat) ^ (5000 : Nat))) ∧ ((0 : Int) = redD (Option.getD (logG N D k) (0 : Int)) ((2 : Int) ^ Int.toNat k) ∧ ((0 : Nat) ≤ (201 : Nat) ∨ Int.natAbs (0 : Int) < (2 : Nat) ^ (201 : Nat))) ∧ True) ∧ (((0 : Int) = redN (Option.getD (logG N D k) (0 : Int) + (1 : Int)) ((2 : Int) ^ Int.toNat k) ∧ ((0 : Nat) ≤ (5001 : Nat) ∨ Int.natAbs (0 : Int) < (2 : Nat) ^ (5001 : Nat))) ∧ ((0 : Int) = redD (Option.getD (logG N D k) (0 : Int) + (1 : Int)) ((2 : Int) ^ Int.toNat k) ∧ ((0 : Nat) ≤ (201 : Nat) ∨ Int.natAbs (0 : Int) < (2 : Nat) ^ (201 : Nat))) ∧ True) ∧ True) ∧ (1 : Int) = (0 : Int) ∧ True else ((-9223372036854775808 : Int) ≤ (1 : Int) ∧ (1 : Int) ≤ (9223372036854775807 : Int)) ∧ ((64 : Nat) ≤ (300000 : Nat) ∧ (0 : Int) ≤ (0 : Int) ∧ (0 : Int) ≤ (200000 : Int)) ∧ (n ≤ (400000 : Nat) ∧ m ≤ (400000 : Nat) ∧ (64 : Nat) ≤ (400000 : Nat) ∧ Int.toNat (0 : Int) + (1 : Nat) ≤ (400000 : Nat)) ∧ bif icmp (N * redD (1 : Int) ((2 : Int) ^ Int.toNat (0 : Int))) (redN (1 : Int) ((2 : Int) ^ Int.toNat (0 : Int)) * D) == (0 : Int) then (n ≤ (400000 : Nat) ∧ m ≤ (400000 : Nat) ∧ (64 : Nat) ≤ (400000 : Nat) ∧ Int.toNat (0 : Int) + (1 : Nat) ≤ (400000 : Nat) ∧ (0 : Int) < D ∧ (0 : Int) < redD (1 : Int) ((2 : Int) ^ Int.toNat (0 : Int))) ∧ bif decide (wrongK k) || decide (N ≤ (0 : Int)) then (((redN (N * redD (1 : Int) ((2 : Int) ^ Int.toNat (0 : Int)) + -redN (1 : Int) ((2 : Int) ^ Int.toNat (0 : Int)) * D) (D * redD (1 : Int) ((2 : Int) ^ Int.toNat (0 : Int))) = (0 : Int) ∧ (max (n + (Int.toNat (0 : Int) + (1 : Nat))) ((64 : Nat) + m) + (1 : Nat) ≤ (0 : Nat) ∨ Int.natAbs (redN (N * redD (1 : Int) ((2 : Int) ^ Int.toNat (0 : Int)) + -redN (1 : Int) ((2 : Int) ^ Int.toNat (0 : Int)) * D) (D * redD (1 : Int) ((2 : Int) ^ Int.toNat (0 : Int)))) < (2 : Nat) ^ (0 : Nat))) ∧ (redD (N * redD (1 : Int) ((2 : Int) ^ Int.toNat (0 : Int)) + -redN (1 : Int) ((2 : Int) ^ Int.toNat (0 : Int)) * D) (D * redD (1 : Int) ((2 : Int) ^ Int.toNat (0 : Int))) = (0 : Int) ∧ (m + (Int.toNat (0 : Int) + (1 : Nat)) ≤ (0 : Nat) ∨ Int.natAbs (redD (N * redD (1 : Int) ((2 : Int) ^ Int.toNat (0 : Int)) + -redN (1 : Int) ((2 : Int) ^ Int.toNat (0 : Int)) * D) (D * redD (1 : Int) ((2 : Int) ^ Int.toNat (0 : Int)))) < (2 : Nat) ^ (0 : Nat))) ∧ True) ∧ ((redN (N * redD (1 : Int) ((2 : Int) ^ Int.toNat (0 : Int)) + -redN (1 : Int) ((2 : Int) ^ Int.toNat (0 : Int)) * D) (D * redD (1 : Int) ((2 : Int) ^ Int.toNat (0 : Int))) = (0 : Int) ∧ (max (n + (Int.toNat (0 : Int) + (1 : Nat))) ((64 : Nat) + m) + (1 : Nat) ≤ (0 : Nat) ∨ Int.natAbs (redN (N * redD (1 : Int) ((2 : Int) ^ Int.toNat (0 : Int)) + -redN (1 : Int) ((2 : Int) ^ Int.toNat (0 : Int)) * D) (D * redD (1 : Int) ((2 : Int) ^ Int.toNat (0 : Int)))) < (2 : Nat) ^ (0 : Nat))) ∧ (redD (N * redD (1 : Int) ((2 : Int) ^ Int.toNat (0 : Int)) + -redN (1 : Int) ((2 : Int) ^ Int.toNat (0 : Int)) * D) (D * redD (1 : Int) ((2 : Int) ^ Int.toNat (0 : Int))) = (0 : Int) ∧ (m + (Int.toNat (0 : Int) + (1 : Nat)) ≤ (0 : Nat) ∨ Int.natAbs (redD (N * redD (1 : Int) ((2 : Int) ^ Int.toNat (0 : Int)) + -redN (1 : Int) ((2 : Int) ^ Int.toNat (0 : Int)) * D) (D * redD (1 : Int) ((2 : Int) ^ Int.toNat (0 : Int)))) < (2 : Nat) ^ (0 : Nat))) ∧ True) ∧ True) ∧ (0 : Int) = (1 : Int) ∧ True else bif decide (N = D) then (((redN (N * redD (1 : Int) ((2 : Int) ^ Int.toNat (0 : Int)) + -redN (1 : Int) ((2 : Int) ^ Int.toNat (0 : Int)) * D) (D * redD (1 : Int) ((2 : Int) ^ Int.toNat (0 : Int))) = (0 : Int) ∧ (max (n + (Int.toNat (0 : Int) + (1 : Nat))) ((64 : Nat) + m) + (1 : Nat) ≤ (5000 : Nat) ∨ Int.natAbs (redN (N * redD (1 : Int) ((2 : Int) ^ Int.toNat (0 : Int)) + -redN (1 : Int) ((2 : Int) ^ Int.toNat (0 : Int)) * D) (D * redD (1 : Int) ((2 : Int) ^ Int.toNat (0 : Int)))) < (2 : Nat) ^ (5000 : Nat))) ∧ (redD (N * redD (1 : Int) ((2 : Int) ^ Int.toNat (0 : Int)) + -redN (1 : Int) ((2 : Int) ^ Int.toNat (0 : Int)) * D) (D * redD (1 : Int) ((2 : Int) ^ Int.toNat (0 : Int))) = (1 : Int) ∧ (m + (Int.toNat (0 : Int) + (1 : Nat)) ≤ (201 : Nat) ∨ Int.natAbs (redD (N * redD (1 : Int) ((2 : Int) ^ Int.toNat (0 : Int)) + -redN (1 : Int) ((2 : Int) ^ Int.toNat (0 : Int)) * D) (D * redD (1 : Int) ((2 : Int) ^ Int.toNat (0 : Int)))) < (2 : Nat) ^ (201 : Nat))) ∧ True) ∧ ((redN (N * redD (1 : Int) ((2 : Int) ^ Int.toNat (0 : Int)) + -redN (1 : Int) ((2 : Int) ^ Int.toNat (0 : Int)) * D) (D * redD (1 : Int) ((2 : Int) ^ Int.toNat (0 : Int))) = (0 : Int) ∧ (max (n + (Int.toNat (0 : Int) + (1 : Nat))) ((64 : Nat) + m) + (1 : Nat) ≤ (5001 : Nat) ∨ Int.natAbs (redN (N * redD (1 : Int) ((2 : Int) ^ Int.toNat (0 : Int)) + -redN (1 : Int) ((2 : Int) ^ Int.toNat (0 : Int)) * D) (D * redD (1 : Int) ((2 : Int) ^ Int.toNat (0 : Int)))) < (2 : Nat) ^ (5001 : Nat))) ∧ (redD (N * redD (1 : Int) ((2 : Int) ^ Int.toNat (0 : Int)) + -redN (1 : Int) ((2 : Int) ^ Int.toNat (0 : Int)) * D) (D * redD (1 : Int) ((2 : Int) ^ Int.toNat (0 : Int))) = (1 : Int) ∧ (m + (Int.toNat (0 : Int) + (1 : Nat)) ≤ (201 : Nat) ∨ Int.natAbs (redD (N * redD (1 : Int) ((2 : Int) ^ Int.toNat (0 : Int)) + -redN (1 : Int) ((2 : Int) ^ Int.toNat (0 : Int)) * D) (D * redD (1 : Int) ((2 : Int) ^ Int.toNat (0 : Int)))) < (2 : Nat) ^ (201 : Nat))) ∧ True) ∧ True) ∧ (0 : Int) = (0 : Int) ∧ True else (((redN (N * redD (1 : Int) ((2 : Int) ^ Int.toNat (0 : Int)) + -redN (1 : Int) ((2 : Int) ^ Int.toNat (0 : Int)) * D) (D * redD (1 : Int) ((2 : Int) ^ Int.toNat (0 : Int))) = redN (Option.getD (logG N D k) (0 : Int)) ((2 : Int) ^ Int.toNat k) ∧ (max (n + (Int.toNat (0 : Int) + (1 : Nat))) ((64 : Nat) + m) + (1 : Nat) ≤ (5000 : Nat) ∨ Int.natAbs (redN (N * redD (1 : Int) ((2 : Int) ^ Int.toNat (0 : Int)) + -redN (1 : Int) ((2 : Int) ^ Int.toNat (0 : Int)) * D) (D * redD (1 : Int) ((2 : Int) ^ Int.toNat (0 : Int)))) < (2 : Nat) ^ (5000 : Nat))) ∧ (redD (N * redD (1 : Int) ((2 : Int) ^ Int.toNat (0 : Int)) + -redN (1 : Int) ((2 : Int) ^ Int.toNat (0 : Int)) * D) (D * redD (1 : Int) ((2 : Int) ^ Int.toNat (0 : Int))) = redD (Option.getD (logG N D k) (0 : Int)) ((2 : Int) ^ Int.toNat k) ∧ (m + (Int.toNat (0 : Int) + (1 : Nat)) ≤ (201 : Nat) ∨ Int.natAbs (redD (N * redD (1 : Int) ((2 : Int) ^ Int.toNat (0 : Int)) + -redN (1 : Int) ((2 : Int) ^ Int.toNat (0 : Int)) * D) (D * redD (1 : Int) ((2 : Int) ^ Int.toNat (0 : Int)))) < (2 : Nat) ^ (201 : Nat))) ∧ True) ∧ ((redN (N * redD (1 : Int) ((2 : Int) ^ Int.toNat (0 : Int)) + -redN (1 : Int) ((2 : Int) ^ Int.toNat (0 : Int)) * D) (D * redD (1 : Int) ((2 : Int) ^ Int.toNat (0 : Int))) = redN (Option.getD (logG N D k) (0 : Int) + (1 : Int)) ((2 : Int) ^ Int.toNat k) ∧ (max (n + (Int.toNat (0 : Int) + (1 : Nat))) ((64 : Nat) + m) + (1 : Nat) ≤ (5001 : Nat) ∨ Int.natAbs (redN (N * redD (1 : Int) ((2 : Int) ^ Int.toNat (0 : Int)) + -redN (1 : Int) ((2 : Int) ^ Int.toNat (0 : Int)) * D) (D * redD (1 : Int) ((2 : Int) ^ Int.toNat (0 : Int)))) < (2 : Nat) ^ (5001 : Nat))) ∧ (redD (N * redD (1 : Int) ((2 : Int) ^ Int.toNat (0 : Int)) + -redN (1 : Int) ((2 : Int) ^ Int.toNat (0 : Int)) * D) (D * redD (1 : Int) ((2 : Int) ^ Int.toNat (0 : Int))) = redD (Option.getD (logG N D k) (0 : Int) + (1 : Int)) ((2 : Int) ^ Int.toNat k) ∧ (m + (Int.toNat (0 : Int) + (1 : Nat)) ≤ (201 : Nat) ∨ Int.natAbs (redD (N * redD (1 : Int) ((2 : Int) ^ Int.toNat (0 : Int)) + -redN (1 : Int) ((2 : Int) ^ Int.toNat (0 : Int)) * D) (D * redD (1 : Int) ((2 : Int) ^ Int.toNat (0 : Int)))) < (2 : Nat) ^ (201 : Nat))) ∧ True) ∧ True) ∧ (0 : Int) = (0 : Int) ∧ True else (n ≤ (10000 : Nat) ∧ m ≤ (10000 : Nat) ∧ (0 : Int) < N ∧ (0 : Int) < D ∧ (0 : Int) ≤ k ∧ k ≤ (200 : Int) ∧ Option.isSome (logG N D k) = true) ∧ bif decide (wrongK k) || decide (N ≤ (0 : Int)) then (((redN (Option.getD (logG N D k) (0 : Int)) ((2 : Int) ^ Int.toNat k) = (0 : Int) ∧ ((5000 : Nat) ≤ (0 : Nat) ∨ Int.natAbs (redN (Option.getD (logG N D k) (0 : Int)) ((2 : Int) ^ Int.toNat k)) < (2 : Nat) ^ (0 : Nat))) ∧ (redD (Option.getD (logG N D k) (0 : Int)) ((2 : Int) ^ Int.toNat k) = (0 : Int) ∧ ((201 : Nat) ≤ (0 : Nat) ∨ Int.natAbs (redD (Option.getD (logG N D k) (0 : Int)) ((2 : Int) ^ Int.toNat k)) < (2 : Nat) ^ (0 : Nat))) ∧ True) ∧ ((redN (Option.getD (logG N D k) (0 : Int) + (1 : Int)) ((2 : Int) ^ Int.toNat k) = (0 : Int) ∧ ((5001 : Nat) ≤ (0 : Nat) ∨ Int.natAbs (redN (Option.getD (logG N D k) (0 : Int) + (1 : Int)) ((2 : Int) ^ Int.toNat k)) < (2 : Nat) ^ (0 : Nat))) ∧ (redD (Option.getD (logG N D k) (0 : Int) + (1 : Int)) ((2 : Int) ^ Int.toNat k) = (0 : Int) ∧ ((201 : Nat) ≤ (0 : Nat) ∨ Int.natAbs (redD (Option.getD (logG N D k) (0 : Int) + (1 : Int)) ((2 : Int) ^ Int.toNat k)) < (2 : Nat) ^ (0 : Nat))) ∧ True) ∧ True) ∧ (0 : Int) = (1 : Int) ∧ True else bif decide (N = D) then (((redN (Option.getD (logG N D k) (0 : Int)) ((2 : Int) ^ Int.toNat k) = (0 : Int) ∧ ((5000 : Nat) ≤ (5000 : Nat) ∨ Int.natAbs (redN (Option.getD (logG N D k) (0 : Int)) ((2 : Int) ^ Int.toNat k)) < (2 : Nat) ^ (5000 : Nat))) ∧ (redD (Option.getD (logG N D k) (0 : Int)) ((2 : Int) ^ Int.toNat k) = (1 : Int) ∧ ((201 : Nat) ≤ (201 : Nat) ∨ Int.natAbs (redD (Option.getD (logG N D k) (0 : Int)) ((2 : Int) ^ Int.toNat k)) < (2 : Nat) ^ (201 : Nat))) ∧ True) ∧ ((redN (Option.getD (logG N D k) (0 : Int) + (1 : Int)) ((2 : Int) ^ Int.toNat k) = (0 : Int) ∧ ((5001 : Nat) ≤ (5001 : Nat) ∨ Int.natAbs (redN (Option.getD (logG N D k) (0 : Int) + (1 : Int)) ((2 : Int) ^ Int.toNat k)) < (2 : Nat) ^ (5001 : Nat))) ∧ (redD (Option.getD (logG N D k) (0 : Int) + (1 : Int)) ((2 : Int) ^ Int.toNat k) = (1 : Int) ∧ ((201 : Nat) ≤ (201 : Nat) ∨ Int.natAbs (redD (Option.getD (logG N D k) (0 : Int) + (1 : Int)) ((2 : Int) ^ Int.toNat k)) < (2 : Nat) ^ (201 : Nat))) ∧ True) ∧ True) ∧ (0 : Int) = (0 : Int) ∧ True else (((redN (Option.getD (logG N D k) (0 : Int)) ((2 : Int) ^ Int.toNat k) = redN (Option.getD (logG N D k) (0 : Int)) ((2 : Int) ^ Int.toNat k) ∧ ((5000 : Nat) ≤ (5000 : Nat) ∨ Int.natAbs (redN (Option.getD (logG N D k) (0 : Int)) ((2 : Int) ^ Int.toNat k)) < (2 : Nat) ^ (5000 : Nat))) ∧ (redD (Option.getD (logG N D k) (0 : Int)) ((2 : Int) ^ Int.toNat k) = redD (Option.getD (logG N D k) (0 : Int)) ((2 : Int) ^ Int.toNat k) ∧ ((201 : Nat) ≤ (201 : Nat) ∨ Int.natAbs (redD (Option.getD (logG N D k) (0 : Int)) ((2 : Int) ^ Int.toNat k)) < (2 : Nat) ^ (201 : Nat))) ∧ True) ∧ ((redN (Option.getD (logG N D k) (0 : Int) + (1 : Int)) ((2 : Int) ^ Int.toNat k) = redN (Option.getD (logG N D k) (0 : Int) + (1 : Int)) ((2 : Int) ^ Int.toNat k) ∧ ((5001 : Nat) ≤ (5001 : Nat) ∨ Int.natAbs (redN (Option.getD (logG N D k) (0 : Int) + (1 : Int)) ((2 : Int) ^ Int.toNat k)) < (2 : Nat) ^ (5001 : Nat))) ∧ (redD (Option.getD (logG N D k) (0 : Int) + (1 : Int)) ((2 : Int) ^ Int.toNat k) = redD (Option.getD (logG N D k) (0 : Int) + (1 : Int)) ((2 : Int) ^ Int.toNat k) ∧ ((201 : Nat) ≤ (201 : Nat) ∨ Int.natAbs (redD (Option.getD (logG N D k) (0 : Int) + (1 : Int)) ((2 : Int) ^ Int.toNat k)) < (2 : Nat) ^ (201 : Nat))) ∧ True) ∧ True) ∧ (0 : Int) = (0 : Int) ∧ True) = evFn (env [c_wrong, c_qsign, c_iof, c_grid, c_qcmp, c_qsub, c_qex, c_decL] noAnn) Tryz.f13 [.st [.big N n, .big D m], .int .i64 k] (MRes.sat (logR N D k)) := by kernel_rfl
theorem sgn_lez {b : Int} : decide (sgn b ≤ 0) = decide (b ≤ 0) := by
  refine decide_eq_decide.2 ?_
  unfold sgn
  split <;> (try split) <;> omega
theorem red_zero {d : Int} (h : 0 < d) : redN 0 d = 0 ∧ redD 0 d = 1 := by
  have e : (Int.gcd 0 d : Int) = d := by rw [Int.gcd_zero_left]; omega
  unfold redN redD
  rw [e]
  exact ⟨Int.zero_ediv _, Int.ediv_self (by omega)⟩
theorem p_log : Good Tryz.f13 s_log := by
  intro ms p r h hp
  unfold s_log at h
  split at h
  · rename_i N n D m k
    simp only [Option.some.injEq, Prod.mk.injEq] at h
    obtain ⟨rfl, rfl⟩ := h
    obtain ⟨h1, h2, h3, h4⟩ : n ≤ 10000 ∧ m ≤ 10000 ∧ LogOk N D k := hp
    refine ⟨env [c_wrong, c_qsign, c_iof, c_grid, c_qcmp, c_qsub, c_qex, c_decL] noAnn, ?_⟩
    have e0 : decide (k < 0 ∨ 200 < k) = decide (wrongK k) := rfl
    have e1 : redD 1 (2 ^ Int.toNat 0) = 1 := by decide
    have e2 : redN 1 (2 ^ Int.toNat 0) = 1 := by decide
    rw [← vc_log N D k n m, sgn_lez, icmp_eq0, e0, e1, e2, Int.mul_one, Int.one_mul, Int.mul_one]
    by_cases hw : wrongK k
    · rw [decide_eq_true hw]
      and_intros <;> first | exact True.intro | rfl | exact .inl (Nat.le_refl _)
    have hk : 0 ≤ k ∧ k ≤ 200 := by unfold wrongK at hw; omega
    rw [decide_eq_false hw, Bool.false_or]
    by_cases hN : N ≤ 0
    · rw [decide_eq_true hN]
      and_intros <;> first | exact True.intro | rfl | exact .inl (Nat.le_refl _)
    rw [decide_eq_false hN]
    by_cases hD : N = D
    · subst hD
      rw [decide_eq_true (show N = N from rfl), show N + -1 * N = 0 by omega]
      obtain ⟨r1, r2⟩ := red_zero h3
      rw [r1, r2]
      and_intros <;> first | exact True.intro | rfl | exact .inl (Nat.le_refl _) | omega | exact .inr (by decide) | exact .inr (Nat.two_pow_pos _) | exact .inr (show 1 < 2 ^ 201 by decide)
    · rw [decide_eq_false hD]
      have hs := h4 hk.1 hk.2 (by omega) hD
      and_intros <;> first | exact True.intro | rfl | exact .inl (Nat.le_refl _) | omega | exact hs
  · simp at h
def c_log : Ctr Tryz.prog := ⟨13, s_log, fun args w => Tryz.call13 args w, fn_ok mix Tryz.func13 s_log p_log⟩

/-- Whatever way x ends, r allows it. -/
def MRes.imp : MRes → MRes → Prop
  | .br b x y, r => cond b (x.imp r) (y.imp r)
  | .ret m, r => r.sat (.ret m)
  | .pan _, _ => False
theorem sat_holds {c : Ctx} {w : World} {m : MV} {v : Value} : ∀ (r : MRes), r.sat (.ret m) → Rep c w m v → r.holds c w (.returned v)
  | .ret m', h, hr => le_rep (nb := 0) ⟨fun _ h => h, fun _ h => h, fun i hi => by omega⟩ h hr
  | .pan _, h, _ => h.elim
  | .br b x y, h, hr => by
    simp only [MRes.sat, Br] at h
    simp only [MRes.holds]
    cases b with
    | true => exact sat_holds x h hr
    | false => exact sat_holds y h hr
theorem imp_holds {c : Ctx} {w : World} {e : Ending} : ∀ (x r : MRes), x.imp r → x.holds c w e → r.holds c w e
  | .ret m, r, h, hh => by
    cases e with
    | returned v => exact sat_holds r h hh
    | panicked _ => exact hh.elim
    | outgrown => exact hh.elim
  | .pan _, _, h, _ => h.elim
  | .br b x y, r, h, hh => by
    simp only [MRes.imp] at h
    simp only [MRes.holds] at hh
    cases b with
    | true => exact imp_holds x r h hh
    | false => exact imp_holds y r h hh


/-- The ends of an interval and an error. -/
structure Iv where
  a : Int
  b : Int
  c : Int
  d : Int
  e : Int
abbrev ivR (v : Iv) (n m k l : Nat) : MRes := .ret (.tup [ivM v.a v.b v.c v.d n m k l, .int .i64 v.e])
def cellV (A k : Int) : Iv := ⟨redN A (2 ^ k.toNat), redD A (2 ^ k.toNat), redN (A + 1) (2 ^ k.toNat), redD (A + 1) (2 ^ k.toNat), 0⟩
def errV (e : Int) : Iv := ⟨0, 0, 0, 0, e⟩
def logV (N D k : Int) : Iv := if wrongK k ∨ N ≤ 0 then errV 1 else if N = D then ⟨0, 1, 0, 1, 0⟩ else cellV ((logG N D k).getD 0) k
def sqrtV (N D k : Int) : Iv := if wrongK k ∨ N < 0 then errV 1 else if sqEq N D k then ⟨redN (rootG N D k) (2 ^ k.toNat), redD (rootG N D k) (2 ^ k.toNat), redN (rootG N D k) (2 ^ k.toNat), redD (rootG N D k) (2 ^ k.toNat), 0⟩ else cellV (rootG N D k) k
def s_logU : FSpec
  | [.st [.big N n, .big D m], .int .i64 k] => some (some (n ≤ 10000 ∧ m ≤ 10000 ∧ LogOk N D k), ivR (logV N D k) 5000 201 5001 201)
  | _ => none
def s_sqrtU : FSpec
  | [.st [.big N n, .big D m], .int .i64 k] => some (some (n ≤ 10000 ∧ m ≤ 10000 ∧ 0 < D), ivR (sqrtV N D k) 70000 201 70001 201)
  | _ => none
theorem or_dec {p q : Prop} [Decidable p] [Decidable q] : (decide p || decide q) = decide (p ∨ q) := by
  by_cases h : p <;> by_cases k : q <;> simp [h, k]
theorem w_logU : ∀ ms p r, s_logU ms = some (p, r) → p.holds → ∃ p' r', s_log ms = some (p', r') ∧ p'.holds ∧ ∀ ct w e, r'.holds ct w e → r.holds ct w e := by
  intro ms p r h hp
  unfold s_logU at h
  split at h
  · rename_i N n D m k
    simp only [Option.some.injEq, Prod.mk.injEq] at h
    obtain ⟨rfl, rfl⟩ := h
    refine ⟨_, _, rfl, hp, fun ct w e => imp_holds _ _ ?_⟩
    unfold logR logV
    rw [or_dec]
    by_cases h1 : wrongK k ∨ N ≤ 0
    · rw [decide_eq_true h1, if_pos h1]
      and_intros <;> first | exact True.intro | rfl | exact .inl (Nat.zero_le _)
    · rw [decide_eq_false h1, if_neg h1]
      by_cases h2 : N = D
      · rw [decide_eq_true h2, if_pos h2]
        and_intros <;> first | exact True.intro | rfl | exact .inl (Nat.le_refl _)
      · rw [decide_eq_false h2, if_neg h2]
        and_intros <;> first | exact True.intro | rfl | exact .inl (Nat.le_refl _)
  · simp at h
def c_logU : Ctr Tryz.prog := c_log.weaken s_logU w_logU
theorem w_sqrtU : ∀ ms p r, s_sqrtU ms = some (p, r) → p.holds → ∃ p' r', s_bsqrt ms = some (p', r') ∧ p'.holds ∧ ∀ ct w e, r'.holds ct w e → r.holds ct w e := by
  intro ms p r h hp
  unfold s_sqrtU at h
  split at h
  · rename_i N n D m k
    simp only [Option.some.injEq, Prod.mk.injEq] at h
    obtain ⟨rfl, rfl⟩ := h
    refine ⟨_, _, rfl, hp, fun ct w e => imp_holds _ _ ?_⟩
    unfold bsqrtR sqrtV
    rw [or_dec]
    by_cases h1 : wrongK k ∨ N < 0
    · rw [decide_eq_true h1, if_pos h1]
      and_intros <;> first | exact True.intro | rfl | exact .inl (Nat.zero_le _)
    · rw [decide_eq_false h1, if_neg h1]
      by_cases h2 : sqEq N D k
      · rw [decide_eq_true h2, if_pos h2]
        and_intros <;> first | exact True.intro | rfl | exact .inl (Nat.le_refl _)
      · rw [decide_eq_false h2, if_neg h2]
        and_intros <;> first | exact True.intro | rfl | exact .inl (Nat.le_refl _)
  · simp at h
def c_sqrtU : Ctr Tryz.prog := c_bsqrt.weaken s_sqrtU w_sqrtU

end Go.Proofs.YtkokpkhdkbeofaaGreat

/-
  Contracts of functions: package bound: Quad.
-/
namespace Go.Proofs.YtkokpkhdkbeofaaGreat
open Go Go.RowKit

/-- |x| + a 2^-p. -/
def sumN (X x A : Int) (P : Nat) : Int := redN ((X.natAbs : Int) * redD A (2 ^ P) + redN A (2 ^ P) * x) (x * redD A (2 ^ P))
def sumD (X x A : Int) (P : Nat) : Int := redD ((X.natAbs : Int) * redD A (2 ^ P) + redN A (2 ^ P) * x) (x * redD A (2 ^ P))
def addG (I1 I2 X x p : Int) : Option (Int × Int) :=
  match natG (sumN X x (rootG I1 I2 p + 1) p.toNat) (sumD X x (rootG I1 I2 p + 1) p.toNat) p with
  | none => none
  | some g => if sumN X x (rootG I1 I2 p) p.toNat = 0 then some (g.1 - 2 ^ (2 * p).toNat, g.2) else
    match natG (sumN X x (rootG I1 I2 p) p.toNat) (sumD X x (rootG I1 I2 p) p.toNat) p with
    | none => none
    | some l => some (l.1, g.2)
def subG (M1 M2 I1 I2 X x p : Int) : Option (Int × Int) :=
  match natG M1 M2 p, addG I1 I2 X x p with
  | some a, some b => some (a.1 + -b.2, a.2 + -b.1)
  | _, _ => none
theorem redN_sign {n d : Int} (hd : 0 < d) : (0 ≤ n → 0 ≤ redN n d) ∧ (0 < n → 0 < redN n d) := by
  have h1 := (red_mul (n := n) (d := d)).1
  have hg : (0 : Int) < Int.gcd n d := by have := gcd_pos (n := n) hd; omega
  have e : (red n d).1 = redN n d := rfl
  rw [e] at h1
  generalize (Int.gcd n d : Int) = g at *
  generalize redN n d = r at *
  refine ⟨fun h => ?_, fun h => ?_⟩
  · rcases Int.lt_or_le r 0 with q | q
    · have := Int.mul_neg_of_pos_of_neg hg q; omega
    · exact q
  · rcases Int.lt_or_le 0 r with q | q
    · exact q
    · have := Int.mul_nonpos_of_nonneg_of_nonpos (Int.le_of_lt hg) q; omega
theorem sum_sign {X x A : Int} {P : Nat} (hx : 0 < x) (hA : 0 ≤ A) : 0 < sumD X x A P ∧ 0 ≤ sumN X x A P ∧ (0 < A → 0 < sumN X x A P) ∧ 0 < redD A (2 ^ P) := by
  have hd := redD_pos (n := A) (two_pos P)
  have hD := Int.mul_pos hx hd
  obtain ⟨k1, k2⟩ := redN_sign (n := A) (two_pos P)
  have h1 : 0 ≤ (X.natAbs : Int) * redD A (2 ^ P) := Int.mul_nonneg (by omega) (by omega)
  have h2 : 0 ≤ redN A (2 ^ P) * x := Int.mul_nonneg (k1 hA) (by omega)
  refine ⟨redD_pos hD, (redN_sign hD).1 (by omega), fun h => (redN_sign hD).2 ?_, hd⟩
  have := Int.mul_pos (k2 h) hx
  omega
theorem root_nonneg (N D k : Int) : 0 ≤ rootG N D k := by unfold rootG; omega

def s_add1 : FSpec
  | [.int .i64 p, .ref (.st [.big I n, .big J m]), .ref (.st [.big X k, .big x l])] => some (some (n ≤ 1000 ∧ m ≤ 1000 ∧ k ≤ 1000 ∧ l ≤ 1000 ∧ 0 ≤ I ∧ 0 < J ∧ 0 < x ∧ 0 ≤ p ∧ p ≤ 3600 ∧ (addG I J X x p).isSome = true), .ret (ratM ((addG I J X x p).getD (0, 0)).1 ((addG I J X x p).getD (0, 0)).2 (2 * p.toNat + 400) (2 * p.toNat + 400)))
  | _ => none
theorem vc_add1 (I J X x p S T : Int) (n m k l : Nat) : ((n ≤ (10000 : Nat) ∧ m ≤ (10000 : Nat) ∧ (0 : Int) ≤ I ∧ (0 : Int) < J ∧ (0 : Int) ≤ p ∧ p ≤ (25000 : Int)) ∧ (k ≤ (900000 : Nat) ∧ l ≤ (900000 : Nat)) ∧ ((-9223372036854775808 : Int) ≤ (1 : Int) ∧ (1 : Int) ≤ (9223372036854775807 : Int)) ∧ (n + (2 : Nat) * Int.toNat p + (1 : Nat) ≤ (1000000 : Nat) ∧ (64 : Nat) ≤ (1000000 : Nat)) ∧ (max (n + (2 : Nat) * Int.toNat p + (1 : Nat)) (64 : Nat) + (1 : Nat) ≤ (300000 : Nat) ∧ (0 : Int) ≤ p ∧ p ≤ (200000 : Int)) ∧ (k ≤ (400000 : Nat) ∧ l ≤ (400000 : Nat) ∧ max (n + (2 : Nat) * Int.toNat p + (1 : Nat)) (64 : Nat) + (1 : Nat) ≤ (400000 : Nat) ∧ Int.toNat p + (1 : Nat) ≤ (400000 : Nat) ∧ (0 : Int) < x ∧ (0 : Int) < redD (rootG I J p + (1 : Int)) ((2 : Int) ^ Int.toNat p)) ∧ (max (k + (Int.toNat p + (1 : Nat))) (max (n + (2 : Nat) * Int.toNat p + (1 : Nat)) (64 : Nat) + (1 : Nat) + l) + (1 : Nat) ≤ (10000 : Nat) ∧ l + (Int.toNat p + (1 : Nat)) ≤ (10000 : Nat) ∧ (0 : Int) < redN ((↑(Int.natAbs X) : Int) * redD (rootG I J p + (1 : Int)) ((2 : Int) ^ Int.toNat p) + redN (rootG I J p + (1 : Int)) ((2 : Int) ^ Int.toNat p) * x) (x * redD (rootG I J p + (1 : Int)) ((2 : Int) ^ Int.toNat p)) ∧ (0 : Int) < redD ((↑(Int.natAbs X) : Int) * redD (rootG I J p + (1 : Int)) ((2 : Int) ^ Int.toNat p) + redN (rootG I J p + (1 : Int)) ((2 : Int) ^ Int.toNat p) * x) (x * redD (rootG I J p + (1 : Int)) ((2 : Int) ^ Int.toNat p)) ∧ (0 : Int) ≤ p ∧ p ≤ (50000 : Int) ∧ Option.isSome (natG (redN ((↑(Int.natAbs X) : Int) * redD (rootG I J p + (1 : Int)) ((2 : Int) ^ Int.toNat p) + redN (rootG I J p + (1 : Int)) ((2 : Int) ^ Int.toNat p) * x) (x * redD (rootG I J p + (1 : Int)) ((2 : Int) ^ Int.toNat p))) (redD ((↑(Int.natAbs X) : Int) * redD (rootG I J p + (1 : Int)) ((2 : Int) ^ Int.toNat p) + redN (rootG I J p + (1 : Int)) ((2 : Int) ^ Int.toNat p) * x) (x * redD (rootG I J p + (1 : Int)) ((2 : Int) ^ Int.toNat p))) p) = true) ∧ (k ≤ (900000 : Nat) ∧ l ≤ (900000 : Nat)) ∧ (n + (2 : Nat) * Int.toNat p + (1 : Nat) ≤ (300000 : Nat) ∧ (0 : Int) ≤ p ∧ p ≤ (200000 : Int)) ∧ (k ≤ (400000 : Nat) ∧ l ≤ (400000 : Nat) ∧ n + (2 : Nat) * Int.toNat p + (1 : Nat) ≤ (400000 : Nat) ∧ Int.toNat p + (1 : Nat) ≤ (400000 : Nat) ∧ (0 : Int) < x ∧ (0 : Int) < redD (rootG I J p) ((2 : Int) ^ Int.toNat p)) ∧ bif sgn (redN ((↑(Int.natAbs X) : Int) * redD (rootG I J p) ((2 : Int) ^ Int.toNat p) + redN (rootG I J p) ((2 : Int) ^ Int.toNat p) * x) (x * redD (rootG I J p) ((2 : Int) ^ Int.toNat p))) == (0 : Int) then ((0 : Int) ≤ IntKind.wrap IntKind.i64 ((2 : Int) * p) ∧ IntKind.wrap IntKind.i64 ((2 : Int) * p) ≤ (200000 : Int)) ∧ (Int.toNat p + (300 : Nat) ≤ (1000000 : Nat) ∧ Int.toNat (IntKind.wrap IntKind.i64 ((2 : Int) * p)) + (1 : Nat) ≤ (1000000 : Nat)) ∧ (Prod.fst (Option.getD (natG (redN ((↑(Int.natAbs X) : Int) * redD (rootG I J p + (1 : Int)) ((2 : Int) ^ Int.toNat p) + redN (rootG I J p + (1 : Int)) ((2 : Int) ^ Int.toNat p) * x) (x * redD (rootG I J p + (1 : Int)) ((2 : Int) ^ Int.toNat p))) (redD ((↑(Int.natAbs X) : Int) * redD (rootG I J p + (1 : Int)) ((2 : Int) ^ Int.toNat p) + redN (rootG I J p + (1 : Int)) ((2 : Int) ^ Int.toNat p) * x) (x * redD (rootG I J p + (1 : Int)) ((2 : Int) ^ Int.toNat p))) p) ((0 : Int), (0 : Int))) - (2 : Int) ^ Int.toNat (IntKind.wrap IntKind.i64 ((2 : Int) * p)) = S ∧ (max (Int.toNat p + (300 : Nat)) (Int.toNat (IntKind.wrap IntKind.i64 ((2 : Int) * p)) + (1 : Nat)) + (1 : Nat) ≤ (2 : Nat) * Int.toNat p + (400 : Nat) ∨ Int.natAbs (Prod.fst (Option.getD (natG (redN ((↑(Int.natAbs X) : Int) * redD (rootG I J p + (1 : Int)) ((2 : Int) ^ Int.toNat p) + redN (rootG I J p + (1 : Int)) ((2 : Int) ^ Int.toNat p) * x) (x * redD (rootG I J p + (1 : Int)) ((2 : Int) ^ Int.toNat p))) (redD ((↑(Int.natAbs X) : Int) * redD (rootG I J p + (1 : Int)) ((2 : Int) ^ Int.toNat p) + redN (rootG I J p + (1 : Int)) ((2 : Int) ^ Int.toNat p) * x) (x * redD (rootG I J p + (1 : Int)) ((2 : Int) ^ Int.toNat p))) p) ((0 : Int), (0 : Int))) - (2 : Int) ^ Int.toNat (IntKind.wrap IntKind.i64 ((2 : Int) * p))) < (2 : Nat) ^ ((2 : Nat) * Int.toNat p + (400 : Nat)))) ∧ (Prod.snd (Option.getD (natG (redN ((↑(Int.natAbs X) : Int) * redD (rootG I J p + (1 : Int)) ((2 : Int) ^ Int.toNat p) + redN (rootG I J p + (1 : Int)) ((2 : Int) ^ Int.toNat p) * x) (x * redD (rootG I J p + (1 : Int)) ((2 : Int) ^ Int.toNat p))) (redD ((↑(Int.natAbs X) : Int) * redD (rootG I J p + (1 : Int)) ((2 : Int) ^ Int.toNat p) + redN (rootG I J p + (1 : Int)) ((2 : Int) ^ Int.toNat p) * x) (x * redD (rootG I J p + (1 : Int)) ((2 : Int) ^ Int.toNat p))) p) ((0 : Int), (0 : Int))) = T ∧ (Int.toNat p + (300 : Nat) ≤ (2 : Nat) * Int.toNat p + (400 : Nat) ∨ Int.natAbs (Prod.snd (Option.getD (natG (redN ((↑(Int.natAbs X) : Int) * redD (rootG I J p + (1 : Int)) ((2 : Int) ^ Int.toNat p) + redN (rootG I J p + (1 : Int)) ((2 : Int) ^ Int.toNat p) * x) (x * redD (rootG I J p + (1 : Int)) ((2 : Int) ^ Int.toNat p))) (redD ((↑(Int.natAbs X) : Int) * redD (rootG I J p + (1 : Int)) ((2 : Int) ^ Int.toNat p) + redN (rootG I J p + (1 : Int)) ((2 : Int) ^ Int.toNat p) * x) (x * redD (rootG I J p + (1 : Int)) ((2 : Int) ^ Int.toNat p))) p) ((0 : Int), (0 : Int)))) < (2 : Nat) ^ ((2 : Nat) * Int.toNat p + (400 : Nat)))) ∧ True else (max (k + (Int.toNat p + (1 : Nat))) (n + (2 : Nat) * Int.toNat p + (1 : Nat) + l) + (1 : Nat) ≤ (10000 : Nat) ∧ l + (Int.toNat p + (1 : Nat)) ≤ (10000 : Nat) ∧ (0 : Int) < redN ((↑(Int.natAbs X) : Int) * redD (rootG I J p) ((2 : Int) ^ Int.toNat p) + redN (rootG I J p) ((2 : Int) ^ Int.toNat p) * x) (x * redD (rootG I J p) ((2 : Int) ^ Int.toNat p)) ∧ (0 : Int) < redD ((↑(Int.natAbs X) : Int) * redD (rootG I J p) ((2 : Int) ^ Int.toNat p) + redN (rootG I J p) ((2 : Int) ^ Int.toNat p) * x) (x * redD (rootG I J p) ((2 : Int) ^ Int.toNat p)) ∧ (0 : Int) ≤ p ∧ p ≤ (50000 : Int) ∧ Option.isSome (natG (redN ((↑(Int.natAbs X) : Int) * redD (rootG I J p) ((2 : Int) ^ Int.toNat p) + redN (rootG I J p) ((2 : Int) ^ Int.toNat p) * x) (x * redD (rootG I J p) ((2 : Int) ^ Int.toNat p))) (redD ((↑(Int.natAbs X) : Int) * redD (rootG I J p) ((2 : Int) ^ Int.toNat p) + redN (rootG I J p) ((2 : Int) ^ Int.toNat p) * x) (x * redD (rootG I J p) ((2 : Int) ^ Int.toNat p))) p) = true) ∧ (Prod.fst (Option.getD (natG (redN ((↑(Int.natAbs X) : Int) * redD (rootG I J p) ((2 : Int) ^ Int.toNat p) + redN (rootG I J p) ((2 : Int) ^ Int.toNat p) * x) (x * redD (rootG I J p) ((2 : Int) ^ Int.toNat p))) (redD ((↑(Int.natAbs X) : Int) * redD (rootG I J p) ((2 : Int) ^ Int.toNat p) + redN (rootG I J p) ((2 : Int) ^ Int.toNat p) * x) (x * redD (rootG I J p) ((2 : Int) ^ Int.toNat p))) p) ((0 : Int), (0 : Int))) = S ∧ (Int.toNat p + (300 : Nat) ≤ (2 : Nat) * Int.toNat p + (400 : Nat) ∨ Int.natAbs (Prod.fst (Option.getD (natG (redN ((↑(Int.natAbs X) : Int) * redD (rootG I J p) ((2 : Int) ^ Int.toNat p) + redN (rootG I J p) ((2 : Int) ^ Int.toNat p) * x) (x * redD (rootG I J p) ((2 : Int) ^ Int.toNat p))) (redD ((↑(Int.natAbs X) : Int) * redD (rootG I J p) ((2 : Int) ^ Int.toNat p) + redN (rootG I J p) ((2 : Int) ^ Int.toNat p) * x) (x * redD (rootG I J p) ((2 : Int) ^ Int.toNat p))) p) ((0 : Int), (0 : Int)))) < (2 : Nat) ^ ((2 : Nat) * Int.toNat p + (400 : Nat)))) ∧ (Prod.snd (Option.getD (natG (redN ((↑(Int.natAbs X) : Int) * redD (rootG I J p + (1 : Int)) ((2 : Int) ^ Int.toNat p) + redN (rootG I J p + (1 : Int)) ((2 : Int) ^ Int.toNat p) * x) (x * redD (rootG I J p + (1 : Int)) ((2 : Int) ^ Int.toNat p))) (redD ((↑(Int.natAbs X) : Int) * redD (rootG I J p + (1 : Int)) ((2 : Int) ^ Int.toNat p) + redN (rootG I J p + (1 : Int)) ((2 : Int) ^ Int.toNat p) * x) (x * redD (rootG I J p + (1 : Int)) ((2 : Int) ^ Int.toNat p))) p) ((0 : Int), (0 : Int))) = T ∧ (Int.toNat p + (300 : Nat) ≤ (2 : Nat) * Int.toNat p + (400 : Nat) ∨ Int.natAbs (Prod.snd (Option.getD (natG (redN ((↑(Int.natAbs X) : Int) * redD (rootG I J p + (1 : Int)) ((2 : Int) ^ Int.toNat p) + redN (rootG I J p + (1 : Int)) ((2 : Int) ^ Int.toNat p) * x) (x * redD (rootG I J p + (1 : Int)) ((2 : Int) ^ Int.toNat p))) (redD ((↑(Int.natAbs X) : Int) * redD (rootG I J p + (1 : Int)) ((2 : Int) ^ Int.toNat p) + redN (rootG I J p + (1 : Int)) ((2 : Int) ^ Int.toNat p) * x) (x * redD (rootG I J p + (1 : Int)) ((2 : Int) ^ Int.toNat p))) p) ((0 : Int), (0 : Int)))) < (2 : Nat) ^ ((2 : Nat) * Int.toNat p + (400 : Nat)))) ∧ True) = evFn (env [c_root, c_babs, c_iof, c_iadd, c_grid, c_qadd, c_nat, c_qsign, c_two, c_isub] noAnn) Tryz.f62 [.int .i64 p, .ref (.st [.big I n, .big J m]), .ref (.st [.big X k, .big x l])] (MRes.sat (.ret (ratM S T (2 * p.toNat + 400) (2 * p.toNat + 400)))) := by kernel_rfl
theorem p_add1 : Good Tryz.f62 s_add1 := by
  intro ms p r h hp
  unfold s_add1 at h
  split at h
  · rename_i p I n J m X k x l
    simp only [Option.some.injEq, Prod.mk.injEq] at h
    obtain ⟨rfl, rfl⟩ := h
    obtain ⟨h1, h2, h3, h4, h5, h6, h7, h8, h9, h10⟩ : n ≤ 1000 ∧ m ≤ 1000 ∧ k ≤ 1000 ∧ l ≤ 1000 ∧ 0 ≤ I ∧ 0 < J ∧ 0 < x ∧ 0 ≤ p ∧ p ≤ 3600 ∧ (addG I J X x p).isSome = true := hp
    obtain ⟨⟨S, T⟩, hR⟩ := Option.isSome_iff_exists.1 h10
    rw [hR]
    refine ⟨env [c_root, c_babs, c_iof, c_iadd, c_grid, c_qadd, c_nat, c_qsign, c_two, c_isub] noAnn, ?_⟩
    rw [Option.getD_some, ← vc_add1 I J X x p S T n m k l, ← sumN, ← sumD, ← sumN, ← sumD]
    have w : IntKind.wrap IntKind.i64 (2 * p) = 2 * p := i64w (by omega) (by omega)
    have hr := root_nonneg I J p
    obtain ⟨a1, a2, a3, a4⟩ := sum_sign (X := X) (P := p.toNat) h7 (show 0 ≤ rootG I J p + 1 by omega)
    obtain ⟨b1, b2, b3, b4⟩ := sum_sign (X := X) (P := p.toNat) h7 hr
    have a5 := a3 (by omega)
    have hs : (sgn (sumN X x (rootG I J p) p.toNat) == 0) = decide (sumN X x (rootG I J p) p.toNat = 0) := by
      unfold sgn
      by_cases h : sumN X x (rootG I J p) p.toNat = 0
      · rw [if_pos h, decide_eq_true h]; rfl
      · rw [if_neg h, decide_eq_false h]; split <;> rfl
    rw [w, hs]
    unfold addG at hR
    cases hg : natG (sumN X x (rootG I J p + 1) p.toNat) (sumD X x (rootG I J p + 1) p.toNat) p with
    | none => rw [hg] at hR; simp at hR
    | some g =>
      rw [hg] at hR
      dsimp only at hR
      rw [Option.getD_some]
      have P1 : p.toNat ≤ 3600 := by omega
      refine ⟨⟨by omega, by omega, h5, h6, h8, by omega⟩, ⟨by omega, by omega⟩, by omega, ⟨by omega, by omega⟩, ⟨by omega, by omega, by omega⟩, ⟨by omega, by omega, by omega, by omega, h7, a4⟩, ⟨by omega, by omega, a5, a1, h8, by omega, rfl⟩, ⟨by omega, by omega⟩, ⟨by omega, by omega, by omega⟩, ⟨by omega, by omega, by omega, by omega, h7, b4⟩, ?_⟩
      by_cases h0 : sumN X x (rootG I J p) p.toNat = 0
      · rw [if_pos h0] at hR
        simp only [Option.some.injEq, Prod.mk.injEq] at hR
        rw [decide_eq_true h0, cond_true]
        exact ⟨⟨by omega, by omega⟩, ⟨by omega, by omega⟩, ⟨hR.1, .inl (by omega)⟩, ⟨hR.2, .inl (by omega)⟩, True.intro⟩
      · rw [if_neg h0] at hR
        rw [decide_eq_false h0, cond_false]
        cases hl : natG (sumN X x (rootG I J p) p.toNat) (sumD X x (rootG I J p) p.toNat) p with
        | none => rw [hl] at hR; simp at hR
        | some l' =>
          rw [hl] at hR
          simp only [Option.some.injEq, Prod.mk.injEq] at hR
          rw [Option.getD_some]
          exact ⟨⟨by omega, by omega, by omega, b1, h8, by omega, rfl⟩, ⟨hR.1, .inl (by omega)⟩, ⟨hR.2, .inl (by omega)⟩, True.intro⟩
  · simp at h
def c_add1 : Ctr Tryz.prog := ⟨62, s_add1, fun args w => Tryz.call62 args w, fn_ok mix Tryz.func62 s_add1 p_add1⟩

def s_sub1 : FSpec
  | [.int .i64 p, .ref (.st [.big M n', .big O m']), .ref (.fn 62 [.ref (.st [.big I n, .big J m]), .ref (.st [.big X k, .big x l])])] => some (some (n' ≤ 10000 ∧ m' ≤ 10000 ∧ 0 < M ∧ 0 < O ∧ n ≤ 1000 ∧ m ≤ 1000 ∧ k ≤ 1000 ∧ l ≤ 1000 ∧ 0 ≤ I ∧ 0 < J ∧ 0 < x ∧ 0 ≤ p ∧ p ≤ 3600 ∧ (subG M O I J X x p).isSome = true), .ret (ratM ((subG M O I J X x p).getD (0, 0)).1 ((subG M O I J X x p).getD (0, 0)).2 (2 * p.toNat + 500) (2 * p.toNat + 500)))
  | _ => none
theorem vc_sub1 (M O I J X x p S T : Int) (n' m' n m k l : Nat) : ((n' ≤ (10000 : Nat) ∧ m' ≤ (10000 : Nat) ∧ (0 : Int) < M ∧ (0 : Int) < O ∧ (0 : Int) ≤ p ∧ p ≤ (50000 : Int) ∧ Option.isSome (natG M O p) = true) ∧ (n ≤ (1000 : Nat) ∧ m ≤ (1000 : Nat) ∧ k ≤ (1000 : Nat) ∧ l ≤ (1000 : Nat) ∧ (0 : Int) ≤ I ∧ (0 : Int) < J ∧ (0 : Int) < x ∧ (0 : Int) ≤ p ∧ p ≤ (3600 : Int) ∧ Option.isSome (addG I J X x p) = true) ∧ ((2 : Nat) * Int.toNat p + (400 : Nat) ≤ (900000 : Nat) ∧ (2 : Nat) * Int.toNat p + (400 : Nat) ≤ (900000 : Nat)) ∧ (Int.toNat p + (300 : Nat) ≤ (900000 : Nat) ∧ Int.toNat p + (300 : Nat) ≤ (900000 : Nat) ∧ (2 : Nat) * Int.toNat p + (400 : Nat) ≤ (900000 : Nat) ∧ (2 : Nat) * Int.toNat p + (400 : Nat) ≤ (900000 : Nat)) ∧ (Prod.fst (Option.getD (natG M O p) ((0 : Int), (0 : Int))) + -Prod.snd (Option.getD (addG I J X x p) ((0 : Int), (0 : Int))) = S ∧ (max (Int.toNat p + (300 : Nat)) ((2 : Nat) * Int.toNat p + (400 : Nat)) + (1 : Nat) ≤ (2 : Nat) * Int.toNat p + (500 : Nat) ∨ Int.natAbs (Prod.fst (Option.getD (natG M O p) ((0 : Int), (0 : Int))) + -Prod.snd (Option.getD (addG I J X x p) ((0 : Int), (0 : Int)))) < (2 : Nat) ^ ((2 : Nat) * Int.toNat p + (500 : Nat)))) ∧ (Prod.snd (Option.getD (natG M O p) ((0 : Int), (0 : Int))) + -Prod.fst (Option.getD (addG I J X x p) ((0 : Int), (0 : Int))) = T ∧ (max (Int.toNat p + (300 : Nat)) ((2 : Nat) * Int.toNat p + (400 : Nat)) + (1 : Nat) ≤ (2 : Nat) * Int.toNat p + (500 : Nat) ∨ Int.natAbs (Prod.snd (Option.getD (natG M O p) ((0 : Int), (0 : Int))) + -Prod.fst (Option.getD (addG I J X x p) ((0 : Int), (0 : Int)))) < (2 : Nat) ^ ((2 : Nat) * Int.toNat p + (500 : Nat)))) ∧ True) = evFn (env [c_nat, c_add1, c_sneg, c_sadd] noAnn) Tryz.f67 [.int .i64 p, .ref (.st [.big M n', .big O m']), .ref (.fn 62 [.ref (.st [.big I n, .big J m]), .ref (.st [.big X k, .big x l])])] (MRes.sat (.ret (ratM S T (2 * p.toNat + 500) (2 * p.toNat + 500)))) := by kernel_rfl
theorem p_sub1 : Good Tryz.f67 s_sub1 := by
  intro ms p r h hp
  unfold s_sub1 at h
  split at h
  · rename_i p M n' O m' I n J m X k x l
    simp only [Option.some.injEq, Prod.mk.injEq] at h
    obtain ⟨rfl, rfl⟩ := h
    obtain ⟨g1, g2, g3, g4, h1, h2, h3, h4, h5, h6, h7, h8, h9, h10⟩ : n' ≤ 10000 ∧ m' ≤ 10000 ∧ 0 < M ∧ 0 < O ∧ n ≤ 1000 ∧ m ≤ 1000 ∧ k ≤ 1000 ∧ l ≤ 1000 ∧ 0 ≤ I ∧ 0 < J ∧ 0 < x ∧ 0 ≤ p ∧ p ≤ 3600 ∧ (subG M O I J X x p).isSome = true := hp
    obtain ⟨⟨S, T⟩, hR⟩ := Option.isSome_iff_exists.1 h10
    rw [hR]
    refine ⟨env [c_nat, c_add1, c_sneg, c_sadd] noAnn, ?_⟩
    rw [Option.getD_some, ← vc_sub1 M O I J X x p S T n' m' n m k l]
    unfold subG at hR
    cases ha : natG M O p with
    | none => rw [ha] at hR; simp at hR
    | some a =>
      cases hb : addG I J X x p with
      | none => rw [ha, hb] at hR; simp at hR
      | some b =>
        rw [ha, hb] at hR
        simp only [Option.some.injEq, Prod.mk.injEq] at hR
        rw [Option.getD_some, Option.getD_some]
        exact ⟨⟨g1, g2, g3, g4, h8, by omega, rfl⟩, ⟨h1, h2, h3, h4, h5, h6, h7, h8, h9, rfl⟩, ⟨by omega, by omega⟩, ⟨by omega, by omega, by omega, by omega⟩, ⟨hR.1, .inl (by omega)⟩, ⟨hR.2, .inl (by omega)⟩, True.intro⟩
  · simp at h
def c_sub1 : Ctr Tryz.prog := ⟨67, s_sub1, fun args w => Tryz.call67 args w, fn_ok mix Tryz.func67 s_sub1 p_sub1⟩

abbrev cellQ (A k : Int) : MV := ivM (redN A (2 ^ k.toNat)) (redD A (2 ^ k.toNat)) (redN (A + 1) (2 ^ k.toNat)) (redD (A + 1) (2 ^ k.toNat)) 10000 201 10001 201
def s_decA : FSpec
  | [.int .i64 k, .fn 62 [.ref (.st [.big I n, .big J m]), .ref (.st [.big X c, .big x l])]] => some (some (n ≤ 1000 ∧ m ≤ 1000 ∧ c ≤ 1000 ∧ l ≤ 1000 ∧ 0 ≤ I ∧ 0 < J ∧ 0 < x ∧ 0 ≤ k ∧ k ≤ 200 ∧ (decF (fun p => addG I J X x p) k 4 (k + 24)).isSome = true), .ret (cellQ ((decF (fun p => addG I J X x p) k 4 (k + 24)).getD 0) k))
  | _ => none
theorem vc_decA (I J X x k A : Int) (n m c l : Nat) : ((∃ i, DcI (fun p => addG I J X x p) k A i ∧ (k = k ∧ (((I = I ∧ (n ≤ n ∨ Int.natAbs I < (2 : Nat) ^ n)) ∧ (J = J ∧ (m ≤ m ∨ Int.natAbs J < (2 : Nat) ^ m)) ∧ True) ∧ ((X = X ∧ (c ≤ c ∨ Int.natAbs X < (2 : Nat) ^ c)) ∧ (x = x ∧ (l ≤ l ∨ Int.natAbs x < (2 : Nat) ^ l)) ∧ True) ∧ True) ∧ (0 : Nat) = (0 : Nat) ∧ (0 : Nat) = (0 : Nat) ∧ IntKind.wrap IntKind.i64 (k + (24 : Int)) = DcX.p i ∧ True) ∧ ((((0 : Int) = (0 : Int) ∧ ((0 : Nat) ≤ (0 : Nat) ∨ Int.natAbs (0 : Int) < (2 : Nat) ^ (0 : Nat))) ∧ ((0 : Int) = (0 : Int) ∧ ((0 : Nat) ≤ (0 : Nat) ∨ Int.natAbs (0 : Int) < (2 : Nat) ^ (0 : Nat))) ∧ True) ∧ (((0 : Int) = (0 : Int) ∧ ((0 : Nat) ≤ (0 : Nat) ∨ Int.natAbs (0 : Int) < (2 : Nat) ^ (0 : Nat))) ∧ ((0 : Int) = (0 : Int) ∧ ((0 : Nat) ≤ (0 : Nat) ∨ Int.natAbs (0 : Int) < (2 : Nat) ^ (0 : Nat))) ∧ True) ∧ True) ∧ ((((0 : Int) = (0 : Int) ∧ ((0 : Nat) ≤ (0 : Nat) ∨ Int.natAbs (0 : Int) < (2 : Nat) ^ (0 : Nat))) ∧ ((0 : Int) = (0 : Int) ∧ ((0 : Nat) ≤ (0 : Nat) ∨ Int.natAbs (0 : Int) < (2 : Nat) ^ (0 : Nat))) ∧ True) ∧ (((0 : Int) = (0 : Int) ∧ ((0 : Nat) ≤ (0 : Nat) ∨ Int.natAbs (0 : Int) < (2 : Nat) ^ (0 : Nat))) ∧ ((0 : Int) = (0 : Int) ∧ ((0 : Nat) ≤ (0 : Nat) ∨ Int.natAbs (0 : Int) < (2 : Nat) ^ (0 : Nat))) ∧ True) ∧ True) ∧ True) ∧ ∀ (i : DcX), DcI (fun p => addG I J X x p) k A i → (n ≤ (1000 : Nat) ∧ m ≤ (1000 : Nat) ∧ c ≤ (1000 : Nat) ∧ l ≤ (1000 : Nat) ∧ (0 : Int) ≤ I ∧ (0 : Int) < J ∧ (0 : Int) < x ∧ (0 : Int) ≤ DcX.p i ∧ DcX.p i ≤ (3600 : Int) ∧ Option.isSome (addG I J X x (DcX.p i)) = true) ∧ ((0 : Int) ≤ IntKind.wrap IntKind.i64 (DcX.p i - k) ∧ IntKind.wrap IntKind.i64 (DcX.p i - k) ≤ (200000 : Int)) ∧ ((2 : Nat) * Int.toNat (DcX.p i) + (400 : Nat) ≤ (900000 : Nat) ∧ Int.toNat (IntKind.wrap IntKind.i64 (DcX.p i - k)) + (1 : Nat) ≤ (900000 : Nat) ∧ ((2 : Int) ^ Int.toNat (IntKind.wrap IntKind.i64 (DcX.p i - k)) = (0 : Int) → False)) ∧ ((2 : Nat) * Int.toNat (DcX.p i) + (400 : Nat) ≤ (900000 : Nat) ∧ Int.toNat (IntKind.wrap IntKind.i64 (DcX.p i - k)) + (1 : Nat) ≤ (900000 : Nat) ∧ ((2 : Int) ^ Int.toNat (IntKind.wrap IntKind.i64 (DcX.p i - k)) = (0 : Int) → False)) ∧ ((2 : Nat) * Int.toNat (DcX.p i) + (400 : Nat) ≤ (1000000 : Nat) ∧ (2 : Nat) * Int.toNat (DcX.p i) + (400 : Nat) ≤ (1000000 : Nat)) ∧ bif icmp (Prod.fst (Option.getD (addG I J X x (DcX.p i)) ((0 : Int), (0 : Int))) / (2 : Int) ^ Int.toNat (IntKind.wrap IntKind.i64 (DcX.p i - k))) (Prod.snd (Option.getD (addG I J X x (DcX.p i)) ((0 : Int), (0 : Int))) / (2 : Int) ^ Int.toNat (IntKind.wrap IntKind.i64 (DcX.p i - k))) == (0 : Int) then ((2 : Nat) * Int.toNat (DcX.p i) + (400 : Nat) ≤ (200000 : Nat) ∧ (0 : Int) ≤ k ∧ k ≤ (200000 : Int)) ∧ ((redN (Prod.fst (Option.getD (addG I J X x (DcX.p i)) ((0 : Int), (0 : Int))) / (2 : Int) ^ Int.toNat (IntKind.wrap IntKind.i64 (DcX.p i - k))) ((2 : Int) ^ Int.toNat k) = redN A ((2 : Int) ^ Int.toNat k) ∧ ((2 : Nat) * Int.toNat (DcX.p i) + (400 : Nat) ≤ (10000 : Nat) ∨ Int.natAbs (redN (Prod.fst (Option.getD (addG I J X x (DcX.p i)) ((0 : Int), (0 : Int))) / (2 : Int) ^ Int.toNat (IntKind.wrap IntKind.i64 (DcX.p i - k))) ((2 : Int) ^ Int.toNat k)) < (2 : Nat) ^ (10000 : Nat))) ∧ (redD (Prod.fst (Option.getD (addG I J X x (DcX.p i)) ((0 : Int), (0 : Int))) / (2 : Int) ^ Int.toNat (IntKind.wrap IntKind.i64 (DcX.p i - k))) ((2 : Int) ^ Int.toNat k) = redD A ((2 : Int) ^ Int.toNat k) ∧ (Int.toNat k + (1 : Nat) ≤ (201 : Nat) ∨ Int.natAbs (redD (Prod.fst (Option.getD (addG I J X x (DcX.p i)) ((0 : Int), (0 : Int))) / (2 : Int) ^ Int.toNat (IntKind.wrap IntKind.i64 (DcX.p i - k))) ((2 : Int) ^ Int.toNat k)) < (2 : Nat) ^ (201 : Nat))) ∧ True) ∧ ((redN (Prod.fst (Option.getD (addG I J X x (DcX.p i)) ((0 : Int), (0 : Int))) / (2 : Int) ^ Int.toNat (IntKind.wrap IntKind.i64 (DcX.p i - k)) + (1 : Int)) ((2 : Int) ^ Int.toNat k) = redN (A + (1 : Int)) ((2 : Int) ^ Int.toNat k) ∧ (max ((2 : Nat) * Int.toNat (DcX.p i) + (400 : Nat)) (64 : Nat) + (1 : Nat) ≤ (10001 : Nat) ∨ Int.natAbs (redN (Prod.fst (Option.getD (addG I J X x (DcX.p i)) ((0 : Int), (0 : Int))) / (2 : Int) ^ Int.toNat (IntKind.wrap IntKind.i64 (DcX.p i - k)) + (1 : Int)) ((2 : Int) ^ Int.toNat k)) < (2 : Nat) ^ (10001 : Nat))) ∧ (redD (Prod.fst (Option.getD (addG I J X x (DcX.p i)) ((0 : Int), (0 : Int))) / (2 : Int) ^ Int.toNat (IntKind.wrap IntKind.i64 (DcX.p i - k)) + (1 : Int)) ((2 : Int) ^ Int.toNat k) = redD (A + (1 : Int)) ((2 : Int) ^ Int.toNat k) ∧ (Int.toNat k + (1 : Nat) ≤ (201 : Nat) ∨ Int.natAbs (redD (Prod.fst (Option.getD (addG I J X x (DcX.p i)) ((0 : Int), (0 : Int))) / (2 : Int) ^ Int.toNat (IntKind.wrap IntKind.i64 (DcX.p i - k)) + (1 : Int)) ((2 : Int) ^ Int.toNat k)) < (2 : Nat) ^ (201 : Nat))) ∧ True) ∧ True else ∃ j, DcI (fun p => addG I J X x p) k A j ∧ ((k = k ∧ (((I = I ∧ (n ≤ n ∨ Int.natAbs I < (2 : Nat) ^ n)) ∧ (J = J ∧ (m ≤ m ∨ Int.natAbs J < (2 : Nat) ^ m)) ∧ True) ∧ ((X = X ∧ (c ≤ c ∨ Int.natAbs X < (2 : Nat) ^ c)) ∧ (x = x ∧ (l ≤ l ∨ Int.natAbs x < (2 : Nat) ^ l)) ∧ True) ∧ True) ∧ (0 : Nat) = (0 : Nat) ∧ (0 : Nat) = (0 : Nat) ∧ IntKind.wrap IntKind.i64 (DcX.p i * (2 : Int)) = DcX.p j ∧ True) ∧ ((((0 : Int) = (0 : Int) ∧ ((0 : Nat) ≤ (0 : Nat) ∨ Int.natAbs (0 : Int) < (2 : Nat) ^ (0 : Nat))) ∧ ((0 : Int) = (0 : Int) ∧ ((0 : Nat) ≤ (0 : Nat) ∨ Int.natAbs (0 : Int) < (2 : Nat) ^ (0 : Nat))) ∧ True) ∧ (((0 : Int) = (0 : Int) ∧ ((0 : Nat) ≤ (0 : Nat) ∨ Int.natAbs (0 : Int) < (2 : Nat) ^ (0 : Nat))) ∧ ((0 : Int) = (0 : Int) ∧ ((0 : Nat) ≤ (0 : Nat) ∨ Int.natAbs (0 : Int) < (2 : Nat) ^ (0 : Nat))) ∧ True) ∧ True) ∧ ((((0 : Int) = (0 : Int) ∧ ((0 : Nat) ≤ (0 : Nat) ∨ Int.natAbs (0 : Int) < (2 : Nat) ^ (0 : Nat))) ∧ ((0 : Int) = (0 : Int) ∧ ((0 : Nat) ≤ (0 : Nat) ∨ Int.natAbs (0 : Int) < (2 : Nat) ^ (0 : Nat))) ∧ True) ∧ (((0 : Int) = (0 : Int) ∧ ((0 : Nat) ≤ (0 : Nat) ∨ Int.natAbs (0 : Int) < (2 : Nat) ^ (0 : Nat))) ∧ ((0 : Int) = (0 : Int) ∧ ((0 : Nat) ≤ (0 : Nat) ∨ Int.natAbs (0 : Int) < (2 : Nat) ^ (0 : Nat))) ∧ True) ∧ True) ∧ True) ∧ DcX.f j < DcX.f i) = evFn (env [c_add1, c_two, c_bfloor, c_icmp, c_cell] (a_dec (fun p => addG I J X x p) (.fn 62 [.ref (ratM I J n m), .ref (ratM X x c l)]) k A)) Tryz.f54 [.int .i64 k, .fn 62 [.ref (ratM I J n m), .ref (ratM X x c l)]] (MRes.sat (.ret (cellQ A k))) := by kernel_rfl
theorem p_decA : Good Tryz.f54 s_decA := by
  intro ms p r h hp
  unfold s_decA at h
  split at h
  · rename_i k I n J m X c x l
    simp only [Option.some.injEq, Prod.mk.injEq] at h
    obtain ⟨rfl, rfl⟩ := h
    obtain ⟨q0, q1, q2, q3, q4, q5, q6, h5, h6, h7⟩ : n ≤ 1000 ∧ m ≤ 1000 ∧ c ≤ 1000 ∧ l ≤ 1000 ∧ 0 ≤ I ∧ 0 < J ∧ 0 < x ∧ 0 ≤ k ∧ k ≤ 200 ∧ (decF (fun p => addG I J X x p) k 4 (k + 24)).isSome = true := hp
    obtain ⟨A, hR⟩ := Option.isSome_iff_exists.1 h7
    refine ⟨env [c_add1, c_two, c_bfloor, c_icmp, c_cell] (a_dec (fun p => addG I J X x p) (.fn 62 [.ref (ratM I J n m), .ref (ratM X x c l)]) k A), ?_⟩
    rw [hR, Option.getD_some, ← vc_decA I J X x k A n m c l]
    have e0 : IntKind.wrap IntKind.i64 (k + 24) = k + 24 := i64w (by omega) (by omega)
    refine ⟨⟨⟨4, k + 24⟩, ⟨hR, Int.le_refl _, by show (k + 24) * 2 ^ 4 ≤ 3584; omega⟩, ?_⟩, ?_⟩
    · and_intros <;> first | exact True.intro | rfl | exact .inl (Nat.le_refl _) | exact e0
    rintro ⟨f, p⟩ ⟨hr, p0, p1⟩
    dsimp only at hr p0 p1
    dsimp only
    rw [icmp_eq0]
    cases f with
    | zero => simp [decF] at hr
    | succ f =>
      have hp2 : p * 1 ≤ p * 2 ^ (f + 1) := Int.mul_le_mul_of_nonneg_left (by have := two_pos (f + 1); omega) (by omega)
      have w1 : IntKind.wrap IntKind.i64 (p - k) = p - k := i64w (by omega) (by omega)
      have w2 : IntKind.wrap IntKind.i64 (p * 2) = p * 2 := i64w (by omega) (by omega)
      have hz := two_pos (p - k).toNat
      rw [w1, w2]
      unfold decF at hr
      cases hg : addG I J X x p with
      | none => rw [hg] at hr; simp at hr
      | some s =>
        rw [hg] at hr
        dsimp only at hr
        rw [Option.getD_some]
        refine ⟨⟨q0, q1, q2, q3, q4, q5, q6, by omega, by omega, rfl⟩, ⟨by omega, by omega⟩, ⟨by omega, by omega, fun h => by omega⟩, ⟨by omega, by omega, fun h => by omega⟩, ⟨by omega, by omega⟩, ?_⟩
        by_cases hc : s.1 / 2 ^ (p - k).toNat = s.2 / 2 ^ (p - k).toNat
        · rw [if_pos hc] at hr
          simp only [Option.some.injEq] at hr
          rw [decide_eq_true hc, cond_true, hr]
          exact ⟨⟨by omega, h5, by omega⟩, ⟨⟨rfl, .inl (by omega)⟩, ⟨rfl, .inl (by omega)⟩, True.intro⟩, ⟨⟨rfl, .inl (by omega)⟩, ⟨rfl, .inl (by omega)⟩, True.intro⟩, True.intro⟩
        · rw [if_neg hc] at hr
          rw [decide_eq_false hc, cond_false]
          refine ⟨⟨f, p * 2⟩, ⟨hr, by show k + 24 ≤ p * 2; omega, ?_⟩, ?_, by show f < f + 1; omega⟩
          · show p * 2 * 2 ^ f ≤ 3584
            rw [Int.mul_assoc, Int.mul_comm 2 (2 ^ f), ← Int.pow_succ]; exact p1
          · and_intros <;> first | exact True.intro | rfl | exact .inl (Nat.le_refl _)
  · simp at h
def c_decA : Ctr Tryz.prog := ⟨54, s_decA, fun args w => Tryz.call54 args w, fn_ok mix Tryz.func54 s_decA p_decA⟩
def s_decS : FSpec
  | [.int .i64 k, .fn 67 [.ref (.st [.big M n', .big O m']), .ref (.fn 62 [.ref (.st [.big I n, .big J m]), .ref (.st [.big X c, .big x l])])]] => some (some (n' ≤ 10000 ∧ m' ≤ 10000 ∧ 0 < M ∧ 0 < O ∧ n ≤ 1000 ∧ m ≤ 1000 ∧ c ≤ 1000 ∧ l ≤ 1000 ∧ 0 ≤ I ∧ 0 < J ∧ 0 < x ∧ 0 ≤ k ∧ k ≤ 200 ∧ (decF (fun p => subG M O I J X x p) k 4 (k + 24)).isSome = true), .ret (cellQ ((decF (fun p => subG M O I J X x p) k 4 (k + 24)).getD 0) k))
  | _ => none
theorem vc_decS (M O I J X x k A : Int) (n' m' n m c l : Nat) : ((∃ i, DcI (fun p => subG M O I J X x p) k A i ∧ (k = k ∧ (((M = M ∧ (n' ≤ n' ∨ Int.natAbs M < (2 : Nat) ^ n')) ∧ (O = O ∧ (m' ≤ m' ∨ Int.natAbs O < (2 : Nat) ^ m')) ∧ True) ∧ (((I = I ∧ (n ≤ n ∨ Int.natAbs I < (2 : Nat) ^ n)) ∧ (J = J ∧ (m ≤ m ∨ Int.natAbs J < (2 : Nat) ^ m)) ∧ True) ∧ ((X = X ∧ (c ≤ c ∨ Int.natAbs X < (2 : Nat) ^ c)) ∧ (x = x ∧ (l ≤ l ∨ Int.natAbs x < (2 : Nat) ^ l)) ∧ True) ∧ True) ∧ True) ∧ (0 : Nat) = (0 : Nat) ∧ (0 : Nat) = (0 : Nat) ∧ IntKind.wrap IntKind.i64 (k + (24 : Int)) = DcX.p i ∧ True) ∧ ((((0 : Int) = (0 : Int) ∧ ((0 : Nat) ≤ (0 : Nat) ∨ Int.natAbs (0 : Int) < (2 : Nat) ^ (0 : Nat))) ∧ ((0 : Int) = (0 : Int) ∧ ((0 : Nat) ≤ (0 : Nat) ∨ Int.natAbs (0 : Int) < (2 : Nat) ^ (0 : Nat))) ∧ True) ∧ (((0 : Int) = (0 : Int) ∧ ((0 : Nat) ≤ (0 : Nat) ∨ Int.natAbs (0 : Int) < (2 : Nat) ^ (0 : Nat))) ∧ ((0 : Int) = (0 : Int) ∧ ((0 : Nat) ≤ (0 : Nat) ∨ Int.natAbs (0 : Int) < (2 : Nat) ^ (0 : Nat))) ∧ True) ∧ True) ∧ ((((0 : Int) = (0 : Int) ∧ ((0 : Nat) ≤ (0 : Nat) ∨ Int.natAbs (0 : Int) < (2 : Nat) ^ (0 : Nat))) ∧ ((0 : Int) = (0 : Int) ∧ ((0 : Nat) ≤ (0 : Nat) ∨ Int.natAbs (0 : Int) < (2 : Nat) ^ (0 : Nat))) ∧ True) ∧ (((0 : Int) = (0 : Int) ∧ ((0 : Nat) ≤ (0 : Nat) ∨ Int.natAbs (0 : Int) < (2 : Nat) ^ (0 : Nat))) ∧ ((0 : Int) = (0 : Int) ∧ ((0 : Nat) ≤ (0 : Nat) ∨ Int.natAbs (0 : Int) < (2 : Nat) ^ (0 : Nat))) ∧ True) ∧ True) ∧ True) ∧ ∀ (i : DcX), DcI (fun p => subG M O I J X x p) k A i → (n' ≤ (10000 : Nat) ∧ m' ≤ (10000 : Nat) ∧ (0 : Int) < M ∧ (0 : Int) < O ∧ n ≤ (1000 : Nat) ∧ m ≤ (1000 : Nat) ∧ c ≤ (1000 : Nat) ∧ l ≤ (1000 : Nat) ∧ (0 : Int) ≤ I ∧ (0 : Int) < J ∧ (0 : Int) < x ∧ (0 : Int) ≤ DcX.p i ∧ DcX.p i ≤ (3600 : Int) ∧ Option.isSome (subG M O I J X x (DcX.p i)) = true) ∧ ((0 : Int) ≤ IntKind.wrap IntKind.i64 (DcX.p i - k) ∧ IntKind.wrap IntKind.i64 (DcX.p i - k) ≤ (200000 : Int)) ∧ ((2 : Nat) * Int.toNat (DcX.p i) + (500 : Nat) ≤ (900000 : Nat) ∧ Int.toNat (IntKind.wrap IntKind.i64 (DcX.p i - k)) + (1 : Nat) ≤ (900000 : Nat) ∧ ((2 : Int) ^ Int.toNat (IntKind.wrap IntKind.i64 (DcX.p i - k)) = (0 : Int) → False)) ∧ ((2 : Nat) * Int.toNat (DcX.p i) + (500 : Nat) ≤ (900000 : Nat) ∧ Int.toNat (IntKind.wrap IntKind.i64 (DcX.p i - k)) + (1 : Nat) ≤ (900000 : Nat) ∧ ((2 : Int) ^ Int.toNat (IntKind.wrap IntKind.i64 (DcX.p i - k)) = (0 : Int) → False)) ∧ ((2 : Nat) * Int.toNat (DcX.p i) + (500 : Nat) ≤ (1000000 : Nat) ∧ (2 : Nat) * Int.toNat (DcX.p i) + (500 : Nat) ≤ (1000000 : Nat)) ∧ bif icmp (Prod.fst (Option.getD (subG M O I J X x (DcX.p i)) ((0 : Int), (0 : Int))) / (2 : Int) ^ Int.toNat (IntKind.wrap IntKind.i64 (DcX.p i - k))) (Prod.snd (Option.getD (subG M O I J X x (DcX.p i)) ((0 : Int), (0 : Int))) / (2 : Int) ^ Int.toNat (IntKind.wrap IntKind.i64 (DcX.p i - k))) == (0 : Int) then ((2 : Nat) * Int.toNat (DcX.p i) + (500 : Nat) ≤ (200000 : Nat) ∧ (0 : Int) ≤ k ∧ k ≤ (200000 : Int)) ∧ ((redN (Prod.fst (Option.getD (subG M O I J X x (DcX.p i)) ((0 : Int), (0 : Int))) / (2 : Int) ^ Int.toNat (IntKind.wrap IntKind.i64 (DcX.p i - k))) ((2 : Int) ^ Int.toNat k) = redN A ((2 : Int) ^ Int.toNat k) ∧ ((2 : Nat) * Int.toNat (DcX.p i) + (500 : Nat) ≤ (10000 : Nat) ∨ Int.natAbs (redN (Prod.fst (Option.getD (subG M O I J X x (DcX.p i)) ((0 : Int), (0 : Int))) / (2 : Int) ^ Int.toNat (IntKind.wrap IntKind.i64 (DcX.p i - k))) ((2 : Int) ^ Int.toNat k)) < (2 : Nat) ^ (10000 : Nat))) ∧ (redD (Prod.fst (Option.getD (subG M O I J X x (DcX.p i)) ((0 : Int), (0 : Int))) / (2 : Int) ^ Int.toNat (IntKind.wrap IntKind.i64 (DcX.p i - k))) ((2 : Int) ^ Int.toNat k) = redD A ((2 : Int) ^ Int.toNat k) ∧ (Int.toNat k + (1 : Nat) ≤ (201 : Nat) ∨ Int.natAbs (redD (Prod.fst (Option.getD (subG M O I J X x (DcX.p i)) ((0 : Int), (0 : Int))) / (2 : Int) ^ Int.toNat (IntKind.wrap IntKind.i64 (DcX.p i - k))) ((2 : Int) ^ Int.toNat k)) < (2 : Nat) ^ (201 : Nat))) ∧ True) ∧ ((redN (Prod.fst (Option.getD (subG M O I J X x (DcX.p i)) ((0 : Int), (0 : Int))) / (2 : Int) ^ Int.toNat (IntKind.wrap IntKind.i64 (DcX.p i - k)) + (1 : Int)) ((2 : Int) ^ Int.toNat k) = redN (A + (1 : Int)) ((2 : Int) ^ Int.toNat k) ∧ (max ((2 : Nat) * Int.toNat (DcX.p i) + (500 : Nat)) (64 : Nat) + (1 : Nat) ≤ (10001 : Nat) ∨ Int.natAbs (redN (Prod.fst (Option.getD (subG M O I J X x (DcX.p i)) ((0 : Int), (0 : Int))) / (2 : Int) ^ Int.toNat (IntKind.wrap IntKind.i64 (DcX.p i - k)) + (1 : Int)) ((2 : Int) ^ Int.toNat k)) < (2 : Nat) ^ (10001 : Nat))) ∧ (redD (Prod.fst (Option.getD (subG M O I J X x (DcX.p i)) ((0 : Int), (0 : Int))) / (2 : Int) ^ Int.toNat (IntKind.wrap IntKind.i64 (DcX.p i - k)) + (1 : Int)) ((2 : Int) ^ Int.toNat k) = redD (A + (1 : Int)) ((2 : Int) ^ Int.toNat k) ∧ (Int.toNat k + (1 : Nat) ≤ (201 : Nat) ∨ Int.natAbs (redD (Prod.fst (Option.getD (subG M O I J X x (DcX.p i)) ((0 : Int), (0 : Int))) / (2 : Int) ^ Int.toNat (IntKind.wrap IntKind.i64 (DcX.p i - k)) + (1 : Int)) ((2 : Int) ^ Int.toNat k)) < (2 : Nat) ^ (201 : Nat))) ∧ True) ∧ True else ∃ j, DcI (fun p => subG M O I J X x p) k A j ∧ ((k = k ∧ (((M = M ∧ (n' ≤ n' ∨ Int.natAbs M < (2 : Nat) ^ n')) ∧ (O = O ∧ (m' ≤ m' ∨ Int.natAbs O < (2 : Nat) ^ m')) ∧ True) ∧ (((I = I ∧ (n ≤ n ∨ Int.natAbs I < (2 : Nat) ^ n)) ∧ (J = J ∧ (m ≤ m ∨ Int.natAbs J < (2 : Nat) ^ m)) ∧ True) ∧ ((X = X ∧ (c ≤ c ∨ Int.natAbs X < (2 : Nat) ^ c)) ∧ (x = x ∧ (l ≤ l ∨ Int.natAbs x < (2 : Nat) ^ l)) ∧ True) ∧ True) ∧ True) ∧ (0 : Nat) = (0 : Nat) ∧ (0 : Nat) = (0 : Nat) ∧ IntKind.wrap IntKind.i64 (DcX.p i * (2 : Int)) = DcX.p j ∧ True) ∧ ((((0 : Int) = (0 : Int) ∧ ((0 : Nat) ≤ (0 : Nat) ∨ Int.natAbs (0 : Int) < (2 : Nat) ^ (0 : Nat))) ∧ ((0 : Int) = (0 : Int) ∧ ((0 : Nat) ≤ (0 : Nat) ∨ Int.natAbs (0 : Int) < (2 : Nat) ^ (0 : Nat))) ∧ True) ∧ (((0 : Int) = (0 : Int) ∧ ((0 : Nat) ≤ (0 : Nat) ∨ Int.natAbs (0 : Int) < (2 : Nat) ^ (0 : Nat))) ∧ ((0 : Int) = (0 : Int) ∧ ((0 : Nat) ≤ (0 : Nat) ∨ Int.natAbs (0 : Int) < (2 : Nat) ^ (0 : Nat))) ∧ True) ∧ True) ∧ ((((0 : Int) = (0 : Int) ∧ ((0 : Nat) ≤ (0 : Nat) ∨ Int.natAbs (0 : Int) < (2 : Nat) ^ (0 : Nat))) ∧ ((0 : Int) = (0 : Int) ∧ ((0 : Nat) ≤ (0 : Nat) ∨ Int.natAbs (0 : Int) < (2 : Nat) ^ (0 : Nat))) ∧ True) ∧ (((0 : Int) = (0 : Int) ∧ ((0 : Nat) ≤ (0 : Nat) ∨ Int.natAbs (0 : Int) < (2 : Nat) ^ (0 : Nat))) ∧ ((0 : Int) = (0 : Int) ∧ ((0 : Nat) ≤ (0 : Nat) ∨ Int.natAbs (0 : Int) < (2 : Nat) ^ (0 : Nat))) ∧ True) ∧ True) ∧ True) ∧ DcX.f j < DcX.f i) = evFn (env [c_sub1, c_two, c_bfloor, c_icmp, c_cell] (a_dec (fun p => subG M O I J X x p) (.fn 67 [.ref (ratM M O n' m'), .ref (.fn 62 [.ref (ratM I J n m), .ref (ratM X x c l)])]) k A)) Tryz.f54 [.int .i64 k, .fn 67 [.ref (ratM M O n' m'), .ref (.fn 62 [.ref (ratM I J n m), .ref (ratM X x c l)])]] (MRes.sat (.ret (cellQ A k))) := by kernel_rfl
theorem p_decS : Good Tryz.f54 s_decS := by
  intro ms p r h hp
  unfold s_decS at h
  split at h
  · rename_i k M n' O m' I n J m X c x l
    simp only [Option.some.injEq, Prod.mk.injEq] at h
    obtain ⟨rfl, rfl⟩ := h
    obtain ⟨q0, q1, q2, q3, q4, q5, q6, q7, q8, q9, q10, h5, h6, h7⟩ : n' ≤ 10000 ∧ m' ≤ 10000 ∧ 0 < M ∧ 0 < O ∧ n ≤ 1000 ∧ m ≤ 1000 ∧ c ≤ 1000 ∧ l ≤ 1000 ∧ 0 ≤ I ∧ 0 < J ∧ 0 < x ∧ 0 ≤ k ∧ k ≤ 200 ∧ (decF (fun p => subG M O I J X x p) k 4 (k + 24)).isSome = true := hp
    obtain ⟨A, hR⟩ := Option.isSome_iff_exists.1 h7
    refine ⟨env [c_sub1, c_two, c_bfloor, c_icmp, c_cell] (a_dec (fun p => subG M O I J X x p) (.fn 67 [.ref (ratM M O n' m'), .ref (.fn 62 [.ref (ratM I J n m), .ref (ratM X x c l)])]) k A), ?_⟩
    rw [hR, Option.getD_some, ← vc_decS M O I J X x k A n' m' n m c l]
    have e0 : IntKind.wrap IntKind.i64 (k + 24) = k + 24 := i64w (by omega) (by omega)
    refine ⟨⟨⟨4, k + 24⟩, ⟨hR, Int.le_refl _, by show (k + 24) * 2 ^ 4 ≤ 3584; omega⟩, ?_⟩, ?_⟩
    · and_intros <;> first | exact True.intro | rfl | exact .inl (Nat.le_refl _) | exact e0
    rintro ⟨f, p⟩ ⟨hr, p0, p1⟩
    dsimp only at hr p0 p1
    dsimp only
    rw [icmp_eq0]
    cases f with
    | zero => simp [decF] at hr
    | succ f =>
      have hp2 : p * 1 ≤ p * 2 ^ (f + 1) := Int.mul_le_mul_of_nonneg_left (by have := two_pos (f + 1); omega) (by omega)
      have w1 : IntKind.wrap IntKind.i64 (p - k) = p - k := i64w (by omega) (by omega)
      have w2 : IntKind.wrap IntKind.i64 (p * 2) = p * 2 := i64w (by omega) (by omega)
      have hz := two_pos (p - k).toNat
      rw [w1, w2]
      unfold decF at hr
      cases hg : subG M O I J X x p with
      | none => rw [hg] at hr; simp at hr
      | some s =>
        rw [hg] at hr
        dsimp only at hr
        rw [Option.getD_some]
        refine ⟨⟨q0, q1, q2, q3, q4, q5, q6, q7, q8, q9, q10, by omega, by omega, rfl⟩, ⟨by omega, by omega⟩, ⟨by omega, by omega, fun h => by omega⟩, ⟨by omega, by omega, fun h => by omega⟩, ⟨by omega, by omega⟩, ?_⟩
        by_cases hc : s.1 / 2 ^ (p - k).toNat = s.2 / 2 ^ (p - k).toNat
        · rw [if_pos hc] at hr
          simp only [Option.some.injEq] at hr
          rw [decide_eq_true hc, cond_true, hr]
          exact ⟨⟨by omega, h5, by omega⟩, ⟨⟨rfl, .inl (by omega)⟩, ⟨rfl, .inl (by omega)⟩, True.intro⟩, ⟨⟨rfl, .inl (by omega)⟩, ⟨rfl, .inl (by omega)⟩, True.intro⟩, True.intro⟩
        · rw [if_neg hc] at hr
          rw [decide_eq_false hc, cond_false]
          refine ⟨⟨f, p * 2⟩, ⟨hr, by show k + 24 ≤ p * 2; omega, ?_⟩, ?_, by show f < f + 1; omega⟩
          · show p * 2 * 2 ^ f ≤ 3584
            rw [Int.mul_assoc, Int.mul_comm 2 (2 ^ f), ← Int.pow_succ]; exact p1
          · and_intros <;> first | exact True.intro | rfl | exact .inl (Nat.le_refl _)
  · simp at h
def c_decS : Ctr Tryz.prog := ⟨54, s_decS, fun args w => Tryz.call54 args w, fn_ok mix Tryz.func54 s_decS p_decS⟩

end Go.Proofs.YtkokpkhdkbeofaaGreat

/-
  Contracts of functions: package bound: Quad.
-/
namespace Go.Proofs.YtkokpkhdkbeofaaGreat
open Go Go.RowKit

def qI (Y y d : Int) : Int := redN (redN (Y * Y) (y * y) * redN d (2 ^ Int.toNat 0)) (redD (Y * Y) (y * y) * redD d (2 ^ Int.toNat 0))
def qJ (Y y d : Int) : Int := redD (redN (Y * Y) (y * y) * redN d (2 ^ Int.toNat 0)) (redD (Y * Y) (y * y) * redD d (2 ^ Int.toNat 0))
def qM (X x Y y d : Int) : Int := (redN (redN (X * X) (x * x) * qJ Y y d + -qI Y y d * redD (X * X) (x * x)) (redD (X * X) (x * x) * qJ Y y d)).natAbs
def qO (X x Y y d : Int) : Int := redD (redN (X * X) (x * x) * qJ Y y d + -qI Y y d * redD (X * X) (x * x)) (redD (X * X) (x * x) * qJ Y y d)
def quadA (X x Y y d k : Int) : Option Int := decF (fun p => addG (qI Y y d) (qJ Y y d) X x p) k 4 (k + 24)
def quadS (X x Y y d k : Int) : Option Int := decF (fun p => subG (qM X x Y y d) (qO X x Y y d) (qI Y y d) (qJ Y y d) X x p) k 4 (k + 24)
def badD (d : Int) : Prop := d < 0 ∨ d = nsq d.natAbs * nsq d.natAbs
instance (d : Int) : Decidable (badD d) := inferInstanceAs (Decidable (_ ∨ _))
def quadV (X x Y y d k : Int) : Iv := if wrongK k then errV 1 else if X = 0 ∧ Y = 0 then errV 4 else if badD d then errV 5 else if Y = 0 then logV X.natAbs x k else
  if sgn X * sgn Y < 0 then cellV ((quadS X x Y y d k).getD 0) k else cellV ((quadA X x Y y d k).getD 0) k
structure QuadOk (X x Y y d k : Int) : Prop where
  hx : 0 < x
  hy : 0 < y
  log : Y = 0 → LogOk X.natAbs x k
  sub : ¬ wrongK k → ¬ badD d → Y ≠ 0 → sgn X * sgn Y < 0 → 0 < qM X x Y y d ∧ (quadS X x Y y d k).isSome = true
  add : ¬ wrongK k → ¬ badD d → Y ≠ 0 → ¬ sgn X * sgn Y < 0 → (quadA X x Y y d k).isSome = true
def s_quad : FSpec
  | [.st [.big X n, .big x m], .st [.big Y k, .big y l], .big d o, .int .i64 e] => some (some (n ≤ 200 ∧ m ≤ 200 ∧ k ≤ 200 ∧ l ≤ 200 ∧ o ≤ 200 ∧ QuadOk X x Y y d e), ivR (quadV X x Y y d e) 10000 201 10001 201)
  | _ => none
/-- Two contracts of one function. -/
def Ctr.or {P : Program} (a b : Ctr P) (h : b.f = a.f) : Ctr P where
  f := a.f
  spec := fun ms => match a.spec ms with
    | some x => some x
    | none => b.spec ms
  call := a.call
  ok := by
    intro S w ms args p r hs
    cases ha : a.spec ms with
    | some x =>
      rw [ha] at hs
      exact a.ok S w ms args p r (by rw [ha]; exact hs)
    | none =>
      rw [ha] at hs
      rw [← h]
      exact b.ok S w ms args p r hs
def c_decQ : Ctr Tryz.prog := c_decA.or c_decS rfl
def envZ (Γ : List (Ctr Tryz.prog)) (fz : Nat → List Nat) (cut : Nat → MS → Option CutAnn) : Env Tryz.prog := ⟨Γ, [], 29, noAnn, fz, cut⟩
def k_quad (X x Y y d e : Int) (n m k l o : Nat) : Nat → MS → Option CutAnn
  | 5, _ => some (.mk Nat (fun i => i = 0 ∧ ¬ wrongK e ∧ ¬ (X = 0 ∧ Y = 0)) (fun _ => ⟨80, [(3, .int .i64 e), (4, .bp 0 0), (5, .bp 1 0), (6, .bp 2 0), (8, .bp 3 0)], [⟨false, .one (ratM X x n m)⟩, ⟨false, .one (ratM Y y k l)⟩, ⟨false, .one (.big d o)⟩, ⟨false, .one (ivM 0 0 0 0 0 0 0 0)⟩], 0⟩))
  | _, _ => none
def z_quad : Nat → List Nat
  | 15 => [0, 6]
  | _ => []
theorem vc_quad (X x Y y d e A B C D E : Int) (n m k l o : Nat) : ((bif decide (e < (0 : Int) ∨ (200 : Int) < e) then ((((0 : Int) = A ∧ ((0 : Nat) ≤ (10000 : Nat) ∨ Int.natAbs (0 : Int) < (2 : Nat) ^ (10000 : Nat))) ∧ ((0 : Int) = B ∧ ((0 : Nat) ≤ (201 : Nat) ∨ Int.natAbs (0 : Int) < (2 : Nat) ^ (201 : Nat))) ∧ True) ∧ (((0 : Int) = C ∧ ((0 : Nat) ≤ (10001 : Nat) ∨ Int.natAbs (0 : Int) < (2 : Nat) ^ (10001 : Nat))) ∧ ((0 : Int) = D ∧ ((0 : Nat) ≤ (201 : Nat) ∨ Int.natAbs (0 : Int) < (2 : Nat) ^ (201 : Nat))) ∧ True) ∧ True) ∧ (1 : Int) = E ∧ True else bif sgn X == (0 : Int) then bif sgn Y == (0 : Int) then ((((0 : Int) = A ∧ ((0 : Nat) ≤ (10000 : Nat) ∨ Int.natAbs (0 : Int) < (2 : Nat) ^ (10000 : Nat))) ∧ ((0 : Int) = B ∧ ((0 : Nat) ≤ (201 : Nat) ∨ Int.natAbs (0 : Int) < (2 : Nat) ^ (201 : Nat))) ∧ True) ∧ (((0 : Int) = C ∧ ((0 : Nat) ≤ (10001 : Nat) ∨ Int.natAbs (0 : Int) < (2 : Nat) ^ (10001 : Nat))) ∧ ((0 : Int) = D ∧ ((0 : Nat) ≤ (201 : Nat) ∨ Int.natAbs (0 : Int) < (2 : Nat) ^ (201 : Nat))) ∧ True) ∧ True) ∧ (4 : Int) = E ∧ True else ∃ i, (i = (0 : Nat) ∧ (e < (0 : Int) ∨ (200 : Int) < e → False) ∧ (X = (0 : Int) ∧ Y = (0 : Int) → False)) ∧ (e = e ∧ (0 : Nat) = (0 : Nat) ∧ (0 : Nat) = (0 : Nat) ∧ (0 : Nat) = (0 : Nat) ∧ (0 : Nat) = (0 : Nat) ∧ True) ∧ ((X = X ∧ (n ≤ n ∨ Int.natAbs X < (2 : Nat) ^ n)) ∧ (x = x ∧ (m ≤ m ∨ Int.natAbs x < (2 : Nat) ^ m)) ∧ True) ∧ ((Y = Y ∧ (k ≤ k ∨ Int.natAbs Y < (2 : Nat) ^ k)) ∧ (y = y ∧ (l ≤ l ∨ Int.natAbs y < (2 : Nat) ^ l)) ∧ True) ∧ (d = d ∧ (o ≤ o ∨ Int.natAbs d < (2 : Nat) ^ o)) ∧ ((((0 : Int) = (0 : Int) ∧ ((0 : Nat) ≤ (0 : Nat) ∨ Int.natAbs (0 : Int) < (2 : Nat) ^ (0 : Nat))) ∧ ((0 : Int) = (0 : Int) ∧ ((0 : Nat) ≤ (0 : Nat) ∨ Int.natAbs (0 : Int) < (2 : Nat) ^ (0 : Nat))) ∧ True) ∧ (((0 : Int) = (0 : Int) ∧ ((0 : Nat) ≤ (0 : Nat) ∨ Int.natAbs (0 : Int) < (2 : Nat) ^ (0 : Nat))) ∧ ((0 : Int) = (0 : Int) ∧ ((0 : Nat) ≤ (0 : Nat) ∨ Int.natAbs (0 : Int) < (2 : Nat) ^ (0 : Nat))) ∧ True) ∧ True) ∧ True else ∃ i, (i = (0 : Nat) ∧ (e < (0 : Int) ∨ (200 : Int) < e → False) ∧ (X = (0 : Int) ∧ Y = (0 : Int) → False)) ∧ (e = e ∧ (0 : Nat) = (0 : Nat) ∧ (0 : Nat) = (0 : Nat) ∧ (0 : Nat) = (0 : Nat) ∧ (0 : Nat) = (0 : Nat) ∧ True) ∧ ((X = X ∧ (n ≤ n ∨ Int.natAbs X < (2 : Nat) ^ n)) ∧ (x = x ∧ (m ≤ m ∨ Int.natAbs x < (2 : Nat) ^ m)) ∧ True) ∧ ((Y = Y ∧ (k ≤ k ∨ Int.natAbs Y < (2 : Nat) ^ k)) ∧ (y = y ∧ (l ≤ l ∨ Int.natAbs y < (2 : Nat) ^ l)) ∧ True) ∧ (d = d ∧ (o ≤ o ∨ Int.natAbs d < (2 : Nat) ^ o)) ∧ ((((0 : Int) = (0 : Int) ∧ ((0 : Nat) ≤ (0 : Nat) ∨ Int.natAbs (0 : Int) < (2 : Nat) ^ (0 : Nat))) ∧ ((0 : Int) = (0 : Int) ∧ ((0 : Nat) ≤ (0 : Nat) ∨ Int.natAbs (0 : Int) < (2 : Nat) ^ (0 : Nat))) ∧ True) ∧ (((0 : Int) = (0 : Int) ∧ ((0 : Nat) ≤ (0 : Nat) ∨ Int.natAbs (0 : Int) < (2 : Nat) ^ (0 : Nat))) ∧ ((0 : Int) = (0 : Int) ∧ ((0 : Nat) ≤ (0 : Nat) ∨ Int.natAbs (0 : Int) < (2 : Nat) ^ (0 : Nat))) ∧ True) ∧ True) ∧ True) ∧ ∀ (i : Nat), i = (0 : Nat) ∧ (e < (0 : Int) ∨ (200 : Int) < e → False) ∧ (X = (0 : Int) ∧ Y = (0 : Int) → False) → o ≤ (100000 : Nat) ∧ bif decide (d < (0 : Int)) then ((((0 : Int) = A ∧ ((0 : Nat) ≤ (10000 : Nat) ∨ Int.natAbs (0 : Int) < (2 : Nat) ^ (10000 : Nat))) ∧ ((0 : Int) = B ∧ ((0 : Nat) ≤ (201 : Nat) ∨ Int.natAbs (0 : Int) < (2 : Nat) ^ (201 : Nat))) ∧ True) ∧ (((0 : Int) = C ∧ ((0 : Nat) ≤ (10001 : Nat) ∨ Int.natAbs (0 : Int) < (2 : Nat) ^ (10001 : Nat))) ∧ ((0 : Int) = D ∧ ((0 : Nat) ≤ (201 : Nat) ∨ Int.natAbs (0 : Int) < (2 : Nat) ^ (201 : Nat))) ∧ True) ∧ True) ∧ (5 : Int) = E ∧ True else bif sgn (d - (↑(nsq (Int.natAbs d)) : Int) * (↑(nsq (Int.natAbs d)) : Int)) == (0 : Int) then ((((0 : Int) = A ∧ ((0 : Nat) ≤ (10000 : Nat) ∨ Int.natAbs (0 : Int) < (2 : Nat) ^ (10000 : Nat))) ∧ ((0 : Int) = B ∧ ((0 : Nat) ≤ (201 : Nat) ∨ Int.natAbs (0 : Int) < (2 : Nat) ^ (201 : Nat))) ∧ True) ∧ (((0 : Int) = C ∧ ((0 : Nat) ≤ (10001 : Nat) ∨ Int.natAbs (0 : Int) < (2 : Nat) ^ (10001 : Nat))) ∧ ((0 : Int) = D ∧ ((0 : Nat) ≤ (201 : Nat) ∨ Int.natAbs (0 : Int) < (2 : Nat) ^ (201 : Nat))) ∧ True) ∧ True) ∧ (5 : Int) = E ∧ True else bif sgn Y == (0 : Int) then (n ≤ (900000 : Nat) ∧ m ≤ (900000 : Nat)) ∧ (n ≤ (10000 : Nat) ∧ m ≤ (10000 : Nat) ∧ LogOk (↑(Int.natAbs X) : Int) x e) ∧ (((Iv.a (logV (↑(Int.natAbs X) : Int) x e) = A ∧ ((5000 : Nat) ≤ (10000 : Nat) ∨ Int.natAbs (Iv.a (logV (↑(Int.natAbs X) : Int) x e)) < (2 : Nat) ^ (10000 : Nat))) ∧ (Iv.b (logV (↑(Int.natAbs X) : Int) x e) = B ∧ ((201 : Nat) ≤ (201 : Nat) ∨ Int.natAbs (Iv.b (logV (↑(Int.natAbs X) : Int) x e)) < (2 : Nat) ^ (201 : Nat))) ∧ True) ∧ ((Iv.c (logV (↑(Int.natAbs X) : Int) x e) = C ∧ ((5001 : Nat) ≤ (10001 : Nat) ∨ Int.natAbs (Iv.c (logV (↑(Int.natAbs X) : Int) x e)) < (2 : Nat) ^ (10001 : Nat))) ∧ (Iv.d (logV (↑(Int.natAbs X) : Int) x e) = D ∧ ((201 : Nat) ≤ (201 : Nat) ∨ Int.natAbs (Iv.d (logV (↑(Int.natAbs X) : Int) x e)) < (2 : Nat) ^ (201 : Nat))) ∧ True) ∧ True) ∧ Iv.e (logV (↑(Int.natAbs X) : Int) x e) = E ∧ True else (k ≤ (400000 : Nat) ∧ l ≤ (400000 : Nat) ∧ k ≤ (400000 : Nat) ∧ l ≤ (400000 : Nat) ∧ (0 : Int) < y ∧ (0 : Int) < y) ∧ (o ≤ (300000 : Nat) ∧ (0 : Int) ≤ (0 : Int) ∧ (0 : Int) ≤ (200000 : Int)) ∧ (k + k ≤ (400000 : Nat) ∧ l + l ≤ (400000 : Nat) ∧ o ≤ (400000 : Nat) ∧ Int.toNat (0 : Int) + (1 : Nat) ≤ (400000 : Nat) ∧ (0 : Int) < redD (Y * Y) (y * y) ∧ (0 : Int) < redD d ((2 : Int) ^ Int.toNat (0 : Int))) ∧ (n ≤ (400000 : Nat) ∧ m ≤ (400000 : Nat) ∧ n ≤ (400000 : Nat) ∧ m ≤ (400000 : Nat) ∧ (0 : Int) < x ∧ (0 : Int) < x) ∧ (n + n ≤ (400000 : Nat) ∧ m + m ≤ (400000 : Nat) ∧ k + k + o ≤ (400000 : Nat) ∧ l + l + (Int.toNat (0 : Int) + (1 : Nat)) ≤ (400000 : Nat) ∧ (0 : Int) < redD (X * X) (x * x) ∧ (0 : Int) < redD (redN (Y * Y) (y * y) * redN d ((2 : Int) ^ Int.toNat (0 : Int))) (redD (Y * Y) (y * y) * redD d ((2 : Int) ^ Int.toNat (0 : Int)))) ∧ (max (n + n + (l + l + (Int.toNat (0 : Int) + (1 : Nat)))) (k + k + o + (m + m)) + (1 : Nat) ≤ (900000 : Nat) ∧ m + m + (l + l + (Int.toNat (0 : Int) + (1 : Nat))) ≤ (900000 : Nat)) ∧ bif decide (IntKind.wrap IntKind.i64 (sgn X * sgn Y) < (0 : Int)) then (max (n + n + (l + l + (Int.toNat (0 : Int) + (1 : Nat)))) (k + k + o + (m + m)) + (1 : Nat) ≤ (10000 : Nat) ∧ m + m + (l + l + (Int.toNat (0 : Int) + (1 : Nat))) ≤ (10000 : Nat) ∧ (0 : Int) < (↑(Int.natAbs (redN (redN (X * X) (x * x) * redD (redN (Y * Y) (y * y) * redN d ((2 : Int) ^ Int.toNat (0 : Int))) (redD (Y * Y) (y * y) * redD d ((2 : Int) ^ Int.toNat (0 : Int))) + -redN (redN (Y * Y) (y * y) * redN d ((2 : Int) ^ Int.toNat (0 : Int))) (redD (Y * Y) (y * y) * redD d ((2 : Int) ^ Int.toNat (0 : Int))) * redD (X * X) (x * x)) (redD (X * X) (x * x) * redD (redN (Y * Y) (y * y) * redN d ((2 : Int) ^ Int.toNat (0 : Int))) (redD (Y * Y) (y * y) * redD d ((2 : Int) ^ Int.toNat (0 : Int)))))) : Int) ∧ (0 : Int) < redD (redN (X * X) (x * x) * redD (redN (Y * Y) (y * y) * redN d ((2 : Int) ^ Int.toNat (0 : Int))) (redD (Y * Y) (y * y) * redD d ((2 : Int) ^ Int.toNat (0 : Int))) + -redN (redN (Y * Y) (y * y) * redN d ((2 : Int) ^ Int.toNat (0 : Int))) (redD (Y * Y) (y * y) * redD d ((2 : Int) ^ Int.toNat (0 : Int))) * redD (X * X) (x * x)) (redD (X * X) (x * x) * redD (redN (Y * Y) (y * y) * redN d ((2 : Int) ^ Int.toNat (0 : Int))) (redD (Y * Y) (y * y) * redD d ((2 : Int) ^ Int.toNat (0 : Int)))) ∧ k + k + o ≤ (1000 : Nat) ∧ l + l + (Int.toNat (0 : Int) + (1 : Nat)) ≤ (1000 : Nat) ∧ n ≤ (1000 : Nat) ∧ m ≤ (1000 : Nat) ∧ (0 : Int) ≤ redN (redN (Y * Y) (y * y) * redN d ((2 : Int) ^ Int.toNat (0 : Int))) (redD (Y * Y) (y * y) * redD d ((2 : Int) ^ Int.toNat (0 : Int))) ∧ (0 : Int) < redD (redN (Y * Y) (y * y) * redN d ((2 : Int) ^ Int.toNat (0 : Int))) (redD (Y * Y) (y * y) * redD d ((2 : Int) ^ Int.toNat (0 : Int))) ∧ (0 : Int) < x ∧ (0 : Int) ≤ e ∧ e ≤ (200 : Int) ∧ Option.isSome (decF (fun p => subG (↑(Int.natAbs (redN (redN (X * X) (x * x) * redD (redN (Y * Y) (y * y) * redN d ((2 : Int) ^ Int.toNat (0 : Int))) (redD (Y * Y) (y * y) * redD d ((2 : Int) ^ Int.toNat (0 : Int))) + -redN (redN (Y * Y) (y * y) * redN d ((2 : Int) ^ Int.toNat (0 : Int))) (redD (Y * Y) (y * y) * redD d ((2 : Int) ^ Int.toNat (0 : Int))) * redD (X * X) (x * x)) (redD (X * X) (x * x) * redD (redN (Y * Y) (y * y) * redN d ((2 : Int) ^ Int.toNat (0 : Int))) (redD (Y * Y) (y * y) * redD d ((2 : Int) ^ Int.toNat (0 : Int)))))) : Int) (redD (redN (X * X) (x * x) * redD (redN (Y * Y) (y * y) * redN d ((2 : Int) ^ Int.toNat (0 : Int))) (redD (Y * Y) (y * y) * redD d ((2 : Int) ^ Int.toNat (0 : Int))) + -redN (redN (Y * Y) (y * y) * redN d ((2 : Int) ^ Int.toNat (0 : Int))) (redD (Y * Y) (y * y) * redD d ((2 : Int) ^ Int.toNat (0 : Int))) * redD (X * X) (x * x)) (redD (X * X) (x * x) * redD (redN (Y * Y) (y * y) * redN d ((2 : Int) ^ Int.toNat (0 : Int))) (redD (Y * Y) (y * y) * redD d ((2 : Int) ^ Int.toNat (0 : Int))))) (redN (redN (Y * Y) (y * y) * redN d ((2 : Int) ^ Int.toNat (0 : Int))) (redD (Y * Y) (y * y) * redD d ((2 : Int) ^ Int.toNat (0 : Int)))) (redD (redN (Y * Y) (y * y) * redN d ((2 : Int) ^ Int.toNat (0 : Int))) (redD (Y * Y) (y * y) * redD d ((2 : Int) ^ Int.toNat (0 : Int)))) X x p) e (4 : Nat) (e + (24 : Int))) = true) ∧ (((redN (Option.getD (decF (fun p => subG (↑(Int.natAbs (redN (redN (X * X) (x * x) * redD (redN (Y * Y) (y * y) * redN d ((2 : Int) ^ Int.toNat (0 : Int))) (redD (Y * Y) (y * y) * redD d ((2 : Int) ^ Int.toNat (0 : Int))) + -redN (redN (Y * Y) (y * y) * redN d ((2 : Int) ^ Int.toNat (0 : Int))) (redD (Y * Y) (y * y) * redD d ((2 : Int) ^ Int.toNat (0 : Int))) * redD (X * X) (x * x)) (redD (X * X) (x * x) * redD (redN (Y * Y) (y * y) * redN d ((2 : Int) ^ Int.toNat (0 : Int))) (redD (Y * Y) (y * y) * redD d ((2 : Int) ^ Int.toNat (0 : Int)))))) : Int) (redD (redN (X * X) (x * x) * redD (redN (Y * Y) (y * y) * redN d ((2 : Int) ^ Int.toNat (0 : Int))) (redD (Y * Y) (y * y) * redD d ((2 : Int) ^ Int.toNat (0 : Int))) + -redN (redN (Y * Y) (y * y) * redN d ((2 : Int) ^ Int.toNat (0 : Int))) (redD (Y * Y) (y * y) * redD d ((2 : Int) ^ Int.toNat (0 : Int))) * redD (X * X) (x * x)) (redD (X * X) (x * x) * redD (redN (Y * Y) (y * y) * redN d ((2 : Int) ^ Int.toNat (0 : Int))) (redD (Y * Y) (y * y) * redD d ((2 : Int) ^ Int.toNat (0 : Int))))) (redN (redN (Y * Y) (y * y) * redN d ((2 : Int) ^ Int.toNat (0 : Int))) (redD (Y * Y) (y * y) * redD d ((2 : Int) ^ Int.toNat (0 : Int)))) (redD (redN (Y * Y) (y * y) * redN d ((2 : Int) ^ Int.toNat (0 : Int))) (redD (Y * Y) (y * y) * redD d ((2 : Int) ^ Int.toNat (0 : Int)))) X x p) e (4 : Nat) (e + (24 : Int))) (0 : Int)) ((2 : Int) ^ Int.toNat e) = A ∧ ((10000 : Nat) ≤ (10000 : Nat) ∨ Int.natAbs (redN (Option.getD (decF (fun p => subG (↑(Int.natAbs (redN (redN (X * X) (x * x) * redD (redN (Y * Y) (y * y) * redN d ((2 : Int) ^ Int.toNat (0 : Int))) (redD (Y * Y) (y * y) * redD d ((2 : Int) ^ Int.toNat (0 : Int))) + -redN (redN (Y * Y) (y * y) * redN d ((2 : Int) ^ Int.toNat (0 : Int))) (redD (Y * Y) (y * y) * redD d ((2 : Int) ^ Int.toNat (0 : Int))) * redD (X * X) (x * x)) (redD (X * X) (x * x) * redD (redN (Y * Y) (y * y) * redN d ((2 : Int) ^ Int.toNat (0 : Int))) (redD (Y * Y) (y * y) * redD d ((2 : Int) ^ Int.toNat (0 : Int)))))) : Int) (redD (redN (X * X) (x * x) * redD (redN (Y * Y) (y * y) * redN d ((2 : Int) ^ Int.toNat (0 : Int))) (redD (Y * Y) (y * y) * redD d ((2 : Int) ^ Int.toNat (0 : Int))) + -redN (redN (Y * Y) (y * y) * redN d ((2 : Int) ^ Int.toNat (0 : Int))) (redD (Y * Y) (y * y) * redD d ((2 : Int) ^ Int.toNat (0 : Int))) * redD (X * X) (x * x)) (redD (X * X) (x * x) * redD (redN (Y * Y) (y * y) * redN d ((2 : Int) ^ Int.toNat (0 : Int))) (redD (Y * Y) (y * y) * redD d ((2 : Int) ^ Int.toNat (0 : Int))))) (redN (redN (Y * Y) (y * y) * redN d ((2 : Int) ^ Int.toNat (0 : Int))) (redD (Y * Y) (y * y) * redD d ((2 : Int) ^ Int.toNat (0 : Int)))) (redD (redN (Y * Y) (y * y) * redN d ((2 : Int) ^ Int.toNat (0 : Int))) (redD (Y * Y) (y * y) * redD d ((2 : Int) ^ Int.toNat (0 : Int)))) X x p) e (4 : Nat) (e + (24 : Int))) (0 : Int)) ((2 : Int) ^ Int.toNat e)) < (2 : Nat) ^ (10000 : Nat))) ∧ (redD (Option.getD (decF (fun p => subG (↑(Int.natAbs (redN (redN (X * X) (x * x) * redD (redN (Y * Y) (y * y) * redN d ((2 : Int) ^ Int.toNat (0 : Int))) (redD (Y * Y) (y * y) * redD d ((2 : Int) ^ Int.toNat (0 : Int))) + -redN (redN (Y * Y) (y * y) * redN d ((2 : Int) ^ Int.toNat (0 : Int))) (redD (Y * Y) (y * y) * redD d ((2 : Int) ^ Int.toNat (0 : Int))) * redD (X * X) (x * x)) (redD (X * X) (x * x) * redD (redN (Y * Y) (y * y) * redN d ((2 : Int) ^ Int.toNat (0 : Int))) (redD (Y * Y) (y * y) * redD d ((2 : Int) ^ Int.toNat (0 : Int)))))) : Int) (redD (redN (X * X) (x * x) * redD (redN (Y * Y) (y * y) * redN d ((2 : Int) ^ Int.toNat (0 : Int))) (redD (Y * Y) (y * y) * redD d ((2 : Int) ^ Int.toNat (0 : Int))) + -redN (redN (Y * Y) (y * y) * redN d ((2 : Int) ^ Int.toNat (0 : Int))) (redD (Y * Y) (y * y) * redD d ((2 : Int) ^ Int.toNat (0 : Int))) * redD (X * X) (x * x)) (redD (X * X) (x * x) * redD (redN (Y * Y) (y * y) * redN d ((2 : Int) ^ Int.toNat (0 : Int))) (redD (Y * Y) (y * y) * redD d ((2 : Int) ^ Int.toNat (0 : Int))))) (redN (redN (Y * Y) (y * y) * redN d ((2 : Int) ^ Int.toNat (0 : Int))) (redD (Y * Y) (y * y) * redD d ((2 : Int) ^ Int.toNat (0 : Int)))) (redD (redN (Y * Y) (y * y) * redN d ((2 : Int) ^ Int.toNat (0 : Int))) (redD (Y * Y) (y * y) * redD d ((2 : Int) ^ Int.toNat (0 : Int)))) X x p) e (4 : Nat) (e + (24 : Int))) (0 : Int)) ((2 : Int) ^ Int.toNat e) = B ∧ ((201 : Nat) ≤ (201 : Nat) ∨ Int.natAbs (redD (Option.getD (decF (fun p => subG (↑(Int.natAbs (redN (redN (X * X) (x * x) * redD (redN (Y * Y) (y * y) * redN d ((2 : Int) ^ Int.toNat (0 : Int))) (redD (Y * Y) (y * y) * redD d ((2 : Int) ^ Int.toNat (0 : Int))) + -redN (redN (Y * Y) (y * y) * redN d ((2 : Int) ^ Int.toNat (0 : Int))) (redD (Y * Y) (y * y) * redD d ((2 : Int) ^ Int.toNat (0 : Int))) * redD (X * X) (x * x)) (redD (X * X) (x * x) * redD (redN (Y * Y) (y * y) * redN d ((2 : Int) ^ Int.toNat (0 : Int))) (redD (Y * Y) (y * y) * redD d ((2 : Int) ^ Int.toNat (0 : Int)))))) : Int) (redD (redN (X * X) (x * x) * redD (redN (Y * Y) (y * y) * redN d ((2 : Int) ^ Int.toNat (0 : Int))) (redD (Y * Y) (y * y) * redD d ((2 : Int) ^ Int.toNat (0 : Int))) + -redN (redN (Y * Y) (y * y) * redN d ((2 : Int) ^ Int.toNat (0 : Int))) (redD (Y * Y) (y * y) * redD d ((2 : Int) ^ Int.toNat (0 : Int))) * redD (X * X) (x * x)) (redD (X * X) (x * x) * redD (redN (Y * Y) (y * y) * redN d ((2 : Int) ^ Int.toNat (0 : Int))) (redD (Y * Y) (y * y) * redD d ((2 : Int) ^ Int.toNat (0 : Int))))) (redN (redN (Y * Y) (y * y) * redN d ((2 : Int) ^ Int.toNat (0 : Int))) (redD (Y * Y) (y * y) * redD d ((2 : Int) ^ Int.toNat (0 : Int)))) (redD (redN (Y * Y) (y * y) * redN d ((2 : Int) ^ Int.toNat (0 : Int))) (redD (Y * Y) (y * y) * redD d ((2 : Int) ^ Int.toNat (0 : Int)))) X x p) e (4 : Nat) (e + (24 : Int))) (0 : Int)) ((2 : Int) ^ Int.toNat e)) < (2 : Nat) ^ (201 : Nat))) ∧ True) ∧ ((redN (Option.getD (decF (fun p => subG (↑(Int.natAbs (redN (redN (X * X) (x * x) * redD (redN (Y * Y) (y * y) * redN d ((2 : Int) ^ Int.toNat (0 : Int))) (redD (Y * Y) (y * y) * redD d ((2 : Int) ^ Int.toNat (0 : Int))) + -redN (redN (Y * Y) (y * y) * redN d ((2 : Int) ^ Int.toNat (0 : Int))) (redD (Y * Y) (y * y) * redD d ((2 : Int) ^ Int.toNat (0 : Int))) * redD (X * X) (x * x)) (redD (X * X) (x * x) * redD (redN (Y * Y) (y * y) * redN d ((2 : Int) ^ Int.toNat (0 : Int))) (redD (Y * Y) (y * y) * redD d ((2 : Int) ^ Int.toNat (0 : Int)))))) : Int) (redD (redN (X * X) (x * x) * redD (redN (Y * Y) (y * y) * redN d ((2 : Int) ^ Int.toNat (0 : Int))) (redD (Y * Y) (y * y) * redD d ((2 : Int) ^ Int.toNat (0 : Int))) + -redN (redN (Y * Y) (y * y) * redN d ((2 : Int) ^ Int.toNat (0 : Int))) (redD (Y * Y) (y * y) * redD d ((2 : Int) ^ Int.toNat (0 : Int))) * redD (X * X) (x * x)) (redD (X * X) (x * x) * redD (redN (Y * Y) (y * y) * redN d ((2 : Int) ^ Int.toNat (0 : Int))) (redD (Y * Y) (y * y) * redD d ((2 : Int) ^ Int.toNat (0 : Int))))) (redN (redN (Y * Y) (y * y) * redN d ((2 : Int) ^ Int.toNat (0 : Int))) (redD (Y * Y) (y * y) * redD d ((2 : Int) ^ Int.toNat (0 : Int)))) (redD (redN (Y * Y) (y * y) * redN d ((2 : Int) ^ Int.toNat (0 : Int))) (redD (Y * Y) (y * y) * redD d ((2 : Int) ^ Int.toNat (0 : Int)))) X x p) e (4 : Nat) (e + (24 : Int))) (0 : Int) + (1 : Int)) ((2 : Int) ^ Int.toNat e) = C ∧ ((10001 : Nat) ≤ (10001 : Nat) ∨ Int.natAbs (redN (Option.getD (decF (fun p => subG (↑(Int.natAbs (redN (redN (X * X) (x * x) * redD (redN (Y * Y) (y * y) * redN d ((2 : Int) ^ Int.toNat (0 : Int))) (redD (Y * Y) (y * y) * redD d ((2 : Int) ^ Int.toNat (0 : Int))) + -redN (redN (Y * Y) (y * y) * redN d ((2 : Int) ^ Int.toNat (0 : Int))) (redD (Y * Y) (y * y) * redD d ((2 : Int) ^ Int.toNat (0 : Int))) * redD (X * X) (x * x)) (redD (X * X) (x * x) * redD (redN (Y * Y) (y * y) * redN d ((2 : Int) ^ Int.toNat (0 : Int))) (redD (Y * Y) (y * y) * redD d ((2 : Int) ^ Int.toNat (0 : Int)))))) : Int) (redD (redN (X * X) (x * x) * redD (redN (Y * Y) (y * y) * redN d ((2 : Int) ^ Int.toNat (0 : Int))) (redD (Y * Y) (y * y) * redD d ((2 : Int) ^ Int.toNat (0 : Int))) + -redN (redN (Y * Y) (y * y) * redN d ((2 : Int) ^ Int.toNat (0 : Int))) (redD (Y * Y) (y * y) * redD d ((2 : Int) ^ Int.toNat (0 : Int))) * redD (X * X) (x * x)) (redD (X * X) (x * x) * redD (redN (Y * Y) (y * y) * redN d ((2 : Int) ^ Int.toNat (0 : Int))) (redD (Y * Y) (y * y) * redD d ((2 : Int) ^ Int.toNat (0 : Int))))) (redN (redN (Y * Y) (y * y) * redN d ((2 : Int) ^ Int.toNat (0 : Int))) (redD (Y * Y) (y * y) * redD d ((2 : Int) ^ Int.toNat (0 : Int)))) (redD (redN (Y * Y) (y * y) * redN d ((2 : Int) ^ Int.toNat (0 : Int))) (redD (Y * Y) (y * y) * redD d ((2 : Int) ^ Int.toNat (0 : Int)))) X x p) e (4 : Nat) (e + (24 : Int))) (0 : Int) + (1 : Int)) ((2 : Int) ^ Int.toNat e)) < (2 : Nat) ^ (10001 : Nat))) ∧ (redD (Option.getD (decF (fun p => subG (↑(Int.natAbs (redN (redN (X * X) (x * x) * redD (redN (Y * Y) (y * y) * redN d ((2 : Int) ^ Int.toNat (0 : Int))) (redD (Y * Y) (y * y) * redD d ((2 : Int) ^ Int.toNat (0 : Int))) + -redN (redN (Y * Y) (y * y) * redN d ((2 : Int) ^ Int.toNat (0 : Int))) (redD (Y * Y) (y * y) * redD d ((2 : Int) ^ Int.toNat (0 : Int))) * redD (X * X) (x * x)) (redD (X * X) (x * x) * redD (redN (Y * Y) (y * y) * redN d ((2 : Int) ^ Int.toNat (0 : Int))) (redD (Y * Y) (y * y) * redD d ((2 : Int) ^ Int.toNat (0 : Int)))))) : Int) (redD (redN (X * X) (x * x) * redD (redN (Y * Y) (y * y) * redN d ((2 : Int) ^ Int.toNat (0 : Int))) (redD (Y * Y) (y * y) * redD d ((2 : Int) ^ Int.toNat (0 : Int))) + -redN (redN (Y * Y) (y * y) * redN d ((2 : Int) ^ Int.toNat (0 : Int))) (redD (Y * Y) (y * y) * redD d ((2 : Int) ^ Int.toNat (0 : Int))) * redD (X * X) (x * x)) (redD (X * X) (x * x) * redD (redN (Y * Y) (y * y) * redN d ((2 : Int) ^ Int.toNat (0 : Int))) (redD (Y * Y) (y * y) * redD d ((2 : Int) ^ Int.toNat (0 : Int))))) (redN (redN (Y * Y) (y * y) * redN d ((2 : Int) ^ Int.toNat (0 : Int))) (redD (Y * Y) (y * y) * redD d ((2 : Int) ^ Int.toNat (0 : Int)))) (redD (redN (Y * Y) (y * y) * redN d ((2 : Int) ^ Int.toNat (0 : Int))) (redD (Y * Y) (y * y) * redD d ((2 : Int) ^ Int.toNat (0 : Int)))) X x p) e (4 : Nat) (e + (24 : Int))) (0 : Int) + (1 : Int)) ((2 : Int) ^ Int.toNat e) = D ∧ ((201 : Nat) ≤ (201 : Nat) ∨ Int.natAbs (redD (Option.getD (decF (fun p => subG (↑(Int.natAbs (redN (redN (X * X) (x * x) * redD (redN (Y * Y) (y * y) * redN d ((2 : Int) ^ Int.toNat (0 : Int))) (redD (Y * Y) (y * y) * redD d ((2 : Int) ^ Int.toNat (0 : Int))) + -redN (redN (Y * Y) (y * y) * redN d ((2 : Int) ^ Int.toNat (0 : Int))) (redD (Y * Y) (y * y) * redD d ((2 : Int) ^ Int.toNat (0 : Int))) * redD (X * X) (x * x)) (redD (X * X) (x * x) * redD (redN (Y * Y) (y * y) * redN d ((2 : Int) ^ Int.toNat (0 : Int))) (redD (Y * Y) (y * y) * redD d ((2 : Int) ^ Int.toNat (0 : Int)))))) : Int) (redD (redN (X * X) (x * x) * redD (redN (Y * Y) (y * y) * redN d ((2 : Int) ^ Int.toNat (0 : Int))) (redD (Y * Y) (y * y) * redD d ((2 : Int) ^ Int.toNat (0 : Int))) + -redN (redN (Y * Y) (y * y) * redN d ((2 : Int) ^ Int.toNat (0 : Int))) (redD (Y * Y) (y * y) * redD d ((2 : Int) ^ Int.toNat (0 : Int))) * redD (X * X) (x * x)) (redD (X * X) (x * x) * redD (redN (Y * Y) (y * y) * redN d ((2 : Int) ^ Int.toNat (0 : Int))) (redD (Y * Y) (y * y) * redD d ((2 : Int) ^ Int.toNat (0 : Int))))) (redN (redN (Y * Y) (y * y) * redN d ((2 : Int) ^ Int.toNat (0 : Int))) (redD (Y * Y) (y * y) * redD d ((2 : Int) ^ Int.toNat (0 : Int)))) (redD (redN (Y * Y) (y * y) * redN d ((2 : Int) ^ Int.toNat (0 : Int))) (redD (Y * Y) (y * y) * redD d ((2 : Int) ^ Int.toNat (0 : Int)))) X x p) e (4 : Nat) (e + (24 : Int))) (0 : Int) + (1 : Int)) ((2 : Int) ^ Int.toNat e)) < (2 : Nat) ^ (201 : Nat))) ∧ True) ∧ True) ∧ (0 : Int) = E ∧ True else (k + k + o ≤ (1000 : Nat) ∧ l + l + (Int.toNat (0 : Int) + (1 : Nat)) ≤ (1000 : Nat) ∧ n ≤ (1000 : Nat) ∧ m ≤ (1000 : Nat) ∧ (0 : Int) ≤ redN (redN (Y * Y) (y * y) * redN d ((2 : Int) ^ Int.toNat (0 : Int))) (redD (Y * Y) (y * y) * redD d ((2 : Int) ^ Int.toNat (0 : Int))) ∧ (0 : Int) < redD (redN (Y * Y) (y * y) * redN d ((2 : Int) ^ Int.toNat (0 : Int))) (redD (Y * Y) (y * y) * redD d ((2 : Int) ^ Int.toNat (0 : Int))) ∧ (0 : Int) < x ∧ (0 : Int) ≤ e ∧ e ≤ (200 : Int) ∧ Option.isSome (decF (fun p => addG (redN (redN (Y * Y) (y * y) * redN d ((2 : Int) ^ Int.toNat (0 : Int))) (redD (Y * Y) (y * y) * redD d ((2 : Int) ^ Int.toNat (0 : Int)))) (redD (redN (Y * Y) (y * y) * redN d ((2 : Int) ^ Int.toNat (0 : Int))) (redD (Y * Y) (y * y) * redD d ((2 : Int) ^ Int.toNat (0 : Int)))) X x p) e (4 : Nat) (e + (24 : Int))) = true) ∧ (((redN (Option.getD (decF (fun p => addG (redN (redN (Y * Y) (y * y) * redN d ((2 : Int) ^ Int.toNat (0 : Int))) (redD (Y * Y) (y * y) * redD d ((2 : Int) ^ Int.toNat (0 : Int)))) (redD (redN (Y * Y) (y * y) * redN d ((2 : Int) ^ Int.toNat (0 : Int))) (redD (Y * Y) (y * y) * redD d ((2 : Int) ^ Int.toNat (0 : Int)))) X x p) e (4 : Nat) (e + (24 : Int))) (0 : Int)) ((2 : Int) ^ Int.toNat e) = A ∧ ((10000 : Nat) ≤ (10000 : Nat) ∨ Int.natAbs (redN (Option.getD (decF (fun p => addG (redN (redN (Y * Y) (y * y) * redN d ((2 : Int) ^ Int.toNat (0 : Int))) (redD (Y * Y) (y * y) * redD d ((2 : Int) ^ Int.toNat (0 : Int)))) (redD (redN (Y * Y) (y * y) * redN d ((2 : Int) ^ Int.toNat (0 : Int))) (redD (Y * Y) (y * y) * redD d ((2 : Int) ^ Int.toNat (0 : Int)))) X x p) e (4 : Nat) (e + (24 : Int))) (0 : Int)) ((2 : Int) ^ Int.toNat e)) < (2 : Nat) ^ (10000 : Nat))) ∧ (redD (Option.getD (decF (fun p => addG (redN (redN (Y * Y) (y * y) * redN d ((2 : Int) ^ Int.toNat (0 : Int))) (redD (Y * Y) (y * y) * redD d ((2 : Int) ^ Int.toNat (0 : Int)))) (redD (redN (Y * Y) (y * y) * redN d ((2 : Int) ^ Int.toNat (0 : Int))) (redD (Y * Y) (y * y) * redD d ((2 : Int) ^ Int.toNat (0 : Int)))) X x p) e (4 : Nat) (e + (24 : Int))) (0 : Int)) ((2 : Int) ^ Int.toNat e) = B ∧ ((201 : Nat) ≤ (201 : Nat) ∨ Int.natAbs (redD (Option.getD (decF (fun p => addG (redN (redN (Y * Y) (y * y) * redN d ((2 : Int) ^ Int.toNat (0 : Int))) (redD (Y * Y) (y * y) * redD d ((2 : Int) ^ Int.toNat (0 : Int)))) (redD (redN (Y * Y) (y * y) * redN d ((2 : Int) ^ Int.toNat (0 : Int))) (redD (Y * Y) (y * y) * redD d ((2 : Int) ^ Int.toNat (0 : Int)))) X x p) e (4 : Nat) (e + (24 : Int))) (0 : Int)) ((2 : Int) ^ Int.toNat e)) < (2 : Nat) ^ (201 : Nat))) ∧ True) ∧ ((redN (Option.getD (decF (fun p => addG (redN (redN (Y * Y) (y * y) * redN d ((2 : Int) ^ Int.toNat (0 : Int))) (redD (Y * Y) (y * y) * redD d ((2 : Int) ^ Int.toNat (0 : Int)))) (redD (redN (Y * Y) (y * y) * redN d ((2 : Int) ^ Int.toNat (0 : Int))) (redD (Y * Y) (y * y) * redD d ((2 : Int) ^ Int.toNat (0 : Int)))) X x p) e (4 : Nat) (e + (24 : Int))) (0 : Int) + (1 : Int)) ((2 : Int) ^ Int.toNat e) = C ∧ ((10001 : Nat) ≤ (10001 : Nat) ∨ Int.natAbs (redN (Option.getD (decF (fun p => addG (redN (redN (Y * Y) (y * y) * redN d ((2 : Int) ^ Int.toNat (0 : Int))) (redD (Y * Y) (y * y) * redD d ((2 : Int) ^ Int.toNat (0 : Int)))) (redD (redN (Y * Y) (y * y) * redN d ((2 : Int) ^ Int.toNat (0 : Int))) (redD (Y * Y) (y * y) * redD d ((2 : Int) ^ Int.toNat (0 : Int)))) X x p) e (4 : Nat) (e + (24 : Int))) (0 : Int) + (1 : Int)) ((2 : Int) ^ Int.toNat e)) < (2 : Nat) ^ (10001 : Nat))) ∧ (redD (Option.getD (decF (fun p => addG (redN (redN (Y * Y) (y * y) * redN d ((2 : Int) ^ Int.toNat (0 : Int))) (redD (Y * Y) (y * y) * redD d ((2 : Int) ^ Int.toNat (0 : Int)))) (redD (redN (Y * Y) (y * y) * redN d ((2 : Int) ^ Int.toNat (0 : Int))) (redD (Y * Y) (y * y) * redD d ((2 : Int) ^ Int.toNat (0 : Int)))) X x p) e (4 : Nat) (e + (24 : Int))) (0 : Int) + (1 : Int)) ((2 : Int) ^ Int.toNat e) = D ∧ ((201 : Nat) ≤ (201 : Nat) ∨ Int.natAbs (redD (Option.getD (decF (fun p => addG (redN (redN (Y * Y) (y * y) * redN d ((2 : Int) ^ Int.toNat (0 : Int))) (redD (Y * Y) (y * y) * redD d ((2 : Int) ^ Int.toNat (0 : Int)))) (redD (redN (Y * Y) (y * y) * redN d ((2 : Int) ^ Int.toNat (0 : Int))) (redD (Y * Y) (y * y) * redD d ((2 : Int) ^ Int.toNat (0 : Int)))) X x p) e (4 : Nat) (e + (24 : Int))) (0 : Int) + (1 : Int)) ((2 : Int) ^ Int.toNat e)) < (2 : Nat) ^ (201 : Nat))) ∧ True) ∧ True) ∧ (0 : Int) = E ∧ True) = evFn (envZ [c_wrong, c_qsign, c_isqrt, c_sign, c_babs, c_logU, c_qmul, c_grid, c_qsub, c_decQ] z_quad (k_quad X x Y y d e n m k l o)) Tryz.f15 [.st [.big X n, .big x m], .st [.big Y k, .big y l], .big d o, .int .i64 e] (MRes.sat (ivR ⟨A, B, C, D, E⟩ 10000 201 10001 201)) := by kernel_rfl
theorem sgn_eqz (x : Int) : (sgn x == 0) = decide (x = 0) := by
  unfold sgn
  by_cases h : x = 0
  · rw [if_pos h, decide_eq_true h]; rfl
  · rw [if_neg h, decide_eq_false h]
    split <;> rfl
theorem sgn_pm (x : Int) : -1 ≤ sgn x ∧ sgn x ≤ 1 := by
  unfold sgn
  split <;> (try split) <;> omega
theorem p_quad : Good Tryz.f15 s_quad := by
  intro ms p r h hp
  unfold s_quad at h
  split at h
  · rename_i X n x m Y k y l d o e
    simp only [Option.some.injEq, Prod.mk.injEq] at h
    obtain ⟨rfl, rfl⟩ := h
    obtain ⟨h1, h2, h3, h4, h5, h6⟩ : n ≤ 200 ∧ m ≤ 200 ∧ k ≤ 200 ∧ l ≤ 200 ∧ o ≤ 200 ∧ QuadOk X x Y y d e := hp
    refine ⟨envZ [c_wrong, c_qsign, c_isqrt, c_sign, c_babs, c_logU, c_qmul, c_grid, c_qsub, c_decQ] z_quad (k_quad X x Y y d e n m k l o), ?_⟩
    cases hq : quadV X x Y y d e with | mk A B C D E =>
    unfold quadV at hq
    have e0 : decide (e < 0 ∨ 200 < e) = decide (wrongK e) := rfl
    rw [← vc_quad X x Y y d e A B C D E n m k l o, e0, sgn_eqz, sgn_eqz, sgn_eqz, ← qI, ← qJ, ← qM, ← qO]
    have hx := h6.hx
    have hy := h6.hy
    have hcut : ¬ wrongK e → ¬ (X = 0 ∧ Y = 0) → ∃ i, (i = 0 ∧ (e < 0 ∨ 200 < e → False) ∧ (X = 0 ∧ Y = 0 → False)) ∧ (e = e ∧ (0 : Nat) = 0 ∧ (0 : Nat) = 0 ∧ (0 : Nat) = 0 ∧ (0 : Nat) = 0 ∧ True) ∧ ((X = X ∧ (n ≤ n ∨ X.natAbs < 2 ^ n)) ∧ (x = x ∧ (m ≤ m ∨ x.natAbs < 2 ^ m)) ∧ True) ∧
        ((Y = Y ∧ (k ≤ k ∨ Y.natAbs < 2 ^ k)) ∧ (y = y ∧ (l ≤ l ∨ y.natAbs < 2 ^ l)) ∧ True) ∧ (d = d ∧ (o ≤ o ∨ d.natAbs < 2 ^ o)) ∧ ((((0 : Int) = 0 ∧ ((0 : Nat) ≤ 0 ∨ Int.natAbs 0 < 2 ^ 0)) ∧ ((0 : Int) = 0 ∧ ((0 : Nat) ≤ 0 ∨ Int.natAbs 0 < 2 ^ 0)) ∧ True) ∧ (((0 : Int) = 0 ∧ ((0 : Nat) ≤ 0 ∨ Int.natAbs 0 < 2 ^ 0)) ∧ ((0 : Int) = 0 ∧ ((0 : Nat) ≤ 0 ∨ Int.natAbs 0 < 2 ^ 0)) ∧ True) ∧ True) ∧ True := fun q1 q2 => by
      refine ⟨0, ⟨rfl, q1, q2⟩, ?_⟩
      and_intros <;> first | exact True.intro | rfl | exact .inl (Nat.le_refl _)
    refine ⟨?_, ?_⟩
    · by_cases hw : wrongK e
      · rw [if_pos hw] at hq
        simp only [errV, Iv.mk.injEq] at hq
        obtain ⟨rfl, rfl, rfl, rfl, rfl⟩ := hq
        rw [decide_eq_true hw]
        and_intros <;> first | exact True.intro | rfl | exact .inl (Nat.zero_le _)
      · rw [if_neg hw] at hq
        rw [decide_eq_false hw, cond_false]
        by_cases hX : X = 0
        · rw [decide_eq_true hX, cond_true]
          by_cases hY : Y = 0
          · rw [if_pos ⟨hX, hY⟩] at hq
            simp only [errV, Iv.mk.injEq] at hq
            obtain ⟨rfl, rfl, rfl, rfl, rfl⟩ := hq
            rw [decide_eq_true hY]
            and_intros <;> first | exact True.intro | rfl | exact .inl (Nat.zero_le _)
          · rw [decide_eq_false hY, cond_false]
            exact hcut hw fun h => hY h.2
        · rw [decide_eq_false hX, cond_false]
          exact hcut hw fun h => hX h.1
    · rintro i ⟨_, hw, h0⟩
      clear hcut
      have hw' : ¬ wrongK e := hw
      have h0' : ¬ (X = 0 ∧ Y = 0) := h0
      rw [if_neg hw', if_neg h0'] at hq
      have he : 0 ≤ e ∧ e ≤ 200 := by
        have : ¬ (e < 0 ∨ 200 < e) := hw
        omega
      refine ⟨by omega, ?_⟩
      by_cases hd : d < 0
      · rw [if_pos (show badD d from .inl hd)] at hq
        simp only [errV, Iv.mk.injEq] at hq
        obtain ⟨rfl, rfl, rfl, rfl, rfl⟩ := hq
        rw [decide_eq_true hd]
        and_intros <;> first | exact True.intro | rfl | exact .inl (Nat.zero_le _)
      rw [decide_eq_false hd, cond_false]
      by_cases hs : d - (nsq d.natAbs : Int) * nsq d.natAbs = 0
      · rw [if_pos (show badD d from .inr (by omega))] at hq
        simp only [errV, Iv.mk.injEq] at hq
        obtain ⟨rfl, rfl, rfl, rfl, rfl⟩ := hq
        rw [decide_eq_true hs]
        and_intros <;> first | exact True.intro | rfl | exact .inl (Nat.zero_le _)
      rw [decide_eq_false hs, cond_false]
      have hb : ¬ badD d := fun h => by rcases h with h | h <;> omega
      rw [if_neg hb] at hq
      by_cases hY : Y = 0
      · rw [if_pos hY] at hq
        rw [decide_eq_true hY, cond_true, hq]
        exact ⟨⟨by omega, by omega⟩, ⟨by omega, by omega, h6.log hY⟩, ⟨⟨⟨rfl, .inl (by omega)⟩, ⟨rfl, .inl (by omega)⟩, True.intro⟩, ⟨⟨rfl, .inl (by omega)⟩, ⟨rfl, .inl (by omega)⟩, True.intro⟩, True.intro⟩, rfl, True.intro⟩
      rw [if_neg hY] at hq
      rw [decide_eq_false hY, cond_false]
      have ww : IntKind.wrap IntKind.i64 (sgn X * sgn Y) = sgn X * sgn Y := by
        have h1 := sgn_pm X
        have h2 := sgn_pm Y
        have : sgn X * sgn Y = -1 ∨ sgn X * sgn Y = 0 ∨ sgn X * sgn Y = 1 := by
          rcases (show sgn X = -1 ∨ sgn X = 0 ∨ sgn X = 1 by omega) with e1 | e1 | e1 <;> rw [e1] <;> omega
        exact i64w (by omega) (by omega)
      have hyy := Int.mul_pos hy hy
      have hxx := Int.mul_pos hx hx
      have r1 := redD_pos (n := Y * Y) hyy
      have r2 := redD_pos (n := d) (two_pos (Int.toNat 0))
      have r3 := redD_pos (n := X * X) hxx
      have r4 : 0 < qJ Y y d := redD_pos (Int.mul_pos r1 r2)
      have r5 : 0 < qO X x Y y d := redD_pos (Int.mul_pos r3 r4)
      have r6 : 0 ≤ qI Y y d := by
        refine (redN_sign (Int.mul_pos r1 r2)).1 (Int.mul_nonneg ((redN_sign hyy).1 ?_) ((redN_sign (two_pos _)).1 (by omega)))
        rcases Int.lt_trichotomy Y 0 with h | h | h
        · have := Int.mul_pos_of_neg_of_neg h h; omega
        · omega
        · have := Int.mul_pos h h; omega
      rw [ww]
      refine ⟨⟨by omega, by omega, by omega, by omega, hy, hy⟩, ⟨by omega, by omega, by omega⟩, ⟨by omega, by omega, by omega, by decide, r1, r2⟩, ⟨by omega, by omega, by omega, by omega, hx, hx⟩, ⟨by omega, by omega, by omega, by omega, r3, r4⟩, ⟨by omega, by omega⟩, ?_⟩
      by_cases hc : sgn X * sgn Y < 0
      · rw [if_pos hc] at hq
        obtain ⟨s1, s2⟩ := h6.sub hw' hb hY hc
        rw [decide_eq_true hc, cond_true]
        simp only [cellV, Iv.mk.injEq] at hq
        obtain ⟨rfl, rfl, rfl, rfl, rfl⟩ := hq
        exact ⟨⟨by omega, by omega, s1, r5, by omega, by omega, by omega, by omega, r6, r4, hx, he.1, he.2, s2⟩, ⟨⟨⟨rfl, .inl (Nat.le_refl _)⟩, ⟨rfl, .inl (Nat.le_refl _)⟩, True.intro⟩, ⟨⟨rfl, .inl (Nat.le_refl _)⟩, ⟨rfl, .inl (Nat.le_refl _)⟩, True.intro⟩, True.intro⟩, rfl, True.intro⟩
      · rw [if_neg hc] at hq
        have s2 := h6.add hw' hb hY hc
        rw [decide_eq_false hc, cond_false]
        simp only [cellV, Iv.mk.injEq] at hq
        obtain ⟨rfl, rfl, rfl, rfl, rfl⟩ := hq
        exact ⟨⟨by omega, by omega, by omega, by omega, r6, r4, hx, he.1, he.2, s2⟩, ⟨⟨⟨rfl, .inl (Nat.le_refl _)⟩, ⟨rfl, .inl (Nat.le_refl _)⟩, True.intro⟩, ⟨⟨rfl, .inl (Nat.le_refl _)⟩, ⟨rfl, .inl (Nat.le_refl _)⟩, True.intro⟩, True.intro⟩, rfl, True.intro⟩
  · simp at h
def c_quad : Ctr Tryz.prog := ⟨15, s_quad, fun args w => Tryz.call15 args w, fn_ok mix Tryz.func15 s_quad p_quad⟩

end Go.Proofs.YtkokpkhdkbeofaaGreat

namespace Go.Proofs.YtkokpkhdkbeofaaGreat
open Go Go.RowKit

theorem getD_last_cons (x : Int) (l : List Int) (h : l.length ≠ 0) : (x :: l).getD ((x :: l).length - 1) 0 = l.getD (l.length - 1) 0 := by
  cases l with
  | nil => exact absurd rfl h
  | cons y r => simp
theorem limbs_top0 : ∀ (k n : Nat), n < k → n ≠ 0 → (limbs n).getD ((limbs n).length - 1) 0 ≠ 0
  | 0, n, h, _ => by omega
  | k + 1, n, h, h0 => by
    have e : limbs n = ((n % 4294967296 : Nat) : Int) :: limbs (n / 4294967296) := by rw [limbs, if_neg h0]
    rw [e]
    by_cases hz : n / 4294967296 = 0
    · rw [hz, limbs_zero]
      simp only [List.length_cons, List.length_nil, Nat.zero_add, Nat.sub_self, List.getD_cons_zero]
      omega
    · have hne : (limbs (n / 4294967296)).length ≠ 0 := fun e => hz (limbs_eq_nil.1 (List.eq_nil_of_length_eq_zero e))
      rw [getD_last_cons _ _ hne]
      exact limbs_top0 k (n / 4294967296) (by omega) hz
def s_valid1 : FSpec
  | [.big _ n] => some (some (n ≤ 1000000), .ret (.bool true))
  | _ => none
theorem vc_valid1 (z : Int) (n : Nat) : (bif (↑(List.length (limbs (Int.natAbs z))) : Int) == (0 : Int) then bif !decide (z < (0 : Int)) then true = true else bif decide ((↑(List.length (limbs (Int.natAbs z))) : Int) > (0 : Int)) then ((0 : Int) ≤ IntKind.wrap IntKind.i64 ((↑(List.length (limbs (Int.natAbs z))) : Int) - (1 : Int)) ∧ IntKind.wrap IntKind.i64 ((↑(List.length (limbs (Int.natAbs z))) : Int) - (1 : Int)) < (↑(List.length (limbs (Int.natAbs z))) : Int)) ∧ (List.getD (limbs (Int.natAbs z)) (Int.toNat (IntKind.wrap IntKind.i64 ((↑(List.length (limbs (Int.natAbs z))) : Int) - (1 : Int)))) (0 : Int) != (0 : Int)) = true else false = true else bif decide ((↑(List.length (limbs (Int.natAbs z))) : Int) > (0 : Int)) then ((0 : Int) ≤ IntKind.wrap IntKind.i64 ((↑(List.length (limbs (Int.natAbs z))) : Int) - (1 : Int)) ∧ IntKind.wrap IntKind.i64 ((↑(List.length (limbs (Int.natAbs z))) : Int) - (1 : Int)) < (↑(List.length (limbs (Int.natAbs z))) : Int)) ∧ (List.getD (limbs (Int.natAbs z)) (Int.toNat (IntKind.wrap IntKind.i64 ((↑(List.length (limbs (Int.natAbs z))) : Int) - (1 : Int)))) (0 : Int) != (0 : Int)) = true else false = true) = evFn (env [] noAnn) Tryz.f106 [.big z n] (MRes.sat (.ret (.bool true))) := by kernel_rfl
theorem p_valid1 : GoodF Tryz.f106 s_valid1 := by
  intro ms p r h hp hf
  unfold s_valid1 at h
  split at h
  · rename_i z n
    simp only [Option.some.injEq, Prod.mk.injEq] at h
    obtain ⟨rfl, rfl⟩ := h
    have h1 : n ≤ 1000000 := hp
    refine ⟨env [] noAnn, ?_⟩
    rw [← vc_valid1 z n]
    have hlen := lim_len hf.1 (by omega)
    by_cases hz : z = 0
    · subst hz
      rw [show Int.natAbs 0 = 0 from rfl, limbs_zero]
      rfl
    · have h0 : (limbs z.natAbs).length ≠ 0 := fun e => hz (Int.natAbs_eq_zero.1 (limbs_eq_nil.1 (List.eq_nil_of_length_eq_zero e)))
      have hlast := limbs_top0 _ z.natAbs (Nat.lt_succ_self _) (by omega)
      generalize limbs z.natAbs = L at *
      have w : IntKind.wrap IntKind.i64 ((L.length : Int) - 1) = ((L.length - 1 : Nat) : Int) := by rw [i64w (by omega) (by omega)]; omega
      rw [w, show ((L.length : Int) == 0) = false by simpa using h0, decide_eq_true (show (L.length : Int) > 0 by omega), cond_false, cond_true, Int.toNat_natCast]
      exact ⟨by omega, by simpa using hlast⟩
  · simp at h
def c_valid1 : Ctr Tryz.prog := ⟨106, s_valid1, fun args w => Tryz.call106 args w, fn_ok_facts mix Tryz.func106 s_valid1 p_valid1⟩
def s_fnew : FSpec
  | [.big a n, .big d m] => some (some (n ≤ 800000 ∧ m ≤ 800000 ∧ 0 < d), .ret (.tup [ratM (redN a d) (redD a d) n m, .int .i64 0]))
  | _ => none
theorem vc_fnew (a d : Int) (n m : Nat) : (bif sgn d == (0 : Int) then (((0 : Int) = redN a d ∧ ((0 : Nat) ≤ n ∨ Int.natAbs (0 : Int) < (2 : Nat) ^ n)) ∧ ((0 : Int) = redD a d ∧ ((0 : Nat) ≤ m ∨ Int.natAbs (0 : Int) < (2 : Nat) ^ m)) ∧ True) ∧ (4 : Int) = (0 : Int) ∧ True else (n ≤ (900000 : Nat) ∧ m ≤ (900000 : Nat)) ∧ bif decide (sgn d < (0 : Int)) then max n m ≤ (1000000 : Nat) ∧ (n ≤ (900000 : Nat) ∧ max n m ≤ (900000 : Nat) ∧ (-(↑(Int.gcd a d) : Int) = (0 : Int) → False)) ∧ (m ≤ (900000 : Nat) ∧ max n m ≤ (900000 : Nat) ∧ (-(↑(Int.gcd a d) : Int) = (0 : Int) → False)) ∧ ((a / -(↑(Int.gcd a d) : Int) = redN a d ∧ (n ≤ n ∨ Int.natAbs (a / -(↑(Int.gcd a d) : Int)) < (2 : Nat) ^ n)) ∧ (d / -(↑(Int.gcd a d) : Int) = redD a d ∧ (m ≤ m ∨ Int.natAbs (d / -(↑(Int.gcd a d) : Int)) < (2 : Nat) ^ m)) ∧ True) ∧ (0 : Int) = (0 : Int) ∧ True else (n ≤ (900000 : Nat) ∧ max n m ≤ (900000 : Nat) ∧ ((↑(Int.gcd a d) : Int) = (0 : Int) → False)) ∧ (m ≤ (900000 : Nat) ∧ max n m ≤ (900000 : Nat) ∧ ((↑(Int.gcd a d) : Int) = (0 : Int) → False)) ∧ ((a / (↑(Int.gcd a d) : Int) = redN a d ∧ (n ≤ n ∨ Int.natAbs (a / (↑(Int.gcd a d) : Int)) < (2 : Nat) ^ n)) ∧ (d / (↑(Int.gcd a d) : Int) = redD a d ∧ (m ≤ m ∨ Int.natAbs (d / (↑(Int.gcd a d) : Int)) < (2 : Nat) ^ m)) ∧ True) ∧ (0 : Int) = (0 : Int) ∧ True) = evFn (env [c_rsign, c_rgcd, c_rneg, c_rdiv] noAnn) Tryz.f84 [.big a n, .big d m] (MRes.sat (.ret (.tup [ratM (redN a d) (redD a d) n m, .int .i64 0]))) := by kernel_rfl
theorem p_fnew : Good Tryz.f84 s_fnew := by
  intro ms p r h hp
  unfold s_fnew at h
  split at h
  · rename_i a n d m
    simp only [Option.some.injEq, Prod.mk.injEq] at h
    obtain ⟨rfl, rfl⟩ := h
    obtain ⟨h1, h2, h3⟩ : n ≤ 800000 ∧ m ≤ 800000 ∧ 0 < d := hp
    refine ⟨env [c_rsign, c_rgcd, c_rneg, c_rdiv] noAnn, ?_⟩
    rw [← vc_fnew a d n m]
    have hs : sgn d = 1 := by unfold sgn; rw [if_neg (by omega), if_neg (by omega)]
    have hg := gcd_ne (n := a) h3
    rw [hs]
    and_intros <;> first|exact True.intro|rfl|exact .inl (Nat.le_refl _)|omega|exact hg
  · simp at h
def c_fnew : Ctr Tryz.prog := ⟨84, s_fnew, fun args w => Tryz.call84 args w, fn_ok mix Tryz.func84 s_fnew p_fnew⟩
def s_fover : FSpec
  | [.big a n, .big d m] => some (some (n ≤ 800000 ∧ m ≤ 800000 ∧ 0 < d), .ret (ratM (redN a d) (redD a d) n m))
  | _ => none
theorem vc_fover (a d : Int) (n m : Nat) : ((n ≤ (800000 : Nat) ∧ m ≤ (800000 : Nat) ∧ (0 : Int) < d) ∧ (redN a d = redN a d ∧ (n ≤ n ∨ Int.natAbs (redN a d) < (2 : Nat) ^ n)) ∧ (redD a d = redD a d ∧ (m ≤ m ∨ Int.natAbs (redD a d) < (2 : Nat) ^ m)) ∧ True) = evFn (env [c_fnew] noAnn) Tryz.f41 [.big a n, .big d m] (MRes.sat (.ret (ratM (redN a d) (redD a d) n m))) := by kernel_rfl
theorem p_fover : Good Tryz.f41 s_fover := by
  intro ms p r h hp
  unfold s_fover at h
  split at h
  · rename_i a n d m
    simp only [Option.some.injEq, Prod.mk.injEq] at h
    obtain ⟨rfl, rfl⟩ := h
    obtain ⟨h1, h2, h3⟩ : n ≤ 800000 ∧ m ≤ 800000 ∧ 0 < d := hp
    refine ⟨env [c_fnew] noAnn, ?_⟩
    rw [← vc_fover a d n m]
    first | done | (and_intros <;> first | exact True.intro | rfl | exact .inl (Nat.le_refl _) | omega)
  · simp at h
def c_fover : Ctr Tryz.prog := ⟨41, s_fover, fun args w => Tryz.call41 args w, fn_ok mix Tryz.func41 s_fover p_fover⟩
def s_fof : FSpec
  | [.int .i64 a, .int .i64 d] => some (some (-9223372036854775808 ≤ a ∧ a ≤ 9223372036854775807 ∧ 0 < d ∧ d ≤ 9223372036854775807), .ret (ratM (redN a d) (redD a d) 64 64))
  | _ => none
theorem vc_fof (a d : Int) : (((-9223372036854775808 : Int) ≤ a ∧ a ≤ (9223372036854775807 : Int)) ∧ ((-9223372036854775808 : Int) ≤ d ∧ d ≤ (9223372036854775807 : Int)) ∧ ((64 : Nat) ≤ (800000 : Nat) ∧ (64 : Nat) ≤ (800000 : Nat) ∧ (0 : Int) < d) ∧ (redN a d = redN a d ∧ ((64 : Nat) ≤ (64 : Nat) ∨ Int.natAbs (redN a d) < (2 : Nat) ^ (64 : Nat))) ∧ (redD a d = redD a d ∧ ((64 : Nat) ≤ (64 : Nat) ∨ Int.natAbs (redD a d) < (2 : Nat) ^ (64 : Nat))) ∧ True) = evFn (env [c_rof, c_fover] noAnn) Tryz.f19 [.int .i64 a, .int .i64 d] (MRes.sat (.ret (ratM (redN a d) (redD a d) 64 64))) := by kernel_rfl
theorem p_fof : Good Tryz.f19 s_fof := by
  intro ms p r h hp
  unfold s_fof at h
  split at h
  · rename_i a d
    simp only [Option.some.injEq, Prod.mk.injEq] at h
    obtain ⟨rfl, rfl⟩ := h
    obtain ⟨h1, h2, h3, h4⟩ : -9223372036854775808 ≤ a ∧ a ≤ 9223372036854775807 ∧ 0 < d ∧ d ≤ 9223372036854775807 := hp
    refine ⟨env [c_rof, c_fover] noAnn, ?_⟩
    rw [← vc_fof a d]
    first | done | (and_intros <;> first | exact True.intro | rfl | exact .inl (Nat.le_refl _) | omega)
  · simp at h
def c_fof : Ctr Tryz.prog := ⟨19, s_fof, fun args w => Tryz.call19 args w, fn_ok mix Tryz.func19 s_fof p_fof⟩
def s_fwhole : FSpec
  | [.big a n] => some (none, .ret (ratM a 1 n 64))
  | _ => none
theorem vc_fwhole (a : Int) (n : Nat) : (((-9223372036854775808 : Int) ≤ (1 : Int) ∧ (1 : Int) ≤ (9223372036854775807 : Int)) ∧ (a = a ∧ (n ≤ n ∨ Int.natAbs a < (2 : Nat) ^ n)) ∧ ((1 : Int) = (1 : Int) ∧ ((64 : Nat) ≤ (64 : Nat) ∨ Int.natAbs (1 : Int) < (2 : Nat) ^ (64 : Nat))) ∧ True) = evFn (env [c_rof] noAnn) Tryz.f25 [.big a n] (MRes.sat (.ret (ratM a 1 n 64))) := by kernel_rfl
theorem p_fwhole : Good Tryz.f25 s_fwhole := by
  intro ms p r h hp
  unfold s_fwhole at h
  split at h
  · rename_i a n
    simp only [Option.some.injEq, Prod.mk.injEq] at h
    obtain ⟨rfl, rfl⟩ := h
    refine ⟨env [c_rof] noAnn, ?_⟩
    rw [← vc_fwhole a n]
    first | done | (and_intros <;> first | exact True.intro | rfl | exact .inl (Nat.le_refl _) | omega)
  · simp at h
def c_fwhole : Ctr Tryz.prog := ⟨25, s_fwhole, fun args w => Tryz.call25 args w, fn_ok mix Tryz.func25 s_fwhole p_fwhole⟩
def s_ffadd : FSpec
  | [.st [.big a n, .big b m], .st [.big c k, .big d l]] => some (some (n ≤ 200000 ∧ m ≤ 200000 ∧ k ≤ 200000 ∧ l ≤ 200000 ∧ 0 < b ∧ 0 < d), .ret (ratM (redN (a * d + c * b) (b * d)) (redD (a * d + c * b) (b * d)) (max (n + l) (k + m) + 1) (m + l)))
  | _ => none
theorem vc_ffadd (a b c d : Int) (n m k l : Nat) : ((n ≤ (1000000 : Nat) ∧ l ≤ (1000000 : Nat)) ∧ (k ≤ (1000000 : Nat) ∧ m ≤ (1000000 : Nat)) ∧ (n + l ≤ (1000000 : Nat) ∧ k + m ≤ (1000000 : Nat)) ∧ (m ≤ (1000000 : Nat) ∧ l ≤ (1000000 : Nat)) ∧ (max (n + l) (k + m) + (1 : Nat) ≤ (800000 : Nat) ∧ m + l ≤ (800000 : Nat) ∧ (0 : Int) < b * d) ∧ (redN (a * d + c * b) (b * d) = redN (a * d + c * b) (b * d) ∧ (max (n + l) (k + m) + (1 : Nat) ≤ max (n + l) (k + m) + (1 : Nat) ∨ Int.natAbs (redN (a * d + c * b) (b * d)) < (2 : Nat) ^ (max (n + l) (k + m) + (1 : Nat)))) ∧ (redD (a * d + c * b) (b * d) = redD (a * d + c * b) (b * d) ∧ (m + l ≤ m + l ∨ Int.natAbs (redD (a * d + c * b) (b * d)) < (2 : Nat) ^ (m + l))) ∧ True) = evFn (env [c_rmul, c_radd, c_fover] noAnn) Tryz.f35 [.st [.big a n, .big b m], .st [.big c k, .big d l]] (MRes.sat (.ret (ratM (redN (a * d + c * b) (b * d)) (redD (a * d + c * b) (b * d)) (max (n + l) (k + m) + 1) (m + l)))) := by kernel_rfl
theorem p_ffadd : Good Tryz.f35 s_ffadd := by
  intro ms p r h hp
  unfold s_ffadd at h
  split at h
  · rename_i a n b m c k d l
    simp only [Option.some.injEq, Prod.mk.injEq] at h
    obtain ⟨rfl, rfl⟩ := h
    obtain ⟨h1, h2, h3, h4, h5, h6⟩ : n ≤ 200000 ∧ m ≤ 200000 ∧ k ≤ 200000 ∧ l ≤ 200000 ∧ 0 < b ∧ 0 < d := hp
    refine ⟨env [c_rmul, c_radd, c_fover] noAnn, ?_⟩
    rw [← vc_ffadd a b c d n m k l]
    have hb := Int.mul_pos h5 h6
    and_intros <;> first|exact True.intro|rfl|exact .inl (Nat.le_refl _)|omega|exact hb
  · simp at h
def c_ffadd : Ctr Tryz.prog := ⟨35, s_ffadd, fun args w => Tryz.call35 args w, fn_ok mix Tryz.func35 s_ffadd p_ffadd⟩
def s_ffneg : FSpec
  | [.st [.big a n, .big b m]] => some (some (n ≤ 900000), .ret (ratM (-a) b n m))
  | _ => none
theorem vc_ffneg (a b : Int) (n m : Nat) : (n ≤ (1000000 : Nat) ∧ (-a = -a ∧ (n ≤ n ∨ Int.natAbs (-a) < (2 : Nat) ^ n)) ∧ (b = b ∧ (m ≤ m ∨ Int.natAbs b < (2 : Nat) ^ m)) ∧ True) = evFn (env [c_rneg] noAnn) Tryz.f33 [.st [.big a n, .big b m]] (MRes.sat (.ret (ratM (-a) b n m))) := by kernel_rfl
theorem p_ffneg : Good Tryz.f33 s_ffneg := by
  intro ms p r h hp
  unfold s_ffneg at h
  split at h
  · rename_i a n b m
    simp only [Option.some.injEq, Prod.mk.injEq] at h
    obtain ⟨rfl, rfl⟩ := h
    have h1 : n ≤ 900000 := hp
    refine ⟨env [c_rneg] noAnn, ?_⟩
    rw [← vc_ffneg a b n m]
    first | done | (and_intros <;> first | exact True.intro | rfl | exact .inl (Nat.le_refl _) | omega)
  · simp at h
def c_ffneg : Ctr Tryz.prog := ⟨33, s_ffneg, fun args w => Tryz.call33 args w, fn_ok mix Tryz.func33 s_ffneg p_ffneg⟩
def s_ffsub : FSpec
  | [.st [.big a n, .big b m], .st [.big c k, .big d l]] => some (some (n ≤ 200000 ∧ m ≤ 200000 ∧ k ≤ 200000 ∧ l ≤ 200000 ∧ 0 < b ∧ 0 < d), .ret (ratM (redN (a * d + -c * b) (b * d)) (redD (a * d + -c * b) (b * d)) (max (n + l) (k + m) + 1) (m + l)))
  | _ => none
theorem vc_ffsub (a b c d : Int) (n m k l : Nat) : (k ≤ (900000 : Nat) ∧ (n ≤ (200000 : Nat) ∧ m ≤ (200000 : Nat) ∧ k ≤ (200000 : Nat) ∧ l ≤ (200000 : Nat) ∧ (0 : Int) < b ∧ (0 : Int) < d) ∧ (redN (a * d + -c * b) (b * d) = redN (a * d + -c * b) (b * d) ∧ (max (n + l) (k + m) + (1 : Nat) ≤ max (n + l) (k + m) + (1 : Nat) ∨ Int.natAbs (redN (a * d + -c * b) (b * d)) < (2 : Nat) ^ (max (n + l) (k + m) + (1 : Nat)))) ∧ (redD (a * d + -c * b) (b * d) = redD (a * d + -c * b) (b * d) ∧ (m + l ≤ m + l ∨ Int.natAbs (redD (a * d + -c * b) (b * d)) < (2 : Nat) ^ (m + l))) ∧ True) = evFn (env [c_ffneg, c_ffadd] noAnn) Tryz.f27 [.st [.big a n, .big b m], .st [.big c k, .big d l]] (MRes.sat (.ret (ratM (redN (a * d + -c * b) (b * d)) (redD (a * d + -c * b) (b * d)) (max (n + l) (k + m) + 1) (m + l)))) := by kernel_rfl
theorem p_ffsub : Good Tryz.f27 s_ffsub := by
  intro ms p r h hp
  unfold s_ffsub at h
  split at h
  · rename_i a n b m c k d l
    simp only [Option.some.injEq, Prod.mk.injEq] at h
    obtain ⟨rfl, rfl⟩ := h
    obtain ⟨h1, h2, h3, h4, h5, h6⟩ : n ≤ 200000 ∧ m ≤ 200000 ∧ k ≤ 200000 ∧ l ≤ 200000 ∧ 0 < b ∧ 0 < d := hp
    refine ⟨env [c_ffneg, c_ffadd] noAnn, ?_⟩
    rw [← vc_ffsub a b c d n m k l]
    first | done | (and_intros <;> first | exact True.intro | rfl | exact .inl (Nat.le_refl _) | omega)
  · simp at h
def c_ffsub : Ctr Tryz.prog := ⟨27, s_ffsub, fun args w => Tryz.call27 args w, fn_ok mix Tryz.func27 s_ffsub p_ffsub⟩
def s_ffmul : FSpec
  | [.st [.big a n, .big b m], .st [.big c k, .big d l]] => some (some (n ≤ 200000 ∧ m ≤ 200000 ∧ k ≤ 200000 ∧ l ≤ 200000 ∧ 0 < b ∧ 0 < d), .ret (ratM (redN (a * c) (b * d)) (redD (a * c) (b * d)) (n + k) (m + l)))
  | _ => none
theorem vc_ffmul (a b c d : Int) (n m k l : Nat) : ((n ≤ (1000000 : Nat) ∧ k ≤ (1000000 : Nat)) ∧ (m ≤ (1000000 : Nat) ∧ l ≤ (1000000 : Nat)) ∧ (n + k ≤ (800000 : Nat) ∧ m + l ≤ (800000 : Nat) ∧ (0 : Int) < b * d) ∧ (redN (a * c) (b * d) = redN (a * c) (b * d) ∧ (n + k ≤ n + k ∨ Int.natAbs (redN (a * c) (b * d)) < (2 : Nat) ^ (n + k))) ∧ (redD (a * c) (b * d) = redD (a * c) (b * d) ∧ (m + l ≤ m + l ∨ Int.natAbs (redD (a * c) (b * d)) < (2 : Nat) ^ (m + l))) ∧ True) = evFn (env [c_rmul, c_fover] noAnn) Tryz.f23 [.st [.big a n, .big b m], .st [.big c k, .big d l]] (MRes.sat (.ret (ratM (redN (a * c) (b * d)) (redD (a * c) (b * d)) (n + k) (m + l)))) := by kernel_rfl
theorem p_ffmul : Good Tryz.f23 s_ffmul := by
  intro ms p r h hp
  unfold s_ffmul at h
  split at h
  · rename_i a n b m c k d l
    simp only [Option.some.injEq, Prod.mk.injEq] at h
    obtain ⟨rfl, rfl⟩ := h
    obtain ⟨h1, h2, h3, h4, h5, h6⟩ : n ≤ 200000 ∧ m ≤ 200000 ∧ k ≤ 200000 ∧ l ≤ 200000 ∧ 0 < b ∧ 0 < d := hp
    refine ⟨env [c_rmul, c_fover] noAnn, ?_⟩
    rw [← vc_ffmul a b c d n m k l]
    have hb := Int.mul_pos h5 h6
    and_intros <;> first|exact True.intro|rfl|exact .inl (Nat.le_refl _)|omega|exact hb
  · simp at h
def c_ffmul : Ctr Tryz.prog := ⟨23, s_ffmul, fun args w => Tryz.call23 args w, fn_ok mix Tryz.func23 s_ffmul p_ffmul⟩
def s_ffcmp : FSpec
  | [.st [.big a n, .big b m], .st [.big c k, .big d l]] => some (some (n ≤ 200000 ∧ m ≤ 200000 ∧ k ≤ 200000 ∧ l ≤ 200000), .ret (.int .i64 (icmp (a * d) (c * b))))
  | _ => none
theorem vc_ffcmp (a b c d : Int) (n m k l : Nat) : ((n ≤ (1000000 : Nat) ∧ l ≤ (1000000 : Nat)) ∧ (k ≤ (1000000 : Nat) ∧ m ≤ (1000000 : Nat)) ∧ (n + l ≤ (1000000 : Nat) ∧ k + m ≤ (1000000 : Nat)) ∧ icmp (a * d) (c * b) = icmp (a * d) (c * b)) = evFn (env [c_rmul, c_rcmp] noAnn) Tryz.f22 [.st [.big a n, .big b m], .st [.big c k, .big d l]] (MRes.sat (.ret (.int .i64 (icmp (a * d) (c * b))))) := by kernel_rfl
theorem p_ffcmp : Good Tryz.f22 s_ffcmp := by
  intro ms p r h hp
  unfold s_ffcmp at h
  split at h
  · rename_i a n b m c k d l
    simp only [Option.some.injEq, Prod.mk.injEq] at h
    obtain ⟨rfl, rfl⟩ := h
    obtain ⟨h1, h2, h3, h4⟩ : n ≤ 200000 ∧ m ≤ 200000 ∧ k ≤ 200000 ∧ l ≤ 200000 := hp
    refine ⟨env [c_rmul, c_rcmp] noAnn, ?_⟩
    rw [← vc_ffcmp a b c d n m k l]
    first | done | (and_intros <;> first | exact True.intro | rfl | exact .inl (Nat.le_refl _) | omega)
  · simp at h
def c_ffcmp : Ctr Tryz.prog := ⟨22, s_ffcmp, fun args w => Tryz.call22 args w, fn_ok mix Tryz.func22 s_ffcmp p_ffcmp⟩
def s_ffsame : FSpec
  | [.st [.big a n, .big b m], .st [.big c k, .big d l]] => some (some (n ≤ 200000 ∧ m ≤ 200000 ∧ k ≤ 200000 ∧ l ≤ 200000), .ret (.bool (decide (a = c ∧ b = d))))
  | _ => none
theorem vc_ffsame (a b c d : Int) (n m k l : Nat) : ((n ≤ (1000000 : Nat) ∧ k ≤ (1000000 : Nat)) ∧ bif decide (a = c) then (m ≤ (1000000 : Nat) ∧ l ≤ (1000000 : Nat)) ∧ decide (b = d) = decide (a = c ∧ b = d) else false = decide (a = c ∧ b = d)) = evFn (env [c_rsame] noAnn) Tryz.f26 [.st [.big a n, .big b m], .st [.big c k, .big d l]] (MRes.sat (.ret (.bool (decide (a = c ∧ b = d))))) := by kernel_rfl
theorem p_ffsame : Good Tryz.f26 s_ffsame := by
  intro ms p r h hp
  unfold s_ffsame at h
  split at h
  · rename_i a n b m c k d l
    simp only [Option.some.injEq, Prod.mk.injEq] at h
    obtain ⟨rfl, rfl⟩ := h
    obtain ⟨h1, h2, h3, h4⟩ : n ≤ 200000 ∧ m ≤ 200000 ∧ k ≤ 200000 ∧ l ≤ 200000 := hp
    refine ⟨env [c_rsame] noAnn, ?_⟩
    rw [← vc_ffsame a b c d n m k l]
    refine ⟨by omega, ?_⟩
    by_cases h : a = c
    · rw [decide_eq_true h]
      refine ⟨by omega, ?_⟩
      by_cases h' : b = d <;> simp [h, h']
    · rw [decide_eq_false h]
      exact (decide_eq_false fun e => h e.1).symm
  · simp at h
def c_ffsame : Ctr Tryz.prog := ⟨26, s_ffsame, fun args w => Tryz.call26 args w, fn_ok mix Tryz.func26 s_ffsame p_ffsame⟩
def s_fvalid : FSpec
  | [.st [.big a n, .big b m]] => some (some (n ≤ 200000 ∧ m ≤ 200000), .ret (.bool (decide (0 < b ∧ Int.gcd a b = 1))))
  | _ => none
theorem vc_fvalid (a b : Int) (n m : Nat) : (n ≤ (1000000 : Nat) ∧ m ≤ (1000000 : Nat) ∧ bif decide (sgn b > (0 : Int)) then (n ≤ (900000 : Nat) ∧ m ≤ (900000 : Nat)) ∧ ((-9223372036854775808 : Int) ≤ (1 : Int) ∧ (1 : Int) ≤ (9223372036854775807 : Int)) ∧ (max n m ≤ (1000000 : Nat) ∧ (64 : Nat) ≤ (1000000 : Nat)) ∧ decide ((↑(Int.gcd a b) : Int) = (1 : Int)) = decide ((0 : Int) < b ∧ Int.gcd a b = (1 : Nat)) else false = decide ((0 : Int) < b ∧ Int.gcd a b = (1 : Nat))) = evFn (env [c_valid1, c_rsign, c_rgcd, c_rof, c_rsame] noAnn) Tryz.f73 [.st [.big a n, .big b m]] (MRes.sat (.ret (.bool (decide (0 < b ∧ Int.gcd a b = 1))))) := by kernel_rfl
theorem p_fvalid : Good Tryz.f73 s_fvalid := by
  intro ms p r h hp
  unfold s_fvalid at h
  split at h
  · rename_i a n b m
    simp only [Option.some.injEq, Prod.mk.injEq] at h
    obtain ⟨rfl, rfl⟩ := h
    obtain ⟨h1, h2⟩ : n ≤ 200000 ∧ m ≤ 200000 := hp
    refine ⟨env [c_valid1, c_rsign, c_rgcd, c_rof, c_rsame] noAnn, ?_⟩
    rw [← vc_fvalid a b n m]
    have hs : decide (sgn b > 0) = decide (0 < b) := decide_eq_decide.2 (by unfold sgn; split <;> (try split) <;> omega)
    rw [hs]
    refine ⟨by omega, by omega, ?_⟩
    by_cases h : 0 < b
    · rw [decide_eq_true h]
      refine ⟨by omega, by omega, by omega, decide_eq_decide.2 ?_⟩
      omega
    · rw [decide_eq_false h]
      exact (decide_eq_false fun e => h e.1).symm
  · simp at h
def c_fvalid : Ctr Tryz.prog := ⟨73, s_fvalid, fun args w => Tryz.call73 args w, fn_ok mix Tryz.func73 s_fvalid p_fvalid⟩
def s_fmade : FSpec
  | [.st [.st [.bool s, .ws l], .st [.bool t, .ws r]], .int .i64 k] => some (some (Wd l ∧ Wd r ∧ 0 ≤ k ∧ k ≤ 1000 ∧ l.length < 9223372036854775808 ∧ r.length < 9223372036854775808), .ret (ratM (redN (madeI s l k.toNat) (if (madeI t r k.toNat).natAbs = 0 then 1 else (madeI t r k.toNat).natAbs)) (redD (madeI s l k.toNat) (if (madeI t r k.toNat).natAbs = 0 then 1 else (madeI t r k.toNat).natAbs)) (32 * k.toNat) (32 * k.toNat + 64)))
  | _ => none
theorem vc_fmade (s t : Bool) (l r : List Int) (k : Int) : (((∀ (x : Int), x ∈ r → (0 : Int) ≤ x ∧ x < (4294967296 : Int)) ∧ (0 : Int) ≤ k ∧ k ≤ (1000 : Int) ∧ List.length r < (9223372036854775808 : Nat)) ∧ (32 : Nat) * Int.toNat k ≤ (1000000 : Nat) ∧ bif sgn (↑(Int.natAbs (madeI t r (Int.toNat k))) : Int) == (0 : Int) then ((-9223372036854775808 : Int) ≤ (1 : Int) ∧ (1 : Int) ≤ (9223372036854775807 : Int)) ∧ ((∀ (x : Int), x ∈ l → (0 : Int) ≤ x ∧ x < (4294967296 : Int)) ∧ (0 : Int) ≤ k ∧ k ≤ (1000 : Int) ∧ List.length l < (9223372036854775808 : Nat)) ∧ ((32 : Nat) * Int.toNat k ≤ (800000 : Nat) ∧ (64 : Nat) ≤ (800000 : Nat) ∧ (0 : Int) < (1 : Int)) ∧ (redN (madeI s l (Int.toNat k)) (1 : Int) = redN (madeI s l (Int.toNat k)) (if Int.natAbs (madeI t r (Int.toNat k)) = (0 : Nat) then (1 : Int) else (↑(Int.natAbs (madeI t r (Int.toNat k))) : Int)) ∧ ((32 : Nat) * Int.toNat k ≤ (32 : Nat) * Int.toNat k ∨ Int.natAbs (redN (madeI s l (Int.toNat k)) (1 : Int)) < (2 : Nat) ^ ((32 : Nat) * Int.toNat k))) ∧ (redD (madeI s l (Int.toNat k)) (1 : Int) = redD (madeI s l (Int.toNat k)) (if Int.natAbs (madeI t r (Int.toNat k)) = (0 : Nat) then (1 : Int) else (↑(Int.natAbs (madeI t r (Int.toNat k))) : Int)) ∧ ((64 : Nat) ≤ (32 : Nat) * Int.toNat k + (64 : Nat) ∨ Int.natAbs (redD (madeI s l (Int.toNat k)) (1 : Int)) < (2 : Nat) ^ ((32 : Nat) * Int.toNat k + (64 : Nat)))) ∧ True else ((∀ (x : Int), x ∈ l → (0 : Int) ≤ x ∧ x < (4294967296 : Int)) ∧ (0 : Int) ≤ k ∧ k ≤ (1000 : Int) ∧ List.length l < (9223372036854775808 : Nat)) ∧ ((32 : Nat) * Int.toNat k ≤ (800000 : Nat) ∧ (32 : Nat) * Int.toNat k ≤ (800000 : Nat) ∧ (0 : Int) < (↑(Int.natAbs (madeI t r (Int.toNat k))) : Int)) ∧ (redN (madeI s l (Int.toNat k)) (↑(Int.natAbs (madeI t r (Int.toNat k))) : Int) = redN (madeI s l (Int.toNat k)) (if Int.natAbs (madeI t r (Int.toNat k)) = (0 : Nat) then (1 : Int) else (↑(Int.natAbs (madeI t r (Int.toNat k))) : Int)) ∧ ((32 : Nat) * Int.toNat k ≤ (32 : Nat) * Int.toNat k ∨ Int.natAbs (redN (madeI s l (Int.toNat k)) (↑(Int.natAbs (madeI t r (Int.toNat k))) : Int)) < (2 : Nat) ^ ((32 : Nat) * Int.toNat k))) ∧ (redD (madeI s l (Int.toNat k)) (↑(Int.natAbs (madeI t r (Int.toNat k))) : Int) = redD (madeI s l (Int.toNat k)) (if Int.natAbs (madeI t r (Int.toNat k)) = (0 : Nat) then (1 : Int) else (↑(Int.natAbs (madeI t r (Int.toNat k))) : Int)) ∧ ((32 : Nat) * Int.toNat k ≤ (32 : Nat) * Int.toNat k + (64 : Nat) ∨ Int.natAbs (redD (madeI s l (Int.toNat k)) (↑(Int.natAbs (madeI t r (Int.toNat k))) : Int)) < (2 : Nat) ^ ((32 : Nat) * Int.toNat k + (64 : Nat)))) ∧ True) = evFn (env [c_rMade, c_rabs, c_rsign, c_rof, c_fover] noAnn) Tryz.f10 [.st [.st [.bool s, .ws l], .st [.bool t, .ws r]], .int .i64 k] (MRes.sat (.ret (ratM (redN (madeI s l k.toNat) (if (madeI t r k.toNat).natAbs = 0 then 1 else (madeI t r k.toNat).natAbs)) (redD (madeI s l k.toNat) (if (madeI t r k.toNat).natAbs = 0 then 1 else (madeI t r k.toNat).natAbs)) (32 * k.toNat) (32 * k.toNat + 64)))) := by kernel_rfl
theorem p_fmade : Good Tryz.f10 s_fmade := by
  intro ms p r h hp
  unfold s_fmade at h
  split at h
  · rename_i s l t r k
    simp only [Option.some.injEq, Prod.mk.injEq] at h
    obtain ⟨rfl, rfl⟩ := h
    obtain ⟨h1, h2, h3, h4, h5, h6⟩ : Wd l ∧ Wd r ∧ 0 ≤ k ∧ k ≤ 1000 ∧ l.length < 9223372036854775808 ∧ r.length < 9223372036854775808 := hp
    refine ⟨env [c_rMade, c_rabs, c_rsign, c_rof, c_fover] noAnn, ?_⟩
    rw [← vc_fmade s t l r k]
    rw [sgn_eqz]
    by_cases h : (madeI t r k.toNat).natAbs = 0
    · rw [decide_eq_true (show ((madeI t r k.toNat).natAbs : Int) = 0 by omega), if_pos h]
      and_intros <;> first|exact True.intro|rfl|exact .inl (Nat.le_refl _)|omega|exact h2|exact h1|exact .inl (by omega)
    · rw [decide_eq_false (show ¬ ((madeI t r k.toNat).natAbs : Int) = 0 by omega), if_neg h]
      and_intros <;> first|exact True.intro|rfl|exact .inl (Nat.le_refl _)|omega|exact h2|exact h1|exact .inl (by omega)
  · simp at h
def c_fmade : Ctr Tryz.prog := ⟨10, s_fmade, fun args w => Tryz.call10 args w, fn_ok mix Tryz.func10 s_fmade p_fmade⟩
/-- The same where the result is only read. -/
def s_rleftW : FSpec := fun ms => match s_rleft ms with
  | some (p, l) => some (p, .ret (.ws l))
  | none => none
theorem rleft_ok : ∀ (S : Nat → Prop) (w : World) (ms : List MV) (args : Array Value) (p : OProp) (r : MRes), s_rleftW ms = some (p, r) → p.holds → (∀ b, S b → b < w.heap.size) → GW S w →
    RepAll (Ctx.args S) w ms args.toList → Calls Tryz.prog 75 args w fun e w' => Ext w w' ∧ r.holds (Ctx.res S) w' e := by
  intro S w ms args p r hs hp hS hG hR
  unfold s_rleftW at hs
  cases h : s_rleft ms with
  | none => rw [h] at hs; simp at hs
  | some q =>
    obtain ⟨p', l⟩ := q
    rw [h] at hs
    simp only [Option.some.injEq, Prod.mk.injEq] at hs
    obtain ⟨rfl, rfl⟩ := hs
    refine (evNFn_ok mix Tryz.func75 s_rleft p_rleft S w ms args p' l h hp hS hG hR).mono fun e w' ⟨hext, b, arr, ty, cap, he, hb, hh, hsz, hcap, hl⟩ => ⟨hext, ?_⟩
    subst he
    show Rep (Ctx.res S) w' (.ws l) _
    refine (rep1_iff rfl).2 ((rep1_cell rfl (by simp)).2 ⟨_, rfl, some ⟨b, 0, none⟩, cap, rfl, hcap, fun _ => ⟨b, 0, rfl, fun q => ?_, arr, ty, (0, 0), hh, fun j v hv => ?_⟩⟩)
    · have := hS b q; omega
    · simp only [List.getElem?_map, Option.map_eq_some_iff] at hv
      obtain ⟨x, hx, rfl⟩ := hv
      rw [Nat.zero_add]
      exact hl j x hx
def c_rleftW : Ctr Tryz.prog := ⟨75, s_rleftW, fun args w => Tryz.call75 args w, rleft_ok⟩
def s_rshl : FSpec
  | [.big a n, .int .i64 k] => some (some (n ≤ 100000 ∧ 0 ≤ k ∧ k ≤ 100000), .ret (.big (a * 2 ^ k.toNat) (n + k.toNat)))
  | _ => none
theorem vc_rshl (a : Int) (n k : Nat) : (((∀ (x : Int), x ∈ limbs (Int.natAbs a) → (0 : Int) ≤ x ∧ x < (4294967296 : Int)) ∧ (0 : Int) ≤ (↑k : Int) ∧ (↑k : Int) ≤ (1000000000 : Int) ∧ List.length (limbs (Int.natAbs a)) ≤ (1000000000 : Nat)) ∧ ((∀ (x : Int), x ∈ digs (Int.toNat (↑k : Int) / (32 : Nat) + List.length (limbs (Int.natAbs a)) + (1 : Nat)) (wv (limbs (Int.natAbs a)) * (2 : Int) ^ Int.toNat (↑k : Int)) → (0 : Int) ≤ x ∧ x < (4294967296 : Int)) ∧ List.length (digs (Int.toNat (↑k : Int) / (32 : Nat) + List.length (limbs (Int.natAbs a)) + (1 : Nat)) (wv (limbs (Int.natAbs a)) * (2 : Int) ^ Int.toNat (↑k : Int))) ≤ (1000000000 : Nat)) ∧ sg (decide (a < (0 : Int))) (wv (digs (Int.toNat (↑k : Int) / (32 : Nat) + List.length (limbs (Int.natAbs a)) + (1 : Nat)) (wv (limbs (Int.natAbs a)) * (2 : Int) ^ Int.toNat (↑k : Int)))) = a * (2 : Int) ^ k ∧ ((32 : Nat) * List.length (digs (Int.toNat (↑k : Int) / (32 : Nat) + List.length (limbs (Int.natAbs a)) + (1 : Nat)) (wv (limbs (Int.natAbs a)) * (2 : Int) ^ Int.toNat (↑k : Int))) ≤ n + k ∨ Int.natAbs (sg (decide (a < (0 : Int))) (wv (digs (Int.toNat (↑k : Int) / (32 : Nat) + List.length (limbs (Int.natAbs a)) + (1 : Nat)) (wv (limbs (Int.natAbs a)) * (2 : Int) ^ Int.toNat (↑k : Int))))) < (2 : Nat) ^ (n + k))) = evFn (env [c_rleftW, c_rmade] noAnn) Tryz.f20 [.big a n, .int .i64 k] (MRes.sat (.ret (.big (a * 2 ^ k) (n + k)))) := by kernel_rfl
theorem p_rshl : GoodF Tryz.f20 s_rshl := by
  intro ms p r h hp hf
  unfold s_rshl at h
  split at h
  · rename_i a n k0
    simp only [Option.some.injEq, Prod.mk.injEq] at h
    obtain ⟨rfl, rfl⟩ := h
    obtain ⟨h1, h2, h3⟩ : n ≤ 100000 ∧ 0 ≤ k0 ∧ k0 ≤ 100000 := hp
    have ha : a.natAbs < 2 ^ n := hf.1
    obtain ⟨k, rfl⟩ := Int.eq_ofNat_of_zero_le h2
    refine ⟨env [c_rleftW, c_rmade] noAnn, ?_⟩
    rw [show ((k : Int)).toNat = k from rfl, ← vc_rshl a n k, show ((k : Int)).toNat = k from rfl, wv_limbs]
    have hlen := lim_len ha (by omega)
    have hA := wv_lt (limbs_wd a.natAbs)
    rw [wv_limbs] at hA
    have hp2 : (2 : Int) ^ k ≤ 4294967296 ^ (k / 32 + 1) := by
      rw [show (4294967296 : Int) = 2 ^ 32 from rfl, ← Int.pow_mul]
      have h5 : 2 ^ k ≤ 2 ^ (32 * (k / 32 + 1)) := Nat.pow_le_pow_right (by omega) (by omega)
      have e5 : ∀ j : Nat, (2 : Int) ^ j = ((2 ^ j : Nat) : Int) := fun j => by rw [Int.natCast_pow]; rfl
      rw [e5, e5]
      exact Int.ofNat_le.2 h5
    have hlt : (a.natAbs : Int) * 2 ^ k < 4294967296 ^ (k / 32 + (limbs a.natAbs).length + 1) := by
      rw [show k / 32 + (limbs a.natAbs).length + 1 = (limbs a.natAbs).length + (k / 32 + 1) by omega, Int.pow_add]
      have h5 := two_pos k
      have h6 : (a.natAbs : Int) * 2 ^ k < 4294967296 ^ (limbs a.natAbs).length * 2 ^ k := Int.mul_lt_mul_of_pos_right hA h5
      have h7 : (4294967296 : Int) ^ (limbs a.natAbs).length * 2 ^ k ≤ 4294967296 ^ (limbs a.natAbs).length * 4294967296 ^ (k / 32 + 1) := Int.mul_le_mul_of_nonneg_left hp2 (Int.pow_nonneg (by omega))
      omega
    rw [wv_digs _ _ (Int.mul_nonneg (by omega) (Int.le_of_lt (two_pos k))) hlt, digs_len]
    have hsg : sg (decide (a < 0)) ((a.natAbs : Int) * 2 ^ k) = a * 2 ^ k := by
      by_cases h : a < 0
      · rw [decide_eq_true h]
        show -((a.natAbs : Int) * 2 ^ k) = _
        rw [← Int.neg_mul, show -(a.natAbs : Int) = a by omega]
      · rw [decide_eq_false h]
        show ((a.natAbs : Int) * 2 ^ k) = _
        rw [show (a.natAbs : Int) = a by omega]
    rw [hsg]
    refine ⟨⟨fun x hx => limbs_wd _ x hx, by omega, by omega, by omega⟩, ⟨fun x hx => digs_wd _ _ x hx, by omega⟩, rfl, .inr ?_⟩
    rw [Int.natAbs_mul, two_pow_nat, Nat.pow_add]
    exact Nat.mul_lt_mul_of_pos_right ha (Nat.two_pow_pos k)
  · simp at h
def c_rshl : Ctr Tryz.prog := ⟨20, s_rshl, fun args w => Tryz.call20 args w, fn_ok_facts mix Tryz.func20 s_rshl p_rshl⟩
def s_fsamei : FSpec
  | [.st [.st [.big a n1, .big b n2], .st [.big c n3, .big d n4]], .st [.st [.big e n5, .big f n6], .st [.big g n7, .big h' n8]]] => some (some (n1 ≤ 200000 ∧ n2 ≤ 200000 ∧ n3 ≤ 200000 ∧ n4 ≤ 200000 ∧ n5 ≤ 200000 ∧ n6 ≤ 200000 ∧ n7 ≤ 200000 ∧ n8 ≤ 200000), .ret (.bool (decide (a = e ∧ b = f ∧ c = g ∧ d = h'))))
  | _ => none
theorem vc_fsamei (a b c d e f g h' : Int) (n1 n2 n3 n4 n5 n6 n7 n8 : Nat) : ((n1 ≤ (200000 : Nat) ∧ n2 ≤ (200000 : Nat) ∧ n5 ≤ (200000 : Nat) ∧ n6 ≤ (200000 : Nat)) ∧ bif decide (a = e ∧ b = f) then (n3 ≤ (200000 : Nat) ∧ n4 ≤ (200000 : Nat) ∧ n7 ≤ (200000 : Nat) ∧ n8 ≤ (200000 : Nat)) ∧ decide (c = g ∧ d = h') = decide (a = e ∧ b = f ∧ c = g ∧ d = h') else false = decide (a = e ∧ b = f ∧ c = g ∧ d = h')) = evFn (env [c_ffsame] noAnn) Tryz.f17 [.st [.st [.big a n1, .big b n2], .st [.big c n3, .big d n4]], .st [.st [.big e n5, .big f n6], .st [.big g n7, .big h' n8]]] (MRes.sat (.ret (.bool (decide (a = e ∧ b = f ∧ c = g ∧ d = h'))))) := by kernel_rfl
theorem p_fsamei : Good Tryz.f17 s_fsamei := by
  intro ms p r h hp
  unfold s_fsamei at h
  split at h
  · rename_i a n1 b n2 c n3 d n4 e n5 f n6 g n7 h' n8
    simp only [Option.some.injEq, Prod.mk.injEq] at h
    obtain ⟨rfl, rfl⟩ := h
    obtain ⟨h1, h2, h3, h4, h5, h6, h7, h8⟩ : n1 ≤ 200000 ∧ n2 ≤ 200000 ∧ n3 ≤ 200000 ∧ n4 ≤ 200000 ∧ n5 ≤ 200000 ∧ n6 ≤ 200000 ∧ n7 ≤ 200000 ∧ n8 ≤ 200000 := hp
    refine ⟨env [c_ffsame] noAnn, ?_⟩
    rw [← vc_fsamei a b c d e f g h' n1 n2 n3 n4 n5 n6 n7 n8]
    refine ⟨by omega, ?_⟩
    by_cases q : a = e ∧ b = f
    · rw [decide_eq_true q]
      refine ⟨by omega, ?_⟩
      by_cases q' : c = g ∧ d = h' <;> simp [q, q']
    · rw [decide_eq_false q]
      exact (decide_eq_false fun e => q ⟨e.1, e.2.1⟩).symm
  · simp at h
def c_fsamei : Ctr Tryz.prog := ⟨17, s_fsamei, fun args w => Tryz.call17 args w, fn_ok mix Tryz.func17 s_fsamei p_fsamei⟩
def s_lvalid : FSpec
  | [.st [.st [.big a n, .big b m], .st [.big c k, .big d l]]] => some (some (n ≤ 200000 ∧ m ≤ 200000 ∧ k ≤ 200000 ∧ l ≤ 200000), .ret (.bool (decide ((0 < b ∧ Int.gcd a b = 1) ∧ (0 < d ∧ Int.gcd c d = 1) ∧ a * d ≤ c * b))))
  | _ => none
theorem vc_lvalid (a b c d : Int) (n m k l : Nat) : ((n ≤ (200000 : Nat) ∧ m ≤ (200000 : Nat)) ∧ bif decide ((0 : Int) < b ∧ Int.gcd a b = (1 : Nat)) then (k ≤ (200000 : Nat) ∧ l ≤ (200000 : Nat)) ∧ bif decide ((0 : Int) < d ∧ Int.gcd c d = (1 : Nat)) then (n ≤ (200000 : Nat) ∧ m ≤ (200000 : Nat) ∧ k ≤ (200000 : Nat) ∧ l ≤ (200000 : Nat)) ∧ decide (icmp (a * d) (c * b) ≤ (0 : Int)) = decide (((0 : Int) < b ∧ Int.gcd a b = (1 : Nat)) ∧ ((0 : Int) < d ∧ Int.gcd c d = (1 : Nat)) ∧ a * d ≤ c * b) else false = decide (((0 : Int) < b ∧ Int.gcd a b = (1 : Nat)) ∧ ((0 : Int) < d ∧ Int.gcd c d = (1 : Nat)) ∧ a * d ≤ c * b) else false = decide (((0 : Int) < b ∧ Int.gcd a b = (1 : Nat)) ∧ ((0 : Int) < d ∧ Int.gcd c d = (1 : Nat)) ∧ a * d ≤ c * b)) = evFn (env [c_fvalid, c_ffcmp] noAnn) Tryz.f18 [.st [.st [.big a n, .big b m], .st [.big c k, .big d l]]] (MRes.sat (.ret (.bool (decide ((0 < b ∧ Int.gcd a b = 1) ∧ (0 < d ∧ Int.gcd c d = 1) ∧ a * d ≤ c * b))))) := by kernel_rfl
theorem p_lvalid : Good Tryz.f18 s_lvalid := by
  intro ms p r h hp
  unfold s_lvalid at h
  split at h
  · rename_i a n b m c k d l
    simp only [Option.some.injEq, Prod.mk.injEq] at h
    obtain ⟨rfl, rfl⟩ := h
    obtain ⟨h1, h2, h3, h4⟩ : n ≤ 200000 ∧ m ≤ 200000 ∧ k ≤ 200000 ∧ l ≤ 200000 := hp
    refine ⟨env [c_fvalid, c_ffcmp] noAnn, ?_⟩
    rw [← vc_lvalid a b c d n m k l]
    refine ⟨by omega, ?_⟩
    rw [icmp_le]
    by_cases q : 0 < b ∧ Int.gcd a b = 1
    · rw [decide_eq_true q, cond_true]
      refine ⟨by omega, ?_⟩
      by_cases q' : 0 < d ∧ Int.gcd c d = 1
      · rw [decide_eq_true q', cond_true]
        exact ⟨by omega, decide_eq_decide.2 ⟨fun e => ⟨q, q', e⟩, fun e => e.2.2⟩⟩
      · rw [decide_eq_false q', cond_false]
        exact (decide_eq_false fun e => q' e.2.1).symm
    · rw [decide_eq_false q, cond_false]
      exact (decide_eq_false fun e => q e.1).symm
  · simp at h
def c_lvalid : Ctr Tryz.prog := ⟨18, s_lvalid, fun args w => Tryz.call18 args w, fn_ok mix Tryz.func18 s_lvalid p_lvalid⟩
def s_lis : FSpec
  | [.st [.st [.big a n, .big b m], .st [.big c k, .big d l]], .int .i64 x, .int .i64 y, .int .i64 z, .int .i64 w] => some (some (n ≤ 200000 ∧ m ≤ 200000 ∧ k ≤ 200000 ∧ l ≤ 200000 ∧ -9223372036854775808 ≤ x ∧ x ≤ 9223372036854775807 ∧ 0 < y ∧ y ≤ 9223372036854775807 ∧ -9223372036854775808 ≤ z ∧ z ≤ 9223372036854775807 ∧ 0 < w ∧ w ≤ 9223372036854775807), .ret (.bool (decide (a = redN x y ∧ b = redD x y ∧ c = redN z w ∧ d = redD z w))))
  | _ => none
theorem vc_lis (a b c d x y z w : Int) (n m k l : Nat) : (((-9223372036854775808 : Int) ≤ x ∧ x ≤ (9223372036854775807 : Int) ∧ (0 : Int) < y ∧ y ≤ (9223372036854775807 : Int)) ∧ ((-9223372036854775808 : Int) ≤ z ∧ z ≤ (9223372036854775807 : Int) ∧ (0 : Int) < w ∧ w ≤ (9223372036854775807 : Int)) ∧ (n ≤ (200000 : Nat) ∧ m ≤ (200000 : Nat) ∧ k ≤ (200000 : Nat) ∧ l ≤ (200000 : Nat) ∧ (64 : Nat) ≤ (200000 : Nat) ∧ (64 : Nat) ≤ (200000 : Nat) ∧ (64 : Nat) ≤ (200000 : Nat) ∧ (64 : Nat) ≤ (200000 : Nat)) ∧ decide (a = redN x y ∧ b = redD x y ∧ c = redN z w ∧ d = redD z w) = decide (a = redN x y ∧ b = redD x y ∧ c = redN z w ∧ d = redD z w)) = evFn (env [c_fof, c_fsamei] noAnn) Tryz.f38 [.st [.st [.big a n, .big b m], .st [.big c k, .big d l]], .int .i64 x, .int .i64 y, .int .i64 z, .int .i64 w] (MRes.sat (.ret (.bool (decide (a = redN x y ∧ b = redD x y ∧ c = redN z w ∧ d = redD z w))))) := by kernel_rfl
theorem p_lis : Good Tryz.f38 s_lis := by
  intro ms p r h hp
  unfold s_lis at h
  split at h
  · rename_i a n b m c k d l x y z w
    simp only [Option.some.injEq, Prod.mk.injEq] at h
    obtain ⟨rfl, rfl⟩ := h
    obtain ⟨h1, h2, h3, h4, h5, h6, h7, h8, h9, h10, h11, h12⟩ : n ≤ 200000 ∧ m ≤ 200000 ∧ k ≤ 200000 ∧ l ≤ 200000 ∧ -9223372036854775808 ≤ x ∧ x ≤ 9223372036854775807 ∧ 0 < y ∧ y ≤ 9223372036854775807 ∧ -9223372036854775808 ≤ z ∧ z ≤ 9223372036854775807 ∧ 0 < w ∧ w ≤ 9223372036854775807 := hp
    refine ⟨env [c_fof, c_fsamei] noAnn, ?_⟩
    rw [← vc_lis a b c d x y z w n m k l]
    first | done | (and_intros <;> first | exact True.intro | rfl | exact .inl (Nat.le_refl _) | omega)
  · simp at h
def c_lis : Ctr Tryz.prog := ⟨38, s_lis, fun args w => Tryz.call38 args w, fn_ok mix Tryz.func38 s_lis p_lis⟩

end Go.Proofs.YtkokpkhdkbeofaaGreat
