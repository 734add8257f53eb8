/-
  CycleSmall, whatever the description and the place are.
-/
import Derived.Test.YtnfmjlhkknndhaaGreatW4
import Derived.Test.YtnfmjlhkknndhaaGreatW6

/-
 Plain facts: equivalent reduced forms lie in one cycle (Conway's river).
-/
namespace Go.Proofs.YtnfmjlhkknndhaaGreat
open Go Go.RowKit
structure Ed (D : Int) (f : Fm) : Prop where
 h : f.disc = D
 a : 0 < f.A
 c : f.C < 0
def mL : Mx := ⟨1, 0, 1, 1⟩
def mR : Mx := ⟨1, 1, 0, 1⟩
def riv (f : Fm) : Fm := if 0 < f.A + f.B + f.C then f.app mL else f.app mR
def rivN : Nat → Fm → Fm
 | 0, f => f
 | n + 1, f => rivN n (riv f)
theorem rivN_succ : ∀ (n : Nat) (f : Fm), rivN (n + 1) f = riv (rivN n f)
 | 0, _ => rfl
 | n + 1, f => rivN_succ n (riv f)
theorem app_L (f : Fm) : f.app mL = ⟨f.A + f.B + f.C, f.B + 2 * f.C, f.C⟩ := by
 apply Fm.ext' <;> simp only [Fm.app, Fm.val, mL] <;> grind
theorem app_R (f : Fm) : f.app mR = ⟨f.A, f.B + 2 * f.A, f.A + f.B + f.C⟩ := by
 apply Fm.ext' <;> simp only [Fm.app, Fm.val, mR] <;> grind
theorem sq_not {D s x : Int} (hd : Dis D s) (h : x * x = D) : False := by
 have hs := hd.pos
 have hlo := hd.lo
 have hhi := hd.hi
 rw [← h, ← sq_abs x] at hlo hhi
 have hx : (0 : Int) ≤ x.natAbs := by omega
 generalize (x.natAbs : Int) = y at *
 rcases Int.lt_or_le s y with q | q
 ·have := Int.mul_le_mul (show s + 1 ≤ y by omega) (show s + 1 ≤ y by omega) (by omega) hx
  omega
 ·have := Int.mul_le_mul q q hx (by omega)
  omega
theorem sum_ne {D s : Int} (hd : Dis D s) {f : Fm} (h : f.disc = D) : f.A + f.B + f.C ≠ 0 := fun e => by
 refine sq_not hd (x := f.A - f.C) ?_
 rw [← h]
 unfold Fm.disc
 rw [show f.B = -(f.A + f.C) by omega]
 grind
theorem det_L : mL.det = 1 := rfl
theorem det_R : mR.det = 1 := rfl
theorem riv_ed {D s : Int} (hd : Dis D s) {f : Fm} (h : Ed D f) : Ed D (riv f) := by
 have hn := sum_ne hd h.h
 unfold riv
 split
 ·refine ⟨by rw [app_disc, det_L, h.h]; omega, ?_, ?_⟩
  ·rw [app_L]; assumption
  ·rw [app_L]; exact h.c
 ·refine ⟨by rw [app_disc, det_R, h.h]; omega, ?_, ?_⟩
  ·rw [app_R]; exact h.a
  ·rw [app_R]; show f.A + f.B + f.C < 0; omega
theorem orient {f : Fm} (ha : 0 < f.A) (hc : f.C < 0) {p q r t : Int} (hp : 0 ≤ p) (hq : 0 ≤ q) (hr : 0 ≤ r) (ht : 0 ≤ t) (hu : 0 < f.val p r) (hv : f.val q t < 0) : 0 < p * t - q * r := by
 rcases Int.lt_or_le 0 (p * t - q * r) with h | h
 ·exact h
 exfalso
 have hX : 0 ≤ p * t := Int.mul_nonneg hp ht
 have hY : 0 ≤ q * r := Int.mul_nonneg hq hr
 have hm : 0 ≤ r * t := Int.mul_nonneg hr ht
 have e1 : f.val p r * (t * t) = f.val (p * t) (r * t) := by simp only [Fm.val]; grind
 have e2 : f.val q t * (r * r) = f.val (q * r) (r * t) := by simp only [Fm.val]; grind
 have ht0 : t ≠ 0 := fun e => by
  subst e
  have : f.val q 0 = f.A * (q * q) := by simp only [Fm.val]; grind
  have h2 := Int.mul_nonneg (Int.le_of_lt ha) (Int.mul_nonneg hq hq)
  omega
 have hF1 : 0 < f.val (p * t) (r * t) := by
  rw [← e1]
  exact Int.mul_pos hu (Int.mul_pos (by omega) (by omega))
 have hF2 : f.val (q * r) (r * t) ≤ 0 := by
  rw [← e2]
  exact Int.mul_nonpos_of_nonpos_of_nonneg (Int.le_of_lt hv) (Int.mul_nonneg hr hr)
 have key : (p * t) * f.val (q * r) (r * t) - (q * r) * f.val (p * t) (r * t) = (q * r - p * t) * (f.A * ((p * t) * (q * r)) - f.C * ((r * t) * (r * t))) := by
  simp only [Fm.val]; grind
 have hm2 : 0 ≤ -f.C * ((r * t) * (r * t)) := Int.mul_nonneg (by omega) (Int.mul_nonneg hm hm)
 have hxy : 0 ≤ f.A * ((p * t) * (q * r)) := Int.mul_nonneg (Int.le_of_lt ha) (Int.mul_nonneg hX hY)
 have hk : 0 ≤ (q * r - p * t) * (f.A * ((p * t) * (q * r)) - f.C * ((r * t) * (r * t))) := by
  refine Int.mul_nonneg (by omega) ?_
  rw [Int.neg_mul] at hm2
  omega
 generalize p * t = X at *
 generalize q * r = Y at *
 generalize r * t = m at *
 have h3 : X * f.val Y m ≤ 0 := Int.mul_nonpos_of_nonneg_of_nonpos hX hF2
 have h4 : 0 ≤ Y * f.val X m := Int.mul_nonneg hY (Int.le_of_lt hF1)
 have h5 : Y * f.val X m = 0 := by omega
 have h6 : Y = 0 := by
  rcases Int.mul_eq_zero.1 h5 with h | h
  ·exact h
  ·omega
 have h7 : X = 0 := by omega
 rw [h7] at hF1
 have e3 : f.val 0 m = f.C * (m * m) := by simp only [Fm.val]; grind
 rw [e3] at hF1
 rw [Int.neg_mul] at hm2
 omega
theorem val_nonneg {f : Fm} (hA : 0 ≤ f.A) (hB : 0 ≤ f.B) (hC : 0 ≤ f.C) {x y : Int} (hx : 0 ≤ x) (hy : 0 ≤ y) : 0 ≤ f.val x y := by
 have h1 := Int.mul_nonneg hA (Int.mul_nonneg hx hx)
 have h2 := Int.mul_nonneg hB (Int.mul_nonneg hx hy)
 have h3 := Int.mul_nonneg hC (Int.mul_nonneg hy hy)
 unfold Fm.val
 omega
theorem val_nonpos {f : Fm} (hA : f.A ≤ 0) (hB : f.B ≤ 0) (hC : f.C ≤ 0) {x y : Int} (hx : 0 ≤ x) (hy : 0 ≤ y) : f.val x y ≤ 0 := by
 have h1 := Int.mul_nonpos_of_nonpos_of_nonneg hA (Int.mul_nonneg hx hx)
 have h2 := Int.mul_nonpos_of_nonpos_of_nonneg hB (Int.mul_nonneg hx hy)
 have h3 := Int.mul_nonpos_of_nonpos_of_nonneg hC (Int.mul_nonneg hy hy)
 unfold Fm.val
 omega
structure Nn (m : Mx) : Prop where
 a : 0 ≤ m.a
 b : 0 ≤ m.b
 c : 0 ≤ m.c
 d : 0 ≤ m.d
theorem nn_split {p q r t : Int} (hp : 0 ≤ p) (hq : 0 ≤ q) (hr : 0 ≤ r) (ht : 0 ≤ t) (h : p * t - q * r = 1) : (p = 1 ∧ q = 0 ∧ r = 0 ∧ t = 1) ∨ (r ≤ p ∧ t ≤ q ∧ 0 < r + t) ∨ (p ≤ r ∧ q ≤ t ∧ 0 < p + q) := by
 have hrt : 0 < r + t := by
  rcases Int.lt_or_le 0 (r + t) with k | k
  ·exact k
  ·have e1 : r = 0 := by omega
   have e2 : t = 0 := by omega
   subst e1 e2
   simp at h
 have hpq : 0 < p + q := by
  rcases Int.lt_or_le 0 (p + q) with k | k
  ·exact k
  ·have e1 : p = 0 := by omega
   have e2 : q = 0 := by omega
   subst e1 e2
   simp at h
 rcases Int.lt_or_le p r with k | k
 ·refine .inr (.inr ⟨by omega, ?_, hpq⟩)
  rcases Int.lt_or_le t q with j | j
  ·exfalso
   have h1 := Int.mul_le_mul (show p ≤ r by omega) (show t ≤ q by omega) ht hr
   rw [Int.mul_comm r q] at h1
   omega
  ·exact j
 ·rcases Int.lt_or_le q t with j | j
  ·have e : p * t - q * r = t * (p - r) + r * (t - q) := by grind
   rcases Int.lt_or_le r p with i | i
   ·have h1 : t * 1 ≤ t * (p - r) := Int.mul_le_mul_of_nonneg_left (by omega) ht
    have h2 := Int.mul_nonneg hr (show 0 ≤ t - q by omega)
    have e1 : t = 1 := by omega
    have e2 : q = 0 := by omega
    subst e1 e2
    have e3 : r = 0 := by omega
    subst e3
    exact .inl ⟨by omega, rfl, rfl, rfl⟩
   ·exact .inr (.inr ⟨by omega, by omega, hpq⟩)
  ·exact .inr (.inl ⟨k, j, hrt⟩)
theorem river {D s : Int} (hd : Dis D s) : ∀ (k : Nat) (f : Fm) (m : Mx), Ed D f → Nn m → m.det = 1 → (m.a + m.b + m.c + m.d).toNat ≤ k → 0 < (f.app m).A → (f.app m).C < 0 → ∃ n, f.app m = rivN n f
 | 0, f, m, _, hn, hdet, hk, _, _ => by
  exfalso
  have h1 := hn.a
  have h2 := hn.b
  have h3 := hn.c
  have h4 := hn.d
  have e1 : m.a = 0 := by omega
  have e2 : m.b = 0 := by omega
  unfold Mx.det at hdet
  rw [e1, e2] at hdet
  simp at hdet
 | k + 1, f, m, he, hn, hdet, hk, hA, hC => by
  have h1 := hn.a
  have h2 := hn.b
  have h3 := hn.c
  have h4 := hn.d
  have hne := sum_ne hd he.h
  rcases nn_split h1 h2 h3 h4 hdet with ⟨e1, e2, e3, e4⟩ | ⟨k1, k2, k3⟩ | ⟨k1, k2, k3⟩
  ·have e : m = Mx.one := by cases m; simp only at e1 e2 e3 e4; subst e1 e2 e3 e4; rfl
   exact ⟨0, by rw [e, app_one]; rfl⟩
  ·have em : m = mR.mul ⟨m.a - m.c, m.b - m.d, m.c, m.d⟩ := by
    cases m
    simp only [Mx.mul, mR, Mx.mk.injEq]
    refine ⟨?_, ?_, ?_, ?_⟩ <;> omega
   have hn' : Nn ⟨m.a - m.c, m.b - m.d, m.c, m.d⟩ := ⟨by simp only; omega, by simp only; omega, h3, h4⟩
   have hdet' : Mx.det ⟨m.a - m.c, m.b - m.d, m.c, m.d⟩ = 1 := by rw [em, det_mul, det_R] at hdet; omega
   rw [em, ← app_mul] at hA hC ⊢
   have hneg : ¬ 0 < f.A + f.B + f.C := fun hp => by
    have := val_nonneg (f := f.app mR) (by rw [app_R]; exact Int.le_of_lt he.a) (by rw [app_R]; show 0 ≤ f.B + 2 * f.A; have := he.a; have := he.c; omega) (by rw [app_R]; exact Int.le_of_lt hp) (x := m.b - m.d) (y := m.d) (by omega) h4
    have e : ((f.app mR).app ⟨m.a - m.c, m.b - m.d, m.c, m.d⟩).C = (f.app mR).val (m.b - m.d) m.d := rfl
    omega
   have er : riv f = f.app mR := if_neg hneg
   have hed := riv_ed hd he
   rw [er] at hed
   obtain ⟨n, hn2⟩ := river hd k (f.app mR) _ hed hn' hdet' (by simp only; omega) hA hC
   exact ⟨n + 1, by rw [hn2]; show _ = rivN n (riv f); rw [er]⟩
  ·have em : m = mL.mul ⟨m.a, m.b, m.c - m.a, m.d - m.b⟩ := by
    cases m
    simp only [Mx.mul, mL, Mx.mk.injEq]
    refine ⟨?_, ?_, ?_, ?_⟩ <;> omega
   have hn' : Nn ⟨m.a, m.b, m.c - m.a, m.d - m.b⟩ := ⟨h1, h2, by simp only; omega, by simp only; omega⟩
   have hdet' : Mx.det ⟨m.a, m.b, m.c - m.a, m.d - m.b⟩ = 1 := by rw [em, det_mul, det_L] at hdet; omega
   rw [em, ← app_mul] at hA hC ⊢
   have hpos : 0 < f.A + f.B + f.C := by
    rcases Int.lt_or_le 0 (f.A + f.B + f.C) with q | q
    ·exact q
    ·exfalso
     have := val_nonpos (f := f.app mL) (by rw [app_L]; exact q) (by rw [app_L]; show f.B + 2 * f.C ≤ 0; have := he.a; have := he.c; omega) (by rw [app_L]; exact Int.le_of_lt he.c) (x := m.a) (y := m.c - m.a) h1 (by omega)
     have e : ((f.app mL).app ⟨m.a, m.b, m.c - m.a, m.d - m.b⟩).A = (f.app mL).val m.a (m.c - m.a) := rfl
     omega
   have er : riv f = f.app mL := if_pos hpos
   have hed := riv_ed hd he
   rw [er] at hed
   obtain ⟨n, hn2⟩ := river hd k (f.app mL) _ hed hn' hdet' (by simp only; omega) hA hC
   exact ⟨n + 1, by rw [hn2]; show _ = rivN n (riv f); rw [er]⟩
def Mx.neg (m : Mx) : Mx := ⟨-m.a, -m.b, -m.c, -m.d⟩
theorem app_neg (f : Fm) (m : Mx) : f.app m.neg = f.app m := by
 apply Fm.ext' <;> simp only [Fm.app, Fm.val, Mx.neg] <;> grind
theorem det_neg (m : Mx) : m.neg.det = m.det := by simp only [Mx.det, Mx.neg]; grind
theorem quad_nn {f : Fm} (ha : 0 < f.A) (hc : f.C < 0) {p q r t : Int} (h1 : 0 ≤ p * r) (h2 : 0 ≤ q * t) (hdet : p * t - q * r = 1) (hu : 0 < f.val p r) (hv : f.val q t < 0) :
  (0 ≤ p ∧ 0 ≤ q ∧ 0 ≤ r ∧ 0 ≤ t) ∨ (p ≤ 0 ∧ q ≤ 0 ∧ r ≤ 0 ∧ t ≤ 0) := by
 have e1 : f.val p.natAbs r.natAbs = f.val p r := by
  have : (p.natAbs : Int) * r.natAbs = p * r := by rw [← Int.natCast_mul, ← Int.natAbs_mul]; omega
  unfold Fm.val
  rw [sq_abs, sq_abs, this]
 have e2 : f.val q.natAbs t.natAbs = f.val q t := by
  have : (q.natAbs : Int) * t.natAbs = q * t := by rw [← Int.natCast_mul, ← Int.natAbs_mul]; omega
  unfold Fm.val
  rw [sq_abs, sq_abs, this]
 have ho := orient ha hc (p := p.natAbs) (q := q.natAbs) (r := r.natAbs) (t := t.natAbs) (by omega) (by omega) (by omega) (by omega) (by rw [e1]; exact hu) (by rw [e2]; exact hv)
 have e3 : (p.natAbs : Int) * t.natAbs = ((p * t).natAbs : Int) := by rw [Int.natAbs_mul, Int.natCast_mul]
 have e4 : (q.natAbs : Int) * r.natAbs = ((q * r).natAbs : Int) := by rw [Int.natAbs_mul, Int.natCast_mul]
 rw [e3, e4] at ho
 have hpt : 0 < p * t := by omega
 have sg : ∀ x y : Int, 0 < x → 0 ≤ x * y → 0 ≤ y := fun x y hx hy => by
  rcases Int.lt_or_le y 0 with k | k
  ·have := Int.mul_neg_of_pos_of_neg hx k; omega
  ·exact k
 have sg' : ∀ x y : Int, x < 0 → 0 ≤ x * y → y ≤ 0 := fun x y hx hy => by
  rcases Int.lt_or_le 0 y with k | k
  ·have := Int.mul_neg_of_neg_of_pos hx k; omega
  ·exact k
 rcases Int.lt_trichotomy p 0 with hp | hp | hp
 ·have ht := sg' p t hp (by omega)
  have ht0 : t ≠ 0 := fun e => by subst e; omega
  exact .inr ⟨by omega, sg' t q (by omega) (by rw [Int.mul_comm]; exact h2), sg' p r hp h1, ht⟩
 ·subst hp; omega
 ·have ht := sg p t hp (by omega)
  have ht0 : t ≠ 0 := fun e => by subst e; omega
  exact .inl ⟨by omega, sg t q (by omega) (by rw [Int.mul_comm]; exact h2), sg p r hp h1, ht⟩
theorem down {D s : Int} (hd : Dis D s) {f g : Fm} {m : Mx} (hf : Ed D f) (hg : Ed D g) (hdet : m.det = 1) (h : f.app m = g) (hn : Nn m ∨ Nn m.neg) : ∃ n, g = rivN n f := by
 rcases hn with hn | hn
 ·obtain ⟨n, e⟩ := river hd _ f m hf hn hdet (Nat.le_refl _) (by rw [h]; exact hg.a) (by rw [h]; exact hg.c)
  exact ⟨n, by rw [← h, e]⟩
 ·obtain ⟨n, e⟩ := river hd _ f m.neg hf hn (by rw [det_neg, hdet]) (Nat.le_refl _) (by rw [app_neg, h]; exact hg.a) (by rw [app_neg, h]; exact hg.c)
  exact ⟨n, by rw [← h, ← app_neg, e]⟩
theorem edges {D s : Int} (hd : Dis D s) {f g : Fm} (hf : Ed D f) (hg : Ed D g) {m : Mx} (hdet : m.det = 1) (h : f.app m = g) : (∃ n, g = rivN n f) ∨ (∃ n, f = rivN n g) := by
 have hA : 0 < f.val m.a m.c := by have := hg.a; rw [← h] at this; exact this
 have hC : f.val m.b m.d < 0 := by have := hg.c; rw [← h] at this; exact this
 have hdt : m.a * m.d - m.b * m.c = 1 := hdet
 have hback : g.app m.inv = f := by rw [← h]; exact app_inv hdet
 have hxy : 0 ≤ (m.a * m.c) * (m.b * m.d) := by
  have e : (m.a * m.c) * (m.b * m.d) = (m.a * m.d) * (m.b * m.c) := by grind
  rw [e]
  generalize m.a * m.d = x at *
  generalize m.b * m.c = y at *
  have : x = y + 1 := by omega
  subst this
  rcases Int.lt_or_le y 0 with q | q
  ·exact Int.mul_nonneg_of_nonpos_of_nonpos (by omega) (by omega)
  ·exact Int.mul_nonneg (by omega) q
 have hq : (0 ≤ m.a * m.c ∧ 0 ≤ m.b * m.d) ∨ (m.a * m.c ≤ 0 ∧ m.b * m.d ≤ 0) := by
  rcases Int.lt_trichotomy (m.a * m.c) 0 with k | k | k
  ·rcases Int.lt_or_le 0 (m.b * m.d) with j | j
   ·have := Int.mul_neg_of_neg_of_pos k j; omega
   ·exact .inr ⟨by omega, j⟩
  ·rcases Int.lt_or_le 0 (m.b * m.d) with j | j
   ·exact .inl ⟨by omega, by omega⟩
   ·exact .inr ⟨by omega, j⟩
  ·rcases Int.lt_or_le (m.b * m.d) 0 with j | j
   ·have := Int.mul_neg_of_pos_of_neg k j; omega
   ·exact .inl ⟨by omega, j⟩
 rcases hq with ⟨h1, h2⟩ | ⟨h1, h2⟩
 ·refine .inl (down hd hf hg hdet h ?_)
  rcases quad_nn hf.a hf.c h1 h2 hdt hA hC with ⟨a, b, c, d⟩ | ⟨a, b, c, d⟩
  ·exact .inl ⟨a, b, c, d⟩
  ·exact .inr ⟨by simp only [Mx.neg]; omega, by simp only [Mx.neg]; omega, by simp only [Mx.neg]; omega, by simp only [Mx.neg]; omega⟩
 ·refine .inr (down hd hg hf (by rw [det_inv, hdet]) hback ?_)
  have e1 : Fm.val ⟨f.A, -f.B, f.C⟩ m.a (-m.c) = f.val m.a m.c := by simp only [Fm.val]; grind
  have e2 : Fm.val ⟨f.A, -f.B, f.C⟩ (-m.b) m.d = f.val m.b m.d := by simp only [Fm.val]; grind
  rcases quad_nn (f := ⟨f.A, -f.B, f.C⟩) hf.a hf.c (p := m.a) (q := -m.b) (r := -m.c) (t := m.d) (by rw [Int.mul_neg]; omega) (by rw [Int.neg_mul]; omega) (by rw [Int.neg_mul_neg]; exact hdt) (by rw [e1]; exact hA) (by rw [e2]; exact hC) with ⟨a, b, c, d⟩ | ⟨a, b, c, d⟩
  ·exact .inl ⟨d, b, c, a⟩
  ·exact .inr ⟨by simp only [Mx.neg, Mx.inv]; omega, by simp only [Mx.neg, Mx.inv]; omega, by simp only [Mx.neg, Mx.inv]; omega, by simp only [Mx.neg, Mx.inv]; omega⟩
theorem win {D s : Int} (hd : Dis D s) {h k : Fm} (hh : RD D s h) (hk : RD D s k) (eA : h.A = k.A) {j : Int} (eB : h.B = k.B + 2 * (k.A * j)) : h = k := by
 have h1 := hh.r.b1
 have h2 := hh.r.lo
 have h3 := hk.r.b1
 have h4 := hk.r.lo
 have hA := (disc_ne hd hk.h).1
 rw [eA] at h2
 have hj : j = 0 := by
  have e1 : (k.A * j).natAbs < k.A.natAbs := by omega
  rw [Int.natAbs_mul] at e1
  rcases Nat.eq_zero_or_pos j.natAbs with q | q
  ·omega
  ·have := Nat.le_mul_of_pos_right k.A.natAbs q
   omega
 subst hj
 have eB' : h.B = k.B := by rw [Int.mul_zero] at eB; omega
 have d1 := hh.h
 have d2 := hk.h
 unfold Fm.disc at d1 d2
 rw [eA, eB', Int.mul_assoc] at d1
 rw [Int.mul_assoc] at d2
 have e3 : k.A * h.C = k.A * k.C := by omega
 exact Fm.ext' eA eB' (Int.eq_of_mul_eq_mul_left hA e3)
theorem rho_uniq {D s : Int} (hd : Dis D s) {q h : Fm} (hq : RD D s q) (hh : RD D s h) (eA : h.A = q.C) {j : Int} (eB : h.B = -q.B + 2 * (q.C * j)) : h = rho s q := by
 have hC := (disc_ne hd hq.h).2
 have e := rhoK_mul (s := s) hC
 refine win hd hh (hq.rho hd) eA (j := j - rhoK s q) ?_
 show h.B = rhoB s q.B q.C + 2 * (q.C * (j - rhoK s q))
 rw [Int.mul_assoc] at e
 rw [Int.mul_sub, eB]
 omega
def Ph (s : Int) (f G : Fm) : Prop :=
 (∃ m, 0 < (rhoN s m f).A ∧ G.C = (rhoN s m f).C ∧ (∃ k, G.B = (rhoN s m f).B + 2 * (G.C * k)) ∧ (G = rhoN s m f ∨ 0 < G.A - G.B + G.C)) ∨
 (∃ m, (rhoN s m f).A < 0 ∧ G.A = (rhoN s m f).C ∧ (∃ k, G.B = -(rhoN s m f).B + 2 * (G.A * k)) ∧ G.A - G.B + G.C < 0)
theorem ph_end {D s : Int} (hd : Dis D s) {f : Fm} (hf : RD D s f) {G : Fm} (hG : RD D s G) (h : Ph s f G) : ∃ m, G = rhoN s m f := by
 rcases h with ⟨m, h1, h2, ⟨k, h3⟩, h4⟩ | ⟨m, h1, h2, ⟨k, h3⟩, h4⟩
 ·rcases h4 with h4 | h4
  ·exact ⟨m, h4⟩
  ·have := ((red_iff hd hG.h).1 hG.r).2.2
   omega
 ·refine ⟨m + 1, ?_⟩
  rw [rhoN_succ]
  exact rho_uniq hd (RD.rhoN hd m hf) hG h2 (j := k) (by rw [h3, h2])
theorem ph_step {D s : Int} (hd : Dis D s) {f : Fm} (hf : RD D s f) {G : Fm} (he : Ed D G) (h : Ph s f G) : Ph s f (riv G) := by
 have hn := sum_ne hd he.h
 have hA := he.a
 have hC := he.c
 unfold riv
 rcases h with ⟨m, h1, h2, ⟨k, h3⟩, h4⟩ | ⟨m, h1, h2, ⟨k, h3⟩, h4⟩
 ·have hq := RD.rhoN hd m hf
  split
  ·rw [app_L]
   exact .inl ⟨m, h1, h2, ⟨k + 1, by show G.B + 2 * G.C = _ + 2 * (G.C * (k + 1)); rw [Int.mul_add]; omega⟩, .inr (by show 0 < G.A + G.B + G.C - (G.B + 2 * G.C) + G.C; omega)⟩
  ·rename_i hp
   have hd2 : 0 < G.A - G.B + G.C := by
    rcases h4 with h4 | h4
    ·exfalso
     have := ((red_iff hd hq.h).1 hq.r).2.1
     rw [← h4] at this
     exact hp this
    ·exact h4
   have hh : RD D s ⟨G.C, -G.B, G.A⟩ := by
    have hdis : Fm.disc ⟨G.C, -G.B, G.A⟩ = D := by rw [← he.h]; unfold Fm.disc; simp only; grind
    exact ⟨hdis, (red_iff hd hdis).2 ⟨Int.mul_neg_of_neg_of_pos hC hA, by show 0 < G.C + -G.B + G.A; omega, by show G.C - -G.B + G.A < 0; omega⟩⟩
   have e := rho_uniq hd hq hh h2 (j := -k) (by show -G.B = _; rw [h3, Int.mul_neg, h2]; omega)
   rw [app_R]
   refine .inr ⟨m + 1, ?_⟩
   rw [rhoN_succ, ← e]
   exact ⟨hC, rfl, ⟨1, by show G.B + 2 * G.A = - -G.B + 2 * (G.A * 1); omega⟩, by show G.A - (G.B + 2 * G.A) + (G.A + G.B + G.C) < 0; omega⟩
 ·have hq := RD.rhoN hd m hf
  split
  ·rename_i hp
   have hG : RD D s G := ⟨he.h, (red_iff hd he.h).2 ⟨Int.mul_neg_of_pos_of_neg hA hC, hp, h4⟩⟩
   have e := rho_uniq hd hq hG h2 (j := k) (by rw [h3, h2])
   rw [app_L]
   refine .inl ⟨m + 1, ?_⟩
   rw [rhoN_succ, ← e]
   exact ⟨hA, rfl, ⟨1, by show G.B + 2 * G.C = G.B + 2 * (G.C * 1); omega⟩, .inr (by show 0 < G.A + G.B + G.C - (G.B + 2 * G.C) + G.C; omega)⟩
  ·rw [app_R]
   exact .inr ⟨m, h1, h2, ⟨k + 1, by show G.B + 2 * G.A = _ + 2 * (G.A * (k + 1)); rw [Int.mul_add]; omega⟩, by show G.A - (G.B + 2 * G.A) + (G.A + G.B + G.C) < 0; omega⟩
theorem ph_all {D s : Int} (hd : Dis D s) {f : Fm} (hf : RD D s f) (hA : 0 < f.A) : ∀ n, Ed D (rivN n f) ∧ Ph s f (rivN n f)
 | 0 => ⟨⟨hf.h, hA, by rcases neg_iff.1 ((red_iff hd hf.h).1 hf.r).1 with h | h <;> (show f.C < 0; omega)⟩, .inl ⟨0, hA, rfl, ⟨0, by show f.B = f.B + 2 * (f.C * 0); omega⟩, .inl rfl⟩⟩
 | n + 1 => by
  obtain ⟨h1, h2⟩ := ph_all hd hf hA n
  rw [rivN_succ]
  exact ⟨riv_ed hd h1, ph_step hd hf h1 h2⟩
theorem riv_cyc {D s : Int} (hd : Dis D s) {f g : Fm} (hf : RD D s f) (hA : 0 < f.A) (hg : RD D s g) {n : Nat} (h : g = rivN n f) : ∃ m, g = rhoN s m f :=
 ph_end hd hf hg (by rw [h]; exact (ph_all hd hf hA n).2)
theorem cyc_mul {s : Int} {f : Fm} {p : Nat} (h : rhoN s p f = f) : ∀ c, rhoN s (p * c) f = f
 | 0 => rfl
 | c + 1 => by rw [Nat.mul_succ, rhoN_add, h]; exact cyc_mul h c
theorem cyc_symm {D s : Int} (hd : Dis D s) {f g : Fm} (hf : RD D s f) {n : Nat} (h : g = rhoN s n f) : ∃ m, f = rhoN s m g := by
 obtain ⟨p, h1, _, h3⟩ := closes hd hf
 have h4 := cyc_mul h3 n
 have h5 : n ≤ p * n := Nat.le_mul_of_pos_left n h1
 refine ⟨p * n - n, ?_⟩
 rw [h, ← rhoN_add, show p * n - n + n = p * n by omega, h4]
theorem one_cycle {D s : Int} (hd : Dis D s) {f g : Fm} (hf : RD D s f) (hg : RD D s g) {m : Mx} (hdet : m.det = 1) (h : f.app m = g) : ∃ n, g = rhoN s n f := by
 have pos : ∀ {f : Fm}, RD D s f → ∃ a, 0 < (rhoN s a f).A := fun {f} hf => by
  rcases neg_iff.1 (rho_alt hd hf.h hf.r) with q | q
  ·exact ⟨1, q.2⟩
  ·exact ⟨0, q.1⟩
 obtain ⟨a, ha⟩ := pos hf
 obtain ⟨b, hb⟩ := pos hg
 have hfa := RD.rhoN hd a hf
 have hgb := RD.rhoN hd b hg
 have ed : ∀ {f : Fm}, RD D s f → 0 < f.A → Ed D f := fun {f} hf hA => ⟨hf.h, hA, by rcases neg_iff.1 ((red_iff hd hf.h).1 hf.r).1 with h | h <;> omega⟩
 have e1 := walkR_app hd a hf.h
 have e2 := walkR_app hd b hg.h
 have e3 : (rhoN s a f).app (((walkR s a f).inv.mul m).mul (walkR s b g)) = rhoN s b g := by
  rw [← app_mul, ← app_mul, ← e1, app_inv (walkR_det _ _ _), h, e2]
 have hdet3 : (((walkR s a f).inv.mul m).mul (walkR s b g)).det = 1 := by rw [det_mul, det_mul, det_inv, walkR_det, walkR_det, hdet]; rfl
 have key : ∃ n, rhoN s b g = rhoN s n f := by
  rcases edges hd (ed hfa ha) (ed hgb hb) hdet3 e3 with ⟨n, e⟩ | ⟨n, e⟩
  ·obtain ⟨k, hk⟩ := riv_cyc hd hfa ha hgb e
   exact ⟨k + a, by rw [hk, rhoN_add]⟩
  ·obtain ⟨k, hk⟩ := riv_cyc hd hgb hb hfa e
   obtain ⟨j, hj⟩ := cyc_symm hd hgb hk
   exact ⟨j + a, by rw [hj, rhoN_add]⟩
 obtain ⟨n, hn⟩ := key
 obtain ⟨j, hj⟩ := cyc_symm hd hg (n := b) rfl
 exact ⟨j + n, by rw [hj, hn, rhoN_add]⟩
end Go.Proofs.YtnfmjlhkknndhaaGreat
/-
 Plain facts: when forms are equivalent, and by which matrix; the values that a cycle shows.
-/
namespace Go.Proofs.YtnfmjlhkknndhaaGreat
open Go Go.RowKit
theorem rd_self {f : Fm} (h : redQ f = true) : redR f = f := by
 have h0 : stepsOf f = 0 := redN0_spec _ _ 0 f (by omega) h (fun i hi => by omega)
 rw [redR, if_pos (redQ_iff.1 h).1, redG, h0]
 rfl
theorem rm_app {f : Fm} (h : knE f.disc = 0) : (redRM f).det = 1 ∧ f.app (redRM f) = redR f := by
 obtain ⟨hd, _⟩ := kn_dis h
 rw [redRM, redR, if_pos h, if_pos h]
 exact ⟨walkR_det _ _ _, walkR_app hd _ rfl⟩
theorem getD_lt {l : List Fm} {j : Nat} (hj : j < l.length) (d : Fm) : l.getD j d = l[j] := by
 rw [List.getD_eq_getElem?_getD, List.getElem?_eq_getElem hj]
 rfl
theorem cyL_getD {f : Fm} (h : knE f.disc = 0) {j : Nat} (hj : j < (cyL f).length) : (cyL f).getD j ⟨0, 0, 0⟩ = rhoN (knS f.disc) j (redR f) := by
 rw [getD_lt hj]
 have e : cyL f = (List.range (perOf (redR f))).map fun j => rhoN (knS (redR f).disc) j (redR f) := if_pos h
 simp only [e, List.getElem_map, List.getElem_range, (redR_RD h).2]
theorem mem_cyL {f g : Fm} (h : knE f.disc = 0) : g ∈ cyL f ↔ ∃ n, g = rhoN (knS f.disc) n (redR f) := by
 have e : cyL f = (List.range (perOf (redR f))).map fun j => rhoN (knS (redR f).disc) j (redR f) := if_pos h
 obtain ⟨h1, h2⟩ := redR_RD h
 obtain ⟨p1, _, p3, _⟩ := per_spec h1
 rw [h2] at p3
 rw [e, List.mem_map, h2]
 constructor
 ·rintro ⟨j, _, q⟩
  exact ⟨j, q.symm⟩
 ·rintro ⟨n, q⟩
  refine ⟨n % perOf (redR f), List.mem_range.2 (Nat.mod_lt _ p1), ?_⟩
  have h3 := cyc_mul p3 (n / perOf (redR f))
  have h4 := rhoN_add (knS f.disc) (n % perOf (redR f)) (perOf (redR f) * (n / perOf (redR f))) (redR f)
  rw [Nat.mod_add_div, h3] at h4
  rw [q, h4]
theorem isF_iff {h g : Fm} : isF h.A h.B h.C g = true ↔ g = h := by
 unfold isF
 rw [decide_eq_true_iff]
 exact ⟨fun q => Fm.ext' q.1 q.2.1 q.2.2, fun q => by subst q; exact ⟨rfl, rfl, rfl⟩⟩
theorem sameB_iff {f g : Fm} : sameB f g = true ↔ knE f.disc = 0 ∧ knE g.disc = 0 ∧ f.disc = g.disc ∧ redR g ∈ cyL f := by
 unfold sameB
 rw [decide_eq_true_iff]
 rcases fidx_range (isF (redR g).A (redR g).B (redR g).C) (cyL f) 0 with ⟨h1, h2⟩ | ⟨j, h1, h2, h3, _⟩
 ·constructor
  ·rintro ⟨_, _, q, _⟩
   exfalso
   rw [sameI, h1] at q
   omega
  ·rintro ⟨_, _, _, q⟩
   exfalso
   have := h2 _ q
   rw [isF_iff.2 rfl] at this
   exact Bool.noConfusion this
 ·have e := isF_iff.1 h3
  have hm : redR g ∈ cyL f := by
   rw [← e, getD_lt h1]
   exact List.getElem_mem h1
  rw [sameI, h2]
  exact ⟨fun ⟨a, b, _, c⟩ => ⟨a, b, c, hm⟩, fun ⟨a, b, c, _⟩ => ⟨a, b, by omega, c⟩⟩
theorem same_spec {f g : Fm} (h : sameB f g = true) : (sameM f g).det = 1 ∧ f.app (sameM f g) = g := by
 obtain ⟨k1, k2, k3, k4⟩ := sameB_iff.1 h
 rw [sameM, if_pos h]
 rcases fidx_range (isF (redR g).A (redR g).B (redR g).C) (cyL f) 0 with ⟨h1, h2⟩ | ⟨j, h1, h2, h3, _⟩
 ·exfalso
  have := h2 _ k4
  rw [isF_iff.2 rfl] at this
  exact Bool.noConfusion this
 ·have e := isF_iff.1 h3
  rw [cyL_getD k1 h1] at e
  obtain ⟨m1, m2⟩ := rm_app k1
  obtain ⟨m3, m4⟩ := rm_app k2
  obtain ⟨_, r2⟩ := redR_RD k1
  obtain ⟨hd, _⟩ := kn_dis k1
  have hj : (sameI f g).toNat = j := by rw [sameI, h2]; omega
  rw [hj, r2]
  constructor
  ·rw [det_mul, det_mul, det_inv, m1, m3, walkR_det]; rfl
  ·rw [← app_mul, ← app_mul, m2, walkR_app hd j r2, e, ← m4]
   exact app_inv m3
theorem eqv_mem {f h : Fm} (k : knE f.disc = 0) {M : Mx} (hdet : M.det = 1) (e : f.app M = h) : knE h.disc = 0 ∧ h.disc = f.disc ∧ redR h ∈ cyL f := by
 have hD : h.disc = f.disc := by rw [← e]; exact app_disc1 hdet
 have k2 : knE h.disc = 0 := by rw [hD, k]
 obtain ⟨m1, m2⟩ := rm_app k
 obtain ⟨m3, m4⟩ := rm_app k2
 obtain ⟨q1, q2⟩ := redR_RD k
 obtain ⟨q3, q4⟩ := redR_RD k2
 obtain ⟨hd, _⟩ := kn_dis k
 have r1 := (redQ_RD.1 q1).2
 have r2 := (redQ_RD.1 q3).2
 rw [q2] at r1
 rw [q4, hD] at r2
 refine ⟨k2, hD, (mem_cyL k).2 (one_cycle hd r1 r2 (m := ((redRM f).inv.mul M).mul (redRM h)) ?_ ?_)⟩
 ·rw [det_mul, det_mul, det_inv, m1, m3, hdet]; rfl
 ·rw [← app_mul, ← app_mul, ← m2, app_inv m1, e, m4]
theorem eqv_same {f h : Fm} (k : knE f.disc = 0) {M : Mx} (hdet : M.det = 1) (e : f.app M = h) : sameB f h = true := by
 obtain ⟨h1, h2, h3⟩ := eqv_mem k hdet e
 exact sameB_iff.2 ⟨k, h1, h2.symm, h3⟩
theorem cyc_same {f g : Fm} (k : knE f.disc = 0) (h : g ∈ cyL f) : sameB f g = true := by
 obtain ⟨n, e⟩ := (mem_cyL k).1 h
 obtain ⟨m1, m2⟩ := rm_app k
 obtain ⟨hd, _⟩ := kn_dis k
 refine eqv_same k (M := (redRM f).mul (walkR (knS f.disc) n (redR f))) ?_ ?_
 ·rw [det_mul, m1, walkR_det]; rfl
 ·rw [← app_mul, m2, walkR_app hd n (redR_RD k).2, e]
theorem natbez : ∀ (m n : Nat), ∃ x y : Int, (m : Int) * x + (n : Int) * y = (Nat.gcd m n : Nat) := fun m n => by
 induction m, n using Nat.gcd.induction with
 | H0 n => exact ⟨0, 1, by rw [Nat.gcd_zero_left]; omega⟩
 | H1 m n hm ih =>
  obtain ⟨x, y, h⟩ := ih
  refine ⟨y - (n / m : Nat) * x, x, ?_⟩
  rw [Nat.gcd_rec, ← h]
  have e : ((n % m : Nat) : Int) = (n : Int) - (m : Int) * ((n / m : Nat) : Int) := by
   have := Nat.mod_add_div n m
   have h2 : ((n % m + m * (n / m) : Nat) : Int) = (n : Int) := by rw [this]
   rw [Int.natCast_add, Int.natCast_mul] at h2
   omega
  rw [e]
  grind
theorem intbez (a b : Int) : ∃ x y : Int, a * x + b * y = (Int.gcd a b : Nat) := by
 obtain ⟨x, y, h⟩ := natbez a.natAbs b.natAbs
 have e : Int.gcd a b = Nat.gcd a.natAbs b.natAbs := rfl
 rw [e, ← h]
 rcases Int.natAbs_eq a with ha | ha <;> rcases Int.natAbs_eq b with hb | hb
 ·exact ⟨x, y, by rw [← ha, ← hb]⟩
 ·exact ⟨x, -y, by rw [← ha, show (b.natAbs : Int) = -b by omega]; grind⟩
 ·exact ⟨-x, y, by rw [← hb, show (a.natAbs : Int) = -a by omega]; grind⟩
 ·exact ⟨-x, -y, by rw [show (b.natAbs : Int) = -b by omega, show (a.natAbs : Int) = -a by omega]; grind⟩
theorem small_in {f : Fm} (k : knE f.disc = 0) {a b : Int} (hg : Int.gcd a b = 1) (hs : 4 * (f.val a b * f.val a b) < f.disc) : ∃ g ∈ cyL f, g.A = f.val a b := by
 obtain ⟨x, y, hxy⟩ := intbez a b
 rw [hg] at hxy
 obtain ⟨hd, _⟩ := kn_dis k
 generalize hn : f.val a b = n at *
 have hdet : Mx.det ⟨a, -y, b, x⟩ = 1 := by simp only [Mx.det]; rw [Int.neg_mul, Int.mul_comm y b]; omega
 have hA : (f.app ⟨a, -y, b, x⟩).A = n := hn
 have hD : (f.app ⟨a, -y, b, x⟩).disc = f.disc := app_disc1 hdet
 have hn0 : n ≠ 0 := by rw [← hA]; exact (disc_ne hd hD).1
 generalize hh : f.app ⟨a, -y, b, x⟩ = h at *
 generalize hs2 : knS f.disc = s at *
 have hq := Int.emod_add_mul_ediv (s - h.B) (2 * n.natAbs)
 have hq1 := Int.emod_nonneg (s - h.B) (show (2 * n.natAbs : Int) ≠ 0 by omega)
 have hq2 := Int.emod_lt_of_pos (s - h.B) (show (0 : Int) < 2 * n.natAbs by omega)
 have hw : ∃ j : Int, h.B + 2 * (n * j) = s - (s - h.B) % (2 * n.natAbs) := by
  rcases Int.natAbs_eq n with e | e
  ·refine ⟨(s - h.B) / (2 * n.natAbs), ?_⟩
   have : n * ((s - h.B) / (2 * n.natAbs)) = (n.natAbs : Int) * ((s - h.B) / (2 * n.natAbs)) := by rw [← e]
   rw [this]
   rw [Int.mul_assoc] at hq
   omega
  ·refine ⟨-((s - h.B) / (2 * n.natAbs)), ?_⟩
   have : n * -((s - h.B) / (2 * n.natAbs)) = (n.natAbs : Int) * ((s - h.B) / (2 * n.natAbs)) := by rw [Int.mul_neg, ← Int.neg_mul, show -n = (n.natAbs : Int) by omega]
   rw [this]
   rw [Int.mul_assoc] at hq
   omega
 obtain ⟨j, hj⟩ := hw
 have hdet2 : Mx.det ⟨1, j, 0, 1⟩ = 1 := by simp [Mx.det]
 have e1 : (h.app ⟨1, j, 0, 1⟩).A = n := by rw [← hA]; simp only [Fm.app, Fm.val]; grind
 have e2 : (h.app ⟨1, j, 0, 1⟩).B = h.B + 2 * (n * j) := by rw [← hA]; simp only [Fm.app]; grind
 have hD2 : (h.app ⟨1, j, 0, 1⟩).disc = f.disc := by rw [app_disc1 hdet2, hD]
 have hns : 2 * (n.natAbs : Int) ≤ s := by
  refine sq_le_of (Int.le_of_lt hd.pos) ?_
  have e : 2 * (n.natAbs : Int) * (2 * n.natAbs) = 4 * (n * n) := by rw [← sq_abs n]; grind
  rw [e]
  have := hd.hi
  omega
 have hr : redQ (h.app ⟨1, j, 0, 1⟩) = true := by
  refine redQ_iff.2 ⟨by rw [hD2, k], ?_⟩
  rw [hD2, hs2]
  refine ⟨?_, ?_, ?_, ?_⟩
  ·rw [e2, hj]; omega
  ·rw [e2, hj]; omega
  ·rw [e1, e2, hj]; omega
  ·rw [e1, e2, hj]; omega
 have hm := (eqv_mem k (M := Mx.mul ⟨a, -y, b, x⟩ ⟨1, j, 0, 1⟩) (by rw [det_mul, hdet, hdet2]; rfl) (by rw [← app_mul, hh])).2.2
 rw [rd_self hr] at hm
 exact ⟨_, hm, e1⟩
theorem show_spec {f g : Fm} (k : knE f.disc = 0) {n : Int} (h : g ∈ cyL f) (hA : g.A = n) : showE f n = 0 ∧ (showF f n).A = n := by
 rcases fidx_range (isA n) (cyL f) 0 with ⟨h1, h2⟩ | ⟨j, h1, h2, h3, _⟩
 ·exfalso
  have := h2 _ h
  rw [isA, hA, decide_eq_true rfl] at this
  exact Bool.noConfusion this
 ·have hi : showI f n = (j : Int) := by rw [showI, h2]; omega
  rw [showE, showF, if_pos k, hi, if_neg (by omega), if_pos (by omega), Int.toNat_natCast]
  exact ⟨rfl, of_decide_eq_true h3⟩
end Go.Proofs.YtnfmjlhkknndhaaGreat
/-
 The walk of CycleSmall.
-/
namespace Go.Proofs.YtnfmjlhkknndhaaGreat
open Go Go.RowKit
theorem vc_v8 (d i0 i1 m0 m1 x y : Int) : (((0 : Int) ≤ d ∧ d < 65536 ∧ (0 : Int) ≤ i0 ∧ i0 < 65536 ∧ (0 : Int) ≤ m0 ∧ m0 < 256) ∧ ((0 : Int) ≤ 0 ∧ (0 : Int) < (↑(2 : Nat) : Int)) ∧ Fit (IntKind.wrap IntKind.i64 x) ∧ ((0 : Int) ≤ 1 ∧ (1 : Int) < (↑(2 : Nat) : Int)) ∧ Fit (IntKind.wrap IntKind.i64 y) ∧ ((20 : Nat) ≤ 100000 ∧ (20 : Nat) ≤ 100000 ∧ (20 : Nat) ≤ 100000 ∧ (64 : Nat) ≤ 100000 ∧ (64 : Nat) ≤ 100000) ∧ Fit 4 ∧ ((150 : Nat) ≤ 1000000 ∧ (150 : Nat) ≤ 1000000) ∧ ((64 : Nat) ≤ 1000000 ∧ (300 : Nat) ≤ 1000000) ∧ ((0 : Int) ≤ d ∧ d < 65536) ∧ Fit (sizeD d) ∧ ((364 : Nat) ≤ 1000000 ∧ (64 : Nat) ≤ 1000000) ∧ ((20 : Nat) ≤ 300 ∧ (20 : Nat) ≤ 300 ∧ (20 : Nat) ≤ 300 ∧ (150 : Nat) ≤ 100000) ∧ ((64 : Nat) ≤ 900000 ∧ (64 : Nat) ≤ 900000) ∧ Fit 1 ∧ ((64 : Nat) ≤ 1000000 ∧ (64 : Nat) ≤ 1000000) ∧ bif decide ((↑(Int.gcd (IntKind.wrap IntKind.i64 x) (IntKind.wrap IntKind.i64 y)) : Int) = 1) then bif decide (icmp ((4 : Int) * (Fm.val (madeF d i0 m0) (IntKind.wrap IntKind.i64 x) (IntKind.wrap IntKind.i64 y) * Fm.val (madeF d i0 m0) (IntKind.wrap IntKind.i64 x) (IntKind.wrap IntKind.i64 y))) (sizeD d) < 0) then bif showE (madeF d i0 m0) (Fm.val (madeF d i0 m0) (IntKind.wrap IntKind.i64 x) (IntKind.wrap IntKind.i64 y)) != 0 then false = true else ((8 : Nat) ≤ 1000000 ∧ (150 : Nat) ≤ 1000000) ∧ bif !decide (Fm.A (showF (madeF d i0 m0) (Fm.val (madeF d i0 m0) (IntKind.wrap IntKind.i64 x) (IntKind.wrap IntKind.i64 y))) = Fm.val (madeF d i0 m0) (IntKind.wrap IntKind.i64 x) (IntKind.wrap IntKind.i64 y)) then false = true else ((20 : Nat) ≤ 300 ∧ (20 : Nat) ≤ 300 ∧ (20 : Nat) ≤ 300) ∧ bif knE (Fm.disc (madeF d i0 m0)) != 0 then false = true else bif (↑(List.length (cyL (madeF d i0 m0))) : Int) == 0 then false = true else ((0 : Int) ≤ IntKind.wrap IntKind.i64 ((↑(List.length (cyL (madeF d i0 m0))) : Int) - 1) ∧ IntKind.wrap IntKind.i64 ((↑(List.length (cyL (madeF d i0 m0))) : Int) - 1) < (↑(List.length (cyL (madeF d i0 m0))) : Int)) ∧ ((20 : Nat) ≤ 300 ∧ (20 : Nat) ≤ 300 ∧ (20 : Nat) ≤ 300 ∧ (8 : Nat) ≤ 300 ∧ (8 : Nat) ≤ 300 ∧ (8 : Nat) ≤ 300) ∧ bif sameB (madeF d i0 m0) (List.getD (cyL (madeF d i0 m0)) (Int.toNat (IntKind.wrap IntKind.i64 ((↑(List.length (cyL (madeF d i0 m0))) : Int) - 1))) (Fm.mk (0 : Int) (0 : Int) (0 : Int))) then ((20 : Nat) ≤ 100000 ∧ (20 : Nat) ≤ 100000 ∧ (20 : Nat) ≤ 100000 ∧ widS (madeF d i0 m0) (64 : Nat) (64 : Nat) ≤ 100000 ∧ widS (madeF d i0 m0) (64 : Nat) (64 : Nat) ≤ 100000) ∧ ((20 : Nat) + 2 * max (widS (madeF d i0 m0) (64 : Nat) (64 : Nat)) (widS (madeF d i0 m0) (64 : Nat) (64 : Nat)) + 2 ≤ 1000000 ∧ (8 : Nat) ≤ 1000000) ∧ bif decide (Fm.val (madeF d i0 m0) (Mx.a (sameM (madeF d i0 m0) (List.getD (cyL (madeF d i0 m0)) (Int.toNat (IntKind.wrap IntKind.i64 ((↑(List.length (cyL (madeF d i0 m0))) : Int) - 1))) (Fm.mk (0 : Int) (0 : Int) (0 : Int))))) (Mx.c (sameM (madeF d i0 m0) (List.getD (cyL (madeF d i0 m0)) (Int.toNat (IntKind.wrap IntKind.i64 ((↑(List.length (cyL (madeF d i0 m0))) : Int) - 1))) (Fm.mk (0 : Int) (0 : Int) (0 : Int))))) = Fm.A (List.getD (cyL (madeF d i0 m0)) (Int.toNat (IntKind.wrap IntKind.i64 ((↑(List.length (cyL (madeF d i0 m0))) : Int) - 1))) (Fm.mk (0 : Int) (0 : Int) (0 : Int)))) then true = true else false = true else false = true else ((20 : Nat) ≤ 300 ∧ (20 : Nat) ≤ 300 ∧ (20 : Nat) ≤ 300) ∧ bif knE (Fm.disc (madeF d i0 m0)) != 0 then false = true else bif (↑(List.length (cyL (madeF d i0 m0))) : Int) == 0 then false = true else ((0 : Int) ≤ IntKind.wrap IntKind.i64 ((↑(List.length (cyL (madeF d i0 m0))) : Int) - 1) ∧ IntKind.wrap IntKind.i64 ((↑(List.length (cyL (madeF d i0 m0))) : Int) - 1) < (↑(List.length (cyL (madeF d i0 m0))) : Int)) ∧ ((20 : Nat) ≤ 300 ∧ (20 : Nat) ≤ 300 ∧ (20 : Nat) ≤ 300 ∧ (8 : Nat) ≤ 300 ∧ (8 : Nat) ≤ 300 ∧ (8 : Nat) ≤ 300) ∧ bif sameB (madeF d i0 m0) (List.getD (cyL (madeF d i0 m0)) (Int.toNat (IntKind.wrap IntKind.i64 ((↑(List.length (cyL (madeF d i0 m0))) : Int) - 1))) (Fm.mk (0 : Int) (0 : Int) (0 : Int))) then ((20 : Nat) ≤ 100000 ∧ (20 : Nat) ≤ 100000 ∧ (20 : Nat) ≤ 100000 ∧ widS (madeF d i0 m0) (64 : Nat) (64 : Nat) ≤ 100000 ∧ widS (madeF d i0 m0) (64 : Nat) (64 : Nat) ≤ 100000) ∧ ((20 : Nat) + 2 * max (widS (madeF d i0 m0) (64 : Nat) (64 : Nat)) (widS (madeF d i0 m0) (64 : Nat) (64 : Nat)) + 2 ≤ 1000000 ∧ (8 : Nat) ≤ 1000000) ∧ bif decide (Fm.val (madeF d i0 m0) (Mx.a (sameM (madeF d i0 m0) (List.getD (cyL (madeF d i0 m0)) (Int.toNat (IntKind.wrap IntKind.i64 ((↑(List.length (cyL (madeF d i0 m0))) : Int) - 1))) (Fm.mk (0 : Int) (0 : Int) (0 : Int))))) (Mx.c (sameM (madeF d i0 m0) (List.getD (cyL (madeF d i0 m0)) (Int.toNat (IntKind.wrap IntKind.i64 ((↑(List.length (cyL (madeF d i0 m0))) : Int) - 1))) (Fm.mk (0 : Int) (0 : Int) (0 : Int))))) = Fm.A (List.getD (cyL (madeF d i0 m0)) (Int.toNat (IntKind.wrap IntKind.i64 ((↑(List.length (cyL (madeF d i0 m0))) : Int) - 1))) (Fm.mk (0 : Int) (0 : Int) (0 : Int)))) then true = true else false = true else false = true else ((20 : Nat) ≤ 300 ∧ (20 : Nat) ≤ 300 ∧ (20 : Nat) ≤ 300) ∧ bif knE (Fm.disc (madeF d i0 m0)) != 0 then false = true else bif (↑(List.length (cyL (madeF d i0 m0))) : Int) == 0 then false = true else ((0 : Int) ≤ IntKind.wrap IntKind.i64 ((↑(List.length (cyL (madeF d i0 m0))) : Int) - 1) ∧ IntKind.wrap IntKind.i64 ((↑(List.length (cyL (madeF d i0 m0))) : Int) - 1) < (↑(List.length (cyL (madeF d i0 m0))) : Int)) ∧ ((20 : Nat) ≤ 300 ∧ (20 : Nat) ≤ 300 ∧ (20 : Nat) ≤ 300 ∧ (8 : Nat) ≤ 300 ∧ (8 : Nat) ≤ 300 ∧ (8 : Nat) ≤ 300) ∧ bif sameB (madeF d i0 m0) (List.getD (cyL (madeF d i0 m0)) (Int.toNat (IntKind.wrap IntKind.i64 ((↑(List.length (cyL (madeF d i0 m0))) : Int) - 1))) (Fm.mk (0 : Int) (0 : Int) (0 : Int))) then ((20 : Nat) ≤ 100000 ∧ (20 : Nat) ≤ 100000 ∧ (20 : Nat) ≤ 100000 ∧ widS (madeF d i0 m0) (64 : Nat) (64 : Nat) ≤ 100000 ∧ widS (madeF d i0 m0) (64 : Nat) (64 : Nat) ≤ 100000) ∧ ((20 : Nat) + 2 * max (widS (madeF d i0 m0) (64 : Nat) (64 : Nat)) (widS (madeF d i0 m0) (64 : Nat) (64 : Nat)) + 2 ≤ 1000000 ∧ (8 : Nat) ≤ 1000000) ∧ bif decide (Fm.val (madeF d i0 m0) (Mx.a (sameM (madeF d i0 m0) (List.getD (cyL (madeF d i0 m0)) (Int.toNat (IntKind.wrap IntKind.i64 ((↑(List.length (cyL (madeF d i0 m0))) : Int) - 1))) (Fm.mk (0 : Int) (0 : Int) (0 : Int))))) (Mx.c (sameM (madeF d i0 m0) (List.getD (cyL (madeF d i0 m0)) (Int.toNat (IntKind.wrap IntKind.i64 ((↑(List.length (cyL (madeF d i0 m0))) : Int) - 1))) (Fm.mk (0 : Int) (0 : Int) (0 : Int))))) = Fm.A (List.getD (cyL (madeF d i0 m0)) (Int.toNat (IntKind.wrap IntKind.i64 ((↑(List.length (cyL (madeF d i0 m0))) : Int) - 1))) (Fm.mk (0 : Int) (0 : Int) (0 : Int)))) then true = true else false = true else false = true) = evFn (env [c_lex, c_made, c_rof, c_qval, c_rmul, c_size, c_rcmp, c_cshows, c_rgcd, c_rsame, c_ccycle, c_csame] noAnn) Tryz.f10 [.st [.int .u16 d, .st [.int .u16 i0, .int .u16 i1], .st [.int .u8 m0, .int .u8 m1]], .st [.int .i8 x, .int .i8 y]] (MRes.sat (.ret (.bool true))) := by kernel_rfl
theorem fit8 {z : Int} (h1 : -9223372036854775808 ≤ z) (h2 : z ≤ 9223372036854775807) : Fit z := ⟨h1, h2⟩
theorem widS_le8 {f : Fm} (k : knE f.disc = 0) (hs : knS f.disc ≤ 44) : widS f 64 64 ≤ 40000 := by
 obtain ⟨h1, h2⟩ := redR_RD k
 have h3 := (per_spec h1).2.1
 rw [h2] at h3
 have h4 : (2 * (knS f.disc).toNat + 1) * ((knS f.disc).toNat / 2 + 1) ≤ 89 * 23 := Nat.mul_le_mul (by omega) (by omega)
 have e1 : widM 64 = 4225 := rfl
 unfold widS widP
 omega
structure LsOk (f l : Fm) : Prop where
 s : sameB f l = true
 v : decide (f.val (sameM f l).a (sameM f l).c = l.A) = true
theorem cyL_pos {f : Fm} (k : knE f.disc = 0) : 0 < (cyL f).length := by
 have e : cyL f = (List.range (perOf (redR f))).map fun j => rhoN (knS (redR f).disc) j (redR f) := if_pos k
 rw [e, List.length_map, List.length_range]
 exact (per_spec (redR_RD k).1).1
theorem lsOk {f : Fm} (k : knE f.disc = 0) {j : Nat} (hj : j < (cyL f).length) : LsOk f ((cyL f).getD j ⟨0, 0, 0⟩) := by
 have h1 : sameB f ((cyL f).getD j ⟨0, 0, 0⟩) = true := cyc_same k (by rw [getD_lt hj]; exact List.getElem_mem hj)
 refine ⟨h1, decide_eq_true ?_⟩
 exact congrArg Fm.A (same_spec h1).2
def s_v8 : FSpec
 | [.st [.int .u16 d, .st [.int .u16 i0, .int .u16 i1], .st [.int .u8 m0, .int .u8 m1]], .st [.int .i8 x, .int .i8 y]] => some (some (OkX d i0 i1 m0 m1 ∧ (-128 ≤ x ∧ x ≤ 127) ∧ -128 ≤ y ∧ y ≤ 127), .ret (.bool true))
 | _ => none
theorem p_v8 : Good Tryz.f10 s_v8 := by
 intro ms p r h hp
 unfold s_v8 at h
 split at h
 ·rename_i d i0 i1 m0 m1 x y
  simp only [Option.some.injEq, Prod.mk.injEq] at h
  obtain ⟨rfl, rfl⟩ := h
  obtain ⟨hx, ⟨x0, x1⟩, y0, y1⟩ : OkX d i0 i1 m0 m1 ∧ (-128 ≤ x ∧ x ≤ 127) ∧ -128 ≤ y ∧ y ≤ 127 := hp
  refine ⟨env [c_lex, c_made, c_rof, c_qval, c_rmul, c_size, c_rcmp, c_cshows, c_rgcd, c_rsame, c_ccycle, c_csame] noAnn, ?_⟩
  rw [← vc_v8 d i0 i1 m0 m1 x y]
  have hD := made_disc (d := d) (i := i0) (m := m0) hx.a
  obtain ⟨hz, h5, h6⟩ := size_spec hx.a
  have hk : knE (madeF d i0 m0).disc = 0 := by rw [hD]; exact hz
  have hk' : (knE (madeF d i0 m0).disc != 0) = false := by rw [hk]; rfl
  have hw := widS_le8 hk (by rw [hD]; exact (size_root hx.a).2)
  have hd0 := hx.a
  have hd1 := hx.b
  have hp := cyL_pos hk
  have hl := cyL_le (madeF d i0 m0)
  have ex : IntKind.wrap IntKind.i64 x = x := i64w (by omega) (by omega)
  have ey : IntKind.wrap IntKind.i64 y = y := i64w (by omega) (by omega)
  have el : IntKind.wrap IntKind.i64 (((cyL (madeF d i0 m0)).length : Int) - 1) = (((cyL (madeF d i0 m0)).length - 1 : Nat) : Int) := by rw [i64w (by omega) (by omega)]; omega
  have hl0 : ((((cyL (madeF d i0 m0)).length : Nat) : Int) == 0) = false := beq_eq_false_iff_ne.2 (by omega)
  have ho := lsOk hk (j := (cyL (madeF d i0 m0)).length - 1) (by omega)
  rw [ex, ey, el, Int.toNat_natCast]
  refine ⟨⟨hx.a, hx.b, hx.c, hx.d, hx.g, hx.h⟩, ?_⟩
  repeat (first | refine ⟨by omega, ?_⟩ | refine ⟨⟨by omega, by omega⟩, ?_⟩ | refine ⟨fit8 (by omega) (by omega), ?_⟩ | refine ⟨by decide, ?_⟩)
  refine condI decide_eq_true_iff (fun hg => condI clt (fun hs => ?_) (fun _ => ?_)) (fun _ => ?_)
  ·obtain ⟨g, g1, g2⟩ := small_in hk (a := x) (b := y) (by omega) (by rw [hD]; exact hs)
   obtain ⟨s1, s2⟩ := show_spec hk g1 g2
   have s3 : (showE (madeF d i0 m0) ((madeF d i0 m0).val x y) != 0) = false := by rw [s1]; rfl
   have s4 : (!decide ((showF (madeF d i0 m0) ((madeF d i0 m0).val x y)).A = (madeF d i0 m0).val x y)) = false := not_of (decide_eq_true s2)
   refine condF s3 ⟨by omega, condF s4 ?_⟩
   repeat (first | rfl | refine condF hk' ?_ | refine condF hl0 ?_ | refine ⟨⟨by rw [Nat.max_self]; omega, by omega⟩, ?_⟩ | refine condT ho.s ?_ | refine condT ho.v ?_ | refine ⟨by omega, ?_⟩ | refine ⟨⟨by omega, by omega⟩, ?_⟩ | refine ⟨by decide, ?_⟩)
  ·repeat (first | rfl | refine condF hk' ?_ | refine condF hl0 ?_ | refine ⟨⟨by rw [Nat.max_self]; omega, by omega⟩, ?_⟩ | refine condT ho.s ?_ | refine condT ho.v ?_ | refine ⟨by omega, ?_⟩ | refine ⟨⟨by omega, by omega⟩, ?_⟩ | refine ⟨by decide, ?_⟩)
  ·repeat (first | rfl | refine condF hk' ?_ | refine condF hl0 ?_ | refine ⟨⟨by rw [Nat.max_self]; omega, by omega⟩, ?_⟩ | refine condT ho.s ?_ | refine condT ho.v ?_ | refine ⟨by omega, ?_⟩ | refine ⟨⟨by omega, by omega⟩, ?_⟩ | refine ⟨by decide, ?_⟩)
 ·simp at h
noncomputable def c_v8 : Ctr Tryz.prog := ⟨10, s_v8, fun args w => Tryz.call10 args w, fn_ok mix Tryz.func10 s_v8 p_v8⟩
end Go.Proofs.YtnfmjlhkknndhaaGreat
/-
 CycleSmall, whatever the description and the place are.
-/
namespace Go.Proofs.YtnfmjlhkknndhaaGreat
open Go Go.ChangeShapes Go.WideShapes Go.ChangeAt Go.RowKit
def tysCycleSmall : List Nat := [26, 22, 23, 24, 5, 75, 34]
theorem tysCycleSmall_ok : tysCycleSmall.all (subOk Tryz.prog tysCycleSmall) = true := by kernel_rfl
theorem cycleSmall_contract (H : Type) (enc : TypeId × Value → H) (W : World) (args : Array Value) (ds gs : List (DataW H)) (before : List MemPlace)
  (hW : DataW.Whole enc Tryz.prog Tryz.f10.params.toList Rows.cycleSmallSpec.vars Rows.cycleSmallRow.apart W args.toList ds gs before) :
  Calls Tryz.prog 10 args W fun e W' => ∃ v, e = .returned v ∧ Rows.cycleSmallSpec.post enc Tryz.prog Tryz.f10 Rows.cycleSmallRow.apart Rows.cycleSmallRow.fresh Rows.cycleSmallRow.handsOn Rows.cycleSmallRow.again W args v W' := by
 have hW' := hW
 obtain ⟨p, q, hA, hV, rfl, hfz, hnd⟩ := hW
 rw [Tryz.params10] at hA
 obtain ⟨v0, v1, d0d, d1d, p0, p1, rfl, rfl, rfl, h0, h1⟩ := trodAll_two hA
 obtain ⟨rfl, rfl⟩ := trodVars_none hV
 obtain ⟨d0, i0a, i0b, m0a, m0b, r0, w0⟩ := rep_r17 h0
 obtain ⟨z1, z1x, r1, w1, w1x⟩ := rep_2i8 h1
 refine law_calls c_v8 rfl rfl tysCycleSmall_ok (by rw [Tryz.params10]; decide) hW' (gw0 W) ⟨[.st [.int .u16 d0, .st [.int .u16 i0a, .int .u16 i0b], .st [.int .u8 m0a, .int .u8 m0b]], .st [.int .i8 z1, .int .i8 z1x]], _, rfl, ⟨w0, w1, w1x⟩, _, _, rfl, r0, _, _, rfl, r1, rfl⟩ rfl
set_option maxHeartbeats 1600000 in
set_option maxRecDepth 100000 in
theorem cycleSmall_lifted (os : Os) (started : os.Started) (H : Type) (enc : TypeId × Value → H) :
  ReturnsInHanded {} Tryz.checked os 10 .any (Rows.cycleSmallSpec.pre6 enc Tryz.prog Tryz.f10 Rows.cycleSmallRow.domain Rows.cycleSmallRow.apart) (Rows.cycleSmallSpec.post enc Tryz.prog Tryz.f10 Rows.cycleSmallRow.apart Rows.cycleSmallRow.fresh Rows.cycleSmallRow.handsOn Rows.cycleSmallRow.again) := by
 refine returnsInHanded_of_change (C := Tryz.checked) own started (by kernel_rfl) Tryz.func10
  (ChangeSpec.witness6 (enc := enc) (C := Tryz.checked) false ⟨#[], #[.agg #[.int .u16 0, .int .u16 0, .int .u16 0, .int .u8 0, .int .u8 0], .agg #[.int .i8 0, .int .i8 0]], []⟩ 8 (by kernel_rfl) (by kernel_rfl) (by kernel_rfl) (by kernel_rfl)) ?_
 intro W _ args ds gs before _ hW _ _
 exact cycleSmall_contract H enc W args ds gs before hW
theorem cycleSmall_over : Rows.cycleSmallRow.holds Tryz.pinned (OpenSpec.ofChange Rows.cycleSmallSpec) :=
 OpenClaim.holds_of_wide 10 Tryz.f10 rfl rfl rfl rfl rfl rfl rfl ⟨rfl, rfl, rfl, rfl, rfl⟩ rfl rfl rfl rfl rfl (by kernel_rfl) Tryz.func10 (by kernel_rfl)
  (of_decide_eq_true (by kernel_rfl)) (by unfold Func.isWrapper; first | (rw [if_pos (by decide +kernel)]; kernel_rfl) | (rw [if_neg (by decide +kernel)]; exact ⟨rfl, rfl⟩))
  (fun os started H enc _ => cycleSmall_lifted os started H enc)
theorem cycleSmall_holds : Rows.CycleSmallSaid := cycleSmall_over
end Go.Proofs.YtnfmjlhkknndhaaGreat
