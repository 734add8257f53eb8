/-
  CyclePartition, whatever the description is.
-/
import Derived.Test.YtnfmjlhkknndhaaGreatW4
import Derived.Test.YtnfmjlhkknndhaaGreatW5
import Derived.Test.YtnfmjlhkknndhaaGreatW6

/-
 Plain facts: equivalent reduced forms lie in one cycle (Conway's river).
-/
namespace Go.Proofs.YtnfmjlhkknndhaaGreat
open Go Go.RowKit
open Go.IntKind (wrap i64 i32 i16 i8 u64 u32 u16 u8)
structure Ed (D : Int) (f : Fm) : Prop where
 h : f.disc = D
 a : 0 < f.A
 c : f.C < 0
def mL : Mx := ⟨1, 0, 1, 1⟩
def mR : Mx := ⟨1, 1, 0, 1⟩
def riv (f : Fm) : Fm := if 0 < f.A + f.B + f.C then f.app mL else f.app mR
def rivN : Nat → Fm → Fm
 | 0, f => f
 | n + 1, f => rivN n (riv f)
theorem app_L (f : Fm) : f.app mL = ⟨f.A + f.B + f.C, f.B + 2 * f.C, f.C⟩ := by
 apply Fm.ext' <;> simp only [Fm.app, Fm.val, mL] <;> grind
theorem app_R (f : Fm) : f.app mR = ⟨f.A, f.B + 2 * f.A, f.A + f.B + f.C⟩ := by
 apply Fm.ext' <;> simp only [Fm.app, Fm.val, mR] <;> grind
theorem sq_not {D s x : Int} (hd : Dis D s) (h : x * x = D) : False := by
 have hs := hd.pos
 have hlo := hd.lo
 have hhi := hd.hi
 rw [← h, ← sq_abs x] at hlo hhi
 have hx : (0 : Int) ≤ x.natAbs := by omega
 generalize (x.natAbs : Int) = y at *
 rcases Int.lt_or_le s y with q | q
 ·have := Int.mul_le_mul (show s + 1 ≤ y by omega) (show s + 1 ≤ y by omega) (by omega) hx
  omega
 ·have := Int.mul_le_mul q q hx (by omega)
  omega
theorem sum_ne {D s : Int} (hd : Dis D s) {f : Fm} (h : f.disc = D) : f.A + f.B + f.C ≠ 0 := fun e => by
 refine sq_not hd (x := f.A - f.C) ?_
 rw [← h]
 unfold Fm.disc
 rw [show f.B = -(f.A + f.C) by omega]
 grind
theorem det_L : mL.det = 1 := rfl
theorem det_R : mR.det = 1 := rfl
theorem riv_ed {D s : Int} (hd : Dis D s) {f : Fm} (h : Ed D f) : Ed D (riv f) := by
 have hn := sum_ne hd h.h
 unfold riv
 split
 ·refine ⟨by rw [app_disc, det_L, h.h]; omega, ?_, ?_⟩
  ·rw [app_L]; assumption
  ·rw [app_L]; exact h.c
 ·refine ⟨by rw [app_disc, det_R, h.h]; omega, ?_, ?_⟩
  ·rw [app_R]; exact h.a
  ·rw [app_R]; show f.A + f.B + f.C < 0; omega
theorem val_nonneg {f : Fm} (hA : 0 ≤ f.A) (hB : 0 ≤ f.B) (hC : 0 ≤ f.C) {x y : Int} (hx : 0 ≤ x) (hy : 0 ≤ y) : 0 ≤ f.val x y := by
 have h1 := Int.mul_nonneg hA (Int.mul_nonneg hx hx)
 have h2 := Int.mul_nonneg hB (Int.mul_nonneg hx hy)
 have h3 := Int.mul_nonneg hC (Int.mul_nonneg hy hy)
 unfold Fm.val
 omega
theorem val_nonpos {f : Fm} (hA : f.A ≤ 0) (hB : f.B ≤ 0) (hC : f.C ≤ 0) {x y : Int} (hx : 0 ≤ x) (hy : 0 ≤ y) : f.val x y ≤ 0 := by
 have h1 := Int.mul_nonpos_of_nonpos_of_nonneg hA (Int.mul_nonneg hx hx)
 have h2 := Int.mul_nonpos_of_nonpos_of_nonneg hB (Int.mul_nonneg hx hy)
 have h3 := Int.mul_nonpos_of_nonpos_of_nonneg hC (Int.mul_nonneg hy hy)
 unfold Fm.val
 omega
structure Nn (m : Mx) : Prop where
 a : 0 ≤ m.a
 b : 0 ≤ m.b
 c : 0 ≤ m.c
 d : 0 ≤ m.d
theorem nn_split {p q r t : Int} (hp : 0 ≤ p) (hq : 0 ≤ q) (hr : 0 ≤ r) (ht : 0 ≤ t) (h : p * t - q * r = 1) : (p = 1 ∧ q = 0 ∧ r = 0 ∧ t = 1) ∨ (r ≤ p ∧ t ≤ q ∧ 0 < r + t) ∨ (p ≤ r ∧ q ≤ t ∧ 0 < p + q) := by
 have hrt : 0 < r + t := by
  rcases Int.lt_or_le 0 (r + t) with k | k
  ·exact k
  ·have e1 : r = 0 := by omega
   have e2 : t = 0 := by omega
   subst e1 e2
   simp at h
 have hpq : 0 < p + q := by
  rcases Int.lt_or_le 0 (p + q) with k | k
  ·exact k
  ·have e1 : p = 0 := by omega
   have e2 : q = 0 := by omega
   subst e1 e2
   simp at h
 rcases Int.lt_or_le p r with k | k
 ·refine .inr (.inr ⟨by omega, ?_, hpq⟩)
  rcases Int.lt_or_le t q with j | j
  ·exfalso
   have h1 := Int.mul_le_mul (show p ≤ r by omega) (show t ≤ q by omega) ht hr
   rw [Int.mul_comm r q] at h1
   omega
  ·exact j
 ·rcases Int.lt_or_le q t with j | j
  ·have e : p * t - q * r = t * (p - r) + r * (t - q) := by grind
   rcases Int.lt_or_le r p with i | i
   ·have h1 : t * 1 ≤ t * (p - r) := Int.mul_le_mul_of_nonneg_left (by omega) ht
    have h2 := Int.mul_nonneg hr (show 0 ≤ t - q by omega)
    have e1 : t = 1 := by omega
    have e2 : q = 0 := by omega
    subst e1 e2
    have e3 : r = 0 := by omega
    subst e3
    exact .inl ⟨by omega, rfl, rfl, rfl⟩
   ·exact .inr (.inr ⟨by omega, by omega, hpq⟩)
  ·exact .inr (.inl ⟨k, j, hrt⟩)
theorem river {D s : Int} (hd : Dis D s) : ∀ (k : Nat) (f : Fm) (m : Mx), Ed D f → Nn m → m.det = 1 → (m.a + m.b + m.c + m.d).toNat ≤ k → 0 < (f.app m).A → (f.app m).C < 0 → ∃ n, f.app m = rivN n f
 | 0, f, m, _, hn, hdet, hk, _, _ => by
  exfalso
  have h1 := hn.a
  have h2 := hn.b
  have h3 := hn.c
  have h4 := hn.d
  have e1 : m.a = 0 := by omega
  have e2 : m.b = 0 := by omega
  unfold Mx.det at hdet
  rw [e1, e2] at hdet
  simp at hdet
 | k + 1, f, m, he, hn, hdet, hk, hA, hC => by
  have h1 := hn.a
  have h2 := hn.b
  have h3 := hn.c
  have h4 := hn.d
  have hne := sum_ne hd he.h
  rcases nn_split h1 h2 h3 h4 hdet with ⟨e1, e2, e3, e4⟩ | ⟨k1, k2, k3⟩ | ⟨k1, k2, k3⟩
  ·have e : m = Mx.one := by cases m; simp only at e1 e2 e3 e4; subst e1 e2 e3 e4; rfl
   exact ⟨0, by rw [e, app_one]; rfl⟩
  ·have em : m = mR.mul ⟨m.a - m.c, m.b - m.d, m.c, m.d⟩ := by
    cases m
    simp only [Mx.mul, mR, Mx.mk.injEq]
    refine ⟨?_, ?_, ?_, ?_⟩ <;> omega
   have hn' : Nn ⟨m.a - m.c, m.b - m.d, m.c, m.d⟩ := ⟨by simp only; omega, by simp only; omega, h3, h4⟩
   have hdet' : Mx.det ⟨m.a - m.c, m.b - m.d, m.c, m.d⟩ = 1 := by rw [em, det_mul, det_R] at hdet; omega
   rw [em, ← app_mul] at hA hC ⊢
   have hneg : ¬ 0 < f.A + f.B + f.C := fun hp => by
    have := val_nonneg (f := f.app mR) (by rw [app_R]; exact Int.le_of_lt he.a) (by rw [app_R]; show 0 ≤ f.B + 2 * f.A; have := he.a; have := he.c; omega) (by rw [app_R]; exact Int.le_of_lt hp) (x := m.b - m.d) (y := m.d) (by omega) h4
    have e : ((f.app mR).app ⟨m.a - m.c, m.b - m.d, m.c, m.d⟩).C = (f.app mR).val (m.b - m.d) m.d := rfl
    omega
   have er : riv f = f.app mR := if_neg hneg
   have hed := riv_ed hd he
   rw [er] at hed
   obtain ⟨n, hn2⟩ := river hd k (f.app mR) _ hed hn' hdet' (by simp only; omega) hA hC
   exact ⟨n + 1, by rw [hn2]; show _ = rivN n (riv f); rw [er]⟩
  ·have em : m = mL.mul ⟨m.a, m.b, m.c - m.a, m.d - m.b⟩ := by
    cases m
    simp only [Mx.mul, mL, Mx.mk.injEq]
    refine ⟨?_, ?_, ?_, ?_⟩ <;> omega
   have hn' : Nn ⟨m.a, m.b, m.c - m.a, m.d - m.b⟩ := ⟨h1, h2, by simp only; omega, by simp only; omega⟩
   have hdet' : Mx.det ⟨m.a, m.b, m.c - m.a, m.d - m.b⟩ = 1 := by rw [em, det_mul, det_L] at hdet; omega
   rw [em, ← app_mul] at hA hC ⊢
   have hpos : 0 < f.A + f.B + f.C := by
    rcases Int.lt_or_le 0 (f.A + f.B + f.C) with q | q
    ·exact q
    ·exfalso
     have := val_nonpos (f := f.app mL) (by rw [app_L]; exact q) (by rw [app_L]; show f.B + 2 * f.C ≤ 0; have := he.a; have := he.c; omega) (by rw [app_L]; exact Int.le_of_lt he.c) (x := m.a) (y := m.c - m.a) h1 (by omega)
     have e : ((f.app mL).app ⟨m.a, m.b, m.c - m.a, m.d - m.b⟩).A = (f.app mL).val m.a (m.c - m.a) := rfl
     omega
   have er : riv f = f.app mL := if_pos hpos
   have hed := riv_ed hd he
   rw [er] at hed
   obtain ⟨n, hn2⟩ := river hd k (f.app mL) _ hed hn' hdet' (by simp only; omega) hA hC
   exact ⟨n + 1, by rw [hn2]; show _ = rivN n (riv f); rw [er]⟩
def Mx.neg (m : Mx) : Mx := ⟨-m.a, -m.b, -m.c, -m.d⟩
theorem app_neg (f : Fm) (m : Mx) : f.app m.neg = f.app m := by
 apply Fm.ext' <;> simp only [Fm.app, Fm.val, Mx.neg] <;> grind
theorem det_neg (m : Mx) : m.neg.det = m.det := by simp only [Mx.det, Mx.neg]; grind
theorem down {D s : Int} (hd : Dis D s) {f g : Fm} {m : Mx} (hf : Ed D f) (hg : Ed D g) (hdet : m.det = 1) (h : f.app m = g) (hn : Nn m ∨ Nn m.neg) : ∃ n, g = rivN n f := by
 rcases hn with hn | hn
 ·obtain ⟨n, e⟩ := river hd _ f m hf hn hdet (Nat.le_refl _) (by rw [h]; exact hg.a) (by rw [h]; exact hg.c)
  exact ⟨n, by rw [← h, e]⟩
 ·obtain ⟨n, e⟩ := river hd _ f m.neg hf hn (by rw [det_neg, hdet]) (Nat.le_refl _) (by rw [app_neg, h]; exact hg.a) (by rw [app_neg, h]; exact hg.c)
  exact ⟨n, by rw [← h, ← app_neg, e]⟩
theorem cyc_mul {s : Int} {f : Fm} {p : Nat} (h : rhoN s p f = f) : ∀ c, rhoN s (p * c) f = f
 | 0 => rfl
 | c + 1 => by rw [Nat.mul_succ, rhoN_add, h]; exact cyc_mul h c
theorem cyc_symm {D s : Int} (hd : Dis D s) {f g : Fm} (hf : RD D s f) {n : Nat} (h : g = rhoN s n f) : ∃ m, f = rhoN s m g := by
 obtain ⟨p, h1, _, h3⟩ := closes hd hf
 have h4 := cyc_mul h3 n
 have h5 : n ≤ p * n := Nat.le_mul_of_pos_left n h1
 refine ⟨p * n - n, ?_⟩
 rw [h, ← rhoN_add, show p * n - n + n = p * n by omega, h4]
end Go.Proofs.YtnfmjlhkknndhaaGreat
/-
 Plain facts: when forms are equivalent, and by which matrix; the values that a cycle shows.
-/
namespace Go.Proofs.YtnfmjlhkknndhaaGreat
open Go Go.RowKit
open Go.IntKind (wrap i64 i32 i16 i8 u64 u32 u16 u8)
theorem rd_self {f : Fm} (h : redQ f = true) : redR f = f := by
 have h0 : stepsOf f = 0 := redN0_spec _ _ 0 f (by omega) h (fun i hi => by omega)
 rw [redR, if_pos (redQ_iff.1 h).1, redG, h0]
 rfl
theorem getD_lt {l : List Fm} {j : Nat} (hj : j < l.length) (d : Fm) : l.getD j d = l[j] := by
 rw [List.getD_eq_getElem?_getD, List.getElem?_eq_getElem hj]
 rfl
theorem mem_cyL {f g : Fm} (h : knE f.disc = 0) : g ∈ cyL f ↔ ∃ n, g = rhoN (knS f.disc) n (redR f) := by
 have e : cyL f = (List.range (perOf (redR f))).map fun j => rhoN (knS (redR f).disc) j (redR f) := if_pos h
 obtain ⟨h1, h2⟩ := redR_RD h
 obtain ⟨p1, _, p3, _⟩ := per_spec h1
 rw [h2] at p3
 rw [e, List.mem_map, h2]
 constructor
 ·rintro ⟨j, _, q⟩
  exact ⟨j, q.symm⟩
 ·rintro ⟨n, q⟩
  refine ⟨n % perOf (redR f), List.mem_range.2 (Nat.mod_lt _ p1), ?_⟩
  have h3 := cyc_mul p3 (n / perOf (redR f))
  have h4 := rhoN_add (knS f.disc) (n % perOf (redR f)) (perOf (redR f) * (n / perOf (redR f))) (redR f)
  rw [Nat.mod_add_div, h3] at h4
  rw [q, h4]
end Go.Proofs.YtnfmjlhkknndhaaGreat
/-
 Plain facts: the cycles part the primitive reduced forms; each begins with its least form.
-/
namespace Go.Proofs.YtnfmjlhkknndhaaGreat
open Go Go.RowKit
open Go.IntKind (wrap i64 i32 i16 i8 u64 u32 u16 u8)
def Lt (f g : Fm) : Prop := f.A < g.A ∨ f.A = g.A ∧ f.B < g.B
theorem Lt.less {f g : Fm} (h : Lt f g) : lessF f g = true := by
 unfold lessF
 refine decide_eq_true ?_
 rcases h with h | ⟨h1, h2⟩
 ·exact .inl h
 ·exact .inr ⟨h1, .inl h2⟩
theorem Lt.ne {f g : Fm} (h : Lt f g) : f ≠ g := fun e => by
 subst e
 rcases h with h | h <;> omega
def Srt (l : List Fm) : Prop := l.Pairwise Lt
theorem rowL_srt {D a : Int} {out : List Fm} (ho : Srt out) (hb : ∀ f ∈ out, f.A < a) : ∀ j : Nat, Srt (rowL D a j out) ∧ ∀ f ∈ rowL D a j out, f.A < a ∨ f.A = a ∧ f.B ≤ j
 | 0 => ⟨ho, fun f hf => .inl (hb f hf)⟩
 | j + 1 => by
  obtain ⟨h1, h2⟩ := rowL_srt ho hb j
  show Srt (procL D (rowL D a j out) a ((j : Int) + 1)) ∧ ∀ f ∈ procL D (rowL D a j out) a ((j : Int) + 1), _
  unfold procL
  split
  ·refine ⟨List.pairwise_append.2 ⟨h1, List.pairwise_singleton _ _, fun x hx y hy => ?_⟩, fun f hf => ?_⟩
   ·rw [List.mem_singleton.1 hy]
    rcases h2 x hx with h | ⟨h3, h4⟩
    ·exact .inl h
    ·exact .inr ⟨h3, by show x.B < (j : Int) + 1; omega⟩
   ·rcases List.mem_append.1 hf with h | h
    ·rcases h2 f h with h | ⟨h3, h4⟩
     ·exact .inl h
     ·exact .inr ⟨h3, by omega⟩
    ·rw [List.mem_singleton.1 h]
     exact .inr ⟨rfl, by show (j : Int) + 1 ≤ ((j + 1 : Nat) : Int); omega⟩
  ·refine ⟨h1, fun f hf => ?_⟩
   rcases h2 f hf with h | ⟨h3, h4⟩
   ·exact .inl h
   ·exact .inr ⟨h3, by omega⟩
theorem allL_srt (D s : Int) : ∀ i : Nat, Srt (allL D s i) ∧ ∀ f ∈ allL D s i, f.A < -s + (i : Int)
 | 0 => ⟨List.Pairwise.nil, fun f hf => by simp [allL] at hf⟩
 | i + 1 => by
  obtain ⟨h1, h2⟩ := allL_srt D s i
  obtain ⟨h3, h4⟩ := rowL_srt (D := D) h1 h2 s.toNat
  refine ⟨h3, fun f hf => ?_⟩
  rcases h4 f hf with h | ⟨h, _⟩ <;> omega
theorem listL_srt (d : Int) : Srt (listL d) := (allL_srt _ _ _).1
theorem prim_app {f : Fm} {m : Mx} (h : primF f = true) (hdet : m.det = 1) : primF (f.app m) = true := by
 unfold primF at h ⊢
 rw [decide_eq_true_iff] at h ⊢
 generalize hg : Int.gcd (Int.gcd (f.app m).A (f.app m).B : Int) (f.app m).C = g at *
 have d3 : (g : Int) ∣ (f.app m).C := by rw [← hg]; exact Int.gcd_dvd_right ..
 have d12 : (g : Int) ∣ (Int.gcd (f.app m).A (f.app m).B : Int) := by rw [← hg]; exact Int.gcd_dvd_left ..
 have d1 : (g : Int) ∣ (f.app m).A := Int.dvd_trans d12 (Int.gcd_dvd_left ..)
 have d2 : (g : Int) ∣ (f.app m).B := Int.dvd_trans d12 (Int.gcd_dvd_right ..)
 obtain ⟨a, ha⟩ := d1
 obtain ⟨b, hb⟩ := d2
 obtain ⟨c, hc⟩ := d3
 have back : (f.app m).app m.inv = f := app_inv hdet
 have e1 : f.A = (g : Int) * Fm.val ⟨a, b, c⟩ m.inv.a m.inv.c := by
  rw [← back]
  simp only [Fm.app, Fm.val] at ha hb hc ⊢
  rw [ha, hb, hc]
  grind
 have e2 : f.B = (g : Int) * (Fm.app ⟨a, b, c⟩ m.inv).B := by
  rw [← back]
  simp only [Fm.app, Fm.val] at ha hb hc ⊢
  rw [ha, hb, hc]
  grind
 have e3 : f.C = (g : Int) * Fm.val ⟨a, b, c⟩ m.inv.b m.inv.d := by
  rw [← back]
  simp only [Fm.app, Fm.val] at ha hb hc ⊢
  rw [ha, hb, hc]
  grind
 have : (g : Int) ∣ ((Int.gcd (Int.gcd f.A f.B : Int) f.C : Nat) : Int) := Int.dvd_coe_gcd (Int.dvd_coe_gcd ⟨_, e1⟩ ⟨_, e2⟩) ⟨_, e3⟩
 rw [h] at this
 have h1 : (g : Int) ∣ ((1 : Nat) : Int) := this
 exact Nat.dvd_one.1 (Int.ofNat_dvd.1 h1)
theorem mem_cyG {g h : Fm} (hr : redQ g = true) : h ∈ cyG g ↔ ∃ n, h = rhoN (knS g.disc) n g := by
 have k := (redQ_iff.1 hr).1
 have e : cyL g = cyG g := by
  have : cyL g = (List.range (perOf (redR g))).map fun j => rhoN (knS (redR g).disc) j (redR g) := if_pos k
  rw [this, rd_self hr]
  rfl
 rw [← e, mem_cyL k, rd_self hr]
structure Pr (D : Int) (f : Fm) : Prop where
 d : f.disc = D
 r : redQ f = true
 p : primF f = true
theorem Pr.k {D : Int} {f : Fm} (h : Pr D f) : knE D = 0 := by rw [← h.d]; exact (redQ_iff.1 h.r).1
theorem Pr.RD {D : Int} {f : Fm} (h : Pr D f) : RD D (knS D) f := by have := (redQ_RD.1 h.r).2; rw [h.d] at this; exact this
theorem Pr.mem {D : Int} {f g : Fm} (h : Pr D f) : g ∈ cyG f ↔ ∃ n, g = rhoN (knS D) n f := by rw [mem_cyG h.r, h.d]
theorem Pr.self {D : Int} {f : Fm} (h : Pr D f) : f ∈ cyG f := h.mem.2 ⟨0, rfl⟩
theorem Pr.cyc {D : Int} {f g : Fm} (h : Pr D f) (hg : g ∈ cyG f) : Pr D g := by
 obtain ⟨n, e⟩ := h.mem.1 hg
 obtain ⟨hd, _⟩ := kn_dis h.k
 have hr := Go.Proofs.YtnfmjlhkknndhaaGreat.RD.rhoN hd n h.RD
 rw [← e] at hr
 refine ⟨hr.h, redQ_RD.2 ⟨by rw [hr.h]; exact h.k, by rw [hr.h]; exact hr⟩, ?_⟩
 rw [e, ← walkR_app hd n h.d]
 exact prim_app h.p (walkR_det _ _ _)
theorem Pr.symm {D : Int} {f g : Fm} (h : Pr D f) (hg : g ∈ cyG f) : f ∈ cyG g := by
 obtain ⟨n, e⟩ := h.mem.1 hg
 obtain ⟨hd, _⟩ := kn_dis h.k
 exact (h.cyc hg).mem.2 (cyc_symm hd h.RD e)
theorem Pr.trans {D : Int} {f g k : Fm} (h : Pr D f) (hg : g ∈ cyG f) (hk : k ∈ cyG g) : k ∈ cyG f := by
 obtain ⟨n, e⟩ := h.mem.1 hg
 obtain ⟨m, e2⟩ := (h.cyc hg).mem.1 hk
 exact h.mem.2 ⟨m + n, by rw [rhoN_add, ← e, e2]⟩
theorem seen_iff {out : List Fm} {f : Fm} : seenL out f = true ↔ ∃ g ∈ out, f ∈ cyG g := by
 unfold seenL
 rw [List.any_eq_true]
 constructor
 ·rintro ⟨g, h1, h2⟩
  obtain ⟨x, h3, h4⟩ := List.any_eq_true.1 h2
  exact ⟨g, h1, by rw [← of_decide_eq_true h4]; exact h3⟩
 ·rintro ⟨g, h1, h2⟩
  exact ⟨g, h1, List.any_eq_true.2 ⟨f, h2, decide_eq_true rfl⟩⟩
structure CyInv (Q out : List Fm) : Prop where
 s : Srt out
 i : ∀ g ∈ out, g ∈ Q
 c : ∀ f ∈ Q, ∃ g ∈ out, f ∈ cyG g
 d : out.Pairwise fun g h => h ∉ cyG g
 l : ∀ g ∈ out, ∀ f ∈ Q, f ∈ cyG g → f = g ∨ Lt g f
theorem cy_step {D : Int} {Q out : List Fm} {f : Fm} (h : CyInv Q out) (hQ : ∀ g ∈ Q, Pr D g) (hf : Pr D f) (hlt : ∀ g ∈ Q, Lt g f) : CyInv (Q ++ [f]) (stepG out f) := by
 unfold stepG
 split
 ·rename_i hs
  refine ⟨h.s, fun g hg => List.mem_append.2 (.inl (h.i g hg)), fun x hx => ?_, h.d, fun g hg x hx hxg => ?_⟩
  ·rcases List.mem_append.1 hx with q | q
   ·exact h.c x q
   ·rw [List.mem_singleton.1 q]
    exact seen_iff.1 hs
  ·rcases List.mem_append.1 hx with q | q
   ·exact h.l g hg x q hxg
   ·rw [List.mem_singleton.1 q]
    exact .inr (hlt g (h.i g hg))
 ·rename_i hs
  refine ⟨List.pairwise_append.2 ⟨h.s, List.pairwise_singleton _ _, fun x hx y hy => ?_⟩, fun g hg => ?_, fun x hx => ?_, List.pairwise_append.2 ⟨h.d, List.pairwise_singleton _ _, fun x hx y hy => ?_⟩, fun g hg x hx hxg => ?_⟩
  ·rw [List.mem_singleton.1 hy]
   exact hlt x (h.i x hx)
  ·rcases List.mem_append.1 hg with q | q
   ·exact List.mem_append.2 (.inl (h.i g q))
   ·exact List.mem_append.2 (.inr q)
  ·rcases List.mem_append.1 hx with q | q
   ·obtain ⟨g, g1, g2⟩ := h.c x q
    exact ⟨g, List.mem_append.2 (.inl g1), g2⟩
   ·rw [List.mem_singleton.1 q]
    exact ⟨f, List.mem_append.2 (.inr (List.mem_singleton.2 rfl)), hf.self⟩
  ·rw [List.mem_singleton.1 hy]
   exact fun q => hs (seen_iff.2 ⟨x, hx, q⟩)
  ·rcases List.mem_append.1 hg with q | q
   ·rcases List.mem_append.1 hx with q2 | q2
    ·exact h.l g q x q2 hxg
    ·rw [List.mem_singleton.1 q2]
     exact .inr (hlt g (h.i g q))
   ·rw [List.mem_singleton.1 q] at hxg ⊢
    rcases List.mem_append.1 hx with q2 | q2
    ·exfalso
     obtain ⟨g', g1, g2⟩ := h.c x q2
     exact hs (seen_iff.2 ⟨g', g1, (hQ g' (h.i g' g1)).trans g2 (hf.symm hxg)⟩)
    ·exact .inl (List.mem_singleton.1 q2)
theorem cy_all {D : Int} : ∀ (l Q out : List Fm), CyInv Q out → (∀ g ∈ Q ++ l, Pr D g) → Srt (Q ++ l) → CyInv (Q ++ l) (l.foldl stepG out)
 | [], Q, out, h, _, _ => by rw [List.append_nil]; exact h
 | f :: l, Q, out, h, hp, hs => by
  have e : Q ++ f :: l = (Q ++ [f]) ++ l := by simp
  rw [e] at hp hs ⊢
  refine cy_all l (Q ++ [f]) (stepG out f) (cy_step h (fun g hg => hp g (by simp [hg])) (hp f (by simp)) fun g hg => ?_) hp hs
  have := (List.pairwise_append.1 (List.pairwise_append.1 hs).1).2.2 g hg f (by simp)
  exact this
theorem cysL_inv {D : Int} (hk : knE D = 0) : CyInv (listL D) (cysL D) := by
 rw [cysL_eq hk]
 have := cy_all (D := D) (listL D) [] [] ⟨List.Pairwise.nil, fun g hg => absurd hg (by simp), fun f hf => absurd hf (by simp), List.Pairwise.nil, fun g hg => absurd hg (by simp)⟩ (fun g hg => by
  obtain ⟨h1, h2, h3⟩ := (listL_mem hk).1 (by simpa using hg)
  exact ⟨h1, h2, h3⟩) (by simpa using listL_srt D)
 simpa using this
end Go.Proofs.YtnfmjlhkknndhaaGreat
/-
 Plain facts: the cycles hold each primitive reduced form once.
-/
namespace Go.Proofs.YtnfmjlhkknndhaaGreat
open Go Go.RowKit
open Go.IntKind (wrap i64 i32 i16 i8 u64 u32 u16 u8)
def lenS (L : List Fm) : Nat → Nat
 | 0 => 0
 | n + 1 => lenS L n + (cyG (L.getD n ⟨0, 0, 0⟩)).length
def cntR (f : Fm) (l : List Fm) : Nat → Nat
 | 0 => 0
 | j + 1 => cntR f l j + cond (eqF (l.getD j ⟨0, 0, 0⟩) f) 1 0
def cntS (f : Fm) (L : List Fm) : Nat → Nat
 | 0 => 0
 | n + 1 => cntS f L n + cntR f (cyG (L.getD n ⟨0, 0, 0⟩)) (cyG (L.getD n ⟨0, 0, 0⟩)).length
def catS (L : List Fm) : Nat → List Fm
 | 0 => []
 | n + 1 => catS L n ++ cyG (L.getD n ⟨0, 0, 0⟩)
def cntL (f : Fm) (l : List Fm) : Nat := (l.filter fun g => eqF g f).length
theorem lenS_cat (L : List Fm) : ∀ n, lenS L n = (catS L n).length
 | 0 => rfl
 | n + 1 => by
  show lenS L n + _ = (catS L n ++ _).length
  rw [List.length_append, lenS_cat L n]
theorem cntR_take (f : Fm) (l : List Fm) : ∀ j, j ≤ l.length → cntR f l j = cntL f (l.take j)
 | 0, _ => rfl
 | j + 1, h => by
  show cntR f l j + cond (eqF (l.getD j ⟨0, 0, 0⟩) f) 1 0 = _
  rw [cntR_take f l j (by omega), cntL, cntL, List.take_add_one, List.getElem?_eq_getElem (show j < l.length by omega), List.filter_append, List.length_append, getD_lt (show j < l.length by omega)]
  cases he : eqF l[j] f <;> simp [he]
theorem cntR_all (f : Fm) (l : List Fm) : cntR f l l.length = cntL f l := by rw [cntR_take f l _ (Nat.le_refl _), List.take_length]
theorem cntS_cat (f : Fm) (L : List Fm) : ∀ n, cntS f L n = cntL f (catS L n)
 | 0 => rfl
 | n + 1 => by
  show cntS f L n + cntR _ _ _ = cntL f (catS L n ++ _)
  rw [cntS_cat f L n, cntR_all, cntL, cntL, cntL, List.filter_append, List.length_append]
theorem cntR_le (f : Fm) (l : List Fm) : ∀ j, cntR f l j ≤ j
 | 0 => Nat.le_refl _
 | j + 1 => by
  show cntR f l j + cond _ 1 0 ≤ j + 1
  have := cntR_le f l j
  cases eqF (l.getD j ⟨0, 0, 0⟩) f <;> simp only [cond_true, cond_false] <;> omega
theorem cntS_le (f : Fm) (L : List Fm) : ∀ n, cntS f L n ≤ lenS L n
 | 0 => Nat.le_refl _
 | n + 1 => Nat.add_le_add (cntS_le f L n) (cntR_le _ _ _)
theorem lenS_mono (L : List Fm) {n m : Nat} (h : n ≤ m) : lenS L n ≤ lenS L m := by
 induction m with
 | zero => rw [Nat.le_zero.1 h]; exact Nat.le_refl _
 | succ m ih =>
  rcases Nat.lt_or_ge m n with q | q
  ·rw [show n = m + 1 by omega]; exact Nat.le_refl _
  ·exact Nat.le_trans (ih q) (Nat.le_add_right _ _)
theorem nodup_len : ∀ {a b : List Fm}, a.Nodup → (∀ x ∈ a, x ∈ b) → a.length ≤ b.length
 | [], _, _, _ => Nat.zero_le _
 | x :: a, b, h, hs => by
  obtain ⟨h1, h2⟩ := List.nodup_cons.1 h
  have hx := hs x (List.mem_cons_self ..)
  have := nodup_len (b := b.erase x) h2 fun y hy => (List.mem_erase_of_ne fun (e : y = x) => h1 (by rw [← e]; exact hy)).2 (hs y (List.mem_cons_of_mem _ hy))
  rw [List.length_erase_of_mem hx] at this
  have hp := List.length_pos_of_mem hx
  rw [List.length_cons]
  omega
theorem cnt_zero {f : Fm} {l : List Fm} (h : f ∉ l) : cntL f l = 0 := by
 rw [cntL, List.length_eq_zero_iff, List.filter_eq_nil_iff]
 exact fun x hx q => h (by rw [← of_decide_eq_true q]; exact hx)
theorem cnt_one {f : Fm} : ∀ {l : List Fm}, l.Nodup → f ∈ l → cntL f l = 1
 | [], _, h => absurd h (by simp)
 | x :: l, h, hf => by
  obtain ⟨h1, h2⟩ := List.nodup_cons.1 h
  rw [cntL, List.filter_cons]
  by_cases e : x = f
  ·subst e
   rw [if_pos (eqF_refl _), List.length_cons]
   have := cnt_zero h1
   rw [cntL] at this
   omega
  ·have e2 : ¬ eqF x f = true := fun q => e (of_decide_eq_true q)
   rw [if_neg e2]
   rcases List.mem_cons.1 hf with q | q
   ·exact absurd q.symm e
   ·exact cnt_one h2 q
theorem cyG_nodup {D : Int} {g : Fm} (h : Pr D g) : (cyG g).Nodup := by
 obtain ⟨hd, _⟩ := kn_dis h.k
 have hp := per_spec h.r
 rw [h.d] at hp
 refine List.pairwise_iff_getElem.2 fun i j hi hj hij => ?_
 have hj2 : j < perOf g := by simpa [cyG] using hj
 simp only [cyG, List.getElem_map, List.getElem_range]
 intro q
 rw [h.d] at q
 refine hp.2.2.2 (j - i) (by omega) (by omega) (RD.inj hd i (RD.rhoN hd _ h.RD) h.RD ?_)
 rw [← rhoN_add, show i + (j - i) = j by omega, q]
theorem mem_cat {L : List Fm} {x : Fm} : ∀ {n : Nat}, n ≤ L.length → (x ∈ catS L n ↔ ∃ m, ∃ h : m < L.length, m < n ∧ x ∈ cyG L[m])
 | 0, _ => ⟨fun h => absurd h (by simp [catS]), fun ⟨m, _, h, _⟩ => absurd h (by omega)⟩
 | n + 1, hn => by
  show x ∈ catS L n ++ _ ↔ _
  rw [List.mem_append, mem_cat (by omega), getD_lt (show n < L.length by omega)]
  constructor
  ·rintro (⟨m, h, q, r⟩ | q)
   ·exact ⟨m, h, by omega, r⟩
   ·exact ⟨n, by omega, by omega, q⟩
  ·rintro ⟨m, h, q, r⟩
   rcases Nat.lt_or_ge m n with k | k
   ·exact .inl ⟨m, h, k, r⟩
   ·have : m = n := by omega
    subst this
    exact .inr r
structure PtOk (D : Int) : Prop where
 pr : ∀ g ∈ cysL D, Pr D g
 len : lenS (cysL D) (cysL D).length = (listL D).length
 one : ∀ f ∈ listL D, cntS f (cysL D) (cysL D).length = 1
theorem ptOk {D : Int} (hk : knE D = 0) : PtOk D := by
 have hv := cysL_inv hk
 have prL : ∀ f ∈ listL D, Pr D f := fun f hf => by
  obtain ⟨h1, h2, h3⟩ := (listL_mem hk).1 hf
  exact ⟨h1, h2, h3⟩
 have prC : ∀ g ∈ cysL D, Pr D g := fun g hg => prL g (hv.i g hg)
 have hnd : ∀ n, n ≤ (cysL D).length → (catS (cysL D) n).Nodup := by
  intro n
  induction n with
  | zero => exact fun _ => List.Pairwise.nil
  | succ n ih =>
   intro hn
   have hn' : n < (cysL D).length := by omega
   show (catS (cysL D) n ++ _).Nodup
   rw [getD_lt hn']
   refine List.nodup_append.2 ⟨ih (by omega), cyG_nodup (prC _ (List.getElem_mem hn')), fun x hx y hy e => ?_⟩
   subst e
   obtain ⟨m, h, q, r⟩ := (mem_cat (by omega)).1 hx
   have p1 := prC _ (List.getElem_mem h)
   have p2 := prC _ (List.getElem_mem hn')
   exact List.pairwise_iff_getElem.1 hv.d m n h hn' q (p1.trans r (p2.symm hy))
 have hmem : ∀ x, x ∈ catS (cysL D) (cysL D).length ↔ x ∈ listL D := fun x => by
  rw [mem_cat (Nat.le_refl _)]
  constructor
  ·rintro ⟨m, h, _, r⟩
   have := (prC _ (List.getElem_mem h)).cyc r
   exact (listL_mem hk).2 ⟨this.d, this.r, this.p⟩
  ·intro hx
   obtain ⟨g, h1, h2⟩ := hv.c x hx
   obtain ⟨m, hm, e⟩ := List.getElem_of_mem h1
   exact ⟨m, hm, hm, by rw [e]; exact h2⟩
 have hnl : (listL D).Nodup := (listL_srt D).imp Lt.ne
 refine ⟨prC, ?_, fun f hf => ?_⟩
 ·rw [lenS_cat]
  exact Nat.le_antisymm (nodup_len (hnd _ (Nat.le_refl _)) fun x hx => (hmem x).1 hx) (nodup_len hnl fun x hx => (hmem x).2 hx)
 ·rw [cntS_cat]
  exact cnt_one (hnd _ (Nat.le_refl _)) ((hmem f).2 hf)
end Go.Proofs.YtnfmjlhkknndhaaGreat
/-
 The walk of CycleLists.
-/
namespace Go.Proofs.YtnfmjlhkknndhaaGreat
open Go Go.RowKit
open Go.IntKind (wrap i64 i32 i16 i8 u64 u32 u16 u8)
theorem perGo_le (s : Int) (f : Fm) : ∀ (k : Nat) (g : Fm), perGo k s f g ≤ k + 1
 | 0, _ => Nat.le_refl _
 | k + 1, g => by
  show (cond _ 1 (perGo k s f (rho s g) + 1)) ≤ k + 1 + 1
  have := perGo_le s f k (rho s g)
  cases (decide (g.A = f.A) && (decide (g.B = f.B) && decide (g.C = f.C))) <;> simp only [cond_true, cond_false] <;> omega
theorem knS_le (d : Int) : knS d ≤ 255 := by
 by_cases h : knE d = 0
 ·exact (kn_dis h).2.1
 ·rw [knS, if_neg h]; omega
theorem cyG_le (g : Fm) : (cyG g).length ≤ 65409 := by
 rw [cyG, List.length_map, List.length_range]
 have h1 := perGo_le (knS g.disc) g ((2 * (knS g.disc).toNat + 1) * ((knS g.disc).toNat / 2 + 1)) (rho (knS g.disc) g)
 have hs := knS_le g.disc
 have h2 : (2 * (knS g.disc).toNat + 1) * ((knS g.disc).toNat / 2 + 1) ≤ 511 * 128 := Nat.mul_le_mul (by omega) (by omega)
 show perGo _ _ _ _ ≤ _
 omega
theorem cysL_le (d : Int) : (cysL d).length ≤ 130305 := by
 rw [cysL]
 by_cases h : knE d = 0
 ·rw [if_pos h]
  have hs := knS_le d
  have h2 : (2 * (knS d).toNat + 1) * (knS d).toNat ≤ 511 * 255 := Nat.mul_le_mul (by omega) (by omega)
  have := all_len d (knS d) (2 * (knS d).toNat + 1)
  omega
 ·rw [if_neg h]; simp
end Go.Proofs.YtnfmjlhkknndhaaGreat
/-
 The walk of CyclePartition.
-/
namespace Go.Proofs.YtnfmjlhkknndhaaGreat
open Go Go.RowKit
open Go.IntKind (wrap i64 i32 i16 i8 u64 u32 u16 u8)
def rw4 (L : List Fm) (i : Nat) : List Fm := cyG (L.getD i ⟨0, 0, 0⟩)
def nat4 : MV → Nat
 | .int _ n => n.toNat
 | _ => 0
def a_v4 (L l : List Fm) (D : Int) : Nat → MS → Option LoopAnn
 | 7, e => some (.inv WalkI (fun i => i.i ≤ L.length) (fun i => ⟨139, [(3, .bool true), (4, .sl 1 L.length (cysR L)), (5, .int .i64 (knE D)), (6, lmv l 64), (7, .int .i64 (lenS L i.i : Int)), (8, .int .i64 (i.i : Int))], e.bx, 0⟩) (fun i => L.length - i.i))
 | 12, e => some (.inv WalkI (fun k => k.i + 1 ≤ (rw4 L (nat4 (look 8 e.tm))).length) (fun k => ⟨139, [(3, .bool true), (4, .sl 1 L.length (cysR L)), (5, .int .i64 (knE D)), (6, lmv l 64), (7, look 7 e.tm), (8, look 8 e.tm), (9, .int .i64 ((k.i : Int) + 1))], e.bx, 0⟩) (fun k => (rw4 L (nat4 (look 8 e.tm))).length - k.i))
 | 18, e => some (.inv WalkI (fun i => i.i ≤ l.length) (fun i => ⟨139, [(3, .bool true), (4, .sl 1 L.length (cysR L)), (5, .int .i64 (knE D)), (6, lmv l 64), (7, .int .i64 (lenS L L.length : Int)), (10, .int .i64 (i.i : Int))], e.bx, 0⟩) (fun i => l.length - i.i))
 | 22, e => some (.inv WalkI (fun k => k.i ≤ L.length) (fun k => ⟨139, [(3, .bool true), (4, .sl 1 L.length (cysR L)), (5, .int .i64 (knE D)), (6, lmv l 64), (7, look 7 e.tm), (10, look 10 e.tm), (11, .int .i64 (cntS (l.getD (nat4 (look 10 e.tm)) ⟨0, 0, 0⟩) L k.i : Int)), (12, .int .i64 (k.i : Int))], e.bx, 0⟩) (fun k => L.length - k.i))
 | 25, e => some (.inv WalkI (fun j => j.i ≤ (rw4 L (nat4 (look 12 e.tm))).length) (fun j => ⟨139, [(3, .bool true), (4, .sl 1 L.length (cysR L)), (5, .int .i64 (knE D)), (6, lmv l 64), (7, look 7 e.tm), (10, look 10 e.tm), (11, .int .i64 ((cntS (l.getD (nat4 (look 10 e.tm)) ⟨0, 0, 0⟩) L (nat4 (look 12 e.tm)) + cntR (l.getD (nat4 (look 10 e.tm)) ⟨0, 0, 0⟩) (rw4 L (nat4 (look 12 e.tm))) j.i : Nat) : Int)), (12, look 12 e.tm), (13, .int .i64 (j.i : Int))], e.bx, 0⟩) (fun j => (rw4 L (nat4 (look 12 e.tm))).length - j.i))
 | _, _ => none
theorem vc_v4 (d i0 i1 m0 m1 : Int) : (((0 : Int) ≤ d ∧ d < 65536) ∧ Fit (sizeD d) ∧ (64 : Nat) ≤ 100000 ∧ ((0 : Int) ≤ d ∧ d < 65536) ∧ knE (sizeD d) = 0 ∧ (∃ i : WalkI, i.1 ≤ List.length (cysL (sizeD d)) ∧ (true = true ∧ ((1 : Nat) = 1 ∧ List.length (cysL (sizeD d)) = List.length (cysL (sizeD d)) ∧ LeFun (List.length (cysL (sizeD d))) (cysR (cysL (sizeD d))) (cysR (cysL (sizeD d)))) ∧ knE (sizeD d) = knE (sizeD d) ∧ ((6 : Nat) = 6 ∧ List.length (listL (sizeD d)) = List.length (listL (sizeD d)) ∧ LeFun (List.length (listL (sizeD d))) (fL (listL (sizeD d)) (64 : Nat)) (fL (listL (sizeD d)) (64 : Nat))) ∧ (0 : Int) = (↑(lenS (cysL (sizeD d)) (i.1)) : Int) ∧ (0 : Int) = (↑(i.1) : Int) ∧ True) ∧ (d = d ∧ (i0 = i0 ∧ i1 = i1 ∧ True) ∧ (m0 = m0 ∧ m1 = m1 ∧ True) ∧ True) ∧ True) ∧ ∀ (i : WalkI), i.1 ≤ List.length (cysL (sizeD d)) → bif decide ((↑(i.1) : Int) < (↑(List.length (cysL (sizeD d))) : Int)) then ((0 : Int) ≤ (↑(i.1) : Int) ∧ (↑(i.1) : Int) < (↑(List.length (cysL (sizeD d))) : Int)) ∧ bif (↑(List.length (cyG (List.getD (cysL (sizeD d)) (Int.toNat (↑(i.1) : Int)) (Fm.mk (0 : Int) (0 : Int) (0 : Int))))) : Int) == 0 then false = true else bif decide ((↑(i.1) : Int) > 0) then ((0 : Int) ≤ wrap i64 ((↑(i.1) : Int) - 1) ∧ wrap i64 ((↑(i.1) : Int) - 1) < (↑(List.length (cysL (sizeD d))) : Int)) ∧ ((0 : Int) ≤ 0 ∧ (0 : Int) < (↑(List.length (cyG (List.getD (cysL (sizeD d)) (Int.toNat (wrap i64 ((↑(i.1) : Int) - 1))) (Fm.mk (0 : Int) (0 : Int) (0 : Int))))) : Int)) ∧ ((0 : Int) ≤ (↑(i.1) : Int) ∧ (↑(i.1) : Int) < (↑(List.length (cysL (sizeD d))) : Int)) ∧ ((0 : Int) ≤ 0 ∧ (0 : Int) < (↑(List.length (cyG (List.getD (cysL (sizeD d)) (Int.toNat (↑(i.1) : Int)) (Fm.mk (0 : Int) (0 : Int) (0 : Int))))) : Int)) ∧ ((8 : Nat) ≤ 1000000 ∧ (8 : Nat) ≤ 1000000 ∧ (8 : Nat) ≤ 1000000 ∧ (8 : Nat) ≤ 1000000 ∧ (8 : Nat) ≤ 1000000 ∧ (8 : Nat) ≤ 1000000) ∧ bif !lessF (List.getD (cyG (List.getD (cysL (sizeD d)) (Int.toNat (wrap i64 ((↑(i.1) : Int) - 1))) (Fm.mk (0 : Int) (0 : Int) (0 : Int)))) (0 : Nat) (Fm.mk (0 : Int) (0 : Int) (0 : Int))) (List.getD (cyG (List.getD (cysL (sizeD d)) (Int.toNat (↑(i.1) : Int)) (Fm.mk (0 : Int) (0 : Int) (0 : Int)))) (0 : Nat) (Fm.mk (0 : Int) (0 : Int) (0 : Int))) then false = true else (∃ i_1 : WalkI, i_1.1 + 1 ≤ List.length (rw4 (cysL (sizeD d)) (nat4 (MV.int i64 (↑(i.1) : Int)))) ∧ (true = true ∧ ((1 : Nat) = 1 ∧ List.length (cysL (sizeD d)) = List.length (cysL (sizeD d)) ∧ LeFun (List.length (cysL (sizeD d))) (cysR (cysL (sizeD d))) (cysR (cysL (sizeD d)))) ∧ knE (sizeD d) = knE (sizeD d) ∧ ((6 : Nat) = 6 ∧ List.length (listL (sizeD d)) = List.length (listL (sizeD d)) ∧ LeFun (List.length (listL (sizeD d))) (fL (listL (sizeD d)) (64 : Nat)) (fL (listL (sizeD d)) (64 : Nat))) ∧ (↑(lenS (cysL (sizeD d)) (i.1)) : Int) = (↑(lenS (cysL (sizeD d)) (i.1)) : Int) ∧ (↑(i.1) : Int) = (↑(i.1) : Int) ∧ (1 : Int) = (↑(i_1.1) : Int) + 1 ∧ True) ∧ (d = d ∧ (i0 = i0 ∧ i1 = i1 ∧ True) ∧ (m0 = m0 ∧ m1 = m1 ∧ True) ∧ True) ∧ True) ∧ ∀ (i_1 : WalkI), i_1.1 + 1 ≤ List.length (rw4 (cysL (sizeD d)) (nat4 (MV.int i64 (↑(i.1) : Int)))) → ((0 : Int) ≤ (↑(i.1) : Int) ∧ (↑(i.1) : Int) < (↑(List.length (cysL (sizeD d))) : Int)) ∧ bif decide ((↑(i_1.1) : Int) + 1 < (↑(List.length (cyG (List.getD (cysL (sizeD d)) (Int.toNat (↑(i.1) : Int)) (Fm.mk (0 : Int) (0 : Int) (0 : Int))))) : Int)) then ((0 : Int) ≤ (↑(i.1) : Int) ∧ (↑(i.1) : Int) < (↑(List.length (cysL (sizeD d))) : Int)) ∧ ((0 : Int) ≤ 0 ∧ (0 : Int) < (↑(List.length (cyG (List.getD (cysL (sizeD d)) (Int.toNat (↑(i.1) : Int)) (Fm.mk (0 : Int) (0 : Int) (0 : Int))))) : Int)) ∧ ((0 : Int) ≤ (↑(i.1) : Int) ∧ (↑(i.1) : Int) < (↑(List.length (cysL (sizeD d))) : Int)) ∧ ((0 : Int) ≤ (↑(i_1.1) : Int) + 1 ∧ (↑(i_1.1) : Int) + 1 < (↑(List.length (cyG (List.getD (cysL (sizeD d)) (Int.toNat (↑(i.1) : Int)) (Fm.mk (0 : Int) (0 : Int) (0 : Int))))) : Int)) ∧ ((8 : Nat) ≤ 1000000 ∧ (8 : Nat) ≤ 1000000 ∧ (8 : Nat) ≤ 1000000 ∧ (8 : Nat) ≤ 1000000 ∧ (8 : Nat) ≤ 1000000 ∧ (8 : Nat) ≤ 1000000) ∧ bif !lessF (List.getD (cyG (List.getD (cysL (sizeD d)) (Int.toNat (↑(i.1) : Int)) (Fm.mk (0 : Int) (0 : Int) (0 : Int)))) (0 : Nat) (Fm.mk (0 : Int) (0 : Int) (0 : Int))) (List.getD (cyG (List.getD (cysL (sizeD d)) (Int.toNat (↑(i.1) : Int)) (Fm.mk (0 : Int) (0 : Int) (0 : Int)))) (Int.toNat ((↑(i_1.1) : Int) + 1)) (Fm.mk (0 : Int) (0 : Int) (0 : Int))) then false = true else ∃ j : WalkI, j.1 + 1 ≤ List.length (rw4 (cysL (sizeD d)) (nat4 (MV.int i64 (↑(i.1) : Int)))) ∧ ((true = true ∧ ((1 : Nat) = 1 ∧ List.length (cysL (sizeD d)) = List.length (cysL (sizeD d)) ∧ LeFun (List.length (cysL (sizeD d))) (cysR (cysL (sizeD d))) (cysR (cysL (sizeD d)))) ∧ knE (sizeD d) = knE (sizeD d) ∧ ((6 : Nat) = 6 ∧ List.length (listL (sizeD d)) = List.length (listL (sizeD d)) ∧ LeFun (List.length (listL (sizeD d))) (fL (listL (sizeD d)) (64 : Nat)) (fL (listL (sizeD d)) (64 : Nat))) ∧ (↑(lenS (cysL (sizeD d)) (i.1)) : Int) = (↑(lenS (cysL (sizeD d)) (i.1)) : Int) ∧ (↑(i.1) : Int) = (↑(i.1) : Int) ∧ wrap i64 ((↑(i_1.1) : Int) + 1 + 1) = (↑(j.1) : Int) + 1 ∧ True) ∧ (d = d ∧ (i0 = i0 ∧ i1 = i1 ∧ True) ∧ (m0 = m0 ∧ m1 = m1 ∧ True) ∧ True) ∧ True) ∧ List.length (rw4 (cysL (sizeD d)) (nat4 (MV.int i64 (↑(i.1) : Int)))) - j.1 < List.length (rw4 (cysL (sizeD d)) (nat4 (MV.int i64 (↑(i.1) : Int)))) - i_1.1 else ((0 : Int) ≤ (↑(i.1) : Int) ∧ (↑(i.1) : Int) < (↑(List.length (cysL (sizeD d))) : Int)) ∧ ∃ j : WalkI, j.1 ≤ List.length (cysL (sizeD d)) ∧ ((true = true ∧ ((1 : Nat) = 1 ∧ List.length (cysL (sizeD d)) = List.length (cysL (sizeD d)) ∧ LeFun (List.length (cysL (sizeD d))) (cysR (cysL (sizeD d))) (cysR (cysL (sizeD d)))) ∧ knE (sizeD d) = knE (sizeD d) ∧ ((6 : Nat) = 6 ∧ List.length (listL (sizeD d)) = List.length (listL (sizeD d)) ∧ LeFun (List.length (listL (sizeD d))) (fL (listL (sizeD d)) (64 : Nat)) (fL (listL (sizeD d)) (64 : Nat))) ∧ wrap i64 ((↑(lenS (cysL (sizeD d)) (i.1)) : Int) + (↑(List.length (cyG (List.getD (cysL (sizeD d)) (Int.toNat (↑(i.1) : Int)) (Fm.mk (0 : Int) (0 : Int) (0 : Int))))) : Int)) = (↑(lenS (cysL (sizeD d)) (j.1)) : Int) ∧ wrap i64 ((↑(i.1) : Int) + 1) = (↑(j.1) : Int) ∧ True) ∧ (d = d ∧ (i0 = i0 ∧ i1 = i1 ∧ True) ∧ (m0 = m0 ∧ m1 = m1 ∧ True) ∧ True) ∧ True) ∧ List.length (cysL (sizeD d)) - j.1 < List.length (cysL (sizeD d)) - i.1 else (∃ i_1 : WalkI, i_1.1 + 1 ≤ List.length (rw4 (cysL (sizeD d)) (nat4 (MV.int i64 (↑(i.1) : Int)))) ∧ (true = true ∧ ((1 : Nat) = 1 ∧ List.length (cysL (sizeD d)) = List.length (cysL (sizeD d)) ∧ LeFun (List.length (cysL (sizeD d))) (cysR (cysL (sizeD d))) (cysR (cysL (sizeD d)))) ∧ knE (sizeD d) = knE (sizeD d) ∧ ((6 : Nat) = 6 ∧ List.length (listL (sizeD d)) = List.length (listL (sizeD d)) ∧ LeFun (List.length (listL (sizeD d))) (fL (listL (sizeD d)) (64 : Nat)) (fL (listL (sizeD d)) (64 : Nat))) ∧ (↑(lenS (cysL (sizeD d)) (i.1)) : Int) = (↑(lenS (cysL (sizeD d)) (i.1)) : Int) ∧ (↑(i.1) : Int) = (↑(i.1) : Int) ∧ (1 : Int) = (↑(i_1.1) : Int) + 1 ∧ True) ∧ (d = d ∧ (i0 = i0 ∧ i1 = i1 ∧ True) ∧ (m0 = m0 ∧ m1 = m1 ∧ True) ∧ True) ∧ True) ∧ ∀ (i_1 : WalkI), i_1.1 + 1 ≤ List.length (rw4 (cysL (sizeD d)) (nat4 (MV.int i64 (↑(i.1) : Int)))) → ((0 : Int) ≤ (↑(i.1) : Int) ∧ (↑(i.1) : Int) < (↑(List.length (cysL (sizeD d))) : Int)) ∧ bif decide ((↑(i_1.1) : Int) + 1 < (↑(List.length (cyG (List.getD (cysL (sizeD d)) (Int.toNat (↑(i.1) : Int)) (Fm.mk (0 : Int) (0 : Int) (0 : Int))))) : Int)) then ((0 : Int) ≤ (↑(i.1) : Int) ∧ (↑(i.1) : Int) < (↑(List.length (cysL (sizeD d))) : Int)) ∧ ((0 : Int) ≤ 0 ∧ (0 : Int) < (↑(List.length (cyG (List.getD (cysL (sizeD d)) (Int.toNat (↑(i.1) : Int)) (Fm.mk (0 : Int) (0 : Int) (0 : Int))))) : Int)) ∧ ((0 : Int) ≤ (↑(i.1) : Int) ∧ (↑(i.1) : Int) < (↑(List.length (cysL (sizeD d))) : Int)) ∧ ((0 : Int) ≤ (↑(i_1.1) : Int) + 1 ∧ (↑(i_1.1) : Int) + 1 < (↑(List.length (cyG (List.getD (cysL (sizeD d)) (Int.toNat (↑(i.1) : Int)) (Fm.mk (0 : Int) (0 : Int) (0 : Int))))) : Int)) ∧ ((8 : Nat) ≤ 1000000 ∧ (8 : Nat) ≤ 1000000 ∧ (8 : Nat) ≤ 1000000 ∧ (8 : Nat) ≤ 1000000 ∧ (8 : Nat) ≤ 1000000 ∧ (8 : Nat) ≤ 1000000) ∧ bif !lessF (List.getD (cyG (List.getD (cysL (sizeD d)) (Int.toNat (↑(i.1) : Int)) (Fm.mk (0 : Int) (0 : Int) (0 : Int)))) (0 : Nat) (Fm.mk (0 : Int) (0 : Int) (0 : Int))) (List.getD (cyG (List.getD (cysL (sizeD d)) (Int.toNat (↑(i.1) : Int)) (Fm.mk (0 : Int) (0 : Int) (0 : Int)))) (Int.toNat ((↑(i_1.1) : Int) + 1)) (Fm.mk (0 : Int) (0 : Int) (0 : Int))) then false = true else ∃ j : WalkI, j.1 + 1 ≤ List.length (rw4 (cysL (sizeD d)) (nat4 (MV.int i64 (↑(i.1) : Int)))) ∧ ((true = true ∧ ((1 : Nat) = 1 ∧ List.length (cysL (sizeD d)) = List.length (cysL (sizeD d)) ∧ LeFun (List.length (cysL (sizeD d))) (cysR (cysL (sizeD d))) (cysR (cysL (sizeD d)))) ∧ knE (sizeD d) = knE (sizeD d) ∧ ((6 : Nat) = 6 ∧ List.length (listL (sizeD d)) = List.length (listL (sizeD d)) ∧ LeFun (List.length (listL (sizeD d))) (fL (listL (sizeD d)) (64 : Nat)) (fL (listL (sizeD d)) (64 : Nat))) ∧ (↑(lenS (cysL (sizeD d)) (i.1)) : Int) = (↑(lenS (cysL (sizeD d)) (i.1)) : Int) ∧ (↑(i.1) : Int) = (↑(i.1) : Int) ∧ wrap i64 ((↑(i_1.1) : Int) + 1 + 1) = (↑(j.1) : Int) + 1 ∧ True) ∧ (d = d ∧ (i0 = i0 ∧ i1 = i1 ∧ True) ∧ (m0 = m0 ∧ m1 = m1 ∧ True) ∧ True) ∧ True) ∧ List.length (rw4 (cysL (sizeD d)) (nat4 (MV.int i64 (↑(i.1) : Int)))) - j.1 < List.length (rw4 (cysL (sizeD d)) (nat4 (MV.int i64 (↑(i.1) : Int)))) - i_1.1 else ((0 : Int) ≤ (↑(i.1) : Int) ∧ (↑(i.1) : Int) < (↑(List.length (cysL (sizeD d))) : Int)) ∧ ∃ j : WalkI, j.1 ≤ List.length (cysL (sizeD d)) ∧ ((true = true ∧ ((1 : Nat) = 1 ∧ List.length (cysL (sizeD d)) = List.length (cysL (sizeD d)) ∧ LeFun (List.length (cysL (sizeD d))) (cysR (cysL (sizeD d))) (cysR (cysL (sizeD d)))) ∧ knE (sizeD d) = knE (sizeD d) ∧ ((6 : Nat) = 6 ∧ List.length (listL (sizeD d)) = List.length (listL (sizeD d)) ∧ LeFun (List.length (listL (sizeD d))) (fL (listL (sizeD d)) (64 : Nat)) (fL (listL (sizeD d)) (64 : Nat))) ∧ wrap i64 ((↑(lenS (cysL (sizeD d)) (i.1)) : Int) + (↑(List.length (cyG (List.getD (cysL (sizeD d)) (Int.toNat (↑(i.1) : Int)) (Fm.mk (0 : Int) (0 : Int) (0 : Int))))) : Int)) = (↑(lenS (cysL (sizeD d)) (j.1)) : Int) ∧ wrap i64 ((↑(i.1) : Int) + 1) = (↑(j.1) : Int) ∧ True) ∧ (d = d ∧ (i0 = i0 ∧ i1 = i1 ∧ True) ∧ (m0 = m0 ∧ m1 = m1 ∧ True) ∧ True) ∧ True) ∧ List.length (cysL (sizeD d)) - j.1 < List.length (cysL (sizeD d)) - i.1 else (∃ i_1 : WalkI, i_1.1 ≤ List.length (listL (sizeD d)) ∧ (true = true ∧ ((1 : Nat) = 1 ∧ List.length (cysL (sizeD d)) = List.length (cysL (sizeD d)) ∧ LeFun (List.length (cysL (sizeD d))) (cysR (cysL (sizeD d))) (cysR (cysL (sizeD d)))) ∧ knE (sizeD d) = knE (sizeD d) ∧ ((6 : Nat) = 6 ∧ List.length (listL (sizeD d)) = List.length (listL (sizeD d)) ∧ LeFun (List.length (listL (sizeD d))) (fL (listL (sizeD d)) (64 : Nat)) (fL (listL (sizeD d)) (64 : Nat))) ∧ (↑(lenS (cysL (sizeD d)) (i.1)) : Int) = (↑(lenS (cysL (sizeD d)) (List.length (cysL (sizeD d)))) : Int) ∧ (0 : Int) = (↑(i_1.1) : Int) ∧ True) ∧ (d = d ∧ (i0 = i0 ∧ i1 = i1 ∧ True) ∧ (m0 = m0 ∧ m1 = m1 ∧ True) ∧ True) ∧ True) ∧ ∀ (i : WalkI), i.1 ≤ List.length (listL (sizeD d)) → bif decide ((↑(i.1) : Int) < (↑(List.length (listL (sizeD d))) : Int)) then (∃ i_1 : WalkI, i_1.1 ≤ List.length (cysL (sizeD d)) ∧ (true = true ∧ ((1 : Nat) = 1 ∧ List.length (cysL (sizeD d)) = List.length (cysL (sizeD d)) ∧ LeFun (List.length (cysL (sizeD d))) (cysR (cysL (sizeD d))) (cysR (cysL (sizeD d)))) ∧ knE (sizeD d) = knE (sizeD d) ∧ ((6 : Nat) = 6 ∧ List.length (listL (sizeD d)) = List.length (listL (sizeD d)) ∧ LeFun (List.length (listL (sizeD d))) (fL (listL (sizeD d)) (64 : Nat)) (fL (listL (sizeD d)) (64 : Nat))) ∧ (↑(lenS (cysL (sizeD d)) (List.length (cysL (sizeD d)))) : Int) = (↑(lenS (cysL (sizeD d)) (List.length (cysL (sizeD d)))) : Int) ∧ (↑(i.1) : Int) = (↑(i.1) : Int) ∧ (0 : Int) = (↑(cntS (List.getD (listL (sizeD d)) (nat4 (MV.int i64 (↑(i.1) : Int))) (Fm.mk (0 : Int) (0 : Int) (0 : Int))) (cysL (sizeD d)) (i_1.1)) : Int) ∧ (0 : Int) = (↑(i_1.1) : Int) ∧ True) ∧ (d = d ∧ (i0 = i0 ∧ i1 = i1 ∧ True) ∧ (m0 = m0 ∧ m1 = m1 ∧ True) ∧ True) ∧ True) ∧ ∀ (i_1 : WalkI), i_1.1 ≤ List.length (cysL (sizeD d)) → bif decide ((↑(i_1.1) : Int) < (↑(List.length (cysL (sizeD d))) : Int)) then (∃ i_2 : WalkI, i_2.1 ≤ List.length (rw4 (cysL (sizeD d)) (nat4 (MV.int i64 (↑(i_1.1) : Int)))) ∧ (true = true ∧ ((1 : Nat) = 1 ∧ List.length (cysL (sizeD d)) = List.length (cysL (sizeD d)) ∧ LeFun (List.length (cysL (sizeD d))) (cysR (cysL (sizeD d))) (cysR (cysL (sizeD d)))) ∧ knE (sizeD d) = knE (sizeD d) ∧ ((6 : Nat) = 6 ∧ List.length (listL (sizeD d)) = List.length (listL (sizeD d)) ∧ LeFun (List.length (listL (sizeD d))) (fL (listL (sizeD d)) (64 : Nat)) (fL (listL (sizeD d)) (64 : Nat))) ∧ (↑(lenS (cysL (sizeD d)) (List.length (cysL (sizeD d)))) : Int) = (↑(lenS (cysL (sizeD d)) (List.length (cysL (sizeD d)))) : Int) ∧ (↑(i.1) : Int) = (↑(i.1) : Int) ∧ (↑(cntS (List.getD (listL (sizeD d)) (nat4 (MV.int i64 (↑(i.1) : Int))) (Fm.mk (0 : Int) (0 : Int) (0 : Int))) (cysL (sizeD d)) (i_1.1)) : Int) = (↑(cntS (List.getD (listL (sizeD d)) (nat4 (MV.int i64 (↑(i.1) : Int))) (Fm.mk (0 : Int) (0 : Int) (0 : Int))) (cysL (sizeD d)) (nat4 (MV.int i64 (↑(i_1.1) : Int))) + cntR (List.getD (listL (sizeD d)) (nat4 (MV.int i64 (↑(i.1) : Int))) (Fm.mk (0 : Int) (0 : Int) (0 : Int))) (rw4 (cysL (sizeD d)) (nat4 (MV.int i64 (↑(i_1.1) : Int)))) (i_2.1)) : Int) ∧ (↑(i_1.1) : Int) = (↑(i_1.1) : Int) ∧ (0 : Int) = (↑(i_2.1) : Int) ∧ True) ∧ (d = d ∧ (i0 = i0 ∧ i1 = i1 ∧ True) ∧ (m0 = m0 ∧ m1 = m1 ∧ True) ∧ True) ∧ True) ∧ ∀ (i_2 : WalkI), i_2.1 ≤ List.length (rw4 (cysL (sizeD d)) (nat4 (MV.int i64 (↑(i_1.1) : Int)))) → ((0 : Int) ≤ (↑(i_1.1) : Int) ∧ (↑(i_1.1) : Int) < (↑(List.length (cysL (sizeD d))) : Int)) ∧ bif decide ((↑(i_2.1) : Int) < (↑(List.length (cyG (List.getD (cysL (sizeD d)) (Int.toNat (↑(i_1.1) : Int)) (Fm.mk (0 : Int) (0 : Int) (0 : Int))))) : Int)) then ((0 : Int) ≤ (↑(i_1.1) : Int) ∧ (↑(i_1.1) : Int) < (↑(List.length (cysL (sizeD d))) : Int)) ∧ ((0 : Int) ≤ (↑(i_2.1) : Int) ∧ (↑(i_2.1) : Int) < (↑(List.length (cyG (List.getD (cysL (sizeD d)) (Int.toNat (↑(i_1.1) : Int)) (Fm.mk (0 : Int) (0 : Int) (0 : Int))))) : Int)) ∧ ((0 : Int) ≤ (↑(i.1) : Int) ∧ (↑(i.1) : Int) < (↑(List.length (listL (sizeD d))) : Int)) ∧ ((8 : Nat) ≤ 1000000 ∧ (8 : Nat) ≤ 1000000 ∧ (8 : Nat) ≤ 1000000 ∧ (64 : Nat) ≤ 1000000 ∧ (64 : Nat) ≤ 1000000 ∧ (64 : Nat) ≤ 1000000) ∧ bif eqF (List.getD (cyG (List.getD (cysL (sizeD d)) (Int.toNat (↑(i_1.1) : Int)) (Fm.mk (0 : Int) (0 : Int) (0 : Int)))) (Int.toNat (↑(i_2.1) : Int)) (Fm.mk (0 : Int) (0 : Int) (0 : Int))) (List.getD (listL (sizeD d)) (Int.toNat (↑(i.1) : Int)) (Fm.mk (0 : Int) (0 : Int) (0 : Int))) then ∃ j : WalkI, j.1 ≤ List.length (rw4 (cysL (sizeD d)) (nat4 (MV.int i64 (↑(i_1.1) : Int)))) ∧ ((true = true ∧ ((1 : Nat) = 1 ∧ List.length (cysL (sizeD d)) = List.length (cysL (sizeD d)) ∧ LeFun (List.length (cysL (sizeD d))) (cysR (cysL (sizeD d))) (cysR (cysL (sizeD d)))) ∧ knE (sizeD d) = knE (sizeD d) ∧ ((6 : Nat) = 6 ∧ List.length (listL (sizeD d)) = List.length (listL (sizeD d)) ∧ LeFun (List.length (listL (sizeD d))) (fL (listL (sizeD d)) (64 : Nat)) (fL (listL (sizeD d)) (64 : Nat))) ∧ (↑(lenS (cysL (sizeD d)) (List.length (cysL (sizeD d)))) : Int) = (↑(lenS (cysL (sizeD d)) (List.length (cysL (sizeD d)))) : Int) ∧ (↑(i.1) : Int) = (↑(i.1) : Int) ∧ wrap i64 ((↑(cntS (List.getD (listL (sizeD d)) (nat4 (MV.int i64 (↑(i.1) : Int))) (Fm.mk (0 : Int) (0 : Int) (0 : Int))) (cysL (sizeD d)) (nat4 (MV.int i64 (↑(i_1.1) : Int))) + cntR (List.getD (listL (sizeD d)) (nat4 (MV.int i64 (↑(i.1) : Int))) (Fm.mk (0 : Int) (0 : Int) (0 : Int))) (rw4 (cysL (sizeD d)) (nat4 (MV.int i64 (↑(i_1.1) : Int)))) (i_2.1)) : Int) + 1) = (↑(cntS (List.getD (listL (sizeD d)) (nat4 (MV.int i64 (↑(i.1) : Int))) (Fm.mk (0 : Int) (0 : Int) (0 : Int))) (cysL (sizeD d)) (nat4 (MV.int i64 (↑(i_1.1) : Int))) + cntR (List.getD (listL (sizeD d)) (nat4 (MV.int i64 (↑(i.1) : Int))) (Fm.mk (0 : Int) (0 : Int) (0 : Int))) (rw4 (cysL (sizeD d)) (nat4 (MV.int i64 (↑(i_1.1) : Int)))) (j.1)) : Int) ∧ (↑(i_1.1) : Int) = (↑(i_1.1) : Int) ∧ wrap i64 ((↑(i_2.1) : Int) + 1) = (↑(j.1) : Int) ∧ True) ∧ (d = d ∧ (i0 = i0 ∧ i1 = i1 ∧ True) ∧ (m0 = m0 ∧ m1 = m1 ∧ True) ∧ True) ∧ True) ∧ List.length (rw4 (cysL (sizeD d)) (nat4 (MV.int i64 (↑(i_1.1) : Int)))) - j.1 < List.length (rw4 (cysL (sizeD d)) (nat4 (MV.int i64 (↑(i_1.1) : Int)))) - i_2.1 else ∃ j : WalkI, j.1 ≤ List.length (rw4 (cysL (sizeD d)) (nat4 (MV.int i64 (↑(i_1.1) : Int)))) ∧ ((true = true ∧ ((1 : Nat) = 1 ∧ List.length (cysL (sizeD d)) = List.length (cysL (sizeD d)) ∧ LeFun (List.length (cysL (sizeD d))) (cysR (cysL (sizeD d))) (cysR (cysL (sizeD d)))) ∧ knE (sizeD d) = knE (sizeD d) ∧ ((6 : Nat) = 6 ∧ List.length (listL (sizeD d)) = List.length (listL (sizeD d)) ∧ LeFun (List.length (listL (sizeD d))) (fL (listL (sizeD d)) (64 : Nat)) (fL (listL (sizeD d)) (64 : Nat))) ∧ (↑(lenS (cysL (sizeD d)) (List.length (cysL (sizeD d)))) : Int) = (↑(lenS (cysL (sizeD d)) (List.length (cysL (sizeD d)))) : Int) ∧ (↑(i.1) : Int) = (↑(i.1) : Int) ∧ (↑(cntS (List.getD (listL (sizeD d)) (nat4 (MV.int i64 (↑(i.1) : Int))) (Fm.mk (0 : Int) (0 : Int) (0 : Int))) (cysL (sizeD d)) (nat4 (MV.int i64 (↑(i_1.1) : Int))) + cntR (List.getD (listL (sizeD d)) (nat4 (MV.int i64 (↑(i.1) : Int))) (Fm.mk (0 : Int) (0 : Int) (0 : Int))) (rw4 (cysL (sizeD d)) (nat4 (MV.int i64 (↑(i_1.1) : Int)))) (i_2.1)) : Int) = (↑(cntS (List.getD (listL (sizeD d)) (nat4 (MV.int i64 (↑(i.1) : Int))) (Fm.mk (0 : Int) (0 : Int) (0 : Int))) (cysL (sizeD d)) (nat4 (MV.int i64 (↑(i_1.1) : Int))) + cntR (List.getD (listL (sizeD d)) (nat4 (MV.int i64 (↑(i.1) : Int))) (Fm.mk (0 : Int) (0 : Int) (0 : Int))) (rw4 (cysL (sizeD d)) (nat4 (MV.int i64 (↑(i_1.1) : Int)))) (j.1)) : Int) ∧ (↑(i_1.1) : Int) = (↑(i_1.1) : Int) ∧ wrap i64 ((↑(i_2.1) : Int) + 1) = (↑(j.1) : Int) ∧ True) ∧ (d = d ∧ (i0 = i0 ∧ i1 = i1 ∧ True) ∧ (m0 = m0 ∧ m1 = m1 ∧ True) ∧ True) ∧ True) ∧ List.length (rw4 (cysL (sizeD d)) (nat4 (MV.int i64 (↑(i_1.1) : Int)))) - j.1 < List.length (rw4 (cysL (sizeD d)) (nat4 (MV.int i64 (↑(i_1.1) : Int)))) - i_2.1 else ∃ j : WalkI, j.1 ≤ List.length (cysL (sizeD d)) ∧ ((true = true ∧ ((1 : Nat) = 1 ∧ List.length (cysL (sizeD d)) = List.length (cysL (sizeD d)) ∧ LeFun (List.length (cysL (sizeD d))) (cysR (cysL (sizeD d))) (cysR (cysL (sizeD d)))) ∧ knE (sizeD d) = knE (sizeD d) ∧ ((6 : Nat) = 6 ∧ List.length (listL (sizeD d)) = List.length (listL (sizeD d)) ∧ LeFun (List.length (listL (sizeD d))) (fL (listL (sizeD d)) (64 : Nat)) (fL (listL (sizeD d)) (64 : Nat))) ∧ (↑(lenS (cysL (sizeD d)) (List.length (cysL (sizeD d)))) : Int) = (↑(lenS (cysL (sizeD d)) (List.length (cysL (sizeD d)))) : Int) ∧ (↑(i.1) : Int) = (↑(i.1) : Int) ∧ (↑(cntS (List.getD (listL (sizeD d)) (nat4 (MV.int i64 (↑(i.1) : Int))) (Fm.mk (0 : Int) (0 : Int) (0 : Int))) (cysL (sizeD d)) (nat4 (MV.int i64 (↑(i_1.1) : Int))) + cntR (List.getD (listL (sizeD d)) (nat4 (MV.int i64 (↑(i.1) : Int))) (Fm.mk (0 : Int) (0 : Int) (0 : Int))) (rw4 (cysL (sizeD d)) (nat4 (MV.int i64 (↑(i_1.1) : Int)))) (i_2.1)) : Int) = (↑(cntS (List.getD (listL (sizeD d)) (nat4 (MV.int i64 (↑(i.1) : Int))) (Fm.mk (0 : Int) (0 : Int) (0 : Int))) (cysL (sizeD d)) (j.1)) : Int) ∧ wrap i64 ((↑(i_1.1) : Int) + 1) = (↑(j.1) : Int) ∧ True) ∧ (d = d ∧ (i0 = i0 ∧ i1 = i1 ∧ True) ∧ (m0 = m0 ∧ m1 = m1 ∧ True) ∧ True) ∧ True) ∧ List.length (cysL (sizeD d)) - j.1 < List.length (cysL (sizeD d)) - i_1.1 else bif (↑(cntS (List.getD (listL (sizeD d)) (nat4 (MV.int i64 (↑(i.1) : Int))) (Fm.mk (0 : Int) (0 : Int) (0 : Int))) (cysL (sizeD d)) (i_1.1)) : Int) != 1 then false = true else ∃ j : WalkI, j.1 ≤ List.length (listL (sizeD d)) ∧ ((true = true ∧ ((1 : Nat) = 1 ∧ List.length (cysL (sizeD d)) = List.length (cysL (sizeD d)) ∧ LeFun (List.length (cysL (sizeD d))) (cysR (cysL (sizeD d))) (cysR (cysL (sizeD d)))) ∧ knE (sizeD d) = knE (sizeD d) ∧ ((6 : Nat) = 6 ∧ List.length (listL (sizeD d)) = List.length (listL (sizeD d)) ∧ LeFun (List.length (listL (sizeD d))) (fL (listL (sizeD d)) (64 : Nat)) (fL (listL (sizeD d)) (64 : Nat))) ∧ (↑(lenS (cysL (sizeD d)) (List.length (cysL (sizeD d)))) : Int) = (↑(lenS (cysL (sizeD d)) (List.length (cysL (sizeD d)))) : Int) ∧ wrap i64 ((↑(i.1) : Int) + 1) = (↑(j.1) : Int) ∧ True) ∧ (d = d ∧ (i0 = i0 ∧ i1 = i1 ∧ True) ∧ (m0 = m0 ∧ m1 = m1 ∧ True) ∧ True) ∧ True) ∧ List.length (listL (sizeD d)) - j.1 < List.length (listL (sizeD d)) - i.1 else bif knE (sizeD d) == 0 then bif (↑(lenS (cysL (sizeD d)) (List.length (cysL (sizeD d)))) : Int) == (↑(List.length (listL (sizeD d))) : Int) then true = true else false = true else false = true) = evFn (env [c_lex, c_size, c_rof, c_cys, c_list, c_r8less, c_r8equal] (a_v4 (cysL (sizeD d)) (listL (sizeD d)) (sizeD d))) Tryz.f6 [.st [.int .u16 d, .st [.int .u16 i0, .int .u16 i1], .st [.int .u8 m0, .int .u8 m1]]] (MRes.sat (.ret (.bool true))) := by kernel_rfl
structure WkOk (L l : List Fm) : Prop where
 n : L.length ≤ 130305
 m : l.length ≤ 130305
 pos : ∀ i, i < L.length → 0 < (cyG (L.getD i ⟨0, 0, 0⟩)).length
 le : ∀ i, (cyG (L.getD i ⟨0, 0, 0⟩)).length ≤ 65409
 srt : ∀ i j, i < j → j < L.length → lessF ((cyG (L.getD i ⟨0, 0, 0⟩)).getD 0 ⟨0, 0, 0⟩) ((cyG (L.getD j ⟨0, 0, 0⟩)).getD 0 ⟨0, 0, 0⟩) = true
 fst : ∀ i, i < L.length → ∀ k, 0 < k → k < (cyG (L.getD i ⟨0, 0, 0⟩)).length → lessF ((cyG (L.getD i ⟨0, 0, 0⟩)).getD 0 ⟨0, 0, 0⟩) ((cyG (L.getD i ⟨0, 0, 0⟩)).getD k ⟨0, 0, 0⟩) = true
 len : lenS L L.length = l.length
 one : ∀ i, i < l.length → cntS (l.getD i ⟨0, 0, 0⟩) L L.length = 1
theorem cyG_pos {D : Int} {g : Fm} (h : Pr D g) : 0 < (cyG g).length := by
 have := (per_spec h.r).1
 rw [cyG, List.length_map, List.length_range]
 omega
theorem cyG_hd {D : Int} {g : Fm} (h : Pr D g) : (cyG g).getD 0 ⟨0, 0, 0⟩ = g := by
 rw [getD_lt (cyG_pos h)]
 simp only [cyG, List.getElem_map, List.getElem_range]
 rfl
theorem wkOk {D : Int} (hk : knE D = 0) : WkOk (cysL D) (listL D) := by
 have hp := ptOk hk
 have hv := cysL_inv hk
 have hP : ∀ i, i < (cysL D).length → Pr D ((cysL D).getD i ⟨0, 0, 0⟩) := fun i hi => by
  rw [getD_lt hi]
  exact hp.pr _ (List.getElem_mem hi)
 refine ⟨cysL_le D, ?_, fun i hi => cyG_pos (hP i hi), fun i => cyG_le _, fun i j hij hj => ?_, fun i hi k h0 hk2 => ?_, hp.len, fun i hi => ?_⟩
 ·have hs := knS_le D
  have h2 : (2 * (knS D).toNat + 1) * (knS D).toNat ≤ 511 * 255 := Nat.mul_le_mul (by omega) (by omega)
  have := allL_len D (knS D) (2 * (knS D).toNat + 1)
  show (allL _ _ _).length ≤ _
  omega
 ·rw [cyG_hd (hP i (by omega)), cyG_hd (hP j hj), getD_lt hj, getD_lt (show i < (cysL D).length by omega)]
  exact Lt.less (List.pairwise_iff_getElem.1 hv.s i j (by omega) hj hij)
 ·have hg := hP i hi
  have hnd := cyG_nodup hg
  have hm : (cyG ((cysL D).getD i ⟨0, 0, 0⟩)).getD k ⟨0, 0, 0⟩ ∈ cyG ((cysL D).getD i ⟨0, 0, 0⟩) := by
   rw [getD_lt hk2]
   exact List.getElem_mem hk2
  have hne : (cyG ((cysL D).getD i ⟨0, 0, 0⟩)).getD k ⟨0, 0, 0⟩ ≠ (cysL D).getD i ⟨0, 0, 0⟩ := fun e => by
   have h1 := List.pairwise_iff_getElem.1 hnd 0 k (cyG_pos hg) hk2 h0
   rw [← getD_lt (cyG_pos hg) ⟨0, 0, 0⟩, ← getD_lt hk2 ⟨0, 0, 0⟩, cyG_hd hg] at h1
   exact h1 e.symm
  have hc := hg.cyc hm
  have hl := hv.l ((cysL D).getD i ⟨0, 0, 0⟩) (by rw [getD_lt hi]; exact List.getElem_mem hi) _ ((listL_mem hk).2 ⟨hc.d, hc.r, hc.p⟩) hm
  rw [cyG_hd hg]
  rcases hl with h | h
  ·exact absurd h hne
  ·exact h.less
 ·rw [getD_lt hi]
  exact hp.one _ (List.getElem_mem hi)
theorem lenS_step (L : List Fm) (n : Nat) : lenS L (n + 1) = lenS L n + (cyG (L.getD n ⟨0, 0, 0⟩)).length := rfl
theorem cntR_step (f : Fm) (l : List Fm) (n : Nat) : cntR f l (n + 1) = cntR f l n + cond (eqF (l.getD n ⟨0, 0, 0⟩) f) 1 0 := rfl
theorem cntS_step (f : Fm) (L : List Fm) (n : Nat) : cntS f L (n + 1) = cntS f L n + cntR f (rw4 L n) (rw4 L n).length := rfl
theorem beqI0 {a b : Int} (h : a ≠ b) : (a == b) = false := by simp [h]
theorem beqI1 (a : Int) : (a == a) = true := by simp
theorem condI2 {b : Bool} {p x y : Prop} (hb : b = true ↔ p) (hy : y) (hx : p → y → x) : cond b x y := by
 cases b with
 | true => exact hx (hb.1 rfl) hy
 | false => exact hy
theorem nat_wr {i : Nat} (h : i ≤ 1000000) : wrap i64 ((i : Int) + 1) = ((i + 1 : Nat) : Int) := by rw [i64w (by omega) (by omega)]; omega
def s_v4 : FSpec
 | [.st [.int .u16 d, .st [.int .u16 i0, .int .u16 i1], .st [.int .u8 m0, .int .u8 m1]]] => some (some (OkX d i0 i1 m0 m1), .ret (.bool true))
 | _ => none
theorem p_v4 : Good Tryz.f6 s_v4 := by
 intro ms p r h hp
 unfold s_v4 at h
 split at h
 ·rename_i d i0 i1 m0 m1
  simp only [Option.some.injEq, Prod.mk.injEq] at h
  obtain ⟨rfl, rfl⟩ := h
  have hx : OkX d i0 i1 m0 m1 := hp
  refine ⟨env [c_lex, c_size, c_rof, c_cys, c_list, c_r8less, c_r8equal] (a_v4 (cysL (sizeD d)) (listL (sizeD d)) (sizeD d)), ?_⟩
  rw [← vc_v4 d i0 i1 m0 m1]
  obtain ⟨hk, h5, h6⟩ := size_spec hx.a
  have hW := wkOk hk
  have hk' : (knE (sizeD d) == 0) = true := by rw [hk]; rfl
  refine ⟨⟨hx.a, hx.b⟩, ⟨by omega, by omega⟩, by decide, ⟨hx.a, hx.b⟩, hk, ?_⟩
  generalize cysL (sizeD d) = L at hW ⊢
  generalize listL (sizeD d) = l at hW ⊢
  have hn := hW.n
  have hm := hW.m
  have hlen := hW.len
  refine ⟨⟨⟨0⟩, Nat.zero_le _, ?_⟩, fun i hi => ?_⟩
  ·and_intros <;> first | exact True.intro | rfl | exact LeFun.refl
  obtain ⟨i⟩ := i
  have hi : i ≤ L.length := hi
  dsimp only [nat4]
  simp only [Int.toNat_natCast]
  have ep : ∀ x : Nat, ((x : Int) + 1).toNat = x + 1 := fun x => by omega
  refine condI decide_eq_true_iff (fun q => ?_) (fun q => ?_)
  ·have q' : i < L.length := by omega
   have hpos := hW.pos i q'
   have hle := hW.le i
   refine ⟨⟨by omega, q⟩, condF (beqI0 (by omega)) (condI2 decide_eq_true_iff ?_ fun q2 inn => ?_)⟩
   ·refine ⟨⟨⟨0⟩, hpos, ?_⟩, fun k hk => ?_⟩
    ·and_intros <;> first | exact True.intro | rfl | exact LeFun.refl
    obtain ⟨k⟩ := k
    have hk : k + 1 ≤ (cyG (L.getD i ⟨0, 0, 0⟩)).length := hk
    dsimp only
    rw [ep]
    refine ⟨⟨by omega, q⟩, condI decide_eq_true_iff (fun q3 => ?_) (fun q3 => ?_)⟩
    ·refine ⟨⟨by omega, q⟩, ⟨by omega, by omega⟩, ⟨by omega, q⟩, ⟨by omega, q3⟩, by omega, condF (not_of (hW.fst i q' (k + 1) (by omega) (by omega))) ?_⟩
     refine ⟨⟨k + 1⟩, by show k + 1 + 1 ≤ (cyG (L.getD i ⟨0, 0, 0⟩)).length; omega, ?_, by show (cyG (L.getD i ⟨0, 0, 0⟩)).length - (k + 1) < (cyG (L.getD i ⟨0, 0, 0⟩)).length - k; omega⟩
     have e := nat_wr (i := k + 1) (by omega)
     rw [show ((k + 1 : Nat) : Int) = (k : Int) + 1 from by omega] at e
     rw [e]
     and_intros <;> first | exact True.intro | rfl | exact LeFun.refl
    ·refine ⟨⟨by omega, q⟩, ⟨i + 1⟩, by show i + 1 ≤ L.length; omega, ?_, by show L.length - (i + 1) < L.length - i; omega⟩
     have h1 := lenS_mono L (show i + 1 ≤ L.length by omega)
     have h2 := lenS_step L i
     rw [nat_wr (by omega), i64w (by omega) (by omega)]
     and_intros <;> first | exact True.intro | rfl | exact LeFun.refl | (show _ = ((lenS L (i + 1) : Nat) : Int); omega)
   ·have e : (wrap i64 ((i : Int) - 1)) = ((i - 1 : Nat) : Int) := by rw [i64w (by omega) (by omega)]; omega
    rw [e, Int.toNat_natCast]
    have hp1 := hW.pos (i - 1) (by omega)
    refine ⟨⟨by omega, by omega⟩, ⟨by omega, by omega⟩, ⟨by omega, q⟩, ⟨by omega, by omega⟩, by omega, condF (not_of (hW.srt (i - 1) i (by omega) q')) inn⟩
  ·have q' : i = L.length := by omega
   subst q'
   refine ⟨⟨⟨0⟩, Nat.zero_le _, ?_⟩, fun i hi => ?_⟩
   ·and_intros <;> first | exact True.intro | rfl | exact LeFun.refl
   obtain ⟨i⟩ := i
   have hi : i ≤ l.length := hi
   dsimp only
   refine condI decide_eq_true_iff (fun q => ?_) (fun q => ?_)
   ·have q' : i < l.length := by omega
    have hone := hW.one i q'
    generalize l.getD i ⟨0, 0, 0⟩ = f at hone ⊢
    refine ⟨⟨⟨0⟩, Nat.zero_le _, ?_⟩, fun a ha => ?_⟩
    ·and_intros <;> first | exact True.intro | rfl | exact LeFun.refl
    obtain ⟨a⟩ := a
    have ha : a ≤ L.length := ha
    dsimp only
    have c1 := cntS_le f L a
    have c2 := lenS_mono L ha
    refine condI decide_eq_true_iff (fun q2 => ?_) (fun q2 => ?_)
    ·refine ⟨⟨⟨0⟩, Nat.zero_le _, ?_⟩, fun b hb => ?_⟩
     ·and_intros <;> first | exact True.intro | rfl | exact LeFun.refl
     obtain ⟨b⟩ := b
     have hle := hW.le a
     have hb : b ≤ (cyG (L.getD a ⟨0, 0, 0⟩)).length := hb
     have c3 := cntR_le f (rw4 L a) b
     have c4 := cntR_step f (rw4 L a) b
     dsimp only
     refine ⟨⟨by omega, q2⟩, condI decide_eq_true_iff (fun q3 => ?_) (fun q3 => ?_)⟩
     ·refine ⟨⟨by omega, q2⟩, ⟨by omega, q3⟩, ⟨by omega, q⟩, by omega, ?_⟩
      have hlt : (rw4 L a).length - (b + 1) < (rw4 L a).length - b := by show (cyG (L.getD a ⟨0, 0, 0⟩)).length - (b + 1) < (cyG (L.getD a ⟨0, 0, 0⟩)).length - b; omega
      have hle1 : b + 1 ≤ (rw4 L a).length := by show b + 1 ≤ (cyG (L.getD a ⟨0, 0, 0⟩)).length; omega
      rw [nat_wr (i := b) (by omega), i64w (by omega) (by omega)]
      have e1 : ((rw4 L a).getD b ⟨0, 0, 0⟩) = (cyG (L.getD a ⟨0, 0, 0⟩)).getD b ⟨0, 0, 0⟩ := rfl
      rw [e1] at c4
      cases hq : eqF ((cyG (L.getD a ⟨0, 0, 0⟩)).getD b ⟨0, 0, 0⟩) f
      ·rw [hq] at c4
       refine ⟨⟨b + 1⟩, hle1, ?_, hlt⟩
       rw [c4]
       and_intros <;> first | exact True.intro | rfl | exact LeFun.refl
      ·rw [hq] at c4
       refine ⟨⟨b + 1⟩, hle1, ?_, hlt⟩
       rw [c4]
       and_intros <;> first | exact True.intro | rfl | exact LeFun.refl
     ·refine ⟨⟨a + 1⟩, by show a + 1 ≤ L.length; omega, ?_, by show L.length - (a + 1) < L.length - a; omega⟩
      have e1 : b = (rw4 L a).length := by show b = (cyG (L.getD a ⟨0, 0, 0⟩)).length; omega
      subst e1
      rw [nat_wr (by omega), cntS_step f L a]
      and_intros <;> first | exact True.intro | rfl | exact LeFun.refl
    ·have q2' : a = L.length := by omega
     subst q2'
     rw [hone]
     refine condF rfl ⟨⟨i + 1⟩, by show i + 1 ≤ l.length; omega, ?_, by show l.length - (i + 1) < l.length - i; omega⟩
     rw [nat_wr (by omega)]
     and_intros <;> first | exact True.intro | rfl | exact LeFun.refl
   ·refine condT hk' (condT ?_ True.intro)
    rw [hlen]
    exact beqI1 _
 ·simp at h
noncomputable def c_v4 : Ctr Tryz.prog := ⟨6, s_v4, fun args w => Tryz.call6 args w, fn_ok mix Tryz.func6 s_v4 p_v4⟩
end Go.Proofs.YtnfmjlhkknndhaaGreat
/-
 CyclePartition, whatever the description is.
-/
namespace Go.Proofs.YtnfmjlhkknndhaaGreat
open Go Go.ChangeShapes Go.WideShapes Go.ChangeAt Go.RowKit
open Go.IntKind (wrap i64 i32 i16 i8 u64 u32 u16 u8)
def tysCyclePartition : List Nat := [26, 22, 23, 24, 5]
theorem tysCyclePartition_ok : tysCyclePartition.all (subOk Tryz.prog tysCyclePartition) = true := by kernel_rfl
theorem cyclePartition_contract (H : Type) (enc : TypeId × Value → H) (W : World) (args : Array Value) (ds gs : List (DataW H)) (before : List MemPlace)
  (hW : DataW.Whole enc Tryz.prog Tryz.f6.params.toList Rows.cyclePartitionSpec.vars Rows.cyclePartitionRow.apart W args.toList ds gs before) :
  Calls Tryz.prog 6 args W fun e W' => ∃ v, e = .returned v ∧ Rows.cyclePartitionSpec.post enc Tryz.prog Tryz.f6 Rows.cyclePartitionRow.apart Rows.cyclePartitionRow.fresh Rows.cyclePartitionRow.handsOn Rows.cyclePartitionRow.again W args v W' := by
 have hW' := hW
 obtain ⟨p, q, hA, hV, rfl, hfz, hnd⟩ := hW
 rw [Tryz.params6] at hA
 obtain ⟨v0, d0d, rfl, rfl, h0⟩ := trodAll_one hA
 obtain ⟨rfl, rfl⟩ := trodVars_none hV
 obtain ⟨d0, i0a, i0b, m0a, m0b, r0, w0⟩ := rep_r17 h0
 refine law_calls c_v4 rfl rfl tysCyclePartition_ok (by rw [Tryz.params6]; decide) hW' (gw0 W) ⟨[.st [.int .u16 d0, .st [.int .u16 i0a, .int .u16 i0b], .st [.int .u8 m0a, .int .u8 m0b]]], _, rfl, w0, _, _, rfl, r0, rfl⟩ rfl
set_option maxHeartbeats 1600000 in
set_option maxRecDepth 100000 in
theorem cyclePartition_lifted (os : Os) (started : os.Started) (H : Type) (enc : TypeId × Value → H) :
  ReturnsInHanded {} Tryz.checked os 6 .any (Rows.cyclePartitionSpec.pre6 enc Tryz.prog Tryz.f6 Rows.cyclePartitionRow.domain Rows.cyclePartitionRow.apart) (Rows.cyclePartitionSpec.post enc Tryz.prog Tryz.f6 Rows.cyclePartitionRow.apart Rows.cyclePartitionRow.fresh Rows.cyclePartitionRow.handsOn Rows.cyclePartitionRow.again) := by
 refine returnsInHanded_of_change (C := Tryz.checked) own started (by kernel_rfl) Tryz.func6
  (ChangeSpec.witness6 (enc := enc) (C := Tryz.checked) false ⟨#[], #[.agg #[.int .u16 0, .int .u16 0, .int .u16 0, .int .u8 0, .int .u8 0]], []⟩ 8 (by kernel_rfl) (by kernel_rfl) (by kernel_rfl) (by kernel_rfl)) ?_
 intro W _ args ds gs before _ hW _ _
 exact cyclePartition_contract H enc W args ds gs before hW
theorem cyclePartition_over : Rows.cyclePartitionRow.holds Tryz.pinned (OpenSpec.ofChange Rows.cyclePartitionSpec) :=
 OpenClaim.holds_of_wide 6 Tryz.f6 rfl rfl rfl rfl rfl rfl rfl ⟨rfl, rfl, rfl, rfl, rfl⟩ rfl rfl rfl rfl rfl (by kernel_rfl) Tryz.func6 (by kernel_rfl)
  (of_decide_eq_true (by kernel_rfl)) (by unfold Func.isWrapper; first | (rw [if_pos (by decide +kernel)]; kernel_rfl) | (rw [if_neg (by decide +kernel)]; exact ⟨rfl, rfl⟩))
  (fun os started H enc _ => cyclePartition_lifted os started H enc)
theorem cyclePartition_holds : Rows.CyclePartitionSaid := cyclePartition_over
end Go.Proofs.YtnfmjlhkknndhaaGreat
