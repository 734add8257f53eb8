/-
  CycleCloses, whatever the description and the number are.
-/
import Derived.Test.YtnfmjlhkknndhaaGreatW4
import Derived.Test.YtnfmjlhkknndhaaGreatW6

/-
 Plain facts: equivalent reduced forms lie in one cycle (Conway's river).
-/
namespace Go.Proofs.YtnfmjlhkknndhaaGreat
open Go Go.RowKit
open Go.IntKind (wrap i64 i32 i16 i8 u64 u32 u16 u8)
structure Ed (D : Int) (f : Fm) : Prop where
 h : f.disc = D
 a : 0 < f.A
 c : f.C < 0
def mL : Mx := ⟨1, 0, 1, 1⟩
def mR : Mx := ⟨1, 1, 0, 1⟩
def riv (f : Fm) : Fm := if 0 < f.A + f.B + f.C then f.app mL else f.app mR
def rivN : Nat → Fm → Fm
 | 0, f => f
 | n + 1, f => rivN n (riv f)
theorem app_L (f : Fm) : f.app mL = ⟨f.A + f.B + f.C, f.B + 2 * f.C, f.C⟩ := by
 apply Fm.ext' <;> simp only [Fm.app, Fm.val, mL] <;> grind
theorem app_R (f : Fm) : f.app mR = ⟨f.A, f.B + 2 * f.A, f.A + f.B + f.C⟩ := by
 apply Fm.ext' <;> simp only [Fm.app, Fm.val, mR] <;> grind
theorem sq_not {D s x : Int} (hd : Dis D s) (h : x * x = D) : False := by
 have hs := hd.pos
 have hlo := hd.lo
 have hhi := hd.hi
 rw [← h, ← sq_abs x] at hlo hhi
 have hx : (0 : Int) ≤ x.natAbs := by omega
 generalize (x.natAbs : Int) = y at *
 rcases Int.lt_or_le s y with q | q
 ·have := Int.mul_le_mul (show s + 1 ≤ y by omega) (show s + 1 ≤ y by omega) (by omega) hx
  omega
 ·have := Int.mul_le_mul q q hx (by omega)
  omega
theorem sum_ne {D s : Int} (hd : Dis D s) {f : Fm} (h : f.disc = D) : f.A + f.B + f.C ≠ 0 := fun e => by
 refine sq_not hd (x := f.A - f.C) ?_
 rw [← h]
 unfold Fm.disc
 rw [show f.B = -(f.A + f.C) by omega]
 grind
theorem det_L : mL.det = 1 := rfl
theorem det_R : mR.det = 1 := rfl
theorem riv_ed {D s : Int} (hd : Dis D s) {f : Fm} (h : Ed D f) : Ed D (riv f) := by
 have hn := sum_ne hd h.h
 unfold riv
 split
 ·refine ⟨by rw [app_disc, det_L, h.h]; omega, ?_, ?_⟩
  ·rw [app_L]; assumption
  ·rw [app_L]; exact h.c
 ·refine ⟨by rw [app_disc, det_R, h.h]; omega, ?_, ?_⟩
  ·rw [app_R]; exact h.a
  ·rw [app_R]; show f.A + f.B + f.C < 0; omega
theorem val_nonneg {f : Fm} (hA : 0 ≤ f.A) (hB : 0 ≤ f.B) (hC : 0 ≤ f.C) {x y : Int} (hx : 0 ≤ x) (hy : 0 ≤ y) : 0 ≤ f.val x y := by
 have h1 := Int.mul_nonneg hA (Int.mul_nonneg hx hx)
 have h2 := Int.mul_nonneg hB (Int.mul_nonneg hx hy)
 have h3 := Int.mul_nonneg hC (Int.mul_nonneg hy hy)
 unfold Fm.val
 omega
theorem val_nonpos {f : Fm} (hA : f.A ≤ 0) (hB : f.B ≤ 0) (hC : f.C ≤ 0) {x y : Int} (hx : 0 ≤ x) (hy : 0 ≤ y) : f.val x y ≤ 0 := by
 have h1 := Int.mul_nonpos_of_nonpos_of_nonneg hA (Int.mul_nonneg hx hx)
 have h2 := Int.mul_nonpos_of_nonpos_of_nonneg hB (Int.mul_nonneg hx hy)
 have h3 := Int.mul_nonpos_of_nonpos_of_nonneg hC (Int.mul_nonneg hy hy)
 unfold Fm.val
 omega
structure Nn (m : Mx) : Prop where
 a : 0 ≤ m.a
 b : 0 ≤ m.b
 c : 0 ≤ m.c
 d : 0 ≤ m.d
theorem nn_split {p q r t : Int} (hp : 0 ≤ p) (hq : 0 ≤ q) (hr : 0 ≤ r) (ht : 0 ≤ t) (h : p * t - q * r = 1) : (p = 1 ∧ q = 0 ∧ r = 0 ∧ t = 1) ∨ (r ≤ p ∧ t ≤ q ∧ 0 < r + t) ∨ (p ≤ r ∧ q ≤ t ∧ 0 < p + q) := by
 have hrt : 0 < r + t := by
  rcases Int.lt_or_le 0 (r + t) with k | k
  ·exact k
  ·have e1 : r = 0 := by omega
   have e2 : t = 0 := by omega
   subst e1 e2
   simp at h
 have hpq : 0 < p + q := by
  rcases Int.lt_or_le 0 (p + q) with k | k
  ·exact k
  ·have e1 : p = 0 := by omega
   have e2 : q = 0 := by omega
   subst e1 e2
   simp at h
 rcases Int.lt_or_le p r with k | k
 ·refine .inr (.inr ⟨by omega, ?_, hpq⟩)
  rcases Int.lt_or_le t q with j | j
  ·exfalso
   have h1 := Int.mul_le_mul (show p ≤ r by omega) (show t ≤ q by omega) ht hr
   rw [Int.mul_comm r q] at h1
   omega
  ·exact j
 ·rcases Int.lt_or_le q t with j | j
  ·have e : p * t - q * r = t * (p - r) + r * (t - q) := by grind
   rcases Int.lt_or_le r p with i | i
   ·have h1 : t * 1 ≤ t * (p - r) := Int.mul_le_mul_of_nonneg_left (by omega) ht
    have h2 := Int.mul_nonneg hr (show 0 ≤ t - q by omega)
    have e1 : t = 1 := by omega
    have e2 : q = 0 := by omega
    subst e1 e2
    have e3 : r = 0 := by omega
    subst e3
    exact .inl ⟨by omega, rfl, rfl, rfl⟩
   ·exact .inr (.inr ⟨by omega, by omega, hpq⟩)
  ·exact .inr (.inl ⟨k, j, hrt⟩)
theorem river {D s : Int} (hd : Dis D s) : ∀ (k : Nat) (f : Fm) (m : Mx), Ed D f → Nn m → m.det = 1 → (m.a + m.b + m.c + m.d).toNat ≤ k → 0 < (f.app m).A → (f.app m).C < 0 → ∃ n, f.app m = rivN n f
 | 0, f, m, _, hn, hdet, hk, _, _ => by
  exfalso
  have h1 := hn.a
  have h2 := hn.b
  have h3 := hn.c
  have h4 := hn.d
  have e1 : m.a = 0 := by omega
  have e2 : m.b = 0 := by omega
  unfold Mx.det at hdet
  rw [e1, e2] at hdet
  simp at hdet
 | k + 1, f, m, he, hn, hdet, hk, hA, hC => by
  have h1 := hn.a
  have h2 := hn.b
  have h3 := hn.c
  have h4 := hn.d
  have hne := sum_ne hd he.h
  rcases nn_split h1 h2 h3 h4 hdet with ⟨e1, e2, e3, e4⟩ | ⟨k1, k2, k3⟩ | ⟨k1, k2, k3⟩
  ·have e : m = Mx.one := by cases m; simp only at e1 e2 e3 e4; subst e1 e2 e3 e4; rfl
   exact ⟨0, by rw [e, app_one]; rfl⟩
  ·have em : m = mR.mul ⟨m.a - m.c, m.b - m.d, m.c, m.d⟩ := by
    cases m
    simp only [Mx.mul, mR, Mx.mk.injEq]
    refine ⟨?_, ?_, ?_, ?_⟩ <;> omega
   have hn' : Nn ⟨m.a - m.c, m.b - m.d, m.c, m.d⟩ := ⟨by simp only; omega, by simp only; omega, h3, h4⟩
   have hdet' : Mx.det ⟨m.a - m.c, m.b - m.d, m.c, m.d⟩ = 1 := by rw [em, det_mul, det_R] at hdet; omega
   rw [em, ← app_mul] at hA hC ⊢
   have hneg : ¬ 0 < f.A + f.B + f.C := fun hp => by
    have := val_nonneg (f := f.app mR) (by rw [app_R]; exact Int.le_of_lt he.a) (by rw [app_R]; show 0 ≤ f.B + 2 * f.A; have := he.a; have := he.c; omega) (by rw [app_R]; exact Int.le_of_lt hp) (x := m.b - m.d) (y := m.d) (by omega) h4
    have e : ((f.app mR).app ⟨m.a - m.c, m.b - m.d, m.c, m.d⟩).C = (f.app mR).val (m.b - m.d) m.d := rfl
    omega
   have er : riv f = f.app mR := if_neg hneg
   have hed := riv_ed hd he
   rw [er] at hed
   obtain ⟨n, hn2⟩ := river hd k (f.app mR) _ hed hn' hdet' (by simp only; omega) hA hC
   exact ⟨n + 1, by rw [hn2]; show _ = rivN n (riv f); rw [er]⟩
  ·have em : m = mL.mul ⟨m.a, m.b, m.c - m.a, m.d - m.b⟩ := by
    cases m
    simp only [Mx.mul, mL, Mx.mk.injEq]
    refine ⟨?_, ?_, ?_, ?_⟩ <;> omega
   have hn' : Nn ⟨m.a, m.b, m.c - m.a, m.d - m.b⟩ := ⟨h1, h2, by simp only; omega, by simp only; omega⟩
   have hdet' : Mx.det ⟨m.a, m.b, m.c - m.a, m.d - m.b⟩ = 1 := by rw [em, det_mul, det_L] at hdet; omega
   rw [em, ← app_mul] at hA hC ⊢
   have hpos : 0 < f.A + f.B + f.C := by
    rcases Int.lt_or_le 0 (f.A + f.B + f.C) with q | q
    ·exact q
    ·exfalso
     have := val_nonpos (f := f.app mL) (by rw [app_L]; exact q) (by rw [app_L]; show f.B + 2 * f.C ≤ 0; have := he.a; have := he.c; omega) (by rw [app_L]; exact Int.le_of_lt he.c) (x := m.a) (y := m.c - m.a) h1 (by omega)
     have e : ((f.app mL).app ⟨m.a, m.b, m.c - m.a, m.d - m.b⟩).A = (f.app mL).val m.a (m.c - m.a) := rfl
     omega
   have er : riv f = f.app mL := if_pos hpos
   have hed := riv_ed hd he
   rw [er] at hed
   obtain ⟨n, hn2⟩ := river hd k (f.app mL) _ hed hn' hdet' (by simp only; omega) hA hC
   exact ⟨n + 1, by rw [hn2]; show _ = rivN n (riv f); rw [er]⟩
def Mx.neg (m : Mx) : Mx := ⟨-m.a, -m.b, -m.c, -m.d⟩
theorem app_neg (f : Fm) (m : Mx) : f.app m.neg = f.app m := by
 apply Fm.ext' <;> simp only [Fm.app, Fm.val, Mx.neg] <;> grind
theorem det_neg (m : Mx) : m.neg.det = m.det := by simp only [Mx.det, Mx.neg]; grind
theorem down {D s : Int} (hd : Dis D s) {f g : Fm} {m : Mx} (hf : Ed D f) (hg : Ed D g) (hdet : m.det = 1) (h : f.app m = g) (hn : Nn m ∨ Nn m.neg) : ∃ n, g = rivN n f := by
 rcases hn with hn | hn
 ·obtain ⟨n, e⟩ := river hd _ f m hf hn hdet (Nat.le_refl _) (by rw [h]; exact hg.a) (by rw [h]; exact hg.c)
  exact ⟨n, by rw [← h, e]⟩
 ·obtain ⟨n, e⟩ := river hd _ f m.neg hf hn (by rw [det_neg, hdet]) (Nat.le_refl _) (by rw [app_neg, h]; exact hg.a) (by rw [app_neg, h]; exact hg.c)
  exact ⟨n, by rw [← h, ← app_neg, e]⟩
end Go.Proofs.YtnfmjlhkknndhaaGreat
/-
 Plain facts: when forms are equivalent, and by which matrix; the values that a cycle shows.
-/
namespace Go.Proofs.YtnfmjlhkknndhaaGreat
open Go Go.RowKit
open Go.IntKind (wrap i64 i32 i16 i8 u64 u32 u16 u8)
theorem rd_self {f : Fm} (h : redQ f = true) : redR f = f := by
 have h0 : stepsOf f = 0 := redN0_spec _ _ 0 f (by omega) h (fun i hi => by omega)
 rw [redR, if_pos (redQ_iff.1 h).1, redG, h0]
 rfl
theorem getD_lt {l : List Fm} {j : Nat} (hj : j < l.length) (d : Fm) : l.getD j d = l[j] := by
 rw [List.getD_eq_getElem?_getD, List.getElem?_eq_getElem hj]
 rfl
end Go.Proofs.YtnfmjlhkknndhaaGreat
/-
 Plain facts: a cycle closes; that of another form of it is the same, turned.
-/
namespace Go.Proofs.YtnfmjlhkknndhaaGreat
open Go Go.RowKit
open Go.IntKind (wrap i64 i32 i16 i8 u64 u32 u16 u8)
structure ClOk (l : List Fm) : Prop where
 two : 2 ≤ l.length
 ev : l.length % 2 = 0
 red : ∀ i, i < l.length → redQ (l.getD i ⟨0, 0, 0⟩) = true
 kn : ∀ i, i < l.length → knE (l.getD i ⟨0, 0, 0⟩).disc = 0
 nxt : ∀ i, i < l.length → rhoR (l.getD i ⟨0, 0, 0⟩) = l.getD ((i + 1) % l.length) ⟨0, 0, 0⟩
 ne : ∀ i, 0 < i → i < l.length → l.getD i ⟨0, 0, 0⟩ ≠ l.getD 0 ⟨0, 0, 0⟩
 turn : ∀ a, a < l.length → cyL (l.getD a ⟨0, 0, 0⟩) = l.drop a ++ l.take a
theorem clOk {f : Fm} (hk : knE f.disc = 0) : ClOk (cyL f) := by
 have hl : cyL f = (List.range (perOf (redR f))).map fun j => rhoN (knS (redR f).disc) j (redR f) := if_pos hk
 obtain ⟨hq, hd⟩ := redR_RD hk
 obtain ⟨hdis, _⟩ := kn_dis hk
 have hr : RD f.disc (knS f.disc) (redR f) := by have := (redQ_RD.1 hq).2; rw [hd] at this; exact this
 have hp := per_spec hq
 rw [hd] at hl hp
 generalize hg : redR f = g at *
 generalize hD : f.disc = D at *
 obtain ⟨p1, _, p3, p4⟩ := hp
 have hlen : (cyL f).length = perOf g := by rw [hl, List.length_map, List.length_range]
 have get : ∀ i, i < perOf g → (cyL f).getD i ⟨0, 0, 0⟩ = rhoN (knS D) i g := fun i hi => by
  rw [getD_lt (by rw [hlen]; exact hi)]
  simp only [hl, List.getElem_map, List.getElem_range]
 have hrd : ∀ i, RD D (knS D) (rhoN (knS D) i g) := fun i => RD.rhoN hdis i hr
 have hred : ∀ i, redQ (rhoN (knS D) i g) = true := fun i => redQ_RD.2 ⟨by rw [(hrd i).h]; exact hk, by rw [(hrd i).h]; exact hrd i⟩
 have hev := even_cycle hdis hr p3
 have nxt1 : ∀ i, rho (knS D) (rhoN (knS D) i g) = rhoN (knS D) (i + 1) g := fun i => by
  rw [show i + 1 = 1 + i by omega, rhoN_add]; rfl
 refine ⟨by rw [hlen]; omega, by rw [hlen]; exact hev, fun i hi => ?_, fun i hi => ?_, fun i hi => ?_, fun i h0 hi => ?_, fun a ha => ?_⟩
 ·rw [hlen] at hi; rw [get i hi]; exact hred i
 ·rw [hlen] at hi; rw [get i hi, (hrd i).h]; exact hk
 ·rw [hlen] at hi ⊢
  rw [get i hi, get _ (Nat.mod_lt _ p1), rhoR, (hrd i).h, if_pos hk, nxt1]
  rcases Nat.lt_or_ge (i + 1) (perOf g) with q | q
  ·rw [Nat.mod_eq_of_lt q]
  ·have : i + 1 = perOf g := by omega
   rw [this, Nat.mod_self, p3]
   rfl
 ·rw [hlen] at hi
  rw [get i hi, get 0 (by omega)]
  exact p4 i h0 hi
 ·rw [hlen] at ha
  rw [get a ha]
  have hx : redR (rhoN (knS D) a g) = rhoN (knS D) a g := rd_self (hred a)
  have hxl : cyL (rhoN (knS D) a g) = (List.range (perOf (rhoN (knS D) a g))).map fun j => rhoN (knS D) j (rhoN (knS D) a g) := by
   have : cyL (rhoN (knS D) a g) = (List.range (perOf (redR (rhoN (knS D) a g)))).map fun j => rhoN (knS (redR (rhoN (knS D) a g)).disc) j (redR (rhoN (knS D) a g)) := if_pos (by rw [(hrd a).h]; exact hk)
   rw [this, hx, (hrd a).h]
  obtain ⟨q1, _, q3, q4⟩ := per_spec (hred a)
  rw [(hrd a).h] at q3 q4
  have hper : perOf (rhoN (knS D) a g) = perOf g := by
   have back : rhoN (knS D) (perOf g) (rhoN (knS D) a g) = rhoN (knS D) a g := by rw [← rhoN_add, Nat.add_comm, rhoN_add, p3]
   have le1 : perOf (rhoN (knS D) a g) ≤ perOf g := by
    rcases Nat.lt_or_ge (perOf g) (perOf (rhoN (knS D) a g)) with q | q
    ·exact absurd back (q4 _ p1 q)
    ·exact q
   have back2 : rhoN (knS D) (perOf (rhoN (knS D) a g)) g = g := by
    refine RD.inj hdis a (hrd _) hr ?_
    rw [← rhoN_add, Nat.add_comm, rhoN_add, q3]
   have le2 : perOf g ≤ perOf (rhoN (knS D) a g) := by
    rcases Nat.lt_or_ge (perOf (rhoN (knS D) a g)) (perOf g) with q | q
    ·exact absurd back2 (p4 _ q1 q)
    ·exact q
   omega
  rw [hxl, hper]
  refine List.ext_getElem (by simp [hlen]; omega) fun j h1 h2 => ?_
  rw [List.length_map, List.length_range] at h1
  rw [List.getElem_map, List.getElem_range, ← rhoN_add]
  rcases Nat.lt_or_ge j (perOf g - a) with q | q
  ·rw [List.getElem_append_left (by rw [List.length_drop, hlen]; exact q), List.getElem_drop]
   have := get (a + j) (by omega)
   rw [getD_lt (by rw [hlen]; omega)] at this
   rw [this, Nat.add_comm]
  ·rw [List.getElem_append_right (by rw [List.length_drop, hlen]; exact q), List.getElem_take]
   have := get (j - (perOf g - a)) (by omega)
   rw [getD_lt (by rw [hlen]; omega)] at this
   have e : (cyL f)[j - (List.drop a (cyL f)).length]'(by rw [List.length_drop, hlen]; omega) = rhoN (knS D) (j - (perOf g - a)) g := by
    rw [← this]
    congr 1
    rw [List.length_drop, hlen]
   rw [e]
   have e2 : j + a = (j - (perOf g - a)) + perOf g := by omega
   rw [e2, rhoN_add, p3]
end Go.Proofs.YtnfmjlhkknndhaaGreat
/-
 The walk of CycleCloses.
-/
namespace Go.Proofs.YtnfmjlhkknndhaaGreat
open Go Go.RowKit
open Go.IntKind (wrap i64 i32 i16 i8 u64 u32 u16 u8)
def a_v3 (l : List Fm) (k : Int) : Nat → MS → Option LoopAnn
 | 9, e => some (.inv WalkI (fun i => i.i ≤ l.length) (fun i => ⟨118, [(1, .int .u8 k), (5, .bool true), (6, lmv l 8), (8, .int .i64 (l.length : Int)), (9, .int .i64 (i.i : Int))], e.bx, 0⟩) (fun i => l.length - i.i))
 | _, _ => none
def envF (Γ : List (Ctr Tryz.prog)) (fz : Nat → List Nat) (ann : Nat → MS → Option LoopAnn) : Env Tryz.prog := ⟨Γ, [], 37, ann, fz, fun _ _ => none⟩
theorem condI2 {b : Bool} {p x y : Prop} (hb : b = true ↔ p) (hy : y) (hx : p → y → x) : cond b x y := by
 cases b with
 | true => exact hx (hb.1 rfl) hy
 | false => exact hy
def z_v3 : Nat → List Nat
 | 16 => [1000003]
 | 999999 => [0]
 | _ => []
theorem vc_v3 (d i0 i1 m0 m1 k : Int) : (((0 : Int) ≤ d ∧ d < 65536 ∧ (0 : Int) ≤ i0 ∧ i0 < 65536 ∧ (0 : Int) ≤ m0 ∧ m0 < 256) ∧ ((20 : Nat) ≤ 300 ∧ (20 : Nat) ≤ 300 ∧ (20 : Nat) ≤ 300) ∧ bif knE (Fm.disc (madeF d i0 m0)) != 0 then false = true else bif decide ((↑(List.length (cyL (madeF d i0 m0))) : Int) < 2) then false = true else ((2 : Int) = 0 → False) ∧ bif Int.tmod (↑(List.length (cyL (madeF d i0 m0))) : Int) (2 : Int) != 0 then false = true else (∃ i : WalkI, i.1 ≤ List.length (cyL (madeF d i0 m0)) ∧ (k = k ∧ true = true ∧ ((6 : Nat) = 6 ∧ List.length (cyL (madeF d i0 m0)) = List.length (cyL (madeF d i0 m0)) ∧ LeFun (List.length (cyL (madeF d i0 m0))) (fL (cyL (madeF d i0 m0)) (8 : Nat)) (fL (cyL (madeF d i0 m0)) (8 : Nat))) ∧ (↑(List.length (cyL (madeF d i0 m0))) : Int) = (↑(List.length (cyL (madeF d i0 m0))) : Int) ∧ (0 : Int) = (↑(i.1) : Int) ∧ True) ∧ (d = d ∧ (i0 = i0 ∧ i1 = i1 ∧ True) ∧ (m0 = m0 ∧ m1 = m1 ∧ True) ∧ True) ∧ True) ∧ ∀ (i : WalkI), i.1 ≤ List.length (cyL (madeF d i0 m0)) → bif decide ((↑(i.1) : Int) < (↑(List.length (cyL (madeF d i0 m0))) : Int)) then ((0 : Int) ≤ (↑(i.1) : Int) ∧ (↑(i.1) : Int) < (↑(List.length (cyL (madeF d i0 m0))) : Int)) ∧ ((8 : Nat) ≤ 10000 ∧ (8 : Nat) ≤ 10000 ∧ (8 : Nat) ≤ 10000) ∧ bif knE (Fm.disc (List.getD (cyL (madeF d i0 m0)) (Int.toNat (↑(i.1) : Int)) (Fm.mk (0 : Int) (0 : Int) (0 : Int)))) != 0 then false = true else ((0 : Int) ≤ (↑(i.1) : Int) ∧ (↑(i.1) : Int) < (↑(List.length (cyL (madeF d i0 m0))) : Int)) ∧ ((8 : Nat) ≤ 40000 ∧ (8 : Nat) ≤ 40000 ∧ (8 : Nat) ≤ 40000) ∧ bif !redQ (List.getD (cyL (madeF d i0 m0)) (Int.toNat (↑(i.1) : Int)) (Fm.mk (0 : Int) (0 : Int) (0 : Int))) then false = true else ((↑(List.length (cyL (madeF d i0 m0))) : Int) = 0 → False) ∧ ((0 : Int) ≤ Int.tmod (wrap i64 ((↑(i.1) : Int) + 1)) (↑(List.length (cyL (madeF d i0 m0))) : Int) ∧ Int.tmod (wrap i64 ((↑(i.1) : Int) + 1)) (↑(List.length (cyL (madeF d i0 m0))) : Int) < (↑(List.length (cyL (madeF d i0 m0))) : Int)) ∧ ((64 : Nat) ≤ 1000000 ∧ (64 : Nat) ≤ 1000000 ∧ (64 : Nat) ≤ 1000000 ∧ (8 : Nat) ≤ 1000000 ∧ (8 : Nat) ≤ 1000000 ∧ (8 : Nat) ≤ 1000000) ∧ bif !eqF (rhoR (List.getD (cyL (madeF d i0 m0)) (Int.toNat (↑(i.1) : Int)) (Fm.mk (0 : Int) (0 : Int) (0 : Int)))) (List.getD (cyL (madeF d i0 m0)) (Int.toNat (Int.tmod (wrap i64 ((↑(i.1) : Int) + 1)) (↑(List.length (cyL (madeF d i0 m0))) : Int))) (Fm.mk (0 : Int) (0 : Int) (0 : Int))) then false = true else bif decide ((↑(i.1) : Int) > 0) then ((0 : Int) ≤ (↑(i.1) : Int) ∧ (↑(i.1) : Int) < (↑(List.length (cyL (madeF d i0 m0))) : Int)) ∧ ((0 : Int) ≤ 0 ∧ (0 : Int) < (↑(List.length (cyL (madeF d i0 m0))) : Int)) ∧ ((8 : Nat) ≤ 1000000 ∧ (8 : Nat) ≤ 1000000 ∧ (8 : Nat) ≤ 1000000 ∧ (8 : Nat) ≤ 1000000 ∧ (8 : Nat) ≤ 1000000 ∧ (8 : Nat) ≤ 1000000) ∧ bif eqF (List.getD (cyL (madeF d i0 m0)) (Int.toNat (↑(i.1) : Int)) (Fm.mk (0 : Int) (0 : Int) (0 : Int))) (List.getD (cyL (madeF d i0 m0)) (0 : Nat) (Fm.mk (0 : Int) (0 : Int) (0 : Int))) then false = true else ∃ j : WalkI, j.1 ≤ List.length (cyL (madeF d i0 m0)) ∧ ((k = k ∧ true = true ∧ ((6 : Nat) = 6 ∧ List.length (cyL (madeF d i0 m0)) = List.length (cyL (madeF d i0 m0)) ∧ LeFun (List.length (cyL (madeF d i0 m0))) (fL (cyL (madeF d i0 m0)) (8 : Nat)) (fL (cyL (madeF d i0 m0)) (8 : Nat))) ∧ (↑(List.length (cyL (madeF d i0 m0))) : Int) = (↑(List.length (cyL (madeF d i0 m0))) : Int) ∧ wrap i64 ((↑(i.1) : Int) + 1) = (↑(j.1) : Int) ∧ True) ∧ (d = d ∧ (i0 = i0 ∧ i1 = i1 ∧ True) ∧ (m0 = m0 ∧ m1 = m1 ∧ True) ∧ True) ∧ True) ∧ List.length (cyL (madeF d i0 m0)) - j.1 < List.length (cyL (madeF d i0 m0)) - i.1 else ∃ j : WalkI, j.1 ≤ List.length (cyL (madeF d i0 m0)) ∧ ((k = k ∧ true = true ∧ ((6 : Nat) = 6 ∧ List.length (cyL (madeF d i0 m0)) = List.length (cyL (madeF d i0 m0)) ∧ LeFun (List.length (cyL (madeF d i0 m0))) (fL (cyL (madeF d i0 m0)) (8 : Nat)) (fL (cyL (madeF d i0 m0)) (8 : Nat))) ∧ (↑(List.length (cyL (madeF d i0 m0))) : Int) = (↑(List.length (cyL (madeF d i0 m0))) : Int) ∧ wrap i64 ((↑(i.1) : Int) + 1) = (↑(j.1) : Int) ∧ True) ∧ (d = d ∧ (i0 = i0 ∧ i1 = i1 ∧ True) ∧ (m0 = m0 ∧ m1 = m1 ∧ True) ∧ True) ∧ True) ∧ List.length (cyL (madeF d i0 m0)) - j.1 < List.length (cyL (madeF d i0 m0)) - i.1 else ((↑(List.length (cyL (madeF d i0 m0))) : Int) = 0 → False) ∧ ((0 : Int) ≤ Int.tmod (wrap i64 k) (↑(List.length (cyL (madeF d i0 m0))) : Int) ∧ Int.tmod (wrap i64 k) (↑(List.length (cyL (madeF d i0 m0))) : Int) < (↑(List.length (cyL (madeF d i0 m0))) : Int)) ∧ ((8 : Nat) ≤ 300 ∧ (8 : Nat) ≤ 300 ∧ (8 : Nat) ≤ 300) ∧ bif knE (Fm.disc (List.getD (cyL (madeF d i0 m0)) (Int.toNat (Int.tmod (wrap i64 k) (↑(List.length (cyL (madeF d i0 m0))) : Int))) (Fm.mk (0 : Int) (0 : Int) (0 : Int)))) == 0 then ((0 : Int) ≤ Int.tmod (wrap i64 k) (↑(List.length (cyL (madeF d i0 m0))) : Int) ∧ Int.tmod (wrap i64 k) (↑(List.length (cyL (madeF d i0 m0))) : Int) ≤ (↑(List.length (cyL (madeF d i0 m0))) : Int)) ∧ ((0 : Nat) < News.len (News.rows (6 : Nat) (List.length (cyL (madeF d i0 m0)) - Int.toNat (Int.tmod (wrap i64 k) (↑(List.length (cyL (madeF d i0 m0))) : Int))) fun i => fL (cyL (madeF d i0 m0)) (8 : Nat) (Int.toNat (Int.tmod (wrap i64 k) (↑(List.length (cyL (madeF d i0 m0))) : Int)) + i)) ∧ News.len (News.rows (6 : Nat) (List.length (cyL (madeF d i0 m0)) - Int.toNat (Int.tmod (wrap i64 k) (↑(List.length (cyL (madeF d i0 m0))) : Int))) fun i => fL (cyL (madeF d i0 m0)) (8 : Nat) (Int.toNat (Int.tmod (wrap i64 k) (↑(List.length (cyL (madeF d i0 m0))) : Int)) + i)) * 96 ≤ 140737488355328) ∧ ((0 : Int) ≤ Int.tmod (wrap i64 k) (↑(List.length (cyL (madeF d i0 m0))) : Int) ∧ Int.tmod (wrap i64 k) (↑(List.length (cyL (madeF d i0 m0))) : Int) ≤ (↑(List.length (cyL (madeF d i0 m0))) : Int)) ∧ (News.len (News.rows (6 : Nat) (List.length (cyL (madeF d i0 m0)) - Int.toNat (Int.tmod (wrap i64 k) (↑(List.length (cyL (madeF d i0 m0))) : Int))) fun i => fL (cyL (madeF d i0 m0)) (8 : Nat) (Int.toNat (Int.tmod (wrap i64 k) (↑(List.length (cyL (madeF d i0 m0))) : Int)) + i)) ≤ List.length (cyL (madeF d i0 m0)) - Int.toNat (Int.tmod (wrap i64 k) (↑(List.length (cyL (madeF d i0 m0))) : Int)) ∧ (News.len (News.rows (6 : Nat) (List.length (cyL (madeF d i0 m0)) - Int.toNat (Int.tmod (wrap i64 k) (↑(List.length (cyL (madeF d i0 m0))) : Int))) fun i => fL (cyL (madeF d i0 m0)) (8 : Nat) (Int.toNat (Int.tmod (wrap i64 k) (↑(List.length (cyL (madeF d i0 m0))) : Int)) + i)) + News.len (News.rows (6 : Nat) (Int.toNat (Int.tmod (wrap i64 k) (↑(List.length (cyL (madeF d i0 m0))) : Int))) (fL (cyL (madeF d i0 m0)) (8 : Nat)))) * 96 ≤ 140737488355328) ∧ (News.len (News.rows (6 : Nat) (List.length (cyL (madeF d i0 m0)) - Int.toNat (Int.tmod (wrap i64 k) (↑(List.length (cyL (madeF d i0 m0))) : Int))) fun i => fL (cyL (madeF d i0 m0)) (8 : Nat) (Int.toNat (Int.tmod (wrap i64 k) (↑(List.length (cyL (madeF d i0 m0))) : Int)) + i)) + News.len (News.rows (6 : Nat) (Int.toNat (Int.tmod (wrap i64 k) (↑(List.length (cyL (madeF d i0 m0))) : Int))) (fL (cyL (madeF d i0 m0)) (8 : Nat))) ≤ News.len (News.rows (6 : Nat) (List.length (cyL (madeF d i0 m0)) - Int.toNat (Int.tmod (wrap i64 k) (↑(List.length (cyL (madeF d i0 m0))) : Int))) fun i => fL (cyL (madeF d i0 m0)) (8 : Nat) (Int.toNat (Int.tmod (wrap i64 k) (↑(List.length (cyL (madeF d i0 m0))) : Int)) + i)) + Int.toNat (Int.tmod (wrap i64 k) (↑(List.length (cyL (madeF d i0 m0))) : Int)) ∧ (∀ (i : Nat), i < List.length (cyL (List.getD (cyL (madeF d i0 m0)) (Int.toNat (Int.tmod (wrap i64 k) (↑(List.length (cyL (madeF d i0 m0))) : Int))) (Fm.mk (0 : Int) (0 : Int) (0 : Int)))) → isFm (1000 : Nat) (fL (cyL (List.getD (cyL (madeF d i0 m0)) (Int.toNat (Int.tmod (wrap i64 k) (↑(List.length (cyL (madeF d i0 m0))) : Int))) (Fm.mk (0 : Int) (0 : Int) (0 : Int)))) (8 : Nat) i)) ∧ (∀ (i : Nat), i < News.len (News.rows (6 : Nat) (List.length (cyL (madeF d i0 m0)) - Int.toNat (Int.tmod (wrap i64 k) (↑(List.length (cyL (madeF d i0 m0))) : Int))) fun i => fL (cyL (madeF d i0 m0)) (8 : Nat) (Int.toNat (Int.tmod (wrap i64 k) (↑(List.length (cyL (madeF d i0 m0))) : Int)) + i)) + News.len (News.rows (6 : Nat) (Int.toNat (Int.tmod (wrap i64 k) (↑(List.length (cyL (madeF d i0 m0))) : Int))) (fL (cyL (madeF d i0 m0)) (8 : Nat))) → isFm (1000 : Nat) (bif Nat.blt i (News.len (News.rows (6 : Nat) (List.length (cyL (madeF d i0 m0)) - Int.toNat (Int.tmod (wrap i64 k) (↑(List.length (cyL (madeF d i0 m0))) : Int))) fun i => fL (cyL (madeF d i0 m0)) (8 : Nat) (Int.toNat (Int.tmod (wrap i64 k) (↑(List.length (cyL (madeF d i0 m0))) : Int)) + i))) then fL (cyL (madeF d i0 m0)) (8 : Nat) (Int.toNat (Int.tmod (wrap i64 k) (↑(List.length (cyL (madeF d i0 m0))) : Int)) + i) else fL (cyL (madeF d i0 m0)) (8 : Nat) (i - News.len (News.rows (6 : Nat) (List.length (cyL (madeF d i0 m0)) - Int.toNat (Int.tmod (wrap i64 k) (↑(List.length (cyL (madeF d i0 m0))) : Int))) fun i => fL (cyL (madeF d i0 m0)) (8 : Nat) (Int.toNat (Int.tmod (wrap i64 k) (↑(List.length (cyL (madeF d i0 m0))) : Int)) + i))))) ∧ List.length (cyL (List.getD (cyL (madeF d i0 m0)) (Int.toNat (Int.tmod (wrap i64 k) (↑(List.length (cyL (madeF d i0 m0))) : Int))) (Fm.mk (0 : Int) (0 : Int) (0 : Int)))) ≤ 1000000000) ∧ bif eqFL (fvals (List.length (cyL (List.getD (cyL (madeF d i0 m0)) (Int.toNat (Int.tmod (wrap i64 k) (↑(List.length (cyL (madeF d i0 m0))) : Int))) (Fm.mk (0 : Int) (0 : Int) (0 : Int))))) (fL (cyL (List.getD (cyL (madeF d i0 m0)) (Int.toNat (Int.tmod (wrap i64 k) (↑(List.length (cyL (madeF d i0 m0))) : Int))) (Fm.mk (0 : Int) (0 : Int) (0 : Int)))) (8 : Nat))) (fvals (News.len (News.rows (6 : Nat) (List.length (cyL (madeF d i0 m0)) - Int.toNat (Int.tmod (wrap i64 k) (↑(List.length (cyL (madeF d i0 m0))) : Int))) fun i => fL (cyL (madeF d i0 m0)) (8 : Nat) (Int.toNat (Int.tmod (wrap i64 k) (↑(List.length (cyL (madeF d i0 m0))) : Int)) + i)) + News.len (News.rows (6 : Nat) (Int.toNat (Int.tmod (wrap i64 k) (↑(List.length (cyL (madeF d i0 m0))) : Int))) (fL (cyL (madeF d i0 m0)) (8 : Nat)))) fun q => bif Nat.blt q (News.len (News.rows (6 : Nat) (List.length (cyL (madeF d i0 m0)) - Int.toNat (Int.tmod (wrap i64 k) (↑(List.length (cyL (madeF d i0 m0))) : Int))) fun i => fL (cyL (madeF d i0 m0)) (8 : Nat) (Int.toNat (Int.tmod (wrap i64 k) (↑(List.length (cyL (madeF d i0 m0))) : Int)) + i))) then fL (cyL (madeF d i0 m0)) (8 : Nat) (Int.toNat (Int.tmod (wrap i64 k) (↑(List.length (cyL (madeF d i0 m0))) : Int)) + q) else fL (cyL (madeF d i0 m0)) (8 : Nat) (q - News.len (News.rows (6 : Nat) (List.length (cyL (madeF d i0 m0)) - Int.toNat (Int.tmod (wrap i64 k) (↑(List.length (cyL (madeF d i0 m0))) : Int))) fun i => fL (cyL (madeF d i0 m0)) (8 : Nat) (Int.toNat (Int.tmod (wrap i64 k) (↑(List.length (cyL (madeF d i0 m0))) : Int)) + i)))) then true = true else false = true else false = true) = evFn (envF [c_lex, c_made, c_ccycle, c_crho, c_creduced, c_r8equal, c_r17sl] z_v3 (a_v3 (cyL (madeF d i0 m0)) k)) Tryz.f5 [.st [.int .u16 d, .st [.int .u16 i0, .int .u16 i1], .st [.int .u8 m0, .int .u8 m1]], .int .u8 k] (MRes.sat (.ret (.bool true))) := by kernel_rfl
theorem turn_eq {l : List Fm} {a : Nat} (ha : a < l.length) {x : Fm} (hx : cyL x = l.drop a ++ l.take a) :
  eqFL (fvals (cyL x).length (fL (cyL x) 8)) (fvals ((l.length - a) + a) fun q => bif Nat.blt q (l.length - a) then fL l 8 (a + q) else fL l 8 (q - (l.length - a))) = true := by
 rw [fvals_fL, hx]
 refine decide_eq_true (List.ext_getElem (by simp [fvals]; omega) fun j h1 h2 => ?_)
 have hj : j < l.length := by simp at h1; omega
 simp only [fvals, List.getElem_map, List.getElem_range]
 rcases Nat.lt_or_ge j (l.length - a) with q | q
 ·have hb : Nat.blt j (l.length - a) = true := by simpa [Nat.blt_eq] using q
  rw [hb, cond_true, List.getElem_append_left (by rw [List.length_drop]; exact q), List.getElem_drop]
  show _ = l.getD (a + j) ⟨0, 0, 0⟩
  rw [getD_lt (by omega)]
 ·have hb : Nat.blt j (l.length - a) = false := by
   cases hb : Nat.blt j (l.length - a) with
   | false => rfl
   | true => rw [Nat.blt_eq] at hb; omega
  rw [hb, cond_false, List.getElem_append_right (by rw [List.length_drop]; exact q), List.getElem_take]
  show _ = l.getD (j - (l.length - a)) ⟨0, 0, 0⟩
  rw [getD_lt (by omega)]
  congr 1
  rw [List.length_drop]
theorem tmod_nat {a b : Nat} : Int.tmod (a : Int) (b : Int) = ((a % b : Nat) : Int) := by
 rw [Int.tmod_eq_emod_of_nonneg (by omega)]
 omega
def s_v3 : FSpec
 | [.st [.int .u16 d, .st [.int .u16 i0, .int .u16 i1], .st [.int .u8 m0, .int .u8 m1]], .int .u8 k] => some (some (OkX d i0 i1 m0 m1 ∧ 0 ≤ k ∧ k ≤ 255), .ret (.bool true))
 | _ => none
theorem p_v3 : Good Tryz.f5 s_v3 := by
 intro ms p r h hp
 unfold s_v3 at h
 split at h
 ·rename_i d i0 i1 m0 m1 k
  simp only [Option.some.injEq, Prod.mk.injEq] at h
  obtain ⟨rfl, rfl⟩ := h
  obtain ⟨hx, hk0, hk1⟩ : OkX d i0 i1 m0 m1 ∧ 0 ≤ k ∧ k ≤ 255 := hp
  refine ⟨envF [c_lex, c_made, c_ccycle, c_crho, c_creduced, c_r8equal, c_r17sl] z_v3 (a_v3 (cyL (madeF d i0 m0)) k), ?_⟩
  rw [← vc_v3 d i0 i1 m0 m1 k]
  have hD := made_disc (d := d) (i := i0) (m := m0) hx.a
  obtain ⟨hz, h5, h6⟩ := size_spec hx.a
  have hk : knE (madeF d i0 m0).disc = 0 := by rw [hD]; exact hz
  have hk' : (knE (madeF d i0 m0).disc != 0) = false := by rw [hk]; rfl
  have hO := clOk hk
  have hle := cyL_le (madeF d i0 m0)
  refine ⟨⟨hx.a, hx.b, hx.c, hx.d, hx.g, hx.h⟩, by omega, condF hk' ?_⟩
  generalize cyL (madeF d i0 m0) = l at hO hle ⊢
  have h2 := hO.two
  have hev := hO.ev
  have ek : Int.tmod (wrap i64 k) (l.length : Int) = ((k.toNat % l.length : Nat) : Int) := by
   rw [i64w (by omega) (by omega), ← tmod_nat]
   congr 1; omega
  have ha : k.toNat % l.length < l.length := Nat.mod_lt _ (by omega)
  rw [ek]
  generalize k.toNat % l.length = a at ha ⊢
  have e2 : (Int.tmod (l.length : Int) 2 != 0) = false := by
   rw [show (2 : Int) = ((2 : Nat) : Int) from rfl, tmod_nat, hev]; rfl
  refine condF (decide_eq_false (by omega)) ⟨by decide, condF e2 ⟨⟨⟨0⟩, Nat.zero_le _, ?_⟩, fun i hi => ?_⟩⟩
  ·and_intros <;> first | exact True.intro | rfl | exact LeFun.refl
  obtain ⟨i⟩ := i
  have hi : i ≤ l.length := hi
  dsimp only
  simp only [Int.toNat_natCast]
  refine condI decide_eq_true_iff (fun q => ?_) (fun q => ?_)
  ·have q' : i < l.length := by omega
   have e1 : wrap i64 ((i : Int) + 1) = ((i + 1 : Nat) : Int) := by rw [i64w (by omega) (by omega)]; omega
   have hkn : (knE (Fm.disc (l.getD i ⟨0, 0, 0⟩)) != 0) = false := by rw [hO.kn i q']; rfl
   rw [e1, tmod_nat, Int.toNat_natCast]
   have hm : (i + 1) % l.length < l.length := Nat.mod_lt _ (by omega)
   have hn : (!eqF (rhoR (l.getD i ⟨0, 0, 0⟩)) (l.getD ((i + 1) % l.length) ⟨0, 0, 0⟩)) = false := by rw [hO.nxt i q']; exact not_of (eqF_refl _)
   refine ⟨⟨by omega, q⟩, by omega, condF hkn ⟨⟨by omega, q⟩, by omega, condF (not_of (hO.red i q')) ⟨by omega, ⟨by omega, by omega⟩, by omega, condF hn ?_⟩⟩⟩
   have inn : ∃ j : WalkI, j.i ≤ l.length ∧ ((i + 1 : Nat) : Int) = (j.i : Int) ∧ l.length - j.i < l.length - i := ⟨⟨i + 1⟩, by show i + 1 ≤ l.length; omega, rfl, by show l.length - (i + 1) < l.length - i; omega⟩
   obtain ⟨j, j1, j2, j3⟩ := inn
   rw [j2]
   refine condI2 decide_eq_true_iff ⟨j, j1, ?_, j3⟩ fun q3 inn => ⟨⟨by omega, q⟩, ⟨by omega, by omega⟩, by omega, condF (decide_eq_false (hO.ne i (by omega) q')) inn⟩
   and_intros <;> first | exact True.intro | rfl | exact LeFun.refl
  ·have hkn : (knE (Fm.disc (l.getD a ⟨0, 0, 0⟩)) == 0) = true := by rw [hO.kn a ha]; rfl
   have ht := hO.turn a ha
   have hl2 : (cyL (l.getD a ⟨0, 0, 0⟩)).length = l.length := by rw [ht]; simp; omega
   have he := turn_eq ha ht
   refine ⟨by omega, ⟨by omega, by omega⟩, by omega, condT hkn ⟨⟨by omega, by omega⟩, ⟨by show 0 < l.length - a; omega, by show (l.length - a) * 96 ≤ 140737488355328; omega⟩, ⟨by omega, by omega⟩, ⟨Nat.le_refl _, by show (l.length - a + a) * 96 ≤ 140737488355328; omega⟩, ⟨Nat.le_refl _, fun i _ => isFm_fmv _ (by decide), fun i _ => ?_, by rw [hl2]; omega⟩, condT he ?_⟩⟩
   ·cases Nat.blt i (News.len (News.rows 6 (l.length - a) fun i => fL l 8 (a + i)))
    ·exact isFm_fmv _ (by decide)
    ·exact isFm_fmv _ (by decide)
   ·first | exact True.intro | rfl
 ·simp at h
noncomputable def c_v3 : Ctr Tryz.prog := ⟨5, s_v3, fun args w => Tryz.call5 args w, fn_ok mix Tryz.func5 s_v3 p_v3⟩
end Go.Proofs.YtnfmjlhkknndhaaGreat
/-
 CycleCloses, whatever the description and the number are.
-/
namespace Go.Proofs.YtnfmjlhkknndhaaGreat
open Go Go.ChangeShapes Go.WideShapes Go.ChangeAt Go.RowKit
open Go.IntKind (wrap i64 i32 i16 i8 u64 u32 u16 u8)
def tysCycleCloses : List Nat := [26, 22, 23, 24, 5]
theorem tysCycleCloses_ok : tysCycleCloses.all (subOk Tryz.prog tysCycleCloses) = true := by kernel_rfl
theorem parCycleCloses1 : Tryz.f5.params[1]? = some 5 := by rw [Tryz.params5]; rfl
set_option maxRecDepth 100000 in
theorem cycleCloses_contract (H : Type) (enc : TypeId × Value → H) (W : World) (base : Nat) (args : Array Value) (ds gs : List (DataW H)) (before : List MemPlace)
  (hval : ∀ (j : Nat) t v, Tryz.f5.params[j]? = some t → args[j]? = some v → Value.okWide Tryz.prog W .any base t v)
  (hW : DataW.Whole enc Tryz.prog Tryz.f5.params.toList Rows.cycleClosesSpec.vars Rows.cycleClosesRow.apart W args.toList ds gs before) :
  Calls Tryz.prog 5 args W fun e W' => ∃ v, e = .returned v ∧ Rows.cycleClosesSpec.post enc Tryz.prog Tryz.f5 Rows.cycleClosesRow.apart Rows.cycleClosesRow.fresh Rows.cycleClosesRow.handsOn Rows.cycleClosesRow.again W args v W' := by
 have hW' := hW
 obtain ⟨p, q, hA, hV, rfl, hfz, hnd⟩ := hW
 rw [Tryz.params5] at hA
 obtain ⟨v0, v1, d0d, d1d, p0, p1, rfl, rfl, rfl, h0, h1⟩ := trodAll_two hA
 obtain ⟨rfl, rfl⟩ := trodVars_none hV
 obtain ⟨d0, i0a, i0b, m0a, m0b, r0, w0⟩ := rep_r17 h0
 obtain ⟨z1, rfl, _, _, hw1⟩ := open_int Tryz.underlying5 (ok_at hval parCycleCloses1 rfl) h1
 have r1 : Rep1 (Ctx.args noS) W (.int .u8 z1) (.int .u8 z1) := rfl
 have w1 := u8_wf hw1
 refine law_calls c_v3 rfl rfl tysCycleCloses_ok (by rw [Tryz.params5]; decide) hW' (gw0 W) ⟨[.st [.int .u16 d0, .st [.int .u16 i0a, .int .u16 i0b], .st [.int .u8 m0a, .int .u8 m0b]], .int .u8 z1], _, rfl, ⟨w0, w1⟩, _, _, rfl, r0, _, _, rfl, r1, rfl⟩ rfl
set_option maxHeartbeats 1600000 in
set_option maxRecDepth 100000 in
theorem cycleCloses_lifted (os : Os) (started : os.Started) (H : Type) (enc : TypeId × Value → H) :
  ReturnsInHanded {} Tryz.checked os 5 .any (Rows.cycleClosesSpec.pre6 enc Tryz.prog Tryz.f5 Rows.cycleClosesRow.domain Rows.cycleClosesRow.apart) (Rows.cycleClosesSpec.post enc Tryz.prog Tryz.f5 Rows.cycleClosesRow.apart Rows.cycleClosesRow.fresh Rows.cycleClosesRow.handsOn Rows.cycleClosesRow.again) := by
 refine returnsInHanded_of_change (C := Tryz.checked) own started (by kernel_rfl) Tryz.func5
  (ChangeSpec.witness6 (enc := enc) (C := Tryz.checked) false ⟨#[], #[.agg #[.int .u16 0, .int .u16 0, .int .u16 0, .int .u8 0, .int .u8 0], .int .u8 0], []⟩ 8 (by kernel_rfl) (by kernel_rfl) (by kernel_rfl) (by kernel_rfl)) ?_
 intro W base args ds gs before hval hW _ _
 exact cycleCloses_contract H enc W base args ds gs before hval hW
theorem cycleCloses_over : Rows.cycleClosesRow.holds Tryz.pinned (OpenSpec.ofChange Rows.cycleClosesSpec) :=
 OpenClaim.holds_of_wide 5 Tryz.f5 rfl rfl rfl rfl rfl rfl rfl ⟨rfl, rfl, rfl, rfl, rfl⟩ rfl rfl rfl rfl rfl (by kernel_rfl) Tryz.func5 (by kernel_rfl)
  (of_decide_eq_true (by kernel_rfl)) (by unfold Func.isWrapper; first | (rw [if_pos (by decide +kernel)]; kernel_rfl) | (rw [if_neg (by decide +kernel)]; exact ⟨rfl, rfl⟩))
  (fun os started H enc _ => cycleCloses_lifted os started H enc)
theorem cycleCloses_holds : Rows.CycleClosesSaid := cycleCloses_over
end Go.Proofs.YtnfmjlhkknndhaaGreat
