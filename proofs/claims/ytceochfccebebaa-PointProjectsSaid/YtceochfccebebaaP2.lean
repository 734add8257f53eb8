/-
  PointProjects: whatever the curve modulo a product of two primes (primes from 5 to 70) and the factor are: if there is the sum, its residue modulo the first prime is the sum of the residues.
-/
import Derived.Test.YtceochfccebebaaW5


/-
  Plain facts: sums modulo a divisor of the modulus.
-/
namespace Go.Proofs.Ytceochfccebebaa
open Go Go.RowKit

theorem emod_of_dvd {x a m : Int} (h : a ∣ m) : x % m % a = x % a := Int.emod_emod_of_dvd x h
theorem gcd_dvd_one {x a m : Int} (h : a ∣ m) (hg : Int.gcd x m = 1) : Int.gcd x a = 1 := by
  have h1 : (Int.gcd x a : Int) ∣ x := Int.gcd_dvd_left ..
  have h2 : (Int.gcd x a : Int) ∣ m := Int.dvd_trans (Int.gcd_dvd_right ..) h
  have h3 := Int.dvd_gcd h1 h2
  rw [hg] at h3
  exact Nat.dvd_one.1 h3
theorem gcd_congr {x y a : Int} (h : a ∣ x - y) (hg : Int.gcd x a = 1) : Int.gcd y a = 1 := by
  have h1 : (Int.gcd y a : Int) ∣ y := Int.gcd_dvd_left ..
  have h2 : (Int.gcd y a : Int) ∣ a := Int.gcd_dvd_right ..
  have h4 : (Int.gcd y a : Int) ∣ x := by
    have := Int.dvd_add (Int.dvd_trans h2 h) h1
    rwa [Int.sub_add_cancel] at this
  have h3 := Int.dvd_gcd h4 h2
  rw [hg] at h3
  exact Nat.dvd_one.1 h3
theorem gcd_dvd_self {x a : Int} (ha : 1 < a) (hg : Int.gcd x a = 1) : ¬ a ∣ x := by
  intro h
  have h3 := Int.dvd_coe_gcd h (Int.dvd_refl a)
  rw [hg] at h3
  have := Int.le_of_dvd (by omega) h3
  omega
theorem dvd_cancel {a d x : Int} (hg : Int.gcd d a = 1) (h : a ∣ x * d) : a ∣ x :=
  dvd_of_coprime (by rw [Int.gcd_comm]; exact hg) (by rwa [Int.mul_comm] at h)

theorem slope_prop {A m px py qx qy : Int} (hm : 1 < m) (hg : Int.gcd (slD px py qx qy) m = 1) : m ∣ slope A m px py qx qy * slD px py qx qy - slN A px py qx qy := by
  obtain ⟨_, _, m3⟩ := minv_spec (by omega) hg
  have hs : m ∣ slope A m px py qx qy - slN A px py qx qy * minv (slD px py qx qy) m := dvd_emod _ _
  have e : slope A m px py qx qy * slD px py qx qy - slN A px py qx qy = slD px py qx qy * (slope A m px py qx qy - slN A px py qx qy * minv (slD px py qx qy) m) + slN A px py qx qy * (minv (slD px py qx qy) m * slD px py qx qy - 1) := by grind
  rw [e]; exact dv2 hs m3

theorem curve_proj {A B a : Int} (ha : 3 < a) (ho : a % 2 ≠ 0) : curveB (A % a) (B % a) a = true :=
  curveB_iff.2 ⟨ha, ho, ⟨Int.emod_nonneg _ (by omega), Int.emod_lt_of_pos _ (by omega)⟩, Int.emod_nonneg _ (by omega), Int.emod_lt_of_pos _ (by omega)⟩

theorem dv4 {M a b c d e f g h : Int} (h1 : M ∣ a) (h2 : M ∣ b) (h3 : M ∣ c) (h4 : M ∣ d) : M ∣ e * a + f * b + g * c + h * d :=
  Int.dvd_add (Int.dvd_add (dv2 h1 h2) (Int.dvd_mul_of_dvd_right h3)) (Int.dvd_mul_of_dvd_right h4)

theorem on_proj {A B m a X Y : Int} {o : Bool} (h : onB A B m X Y o = true) (hd : a ∣ m) (ha : 3 < a) (ho : a % 2 ≠ 0) : onB (A % a) (B % a) a (X % a) (Y % a) o = true := by
  have hc : curveB (A % a) (B % a) a = true := curve_proj ha ho
  cases o with
  | true =>
    obtain ⟨_, rfl, rfl⟩ := on_inf.1 h
    exact on_inf.2 ⟨hc, by simp, by simp⟩
  | false =>
    obtain ⟨_, p0, p1, p2, p3, p4⟩ := on_iff.1 h
    refine on_iff.2 ⟨hc, Int.emod_nonneg _ (by omega), Int.emod_lt_of_pos _ (by omega), Int.emod_nonneg _ (by omega), Int.emod_lt_of_pos _ (by omega), ?_⟩
    have hx := dvd_emod X a
    have hy := dvd_emod Y a
    have hA := dvd_emod A a
    have hB := dvd_emod B a
    have h1 := Int.dvd_trans hd p4
    generalize X % a = x at *
    generalize Y % a = y at *
    generalize A % a = A' at *
    generalize B % a = B' at *
    have e : y * y - (x * x * x + A' * x + B') = 1 * (Y * Y - (X * X * X + A * X + B)) + 1 * ((y + Y) * (y - Y) + (-(x * x + x * X + X * X + A)) * (x - X) + (-x) * (A' - A) + (-1) * (B' - B)) := by grind
    rw [e]; exact dv2 h1 (dv4 hy hx hA hB)

theorem add_proj {A B m a px py qx qy X Y : Int} {qo o : Bool} (hp : onB A B m px py false = true) (hq : onB A B m qx qy qo = true) (hd : a ∣ m) (ha : 3 < a)
    (hs : addT A m px py false qx qy qo = .pt X Y o) : addT (A % a) a (px % a) (py % a) false (qx % a) (qy % a) qo = .pt (X % a) (Y % a) o := by
  obtain ⟨hM, _⟩ := curveB_iff.1 (on_curve hp)
  obtain ⟨_, p0, p1, p2, p3, p4⟩ := on_iff.1 hp
  unfold addT at hs ⊢
  rw [cond_false] at hs ⊢
  cases qo with
  | true =>
    rw [cond_true] at hs ⊢
    simp only [TR.pt.injEq] at hs
    obtain ⟨rfl, rfl, rfl⟩ := hs
    rfl
  | false =>
    obtain ⟨_, q0, q1, q2, q3, q4⟩ := on_iff.1 hq
    rw [cond_false] at hs ⊢
    have hpx := dvd_emod px a
    have hpy := dvd_emod py a
    have hqx := dvd_emod qx a
    have hqy := dvd_emod qy a
    have hA := dvd_emod A a
    have key : ∀ (D N D' N' : Int), slD px py qx qy = D → slN A px py qx qy = N → slD (px % a) (py % a) (qx % a) (qy % a) = D' → slN (A % a) (px % a) (py % a) (qx % a) (qy % a) = N' → a ∣ D - D' → a ∣ N - N' → Int.gcd D m = 1 →
        Int.gcd D' a = 1 ∧ sumX (A % a) a (px % a) (py % a) (qx % a) (qy % a) = sumX A m px py qx qy % a ∧ sumY (A % a) a (px % a) (py % a) (qx % a) (qy % a) = sumY A m px py qx qy % a := by
      intro D N D' N' eD eN eD' eN' hDD hNN hg
      have hga := gcd_dvd_one hd hg
      have hg' := gcd_congr hDD hga
      have s1 := slope_prop (A := A) (px := px) (py := py) (qx := qx) (qy := qy) (m := m) (by omega) (by rw [eD]; exact hg)
      have s2 := slope_prop (A := A % a) (px := px % a) (py := py % a) (qx := qx % a) (qy := qy % a) (m := a) (by omega) (by rw [eD']; exact hg')
      rw [eD, eN] at s1
      rw [eD', eN'] at s2
      have s1 := Int.dvd_trans hd s1
      have hs : a ∣ slope (A % a) a (px % a) (py % a) (qx % a) (qy % a) - slope A m px py qx qy := by
        refine dvd_cancel hga ?_
        generalize slope (A % a) a (px % a) (py % a) (qx % a) (qy % a) = t at *
        generalize slope A m px py qx qy = s at *
        have e : (t - s) * D = 1 * (t * D' - N') + (-1) * (s * D - N) + t * (D - D') + (-1) * (N - N') := by grind
        rw [e]; exact dv4 s2 s1 hDD hNN
      have hX : sumX (A % a) a (px % a) (py % a) (qx % a) (qy % a) = sumX A m px py qx qy % a := by
        unfold sumX
        rw [emod_of_dvd hd, emod_eq_iff]
        generalize slope (A % a) a (px % a) (py % a) (qx % a) (qy % a) = t at *
        generalize slope A m px py qx qy = s at *
        generalize px % a = px' at *
        generalize qx % a = qx' at *
        have e : t * t - (px' + qx') - (s * s - (px + qx)) = (t + s) * (t - s) + (-1) * (px' - px) + (-1) * (qx' - qx) + 0 * (t - s) := by grind
        rw [e]; exact dv4 hs hpx hqx hs
      refine ⟨hg', hX, ?_⟩
      have hX2 : a ∣ sumX (A % a) a (px % a) (py % a) (qx % a) (qy % a) - sumX A m px py qx qy := by rw [hX]; exact dvd_emod _ _
      unfold sumY
      rw [emod_of_dvd hd, emod_eq_iff]
      generalize sumX (A % a) a (px % a) (py % a) (qx % a) (qy % a) = x' at *
      generalize sumX A m px py qx qy = x at *
      generalize slope (A % a) a (px % a) (py % a) (qx % a) (qy % a) = t at *
      generalize slope A m px py qx qy = s at *
      generalize px % a = px' at *
      generalize py % a = py' at *
      have e : t * (px' - x') - py' - (s * (px - x) - py) = (px' - x') * (t - s) + s * (px' - px) + (-s) * (x' - x) + (-1) * (py' - py) := by grind
      rw [e]; exact dv4 hs hpx hX2 hpy
    by_cases e : px = qx
    · have e' : px % a = qx % a := by rw [e]
      cases hop : oppB m px py qx qy with
      | true =>
        rw [hop, cond_true] at hs
        simp only [TR.pt.injEq] at hs
        obtain ⟨rfl, rfl, rfl⟩ := hs
        unfold oppB at hop
        rw [decide_eq_true e, Bool.true_and, decide_eq_true_iff] at hop
        have h1 : a ∣ py + qy := Int.dvd_trans hd (Int.dvd_of_emod_eq_zero hop)
        have h2 : (py % a + qy % a) % a = 0 := by
          rw [← Int.add_emod]; exact Int.emod_eq_zero_of_dvd h1
        have : oppB a (px % a) (py % a) (qx % a) (qy % a) = true := by
          unfold oppB; rw [decide_eq_true e', decide_eq_true h2]; rfl
        rw [this, cond_true]
        simp
      | false =>
        rw [hop, cond_false] at hs
        by_cases hg : Int.gcd (slD px py qx qy) m = 1
        · rw [decide_eq_true hg, cond_true] at hs
          simp only [TR.pt.injEq] at hs
          obtain ⟨rfl, rfl, rfl⟩ := hs
          have eD : slD px py qx qy = py + qy := by unfold slD; simp [e]
          have eN : slN A px py qx qy = 3 * (px * px) + A := by unfold slN; simp [e]
          have eD' : slD (px % a) (py % a) (qx % a) (qy % a) = py % a + qy % a := by unfold slD; simp [e']
          have eN' : slN (A % a) (px % a) (py % a) (qx % a) (qy % a) = 3 * (px % a * (px % a)) + A % a := by unfold slN; simp [e']
          have hDD : a ∣ py + qy - (py % a + qy % a) := by
            have e : py + qy - (py % a + qy % a) = (-1) * (py % a - py) + (-1) * (qy % a - qy) := by omega
            rw [e]; exact dv2 hpy hqy
          have hNN : a ∣ 3 * (px * px) + A - (3 * (px % a * (px % a)) + A % a) := by
            have e : 3 * (px * px) + A - (3 * (px % a * (px % a)) + A % a) = (-3 * (px % a + px)) * (px % a - px) + (-1) * (A % a - A) := by grind
            rw [e]; exact dv2 hpx hA
          obtain ⟨g1, g2, g3⟩ := key _ _ _ _ eD eN eD' eN' hDD hNN (by rw [← eD]; exact hg)
          have : oppB a (px % a) (py % a) (qx % a) (qy % a) = false := by
            unfold oppB
            rw [decide_eq_true e', Bool.true_and, decide_eq_false_iff_not]
            intro h0
            exact gcd_dvd_self (by omega) g1 (Int.dvd_of_emod_eq_zero h0)
          rw [this, cond_false, eD', decide_eq_true g1, cond_true, g2, g3]
        · rw [decide_eq_false hg, cond_false] at hs
          simp at hs
    · have hop : oppB m px py qx qy = false := by unfold oppB; rw [decide_eq_false e, Bool.false_and]
      rw [hop, cond_false] at hs
      by_cases hg : Int.gcd (slD px py qx qy) m = 1
      · rw [decide_eq_true hg, cond_true] at hs
        simp only [TR.pt.injEq] at hs
        obtain ⟨rfl, rfl, rfl⟩ := hs
        have eD : slD px py qx qy = qx - px := by unfold slD; simp [e]
        have eN : slN A px py qx qy = qy - py := by unfold slN; simp [e]
        have hga := gcd_dvd_one hd hg
        rw [eD] at hga
        have e' : ¬ px % a = qx % a := by
          intro h0
          exact gcd_dvd_self (by omega) hga (emod_eq_iff.1 h0.symm)
        have eD' : slD (px % a) (py % a) (qx % a) (qy % a) = qx % a - px % a := by unfold slD; simp [e']
        have eN' : slN (A % a) (px % a) (py % a) (qx % a) (qy % a) = qy % a - py % a := by unfold slN; simp [e']
        have hDD : a ∣ qx - px - (qx % a - px % a) := by
          have e : qx - px - (qx % a - px % a) = (-1) * (qx % a - qx) + 1 * (px % a - px) := by omega
          rw [e]; exact dv2 hqx hpx
        have hNN : a ∣ qy - py - (qy % a - py % a) := by
          have e : qy - py - (qy % a - py % a) = (-1) * (qy % a - qy) + 1 * (py % a - py) := by omega
          rw [e]; exact dv2 hqy hpy
        obtain ⟨g1, g2, g3⟩ := key _ _ _ _ eD eN eD' eN' hDD hNN (by rw [← eD]; exact hg)
        have : oppB a (px % a) (py % a) (qx % a) (qy % a) = false := by unfold oppB; rw [decide_eq_false e', Bool.false_and]
        rw [this, cond_false, eD', decide_eq_true g1, cond_true, g2, g3]
      · rw [decide_eq_false hg, cond_false] at hs
        simp at hs

/-- The small primes. -/
theorem pj_primes : ∀ n, n < 65 → 5 ≤ n → 5 ≤ nextP n ∧ nextP n ≤ 67 ∧ nextP n % 2 = 1 := by decide +kernel

end Go.Proofs.Ytceochfccebebaa

/-
  The walk of PointProjects.
-/
namespace Go.Proofs.Ytceochfccebebaa
open Go Go.RowKit

/-- The primes; the multiple; the sum; the sum of the residues. -/
def pjA (k : Int) : Int := nextP (5 + k % 60).toNat
noncomputable def pjQ (m A X Y Q : Int) : RS := mulI A (curveI m A X Y) m (Q % 40) X Y false
noncomputable def pjS (m A X Y Q : Int) : RS := addI A (curveI m A X Y) m X Y false (pjQ m A X Y Q).X (pjQ m A X Y Q).Y (pjQ m A X Y Q).o
noncomputable def pjT (m a A X Y Q : Int) : RS := addI (A % a) (curveI m A X Y % a) a (X % a) (Y % a) false ((pjQ m A X Y Q).X % a) ((pjQ m A X Y Q).Y % a) (pjQ m A X Y Q).o
def pjIn (m A X Y : Int) : Prop := A < m ∧ X < m ∧ Y < m
abbrev pjBx0 (M A X Y Q k0 k1 : Int) : List Box := [⟨false, .one (crvM M A X Y Q)⟩, ⟨false, .one (.st [.int .u8 k0, .int .u8 k1])⟩]
abbrev pjTm0 : List (Nat × MV) := [(2, .bp 0 0), (3, .bp 1 0), (5, .bool true)]
noncomputable def pjCut (M A X Y Q k0 k1 a b m : Int) : Nat → MS → Option CutAnn
  | 5, _ => some (.mk Bool (fun t => t = true) (fun _ => ⟨164, pjTm0 ++ [(6, .int .i64 a), (7, .int .i64 b)], pjBx0 M A X Y Q k0 k1, 0⟩))
  | 7, _ => some (.mk Bool (fun t => t = true) (fun _ => ⟨164, pjTm0 ++ [(6, .int .i64 a), (8, .int .i64 m), (9, .bp 2 0)], pjBx0 M A X Y Q k0 k1 ++ [⟨false, .one (cvM A (curveI m A X Y) m 64 64 64)⟩], 0⟩))
  | 10, _ => some (.mk Bool (fun t => t = true ∧ pjIn m A X Y) (fun _ => ⟨164, pjTm0 ++ [(6, .int .i64 a), (9, .bp 2 0), (10, .bp 3 0)], pjBx0 M A X Y Q k0 k1 ++ [⟨false, .one (cvM A (curveI m A X Y) m 64 64 64)⟩, ⟨false, .one (ptM X Y false 64 64)⟩], 0⟩))
  | 11, _ => some (.mk Bool (fun t => t = true ∧ pjIn m A X Y) (fun _ => ⟨164, pjTm0 ++ [(6, .int .i64 a), (9, .bp 2 0), (10, .bp 3 0), (11, .bp 4 0)], pjBx0 M A X Y Q k0 k1 ++ [⟨false, .one (cvM A (curveI m A X Y) m 64 64 64)⟩, ⟨false, .one (ptM X Y false 64 64)⟩, ⟨false, .one (sumM (pjQ m A X Y Q))⟩], 0⟩))
  | 14, _ => some (.mk Bool (fun t => t = true ∧ pjIn m A X Y ∧ (pjQ m A X Y Q).e = 0) (fun _ => ⟨164, pjTm0 ++ [(6, .int .i64 a), (9, .bp 2 0), (10, .bp 3 0), (11, .bp 4 0), (12, .bp 5 0)], pjBx0 M A X Y Q k0 k1 ++ [⟨false, .one (cvM A (curveI m A X Y) m 64 64 64)⟩, ⟨false, .one (ptM X Y false 64 64)⟩, ⟨false, .one (sumM (pjQ m A X Y Q))⟩, ⟨false, .one (sumM (pjS m A X Y Q))⟩], 0⟩))
  | _, _ => none
theorem vc_pj (M A X Y Q k0 k1 : Int) (a b m : Int) : ((((0 : Int) ≤ (0 : Int) ∧ (0 : Int) < (↑(2 : Nat) : Int)) ∧ ((60 : Int) = (0 : Int) → False) ∧ ((0 : Int) ≤ IntKind.wrap IntKind.u16 ((5 : Int) + IntKind.wrap IntKind.u16 (Int.tmod k0 (60 : Int))) ∧ IntKind.wrap IntKind.u16 ((5 : Int) + IntKind.wrap IntKind.u16 (Int.tmod k0 (60 : Int))) ≤ (263 : Int)) ∧ ((0 : Int) ≤ (1 : Int) ∧ (1 : Int) < (↑(2 : Nat) : Int)) ∧ ((60 : Int) = (0 : Int) → False) ∧ ((0 : Int) ≤ IntKind.wrap IntKind.u16 ((5 : Int) + IntKind.wrap IntKind.u16 (Int.tmod k1 (60 : Int))) ∧ IntKind.wrap IntKind.u16 ((5 : Int) + IntKind.wrap IntKind.u16 (Int.tmod k1 (60 : Int))) ≤ (263 : Int)) ∧ ∃ i, i = true ∧ ((0 : Nat) = (0 : Nat) ∧ (0 : Nat) = (0 : Nat) ∧ true = true ∧ (↑(nextP (Int.toNat (IntKind.wrap IntKind.u16 ((5 : Int) + IntKind.wrap IntKind.u16 (Int.tmod k0 (60 : Int)))))) : Int) = a ∧ (↑(nextP (Int.toNat (IntKind.wrap IntKind.u16 ((5 : Int) + IntKind.wrap IntKind.u16 (Int.tmod k1 (60 : Int)))))) : Int) = b ∧ True) ∧ (M = M ∧ A = A ∧ X = X ∧ Y = Y ∧ Q = Q ∧ True) ∧ (k0 = k0 ∧ k1 = k1 ∧ True) ∧ True) ∧ ∀ (i : Bool), i = true → (((1 : Int) ≤ IntKind.wrap IntKind.i64 (a * b) ∧ IntKind.wrap IntKind.i64 (a * b) ≤ (100000 : Int) ∧ (0 : Int) ≤ IntKind.wrap IntKind.i64 A ∧ IntKind.wrap IntKind.i64 A ≤ (100000 : Int) ∧ (0 : Int) ≤ IntKind.wrap IntKind.i64 X ∧ IntKind.wrap IntKind.i64 X ≤ (100000 : Int) ∧ (0 : Int) ≤ IntKind.wrap IntKind.i64 Y ∧ IntKind.wrap IntKind.i64 Y ≤ (100000 : Int)) ∧ ∃ i, i = true ∧ ((0 : Nat) = (0 : Nat) ∧ (0 : Nat) = (0 : Nat) ∧ true = true ∧ a = a ∧ IntKind.wrap IntKind.i64 (a * b) = m ∧ (0 : Nat) = (0 : Nat) ∧ True) ∧ (M = M ∧ A = A ∧ X = X ∧ Y = Y ∧ Q = Q ∧ True) ∧ (k0 = k0 ∧ k1 = k1 ∧ True) ∧ ((IntKind.wrap IntKind.i64 A = A ∧ ((64 : Nat) ≤ (64 : Nat) ∨ Int.natAbs (IntKind.wrap IntKind.i64 A) < (2 : Nat) ^ (64 : Nat))) ∧ (curveI (IntKind.wrap IntKind.i64 (a * b)) (IntKind.wrap IntKind.i64 A) (IntKind.wrap IntKind.i64 X) (IntKind.wrap IntKind.i64 Y) = curveI m A X Y ∧ ((64 : Nat) ≤ (64 : Nat) ∨ Int.natAbs (curveI (IntKind.wrap IntKind.i64 (a * b)) (IntKind.wrap IntKind.i64 A) (IntKind.wrap IntKind.i64 X) (IntKind.wrap IntKind.i64 Y)) < (2 : Nat) ^ (64 : Nat))) ∧ (IntKind.wrap IntKind.i64 (a * b) = m ∧ ((64 : Nat) ≤ (64 : Nat) ∨ Int.natAbs (IntKind.wrap IntKind.i64 (a * b)) < (2 : Nat) ^ (64 : Nat))) ∧ True) ∧ True) ∧ ∀ (i : Bool), i = true → bif decide (IntKind.wrap IntKind.i64 A ≥ m) then true = true else bif decide (IntKind.wrap IntKind.i64 X ≥ m) then true = true else bif decide (IntKind.wrap IntKind.i64 Y ≥ m) then true = true else (((-9223372036854775808 : Int) ≤ IntKind.wrap IntKind.i64 X ∧ IntKind.wrap IntKind.i64 X ≤ (9223372036854775807 : Int) ∧ (-9223372036854775808 : Int) ≤ IntKind.wrap IntKind.i64 Y ∧ IntKind.wrap IntKind.i64 Y ≤ (9223372036854775807 : Int)) ∧ ∃ i, (i = true ∧ A < m ∧ X < m ∧ Y < m) ∧ ((0 : Nat) = (0 : Nat) ∧ (0 : Nat) = (0 : Nat) ∧ true = true ∧ a = a ∧ (0 : Nat) = (0 : Nat) ∧ (0 : Nat) = (0 : Nat) ∧ True) ∧ (M = M ∧ A = A ∧ X = X ∧ Y = Y ∧ Q = Q ∧ True) ∧ (k0 = k0 ∧ k1 = k1 ∧ True) ∧ ((A = A ∧ ((64 : Nat) ≤ (64 : Nat) ∨ Int.natAbs A < (2 : Nat) ^ (64 : Nat))) ∧ (curveI m A X Y = curveI m A X Y ∧ ((64 : Nat) ≤ (64 : Nat) ∨ Int.natAbs (curveI m A X Y) < (2 : Nat) ^ (64 : Nat))) ∧ (m = m ∧ ((64 : Nat) ≤ (64 : Nat) ∨ Int.natAbs m < (2 : Nat) ^ (64 : Nat))) ∧ True) ∧ ((IntKind.wrap IntKind.i64 X = X ∧ ((64 : Nat) ≤ (64 : Nat) ∨ Int.natAbs (IntKind.wrap IntKind.i64 X) < (2 : Nat) ^ (64 : Nat))) ∧ (IntKind.wrap IntKind.i64 Y = Y ∧ ((64 : Nat) ≤ (64 : Nat) ∨ Int.natAbs (IntKind.wrap IntKind.i64 Y) < (2 : Nat) ^ (64 : Nat))) ∧ false = false ∧ True) ∧ True) ∧ ∀ (i : Bool), i = true ∧ A < m ∧ X < m ∧ Y < m → (((40 : Int) = (0 : Int) → False) ∧ ((-9223372036854775808 : Int) ≤ IntKind.wrap IntKind.i64 (Int.tmod Q (40 : Int)) ∧ IntKind.wrap IntKind.i64 (Int.tmod Q (40 : Int)) ≤ (9223372036854775807 : Int)) ∧ ((64 : Nat) ≤ (100000 : Nat) ∧ (64 : Nat) ≤ (200 : Nat) ∧ (64 : Nat) ≤ (200 : Nat) ∧ (64 : Nat) ≤ (200 : Nat) ∧ (64 : Nat) ≤ (200 : Nat) ∧ (64 : Nat) ≤ (200 : Nat)) ∧ ∃ i, (i = true ∧ A < m ∧ X < m ∧ Y < m) ∧ ((0 : Nat) = (0 : Nat) ∧ (0 : Nat) = (0 : Nat) ∧ true = true ∧ a = a ∧ (0 : Nat) = (0 : Nat) ∧ (0 : Nat) = (0 : Nat) ∧ (0 : Nat) = (0 : Nat) ∧ True) ∧ (M = M ∧ A = A ∧ X = X ∧ Y = Y ∧ Q = Q ∧ True) ∧ (k0 = k0 ∧ k1 = k1 ∧ True) ∧ ((A = A ∧ ((64 : Nat) ≤ (64 : Nat) ∨ Int.natAbs A < (2 : Nat) ^ (64 : Nat))) ∧ (curveI m A X Y = curveI m A X Y ∧ ((64 : Nat) ≤ (64 : Nat) ∨ Int.natAbs (curveI m A X Y) < (2 : Nat) ^ (64 : Nat))) ∧ (m = m ∧ ((64 : Nat) ≤ (64 : Nat) ∨ Int.natAbs m < (2 : Nat) ^ (64 : Nat))) ∧ True) ∧ ((X = X ∧ ((64 : Nat) ≤ (64 : Nat) ∨ Int.natAbs X < (2 : Nat) ^ (64 : Nat))) ∧ (Y = Y ∧ ((64 : Nat) ≤ (64 : Nat) ∨ Int.natAbs Y < (2 : Nat) ^ (64 : Nat))) ∧ false = false ∧ True) ∧ (((RS.X (mulI A (curveI m A X Y) m (IntKind.wrap IntKind.i64 (Int.tmod Q (40 : Int))) X Y false) = RS.X (pjQ m A X Y Q) ∧ ((200 : Nat) ≤ (200 : Nat) ∨ Int.natAbs (RS.X (mulI A (curveI m A X Y) m (IntKind.wrap IntKind.i64 (Int.tmod Q (40 : Int))) X Y false)) < (2 : Nat) ^ (200 : Nat))) ∧ (RS.Y (mulI A (curveI m A X Y) m (IntKind.wrap IntKind.i64 (Int.tmod Q (40 : Int))) X Y false) = RS.Y (pjQ m A X Y Q) ∧ ((200 : Nat) ≤ (200 : Nat) ∨ Int.natAbs (RS.Y (mulI A (curveI m A X Y) m (IntKind.wrap IntKind.i64 (Int.tmod Q (40 : Int))) X Y false)) < (2 : Nat) ^ (200 : Nat))) ∧ RS.o (mulI A (curveI m A X Y) m (IntKind.wrap IntKind.i64 (Int.tmod Q (40 : Int))) X Y false) = RS.o (pjQ m A X Y Q) ∧ True) ∧ (RS.d (mulI A (curveI m A X Y) m (IntKind.wrap IntKind.i64 (Int.tmod Q (40 : Int))) X Y false) = RS.d (pjQ m A X Y Q) ∧ ((200 : Nat) ≤ (200 : Nat) ∨ Int.natAbs (RS.d (mulI A (curveI m A X Y) m (IntKind.wrap IntKind.i64 (Int.tmod Q (40 : Int))) X Y false)) < (2 : Nat) ^ (200 : Nat))) ∧ RS.e (mulI A (curveI m A X Y) m (IntKind.wrap IntKind.i64 (Int.tmod Q (40 : Int))) X Y false) = RS.e (pjQ m A X Y Q) ∧ True) ∧ True) ∧ ∀ (i : Bool), i = true ∧ A < m ∧ X < m ∧ Y < m → bif RS.e (pjQ m A X Y Q) != (0 : Int) then bif RS.e (pjQ m A X Y Q) == (6 : Int) then true = true else false = true else (((64 : Nat) ≤ (200 : Nat) ∧ (64 : Nat) ≤ (200 : Nat) ∧ (64 : Nat) ≤ (200 : Nat) ∧ (64 : Nat) ≤ (200 : Nat) ∧ (64 : Nat) ≤ (200 : Nat) ∧ (200 : Nat) ≤ (200 : Nat) ∧ (200 : Nat) ≤ (200 : Nat)) ∧ ∃ i, (i = true ∧ (A < m ∧ X < m ∧ Y < m) ∧ RS.e (pjQ m A X Y Q) = (0 : Int)) ∧ ((0 : Nat) = (0 : Nat) ∧ (0 : Nat) = (0 : Nat) ∧ true = true ∧ a = a ∧ (0 : Nat) = (0 : Nat) ∧ (0 : Nat) = (0 : Nat) ∧ (0 : Nat) = (0 : Nat) ∧ (0 : Nat) = (0 : Nat) ∧ True) ∧ (M = M ∧ A = A ∧ X = X ∧ Y = Y ∧ Q = Q ∧ True) ∧ (k0 = k0 ∧ k1 = k1 ∧ True) ∧ ((A = A ∧ ((64 : Nat) ≤ (64 : Nat) ∨ Int.natAbs A < (2 : Nat) ^ (64 : Nat))) ∧ (curveI m A X Y = curveI m A X Y ∧ ((64 : Nat) ≤ (64 : Nat) ∨ Int.natAbs (curveI m A X Y) < (2 : Nat) ^ (64 : Nat))) ∧ (m = m ∧ ((64 : Nat) ≤ (64 : Nat) ∨ Int.natAbs m < (2 : Nat) ^ (64 : Nat))) ∧ True) ∧ ((X = X ∧ ((64 : Nat) ≤ (64 : Nat) ∨ Int.natAbs X < (2 : Nat) ^ (64 : Nat))) ∧ (Y = Y ∧ ((64 : Nat) ≤ (64 : Nat) ∨ Int.natAbs Y < (2 : Nat) ^ (64 : Nat))) ∧ false = false ∧ True) ∧ (((RS.X (pjQ m A X Y Q) = RS.X (pjQ m A X Y Q) ∧ ((200 : Nat) ≤ (200 : Nat) ∨ Int.natAbs (RS.X (pjQ m A X Y Q)) < (2 : Nat) ^ (200 : Nat))) ∧ (RS.Y (pjQ m A X Y Q) = RS.Y (pjQ m A X Y Q) ∧ ((200 : Nat) ≤ (200 : Nat) ∨ Int.natAbs (RS.Y (pjQ m A X Y Q)) < (2 : Nat) ^ (200 : Nat))) ∧ RS.o (pjQ m A X Y Q) = RS.o (pjQ m A X Y Q) ∧ True) ∧ (RS.d (pjQ m A X Y Q) = RS.d (pjQ m A X Y Q) ∧ ((200 : Nat) ≤ (200 : Nat) ∨ Int.natAbs (RS.d (pjQ m A X Y Q)) < (2 : Nat) ^ (200 : Nat))) ∧ RS.e (pjQ m A X Y Q) = RS.e (pjQ m A X Y Q) ∧ True) ∧ (((RS.X (addI A (curveI m A X Y) m X Y false (RS.X (pjQ m A X Y Q)) (RS.Y (pjQ m A X Y Q)) (RS.o (pjQ m A X Y Q))) = RS.X (pjS m A X Y Q) ∧ ((200 : Nat) ≤ (200 : Nat) ∨ Int.natAbs (RS.X (addI A (curveI m A X Y) m X Y false (RS.X (pjQ m A X Y Q)) (RS.Y (pjQ m A X Y Q)) (RS.o (pjQ m A X Y Q)))) < (2 : Nat) ^ (200 : Nat))) ∧ (RS.Y (addI A (curveI m A X Y) m X Y false (RS.X (pjQ m A X Y Q)) (RS.Y (pjQ m A X Y Q)) (RS.o (pjQ m A X Y Q))) = RS.Y (pjS m A X Y Q) ∧ ((200 : Nat) ≤ (200 : Nat) ∨ Int.natAbs (RS.Y (addI A (curveI m A X Y) m X Y false (RS.X (pjQ m A X Y Q)) (RS.Y (pjQ m A X Y Q)) (RS.o (pjQ m A X Y Q)))) < (2 : Nat) ^ (200 : Nat))) ∧ RS.o (addI A (curveI m A X Y) m X Y false (RS.X (pjQ m A X Y Q)) (RS.Y (pjQ m A X Y Q)) (RS.o (pjQ m A X Y Q))) = RS.o (pjS m A X Y Q) ∧ True) ∧ (RS.d (addI A (curveI m A X Y) m X Y false (RS.X (pjQ m A X Y Q)) (RS.Y (pjQ m A X Y Q)) (RS.o (pjQ m A X Y Q))) = RS.d (pjS m A X Y Q) ∧ ((200 : Nat) ≤ (200 : Nat) ∨ Int.natAbs (RS.d (addI A (curveI m A X Y) m X Y false (RS.X (pjQ m A X Y Q)) (RS.Y (pjQ m A X Y Q)) (RS.o (pjQ m A X Y Q)))) < (2 : Nat) ^ (200 : Nat))) ∧ RS.e (addI A (curveI m A X Y) m X Y false (RS.X (pjQ m A X Y Q)) (RS.Y (pjQ m A X Y Q)) (RS.o (pjQ m A X Y Q))) = RS.e (pjS m A X Y Q) ∧ True) ∧ True) ∧ ∀ (i : Bool), i = true ∧ (A < m ∧ X < m ∧ Y < m) ∧ RS.e (pjQ m A X Y Q) = (0 : Int) → bif RS.e (pjS m A X Y Q) != (0 : Int) then bif RS.e (pjS m A X Y Q) == (6 : Int) then true = true else false = true else ((-9223372036854775808 : Int) ≤ a ∧ a ≤ (9223372036854775807 : Int)) ∧ ((64 : Nat) ≤ (200 : Nat) ∧ (64 : Nat) ≤ (200 : Nat) ∧ (64 : Nat) ≤ (200 : Nat) ∧ (64 : Nat) ≤ (200 : Nat) ∧ (64 : Nat) ≤ (200 : Nat) ∧ (64 : Nat) ≤ (200 : Nat) ∧ (0 : Int) < a) ∧ ((-9223372036854775808 : Int) ≤ a ∧ a ≤ (9223372036854775807 : Int)) ∧ ((64 : Nat) ≤ (200 : Nat) ∧ (64 : Nat) ≤ (200 : Nat) ∧ (64 : Nat) ≤ (200 : Nat) ∧ (200 : Nat) ≤ (200 : Nat) ∧ (200 : Nat) ≤ (200 : Nat) ∧ (64 : Nat) ≤ (200 : Nat) ∧ (0 : Int) < a) ∧ ((-9223372036854775808 : Int) ≤ a ∧ a ≤ (9223372036854775807 : Int)) ∧ ((64 : Nat) ≤ (200 : Nat) ∧ (64 : Nat) ≤ (200 : Nat) ∧ (64 : Nat) ≤ (200 : Nat) ∧ (200 : Nat) ≤ (200 : Nat) ∧ (200 : Nat) ≤ (200 : Nat) ∧ (64 : Nat) ≤ (200 : Nat) ∧ (0 : Int) < a) ∧ ((200 : Nat) ≤ (200 : Nat) ∧ (200 : Nat) ≤ (200 : Nat) ∧ (200 : Nat) ≤ (200 : Nat) ∧ (200 : Nat) ≤ (200 : Nat) ∧ (200 : Nat) ≤ (200 : Nat) ∧ (200 : Nat) ≤ (200 : Nat) ∧ (200 : Nat) ≤ (200 : Nat)) ∧ bif RS.e (addI (A % a) (curveI m A X Y % a) a (X % a) (Y % a) false (RS.X (pjQ m A X Y Q) % a) (RS.Y (pjQ m A X Y Q) % a) (RS.o (pjQ m A X Y Q))) == (0 : Int) then ((200 : Nat) ≤ (1000 : Nat) ∧ (200 : Nat) ≤ (1000 : Nat) ∧ (200 : Nat) ≤ (1000 : Nat) ∧ (200 : Nat) ≤ (1000 : Nat)) ∧ bif sameB (RS.X (addI (A % a) (curveI m A X Y % a) a (X % a) (Y % a) false (RS.X (pjQ m A X Y Q) % a) (RS.Y (pjQ m A X Y Q) % a) (RS.o (pjQ m A X Y Q)))) (RS.Y (addI (A % a) (curveI m A X Y % a) a (X % a) (Y % a) false (RS.X (pjQ m A X Y Q) % a) (RS.Y (pjQ m A X Y Q) % a) (RS.o (pjQ m A X Y Q)))) (RS.o (addI (A % a) (curveI m A X Y % a) a (X % a) (Y % a) false (RS.X (pjQ m A X Y Q) % a) (RS.Y (pjQ m A X Y Q) % a) (RS.o (pjQ m A X Y Q)))) (RS.X (pjS m A X Y Q) % a) (RS.Y (pjS m A X Y Q) % a) (RS.o (pjS m A X Y Q)) then true = true else false = true else false = true) = evFn (envC [c_ex, c_rprime, c_Curve, c_rof, c_at, c_ltimes, c_ladd, c_low, c_R6same] noAnn (pjCut M A X Y Q k0 k1 a b m)) Try.f6 [crvM M A X Y Q, .st [.int .u8 k0, .int .u8 k1]] (MRes.sat (.ret (.bool true))) := by kernel_rfl

theorem rs_e {r : TR} : r.rs.e = 0 → ∃ X Y o, r = .pt X Y o := by
  intro h
  cases r with
  | pt X Y o => exact ⟨X, Y, o, rfl⟩
  | dv d => simp [TR.rs, TR.ok] at h
theorem pd_e {A B m : Int} {r : RS} (h : pdOk A B m r) : r.e = 0 ∨ r.e = 6 := h.elim (fun h => .inl h.1) (fun h => .inr h.1)
theorem pd_on {A B m : Int} {r : RS} (h : pdOk A B m r) (he : r.e = 0) : onB A B m r.X r.Y r.o = true := h.elim (fun h => h.2.1) (fun h => by have := h.1; omega)

/-- The sum of the residues is the residue of the sum. -/
theorem pj_law {m a A X Y Q : Int} (ha : 3 < a) (ho : a % 2 ≠ 0) (hd : a ∣ m) (h1 : onB A (curveI m A X Y) m X Y false = true) (hq : (pjQ m A X Y Q).e = 0) (hs : (pjS m A X Y Q).e = 0) :
    (pjT m a A X Y Q).e = 0 ∧ sameB (pjT m a A X Y Q).X (pjT m a A X Y Q).Y (pjT m a A X Y Q).o ((pjS m A X Y Q).X % a) ((pjS m A X Y Q).Y % a) (pjS m A X Y Q).o = true := by
  have h2 := pd_on (mulI_ok (z := Q % 40) h1) hq
  have h2 : onB A (curveI m A X Y) m (pjQ m A X Y Q).X (pjQ m A X Y Q).Y (pjQ m A X Y Q).o = true := h2
  have hS : pjS m A X Y Q = (addT A m X Y false (pjQ m A X Y Q).X (pjQ m A X Y Q).Y (pjQ m A X Y Q).o).rs := by
    unfold pjS addI
    rw [h1, h2, Bool.and_self, cond_true]
  rw [hS] at hs ⊢
  obtain ⟨x, y, o, he⟩ := rs_e hs
  have hT : pjT m a A X Y Q = (TR.pt (x % a) (y % a) o).rs := by
    unfold pjT addI
    rw [on_proj h1 hd ha ho, on_proj h2 hd ha ho, Bool.and_self, cond_true, add_proj h1 h2 hd ha he]
  rw [hT, he]
  exact ⟨rfl, by simp [sameB, TR.rs, TR.X, TR.Y, TR.o]⟩

def s_pj : FSpec
  | [.st [.int .u8 M, .int .u8 A, .int .u8 X, .int .u8 Y, .int .u16 Q], .st [.int .u8 k0, .int .u8 k1]] => some (some (crvP M A X Y Q ∧ 0 ≤ k0 ∧ k0 ≤ 255 ∧ 0 ≤ k1 ∧ k1 ≤ 255), .ret (.bool true))
  | _ => none
theorem p_pj : Good Try.f6 s_pj := by
  intro ms p r h hp
  unfold s_pj at h
  split at h
  · rename_i M A X Y Q k0 k1
    simp only [Option.some.injEq, Prod.mk.injEq] at h
    obtain ⟨rfl, rfl⟩ := h
    obtain ⟨⟨h1, h2, h3, h4, h5, h6, h7, h8, h9, h10⟩, g1, g2, g3, g4⟩ : crvP M A X Y Q ∧ 0 ≤ k0 ∧ k0 ≤ 255 ∧ 0 ≤ k1 ∧ k1 ≤ 255 := hp
    have pr : ∀ k : Int, 0 ≤ k → k ≤ 255 → IntKind.wrap IntKind.u16 (5 + IntKind.wrap IntKind.u16 (Int.tmod k 60)) = 5 + k % 60 ∧ 5 ≤ pjA k ∧ pjA k ≤ 67 ∧ pjA k % 2 = 1 := by
      intro k hk hk2
      have e1 : Int.tmod k 60 = k % 60 := Int.tmod_eq_emod_of_nonneg hk
      have e2 : IntKind.wrap IntKind.u16 (k % 60) = k % 60 := IntWalk.u16_in _ ⟨by omega, by omega⟩
      have e3 : IntKind.wrap IntKind.u16 (5 + k % 60) = 5 + k % 60 := IntWalk.u16_in _ ⟨by omega, by omega⟩
      obtain ⟨q1, q2, q3⟩ := pj_primes (5 + k % 60).toNat (by omega) (by omega)
      unfold pjA
      exact ⟨by rw [e1, e2, e3], by omega, by omega, by omega⟩
    obtain ⟨w0, a1, a2, a3⟩ := pr k0 g1 g2
    obtain ⟨w1, b1, b2, b3⟩ := pr k1 g3 g4
    have eA : IntKind.wrap IntKind.i64 A = A := i64w (by omega) (by omega)
    have eX : IntKind.wrap IntKind.i64 X = X := i64w (by omega) (by omega)
    have eY : IntKind.wrap IntKind.i64 Y = Y := i64w (by omega) (by omega)
    have eQ : IntKind.wrap IntKind.i64 (Int.tmod Q 40) = Q % 40 := by
      have e1 : Int.tmod Q 40 = Q % 40 := Int.tmod_eq_emod_of_nonneg h9
      rw [e1]; exact i64w (by omega) (by omega)
    have ea : ((nextP (5 + k0 % 60).toNat : Nat) : Int) = pjA k0 := rfl
    have eb : ((nextP (5 + k1 % 60).toNat : Nat) : Int) = pjA k1 := rfl
    have hm0 : 25 ≤ pjA k0 * pjA k1 := Int.mul_le_mul a1 b1 (by omega) (by omega)
    have hm1 : pjA k0 * pjA k1 ≤ 4489 := Int.mul_le_mul a2 b2 (by omega) (by omega)
    have hmo : pjA k0 * pjA k1 % 2 ≠ 0 := by rw [Int.mul_emod, a3, b3]; decide
    have hmd : pjA k0 ∣ pjA k0 * pjA k1 := Int.dvd_mul_right ..
    have em : IntKind.wrap IntKind.i64 (pjA k0 * pjA k1) = pjA k0 * pjA k1 := i64w (by omega) (by omega)
    refine ⟨envC [c_ex, c_rprime, c_Curve, c_rof, c_at, c_ltimes, c_ladd, c_low, c_R6same] noAnn (pjCut M A X Y Q k0 k1 (pjA k0) (pjA k1) (pjA k0 * pjA k1)), ?_⟩
    rw [← vc_pj M A X Y Q k0 k1 (pjA k0) (pjA k1) (pjA k0 * pjA k1), w0, w1, ea, eb, em, eA, eX, eY, eQ]
    generalize pjA k0 = a at *
    generalize pjA k1 = b at *
    generalize a * b = m at *
    refine ⟨⟨by omega, by omega, by omega, by omega, by omega, by omega, true, rfl, ?_⟩, fun _ _ => ⟨⟨by omega, true, rfl, ?_⟩, fun _ _ => ?_⟩⟩
    · and_intros <;> first | exact True.intro | rfl
    · and_intros <;> first | exact True.intro | rfl | exact .inl (Nat.le_refl _)
    rw [Bool.cond_decide, Bool.cond_decide, Bool.cond_decide]
    split
    · rfl
    split
    · rfl
    split
    · rfl
    rename_i n1 n2 n3
    have hon : onB A (curveI m A X Y) m X Y false = true := curve_on (by omega) hmo h3 (by omega) h5 (by omega) h7 (by omega)
    refine ⟨⟨by omega, true, ⟨rfl, by omega, by omega, by omega⟩, ?_⟩, fun _ hI => ?_⟩
    · and_intros <;> first | exact True.intro | rfl | exact .inl (Nat.le_refl _)
    refine ⟨⟨by omega, by omega, by omega, true, ⟨rfl, hI.2⟩, ?_⟩, fun _ hI => ?_⟩
    · and_intros <;> first | exact True.intro | rfl | exact .inl (Nat.le_refl _)
    have hq : (pjQ m A X Y Q).e = 0 ∨ (pjQ m A X Y Q).e = 6 := pd_e (mulI_ok (z := Q % 40) hon)
    rcases hq with hq | hq
    rotate_left
    · rw [hq]; rfl
    have hqon : onB A (curveI m A X Y) m (pjQ m A X Y Q).X (pjQ m A X Y Q).Y (pjQ m A X Y Q).o = true := pd_on (mulI_ok (z := Q % 40) hon) hq
    have hlaw := fun hs => pj_law (m := m) (a := a) (A := A) (X := X) (Y := Y) (Q := Q) (by omega) (by omega) hmd hon hq hs
    rw [hq]
    refine ⟨⟨by omega, true, ⟨rfl, hI.2, rfl⟩, ?_⟩, fun _ hI => ?_⟩
    · and_intros <;> first | exact True.intro | rfl | exact .inl (Nat.le_refl _)
    have hs : (pjS m A X Y Q).e = 0 ∨ (pjS m A X Y Q).e = 6 := pd_e (addI_ok hon hqon)
    rcases hs with hs | hs
    rotate_left
    · rw [hs]; rfl
    obtain ⟨l1, l2⟩ := hlaw hs
    have l1 : RS.e (addI (A % a) (curveI m A X Y % a) a (X % a) (Y % a) false (RS.X (pjQ m A X Y Q) % a) (RS.Y (pjQ m A X Y Q) % a) (RS.o (pjQ m A X Y Q))) = 0 := l1
    have l2 : sameB (RS.X (addI (A % a) (curveI m A X Y % a) a (X % a) (Y % a) false (RS.X (pjQ m A X Y Q) % a) (RS.Y (pjQ m A X Y Q) % a) (RS.o (pjQ m A X Y Q)))) (RS.Y (addI (A % a) (curveI m A X Y % a) a (X % a) (Y % a) false (RS.X (pjQ m A X Y Q) % a) (RS.Y (pjQ m A X Y Q) % a) (RS.o (pjQ m A X Y Q)))) (RS.o (addI (A % a) (curveI m A X Y % a) a (X % a) (Y % a) false (RS.X (pjQ m A X Y Q) % a) (RS.Y (pjQ m A X Y Q) % a) (RS.o (pjQ m A X Y Q)))) (RS.X (pjS m A X Y Q) % a) (RS.Y (pjS m A X Y Q) % a) (RS.o (pjS m A X Y Q)) = true := l2
    rw [hs, l1, l2]
    refine ⟨by omega, by omega, by omega, by omega, by omega, by omega, by omega, by omega, rfl⟩
  · simp at h
noncomputable def c_pj : Ctr Try.prog := ⟨6, s_pj, fun args w => Try.call6 args w, fn_ok mix Try.func6 s_pj p_pj⟩

end Go.Proofs.Ytceochfccebebaa

namespace Go.Proofs.Ytceochfccebebaa
open Go Go.ChangeShapes Go.WideShapes Go.ChangeAt Go.RowKit

theorem cells_two : Try.prog.cellsOf 63 = 2 := by kernel_rfl
theorem rep_two {H : Type} {enc : TypeId × Value → H} {w : World} {sp : Nat → Bool} {held : Bool} {v : Value} {d : DataW H} {ps : List MemPlace} (h : DataW.Trod enc Try.prog w 0 sp held 63 v d ps) :
    ∃ k0 k1, Rep1 (Ctx.args noS) w (.st [.int .u8 k0, .int .u8 k1]) v ∧ 0 ≤ k0 ∧ k0 ≤ 255 ∧ 0 ≤ k1 ∧ k1 ≤ 255 := by
  obtain ⟨fuel, h⟩ := h
  obtain ⟨hl, f', hf⟩ := trod_array Try.underlying63 h
  rw [cells_two] at hl
  match hc : v.cells.toList, hl with
  | [a, b], _ =>
    rw [hc, cells_u8] at hf
    obtain ⟨y0, h0⟩ := hf 0 (by decide)
    obtain ⟨y1, h1⟩ := hf 1 (by decide)
    obtain ⟨n0, e0, w0⟩ := trod_int Try.underlying5 h0
    obtain ⟨n1, e1, w1⟩ := trod_int Try.underlying5 h1
    have z0 : [a] = [.int .u8 n0] := e0
    have z1 : [b] = [.int .u8 n1] := e1
    simp only [List.cons.injEq, and_true] at z0 z1
    subst z0 z1
    have q0 := u8_wf w0; have q1 := u8_wf w1
    exact ⟨n0, n1, (rep1_agg rfl).2 ⟨_, agg_cells hc, _, _, rfl, rfl, _, _, rfl, rfl, rfl⟩, q0.1, q0.2, q1.1, q1.2⟩

def tysPj : List Nat := [24, 63, 5, 22]
theorem tysPj_ok : tysPj.all (subOk Try.prog tysPj) = true := by kernel_rfl

theorem pj_contract (H : Type) (enc : TypeId × Value → H) (W : World) (args : Array Value) (ds gs : List (DataW H)) (before : List MemPlace)
    (hW : DataW.Whole enc Try.prog Try.f6.params.toList Rows.pointProjectsSpec.vars Rows.pointProjectsRow.apart W args.toList ds gs before) :
    Calls Try.prog 6 args W fun e W' => ∃ v, e = .returned v ∧ Rows.pointProjectsSpec.post enc Try.prog Try.f6 Rows.pointProjectsRow.apart Rows.pointProjectsRow.fresh Rows.pointProjectsRow.handsOn Rows.pointProjectsRow.again W args v W' := by
  have hW' := hW
  obtain ⟨p, q, hA, hV, rfl, hfz, hnd⟩ := hW
  rw [Try.params6] at hA
  obtain ⟨v0, v1, d0, d1, p0, p1, rfl, rfl, rfl, h0, h1⟩ := trodAll_two hA
  obtain ⟨rfl, rfl⟩ := trodVars_none hV
  obtain ⟨M, A, X, Y, Q, r0, c0⟩ := rep_crv h0
  obtain ⟨k0, k1, r1, c1⟩ := rep_two h1
  refine law_calls c_pj rfl rfl tysPj_ok (by rw [Try.params6]; decide) hW' ⟨[crvM M A X Y Q, .st [.int .u8 k0, .int .u8 k1]], _, rfl, ⟨c0, c1⟩, _, _, rfl, r0, _, _, rfl, r1, rfl⟩ rfl

set_option maxHeartbeats 1600000 in
set_option maxRecDepth 100000 in
theorem pj_lifted (os : Os) (started : os.Started) (H : Type) (enc : TypeId × Value → H) :
    ReturnsInHanded {} Try.checked os 6 .any (Rows.pointProjectsSpec.pre6 enc Try.prog Try.f6 Rows.pointProjectsRow.domain Rows.pointProjectsRow.apart) (Rows.pointProjectsSpec.post enc Try.prog Try.f6 Rows.pointProjectsRow.apart Rows.pointProjectsRow.fresh Rows.pointProjectsRow.handsOn Rows.pointProjectsRow.again) := by
  refine returnsInHanded_of_change (C := Try.checked) own started (by kernel_rfl) Try.func6
    (ChangeSpec.witness6 (enc := enc) (C := Try.checked) false ⟨#[], #[.agg #[.int .u8 0, .int .u8 0, .int .u8 0, .int .u8 0, .int .u16 0], .agg #[.int .u8 0, .int .u8 0]], []⟩ 8 (by kernel_rfl) (by kernel_rfl) (by kernel_rfl) (by kernel_rfl)) ?_
  intro W base args ds gs before hval hW _ _
  exact pj_contract H enc W args ds gs before hW

theorem pj_over : Rows.pointProjectsRow.holds Try.pinned (OpenSpec.ofChange Rows.pointProjectsSpec) :=
  OpenClaim.holds_of_wide 6 Try.f6 rfl rfl rfl rfl rfl rfl rfl ⟨rfl, rfl, rfl, rfl, rfl⟩ rfl rfl rfl rfl rfl (by kernel_rfl) Try.func6 (by kernel_rfl)
    (of_decide_eq_true (by kernel_rfl)) (by unfold Func.isWrapper; first | (rw [if_pos (by decide +kernel)]; kernel_rfl) | (rw [if_neg (by decide +kernel)]; exact ⟨rfl, rfl⟩))
    (fun os started H enc _ => pj_lifted os started H enc)

theorem pointProjects_holds : Rows.PointProjectsSaid := pj_over

end Go.Proofs.Ytceochfccebebaa
