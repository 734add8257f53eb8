/-
  PointGroup: whatever the curve modulo a prime (primes from 5 to 263) and the number are: if the curve has no singular point, then addition is commutative and associative at the three points, infinity is neutral, and a point and its negative have the sum infinity.
-/
import Derived.Test.YtceochfccebebaaW5


/-
  Plain facts: sums modulo a divisor of the modulus.
-/
namespace Go.Proofs.Ytceochfccebebaa
open Go Go.RowKit

theorem emod_of_dvd {x a m : Int} (h : a ∣ m) : x % m % a = x % a := Int.emod_emod_of_dvd x h
theorem gcd_dvd_one {x a m : Int} (h : a ∣ m) (hg : Int.gcd x m = 1) : Int.gcd x a = 1 := by
  have h1 : (Int.gcd x a : Int) ∣ x := Int.gcd_dvd_left ..
  have h2 : (Int.gcd x a : Int) ∣ m := Int.dvd_trans (Int.gcd_dvd_right ..) h
  have h3 := Int.dvd_gcd h1 h2
  rw [hg] at h3
  exact Nat.dvd_one.1 h3
theorem gcd_congr {x y a : Int} (h : a ∣ x - y) (hg : Int.gcd x a = 1) : Int.gcd y a = 1 := by
  have h1 : (Int.gcd y a : Int) ∣ y := Int.gcd_dvd_left ..
  have h2 : (Int.gcd y a : Int) ∣ a := Int.gcd_dvd_right ..
  have h4 : (Int.gcd y a : Int) ∣ x := by
    have := Int.dvd_add (Int.dvd_trans h2 h) h1
    rwa [Int.sub_add_cancel] at this
  have h3 := Int.dvd_gcd h4 h2
  rw [hg] at h3
  exact Nat.dvd_one.1 h3
theorem gcd_dvd_self {x a : Int} (ha : 1 < a) (hg : Int.gcd x a = 1) : ¬ a ∣ x := by
  intro h
  have h3 := Int.dvd_coe_gcd h (Int.dvd_refl a)
  rw [hg] at h3
  have := Int.le_of_dvd (by omega) h3
  omega
theorem dvd_cancel {a d x : Int} (hg : Int.gcd d a = 1) (h : a ∣ x * d) : a ∣ x :=
  dvd_of_coprime (by rw [Int.gcd_comm]; exact hg) (by rwa [Int.mul_comm] at h)

theorem slope_prop {A m px py qx qy : Int} (hm : 1 < m) (hg : Int.gcd (slD px py qx qy) m = 1) : m ∣ slope A m px py qx qy * slD px py qx qy - slN A px py qx qy := by
  obtain ⟨_, _, m3⟩ := minv_spec (by omega) hg
  have hs : m ∣ slope A m px py qx qy - slN A px py qx qy * minv (slD px py qx qy) m := dvd_emod _ _
  have e : slope A m px py qx qy * slD px py qx qy - slN A px py qx qy = slD px py qx qy * (slope A m px py qx qy - slN A px py qx qy * minv (slD px py qx qy) m) + slN A px py qx qy * (minv (slD px py qx qy) m * slD px py qx qy - 1) := by grind
  rw [e]; exact dv2 hs m3

theorem curve_proj {A B a : Int} (ha : 3 < a) (ho : a % 2 ≠ 0) : curveB (A % a) (B % a) a = true :=
  curveB_iff.2 ⟨ha, ho, ⟨Int.emod_nonneg _ (by omega), Int.emod_lt_of_pos _ (by omega)⟩, Int.emod_nonneg _ (by omega), Int.emod_lt_of_pos _ (by omega)⟩

theorem dv4 {M a b c d e f g h : Int} (h1 : M ∣ a) (h2 : M ∣ b) (h3 : M ∣ c) (h4 : M ∣ d) : M ∣ e * a + f * b + g * c + h * d :=
  Int.dvd_add (Int.dvd_add (dv2 h1 h2) (Int.dvd_mul_of_dvd_right h3)) (Int.dvd_mul_of_dvd_right h4)

theorem on_proj {A B m a X Y : Int} {o : Bool} (h : onB A B m X Y o = true) (hd : a ∣ m) (ha : 3 < a) (ho : a % 2 ≠ 0) : onB (A % a) (B % a) a (X % a) (Y % a) o = true := by
  have hc : curveB (A % a) (B % a) a = true := curve_proj ha ho
  cases o with
  | true =>
    obtain ⟨_, rfl, rfl⟩ := on_inf.1 h
    exact on_inf.2 ⟨hc, by simp, by simp⟩
  | false =>
    obtain ⟨_, p0, p1, p2, p3, p4⟩ := on_iff.1 h
    refine on_iff.2 ⟨hc, Int.emod_nonneg _ (by omega), Int.emod_lt_of_pos _ (by omega), Int.emod_nonneg _ (by omega), Int.emod_lt_of_pos _ (by omega), ?_⟩
    have hx := dvd_emod X a
    have hy := dvd_emod Y a
    have hA := dvd_emod A a
    have hB := dvd_emod B a
    have h1 := Int.dvd_trans hd p4
    generalize X % a = x at *
    generalize Y % a = y at *
    generalize A % a = A' at *
    generalize B % a = B' at *
    have e : y * y - (x * x * x + A' * x + B') = 1 * (Y * Y - (X * X * X + A * X + B)) + 1 * ((y + Y) * (y - Y) + (-(x * x + x * X + X * X + A)) * (x - X) + (-x) * (A' - A) + (-1) * (B' - B)) := by grind
    rw [e]; exact dv2 h1 (dv4 hy hx hA hB)

theorem add_proj {A B m a px py qx qy X Y : Int} {qo o : Bool} (hp : onB A B m px py false = true) (hq : onB A B m qx qy qo = true) (hd : a ∣ m) (ha : 3 < a)
    (hs : addT A m px py false qx qy qo = .pt X Y o) : addT (A % a) a (px % a) (py % a) false (qx % a) (qy % a) qo = .pt (X % a) (Y % a) o := by
  obtain ⟨hM, _⟩ := curveB_iff.1 (on_curve hp)
  obtain ⟨_, p0, p1, p2, p3, p4⟩ := on_iff.1 hp
  unfold addT at hs ⊢
  rw [cond_false] at hs ⊢
  cases qo with
  | true =>
    rw [cond_true] at hs ⊢
    simp only [TR.pt.injEq] at hs
    obtain ⟨rfl, rfl, rfl⟩ := hs
    rfl
  | false =>
    obtain ⟨_, q0, q1, q2, q3, q4⟩ := on_iff.1 hq
    rw [cond_false] at hs ⊢
    have hpx := dvd_emod px a
    have hpy := dvd_emod py a
    have hqx := dvd_emod qx a
    have hqy := dvd_emod qy a
    have hA := dvd_emod A a
    have key : ∀ (D N D' N' : Int), slD px py qx qy = D → slN A px py qx qy = N → slD (px % a) (py % a) (qx % a) (qy % a) = D' → slN (A % a) (px % a) (py % a) (qx % a) (qy % a) = N' → a ∣ D - D' → a ∣ N - N' → Int.gcd D m = 1 →
        Int.gcd D' a = 1 ∧ sumX (A % a) a (px % a) (py % a) (qx % a) (qy % a) = sumX A m px py qx qy % a ∧ sumY (A % a) a (px % a) (py % a) (qx % a) (qy % a) = sumY A m px py qx qy % a := by
      intro D N D' N' eD eN eD' eN' hDD hNN hg
      have hga := gcd_dvd_one hd hg
      have hg' := gcd_congr hDD hga
      have s1 := slope_prop (A := A) (px := px) (py := py) (qx := qx) (qy := qy) (m := m) (by omega) (by rw [eD]; exact hg)
      have s2 := slope_prop (A := A % a) (px := px % a) (py := py % a) (qx := qx % a) (qy := qy % a) (m := a) (by omega) (by rw [eD']; exact hg')
      rw [eD, eN] at s1
      rw [eD', eN'] at s2
      have s1 := Int.dvd_trans hd s1
      have hs : a ∣ slope (A % a) a (px % a) (py % a) (qx % a) (qy % a) - slope A m px py qx qy := by
        refine dvd_cancel hga ?_
        generalize slope (A % a) a (px % a) (py % a) (qx % a) (qy % a) = t at *
        generalize slope A m px py qx qy = s at *
        have e : (t - s) * D = 1 * (t * D' - N') + (-1) * (s * D - N) + t * (D - D') + (-1) * (N - N') := by grind
        rw [e]; exact dv4 s2 s1 hDD hNN
      have hX : sumX (A % a) a (px % a) (py % a) (qx % a) (qy % a) = sumX A m px py qx qy % a := by
        unfold sumX
        rw [emod_of_dvd hd, emod_eq_iff]
        generalize slope (A % a) a (px % a) (py % a) (qx % a) (qy % a) = t at *
        generalize slope A m px py qx qy = s at *
        generalize px % a = px' at *
        generalize qx % a = qx' at *
        have e : t * t - (px' + qx') - (s * s - (px + qx)) = (t + s) * (t - s) + (-1) * (px' - px) + (-1) * (qx' - qx) + 0 * (t - s) := by grind
        rw [e]; exact dv4 hs hpx hqx hs
      refine ⟨hg', hX, ?_⟩
      have hX2 : a ∣ sumX (A % a) a (px % a) (py % a) (qx % a) (qy % a) - sumX A m px py qx qy := by rw [hX]; exact dvd_emod _ _
      unfold sumY
      rw [emod_of_dvd hd, emod_eq_iff]
      generalize sumX (A % a) a (px % a) (py % a) (qx % a) (qy % a) = x' at *
      generalize sumX A m px py qx qy = x at *
      generalize slope (A % a) a (px % a) (py % a) (qx % a) (qy % a) = t at *
      generalize slope A m px py qx qy = s at *
      generalize px % a = px' at *
      generalize py % a = py' at *
      have e : t * (px' - x') - py' - (s * (px - x) - py) = (px' - x') * (t - s) + s * (px' - px) + (-s) * (x' - x) + (-1) * (py' - py) := by grind
      rw [e]; exact dv4 hs hpx hX2 hpy
    by_cases e : px = qx
    · have e' : px % a = qx % a := by rw [e]
      cases hop : oppB m px py qx qy with
      | true =>
        rw [hop, cond_true] at hs
        simp only [TR.pt.injEq] at hs
        obtain ⟨rfl, rfl, rfl⟩ := hs
        unfold oppB at hop
        rw [decide_eq_true e, Bool.true_and, decide_eq_true_iff] at hop
        have h1 : a ∣ py + qy := Int.dvd_trans hd (Int.dvd_of_emod_eq_zero hop)
        have h2 : (py % a + qy % a) % a = 0 := by
          rw [← Int.add_emod]; exact Int.emod_eq_zero_of_dvd h1
        have : oppB a (px % a) (py % a) (qx % a) (qy % a) = true := by
          unfold oppB; rw [decide_eq_true e', decide_eq_true h2]; rfl
        rw [this, cond_true]
        simp
      | false =>
        rw [hop, cond_false] at hs
        by_cases hg : Int.gcd (slD px py qx qy) m = 1
        · rw [decide_eq_true hg, cond_true] at hs
          simp only [TR.pt.injEq] at hs
          obtain ⟨rfl, rfl, rfl⟩ := hs
          have eD : slD px py qx qy = py + qy := by unfold slD; simp [e]
          have eN : slN A px py qx qy = 3 * (px * px) + A := by unfold slN; simp [e]
          have eD' : slD (px % a) (py % a) (qx % a) (qy % a) = py % a + qy % a := by unfold slD; simp [e']
          have eN' : slN (A % a) (px % a) (py % a) (qx % a) (qy % a) = 3 * (px % a * (px % a)) + A % a := by unfold slN; simp [e']
          have hDD : a ∣ py + qy - (py % a + qy % a) := by
            have e : py + qy - (py % a + qy % a) = (-1) * (py % a - py) + (-1) * (qy % a - qy) := by omega
            rw [e]; exact dv2 hpy hqy
          have hNN : a ∣ 3 * (px * px) + A - (3 * (px % a * (px % a)) + A % a) := by
            have e : 3 * (px * px) + A - (3 * (px % a * (px % a)) + A % a) = (-3 * (px % a + px)) * (px % a - px) + (-1) * (A % a - A) := by grind
            rw [e]; exact dv2 hpx hA
          obtain ⟨g1, g2, g3⟩ := key _ _ _ _ eD eN eD' eN' hDD hNN (by rw [← eD]; exact hg)
          have : oppB a (px % a) (py % a) (qx % a) (qy % a) = false := by
            unfold oppB
            rw [decide_eq_true e', Bool.true_and, decide_eq_false_iff_not]
            intro h0
            exact gcd_dvd_self (by omega) g1 (Int.dvd_of_emod_eq_zero h0)
          rw [this, cond_false, eD', decide_eq_true g1, cond_true, g2, g3]
        · rw [decide_eq_false hg, cond_false] at hs
          simp at hs
    · have hop : oppB m px py qx qy = false := by unfold oppB; rw [decide_eq_false e, Bool.false_and]
      rw [hop, cond_false] at hs
      by_cases hg : Int.gcd (slD px py qx qy) m = 1
      · rw [decide_eq_true hg, cond_true] at hs
        simp only [TR.pt.injEq] at hs
        obtain ⟨rfl, rfl, rfl⟩ := hs
        have eD : slD px py qx qy = qx - px := by unfold slD; simp [e]
        have eN : slN A px py qx qy = qy - py := by unfold slN; simp [e]
        have hga := gcd_dvd_one hd hg
        rw [eD] at hga
        have e' : ¬ px % a = qx % a := by
          intro h0
          exact gcd_dvd_self (by omega) hga (emod_eq_iff.1 h0.symm)
        have eD' : slD (px % a) (py % a) (qx % a) (qy % a) = qx % a - px % a := by unfold slD; simp [e']
        have eN' : slN (A % a) (px % a) (py % a) (qx % a) (qy % a) = qy % a - py % a := by unfold slN; simp [e']
        have hDD : a ∣ qx - px - (qx % a - px % a) := by
          have e : qx - px - (qx % a - px % a) = (-1) * (qx % a - qx) + 1 * (px % a - px) := by omega
          rw [e]; exact dv2 hqx hpx
        have hNN : a ∣ qy - py - (qy % a - py % a) := by
          have e : qy - py - (qy % a - py % a) = (-1) * (qy % a - qy) + 1 * (py % a - py) := by omega
          rw [e]; exact dv2 hqy hpy
        obtain ⟨g1, g2, g3⟩ := key _ _ _ _ eD eN eD' eN' hDD hNN (by rw [← eD]; exact hg)
        have : oppB a (px % a) (py % a) (qx % a) (qy % a) = false := by unfold oppB; rw [decide_eq_false e', Bool.false_and]
        rw [this, cond_false, eD', decide_eq_true g1, cond_true, g2, g3]
      · rw [decide_eq_false hg, cond_false] at hs
        simp at hs

/-- The small primes. -/
theorem pj_primes : ∀ n, n < 65 → 5 ≤ n → 5 ≤ nextP n ∧ nextP n ≤ 67 ∧ nextP n % 2 = 1 := by decide +kernel

end Go.Proofs.Ytceochfccebebaa

/-
  Sums of points: the identities of associativity (cofactors found by wip/tools/cof.py).
-/
namespace Go.Proofs.Ytceochfccebebaa

theorem al_t {p B s A x1 y1 x2 y2 : Int} (h1 : p ∣ s * (x2 - x1) - (y2 - y1)) (h2 : p ∣ y1 * y1 - (x1 * x1 * x1 + A * x1 + B)) (h3 : p ∣ y2 * y2 - (x2 * x2 * x2 + A * x2 + B)) : p ∣ (s * (y1 + y2) - (x1 * x1 + x1 * x2 + x2 * x2 + A)) * (x2 - x1) := by
  have e : (s * (y1 + y2) - (x1 * x1 + x1 * x2 + x2 * x2 + A)) * (x2 - x1) = (y1 + y2) * (s * (x2 - x1) - (y2 - y1)) + (-1) * (y1 * y1 - (x1 * x1 * x1 + A * x1 + B)) + (1) * (y2 * y2 - (x2 * x2 * x2 + A * x2 + B)) := by grind
  rw [e]; exact Int.dvd_add (Int.dvd_add (Int.dvd_mul_of_dvd_right h1) (Int.dvd_mul_of_dvd_right h2)) (Int.dvd_mul_of_dvd_right h3)
theorem al_half {p x4 y1 y3 A s1 s2 x1 x2 x3 y2 : Int} (h1 : p ∣ x4 - (s1 * s1 - x1 - x2)) (h2 : p ∣ s1 * (x2 - x1) - (y2 - y1)) (h3 : p ∣ s2 * (x3 - x2) - (y3 - y2)) (h4 : p ∣ s1 * (y1 + y2) - (x1 * x1 + x1 * x2 + x2 * x2 + A)) (h5 : p ∣ s2 * (y2 + y3) - (x2 * x2 + x2 * x3 + x3 * x3 + A)) : p ∣ (s2 - s1) * (s1 * (x3 - x1) + y1 + y3) - (x3 - x1) * (x3 - x4) := by
  have e : (s2 - s1) * (s1 * (x3 - x1) + y1 + y3) - (x3 - x1) * (x3 - x4) = (-x1 + x3) * (x4 - (s1 * s1 - x1 - x2)) + (s2) * (s1 * (x2 - x1) - (y2 - y1)) + (s1) * (s2 * (x3 - x2) - (y3 - y2)) + (-1) * (s1 * (y1 + y2) - (x1 * x1 + x1 * x2 + x2 * x2 + A)) + (1) * (s2 * (y2 + y3) - (x2 * x2 + x2 * x3 + x3 * x3 + A)) := by grind
  rw [e]; exact Int.dvd_add (Int.dvd_add (Int.dvd_add (Int.dvd_add (Int.dvd_mul_of_dvd_right h1) (Int.dvd_mul_of_dvd_right h2)) (Int.dvd_mul_of_dvd_right h3)) (Int.dvd_mul_of_dvd_right h4)) (Int.dvd_mul_of_dvd_right h5)
theorem al_eq {p y4 y3 x4 x3 x1 y1 s1 : Int} (h1 : p ∣ y4 - (s1 * (x1 - x4) - y1)) (h2 : p ∣ s1 * (x3 - x1) + y1 + y3) (h3 : p ∣ x3 - x4) : p ∣ y3 - y4 := by
  have e : y3 - y4 = (-1) * (y4 - (s1 * (x1 - x4) - y1)) + (1) * (s1 * (x3 - x1) + y1 + y3) + (-s1) * (x3 - x4) := by grind
  rw [e]; exact Int.dvd_add (Int.dvd_add (Int.dvd_mul_of_dvd_right h1) (Int.dvd_mul_of_dvd_right h2)) (Int.dvd_mul_of_dvd_right h3)
theorem al_two {p y3 y1 y2 x1 x2 x3 s1 s2 : Int} (h1 : p ∣ s1 * (x3 - x1) + y1 + y3) (h2 : p ∣ s1 * (x2 - x1) - (y2 - y1)) (h3 : p ∣ s2 * (x3 - x2) - (y3 - y2)) : p ∣ (s2 - s1) * (x3 - x2) - 2 * y3 := by
  have e : (s2 - s1) * (x3 - x2) - 2 * y3 = (-1) * (s1 * (x3 - x1) + y1 + y3) + (1) * (s1 * (x2 - x1) - (y2 - y1)) + (1) * (s2 * (x3 - x2) - (y3 - y2)) := by grind
  rw [e]; exact Int.dvd_add (Int.dvd_add (Int.dvd_mul_of_dvd_right h1) (Int.dvd_mul_of_dvd_right h2)) (Int.dvd_mul_of_dvd_right h3)
theorem al_op {p y2 y3 x3 x2 s2 : Int} (h1 : p ∣ s2 * (x3 - x2) - (y3 - y2)) (h2 : p ∣ x3 - x2) (h3 : p ∣ y3) : p ∣ y2 + y3 := by
  have e : y2 + y3 = (1) * (s2 * (x3 - x2) - (y3 - y2)) + (-s2) * (x3 - x2) + (2) * (y3) := by grind
  rw [e]; exact Int.dvd_add (Int.dvd_add (Int.dvd_mul_of_dvd_right h1) (Int.dvd_mul_of_dvd_right h2)) (Int.dvd_mul_of_dvd_right h3)
theorem al_tan {p x4 y4 y3 y1 A y2 s3 x3 x1 x2 s1 s2 : Int} (h1 : p ∣ x3 - x4) (h2 : p ∣ y3 - y4) (h3 : p ∣ s1 * (x3 - x1) + y1 + y3) (h4 : p ∣ s1 * (x2 - x1) - (y2 - y1)) (h5 : p ∣ s1 * (y1 + y2) - (x1 * x1 + x1 * x2 + x2 * x2 + A)) (h6 : p ∣ x4 - (s1 * s1 - x1 - x2)) (h7 : p ∣ s2 * (x3 - x2) - (y3 - y2)) (h8 : p ∣ s3 * (y4 + y3) - (x4 * x4 + x4 * x3 + x3 * x3 + A)) : p ∣ (2 * y3) * ((s2 - s1) * (s1 + s3) - (x3 - x1)) := by
  have e : (2 * y3) * ((s2 - s1) * (s1 + s3) - (x3 - x1)) = (s1 * x1 + s1 * x3 + s1 * x4 - s2 * x1 - 2 * s2 * x2 + s2 * x3 - s2 * x4 + 2 * y2) * (x3 - x4) + (-s1 * s3 + s2 * s3) * (y3 - y4) + (-(s1 * s1) + 2 * s1 * s2 - x2 - 2 * x3) * (s1 * (x3 - x1) + y1 + y3) + (-s1 * s2 + x2 + 2 * x3) * (s1 * (x2 - x1) - (y2 - y1)) + (s1 - s2) * (s1 * (y1 + y2) - (x1 * x1 + x1 * x2 + x2 * x2 + A)) + (s1 * x1 - s1 * x3 - s2 * x1 - 2 * s2 * x2 + 3 * s2 * x3 + 2 * y2) * (x4 - (s1 * s1 - x1 - x2)) + ((s1 * s1) - 2 * x1 - x2) * (s2 * (x3 - x2) - (y3 - y2)) + (-s1 + s2) * (s3 * (y4 + y3) - (x4 * x4 + x4 * x3 + x3 * x3 + A)) := by grind
  rw [e]; exact Int.dvd_add (Int.dvd_add (Int.dvd_add (Int.dvd_add (Int.dvd_add (Int.dvd_add (Int.dvd_add (Int.dvd_mul_of_dvd_right h1) (Int.dvd_mul_of_dvd_right h2)) (Int.dvd_mul_of_dvd_right h3)) (Int.dvd_mul_of_dvd_right h4)) (Int.dvd_mul_of_dvd_right h5)) (Int.dvd_mul_of_dvd_right h6)) (Int.dvd_mul_of_dvd_right h7)) (Int.dvd_mul_of_dvd_right h8)
theorem al_gen {p y3 y4 x4 x3 x1 y1 s3 s1 s2 : Int} (h1 : p ∣ s3 * (x3 - x4) - (y3 - y4)) (h2 : p ∣ y4 - (s1 * (x1 - x4) - y1)) (h3 : p ∣ (s2 - s1) * (s1 * (x3 - x1) + y1 + y3) - (x3 - x1) * (x3 - x4)) : p ∣ (x3 - x4) * ((s2 - s1) * (s1 + s3) - (x3 - x1)) := by
  have e : (x3 - x4) * ((s2 - s1) * (s1 + s3) - (x3 - x1)) = (-s1 + s2) * (s3 * (x3 - x4) - (y3 - y4)) + (s1 - s2) * (y4 - (s1 * (x1 - x4) - y1)) + (1) * ((s2 - s1) * (s1 * (x3 - x1) + y1 + y3) - (x3 - x1) * (x3 - x4)) := by grind
  rw [e]; exact Int.dvd_add (Int.dvd_add (Int.dvd_mul_of_dvd_right h1) (Int.dvd_mul_of_dvd_right h2)) (Int.dvd_mul_of_dvd_right h3)
theorem al_sig {p x3 x1 s1 s2 s3 s4 : Int} (h1 : p ∣ (s2 - s1) * (s1 + s3) - (x3 - x1)) (h2 : p ∣ (s1 - s2) * (s2 + s4) - (x1 - x3)) : p ∣ (s2 - s1) * (s1 + s3 - s2 - s4) := by
  have e : (s2 - s1) * (s1 + s3 - s2 - s4) = (1) * ((s2 - s1) * (s1 + s3) - (x3 - x1)) + (1) * ((s1 - s2) * (s2 + s4) - (x1 - x3)) := by grind
  rw [e]; exact Int.dvd_add (Int.dvd_mul_of_dvd_right h1) (Int.dvd_mul_of_dvd_right h2)
theorem al_X {p X x4 x5 s3 x3 x1 x2 s1 s2 s4 : Int} (h1 : p ∣ X - (s3 * s3 - x4 - x3)) (h2 : p ∣ x4 - (s1 * s1 - x1 - x2)) (h3 : p ∣ x5 - (s2 * s2 - x2 - x3)) (h4 : p ∣ s1 + s3 - s2 - s4) (h5 : p ∣ (s2 - s1) * (s1 + s3) - (x3 - x1)) : p ∣ X - (s4 * s4 - x5 - x1) := by
  have e : X - (s4 * s4 - x5 - x1) = (1) * (X - (s3 * s3 - x4 - x3)) + (-1) * (x4 - (s1 * s1 - x1 - x2)) + (1) * (x5 - (s2 * s2 - x2 - x3)) + (s1 - s2 + s3 + s4) * (s1 + s3 - s2 - s4) + (2) * ((s2 - s1) * (s1 + s3) - (x3 - x1)) := by grind
  rw [e]; exact Int.dvd_add (Int.dvd_add (Int.dvd_add (Int.dvd_add (Int.dvd_mul_of_dvd_right h1) (Int.dvd_mul_of_dvd_right h2)) (Int.dvd_mul_of_dvd_right h3)) (Int.dvd_mul_of_dvd_right h4)) (Int.dvd_mul_of_dvd_right h5)
theorem al_Y {p Y X y4 y5 x4 x5 y1 s3 x3 y2 x1 x2 s1 s2 s4 : Int} (h1 : p ∣ Y - (s3 * (x4 - X) - y4)) (h2 : p ∣ X - (s3 * s3 - x4 - x3)) (h3 : p ∣ y4 - (s1 * (x1 - x4) - y1)) (h4 : p ∣ y5 - (s2 * (x2 - x5) - y2)) (h5 : p ∣ x4 - (s1 * s1 - x1 - x2)) (h6 : p ∣ x5 - (s2 * s2 - x2 - x3)) (h7 : p ∣ s1 * (x2 - x1) - (y2 - y1)) (h8 : p ∣ s1 + s3 - s2 - s4) (h9 : p ∣ (s2 - s1) * (s1 + s3) - (x3 - x1)) : p ∣ Y - (s4 * (x5 - X) - y5) := by
  have e : Y - (s4 * (x5 - X) - y5) = (1) * (Y - (s3 * (x4 - X) - y4)) + (-s3 + s4) * (X - (s3 * s3 - x4 - x3)) + (-1) * (y4 - (s1 * (x1 - x4) - y1)) + (1) * (y5 - (s2 * (x2 - x5) - y2)) + (s1 + 2 * s3 - s4) * (x4 - (s1 * s1 - x1 - x2)) + (-s2 - s4) * (x5 - (s2 * s2 - x2 - x3)) + (1) * (s1 * (x2 - x1) - (y2 - y1)) + (2 * (s1 * s1) - s1 * s2 + s1 * s3 + (s2 * s2) - s2 * s3 - (s3 * s3) - 2 * x1 - 2 * x2 + x3) * (s1 + s3 - s2 - s4) + (s1 - 2 * s2 - s4) * ((s2 - s1) * (s1 + s3) - (x3 - x1)) := by grind
  rw [e]; exact Int.dvd_add (Int.dvd_add (Int.dvd_add (Int.dvd_add (Int.dvd_add (Int.dvd_add (Int.dvd_add (Int.dvd_add (Int.dvd_mul_of_dvd_right h1) (Int.dvd_mul_of_dvd_right h2)) (Int.dvd_mul_of_dvd_right h3)) (Int.dvd_mul_of_dvd_right h4)) (Int.dvd_mul_of_dvd_right h5)) (Int.dvd_mul_of_dvd_right h6)) (Int.dvd_mul_of_dvd_right h7)) (Int.dvd_mul_of_dvd_right h8)) (Int.dvd_mul_of_dvd_right h9)
theorem al_y13 {p y1 y3 s1 s2 x1 x3 x2 y2 : Int} (h1 : p ∣ s1 * (x2 - x1) - (y2 - y1)) (h2 : p ∣ s2 * (x3 - x2) - (y3 - y2)) (h3 : p ∣ s1 - s2) (h4 : p ∣ x1 - x3) : p ∣ y1 - y3 := by
  have e : y1 - y3 = (1) * (s1 * (x2 - x1) - (y2 - y1)) + (1) * (s2 * (x3 - x2) - (y3 - y2)) + (x1 - x2) * (s1 - s2) + (s2) * (x1 - x3) := by grind
  rw [e]; exact Int.dvd_add (Int.dvd_add (Int.dvd_add (Int.dvd_mul_of_dvd_right h1) (Int.dvd_mul_of_dvd_right h2)) (Int.dvd_mul_of_dvd_right h3)) (Int.dvd_mul_of_dvd_right h4)
theorem al_s {p x1 x3 x4 s1 s2 y1 y3 : Int} (h1 : p ∣ (s2 - s1) * (s1 * (x3 - x1) + y1 + y3) - (x3 - x1) * (x3 - x4)) (h2 : p ∣ s1 - s2) : p ∣ (x3 - x1) * (x3 - x4) := by
  have e : (x3 - x1) * (x3 - x4) = (-1) * ((s2 - s1) * (s1 * (x3 - x1) + y1 + y3) - (x3 - x1) * (x3 - x4)) + (s1 * x1 - s1 * x3 - y1 - y3) * (s1 - s2) := by grind
  rw [e]; exact Int.dvd_add (Int.dvd_mul_of_dvd_right h1) (Int.dvd_mul_of_dvd_right h2)
theorem al_opU {p y4 y1 y3 s1 s2 x4 x3 x1 x2 y2 : Int} (h1 : p ∣ y4 - (s1 * (x1 - x4) - y1)) (h2 : p ∣ s1 * (x2 - x1) - (y2 - y1)) (h3 : p ∣ s2 * (x3 - x2) - (y3 - y2)) (h4 : p ∣ s1 - s2) (h5 : p ∣ x3 - x4) : p ∣ y4 + y3 := by
  have e : y4 + y3 = (1) * (y4 - (s1 * (x1 - x4) - y1)) + (-1) * (s1 * (x2 - x1) - (y2 - y1)) + (-1) * (s2 * (x3 - x2) - (y3 - y2)) + (x2 - x4) * (s1 - s2) + (s2) * (x3 - x4) := by grind
  rw [e]; exact Int.dvd_add (Int.dvd_add (Int.dvd_add (Int.dvd_add (Int.dvd_mul_of_dvd_right h1) (Int.dvd_mul_of_dvd_right h2)) (Int.dvd_mul_of_dvd_right h3)) (Int.dvd_mul_of_dvd_right h4)) (Int.dvd_mul_of_dvd_right h5)
theorem al_sym {p y5 y3 y2 x2 x3 x5 s2 : Int} (h1 : p ∣ y5 - (s2 * (x2 - x5) - y2)) (h2 : p ∣ s2 * (x3 - x2) - (y3 - y2)) : p ∣ y5 - (s2 * (x3 - x5) - y3) := by
  have e : y5 - (s2 * (x3 - x5) - y3) = (1) * (y5 - (s2 * (x2 - x5) - y2)) + (-1) * (s2 * (x3 - x2) - (y3 - y2)) := by grind
  rw [e]; exact Int.dvd_add (Int.dvd_mul_of_dvd_right h1) (Int.dvd_mul_of_dvd_right h2)
theorem al_sing {p A y3 x5 y2 x2 x3 s2 : Int} (h1 : p ∣ s2 * (y2 + y3) - (x2 * x2 + x2 * x3 + x3 * x3 + A)) (h2 : p ∣ s2 * (x3 - x2) - (y3 - y2)) (h3 : p ∣ x2 - x5) (h4 : p ∣ x5 - (s2 * s2 - x2 - x3)) (h5 : p ∣ y2) : p ∣ 3 * (x2 * x2) + A := by
  have e : 3 * (x2 * x2) + A = (-1) * (s2 * (y2 + y3) - (x2 * x2 + x2 * x3 + x3 * x3 + A)) + (-s2) * (s2 * (x3 - x2) - (y3 - y2)) + (x2 - x3) * (x2 - x5) + (x2 - x3) * (x5 - (s2 * s2 - x2 - x3)) + (2 * s2) * (y2) := by grind
  rw [e]; exact Int.dvd_add (Int.dvd_add (Int.dvd_add (Int.dvd_add (Int.dvd_mul_of_dvd_right h1) (Int.dvd_mul_of_dvd_right h2)) (Int.dvd_mul_of_dvd_right h3)) (Int.dvd_mul_of_dvd_right h4)) (Int.dvd_mul_of_dvd_right h5)
theorem al_disc {p B A y2 x2 : Int} (h1 : p ∣ y2 * y2 - (x2 * x2 * x2 + A * x2 + B)) (h2 : p ∣ 3 * (x2 * x2) + A) (h3 : p ∣ y2) : p ∣ 4 * (A * (A * A)) + 27 * (B * B) := by
  have e : 4 * (A * (A * A)) + 27 * (B * B) = (27 * A * x2 - 27 * B + 27 * (x2 * x2 * x2) - 27 * (y2 * y2)) * (y2 * y2 - (x2 * x2 * x2 + A * x2 + B)) + (4 * (A * A) + 15 * A * (x2 * x2) + 9 * (x2 * x2 * x2 * x2) - 54 * x2 * (y2 * y2)) * (3 * (x2 * x2) + A) + (108 * (x2 * x2 * x2) * y2 + 27 * (y2 * y2 * y2)) * (y2) := by grind
  rw [e]; exact Int.dvd_add (Int.dvd_add (Int.dvd_mul_of_dvd_right h1) (Int.dvd_mul_of_dvd_right h2)) (Int.dvd_mul_of_dvd_right h3)
theorem al_Lc {p y5 x1 y1 x5 x2 y2 s2 : Int} (h1 : p ∣ y5 - (s2 * (x2 - x5) - y2)) (h2 : p ∣ x1 - x2) (h3 : p ∣ y1 + y2) : p ∣ (-s2) * (x5 - x1) - (y5 - y1) := by
  have e : (-s2) * (x5 - x1) - (y5 - y1) = (-1) * (y5 - (s2 * (x2 - x5) - y2)) + (s2) * (x1 - x2) + (1) * (y1 + y2) := by grind
  rw [e]; exact Int.dvd_add (Int.dvd_add (Int.dvd_mul_of_dvd_right h1) (Int.dvd_mul_of_dvd_right h2)) (Int.dvd_mul_of_dvd_right h3)
theorem al_Lt {p y5 x1 y1 A y3 x5 x2 x3 y2 s2 : Int} (h1 : p ∣ y5 - (s2 * (x2 - x5) - y2)) (h2 : p ∣ x1 - x2) (h3 : p ∣ y1 + y2) (h4 : p ∣ s2 * (y2 + y3) - (x2 * x2 + x2 * x3 + x3 * x3 + A)) (h5 : p ∣ s2 * (x3 - x2) - (y3 - y2)) (h6 : p ∣ x5 - (s2 * s2 - x2 - x3)) : p ∣ (-s2) * (y1 + y5) - (x1 * x1 + x1 * x5 + x5 * x5 + A) := by
  have e : (-s2) * (y1 + y5) - (x1 * x1 + x1 * x5 + x5 * x5 + A) = (-s2) * (y5 - (s2 * (x2 - x5) - y2)) + (-x1 - x2 - x5) * (x1 - x2) + (-s2) * (y1 + y2) + (1) * (s2 * (y2 + y3) - (x2 * x2 + x2 * x3 + x3 * x3 + A)) + (s2) * (s2 * (x3 - x2) - (y3 - y2)) + (x3 - x5) * (x5 - (s2 * s2 - x2 - x3)) := by grind
  rw [e]; exact Int.dvd_add (Int.dvd_add (Int.dvd_add (Int.dvd_add (Int.dvd_add (Int.dvd_mul_of_dvd_right h1) (Int.dvd_mul_of_dvd_right h2)) (Int.dvd_mul_of_dvd_right h3)) (Int.dvd_mul_of_dvd_right h4)) (Int.dvd_mul_of_dvd_right h5)) (Int.dvd_mul_of_dvd_right h6)
theorem al_LX {p x3 x1 x5 x2 s2 : Int} (h1 : p ∣ x1 - x2) (h2 : p ∣ x5 - (s2 * s2 - x2 - x3)) : p ∣ x3 - ((-s2) * (-s2) - x1 - x5) := by
  have e : x3 - ((-s2) * (-s2) - x1 - x5) = (1) * (x1 - x2) + (1) * (x5 - (s2 * s2 - x2 - x3)) := by grind
  rw [e]; exact Int.dvd_add (Int.dvd_mul_of_dvd_right h1) (Int.dvd_mul_of_dvd_right h2)
theorem al_LY {p y3 x1 y1 x2 y2 x3 s2 : Int} (h1 : p ∣ x1 - x2) (h2 : p ∣ y1 + y2) (h3 : p ∣ s2 * (x3 - x2) - (y3 - y2)) : p ∣ y3 - ((-s2) * (x1 - x3) - y1) := by
  have e : y3 - ((-s2) * (x1 - x3) - y1) = (s2) * (x1 - x2) + (1) * (y1 + y2) + (-1) * (s2 * (x3 - x2) - (y3 - y2)) := by grind
  rw [e]; exact Int.dvd_add (Int.dvd_add (Int.dvd_mul_of_dvd_right h1) (Int.dvd_mul_of_dvd_right h2)) (Int.dvd_mul_of_dvd_right h3)
theorem al_cX {p X x1 x2 s : Int} (h1 : p ∣ X - (s * s - x1 - x2)) : p ∣ X - (s * s - x2 - x1) := by
  have e : X - (s * s - x2 - x1) = (1) * (X - (s * s - x1 - x2)) := by grind
  rw [e]; exact Int.dvd_mul_of_dvd_right h1
theorem al_cY {p Y X x1 y1 x2 y2 s : Int} (h1 : p ∣ Y - (s * (x1 - X) - y1)) (h2 : p ∣ s * (x2 - x1) - (y2 - y1)) : p ∣ Y - (s * (x2 - X) - y2) := by
  have e : Y - (s * (x2 - X) - y2) = (1) * (Y - (s * (x1 - X) - y1)) + (-1) * (s * (x2 - x1) - (y2 - y1)) := by grind
  rw [e]; exact Int.dvd_add (Int.dvd_mul_of_dvd_right h1) (Int.dvd_mul_of_dvd_right h2)
theorem al_cc {p x1 x2 y1 y2 s : Int} (h1 : p ∣ s * (x2 - x1) - (y2 - y1)) : p ∣ s * (x1 - x2) - (y1 - y2) := by
  have e : s * (x1 - x2) - (y1 - y2) = (-1) * (s * (x2 - x1) - (y2 - y1)) := by grind
  rw [e]; exact Int.dvd_mul_of_dvd_right h1
theorem al_ct {p x1 x2 y1 y2 s A : Int} (h1 : p ∣ s * (y1 + y2) - (x1 * x1 + x1 * x2 + x2 * x2 + A)) : p ∣ s * (y2 + y1) - (x2 * x2 + x2 * x1 + x1 * x1 + A) := by
  have e : s * (y2 + y1) - (x2 * x2 + x2 * x1 + x1 * x1 + A) = (1) * (s * (y1 + y2) - (x1 * x1 + x1 * x2 + x2 * x2 + A)) := by grind
  rw [e]; exact Int.dvd_mul_of_dvd_right h1
theorem al_2y {p y5 y1 x5 x1 x2 y2 s2 : Int} (h1 : p ∣ y5 - (s2 * (x2 - x5) - y2)) (h2 : p ∣ x1 - x5) (h3 : p ∣ y1 + y5) (h4 : p ∣ x1 - x2) (h5 : p ∣ y1 + y2) : p ∣ 2 * y2 := by
  have e : 2 * y2 = (1) * (y5 - (s2 * (x2 - x5) - y2)) + (s2) * (x1 - x5) + (-1) * (y1 + y5) + (-s2) * (x1 - x2) + (1) * (y1 + y2) := by grind
  rw [e]; exact Int.dvd_add (Int.dvd_add (Int.dvd_add (Int.dvd_add (Int.dvd_mul_of_dvd_right h1) (Int.dvd_mul_of_dvd_right h2)) (Int.dvd_mul_of_dvd_right h3)) (Int.dvd_mul_of_dvd_right h4)) (Int.dvd_mul_of_dvd_right h5)
theorem al_uc {p s t x1 x2 y1 y2 : Int} (h1 : p ∣ s * (x2 - x1) - (y2 - y1)) (h2 : p ∣ t * (x2 - x1) - (y2 - y1)) : p ∣ (s - t) * (x2 - x1) := by
  have e : (s - t) * (x2 - x1) = (1) * (s * (x2 - x1) - (y2 - y1)) + (-1) * (t * (x2 - x1) - (y2 - y1)) := by grind
  rw [e]; exact Int.dvd_add (Int.dvd_mul_of_dvd_right h1) (Int.dvd_mul_of_dvd_right h2)
theorem al_ut {p s t x1 x2 y1 y2 A : Int} (h1 : p ∣ s * (y1 + y2) - (x1 * x1 + x1 * x2 + x2 * x2 + A)) (h2 : p ∣ t * (y1 + y2) - (x1 * x1 + x1 * x2 + x2 * x2 + A)) : p ∣ (s - t) * (y1 + y2) := by
  have e : (s - t) * (y1 + y2) = (1) * (s * (y1 + y2) - (x1 * x1 + x1 * x2 + x2 * x2 + A)) + (-1) * (t * (y1 + y2) - (x1 * x1 + x1 * x2 + x2 * x2 + A)) := by grind
  rw [e]; exact Int.dvd_add (Int.dvd_mul_of_dvd_right h1) (Int.dvd_mul_of_dvd_right h2)

end Go.Proofs.Ytceochfccebebaa

/-
  Sums of points modulo a prime: a commutative group.
-/
namespace Go.Proofs.Ytceochfccebebaa

/-- An odd prime from 5 on. -/
structure PrP (p : Int) : Prop where
  pos : 3 < p
  odd : p % 2 ≠ 0
  gc : ∀ a : Int, ¬ p ∣ a → Int.gcd a p = 1

theorem PrP.pr {p a b : Int} (h : PrP p) (hd : p ∣ a * b) (ha : ¬ p ∣ a) : p ∣ b := dvd_cancel (h.gc a ha) (by rwa [Int.mul_comm] at hd)
theorem PrP.two {p a : Int} (h : PrP p) (hd : p ∣ 2 * a) : p ∣ a := h.pr hd (fun e => by have := Int.le_of_dvd (by omega) e; have := h.pos; omega)
theorem dvd_swap {p a b : Int} (h : p ∣ a - b) : p ∣ b - a := by rw [← Int.neg_sub]; exact Int.dvd_neg.2 h
theorem res_eq {p a b : Int} (a0 : 0 ≤ a) (a1 : a < p) (b0 : 0 ≤ b) (b1 : b < p) (h : p ∣ a - b) : a = b := by
  have := emod_eq_iff.2 h
  rwa [Int.emod_eq_of_lt a0 a1, Int.emod_eq_of_lt b0 b1] at this
theorem res_of {p a e : Int} (a0 : 0 ≤ a) (a1 : a < p) (h : p ∣ a - e) : e % p = a := by
  have := emod_eq_iff.2 h
  rw [Int.emod_eq_of_lt a0 a1] at this
  exact this.symm

/-- s is the slope of the line through two points, or of the tangent. -/
structure Ln (A p x1 y1 x2 y2 s : Int) : Prop where
  c : p ∣ s * (x2 - x1) - (y2 - y1)
  t : p ∣ s * (y1 + y2) - (x1 * x1 + x1 * x2 + x2 * x2 + A)
theorem Ln.symm {A p x1 y1 x2 y2 s : Int} (h : Ln A p x1 y1 x2 y2 s) : Ln A p x2 y2 x1 y1 s := ⟨al_cc h.c, al_ct h.t⟩
/-- Two points are opposite. -/
def Opp (p x1 y1 x2 y2 : Int) : Prop := p ∣ x1 - x2 ∧ p ∣ y1 + y2
theorem Opp.symm {p x1 y1 x2 y2 : Int} (h : Opp p x1 y1 x2 y2) : Opp p x2 y2 x1 y1 := ⟨dvd_swap h.1, by rw [Int.add_comm]; exact h.2⟩
theorem Ln.uniq {A p x1 y1 x2 y2 s t : Int} (hp : PrP p) (hno : ¬ Opp p x1 y1 x2 y2) (h : Ln A p x1 y1 x2 y2 s) (h' : Ln A p x1 y1 x2 y2 t) : p ∣ s - t := by
  by_cases e : p ∣ x2 - x1
  · have n : ¬ p ∣ y1 + y2 := fun f => hno ⟨dvd_swap e, f⟩
    exact hp.pr (by rw [Int.mul_comm]; exact al_ut h.t h'.t) n
  · exact hp.pr (by rw [Int.mul_comm]; exact al_uc h.c h'.c) e

theorem ln_slope {A B p px py qx qy : Int} (hp : PrP p) (h1 : OnP A B p px py) (h2 : OnP A B p qx qy) (hno : ¬ Opp p px py qx qy) :
    Int.gcd (slD px py qx qy) p = 1 ∧ Ln A p px py qx qy (slope A p px py qx qy) := by
  have hp0 := hp.pos
  by_cases e : px = qx
  · have hD : slD px py qx qy = py + qy := by unfold slD; rw [decide_eq_true e]; rfl
    have hN : slN A px py qx qy = 3 * (px * px) + A := by unfold slN; rw [decide_eq_true e]; rfl
    have hn : ¬ p ∣ py + qy := fun f => hno ⟨by rw [e, Int.sub_self]; exact Int.dvd_zero _, f⟩
    have hg : Int.gcd (slD px py qx qy) p = 1 := by rw [hD]; exact hp.gc _ hn
    have hs := slope_prop (A := A) (by omega) hg
    rw [hD, hN] at hs
    subst e
    refine ⟨hg, ?_, ?_⟩
    · have hd : p ∣ (py + qy) * (py - qy) := by
        have : (py + qy) * (py - qy) = (py * py - (px * px * px + A * px + B)) - (qy * qy - (px * px * px + A * px + B)) := by grind
        rw [this]; exact Int.dvd_sub h1.eq h2.eq
      have := hp.pr hd hn
      rw [Int.sub_self, Int.mul_zero, Int.zero_sub]
      exact Int.dvd_neg.2 (dvd_swap this)
    · have e : slope A p px py px qy * (py + qy) - (px * px + px * px + px * px + A) = slope A p px py px qy * (py + qy) - (3 * (px * px) + A) := by omega
      rw [e]; exact hs
  · have hD : slD px py qx qy = qx - px := by unfold slD; rw [decide_eq_false e]; rfl
    have hN : slN A px py qx qy = qy - py := by unfold slN; rw [decide_eq_false e]; rfl
    have hn : ¬ p ∣ qx - px := fun f => e (res_eq h1.x0 h1.x1 h2.x0 h2.x1 (dvd_swap f))
    have hg : Int.gcd (slD px py qx qy) p = 1 := by rw [hD]; exact hp.gc _ hn
    have hs := slope_prop (A := A) (by omega) hg
    rw [hD, hN] at hs
    exact ⟨hg, hs, hp.pr (by rw [Int.mul_comm]; exact al_t hs h1.eq h2.eq) hn⟩

theorem add_pt {A B p px py qx qy s X Y : Int} (hp : PrP p) (h1 : OnP A B p px py) (h2 : OnP A B p qx qy) (hno : ¬ Opp p px py qx qy) (hl : Ln A p px py qx qy s)
    (x0 : 0 ≤ X) (x1 : X < p) (y0 : 0 ≤ Y) (y1 : Y < p) (hX : p ∣ X - (s * s - px - qx)) (hY : p ∣ Y - (s * (px - X) - py)) : addT A p px py false qx qy false = .pt X Y false := by
  obtain ⟨hg, hl'⟩ := ln_slope hp h1 h2 hno
  have hu := Ln.uniq hp hno hl hl'
  have ho : oppB p px py qx qy = false := by
    cases h : oppB p px py qx qy with
    | false => rfl
    | true =>
      unfold oppB at h
      rw [Bool.and_eq_true, decide_eq_true_iff, decide_eq_true_iff] at h
      exact (hno ⟨by rw [h.1, Int.sub_self]; exact Int.dvd_zero _, Int.dvd_of_emod_eq_zero h.2⟩).elim
  have eX : sumX A p px py qx qy = X := by
    unfold sumX
    refine res_of x0 x1 ?_
    have e : X - (slope A p px py qx qy * slope A p px py qx qy - (px + qx)) = (X - (s * s - px - qx)) + (s + slope A p px py qx qy) * (s - slope A p px py qx qy) := by grind
    rw [e]; exact Int.dvd_add hX (Int.dvd_mul_of_dvd_right hu)
  have eY : sumY A p px py qx qy = Y := by
    unfold sumY
    rw [eX]
    refine res_of y0 y1 ?_
    have e : Y - (slope A p px py qx qy * (px - X) - py) = (Y - (s * (px - X) - py)) + (px - X) * (s - slope A p px py qx qy) := by grind
    rw [e]; exact Int.dvd_add hY (Int.dvd_mul_of_dvd_right hu)
  unfold addT
  rw [cond_false, cond_false, ho, cond_false, decide_eq_true hg, cond_true, eX, eY]
theorem add_op {A p px py qx qy : Int} (hx : px = qx) (h : p ∣ py + qy) : addT A p px py false qx qy false = .pt 0 0 true := by
  unfold addT
  rw [cond_false, cond_false]
  have : oppB p px py qx qy = true := by
    unfold oppB
    rw [decide_eq_true hx, decide_eq_true (Int.emod_eq_zero_of_dvd h)]; rfl
  rw [this, cond_true]
theorem add_ex {A B p px py qx qy : Int} (hp : PrP p) (hc : curveB A B p = true) (h1 : OnP A B p px py) (h2 : OnP A B p qx qy) (hno : ¬ Opp p px py qx qy) :
    ∃ s X Y, Ln A p px py qx qy s ∧ OnP A B p X Y ∧ p ∣ X - (s * s - px - qx) ∧ p ∣ Y - (s * (px - X) - py) ∧ addT A p px py false qx qy false = .pt X Y false := by
  have hp0 := hp.pos
  obtain ⟨hg, hl⟩ := ln_slope hp h1 h2 hno
  have d1 : p ∣ sumX A p px py qx qy - (slope A p px py qx qy * slope A p px py qx qy - px - qx) := by
    unfold sumX; rw [Int.sub_sub]; exact dvd_emod _ _
  have d2 : p ∣ sumY A p px py qx qy - (slope A p px py qx qy * (px - sumX A p px py qx qy) - py) := by
    unfold sumY; exact dvd_emod _ _
  have e := add_pt hp h1 h2 hno hl (Int.emod_nonneg _ (by omega)) (Int.emod_lt_of_pos _ (by omega)) (Int.emod_nonneg _ (by omega)) (Int.emod_lt_of_pos _ (by omega)) d1 d2
  have hf := add_fine (on_iff.2 ⟨hc, h1⟩) (on_iff.2 ⟨hc, h2⟩)
  rw [e] at hf
  exact ⟨_, _, _, hl, (on_iff.1 hf).2, d1, d2, e⟩

theorem half {A p x1 y1 x2 y2 x3 y3 x4 y4 s1 s2 : Int} (hp : PrP p) (l1 : Ln A p x1 y1 x2 y2 s1) (l2 : Ln A p x2 y2 x3 y3 s2) (hno : ¬ Opp p x2 y2 x3 y3)
    (hX : p ∣ x4 - (s1 * s1 - x1 - x2)) (hY : p ∣ y4 - (s1 * (x1 - x4) - y1)) (hs : ¬ p ∣ s1 - s2) :
    ¬ Opp p x4 y4 x3 y3 ∧ ∀ s3, Ln A p x4 y4 x3 y3 s3 → p ∣ (s2 - s1) * (s1 + s3) - (x3 - x1) := by
  have H := al_half hX l1.c l2.c l1.t l2.t
  have hs' : ¬ p ∣ s2 - s1 := fun h => hs (dvd_swap h)
  have G : p ∣ x3 - x4 → p ∣ s1 * (x3 - x1) + y1 + y3 := fun e => by
    have := Int.dvd_add H (Int.dvd_mul_of_dvd_right (b := x3 - x1) e)
    rw [Int.sub_add_cancel] at this
    exact hp.pr this hs'
  have F : p ∣ x3 - x4 → ¬ p ∣ y3 := fun e z => by
    have h2 := Int.dvd_add (al_two (G e) l1.c l2.c) (Int.dvd_mul_of_dvd_right (b := 2) z)
    rw [Int.sub_add_cancel] at h2
    have h3 := hp.pr h2 hs'
    exact hno ⟨dvd_swap h3, al_op l2.c h3 z⟩
  constructor
  · rintro ⟨e, f⟩
    have e' := dvd_swap e
    have h1 := Int.dvd_add (al_eq hY (G e') e') f
    rw [show y3 - y4 + (y4 + y3) = 2 * y3 by omega] at h1
    exact F e' (hp.two h1)
  · intro s3 l3
    by_cases e : p ∣ x3 - x4
    · exact hp.pr (al_tan e (al_eq hY (G e) e) (G e) l1.c l1.t hX l2.c l3.t) (fun h => F e (hp.two h))
    · exact hp.pr (al_gen l3.c hY H) e

theorem add_comm' {A B p px py qx qy : Int} (hp : PrP p) (hc : curveB A B p = true) (h1 : OnP A B p px py) (h2 : OnP A B p qx qy) : addT A p px py false qx qy false = addT A p qx qy false px py false := by
  by_cases hno : Opp p px py qx qy
  · have e : px = qx := res_eq h1.x0 h1.x1 h2.x0 h2.x1 hno.1
    rw [add_op e hno.2, add_op e.symm hno.symm.2]
  · obtain ⟨s, X, Y, l, o, dX, dY, e⟩ := add_ex hp hc h1 h2 hno
    rw [e, add_pt hp h2 h1 (fun h => hno h.symm) l.symm o.x0 o.x1 o.y0 o.y1 (al_cX dX) (al_cY dY l.c)]

theorem assoc_aff {A B p x1 y1 x2 y2 x3 y3 : Int} (hp : PrP p) (hc : curveB A B p = true) (h1 : OnP A B p x1 y1) (h2 : OnP A B p x2 y2) (h3 : OnP A B p x3 y3) (n12 : ¬ Opp p x1 y1 x2 y2) (n23 : ¬ Opp p x2 y2 x3 y3) :
    addTT A p (addT A p x1 y1 false x2 y2 false) (.pt x3 y3 false) = addTT A p (.pt x1 y1 false) (addT A p x2 y2 false x3 y3 false) := by
  obtain ⟨s1, x4, y4, l1, o4, X4, Y4, e4⟩ := add_ex hp hc h1 h2 n12
  obtain ⟨s2, x5, y5, l2, o5, X5, Y5, e5⟩ := add_ex hp hc h2 h3 n23
  have X5' := al_cX X5
  have Y5' := al_cY Y5 l2.c
  rw [e4, e5]
  show addT A p x4 y4 false x3 y3 false = addT A p x1 y1 false x5 y5 false
  by_cases hs : p ∣ s1 - s2
  · by_cases h13 : x1 = x3
    · subst h13
      have hy : y1 = y3 := res_eq h1.y0 h1.y1 h3.y0 h3.y1 (al_y13 l1.c l2.c hs (by rw [Int.sub_self]; exact Int.dvd_zero _))
      subst hy
      have := add_comm' hp hc h1 h2
      rw [e4, e5] at this
      simp only [TR.pt.injEq, and_true] at this
      obtain ⟨rfl, rfl⟩ := this
      exact add_comm' hp hc o4 h1
    · have n31 : ¬ p ∣ x3 - x1 := fun h => h13 (res_eq h1.x0 h1.x1 h3.x0 h3.x1 (dvd_swap h))
      have n13 : ¬ p ∣ x1 - x3 := fun h => n31 (dvd_swap h)
      have a1 := hp.pr (al_s (al_half X4 l1.c l2.c l1.t l2.t) hs) n31
      have a2 := hp.pr (al_s (al_half X5' l2.symm.c l1.symm.c l2.symm.t l1.symm.t) (dvd_swap hs)) n13
      have b1 := al_opU Y4 l1.c l2.c hs a1
      have b2 := al_opU Y5' l2.symm.c l1.symm.c (dvd_swap hs) a2
      rw [add_op (res_eq o4.x0 o4.x1 h3.x0 h3.x1 (dvd_swap a1)) b1, add_op (res_eq h1.x0 h1.x1 o5.x0 o5.x1 a2) (by rw [Int.add_comm]; exact b2)]
  · have hs' : ¬ p ∣ s2 - s1 := fun h => hs (dvd_swap h)
    obtain ⟨nU, k1⟩ := half hp l1 l2 n23 X4 Y4 hs
    obtain ⟨nV, k2⟩ := half hp l2.symm l1.symm (fun h => n12 h.symm) X5' Y5' hs'
    obtain ⟨s3, X, Y, l3, o6, dX, dY, e6⟩ := add_ex hp hc o4 h3 nU
    obtain ⟨s4, _, _, l4, _, _, _, _⟩ := add_ex hp hc o5 h1 nV
    have K1 := k1 s3 l3
    have E := hp.pr (al_sig K1 (k2 s4 l4)) hs'
    rw [e6, add_comm' hp hc h1 o5]
    exact (add_pt hp o5 h1 nV l4 o6.x0 o6.x1 o6.y0 o6.y1 (al_X dX X4 X5 E K1) (al_Y dY dX Y4 Y5 X4 X5 l1.c E K1)).symm

theorem cancel {A B p x1 y1 x2 y2 x3 y3 : Int} (hp : PrP p) (hc : curveB A B p = true) (ns : ¬ p ∣ 4 * (A * (A * A)) + 27 * (B * B)) (h1 : OnP A B p x1 y1) (h2 : OnP A B p x2 y2) (h3 : OnP A B p x3 y3) (ho : Opp p x1 y1 x2 y2) :
    addTT A p (.pt x1 y1 false) (addT A p x2 y2 false x3 y3 false) = .pt x3 y3 false := by
  by_cases n23 : Opp p x2 y2 x3 y3
  · have ex : x2 = x3 := res_eq h2.x0 h2.x1 h3.x0 h3.x1 n23.1
    rw [add_op ex n23.2]
    have ex1 : x1 = x2 := res_eq h1.x0 h1.x1 h2.x0 h2.x1 ho.1
    have ey : y1 = y3 := res_eq h1.y0 h1.y1 h3.y0 h3.y1 (by
      have := Int.dvd_sub ho.2 n23.2
      rwa [show y1 + y2 - (y2 + y3) = y1 - y3 by omega] at this)
    subst ex; subst ex1; subst ey; rfl
  · obtain ⟨s2, x5, y5, l2, o5, X5, Y5, e5⟩ := add_ex hp hc h2 h3 n23
    rw [e5]
    show addT A p x1 y1 false x5 y5 false = _
    have n15 : ¬ Opp p x1 y1 x5 y5 := by
      rintro ⟨a, b⟩
      have hy := hp.two (al_2y Y5 a b ho.1 ho.2)
      have hx : p ∣ x2 - x5 := by
        have := Int.dvd_sub a ho.1
        rwa [show x1 - x5 - (x1 - x2) = x2 - x5 by omega] at this
      exact ns (al_disc h2.eq (al_sing l2.t l2.c hx X5 hy) hy)
    exact add_pt hp h1 o5 n15 ⟨al_Lc Y5 ho.1 ho.2, al_Lt Y5 ho.1 ho.2 l2.t l2.c X5⟩ h3.x0 h3.x1 h3.y0 h3.y1 (al_LX ho.1 X5) (al_LY ho.1 ho.2 l2.c)

end Go.Proofs.Ytceochfccebebaa

/-
  Sums and multiples of points modulo a prime: the laws of a commutative group, and of multiples.
-/
namespace Go.Proofs.Ytceochfccebebaa

/-- A commutative group on those that are 'on'. -/
structure Gp {T : Type} (on : T → Prop) (add : T → T → T) (z : T) (ng : T → T) : Prop where
  on_z : on z
  on_add : ∀ {a b}, on a → on b → on (add a b)
  on_ng : ∀ {a}, on a → on (ng a)
  add_z : ∀ {a}, on a → add a z = a
  comm : ∀ {a b}, on a → on b → add a b = add b a
  assoc : ∀ {a b c}, on a → on b → on c → add (add a b) c = add a (add b c)
  inv : ∀ {a}, on a → add a (ng a) = z

section
variable {T : Type} {on : T → Prop} {add : T → T → T} {z : T} {ng : T → T}
/-- So many times. -/
def smul (add : T → T → T) (z : T) : Nat → T → T
  | 0, _ => z
  | n + 1, p => add (smul add z n p) p
theorem Gp.z_add (g : Gp on add z ng) {a : T} (h : on a) : add z a = a := by rw [g.comm g.on_z h, g.add_z h]
theorem Gp.smul_on (g : Gp on add z ng) {p : T} (h : on p) : ∀ n, on (smul add z n p)
  | 0 => g.on_z
  | n + 1 => g.on_add (g.smul_on h n) h
theorem Gp.smul_add (g : Gp on add z ng) {p : T} (h : on p) (m : Nat) : ∀ n, smul add z (m + n) p = add (smul add z m p) (smul add z n p)
  | 0 => (g.add_z (g.smul_on h m)).symm
  | n + 1 => by
    show add (smul add z (m + n) p) p = add (smul add z m p) (add (smul add z n p) p)
    rw [g.smul_add h m n, g.assoc (g.smul_on h m) (g.smul_on h n) h]
theorem Gp.smul_mul (g : Gp on add z ng) {p : T} (h : on p) (n : Nat) : ∀ m, smul add z (m * n) p = smul add z m (smul add z n p)
  | 0 => by rw [Nat.zero_mul]; rfl
  | m + 1 => by
    rw [Nat.add_mul, Nat.one_mul, g.smul_add h, g.smul_mul h n m]; rfl
theorem Gp.ng_uniq (g : Gp on add z ng) {a b : T} (ha : on a) (hb : on b) (h : add a b = z) : b = ng a := by
  have h1 : add (ng a) (add a b) = ng a := by rw [h, g.add_z (g.on_ng ha)]
  rw [← g.assoc (g.on_ng ha) ha hb, g.comm (g.on_ng ha) ha, g.inv ha, g.z_add hb] at h1
  exact h1
theorem Gp.ng_ng (g : Gp on add z ng) {a : T} (ha : on a) : ng (ng a) = a := (g.ng_uniq (g.on_ng ha) ha (by rw [g.comm (g.on_ng ha) ha, g.inv ha])).symm
theorem Gp.ng_z (g : Gp on add z ng) : ng z = z := (g.ng_uniq g.on_z g.on_z (g.add_z g.on_z)).symm
theorem Gp.ng_add (g : Gp on add z ng) {a b : T} (ha : on a) (hb : on b) : add (ng a) (ng b) = ng (add a b) := by
  refine g.ng_uniq (g.on_add ha hb) (g.on_add (g.on_ng ha) (g.on_ng hb)) ?_
  rw [g.comm ha hb, g.assoc hb ha (g.on_add (g.on_ng ha) (g.on_ng hb)), ← g.assoc ha (g.on_ng ha) (g.on_ng hb), g.inv ha, g.z_add (g.on_ng hb), g.inv hb]
theorem Gp.smul_ng (g : Gp on add z ng) {p : T} (h : on p) : ∀ n, smul add z n (ng p) = ng (smul add z n p)
  | 0 => g.ng_z.symm
  | n + 1 => by
    show add (smul add z n (ng p)) (ng p) = _
    rw [g.smul_ng h n, g.ng_add (g.smul_on h n) h]; rfl
/-- So many times, where the number may be negative. -/
def zmul (add : T → T → T) (z : T) (ng : T → T) (k : Int) (p : T) : T := smul add z k.natAbs (if k < 0 then ng p else p)
theorem Gp.zmul_on (g : Gp on add z ng) {p : T} (h : on p) (k : Int) : on (zmul add z ng k p) := by
  unfold zmul
  split
  · exact g.smul_on (g.on_ng h) _
  · exact g.smul_on h _
theorem Gp.zmul_of (_ : Gp on add z ng) {p : T} (_ : on p) (n : Nat) : zmul add z ng (n : Int) p = smul add z n p := by
  unfold zmul
  rw [if_neg (by omega), Int.natAbs_natCast]
theorem Gp.zmul_neg (g : Gp on add z ng) {p : T} (h : on p) (k : Int) : zmul add z ng (-k) p = ng (zmul add z ng k p) := by
  unfold zmul
  rw [Int.natAbs_neg]
  by_cases h0 : k = 0
  · subst h0; exact g.ng_z.symm
  by_cases h1 : k < 0
  · rw [if_neg (by omega), if_pos h1, g.smul_ng h, g.ng_ng (g.smul_on h _)]
  · rw [if_pos (by omega), if_neg h1, g.smul_ng h]
/-- The difference of multiples. -/
theorem Gp.smul_sub (g : Gp on add z ng) {p : T} (h : on p) (m n : Nat) : add (smul add z m p) (ng (smul add z n p)) = zmul add z ng ((m : Int) - n) p := by
  rcases Nat.le_total n m with hl | hl
  · obtain ⟨k, rfl⟩ : ∃ k, m = k + n := ⟨m - n, by omega⟩
    rw [g.smul_add h, g.assoc (g.smul_on h k) (g.smul_on h n) (g.on_ng (g.smul_on h n)), g.inv (g.smul_on h n), g.add_z (g.smul_on h k), show ((k + n : Nat) : Int) - n = (k : Nat) by omega, g.zmul_of h]
  · obtain ⟨k, rfl⟩ : ∃ k, n = m + k := ⟨n - m, by omega⟩
    rw [g.smul_add h, ← g.ng_add (g.smul_on h m) (g.smul_on h k), ← g.assoc (g.smul_on h m) (g.on_ng (g.smul_on h m)) (g.on_ng (g.smul_on h k)), g.inv (g.smul_on h m), g.z_add (g.on_ng (g.smul_on h k)), show (m : Int) - ((m + k : Nat) : Int) = -(k : Nat) by omega, g.zmul_neg h, g.zmul_of h]
theorem int_cases (k : Int) : ∃ n : Nat, k = n ∨ k = -(n : Int) := ⟨k.natAbs, by omega⟩
theorem Gp.zmul_add (g : Gp on add z ng) {p : T} (h : on p) (j k : Int) : zmul add z ng (j + k) p = add (zmul add z ng j p) (zmul add z ng k p) := by
  obtain ⟨m, rfl | rfl⟩ := int_cases j <;> obtain ⟨n, rfl | rfl⟩ := int_cases k
  · rw [show (m : Int) + n = ((m + n : Nat) : Int) by omega, g.zmul_of h, g.zmul_of h, g.zmul_of h, g.smul_add h]
  · rw [g.zmul_of h, g.zmul_neg h, g.zmul_of h, g.smul_sub h]; rfl
  · rw [g.zmul_of h, g.zmul_neg h, g.zmul_of h, g.comm (g.on_ng (g.smul_on h m)) (g.smul_on h n), g.smul_sub h, show (n : Int) - m = -(m : Int) + n by omega]
  · rw [show -(m : Int) + -(n : Int) = -((m + n : Nat) : Int) by omega, g.zmul_neg h, g.zmul_of h, g.zmul_neg h, g.zmul_of h, g.zmul_neg h, g.zmul_of h, g.smul_add h, g.ng_add (g.smul_on h m) (g.smul_on h n)]
theorem Gp.zmul_mul (g : Gp on add z ng) {p : T} (h : on p) (j k : Int) : zmul add z ng (j * k) p = zmul add z ng j (zmul add z ng k p) := by
  obtain ⟨m, rfl | rfl⟩ := int_cases j <;> obtain ⟨n, rfl | rfl⟩ := int_cases k
  · rw [show (m : Int) * n = ((m * n : Nat) : Int) by rw [Int.natCast_mul], g.zmul_of h, g.zmul_of h, g.zmul_of (g.smul_on h n), g.smul_mul h]
  · rw [show (m : Int) * -(n : Int) = -((m * n : Nat) : Int) by rw [Int.natCast_mul, Int.mul_neg], g.zmul_neg h, g.zmul_of h, g.zmul_neg h, g.zmul_of h, g.zmul_of (g.on_ng (g.smul_on h n)), g.smul_ng (g.smul_on h n), g.smul_mul h]
  · rw [show -(m : Int) * (n : Int) = -((m * n : Nat) : Int) by rw [Int.natCast_mul, Int.neg_mul], g.zmul_neg h, g.zmul_of h, g.zmul_of h, g.zmul_neg (g.smul_on h n), g.zmul_of (g.smul_on h n), g.smul_mul h]
  · rw [show -(m : Int) * -(n : Int) = ((m * n : Nat) : Int) by rw [Int.natCast_mul, Int.neg_mul_neg], g.zmul_of h, g.zmul_neg h, g.zmul_of h, g.zmul_neg (g.on_ng (g.smul_on h n)), g.zmul_of (g.on_ng (g.smul_on h n)), g.smul_ng (g.smul_on h n), g.ng_ng (g.smul_on (g.smul_on h n) m), g.smul_mul h]
end

end Go.Proofs.Ytceochfccebebaa

/-
  The group of the points of a curve modulo a prime.
-/
namespace Go.Proofs.Ytceochfccebebaa

def TR.on (A B p : Int) : TR → Prop
  | .pt X Y o => onB A B p X Y o = true
  | .dv _ => False
def TR.ng (p : Int) : TR → TR
  | .pt X Y o => .pt X (negY p Y o) o
  | .dv d => .dv d
theorem TR.on_cases {A B p : Int} {a : TR} (h : a.on A B p) : a = .pt 0 0 true ∨ ∃ X Y, a = .pt X Y false ∧ OnP A B p X Y := by
  cases a with
  | dv d => exact h.elim
  | pt X Y o =>
    cases o with
    | true =>
      obtain ⟨_, h1, h2⟩ := on_inf.1 h
      subst h1; subst h2; exact .inl rfl
    | false => exact .inr ⟨X, Y, rfl, (on_iff.1 h).2⟩

section
variable {A B p : Int}
theorem zero_on (hc : curveB A B p = true) : (TR.pt 0 0 true).on A B p := on_inf.2 ⟨hc, rfl, rfl⟩
theorem aff_on (hc : curveB A B p = true) {X Y : Int} (h : OnP A B p X Y) : (TR.pt X Y false).on A B p := on_iff.2 ⟨hc, h⟩
theorem ng_onp (hc : curveB A B p = true) {X Y : Int} (h : OnP A B p X Y) : OnP A B p X (-Y % p) := by
  have := neg_on (on_iff.2 ⟨hc, h⟩)
  exact (on_iff.1 this).2
theorem addTT_on (hp : PrP p) (hc : curveB A B p = true) {a b : TR} (ha : a.on A B p) (hb : b.on A B p) : (addTT A p a b).on A B p := by
  rcases TR.on_cases ha with rfl | ⟨X, Y, rfl, h1⟩
  · cases b with
    | dv d => exact hb.elim
    | pt X' Y' o' => exact hb
  rcases TR.on_cases hb with rfl | ⟨X', Y', rfl, h2⟩
  · exact ha
  show (addT A p X Y false X' Y' false).on A B p
  by_cases hno : Opp p X Y X' Y'
  · rw [add_op (res_eq h1.x0 h1.x1 h2.x0 h2.x1 hno.1) hno.2]; exact zero_on hc
  · obtain ⟨_, _, _, _, o, _, _, e⟩ := add_ex hp hc h1 h2 hno
    rw [e]; exact aff_on hc o
theorem addTT_comm (hp : PrP p) (hc : curveB A B p = true) {a b : TR} (ha : a.on A B p) (hb : b.on A B p) : addTT A p a b = addTT A p b a := by
  rcases TR.on_cases ha with rfl | ⟨X, Y, rfl, h1⟩ <;> rcases TR.on_cases hb with rfl | ⟨X', Y', rfl, h2⟩
  · rfl
  · rfl
  · rfl
  · exact add_comm' hp hc h1 h2
theorem addTT_zero {a : TR} (ha : a.on A B p) : addTT A p a (.pt 0 0 true) = a := by
  rcases TR.on_cases ha with rfl | ⟨X, Y, rfl, h1⟩ <;> rfl
theorem zero_addTT {a : TR} (ha : a.on A B p) : addTT A p (.pt 0 0 true) a = a := by
  rcases TR.on_cases ha with rfl | ⟨X, Y, rfl, h1⟩ <;> rfl
theorem addTT_inv {a : TR} (ha : a.on A B p) : addTT A p a (a.ng p) = .pt 0 0 true := by
  rcases TR.on_cases ha with rfl | ⟨X, Y, rfl, h1⟩
  · rfl
  · show addT A p X Y false X (-Y % p) false = _
    refine add_op rfl ?_
    have := dvd_emod (-Y) p
    rwa [show -Y % p - -Y = Y + -Y % p by omega] at this
theorem addTT_assoc (hp : PrP p) (hc : curveB A B p = true) (ns : ¬ p ∣ 4 * (A * (A * A)) + 27 * (B * B)) {a b c : TR} (ha : a.on A B p) (hb : b.on A B p) (hd : c.on A B p) :
    addTT A p (addTT A p a b) c = addTT A p a (addTT A p b c) := by
  rcases TR.on_cases ha with rfl | ⟨x1, y1, rfl, h1⟩
  · rw [zero_addTT hb, zero_addTT (addTT_on hp hc hb hd)]
  rcases TR.on_cases hb with rfl | ⟨x2, y2, rfl, h2⟩
  · rw [zero_addTT hd, addTT_zero ha]
  rcases TR.on_cases hd with rfl | ⟨x3, y3, rfl, h3⟩
  · rw [addTT_zero (addTT_on hp hc ha hb), addTT_zero hb]
  by_cases n12 : Opp p x1 y1 x2 y2
  · have e : addTT A p (.pt x1 y1 false) (.pt x2 y2 false) = .pt 0 0 true := add_op (res_eq h1.x0 h1.x1 h2.x0 h2.x1 n12.1) n12.2
    rw [e, zero_addTT hd]
    exact (cancel hp hc ns h1 h2 h3 n12).symm
  by_cases n23 : Opp p x2 y2 x3 y3
  · have e : addTT A p (.pt x2 y2 false) (.pt x3 y3 false) = .pt 0 0 true := add_op (res_eq h2.x0 h2.x1 h3.x0 h3.x1 n23.1) n23.2
    rw [e, addTT_zero ha, addTT_comm hp hc (addTT_on hp hc ha hb) hd, addTT_comm hp hc ha hb]
    exact cancel hp hc ns h3 h2 h1 n23.symm
  exact assoc_aff hp hc h1 h2 h3 n12 n23
theorem group (hp : PrP p) (hc : curveB A B p = true) (ns : ¬ p ∣ 4 * (A * (A * A)) + 27 * (B * B)) : Gp (TR.on A B p) (addTT A p) (.pt 0 0 true) (TR.ng p) where
  on_z := zero_on hc
  on_add := addTT_on hp hc
  on_ng := fun {a} h => by
    cases a with
    | dv d => exact h.elim
    | pt X Y o => exact neg_on h
  add_z := addTT_zero
  comm := addTT_comm hp hc
  assoc := addTT_assoc hp hc ns
  inv := addTT_inv

/-- The multiples that the program computes bit by bit. -/
theorem mulT_smul (g : Gp (TR.on A B p) (addTT A p) (.pt 0 0 true) (TR.ng p)) {a : TR} (ha : a.on A B p) (n : Nat) : mulT A p a n = smul (addTT A p) (.pt 0 0 true) n a := by
  induction n using Nat.strongRecOn with
  | _ n ih =>
    by_cases h0 : n = 0
    · subst h0; rw [mulT_zero]; rfl
    rw [mulT_pos h0, ih (n / 2) (by omega), ← g.smul_add ha]
    by_cases h1 : n % 2 = 1
    · rw [decide_eq_true h1, cond_true]
      have e : n / 2 + n / 2 + 1 = n := by omega
      have : smul (addTT A p) (TR.pt 0 0 true) (n / 2 + n / 2 + 1) a = addTT A p (smul (addTT A p) (TR.pt 0 0 true) (n / 2 + n / 2) a) a := rfl
      rw [← this, e]
    · rw [decide_eq_false h1, cond_false]
      congr 1; omega
end

/-! ### The primes -/
theorem primeB_small : ∀ q, q < 264 → primeB q = true → ∀ d, d < q → 2 ≤ d → q % d ≠ 0 := by decide +kernel
theorem nextP_small : ∀ n, n < 261 → 5 ≤ n → primeB (nextP n) = true ∧ 5 ≤ nextP n ∧ nextP n < 264 ∧ nextP n % 2 = 1 := by decide +kernel
theorem nextP_pr {n : Nat} (h1 : 5 ≤ n) (h2 : n < 261) : PrP (nextP n) := by
  obtain ⟨q1, q2, q3, q4⟩ := nextP_small n h2 h1
  have q5 := primeB_small _ q3 q1
  generalize nextP n = q at *
  refine ⟨by omega, by omega, fun a ha => ?_⟩
  have hd : Int.gcd a q ∣ q := by
    have : ((Int.gcd a q : Nat) : Int) ∣ (q : Int) := Int.gcd_dvd_right ..
    exact Int.natCast_dvd_natCast.1 this
  have hle := Nat.le_of_dvd (by omega) hd
  by_cases e1 : Int.gcd a q = 1
  · exact e1
  by_cases e2 : Int.gcd a q = q
  · have : ((Int.gcd a q : Nat) : Int) ∣ a := Int.gcd_dvd_left ..
    rw [e2] at this
    exact (ha this).elim
  have h0 : Int.gcd a q ≠ 0 := fun e => by rw [e] at hd; have := Nat.eq_zero_of_zero_dvd hd; omega
  exact (q5 _ (by omega) (by omega) (Nat.mod_eq_zero_of_dvd hd)).elim

end Go.Proofs.Ytceochfccebebaa

/-
  The walk of PointGroup.
-/
namespace Go.Proofs.Ytceochfccebebaa
open Go Go.RowKit

/-- The curve modulo a prime and three points. -/
structure PgS where
  m : Int
  a : Int
  b : Int
  X : Int
  Y : Int
  Q : Pt
  R : Pt
noncomputable def PgS.pq (s : PgS) : RS := addI s.a s.b s.m s.X s.Y false s.Q.1 s.Q.2.1 s.Q.2.2
noncomputable def PgS.qp (s : PgS) : RS := addI s.a s.b s.m s.Q.1 s.Q.2.1 s.Q.2.2 s.X s.Y false
noncomputable def PgS.qr (s : PgS) : RS := addI s.a s.b s.m s.Q.1 s.Q.2.1 s.Q.2.2 s.R.1 s.R.2.1 s.R.2.2
noncomputable def PgS.one (s : PgS) : RS := addI s.a s.b s.m s.pq.X s.pq.Y s.pq.o s.R.1 s.R.2.1 s.R.2.2
noncomputable def PgS.two (s : PgS) : RS := addI s.a s.b s.m s.X s.Y false s.qr.X s.qr.Y s.qr.o
def PgS.n (s : PgS) : RS := negI s.a s.b s.m s.R.1 s.R.2.1 s.R.2.2
noncomputable def PgS.zero (s : PgS) : RS := addI s.a s.b s.m s.R.1 s.R.2.1 s.R.2.2 s.n.X s.n.Y s.n.o
noncomputable def PgS.same (s : PgS) : RS := addI s.a s.b s.m 0 0 true s.R.1 s.R.2.1 s.R.2.2
abbrev one1 (m : MV) : Box := ⟨false, .one m⟩
abbrev pgT5 (k : Int) (s : PgS) : List (Nat × MV) := [(1, .int .u16 k), (2, .bp 0 0), (4, .bool false), (5, .bool true), (6, .int .i64 s.m)]
abbrev pgT6 (k : Int) (s : PgS) : List (Nat × MV) := pgT5 k s ++ [(7, .bp 1 0)]
abbrev pgB6 (x : MV) (s : PgS) : List Box := [one1 x, one1 (cvM s.a s.b s.m 64 64 64)]
abbrev pgT10 (k : Int) (s : PgS) : List (Nat × MV) := pgT6 k s ++ [(9, .bp 2 0), (10, .bp 3 0), (11, .bp 4 0)]
abbrev pgB10 (x : MV) (s : PgS) : List Box := pgB6 x s ++ [one1 (ptM s.X s.Y false 64 64), one1 (ptOf s.Q), one1 (ptOf s.R)]
noncomputable abbrev pgB11 (x : MV) (s : PgS) : List Box := pgB10 x s ++ [one1 (sumM s.pq), one1 (sumM s.qp), one1 (sumM s.qr)]
abbrev pgT11 (k : Int) (s : PgS) : List (Nat × MV) := pgT10 k s ++ [(12, .bp 5 0), (13, .bp 6 0), (14, .bp 7 0)]
noncomputable def pgCut (x : MV) (k : Int) (s : PgS) : Nat → MS → Option CutAnn
  | 5, _ => some (.mk Bool (fun t => t = true) (fun _ => ⟨182, pgT5 k s, [one1 x], 0⟩))
  | 6, _ => some (.mk Bool (fun t => t = true) (fun _ => ⟨182, pgT6 k s, pgB6 x s, 0⟩))
  | 8, _ => some (.mk Bool (fun t => t = true ∧ nonsB s.a s.b s.m = true) (fun _ => ⟨182, pgT6 k s, pgB6 x s, 0⟩))
  | 9, _ => some (.mk Bool (fun t => t = true ∧ nonsB s.a s.b s.m = true) (fun _ => ⟨182, pgT6 k s ++ [(8, .sl 5 (ptsI s.a s.b s.m).length (ptF (ptsI s.a s.b s.m)))], pgB6 x s, 0⟩))
  | 10, _ => some (.mk Bool (fun t => t = true ∧ nonsB s.a s.b s.m = true) (fun _ => ⟨182, pgT10 k s, pgB10 x s, 0⟩))
  | 11, _ => some (.mk Bool (fun t => t = true ∧ nonsB s.a s.b s.m = true) (fun _ => ⟨182, pgT11 k s, pgB11 x s, 0⟩))
  | 13, _ => some (.mk Bool (fun t => t = true ∧ nonsB s.a s.b s.m = true) (fun _ => ⟨182, pgT11 k s, pgB11 x s, 0⟩))
  | 14, _ => some (.mk Bool (fun t => t = true ∧ nonsB s.a s.b s.m = true) (fun _ => ⟨182, pgT11 k s ++ [(15, .bp 8 0), (16, .bp 9 0)], pgB11 x s ++ [one1 (sumM s.one), one1 (sumM s.two)], 0⟩))
  | 15, _ => some (.mk Bool (fun t => t = true ∧ nonsB s.a s.b s.m = true) (fun _ => ⟨182, pgT11 k s ++ [(15, .bp 8 0), (16, .bp 9 0), (17, .bp 10 0), (18, .int .i64 s.n.e)], pgB11 x s ++ [one1 (sumM s.one), one1 (sumM s.two), one1 (ptM s.n.X s.n.Y s.n.o 200 200)], 0⟩))
  | 16, _ => some (.mk Bool (fun t => t = true ∧ nonsB s.a s.b s.m = true) (fun _ => ⟨182, pgT11 k s ++ [(15, .bp 8 0), (16, .bp 9 0), (17, .bp 10 0), (18, .int .i64 s.n.e), (19, .bp 11 0), (20, .bp 12 0)],
      pgB11 x s ++ [one1 (sumM s.one), one1 (sumM s.two), one1 (ptM s.n.X s.n.Y s.n.o 200 200), one1 (sumM s.zero), one1 (sumM s.same)], 0⟩))
  | _, _ => none
theorem vc_pg (M A X Y Q k : Int) (s : PgS) : ((((0 : Int) ≤ IntKind.wrap IntKind.u16 ((5 : Int) + IntKind.wrap IntKind.u16 M) ∧ IntKind.wrap IntKind.u16 ((5 : Int) + IntKind.wrap IntKind.u16 M) ≤ (263 : Int)) ∧ ∃ i, i = true ∧ (k = k ∧ (0 : Nat) = (0 : Nat) ∧ false = false ∧ true = true ∧ (↑(nextP (Int.toNat (IntKind.wrap IntKind.u16 ((5 : Int) + IntKind.wrap IntKind.u16 M)))) : Int) = PgS.m s ∧ True) ∧ (M = M ∧ A = A ∧ X = X ∧ Y = Y ∧ Q = Q ∧ True) ∧ True) ∧ ∀ (i : Bool), i = true → ((PgS.m s = (0 : Int) → False) ∧ (PgS.m s = (0 : Int) → False) ∧ (PgS.m s = (0 : Int) → False) ∧ ((1 : Int) ≤ PgS.m s ∧ PgS.m s ≤ (100000 : Int) ∧ (0 : Int) ≤ Int.tmod (IntKind.wrap IntKind.i64 A) (PgS.m s) ∧ Int.tmod (IntKind.wrap IntKind.i64 A) (PgS.m s) ≤ (100000 : Int) ∧ (0 : Int) ≤ Int.tmod (IntKind.wrap IntKind.i64 X) (PgS.m s) ∧ Int.tmod (IntKind.wrap IntKind.i64 X) (PgS.m s) ≤ (100000 : Int) ∧ (0 : Int) ≤ Int.tmod (IntKind.wrap IntKind.i64 Y) (PgS.m s) ∧ Int.tmod (IntKind.wrap IntKind.i64 Y) (PgS.m s) ≤ (100000 : Int)) ∧ ∃ i, i = true ∧ (k = k ∧ (0 : Nat) = (0 : Nat) ∧ false = false ∧ true = true ∧ PgS.m s = PgS.m s ∧ (0 : Nat) = (0 : Nat) ∧ True) ∧ (M = M ∧ A = A ∧ X = X ∧ Y = Y ∧ Q = Q ∧ True) ∧ ((Int.tmod (IntKind.wrap IntKind.i64 A) (PgS.m s) = PgS.a s ∧ ((64 : Nat) ≤ (64 : Nat) ∨ Int.natAbs (Int.tmod (IntKind.wrap IntKind.i64 A) (PgS.m s)) < (2 : Nat) ^ (64 : Nat))) ∧ (curveI (PgS.m s) (Int.tmod (IntKind.wrap IntKind.i64 A) (PgS.m s)) (Int.tmod (IntKind.wrap IntKind.i64 X) (PgS.m s)) (Int.tmod (IntKind.wrap IntKind.i64 Y) (PgS.m s)) = PgS.b s ∧ ((64 : Nat) ≤ (64 : Nat) ∨ Int.natAbs (curveI (PgS.m s) (Int.tmod (IntKind.wrap IntKind.i64 A) (PgS.m s)) (Int.tmod (IntKind.wrap IntKind.i64 X) (PgS.m s)) (Int.tmod (IntKind.wrap IntKind.i64 Y) (PgS.m s))) < (2 : Nat) ^ (64 : Nat))) ∧ (PgS.m s = PgS.m s ∧ ((64 : Nat) ≤ (64 : Nat) ∨ Int.natAbs (PgS.m s) < (2 : Nat) ^ (64 : Nat))) ∧ True) ∧ True) ∧ ∀ (i : Bool), i = true → (((64 : Nat) ≤ (200 : Nat) ∧ (64 : Nat) ≤ (200 : Nat) ∧ (64 : Nat) ≤ (200 : Nat)) ∧ bif !nonsB (PgS.a s) (PgS.b s) (PgS.m s) then true = true else ∃ i, (i = true ∧ nonsB (PgS.a s) (PgS.b s) (PgS.m s) = true) ∧ (k = k ∧ (0 : Nat) = (0 : Nat) ∧ false = false ∧ true = true ∧ PgS.m s = PgS.m s ∧ (0 : Nat) = (0 : Nat) ∧ True) ∧ (M = M ∧ A = A ∧ X = X ∧ Y = Y ∧ Q = Q ∧ True) ∧ ((PgS.a s = PgS.a s ∧ ((64 : Nat) ≤ (64 : Nat) ∨ Int.natAbs (PgS.a s) < (2 : Nat) ^ (64 : Nat))) ∧ (PgS.b s = PgS.b s ∧ ((64 : Nat) ≤ (64 : Nat) ∨ Int.natAbs (PgS.b s) < (2 : Nat) ^ (64 : Nat))) ∧ (PgS.m s = PgS.m s ∧ ((64 : Nat) ≤ (64 : Nat) ∨ Int.natAbs (PgS.m s) < (2 : Nat) ^ (64 : Nat))) ∧ True) ∧ True) ∧ ∀ (i : Bool), i = true ∧ nonsB (PgS.a s) (PgS.b s) (PgS.m s) = true → (((64 : Nat) ≤ (200 : Nat) ∧ (64 : Nat) ≤ (200 : Nat) ∧ (64 : Nat) ≤ (200 : Nat) ∧ (1 : Int) ≤ PgS.m s ∧ PgS.m s ≤ (1000 : Int)) ∧ ∃ i, (i = true ∧ nonsB (PgS.a s) (PgS.b s) (PgS.m s) = true) ∧ (k = k ∧ (0 : Nat) = (0 : Nat) ∧ false = false ∧ true = true ∧ PgS.m s = PgS.m s ∧ (0 : Nat) = (0 : Nat) ∧ ((5 : Nat) = (5 : Nat) ∧ List.length (ptsI (PgS.a s) (PgS.b s) (PgS.m s)) = List.length (ptsI (PgS.a s) (PgS.b s) (PgS.m s)) ∧ LeFun (List.length (ptsI (PgS.a s) (PgS.b s) (PgS.m s))) (ptF (ptsI (PgS.a s) (PgS.b s) (PgS.m s))) (ptF (ptsI (PgS.a s) (PgS.b s) (PgS.m s)))) ∧ True) ∧ (M = M ∧ A = A ∧ X = X ∧ Y = Y ∧ Q = Q ∧ True) ∧ ((PgS.a s = PgS.a s ∧ ((64 : Nat) ≤ (64 : Nat) ∨ Int.natAbs (PgS.a s) < (2 : Nat) ^ (64 : Nat))) ∧ (PgS.b s = PgS.b s ∧ ((64 : Nat) ≤ (64 : Nat) ∨ Int.natAbs (PgS.b s) < (2 : Nat) ^ (64 : Nat))) ∧ (PgS.m s = PgS.m s ∧ ((64 : Nat) ≤ (64 : Nat) ∨ Int.natAbs (PgS.m s) < (2 : Nat) ^ (64 : Nat))) ∧ True) ∧ True) ∧ ∀ (i : Bool), i = true ∧ nonsB (PgS.a s) (PgS.b s) (PgS.m s) = true → ((PgS.m s = (0 : Int) → False) ∧ (PgS.m s = (0 : Int) → False) ∧ ((-9223372036854775808 : Int) ≤ Int.tmod (IntKind.wrap IntKind.i64 X) (PgS.m s) ∧ Int.tmod (IntKind.wrap IntKind.i64 X) (PgS.m s) ≤ (9223372036854775807 : Int) ∧ (-9223372036854775808 : Int) ≤ Int.tmod (IntKind.wrap IntKind.i64 Y) (PgS.m s) ∧ Int.tmod (IntKind.wrap IntKind.i64 Y) (PgS.m s) ≤ (9223372036854775807 : Int)) ∧ ((↑(List.length (ptsI (PgS.a s) (PgS.b s) (PgS.m s))) : Int) = (0 : Int) → False) ∧ ((0 : Int) ≤ Int.tmod (IntKind.wrap IntKind.i64 Q) (↑(List.length (ptsI (PgS.a s) (PgS.b s) (PgS.m s))) : Int) ∧ Int.tmod (IntKind.wrap IntKind.i64 Q) (↑(List.length (ptsI (PgS.a s) (PgS.b s) (PgS.m s))) : Int) < (↑(List.length (ptsI (PgS.a s) (PgS.b s) (PgS.m s))) : Int)) ∧ ((↑(List.length (ptsI (PgS.a s) (PgS.b s) (PgS.m s))) : Int) = (0 : Int) → False) ∧ ((0 : Int) ≤ Int.tmod (IntKind.wrap IntKind.i64 k) (↑(List.length (ptsI (PgS.a s) (PgS.b s) (PgS.m s))) : Int) ∧ Int.tmod (IntKind.wrap IntKind.i64 k) (↑(List.length (ptsI (PgS.a s) (PgS.b s) (PgS.m s))) : Int) < (↑(List.length (ptsI (PgS.a s) (PgS.b s) (PgS.m s))) : Int)) ∧ ∃ i, (i = true ∧ nonsB (PgS.a s) (PgS.b s) (PgS.m s) = true) ∧ (k = k ∧ (0 : Nat) = (0 : Nat) ∧ false = false ∧ true = true ∧ PgS.m s = PgS.m s ∧ (0 : Nat) = (0 : Nat) ∧ (0 : Nat) = (0 : Nat) ∧ (0 : Nat) = (0 : Nat) ∧ (0 : Nat) = (0 : Nat) ∧ True) ∧ (M = M ∧ A = A ∧ X = X ∧ Y = Y ∧ Q = Q ∧ True) ∧ ((PgS.a s = PgS.a s ∧ ((64 : Nat) ≤ (64 : Nat) ∨ Int.natAbs (PgS.a s) < (2 : Nat) ^ (64 : Nat))) ∧ (PgS.b s = PgS.b s ∧ ((64 : Nat) ≤ (64 : Nat) ∨ Int.natAbs (PgS.b s) < (2 : Nat) ^ (64 : Nat))) ∧ (PgS.m s = PgS.m s ∧ ((64 : Nat) ≤ (64 : Nat) ∨ Int.natAbs (PgS.m s) < (2 : Nat) ^ (64 : Nat))) ∧ True) ∧ ((Int.tmod (IntKind.wrap IntKind.i64 X) (PgS.m s) = PgS.X s ∧ ((64 : Nat) ≤ (64 : Nat) ∨ Int.natAbs (Int.tmod (IntKind.wrap IntKind.i64 X) (PgS.m s)) < (2 : Nat) ^ (64 : Nat))) ∧ (Int.tmod (IntKind.wrap IntKind.i64 Y) (PgS.m s) = PgS.Y s ∧ ((64 : Nat) ≤ (64 : Nat) ∨ Int.natAbs (Int.tmod (IntKind.wrap IntKind.i64 Y) (PgS.m s)) < (2 : Nat) ^ (64 : Nat))) ∧ false = false ∧ True) ∧ ((Prod.fst (List.getD (ptsI (PgS.a s) (PgS.b s) (PgS.m s)) (Int.toNat (Int.tmod (IntKind.wrap IntKind.i64 Q) (↑(List.length (ptsI (PgS.a s) (PgS.b s) (PgS.m s))) : Int))) ((0 : Int), (0 : Int), true)) = Prod.fst (PgS.Q s) ∧ ((64 : Nat) ≤ (64 : Nat) ∨ Int.natAbs (Prod.fst (List.getD (ptsI (PgS.a s) (PgS.b s) (PgS.m s)) (Int.toNat (Int.tmod (IntKind.wrap IntKind.i64 Q) (↑(List.length (ptsI (PgS.a s) (PgS.b s) (PgS.m s))) : Int))) ((0 : Int), (0 : Int), true))) < (2 : Nat) ^ (64 : Nat))) ∧ (Prod.fst (Prod.snd (List.getD (ptsI (PgS.a s) (PgS.b s) (PgS.m s)) (Int.toNat (Int.tmod (IntKind.wrap IntKind.i64 Q) (↑(List.length (ptsI (PgS.a s) (PgS.b s) (PgS.m s))) : Int))) ((0 : Int), (0 : Int), true))) = Prod.fst (Prod.snd (PgS.Q s)) ∧ ((64 : Nat) ≤ (64 : Nat) ∨ Int.natAbs (Prod.fst (Prod.snd (List.getD (ptsI (PgS.a s) (PgS.b s) (PgS.m s)) (Int.toNat (Int.tmod (IntKind.wrap IntKind.i64 Q) (↑(List.length (ptsI (PgS.a s) (PgS.b s) (PgS.m s))) : Int))) ((0 : Int), (0 : Int), true)))) < (2 : Nat) ^ (64 : Nat))) ∧ Prod.snd (Prod.snd (List.getD (ptsI (PgS.a s) (PgS.b s) (PgS.m s)) (Int.toNat (Int.tmod (IntKind.wrap IntKind.i64 Q) (↑(List.length (ptsI (PgS.a s) (PgS.b s) (PgS.m s))) : Int))) ((0 : Int), (0 : Int), true))) = Prod.snd (Prod.snd (PgS.Q s)) ∧ True) ∧ ((Prod.fst (List.getD (ptsI (PgS.a s) (PgS.b s) (PgS.m s)) (Int.toNat (Int.tmod (IntKind.wrap IntKind.i64 k) (↑(List.length (ptsI (PgS.a s) (PgS.b s) (PgS.m s))) : Int))) ((0 : Int), (0 : Int), true)) = Prod.fst (PgS.R s) ∧ ((64 : Nat) ≤ (64 : Nat) ∨ Int.natAbs (Prod.fst (List.getD (ptsI (PgS.a s) (PgS.b s) (PgS.m s)) (Int.toNat (Int.tmod (IntKind.wrap IntKind.i64 k) (↑(List.length (ptsI (PgS.a s) (PgS.b s) (PgS.m s))) : Int))) ((0 : Int), (0 : Int), true))) < (2 : Nat) ^ (64 : Nat))) ∧ (Prod.fst (Prod.snd (List.getD (ptsI (PgS.a s) (PgS.b s) (PgS.m s)) (Int.toNat (Int.tmod (IntKind.wrap IntKind.i64 k) (↑(List.length (ptsI (PgS.a s) (PgS.b s) (PgS.m s))) : Int))) ((0 : Int), (0 : Int), true))) = Prod.fst (Prod.snd (PgS.R s)) ∧ ((64 : Nat) ≤ (64 : Nat) ∨ Int.natAbs (Prod.fst (Prod.snd (List.getD (ptsI (PgS.a s) (PgS.b s) (PgS.m s)) (Int.toNat (Int.tmod (IntKind.wrap IntKind.i64 k) (↑(List.length (ptsI (PgS.a s) (PgS.b s) (PgS.m s))) : Int))) ((0 : Int), (0 : Int), true)))) < (2 : Nat) ^ (64 : Nat))) ∧ Prod.snd (Prod.snd (List.getD (ptsI (PgS.a s) (PgS.b s) (PgS.m s)) (Int.toNat (Int.tmod (IntKind.wrap IntKind.i64 k) (↑(List.length (ptsI (PgS.a s) (PgS.b s) (PgS.m s))) : Int))) ((0 : Int), (0 : Int), true))) = Prod.snd (Prod.snd (PgS.R s)) ∧ True) ∧ True) ∧ ∀ (i : Bool), i = true ∧ nonsB (PgS.a s) (PgS.b s) (PgS.m s) = true → (((64 : Nat) ≤ (200 : Nat) ∧ (64 : Nat) ≤ (200 : Nat) ∧ (64 : Nat) ≤ (200 : Nat) ∧ (64 : Nat) ≤ (200 : Nat) ∧ (64 : Nat) ≤ (200 : Nat) ∧ (64 : Nat) ≤ (200 : Nat) ∧ (64 : Nat) ≤ (200 : Nat)) ∧ ((64 : Nat) ≤ (200 : Nat) ∧ (64 : Nat) ≤ (200 : Nat) ∧ (64 : Nat) ≤ (200 : Nat) ∧ (64 : Nat) ≤ (200 : Nat) ∧ (64 : Nat) ≤ (200 : Nat) ∧ (64 : Nat) ≤ (200 : Nat) ∧ (64 : Nat) ≤ (200 : Nat)) ∧ ((64 : Nat) ≤ (200 : Nat) ∧ (64 : Nat) ≤ (200 : Nat) ∧ (64 : Nat) ≤ (200 : Nat) ∧ (64 : Nat) ≤ (200 : Nat) ∧ (64 : Nat) ≤ (200 : Nat) ∧ (64 : Nat) ≤ (200 : Nat) ∧ (64 : Nat) ≤ (200 : Nat)) ∧ ∃ i, (i = true ∧ nonsB (PgS.a s) (PgS.b s) (PgS.m s) = true) ∧ (k = k ∧ (0 : Nat) = (0 : Nat) ∧ false = false ∧ true = true ∧ PgS.m s = PgS.m s ∧ (0 : Nat) = (0 : Nat) ∧ (0 : Nat) = (0 : Nat) ∧ (0 : Nat) = (0 : Nat) ∧ (0 : Nat) = (0 : Nat) ∧ (0 : Nat) = (0 : Nat) ∧ (0 : Nat) = (0 : Nat) ∧ (0 : Nat) = (0 : Nat) ∧ True) ∧ (M = M ∧ A = A ∧ X = X ∧ Y = Y ∧ Q = Q ∧ True) ∧ ((PgS.a s = PgS.a s ∧ ((64 : Nat) ≤ (64 : Nat) ∨ Int.natAbs (PgS.a s) < (2 : Nat) ^ (64 : Nat))) ∧ (PgS.b s = PgS.b s ∧ ((64 : Nat) ≤ (64 : Nat) ∨ Int.natAbs (PgS.b s) < (2 : Nat) ^ (64 : Nat))) ∧ (PgS.m s = PgS.m s ∧ ((64 : Nat) ≤ (64 : Nat) ∨ Int.natAbs (PgS.m s) < (2 : Nat) ^ (64 : Nat))) ∧ True) ∧ ((PgS.X s = PgS.X s ∧ ((64 : Nat) ≤ (64 : Nat) ∨ Int.natAbs (PgS.X s) < (2 : Nat) ^ (64 : Nat))) ∧ (PgS.Y s = PgS.Y s ∧ ((64 : Nat) ≤ (64 : Nat) ∨ Int.natAbs (PgS.Y s) < (2 : Nat) ^ (64 : Nat))) ∧ false = false ∧ True) ∧ ((Prod.fst (PgS.Q s) = Prod.fst (PgS.Q s) ∧ ((64 : Nat) ≤ (64 : Nat) ∨ Int.natAbs (Prod.fst (PgS.Q s)) < (2 : Nat) ^ (64 : Nat))) ∧ (Prod.fst (Prod.snd (PgS.Q s)) = Prod.fst (Prod.snd (PgS.Q s)) ∧ ((64 : Nat) ≤ (64 : Nat) ∨ Int.natAbs (Prod.fst (Prod.snd (PgS.Q s))) < (2 : Nat) ^ (64 : Nat))) ∧ Prod.snd (Prod.snd (PgS.Q s)) = Prod.snd (Prod.snd (PgS.Q s)) ∧ True) ∧ ((Prod.fst (PgS.R s) = Prod.fst (PgS.R s) ∧ ((64 : Nat) ≤ (64 : Nat) ∨ Int.natAbs (Prod.fst (PgS.R s)) < (2 : Nat) ^ (64 : Nat))) ∧ (Prod.fst (Prod.snd (PgS.R s)) = Prod.fst (Prod.snd (PgS.R s)) ∧ ((64 : Nat) ≤ (64 : Nat) ∨ Int.natAbs (Prod.fst (Prod.snd (PgS.R s))) < (2 : Nat) ^ (64 : Nat))) ∧ Prod.snd (Prod.snd (PgS.R s)) = Prod.snd (Prod.snd (PgS.R s)) ∧ True) ∧ (((RS.X (addI (PgS.a s) (PgS.b s) (PgS.m s) (PgS.X s) (PgS.Y s) false (Prod.fst (PgS.Q s)) (Prod.fst (Prod.snd (PgS.Q s))) (Prod.snd (Prod.snd (PgS.Q s)))) = RS.X (PgS.pq s) ∧ ((200 : Nat) ≤ (200 : Nat) ∨ Int.natAbs (RS.X (addI (PgS.a s) (PgS.b s) (PgS.m s) (PgS.X s) (PgS.Y s) false (Prod.fst (PgS.Q s)) (Prod.fst (Prod.snd (PgS.Q s))) (Prod.snd (Prod.snd (PgS.Q s))))) < (2 : Nat) ^ (200 : Nat))) ∧ (RS.Y (addI (PgS.a s) (PgS.b s) (PgS.m s) (PgS.X s) (PgS.Y s) false (Prod.fst (PgS.Q s)) (Prod.fst (Prod.snd (PgS.Q s))) (Prod.snd (Prod.snd (PgS.Q s)))) = RS.Y (PgS.pq s) ∧ ((200 : Nat) ≤ (200 : Nat) ∨ Int.natAbs (RS.Y (addI (PgS.a s) (PgS.b s) (PgS.m s) (PgS.X s) (PgS.Y s) false (Prod.fst (PgS.Q s)) (Prod.fst (Prod.snd (PgS.Q s))) (Prod.snd (Prod.snd (PgS.Q s))))) < (2 : Nat) ^ (200 : Nat))) ∧ RS.o (addI (PgS.a s) (PgS.b s) (PgS.m s) (PgS.X s) (PgS.Y s) false (Prod.fst (PgS.Q s)) (Prod.fst (Prod.snd (PgS.Q s))) (Prod.snd (Prod.snd (PgS.Q s)))) = RS.o (PgS.pq s) ∧ True) ∧ (RS.d (addI (PgS.a s) (PgS.b s) (PgS.m s) (PgS.X s) (PgS.Y s) false (Prod.fst (PgS.Q s)) (Prod.fst (Prod.snd (PgS.Q s))) (Prod.snd (Prod.snd (PgS.Q s)))) = RS.d (PgS.pq s) ∧ ((200 : Nat) ≤ (200 : Nat) ∨ Int.natAbs (RS.d (addI (PgS.a s) (PgS.b s) (PgS.m s) (PgS.X s) (PgS.Y s) false (Prod.fst (PgS.Q s)) (Prod.fst (Prod.snd (PgS.Q s))) (Prod.snd (Prod.snd (PgS.Q s))))) < (2 : Nat) ^ (200 : Nat))) ∧ RS.e (addI (PgS.a s) (PgS.b s) (PgS.m s) (PgS.X s) (PgS.Y s) false (Prod.fst (PgS.Q s)) (Prod.fst (Prod.snd (PgS.Q s))) (Prod.snd (Prod.snd (PgS.Q s)))) = RS.e (PgS.pq s) ∧ True) ∧ (((RS.X (addI (PgS.a s) (PgS.b s) (PgS.m s) (Prod.fst (PgS.Q s)) (Prod.fst (Prod.snd (PgS.Q s))) (Prod.snd (Prod.snd (PgS.Q s))) (PgS.X s) (PgS.Y s) false) = RS.X (PgS.qp s) ∧ ((200 : Nat) ≤ (200 : Nat) ∨ Int.natAbs (RS.X (addI (PgS.a s) (PgS.b s) (PgS.m s) (Prod.fst (PgS.Q s)) (Prod.fst (Prod.snd (PgS.Q s))) (Prod.snd (Prod.snd (PgS.Q s))) (PgS.X s) (PgS.Y s) false)) < (2 : Nat) ^ (200 : Nat))) ∧ (RS.Y (addI (PgS.a s) (PgS.b s) (PgS.m s) (Prod.fst (PgS.Q s)) (Prod.fst (Prod.snd (PgS.Q s))) (Prod.snd (Prod.snd (PgS.Q s))) (PgS.X s) (PgS.Y s) false) = RS.Y (PgS.qp s) ∧ ((200 : Nat) ≤ (200 : Nat) ∨ Int.natAbs (RS.Y (addI (PgS.a s) (PgS.b s) (PgS.m s) (Prod.fst (PgS.Q s)) (Prod.fst (Prod.snd (PgS.Q s))) (Prod.snd (Prod.snd (PgS.Q s))) (PgS.X s) (PgS.Y s) false)) < (2 : Nat) ^ (200 : Nat))) ∧ RS.o (addI (PgS.a s) (PgS.b s) (PgS.m s) (Prod.fst (PgS.Q s)) (Prod.fst (Prod.snd (PgS.Q s))) (Prod.snd (Prod.snd (PgS.Q s))) (PgS.X s) (PgS.Y s) false) = RS.o (PgS.qp s) ∧ True) ∧ (RS.d (addI (PgS.a s) (PgS.b s) (PgS.m s) (Prod.fst (PgS.Q s)) (Prod.fst (Prod.snd (PgS.Q s))) (Prod.snd (Prod.snd (PgS.Q s))) (PgS.X s) (PgS.Y s) false) = RS.d (PgS.qp s) ∧ ((200 : Nat) ≤ (200 : Nat) ∨ Int.natAbs (RS.d (addI (PgS.a s) (PgS.b s) (PgS.m s) (Prod.fst (PgS.Q s)) (Prod.fst (Prod.snd (PgS.Q s))) (Prod.snd (Prod.snd (PgS.Q s))) (PgS.X s) (PgS.Y s) false)) < (2 : Nat) ^ (200 : Nat))) ∧ RS.e (addI (PgS.a s) (PgS.b s) (PgS.m s) (Prod.fst (PgS.Q s)) (Prod.fst (Prod.snd (PgS.Q s))) (Prod.snd (Prod.snd (PgS.Q s))) (PgS.X s) (PgS.Y s) false) = RS.e (PgS.qp s) ∧ True) ∧ (((RS.X (addI (PgS.a s) (PgS.b s) (PgS.m s) (Prod.fst (PgS.Q s)) (Prod.fst (Prod.snd (PgS.Q s))) (Prod.snd (Prod.snd (PgS.Q s))) (Prod.fst (PgS.R s)) (Prod.fst (Prod.snd (PgS.R s))) (Prod.snd (Prod.snd (PgS.R s)))) = RS.X (PgS.qr s) ∧ ((200 : Nat) ≤ (200 : Nat) ∨ Int.natAbs (RS.X (addI (PgS.a s) (PgS.b s) (PgS.m s) (Prod.fst (PgS.Q s)) (Prod.fst (Prod.snd (PgS.Q s))) (Prod.snd (Prod.snd (PgS.Q s))) (Prod.fst (PgS.R s)) (Prod.fst (Prod.snd (PgS.R s))) (Prod.snd (Prod.snd (PgS.R s))))) < (2 : Nat) ^ (200 : Nat))) ∧ (RS.Y (addI (PgS.a s) (PgS.b s) (PgS.m s) (Prod.fst (PgS.Q s)) (Prod.fst (Prod.snd (PgS.Q s))) (Prod.snd (Prod.snd (PgS.Q s))) (Prod.fst (PgS.R s)) (Prod.fst (Prod.snd (PgS.R s))) (Prod.snd (Prod.snd (PgS.R s)))) = RS.Y (PgS.qr s) ∧ ((200 : Nat) ≤ (200 : Nat) ∨ Int.natAbs (RS.Y (addI (PgS.a s) (PgS.b s) (PgS.m s) (Prod.fst (PgS.Q s)) (Prod.fst (Prod.snd (PgS.Q s))) (Prod.snd (Prod.snd (PgS.Q s))) (Prod.fst (PgS.R s)) (Prod.fst (Prod.snd (PgS.R s))) (Prod.snd (Prod.snd (PgS.R s))))) < (2 : Nat) ^ (200 : Nat))) ∧ RS.o (addI (PgS.a s) (PgS.b s) (PgS.m s) (Prod.fst (PgS.Q s)) (Prod.fst (Prod.snd (PgS.Q s))) (Prod.snd (Prod.snd (PgS.Q s))) (Prod.fst (PgS.R s)) (Prod.fst (Prod.snd (PgS.R s))) (Prod.snd (Prod.snd (PgS.R s)))) = RS.o (PgS.qr s) ∧ True) ∧ (RS.d (addI (PgS.a s) (PgS.b s) (PgS.m s) (Prod.fst (PgS.Q s)) (Prod.fst (Prod.snd (PgS.Q s))) (Prod.snd (Prod.snd (PgS.Q s))) (Prod.fst (PgS.R s)) (Prod.fst (Prod.snd (PgS.R s))) (Prod.snd (Prod.snd (PgS.R s)))) = RS.d (PgS.qr s) ∧ ((200 : Nat) ≤ (200 : Nat) ∨ Int.natAbs (RS.d (addI (PgS.a s) (PgS.b s) (PgS.m s) (Prod.fst (PgS.Q s)) (Prod.fst (Prod.snd (PgS.Q s))) (Prod.snd (Prod.snd (PgS.Q s))) (Prod.fst (PgS.R s)) (Prod.fst (Prod.snd (PgS.R s))) (Prod.snd (Prod.snd (PgS.R s))))) < (2 : Nat) ^ (200 : Nat))) ∧ RS.e (addI (PgS.a s) (PgS.b s) (PgS.m s) (Prod.fst (PgS.Q s)) (Prod.fst (Prod.snd (PgS.Q s))) (Prod.snd (Prod.snd (PgS.Q s))) (Prod.fst (PgS.R s)) (Prod.fst (Prod.snd (PgS.R s))) (Prod.snd (Prod.snd (PgS.R s)))) = RS.e (PgS.qr s) ∧ True) ∧ True) ∧ ∀ (i : Bool), i = true ∧ nonsB (PgS.a s) (PgS.b s) (PgS.m s) = true → (bif RS.e (PgS.pq s) != (0 : Int) then false = true else bif RS.e (PgS.qp s) != (0 : Int) then false = true else bif RS.e (PgS.qr s) != (0 : Int) then false = true else ((200 : Nat) ≤ (1000 : Nat) ∧ (200 : Nat) ≤ (1000 : Nat) ∧ (200 : Nat) ≤ (1000 : Nat) ∧ (200 : Nat) ≤ (1000 : Nat)) ∧ bif !sameB (RS.X (PgS.pq s)) (RS.Y (PgS.pq s)) (RS.o (PgS.pq s)) (RS.X (PgS.qp s)) (RS.Y (PgS.qp s)) (RS.o (PgS.qp s)) then false = true else ((64 : Nat) ≤ (1000 : Nat) ∧ (64 : Nat) ≤ (1000 : Nat) ∧ (64 : Nat) ≤ (1000 : Nat) ∧ (200 : Nat) ≤ (1000 : Nat) ∧ (200 : Nat) ≤ (1000 : Nat)) ∧ bif !onB (PgS.a s) (PgS.b s) (PgS.m s) (RS.X (PgS.pq s)) (RS.Y (PgS.pq s)) (RS.o (PgS.pq s)) then false = true else ∃ i, (i = true ∧ nonsB (PgS.a s) (PgS.b s) (PgS.m s) = true) ∧ (k = k ∧ (0 : Nat) = (0 : Nat) ∧ false = false ∧ true = true ∧ PgS.m s = PgS.m s ∧ (0 : Nat) = (0 : Nat) ∧ (0 : Nat) = (0 : Nat) ∧ (0 : Nat) = (0 : Nat) ∧ (0 : Nat) = (0 : Nat) ∧ (0 : Nat) = (0 : Nat) ∧ (0 : Nat) = (0 : Nat) ∧ (0 : Nat) = (0 : Nat) ∧ True) ∧ (M = M ∧ A = A ∧ X = X ∧ Y = Y ∧ Q = Q ∧ True) ∧ ((PgS.a s = PgS.a s ∧ ((64 : Nat) ≤ (64 : Nat) ∨ Int.natAbs (PgS.a s) < (2 : Nat) ^ (64 : Nat))) ∧ (PgS.b s = PgS.b s ∧ ((64 : Nat) ≤ (64 : Nat) ∨ Int.natAbs (PgS.b s) < (2 : Nat) ^ (64 : Nat))) ∧ (PgS.m s = PgS.m s ∧ ((64 : Nat) ≤ (64 : Nat) ∨ Int.natAbs (PgS.m s) < (2 : Nat) ^ (64 : Nat))) ∧ True) ∧ ((PgS.X s = PgS.X s ∧ ((64 : Nat) ≤ (64 : Nat) ∨ Int.natAbs (PgS.X s) < (2 : Nat) ^ (64 : Nat))) ∧ (PgS.Y s = PgS.Y s ∧ ((64 : Nat) ≤ (64 : Nat) ∨ Int.natAbs (PgS.Y s) < (2 : Nat) ^ (64 : Nat))) ∧ false = false ∧ True) ∧ ((Prod.fst (PgS.Q s) = Prod.fst (PgS.Q s) ∧ ((64 : Nat) ≤ (64 : Nat) ∨ Int.natAbs (Prod.fst (PgS.Q s)) < (2 : Nat) ^ (64 : Nat))) ∧ (Prod.fst (Prod.snd (PgS.Q s)) = Prod.fst (Prod.snd (PgS.Q s)) ∧ ((64 : Nat) ≤ (64 : Nat) ∨ Int.natAbs (Prod.fst (Prod.snd (PgS.Q s))) < (2 : Nat) ^ (64 : Nat))) ∧ Prod.snd (Prod.snd (PgS.Q s)) = Prod.snd (Prod.snd (PgS.Q s)) ∧ True) ∧ ((Prod.fst (PgS.R s) = Prod.fst (PgS.R s) ∧ ((64 : Nat) ≤ (64 : Nat) ∨ Int.natAbs (Prod.fst (PgS.R s)) < (2 : Nat) ^ (64 : Nat))) ∧ (Prod.fst (Prod.snd (PgS.R s)) = Prod.fst (Prod.snd (PgS.R s)) ∧ ((64 : Nat) ≤ (64 : Nat) ∨ Int.natAbs (Prod.fst (Prod.snd (PgS.R s))) < (2 : Nat) ^ (64 : Nat))) ∧ Prod.snd (Prod.snd (PgS.R s)) = Prod.snd (Prod.snd (PgS.R s)) ∧ True) ∧ (((RS.X (PgS.pq s) = RS.X (PgS.pq s) ∧ ((200 : Nat) ≤ (200 : Nat) ∨ Int.natAbs (RS.X (PgS.pq s)) < (2 : Nat) ^ (200 : Nat))) ∧ (RS.Y (PgS.pq s) = RS.Y (PgS.pq s) ∧ ((200 : Nat) ≤ (200 : Nat) ∨ Int.natAbs (RS.Y (PgS.pq s)) < (2 : Nat) ^ (200 : Nat))) ∧ RS.o (PgS.pq s) = RS.o (PgS.pq s) ∧ True) ∧ (RS.d (PgS.pq s) = RS.d (PgS.pq s) ∧ ((200 : Nat) ≤ (200 : Nat) ∨ Int.natAbs (RS.d (PgS.pq s)) < (2 : Nat) ^ (200 : Nat))) ∧ RS.e (PgS.pq s) = RS.e (PgS.pq s) ∧ True) ∧ (((RS.X (PgS.qp s) = RS.X (PgS.qp s) ∧ ((200 : Nat) ≤ (200 : Nat) ∨ Int.natAbs (RS.X (PgS.qp s)) < (2 : Nat) ^ (200 : Nat))) ∧ (RS.Y (PgS.qp s) = RS.Y (PgS.qp s) ∧ ((200 : Nat) ≤ (200 : Nat) ∨ Int.natAbs (RS.Y (PgS.qp s)) < (2 : Nat) ^ (200 : Nat))) ∧ RS.o (PgS.qp s) = RS.o (PgS.qp s) ∧ True) ∧ (RS.d (PgS.qp s) = RS.d (PgS.qp s) ∧ ((200 : Nat) ≤ (200 : Nat) ∨ Int.natAbs (RS.d (PgS.qp s)) < (2 : Nat) ^ (200 : Nat))) ∧ RS.e (PgS.qp s) = RS.e (PgS.qp s) ∧ True) ∧ (((RS.X (PgS.qr s) = RS.X (PgS.qr s) ∧ ((200 : Nat) ≤ (200 : Nat) ∨ Int.natAbs (RS.X (PgS.qr s)) < (2 : Nat) ^ (200 : Nat))) ∧ (RS.Y (PgS.qr s) = RS.Y (PgS.qr s) ∧ ((200 : Nat) ≤ (200 : Nat) ∨ Int.natAbs (RS.Y (PgS.qr s)) < (2 : Nat) ^ (200 : Nat))) ∧ RS.o (PgS.qr s) = RS.o (PgS.qr s) ∧ True) ∧ (RS.d (PgS.qr s) = RS.d (PgS.qr s) ∧ ((200 : Nat) ≤ (200 : Nat) ∨ Int.natAbs (RS.d (PgS.qr s)) < (2 : Nat) ^ (200 : Nat))) ∧ RS.e (PgS.qr s) = RS.e (PgS.qr s) ∧ True) ∧ True) ∧ ∀ (i : Bool), i = true ∧ nonsB (PgS.a s) (PgS.b s) (PgS.m s) = true → (((64 : Nat) ≤ (200 : Nat) ∧ (64 : Nat) ≤ (200 : Nat) ∧ (64 : Nat) ≤ (200 : Nat) ∧ (200 : Nat) ≤ (200 : Nat) ∧ (200 : Nat) ≤ (200 : Nat) ∧ (64 : Nat) ≤ (200 : Nat) ∧ (64 : Nat) ≤ (200 : Nat)) ∧ ((64 : Nat) ≤ (200 : Nat) ∧ (64 : Nat) ≤ (200 : Nat) ∧ (64 : Nat) ≤ (200 : Nat) ∧ (64 : Nat) ≤ (200 : Nat) ∧ (64 : Nat) ≤ (200 : Nat) ∧ (200 : Nat) ≤ (200 : Nat) ∧ (200 : Nat) ≤ (200 : Nat)) ∧ ∃ i, (i = true ∧ nonsB (PgS.a s) (PgS.b s) (PgS.m s) = true) ∧ (k = k ∧ (0 : Nat) = (0 : Nat) ∧ false = false ∧ true = true ∧ PgS.m s = PgS.m s ∧ (0 : Nat) = (0 : Nat) ∧ (0 : Nat) = (0 : Nat) ∧ (0 : Nat) = (0 : Nat) ∧ (0 : Nat) = (0 : Nat) ∧ (0 : Nat) = (0 : Nat) ∧ (0 : Nat) = (0 : Nat) ∧ (0 : Nat) = (0 : Nat) ∧ (0 : Nat) = (0 : Nat) ∧ (0 : Nat) = (0 : Nat) ∧ True) ∧ (M = M ∧ A = A ∧ X = X ∧ Y = Y ∧ Q = Q ∧ True) ∧ ((PgS.a s = PgS.a s ∧ ((64 : Nat) ≤ (64 : Nat) ∨ Int.natAbs (PgS.a s) < (2 : Nat) ^ (64 : Nat))) ∧ (PgS.b s = PgS.b s ∧ ((64 : Nat) ≤ (64 : Nat) ∨ Int.natAbs (PgS.b s) < (2 : Nat) ^ (64 : Nat))) ∧ (PgS.m s = PgS.m s ∧ ((64 : Nat) ≤ (64 : Nat) ∨ Int.natAbs (PgS.m s) < (2 : Nat) ^ (64 : Nat))) ∧ True) ∧ ((PgS.X s = PgS.X s ∧ ((64 : Nat) ≤ (64 : Nat) ∨ Int.natAbs (PgS.X s) < (2 : Nat) ^ (64 : Nat))) ∧ (PgS.Y s = PgS.Y s ∧ ((64 : Nat) ≤ (64 : Nat) ∨ Int.natAbs (PgS.Y s) < (2 : Nat) ^ (64 : Nat))) ∧ false = false ∧ True) ∧ ((Prod.fst (PgS.Q s) = Prod.fst (PgS.Q s) ∧ ((64 : Nat) ≤ (64 : Nat) ∨ Int.natAbs (Prod.fst (PgS.Q s)) < (2 : Nat) ^ (64 : Nat))) ∧ (Prod.fst (Prod.snd (PgS.Q s)) = Prod.fst (Prod.snd (PgS.Q s)) ∧ ((64 : Nat) ≤ (64 : Nat) ∨ Int.natAbs (Prod.fst (Prod.snd (PgS.Q s))) < (2 : Nat) ^ (64 : Nat))) ∧ Prod.snd (Prod.snd (PgS.Q s)) = Prod.snd (Prod.snd (PgS.Q s)) ∧ True) ∧ ((Prod.fst (PgS.R s) = Prod.fst (PgS.R s) ∧ ((64 : Nat) ≤ (64 : Nat) ∨ Int.natAbs (Prod.fst (PgS.R s)) < (2 : Nat) ^ (64 : Nat))) ∧ (Prod.fst (Prod.snd (PgS.R s)) = Prod.fst (Prod.snd (PgS.R s)) ∧ ((64 : Nat) ≤ (64 : Nat) ∨ Int.natAbs (Prod.fst (Prod.snd (PgS.R s))) < (2 : Nat) ^ (64 : Nat))) ∧ Prod.snd (Prod.snd (PgS.R s)) = Prod.snd (Prod.snd (PgS.R s)) ∧ True) ∧ (((RS.X (PgS.pq s) = RS.X (PgS.pq s) ∧ ((200 : Nat) ≤ (200 : Nat) ∨ Int.natAbs (RS.X (PgS.pq s)) < (2 : Nat) ^ (200 : Nat))) ∧ (RS.Y (PgS.pq s) = RS.Y (PgS.pq s) ∧ ((200 : Nat) ≤ (200 : Nat) ∨ Int.natAbs (RS.Y (PgS.pq s)) < (2 : Nat) ^ (200 : Nat))) ∧ RS.o (PgS.pq s) = RS.o (PgS.pq s) ∧ True) ∧ (RS.d (PgS.pq s) = RS.d (PgS.pq s) ∧ ((200 : Nat) ≤ (200 : Nat) ∨ Int.natAbs (RS.d (PgS.pq s)) < (2 : Nat) ^ (200 : Nat))) ∧ RS.e (PgS.pq s) = RS.e (PgS.pq s) ∧ True) ∧ (((RS.X (PgS.qp s) = RS.X (PgS.qp s) ∧ ((200 : Nat) ≤ (200 : Nat) ∨ Int.natAbs (RS.X (PgS.qp s)) < (2 : Nat) ^ (200 : Nat))) ∧ (RS.Y (PgS.qp s) = RS.Y (PgS.qp s) ∧ ((200 : Nat) ≤ (200 : Nat) ∨ Int.natAbs (RS.Y (PgS.qp s)) < (2 : Nat) ^ (200 : Nat))) ∧ RS.o (PgS.qp s) = RS.o (PgS.qp s) ∧ True) ∧ (RS.d (PgS.qp s) = RS.d (PgS.qp s) ∧ ((200 : Nat) ≤ (200 : Nat) ∨ Int.natAbs (RS.d (PgS.qp s)) < (2 : Nat) ^ (200 : Nat))) ∧ RS.e (PgS.qp s) = RS.e (PgS.qp s) ∧ True) ∧ (((RS.X (PgS.qr s) = RS.X (PgS.qr s) ∧ ((200 : Nat) ≤ (200 : Nat) ∨ Int.natAbs (RS.X (PgS.qr s)) < (2 : Nat) ^ (200 : Nat))) ∧ (RS.Y (PgS.qr s) = RS.Y (PgS.qr s) ∧ ((200 : Nat) ≤ (200 : Nat) ∨ Int.natAbs (RS.Y (PgS.qr s)) < (2 : Nat) ^ (200 : Nat))) ∧ RS.o (PgS.qr s) = RS.o (PgS.qr s) ∧ True) ∧ (RS.d (PgS.qr s) = RS.d (PgS.qr s) ∧ ((200 : Nat) ≤ (200 : Nat) ∨ Int.natAbs (RS.d (PgS.qr s)) < (2 : Nat) ^ (200 : Nat))) ∧ RS.e (PgS.qr s) = RS.e (PgS.qr s) ∧ True) ∧ (((RS.X (addI (PgS.a s) (PgS.b s) (PgS.m s) (RS.X (PgS.pq s)) (RS.Y (PgS.pq s)) (RS.o (PgS.pq s)) (Prod.fst (PgS.R s)) (Prod.fst (Prod.snd (PgS.R s))) (Prod.snd (Prod.snd (PgS.R s)))) = RS.X (PgS.one s) ∧ ((200 : Nat) ≤ (200 : Nat) ∨ Int.natAbs (RS.X (addI (PgS.a s) (PgS.b s) (PgS.m s) (RS.X (PgS.pq s)) (RS.Y (PgS.pq s)) (RS.o (PgS.pq s)) (Prod.fst (PgS.R s)) (Prod.fst (Prod.snd (PgS.R s))) (Prod.snd (Prod.snd (PgS.R s))))) < (2 : Nat) ^ (200 : Nat))) ∧ (RS.Y (addI (PgS.a s) (PgS.b s) (PgS.m s) (RS.X (PgS.pq s)) (RS.Y (PgS.pq s)) (RS.o (PgS.pq s)) (Prod.fst (PgS.R s)) (Prod.fst (Prod.snd (PgS.R s))) (Prod.snd (Prod.snd (PgS.R s)))) = RS.Y (PgS.one s) ∧ ((200 : Nat) ≤ (200 : Nat) ∨ Int.natAbs (RS.Y (addI (PgS.a s) (PgS.b s) (PgS.m s) (RS.X (PgS.pq s)) (RS.Y (PgS.pq s)) (RS.o (PgS.pq s)) (Prod.fst (PgS.R s)) (Prod.fst (Prod.snd (PgS.R s))) (Prod.snd (Prod.snd (PgS.R s))))) < (2 : Nat) ^ (200 : Nat))) ∧ RS.o (addI (PgS.a s) (PgS.b s) (PgS.m s) (RS.X (PgS.pq s)) (RS.Y (PgS.pq s)) (RS.o (PgS.pq s)) (Prod.fst (PgS.R s)) (Prod.fst (Prod.snd (PgS.R s))) (Prod.snd (Prod.snd (PgS.R s)))) = RS.o (PgS.one s) ∧ True) ∧ (RS.d (addI (PgS.a s) (PgS.b s) (PgS.m s) (RS.X (PgS.pq s)) (RS.Y (PgS.pq s)) (RS.o (PgS.pq s)) (Prod.fst (PgS.R s)) (Prod.fst (Prod.snd (PgS.R s))) (Prod.snd (Prod.snd (PgS.R s)))) = RS.d (PgS.one s) ∧ ((200 : Nat) ≤ (200 : Nat) ∨ Int.natAbs (RS.d (addI (PgS.a s) (PgS.b s) (PgS.m s) (RS.X (PgS.pq s)) (RS.Y (PgS.pq s)) (RS.o (PgS.pq s)) (Prod.fst (PgS.R s)) (Prod.fst (Prod.snd (PgS.R s))) (Prod.snd (Prod.snd (PgS.R s))))) < (2 : Nat) ^ (200 : Nat))) ∧ RS.e (addI (PgS.a s) (PgS.b s) (PgS.m s) (RS.X (PgS.pq s)) (RS.Y (PgS.pq s)) (RS.o (PgS.pq s)) (Prod.fst (PgS.R s)) (Prod.fst (Prod.snd (PgS.R s))) (Prod.snd (Prod.snd (PgS.R s)))) = RS.e (PgS.one s) ∧ True) ∧ (((RS.X (addI (PgS.a s) (PgS.b s) (PgS.m s) (PgS.X s) (PgS.Y s) false (RS.X (PgS.qr s)) (RS.Y (PgS.qr s)) (RS.o (PgS.qr s))) = RS.X (PgS.two s) ∧ ((200 : Nat) ≤ (200 : Nat) ∨ Int.natAbs (RS.X (addI (PgS.a s) (PgS.b s) (PgS.m s) (PgS.X s) (PgS.Y s) false (RS.X (PgS.qr s)) (RS.Y (PgS.qr s)) (RS.o (PgS.qr s)))) < (2 : Nat) ^ (200 : Nat))) ∧ (RS.Y (addI (PgS.a s) (PgS.b s) (PgS.m s) (PgS.X s) (PgS.Y s) false (RS.X (PgS.qr s)) (RS.Y (PgS.qr s)) (RS.o (PgS.qr s))) = RS.Y (PgS.two s) ∧ ((200 : Nat) ≤ (200 : Nat) ∨ Int.natAbs (RS.Y (addI (PgS.a s) (PgS.b s) (PgS.m s) (PgS.X s) (PgS.Y s) false (RS.X (PgS.qr s)) (RS.Y (PgS.qr s)) (RS.o (PgS.qr s)))) < (2 : Nat) ^ (200 : Nat))) ∧ RS.o (addI (PgS.a s) (PgS.b s) (PgS.m s) (PgS.X s) (PgS.Y s) false (RS.X (PgS.qr s)) (RS.Y (PgS.qr s)) (RS.o (PgS.qr s))) = RS.o (PgS.two s) ∧ True) ∧ (RS.d (addI (PgS.a s) (PgS.b s) (PgS.m s) (PgS.X s) (PgS.Y s) false (RS.X (PgS.qr s)) (RS.Y (PgS.qr s)) (RS.o (PgS.qr s))) = RS.d (PgS.two s) ∧ ((200 : Nat) ≤ (200 : Nat) ∨ Int.natAbs (RS.d (addI (PgS.a s) (PgS.b s) (PgS.m s) (PgS.X s) (PgS.Y s) false (RS.X (PgS.qr s)) (RS.Y (PgS.qr s)) (RS.o (PgS.qr s)))) < (2 : Nat) ^ (200 : Nat))) ∧ RS.e (addI (PgS.a s) (PgS.b s) (PgS.m s) (PgS.X s) (PgS.Y s) false (RS.X (PgS.qr s)) (RS.Y (PgS.qr s)) (RS.o (PgS.qr s))) = RS.e (PgS.two s) ∧ True) ∧ True) ∧ ∀ (i : Bool), i = true ∧ nonsB (PgS.a s) (PgS.b s) (PgS.m s) = true → (((64 : Nat) ≤ (200 : Nat) ∧ (64 : Nat) ≤ (200 : Nat) ∧ (64 : Nat) ≤ (200 : Nat) ∧ (64 : Nat) ≤ (200 : Nat) ∧ (64 : Nat) ≤ (200 : Nat)) ∧ ∃ i, (i = true ∧ nonsB (PgS.a s) (PgS.b s) (PgS.m s) = true) ∧ (k = k ∧ (0 : Nat) = (0 : Nat) ∧ false = false ∧ true = true ∧ PgS.m s = PgS.m s ∧ (0 : Nat) = (0 : Nat) ∧ (0 : Nat) = (0 : Nat) ∧ (0 : Nat) = (0 : Nat) ∧ (0 : Nat) = (0 : Nat) ∧ (0 : Nat) = (0 : Nat) ∧ (0 : Nat) = (0 : Nat) ∧ (0 : Nat) = (0 : Nat) ∧ (0 : Nat) = (0 : Nat) ∧ (0 : Nat) = (0 : Nat) ∧ (0 : Nat) = (0 : Nat) ∧ RS.e (negI (PgS.a s) (PgS.b s) (PgS.m s) (Prod.fst (PgS.R s)) (Prod.fst (Prod.snd (PgS.R s))) (Prod.snd (Prod.snd (PgS.R s)))) = RS.e (PgS.n s) ∧ True) ∧ (M = M ∧ A = A ∧ X = X ∧ Y = Y ∧ Q = Q ∧ True) ∧ ((PgS.a s = PgS.a s ∧ ((64 : Nat) ≤ (64 : Nat) ∨ Int.natAbs (PgS.a s) < (2 : Nat) ^ (64 : Nat))) ∧ (PgS.b s = PgS.b s ∧ ((64 : Nat) ≤ (64 : Nat) ∨ Int.natAbs (PgS.b s) < (2 : Nat) ^ (64 : Nat))) ∧ (PgS.m s = PgS.m s ∧ ((64 : Nat) ≤ (64 : Nat) ∨ Int.natAbs (PgS.m s) < (2 : Nat) ^ (64 : Nat))) ∧ True) ∧ ((PgS.X s = PgS.X s ∧ ((64 : Nat) ≤ (64 : Nat) ∨ Int.natAbs (PgS.X s) < (2 : Nat) ^ (64 : Nat))) ∧ (PgS.Y s = PgS.Y s ∧ ((64 : Nat) ≤ (64 : Nat) ∨ Int.natAbs (PgS.Y s) < (2 : Nat) ^ (64 : Nat))) ∧ false = false ∧ True) ∧ ((Prod.fst (PgS.Q s) = Prod.fst (PgS.Q s) ∧ ((64 : Nat) ≤ (64 : Nat) ∨ Int.natAbs (Prod.fst (PgS.Q s)) < (2 : Nat) ^ (64 : Nat))) ∧ (Prod.fst (Prod.snd (PgS.Q s)) = Prod.fst (Prod.snd (PgS.Q s)) ∧ ((64 : Nat) ≤ (64 : Nat) ∨ Int.natAbs (Prod.fst (Prod.snd (PgS.Q s))) < (2 : Nat) ^ (64 : Nat))) ∧ Prod.snd (Prod.snd (PgS.Q s)) = Prod.snd (Prod.snd (PgS.Q s)) ∧ True) ∧ ((Prod.fst (PgS.R s) = Prod.fst (PgS.R s) ∧ ((64 : Nat) ≤ (64 : Nat) ∨ Int.natAbs (Prod.fst (PgS.R s)) < (2 : Nat) ^ (64 : Nat))) ∧ (Prod.fst (Prod.snd (PgS.R s)) = Prod.fst (Prod.snd (PgS.R s)) ∧ ((64 : Nat) ≤ (64 : Nat) ∨ Int.natAbs (Prod.fst (Prod.snd (PgS.R s))) < (2 : Nat) ^ (64 : Nat))) ∧ Prod.snd (Prod.snd (PgS.R s)) = Prod.snd (Prod.snd (PgS.R s)) ∧ True) ∧ (((RS.X (PgS.pq s) = RS.X (PgS.pq s) ∧ ((200 : Nat) ≤ (200 : Nat) ∨ Int.natAbs (RS.X (PgS.pq s)) < (2 : Nat) ^ (200 : Nat))) ∧ (RS.Y (PgS.pq s) = RS.Y (PgS.pq s) ∧ ((200 : Nat) ≤ (200 : Nat) ∨ Int.natAbs (RS.Y (PgS.pq s)) < (2 : Nat) ^ (200 : Nat))) ∧ RS.o (PgS.pq s) = RS.o (PgS.pq s) ∧ True) ∧ (RS.d (PgS.pq s) = RS.d (PgS.pq s) ∧ ((200 : Nat) ≤ (200 : Nat) ∨ Int.natAbs (RS.d (PgS.pq s)) < (2 : Nat) ^ (200 : Nat))) ∧ RS.e (PgS.pq s) = RS.e (PgS.pq s) ∧ True) ∧ (((RS.X (PgS.qp s) = RS.X (PgS.qp s) ∧ ((200 : Nat) ≤ (200 : Nat) ∨ Int.natAbs (RS.X (PgS.qp s)) < (2 : Nat) ^ (200 : Nat))) ∧ (RS.Y (PgS.qp s) = RS.Y (PgS.qp s) ∧ ((200 : Nat) ≤ (200 : Nat) ∨ Int.natAbs (RS.Y (PgS.qp s)) < (2 : Nat) ^ (200 : Nat))) ∧ RS.o (PgS.qp s) = RS.o (PgS.qp s) ∧ True) ∧ (RS.d (PgS.qp s) = RS.d (PgS.qp s) ∧ ((200 : Nat) ≤ (200 : Nat) ∨ Int.natAbs (RS.d (PgS.qp s)) < (2 : Nat) ^ (200 : Nat))) ∧ RS.e (PgS.qp s) = RS.e (PgS.qp s) ∧ True) ∧ (((RS.X (PgS.qr s) = RS.X (PgS.qr s) ∧ ((200 : Nat) ≤ (200 : Nat) ∨ Int.natAbs (RS.X (PgS.qr s)) < (2 : Nat) ^ (200 : Nat))) ∧ (RS.Y (PgS.qr s) = RS.Y (PgS.qr s) ∧ ((200 : Nat) ≤ (200 : Nat) ∨ Int.natAbs (RS.Y (PgS.qr s)) < (2 : Nat) ^ (200 : Nat))) ∧ RS.o (PgS.qr s) = RS.o (PgS.qr s) ∧ True) ∧ (RS.d (PgS.qr s) = RS.d (PgS.qr s) ∧ ((200 : Nat) ≤ (200 : Nat) ∨ Int.natAbs (RS.d (PgS.qr s)) < (2 : Nat) ^ (200 : Nat))) ∧ RS.e (PgS.qr s) = RS.e (PgS.qr s) ∧ True) ∧ (((RS.X (PgS.one s) = RS.X (PgS.one s) ∧ ((200 : Nat) ≤ (200 : Nat) ∨ Int.natAbs (RS.X (PgS.one s)) < (2 : Nat) ^ (200 : Nat))) ∧ (RS.Y (PgS.one s) = RS.Y (PgS.one s) ∧ ((200 : Nat) ≤ (200 : Nat) ∨ Int.natAbs (RS.Y (PgS.one s)) < (2 : Nat) ^ (200 : Nat))) ∧ RS.o (PgS.one s) = RS.o (PgS.one s) ∧ True) ∧ (RS.d (PgS.one s) = RS.d (PgS.one s) ∧ ((200 : Nat) ≤ (200 : Nat) ∨ Int.natAbs (RS.d (PgS.one s)) < (2 : Nat) ^ (200 : Nat))) ∧ RS.e (PgS.one s) = RS.e (PgS.one s) ∧ True) ∧ (((RS.X (PgS.two s) = RS.X (PgS.two s) ∧ ((200 : Nat) ≤ (200 : Nat) ∨ Int.natAbs (RS.X (PgS.two s)) < (2 : Nat) ^ (200 : Nat))) ∧ (RS.Y (PgS.two s) = RS.Y (PgS.two s) ∧ ((200 : Nat) ≤ (200 : Nat) ∨ Int.natAbs (RS.Y (PgS.two s)) < (2 : Nat) ^ (200 : Nat))) ∧ RS.o (PgS.two s) = RS.o (PgS.two s) ∧ True) ∧ (RS.d (PgS.two s) = RS.d (PgS.two s) ∧ ((200 : Nat) ≤ (200 : Nat) ∨ Int.natAbs (RS.d (PgS.two s)) < (2 : Nat) ^ (200 : Nat))) ∧ RS.e (PgS.two s) = RS.e (PgS.two s) ∧ True) ∧ ((RS.X (negI (PgS.a s) (PgS.b s) (PgS.m s) (Prod.fst (PgS.R s)) (Prod.fst (Prod.snd (PgS.R s))) (Prod.snd (Prod.snd (PgS.R s)))) = RS.X (PgS.n s) ∧ ((200 : Nat) ≤ (200 : Nat) ∨ Int.natAbs (RS.X (negI (PgS.a s) (PgS.b s) (PgS.m s) (Prod.fst (PgS.R s)) (Prod.fst (Prod.snd (PgS.R s))) (Prod.snd (Prod.snd (PgS.R s))))) < (2 : Nat) ^ (200 : Nat))) ∧ (RS.Y (negI (PgS.a s) (PgS.b s) (PgS.m s) (Prod.fst (PgS.R s)) (Prod.fst (Prod.snd (PgS.R s))) (Prod.snd (Prod.snd (PgS.R s)))) = RS.Y (PgS.n s) ∧ ((200 : Nat) ≤ (200 : Nat) ∨ Int.natAbs (RS.Y (negI (PgS.a s) (PgS.b s) (PgS.m s) (Prod.fst (PgS.R s)) (Prod.fst (Prod.snd (PgS.R s))) (Prod.snd (Prod.snd (PgS.R s))))) < (2 : Nat) ^ (200 : Nat))) ∧ RS.o (negI (PgS.a s) (PgS.b s) (PgS.m s) (Prod.fst (PgS.R s)) (Prod.fst (Prod.snd (PgS.R s))) (Prod.snd (Prod.snd (PgS.R s)))) = RS.o (PgS.n s) ∧ True) ∧ True) ∧ ∀ (i : Bool), i = true ∧ nonsB (PgS.a s) (PgS.b s) (PgS.m s) = true → (((64 : Nat) ≤ (200 : Nat) ∧ (64 : Nat) ≤ (200 : Nat) ∧ (64 : Nat) ≤ (200 : Nat) ∧ (64 : Nat) ≤ (200 : Nat) ∧ (64 : Nat) ≤ (200 : Nat) ∧ (200 : Nat) ≤ (200 : Nat) ∧ (200 : Nat) ≤ (200 : Nat)) ∧ ((64 : Nat) ≤ (200 : Nat) ∧ (64 : Nat) ≤ (200 : Nat) ∧ (64 : Nat) ≤ (200 : Nat) ∧ (0 : Nat) ≤ (200 : Nat) ∧ (0 : Nat) ≤ (200 : Nat) ∧ (64 : Nat) ≤ (200 : Nat) ∧ (64 : Nat) ≤ (200 : Nat)) ∧ ∃ i, (i = true ∧ nonsB (PgS.a s) (PgS.b s) (PgS.m s) = true) ∧ (k = k ∧ (0 : Nat) = (0 : Nat) ∧ false = false ∧ true = true ∧ PgS.m s = PgS.m s ∧ (0 : Nat) = (0 : Nat) ∧ (0 : Nat) = (0 : Nat) ∧ (0 : Nat) = (0 : Nat) ∧ (0 : Nat) = (0 : Nat) ∧ (0 : Nat) = (0 : Nat) ∧ (0 : Nat) = (0 : Nat) ∧ (0 : Nat) = (0 : Nat) ∧ (0 : Nat) = (0 : Nat) ∧ (0 : Nat) = (0 : Nat) ∧ (0 : Nat) = (0 : Nat) ∧ RS.e (PgS.n s) = RS.e (PgS.n s) ∧ (0 : Nat) = (0 : Nat) ∧ (0 : Nat) = (0 : Nat) ∧ True) ∧ (M = M ∧ A = A ∧ X = X ∧ Y = Y ∧ Q = Q ∧ True) ∧ ((PgS.a s = PgS.a s ∧ ((64 : Nat) ≤ (64 : Nat) ∨ Int.natAbs (PgS.a s) < (2 : Nat) ^ (64 : Nat))) ∧ (PgS.b s = PgS.b s ∧ ((64 : Nat) ≤ (64 : Nat) ∨ Int.natAbs (PgS.b s) < (2 : Nat) ^ (64 : Nat))) ∧ (PgS.m s = PgS.m s ∧ ((64 : Nat) ≤ (64 : Nat) ∨ Int.natAbs (PgS.m s) < (2 : Nat) ^ (64 : Nat))) ∧ True) ∧ ((PgS.X s = PgS.X s ∧ ((64 : Nat) ≤ (64 : Nat) ∨ Int.natAbs (PgS.X s) < (2 : Nat) ^ (64 : Nat))) ∧ (PgS.Y s = PgS.Y s ∧ ((64 : Nat) ≤ (64 : Nat) ∨ Int.natAbs (PgS.Y s) < (2 : Nat) ^ (64 : Nat))) ∧ false = false ∧ True) ∧ ((Prod.fst (PgS.Q s) = Prod.fst (PgS.Q s) ∧ ((64 : Nat) ≤ (64 : Nat) ∨ Int.natAbs (Prod.fst (PgS.Q s)) < (2 : Nat) ^ (64 : Nat))) ∧ (Prod.fst (Prod.snd (PgS.Q s)) = Prod.fst (Prod.snd (PgS.Q s)) ∧ ((64 : Nat) ≤ (64 : Nat) ∨ Int.natAbs (Prod.fst (Prod.snd (PgS.Q s))) < (2 : Nat) ^ (64 : Nat))) ∧ Prod.snd (Prod.snd (PgS.Q s)) = Prod.snd (Prod.snd (PgS.Q s)) ∧ True) ∧ ((Prod.fst (PgS.R s) = Prod.fst (PgS.R s) ∧ ((64 : Nat) ≤ (64 : Nat) ∨ Int.natAbs (Prod.fst (PgS.R s)) < (2 : Nat) ^ (64 : Nat))) ∧ (Prod.fst (Prod.snd (PgS.R s)) = Prod.fst (Prod.snd (PgS.R s)) ∧ ((64 : Nat) ≤ (64 : Nat) ∨ Int.natAbs (Prod.fst (Prod.snd (PgS.R s))) < (2 : Nat) ^ (64 : Nat))) ∧ Prod.snd (Prod.snd (PgS.R s)) = Prod.snd (Prod.snd (PgS.R s)) ∧ True) ∧ (((RS.X (PgS.pq s) = RS.X (PgS.pq s) ∧ ((200 : Nat) ≤ (200 : Nat) ∨ Int.natAbs (RS.X (PgS.pq s)) < (2 : Nat) ^ (200 : Nat))) ∧ (RS.Y (PgS.pq s) = RS.Y (PgS.pq s) ∧ ((200 : Nat) ≤ (200 : Nat) ∨ Int.natAbs (RS.Y (PgS.pq s)) < (2 : Nat) ^ (200 : Nat))) ∧ RS.o (PgS.pq s) = RS.o (PgS.pq s) ∧ True) ∧ (RS.d (PgS.pq s) = RS.d (PgS.pq s) ∧ ((200 : Nat) ≤ (200 : Nat) ∨ Int.natAbs (RS.d (PgS.pq s)) < (2 : Nat) ^ (200 : Nat))) ∧ RS.e (PgS.pq s) = RS.e (PgS.pq s) ∧ True) ∧ (((RS.X (PgS.qp s) = RS.X (PgS.qp s) ∧ ((200 : Nat) ≤ (200 : Nat) ∨ Int.natAbs (RS.X (PgS.qp s)) < (2 : Nat) ^ (200 : Nat))) ∧ (RS.Y (PgS.qp s) = RS.Y (PgS.qp s) ∧ ((200 : Nat) ≤ (200 : Nat) ∨ Int.natAbs (RS.Y (PgS.qp s)) < (2 : Nat) ^ (200 : Nat))) ∧ RS.o (PgS.qp s) = RS.o (PgS.qp s) ∧ True) ∧ (RS.d (PgS.qp s) = RS.d (PgS.qp s) ∧ ((200 : Nat) ≤ (200 : Nat) ∨ Int.natAbs (RS.d (PgS.qp s)) < (2 : Nat) ^ (200 : Nat))) ∧ RS.e (PgS.qp s) = RS.e (PgS.qp s) ∧ True) ∧ (((RS.X (PgS.qr s) = RS.X (PgS.qr s) ∧ ((200 : Nat) ≤ (200 : Nat) ∨ Int.natAbs (RS.X (PgS.qr s)) < (2 : Nat) ^ (200 : Nat))) ∧ (RS.Y (PgS.qr s) = RS.Y (PgS.qr s) ∧ ((200 : Nat) ≤ (200 : Nat) ∨ Int.natAbs (RS.Y (PgS.qr s)) < (2 : Nat) ^ (200 : Nat))) ∧ RS.o (PgS.qr s) = RS.o (PgS.qr s) ∧ True) ∧ (RS.d (PgS.qr s) = RS.d (PgS.qr s) ∧ ((200 : Nat) ≤ (200 : Nat) ∨ Int.natAbs (RS.d (PgS.qr s)) < (2 : Nat) ^ (200 : Nat))) ∧ RS.e (PgS.qr s) = RS.e (PgS.qr s) ∧ True) ∧ (((RS.X (PgS.one s) = RS.X (PgS.one s) ∧ ((200 : Nat) ≤ (200 : Nat) ∨ Int.natAbs (RS.X (PgS.one s)) < (2 : Nat) ^ (200 : Nat))) ∧ (RS.Y (PgS.one s) = RS.Y (PgS.one s) ∧ ((200 : Nat) ≤ (200 : Nat) ∨ Int.natAbs (RS.Y (PgS.one s)) < (2 : Nat) ^ (200 : Nat))) ∧ RS.o (PgS.one s) = RS.o (PgS.one s) ∧ True) ∧ (RS.d (PgS.one s) = RS.d (PgS.one s) ∧ ((200 : Nat) ≤ (200 : Nat) ∨ Int.natAbs (RS.d (PgS.one s)) < (2 : Nat) ^ (200 : Nat))) ∧ RS.e (PgS.one s) = RS.e (PgS.one s) ∧ True) ∧ (((RS.X (PgS.two s) = RS.X (PgS.two s) ∧ ((200 : Nat) ≤ (200 : Nat) ∨ Int.natAbs (RS.X (PgS.two s)) < (2 : Nat) ^ (200 : Nat))) ∧ (RS.Y (PgS.two s) = RS.Y (PgS.two s) ∧ ((200 : Nat) ≤ (200 : Nat) ∨ Int.natAbs (RS.Y (PgS.two s)) < (2 : Nat) ^ (200 : Nat))) ∧ RS.o (PgS.two s) = RS.o (PgS.two s) ∧ True) ∧ (RS.d (PgS.two s) = RS.d (PgS.two s) ∧ ((200 : Nat) ≤ (200 : Nat) ∨ Int.natAbs (RS.d (PgS.two s)) < (2 : Nat) ^ (200 : Nat))) ∧ RS.e (PgS.two s) = RS.e (PgS.two s) ∧ True) ∧ ((RS.X (PgS.n s) = RS.X (PgS.n s) ∧ ((200 : Nat) ≤ (200 : Nat) ∨ Int.natAbs (RS.X (PgS.n s)) < (2 : Nat) ^ (200 : Nat))) ∧ (RS.Y (PgS.n s) = RS.Y (PgS.n s) ∧ ((200 : Nat) ≤ (200 : Nat) ∨ Int.natAbs (RS.Y (PgS.n s)) < (2 : Nat) ^ (200 : Nat))) ∧ RS.o (PgS.n s) = RS.o (PgS.n s) ∧ True) ∧ (((RS.X (addI (PgS.a s) (PgS.b s) (PgS.m s) (Prod.fst (PgS.R s)) (Prod.fst (Prod.snd (PgS.R s))) (Prod.snd (Prod.snd (PgS.R s))) (RS.X (PgS.n s)) (RS.Y (PgS.n s)) (RS.o (PgS.n s))) = RS.X (PgS.zero s) ∧ ((200 : Nat) ≤ (200 : Nat) ∨ Int.natAbs (RS.X (addI (PgS.a s) (PgS.b s) (PgS.m s) (Prod.fst (PgS.R s)) (Prod.fst (Prod.snd (PgS.R s))) (Prod.snd (Prod.snd (PgS.R s))) (RS.X (PgS.n s)) (RS.Y (PgS.n s)) (RS.o (PgS.n s)))) < (2 : Nat) ^ (200 : Nat))) ∧ (RS.Y (addI (PgS.a s) (PgS.b s) (PgS.m s) (Prod.fst (PgS.R s)) (Prod.fst (Prod.snd (PgS.R s))) (Prod.snd (Prod.snd (PgS.R s))) (RS.X (PgS.n s)) (RS.Y (PgS.n s)) (RS.o (PgS.n s))) = RS.Y (PgS.zero s) ∧ ((200 : Nat) ≤ (200 : Nat) ∨ Int.natAbs (RS.Y (addI (PgS.a s) (PgS.b s) (PgS.m s) (Prod.fst (PgS.R s)) (Prod.fst (Prod.snd (PgS.R s))) (Prod.snd (Prod.snd (PgS.R s))) (RS.X (PgS.n s)) (RS.Y (PgS.n s)) (RS.o (PgS.n s)))) < (2 : Nat) ^ (200 : Nat))) ∧ RS.o (addI (PgS.a s) (PgS.b s) (PgS.m s) (Prod.fst (PgS.R s)) (Prod.fst (Prod.snd (PgS.R s))) (Prod.snd (Prod.snd (PgS.R s))) (RS.X (PgS.n s)) (RS.Y (PgS.n s)) (RS.o (PgS.n s))) = RS.o (PgS.zero s) ∧ True) ∧ (RS.d (addI (PgS.a s) (PgS.b s) (PgS.m s) (Prod.fst (PgS.R s)) (Prod.fst (Prod.snd (PgS.R s))) (Prod.snd (Prod.snd (PgS.R s))) (RS.X (PgS.n s)) (RS.Y (PgS.n s)) (RS.o (PgS.n s))) = RS.d (PgS.zero s) ∧ ((200 : Nat) ≤ (200 : Nat) ∨ Int.natAbs (RS.d (addI (PgS.a s) (PgS.b s) (PgS.m s) (Prod.fst (PgS.R s)) (Prod.fst (Prod.snd (PgS.R s))) (Prod.snd (Prod.snd (PgS.R s))) (RS.X (PgS.n s)) (RS.Y (PgS.n s)) (RS.o (PgS.n s)))) < (2 : Nat) ^ (200 : Nat))) ∧ RS.e (addI (PgS.a s) (PgS.b s) (PgS.m s) (Prod.fst (PgS.R s)) (Prod.fst (Prod.snd (PgS.R s))) (Prod.snd (Prod.snd (PgS.R s))) (RS.X (PgS.n s)) (RS.Y (PgS.n s)) (RS.o (PgS.n s))) = RS.e (PgS.zero s) ∧ True) ∧ (((RS.X (addI (PgS.a s) (PgS.b s) (PgS.m s) (0 : Int) (0 : Int) true (Prod.fst (PgS.R s)) (Prod.fst (Prod.snd (PgS.R s))) (Prod.snd (Prod.snd (PgS.R s)))) = RS.X (PgS.same s) ∧ ((200 : Nat) ≤ (200 : Nat) ∨ Int.natAbs (RS.X (addI (PgS.a s) (PgS.b s) (PgS.m s) (0 : Int) (0 : Int) true (Prod.fst (PgS.R s)) (Prod.fst (Prod.snd (PgS.R s))) (Prod.snd (Prod.snd (PgS.R s))))) < (2 : Nat) ^ (200 : Nat))) ∧ (RS.Y (addI (PgS.a s) (PgS.b s) (PgS.m s) (0 : Int) (0 : Int) true (Prod.fst (PgS.R s)) (Prod.fst (Prod.snd (PgS.R s))) (Prod.snd (Prod.snd (PgS.R s)))) = RS.Y (PgS.same s) ∧ ((200 : Nat) ≤ (200 : Nat) ∨ Int.natAbs (RS.Y (addI (PgS.a s) (PgS.b s) (PgS.m s) (0 : Int) (0 : Int) true (Prod.fst (PgS.R s)) (Prod.fst (Prod.snd (PgS.R s))) (Prod.snd (Prod.snd (PgS.R s))))) < (2 : Nat) ^ (200 : Nat))) ∧ RS.o (addI (PgS.a s) (PgS.b s) (PgS.m s) (0 : Int) (0 : Int) true (Prod.fst (PgS.R s)) (Prod.fst (Prod.snd (PgS.R s))) (Prod.snd (Prod.snd (PgS.R s)))) = RS.o (PgS.same s) ∧ True) ∧ (RS.d (addI (PgS.a s) (PgS.b s) (PgS.m s) (0 : Int) (0 : Int) true (Prod.fst (PgS.R s)) (Prod.fst (Prod.snd (PgS.R s))) (Prod.snd (Prod.snd (PgS.R s)))) = RS.d (PgS.same s) ∧ ((200 : Nat) ≤ (200 : Nat) ∨ Int.natAbs (RS.d (addI (PgS.a s) (PgS.b s) (PgS.m s) (0 : Int) (0 : Int) true (Prod.fst (PgS.R s)) (Prod.fst (Prod.snd (PgS.R s))) (Prod.snd (Prod.snd (PgS.R s))))) < (2 : Nat) ^ (200 : Nat))) ∧ RS.e (addI (PgS.a s) (PgS.b s) (PgS.m s) (0 : Int) (0 : Int) true (Prod.fst (PgS.R s)) (Prod.fst (Prod.snd (PgS.R s))) (Prod.snd (Prod.snd (PgS.R s)))) = RS.e (PgS.same s) ∧ True) ∧ True) ∧ ∀ (i : Bool), i = true ∧ nonsB (PgS.a s) (PgS.b s) (PgS.m s) = true → bif RS.e (PgS.one s) == (0 : Int) then bif RS.e (PgS.two s) == (0 : Int) then ((200 : Nat) ≤ (1000 : Nat) ∧ (200 : Nat) ≤ (1000 : Nat) ∧ (200 : Nat) ≤ (1000 : Nat) ∧ (200 : Nat) ≤ (1000 : Nat)) ∧ bif sameB (RS.X (PgS.one s)) (RS.Y (PgS.one s)) (RS.o (PgS.one s)) (RS.X (PgS.two s)) (RS.Y (PgS.two s)) (RS.o (PgS.two s)) then bif RS.e (PgS.n s) == (0 : Int) then bif RS.e (PgS.zero s) == (0 : Int) then bif RS.o (PgS.zero s) then ((200 : Nat) ≤ (1000 : Nat) ∧ (200 : Nat) ≤ (1000 : Nat) ∧ (64 : Nat) ≤ (1000 : Nat) ∧ (64 : Nat) ≤ (1000 : Nat)) ∧ bif sameB (RS.X (PgS.same s)) (RS.Y (PgS.same s)) (RS.o (PgS.same s)) (Prod.fst (PgS.R s)) (Prod.fst (Prod.snd (PgS.R s))) (Prod.snd (Prod.snd (PgS.R s))) then true = true else false = true else false = true else false = true else false = true else false = true else false = true else false = true) = evFn (envC [c_ex, c_rprime, c_Curve, c_Nons, c_pts, c_at, c_ladd, c_R6same, c_pon, c_Neg] noAnn (pgCut (crvM M A X Y Q) k s)) Try.f3 [crvM M A X Y Q, .int .u16 k] (MRes.sat (.ret (.bool true))) := by kernel_rfl

theorem add_rs {A B p X Y X' Y' : Int} {o o' : Bool} (hp : PrP p) (hc : curveB A B p = true) (h1 : onB A B p X Y o = true) (h2 : onB A B p X' Y' o' = true) :
    ∃ x y t, addTT A p (.pt X Y o) (.pt X' Y' o') = .pt x y t ∧ onB A B p x y t = true ∧ addI A B p X Y o X' Y' o' = (TR.pt x y t).rs := by
  have h := addTT_on hp hc (a := .pt X Y o) (b := .pt X' Y' o') h1 h2
  have e : addI A B p X Y o X' Y' o' = (addTT A p (.pt X Y o) (.pt X' Y' o')).rs := by
    unfold addI; rw [h1, h2, Bool.and_self, cond_true]; rfl
  cases hr : addTT A p (.pt X Y o) (.pt X' Y' o') with
  | dv d => rw [hr] at h; exact h.elim
  | pt x y t => rw [hr] at h e; exact ⟨x, y, t, rfl, h, e⟩
theorem sameB_refl (X Y : Int) (o : Bool) : sameB X Y o X Y o = true := by simp [sameB]
theorem b00 : ((0 : Int) == 0) = true := rfl
theorem n00 : ((0 : Int) != 0) = false := rfl
structure PgOk (s : PgS) : Prop where
  pq : s.pq.e = 0
  qp : s.qp.e = 0
  qr : s.qr.e = 0
  com : sameB s.pq.X s.pq.Y s.pq.o s.qp.X s.qp.Y s.qp.o = true
  on : onB s.a s.b s.m s.pq.X s.pq.Y s.pq.o = true
  one : s.one.e = 0
  two : s.two.e = 0
  ass : sameB s.one.X s.one.Y s.one.o s.two.X s.two.Y s.two.o = true
  n : s.n.e = 0
  zero : s.zero.e = 0
  inf : s.zero.o = true
  same : sameB s.same.X s.same.Y s.same.o s.R.1 s.R.2.1 s.R.2.2 = true
theorem pg_law {s : PgS} (hp : PrP s.m) (hc : curveB s.a s.b s.m = true) (hP : onB s.a s.b s.m s.X s.Y false = true) (hQ : onB s.a s.b s.m s.Q.1 s.Q.2.1 s.Q.2.2 = true) (hR : onB s.a s.b s.m s.R.1 s.R.2.1 s.R.2.2 = true) (hn : nonsB s.a s.b s.m = true) : PgOk s := by
  have ns : ¬ s.m ∣ 4 * (s.a * (s.a * s.a)) + 27 * (s.b * s.b) := gcd_dvd_self (by have := hp.pos; omega) (by unfold nonsB at hn; exact of_decide_eq_true hn)
  have g := group hp hc ns
  obtain ⟨x1, y1, o1, t1, h1, e1⟩ := add_rs hp hc hP hQ
  obtain ⟨x2, y2, o2, t2, h2, e2⟩ := add_rs hp hc hQ hP
  obtain ⟨x3, y3, o3, t3, h3, e3⟩ := add_rs hp hc hQ hR
  have e1' : s.pq = (TR.pt x1 y1 o1).rs := e1
  have e2' : s.qp = (TR.pt x2 y2 o2).rs := e2
  have e3' : s.qr = (TR.pt x3 y3 o3).rs := e3
  obtain ⟨x4, y4, o4, t4, h4, e4⟩ := add_rs hp hc h1 hR
  obtain ⟨x5, y5, o5, t5, h5, e5⟩ := add_rs hp hc hP h3
  have e4' : s.one = (TR.pt x4 y4 o4).rs := by unfold PgS.one; rw [e1']; exact e4
  have e5' : s.two = (TR.pt x5 y5 o5).rs := by unfold PgS.two; rw [e3']; exact e5
  have hN := neg_on hR
  have en : s.n = ⟨s.R.1, negY s.m s.R.2.1 s.R.2.2, s.R.2.2, 0, 0⟩ := by unfold PgS.n negI; rw [hR, cond_true]
  obtain ⟨x6, y6, o6, t6, h6, e6⟩ := add_rs hp hc hR hN
  have e6' : s.zero = (TR.pt x6 y6 o6).rs := by unfold PgS.zero; rw [en]; exact e6
  have hO : onB s.a s.b s.m 0 0 true = true := on_inf.2 ⟨hc, rfl, rfl⟩
  obtain ⟨x7, y7, o7, t7, h7, e7⟩ := add_rs hp hc hO hR
  have e7' : s.same = (TR.pt x7 y7 o7).rs := e7
  have c1 : TR.pt x1 y1 o1 = .pt x2 y2 o2 := by rw [← t1, ← t2]; exact g.comm (a := .pt s.X s.Y false) (b := .pt _ _ _) hP hQ
  have c2 : TR.pt x4 y4 o4 = .pt x5 y5 o5 := by
    rw [← t4, ← t5, ← t1, ← t3]
    exact g.assoc (a := .pt s.X s.Y false) (b := .pt _ _ _) (c := .pt _ _ _) hP hQ hR
  have c3 : TR.pt x6 y6 o6 = .pt 0 0 true := by rw [← t6]; exact g.inv (a := .pt _ _ _) hR
  have c4 : TR.pt x7 y7 o7 = .pt s.R.1 s.R.2.1 s.R.2.2 := by rw [← t7]; exact g.z_add (a := .pt _ _ _) hR
  refine ⟨by rw [e1']; rfl, by rw [e2']; rfl, by rw [e3']; rfl, ?_, by rw [e1']; exact h1, by rw [e4']; rfl, by rw [e5']; rfl, ?_, by rw [en], by rw [e6']; rfl, ?_, ?_⟩
  · rw [e1', e2', c1]; exact sameB_refl _ _ _
  · rw [e4', e5', c2]; exact sameB_refl _ _ _
  · rw [e6', c3]; rfl
  · rw [e7', c4]; exact sameB_refl _ _ _

def s_pg : FSpec
  | [.st [.int .u8 M, .int .u8 A, .int .u8 X, .int .u8 Y, .int .u16 Q], .int .u16 k] => some (some (crvP M A X Y Q ∧ 0 ≤ k ∧ k ≤ 65535), .ret (.bool true))
  | _ => none
theorem pts_len (A B m : Int) : 0 < (ptsI A B m).length := by
  unfold ptsI
  generalize m.toNat = n
  cases n with
  | zero => simp [rowPts]
  | succ n =>
    have h : ∀ k, 0 < (rowPts A B m k).length := fun k => by
      induction k with
      | zero => simp [rowPts]
      | succ k ih => simp only [rowPts, List.length_append]; omega
    exact h _
theorem p_pg : Good Try.f3 s_pg := by
  intro ms p r h hp
  unfold s_pg at h
  split at h
  · rename_i M A X Y Q k
    simp only [Option.some.injEq, Prod.mk.injEq] at h
    obtain ⟨rfl, rfl⟩ := h
    obtain ⟨⟨h1, h2, h3, h4, h5, h6, h7, h8, h9, h10⟩, g1, g2⟩ : crvP M A X Y Q ∧ 0 ≤ k ∧ k ≤ 65535 := hp
    have w0 : IntKind.wrap IntKind.u16 (5 + IntKind.wrap IntKind.u16 M) = 5 + M := by
      rw [IntWalk.u16_in M ⟨by omega, by omega⟩, IntWalk.u16_in _ ⟨by omega, by omega⟩]
    have eA : IntKind.wrap IntKind.i64 A = A := i64w (by omega) (by omega)
    have eX : IntKind.wrap IntKind.i64 X = X := i64w (by omega) (by omega)
    have eY : IntKind.wrap IntKind.i64 Y = Y := i64w (by omega) (by omega)
    have eQ : IntKind.wrap IntKind.i64 Q = Q := i64w (by omega) (by omega)
    have ek : IntKind.wrap IntKind.i64 k = k := i64w (by omega) (by omega)
    have hpr := nextP_pr (n := (5 + M).toNat) (by omega) (by omega)
    obtain ⟨_, q1, q2, q3⟩ := nextP_small (5 + M).toNat (by omega) (by omega)
    obtain ⟨m, hm⟩ : ∃ m : Int, (nextP (5 + M).toNat : Int) = m := ⟨_, rfl⟩
    rw [hm] at hpr
    have m0 : 5 ≤ m ∧ m < 264 ∧ m % 2 = 1 := by omega
    have hb : ∀ z : Int, 0 ≤ z % m ∧ z % m < m := fun z => ⟨Int.emod_nonneg _ (by omega), Int.emod_lt_of_pos _ (by omega)⟩
    have hP := curve_on (m := m) (a := A % m) (x := X % m) (y := Y % m) (by omega) (by omega) (hb _).1 (hb _).2 (hb _).1 (hb _).2 (hb _).1 (hb _).2
    have hc := on_curve hP
    have tA : Int.tmod A m = A % m := Int.tmod_eq_emod_of_nonneg h3
    have tX : Int.tmod X m = X % m := Int.tmod_eq_emod_of_nonneg h5
    have tY : Int.tmod Y m = Y % m := Int.tmod_eq_emod_of_nonneg h7
    have bA := hb A
    have bX := hb X
    have bY := hb Y
    generalize A % m = a at *
    generalize X % m = xx at *
    generalize Y % m = yy at *
    obtain ⟨b, hB⟩ : ∃ b, curveI m a xx yy = b := ⟨_, rfl⟩
    rw [hB] at hP hc
    have hl := pts_len a b m
    obtain ⟨len, hlen⟩ : ∃ len, (ptsI a b m).length = len := ⟨_, rfl⟩
    rw [hlen] at hl
    have tQ : Int.tmod Q (len : Int) = ((Q.toNat % len : Nat) : Int) := by
      rw [Int.tmod_eq_emod_of_nonneg h9, Int.natCast_emod]
      congr 1; omega
    have tk : Int.tmod k (len : Int) = ((k.toNat % len : Nat) : Int) := by
      rw [Int.tmod_eq_emod_of_nonneg g1, Int.natCast_emod]
      congr 1; omega
    have lQ : Q.toNat % len < len := Nat.mod_lt _ hl
    have lk : k.toNat % len < len := Nat.mod_lt _ hl
    generalize Q.toNat % len = i at *
    generalize k.toNat % len = j at *
    obtain ⟨PQ, hQ⟩ : ∃ q, (ptsI a b m).getD i (0, 0, true) = q := ⟨_, rfl⟩
    obtain ⟨PR, hR⟩ : ∃ q, (ptsI a b m).getD j (0, 0, true) = q := ⟨_, rfl⟩
    have oQ : onB a b m PQ.1 PQ.2.1 PQ.2.2 = true := pts_on hc (by rw [← hQ]; exact getD_mem (by omega))
    have oR : onB a b m PR.1 PR.2.1 PR.2.2 = true := pts_on hc (by rw [← hR]; exact getD_mem (by omega))
    have hno : nonsB a b m = true → PgOk ⟨m, a, b, xx, yy, PQ, PR⟩ := fun hn => pg_law hpr hc hP oQ oR hn
    refine ⟨envC [c_ex, c_rprime, c_Curve, c_Nons, c_pts, c_at, c_ladd, c_R6same, c_pon, c_Neg] noAnn (pgCut (crvM M A X Y Q) k ⟨m, a, b, xx, yy, PQ, PR⟩), ?_⟩
    rw [← vc_pg M A X Y Q k ⟨m, a, b, xx, yy, PQ, PR⟩, w0, hm, eA, eX, eY, eQ, ek]
    dsimp only at hno ⊢
    rw [tA, tX, tY, hB, hlen, tQ, tk, Int.toNat_natCast, Int.toNat_natCast, hQ, hR]
    cases hn : nonsB a b m with
    | false =>
      simp only [Bool.not_false, cond_true, Bool.false_eq_true, and_false, and_true, true_and, and_self, false_implies, implies_true, Nat.le_refl, Nat.reduceLeDiff, true_or, exists_eq]
      exact ⟨by omega, fun _ _ => by and_intros <;> omega⟩
    | true =>
      obtain ⟨f1, f2, f3, f4, f5, f6, f7, f8, f9, f10, f11, f12⟩ := hno hn
      have r1 : addI a b m xx yy false PQ.1 PQ.2.1 PQ.2.2 = PgS.pq ⟨m, a, b, xx, yy, PQ, PR⟩ := rfl
      have r2 : addI a b m PQ.1 PQ.2.1 PQ.2.2 xx yy false = PgS.qp ⟨m, a, b, xx, yy, PQ, PR⟩ := rfl
      have r3 : addI a b m PQ.1 PQ.2.1 PQ.2.2 PR.1 PR.2.1 PR.2.2 = PgS.qr ⟨m, a, b, xx, yy, PQ, PR⟩ := rfl
      have r4 : addI a b m (PgS.pq ⟨m, a, b, xx, yy, PQ, PR⟩).X (PgS.pq ⟨m, a, b, xx, yy, PQ, PR⟩).Y (PgS.pq ⟨m, a, b, xx, yy, PQ, PR⟩).o PR.1 PR.2.1 PR.2.2 = PgS.one ⟨m, a, b, xx, yy, PQ, PR⟩ := rfl
      have r5 : addI a b m xx yy false (PgS.qr ⟨m, a, b, xx, yy, PQ, PR⟩).X (PgS.qr ⟨m, a, b, xx, yy, PQ, PR⟩).Y (PgS.qr ⟨m, a, b, xx, yy, PQ, PR⟩).o = PgS.two ⟨m, a, b, xx, yy, PQ, PR⟩ := rfl
      have r6 : negI a b m PR.1 PR.2.1 PR.2.2 = PgS.n ⟨m, a, b, xx, yy, PQ, PR⟩ := rfl
      have r7 : addI a b m PR.1 PR.2.1 PR.2.2 (PgS.n ⟨m, a, b, xx, yy, PQ, PR⟩).X (PgS.n ⟨m, a, b, xx, yy, PQ, PR⟩).Y (PgS.n ⟨m, a, b, xx, yy, PQ, PR⟩).o = PgS.zero ⟨m, a, b, xx, yy, PQ, PR⟩ := rfl
      have r8 : addI a b m 0 0 true PR.1 PR.2.1 PR.2.2 = PgS.same ⟨m, a, b, xx, yy, PQ, PR⟩ := rfl
      simp only [r1, r2, r3, r4, r5, r6, r7, r8, f1, f2, f3, f4, f5, f6, f7, f8, f9, f10, f11, f12, Bool.not_true, cond_true, cond_false, b00, n00, and_true, true_and, and_self, implies_true, Nat.le_refl, Nat.reduceLeDiff, true_or, exists_eq]
      refine ⟨by omega, fun _ _ => ⟨by and_intros <;> omega, fun _ _ _ _ => ⟨⟨by omega, true, rfl, LeFun.same rfl⟩, fun _ _ => by and_intros <;> omega⟩⟩⟩
  · simp at h
noncomputable def c_pg : Ctr Try.prog := ⟨3, s_pg, fun args w => Try.call3 args w, fn_ok mix Try.func3 s_pg p_pg⟩

end Go.Proofs.Ytceochfccebebaa

namespace Go.Proofs.Ytceochfccebebaa
open Go Go.ChangeShapes Go.WideShapes Go.ChangeAt Go.RowKit

def tysPg : List Nat := [24, 5, 22]
theorem tysPg_ok : tysPg.all (subOk Try.prog tysPg) = true := by kernel_rfl

theorem ok_at {P : Program} {W : World} {base : Nat} {args : Array Value} {ts : Array TypeId} (hval : ∀ (j : Nat) t v, ts[j]? = some t → args[j]? = some v → Value.okWide P W .any base t v) {j : Nat} {t : TypeId} {v : Value} (h1 : ts[j]? = some t) (h2 : args[j]? = some v) : Value.okWide P W .any base t v := hval j t v h1 h2
theorem par_pg : Try.f3.params[1]? = some 22 := by rw [Try.params3]; rfl
set_option maxRecDepth 100000 in
theorem pg_contract (H : Type) (enc : TypeId × Value → H) (W : World) (base : Nat) (args : Array Value) (ds gs : List (DataW H)) (before : List MemPlace)
    (hval : ∀ (j : Nat) t v, Try.f3.params[j]? = some t → args[j]? = some v → Value.okWide Try.prog W .any base t v)
    (hW : DataW.Whole enc Try.prog Try.f3.params.toList Rows.pointGroupSpec.vars Rows.pointGroupRow.apart W args.toList ds gs before) :
    Calls Try.prog 3 args W fun e W' => ∃ v, e = .returned v ∧ Rows.pointGroupSpec.post enc Try.prog Try.f3 Rows.pointGroupRow.apart Rows.pointGroupRow.fresh Rows.pointGroupRow.handsOn Rows.pointGroupRow.again W args v W' := by
  have hW' := hW
  obtain ⟨p, q, hA, hV, rfl, hfz, hnd⟩ := hW
  rw [Try.params3] at hA
  obtain ⟨v0, v1, d0, d1, p0, p1, rfl, rfl, rfl, h0, h1⟩ := trodAll_two hA
  obtain ⟨rfl, rfl⟩ := trodVars_none hV
  obtain ⟨M, A, X, Y, Q, r0, c0⟩ := rep_crv h0
  obtain ⟨k, rfl, _, _, hw⟩ := open_int Try.underlying22 (ok_at hval par_pg rfl) h1
  have r1 : Rep1 (Ctx.args noS) W (.int .u16 k) (.int .u16 k) := rfl
  have c1 := u16_wf hw
  refine law_calls c_pg rfl rfl tysPg_ok (by rw [Try.params3]; decide) hW' ⟨[crvM M A X Y Q, .int .u16 k], _, rfl, ⟨c0, c1⟩, _, _, rfl, r0, _, _, rfl, r1, rfl⟩ rfl

set_option maxHeartbeats 1600000 in
set_option maxRecDepth 100000 in
theorem pg_lifted (os : Os) (started : os.Started) (H : Type) (enc : TypeId × Value → H) :
    ReturnsInHanded {} Try.checked os 3 .any (Rows.pointGroupSpec.pre6 enc Try.prog Try.f3 Rows.pointGroupRow.domain Rows.pointGroupRow.apart) (Rows.pointGroupSpec.post enc Try.prog Try.f3 Rows.pointGroupRow.apart Rows.pointGroupRow.fresh Rows.pointGroupRow.handsOn Rows.pointGroupRow.again) := by
  refine returnsInHanded_of_change (C := Try.checked) own started (by kernel_rfl) Try.func3
    (ChangeSpec.witness6 (enc := enc) (C := Try.checked) false ⟨#[], #[.agg #[.int .u8 0, .int .u8 0, .int .u8 0, .int .u8 0, .int .u16 0], .int .u16 0], []⟩ 8 (by kernel_rfl) (by kernel_rfl) (by kernel_rfl) (by kernel_rfl)) ?_
  intro W base args ds gs before hval hW _ _
  exact pg_contract H enc W base args ds gs before hval hW

theorem pg_over : Rows.pointGroupRow.holds Try.pinned (OpenSpec.ofChange Rows.pointGroupSpec) :=
  OpenClaim.holds_of_wide 3 Try.f3 rfl rfl rfl rfl rfl rfl rfl ⟨rfl, rfl, rfl, rfl, rfl⟩ rfl rfl rfl rfl rfl (by kernel_rfl) Try.func3 (by kernel_rfl)
    (of_decide_eq_true (by kernel_rfl)) (by unfold Func.isWrapper; first | (rw [if_pos (by decide +kernel)]; kernel_rfl) | (rw [if_neg (by decide +kernel)]; exact ⟨rfl, rfl⟩))
    (fun os started H enc _ => pg_lifted os started H enc)

theorem pointGroup_holds : Rows.PointGroupSaid := pg_over

end Go.Proofs.Ytceochfccebebaa
