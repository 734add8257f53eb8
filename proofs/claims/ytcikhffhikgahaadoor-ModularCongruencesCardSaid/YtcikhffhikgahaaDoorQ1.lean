/-
  ModularCongruences: whatever the two remainders and the two moduli are (at most two words each): the solution of the two congruences fulfils both, its modulus is the least common multiple, and there is one exactly if the remainders agree modulo the greatest common divisor.
-/
import Derived.Test.YtcikhffhikgahaaDoorW5
import Derived.Test.YtcikhffhikgahaaDoorW4


/-
  The walk of ModularCongruences.
-/
namespace Go.Proofs.YtcikhffhikgahaaDoor
open Go Go.RowKit

/-- Descriptions of three numbers. -/
abbrev threeM (b1 b2 b3 : Bool) (l1 l2 l3 : List Int) : MV := .st [rawM b1 l1, rawM b2 l2, rawM b3 l3]
theorem vc_mcong (b1 b2 b3 b4 : Bool) (l1 l2 l3 l4 : List Int) : (((∀ (x : Int), x ∈ l1 → (0 : Int) ≤ x ∧ x < (4294967296 : Int)) ∧ (0 : Int) ≤ (2 : Int) ∧ (2 : Int) ≤ (1000 : Int) ∧ List.length l1 < (9223372036854775808 : Nat)) ∧ ((∀ (x : Int), x ∈ l2 → (0 : Int) ≤ x ∧ x < (4294967296 : Int)) ∧ (0 : Int) ≤ (2 : Int) ∧ (2 : Int) ≤ (1000 : Int) ∧ List.length l2 < (9223372036854775808 : Nat)) ∧ ((∀ (x : Int), x ∈ l3 → (0 : Int) ≤ x ∧ x < (4294967296 : Int)) ∧ (0 : Int) ≤ (2 : Int) ∧ (2 : Int) ≤ (1000 : Int) ∧ List.length l3 < (9223372036854775808 : Nat)) ∧ ((∀ (x : Int), x ∈ l4 → (0 : Int) ≤ x ∧ x < (4294967296 : Int)) ∧ (0 : Int) ≤ (2 : Int) ∧ (2 : Int) ≤ (1000 : Int) ∧ List.length l4 < (9223372036854775808 : Nat)) ∧ ((32 : Nat) * Int.toNat (2 : Int) ≤ (1000 : Nat) ∧ (32 : Nat) * Int.toNat (2 : Int) ≤ (1000 : Nat) ∧ (32 : Nat) * Int.toNat (2 : Int) ≤ (1000 : Nat) ∧ (32 : Nat) * Int.toNat (2 : Int) ≤ (1000 : Nat)) ∧ bif decide (sgn (madeI b3 l3 (Int.toNat (2 : Int))) ≤ (0 : Int)) then bif crE (madeI b1 l1 (Int.toNat (2 : Int))) (madeI b3 l3 (Int.toNat (2 : Int))) (madeI b2 l2 (Int.toNat (2 : Int))) (madeI b4 l4 (Int.toNat (2 : Int))) == (1 : Int) then true = true else false = true else bif decide (sgn (madeI b4 l4 (Int.toNat (2 : Int))) ≤ (0 : Int)) then bif crE (madeI b1 l1 (Int.toNat (2 : Int))) (madeI b3 l3 (Int.toNat (2 : Int))) (madeI b2 l2 (Int.toNat (2 : Int))) (madeI b4 l4 (Int.toNat (2 : Int))) == (1 : Int) then true = true else false = true else ((32 : Nat) * Int.toNat (2 : Int) ≤ (900000 : Nat) ∧ (32 : Nat) * Int.toNat (2 : Int) ≤ (900000 : Nat)) ∧ ((32 : Nat) * Int.toNat (2 : Int) ≤ (1000000 : Nat) ∧ (32 : Nat) * Int.toNat (2 : Int) ≤ (1000000 : Nat)) ∧ (max ((32 : Nat) * Int.toNat (2 : Int)) ((32 : Nat) * Int.toNat (2 : Int)) + (1 : Nat) ≤ (900000 : Nat) ∧ max ((32 : Nat) * Int.toNat (2 : Int)) ((32 : Nat) * Int.toNat (2 : Int)) ≤ (900000 : Nat)) ∧ bif modE (↑(Int.gcd (madeI b3 l3 (Int.toNat (2 : Int))) (madeI b4 l4 (Int.toNat (2 : Int)))) : Int) != (0 : Int) then false = true else bif !(crE (madeI b1 l1 (Int.toNat (2 : Int))) (madeI b3 l3 (Int.toNat (2 : Int))) (madeI b2 l2 (Int.toNat (2 : Int))) (madeI b4 l4 (Int.toNat (2 : Int))) == (0 : Int)) == (sgn (modV (madeI b1 l1 (Int.toNat (2 : Int)) - madeI b2 l2 (Int.toNat (2 : Int))) (↑(Int.gcd (madeI b3 l3 (Int.toNat (2 : Int))) (madeI b4 l4 (Int.toNat (2 : Int)))) : Int)) == (0 : Int)) then false = true else bif crE (madeI b1 l1 (Int.toNat (2 : Int))) (madeI b3 l3 (Int.toNat (2 : Int))) (madeI b2 l2 (Int.toNat (2 : Int))) (madeI b4 l4 (Int.toNat (2 : Int))) != (0 : Int) then bif crE (madeI b1 l1 (Int.toNat (2 : Int))) (madeI b3 l3 (Int.toNat (2 : Int))) (madeI b2 l2 (Int.toNat (2 : Int))) (madeI b4 l4 (Int.toNat (2 : Int))) == (6 : Int) then bif sgn (crV (madeI b1 l1 (Int.toNat (2 : Int))) (madeI b3 l3 (Int.toNat (2 : Int))) (madeI b2 l2 (Int.toNat (2 : Int))) (madeI b4 l4 (Int.toNat (2 : Int)))) == (0 : Int) then bif sgn (crW (madeI b1 l1 (Int.toNat (2 : Int))) (madeI b3 l3 (Int.toNat (2 : Int))) (madeI b2 l2 (Int.toNat (2 : Int))) (madeI b4 l4 (Int.toNat (2 : Int)))) == (0 : Int) then true = true else false = true else false = true else false = true else ((32 : Nat) * Int.toNat (2 : Int) + (32 : Nat) * Int.toNat (2 : Int) ≤ (1000000 : Nat) ∧ (32 : Nat) * Int.toNat (2 : Int) ≤ (1000000 : Nat)) ∧ (max ((32 : Nat) * Int.toNat (2 : Int) + (32 : Nat) * Int.toNat (2 : Int)) ((32 : Nat) * Int.toNat (2 : Int)) + (1 : Nat) ≤ (900000 : Nat) ∧ (32 : Nat) * Int.toNat (2 : Int) ≤ (900000 : Nat)) ∧ ((32 : Nat) * Int.toNat (2 : Int) + (32 : Nat) * Int.toNat (2 : Int) ≤ (1000000 : Nat) ∧ (32 : Nat) * Int.toNat (2 : Int) ≤ (1000000 : Nat)) ∧ (max ((32 : Nat) * Int.toNat (2 : Int) + (32 : Nat) * Int.toNat (2 : Int)) ((32 : Nat) * Int.toNat (2 : Int)) + (1 : Nat) ≤ (900000 : Nat) ∧ (32 : Nat) * Int.toNat (2 : Int) ≤ (900000 : Nat)) ∧ ((32 : Nat) * Int.toNat (2 : Int) + (32 : Nat) * Int.toNat (2 : Int) ≤ (1000000 : Nat) ∧ max ((32 : Nat) * Int.toNat (2 : Int)) ((32 : Nat) * Int.toNat (2 : Int)) ≤ (1000000 : Nat)) ∧ ((32 : Nat) * Int.toNat (2 : Int) ≤ (1000000 : Nat) ∧ (32 : Nat) * Int.toNat (2 : Int) ≤ (1000000 : Nat)) ∧ ((32 : Nat) * Int.toNat (2 : Int) + (32 : Nat) * Int.toNat (2 : Int) + max ((32 : Nat) * Int.toNat (2 : Int)) ((32 : Nat) * Int.toNat (2 : Int)) ≤ (1000000 : Nat) ∧ (32 : Nat) * Int.toNat (2 : Int) + (32 : Nat) * Int.toNat (2 : Int) ≤ (1000000 : Nat)) ∧ bif modE (madeI b3 l3 (Int.toNat (2 : Int))) == (0 : Int) then bif modE (madeI b4 l4 (Int.toNat (2 : Int))) == (0 : Int) then bif sgn (modV (crV (madeI b1 l1 (Int.toNat (2 : Int))) (madeI b3 l3 (Int.toNat (2 : Int))) (madeI b2 l2 (Int.toNat (2 : Int))) (madeI b4 l4 (Int.toNat (2 : Int))) - madeI b1 l1 (Int.toNat (2 : Int))) (madeI b3 l3 (Int.toNat (2 : Int)))) == (0 : Int) then bif sgn (modV (crV (madeI b1 l1 (Int.toNat (2 : Int))) (madeI b3 l3 (Int.toNat (2 : Int))) (madeI b2 l2 (Int.toNat (2 : Int))) (madeI b4 l4 (Int.toNat (2 : Int))) - madeI b2 l2 (Int.toNat (2 : Int))) (madeI b4 l4 (Int.toNat (2 : Int)))) == (0 : Int) then bif icmp (crW (madeI b1 l1 (Int.toNat (2 : Int))) (madeI b3 l3 (Int.toNat (2 : Int))) (madeI b2 l2 (Int.toNat (2 : Int))) (madeI b4 l4 (Int.toNat (2 : Int))) * (↑(Int.gcd (madeI b3 l3 (Int.toNat (2 : Int))) (madeI b4 l4 (Int.toNat (2 : Int)))) : Int)) (madeI b3 l3 (Int.toNat (2 : Int)) * madeI b4 l4 (Int.toNat (2 : Int))) == (0 : Int) then bif decide (sgn (crV (madeI b1 l1 (Int.toNat (2 : Int))) (madeI b3 l3 (Int.toNat (2 : Int))) (madeI b2 l2 (Int.toNat (2 : Int))) (madeI b4 l4 (Int.toNat (2 : Int)))) ≥ (0 : Int)) then ((32 : Nat) * Int.toNat (2 : Int) + (32 : Nat) * Int.toNat (2 : Int) ≤ (1000000 : Nat) ∧ (32 : Nat) * Int.toNat (2 : Int) + (32 : Nat) * Int.toNat (2 : Int) ≤ (1000000 : Nat)) ∧ bif decide (icmp (crV (madeI b1 l1 (Int.toNat (2 : Int))) (madeI b3 l3 (Int.toNat (2 : Int))) (madeI b2 l2 (Int.toNat (2 : Int))) (madeI b4 l4 (Int.toNat (2 : Int)))) (crW (madeI b1 l1 (Int.toNat (2 : Int))) (madeI b3 l3 (Int.toNat (2 : Int))) (madeI b2 l2 (Int.toNat (2 : Int))) (madeI b4 l4 (Int.toNat (2 : Int)))) < (0 : Int)) then true = true else false = true else false = true else false = true else false = true else false = true else false = true else false = true) = evFn (env [c_lex, c_rMade, c_lof, c_crtU, c_sign, c_igcd, c_modU, c_isub, c_mul, c_icmp] noAnn) Tryd.f9 [threeM b1 b2 b3 l1 l2 l3, rawM b4 l4] (MRes.sat (.ret (.bool true))) := by kernel_rfl

theorem crt_facts {r1 m1 r2 m2 : Int} (h1 : 0 < m1) (h2 : 0 < m2) (he : (r2 - r1) % (Int.gcd m1 m2 : Int) = 0) :
    m1 ∣ crtR r1 m1 r2 m2 - r1 ∧ m2 ∣ crtR r1 m1 r2 m2 - r2 ∧ crtM m1 m2 * (Int.gcd m1 m2 : Int) = m1 * m2 ∧ 0 ≤ crtR r1 m1 r2 m2 ∧ crtR r1 m1 r2 m2 < crtM m1 m2 := by
  have hz := bzu_spec (a := m1) (b := m2) (by omega)
  have hdv := hz.dv
  have hg0 : (Int.gcd m1 m2 : Int) ≠ 0 := by
    have := Int.gcd_ne_zero_left (b := m2) (show m1 ≠ 0 by omega)
    omega
  obtain ⟨c, hc⟩ := Int.gcd_dvd_right m1 m2
  obtain ⟨b, hb⟩ := Int.gcd_dvd_left m1 m2
  obtain ⟨d, hd⟩ := Int.dvd_of_emod_eq_zero he
  unfold crtR crtM
  generalize bzu m1 m2 = u at *
  generalize hgg : (Int.gcd m1 m2 : Int) = g at *
  have hgp : 0 < g := by omega
  have e1 : m2 / g = c := by
    rw [hc]; exact Int.mul_ediv_cancel_left _ hg0
  have e2 : (r2 - r1) / g = d := by
    rw [hd]; exact Int.mul_ediv_cancel_left _ hg0
  rw [e1, e2]
  have hcp : 0 < c := by
    rcases Int.lt_or_le 0 c with q | q
    · exact q
    · have : g * c ≤ g * 0 := Int.mul_le_mul_of_nonneg_left q (by omega)
      omega
  have hM : 0 < m1 * c := Int.mul_pos h1 hcp
  obtain ⟨e, hde⟩ := hdv
  have hmod := Int.emod_def (r1 + m1 * (u * d)) (m1 * c)
  generalize (r1 + m1 * (u * d)) / (m1 * c) = q at hmod
  refine ⟨?_, ?_, ?_, Int.emod_nonneg _ (by omega), Int.emod_lt_of_pos _ hM⟩
  · rw [hmod]
    exact ⟨u * d - c * q, by grind⟩
  · rw [hmod]
    refine ⟨-(e * d) - b * q, ?_⟩
    have k1 : m1 * c = b * m2 := by grind
    have k2 : m1 * u = g - m2 * e := by grind
    have k3 : m1 * (u * d) = g * d - m2 * e * d := by rw [← Int.mul_assoc, k2, Int.sub_mul]
    rw [k1, k3]
    grind
  · grind

theorem cg_law {r1 m1 r2 m2 : Int} :
    (¬ (0 < m1 ∧ 0 < m2) → crE r1 m1 r2 m2 = 1) ∧ (0 < m1 → 0 < m2 → ((crE r1 m1 r2 m2 = 0 ∧ modV (r1 - r2) (Int.gcd m1 m2) = 0 ∧ modV (crV r1 m1 r2 m2 - r1) m1 = 0 ∧ modV (crV r1 m1 r2 m2 - r2) m2 = 0 ∧
      crW r1 m1 r2 m2 * (Int.gcd m1 m2 : Int) = m1 * m2 ∧ 0 ≤ crV r1 m1 r2 m2 ∧ crV r1 m1 r2 m2 < crW r1 m1 r2 m2) ∨ (crE r1 m1 r2 m2 = 6 ∧ modV (r1 - r2) (Int.gcd m1 m2) ≠ 0 ∧ crV r1 m1 r2 m2 = 0 ∧ crW r1 m1 r2 m2 = 0))) := by
  refine ⟨fun h => by unfold crE; rw [if_neg h], fun h1 h2 => ?_⟩
  have hg0 : 0 < (Int.gcd m1 m2 : Int) := by
    have := Int.gcd_ne_zero_left (b := m2) (show m1 ≠ 0 by omega)
    omega
  unfold crE crV crW modV
  have hP : 0 < m1 ∧ 0 < m2 := ⟨h1, h2⟩
  simp only [hP, hg0, and_self, if_true]
  have hs : (r1 - r2) % (Int.gcd m1 m2 : Int) = 0 ↔ (r2 - r1) % (Int.gcd m1 m2 : Int) = 0 := by
    rw [← Int.dvd_iff_emod_eq_zero, ← Int.dvd_iff_emod_eq_zero, ← Int.dvd_neg, Int.neg_sub]
  by_cases he : (r2 - r1) % (Int.gcd m1 m2 : Int) = 0
  · rw [if_pos he, if_pos he, if_pos he]
    obtain ⟨k1, k2, k3, k4, k5⟩ := crt_facts h1 h2 he
    exact .inl ⟨rfl, hs.2 he, Int.emod_eq_zero_of_dvd k1, Int.emod_eq_zero_of_dvd k2, k3, k4, k5⟩
  · rw [if_neg he, if_neg he, if_neg he]
    exact .inr ⟨rfl, fun h => he (hs.1 h), rfl, rfl⟩

def s_mcong : FSpec
  | [.st [.st [.bool _, .ws l1], .st [.bool _, .ws l2], .st [.bool _, .ws l3]], .st [.bool _, .ws l4]] =>
    some (some ((Wd l1 ∧ l1.length < 9223372036854775808) ∧ (Wd l2 ∧ l2.length < 9223372036854775808) ∧ (Wd l3 ∧ l3.length < 9223372036854775808) ∧ (Wd l4 ∧ l4.length < 9223372036854775808)), .ret (.bool true))
  | _ => none
theorem sgn_le0 {b : Int} : decide (sgn b ≤ 0) = !decide (0 < b) := by
  unfold sgn
  by_cases h : b = 0
  · subst h; rfl
  · rw [if_neg h]
    by_cases h2 : b < 0
    · rw [if_pos h2, decide_eq_false (show ¬ 0 < b by omega)]; rfl
    · rw [if_neg h2, decide_eq_true (show 0 < b by omega)]; rfl
theorem sgn_ge0 {b : Int} : decide (sgn b ≥ 0) = decide (0 ≤ b) := by
  refine decide_eq_decide.2 ?_
  unfold sgn
  split <;> (try split) <;> omega
theorem icmp_eq0 (a b : Int) : (icmp a b == 0) = decide (a = b) := by
  by_cases h : a = b
  · rw [decide_eq_true h, icmp_zero.2 h]; rfl
  · rw [decide_eq_false h]
    simp only [beq_eq_false_iff_ne]
    exact fun e => h (icmp_zero.1 e)
theorem p_mcong : Good Tryd.f9 s_mcong := by
  intro ms p r h hp
  unfold s_mcong at h
  split at h
  · rename_i b1 l1 b2 l2 b3 l3 b4 l4
    simp only [Option.some.injEq, Prod.mk.injEq] at h
    obtain ⟨rfl, rfl⟩ := h
    obtain ⟨⟨w1, n1⟩, ⟨w2, n2⟩, ⟨w3, n3⟩, w4, n4⟩ : (Wd l1 ∧ l1.length < 9223372036854775808) ∧ (Wd l2 ∧ l2.length < 9223372036854775808) ∧ (Wd l3 ∧ l3.length < 9223372036854775808) ∧ (Wd l4 ∧ l4.length < 9223372036854775808) := hp
    refine ⟨env [c_lex, c_rMade, c_lof, c_crtU, c_sign, c_igcd, c_modU, c_isub, c_mul, c_icmp] noAnn, ?_⟩
    rw [← vc_mcong b1 b2 b3 b4 l1 l2 l3 l4]
    refine ⟨⟨w1, by omega, by omega, n1⟩, ⟨w2, by omega, by omega, n2⟩, ⟨w3, by omega, by omega, n3⟩, ⟨w4, by omega, by omega, n4⟩, ⟨by omega, by omega, by omega, by omega⟩, ?_⟩
    generalize madeI b1 l1 (Int.toNat 2) = r1
    generalize madeI b2 l2 (Int.toNat 2) = r2
    generalize madeI b3 l3 (Int.toNat 2) = m1
    generalize madeI b4 l4 (Int.toNat 2) = m2
    obtain ⟨k1, k2⟩ := cg_law (r1 := r1) (m1 := m1) (r2 := r2) (m2 := m2)
    rw [sgn_le0, sgn_le0]
    by_cases hm1 : 0 < m1
    · rw [decide_eq_true hm1, Bool.not_true, cond_false]
      by_cases hm2 : 0 < m2
      · rw [decide_eq_true hm2, Bool.not_true, cond_false]
        have hg0 : 0 < (Int.gcd m1 m2 : Int) := by
          have := Int.gcd_ne_zero_left (b := m2) (show m1 ≠ 0 by omega)
          omega
        have eg : (modE (Int.gcd m1 m2 : Int) != 0) = false := by unfold modE; rw [if_pos hg0]; rfl
        have e1 : (modE m1 == 0) = true := by unfold modE; rw [if_pos hm1]; rfl
        have e2 : (modE m2 == 0) = true := by unfold modE; rw [if_pos hm2]; rfl
        rw [eg, cond_false, e1, e2, cond_true, cond_true]
        refine ⟨by omega, by omega, by omega, ?_⟩
        rcases k2 hm1 hm2 with ⟨q1, q2, q3, q4, q5, q6, q7⟩ | ⟨q1, q2, q3, q4⟩
        · rw [q1, q2, q3, q4, q5, icmp_eq0, decide_eq_true rfl, sgn_ge0, decide_eq_true q6, icmp_ltd, decide_eq_true q7]
          refine ⟨by omega, by omega, by omega, by omega, by omega, by omega, by omega, ?_⟩
          exact ⟨by omega, rfl⟩
        · rw [q1, q3, q4, sgn_eq0, decide_eq_false q2]
          rfl
      · rw [decide_eq_false hm2, k1 (by omega)]
        rfl
    · rw [decide_eq_false hm1, k1 (by omega)]
      rfl
  · simp at h
def c_mcong : Ctr Tryd.prog := ⟨9, s_mcong, fun args w => Tryd.call9 args w, fn_ok mix Tryd.func9 s_mcong p_mcong⟩

end Go.Proofs.YtcikhffhikgahaaDoor

namespace Go.Proofs.YtcikhffhikgahaaDoor
open Go Go.ChangeShapes Go.WideShapes Go.ChangeAt Go.RowKit

def tysMc : List Nat := [49, 24, 4, 22, 72]
theorem tysMc_ok : tysMc.all (subOk Tryd.prog tysMc) = true := by kernel_rfl

theorem mc_contract (H : Type) (enc : TypeId × Value → H) (W : World) (args : Array Value) (ds gs : List (DataW H)) (before : List MemPlace) (hG : GW noS W)
    (hW : DataW.Whole enc Tryd.prog Tryd.f9.params.toList Rows.modularCongruencesSpec.vars Rows.modularCongruencesRow.apart W args.toList ds gs before) :
    Calls Tryd.prog 9 args W fun e W' => ∃ v, e = .returned v ∧ Rows.modularCongruencesSpec.post enc Tryd.prog Tryd.f9 Rows.modularCongruencesRow.apart Rows.modularCongruencesRow.fresh Rows.modularCongruencesRow.handsOn Rows.modularCongruencesRow.again W args v W' := by
  have hW' := hW
  obtain ⟨p, q, hA, hV, rfl, hfz, hnd⟩ := hW
  rw [Tryd.params9] at hA
  obtain ⟨v0, v1, d0, d1, p0, p1, rfl, rfl, rfl, h0, h1⟩ := trodAll_two hA
  obtain ⟨rfl, rfl⟩ := trodVars_none hV
  obtain ⟨b1, b2, b3, l1, l2, l3, r0, w1, w2, w3⟩ := rep_three h0
  obtain ⟨b4, l4, r1, w4⟩ := rep_raw h1
  refine law_calls c_mcong rfl rfl tysMc_ok (by rw [Tryd.params9]; decide) hW' hG ⟨[threeV b1 b2 b3 l1 l2 l3, rawM b4 l4], _, rfl, ⟨w1, w2, w3, w4⟩, _, _, rfl, r0, _, _, rfl, r1, rfl⟩ rfl

set_option maxHeartbeats 1600000 in
set_option maxRecDepth 100000 in
theorem mc_lifted (os : Os) (started : os.Started) (H : Type) (enc : TypeId × Value → H) :
    ReturnsInHanded {} Tryd.checked os 9 .any (fun w args => (Rows.modularCongruencesSpec.pre enc Tryd.prog Tryd.f9 [] false w args ∧ laidMetH Tryd.prog laid1 w) ∧ sizedMet enc Tryd.prog Tryd.f9 (OpenSpec.ofChange Rows.modularCongruencesSpec) false w args)
      (Rows.modularCongruencesSpec.post enc Tryd.prog Tryd.f9 false true false false) := by
  refine returnsInHanded_of_change_and (C := Tryd.checked) (X := fun w _ => laidMetH Tryd.prog laid1 w) (fun _ _ _ hh h => h.of_heap hh) own started (by kernel_rfl) Tryd.func9
    (ChangeSpec.witness_shaped (enc := enc) (C := Tryd.checked) (os := os) (X := fun w _ => laidMetH Tryd.prog laid1 w) false (World.doorLaid Tryd.prog 400 os) #[.agg #[.bool false, .slice none 0 0, .bool false, .slice none 0 0, .bool false, .slice none 0 0], .agg #[.bool false, .slice none 0 0]] 8 rfl (World.shaped_of_RefB (by kernel_rfl) (by kernel_rfl)) (by kernel_rfl) (by kernel_rfl) (by kernel_rfl) (door_met os _)) ?_
  intro W base args ds gs before hval0 hW _ _ hL _
  exact mc_contract H enc W args ds gs before (gw_of_laid hL) hW

theorem mc_over : Rows.ModularCongruencesSaid :=
  OpenClaim.holds_of_wide 9 Tryd.f9 rfl rfl rfl rfl rfl rfl rfl ⟨rfl, rfl, rfl, rfl, rfl⟩ rfl rfl rfl rfl rfl (by kernel_rfl) Tryd.func9 (by kernel_rfl)
    (of_decide_eq_true (by kernel_rfl)) (by unfold Func.isWrapper; first | (rw [if_pos (by decide +kernel)]; kernel_rfl) | (rw [if_neg (by decide +kernel)]; exact ⟨rfl, rfl⟩))
    (fun os started H enc _ => mc_lifted os started H enc)

theorem modularCongruences_holds : Rows.ModularCongruencesCardSaid :=
  Claim7.holds_tied_plain_at .later [] [.data] true (true, Rows.modularCongruencesCard.stood.harness.2) false
    mc_over (fun _ h => by cases h) (by kernel_rfl) (fun _ h => by cases h) modularCongruences_row_tie rfl ⟨rfl, rfl⟩ (by kernel_rfl) rfl
    (fun f fn hf hfn => by
      obtain rfl : f = 9 := Option.some.inj ((show Tryd.prog.funcNamed "algorist/algoristlaw03.ModularCongruences" = some 9 by kernel_rfl).symm.trans hf) |>.symm
      obtain rfl : fn = Tryd.f9 := (Option.some.inj (Tryd.func9.symm.trans hfn)).symm
      exact ⟨by kernel_rfl, fun j t ht => by
        rw [Tryd.params9] at ht
        have hm : t ∈ [49, 24] := by simpa using Array.mem_of_getElem? ht
        have hall : ([49, 24].all fun u => !Tryd.prog.wantsStandIn u) = true := by kernel_rfl
        exact (show Tryd.prog.wantsStandIn t = false by simpa using List.all_eq_true.1 hall t hm)⟩)
    (by kernel_rfl)

end Go.Proofs.YtcikhffhikgahaaDoor
