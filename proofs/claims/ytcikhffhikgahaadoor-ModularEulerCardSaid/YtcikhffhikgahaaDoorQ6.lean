/-
  ModularEuler: whatever the number and the number of 16 bits are: modulo the next prime, the number's power to half of the prime less one is the symbol.
-/
import Derived.Test.YtcikhffhikgahaaDoorW5
import Derived.Test.YtcikhffhikgahaaDoorW4


/-
  Number theory: the symbol of an odd number by the signs of the least residues; products over lists.
-/
namespace Go.Proofs.YtcikhffhikgahaaDoor
open Go Go.RowKit

/-! ### Lists -/
theorem perm_of_sub : ∀ (l l' : List Nat), l.Nodup → (∀ x ∈ l, x ∈ l') → l'.length ≤ l.length → l.Perm l'
  | [], l', _, _, h => by
    have : l' = [] := List.length_eq_zero_iff.1 (by simpa using h)
    rw [this]
  | x :: t, l', hn, hs, h => by
    have hx : x ∈ l' := hs x (List.mem_cons_self ..)
    have hn' := List.nodup_cons.1 hn
    have hl := List.length_erase_of_mem hx
    have h1 : t.Perm (l'.erase x) := perm_of_sub t (l'.erase x) hn'.2 (fun y hy => (List.mem_erase_of_ne (fun e : y = x => hn'.1 (e ▸ hy))).2 (hs y (List.mem_cons_of_mem _ hy))) (by
      have := List.length_pos_of_mem hx
      rw [List.length_cons] at h
      omega)
    exact (h1.cons x).trans (List.perm_cons_erase hx).symm
theorem nodup_map_on {f : Nat → Nat} : ∀ (l : List Nat), l.Nodup → (∀ x ∈ l, ∀ y ∈ l, f x = f y → x = y) → (l.map f).Nodup
  | [], _, _ => List.nodup_nil
  | x :: t, hn, hi => by
    have hn' := List.nodup_cons.1 hn
    rw [List.map_cons, List.nodup_cons]
    refine ⟨fun hm => ?_, nodup_map_on t hn'.2 fun a ha b hb => hi a (List.mem_cons_of_mem _ ha) b (List.mem_cons_of_mem _ hb)⟩
    obtain ⟨y, hy, e⟩ := List.mem_map.1 hm
    have := hi y (List.mem_cons_of_mem _ hy) x (List.mem_cons_self ..) e
    exact hn'.1 (this ▸ hy)
theorem perm_map_self {f : Nat → Nat} {l : List Nat} (hn : l.Nodup) (hm : ∀ x ∈ l, f x ∈ l) (hi : ∀ x ∈ l, ∀ y ∈ l, f x = f y → x = y) : (l.map f).Perm l :=
  perm_of_sub _ _ (nodup_map_on l hn hi) (fun y hy => by obtain ⟨x, hx, e⟩ := List.mem_map.1 hy; exact e ▸ hm x hx) (by simp)

def lprod : List Int → Int
  | [] => 1
  | x :: r => x * lprod r
def lsum : List Int → Int
  | [] => 0
  | x :: r => x + lsum r
theorem lprod_perm {l l' : List Int} (h : l.Perm l') : lprod l = lprod l' := by
  induction h with
  | nil => rfl
  | cons x _ ih => simp only [lprod, ih]
  | swap x y l => simp only [lprod]; rw [← Int.mul_assoc, ← Int.mul_assoc, Int.mul_comm y x]
  | trans _ _ h1 h2 => exact h1.trans h2
theorem lsum_perm {l l' : List Int} (h : l.Perm l') : lsum l = lsum l' := by
  induction h with
  | nil => rfl
  | cons x _ ih => simp only [lsum, ih]
  | swap x y l => simp only [lsum]; omega
  | trans _ _ h1 h2 => exact h1.trans h2
theorem lprod_mul (f g : Nat → Int) : ∀ l : List Nat, lprod (l.map fun k => f k * g k) = lprod (l.map f) * lprod (l.map g)
  | [] => rfl
  | x :: r => by
    simp only [List.map_cons, lprod, lprod_mul f g r]
    rw [Int.mul_assoc, Int.mul_assoc, Int.mul_left_comm (g x)]
theorem lsum_add (f g : Nat → Int) : ∀ l : List Nat, lsum (l.map fun k => f k + g k) = lsum (l.map f) + lsum (l.map g)
  | [] => rfl
  | x :: r => by
    simp only [List.map_cons, lsum, lsum_add f g r]
    omega
theorem lsum_mul (c : Int) (f : Nat → Int) : ∀ l : List Nat, lsum (l.map fun k => c * f k) = c * lsum (l.map f)
  | [] => by simp [lsum]
  | x :: r => by
    simp only [List.map_cons, lsum, lsum_mul c f r, Int.mul_add]
theorem lprod_pm (f : Nat → Int) : ∀ l : List Nat, (∀ k ∈ l, f k = 1 ∨ f k = -1) → lprod (l.map f) = 1 ∨ lprod (l.map f) = -1
  | [], _ => .inl rfl
  | x :: r, h => by
    simp only [List.map_cons, lprod]
    exact pm1_mul (h x (List.mem_cons_self ..)) (lprod_pm f r fun k hk => h k (List.mem_cons_of_mem _ hk))
theorem map_cong {f g : Nat → Int} {l : List Nat} (h : ∀ k ∈ l, f k = g k) : l.map f = l.map g := List.map_congr_left h

/-! ### Least residues -/
/-- The numbers from 1 to half of n. -/
def half1 (n : Nat) : List Nat := List.range' 1 (n / 2)
theorem mem_half {n k : Nat} : k ∈ half1 n ↔ 1 ≤ k ∧ k ≤ n / 2 := by
  unfold half1
  rw [List.mem_range'_1]
  omega
theorem nodup_half (n : Nat) : (half1 n).Nodup := List.nodup_range'
/-- The sign of the least residue of x modulo n, and its size. -/
def gs (n : Nat) (x : Int) : Int := if x % n ≤ n / 2 then 1 else -1
def gp (n : Nat) (x : Int) : Nat := if x % n ≤ n / 2 then (x % n).toNat else (n - x % n).toNat
theorem gs_pm (n : Nat) (x : Int) : gs n x = 1 ∨ gs n x = -1 := by
  unfold gs
  split
  · exact .inl rfl
  · exact .inr rfl
theorem gs_mod (n : Nat) (x : Int) : gs n (x % n) = gs n x := by
  unfold gs
  rw [Int.emod_emod_of_dvd _ (Int.dvd_refl (n : Int))]
theorem g_spec {n : Nat} (hn : n % 2 = 1) {x : Int} (hx : ¬ (n : Int) ∣ x) : (n : Int) ∣ x - gs n x * gp n x ∧ 1 ≤ gp n x ∧ gp n x ≤ n / 2 := by
  have h0 := Int.emod_nonneg x (show (n : Int) ≠ 0 by omega)
  have h1 := Int.emod_lt_of_pos x (show (0 : Int) < n by omega)
  have h2 : x % n ≠ 0 := fun e => hx (Int.dvd_of_emod_eq_zero e)
  have hd := Int.emod_def x n
  unfold gs gp
  split
  · refine ⟨⟨x / n, ?_⟩, by omega, by omega⟩
    rw [Int.one_mul]
    omega
  · refine ⟨⟨x / n + 1, ?_⟩, by omega, by omega⟩
    rw [Int.mul_add]
    omega
theorem g_uniq {n : Nat} (hn : n % 2 = 1) {x s : Int} {p : Nat} (hs : s = 1 ∨ s = -1) (h1 : 1 ≤ p) (h2 : p ≤ n / 2) (hd : (n : Int) ∣ x - s * p) : gs n x = s ∧ gp n x = p := by
  obtain ⟨c, hc⟩ := hd
  rcases hs with rfl | rfl
  · have e : x % n = p := by
      rw [show x = p + n * c by omega, Int.add_mul_emod_self_left, Int.emod_eq_of_lt (by omega) (by omega)]
    unfold gs gp
    rw [e, if_pos (by omega), if_pos (by omega)]
    exact ⟨rfl, by omega⟩
  · have e : x % n = n - p := by
      rw [show x = (n - p) + n * (c - 1) by rw [Int.mul_sub]; omega, Int.add_mul_emod_self_left, Int.emod_eq_of_lt (by omega) (by omega)]
    unfold gs gp
    rw [e, if_neg (by omega), if_neg (by omega)]
    exact ⟨rfl, by omega⟩
theorem ndvd_mul {n : Nat} {a : Int} (hg : Int.gcd a n = 1) {k : Int} (h : (n : Int) ∣ a * k) : (n : Int) ∣ k := by
  have h1 : n ∣ a.natAbs * k.natAbs := by
    have := Int.natAbs_dvd_natAbs.2 h
    rwa [Int.natAbs_mul, Int.natAbs_natCast] at this
  have h2 : Nat.Coprime n a.natAbs := by
    rw [Nat.coprime_comm]
    exact hg
  have h3 := Nat.Coprime.dvd_of_dvd_mul_left h2 h1
  exact Int.natAbs_dvd_natAbs.1 (by rwa [Int.natAbs_natCast])
theorem ndvd_small {n : Nat} {k : Nat} (h1 : 1 ≤ k) (h2 : k < n) : ¬ (n : Int) ∣ (k : Int) := fun h => by
  have := Nat.le_of_dvd (by omega) (Int.natCast_dvd_natCast.1 h)
  omega
theorem ndvd_half {n : Nat} {a : Int} (hg : Int.gcd a n = 1) {k : Nat} (hk : k ∈ half1 n) : ¬ (n : Int) ∣ a * k := fun h => by
  obtain ⟨h1, h2⟩ := mem_half.1 hk
  exact ndvd_small h1 (by omega) (ndvd_mul hg h)
/-- The sizes of the least residues of the multiples of a are the numbers up to half of n. -/
theorem gp_perm {n : Nat} (hn : n % 2 = 1) {a : Int} (hg : Int.gcd a n = 1) : ((half1 n).map fun k : Nat => gp n (a * k)).Perm (half1 n) := by
  refine perm_map_self (nodup_half n) (fun k hk => ?_) fun x hx y hy e => ?_
  · obtain ⟨_, h1, h2⟩ := g_spec hn (ndvd_half hg hk)
    exact mem_half.2 ⟨h1, h2⟩
  · obtain ⟨⟨c, hc⟩, _, _⟩ := g_spec hn (ndvd_half hg hx)
    obtain ⟨⟨d, hd⟩, _, _⟩ := g_spec hn (ndvd_half hg hy)
    rw [e] at hc
    obtain ⟨x1, x2⟩ := mem_half.1 hx
    obtain ⟨y1, y2⟩ := mem_half.1 hy
    generalize gp n (a * y) = p at *
    have key : (n : Int) ∣ (x : Int) - y ∨ (n : Int) ∣ (x : Int) + y := by
      rcases gs_pm n (a * x) with h | h <;> rcases gs_pm n (a * y) with k | k <;> rw [h] at hc <;> rw [k] at hd
      · exact .inl (ndvd_mul hg ⟨c - d, by rw [Int.mul_sub, Int.mul_sub]; omega⟩)
      · exact .inr (ndvd_mul hg ⟨c + d, by rw [Int.mul_add, Int.mul_add]; omega⟩)
      · exact .inr (ndvd_mul hg ⟨c + d, by rw [Int.mul_add, Int.mul_add]; omega⟩)
      · exact .inl (ndvd_mul hg ⟨c - d, by rw [Int.mul_sub, Int.mul_sub]; omega⟩)
    rcases key with ⟨z, hz⟩ | h
    · have hz0 : z = 0 := by
        rcases Int.lt_trichotomy z 0 with q | q | q
        · have : (n : Int) * z ≤ n * (-1) := Int.mul_le_mul_of_nonneg_left (by omega) (by omega)
          omega
        · exact q
        · have : (n : Int) * 1 ≤ n * z := Int.mul_le_mul_of_nonneg_left (by omega) (by omega)
          omega
      rw [hz0, Int.mul_zero] at hz
      omega
    · exact absurd (show (n : Int) ∣ ((x + y : Nat) : Int) by rwa [Int.natCast_add]) (ndvd_small (by omega) (by omega))

/-! ### The symbol -/
def gsy (n : Nat) (a : Int) : Int := lprod ((half1 n).map fun k : Nat => gs n (a * k))
theorem gsy_pm (n : Nat) (a : Int) : gsy n a = 1 ∨ gsy n a = -1 := lprod_pm _ _ fun _ _ => gs_pm _ _
theorem gsy_mod (n : Nat) (a : Int) : gsy n (a % n) = gsy n a := by
  unfold gsy
  rw [map_cong (fun k _ => ?_)]
  rw [← gs_mod, ← gs_mod n (a * k)]
  congr 1
  rw [Int.mul_emod, Int.emod_emod_of_dvd _ (Int.dvd_refl (n : Int)), ← Int.mul_emod]
theorem gsy_mul {n : Nat} (hn : n % 2 = 1) {a b : Int} (ha : Int.gcd a n = 1) (hb : Int.gcd b n = 1) : gsy n (a * b) = gsy n a * gsy n b := by
  have h1 : gsy n (a * b) = lprod ((half1 n).map fun k : Nat => gs n (a * (gp n (b * k) : Nat)) * gs n (b * k)) := by
    unfold gsy
    rw [map_cong (fun k hk => ?_)]
    obtain ⟨⟨c, hc⟩, p1, p2⟩ := g_spec hn (ndvd_half hb hk)
    obtain ⟨⟨d, hd⟩, q1, q2⟩ := g_spec hn (ndvd_half ha (mem_half.2 ⟨p1, p2⟩))
    refine (g_uniq hn (pm1_mul (gs_pm _ _) (gs_pm _ _)) q1 q2 ⟨a * c + gs n (b * k) * d, ?_⟩).1
    generalize gs n (b * k) = s at *
    generalize gp n (b * k) = p at *
    generalize gs n (a * p) = t at *
    generalize gp n (a * p) = q at *
    have e1 : b * k = s * p + n * c := by omega
    have e2 : a * p = t * q + n * d := by omega
    calc a * b * k - t * s * q = a * (b * k) - t * s * q := by rw [Int.mul_assoc]
      _ = a * (s * p + n * c) - t * s * q := by rw [e1]
      _ = s * (a * p) + n * (a * c) - t * s * q := by grind
      _ = s * (t * q + n * d) + n * (a * c) - t * s * q := by rw [e2]
      _ = n * (a * c + s * d) := by grind
  rw [h1, lprod_mul]
  congr 1
  unfold gsy
  have := lprod_perm ((gp_perm hn hb).map fun k : Nat => gs n (a * k))
  rw [List.map_map] at this
  exact this

end Go.Proofs.YtcikhffhikgahaaDoor

/-
  Number theory: the symbol of 2, reciprocity; the algorithm computes the symbol.
-/
namespace Go.Proofs.YtcikhffhikgahaaDoor
open Go Go.RowKit

/-- The sign of a parity. -/
def pm (c : Nat) : Int := if c % 2 = 0 then 1 else -1
theorem pm_add (a b : Nat) : pm (a + b) = pm a * pm b := by
  unfold pm
  rw [Nat.add_mod]
  rcases Nat.mod_two_eq_zero_or_one a with h | h <;> rcases Nat.mod_two_eq_zero_or_one b with k | k <;> rw [h, k] <;> decide
theorem pm_succ (a : Nat) : pm (a + 1) = -pm a := by
  rw [pm_add, show pm 1 = -1 from rfl, Int.mul_neg, Int.mul_one]
theorem pm_pm (a : Nat) : pm a = 1 ∨ pm a = -1 := by
  unfold pm
  split
  · exact .inl rfl
  · exact .inr rfl
theorem pm_sq (a : Nat) : pm a * pm a = 1 := sq_one (pm_pm a)
theorem pm_par {a b : Nat} (h : a % 2 = b % 2) : pm a = pm b := by unfold pm; rw [h]
theorem lprod_append : ∀ l r : List Int, lprod (l ++ r) = lprod l * lprod r
  | [], r => by rw [List.nil_append, lprod, Int.one_mul]
  | x :: l, r => by rw [List.cons_append, lprod, lprod, lprod_append l r, Int.mul_assoc]
theorem lprod_snoc (f : Nat → Int) (m : Nat) : lprod ((List.range' 1 (m + 1)).map f) = lprod ((List.range' 1 m).map f) * f (m + 1) := by
  rw [List.range'_concat, List.map_append, lprod_append]
  simp only [List.map_cons, List.map_nil, lprod, Int.mul_one, Nat.one_mul]
  rw [Nat.add_comm 1 m]
theorem lprod_count (n x : Nat) (hn : 0 < n) : ∀ m : Nat, lprod ((List.range' 1 m).map fun j => if n * j ≤ x then (-1 : Int) else 1) = pm (min m (x / n))
  | 0 => by rw [Nat.zero_min]; rfl
  | m + 1 => by
    rw [lprod_snoc, lprod_count n x hn m]
    have h : n * (m + 1) ≤ x ↔ m + 1 ≤ x / n := by rw [Nat.le_div_iff_mul_le hn, Nat.mul_comm]
    by_cases hc : m + 1 ≤ x / n
    · rw [if_pos (h.2 hc), Nat.min_eq_left hc, Nat.min_eq_left (by omega), pm_succ, Int.mul_neg, Int.mul_one]
    · rw [if_neg (fun e => hc (h.1 e)), Nat.min_eq_right (by omega), Nat.min_eq_right (by omega), Int.mul_one]
theorem lprod_swap (f : Nat → Nat → Int) (l' : List Nat) : ∀ l : List Nat, lprod (l.map fun k => lprod (l'.map fun j => f k j)) = lprod (l'.map fun j => lprod (l.map fun k => f k j))
  | [] => by
    simp only [List.map_nil, lprod]
    induction l' with
    | nil => rfl
    | cons x r ih => rw [List.map_cons, lprod, ← ih]; rfl
  | x :: r => by
    rw [List.map_cons, lprod, lprod_swap f l' r, ← lprod_mul]
    rfl
theorem lprod_const (c : Nat) : ∀ l : List Nat, lprod (l.map fun _ => pm c) = pm (l.length * c)
  | [] => by simp [lprod, pm]
  | x :: r => by
    rw [List.map_cons, lprod, lprod_const c r, List.length_cons, Nat.succ_mul, pm_add, Int.mul_comm]
theorem half_len (n : Nat) : (half1 n).length = n / 2 := List.length_range'

/-! ### 2 -/
theorem gsy_two {n : Nat} (hn : n % 2 = 1) : gsy n 2 = two8 n := by
  have h1 : gsy n 2 = lprod ((List.range' 1 (n / 2)).map fun j => (if 2 * j ≤ n / 2 then (-1 : Int) else 1) * pm 1) := by
    unfold gsy half1
    rw [map_cong (fun k hk => ?_)]
    obtain ⟨k1, k2⟩ := mem_half.1 hk
    unfold gs
    rw [Int.emod_eq_of_lt (by omega) (by omega)]
    by_cases h : 2 * k ≤ n / 2
    · rw [if_pos (by omega), if_pos h]; rfl
    · rw [if_neg (by omega), if_neg h]; rfl
  rw [h1, lprod_mul, lprod_count 2 (n / 2) (by omega), lprod_const, List.length_range', Nat.min_eq_right (by omega), ← pm_add, Nat.mul_one]
  unfold pm two8
  have h8 : n % 8 = 1 ∨ n % 8 = 3 ∨ n % 8 = 5 ∨ n % 8 = 7 := by omega
  rcases h8 with h | h | h | h
  · rw [if_pos (by omega), if_pos (by omega)]
  · rw [if_neg (by omega), if_neg (by omega), if_pos (by omega)]
  · rw [if_neg (by omega), if_neg (by omega), if_pos (by omega)]
  · rw [if_pos (by omega), if_pos (by omega)]

/-! ### Reciprocity -/
theorem gsy_floor {n m : Nat} (hn : n % 2 = 1) (hm : m % 2 = 1) (hg : Nat.gcd m n = 1) : gsy n m = lprod ((half1 n).map fun k => pm (m * k / n)) := by
  have hg' : Int.gcd m n = 1 := hg
  have e1 : lprod ((half1 n).map fun k => pm (m * k / n)) = lprod ((half1 n).map fun k : Nat => gs n (m * k) * (pm k * pm (gp n (m * k)))) := by
    rw [map_cong (fun k hk => ?_)]
    have hd := g_spec hn (ndvd_half hg' hk)
    obtain ⟨_, p1, p2⟩ := hd
    have q : (m : Int) * k % n = ((m * k % n : Nat) : Int) := by rw [← Int.natCast_mul]; rfl
    have hdm := Nat.div_add_mod (m * k) n
    have hlt := Nat.mod_lt (m * k) (show n > 0 by omega)
    have par : (m * k) % 2 = k % 2 := by rw [Nat.mul_mod, hm, Nat.one_mul, Nat.mod_mod]
    have par2 : (n * (m * k / n)) % 2 = (m * k / n) % 2 := by rw [Nat.mul_mod, hn, Nat.one_mul, Nat.mod_mod]
    unfold gs gp
    rw [q]
    generalize m * k % n = r at *
    generalize m * k / n = f at *
    generalize n * f = u at *
    split
    · rw [Int.one_mul, ← pm_add]
      apply pm_par
      omega
    · rw [← pm_add, Int.neg_mul, Int.one_mul, ← pm_succ]
      apply pm_par
      omega
  rw [e1, lprod_mul, lprod_mul]
  have hp := lprod_perm ((gp_perm hn hg').map fun k => pm k)
  rw [List.map_map] at hp
  have hp' : lprod ((half1 n).map fun k : Nat => pm (gp n (m * k))) = lprod ((half1 n).map fun k => pm k) := hp
  rw [hp', sq_one (lprod_pm _ _ fun k _ => pm_pm k), Int.mul_one]
  rfl
theorem floor_rows {n m k : Nat} (hm : m % 2 = 1) (hn : 0 < n) (hk : k ≤ n / 2) : pm (m * k / n) = lprod ((half1 m).map fun j => if n * j ≤ m * k then (-1 : Int) else 1) := by
  unfold half1
  rw [lprod_count n (m * k) hn]
  congr 1
  rw [Nat.min_eq_right]
  have h1 : m * k < n * (m / 2 + 1) := by
    have h2 : m * (2 * k) ≤ m * n := Nat.mul_le_mul_left _ (by omega)
    have h3 : n * (2 * (m / 2 + 1)) = n * (m + 1) := by congr 1; omega
    have h4 : m * (2 * k) = 2 * (m * k) := Nat.mul_left_comm _ _ _
    have h5 : n * (2 * (m / 2 + 1)) = 2 * (n * (m / 2 + 1)) := Nat.mul_left_comm _ _ _
    have h6 : n * (m + 1) = m * n + n := by rw [Nat.mul_add, Nat.mul_one, Nat.mul_comm]
    omega
  have := (Nat.div_lt_iff_lt_mul hn (x := m * k) (y := m / 2 + 1)).2 (by rw [Nat.mul_comm (m / 2 + 1)]; exact h1)
  omega
theorem gsy_recip {n m : Nat} (hn : n % 2 = 1) (hm : m % 2 = 1) (hg : Nat.gcd m n = 1) : gsy n m * gsy m n = rsg m n := by
  have a1 : gsy n m = lprod ((half1 n).map fun k => lprod ((half1 m).map fun j => if n * j ≤ m * k then (-1 : Int) else 1)) := by
    rw [gsy_floor hn hm hg]
    exact congrArg lprod (map_cong fun k hk => floor_rows hm (by omega) (mem_half.1 hk).2)
  have a2 : gsy m n = lprod ((half1 n).map fun k => lprod ((half1 m).map fun j => if m * k ≤ n * j then (-1 : Int) else 1)) := by
    rw [gsy_floor hm hn (by rw [Nat.gcd_comm]; exact hg), lprod_swap]
    exact congrArg lprod (map_cong fun k hk => floor_rows hn (by omega) (mem_half.1 hk).2)
  have a3 : gsy n m * gsy m n = lprod ((half1 n).map fun _ => pm (m / 2)) := by
    rw [a1, a2, ← lprod_mul]
    refine congrArg lprod (map_cong fun k hk => ?_)
    rw [← lprod_mul]
    have : lprod ((half1 m).map fun _ => pm 1) = pm (m / 2) := by rw [lprod_const, half_len, Nat.mul_one]
    rw [← this]
    refine congrArg lprod (map_cong fun j hj => ?_)
    obtain ⟨k1, k2⟩ := mem_half.1 hk
    have hne : m * k ≠ n * j := fun e => by
      have h1 : n ∣ m * k := ⟨j, e⟩
      have h2 := Nat.Coprime.dvd_of_dvd_mul_left (show Nat.Coprime n m by rw [Nat.coprime_comm]; exact hg) h1
      have := Nat.le_of_dvd (by omega) h2
      omega
    by_cases h : n * j ≤ m * k
    · rw [if_pos h, if_neg (by omega)]; rfl
    · rw [if_neg h, if_pos (by omega)]; rfl
  rw [a3, lprod_const, half_len]
  unfold pm rsg
  by_cases h : m % 4 = 3 ∧ n % 4 = 3
  · rw [if_pos h, if_neg]
    rw [Nat.mul_mod, show n / 2 % 2 = 1 by omega, show m / 2 % 2 = 1 by omega]
    decide
  · rw [if_neg h, if_pos]
    rcases Nat.mod_two_eq_zero_or_one (n / 2) with q | q
    · rw [Nat.mul_mod, q, Nat.zero_mul]
    · have : m / 2 % 2 = 0 := by omega
      rw [Nat.mul_mod, this, Nat.mul_zero]

/-! ### The algorithm -/
def chi (n : Nat) (a : Int) : Int := if Int.gcd a n = 1 then gsy n a else 0
theorem chi_mod (n : Nat) (a : Int) : chi n (a % n) = chi n a := by
  unfold chi
  rw [gsy_mod, gcd_mod]

end Go.Proofs.YtcikhffhikgahaaDoor

/-
  Number theory: the algorithm computes the symbol; the symbol is multiplicative in both numbers.
-/
namespace Go.Proofs.YtcikhffhikgahaaDoor
open Go Go.RowKit

theorem cop_mul_left {a b : Int} {n : Nat} : Int.gcd (a * b) n = 1 ↔ Int.gcd a n = 1 ∧ Int.gcd b n = 1 := by
  show Nat.gcd (a * b).natAbs n = 1 ↔ Nat.gcd a.natAbs n = 1 ∧ Nat.gcd b.natAbs n = 1
  rw [Int.natAbs_mul]
  constructor
  · intro h
    exact ⟨Nat.Coprime.coprime_dvd_left ⟨_, rfl⟩ h, Nat.Coprime.coprime_dvd_left ⟨_, Nat.mul_comm _ _⟩ h⟩
  · rintro ⟨h, k⟩
    exact Nat.Coprime.mul_left h k
theorem cop_mul_right {a : Int} {m n : Nat} : Int.gcd a (m * n : Nat) = 1 ↔ Int.gcd a m = 1 ∧ Int.gcd a n = 1 := by
  show Nat.gcd a.natAbs (m * n) = 1 ↔ Nat.gcd a.natAbs m = 1 ∧ Nat.gcd a.natAbs n = 1
  constructor
  · intro h
    exact ⟨Nat.Coprime.coprime_dvd_right ⟨_, rfl⟩ h, Nat.Coprime.coprime_dvd_right ⟨_, Nat.mul_comm _ _⟩ h⟩
  · rintro ⟨h, k⟩
    exact Nat.Coprime.mul_right h k
theorem gcd_two (n : Nat) : Nat.gcd n 2 = 1 ↔ n % 2 = 1 := by
  rw [Nat.gcd_comm, Nat.gcd_rec]
  rcases Nat.mod_two_eq_zero_or_one n with h | h <;> rw [h] <;> decide
theorem gcdI_two (a : Int) : Int.gcd a 2 = 1 ↔ a % 2 = 1 := by
  show Nat.gcd a.natAbs 2 = 1 ↔ _
  rw [gcd_two]
  omega
theorem two_cop {n : Nat} (h : n % 2 = 1) : Int.gcd 2 n = 1 := by
  show Nat.gcd 2 n = 1
  rw [Nat.gcd_comm]
  exact (gcd_two n).2 h

theorem chi_zero_iff {n : Nat} {a : Int} : chi n a = 0 ↔ ¬ Int.gcd a n = 1 := by
  unfold chi
  by_cases h : Int.gcd a n = 1
  · rw [if_pos h]
    have := gsy_pm n a
    constructor
    · intro e; omega
    · intro e; exact absurd h e
  · rw [if_neg h]
    exact ⟨fun _ => h, fun _ => rfl⟩
theorem chi_mul {n : Nat} (hn : n % 2 = 1) (a b : Int) : chi n (a * b) = chi n a * chi n b := by
  by_cases ha : Int.gcd a n = 1
  · by_cases hb : Int.gcd b n = 1
    · unfold chi
      rw [if_pos ha, if_pos hb, if_pos (cop_mul_left.2 ⟨ha, hb⟩), gsy_mul hn ha hb]
    · rw [chi_zero_iff.2 hb, Int.mul_zero, chi_zero_iff]
      exact fun h => hb (cop_mul_left.1 h).2
  · rw [chi_zero_iff.2 ha, Int.zero_mul, chi_zero_iff]
    exact fun h => ha (cop_mul_left.1 h).1
theorem chi_two {n : Nat} (hn : n % 2 = 1) : chi n 2 = two8 n := by
  unfold chi
  rw [if_pos (two_cop hn), gsy_two hn]
theorem chi_recip {n m : Nat} (hn : n % 2 = 1) (hm : m % 2 = 1) : chi n m = rsg m n * chi m n := by
  by_cases h : Nat.gcd m n = 1
  · have h1 : Int.gcd (m : Int) n = 1 := h
    have h2 : Int.gcd (n : Int) m = 1 := by rw [Int.gcd_comm]; exact h
    unfold chi
    rw [if_pos h1, if_pos h2, ← gsy_recip hn hm h, Int.mul_assoc, sq_one (gsy_pm m n), Int.mul_one]
  · have h1 : ¬ Int.gcd (m : Int) n = 1 := h
    have h2 : ¬ Int.gcd (n : Int) m = 1 := by rw [Int.gcd_comm]; exact h
    rw [chi_zero_iff.2 h1, chi_zero_iff.2 h2, Int.mul_zero]
theorem chi_at_zero (n : Nat) : chi n 0 = if n = 1 then 1 else 0 := by
  by_cases h : n = 1
  · subst h; decide
  · rw [if_neg h, chi_zero_iff]
    show ¬ Nat.gcd 0 n = 1
    rw [Nat.gcd_zero_left]
    exact h
theorem jac_chi : ∀ (a n : Nat), n % 2 = 1 → jac a n = chi n a := by
  intro a
  induction a using Nat.strongRecOn with
  | ind a ih =>
    intro n hn
    by_cases h0 : a = 0
    · subst h0
      rw [jac_zero]
      exact (chi_at_zero n).symm
    by_cases h2 : a % 2 = 0
    · rw [jac_even h0 h2, ih (a / 2) (by omega) n hn, ← chi_two hn, ← chi_mul hn]
      congr 1; omega
    · have ho : a % 2 = 1 := by omega
      rw [jac_odd ho, ih (n % a) (Nat.mod_lt _ (by omega)) a ho, chi_recip hn ho]
      congr 1
      rw [← chi_mod a n]
      rfl
theorem two8_mul (a b : Int) : two8 (a * b) = two8 a * two8 b := by
  have h : ∀ x y : Fin 8, two8 ((x.val : Int) * y.val) = two8 x.val * two8 y.val := by decide
  have m8 : ∀ x : Int, two8 (x % 8) = two8 x := fun x => by unfold two8; rw [Int.emod_emod_of_dvd _ (Int.dvd_refl 8)]
  have ha : 0 ≤ a % 8 ∧ a % 8 < 8 := by omega
  have hb : 0 ≤ b % 8 ∧ b % 8 < 8 := by omega
  have := h ⟨(a % 8).toNat, by omega⟩ ⟨(b % 8).toNat, by omega⟩
  simp only [Int.toNat_of_nonneg ha.1, Int.toNat_of_nonneg hb.1] at this
  rw [m8, m8] at this
  rw [← this, ← m8, Int.mul_emod, m8]
theorem rsg_mul {a m n : Nat} (ha : a % 2 = 1) (hm : m % 2 = 1) (hn : n % 2 = 1) : rsg a (m * n) = rsg a m * rsg a n := by
  have h4 : ∀ x : Nat, x % 2 = 1 → x % 4 = 1 ∨ x % 4 = 3 := fun x h => by omega
  unfold rsg
  rw [Nat.mul_mod]
  rcases h4 a ha with h | h <;> rcases h4 m hm with k | k <;> rcases h4 n hn with l | l <;> rw [h, k, l] <;> decide
theorem odd_mul {m n : Nat} (hm : m % 2 = 1) (hn : n % 2 = 1) : (m * n) % 2 = 1 := by rw [Nat.mul_mod, hm, hn]
theorem chi_mul_nat {m n : Nat} (hm : m % 2 = 1) (hn : n % 2 = 1) : ∀ a : Nat, chi (m * n) a = chi m a * chi n a := by
  intro a
  induction a using Nat.strongRecOn with
  | ind a ih =>
    have hmn := odd_mul hm hn
    by_cases h0 : a = 0
    · subst h0
      show chi (m * n) 0 = chi m 0 * chi n 0
      rw [chi_at_zero, chi_at_zero, chi_at_zero]
      by_cases h1 : m = 1
      · rw [h1, Nat.one_mul, if_pos rfl, Int.one_mul]
      · rw [if_neg h1, Int.zero_mul, if_neg (fun e => h1 (Nat.eq_one_of_mul_eq_one_right e))]
    by_cases h2 : a % 2 = 0
    · have e : (a : Int) = 2 * ((a / 2 : Nat) : Int) := by omega
      rw [e, chi_mul hmn, chi_mul hm, chi_mul hn, ih (a / 2) (by omega), chi_two hmn, chi_two hm, chi_two hn, Int.natCast_mul, two8_mul]
      generalize two8 m = x; generalize two8 n = y; generalize chi m _ = z; generalize chi n _ = w
      grind
    · have ho : a % 2 = 1 := by omega
      rw [chi_recip hmn ho, chi_recip hm ho, chi_recip hn ho, rsg_mul ho hm hn, Int.natCast_mul, chi_mul ho]
      generalize chi a m = x; generalize chi a n = y; generalize rsg a m = z; generalize rsg a n = w
      grind
theorem chi_cong {n : Nat} {a b : Int} (h : a % n = b % n) : chi n a = chi n b := by rw [← chi_mod, h, chi_mod]
theorem chi_mul_right {m n : Nat} (hm : m % 2 = 1) (hn : n % 2 = 1) (a : Int) : chi (m * n) a = chi m a * chi n a := by
  have hmn := odd_mul hm hn
  have h0 := Int.emod_nonneg a (show ((m * n : Nat) : Int) ≠ 0 by omega)
  have e : a % (m * n : Nat) = (((a % (m * n : Nat)).toNat : Nat) : Int) := by omega
  have e1 : (a % (m * n : Nat)) % (m : Int) = a % m := Int.emod_emod_of_dvd _ ⟨n, by rw [Int.natCast_mul]⟩
  have e2 : (a % (m * n : Nat)) % (n : Int) = a % n := Int.emod_emod_of_dvd _ ⟨m, by rw [Int.natCast_mul, Int.mul_comm]⟩
  rw [← chi_mod, ← chi_cong e1, ← chi_cong e2, e]
  exact chi_mul_nat hm hn _

/-! ### All positive numbers -/
theorem kr_chi {a : Int} {n : Nat} (hn : n % 2 = 1) : kr a n = chi n a := by
  have h0 := Int.emod_nonneg a (show (n : Int) ≠ 0 by omega)
  rw [kr_odd hn, jac_chi _ _ hn, ← chi_mod n a]
  congr 1; omega
theorem kr_mul_left {n : Nat} (h0 : n ≠ 0) (a b : Int) : kr (a * b) n = kr a n * kr b n := by
  induction n using Nat.strongRecOn with
  | ind n ih =>
    by_cases h2 : n % 2 = 0
    · rw [kr_even h0 h2, kr_even h0 h2, kr_even h0 h2, ih (n / 2) (by omega) (by omega), two8_mul]
      grind
    · rw [kr_chi (by omega), kr_chi (by omega), kr_chi (by omega), chi_mul (by omega)]
theorem kr_mul_right (a : Int) : ∀ (m n : Nat), m ≠ 0 → n ≠ 0 → kr a (m * n) = kr a m * kr a n := by
  intro m
  induction m using Nat.strongRecOn with
  | ind m ihm =>
    intro n
    induction n using Nat.strongRecOn with
    | ind n ihn =>
      intro hm hn
      have hmn : m * n ≠ 0 := Nat.mul_ne_zero hm hn
      by_cases h2 : m % 2 = 0
      · have e : m * n / 2 = m / 2 * n := by
          obtain ⟨c, rfl⟩ : ∃ c, m = 2 * c := ⟨m / 2, by omega⟩
          rw [Nat.mul_assoc, Nat.mul_div_cancel_left _ (by omega), Nat.mul_div_cancel_left _ (by omega)]
        rw [kr_even hmn (by rw [Nat.mul_mod, h2, Nat.zero_mul]), kr_even hm h2, e, ihm (m / 2) (by omega) n (by omega) hn, Int.mul_assoc]
      by_cases k2 : n % 2 = 0
      · have e : m * n / 2 = m * (n / 2) := by
          obtain ⟨c, rfl⟩ : ∃ c, n = 2 * c := ⟨n / 2, by omega⟩
          rw [Nat.mul_left_comm, Nat.mul_div_cancel_left _ (by omega), Nat.mul_div_cancel_left _ (by omega)]
        rw [kr_even hmn (by rw [Nat.mul_mod, k2, Nat.mul_zero]), kr_even hn k2, e, ihn (n / 2) (by omega) hm (by omega)]
        grind
      · rw [kr_chi (odd_mul (by omega) (by omega)), kr_chi (by omega), kr_chi (by omega), chi_mul_right (by omega) (by omega)]
theorem kr_zero_iff {n : Nat} (h0 : n ≠ 0) (a : Int) : kr a n = 0 ↔ ¬ Int.gcd a n = 1 := by
  induction n using Nat.strongRecOn with
  | ind n ih =>
    by_cases h2 : n % 2 = 0
    · have e : n = 2 * (n / 2) := by omega
      have hc : Int.gcd a n = 1 ↔ Int.gcd a 2 = 1 ∧ Int.gcd a (n / 2 : Nat) = 1 := by
        conv => lhs; rw [e]
        exact cop_mul_right (m := 2)
      rw [kr_even h0 h2, hc, gcdI_two, Int.mul_eq_zero, ih (n / 2) (by omega) (by omega)]
      have ht : two8 a = 0 ↔ ¬ a % 2 = 1 := by
        by_cases h : a % 2 = 1
        · have := two8_odd h
          constructor
          · intro e; omega
          · intro e; exact absurd h e
        · rw [two8_even h]; simp [h]
      rw [ht]
      constructor
      · rintro (h | h) ⟨h3, h4⟩
        · exact h h3
        · exact h h4
      · intro h
        by_cases h3 : a % 2 = 1
        · exact .inr fun h4 => h ⟨h3, h4⟩
        · exact .inl h3
    · rw [kr_chi (by omega), chi_zero_iff]
theorem kr_pm {n : Nat} (h0 : n ≠ 0) (a : Int) : kr a n = 0 ∨ kr a n = 1 ∨ kr a n = -1 := by
  induction n using Nat.strongRecOn with
  | ind n ih =>
    by_cases h2 : n % 2 = 0
    · rw [kr_even h0 h2]
      by_cases h : a % 2 = 1
      · rcases two8_odd h with q | q <;> rcases ih (n / 2) (by omega) (by omega) with r | r | r <;> rw [q, r] <;> decide
      · rw [two8_even h, Int.zero_mul]; exact .inl rfl
    · rw [kr_chi (by omega)]
      unfold chi
      split
      · exact .inr (gsy_pm n a)
      · exact .inl rfl

/-! ### All numbers -/
theorem kro_pm (a n : Int) : kro a n = 0 ∨ kro a n = 1 ∨ kro a n = -1 := by
  unfold kro
  split
  · split
    · exact .inr (.inl rfl)
    · exact .inl rfl
  · rcases kr_pm (n := n.natAbs) (by omega) a with h | h | h <;> rw [h] <;> split <;> decide
theorem kro_mul_left (a b n : Int) (ha : a ≠ 0) (hb : b ≠ 0) : kro (a * b) n = kro a n * kro b n := by
  unfold kro
  by_cases hn : n = 0
  · rw [if_pos hn, if_pos hn, if_pos hn, Int.natAbs_mul]
    by_cases h1 : a.natAbs = 1
    · rw [if_pos h1, h1, Nat.one_mul, Int.one_mul]
    · rw [if_neg h1, Int.zero_mul, if_neg (fun e => h1 (Nat.eq_one_of_mul_eq_one_right e))]
  · rw [if_neg hn, if_neg hn, if_neg hn, kr_mul_left (by omega)]
    by_cases h0 : n < 0
    · rcases Int.lt_or_gt_of_ne ha with p | p <;> rcases Int.lt_or_gt_of_ne hb with q | q
      · have := Int.mul_pos_of_neg_of_neg p q
        rw [if_neg (by omega), if_pos ⟨h0, p⟩, if_pos ⟨h0, q⟩]
        grind
      · have := Int.mul_neg_of_neg_of_pos p q
        rw [if_pos ⟨h0, this⟩, if_pos ⟨h0, p⟩, if_neg (by omega)]
        grind
      · have := Int.mul_neg_of_pos_of_neg p q
        rw [if_pos ⟨h0, this⟩, if_neg (by omega), if_pos ⟨h0, q⟩]
        grind
      · have := Int.mul_pos p q
        rw [if_neg (by omega), if_neg (by omega), if_neg (by omega)]
        grind
    · rw [if_neg (fun h => h0 h.1), if_neg (fun h => h0 h.1), if_neg (fun h => h0 h.1)]
      grind
theorem kro_mul_right (n a b : Int) (ha : a ≠ 0) (hb : b ≠ 0) : kro n (a * b) = kro n a * kro n b := by
  unfold kro
  have hab : a * b ≠ 0 := Int.mul_ne_zero ha hb
  rw [if_neg ha, if_neg hb, if_neg hab, Int.natAbs_mul, kr_mul_right n _ _ (by omega) (by omega)]
  by_cases h0 : n < 0
  · rcases Int.lt_or_gt_of_ne ha with p | p <;> rcases Int.lt_or_gt_of_ne hb with q | q
    · have := Int.mul_pos_of_neg_of_neg p q
      rw [if_neg (by omega), if_pos ⟨p, h0⟩, if_pos ⟨q, h0⟩]
      grind
    · have := Int.mul_neg_of_neg_of_pos p q
      rw [if_pos ⟨this, h0⟩, if_pos ⟨p, h0⟩, if_neg (by omega)]
      grind
    · have := Int.mul_neg_of_pos_of_neg p q
      rw [if_pos ⟨this, h0⟩, if_neg (by omega), if_pos ⟨q, h0⟩]
      grind
    · have := Int.mul_pos p q
      rw [if_neg (by omega), if_neg (by omega), if_neg (by omega)]
      grind
  · rw [if_neg (fun h => h0 h.2), if_neg (fun h => h0 h.2), if_neg (fun h => h0 h.2)]
    grind
theorem kro_zero_iff (a n : Int) : kro a n = 0 ↔ ¬ Int.gcd a n = 1 := by
  unfold kro
  by_cases hn : n = 0
  · rw [if_pos hn, hn, Int.gcd_zero_right]
    by_cases h : a.natAbs = 1
    · rw [if_pos h]; simp [h]
    · rw [if_neg h]; simp [h]
  · rw [if_neg hn]
    have hk := kr_zero_iff (n := n.natAbs) (by omega) a
    have hg : Int.gcd a (n.natAbs : Nat) = Int.gcd a n := by
      show Nat.gcd a.natAbs (n.natAbs : Int).natAbs = Nat.gcd a.natAbs n.natAbs
      rw [Int.natAbs_natCast]
    rw [hg] at hk
    rw [← hk]
    split <;> omega
theorem kro_recip {a b : Nat} (ha : a % 2 = 1) (hb : b % 2 = 1) : kro a b * kro b a = 0 ∨ kro a b * kro b a = rsg a b := by
  have e : ∀ x y : Nat, y % 2 = 1 → kro x y = chi y x := fun x y hy => by
    unfold kro
    rw [if_neg (by omega), if_neg (by omega), Int.one_mul, Int.natAbs_natCast, kr_chi hy]
  rw [e a b hb, e b a ha, chi_recip hb ha]
  by_cases h : chi a b = 0
  · rw [h]; exact .inl (by simp)
  · right
    have hc : chi a b = 1 ∨ chi a b = -1 := by
      unfold chi at h ⊢
      split
      · exact gsy_pm _ _
      · rename_i q; rw [if_neg q] at h; exact absurd rfl h
    rw [Int.mul_assoc, sq_one hc, Int.mul_one]

end Go.Proofs.YtcikhffhikgahaaDoor

/-
  Number theory: primes; Euler's criterion.
-/
namespace Go.Proofs.YtcikhffhikgahaaDoor
open Go Go.RowKit

theorem prime_div {p : Nat} (h : primeB p = true) : 1 < p ∧ ∀ d, d ∣ p → d = 1 ∨ d = p := by
  obtain ⟨h1, h2⟩ := primeB_iff.1 h
  refine ⟨h1, fun d hd => ?_⟩
  obtain ⟨e, he⟩ := hd
  by_cases c1 : d = 1
  · exact .inl c1
  by_cases c2 : e = 1
  · right; rw [he, c2, Nat.mul_one]
  exfalso
  have d0 : d ≠ 0 := fun q => by rw [q, Nat.zero_mul] at he; omega
  have e0 : e ≠ 0 := fun q => by rw [q, Nat.mul_zero] at he; omega
  rcases Nat.le_total d e with q | q
  · have h3 : d * d ≤ p := by rw [he]; exact Nat.mul_le_mul_left _ q
    exact h2 d (by omega) h3 (by rw [he]; exact Nat.mul_mod_right d e)
  · have h3 : e * e ≤ p := by rw [he]; exact Nat.mul_le_mul_right _ q
    exact h2 e (by omega) h3 (by rw [he]; exact Nat.mul_mod_left d e)
theorem prime_cop {p : Nat} (h : primeB p = true) {a : Int} (ha : ¬ (p : Int) ∣ a) : Int.gcd a p = 1 := by
  have hd : Int.gcd a p ∣ p := Nat.gcd_dvd_right a.natAbs p
  rcases (prime_div h).2 _ hd with e | e
  · exact e
  · have h3 : Int.gcd a p ∣ a.natAbs := Nat.gcd_dvd_left a.natAbs p
    rw [e] at h3
    exact absurd (Int.natAbs_dvd_natAbs.1 (by rwa [Int.natAbs_natCast])) ha
theorem prime_ncop {p : Nat} (h : primeB p = true) {a : Int} (ha : (p : Int) ∣ a) : ¬ Int.gcd a p = 1 := fun e => by
  have h1 := (prime_div h).1
  have h2 : p ∣ Int.gcd a p := Nat.dvd_gcd (by have := Int.natAbs_dvd_natAbs.2 ha; rwa [Int.natAbs_natCast] at this) (Nat.dvd_refl p)
  rw [e] at h2
  have := Nat.le_of_dvd (by omega) h2
  omega
theorem lprod_scale (a : Int) (f : Nat → Int) : ∀ l : List Nat, lprod (l.map fun k => a * f k) = a ^ l.length * lprod (l.map f)
  | [] => by simp [lprod]
  | x :: r => by
    simp only [List.map_cons, lprod, lprod_scale a f r, List.length_cons, Int.pow_succ]
    grind
theorem lprod_dvd {n : Int} (f g : Nat → Int) : ∀ l : List Nat, (∀ k ∈ l, n ∣ f k - g k) → n ∣ lprod (l.map f) - lprod (l.map g)
  | [], _ => ⟨0, by simp [lprod]⟩
  | x :: r, h => by
    obtain ⟨c, hc⟩ := h x (List.mem_cons_self ..)
    obtain ⟨d, hd⟩ := lprod_dvd f g r fun k hk => h k (List.mem_cons_of_mem _ hk)
    refine ⟨c * lprod (r.map f) + g x * d, ?_⟩
    simp only [List.map_cons, lprod]
    have e1 : f x = g x + n * c := by omega
    have e2 : lprod (r.map f) = lprod (r.map g) + n * d := by omega
    rw [e1, e2]
    grind
theorem lprod_cop {n : Nat} (f : Nat → Int) : ∀ l : List Nat, (∀ k ∈ l, Int.gcd (f k) n = 1) → Int.gcd (lprod (l.map f)) n = 1
  | [], _ => by
    show Nat.gcd 1 n = 1
    exact Nat.gcd_one_left n
  | x :: r, h => by
    rw [List.map_cons, lprod]
    exact cop_mul_left.2 ⟨h x (List.mem_cons_self ..), lprod_cop f r fun k hk => h k (List.mem_cons_of_mem _ hk)⟩
/-- Gauss's lemma. -/
theorem gauss {p : Nat} (hp : primeB p = true) (ho : p % 2 = 1) {a : Int} (ha : ¬ (p : Int) ∣ a) : (p : Int) ∣ a ^ (p / 2) - gsy p a := by
  have hg := prime_cop hp ha
  have h1 := lprod_dvd (n := (p : Int)) (fun k : Nat => a * (k : Int)) (fun k : Nat => gs p (a * k) * (gp p (a * k) : Nat)) (half1 p) fun k hk => (g_spec ho (ndvd_half hg hk)).1
  rw [lprod_scale, lprod_mul, half_len] at h1
  have hperm := lprod_perm ((gp_perm ho hg).map fun k : Nat => (k : Int))
  rw [List.map_map] at hperm
  have hperm' : lprod ((half1 p).map fun k : Nat => ((gp p (a * k) : Nat) : Int)) = lprod ((half1 p).map fun k : Nat => (k : Int)) := hperm
  rw [hperm'] at h1
  have hc := lprod_cop (n := p) (fun k : Nat => (k : Int)) (half1 p) fun k hk => prime_cop hp (ndvd_small (mem_half.1 hk).1 (by have := (mem_half.1 hk).2; have := (prime_div hp).1; omega))
  refine ndvd_mul hc ?_
  obtain ⟨c, hc⟩ := h1
  refine ⟨c, ?_⟩
  rw [← hc]
  show _ * _ = _ - gsy p a * _
  grind
/-- Euler's criterion. -/
theorem euler {p : Nat} (hp : primeB p = true) (ho : p % 2 = 1) (a : Int) : a ^ (p / 2) % p = chi p a % p := by
  by_cases ha : (p : Int) ∣ a
  · rw [chi_zero_iff.2 (prime_ncop hp ha), Int.zero_emod]
    have h1 := (prime_div hp).1
    obtain ⟨c, hc⟩ : ∃ c, p / 2 = c + 1 := ⟨p / 2 - 1, by omega⟩
    rw [hc, Int.pow_succ]
    exact Int.emod_eq_zero_of_dvd (Int.dvd_trans ha ⟨a ^ c, Int.mul_comm _ _⟩)
  · unfold chi
    rw [if_pos (prime_cop hp ha)]
    exact Int.emod_eq_emod_iff_emod_sub_eq_zero.2 (Int.emod_eq_zero_of_dvd (gauss hp ho ha))
theorem kro_chi (a : Int) {p : Nat} (hp : p % 2 = 1) : kro a p = chi p a := by
  unfold kro
  rw [if_neg (by omega), if_neg (by omega), Int.one_mul, Int.natAbs_natCast, kr_chi hp]

end Go.Proofs.YtcikhffhikgahaaDoor

/-
  The next prime, for all numbers of 16 bits; the walk of ModularEuler.
-/
namespace Go.Proofs.YtcikhffhikgahaaDoor
open Go Go.RowKit

/-- The next prime. -/
def nextQ (n : Nat) : Nat := nextPf (65537 - n) n
theorem primeB_f4 : primeB 65537 = true := by decide +kernel
def s_rprimeQ : FSpec
  | [.int .u16 z] => some (some (0 ≤ z ∧ z ≤ 65535), .ret (.int .i64 (nextQ z.toNat)))
  | _ => none
def a_rprimeQ (n : Nat) : Nat → MS → Option LoopAnn
  | 2, _ => some (.inv Nat (fun p => p ≤ 65537 ∧ nextPf (65537 - p) p = nextQ n) (fun p => ⟨12, [(3, .int .i64 p)], [], 0⟩) (fun p => 65537 - p))
  | _, _ => none
theorem vc_rprimeQ (n : Nat) : ((∃ i, (i ≤ (65537 : Nat) ∧ nextPf ((65537 : Nat) - i) i = nextQ n) ∧ (IntKind.wrap IntKind.i64 (↑n : Int) = (↑i : Int) ∧ True) ∧ True) ∧ ∀ (i : Nat), i ≤ (65537 : Nat) ∧ nextPf ((65537 : Nat) - i) i = nextQ n → ((0 : Int) ≤ (↑i : Int) ∧ (↑i : Int) ≤ (1000000000 : Int)) ∧ bif !primeB (Int.toNat (↑i : Int)) then ∃ j, (j ≤ (65537 : Nat) ∧ nextPf ((65537 : Nat) - j) j = nextQ n) ∧ ((IntKind.wrap IntKind.i64 ((↑i : Int) + (1 : Int)) = (↑j : Int) ∧ True) ∧ True) ∧ (65537 : Nat) - j < (65537 : Nat) - i else (↑i : Int) = (↑(nextQ n) : Int)) = evFn (env [c_isprime] (a_rprimeQ n)) Tryd.f11 [.int .u16 n] (MRes.sat (.ret (.int .i64 (nextQ n)))) := by kernel_rfl
theorem p_rprimeQ : Good Tryd.f11 s_rprimeQ := by
  intro ms p r h hp
  unfold s_rprimeQ at h
  split at h
  · rename_i z
    simp only [Option.some.injEq, Prod.mk.injEq] at h
    obtain ⟨rfl, rfl⟩ := h
    obtain ⟨h0, h1⟩ : 0 ≤ z ∧ z ≤ 65535 := hp
    obtain ⟨n, rfl⟩ := Int.eq_ofNat_of_zero_le h0
    refine ⟨env [c_isprime] (a_rprimeQ n), ?_⟩
    rw [show ((n : Int)).toNat = n from rfl, ← vc_rprimeQ n]
    have hP := primeB_f4
    refine ⟨⟨n, ⟨by omega, rfl⟩, (by rw [i64w (by omega) (by omega)]; exact ⟨rfl, True.intro⟩), True.intro⟩, ?_⟩
    rintro p ⟨hp, hn⟩
    rw [Int.toNat_natCast]
    refine ⟨by omega, ?_⟩
    cases hb : primeB p with
    | true =>
      show (p : Int) = (nextQ n : Int)
      have : nextPf (65537 - p) p = p := by
        cases h : 65537 - p with
        | zero => rfl
        | succ f => simp [nextPf, hb]
      rw [← hn, this]
    | false =>
      have hlt : p < 65537 := by
        rcases Nat.lt_or_ge p 65537 with q | q
        · exact q
        · have : p = 65537 := by omega
          subst this; rw [hP] at hb; simp at hb
      refine ⟨p + 1, ⟨by omega, ?_⟩, ⟨⟨by rw [i64w (by omega) (by omega)]; omega, True.intro⟩, True.intro⟩, by omega⟩
      rw [← hn, show 65537 - p = (65537 - (p + 1)) + 1 by omega]
      simp [nextPf, hb]
  · simp at h
def c_rprimeQ : Ctr Tryd.prog := ⟨11, s_rprimeQ, fun args w => Tryd.call11 args w, fn_ok mix Tryd.func11 s_rprimeQ p_rprimeQ⟩
theorem nextPf_prime : ∀ f p : Nat, p + f = 65537 → primeB (nextPf f p) = true ∧ p ≤ nextPf f p ∧ nextPf f p ≤ 65537
  | 0, p, h => by
    have : p = 65537 := by omega
    subst this
    exact ⟨primeB_f4, Nat.le_refl _, Nat.le_refl _⟩
  | f + 1, p, h => by
    simp only [nextPf]
    cases hb : primeB p with
    | true => exact ⟨hb, Nat.le_refl _, by show p ≤ 65537; omega⟩
    | false =>
      obtain ⟨h1, h2, h3⟩ := nextPf_prime f (p + 1) (by omega)
      exact ⟨h1, by show p ≤ nextPf f (p + 1); omega, h3⟩
theorem nextQ_prime {n : Nat} (h : n ≤ 65535) : primeB (nextQ n) = true ∧ nextQ n ≤ 65537 := by
  obtain ⟨h1, _, h3⟩ := nextPf_prime (65537 - n) n (by omega)
  exact ⟨h1, h3⟩
theorem prime_odd {p : Nat} (h : primeB p = true) (h2 : p ≠ 2) : p % 2 = 1 := by
  rcases Nat.mod_two_eq_zero_or_one p with e | e
  · rcases (prime_div h).2 2 (Nat.dvd_of_mod_eq_zero e) with q | q
    · omega
    · omega
  · exact e

theorem vc_meul (b : Bool) (l : List Int) (n : Nat) : (((0 : Int) ≤ (↑n : Int) ∧ (↑n : Int) ≤ (65535 : Int)) ∧ bif (↑(nextQ (Int.toNat (↑n : Int))) : Int) == (2 : Int) then true = true else ((∀ (x : Int), x ∈ l → (0 : Int) ≤ x ∧ x < (4294967296 : Int)) ∧ (0 : Int) ≤ (3 : Int) ∧ (3 : Int) ≤ (1000 : Int) ∧ List.length l < (9223372036854775808 : Nat)) ∧ ((2 : Int) = (0 : Int) → False) ∧ ((-9223372036854775808 : Int) ≤ IntKind.wrap IntKind.i64 (Int.tdiv (IntKind.wrap IntKind.i64 ((↑(nextQ (Int.toNat (↑n : Int))) : Int) - (1 : Int))) (2 : Int)) ∧ IntKind.wrap IntKind.i64 (Int.tdiv (IntKind.wrap IntKind.i64 ((↑(nextQ (Int.toNat (↑n : Int))) : Int) - (1 : Int))) (2 : Int)) ≤ (9223372036854775807 : Int)) ∧ ((-9223372036854775808 : Int) ≤ (↑(nextQ (Int.toNat (↑n : Int))) : Int) ∧ (↑(nextQ (Int.toNat (↑n : Int))) : Int) ≤ (9223372036854775807 : Int)) ∧ ((32 : Nat) * Int.toNat (3 : Int) ≤ (1000 : Nat) ∧ (64 : Nat) ≤ (1000 : Nat) ∧ (64 : Nat) ≤ (1000 : Nat)) ∧ ((-9223372036854775808 : Int) ≤ (↑(nextQ (Int.toNat (↑n : Int))) : Int) ∧ (↑(nextQ (Int.toNat (↑n : Int))) : Int) ≤ (9223372036854775807 : Int)) ∧ ((32 : Nat) * Int.toNat (3 : Int) ≤ (200000 : Nat) ∧ (64 : Nat) ≤ (200000 : Nat)) ∧ bif kro (madeI b l (Int.toNat (3 : Int))) (↑(nextQ (Int.toNat (↑n : Int))) : Int) == (0 : Int) then ((64 : Nat) ≤ (10000 : Nat) ∧ (-9223372036854775808 : Int) ≤ (0 : Int) ∧ (0 : Int) ≤ (9223372036854775807 : Int)) ∧ bif decide (powE (madeI b l (Int.toNat (3 : Int))) (IntKind.wrap IntKind.i64 (Int.tdiv (IntKind.wrap IntKind.i64 ((↑(nextQ (Int.toNat (↑n : Int))) : Int) - (1 : Int))) (2 : Int))) (↑(nextQ (Int.toNat (↑n : Int))) : Int) = (0 : Int)) && decide (powV (madeI b l (Int.toNat (3 : Int))) (IntKind.wrap IntKind.i64 (Int.tdiv (IntKind.wrap IntKind.i64 ((↑(nextQ (Int.toNat (↑n : Int))) : Int) - (1 : Int))) (2 : Int))) (↑(nextQ (Int.toNat (↑n : Int))) : Int) = (0 : Int)) then true = true else false = true else bif kro (madeI b l (Int.toNat (3 : Int))) (↑(nextQ (Int.toNat (↑n : Int))) : Int) == (1 : Int) then ((64 : Nat) ≤ (10000 : Nat) ∧ (-9223372036854775808 : Int) ≤ (1 : Int) ∧ (1 : Int) ≤ (9223372036854775807 : Int)) ∧ bif decide (powE (madeI b l (Int.toNat (3 : Int))) (IntKind.wrap IntKind.i64 (Int.tdiv (IntKind.wrap IntKind.i64 ((↑(nextQ (Int.toNat (↑n : Int))) : Int) - (1 : Int))) (2 : Int))) (↑(nextQ (Int.toNat (↑n : Int))) : Int) = (0 : Int)) && decide (powV (madeI b l (Int.toNat (3 : Int))) (IntKind.wrap IntKind.i64 (Int.tdiv (IntKind.wrap IntKind.i64 ((↑(nextQ (Int.toNat (↑n : Int))) : Int) - (1 : Int))) (2 : Int))) (↑(nextQ (Int.toNat (↑n : Int))) : Int) = (1 : Int)) then true = true else false = true else ((64 : Nat) ≤ (10000 : Nat) ∧ (-9223372036854775808 : Int) ≤ IntKind.wrap IntKind.i64 ((↑(nextQ (Int.toNat (↑n : Int))) : Int) - (1 : Int)) ∧ IntKind.wrap IntKind.i64 ((↑(nextQ (Int.toNat (↑n : Int))) : Int) - (1 : Int)) ≤ (9223372036854775807 : Int)) ∧ bif decide (powE (madeI b l (Int.toNat (3 : Int))) (IntKind.wrap IntKind.i64 (Int.tdiv (IntKind.wrap IntKind.i64 ((↑(nextQ (Int.toNat (↑n : Int))) : Int) - (1 : Int))) (2 : Int))) (↑(nextQ (Int.toNat (↑n : Int))) : Int) = (0 : Int)) && decide (powV (madeI b l (Int.toNat (3 : Int))) (IntKind.wrap IntKind.i64 (Int.tdiv (IntKind.wrap IntKind.i64 ((↑(nextQ (Int.toNat (↑n : Int))) : Int) - (1 : Int))) (2 : Int))) (↑(nextQ (Int.toNat (↑n : Int))) : Int) = IntKind.wrap IntKind.i64 ((↑(nextQ (Int.toNat (↑n : Int))) : Int) - (1 : Int))) then true = true else false = true) = evFn (env [c_lex, c_rprimeQ, c_rMade, c_lof, c_lpow, c_kron, c_lis] noAnn) Tryd.f3 [rawM b l, .int .u16 n] (MRes.sat (.ret (.bool true))) := by kernel_rfl
def s_meul : FSpec
  | [.st [.bool _, .ws l], .int .u16 n] => some (some ((Wd l ∧ l.length < 9223372036854775808) ∧ (0 ≤ n ∧ n ≤ 65535)), .ret (.bool true))
  | _ => none
theorem p_meul : Good Tryd.f3 s_meul := by
  intro ms p r h hp
  unfold s_meul at h
  split at h
  · rename_i b l z
    simp only [Option.some.injEq, Prod.mk.injEq] at h
    obtain ⟨rfl, rfl⟩ := h
    obtain ⟨⟨w1, n1⟩, x1, x2⟩ : (Wd l ∧ l.length < 9223372036854775808) ∧ (0 ≤ z ∧ z ≤ 65535) := hp
    obtain ⟨n, rfl⟩ := Int.eq_ofNat_of_zero_le x1
    refine ⟨env [c_lex, c_rprimeQ, c_rMade, c_lof, c_lpow, c_kron, c_lis] noAnn, ?_⟩
    rw [← vc_meul b l n]
    obtain ⟨hP, hPl⟩ := nextQ_prime (n := n) (by omega)
    rw [Int.toNat_natCast]
    generalize nextQ n = q at *
    refine ⟨⟨by omega, by omega⟩, ?_⟩
    by_cases h2 : q = 2
    · subst h2; rfl
    rw [show ((q : Int) == 2) = false by simp only [beq_eq_false_iff_ne]; omega, cond_false]
    have ho := prime_odd hP h2
    have hq1 := (prime_div hP).1
    have e1 : IntKind.wrap IntKind.i64 ((q : Int) - 1) = (q : Int) - 1 := i64w (by omega) (by omega)
    have e2 : Int.tdiv ((q : Int) - 1) 2 = ((q / 2 : Nat) : Int) := by
      rw [Int.tdiv_eq_ediv_of_nonneg (by omega)]; omega
    have e3 : IntKind.wrap IntKind.i64 ((q / 2 : Nat) : Int) = ((q / 2 : Nat) : Int) := i64w (by omega) (by omega)
    rw [e1, e2, e3]
    refine ⟨⟨w1, by omega, by omega, n1⟩, by omega, ⟨by omega, by omega⟩, ⟨by omega, by omega⟩, ⟨by omega, by omega, by omega⟩, ⟨by omega, by omega⟩, ⟨by omega, by omega⟩, ?_⟩
    generalize madeI b l (Int.toNat 3) = a
    have hpE : powE a ((q / 2 : Nat) : Int) q = 0 := by
      unfold powE
      rw [if_pos (by omega), if_neg (fun h => by omega)]
    have hpV : powV a ((q / 2 : Nat) : Int) q = chi q a % q := by
      unfold powV powR
      rw [if_pos (by omega), if_neg (fun h => by omega), if_neg (by omega), ← euler hP ho a]
      rfl
    have hk : kro a q = chi q a := kro_chi a ho
    rw [hpE, hpV, hk]
    have hc : chi q a = 0 ∨ chi q a = 1 ∨ chi q a = -1 := by rw [← hk]; exact kro_pm a q
    rcases hc with h | h | h <;> rw [h]
    · exact ⟨⟨by omega, by omega, by omega⟩, rfl⟩
    · rw [show (1 : Int) % q = 1 from Int.emod_eq_of_lt (by omega) (by omega)]
      exact ⟨⟨by omega, by omega, by omega⟩, rfl⟩
    · have e4 : (-1 : Int) % q = q - 1 := by
        rw [show (-1 : Int) = ((q : Int) - 1) + q * (-1) by omega, Int.add_mul_emod_self_left]
        exact Int.emod_eq_of_lt (by omega) (by omega)
      rw [e4, decide_eq_true (show (0 : Int) = 0 from rfl), decide_eq_true (show (q : Int) - 1 = q - 1 from rfl)]
      exact ⟨⟨by omega, by omega, by omega⟩, rfl⟩
  · simp at h
def c_meul : Ctr Tryd.prog := ⟨3, s_meul, fun args w => Tryd.call3 args w, fn_ok mix Tryd.func3 s_meul p_meul⟩

end Go.Proofs.YtcikhffhikgahaaDoor

/-
  The frame of the laws of chapter 03: pairs of numbers of 16 bits; numbers.
-/
namespace Go.Proofs.YtcikhffhikgahaaDoor
open Go Go.ChangeShapes Go.WideShapes Go.ChangeAt Go.RowKit

theorem cells_two16 : Tryd.prog.cellsOf 61 = 2 := by kernel_rfl
theorem cells_i16 : Tryd.prog.cellsOf 39 = 1 := by kernel_rfl
theorem rep_two16 {H : Type} {enc : TypeId × Value → H} {w : World} {sp : Nat → Bool} {held : Bool} {v : Value} {d : DataW H} {ps : List MemPlace} (h : DataW.Trod enc Tryd.prog w 0 sp held 61 v d ps) :
    ∃ k0 k1, Rep1 (Ctx.args noS) w (.st [.int .i16 k0, .int .i16 k1]) v ∧ (-32768 ≤ k0 ∧ k0 ≤ 32767) ∧ (-32768 ≤ k1 ∧ k1 ≤ 32767) := by
  obtain ⟨fuel, h⟩ := h
  obtain ⟨hl, f', hf⟩ := trod_array Tryd.underlying61 h
  rw [cells_two16] at hl
  match hc : v.cells.toList, hl with
  | [a, b], _ =>
    rw [hc, cells_i16] at hf
    obtain ⟨y0, h0⟩ := hf 0 (by decide)
    obtain ⟨y1, h1⟩ := hf 1 (by decide)
    obtain ⟨n0, e0, w0⟩ := trod_int Tryd.underlying39 h0
    obtain ⟨n1, e1, w1⟩ := trod_int Tryd.underlying39 h1
    have z0 : [a] = [.int .i16 n0] := e0
    have z1 : [b] = [.int .i16 n1] := e1
    simp only [List.cons.injEq, and_true] at z0 z1
    subst z0 z1
    exact ⟨n0, n1, (rep1_agg rfl).2 ⟨_, agg_cells hc, _, _, rfl, rfl, _, _, rfl, rfl, rfl⟩, i16_wf w0, i16_wf w1⟩
theorem ok_at {P : Program} {W : World} {base : Nat} {args : Array Value} {ts : Array TypeId} (hval : ∀ (j : Nat) t v, ts[j]? = some t → args[j]? = some v → Value.okWide P W .any base t v) {j : Nat} {t : TypeId} {v : Value} (h1 : ts[j]? = some t) (h2 : args[j]? = some v) : Value.okWide P W .any base t v := hval j t v h1 h2

end Go.Proofs.YtcikhffhikgahaaDoor

/-
  The frame of the laws of chapter 03: numbers of 64 bits.
-/
namespace Go.Proofs.YtcikhffhikgahaaDoor
open Go Go.ChangeShapes Go.WideShapes Go.ChangeAt Go.RowKit

theorem i64_wf {n : Int} (h : (Lit.int .i64 n).wf = true) : -9223372036854775808 ≤ n ∧ n ≤ 9223372036854775807 := by simpa [Lit.wf, IntKind.min, IntKind.max, IntKind.signed, IntKind.bits] using h

end Go.Proofs.YtcikhffhikgahaaDoor

namespace Go.Proofs.YtcikhffhikgahaaDoor
open Go Go.ChangeShapes Go.WideShapes Go.ChangeAt Go.RowKit

def tysModularEuler : List Nat := [24, 4, 22, 72, 25]
theorem tysModularEuler_ok : tysModularEuler.all (subOk Tryd.prog tysModularEuler) = true := by kernel_rfl
theorem parModularEuler1 : Tryd.f3.params[1]? = some 25 := by rw [Tryd.params3]; rfl

set_option maxRecDepth 100000 in
theorem modularEuler_contract (H : Type) (enc : TypeId × Value → H) (W : World) (base : Nat) (args : Array Value) (ds gs : List (DataW H)) (before : List MemPlace) (hG : GW noS W)
    (hval : ∀ (j : Nat) t v, Tryd.f3.params[j]? = some t → args[j]? = some v → Value.okWide Tryd.prog W .any base t v)
    (hW : DataW.Whole enc Tryd.prog Tryd.f3.params.toList Rows.modularEulerSpec.vars Rows.modularEulerRow.apart W args.toList ds gs before) :
    Calls Tryd.prog 3 args W fun e W' => ∃ v, e = .returned v ∧ Rows.modularEulerSpec.post enc Tryd.prog Tryd.f3 Rows.modularEulerRow.apart Rows.modularEulerRow.fresh Rows.modularEulerRow.handsOn Rows.modularEulerRow.again W args v W' := by
  have hW' := hW
  obtain ⟨p, q, hA, hV, rfl, hfz, hnd⟩ := hW
  rw [Tryd.params3] at hA
  obtain ⟨v0, v1, d0, d1, p0, p1, rfl, rfl, rfl, h0, h1⟩ := trodAll_two hA
  obtain ⟨rfl, rfl⟩ := trodVars_none hV
  obtain ⟨b0, l0, r0, w0⟩ := rep_raw h0
  obtain ⟨z1, rfl, _, _, hw1⟩ := open_int Tryd.underlying25 (ok_at hval parModularEuler1 rfl) h1
  have r1 : Rep1 (Ctx.args noS) W (.int .u16 z1) (.int .u16 z1) := rfl
  have w1 := u16_wf hw1
  refine law_calls c_meul rfl rfl tysModularEuler_ok (by rw [Tryd.params3]; decide) hW' hG ⟨[rawM b0 l0, .int .u16 z1], _, rfl, ⟨w0, w1⟩, _, _, rfl, r0, _, _, rfl, r1, rfl⟩ rfl

set_option maxHeartbeats 1600000 in
set_option maxRecDepth 100000 in
theorem modularEuler_lifted (os : Os) (started : os.Started) (H : Type) (enc : TypeId × Value → H) :
    ReturnsInHanded {} Tryd.checked os 3 .any (fun w args => (Rows.modularEulerSpec.pre enc Tryd.prog Tryd.f3 [] false w args ∧ laidMetH Tryd.prog laid1 w) ∧ sizedMet enc Tryd.prog Tryd.f3 (OpenSpec.ofChange Rows.modularEulerSpec) false w args)
      (Rows.modularEulerSpec.post enc Tryd.prog Tryd.f3 false true false false) := by
  refine returnsInHanded_of_change_and (C := Tryd.checked) (X := fun w _ => laidMetH Tryd.prog laid1 w) (fun _ _ _ hh h => h.of_heap hh) own started (by kernel_rfl) Tryd.func3
    (ChangeSpec.witness_shaped (enc := enc) (C := Tryd.checked) (os := os) (X := fun w _ => laidMetH Tryd.prog laid1 w) false (World.doorLaid Tryd.prog 400 os) #[.agg #[.bool false, .slice none 0 0], .int .u16 0] 8 rfl (World.shaped_of_RefB (by kernel_rfl) (by kernel_rfl)) (by kernel_rfl) (by kernel_rfl) (by kernel_rfl) (door_met os _)) ?_
  intro W base args ds gs before hval0 hW _ _ hL _
  exact modularEuler_contract H enc W base args ds gs before (gw_of_laid hL) hval0 hW

theorem modularEuler_over : Rows.ModularEulerSaid :=
  OpenClaim.holds_of_wide 3 Tryd.f3 rfl rfl rfl rfl rfl rfl rfl ⟨rfl, rfl, rfl, rfl, rfl⟩ rfl rfl rfl rfl rfl (by kernel_rfl) Tryd.func3 (by kernel_rfl)
    (of_decide_eq_true (by kernel_rfl)) (by unfold Func.isWrapper; first | (rw [if_pos (by decide +kernel)]; kernel_rfl) | (rw [if_neg (by decide +kernel)]; exact ⟨rfl, rfl⟩))
    (fun os started H enc _ => modularEuler_lifted os started H enc)

theorem modularEuler_holds : Rows.ModularEulerCardSaid :=
  Claim7.holds_tied_plain_at .later [] [.data] true (true, Rows.modularEulerCard.stood.harness.2) false
    modularEuler_over (fun _ h => by cases h) (by kernel_rfl) (fun _ h => by cases h) modularEuler_row_tie rfl ⟨rfl, rfl⟩ (by kernel_rfl) rfl
    (fun f fn hf hfn => by
      obtain rfl : f = 3 := Option.some.inj ((show Tryd.prog.funcNamed "algorist/algoristlaw03.ModularEuler" = some 3 by kernel_rfl).symm.trans hf) |>.symm
      obtain rfl : fn = Tryd.f3 := (Option.some.inj (Tryd.func3.symm.trans hfn)).symm
      exact ⟨by kernel_rfl, fun j t ht => by
        rw [Tryd.params3] at ht
        have hm : t ∈ [24, 25] := by simpa using Array.mem_of_getElem? ht
        have hall : ([24, 25].all fun u => !Tryd.prog.wantsStandIn u) = true := by kernel_rfl
        exact (show Tryd.prog.wantsStandIn t = false by simpa using List.all_eq_true.1 hall t hm)⟩)
    (by kernel_rfl)

end Go.Proofs.YtcikhffhikgahaaDoor
