/-
  ModularRoots: whatever the number and the number of 16 bits are: modulo the next prime and modulo 2^127 - 1, what Sqrt returns is a root that is not greater than its negative, and it returns one exactly if the symbol is not -1.
-/
import Derived.Test.YtcikhffhikgahaaDoorW5
import Derived.Test.YtcikhffhikgahaaDoorW4


/-
  Number theory: the symbol of an odd number by the signs of the least residues; products over lists.
-/
namespace Go.Proofs.YtcikhffhikgahaaDoor
open Go Go.RowKit

/-! ### Lists -/
theorem perm_of_sub : ∀ (l l' : List Nat), l.Nodup → (∀ x ∈ l, x ∈ l') → l'.length ≤ l.length → l.Perm l'
  | [], l', _, _, h => by
    have : l' = [] := List.length_eq_zero_iff.1 (by simpa using h)
    rw [this]
  | x :: t, l', hn, hs, h => by
    have hx : x ∈ l' := hs x (List.mem_cons_self ..)
    have hn' := List.nodup_cons.1 hn
    have hl := List.length_erase_of_mem hx
    have h1 : t.Perm (l'.erase x) := perm_of_sub t (l'.erase x) hn'.2 (fun y hy => (List.mem_erase_of_ne (fun e : y = x => hn'.1 (e ▸ hy))).2 (hs y (List.mem_cons_of_mem _ hy))) (by
      have := List.length_pos_of_mem hx
      rw [List.length_cons] at h
      omega)
    exact (h1.cons x).trans (List.perm_cons_erase hx).symm
theorem nodup_map_on {f : Nat → Nat} : ∀ (l : List Nat), l.Nodup → (∀ x ∈ l, ∀ y ∈ l, f x = f y → x = y) → (l.map f).Nodup
  | [], _, _ => List.nodup_nil
  | x :: t, hn, hi => by
    have hn' := List.nodup_cons.1 hn
    rw [List.map_cons, List.nodup_cons]
    refine ⟨fun hm => ?_, nodup_map_on t hn'.2 fun a ha b hb => hi a (List.mem_cons_of_mem _ ha) b (List.mem_cons_of_mem _ hb)⟩
    obtain ⟨y, hy, e⟩ := List.mem_map.1 hm
    have := hi y (List.mem_cons_of_mem _ hy) x (List.mem_cons_self ..) e
    exact hn'.1 (this ▸ hy)
theorem perm_map_self {f : Nat → Nat} {l : List Nat} (hn : l.Nodup) (hm : ∀ x ∈ l, f x ∈ l) (hi : ∀ x ∈ l, ∀ y ∈ l, f x = f y → x = y) : (l.map f).Perm l :=
  perm_of_sub _ _ (nodup_map_on l hn hi) (fun y hy => by obtain ⟨x, hx, e⟩ := List.mem_map.1 hy; exact e ▸ hm x hx) (by simp)

def lprod : List Int → Int
  | [] => 1
  | x :: r => x * lprod r
def lsum : List Int → Int
  | [] => 0
  | x :: r => x + lsum r
theorem lprod_perm {l l' : List Int} (h : l.Perm l') : lprod l = lprod l' := by
  induction h with
  | nil => rfl
  | cons x _ ih => simp only [lprod, ih]
  | swap x y l => simp only [lprod]; rw [← Int.mul_assoc, ← Int.mul_assoc, Int.mul_comm y x]
  | trans _ _ h1 h2 => exact h1.trans h2
theorem lsum_perm {l l' : List Int} (h : l.Perm l') : lsum l = lsum l' := by
  induction h with
  | nil => rfl
  | cons x _ ih => simp only [lsum, ih]
  | swap x y l => simp only [lsum]; omega
  | trans _ _ h1 h2 => exact h1.trans h2
theorem lprod_mul (f g : Nat → Int) : ∀ l : List Nat, lprod (l.map fun k => f k * g k) = lprod (l.map f) * lprod (l.map g)
  | [] => rfl
  | x :: r => by
    simp only [List.map_cons, lprod, lprod_mul f g r]
    rw [Int.mul_assoc, Int.mul_assoc, Int.mul_left_comm (g x)]
theorem lsum_add (f g : Nat → Int) : ∀ l : List Nat, lsum (l.map fun k => f k + g k) = lsum (l.map f) + lsum (l.map g)
  | [] => rfl
  | x :: r => by
    simp only [List.map_cons, lsum, lsum_add f g r]
    omega
theorem lsum_mul (c : Int) (f : Nat → Int) : ∀ l : List Nat, lsum (l.map fun k => c * f k) = c * lsum (l.map f)
  | [] => by simp [lsum]
  | x :: r => by
    simp only [List.map_cons, lsum, lsum_mul c f r, Int.mul_add]
theorem lprod_pm (f : Nat → Int) : ∀ l : List Nat, (∀ k ∈ l, f k = 1 ∨ f k = -1) → lprod (l.map f) = 1 ∨ lprod (l.map f) = -1
  | [], _ => .inl rfl
  | x :: r, h => by
    simp only [List.map_cons, lprod]
    exact pm1_mul (h x (List.mem_cons_self ..)) (lprod_pm f r fun k hk => h k (List.mem_cons_of_mem _ hk))
theorem map_cong {f g : Nat → Int} {l : List Nat} (h : ∀ k ∈ l, f k = g k) : l.map f = l.map g := List.map_congr_left h

/-! ### Least residues -/
/-- The numbers from 1 to half of n. -/
def half1 (n : Nat) : List Nat := List.range' 1 (n / 2)
theorem mem_half {n k : Nat} : k ∈ half1 n ↔ 1 ≤ k ∧ k ≤ n / 2 := by
  unfold half1
  rw [List.mem_range'_1]
  omega
theorem nodup_half (n : Nat) : (half1 n).Nodup := List.nodup_range'
/-- The sign of the least residue of x modulo n, and its size. -/
def gs (n : Nat) (x : Int) : Int := if x % n ≤ n / 2 then 1 else -1
def gp (n : Nat) (x : Int) : Nat := if x % n ≤ n / 2 then (x % n).toNat else (n - x % n).toNat
theorem gs_pm (n : Nat) (x : Int) : gs n x = 1 ∨ gs n x = -1 := by
  unfold gs
  split
  · exact .inl rfl
  · exact .inr rfl
theorem gs_mod (n : Nat) (x : Int) : gs n (x % n) = gs n x := by
  unfold gs
  rw [Int.emod_emod_of_dvd _ (Int.dvd_refl (n : Int))]
theorem g_spec {n : Nat} (hn : n % 2 = 1) {x : Int} (hx : ¬ (n : Int) ∣ x) : (n : Int) ∣ x - gs n x * gp n x ∧ 1 ≤ gp n x ∧ gp n x ≤ n / 2 := by
  have h0 := Int.emod_nonneg x (show (n : Int) ≠ 0 by omega)
  have h1 := Int.emod_lt_of_pos x (show (0 : Int) < n by omega)
  have h2 : x % n ≠ 0 := fun e => hx (Int.dvd_of_emod_eq_zero e)
  have hd := Int.emod_def x n
  unfold gs gp
  split
  · refine ⟨⟨x / n, ?_⟩, by omega, by omega⟩
    rw [Int.one_mul]
    omega
  · refine ⟨⟨x / n + 1, ?_⟩, by omega, by omega⟩
    rw [Int.mul_add]
    omega
theorem g_uniq {n : Nat} (hn : n % 2 = 1) {x s : Int} {p : Nat} (hs : s = 1 ∨ s = -1) (h1 : 1 ≤ p) (h2 : p ≤ n / 2) (hd : (n : Int) ∣ x - s * p) : gs n x = s ∧ gp n x = p := by
  obtain ⟨c, hc⟩ := hd
  rcases hs with rfl | rfl
  · have e : x % n = p := by
      rw [show x = p + n * c by omega, Int.add_mul_emod_self_left, Int.emod_eq_of_lt (by omega) (by omega)]
    unfold gs gp
    rw [e, if_pos (by omega), if_pos (by omega)]
    exact ⟨rfl, by omega⟩
  · have e : x % n = n - p := by
      rw [show x = (n - p) + n * (c - 1) by rw [Int.mul_sub]; omega, Int.add_mul_emod_self_left, Int.emod_eq_of_lt (by omega) (by omega)]
    unfold gs gp
    rw [e, if_neg (by omega), if_neg (by omega)]
    exact ⟨rfl, by omega⟩
theorem ndvd_mul {n : Nat} {a : Int} (hg : Int.gcd a n = 1) {k : Int} (h : (n : Int) ∣ a * k) : (n : Int) ∣ k := by
  have h1 : n ∣ a.natAbs * k.natAbs := by
    have := Int.natAbs_dvd_natAbs.2 h
    rwa [Int.natAbs_mul, Int.natAbs_natCast] at this
  have h2 : Nat.Coprime n a.natAbs := by
    rw [Nat.coprime_comm]
    exact hg
  have h3 := Nat.Coprime.dvd_of_dvd_mul_left h2 h1
  exact Int.natAbs_dvd_natAbs.1 (by rwa [Int.natAbs_natCast])
theorem ndvd_small {n : Nat} {k : Nat} (h1 : 1 ≤ k) (h2 : k < n) : ¬ (n : Int) ∣ (k : Int) := fun h => by
  have := Nat.le_of_dvd (by omega) (Int.natCast_dvd_natCast.1 h)
  omega
theorem ndvd_half {n : Nat} {a : Int} (hg : Int.gcd a n = 1) {k : Nat} (hk : k ∈ half1 n) : ¬ (n : Int) ∣ a * k := fun h => by
  obtain ⟨h1, h2⟩ := mem_half.1 hk
  exact ndvd_small h1 (by omega) (ndvd_mul hg h)
/-- The sizes of the least residues of the multiples of a are the numbers up to half of n. -/
theorem gp_perm {n : Nat} (hn : n % 2 = 1) {a : Int} (hg : Int.gcd a n = 1) : ((half1 n).map fun k : Nat => gp n (a * k)).Perm (half1 n) := by
  refine perm_map_self (nodup_half n) (fun k hk => ?_) fun x hx y hy e => ?_
  · obtain ⟨_, h1, h2⟩ := g_spec hn (ndvd_half hg hk)
    exact mem_half.2 ⟨h1, h2⟩
  · obtain ⟨⟨c, hc⟩, _, _⟩ := g_spec hn (ndvd_half hg hx)
    obtain ⟨⟨d, hd⟩, _, _⟩ := g_spec hn (ndvd_half hg hy)
    rw [e] at hc
    obtain ⟨x1, x2⟩ := mem_half.1 hx
    obtain ⟨y1, y2⟩ := mem_half.1 hy
    generalize gp n (a * y) = p at *
    have key : (n : Int) ∣ (x : Int) - y ∨ (n : Int) ∣ (x : Int) + y := by
      rcases gs_pm n (a * x) with h | h <;> rcases gs_pm n (a * y) with k | k <;> rw [h] at hc <;> rw [k] at hd
      · exact .inl (ndvd_mul hg ⟨c - d, by rw [Int.mul_sub, Int.mul_sub]; omega⟩)
      · exact .inr (ndvd_mul hg ⟨c + d, by rw [Int.mul_add, Int.mul_add]; omega⟩)
      · exact .inr (ndvd_mul hg ⟨c + d, by rw [Int.mul_add, Int.mul_add]; omega⟩)
      · exact .inl (ndvd_mul hg ⟨c - d, by rw [Int.mul_sub, Int.mul_sub]; omega⟩)
    rcases key with ⟨z, hz⟩ | h
    · have hz0 : z = 0 := by
        rcases Int.lt_trichotomy z 0 with q | q | q
        · have : (n : Int) * z ≤ n * (-1) := Int.mul_le_mul_of_nonneg_left (by omega) (by omega)
          omega
        · exact q
        · have : (n : Int) * 1 ≤ n * z := Int.mul_le_mul_of_nonneg_left (by omega) (by omega)
          omega
      rw [hz0, Int.mul_zero] at hz
      omega
    · exact absurd (show (n : Int) ∣ ((x + y : Nat) : Int) by rwa [Int.natCast_add]) (ndvd_small (by omega) (by omega))

/-! ### The symbol -/
def gsy (n : Nat) (a : Int) : Int := lprod ((half1 n).map fun k : Nat => gs n (a * k))
theorem gsy_pm (n : Nat) (a : Int) : gsy n a = 1 ∨ gsy n a = -1 := lprod_pm _ _ fun _ _ => gs_pm _ _
theorem gsy_mod (n : Nat) (a : Int) : gsy n (a % n) = gsy n a := by
  unfold gsy
  rw [map_cong (fun k _ => ?_)]
  rw [← gs_mod, ← gs_mod n (a * k)]
  congr 1
  rw [Int.mul_emod, Int.emod_emod_of_dvd _ (Int.dvd_refl (n : Int)), ← Int.mul_emod]
theorem gsy_mul {n : Nat} (hn : n % 2 = 1) {a b : Int} (ha : Int.gcd a n = 1) (hb : Int.gcd b n = 1) : gsy n (a * b) = gsy n a * gsy n b := by
  have h1 : gsy n (a * b) = lprod ((half1 n).map fun k : Nat => gs n (a * (gp n (b * k) : Nat)) * gs n (b * k)) := by
    unfold gsy
    rw [map_cong (fun k hk => ?_)]
    obtain ⟨⟨c, hc⟩, p1, p2⟩ := g_spec hn (ndvd_half hb hk)
    obtain ⟨⟨d, hd⟩, q1, q2⟩ := g_spec hn (ndvd_half ha (mem_half.2 ⟨p1, p2⟩))
    refine (g_uniq hn (pm1_mul (gs_pm _ _) (gs_pm _ _)) q1 q2 ⟨a * c + gs n (b * k) * d, ?_⟩).1
    generalize gs n (b * k) = s at *
    generalize gp n (b * k) = p at *
    generalize gs n (a * p) = t at *
    generalize gp n (a * p) = q at *
    have e1 : b * k = s * p + n * c := by omega
    have e2 : a * p = t * q + n * d := by omega
    calc a * b * k - t * s * q = a * (b * k) - t * s * q := by rw [Int.mul_assoc]
      _ = a * (s * p + n * c) - t * s * q := by rw [e1]
      _ = s * (a * p) + n * (a * c) - t * s * q := by grind
      _ = s * (t * q + n * d) + n * (a * c) - t * s * q := by rw [e2]
      _ = n * (a * c + s * d) := by grind
  rw [h1, lprod_mul]
  congr 1
  unfold gsy
  have := lprod_perm ((gp_perm hn hb).map fun k : Nat => gs n (a * k))
  rw [List.map_map] at this
  exact this

end Go.Proofs.YtcikhffhikgahaaDoor

/-
  Number theory: the symbol of 2, reciprocity; the algorithm computes the symbol.
-/
namespace Go.Proofs.YtcikhffhikgahaaDoor
open Go Go.RowKit

/-- The sign of a parity. -/
def pm (c : Nat) : Int := if c % 2 = 0 then 1 else -1
theorem pm_add (a b : Nat) : pm (a + b) = pm a * pm b := by
  unfold pm
  rw [Nat.add_mod]
  rcases Nat.mod_two_eq_zero_or_one a with h | h <;> rcases Nat.mod_two_eq_zero_or_one b with k | k <;> rw [h, k] <;> decide
theorem pm_succ (a : Nat) : pm (a + 1) = -pm a := by
  rw [pm_add, show pm 1 = -1 from rfl, Int.mul_neg, Int.mul_one]
theorem pm_pm (a : Nat) : pm a = 1 ∨ pm a = -1 := by
  unfold pm
  split
  · exact .inl rfl
  · exact .inr rfl
theorem pm_sq (a : Nat) : pm a * pm a = 1 := sq_one (pm_pm a)
theorem pm_par {a b : Nat} (h : a % 2 = b % 2) : pm a = pm b := by unfold pm; rw [h]
theorem lprod_append : ∀ l r : List Int, lprod (l ++ r) = lprod l * lprod r
  | [], r => by rw [List.nil_append, lprod, Int.one_mul]
  | x :: l, r => by rw [List.cons_append, lprod, lprod, lprod_append l r, Int.mul_assoc]
theorem lprod_snoc (f : Nat → Int) (m : Nat) : lprod ((List.range' 1 (m + 1)).map f) = lprod ((List.range' 1 m).map f) * f (m + 1) := by
  rw [List.range'_concat, List.map_append, lprod_append]
  simp only [List.map_cons, List.map_nil, lprod, Int.mul_one, Nat.one_mul]
  rw [Nat.add_comm 1 m]
theorem lprod_count (n x : Nat) (hn : 0 < n) : ∀ m : Nat, lprod ((List.range' 1 m).map fun j => if n * j ≤ x then (-1 : Int) else 1) = pm (min m (x / n))
  | 0 => by rw [Nat.zero_min]; rfl
  | m + 1 => by
    rw [lprod_snoc, lprod_count n x hn m]
    have h : n * (m + 1) ≤ x ↔ m + 1 ≤ x / n := by rw [Nat.le_div_iff_mul_le hn, Nat.mul_comm]
    by_cases hc : m + 1 ≤ x / n
    · rw [if_pos (h.2 hc), Nat.min_eq_left hc, Nat.min_eq_left (by omega), pm_succ, Int.mul_neg, Int.mul_one]
    · rw [if_neg (fun e => hc (h.1 e)), Nat.min_eq_right (by omega), Nat.min_eq_right (by omega), Int.mul_one]
theorem lprod_swap (f : Nat → Nat → Int) (l' : List Nat) : ∀ l : List Nat, lprod (l.map fun k => lprod (l'.map fun j => f k j)) = lprod (l'.map fun j => lprod (l.map fun k => f k j))
  | [] => by
    simp only [List.map_nil, lprod]
    induction l' with
    | nil => rfl
    | cons x r ih => rw [List.map_cons, lprod, ← ih]; rfl
  | x :: r => by
    rw [List.map_cons, lprod, lprod_swap f l' r, ← lprod_mul]
    rfl
theorem lprod_const (c : Nat) : ∀ l : List Nat, lprod (l.map fun _ => pm c) = pm (l.length * c)
  | [] => by simp [lprod, pm]
  | x :: r => by
    rw [List.map_cons, lprod, lprod_const c r, List.length_cons, Nat.succ_mul, pm_add, Int.mul_comm]
theorem half_len (n : Nat) : (half1 n).length = n / 2 := List.length_range'

/-! ### 2 -/
theorem gsy_two {n : Nat} (hn : n % 2 = 1) : gsy n 2 = two8 n := by
  have h1 : gsy n 2 = lprod ((List.range' 1 (n / 2)).map fun j => (if 2 * j ≤ n / 2 then (-1 : Int) else 1) * pm 1) := by
    unfold gsy half1
    rw [map_cong (fun k hk => ?_)]
    obtain ⟨k1, k2⟩ := mem_half.1 hk
    unfold gs
    rw [Int.emod_eq_of_lt (by omega) (by omega)]
    by_cases h : 2 * k ≤ n / 2
    · rw [if_pos (by omega), if_pos h]; rfl
    · rw [if_neg (by omega), if_neg h]; rfl
  rw [h1, lprod_mul, lprod_count 2 (n / 2) (by omega), lprod_const, List.length_range', Nat.min_eq_right (by omega), ← pm_add, Nat.mul_one]
  unfold pm two8
  have h8 : n % 8 = 1 ∨ n % 8 = 3 ∨ n % 8 = 5 ∨ n % 8 = 7 := by omega
  rcases h8 with h | h | h | h
  · rw [if_pos (by omega), if_pos (by omega)]
  · rw [if_neg (by omega), if_neg (by omega), if_pos (by omega)]
  · rw [if_neg (by omega), if_neg (by omega), if_pos (by omega)]
  · rw [if_pos (by omega), if_pos (by omega)]

/-! ### Reciprocity -/
theorem gsy_floor {n m : Nat} (hn : n % 2 = 1) (hm : m % 2 = 1) (hg : Nat.gcd m n = 1) : gsy n m = lprod ((half1 n).map fun k => pm (m * k / n)) := by
  have hg' : Int.gcd m n = 1 := hg
  have e1 : lprod ((half1 n).map fun k => pm (m * k / n)) = lprod ((half1 n).map fun k : Nat => gs n (m * k) * (pm k * pm (gp n (m * k)))) := by
    rw [map_cong (fun k hk => ?_)]
    have hd := g_spec hn (ndvd_half hg' hk)
    obtain ⟨_, p1, p2⟩ := hd
    have q : (m : Int) * k % n = ((m * k % n : Nat) : Int) := by rw [← Int.natCast_mul]; rfl
    have hdm := Nat.div_add_mod (m * k) n
    have hlt := Nat.mod_lt (m * k) (show n > 0 by omega)
    have par : (m * k) % 2 = k % 2 := by rw [Nat.mul_mod, hm, Nat.one_mul, Nat.mod_mod]
    have par2 : (n * (m * k / n)) % 2 = (m * k / n) % 2 := by rw [Nat.mul_mod, hn, Nat.one_mul, Nat.mod_mod]
    unfold gs gp
    rw [q]
    generalize m * k % n = r at *
    generalize m * k / n = f at *
    generalize n * f = u at *
    split
    · rw [Int.one_mul, ← pm_add]
      apply pm_par
      omega
    · rw [← pm_add, Int.neg_mul, Int.one_mul, ← pm_succ]
      apply pm_par
      omega
  rw [e1, lprod_mul, lprod_mul]
  have hp := lprod_perm ((gp_perm hn hg').map fun k => pm k)
  rw [List.map_map] at hp
  have hp' : lprod ((half1 n).map fun k : Nat => pm (gp n (m * k))) = lprod ((half1 n).map fun k => pm k) := hp
  rw [hp', sq_one (lprod_pm _ _ fun k _ => pm_pm k), Int.mul_one]
  rfl
theorem floor_rows {n m k : Nat} (hm : m % 2 = 1) (hn : 0 < n) (hk : k ≤ n / 2) : pm (m * k / n) = lprod ((half1 m).map fun j => if n * j ≤ m * k then (-1 : Int) else 1) := by
  unfold half1
  rw [lprod_count n (m * k) hn]
  congr 1
  rw [Nat.min_eq_right]
  have h1 : m * k < n * (m / 2 + 1) := by
    have h2 : m * (2 * k) ≤ m * n := Nat.mul_le_mul_left _ (by omega)
    have h3 : n * (2 * (m / 2 + 1)) = n * (m + 1) := by congr 1; omega
    have h4 : m * (2 * k) = 2 * (m * k) := Nat.mul_left_comm _ _ _
    have h5 : n * (2 * (m / 2 + 1)) = 2 * (n * (m / 2 + 1)) := Nat.mul_left_comm _ _ _
    have h6 : n * (m + 1) = m * n + n := by rw [Nat.mul_add, Nat.mul_one, Nat.mul_comm]
    omega
  have := (Nat.div_lt_iff_lt_mul hn (x := m * k) (y := m / 2 + 1)).2 (by rw [Nat.mul_comm (m / 2 + 1)]; exact h1)
  omega
theorem gsy_recip {n m : Nat} (hn : n % 2 = 1) (hm : m % 2 = 1) (hg : Nat.gcd m n = 1) : gsy n m * gsy m n = rsg m n := by
  have a1 : gsy n m = lprod ((half1 n).map fun k => lprod ((half1 m).map fun j => if n * j ≤ m * k then (-1 : Int) else 1)) := by
    rw [gsy_floor hn hm hg]
    exact congrArg lprod (map_cong fun k hk => floor_rows hm (by omega) (mem_half.1 hk).2)
  have a2 : gsy m n = lprod ((half1 n).map fun k => lprod ((half1 m).map fun j => if m * k ≤ n * j then (-1 : Int) else 1)) := by
    rw [gsy_floor hm hn (by rw [Nat.gcd_comm]; exact hg), lprod_swap]
    exact congrArg lprod (map_cong fun k hk => floor_rows hn (by omega) (mem_half.1 hk).2)
  have a3 : gsy n m * gsy m n = lprod ((half1 n).map fun _ => pm (m / 2)) := by
    rw [a1, a2, ← lprod_mul]
    refine congrArg lprod (map_cong fun k hk => ?_)
    rw [← lprod_mul]
    have : lprod ((half1 m).map fun _ => pm 1) = pm (m / 2) := by rw [lprod_const, half_len, Nat.mul_one]
    rw [← this]
    refine congrArg lprod (map_cong fun j hj => ?_)
    obtain ⟨k1, k2⟩ := mem_half.1 hk
    have hne : m * k ≠ n * j := fun e => by
      have h1 : n ∣ m * k := ⟨j, e⟩
      have h2 := Nat.Coprime.dvd_of_dvd_mul_left (show Nat.Coprime n m by rw [Nat.coprime_comm]; exact hg) h1
      have := Nat.le_of_dvd (by omega) h2
      omega
    by_cases h : n * j ≤ m * k
    · rw [if_pos h, if_neg (by omega)]; rfl
    · rw [if_neg h, if_pos (by omega)]; rfl
  rw [a3, lprod_const, half_len]
  unfold pm rsg
  by_cases h : m % 4 = 3 ∧ n % 4 = 3
  · rw [if_pos h, if_neg]
    rw [Nat.mul_mod, show n / 2 % 2 = 1 by omega, show m / 2 % 2 = 1 by omega]
    decide
  · rw [if_neg h, if_pos]
    rcases Nat.mod_two_eq_zero_or_one (n / 2) with q | q
    · rw [Nat.mul_mod, q, Nat.zero_mul]
    · have : m / 2 % 2 = 0 := by omega
      rw [Nat.mul_mod, this, Nat.mul_zero]

/-! ### The algorithm -/
def chi (n : Nat) (a : Int) : Int := if Int.gcd a n = 1 then gsy n a else 0
theorem chi_mod (n : Nat) (a : Int) : chi n (a % n) = chi n a := by
  unfold chi
  rw [gsy_mod, gcd_mod]

end Go.Proofs.YtcikhffhikgahaaDoor

/-
  Number theory: the algorithm computes the symbol; the symbol is multiplicative in both numbers.
-/
namespace Go.Proofs.YtcikhffhikgahaaDoor
open Go Go.RowKit

theorem cop_mul_left {a b : Int} {n : Nat} : Int.gcd (a * b) n = 1 ↔ Int.gcd a n = 1 ∧ Int.gcd b n = 1 := by
  show Nat.gcd (a * b).natAbs n = 1 ↔ Nat.gcd a.natAbs n = 1 ∧ Nat.gcd b.natAbs n = 1
  rw [Int.natAbs_mul]
  constructor
  · intro h
    exact ⟨Nat.Coprime.coprime_dvd_left ⟨_, rfl⟩ h, Nat.Coprime.coprime_dvd_left ⟨_, Nat.mul_comm _ _⟩ h⟩
  · rintro ⟨h, k⟩
    exact Nat.Coprime.mul_left h k
theorem cop_mul_right {a : Int} {m n : Nat} : Int.gcd a (m * n : Nat) = 1 ↔ Int.gcd a m = 1 ∧ Int.gcd a n = 1 := by
  show Nat.gcd a.natAbs (m * n) = 1 ↔ Nat.gcd a.natAbs m = 1 ∧ Nat.gcd a.natAbs n = 1
  constructor
  · intro h
    exact ⟨Nat.Coprime.coprime_dvd_right ⟨_, rfl⟩ h, Nat.Coprime.coprime_dvd_right ⟨_, Nat.mul_comm _ _⟩ h⟩
  · rintro ⟨h, k⟩
    exact Nat.Coprime.mul_right h k
theorem gcd_two (n : Nat) : Nat.gcd n 2 = 1 ↔ n % 2 = 1 := by
  rw [Nat.gcd_comm, Nat.gcd_rec]
  rcases Nat.mod_two_eq_zero_or_one n with h | h <;> rw [h] <;> decide
theorem gcdI_two (a : Int) : Int.gcd a 2 = 1 ↔ a % 2 = 1 := by
  show Nat.gcd a.natAbs 2 = 1 ↔ _
  rw [gcd_two]
  omega
theorem two_cop {n : Nat} (h : n % 2 = 1) : Int.gcd 2 n = 1 := by
  show Nat.gcd 2 n = 1
  rw [Nat.gcd_comm]
  exact (gcd_two n).2 h

theorem chi_zero_iff {n : Nat} {a : Int} : chi n a = 0 ↔ ¬ Int.gcd a n = 1 := by
  unfold chi
  by_cases h : Int.gcd a n = 1
  · rw [if_pos h]
    have := gsy_pm n a
    constructor
    · intro e; omega
    · intro e; exact absurd h e
  · rw [if_neg h]
    exact ⟨fun _ => h, fun _ => rfl⟩
theorem chi_mul {n : Nat} (hn : n % 2 = 1) (a b : Int) : chi n (a * b) = chi n a * chi n b := by
  by_cases ha : Int.gcd a n = 1
  · by_cases hb : Int.gcd b n = 1
    · unfold chi
      rw [if_pos ha, if_pos hb, if_pos (cop_mul_left.2 ⟨ha, hb⟩), gsy_mul hn ha hb]
    · rw [chi_zero_iff.2 hb, Int.mul_zero, chi_zero_iff]
      exact fun h => hb (cop_mul_left.1 h).2
  · rw [chi_zero_iff.2 ha, Int.zero_mul, chi_zero_iff]
    exact fun h => ha (cop_mul_left.1 h).1
theorem chi_two {n : Nat} (hn : n % 2 = 1) : chi n 2 = two8 n := by
  unfold chi
  rw [if_pos (two_cop hn), gsy_two hn]
theorem chi_recip {n m : Nat} (hn : n % 2 = 1) (hm : m % 2 = 1) : chi n m = rsg m n * chi m n := by
  by_cases h : Nat.gcd m n = 1
  · have h1 : Int.gcd (m : Int) n = 1 := h
    have h2 : Int.gcd (n : Int) m = 1 := by rw [Int.gcd_comm]; exact h
    unfold chi
    rw [if_pos h1, if_pos h2, ← gsy_recip hn hm h, Int.mul_assoc, sq_one (gsy_pm m n), Int.mul_one]
  · have h1 : ¬ Int.gcd (m : Int) n = 1 := h
    have h2 : ¬ Int.gcd (n : Int) m = 1 := by rw [Int.gcd_comm]; exact h
    rw [chi_zero_iff.2 h1, chi_zero_iff.2 h2, Int.mul_zero]
theorem chi_at_zero (n : Nat) : chi n 0 = if n = 1 then 1 else 0 := by
  by_cases h : n = 1
  · subst h; decide
  · rw [if_neg h, chi_zero_iff]
    show ¬ Nat.gcd 0 n = 1
    rw [Nat.gcd_zero_left]
    exact h
theorem jac_chi : ∀ (a n : Nat), n % 2 = 1 → jac a n = chi n a := by
  intro a
  induction a using Nat.strongRecOn with
  | ind a ih =>
    intro n hn
    by_cases h0 : a = 0
    · subst h0
      rw [jac_zero]
      exact (chi_at_zero n).symm
    by_cases h2 : a % 2 = 0
    · rw [jac_even h0 h2, ih (a / 2) (by omega) n hn, ← chi_two hn, ← chi_mul hn]
      congr 1; omega
    · have ho : a % 2 = 1 := by omega
      rw [jac_odd ho, ih (n % a) (Nat.mod_lt _ (by omega)) a ho, chi_recip hn ho]
      congr 1
      rw [← chi_mod a n]
      rfl
theorem two8_mul (a b : Int) : two8 (a * b) = two8 a * two8 b := by
  have h : ∀ x y : Fin 8, two8 ((x.val : Int) * y.val) = two8 x.val * two8 y.val := by decide
  have m8 : ∀ x : Int, two8 (x % 8) = two8 x := fun x => by unfold two8; rw [Int.emod_emod_of_dvd _ (Int.dvd_refl 8)]
  have ha : 0 ≤ a % 8 ∧ a % 8 < 8 := by omega
  have hb : 0 ≤ b % 8 ∧ b % 8 < 8 := by omega
  have := h ⟨(a % 8).toNat, by omega⟩ ⟨(b % 8).toNat, by omega⟩
  simp only [Int.toNat_of_nonneg ha.1, Int.toNat_of_nonneg hb.1] at this
  rw [m8, m8] at this
  rw [← this, ← m8, Int.mul_emod, m8]
theorem rsg_mul {a m n : Nat} (ha : a % 2 = 1) (hm : m % 2 = 1) (hn : n % 2 = 1) : rsg a (m * n) = rsg a m * rsg a n := by
  have h4 : ∀ x : Nat, x % 2 = 1 → x % 4 = 1 ∨ x % 4 = 3 := fun x h => by omega
  unfold rsg
  rw [Nat.mul_mod]
  rcases h4 a ha with h | h <;> rcases h4 m hm with k | k <;> rcases h4 n hn with l | l <;> rw [h, k, l] <;> decide
theorem odd_mul {m n : Nat} (hm : m % 2 = 1) (hn : n % 2 = 1) : (m * n) % 2 = 1 := by rw [Nat.mul_mod, hm, hn]
theorem chi_mul_nat {m n : Nat} (hm : m % 2 = 1) (hn : n % 2 = 1) : ∀ a : Nat, chi (m * n) a = chi m a * chi n a := by
  intro a
  induction a using Nat.strongRecOn with
  | ind a ih =>
    have hmn := odd_mul hm hn
    by_cases h0 : a = 0
    · subst h0
      show chi (m * n) 0 = chi m 0 * chi n 0
      rw [chi_at_zero, chi_at_zero, chi_at_zero]
      by_cases h1 : m = 1
      · rw [h1, Nat.one_mul, if_pos rfl, Int.one_mul]
      · rw [if_neg h1, Int.zero_mul, if_neg (fun e => h1 (Nat.eq_one_of_mul_eq_one_right e))]
    by_cases h2 : a % 2 = 0
    · have e : (a : Int) = 2 * ((a / 2 : Nat) : Int) := by omega
      rw [e, chi_mul hmn, chi_mul hm, chi_mul hn, ih (a / 2) (by omega), chi_two hmn, chi_two hm, chi_two hn, Int.natCast_mul, two8_mul]
      generalize two8 m = x; generalize two8 n = y; generalize chi m _ = z; generalize chi n _ = w
      grind
    · have ho : a % 2 = 1 := by omega
      rw [chi_recip hmn ho, chi_recip hm ho, chi_recip hn ho, rsg_mul ho hm hn, Int.natCast_mul, chi_mul ho]
      generalize chi a m = x; generalize chi a n = y; generalize rsg a m = z; generalize rsg a n = w
      grind
theorem chi_cong {n : Nat} {a b : Int} (h : a % n = b % n) : chi n a = chi n b := by rw [← chi_mod, h, chi_mod]
theorem chi_mul_right {m n : Nat} (hm : m % 2 = 1) (hn : n % 2 = 1) (a : Int) : chi (m * n) a = chi m a * chi n a := by
  have hmn := odd_mul hm hn
  have h0 := Int.emod_nonneg a (show ((m * n : Nat) : Int) ≠ 0 by omega)
  have e : a % (m * n : Nat) = (((a % (m * n : Nat)).toNat : Nat) : Int) := by omega
  have e1 : (a % (m * n : Nat)) % (m : Int) = a % m := Int.emod_emod_of_dvd _ ⟨n, by rw [Int.natCast_mul]⟩
  have e2 : (a % (m * n : Nat)) % (n : Int) = a % n := Int.emod_emod_of_dvd _ ⟨m, by rw [Int.natCast_mul, Int.mul_comm]⟩
  rw [← chi_mod, ← chi_cong e1, ← chi_cong e2, e]
  exact chi_mul_nat hm hn _

/-! ### All positive numbers -/
theorem kr_chi {a : Int} {n : Nat} (hn : n % 2 = 1) : kr a n = chi n a := by
  have h0 := Int.emod_nonneg a (show (n : Int) ≠ 0 by omega)
  rw [kr_odd hn, jac_chi _ _ hn, ← chi_mod n a]
  congr 1; omega
theorem kr_mul_left {n : Nat} (h0 : n ≠ 0) (a b : Int) : kr (a * b) n = kr a n * kr b n := by
  induction n using Nat.strongRecOn with
  | ind n ih =>
    by_cases h2 : n % 2 = 0
    · rw [kr_even h0 h2, kr_even h0 h2, kr_even h0 h2, ih (n / 2) (by omega) (by omega), two8_mul]
      grind
    · rw [kr_chi (by omega), kr_chi (by omega), kr_chi (by omega), chi_mul (by omega)]
theorem kr_mul_right (a : Int) : ∀ (m n : Nat), m ≠ 0 → n ≠ 0 → kr a (m * n) = kr a m * kr a n := by
  intro m
  induction m using Nat.strongRecOn with
  | ind m ihm =>
    intro n
    induction n using Nat.strongRecOn with
    | ind n ihn =>
      intro hm hn
      have hmn : m * n ≠ 0 := Nat.mul_ne_zero hm hn
      by_cases h2 : m % 2 = 0
      · have e : m * n / 2 = m / 2 * n := by
          obtain ⟨c, rfl⟩ : ∃ c, m = 2 * c := ⟨m / 2, by omega⟩
          rw [Nat.mul_assoc, Nat.mul_div_cancel_left _ (by omega), Nat.mul_div_cancel_left _ (by omega)]
        rw [kr_even hmn (by rw [Nat.mul_mod, h2, Nat.zero_mul]), kr_even hm h2, e, ihm (m / 2) (by omega) n (by omega) hn, Int.mul_assoc]
      by_cases k2 : n % 2 = 0
      · have e : m * n / 2 = m * (n / 2) := by
          obtain ⟨c, rfl⟩ : ∃ c, n = 2 * c := ⟨n / 2, by omega⟩
          rw [Nat.mul_left_comm, Nat.mul_div_cancel_left _ (by omega), Nat.mul_div_cancel_left _ (by omega)]
        rw [kr_even hmn (by rw [Nat.mul_mod, k2, Nat.mul_zero]), kr_even hn k2, e, ihn (n / 2) (by omega) hm (by omega)]
        grind
      · rw [kr_chi (odd_mul (by omega) (by omega)), kr_chi (by omega), kr_chi (by omega), chi_mul_right (by omega) (by omega)]
theorem kr_zero_iff {n : Nat} (h0 : n ≠ 0) (a : Int) : kr a n = 0 ↔ ¬ Int.gcd a n = 1 := by
  induction n using Nat.strongRecOn with
  | ind n ih =>
    by_cases h2 : n % 2 = 0
    · have e : n = 2 * (n / 2) := by omega
      have hc : Int.gcd a n = 1 ↔ Int.gcd a 2 = 1 ∧ Int.gcd a (n / 2 : Nat) = 1 := by
        conv => lhs; rw [e]
        exact cop_mul_right (m := 2)
      rw [kr_even h0 h2, hc, gcdI_two, Int.mul_eq_zero, ih (n / 2) (by omega) (by omega)]
      have ht : two8 a = 0 ↔ ¬ a % 2 = 1 := by
        by_cases h : a % 2 = 1
        · have := two8_odd h
          constructor
          · intro e; omega
          · intro e; exact absurd h e
        · rw [two8_even h]; simp [h]
      rw [ht]
      constructor
      · rintro (h | h) ⟨h3, h4⟩
        · exact h h3
        · exact h h4
      · intro h
        by_cases h3 : a % 2 = 1
        · exact .inr fun h4 => h ⟨h3, h4⟩
        · exact .inl h3
    · rw [kr_chi (by omega), chi_zero_iff]
theorem kr_pm {n : Nat} (h0 : n ≠ 0) (a : Int) : kr a n = 0 ∨ kr a n = 1 ∨ kr a n = -1 := by
  induction n using Nat.strongRecOn with
  | ind n ih =>
    by_cases h2 : n % 2 = 0
    · rw [kr_even h0 h2]
      by_cases h : a % 2 = 1
      · rcases two8_odd h with q | q <;> rcases ih (n / 2) (by omega) (by omega) with r | r | r <;> rw [q, r] <;> decide
      · rw [two8_even h, Int.zero_mul]; exact .inl rfl
    · rw [kr_chi (by omega)]
      unfold chi
      split
      · exact .inr (gsy_pm n a)
      · exact .inl rfl

/-! ### All numbers -/
theorem kro_pm (a n : Int) : kro a n = 0 ∨ kro a n = 1 ∨ kro a n = -1 := by
  unfold kro
  split
  · split
    · exact .inr (.inl rfl)
    · exact .inl rfl
  · rcases kr_pm (n := n.natAbs) (by omega) a with h | h | h <;> rw [h] <;> split <;> decide
theorem kro_mul_left (a b n : Int) (ha : a ≠ 0) (hb : b ≠ 0) : kro (a * b) n = kro a n * kro b n := by
  unfold kro
  by_cases hn : n = 0
  · rw [if_pos hn, if_pos hn, if_pos hn, Int.natAbs_mul]
    by_cases h1 : a.natAbs = 1
    · rw [if_pos h1, h1, Nat.one_mul, Int.one_mul]
    · rw [if_neg h1, Int.zero_mul, if_neg (fun e => h1 (Nat.eq_one_of_mul_eq_one_right e))]
  · rw [if_neg hn, if_neg hn, if_neg hn, kr_mul_left (by omega)]
    by_cases h0 : n < 0
    · rcases Int.lt_or_gt_of_ne ha with p | p <;> rcases Int.lt_or_gt_of_ne hb with q | q
      · have := Int.mul_pos_of_neg_of_neg p q
        rw [if_neg (by omega), if_pos ⟨h0, p⟩, if_pos ⟨h0, q⟩]
        grind
      · have := Int.mul_neg_of_neg_of_pos p q
        rw [if_pos ⟨h0, this⟩, if_pos ⟨h0, p⟩, if_neg (by omega)]
        grind
      · have := Int.mul_neg_of_pos_of_neg p q
        rw [if_pos ⟨h0, this⟩, if_neg (by omega), if_pos ⟨h0, q⟩]
        grind
      · have := Int.mul_pos p q
        rw [if_neg (by omega), if_neg (by omega), if_neg (by omega)]
        grind
    · rw [if_neg (fun h => h0 h.1), if_neg (fun h => h0 h.1), if_neg (fun h => h0 h.1)]
      grind
theorem kro_mul_right (n a b : Int) (ha : a ≠ 0) (hb : b ≠ 0) : kro n (a * b) = kro n a * kro n b := by
  unfold kro
  have hab : a * b ≠ 0 := Int.mul_ne_zero ha hb
  rw [if_neg ha, if_neg hb, if_neg hab, Int.natAbs_mul, kr_mul_right n _ _ (by omega) (by omega)]
  by_cases h0 : n < 0
  · rcases Int.lt_or_gt_of_ne ha with p | p <;> rcases Int.lt_or_gt_of_ne hb with q | q
    · have := Int.mul_pos_of_neg_of_neg p q
      rw [if_neg (by omega), if_pos ⟨p, h0⟩, if_pos ⟨q, h0⟩]
      grind
    · have := Int.mul_neg_of_neg_of_pos p q
      rw [if_pos ⟨this, h0⟩, if_pos ⟨p, h0⟩, if_neg (by omega)]
      grind
    · have := Int.mul_neg_of_pos_of_neg p q
      rw [if_pos ⟨this, h0⟩, if_neg (by omega), if_pos ⟨q, h0⟩]
      grind
    · have := Int.mul_pos p q
      rw [if_neg (by omega), if_neg (by omega), if_neg (by omega)]
      grind
  · rw [if_neg (fun h => h0 h.2), if_neg (fun h => h0 h.2), if_neg (fun h => h0 h.2)]
    grind
theorem kro_zero_iff (a n : Int) : kro a n = 0 ↔ ¬ Int.gcd a n = 1 := by
  unfold kro
  by_cases hn : n = 0
  · rw [if_pos hn, hn, Int.gcd_zero_right]
    by_cases h : a.natAbs = 1
    · rw [if_pos h]; simp [h]
    · rw [if_neg h]; simp [h]
  · rw [if_neg hn]
    have hk := kr_zero_iff (n := n.natAbs) (by omega) a
    have hg : Int.gcd a (n.natAbs : Nat) = Int.gcd a n := by
      show Nat.gcd a.natAbs (n.natAbs : Int).natAbs = Nat.gcd a.natAbs n.natAbs
      rw [Int.natAbs_natCast]
    rw [hg] at hk
    rw [← hk]
    split <;> omega
theorem kro_recip {a b : Nat} (ha : a % 2 = 1) (hb : b % 2 = 1) : kro a b * kro b a = 0 ∨ kro a b * kro b a = rsg a b := by
  have e : ∀ x y : Nat, y % 2 = 1 → kro x y = chi y x := fun x y hy => by
    unfold kro
    rw [if_neg (by omega), if_neg (by omega), Int.one_mul, Int.natAbs_natCast, kr_chi hy]
  rw [e a b hb, e b a ha, chi_recip hb ha]
  by_cases h : chi a b = 0
  · rw [h]; exact .inl (by simp)
  · right
    have hc : chi a b = 1 ∨ chi a b = -1 := by
      unfold chi at h ⊢
      split
      · exact gsy_pm _ _
      · rename_i q; rw [if_neg q] at h; exact absurd rfl h
    rw [Int.mul_assoc, sq_one hc, Int.mul_one]

end Go.Proofs.YtcikhffhikgahaaDoor

/-
  Number theory: primes; Euler's criterion.
-/
namespace Go.Proofs.YtcikhffhikgahaaDoor
open Go Go.RowKit

theorem prime_div {p : Nat} (h : primeB p = true) : 1 < p ∧ ∀ d, d ∣ p → d = 1 ∨ d = p := by
  obtain ⟨h1, h2⟩ := primeB_iff.1 h
  refine ⟨h1, fun d hd => ?_⟩
  obtain ⟨e, he⟩ := hd
  by_cases c1 : d = 1
  · exact .inl c1
  by_cases c2 : e = 1
  · right; rw [he, c2, Nat.mul_one]
  exfalso
  have d0 : d ≠ 0 := fun q => by rw [q, Nat.zero_mul] at he; omega
  have e0 : e ≠ 0 := fun q => by rw [q, Nat.mul_zero] at he; omega
  rcases Nat.le_total d e with q | q
  · have h3 : d * d ≤ p := by rw [he]; exact Nat.mul_le_mul_left _ q
    exact h2 d (by omega) h3 (by rw [he]; exact Nat.mul_mod_right d e)
  · have h3 : e * e ≤ p := by rw [he]; exact Nat.mul_le_mul_right _ q
    exact h2 e (by omega) h3 (by rw [he]; exact Nat.mul_mod_left d e)
theorem prime_cop {p : Nat} (h : primeB p = true) {a : Int} (ha : ¬ (p : Int) ∣ a) : Int.gcd a p = 1 := by
  have hd : Int.gcd a p ∣ p := Nat.gcd_dvd_right a.natAbs p
  rcases (prime_div h).2 _ hd with e | e
  · exact e
  · have h3 : Int.gcd a p ∣ a.natAbs := Nat.gcd_dvd_left a.natAbs p
    rw [e] at h3
    exact absurd (Int.natAbs_dvd_natAbs.1 (by rwa [Int.natAbs_natCast])) ha
theorem prime_ncop {p : Nat} (h : primeB p = true) {a : Int} (ha : (p : Int) ∣ a) : ¬ Int.gcd a p = 1 := fun e => by
  have h1 := (prime_div h).1
  have h2 : p ∣ Int.gcd a p := Nat.dvd_gcd (by have := Int.natAbs_dvd_natAbs.2 ha; rwa [Int.natAbs_natCast] at this) (Nat.dvd_refl p)
  rw [e] at h2
  have := Nat.le_of_dvd (by omega) h2
  omega
theorem lprod_scale (a : Int) (f : Nat → Int) : ∀ l : List Nat, lprod (l.map fun k => a * f k) = a ^ l.length * lprod (l.map f)
  | [] => by simp [lprod]
  | x :: r => by
    simp only [List.map_cons, lprod, lprod_scale a f r, List.length_cons, Int.pow_succ]
    grind
theorem lprod_dvd {n : Int} (f g : Nat → Int) : ∀ l : List Nat, (∀ k ∈ l, n ∣ f k - g k) → n ∣ lprod (l.map f) - lprod (l.map g)
  | [], _ => ⟨0, by simp [lprod]⟩
  | x :: r, h => by
    obtain ⟨c, hc⟩ := h x (List.mem_cons_self ..)
    obtain ⟨d, hd⟩ := lprod_dvd f g r fun k hk => h k (List.mem_cons_of_mem _ hk)
    refine ⟨c * lprod (r.map f) + g x * d, ?_⟩
    simp only [List.map_cons, lprod]
    have e1 : f x = g x + n * c := by omega
    have e2 : lprod (r.map f) = lprod (r.map g) + n * d := by omega
    rw [e1, e2]
    grind
theorem lprod_cop {n : Nat} (f : Nat → Int) : ∀ l : List Nat, (∀ k ∈ l, Int.gcd (f k) n = 1) → Int.gcd (lprod (l.map f)) n = 1
  | [], _ => by
    show Nat.gcd 1 n = 1
    exact Nat.gcd_one_left n
  | x :: r, h => by
    rw [List.map_cons, lprod]
    exact cop_mul_left.2 ⟨h x (List.mem_cons_self ..), lprod_cop f r fun k hk => h k (List.mem_cons_of_mem _ hk)⟩
/-- Gauss's lemma. -/
theorem gauss {p : Nat} (hp : primeB p = true) (ho : p % 2 = 1) {a : Int} (ha : ¬ (p : Int) ∣ a) : (p : Int) ∣ a ^ (p / 2) - gsy p a := by
  have hg := prime_cop hp ha
  have h1 := lprod_dvd (n := (p : Int)) (fun k : Nat => a * (k : Int)) (fun k : Nat => gs p (a * k) * (gp p (a * k) : Nat)) (half1 p) fun k hk => (g_spec ho (ndvd_half hg hk)).1
  rw [lprod_scale, lprod_mul, half_len] at h1
  have hperm := lprod_perm ((gp_perm ho hg).map fun k : Nat => (k : Int))
  rw [List.map_map] at hperm
  have hperm' : lprod ((half1 p).map fun k : Nat => ((gp p (a * k) : Nat) : Int)) = lprod ((half1 p).map fun k : Nat => (k : Int)) := hperm
  rw [hperm'] at h1
  have hc := lprod_cop (n := p) (fun k : Nat => (k : Int)) (half1 p) fun k hk => prime_cop hp (ndvd_small (mem_half.1 hk).1 (by have := (mem_half.1 hk).2; have := (prime_div hp).1; omega))
  refine ndvd_mul hc ?_
  obtain ⟨c, hc⟩ := h1
  refine ⟨c, ?_⟩
  rw [← hc]
  show _ * _ = _ - gsy p a * _
  grind
/-- Euler's criterion. -/
theorem euler {p : Nat} (hp : primeB p = true) (ho : p % 2 = 1) (a : Int) : a ^ (p / 2) % p = chi p a % p := by
  by_cases ha : (p : Int) ∣ a
  · rw [chi_zero_iff.2 (prime_ncop hp ha), Int.zero_emod]
    have h1 := (prime_div hp).1
    obtain ⟨c, hc⟩ : ∃ c, p / 2 = c + 1 := ⟨p / 2 - 1, by omega⟩
    rw [hc, Int.pow_succ]
    exact Int.emod_eq_zero_of_dvd (Int.dvd_trans ha ⟨a ^ c, Int.mul_comm _ _⟩)
  · unfold chi
    rw [if_pos (prime_cop hp ha)]
    exact Int.emod_eq_emod_iff_emod_sub_eq_zero.2 (Int.emod_eq_zero_of_dvd (gauss hp ho ha))
theorem kro_chi (a : Int) {p : Nat} (hp : p % 2 = 1) : kro a p = chi p a := by
  unfold kro
  rw [if_neg (by omega), if_neg (by omega), Int.one_mul, Int.natAbs_natCast, kr_chi hp]

end Go.Proofs.YtcikhffhikgahaaDoor

/-
  Number theory: 2^127 - 1 is prime.
-/
namespace Go.Proofs.YtcikhffhikgahaaDoor
open Go Go.RowKit

theorem nodup_le : ∀ (m : Nat) (l : List Nat), l.Nodup → (∀ x ∈ l, x < m) → l.length ≤ m
  | 0, l, _, hl => by
    cases l with
    | nil => exact Nat.le_refl _
    | cons x r => exact absurd (hl x (List.mem_cons_self ..)) (by omega)
  | m + 1, l, hn, hl => by
    by_cases hm : m ∈ l
    · have hp := List.perm_cons_erase hm
      have hn' := List.nodup_cons.1 (hp.nodup_iff.1 hn)
      have := nodup_le m (l.erase m) hn'.2 fun x hx => by
        have h1 := hl x (hp.mem_iff.2 (List.mem_cons_of_mem _ hx))
        have h2 : x ≠ m := fun e => hn'.1 (e ▸ hx)
        omega
      have h3 := hp.length_eq
      rw [List.length_cons] at h3
      omega
    · have := nodup_le m l hn fun x hx => by
        have h1 := hl x hx
        have h2 : x ≠ m := fun e => hm (e ▸ hx)
        omega
      omega

/-- Squaring x + y sqrt 3 modulo n. -/
def sq3 (n : Int) (s : Int × Int) : Int × Int := ((s.1 * s.1 + 3 * (s.2 * s.2)) % n, (s.1 * s.2 + s.2 * s.1) % n)
def it3 (n : Int) : Nat → Int × Int
  | 0 => (2 % n, 1 % n)
  | i + 1 => sq3 n (it3 n i)
theorem it3_eq (n : Int) : ∀ i, it3 n i = (zx 2 3 n (2 ^ i), zy 2 3 n (2 ^ i))
  | 0 => by
    unfold it3 zx zy
    rw [Nat.pow_zero, zp_one]
  | i + 1 => by
    unfold it3 sq3
    rw [it3_eq n i]
    dsimp only
    rw [zx_add, zy_add, Nat.pow_succ, Nat.mul_two]
theorem it3_m127 : it3 170141183460469231731687303715884105727 126 = (170141183460469231731687303715884105726, 0) := by decide +kernel

/-- The powers of 2 + sqrt 3 modulo q: a multiple's power is known from the modulus. -/
theorem zx_dvd {t w n q : Int} (h : q ∣ n) (e : Nat) : zx t w n e % q = zx t w q e := by
  unfold zx
  exact Int.emod_emod_of_dvd _ h
theorem zy_dvd {t w n q : Int} (h : q ∣ n) (e : Nat) : zy t w n e % q = zy t w q e := by
  unfold zy
  exact Int.emod_emod_of_dvd _ h

/-- The norm of a power of 2 + sqrt 3 is 1. -/
theorem norm3 (e : Nat) : (zp 2 3 e).1 * (zp 2 3 e).1 - 3 * ((zp 2 3 e).2 * (zp 2 3 e).2) = 1 := by
  induction e with
  | zero => rfl
  | succ e ih =>
    show (zmul 3 (zp 2 3 e) (2, 1)).1 * (zmul 3 (zp 2 3 e) (2, 1)).1 - 3 * ((zmul 3 (zp 2 3 e) (2, 1)).2 * (zmul 3 (zp 2 3 e) (2, 1)).2) = 1
    unfold zmul
    dsimp only
    generalize (zp 2 3 e).1 = x at *
    generalize (zp 2 3 e).2 = y at *
    grind
/-- Two powers that are the same modulo q: the power of the difference is 1. -/
theorem cancel3 {q : Int} {i k : Nat} (hx : zx 2 3 q (i + k) = zx 2 3 q i) (hy : zy 2 3 q (i + k) = zy 2 3 q i) : q ∣ (zp 2 3 k).1 - 1 ∧ q ∣ (zp 2 3 k).2 := by
  unfold zx at hx
  unfold zy at hy
  obtain ⟨c, hc⟩ := Int.dvd_of_emod_eq_zero (Int.emod_eq_emod_iff_emod_sub_eq_zero.1 hx)
  obtain ⟨d, hd⟩ := Int.dvd_of_emod_eq_zero (Int.emod_eq_emod_iff_emod_sub_eq_zero.1 hy)
  rw [← zp_add] at hc hd
  have hn := norm3 i
  unfold zmul at hc hd
  dsimp only at hc hd
  generalize (zp 2 3 i).1 = x at *
  generalize (zp 2 3 i).2 = y at *
  generalize (zp 2 3 k).1 = u at *
  generalize (zp 2 3 k).2 = v at *
  refine ⟨⟨x * c - 3 * (y * d), ?_⟩, ⟨x * d - y * c, ?_⟩⟩
  · have e1 : u - 1 = x * (x * u + 3 * (y * v) - x) - 3 * (y * (x * v + y * u - y)) := by grind
    rw [e1, hc, hd]
    grind
  · have e1 : v = x * (x * v + y * u - y) - y * (x * u + 3 * (y * v) - x) := by grind
    rw [e1, hc, hd]
    grind

theorem pow3 {q s : Int} {k : Nat} (h1 : q ∣ (zp 2 3 k).1 - s) (h2 : q ∣ (zp 2 3 k).2) : ∀ m, q ∣ (zp 2 3 (k * m)).1 - s ^ m ∧ q ∣ (zp 2 3 (k * m)).2
  | 0 => ⟨⟨0, by rw [Nat.mul_zero, Int.pow_zero, Int.mul_zero]; rfl⟩, ⟨0, by rw [Nat.mul_zero, Int.mul_zero]; rfl⟩⟩
  | m + 1 => by
    obtain ⟨⟨c, hc⟩, ⟨d, hd⟩⟩ := pow3 h1 h2 m
    obtain ⟨a, ha⟩ := h1
    obtain ⟨b, hb⟩ := h2
    rw [Nat.mul_succ, ← zp_add, Int.pow_succ]
    unfold zmul
    dsimp only
    generalize (zp 2 3 (k * m)).1 = x at *
    generalize (zp 2 3 (k * m)).2 = y at *
    generalize (zp 2 3 k).1 = u at *
    generalize (zp 2 3 k).2 = v at *
    have e1 : x = s ^ m + q * c := by omega
    have e2 : u = s + q * a := by omega
    refine ⟨⟨s ^ m * a + c * s + c * (q * a) + 3 * (d * (q * b)), ?_⟩, ⟨x * b + d * u, ?_⟩⟩
    · rw [e1, e2, hd, hb]; grind
    · rw [hd, hb]; grind

/-- 2^127 - 1. -/
def m127 : Int := 170141183460469231731687303715884105727
theorem half3 {q : Int} (hd : q ∣ m127) : q ∣ (zp 2 3 (2 ^ 126)).1 - (-1) ∧ q ∣ (zp 2 3 (2 ^ 126)).2 := by
  have h := it3_eq m127 126
  rw [show it3 m127 126 = (170141183460469231731687303715884105726, 0) from it3_m127] at h
  generalize 2 ^ 126 = K at *
  have h1 : zx 2 3 m127 K = 170141183460469231731687303715884105726 := (congrArg Prod.fst h).symm
  have h2 : zy 2 3 m127 K = 0 := (congrArg Prod.snd h).symm
  unfold zx at h1
  unfold zy at h2
  refine ⟨Int.dvd_trans hd ?_, Int.dvd_trans hd (Int.dvd_of_emod_eq_zero h2)⟩
  refine Int.dvd_of_emod_eq_zero (Int.emod_eq_emod_iff_emod_sub_eq_zero.1 ?_)
  rw [h1]
  decide

/-- No power below 2^127 is 1 modulo a divisor. -/
theorem order3 {q : Int} (hq : 2 ≤ q) (hd : q ∣ m127) {k : Nat} (h0 : k ≠ 0) (hk : k < 2 ^ 127) (h1 : q ∣ (zp 2 3 k).1 - 1) (h2 : q ∣ (zp 2 3 k).2) : False := by
  obtain ⟨s1, s2⟩ := v2_spec h0
  obtain ⟨a1, a2⟩ := half3 hd
  generalize k / 2 ^ v2 k = m at *
  generalize v2 k = e at *
  have he : e ≤ 126 := by
    rcases Nat.lt_or_ge 126 e with r | r
    · have r1 : 2 ^ 127 ≤ 2 ^ e := Nat.pow_le_pow_right (by omega) r
      have r2 : 1 * 2 ^ e ≤ m * 2 ^ e := Nat.mul_le_mul_right _ (by omega)
      omega
    · exact r
  obtain ⟨b1, _⟩ := pow3 h1 h2 (2 ^ (126 - e))
  obtain ⟨c1, _⟩ := pow3 a1 a2 m
  have hK : k * 2 ^ (126 - e) = 2 ^ 126 * m := by
    rw [s1, Nat.mul_assoc, ← Nat.pow_add, show e + (126 - e) = 126 by omega, Nat.mul_comm]
  rw [hK, Int.one_pow] at b1
  have hm : (-1 : Int) ^ m = -1 := by
    obtain ⟨c, rfl⟩ : ∃ c, m = 2 * c + 1 := ⟨m / 2, by omega⟩
    rw [Int.pow_succ, Int.pow_mul, show ((-1 : Int) ^ 2) = 1 from rfl, Int.one_pow]
    rfl
  rw [hm] at c1
  have h3 : q ∣ 2 := by
    have := Int.dvd_sub c1 b1
    generalize (zp 2 3 (2 ^ 126 * m)).1 = z at this
    rwa [show z - -1 - (z - 1) = 2 by omega] at this
  have h4 := Int.le_of_dvd (by omega) h3
  have h5 : q = 2 := by omega
  subst h5
  exact absurd hd (by decide)

theorem code3_inj {q x y u v : Int} (hx : 0 ≤ x) (hy : 0 ≤ y ∧ y < q) (hu : 0 ≤ u) (hv : 0 ≤ v ∧ v < q) (h : x.toNat * q.toNat + y.toNat = u.toNat * q.toNat + v.toNat) : x = u ∧ y = v := by
  have h1 : y.toNat = v.toNat := by
    have e1 : (x.toNat * q.toNat + y.toNat) % q.toNat = y.toNat := by rw [Nat.mul_comm, Nat.mul_add_mod]; exact Nat.mod_eq_of_lt (by omega)
    have e2 : (u.toNat * q.toNat + v.toNat) % q.toNat = v.toNat := by rw [Nat.mul_comm, Nat.mul_add_mod]; exact Nat.mod_eq_of_lt (by omega)
    rw [← e1, ← e2, h]
  have h2 : x.toNat = u.toNat := Nat.eq_of_mul_eq_mul_right (show 0 < q.toNat by omega) (by omega)
  omega
/-- 2^127 - 1 has no divisor up to its root. -/
theorem m127_ndvd {q : Nat} (h2 : 2 ≤ q) (hd : (q : Int) ∣ m127) (hq : q * q < 2 ^ 127) : False := by
  have hb : ∀ e, (0 ≤ zx 2 3 q e ∧ zx 2 3 q e < q) ∧ (0 ≤ zy 2 3 q e ∧ zy 2 3 q e < q) := fun e =>
    ⟨⟨Int.emod_nonneg _ (by omega), Int.emod_lt_of_pos _ (by omega)⟩, ⟨Int.emod_nonneg _ (by omega), Int.emod_lt_of_pos _ (by omega)⟩⟩
  have key : ∀ i k : Nat, i + k < q * q + 1 → k ≠ 0 → zx 2 3 q (i + k) = zx 2 3 q i → zy 2 3 q (i + k) = zy 2 3 q i → False := fun i k hk h0 e1 e2 => by
    obtain ⟨c1, c2⟩ := cancel3 e1 e2
    exact order3 (by omega) hd h0 (by omega) c1 c2
  have hn : ((List.range (q * q + 1)).map fun i => (zx 2 3 q i).toNat * (q : Int).toNat + (zy 2 3 q i).toNat).Nodup := by
    refine nodup_map_on _ List.nodup_range fun i hi j hj e => ?_
    have hi := List.mem_range.1 hi
    have hj := List.mem_range.1 hj
    obtain ⟨p1, p2⟩ := hb i
    obtain ⟨p3, p4⟩ := hb j
    obtain ⟨e1, e2⟩ := code3_inj p1.1 p2 p3.1 p4 e
    rcases Nat.lt_trichotomy i j with r | r | r
    · exact (key i (j - i) (by omega) (by omega) (by rw [show i + (j - i) = j by omega, e1]) (by rw [show i + (j - i) = j by omega, e2])).elim
    · exact r
    · exact (key j (i - j) (by omega) (by omega) (by rw [show j + (i - j) = i by omega, e1]) (by rw [show j + (i - j) = i by omega, e2])).elim
  have := nodup_le (q * q) _ hn fun x hx => by
    obtain ⟨i, _, rfl⟩ := List.mem_map.1 hx
    obtain ⟨p1, p2⟩ := hb i
    have h3 : ((zx 2 3 q i).toNat + 1) * q ≤ q * q := Nat.mul_le_mul_right _ (by omega)
    rw [Nat.add_mul, Nat.one_mul] at h3
    rw [Int.toNat_natCast]
    omega
  rw [List.length_map, List.length_range] at this
  omega
theorem m127_prime : primeB 170141183460469231731687303715884105727 = true := by
  refine primeB_iff.2 ⟨by decide, fun d h2 hdd hm => ?_⟩
  refine m127_ndvd h2 ?_ (Nat.lt_of_le_of_lt hdd (by decide))
  exact Int.natCast_dvd_natCast.2 (Nat.dvd_of_mod_eq_zero hm)

end Go.Proofs.YtcikhffhikgahaaDoor

/-
  Number theory: a polynomial has no more roots modulo a prime than its degree; the search for a square root's companion ends.
-/
namespace Go.Proofs.YtcikhffhikgahaaDoor
open Go Go.RowKit

/-- The value of a polynomial whose first coefficient is 1: the others, the lowest first. -/
def evM : List Int → Int → Int
  | [], _ => 1
  | c :: l, x => c + x * evM l x
theorem evM_div : ∀ (l : List Int) (c r : Int), ∃ q : List Int, q.length = l.length ∧ ∀ x, evM (c :: l) x - evM (c :: l) r = (x - r) * evM q x
  | [], c, r => ⟨[], rfl, fun x => by simp only [evM]; grind⟩
  | d :: l, c, r => by
    obtain ⟨q, hq, h⟩ := evM_div l d r
    refine ⟨evM (d :: l) r :: q, by simp [hq], fun x => ?_⟩
    have := h x
    show c + x * evM (d :: l) x - (c + r * evM (d :: l) r) = (x - r) * (evM (d :: l) r + x * evM q x)
    generalize evM (d :: l) x = u at *
    generalize evM (d :: l) r = v at *
    generalize evM q x = w at *
    grind
theorem evM_roots {p : Nat} (hp : primeB p = true) : ∀ (n : Nat) (l rs : List Int), l.length = n → rs.Pairwise (fun a b => ¬ (p : Int) ∣ a - b) → (∀ r ∈ rs, (p : Int) ∣ evM l r) → rs.length ≤ n := by
  intro n
  induction n with
  | zero =>
    intro l rs hl _ hr
    have : l = [] := List.length_eq_zero_iff.1 hl
    subst this
    cases rs with
    | nil => exact Nat.le_refl _
    | cons r t =>
      have h1 := hr r (List.mem_cons_self ..)
      have h2 := Int.le_of_dvd (by decide) (show (p : Int) ∣ 1 from h1)
      have := (prime_div hp).1
      omega
  | succ n ih =>
    intro l rs hl hd hr
    match l, hl with
    | c :: l, hl =>
      cases rs with
      | nil => exact Nat.zero_le _
      | cons r t =>
        obtain ⟨q, hq, h⟩ := evM_div l c r
        have hd' := List.pairwise_cons.1 hd
        have := ih q t (by rw [hq]; simpa using hl) hd'.2 fun x hx => by
          have h1 := Int.dvd_sub (hr x (List.mem_cons_of_mem _ hx)) (hr r (List.mem_cons_self ..))
          rw [h x] at h1
          refine ndvd_mul (prime_cop hp fun e => hd'.1 x hx ?_) h1
          obtain ⟨z, hz⟩ := e
          exact ⟨-z, by rw [Int.mul_neg]; omega⟩
        rw [List.length_cons]
        omega

/-- Times x^2 - a. -/
theorem evM_mul (a : Int) : ∀ l : List Int, ∃ u v r, (u :: v :: r : List Int).length = l.length + 2 ∧ ∀ x, evM (u :: v :: r) x = (x * x - a) * evM l x
  | [] => ⟨-a, 0, [], rfl, fun x => by simp only [evM]; grind⟩
  | c :: l => by
    obtain ⟨u, v, r, h1, h2⟩ := evM_mul a l
    refine ⟨-a * c, u, (v + c) :: r, by simp only [List.length_cons] at h1 ⊢; omega, fun x => ?_⟩
    have := h2 x
    simp only [evM] at this ⊢
    generalize evM l x = w at *
    generalize evM r x = z at *
    grind

theorem evM_pow (a : Int) : ∀ h : Nat, ∃ l : List Int, l.length = 2 * h ∧ ∀ x, evM l x = (x * x - a) ^ h
  | 0 => ⟨[], rfl, fun x => by rw [Int.pow_zero]; rfl⟩
  | h + 1 => by
    obtain ⟨l, h1, h2⟩ := evM_pow a h
    obtain ⟨u, v, r, h3, h4⟩ := evM_mul a l
    exact ⟨u :: v :: r, by rw [h3, h1]; omega, fun x => by rw [h4, h2, Int.pow_succ, Int.mul_comm]⟩
theorem evM_pow1 (a : Int) {h : Nat} (h0 : 1 ≤ h) : ∃ l : List Int, l.length = 2 * h ∧ ∀ x, evM l x = (x * x - a) ^ h - 1 := by
  obtain ⟨l, h1, h2⟩ := evM_pow a h
  match l, h1, h2 with
  | [], h1, _ => rw [List.length_nil] at h1; omega
  | c :: r, h1, h2 =>
    refine ⟨(c - 1) :: r, h1, fun x => ?_⟩
    rw [← h2 x]
    show c - 1 + x * evM r x = c + x * evM r x - 1
    omega

theorem sq_some {p : Nat} (hp : primeB p = true) (ho : p % 2 = 1) (a : Int) : ∃ t : Nat, t < p ∧ ¬ chi p ((t : Int) * t - a) = 1 := by
  rcases Classical.em (∃ t : Nat, t < p ∧ ¬ chi p ((t : Int) * t - a) = 1) with h | h
  · exact h
  exfalso
  have hp1 := (prime_div hp).1
  obtain ⟨l, h1, h2⟩ := evM_pow1 a (h := p / 2) (by omega)
  have := evM_roots hp _ l ((List.range p).map fun i : Nat => (i : Int)) h1 (by
    rw [List.pairwise_map]
    refine (List.pairwise_lt_range (n := p)).imp_of_mem fun {i j} hi hj hij e => ?_
    have hj := List.mem_range.1 hj
    obtain ⟨c, hc⟩ := e
    exact ndvd_small (n := p) (k := j - i) (by omega) (by omega) ⟨-c, by rw [Int.mul_neg]; omega⟩) fun r hr => by
    obtain ⟨i, hi, rfl⟩ := List.mem_map.1 hr
    have hi := List.mem_range.1 hi
    have hc : chi p ((i : Int) * i - a) = 1 := Classical.byContradiction fun q => h ⟨i, hi, q⟩
    rw [h2]
    have he := euler hp ho ((i : Int) * i - a)
    rw [hc] at he
    exact Int.dvd_of_emod_eq_zero (Int.emod_eq_emod_iff_emod_sub_eq_zero.1 he)
  rw [List.length_map, List.length_range] at this
  omega

theorem sqHas_of_prime {p : Nat} (hp : primeB p = true) (a : Int) : SqHas a p := by
  refine ⟨fun _ ho _ => ?_⟩
  obtain ⟨t, ht, hc⟩ := sq_some hp (by omega) (a % p)
  refine ⟨t, by omega, ?_⟩
  unfold sqStop sqW
  by_cases h0 : ((t : Int) * t - a % p) % p = 0
  · rw [decide_eq_true h0, Bool.true_or]
  · have h1 : kro (((t : Int) * t - a % p) % p) p = chi p ((t : Int) * t - a % p) := by rw [kro_chi _ (by omega), chi_mod]
    have h2 : chi p ((t : Int) * t - a % p) ≠ 0 := fun e => chi_zero_iff.1 e (prime_cop hp fun d => h0 (Int.emod_eq_zero_of_dvd d))
    have h3 := kro_pm (((t : Int) * t - a % p) % p) p
    rw [h1] at h3
    rw [h1, Bool.or_eq_true]
    exact .inr (decide_eq_true (by omega))

end Go.Proofs.YtcikhffhikgahaaDoor

/-
  Number theory: powers in the field of p^2 elements; the root that the search finds.
-/
namespace Go.Proofs.YtcikhffhikgahaaDoor
open Go Go.RowKit

/-! ### Pascal's numbers -/
def ch : Nat → Nat → Nat
  | _, 0 => 1
  | 0, _ + 1 => 0
  | n + 1, k + 1 => ch n k + ch n (k + 1)
theorem ch_absorb : ∀ n k : Nat, (k + 1) * ch (n + 1) (k + 1) = (n + 1) * ch n k
  | 0, 0 => rfl
  | 0, k + 1 => by simp [ch]
  | n + 1, 0 => by
    have h := ch_absorb n 0
    simp only [ch] at h ⊢
    omega
  | n + 1, k + 1 => by
    have h1 := ch_absorb n k
    have h2 := ch_absorb n (k + 1)
    have e : ch (n + 1 + 1) (k + 1 + 1) = ch (n + 1) (k + 1) + ch (n + 1) (k + 1 + 1) := rfl
    have e2 : ch (n + 1) (k + 1) = ch n k + ch n (k + 1) := rfl
    rw [e]
    generalize ch (n + 1) (k + 1 + 1) = a at *
    generalize ch (n + 1) (k + 1) = b at *
    generalize ch n k = c at *
    generalize ch n (k + 1) = d at *
    grind
theorem ch_big : ∀ n k : Nat, n < k → ch n k = 0
  | 0, k + 1, _ => rfl
  | n + 1, k + 1, h => by
    show ch n k + ch n (k + 1) = 0
    rw [ch_big n k (by omega), ch_big n (k + 1) (by omega)]
theorem ch_self : ∀ n : Nat, ch n n = 1
  | 0 => rfl
  | n + 1 => by
    show ch n n + ch n (n + 1) = 1
    rw [ch_self n, ch_big n (n + 1) (by omega)]
theorem ch_prime {p : Nat} (hp : primeB p = true) {k : Nat} (h1 : 0 < k) (h2 : k < p) : p ∣ ch p k := by
  obtain ⟨j, rfl⟩ : ∃ j, k = j + 1 := ⟨k - 1, by omega⟩
  obtain ⟨n, rfl⟩ : ∃ n, p = n + 1 := ⟨p - 1, by omega⟩
  have h3 := ch_absorb n j
  have h4 : Int.gcd ((j + 1 : Nat) : Int) (n + 1 : Nat) = 1 := prime_cop hp (ndvd_small h1 h2)
  exact Nat.Coprime.dvd_of_dvd_mul_left (Nat.coprime_comm.1 h4) ⟨ch n j, h3⟩

/-! ### Sums -/
def sumTo (g : Nat → Int) : Nat → Int
  | 0 => 0
  | n + 1 => sumTo g n + g n
theorem sumTo_shift (g : Nat → Int) : ∀ n, sumTo g (n + 1) = g 0 + sumTo (fun i => g (i + 1)) n
  | 0 => by simp [sumTo]
  | n + 1 => by
    show sumTo g (n + 1) + g (n + 1) = g 0 + (sumTo (fun i => g (i + 1)) n + g (n + 1))
    rw [sumTo_shift g n, Int.add_assoc]
theorem sumTo_add (f g : Nat → Int) : ∀ n, sumTo (fun i => f i + g i) n = sumTo f n + sumTo g n
  | 0 => rfl
  | n + 1 => by simp only [sumTo, sumTo_add f g n]; omega
theorem sumTo_mul (c : Int) (f : Nat → Int) : ∀ n, sumTo (fun i => c * f i) n = c * sumTo f n
  | 0 => by simp [sumTo]
  | n + 1 => by simp only [sumTo, sumTo_mul c f n, Int.mul_add]
theorem sumTo_cong {f g : Nat → Int} : ∀ n, (∀ i, i < n → f i = g i) → sumTo f n = sumTo g n
  | 0, _ => rfl
  | n + 1, h => by
    simp only [sumTo]
    rw [sumTo_cong n fun i hi => h i (by omega), h n (by omega)]
theorem sumTo_dvd {p : Int} {f : Nat → Int} : ∀ n, (∀ i, i < n → p ∣ f i) → p ∣ sumTo f n
  | 0, _ => ⟨0, by simp [sumTo]⟩
  | n + 1, h => Int.dvd_add (sumTo_dvd n fun i hi => h i (by omega)) (h n (by omega))

/-- Times t plus a shift, n times. -/
def bin (t : Int) : Nat → (Nat → Int) → Int
  | 0, f => f 0
  | n + 1, f => t * bin t n f + bin t n (fun i => f (i + 1))
theorem bin_sum (t : Int) : ∀ (n : Nat) (f : Nat → Int), bin t n f = sumTo (fun i => ch n i * t ^ (n - i) * f i) (n + 1)
  | 0, f => by simp [bin, sumTo, ch]
  | n + 1, f => by
    show t * bin t n f + bin t n (fun i => f (i + 1)) = _
    rw [bin_sum t n f, bin_sum t n fun i => f (i + 1), sumTo_shift _ (n + 1), sumTo_shift _ n]
    have e1 : sumTo (fun i => ((ch (n + 1) (i + 1) : Nat) : Int) * t ^ (n + 1 - (i + 1)) * f (i + 1)) (n + 1) =
        sumTo (fun i => (ch n i : Int) * t ^ (n - i) * f (i + 1)) (n + 1) + sumTo (fun i => (ch n (i + 1) : Int) * t ^ (n - i) * f (i + 1)) (n + 1) := by
      rw [← sumTo_add]
      refine sumTo_cong _ fun i _ => ?_
      have e : ch (n + 1) (i + 1) = ch n i + ch n (i + 1) := rfl
      rw [e, Int.natCast_add, show n + 1 - (i + 1) = n - i by omega]
      grind
    have e2 : sumTo (fun i => (ch n (i + 1) : Int) * t ^ (n - i) * f (i + 1)) (n + 1) = t * sumTo (fun i => (ch n (i + 1) : Int) * t ^ (n - (i + 1)) * f (i + 1)) n := by
      rw [← sumTo_mul]
      simp only [sumTo]
      rw [ch_big n (n + 1) (by omega)]
      have e3 : sumTo (fun i => (ch n (i + 1) : Int) * t ^ (n - i) * f (i + 1)) n = sumTo (fun i => t * ((ch n (i + 1) : Int) * t ^ (n - (i + 1)) * f (i + 1))) n := by
        refine sumTo_cong n fun i hi => ?_
        rw [show n - i = (n - (i + 1)) + 1 by omega, Int.pow_succ]
        grind
      rw [e3]
      simp
    rw [e1, e2]
    simp only [ch, Nat.sub_zero, Int.pow_succ]
    grind

/-! ### Powers of sqrt w -/
def rt (w : Int) (i : Nat) : Int × Int := if i % 2 = 0 then (w ^ (i / 2), 0) else (0, w ^ (i / 2))
theorem rt_succ (w : Int) (i : Nat) : rt w (i + 1) = (w * (rt w i).2, (rt w i).1) := by
  unfold rt
  rcases Nat.mod_two_eq_zero_or_one i with h | h
  · rw [if_neg (by omega), if_pos h, show (i + 1) / 2 = i / 2 by omega]
    dsimp only
    rw [Int.mul_zero]
  · rw [if_pos (by omega), if_neg (by omega), show (i + 1) / 2 = i / 2 + 1 by omega, Int.pow_succ]
    dsimp only
    rw [Int.mul_comm]
theorem bin_zp (t w : Int) : ∀ n j : Nat, bin t n (fun i => (rt w (i + j)).1) = (zmul w (zp t w n) (rt w j)).1 ∧ bin t n (fun i => (rt w (i + j)).2) = (zmul w (zp t w n) (rt w j)).2
  | 0, j => by
    show (rt w (0 + j)).1 = _ ∧ (rt w (0 + j)).2 = _
    rw [Nat.zero_add]
    unfold zmul zp
    constructor <;> dsimp only <;> simp
  | n + 1, j => by
    obtain ⟨h1, h2⟩ := bin_zp t w n j
    obtain ⟨h3, h4⟩ := bin_zp t w n (j + 1)
    have e : ∀ i, i + 1 + j = i + (j + 1) := fun i => by omega
    constructor
    · show t * bin t n (fun i => (rt w (i + j)).1) + bin t n (fun i => (rt w (i + 1 + j)).1) = _
      simp only [e]
      rw [h1, h3, rt_succ]
      unfold zmul
      show _ = (zmul w (zmul w (zp t w n) (t, 1)) (rt w j)).1
      unfold zmul
      dsimp only
      grind
    · show t * bin t n (fun i => (rt w (i + j)).2) + bin t n (fun i => (rt w (i + 1 + j)).2) = _
      simp only [e]
      rw [h2, h4, rt_succ]
      show _ = (zmul w (zmul w (zp t w n) (t, 1)) (rt w j)).2
      unfold zmul
      dsimp only
      grind
theorem sum_ends {p : Nat} (h : 0 < p) (f : Nat → Int) (hf : ∀ i, 0 < i → i < p → (p : Int) ∣ f i) : (p : Int) ∣ sumTo f (p + 1) - (f 0 + f p) := by
  obtain ⟨m, rfl⟩ : ∃ m, p = m + 1 := ⟨p - 1, by omega⟩
  have e : sumTo f (m + 1 + 1) = f 0 + sumTo (fun i => f (i + 1)) m + f (m + 1) := by
    show sumTo f (m + 1) + f (m + 1) = _
    rw [sumTo_shift]
  rw [e, show f 0 + sumTo (fun i => f (i + 1)) m + f (m + 1) - (f 0 + f (m + 1)) = sumTo (fun i => f (i + 1)) m by omega]
  exact sumTo_dvd m fun i hi => hf (i + 1) (by omega) (by omega)
theorem ch_zero (n : Nat) : ch n 0 = 1 := by cases n <;> rfl
theorem zp_frob {p : Nat} (hp : primeB p = true) (ho : p % 2 = 1) (t w : Int) : (p : Int) ∣ (zp t w p).1 - t ^ p ∧ (p : Int) ∣ (zp t w p).2 - w ^ (p / 2) := by
  obtain ⟨h1, h2⟩ := bin_zp t w p 0
  have e0 : rt w 0 = (1, 0) := by unfold rt; rw [if_pos rfl, show 0 / 2 = 0 from rfl, Int.pow_zero]
  have ep : rt w p = (0, w ^ (p / 2)) := by unfold rt; rw [if_neg (by omega)]
  have e1 : (zmul w (zp t w p) (rt w 0)).1 = (zp t w p).1 := by rw [e0]; unfold zmul; dsimp only; simp
  have e2 : (zmul w (zp t w p) (rt w 0)).2 = (zp t w p).2 := by rw [e0]; unfold zmul; dsimp only; simp
  have hd : ∀ (f : Nat → Int) i, 0 < i → i < p → (p : Int) ∣ ch p i * t ^ (p - i) * f i := fun f i hi hip =>
    Int.dvd_mul_of_dvd_left (Int.dvd_mul_of_dvd_left (Int.natCast_dvd_natCast.2 (ch_prime hp hi hip)))
  have hp0 : 0 < p := by omega
  rw [bin_sum, e1] at h1
  rw [bin_sum, e2] at h2
  rw [← h1, ← h2]
  refine ⟨?_, ?_⟩
  · have := sum_ends hp0 (fun i => ch p i * t ^ (p - i) * (rt w (i + 0)).1) (hd _)
    simp only [Nat.add_zero, e0, ep, ch_zero, Nat.sub_zero, Int.mul_zero, Int.mul_one, Int.natCast_one, Int.one_mul, Int.add_zero] at this ⊢
    exact this
  · have := sum_ends hp0 (fun i => ch p i * t ^ (p - i) * (rt w (i + 0)).2) (hd _)
    simp only [Nat.add_zero, e0, ep, ch_self, Nat.sub_self, Int.mul_zero, Int.mul_one, Int.natCast_one, Int.one_mul, Int.zero_add, Int.pow_zero] at this ⊢
    exact this
theorem fermat {p : Nat} (hp : primeB p = true) (ho : p % 2 = 1) (t : Int) : (p : Int) ∣ t ^ p - t := by
  have e : t ^ p = t ^ (p / 2) * t ^ (p / 2) * t := by
    rw [← Int.pow_add, ← Int.pow_succ]
    congr 1
    omega
  obtain ⟨c, hc⟩ := Int.dvd_of_emod_eq_zero (Int.emod_eq_emod_iff_emod_sub_eq_zero.1 (euler hp ho t))
  have hx : t ^ (p / 2) = chi p t + p * c := by omega
  rw [e, hx]
  by_cases h0 : (p : Int) ∣ t
  · obtain ⟨d, rfl⟩ := h0
    exact ⟨(chi p (↑p * d) + p * c) * (chi p (↑p * d) + p * c) * d - d, by grind⟩
  · have h1 : chi p t ≠ 0 := fun q => chi_zero_iff.1 q (prime_cop hp h0)
    have h2 := kro_pm t p
    rw [kro_chi t ho] at h2
    rcases h2 with h2 | h2 | h2
    · exact absurd h2 h1
    · rw [h2]; exact ⟨t * (2 * c + p * c * c), by grind⟩
    · rw [h2]; exact ⟨t * (-2 * c + p * c * c), by grind⟩

/-- The power that the search takes. -/
theorem cip {p : Nat} (hp : primeB p = true) (ho : p % 2 = 1) {t w : Int} (hw : chi p w = -1) :
    (p : Int) ∣ (zp t w (p / 2 + 1)).1 * (zp t w (p / 2 + 1)).1 + w * ((zp t w (p / 2 + 1)).2 * (zp t w (p / 2 + 1)).2) - (t * t - w) ∧
    (p : Int) ∣ 2 * ((zp t w (p / 2 + 1)).1 * (zp t w (p / 2 + 1)).2) := by
  obtain ⟨⟨c1, h1⟩, ⟨c2, h2⟩⟩ := zp_frob hp ho t w
  obtain ⟨c3, h3⟩ := fermat hp ho t
  obtain ⟨c4, h4⟩ := Int.dvd_of_emod_eq_zero (Int.emod_eq_emod_iff_emod_sub_eq_zero.1 (euler hp ho w))
  rw [hw] at h4
  have hs := zp_add t w (p / 2 + 1) (p / 2 + 1)
  have hz : zp t w (p / 2 + 1 + (p / 2 + 1)) = zmul w (zp t w p) (t, 1) := by
    rw [show p / 2 + 1 + (p / 2 + 1) = p + 1 by omega]; rfl
  rw [hz] at hs
  have q1 := congrArg Prod.fst hs
  have q2 := congrArg Prod.snd hs
  unfold zmul at q1 q2
  dsimp only at q1 q2
  have x1 : (zp t w p).1 = t + p * (c1 + c3) := by rw [Int.mul_add]; omega
  have x2 : (zp t w p).2 = -1 + p * (c2 + c4) := by rw [Int.mul_add]; omega
  rw [x1, x2] at q1 q2
  refine ⟨⟨(c1 + c3) * t + w * (c2 + c4), ?_⟩, ⟨c1 + c3 + (c2 + c4) * t, ?_⟩⟩
  · rw [q1]; grind
  · grind

theorem sqX_spec {p : Nat} (hp : primeB p = true) (ho : p % 2 = 1) {A : Int} (hA : chi p A = 1) (hs : ∃ t : Nat, (t : Int) < p ∧ sqStop A p t = true) :
    0 ≤ sqX A p ∧ sqX A p < p ∧ (p : Int) ∣ sqX A p * sqX A p - A := by
  have hp1 := (prime_div hp).1
  obtain ⟨t1, t2, _⟩ := sqT_spec hs
  unfold sqX
  generalize sqT A p = t at *
  by_cases h0 : sqW A p t = 0
  · rw [if_pos h0]
    exact ⟨by omega, t1, Int.dvd_of_emod_eq_zero h0⟩
  rw [if_neg h0]
  have hw : chi p (sqW A p t) = -1 := by
    unfold sqStop at t2
    rw [decide_eq_false h0, Bool.false_or] at t2
    have := of_decide_eq_true t2
    rwa [kro_chi _ ho] at this
  have hN : halfN p = p / 2 + 1 := by unfold halfN; omega
  rw [hN]
  obtain ⟨k1, k2⟩ := cip hp ho (t := (t : Int)) hw
  have hW : (p : Int) ∣ (t : Int) * t - A - sqW A p t := by
    unfold sqW
    exact Int.dvd_of_emod_eq_zero (Int.emod_eq_emod_iff_emod_sub_eq_zero.1 (Int.emod_emod_of_dvd _ (Int.dvd_refl _)).symm)
  generalize sqW A p t = w at *
  refine ⟨Int.emod_nonneg _ (by omega), Int.emod_lt_of_pos _ (by omega), ?_⟩
  show (p : Int) ∣ (zp t w (p / 2 + 1)).1 % p * ((zp t w (p / 2 + 1)).1 % p) - A
  generalize (zp t w (p / 2 + 1)).1 = X at *
  generalize (zp t w (p / 2 + 1)).2 = Y at *
  have hY : (p : Int) ∣ Y := by
    have h2X : (p : Int) ∣ X * Y := by
      refine ndvd_mul (a := 2) ?_ k2
      exact two_cop ho
    rcases Classical.em ((p : Int) ∣ X) with hX | hX
    · exfalso
      obtain ⟨x, rfl⟩ := hX
      obtain ⟨c, hc⟩ := k1
      obtain ⟨d, hd⟩ := hW
      have e : chi p (w * (Y * Y)) = chi p A := by
        refine chi_cong ?_
        refine Int.emod_eq_emod_iff_emod_sub_eq_zero.2 (Int.emod_eq_zero_of_dvd ⟨c + d - p * x * x, ?_⟩)
        grind
      rw [chi_mul ho, chi_mul ho, hw, hA] at e
      have h2 := kro_pm Y p
      rw [kro_chi Y ho] at h2
      rcases h2 with h2 | h2 | h2 <;> rw [h2] at e <;> omega
    · exact ndvd_mul (prime_cop hp hX) h2X
  obtain ⟨y, rfl⟩ := hY
  obtain ⟨c, hc⟩ := k1
  obtain ⟨d, hd⟩ := hW
  have hX : X = X % p + p * (X / p) := (Int.emod_add_mul_ediv X p).symm
  generalize X % p = r at *
  generalize X / p = q at *
  subst hX
  exact ⟨c + d - w * (p * y * y) - (2 * r * q + p * q * q), by grind⟩

structure RootOk (p A V : Int) : Prop where
  nonneg : 0 ≤ V
  lt : V < p
  sq : (V * V - A) % p = 0
  le : -V % p = 0 ∨ V ≤ -V % p
theorem sqV_spec {p : Nat} (hp : primeB p = true) (ho : p % 2 = 1) {A : Int} (hA : chi p A = 1) (hs : ∃ t : Nat, (t : Int) < p ∧ sqStop A p t = true) : RootOk p A (sqV A p) := by
  obtain ⟨h1, h2, h3⟩ := sqX_spec hp ho hA hs
  unfold sqV
  generalize sqX A p = X at *
  have hp1 := (prime_div hp).1
  by_cases h0 : X = 0
  · subst h0
    rw [Int.neg_zero, Int.zero_emod, if_neg (by omega)]
    exact ⟨by omega, by omega, Int.emod_eq_zero_of_dvd h3, .inl (by rw [Int.neg_zero, Int.zero_emod])⟩
  have e : ∀ z : Int, 0 < z → z < p → -z % p = p - z := fun z q1 q2 => by
    rw [show -z = (p - z) + p * (-1) by omega, Int.add_mul_emod_self_left]
    exact Int.emod_eq_of_lt (by omega) (by omega)
  rw [e X (by omega) h2]
  by_cases hc : (p : Int) - X < X
  · rw [if_pos hc]
    refine ⟨by omega, by omega, Int.emod_eq_zero_of_dvd ?_, .inr (by rw [e _ (by omega) (by omega)]; omega)⟩
    obtain ⟨c, hc⟩ := h3
    exact ⟨p - 2 * X + c, by grind⟩
  · rw [if_neg hc]
    exact ⟨h1, h2, Int.emod_eq_zero_of_dvd h3, .inr (by rw [e _ (by omega) h2]; omega)⟩

end Go.Proofs.YtcikhffhikgahaaDoor

/-
  The next prime, for all numbers of 16 bits; the walk of ModularEuler.
-/
namespace Go.Proofs.YtcikhffhikgahaaDoor
open Go Go.RowKit

/-- The next prime. -/
def nextQ (n : Nat) : Nat := nextPf (65537 - n) n
theorem primeB_f4 : primeB 65537 = true := by decide +kernel
def s_rprimeQ : FSpec
  | [.int .u16 z] => some (some (0 ≤ z ∧ z ≤ 65535), .ret (.int .i64 (nextQ z.toNat)))
  | _ => none
def a_rprimeQ (n : Nat) : Nat → MS → Option LoopAnn
  | 2, _ => some (.inv Nat (fun p => p ≤ 65537 ∧ nextPf (65537 - p) p = nextQ n) (fun p => ⟨12, [(3, .int .i64 p)], [], 0⟩) (fun p => 65537 - p))
  | _, _ => none
theorem vc_rprimeQ (n : Nat) : ((∃ i, (i ≤ (65537 : Nat) ∧ nextPf ((65537 : Nat) - i) i = nextQ n) ∧ (IntKind.wrap IntKind.i64 (↑n : Int) = (↑i : Int) ∧ True) ∧ True) ∧ ∀ (i : Nat), i ≤ (65537 : Nat) ∧ nextPf ((65537 : Nat) - i) i = nextQ n → ((0 : Int) ≤ (↑i : Int) ∧ (↑i : Int) ≤ (1000000000 : Int)) ∧ bif !primeB (Int.toNat (↑i : Int)) then ∃ j, (j ≤ (65537 : Nat) ∧ nextPf ((65537 : Nat) - j) j = nextQ n) ∧ ((IntKind.wrap IntKind.i64 ((↑i : Int) + (1 : Int)) = (↑j : Int) ∧ True) ∧ True) ∧ (65537 : Nat) - j < (65537 : Nat) - i else (↑i : Int) = (↑(nextQ n) : Int)) = evFn (env [c_isprime] (a_rprimeQ n)) Tryd.f11 [.int .u16 n] (MRes.sat (.ret (.int .i64 (nextQ n)))) := by kernel_rfl
theorem p_rprimeQ : Good Tryd.f11 s_rprimeQ := by
  intro ms p r h hp
  unfold s_rprimeQ at h
  split at h
  · rename_i z
    simp only [Option.some.injEq, Prod.mk.injEq] at h
    obtain ⟨rfl, rfl⟩ := h
    obtain ⟨h0, h1⟩ : 0 ≤ z ∧ z ≤ 65535 := hp
    obtain ⟨n, rfl⟩ := Int.eq_ofNat_of_zero_le h0
    refine ⟨env [c_isprime] (a_rprimeQ n), ?_⟩
    rw [show ((n : Int)).toNat = n from rfl, ← vc_rprimeQ n]
    have hP := primeB_f4
    refine ⟨⟨n, ⟨by omega, rfl⟩, (by rw [i64w (by omega) (by omega)]; exact ⟨rfl, True.intro⟩), True.intro⟩, ?_⟩
    rintro p ⟨hp, hn⟩
    rw [Int.toNat_natCast]
    refine ⟨by omega, ?_⟩
    cases hb : primeB p with
    | true =>
      show (p : Int) = (nextQ n : Int)
      have : nextPf (65537 - p) p = p := by
        cases h : 65537 - p with
        | zero => rfl
        | succ f => simp [nextPf, hb]
      rw [← hn, this]
    | false =>
      have hlt : p < 65537 := by
        rcases Nat.lt_or_ge p 65537 with q | q
        · exact q
        · have : p = 65537 := by omega
          subst this; rw [hP] at hb; simp at hb
      refine ⟨p + 1, ⟨by omega, ?_⟩, ⟨⟨by rw [i64w (by omega) (by omega)]; omega, True.intro⟩, True.intro⟩, by omega⟩
      rw [← hn, show 65537 - p = (65537 - (p + 1)) + 1 by omega]
      simp [nextPf, hb]
  · simp at h
def c_rprimeQ : Ctr Tryd.prog := ⟨11, s_rprimeQ, fun args w => Tryd.call11 args w, fn_ok mix Tryd.func11 s_rprimeQ p_rprimeQ⟩
theorem nextPf_prime : ∀ f p : Nat, p + f = 65537 → primeB (nextPf f p) = true ∧ p ≤ nextPf f p ∧ nextPf f p ≤ 65537
  | 0, p, h => by
    have : p = 65537 := by omega
    subst this
    exact ⟨primeB_f4, Nat.le_refl _, Nat.le_refl _⟩
  | f + 1, p, h => by
    simp only [nextPf]
    cases hb : primeB p with
    | true => exact ⟨hb, Nat.le_refl _, by show p ≤ 65537; omega⟩
    | false =>
      obtain ⟨h1, h2, h3⟩ := nextPf_prime f (p + 1) (by omega)
      exact ⟨h1, by show p ≤ nextPf f (p + 1); omega, h3⟩
theorem nextQ_prime {n : Nat} (h : n ≤ 65535) : primeB (nextQ n) = true ∧ nextQ n ≤ 65537 := by
  obtain ⟨h1, _, h3⟩ := nextPf_prime (65537 - n) n (by omega)
  exact ⟨h1, h3⟩
theorem prime_odd {p : Nat} (h : primeB p = true) (h2 : p ≠ 2) : p % 2 = 1 := by
  rcases Nat.mod_two_eq_zero_or_one p with e | e
  · rcases (prime_div h).2 2 (Nat.dvd_of_mod_eq_zero e) with q | q
    · omega
    · omega
  · exact e

theorem vc_meul (b : Bool) (l : List Int) (n : Nat) : (((0 : Int) ≤ (↑n : Int) ∧ (↑n : Int) ≤ (65535 : Int)) ∧ bif (↑(nextQ (Int.toNat (↑n : Int))) : Int) == (2 : Int) then true = true else ((∀ (x : Int), x ∈ l → (0 : Int) ≤ x ∧ x < (4294967296 : Int)) ∧ (0 : Int) ≤ (3 : Int) ∧ (3 : Int) ≤ (1000 : Int) ∧ List.length l < (9223372036854775808 : Nat)) ∧ ((2 : Int) = (0 : Int) → False) ∧ ((-9223372036854775808 : Int) ≤ IntKind.wrap IntKind.i64 (Int.tdiv (IntKind.wrap IntKind.i64 ((↑(nextQ (Int.toNat (↑n : Int))) : Int) - (1 : Int))) (2 : Int)) ∧ IntKind.wrap IntKind.i64 (Int.tdiv (IntKind.wrap IntKind.i64 ((↑(nextQ (Int.toNat (↑n : Int))) : Int) - (1 : Int))) (2 : Int)) ≤ (9223372036854775807 : Int)) ∧ ((-9223372036854775808 : Int) ≤ (↑(nextQ (Int.toNat (↑n : Int))) : Int) ∧ (↑(nextQ (Int.toNat (↑n : Int))) : Int) ≤ (9223372036854775807 : Int)) ∧ ((32 : Nat) * Int.toNat (3 : Int) ≤ (1000 : Nat) ∧ (64 : Nat) ≤ (1000 : Nat) ∧ (64 : Nat) ≤ (1000 : Nat)) ∧ ((-9223372036854775808 : Int) ≤ (↑(nextQ (Int.toNat (↑n : Int))) : Int) ∧ (↑(nextQ (Int.toNat (↑n : Int))) : Int) ≤ (9223372036854775807 : Int)) ∧ ((32 : Nat) * Int.toNat (3 : Int) ≤ (200000 : Nat) ∧ (64 : Nat) ≤ (200000 : Nat)) ∧ bif kro (madeI b l (Int.toNat (3 : Int))) (↑(nextQ (Int.toNat (↑n : Int))) : Int) == (0 : Int) then ((64 : Nat) ≤ (10000 : Nat) ∧ (-9223372036854775808 : Int) ≤ (0 : Int) ∧ (0 : Int) ≤ (9223372036854775807 : Int)) ∧ bif decide (powE (madeI b l (Int.toNat (3 : Int))) (IntKind.wrap IntKind.i64 (Int.tdiv (IntKind.wrap IntKind.i64 ((↑(nextQ (Int.toNat (↑n : Int))) : Int) - (1 : Int))) (2 : Int))) (↑(nextQ (Int.toNat (↑n : Int))) : Int) = (0 : Int)) && decide (powV (madeI b l (Int.toNat (3 : Int))) (IntKind.wrap IntKind.i64 (Int.tdiv (IntKind.wrap IntKind.i64 ((↑(nextQ (Int.toNat (↑n : Int))) : Int) - (1 : Int))) (2 : Int))) (↑(nextQ (Int.toNat (↑n : Int))) : Int) = (0 : Int)) then true = true else false = true else bif kro (madeI b l (Int.toNat (3 : Int))) (↑(nextQ (Int.toNat (↑n : Int))) : Int) == (1 : Int) then ((64 : Nat) ≤ (10000 : Nat) ∧ (-9223372036854775808 : Int) ≤ (1 : Int) ∧ (1 : Int) ≤ (9223372036854775807 : Int)) ∧ bif decide (powE (madeI b l (Int.toNat (3 : Int))) (IntKind.wrap IntKind.i64 (Int.tdiv (IntKind.wrap IntKind.i64 ((↑(nextQ (Int.toNat (↑n : Int))) : Int) - (1 : Int))) (2 : Int))) (↑(nextQ (Int.toNat (↑n : Int))) : Int) = (0 : Int)) && decide (powV (madeI b l (Int.toNat (3 : Int))) (IntKind.wrap IntKind.i64 (Int.tdiv (IntKind.wrap IntKind.i64 ((↑(nextQ (Int.toNat (↑n : Int))) : Int) - (1 : Int))) (2 : Int))) (↑(nextQ (Int.toNat (↑n : Int))) : Int) = (1 : Int)) then true = true else false = true else ((64 : Nat) ≤ (10000 : Nat) ∧ (-9223372036854775808 : Int) ≤ IntKind.wrap IntKind.i64 ((↑(nextQ (Int.toNat (↑n : Int))) : Int) - (1 : Int)) ∧ IntKind.wrap IntKind.i64 ((↑(nextQ (Int.toNat (↑n : Int))) : Int) - (1 : Int)) ≤ (9223372036854775807 : Int)) ∧ bif decide (powE (madeI b l (Int.toNat (3 : Int))) (IntKind.wrap IntKind.i64 (Int.tdiv (IntKind.wrap IntKind.i64 ((↑(nextQ (Int.toNat (↑n : Int))) : Int) - (1 : Int))) (2 : Int))) (↑(nextQ (Int.toNat (↑n : Int))) : Int) = (0 : Int)) && decide (powV (madeI b l (Int.toNat (3 : Int))) (IntKind.wrap IntKind.i64 (Int.tdiv (IntKind.wrap IntKind.i64 ((↑(nextQ (Int.toNat (↑n : Int))) : Int) - (1 : Int))) (2 : Int))) (↑(nextQ (Int.toNat (↑n : Int))) : Int) = IntKind.wrap IntKind.i64 ((↑(nextQ (Int.toNat (↑n : Int))) : Int) - (1 : Int))) then true = true else false = true) = evFn (env [c_lex, c_rprimeQ, c_rMade, c_lof, c_lpow, c_kron, c_lis] noAnn) Tryd.f3 [rawM b l, .int .u16 n] (MRes.sat (.ret (.bool true))) := by kernel_rfl
def s_meul : FSpec
  | [.st [.bool _, .ws l], .int .u16 n] => some (some ((Wd l ∧ l.length < 9223372036854775808) ∧ (0 ≤ n ∧ n ≤ 65535)), .ret (.bool true))
  | _ => none
theorem p_meul : Good Tryd.f3 s_meul := by
  intro ms p r h hp
  unfold s_meul at h
  split at h
  · rename_i b l z
    simp only [Option.some.injEq, Prod.mk.injEq] at h
    obtain ⟨rfl, rfl⟩ := h
    obtain ⟨⟨w1, n1⟩, x1, x2⟩ : (Wd l ∧ l.length < 9223372036854775808) ∧ (0 ≤ z ∧ z ≤ 65535) := hp
    obtain ⟨n, rfl⟩ := Int.eq_ofNat_of_zero_le x1
    refine ⟨env [c_lex, c_rprimeQ, c_rMade, c_lof, c_lpow, c_kron, c_lis] noAnn, ?_⟩
    rw [← vc_meul b l n]
    obtain ⟨hP, hPl⟩ := nextQ_prime (n := n) (by omega)
    rw [Int.toNat_natCast]
    generalize nextQ n = q at *
    refine ⟨⟨by omega, by omega⟩, ?_⟩
    by_cases h2 : q = 2
    · subst h2; rfl
    rw [show ((q : Int) == 2) = false by simp only [beq_eq_false_iff_ne]; omega, cond_false]
    have ho := prime_odd hP h2
    have hq1 := (prime_div hP).1
    have e1 : IntKind.wrap IntKind.i64 ((q : Int) - 1) = (q : Int) - 1 := i64w (by omega) (by omega)
    have e2 : Int.tdiv ((q : Int) - 1) 2 = ((q / 2 : Nat) : Int) := by
      rw [Int.tdiv_eq_ediv_of_nonneg (by omega)]; omega
    have e3 : IntKind.wrap IntKind.i64 ((q / 2 : Nat) : Int) = ((q / 2 : Nat) : Int) := i64w (by omega) (by omega)
    rw [e1, e2, e3]
    refine ⟨⟨w1, by omega, by omega, n1⟩, by omega, ⟨by omega, by omega⟩, ⟨by omega, by omega⟩, ⟨by omega, by omega, by omega⟩, ⟨by omega, by omega⟩, ⟨by omega, by omega⟩, ?_⟩
    generalize madeI b l (Int.toNat 3) = a
    have hpE : powE a ((q / 2 : Nat) : Int) q = 0 := by
      unfold powE
      rw [if_pos (by omega), if_neg (fun h => by omega)]
    have hpV : powV a ((q / 2 : Nat) : Int) q = chi q a % q := by
      unfold powV powR
      rw [if_pos (by omega), if_neg (fun h => by omega), if_neg (by omega), ← euler hP ho a]
      rfl
    have hk : kro a q = chi q a := kro_chi a ho
    rw [hpE, hpV, hk]
    have hc : chi q a = 0 ∨ chi q a = 1 ∨ chi q a = -1 := by rw [← hk]; exact kro_pm a q
    rcases hc with h | h | h <;> rw [h]
    · exact ⟨⟨by omega, by omega, by omega⟩, rfl⟩
    · rw [show (1 : Int) % q = 1 from Int.emod_eq_of_lt (by omega) (by omega)]
      exact ⟨⟨by omega, by omega, by omega⟩, rfl⟩
    · have e4 : (-1 : Int) % q = q - 1 := by
        rw [show (-1 : Int) = ((q : Int) - 1) + q * (-1) by omega, Int.add_mul_emod_self_left]
        exact Int.emod_eq_of_lt (by omega) (by omega)
      rw [e4, decide_eq_true (show (0 : Int) = 0 from rfl), decide_eq_true (show (q : Int) - 1 = q - 1 from rfl)]
      exact ⟨⟨by omega, by omega, by omega⟩, rfl⟩
  · simp at h
def c_meul : Ctr Tryd.prog := ⟨3, s_meul, fun args w => Tryd.call3 args w, fn_ok mix Tryd.func3 s_meul p_meul⟩

end Go.Proofs.YtcikhffhikgahaaDoor

/-
  The walk of ModularRoots.
-/
namespace Go.Proofs.YtcikhffhikgahaaDoor
open Go Go.RowKit

def s_r1pow : FSpec
  | [.big a n, .int .i64 k] => some (some (n ≤ 100 ∧ 0 ≤ k ∧ k ≤ 500), .ret (.big (a ^ k.toNat) (n * k.toNat + 1)))
  | _ => none
structure PwX where
  i : Nat
structure PwXI (K : Nat) (s : PwX) : Prop where
  i : s.i ≤ bl K
def a_r1pow (a : Int) (K n : Nat) : Nat → MS → Option LoopAnn
  | 2, _ => some (.inv PwX (PwXI K) (fun s => ⟨21, [(1, .int .i64 (K / 2 ^ s.i : Nat)), (2, .bp 0 0), (4, .bp 1 0), (5, .bp 2 0)], [⟨false, .one (.big (a ^ 2 ^ s.i) (n * 2 ^ s.i))⟩, ⟨false, .one (.big 0 0)⟩, ⟨false, .one (.big (a ^ (K % 2 ^ s.i)) (n * (K % 2 ^ s.i) + 1))⟩], 0⟩) (fun s => bl K - s.i))
  | _, _ => none
theorem vc_r1pow (a : Int) (K n : Nat) : (((-9223372036854775808 : Int) ≤ (1 : Int) ∧ (1 : Int) ≤ (9223372036854775807 : Int)) ∧ (∃ i, PwXI K i ∧ ((↑K : Int) = (↑(K / (2 : Nat) ^ PwX.i i) : Int) ∧ (0 : Nat) = (0 : Nat) ∧ (0 : Nat) = (0 : Nat) ∧ (0 : Nat) = (0 : Nat) ∧ True) ∧ (a = a ^ (2 : Nat) ^ PwX.i i ∧ (n ≤ n * (2 : Nat) ^ PwX.i i ∨ Int.natAbs a < (2 : Nat) ^ (n * (2 : Nat) ^ PwX.i i))) ∧ ((0 : Int) = (0 : Int) ∧ ((0 : Nat) ≤ (0 : Nat) ∨ Int.natAbs (0 : Int) < (2 : Nat) ^ (0 : Nat))) ∧ ((1 : Int) = a ^ (K % (2 : Nat) ^ PwX.i i) ∧ ((64 : Nat) ≤ n * (K % (2 : Nat) ^ PwX.i i) + (1 : Nat) ∨ Int.natAbs (1 : Int) < (2 : Nat) ^ (n * (K % (2 : Nat) ^ PwX.i i) + (1 : Nat)))) ∧ True) ∧ ∀ (i : PwX), PwXI K i → bif decide ((↑(K / (2 : Nat) ^ PwX.i i) : Int) > (0 : Int)) then ((2 : Int) = (0 : Int) → False) ∧ bif Int.tmod (↑(K / (2 : Nat) ^ PwX.i i) : Int) (2 : Int) == (1 : Int) then (n * (K % (2 : Nat) ^ PwX.i i) + (1 : Nat) ≤ (1000000 : Nat) ∧ n * (2 : Nat) ^ PwX.i i ≤ (1000000 : Nat)) ∧ (n * (2 : Nat) ^ PwX.i i ≤ (1000000 : Nat) ∧ n * (2 : Nat) ^ PwX.i i ≤ (1000000 : Nat)) ∧ ((2 : Int) = (0 : Int) → False) ∧ ∃ j, PwXI K j ∧ ((IntKind.wrap IntKind.i64 (Int.tdiv (↑(K / (2 : Nat) ^ PwX.i i) : Int) (2 : Int)) = (↑(K / (2 : Nat) ^ PwX.i j) : Int) ∧ (0 : Nat) = (0 : Nat) ∧ (0 : Nat) = (0 : Nat) ∧ (0 : Nat) = (0 : Nat) ∧ True) ∧ (a ^ (2 : Nat) ^ PwX.i i * a ^ (2 : Nat) ^ PwX.i i = a ^ (2 : Nat) ^ PwX.i j ∧ (n * (2 : Nat) ^ PwX.i i + n * (2 : Nat) ^ PwX.i i ≤ n * (2 : Nat) ^ PwX.i j ∨ Int.natAbs (a ^ (2 : Nat) ^ PwX.i i * a ^ (2 : Nat) ^ PwX.i i) < (2 : Nat) ^ (n * (2 : Nat) ^ PwX.i j))) ∧ ((0 : Int) = (0 : Int) ∧ ((0 : Nat) ≤ (0 : Nat) ∨ Int.natAbs (0 : Int) < (2 : Nat) ^ (0 : Nat))) ∧ (a ^ (K % (2 : Nat) ^ PwX.i i) * a ^ (2 : Nat) ^ PwX.i i = a ^ (K % (2 : Nat) ^ PwX.i j) ∧ (n * (K % (2 : Nat) ^ PwX.i i) + (1 : Nat) + n * (2 : Nat) ^ PwX.i i ≤ n * (K % (2 : Nat) ^ PwX.i j) + (1 : Nat) ∨ Int.natAbs (a ^ (K % (2 : Nat) ^ PwX.i i) * a ^ (2 : Nat) ^ PwX.i i) < (2 : Nat) ^ (n * (K % (2 : Nat) ^ PwX.i j) + (1 : Nat)))) ∧ True) ∧ bl K - PwX.i j < bl K - PwX.i i else (n * (2 : Nat) ^ PwX.i i ≤ (1000000 : Nat) ∧ n * (2 : Nat) ^ PwX.i i ≤ (1000000 : Nat)) ∧ ((2 : Int) = (0 : Int) → False) ∧ ∃ j, PwXI K j ∧ ((IntKind.wrap IntKind.i64 (Int.tdiv (↑(K / (2 : Nat) ^ PwX.i i) : Int) (2 : Int)) = (↑(K / (2 : Nat) ^ PwX.i j) : Int) ∧ (0 : Nat) = (0 : Nat) ∧ (0 : Nat) = (0 : Nat) ∧ (0 : Nat) = (0 : Nat) ∧ True) ∧ (a ^ (2 : Nat) ^ PwX.i i * a ^ (2 : Nat) ^ PwX.i i = a ^ (2 : Nat) ^ PwX.i j ∧ (n * (2 : Nat) ^ PwX.i i + n * (2 : Nat) ^ PwX.i i ≤ n * (2 : Nat) ^ PwX.i j ∨ Int.natAbs (a ^ (2 : Nat) ^ PwX.i i * a ^ (2 : Nat) ^ PwX.i i) < (2 : Nat) ^ (n * (2 : Nat) ^ PwX.i j))) ∧ ((0 : Int) = (0 : Int) ∧ ((0 : Nat) ≤ (0 : Nat) ∨ Int.natAbs (0 : Int) < (2 : Nat) ^ (0 : Nat))) ∧ (a ^ (K % (2 : Nat) ^ PwX.i i) = a ^ (K % (2 : Nat) ^ PwX.i j) ∧ (n * (K % (2 : Nat) ^ PwX.i i) + (1 : Nat) ≤ n * (K % (2 : Nat) ^ PwX.i j) + (1 : Nat) ∨ Int.natAbs (a ^ (K % (2 : Nat) ^ PwX.i i)) < (2 : Nat) ^ (n * (K % (2 : Nat) ^ PwX.i j) + (1 : Nat)))) ∧ True) ∧ bl K - PwX.i j < bl K - PwX.i i else a ^ (K % (2 : Nat) ^ PwX.i i) = a ^ K ∧ (n * (K % (2 : Nat) ^ PwX.i i) + (1 : Nat) ≤ n * K + (1 : Nat) ∨ Int.natAbs (a ^ (K % (2 : Nat) ^ PwX.i i)) < (2 : Nat) ^ (n * K + (1 : Nat)))) = evFn (env [c_rof, c_rmul] (a_r1pow a K n)) Tryd.f29 [.big a n, .int .i64 K] (MRes.sat (.ret (.big (a ^ K) (n * K + 1)))) := by kernel_rfl
theorem p_r1pow : Good Tryd.f29 s_r1pow := by
  intro ms p r h hp
  unfold s_r1pow at h
  split at h
  · rename_i a n k
    simp only [Option.some.injEq, Prod.mk.injEq] at h
    obtain ⟨rfl, rfl⟩ := h
    obtain ⟨h1, h2, h3⟩ : n ≤ 100 ∧ 0 ≤ k ∧ k ≤ 500 := hp
    obtain ⟨K, rfl⟩ := Int.eq_ofNat_of_zero_le h2
    refine ⟨env [c_rof, c_rmul] (a_r1pow a K n), ?_⟩
    rw [show ((K : Int)).toNat = K from rfl, ← vc_r1pow a K n]
    refine ⟨by omega, ⟨⟨0⟩, ⟨Nat.zero_le _⟩, ?_, ?_, ⟨rfl, .inl (Nat.le_refl _)⟩, ⟨?_, .inr ?_⟩, True.intro⟩, ?_⟩
    · rw [show (2 : Nat) ^ PwX.i ⟨0⟩ = 1 from rfl, Nat.div_one]
      exact ⟨rfl, rfl, rfl, rfl, True.intro⟩
    · rw [show (2 : Nat) ^ PwX.i ⟨0⟩ = 1 from rfl, Int.pow_one, Nat.mul_one]
      exact ⟨rfl, .inl (Nat.le_refl _)⟩
    · rw [show (2 : Nat) ^ PwX.i ⟨0⟩ = 1 from rfl, Nat.mod_one, Int.pow_zero]
    · rw [show (2 : Nat) ^ PwX.i ⟨0⟩ = 1 from rfl, Nat.mod_one, Nat.mul_zero]; decide
    rintro ⟨i⟩ hI
    have hi : i ≤ bl K := hI.i
    clear hI
    dsimp only
    by_cases hc : K / 2 ^ i = 0
    · rw [hc, decide_eq_false (by omega), cond_false]
      have hlt : K < 2 ^ i := by
        rcases Nat.lt_or_ge K (2 ^ i) with q | q
        · exact q
        · have := Nat.div_pos q (Nat.two_pow_pos i); omega
      rw [Nat.mod_eq_of_lt hlt]
      exact ⟨rfl, .inl (Nat.le_refl _)⟩
    · rw [decide_eq_true (show ((K / 2 ^ i : Nat) : Int) > 0 from Int.ofNat_lt.2 (Nat.pos_of_ne_zero hc)), cond_true]
      have hge : 2 ^ i ≤ K := by
        rcases Nat.lt_or_ge K (2 ^ i) with q | q
        · exact absurd (Nat.div_eq_of_lt q) hc
        · exact q
      have hlt : i < bl K := by
        rcases Nat.lt_or_ge i (bl K) with q | q
        · exact q
        · have h5 := bl_lt K
          have h6 : 2 ^ bl K ≤ 2 ^ i := Nat.pow_le_pow_right (by omega) q
          omega
      have hs : K % 2 ^ (i + 1) = K % 2 ^ i + 2 ^ i * (K / 2 ^ i % 2) := Nat.mod_pow_succ
      have hm := Nat.mod_lt K (Nat.two_pow_pos i)
      have hp2 : 2 ^ (i + 1) = 2 ^ i + 2 ^ i := by rw [Nat.pow_succ, Nat.mul_two]
      have hd : K / 2 ^ (i + 1) = K / 2 ^ i / 2 := by rw [Nat.pow_succ, Nat.div_div_eq_div_mul]
      have b1 : n * 2 ^ i ≤ 100 * 500 := Nat.mul_le_mul h1 (by omega)
      have b2 : n * (K % 2 ^ i) ≤ 100 * 500 := Nat.mul_le_mul h1 (by omega)
      have e1 : Int.tdiv ((K / 2 ^ i : Nat) : Int) 2 = ((K / 2 ^ i / 2 : Nat) : Int) := rfl
      have hK2 : K / 2 ^ i ≤ K := Nat.div_le_self _ _
      have hK3 : K / 2 ^ i / 2 ≤ 500 := Nat.le_trans (Nat.div_le_self _ _) (by omega)
      have e2 : IntKind.wrap IntKind.i64 ((K / 2 ^ i / 2 : Nat) : Int) = ((K / 2 ^ (i + 1) : Nat) : Int) := by
        rw [hd]
        generalize K / 2 ^ i / 2 = m at *
        exact i64w (by omega) (by omega)
      have e3 : Int.tmod ((K / 2 ^ i : Nat) : Int) 2 = ((K / 2 ^ i % 2 : Nat) : Int) := rfl
      have sqE : a ^ 2 ^ i * a ^ 2 ^ i = a ^ 2 ^ (i + 1) := by rw [← Int.pow_add, hp2]
      have szE : n * 2 ^ i + n * 2 ^ i ≤ n * 2 ^ (i + 1) := by rw [hp2, Nat.mul_add]; exact Nat.le_refl _
      rw [e1, e2, e3]
      refine ⟨by omega, ?_⟩
      rcases Nat.mod_two_eq_zero_or_one (K / 2 ^ i) with h | h
      · rw [h] at hs
        rw [h, show (((0 : Nat) : Int) == 1) = false from rfl, cond_false]
        refine ⟨by omega, by omega, ⟨i + 1⟩, ⟨hlt⟩, ⟨⟨rfl, rfl, rfl, rfl, True.intro⟩, ⟨sqE, .inl szE⟩, ⟨rfl, .inl (Nat.le_refl _)⟩, ?_, True.intro⟩, by show bl K - (i + 1) < bl K - i; omega⟩
        show a ^ (K % 2 ^ i) = a ^ (K % 2 ^ (i + 1)) ∧ (n * (K % 2 ^ i) + 1 ≤ n * (K % 2 ^ (i + 1)) + 1 ∨ _)
        rw [hs, Nat.mul_zero, Nat.add_zero]
        exact ⟨rfl, .inl (Nat.le_refl _)⟩
      · rw [h, Nat.mul_one] at hs
        rw [h, show (((1 : Nat) : Int) == 1) = true from rfl, cond_true]
        refine ⟨by omega, by omega, by omega, ⟨i + 1⟩, ⟨hlt⟩, ⟨⟨rfl, rfl, rfl, rfl, True.intro⟩, ⟨sqE, .inl szE⟩, ⟨rfl, .inl (Nat.le_refl _)⟩, ?_, True.intro⟩, by show bl K - (i + 1) < bl K - i; omega⟩
        show a ^ (K % 2 ^ i) * a ^ 2 ^ i = a ^ (K % 2 ^ (i + 1)) ∧ (n * (K % 2 ^ i) + 1 + n * 2 ^ i ≤ n * (K % 2 ^ (i + 1)) + 1 ∨ _)
        rw [hs, ← Int.pow_add, Nat.mul_add]
        exact ⟨rfl, .inl (by omega)⟩
  · simp at h
def c_r1pow : Ctr Tryd.prog := ⟨29, s_r1pow, fun args w => Tryd.call29 args w, fn_ok mix Tryd.func29 s_r1pow p_r1pow⟩

theorem icmp_ge (a b : Int) : decide (icmp a b ≥ 0) = decide (b ≤ a) := by
  refine decide_eq_decide.2 ?_
  unfold icmp
  split <;> (try split) <;> omega
theorem icmp_gtR (a b : Int) : decide (icmp a b > 0) = decide (b < a) := by
  refine decide_eq_decide.2 ?_
  unfold icmp
  split <;> (try split) <;> omega
theorem sgn_lt0R {b : Int} : decide (sgn b < 0) = decide (b < 0) := by
  refine decide_eq_decide.2 ?_
  unfold sgn
  split <;> (try split) <;> omega
theorem icmp_ne (a b : Int) : (icmp a b != 0) = !decide (a = b) := by
  unfold icmp
  by_cases h : a = b
  · subst h; simp
  · rw [decide_eq_false h]
    split <;> (try split) <;> first | rfl | omega

/-- What Sqrt answers modulo a prime. -/
theorem root_cases {p : Nat} (hp : primeB p = true) (a : Int) : (rootE a p = 0 ∧ RootOk p a (rootV a p) ∧ ((p : Int) ≠ 2 → 0 ≤ kro a p)) ∨ (rootE a p = 6 ∧ (p : Int) ≠ 2 ∧ ¬ 0 ≤ kro a p) := by
  have hp1 := (prime_div hp).1
  unfold rootE rootV
  rw [if_neg (show ¬ (p : Int) < 2 by omega), if_neg (show ¬ (p : Int) < 2 by omega)]
  by_cases h2 : p = 2
  · subst h2
    rw [if_pos (.inl rfl), if_pos (.inl rfl)]
    refine .inl ⟨rfl, ?_, fun h => absurd rfl h⟩
    rcases (show a % 2 = 0 ∨ a % 2 = 1 by omega) with h | h
    · rw [show a % ((2 : Nat) : Int) = 0 from h]
      exact ⟨by omega, by omega, by omega, .inl (by omega)⟩
    · rw [show a % ((2 : Nat) : Int) = 1 from h]
      exact ⟨by omega, by omega, by omega, .inr (by omega)⟩
  have ho := prime_odd hp h2
  rw [kro_chi _ ho, kro_chi _ ho, chi_mod]
  by_cases h0 : a % (p : Int) = 0
  · rw [if_pos (.inr h0), if_pos (.inr h0), h0]
    refine .inl ⟨rfl, ⟨by omega, by omega, ?_, .inl (by rw [Int.neg_zero, Int.zero_emod])⟩, fun _ => ?_⟩
    · rw [Int.mul_zero, Int.zero_sub]
      exact Int.emod_eq_zero_of_dvd (Int.dvd_neg.2 (Int.dvd_of_emod_eq_zero h0))
    · rw [chi_zero_iff.2 (prime_ncop hp (Int.dvd_of_emod_eq_zero h0))]
      omega
  · have hn : ¬ ((p : Int) % 2 = 0 ∨ a % (p : Int) = 0) := fun h => by rcases h with h | h <;> omega
    have hz : chi p a ≠ 0 := fun q => chi_zero_iff.1 q (prime_cop hp fun d => h0 (Int.emod_eq_zero_of_dvd d))
    have hpm := kro_pm a p
    rw [kro_chi a ho] at hpm
    rw [if_neg hn, if_neg hn]
    by_cases h1 : chi p a = 1
    · rw [if_pos h1, if_pos h1]
      refine .inl ⟨rfl, ?_, fun _ => by omega⟩
      have hA : chi p (a % p) = 1 := by rw [chi_mod]; exact h1
      have hs := (sqHas_of_prime hp a).h (by omega) (by omega) (by rw [kro_chi _ ho]; exact hA)
      obtain ⟨k1, k2, k3, k4⟩ := sqV_spec hp ho hA hs
      refine ⟨k1, k2, ?_, k4⟩
      rw [← k3]
      refine Int.emod_eq_emod_iff_emod_sub_eq_zero.2 ?_
      have e : a = a % p + p * (a / p) := (Int.emod_add_mul_ediv a p).symm
      refine Int.emod_eq_zero_of_dvd ⟨-(a / p), ?_⟩
      rw [Int.mul_neg]
      omega
    · rw [if_neg h1]
      exact .inr ⟨rfl, by omega, by omega⟩

theorem root_tail {P V a : Int} (hp : 0 < P) (h : RootOk P a V) {X : Prop} (hx : X) :
    ((128 : Nat) ≤ 1000000 ∧ (128 : Nat) ≤ 1000000) ∧ ((128 : Nat) + 128 ≤ 1000000 ∧ (160 : Nat) ≤ 1000000) ∧ (max ((128 : Nat) + 128) 160 + 1 ≤ 900000 ∧ (128 : Nat) ≤ 900000) ∧ (128 : Nat) ≤ 1000000 ∧ ((128 : Nat) ≤ 900000 ∧ (128 : Nat) ≤ 900000) ∧
      bif modE P != 0 then false = true else bif modE P != 0 then false = true else bif sgn (modV (V * V - a) P) != 0 then false = true else bif decide (sgn V < 0) then false = true else
        ((128 : Nat) ≤ 1000000 ∧ (128 : Nat) ≤ 1000000) ∧ bif decide (icmp V P ≥ 0) then false = true else bif sgn (modV (-V) P) != 0 then
          ((128 : Nat) ≤ 1000000 ∧ (128 : Nat) ≤ 1000000) ∧ bif decide (icmp V (modV (-V) P) > 0) then false = true else X
        else X := by
  have e1 : modE P = 0 := by unfold modE; rw [if_pos hp]
  have e2 : ∀ z, modV z P = z % P := fun z => by unfold modV; rw [if_pos hp]
  obtain ⟨h1, h2, h3, h4⟩ := h
  rw [e1, e2, e2, h3, icmp_ge, icmp_gtR, sgn_lt0R, decide_eq_false (show ¬ P ≤ V by omega), decide_eq_false (show ¬ V < 0 by omega), sgn_ne0, sgn_ne0]
  refine ⟨by omega, by omega, by omega, by omega, by omega, by omega, ?_⟩
  show bif !decide (-V % P = 0) then _ else _
  rcases h4 with h | h
  · rw [decide_eq_true h]
    exact hx
  · by_cases h5 : -V % P = 0
    · rw [decide_eq_true h5]
      exact hx
    · rw [decide_eq_false h5, Bool.not_false, cond_true, decide_eq_false (show ¬ -V % P < V by omega), cond_false]
      exact ⟨by omega, hx⟩

def a_mroots (b : Bool) (l : List Int) (q : Int) : Nat → MS → Option LoopAnn
  | 8, _ => some (.inv Nat (fun i => i ≤ 2) (fun i => ⟨125, [(5, .bool true), (7, .bs 2 0 2), (8, .bp 3 0), (9, .int .i64 i)], [⟨false, .one (rawM b l)⟩, ⟨false, .one (.big m127 128)⟩, ⟨false, .rows 2 2 (bgF [q, m127] 128)⟩, ⟨false, .one (.big (madeI b l 5) 160)⟩], 0⟩) (fun i => 2 - i))
  | _, _ => none
theorem vc_mroots (b : Bool) (l : List Int) (n : Nat) : (((-9223372036854775808 : Int) ≤ (2 : Int) ∧ (2 : Int) ≤ (9223372036854775807 : Int)) ∧ ((64 : Nat) ≤ (100 : Nat) ∧ (0 : Int) ≤ (127 : Int) ∧ (127 : Int) ≤ (500 : Int)) ∧ ((-9223372036854775808 : Int) ≤ (1 : Int) ∧ (1 : Int) ≤ (9223372036854775807 : Int)) ∧ ((64 : Nat) * Int.toNat (127 : Int) + (1 : Nat) ≤ (1000000 : Nat) ∧ (64 : Nat) ≤ (1000000 : Nat)) ∧ ((0 : Int) ≤ (↑n : Int) ∧ (↑n : Int) ≤ (65535 : Int)) ∧ ((-9223372036854775808 : Int) ≤ (↑(nextQ (Int.toNat (↑n : Int))) : Int) ∧ (↑(nextQ (Int.toNat (↑n : Int))) : Int) ≤ (9223372036854775807 : Int)) ∧ ((∀ (x : Int), x ∈ l → (0 : Int) ≤ x ∧ x < (4294967296 : Int)) ∧ (0 : Int) ≤ (5 : Int) ∧ (5 : Int) ≤ (1000 : Int) ∧ List.length l < (9223372036854775808 : Nat)) ∧ (∃ i, i ≤ (2 : Nat) ∧ (true = true ∧ ((0 : Nat) = (0 : Nat) ∧ (2 : Nat) = (2 : Nat)) ∧ (0 : Nat) = (0 : Nat) ∧ (0 : Int) = (↑i : Int) ∧ True) ∧ (b = b ∧ l = l ∧ True) ∧ ((2 : Int) ^ Int.toNat (127 : Int) - (1 : Int) = m127 ∧ (max ((64 : Nat) * Int.toNat (127 : Int) + (1 : Nat)) (64 : Nat) + (1 : Nat) ≤ (128 : Nat) ∨ Int.natAbs ((2 : Int) ^ Int.toNat (127 : Int) - (1 : Int)) < (2 : Nat) ^ (128 : Nat))) ∧ ((2 : Nat) = (2 : Nat) ∧ LeFun (2 : Nat) (rowOf [MV.big (↑(nextQ (Int.toNat (↑n : Int))) : Int) (64 : Nat), MV.big ((2 : Int) ^ Int.toNat (127 : Int) - (1 : Int)) (max ((64 : Nat) * Int.toNat (127 : Int) + (1 : Nat)) (64 : Nat) + (1 : Nat))]) (bgF [(↑(nextQ n) : Int), m127] (128 : Nat))) ∧ (madeI b l (Int.toNat (5 : Int)) = madeI b l (5 : Nat) ∧ ((32 : Nat) * Int.toNat (5 : Int) ≤ (160 : Nat) ∨ Int.natAbs (madeI b l (Int.toNat (5 : Int))) < (2 : Nat) ^ (160 : Nat))) ∧ True) ∧ ∀ (i : Nat), i ≤ (2 : Nat) → bif decide ((↑i : Int) < (2 : Int)) then ((0 : Int) ≤ (↑i : Int) ∧ (↑i : Int) < (↑(2 : Nat) : Int)) ∧ Int.toNat (↑i : Int) < (2 : Nat) ∧ ((160 : Nat) ≤ (3000 : Nat) ∧ (128 : Nat) ≤ (3000 : Nat) ∧ SqHas (madeI b l (5 : Nat)) (List.getD [(↑(nextQ n) : Int), m127] (Int.toNat (↑i : Int)) (0 : Int))) ∧ ((-9223372036854775808 : Int) ≤ (2 : Int) ∧ (2 : Int) ≤ (9223372036854775807 : Int)) ∧ ((128 : Nat) ≤ (1000000 : Nat) ∧ (64 : Nat) ≤ (1000000 : Nat)) ∧ bif icmp (List.getD [(↑(nextQ n) : Int), m127] (Int.toNat (↑i : Int)) (0 : Int)) (2 : Int) != (0 : Int) then ((160 : Nat) ≤ (200000 : Nat) ∧ (128 : Nat) ≤ (200000 : Nat)) ∧ bif !(rootE (madeI b l (5 : Nat)) (List.getD [(↑(nextQ n) : Int), m127] (Int.toNat (↑i : Int)) (0 : Int)) == (0 : Int)) == decide (kro (madeI b l (5 : Nat)) (List.getD [(↑(nextQ n) : Int), m127] (Int.toNat (↑i : Int)) (0 : Int)) ≥ (0 : Int)) then false = true else bif rootE (madeI b l (5 : Nat)) (List.getD [(↑(nextQ n) : Int), m127] (Int.toNat (↑i : Int)) (0 : Int)) != (0 : Int) then bif rootE (madeI b l (5 : Nat)) (List.getD [(↑(nextQ n) : Int), m127] (Int.toNat (↑i : Int)) (0 : Int)) != (6 : Int) then false = true else bif rootE (madeI b l (5 : Nat)) (List.getD [(↑(nextQ n) : Int), m127] (Int.toNat (↑i : Int)) (0 : Int)) != (0 : Int) then ∃ j, j ≤ (2 : Nat) ∧ ((true = true ∧ ((0 : Nat) = (0 : Nat) ∧ (2 : Nat) = (2 : Nat)) ∧ (0 : Nat) = (0 : Nat) ∧ IntKind.wrap IntKind.i64 ((↑i : Int) + (1 : Int)) = (↑j : Int) ∧ True) ∧ (b = b ∧ l = l ∧ True) ∧ (m127 = m127 ∧ ((128 : Nat) ≤ (128 : Nat) ∨ Int.natAbs m127 < (2 : Nat) ^ (128 : Nat))) ∧ ((2 : Nat) = (2 : Nat) ∧ LeFun (2 : Nat) (bgF [(↑(nextQ n) : Int), m127] (128 : Nat)) (bgF [(↑(nextQ n) : Int), m127] (128 : Nat))) ∧ (madeI b l (5 : Nat) = madeI b l (5 : Nat) ∧ ((160 : Nat) ≤ (160 : Nat) ∨ Int.natAbs (madeI b l (5 : Nat)) < (2 : Nat) ^ (160 : Nat))) ∧ True) ∧ (2 : Nat) - j < (2 : Nat) - i else ((128 : Nat) ≤ (1000000 : Nat) ∧ (128 : Nat) ≤ (1000000 : Nat)) ∧ ((128 : Nat) + (128 : Nat) ≤ (1000000 : Nat) ∧ (160 : Nat) ≤ (1000000 : Nat)) ∧ (max ((128 : Nat) + (128 : Nat)) (160 : Nat) + (1 : Nat) ≤ (900000 : Nat) ∧ (128 : Nat) ≤ (900000 : Nat)) ∧ (128 : Nat) ≤ (1000000 : Nat) ∧ ((128 : Nat) ≤ (900000 : Nat) ∧ (128 : Nat) ≤ (900000 : Nat)) ∧ bif modE (List.getD [(↑(nextQ n) : Int), m127] (Int.toNat (↑i : Int)) (0 : Int)) != (0 : Int) then false = true else bif modE (List.getD [(↑(nextQ n) : Int), m127] (Int.toNat (↑i : Int)) (0 : Int)) != (0 : Int) then false = true else bif sgn (modV (rootV (madeI b l (5 : Nat)) (List.getD [(↑(nextQ n) : Int), m127] (Int.toNat (↑i : Int)) (0 : Int)) * rootV (madeI b l (5 : Nat)) (List.getD [(↑(nextQ n) : Int), m127] (Int.toNat (↑i : Int)) (0 : Int)) - madeI b l (5 : Nat)) (List.getD [(↑(nextQ n) : Int), m127] (Int.toNat (↑i : Int)) (0 : Int))) != (0 : Int) then false = true else bif decide (sgn (rootV (madeI b l (5 : Nat)) (List.getD [(↑(nextQ n) : Int), m127] (Int.toNat (↑i : Int)) (0 : Int))) < (0 : Int)) then false = true else ((128 : Nat) ≤ (1000000 : Nat) ∧ (128 : Nat) ≤ (1000000 : Nat)) ∧ bif decide (icmp (rootV (madeI b l (5 : Nat)) (List.getD [(↑(nextQ n) : Int), m127] (Int.toNat (↑i : Int)) (0 : Int))) (List.getD [(↑(nextQ n) : Int), m127] (Int.toNat (↑i : Int)) (0 : Int)) ≥ (0 : Int)) then false = true else bif sgn (modV (-rootV (madeI b l (5 : Nat)) (List.getD [(↑(nextQ n) : Int), m127] (Int.toNat (↑i : Int)) (0 : Int))) (List.getD [(↑(nextQ n) : Int), m127] (Int.toNat (↑i : Int)) (0 : Int))) != (0 : Int) then ((128 : Nat) ≤ (1000000 : Nat) ∧ (128 : Nat) ≤ (1000000 : Nat)) ∧ bif decide (icmp (rootV (madeI b l (5 : Nat)) (List.getD [(↑(nextQ n) : Int), m127] (Int.toNat (↑i : Int)) (0 : Int))) (modV (-rootV (madeI b l (5 : Nat)) (List.getD [(↑(nextQ n) : Int), m127] (Int.toNat (↑i : Int)) (0 : Int))) (List.getD [(↑(nextQ n) : Int), m127] (Int.toNat (↑i : Int)) (0 : Int))) > (0 : Int)) then false = true else ∃ j, j ≤ (2 : Nat) ∧ ((true = true ∧ ((0 : Nat) = (0 : Nat) ∧ (2 : Nat) = (2 : Nat)) ∧ (0 : Nat) = (0 : Nat) ∧ IntKind.wrap IntKind.i64 ((↑i : Int) + (1 : Int)) = (↑j : Int) ∧ True) ∧ (b = b ∧ l = l ∧ True) ∧ (m127 = m127 ∧ ((128 : Nat) ≤ (128 : Nat) ∨ Int.natAbs m127 < (2 : Nat) ^ (128 : Nat))) ∧ ((2 : Nat) = (2 : Nat) ∧ LeFun (2 : Nat) (bgF [(↑(nextQ n) : Int), m127] (128 : Nat)) (bgF [(↑(nextQ n) : Int), m127] (128 : Nat))) ∧ (madeI b l (5 : Nat) = madeI b l (5 : Nat) ∧ ((160 : Nat) ≤ (160 : Nat) ∨ Int.natAbs (madeI b l (5 : Nat)) < (2 : Nat) ^ (160 : Nat))) ∧ True) ∧ (2 : Nat) - j < (2 : Nat) - i else ∃ j, j ≤ (2 : Nat) ∧ ((true = true ∧ ((0 : Nat) = (0 : Nat) ∧ (2 : Nat) = (2 : Nat)) ∧ (0 : Nat) = (0 : Nat) ∧ IntKind.wrap IntKind.i64 ((↑i : Int) + (1 : Int)) = (↑j : Int) ∧ True) ∧ (b = b ∧ l = l ∧ True) ∧ (m127 = m127 ∧ ((128 : Nat) ≤ (128 : Nat) ∨ Int.natAbs m127 < (2 : Nat) ^ (128 : Nat))) ∧ ((2 : Nat) = (2 : Nat) ∧ LeFun (2 : Nat) (bgF [(↑(nextQ n) : Int), m127] (128 : Nat)) (bgF [(↑(nextQ n) : Int), m127] (128 : Nat))) ∧ (madeI b l (5 : Nat) = madeI b l (5 : Nat) ∧ ((160 : Nat) ≤ (160 : Nat) ∨ Int.natAbs (madeI b l (5 : Nat)) < (2 : Nat) ^ (160 : Nat))) ∧ True) ∧ (2 : Nat) - j < (2 : Nat) - i else bif rootE (madeI b l (5 : Nat)) (List.getD [(↑(nextQ n) : Int), m127] (Int.toNat (↑i : Int)) (0 : Int)) != (0 : Int) then ∃ j, j ≤ (2 : Nat) ∧ ((true = true ∧ ((0 : Nat) = (0 : Nat) ∧ (2 : Nat) = (2 : Nat)) ∧ (0 : Nat) = (0 : Nat) ∧ IntKind.wrap IntKind.i64 ((↑i : Int) + (1 : Int)) = (↑j : Int) ∧ True) ∧ (b = b ∧ l = l ∧ True) ∧ (m127 = m127 ∧ ((128 : Nat) ≤ (128 : Nat) ∨ Int.natAbs m127 < (2 : Nat) ^ (128 : Nat))) ∧ ((2 : Nat) = (2 : Nat) ∧ LeFun (2 : Nat) (bgF [(↑(nextQ n) : Int), m127] (128 : Nat)) (bgF [(↑(nextQ n) : Int), m127] (128 : Nat))) ∧ (madeI b l (5 : Nat) = madeI b l (5 : Nat) ∧ ((160 : Nat) ≤ (160 : Nat) ∨ Int.natAbs (madeI b l (5 : Nat)) < (2 : Nat) ^ (160 : Nat))) ∧ True) ∧ (2 : Nat) - j < (2 : Nat) - i else ((128 : Nat) ≤ (1000000 : Nat) ∧ (128 : Nat) ≤ (1000000 : Nat)) ∧ ((128 : Nat) + (128 : Nat) ≤ (1000000 : Nat) ∧ (160 : Nat) ≤ (1000000 : Nat)) ∧ (max ((128 : Nat) + (128 : Nat)) (160 : Nat) + (1 : Nat) ≤ (900000 : Nat) ∧ (128 : Nat) ≤ (900000 : Nat)) ∧ (128 : Nat) ≤ (1000000 : Nat) ∧ ((128 : Nat) ≤ (900000 : Nat) ∧ (128 : Nat) ≤ (900000 : Nat)) ∧ bif modE (List.getD [(↑(nextQ n) : Int), m127] (Int.toNat (↑i : Int)) (0 : Int)) != (0 : Int) then false = true else bif modE (List.getD [(↑(nextQ n) : Int), m127] (Int.toNat (↑i : Int)) (0 : Int)) != (0 : Int) then false = true else bif sgn (modV (rootV (madeI b l (5 : Nat)) (List.getD [(↑(nextQ n) : Int), m127] (Int.toNat (↑i : Int)) (0 : Int)) * rootV (madeI b l (5 : Nat)) (List.getD [(↑(nextQ n) : Int), m127] (Int.toNat (↑i : Int)) (0 : Int)) - madeI b l (5 : Nat)) (List.getD [(↑(nextQ n) : Int), m127] (Int.toNat (↑i : Int)) (0 : Int))) != (0 : Int) then false = true else bif decide (sgn (rootV (madeI b l (5 : Nat)) (List.getD [(↑(nextQ n) : Int), m127] (Int.toNat (↑i : Int)) (0 : Int))) < (0 : Int)) then false = true else ((128 : Nat) ≤ (1000000 : Nat) ∧ (128 : Nat) ≤ (1000000 : Nat)) ∧ bif decide (icmp (rootV (madeI b l (5 : Nat)) (List.getD [(↑(nextQ n) : Int), m127] (Int.toNat (↑i : Int)) (0 : Int))) (List.getD [(↑(nextQ n) : Int), m127] (Int.toNat (↑i : Int)) (0 : Int)) ≥ (0 : Int)) then false = true else bif sgn (modV (-rootV (madeI b l (5 : Nat)) (List.getD [(↑(nextQ n) : Int), m127] (Int.toNat (↑i : Int)) (0 : Int))) (List.getD [(↑(nextQ n) : Int), m127] (Int.toNat (↑i : Int)) (0 : Int))) != (0 : Int) then ((128 : Nat) ≤ (1000000 : Nat) ∧ (128 : Nat) ≤ (1000000 : Nat)) ∧ bif decide (icmp (rootV (madeI b l (5 : Nat)) (List.getD [(↑(nextQ n) : Int), m127] (Int.toNat (↑i : Int)) (0 : Int))) (modV (-rootV (madeI b l (5 : Nat)) (List.getD [(↑(nextQ n) : Int), m127] (Int.toNat (↑i : Int)) (0 : Int))) (List.getD [(↑(nextQ n) : Int), m127] (Int.toNat (↑i : Int)) (0 : Int))) > (0 : Int)) then false = true else ∃ j, j ≤ (2 : Nat) ∧ ((true = true ∧ ((0 : Nat) = (0 : Nat) ∧ (2 : Nat) = (2 : Nat)) ∧ (0 : Nat) = (0 : Nat) ∧ IntKind.wrap IntKind.i64 ((↑i : Int) + (1 : Int)) = (↑j : Int) ∧ True) ∧ (b = b ∧ l = l ∧ True) ∧ (m127 = m127 ∧ ((128 : Nat) ≤ (128 : Nat) ∨ Int.natAbs m127 < (2 : Nat) ^ (128 : Nat))) ∧ ((2 : Nat) = (2 : Nat) ∧ LeFun (2 : Nat) (bgF [(↑(nextQ n) : Int), m127] (128 : Nat)) (bgF [(↑(nextQ n) : Int), m127] (128 : Nat))) ∧ (madeI b l (5 : Nat) = madeI b l (5 : Nat) ∧ ((160 : Nat) ≤ (160 : Nat) ∨ Int.natAbs (madeI b l (5 : Nat)) < (2 : Nat) ^ (160 : Nat))) ∧ True) ∧ (2 : Nat) - j < (2 : Nat) - i else ∃ j, j ≤ (2 : Nat) ∧ ((true = true ∧ ((0 : Nat) = (0 : Nat) ∧ (2 : Nat) = (2 : Nat)) ∧ (0 : Nat) = (0 : Nat) ∧ IntKind.wrap IntKind.i64 ((↑i : Int) + (1 : Int)) = (↑j : Int) ∧ True) ∧ (b = b ∧ l = l ∧ True) ∧ (m127 = m127 ∧ ((128 : Nat) ≤ (128 : Nat) ∨ Int.natAbs m127 < (2 : Nat) ^ (128 : Nat))) ∧ ((2 : Nat) = (2 : Nat) ∧ LeFun (2 : Nat) (bgF [(↑(nextQ n) : Int), m127] (128 : Nat)) (bgF [(↑(nextQ n) : Int), m127] (128 : Nat))) ∧ (madeI b l (5 : Nat) = madeI b l (5 : Nat) ∧ ((160 : Nat) ≤ (160 : Nat) ∨ Int.natAbs (madeI b l (5 : Nat)) < (2 : Nat) ^ (160 : Nat))) ∧ True) ∧ (2 : Nat) - j < (2 : Nat) - i else bif rootE (madeI b l (5 : Nat)) (List.getD [(↑(nextQ n) : Int), m127] (Int.toNat (↑i : Int)) (0 : Int)) != (0 : Int) then bif rootE (madeI b l (5 : Nat)) (List.getD [(↑(nextQ n) : Int), m127] (Int.toNat (↑i : Int)) (0 : Int)) != (6 : Int) then false = true else bif rootE (madeI b l (5 : Nat)) (List.getD [(↑(nextQ n) : Int), m127] (Int.toNat (↑i : Int)) (0 : Int)) != (0 : Int) then ∃ j, j ≤ (2 : Nat) ∧ ((true = true ∧ ((0 : Nat) = (0 : Nat) ∧ (2 : Nat) = (2 : Nat)) ∧ (0 : Nat) = (0 : Nat) ∧ IntKind.wrap IntKind.i64 ((↑i : Int) + (1 : Int)) = (↑j : Int) ∧ True) ∧ (b = b ∧ l = l ∧ True) ∧ (m127 = m127 ∧ ((128 : Nat) ≤ (128 : Nat) ∨ Int.natAbs m127 < (2 : Nat) ^ (128 : Nat))) ∧ ((2 : Nat) = (2 : Nat) ∧ LeFun (2 : Nat) (bgF [(↑(nextQ n) : Int), m127] (128 : Nat)) (bgF [(↑(nextQ n) : Int), m127] (128 : Nat))) ∧ (madeI b l (5 : Nat) = madeI b l (5 : Nat) ∧ ((160 : Nat) ≤ (160 : Nat) ∨ Int.natAbs (madeI b l (5 : Nat)) < (2 : Nat) ^ (160 : Nat))) ∧ True) ∧ (2 : Nat) - j < (2 : Nat) - i else ((128 : Nat) ≤ (1000000 : Nat) ∧ (128 : Nat) ≤ (1000000 : Nat)) ∧ ((128 : Nat) + (128 : Nat) ≤ (1000000 : Nat) ∧ (160 : Nat) ≤ (1000000 : Nat)) ∧ (max ((128 : Nat) + (128 : Nat)) (160 : Nat) + (1 : Nat) ≤ (900000 : Nat) ∧ (128 : Nat) ≤ (900000 : Nat)) ∧ (128 : Nat) ≤ (1000000 : Nat) ∧ ((128 : Nat) ≤ (900000 : Nat) ∧ (128 : Nat) ≤ (900000 : Nat)) ∧ bif modE (List.getD [(↑(nextQ n) : Int), m127] (Int.toNat (↑i : Int)) (0 : Int)) != (0 : Int) then false = true else bif modE (List.getD [(↑(nextQ n) : Int), m127] (Int.toNat (↑i : Int)) (0 : Int)) != (0 : Int) then false = true else bif sgn (modV (rootV (madeI b l (5 : Nat)) (List.getD [(↑(nextQ n) : Int), m127] (Int.toNat (↑i : Int)) (0 : Int)) * rootV (madeI b l (5 : Nat)) (List.getD [(↑(nextQ n) : Int), m127] (Int.toNat (↑i : Int)) (0 : Int)) - madeI b l (5 : Nat)) (List.getD [(↑(nextQ n) : Int), m127] (Int.toNat (↑i : Int)) (0 : Int))) != (0 : Int) then false = true else bif decide (sgn (rootV (madeI b l (5 : Nat)) (List.getD [(↑(nextQ n) : Int), m127] (Int.toNat (↑i : Int)) (0 : Int))) < (0 : Int)) then false = true else ((128 : Nat) ≤ (1000000 : Nat) ∧ (128 : Nat) ≤ (1000000 : Nat)) ∧ bif decide (icmp (rootV (madeI b l (5 : Nat)) (List.getD [(↑(nextQ n) : Int), m127] (Int.toNat (↑i : Int)) (0 : Int))) (List.getD [(↑(nextQ n) : Int), m127] (Int.toNat (↑i : Int)) (0 : Int)) ≥ (0 : Int)) then false = true else bif sgn (modV (-rootV (madeI b l (5 : Nat)) (List.getD [(↑(nextQ n) : Int), m127] (Int.toNat (↑i : Int)) (0 : Int))) (List.getD [(↑(nextQ n) : Int), m127] (Int.toNat (↑i : Int)) (0 : Int))) != (0 : Int) then ((128 : Nat) ≤ (1000000 : Nat) ∧ (128 : Nat) ≤ (1000000 : Nat)) ∧ bif decide (icmp (rootV (madeI b l (5 : Nat)) (List.getD [(↑(nextQ n) : Int), m127] (Int.toNat (↑i : Int)) (0 : Int))) (modV (-rootV (madeI b l (5 : Nat)) (List.getD [(↑(nextQ n) : Int), m127] (Int.toNat (↑i : Int)) (0 : Int))) (List.getD [(↑(nextQ n) : Int), m127] (Int.toNat (↑i : Int)) (0 : Int))) > (0 : Int)) then false = true else ∃ j, j ≤ (2 : Nat) ∧ ((true = true ∧ ((0 : Nat) = (0 : Nat) ∧ (2 : Nat) = (2 : Nat)) ∧ (0 : Nat) = (0 : Nat) ∧ IntKind.wrap IntKind.i64 ((↑i : Int) + (1 : Int)) = (↑j : Int) ∧ True) ∧ (b = b ∧ l = l ∧ True) ∧ (m127 = m127 ∧ ((128 : Nat) ≤ (128 : Nat) ∨ Int.natAbs m127 < (2 : Nat) ^ (128 : Nat))) ∧ ((2 : Nat) = (2 : Nat) ∧ LeFun (2 : Nat) (bgF [(↑(nextQ n) : Int), m127] (128 : Nat)) (bgF [(↑(nextQ n) : Int), m127] (128 : Nat))) ∧ (madeI b l (5 : Nat) = madeI b l (5 : Nat) ∧ ((160 : Nat) ≤ (160 : Nat) ∨ Int.natAbs (madeI b l (5 : Nat)) < (2 : Nat) ^ (160 : Nat))) ∧ True) ∧ (2 : Nat) - j < (2 : Nat) - i else ∃ j, j ≤ (2 : Nat) ∧ ((true = true ∧ ((0 : Nat) = (0 : Nat) ∧ (2 : Nat) = (2 : Nat)) ∧ (0 : Nat) = (0 : Nat) ∧ IntKind.wrap IntKind.i64 ((↑i : Int) + (1 : Int)) = (↑j : Int) ∧ True) ∧ (b = b ∧ l = l ∧ True) ∧ (m127 = m127 ∧ ((128 : Nat) ≤ (128 : Nat) ∨ Int.natAbs m127 < (2 : Nat) ^ (128 : Nat))) ∧ ((2 : Nat) = (2 : Nat) ∧ LeFun (2 : Nat) (bgF [(↑(nextQ n) : Int), m127] (128 : Nat)) (bgF [(↑(nextQ n) : Int), m127] (128 : Nat))) ∧ (madeI b l (5 : Nat) = madeI b l (5 : Nat) ∧ ((160 : Nat) ≤ (160 : Nat) ∨ Int.natAbs (madeI b l (5 : Nat)) < (2 : Nat) ^ (160 : Nat))) ∧ True) ∧ (2 : Nat) - j < (2 : Nat) - i else bif rootE (madeI b l (5 : Nat)) (List.getD [(↑(nextQ n) : Int), m127] (Int.toNat (↑i : Int)) (0 : Int)) != (0 : Int) then ∃ j, j ≤ (2 : Nat) ∧ ((true = true ∧ ((0 : Nat) = (0 : Nat) ∧ (2 : Nat) = (2 : Nat)) ∧ (0 : Nat) = (0 : Nat) ∧ IntKind.wrap IntKind.i64 ((↑i : Int) + (1 : Int)) = (↑j : Int) ∧ True) ∧ (b = b ∧ l = l ∧ True) ∧ (m127 = m127 ∧ ((128 : Nat) ≤ (128 : Nat) ∨ Int.natAbs m127 < (2 : Nat) ^ (128 : Nat))) ∧ ((2 : Nat) = (2 : Nat) ∧ LeFun (2 : Nat) (bgF [(↑(nextQ n) : Int), m127] (128 : Nat)) (bgF [(↑(nextQ n) : Int), m127] (128 : Nat))) ∧ (madeI b l (5 : Nat) = madeI b l (5 : Nat) ∧ ((160 : Nat) ≤ (160 : Nat) ∨ Int.natAbs (madeI b l (5 : Nat)) < (2 : Nat) ^ (160 : Nat))) ∧ True) ∧ (2 : Nat) - j < (2 : Nat) - i else ((128 : Nat) ≤ (1000000 : Nat) ∧ (128 : Nat) ≤ (1000000 : Nat)) ∧ ((128 : Nat) + (128 : Nat) ≤ (1000000 : Nat) ∧ (160 : Nat) ≤ (1000000 : Nat)) ∧ (max ((128 : Nat) + (128 : Nat)) (160 : Nat) + (1 : Nat) ≤ (900000 : Nat) ∧ (128 : Nat) ≤ (900000 : Nat)) ∧ (128 : Nat) ≤ (1000000 : Nat) ∧ ((128 : Nat) ≤ (900000 : Nat) ∧ (128 : Nat) ≤ (900000 : Nat)) ∧ bif modE (List.getD [(↑(nextQ n) : Int), m127] (Int.toNat (↑i : Int)) (0 : Int)) != (0 : Int) then false = true else bif modE (List.getD [(↑(nextQ n) : Int), m127] (Int.toNat (↑i : Int)) (0 : Int)) != (0 : Int) then false = true else bif sgn (modV (rootV (madeI b l (5 : Nat)) (List.getD [(↑(nextQ n) : Int), m127] (Int.toNat (↑i : Int)) (0 : Int)) * rootV (madeI b l (5 : Nat)) (List.getD [(↑(nextQ n) : Int), m127] (Int.toNat (↑i : Int)) (0 : Int)) - madeI b l (5 : Nat)) (List.getD [(↑(nextQ n) : Int), m127] (Int.toNat (↑i : Int)) (0 : Int))) != (0 : Int) then false = true else bif decide (sgn (rootV (madeI b l (5 : Nat)) (List.getD [(↑(nextQ n) : Int), m127] (Int.toNat (↑i : Int)) (0 : Int))) < (0 : Int)) then false = true else ((128 : Nat) ≤ (1000000 : Nat) ∧ (128 : Nat) ≤ (1000000 : Nat)) ∧ bif decide (icmp (rootV (madeI b l (5 : Nat)) (List.getD [(↑(nextQ n) : Int), m127] (Int.toNat (↑i : Int)) (0 : Int))) (List.getD [(↑(nextQ n) : Int), m127] (Int.toNat (↑i : Int)) (0 : Int)) ≥ (0 : Int)) then false = true else bif sgn (modV (-rootV (madeI b l (5 : Nat)) (List.getD [(↑(nextQ n) : Int), m127] (Int.toNat (↑i : Int)) (0 : Int))) (List.getD [(↑(nextQ n) : Int), m127] (Int.toNat (↑i : Int)) (0 : Int))) != (0 : Int) then ((128 : Nat) ≤ (1000000 : Nat) ∧ (128 : Nat) ≤ (1000000 : Nat)) ∧ bif decide (icmp (rootV (madeI b l (5 : Nat)) (List.getD [(↑(nextQ n) : Int), m127] (Int.toNat (↑i : Int)) (0 : Int))) (modV (-rootV (madeI b l (5 : Nat)) (List.getD [(↑(nextQ n) : Int), m127] (Int.toNat (↑i : Int)) (0 : Int))) (List.getD [(↑(nextQ n) : Int), m127] (Int.toNat (↑i : Int)) (0 : Int))) > (0 : Int)) then false = true else ∃ j, j ≤ (2 : Nat) ∧ ((true = true ∧ ((0 : Nat) = (0 : Nat) ∧ (2 : Nat) = (2 : Nat)) ∧ (0 : Nat) = (0 : Nat) ∧ IntKind.wrap IntKind.i64 ((↑i : Int) + (1 : Int)) = (↑j : Int) ∧ True) ∧ (b = b ∧ l = l ∧ True) ∧ (m127 = m127 ∧ ((128 : Nat) ≤ (128 : Nat) ∨ Int.natAbs m127 < (2 : Nat) ^ (128 : Nat))) ∧ ((2 : Nat) = (2 : Nat) ∧ LeFun (2 : Nat) (bgF [(↑(nextQ n) : Int), m127] (128 : Nat)) (bgF [(↑(nextQ n) : Int), m127] (128 : Nat))) ∧ (madeI b l (5 : Nat) = madeI b l (5 : Nat) ∧ ((160 : Nat) ≤ (160 : Nat) ∨ Int.natAbs (madeI b l (5 : Nat)) < (2 : Nat) ^ (160 : Nat))) ∧ True) ∧ (2 : Nat) - j < (2 : Nat) - i else ∃ j, j ≤ (2 : Nat) ∧ ((true = true ∧ ((0 : Nat) = (0 : Nat) ∧ (2 : Nat) = (2 : Nat)) ∧ (0 : Nat) = (0 : Nat) ∧ IntKind.wrap IntKind.i64 ((↑i : Int) + (1 : Int)) = (↑j : Int) ∧ True) ∧ (b = b ∧ l = l ∧ True) ∧ (m127 = m127 ∧ ((128 : Nat) ≤ (128 : Nat) ∨ Int.natAbs m127 < (2 : Nat) ^ (128 : Nat))) ∧ ((2 : Nat) = (2 : Nat) ∧ LeFun (2 : Nat) (bgF [(↑(nextQ n) : Int), m127] (128 : Nat)) (bgF [(↑(nextQ n) : Int), m127] (128 : Nat))) ∧ (madeI b l (5 : Nat) = madeI b l (5 : Nat) ∧ ((160 : Nat) ≤ (160 : Nat) ∨ Int.natAbs (madeI b l (5 : Nat)) < (2 : Nat) ^ (160 : Nat))) ∧ True) ∧ (2 : Nat) - j < (2 : Nat) - i else true = true) = evFn (env [c_lex, c_rprimeQ, c_rMade, c_lof, c_r1pow, c_isub, c_lroot, c_icmp, c_kron, c_mul, c_modU, c_neg, c_sign] (a_mroots b l (nextQ n))) Tryd.f6 [rawM b l, .int .u16 n] (MRes.sat (.ret (.bool true))) := by kernel_rfl
def s_mroots : FSpec
  | [.st [.bool _, .ws l], .int .u16 n] => some (some ((Wd l ∧ l.length < 9223372036854775808) ∧ (0 ≤ n ∧ n ≤ 65535)), .ret (.bool true))
  | _ => none
theorem p_mroots : Good Tryd.f6 s_mroots := by
  intro ms p r h hp
  unfold s_mroots at h
  split at h
  · rename_i b l z
    simp only [Option.some.injEq, Prod.mk.injEq] at h
    obtain ⟨rfl, rfl⟩ := h
    obtain ⟨⟨w1, n1⟩, x1, x2⟩ : (Wd l ∧ l.length < 9223372036854775808) ∧ (0 ≤ z ∧ z ≤ 65535) := hp
    obtain ⟨n, rfl⟩ := Int.eq_ofNat_of_zero_le x1
    refine ⟨env [c_lex, c_rprimeQ, c_rMade, c_lof, c_r1pow, c_isub, c_lroot, c_icmp, c_kron, c_mul, c_modU, c_neg, c_sign] (a_mroots b l (nextQ n)), ?_⟩
    rw [← vc_mroots b l n]
    obtain ⟨hP, hPl⟩ := nextQ_prime (n := n) (by omega)
    rw [Int.toNat_natCast]
    generalize nextQ n = q at *
    rw [show Int.toNat 5 = 5 from rfl, show (2 : Int) ^ Int.toNat 127 - 1 = m127 by decide]
    generalize madeI b l 5 = a at *
    have hX : ∀ j : Nat, j ≤ 2 → (true = true ∧ ((0 : Nat) = 0 ∧ (2 : Nat) = 2) ∧ (0 : Nat) = 0 ∧ (j : Int) = (j : Int) ∧ True) ∧ (b = b ∧ l = l ∧ True) ∧ (m127 = m127 ∧ ((128 : Nat) ≤ 128 ∨ Int.natAbs m127 < 2 ^ 128)) ∧
        ((2 : Nat) = 2 ∧ LeFun 2 (bgF [(q : Int), m127] 128) (bgF [(q : Int), m127] 128)) ∧ (a = a ∧ ((160 : Nat) ≤ 160 ∨ Int.natAbs a < 2 ^ 160)) ∧ True := fun j _ =>
      ⟨⟨rfl, ⟨rfl, rfl⟩, rfl, rfl, True.intro⟩, ⟨rfl, rfl, True.intro⟩, ⟨rfl, .inl (Nat.le_refl _)⟩, ⟨rfl, LeFun.same rfl⟩, ⟨rfl, .inl (Nat.le_refl _)⟩, True.intro⟩
    refine ⟨by omega, by omega, by omega, by decide, by omega, by omega, ⟨w1, by omega, by omega, n1⟩, ⟨0, by omega, ⟨rfl, ⟨rfl, rfl⟩, rfl, rfl, True.intro⟩, ⟨rfl, rfl, True.intro⟩, ⟨rfl, .inr (by decide)⟩, ⟨rfl, ?_⟩, ⟨rfl, .inl (Nat.le_refl _)⟩, True.intro⟩, ?_⟩
    · refine LeFun.of_le fun i hi => ?_
      rcases Nat.lt_or_ge i 1 with h | h
      · obtain rfl : i = 0 := by omega
        exact ⟨rfl, .inl (by omega)⟩
      · obtain rfl : i = 1 := by omega
        exact ⟨rfl, .inr (by decide)⟩
    intro i hi
    rcases Nat.lt_or_ge i 2 with hi2 | hi2
    case inr =>
      rw [decide_eq_false (by omega)]
      rfl
    have hpi : ∃ p : Nat, primeB p = true ∧ List.getD [(q : Int), m127] i 0 = p := by
      rcases Nat.lt_or_ge i 1 with h | h
      · obtain rfl : i = 0 := by omega
        exact ⟨q, hP, rfl⟩
      · obtain rfl : i = 1 := by omega
        exact ⟨_, m127_prime, rfl⟩
    rw [decide_eq_true (by omega), cond_true, Int.toNat_natCast]
    obtain ⟨p, hp, hg⟩ := hpi
    rw [hg]
    clear hg
    have hp1 := (prime_div hp).1
    have e1 : IntKind.wrap IntKind.i64 ((i : Int) + 1) = ((i + 1 : Nat) : Int) := by rw [i64w (by omega) (by omega)]; omega
    rw [e1, icmp_ne]
    have hX := hX (i + 1) (by omega)
    refine ⟨by omega, hi2, ⟨by omega, by omega, sqHas_of_prime hp a⟩, by omega, by omega, ?_⟩
    rcases root_cases hp a with ⟨hE, hR, hK⟩ | ⟨hE, h2, hK⟩
    · have ht := fun (X : Prop) (hx : X) => root_tail (by omega : (0 : Int) < p) hR hx
      rw [hE]
      by_cases h2 : (p : Int) = 2
      · rw [decide_eq_true h2, Bool.not_true, cond_false]
        exact ht _ ⟨i + 1, by omega, hX, by omega⟩
      · rw [decide_eq_false h2, Bool.not_false, cond_true]
        refine ⟨by omega, ?_⟩
        rw [decide_eq_true (show kro a p ≥ 0 from hK h2)]
        exact ht _ ⟨i + 1, by omega, hX, by omega⟩
    · rw [hE, decide_eq_false h2, Bool.not_false, cond_true]
      refine ⟨by omega, ?_⟩
      rw [decide_eq_false (show ¬ kro a p ≥ 0 from hK)]
      exact ⟨i + 1, by omega, hX, by omega⟩
  · simp at h
def c_mroots : Ctr Tryd.prog := ⟨6, s_mroots, fun args w => Tryd.call6 args w, fn_ok mix Tryd.func6 s_mroots p_mroots⟩

end Go.Proofs.YtcikhffhikgahaaDoor

/-
  The frame of the laws of chapter 03: pairs of numbers of 16 bits; numbers.
-/
namespace Go.Proofs.YtcikhffhikgahaaDoor
open Go Go.ChangeShapes Go.WideShapes Go.ChangeAt Go.RowKit

theorem cells_two16 : Tryd.prog.cellsOf 61 = 2 := by kernel_rfl
theorem cells_i16 : Tryd.prog.cellsOf 39 = 1 := by kernel_rfl
theorem rep_two16 {H : Type} {enc : TypeId × Value → H} {w : World} {sp : Nat → Bool} {held : Bool} {v : Value} {d : DataW H} {ps : List MemPlace} (h : DataW.Trod enc Tryd.prog w 0 sp held 61 v d ps) :
    ∃ k0 k1, Rep1 (Ctx.args noS) w (.st [.int .i16 k0, .int .i16 k1]) v ∧ (-32768 ≤ k0 ∧ k0 ≤ 32767) ∧ (-32768 ≤ k1 ∧ k1 ≤ 32767) := by
  obtain ⟨fuel, h⟩ := h
  obtain ⟨hl, f', hf⟩ := trod_array Tryd.underlying61 h
  rw [cells_two16] at hl
  match hc : v.cells.toList, hl with
  | [a, b], _ =>
    rw [hc, cells_i16] at hf
    obtain ⟨y0, h0⟩ := hf 0 (by decide)
    obtain ⟨y1, h1⟩ := hf 1 (by decide)
    obtain ⟨n0, e0, w0⟩ := trod_int Tryd.underlying39 h0
    obtain ⟨n1, e1, w1⟩ := trod_int Tryd.underlying39 h1
    have z0 : [a] = [.int .i16 n0] := e0
    have z1 : [b] = [.int .i16 n1] := e1
    simp only [List.cons.injEq, and_true] at z0 z1
    subst z0 z1
    exact ⟨n0, n1, (rep1_agg rfl).2 ⟨_, agg_cells hc, _, _, rfl, rfl, _, _, rfl, rfl, rfl⟩, i16_wf w0, i16_wf w1⟩
theorem ok_at {P : Program} {W : World} {base : Nat} {args : Array Value} {ts : Array TypeId} (hval : ∀ (j : Nat) t v, ts[j]? = some t → args[j]? = some v → Value.okWide P W .any base t v) {j : Nat} {t : TypeId} {v : Value} (h1 : ts[j]? = some t) (h2 : args[j]? = some v) : Value.okWide P W .any base t v := hval j t v h1 h2

end Go.Proofs.YtcikhffhikgahaaDoor

/-
  The frame of the laws of chapter 03: numbers of 64 bits.
-/
namespace Go.Proofs.YtcikhffhikgahaaDoor
open Go Go.ChangeShapes Go.WideShapes Go.ChangeAt Go.RowKit

theorem i64_wf {n : Int} (h : (Lit.int .i64 n).wf = true) : -9223372036854775808 ≤ n ∧ n ≤ 9223372036854775807 := by simpa [Lit.wf, IntKind.min, IntKind.max, IntKind.signed, IntKind.bits] using h

end Go.Proofs.YtcikhffhikgahaaDoor

namespace Go.Proofs.YtcikhffhikgahaaDoor
open Go Go.ChangeShapes Go.WideShapes Go.ChangeAt Go.RowKit

def tysModularRoots : List Nat := [24, 4, 22, 72, 25]
theorem tysModularRoots_ok : tysModularRoots.all (subOk Tryd.prog tysModularRoots) = true := by kernel_rfl
theorem parModularRoots1 : Tryd.f6.params[1]? = some 25 := by rw [Tryd.params6]; rfl

set_option maxRecDepth 100000 in
theorem modularRoots_contract (H : Type) (enc : TypeId × Value → H) (W : World) (base : Nat) (args : Array Value) (ds gs : List (DataW H)) (before : List MemPlace) (hG : GW noS W)
    (hval : ∀ (j : Nat) t v, Tryd.f6.params[j]? = some t → args[j]? = some v → Value.okWide Tryd.prog W .any base t v)
    (hW : DataW.Whole enc Tryd.prog Tryd.f6.params.toList Rows.modularRootsSpec.vars Rows.modularRootsRow.apart W args.toList ds gs before) :
    Calls Tryd.prog 6 args W fun e W' => ∃ v, e = .returned v ∧ Rows.modularRootsSpec.post enc Tryd.prog Tryd.f6 Rows.modularRootsRow.apart Rows.modularRootsRow.fresh Rows.modularRootsRow.handsOn Rows.modularRootsRow.again W args v W' := by
  have hW' := hW
  obtain ⟨p, q, hA, hV, rfl, hfz, hnd⟩ := hW
  rw [Tryd.params6] at hA
  obtain ⟨v0, v1, d0, d1, p0, p1, rfl, rfl, rfl, h0, h1⟩ := trodAll_two hA
  obtain ⟨rfl, rfl⟩ := trodVars_none hV
  obtain ⟨b0, l0, r0, w0⟩ := rep_raw h0
  obtain ⟨z1, rfl, _, _, hw1⟩ := open_int Tryd.underlying25 (ok_at hval parModularRoots1 rfl) h1
  have r1 : Rep1 (Ctx.args noS) W (.int .u16 z1) (.int .u16 z1) := rfl
  have w1 := u16_wf hw1
  refine law_calls c_mroots rfl rfl tysModularRoots_ok (by rw [Tryd.params6]; decide) hW' hG ⟨[rawM b0 l0, .int .u16 z1], _, rfl, ⟨w0, w1⟩, _, _, rfl, r0, _, _, rfl, r1, rfl⟩ rfl

set_option maxHeartbeats 1600000 in
set_option maxRecDepth 100000 in
theorem modularRoots_lifted (os : Os) (started : os.Started) (H : Type) (enc : TypeId × Value → H) :
    ReturnsInHanded {} Tryd.checked os 6 .any (fun w args => (Rows.modularRootsSpec.pre enc Tryd.prog Tryd.f6 [] false w args ∧ laidMetH Tryd.prog laid1 w) ∧ sizedMet enc Tryd.prog Tryd.f6 (OpenSpec.ofChange Rows.modularRootsSpec) false w args)
      (Rows.modularRootsSpec.post enc Tryd.prog Tryd.f6 false true false false) := by
  refine returnsInHanded_of_change_and (C := Tryd.checked) (X := fun w _ => laidMetH Tryd.prog laid1 w) (fun _ _ _ hh h => h.of_heap hh) own started (by kernel_rfl) Tryd.func6
    (ChangeSpec.witness_shaped (enc := enc) (C := Tryd.checked) (os := os) (X := fun w _ => laidMetH Tryd.prog laid1 w) false (World.doorLaid Tryd.prog 400 os) #[.agg #[.bool false, .slice none 0 0], .int .u16 0] 8 rfl (World.shaped_of_RefB (by kernel_rfl) (by kernel_rfl)) (by kernel_rfl) (by kernel_rfl) (by kernel_rfl) (door_met os _)) ?_
  intro W base args ds gs before hval0 hW _ _ hL _
  exact modularRoots_contract H enc W base args ds gs before (gw_of_laid hL) hval0 hW

theorem modularRoots_over : Rows.ModularRootsSaid :=
  OpenClaim.holds_of_wide 6 Tryd.f6 rfl rfl rfl rfl rfl rfl rfl ⟨rfl, rfl, rfl, rfl, rfl⟩ rfl rfl rfl rfl rfl (by kernel_rfl) Tryd.func6 (by kernel_rfl)
    (of_decide_eq_true (by kernel_rfl)) (by unfold Func.isWrapper; first | (rw [if_pos (by decide +kernel)]; kernel_rfl) | (rw [if_neg (by decide +kernel)]; exact ⟨rfl, rfl⟩))
    (fun os started H enc _ => modularRoots_lifted os started H enc)

theorem modularRoots_holds : Rows.ModularRootsCardSaid :=
  Claim7.holds_tied_plain_at .later [] [.data] true (true, Rows.modularRootsCard.stood.harness.2) false
    modularRoots_over (fun _ h => by cases h) (by kernel_rfl) (fun _ h => by cases h) modularRoots_row_tie rfl ⟨rfl, rfl⟩ (by kernel_rfl) rfl
    (fun f fn hf hfn => by
      obtain rfl : f = 6 := Option.some.inj ((show Tryd.prog.funcNamed "algorist/algoristlaw03.ModularRoots" = some 6 by kernel_rfl).symm.trans hf) |>.symm
      obtain rfl : fn = Tryd.f6 := (Option.some.inj (Tryd.func6.symm.trans hfn)).symm
      exact ⟨by kernel_rfl, fun j t ht => by
        rw [Tryd.params6] at ht
        have hm : t ∈ [24, 25] := by simpa using Array.mem_of_getElem? ht
        have hall : ([24, 25].all fun u => !Tryd.prog.wantsStandIn u) = true := by kernel_rfl
        exact (show Tryd.prog.wantsStandIn t = false by simpa using List.all_eq_true.1 hall t hm)⟩)
    (by kernel_rfl)

end Go.Proofs.YtcikhffhikgahaaDoor
