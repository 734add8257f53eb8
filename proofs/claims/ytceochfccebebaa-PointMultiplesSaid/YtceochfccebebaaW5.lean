/-
  The frame of a law: descriptions of curves and of integers; what the contract of a law gives.
-/
import Derived.Test.YtceochfccebebaaW4
import Derived.Test.YtceochfccebebaaW2
import Derived.Test.YtceochfccebebaaRows
import Derived.ProofKit
import Derived.OpenShut
import Derived.JoinedCond


/-
  Contracts of functions: package point: Add, Times, Neg.
-/
namespace Go.Proofs.Ytceochfccebebaa
open Go Go.RowKit

/-- A point, or a divisor. -/
inductive TR where
  | pt (X Y : Int) (o : Bool)
  | dv (d : Int)
noncomputable def addT (A M px py : Int) (po : Bool) (qx qy : Int) (qo : Bool) : TR :=
  cond po (.pt qx qy qo) (cond qo (.pt px py false) (cond (oppB M px py qx qy) (.pt 0 0 true)
    (cond (decide (Int.gcd (slD px py qx qy) M = 1)) (.pt (sumX A M px py qx qy) (sumY A M px py qx qy) false) (.dv (Int.gcd (slD px py qx qy) M)))))
def TR.X : TR → Int
  | .pt x _ _ => x
  | .dv _ => 0
def TR.Y : TR → Int
  | .pt _ y _ => y
  | .dv _ => 0
def TR.o : TR → Bool
  | .pt _ _ o => o
  | .dv _ => false
def TR.d : TR → Int
  | .pt _ _ _ => 0
  | .dv d => d
def TR.ok : TR → Bool
  | .pt _ _ _ => true
  | .dv _ => false
/-- A sum of results. -/
noncomputable def addTT (A M : Int) : TR → TR → TR
  | .pt a b c, .pt x y z => addT A M a b c x y z
  | .dv d, _ => .dv d
  | .pt _ _ _, .dv d => .dv d
noncomputable def mulT (A M : Int) (p : TR) (n : Nat) : TR :=
  if n = 0 then .pt 0 0 true else
    let a := mulT A M p (n / 2)
    cond (decide (n % 2 = 1)) (addTT A M (addTT A M a a) p) (addTT A M a a)
termination_by n
decreasing_by omega
def trM (T : TypeId) (k : Nat) (r : TR) : MRes := .br r.ok (.ret (ptM r.X r.Y r.o k k)) (.pan (.iface T (.big r.d k)))


theorem cuts0 (c : Ctx) : Cuts 0 c c := ⟨fun _ h => h, fun _ h => h, fun i hi => by omega⟩
theorem holds_pt {c : Ctx} {w : World} {e : Ending} {X Y : Int} {o : Bool} {n m n' m' : Nat} (h : (MRes.ret (ptM X Y o n m)).holds c w e) (hn : n ≤ n') (hm : m ≤ m') : (MRes.ret (ptM X Y o n' m')).holds c w e := by
  cases e <;> first | exact h.elim | skip
  exact le_rep (cuts0 c) (m := ptM X Y o n m) (m' := ptM X Y o n' m') ⟨⟨rfl, .inl hn⟩, ⟨rfl, .inl hm⟩, rfl, trivial⟩ h
theorem holds_dv {c : Ctx} {w : World} {e : Ending} {T : TypeId} {d : Int} {n n' : Nat} (h : (MRes.pan (.iface T (.big d n))).holds c w e) (hn : n ≤ n') : (MRes.pan (.iface T (.big d n'))).holds c w e := by
  cases e <;> first | exact h.elim | skip
  obtain ⟨v, h1, h2⟩ := h
  refine ⟨v, h1, ?_⟩
  have := le_rep (cuts0 c) (m := .iface T (.big d n)) (m' := .iface T (.big d n')) (by
    show leMV 0 (.iface T (.big d n)) (.iface T (.big d n'))
    simp [leMV, MV.isAgg, hn]) (show Rep c w (.iface T (.big d n)) v from h2)
  exact this

/-- The same sum, said more shortly. -/
noncomputable def s_padd2 : FSpec
  | [.st [.big A i, .big _ _, .big M k], .st [.big px n, .big py m, .bool po], .st [.big qx n', .big qy m', .bool qo]] =>
    some (some (i ≤ 200 ∧ k ≤ 200 ∧ n ≤ 200 ∧ m ≤ 200 ∧ n' ≤ 200 ∧ m' ≤ 200 ∧ 0 < M), trM 112 200 (addT A M px py po qx qy qo))
  | _ => none
theorem w_padd2 : ∀ ms p r, s_padd2 ms = some (p, r) → p.holds → ∃ p' r', c_padd.spec ms = some (p', r') ∧ p'.holds ∧ ∀ ct w e, r'.holds ct w e → r.holds ct w e := by
  intro ms p r h hp
  unfold s_padd2 at h
  split at h
  · rename_i A i B j M k px n py m po qx n' qy m' qo
    simp only [Option.some.injEq, Prod.mk.injEq] at h
    obtain ⟨rfl, rfl⟩ := h
    obtain ⟨h1, h2, h3, h4, h5, h6, h7⟩ : i ≤ 200 ∧ k ≤ 200 ∧ n ≤ 200 ∧ m ≤ 200 ∧ n' ≤ 200 ∧ m' ≤ 200 ∧ 0 < M := hp
    refine ⟨_, _, rfl, ⟨h1, h2, h3, h4, h5, h6, h7⟩, fun ct w e h => ?_⟩
    unfold addR at h
    unfold trM
    generalize hR : addT A M px py po qx qy qo = R
    unfold addT at hR
    simp only [MRes.holds] at h ⊢
    cases po with
    | true => rw [cond_true] at hR h; subst hR; exact holds_pt h h5 h6
    | false =>
      rw [cond_false] at h hR
      cases qo with
      | true => rw [cond_true] at hR h; subst hR; exact holds_pt h h3 h4
      | false =>
        rw [cond_false] at h hR
        cases ho : oppB M px py qx qy with
        | true => rw [ho, cond_true] at hR h; subst hR; exact holds_pt h (Nat.zero_le _) (Nat.zero_le _)
        | false =>
          rw [ho, cond_false] at h hR
          cases hg : decide (Int.gcd (slD px py qx qy) M = 1) with
          | true => rw [hg, cond_true] at hR h; subst hR; exact holds_pt h h2 h2
          | false => rw [hg, cond_false] at hR h; subst hR; exact holds_dv h h2
  · simp at h
noncomputable def c_padd2 : Ctr Try.prog := c_padd.weaken s_padd2 w_padd2

noncomputable def s_add1 : FSpec
  | [.ref (.st [.big A i, .big _ _, .big M k]), .ref (.st [.big px n, .big py m, .bool po]), .ref (.st [.big qx n', .big qy m', .bool qo])] =>
    some (some (i ≤ 200 ∧ k ≤ 200 ∧ n ≤ 200 ∧ m ≤ 200 ∧ n' ≤ 200 ∧ m' ≤ 200 ∧ 0 < M), trM 112 200 (addT A M px py po qx qy qo))
  | _ => none
theorem vc_add1 (A B M px py qx qy : Int) (po qo : Bool) (i j k n m n' m' : Nat) : ((i ≤ (200 : Nat) ∧ k ≤ (200 : Nat) ∧ n ≤ (200 : Nat) ∧ m ≤ (200 : Nat) ∧ n' ≤ (200 : Nat) ∧ m' ≤ (200 : Nat) ∧ (0 : Int) < M) ∧ bif TR.ok (addT A M px py po qx qy qo) then bif TR.ok (addT A M px py po qx qy qo) then (TR.X (addT A M px py po qx qy qo) = TR.X (addT A M px py po qx qy qo) ∧ ((200 : Nat) ≤ (200 : Nat) ∨ Int.natAbs (TR.X (addT A M px py po qx qy qo)) < (2 : Nat) ^ (200 : Nat))) ∧ (TR.Y (addT A M px py po qx qy qo) = TR.Y (addT A M px py po qx qy qo) ∧ ((200 : Nat) ≤ (200 : Nat) ∨ Int.natAbs (TR.Y (addT A M px py po qx qy qo)) < (2 : Nat) ^ (200 : Nat))) ∧ TR.o (addT A M px py po qx qy qo) = TR.o (addT A M px py po qx qy qo) ∧ True else False else bif TR.ok (addT A M px py po qx qy qo) then False else TR.d (addT A M px py po qx qy qo) = TR.d (addT A M px py po qx qy qo) ∧ ((200 : Nat) ≤ (200 : Nat) ∨ Int.natAbs (TR.d (addT A M px py po qx qy qo)) < (2 : Nat) ^ (200 : Nat))) = evFn (env [c_padd2] noAnn) Try.f61 [.ref (cvM A B M i j k), .ref (ptM px py po n m), .ref (ptM qx qy qo n' m')] (MRes.sat (trM 112 200 (addT A M px py po qx qy qo))) := by kernel_rfl

theorem p_add1 : Good Try.f61 s_add1 := by
  intro ms p r h hp
  unfold s_add1 at h
  split at h
  · rename_i A i B j M k px n py m po qx n' qy m' qo
    simp only [Option.some.injEq, Prod.mk.injEq] at h
    obtain ⟨rfl, rfl⟩ := h
    refine ⟨env [c_padd2] noAnn, ?_⟩
    rw [← vc_add1 A B M px py qx qy po qo i j k n m n' m']
    refine ⟨hp, ?_⟩
    cases TR.ok (addT A M px py po qx qy qo) with
    | true => exact ⟨⟨rfl, .inl (Nat.le_refl _)⟩, ⟨rfl, .inl (Nat.le_refl _)⟩, rfl, True.intro⟩
    | false => exact ⟨rfl, .inl (Nat.le_refl _)⟩
  · simp at h
noncomputable def c_add1 : Ctr Try.prog := ⟨61, s_add1, fun args w => Try.call61 args w, fn_ok mix Try.func61 s_add1 p_add1⟩

/-- The state of the loop over the bits: so many bits are left, and the point so far. -/
abbrev TmI := Nat × Int × Int × Bool
def tmS (z A B M px py : Int) (po : Bool) (t i j k n m : Nat) (q : TmI) : MS :=
  ⟨34, [(0, .ref (.big z t)), (1, .ref (cvM A B M i j k)), (2, .ref (ptM px py po n m)), (3, .bp 0 0), (4, .bp 1 0), (5, .int .i64 ((q.1 : Int) - 1))],
    [⟨false, .one (ptM 0 0 false 0 0)⟩, ⟨false, .one (ptM q.2.1 q.2.2.1 q.2.2.2 200 200)⟩], 0⟩
noncomputable def a_times1 (z A B M px py : Int) (po : Bool) (t i j k n m : Nat) : Nat → MS → Option LoopAnn
  | 3, _ => some (.inv TmI (fun q => q.1 ≤ bl z.natAbs ∧ mulT A M (.pt px py po) (z.natAbs / 2 ^ q.1) = .pt q.2.1 q.2.2.1 q.2.2.2) (tmS z A B M px py po t i j k n m) (fun q => q.1))
  | _, _ => none
noncomputable def s_times1 : FSpec
  | [.ref (.big z t), .ref (.st [.big A i, .big _ _, .big M k]), .ref (.st [.big px n, .big py m, .bool po])] =>
    some (some (t ≤ 100000 ∧ i ≤ 200 ∧ k ≤ 200 ∧ n ≤ 200 ∧ m ≤ 200 ∧ 0 < M), trM 112 200 (mulT A M (.pt px py po) z.natAbs))
  | _ => none
theorem vc_times1 (z A B M px py : Int) (po : Bool) (t i j k n m : Nat) : (t ≤ (1000000 : Nat) ∧ (∃ i_1, (Prod.fst i_1 ≤ bl (Int.natAbs z) ∧ mulT A M (TR.pt px py po) (Int.natAbs z / (2 : Nat) ^ Prod.fst i_1) = TR.pt (Prod.fst (Prod.snd i_1)) (Prod.fst (Prod.snd (Prod.snd i_1))) (Prod.snd (Prod.snd (Prod.snd i_1)))) ∧ ((z = z ∧ (t ≤ t ∨ Int.natAbs z < (2 : Nat) ^ t)) ∧ ((A = A ∧ (i ≤ i ∨ Int.natAbs A < (2 : Nat) ^ i)) ∧ (B = B ∧ (j ≤ j ∨ Int.natAbs B < (2 : Nat) ^ j)) ∧ (M = M ∧ (k ≤ k ∨ Int.natAbs M < (2 : Nat) ^ k)) ∧ True) ∧ ((px = px ∧ (n ≤ n ∨ Int.natAbs px < (2 : Nat) ^ n)) ∧ (py = py ∧ (m ≤ m ∨ Int.natAbs py < (2 : Nat) ^ m)) ∧ po = po ∧ True) ∧ (0 : Nat) = (0 : Nat) ∧ (0 : Nat) = (0 : Nat) ∧ IntKind.wrap IntKind.i64 ((↑(bl (Int.natAbs z)) : Int) - (1 : Int)) = (↑(Prod.fst i_1) : Int) - (1 : Int) ∧ True) ∧ (((0 : Int) = (0 : Int) ∧ ((0 : Nat) ≤ (0 : Nat) ∨ Int.natAbs (0 : Int) < (2 : Nat) ^ (0 : Nat))) ∧ ((0 : Int) = (0 : Int) ∧ ((0 : Nat) ≤ (0 : Nat) ∨ Int.natAbs (0 : Int) < (2 : Nat) ^ (0 : Nat))) ∧ false = false ∧ True) ∧ (((0 : Int) = Prod.fst (Prod.snd i_1) ∧ ((0 : Nat) ≤ (200 : Nat) ∨ Int.natAbs (0 : Int) < (2 : Nat) ^ (200 : Nat))) ∧ ((0 : Int) = Prod.fst (Prod.snd (Prod.snd i_1)) ∧ ((0 : Nat) ≤ (200 : Nat) ∨ Int.natAbs (0 : Int) < (2 : Nat) ^ (200 : Nat))) ∧ true = Prod.snd (Prod.snd (Prod.snd i_1)) ∧ True) ∧ True) ∧ ∀ (i_1 : TmI), Prod.fst i_1 ≤ bl (Int.natAbs z) ∧ mulT A M (TR.pt px py po) (Int.natAbs z / (2 : Nat) ^ Prod.fst i_1) = TR.pt (Prod.fst (Prod.snd i_1)) (Prod.fst (Prod.snd (Prod.snd i_1))) (Prod.snd (Prod.snd (Prod.snd i_1))) → bif decide ((↑(Prod.fst i_1) : Int) - (1 : Int) ≥ (0 : Int)) then (i ≤ (200 : Nat) ∧ k ≤ (200 : Nat) ∧ (200 : Nat) ≤ (200 : Nat) ∧ (200 : Nat) ≤ (200 : Nat) ∧ (200 : Nat) ≤ (200 : Nat) ∧ (200 : Nat) ≤ (200 : Nat) ∧ (0 : Int) < M) ∧ bif TR.ok (addT A M (Prod.fst (Prod.snd i_1)) (Prod.fst (Prod.snd (Prod.snd i_1))) (Prod.snd (Prod.snd (Prod.snd i_1))) (Prod.fst (Prod.snd i_1)) (Prod.fst (Prod.snd (Prod.snd i_1))) (Prod.snd (Prod.snd (Prod.snd i_1)))) then ((32 : Int) = (0 : Int) → False) ∧ ((0 : Int) ≤ IntKind.wrap IntKind.i64 (Int.tdiv ((↑(Prod.fst i_1) : Int) - (1 : Int)) (32 : Int)) ∧ IntKind.wrap IntKind.i64 (Int.tdiv ((↑(Prod.fst i_1) : Int) - (1 : Int)) (32 : Int)) < (↑(List.length (limbs (Int.natAbs z))) : Int)) ∧ ((32 : Int) = (0 : Int) → False) ∧ (0 : Int) ≤ Int.tmod ((↑(Prod.fst i_1) : Int) - (1 : Int)) (32 : Int) ∧ bif IntKind.wrap IntKind.u32 (↑(BitVec.toNat (BitVec.ofInt (IntKind.bits IntKind.u32) (Int.fdiv (List.getD (limbs (Int.natAbs z)) (Int.toNat (IntKind.wrap IntKind.i64 (Int.tdiv ((↑(Prod.fst i_1) : Int) - (1 : Int)) (32 : Int)))) (0 : Int)) ((2 : Int) ^ min (Int.toNat (Int.tmod ((↑(Prod.fst i_1) : Int) - (1 : Int)) (32 : Int))) (IntKind.bits IntKind.u32))) &&& BitVec.ofInt (IntKind.bits IntKind.u32) (1 : Int))) : Int) == (1 : Int) then (i ≤ (200 : Nat) ∧ k ≤ (200 : Nat) ∧ (200 : Nat) ≤ (200 : Nat) ∧ (200 : Nat) ≤ (200 : Nat) ∧ n ≤ (200 : Nat) ∧ m ≤ (200 : Nat) ∧ (0 : Int) < M) ∧ bif TR.ok (addT A M (TR.X (addT A M (Prod.fst (Prod.snd i_1)) (Prod.fst (Prod.snd (Prod.snd i_1))) (Prod.snd (Prod.snd (Prod.snd i_1))) (Prod.fst (Prod.snd i_1)) (Prod.fst (Prod.snd (Prod.snd i_1))) (Prod.snd (Prod.snd (Prod.snd i_1))))) (TR.Y (addT A M (Prod.fst (Prod.snd i_1)) (Prod.fst (Prod.snd (Prod.snd i_1))) (Prod.snd (Prod.snd (Prod.snd i_1))) (Prod.fst (Prod.snd i_1)) (Prod.fst (Prod.snd (Prod.snd i_1))) (Prod.snd (Prod.snd (Prod.snd i_1))))) (TR.o (addT A M (Prod.fst (Prod.snd i_1)) (Prod.fst (Prod.snd (Prod.snd i_1))) (Prod.snd (Prod.snd (Prod.snd i_1))) (Prod.fst (Prod.snd i_1)) (Prod.fst (Prod.snd (Prod.snd i_1))) (Prod.snd (Prod.snd (Prod.snd i_1))))) px py po) then ∃ j_1, (Prod.fst j_1 ≤ bl (Int.natAbs z) ∧ mulT A M (TR.pt px py po) (Int.natAbs z / (2 : Nat) ^ Prod.fst j_1) = TR.pt (Prod.fst (Prod.snd j_1)) (Prod.fst (Prod.snd (Prod.snd j_1))) (Prod.snd (Prod.snd (Prod.snd j_1)))) ∧ (((z = z ∧ (t ≤ t ∨ Int.natAbs z < (2 : Nat) ^ t)) ∧ ((A = A ∧ (i ≤ i ∨ Int.natAbs A < (2 : Nat) ^ i)) ∧ (B = B ∧ (j ≤ j ∨ Int.natAbs B < (2 : Nat) ^ j)) ∧ (M = M ∧ (k ≤ k ∨ Int.natAbs M < (2 : Nat) ^ k)) ∧ True) ∧ ((px = px ∧ (n ≤ n ∨ Int.natAbs px < (2 : Nat) ^ n)) ∧ (py = py ∧ (m ≤ m ∨ Int.natAbs py < (2 : Nat) ^ m)) ∧ po = po ∧ True) ∧ (0 : Nat) = (0 : Nat) ∧ (0 : Nat) = (0 : Nat) ∧ IntKind.wrap IntKind.i64 ((↑(Prod.fst i_1) : Int) - (1 : Int) - (1 : Int)) = (↑(Prod.fst j_1) : Int) - (1 : Int) ∧ True) ∧ (((0 : Int) = (0 : Int) ∧ ((0 : Nat) ≤ (0 : Nat) ∨ Int.natAbs (0 : Int) < (2 : Nat) ^ (0 : Nat))) ∧ ((0 : Int) = (0 : Int) ∧ ((0 : Nat) ≤ (0 : Nat) ∨ Int.natAbs (0 : Int) < (2 : Nat) ^ (0 : Nat))) ∧ false = false ∧ True) ∧ ((TR.X (addT A M (TR.X (addT A M (Prod.fst (Prod.snd i_1)) (Prod.fst (Prod.snd (Prod.snd i_1))) (Prod.snd (Prod.snd (Prod.snd i_1))) (Prod.fst (Prod.snd i_1)) (Prod.fst (Prod.snd (Prod.snd i_1))) (Prod.snd (Prod.snd (Prod.snd i_1))))) (TR.Y (addT A M (Prod.fst (Prod.snd i_1)) (Prod.fst (Prod.snd (Prod.snd i_1))) (Prod.snd (Prod.snd (Prod.snd i_1))) (Prod.fst (Prod.snd i_1)) (Prod.fst (Prod.snd (Prod.snd i_1))) (Prod.snd (Prod.snd (Prod.snd i_1))))) (TR.o (addT A M (Prod.fst (Prod.snd i_1)) (Prod.fst (Prod.snd (Prod.snd i_1))) (Prod.snd (Prod.snd (Prod.snd i_1))) (Prod.fst (Prod.snd i_1)) (Prod.fst (Prod.snd (Prod.snd i_1))) (Prod.snd (Prod.snd (Prod.snd i_1))))) px py po) = Prod.fst (Prod.snd j_1) ∧ ((200 : Nat) ≤ (200 : Nat) ∨ Int.natAbs (TR.X (addT A M (TR.X (addT A M (Prod.fst (Prod.snd i_1)) (Prod.fst (Prod.snd (Prod.snd i_1))) (Prod.snd (Prod.snd (Prod.snd i_1))) (Prod.fst (Prod.snd i_1)) (Prod.fst (Prod.snd (Prod.snd i_1))) (Prod.snd (Prod.snd (Prod.snd i_1))))) (TR.Y (addT A M (Prod.fst (Prod.snd i_1)) (Prod.fst (Prod.snd (Prod.snd i_1))) (Prod.snd (Prod.snd (Prod.snd i_1))) (Prod.fst (Prod.snd i_1)) (Prod.fst (Prod.snd (Prod.snd i_1))) (Prod.snd (Prod.snd (Prod.snd i_1))))) (TR.o (addT A M (Prod.fst (Prod.snd i_1)) (Prod.fst (Prod.snd (Prod.snd i_1))) (Prod.snd (Prod.snd (Prod.snd i_1))) (Prod.fst (Prod.snd i_1)) (Prod.fst (Prod.snd (Prod.snd i_1))) (Prod.snd (Prod.snd (Prod.snd i_1))))) px py po)) < (2 : Nat) ^ (200 : Nat))) ∧ (TR.Y (addT A M (TR.X (addT A M (Prod.fst (Prod.snd i_1)) (Prod.fst (Prod.snd (Prod.snd i_1))) (Prod.snd (Prod.snd (Prod.snd i_1))) (Prod.fst (Prod.snd i_1)) (Prod.fst (Prod.snd (Prod.snd i_1))) (Prod.snd (Prod.snd (Prod.snd i_1))))) (TR.Y (addT A M (Prod.fst (Prod.snd i_1)) (Prod.fst (Prod.snd (Prod.snd i_1))) (Prod.snd (Prod.snd (Prod.snd i_1))) (Prod.fst (Prod.snd i_1)) (Prod.fst (Prod.snd (Prod.snd i_1))) (Prod.snd (Prod.snd (Prod.snd i_1))))) (TR.o (addT A M (Prod.fst (Prod.snd i_1)) (Prod.fst (Prod.snd (Prod.snd i_1))) (Prod.snd (Prod.snd (Prod.snd i_1))) (Prod.fst (Prod.snd i_1)) (Prod.fst (Prod.snd (Prod.snd i_1))) (Prod.snd (Prod.snd (Prod.snd i_1))))) px py po) = Prod.fst (Prod.snd (Prod.snd j_1)) ∧ ((200 : Nat) ≤ (200 : Nat) ∨ Int.natAbs (TR.Y (addT A M (TR.X (addT A M (Prod.fst (Prod.snd i_1)) (Prod.fst (Prod.snd (Prod.snd i_1))) (Prod.snd (Prod.snd (Prod.snd i_1))) (Prod.fst (Prod.snd i_1)) (Prod.fst (Prod.snd (Prod.snd i_1))) (Prod.snd (Prod.snd (Prod.snd i_1))))) (TR.Y (addT A M (Prod.fst (Prod.snd i_1)) (Prod.fst (Prod.snd (Prod.snd i_1))) (Prod.snd (Prod.snd (Prod.snd i_1))) (Prod.fst (Prod.snd i_1)) (Prod.fst (Prod.snd (Prod.snd i_1))) (Prod.snd (Prod.snd (Prod.snd i_1))))) (TR.o (addT A M (Prod.fst (Prod.snd i_1)) (Prod.fst (Prod.snd (Prod.snd i_1))) (Prod.snd (Prod.snd (Prod.snd i_1))) (Prod.fst (Prod.snd i_1)) (Prod.fst (Prod.snd (Prod.snd i_1))) (Prod.snd (Prod.snd (Prod.snd i_1))))) px py po)) < (2 : Nat) ^ (200 : Nat))) ∧ TR.o (addT A M (TR.X (addT A M (Prod.fst (Prod.snd i_1)) (Prod.fst (Prod.snd (Prod.snd i_1))) (Prod.snd (Prod.snd (Prod.snd i_1))) (Prod.fst (Prod.snd i_1)) (Prod.fst (Prod.snd (Prod.snd i_1))) (Prod.snd (Prod.snd (Prod.snd i_1))))) (TR.Y (addT A M (Prod.fst (Prod.snd i_1)) (Prod.fst (Prod.snd (Prod.snd i_1))) (Prod.snd (Prod.snd (Prod.snd i_1))) (Prod.fst (Prod.snd i_1)) (Prod.fst (Prod.snd (Prod.snd i_1))) (Prod.snd (Prod.snd (Prod.snd i_1))))) (TR.o (addT A M (Prod.fst (Prod.snd i_1)) (Prod.fst (Prod.snd (Prod.snd i_1))) (Prod.snd (Prod.snd (Prod.snd i_1))) (Prod.fst (Prod.snd i_1)) (Prod.fst (Prod.snd (Prod.snd i_1))) (Prod.snd (Prod.snd (Prod.snd i_1))))) px py po) = Prod.snd (Prod.snd (Prod.snd j_1)) ∧ True) ∧ True) ∧ Prod.fst j_1 < Prod.fst i_1 else bif TR.ok (mulT A M (TR.pt px py po) (Int.natAbs z)) then False else TR.d (addT A M (TR.X (addT A M (Prod.fst (Prod.snd i_1)) (Prod.fst (Prod.snd (Prod.snd i_1))) (Prod.snd (Prod.snd (Prod.snd i_1))) (Prod.fst (Prod.snd i_1)) (Prod.fst (Prod.snd (Prod.snd i_1))) (Prod.snd (Prod.snd (Prod.snd i_1))))) (TR.Y (addT A M (Prod.fst (Prod.snd i_1)) (Prod.fst (Prod.snd (Prod.snd i_1))) (Prod.snd (Prod.snd (Prod.snd i_1))) (Prod.fst (Prod.snd i_1)) (Prod.fst (Prod.snd (Prod.snd i_1))) (Prod.snd (Prod.snd (Prod.snd i_1))))) (TR.o (addT A M (Prod.fst (Prod.snd i_1)) (Prod.fst (Prod.snd (Prod.snd i_1))) (Prod.snd (Prod.snd (Prod.snd i_1))) (Prod.fst (Prod.snd i_1)) (Prod.fst (Prod.snd (Prod.snd i_1))) (Prod.snd (Prod.snd (Prod.snd i_1))))) px py po) = TR.d (mulT A M (TR.pt px py po) (Int.natAbs z)) ∧ ((200 : Nat) ≤ (200 : Nat) ∨ Int.natAbs (TR.d (addT A M (TR.X (addT A M (Prod.fst (Prod.snd i_1)) (Prod.fst (Prod.snd (Prod.snd i_1))) (Prod.snd (Prod.snd (Prod.snd i_1))) (Prod.fst (Prod.snd i_1)) (Prod.fst (Prod.snd (Prod.snd i_1))) (Prod.snd (Prod.snd (Prod.snd i_1))))) (TR.Y (addT A M (Prod.fst (Prod.snd i_1)) (Prod.fst (Prod.snd (Prod.snd i_1))) (Prod.snd (Prod.snd (Prod.snd i_1))) (Prod.fst (Prod.snd i_1)) (Prod.fst (Prod.snd (Prod.snd i_1))) (Prod.snd (Prod.snd (Prod.snd i_1))))) (TR.o (addT A M (Prod.fst (Prod.snd i_1)) (Prod.fst (Prod.snd (Prod.snd i_1))) (Prod.snd (Prod.snd (Prod.snd i_1))) (Prod.fst (Prod.snd i_1)) (Prod.fst (Prod.snd (Prod.snd i_1))) (Prod.snd (Prod.snd (Prod.snd i_1))))) px py po)) < (2 : Nat) ^ (200 : Nat)) else ∃ j_1, (Prod.fst j_1 ≤ bl (Int.natAbs z) ∧ mulT A M (TR.pt px py po) (Int.natAbs z / (2 : Nat) ^ Prod.fst j_1) = TR.pt (Prod.fst (Prod.snd j_1)) (Prod.fst (Prod.snd (Prod.snd j_1))) (Prod.snd (Prod.snd (Prod.snd j_1)))) ∧ (((z = z ∧ (t ≤ t ∨ Int.natAbs z < (2 : Nat) ^ t)) ∧ ((A = A ∧ (i ≤ i ∨ Int.natAbs A < (2 : Nat) ^ i)) ∧ (B = B ∧ (j ≤ j ∨ Int.natAbs B < (2 : Nat) ^ j)) ∧ (M = M ∧ (k ≤ k ∨ Int.natAbs M < (2 : Nat) ^ k)) ∧ True) ∧ ((px = px ∧ (n ≤ n ∨ Int.natAbs px < (2 : Nat) ^ n)) ∧ (py = py ∧ (m ≤ m ∨ Int.natAbs py < (2 : Nat) ^ m)) ∧ po = po ∧ True) ∧ (0 : Nat) = (0 : Nat) ∧ (0 : Nat) = (0 : Nat) ∧ IntKind.wrap IntKind.i64 ((↑(Prod.fst i_1) : Int) - (1 : Int) - (1 : Int)) = (↑(Prod.fst j_1) : Int) - (1 : Int) ∧ True) ∧ (((0 : Int) = (0 : Int) ∧ ((0 : Nat) ≤ (0 : Nat) ∨ Int.natAbs (0 : Int) < (2 : Nat) ^ (0 : Nat))) ∧ ((0 : Int) = (0 : Int) ∧ ((0 : Nat) ≤ (0 : Nat) ∨ Int.natAbs (0 : Int) < (2 : Nat) ^ (0 : Nat))) ∧ false = false ∧ True) ∧ ((TR.X (addT A M (Prod.fst (Prod.snd i_1)) (Prod.fst (Prod.snd (Prod.snd i_1))) (Prod.snd (Prod.snd (Prod.snd i_1))) (Prod.fst (Prod.snd i_1)) (Prod.fst (Prod.snd (Prod.snd i_1))) (Prod.snd (Prod.snd (Prod.snd i_1)))) = Prod.fst (Prod.snd j_1) ∧ ((200 : Nat) ≤ (200 : Nat) ∨ Int.natAbs (TR.X (addT A M (Prod.fst (Prod.snd i_1)) (Prod.fst (Prod.snd (Prod.snd i_1))) (Prod.snd (Prod.snd (Prod.snd i_1))) (Prod.fst (Prod.snd i_1)) (Prod.fst (Prod.snd (Prod.snd i_1))) (Prod.snd (Prod.snd (Prod.snd i_1))))) < (2 : Nat) ^ (200 : Nat))) ∧ (TR.Y (addT A M (Prod.fst (Prod.snd i_1)) (Prod.fst (Prod.snd (Prod.snd i_1))) (Prod.snd (Prod.snd (Prod.snd i_1))) (Prod.fst (Prod.snd i_1)) (Prod.fst (Prod.snd (Prod.snd i_1))) (Prod.snd (Prod.snd (Prod.snd i_1)))) = Prod.fst (Prod.snd (Prod.snd j_1)) ∧ ((200 : Nat) ≤ (200 : Nat) ∨ Int.natAbs (TR.Y (addT A M (Prod.fst (Prod.snd i_1)) (Prod.fst (Prod.snd (Prod.snd i_1))) (Prod.snd (Prod.snd (Prod.snd i_1))) (Prod.fst (Prod.snd i_1)) (Prod.fst (Prod.snd (Prod.snd i_1))) (Prod.snd (Prod.snd (Prod.snd i_1))))) < (2 : Nat) ^ (200 : Nat))) ∧ TR.o (addT A M (Prod.fst (Prod.snd i_1)) (Prod.fst (Prod.snd (Prod.snd i_1))) (Prod.snd (Prod.snd (Prod.snd i_1))) (Prod.fst (Prod.snd i_1)) (Prod.fst (Prod.snd (Prod.snd i_1))) (Prod.snd (Prod.snd (Prod.snd i_1)))) = Prod.snd (Prod.snd (Prod.snd j_1)) ∧ True) ∧ True) ∧ Prod.fst j_1 < Prod.fst i_1 else bif TR.ok (mulT A M (TR.pt px py po) (Int.natAbs z)) then False else TR.d (addT A M (Prod.fst (Prod.snd i_1)) (Prod.fst (Prod.snd (Prod.snd i_1))) (Prod.snd (Prod.snd (Prod.snd i_1))) (Prod.fst (Prod.snd i_1)) (Prod.fst (Prod.snd (Prod.snd i_1))) (Prod.snd (Prod.snd (Prod.snd i_1)))) = TR.d (mulT A M (TR.pt px py po) (Int.natAbs z)) ∧ ((200 : Nat) ≤ (200 : Nat) ∨ Int.natAbs (TR.d (addT A M (Prod.fst (Prod.snd i_1)) (Prod.fst (Prod.snd (Prod.snd i_1))) (Prod.snd (Prod.snd (Prod.snd i_1))) (Prod.fst (Prod.snd i_1)) (Prod.fst (Prod.snd (Prod.snd i_1))) (Prod.snd (Prod.snd (Prod.snd i_1))))) < (2 : Nat) ^ (200 : Nat)) else bif TR.ok (mulT A M (TR.pt px py po) (Int.natAbs z)) then (Prod.fst (Prod.snd i_1) = TR.X (mulT A M (TR.pt px py po) (Int.natAbs z)) ∧ ((200 : Nat) ≤ (200 : Nat) ∨ Int.natAbs (Prod.fst (Prod.snd i_1)) < (2 : Nat) ^ (200 : Nat))) ∧ (Prod.fst (Prod.snd (Prod.snd i_1)) = TR.Y (mulT A M (TR.pt px py po) (Int.natAbs z)) ∧ ((200 : Nat) ≤ (200 : Nat) ∨ Int.natAbs (Prod.fst (Prod.snd (Prod.snd i_1))) < (2 : Nat) ^ (200 : Nat))) ∧ Prod.snd (Prod.snd (Prod.snd i_1)) = TR.o (mulT A M (TR.pt px py po) (Int.natAbs z)) ∧ True else False) = evFn (env [c_padd2, c_bits] (a_times1 z A B M px py po t i j k n m)) Try.f65 [.ref (.big z t), .ref (cvM A B M i j k), .ref (ptM px py po n m)] (MRes.sat (trM 112 200 (mulT A M (.pt px py po) z.natAbs))) := by kernel_rfl

/-! ### Bits -/
theorem limbs_getD (n k : Nat) : (limbs n).getD k 0 = ((n / 4294967296 ^ k % 4294967296 : Nat) : Int) := by
  induction k generalizing n with
  | zero =>
    by_cases h : n = 0
    · subst h; rw [limbs_zero]; simp
    · rw [limbs_pos h]; simp
  | succ k ih =>
    by_cases h : n = 0
    · subst h; rw [limbs_zero]; simp
    · rw [limbs_pos h, List.getD_cons_succ, ih, Nat.pow_succ, Nat.mul_comm (4294967296 ^ k) 4294967296, Nat.div_div_eq_div_mul]

theorem and_one_word (x : Nat) (h : x < 4294967296) : IntKind.wrap IntKind.u32 ((BitVec.ofInt (IntKind.bits IntKind.u32) (x : Int) &&& BitVec.ofInt (IntKind.bits IntKind.u32) 1).toNat : Int) = ((x % 2 : Nat) : Int) := by
  have e : (BitVec.ofInt (IntKind.bits IntKind.u32) (x : Int) &&& BitVec.ofInt (IntKind.bits IntKind.u32) 1).toNat = x % 2 := by
    rw [BitVec.toNat_and]
    have e1 : (BitVec.ofInt (IntKind.bits IntKind.u32) (x : Int)).toNat = x := by
      rw [BitVec.toNat_ofInt]
      show ((x : Int) % ((2 ^ 32 : Nat) : Int)).toNat = x
      omega
    have e2 : (BitVec.ofInt (IntKind.bits IntKind.u32) 1).toNat = 1 := by rfl
    rw [e1, e2, Nat.and_one_is_mod]
  rw [e]
  exact IntWalk.u32_in _ ⟨by omega, by omega⟩

/-- The bit that is looked at. -/
theorem bit_word (n i : Nat) : (IntKind.wrap IntKind.u32 ((BitVec.ofInt (IntKind.bits IntKind.u32) (((limbs n).getD (i / 32) 0).fdiv (2 ^ min (i % 32) (IntKind.bits IntKind.u32))) &&& BitVec.ofInt (IntKind.bits IntKind.u32) 1).toNat : Int) == 1) = decide (n / 2 ^ i % 2 = 1) := by
  have hm : min (i % 32) (IntKind.bits IntKind.u32) = i % 32 := by
    show min (i % 32) 32 = i % 32
    omega
  have hx : n / 4294967296 ^ (i / 32) % 4294967296 / 2 ^ (i % 32) < 4294967296 := Nat.lt_of_le_of_lt (Nat.div_le_self _ _) (Nat.mod_lt _ (by omega))
  have hf : ((limbs n).getD (i / 32) 0).fdiv (2 ^ min (i % 32) (IntKind.bits IntKind.u32)) = ((n / 4294967296 ^ (i / 32) % 4294967296 / 2 ^ (i % 32) : Nat) : Int) := by
    rw [hm, limbs_getD, Int.fdiv_eq_ediv_of_nonneg _ (Int.pow_nonneg (by omega))]
    rw [Int.natCast_ediv, Int.natCast_pow]
    rfl
  rw [hf, and_one_word _ hx]
  have hb : n / 4294967296 ^ (i / 32) % 4294967296 / 2 ^ (i % 32) % 2 = n / 2 ^ i % 2 := by
    have e1 : n / 2 ^ i = n / 4294967296 ^ (i / 32) / 2 ^ (i % 32) := by
      rw [Nat.div_div_eq_div_mul, pow_words, ← Nat.pow_add]
      congr 2; omega
    rw [e1]
    generalize n / 4294967296 ^ (i / 32) = q
    have hr : i % 32 < 32 := Nat.mod_lt _ (by omega)
    have := Nat.testBit_mod_two_pow q 32 (i % 32)
    simp only [Nat.testBit_eq_decide_div_mod_eq, hr, decide_true, Bool.true_and] at this
    have h2 := decide_eq_decide.1 this
    have a1 := Nat.mod_two_eq_zero_or_one (q % 4294967296 / 2 ^ (i % 32))
    have a2 := Nat.mod_two_eq_zero_or_one (q / 2 ^ (i % 32))
    rcases a1 with a1 | a1 <;> rcases a2 with a2 | a2 <;> simp_all
  rw [hb]
  have := Nat.mod_two_eq_zero_or_one (n / 2 ^ i)
  rcases this with h | h <;> rw [h] <;> rfl

/-! ### Multiples -/
theorem mulT_zero (A M : Int) (p : TR) : mulT A M p 0 = .pt 0 0 true := by rw [mulT]; simp
theorem mulT_pos {A M : Int} {p : TR} {n : Nat} (h : n ≠ 0) : mulT A M p n = cond (decide (n % 2 = 1)) (addTT A M (addTT A M (mulT A M p (n / 2)) (mulT A M p (n / 2))) p) (addTT A M (mulT A M p (n / 2)) (mulT A M p (n / 2))) := by
  rw [mulT]; simp [h]
theorem mulT_dv {A M : Int} {p : TR} {n : Nat} {d : Int} (h : mulT A M p (n / 2) = .dv d) : mulT A M p n = .dv d := by
  have hn : n ≠ 0 := by intro e; subst e; rw [mulT_zero] at h; simp at h
  rw [mulT_pos hn, h]
  cases decide (n % 2 = 1) <;> rfl
theorem mulT_dvs {A M : Int} {p : TR} {n : Nat} {d : Int} : ∀ (k : Nat), mulT A M p (n / 2 ^ k) = .dv d → mulT A M p n = .dv d
  | 0, h => by simpa using h
  | k + 1, h => mulT_dvs k (mulT_dv (by rw [Nat.div_div_eq_div_mul, ← Nat.pow_succ]; exact h))

theorem p_times1 : GoodF Try.f65 s_times1 := by
  intro ms p r h hp hf
  unfold s_times1 at h
  split at h
  · rename_i z t A i B j M k px n py m po
    simp only [Option.some.injEq, Prod.mk.injEq] at h
    obtain ⟨rfl, rfl⟩ := h
    obtain ⟨h0, h1, h2, h3, h4, h5⟩ : t ≤ 100000 ∧ i ≤ 200 ∧ k ≤ 200 ∧ n ≤ 200 ∧ m ≤ 200 ∧ 0 < M := hp
    refine ⟨env [c_padd2, c_bits] (a_times1 z A B M px py po t i j k n m), ?_⟩
    rw [← vc_times1 z A B M px py po t i j k n m]
    have hz : z.natAbs < 2 ^ t := hf.1
    have hbl : bl z.natAbs ≤ t := bl_le_of hz
    have hlt := bl_lt z.natAbs
    have hll := limbs_lt z.natAbs
    generalize hN : z.natAbs = N at hz hbl hlt hll ⊢
    refine ⟨by omega, ⟨(bl N, 0, 0, true), ?_⟩, ?_⟩
    · have hm : mulT A M (TR.pt px py po) (N / 2 ^ bl N) = TR.pt 0 0 true := by rw [Nat.div_eq_of_lt hlt, mulT_zero]
      have hw : IntKind.wrap IntKind.i64 ((bl N : Int) - 1) = (bl N : Int) - 1 := i64w (by omega) (by omega)
      refine ⟨⟨Nat.le_refl _, hm⟩, ?_⟩
      and_intros <;> first | exact True.intro | exact hw | rfl | exact .inl (Nat.le_refl _) | exact .inl (Nat.zero_le _)
    · rintro ⟨b, X, Y, o⟩ ⟨hq1, hq2⟩
      have hq1 : b ≤ bl N := hq1
      have hq2 : mulT A M (.pt px py po) (N / 2 ^ b) = .pt X Y o := hq2
      dsimp only
      rw [Bool.cond_decide]
      split
      · rename_i hc
        obtain ⟨c, rfl⟩ : ∃ c, b = c + 1 := ⟨b - 1, by omega⟩
        have e1 : ((c + 1 : Nat) : Int) - 1 = (c : Nat) := by omega
        have e2 : Int.tdiv (c : Int) 32 = ((c / 32 : Nat) : Int) := rfl
        have e3 : Int.tmod (c : Int) 32 = ((c % 32 : Nat) : Int) := rfl
        have e4 : IntKind.wrap IntKind.i64 ((c / 32 : Nat) : Int) = ((c / 32 : Nat) : Int) := i64w (by omega) (by omega)
        have e5 : IntKind.wrap IntKind.i64 ((c : Nat) - 1 : Int) = (c : Nat) - 1 := i64w (by omega) (by omega)
        have e6 : (2 : Nat) ^ c ≤ N := by
          have hne : N ≠ 0 := by intro e; subst e; rw [bl_zero] at hq1; omega
          exact Nat.le_trans (Nat.pow_le_pow_right (by omega) (by omega)) (bl_le hne)
        have hne : N / 2 ^ c ≠ 0 := by
          have := Nat.div_pos e6 (Nat.two_pow_pos c)
          omega
        have e7 : N / 2 ^ c / 2 = N / 2 ^ (c + 1) := by rw [Nat.div_div_eq_div_mul, ← Nat.pow_succ]
        have hm : mulT A M (.pt px py po) (N / 2 ^ c) = cond (decide (N / 2 ^ c % 2 = 1)) (addTT A M (addT A M X Y o X Y o) (.pt px py po)) (addT A M X Y o X Y o) := by
          rw [mulT_pos hne, e7, hq2]; rfl
        have hidx : c / 32 < (limbs N).length := by
          rcases Nat.lt_or_ge (c / 32) (limbs N).length with h | h
          · exact h
          · exfalso
            have h8 : 4294967296 ^ (limbs N).length ≤ 2 ^ c := by
              rw [pow_words]
              exact Nat.pow_le_pow_right (by omega) (by omega)
            omega
        have hbit := bit_word N c
        simp only [e1, e2, e3, e4, e5, Int.toNat_natCast, hbit]
        refine ⟨⟨h1, h2, by omega, by omega, by omega, by omega, h5⟩, ?_⟩
        cases hA : addT A M X Y o X Y o with
        | dv d =>
          simp only [TR.ok, TR.d, cond_false]
          have hmN : mulT A M (.pt px py po) N = .dv d := mulT_dvs c (by rw [hm, hA]; cases decide (N / 2 ^ c % 2 = 1) <;> rfl)
          rw [hmN]
          exact ⟨rfl, .inl (Nat.le_refl _)⟩
        | pt X2 Y2 o2 =>
          simp only [TR.ok, TR.X, TR.Y, TR.o, cond_true]
          refine ⟨by omega, ⟨by omega, by omega⟩, by omega, by omega, ?_⟩
          rw [hA] at hm
          cases hb : decide (N / 2 ^ c % 2 = 1) with
          | false =>
            rw [hb, cond_false] at hm
            rw [cond_false]
            refine ⟨(c, X2, Y2, o2), ⟨by dsimp only; omega, hm⟩, ?_, by dsimp only; omega⟩
            and_intros <;> first | exact True.intro | rfl | exact .inl (Nat.le_refl _) | exact .inl (Nat.zero_le _)
          | true =>
            rw [hb, cond_true] at hm
            rw [cond_true]
            refine ⟨⟨h1, h2, by omega, by omega, h3, h4, h5⟩, ?_⟩
            have hm : mulT A M (.pt px py po) (N / 2 ^ c) = addT A M X2 Y2 o2 px py po := hm
            cases hA2 : addT A M X2 Y2 o2 px py po with
            | dv d =>
              simp only [TR.d, cond_false]
              have hmN : mulT A M (.pt px py po) N = .dv d := mulT_dvs c (by rw [hm, hA2])
              rw [hmN]
              exact ⟨rfl, .inl (Nat.le_refl _)⟩
            | pt X3 Y3 o3 =>
              rw [cond_true]
              refine ⟨(c, X3, Y3, o3), ⟨by dsimp only; omega, hm.trans hA2⟩, ?_, by dsimp only; omega⟩
              and_intros <;> first | exact True.intro | rfl | exact .inl (Nat.le_refl _) | exact .inl (Nat.zero_le _)
      · rename_i hc
        have hb0 : b = 0 := by omega
        subst hb0
        have hq2 : mulT A M (.pt px py po) N = .pt X Y o := by simpa using hq2
        rw [hq2]
        exact ⟨⟨rfl, .inl (Nat.le_refl _)⟩, ⟨rfl, .inl (Nat.le_refl _)⟩, rfl, True.intro⟩
  · simp at h
noncomputable def c_times1 : Ctr Try.prog := ⟨65, s_times1, fun args w => Try.call65 args w, fn_ok_facts mix Try.func65 s_times1 p_times1⟩

/-! ### try, Add, Times, Neg -/
noncomputable def s_try : FSpec
  | [.fn f caps] => (match findCtr f [c_add1, c_times1] with
    | some k => (match k.spec caps with
      | some (p, r) => (match mapTry r with
        | some r' => cond (cleans true caps) (some (p, r')) none
        | none => none)
      | none => none)
    | none => none)
  | _ => none
noncomputable def c_try : Ctr Try.prog := ⟨60, s_try, fun args w => Try.call60 args w, fun S w ms args p r hs hp hS ha => by
  unfold s_try at hs
  split at hs
  · rename_i f caps
    split at hs
    · rename_i k hk
      have hkf := findCtr_f hk
      subst hkf
      split at hs
      · rename_i p0 r0 h1
        split at hs
        · rename_i r1 h2
          cases hc : cleans true caps with
          | false => rw [hc] at hs; simp at hs
          | true =>
            rw [hc, cond_true] at hs
            simp only [Option.some.injEq, Prod.mk.injEq] at hs
            obtain ⟨rfl, rfl⟩ := hs
            exact try_ok k caps p0 r0 r1 h1 hp h2 hc S w args hS ha
        · simp at hs
      · simp at hs
    · simp at hs
  · simp at hs⟩

end Go.Proofs.Ytceochfccebebaa

/-
  Contracts of functions: package point: Add, Times, Neg.
-/
namespace Go.Proofs.Ytceochfccebebaa
open Go Go.RowKit

/-- A point, a divisor, an error. -/
structure RS where
  X : Int
  Y : Int
  o : Bool
  d : Int
  e : Int
def TR.rs (r : TR) : RS := ⟨r.X, r.Y, r.o, r.d, cond r.ok 0 6⟩
def RS.arg : RS := ⟨0, 0, false, 0, 1⟩
noncomputable def addI (A B M px py : Int) (po : Bool) (qx qy : Int) (qo : Bool) : RS := cond (onB A B M px py po && onB A B M qx qy qo) (addT A M px py po qx qy qo).rs .arg
def negY (M Y : Int) (o : Bool) : Int := cond o Y (-Y % M)
noncomputable def mulI (A B M z px py : Int) (po : Bool) : RS := cond (onB A B M px py po) (mulT A M (.pt px (cond (decide (z < 0)) (negY M py po) py) po) z.natAbs).rs .arg
def negI (A B M X Y : Int) (o : Bool) : RS := cond (onB A B M X Y o) ⟨X, negY M Y o, o, 0, 0⟩ .arg
def resM (r : RS) : MV := .tup [ptM r.X r.Y r.o 200 200, .big r.d 200, .int .i64 r.e]

theorem onB_pos {A B M X Y : Int} {o : Bool} (h : onB A B M X Y o = true) : 3 < M := by
  unfold onB curveB at h
  simp only [Bool.and_eq_true, Bool.not_eq_true', decide_eq_false_iff_not] at h
  omega

noncomputable def s_Add : FSpec
  | [.st [.big A i, .big B j, .big M k], .st [.big px n, .big py m, .bool po], .st [.big qx n', .big qy m', .bool qo]] =>
    some (some (i ≤ 200 ∧ j ≤ 200 ∧ k ≤ 200 ∧ n ≤ 200 ∧ m ≤ 200 ∧ n' ≤ 200 ∧ m' ≤ 200), .ret (resM (addI A B M px py po qx qy qo)))
  | _ => none
theorem vc_Add (A B M px py qx qy : Int) (po qo : Bool) (i j k n m n' m' : Nat) : ((i ≤ (1000 : Nat) ∧ j ≤ (1000 : Nat) ∧ k ≤ (1000 : Nat) ∧ n ≤ (1000 : Nat) ∧ m ≤ (1000 : Nat)) ∧ bif !onB A B M px py po then (((0 : Int) = RS.X (addI A B M px py po qx qy qo) ∧ ((0 : Nat) ≤ (200 : Nat) ∨ Int.natAbs (0 : Int) < (2 : Nat) ^ (200 : Nat))) ∧ ((0 : Int) = RS.Y (addI A B M px py po qx qy qo) ∧ ((0 : Nat) ≤ (200 : Nat) ∨ Int.natAbs (0 : Int) < (2 : Nat) ^ (200 : Nat))) ∧ false = RS.o (addI A B M px py po qx qy qo) ∧ True) ∧ ((0 : Int) = RS.d (addI A B M px py po qx qy qo) ∧ ((0 : Nat) ≤ (200 : Nat) ∨ Int.natAbs (0 : Int) < (2 : Nat) ^ (200 : Nat))) ∧ (1 : Int) = RS.e (addI A B M px py po qx qy qo) ∧ True else (i ≤ (1000 : Nat) ∧ j ≤ (1000 : Nat) ∧ k ≤ (1000 : Nat) ∧ n' ≤ (1000 : Nat) ∧ m' ≤ (1000 : Nat)) ∧ bif !onB A B M qx qy qo then (((0 : Int) = RS.X (addI A B M px py po qx qy qo) ∧ ((0 : Nat) ≤ (200 : Nat) ∨ Int.natAbs (0 : Int) < (2 : Nat) ^ (200 : Nat))) ∧ ((0 : Int) = RS.Y (addI A B M px py po qx qy qo) ∧ ((0 : Nat) ≤ (200 : Nat) ∨ Int.natAbs (0 : Int) < (2 : Nat) ^ (200 : Nat))) ∧ false = RS.o (addI A B M px py po qx qy qo) ∧ True) ∧ ((0 : Int) = RS.d (addI A B M px py po qx qy qo) ∧ ((0 : Nat) ≤ (200 : Nat) ∨ Int.natAbs (0 : Int) < (2 : Nat) ^ (200 : Nat))) ∧ (1 : Int) = RS.e (addI A B M px py po qx qy qo) ∧ True else (i ≤ (200 : Nat) ∧ k ≤ (200 : Nat) ∧ n ≤ (200 : Nat) ∧ m ≤ (200 : Nat) ∧ n' ≤ (200 : Nat) ∧ m' ≤ (200 : Nat) ∧ (0 : Int) < M) ∧ bif TR.ok (addT A M px py po qx qy qo) then ((TR.X (addT A M px py po qx qy qo) = RS.X (addI A B M px py po qx qy qo) ∧ ((200 : Nat) ≤ (200 : Nat) ∨ Int.natAbs (TR.X (addT A M px py po qx qy qo)) < (2 : Nat) ^ (200 : Nat))) ∧ (TR.Y (addT A M px py po qx qy qo) = RS.Y (addI A B M px py po qx qy qo) ∧ ((200 : Nat) ≤ (200 : Nat) ∨ Int.natAbs (TR.Y (addT A M px py po qx qy qo)) < (2 : Nat) ^ (200 : Nat))) ∧ TR.o (addT A M px py po qx qy qo) = RS.o (addI A B M px py po qx qy qo) ∧ True) ∧ ((0 : Int) = RS.d (addI A B M px py po qx qy qo) ∧ ((0 : Nat) ≤ (200 : Nat) ∨ Int.natAbs (0 : Int) < (2 : Nat) ^ (200 : Nat))) ∧ (0 : Int) = RS.e (addI A B M px py po qx qy qo) ∧ True else (((0 : Int) = RS.X (addI A B M px py po qx qy qo) ∧ ((0 : Nat) ≤ (200 : Nat) ∨ Int.natAbs (0 : Int) < (2 : Nat) ^ (200 : Nat))) ∧ ((0 : Int) = RS.Y (addI A B M px py po qx qy qo) ∧ ((0 : Nat) ≤ (200 : Nat) ∨ Int.natAbs (0 : Int) < (2 : Nat) ^ (200 : Nat))) ∧ false = RS.o (addI A B M px py po qx qy qo) ∧ True) ∧ (TR.d (addT A M px py po qx qy qo) = RS.d (addI A B M px py po qx qy qo) ∧ ((200 : Nat) ≤ (200 : Nat) ∨ Int.natAbs (TR.d (addT A M px py po qx qy qo)) < (2 : Nat) ^ (200 : Nat))) ∧ (6 : Int) = RS.e (addI A B M px py po qx qy qo) ∧ True) = evFn (env [c_pon, c_try] noAnn) Try.f34 [cvM A B M i j k, ptM px py po n m, ptM qx qy qo n' m'] (MRes.sat (.ret (resM (addI A B M px py po qx qy qo)))) := by kernel_rfl

noncomputable def s_Times : FSpec
  | [.st [.big A i, .big B j, .big M k], .big z t, .st [.big px n, .big py m, .bool po]] =>
    some (some (t ≤ 100000 ∧ i ≤ 200 ∧ j ≤ 200 ∧ k ≤ 200 ∧ n ≤ 200 ∧ m ≤ 200), .ret (resM (mulI A B M z px py po)))
  | _ => none
theorem vc_Times (A B M z px py : Int) (po : Bool) (t i j k n m : Nat) : ((i ≤ (1000 : Nat) ∧ j ≤ (1000 : Nat) ∧ k ≤ (1000 : Nat) ∧ n ≤ (1000 : Nat) ∧ m ≤ (1000 : Nat)) ∧ bif !onB A B M px py po then (((0 : Int) = RS.X (mulI A B M z px py po) ∧ ((0 : Nat) ≤ (200 : Nat) ∨ Int.natAbs (0 : Int) < (2 : Nat) ^ (200 : Nat))) ∧ ((0 : Int) = RS.Y (mulI A B M z px py po) ∧ ((0 : Nat) ≤ (200 : Nat) ∨ Int.natAbs (0 : Int) < (2 : Nat) ^ (200 : Nat))) ∧ false = RS.o (mulI A B M z px py po) ∧ True) ∧ ((0 : Int) = RS.d (mulI A B M z px py po) ∧ ((0 : Nat) ≤ (200 : Nat) ∨ Int.natAbs (0 : Int) < (2 : Nat) ^ (200 : Nat))) ∧ (1 : Int) = RS.e (mulI A B M z px py po) ∧ True else bif decide (z < (0 : Int)) then (k ≤ (1000 : Nat) ∧ m ≤ (2000 : Nat) ∧ (0 : Int) < M) ∧ bif po then (t ≤ (100000 : Nat) ∧ i ≤ (200 : Nat) ∧ k ≤ (200 : Nat) ∧ n ≤ (200 : Nat) ∧ m ≤ (200 : Nat) ∧ (0 : Int) < M) ∧ bif TR.ok (mulT A M (TR.pt px py true) (Int.natAbs z)) then ((TR.X (mulT A M (TR.pt px py true) (Int.natAbs z)) = RS.X (mulI A B M z px py po) ∧ ((200 : Nat) ≤ (200 : Nat) ∨ Int.natAbs (TR.X (mulT A M (TR.pt px py true) (Int.natAbs z))) < (2 : Nat) ^ (200 : Nat))) ∧ (TR.Y (mulT A M (TR.pt px py true) (Int.natAbs z)) = RS.Y (mulI A B M z px py po) ∧ ((200 : Nat) ≤ (200 : Nat) ∨ Int.natAbs (TR.Y (mulT A M (TR.pt px py true) (Int.natAbs z))) < (2 : Nat) ^ (200 : Nat))) ∧ TR.o (mulT A M (TR.pt px py true) (Int.natAbs z)) = RS.o (mulI A B M z px py po) ∧ True) ∧ ((0 : Int) = RS.d (mulI A B M z px py po) ∧ ((0 : Nat) ≤ (200 : Nat) ∨ Int.natAbs (0 : Int) < (2 : Nat) ^ (200 : Nat))) ∧ (0 : Int) = RS.e (mulI A B M z px py po) ∧ True else (((0 : Int) = RS.X (mulI A B M z px py po) ∧ ((0 : Nat) ≤ (200 : Nat) ∨ Int.natAbs (0 : Int) < (2 : Nat) ^ (200 : Nat))) ∧ ((0 : Int) = RS.Y (mulI A B M z px py po) ∧ ((0 : Nat) ≤ (200 : Nat) ∨ Int.natAbs (0 : Int) < (2 : Nat) ^ (200 : Nat))) ∧ false = RS.o (mulI A B M z px py po) ∧ True) ∧ (TR.d (mulT A M (TR.pt px py true) (Int.natAbs z)) = RS.d (mulI A B M z px py po) ∧ ((200 : Nat) ≤ (200 : Nat) ∨ Int.natAbs (TR.d (mulT A M (TR.pt px py true) (Int.natAbs z))) < (2 : Nat) ^ (200 : Nat))) ∧ (6 : Int) = RS.e (mulI A B M z px py po) ∧ True else (t ≤ (100000 : Nat) ∧ i ≤ (200 : Nat) ∧ k ≤ (200 : Nat) ∧ n ≤ (200 : Nat) ∧ k ≤ (200 : Nat) ∧ (0 : Int) < M) ∧ bif TR.ok (mulT A M (TR.pt px (-py % M) false) (Int.natAbs z)) then ((TR.X (mulT A M (TR.pt px (-py % M) false) (Int.natAbs z)) = RS.X (mulI A B M z px py po) ∧ ((200 : Nat) ≤ (200 : Nat) ∨ Int.natAbs (TR.X (mulT A M (TR.pt px (-py % M) false) (Int.natAbs z))) < (2 : Nat) ^ (200 : Nat))) ∧ (TR.Y (mulT A M (TR.pt px (-py % M) false) (Int.natAbs z)) = RS.Y (mulI A B M z px py po) ∧ ((200 : Nat) ≤ (200 : Nat) ∨ Int.natAbs (TR.Y (mulT A M (TR.pt px (-py % M) false) (Int.natAbs z))) < (2 : Nat) ^ (200 : Nat))) ∧ TR.o (mulT A M (TR.pt px (-py % M) false) (Int.natAbs z)) = RS.o (mulI A B M z px py po) ∧ True) ∧ ((0 : Int) = RS.d (mulI A B M z px py po) ∧ ((0 : Nat) ≤ (200 : Nat) ∨ Int.natAbs (0 : Int) < (2 : Nat) ^ (200 : Nat))) ∧ (0 : Int) = RS.e (mulI A B M z px py po) ∧ True else (((0 : Int) = RS.X (mulI A B M z px py po) ∧ ((0 : Nat) ≤ (200 : Nat) ∨ Int.natAbs (0 : Int) < (2 : Nat) ^ (200 : Nat))) ∧ ((0 : Int) = RS.Y (mulI A B M z px py po) ∧ ((0 : Nat) ≤ (200 : Nat) ∨ Int.natAbs (0 : Int) < (2 : Nat) ^ (200 : Nat))) ∧ false = RS.o (mulI A B M z px py po) ∧ True) ∧ (TR.d (mulT A M (TR.pt px (-py % M) false) (Int.natAbs z)) = RS.d (mulI A B M z px py po) ∧ ((200 : Nat) ≤ (200 : Nat) ∨ Int.natAbs (TR.d (mulT A M (TR.pt px (-py % M) false) (Int.natAbs z))) < (2 : Nat) ^ (200 : Nat))) ∧ (6 : Int) = RS.e (mulI A B M z px py po) ∧ True else (t ≤ (100000 : Nat) ∧ i ≤ (200 : Nat) ∧ k ≤ (200 : Nat) ∧ n ≤ (200 : Nat) ∧ m ≤ (200 : Nat) ∧ (0 : Int) < M) ∧ bif TR.ok (mulT A M (TR.pt px py po) (Int.natAbs z)) then ((TR.X (mulT A M (TR.pt px py po) (Int.natAbs z)) = RS.X (mulI A B M z px py po) ∧ ((200 : Nat) ≤ (200 : Nat) ∨ Int.natAbs (TR.X (mulT A M (TR.pt px py po) (Int.natAbs z))) < (2 : Nat) ^ (200 : Nat))) ∧ (TR.Y (mulT A M (TR.pt px py po) (Int.natAbs z)) = RS.Y (mulI A B M z px py po) ∧ ((200 : Nat) ≤ (200 : Nat) ∨ Int.natAbs (TR.Y (mulT A M (TR.pt px py po) (Int.natAbs z))) < (2 : Nat) ^ (200 : Nat))) ∧ TR.o (mulT A M (TR.pt px py po) (Int.natAbs z)) = RS.o (mulI A B M z px py po) ∧ True) ∧ ((0 : Int) = RS.d (mulI A B M z px py po) ∧ ((0 : Nat) ≤ (200 : Nat) ∨ Int.natAbs (0 : Int) < (2 : Nat) ^ (200 : Nat))) ∧ (0 : Int) = RS.e (mulI A B M z px py po) ∧ True else (((0 : Int) = RS.X (mulI A B M z px py po) ∧ ((0 : Nat) ≤ (200 : Nat) ∨ Int.natAbs (0 : Int) < (2 : Nat) ^ (200 : Nat))) ∧ ((0 : Int) = RS.Y (mulI A B M z px py po) ∧ ((0 : Nat) ≤ (200 : Nat) ∨ Int.natAbs (0 : Int) < (2 : Nat) ^ (200 : Nat))) ∧ false = RS.o (mulI A B M z px py po) ∧ True) ∧ (TR.d (mulT A M (TR.pt px py po) (Int.natAbs z)) = RS.d (mulI A B M z px py po) ∧ ((200 : Nat) ≤ (200 : Nat) ∨ Int.natAbs (TR.d (mulT A M (TR.pt px py po) (Int.natAbs z))) < (2 : Nat) ^ (200 : Nat))) ∧ (6 : Int) = RS.e (mulI A B M z px py po) ∧ True) = evFn (env [c_pon, c_pneg, c_try] noAnn) Try.f41 [cvM A B M i j k, .big z t, ptM px py po n m] (MRes.sat (.ret (resM (mulI A B M z px py po)))) := by kernel_rfl

def s_Neg : FSpec
  | [.st [.big A i, .big B j, .big M k], .st [.big X n, .big Y m, .bool o]] =>
    some (some (i ≤ 200 ∧ j ≤ 200 ∧ k ≤ 200 ∧ n ≤ 200 ∧ m ≤ 200), .ret (.tup [ptM (negI A B M X Y o).X (negI A B M X Y o).Y (negI A B M X Y o).o 200 200, .int .i64 (negI A B M X Y o).e]))
  | _ => none
theorem vc_Neg (A B M X Y : Int) (o : Bool) (i j k n m : Nat) : ((i ≤ (1000 : Nat) ∧ j ≤ (1000 : Nat) ∧ k ≤ (1000 : Nat) ∧ n ≤ (1000 : Nat) ∧ m ≤ (1000 : Nat)) ∧ bif !onB A B M X Y o then (((0 : Int) = RS.X (negI A B M X Y o) ∧ ((0 : Nat) ≤ (200 : Nat) ∨ Int.natAbs (0 : Int) < (2 : Nat) ^ (200 : Nat))) ∧ ((0 : Int) = RS.Y (negI A B M X Y o) ∧ ((0 : Nat) ≤ (200 : Nat) ∨ Int.natAbs (0 : Int) < (2 : Nat) ^ (200 : Nat))) ∧ false = RS.o (negI A B M X Y o) ∧ True) ∧ (1 : Int) = RS.e (negI A B M X Y o) ∧ True else (k ≤ (1000 : Nat) ∧ m ≤ (2000 : Nat) ∧ (0 : Int) < M) ∧ bif o then ((X = RS.X (negI A B M X Y o) ∧ (n ≤ (200 : Nat) ∨ Int.natAbs X < (2 : Nat) ^ (200 : Nat))) ∧ (Y = RS.Y (negI A B M X Y o) ∧ (m ≤ (200 : Nat) ∨ Int.natAbs Y < (2 : Nat) ^ (200 : Nat))) ∧ true = RS.o (negI A B M X Y o) ∧ True) ∧ (0 : Int) = RS.e (negI A B M X Y o) ∧ True else ((X = RS.X (negI A B M X Y o) ∧ (n ≤ (200 : Nat) ∨ Int.natAbs X < (2 : Nat) ^ (200 : Nat))) ∧ (-Y % M = RS.Y (negI A B M X Y o) ∧ (k ≤ (200 : Nat) ∨ Int.natAbs (-Y % M) < (2 : Nat) ^ (200 : Nat))) ∧ false = RS.o (negI A B M X Y o) ∧ True) ∧ (0 : Int) = RS.e (negI A B M X Y o) ∧ True) = evFn (env [c_pon, c_pneg] noAnn) Try.f16 [cvM A B M i j k, ptM X Y o n m] (MRes.sat (.ret (.tup [ptM (negI A B M X Y o).X (negI A B M X Y o).Y (negI A B M X Y o).o 200 200, .int .i64 (negI A B M X Y o).e]))) := by kernel_rfl

theorem res_sat {r : TR} {R : RS} (h : R = r.rs) {P Q : Prop} (hP : r.ok = true → (r.X = R.X ∧ r.Y = R.Y ∧ r.o = R.o ∧ (0 : Int) = R.d ∧ (0 : Int) = R.e) → P) (hQ : r.ok = false → ((0 : Int) = R.X ∧ (0 : Int) = R.Y ∧ false = R.o ∧ r.d = R.d ∧ (6 : Int) = R.e) → Q) : bif r.ok then P else Q := by
  subst h
  cases r with
  | pt X Y o => exact hP rfl ⟨rfl, rfl, rfl, rfl, rfl⟩
  | dv d => exact hQ rfl ⟨rfl, rfl, rfl, rfl, rfl⟩

theorem p_Add : Good Try.f34 s_Add := by
  intro ms p r h hp
  unfold s_Add at h
  split at h
  · rename_i A i B j M k px n py m po qx n' qy m' qo
    simp only [Option.some.injEq, Prod.mk.injEq] at h
    obtain ⟨rfl, rfl⟩ := h
    obtain ⟨h1, h2, h3, h4, h5, h6, h7⟩ : i ≤ 200 ∧ j ≤ 200 ∧ k ≤ 200 ∧ n ≤ 200 ∧ m ≤ 200 ∧ n' ≤ 200 ∧ m' ≤ 200 := hp
    refine ⟨env [c_pon, c_try] noAnn, ?_⟩
    rw [← vc_Add A B M px py qx qy po qo i j k n m n' m']
    refine ⟨by omega, ?_⟩
    generalize hR : addI A B M px py po qx qy qo = R
    unfold addI at hR
    cases ho : onB A B M px py po with
    | false =>
      rw [ho, Bool.false_and, cond_false] at hR
      subst hR
      exact ⟨⟨⟨rfl, .inl (by omega)⟩, ⟨rfl, .inl (by omega)⟩, rfl, True.intro⟩, ⟨rfl, .inl (by omega)⟩, rfl, True.intro⟩
    | true =>
      rw [ho, Bool.true_and] at hR
      refine ⟨by omega, ?_⟩
      have hM := onB_pos ho
      cases ho2 : onB A B M qx qy qo with
      | false =>
        rw [ho2, cond_false] at hR
        subst hR
        exact ⟨⟨⟨rfl, .inl (by omega)⟩, ⟨rfl, .inl (by omega)⟩, rfl, True.intro⟩, ⟨rfl, .inl (by omega)⟩, rfl, True.intro⟩
      | true =>
        rw [ho2, cond_true] at hR
        refine ⟨by omega, res_sat hR.symm (fun _ ⟨q1, q2, q3, q4, q5⟩ => ⟨⟨⟨q1, .inl (by omega)⟩, ⟨q2, .inl (by omega)⟩, q3, True.intro⟩, ⟨q4, .inl (by omega)⟩, q5, True.intro⟩) (fun _ ⟨q1, q2, q3, q4, q5⟩ => ⟨⟨⟨q1, .inl (by omega)⟩, ⟨q2, .inl (by omega)⟩, q3, True.intro⟩, ⟨q4, .inl (by omega)⟩, q5, True.intro⟩)⟩
  · simp at h
noncomputable def c_Add : Ctr Try.prog := ⟨34, s_Add, fun args w => Try.call34 args w, fn_ok mix Try.func34 s_Add p_Add⟩

theorem p_Times : Good Try.f41 s_Times := by
  intro ms p r h hp
  unfold s_Times at h
  split at h
  · rename_i A i B j M k z t px n py m po
    simp only [Option.some.injEq, Prod.mk.injEq] at h
    obtain ⟨rfl, rfl⟩ := h
    obtain ⟨h1, h2, h3, h4, h5, h6⟩ : t ≤ 100000 ∧ i ≤ 200 ∧ j ≤ 200 ∧ k ≤ 200 ∧ n ≤ 200 ∧ m ≤ 200 := hp
    refine ⟨env [c_pon, c_pneg, c_try] noAnn, ?_⟩
    rw [← vc_Times A B M z px py po t i j k n m]
    refine ⟨by omega, ?_⟩
    generalize hR : mulI A B M z px py po = R
    unfold mulI at hR
    cases ho : onB A B M px py po with
    | false =>
      rw [ho, cond_false] at hR
      subst hR
      exact ⟨⟨⟨rfl, .inl (by omega)⟩, ⟨rfl, .inl (by omega)⟩, rfl, True.intro⟩, ⟨rfl, .inl (by omega)⟩, rfl, True.intro⟩
    | true =>
      rw [ho, cond_true] at hR
      have hM := onB_pos ho
      have fin : ∀ {y : Int} {oo : Bool}, R = (mulT A M (.pt px y oo) z.natAbs).rs → _ := fun {y oo} h => res_sat h
        (fun _ ⟨q1, q2, q3, q4, q5⟩ => (⟨⟨⟨q1, .inl (Nat.le_refl 200)⟩, ⟨q2, .inl (Nat.le_refl 200)⟩, q3, True.intro⟩, ⟨q4, .inl (Nat.zero_le 200)⟩, q5, True.intro⟩ : ((_ ∧ (_ ∨ Int.natAbs (mulT A M (.pt px y oo) z.natAbs).X < 2 ^ 200)) ∧ (_ ∧ (_ ∨ Int.natAbs (mulT A M (.pt px y oo) z.natAbs).Y < 2 ^ 200)) ∧ _ ∧ True) ∧ (_ ∧ (_ ∨ Int.natAbs (0 : Int) < 2 ^ 200)) ∧ _ ∧ True))
        (fun _ ⟨q1, q2, q3, q4, q5⟩ => (⟨⟨⟨q1, .inl (Nat.zero_le 200)⟩, ⟨q2, .inl (Nat.zero_le 200)⟩, q3, True.intro⟩, ⟨q4, .inl (Nat.le_refl 200)⟩, q5, True.intro⟩ : ((_ ∧ (_ ∨ Int.natAbs (0 : Int) < 2 ^ 200)) ∧ (_ ∧ (_ ∨ Int.natAbs (0 : Int) < 2 ^ 200)) ∧ _ ∧ True) ∧ (_ ∧ (_ ∨ Int.natAbs (mulT A M (.pt px y oo) z.natAbs).d < 2 ^ 200)) ∧ _ ∧ True))
      cases hz : decide (z < 0) with
      | false =>
        rw [hz, cond_false] at hR
        exact ⟨by omega, fin hR.symm⟩
      | true =>
        rw [hz, cond_true] at hR
        refine ⟨by omega, ?_⟩
        cases po with
        | true => exact ⟨by omega, fin hR.symm⟩
        | false => exact ⟨by omega, fin hR.symm⟩
  · simp at h
noncomputable def c_Times : Ctr Try.prog := ⟨41, s_Times, fun args w => Try.call41 args w, fn_ok mix Try.func41 s_Times p_Times⟩

theorem p_Neg : Good Try.f16 s_Neg := by
  intro ms p r h hp
  unfold s_Neg at h
  split at h
  · rename_i A i B j M k X n Y m o
    simp only [Option.some.injEq, Prod.mk.injEq] at h
    obtain ⟨rfl, rfl⟩ := h
    obtain ⟨h1, h2, h3, h4, h5⟩ : i ≤ 200 ∧ j ≤ 200 ∧ k ≤ 200 ∧ n ≤ 200 ∧ m ≤ 200 := hp
    refine ⟨env [c_pon, c_pneg] noAnn, ?_⟩
    rw [← vc_Neg A B M X Y o i j k n m]
    refine ⟨by omega, ?_⟩
    generalize hR : negI A B M X Y o = R
    unfold negI at hR
    cases ho : onB A B M X Y o with
    | false =>
      rw [ho, cond_false] at hR
      subst hR
      exact ⟨⟨⟨rfl, .inl (by omega)⟩, ⟨rfl, .inl (by omega)⟩, rfl, True.intro⟩, rfl, True.intro⟩
    | true =>
      rw [ho, cond_true] at hR
      have hM := onB_pos ho
      subst hR
      refine ⟨by omega, ?_⟩
      cases o with
      | true => exact ⟨⟨⟨rfl, .inl (by omega)⟩, ⟨rfl, .inl (by omega)⟩, rfl, True.intro⟩, rfl, True.intro⟩
      | false => exact ⟨⟨⟨rfl, .inl (by omega)⟩, ⟨rfl, .inl (by omega)⟩, rfl, True.intro⟩, rfl, True.intro⟩
  · simp at h
def c_Neg : Ctr Try.prog := ⟨16, s_Neg, fun args w => Try.call16 args w, fn_ok mix Try.func16 s_Neg p_Neg⟩

end Go.Proofs.Ytceochfccebebaa

/-
  Contracts of functions: the reference's curves; small functions of the laws.
-/
namespace Go.Proofs.Ytceochfccebebaa
open Go Go.RowKit

def sameB (X Y : Int) (o : Bool) (X' Y' : Int) (o' : Bool) : Bool := (o == o') && decide (X = X') && decide (Y = Y')
def s_R6same : FSpec
  | [.st [.big X n, .big Y m, .bool o], .st [.big X' n', .big Y' m', .bool o']] => some (some (n ≤ 1000 ∧ m ≤ 1000 ∧ n' ≤ 1000 ∧ m' ≤ 1000), .ret (.bool (sameB X Y o X' Y' o')))
  | _ => none
theorem vc_R6same (X Y X' Y' : Int) (o o' : Bool) (n m n' m' : Nat) : (bif o == o' then (n ≤ (1000000 : Nat) ∧ n' ≤ (1000000 : Nat)) ∧ bif decide (X = X') then (m ≤ (1000000 : Nat) ∧ m' ≤ (1000000 : Nat)) ∧ decide (Y = Y') = sameB X Y o X' Y' o' else false = sameB X Y o X' Y' o' else false = sameB X Y o X' Y' o') = evFn (env [c_rsame] noAnn) Try.f14 [ptM X Y o n m, ptM X' Y' o' n' m'] (MRes.sat (.ret (.bool (sameB X Y o X' Y' o')))) := by kernel_rfl

/-- The coefficient B of the curve through a point. -/
def curveI (m a x y : Int) : Int := (y * y - x * x * x - a * x) % m
def s_Curve : FSpec
  | [.int .i64 m, .int .i64 a, .int .i64 x, .int .i64 y] => some (some (1 ≤ m ∧ m ≤ 100000 ∧ 0 ≤ a ∧ a ≤ 100000 ∧ 0 ≤ x ∧ x ≤ 100000 ∧ 0 ≤ y ∧ y ≤ 100000), .ret (cvM a (curveI m a x y) m 64 64 64))
  | _ => none
theorem vc_Curve (m a x y : Int) : ((m = (0 : Int) → False) ∧ (m = (0 : Int) → False) ∧ (m = (0 : Int) → False) ∧ ((-9223372036854775808 : Int) ≤ a ∧ a ≤ (9223372036854775807 : Int)) ∧ ((-9223372036854775808 : Int) ≤ Int.tmod (IntKind.wrap IntKind.i64 (Int.tmod (IntKind.wrap IntKind.i64 (IntKind.wrap IntKind.i64 (IntKind.wrap IntKind.i64 (y * y) - IntKind.wrap IntKind.i64 (Int.tmod (IntKind.wrap IntKind.i64 (x * x)) m * x)) - IntKind.wrap IntKind.i64 (a * x))) m + m)) m ∧ Int.tmod (IntKind.wrap IntKind.i64 (Int.tmod (IntKind.wrap IntKind.i64 (IntKind.wrap IntKind.i64 (IntKind.wrap IntKind.i64 (y * y) - IntKind.wrap IntKind.i64 (Int.tmod (IntKind.wrap IntKind.i64 (x * x)) m * x)) - IntKind.wrap IntKind.i64 (a * x))) m + m)) m ≤ (9223372036854775807 : Int)) ∧ ((-9223372036854775808 : Int) ≤ m ∧ m ≤ (9223372036854775807 : Int)) ∧ (a = a ∧ ((64 : Nat) ≤ (64 : Nat) ∨ Int.natAbs a < (2 : Nat) ^ (64 : Nat))) ∧ (Int.tmod (IntKind.wrap IntKind.i64 (Int.tmod (IntKind.wrap IntKind.i64 (IntKind.wrap IntKind.i64 (IntKind.wrap IntKind.i64 (y * y) - IntKind.wrap IntKind.i64 (Int.tmod (IntKind.wrap IntKind.i64 (x * x)) m * x)) - IntKind.wrap IntKind.i64 (a * x))) m + m)) m = curveI m a x y ∧ ((64 : Nat) ≤ (64 : Nat) ∨ Int.natAbs (Int.tmod (IntKind.wrap IntKind.i64 (Int.tmod (IntKind.wrap IntKind.i64 (IntKind.wrap IntKind.i64 (IntKind.wrap IntKind.i64 (y * y) - IntKind.wrap IntKind.i64 (Int.tmod (IntKind.wrap IntKind.i64 (x * x)) m * x)) - IntKind.wrap IntKind.i64 (a * x))) m + m)) m) < (2 : Nat) ^ (64 : Nat))) ∧ (m = m ∧ ((64 : Nat) ≤ (64 : Nat) ∨ Int.natAbs m < (2 : Nat) ^ (64 : Nat))) ∧ True) = evFn (env [c_rof] noAnn) Try.f9 [.int .i64 m, .int .i64 a, .int .i64 x, .int .i64 y] (MRes.sat (.ret (cvM a (curveI m a x y) m 64 64 64))) := by kernel_rfl

def rightI (A B M x : Int) : Int := (x * (x * x) + A * x + B) % M
def s_Right : FSpec
  | [.st [.big A i, .big B j, .big M k], .big x n] => some (some (i ≤ 200 ∧ j ≤ 200 ∧ k ≤ 200 ∧ n ≤ 200 ∧ 0 < M), .ret (.big (rightI A B M x) k))
  | _ => none
theorem vc_Right (A B M x : Int) (i j k n : Nat) : ((n ≤ (1000000 : Nat) ∧ n ≤ (1000000 : Nat)) ∧ (n ≤ (1000000 : Nat) ∧ n + n ≤ (1000000 : Nat)) ∧ (i ≤ (1000000 : Nat) ∧ n ≤ (1000000 : Nat)) ∧ (n + (n + n) ≤ (1000000 : Nat) ∧ i + n ≤ (1000000 : Nat)) ∧ (max (n + (n + n)) (i + n) + (1 : Nat) ≤ (1000000 : Nat) ∧ j ≤ (1000000 : Nat)) ∧ (max (max (n + (n + n)) (i + n) + (1 : Nat)) j + (1 : Nat) ≤ (900000 : Nat) ∧ k ≤ (900000 : Nat) ∧ (M = (0 : Int) → False)) ∧ (x * (x * x) + A * x + B) % M = rightI A B M x ∧ (k ≤ k ∨ Int.natAbs ((x * (x * x) + A * x + B) % M) < (2 : Nat) ^ k)) = evFn (env [c_rmul, c_radd, c_rmod] noAnn) Try.f33 [cvM A B M i j k, .big x n] (MRes.sat (.ret (.big (rightI A B M x) k))) := by kernel_rfl

def nonsB (A B M : Int) : Bool := decide (Int.gcd (4 * (A * (A * A)) + 27 * (B * B)) M = 1)
def s_Nons : FSpec
  | [.st [.big A i, .big B j, .big M k]] => some (some (i ≤ 200 ∧ j ≤ 200 ∧ k ≤ 200), .ret (.bool (nonsB A B M)))
  | _ => none
theorem vc_Nons (A B M : Int) (i j k : Nat) : (((-9223372036854775808 : Int) ≤ (4 : Int) ∧ (4 : Int) ≤ (9223372036854775807 : Int)) ∧ (i ≤ (1000000 : Nat) ∧ i ≤ (1000000 : Nat)) ∧ (i ≤ (1000000 : Nat) ∧ i + i ≤ (1000000 : Nat)) ∧ ((64 : Nat) ≤ (1000000 : Nat) ∧ i + (i + i) ≤ (1000000 : Nat)) ∧ ((-9223372036854775808 : Int) ≤ (27 : Int) ∧ (27 : Int) ≤ (9223372036854775807 : Int)) ∧ (j ≤ (1000000 : Nat) ∧ j ≤ (1000000 : Nat)) ∧ ((64 : Nat) ≤ (1000000 : Nat) ∧ j + j ≤ (1000000 : Nat)) ∧ ((64 : Nat) + (i + (i + i)) ≤ (1000000 : Nat) ∧ (64 : Nat) + (j + j) ≤ (1000000 : Nat)) ∧ (max ((64 : Nat) + (i + (i + i))) ((64 : Nat) + (j + j)) + (1 : Nat) ≤ (900000 : Nat) ∧ k ≤ (900000 : Nat)) ∧ ((-9223372036854775808 : Int) ≤ (1 : Int) ∧ (1 : Int) ≤ (9223372036854775807 : Int)) ∧ (max (max ((64 : Nat) + (i + (i + i))) ((64 : Nat) + (j + j)) + (1 : Nat)) k ≤ (1000000 : Nat) ∧ (64 : Nat) ≤ (1000000 : Nat)) ∧ decide ((↑(Int.gcd ((4 : Int) * (A * (A * A)) + (27 : Int) * (B * B)) M) : Int) = (1 : Int)) = nonsB A B M) = evFn (env [c_rof, c_rmul, c_radd, c_rgcd, c_rsame] noAnn) Try.f10 [cvM A B M i j k] (MRes.sat (.ret (.bool (nonsB A B M)))) := by kernel_rfl

def s_at : FSpec
  | [.int .i64 x, .int .i64 y] => some (some (-9223372036854775808 ≤ x ∧ x ≤ 9223372036854775807 ∧ -9223372036854775808 ≤ y ∧ y ≤ 9223372036854775807), .ret (ptM x y false 64 64))
  | _ => none
theorem vc_at (x y : Int) : (((-9223372036854775808 : Int) ≤ x ∧ x ≤ (9223372036854775807 : Int)) ∧ ((-9223372036854775808 : Int) ≤ y ∧ y ≤ (9223372036854775807 : Int)) ∧ (x = x ∧ ((64 : Nat) ≤ (64 : Nat) ∨ Int.natAbs x < (2 : Nat) ^ (64 : Nat))) ∧ (y = y ∧ ((64 : Nat) ≤ (64 : Nat) ∨ Int.natAbs y < (2 : Nat) ^ (64 : Nat))) ∧ false = false ∧ True) = evFn (env [c_rof] noAnn) Try.f12 [.int .i64 x, .int .i64 y] (MRes.sat (.ret (ptM x y false 64 64))) := by kernel_rfl

abbrev sumM (r : RS) : MV := .st [ptM r.X r.Y r.o 200 200, .big r.d 200, .int .i64 r.e]
noncomputable def s_ladd : FSpec
  | [.st [.big A i, .big B j, .big M k], .st [.big px n, .big py m, .bool po], .st [.big qx n', .big qy m', .bool qo]] =>
    some (some (i ≤ 200 ∧ j ≤ 200 ∧ k ≤ 200 ∧ n ≤ 200 ∧ m ≤ 200 ∧ n' ≤ 200 ∧ m' ≤ 200), .ret (sumM (addI A B M px py po qx qy qo)))
  | _ => none
theorem vc_ladd (A B M px py qx qy : Int) (po qo : Bool) (i j k n m n' m' : Nat) : ((i ≤ (200 : Nat) ∧ j ≤ (200 : Nat) ∧ k ≤ (200 : Nat) ∧ n ≤ (200 : Nat) ∧ m ≤ (200 : Nat) ∧ n' ≤ (200 : Nat) ∧ m' ≤ (200 : Nat)) ∧ ((RS.X (addI A B M px py po qx qy qo) = RS.X (addI A B M px py po qx qy qo) ∧ ((200 : Nat) ≤ (200 : Nat) ∨ Int.natAbs (RS.X (addI A B M px py po qx qy qo)) < (2 : Nat) ^ (200 : Nat))) ∧ (RS.Y (addI A B M px py po qx qy qo) = RS.Y (addI A B M px py po qx qy qo) ∧ ((200 : Nat) ≤ (200 : Nat) ∨ Int.natAbs (RS.Y (addI A B M px py po qx qy qo)) < (2 : Nat) ^ (200 : Nat))) ∧ RS.o (addI A B M px py po qx qy qo) = RS.o (addI A B M px py po qx qy qo) ∧ True) ∧ (RS.d (addI A B M px py po qx qy qo) = RS.d (addI A B M px py po qx qy qo) ∧ ((200 : Nat) ≤ (200 : Nat) ∨ Int.natAbs (RS.d (addI A B M px py po qx qy qo)) < (2 : Nat) ^ (200 : Nat))) ∧ RS.e (addI A B M px py po qx qy qo) = RS.e (addI A B M px py po qx qy qo) ∧ True) = evFn (env [c_Add] noAnn) Try.f13 [cvM A B M i j k, ptM px py po n m, ptM qx qy qo n' m'] (MRes.sat (.ret (sumM (addI A B M px py po qx qy qo)))) := by kernel_rfl

noncomputable def s_ltimes : FSpec
  | [.st [.big A i, .big B j, .big M k], .big z t, .st [.big px n, .big py m, .bool po]] =>
    some (some (t ≤ 100000 ∧ i ≤ 200 ∧ j ≤ 200 ∧ k ≤ 200 ∧ n ≤ 200 ∧ m ≤ 200), .ret (sumM (mulI A B M z px py po)))
  | _ => none
theorem vc_ltimes (A B M z px py : Int) (po : Bool) (t i j k n m : Nat) : ((t ≤ (100000 : Nat) ∧ i ≤ (200 : Nat) ∧ j ≤ (200 : Nat) ∧ k ≤ (200 : Nat) ∧ n ≤ (200 : Nat) ∧ m ≤ (200 : Nat)) ∧ ((RS.X (mulI A B M z px py po) = RS.X (mulI A B M z px py po) ∧ ((200 : Nat) ≤ (200 : Nat) ∨ Int.natAbs (RS.X (mulI A B M z px py po)) < (2 : Nat) ^ (200 : Nat))) ∧ (RS.Y (mulI A B M z px py po) = RS.Y (mulI A B M z px py po) ∧ ((200 : Nat) ≤ (200 : Nat) ∨ Int.natAbs (RS.Y (mulI A B M z px py po)) < (2 : Nat) ^ (200 : Nat))) ∧ RS.o (mulI A B M z px py po) = RS.o (mulI A B M z px py po) ∧ True) ∧ (RS.d (mulI A B M z px py po) = RS.d (mulI A B M z px py po) ∧ ((200 : Nat) ≤ (200 : Nat) ∨ Int.natAbs (RS.d (mulI A B M z px py po)) < (2 : Nat) ^ (200 : Nat))) ∧ RS.e (mulI A B M z px py po) = RS.e (mulI A B M z px py po) ∧ True) = evFn (env [c_Times] noAnn) Try.f18 [cvM A B M i j k, .big z t, ptM px py po n m] (MRes.sat (.ret (sumM (mulI A B M z px py po)))) := by kernel_rfl

theorem tmod_fix (u m : Int) (hm : 0 < m) : Int.tmod (Int.tmod u m + m) m = u % m := by
  have h1 := Int.tmod_lt_of_pos u hm
  have h2 : -m < Int.tmod u m := by
    have := Int.tmod_lt_of_pos (-u) hm
    rw [Int.neg_tmod] at this
    omega
  rw [Int.tmod_eq_emod_of_nonneg (by omega), Int.tmod_def]
  rw [show u - m * u.tdiv m + m = u + m * (1 - u.tdiv m) by rw [Int.mul_sub]; omega, Int.add_mul_emod_self_left]
theorem curve_fix (m a x y : Int) : (y * y - x * x % m * x - a * x) % m = curveI m a x y := by
  unfold curveI
  rw [Int.sub_emod, Int.sub_emod (y * y), Int.mul_emod (x * x % m), Int.emod_emod, ← Int.mul_emod, ← Int.sub_emod (y * y), ← Int.sub_emod]

theorem p_R6same : Good Try.f14 s_R6same := by
  intro ms p r h hp
  unfold s_R6same at h
  split at h
  · rename_i X n Y m o X' n' Y' m' o'
    simp only [Option.some.injEq, Prod.mk.injEq] at h
    obtain ⟨rfl, rfl⟩ := h
    obtain ⟨h1, h2, h3, h4⟩ : n ≤ 1000 ∧ m ≤ 1000 ∧ n' ≤ 1000 ∧ m' ≤ 1000 := hp
    refine ⟨env [c_rsame] noAnn, ?_⟩
    rw [← vc_R6same X Y X' Y' o o' n m n' m']
    unfold sameB
    cases o == o' with
    | false => rfl
    | true =>
      refine ⟨by omega, ?_⟩
      cases decide (X = X') with
      | false => rfl
      | true => exact ⟨by omega, by simp⟩
  · simp at h
noncomputable def c_R6same : Ctr Try.prog := ⟨14, s_R6same, fun args w => Try.call14 args w, fn_ok mix Try.func14 s_R6same p_R6same⟩

theorem p_Curve : Good Try.f9 s_Curve := by
  intro ms p r h hp
  unfold s_Curve at h
  split at h
  · rename_i m a x y
    simp only [Option.some.injEq, Prod.mk.injEq] at h
    obtain ⟨rfl, rfl⟩ := h
    obtain ⟨h1, h2, h3, h4, h5, h6, h7, h8⟩ : 1 ≤ m ∧ m ≤ 100000 ∧ 0 ≤ a ∧ a ≤ 100000 ∧ 0 ≤ x ∧ x ≤ 100000 ∧ 0 ≤ y ∧ y ≤ 100000 := hp
    refine ⟨env [c_rof] noAnn, ?_⟩
    rw [← vc_Curve m a x y]
    have mul2 : ∀ {u v : Int}, 0 ≤ u → u ≤ 100000 → 0 ≤ v → v ≤ 100000 → 0 ≤ u * v ∧ u * v ≤ 10000000000 := fun hu hu2 hv hv2 => ⟨Int.mul_nonneg hu hv, Int.le_trans (Int.mul_le_mul hu2 hv2 hv (by omega)) (by decide)⟩
    have a1 := mul2 h5 h6 h5 h6
    have a2 := mul2 h7 h8 h7 h8
    have a3 := mul2 h3 h4 h5 h6
    have e0 : Int.tmod (x * x) m = x * x % m := Int.tmod_eq_emod_of_nonneg a1.1
    have a4 : 0 ≤ x * x % m := Int.emod_nonneg _ (by omega)
    have a5 : x * x % m < m := Int.emod_lt_of_pos _ (by omega)
    have a6 := mul2 a4 (by omega) h5 h6
    have e1 : IntKind.wrap IntKind.i64 (x * x) = x * x := i64w (by omega) (by omega)
    have e2 : IntKind.wrap IntKind.i64 (y * y) = y * y := i64w (by omega) (by omega)
    have e3 : IntKind.wrap IntKind.i64 (a * x) = a * x := i64w (by omega) (by omega)
    have e4 : IntKind.wrap IntKind.i64 (x * x % m * x) = x * x % m * x := i64w (by omega) (by omega)
    have e5 : IntKind.wrap IntKind.i64 (y * y - x * x % m * x) = y * y - x * x % m * x := i64w (by omega) (by omega)
    have e6 : IntKind.wrap IntKind.i64 (y * y - x * x % m * x - a * x) = y * y - x * x % m * x - a * x := i64w (by omega) (by omega)
    have b1 := Int.tmod_lt_of_pos (y * y - x * x % m * x - a * x) (show 0 < m by omega)
    have b2 : -m < Int.tmod (y * y - x * x % m * x - a * x) m := by
      have := Int.tmod_lt_of_pos (-(y * y - x * x % m * x - a * x)) (show 0 < m by omega)
      rw [Int.neg_tmod] at this
      omega
    have e7 : IntKind.wrap IntKind.i64 (Int.tmod (y * y - x * x % m * x - a * x) m + m) = Int.tmod (y * y - x * x % m * x - a * x) m + m := i64w (by omega) (by omega)
    simp only [e1, e0, e2, e3, e4, e5, e6, e7, tmod_fix _ m (show 0 < m by omega), curve_fix]
    have c1 : 0 ≤ curveI m a x y := Int.emod_nonneg _ (by omega)
    have c2 : curveI m a x y < m := Int.emod_lt_of_pos _ (by omega)
    exact ⟨by omega, by omega, by omega, ⟨by omega, by omega⟩, ⟨by omega, by omega⟩, ⟨by omega, by omega⟩, ⟨by first | exact True.intro | rfl, .inl (Nat.le_refl _)⟩, ⟨by first | exact True.intro | rfl, .inl (Nat.le_refl _)⟩, ⟨by first | exact True.intro | rfl, .inl (Nat.le_refl _)⟩, by first | exact True.intro | rfl⟩
  · simp at h
noncomputable def c_Curve : Ctr Try.prog := ⟨9, s_Curve, fun args w => Try.call9 args w, fn_ok mix Try.func9 s_Curve p_Curve⟩

theorem p_Right : Good Try.f33 s_Right := by
  intro ms p r h hp
  unfold s_Right at h
  split at h
  · rename_i A i B j M k x n
    simp only [Option.some.injEq, Prod.mk.injEq] at h
    obtain ⟨rfl, rfl⟩ := h
    obtain ⟨h1, h2, h3, h4, h5⟩ : i ≤ 200 ∧ j ≤ 200 ∧ k ≤ 200 ∧ n ≤ 200 ∧ 0 < M := hp
    refine ⟨env [c_rmul, c_radd, c_rmod] noAnn, ?_⟩
    rw [← vc_Right A B M x i j k n]
    exact ⟨by omega, by omega, by omega, by omega, by omega, ⟨by omega, by omega, by omega⟩, rfl, .inl (Nat.le_refl _)⟩
  · simp at h
noncomputable def c_Right : Ctr Try.prog := ⟨33, s_Right, fun args w => Try.call33 args w, fn_ok mix Try.func33 s_Right p_Right⟩

theorem p_Nons : Good Try.f10 s_Nons := by
  intro ms p r h hp
  unfold s_Nons at h
  split at h
  · rename_i A i B j M k
    simp only [Option.some.injEq, Prod.mk.injEq] at h
    obtain ⟨rfl, rfl⟩ := h
    obtain ⟨h1, h2, h3⟩ : i ≤ 200 ∧ j ≤ 200 ∧ k ≤ 200 := hp
    refine ⟨env [c_rof, c_rmul, c_radd, c_rgcd, c_rsame] noAnn, ?_⟩
    rw [← vc_Nons A B M i j k]
    refine ⟨by omega, by omega, by omega, by omega, by omega, by omega, by omega, by omega, by omega, by omega, by omega, ?_⟩
    unfold nonsB
    exact decide_eq_decide.2 (by omega)
  · simp at h
noncomputable def c_Nons : Ctr Try.prog := ⟨10, s_Nons, fun args w => Try.call10 args w, fn_ok mix Try.func10 s_Nons p_Nons⟩

theorem p_at : Good Try.f12 s_at := by
  intro ms p r h hp
  unfold s_at at h
  split at h
  · rename_i x y
    simp only [Option.some.injEq, Prod.mk.injEq] at h
    obtain ⟨rfl, rfl⟩ := h
    obtain ⟨h1, h2, h3, h4⟩ : -9223372036854775808 ≤ x ∧ x ≤ 9223372036854775807 ∧ -9223372036854775808 ≤ y ∧ y ≤ 9223372036854775807 := hp
    refine ⟨env [c_rof] noAnn, ?_⟩
    rw [← vc_at x y]
    exact ⟨⟨h1, h2⟩, ⟨h3, h4⟩, ⟨rfl, .inl (Nat.le_refl _)⟩, ⟨rfl, .inl (Nat.le_refl _)⟩, rfl, True.intro⟩
  · simp at h
noncomputable def c_at : Ctr Try.prog := ⟨12, s_at, fun args w => Try.call12 args w, fn_ok mix Try.func12 s_at p_at⟩

theorem p_ladd : Good Try.f13 s_ladd := by
  intro ms p r h hp
  unfold s_ladd at h
  split at h
  · rename_i A i B j M k px n py m po qx n' qy m' qo
    simp only [Option.some.injEq, Prod.mk.injEq] at h
    obtain ⟨rfl, rfl⟩ := h
    obtain ⟨h1, h2, h3, h4, h5, h6, h7⟩ : i ≤ 200 ∧ j ≤ 200 ∧ k ≤ 200 ∧ n ≤ 200 ∧ m ≤ 200 ∧ n' ≤ 200 ∧ m' ≤ 200 := hp
    refine ⟨env [c_Add] noAnn, ?_⟩
    rw [← vc_ladd A B M px py qx qy po qo i j k n m n' m']
    exact ⟨by omega, ⟨⟨rfl, .inl (Nat.le_refl _)⟩, ⟨rfl, .inl (Nat.le_refl _)⟩, rfl, True.intro⟩, ⟨rfl, .inl (Nat.le_refl _)⟩, rfl, True.intro⟩
  · simp at h
noncomputable def c_ladd : Ctr Try.prog := ⟨13, s_ladd, fun args w => Try.call13 args w, fn_ok mix Try.func13 s_ladd p_ladd⟩

theorem p_ltimes : Good Try.f18 s_ltimes := by
  intro ms p r h hp
  unfold s_ltimes at h
  split at h
  · rename_i A i B j M k z t px n py m po
    simp only [Option.some.injEq, Prod.mk.injEq] at h
    obtain ⟨rfl, rfl⟩ := h
    obtain ⟨h1, h2, h3, h4, h5, h6⟩ : t ≤ 100000 ∧ i ≤ 200 ∧ j ≤ 200 ∧ k ≤ 200 ∧ n ≤ 200 ∧ m ≤ 200 := hp
    refine ⟨env [c_Times] noAnn, ?_⟩
    rw [← vc_ltimes A B M z px py po t i j k n m]
    exact ⟨by omega, ⟨⟨rfl, .inl (Nat.le_refl _)⟩, ⟨rfl, .inl (Nat.le_refl _)⟩, rfl, True.intro⟩, ⟨rfl, .inl (Nat.le_refl _)⟩, rfl, True.intro⟩
  · simp at h
noncomputable def c_ltimes : Ctr Try.prog := ⟨18, s_ltimes, fun args w => Try.call18 args w, fn_ok mix Try.func18 s_ltimes p_ltimes⟩

end Go.Proofs.Ytceochfccebebaa

/-
  Contracts of functions: all points of a curve.
-/
namespace Go.Proofs.Ytceochfccebebaa
open Go Go.RowKit

abbrev Pt := Int × Int × Bool
def ptOf (p : Pt) : MV := ptM p.1 p.2.1 p.2.2 64 64
def ptF (l : List Pt) (i : Nat) : MV := ptOf (l.getD i (0, 0, true))
/-- The points of a column, below a height; all points left of a column. -/
def colPts (A B M x : Int) : Nat → List Pt
  | 0 => []
  | y + 1 => colPts A B M x y ++ cond (decide ((y : Int) * y % M = rightI A B M x)) [(x, (y : Int), false)] []
def rowPts (A B M : Int) : Nat → List Pt
  | 0 => [(0, 0, true)]
  | x + 1 => rowPts A B M x ++ colPts A B M x M.toNat
def ptsI (A B M : Int) : List Pt := rowPts A B M M.toNat

def ptsS1 (A B M : Int) (i j k : Nat) (x : Nat) : MS := ⟨48, [(1, .bp 0 0), (3, .int .i64 M), (5, .bs 1 0 (rowPts A B M x).length), (6, .int .i64 x)], [⟨false, .one (cvM A B M i j k)⟩, ⟨false, .rows 5 (rowPts A B M x).length (ptF (rowPts A B M x))⟩], 0⟩
def ptsS2 (A B M : Int) (i j k : Nat) (x : Int) (y : Nat) : MS := ⟨48, [(1, .bp 0 0), (3, .int .i64 M), (5, .bs 1 0 (rowPts A B M x.toNat ++ colPts A B M x y).length), (6, .int .i64 x), (7, .bp 2 0), (8, .int .i64 y)], [⟨false, .one (cvM A B M i j k)⟩, ⟨false, .rows 5 (rowPts A B M x.toNat ++ colPts A B M x y).length (ptF (rowPts A B M x.toNat ++ colPts A B M x y))⟩, ⟨false, .one (.big (rightI A B M x) k)⟩], 0⟩
def a_pts (A B M : Int) (i j k : Nat) : Nat → MS → Option LoopAnn
  | 4, _ => some (.inv Nat (fun x => x ≤ M.toNat) (ptsS1 A B M i j k) (fun x => M.toNat - x))
  | 8, s => (match look 6 s.tm with
    | .int _ x => some (.inv Nat (fun y => y ≤ M.toNat) (ptsS2 A B M i j k x) (fun y => M.toNat - y))
    | _ => none)
  | _, _ => none
def s_pts : FSpec
  | [.st [.big A i, .big B j, .big M k]] => some (some (i ≤ 200 ∧ j ≤ 200 ∧ k ≤ 200 ∧ 1 ≤ M ∧ M ≤ 1000), .ret (.sl 5 (ptsI A B M).length (ptF (ptsI A B M))))
  | _ => none
theorem vc_pts (A B M : Int) (i j k : Nat) : (Int.natAbs M < (9223372036854775808 : Nat) ∧ (∃ i_1, i_1 ≤ Int.toNat M ∧ ((0 : Nat) = (0 : Nat) ∧ M = M ∧ ((0 : Nat) = (0 : Nat) ∧ (1 : Nat) = List.length (rowPts A B M i_1)) ∧ (0 : Int) = (↑i_1 : Int) ∧ True) ∧ ((A = A ∧ (i ≤ i ∨ Int.natAbs A < (2 : Nat) ^ i)) ∧ (B = B ∧ (j ≤ j ∨ Int.natAbs B < (2 : Nat) ^ j)) ∧ (M = M ∧ (k ≤ k ∨ Int.natAbs M < (2 : Nat) ^ k)) ∧ True) ∧ ((1 : Nat) = List.length (rowPts A B M i_1) ∧ LeFun (1 : Nat) (rowOf [MV.st [MV.big (0 : Int) (0 : Nat), MV.big (0 : Int) (0 : Nat), MV.bool true]]) (ptF (rowPts A B M i_1))) ∧ True) ∧ ∀ (i_1 : Nat), i_1 ≤ Int.toNat M → bif decide ((↑i_1 : Int) < M) then ((-9223372036854775808 : Int) ≤ (↑i_1 : Int) ∧ (↑i_1 : Int) ≤ (9223372036854775807 : Int)) ∧ (i ≤ (200 : Nat) ∧ j ≤ (200 : Nat) ∧ k ≤ (200 : Nat) ∧ (64 : Nat) ≤ (200 : Nat) ∧ (0 : Int) < M) ∧ (∃ i_2, i_2 ≤ Int.toNat M ∧ ((0 : Nat) = (0 : Nat) ∧ M = M ∧ ((0 : Nat) = (0 : Nat) ∧ List.length (rowPts A B M i_1) = List.length (rowPts A B M (Int.toNat (↑i_1 : Int)) ++ colPts A B M (↑i_1 : Int) i_2)) ∧ (↑i_1 : Int) = (↑i_1 : Int) ∧ (0 : Nat) = (0 : Nat) ∧ (0 : Int) = (↑i_2 : Int) ∧ True) ∧ ((A = A ∧ (i ≤ i ∨ Int.natAbs A < (2 : Nat) ^ i)) ∧ (B = B ∧ (j ≤ j ∨ Int.natAbs B < (2 : Nat) ^ j)) ∧ (M = M ∧ (k ≤ k ∨ Int.natAbs M < (2 : Nat) ^ k)) ∧ True) ∧ (List.length (rowPts A B M i_1) = List.length (rowPts A B M (Int.toNat (↑i_1 : Int)) ++ colPts A B M (↑i_1 : Int) i_2) ∧ LeFun (List.length (rowPts A B M i_1)) (ptF (rowPts A B M i_1)) (ptF (rowPts A B M (Int.toNat (↑i_1 : Int)) ++ colPts A B M (↑i_1 : Int) i_2))) ∧ (rightI A B M (↑i_1 : Int) = rightI A B M (↑i_1 : Int) ∧ (k ≤ k ∨ Int.natAbs (rightI A B M (↑i_1 : Int)) < (2 : Nat) ^ k)) ∧ True) ∧ ∀ (i_2 : Nat), i_2 ≤ Int.toNat M → bif decide ((↑i_2 : Int) < M) then (M = (0 : Int) → False) ∧ ((-9223372036854775808 : Int) ≤ Int.tmod (IntKind.wrap IntKind.i64 ((↑i_2 : Int) * (↑i_2 : Int))) M ∧ Int.tmod (IntKind.wrap IntKind.i64 ((↑i_2 : Int) * (↑i_2 : Int))) M ≤ (9223372036854775807 : Int)) ∧ ((64 : Nat) ≤ (1000000 : Nat) ∧ k ≤ (1000000 : Nat)) ∧ bif decide (Int.tmod (IntKind.wrap IntKind.i64 ((↑i_2 : Int) * (↑i_2 : Int))) M = rightI A B M (↑i_1 : Int)) then ((-9223372036854775808 : Int) ≤ (↑i_1 : Int) ∧ (↑i_1 : Int) ≤ (9223372036854775807 : Int)) ∧ ((-9223372036854775808 : Int) ≤ (↑i_2 : Int) ∧ (↑i_2 : Int) ≤ (9223372036854775807 : Int)) ∧ ((1 : Nat) ≤ (1 : Nat) ∧ List.length (rowPts A B M (Int.toNat (↑i_1 : Int)) ++ colPts A B M (↑i_1 : Int) i_2) ≤ List.length (rowPts A B M (Int.toNat (↑i_1 : Int)) ++ colPts A B M (↑i_1 : Int) i_2) ∧ (List.length (rowPts A B M (Int.toNat (↑i_1 : Int)) ++ colPts A B M (↑i_1 : Int) i_2) + News.len (News.rows (5 : Nat) (1 : Nat) (rowOf [MV.st [MV.big (↑i_1 : Int) (64 : Nat), MV.big (↑i_2 : Int) (64 : Nat), MV.bool false]]))) * (72 : Nat) ≤ (140737488355328 : Nat)) ∧ ∃ j_1, j_1 ≤ Int.toNat M ∧ (((0 : Nat) = (0 : Nat) ∧ M = M ∧ ((0 : Nat) = (0 : Nat) ∧ List.length (rowPts A B M (Int.toNat (↑i_1 : Int)) ++ colPts A B M (↑i_1 : Int) i_2) + News.len (News.rows (5 : Nat) (1 : Nat) (rowOf [MV.st [MV.big (↑i_1 : Int) (64 : Nat), MV.big (↑i_2 : Int) (64 : Nat), MV.bool false]])) = List.length (rowPts A B M (Int.toNat (↑i_1 : Int)) ++ colPts A B M (↑i_1 : Int) j_1)) ∧ (↑i_1 : Int) = (↑i_1 : Int) ∧ (0 : Nat) = (0 : Nat) ∧ IntKind.wrap IntKind.i64 ((↑i_2 : Int) + (1 : Int)) = (↑j_1 : Int) ∧ True) ∧ ((A = A ∧ (i ≤ i ∨ Int.natAbs A < (2 : Nat) ^ i)) ∧ (B = B ∧ (j ≤ j ∨ Int.natAbs B < (2 : Nat) ^ j)) ∧ (M = M ∧ (k ≤ k ∨ Int.natAbs M < (2 : Nat) ^ k)) ∧ True) ∧ (List.length (rowPts A B M (Int.toNat (↑i_1 : Int)) ++ colPts A B M (↑i_1 : Int) i_2) + (1 : Nat) = List.length (rowPts A B M (Int.toNat (↑i_1 : Int)) ++ colPts A B M (↑i_1 : Int) j_1) ∧ LeFun (List.length (rowPts A B M (Int.toNat (↑i_1 : Int)) ++ colPts A B M (↑i_1 : Int) i_2) + (1 : Nat)) (fun q => bif Nat.blt q (List.length (rowPts A B M (Int.toNat (↑i_1 : Int)) ++ colPts A B M (↑i_1 : Int) i_2)) then ptF (rowPts A B M (Int.toNat (↑i_1 : Int)) ++ colPts A B M (↑i_1 : Int) i_2) q else rowOf [MV.st [MV.big (↑i_1 : Int) (64 : Nat), MV.big (↑i_2 : Int) (64 : Nat), MV.bool false]] (q - List.length (rowPts A B M (Int.toNat (↑i_1 : Int)) ++ colPts A B M (↑i_1 : Int) i_2))) (ptF (rowPts A B M (Int.toNat (↑i_1 : Int)) ++ colPts A B M (↑i_1 : Int) j_1))) ∧ (rightI A B M (↑i_1 : Int) = rightI A B M (↑i_1 : Int) ∧ (k ≤ k ∨ Int.natAbs (rightI A B M (↑i_1 : Int)) < (2 : Nat) ^ k)) ∧ True) ∧ Int.toNat M - j_1 < Int.toNat M - i_2 else ∃ j_1, j_1 ≤ Int.toNat M ∧ (((0 : Nat) = (0 : Nat) ∧ M = M ∧ ((0 : Nat) = (0 : Nat) ∧ List.length (rowPts A B M (Int.toNat (↑i_1 : Int)) ++ colPts A B M (↑i_1 : Int) i_2) = List.length (rowPts A B M (Int.toNat (↑i_1 : Int)) ++ colPts A B M (↑i_1 : Int) j_1)) ∧ (↑i_1 : Int) = (↑i_1 : Int) ∧ (0 : Nat) = (0 : Nat) ∧ IntKind.wrap IntKind.i64 ((↑i_2 : Int) + (1 : Int)) = (↑j_1 : Int) ∧ True) ∧ ((A = A ∧ (i ≤ i ∨ Int.natAbs A < (2 : Nat) ^ i)) ∧ (B = B ∧ (j ≤ j ∨ Int.natAbs B < (2 : Nat) ^ j)) ∧ (M = M ∧ (k ≤ k ∨ Int.natAbs M < (2 : Nat) ^ k)) ∧ True) ∧ (List.length (rowPts A B M (Int.toNat (↑i_1 : Int)) ++ colPts A B M (↑i_1 : Int) i_2) = List.length (rowPts A B M (Int.toNat (↑i_1 : Int)) ++ colPts A B M (↑i_1 : Int) j_1) ∧ LeFun (List.length (rowPts A B M (Int.toNat (↑i_1 : Int)) ++ colPts A B M (↑i_1 : Int) i_2)) (ptF (rowPts A B M (Int.toNat (↑i_1 : Int)) ++ colPts A B M (↑i_1 : Int) i_2)) (ptF (rowPts A B M (Int.toNat (↑i_1 : Int)) ++ colPts A B M (↑i_1 : Int) j_1))) ∧ (rightI A B M (↑i_1 : Int) = rightI A B M (↑i_1 : Int) ∧ (k ≤ k ∨ Int.natAbs (rightI A B M (↑i_1 : Int)) < (2 : Nat) ^ k)) ∧ True) ∧ Int.toNat M - j_1 < Int.toNat M - i_2 else ∃ j_1, j_1 ≤ Int.toNat M ∧ (((0 : Nat) = (0 : Nat) ∧ M = M ∧ ((0 : Nat) = (0 : Nat) ∧ List.length (rowPts A B M (Int.toNat (↑i_1 : Int)) ++ colPts A B M (↑i_1 : Int) i_2) = List.length (rowPts A B M j_1)) ∧ IntKind.wrap IntKind.i64 ((↑i_1 : Int) + (1 : Int)) = (↑j_1 : Int) ∧ True) ∧ ((A = A ∧ (i ≤ i ∨ Int.natAbs A < (2 : Nat) ^ i)) ∧ (B = B ∧ (j ≤ j ∨ Int.natAbs B < (2 : Nat) ^ j)) ∧ (M = M ∧ (k ≤ k ∨ Int.natAbs M < (2 : Nat) ^ k)) ∧ True) ∧ (List.length (rowPts A B M (Int.toNat (↑i_1 : Int)) ++ colPts A B M (↑i_1 : Int) i_2) = List.length (rowPts A B M j_1) ∧ LeFun (List.length (rowPts A B M (Int.toNat (↑i_1 : Int)) ++ colPts A B M (↑i_1 : Int) i_2)) (ptF (rowPts A B M (Int.toNat (↑i_1 : Int)) ++ colPts A B M (↑i_1 : Int) i_2)) (ptF (rowPts A B M j_1))) ∧ True) ∧ Int.toNat M - j_1 < Int.toNat M - i_1 else List.length (rowPts A B M i_1) ≤ List.length (rowPts A B M i_1) ∧ (5 : Nat) = (5 : Nat) ∧ List.length (rowPts A B M i_1) = List.length (ptsI A B M) ∧ LeFun (List.length (rowPts A B M i_1)) (ptF (rowPts A B M i_1)) (ptF (ptsI A B M))) = evFn (env [c_rlow, c_rof, c_Right, c_rsame] (a_pts A B M i j k)) Try.f11 [cvM A B M i j k] (MRes.sat (.ret (.sl 5 (ptsI A B M).length (ptF (ptsI A B M))))) := by kernel_rfl

theorem le_ptOf (p : Pt) : leMV 0 (ptOf p) (ptOf p) := ⟨⟨rfl, .inl (Nat.le_refl _)⟩, ⟨rfl, .inl (Nat.le_refl _)⟩, rfl, trivial⟩
theorem LeFun.same {len : Nat} {f f' : Nat → MV} (h : f = f') : LeFun len f f' := ⟨fun _ _ _ _ _ r => h ▸ r⟩

theorem colPts_len (A B M x : Int) : ∀ y : Nat, (colPts A B M x y).length ≤ y
  | 0 => Nat.le_refl _
  | y + 1 => by
    have := colPts_len A B M x y
    simp only [colPts, List.length_append]
    cases decide ((y : Int) * y % M = rightI A B M x) <;> simp <;> omega
theorem rowPts_len (A B M : Int) : ∀ x : Nat, (rowPts A B M x).length ≤ 1 + x * M.toNat
  | 0 => by simp [rowPts]
  | x + 1 => by
    have h1 := rowPts_len A B M x
    have h2 := colPts_len A B M x M.toNat
    simp only [rowPts, List.length_append]
    rw [Nat.add_mul]
    omega

theorem le_append (l : List Pt) (p : Pt) (m : MV) (hm : leMV 0 m (ptOf p)) : LeFun (l.length + 1) (fun q => bif Nat.blt q l.length then ptF l q else rowOf [m] (q - l.length)) (ptF (l ++ [p])) := by
  refine LeFun.of_le fun q hq => ?_
  show leMV 0 (bif Nat.blt q l.length then ptF l q else rowOf [m] (q - l.length)) (ptF (l ++ [p]) q)
  unfold ptF
  rw [List.getD_eq_getElem?_getD, List.getD_eq_getElem?_getD, List.getElem?_append]
  by_cases h : q < l.length
  · rw [if_pos h, show Nat.blt q l.length = true from blt_true h, cond_true]
    exact le_ptOf _
  · have e : q - l.length = 0 := by omega
    rw [if_neg h, show Nat.blt q l.length = false from blt_false (by omega), cond_false, e]
    exact hm

theorem p_pts : Good Try.f11 s_pts := by
  intro ms p r h hp
  unfold s_pts at h
  split at h
  · rename_i A i B j M k
    simp only [Option.some.injEq, Prod.mk.injEq] at h
    obtain ⟨rfl, rfl⟩ := h
    obtain ⟨h1, h2, h3, h4, h5⟩ : i ≤ 200 ∧ j ≤ 200 ∧ k ≤ 200 ∧ 1 ≤ M ∧ M ≤ 1000 := hp
    refine ⟨env [c_rlow, c_rof, c_Right, c_rsame] (a_pts A B M i j k), ?_⟩
    rw [← vc_pts A B M i j k]
    refine ⟨by omega, ⟨0, Nat.zero_le _, ?_⟩, fun x hx => ?_⟩
    · have hl : LeFun 1 (rowOf [MV.st [MV.big 0 0, MV.big 0 0, MV.bool true]]) (ptF (rowPts A B M 0)) := LeFun.of_le fun q hq => by
        have : q = 0 := by omega
        subst this
        exact ⟨⟨rfl, .inl (Nat.zero_le _)⟩, ⟨rfl, .inl (Nat.zero_le _)⟩, rfl, trivial⟩
      and_intros <;> first | exact True.intro | exact hl | rfl | exact .inl (Nat.le_refl _)
    · rw [Bool.cond_decide]
      split
      · rename_i hxM
        refine ⟨⟨by omega, by omega⟩, ⟨h1, h2, h3, by omega, by omega⟩, ⟨0, Nat.zero_le _, ?_⟩, fun y hy => ?_⟩
        · have e : rowPts A B M (Int.toNat x) ++ colPts A B M x 0 = rowPts A B M x := by simp [colPts]
          rw [e]
          have hl : LeFun (rowPts A B M x).length (ptF (rowPts A B M x)) (ptF (rowPts A B M x)) := LeFun.same rfl
          and_intros <;> first | exact True.intro | exact hl | rfl | exact .inl (Nat.le_refl _)
        · rw [Int.toNat_natCast]
          rw [Bool.cond_decide]
          have hL := rowPts_len A B M x
          have hC := colPts_len A B M x y
          have hxM2 : x * M.toNat ≤ 1000 * 1000 := Nat.mul_le_mul (by omega) (by omega)
          split
          · rename_i hyM
            have hyy : 0 ≤ (y : Int) * y ∧ (y : Int) * y ≤ 1000000 := ⟨Int.mul_nonneg (by omega) (by omega), Int.le_trans (Int.mul_le_mul (show (y : Int) ≤ 1000 by omega) (show (y : Int) ≤ 1000 by omega) (by omega) (by omega)) (by decide)⟩
            have e1 : IntKind.wrap IntKind.i64 ((y : Int) * y) = (y : Int) * y := i64w (by omega) (by omega)
            have e2 : Int.tmod ((y : Int) * y) M = (y : Int) * y % M := Int.tmod_eq_emod_of_nonneg hyy.1
            have e3 : IntKind.wrap IntKind.i64 ((y : Int) + 1) = ((y + 1 : Nat) : Int) := by rw [i64w (by omega) (by omega)]; omega
            have b1 : 0 ≤ (y : Int) * y % M := Int.emod_nonneg _ (by omega)
            have b2 : (y : Int) * y % M < M := Int.emod_lt_of_pos _ (by omega)
            rw [e1, e2, e3]
            refine ⟨by omega, ⟨by omega, by omega⟩, ⟨by omega, by omega⟩, ?_⟩
            cases hd : decide ((y : Int) * y % M = rightI A B M x) with
            | true =>
              rw [cond_true]
              have el : rowPts A B M x ++ colPts A B M x (y + 1) = (rowPts A B M x ++ colPts A B M x y) ++ [((x : Int), (y : Int), false)] := by
                simp only [colPts, hd, cond_true, List.append_assoc]
              have hn : News.len (News.rows 5 1 (rowOf [MV.st [MV.big (x : Int) 64, MV.big (y : Int) 64, MV.bool false]])) = 1 := rfl
              have hlen : (rowPts A B M x ++ colPts A B M x y).length ≤ 2000000 := by rw [List.length_append]; omega
              have hle := le_append (rowPts A B M x ++ colPts A B M x y) ((x : Int), (y : Int), false) (MV.st [MV.big (x : Int) 64, MV.big (y : Int) 64, MV.bool false]) (le_ptOf ((x : Int), (y : Int), false))
              have hlen2 : (rowPts A B M x ++ colPts A B M x y).length + 1 = (rowPts A B M x ++ colPts A B M x (y + 1)).length := by rw [el, List.length_append (bs := [_])]; rfl
              rw [← el] at hle
              rw [hn]
              refine ⟨⟨by omega, by omega⟩, ⟨by omega, by omega⟩, ⟨Nat.le_refl _, Nat.le_refl _, by omega⟩, y + 1, by omega, ?_, by omega⟩
              and_intros <;> first | exact True.intro | exact hle | exact hlen2 | rfl | exact .inl (Nat.le_refl _)
            | false =>
              rw [cond_false]
              have el : rowPts A B M x ++ colPts A B M x (y + 1) = rowPts A B M x ++ colPts A B M x y := by
                simp only [colPts, hd, cond_false, List.append_nil]
              have hl : LeFun (rowPts A B M x ++ colPts A B M x y).length (ptF (rowPts A B M x ++ colPts A B M x y)) (ptF (rowPts A B M x ++ colPts A B M x y)) := LeFun.same rfl
              refine ⟨y + 1, by omega, ?_, by omega⟩
              rw [el]
              and_intros <;> first | exact True.intro | exact hl | rfl | exact .inl (Nat.le_refl _)
          · rename_i hyM
            have ey : y = M.toNat := by omega
            subst ey
            have el : rowPts A B M (x + 1) = rowPts A B M x ++ colPts A B M x M.toNat := rfl
            have e3 : IntKind.wrap IntKind.i64 ((x : Int) + 1) = ((x + 1 : Nat) : Int) := by rw [i64w (by omega) (by omega)]; omega
            have hl : LeFun (rowPts A B M x ++ colPts A B M x M.toNat).length (ptF (rowPts A B M x ++ colPts A B M x M.toNat)) (ptF (rowPts A B M x ++ colPts A B M x M.toNat)) := LeFun.same rfl
            refine ⟨x + 1, by omega, ?_, by omega⟩
            rw [el]
            and_intros <;> first | exact True.intro | exact hl | exact e3 | rfl | exact .inl (Nat.le_refl _)
      · rename_i hxM
        have ex : x = M.toNat := by omega
        subst ex
        have hl : LeFun (ptsI A B M).length (ptF (ptsI A B M)) (ptF (ptsI A B M)) := LeFun.same rfl
        and_intros <;> first | exact True.intro | exact hl | rfl | exact .inl (Nat.le_refl _) | exact Nat.le_refl _
  · simp at h
def c_pts : Ctr Try.prog := ⟨11, s_pts, fun args w => Try.call11 args w, fn_ok mix Try.func11 s_pts p_pts⟩

end Go.Proofs.Ytceochfccebebaa

/-
  Contracts of functions: the examples, the curves and points of the laws, residues.
-/
namespace Go.Proofs.Ytceochfccebebaa
open Go Go.RowKit

/-- A description of a curve. -/
abbrev crvM (M A X Y Q : Int) : MV := .st [.int .u8 M, .int .u8 A, .int .u8 X, .int .u8 Y, .int .u16 Q]
def crvP (M A X Y Q : Int) : Prop := 0 ≤ M ∧ M ≤ 255 ∧ 0 ≤ A ∧ A ≤ 255 ∧ 0 ≤ X ∧ X ≤ 255 ∧ 0 ≤ Y ∧ Y ≤ 255 ∧ 0 ≤ Q ∧ Q ≤ 65535
/-- The modulus, the coefficient B, the point from the list. -/
def mdM (M : Int) : Int := 5 + 2 * (M % 128)
def mdB (m A X Y : Int) : Int := curveI m (A % m) (X % m) (Y % m)
def mdL (m A X Y : Int) : List Pt := ptsI (A % m) (mdB m A X Y) m
def mdP (m A X Y Q : Int) : Pt := (mdL m A X Y).getD (Q % (mdL m A X Y).length).toNat (0, 0, true)
def madeM (m A X Y Q : Int) : MV := .tup [cvM (A % m) (mdB m A X Y) m 64 64 64, ptM (X % m) (Y % m) false 64 64, ptOf (mdP m A X Y Q)]
def s_made : FSpec
  | [.st [.int .u8 M, .int .u8 A, .int .u8 X, .int .u8 Y, .int .u16 Q]] => some (some (crvP M A X Y Q), .ret (madeM (mdM M) A X Y Q))
  | _ => none
def mdBx (M A X Y Q : Int) : List Box := [⟨false, .one (crvM M A X Y Q)⟩, ⟨false, .one (cvM 0 0 0 0 0 0)⟩, ⟨false, .one (ptM 0 0 false 0 0)⟩, ⟨false, .one (ptM 0 0 false 0 0)⟩]
def mdS2 (M A X Y Q : Int) (m : Int) : MS := ⟨54, [(1, .bp 0 0), (2, .bp 1 0), (3, .bp 2 0), (4, .bp 3 0), (5, .int .i64 m)], mdBx M A X Y Q, 0⟩
def mdS4 (M A X Y Q : Int) (l : List Pt) : MS := ⟨54, [(1, .bp 0 0), (2, .bp 1 0), (3, .bp 2 0), (4, .bp 3 0), (5, .int .i64 (mdM M)), (6, .bp 4 0), (7, .sl 5 l.length (ptF l))], mdBx M A X Y Q ++ [⟨false, .one (cvM (A % mdM M) (mdB (mdM M) A X Y) (mdM M) 64 64 64)⟩], 0⟩
def mdCut (M A X Y Q : Int) : Nat → MS → Option CutAnn
  | 2, _ => some (.mk Int (fun m => m = mdM M) (mdS2 M A X Y Q))
  | 4, _ => some (.mk (List Pt) (fun l => l = mdL (mdM M) A X Y) (mdS4 M A X Y Q))
  | _, _ => none
def envC (Γ : List (Ctr Try.prog)) (ann : Nat → MS → Option LoopAnn) (cut : Nat → MS → Option CutAnn) : Env Try.prog := ⟨Γ, [], 29, ann, fun _ => [], cut⟩
theorem vc_made (M A X Y Q : Int) : ((((128 : Int) = (0 : Int) → False) ∧ ∃ i, i = mdM M ∧ ((0 : Nat) = (0 : Nat) ∧ (0 : Nat) = (0 : Nat) ∧ (0 : Nat) = (0 : Nat) ∧ (0 : Nat) = (0 : Nat) ∧ IntKind.wrap IntKind.i64 ((5 : Int) + IntKind.wrap IntKind.i64 ((2 : Int) * Int.tmod (IntKind.wrap IntKind.i64 M) (128 : Int))) = i ∧ True) ∧ (M = M ∧ A = A ∧ X = X ∧ Y = Y ∧ Q = Q ∧ True) ∧ (((0 : Int) = (0 : Int) ∧ ((0 : Nat) ≤ (0 : Nat) ∨ Int.natAbs (0 : Int) < (2 : Nat) ^ (0 : Nat))) ∧ ((0 : Int) = (0 : Int) ∧ ((0 : Nat) ≤ (0 : Nat) ∨ Int.natAbs (0 : Int) < (2 : Nat) ^ (0 : Nat))) ∧ ((0 : Int) = (0 : Int) ∧ ((0 : Nat) ≤ (0 : Nat) ∨ Int.natAbs (0 : Int) < (2 : Nat) ^ (0 : Nat))) ∧ True) ∧ (((0 : Int) = (0 : Int) ∧ ((0 : Nat) ≤ (0 : Nat) ∨ Int.natAbs (0 : Int) < (2 : Nat) ^ (0 : Nat))) ∧ ((0 : Int) = (0 : Int) ∧ ((0 : Nat) ≤ (0 : Nat) ∨ Int.natAbs (0 : Int) < (2 : Nat) ^ (0 : Nat))) ∧ false = false ∧ True) ∧ (((0 : Int) = (0 : Int) ∧ ((0 : Nat) ≤ (0 : Nat) ∨ Int.natAbs (0 : Int) < (2 : Nat) ^ (0 : Nat))) ∧ ((0 : Int) = (0 : Int) ∧ ((0 : Nat) ≤ (0 : Nat) ∨ Int.natAbs (0 : Int) < (2 : Nat) ^ (0 : Nat))) ∧ false = false ∧ True) ∧ True) ∧ ∀ (i : Int), i = mdM M → (i = (0 : Int) → False) ∧ (i = (0 : Int) → False) ∧ (i = (0 : Int) → False) ∧ ((1 : Int) ≤ i ∧ i ≤ (100000 : Int) ∧ (0 : Int) ≤ Int.tmod (IntKind.wrap IntKind.i64 A) i ∧ Int.tmod (IntKind.wrap IntKind.i64 A) i ≤ (100000 : Int) ∧ (0 : Int) ≤ Int.tmod (IntKind.wrap IntKind.i64 X) i ∧ Int.tmod (IntKind.wrap IntKind.i64 X) i ≤ (100000 : Int) ∧ (0 : Int) ≤ Int.tmod (IntKind.wrap IntKind.i64 Y) i ∧ Int.tmod (IntKind.wrap IntKind.i64 Y) i ≤ (100000 : Int)) ∧ (((64 : Nat) ≤ (200 : Nat) ∧ (64 : Nat) ≤ (200 : Nat) ∧ (64 : Nat) ≤ (200 : Nat) ∧ (1 : Int) ≤ i ∧ i ≤ (1000 : Int)) ∧ ∃ i_1, i_1 = mdL (mdM M) A X Y ∧ ((0 : Nat) = (0 : Nat) ∧ (0 : Nat) = (0 : Nat) ∧ (0 : Nat) = (0 : Nat) ∧ (0 : Nat) = (0 : Nat) ∧ i = mdM M ∧ (0 : Nat) = (0 : Nat) ∧ ((5 : Nat) = (5 : Nat) ∧ List.length (ptsI (Int.tmod (IntKind.wrap IntKind.i64 A) i) (curveI i (Int.tmod (IntKind.wrap IntKind.i64 A) i) (Int.tmod (IntKind.wrap IntKind.i64 X) i) (Int.tmod (IntKind.wrap IntKind.i64 Y) i)) i) = List.length i_1 ∧ LeFun (List.length (ptsI (Int.tmod (IntKind.wrap IntKind.i64 A) i) (curveI i (Int.tmod (IntKind.wrap IntKind.i64 A) i) (Int.tmod (IntKind.wrap IntKind.i64 X) i) (Int.tmod (IntKind.wrap IntKind.i64 Y) i)) i)) (ptF (ptsI (Int.tmod (IntKind.wrap IntKind.i64 A) i) (curveI i (Int.tmod (IntKind.wrap IntKind.i64 A) i) (Int.tmod (IntKind.wrap IntKind.i64 X) i) (Int.tmod (IntKind.wrap IntKind.i64 Y) i)) i)) (ptF i_1)) ∧ True) ∧ (M = M ∧ A = A ∧ X = X ∧ Y = Y ∧ Q = Q ∧ True) ∧ (((0 : Int) = (0 : Int) ∧ ((0 : Nat) ≤ (0 : Nat) ∨ Int.natAbs (0 : Int) < (2 : Nat) ^ (0 : Nat))) ∧ ((0 : Int) = (0 : Int) ∧ ((0 : Nat) ≤ (0 : Nat) ∨ Int.natAbs (0 : Int) < (2 : Nat) ^ (0 : Nat))) ∧ ((0 : Int) = (0 : Int) ∧ ((0 : Nat) ≤ (0 : Nat) ∨ Int.natAbs (0 : Int) < (2 : Nat) ^ (0 : Nat))) ∧ True) ∧ (((0 : Int) = (0 : Int) ∧ ((0 : Nat) ≤ (0 : Nat) ∨ Int.natAbs (0 : Int) < (2 : Nat) ^ (0 : Nat))) ∧ ((0 : Int) = (0 : Int) ∧ ((0 : Nat) ≤ (0 : Nat) ∨ Int.natAbs (0 : Int) < (2 : Nat) ^ (0 : Nat))) ∧ false = false ∧ True) ∧ (((0 : Int) = (0 : Int) ∧ ((0 : Nat) ≤ (0 : Nat) ∨ Int.natAbs (0 : Int) < (2 : Nat) ^ (0 : Nat))) ∧ ((0 : Int) = (0 : Int) ∧ ((0 : Nat) ≤ (0 : Nat) ∨ Int.natAbs (0 : Int) < (2 : Nat) ^ (0 : Nat))) ∧ false = false ∧ True) ∧ ((Int.tmod (IntKind.wrap IntKind.i64 A) i = A % mdM M ∧ ((64 : Nat) ≤ (64 : Nat) ∨ Int.natAbs (Int.tmod (IntKind.wrap IntKind.i64 A) i) < (2 : Nat) ^ (64 : Nat))) ∧ (curveI i (Int.tmod (IntKind.wrap IntKind.i64 A) i) (Int.tmod (IntKind.wrap IntKind.i64 X) i) (Int.tmod (IntKind.wrap IntKind.i64 Y) i) = mdB (mdM M) A X Y ∧ ((64 : Nat) ≤ (64 : Nat) ∨ Int.natAbs (curveI i (Int.tmod (IntKind.wrap IntKind.i64 A) i) (Int.tmod (IntKind.wrap IntKind.i64 X) i) (Int.tmod (IntKind.wrap IntKind.i64 Y) i)) < (2 : Nat) ^ (64 : Nat))) ∧ (i = mdM M ∧ ((64 : Nat) ≤ (64 : Nat) ∨ Int.natAbs i < (2 : Nat) ^ (64 : Nat))) ∧ True) ∧ True) ∧ ∀ (i : List Pt), i = mdL (mdM M) A X Y → (mdM M = (0 : Int) → False) ∧ (mdM M = (0 : Int) → False) ∧ ((-9223372036854775808 : Int) ≤ Int.tmod (IntKind.wrap IntKind.i64 X) (mdM M) ∧ Int.tmod (IntKind.wrap IntKind.i64 X) (mdM M) ≤ (9223372036854775807 : Int) ∧ (-9223372036854775808 : Int) ≤ Int.tmod (IntKind.wrap IntKind.i64 Y) (mdM M) ∧ Int.tmod (IntKind.wrap IntKind.i64 Y) (mdM M) ≤ (9223372036854775807 : Int)) ∧ ((↑(List.length i) : Int) = (0 : Int) → False) ∧ ((0 : Int) ≤ Int.tmod (IntKind.wrap IntKind.i64 Q) (↑(List.length i) : Int) ∧ Int.tmod (IntKind.wrap IntKind.i64 Q) (↑(List.length i) : Int) < (↑(List.length i) : Int)) ∧ ((A % mdM M = A % mdM M ∧ ((64 : Nat) ≤ (64 : Nat) ∨ Int.natAbs (A % mdM M) < (2 : Nat) ^ (64 : Nat))) ∧ (mdB (mdM M) A X Y = mdB (mdM M) A X Y ∧ ((64 : Nat) ≤ (64 : Nat) ∨ Int.natAbs (mdB (mdM M) A X Y) < (2 : Nat) ^ (64 : Nat))) ∧ (mdM M = mdM M ∧ ((64 : Nat) ≤ (64 : Nat) ∨ Int.natAbs (mdM M) < (2 : Nat) ^ (64 : Nat))) ∧ True) ∧ ((Int.tmod (IntKind.wrap IntKind.i64 X) (mdM M) = X % mdM M ∧ ((64 : Nat) ≤ (64 : Nat) ∨ Int.natAbs (Int.tmod (IntKind.wrap IntKind.i64 X) (mdM M)) < (2 : Nat) ^ (64 : Nat))) ∧ (Int.tmod (IntKind.wrap IntKind.i64 Y) (mdM M) = Y % mdM M ∧ ((64 : Nat) ≤ (64 : Nat) ∨ Int.natAbs (Int.tmod (IntKind.wrap IntKind.i64 Y) (mdM M)) < (2 : Nat) ^ (64 : Nat))) ∧ false = false ∧ True) ∧ ((Prod.fst (List.getD i (Int.toNat (Int.tmod (IntKind.wrap IntKind.i64 Q) (↑(List.length i) : Int))) ((0 : Int), (0 : Int), true)) = Prod.fst (mdP (mdM M) A X Y Q) ∧ ((64 : Nat) ≤ (64 : Nat) ∨ Int.natAbs (Prod.fst (List.getD i (Int.toNat (Int.tmod (IntKind.wrap IntKind.i64 Q) (↑(List.length i) : Int))) ((0 : Int), (0 : Int), true))) < (2 : Nat) ^ (64 : Nat))) ∧ (Prod.fst (Prod.snd (List.getD i (Int.toNat (Int.tmod (IntKind.wrap IntKind.i64 Q) (↑(List.length i) : Int))) ((0 : Int), (0 : Int), true))) = Prod.fst (Prod.snd (mdP (mdM M) A X Y Q)) ∧ ((64 : Nat) ≤ (64 : Nat) ∨ Int.natAbs (Prod.fst (Prod.snd (List.getD i (Int.toNat (Int.tmod (IntKind.wrap IntKind.i64 Q) (↑(List.length i) : Int))) ((0 : Int), (0 : Int), true)))) < (2 : Nat) ^ (64 : Nat))) ∧ Prod.snd (Prod.snd (List.getD i (Int.toNat (Int.tmod (IntKind.wrap IntKind.i64 Q) (↑(List.length i) : Int))) ((0 : Int), (0 : Int), true))) = Prod.snd (Prod.snd (mdP (mdM M) A X Y Q)) ∧ True) ∧ True) = evFn (envC [c_Curve, c_pts, c_at] noAnn (mdCut M A X Y Q)) Try.f21 [crvM M A X Y Q] (MRes.sat (.ret (madeM (mdM M) A X Y Q))) := by kernel_rfl

def s_low : FSpec
  | [.st [.big A i, .big B j, .big _ k], .st [.big X n, .big Y m, .bool o], .big q t] => some (some (i ≤ 200 ∧ j ≤ 200 ∧ k ≤ 200 ∧ n ≤ 200 ∧ m ≤ 200 ∧ t ≤ 200 ∧ 0 < q), .ret (.tup [cvM (A % q) (B % q) q 200 200 200, ptM (X % q) (Y % q) o 200 200, .bool true]))
  | _ => none
theorem vc_low (A B M X Y q : Int) (o : Bool) (i j k n m t : Nat) : ((i ≤ (900000 : Nat) ∧ t ≤ (900000 : Nat) ∧ (0 : Int) < q) ∧ (j ≤ (900000 : Nat) ∧ t ≤ (900000 : Nat) ∧ (0 : Int) < q) ∧ (n ≤ (900000 : Nat) ∧ t ≤ (900000 : Nat) ∧ (0 : Int) < q) ∧ (m ≤ (900000 : Nat) ∧ t ≤ (900000 : Nat) ∧ (0 : Int) < q) ∧ ((A % q = A % q ∧ (t ≤ (200 : Nat) ∨ Int.natAbs (A % q) < (2 : Nat) ^ (200 : Nat))) ∧ (B % q = B % q ∧ (t ≤ (200 : Nat) ∨ Int.natAbs (B % q) < (2 : Nat) ^ (200 : Nat))) ∧ (q = q ∧ (t ≤ (200 : Nat) ∨ Int.natAbs q < (2 : Nat) ^ (200 : Nat))) ∧ True) ∧ ((X % q = X % q ∧ (t ≤ (200 : Nat) ∨ Int.natAbs (X % q) < (2 : Nat) ^ (200 : Nat))) ∧ (Y % q = Y % q ∧ (t ≤ (200 : Nat) ∨ Int.natAbs (Y % q) < (2 : Nat) ^ (200 : Nat))) ∧ o = o ∧ True) ∧ ((0 : Int) == (0 : Int)) = true ∧ True) = evFn (env [c_mMod] noAnn) Try.f26 [cvM A B M i j k, ptM X Y o n m, .big q t] (MRes.sat (.ret (.tup [cvM (A % q) (B % q) q 200 200 200, ptM (X % q) (Y % q) o 200 200, .bool true]))) := by kernel_rfl

theorem vc_ex  : (((-9223372036854775808 : Int) ≤ (1 : Int) ∧ (1 : Int) ≤ (9223372036854775807 : Int)) ∧ ((-9223372036854775808 : Int) ≤ (1 : Int) ∧ (1 : Int) ≤ (9223372036854775807 : Int)) ∧ ((-9223372036854775808 : Int) ≤ (5 : Int) ∧ (5 : Int) ≤ (9223372036854775807 : Int)) ∧ ((-9223372036854775808 : Int) ≤ (1 : Int) ∧ (1 : Int) ≤ (9223372036854775807 : Int)) ∧ ((-9223372036854775808 : Int) ≤ (1 : Int) ∧ (1 : Int) ≤ (9223372036854775807 : Int)) ∧ ((-9223372036854775808 : Int) ≤ (35 : Int) ∧ (35 : Int) ≤ (9223372036854775807 : Int)) ∧ ((-9223372036854775808 : Int) ≤ (0 : Int) ∧ (0 : Int) ≤ (9223372036854775807 : Int) ∧ (-9223372036854775808 : Int) ≤ (1 : Int) ∧ (1 : Int) ≤ (9223372036854775807 : Int)) ∧ ((64 : Nat) ≤ (200 : Nat) ∧ (64 : Nat) ≤ (200 : Nat) ∧ (64 : Nat) ≤ (200 : Nat) ∧ (64 : Nat) ≤ (200 : Nat) ∧ (64 : Nat) ≤ (200 : Nat) ∧ (64 : Nat) ≤ (200 : Nat) ∧ (64 : Nat) ≤ (200 : Nat)) ∧ ((-9223372036854775808 : Int) ≤ (3 : Int) ∧ (3 : Int) ≤ (9223372036854775807 : Int)) ∧ ((64 : Nat) ≤ (100000 : Nat) ∧ (64 : Nat) ≤ (200 : Nat) ∧ (64 : Nat) ≤ (200 : Nat) ∧ (64 : Nat) ≤ (200 : Nat) ∧ (64 : Nat) ≤ (200 : Nat) ∧ (64 : Nat) ≤ (200 : Nat)) ∧ ((-9223372036854775808 : Int) ≤ (9 : Int) ∧ (9 : Int) ≤ (9223372036854775807 : Int)) ∧ ((64 : Nat) ≤ (100000 : Nat) ∧ (64 : Nat) ≤ (200 : Nat) ∧ (64 : Nat) ≤ (200 : Nat) ∧ (64 : Nat) ≤ (200 : Nat) ∧ (64 : Nat) ≤ (200 : Nat) ∧ (64 : Nat) ≤ (200 : Nat)) ∧ ((-9223372036854775808 : Int) ≤ (7 : Int) ∧ (7 : Int) ≤ (9223372036854775807 : Int) ∧ (-9223372036854775808 : Int) ≤ (6 : Int) ∧ (6 : Int) ≤ (9223372036854775807 : Int)) ∧ ((64 : Nat) ≤ (200 : Nat) ∧ (64 : Nat) ≤ (200 : Nat) ∧ (64 : Nat) ≤ (200 : Nat) ∧ (64 : Nat) ≤ (200 : Nat) ∧ (64 : Nat) ≤ (200 : Nat) ∧ (64 : Nat) ≤ (200 : Nat) ∧ (64 : Nat) ≤ (200 : Nat)) ∧ ((-9223372036854775808 : Int) ≤ (1 : Int) ∧ (1 : Int) ≤ (9223372036854775807 : Int) ∧ (-9223372036854775808 : Int) ≤ (1 : Int) ∧ (1 : Int) ≤ (9223372036854775807 : Int)) ∧ ((64 : Nat) ≤ (200 : Nat) ∧ (64 : Nat) ≤ (200 : Nat) ∧ (64 : Nat) ≤ (200 : Nat) ∧ (64 : Nat) ≤ (200 : Nat) ∧ (64 : Nat) ≤ (200 : Nat) ∧ (64 : Nat) ≤ (200 : Nat) ∧ (64 : Nat) ≤ (200 : Nat)) ∧ ((64 : Nat) ≤ (200 : Nat) ∧ (64 : Nat) ≤ (200 : Nat) ∧ (64 : Nat) ≤ (200 : Nat) ∧ (64 : Nat) ≤ (200 : Nat) ∧ (64 : Nat) ≤ (200 : Nat)) ∧ bif (bif TR.ok (mulT (1 : Int) (5 : Int) (TR.pt (0 : Int) (bif decide ((3 : Int) < (0 : Int)) then negY (5 : Int) (1 : Int) false else (1 : Int)) false) (Int.natAbs (3 : Int))) then (0 : Int) else (6 : Int)) != (0 : Int) then false = true else bif (bif TR.ok (mulT (1 : Int) (5 : Int) (TR.pt (0 : Int) (bif decide ((9 : Int) < (0 : Int)) then negY (5 : Int) (1 : Int) false else (1 : Int)) false) (Int.natAbs (9 : Int))) then (0 : Int) else (6 : Int)) != (0 : Int) then false = true else ((-9223372036854775808 : Int) ≤ (4 : Int) ∧ (4 : Int) ≤ (9223372036854775807 : Int) ∧ (-9223372036854775808 : Int) ≤ (2 : Int) ∧ (2 : Int) ≤ (9223372036854775807 : Int)) ∧ ((200 : Nat) ≤ (1000 : Nat) ∧ (200 : Nat) ≤ (1000 : Nat) ∧ (64 : Nat) ≤ (1000 : Nat) ∧ (64 : Nat) ≤ (1000 : Nat)) ∧ bif sameB (TR.X (addT (1 : Int) (5 : Int) (0 : Int) (1 : Int) false (0 : Int) (1 : Int) false)) (TR.Y (addT (1 : Int) (5 : Int) (0 : Int) (1 : Int) false (0 : Int) (1 : Int) false)) (TR.o (addT (1 : Int) (5 : Int) (0 : Int) (1 : Int) false (0 : Int) (1 : Int) false)) (4 : Int) (2 : Int) false then ((-9223372036854775808 : Int) ≤ (2 : Int) ∧ (2 : Int) ≤ (9223372036854775807 : Int) ∧ (-9223372036854775808 : Int) ≤ (1 : Int) ∧ (1 : Int) ≤ (9223372036854775807 : Int)) ∧ ((200 : Nat) ≤ (1000 : Nat) ∧ (200 : Nat) ≤ (1000 : Nat) ∧ (64 : Nat) ≤ (1000 : Nat) ∧ (64 : Nat) ≤ (1000 : Nat)) ∧ bif sameB (TR.X (mulT (1 : Int) (5 : Int) (TR.pt (0 : Int) (bif decide ((3 : Int) < (0 : Int)) then negY (5 : Int) (1 : Int) false else (1 : Int)) false) (Int.natAbs (3 : Int)))) (TR.Y (mulT (1 : Int) (5 : Int) (TR.pt (0 : Int) (bif decide ((3 : Int) < (0 : Int)) then negY (5 : Int) (1 : Int) false else (1 : Int)) false) (Int.natAbs (3 : Int)))) (TR.o (mulT (1 : Int) (5 : Int) (TR.pt (0 : Int) (bif decide ((3 : Int) < (0 : Int)) then negY (5 : Int) (1 : Int) false else (1 : Int)) false) (Int.natAbs (3 : Int)))) (2 : Int) (1 : Int) false then bif TR.o (mulT (1 : Int) (5 : Int) (TR.pt (0 : Int) (bif decide ((9 : Int) < (0 : Int)) then negY (5 : Int) (1 : Int) false else (1 : Int)) false) (Int.natAbs (9 : Int))) then ((-9223372036854775808 : Int) ≤ (7 : Int) ∧ (7 : Int) ≤ (9223372036854775807 : Int)) ∧ ((200 : Nat) ≤ (1000000 : Nat) ∧ (64 : Nat) ≤ (1000000 : Nat)) ∧ ((-9223372036854775808 : Int) ≤ (0 : Int) ∧ (0 : Int) ≤ (9223372036854775807 : Int) ∧ (-9223372036854775808 : Int) ≤ (4 : Int) ∧ (4 : Int) ≤ (9223372036854775807 : Int)) ∧ ((200 : Nat) ≤ (1000 : Nat) ∧ (200 : Nat) ≤ (1000 : Nat) ∧ (64 : Nat) ≤ (1000 : Nat) ∧ (64 : Nat) ≤ (1000 : Nat)) ∧ ((64 : Nat) ≤ (1000 : Nat) ∧ (64 : Nat) ≤ (1000 : Nat) ∧ (64 : Nat) ≤ (1000 : Nat) ∧ (64 : Nat) ≤ (1000 : Nat) ∧ (64 : Nat) ≤ (1000 : Nat)) ∧ ((-9223372036854775808 : Int) ≤ (1 : Int) ∧ (1 : Int) ≤ (9223372036854775807 : Int) ∧ (-9223372036854775808 : Int) ≤ (1 : Int) ∧ (1 : Int) ≤ (9223372036854775807 : Int)) ∧ ((64 : Nat) ≤ (1000 : Nat) ∧ (64 : Nat) ≤ (1000 : Nat) ∧ (64 : Nat) ≤ (1000 : Nat) ∧ (64 : Nat) ≤ (1000 : Nat) ∧ (64 : Nat) ≤ (1000 : Nat)) ∧ (!onB (1 : Int) (1 : Int) (5 : Int) (1 : Int) (1 : Int) false) = true else false = true else false = true else false = true) = evFn (env [c_rof, c_at, c_ladd, c_ltimes, c_Neg, c_R6same, c_rsame, c_pon] noAnn) Try.f7 [] (MRes.sat (.ret (.bool true))) := by kernel_rfl

theorem mdM_b {M : Int} (_ : 0 ≤ M) : 5 ≤ mdM M ∧ mdM M ≤ 259 := by unfold mdM; omega
theorem rowPts_pos (A B M : Int) : ∀ x : Nat, 0 < (rowPts A B M x).length
  | 0 => by simp [rowPts]
  | x + 1 => by
    have := rowPts_pos A B M x
    simp only [rowPts, List.length_append]
    omega

theorem p_made : Good Try.f21 s_made := by
  intro ms p r h hp
  unfold s_made at h
  split at h
  · rename_i M A X Y Q
    simp only [Option.some.injEq, Prod.mk.injEq] at h
    obtain ⟨rfl, rfl⟩ := h
    obtain ⟨h1, h2, h3, h4, h5, h6, h7, h8, h9, h10⟩ : crvP M A X Y Q := hp
    refine ⟨envC [c_Curve, c_pts, c_at] noAnn (mdCut M A X Y Q), ?_⟩
    rw [← vc_made M A X Y Q]
    have eM0 : IntKind.wrap IntKind.i64 M = M := i64w (by omega) (by omega)
    have eA : IntKind.wrap IntKind.i64 A = A := i64w (by omega) (by omega)
    have eX : IntKind.wrap IntKind.i64 X = X := i64w (by omega) (by omega)
    have eY : IntKind.wrap IntKind.i64 Y = Y := i64w (by omega) (by omega)
    have eQ : IntKind.wrap IntKind.i64 Q = Q := i64w (by omega) (by omega)
    have eT : Int.tmod M 128 = M % 128 := Int.tmod_eq_emod_of_nonneg h1
    have eM : IntKind.wrap IntKind.i64 (5 + IntKind.wrap IntKind.i64 (2 * Int.tmod (IntKind.wrap IntKind.i64 M) 128)) = mdM M := by
      rw [eM0, eT, i64w (x := 2 * (M % 128)) (by omega) (by omega), i64w (by omega) (by omega)]; rfl
    have hm := mdM_b (M := M) h1
    rw [eM]
    generalize hmm : mdM M = m at hm ⊢
    have tA : Int.tmod A m = A % m := Int.tmod_eq_emod_of_nonneg h3
    have tX : Int.tmod X m = X % m := Int.tmod_eq_emod_of_nonneg h5
    have tY : Int.tmod Y m = Y % m := Int.tmod_eq_emod_of_nonneg h7
    have bA : 0 ≤ A % m ∧ A % m < m := ⟨Int.emod_nonneg _ (by omega), Int.emod_lt_of_pos _ (by omega)⟩
    have bX : 0 ≤ X % m ∧ X % m < m := ⟨Int.emod_nonneg _ (by omega), Int.emod_lt_of_pos _ (by omega)⟩
    have bY : 0 ≤ Y % m ∧ Y % m < m := ⟨Int.emod_nonneg _ (by omega), Int.emod_lt_of_pos _ (by omega)⟩
    refine ⟨⟨by omega, m, rfl, ?_⟩, ?_⟩
    · and_intros <;> first | exact True.intro | rfl | exact .inl (Nat.le_refl _)
    rintro i rfl
    rw [eA, eX, eY, tA, tX, tY]
    refine ⟨by omega, by omega, by omega, ⟨by omega, by omega, by omega, by omega, by omega, by omega, by omega, by omega⟩, ?_⟩
    refine ⟨⟨⟨by omega, by omega, by omega, by omega, by omega⟩, mdL i A X Y, rfl, ?_⟩, ?_⟩
    · have hl : LeFun (ptsI (A % i) (curveI i (A % i) (X % i) (Y % i)) i).length (ptF (ptsI (A % i) (curveI i (A % i) (X % i) (Y % i)) i)) (ptF (mdL i A X Y)) := LeFun.same rfl
      and_intros <;> first | exact True.intro | exact hl | rfl | exact .inl (Nat.le_refl _)
    · rintro l hl
      have hpos : 0 < l.length := by rw [hl]; exact rowPts_pos _ _ _ _
      have tQ : Int.tmod Q (l.length : Int) = Q % l.length := Int.tmod_eq_emod_of_nonneg h9
      have bQ : 0 ≤ Q % (l.length : Int) ∧ Q % (l.length : Int) < l.length := ⟨Int.emod_nonneg _ (by omega), Int.emod_lt_of_pos _ (by omega)⟩
      have eP : l.getD (Int.toNat (Q % (l.length : Int))) (0, 0, true) = mdP i A X Y Q := by rw [hl]; rfl
      rw [eQ, tQ, eP]
      refine ⟨by omega, by omega, ⟨by omega, by omega, by omega, by omega⟩, by omega, bQ, ?_⟩
      and_intros <;> first | exact True.intro | rfl | exact .inl (Nat.le_refl _)
  · simp at h
def c_made : Ctr Try.prog := ⟨21, s_made, fun args w => Try.call21 args w, fn_ok mix Try.func21 s_made p_made⟩

theorem p_low : Good Try.f26 s_low := by
  intro ms p r h hp
  unfold s_low at h
  split at h
  · rename_i A i B j M k X n Y m o q t
    simp only [Option.some.injEq, Prod.mk.injEq] at h
    obtain ⟨rfl, rfl⟩ := h
    obtain ⟨h1, h2, h3, h4, h5, h6, h7⟩ : i ≤ 200 ∧ j ≤ 200 ∧ k ≤ 200 ∧ n ≤ 200 ∧ m ≤ 200 ∧ t ≤ 200 ∧ 0 < q := hp
    refine ⟨env [c_mMod] noAnn, ?_⟩
    rw [← vc_low A B M X Y q o i j k n m t]
    refine ⟨by omega, by omega, by omega, by omega, ?_⟩
    and_intros <;> first | exact True.intro | exact .inl h6 | rfl
  · simp at h
def c_low : Ctr Try.prog := ⟨26, s_low, fun args w => Try.call26 args w, fn_ok mix Try.func26 s_low p_low⟩

/-! ### The examples -/
theorem minv_eq {a M v : Int} (hM : 1 < M) (hg : Int.gcd a M = 1) (h0 : 0 ≤ v) (h1 : v < M) (hd : v * a % M = 1) : minv a M = v := by
  obtain ⟨q1, q2, q3⟩ := minv_spec (a := a) (b := M) (by omega) hg
  have hv : M ∣ v * a - 1 := by
    have := Int.emod_emod_of_dvd (v * a) (Int.dvd_refl M)
    refine Int.dvd_of_emod_eq_zero ?_
    rw [Int.sub_emod, hd, Int.emod_eq_of_lt (a := 1) (by omega) hM]; simp
  have hs : M ∣ (minv a M - v) * a := by
    have := Int.dvd_sub q3 hv
    rwa [show minv a M * a - 1 - (v * a - 1) = (minv a M - v) * a by rw [Int.sub_mul]; omega] at this
  have hg' : Int.gcd M a = 1 := by rw [Int.gcd_comm]; exact hg
  have hdv : M ∣ minv a M - v := dvd_of_coprime hg' (by rwa [Int.mul_comm] at hs)
  obtain ⟨c, hc⟩ := hdv
  have : c = 0 := by
    rcases Int.lt_trichotomy c 0 with h | h | h
    · have : M * c ≤ M * (-1) := Int.mul_le_mul_of_nonneg_left (by omega) (by omega)
      omega
    · exact h
    · have : M * 1 ≤ M * c := Int.mul_le_mul_of_nonneg_left (by omega) (by omega)
      omega
  subst this
  omega

theorem addT_val {A M px py qx qy : Int} (D v s X Y : Int) (hM : 1 < M) (ho : oppB M px py qx qy = false) (hD : slD px py qx qy = D) (hg : Int.gcd D M = 1) (h0 : 0 ≤ v) (h1 : v < M) (hd : v * D % M = 1)
    (hs : slN A px py qx qy * v % M = s) (hX : (s * s - (px + qx)) % M = X) (hY : (s * (px - X) - py) % M = Y) : addT A M px py false qx qy false = .pt X Y false := by
  have hsl : slope A M px py qx qy = s := by unfold slope; rw [hD, minv_eq hM hg h0 h1 hd]; exact hs
  have hx : sumX A M px py qx qy = X := by unfold sumX; rw [hsl]; exact hX
  have hy : sumY A M px py qx qy = Y := by unfold sumY; rw [hsl, hx]; exact hY
  unfold addT
  rw [cond_false, cond_false, ho, cond_false, hD, decide_eq_true hg, cond_true, hx, hy]

theorem ex_two : addT 1 5 0 1 false 0 1 false = .pt 4 2 false := addT_val 2 3 3 4 2 (by decide) (by decide) (by decide) (by decide) (by decide) (by decide) (by decide) (by decide) (by decide) (by decide)
theorem ex_four : addT 1 5 4 2 false 4 2 false = .pt 3 4 false := addT_val 4 4 1 3 4 (by decide) (by decide) (by decide) (by decide) (by decide) (by decide) (by decide) (by decide) (by decide) (by decide)
theorem ex_eight : addT 1 5 3 4 false 3 4 false = .pt 0 4 false := addT_val 8 2 1 0 4 (by decide) (by decide) (by decide) (by decide) (by decide) (by decide) (by decide) (by decide) (by decide) (by decide)
theorem ex_nine : addT 1 5 0 4 false 0 1 false = .pt 0 0 true := rfl
theorem ex_three : addT 1 5 4 2 false 0 1 false = .pt 2 1 false := addT_val (-4) 1 4 2 1 (by decide) (by decide) (by decide) (by decide) (by decide) (by decide) (by decide) (by decide) (by decide) (by decide)
theorem ex_none : addT 1 35 0 1 false 7 6 false = .dv 7 := by
  have e : Int.gcd (slD 0 1 7 6) 35 = 7 := by decide
  unfold addT
  rw [cond_false, cond_false, show oppB 35 0 1 7 6 = false from rfl, cond_false, e]; rfl
theorem mulT_one (A M : Int) (p : TR) (hp : p.ok = true) : mulT A M p 1 = p := by
  rw [mulT_pos (by decide), show 1 / 2 = 0 from rfl, mulT_zero]
  cases p with
  | pt X Y o => rfl
  | dv d => simp [TR.ok] at hp
theorem ex_m3 : mulT 1 5 (.pt 0 1 false) 3 = .pt 2 1 false := by
  rw [mulT_pos (by decide), show 3 / 2 = 1 from rfl, mulT_one _ _ _ rfl]
  show addTT 1 5 (addT 1 5 0 1 false 0 1 false) (.pt 0 1 false) = _
  rw [ex_two]
  exact ex_three
theorem ex_m9 : mulT 1 5 (.pt 0 1 false) 9 = .pt 0 0 true := by
  have h2 : mulT 1 5 (.pt 0 1 false) 2 = .pt 4 2 false := by
    rw [mulT_pos (by decide), show 2 / 2 = 1 from rfl, mulT_one _ _ _ rfl]; exact ex_two
  have h4 : mulT 1 5 (.pt 0 1 false) 4 = .pt 3 4 false := by
    rw [mulT_pos (by decide), show 4 / 2 = 2 from rfl, h2]; exact ex_four
  rw [mulT_pos (by decide), show 9 / 2 = 4 from rfl, h4]
  show addTT 1 5 (addT 1 5 3 4 false 3 4 false) (.pt 0 1 false) = _
  rw [ex_eight]
  exact ex_nine

def s_ex : FSpec
  | [] => some (none, .ret (.bool true))
  | _ => none
theorem p_ex : Good Try.f7 s_ex := by
  intro ms p r h hp
  unfold s_ex at h
  split at h
  · simp only [Option.some.injEq, Prod.mk.injEq] at h
    obtain ⟨rfl, rfl⟩ := h
    refine ⟨env [c_rof, c_at, c_ladd, c_ltimes, c_Neg, c_R6same, c_rsame, c_pon] noAnn, ?_⟩
    rw [← vc_ex]
    have h3 : mulT 1 5 (.pt 0 (bif decide ((3 : Int) < 0) then negY 5 1 false else 1) false) (Int.natAbs 3) = .pt 2 1 false := ex_m3
    have h9 : mulT 1 5 (.pt 0 (bif decide ((9 : Int) < 0) then negY 5 1 false else 1) false) (Int.natAbs 9) = .pt 0 0 true := ex_m9
    rw [h3, h9, ex_two]
    simp [TR.ok, TR.X, TR.Y, TR.o, sameB]
    rfl
  · simp at h
def c_ex : Ctr Try.prog := ⟨7, s_ex, fun args w => Try.call7 args w, fn_ok mix Try.func7 s_ex p_ex⟩

end Go.Proofs.Ytceochfccebebaa

/-
  Plain facts: sums and multiples of points lie on the curve, or there is a proper divisor.
-/
namespace Go.Proofs.Ytceochfccebebaa
open Go Go.RowKit

theorem dv2 {M a b c d : Int} (h1 : M ∣ a) (h2 : M ∣ b) : M ∣ c * a + d * b := Int.dvd_add (Int.dvd_mul_of_dvd_right h1) (Int.dvd_mul_of_dvd_right h2)
theorem unit_cancel {M u D G : Int} (hu : M ∣ u * D - 1) (h : M ∣ D * G) : M ∣ G := by
  have e : G = u * (D * G) + (-G) * (u * D - 1) := by grind
  rw [e]; exact dv2 h hu
theorem G_ne {M A B px py qx qy u s : Int} (h1 : M ∣ py * py - (px * px * px + A * px + B)) (h2 : M ∣ qy * qy - (qx * qx * qx + A * qx + B)) (hu : M ∣ u * (qx - px) - 1) (hs : M ∣ s - (qy - py) * u) :
    M ∣ qx * qx + qx * px + px * px + A - s * s * (qx - px) - 2 * s * py := by
  have ht : M ∣ s * (qx - px) - (qy - py) := by
    have e : s * (qx - px) - (qy - py) = (qx - px) * (s - (qy - py) * u) + (qy - py) * (u * (qx - px) - 1) := by grind
    rw [e]; exact dv2 hs hu
  refine unit_cancel hu ?_
  have e : (qx - px) * (qx * qx + qx * px + px * px + A - s * s * (qx - px) - 2 * s * py) = 1 * (1 * (py * py - (px * px * px + A * px + B)) + (-1) * (qy * qy - (qx * qx * qx + A * qx + B))) + (-(2 * qy + (s * (qx - px) - (qy - py)))) * (s * (qx - px) - (qy - py)) := by grind
  rw [e]; exact dv2 (dv2 h1 h2) ht
theorem G_eq {M A B px py qy u s : Int} (h1 : M ∣ py * py - (px * px * px + A * px + B)) (h2 : M ∣ qy * qy - (px * px * px + A * px + B)) (hu : M ∣ u * (py + qy) - 1) (hs : M ∣ s - (3 * (px * px) + A) * u) :
    M ∣ px * px + px * px + px * px + A - s * s * (px - px) - 2 * s * py := by
  have ht : M ∣ s * (py + qy) - (3 * (px * px) + A) := by
    have e : s * (py + qy) - (3 * (px * px) + A) = (py + qy) * (s - (3 * (px * px) + A) * u) + (3 * (px * px) + A) * (u * (py + qy) - 1) := by grind
    rw [e]; exact dv2 hs hu
  have hd : M ∣ py - qy := by
    refine unit_cancel hu ?_
    have e : (py + qy) * (py - qy) = 1 * (py * py - (px * px * px + A * px + B)) + (-1) * (qy * qy - (px * px * px + A * px + B)) := by grind
    rw [e]; exact dv2 h1 h2
  have e : px * px + px * px + px * px + A - s * s * (px - px) - 2 * s * py = (-1) * (s * (py + qy) - (3 * (px * px) + A)) + (-s) * (py - qy) := by grind
  rw [e]; exact dv2 ht hd
theorem third {M A B px py qx s x y : Int} (h1 : M ∣ py * py - (px * px * px + A * px + B)) (hG : M ∣ qx * qx + qx * px + px * px + A - s * s * (qx - px) - 2 * s * py)
    (hx : M ∣ x - (s * s - (px + qx))) (hy : M ∣ y - (s * (px - x) - py)) : M ∣ y * y - (x * x * x + A * x + B) := by
  have e : y * y - (x * x * x + A * x + B) = 1 * (1 * (1 * (py * py - (px * px * px + A * px + B)) + (-(x - px)) * (qx * qx + qx * px + px * px + A - s * s * (qx - px) - 2 * s * py)) + (-((x - px) * (x - qx))) * (x - (s * s - (px + qx)))) + ((y - (s * (px - x) - py)) - 2 * (s * (x - px) + py)) * (y - (s * (px - x) - py)) := by grind
  rw [e]; exact dv2 (dv2 (dv2 h1 hG) hx) hy

theorem dvd_emod (a M : Int) : M ∣ a % M - a := by
  have := Int.emod_add_mul_ediv a M
  exact ⟨-(a / M), by rw [Int.mul_neg]; omega⟩
theorem dvd_emod' (a M : Int) : M ∣ a - a % M := by
  have := Int.emod_add_mul_ediv a M
  exact ⟨a / M, by omega⟩

theorem inB_iff {a M : Int} : inB a M = true ↔ 0 ≤ a ∧ a < M := by unfold inB; exact decide_eq_true_iff
theorem emod_eq_iff {a b M : Int} : a % M = b % M ↔ M ∣ a - b := Int.emod_eq_emod_iff_emod_sub_eq_zero.trans ⟨Int.dvd_of_emod_eq_zero, Int.emod_eq_zero_of_dvd⟩

structure OnP (A B M X Y : Int) : Prop where
  x0 : 0 ≤ X
  x1 : X < M
  y0 : 0 ≤ Y
  y1 : Y < M
  eq : M ∣ Y * Y - (X * X * X + A * X + B)

theorem right_eq (A B M X : Int) : ((X * X % M + A) * X % M + B) % M = (X * X * X + A * X + B) % M := by
  rw [Int.emod_add_emod, emod_eq_iff]
  have e : (X * X % M + A) * X + B - (X * X * X + A * X + B) = X * (X * X % M - X * X) := by grind
  rw [e]; exact Int.dvd_mul_of_dvd_right (dvd_emod _ _)

theorem on_iff {A B M X Y : Int} : onB A B M X Y false = true ↔ curveB A B M = true ∧ OnP A B M X Y := by
  unfold onB
  rw [cond_false, Bool.and_eq_true, Bool.and_eq_true, Bool.and_eq_true, inB_iff, inB_iff, decide_eq_true_iff, right_eq, emod_eq_iff]
  constructor
  · rintro ⟨h, ⟨⟨h1, h2⟩, h3, h4⟩, h5⟩; exact ⟨h, h1, h2, h3, h4, h5⟩
  · rintro ⟨h, h1, h2, h3, h4, h5⟩; exact ⟨h, ⟨⟨h1, h2⟩, h3, h4⟩, h5⟩
theorem on_inf {A B M X Y : Int} : onB A B M X Y true = true ↔ curveB A B M = true ∧ X = 0 ∧ Y = 0 := by
  unfold onB
  rw [cond_true, Bool.and_eq_true, Bool.and_eq_true, decide_eq_true_iff, decide_eq_true_iff]
theorem on_curve {A B M X Y : Int} {o : Bool} (h : onB A B M X Y o = true) : curveB A B M = true := by
  unfold onB at h
  exact (Bool.and_eq_true _ _ ▸ h).1
theorem curveB_iff {A B M : Int} : curveB A B M = true ↔ 3 < M ∧ M % 2 ≠ 0 ∧ (0 ≤ A ∧ A < M) ∧ 0 ≤ B ∧ B < M := by
  unfold curveB
  simp only [Bool.and_eq_true, Bool.not_eq_true', decide_eq_false_iff_not, inB_iff]
  omega

/-- A result on the curve, or a proper divisor. -/
def TR.fine (A B M : Int) : TR → Prop
  | .pt X Y o => onB A B M X Y o = true
  | .dv d => M % d = 0 ∧ 1 < d ∧ d < M

theorem gcd_div {D M : Int} (hM : 1 < M) (h1 : Int.gcd D M ≠ 1) (hD : ¬ M ∣ D) : M % (Int.gcd D M : Int) = 0 ∧ 1 < (Int.gcd D M : Int) ∧ (Int.gcd D M : Int) < M := by
  have hd : (Int.gcd D M : Int) ∣ M := Int.gcd_dvd_right ..
  have hd2 : (Int.gcd D M : Int) ∣ D := Int.gcd_dvd_left ..
  have hle := Int.le_of_dvd (by omega) hd
  have hne : Int.gcd D M ≠ 0 := by
    intro e
    have := (Int.gcd_eq_zero_iff.1 e).2
    omega
  have hne2 : (Int.gcd D M : Int) ≠ M := fun e => hD (e ▸ hd2)
  exact ⟨Int.emod_eq_zero_of_dvd hd, by omega, by omega⟩

theorem add_fine {A B M px py qx qy : Int} {po qo : Bool} (hp : onB A B M px py po = true) (hq : onB A B M qx qy qo = true) : (addT A M px py po qx qy qo).fine A B M := by
  have hc := on_curve hp
  obtain ⟨hM, _⟩ := curveB_iff.1 hc
  unfold addT
  cases po with
  | true => exact hq
  | false =>
    rw [cond_false]
    cases qo with
    | true => exact hp
    | false =>
      rw [cond_false]
      obtain ⟨_, p0, p1, p2, p3, p4⟩ := on_iff.1 hp
      obtain ⟨_, q0, q1, q2, q3, q4⟩ := on_iff.1 hq
      cases ho : oppB M px py qx qy with
      | true => exact on_inf.2 ⟨hc, rfl, rfl⟩
      | false =>
        rw [cond_false]
        by_cases hg : Int.gcd (slD px py qx qy) M = 1
        · rw [decide_eq_true hg, cond_true]
          obtain ⟨m1, m2, m3⟩ := minv_spec (by omega) hg
          have hx : M ∣ sumX A M px py qx qy - (slope A M px py qx qy * slope A M px py qx qy - (px + qx)) := dvd_emod _ _
          have hy : M ∣ sumY A M px py qx qy - (slope A M px py qx qy * (px - sumX A M px py qx qy) - py) := dvd_emod _ _
          have hs : M ∣ slope A M px py qx qy - slN A px py qx qy * minv (slD px py qx qy) M := dvd_emod _ _
          have hG : M ∣ qx * qx + qx * px + px * px + A - slope A M px py qx qy * slope A M px py qx qy * (qx - px) - 2 * slope A M px py qx qy * py := by
            by_cases e : px = qx
            · subst e
              have hD : slD px py px qy = py + qy := by unfold slD; simp
              have hN : slN A px py px qy = 3 * (px * px) + A := by unfold slN; simp
              rw [hD] at m3
              rw [hD, hN] at hs
              exact G_eq p4 q4 m3 hs
            · have hD : slD px py qx qy = qx - px := by unfold slD; simp [e]
              have hN : slN A px py qx qy = qy - py := by unfold slN; simp [e]
              rw [hD] at m3
              rw [hD, hN] at hs
              exact G_ne p4 q4 m3 hs
          exact on_iff.2 ⟨hc, Int.emod_nonneg _ (by omega), Int.emod_lt_of_pos _ (by omega), Int.emod_nonneg _ (by omega), Int.emod_lt_of_pos _ (by omega), third p4 hG hx hy⟩
        · rw [decide_eq_false hg, cond_false]
          refine gcd_div (by omega) hg fun hd => ?_
          by_cases e : px = qx
          · have hD : slD px py qx qy = py + qy := by unfold slD; simp [e]
            rw [hD] at hd
            unfold oppB at ho
            rw [decide_eq_true e, Bool.true_and, decide_eq_false_iff_not] at ho
            exact ho (Int.emod_eq_zero_of_dvd hd)
          · have hD : slD px py qx qy = qx - px := by unfold slD; simp [e]
            rw [hD] at hd
            obtain ⟨c, hc⟩ := hd
            have : c = 0 := by
              rcases Int.lt_trichotomy c 0 with h | h | h
              · have : M * c ≤ M * (-1) := Int.mul_le_mul_of_nonneg_left (by omega) (by omega)
                omega
              · exact h
              · have : M * 1 ≤ M * c := Int.mul_le_mul_of_nonneg_left (by omega) (by omega)
                omega
            subst this
            omega

theorem addTT_fine {A B M : Int} {a b : TR} (ha : a.fine A B M) (hb : b.fine A B M) : (addTT A M a b).fine A B M := by
  cases a with
  | dv d => exact ha
  | pt X Y o =>
    cases b with
    | dv d => exact hb
    | pt x y o' => exact add_fine ha hb

theorem mul_fine {A B M : Int} {p : TR} (hc : curveB A B M = true) (hp : p.fine A B M) (n : Nat) : (mulT A M p n).fine A B M := by
  induction n using Nat.strongRecOn with
  | ind n ih =>
    by_cases h : n = 0
    · subst h; rw [mulT_zero]; exact on_inf.2 ⟨hc, rfl, rfl⟩
    · rw [mulT_pos h]
      have h2 := ih (n / 2) (by omega)
      cases decide (n % 2 = 1) with
      | true => exact addTT_fine (addTT_fine h2 h2) hp
      | false => exact addTT_fine h2 h2

theorem neg_on {A B M X Y : Int} {o : Bool} (h : onB A B M X Y o = true) : onB A B M X (negY M Y o) o = true := by
  cases o with
  | true => exact h
  | false =>
    obtain ⟨hc, p0, p1, p2, p3, p4⟩ := on_iff.1 h
    obtain ⟨hM, _⟩ := curveB_iff.1 hc
    refine on_iff.2 ⟨hc, p0, p1, Int.emod_nonneg _ (by omega), Int.emod_lt_of_pos _ (by omega), ?_⟩
    have hd : M ∣ -Y % M - -Y := dvd_emod _ _
    show M ∣ (-Y % M) * (-Y % M) - _
    have e : (-Y % M) * (-Y % M) - (X * X * X + A * X + B) = 1 * (Y * Y - (X * X * X + A * X + B)) + ((-Y % M) - Y) * (-Y % M - -Y) := by grind
    rw [e]; exact dv2 p4 hd

/-- What is asked of one result. -/
def pdOk (A B m : Int) (r : RS) : Prop := (r.e = 0 ∧ onB A B m r.X r.Y r.o = true ∧ r.d = 0) ∨ (r.e = 6 ∧ m % r.d = 0 ∧ 1 < r.d ∧ r.d < m)
theorem rs_ok {A B m : Int} {r : TR} (h : r.fine A B m) : pdOk A B m r.rs := by
  cases r with
  | pt X Y o => exact .inl ⟨rfl, h, rfl⟩
  | dv d => exact .inr ⟨rfl, h.1, h.2.1, h.2.2⟩
theorem addI_ok {A B M px py qx qy : Int} {po qo : Bool} (hp : onB A B M px py po = true) (hq : onB A B M qx qy qo = true) : pdOk A B M (addI A B M px py po qx qy qo) := by
  unfold addI
  rw [hp, hq, Bool.and_self, cond_true]
  exact rs_ok (add_fine hp hq)
theorem mulI_ok {A B M z px py : Int} {po : Bool} (hp : onB A B M px py po = true) : pdOk A B M (mulI A B M z px py po) := by
  unfold mulI
  rw [hp, cond_true]
  refine rs_ok (mul_fine (on_curve hp) ?_ _)
  cases decide (z < 0) with
  | true => exact neg_on hp
  | false => exact hp

/-! ### The points of the list -/
theorem colPts_mem {A B M x : Int} : ∀ {y : Nat} {p : Pt}, p ∈ colPts A B M x y → ∃ k : Nat, k < y ∧ p = (x, (k : Int), false) ∧ (k : Int) * k % M = rightI A B M x
  | 0, p, h => by simp [colPts] at h
  | y + 1, p, h => by
    simp only [colPts, List.mem_append] at h
    rcases h with h | h
    · obtain ⟨k, h1, h2, h3⟩ := colPts_mem h
      exact ⟨k, by omega, h2, h3⟩
    · by_cases hd : (y : Int) * y % M = rightI A B M x
      · rw [decide_eq_true hd, cond_true, List.mem_singleton] at h
        exact ⟨y, by omega, h, hd⟩
      · rw [decide_eq_false hd, cond_false] at h; simp at h
theorem rowPts_mem {A B M : Int} : ∀ {x : Nat} {p : Pt}, p ∈ rowPts A B M x → p = (0, 0, true) ∨ ∃ j k : Nat, j < x ∧ k < M.toNat ∧ p = ((j : Int), (k : Int), false) ∧ (k : Int) * k % M = rightI A B M j
  | 0, p, h => by simp only [rowPts, List.mem_singleton] at h; exact .inl h
  | x + 1, p, h => by
    simp only [rowPts, List.mem_append] at h
    rcases h with h | h
    · rcases rowPts_mem h with h | ⟨j, k, h1, h2, h3, h4⟩
      · exact .inl h
      · exact .inr ⟨j, k, by omega, h2, h3, h4⟩
    · obtain ⟨k, h1, h2, h3⟩ := colPts_mem h
      exact .inr ⟨x, k, by omega, h1, h2, h3⟩
theorem pts_on {A B M : Int} (hc : curveB A B M = true) {p : Pt} (h : p ∈ ptsI A B M) : onB A B M p.1 p.2.1 p.2.2 = true := by
  obtain ⟨hM, _⟩ := curveB_iff.1 hc
  rcases rowPts_mem h with rfl | ⟨j, k, h1, h2, rfl, h4⟩
  · exact on_inf.2 ⟨hc, rfl, rfl⟩
  · refine on_iff.2 ⟨hc, by show (0 : Int) ≤ (j : Int); omega, by show (j : Int) < M; omega, by show (0 : Int) ≤ (k : Int); omega, by show (k : Int) < M; omega, ?_⟩
    unfold rightI at h4
    rw [emod_eq_iff] at h4
    have e : (j : Int) * (j * j) = j * j * j := by rw [Int.mul_assoc]
    rwa [e] at h4
theorem getD_mem {l : List Pt} {i : Nat} (h : i < l.length) : l.getD i (0, 0, true) ∈ l := by
  rw [show l.getD i (0, 0, true) = l[i] by simp [h]]
  exact List.getElem_mem _

theorem curve_on {m a x y : Int} (hm : 3 < m) (ho : m % 2 ≠ 0) (ha : 0 ≤ a) (ha2 : a < m) (hx : 0 ≤ x) (hx2 : x < m) (hy : 0 ≤ y) (hy2 : y < m) : onB a (curveI m a x y) m x y false = true := by
  have hc : curveB a (curveI m a x y) m = true := curveB_iff.2 ⟨hm, ho, ⟨ha, ha2⟩, Int.emod_nonneg _ (by omega), Int.emod_lt_of_pos _ (by omega)⟩
  refine on_iff.2 ⟨hc, hx, hx2, hy, hy2, ?_⟩
  have hd : m ∣ (y * y - x * x * x - a * x) - curveI m a x y := dvd_emod' _ _
  rwa [show y * y - x * x * x - a * x - curveI m a x y = y * y - (x * x * x + a * x + curveI m a x y) by omega] at hd

theorem mdP_on {m A X Y Q : Int} (hm : 3 < m) (ho : m % 2 ≠ 0) : onB (A % m) (mdB m A X Y) m (X % m) (Y % m) false = true ∧ onB (A % m) (mdB m A X Y) m (mdP m A X Y Q).1 (mdP m A X Y Q).2.1 (mdP m A X Y Q).2.2 = true := by
  have h1 : onB (A % m) (mdB m A X Y) m (X % m) (Y % m) false = true := curve_on hm ho (Int.emod_nonneg _ (by omega)) (Int.emod_lt_of_pos _ (by omega)) (Int.emod_nonneg _ (by omega)) (Int.emod_lt_of_pos _ (by omega)) (Int.emod_nonneg _ (by omega)) (Int.emod_lt_of_pos _ (by omega))
  refine ⟨h1, pts_on (on_curve h1) (getD_mem ?_)⟩
  have hpos : 0 < (mdL m A X Y).length := rowPts_pos _ _ _ _
  have h2 := Int.emod_nonneg Q (show ((mdL m A X Y).length : Int) ≠ 0 by omega)
  have h3 := Int.emod_lt_of_pos Q (show (0 : Int) < (mdL m A X Y).length by omega)
  show (Q % ((mdL m A X Y).length : Int)).toNat < (mdL m A X Y).length
  omega

end Go.Proofs.Ytceochfccebebaa

/-
  The frame of a law: what was read before the call is read behind it.
-/
namespace Go.Proofs.Ytceochfccebebaa
open Go Go.RowKit

theorem mapM_keep {α β : Type} {f g : α → Option β} : ∀ (l : List α) (xs : List β), l.mapM f = some xs → (∀ a x, f a = some x → x ∈ xs → g a = some x) → l.mapM g = some xs
  | [], xs, h, _ => h
  | a :: l, xs, h, hk => by
    simp only [List.mapM_cons, Option.bind_eq_bind, Option.pure_def, Option.bind_eq_some_iff, Option.some.injEq] at h ⊢
    obtain ⟨x, h1, ys, h2, rfl⟩ := h
    exact ⟨x, hk a x h1 (List.mem_cons_self ..), ys, mapM_keep l ys h2 fun b y hb hy => hk b y hb (List.mem_cons_of_mem _ hy), rfl⟩

theorem mapM_keep2 {α β : Type} {f g : α → Option β} : ∀ (l : List α) (xs : List β), l.mapM f = some xs → (∀ a ∈ l, ∀ x, f a = some x → x ∈ xs → g a = some x) → l.mapM g = some xs
  | [], xs, h, _ => h
  | a :: l, xs, h, hk => by
    simp only [List.mapM_cons, Option.bind_eq_bind, Option.pure_def, Option.bind_eq_some_iff, Option.some.injEq] at h ⊢
    obtain ⟨x, h1, ys, h2, rfl⟩ := h
    exact ⟨x, hk a (List.mem_cons_self ..) x h1 (List.mem_cons_self ..), ys, mapM_keep2 l ys h2 fun b hb y hy hm => hk b (List.mem_cons_of_mem _ hb) y hy (List.mem_cons_of_mem _ hm), rfl⟩

theorem cell_keep {w w' : World} (e : ∀ b, b < w.heap.size → w'.heap[b]? = w.heap[b]?) {a : Addr} {v : Value} (h : w.cell? a = some v) : w'.cell? a = some v := by
  have hlt : a.block < w.heap.size := by
    unfold World.cell? at h
    split at h
    · rename_i h0; exact (Array.getElem?_eq_some_iff.1 h0).1
    · simp at h
  unfold World.cell? at h ⊢
  rw [e _ hlt]; exact h
theorem cells_keep {w w' : World} (e : ∀ b, b < w.heap.size → w'.heap[b]? = w.heap[b]?) {base : Nat} {a : Addr} {n : Nat} {vs : List Value} (h : w.cells? base a n = some vs) : w'.cells? base a n = some vs := by
  unfold World.cells? at h ⊢
  split at h
  · rename_i hb
    rw [if_pos hb]
    exact mapM_keep _ _ h fun i v hi _ => cell_keep e hi
  · simp at h

section
variable {H : Type} {enc : TypeId × Value → H} {P : Program} {w w' : World}

/-- What a type leads to is in the list; no element takes no cell. -/
def subOk (P : Program) (L : List Nat) (t : Nat) : Bool := match P.underlying t with
  | some (.pointer e) => L.elem e
  | some (.slice e) => L.elem e && (0).blt (P.cellsOf e)
  | some (.struct fs) => fs.toList.all fun f => L.elem f.type
  | some (.array _ e) => L.elem e
  | some (.interface _) => false
  | some (.map _ e) => L.elem e
  | _ => true

theorem trod_keep {L : List Nat} (hL : L.all (subOk P L) = true) (e : ∀ b, b < w.heap.size → w'.heap[b]? = w.heap[b]?) (sp : Nat → Bool) (held : Bool) :
    ∀ (fuel : Nat) (t : TypeId) (cs : List Value) (x : DataW H × List MemPlace), t ∈ L → DataW.trod enc P w 0 (fun _ => true) held fuel t cs = some x → (∀ p ∈ x.2, sp p.block = true) → DataW.trod enc P w' 0 sp held fuel t cs = some x
  | 0, _, _, _, _, h, _ => by simp [DataW.trod] at h
  | fuel + 1, t, cs, x, ht, h, hsp => by
    have ih := trod_keep hL e sp held fuel
    have hok := List.all_eq_true.1 hL t ht
    unfold subOk at hok
    unfold DataW.trod at h ⊢
    have el : ∀ (a : Addr) (n : Nat) (u : TypeId) (y : DataW H × List MemPlace), u ∈ L → (w.cells? 0 a n).bind (DataW.trod enc P w 0 (fun _ => true) held fuel u) = some y → (∀ p ∈ y.2, sp p.block = true) → (w'.cells? 0 a n).bind (DataW.trod enc P w' 0 sp held fuel u) = some y := by
      intro a n u y hu hy hs
      obtain ⟨vs, h1, h2⟩ := Option.bind_eq_some_iff.1 hy
      exact Option.bind_eq_some_iff.2 ⟨vs, cells_keep e h1, ih u vs y hu h2 hs⟩
    split at h
    case h_21 => simp at h
    case h_6 =>
      rename_i hu
      rw [hu] at hok
      obtain ⟨y, h1, rfl⟩ := Option.map_eq_some_iff.1 h
      exact Option.map_eq_some_iff.2 ⟨y, el _ _ _ _ (List.mem_of_elem_eq_true hok) h1 fun p hp => hsp p (List.mem_append_right _ hp), rfl⟩
    case h_8 =>
      rename_i ee a len cap hu
      rw [hu] at hok
      simp only [Bool.and_eq_true, Nat.blt_eq] at hok
      have hee := List.mem_of_elem_eq_true hok.1
      dsimp only at h ⊢
      split at h
      · rename_i hc
        rw [if_pos hc]
        obtain ⟨elems, h1, h⟩ := Option.bind_eq_some_iff.1 h
        obtain ⟨rest, h2, rfl⟩ := Option.map_eq_some_iff.1 h
        rw [if_pos rfl] at h2
        have hsz := hok.2
        have q1 : ∀ y ∈ elems, ∀ p ∈ y.2, sp p.block = true := fun y hy p hp => hsp p (List.mem_append_right _ (List.mem_flatMap.2 ⟨y, List.mem_append_left _ hy, hp⟩))
        have q2 : ∀ y ∈ rest, ∀ p ∈ y.2, sp p.block = true := fun y hy p hp => hsp p (List.mem_append_right _ (List.mem_flatMap.2 ⟨y, List.mem_append_right _ hy, hp⟩))
        refine Option.bind_eq_some_iff.2 ⟨elems, mapM_keep _ _ h1 fun i y hi hy => el _ _ _ _ hee hi (q1 y hy), Option.map_eq_some_iff.2 ⟨rest, ?_, rfl⟩⟩
        by_cases h0 : rest = []
        · subst h0
          have : cap - len = 0 := by
            rcases Nat.eq_zero_or_pos (cap - len) with h | h
            · exact h
            · obtain ⟨n, hn⟩ := Nat.exists_eq_succ_of_ne_zero (Nat.pos_iff_ne_zero.1 h)
              rw [hn, List.range_succ_eq_map] at h2
              simp [Option.bind_eq_some_iff] at h2
          rw [this]
          split <;> simp
        · have hpos : 0 < (elems.length + rest.length) * P.cellsOf ee := Nat.mul_pos (by have := List.length_pos_iff.2 h0; omega) hsz
          have : sp a.block = true := hsp (.cell a.block (a.off + 0)) (List.mem_append_left _ (List.mem_map.2 ⟨0, List.mem_range.2 hpos, rfl⟩))
          rw [if_pos this]
          exact mapM_keep _ _ h2 fun i y hi hy => el _ _ _ _ hee hi (q2 y hy)
      · simp at h
    case h_9 =>
      rename_i fs hu
      rw [hu] at hok
      split at h
      · rename_i hc
        rw [if_pos hc]
        obtain ⟨xs, h1, rfl⟩ := Option.map_eq_some_iff.1 h
        exact Option.map_eq_some_iff.2 ⟨xs, mapM_keep2 _ _ h1 fun f hfm y hf hy => ih _ _ _ (List.mem_of_elem_eq_true (List.all_eq_true.1 hok f hfm)) hf fun p hp => hsp p (List.mem_flatMap.2 ⟨y, hy, hp⟩), rfl⟩
      · simp at h
    case h_10 =>
      rename_i n ee hu
      rw [hu] at hok
      split at h
      · rename_i hc
        rw [if_pos hc]
        obtain ⟨xs, h1, rfl⟩ := Option.map_eq_some_iff.1 h
        exact Option.map_eq_some_iff.2 ⟨xs, mapM_keep _ _ h1 fun f y hf hy => ih _ _ _ (List.mem_of_elem_eq_true hok) hf fun p hp => hsp p (List.mem_flatMap.2 ⟨y, hy, hp⟩), rfl⟩
      · simp at h
    case h_12 =>
      rename_i hu
      rw [hu] at hok
      simp at hok
    case h_14 =>
      rename_i b hu
      rw [hu] at hok
      split at h
      · rename_i es clock hb
        rw [e b (Array.getElem?_eq_some_iff.1 hb).1, hb]
        dsimp only
        split at h
        · rename_i hc
          rw [if_pos hc]
          obtain ⟨entries, h1, h⟩ := Option.bind_eq_some_iff.1 h
          have hpl : ∀ y ∈ entries, ∀ p ∈ y.2, sp p.block = true := by
            dsimp only at h
            split at h
            · simp only [Option.some.injEq] at h
              subst h
              exact fun y hy p hp => hsp p (List.mem_cons_of_mem _ (List.mem_flatMap.2 ⟨y, hy, hp⟩))
            · simp at h
          refine Option.bind_eq_some_iff.2 ⟨entries, mapM_keep _ _ h1 fun f y hf hy => ?_, h⟩
          obtain ⟨key, k1, k2⟩ := Option.bind_eq_some_iff.1 hf
          refine Option.bind_eq_some_iff.2 ⟨key, k1, ?_⟩
          split at k2
          · rename_i hfm
            rw [if_pos hfm]
            obtain ⟨z, z1, rfl⟩ := Option.map_eq_some_iff.1 k2
            exact Option.map_eq_some_iff.2 ⟨z, ih _ _ _ (List.mem_of_elem_eq_true hok) z1 (hpl _ hy), rfl⟩
          · simp at k2
        · simp at h
      · simp at h
    all_goals
      exact h

theorem trodAll_keep {L : List Nat} (hL : L.all (subOk P L) = true) (e : ∀ b, b < w.heap.size → w'.heap[b]? = w.heap[b]?) (sp : Nat → Bool) :
    ∀ (ts : List TypeId) (vs : List Value) (ds : List (DataW H)) (ps : List MemPlace), (∀ t ∈ ts, t ∈ L) → DataW.TrodAll enc P w 0 (fun _ => true) true ts vs ds ps → (∀ p ∈ ps, sp p.block = true) → DataW.TrodAll enc P w' 0 sp true ts vs ds ps
  | [], [], [], _, _, h, _ => h
  | t :: ts, v :: vs, d :: ds, ps, ht, h, hsp => by
    obtain ⟨p, q, ⟨fuel, h1⟩, h2, rfl⟩ := h
    exact ⟨p, q, ⟨fuel, trod_keep hL e sp true fuel t _ _ (ht t (List.mem_cons_self ..)) h1 fun p hp => hsp p (List.mem_append_left _ hp)⟩, trodAll_keep hL e sp ts vs ds q (fun u hu => ht u (List.mem_cons_of_mem _ hu)) h2 fun p hp => hsp p (List.mem_append_right _ hp), rfl⟩
  | [], _ :: _, _, _, _, h, _ => h.elim
  | [], [], _ :: _, _, _, h, _ => h.elim
  | _ :: _, [], _, _, _, h, _ => h.elim
  | _ :: _, _ :: _, [], _, _, h, _ => h.elim

end
end Go.Proofs.Ytceochfccebebaa

/-
  The frame of a law: what the arguments are, as the evaluator says it.
-/
namespace Go.Proofs.Ytceochfccebebaa
open Go Go.RowKit

abbrev noS : Nat → Prop := fun _ => False

section
variable {H : Type} {enc : TypeId × Value → H} {P : Program} {w : World} {sp : Nat → Bool} {held : Bool}

theorem mapM_all {α β : Type} {f : α → Option β} : ∀ (l : List α) (xs : List β), l.mapM f = some xs → ∀ a ∈ l, ∃ x, f a = some x
  | [], _, _, a, ha => by simp at ha
  | b :: l, xs, h, a, ha => by
    simp only [List.mapM_cons, Option.bind_eq_bind, Option.pure_def, Option.bind_eq_some_iff, Option.some.injEq] at h
    obtain ⟨x, h1, ys, h2, rfl⟩ := h
    rcases List.mem_cons.1 ha with rfl | ha
    · exact ⟨x, h1⟩
    · exact mapM_all l ys h2 a ha

theorem trod_fields {t : TypeId} {fs : Array Field} {fuel : Nat} {cs : List Value} {x : DataW H × List MemPlace} (hu : P.underlying t = some (.struct fs)) (h : DataW.trod enc P w 0 sp held fuel t cs = some x) :
    cs.length = P.cellsOf t ∧ ∃ fuel', ∀ f ∈ fs.toList, ∃ y, DataW.trod enc P w 0 sp held fuel' f.type ((cs.drop f.offset).take (P.cellsOf f.type)) = some y := by
  cases fuel with
  | zero => simp [DataW.trod] at h
  | succ fuel =>
    unfold DataW.trod at h
    rw [hu] at h
    split at h
    all_goals first | (rename_i h0; simp at h0; done) | skip
    · rename_i fs' hf
      simp only [Option.some.injEq, TypeDesc.struct.injEq] at hf
      subst hf
      split at h
      · rename_i hc
        obtain ⟨xs, h1, rfl⟩ := Option.map_eq_some_iff.1 h
        exact ⟨hc, fuel, mapM_all _ _ h1⟩
      · simp at h
    · rename ∀ (fs_1 : Array Field), some (TypeDesc.struct fs) = some (TypeDesc.struct fs_1) → False => hh
      exact (hh fs rfl).elim

theorem trod_array {t e : TypeId} {n : Nat} {fuel : Nat} {cs : List Value} {x : DataW H × List MemPlace} (hu : P.underlying t = some (.array n e)) (h : DataW.trod enc P w 0 sp held fuel t cs = some x) :
    cs.length = P.cellsOf t ∧ ∃ fuel', ∀ i, i < n → ∃ y, DataW.trod enc P w 0 sp held fuel' e ((cs.drop (i * P.cellsOf e)).take (P.cellsOf e)) = some y := by
  cases fuel with
  | zero => simp [DataW.trod] at h
  | succ fuel =>
    unfold DataW.trod at h
    rw [hu] at h
    split at h
    all_goals first | (rename_i h0; simp at h0; done) | skip
    · rename_i n' e' hf
      simp only [Option.some.injEq, TypeDesc.array.injEq] at hf
      obtain ⟨rfl, rfl⟩ := hf
      split at h
      · rename_i hc
        obtain ⟨xs, h1, rfl⟩ := Option.map_eq_some_iff.1 h
        exact ⟨hc, fuel, fun i hi => mapM_all _ _ h1 i (List.mem_range.2 hi)⟩
      · simp at h
    · rename ∀ (k : Nat) (e_1 : TypeId), some (TypeDesc.array n e) = some (TypeDesc.array k e_1) → False => hh
      exact (hh n e rfl).elim

theorem trod_int {t : TypeId} {k : IntKind} {fuel : Nat} {cs : List Value} {x : DataW H × List MemPlace} (hu : P.underlying t = some (.int k)) (h : DataW.trod enc P w 0 sp held fuel t cs = some x) :
    ∃ n, cs = [.int k n] ∧ (Lit.int k n).wf = true := by
  cases fuel with
  | zero => simp [DataW.trod] at h
  | succ fuel =>
    unfold DataW.trod at h
    rw [hu] at h
    split at h
    all_goals first | (rename_i h0; simp at h0; done) | skip
    · rename_i k0 k' n hk
      simp only [Option.some.injEq, TypeDesc.int.injEq] at hk
      subst hk
      split at h
      · rename_i hc
        exact ⟨n, by rw [hc.1], hc.2⟩
      · simp at h
    · simp at h

theorem trod_bool {t : TypeId} {fuel : Nat} {cs : List Value} {x : DataW H × List MemPlace} (hu : P.underlying t = some .bool) (h : DataW.trod enc P w 0 sp held fuel t cs = some x) : ∃ b, cs = [.bool b] := by
  cases fuel with
  | zero => simp [DataW.trod] at h
  | succ fuel =>
    unfold DataW.trod at h
    rw [hu] at h
    split at h
    all_goals first | (rename_i h0; simp at h0; done) | skip
    · exact ⟨_, rfl⟩
    · simp at h


theorem range_mapM {β : Type} {f : Nat → Option β} {n : Nat} {xs : List β} (h : (List.range n).mapM f = some xs) (i : Nat) (hi : i < n) : ∃ x, f i = some x := mapM_all _ _ h i (List.mem_range.2 hi)

theorem cells_one {a : Addr} {vs : List Value} (h : w.cells? 0 a 1 = some vs) : ∃ v, w.cell? a = some v ∧ vs = [v] := by
  unfold World.cells? at h
  rw [if_pos (Nat.zero_le _)] at h
  simp only [show List.range 1 = [0] from rfl, List.mapM_cons, List.mapM_nil, Option.bind_eq_bind, Option.pure_def, Option.bind_eq_some_iff, Option.some.injEq] at h
  obtain ⟨x, h1, ys, rfl, rfl⟩ := h
  exact ⟨x, by simpa [Addr.add] using h1, rfl⟩
theorem cell_some {a : Addr} {v : Value} (h : w.cell? a = some v) : ∃ arr ty fr, w.heap[a.block]? = some (.cells arr ty fr) ∧ a.spot = none ∧ arr[a.off]? = some v := by
  unfold World.cell? at h
  split at h
  · rename_i c t f hb
    split at h
    · simp at h
    · rename_i hs
      exact ⟨c, t, f, hb, by simpa using hs, h⟩
  · simp at h

/-- A slice of words. -/
theorem trod_words {t e : TypeId} {fuel : Nat} {cs : List Value} {x : DataW H × List MemPlace} (hu : P.underlying t = some (.slice e)) (he : P.underlying e = some (.int .u32)) (hc : P.cellsOf e = 1)
    (h : DataW.trod enc P w 0 sp held fuel t cs = some x) : ∃ s l, cs = [s] ∧ WordsR (Ctx.args noS) w l s ∧ Wd l ∧ l.length ≤ maxLen := by
  cases fuel with
  | zero => simp [DataW.trod] at h
  | succ fuel =>
    unfold DataW.trod at h
    rw [hu] at h
    split at h
    all_goals first | (rename_i h0; simp at h0; done) | skip
    · exact ⟨_, [], rfl, ⟨none, 0, rfl, Nat.le_refl _, fun h => absurd h (by simp)⟩, Wd.nil, Nat.zero_le _⟩
    · rename_i e' a len cap hs
      simp only [Option.some.injEq, TypeDesc.slice.injEq] at hs
      subst hs
      dsimp only at h
      split at h
      · rename_i hcc
        obtain ⟨elems, h1, h⟩ := Option.bind_eq_some_iff.1 h
        rw [hc] at h1
        have hel : ∀ i, i < len → ∃ n, w.cell? (a.add (i * 1)) = some (.int .u32 n) ∧ 0 ≤ n ∧ n < 4294967296 := by
          intro i hi
          obtain ⟨y, hy⟩ := range_mapM h1 i hi
          obtain ⟨vs, g1, g2⟩ := Option.bind_eq_some_iff.1 hy
          obtain ⟨v, g3, rfl⟩ := cells_one g1
          obtain ⟨n, g4, g5⟩ := trod_int he g2
          simp only [List.cons.injEq, and_true] at g4
          subst g4
          have : 0 ≤ n ∧ n ≤ 4294967295 := by simpa [Lit.wf, IntKind.min, IntKind.max, IntKind.signed, IntKind.bits] using g5
          exact ⟨n, g3, by omega⟩
        obtain ⟨l, hl1, hl2⟩ : ∃ l : List Int, l.length = len ∧ ∀ i n, l[i]? = some n → w.cell? (a.add (i * 1)) = some (.int .u32 n) ∧ 0 ≤ n ∧ n < 4294967296 := by
          refine ⟨(List.range len).pmap (fun i hi => Classical.choose (hel i (List.mem_range.1 hi))) (fun i hi => hi), by simp, fun i n hn => ?_⟩
          rw [List.getElem?_pmap] at hn
          simp only [Option.pmap_eq_some_iff] at hn
          obtain ⟨k, hk, hm, rfl⟩ := hn
          have hi : i < len := by rw [← List.length_range (n := len)]; exact (List.getElem?_eq_some_iff.1 hm).1
          have : k = i := by rw [List.getElem?_range hi] at hm; simpa using hm.symm
          subst this
          exact Classical.choose_spec (hel k hi)
        refine ⟨_, l, rfl, ⟨some a, cap, by rw [hl1], by rw [hl1]; exact hcc.2.1, fun hp => ?_⟩, fun y hy => ?_, by rw [hl1]; exact Nat.le_trans hcc.2.1 hcc.2.2⟩
        · obtain ⟨v0, _⟩ := hl2 0 l[0] (by simp [hp])
          rw [Nat.zero_mul, show a.add 0 = a from rfl] at v0
          obtain ⟨arr, ty, fr, r1, r2, r3⟩ := cell_some v0
          refine ⟨a.block, a.off, by cases a; simp_all, id, arr, ty, fr, r1, fun j v hv => ?_⟩
          simp only [List.getElem?_map, Option.map_eq_some_iff] at hv
          obtain ⟨n, hn, rfl⟩ := hv
          obtain ⟨s1, _⟩ := hl2 j n hn
          obtain ⟨arr', ty', fr', t1, t2, t3⟩ := cell_some s1
          have hb : (a.add (j * 1)).block = a.block := by unfold Addr.add; split <;> rfl
          have ho : (a.add (j * 1)).off = a.off + j := by unfold Addr.add; split <;> simp_all
          rw [hb, r1] at t1
          simp only [Option.some.injEq, Obj.cells.injEq] at t1
          rw [ho] at t3
          rw [t1.1]; exact t3
        · obtain ⟨i, hi, rfl⟩ := List.getElem_of_mem hy
          exact (hl2 i l[i] (by simp [hi])).2
      · simp at h
    · simp at h

end
end Go.Proofs.Ytceochfccebebaa

namespace Go.Proofs.Ytceochfccebebaa
open Go Go.ChangeShapes Go.WideShapes Go.ChangeAt Go.RowKit

theorem own : ownKnob Try.prog.godebug = none := by kernel_rfl

theorem agg_cells {v : Value} {a b : Value} {r : List Value} (h : v.cells.toList = a :: b :: r) : v = .agg (a :: b :: r).toArray := by
  cases v <;> first | (simp [Value.cells] at h; done) | skip
  rename_i cs
  have : cs = (a :: b :: r).toArray := by apply Array.ext'; simpa [Value.cells] using h
  rw [this]

section
variable {H : Type} {enc : TypeId × Value → H} {w : World} {sp : Nat → Bool} {held : Bool}

theorem u8_wf {n : Int} (h : (Lit.int .u8 n).wf = true) : 0 ≤ n ∧ n ≤ 255 := by simpa [Lit.wf, IntKind.min, IntKind.max, IntKind.signed, IntKind.bits] using h
theorem u16_wf {n : Int} (h : (Lit.int .u16 n).wf = true) : 0 ≤ n ∧ n ≤ 65535 := by simpa [Lit.wf, IntKind.min, IntKind.max, IntKind.signed, IntKind.bits] using h

theorem cells_u8 : Try.prog.cellsOf 5 = 1 := by kernel_rfl
theorem cells_u16 : Try.prog.cellsOf 22 = 1 := by kernel_rfl
theorem cells_u32 : Try.prog.cellsOf 76 = 1 := by kernel_rfl
theorem cells_bool : Try.prog.cellsOf 4 = 1 := by kernel_rfl
theorem cells_words : Try.prog.cellsOf 27 = 1 := by kernel_rfl
theorem cells_crv : Try.prog.cellsOf 24 = 5 := by kernel_rfl
theorem cells_raw : Try.prog.cellsOf 49 = 2 := by kernel_rfl

theorem rep_crv {v : Value} {d : DataW H} {ps : List MemPlace} (h : DataW.Trod enc Try.prog w 0 sp held 24 v d ps) : ∃ M A X Y Q, Rep1 (Ctx.args noS) w (crvM M A X Y Q) v ∧ crvP M A X Y Q := by
  obtain ⟨fuel, h⟩ := h
  obtain ⟨hl, f', hf⟩ := trod_fields Try.underlying24 h
  rw [cells_crv] at hl
  match hc : v.cells.toList, hl with
  | [a, b, c, d, e], _ =>
    rw [hc] at hf
    obtain ⟨y0, h0⟩ := hf _ (List.mem_cons_self ..)
    obtain ⟨y1, h1⟩ := hf _ (List.mem_cons_of_mem _ (List.mem_cons_self ..))
    obtain ⟨y2, h2⟩ := hf _ (List.mem_cons_of_mem _ (List.mem_cons_of_mem _ (List.mem_cons_self ..)))
    obtain ⟨y3, h3⟩ := hf _ (List.mem_cons_of_mem _ (List.mem_cons_of_mem _ (List.mem_cons_of_mem _ (List.mem_cons_self ..))))
    obtain ⟨y4, h4⟩ := hf _ (List.mem_cons_of_mem _ (List.mem_cons_of_mem _ (List.mem_cons_of_mem _ (List.mem_cons_of_mem _ (List.mem_cons_self ..)))))
    dsimp only at h0 h1 h2 h3 h4
    rw [cells_u8] at h0 h1 h2 h3
    rw [cells_u16] at h4
    obtain ⟨n0, e0, w0⟩ := trod_int Try.underlying5 h0
    obtain ⟨n1, e1, w1⟩ := trod_int Try.underlying5 h1
    obtain ⟨n2, e2, w2⟩ := trod_int Try.underlying5 h2
    obtain ⟨n3, e3, w3⟩ := trod_int Try.underlying5 h3
    obtain ⟨n4, e4, w4⟩ := trod_int Try.underlying22 h4
    have z0 : [a] = [.int .u8 n0] := e0
    have z1 : [b] = [.int .u8 n1] := e1
    have z2 : [c] = [.int .u8 n2] := e2
    have z3 : [d] = [.int .u8 n3] := e3
    have z4 : [e] = [.int .u16 n4] := e4
    simp only [List.cons.injEq, and_true] at z0 z1 z2 z3 z4
    subst z0 z1 z2 z3 z4
    have hv := agg_cells hc
    have q0 := u8_wf w0; have q1 := u8_wf w1; have q2 := u8_wf w2; have q3 := u8_wf w3; have q4 := u16_wf w4
    refine ⟨n0, n1, n2, n3, n4, (rep1_agg rfl).2 ⟨_, hv, _, _, rfl, rfl, _, _, rfl, rfl, _, _, rfl, rfl, _, _, rfl, rfl, _, _, rfl, rfl, rfl⟩, q0.1, q0.2, q1.1, q1.2, q2.1, q2.2, q3.1, q3.2, q4.1, q4.2⟩

theorem rep_raw {v : Value} {d : DataW H} {ps : List MemPlace} (h : DataW.Trod enc Try.prog w 0 sp held 49 v d ps) : ∃ b l, Rep1 (Ctx.args noS) w (rawM b l) v ∧ Wd l ∧ l.length < 9223372036854775808 := by
  obtain ⟨fuel, h⟩ := h
  obtain ⟨hl, f', hf⟩ := trod_fields Try.underlying49 h
  rw [cells_raw] at hl
  match hc : v.cells.toList, hl with
  | [a, b], _ =>
    rw [hc] at hf
    obtain ⟨y0, h0⟩ := hf _ (List.mem_cons_self ..)
    obtain ⟨y1, h1⟩ := hf _ (List.mem_cons_of_mem _ (List.mem_cons_self ..))
    dsimp only at h0 h1
    rw [cells_bool] at h0
    rw [cells_words] at h1
    obtain ⟨b0, e0⟩ := trod_bool Try.underlying4 h0
    obtain ⟨s, l, e1, hw, hwd, hlen⟩ := trod_words Try.underlying27 Try.underlying76 cells_u32 h1
    have z0 : [a] = [.bool b0] := e0
    have z1 : [b] = [s] := e1
    simp only [List.cons.injEq, and_true] at z0 z1
    subst z0 z1
    refine ⟨b0, l, (rep1_agg rfl).2 ⟨_, agg_cells hc, _, _, rfl, rfl, _, _, rfl, ⟨_, rfl, hw⟩, rfl⟩, hwd, ?_⟩
    have : maxLen = 2 ^ 63 - 1 := rfl
    omega

set_option maxRecDepth 100000 in
/-- What the contract of a law gives. -/
theorem law_calls {fn : Func} {s : ChangeSpec} (ctr : Ctr Try.prog) (hvars : s.vars = []) (hrt : fn.resultTypes = #[4]) {L : List Nat} (hL : L.all (subOk Try.prog L) = true) (hin : ∀ t ∈ fn.params.toList, t ∈ L) {apart fresh handsOn again : Bool} {W : World} {args : Array Value} {ds gs : List (DataW H)} {before : List MemPlace}
    (hW : DataW.Whole enc Try.prog fn.params.toList s.vars apart W args.toList ds gs before)
    (hrep : ∃ ms p, ctr.spec ms = some (p, .ret (.bool true)) ∧ p.holds ∧ RepAll (Ctx.args noS) W ms args.toList)
    (hspec : s.fn H (ds ++ gs) = { results := [.lit (.bool true)], args := ds }) :
    Calls Try.prog ctr.f args W fun e W' => ∃ v, e = .returned v ∧ s.post enc Try.prog fn apart fresh handsOn again W args v W' := by
  obtain ⟨ms, p, h1, h2, h3⟩ := hrep
  refine (ctr.ok noS W ms args p _ h1 h2 (fun _ h => h.elim) h3).mono fun e W' ⟨hE, hh⟩ => ?_
  obtain ⟨v, rfl, hr⟩ : ∃ v, e = .returned v ∧ Rep (Ctx.res noS) W' (.bool true) v := by
    cases e with
    | returned v => exact ⟨v, rfl, hh⟩
    | panicked _ => exact hh.elim
    | outgrown => exact hh.elim
  have hv : v = .bool true := rep_bool hr
  subst hv
  refine ⟨_, rfl, ?_⟩
  have hW' := hW
  obtain ⟨p, q, hA, hV, rfl, _, _⟩ := hW
  rw [hvars] at hV
  obtain ⟨rfl, rfl⟩ : gs = [] ∧ q = [] := trodVars_none hV
  have hg := hE.grown
  refine post_of_same (pa := p) (pv := []) hW' (fun _ _ _ => ?_) (fun sp hsp => ?_) (fun _ _ => ?_) rfl (hg.frame _) hE.frz ?_
  · rw [hspec, hrt]
    exact trodAll_cons_mk (shut_bool Try.underlying4 _) trodAll_mk0
  · rw [hspec]
    exact trodAll_keep hL hE.block sp _ _ _ _ hin hA fun p hp => hsp p (List.mem_append_left _ hp)
  · rw [hspec, hvars]; rfl
  · have hw : Value.okWide Try.prog W' .any 0 4 (.bool true) := okWide_bool_mk Try.underlying4 true
    exact ok_one hrt rfl hw

end
end Go.Proofs.Ytceochfccebebaa
