/-
  Contracts of functions: algoristref01.Sqrt.
-/
import Derived.Test.YtnfmjlhkknndhaaGreatW4

/-
 The evaluator, part 14: a region that draws its order, walked through all its orders.
-/
namespace Go.Proofs.YtnfmjlhkknndhaaGreat
open Go Go.RowKit
theorem look_putS (t u : Nat) (m : MV) : ∀ (l : List (Nat × MV)), look u (putS t m l) = if t = u then m else look u l
 | [] => by
  simp only [putS, look]
  cases h : t.beq u with
  | true => simp only [Nat.beq_eq] at h; simp [h]
  | false =>
   have : t ≠ u := by intro e; subst e; simp at h
   simp [this]
 | (v, x) :: r => by
  simp only [putS]
  cases h1 : v.blt t with
  | true =>
   rw [Nat.blt_eq] at h1
   simp only [cond_true, look, look_putS t u m r]
   cases h : v.beq u with
   | true =>
    simp only [Nat.beq_eq] at h
    subst h
    have hne : t ≠ v := by omega
    simp [hne]
   | false => rfl
  | false =>
   simp only [cond_false]
   cases h2 : v.beq t with
   | true =>
    simp only [Nat.beq_eq] at h2
    subst h2
    simp only [cond_true, look]
    cases h : v.beq u with
    | true => simp only [Nat.beq_eq] at h; simp [h]
    | false =>
     have : v ≠ u := by intro e; subst e; simp at h
     simp [this]
   | false =>
    simp only [cond_false, look]
    cases h : t.beq u with
    | true => simp only [Nat.beq_eq] at h; simp [h]
    | false =>
     have : t ≠ u := by intro e; subst e; simp at h
     simp [this]
section
variable {P : Program} {ops : Array Oper} {S0 : Nat → Prop} {w1 : Base} {Q : Exit → Act → World → Prop}
theorem St.look {s s' : MS} {c : Ctx} {a : Act} {w : World} (h : St S0 w1 s c a w) (hn : s'.n = s.n) (hb : s'.bx = s.bx) (hp : s'.np = s.np) (hl : ∀ t, Go.Proofs.YtnfmjlhkknndhaaGreat.look t s'.tm = Go.Proofs.YtnfmjlhkknndhaaGreat.look t s.tm) : St S0 w1 s' c a w :=
 ⟨hb ▸ h.mem, fun t => by rw [hl]; exact h.tm t, by rw [hn]; exact h.size, h.defers, by rw [hp]; exact h.np⟩
theorem St.sorted {s : MS} {c : Ctx} {a : Act} {w : World} {d : Option Nat} {m : MV} (h : St S0 w1 (s.putO d m) c a w) : St S0 w1 (s.putSO d m) c a w := by
 cases d with
 | none => exact h
 | some t => exact h.look rfl rfl rfl (fun u => by show Go.Proofs.YtnfmjlhkknndhaaGreat.look u (putS t m s.tm) = _; rw [look_putS]; show _ = Go.Proofs.YtnfmjlhkknndhaaGreat.look u (s.put t m).tm; rw [look_put])
theorem wpOp_Q {Q1 : Exit → Act → World → Prop} (hp : ∀ ch a w, ¬ Q1 (.panic ch) a w) (ho : ∀ a w, ¬ Q1 .outgrown a w) {i : Nat} {K K' : Act → World → Prop} (hK : ∀ a w, K a w → K' a w) {a : Act} {w : World} (h : wpOp P ops Q1 i K a w) : wpOp P ops Q i K' a w := by
 unfold wpOp at h ⊢
 split at h
 ·exact hK _ _ h
 ·rename_i o _
  split at h
  ·rename_i hw
   rw [if_pos hw]
   rcases h with h | ⟨_, h⟩
   ·refine .inl ?_
    unfold Oper.wp at h ⊢
    generalize (execOp a.eval o).run P w = res at h ⊢
    cases res with
    | ok nx w' =>
     cases nx with
     | value v => exact hK _ _ h
     | skip => exact hK _ _ h
     | defer d => exact hK _ _ h
     | enter f args =>
      refine Calls.mono h ?_
      intro e w'' he
      cases e with
      | returned v => exact hK _ _ he
      | panicked c => exact (hp _ _ _ he).elim
      | outgrown => exact (let ⟨a, w, q⟩ := he; (ho a w q).elim)
     | row rw args => exact Rows.mono h fun v w'' hv => hK _ _ hv
     | round l f t x y => exact h.elim
     | _ => exact h.elim
    | halt hh w' =>
     cases hh
     all_goals first | exact (hp _ _ _ h).elim | exact h.elim
   ·exact (let ⟨a, w, q⟩ := h; (ho a w q).elim)
  ·rename_i hw
   rw [if_neg hw]
   exact hK _ _ h
theorem freeTm_spec {i : Nat} : ∀ (l : List (Nat × MV)), freeTm i l = true → ∀ t, (Go.Proofs.YtnfmjlhkknndhaaGreat.look t l).ment i = false
 | [], _, t => rfl
 | (u, m) :: r, h, t => by
  simp only [freeTm, Bool.and_eq_true, Bool.not_eq_true'] at h
  simp only [Go.Proofs.YtnfmjlhkknndhaaGreat.look]
  cases u.beq t with
  | true => exact h.1
  | false => exact freeTm_spec r h.2 t
theorem step_by {o : Oper} {i : Nat} (hi : ops[i]? = some o) {E : Env P} {s : MS} {c : Ctx} {a : Act} {w : World} {K : MS → Prop} {K' : Act → World → Prop} (h : evSeq E ops.toList (fun _ => False) [o] s K) (hs : St S0 w1 s c a w)
  (hK : ∀ s' c' a' w', K s' → St S0 w1 s' c' a' w' → K' a' w') : wpOp P ops Q i K' a w := by
 have := evSeq_sound (Q := fun e a' w' => match e with | .normal => K' a' w' | _ => False) (ops := ops) (w0 := w1) (fun m v w' a' hk _ _ _ => hk.elim) [o] s _ c a w h hs (fun s' c' a' w' q1 q2 _ => hK s' c' a' w' q1 q2)
 exact wpOp_Q (fun _ _ _ q => q) (fun _ _ q => q) (fun a' w' q => q) (wpOp_of_wpList hi this)
theorem stepOf_ok {o : Oper} {i : Nat} (hi : ops[i]? = some o) (hg : o.guard = none) {s : MS} {p : OProp} {s' : MS} (hd : dstOk o.dst s.n = true) (h : stepOf s o (ev1 (env0 P) s o.op) = some (p, s')) (hp : p.holds) {c : Ctx} {a : Act} {w : World} (hs : St S0 w1 s c a w) :
  wpOp P ops Q i (fun a' w' => ∃ c', St S0 w1 s' c' a' w') a w := by
 cases he : ev1 (env0 P) s o.op with
 | val p' m =>
  rw [he] at h
  simp only [stepOf, Option.some.injEq, Prod.mk.injEq] at h
  obtain ⟨rfl, rfl⟩ := h
  refine step_by hi (E := env0 P) (K := fun s2 => s2 = s.putO o.dst m) ?_ hs (fun s2 c' a' w' q1 q2 => ⟨c', by subst q1; exact q2.sorted⟩)
  simp only [evSeq, hg, hd, he, cond_true]
  exact oand_holds.2 ⟨hp, trivial⟩
 | upd p' s2 m =>
  rw [he] at h
  simp only [stepOf, Option.some.injEq, Prod.mk.injEq] at h
  obtain ⟨rfl, rfl⟩ := h
  refine step_by hi (E := env0 P) (K := fun s3 => s3 = s2.putO o.dst m) ?_ hs (fun s3 c' a' w' q1 q2 => ⟨c', by subst q1; exact q2.sorted⟩)
  simp only [evSeq, hg, hd, he, cond_true]
  exact oand_holds.2 ⟨hp, trivial⟩
 | new _ _ _ => rw [he] at h; simp [stepOf] at h
 | res _ _ _ => rw [he] at h; simp [stepOf] at h
 | pan _ => rw [he] at h; simp [stepOf] at h
 | stuck => rw [he] at h; simp [stepOf] at h
theorem St.Ab {s : MS} {wd len : Nat} {f : Nat → MV} {d : Option Nat} {c : Ctx} {a : Act} {w : World} (h : St S0 w1 (({ s with bx := s.bx ++ [⟨false, .rows wd len f⟩] } : MS).putO d (.bs s.bx.length 0 len)) c a w) (hd : dstOk d s.n = true)
  (ht : freeTm s.bx.length s.tm = true) (hb : bxFree s.bx.length 0 s.bx = true) (hpin : ∀ b z, ¬ w1.pin s.bx.length b z) : ∃ c', St S0 w1 (s.putO d (.sl wd len f)) c' a w := by
 have hM : Mem S0 w1 (s.bx ++ [⟨false, .rows wd len f⟩]) c w := by
  have := h.mem
  rwa [putO_bx] at this
 have hbf : bxFree s.bx.length 0 (s.bx ++ [⟨false, .rows wd len f⟩]) = true := by
  have : ∀ (l : List Box) (j : Nat), bxFree s.bx.length j l = true → bxFree s.bx.length j (l ++ [⟨false, .rows wd len f⟩]) = true := by
   intro l
   induction l with
   | nil => intro j _; simp [bxFree]
   | cons x r ih =>
    intro j hj
    simp only [bxFree, Bool.and_eq_true] at hj
    simp only [List.cons_append, bxFree, Bool.and_eq_true]
    exact ⟨hj.1, ih _ hj.2⟩
  exact this _ _ hb
 obtain ⟨m1, k1⟩ := hM.drop hbf ⟨false, .rows wd len f⟩ hpin
 generalize hcd : ctxOf S0 (setNth (s.bx ++ [⟨false, .rows wd len f⟩]) s.bx.length ⟨false, .rows wd len f⟩) (c.but s.bx.length).live c.β c.sz = cd at m1 k1
 have hl : ∀ i, cd.live i ↔ c.live i ∧ i ≠ s.bx.length := by subst hcd; exact fun i => Iff.rfl
 have hβ : cd.β = c.β := by subst hcd; rfl
 have hsz : cd.sz = c.sz := by subst hcd; rfl
 have hlt : ∀ i, cd.live i → i < s.bx.length := fun i hi => by
  have h1 := (m1.fresh i hi).2.2
  rw [length_setNth, List.length_append, List.length_singleton] at h1
  have := ((hl i).1 hi).2
  omega
 have hnth : ∀ i, i < s.bx.length → nth (setNth (s.bx ++ [⟨false, .rows wd len f⟩]) s.bx.length ⟨false, .rows wd len f⟩) i = nth s.bx i := fun i hi => by
  rw [nth_setNth, if_neg (by omega)]
  simp only [nth_eq]
  rw [List.getElem?_append_left hi]
 have m2 : Mem S0 w1 s.bx cd w := by
  refine ⟨m1.ext, m1.S0lt, m1.gl, m1.hS, fun b => (m1.hW b).trans ?_, m1.inj, fun i hi => ⟨(m1.fresh i hi).1, (m1.fresh i hi).2.1, hlt i hi⟩, fun i b hi hb => m1.box i b hi (by rw [hnth i (hlt i hi)]; exact hb), m1.pin⟩
  constructor
  ·rintro ⟨i, b0, h1, h2, h3, h4⟩
   exact ⟨i, b0, h1, by rw [hnth i (hlt i h1)] at h2; exact h2, h3, h4⟩
  ·rintro ⟨i, b0, h1, h2, h3, h4⟩
   exact ⟨i, b0, h1, by rw [hnth i (hlt i h1)]; exact h2, h3, h4⟩
 have htm : ∀ t, d ≠ some t → Rep cd w (Go.Proofs.YtnfmjlhkknndhaaGreat.look t s.tm) (a.tmps.getD t undef) := fun t ht' => by
  have h1 := h.tm t
  rw [look_putO _ _ _ _ ht'] at h1
  exact (Rep.but (freeTm_spec _ ht t) h1).keep k1
 refine ⟨cd, by rw [putO_bx]; exact m2, fun t => ?_, by rw [putO_n]; have := h.size; rw [putO_n] at this; exact this, h.defers, fun i b z q => ?_⟩
 ·by_cases hdt : d = some t
  ·subst hdt
   rw [look_putO_same]
   have h1 := h.tm t
   rw [look_putO_same] at h1
   obtain ⟨ad, cap, e1, e2, e3⟩ := rep_cell h1 rfl (by simp) rfl
   refine (rep1_iff rfl).2 ((rep1_cell rfl (by simp)).2 ⟨ad, cap, e1, e2, fun hpos => ?_⟩)
   rcases e3 with ⟨rfl, hlv, hcap⟩ | ⟨_, h0, _⟩
   ·obtain ⟨arr, ty, q1, q2, q3, q4⟩ := hM.box s.bx.length ⟨false, .rows wd len f⟩ hlv (by simp [nth_eq])
    refine ⟨c.β s.bx.length, 0, rfl, fun hS => ?_, fun i hi => ?_⟩
    ·rcases (m2.hS _).1 hS with q | q
     ·exact hM.notS0 hlv q
     ·obtain ⟨j, b0, r1, _, _, r4⟩ := (m2.hW _).1 q
      rw [hβ] at r4
      have := hM.inj j s.bx.length ((hl j).1 r1).1 hlv r4
      exact ((hl j).1 r1).2 this
    ·obtain ⟨cs, r1, r2, r3⟩ := q4 i hi
     refine ⟨cs, r1, RepC.keep k1.elem (f i) cs (show RepC (c.but s.bx.length).elem w (f i) cs from r2), arr, ty, _, q1, fun j v hj => ?_⟩
     rw [Nat.zero_add]
     exact r3 j v hj
   ·omega
  ·rw [look_putO _ _ _ _ hdt]
   exact htm t hdt
 ·have := h.np i b z q
  cases d <;> exact this
theorem cond_new {b : Bool} {x y : Act1} (h : cond b x .stuck = y) (hy : y ≠ .stuck) : x = y := by
 cases b with
 | true => exact h
 | false => exact absurd h.symm hy
theorem stepAll_ok {o : Oper} {i : Nat} (hi : ops[i]? = some o) {s : MS} {p : OProp} {s' : MS} (h : stepAll P s o = some (p, s')) (hp : p.holds) {c : Ctx} {a : Act} {w : World} (hs : St S0 w1 s c a w) :
  wpOp P ops Q i (fun a' w' => ∃ c', St S0 w1 s' c' a' w') a w := by
 unfold stepAll at h
 split at h
 ·simp at h
 ·rename_i hg
  cases hd : dstOk o.dst s.n with
  | false => rw [hd] at h; simp at h
  | true =>
   rw [hd, cond_true] at h
   split at h
   ·rename_i t len parts ho
    split at h
    ·rename_i p' b mk he
     split at h
     ·rename_i wd n f hb
      cases hc : (!b.fz && freeTm s.bx.length s.tm && bxFree s.bx.length 0 s.bx) with
      | false => rw [hc] at h; simp at h
      | true =>
       rw [hc] at h
       simp only [cond_true, Option.some.injEq, Prod.mk.injEq] at h
       obtain ⟨rfl, rfl⟩ := h
       simp only [Bool.and_eq_true, Bool.not_eq_true'] at hc
       have hbe : b = ⟨false, .rows wd n f⟩ := by cases b; simp only at hb hc; rw [hb, hc.1.1]
       subst hbe
       have hmk : mk = fun i => .bs i 0 n := by
        unfold evBuildSlice at he
        split at he
        ·split at he
         ·split at he
          ·have := cond_new he (by simp)
           simp at this
          ·simp at he
         ·have := cond_new he (by simp)
          simp only [Act1.new.injEq, Box.mk.injEq, BC.rows.injEq, true_and] at this
          obtain ⟨_, ⟨_, rfl, _⟩, rfl⟩ := this
          rfl
         ·simp at he
        ·simp at he
       have hev : ev1 (env0 P) s o.op = .new p' ⟨false, .rows wd n f⟩ mk := by rw [ho]; exact he
       refine step_by hi (E := env0 P) (K := fun s2 => s2 = ({ s with bx := s.bx ++ [⟨false, .rows wd n f⟩] } : MS).putO o.dst (.bs s.bx.length 0 n)) ?_ hs (fun s2 c' a' w' q1 q2 => ?_)
       ·simp only [evSeq, hg, hd, hev, cond_true]
        exact oand_holds.2 ⟨hp, by rw [hmk]⟩
       ·subst q1
        obtain ⟨c2, h2⟩ := q2.Ab hd hc.1.2 hc.2 (fun b z q => by have := (hs.mem.fresh _ (hs.mem.pin _ _ _ q).1).2.2; omega)
        exact ⟨c2, h2.sorted⟩
     ·simp at h
    ·simp at h
   ·split at h
    ·rename_i i' _
     exact stepOf_ok (s := s.forget i') hi hg hd h hp (hs.forget i')
    ·simp at h
   ·exact stepOf_ok hi hg hd h hp hs
theorem mem_allFl : ∀ (n : Nat) (fl : List Bool), fl.length = n → fl ∈ allFl n
 | 0, fl, h => by
  have : fl = [] := List.eq_nil_of_length_eq_zero h
  subst this
  simp [allFl]
 | n + 1, [], h => by simp at h
 | n + 1, b :: r, h => by
  have := mem_allFl n r (by simpa using h)
  simp only [allFl, List.mem_append, List.mem_map]
  cases b
  ·exact .inl ⟨r, this, rfl⟩
  ·exact .inr ⟨r, this, rfl⟩
theorem draw_spec {L : List Oper} {s : MS} {ps : List OProp} : ∀ (fls : List (List Bool)), drawL P L s fls = drawR P L s ps fls → ∀ fl ∈ fls, downB L fl fl = true → ∀ k o, (k, o) ∈ readyAt 0 L fl fl → ∀ s1, runF P L fl s = some s1 →
  ∃ s2, runF P L (fl.set k true) s = some s2 ∧ stepAll P s1 o = some (ps.getD k none, s2)
 | [], _, fl, hfl => by simp at hfl
 | f0 :: r, h, fl, hfl => by
  simp only [drawL, drawR, List.cons.injEq] at h
  rcases List.mem_cons.1 hfl with rfl | hfl
  ·intro hd k o hk s1 hs1
   have h1 := h.1
   rw [hd, cond_true, cond_true] at h1
   have h2 := List.map_inj_left.1 h1 (k, o) hk
   simp only [hs1] at h2
   split at h2
   ·rename_i s2 hs2
    exact ⟨s2, hs2, by simpa using h2⟩
   ·simp at h2
  ·exact draw_spec r h.2 fl hfl
theorem edgesIn_spec {fl : List Bool} {o : Oper} (h : ∀ e ∈ o.after.toList, Region.binds .any e = true → fl.getD e.on false = true) : edgesIn fl o = true := by
 simp only [edgesIn, List.all_eq_true, Bool.or_eq_true, Bool.not_eq_true']
 intro e he
 cases hb : Region.binds .any e with
 | false => exact .inl rfl
 | true => exact .inr (h e he hb)
theorem downB_spec (fl : List Bool) : ∀ (L : List Oper) (fs : List Bool), (∀ i o, nth L i = some o → fs.getD i false = true → edgesIn fl o = true) → downB L fs fl = true
 | [], _, _ => by simp [downB]
 | _ :: _, [], _ => by simp [downB]
 | o :: r, f :: fs, h => by
  simp only [downB, Bool.and_eq_true, Bool.or_eq_true, Bool.not_eq_true']
  refine ⟨?_, downB_spec fl r fs fun i o' h1 h2 => h (i + 1) o' h1 (by simpa using h2)⟩
  cases f with
  | false => exact .inl rfl
  | true => exact .inr (h 0 o rfl (by simp))
theorem readyAt_spec (fl : List Bool) : ∀ (L : List Oper) (fs : List Bool) (k i : Nat) (o : Oper), nth L i = some o → i < fs.length → fs.getD i true = false → edgesIn fl o = true → (k + i, o) ∈ readyAt k L fs fl
 | [], _, _, _, _, h, _, _, _ => by simp [nth] at h
 | _ :: _, [], _, _, _, _, h, _, _ => by simp at h
 | o' :: r, f :: fs, k, 0, o, h, _, h2, h3 => by
  simp only [nth, Option.some.injEq] at h
  subst h
  have h2 : f = false := by simpa using h2
  subst h2
  simp [readyAt, h3]
 | o' :: r, f :: fs, k, i + 1, o, h, hl, h2, h3 => by
  have := readyAt_spec fl r fs (k + 1) i o h (by simpa using hl) (by simpa using h2) h3
  rw [show k + (i + 1) = k + 1 + i by omega]
  simp only [readyAt]
  cases (!f && edgesIn fl o') with
  | true => exact List.mem_cons_of_mem _ this
  | false => exact this
theorem getD_toList (l : Array Bool) (i : Nat) (b : Bool) : l.toList.getD i b = l.getD i b := by
 simp [List.getD_eq_getElem?_getD, Array.getD_eq_getD_getElem?]
theorem wp_of_all {s s' : MS} (hback : backAll 0 ops.toList = true) (heq : drawL P ops.toList s (allFl ops.toList.length) = drawR P ops.toList s (runPs P ops.toList s) (allFl ops.toList.length)) (hps : ∀ p ∈ runPs P ops.toList s, p.holds) (hfin : runF P ops.toList (List.replicate ops.toList.length true) s = some s')
  (hK : ∀ c' a' w', St S0 w1 s' c' a' w' → Q .normal a' w') : ∀ (fuel : Nat) (listed : Array Bool) (c : Ctx) (a : Act) (w : World), left ops listed = fuel → Down ops listed → (∃ s1, runF P ops.toList listed.toList s = some s1 ∧ St S0 w1 s1 c a w) → wpAny P .any ops Q fuel listed a w := by
 have hps' : ∀ k, ((runPs P ops.toList s).getD k none).holds := by
  intro k
  rw [List.getD_eq_getElem?_getD]
  cases hk : (runPs P ops.toList s)[k]? with
  | none => trivial
  | some p => exact hps p (List.mem_of_getElem? hk)
 have hdone : ∀ (listed : Array Bool) (c : Ctx) (a : Act) (w : World), Down ops listed → (∀ j, j < ops.size → listed.getD j false = true) → (∃ s1, runF P ops.toList listed.toList s = some s1 ∧ St S0 w1 s1 c a w) → Q .normal a w := by
  rintro listed c a w hd hall ⟨s1, h1, h2⟩
  have : listed.toList = List.replicate ops.toList.length true := by
   apply List.ext_getElem?
   intro j
   by_cases hj : j < ops.size
   ·have h3 := hall j hj
    rw [← getD_toList, List.getD_eq_getElem?_getD] at h3
    have hj' : j < listed.toList.length := by simpa [hd.size] using hj
    rw [List.getElem?_eq_getElem hj'] at h3 ⊢
    rw [List.getElem?_replicate, if_pos (by simpa using hj)]
    simpa using h3
   ·rw [List.getElem?_eq_none (by simp [hd.size]; omega), List.getElem?_eq_none (by simp; omega)]
  rw [this, hfin, Option.some.injEq] at h1
  subst h1
  exact hK _ _ _ h2
 have hnoready : ∀ (listed : Array Bool), Down ops listed → Region.ready .any ops listed = [] → ∀ j, j < ops.size → listed.getD j false = true := by
  intro listed hd h0 j
  induction j using Nat.strongRecOn with
  | _ j ih =>
   intro hj
   cases hb : listed.getD j false with
   | true => rfl
   | false =>
    exfalso
    have : j ∈ Region.ready .any ops listed := mem_ready.2 ⟨hj, by rw [getD_true_false (by rw [hd.size]; exact hj), hb], ops[j], by simp [hj], fun e he hbd => by
     have := backAll_spec ops.toList 0 hback j ops[j] (by rw [nth_eq]; simp [hj]) e he hbd
     exact ih e.on (by omega) (by omega)⟩
    rw [h0] at this
    simp at this
 intro fuel
 induction fuel with
 | zero =>
  intro listed c a w hleft hd h
  have hall : ∀ j, j < ops.size → listed.getD j false = true := by
   intro j hj
   cases hb : listed.getD j false with
   | true => rfl
   | false =>
    exfalso
    have hmem : j ∈ (List.range ops.size).filter fun i => !listed.getD i true := by
     simp only [List.mem_filter, List.mem_range, hj, true_and]
     rw [getD_true_false (by rw [hd.size]; exact hj), hb]; rfl
    unfold left at hleft
    rw [List.length_eq_zero_iff] at hleft
    rw [hleft] at hmem
    simp at hmem
  refine ⟨?_, hdone listed c a w hd hall h⟩
  apply List.eq_nil_iff_forall_not_mem.2
  intro i hi
  obtain ⟨h1, h2, _⟩ := mem_ready.1 hi
  rw [getD_true_false (by rw [hd.size]; exact h1), hall i h1] at h2
  simp at h2
 | succ fuel ih =>
  intro listed c a w hleft hd h
  refine ⟨fun h0 => hdone listed c a w hd (hnoready listed hd h0) h, fun i hi => ?_⟩
  obtain ⟨s1, h1, h2⟩ := h
  obtain ⟨q1, q2, o, q3, q4⟩ := mem_ready.1 hi
  have hl : listed.toList ∈ allFl ops.toList.length := mem_allFl _ _ (by simp [hd.size])
  have hdn : downB ops.toList listed.toList listed.toList = true := downB_spec _ _ _ fun j oj hj hfj => edgesIn_spec fun e he hb => by
   rw [getD_toList] at hfj ⊢
   exact hd.down j oj (by rw [nth_eq] at hj; simpa using hj) hfj e he hb
  have hrd := readyAt_spec listed.toList ops.toList listed.toList 0 i o (by rw [nth_eq]; simpa using q3) (by simp [hd.size, q1]) (by rw [getD_toList]; exact q2) (edgesIn_spec fun e he hb => by rw [getD_toList]; exact q4 e he hb)
  rw [Nat.zero_add] at hrd
  obtain ⟨s2, r1, r2⟩ := draw_spec _ heq _ hl hdn i o hrd s1 h1
  refine wpOp_mono (fun a' w' h' => ?_) (stepAll_ok (Q := Q) q3 r2 (hps' i) h2)
  obtain ⟨c', h'⟩ := h'
  exact ih _ c' a' w' (by have := left_put hd.size hi; omega) (hd.put hi) ⟨s2, by rw [Array.toList_setIfInBounds]; exact r1, h'⟩
theorem evAll_core {s : MS} {K : MS → Prop} {c : Ctx} {a : Act} {w : World} (h : evAll P ops.toList s K) (hs : St S0 w1 s c a w) (hK : ∀ s' c' a' w', K s' → St S0 w1 s' c' a' w' → Q .normal a' w') : RegWp P ops true Q a w := by
 obtain ⟨h0, ⟨h1⟩, h2⟩ := h
 have hall : ∀ (l : List OProp) (q : Prop), psHold l q → (∀ p ∈ l, p.holds) ∧ q := by
  intro l
  induction l with
  | nil => intro q h; exact ⟨fun p hp => by simp at hp, h⟩
  | cons p r ih =>
   intro q h
   obtain ⟨hp, hr⟩ := oand_holds.1 h
   obtain ⟨h3, h4⟩ := ih q hr
   exact ⟨fun x hx => by rcases List.mem_cons.1 hx with rfl | hx; exact hp; exact h3 x hx, h4⟩
 obtain ⟨h3, h4⟩ := hall _ _ h2
 split at h4
 ·rename_i s' hfin
  have e : Ext w { w with drawn := w.drawn + 1 } := ⟨rfl, rfl, Nat.le_refl _, fun _ _ => rfl, fun _ _ => rfl⟩
  obtain ⟨hm, hk⟩ := hs.mem.grow e
  have hst : St S0 w1 s _ a { w with drawn := w.drawn + 1 } := hs.keepTm hk hm rfl rfl rfl
  have hrep : ∀ j, (Array.replicate ops.size false).getD j false = false := by
   intro j
   simp only [Array.getD_eq_getD_getElem?, Array.getElem?_replicate]
   split <;> rfl
  refine wp_of_all h0 h1 h3 hfin (fun c' a' w' q => hK s' c' a' w' h4 q) ops.size _ _ a _ ?_ ⟨by simp, fun i o _ hl => ?_⟩ ⟨s, ?_, hst⟩
  ·have : left ops (Array.replicate ops.size false) = ops.size - 0 := left_suffix (by simp) (fun j => by rw [hrep j]; simp)
   simpa using this
  ·rw [hrep i] at hl; simp at hl
  ·have : ∀ (L : List Oper) (n : Nat), runF P L (List.replicate n false) s = some s := by
    intro L
    induction L with
    | nil => intro n; cases n <;> rfl
    | cons o r ih => intro n; cases n with
     | zero => rfl
     | succ n => simp only [List.replicate_succ, runF, cond_false]; exact ih n
   simpa using this ops.toList ops.size
 ·exact h4.elim
end
end Go.Proofs.YtnfmjlhkknndhaaGreat
/-
 The evaluator, part 11: code is right.
-/
namespace Go.Proofs.YtnfmjlhkknndhaaGreat
open Go Go.RowKit
section
variable {F : Fence} {P : Program} {n : Nat} {S0 : Nat → Prop} {w0 : Base} {pin : Nat → Nat → Sz → Prop} {zs : Option Ex → List (Nat × Obj)} {H : Hnd} {X : XE P}
theorem seqX_sound (hmix : P.follows .mixedOrders = true) (hF : Fw F P) (hY : YSnd F (n - 1) P S0 w0 pin zs H) (hz : ∀ pe z, z ∈ zs pe → z.2.isWalk = false) {ops : Array Oper} {Q : Exit → Act → World → Prop} {K : MS → XS → Prop}
  (hK : ∀ s' x' c' a' w', K s' x' → XSt P S0 w0 pin zs s' x' c' a' w' → Q .normal a' w') : ∀ (l : List Oper) (s : MS) (x : XS) (c : Ctx) (a : Act) (w : World), (∀ o ∈ l, ∀ c, o.op ≠ .defer c) → evSeqX X H ops.toList l s x K → XSt P S0 w0 pin zs s x c a w →
  wpListIn F n P ops Q l a w
 | [], s, x, c, a, w, _, h, hs => hK s x c a w h hs
 | o :: r, s, x, c, a, w, hd, h, hs => step_ok hmix hF hY hz (hd o (by simp)) h hs fun s' x' c' a' w' q1 q2 => seqX_sound hmix hF hY hz hK r s' x' c' a' w' (fun o ho => hd o (by simp [ho])) q1 q2
theorem regionX_sound (hmix : P.follows .mixedOrders = true) (hF : Fw F P) (hY : YSnd F (n - 1) P S0 w0 pin zs H) (hz : ∀ pe z, z ∈ zs pe → z.2.isWalk = false) {ops : Array Oper} {draw : Bool} {id : Nat} {Q : Exit → Act → World → Prop} (hQ : ∀ a w, ¬ Q .outgrown a w) {K : MS → XS → Prop}
  (hK : ∀ s' x' c' a' w', K s' x' → XSt P S0 w0 pin zs s' x' c' a' w' → Q .normal a' w') {s : MS} {x : XS} {c : Ctx} {a : Act} {w : World} (hd : (ops.toList.all fun o => ndOp o.op) = true) (ha : allOk X (.region id ops draw)) (h : evRegionX X H id ops.toList draw s x K) (hs : XSt P S0 w0 pin zs s x c a w) :
  (Code.region id ops draw).wpIn F n P Q a w := by
 unfold evRegionX at h
 split at h
 ·exact wpIn_region_list (seqX_sound hmix hF hY hz hK ops.toList s x c a w (nd_ops hd) h hs)
 ·obtain ⟨w1, hst, _, hback⟩ := hs.with_
  split at h
  ·rename_i L hL
   have e : ops.toList = L := by simpa only [allOk, hL] using ha
   subst e
   exact wpIn_of_reg hmix hF hQ hd (evAll_core h hst (fun s' c' a' w' q1 q2 => hK s' x c' a' w' q1 (hback _ _ _ _ q2)))
  exact wpIn_of_reg hmix hF hQ hd (evRegion_core (fun m v w' a' hk => hk.elim) h hst (fun s' c' a' w' q1 q2 _ => hK s' x c' a' w' q1 (hback _ _ _ _ q2)))
structure RSnd (F : Fence) (n : Nat) (P : Program) (S0 : Nat → Prop) (w0 : Base) (pin : Nat → Nat → Sz → Prop) (zs : Option Ex → List (Nat × Obj)) (ha : Code → Prop) (H : Hnd) : Prop where
 h : ∀ (g : Operand) (ps : Array Tmp) (p q : Code) (s : MS) (x : XS) (K : XK) (c : Ctx) (a : Act) (w : World) (Q : Exit → Act → World → Prop), (∀ a w, ¬ Q .outgrown a w) → (ha p ∧ ha q) → H.rng g ps p q s x K → XSt P S0 w0 pin zs s x c a w →
  (∀ e s' x' c' a' w', K e s' x' → XSt P S0 w0 pin zs s' x' c' a' w' → Q e.out a' w') → (Code.rangeFunc g ps p q).wpIn F n P Q a w
theorem noOut_then {Q : Exit → Act → World → Prop} (hQ : ∀ a w, ¬ Q .outgrown a w) (K : Act → World → Prop) : ∀ a w, ¬ Exit.then K Q .outgrown a w := hQ
theorem evX_sound (hmix : P.follows .mixedOrders = true) (hF : Fw F P) (hY : YSnd F (n - 1) P S0 w0 pin zs H) (hR : RSnd F n P S0 w0 pin zs (allOk X) H) (hz : ∀ pe z, z ∈ zs pe → z.2.isWalk = false) :
  ∀ (c : Code) (s : MS) (x : XS) (K : XK) (ct : Ctx) (a : Act) (w : World) (Q : Exit → Act → World → Prop), (∀ a w, ¬ Q .outgrown a w) → ndCode c = true → allOk X c → evX X H c s x K → XSt P S0 w0 pin zs s x ct a w →
  (∀ e s' x' c' a' w', K e s' x' → XSt P S0 w0 pin zs s' x' c' a' w' → Q e.out a' w') → c.wpIn F n P Q a w
 | .skip, s, x, K, ct, a, w, Q, hQ, hd, ha, h, hs, hK => wpIn_skip (hK .normal s x ct a w h hs)
 | .label l, s, x, K, ct, a, w, Q, hQ, hd, ha, h, hs, hK => wpIn_label (hK .normal s x ct a w h hs)
 | .region id ops draw, s, x, K, ct, a, w, Q, hQ, hd, ha, h, hs, hK => by
  simp only [evX] at h
  obtain ⟨w1, hst, _, hback⟩ := hs.with_
  exact regionX_sound hmix hF hY hz hQ (fun s' x' c' a' w' q1 q2 => hK .normal s' x' c' a' w' q1 q2) hd ha h (hback _ _ _ _ (hst.frzs _))
 | .seq p q, s, x, K, ct, a, w, Q, hQ, hd, ha, h, hs, hK => by
  simp only [evX] at h
  simp only [ndCode, Bool.and_eq_true] at hd
  refine wpIn_seq (evX_sound hmix hF hY hR hz p s x _ ct a w _ hQ hd.1 ha.1 h hs (fun e s' x' c' a' w' q1 q2 => ?_))
  cases e with
  | normal => exact evX_sound hmix hF hY hR hz q s' x' K c' a' w' Q hQ hd.2 ha.2 q1 q2 hK
  | exit id => exact hK (.exit id) s' x' c' a' w' q1 q2
  | ret => exact hK .ret s' x' c' a' w' q1 q2
 | .cond cc p q, s, x, K, ct, a, w, Q, hQ, hd, ha, h, hs, hK => by
  simp only [evX] at h
  simp only [ndCode, Bool.and_eq_true] at hd
  split at h
  ·rename_i t
   split at h
   ·rename_i b hb
    obtain ⟨w1, hst, _, hback⟩ := hs.with_
    have hr := hst.tm t
    rw [hb] at hr
    have he : a.eval (.tmp t) = .bool b := rep_bool hr
    unfold Br at h
    cases b with
    | true =>
     rw [cond_true] at h
     exact wpIn_cond he (evX_sound hmix hF hY hR hz p _ x K ct a w Q hQ hd.1 ha.1 h (hback _ _ _ _ (hst.again hr)) hK)
    | false =>
     rw [cond_false] at h
     exact wpIn_cond he (evX_sound hmix hF hY hR hz q _ x K ct a w Q hQ hd.2 ha.2 h (hback _ _ _ _ (hst.again hr)) hK)
   ·exact h.elim
  ·exact h.elim
 | .block id p, s, x, K, ct, a, w, Q, hQ, hd, ha, h, hs, hK => by
  simp only [evX] at h
  refine wpIn_block (evX_sound hmix hF hY hR hz p s x _ ct a w _ (fun a w => hQ a w) hd ha h hs (fun e s' x' c' a' w' q1 q2 => ?_))
  cases e with
  | normal => exact hK .normal s' x' c' a' w' q1 q2
  | exit j =>
   simp only [Ex.out, Exit.inBlock]
   have q1 : cond (j.beq id) (K .normal s' x') (K (.exit j) s' x') := q1
   cases hj : j.beq id with
   | true =>
    rw [hj, cond_true] at q1
    simp only [Nat.beq_eq] at hj
    rw [if_pos hj]
    exact hK .normal s' x' c' a' w' q1 q2
   | false =>
    rw [hj, cond_false] at q1
    have hne : ¬ j = id := by intro e; subst e; simp at hj
    rw [if_neg hne]
    exact hK (.exit j) s' x' c' a' w' q1 q2
  | ret => exact hK .ret s' x' c' a' w' q1 q2
 | .loop p, s, x, K, ct, a, w, Q, hQ, hd, ha, h, hs, hK => by
  simp only [evX] at h
  generalize hann : X.xann (firstRegion p) s x = A at h
  unfold evLoopX at h
  split at h
  ·exact h.elim
  ·rename_i ι I T Xm μ
   obtain ⟨⟨i0, hi0, hle0, hlx0⟩, hround⟩ := h
   refine wpIn_loop_ghost (fun m a' w' => ∃ i c', I i ∧ μ i = m ∧ XSt P S0 w0 pin zs (T i) ⟨Xm i, none⟩ c' a' w') (μ i0) (by
    obtain ⟨c', hc'⟩ := hs.le hle0 hlx0
    exact ⟨i0, c', hi0, rfl, hc'⟩) ?_
   rintro m a' w' ⟨i, c', hi, rfl, hst⟩
   refine evX_sound hmix hF hY hR hz p (T i) _ _ c' a' w' _ (noOut_then hQ _) hd ha (hround i hi) hst (fun e s2 x2 c2 a2 w2 q1 q2 => ?_)
   cases e with
   | normal =>
    obtain ⟨j, hj, hle, hlx, hlt⟩ := q1
    obtain ⟨c3, hc3⟩ := q2.le hle hlx
    exact ⟨μ j, hlt, j, c3, hj, rfl, hc3⟩
   | exit id => exact hK (.exit id) s2 x2 c2 a2 w2 q1 q2
   | ret => exact hK .ret s2 x2 c2 a2 w2 q1 q2
 | .exit id, s, x, K, ct, a, w, Q, hQ, hd, ha, h, hs, hK => wpIn_exit (hK (.exit id) s x ct a w h hs)
 | .ret, s, x, K, ct, a, w, Q, hQ, hd, ha, h, hs, hK => wpIn_ret (hK .ret s x ct a w h hs)
 | .rangeFunc g ps p q, s, x, K, ct, a, w, Q, hQ, hd, ha, h, hs, hK => hR.h g ps p q s x K ct a w Q hQ ha (by simpa only [evX] using h) hs hK
 | .scope p, s, x, K, ct, a, w, Q, hQ, hd, ha, h, hs, hK => by simp only [evX] at h; exact h.elim
 | .goto _, s, x, K, ct, a, w, Q, hQ, hd, ha, h, hs, hK => by simp only [evX] at h; exact h.elim
 | .refuse _, s, x, K, ct, a, w, Q, hQ, hd, ha, h, hs, hK => by simp only [evX] at h; exact h.elim
end
end Go.Proofs.YtnfmjlhkknndhaaGreat
/-
 The evaluator, part 12: a range over a function is right.
-/
namespace Go.Proofs.YtnfmjlhkknndhaaGreat
open Go Go.RowKit
def exCode : Ex → Code
 | .normal => .skip
 | .exit id => .exit id
 | .ret => .ret
theorem putPs_rep {c : Ctx} {w : World} {n : Nat} : ∀ (ps : List Tmp) (ms : List MV) (vs : List Value) (l : List (Nat × MV)) (tmps : Array Value), RepAll c w ms vs → ms.length = ps.length → (ps.all fun p => p.blt n) = true → tmps.size = n → (∀ t, Rep c w (look t l) (tmps.getD t undef)) →
  (∀ t, Rep c w (look t (putPs ps ms l)) (((ps.zip vs).foldl (fun t (p, v) => t.setIfInBounds p v) tmps).getD t undef)) ∧ ((ps.zip vs).foldl (fun t (p, v) => t.setIfInBounds p v) tmps).size = n
 | [], ms, vs, l, tmps, _, hl, _, hs, h => by
  have : ms = [] := List.eq_nil_of_length_eq_zero hl
  subst this
  exact ⟨h, hs⟩
 | p :: ps, [], vs, l, tmps, _, hl, _, hs, h => by simp at hl
 | p :: ps, m :: ms, vs, l, tmps, hr, hl, hp, hs, h => by
  obtain ⟨v, r, rfl, h1, h2⟩ := hr
  simp only [List.all_cons, Bool.and_eq_true, Nat.blt_eq] at hp
  simp only [List.zip_cons_cons, List.foldl_cons, putPs]
  refine putPs_rep ps ms r _ _ h2 (by simpa using hl) hp.2 (by simpa using hs) fun t => ?_
  simp only [look]
  cases hb : p.beq t with
  | true =>
   simp only [Nat.beq_eq] at hb
   subst hb
   have : (tmps.setIfInBounds p v).getD p undef = v := by simp [Array.getD_eq_getD_getElem?, hs, hp.1]
   rw [this]
   exact rep_of_rep1 h1
  | false =>
   have hne : p ≠ t := by intro e; subst e; simp at hb
   have : (tmps.setIfInBounds p v).getD t undef = tmps.getD t undef := by simp [Array.getD_eq_getD_getElem?, hne]
   rw [this]
   exact h t
section
variable {P : Program} {S0 : Nat → Prop} {w0 : Base}
theorem noneY {F : Fence} {n : Nat} {pin : Nat → Nat → Sz → Prop} {zs : Option Ex → List (Nat × Obj)} : YSnd F n P S0 w0 pin zs Hnd.none := ⟨fun _ _ _ _ _ _ _ _ _ h => h.elim⟩
theorem noneR {F : Fence} {n : Nat} {pin : Nat → Nat → Sz → Prop} {zs : Option Ex → List (Nat × Obj)} {ha : Code → Prop} : RSnd F n P S0 w0 pin zs ha Hnd.none := ⟨fun _ _ _ _ _ _ _ _ _ _ _ _ _ h => h.elim⟩
theorem leaves_marks {fn : Func} {tmps : Array Value} {R : Ending → World → Prop} {n : Nat} {N : Nat} : ∀ (Ds : List Nat) (w : World), Ds.Nodup → (∀ D ∈ Ds, N ≤ D ∧ w.heap[D]? = some (.deferred (some []))) →
  (∀ w', Moved N w w' → (∀ e, e ∉ Ds → w'.heap[e]? = w.heap[e]?) → ∃ v, (results fn tmps).run P w' = .ok v w' ∧ R (.returned v) w') → LeavesInM Fence.wide n P fn tmps R (Ds.map markOf) .returning w
 | [], w, _, _, h => h w (Moved.refl N w) (fun _ _ => rfl)
 | D :: Ds, w, hn, hD, h => by
  obtain ⟨h1, h2⟩ := hD D (by simp)
  have hk := Moved.put (N := N) (o' := .deferred none) h2 h1 rfl rfl
  simp only [List.nodup_cons] at hn
  refine ⟨by simp, .inl ⟨D, _, rfl, run_takeDeferred h2, leaves_marks (N := N) Ds _ hn.2 (fun D' hD' => ?_) (fun w' k q => ?_)⟩⟩
  ·have hne : D' ≠ D := fun e => hn.1 (e ▸ hD')
   exact ⟨(hD D' (by simp [hD'])).1, (World.putObj_heap_other hne).trans (hD D' (by simp [hD'])).2⟩
  ·refine h w' (hk.trans k) fun e he => ?_
   simp only [List.mem_cons, not_or] at he
   exact (q e he.2).trans (World.putObj_heap_other he.1)
def pin0 : Nat → Nat → Sz → Prop := fun _ _ _ => False
def zs0 : Option Ex → List (Nat × Obj) := fun _ => []
def recOf (fn : FuncId) (tmps : Array Value) (ps : Array Tmp) (p q : Code) (D : Nat) (st : LoopState) (pe : Option Code) : Loop := { state := st, pending := pe, fn, tmps, params := ps, assign := p, body := q, defers := D }
def isLoop : Obj → Bool
 | .loop _ => true
 | _ => false
theorem MapOk.notLoop {m : MapC} {o : Obj} (h : MapOk m o) : isLoop o = false := by
 obtain ⟨es, clock, rfl, _⟩ := h
 rfl
theorem Out.putL {w1 : Base} {L : Nat} {r r' : Loop} {zl zl' : List (Nat × Obj)} {Ds : List Nat} {mp : Option (Nat × MapC)} {bx : List Box} {c : Ctx} {w : World} (h : Out P w0 w1 zl Ds mp) (hL : Extn w0 w1 L (.loop r)) (m : Mem S0 w1 bx c w)
  (hz : ∀ z ∈ zl', z = (L, .loop r') ∨ (Extn w0 w1 z.1 z.2 ∧ isLoop z.2 = false)) (pin : Nat → Nat → Sz → Prop) (df : List Deferred) {Ds' : List Nat} (hn : Ds'.Nodup) (hDs : ∀ D ∈ Ds', Extn w0 w1 D (.deferred (some []))) (hdis : ∀ z ∈ zl', z.1 ∉ Ds') :
  Out P w0 (baseAt (w.putObj L (.loop r')) c pin df) zl' Ds' mp ∧ Moved w0.w.heap.size w (w.putObj L (.loop r')) := by
 obtain ⟨hnow, hnown⟩ := hL.now m
 have hlt := (Array.getElem?_eq_some_iff.1 hnow).1
 have k := Moved.put (N := w0.w.heap.size) (o' := .loop r') hnow hL.lo rfl rfl
 have hne : ∀ e ob, Extn w0 w1 e ob → isLoop ob = false → e ≠ L := fun e ob q hw hh => by
  subst hh
  have := (q.now m).1
  rw [hnow, Option.some.injEq] at this
  rw [← this] at hw
  simp [isLoop] at hw
 refine ⟨⟨h.reb.move m k pin df, hn, fun D hD => (hDs D hD).move m (World.putObj_heap_other (hne D _ (hDs D hD) rfl)) _ _, fun z hzz => ?_, fun B mm hB => ?_, hdis⟩, k⟩
 ·rcases hz z hzz with rfl | ⟨q1, q2⟩
  ·exact ⟨World.putObj_heap_same hlt, hnown, hL.lo⟩
  ·exact q1.move m (World.putObj_heap_other (hne _ _ q1 q2)) _ _
 ·obtain ⟨q1, o, q2, q3⟩ := h.mp B mm hB
  exact ⟨q1, o, q2, q3.move m (World.putObj_heap_other (hne _ _ q3 q2.notLoop)) _ _⟩
def zsIt (L : Nat) (rec : LoopState → Option Code → Loop) (Ds : List Nat) (pe : Option Ex) : List (Nat × Obj) :=
 (L, .loop (match pe with | none => rec .ready none | some e => rec .done (some (exCode e)))) :: Ds.map fun D => (D, .deferred (some []))
theorem zsIt_walk {L : Nat} {rec : LoopState → Option Code → Loop} {Ds : List Nat} : ∀ pe z, z ∈ zsIt L rec Ds pe → z.2.isWalk = false := by
 intro pe z hz
 simp only [zsIt, List.mem_cons, List.mem_map] at hz
 rcases hz with rfl | ⟨D, _, rfl⟩
 ·cases pe <;> rfl
 ·rfl
theorem round_sound (hmix : P.follows .mixedOrders = true) {X : XE P} {s : MS} {np : Nat} {ps : Array Tmp} {p q : Code} {L : Nat} {fn : FuncId} {a : Act} {D : Nat} {Ds : List Nat} {rec : LoopState → Option Code → Loop} (hrec : ∀ st pe, rec st pe = recOf fn a.tmps ps p q D st pe)
  {c0 : Ctx} {w00 : World} (hnd : ndCode p = true ∧ ndCode q = true) (hall : allOk X p ∧ allOk X q) (htm : ∀ t, Rep c0 w00 (look t s.tm) (a.tmps.getD t undef)) (hsz : a.tmps.size = s.n) {pinI : Nat → Nat → Sz → Prop} (hpI : ∀ i b z, pinI i b z ↔ i < np ∧ c0.live i ∧ c0.β i = b ∧ c0.sz i = z) {m : Nat} (rn : Operand → Array Tmp → Code → Code → MS → XS → XK → Prop) :
  YSnd Fence.wide m P S0 w0 pinI (zsIt L rec Ds) ⟨L, roundH X s np ps p q, rn⟩ := ⟨by
 intro args si mp ci ai W vs kN kX h hs hv
 have h : roundH X s np ps p q args si ⟨mp, none⟩ kN kX := h
 unfold roundH at h
 cases hc : (args.length.beq ps.size && ps.toList.all (fun p => p.blt s.n) && si.np.beq np) with
 | false => rw [hc] at h; exact h.elim
 | true =>
  rw [hc, cond_true] at h
  simp only [Bool.and_eq_true, Nat.beq_eq] at hc
  obtain ⟨⟨hlen, hps⟩, hnp⟩ := hc
  have hvl := repAll_length _ _ hv
  obtain ⟨w1, Dr, hO, hst, hp, hdf⟩ := hs
  have hM := hst.mem
  have hL : Extn w0 w1 L (.loop (rec .ready none)) := hO.zs (L, _) (by simp [zsIt])
  have hLnow := (hL.now hM).1
  have hDe : ∀ E ∈ Ds, Extn w0 w1 E (.deferred (some [])) := fun E hE => hO.zs (E, _) (by simp [zsIt, hE])
  have hy := run_yield (P := P) (args := vs.toArray) hLnow (by rw [hrec]; simp [recOf]; omega)
  rw [hrec] at hy
  refine ⟨fn, _, p, q, hy, roundIn_of_wpIn trivial ?_⟩
  generalize hpr : (fun (i : Nat) (b : Nat) (z : Sz) => i < np ∧ ci.live i ∧ ci.β i = b ∧ ci.sz i = z) = pr
  have hpr' : ∀ i b z, pr i b z ↔ i < np ∧ ci.live i ∧ ci.β i = b ∧ ci.sz i = z := by subst hpr; exact fun _ _ _ => Iff.rfl
  have hIc : ∀ i, i < np → c0.live i → ci.live i ∧ ci.β i = c0.β i ∧ ci.sz i = c0.sz i := fun i hi hl => hM.pin i _ _ (hp i _ _ ((hpI i _ _).2 ⟨hi, hl, rfl, rfl⟩))
  have k0 := Moved.refl w0.w.heap.size W
  obtain ⟨htm2, hsz2⟩ := putPs_rep (c := ci) (w := W) (n := s.n) ps.toList args vs (stayTm np s.tm) a.tmps hv (by rw [Array.length_toList]; exact hlen) hps hsz (fun t => by rw [look_stay]; exact stayM_rep hIc (htm t))
  have efold : (ps.zip vs.toArray).foldl (fun t (p, v) => t.setIfInBounds p v) a.tmps = (ps.toList.zip vs).foldl (fun t (p, v) => t.setIfInBounds p v) a.tmps := by
   rw [← Array.foldl_toList, Array.toList_zip]
  have hstr : St S0 (baseAt W ci pr []) ⟨s.n, putPs ps.toList args (stayTm np s.tm), si.bx, np⟩ ci { tmps := (ps.zip vs.toArray).foldl (fun t (p, v) => t.setIfInBounds p v) a.tmps, defers := [] } W :=
   ⟨hM.moved k0 pr [] (fun i b z h => ((hpr' i b z).1 h).2), fun t => by rw [efold]; exact htm2 t, by rw [efold]; exact hsz2, rfl, fun i b z h => ((hpr' i b z).1 h).1⟩
  have hOm := hO.move hM k0 (fun _ _ _ => rfl) pr []
  let zr : LoopState → Option Ex → List (Nat × Obj) := fun st _ => (L, .loop (rec st none)) :: (Ds ++ Dr).map fun D => (D, .deferred (some []))
  have hzr : ∀ st pe z, z ∈ zr st pe → z.2.isWalk = false := by
   intro st pe z hz
   simp only [zr, List.mem_cons, List.mem_map] at hz
   rcases hz with rfl | ⟨D, _, rfl⟩ <;> rfl
  have hx1 : XSt P S0 w0 pr (zr .ready) ⟨s.n, putPs ps.toList args (stayTm np s.tm), si.bx, np⟩ ⟨mp, none⟩ ci { tmps := (ps.zip vs.toArray).foldl (fun t (p, v) => t.setIfInBounds p v) a.tmps, defers := [] } W := by
   refine ⟨_, [], ⟨hOm.reb, List.nodup_nil, fun D hD => by simp at hD, fun z hz => ?_, hOm.mp, fun z _ => by simp⟩, hstr, fun _ _ _ h => h, rfl⟩
   simp only [zr, List.mem_cons, List.mem_map, List.mem_append] at hz
   rcases hz with rfl | ⟨E, hE, rfl⟩
   ·exact hL.move hM rfl _ _
   ·rcases hE with hE | hE
    ·exact (hDe E hE).move hM rfl _ _
    ·exact (hO.ds E hE).move hM rfl _ _
  refine evX_sound hmix (fw_round P L) noneY noneR (hzr .ready) p _ _ _ ci _ W _ (fun _ _ h => h) hnd.1 hall.1 h hx1 (fun e s1 x1 c1 a1 wa q1 q2 => ?_)
  cases e with
  | exit id => exact q1.elim
  | ret => exact q1.elim
  | normal =>
   obtain ⟨w2, D2, hO2, hst2, hp2, hdf2⟩ := q2
   have hM2 := hst2.mem
   have hL2 : Extn w0 w2 L (.loop (rec .ready none)) := hO2.zs (L, _) (by simp [zr])
   have hd2 : ∀ E ∈ Ds ++ Dr, Extn w0 w2 E (.deferred (some [])) := fun E hE => hO2.zs (E, _) (by simp only [zr, List.mem_cons, List.mem_map]; exact .inr ⟨E, hE, rfl⟩)
   obtain ⟨hO3, hk3⟩ := hO2.putL (S0 := S0) (r' := rec .busy none) (zl' := zr .busy none) hL2 hM2 (fun z hz => by
    simp only [zr, List.mem_cons, List.mem_map] at hz
    rcases hz with rfl | ⟨E, hE, rfl⟩
    ·exact .inl rfl
    ·exact .inr ⟨hd2 E hE, rfl⟩) w2.pin w2.df hO2.nd hO2.ds (fun z hz => by
    simp only [zr, List.mem_cons, List.mem_map] at hz
    rcases hz with rfl | ⟨E, hE, rfl⟩
    ·exact hO2.dis (L, .loop (rec .ready none)) (by simp [zr])
    ·exact hO2.dis (E, _) (by simp only [zr, List.mem_cons, List.mem_map]; exact .inr ⟨E, hE, rfl⟩))
   refine ⟨_, by have := run_beginRound (P := P) (hL2.now hM2).1 (by rw [hrec]; rfl); rw [hrec] at this; exact this, ?_⟩
   have hx3 : XSt P S0 w0 pr (zr .busy) s1 x1 c1 a1 (wa.putObj L (.loop (rec .busy none))) := ⟨_, D2, hO3, hst2.at hk3, hp2, hdf2⟩
   rw [hrec] at hx3
   refine evX_sound hmix (fw_round P L) noneY noneR (hzr .busy) q s1 x1 _ c1 a1 _ _ (fun _ _ h => h) hnd.2 hall.2 q1 hx3 (fun e s2 x2 c2 a2 w3 r1 r2 => ?_)
   obtain ⟨w4, D4, hO4, hst4, hp4, hdf4⟩ := r2
   have hM4 := hst4.mem
   have hL4 : Extn w0 w4 L (.loop (rec .busy none)) := hO4.zs (L, _) (by simp [zr])
   have hd4 : ∀ E ∈ Ds ++ Dr, Extn w0 w4 E (.deferred (some [])) := fun E hE => hO4.zs (E, _) (by simp only [zr, List.mem_cons, List.mem_map]; exact .inr ⟨E, hE, rfl⟩)
   have hcc : ∀ i, i < np → ci.live i → c2.live i ∧ c2.β i = ci.β i ∧ c2.sz i = ci.sz i := fun i hi hl => hM4.pin i _ _ (hp4 i _ _ ((hpr' i _ _).2 ⟨hi, hl, rfl, rfl⟩))
   have back : ∀ (pe : Option Ex) (r' : Loop), r' = (match pe with | none => rec .ready none | some e => rec .done (some (exCode e))) → XSt P S0 w0 pinI (zsIt L rec Ds) ⟨si.n, stayTm si.np si.tm, s2.bx, si.np⟩ ⟨x2.mp, pe⟩ c2 ai (w3.putObj L (.loop r')) := by
    intro pe r' hr'
    obtain ⟨hO5, hk5⟩ := hO4.putL (S0 := S0) (r' := r') (zl' := zsIt L rec Ds pe) hL4 hM4 (fun z hz => by
     simp only [zsIt, List.mem_cons, List.mem_map] at hz
     rcases hz with rfl | ⟨E, hE, rfl⟩
     ·exact .inl (by rw [hr'])
     ·exact .inr ⟨hd4 E (by simp [hE]), rfl⟩) pinI w1.df hO.nd (fun E hE => hd4 E (by simp [hE])) (fun z hz => by
     simp only [zsIt, List.mem_cons, List.mem_map] at hz
     rcases hz with rfl | ⟨E, hE, rfl⟩
     ·exact hO.dis (L, .loop (rec .ready none)) (by simp [zsIt])
     ·exact hO.dis (E, _) (by simp [zsIt, hE]))
    refine ⟨_, Dr, hO5, ⟨hM4.moved hk5 pinI w1.df (fun i b z h => ?_), fun t => ?_, hst.size, hst.defers, fun i b z h => ?_⟩, fun _ _ _ h => h, hdf⟩
    ·obtain ⟨h1, h2, rfl, rfl⟩ := (hpI i b z).1 h
     obtain ⟨g1, g2, g3⟩ := hIc i h1 h2
     obtain ⟨f1, f2, f3⟩ := hcc i h1 g1
     exact ⟨f1, f2.trans g2, f3.trans g3⟩
    ·show Rep c2 _ (look t (stayTm si.np si.tm)) _
     rw [look_stay, hnp]
     exact stayM_rep hcc (hst.tm t)
    ·show i < si.np
     rw [hnp]; exact ((hpI i b z).1 h).1
   have fin : ∀ (jump : Option Code), (Instr.endRound L jump).run P w3 = .ok (.bool jump.isNone) (w3.putObj L (.loop (rec (if jump.isNone then .ready else .done) jump))) := fun jump => by
    have := run_endRound (P := P) jump (hL4.now hM4).1
    rw [hrec] at this ⊢
    exact this
   cases e with
   | normal => exact ⟨_, _, fin none, .inl ⟨rfl, s2.bx, x2.mp, c2, r1, back none _ rfl⟩⟩
   | ret => exact ⟨_, _, fin (some .ret), .inr ⟨rfl, .ret, s2.bx, x2.mp, c2, r1, back (some .ret) _ rfl⟩⟩
   | exit id => exact ⟨_, _, fin (some (.exit id)), .inr ⟨rfl, .exit id, s2.bx, x2.mp, c2, r1, back (some (.exit id)) _ rfl⟩⟩⟩
end
end Go.Proofs.YtnfmjlhkknndhaaGreat
/-
 The evaluator, part 13: what 'evFnX' says is a contract.
-/
namespace Go.Proofs.YtnfmjlhkknndhaaGreat
open Go Go.RowKit
section
variable {P : Program} {S0 : Nat → Prop} {w0 : Base}
theorem allOk_none {X : XE P} (hX : X.all = fun _ => none) : ∀ (c : Code), allOk X c
 | .region _ _ _ => by simp [allOk, hX]
 | .seq a b => ⟨allOk_none hX a, allOk_none hX b⟩
 | .cond _ a b => ⟨allOk_none hX a, allOk_none hX b⟩
 | .block _ c => allOk_none hX c
 | .loop c => allOk_none hX c
 | .scope c => allOk_none hX c
 | .rangeFunc _ _ a b => ⟨allOk_none hX a, allOk_none hX b⟩
 | .skip => trivial
 | .label _ => trivial
 | .exit _ => trivial
 | .ret => trivial
 | .goto _ => trivial
 | .refuse _ => trivial
theorem rng_sound (hmix : P.follows .mixedOrders = true) {X : XE P} {n : Nat} : RSnd Fence.wide n P S0 w0 pin0 zs0 (allOk X) (hFn X) := ⟨by
 intro g ps p q s x K c a w Q hQ hall h hs hK
 replace h : rngH X g ps p q s x K := h
 unfold rngH at h
 split at h
 ·rename_i t
  split at h
  ·rename_i f caps hlk
   split at h
   ·rename_i ie hie
    have hief := findIt_spec hie
    subst hief
    split at h
    ·rename_i code hbody
     split at h
     ·rename_i hpe
      generalize hnp : X.rnp (firstRegion q) = np at h
      cases hc : ((caps.length + 1).ble ie.fn.ntmps && ie.fn.results.size.beq 0 && ndCode p && ndCode q && ndCode code) with
      | false => rw [hc] at h; exact h.elim
      | true =>
       rw [hc, cond_true] at h
       simp only [Bool.and_eq_true, Nat.beq_eq, Nat.ble_eq] at hc
       obtain ⟨⟨⟨⟨hcl, hres⟩, hnp1⟩, hnp2⟩, hnp3⟩ := hc
       obtain ⟨w1, Ds, hO, hst, hp, hdf⟩ := id hs
       have hM := hst.mem
       obtain ⟨cs, hv0, hcs, hagg⟩ := rep_cell (show Rep c w (.fn ie.f caps) (a.tmps.getD t undef) from hlk ▸ hst.tm t) rfl (by simp) rfl
       have hgv : a.eval (.tmp t) = .func (.func ie.f) #[] cs.toArray := by
        simp only [List.cons.injEq, and_true] at hv0
        exact hv0
       have hcv := repcs_all caps cs hcs hagg
       have hcsl := repAll_length _ _ hcv
       have hwN : w0.w.heap.size ≤ w.heap.size := Nat.le_trans hO.reb.ext.size hM.ext.size
       refine wpIn_rangeFunc ?_
       intro fn hfn
       obtain ⟨rec, hrec⟩ : ∃ rec : LoopState → Option Code → Loop, ∀ st pe, rec st pe = recOf fn a.tmps ps p q w.heap.size st pe := ⟨_, fun _ _ => rfl⟩
       obtain ⟨W1, hW1⟩ : ∃ W1, (w.alloc (.deferred (some []))).alloc (.loop (rec .ready none)) = W1 := ⟨_, rfl⟩
       have hL1 : W1.heap[w.heap.size + 1]? = some (.loop (rec .ready none)) := by
        rw [← hW1]; have := World.alloc_heap_new (w.alloc (.deferred (some []))) (.loop (rec .ready none)); rwa [World.size_alloc] at this
       have hD1 : W1.heap[w.heap.size]? = some (.deferred (some [])) := by
        rw [← hW1]; exact (Below.heap_alloc _ _ _ (by simp)).trans (World.alloc_heap_new w _)
       have k1 : Moved w0.w.heap.size w W1 := by
        rw [← hW1]
        exact (Moved.alloc hwN _).trans (Moved.alloc (by simp; omega) _)
       have hsame : ∀ e, e < w.heap.size → W1.heap[e]? = w.heap[e]? := fun e he => by
        rw [← hW1]
        exact (Below.heap_alloc _ _ _ (by simp; omega)).trans (Below.heap_alloc _ _ _ he)
       refine ⟨w.heap.size + 1, [markOf w.heap.size], W1, { target := .fn (.func ie.f) cs.toArray, args := #[Value.func (.yield (w.heap.size + 1)) #[] #[]] }, W1, ie.f, #[Value.func (.yield (w.heap.size + 1)) #[] #[]] ++ cs.toArray, W1, ?_, ?_, ?_, ?_, fun h => by simp [Fence.wide] at h, ?_⟩
       ·rw [← hW1, hrec]; exact run_enterLoop_outer _ _ _ _ _
       ·simp only [resolve, hgv]
        simp [go_sem]
       ·intro f' _; trivial
       ·simp [invoke, go_sem, ie.hc]
       ·
        generalize hpI : (fun (i : Nat) (b : Nat) (z : Sz) => i < np ∧ c.live i ∧ c.β i = b ∧ c.sz i = z) = pI
        have hpI' : ∀ i b z, pI i b z ↔ i < np ∧ c.live i ∧ c.β i = b ∧ c.sz i = z := by subst hpI; exact fun _ _ _ => Iff.rfl
        have hOm := hO.move hM k1 (fun e he _ => hsame e he) pI []
        have hL : Extn w0 (baseAt W1 c pI []) (w.heap.size + 1) (.loop (rec .ready none)) := ⟨hL1, fun ⟨i, hi, e⟩ => by have := (hM.fresh i hi).2.1; omega, by omega⟩
        have hD : Extn w0 (baseAt W1 c pI []) w.heap.size (.deferred (some [])) := ⟨hD1, fun ⟨i, hi, e⟩ => by have := (hM.fresh i hi).2.1; omega, by omega⟩
        have hsti : St S0 (baseAt W1 c pI []) ⟨ie.fn.ntmps, numbered 0 (.val (.func (.yield (w.heap.size + 1)) #[] #[]) :: caps), s.bx, np⟩ c { tmps := (#[Value.func (.yield (w.heap.size + 1)) #[] #[]] ++ cs.toArray) ++ Array.replicate (ie.fn.ntmps - (#[Value.func (.yield (w.heap.size + 1)) #[] #[]] ++ cs.toArray).size) undef, defers := [] } W1 := by
         refine ⟨hM.moved k1 pI [] (fun i b z h => ((hpI' i b z).1 h).2), fun u => ?_, by simp; omega, rfl, fun i b z h => ((hpI' i b z).1 h).1⟩
         have hall : RepAll c W1 (.val (.func (.yield (w.heap.size + 1)) #[] #[]) :: caps) (.func (.yield (w.heap.size + 1)) #[] #[] :: cs) := ⟨_, _, rfl, (rep1_cell rfl (by simp)).2 ⟨rfl, rfl⟩, RepAll.moved k1 _ _ hcv⟩
         have := (look_numbered _ _ 0 hall u).2 (Nat.zero_le _)
         rw [Nat.sub_zero] at this
         have e : ((#[Value.func (.yield (w.heap.size + 1)) #[] #[]] ++ cs.toArray) ++ Array.replicate (ie.fn.ntmps - (#[Value.func (.yield (w.heap.size + 1)) #[] #[]] ++ cs.toArray).size) undef).getD u undef = (Value.func (.yield (w.heap.size + 1)) #[] #[] :: cs).getD u undef := by
          have e0 : (#[Value.func (.yield (w.heap.size + 1)) #[] #[]] ++ cs.toArray).toList = Value.func (.yield (w.heap.size + 1)) #[] #[] :: cs := by simp
          rw [← e0]
          simp only [Array.getD_eq_getD_getElem?, List.getD_eq_getElem?_getD, Array.getElem?_toList]
          rw [Array.getElem?_append]
          split
          ·rfl
          ·rename_i hge
           rw [Array.getElem?_replicate, Array.getElem?_eq_none (by omega : (#[Value.func (.yield (w.heap.size + 1)) #[] #[]] ++ cs.toArray).size ≤ u)]
           split <;> rfl
         rw [e]
         exact this
        have hx1 : ∀ ai, St S0 (baseAt W1 c pI []) ⟨ie.fn.ntmps, numbered 0 (.val (.func (.yield (w.heap.size + 1)) #[] #[]) :: caps), s.bx, np⟩ c ai W1 → XSt P S0 w0 pI (zsIt (w.heap.size + 1) rec (w.heap.size :: Ds)) ⟨ie.fn.ntmps, (0, .val (.func (.yield (w.heap.size + 1)) #[] #[])) :: numbered 1 caps, s.bx, np⟩ x c ai W1 := by
         intro ai hsti
         refine ⟨_, [], ⟨hOm.reb, List.nodup_nil, fun D hD => by simp at hD, fun z hz => ?_, hOm.mp, fun z _ => by simp⟩, hsti, fun _ _ _ h => h, rfl⟩
         rw [hpe] at hz
         simp only [zsIt, List.mem_cons, List.map_cons, List.mem_map] at hz
         rcases hz with rfl | rfl | ⟨E, hE, rfl⟩
         ·exact hL
         ·exact hD
         ·exact hOm.ds E hE
        refine callsIn_of_wp_marks ie.hf hbody trivial ?_ rfl
        refine evX_sound (X := { X with E := ie.E, xann := ie.xann, all := fun _ => none }) hmix (fw_wide P) (round_sound hmix hrec ⟨hnp1, hnp2⟩ hall (fun u => hst.tm u) hst.size hpI' _) ⟨fun _ _ _ _ _ _ _ _ _ _ _ _ _ h => h.elim⟩ zsIt_walk code _ x _ c _ W1 _ (fun _ _ hh => ?_) hnp3 (allOk_none rfl code) (h (w.heap.size + 1)) (hx1 _ hsti) (fun e s' x' c' a' w' q1 q2 => ?_)
        ·obtain ⟨a0, w0', hq⟩ := hh
         exact hQ a0 w0' hq
        ·obtain ⟨w2, D2, hO2, hst2, hp2, hdf2⟩ := q2
         have hM2 := hst2.mem
         have hcc : ∀ i, i < np → c.live i → c'.live i ∧ c'.β i = c.β i ∧ c'.sz i = c.sz i := fun i hi hl => hM2.pin i _ _ (hp2 i _ _ ((hpI' i _ _).2 ⟨hi, hl, rfl, rfl⟩))
         have fin : (match x'.pe with
           | none => K .normal ⟨s.n, stayTm np s.tm, s'.bx, s.np⟩ ⟨x'.mp, none⟩
           | some e => K e ⟨s.n, stayTm np s.tm, s'.bx, s.np⟩ ⟨x'.mp, none⟩) → LeavesInM Fence.wide (n - 1) P ie.fn a'.tmps (rangePost Fence.wide n P (w.heap.size + 1) Q { a with defers := [markOf w.heap.size] ++ a.defers }) a'.defers .returning w' := by
          intro hk
          rw [hst2.defers, hdf2]
          refine leaves_marks (N := w0.w.heap.size) D2 w' hO2.nd (fun D hD => ⟨(hO2.ds D hD).lo, ((hO2.ds D hD).now hM2).1⟩) fun w3 k3 hs3 => ?_
          refine ⟨.tuple #[], ?_, ?_⟩
          ·have : ie.fn.results = #[] := Array.eq_empty_of_size_eq_zero hres
           rw [results_eq, this, Array.mapM_eq_mapM_toList]
           simp
          ·have hLx : Extn w0 w2 (w.heap.size + 1) (.loop (match x'.pe with | none => rec .ready none | some e => rec .done (some (exCode e)))) := hO2.zs (w.heap.size + 1, _) (List.mem_cons_self ..)
           have hne : ∀ e o, Extn w0 w2 e o → (∀ ds, o ≠ .deferred ds) → e ∉ D2 := fun e o he ho hm => by
            have h1 := he.at_
            rw [(hO2.ds e hm).at_, Option.some.injEq] at h1
            exact ho _ h1.symm
           have hLn := (hLx.now hM2).1
           have hL3 : w3.heap[w.heap.size + 1]? = some (.loop (match x'.pe with | none => rec .ready none | some e => rec .done (some (exCode e)))) := (hs3 _ (hne _ _ hLx (by simp))).trans hLn
           have hend := run_endLoop (P := P) hL3 (by cases x'.pe <;> (simp only [hrec]; simp [recOf]))
           refine ⟨_, _, hend, ?_⟩
           generalize hw4 : w3.putObj (w.heap.size + 1) (.loop { (match x'.pe with | none => rec .ready none | some e => rec .done (some (exCode e))) with state := .exhausted }) = w4
           have k4 : Moved w0.w.heap.size w3 w4 := by rw [← hw4]; exact Moved.put hL3 (by omega) rfl rfl
           have k := k3.trans k4
           have hs4 : ∀ e, e ∉ D2 → e ≠ w.heap.size + 1 → w4.heap[e]? = w'.heap[e]? := fun e h1 h2 => by rw [← hw4]; exact (World.putObj_heap_other h2).trans (hs3 e h1)
           have hDm : ∀ E, E ∈ w.heap.size :: Ds → Extn w0 w2 E (.deferred (some [])) := fun E hE => hO2.zs (E, _) (by simp only [zsIt, List.mem_cons, List.mem_map]; exact .inr ⟨E, by simpa using hE, rfl⟩)
           have hlast : ∀ E, E ∈ Ds → E < w.heap.size := fun E hE => (Array.getElem?_eq_some_iff.1 ((hO.ds E hE).now hM).1).1
           have hX : K (match x'.pe with | none => .normal | some e => e) ⟨s.n, stayTm np s.tm, s'.bx, s.np⟩ ⟨x'.mp, none⟩ := by
            revert hk
            cases x'.pe <;> exact id
           have hxs : (∀ E ∈ w.heap.size :: Ds, E ∉ D2) → XSt P S0 w0 pin0 zs0 ⟨s.n, stayTm np s.tm, s'.bx, s.np⟩ ⟨x'.mp, none⟩ c' { a with defers := [markOf w.heap.size] ++ a.defers } w4 := by
            intro hdis
            refine ⟨baseAt w4 c' pin0 ([markOf w.heap.size] ++ a.defers), w.heap.size :: Ds, ⟨hO2.reb.move hM2 k pin0 _, List.nodup_cons.2 ⟨fun hm => absurd (hlast _ hm) (Nat.lt_irrefl _), hO.nd⟩, fun E hE => (hDm E hE).move hM2 (hs4 E (hdis E hE) (fun e => by
             rcases List.mem_cons.1 hE with rfl | hE
             ·omega
             ·have := hlast E hE; omega)) _ _, fun z hz => by simp [zs0] at hz, fun B m hB => ?_, fun z hz => by simp [zs0] at hz⟩, ⟨hM2.moved k pin0 _ (fun _ _ _ h => h.elim), fun u => ?_, hst.size, rfl, fun _ _ _ h => h.elim⟩, fun _ _ _ h => h.elim, ?_⟩
            ·obtain ⟨g1, o, g2, g3⟩ := hO2.mp B m hB
             refine ⟨g1, o, g2, g3.move hM2 (hs4 B (hne _ _ g3 (fun ds e => ?_)) (fun e => ?_)) _ _⟩
             ·obtain ⟨es, clock, rfl, _⟩ := g2
              cases e
             ·have h1 := g3.at_
              rw [e, hLx.at_, Option.some.injEq] at h1
              obtain ⟨es, clock, rfl, _⟩ := g2
              cases h1
            ·show Rep c' w4 (look u (stayTm np s.tm)) _
             rw [look_stay]
             exact stayM_rep hcc (hst.tm u)
            ·show [markOf w.heap.size] ++ a.defers = (w.heap.size :: Ds).map markOf
             rw [hst.defers, hdf]
             rfl
           have hxs' := hxs (fun E hE => hO2.dis (E, .deferred (some [])) (by simp only [zsIt, List.mem_cons, List.mem_map]; exact .inr ⟨E, by simpa using hE, rfl⟩))
           have hfin := hK _ _ _ c' _ _ hX hxs'
           cases hpe' : x'.pe with
           | none =>
            rw [hpe'] at hfin
            simp only [hrec]
            exact hfin
           | some e' =>
            rw [hpe'] at hfin
            simp only [hrec]
            cases e' with
            | normal => exact wpIn_skip hfin
            | ret => exact wpIn_ret hfin
            | exit id => exact wpIn_exit hfin
         cases e with
         | normal => exact fin q1
         | ret => exact fin q1
         | exit id => exact q1.elim
     ·exact h.elim
    ·exact h.elim
   ·exact h.elim
  ·exact h.elim
 ·exact h.elim⟩
end
theorem holds_out {c : Ctx} {w : World} : ∀ (r : MRes), ¬ r.holds c w .outgrown
 | .ret _, h => h
 | .pan _, h => h
 | .br b x y, h => by
  simp only [MRes.holds] at h
  cases b with
  | true => exact holds_out x h
  | false => exact holds_out y h
theorem fnY {P : Program} {S0 : Nat → Prop} {w0 : Base} {F : Fence} {n : Nat} {pin : Nat → Nat → Sz → Prop} {zs : Option Ex → List (Nat × Obj)} (X : XE P) : YSnd F n P S0 w0 pin zs (hFn X) := ⟨fun _ _ _ _ _ _ _ _ _ h => (show False from h).elim⟩
theorem fnX_ok {P : Program} (hmix : P.follows .mixedOrders = true) {f : FuncId} {fn : Func} (hf : P.funcs[f]? = some fn) (spec : FSpec)
  (hspec : ∀ ms p r, spec ms = some (p, r) → p.holds → ∃ X : XE P, evFnX X fn ms r.sat ∧ allOk X (fn.body.getD .skip))
  (S : Nat → Prop) (w : World) (ms : List MV) (args : Array Value) (p : OProp) (r : MRes) (hs : spec ms = some (p, r)) (hp : p.holds) (hS : ∀ b, S b → b < w.heap.size) (hG : GW S w)
  (ha : RepAll (Ctx.args S) w ms args.toList) : Calls P f args w fun e w' => Ext w w' ∧ r.holds (Ctx.res S) w' e := by
 obtain ⟨X, h, hall⟩ := hspec ms p r hs hp
 unfold evFnX at h
 split at h
 ·rename_i c hb
  cases hl : (ms.length.ble fn.ntmps && ndCode c) with
  | false => rw [hl] at h; exact h.elim
  | true =>
   rw [hl, cond_true] at h
   simp only [Bool.and_eq_true] at hl
   have hle : ms.length ≤ fn.ntmps := Nat.le_of_ble_eq_true hl.1
   have hst0 := St.start (n := fn.ntmps) hS hG ha hle
   have hx0 : XSt P S (base0 w) pin0 zs0 ⟨fn.ntmps, numbered 0 ms, [], 0⟩ ⟨none, none⟩ (ctxOf S [] (fun _ => False) (fun _ => 0) (fun _ => ⟨0, 0⟩)) { tmps := args ++ Array.replicate (fn.ntmps - args.size) undef, defers := [] } w :=
    ⟨_, [], ⟨Reb.refl _, List.nodup_nil, fun D hD => by simp at hD, fun z hz => by simp [zs0] at hz, fun B m hB => by simp at hB, fun z hz => by simp [zs0] at hz⟩, hst0, fun _ _ _ h => h, rfl⟩
   refine (callsIn_wide (n := 1)).1 (callsIn_of_wp_marks hf hb trivial ?_ rfl)
   refine evX_sound hmix (fw_wide P) (fnY X) (rng_sound hmix) (fun _ z hz => by simp [zs0] at hz) c _ _ _ _ _ w _ (fun _ _ hh => ?_) hl.2 (by rw [hb] at hall; exact hall) h hx0 (fun e s' x' c' a' w' q1 q2 => ?_)
   ·exact holds_out r hh.2
   ·obtain ⟨w2, D2, hO2, hst2, hp2, hdf2⟩ := q2
    have fin : (match evResults P s' fn.results.toList with | some (p, l) => oand p <| r.sat (.ret (oneOrTup l)) | none => StuckRet s') →
      LeavesInM Fence.wide 1 P fn a'.tmps (fun e w' => Ext w w' ∧ r.holds (Ctx.res S) w' e) a'.defers .returning w' := by
     intro hK
     rw [hst2.defers, hdf2]
     refine leaves_marks (N := w.heap.size) D2 w' hO2.nd (fun D hD => ⟨(hO2.ds D hD).lo, ((hO2.ds D hD).now hst2.mem).1⟩) fun w3 k3 _ => ?_
     split at hK
     ·rename_i p l hres
      obtain ⟨hp, hK⟩ := oand_holds.1 hK
      have hst3 := hst2.at k3
      obtain ⟨vs, hvs, hrs⟩ := evResults_ok hst3 _ p l hres hp
      refine ⟨_, ?_, ?_, sat_ret r hK (oneOrTup_rep hrs)⟩
      ·rw [results_eq, Array.mapM_eq_mapM_toList]
       simp only [Sem.run_bind, Sem.run_map, hvs, Result.andThen, Sem.run_pure]
      ·have e := (hO2.reb.move hst2.mem k3 (fun _ _ _ => False) []).ext
       exact e.free (fun _ h => h)
     ·exact hK.elim
    cases e with
    | normal => exact fin q1
    | ret => exact fin q1
    | exit id => exact q1.elim
 ·exact h.elim
end Go.Proofs.YtnfmjlhkknndhaaGreat
/-
 Contracts of functions: integer.Low, by the evaluator for ranges over functions.
-/
namespace Go.Proofs.YtnfmjlhkknndhaaGreat
open Go Go.RowKit
def GoodX (fn : Func) (s : FSpec) : Prop := ∀ ms p r, s ms = some (p, r) → p.holds → factsL ms → ∃ X : XE Tryz.prog, evFnX X fn ms r.sat ∧ allOk X (fn.body.getD .skip)
theorem fnX_ok_facts {f : FuncId} {fn : Func} (hf : Tryz.prog.funcs[f]? = some fn) (spec : FSpec) (hspec : GoodX fn spec)
  (S : Nat → Prop) (w : World) (ms : List MV) (args : Array Value) (p : OProp) (r : MRes) (hs : spec ms = some (p, r)) (hp : p.holds) (hS : ∀ b, S b → b < w.heap.size) (hG : GW S w)
  (ha : RepAll (Ctx.args S) w ms args.toList) : Calls Tryz.prog f args w fun e w' => Ext w w' ∧ r.holds (Ctx.res S) w' e := by
 have hfx : factsL ms := RepAll.facts ms _ ha
 obtain ⟨X, h1, h2⟩ := hspec ms p r hs hp hfx
 refine fnX_ok mix hf (fun m => some (some (∃ X : XE Tryz.prog, evFnX X fn m r.sat ∧ allOk X (fn.body.getD .skip)), r)) (fun m p2 r2 h3 hp2 => ?_) S w ms args _ r rfl ⟨X, h1, h2⟩ hS hG ha
 simp only [Option.some.injEq, Prod.mk.injEq] at h3
 obtain ⟨rfl, rfl⟩ := h3
 exact hp2
structure WalkI where
 i : Nat
def x_low (l : List Int) : Nat → MS → XS → Option XAnn
 | 1, e, _ => some (.inv WalkI (fun i => i.i ≤ l.length) (fun i => ⟨19, [(0, look 0 e.tm), (1, .bp 2 0), (3, .int .i64 ((l.length : Int) - 1 - (i.i : Int)))], setNth e.bx 1 ⟨false, .one (.int .u64 (wv (l.drop (l.length - i.i))))⟩, 3⟩) (fun _ => none) (fun i => l.length - i.i))
 | _, _, _ => none
noncomputable def xe_low (l : List Int) : XE Tryz.prog where
 E := env [] noAnn
 xann := fun _ _ _ => none
 its := [⟨125, Tryz.f125, Tryz.func125, fun args w => Tryz.call125 args w, env [] noAnn, x_low l⟩]
 inl := [⟨108, Tryz.f108, Tryz.func108, fun args w => Tryz.call108 args w, env [] noAnn, fun _ _ _ => none⟩]
 rnp := fun _ => 3
 all := fun _ => none
theorem vc_ilow (z : Int) (n : Nat) : (bif decide ((↑(List.length (limbs (Int.natAbs z))) : Int) > 2) then (0 : Int) = z ∧ false = true ∧ True else ∀ (L : Nat), (∃ i, WalkI.i i ≤ List.length (limbs (Int.natAbs z)) ∧ ((Value.func (Fn.yield L) #[] #[] = Value.func (Fn.yield L) #[] #[] ∧ (0 : Nat) = 0 ∧ IntKind.wrap IntKind.i64 ((↑(List.length (limbs (Int.natAbs z))) : Int) - 1) = (↑(List.length (limbs (Int.natAbs z))) : Int) - 1 - (↑(WalkI.i i) : Int) ∧ True) ∧ LeB z z n n ∧ (0 : Int) = wv (List.drop (List.length (limbs (Int.natAbs z)) - WalkI.i i) (limbs (Int.natAbs z))) ∧ limbs (Int.natAbs z) = limbs (Int.natAbs z) ∧ True) ∧ True) ∧ ∀ (i : WalkI), WalkI.i i ≤ List.length (limbs (Int.natAbs z)) → bif decide ((↑(List.length (limbs (Int.natAbs z))) : Int) - 1 - (↑(WalkI.i i) : Int) ≥ 0) then ((0 : Int) ≤ (↑(List.length (limbs (Int.natAbs z))) : Int) - 1 - (↑(WalkI.i i) : Int) ∧ (↑(List.length (limbs (Int.natAbs z))) : Int) - 1 - (↑(WalkI.i i) : Int) < (↑(List.length (limbs (Int.natAbs z))) : Int)) ∧ L = L ∧ (0 : Int) ≤ 32 ∧ ∃ j, WalkI.i j ≤ List.length (limbs (Int.natAbs z)) ∧ ((Value.func (Fn.yield L) #[] #[] = Value.func (Fn.yield L) #[] #[] ∧ (0 : Nat) = 0 ∧ IntKind.wrap IntKind.i64 ((↑(List.length (limbs (Int.natAbs z))) : Int) - 1 - (↑(WalkI.i i) : Int) - 1) = (↑(List.length (limbs (Int.natAbs z))) : Int) - 1 - (↑(WalkI.i j) : Int) ∧ True) ∧ LeB z z n n ∧ IntKind.wrap IntKind.u64 (↑(BitVec.toNat (BitVec.ofInt (IntKind.bits IntKind.u64) (IntKind.wrap IntKind.u64 (wv (List.drop (List.length (limbs (Int.natAbs z)) - WalkI.i i) (limbs (Int.natAbs z))) * 2 ^ min (Int.toNat (32 : Int)) (IntKind.bits IntKind.u64))) ||| BitVec.ofInt (IntKind.bits IntKind.u64) (IntKind.wrap IntKind.u64 (List.getD (limbs (Int.natAbs z)) (Int.toNat ((↑(List.length (limbs (Int.natAbs z))) : Int) - 1 - (↑(WalkI.i i) : Int))) (0 : Int))))) : Int) = wv (List.drop (List.length (limbs (Int.natAbs z)) - WalkI.i j) (limbs (Int.natAbs z))) ∧ limbs (Int.natAbs z) = limbs (Int.natAbs z) ∧ True) ∧ True ∧ List.length (limbs (Int.natAbs z)) - WalkI.i j < List.length (limbs (Int.natAbs z)) - WalkI.i i else bif decide (z < 0) then bif IntKind.wrap IntKind.i64 ((0 : Int) - IntKind.wrap IntKind.i64 (wv (List.drop (List.length (limbs (Int.natAbs z)) - WalkI.i i) (limbs (Int.natAbs z))))) != 0 then bif !decide (z < 0) == decide (IntKind.wrap IntKind.i64 ((0 : Int) - IntKind.wrap IntKind.i64 (wv (List.drop (List.length (limbs (Int.natAbs z)) - WalkI.i i) (limbs (Int.natAbs z))))) < 0) then (0 : Int) = z ∧ false = true ∧ True else IntKind.wrap IntKind.i64 ((0 : Int) - IntKind.wrap IntKind.i64 (wv (List.drop (List.length (limbs (Int.natAbs z)) - WalkI.i i) (limbs (Int.natAbs z))))) = z ∧ true = true ∧ True else IntKind.wrap IntKind.i64 ((0 : Int) - IntKind.wrap IntKind.i64 (wv (List.drop (List.length (limbs (Int.natAbs z)) - WalkI.i i) (limbs (Int.natAbs z))))) = z ∧ true = true ∧ True else bif IntKind.wrap IntKind.i64 (wv (List.drop (List.length (limbs (Int.natAbs z)) - WalkI.i i) (limbs (Int.natAbs z)))) != 0 then bif !decide (z < 0) == decide (IntKind.wrap IntKind.i64 (wv (List.drop (List.length (limbs (Int.natAbs z)) - WalkI.i i) (limbs (Int.natAbs z)))) < 0) then (0 : Int) = z ∧ false = true ∧ True else IntKind.wrap IntKind.i64 (wv (List.drop (List.length (limbs (Int.natAbs z)) - WalkI.i i) (limbs (Int.natAbs z)))) = z ∧ true = true ∧ True else IntKind.wrap IntKind.i64 (wv (List.drop (List.length (limbs (Int.natAbs z)) - WalkI.i i) (limbs (Int.natAbs z)))) = z ∧ true = true ∧ True) = evFnX (xe_low (limbs z.natAbs)) Tryz.f73 [.big z n] (MRes.sat (.ret (.tup [.int .i64 z, .bool true]))) := by kernel_rfl
def s_ilow : FSpec
 | [.big z _] => some (some (z.natAbs < 9223372036854775808), .ret (.tup [.int .i64 z, .bool true]))
 | _ => none
theorem wv_drop_succ (l : List Int) {k : Nat} (h : k < l.length) : wv (l.drop k) = l.getD k 0 + 4294967296 * wv (l.drop (k + 1)) := by
 rw [List.drop_eq_getElem_cons h]
 simp [wv, h]
theorem p_ilow : GoodX Tryz.f73 s_ilow := by
 intro ms p r h hp hf
 unfold s_ilow at h
 split at h
 ·rename_i z n
  simp only [Option.some.injEq, Prod.mk.injEq] at h
  obtain ⟨rfl, rfl⟩ := h
  have hz : z.natAbs < 9223372036854775808 := hp
  refine ⟨xe_low (limbs z.natAbs), ?_, allOk_none rfl _⟩
  rw [← vc_ilow z n, p32]
  have hw := limbs_wd z.natAbs
  have hl : (limbs z.natAbs).length ≤ 2 := limbs_len_le (by omega)
  have e := wv_limbs z.natAbs
  generalize limbs z.natAbs = l at *
  rw [decide_eq_false (show ¬ ((l.length : Nat) : Int) > 2 by omega), cond_false]
  refine fun L => ⟨⟨⟨0⟩, Nat.zero_le _, ?_, True.intro⟩, fun i hi => ?_⟩
  ·have e1 : IntKind.wrap IntKind.i64 ((l.length : Int) - 1) = (l.length : Int) - 1 - ((0 : Nat) : Int) := by rw [i64w (by omega) (by omega)]; omega
   have e2 : wv (l.drop (l.length - 0)) = 0 := by rw [Nat.sub_zero, List.drop_length]; rfl
   rw [e1]
   refine ⟨⟨rfl, rfl, rfl, True.intro⟩, ⟨rfl, .inl (Nat.le_refl _)⟩, e2.symm, rfl, True.intro⟩
  obtain ⟨i⟩ := i
  have hi : i ≤ l.length := hi
  dsimp only
  by_cases h0 : i < l.length
  ·rw [decide_eq_true (show (l.length : Int) - 1 - (i : Int) ≥ 0 by omega), cond_true]
   have et : ((l.length : Int) - 1 - (i : Int)).toNat = l.length - 1 - i := by omega
   rw [et]
   have es := wv_drop_succ l (k := l.length - 1 - i) (by omega)
   rw [show l.length - 1 - i + 1 = l.length - i by omega] at es
   have hx : 0 ≤ l.getD (l.length - 1 - i) 0 ∧ l.getD (l.length - 1 - i) 0 < 4294967296 := by
    have hk : l.length - 1 - i < l.length := by omega
    rw [show l.getD (l.length - 1 - i) 0 = l[l.length - 1 - i] by simp [hk]]
    exact hw _ (List.getElem_mem hk)
   have hv : 0 ≤ wv (l.drop (l.length - i)) ∧ wv (l.drop (l.length - i)) < 4294967296 := by
    have hwd : Wd (l.drop (l.length - i)) := fun x hx => hw x (List.mem_of_mem_drop hx)
    have hdl : (l.drop (l.length - i)).length ≤ 1 := by rw [List.length_drop]; omega
    have h2 := wv_lt hwd
    have h3 := wv_nonneg hwd
    have h4 : (4294967296 : Int) ^ (l.drop (l.length - i)).length ≤ 4294967296 ^ 1 := by
     rcases (show (l.drop (l.length - i)).length = 0 ∨ (l.drop (l.length - i)).length = 1 by omega) with q | q <;> rw [q] <;> decide
    omega
   generalize wv (l.drop (l.length - i)) = v at *
   generalize l.getD (l.length - 1 - i) 0 = x at *
   have eo : IntKind.wrap IntKind.u64 (BitVec.ofInt IntKind.u64.bits (IntKind.u64.wrap (v * 4294967296)) ||| BitVec.ofInt IntKind.u64.bits (IntKind.u64.wrap x)).toNat = v * 4294967296 + x := by
    rw [eu64 (x := v * 4294967296) (by omega), eu64 (x := x) (by omega)]
    exact or64 32 (by omega) (by omega) (by omega) (by omega) (by omega) (by omega)
   rw [eo]
   have e1 : IntKind.wrap IntKind.i64 ((l.length : Int) - 1 - (i : Int) - 1) = (l.length : Int) - 1 - ((i + 1 : Nat) : Int) := by rw [i64w (by omega) (by omega)]; omega
   rw [e1]
   refine ⟨⟨by omega, by omega⟩, rfl, by omega, ⟨i + 1⟩, h0, ⟨⟨rfl, rfl, rfl, True.intro⟩, ⟨rfl, .inl (Nat.le_refl _)⟩, ?_, rfl, True.intro⟩, True.intro, by show l.length - (i + 1) < l.length - i; omega⟩
   show v * 4294967296 + x = wv (l.drop (l.length - (i + 1)))
   rw [show l.length - (i + 1) = l.length - 1 - i by omega]
   omega
  ·obtain rfl : i = l.length := by omega
   rw [decide_eq_false (show ¬ (l.length : Int) - 1 - (l.length : Int) ≥ 0 by omega), cond_false, Nat.sub_self, List.drop_zero, e]
   have e1 : IntKind.wrap IntKind.i64 (z.natAbs : Int) = z.natAbs := i64w (by omega) (by omega)
   have e2 : IntKind.wrap IntKind.i64 (0 - (z.natAbs : Int)) = 0 - (z.natAbs : Int) := i64w (by omega) (by omega)
   rw [e1, e2]
   by_cases hz0 : z < 0
   ·have e3 : (0 - (z.natAbs : Int) != 0) = true := by simp only [bne_iff_ne]; omega
    have e4 : decide (0 - (z.natAbs : Int) < 0) = true := decide_eq_true (by omega)
    rw [decide_eq_true hz0, cond_true, e3, cond_true, e4]
    exact ⟨by omega, rfl, True.intro⟩
   ·have e4 : decide ((z.natAbs : Int) < 0) = false := decide_eq_false (by omega)
    rw [decide_eq_false hz0, cond_false, e4]
    cases ((z.natAbs : Int) != 0)
    ·exact ⟨by omega, rfl, True.intro⟩
    ·exact ⟨by omega, rfl, True.intro⟩
 ·simp at h
noncomputable def c_ilow : Ctr Tryz.prog := ⟨73, s_ilow, fun args w => Tryz.call73 args w, fnX_ok_facts Tryz.func73 s_ilow p_ilow⟩
end Go.Proofs.YtnfmjlhkknndhaaGreat
/-
 Contracts of functions: package quadratic.
-/
namespace Go.Proofs.YtnfmjlhkknndhaaGreat
open Go Go.RowKit
theorem call_ok {f : FuncId} {fn : Func} (hf : Tryz.prog.funcs[f]? = some fn) {ms : List MV} {r : MRes} (h : factsL ms → ∃ E : Env Tryz.prog, evFn E fn ms r.sat) {S : Nat → Prop} {w : World} {args : Array Value} (hS : ∀ b, S b → b < w.heap.size) (hG : GW S w)
  (ha : RepAll (Ctx.args S) w ms args.toList) : Calls Tryz.prog f args w fun e w' => Ext w w' ∧ r.holds (Ctx.res S) w' e :=
 fn_ok mix hf (fun m => some (some (∃ E : Env Tryz.prog, evFn E fn m r.sat), r)) (fun m p2 r2 h2 hp2 => by
  simp only [Option.some.injEq, Prod.mk.injEq] at h2
  obtain ⟨rfl, rfl⟩ := h2
  exact hp2) S w ms args _ r rfl (h (RepAll.facts ms _ ha)) hS hG ha
theorem nmul_lt {a b : Int} {n m : Nat} (ha : a.natAbs < 2 ^ n) (hb : b.natAbs < 2 ^ m) : (a * b).natAbs < 2 ^ (n + m) := by
 rw [Int.natAbs_mul, Nat.pow_add]
 exact Nat.mul_lt_mul'' ha hb
theorem rep_sl_eq {c : Ctx} {w : World} {wd len : Nat} {f g : Nat → MV} {v : Value} (h : Rep1 c w (.sl wd len f) v) (hg : ∀ i, i < len → g i = f i) : Rep1 c w (.sl wd len g) v := by
 rw [rep1_cell rfl (by simp)] at h ⊢
 obtain ⟨a, cap, h1, h2, h3⟩ := h
 refine ⟨a, cap, h1, h2, fun hl => ?_⟩
 obtain ⟨b, off, h4, h5, h6⟩ := h3 hl
 exact ⟨b, off, h4, h5, fun i hi => by rw [hg i hi]; exact h6 i hi⟩
def s_qnum : FSpec
 | [.int .i64 z] => some (some (-9223372036854775808 ≤ z ∧ z ≤ 9223372036854775807), .ret (.big z 64))
 | _ => none
theorem vc_qnum (z : Int) : (Fit z ∧ z = z ∧ ((64 : Nat) ≤ 64 ∨ Int.natAbs z < 2 ^ (64 : Nat))) = evFn (env [c_iof] noAnn) Tryz.f83 [.int .i64 z] (MRes.sat (.ret (.big z 64))) := by kernel_rfl
theorem p_qnum : Good Tryz.f83 s_qnum := by
 intro ms p r h hp
 unfold s_qnum at h
 split at h
 ·rename_i z
  simp only [Option.some.injEq, Prod.mk.injEq] at h
  obtain ⟨rfl, rfl⟩ := h
  obtain ⟨h1, h2⟩ : -9223372036854775808 ≤ z ∧ z ≤ 9223372036854775807 := hp
  refine ⟨env [c_iof] noAnn, ?_⟩
  rw [← vc_qnum z]
  first | done | (and_intros <;> first | exact True.intro | rfl | exact .inl (Nat.le_refl _) | omega)
 ·simp at h
def c_qnum : Ctr Tryz.prog := ⟨83, s_qnum, fun args w => Tryz.call83 args w, fn_ok mix Tryz.func83 s_qnum p_qnum⟩
def a_qprod : Nat → MS → Option LoopAnn
 | 3, _ => some (.unroll 4)
 | _, _ => none
theorem vc_qprod2 (a b : Int) (n m : Nat) : (Fit 1 ∧ ((0 : Int) ≤ 0 ∧ (0 : Int) < (↑(2 : Nat) : Int)) ∧ ((64 : Nat) ≤ 1000000 ∧ n ≤ 1000000) ∧ ((0 : Int) ≤ IntKind.wrap IntKind.i64 ((0 : Int) + 1) ∧ IntKind.wrap IntKind.i64 ((0 : Int) + 1) < (↑(2 : Nat) : Int)) ∧ ((64 : Nat) + n ≤ 1000000 ∧ m ≤ 1000000) ∧ (1 : Int) * a * b = a * b ∧ ((64 : Nat) + n + m ≤ n + m ∨ Int.natAbs ((1 : Int) * a * b) < 2 ^ (n + m))) = evFn (env [c_qnum, c_mul] a_qprod) Tryz.f82 [.sl 2 2 (rowOf [.big a n, .big b m])] (MRes.sat (.ret (.big (a * b) (n + m)))) := by kernel_rfl
theorem vc_qprod3 (a b c : Int) (n m k : Nat) : (Fit 1 ∧ ((0 : Int) ≤ 0 ∧ (0 : Int) < (↑(3 : Nat) : Int)) ∧ ((64 : Nat) ≤ 1000000 ∧ n ≤ 1000000) ∧ ((0 : Int) ≤ IntKind.wrap IntKind.i64 ((0 : Int) + 1) ∧ IntKind.wrap IntKind.i64 ((0 : Int) + 1) < (↑(3 : Nat) : Int)) ∧ ((64 : Nat) + n ≤ 1000000 ∧ m ≤ 1000000) ∧ ((0 : Int) ≤ IntKind.wrap IntKind.i64 (IntKind.wrap IntKind.i64 ((0 : Int) + 1) + 1) ∧ IntKind.wrap IntKind.i64 (IntKind.wrap IntKind.i64 ((0 : Int) + 1) + 1) < (↑(3 : Nat) : Int)) ∧ ((64 : Nat) + n + m ≤ 1000000 ∧ k ≤ 1000000) ∧ (1 : Int) * a * b * c = a * b * c ∧ ((64 : Nat) + n + m + k ≤ n + m + k ∨ Int.natAbs ((1 : Int) * a * b * c) < 2 ^ (n + m + k))) = evFn (env [c_qnum, c_mul] a_qprod) Tryz.f82 [.sl 2 3 (rowOf [.big a n, .big b m, .big c k])] (MRes.sat (.ret (.big (a * b * c) (n + m + k)))) := by kernel_rfl
def s_qprod : FSpec
 | [.sl wd len f] => cond (wd.beq 2 && len.beq 2) (match f 0, f 1 with
   | .big a n, .big b m => some (some (n ≤ 900000 ∧ m ≤ 900000), .ret (.big (a * b) (n + m)))
   | _, _ => none)
  (cond (wd.beq 2 && len.beq 3) (match f 0, f 1, f 2 with
   | .big a n, .big b m, .big c k => some (some (n ≤ 300000 ∧ m ≤ 300000 ∧ k ≤ 300000), .ret (.big (a * b * c) (n + m + k)))
   | _, _, _ => none) none)
 | _ => none
theorem w01 : IntKind.wrap IntKind.i64 ((0 : Int) + 1) = 1 := rfl
theorem w12 : IntKind.wrap IntKind.i64 ((1 : Int) + 1) = 2 := rfl
theorem qprod2_ok {a b : Int} {n m : Nat} (h1 : n ≤ 900000) (h2 : m ≤ 900000) (hf : factsL [.sl 2 2 (rowOf [.big a n, .big b m])] → True) (ha : a.natAbs < 2 ^ n) (hb : b.natAbs < 2 ^ m) : ∃ E : Env Tryz.prog, evFn E Tryz.f82 [.sl 2 2 (rowOf [.big a n, .big b m])] (MRes.sat (.ret (.big (a * b) (n + m)))) := by
 refine ⟨env [c_qnum, c_mul] a_qprod, ?_⟩
 have := hf
 rw [← vc_qprod2 a b n m, w01, Int.one_mul]
 have := nmul_lt ha hb
 refine ⟨by omega, by omega, by omega, by omega, by omega, rfl, .inr this⟩
theorem qprod3_ok {a b c : Int} {n m k : Nat} (h1 : n ≤ 300000) (h2 : m ≤ 300000) (h3 : k ≤ 300000) (ha : a.natAbs < 2 ^ n) (hb : b.natAbs < 2 ^ m) (hc : c.natAbs < 2 ^ k) : ∃ E : Env Tryz.prog, evFn E Tryz.f82 [.sl 2 3 (rowOf [.big a n, .big b m, .big c k])] (MRes.sat (.ret (.big (a * b * c) (n + m + k)))) := by
 refine ⟨env [c_qnum, c_mul] a_qprod, ?_⟩
 rw [← vc_qprod3 a b c n m k, w01, w12, Int.one_mul]
 have := nmul_lt (nmul_lt ha hb) hc
 refine ⟨by omega, by omega, by omega, by omega, by omega, by omega, by omega, rfl, .inr this⟩
theorem sl_big {c : Ctx} {w : World} {len : Nat} {f : Nat → MV} {v : Value} (h : Rep1 c w (.sl 2 len f) v) {i : Nat} (hi : i < len) {a : Int} {n : Nat} (hf : f i = .big a n) : a.natAbs < 2 ^ n := by
 rw [rep1_cell rfl (by simp)] at h
 obtain ⟨_, _, _, _, h3⟩ := h
 obtain ⟨b, off, _, _, h6⟩ := h3 (by omega)
 obtain ⟨cs, _, q, _⟩ := h6 i hi
 rw [hf] at q
 obtain ⟨_, _, q2, _⟩ := q
 exact q2
def c_qprod : Ctr Tryz.prog := ⟨82, s_qprod, fun args w => Tryz.call82 args w, fun S w ms args p r hs hp hS hG ha => by
 unfold s_qprod at hs
 split at hs
 ·rename_i wd len f
  cases h2 : (wd.beq 2 && len.beq 2) with
  | true =>
   rw [h2, cond_true] at hs
   simp only [Bool.and_eq_true, Nat.beq_eq] at h2
   obtain ⟨rfl, rfl⟩ := h2
   split at hs
   ·rename_i a n b m e0 e1
    simp only [Option.some.injEq, Prod.mk.injEq] at hs
    obtain ⟨rfl, rfl⟩ := hs
    obtain ⟨v, rr, q0, q1, q2⟩ := ha
    have ha' : RepAll (Ctx.args S) w [.sl 2 2 (rowOf [.big a n, .big b m])] args.toList := ⟨v, rr, q0, rep_sl_eq q1 (fun i hi => by
     have : i = 0 ∨ i = 1 := by omega
     rcases this with rfl | rfl
     ·exact e0.symm
     ·exact e1.symm), q2⟩
    exact call_ok Tryz.func82 (fun _ => qprod2_ok hp.1 hp.2 (fun _ => trivial) (sl_big q1 (by omega) e0) (sl_big q1 (by omega) e1)) hS hG ha'
   ·simp at hs
  | false =>
   rw [h2, cond_false] at hs
   cases h3 : (wd.beq 2 && len.beq 3) with
   | true =>
    rw [h3, cond_true] at hs
    simp only [Bool.and_eq_true, Nat.beq_eq] at h3
    obtain ⟨rfl, rfl⟩ := h3
    split at hs
    ·rename_i a n b m c k e0 e1 e2
     simp only [Option.some.injEq, Prod.mk.injEq] at hs
     obtain ⟨rfl, rfl⟩ := hs
     obtain ⟨v, rr, q0, q1, q2⟩ := ha
     have ha' : RepAll (Ctx.args S) w [.sl 2 3 (rowOf [.big a n, .big b m, .big c k])] args.toList := ⟨v, rr, q0, rep_sl_eq q1 (fun i hi => by
      have : i = 0 ∨ i = 1 ∨ i = 2 := by omega
      rcases this with rfl | rfl | rfl
      ·exact e0.symm
      ·exact e1.symm
      ·exact e2.symm), q2⟩
     exact call_ok Tryz.func82 (fun _ => qprod3_ok hp.1 hp.2.1 hp.2.2 (sl_big q1 (by omega) e0) (sl_big q1 (by omega) e1) (sl_big q1 (by omega) e2)) hS hG ha'
    ·simp at hs
   | false => rw [h3, cond_false] at hs; simp at hs
 ·simp at hs⟩
def fmv (f : Fm) (n : Nat) : MV := .st [.big f.A n, .big f.B n, .big f.C n]
def mmv (m : Mx) (n : Nat) : MV := .st [.big m.a n, .big m.b n, .big m.c n, .big m.d n]
def max3 (a b c : Nat) : Nat := max a (max b c)
def max4 (a b c d : Nat) : Nat := max (max a b) (max c d)
theorem icmp_eqz (a b : Int) : (icmp a b == (0 : Int)) = decide (a = b) := by
 unfold icmp
 by_cases h : a = b
 ·subst h; simp
 ·rw [decide_eq_false h]
  split <;> (try split) <;> first | rfl | omega
def s_qdisc : FSpec
 | [.st [.big a n, .big b m, .big c k]] => some (some (n ≤ 100000 ∧ m ≤ 100000 ∧ k ≤ 100000), .ret (.big (Fm.disc ⟨a, b, c⟩) (2 * max3 n m k + 66)))
 | _ => none
theorem vc_qdisc (a b c : Int) (n m k : Nat) : ((m ≤ 900000 ∧ m ≤ 900000) ∧ Fit 4 ∧ ((3 : Nat) ≤ 3 ∧ (64 : Nat) ≤ 300000 ∧ n ≤ 300000 ∧ k ≤ 300000) ∧ (m + m ≤ 1000000 ∧ (64 : Nat) + n + k ≤ 1000000) ∧ b * b - 4 * a * c = Fm.disc (Fm.mk a b c) ∧ (max (m + m) ((64 : Nat) + n + k) + 1 ≤ 2 * max3 n m k + 66 ∨ Int.natAbs (b * b - 4 * a * c) < 2 ^ ((2 : Nat) * max3 n m k + 66))) = evFn (env [c_qprod, c_qnum, c_isub] noAnn) Tryz.f39 [.st [.big a n, .big b m, .big c k]] (MRes.sat (.ret (.big (Fm.disc ⟨a, b, c⟩) (2 * max3 n m k + 66)))) := by kernel_rfl
theorem p_qdisc : Good Tryz.f39 s_qdisc := by
 intro ms p r h hp
 unfold s_qdisc at h
 split at h
 ·rename_i a n b m c k
  simp only [Option.some.injEq, Prod.mk.injEq] at h
  obtain ⟨rfl, rfl⟩ := h
  obtain ⟨h1, h2, h3⟩ : n ≤ 100000 ∧ m ≤ 100000 ∧ k ≤ 100000 := hp
  refine ⟨env [c_qprod, c_qnum, c_isub] noAnn, ?_⟩
  rw [← vc_qdisc a b c n m k]
  unfold max3 Fm.disc
  and_intros <;> first|exact True.intro|rfl|omega|exact .inl (by omega)
 ·simp at h
def c_qdisc : Ctr Tryz.prog := ⟨39, s_qdisc, fun args w => Tryz.call39 args w, fn_ok mix Tryz.func39 s_qdisc p_qdisc⟩
def s_qval : FSpec
 | [.st [.big a n, .big b m, .big c k], .big x l, .big y r] => some (some (n ≤ 100000 ∧ m ≤ 100000 ∧ k ≤ 100000 ∧ l ≤ 100000 ∧ r ≤ 100000), .ret (.big (Fm.val ⟨a, b, c⟩ x y) (max3 n m k + 2 * max l r + 2)))
 | _ => none
theorem vc_qval (a b c x y : Int) (n m k l r : Nat) : ((n ≤ 300000 ∧ l ≤ 300000 ∧ l ≤ 300000) ∧ (m ≤ 300000 ∧ l ≤ 300000 ∧ r ≤ 300000) ∧ (n + l + l ≤ 1000000 ∧ m + l + r ≤ 1000000) ∧ (k ≤ 300000 ∧ r ≤ 300000 ∧ r ≤ 300000) ∧ (max (n + l + l) (m + l + r) + 1 ≤ 1000000 ∧ k + r + r ≤ 1000000) ∧ a * x * x + b * x * y + c * y * y = Fm.val (Fm.mk a b c) x y ∧ (max (max (n + l + l) (m + l + r) + 1) (k + r + r) + 1 ≤ max3 n m k + 2 * max l r + 2 ∨ Int.natAbs (a * x * x + b * x * y + c * y * y) < 2 ^ (max3 n m k + 2 * max l r + 2))) = evFn (env [c_qprod, c_iadd] noAnn) Tryz.f44 [.st [.big a n, .big b m, .big c k], .big x l, .big y r] (MRes.sat (.ret (.big (Fm.val ⟨a, b, c⟩ x y) (max3 n m k + 2 * max l r + 2)))) := by kernel_rfl
theorem p_qval : Good Tryz.f44 s_qval := by
 intro ms p r h hp
 unfold s_qval at h
 split at h
 ·rename_i a n b m c k x l y r
  simp only [Option.some.injEq, Prod.mk.injEq] at h
  obtain ⟨rfl, rfl⟩ := h
  obtain ⟨h1, h2, h3, h4, h5⟩ : n ≤ 100000 ∧ m ≤ 100000 ∧ k ≤ 100000 ∧ l ≤ 100000 ∧ r ≤ 100000 := hp
  refine ⟨env [c_qprod, c_iadd] noAnn, ?_⟩
  rw [← vc_qval a b c x y n m k l r]
  unfold max3 Fm.val
  simp only [← Int.mul_assoc]
  and_intros <;> first|exact True.intro|rfl|omega|exact .inl (by omega)
 ·simp at h
def c_qval : Ctr Tryz.prog := ⟨44, s_qval, fun args w => Tryz.call44 args w, fn_ok mix Tryz.func44 s_qval p_qval⟩
def s_qapply : FSpec
 | [.st [.big a n, .big b m, .big c k], .st [.big x l, .big y r, .big z u, .big t v]] => some (some (n ≤ 40000 ∧ m ≤ 40000 ∧ k ≤ 40000 ∧ l ≤ 40000 ∧ r ≤ 40000 ∧ u ≤ 40000 ∧ v ≤ 40000), .ret (fmv (Fm.app ⟨a, b, c⟩ ⟨x, y, z, t⟩) (max3 n m k + 2 * max4 l r u v + 68)))
 | _ => none
theorem vc_qapply (a b c x y z t : Int) (n m k l r u v : Nat) : ((l ≤ 900000 ∧ v ≤ 900000) ∧ (r ≤ 900000 ∧ u ≤ 900000) ∧ (l + v ≤ 1000000 ∧ r + u ≤ 1000000) ∧ (n ≤ 300000 ∧ l ≤ 300000 ∧ r ≤ 300000) ∧ (k ≤ 300000 ∧ u ≤ 300000 ∧ v ≤ 300000) ∧ (n + l + r ≤ 1000000 ∧ k + u + v ≤ 1000000) ∧ (n ≤ 100000 ∧ m ≤ 100000 ∧ k ≤ 100000 ∧ l ≤ 100000 ∧ u ≤ 100000) ∧ Fit 2 ∧ ((64 : Nat) ≤ 900000 ∧ max (n + l + r) (k + u + v) + 1 ≤ 900000) ∧ (m ≤ 900000 ∧ max (l + v) (r + u) + 1 ≤ 900000) ∧ ((64 : Nat) + (max (n + l + r) (k + u + v) + 1) ≤ 1000000 ∧ m + (max (l + v) (r + u) + 1) ≤ 1000000) ∧ (n ≤ 100000 ∧ m ≤ 100000 ∧ k ≤ 100000 ∧ r ≤ 100000 ∧ v ≤ 100000) ∧ LeB (Fm.val (Fm.mk a b c) x z) (Fm.val (Fm.mk a b c) x z) (max3 n m k + 2 * max l u + 2) (max3 n m k + 2 * max4 l r u v + 68) ∧ LeB ((2 : Int) * (a * x * y + c * z * t) + b * (x * t + y * z)) ((2 : Int) * (a * (x * y) + c * (z * t)) + b * (x * t + y * z)) (max ((64 : Nat) + (max (n + l + r) (k + u + v) + 1)) (m + (max (l + v) (r + u) + 1)) + 1) (max3 n m k + 2 * max4 l r u v + 68) ∧ LeB (Fm.val (Fm.mk a b c) y t) (Fm.val (Fm.mk a b c) y t) (max3 n m k + 2 * max r v + 2) (max3 n m k + 2 * max4 l r u v + 68) ∧ True) = evFn (env [c_qprod, c_iadd, c_qnum, c_qval] noAnn) Tryz.f37 [.st [.big a n, .big b m, .big c k], .st [.big x l, .big y r, .big z u, .big t v]] (MRes.sat (.ret (fmv (Fm.app ⟨a, b, c⟩ ⟨x, y, z, t⟩) (max3 n m k + 2 * max4 l r u v + 68)))) := by kernel_rfl
theorem p_qapply : Good Tryz.f37 s_qapply := by
 intro ms p r h hp
 unfold s_qapply at h
 split at h
 ·rename_i a n b m c k x l y r z u t v
  simp only [Option.some.injEq, Prod.mk.injEq] at h
  obtain ⟨rfl, rfl⟩ := h
  obtain ⟨h1, h2, h3, h4, h5, h6, h7⟩ : n ≤ 40000 ∧ m ≤ 40000 ∧ k ≤ 40000 ∧ l ≤ 40000 ∧ r ≤ 40000 ∧ u ≤ 40000 ∧ v ≤ 40000 := hp
  refine ⟨env [c_qprod, c_iadd, c_qnum, c_qval] noAnn, ?_⟩
  rw [← vc_qapply a b c x y z t n m k l r u v]
  unfold max3 max4
  simp only [← Int.mul_assoc]
  and_intros <;> first|exact True.intro|rfl|omega|exact .inl (by omega)
 ·simp at h
def c_qapply : Ctr Tryz.prog := ⟨37, s_qapply, fun args w => Tryz.call37 args w, fn_ok mix Tryz.func37 s_qapply p_qapply⟩
def s_qprim : FSpec
 | [.st [.big a n, .big b m, .big c k]] => some (some (n ≤ 100000 ∧ m ≤ 100000 ∧ k ≤ 100000), .ret (.bool (primF ⟨a, b, c⟩)))
 | _ => none
theorem vc_qprim (a b c : Int) (n m k : Nat) : ((m ≤ 900000 ∧ k ≤ 900000) ∧ (n ≤ 900000 ∧ max m k ≤ 900000) ∧ Fit 1 ∧ (max n (max m k) ≤ 1000000 ∧ (64 : Nat) ≤ 1000000) ∧ (icmp (↑(Int.gcd a (↑(Int.gcd b c) : Int)) : Int) (1 : Int) == 0) = primF (Fm.mk a b c)) = evFn (env [c_igcd, c_qnum, c_icmp] noAnn) Tryz.f76 [.st [.big a n, .big b m, .big c k]] (MRes.sat (.ret (.bool (primF ⟨a, b, c⟩)))) := by kernel_rfl
theorem p_qprim : Good Tryz.f76 s_qprim := by
 intro ms p r h hp
 unfold s_qprim at h
 split at h
 ·rename_i a n b m c k
  simp only [Option.some.injEq, Prod.mk.injEq] at h
  obtain ⟨rfl, rfl⟩ := h
  obtain ⟨h1, h2, h3⟩ : n ≤ 100000 ∧ m ≤ 100000 ∧ k ≤ 100000 := hp
  refine ⟨env [c_igcd, c_qnum, c_icmp] noAnn, ?_⟩
  rw [← vc_qprim a b c n m k]
  refine ⟨by omega, by omega, by omega, by omega, ?_⟩
  rw [icmp_eqz]
  unfold primF
  refine decide_eq_decide.2 ?_
  rw [Int.gcd_assoc]
  exact ⟨fun h => by exact_mod_cast h, fun h => by rw [h]; rfl⟩
 ·simp at h
def c_qprim : Ctr Tryz.prog := ⟨76, s_qprim, fun args w => Tryz.call76 args w, fn_ok mix Tryz.func76 s_qprim p_qprim⟩
def s_qrows : FSpec
 | [.st [.big a n, .big b m, .big c k, .big d l]] => some (none, .ret (.st [.st [.big a n, .big b m], .st [.big c k, .big d l]]))
 | _ => none
theorem vc_qrows (a b c d : Int) (n m k l : Nat) : ((LeB a a n n ∧ LeB b b m m ∧ True) ∧ (LeB c c k k ∧ LeB d d l l ∧ True) ∧ True) = evFn (env [] noAnn) Tryz.f113 [.st [.big a n, .big b m, .big c k, .big d l]] (MRes.sat (.ret (.st [.st [.big a n, .big b m], .st [.big c k, .big d l]]))) := by kernel_rfl
theorem p_qrows : Good Tryz.f113 s_qrows := by
 intro ms p r h hp
 unfold s_qrows at h
 split at h
 ·rename_i a n b m c k d l
  simp only [Option.some.injEq, Prod.mk.injEq] at h
  obtain ⟨rfl, rfl⟩ := h
  refine ⟨env [] noAnn, ?_⟩
  rw [← vc_qrows a b c d n m k l]
  first | done | (and_intros <;> first | exact True.intro | rfl | exact .inl (Nat.le_refl _) | omega)
 ·simp at h
def c_qrows : Ctr Tryz.prog := ⟨113, s_qrows, fun args w => Tryz.call113 args w, fn_ok mix Tryz.func113 s_qrows p_qrows⟩
def a_qtimes : Nat → MS → Option LoopAnn
 | 4, _ => some (.unroll 3)
 | 7, _ => some (.unroll 3)
 | _, _ => none
def s_qtimes : FSpec
 | [.st [.big a n, .big b m, .big c k, .big d l], .st [.big x r, .big y u, .big z v, .big t w]] => some (some (max4 n m k l + max4 r u v w ≤ 900000), .ret (mmv (Mx.mul ⟨a, b, c, d⟩ ⟨x, y, z, t⟩) (max4 n m k l + max4 r u v w + 1)))
 | _ => none
theorem vc_qtimes (a b c d x y z t : Int) (n m k l r u v w : Nat) : (((0 : Int) ≤ 0 ∧ (0 : Int) < (↑(2 : Nat) : Int)) ∧ ((0 : Int) ≤ 0 ∧ (0 : Int) < (↑(2 : Nat) : Int)) ∧ ((0 : Int) ≤ 0 ∧ (0 : Int) < (↑(2 : Nat) : Int)) ∧ ((0 : Int) ≤ 0 ∧ (0 : Int) < (↑(2 : Nat) : Int)) ∧ (n ≤ 900000 ∧ r ≤ 900000) ∧ ((0 : Int) ≤ 0 ∧ (0 : Int) < (↑(2 : Nat) : Int)) ∧ ((0 : Int) ≤ 1 ∧ (1 : Int) < (↑(2 : Nat) : Int)) ∧ ((0 : Int) ≤ 1 ∧ (1 : Int) < (↑(2 : Nat) : Int)) ∧ ((0 : Int) ≤ 0 ∧ (0 : Int) < (↑(2 : Nat) : Int)) ∧ (m ≤ 900000 ∧ v ≤ 900000) ∧ (n + r ≤ 1000000 ∧ m + v ≤ 1000000) ∧ ((0 : Int) ≤ 0 ∧ (0 : Int) < (↑(2 : Nat) : Int)) ∧ ((0 : Int) ≤ 0 ∧ (0 : Int) < (↑(2 : Nat) : Int)) ∧ ((0 : Int) ≤ 0 ∧ (0 : Int) < (↑(2 : Nat) : Int)) ∧ ((0 : Int) ≤ 0 ∧ (0 : Int) < (↑(2 : Nat) : Int)) ∧ ((0 : Int) ≤ 0 ∧ (0 : Int) < (↑(2 : Nat) : Int)) ∧ ((0 : Int) ≤ IntKind.wrap IntKind.i64 ((0 : Int) + 1) ∧ IntKind.wrap IntKind.i64 ((0 : Int) + 1) < (↑(2 : Nat) : Int)) ∧ (n ≤ 900000 ∧ u ≤ 900000) ∧ ((0 : Int) ≤ 0 ∧ (0 : Int) < (↑(2 : Nat) : Int)) ∧ ((0 : Int) ≤ 1 ∧ (1 : Int) < (↑(2 : Nat) : Int)) ∧ ((0 : Int) ≤ 1 ∧ (1 : Int) < (↑(2 : Nat) : Int)) ∧ ((0 : Int) ≤ IntKind.wrap IntKind.i64 ((0 : Int) + 1) ∧ IntKind.wrap IntKind.i64 ((0 : Int) + 1) < (↑(2 : Nat) : Int)) ∧ (m ≤ 900000 ∧ w ≤ 900000) ∧ (n + u ≤ 1000000 ∧ m + w ≤ 1000000) ∧ ((0 : Int) ≤ 0 ∧ (0 : Int) < (↑(2 : Nat) : Int)) ∧ ((0 : Int) ≤ IntKind.wrap IntKind.i64 ((0 : Int) + 1) ∧ IntKind.wrap IntKind.i64 ((0 : Int) + 1) < (↑(2 : Nat) : Int)) ∧ ((0 : Int) ≤ IntKind.wrap IntKind.i64 ((0 : Int) + 1) ∧ IntKind.wrap IntKind.i64 ((0 : Int) + 1) < (↑(2 : Nat) : Int)) ∧ ((0 : Int) ≤ 0 ∧ (0 : Int) < (↑(2 : Nat) : Int)) ∧ ((0 : Int) ≤ 0 ∧ (0 : Int) < (↑(2 : Nat) : Int)) ∧ ((0 : Int) ≤ 0 ∧ (0 : Int) < (↑(2 : Nat) : Int)) ∧ (k ≤ 900000 ∧ r ≤ 900000) ∧ ((0 : Int) ≤ IntKind.wrap IntKind.i64 ((0 : Int) + 1) ∧ IntKind.wrap IntKind.i64 ((0 : Int) + 1) < (↑(2 : Nat) : Int)) ∧ ((0 : Int) ≤ 1 ∧ (1 : Int) < (↑(2 : Nat) : Int)) ∧ ((0 : Int) ≤ 1 ∧ (1 : Int) < (↑(2 : Nat) : Int)) ∧ ((0 : Int) ≤ 0 ∧ (0 : Int) < (↑(2 : Nat) : Int)) ∧ (l ≤ 900000 ∧ v ≤ 900000) ∧ (k + r ≤ 1000000 ∧ l + v ≤ 1000000) ∧ ((0 : Int) ≤ IntKind.wrap IntKind.i64 ((0 : Int) + 1) ∧ IntKind.wrap IntKind.i64 ((0 : Int) + 1) < (↑(2 : Nat) : Int)) ∧ ((0 : Int) ≤ 0 ∧ (0 : Int) < (↑(2 : Nat) : Int)) ∧ ((0 : Int) ≤ IntKind.wrap IntKind.i64 ((0 : Int) + 1) ∧ IntKind.wrap IntKind.i64 ((0 : Int) + 1) < (↑(2 : Nat) : Int)) ∧ ((0 : Int) ≤ 0 ∧ (0 : Int) < (↑(2 : Nat) : Int)) ∧ ((0 : Int) ≤ 0 ∧ (0 : Int) < (↑(2 : Nat) : Int)) ∧ ((0 : Int) ≤ IntKind.wrap IntKind.i64 ((0 : Int) + 1) ∧ IntKind.wrap IntKind.i64 ((0 : Int) + 1) < (↑(2 : Nat) : Int)) ∧ (k ≤ 900000 ∧ u ≤ 900000) ∧ ((0 : Int) ≤ IntKind.wrap IntKind.i64 ((0 : Int) + 1) ∧ IntKind.wrap IntKind.i64 ((0 : Int) + 1) < (↑(2 : Nat) : Int)) ∧ ((0 : Int) ≤ 1 ∧ (1 : Int) < (↑(2 : Nat) : Int)) ∧ ((0 : Int) ≤ 1 ∧ (1 : Int) < (↑(2 : Nat) : Int)) ∧ ((0 : Int) ≤ IntKind.wrap IntKind.i64 ((0 : Int) + 1) ∧ IntKind.wrap IntKind.i64 ((0 : Int) + 1) < (↑(2 : Nat) : Int)) ∧ (l ≤ 900000 ∧ w ≤ 900000) ∧ (k + u ≤ 1000000 ∧ l + w ≤ 1000000) ∧ ((0 : Int) ≤ IntKind.wrap IntKind.i64 ((0 : Int) + 1) ∧ IntKind.wrap IntKind.i64 ((0 : Int) + 1) < (↑(2 : Nat) : Int)) ∧ ((0 : Int) ≤ IntKind.wrap IntKind.i64 ((0 : Int) + 1) ∧ IntKind.wrap IntKind.i64 ((0 : Int) + 1) < (↑(2 : Nat) : Int)) ∧ ((0 : Int) ≤ 0 ∧ (0 : Int) < (↑(2 : Nat) : Int)) ∧ ((0 : Int) ≤ 0 ∧ (0 : Int) < (↑(2 : Nat) : Int)) ∧ ((0 : Int) ≤ 0 ∧ (0 : Int) < (↑(2 : Nat) : Int)) ∧ ((0 : Int) ≤ 1 ∧ (1 : Int) < (↑(2 : Nat) : Int)) ∧ ((0 : Int) ≤ 1 ∧ (1 : Int) < (↑(2 : Nat) : Int)) ∧ ((0 : Int) ≤ 0 ∧ (0 : Int) < (↑(2 : Nat) : Int)) ∧ ((0 : Int) ≤ 1 ∧ (1 : Int) < (↑(2 : Nat) : Int)) ∧ ((0 : Int) ≤ 1 ∧ (1 : Int) < (↑(2 : Nat) : Int)) ∧ LeB (a * x + b * z) (a * x + b * z) (max (n + r) (m + v) + 1) (max4 n m k l + max4 r u v w + 1) ∧ LeB (a * y + b * t) (a * y + b * t) (max (n + u) (m + w) + 1) (max4 n m k l + max4 r u v w + 1) ∧ LeB (c * x + d * z) (c * x + d * z) (max (k + r) (l + v) + 1) (max4 n m k l + max4 r u v w + 1) ∧ LeB (c * y + d * t) (c * y + d * t) (max (k + u) (l + w) + 1) (max4 n m k l + max4 r u v w + 1) ∧ True) = evFn (env [c_qrows, c_qprod, c_iadd] a_qtimes) Tryz.f88 [.st [.big a n, .big b m, .big c k, .big d l], .st [.big x r, .big y u, .big z v, .big t w]] (MRes.sat (.ret (mmv (Mx.mul ⟨a, b, c, d⟩ ⟨x, y, z, t⟩) (max4 n m k l + max4 r u v w + 1)))) := by kernel_rfl
theorem p_qtimes : Good Tryz.f88 s_qtimes := by
 intro ms p r h hp
 unfold s_qtimes at h
 split at h
 ·rename_i a n b m c k d l x r y u z v t w
  simp only [Option.some.injEq, Prod.mk.injEq] at h
  obtain ⟨rfl, rfl⟩ := h
  have h1 : max4 n m k l + max4 r u v w ≤ 900000 := hp
  refine ⟨env [c_qrows, c_qprod, c_iadd] a_qtimes, ?_⟩
  rw [← vc_qtimes a b c d x y z t n m k l r u v w]
  unfold max4 at h1 ⊢
  simp only [w01]
  and_intros <;> first | exact True.intro | rfl | omega | exact .inl (by omega)
 ·simp at h
def c_qtimes : Ctr Tryz.prog := ⟨88, s_qtimes, fun args w => Tryz.call88 args w, fn_ok mix Tryz.func88 s_qtimes p_qtimes⟩
end Go.Proofs.YtnfmjlhkknndhaaGreat
/-
 Contracts of functions: package cycle, what comes before reduction.
-/
namespace Go.Proofs.YtnfmjlhkknndhaaGreat
open Go Go.RowKit
theorem condI {b : Bool} {p x y : Prop} (hb : b = true ↔ p) (h1 : p → x) (h2 : ¬ p → y) : cond b x y := by
 cases b with
 | true => exact h1 (hb.1 rfl)
 | false => exact h2 fun q => by have := hb.2 q; simp at this
theorem boolI {a b : Bool} {p : Prop} (ha : a = true ↔ p) (hb : b = true ↔ p) : a = b := Bool.eq_iff_iff.2 (ha.trans hb.symm)
theorem falseI {b : Bool} {p : Prop} (hb : b = true ↔ p) (h : ¬ p) : false = b := by
 cases b with
 | true => exact absurd (hb.1 rfl) h
 | false => rfl
theorem trueI {b : Bool} {p : Prop} (hb : b = true ↔ p) (h : p) : true = b := (hb.2 h).symm
theorem icmp_cases (a b : Int) : (icmp a b = 1 ∧ b < a) ∨ (icmp a b = 0 ∧ a = b) ∨ (icmp a b = -1 ∧ a < b) := by
 unfold icmp
 split
 ·exact .inr (.inr ⟨rfl, by assumption⟩)
 ·split
  ·exact .inr (.inl ⟨rfl, by assumption⟩)
  ·exact .inl ⟨rfl, by omega⟩
theorem cgt {a b : Int} : decide (icmp a b > 0) = true ↔ b < a := by
 rw [decide_eq_true_eq]
 rcases icmp_cases a b with ⟨h, k⟩ | ⟨h, k⟩ | ⟨h, k⟩ <;> rw [h] <;> omega
theorem cle {a b : Int} : decide (icmp a b ≤ 0) = true ↔ a ≤ b := by
 rw [decide_eq_true_eq]
 rcases icmp_cases a b with ⟨h, k⟩ | ⟨h, k⟩ | ⟨h, k⟩ <;> rw [h] <;> omega
theorem clt {a b : Int} : decide (icmp a b < 0) = true ↔ a < b := by
 rw [decide_eq_true_eq]
 rcases icmp_cases a b with ⟨h, k⟩ | ⟨h, k⟩ | ⟨h, k⟩ <;> rw [h] <;> omega
theorem cge {a b : Int} : decide (icmp a b ≥ 0) = true ↔ b ≤ a := by
 rw [decide_eq_true_eq]
 rcases icmp_cases a b with ⟨h, k⟩ | ⟨h, k⟩ | ⟨h, k⟩ <;> rw [h] <;> omega
theorem ceqz {a b : Int} : (icmp a b == (0 : Int)) = true ↔ a = b := by
 rw [beq_iff_eq]
 rcases icmp_cases a b with ⟨h, k⟩ | ⟨h, k⟩ | ⟨h, k⟩ <;> rw [h] <;> omega
theorem cnez {a b : Int} : (icmp a b != (0 : Int)) = true ↔ a ≠ b := by
 rw [bne_iff_ne]
 rcases icmp_cases a b with ⟨h, k⟩ | ⟨h, k⟩ | ⟨h, k⟩ <;> rw [h] <;> omega
theorem sgn_cases (a : Int) : (sgn a = 1 ∧ 0 < a) ∨ (sgn a = 0 ∧ a = 0) ∨ (sgn a = -1 ∧ a < 0) := by
 unfold sgn
 split
 ·exact .inr (.inl ⟨rfl, by assumption⟩)
 ·split
  ·rename_i h; exact .inr (.inr ⟨rfl, by omega⟩)
  ·exact .inl ⟨rfl, by omega⟩
theorem seqz {a : Int} : (sgn a == (0 : Int)) = true ↔ a = 0 := by
 rw [beq_iff_eq]
 rcases sgn_cases a with ⟨h, k⟩ | ⟨h, k⟩ | ⟨h, k⟩ <;> rw [h] <;> omega
theorem sle0 {a : Int} : decide (sgn a ≤ 0) = true ↔ a ≤ 0 := by
 rw [decide_eq_true_eq]
 rcases sgn_cases a with ⟨h, k⟩ | ⟨h, k⟩ | ⟨h, k⟩ <;> rw [h] <;> omega
theorem slt0 {a : Int} : decide (sgn a < 0) = true ↔ a < 0 := by
 rw [decide_eq_true_eq]
 rcases sgn_cases a with ⟨h, k⟩ | ⟨h, k⟩ | ⟨h, k⟩ <;> rw [h] <;> omega
theorem sgt0 {a : Int} : decide (sgn a > 0) = true ↔ 0 < a := by
 rw [decide_eq_true_eq]
 rcases sgn_cases a with ⟨h, k⟩ | ⟨h, k⟩ | ⟨h, k⟩ <;> rw [h] <;> omega
theorem lt_pow_le {x n m : Nat} (h : x < 2 ^ n) (hm : n ≤ m) : x < 2 ^ m := Nat.lt_of_lt_of_le h (Nat.pow_le_pow_right (by omega) hm)
def s_cnum : FSpec
 | [.int .i64 z] => some (some (-9223372036854775808 ≤ z ∧ z ≤ 9223372036854775807), .ret (.big z 64))
 | _ => none
theorem vc_cnum (z : Int) : (Fit z ∧ z = z ∧ ((64 : Nat) ≤ 64 ∨ Int.natAbs z < 2 ^ (64 : Nat))) = evFn (env [c_iof] noAnn) Tryz.f74 [.int .i64 z] (MRes.sat (.ret (.big z 64))) := by kernel_rfl
theorem p_cnum : Good Tryz.f74 s_cnum := by
 intro ms p r h hp
 unfold s_cnum at h
 split at h
 ·rename_i z
  simp only [Option.some.injEq, Prod.mk.injEq] at h
  obtain ⟨rfl, rfl⟩ := h
  obtain ⟨h1, h2⟩ : -9223372036854775808 ≤ z ∧ z ≤ 9223372036854775807 := hp
  refine ⟨env [c_iof] noAnn, ?_⟩
  rw [← vc_cnum z]
  first | done | (and_intros <;> first | exact True.intro | rfl | exact .inl (Nat.le_refl _) | omega)
 ·simp at h
def c_cnum : Ctr Tryz.prog := ⟨74, s_cnum, fun args w => Tryz.call74 args w, fn_ok mix Tryz.func74 s_cnum p_cnum⟩
def s_known : FSpec
 | [.big d n] => some (some (n ≤ 100000), .ret (.tup [.big (knS d) 9, .int .i64 (knE d)]))
 | _ => none
theorem vc_known (d : Int) (n : Nat) : (Fit 4 ∧ (n ≤ 900000 ∧ (64 : Nat) ≤ 900000 ∧ ((4 : Int) = 0 → False)) ∧ n ≤ 100000 ∧ bif decide (d < 0) then LeB 0 (knS d) 0 9 ∧ (5 : Int) = knE d ∧ True else bif sgn (d - (↑(nsq (Int.natAbs d)) : Int) * (↑(nsq (Int.natAbs d)) : Int)) == 0 then LeB 0 (knS d) 0 9 ∧ (5 : Int) = knE d ∧ True else Fit 1 ∧ ((64 : Nat) ≤ 1000000 ∧ (64 : Nat) ≤ 1000000) ∧ bif decide (icmp (d % 4) (1 : Int) > 0) then LeB 0 (knS d) 0 9 ∧ (5 : Int) = knE d ∧ True else Fit 65536 ∧ (n ≤ 1000000 ∧ (64 : Nat) ≤ 1000000) ∧ bif decide (icmp d (65536 : Int) > 0) then LeB 0 (knS d) 0 9 ∧ (2 : Int) = knE d ∧ True else LeB (↑(nsq (Int.natAbs d)) : Int) (knS d) n 9 ∧ (0 : Int) = knE d ∧ True) = evFn (env [c_cnum, c_divmod1, c_isqrt, c_sign, c_icmp] noAnn) Tryz.f52 [.big d n] (MRes.sat (.ret (.tup [.big (knS d) 9, .int .i64 (knE d)]))) := by kernel_rfl
theorem p_known : Good Tryz.f52 s_known := by
 intro ms p r h hp
 unfold s_known at h
 split at h
 ·rename_i d n
  simp only [Option.some.injEq, Prod.mk.injEq] at h
  obtain ⟨rfl, rfl⟩ := h
  have h1 : n ≤ 100000 := hp
  refine ⟨env [c_cnum, c_divmod1, c_isqrt, c_sign, c_icmp] noAnn, ?_⟩
  rw [← vc_known d n]
  refine ⟨by omega, ⟨by omega, by omega, by omega⟩, by omega, ?_⟩
  refine condI decide_eq_true_iff (fun q => ?_) (fun q => ?_)
  ·have e : knE d = 5 := if_pos (.inl q)
   exact ⟨⟨(if_neg (by omega)).symm, .inl (by omega)⟩, e.symm, True.intro⟩
  refine condI seqz (fun q2 => ?_) (fun q2 => ?_)
  ·have e : knE d = 5 := if_pos (.inr (.inl q2))
   exact ⟨⟨(if_neg (by omega)).symm, .inl (by omega)⟩, e.symm, True.intro⟩
  refine ⟨by omega, by omega, condI cgt (fun q3 => ?_) (fun q3 => ?_)⟩
  ·have e : knE d = 5 := if_pos (.inr (.inr q3))
   exact ⟨⟨(if_neg (by omega)).symm, .inl (by omega)⟩, e.symm, True.intro⟩
  have e0 : knE d = if 65536 < d then 2 else 0 := if_neg (by omega)
  refine ⟨by omega, ⟨by omega, by omega⟩, condI cgt (fun q4 => ?_) (fun q4 => ?_)⟩
  ·rw [if_pos q4] at e0
   exact ⟨⟨(if_neg (by omega)).symm, .inl (by omega)⟩, e0.symm, True.intro⟩
  ·rw [if_neg q4] at e0
   have e1 := knS_ok e0
   have := (kn_dis e0).2.1
   exact ⟨⟨e1.symm, .inr (Nat.lt_of_le_of_lt (show _ ≤ 255 by omega) (by decide))⟩, e0.symm, True.intro⟩
 ·simp at h
def c_known : Ctr Tryz.prog := ⟨52, s_known, fun args w => Tryz.call52 args w, fn_ok mix Tryz.func52 s_known p_known⟩
def s_twice : FSpec
 | [.big a n] => some (some (n ≤ 900000), .ret (.big (2 * (a.natAbs : Int)) (n + 64)))
 | _ => none
theorem vc_twice (a : Int) (n : Nat) : (Fit 2 ∧ n ≤ 1000000 ∧ ((64 : Nat) ≤ 1000000 ∧ n ≤ 1000000) ∧ (2 : Int) * (↑(Int.natAbs a) : Int) = 2 * (↑(Int.natAbs a) : Int) ∧ ((64 : Nat) + n ≤ n + 64 ∨ Int.natAbs ((2 : Int) * (↑(Int.natAbs a) : Int)) < 2 ^ (n + 64))) = evFn (env [c_cnum, c_abs, c_mul] noAnn) Tryz.f66 [.big a n] (MRes.sat (.ret (.big (2 * (a.natAbs : Int)) (n + 64)))) := by kernel_rfl
theorem p_twice : Good Tryz.f66 s_twice := by
 intro ms p r h hp
 unfold s_twice at h
 split at h
 ·rename_i a n
  simp only [Option.some.injEq, Prod.mk.injEq] at h
  obtain ⟨rfl, rfl⟩ := h
  have h1 : n ≤ 900000 := hp
  refine ⟨env [c_cnum, c_abs, c_mul] noAnn, ?_⟩
  rw [← vc_twice a n]
  first | done | (and_intros <;> first | exact True.intro | rfl | exact .inl (Nat.le_refl _) | omega)
 ·simp at h
def c_twice : Ctr Tryz.prog := ⟨66, s_twice, fun args w => Tryz.call66 args w, fn_ok mix Tryz.func66 s_twice p_twice⟩
def s_cmodulo : FSpec
 | [.big a n, .big b m] => some (some (n ≤ 900000 ∧ m ≤ 900000 ∧ b ≠ 0), .ret (.big (a % b) m))
 | _ => none
theorem vc_cmodulo (a b : Int) (n m : Nat) : ((n ≤ 900000 ∧ m ≤ 900000 ∧ (b = 0 → False)) ∧ a % b = a % b ∧ (m ≤ m ∨ Int.natAbs (a % b) < 2 ^ m)) = evFn (env [c_divmod1] noAnn) Tryz.f93 [.big a n, .big b m] (MRes.sat (.ret (.big (a % b) m))) := by kernel_rfl
theorem p_cmodulo : Good Tryz.f93 s_cmodulo := by
 intro ms p r h hp
 unfold s_cmodulo at h
 split at h
 ·rename_i a n b m
  simp only [Option.some.injEq, Prod.mk.injEq] at h
  obtain ⟨rfl, rfl⟩ := h
  obtain ⟨h1, h2, h3⟩ : n ≤ 900000 ∧ m ≤ 900000 ∧ b ≠ 0 := hp
  refine ⟨env [c_divmod1] noAnn, ?_⟩
  rw [← vc_cmodulo a b n m]
  first | done | (and_intros <;> first | exact True.intro | rfl | exact .inl (Nat.le_refl _) | omega)
 ·simp at h
def c_cmodulo : Ctr Tryz.prog := ⟨93, s_cmodulo, fun args w => Tryz.call93 args w, fn_ok mix Tryz.func93 s_cmodulo p_cmodulo⟩
def s_creduced : FSpec
 | [.st [.big a n, .big b m, .big c k]] => some (some (n ≤ 40000 ∧ m ≤ 40000 ∧ k ≤ 40000), .ret (.bool (redQ ⟨a, b, c⟩)))
 | _ => none
theorem vc_creduced (a b c : Int) (n m k : Nat) : ((n ≤ 100000 ∧ m ≤ 100000 ∧ k ≤ 100000) ∧ (2 : Nat) * max3 n m k + 66 ≤ 100000 ∧ bif knE (Fm.disc (Fm.mk a b c)) != 0 then false = redQ (Fm.mk a b c) else bif decide (sgn b ≤ 0) then false = redQ (Fm.mk a b c) else (m ≤ 1000000 ∧ (9 : Nat) ≤ 1000000) ∧ bif decide (icmp b (knS (Fm.disc (Fm.mk a b c))) > 0) then false = redQ (Fm.mk a b c) else n ≤ 900000 ∧ (n + 64 ≤ 1000000 ∧ m ≤ 1000000) ∧ (max (n + 64) m + 1 ≤ 1000000 ∧ (9 : Nat) ≤ 1000000) ∧ bif decide (icmp ((2 : Int) * (↑(Int.natAbs a) : Int) + b) (knS (Fm.disc (Fm.mk a b c))) > 0) then (n + 64 ≤ 1000000 ∧ m ≤ 1000000) ∧ (max (n + 64) m + 1 ≤ 1000000 ∧ (9 : Nat) ≤ 1000000) ∧ decide (icmp ((2 : Int) * (↑(Int.natAbs a) : Int) - b) (knS (Fm.disc (Fm.mk a b c))) ≤ 0) = redQ (Fm.mk a b c) else false = redQ (Fm.mk a b c)) = evFn (env [c_known, c_qdisc, c_sign, c_icmp, c_twice, c_iadd, c_isub] noAnn) Tryz.f19 [.st [.big a n, .big b m, .big c k]] (MRes.sat (.ret (.bool (redQ ⟨a, b, c⟩)))) := by kernel_rfl
theorem p_creduced : Good Tryz.f19 s_creduced := by
 intro ms p r h hp
 unfold s_creduced at h
 split at h
 ·rename_i a n b m c k
  simp only [Option.some.injEq, Prod.mk.injEq] at h
  obtain ⟨rfl, rfl⟩ := h
  obtain ⟨h1, h2, h3⟩ : n ≤ 40000 ∧ m ≤ 40000 ∧ k ≤ 40000 := hp
  refine ⟨env [c_known, c_qdisc, c_sign, c_icmp, c_twice, c_iadd, c_isub] noAnn, ?_⟩
  rw [← vc_creduced a b c n m k]
  unfold max3
  refine ⟨⟨by omega, by omega, by omega⟩, by omega, ?_⟩
  have hi := redQ_iff (f := ⟨a, b, c⟩)
  refine condI bne_iff_ne (fun q => falseI hi fun e => q e.1) (fun q => ?_)
  refine condI sle0 (fun q2 => falseI hi fun e => by have := e.2.b0; simp only at this; omega) (fun q2 => ?_)
  refine ⟨by omega, condI cgt (fun q3 => falseI hi fun e => by have := e.2.b1; simp only at this; omega) (fun q3 => ?_)⟩
  refine ⟨by omega, by omega, by omega, condI cgt (fun q4 => ?_) (fun q4 => falseI hi fun e => by have := e.2.lo; simp only at this; omega)⟩
  refine ⟨by omega, by omega, boolI cle ⟨fun q5 => ?_, fun q5 => ?_⟩⟩
  ·have := (hi.1 q5).2.hi; simp only at this; exact this
  ·exact hi.2 ⟨Decidable.not_not.1 q, ⟨by simp only; omega, by simp only; omega, by simp only; omega, by simp only; omega⟩⟩
 ·simp at h
def c_creduced : Ctr Tryz.prog := ⟨19, s_creduced, fun args w => Tryz.call19 args w, fn_ok mix Tryz.func19 s_creduced p_creduced⟩
def s_cstep : FSpec
 | [.st [.big a n, .big b m, .big c k], .big s l] => some (some (n ≤ 40000 ∧ m ≤ 40000 ∧ k ≤ 40000 ∧ l ≤ 40000 ∧ c ≠ 0 ∧ 0 < s ∧ s ≤ 255), .ret (mmv (stepM s ⟨a, b, c⟩) (max (max3 n m k) 64)))
 | _ => none
theorem vc_cstep (a b c s : Int) (n m k l : Nat) : (k ≤ 900000 ∧ (l ≤ 1000000 ∧ m ≤ 1000000) ∧ (max l m + 1 ≤ 900000 ∧ k + 64 ≤ 900000 ∧ ((2 : Int) * (↑(Int.natAbs c) : Int) = 0 → False)) ∧ (l ≤ 1000000 ∧ k + 64 ≤ 1000000) ∧ k ≤ 1000000 ∧ (k ≤ 1000000 ∧ l ≤ 1000000) ∧ bif decide (icmp (↑(Int.natAbs c) : Int) s > 0) then m ≤ 1000000 ∧ (m ≤ 900000 ∧ k + 64 ≤ 900000 ∧ ((2 : Int) * (↑(Int.natAbs c) : Int) = 0 → False)) ∧ k ≤ 1000000 ∧ (k + 64 ≤ 1000000 ∧ k ≤ 1000000) ∧ bif decide (icmp (-b % ((2 : Int) * (↑(Int.natAbs c) : Int))) (↑(Int.natAbs c) : Int) > 0) then (k + 64 ≤ 1000000 ∧ k + 64 ≤ 1000000) ∧ (max (k + 64) (k + 64) + 1 ≤ 1000000 ∧ m ≤ 1000000) ∧ Fit 2 ∧ ((64 : Nat) ≤ 1000000 ∧ k ≤ 1000000) ∧ (max (max (k + 64) (k + 64) + 1) m + 1 ≤ 900000 ∧ (64 : Nat) + k ≤ 900000 ∧ ((2 : Int) * c = 0 → False)) ∧ Fit 0 ∧ Fit (-1) ∧ Fit 1 ∧ LeB 0 0 64 (max (max3 n m k) (64 : Nat)) ∧ LeB (-1) (-1) 64 (max (max3 n m k) (64 : Nat)) ∧ LeB 1 1 64 (max (max3 n m k) (64 : Nat)) ∧ LeB ((-b % ((2 : Int) * (↑(Int.natAbs c) : Int)) - 2 * (↑(Int.natAbs c) : Int) + b) / ((2 : Int) * c)) (rhoK s (Fm.mk a b c)) (max (max (k + 64) (k + 64) + 1) m + 1) (max (max3 n m k) (64 : Nat)) ∧ True else (k + 64 ≤ 1000000 ∧ m ≤ 1000000) ∧ Fit 2 ∧ ((64 : Nat) ≤ 1000000 ∧ k ≤ 1000000) ∧ (max (k + 64) m + 1 ≤ 900000 ∧ (64 : Nat) + k ≤ 900000 ∧ ((2 : Int) * c = 0 → False)) ∧ Fit 0 ∧ Fit (-1) ∧ Fit 1 ∧ LeB 0 0 64 (max (max3 n m k) (64 : Nat)) ∧ LeB (-1) (-1) 64 (max (max3 n m k) (64 : Nat)) ∧ LeB 1 1 64 (max (max3 n m k) (64 : Nat)) ∧ LeB ((-b % ((2 : Int) * (↑(Int.natAbs c) : Int)) + b) / ((2 : Int) * c)) (rhoK s (Fm.mk a b c)) (max (k + 64) m + 1) (max (max3 n m k) (64 : Nat)) ∧ True else (max l (k + 64) + 1 ≤ 1000000 ∧ m ≤ 1000000) ∧ Fit 2 ∧ ((64 : Nat) ≤ 1000000 ∧ k ≤ 1000000) ∧ (max (max l (k + 64) + 1) m + 1 ≤ 900000 ∧ (64 : Nat) + k ≤ 900000 ∧ ((2 : Int) * c = 0 → False)) ∧ Fit 0 ∧ Fit (-1) ∧ Fit 1 ∧ LeB 0 0 64 (max (max3 n m k) (64 : Nat)) ∧ LeB (-1) (-1) 64 (max (max3 n m k) (64 : Nat)) ∧ LeB 1 1 64 (max (max3 n m k) (64 : Nat)) ∧ LeB ((s - (s + b) % ((2 : Int) * (↑(Int.natAbs c) : Int)) + b) / ((2 : Int) * c)) (rhoK s (Fm.mk a b c)) (max (max l (k + 64) + 1) m + 1) (max (max3 n m k) (64 : Nat)) ∧ True) = evFn (env [c_cnum, c_twice, c_iadd, c_isub, c_cmodulo, c_icmp, c_abs, c_neg, c_divmod1, c_mul] noAnn) Tryz.f53 [.st [.big a n, .big b m, .big c k], .big s l] (MRes.sat (.ret (mmv (stepM s ⟨a, b, c⟩) (max (max3 n m k) 64)))) := by kernel_rfl
theorem p_cstep : GoodF Tryz.f53 s_cstep := by
 intro ms p r h hp hf
 unfold s_cstep at h
 split at h
 ·rename_i a n b m c k s l
  simp only [Option.some.injEq, Prod.mk.injEq] at h
  obtain ⟨rfl, rfl⟩ := h
  obtain ⟨h1, h2, h3, h4, h5, h6, h7⟩ : n ≤ 40000 ∧ m ≤ 40000 ∧ k ≤ 40000 ∧ l ≤ 40000 ∧ c ≠ 0 ∧ 0 < s ∧ s ≤ 255 := hp
  refine ⟨env [c_cnum, c_twice, c_iadd, c_isub, c_cmodulo, c_icmp, c_abs, c_neg, c_divmod1, c_mul] noAnn, ?_⟩
  rw [← vc_cstep a b c s n m k l]
  unfold max3
  simp only [factsL, MV.facts] at hf
  obtain ⟨⟨ha, hb, hc, _⟩, _, _⟩ := hf
  have hk : (rhoK s ⟨a, b, c⟩).natAbs < 2 ^ max (max n (max m k)) 64 := rhoK_lt h6 h7 h5 (by omega) (lt_pow_le hb (by omega)) (lt_pow_le hc (by omega))
  have c0 : 2 * (c.natAbs : Int) = 0 → False := by omega
  have c1 : 2 * c = 0 → False := by omega
  refine ⟨by omega, by omega, ⟨by omega, by omega, c0⟩, by omega, by omega, by omega, condI cgt (fun q => ?_) (fun q => ?_)⟩
  ·refine ⟨by omega, ⟨by omega, by omega, c0⟩, by omega, by omega, condI cgt (fun q2 => ?_) (fun q2 => ?_)⟩
   ·have e : (-b % (2 * (c.natAbs : Int)) - 2 * (c.natAbs : Int) + b) / (2 * c) = rhoK s ⟨a, b, c⟩ := by
     unfold rhoK rhoB
     rw [if_pos q, if_pos q2]
    exact ⟨by omega, by omega, by omega, by omega, ⟨by omega, by omega, c1⟩, by omega, by omega, by omega, ⟨rfl, .inl (by omega)⟩, ⟨rfl, .inl (by omega)⟩, ⟨rfl, .inl (by omega)⟩, ⟨e, .inr (by rw [e]; exact hk)⟩, True.intro⟩
   ·have e : (-b % (2 * (c.natAbs : Int)) + b) / (2 * c) = rhoK s ⟨a, b, c⟩ := by
     unfold rhoK rhoB
     rw [if_pos q, if_neg q2]
    exact ⟨by omega, by omega, by omega, ⟨by omega, by omega, c1⟩, by omega, by omega, by omega, ⟨rfl, .inl (by omega)⟩, ⟨rfl, .inl (by omega)⟩, ⟨rfl, .inl (by omega)⟩, ⟨e, .inr (by rw [e]; exact hk)⟩, True.intro⟩
  ·have e : (s - (s + b) % (2 * (c.natAbs : Int)) + b) / (2 * c) = rhoK s ⟨a, b, c⟩ := by
    unfold rhoK rhoB
    rw [if_neg q]
   exact ⟨by omega, by omega, by omega, ⟨by omega, by omega, c1⟩, by omega, by omega, by omega, ⟨rfl, .inl (by omega)⟩, ⟨rfl, .inl (by omega)⟩, ⟨rfl, .inl (by omega)⟩, ⟨e, .inr (by rw [e]; exact hk)⟩, True.intro⟩
 ·simp at h
def c_cstep : Ctr Tryz.prog := ⟨53, s_cstep, fun args w => Tryz.call53 args w, fn_ok_facts mix Tryz.func53 s_cstep p_cstep⟩
def rhoR (f : Fm) : Fm := if knE f.disc = 0 then rho (knS f.disc) f else ⟨0, 0, 0⟩
def rhoM (f : Fm) : Mx := if knE f.disc = 0 then stepM (knS f.disc) f else ⟨0, 0, 0, 0⟩
def s_crho : FSpec
 | [.st [.big a n, .big b m, .big c k]] => some (some (n ≤ 10000 ∧ m ≤ 10000 ∧ k ≤ 10000), .ret (.tup [fmv (rhoR ⟨a, b, c⟩) (max (max3 n m k) 64), mmv (rhoM ⟨a, b, c⟩) (max (max3 n m k) 64), .int .i64 (knE (Fm.disc ⟨a, b, c⟩))]))
 | _ => none
theorem vc_crho (a b c : Int) (n m k : Nat) : ((n ≤ 100000 ∧ m ≤ 100000 ∧ k ≤ 100000) ∧ (2 : Nat) * max3 n m k + 66 ≤ 100000 ∧ bif knE (Fm.disc (Fm.mk a b c)) != 0 then FLe (Fm.mk 0 0 0) (rhoR (Fm.mk a b c)) 0 (max (max3 n m k) (64 : Nat)) ∧ MLe (Mx.mk 0 0 0 0) (rhoM (Fm.mk a b c)) 0 (max (max3 n m k) (64 : Nat)) ∧ knE (Fm.disc (Fm.mk a b c)) = knE (Fm.disc (Fm.mk a b c)) ∧ True else (n ≤ 40000 ∧ m ≤ 40000 ∧ k ≤ 40000 ∧ (9 : Nat) ≤ 40000 ∧ (c = 0 → False) ∧ (0 : Int) < knS (Fm.disc (Fm.mk a b c)) ∧ knS (Fm.disc (Fm.mk a b c)) ≤ 255) ∧ (n ≤ 40000 ∧ m ≤ 40000 ∧ k ≤ 40000 ∧ max (max3 n m k) (64 : Nat) ≤ 40000 ∧ max (max3 n m k) (64 : Nat) ≤ 40000 ∧ max (max3 n m k) (64 : Nat) ≤ 40000 ∧ max (max3 n m k) (64 : Nat) ≤ 40000) ∧ FLe (Fm.mk (Fm.val (Fm.mk a b c) (0 : Int) (1 : Int)) ((2 : Int) * (a * ((0 : Int) * (-1 : Int)) + c * ((1 : Int) * rhoK (knS (Fm.disc (Fm.mk a b c))) (Fm.mk a b c))) + b * ((0 : Int) * rhoK (knS (Fm.disc (Fm.mk a b c))) (Fm.mk a b c) + (-1 : Int) * 1)) (Fm.val (Fm.mk a b c) (-1 : Int) (rhoK (knS (Fm.disc (Fm.mk a b c))) (Fm.mk a b c)))) (rhoR (Fm.mk a b c)) (max3 n m k + 2 * max4 (max (max3 n m k) (64 : Nat)) (max (max3 n m k) (64 : Nat)) (max (max3 n m k) (64 : Nat)) (max (max3 n m k) (64 : Nat)) + 68) (max (max3 n m k) (64 : Nat)) ∧ MLe (Mx.mk 0 (-1) 1 (rhoK (knS (Fm.disc (Fm.mk a b c))) (Fm.mk a b c))) (rhoM (Fm.mk a b c)) (max (max3 n m k) (64 : Nat)) (max (max3 n m k) (64 : Nat)) ∧ (0 : Int) = knE (Fm.disc (Fm.mk a b c)) ∧ True) = evFn (env [c_known, c_qdisc, c_cstep, c_qapply] noAnn) Tryz.f15 [.st [.big a n, .big b m, .big c k]] (MRes.sat (.ret (.tup [fmv (rhoR ⟨a, b, c⟩) (max (max3 n m k) 64), mmv (rhoM ⟨a, b, c⟩) (max (max3 n m k) 64), .int .i64 (knE (Fm.disc ⟨a, b, c⟩))]))) := by kernel_rfl
theorem p_crho : GoodF Tryz.f15 s_crho := by
 intro ms p r h hp hf
 unfold s_crho at h
 split at h
 ·rename_i a n b m c k
  simp only [Option.some.injEq, Prod.mk.injEq] at h
  obtain ⟨rfl, rfl⟩ := h
  obtain ⟨h1, h2, h3⟩ : n ≤ 10000 ∧ m ≤ 10000 ∧ k ≤ 10000 := hp
  refine ⟨env [c_known, c_qdisc, c_cstep, c_qapply] noAnn, ?_⟩
  rw [← vc_crho a b c n m k]
  simp only [factsL, MV.facts] at hf
  obtain ⟨⟨ha, hb, hc, _⟩, _⟩ := hf
  have hW : max3 n m k = max n (max m k) := rfl
  generalize hWW : max (max3 n m k) 64 = W
  refine ⟨by omega, by omega, condI bne_iff_ne (fun q => ?_) (fun q => ?_)⟩
  ·have e1 : rhoR ⟨a, b, c⟩ = ⟨0, 0, 0⟩ := if_neg q
   have e2 : rhoM ⟨a, b, c⟩ = ⟨0, 0, 0, 0⟩ := if_neg q
   rw [e1, e2]
   and_intros <;> first|exact True.intro|rfl|exact .inl (Nat.zero_le _)
  ·have q := Decidable.not_not.1 q
   obtain ⟨hd, hs, _⟩ := kn_dis q
   have hC : c ≠ 0 := (disc_ne hd rfl).2
   have e1 : rhoR ⟨a, b, c⟩ = Fm.app ⟨a, b, c⟩ (stepM (knS (Fm.disc ⟨a, b, c⟩)) ⟨a, b, c⟩) := by rw [rho_app hC]; exact if_pos q
   have e2 : rhoM ⟨a, b, c⟩ = stepM (knS (Fm.disc ⟨a, b, c⟩)) ⟨a, b, c⟩ := if_pos q
   have bd : (Fm.app ⟨a, b, c⟩ (stepM (knS (Fm.disc ⟨a, b, c⟩)) ⟨a, b, c⟩)).bd W := by
    rw [rho_app hC]
    have hc' : c.natAbs < 2 ^ W := lt_pow_le hc (by omega)
    obtain ⟨k1, k2⟩ := rho_small hd hs (f := ⟨a, b, c⟩) rfl (k := W) (by omega) hc'
    exact ⟨hc', k1, k2⟩
   rw [e1, e2]
   refine ⟨⟨by omega, by omega, by omega, by omega, hC, hd.pos, hs⟩, ⟨by omega, by omega, by omega, by omega, by omega, by omega, by omega⟩, ⟨⟨rfl, .inr bd.A⟩, ⟨rfl, .inr bd.B⟩, ⟨rfl, .inr bd.C⟩, True.intro⟩, ?_, q.symm, True.intro⟩
   exact ⟨⟨rfl, .inl (Nat.le_refl _)⟩, ⟨rfl, .inl (Nat.le_refl _)⟩, ⟨rfl, .inl (Nat.le_refl _)⟩, ⟨rfl, .inl (Nat.le_refl _)⟩, True.intro⟩
 ·simp at h
def c_crho : Ctr Tryz.prog := ⟨15, s_crho, fun args w => Tryz.call15 args w, fn_ok_facts mix Tryz.func15 s_crho p_crho⟩
def a_small : Nat → MS → Option LoopAnn
 | 3, _ => some (.unroll 4)
 | _, _ => none
def s_small : FSpec
 | [.st [.big a _, .big b _, .big c _]] => some (some (a.natAbs < 9223372036854775808 ∧ b.natAbs < 9223372036854775808 ∧ c.natAbs < 9223372036854775808), .ret (.st [.int .i64 a, .int .i64 b, .int .i64 c]))
 | _ => none
theorem vc_small (a b c : Int) (n m k : Nat) : (((0 : Int) ≤ 0 ∧ (0 : Int) < (↑(3 : Nat) : Int)) ∧ Int.natAbs a < 9223372036854775808 ∧ ((0 : Int) ≤ 0 ∧ (0 : Int) < (↑(3 : Nat) : Int)) ∧ ((0 : Int) ≤ IntKind.wrap IntKind.i64 ((0 : Int) + 1) ∧ IntKind.wrap IntKind.i64 ((0 : Int) + 1) < (↑(3 : Nat) : Int)) ∧ Int.natAbs b < 9223372036854775808 ∧ ((0 : Int) ≤ IntKind.wrap IntKind.i64 ((0 : Int) + 1) ∧ IntKind.wrap IntKind.i64 ((0 : Int) + 1) < (↑(3 : Nat) : Int)) ∧ ((0 : Int) ≤ IntKind.wrap IntKind.i64 (IntKind.wrap IntKind.i64 ((0 : Int) + 1) + 1) ∧ IntKind.wrap IntKind.i64 (IntKind.wrap IntKind.i64 ((0 : Int) + 1) + 1) < (↑(3 : Nat) : Int)) ∧ Int.natAbs c < 9223372036854775808 ∧ ((0 : Int) ≤ IntKind.wrap IntKind.i64 (IntKind.wrap IntKind.i64 ((0 : Int) + 1) + 1) ∧ IntKind.wrap IntKind.i64 (IntKind.wrap IntKind.i64 ((0 : Int) + 1) + 1) < (↑(3 : Nat) : Int)) ∧ a = a ∧ b = b ∧ c = c ∧ True) = evFn (env [c_ilow] a_small) Tryz.f75 [.st [.big a n, .big b m, .big c k]] (MRes.sat (.ret (.st [.int .i64 a, .int .i64 b, .int .i64 c]))) := by kernel_rfl
theorem p_small : Good Tryz.f75 s_small := by
 intro ms p r h hp
 unfold s_small at h
 split at h
 ·rename_i a n b m c k
  simp only [Option.some.injEq, Prod.mk.injEq] at h
  obtain ⟨rfl, rfl⟩ := h
  obtain ⟨h1, h2, h3⟩ : a.natAbs < 9223372036854775808 ∧ b.natAbs < 9223372036854775808 ∧ c.natAbs < 9223372036854775808 := hp
  refine ⟨env [c_ilow] a_small, ?_⟩
  rw [← vc_small a b c n m k, w01, w12]
  and_intros <;> first | exact True.intro | rfl | omega
 ·simp at h
noncomputable def c_small : Ctr Tryz.prog := ⟨75, s_small, fun args w => Tryz.call75 args w, fn_ok mix Tryz.func75 s_small p_small⟩
end Go.Proofs.YtnfmjlhkknndhaaGreat
/-
 Contracts of functions: cycle.Reduce.
-/
namespace Go.Proofs.YtnfmjlhkknndhaaGreat
open Go Go.RowKit
def x_nb (s : Int) (f : Fm) (W n0 : Nat) : Nat → MS → XS → Option XAnn
 | 1, e, _ => some (.inv WalkI (fun i => i.i ≤ n0) (fun i => ⟨24, [(0, look 0 e.tm), (1, .bp 5 0), (2, .bp 6 0), (4, .bp 7 0)], setNth (setNth e.bx 5 ⟨false, .one (fmv (rhoN s i.i f) W)⟩) 7 ⟨false, .one (mmv (walkR s i.i f) (i.i * W + 1))⟩, 8⟩) (fun _ => none) (fun i => n0 - i.i))
 | _, _, _ => none
noncomputable def xe_reduce (s : Int) (f : Fm) (W n0 : Nat) : XE Tryz.prog where
 E := env [c_known, c_qdisc, c_creduced] noAnn
 xann := fun _ _ _ => none
 its := [⟨100, Tryz.f100, Tryz.func100, fun args w => Tryz.call100 args w, env [c_cnum, c_cstep, c_qapply, c_qtimes] noAnn, x_nb s f W n0⟩]
 inl := [⟨61, Tryz.f61, Tryz.func61, fun args w => Tryz.call61 args w, env [] noAnn, fun _ _ _ => none⟩]
 rnp := fun _ => 8
 all := fun _ => none
def redR (f : Fm) : Fm := if knE f.disc = 0 then redG f else ⟨0, 0, 0⟩
def redRM (f : Fm) : Mx := if knE f.disc = 0 then redM f else ⟨0, 0, 0, 0⟩
def wid (n m k : Nat) : Nat := max (max3 n m k) 64
def widM (W : Nat) : Nat := (W + 2) * W + 1
theorem vc_creduce (a b c : Int) (n m k W : Nat) : ((n ≤ 100000 ∧ m ≤ 100000 ∧ k ≤ 100000) ∧ (2 : Nat) * max3 n m k + 66 ≤ 100000 ∧ bif knE (Fm.disc (Fm.mk a b c)) != 0 then FLe (Fm.mk 0 0 0) (redR (Fm.mk a b c)) 0 W ∧ MLe (Mx.mk 0 0 0 0) (redRM (Fm.mk a b c)) 0 (widM W) ∧ knE (Fm.disc (Fm.mk a b c)) = knE (Fm.disc (Fm.mk a b c)) ∧ True else ∀ (L : Nat), Fit 1 ∧ Fit 0 ∧ Fit 0 ∧ Fit 1 ∧ (∃ i, WalkI.i i ≤ stepsOf (Fm.mk a b c) ∧ ((Value.func (Fn.yield L) #[] #[] = Value.func (Fn.yield L) #[] #[] ∧ (0 : Nat) = 0 ∧ (0 : Nat) = 0 ∧ (0 : Nat) = 0 ∧ True) ∧ (LeB a a n n ∧ LeB b b m m ∧ LeB c c k k ∧ True) ∧ (LeB 0 0 0 0 ∧ LeB 0 0 0 0 ∧ LeB 0 0 0 0 ∧ True) ∧ (LeB 0 0 0 0 ∧ LeB 0 0 0 0 ∧ LeB 0 0 0 0 ∧ LeB 0 0 0 0 ∧ True) ∧ (0 : Int) = 0 ∧ LeB (knS (Fm.disc (Fm.mk a b c))) (knS (Fm.disc (Fm.mk a b c))) 9 9 ∧ (LeB a (Fm.A (rhoN (knS (Fm.disc (Fm.mk a b c))) (WalkI.i i) (Fm.mk a b c))) n W ∧ LeB b (Fm.B (rhoN (knS (Fm.disc (Fm.mk a b c))) (WalkI.i i) (Fm.mk a b c))) m W ∧ LeB c (Fm.C (rhoN (knS (Fm.disc (Fm.mk a b c))) (WalkI.i i) (Fm.mk a b c))) k W ∧ True) ∧ LeB (knS (Fm.disc (Fm.mk a b c))) (knS (Fm.disc (Fm.mk a b c))) 9 9 ∧ MLe (Mx.mk 1 0 0 1) (walkR (knS (Fm.disc (Fm.mk a b c))) (WalkI.i i) (Fm.mk a b c)) 64 (WalkI.i i * W + 1) ∧ True) ∧ True) ∧ ∀ (i : WalkI), WalkI.i i ≤ stepsOf (Fm.mk a b c) → L = L ∧ (W ≤ 40000 ∧ W ≤ 40000 ∧ W ≤ 40000) ∧ bif redQ (rhoN (knS (Fm.disc (Fm.mk a b c))) (WalkI.i i) (Fm.mk a b c)) then FLe (rhoN (knS (Fm.disc (Fm.mk a b c))) (WalkI.i i) (Fm.mk a b c)) (redR (Fm.mk a b c)) W W ∧ MLe (walkR (knS (Fm.disc (Fm.mk a b c))) (WalkI.i i) (Fm.mk a b c)) (redRM (Fm.mk a b c)) (WalkI.i i * W + 1) (widM W) ∧ (0 : Int) = knE (Fm.disc (Fm.mk a b c)) ∧ True else (W ≤ 40000 ∧ W ≤ 40000 ∧ W ≤ 40000 ∧ (9 : Nat) ≤ 40000 ∧ (Fm.C (rhoN (knS (Fm.disc (Fm.mk a b c))) (WalkI.i i) (Fm.mk a b c)) = 0 → False) ∧ (0 : Int) < knS (Fm.disc (Fm.mk a b c)) ∧ knS (Fm.disc (Fm.mk a b c)) ≤ 255) ∧ (W ≤ 40000 ∧ W ≤ 40000 ∧ W ≤ 40000 ∧ max (max3 W W W) (64 : Nat) ≤ 40000 ∧ max (max3 W W W) (64 : Nat) ≤ 40000 ∧ max (max3 W W W) (64 : Nat) ≤ 40000 ∧ max (max3 W W W) (64 : Nat) ≤ 40000) ∧ max4 (WalkI.i i * W + 1) (WalkI.i i * W + 1) (WalkI.i i * W + 1) (WalkI.i i * W + 1) + max4 (max (max3 W W W) (64 : Nat)) (max (max3 W W W) (64 : Nat)) (max (max3 W W W) (64 : Nat)) (max (max3 W W W) (64 : Nat)) ≤ 900000 ∧ ∃ j, WalkI.i j ≤ stepsOf (Fm.mk a b c) ∧ ((Value.func (Fn.yield L) #[] #[] = Value.func (Fn.yield L) #[] #[] ∧ (0 : Nat) = 0 ∧ (0 : Nat) = 0 ∧ (0 : Nat) = 0 ∧ True) ∧ (LeB a a n n ∧ LeB b b m m ∧ LeB c c k k ∧ True) ∧ (LeB 0 0 0 0 ∧ LeB 0 0 0 0 ∧ LeB 0 0 0 0 ∧ True) ∧ (LeB 0 0 0 0 ∧ LeB 0 0 0 0 ∧ LeB 0 0 0 0 ∧ LeB 0 0 0 0 ∧ True) ∧ (0 : Int) = 0 ∧ LeB (knS (Fm.disc (Fm.mk a b c))) (knS (Fm.disc (Fm.mk a b c))) 9 9 ∧ FLe (Fm.mk (Fm.val (rhoN (knS (Fm.disc (Fm.mk a b c))) (WalkI.i i) (Fm.mk a b c)) (0 : Int) (1 : Int)) ((2 : Int) * (Fm.A (rhoN (knS (Fm.disc (Fm.mk a b c))) (WalkI.i i) (Fm.mk a b c)) * ((0 : Int) * (-1 : Int)) + Fm.C (rhoN (knS (Fm.disc (Fm.mk a b c))) (WalkI.i i) (Fm.mk a b c)) * ((1 : Int) * rhoK (knS (Fm.disc (Fm.mk a b c))) (rhoN (knS (Fm.disc (Fm.mk a b c))) (WalkI.i i) (Fm.mk a b c)))) + Fm.B (rhoN (knS (Fm.disc (Fm.mk a b c))) (WalkI.i i) (Fm.mk a b c)) * ((0 : Int) * rhoK (knS (Fm.disc (Fm.mk a b c))) (rhoN (knS (Fm.disc (Fm.mk a b c))) (WalkI.i i) (Fm.mk a b c)) + (-1 : Int) * 1)) (Fm.val (rhoN (knS (Fm.disc (Fm.mk a b c))) (WalkI.i i) (Fm.mk a b c)) (-1 : Int) (rhoK (knS (Fm.disc (Fm.mk a b c))) (rhoN (knS (Fm.disc (Fm.mk a b c))) (WalkI.i i) (Fm.mk a b c))))) (rhoN (knS (Fm.disc (Fm.mk a b c))) (WalkI.i j) (Fm.mk a b c)) (max3 W W W + 2 * max4 (max (max3 W W W) (64 : Nat)) (max (max3 W W W) (64 : Nat)) (max (max3 W W W) (64 : Nat)) (max (max3 W W W) (64 : Nat)) + 68) W ∧ LeB (knS (Fm.disc (Fm.mk a b c))) (knS (Fm.disc (Fm.mk a b c))) 9 9 ∧ MLe (Mx.mk (Mx.a (walkR (knS (Fm.disc (Fm.mk a b c))) (WalkI.i i) (Fm.mk a b c)) * 0 + Mx.b (walkR (knS (Fm.disc (Fm.mk a b c))) (WalkI.i i) (Fm.mk a b c)) * 1) (Mx.a (walkR (knS (Fm.disc (Fm.mk a b c))) (WalkI.i i) (Fm.mk a b c)) * (-1 : Int) + Mx.b (walkR (knS (Fm.disc (Fm.mk a b c))) (WalkI.i i) (Fm.mk a b c)) * rhoK (knS (Fm.disc (Fm.mk a b c))) (rhoN (knS (Fm.disc (Fm.mk a b c))) (WalkI.i i) (Fm.mk a b c))) (Mx.c (walkR (knS (Fm.disc (Fm.mk a b c))) (WalkI.i i) (Fm.mk a b c)) * 0 + Mx.d (walkR (knS (Fm.disc (Fm.mk a b c))) (WalkI.i i) (Fm.mk a b c)) * 1) (Mx.c (walkR (knS (Fm.disc (Fm.mk a b c))) (WalkI.i i) (Fm.mk a b c)) * (-1 : Int) + Mx.d (walkR (knS (Fm.disc (Fm.mk a b c))) (WalkI.i i) (Fm.mk a b c)) * rhoK (knS (Fm.disc (Fm.mk a b c))) (rhoN (knS (Fm.disc (Fm.mk a b c))) (WalkI.i i) (Fm.mk a b c)))) (walkR (knS (Fm.disc (Fm.mk a b c))) (WalkI.i j) (Fm.mk a b c)) (max4 (WalkI.i i * W + 1) (WalkI.i i * W + 1) (WalkI.i i * W + 1) (WalkI.i i * W + 1) + max4 (max (max3 W W W) (64 : Nat)) (max (max3 W W W) (64 : Nat)) (max (max3 W W W) (64 : Nat)) (max (max3 W W W) (64 : Nat)) + 1) (WalkI.i j * W + 1) ∧ True) ∧ True ∧ stepsOf (Fm.mk a b c) - WalkI.i j < stepsOf (Fm.mk a b c) - WalkI.i i) = evFnX (xe_reduce (knS (Fm.disc ⟨a, b, c⟩)) ⟨a, b, c⟩ W (stepsOf ⟨a, b, c⟩)) Tryz.f17 [.st [.big a n, .big b m, .big c k]] (MRes.sat (.ret (.tup [fmv (redR ⟨a, b, c⟩) W, mmv (redRM ⟨a, b, c⟩) (widM W), .int .i64 (knE (Fm.disc ⟨a, b, c⟩))]))) := by kernel_rfl
def s_creduce : FSpec
 | [.st [.big a n, .big b m, .big c k]] => some (some (n ≤ 300 ∧ m ≤ 300 ∧ k ≤ 300), .ret (.tup [fmv (redR ⟨a, b, c⟩) (wid n m k), mmv (redRM ⟨a, b, c⟩) (widM (wid n m k)), .int .i64 (knE (Fm.disc ⟨a, b, c⟩))]))
 | _ => none
theorem p_creduce : GoodX Tryz.f17 s_creduce := by
 intro ms p r h hp hf
 unfold s_creduce at h
 split at h
 ·rename_i a n b m c k
  simp only [Option.some.injEq, Prod.mk.injEq] at h
  obtain ⟨rfl, rfl⟩ := h
  obtain ⟨h1, h2, h3⟩ : n ≤ 300 ∧ m ≤ 300 ∧ k ≤ 300 := hp
  simp only [factsL, MV.facts] at hf
  obtain ⟨⟨ha, hb, hc, _⟩, _⟩ := hf
  have hm3 : max3 n m k = max n (max m k) := rfl
  generalize hWW : wid n m k = W
  have hW : W = max (max n (max m k)) 64 := hWW.symm
  refine ⟨xe_reduce (knS (Fm.disc ⟨a, b, c⟩)) ⟨a, b, c⟩ W (stepsOf ⟨a, b, c⟩), ?_, allOk_none rfl _⟩
  rw [← vc_creduce a b c n m k W]
  refine ⟨by omega, by omega, condI bne_iff_ne (fun q => ?_) (fun q => ?_)⟩
  ·have e1 : redR ⟨a, b, c⟩ = ⟨0, 0, 0⟩ := if_neg q
   have e2 : redRM ⟨a, b, c⟩ = ⟨0, 0, 0, 0⟩ := if_neg q
   rw [e1, e2]
   and_intros <;> first | exact True.intro | rfl | exact .inl (Nat.zero_le _)
  ·have q := Decidable.not_not.1 q
   obtain ⟨hd, hs, _⟩ := kn_dis q
   have e1 : redR ⟨a, b, c⟩ = redG ⟨a, b, c⟩ := if_pos q
   have e2 : redRM ⟨a, b, c⟩ = redM ⟨a, b, c⟩ := if_pos q
   have hbd : Fm.bd ⟨a, b, c⟩ W := ⟨lt_pow_le ha (by omega), lt_pow_le hb (by omega), lt_pow_le hc (by omega)⟩
   obtain ⟨k1, k2, k3⟩ := steps_spec q (k := W) hbd.C
   rw [e1, e2]
   unfold max3 max4
   generalize hS : knS (Fm.disc ⟨a, b, c⟩) = s at *
   intro L
   refine ⟨by omega, by omega, by omega, by omega, ⟨⟨0⟩, Nat.zero_le _, ?_, True.intro⟩, ?_⟩
   ·and_intros <;> first | exact True.intro | rfl | exact .inl (Nat.le_refl _) | exact .inl (by omega) | (right; show _ < 2 ^ (0 * W + 1); rw [Nat.zero_mul]; decide)
   ·intro i hi
    obtain ⟨i⟩ := i
    have hi : i ≤ stepsOf ⟨a, b, c⟩ := hi
    have hg := rhoN_bd hd hs (k := W) (by omega) i rfl hbd
    have hM := walkR_bd hd hs (k := W) (by omega) rfl hbd i
    have hiw : i * W + 1 ≤ widM W := by
     have := Nat.mul_le_mul_right W (show i ≤ W + 2 by omega)
     unfold widM
     omega
    have hwm : widM W ≤ 90601 := by
     have := Nat.mul_le_mul (show W + 2 ≤ 302 by omega) (show W ≤ 300 by omega)
     unfold widM
     omega
    dsimp only
    refine ⟨rfl, ⟨by omega, by omega, by omega⟩, condI Iff.rfl (fun q1 => ?_) (fun q1 => ?_)⟩
    ·have hii : i = stepsOf ⟨a, b, c⟩ := by
      rcases Nat.lt_or_ge i (stepsOf ⟨a, b, c⟩) with hl | hl
      ·have := k3 i hl
       rw [q1] at this
       simp at this
      ·omega
     have g1 : redG ⟨a, b, c⟩ = rhoN s i ⟨a, b, c⟩ := by unfold redG; rw [hS, ← hii]
     have g2 : redM ⟨a, b, c⟩ = walkR s i ⟨a, b, c⟩ := by unfold redM; rw [hS, ← hii]
     rw [g1, g2, q]
     and_intros <;> first | exact True.intro | rfl | exact .inl (Nat.le_refl _) | exact .inl hiw
    ·have hlt : i < stepsOf ⟨a, b, c⟩ := by
      rcases Nat.lt_or_ge i (stepsOf ⟨a, b, c⟩) with hl | hl
      ·exact hl
      ·obtain rfl : i = stepsOf ⟨a, b, c⟩ := by omega
       exact absurd k2 q1
     have hC := (disc_ne hd (rhoN_disc hd i (f := ⟨a, b, c⟩) rfl)).2
     have g1 : rhoN s (i + 1) ⟨a, b, c⟩ = (rhoN s i ⟨a, b, c⟩).app (stepM s (rhoN s i ⟨a, b, c⟩)) := by rw [rhoN_succ, rho_app hC]
     have hg' := rhoN_bd hd hs (k := W) (by omega) (i + 1) rfl hbd
     have hM' := walkR_bd hd hs (k := W) (by omega) rfl hbd (i + 1)
     have hg2 := hg'
     rw [g1] at hg2
     refine ⟨⟨by omega, by omega, by omega, by omega, hC, hd.pos, hs⟩, ⟨by omega, by omega, by omega, by omega, by omega, by omega, by omega⟩, by omega, ⟨i + 1⟩, hlt, ?_, True.intro, ?_⟩
     ·simp only []
      rw [g1]
      and_intros <;> first | exact True.intro | rfl | exact .inl (Nat.le_refl _) | exact .inr hg2.A | exact .inr hg2.B | exact .inr hg2.C | exact .inr hM'.a | exact .inr hM'.b | exact .inr hM'.c | exact .inr hM'.d
     ·show stepsOf _ - (i + 1) < stepsOf _ - i
      omega
 ·simp at h
noncomputable def c_creduce : Ctr Tryz.prog := ⟨17, s_creduce, fun args w => Tryz.call17 args w, fnX_ok_facts Tryz.func17 s_creduce p_creduce⟩
end Go.Proofs.YtnfmjlhkknndhaaGreat
/-
 Contracts of functions: cycle.around, cycle.Cycle.
-/
namespace Go.Proofs.YtnfmjlhkknndhaaGreat
open Go Go.RowKit
def regOps (id : Nat) : Code → List Oper
 | .region j ops _ => cond (j.beq id) ops.toList []
 | .seq a b => regOps id a ++ regOps id b
 | .cond _ a b => regOps id a ++ regOps id b
 | .block _ c => regOps id c
 | .loop c => regOps id c
 | .scope c => regOps id c
 | .rangeFunc _ _ a b => regOps id a ++ regOps id b
 | _ => []
noncomputable def opsA : List Oper := regOps 9 (Tryz.f69.body.getD .skip)
def x_ar (s : Int) (f : Fm) (n0 WM : Nat) : Nat → MS → XS → Option XAnn
 | 1, e, _ => some (.inv WalkI (fun i => i.i ≤ n0) (fun i => ⟨24, [(0, look 0 e.tm), (1, .bp 5 0), (2, .bp 6 0), (4, .bp 7 0)],
   setNth (setNth (setNth (setNth e.bx 2 ⟨false, .one (.bs 8 0 i.i)⟩) 3 ⟨false, .one (.bs 9 0 i.i)⟩) 5 ⟨false, .one (fmv (rhoN s i.i f) 8)⟩) 7 ⟨false, .one (mmv (walkR s i.i f) (i.i * 8 + 1))⟩ ++
    [⟨false, .rows 6 i.i (fun j => fmv (rhoN s j f) 8)⟩, ⟨false, .rows 8 i.i (fun j => mmv (walkR s j f) WM)⟩], 8⟩) (fun _ => none) (fun i => n0 - i.i))
 | _, _, _ => none
noncomputable def xe_around (s : Int) (f : Fm) (n0 WM : Nat) : XE Tryz.prog where
 E := env [c_known, c_qdisc, c_small] noAnn
 xann := fun _ _ _ => none
 its := [⟨100, Tryz.f100, Tryz.func100, fun args w => Tryz.call100 args w, env [c_cnum, c_cstep, c_qapply, c_qtimes] noAnn, x_ar s f n0 WM⟩]
 inl := [⟨61, Tryz.f61, Tryz.func61, fun args w => Tryz.call61 args w, env [] noAnn, fun _ _ _ => none⟩]
 rnp := fun _ => 8
 all := fun j => cond (j.beq 9) (some opsA) none
def widP (f : Fm) : Nat := perOf f * 8 + 1
def arF (f : Fm) : MV := .sl 6 (perOf f) (fun j => fmv (rhoN (knS f.disc) j f) 8)
def arM (f : Fm) : MV := .sl 8 (perOf f) (fun j => mmv (walkR (knS f.disc) j f) (widP f))
theorem vc_around (a b c : Int) (n m k : Nat) : ((n ≤ 100000 ∧ m ≤ 100000 ∧ k ≤ 100000) ∧ (2 : Nat) * max3 n m k + 66 ≤ 100000 ∧ (Int.natAbs a < 9223372036854775808 ∧ Int.natAbs b < 9223372036854775808 ∧ Int.natAbs c < 9223372036854775808) ∧ ∀ (L : Nat), Fit 1 ∧ Fit 0 ∧ Fit 0 ∧ Fit 1 ∧ (∃ i, WalkI.i i ≤ perOf (Fm.mk a b c) ∧ ((Value.func (Fn.yield L) #[] #[] = Value.func (Fn.yield L) #[] #[] ∧ (0 : Nat) = 0 ∧ (0 : Nat) = 0 ∧ (0 : Nat) = 0 ∧ True) ∧ (LeB a a n n ∧ LeB b b m m ∧ LeB c c k k ∧ True) ∧ LeB (knS (Fm.disc (Fm.mk a b c))) (knS (Fm.disc (Fm.mk a b c))) 9 9 ∧ (Value.slice none (0 : Nat) (0 : Nat) = Value.slice none (0 : Nat) (0 : Nat) ∧ (0 : Nat) = 0 ∧ WalkI.i i = 0) ∧ (Value.slice none (0 : Nat) (0 : Nat) = Value.slice none (0 : Nat) (0 : Nat) ∧ (0 : Nat) = 0 ∧ WalkI.i i = 0) ∧ (a = a ∧ b = b ∧ c = c ∧ True) ∧ (LeB a (Fm.A (rhoN (knS (Fm.disc (Fm.mk a b c))) (WalkI.i i) (Fm.mk a b c))) n 8 ∧ LeB b (Fm.B (rhoN (knS (Fm.disc (Fm.mk a b c))) (WalkI.i i) (Fm.mk a b c))) m 8 ∧ LeB c (Fm.C (rhoN (knS (Fm.disc (Fm.mk a b c))) (WalkI.i i) (Fm.mk a b c))) k 8 ∧ True) ∧ LeB (knS (Fm.disc (Fm.mk a b c))) (knS (Fm.disc (Fm.mk a b c))) 9 9 ∧ MLe (Mx.mk 1 0 0 1) (walkR (knS (Fm.disc (Fm.mk a b c))) (WalkI.i i) (Fm.mk a b c)) 64 (WalkI.i i * 8 + 1) ∧ True) ∧ True) ∧ ∀ (i : WalkI), WalkI.i i ≤ perOf (Fm.mk a b c) → L = L ∧ bif decide ((↑(WalkI.i i) : Int) > 0) then (Int.natAbs (Fm.A (rhoN (knS (Fm.disc (Fm.mk a b c))) (WalkI.i i) (Fm.mk a b c))) < 9223372036854775808 ∧ Int.natAbs (Fm.B (rhoN (knS (Fm.disc (Fm.mk a b c))) (WalkI.i i) (Fm.mk a b c))) < 9223372036854775808 ∧ Int.natAbs (Fm.C (rhoN (knS (Fm.disc (Fm.mk a b c))) (WalkI.i i) (Fm.mk a b c))) < 9223372036854775808) ∧ (((IntKind.min IntKind.i64 ≤ Fm.A (rhoN (knS (Fm.disc (Fm.mk a b c))) (WalkI.i i) (Fm.mk a b c)) ∧ Fm.A (rhoN (knS (Fm.disc (Fm.mk a b c))) (WalkI.i i) (Fm.mk a b c)) ≤ IntKind.max IntKind.i64) ∧ (IntKind.min IntKind.i64 ≤ Fm.B (rhoN (knS (Fm.disc (Fm.mk a b c))) (WalkI.i i) (Fm.mk a b c)) ∧ Fm.B (rhoN (knS (Fm.disc (Fm.mk a b c))) (WalkI.i i) (Fm.mk a b c)) ≤ IntKind.max IntKind.i64) ∧ (IntKind.min IntKind.i64 ≤ Fm.C (rhoN (knS (Fm.disc (Fm.mk a b c))) (WalkI.i i) (Fm.mk a b c)) ∧ Fm.C (rhoN (knS (Fm.disc (Fm.mk a b c))) (WalkI.i i) (Fm.mk a b c)) ≤ IntKind.max IntKind.i64) ∧ True) ∧ (IntKind.min IntKind.i64 ≤ a ∧ a ≤ IntKind.max IntKind.i64) ∧ (IntKind.min IntKind.i64 ≤ b ∧ b ≤ IntKind.max IntKind.i64) ∧ (IntKind.min IntKind.i64 ≤ c ∧ c ≤ IntKind.max IntKind.i64) ∧ True) ∧ bif eqL [Fm.A (rhoN (knS (Fm.disc (Fm.mk a b c))) (WalkI.i i) (Fm.mk a b c)), Fm.B (rhoN (knS (Fm.disc (Fm.mk a b c))) (WalkI.i i) (Fm.mk a b c)), Fm.C (rhoN (knS (Fm.disc (Fm.mk a b c))) (WalkI.i i) (Fm.mk a b c))] [a, b, c] then (WalkI.i i ≤ WalkI.i i ∧ WalkI.i i ≤ WalkI.i i) ∧ ((6 : Nat) = 6 ∧ WalkI.i i = perOf (Fm.mk a b c) ∧ LeFun (WalkI.i i) (fun j => fmv (rhoN (knS (Fm.disc (Fm.mk a b c))) j (Fm.mk a b c)) (8 : Nat)) fun j => fmv (rhoN (knS (Fm.disc (Fm.mk a b c))) j (Fm.mk a b c)) (8 : Nat)) ∧ ((8 : Nat) = 8 ∧ WalkI.i i = perOf (Fm.mk a b c) ∧ LeFun (WalkI.i i) (fun j => mmv (walkR (knS (Fm.disc (Fm.mk a b c))) j (Fm.mk a b c)) (widP (Fm.mk a b c))) fun j => mmv (walkR (knS (Fm.disc (Fm.mk a b c))) j (Fm.mk a b c)) (widP (Fm.mk a b c))) ∧ True else backAll (0 : Nat) opsA = true ∧ DrawOk Tryz.prog opsA { n := nat_lit 43, tm := [((32 : Nat), MV.bool false), ((32 : Nat), MV.bool (eqL [Fm.A (rhoN (knS (Fm.disc (Fm.mk a b c))) (WalkI.i i) (Fm.mk a b c)), Fm.B (rhoN (knS (Fm.disc (Fm.mk a b c))) (WalkI.i i) (Fm.mk a b c)), Fm.C (rhoN (knS (Fm.disc (Fm.mk a b c))) (WalkI.i i) (Fm.mk a b c))] [a, b, c])), ((31 : Nat), MV.bool (eqL [Fm.A (rhoN (knS (Fm.disc (Fm.mk a b c))) (WalkI.i i) (Fm.mk a b c)), Fm.B (rhoN (knS (Fm.disc (Fm.mk a b c))) (WalkI.i i) (Fm.mk a b c)), Fm.C (rhoN (knS (Fm.disc (Fm.mk a b c))) (WalkI.i i) (Fm.mk a b c))] [a, b, c])), ((27 : Nat), MV.bool true), ((30 : Nat), MV.st [MV.int IntKind.i64 a, MV.int IntKind.i64 b, MV.int IntKind.i64 c]), ((27 : Nat), MV.bool true), ((29 : Nat), MV.st [MV.int IntKind.i64 (Fm.A (rhoN (knS (Fm.disc (Fm.mk a b c))) (WalkI.i i) (Fm.mk a b c))), MV.int IntKind.i64 (Fm.B (rhoN (knS (Fm.disc (Fm.mk a b c))) (WalkI.i i) (Fm.mk a b c))), MV.int IntKind.i64 (Fm.C (rhoN (knS (Fm.disc (Fm.mk a b c))) (WalkI.i i) (Fm.mk a b c)))]), ((27 : Nat), MV.bool true), ((28 : Nat), MV.st [MV.big (Fm.A (rhoN (knS (Fm.disc (Fm.mk a b c))) (WalkI.i i) (Fm.mk a b c))) (8 : Nat), MV.big (Fm.B (rhoN (knS (Fm.disc (Fm.mk a b c))) (WalkI.i i) (Fm.mk a b c))) (8 : Nat), MV.big (Fm.C (rhoN (knS (Fm.disc (Fm.mk a b c))) (WalkI.i i) (Fm.mk a b c))) (8 : Nat)]), ((27 : Nat), MV.bool true), ((27 : Nat), MV.bool (decide ((↑(WalkI.i i) : Int) > 0))), ((26 : Nat), MV.bool (decide ((↑(WalkI.i i) : Int) > 0))), ((25 : Nat), MV.int IntKind.i64 (↑(WalkI.i i) : Int)), ((24 : Nat), MV.bs (8 : Nat) (0 : Nat) (WalkI.i i)), ((10 : Nat), MV.bp (11 : Nat) (0 : Nat)), ((9 : Nat), MV.bp (10 : Nat) (0 : Nat)), ((23 : Nat), MV.st [MV.big (Mx.a (walkR (knS (Fm.disc (Fm.mk a b c))) (WalkI.i i) (Fm.mk a b c))) (WalkI.i i * 8 + 1), MV.big (Mx.b (walkR (knS (Fm.disc (Fm.mk a b c))) (WalkI.i i) (Fm.mk a b c))) (WalkI.i i * 8 + 1), MV.big (Mx.c (walkR (knS (Fm.disc (Fm.mk a b c))) (WalkI.i i) (Fm.mk a b c))) (WalkI.i i * 8 + 1), MV.big (Mx.d (walkR (knS (Fm.disc (Fm.mk a b c))) (WalkI.i i) (Fm.mk a b c))) (WalkI.i i * 8 + 1)]), ((22 : Nat), MV.st [MV.big (Fm.A (rhoN (knS (Fm.disc (Fm.mk a b c))) (WalkI.i i) (Fm.mk a b c))) (8 : Nat), MV.big (Fm.B (rhoN (knS (Fm.disc (Fm.mk a b c))) (WalkI.i i) (Fm.mk a b c))) (8 : Nat), MV.big (Fm.C (rhoN (knS (Fm.disc (Fm.mk a b c))) (WalkI.i i) (Fm.mk a b c))) (8 : Nat)]), ((21 : Nat), MV.any), ((20 : Nat), MV.any), ((19 : Nat), MV.any), ((8 : Nat), MV.bp (4 : Nat) (0 : Nat)), ((18 : Nat), MV.any), ((17 : Nat), MV.any), ((7 : Nat), MV.bp (3 : Nat) (0 : Nat)), ((6 : Nat), MV.bp (2 : Nat) (0 : Nat)), ((5 : Nat), MV.int IntKind.i64 (knE (Fm.disc (Fm.mk a b c)))), ((4 : Nat), MV.bp (1 : Nat) (0 : Nat)), ((16 : Nat), MV.int IntKind.i64 (knE (Fm.disc (Fm.mk a b c)))), ((15 : Nat), MV.any), ((11 : Nat), MV.any), ((14 : Nat), MV.any), ((13 : Nat), MV.any), ((12 : Nat), MV.any), ((3 : Nat), MV.val (Value.slice none (0 : Nat) (0 : Nat))), ((2 : Nat), MV.val (Value.slice none (0 : Nat) (0 : Nat))), ((1 : Nat), MV.bp (0 : Nat) (0 : Nat)), ((0 : Nat), MV.any)], bx := [{ fz := false, c := BC.one (MV.st [MV.big a n, MV.big b m, MV.big c k]) }, { fz := false, c := BC.one (MV.big (knS (Fm.disc (Fm.mk a b c))) (9 : Nat)) }, { fz := false, c := BC.one (MV.bs (8 : Nat) (0 : Nat) (WalkI.i i)) }, { fz := false, c := BC.one (MV.bs (9 : Nat) (0 : Nat) (WalkI.i i)) }, { fz := false, c := BC.one (MV.st [MV.int IntKind.i64 a, MV.int IntKind.i64 b, MV.int IntKind.i64 c]) }, { fz := false, c := BC.one (fmv (rhoN (knS (Fm.disc (Fm.mk a b c))) (WalkI.i i) (Fm.mk a b c)) (8 : Nat)) }, { fz := false, c := BC.one (MV.big (knS (Fm.disc (Fm.mk a b c))) (9 : Nat)) }, { fz := false, c := BC.one (mmv (walkR (knS (Fm.disc (Fm.mk a b c))) (WalkI.i i) (Fm.mk a b c)) (WalkI.i i * 8 + 1)) }, { fz := false, c := BC.rows (6 : Nat) (WalkI.i i) fun j => fmv (rhoN (knS (Fm.disc (Fm.mk a b c))) j (Fm.mk a b c)) (8 : Nat) }, { fz := false, c := BC.rows (8 : Nat) (WalkI.i i) fun j => mmv (walkR (knS (Fm.disc (Fm.mk a b c))) j (Fm.mk a b c)) (widP (Fm.mk a b c)) }, { fz := false, c := BC.one (MV.st [MV.big (Fm.A (rhoN (knS (Fm.disc (Fm.mk a b c))) (WalkI.i i) (Fm.mk a b c))) (8 : Nat), MV.big (Fm.B (rhoN (knS (Fm.disc (Fm.mk a b c))) (WalkI.i i) (Fm.mk a b c))) (8 : Nat), MV.big (Fm.C (rhoN (knS (Fm.disc (Fm.mk a b c))) (WalkI.i i) (Fm.mk a b c))) (8 : Nat)]) }, { fz := false, c := BC.one (MV.st [MV.big (Mx.a (walkR (knS (Fm.disc (Fm.mk a b c))) (WalkI.i i) (Fm.mk a b c))) (WalkI.i i * 8 + 1), MV.big (Mx.b (walkR (knS (Fm.disc (Fm.mk a b c))) (WalkI.i i) (Fm.mk a b c))) (WalkI.i i * 8 + 1), MV.big (Mx.c (walkR (knS (Fm.disc (Fm.mk a b c))) (WalkI.i i) (Fm.mk a b c))) (WalkI.i i * 8 + 1), MV.big (Mx.d (walkR (knS (Fm.disc (Fm.mk a b c))) (WalkI.i i) (Fm.mk a b c))) (WalkI.i i * 8 + 1)]) }], np := nat_lit 8 } ∧ (WalkI.i i ≤ WalkI.i i ∧ (WalkI.i i + News.len (News.rows (6 : Nat) (1 : Nat) (rowOf [MV.st [MV.big (Fm.A (rhoN (knS (Fm.disc (Fm.mk a b c))) (WalkI.i i) (Fm.mk a b c))) (8 : Nat), MV.big (Fm.B (rhoN (knS (Fm.disc (Fm.mk a b c))) (WalkI.i i) (Fm.mk a b c))) (8 : Nat), MV.big (Fm.C (rhoN (knS (Fm.disc (Fm.mk a b c))) (WalkI.i i) (Fm.mk a b c))) (8 : Nat)]]))) * 96 ≤ 140737488355328) ∧ (WalkI.i i ≤ WalkI.i i ∧ (WalkI.i i + News.len (News.rows (8 : Nat) (1 : Nat) (rowOf [MV.st [MV.big (Mx.a (walkR (knS (Fm.disc (Fm.mk a b c))) (WalkI.i i) (Fm.mk a b c))) (WalkI.i i * 8 + 1), MV.big (Mx.b (walkR (knS (Fm.disc (Fm.mk a b c))) (WalkI.i i) (Fm.mk a b c))) (WalkI.i i * 8 + 1), MV.big (Mx.c (walkR (knS (Fm.disc (Fm.mk a b c))) (WalkI.i i) (Fm.mk a b c))) (WalkI.i i * 8 + 1), MV.big (Mx.d (walkR (knS (Fm.disc (Fm.mk a b c))) (WalkI.i i) (Fm.mk a b c))) (WalkI.i i * 8 + 1)]]))) * 128 ≤ 140737488355328) ∧ ((8 : Nat) ≤ 40000 ∧ (8 : Nat) ≤ 40000 ∧ (8 : Nat) ≤ 40000 ∧ (9 : Nat) ≤ 40000 ∧ (Fm.C (rhoN (knS (Fm.disc (Fm.mk a b c))) (WalkI.i i) (Fm.mk a b c)) = 0 → False) ∧ (0 : Int) < knS (Fm.disc (Fm.mk a b c)) ∧ knS (Fm.disc (Fm.mk a b c)) ≤ 255) ∧ ((8 : Nat) ≤ 40000 ∧ (8 : Nat) ≤ 40000 ∧ (8 : Nat) ≤ 40000 ∧ (64 : Nat) ≤ 40000 ∧ (64 : Nat) ≤ 40000 ∧ (64 : Nat) ≤ 40000 ∧ (64 : Nat) ≤ 40000) ∧ max4 (WalkI.i i * 8 + 1) (WalkI.i i * 8 + 1) (WalkI.i i * 8 + 1) (WalkI.i i * 8 + 1) + 64 ≤ 900000 ∧ ∃ j, WalkI.i j ≤ perOf (Fm.mk a b c) ∧ ((Value.func (Fn.yield L) #[] #[] = Value.func (Fn.yield L) #[] #[] ∧ (0 : Nat) = 0 ∧ (0 : Nat) = 0 ∧ (0 : Nat) = 0 ∧ True) ∧ (LeB a a n n ∧ LeB b b m m ∧ LeB c c k k ∧ True) ∧ LeB (knS (Fm.disc (Fm.mk a b c))) (knS (Fm.disc (Fm.mk a b c))) 9 9 ∧ ((0 : Nat) = 0 ∧ WalkI.i i + News.len (News.rows (6 : Nat) (1 : Nat) (rowOf [MV.st [MV.big (Fm.A (rhoN (knS (Fm.disc (Fm.mk a b c))) (WalkI.i i) (Fm.mk a b c))) (8 : Nat), MV.big (Fm.B (rhoN (knS (Fm.disc (Fm.mk a b c))) (WalkI.i i) (Fm.mk a b c))) (8 : Nat), MV.big (Fm.C (rhoN (knS (Fm.disc (Fm.mk a b c))) (WalkI.i i) (Fm.mk a b c))) (8 : Nat)]])) = WalkI.i j) ∧ ((0 : Nat) = 0 ∧ WalkI.i i + News.len (News.rows (8 : Nat) (1 : Nat) (rowOf [MV.st [MV.big (Mx.a (walkR (knS (Fm.disc (Fm.mk a b c))) (WalkI.i i) (Fm.mk a b c))) (WalkI.i i * 8 + 1), MV.big (Mx.b (walkR (knS (Fm.disc (Fm.mk a b c))) (WalkI.i i) (Fm.mk a b c))) (WalkI.i i * 8 + 1), MV.big (Mx.c (walkR (knS (Fm.disc (Fm.mk a b c))) (WalkI.i i) (Fm.mk a b c))) (WalkI.i i * 8 + 1), MV.big (Mx.d (walkR (knS (Fm.disc (Fm.mk a b c))) (WalkI.i i) (Fm.mk a b c))) (WalkI.i i * 8 + 1)]])) = WalkI.i j) ∧ (a = a ∧ b = b ∧ c = c ∧ True) ∧ FLe (Fm.mk (Fm.val (rhoN (knS (Fm.disc (Fm.mk a b c))) (WalkI.i i) (Fm.mk a b c)) (0 : Int) (1 : Int)) ((2 : Int) * (Fm.A (rhoN (knS (Fm.disc (Fm.mk a b c))) (WalkI.i i) (Fm.mk a b c)) * ((0 : Int) * (-1 : Int)) + Fm.C (rhoN (knS (Fm.disc (Fm.mk a b c))) (WalkI.i i) (Fm.mk a b c)) * ((1 : Int) * rhoK (knS (Fm.disc (Fm.mk a b c))) (rhoN (knS (Fm.disc (Fm.mk a b c))) (WalkI.i i) (Fm.mk a b c)))) + Fm.B (rhoN (knS (Fm.disc (Fm.mk a b c))) (WalkI.i i) (Fm.mk a b c)) * ((0 : Int) * rhoK (knS (Fm.disc (Fm.mk a b c))) (rhoN (knS (Fm.disc (Fm.mk a b c))) (WalkI.i i) (Fm.mk a b c)) + (-1 : Int) * 1)) (Fm.val (rhoN (knS (Fm.disc (Fm.mk a b c))) (WalkI.i i) (Fm.mk a b c)) (-1 : Int) (rhoK (knS (Fm.disc (Fm.mk a b c))) (rhoN (knS (Fm.disc (Fm.mk a b c))) (WalkI.i i) (Fm.mk a b c))))) (rhoN (knS (Fm.disc (Fm.mk a b c))) (WalkI.i j) (Fm.mk a b c)) 204 8 ∧ LeB (knS (Fm.disc (Fm.mk a b c))) (knS (Fm.disc (Fm.mk a b c))) 9 9 ∧ MLe (Mx.mk (Mx.a (walkR (knS (Fm.disc (Fm.mk a b c))) (WalkI.i i) (Fm.mk a b c)) * 0 + Mx.b (walkR (knS (Fm.disc (Fm.mk a b c))) (WalkI.i i) (Fm.mk a b c)) * 1) (Mx.a (walkR (knS (Fm.disc (Fm.mk a b c))) (WalkI.i i) (Fm.mk a b c)) * (-1 : Int) + Mx.b (walkR (knS (Fm.disc (Fm.mk a b c))) (WalkI.i i) (Fm.mk a b c)) * rhoK (knS (Fm.disc (Fm.mk a b c))) (rhoN (knS (Fm.disc (Fm.mk a b c))) (WalkI.i i) (Fm.mk a b c))) (Mx.c (walkR (knS (Fm.disc (Fm.mk a b c))) (WalkI.i i) (Fm.mk a b c)) * 0 + Mx.d (walkR (knS (Fm.disc (Fm.mk a b c))) (WalkI.i i) (Fm.mk a b c)) * 1) (Mx.c (walkR (knS (Fm.disc (Fm.mk a b c))) (WalkI.i i) (Fm.mk a b c)) * (-1 : Int) + Mx.d (walkR (knS (Fm.disc (Fm.mk a b c))) (WalkI.i i) (Fm.mk a b c)) * rhoK (knS (Fm.disc (Fm.mk a b c))) (rhoN (knS (Fm.disc (Fm.mk a b c))) (WalkI.i i) (Fm.mk a b c)))) (walkR (knS (Fm.disc (Fm.mk a b c))) (WalkI.i j) (Fm.mk a b c)) (max4 (WalkI.i i * 8 + 1) (WalkI.i i * 8 + 1) (WalkI.i i * 8 + 1) (WalkI.i i * 8 + 1) + 64 + 1) (WalkI.i j * 8 + 1) ∧ (WalkI.i i + 1 = WalkI.i j ∧ LeFun (WalkI.i i + 1) (fun q => bif Nat.blt q (WalkI.i i) then fmv (rhoN (knS (Fm.disc (Fm.mk a b c))) q (Fm.mk a b c)) (8 : Nat) else rowOf [MV.st [MV.big (Fm.A (rhoN (knS (Fm.disc (Fm.mk a b c))) (WalkI.i i) (Fm.mk a b c))) (8 : Nat), MV.big (Fm.B (rhoN (knS (Fm.disc (Fm.mk a b c))) (WalkI.i i) (Fm.mk a b c))) (8 : Nat), MV.big (Fm.C (rhoN (knS (Fm.disc (Fm.mk a b c))) (WalkI.i i) (Fm.mk a b c))) (8 : Nat)]] (q - WalkI.i i)) fun j => fmv (rhoN (knS (Fm.disc (Fm.mk a b c))) j (Fm.mk a b c)) (8 : Nat)) ∧ (WalkI.i i + 1 = WalkI.i j ∧ LeFun (WalkI.i i + 1) (fun q => bif Nat.blt q (WalkI.i i) then mmv (walkR (knS (Fm.disc (Fm.mk a b c))) q (Fm.mk a b c)) (widP (Fm.mk a b c)) else rowOf [MV.st [MV.big (Mx.a (walkR (knS (Fm.disc (Fm.mk a b c))) (WalkI.i i) (Fm.mk a b c))) (WalkI.i i * 8 + 1), MV.big (Mx.b (walkR (knS (Fm.disc (Fm.mk a b c))) (WalkI.i i) (Fm.mk a b c))) (WalkI.i i * 8 + 1), MV.big (Mx.c (walkR (knS (Fm.disc (Fm.mk a b c))) (WalkI.i i) (Fm.mk a b c))) (WalkI.i i * 8 + 1), MV.big (Mx.d (walkR (knS (Fm.disc (Fm.mk a b c))) (WalkI.i i) (Fm.mk a b c))) (WalkI.i i * 8 + 1)]] (q - WalkI.i i)) fun j => mmv (walkR (knS (Fm.disc (Fm.mk a b c))) j (Fm.mk a b c)) (widP (Fm.mk a b c))) ∧ True) ∧ True ∧ perOf (Fm.mk a b c) - WalkI.i j < perOf (Fm.mk a b c) - WalkI.i i else backAll (0 : Nat) opsA = true ∧ DrawOk Tryz.prog opsA { n := nat_lit 43, tm := [((32 : Nat), MV.bool false), ((32 : Nat), MV.bool false), ((31 : Nat), MV.tup []), ((27 : Nat), MV.bool !true), ((30 : Nat), MV.tup []), ((27 : Nat), MV.bool !true), ((29 : Nat), MV.tup []), ((27 : Nat), MV.bool !true), ((28 : Nat), MV.tup []), ((27 : Nat), MV.bool !true), ((27 : Nat), MV.bool (decide ((↑(WalkI.i i) : Int) > 0))), ((26 : Nat), MV.bool (decide ((↑(WalkI.i i) : Int) > 0))), ((25 : Nat), MV.int IntKind.i64 (↑(WalkI.i i) : Int)), ((24 : Nat), MV.bs (8 : Nat) (0 : Nat) (WalkI.i i)), ((10 : Nat), MV.bp (11 : Nat) (0 : Nat)), ((9 : Nat), MV.bp (10 : Nat) (0 : Nat)), ((23 : Nat), MV.st [MV.big (Mx.a (walkR (knS (Fm.disc (Fm.mk a b c))) (WalkI.i i) (Fm.mk a b c))) (WalkI.i i * 8 + 1), MV.big (Mx.b (walkR (knS (Fm.disc (Fm.mk a b c))) (WalkI.i i) (Fm.mk a b c))) (WalkI.i i * 8 + 1), MV.big (Mx.c (walkR (knS (Fm.disc (Fm.mk a b c))) (WalkI.i i) (Fm.mk a b c))) (WalkI.i i * 8 + 1), MV.big (Mx.d (walkR (knS (Fm.disc (Fm.mk a b c))) (WalkI.i i) (Fm.mk a b c))) (WalkI.i i * 8 + 1)]), ((22 : Nat), MV.st [MV.big (Fm.A (rhoN (knS (Fm.disc (Fm.mk a b c))) (WalkI.i i) (Fm.mk a b c))) (8 : Nat), MV.big (Fm.B (rhoN (knS (Fm.disc (Fm.mk a b c))) (WalkI.i i) (Fm.mk a b c))) (8 : Nat), MV.big (Fm.C (rhoN (knS (Fm.disc (Fm.mk a b c))) (WalkI.i i) (Fm.mk a b c))) (8 : Nat)]), ((21 : Nat), MV.any), ((20 : Nat), MV.any), ((19 : Nat), MV.any), ((8 : Nat), MV.bp (4 : Nat) (0 : Nat)), ((18 : Nat), MV.any), ((17 : Nat), MV.any), ((7 : Nat), MV.bp (3 : Nat) (0 : Nat)), ((6 : Nat), MV.bp (2 : Nat) (0 : Nat)), ((5 : Nat), MV.int IntKind.i64 (knE (Fm.disc (Fm.mk a b c)))), ((4 : Nat), MV.bp (1 : Nat) (0 : Nat)), ((16 : Nat), MV.int IntKind.i64 (knE (Fm.disc (Fm.mk a b c)))), ((15 : Nat), MV.any), ((11 : Nat), MV.any), ((14 : Nat), MV.any), ((13 : Nat), MV.any), ((12 : Nat), MV.any), ((3 : Nat), MV.val (Value.slice none (0 : Nat) (0 : Nat))), ((2 : Nat), MV.val (Value.slice none (0 : Nat) (0 : Nat))), ((1 : Nat), MV.bp (0 : Nat) (0 : Nat)), ((0 : Nat), MV.any)], bx := [{ fz := false, c := BC.one (MV.st [MV.big a n, MV.big b m, MV.big c k]) }, { fz := false, c := BC.one (MV.big (knS (Fm.disc (Fm.mk a b c))) (9 : Nat)) }, { fz := false, c := BC.one (MV.bs (8 : Nat) (0 : Nat) (WalkI.i i)) }, { fz := false, c := BC.one (MV.bs (9 : Nat) (0 : Nat) (WalkI.i i)) }, { fz := false, c := BC.one (MV.st [MV.int IntKind.i64 a, MV.int IntKind.i64 b, MV.int IntKind.i64 c]) }, { fz := false, c := BC.one (fmv (rhoN (knS (Fm.disc (Fm.mk a b c))) (WalkI.i i) (Fm.mk a b c)) (8 : Nat)) }, { fz := false, c := BC.one (MV.big (knS (Fm.disc (Fm.mk a b c))) (9 : Nat)) }, { fz := false, c := BC.one (mmv (walkR (knS (Fm.disc (Fm.mk a b c))) (WalkI.i i) (Fm.mk a b c)) (WalkI.i i * 8 + 1)) }, { fz := false, c := BC.rows (6 : Nat) (WalkI.i i) fun j => fmv (rhoN (knS (Fm.disc (Fm.mk a b c))) j (Fm.mk a b c)) (8 : Nat) }, { fz := false, c := BC.rows (8 : Nat) (WalkI.i i) fun j => mmv (walkR (knS (Fm.disc (Fm.mk a b c))) j (Fm.mk a b c)) (widP (Fm.mk a b c)) }, { fz := false, c := BC.one (MV.st [MV.big (Fm.A (rhoN (knS (Fm.disc (Fm.mk a b c))) (WalkI.i i) (Fm.mk a b c))) (8 : Nat), MV.big (Fm.B (rhoN (knS (Fm.disc (Fm.mk a b c))) (WalkI.i i) (Fm.mk a b c))) (8 : Nat), MV.big (Fm.C (rhoN (knS (Fm.disc (Fm.mk a b c))) (WalkI.i i) (Fm.mk a b c))) (8 : Nat)]) }, { fz := false, c := BC.one (MV.st [MV.big (Mx.a (walkR (knS (Fm.disc (Fm.mk a b c))) (WalkI.i i) (Fm.mk a b c))) (WalkI.i i * 8 + 1), MV.big (Mx.b (walkR (knS (Fm.disc (Fm.mk a b c))) (WalkI.i i) (Fm.mk a b c))) (WalkI.i i * 8 + 1), MV.big (Mx.c (walkR (knS (Fm.disc (Fm.mk a b c))) (WalkI.i i) (Fm.mk a b c))) (WalkI.i i * 8 + 1), MV.big (Mx.d (walkR (knS (Fm.disc (Fm.mk a b c))) (WalkI.i i) (Fm.mk a b c))) (WalkI.i i * 8 + 1)]) }], np := nat_lit 8 } ∧ (WalkI.i i ≤ WalkI.i i ∧ (WalkI.i i + News.len (News.rows (6 : Nat) (1 : Nat) (rowOf [MV.st [MV.big (Fm.A (rhoN (knS (Fm.disc (Fm.mk a b c))) (WalkI.i i) (Fm.mk a b c))) (8 : Nat), MV.big (Fm.B (rhoN (knS (Fm.disc (Fm.mk a b c))) (WalkI.i i) (Fm.mk a b c))) (8 : Nat), MV.big (Fm.C (rhoN (knS (Fm.disc (Fm.mk a b c))) (WalkI.i i) (Fm.mk a b c))) (8 : Nat)]]))) * 96 ≤ 140737488355328) ∧ (WalkI.i i ≤ WalkI.i i ∧ (WalkI.i i + News.len (News.rows (8 : Nat) (1 : Nat) (rowOf [MV.st [MV.big (Mx.a (walkR (knS (Fm.disc (Fm.mk a b c))) (WalkI.i i) (Fm.mk a b c))) (WalkI.i i * 8 + 1), MV.big (Mx.b (walkR (knS (Fm.disc (Fm.mk a b c))) (WalkI.i i) (Fm.mk a b c))) (WalkI.i i * 8 + 1), MV.big (Mx.c (walkR (knS (Fm.disc (Fm.mk a b c))) (WalkI.i i) (Fm.mk a b c))) (WalkI.i i * 8 + 1), MV.big (Mx.d (walkR (knS (Fm.disc (Fm.mk a b c))) (WalkI.i i) (Fm.mk a b c))) (WalkI.i i * 8 + 1)]]))) * 128 ≤ 140737488355328) ∧ ((8 : Nat) ≤ 40000 ∧ (8 : Nat) ≤ 40000 ∧ (8 : Nat) ≤ 40000 ∧ (9 : Nat) ≤ 40000 ∧ (Fm.C (rhoN (knS (Fm.disc (Fm.mk a b c))) (WalkI.i i) (Fm.mk a b c)) = 0 → False) ∧ (0 : Int) < knS (Fm.disc (Fm.mk a b c)) ∧ knS (Fm.disc (Fm.mk a b c)) ≤ 255) ∧ ((8 : Nat) ≤ 40000 ∧ (8 : Nat) ≤ 40000 ∧ (8 : Nat) ≤ 40000 ∧ (64 : Nat) ≤ 40000 ∧ (64 : Nat) ≤ 40000 ∧ (64 : Nat) ≤ 40000 ∧ (64 : Nat) ≤ 40000) ∧ max4 (WalkI.i i * 8 + 1) (WalkI.i i * 8 + 1) (WalkI.i i * 8 + 1) (WalkI.i i * 8 + 1) + 64 ≤ 900000 ∧ ∃ j, WalkI.i j ≤ perOf (Fm.mk a b c) ∧ ((Value.func (Fn.yield L) #[] #[] = Value.func (Fn.yield L) #[] #[] ∧ (0 : Nat) = 0 ∧ (0 : Nat) = 0 ∧ (0 : Nat) = 0 ∧ True) ∧ (LeB a a n n ∧ LeB b b m m ∧ LeB c c k k ∧ True) ∧ LeB (knS (Fm.disc (Fm.mk a b c))) (knS (Fm.disc (Fm.mk a b c))) 9 9 ∧ ((0 : Nat) = 0 ∧ WalkI.i i + News.len (News.rows (6 : Nat) (1 : Nat) (rowOf [MV.st [MV.big (Fm.A (rhoN (knS (Fm.disc (Fm.mk a b c))) (WalkI.i i) (Fm.mk a b c))) (8 : Nat), MV.big (Fm.B (rhoN (knS (Fm.disc (Fm.mk a b c))) (WalkI.i i) (Fm.mk a b c))) (8 : Nat), MV.big (Fm.C (rhoN (knS (Fm.disc (Fm.mk a b c))) (WalkI.i i) (Fm.mk a b c))) (8 : Nat)]])) = WalkI.i j) ∧ ((0 : Nat) = 0 ∧ WalkI.i i + News.len (News.rows (8 : Nat) (1 : Nat) (rowOf [MV.st [MV.big (Mx.a (walkR (knS (Fm.disc (Fm.mk a b c))) (WalkI.i i) (Fm.mk a b c))) (WalkI.i i * 8 + 1), MV.big (Mx.b (walkR (knS (Fm.disc (Fm.mk a b c))) (WalkI.i i) (Fm.mk a b c))) (WalkI.i i * 8 + 1), MV.big (Mx.c (walkR (knS (Fm.disc (Fm.mk a b c))) (WalkI.i i) (Fm.mk a b c))) (WalkI.i i * 8 + 1), MV.big (Mx.d (walkR (knS (Fm.disc (Fm.mk a b c))) (WalkI.i i) (Fm.mk a b c))) (WalkI.i i * 8 + 1)]])) = WalkI.i j) ∧ (a = a ∧ b = b ∧ c = c ∧ True) ∧ FLe (Fm.mk (Fm.val (rhoN (knS (Fm.disc (Fm.mk a b c))) (WalkI.i i) (Fm.mk a b c)) (0 : Int) (1 : Int)) ((2 : Int) * (Fm.A (rhoN (knS (Fm.disc (Fm.mk a b c))) (WalkI.i i) (Fm.mk a b c)) * ((0 : Int) * (-1 : Int)) + Fm.C (rhoN (knS (Fm.disc (Fm.mk a b c))) (WalkI.i i) (Fm.mk a b c)) * ((1 : Int) * rhoK (knS (Fm.disc (Fm.mk a b c))) (rhoN (knS (Fm.disc (Fm.mk a b c))) (WalkI.i i) (Fm.mk a b c)))) + Fm.B (rhoN (knS (Fm.disc (Fm.mk a b c))) (WalkI.i i) (Fm.mk a b c)) * ((0 : Int) * rhoK (knS (Fm.disc (Fm.mk a b c))) (rhoN (knS (Fm.disc (Fm.mk a b c))) (WalkI.i i) (Fm.mk a b c)) + (-1 : Int) * 1)) (Fm.val (rhoN (knS (Fm.disc (Fm.mk a b c))) (WalkI.i i) (Fm.mk a b c)) (-1 : Int) (rhoK (knS (Fm.disc (Fm.mk a b c))) (rhoN (knS (Fm.disc (Fm.mk a b c))) (WalkI.i i) (Fm.mk a b c))))) (rhoN (knS (Fm.disc (Fm.mk a b c))) (WalkI.i j) (Fm.mk a b c)) 204 8 ∧ LeB (knS (Fm.disc (Fm.mk a b c))) (knS (Fm.disc (Fm.mk a b c))) 9 9 ∧ MLe (Mx.mk (Mx.a (walkR (knS (Fm.disc (Fm.mk a b c))) (WalkI.i i) (Fm.mk a b c)) * 0 + Mx.b (walkR (knS (Fm.disc (Fm.mk a b c))) (WalkI.i i) (Fm.mk a b c)) * 1) (Mx.a (walkR (knS (Fm.disc (Fm.mk a b c))) (WalkI.i i) (Fm.mk a b c)) * (-1 : Int) + Mx.b (walkR (knS (Fm.disc (Fm.mk a b c))) (WalkI.i i) (Fm.mk a b c)) * rhoK (knS (Fm.disc (Fm.mk a b c))) (rhoN (knS (Fm.disc (Fm.mk a b c))) (WalkI.i i) (Fm.mk a b c))) (Mx.c (walkR (knS (Fm.disc (Fm.mk a b c))) (WalkI.i i) (Fm.mk a b c)) * 0 + Mx.d (walkR (knS (Fm.disc (Fm.mk a b c))) (WalkI.i i) (Fm.mk a b c)) * 1) (Mx.c (walkR (knS (Fm.disc (Fm.mk a b c))) (WalkI.i i) (Fm.mk a b c)) * (-1 : Int) + Mx.d (walkR (knS (Fm.disc (Fm.mk a b c))) (WalkI.i i) (Fm.mk a b c)) * rhoK (knS (Fm.disc (Fm.mk a b c))) (rhoN (knS (Fm.disc (Fm.mk a b c))) (WalkI.i i) (Fm.mk a b c)))) (walkR (knS (Fm.disc (Fm.mk a b c))) (WalkI.i j) (Fm.mk a b c)) (max4 (WalkI.i i * 8 + 1) (WalkI.i i * 8 + 1) (WalkI.i i * 8 + 1) (WalkI.i i * 8 + 1) + 64 + 1) (WalkI.i j * 8 + 1) ∧ (WalkI.i i + 1 = WalkI.i j ∧ LeFun (WalkI.i i + 1) (fun q => bif Nat.blt q (WalkI.i i) then fmv (rhoN (knS (Fm.disc (Fm.mk a b c))) q (Fm.mk a b c)) (8 : Nat) else rowOf [MV.st [MV.big (Fm.A (rhoN (knS (Fm.disc (Fm.mk a b c))) (WalkI.i i) (Fm.mk a b c))) (8 : Nat), MV.big (Fm.B (rhoN (knS (Fm.disc (Fm.mk a b c))) (WalkI.i i) (Fm.mk a b c))) (8 : Nat), MV.big (Fm.C (rhoN (knS (Fm.disc (Fm.mk a b c))) (WalkI.i i) (Fm.mk a b c))) (8 : Nat)]] (q - WalkI.i i)) fun j => fmv (rhoN (knS (Fm.disc (Fm.mk a b c))) j (Fm.mk a b c)) (8 : Nat)) ∧ (WalkI.i i + 1 = WalkI.i j ∧ LeFun (WalkI.i i + 1) (fun q => bif Nat.blt q (WalkI.i i) then mmv (walkR (knS (Fm.disc (Fm.mk a b c))) q (Fm.mk a b c)) (widP (Fm.mk a b c)) else rowOf [MV.st [MV.big (Mx.a (walkR (knS (Fm.disc (Fm.mk a b c))) (WalkI.i i) (Fm.mk a b c))) (WalkI.i i * 8 + 1), MV.big (Mx.b (walkR (knS (Fm.disc (Fm.mk a b c))) (WalkI.i i) (Fm.mk a b c))) (WalkI.i i * 8 + 1), MV.big (Mx.c (walkR (knS (Fm.disc (Fm.mk a b c))) (WalkI.i i) (Fm.mk a b c))) (WalkI.i i * 8 + 1), MV.big (Mx.d (walkR (knS (Fm.disc (Fm.mk a b c))) (WalkI.i i) (Fm.mk a b c))) (WalkI.i i * 8 + 1)]] (q - WalkI.i i)) fun j => mmv (walkR (knS (Fm.disc (Fm.mk a b c))) j (Fm.mk a b c)) (widP (Fm.mk a b c))) ∧ True) ∧ True ∧ perOf (Fm.mk a b c) - WalkI.i j < perOf (Fm.mk a b c) - WalkI.i i) = evFnX (xe_around (knS (Fm.disc ⟨a, b, c⟩)) ⟨a, b, c⟩ (perOf ⟨a, b, c⟩) (widP ⟨a, b, c⟩)) Tryz.f69 [.st [.big a n, .big b m, .big c k]] (MRes.sat (.ret (.tup [arF ⟨a, b, c⟩, arM ⟨a, b, c⟩]))) := by kernel_rfl
theorem le_snoc {len : Nat} {g : Nat → MV} {x : MV} (h : leMV 0 x (g len)) : LeFun (len + 1) (fun q => bif Nat.blt q len then g q else rowOf [x] (q - len)) g := ⟨fun q hq c w cs r => by
 have r : RepC c w (bif Nat.blt q len then g q else rowOf [x] (q - len)) cs := r
 rcases Nat.lt_or_ge q len with k | k
 ·have e : Nat.blt q len = true := by simpa [Nat.blt_eq] using k
  rw [e, cond_true] at r
  exact r
 ·have e : Nat.blt q len = false := by
   cases hb : Nat.blt q len with
   | true => rw [Nat.blt_eq] at hb; omega
   | false => rfl
  have hq' : q = len := by omega
  rw [e, cond_false] at r
  subst hq'
  have e0 : rowOf [x] (q - q) = x := by rw [Nat.sub_self]; rfl
  rw [e0] at r
  exact (LeFun.of_le (len := 1) (f := fun _ => x) (f' := fun _ => g q) (fun _ _ => h)).h 0 (by omega) c w cs r⟩
theorem le_fm {nb : Nat} (f : Fm) {n n' : Nat} (h : n ≤ n') : leMV nb (.st [.big f.A n, .big f.B n, .big f.C n]) (fmv f n') := by
 unfold fmv
 simp only [leMV, leMVs]
 exact ⟨⟨trivial, .inl h⟩, ⟨trivial, .inl h⟩, ⟨trivial, .inl h⟩, True.intro⟩
theorem le_mm {nb : Nat} (m : Mx) {n n' : Nat} (h : n ≤ n') : leMV nb (.st [.big m.a n, .big m.b n, .big m.c n, .big m.d n]) (mmv m n') := by
 unfold mmv
 simp only [leMV, leMVs]
 exact ⟨⟨trivial, .inl h⟩, ⟨trivial, .inl h⟩, ⟨trivial, .inl h⟩, ⟨trivial, .inl h⟩, True.intro⟩
theorem LeFun.refl {len : Nat} {f : Nat → MV} : LeFun len f f := ⟨fun _ _ _ _ _ r => r⟩
def s_around : FSpec
 | [.st [.big a n, .big b m, .big c k]] => some (some (redQ ⟨a, b, c⟩ = true ∧ n ≤ 10000 ∧ m ≤ 10000 ∧ k ≤ 10000), .ret (.tup [arF ⟨a, b, c⟩, arM ⟨a, b, c⟩]))
 | _ => none
set_option maxRecDepth 100000 in
theorem p_around : GoodX Tryz.f69 s_around := by
 intro ms p r h hp hf
 unfold s_around at h
 split at h
 ·rename_i a n b m c k
  simp only [Option.some.injEq, Prod.mk.injEq] at h
  obtain ⟨rfl, rfl⟩ := h
  obtain ⟨hred, h1, h2, h3⟩ : redQ ⟨a, b, c⟩ = true ∧ n ≤ 10000 ∧ m ≤ 10000 ∧ k ≤ 10000 := hp
  have hm3 : max3 n m k = max n (max m k) := rfl
  refine ⟨xe_around (knS (Fm.disc ⟨a, b, c⟩)) ⟨a, b, c⟩ (perOf ⟨a, b, c⟩) (widP ⟨a, b, c⟩), ?_, ?_⟩
  rotate_left
  ·repeat' first | exact True.intro | apply And.intro | rfl
  rw [← vc_around a b c n m k]
  obtain ⟨q, hr⟩ := redQ_RD.1 hred
  obtain ⟨hd, hs, _⟩ := kn_dis q
  obtain ⟨p1, _, p3, p4⟩ := per_spec hred
  have p5 := per_le hred
  obtain ⟨b1, b2, b3, _⟩ := hr.small hd hs
  have e8 : (2 : Nat) ^ 8 = 256 := rfl
  have hw : widP ⟨a, b, c⟩ = perOf ⟨a, b, c⟩ * 8 + 1 := rfl
  generalize hS : knS (Fm.disc ⟨a, b, c⟩) = s at *
  generalize hP : perOf ⟨a, b, c⟩ = per at *
  generalize hW : widP ⟨a, b, c⟩ = WM at *
  have b1' : a.natAbs < 2 ^ 8 := b1
  have b2' : b.natAbs < 2 ^ 8 := b2
  have b3' : c.natAbs < 2 ^ 8 := b3
  have l1 : (IntKind.min IntKind.i64) = -9223372036854775808 := rfl
  have l2 : (IntKind.max IntKind.i64) = 9223372036854775807 := rfl
  unfold max3 max4
  refine ⟨by omega, by omega, by omega, fun L => ⟨by omega, by omega, by omega, by omega, ⟨⟨0⟩, Nat.zero_le _, ?_, True.intro⟩, fun i hi => ?_⟩⟩
  ·and_intros <;> first | exact True.intro | rfl | exact .inl (Nat.le_refl _) | exact .inr b1' | exact .inr b2' | exact .inr b3' | (right; show _ < 2 ^ (0 * 8 + 1); decide) | exact LeFun.refl
  obtain ⟨i⟩ := i
  have hi : i ≤ per := hi
  have hg := hr.rhoN hd i
  obtain ⟨g1, g2, g3, _⟩ := hg.small hd hs
  have hM := cyc_bd hd hs hr i
  dsimp only
  have hlt1 : ¬ ([(rhoN s i ⟨a, b, c⟩).A, (rhoN s i ⟨a, b, c⟩).B, (rhoN s i ⟨a, b, c⟩).C] = [a, b, c]) → i < per := fun hne => by
   rcases Nat.lt_or_ge i per with hl | hl
   ·exact hl
   ·obtain rfl : i = per := by omega
    exact absurd (by rw [p3]) hne
  have hlt2 : ¬ ((i : Int) > 0) → i < per := fun h0 => by omega
  refine ⟨rfl, condI decide_eq_true_iff (fun q0 => ⟨by omega, (by rw [l1, l2]; and_intros <;> first | exact True.intro | omega), condI (eqL_iff _ _) (fun q1 => ?_) (fun q1 => ⟨by kernel_rfl, ⟨by kernel_rfl⟩, ?_⟩)⟩) (fun q0 => ⟨by kernel_rfl, ⟨by kernel_rfl⟩, ?_⟩)⟩
  ·have hii : i = per := by
    simp only [List.cons.injEq, and_true] at q1
    rcases Nat.lt_or_ge i per with hl | hl
    ·exact absurd (Fm.ext' q1.1 q1.2.1 q1.2.2) (p4 i (by omega) hl)
    ·omega
   subst hii
   exact ⟨⟨Nat.le_refl _, Nat.le_refl _⟩, ⟨rfl, rfl, LeFun.refl⟩, ⟨rfl, rfl, LeFun.refl⟩, True.intro⟩
  all_goals
   have hlt : i < per := by first | exact hlt1 q1 | exact hlt2 q0
   have hC := (disc_ne hd hg.h).2
   have gs : rhoN s (i + 1) ⟨a, b, c⟩ = (rhoN s i ⟨a, b, c⟩).app (stepM s (rhoN s i ⟨a, b, c⟩)) := by rw [rhoN_succ, rho_app hC]
   have hM' := cyc_bd hd hs hr (i + 1)
   have hg' := hr.rhoN hd (i + 1)
   obtain ⟨k1, k2, k3, _⟩ := hg'.small hd hs
   rw [gs] at k1 k2 k3
   have n1 : ∀ x : MV, News.len (.rows 6 1 (rowOf [x])) = 1 := fun _ => rfl
   have n2 : ∀ x : MV, News.len (.rows 8 1 (rowOf [x])) = 1 := fun _ => rfl
   rw [n1, n2]
   refine ⟨⟨Nat.le_refl _, by omega⟩, ⟨Nat.le_refl _, by omega⟩, ⟨by omega, by omega, by omega, by omega, hC, hd.pos, hs⟩, by omega, by omega, ⟨i + 1⟩, hlt, ?_, True.intro, ?_⟩
   ·dsimp only
    rw [gs]
    and_intros
    any_goals exact le_snoc (le_fm _ (Nat.le_refl _))
    any_goals exact le_snoc (le_mm _ (by omega))
    all_goals first | exact True.intro | rfl | exact .inl (Nat.le_refl _) | exact .inr k1 | exact .inr k2 | exact .inr k3 | exact .inr hM'.a | exact .inr hM'.b | exact .inr hM'.c | exact .inr hM'.d
   ·show per - (i + 1) < per - i
    omega
 ·simp at h
noncomputable def c_around : Ctr Tryz.prog := ⟨69, s_around, fun args w => Tryz.call69 args w, fnX_ok_facts Tryz.func69 s_around p_around⟩
end Go.Proofs.YtnfmjlhkknndhaaGreat
/-
 Contracts of functions: cycle.Cycle, cycle.Shows, cycle.Same.
-/
namespace Go.Proofs.YtnfmjlhkknndhaaGreat
open Go Go.RowKit
def fL (l : List Fm) (W : Nat) : Nat → MV := fun i => fmv (l.getD i ⟨0, 0, 0⟩) W
def lmv (l : List Fm) (W : Nat) : MV := .sl 6 l.length (fL l W)
def mvF : MV → Fm
 | .st [.big a _, .big b _, .big c _] => ⟨a, b, c⟩
 | _ => ⟨0, 0, 0⟩
structure isFm (W : Nat) (m : MV) : Prop where
 h : ∃ (g : Fm) (i j k : Nat), m = .st [.big g.A i, .big g.B j, .big g.C k] ∧ i ≤ W ∧ j ≤ W ∧ k ≤ W
def fvals (n : Nat) (f : Nat → MV) : List Fm := (List.range n).map fun i => mvF (f i)
theorem fvals_length (n : Nat) (f : Nat → MV) : (fvals n f).length = n := by simp [fvals]
theorem fvals_fL (l : List Fm) (W : Nat) : fvals l.length (fL l W) = l := by
 refine List.ext_getElem (by simp [fvals]) fun i h1 h2 => ?_
 simp [fvals, fL, mvF, fmv, h2]
theorem fvals_fun (n : Nat) (g : Nat → Fm) (W : Nat) : fvals n (fun i => fmv (g i) W) = (List.range n).map g := by
 simp [fvals, mvF, fmv]
theorem isFm_fmv (g : Fm) {n W : Nat} (h : n ≤ W) : isFm W (fmv g n) := ⟨g, n, n, n, rfl, h, h, h⟩
theorem fvals_le {n : Nat} {f : Nat → MV} {W : Nat} (h : ∀ i, i < n → isFm W (f i)) : LeFun n f (fL (fvals n f) W) := LeFun.of_le fun i hi => by
 obtain ⟨g, a, b, c, e, ha, hb, hc⟩ := (h i hi).h
 have e2 : (fvals n f).getD i ⟨0, 0, 0⟩ = g := by
  simp [fvals, hi, e, mvF]
 show leMV 0 (f i) (fmv ((fvals n f).getD i ⟨0, 0, 0⟩) W)
 rw [e2, e]
 unfold fmv
 simp only [leMV, leMVs]
 exact ⟨⟨trivial, .inl ha⟩, ⟨trivial, .inl hb⟩, ⟨trivial, .inl hc⟩, True.intro⟩
theorem lmv_le {n : Nat} {g : Nat → Fm} {l : List Fm} {V W : Nat} (hl : l = (List.range n).map g) (hV : V ≤ W) : n = l.length ∧ LeFun n (fun i => fmv (g i) V) (fL l W) := by
 refine ⟨by simp [hl], LeFun.of_le fun i hi => ?_⟩
 have e : l.getD i ⟨0, 0, 0⟩ = g i := by simp [hl, hi]
 show leMV 0 (fmv (g i) V) (fmv (l.getD i ⟨0, 0, 0⟩) W)
 rw [e]
 exact le_fm _ hV
def cyL (f : Fm) : List Fm := if knE f.disc = 0 then (List.range (perOf (redR f))).map fun j => rhoN (knS (redR f).disc) j (redR f) else []
theorem redR_RD {f : Fm} (h : knE f.disc = 0) : redQ (redR f) = true ∧ (redR f).disc = f.disc := by
 obtain ⟨hd, _⟩ := kn_dis h
 have e : redR f = redG f := if_pos h
 obtain ⟨k, hk⟩ : ∃ k, f.C.natAbs < 2 ^ k := ⟨f.C.natAbs, nat_lt_pow _⟩
 have := (steps_spec h hk).2.1
 rw [e]
 exact ⟨this, rhoN_disc hd _ rfl⟩
theorem cyL_le (f : Fm) : (cyL f).length ≤ 65408 := by
 unfold cyL
 split
 ·rename_i h
  have := per_le (redR_RD h).1
  simpa using this
 ·simp
theorem cyL_small (f : Fm) : ∀ g ∈ cyL f, g.A.natAbs < 2 ^ 8 ∧ g.B.natAbs < 2 ^ 8 ∧ g.C.natAbs < 2 ^ 8 := by
 intro g hg
 unfold cyL at hg
 split at hg
 ·rename_i h
  obtain ⟨i, _, rfl⟩ := List.mem_map.1 hg
  obtain ⟨q, hr⟩ := redQ_RD.1 (redR_RD h).1
  obtain ⟨hd, hs, _⟩ := kn_dis q
  have := (hr.rhoN hd i).small hd hs
  exact ⟨this.1, this.2.1, this.2.2.1⟩
 ·simp at hg
def s_ccycle : FSpec
 | [.st [.big a n, .big b m, .big c k]] => some (some (n ≤ 300 ∧ m ≤ 300 ∧ k ≤ 300), .ret (.tup [lmv (cyL ⟨a, b, c⟩) 8, .int .i64 (knE (Fm.disc ⟨a, b, c⟩))]))
 | _ => none
theorem vc_ccycle (a b c : Int) (n m k : Nat) : ((n ≤ 300 ∧ m ≤ 300 ∧ k ≤ 300) ∧ bif knE (Fm.disc (Fm.mk a b c)) != 0 then (Value.slice none (0 : Nat) (0 : Nat) = Value.slice none (0 : Nat) (0 : Nat) ∧ List.length (cyL (Fm.mk a b c)) = 0) ∧ knE (Fm.disc (Fm.mk a b c)) = knE (Fm.disc (Fm.mk a b c)) ∧ True else (redQ (redR (Fm.mk a b c)) = true ∧ wid n m k ≤ 10000 ∧ wid n m k ≤ 10000 ∧ wid n m k ≤ 10000) ∧ ((6 : Nat) = 6 ∧ perOf (redR (Fm.mk a b c)) = List.length (cyL (Fm.mk a b c)) ∧ LeFun (perOf (redR (Fm.mk a b c))) (fun j => fmv (rhoN (knS (Fm.disc (redR (Fm.mk a b c)))) j (redR (Fm.mk a b c))) (8 : Nat)) (fL (cyL (Fm.mk a b c)) (8 : Nat))) ∧ (0 : Int) = knE (Fm.disc (Fm.mk a b c)) ∧ True) = evFn (env [c_creduce, c_around] noAnn) Tryz.f23 [.st [.big a n, .big b m, .big c k]] (MRes.sat (.ret (.tup [lmv (cyL ⟨a, b, c⟩) 8, .int .i64 (knE (Fm.disc ⟨a, b, c⟩))]))) := by kernel_rfl
theorem p_ccycle : Good Tryz.f23 s_ccycle := by
 intro ms p r h hp
 unfold s_ccycle at h
 split at h
 ·rename_i a n b m c k
  simp only [Option.some.injEq, Prod.mk.injEq] at h
  obtain ⟨rfl, rfl⟩ := h
  obtain ⟨h1, h2, h3⟩ : n ≤ 300 ∧ m ≤ 300 ∧ k ≤ 300 := hp
  refine ⟨env [c_creduce, c_around] noAnn, ?_⟩
  rw [← vc_ccycle a b c n m k]
  refine ⟨by omega, condI bne_iff_ne (fun q => ?_) (fun q => ?_)⟩
  ·have e : cyL ⟨a, b, c⟩ = [] := if_neg q
   exact ⟨⟨rfl, by rw [e]; rfl⟩, rfl, True.intro⟩
  ·have q := Decidable.not_not.1 q
   have e : cyL ⟨a, b, c⟩ = (List.range (perOf (redR ⟨a, b, c⟩))).map fun j => rhoN (knS (redR ⟨a, b, c⟩).disc) j (redR ⟨a, b, c⟩) := if_pos q
   have hw : wid n m k ≤ 10000 := by unfold wid max3; omega
   obtain ⟨k1, k2⟩ := lmv_le (V := 8) (W := 8) e (Nat.le_refl _)
   exact ⟨⟨(redR_RD q).1, hw, hw, hw⟩, ⟨rfl, k1, k2⟩, q.symm, True.intro⟩
 ·simp at h
def c_ccycle : Ctr Tryz.prog := ⟨23, s_ccycle, fun args w => Tryz.call23 args w, fn_ok mix Tryz.func23 s_ccycle p_ccycle⟩
def s_shows1 : FSpec
 | [.st [.big a n, .big _ _, .big _ _], .ref (.big z l)] => some (some (n ≤ 100000 ∧ l ≤ 100000), .ret (.bool (decide (a = z))))
 | _ => none
theorem vc_shows1 (a b c z : Int) (n m k l : Nat) : ((n ≤ 1000000 ∧ l ≤ 1000000) ∧ (icmp a z == 0) = decide (a = z)) = evFn (env [c_icmp] noAnn) Tryz.f71 [.st [.big a n, .big b m, .big c k], .ref (.big z l)] (MRes.sat (.ret (.bool (decide (a = z))))) := by kernel_rfl
theorem p_shows1 : Good Tryz.f71 s_shows1 := by
 intro ms p r h hp
 unfold s_shows1 at h
 split at h
 ·rename_i a n b m c k z l
  simp only [Option.some.injEq, Prod.mk.injEq] at h
  obtain ⟨rfl, rfl⟩ := h
  obtain ⟨h1, h2⟩ : n ≤ 100000 ∧ l ≤ 100000 := hp
  refine ⟨env [c_icmp] noAnn, ?_⟩
  rw [← vc_shows1 a b c z n m k l]
  exact ⟨by omega, boolI ceqz decide_eq_true_iff⟩
 ·simp at h
def c_shows1 : Ctr Tryz.prog := ⟨71, s_shows1, fun args w => Tryz.call71 args w, fn_ok mix Tryz.func71 s_shows1 p_shows1⟩
def s_same1 : FSpec
 | [.st [.big a _, .big b _, .big c _], .ref (.st [.big x _, .big y _, .big z _])] => some (some (a.natAbs < 9223372036854775808 ∧ b.natAbs < 9223372036854775808 ∧ c.natAbs < 9223372036854775808 ∧ x.natAbs < 9223372036854775808 ∧ y.natAbs < 9223372036854775808 ∧ z.natAbs < 9223372036854775808), .ret (.bool (decide (a = x ∧ b = y ∧ c = z))))
 | _ => none
theorem vc_same1 (a b c x y z : Int) (n m k l r u : Nat) : ((Int.natAbs a < 9223372036854775808 ∧ Int.natAbs b < 9223372036854775808 ∧ Int.natAbs c < 9223372036854775808) ∧ (Int.natAbs x < 9223372036854775808 ∧ Int.natAbs y < 9223372036854775808 ∧ Int.natAbs z < 9223372036854775808) ∧ (((IntKind.min IntKind.i64 ≤ a ∧ a ≤ IntKind.max IntKind.i64) ∧ (IntKind.min IntKind.i64 ≤ b ∧ b ≤ IntKind.max IntKind.i64) ∧ (IntKind.min IntKind.i64 ≤ c ∧ c ≤ IntKind.max IntKind.i64) ∧ True) ∧ (IntKind.min IntKind.i64 ≤ x ∧ x ≤ IntKind.max IntKind.i64) ∧ (IntKind.min IntKind.i64 ≤ y ∧ y ≤ IntKind.max IntKind.i64) ∧ (IntKind.min IntKind.i64 ≤ z ∧ z ≤ IntKind.max IntKind.i64) ∧ True) ∧ eqL [a, b, c] [x, y, z] = decide (a = x ∧ b = y ∧ c = z)) = evFn (env [c_small] noAnn) Tryz.f86 [.st [.big a n, .big b m, .big c k], .ref (.st [.big x l, .big y r, .big z u])] (MRes.sat (.ret (.bool (decide (a = x ∧ b = y ∧ c = z))))) := by kernel_rfl
theorem p_same1 : Good Tryz.f86 s_same1 := by
 intro ms p r h hp
 unfold s_same1 at h
 split at h
 ·rename_i a n b m c k x l y r z u
  simp only [Option.some.injEq, Prod.mk.injEq] at h
  obtain ⟨rfl, rfl⟩ := h
  obtain ⟨h1, h2, h3, h4, h5, h6⟩ : a.natAbs < 9223372036854775808 ∧ b.natAbs < 9223372036854775808 ∧ c.natAbs < 9223372036854775808 ∧ x.natAbs < 9223372036854775808 ∧ y.natAbs < 9223372036854775808 ∧ z.natAbs < 9223372036854775808 := hp
  refine ⟨env [c_small] noAnn, ?_⟩
  rw [← vc_same1 a b c x y z n m k l r u]
  have l1 : (IntKind.min IntKind.i64) = -9223372036854775808 := rfl
  have l2 : (IntKind.max IntKind.i64) = 9223372036854775807 := rfl
  rw [l1, l2]
  refine ⟨by omega, by omega, by and_intros <;> first|exact True.intro|omega, boolI (eqL_iff _ _) ?_⟩
  rw [decide_eq_true_iff]
  simp
 ·simp at h
def c_same1 : Ctr Tryz.prog := ⟨86, s_same1, fun args w => Tryz.call86 args w, fn_ok mix Tryz.func86 s_same1 p_same1⟩
def fidx (p : Fm → Bool) : List Fm → Nat → Int
 | [], _ => -1
 | g :: r, i => cond (p g) (i : Int) (fidx p r (i + 1))
theorem fidx_step (p : Fm → Bool) {l : List Fm} {i : Nat} (h : i < l.length) : fidx p (l.drop i) i = cond (p (l.getD i ⟨0, 0, 0⟩)) (i : Int) (fidx p (l.drop (i + 1)) (i + 1)) := by
 rw [List.drop_eq_getElem_cons h]
 simp [fidx, h]
theorem fidx_end (p : Fm → Bool) (l : List Fm) : fidx p (l.drop l.length) l.length = -1 := by simp [fidx]
theorem fidx_range (p : Fm → Bool) : ∀ (l : List Fm) (i : Nat), (fidx p l i = -1 ∧ ∀ g ∈ l, p g = false) ∨ (∃ j, j < l.length ∧ fidx p l i = ((i + j : Nat) : Int) ∧ p (l.getD j ⟨0, 0, 0⟩) = true ∧ ∀ h, h < j → p (l.getD h ⟨0, 0, 0⟩) = false)
 | [], i => .inl ⟨rfl, fun g hg => by simp at hg⟩
 | g :: r, i => by
  cases hg : p g with
  | true => exact .inr ⟨0, by simp, by simp [fidx, hg], hg, fun h hh => by omega⟩
  | false =>
   have e : fidx p (g :: r) i = fidx p r (i + 1) := by simp [fidx, hg]
   rcases fidx_range p r (i + 1) with ⟨h1, h2⟩ | ⟨j, h1, h2, h3, h4⟩
   ·refine .inl ⟨e.trans h1, fun x hx => ?_⟩
    rcases List.mem_cons.1 hx with rfl | hx
    ·exact hg
    ·exact h2 x hx
   ·refine .inr ⟨j + 1, by simpa using h1, by rw [e, h2]; omega, by simpa using h3, fun h hh => ?_⟩
    cases h with
    | zero => simpa using hg
    | succ h => simpa using h4 h (by omega)
def isA (z : Int) (g : Fm) : Bool := decide (g.A = z)
def isF (x y z : Int) (g : Fm) : Bool := decide (g.A = x ∧ g.B = y ∧ g.C = z)
structure sm63 (g : Fm) : Prop where
 A : g.A.natAbs < 9223372036854775808
 B : g.B.natAbs < 9223372036854775808
 C : g.C.natAbs < 9223372036854775808
def a_idx (l : List Fm) (fn : MV) (p : Fm → Bool) : Nat → MS → Option LoopAnn
 | 2, _ => some (.inv WalkI (fun i => i.i ≤ l.length ∧ fidx p (l.drop i.i) i.i = fidx p l 0) (fun i => ⟨19, [(0, .sl 6 l.length (fL l 1000)), (1, fn), (7, .int .i64 l.length), (8, .int .i64 i.i)], [], 0⟩) (fun i => l.length - i.i))
 | _, _ => none
theorem vc_idx1 (l : List Fm) (z : Int) (k : Nat) : ((∃ i, (WalkI.i i ≤ List.length l ∧ fidx (isA z) (List.drop (WalkI.i i) l) (WalkI.i i) = fidx (isA z) l (0 : Nat)) ∧ (((6 : Nat) = 6 ∧ List.length l = List.length l ∧ LeFun (List.length l) (fL l (1000 : Nat)) (fL l (1000 : Nat))) ∧ (LeB z z k k ∧ True) ∧ (↑(List.length l) : Int) = (↑(List.length l) : Int) ∧ (0 : Int) = (↑(WalkI.i i) : Int) ∧ True) ∧ True) ∧ ∀ (i : WalkI), WalkI.i i ≤ List.length l ∧ fidx (isA z) (List.drop (WalkI.i i) l) (WalkI.i i) = fidx (isA z) l (0 : Nat) → bif decide ((↑(WalkI.i i) : Int) < (↑(List.length l) : Int)) then ((0 : Int) ≤ (↑(WalkI.i i) : Int) ∧ (↑(WalkI.i i) : Int) < (↑(List.length l) : Int)) ∧ ((1000 : Nat) ≤ 100000 ∧ k ≤ 100000) ∧ bif decide (Fm.A (List.getD l (Int.toNat (↑(WalkI.i i) : Int)) (Fm.mk (0 : Int) (0 : Int) (0 : Int))) = z) then (↑(WalkI.i i) : Int) = fidx (isA z) l (0 : Nat) else ∃ j, (WalkI.i j ≤ List.length l ∧ fidx (isA z) (List.drop (WalkI.i j) l) (WalkI.i j) = fidx (isA z) l (0 : Nat)) ∧ ((((6 : Nat) = 6 ∧ List.length l = List.length l ∧ LeFun (List.length l) (fL l (1000 : Nat)) (fL l (1000 : Nat))) ∧ (LeB z z k k ∧ True) ∧ (↑(List.length l) : Int) = (↑(List.length l) : Int) ∧ IntKind.wrap IntKind.i64 ((↑(WalkI.i i) : Int) + 1) = (↑(WalkI.i j) : Int) ∧ True) ∧ True) ∧ List.length l - WalkI.i j < List.length l - WalkI.i i else (-1 : Int) = fidx (isA z) l (0 : Nat)) = evFn (env [c_shows1] (a_idx l (.fn 71 [.ref (.big z k)]) (isA z))) Tryz.f70 [.sl 6 l.length (fL l 1000), .fn 71 [.ref (.big z k)]] (MRes.sat (.ret (.int .i64 (fidx (isA z) l 0)))) := by kernel_rfl
theorem vc_idx2 (l : List Fm) (x y z : Int) (n m k : Nat) : ((∃ i, (WalkI.i i ≤ List.length l ∧ fidx (isF x y z) (List.drop (WalkI.i i) l) (WalkI.i i) = fidx (isF x y z) l (0 : Nat)) ∧ (((6 : Nat) = 6 ∧ List.length l = List.length l ∧ LeFun (List.length l) (fL l (1000 : Nat)) (fL l (1000 : Nat))) ∧ ((LeB x x n n ∧ LeB y y m m ∧ LeB z z k k ∧ True) ∧ True) ∧ (↑(List.length l) : Int) = (↑(List.length l) : Int) ∧ (0 : Int) = (↑(WalkI.i i) : Int) ∧ True) ∧ True) ∧ ∀ (i : WalkI), WalkI.i i ≤ List.length l ∧ fidx (isF x y z) (List.drop (WalkI.i i) l) (WalkI.i i) = fidx (isF x y z) l (0 : Nat) → bif decide ((↑(WalkI.i i) : Int) < (↑(List.length l) : Int)) then ((0 : Int) ≤ (↑(WalkI.i i) : Int) ∧ (↑(WalkI.i i) : Int) < (↑(List.length l) : Int)) ∧ (Int.natAbs (Fm.A (List.getD l (Int.toNat (↑(WalkI.i i) : Int)) (Fm.mk (0 : Int) (0 : Int) (0 : Int)))) < 9223372036854775808 ∧ Int.natAbs (Fm.B (List.getD l (Int.toNat (↑(WalkI.i i) : Int)) (Fm.mk (0 : Int) (0 : Int) (0 : Int)))) < 9223372036854775808 ∧ Int.natAbs (Fm.C (List.getD l (Int.toNat (↑(WalkI.i i) : Int)) (Fm.mk (0 : Int) (0 : Int) (0 : Int)))) < 9223372036854775808 ∧ Int.natAbs x < 9223372036854775808 ∧ Int.natAbs y < 9223372036854775808 ∧ Int.natAbs z < 9223372036854775808) ∧ bif decide (Fm.A (List.getD l (Int.toNat (↑(WalkI.i i) : Int)) (Fm.mk (0 : Int) (0 : Int) (0 : Int))) = x ∧ Fm.B (List.getD l (Int.toNat (↑(WalkI.i i) : Int)) (Fm.mk (0 : Int) (0 : Int) (0 : Int))) = y ∧ Fm.C (List.getD l (Int.toNat (↑(WalkI.i i) : Int)) (Fm.mk (0 : Int) (0 : Int) (0 : Int))) = z) then (↑(WalkI.i i) : Int) = fidx (isF x y z) l (0 : Nat) else ∃ j, (WalkI.i j ≤ List.length l ∧ fidx (isF x y z) (List.drop (WalkI.i j) l) (WalkI.i j) = fidx (isF x y z) l (0 : Nat)) ∧ ((((6 : Nat) = 6 ∧ List.length l = List.length l ∧ LeFun (List.length l) (fL l (1000 : Nat)) (fL l (1000 : Nat))) ∧ ((LeB x x n n ∧ LeB y y m m ∧ LeB z z k k ∧ True) ∧ True) ∧ (↑(List.length l) : Int) = (↑(List.length l) : Int) ∧ IntKind.wrap IntKind.i64 ((↑(WalkI.i i) : Int) + 1) = (↑(WalkI.i j) : Int) ∧ True) ∧ True) ∧ List.length l - WalkI.i j < List.length l - WalkI.i i else (-1 : Int) = fidx (isF x y z) l (0 : Nat)) = evFn (env [c_same1] (a_idx l (.fn 86 [.ref (.st [.big x n, .big y m, .big z k])]) (isF x y z))) Tryz.f70 [.sl 6 l.length (fL l 1000), .fn 86 [.ref (.st [.big x n, .big y m, .big z k])]] (MRes.sat (.ret (.int .i64 (fidx (isF x y z) l 0)))) := by kernel_rfl
theorem idx1_ok (l : List Fm) (z : Int) (k : Nat) (hk : k ≤ 100000) (hl : l.length ≤ 1000000000) : ∃ E : Env Tryz.prog, evFn E Tryz.f70 [.sl 6 l.length (fL l 1000), .fn 71 [.ref (.big z k)]] (MRes.sat (.ret (.int .i64 (fidx (isA z) l 0)))) := by
 refine ⟨env [c_shows1] (a_idx l (.fn 71 [.ref (.big z k)]) (isA z)), ?_⟩
 rw [← vc_idx1 l z k]
 refine ⟨⟨⟨0⟩, ⟨Nat.zero_le _, rfl⟩, ?_⟩, fun i hi => ?_⟩
 ·and_intros <;> first | exact True.intro | rfl | exact .inl (Nat.le_refl _) | exact LeFun.refl
 obtain ⟨i⟩ := i
 obtain ⟨h1, h2⟩ : i ≤ l.length ∧ fidx (isA z) (l.drop i) i = fidx (isA z) l 0 := hi
 dsimp only
 refine condI decide_eq_true_iff (fun q => ?_) (fun q => ?_)
 ·have hlt : i < l.length := by omega
  have hs := fidx_step (isA z) hlt
  rw [h2] at hs
  rw [Int.toNat_natCast]
  refine ⟨by omega, by omega, condI Iff.rfl (fun q2 => ?_) (fun q2 => ?_)⟩
  ·have e : isA z (l.getD i ⟨0, 0, 0⟩) = true := q2
   rw [hs, e, cond_true]
  ·have e : isA z (l.getD i ⟨0, 0, 0⟩) = false := by
    cases hb : isA z (l.getD i ⟨0, 0, 0⟩) with
    | true => exact absurd hb q2
    | false => rfl
   rw [e, cond_false] at hs
   have e5 : IntKind.wrap IntKind.i64 ((i : Int) + 1) = ((i + 1 : Nat) : Int) := by rw [i64w (by omega) (by omega)]; omega
   rw [e5]
   refine ⟨⟨i + 1⟩, ⟨hlt, hs.symm⟩, ?_, by show l.length - (i + 1) < l.length - i; omega⟩
   and_intros <;> first | exact True.intro | rfl | exact .inl (Nat.le_refl _) | exact LeFun.refl
 ·obtain rfl : i = l.length := by omega
  rw [← h2, fidx_end]
theorem idx2_ok (l : List Fm) (x y z : Int) (n m k : Nat) (hx : sm63 ⟨x, y, z⟩) (hg : ∀ g ∈ l, sm63 g) (hl : l.length ≤ 1000000000) : ∃ E : Env Tryz.prog, evFn E Tryz.f70 [.sl 6 l.length (fL l 1000), .fn 86 [.ref (.st [.big x n, .big y m, .big z k])]] (MRes.sat (.ret (.int .i64 (fidx (isF x y z) l 0)))) := by
 refine ⟨env [c_same1] (a_idx l (.fn 86 [.ref (.st [.big x n, .big y m, .big z k])]) (isF x y z)), ?_⟩
 rw [← vc_idx2 l x y z n m k]
 refine ⟨⟨⟨0⟩, ⟨Nat.zero_le _, rfl⟩, ?_⟩, fun i hi => ?_⟩
 ·and_intros <;> first | exact True.intro | rfl | exact .inl (Nat.le_refl _) | exact LeFun.refl
 obtain ⟨i⟩ := i
 obtain ⟨h1, h2⟩ : i ≤ l.length ∧ fidx (isF x y z) (l.drop i) i = fidx (isF x y z) l 0 := hi
 dsimp only
 refine condI decide_eq_true_iff (fun q => ?_) (fun q => ?_)
 ·have hlt : i < l.length := by omega
  have hs := fidx_step (isF x y z) hlt
  rw [h2] at hs
  rw [Int.toNat_natCast]
  have hgi := hg (l.getD i ⟨0, 0, 0⟩) (by simp [hlt])
  refine ⟨by omega, ⟨hgi.A, hgi.B, hgi.C, hx.A, hx.B, hx.C⟩, condI Iff.rfl (fun q2 => ?_) (fun q2 => ?_)⟩
  ·have e : isF x y z (l.getD i ⟨0, 0, 0⟩) = true := q2
   rw [hs, e, cond_true]
  ·have e : isF x y z (l.getD i ⟨0, 0, 0⟩) = false := by
    cases hb : isF x y z (l.getD i ⟨0, 0, 0⟩) with
    | true => exact absurd hb q2
    | false => rfl
   rw [e, cond_false] at hs
   have e5 : IntKind.wrap IntKind.i64 ((i : Int) + 1) = ((i + 1 : Nat) : Int) := by rw [i64w (by omega) (by omega)]; omega
   rw [e5]
   refine ⟨⟨i + 1⟩, ⟨hlt, hs.symm⟩, ?_, by show l.length - (i + 1) < l.length - i; omega⟩
   and_intros <;> first | exact True.intro | rfl | exact .inl (Nat.le_refl _) | exact LeFun.refl
 ·obtain rfl : i = l.length := by omega
  rw [← h2, fidx_end]
def s_idx : FSpec
 | [.sl 6 n f, .fn 71 [.ref (.big z k)]] => some (some ((∀ i, i < n → isFm 1000 (f i)) ∧ n ≤ 1000000000 ∧ k ≤ 100000), .ret (.int .i64 (fidx (isA z) (fvals n f) 0)))
 | [.sl 6 n f, .fn 86 [.ref (.st [.big x _, .big y _, .big z _])]] => some (some ((∀ i, i < n → isFm 1000 (f i)) ∧ n ≤ 1000000000 ∧ (∀ g ∈ fvals n f, sm63 g) ∧ sm63 ⟨x, y, z⟩), .ret (.int .i64 (fidx (isF x y z) (fvals n f) 0)))
 | _ => none
theorem p_idx : ∀ ms p r, s_idx ms = some (p, r) → p.holds → ∃ ms', leV.leVs 0 ms ms' ∧ ∃ E : Env Tryz.prog, evFn E Tryz.f70 ms' r.sat := by
 intro ms p r h hp
 unfold s_idx at h
 split at h
 ·rename_i n f z k
  simp only [Option.some.injEq, Prod.mk.injEq] at h
  obtain ⟨rfl, rfl⟩ := h
  obtain ⟨h1, h2, h3⟩ : (∀ i, i < n → isFm 1000 (f i)) ∧ n ≤ 1000000000 ∧ k ≤ 100000 := hp
  exact ⟨[.sl 6 (fvals n f).length (fL (fvals n f) 1000), .fn 71 [.ref (.big z k)]], ⟨⟨rfl, (fvals_length n f).symm, fvals_le h1⟩, ⟨⟨rfl, .inl (Nat.le_refl _)⟩, True.intro⟩, True.intro⟩, idx1_ok _ z k h3 (by rw [fvals_length]; exact h2)⟩
 ·rename_i n f x a y b z c
  simp only [Option.some.injEq, Prod.mk.injEq] at h
  obtain ⟨rfl, rfl⟩ := h
  obtain ⟨h1, h2, h3, h4⟩ : (∀ i, i < n → isFm 1000 (f i)) ∧ n ≤ 1000000000 ∧ (∀ g ∈ fvals n f, sm63 g) ∧ sm63 ⟨x, y, z⟩ := hp
  exact ⟨[.sl 6 (fvals n f).length (fL (fvals n f) 1000), .fn 86 [.ref (.st [.big x a, .big y b, .big z c])]], ⟨⟨rfl, (fvals_length n f).symm, fvals_le h1⟩, ⟨⟨⟨rfl, .inl (Nat.le_refl _)⟩, ⟨rfl, .inl (Nat.le_refl _)⟩, ⟨rfl, .inl (Nat.le_refl _)⟩, True.intro⟩, True.intro⟩, True.intro⟩, idx2_ok _ x y z a b c h4 h3 (by rw [fvals_length]; exact h2)⟩
 ·simp at h
def c_idx : Ctr Tryz.prog := ⟨70, s_idx, fun args w => Tryz.call70 args w, fn_ok_le mix Tryz.func70 s_idx p_idx⟩
def showI (f : Fm) (z : Int) : Int := fidx (isA z) (cyL f) 0
def showE (f : Fm) (z : Int) : Int := if knE f.disc = 0 then (if showI f z < 0 then 6 else 0) else knE f.disc
def showF (f : Fm) (z : Int) : Fm := if 0 ≤ showI f z then (cyL f).getD (showI f z).toNat ⟨0, 0, 0⟩ else ⟨0, 0, 0⟩
def s_cshows : FSpec
 | [.st [.big a n, .big b m, .big c k], .big z l] => some (some (n ≤ 300 ∧ m ≤ 300 ∧ k ≤ 300 ∧ l ≤ 100000), .ret (.tup [fmv (showF ⟨a, b, c⟩ z) 8, .int .i64 (showE ⟨a, b, c⟩ z)]))
 | _ => none
theorem vc_cshows (a b c z : Int) (n m k l : Nat) : ((n ≤ 300 ∧ m ≤ 300 ∧ k ≤ 300) ∧ bif knE (Fm.disc (Fm.mk a b c)) != 0 then FLe (Fm.mk 0 0 0) (showF (Fm.mk a b c) z) 0 8 ∧ knE (Fm.disc (Fm.mk a b c)) = showE (Fm.mk a b c) z ∧ True else ((∀ (i : Nat), i < List.length (cyL (Fm.mk a b c)) → isFm (1000 : Nat) (fL (cyL (Fm.mk a b c)) (8 : Nat) i)) ∧ List.length (cyL (Fm.mk a b c)) ≤ 1000000000 ∧ l ≤ 100000) ∧ bif decide (fidx (isA z) (fvals (List.length (cyL (Fm.mk a b c))) (fL (cyL (Fm.mk a b c)) (8 : Nat))) (0 : Nat) < 0) then FLe (Fm.mk 0 0 0) (showF (Fm.mk a b c) z) 0 8 ∧ (6 : Int) = showE (Fm.mk a b c) z ∧ True else ((0 : Int) ≤ fidx (isA z) (fvals (List.length (cyL (Fm.mk a b c))) (fL (cyL (Fm.mk a b c)) (8 : Nat))) (0 : Nat) ∧ fidx (isA z) (fvals (List.length (cyL (Fm.mk a b c))) (fL (cyL (Fm.mk a b c)) (8 : Nat))) (0 : Nat) < (↑(List.length (cyL (Fm.mk a b c))) : Int)) ∧ FLe (List.getD (cyL (Fm.mk a b c)) (Int.toNat (fidx (isA z) (fvals (List.length (cyL (Fm.mk a b c))) (fL (cyL (Fm.mk a b c)) (8 : Nat))) (0 : Nat))) (Fm.mk (0 : Int) (0 : Int) (0 : Int))) (showF (Fm.mk a b c) z) 8 8 ∧ (0 : Int) = showE (Fm.mk a b c) z ∧ True) = evFn (env [c_ccycle, c_idx] noAnn) Tryz.f25 [.st [.big a n, .big b m, .big c k], .big z l] (MRes.sat (.ret (.tup [fmv (showF ⟨a, b, c⟩ z) 8, .int .i64 (showE ⟨a, b, c⟩ z)]))) := by kernel_rfl
theorem p_cshows : Good Tryz.f25 s_cshows := by
 intro ms p r h hp
 unfold s_cshows at h
 split at h
 ·rename_i a n b m c k z l
  simp only [Option.some.injEq, Prod.mk.injEq] at h
  obtain ⟨rfl, rfl⟩ := h
  obtain ⟨h1, h2, h3, h4⟩ : n ≤ 300 ∧ m ≤ 300 ∧ k ≤ 300 ∧ l ≤ 100000 := hp
  refine ⟨env [c_ccycle, c_idx] noAnn, ?_⟩
  rw [← vc_cshows a b c z n m k l]
  have z0 : (0 : Nat) ≤ 8 := by omega
  refine ⟨by omega, condI bne_iff_ne (fun q => ?_) (fun q => ?_)⟩
  ·have e : cyL ⟨a, b, c⟩ = [] := if_neg q
   have e1 : showI ⟨a, b, c⟩ z = -1 := by unfold showI; rw [e]; rfl
   have e2 : showF ⟨a, b, c⟩ z = ⟨0, 0, 0⟩ := if_neg (by omega)
   have e3 : showE ⟨a, b, c⟩ z = knE (Fm.disc ⟨a, b, c⟩) := if_neg q
   rw [e2, e3]
   exact ⟨⟨⟨rfl, .inl z0⟩, ⟨rfl, .inl z0⟩, ⟨rfl, .inl z0⟩, True.intro⟩, rfl, True.intro⟩
  ·have q := Decidable.not_not.1 q
   have hl := cyL_le ⟨a, b, c⟩
   have e3 : showE ⟨a, b, c⟩ z = if showI ⟨a, b, c⟩ z < 0 then 6 else 0 := if_pos q
   have e0 : fidx (isA z) (cyL ⟨a, b, c⟩) 0 = showI ⟨a, b, c⟩ z := rfl
   rw [fvals_fL, e0, e3]
   refine ⟨⟨fun i _ => isFm_fmv _ (by omega), by omega, by omega⟩, condI decide_eq_true_iff (fun q2 => ?_) (fun q2 => ?_)⟩
   ·have e2 : showF ⟨a, b, c⟩ z = ⟨0, 0, 0⟩ := if_neg (by omega)
    rw [e2, if_pos q2]
    exact ⟨⟨⟨rfl, .inl z0⟩, ⟨rfl, .inl z0⟩, ⟨rfl, .inl z0⟩, True.intro⟩, rfl, True.intro⟩
   ·have e2 : showF ⟨a, b, c⟩ z = (cyL ⟨a, b, c⟩).getD (showI ⟨a, b, c⟩ z).toNat ⟨0, 0, 0⟩ := if_pos (by omega)
    rw [e2, if_neg q2]
    have hr : showI ⟨a, b, c⟩ z < (cyL ⟨a, b, c⟩).length := by
     rcases fidx_range (isA z) (cyL ⟨a, b, c⟩) 0 with ⟨h1, _⟩|⟨j, h1, h2, _⟩ <;> rw [e0] at * <;> omega
    exact ⟨⟨by omega, hr⟩, ⟨⟨rfl, .inl (Nat.le_refl _)⟩, ⟨rfl, .inl (Nat.le_refl _)⟩, ⟨rfl, .inl (Nat.le_refl _)⟩, True.intro⟩, rfl, True.intro⟩
 ·simp at h
def c_cshows : Ctr Tryz.prog := ⟨25, s_cshows, fun args w => Tryz.call25 args w, fn_ok mix Tryz.func25 s_cshows p_cshows⟩
def sameI (f g : Fm) : Int := fidx (isF (redR g).A (redR g).B (redR g).C) (cyL f) 0
def sameB (f g : Fm) : Bool := decide (knE f.disc = 0 ∧ knE g.disc = 0 ∧ 0 ≤ sameI f g ∧ f.disc = g.disc)
def sameM (f g : Fm) : Mx := if sameB f g = true then ((redRM f).mul (walkR (knS (redR f).disc) (sameI f g).toNat (redR f))).mul (redRM g).inv else ⟨0, 0, 0, 0⟩
def widS (f : Fm) (V W : Nat) : Nat := widM V + widP (redR f) + widM W + 2
def s_csame : FSpec
 | [.st [.big a n, .big b m, .big c k], .st [.big x l, .big y r, .big z u]] => some (some (n ≤ 300 ∧ m ≤ 300 ∧ k ≤ 300 ∧ l ≤ 300 ∧ r ≤ 300 ∧ u ≤ 300), .ret (.tup [mmv (sameM ⟨a, b, c⟩ ⟨x, y, z⟩) (widS ⟨a, b, c⟩ (wid n m k) (wid l r u)), .bool (sameB ⟨a, b, c⟩ ⟨x, y, z⟩)]))
 | _ => none
theorem vc_csame (a b c x y z : Int) (n m k l r u : Nat) : ((n ≤ 300 ∧ m ≤ 300 ∧ k ≤ 300) ∧ (l ≤ 300 ∧ r ≤ 300 ∧ u ≤ 300) ∧ bif knE (Fm.disc (Fm.mk a b c)) != 0 then MLe (Mx.mk 0 0 0 0) (sameM (Fm.mk a b c) (Fm.mk x y z)) 0 (widS (Fm.mk a b c) (wid n m k) (wid l r u)) ∧ false = sameB (Fm.mk a b c) (Fm.mk x y z) ∧ True else bif knE (Fm.disc (Fm.mk x y z)) != 0 then MLe (Mx.mk 0 0 0 0) (sameM (Fm.mk a b c) (Fm.mk x y z)) 0 (widS (Fm.mk a b c) (wid n m k) (wid l r u)) ∧ false = sameB (Fm.mk a b c) (Fm.mk x y z) ∧ True else (redQ (redR (Fm.mk a b c)) = true ∧ wid n m k ≤ 10000 ∧ wid n m k ≤ 10000 ∧ wid n m k ≤ 10000) ∧ ((∀ (i : Nat), i < perOf (redR (Fm.mk a b c)) → isFm (1000 : Nat) (fmv (rhoN (knS (Fm.disc (redR (Fm.mk a b c)))) i (redR (Fm.mk a b c))) (8 : Nat))) ∧ perOf (redR (Fm.mk a b c)) ≤ 1000000000 ∧ (∀ (g : Fm), (g ∈ fvals (perOf (redR (Fm.mk a b c))) fun j => fmv (rhoN (knS (Fm.disc (redR (Fm.mk a b c)))) j (redR (Fm.mk a b c))) (8 : Nat)) → sm63 g) ∧ sm63 (redR (Fm.mk x y z))) ∧ bif decide (fidx (isF (Fm.A (redR (Fm.mk x y z))) (Fm.B (redR (Fm.mk x y z))) (Fm.C (redR (Fm.mk x y z)))) (fvals (perOf (redR (Fm.mk a b c))) fun j => fmv (rhoN (knS (Fm.disc (redR (Fm.mk a b c)))) j (redR (Fm.mk a b c))) (8 : Nat)) (0 : Nat) < 0) then MLe (Mx.mk 0 0 0 0) (sameM (Fm.mk a b c) (Fm.mk x y z)) 0 (widS (Fm.mk a b c) (wid n m k) (wid l r u)) ∧ false = sameB (Fm.mk a b c) (Fm.mk x y z) ∧ True else (n ≤ 100000 ∧ m ≤ 100000 ∧ k ≤ 100000) ∧ (l ≤ 100000 ∧ r ≤ 100000 ∧ u ≤ 100000) ∧ ((2 : Nat) * max3 n m k + 66 ≤ 1000000 ∧ (2 : Nat) * max3 l r u + 66 ≤ 1000000) ∧ bif icmp (Fm.disc (Fm.mk a b c)) (Fm.disc (Fm.mk x y z)) != 0 then MLe (Mx.mk 0 0 0 0) (sameM (Fm.mk a b c) (Fm.mk x y z)) 0 (widS (Fm.mk a b c) (wid n m k) (wid l r u)) ∧ false = sameB (Fm.mk a b c) (Fm.mk x y z) ∧ True else widM (wid l r u) ≤ 1000000 ∧ widM (wid l r u) ≤ 1000000 ∧ ((0 : Int) ≤ fidx (isF (Fm.A (redR (Fm.mk x y z))) (Fm.B (redR (Fm.mk x y z))) (Fm.C (redR (Fm.mk x y z)))) (fvals (perOf (redR (Fm.mk a b c))) fun j => fmv (rhoN (knS (Fm.disc (redR (Fm.mk a b c)))) j (redR (Fm.mk a b c))) (8 : Nat)) (0 : Nat) ∧ fidx (isF (Fm.A (redR (Fm.mk x y z))) (Fm.B (redR (Fm.mk x y z))) (Fm.C (redR (Fm.mk x y z)))) (fvals (perOf (redR (Fm.mk a b c))) fun j => fmv (rhoN (knS (Fm.disc (redR (Fm.mk a b c)))) j (redR (Fm.mk a b c))) (8 : Nat)) (0 : Nat) < (↑(perOf (redR (Fm.mk a b c))) : Int)) ∧ max4 (widM (wid n m k)) (widM (wid n m k)) (widM (wid n m k)) (widM (wid n m k)) + max4 (widP (redR (Fm.mk a b c))) (widP (redR (Fm.mk a b c))) (widP (redR (Fm.mk a b c))) (widP (redR (Fm.mk a b c))) ≤ 900000 ∧ max4 (max4 (widM (wid n m k)) (widM (wid n m k)) (widM (wid n m k)) (widM (wid n m k)) + max4 (widP (redR (Fm.mk a b c))) (widP (redR (Fm.mk a b c))) (widP (redR (Fm.mk a b c))) (widP (redR (Fm.mk a b c))) + 1) (max4 (widM (wid n m k)) (widM (wid n m k)) (widM (wid n m k)) (widM (wid n m k)) + max4 (widP (redR (Fm.mk a b c))) (widP (redR (Fm.mk a b c))) (widP (redR (Fm.mk a b c))) (widP (redR (Fm.mk a b c))) + 1) (max4 (widM (wid n m k)) (widM (wid n m k)) (widM (wid n m k)) (widM (wid n m k)) + max4 (widP (redR (Fm.mk a b c))) (widP (redR (Fm.mk a b c))) (widP (redR (Fm.mk a b c))) (widP (redR (Fm.mk a b c))) + 1) (max4 (widM (wid n m k)) (widM (wid n m k)) (widM (wid n m k)) (widM (wid n m k)) + max4 (widP (redR (Fm.mk a b c))) (widP (redR (Fm.mk a b c))) (widP (redR (Fm.mk a b c))) (widP (redR (Fm.mk a b c))) + 1) + max4 (widM (wid l r u)) (widM (wid l r u)) (widM (wid l r u)) (widM (wid l r u)) ≤ 900000 ∧ (((Mx.a (redRM (Fm.mk a b c)) * Mx.a (walkR (knS (Fm.disc (redR (Fm.mk a b c)))) (Int.toNat (fidx (isF (Fm.A (redR (Fm.mk x y z))) (Fm.B (redR (Fm.mk x y z))) (Fm.C (redR (Fm.mk x y z)))) (fvals (perOf (redR (Fm.mk a b c))) fun j => fmv (rhoN (knS (Fm.disc (redR (Fm.mk a b c)))) j (redR (Fm.mk a b c))) (8 : Nat)) (0 : Nat))) (redR (Fm.mk a b c))) + Mx.b (redRM (Fm.mk a b c)) * Mx.c (walkR (knS (Fm.disc (redR (Fm.mk a b c)))) (Int.toNat (fidx (isF (Fm.A (redR (Fm.mk x y z))) (Fm.B (redR (Fm.mk x y z))) (Fm.C (redR (Fm.mk x y z)))) (fvals (perOf (redR (Fm.mk a b c))) fun j => fmv (rhoN (knS (Fm.disc (redR (Fm.mk a b c)))) j (redR (Fm.mk a b c))) (8 : Nat)) (0 : Nat))) (redR (Fm.mk a b c)))) * Mx.d (redRM (Fm.mk x y z)) + (Mx.a (redRM (Fm.mk a b c)) * Mx.b (walkR (knS (Fm.disc (redR (Fm.mk a b c)))) (Int.toNat (fidx (isF (Fm.A (redR (Fm.mk x y z))) (Fm.B (redR (Fm.mk x y z))) (Fm.C (redR (Fm.mk x y z)))) (fvals (perOf (redR (Fm.mk a b c))) fun j => fmv (rhoN (knS (Fm.disc (redR (Fm.mk a b c)))) j (redR (Fm.mk a b c))) (8 : Nat)) (0 : Nat))) (redR (Fm.mk a b c))) + Mx.b (redRM (Fm.mk a b c)) * Mx.d (walkR (knS (Fm.disc (redR (Fm.mk a b c)))) (Int.toNat (fidx (isF (Fm.A (redR (Fm.mk x y z))) (Fm.B (redR (Fm.mk x y z))) (Fm.C (redR (Fm.mk x y z)))) (fvals (perOf (redR (Fm.mk a b c))) fun j => fmv (rhoN (knS (Fm.disc (redR (Fm.mk a b c)))) j (redR (Fm.mk a b c))) (8 : Nat)) (0 : Nat))) (redR (Fm.mk a b c)))) * -Mx.c (redRM (Fm.mk x y z)) = Mx.a (sameM (Fm.mk a b c) (Fm.mk x y z)) ∧ (max4 (max4 (widM (wid n m k)) (widM (wid n m k)) (widM (wid n m k)) (widM (wid n m k)) + max4 (widP (redR (Fm.mk a b c))) (widP (redR (Fm.mk a b c))) (widP (redR (Fm.mk a b c))) (widP (redR (Fm.mk a b c))) + 1) (max4 (widM (wid n m k)) (widM (wid n m k)) (widM (wid n m k)) (widM (wid n m k)) + max4 (widP (redR (Fm.mk a b c))) (widP (redR (Fm.mk a b c))) (widP (redR (Fm.mk a b c))) (widP (redR (Fm.mk a b c))) + 1) (max4 (widM (wid n m k)) (widM (wid n m k)) (widM (wid n m k)) (widM (wid n m k)) + max4 (widP (redR (Fm.mk a b c))) (widP (redR (Fm.mk a b c))) (widP (redR (Fm.mk a b c))) (widP (redR (Fm.mk a b c))) + 1) (max4 (widM (wid n m k)) (widM (wid n m k)) (widM (wid n m k)) (widM (wid n m k)) + max4 (widP (redR (Fm.mk a b c))) (widP (redR (Fm.mk a b c))) (widP (redR (Fm.mk a b c))) (widP (redR (Fm.mk a b c))) + 1) + max4 (widM (wid l r u)) (widM (wid l r u)) (widM (wid l r u)) (widM (wid l r u)) + 1 ≤ widS (Fm.mk a b c) (wid n m k) (wid l r u) ∨ Int.natAbs ((Mx.a (redRM (Fm.mk a b c)) * Mx.a (walkR (knS (Fm.disc (redR (Fm.mk a b c)))) (Int.toNat (fidx (isF (Fm.A (redR (Fm.mk x y z))) (Fm.B (redR (Fm.mk x y z))) (Fm.C (redR (Fm.mk x y z)))) (fvals (perOf (redR (Fm.mk a b c))) fun j => fmv (rhoN (knS (Fm.disc (redR (Fm.mk a b c)))) j (redR (Fm.mk a b c))) (8 : Nat)) (0 : Nat))) (redR (Fm.mk a b c))) + Mx.b (redRM (Fm.mk a b c)) * Mx.c (walkR (knS (Fm.disc (redR (Fm.mk a b c)))) (Int.toNat (fidx (isF (Fm.A (redR (Fm.mk x y z))) (Fm.B (redR (Fm.mk x y z))) (Fm.C (redR (Fm.mk x y z)))) (fvals (perOf (redR (Fm.mk a b c))) fun j => fmv (rhoN (knS (Fm.disc (redR (Fm.mk a b c)))) j (redR (Fm.mk a b c))) (8 : Nat)) (0 : Nat))) (redR (Fm.mk a b c)))) * Mx.d (redRM (Fm.mk x y z)) + (Mx.a (redRM (Fm.mk a b c)) * Mx.b (walkR (knS (Fm.disc (redR (Fm.mk a b c)))) (Int.toNat (fidx (isF (Fm.A (redR (Fm.mk x y z))) (Fm.B (redR (Fm.mk x y z))) (Fm.C (redR (Fm.mk x y z)))) (fvals (perOf (redR (Fm.mk a b c))) fun j => fmv (rhoN (knS (Fm.disc (redR (Fm.mk a b c)))) j (redR (Fm.mk a b c))) (8 : Nat)) (0 : Nat))) (redR (Fm.mk a b c))) + Mx.b (redRM (Fm.mk a b c)) * Mx.d (walkR (knS (Fm.disc (redR (Fm.mk a b c)))) (Int.toNat (fidx (isF (Fm.A (redR (Fm.mk x y z))) (Fm.B (redR (Fm.mk x y z))) (Fm.C (redR (Fm.mk x y z)))) (fvals (perOf (redR (Fm.mk a b c))) fun j => fmv (rhoN (knS (Fm.disc (redR (Fm.mk a b c)))) j (redR (Fm.mk a b c))) (8 : Nat)) (0 : Nat))) (redR (Fm.mk a b c)))) * -Mx.c (redRM (Fm.mk x y z))) < 2 ^ widS (Fm.mk a b c) (wid n m k) (wid l r u))) ∧ ((Mx.a (redRM (Fm.mk a b c)) * Mx.a (walkR (knS (Fm.disc (redR (Fm.mk a b c)))) (Int.toNat (fidx (isF (Fm.A (redR (Fm.mk x y z))) (Fm.B (redR (Fm.mk x y z))) (Fm.C (redR (Fm.mk x y z)))) (fvals (perOf (redR (Fm.mk a b c))) fun j => fmv (rhoN (knS (Fm.disc (redR (Fm.mk a b c)))) j (redR (Fm.mk a b c))) (8 : Nat)) (0 : Nat))) (redR (Fm.mk a b c))) + Mx.b (redRM (Fm.mk a b c)) * Mx.c (walkR (knS (Fm.disc (redR (Fm.mk a b c)))) (Int.toNat (fidx (isF (Fm.A (redR (Fm.mk x y z))) (Fm.B (redR (Fm.mk x y z))) (Fm.C (redR (Fm.mk x y z)))) (fvals (perOf (redR (Fm.mk a b c))) fun j => fmv (rhoN (knS (Fm.disc (redR (Fm.mk a b c)))) j (redR (Fm.mk a b c))) (8 : Nat)) (0 : Nat))) (redR (Fm.mk a b c)))) * -Mx.b (redRM (Fm.mk x y z)) + (Mx.a (redRM (Fm.mk a b c)) * Mx.b (walkR (knS (Fm.disc (redR (Fm.mk a b c)))) (Int.toNat (fidx (isF (Fm.A (redR (Fm.mk x y z))) (Fm.B (redR (Fm.mk x y z))) (Fm.C (redR (Fm.mk x y z)))) (fvals (perOf (redR (Fm.mk a b c))) fun j => fmv (rhoN (knS (Fm.disc (redR (Fm.mk a b c)))) j (redR (Fm.mk a b c))) (8 : Nat)) (0 : Nat))) (redR (Fm.mk a b c))) + Mx.b (redRM (Fm.mk a b c)) * Mx.d (walkR (knS (Fm.disc (redR (Fm.mk a b c)))) (Int.toNat (fidx (isF (Fm.A (redR (Fm.mk x y z))) (Fm.B (redR (Fm.mk x y z))) (Fm.C (redR (Fm.mk x y z)))) (fvals (perOf (redR (Fm.mk a b c))) fun j => fmv (rhoN (knS (Fm.disc (redR (Fm.mk a b c)))) j (redR (Fm.mk a b c))) (8 : Nat)) (0 : Nat))) (redR (Fm.mk a b c)))) * Mx.a (redRM (Fm.mk x y z)) = Mx.b (sameM (Fm.mk a b c) (Fm.mk x y z)) ∧ (max4 (max4 (widM (wid n m k)) (widM (wid n m k)) (widM (wid n m k)) (widM (wid n m k)) + max4 (widP (redR (Fm.mk a b c))) (widP (redR (Fm.mk a b c))) (widP (redR (Fm.mk a b c))) (widP (redR (Fm.mk a b c))) + 1) (max4 (widM (wid n m k)) (widM (wid n m k)) (widM (wid n m k)) (widM (wid n m k)) + max4 (widP (redR (Fm.mk a b c))) (widP (redR (Fm.mk a b c))) (widP (redR (Fm.mk a b c))) (widP (redR (Fm.mk a b c))) + 1) (max4 (widM (wid n m k)) (widM (wid n m k)) (widM (wid n m k)) (widM (wid n m k)) + max4 (widP (redR (Fm.mk a b c))) (widP (redR (Fm.mk a b c))) (widP (redR (Fm.mk a b c))) (widP (redR (Fm.mk a b c))) + 1) (max4 (widM (wid n m k)) (widM (wid n m k)) (widM (wid n m k)) (widM (wid n m k)) + max4 (widP (redR (Fm.mk a b c))) (widP (redR (Fm.mk a b c))) (widP (redR (Fm.mk a b c))) (widP (redR (Fm.mk a b c))) + 1) + max4 (widM (wid l r u)) (widM (wid l r u)) (widM (wid l r u)) (widM (wid l r u)) + 1 ≤ widS (Fm.mk a b c) (wid n m k) (wid l r u) ∨ Int.natAbs ((Mx.a (redRM (Fm.mk a b c)) * Mx.a (walkR (knS (Fm.disc (redR (Fm.mk a b c)))) (Int.toNat (fidx (isF (Fm.A (redR (Fm.mk x y z))) (Fm.B (redR (Fm.mk x y z))) (Fm.C (redR (Fm.mk x y z)))) (fvals (perOf (redR (Fm.mk a b c))) fun j => fmv (rhoN (knS (Fm.disc (redR (Fm.mk a b c)))) j (redR (Fm.mk a b c))) (8 : Nat)) (0 : Nat))) (redR (Fm.mk a b c))) + Mx.b (redRM (Fm.mk a b c)) * Mx.c (walkR (knS (Fm.disc (redR (Fm.mk a b c)))) (Int.toNat (fidx (isF (Fm.A (redR (Fm.mk x y z))) (Fm.B (redR (Fm.mk x y z))) (Fm.C (redR (Fm.mk x y z)))) (fvals (perOf (redR (Fm.mk a b c))) fun j => fmv (rhoN (knS (Fm.disc (redR (Fm.mk a b c)))) j (redR (Fm.mk a b c))) (8 : Nat)) (0 : Nat))) (redR (Fm.mk a b c)))) * -Mx.b (redRM (Fm.mk x y z)) + (Mx.a (redRM (Fm.mk a b c)) * Mx.b (walkR (knS (Fm.disc (redR (Fm.mk a b c)))) (Int.toNat (fidx (isF (Fm.A (redR (Fm.mk x y z))) (Fm.B (redR (Fm.mk x y z))) (Fm.C (redR (Fm.mk x y z)))) (fvals (perOf (redR (Fm.mk a b c))) fun j => fmv (rhoN (knS (Fm.disc (redR (Fm.mk a b c)))) j (redR (Fm.mk a b c))) (8 : Nat)) (0 : Nat))) (redR (Fm.mk a b c))) + Mx.b (redRM (Fm.mk a b c)) * Mx.d (walkR (knS (Fm.disc (redR (Fm.mk a b c)))) (Int.toNat (fidx (isF (Fm.A (redR (Fm.mk x y z))) (Fm.B (redR (Fm.mk x y z))) (Fm.C (redR (Fm.mk x y z)))) (fvals (perOf (redR (Fm.mk a b c))) fun j => fmv (rhoN (knS (Fm.disc (redR (Fm.mk a b c)))) j (redR (Fm.mk a b c))) (8 : Nat)) (0 : Nat))) (redR (Fm.mk a b c)))) * Mx.a (redRM (Fm.mk x y z))) < 2 ^ widS (Fm.mk a b c) (wid n m k) (wid l r u))) ∧ ((Mx.c (redRM (Fm.mk a b c)) * Mx.a (walkR (knS (Fm.disc (redR (Fm.mk a b c)))) (Int.toNat (fidx (isF (Fm.A (redR (Fm.mk x y z))) (Fm.B (redR (Fm.mk x y z))) (Fm.C (redR (Fm.mk x y z)))) (fvals (perOf (redR (Fm.mk a b c))) fun j => fmv (rhoN (knS (Fm.disc (redR (Fm.mk a b c)))) j (redR (Fm.mk a b c))) (8 : Nat)) (0 : Nat))) (redR (Fm.mk a b c))) + Mx.d (redRM (Fm.mk a b c)) * Mx.c (walkR (knS (Fm.disc (redR (Fm.mk a b c)))) (Int.toNat (fidx (isF (Fm.A (redR (Fm.mk x y z))) (Fm.B (redR (Fm.mk x y z))) (Fm.C (redR (Fm.mk x y z)))) (fvals (perOf (redR (Fm.mk a b c))) fun j => fmv (rhoN (knS (Fm.disc (redR (Fm.mk a b c)))) j (redR (Fm.mk a b c))) (8 : Nat)) (0 : Nat))) (redR (Fm.mk a b c)))) * Mx.d (redRM (Fm.mk x y z)) + (Mx.c (redRM (Fm.mk a b c)) * Mx.b (walkR (knS (Fm.disc (redR (Fm.mk a b c)))) (Int.toNat (fidx (isF (Fm.A (redR (Fm.mk x y z))) (Fm.B (redR (Fm.mk x y z))) (Fm.C (redR (Fm.mk x y z)))) (fvals (perOf (redR (Fm.mk a b c))) fun j => fmv (rhoN (knS (Fm.disc (redR (Fm.mk a b c)))) j (redR (Fm.mk a b c))) (8 : Nat)) (0 : Nat))) (redR (Fm.mk a b c))) + Mx.d (redRM (Fm.mk a b c)) * Mx.d (walkR (knS (Fm.disc (redR (Fm.mk a b c)))) (Int.toNat (fidx (isF (Fm.A (redR (Fm.mk x y z))) (Fm.B (redR (Fm.mk x y z))) (Fm.C (redR (Fm.mk x y z)))) (fvals (perOf (redR (Fm.mk a b c))) fun j => fmv (rhoN (knS (Fm.disc (redR (Fm.mk a b c)))) j (redR (Fm.mk a b c))) (8 : Nat)) (0 : Nat))) (redR (Fm.mk a b c)))) * -Mx.c (redRM (Fm.mk x y z)) = Mx.c (sameM (Fm.mk a b c) (Fm.mk x y z)) ∧ (max4 (max4 (widM (wid n m k)) (widM (wid n m k)) (widM (wid n m k)) (widM (wid n m k)) + max4 (widP (redR (Fm.mk a b c))) (widP (redR (Fm.mk a b c))) (widP (redR (Fm.mk a b c))) (widP (redR (Fm.mk a b c))) + 1) (max4 (widM (wid n m k)) (widM (wid n m k)) (widM (wid n m k)) (widM (wid n m k)) + max4 (widP (redR (Fm.mk a b c))) (widP (redR (Fm.mk a b c))) (widP (redR (Fm.mk a b c))) (widP (redR (Fm.mk a b c))) + 1) (max4 (widM (wid n m k)) (widM (wid n m k)) (widM (wid n m k)) (widM (wid n m k)) + max4 (widP (redR (Fm.mk a b c))) (widP (redR (Fm.mk a b c))) (widP (redR (Fm.mk a b c))) (widP (redR (Fm.mk a b c))) + 1) (max4 (widM (wid n m k)) (widM (wid n m k)) (widM (wid n m k)) (widM (wid n m k)) + max4 (widP (redR (Fm.mk a b c))) (widP (redR (Fm.mk a b c))) (widP (redR (Fm.mk a b c))) (widP (redR (Fm.mk a b c))) + 1) + max4 (widM (wid l r u)) (widM (wid l r u)) (widM (wid l r u)) (widM (wid l r u)) + 1 ≤ widS (Fm.mk a b c) (wid n m k) (wid l r u) ∨ Int.natAbs ((Mx.c (redRM (Fm.mk a b c)) * Mx.a (walkR (knS (Fm.disc (redR (Fm.mk a b c)))) (Int.toNat (fidx (isF (Fm.A (redR (Fm.mk x y z))) (Fm.B (redR (Fm.mk x y z))) (Fm.C (redR (Fm.mk x y z)))) (fvals (perOf (redR (Fm.mk a b c))) fun j => fmv (rhoN (knS (Fm.disc (redR (Fm.mk a b c)))) j (redR (Fm.mk a b c))) (8 : Nat)) (0 : Nat))) (redR (Fm.mk a b c))) + Mx.d (redRM (Fm.mk a b c)) * Mx.c (walkR (knS (Fm.disc (redR (Fm.mk a b c)))) (Int.toNat (fidx (isF (Fm.A (redR (Fm.mk x y z))) (Fm.B (redR (Fm.mk x y z))) (Fm.C (redR (Fm.mk x y z)))) (fvals (perOf (redR (Fm.mk a b c))) fun j => fmv (rhoN (knS (Fm.disc (redR (Fm.mk a b c)))) j (redR (Fm.mk a b c))) (8 : Nat)) (0 : Nat))) (redR (Fm.mk a b c)))) * Mx.d (redRM (Fm.mk x y z)) + (Mx.c (redRM (Fm.mk a b c)) * Mx.b (walkR (knS (Fm.disc (redR (Fm.mk a b c)))) (Int.toNat (fidx (isF (Fm.A (redR (Fm.mk x y z))) (Fm.B (redR (Fm.mk x y z))) (Fm.C (redR (Fm.mk x y z)))) (fvals (perOf (redR (Fm.mk a b c))) fun j => fmv (rhoN (knS (Fm.disc (redR (Fm.mk a b c)))) j (redR (Fm.mk a b c))) (8 : Nat)) (0 : Nat))) (redR (Fm.mk a b c))) + Mx.d (redRM (Fm.mk a b c)) * Mx.d (walkR (knS (Fm.disc (redR (Fm.mk a b c)))) (Int.toNat (fidx (isF (Fm.A (redR (Fm.mk x y z))) (Fm.B (redR (Fm.mk x y z))) (Fm.C (redR (Fm.mk x y z)))) (fvals (perOf (redR (Fm.mk a b c))) fun j => fmv (rhoN (knS (Fm.disc (redR (Fm.mk a b c)))) j (redR (Fm.mk a b c))) (8 : Nat)) (0 : Nat))) (redR (Fm.mk a b c)))) * -Mx.c (redRM (Fm.mk x y z))) < 2 ^ widS (Fm.mk a b c) (wid n m k) (wid l r u))) ∧ ((Mx.c (redRM (Fm.mk a b c)) * Mx.a (walkR (knS (Fm.disc (redR (Fm.mk a b c)))) (Int.toNat (fidx (isF (Fm.A (redR (Fm.mk x y z))) (Fm.B (redR (Fm.mk x y z))) (Fm.C (redR (Fm.mk x y z)))) (fvals (perOf (redR (Fm.mk a b c))) fun j => fmv (rhoN (knS (Fm.disc (redR (Fm.mk a b c)))) j (redR (Fm.mk a b c))) (8 : Nat)) (0 : Nat))) (redR (Fm.mk a b c))) + Mx.d (redRM (Fm.mk a b c)) * Mx.c (walkR (knS (Fm.disc (redR (Fm.mk a b c)))) (Int.toNat (fidx (isF (Fm.A (redR (Fm.mk x y z))) (Fm.B (redR (Fm.mk x y z))) (Fm.C (redR (Fm.mk x y z)))) (fvals (perOf (redR (Fm.mk a b c))) fun j => fmv (rhoN (knS (Fm.disc (redR (Fm.mk a b c)))) j (redR (Fm.mk a b c))) (8 : Nat)) (0 : Nat))) (redR (Fm.mk a b c)))) * -Mx.b (redRM (Fm.mk x y z)) + (Mx.c (redRM (Fm.mk a b c)) * Mx.b (walkR (knS (Fm.disc (redR (Fm.mk a b c)))) (Int.toNat (fidx (isF (Fm.A (redR (Fm.mk x y z))) (Fm.B (redR (Fm.mk x y z))) (Fm.C (redR (Fm.mk x y z)))) (fvals (perOf (redR (Fm.mk a b c))) fun j => fmv (rhoN (knS (Fm.disc (redR (Fm.mk a b c)))) j (redR (Fm.mk a b c))) (8 : Nat)) (0 : Nat))) (redR (Fm.mk a b c))) + Mx.d (redRM (Fm.mk a b c)) * Mx.d (walkR (knS (Fm.disc (redR (Fm.mk a b c)))) (Int.toNat (fidx (isF (Fm.A (redR (Fm.mk x y z))) (Fm.B (redR (Fm.mk x y z))) (Fm.C (redR (Fm.mk x y z)))) (fvals (perOf (redR (Fm.mk a b c))) fun j => fmv (rhoN (knS (Fm.disc (redR (Fm.mk a b c)))) j (redR (Fm.mk a b c))) (8 : Nat)) (0 : Nat))) (redR (Fm.mk a b c)))) * Mx.a (redRM (Fm.mk x y z)) = Mx.d (sameM (Fm.mk a b c) (Fm.mk x y z)) ∧ (max4 (max4 (widM (wid n m k)) (widM (wid n m k)) (widM (wid n m k)) (widM (wid n m k)) + max4 (widP (redR (Fm.mk a b c))) (widP (redR (Fm.mk a b c))) (widP (redR (Fm.mk a b c))) (widP (redR (Fm.mk a b c))) + 1) (max4 (widM (wid n m k)) (widM (wid n m k)) (widM (wid n m k)) (widM (wid n m k)) + max4 (widP (redR (Fm.mk a b c))) (widP (redR (Fm.mk a b c))) (widP (redR (Fm.mk a b c))) (widP (redR (Fm.mk a b c))) + 1) (max4 (widM (wid n m k)) (widM (wid n m k)) (widM (wid n m k)) (widM (wid n m k)) + max4 (widP (redR (Fm.mk a b c))) (widP (redR (Fm.mk a b c))) (widP (redR (Fm.mk a b c))) (widP (redR (Fm.mk a b c))) + 1) (max4 (widM (wid n m k)) (widM (wid n m k)) (widM (wid n m k)) (widM (wid n m k)) + max4 (widP (redR (Fm.mk a b c))) (widP (redR (Fm.mk a b c))) (widP (redR (Fm.mk a b c))) (widP (redR (Fm.mk a b c))) + 1) + max4 (widM (wid l r u)) (widM (wid l r u)) (widM (wid l r u)) (widM (wid l r u)) + 1 ≤ widS (Fm.mk a b c) (wid n m k) (wid l r u) ∨ Int.natAbs ((Mx.c (redRM (Fm.mk a b c)) * Mx.a (walkR (knS (Fm.disc (redR (Fm.mk a b c)))) (Int.toNat (fidx (isF (Fm.A (redR (Fm.mk x y z))) (Fm.B (redR (Fm.mk x y z))) (Fm.C (redR (Fm.mk x y z)))) (fvals (perOf (redR (Fm.mk a b c))) fun j => fmv (rhoN (knS (Fm.disc (redR (Fm.mk a b c)))) j (redR (Fm.mk a b c))) (8 : Nat)) (0 : Nat))) (redR (Fm.mk a b c))) + Mx.d (redRM (Fm.mk a b c)) * Mx.c (walkR (knS (Fm.disc (redR (Fm.mk a b c)))) (Int.toNat (fidx (isF (Fm.A (redR (Fm.mk x y z))) (Fm.B (redR (Fm.mk x y z))) (Fm.C (redR (Fm.mk x y z)))) (fvals (perOf (redR (Fm.mk a b c))) fun j => fmv (rhoN (knS (Fm.disc (redR (Fm.mk a b c)))) j (redR (Fm.mk a b c))) (8 : Nat)) (0 : Nat))) (redR (Fm.mk a b c)))) * -Mx.b (redRM (Fm.mk x y z)) + (Mx.c (redRM (Fm.mk a b c)) * Mx.b (walkR (knS (Fm.disc (redR (Fm.mk a b c)))) (Int.toNat (fidx (isF (Fm.A (redR (Fm.mk x y z))) (Fm.B (redR (Fm.mk x y z))) (Fm.C (redR (Fm.mk x y z)))) (fvals (perOf (redR (Fm.mk a b c))) fun j => fmv (rhoN (knS (Fm.disc (redR (Fm.mk a b c)))) j (redR (Fm.mk a b c))) (8 : Nat)) (0 : Nat))) (redR (Fm.mk a b c))) + Mx.d (redRM (Fm.mk a b c)) * Mx.d (walkR (knS (Fm.disc (redR (Fm.mk a b c)))) (Int.toNat (fidx (isF (Fm.A (redR (Fm.mk x y z))) (Fm.B (redR (Fm.mk x y z))) (Fm.C (redR (Fm.mk x y z)))) (fvals (perOf (redR (Fm.mk a b c))) fun j => fmv (rhoN (knS (Fm.disc (redR (Fm.mk a b c)))) j (redR (Fm.mk a b c))) (8 : Nat)) (0 : Nat))) (redR (Fm.mk a b c)))) * Mx.a (redRM (Fm.mk x y z))) < 2 ^ widS (Fm.mk a b c) (wid n m k) (wid l r u))) ∧ True) ∧ true = sameB (Fm.mk a b c) (Fm.mk x y z) ∧ True) = evFn (env [c_creduce, c_around, c_idx, c_icmp, c_qdisc, c_neg, c_qtimes] noAnn) Tryz.f42 [.st [.big a n, .big b m, .big c k], .st [.big x l, .big y r, .big z u]] (MRes.sat (.ret (.tup [mmv (sameM ⟨a, b, c⟩ ⟨x, y, z⟩) (widS ⟨a, b, c⟩ (wid n m k) (wid l r u)), .bool (sameB ⟨a, b, c⟩ ⟨x, y, z⟩)]))) := by kernel_rfl
theorem p_csame : Good Tryz.f42 s_csame := by
 intro ms p r h hp
 unfold s_csame at h
 split at h
 ·rename_i a n b m c k x l y r z u
  simp only [Option.some.injEq, Prod.mk.injEq] at h
  obtain ⟨rfl, rfl⟩ := h
  obtain ⟨h1, h2, h3, h4, h5, h6⟩ : n ≤ 300 ∧ m ≤ 300 ∧ k ≤ 300 ∧ l ≤ 300 ∧ r ≤ 300 ∧ u ≤ 300 := hp
  refine ⟨env [c_creduce, c_around, c_idx, c_icmp, c_qdisc, c_neg, c_qtimes] noAnn, ?_⟩
  rw [← vc_csame a b c x y z n m k l r u]
  have er : ∀ p : Prop, sameB ⟨a, b, c⟩ ⟨x, y, z⟩ = false → (sameM ⟨a, b, c⟩ ⟨x, y, z⟩ = ⟨0, 0, 0, 0⟩ → false = sameB ⟨a, b, c⟩ ⟨x, y, z⟩ → p) → p := fun p h k => k (if_neg (by rw [h]; simp)) h.symm
  have m3 : max3 n m k = max n (max m k) := rfl
  have m4 : max3 l r u = max l (max r u) := rfl
  have hw : wid n m k ≤ 300 := by unfold wid; omega
  have hw2 : wid l r u ≤ 300 := by unfold wid; omega
  have hb1 : widM (wid n m k) ≤ 90601 := by
   have := Nat.mul_le_mul (show wid n m k + 2 ≤ 302 by omega) hw
   unfold widM
   omega
  have hb2 : widM (wid l r u) ≤ 90601 := by
   have := Nat.mul_le_mul (show wid l r u + 2 ≤ 302 by omega) hw2
   unfold widM
   omega
  refine ⟨by omega, by omega, condI bne_iff_ne (fun q => ?_) (fun q => ?_)⟩
  ·refine er _ (decide_eq_false fun h => q h.1) fun e1 e2 => ?_
   rw [e1]
   exact ⟨⟨⟨rfl, .inl (Nat.zero_le _)⟩, ⟨rfl, .inl (Nat.zero_le _)⟩, ⟨rfl, .inl (Nat.zero_le _)⟩, ⟨rfl, .inl (Nat.zero_le _)⟩, True.intro⟩, e2, True.intro⟩
  refine condI bne_iff_ne (fun q2 => ?_) (fun q2 => ?_)
  ·refine er _ (decide_eq_false fun h => q2 h.2.1) fun e1 e2 => ?_
   rw [e1]
   exact ⟨⟨⟨rfl, .inl (Nat.zero_le _)⟩, ⟨rfl, .inl (Nat.zero_le _)⟩, ⟨rfl, .inl (Nat.zero_le _)⟩, ⟨rfl, .inl (Nat.zero_le _)⟩, True.intro⟩, e2, True.intro⟩
  have q := Decidable.not_not.1 q
  have q2 := Decidable.not_not.1 q2
  have ec : cyL ⟨a, b, c⟩ = (List.range (perOf (redR ⟨a, b, c⟩))).map fun j => rhoN (knS (redR ⟨a, b, c⟩).disc) j (redR ⟨a, b, c⟩) := if_pos q
  have ef : fvals (perOf (redR ⟨a, b, c⟩)) (fun j => fmv (rhoN (knS (redR ⟨a, b, c⟩).disc) j (redR ⟨a, b, c⟩)) 8) = cyL ⟨a, b, c⟩ := by rw [fvals_fun, ec]
  have el : (cyL ⟨a, b, c⟩).length = perOf (redR ⟨a, b, c⟩) := by rw [ec]; simp
  have hl := cyL_le ⟨a, b, c⟩
  have hsm := cyL_small ⟨a, b, c⟩
  have hsr : sm63 (redR ⟨x, y, z⟩) := by
   obtain ⟨q', hr⟩ := redQ_RD.1 (redR_RD q2).1
   obtain ⟨hd, hs, _⟩ := kn_dis q'
   have := hr.small hd hs
   have e8 : (2 : Nat) ^ 8 = 256 := rfl
   exact ⟨by omega, by omega, by omega⟩
  have ei : fidx (isF (redR ⟨x, y, z⟩).A (redR ⟨x, y, z⟩).B (redR ⟨x, y, z⟩).C) (cyL ⟨a, b, c⟩) 0 = sameI ⟨a, b, c⟩ ⟨x, y, z⟩ := rfl
  rw [ef, ei]
  refine ⟨⟨(redR_RD q).1, by omega, by omega, by omega⟩, ⟨fun i _ => isFm_fmv _ (by omega), by omega, fun g hg => ?_, hsr⟩, condI decide_eq_true_iff (fun q3 => ?_) (fun q3 => ?_)⟩
  ·have := hsm g hg
   have e8 : (2 : Nat) ^ 8 = 256 := rfl
   exact ⟨by omega, by omega, by omega⟩
  ·refine er _ (decide_eq_false fun h => absurd h.2.2.1 (by omega)) fun e1 e2 => ?_
   rw [e1]
   exact ⟨⟨⟨rfl, .inl (Nat.zero_le _)⟩, ⟨rfl, .inl (Nat.zero_le _)⟩, ⟨rfl, .inl (Nat.zero_le _)⟩, ⟨rfl, .inl (Nat.zero_le _)⟩, True.intro⟩, e2, True.intro⟩
  refine ⟨by omega, by omega, by omega, condI cnez (fun q4 => ?_) (fun q4 => ?_)⟩
  ·refine er _ (decide_eq_false fun h => q4 h.2.2.2) fun e1 e2 => ?_
   rw [e1]
   exact ⟨⟨⟨rfl, .inl (Nat.zero_le _)⟩, ⟨rfl, .inl (Nat.zero_le _)⟩, ⟨rfl, .inl (Nat.zero_le _)⟩, ⟨rfl, .inl (Nat.zero_le _)⟩, True.intro⟩, e2, True.intro⟩
  have e2 : sameB ⟨a, b, c⟩ ⟨x, y, z⟩ = true := decide_eq_true ⟨q, q2, by omega, Decidable.not_not.1 q4⟩
  have e1 : sameM ⟨a, b, c⟩ ⟨x, y, z⟩ = ((redRM ⟨a, b, c⟩).mul (walkR (knS (redR ⟨a, b, c⟩).disc) (sameI ⟨a, b, c⟩ ⟨x, y, z⟩).toNat (redR ⟨a, b, c⟩))).mul (redRM ⟨x, y, z⟩).inv := if_pos e2
  have hr : sameI ⟨a, b, c⟩ ⟨x, y, z⟩ < (cyL ⟨a, b, c⟩).length := by
   rcases fidx_range (isF (redR ⟨x, y, z⟩).A (redR ⟨x, y, z⟩).B (redR ⟨x, y, z⟩).C) (cyL ⟨a, b, c⟩) 0 with ⟨h1, _⟩|⟨j, h1, h2, _⟩ <;> rw [ei] at * <;> omega
  have hp : widP (redR ⟨a, b, c⟩) = perOf (redR ⟨a, b, c⟩) * 8 + 1 := rfl
  have hS : widS ⟨a, b, c⟩ (wid n m k) (wid l r u) = widM (wid n m k) + widP (redR ⟨a, b, c⟩) + widM (wid l r u) + 2 := rfl
  rw [e1, e2]
  have h44 : ∀ t, max4 t t t t = t := fun t => by unfold max4; omega
  rw [h44, h44, h44, h44]
  exact ⟨by omega, by omega, ⟨by omega, by omega⟩, by omega, by omega, ⟨⟨rfl, .inl (by omega)⟩, ⟨rfl, .inl (by omega)⟩, ⟨rfl, .inl (by omega)⟩, ⟨rfl, .inl (by omega)⟩, True.intro⟩, rfl, True.intro⟩
 ·simp at h
def c_csame : Ctr Tryz.prog := ⟨42, s_csame, fun args w => Tryz.call42 args w, fn_ok mix Tryz.func42 s_csame p_csame⟩
end Go.Proofs.YtnfmjlhkknndhaaGreat
/-
 Contracts of functions: cycle.Cycles, cycle.Class.
-/
namespace Go.Proofs.YtnfmjlhkknndhaaGreat
open Go Go.RowKit
def cF (D a b : Int) : Fm := ⟨a, b, (b * b - D) / (4 * a)⟩
def goodF (D a b : Int) : Bool := decide (a ≠ 0) && (decide ((D - b * b) % (4 * a) = 0) && (redQ (cF D a b) && primF (cF D a b)))
def cyG (g : Fm) : List Fm := (List.range (perOf g)).map fun j => rhoN (knS g.disc) j g
def seenL (out : List Fm) (f : Fm) : Bool := out.any fun g => (cyG g).any fun h => decide (h = f)
def procF (D : Int) (out : List Fm) (a b : Int) : List Fm := if goodF D a b = true ∧ seenL out (cF D a b) = false then out ++ [cF D a b] else out
def rowG (D a : Int) : Nat → List Fm → List Fm
 | 0, out => out
 | j + 1, out => procF D (rowG D a j out) a ((j : Int) + 1)
def allG (D s : Int) : Nat → List Fm
 | 0 => []
 | i + 1 => rowG D (-s + (i : Int)) s.toNat (allG D s i)
def cysL (d : Int) : List Fm := if knE d = 0 then allG d (knS d) (2 * (knS d).toNat + 1) else []
def tri (f : Fm) : List Int := [f.A, f.B, f.C]
def seenM (out : List Fm) (l : List Int) : Bool := out.any fun g => (cyG g).any fun h => eqL (tri h) l
def cysR (out : List Fm) : Nat → MV := fun i => lmv (cyG (out.getD i ⟨0, 0, 0⟩)) 8
def xA : MV → Int
 | .int _ a => a
 | _ => 0
def boxF (e : MS) (i : Nat) : Fm := match nth e.bx i with
 | some b => (match b.c with | .one m => mvF m | _ => ⟨0, 0, 0⟩)
 | none => ⟨0, 0, 0⟩
def mpOf (x : XS) (f : List Int → Bool) : Option (Nat × MapC) := match x.mp with
 | some (B, m) => some (B, ⟨m.kt, m.kk, m.n, f⟩)
 | none => none
def mpF (x : XS) : List Int → Bool := match x.mp with
 | some (_, m) => m.f
 | none => fun _ => false
def x_cys (D s : Int) : Nat → MS → XS → Option XAnn
 | 9, e, x => some (.inv WalkI (fun i => i.i ≤ 2 * s.toNat + 1) (fun i => ⟨112, [(6, look 6 e.tm), (8, look 8 e.tm), (10, .bs 2 0 (allG D s i.i).length), (11, look 11 e.tm), (12, .int .i64 (-s + (i.i : Int)))], setNth (e.bx ++ [⟨false, .rows 1 0 (cysR [])⟩]) 2 ⟨false, .rows 1 (allG D s i.i).length (cysR (allG D s i.i))⟩, 0⟩)
   (fun i => mpOf x (seenM (allG D s i.i))) (fun i => 2 * s.toNat + 1 - i.i))
 | 12, e, x => some (.inv WalkI (fun j => j.i ≤ s.toNat) (fun j => ⟨112, [(6, look 6 e.tm), (8, look 8 e.tm), (10, .bs 2 0 (rowG D (xA (look 12 e.tm)) j.i (allG D s (xA (look 12 e.tm) + s).toNat)).length), (11, look 11 e.tm), (12, look 12 e.tm), (13, .int .i64 ((j.i : Int) + 1))],
   setNth e.bx 2 ⟨false, .rows 1 (rowG D (xA (look 12 e.tm)) j.i (allG D s (xA (look 12 e.tm) + s).toNat)).length (cysR (rowG D (xA (look 12 e.tm)) j.i (allG D s (xA (look 12 e.tm) + s).toNat)))⟩, 0⟩)
   (fun j => mpOf x (seenM (rowG D (xA (look 12 e.tm)) j.i (allG D s (xA (look 12 e.tm) + s).toNat)))) (fun j => s.toNat - j.i))
 | 19, e, x => some (.inv WalkI (fun i => i.i ≤ perOf (boxF e 3)) (fun i => ⟨112, [(6, look 6 e.tm), (8, look 8 e.tm), (10, look 10 e.tm), (11, look 11 e.tm), (12, look 12 e.tm), (13, look 13 e.tm), (15, look 15 e.tm), (97, look 97 e.tm), (98, look 98 e.tm), (99, .int .i64 i.i)], e.bx, 0⟩)
   (fun i => mpOf x (fun l => mpF x l || (List.range i.i).any fun q => eqL (tri (rhoN (knS (boxF e 3).disc) q (boxF e 3))) l)) (fun i => perOf (boxF e 3) - i.i))
 | _, _, _ => none
noncomputable def xe_cys (D s : Int) : XE Tryz.prog where
 E := env [c_known, c_ilow, c_cnum, c_small, c_creduced, c_qprim, c_around] noAnn
 xann := x_cys D s
 its := []
 inl := []
 rnp := fun _ => 0
 all := fun _ => none
def goC (d a b : Int) : Int := IntKind.wrap IntKind.i64 (Int.tdiv (IntKind.wrap IntKind.i64 ((0 : Int) - IntKind.wrap IntKind.i64 (d - IntKind.wrap IntKind.i64 (b * b)))) (IntKind.wrap IntKind.i64 ((4 : Int) * a)))
def goF (d : Int) (i j : WalkI) : Fm := ⟨-knS d + (i.i : Int), (j.i : Int) + 1, goC d (-knS d + (i.i : Int)) ((j.i : Int) + 1)⟩
theorem vc_cys (d : Int) (n : Nat) : (n ≤ 100000 ∧ bif knE d != 0 then (Value.slice none (0 : Nat) (0 : Nat) = Value.slice none (0 : Nat) (0 : Nat) ∧ List.length (cysL d) = 0) ∧ knE d = knE d ∧ True else Int.natAbs d < 9223372036854775808 ∧ Int.natAbs (knS d) < 9223372036854775808 ∧ ∀ (B : Nat), (∃ i, WalkI.i i ≤ 2 * Int.toNat (knS d) + 1 ∧ ((d = d ∧ knS d = knS d ∧ (Value.slice none (0 : Nat) (0 : Nat) = Value.slice none (0 : Nat) (0 : Nat) ∧ (0 : Nat) = 0 ∧ List.length (allG d (knS d) (WalkI.i i)) = 0) ∧ Value.map (some B) = Value.map (some B) ∧ IntKind.wrap IntKind.i64 ((0 : Int) - knS d) = -knS d + (↑(WalkI.i i) : Int) ∧ True) ∧ LeB d d n n ∧ LeB (knS d) (knS d) 9 9 ∧ True) ∧ B = B ∧ (105 : Nat) = 105 ∧ IntKind.i64 = IntKind.i64 ∧ (3 : Nat) = 3 ∧ ∀ (l : List Int), List.length l = 3 → false = seenM (allG d (knS d) (WalkI.i i)) l) ∧ ∀ (i : WalkI), WalkI.i i ≤ 2 * Int.toNat (knS d) + 1 → bif decide (-knS d + (↑(WalkI.i i) : Int) ≤ knS d) then (∃ i_1, WalkI.i i_1 ≤ Int.toNat (knS d) ∧ ((d = d ∧ knS d = knS d ∧ ((0 : Nat) = 0 ∧ List.length (allG d (knS d) (WalkI.i i)) = List.length (rowG d (-knS d + (↑(WalkI.i i) : Int)) (WalkI.i i_1) (allG d (knS d) (Int.toNat (-knS d + (↑(WalkI.i i) : Int) + knS d))))) ∧ Value.map (some B) = Value.map (some B) ∧ -knS d + (↑(WalkI.i i) : Int) = -knS d + (↑(WalkI.i i) : Int) ∧ (1 : Int) = (↑(WalkI.i i_1) : Int) + 1 ∧ True) ∧ LeB d d n n ∧ LeB (knS d) (knS d) 9 9 ∧ (List.length (allG d (knS d) (WalkI.i i)) = List.length (rowG d (-knS d + (↑(WalkI.i i) : Int)) (WalkI.i i_1) (allG d (knS d) (Int.toNat (-knS d + (↑(WalkI.i i) : Int) + knS d)))) ∧ LeFun (List.length (allG d (knS d) (WalkI.i i))) (cysR (allG d (knS d) (WalkI.i i))) (cysR (rowG d (-knS d + (↑(WalkI.i i) : Int)) (WalkI.i i_1) (allG d (knS d) (Int.toNat (-knS d + (↑(WalkI.i i) : Int) + knS d)))))) ∧ True) ∧ B = B ∧ (105 : Nat) = 105 ∧ IntKind.i64 = IntKind.i64 ∧ (3 : Nat) = 3 ∧ ∀ (l : List Int), List.length l = 3 → seenM (allG d (knS d) (WalkI.i i)) l = seenM (rowG d (-knS d + (↑(WalkI.i i) : Int)) (WalkI.i i_1) (allG d (knS d) (Int.toNat (-knS d + (↑(WalkI.i i) : Int) + knS d)))) l) ∧ ∀ (i_1 : WalkI), WalkI.i i_1 ≤ Int.toNat (knS d) → bif decide ((↑(WalkI.i i_1) : Int) + 1 ≤ knS d) then bif -knS d + (↑(WalkI.i i) : Int) != 0 then (IntKind.wrap IntKind.i64 ((4 : Int) * (-knS d + (↑(WalkI.i i) : Int))) = 0 → False) ∧ bif Int.tmod (IntKind.wrap IntKind.i64 (d - IntKind.wrap IntKind.i64 (((↑(WalkI.i i_1) : Int) + 1) * ((↑(WalkI.i i_1) : Int) + 1)))) (IntKind.wrap IntKind.i64 ((4 : Int) * (-knS d + (↑(WalkI.i i) : Int)))) != 0 then ∃ j, WalkI.i j ≤ Int.toNat (knS d) ∧ ((d = d ∧ knS d = knS d ∧ ((0 : Nat) = 0 ∧ List.length (rowG d (-knS d + (↑(WalkI.i i) : Int)) (WalkI.i i_1) (allG d (knS d) (Int.toNat (-knS d + (↑(WalkI.i i) : Int) + knS d)))) = List.length (rowG d (-knS d + (↑(WalkI.i i) : Int)) (WalkI.i j) (allG d (knS d) (Int.toNat (-knS d + (↑(WalkI.i i) : Int) + knS d))))) ∧ Value.map (some B) = Value.map (some B) ∧ -knS d + (↑(WalkI.i i) : Int) = -knS d + (↑(WalkI.i i) : Int) ∧ IntKind.wrap IntKind.i64 ((↑(WalkI.i i_1) : Int) + 1 + 1) = (↑(WalkI.i j) : Int) + 1 ∧ True) ∧ LeB d d n n ∧ LeB (knS d) (knS d) 9 9 ∧ (List.length (rowG d (-knS d + (↑(WalkI.i i) : Int)) (WalkI.i i_1) (allG d (knS d) (Int.toNat (-knS d + (↑(WalkI.i i) : Int) + knS d)))) = List.length (rowG d (-knS d + (↑(WalkI.i i) : Int)) (WalkI.i j) (allG d (knS d) (Int.toNat (-knS d + (↑(WalkI.i i) : Int) + knS d)))) ∧ LeFun (List.length (rowG d (-knS d + (↑(WalkI.i i) : Int)) (WalkI.i i_1) (allG d (knS d) (Int.toNat (-knS d + (↑(WalkI.i i) : Int) + knS d))))) (cysR (rowG d (-knS d + (↑(WalkI.i i) : Int)) (WalkI.i i_1) (allG d (knS d) (Int.toNat (-knS d + (↑(WalkI.i i) : Int) + knS d))))) (cysR (rowG d (-knS d + (↑(WalkI.i i) : Int)) (WalkI.i j) (allG d (knS d) (Int.toNat (-knS d + (↑(WalkI.i i) : Int) + knS d)))))) ∧ True) ∧ (B = B ∧ (105 : Nat) = 105 ∧ IntKind.i64 = IntKind.i64 ∧ (3 : Nat) = 3 ∧ ∀ (l : List Int), List.length l = 3 → seenM (rowG d (-knS d + (↑(WalkI.i i) : Int)) (WalkI.i i_1) (allG d (knS d) (Int.toNat (-knS d + (↑(WalkI.i i) : Int) + knS d)))) l = seenM (rowG d (-knS d + (↑(WalkI.i i) : Int)) (WalkI.i j) (allG d (knS d) (Int.toNat (-knS d + (↑(WalkI.i i) : Int) + knS d)))) l) ∧ Int.toNat (knS d) - WalkI.i j < Int.toNat (knS d) - WalkI.i i_1 else Fit (-knS d + (↑(WalkI.i i) : Int)) ∧ Fit ((↑(WalkI.i i_1) : Int) + 1) ∧ (IntKind.wrap IntKind.i64 ((4 : Int) * (-knS d + (↑(WalkI.i i) : Int))) = 0 → False) ∧ Fit (goC d (-knS d + (↑(WalkI.i i) : Int)) ((↑(WalkI.i i_1) : Int) + 1)) ∧ (Int.natAbs (-knS d + (↑(WalkI.i i) : Int)) < 9223372036854775808 ∧ Int.natAbs ((↑(WalkI.i i_1) : Int) + 1) < 9223372036854775808 ∧ Int.natAbs ((goC d (-knS d + (↑(WalkI.i i) : Int)) ((↑(WalkI.i i_1) : Int) + 1))) < 9223372036854775808) ∧ ((B = B ∧ (105 : Nat) = 105 ∧ IntKind.i64 = IntKind.i64 ∧ (3 : Nat) = 3) ∧ (IntKind.min IntKind.i64 ≤ -knS d + (↑(WalkI.i i) : Int) ∧ -knS d + (↑(WalkI.i i) : Int) ≤ IntKind.max IntKind.i64) ∧ (IntKind.min IntKind.i64 ≤ (↑(WalkI.i i_1) : Int) + 1 ∧ (↑(WalkI.i i_1) : Int) + 1 ≤ IntKind.max IntKind.i64) ∧ (IntKind.min IntKind.i64 ≤ (goC d (-knS d + (↑(WalkI.i i) : Int)) ((↑(WalkI.i i_1) : Int) + 1)) ∧ (goC d (-knS d + (↑(WalkI.i i) : Int)) ((↑(WalkI.i i_1) : Int) + 1)) ≤ IntKind.max IntKind.i64) ∧ True) ∧ bif seenM (rowG d (-knS d + (↑(WalkI.i i) : Int)) (WalkI.i i_1) (allG d (knS d) (Int.toNat (-knS d + (↑(WalkI.i i) : Int) + knS d)))) [-knS d + (↑(WalkI.i i) : Int), (↑(WalkI.i i_1) : Int) + 1, (goC d (-knS d + (↑(WalkI.i i) : Int)) ((↑(WalkI.i i_1) : Int) + 1))] then ∃ j, WalkI.i j ≤ Int.toNat (knS d) ∧ ((d = d ∧ knS d = knS d ∧ ((0 : Nat) = 0 ∧ List.length (rowG d (-knS d + (↑(WalkI.i i) : Int)) (WalkI.i i_1) (allG d (knS d) (Int.toNat (-knS d + (↑(WalkI.i i) : Int) + knS d)))) = List.length (rowG d (-knS d + (↑(WalkI.i i) : Int)) (WalkI.i j) (allG d (knS d) (Int.toNat (-knS d + (↑(WalkI.i i) : Int) + knS d))))) ∧ Value.map (some B) = Value.map (some B) ∧ -knS d + (↑(WalkI.i i) : Int) = -knS d + (↑(WalkI.i i) : Int) ∧ IntKind.wrap IntKind.i64 ((↑(WalkI.i i_1) : Int) + 1 + 1) = (↑(WalkI.i j) : Int) + 1 ∧ True) ∧ LeB d d n n ∧ LeB (knS d) (knS d) 9 9 ∧ (List.length (rowG d (-knS d + (↑(WalkI.i i) : Int)) (WalkI.i i_1) (allG d (knS d) (Int.toNat (-knS d + (↑(WalkI.i i) : Int) + knS d)))) = List.length (rowG d (-knS d + (↑(WalkI.i i) : Int)) (WalkI.i j) (allG d (knS d) (Int.toNat (-knS d + (↑(WalkI.i i) : Int) + knS d)))) ∧ LeFun (List.length (rowG d (-knS d + (↑(WalkI.i i) : Int)) (WalkI.i i_1) (allG d (knS d) (Int.toNat (-knS d + (↑(WalkI.i i) : Int) + knS d))))) (cysR (rowG d (-knS d + (↑(WalkI.i i) : Int)) (WalkI.i i_1) (allG d (knS d) (Int.toNat (-knS d + (↑(WalkI.i i) : Int) + knS d))))) (cysR (rowG d (-knS d + (↑(WalkI.i i) : Int)) (WalkI.i j) (allG d (knS d) (Int.toNat (-knS d + (↑(WalkI.i i) : Int) + knS d)))))) ∧ True) ∧ (B = B ∧ (105 : Nat) = 105 ∧ IntKind.i64 = IntKind.i64 ∧ (3 : Nat) = 3 ∧ ∀ (l : List Int), List.length l = 3 → seenM (rowG d (-knS d + (↑(WalkI.i i) : Int)) (WalkI.i i_1) (allG d (knS d) (Int.toNat (-knS d + (↑(WalkI.i i) : Int) + knS d)))) l = seenM (rowG d (-knS d + (↑(WalkI.i i) : Int)) (WalkI.i j) (allG d (knS d) (Int.toNat (-knS d + (↑(WalkI.i i) : Int) + knS d)))) l) ∧ Int.toNat (knS d) - WalkI.i j < Int.toNat (knS d) - WalkI.i i_1 else ((64 : Nat) ≤ 40000 ∧ (64 : Nat) ≤ 40000 ∧ (64 : Nat) ≤ 40000) ∧ bif !redQ (goF d i i_1) then ∃ j, WalkI.i j ≤ Int.toNat (knS d) ∧ ((d = d ∧ knS d = knS d ∧ ((0 : Nat) = 0 ∧ List.length (rowG d (-knS d + (↑(WalkI.i i) : Int)) (WalkI.i i_1) (allG d (knS d) (Int.toNat (-knS d + (↑(WalkI.i i) : Int) + knS d)))) = List.length (rowG d (-knS d + (↑(WalkI.i i) : Int)) (WalkI.i j) (allG d (knS d) (Int.toNat (-knS d + (↑(WalkI.i i) : Int) + knS d))))) ∧ Value.map (some B) = Value.map (some B) ∧ -knS d + (↑(WalkI.i i) : Int) = -knS d + (↑(WalkI.i i) : Int) ∧ IntKind.wrap IntKind.i64 ((↑(WalkI.i i_1) : Int) + 1 + 1) = (↑(WalkI.i j) : Int) + 1 ∧ True) ∧ LeB d d n n ∧ LeB (knS d) (knS d) 9 9 ∧ (List.length (rowG d (-knS d + (↑(WalkI.i i) : Int)) (WalkI.i i_1) (allG d (knS d) (Int.toNat (-knS d + (↑(WalkI.i i) : Int) + knS d)))) = List.length (rowG d (-knS d + (↑(WalkI.i i) : Int)) (WalkI.i j) (allG d (knS d) (Int.toNat (-knS d + (↑(WalkI.i i) : Int) + knS d)))) ∧ LeFun (List.length (rowG d (-knS d + (↑(WalkI.i i) : Int)) (WalkI.i i_1) (allG d (knS d) (Int.toNat (-knS d + (↑(WalkI.i i) : Int) + knS d))))) (cysR (rowG d (-knS d + (↑(WalkI.i i) : Int)) (WalkI.i i_1) (allG d (knS d) (Int.toNat (-knS d + (↑(WalkI.i i) : Int) + knS d))))) (cysR (rowG d (-knS d + (↑(WalkI.i i) : Int)) (WalkI.i j) (allG d (knS d) (Int.toNat (-knS d + (↑(WalkI.i i) : Int) + knS d)))))) ∧ True) ∧ (B = B ∧ (105 : Nat) = 105 ∧ IntKind.i64 = IntKind.i64 ∧ (3 : Nat) = 3 ∧ ∀ (l : List Int), List.length l = 3 → seenM (rowG d (-knS d + (↑(WalkI.i i) : Int)) (WalkI.i i_1) (allG d (knS d) (Int.toNat (-knS d + (↑(WalkI.i i) : Int) + knS d)))) l = seenM (rowG d (-knS d + (↑(WalkI.i i) : Int)) (WalkI.i j) (allG d (knS d) (Int.toNat (-knS d + (↑(WalkI.i i) : Int) + knS d)))) l) ∧ Int.toNat (knS d) - WalkI.i j < Int.toNat (knS d) - WalkI.i i_1 else ((64 : Nat) ≤ 100000 ∧ (64 : Nat) ≤ 100000 ∧ (64 : Nat) ≤ 100000) ∧ bif !primF (goF d i i_1) then ∃ j, WalkI.i j ≤ Int.toNat (knS d) ∧ ((d = d ∧ knS d = knS d ∧ ((0 : Nat) = 0 ∧ List.length (rowG d (-knS d + (↑(WalkI.i i) : Int)) (WalkI.i i_1) (allG d (knS d) (Int.toNat (-knS d + (↑(WalkI.i i) : Int) + knS d)))) = List.length (rowG d (-knS d + (↑(WalkI.i i) : Int)) (WalkI.i j) (allG d (knS d) (Int.toNat (-knS d + (↑(WalkI.i i) : Int) + knS d))))) ∧ Value.map (some B) = Value.map (some B) ∧ -knS d + (↑(WalkI.i i) : Int) = -knS d + (↑(WalkI.i i) : Int) ∧ IntKind.wrap IntKind.i64 ((↑(WalkI.i i_1) : Int) + 1 + 1) = (↑(WalkI.i j) : Int) + 1 ∧ True) ∧ LeB d d n n ∧ LeB (knS d) (knS d) 9 9 ∧ (List.length (rowG d (-knS d + (↑(WalkI.i i) : Int)) (WalkI.i i_1) (allG d (knS d) (Int.toNat (-knS d + (↑(WalkI.i i) : Int) + knS d)))) = List.length (rowG d (-knS d + (↑(WalkI.i i) : Int)) (WalkI.i j) (allG d (knS d) (Int.toNat (-knS d + (↑(WalkI.i i) : Int) + knS d)))) ∧ LeFun (List.length (rowG d (-knS d + (↑(WalkI.i i) : Int)) (WalkI.i i_1) (allG d (knS d) (Int.toNat (-knS d + (↑(WalkI.i i) : Int) + knS d))))) (cysR (rowG d (-knS d + (↑(WalkI.i i) : Int)) (WalkI.i i_1) (allG d (knS d) (Int.toNat (-knS d + (↑(WalkI.i i) : Int) + knS d))))) (cysR (rowG d (-knS d + (↑(WalkI.i i) : Int)) (WalkI.i j) (allG d (knS d) (Int.toNat (-knS d + (↑(WalkI.i i) : Int) + knS d)))))) ∧ True) ∧ (B = B ∧ (105 : Nat) = 105 ∧ IntKind.i64 = IntKind.i64 ∧ (3 : Nat) = 3 ∧ ∀ (l : List Int), List.length l = 3 → seenM (rowG d (-knS d + (↑(WalkI.i i) : Int)) (WalkI.i i_1) (allG d (knS d) (Int.toNat (-knS d + (↑(WalkI.i i) : Int) + knS d)))) l = seenM (rowG d (-knS d + (↑(WalkI.i i) : Int)) (WalkI.i j) (allG d (knS d) (Int.toNat (-knS d + (↑(WalkI.i i) : Int) + knS d)))) l) ∧ Int.toNat (knS d) - WalkI.i j < Int.toNat (knS d) - WalkI.i i_1 else (redQ (goF d i i_1) = true ∧ (64 : Nat) ≤ 10000 ∧ (64 : Nat) ≤ 10000 ∧ (64 : Nat) ≤ 10000) ∧ (∃ i_2, WalkI.i i_2 ≤ perOf (goF d i i_1) ∧ ((d = d ∧ knS d = knS d ∧ ((0 : Nat) = 0 ∧ List.length (rowG d (-knS d + (↑(WalkI.i i) : Int)) (WalkI.i i_1) (allG d (knS d) (Int.toNat (-knS d + (↑(WalkI.i i) : Int) + knS d)))) = List.length (rowG d (-knS d + (↑(WalkI.i i) : Int)) (WalkI.i i_1) (allG d (knS d) (Int.toNat (-knS d + (↑(WalkI.i i) : Int) + knS d))))) ∧ Value.map (some B) = Value.map (some B) ∧ -knS d + (↑(WalkI.i i) : Int) = -knS d + (↑(WalkI.i i) : Int) ∧ (↑(WalkI.i i_1) : Int) + 1 = (↑(WalkI.i i_1) : Int) + 1 ∧ ((6 : Nat) = 6 ∧ perOf (goF d i i_1) = perOf (goF d i i_1) ∧ LeFun (perOf (goF d i i_1)) (fun j => fmv (rhoN (knS (Fm.disc (goF d i i_1))) j (goF d i i_1)) (8 : Nat)) fun j => fmv (rhoN (knS (Fm.disc (goF d i i_1))) j (goF d i i_1)) (8 : Nat)) ∧ ((6 : Nat) = 6 ∧ perOf (goF d i i_1) = perOf (goF d i i_1) ∧ LeFun (perOf (goF d i i_1)) (fun j => fmv (rhoN (knS (Fm.disc (goF d i i_1))) j (goF d i i_1)) (8 : Nat)) fun j => fmv (rhoN (knS (Fm.disc (goF d i i_1))) j (goF d i i_1)) (8 : Nat)) ∧ (↑(perOf (goF d i i_1)) : Int) = (↑(perOf (goF d i i_1)) : Int) ∧ (0 : Int) = (↑(WalkI.i i_2) : Int) ∧ True) ∧ LeB d d n n ∧ LeB (knS d) (knS d) 9 9 ∧ (List.length (rowG d (-knS d + (↑(WalkI.i i) : Int)) (WalkI.i i_1) (allG d (knS d) (Int.toNat (-knS d + (↑(WalkI.i i) : Int) + knS d)))) = List.length (rowG d (-knS d + (↑(WalkI.i i) : Int)) (WalkI.i i_1) (allG d (knS d) (Int.toNat (-knS d + (↑(WalkI.i i) : Int) + knS d)))) ∧ LeFun (List.length (rowG d (-knS d + (↑(WalkI.i i) : Int)) (WalkI.i i_1) (allG d (knS d) (Int.toNat (-knS d + (↑(WalkI.i i) : Int) + knS d))))) (cysR (rowG d (-knS d + (↑(WalkI.i i) : Int)) (WalkI.i i_1) (allG d (knS d) (Int.toNat (-knS d + (↑(WalkI.i i) : Int) + knS d))))) (cysR (rowG d (-knS d + (↑(WalkI.i i) : Int)) (WalkI.i i_1) (allG d (knS d) (Int.toNat (-knS d + (↑(WalkI.i i) : Int) + knS d)))))) ∧ (LeB (-knS d + (↑(WalkI.i i) : Int)) (-knS d + (↑(WalkI.i i) : Int)) 64 64 ∧ LeB ((↑(WalkI.i i_1) : Int) + 1) ((↑(WalkI.i i_1) : Int) + 1) 64 64 ∧ LeB (goC d (-knS d + (↑(WalkI.i i) : Int)) ((↑(WalkI.i i_1) : Int) + 1)) (goC d (-knS d + (↑(WalkI.i i) : Int)) ((↑(WalkI.i i_1) : Int) + 1)) 64 64 ∧ True) ∧ True) ∧ B = B ∧ (105 : Nat) = 105 ∧ IntKind.i64 = IntKind.i64 ∧ (3 : Nat) = 3 ∧ ∀ (l : List Int), List.length l = 3 → seenM (rowG d (-knS d + (↑(WalkI.i i) : Int)) (WalkI.i i_1) (allG d (knS d) (Int.toNat (-knS d + (↑(WalkI.i i) : Int) + knS d)))) l = (seenM (rowG d (-knS d + (↑(WalkI.i i) : Int)) (WalkI.i i_1) (allG d (knS d) (Int.toNat (-knS d + (↑(WalkI.i i) : Int) + knS d)))) l || List.any (List.range (WalkI.i i_2)) fun q => eqL (tri (rhoN (knS (Fm.disc (goF d i i_1))) q (goF d i i_1))) l)) ∧ ∀ (i_2 : WalkI), WalkI.i i_2 ≤ perOf (goF d i i_1) → bif decide ((↑(WalkI.i i_2) : Int) < (↑(perOf (goF d i i_1)) : Int)) then ((0 : Int) ≤ (↑(WalkI.i i_2) : Int) ∧ (↑(WalkI.i i_2) : Int) < (↑(perOf (goF d i i_1)) : Int)) ∧ (Int.natAbs (Fm.A (rhoN (knS (Fm.disc (goF d i i_1))) (Int.toNat (↑(WalkI.i i_2) : Int)) (goF d i i_1))) < 9223372036854775808 ∧ Int.natAbs (Fm.B (rhoN (knS (Fm.disc (goF d i i_1))) (Int.toNat (↑(WalkI.i i_2) : Int)) (goF d i i_1))) < 9223372036854775808 ∧ Int.natAbs (Fm.C (rhoN (knS (Fm.disc (goF d i i_1))) (Int.toNat (↑(WalkI.i i_2) : Int)) (goF d i i_1))) < 9223372036854775808) ∧ (((B = B ∧ (105 : Nat) = 105 ∧ IntKind.i64 = IntKind.i64 ∧ (3 : Nat) = 3) ∧ (IntKind.min IntKind.i64 ≤ Fm.A (rhoN (knS (Fm.disc (goF d i i_1))) (Int.toNat (↑(WalkI.i i_2) : Int)) (goF d i i_1)) ∧ Fm.A (rhoN (knS (Fm.disc (goF d i i_1))) (Int.toNat (↑(WalkI.i i_2) : Int)) (goF d i i_1)) ≤ IntKind.max IntKind.i64) ∧ (IntKind.min IntKind.i64 ≤ Fm.B (rhoN (knS (Fm.disc (goF d i i_1))) (Int.toNat (↑(WalkI.i i_2) : Int)) (goF d i i_1)) ∧ Fm.B (rhoN (knS (Fm.disc (goF d i i_1))) (Int.toNat (↑(WalkI.i i_2) : Int)) (goF d i i_1)) ≤ IntKind.max IntKind.i64) ∧ (IntKind.min IntKind.i64 ≤ Fm.C (rhoN (knS (Fm.disc (goF d i i_1))) (Int.toNat (↑(WalkI.i i_2) : Int)) (goF d i i_1)) ∧ Fm.C (rhoN (knS (Fm.disc (goF d i i_1))) (Int.toNat (↑(WalkI.i i_2) : Int)) (goF d i i_1)) ≤ IntKind.max IntKind.i64) ∧ True) ∧ true = true) ∧ ∃ j, WalkI.i j ≤ perOf (goF d i i_1) ∧ ((d = d ∧ knS d = knS d ∧ ((0 : Nat) = 0 ∧ List.length (rowG d (-knS d + (↑(WalkI.i i) : Int)) (WalkI.i i_1) (allG d (knS d) (Int.toNat (-knS d + (↑(WalkI.i i) : Int) + knS d)))) = List.length (rowG d (-knS d + (↑(WalkI.i i) : Int)) (WalkI.i i_1) (allG d (knS d) (Int.toNat (-knS d + (↑(WalkI.i i) : Int) + knS d))))) ∧ Value.map (some B) = Value.map (some B) ∧ -knS d + (↑(WalkI.i i) : Int) = -knS d + (↑(WalkI.i i) : Int) ∧ (↑(WalkI.i i_1) : Int) + 1 = (↑(WalkI.i i_1) : Int) + 1 ∧ ((6 : Nat) = 6 ∧ perOf (goF d i i_1) = perOf (goF d i i_1) ∧ LeFun (perOf (goF d i i_1)) (fun j => fmv (rhoN (knS (Fm.disc (goF d i i_1))) j (goF d i i_1)) (8 : Nat)) fun j => fmv (rhoN (knS (Fm.disc (goF d i i_1))) j (goF d i i_1)) (8 : Nat)) ∧ ((6 : Nat) = 6 ∧ perOf (goF d i i_1) = perOf (goF d i i_1) ∧ LeFun (perOf (goF d i i_1)) (fun j => fmv (rhoN (knS (Fm.disc (goF d i i_1))) j (goF d i i_1)) (8 : Nat)) fun j => fmv (rhoN (knS (Fm.disc (goF d i i_1))) j (goF d i i_1)) (8 : Nat)) ∧ (↑(perOf (goF d i i_1)) : Int) = (↑(perOf (goF d i i_1)) : Int) ∧ IntKind.wrap IntKind.i64 ((↑(WalkI.i i_2) : Int) + 1) = (↑(WalkI.i j) : Int) ∧ True) ∧ LeB d d n n ∧ LeB (knS d) (knS d) 9 9 ∧ (List.length (rowG d (-knS d + (↑(WalkI.i i) : Int)) (WalkI.i i_1) (allG d (knS d) (Int.toNat (-knS d + (↑(WalkI.i i) : Int) + knS d)))) = List.length (rowG d (-knS d + (↑(WalkI.i i) : Int)) (WalkI.i i_1) (allG d (knS d) (Int.toNat (-knS d + (↑(WalkI.i i) : Int) + knS d)))) ∧ LeFun (List.length (rowG d (-knS d + (↑(WalkI.i i) : Int)) (WalkI.i i_1) (allG d (knS d) (Int.toNat (-knS d + (↑(WalkI.i i) : Int) + knS d))))) (cysR (rowG d (-knS d + (↑(WalkI.i i) : Int)) (WalkI.i i_1) (allG d (knS d) (Int.toNat (-knS d + (↑(WalkI.i i) : Int) + knS d))))) (cysR (rowG d (-knS d + (↑(WalkI.i i) : Int)) (WalkI.i i_1) (allG d (knS d) (Int.toNat (-knS d + (↑(WalkI.i i) : Int) + knS d)))))) ∧ (LeB (-knS d + (↑(WalkI.i i) : Int)) (-knS d + (↑(WalkI.i i) : Int)) 64 64 ∧ LeB ((↑(WalkI.i i_1) : Int) + 1) ((↑(WalkI.i i_1) : Int) + 1) 64 64 ∧ LeB (goC d (-knS d + (↑(WalkI.i i) : Int)) ((↑(WalkI.i i_1) : Int) + 1)) (goC d (-knS d + (↑(WalkI.i i) : Int)) ((↑(WalkI.i i_1) : Int) + 1)) 64 64 ∧ True) ∧ True) ∧ (B = B ∧ (105 : Nat) = 105 ∧ IntKind.i64 = IntKind.i64 ∧ (3 : Nat) = 3 ∧ ∀ (l : List Int), List.length l = 3 → (eqL l [Fm.A (rhoN (knS (Fm.disc (goF d i i_1))) (Int.toNat (↑(WalkI.i i_2) : Int)) (goF d i i_1)), Fm.B (rhoN (knS (Fm.disc (goF d i i_1))) (Int.toNat (↑(WalkI.i i_2) : Int)) (goF d i i_1)), Fm.C (rhoN (knS (Fm.disc (goF d i i_1))) (Int.toNat (↑(WalkI.i i_2) : Int)) (goF d i i_1))] || (seenM (rowG d (-knS d + (↑(WalkI.i i) : Int)) (WalkI.i i_1) (allG d (knS d) (Int.toNat (-knS d + (↑(WalkI.i i) : Int) + knS d)))) l || List.any (List.range (WalkI.i i_2)) fun q => eqL (tri (rhoN (knS (Fm.disc (goF d i i_1))) q (goF d i i_1))) l)) = (seenM (rowG d (-knS d + (↑(WalkI.i i) : Int)) (WalkI.i i_1) (allG d (knS d) (Int.toNat (-knS d + (↑(WalkI.i i) : Int) + knS d)))) l || List.any (List.range (WalkI.i j)) fun q => eqL (tri (rhoN (knS (Fm.disc (goF d i i_1))) q (goF d i i_1))) l)) ∧ perOf (goF d i i_1) - WalkI.i j < perOf (goF d i i_1) - WalkI.i i_2 else ((1 : Nat) ≤ 1 ∧ List.length (rowG d (-knS d + (↑(WalkI.i i) : Int)) (WalkI.i i_1) (allG d (knS d) (Int.toNat (-knS d + (↑(WalkI.i i) : Int) + knS d)))) ≤ List.length (rowG d (-knS d + (↑(WalkI.i i) : Int)) (WalkI.i i_1) (allG d (knS d) (Int.toNat (-knS d + (↑(WalkI.i i) : Int) + knS d)))) ∧ (List.length (rowG d (-knS d + (↑(WalkI.i i) : Int)) (WalkI.i i_1) (allG d (knS d) (Int.toNat (-knS d + (↑(WalkI.i i) : Int) + knS d)))) + News.len (News.rows (1 : Nat) (1 : Nat) (rowOf [MV.sl (6 : Nat) (perOf (goF d i i_1)) fun j => fmv (rhoN (knS (Fm.disc (goF d i i_1))) j (goF d i i_1)) (8 : Nat)]))) * 24 ≤ 140737488355328) ∧ ∃ j, WalkI.i j ≤ Int.toNat (knS d) ∧ ((d = d ∧ knS d = knS d ∧ ((0 : Nat) = 0 ∧ List.length (rowG d (-knS d + (↑(WalkI.i i) : Int)) (WalkI.i i_1) (allG d (knS d) (Int.toNat (-knS d + (↑(WalkI.i i) : Int) + knS d)))) + News.len (News.rows (1 : Nat) (1 : Nat) (rowOf [MV.sl (6 : Nat) (perOf (goF d i i_1)) fun j => fmv (rhoN (knS (Fm.disc (goF d i i_1))) j (goF d i i_1)) (8 : Nat)])) = List.length (rowG d (-knS d + (↑(WalkI.i i) : Int)) (WalkI.i j) (allG d (knS d) (Int.toNat (-knS d + (↑(WalkI.i i) : Int) + knS d))))) ∧ Value.map (some B) = Value.map (some B) ∧ -knS d + (↑(WalkI.i i) : Int) = -knS d + (↑(WalkI.i i) : Int) ∧ IntKind.wrap IntKind.i64 ((↑(WalkI.i i_1) : Int) + 1 + 1) = (↑(WalkI.i j) : Int) + 1 ∧ True) ∧ LeB d d n n ∧ LeB (knS d) (knS d) 9 9 ∧ (List.length (rowG d (-knS d + (↑(WalkI.i i) : Int)) (WalkI.i i_1) (allG d (knS d) (Int.toNat (-knS d + (↑(WalkI.i i) : Int) + knS d)))) + 1 = List.length (rowG d (-knS d + (↑(WalkI.i i) : Int)) (WalkI.i j) (allG d (knS d) (Int.toNat (-knS d + (↑(WalkI.i i) : Int) + knS d)))) ∧ LeFun (List.length (rowG d (-knS d + (↑(WalkI.i i) : Int)) (WalkI.i i_1) (allG d (knS d) (Int.toNat (-knS d + (↑(WalkI.i i) : Int) + knS d)))) + 1) (fun q => bif Nat.blt q (List.length (rowG d (-knS d + (↑(WalkI.i i) : Int)) (WalkI.i i_1) (allG d (knS d) (Int.toNat (-knS d + (↑(WalkI.i i) : Int) + knS d))))) then cysR (rowG d (-knS d + (↑(WalkI.i i) : Int)) (WalkI.i i_1) (allG d (knS d) (Int.toNat (-knS d + (↑(WalkI.i i) : Int) + knS d)))) q else rowOf [MV.sl (6 : Nat) (perOf (goF d i i_1)) fun j => fmv (rhoN (knS (Fm.disc (goF d i i_1))) j (goF d i i_1)) (8 : Nat)] (q - List.length (rowG d (-knS d + (↑(WalkI.i i) : Int)) (WalkI.i i_1) (allG d (knS d) (Int.toNat (-knS d + (↑(WalkI.i i) : Int) + knS d)))))) (cysR (rowG d (-knS d + (↑(WalkI.i i) : Int)) (WalkI.i j) (allG d (knS d) (Int.toNat (-knS d + (↑(WalkI.i i) : Int) + knS d)))))) ∧ True) ∧ (B = B ∧ (105 : Nat) = 105 ∧ IntKind.i64 = IntKind.i64 ∧ (3 : Nat) = 3 ∧ ∀ (l : List Int), List.length l = 3 → (seenM (rowG d (-knS d + (↑(WalkI.i i) : Int)) (WalkI.i i_1) (allG d (knS d) (Int.toNat (-knS d + (↑(WalkI.i i) : Int) + knS d)))) l || List.any (List.range (WalkI.i i_2)) fun q => eqL (tri (rhoN (knS (Fm.disc (goF d i i_1))) q (goF d i i_1))) l) = seenM (rowG d (-knS d + (↑(WalkI.i i) : Int)) (WalkI.i j) (allG d (knS d) (Int.toNat (-knS d + (↑(WalkI.i i) : Int) + knS d)))) l) ∧ Int.toNat (knS d) - WalkI.i j < Int.toNat (knS d) - WalkI.i i_1 else ∃ j, WalkI.i j ≤ 2 * Int.toNat (knS d) + 1 ∧ ((d = d ∧ knS d = knS d ∧ ((0 : Nat) = 0 ∧ List.length (rowG d (-knS d + (↑(WalkI.i i) : Int)) (WalkI.i i_1) (allG d (knS d) (Int.toNat (-knS d + (↑(WalkI.i i) : Int) + knS d)))) = List.length (allG d (knS d) (WalkI.i j))) ∧ Value.map (some B) = Value.map (some B) ∧ IntKind.wrap IntKind.i64 (-knS d + (↑(WalkI.i i) : Int) + 1) = -knS d + (↑(WalkI.i j) : Int) ∧ True) ∧ LeB d d n n ∧ LeB (knS d) (knS d) 9 9 ∧ (List.length (rowG d (-knS d + (↑(WalkI.i i) : Int)) (WalkI.i i_1) (allG d (knS d) (Int.toNat (-knS d + (↑(WalkI.i i) : Int) + knS d)))) = List.length (allG d (knS d) (WalkI.i j)) ∧ LeFun (List.length (rowG d (-knS d + (↑(WalkI.i i) : Int)) (WalkI.i i_1) (allG d (knS d) (Int.toNat (-knS d + (↑(WalkI.i i) : Int) + knS d))))) (cysR (rowG d (-knS d + (↑(WalkI.i i) : Int)) (WalkI.i i_1) (allG d (knS d) (Int.toNat (-knS d + (↑(WalkI.i i) : Int) + knS d))))) (cysR (allG d (knS d) (WalkI.i j)))) ∧ True) ∧ (B = B ∧ (105 : Nat) = 105 ∧ IntKind.i64 = IntKind.i64 ∧ (3 : Nat) = 3 ∧ ∀ (l : List Int), List.length l = 3 → seenM (rowG d (-knS d + (↑(WalkI.i i) : Int)) (WalkI.i i_1) (allG d (knS d) (Int.toNat (-knS d + (↑(WalkI.i i) : Int) + knS d)))) l = seenM (allG d (knS d) (WalkI.i j)) l) ∧ (2 : Nat) * Int.toNat (knS d) + 1 - WalkI.i j < 2 * Int.toNat (knS d) + 1 - WalkI.i i else ∃ j, WalkI.i j ≤ 2 * Int.toNat (knS d) + 1 ∧ ((d = d ∧ knS d = knS d ∧ ((0 : Nat) = 0 ∧ List.length (rowG d (-knS d + (↑(WalkI.i i) : Int)) (WalkI.i i_1) (allG d (knS d) (Int.toNat (-knS d + (↑(WalkI.i i) : Int) + knS d)))) = List.length (allG d (knS d) (WalkI.i j))) ∧ Value.map (some B) = Value.map (some B) ∧ IntKind.wrap IntKind.i64 (-knS d + (↑(WalkI.i i) : Int) + 1) = -knS d + (↑(WalkI.i j) : Int) ∧ True) ∧ LeB d d n n ∧ LeB (knS d) (knS d) 9 9 ∧ (List.length (rowG d (-knS d + (↑(WalkI.i i) : Int)) (WalkI.i i_1) (allG d (knS d) (Int.toNat (-knS d + (↑(WalkI.i i) : Int) + knS d)))) = List.length (allG d (knS d) (WalkI.i j)) ∧ LeFun (List.length (rowG d (-knS d + (↑(WalkI.i i) : Int)) (WalkI.i i_1) (allG d (knS d) (Int.toNat (-knS d + (↑(WalkI.i i) : Int) + knS d))))) (cysR (rowG d (-knS d + (↑(WalkI.i i) : Int)) (WalkI.i i_1) (allG d (knS d) (Int.toNat (-knS d + (↑(WalkI.i i) : Int) + knS d))))) (cysR (allG d (knS d) (WalkI.i j)))) ∧ True) ∧ (B = B ∧ (105 : Nat) = 105 ∧ IntKind.i64 = IntKind.i64 ∧ (3 : Nat) = 3 ∧ ∀ (l : List Int), List.length l = 3 → seenM (rowG d (-knS d + (↑(WalkI.i i) : Int)) (WalkI.i i_1) (allG d (knS d) (Int.toNat (-knS d + (↑(WalkI.i i) : Int) + knS d)))) l = seenM (allG d (knS d) (WalkI.i j)) l) ∧ (2 : Nat) * Int.toNat (knS d) + 1 - WalkI.i j < 2 * Int.toNat (knS d) + 1 - WalkI.i i else List.length (allG d (knS d) (WalkI.i i)) ≤ List.length (allG d (knS d) (WalkI.i i)) ∧ ((1 : Nat) = 1 ∧ List.length (allG d (knS d) (WalkI.i i)) = List.length (cysL d) ∧ LeFun (List.length (allG d (knS d) (WalkI.i i))) (cysR (allG d (knS d) (WalkI.i i))) (cysR (cysL d))) ∧ (0 : Int) = knE d ∧ True) = evFnX (xe_cys d (knS d)) Tryz.f30 [.big d n] (MRes.sat (.ret (.tup [.sl 1 (cysL d).length (cysR (cysL d)), .int .i64 (knE d)]))) := by kernel_rfl
theorem goC_all {d a b : Int} (ha : a.natAbs ≤ 255) (hb0 : 0 < b) (hb : b ≤ 255) (hd0 : 0 < d) (hd : d ≤ 65536) :
  IntKind.wrap IntKind.i64 (d - IntKind.wrap IntKind.i64 (b * b)) = d - b * b ∧ IntKind.wrap IntKind.i64 (4 * a) = 4 * a ∧ ((d - b * b) % (4 * a) = 0 → goC d a b = (b * b - d) / (4 * a) ∧ ((b * b - d) / (4 * a)).natAbs ≤ 131072) := by
 have hbb : b * b ≤ 65025 := by
  have := Int.mul_le_mul hb hb (by omega) (by omega)
  omega
 have hbb0 : 0 < b * b := Int.mul_pos hb0 hb0
 have e1 : IntKind.wrap IntKind.i64 (b * b) = b * b := i64w (by omega) (by omega)
 have e2 : IntKind.wrap IntKind.i64 (d - b * b) = d - b * b := i64w (by omega) (by omega)
 have e3 : IntKind.wrap IntKind.i64 (4 * a) = 4 * a := i64w (by omega) (by omega)
 have e4 : IntKind.wrap IntKind.i64 (0 - (d - b * b)) = b * b - d := by rw [i64w (by omega) (by omega)]; omega
 refine ⟨by rw [e1, e2], e3, fun h => ?_⟩
 have hdv : 4 * a ∣ d - b * b := Int.dvd_of_emod_eq_zero h
 have hdv2 : 4 * a ∣ b * b - d := by
  obtain ⟨q, hq⟩ := hdv
  exact ⟨-q, by rw [Int.mul_neg]; omega⟩
 have hle : ((b * b - d) / (4 * a)).natAbs ≤ 131072 := by
  obtain ⟨q, hq⟩ := hdv2
  by_cases h0 : a = 0
  ·subst h0; simp
  ·rw [hq, Int.mul_ediv_cancel_left _ (by omega)]
   have h1 : (b * b - d).natAbs = (4 * a).natAbs * q.natAbs := by rw [hq, Int.natAbs_mul]
   have h2 : 1 * q.natAbs ≤ (4 * a).natAbs * q.natAbs := Nat.mul_le_mul_right _ (by omega)
   omega
 refine ⟨?_, hle⟩
 unfold goC
 rw [e1, e2, e3, e4, Int.tdiv_eq_ediv_of_dvd hdv2]
 exact i64w (by omega) (by omega)
theorem eqL_tri (h f : Fm) : eqL (tri h) (tri f) = decide (h = f) := by
 refine boolI (eqL_iff _ _) ?_
 rw [decide_eq_true_iff]
 unfold tri
 constructor
 ·intro e; subst e; rfl
 ·intro e
  simp only [List.cons.injEq, and_true] at e
  exact Fm.ext' e.1 e.2.1 e.2.2
theorem seenM_tri (out : List Fm) (f : Fm) : seenM out (tri f) = seenL out f := by
 unfold seenM seenL
 congr 1
 funext g
 congr 1
 funext h
 exact eqL_tri h f
theorem eqL_comm (a b : List Int) : eqL a b = eqL b a := boolI ((eqL_iff _ _).trans eq_comm) (eqL_iff _ _)
theorem seenM_snoc (out : List Fm) (g : Fm) (l : List Int) : seenM (out ++ [g]) l = (seenM out l || (List.range (perOf g)).any fun q => eqL (tri (rhoN (knS g.disc) q g)) l) := by
 unfold seenM cyG
 rw [List.any_append]
 simp [List.any_map, Function.comp_def]
theorem proc_not {d a b : Int} {out : List Fm} (h : goodF d a b = true → seenL out (cF d a b) = true) : procF d out a b = out := by
 unfold procF
 refine if_neg fun hh => ?_
 rw [h hh.1] at hh
 simp at hh
theorem row_zero (d : Int) (out : List Fm) : ∀ j, rowG d 0 j out = out
 | 0 => rfl
 | j + 1 => by
  show procF d (rowG d 0 j out) 0 _ = out
  rw [row_zero d out j]
  exact proc_not fun h => by simp [goodF] at h
theorem proc_len (d a b : Int) (out : List Fm) : (procF d out a b).length ≤ out.length + 1 := by
 unfold procF
 split <;> simp
theorem row_len (d a : Int) (out : List Fm) : ∀ j, (rowG d a j out).length ≤ out.length + j
 | 0 => Nat.le_refl _
 | j + 1 => by
  have h1 := row_len d a out j
  have h2 := proc_len d a ((j : Int) + 1) (rowG d a j out)
  show (procF d (rowG d a j out) a ((j : Int) + 1)).length ≤ _
  omega
theorem all_len (d s : Int) : ∀ i, (allG d s i).length ≤ i * s.toNat
 | 0 => Nat.zero_le _
 | i + 1 => by
  have h1 := all_len d s i
  have h2 := row_len d (-s + (i : Int)) (allG d s i) s.toNat
  show (rowG d (-s + (i : Int)) s.toNat (allG d s i)).length ≤ _
  rw [Nat.add_mul]
  omega
theorem le_cys (out : List Fm) (g : Fm) : LeFun (out.length + 1) (fun q => bif Nat.blt q out.length then cysR out q else rowOf [.sl 6 (perOf g) (fun j => fmv (rhoN (knS g.disc) j g) 8)] (q - out.length)) (cysR (out ++ [g])) := by
 refine ⟨fun q hq c w cs r => ?_⟩
 have r : RepC c w (bif Nat.blt q out.length then cysR out q else rowOf [.sl 6 (perOf g) (fun j => fmv (rhoN (knS g.disc) j g) 8)] (q - out.length)) cs := r
 rcases Nat.lt_or_ge q out.length with k | k
 ·have e : Nat.blt q out.length = true := by simpa [Nat.blt_eq] using k
  rw [e, cond_true] at r
  have e2 : cysR (out ++ [g]) q = cysR out q := by simp [cysR, List.getElem?_append_left k]
  rw [e2]
  exact r
 ·have e : Nat.blt q out.length = false := by
   cases hb : Nat.blt q out.length with
   | true => rw [Nat.blt_eq] at hb; omega
   | false => rfl
  have hq' : q = out.length := by omega
  subst hq'
  rw [e, cond_false] at r
  have e2 : cysR (out ++ [g]) out.length = lmv (cyG g) 8 := by simp [cysR]
  rw [e2]
  have e0 : rowOf [MV.sl 6 (perOf g) (fun j => fmv (rhoN (knS g.disc) j g) 8)] (out.length - out.length) = .sl 6 (perOf g) (fun j => fmv (rhoN (knS g.disc) j g) 8) := by rw [Nat.sub_self]; rfl
  rw [e0] at r
  obtain ⟨k1, k2⟩ := lmv_le (n := perOf g) (g := fun j => rhoN (knS g.disc) j g) (l := cyG g) (V := 8) (W := 8) rfl (Nat.le_refl _)
  exact (LeFun.of_le (len := 1) (f := fun _ => .sl 6 (perOf g) (fun j => fmv (rhoN (knS g.disc) j g) 8)) (f' := fun _ => lmv (cyG g) 8) (fun _ _ => ⟨rfl, k1, k2⟩)).h 0 (by omega) c w cs r
def s_cys : FSpec
 | [.big d n] => some (some (n ≤ 100000), .ret (.tup [.sl 1 (cysL d).length (cysR (cysL d)), .int .i64 (knE d)]))
 | _ => none
theorem p_cys : GoodX Tryz.f30 s_cys := by
 intro ms p r h hp hf
 unfold s_cys at h
 split at h
 ·rename_i d n
  simp only [Option.some.injEq, Prod.mk.injEq] at h
  obtain ⟨rfl, rfl⟩ := h
  have h1 : n ≤ 100000 := hp
  refine ⟨xe_cys d (knS d), ?_, allOk_none rfl _⟩
  rw [← vc_cys d n]
  refine ⟨h1, condI bne_iff_ne (fun q => ?_) (fun q => ?_)⟩
  ·have e : cysL d = [] := if_neg q
   exact ⟨⟨rfl, by rw [e]; rfl⟩, rfl, True.intro⟩
  have q := Decidable.not_not.1 q
  obtain ⟨hd, hs, hd2, _⟩ := kn_dis q
  have hcl : cysL d = allG d (knS d) (2 * (knS d).toNat + 1) := if_pos q
  have hs0 := hd.pos
  have hd0 : 0 < d := by
   have := hd.lo
   have := Int.mul_pos hs0 hs0
   omega
  have l1 : (IntKind.min IntKind.i64) = -9223372036854775808 := rfl
  have l2 : (IntKind.max IntKind.i64) = 9223372036854775807 := rfl
  have hgF : ∀ i j : Nat, goF d ⟨i⟩ ⟨j⟩ = ⟨-knS d + (i : Int), (j : Int) + 1, goC d (-knS d + (i : Int)) ((j : Int) + 1)⟩ := fun _ _ => rfl
  generalize hS : knS d = s at *
  rw [l1, l2]
  refine ⟨by omega, by omega, fun B => ⟨⟨⟨0⟩, Nat.zero_le _, ?_, ?_⟩, fun i hi => ?_⟩⟩
  ·have e : IntKind.wrap IntKind.i64 (0 - s) = -s + ((0 : Nat) : Int) := by rw [i64w (by omega) (by omega)]; omega
   rw [e]
   and_intros <;> first | exact True.intro | rfl | exact .inl (Nat.le_refl _)
  ·exact ⟨rfl, rfl, rfl, rfl, fun l _ => rfl⟩
  obtain ⟨i⟩ := i
  have hi : i ≤ 2 * s.toNat + 1 := hi
  dsimp only
  have e9 : ∀ i' : Nat, i' ≤ 2 * s.toNat + 1 → (-s + (i' : Int) + s).toNat = i' := fun i' _ => by omega
  rw [e9 i hi]
  refine condI decide_eq_true_iff (fun q1 => ?_) (fun q1 => ?_)
  rotate_left
  ·obtain rfl : i = 2 * s.toNat + 1 := by omega
   rw [hcl, q]
   exact ⟨Nat.le_refl _, ⟨rfl, rfl, LeFun.refl⟩, rfl, True.intro⟩
  have hlen1 := all_len d s i
  have hmul : i * s.toNat ≤ 511 * 255 := Nat.mul_le_mul (by omega) (by omega)
  refine ⟨⟨⟨0⟩, Nat.zero_le _, ?_, ?_⟩, fun j hj => ?_⟩
  ·and_intros <;> first | exact True.intro | rfl | exact .inl (Nat.le_refl _) | exact LeFun.refl
  ·and_intros <;> first | exact True.intro | rfl | (intro l _; rfl)
  obtain ⟨j⟩ := j
  have hj : j ≤ s.toNat := hj
  dsimp only
  have nxt : ∀ O : List Fm, O = allG d s (i + 1) → O = allG d s (i + 1) := fun _ h => h
  have hai : IntKind.wrap IntKind.i64 (-s + (i : Int) + 1) = -s + ((i + 1 : Nat) : Int) := by rw [i64w (by omega) (by omega)]; omega
  have hbj : IntKind.wrap IntKind.i64 ((j : Int) + 1 + 1) = ((j + 1 : Nat) : Int) + 1 := by rw [i64w (by omega) (by omega)]; omega
  have hlen2 := row_len d (-s + (i : Int)) (allG d s i) j
  refine condI decide_eq_true_iff (fun q2 => condI bne_iff_ne (fun q3 => ?_) (fun q3 => ?_)) (fun q2 => ?_)
  rotate_left
  ·have q3 : -s + (i : Int) = 0 := Decidable.not_not.1 q3
   have e : rowG d (-s + (i : Int)) j (allG d s i) = allG d s (i + 1) := by
    show _ = rowG d (-s + (i : Int)) s.toNat (allG d s i)
    rw [q3, row_zero, row_zero]
   rw [e, hai]
   refine ⟨⟨i + 1⟩, by show i + 1 ≤ _; omega, ?_, ?_, by show 2 * s.toNat + 1 - (i + 1) < 2 * s.toNat + 1 - i; omega⟩
   ·and_intros <;> first | exact True.intro | rfl | exact .inl (Nat.le_refl _) | exact LeFun.refl
   ·and_intros <;> first | exact True.intro | rfl | (intro l _; rfl)
  ·obtain rfl : j = s.toNat := by omega
   have e : rowG d (-s + (i : Int)) s.toNat (allG d s i) = allG d s (i + 1) := rfl
   rw [e, hai]
   refine ⟨⟨i + 1⟩, by show i + 1 ≤ _; omega, ?_, ?_, by show 2 * s.toNat + 1 - (i + 1) < 2 * s.toNat + 1 - i; omega⟩
   ·and_intros <;> first | exact True.intro | rfl | exact .inl (Nat.le_refl _) | exact LeFun.refl
   ·and_intros <;> first | exact True.intro | rfl | (intro l _; rfl)
  obtain ⟨g1, g2, g3⟩ := goC_all (d := d) (a := -s + (i : Int)) (b := (j : Int) + 1) (by omega) (by omega) (by omega) hd0 hd2
  rw [g1, g2]
  generalize hO : rowG d (-s + (i : Int)) j (allG d s i) = O at *
  have hrow : rowG d (-s + (i : Int)) (j + 1) (allG d s i) = procF d O (-s + (i : Int)) ((j : Int) + 1) := by rw [← hO]; rfl
  have hjl : j + 1 ≤ s.toNat := by omega
  have hmj : s.toNat - (j + 1) < s.toNat - j := by omega
  refine ⟨by omega, condI bne_iff_ne (fun q4 => ?_) (fun q4 => ?_)⟩
  ·have hsame : rowG d (-s + (i : Int)) (j + 1) (allG d s i) = O := by
    rw [hrow]
    refine proc_not fun h => ?_
    simp only [goodF, Bool.and_eq_true, decide_eq_true_eq] at h
    exact absurd (Int.tmod_eq_zero_of_dvd (Int.dvd_of_emod_eq_zero h.2.1)) q4
   refine ⟨⟨j + 1⟩, hjl, ?_, ?_, hmj⟩
   ·dsimp only
    rw [hsame, hbj]
    and_intros <;> first | exact True.intro | rfl | exact .inl (Nat.le_refl _) | exact LeFun.refl
   ·dsimp only
    rw [hsame]
    and_intros <;> first | exact True.intro | rfl | (intro l _; rfl)
  have q4 : (d - ((j : Int) + 1) * ((j : Int) + 1)) % (4 * (-s + (i : Int))) = 0 := Int.emod_eq_zero_of_dvd (Int.dvd_of_tmod_eq_zero (Decidable.not_not.1 q4))
  obtain ⟨g4, g5⟩ := g3 q4
  have hcF : goF d ⟨i⟩ ⟨j⟩ = cF d (-s + (i : Int)) ((j : Int) + 1) := by
   rw [hgF, g4]
   rfl
  have htri : seenM O [-s + (i : Int), (j : Int) + 1, goC d (-s + (i : Int)) ((j : Int) + 1)] = seenL O (cF d (-s + (i : Int)) ((j : Int) + 1)) := by
   rw [← hcF, ← seenM_tri, hgF]
   rfl
  have hgood : goodF d (-s + (i : Int)) ((j : Int) + 1) = (redQ (cF d (-s + (i : Int)) ((j : Int) + 1)) && primF (cF d (-s + (i : Int)) ((j : Int) + 1))) := by
   unfold goodF
   rw [decide_eq_true q3, decide_eq_true q4, Bool.true_and, Bool.true_and]
  rw [htri, hcF, g4]
  generalize hF : cF d (-s + (i : Int)) ((j : Int) + 1) = F at *
  refine ⟨by omega, by omega, by omega, by omega, by omega, by and_intros <;> first | exact True.intro | rfl | omega, condI Iff.rfl (fun q5 => ?_) (fun q5 => ⟨by omega, condI Iff.rfl (fun q6 => ?_) (fun q6 => ⟨by omega, condI Iff.rfl (fun q7 => ?_) (fun q7 => ?_)⟩)⟩)⟩
  rotate_right
  ·have q5 : seenL O F = false := by
    cases hb : seenL O F with
    | true => exact absurd hb q5
    | false => rfl
   have q6 : redQ F = true := by
    cases hb : redQ F with
    | true => rfl
    | false => exact absurd (by rw [hb]; rfl) q6
   have q7 : primF F = true := by
    cases hb : primF F with
    | true => rfl
    | false => exact absurd (by rw [hb]; rfl) q7
   have hstep : rowG d (-s + (i : Int)) (j + 1) (allG d s i) = O ++ [F] := by
    rw [hrow]
    unfold procF
    rw [hF]
    exact if_pos ⟨by rw [hgood, q6, q7]; rfl, q5⟩
   obtain ⟨q', hr⟩ := redQ_RD.1 q6
   obtain ⟨hdF, hsF, _⟩ := kn_dis q'
   have hpl := per_le q6
   refine ⟨⟨q6, by omega, by omega, by omega⟩, ⟨⟨0⟩, Nat.zero_le _, ?_, ?_⟩, fun k hk => ?_⟩
   ·and_intros <;> first | exact True.intro | rfl | exact .inl (Nat.le_refl _) | exact LeFun.refl
   ·refine ⟨rfl, rfl, rfl, rfl, fun l _ => ?_⟩
    simp
   obtain ⟨k⟩ := k
   have hk : k ≤ perOf F := hk
   dsimp only
   rw [Int.toNat_natCast]
   have e8 : (2 : Nat) ^ 8 = 256 := rfl
   obtain ⟨s1, s2, s3, _⟩ := (hr.rhoN hdF k).small hdF hsF
   refine condI decide_eq_true_iff (fun q8 => ?_) (fun q8 => ?_)
   ·have ek : IntKind.wrap IntKind.i64 ((k : Int) + 1) = ((k + 1 : Nat) : Int) := by rw [i64w (by omega) (by omega)]; omega
    rw [ek]
    refine ⟨by omega, by omega, by and_intros <;> first | exact True.intro | rfl | omega, ⟨k + 1⟩, by show k + 1 ≤ _; omega, ?_, ?_, by show perOf F - (k + 1) < perOf F - k; omega⟩
    ·and_intros <;> first | exact True.intro | rfl | exact .inl (Nat.le_refl _) | exact LeFun.refl
    ·refine ⟨rfl, rfl, rfl, rfl, fun l _ => ?_⟩
     show (eqL l (tri (rhoN (knS F.disc) k F)) || (seenM O l || (List.range k).any fun q => eqL (tri (rhoN (knS F.disc) q F)) l)) = (seenM O l || (List.range (k + 1)).any fun q => eqL (tri (rhoN (knS F.disc) q F)) l)
     rw [List.range_succ, List.any_append, eqL_comm l]
     simp only [List.any_cons, List.any_nil, Bool.or_false]
     cases seenM O l <;> cases eqL (tri (rhoN (knS F.disc) k F)) l <;> simp
   ·obtain rfl : k = perOf F := by omega
    have nn : News.len (.rows 1 1 (rowOf [MV.sl 6 (perOf F) fun j => fmv (rhoN (knS F.disc) j F) 8])) = 1 := rfl
    rw [nn, hbj]
    refine ⟨⟨Nat.le_refl _, Nat.le_refl _, by omega⟩, ⟨j + 1⟩, hjl, ?_, ?_, hmj⟩
    ·dsimp only
     rw [hstep]
     have hll : (O ++ [F]).length = O.length + 1 := by simp
     rw [hll]
     and_intros <;> first | exact True.intro | rfl | exact .inl (Nat.le_refl _) | exact LeFun.refl | exact le_cys O F
    ·dsimp only
     rw [hstep]
     refine ⟨rfl, rfl, rfl, rfl, fun l _ => (seenM_snoc O F l).symm⟩
  all_goals
   have hsame : rowG d (-s + (i : Int)) (j + 1) (allG d s i) = O := by
    rw [hrow]
    refine proc_not fun h => ?_
    rw [hF]
    rw [hgood] at h
    simp only [Bool.and_eq_true] at h
    first
     | exact q5
     | exact absurd q7 (by rw [h.2]; simp)
     | exact absurd q6 (by rw [h.1]; simp)
   refine ⟨⟨j + 1⟩, hjl, ?_, ?_, hmj⟩
   ·dsimp only
    rw [hsame, hbj]
    and_intros <;> first | exact True.intro | rfl | exact .inl (Nat.le_refl _) | exact LeFun.refl
   ·dsimp only
    rw [hsame]
    and_intros <;> first | exact True.intro | rfl | (intro l _; rfl)
 ·simp at h
noncomputable def c_cys : Ctr Tryz.prog := ⟨30, s_cys, fun args w => Tryz.call30 args w, fnX_ok_facts Tryz.func30 s_cys p_cys⟩
noncomputable def s_class : FSpec
 | [.big d n] => some (some (n ≤ 100000), .ret (.tup [.int .i64 ((cysL d).length : Int), .int .i64 (knE d)]))
 | _ => none
theorem vc_class (d : Int) (n : Nat) : (n ≤ 100000 ∧ (↑(List.length (cysL d)) : Int) = (↑(List.length (cysL d)) : Int) ∧ knE d = knE d ∧ True) = evFn (env [c_cys] noAnn) Tryz.f32 [.big d n] (MRes.sat (.ret (.tup [.int .i64 ((cysL d).length : Int), .int .i64 (knE d)]))) := by kernel_rfl
theorem p_class : Good Tryz.f32 s_class := by
 intro ms p r h hp
 unfold s_class at h
 split at h
 ·rename_i d n
  simp only [Option.some.injEq, Prod.mk.injEq] at h
  obtain ⟨rfl, rfl⟩ := h
  have h1 : n ≤ 100000 := hp
  refine ⟨env [c_cys] noAnn, ?_⟩
  rw [← vc_class d n]
  first | done | (and_intros <;> first | exact True.intro | rfl | exact .inl (Nat.le_refl _) | omega)
 ·simp at h
noncomputable def c_class : Ctr Tryz.prog := ⟨32, s_class, fun args w => Tryz.call32 args w, fn_ok mix Tryz.func32 s_class p_class⟩
end Go.Proofs.YtnfmjlhkknndhaaGreat
/-
 Contracts of functions: algoristref01.Sqrt.
-/
namespace Go.Proofs.YtnfmjlhkknndhaaGreat
open Go Go.RowKit
def s_rleftW : FSpec := fun ms => match s_rleft ms with
 | some (p, l) => some (p, .ret (.ws l))
 | none => none
theorem rleft_ok : ∀ (S : Nat → Prop) (w : World) (ms : List MV) (args : Array Value) (p : OProp) (r : MRes), s_rleftW ms = some (p, r) → p.holds → (∀ b, S b → b < w.heap.size) → GW S w →
  RepAll (Ctx.args S) w ms args.toList → Calls Tryz.prog 117 args w fun e w' => Ext w w' ∧ r.holds (Ctx.res S) w' e := by
 intro S w ms args p r hs hp hS hG hR
 unfold s_rleftW at hs
 cases h : s_rleft ms with
 | none => rw [h] at hs; simp at hs
 | some q =>
  obtain ⟨p', l⟩ := q
  rw [h] at hs
  simp only [Option.some.injEq, Prod.mk.injEq] at hs
  obtain ⟨rfl, rfl⟩ := hs
  refine (evNFn_ok mix Tryz.func117 s_rleft p_rleft S w ms args p' l h hp hS hG hR).mono fun e w' ⟨hext, b, arr, ty, cap, he, hb, hh, hsz, hcap, hl⟩ => ⟨hext, ?_⟩
  subst he
  show Rep (Ctx.res S) w' (.ws l) _
  refine (rep1_iff rfl).2 ((rep1_cell rfl (by simp)).2 ⟨_, rfl, some ⟨b, 0, none⟩, cap, rfl, hcap, fun _ => ⟨b, 0, rfl, fun q => ?_, arr, ty, (0, 0), hh, fun j v hv => ?_⟩⟩)
  ·have := hS b q; omega
  ·simp only [List.getElem?_map, Option.map_eq_some_iff] at hv
   obtain ⟨x, hx, rfl⟩ := hv
   rw [Nat.zero_add]
   exact hl j x hx
def c_rleftW : Ctr Tryz.prog := ⟨117, s_rleftW, fun args w => Tryz.call117 args w, rleft_ok⟩
structure SqI where
 s : Nat
def a_rsqrt (a n : Nat) : Nat → MS → Option LoopAnn
 | 6, e => some (.inv SqI (fun i => 0 < i.s ∧ a < (i.s + 1) * (i.s + 1) ∧ i.s < 2 ^ (n + 1)) (fun i => ⟨42, [(1, .bp 0 0), (2, .bp 1 0), (3, .bp 2 0), (5, .bp 4 0)], setNth e.bx 4 ⟨false, .one (.big (i.s : Int) (n + 1))⟩, 0⟩) (fun i => i.s))
 | _, _ => none
theorem vc_rsqrt (a : Int) (n : Nat) : (bif decide (a < 0) then bif decide (a < 0) then LeB 0 0 0 0 ∧ LeB 0 0 0 0 ∧ (1 : Int) = 1 ∧ True else LeB 0 (↑(nsq (Int.natAbs a)) : Int) 0 n ∧ LeB 0 (a - (↑(nsq (Int.natAbs a)) : Int) * (↑(nsq (Int.natAbs a)) : Int)) 0 (n + n + 1) ∧ (1 : Int) = 0 ∧ True else bif (↑(List.length (limbs (Int.natAbs a))) : Int) == 0 then bif decide (a < 0) then LeB 0 0 0 0 ∧ LeB 0 0 0 0 ∧ (0 : Int) = 1 ∧ True else LeB 0 (↑(nsq (Int.natAbs a)) : Int) 0 n ∧ LeB 0 (a - (↑(nsq (Int.natAbs a)) : Int) * (↑(nsq (Int.natAbs a)) : Int)) 0 (n + n + 1) ∧ (0 : Int) = 0 ∧ True else n ≤ 1000000 ∧ ((2 : Int) = 0 → False) ∧ ((0 : Nat) + 1 ≤ 1 ∧ (∀ (x : Int), x ∈ List.take (1 : Nat) (List.drop (0 : Nat) [(1 : Int)]) → (0 : Int) ≤ x ∧ x < 4294967296) ∧ (0 : Int) ≤ IntKind.wrap IntKind.i64 (Int.tdiv (IntKind.wrap IntKind.i64 ((↑(bl (Int.natAbs a)) : Int) + 1)) (2 : Int)) ∧ IntKind.wrap IntKind.i64 (Int.tdiv (IntKind.wrap IntKind.i64 ((↑(bl (Int.natAbs a)) : Int) + 1)) (2 : Int)) ≤ 1000000000 ∧ (1 : Nat) ≤ 1000000000) ∧ ((∀ (x : Int), x ∈ digs (Int.toNat (IntKind.wrap IntKind.i64 (Int.tdiv (IntKind.wrap IntKind.i64 ((↑(bl (Int.natAbs a)) : Int) + 1)) (2 : Int))) / 32 + 1 + 1) (wv (List.take (1 : Nat) (List.drop (0 : Nat) [(1 : Int)])) * 2 ^ Int.toNat (IntKind.wrap IntKind.i64 (Int.tdiv (IntKind.wrap IntKind.i64 ((↑(bl (Int.natAbs a)) : Int) + 1)) (2 : Int)))) → (0 : Int) ≤ x ∧ x < 4294967296) ∧ List.length (digs (Int.toNat (IntKind.wrap IntKind.i64 (Int.tdiv (IntKind.wrap IntKind.i64 ((↑(bl (Int.natAbs a)) : Int) + 1)) (2 : Int))) / 32 + 1 + 1) (wv (List.take (1 : Nat) (List.drop (0 : Nat) [(1 : Int)])) * 2 ^ Int.toNat (IntKind.wrap IntKind.i64 (Int.tdiv (IntKind.wrap IntKind.i64 ((↑(bl (Int.natAbs a)) : Int) + 1)) (2 : Int))))) ≤ 1000000000) ∧ (∃ i, ((0 : Nat) < SqI.s i ∧ Int.natAbs a < (SqI.s i + 1) * (SqI.s i + 1) ∧ SqI.s i < 2 ^ (n + 1)) ∧ ((0 : Nat) = 0 ∧ (0 : Nat) = 0 ∧ (0 : Nat) = 0 ∧ (0 : Nat) = 0 ∧ True) ∧ LeB a a n n ∧ LeB 0 0 0 0 ∧ LeB 0 0 0 0 ∧ [(1 : Int)] = [(1 : Int)] ∧ LeB (sg false (wv (digs (Int.toNat (IntKind.wrap IntKind.i64 (Int.tdiv (IntKind.wrap IntKind.i64 ((↑(bl (Int.natAbs a)) : Int) + 1)) (2 : Int))) / 32 + 1 + 1) (wv (List.take (1 : Nat) (List.drop (0 : Nat) [(1 : Int)])) * 2 ^ Int.toNat (IntKind.wrap IntKind.i64 (Int.tdiv (IntKind.wrap IntKind.i64 ((↑(bl (Int.natAbs a)) : Int) + 1)) (2 : Int))))))) (↑(SqI.s i) : Int) ((32 : Nat) * List.length (digs (Int.toNat (IntKind.wrap IntKind.i64 (Int.tdiv (IntKind.wrap IntKind.i64 ((↑(bl (Int.natAbs a)) : Int) + 1)) (2 : Int))) / 32 + 1 + 1) (wv (List.take (1 : Nat) (List.drop (0 : Nat) [(1 : Int)])) * 2 ^ Int.toNat (IntKind.wrap IntKind.i64 (Int.tdiv (IntKind.wrap IntKind.i64 ((↑(bl (Int.natAbs a)) : Int) + 1)) (2 : Int)))))) (n + 1) ∧ True) ∧ ∀ (i : SqI), (0 : Nat) < SqI.s i ∧ Int.natAbs a < (SqI.s i + 1) * (SqI.s i + 1) ∧ SqI.s i < 2 ^ (n + 1) → (n ≤ 900000 ∧ n + 1 ≤ 900000 ∧ ((↑(SqI.s i) : Int) = 0 → False)) ∧ (n + 1 ≤ 1000000 ∧ n ≤ 1000000) ∧ Fit 2 ∧ (max (n + 1) n + 1 ≤ 900000 ∧ (64 : Nat) ≤ 900000 ∧ ((2 : Int) = 0 → False)) ∧ (max (n + 1) n + 1 ≤ 1000000 ∧ n + 1 ≤ 1000000) ∧ bif decide (icmp (((↑(SqI.s i) : Int) + a / (↑(SqI.s i) : Int)) / 2) (↑(SqI.s i) : Int) ≥ 0) then (n + 1 ≤ 1000000 ∧ n + 1 ≤ 1000000) ∧ (n ≤ 1000000 ∧ n + 1 + (n + 1) ≤ 1000000) ∧ bif decide (a < 0) then LeB (↑(SqI.s i) : Int) 0 (n + 1) 0 ∧ LeB (a - (↑(SqI.s i) : Int) * (↑(SqI.s i) : Int)) 0 (max n (n + 1 + (n + 1)) + 1) 0 ∧ (0 : Int) = 1 ∧ True else LeB (↑(SqI.s i) : Int) (↑(nsq (Int.natAbs a)) : Int) (n + 1) n ∧ LeB (a - (↑(SqI.s i) : Int) * (↑(SqI.s i) : Int)) (a - (↑(nsq (Int.natAbs a)) : Int) * (↑(nsq (Int.natAbs a)) : Int)) (max n (n + 1 + (n + 1)) + 1) (n + n + 1) ∧ (0 : Int) = 0 ∧ True else ∃ j, ((0 : Nat) < SqI.s j ∧ Int.natAbs a < (SqI.s j + 1) * (SqI.s j + 1) ∧ SqI.s j < 2 ^ (n + 1)) ∧ (((0 : Nat) = 0 ∧ (0 : Nat) = 0 ∧ (0 : Nat) = 0 ∧ (0 : Nat) = 0 ∧ True) ∧ LeB a a n n ∧ LeB 0 0 0 0 ∧ LeB 0 0 0 0 ∧ [(1 : Int)] = [(1 : Int)] ∧ LeB (((↑(SqI.s i) : Int) + a / (↑(SqI.s i) : Int)) / 2) (↑(SqI.s j) : Int) (max (n + 1) n + 1) (n + 1) ∧ True) ∧ SqI.s j < SqI.s i) = evFn (env [c_rbits, c_rleftW, c_rmade, c_rdiv, c_radd, c_rof, c_rcmp, c_rmul, c_rsub] (a_rsqrt a.natAbs n)) Tryz.f96 [.big a n] (MRes.sat (.br (decide (a < 0)) (.ret (.tup [.big 0 0, .big 0 0, .int .i64 1])) (.ret (.tup [.big (nsq a.natAbs) n, .big (a - nsq a.natAbs * nsq a.natAbs) (n + n + 1), .int .i64 0])))) := by kernel_rfl
theorem two_powZ (j : Nat) : (2 : Int) ^ j = ((2 ^ j : Nat) : Int) := by rw [Int.natCast_pow]; rfl
def s_rsqrt : FSpec
 | [.big a n] => some (some (n ≤ 100000), .br (decide (a < 0)) (.ret (.tup [.big 0 0, .big 0 0, .int .i64 1])) (.ret (.tup [.big (nsq a.natAbs) n, .big (a - nsq a.natAbs * nsq a.natAbs) (n + n + 1), .int .i64 0])))
 | _ => none
theorem p_rsqrt : GoodF Tryz.f96 s_rsqrt := by
 intro ms p r h hp hf
 unfold s_rsqrt at h
 split at h
 ·rename_i a n
  simp only [Option.some.injEq, Prod.mk.injEq] at h
  obtain ⟨rfl, rfl⟩ := h
  have h1 : n ≤ 100000 := hp
  have ha : a.natAbs < 2 ^ n := hf.1
  refine ⟨env [c_rbits, c_rleftW, c_rmade, c_rdiv, c_radd, c_rof, c_rcmp, c_rmul, c_rsub] (a_rsqrt a.natAbs n), ?_⟩
  rw [← vc_rsqrt a n]
  by_cases h0 : a < 0
  ·rw [decide_eq_true h0, cond_true, cond_true]
   exact ⟨⟨rfl, .inl (Nat.le_refl _)⟩, ⟨rfl, .inl (Nat.le_refl _)⟩, rfl, True.intro⟩
  rw [decide_eq_false h0]
  rw [cond_false]
  by_cases hz : a = 0
  ·subst hz
   have e : limbs (Int.natAbs 0) = [] := by rw [limbs]; rfl
   rw [e]
   show _ ∧ _ ∧ _ ∧ _
   exact ⟨⟨rfl, .inl (Nat.zero_le _)⟩, ⟨rfl, .inl (Nat.zero_le _)⟩, rfl, True.intro⟩
  have hl : ((((limbs a.natAbs).length : Nat) : Int) == (0 : Int)) = false := by
   have := len_pos_iff a
   rw [decide_eq_true (show a ≠ 0 from hz)] at this
   have := of_decide_eq_true this
   simp only [beq_eq_false_iff_ne]
   omega
  rw [hl, cond_false]
  have hb1 : bl a.natAbs ≤ n := bl_le_of ha
  have hb2 := bl_lt a.natAbs
  have hb0 : 0 < bl a.natAbs := by
   rcases Nat.eq_zero_or_pos (bl a.natAbs) with q | q
   ·rw [q] at hb2; omega
   ·exact q
  generalize hB : bl a.natAbs = b at *
  have e1 : IntKind.wrap IntKind.i64 ((b : Int) + 1) = ((b + 1 : Nat) : Int) := by rw [i64w (by omega) (by omega)]; omega
  have e2 : Int.tdiv ((b + 1 : Nat) : Int) 2 = (((b + 1) / 2 : Nat) : Int) := rfl
  have e3 : IntKind.wrap IntKind.i64 (((b + 1) / 2 : Nat) : Int) = (((b + 1) / 2 : Nat) : Int) := i64w (by omega) (by omega)
  rw [e1, e2, e3, Int.toNat_natCast]
  have hK1 : (b + 1) / 2 ≤ n := by omega
  have hK2 : b ≤ 2 * ((b + 1) / 2) := by omega
  generalize (b + 1) / 2 = K at *
  have w1 : wv (List.take 1 (List.drop 0 [(1 : Int)])) = 1 := rfl
  rw [w1, Int.one_mul, digs_len]
  have hlt : (2 : Int) ^ K < 4294967296 ^ (K / 32 + 1 + 1) := by
   rw [show (4294967296 : Int) = 2 ^ 32 from rfl, ← Int.pow_mul, two_powZ, two_powZ]
   exact Int.ofNat_lt.2 (Nat.pow_lt_pow_right (by omega) (by omega))
  have hge : (0 : Int) ≤ 2 ^ K := by rw [two_powZ]; exact Int.natCast_nonneg _
  rw [wv_digs _ _ hge hlt]
  have sg0 : ∀ z : Int, sg false z = z := fun _ => rfl
  rw [sg0]
  have hKn : 2 ^ K < 2 ^ (n + 1) := Nat.pow_lt_pow_right (by omega) (by omega)
  have hp0 : 0 < 2 ^ K := Nat.two_pow_pos K
  refine ⟨by omega, by omega, ⟨by omega, fun x hx => ?_, by omega, by omega, by omega⟩, ⟨fun x hx => digs_wd _ _ x hx, by omega⟩, ⟨⟨2 ^ K⟩, ⟨hp0, ?_, hKn⟩, ?_⟩, fun i hi => ?_⟩
  ·simp at hx; omega
  ·show a.natAbs < (2 ^ K + 1) * (2 ^ K + 1)
   have k1 : 2 ^ b ≤ 2 ^ (2 * K) := Nat.pow_le_pow_right (by omega) hK2
   have k2 : 2 ^ (2 * K) = 2 ^ K * 2 ^ K := by rw [Nat.two_mul, Nat.pow_add]
   have k3 : 2 ^ K * 2 ^ K ≤ (2 ^ K + 1) * (2 ^ K + 1) := Nat.mul_le_mul (by omega) (by omega)
   omega
  ·dsimp only
   have e7 : ((2 ^ K : Nat) : Int) = 2 ^ K := (two_powZ K).symm
   rw [e7]
   and_intros <;> first | exact True.intro | rfl | exact .inl (Nat.le_refl _) | (right; rw [two_powZ]; exact hKn)
  obtain ⟨s⟩ := i
  obtain ⟨i1, i2, i3⟩ : 0 < s ∧ a.natAbs < (s + 1) * (s + 1) ∧ s < 2 ^ (n + 1) := hi
  dsimp only
  have ea : a = (a.natAbs : Int) := by omega
  have et : ((s : Int) + a / (s : Int)) / 2 = (((s + a.natAbs / s) / 2 : Nat) : Int) := by
   have : a / (s : Int) = ((a.natAbs / s : Nat) : Int) := by rw [ea]; rfl
   rw [this]
   omega
  rw [et]
  have n1 := newton_ge (a := a.natAbs) i1
  have n2 : s ≤ (s + a.natAbs / s) / 2 → s * s ≤ a.natAbs := newton_end
  clear et
  generalize (s + a.natAbs / s) / 2 = T at *
  refine ⟨by omega, by omega, by omega, by omega, by omega, condI cge (fun q => ?_) (fun q => ?_)⟩
  ·have q' : s ≤ T := by omega
   have k1 := n2 q'
   have k2 := nsq_uniq k1 i2
   rw [k2]
   have k3 : s * 1 ≤ s * s := Nat.mul_le_mul_left s i1
   have k4 : ((s * s : Nat) : Int) = (s : Int) * s := Int.natCast_mul s s
   refine ⟨by omega, by omega, ?_⟩
   show _ ∧ _ ∧ _ ∧ _
   refine ⟨⟨rfl, .inr (by omega)⟩, ⟨rfl, .inr ?_⟩, rfl, True.intro⟩
   have : 2 ^ n ≤ 2 ^ (n + n + 1) := Nat.pow_le_pow_right (by omega) (by omega)
   omega
  ·have q' : T < s := by omega
   refine ⟨⟨T⟩, ⟨?_, n1, ?_⟩, ?_, q'⟩
   ·rcases Nat.eq_zero_or_pos T with z | z
    ·rw [z] at n1; omega
    ·exact z
   ·show T < 2 ^ (n + 1)
    omega
   ·and_intros <;> first | exact True.intro | rfl | exact .inl (Nat.le_refl _) | (right; omega)
 ·simp at h
def c_rsqrt : Ctr Tryz.prog := ⟨96, s_rsqrt, fun args w => Tryz.call96 args w, fn_ok_facts mix Tryz.func96 s_rsqrt p_rsqrt⟩
end Go.Proofs.YtnfmjlhkknndhaaGreat
