/-
  The frame of the laws of chapter 04: what is laid (the table of math/bits), the witness, numbers.
-/
import Derived.Test.YtmjklcpdfmgcaaaDoorW4
import Derived.Test.YtmjklcpdfmgcaaaDoorW3
import Derived.Test.YtmjklcpdfmgcaaaDoorW2
import Derived.Test.YtmjklcpdfmgcaaaDoorRows
import Derived.Test.YtmjklcpdfmgcaaaDoorCards
import Derived.Test.YtmjklcpdfmgcaaaDoorTie
import Derived.ProofKit
import Derived.OpenShut
import Derived.JoinedCond
import Derived.LaidMore
import Derived.LaidLaws
import Derived.LaidHandle
import Derived.ChangeVars
import Derived.Stop.Joined
import Derived.ChangeSame
import Derived.MakeChecks

/-
 The evaluator, part 13: what 'evFnX' says is a contract.
-/
namespace Go.Proofs.YtmjklcpdfmgcaaaDoor
open Go Go.RowKit
open Go.IntKind (wrap i64 i32 i16 i8 u64 u32 u16 u8)
section
variable {P : Program} {S0 : Nat → Prop} {w0 : Base}
theorem allOk_none {X : XE P} (hX : X.all = fun _ => none) : ∀ (c : Code), allOk X c
 | .region _ _ _ => by simp [allOk, hX]
 | .seq a b => ⟨allOk_none hX a, allOk_none hX b⟩
 | .cond _ a b => ⟨allOk_none hX a, allOk_none hX b⟩
 | .block _ c => allOk_none hX c
 | .loop c => allOk_none hX c
 | .scope c => allOk_none hX c
 | .rangeFunc _ _ a b => ⟨allOk_none hX a, allOk_none hX b⟩
 | .skip => trivial
 | .label _ => trivial
 | .exit _ => trivial
 | .ret => trivial
 | .goto _ => trivial
 | .refuse _ => trivial
theorem rng_sound (hmix : P.follows .mixedOrders = true) {X : XE P} {n : Nat} : RSnd Fence.wide n P S0 w0 pin0 zs0 (allOk X) (hFn X) := ⟨by
 intro g ps p q s x K c a w Q hQ hall h hs hK
 replace h : rngH X g ps p q s x K := h
 unfold rngH at h
 split at h
 ·rename_i t
  split at h
  ·rename_i f caps hlk
   split at h
   ·rename_i ie hie
    have hief := findIt_spec hie
    subst hief
    split at h
    ·rename_i code hbody
     split at h
     ·rename_i hpe
      generalize hnp : X.rnp (firstRegion q) = np at h
      cases hc : ((caps.length + 1).ble ie.fn.ntmps && ie.fn.results.size.beq 0 && ndCode p && ndCode q && ndCode code) with
      | false => rw [hc] at h; exact h.elim
      | true =>
       rw [hc, cond_true] at h
       simp only [Bool.and_eq_true, Nat.beq_eq, Nat.ble_eq] at hc
       obtain ⟨⟨⟨⟨hcl, hres⟩, hnp1⟩, hnp2⟩, hnp3⟩ := hc
       obtain ⟨w1, Ds, hO, hst, hp, hdf⟩ := id hs
       have hM := hst.mem
       obtain ⟨cs, hv0, hcs, hagg⟩ := rep_cell (show Rep c w (.fn ie.f caps) (a.tmps.getD t undef) from hlk ▸ hst.tm t) rfl (by simp) rfl
       have hgv : a.eval (.tmp t) = .func (.func ie.f) #[] cs.toArray := by
        simp only [List.cons.injEq, and_true] at hv0
        exact hv0
       have hcv := repcs_all caps cs hcs hagg
       have hcsl := repAll_length _ _ hcv
       have hwN : w0.w.heap.size ≤ w.heap.size := Nat.le_trans hO.reb.ext.size hM.ext.size
       refine wpIn_rangeFunc ?_
       intro fn hfn
       obtain ⟨rec, hrec⟩ : ∃ rec : LoopState → Option Code → Loop, ∀ st pe, rec st pe = recOf fn a.tmps ps p q w.heap.size st pe := ⟨_, fun _ _ => rfl⟩
       obtain ⟨W1, hW1⟩ : ∃ W1, (w.alloc (.deferred (some []))).alloc (.loop (rec .ready none)) = W1 := ⟨_, rfl⟩
       have hL1 : W1.heap[w.heap.size + 1]? = some (.loop (rec .ready none)) := by
        rw [← hW1]; have := World.alloc_heap_new (w.alloc (.deferred (some []))) (.loop (rec .ready none)); rwa [World.size_alloc] at this
       have hD1 : W1.heap[w.heap.size]? = some (.deferred (some [])) := by
        rw [← hW1]; exact (Below.heap_alloc _ _ _ (by simp)).trans (World.alloc_heap_new w _)
       have k1 : Moved w0.w.heap.size w W1 := by
        rw [← hW1]
        exact (Moved.alloc hwN _).trans (Moved.alloc (by simp; omega) _)
       have hsame : ∀ e, e < w.heap.size → W1.heap[e]? = w.heap[e]? := fun e he => by
        rw [← hW1]
        exact (Below.heap_alloc _ _ _ (by simp; omega)).trans (Below.heap_alloc _ _ _ he)
       refine ⟨w.heap.size + 1, [markOf w.heap.size], W1, { target := .fn (.func ie.f) cs.toArray, args := #[Value.func (.yield (w.heap.size + 1)) #[] #[]] }, W1, ie.f, #[Value.func (.yield (w.heap.size + 1)) #[] #[]] ++ cs.toArray, W1, ?_, ?_, ?_, ?_, fun h => by simp [Fence.wide] at h, ?_⟩
       ·rw [← hW1, hrec]; exact run_enterLoop_outer _ _ _ _ _
       ·simp only [resolve, hgv]
        simp [go_sem]
       ·intro f' _; trivial
       ·simp [invoke, go_sem, ie.hc]
       ·
        generalize hpI : (fun (i : Nat) (b : Nat) (z : Sz) => i < np ∧ c.live i ∧ c.β i = b ∧ c.sz i = z) = pI
        have hpI' : ∀ i b z, pI i b z ↔ i < np ∧ c.live i ∧ c.β i = b ∧ c.sz i = z := by subst hpI; exact fun _ _ _ => Iff.rfl
        have hOm := hO.move hM k1 (fun e he _ => hsame e he) pI []
        have hL : Extn w0 (baseAt W1 c pI []) (w.heap.size + 1) (.loop (rec .ready none)) := ⟨hL1, fun ⟨i, hi, e⟩ => by have := (hM.fresh i hi).2.1; omega, by omega⟩
        have hD : Extn w0 (baseAt W1 c pI []) w.heap.size (.deferred (some [])) := ⟨hD1, fun ⟨i, hi, e⟩ => by have := (hM.fresh i hi).2.1; omega, by omega⟩
        have hsti : St S0 (baseAt W1 c pI []) ⟨ie.fn.ntmps, numbered 0 (.val (.func (.yield (w.heap.size + 1)) #[] #[]) :: caps), s.bx, np⟩ c { tmps := (#[Value.func (.yield (w.heap.size + 1)) #[] #[]] ++ cs.toArray) ++ Array.replicate (ie.fn.ntmps - (#[Value.func (.yield (w.heap.size + 1)) #[] #[]] ++ cs.toArray).size) undef, defers := [] } W1 := by
         refine ⟨hM.moved k1 pI [] (fun i b z h => ((hpI' i b z).1 h).2), fun u => ?_, by simp; omega, rfl, fun i b z h => ((hpI' i b z).1 h).1⟩
         have hall : RepAll c W1 (.val (.func (.yield (w.heap.size + 1)) #[] #[]) :: caps) (.func (.yield (w.heap.size + 1)) #[] #[] :: cs) := ⟨_, _, rfl, (rep1_cell rfl (by simp)).2 ⟨rfl, rfl⟩, RepAll.moved k1 _ _ hcv⟩
         have := (look_numbered _ _ 0 hall u).2 (Nat.zero_le _)
         rw [Nat.sub_zero] at this
         have e : ((#[Value.func (.yield (w.heap.size + 1)) #[] #[]] ++ cs.toArray) ++ Array.replicate (ie.fn.ntmps - (#[Value.func (.yield (w.heap.size + 1)) #[] #[]] ++ cs.toArray).size) undef).getD u undef = (Value.func (.yield (w.heap.size + 1)) #[] #[] :: cs).getD u undef := by
          have e0 : (#[Value.func (.yield (w.heap.size + 1)) #[] #[]] ++ cs.toArray).toList = Value.func (.yield (w.heap.size + 1)) #[] #[] :: cs := by simp
          rw [← e0]
          simp only [Array.getD_eq_getD_getElem?, List.getD_eq_getElem?_getD, Array.getElem?_toList]
          rw [Array.getElem?_append]
          split
          ·rfl
          ·rename_i hge
           rw [Array.getElem?_replicate, Array.getElem?_eq_none (by omega : (#[Value.func (.yield (w.heap.size + 1)) #[] #[]] ++ cs.toArray).size ≤ u)]
           split <;> rfl
         rw [e]
         exact this
        have hx1 : ∀ ai, St S0 (baseAt W1 c pI []) ⟨ie.fn.ntmps, numbered 0 (.val (.func (.yield (w.heap.size + 1)) #[] #[]) :: caps), s.bx, np⟩ c ai W1 → XSt P S0 w0 pI (zsIt (w.heap.size + 1) rec (w.heap.size :: Ds)) ⟨ie.fn.ntmps, (0, .val (.func (.yield (w.heap.size + 1)) #[] #[])) :: numbered 1 caps, s.bx, np⟩ x c ai W1 := by
         intro ai hsti
         refine ⟨_, [], ⟨hOm.reb, List.nodup_nil, fun D hD => by simp at hD, fun z hz => ?_, hOm.mp, fun z _ => by simp⟩, hsti, fun _ _ _ h => h, rfl⟩
         rw [hpe] at hz
         simp only [zsIt, List.mem_cons, List.map_cons, List.mem_map] at hz
         rcases hz with rfl | rfl | ⟨E, hE, rfl⟩
         ·exact hL
         ·exact hD
         ·exact hOm.ds E hE
        refine callsIn_of_wp_marks ie.hf hbody trivial ?_ rfl
        refine evX_sound (X := { X with E := ie.E, xann := ie.xann, all := fun _ => none }) hmix (fw_wide P) (round_sound hmix hrec ⟨hnp1, hnp2⟩ hall (fun u => hst.tm u) hst.size hpI' _) ⟨fun _ _ _ _ _ _ _ _ _ _ _ _ _ h => h.elim⟩ zsIt_walk code _ x _ c _ W1 _ (fun _ _ hh => ?_) hnp3 (allOk_none rfl code) (h (w.heap.size + 1)) (hx1 _ hsti) (fun e s' x' c' a' w' q1 q2 => ?_)
        ·obtain ⟨a0, w0', hq⟩ := hh
         exact hQ a0 w0' hq
        ·obtain ⟨w2, D2, hO2, hst2, hp2, hdf2⟩ := q2
         have hM2 := hst2.mem
         have hcc : ∀ i, i < np → c.live i → c'.live i ∧ c'.β i = c.β i ∧ c'.sz i = c.sz i := fun i hi hl => hM2.pin i _ _ (hp2 i _ _ ((hpI' i _ _).2 ⟨hi, hl, rfl, rfl⟩))
         have fin : (match x'.pe with
           | none => K .normal ⟨s.n, stayTm np s.tm, s'.bx, s.np⟩ ⟨x'.mp, none⟩
           | some e => K e ⟨s.n, stayTm np s.tm, s'.bx, s.np⟩ ⟨x'.mp, none⟩) → LeavesInM Fence.wide (n - 1) P ie.fn a'.tmps (rangePost Fence.wide n P (w.heap.size + 1) Q { a with defers := [markOf w.heap.size] ++ a.defers }) a'.defers .returning w' := by
          intro hk
          rw [hst2.defers, hdf2]
          refine leaves_marks (N := w0.w.heap.size) D2 w' hO2.nd (fun D hD => ⟨(hO2.ds D hD).lo, ((hO2.ds D hD).now hM2).1⟩) fun w3 k3 hs3 => ?_
          refine ⟨.tuple #[], ?_, ?_⟩
          ·have : ie.fn.results = #[] := Array.eq_empty_of_size_eq_zero hres
           rw [results_eq, this, Array.mapM_eq_mapM_toList]
           simp
          ·have hLx : Extn w0 w2 (w.heap.size + 1) (.loop (match x'.pe with | none => rec .ready none | some e => rec .done (some (exCode e)))) := hO2.zs (w.heap.size + 1, _) (List.mem_cons_self ..)
           have hne : ∀ e o, Extn w0 w2 e o → (∀ ds, o ≠ .deferred ds) → e ∉ D2 := fun e o he ho hm => by
            have h1 := he.at_
            rw [(hO2.ds e hm).at_, Option.some.injEq] at h1
            exact ho _ h1.symm
           have hLn := (hLx.now hM2).1
           have hL3 : w3.heap[w.heap.size + 1]? = some (.loop (match x'.pe with | none => rec .ready none | some e => rec .done (some (exCode e)))) := (hs3 _ (hne _ _ hLx (by simp))).trans hLn
           have hend := run_endLoop (P := P) hL3 (by cases x'.pe <;> (simp only [hrec]; simp [recOf]))
           refine ⟨_, _, hend, ?_⟩
           generalize hw4 : w3.putObj (w.heap.size + 1) (.loop { (match x'.pe with | none => rec .ready none | some e => rec .done (some (exCode e))) with state := .exhausted }) = w4
           have k4 : Moved w0.w.heap.size w3 w4 := by rw [← hw4]; exact Moved.put hL3 (by omega) rfl rfl
           have k := k3.trans k4
           have hs4 : ∀ e, e ∉ D2 → e ≠ w.heap.size + 1 → w4.heap[e]? = w'.heap[e]? := fun e h1 h2 => by rw [← hw4]; exact (World.putObj_heap_other h2).trans (hs3 e h1)
           have hDm : ∀ E, E ∈ w.heap.size :: Ds → Extn w0 w2 E (.deferred (some [])) := fun E hE => hO2.zs (E, _) (by simp only [zsIt, List.mem_cons, List.mem_map]; exact .inr ⟨E, by simpa using hE, rfl⟩)
           have hlast : ∀ E, E ∈ Ds → E < w.heap.size := fun E hE => (Array.getElem?_eq_some_iff.1 ((hO.ds E hE).now hM).1).1
           have hX : K (match x'.pe with | none => .normal | some e => e) ⟨s.n, stayTm np s.tm, s'.bx, s.np⟩ ⟨x'.mp, none⟩ := by
            revert hk
            cases x'.pe <;> exact id
           have hxs : (∀ E ∈ w.heap.size :: Ds, E ∉ D2) → XSt P S0 w0 pin0 zs0 ⟨s.n, stayTm np s.tm, s'.bx, s.np⟩ ⟨x'.mp, none⟩ c' { a with defers := [markOf w.heap.size] ++ a.defers } w4 := by
            intro hdis
            refine ⟨baseAt w4 c' pin0 ([markOf w.heap.size] ++ a.defers), w.heap.size :: Ds, ⟨hO2.reb.move hM2 k pin0 _, List.nodup_cons.2 ⟨fun hm => absurd (hlast _ hm) (Nat.lt_irrefl _), hO.nd⟩, fun E hE => (hDm E hE).move hM2 (hs4 E (hdis E hE) (fun e => by
             rcases List.mem_cons.1 hE with rfl | hE
             ·omega
             ·have := hlast E hE; omega)) _ _, fun z hz => by simp [zs0] at hz, fun B m hB => ?_, fun z hz => by simp [zs0] at hz⟩, ⟨hM2.moved k pin0 _ (fun _ _ _ h => h.elim), fun u => ?_, hst.size, rfl, fun _ _ _ h => h.elim⟩, fun _ _ _ h => h.elim, ?_⟩
            ·obtain ⟨g1, o, g2, g3⟩ := hO2.mp B m hB
             refine ⟨g1, o, g2, g3.move hM2 (hs4 B (hne _ _ g3 (fun ds e => ?_)) (fun e => ?_)) _ _⟩
             ·obtain ⟨es, clock, rfl, _⟩ := g2
              cases e
             ·have h1 := g3.at_
              rw [e, hLx.at_, Option.some.injEq] at h1
              obtain ⟨es, clock, rfl, _⟩ := g2
              cases h1
            ·show Rep c' w4 (look u (stayTm np s.tm)) _
             rw [look_stay]
             exact stayM_rep hcc (hst.tm u)
            ·show [markOf w.heap.size] ++ a.defers = (w.heap.size :: Ds).map markOf
             rw [hst.defers, hdf]
             rfl
           have hxs' := hxs (fun E hE => hO2.dis (E, .deferred (some [])) (by simp only [zsIt, List.mem_cons, List.mem_map]; exact .inr ⟨E, by simpa using hE, rfl⟩))
           have hfin := hK _ _ _ c' _ _ hX hxs'
           cases hpe' : x'.pe with
           | none =>
            rw [hpe'] at hfin
            simp only [hrec]
            exact hfin
           | some e' =>
            rw [hpe'] at hfin
            simp only [hrec]
            cases e' with
            | normal => exact wpIn_skip hfin
            | ret => exact wpIn_ret hfin
            | exit id => exact wpIn_exit hfin
         cases e with
         | normal => exact fin q1
         | ret => exact fin q1
         | exit id => exact q1.elim
     ·exact h.elim
    ·exact h.elim
   ·exact h.elim
  ·exact h.elim
 ·exact h.elim⟩
end
theorem holds_out {c : Ctx} {w : World} : ∀ (r : MRes), ¬ r.holds c w .outgrown
 | .ret _, h => h
 | .pan _, h => h
 | .br b x y, h => by
  simp only [MRes.holds] at h
  cases b with
  | true => exact holds_out x h
  | false => exact holds_out y h
theorem fnY {P : Program} {S0 : Nat → Prop} {w0 : Base} {F : Fence} {n : Nat} {pin : Nat → Nat → Sz → Prop} {zs : Option Ex → List (Nat × Obj)} (X : XE P) : YSnd F n P S0 w0 pin zs (hFn X) := ⟨fun _ _ _ _ _ _ _ _ _ h => (show False from h).elim⟩
theorem fnX_ok {P : Program} (hmix : P.follows .mixedOrders = true) {f : FuncId} {fn : Func} (hf : P.funcs[f]? = some fn) (spec : FSpec)
  (hspec : ∀ ms p r, spec ms = some (p, r) → p.holds → ∃ X : XE P, evFnX X fn ms r.sat ∧ allOk X (fn.body.getD .skip))
  (S : Nat → Prop) (w : World) (ms : List MV) (args : Array Value) (p : OProp) (r : MRes) (hs : spec ms = some (p, r)) (hp : p.holds) (hS : ∀ b, S b → b < w.heap.size) (hG : GW S w)
  (ha : RepAll (Ctx.args S) w ms args.toList) : Calls P f args w fun e w' => Ext w w' ∧ r.holds (Ctx.res S) w' e := by
 obtain ⟨X, h, hall⟩ := hspec ms p r hs hp
 unfold evFnX at h
 split at h
 ·rename_i c hb
  cases hl : (ms.length.ble fn.ntmps && ndCode c) with
  | false => rw [hl] at h; exact h.elim
  | true =>
   rw [hl, cond_true] at h
   simp only [Bool.and_eq_true] at hl
   have hle : ms.length ≤ fn.ntmps := Nat.le_of_ble_eq_true hl.1
   have hst0 := St.start (n := fn.ntmps) hS hG ha hle
   have hx0 : XSt P S (base0 w) pin0 zs0 ⟨fn.ntmps, numbered 0 ms, [], 0⟩ ⟨none, none⟩ (ctxOf S [] (fun _ => False) (fun _ => 0) (fun _ => ⟨0, 0⟩)) { tmps := args ++ Array.replicate (fn.ntmps - args.size) undef, defers := [] } w :=
    ⟨_, [], ⟨Reb.refl _, List.nodup_nil, fun D hD => by simp at hD, fun z hz => by simp [zs0] at hz, fun B m hB => by simp at hB, fun z hz => by simp [zs0] at hz⟩, hst0, fun _ _ _ h => h, rfl⟩
   refine (callsIn_wide (n := 1)).1 (callsIn_of_wp_marks hf hb trivial ?_ rfl)
   refine evX_sound hmix (fw_wide P) (fnY X) (rng_sound hmix) (fun _ z hz => by simp [zs0] at hz) c _ _ _ _ _ w _ (fun _ _ hh => ?_) hl.2 (by rw [hb] at hall; exact hall) h hx0 (fun e s' x' c' a' w' q1 q2 => ?_)
   ·exact holds_out r hh.2
   ·obtain ⟨w2, D2, hO2, hst2, hp2, hdf2⟩ := q2
    have fin : (match evResults P s' fn.results.toList with | some (p, l) => oand p <| r.sat (.ret (oneOrTup l)) | none => StuckRet s') →
      LeavesInM Fence.wide 1 P fn a'.tmps (fun e w' => Ext w w' ∧ r.holds (Ctx.res S) w' e) a'.defers .returning w' := by
     intro hK
     rw [hst2.defers, hdf2]
     refine leaves_marks (N := w.heap.size) D2 w' hO2.nd (fun D hD => ⟨(hO2.ds D hD).lo, ((hO2.ds D hD).now hst2.mem).1⟩) fun w3 k3 _ => ?_
     split at hK
     ·rename_i p l hres
      obtain ⟨hp, hK⟩ := oand_holds.1 hK
      have hst3 := hst2.at k3
      obtain ⟨vs, hvs, hrs⟩ := evResults_ok hst3 _ p l hres hp
      refine ⟨_, ?_, ?_, sat_ret r hK (oneOrTup_rep hrs)⟩
      ·rw [results_eq, Array.mapM_eq_mapM_toList]
       simp only [Sem.run_bind, Sem.run_map, hvs, Result.andThen, Sem.run_pure]
      ·have e := (hO2.reb.move hst2.mem k3 (fun _ _ _ => False) []).ext
       exact e.free (fun _ h => h)
     ·exact hK.elim
    cases e with
    | normal => exact fin q1
    | ret => exact fin q1
    | exit id => exact q1.elim
 ·exact h.elim
end Go.Proofs.YtmjklcpdfmgcaaaDoor
/-
 Contracts of functions: math/bits.Len64, LeadingZeros64, Mul64, Div64, TrailingZeros64.
-/
namespace Go.Proofs.YtmjklcpdfmgcaaaDoor
open Go Go.RowKit
open Go.IntKind (wrap i64 i32 i16 i8 u64 u32 u16 u8)
theorem q58 : ((2 : Int) ^ min (Int.toNat 58) (IntKind.bits u64)) = 288230376151711744 := by decide +kernel
theorem q32 : ((2 : Int) ^ min (Int.toNat 32) (IntKind.bits u64)) = 4294967296 := by decide +kernel
theorem q16 : ((2 : Int) ^ min (Int.toNat 16) (IntKind.bits u64)) = 65536 := by decide +kernel
theorem q8 : ((2 : Int) ^ min (Int.toNat 8) (IntKind.bits u64)) = 256 := by decide +kernel
theorem fd {x : Int} {k : Int} (h : 0 ≤ k) : Int.fdiv x k = x / k := Int.fdiv_eq_ediv_of_nonneg _ h
theorem len_step6 {x : Int} {z k : Nat} (hz : z < 256) (h0 : z ≠ 0) (hk : k ≤ 56) (h : ∃ r, x.toNat = z * 2 ^ k + r ∧ r < 2 ^ k) : i64.wrap ((k : Int) + i64.wrap (byteAt len8tab z)) = (bl x.toNat : Int) := by
 obtain ⟨r, h1, h2⟩ := h
 rw [h1, bl_mul h0 r h2, len8_at hz]
 have := bl8 hz
 have e1 : i64.wrap (bl z : Int) = bl z := i64w (by omega) (by omega)
 rw [e1, i64w (by omega) (by omega)]
 omega
theorem vc_len64 (x : Int) : (bif decide (x ≥ (4294967296 : Int)) then (0 : Int) ≤ (32 : Int) ∧ bif decide (Int.fdiv x ((2 : Int) ^ min (Int.toNat (32 : Int)) (IntKind.bits u64)) ≥ (65536 : Int)) then (0 : Int) ≤ (16 : Int) ∧ bif decide (Int.fdiv (Int.fdiv x ((2 : Int) ^ min (Int.toNat (32 : Int)) (IntKind.bits u64))) ((2 : Int) ^ min (Int.toNat (16 : Int)) (IntKind.bits u64)) ≥ (256 : Int)) then (0 : Int) ≤ (8 : Int) ∧ ((0 : Int) ≤ wrap u8 (Int.fdiv (Int.fdiv (Int.fdiv x ((2 : Int) ^ min (Int.toNat (32 : Int)) (IntKind.bits u64))) ((2 : Int) ^ min (Int.toNat (16 : Int)) (IntKind.bits u64))) ((2 : Int) ^ min (Int.toNat (8 : Int)) (IntKind.bits u64))) ∧ wrap u8 (Int.fdiv (Int.fdiv (Int.fdiv x ((2 : Int) ^ min (Int.toNat (32 : Int)) (IntKind.bits u64))) ((2 : Int) ^ min (Int.toNat (16 : Int)) (IntKind.bits u64))) ((2 : Int) ^ min (Int.toNat (8 : Int)) (IntKind.bits u64))) < (↑(ByteArray.size len8tab) : Int)) ∧ wrap i64 (wrap i64 (wrap i64 ((32 : Int) + (16 : Int)) + (8 : Int)) + wrap i64 (byteAt len8tab (Int.toNat (wrap u8 (Int.fdiv (Int.fdiv (Int.fdiv x ((2 : Int) ^ min (Int.toNat (32 : Int)) (IntKind.bits u64))) ((2 : Int) ^ min (Int.toNat (16 : Int)) (IntKind.bits u64))) ((2 : Int) ^ min (Int.toNat (8 : Int)) (IntKind.bits u64))))))) = (↑(bl (Int.toNat x)) : Int) else ((0 : Int) ≤ wrap u8 (Int.fdiv (Int.fdiv x ((2 : Int) ^ min (Int.toNat (32 : Int)) (IntKind.bits u64))) ((2 : Int) ^ min (Int.toNat (16 : Int)) (IntKind.bits u64))) ∧ wrap u8 (Int.fdiv (Int.fdiv x ((2 : Int) ^ min (Int.toNat (32 : Int)) (IntKind.bits u64))) ((2 : Int) ^ min (Int.toNat (16 : Int)) (IntKind.bits u64))) < (↑(ByteArray.size len8tab) : Int)) ∧ wrap i64 (wrap i64 ((32 : Int) + (16 : Int)) + wrap i64 (byteAt len8tab (Int.toNat (wrap u8 (Int.fdiv (Int.fdiv x ((2 : Int) ^ min (Int.toNat (32 : Int)) (IntKind.bits u64))) ((2 : Int) ^ min (Int.toNat (16 : Int)) (IntKind.bits u64))))))) = (↑(bl (Int.toNat x)) : Int) else bif decide (Int.fdiv x ((2 : Int) ^ min (Int.toNat (32 : Int)) (IntKind.bits u64)) ≥ (256 : Int)) then (0 : Int) ≤ (8 : Int) ∧ ((0 : Int) ≤ wrap u8 (Int.fdiv (Int.fdiv x ((2 : Int) ^ min (Int.toNat (32 : Int)) (IntKind.bits u64))) ((2 : Int) ^ min (Int.toNat (8 : Int)) (IntKind.bits u64))) ∧ wrap u8 (Int.fdiv (Int.fdiv x ((2 : Int) ^ min (Int.toNat (32 : Int)) (IntKind.bits u64))) ((2 : Int) ^ min (Int.toNat (8 : Int)) (IntKind.bits u64))) < (↑(ByteArray.size len8tab) : Int)) ∧ wrap i64 (wrap i64 ((32 : Int) + (8 : Int)) + wrap i64 (byteAt len8tab (Int.toNat (wrap u8 (Int.fdiv (Int.fdiv x ((2 : Int) ^ min (Int.toNat (32 : Int)) (IntKind.bits u64))) ((2 : Int) ^ min (Int.toNat (8 : Int)) (IntKind.bits u64))))))) = (↑(bl (Int.toNat x)) : Int) else ((0 : Int) ≤ wrap u8 (Int.fdiv x ((2 : Int) ^ min (Int.toNat (32 : Int)) (IntKind.bits u64))) ∧ wrap u8 (Int.fdiv x ((2 : Int) ^ min (Int.toNat (32 : Int)) (IntKind.bits u64))) < (↑(ByteArray.size len8tab) : Int)) ∧ wrap i64 ((32 : Int) + wrap i64 (byteAt len8tab (Int.toNat (wrap u8 (Int.fdiv x ((2 : Int) ^ min (Int.toNat (32 : Int)) (IntKind.bits u64))))))) = (↑(bl (Int.toNat x)) : Int) else bif decide (x ≥ (65536 : Int)) then (0 : Int) ≤ (16 : Int) ∧ bif decide (Int.fdiv x ((2 : Int) ^ min (Int.toNat (16 : Int)) (IntKind.bits u64)) ≥ (256 : Int)) then (0 : Int) ≤ (8 : Int) ∧ ((0 : Int) ≤ wrap u8 (Int.fdiv (Int.fdiv x ((2 : Int) ^ min (Int.toNat (16 : Int)) (IntKind.bits u64))) ((2 : Int) ^ min (Int.toNat (8 : Int)) (IntKind.bits u64))) ∧ wrap u8 (Int.fdiv (Int.fdiv x ((2 : Int) ^ min (Int.toNat (16 : Int)) (IntKind.bits u64))) ((2 : Int) ^ min (Int.toNat (8 : Int)) (IntKind.bits u64))) < (↑(ByteArray.size len8tab) : Int)) ∧ wrap i64 (wrap i64 (wrap i64 ((0 : Int) + (16 : Int)) + (8 : Int)) + wrap i64 (byteAt len8tab (Int.toNat (wrap u8 (Int.fdiv (Int.fdiv x ((2 : Int) ^ min (Int.toNat (16 : Int)) (IntKind.bits u64))) ((2 : Int) ^ min (Int.toNat (8 : Int)) (IntKind.bits u64))))))) = (↑(bl (Int.toNat x)) : Int) else ((0 : Int) ≤ wrap u8 (Int.fdiv x ((2 : Int) ^ min (Int.toNat (16 : Int)) (IntKind.bits u64))) ∧ wrap u8 (Int.fdiv x ((2 : Int) ^ min (Int.toNat (16 : Int)) (IntKind.bits u64))) < (↑(ByteArray.size len8tab) : Int)) ∧ wrap i64 (wrap i64 ((0 : Int) + (16 : Int)) + wrap i64 (byteAt len8tab (Int.toNat (wrap u8 (Int.fdiv x ((2 : Int) ^ min (Int.toNat (16 : Int)) (IntKind.bits u64))))))) = (↑(bl (Int.toNat x)) : Int) else bif decide (x ≥ (256 : Int)) then (0 : Int) ≤ (8 : Int) ∧ ((0 : Int) ≤ wrap u8 (Int.fdiv x ((2 : Int) ^ min (Int.toNat (8 : Int)) (IntKind.bits u64))) ∧ wrap u8 (Int.fdiv x ((2 : Int) ^ min (Int.toNat (8 : Int)) (IntKind.bits u64))) < (↑(ByteArray.size len8tab) : Int)) ∧ wrap i64 (wrap i64 ((0 : Int) + (8 : Int)) + wrap i64 (byteAt len8tab (Int.toNat (wrap u8 (Int.fdiv x ((2 : Int) ^ min (Int.toNat (8 : Int)) (IntKind.bits u64))))))) = (↑(bl (Int.toNat x)) : Int) else ((0 : Int) ≤ wrap u8 x ∧ wrap u8 x < (↑(ByteArray.size len8tab) : Int)) ∧ wrap i64 ((0 : Int) + wrap i64 (byteAt len8tab (Int.toNat (wrap u8 x)))) = (↑(bl (Int.toNat x)) : Int)) = evFn (env [] noAnn) Tryd.f93 [.int .u64 x] (MRes.sat (.ret (.int .i64 (bl x.toNat)))) := by kernel_rfl
def s_len64 : FSpec
 | [.int .u64 x] => some (some (0 ≤ x ∧ x < 18446744073709551616), .ret (.int .i64 (bl x.toNat)))
 | _ => none
theorem w56 : i64.wrap (i64.wrap ((32 : Int) + 16) + 8) = 56 := by decide +kernel
theorem w48 : i64.wrap ((32 : Int) + 16) = 48 := by decide +kernel
theorem w40 : i64.wrap ((32 : Int) + 8) = 40 := by decide +kernel
theorem w24' : i64.wrap (i64.wrap ((0 : Int) + 16) + 8) = 24 := by decide +kernel
theorem w16' : i64.wrap ((0 : Int) + 16) = 16 := by decide +kernel
theorem p_len64 : Good Tryd.f93 s_len64 := by
 intro ms p r h hp
 unfold s_len64 at h
 split at h
 ·rename_i x
  simp only [Option.some.injEq, Prod.mk.injEq] at h
  obtain ⟨rfl, rfl⟩ := h
  obtain ⟨h1, h2⟩ : 0 ≤ x ∧ x < 18446744073709551616 := hp
  refine ⟨env [] noAnn, ?_⟩
  rw [← vc_len64 x, q32, q16, q8, len8_size, w56, w48, w40, w24', w16', w8]
  simp only [u8w, fd (show (0 : Int) ≤ 4294967296 by omega), fd (show (0 : Int) ≤ 65536 by omega), fd (show (0 : Int) ≤ 256 by omega), Bool.cond_decide]
  split
  ·refine ⟨by omega, ?_⟩
   split
   ·refine ⟨by omega, ?_⟩
    split
    ·refine ⟨by omega, by omega, ?_⟩
     exact len_step6 (z := (x / 4294967296 / 65536 / 256 % 256).toNat) (k := 56) (by omega) (by omega) (by omega) ⟨(x % 72057594037927936).toNat, by omega, by omega⟩
    ·refine ⟨by omega, ?_⟩
     exact len_step6 (z := (x / 4294967296 / 65536 % 256).toNat) (k := 48) (by omega) (by omega) (by omega) ⟨(x % 281474976710656).toNat, by omega, by omega⟩
   ·split
    ·refine ⟨by omega, by omega, ?_⟩
     exact len_step6 (z := (x / 4294967296 / 256 % 256).toNat) (k := 40) (by omega) (by omega) (by omega) ⟨(x % 1099511627776).toNat, by omega, by omega⟩
    ·refine ⟨by omega, ?_⟩
     exact len_step6 (z := (x / 4294967296 % 256).toNat) (k := 32) (by omega) (by omega) (by omega) ⟨(x % 4294967296).toNat, by omega, by omega⟩
  ·split
   ·refine ⟨by omega, ?_⟩
    split
    ·refine ⟨by omega, by omega, ?_⟩
     exact len_step6 (z := (x / 65536 / 256 % 256).toNat) (k := 24) (by omega) (by omega) (by omega) ⟨(x % 16777216).toNat, by omega, by omega⟩
    ·refine ⟨by omega, ?_⟩
     exact len_step6 (z := (x / 65536 % 256).toNat) (k := 16) (by omega) (by omega) (by omega) ⟨(x % 65536).toNat, by omega, by omega⟩
   ·split
    ·refine ⟨by omega, by omega, ?_⟩
     exact len_step6 (z := (x / 256 % 256).toNat) (k := 8) (by omega) (by omega) (by omega) ⟨(x % 256).toNat, by omega, by omega⟩
    ·refine ⟨by omega, ?_⟩
     by_cases e : x = 0
     ·subst e
      have : ((0 : Int) % 256).toNat = 0 := by omega
      rw [this, len8_at (by omega), bl_zero]
      decide +kernel
     ·exact len_step6 (z := (x % 256).toNat) (k := 0) (by omega) (by omega) (by omega) ⟨0, by omega, by omega⟩
 ·simp at h
def c_len64 : Ctr Tryd.prog := ⟨93, s_len64, fun args w => Tryd.call93 args w, fn_ok mix Tryd.func93 s_len64 p_len64⟩
theorem bl64 {x : Int} (h : x < 18446744073709551616) : bl x.toNat ≤ 64 := bl_le_of (show x.toNat < 2 ^ 64 by omega)
def s_lz64 : FSpec
 | [.int .u64 x] => some (some (0 ≤ x ∧ x < 18446744073709551616), .ret (.int .i64 (64 - bl x.toNat)))
 | _ => none
theorem vc_lz64 (x : Int) : (((0 : Int) ≤ x ∧ x < (18446744073709551616 : Int)) ∧ wrap i64 ((64 : Int) - (↑(bl (Int.toNat x)) : Int)) = (64 : Int) - (↑(bl (Int.toNat x)) : Int)) = evFn (env [c_len64] noAnn) Tryd.f83 [.int .u64 x] (MRes.sat (.ret (.int .i64 (64 - bl x.toNat)))) := by kernel_rfl
theorem p_lz64 : Good Tryd.f83 s_lz64 := by
 intro ms p r h hp
 unfold s_lz64 at h
 split at h
 ·rename_i x
  simp only [Option.some.injEq, Prod.mk.injEq] at h
  obtain ⟨rfl, rfl⟩ := h
  obtain ⟨h1, h2⟩ : 0 ≤ x ∧ x < 18446744073709551616 := hp
  refine ⟨env [c_len64] noAnn, ?_⟩
  rw [← vc_lz64 x]
  have := bl64 h2
  refine ⟨⟨h1, h2⟩, i64w (by omega) (by omega)⟩
 ·simp at h
def c_lz64 : Ctr Tryd.prog := ⟨83, s_lz64, fun args w => Tryd.call83 args w, fn_ok mix Tryd.func83 s_lz64 p_lz64⟩
/-! ### Mul64 -/
theorem vc_mul64 (x y h l : Int) : ((0 : Int) ≤ (32 : Int) ∧ (0 : Int) ≤ (32 : Int) ∧ (0 : Int) ≤ (32 : Int) ∧ (0 : Int) ≤ (32 : Int) ∧ (0 : Int) ≤ (32 : Int) ∧ wrap u64 (wrap u64 (wrap u64 (Int.fdiv x ((2 : Int) ^ min (Int.toNat (32 : Int)) (IntKind.bits u64)) * Int.fdiv y ((2 : Int) ^ min (Int.toNat (32 : Int)) (IntKind.bits u64))) + Int.fdiv (wrap u64 (wrap u64 (Int.fdiv x ((2 : Int) ^ min (Int.toNat (32 : Int)) (IntKind.bits u64)) * wrap u64 (↑(BitVec.toNat (BitVec.ofInt (IntKind.bits u64) y &&& BitVec.ofInt (IntKind.bits u64) (4294967295 : Int))) : Int)) + Int.fdiv (wrap u64 (wrap u64 (↑(BitVec.toNat (BitVec.ofInt (IntKind.bits u64) x &&& BitVec.ofInt (IntKind.bits u64) (4294967295 : Int))) : Int) * wrap u64 (↑(BitVec.toNat (BitVec.ofInt (IntKind.bits u64) y &&& BitVec.ofInt (IntKind.bits u64) (4294967295 : Int))) : Int))) ((2 : Int) ^ min (Int.toNat (32 : Int)) (IntKind.bits u64)))) ((2 : Int) ^ min (Int.toNat (32 : Int)) (IntKind.bits u64))) + Int.fdiv (wrap u64 (wrap u64 (↑(BitVec.toNat (BitVec.ofInt (IntKind.bits u64) (wrap u64 (wrap u64 (Int.fdiv x ((2 : Int) ^ min (Int.toNat (32 : Int)) (IntKind.bits u64)) * wrap u64 (↑(BitVec.toNat (BitVec.ofInt (IntKind.bits u64) y &&& BitVec.ofInt (IntKind.bits u64) (4294967295 : Int))) : Int)) + Int.fdiv (wrap u64 (wrap u64 (↑(BitVec.toNat (BitVec.ofInt (IntKind.bits u64) x &&& BitVec.ofInt (IntKind.bits u64) (4294967295 : Int))) : Int) * wrap u64 (↑(BitVec.toNat (BitVec.ofInt (IntKind.bits u64) y &&& BitVec.ofInt (IntKind.bits u64) (4294967295 : Int))) : Int))) ((2 : Int) ^ min (Int.toNat (32 : Int)) (IntKind.bits u64)))) &&& BitVec.ofInt (IntKind.bits u64) (4294967295 : Int))) : Int) + wrap u64 (wrap u64 (↑(BitVec.toNat (BitVec.ofInt (IntKind.bits u64) x &&& BitVec.ofInt (IntKind.bits u64) (4294967295 : Int))) : Int) * Int.fdiv y ((2 : Int) ^ min (Int.toNat (32 : Int)) (IntKind.bits u64))))) ((2 : Int) ^ min (Int.toNat (32 : Int)) (IntKind.bits u64))) = h ∧ wrap u64 (x * y) = l ∧ True) = evFn (env [] noAnn) Tryd.f66 [.int .u64 x, .int .u64 y] (MRes.sat (.ret (.tup [.int .u64 h, .int .u64 l]))) := by kernel_rfl
theorem and_lowI {x : Int} (h0 : 0 ≤ x) (h : x < 18446744073709551616) : wrap u64 ((BitVec.ofInt (IntKind.bits u64) x &&& BitVec.ofInt (IntKind.bits u64) 4294967295).toNat : Int) = x % 4294967296 := by
 have := and_low64 x.toNat (by omega)
 rw [show ((x.toNat : Nat) : Int) = x by omega] at this
 rw [this]; omega
theorem mul_hi {x0 x1 y0 y1 : Int} (a0 : 0 ≤ x0) (a1 : x0 < 4294967296) (b0 : 0 ≤ x1) (b1 : x1 < 4294967296) (c0 : 0 ≤ y0) (c1 : y0 < 4294967296) (d0 : 0 ≤ y1) (d1 : y1 < 4294967296) :
  x1 * y1 + (x1 * y0 + x0 * y0 / 4294967296) / 4294967296 + ((x1 * y0 + x0 * y0 / 4294967296) % 4294967296 + x0 * y1) / 4294967296 = (x1 * 4294967296 + x0) * (y1 * 4294967296 + y0) / 18446744073709551616 := by
 have e : (x1 * 4294967296 + x0) * (y1 * 4294967296 + y0) = x1 * y1 * 18446744073709551616 + (x1 * y0 + x0 * y1) * 4294967296 + x0 * y0 := by
  rw [Int.add_mul, Int.mul_add, Int.mul_add]
  have e1 : x1 * 4294967296 * (y1 * 4294967296) = x1 * y1 * 18446744073709551616 := by
   rw [Int.mul_assoc, Int.mul_left_comm 4294967296 y1, ← Int.mul_assoc]; rfl
  have e2 : x1 * 4294967296 * y0 = x1 * y0 * 4294967296 := by rw [Int.mul_right_comm]
  have e3 : x0 * (y1 * 4294967296) = x0 * y1 * 4294967296 := by rw [← Int.mul_assoc]
  rw [e1, e2, e3]; omega
 rw [e]
 have h1 := mul_lt_sq a0 a1 c0 c1
 have h2 := mul_lt_sq b0 b1 c0 c1
 have h3 := mul_lt_sq a0 a1 d0 d1
 have h4 := mul_lt_sq b0 b1 d0 d1
 generalize x0 * y0 = p at *
 generalize x1 * y0 = q at *
 generalize x0 * y1 = r at *
 generalize x1 * y1 = s at *
 omega
def s_mul64 : FSpec
 | [.int .u64 x, .int .u64 y] => some (some ((0 ≤ x ∧ x < 18446744073709551616) ∧ 0 ≤ y ∧ y < 18446744073709551616), .ret (.tup [.int .u64 (x * y / 18446744073709551616), .int .u64 (x * y % 18446744073709551616)]))
 | _ => none
theorem p_mul64 : Good Tryd.f66 s_mul64 := by
 intro ms p r h hp
 unfold s_mul64 at h
 split at h
 ·rename_i x y
  simp only [Option.some.injEq, Prod.mk.injEq] at h
  obtain ⟨rfl, rfl⟩ := h
  obtain ⟨⟨hx0, hx1⟩, hy0, hy1⟩ : (0 ≤ x ∧ x < 18446744073709551616) ∧ 0 ≤ y ∧ y < 18446744073709551616 := hp
  refine ⟨env [] noAnn, ?_⟩
  rw [← vc_mul64 x y, q32]
  simp only [fd (show (0 : Int) ≤ 4294967296 by omega)]
  rw [and_lowI hx0 hx1, and_lowI hy0 hy1]
  have ex : x = x / 4294967296 * 4294967296 + x % 4294967296 := by omega
  have ey : y = y / 4294967296 * 4294967296 + y % 4294967296 := by omega
  have a0 : 0 ≤ x % 4294967296 := by omega
  have a1 : x % 4294967296 < 4294967296 := by omega
  have b0 : 0 ≤ x / 4294967296 := by omega
  have b1 : x / 4294967296 < 4294967296 := by omega
  have c0 : 0 ≤ y % 4294967296 := by omega
  have c1 : y % 4294967296 < 4294967296 := by omega
  have d0 : 0 ≤ y / 4294967296 := by omega
  have d1 : y / 4294967296 < 4294967296 := by omega
  have hm := mul_hi a0 a1 b0 b1 c0 c1 d0 d1
  rw [← ex, ← ey] at hm
  generalize x % 4294967296 = x0 at *
  generalize x / 4294967296 = x1 at *
  generalize y % 4294967296 = y0 at *
  generalize y / 4294967296 = y1 at *
  have h1 := mul_lt_sq a0 a1 c0 c1
  have h2 := mul_lt_sq b0 b1 c0 c1
  have h3 := mul_lt_sq a0 a1 d0 d1
  have h4 := mul_lt_sq b0 b1 d0 d1
  rw [u64i h1.1 (by omega), u64i h2.1 (by omega), u64i h3.1 (by omega), u64i h4.1 (by omega)]
  have t0 : 0 ≤ x0 * y0 / 4294967296 := by omega
  have t1 : x0 * y0 / 4294967296 < 4294967296 := by omega
  rw [u64i (x := x1 * y0 + x0 * y0 / 4294967296) (by omega) (by omega), and_lowI (x := x1 * y0 + x0 * y0 / 4294967296) (by omega) (by omega)]
  rw [u64i (x := (x1 * y0 + x0 * y0 / 4294967296) % 4294967296 + x0 * y1) (by omega) (by omega)]
  have hz : 0 ≤ x1 * y1 + (x1 * y0 + x0 * y0 / 4294967296) / 4294967296 := by omega
  have hz2 : x1 * y1 + (x1 * y0 + x0 * y0 / 4294967296) / 4294967296 + ((x1 * y0 + x0 * y0 / 4294967296) % 4294967296 + x0 * y1) / 4294967296 ≤ 18446744073709551615 := by
   generalize x0 * y0 = p at *
   generalize x1 * y0 = q at *
   generalize x0 * y1 = r at *
   generalize x1 * y1 = s at *
   omega
  rw [u64i hz (by omega), u64i (by omega) hz2, hm, u64w]
  and_intros <;> first | exact True.intro | rfl | omega
 ·simp at h
def c_mul64 : Ctr Tryd.prog := ⟨66, s_mul64, fun args w => Tryd.call66 args w, fn_ok mix Tryd.func66 s_mul64 p_mul64⟩
/-! ### TrailingZeros64 -/
theorem vc_tz64 (x z : Int) : (bif x == (0 : Int) then (64 : Int) = z else (0 : Int) ≤ (58 : Int) ∧ ((0 : Int) ≤ Int.fdiv (wrap u64 (wrap u64 (↑(BitVec.toNat (BitVec.ofInt (IntKind.bits u64) x &&& BitVec.ofInt (IntKind.bits u64) (wrap u64 ((0 : Int) - x)))) : Int) * (285870213051353865 : Int))) ((2 : Int) ^ min (Int.toNat (58 : Int)) (IntKind.bits u64)) ∧ Int.fdiv (wrap u64 (wrap u64 (↑(BitVec.toNat (BitVec.ofInt (IntKind.bits u64) x &&& BitVec.ofInt (IntKind.bits u64) (wrap u64 ((0 : Int) - x)))) : Int) * (285870213051353865 : Int))) ((2 : Int) ^ min (Int.toNat (58 : Int)) (IntKind.bits u64)) < (↑(64 : Nat) : Int)) ∧ wrap i64 (List.getD gList (Int.toNat (Int.fdiv (wrap u64 (wrap u64 (↑(BitVec.toNat (BitVec.ofInt (IntKind.bits u64) x &&& BitVec.ofInt (IntKind.bits u64) (wrap u64 ((0 : Int) - x)))) : Int) * (285870213051353865 : Int))) ((2 : Int) ^ min (Int.toNat (58 : Int)) (IntKind.bits u64)))) (0 : Int)) = z) = evFn (env [] noAnn) Tryd.f44 [.int .u64 x] (MRes.sat (.ret (.int .i64 z))) := by kernel_rfl
theorem tz_table : ∀ k : Fin 64, 2 ^ k.1 * 285870213051353865 % 18446744073709551616 / 288230376151711744 < 64 ∧ gList.getD (2 ^ k.1 * 285870213051353865 % 18446744073709551616 / 288230376151711744) 0 = (k.1 : Int) := by decide +kernel
theorem and_negI {x : Int} (h0 : 0 < x) (h : x < 18446744073709551616) : wrap u64 ((BitVec.ofInt (IntKind.bits u64) x &&& BitVec.ofInt (IntKind.bits u64) (wrap u64 (0 - x))).toNat : Int) = ((2 ^ tzF 64 x.toNat : Nat) : Int) := by
 obtain ⟨n, rfl⟩ : ∃ n : Nat, x = n := ⟨x.toNat, by omega⟩
 have e1 : wrap u64 (0 - (n : Int)) = ((18446744073709551616 - n : Nat) : Int) := by rw [u64w]; omega
 rw [e1, Int.toNat_natCast, BitVec.toNat_and]
 have b1 : (BitVec.ofInt (IntKind.bits u64) (n : Int)).toNat = n := bv64 n (by omega)
 have b2 : (BitVec.ofInt (IntKind.bits u64) ((18446744073709551616 - n : Nat) : Int)).toNat = 18446744073709551616 - n := bv64 _ (by omega)
 rw [b1, b2]
 have ha := and_neg 64 n (by omega) (show n < 18446744073709551616 by omega)
 have ha : n &&& (18446744073709551616 - n) = 2 ^ tzF 64 n := ha
 have hk := (tzF_ok 64 n (by omega) (show n < 18446744073709551616 by omega)).l
 rw [ha]
 have hp : 2 ^ tzF 64 n < 2 ^ 64 := Nat.pow_lt_pow_right (by omega) hk
 have : (2 : Nat) ^ 64 = 18446744073709551616 := rfl
 exact u64i (by omega) (by omega)
def s_tz64 : FSpec
 | [.int .u64 x] => some (some (0 < x ∧ x < 18446744073709551616), .ret (.int .i64 (tzF 64 x.toNat)))
 | _ => none
theorem p_tz64 : Good Tryd.f44 s_tz64 := by
 intro ms p r h hp
 unfold s_tz64 at h
 split at h
 ·rename_i x
  simp only [Option.some.injEq, Prod.mk.injEq] at h
  obtain ⟨rfl, rfl⟩ := h
  obtain ⟨h0, h1⟩ : 0 < x ∧ x < 18446744073709551616 := hp
  refine ⟨env [] noAnn, ?_⟩
  rw [← vc_tz64 x, q58, and_negI h0 h1]
  have hk := (tzF_ok 64 x.toNat (by omega) (show x.toNat < 18446744073709551616 by omega)).l
  generalize tzF 64 x.toNat = k at hk ⊢
  obtain ⟨t1, t2⟩ := tz_table ⟨k, hk⟩
  simp only at t1 t2
  have e : Int.fdiv (wrap u64 (((2 ^ k : Nat) : Int) * 285870213051353865)) 288230376151711744 = ((2 ^ k * 285870213051353865 % 18446744073709551616 / 288230376151711744 : Nat) : Int) := by
   rw [fd (by omega), u64w]
   generalize (2 : Nat) ^ k = P
   omega
  rw [e, Int.toNat_natCast, t2]
  exact condF (beqI0 (by omega)) ⟨by omega, ⟨by omega, by omega⟩, i64w (by omega) (by omega)⟩
 ·simp at h
def c_tz64 : Ctr Tryd.prog := ⟨44, s_tz64, fun args w => Tryd.call44 args w, fn_ok mix Tryd.func44 s_tz64 p_tz64⟩
/-! ### Div64 -/
def dqT (Y S a b U c d q r V : Int) (k : Nat) : MS :=
 cond (Nat.beq k 0) ⟨135, [(2, .int .u64 Y), (8, .int .u64 S), (9, .int .u64 a), (10, .int .u64 b), (11, .int .u64 U), (13, .int .u64 c), (14, .int .u64 d), (15, .int .u64 q), (16, .int .u64 r)], [], 0⟩
  ⟨135, [(2, .int .u64 Y), (8, .int .u64 S), (9, .int .u64 a), (10, .int .u64 b), (14, .int .u64 d), (15, .int .u64 V), (17, .int .u64 U), (18, .int .u64 q), (16, .int .u64 r)], [], 0⟩
def a_div64 (Y S a b U V c d Q : Int) : Nat → MS → Option LoopAnn
 | 17, _ => some (.inv DQ (DqI a U c Y) (fun i => dqT Y S a b U c d i.q i.r 0 0) (fun i => i.q.toNat))
 | 24, _ => some (.inv DQ (DqI a V d Y) (fun i => dqT Y S a b V 0 d i.q i.r Q 1) (fun i => i.q.toNat))
 | _, _ => none
def k_div64 (Y S a b U V c d Q q : Int) : Nat → MS → Option CutAnn
 | 21, _ => some (.mk Nat (fun i => i = 0) (fun _ => ⟨135, [(2, .int .u64 Y), (8, .int .u64 S), (9, .int .u64 a), (10, .int .u64 b), (11, .int .u64 U), (13, .int .u64 c), (14, .int .u64 d), (15, .int .u64 Q)], [], 0⟩))
 | 28, _ => some (.mk Nat (fun i => i = 0) (fun _ => ⟨135, [(2, .int .u64 Y), (8, .int .u64 S), (14, .int .u64 d), (15, .int .u64 Q), (17, .int .u64 V), (18, .int .u64 q)], [], 0⟩))
 | _, _ => none
def envK (Γ : List (Ctr Tryd.prog)) (ann : Nat → MS → Option LoopAnn) (cut : Nat → MS → Option CutAnn) : Env Tryd.prog := ⟨Γ, [], 27, ann, fun _ => [], cut⟩
theorem vc_div64 (h l y Y S a b U V c d Q q A B : Int) : (bif y == (0 : Int) then False else bif decide (y ≤ h) then False else bif h == (0 : Int) then (y = (0 : Int) → False) ∧ (y = (0 : Int) → False) ∧ wrap u64 (Int.tdiv l y) = A ∧ Int.tmod l y = B ∧ True else ((0 : Int) ≤ y ∧ y < (18446744073709551616 : Int)) ∧ (0 : Int) ≤ wrap u64 ((64 : Int) - (↑(bl (Int.toNat y)) : Int)) ∧ (0 : Int) ≤ (32 : Int) ∧ (0 : Int) ≤ wrap u64 ((64 : Int) - (↑(bl (Int.toNat y)) : Int)) ∧ (0 : Int) ≤ wrap u64 ((64 : Int) - wrap u64 ((64 : Int) - (↑(bl (Int.toNat y)) : Int))) ∧ (0 : Int) ≤ wrap u64 ((64 : Int) - (↑(bl (Int.toNat y)) : Int)) ∧ (0 : Int) ≤ (32 : Int) ∧ (Int.fdiv (wrap u64 (y * (2 : Int) ^ min (Int.toNat (wrap u64 ((64 : Int) - (↑(bl (Int.toNat y)) : Int)))) (IntKind.bits u64))) ((2 : Int) ^ min (Int.toNat (32 : Int)) (IntKind.bits u64)) = (0 : Int) → False) ∧ ((∃ i, DqI a U c Y i ∧ (wrap u64 (y * (2 : Int) ^ min (Int.toNat (wrap u64 ((64 : Int) - (↑(bl (Int.toNat y)) : Int)))) (IntKind.bits u64)) = Y ∧ wrap u64 ((64 : Int) - (↑(bl (Int.toNat y)) : Int)) = S ∧ Int.fdiv (wrap u64 (y * (2 : Int) ^ min (Int.toNat (wrap u64 ((64 : Int) - (↑(bl (Int.toNat y)) : Int)))) (IntKind.bits u64))) ((2 : Int) ^ min (Int.toNat (32 : Int)) (IntKind.bits u64)) = a ∧ wrap u64 (↑(BitVec.toNat (BitVec.ofInt (IntKind.bits u64) (wrap u64 (y * (2 : Int) ^ min (Int.toNat (wrap u64 ((64 : Int) - (↑(bl (Int.toNat y)) : Int)))) (IntKind.bits u64))) &&& BitVec.ofInt (IntKind.bits u64) (4294967295 : Int))) : Int) = b ∧ wrap u64 (↑(BitVec.toNat (BitVec.ofInt (IntKind.bits u64) (wrap u64 (h * (2 : Int) ^ min (Int.toNat (wrap u64 ((64 : Int) - (↑(bl (Int.toNat y)) : Int)))) (IntKind.bits u64))) ||| BitVec.ofInt (IntKind.bits u64) (Int.fdiv l ((2 : Int) ^ min (Int.toNat (wrap u64 ((64 : Int) - wrap u64 ((64 : Int) - (↑(bl (Int.toNat y)) : Int))))) (IntKind.bits u64))))) : Int) = U ∧ Int.fdiv (wrap u64 (l * (2 : Int) ^ min (Int.toNat (wrap u64 ((64 : Int) - (↑(bl (Int.toNat y)) : Int)))) (IntKind.bits u64))) ((2 : Int) ^ min (Int.toNat (32 : Int)) (IntKind.bits u64)) = c ∧ wrap u64 (↑(BitVec.toNat (BitVec.ofInt (IntKind.bits u64) (wrap u64 (l * (2 : Int) ^ min (Int.toNat (wrap u64 ((64 : Int) - (↑(bl (Int.toNat y)) : Int)))) (IntKind.bits u64))) &&& BitVec.ofInt (IntKind.bits u64) (4294967295 : Int))) : Int) = d ∧ wrap u64 (Int.tdiv (wrap u64 (↑(BitVec.toNat (BitVec.ofInt (IntKind.bits u64) (wrap u64 (h * (2 : Int) ^ min (Int.toNat (wrap u64 ((64 : Int) - (↑(bl (Int.toNat y)) : Int)))) (IntKind.bits u64))) ||| BitVec.ofInt (IntKind.bits u64) (Int.fdiv l ((2 : Int) ^ min (Int.toNat (wrap u64 ((64 : Int) - wrap u64 ((64 : Int) - (↑(bl (Int.toNat y)) : Int))))) (IntKind.bits u64))))) : Int)) (Int.fdiv (wrap u64 (y * (2 : Int) ^ min (Int.toNat (wrap u64 ((64 : Int) - (↑(bl (Int.toNat y)) : Int)))) (IntKind.bits u64))) ((2 : Int) ^ min (Int.toNat (32 : Int)) (IntKind.bits u64)))) = DQ.q i ∧ wrap u64 (wrap u64 (↑(BitVec.toNat (BitVec.ofInt (IntKind.bits u64) (wrap u64 (h * (2 : Int) ^ min (Int.toNat (wrap u64 ((64 : Int) - (↑(bl (Int.toNat y)) : Int)))) (IntKind.bits u64))) ||| BitVec.ofInt (IntKind.bits u64) (Int.fdiv l ((2 : Int) ^ min (Int.toNat (wrap u64 ((64 : Int) - wrap u64 ((64 : Int) - (↑(bl (Int.toNat y)) : Int))))) (IntKind.bits u64))))) : Int) - wrap u64 (wrap u64 (Int.tdiv (wrap u64 (↑(BitVec.toNat (BitVec.ofInt (IntKind.bits u64) (wrap u64 (h * (2 : Int) ^ min (Int.toNat (wrap u64 ((64 : Int) - (↑(bl (Int.toNat y)) : Int)))) (IntKind.bits u64))) ||| BitVec.ofInt (IntKind.bits u64) (Int.fdiv l ((2 : Int) ^ min (Int.toNat (wrap u64 ((64 : Int) - wrap u64 ((64 : Int) - (↑(bl (Int.toNat y)) : Int))))) (IntKind.bits u64))))) : Int)) (Int.fdiv (wrap u64 (y * (2 : Int) ^ min (Int.toNat (wrap u64 ((64 : Int) - (↑(bl (Int.toNat y)) : Int)))) (IntKind.bits u64))) ((2 : Int) ^ min (Int.toNat (32 : Int)) (IntKind.bits u64)))) * Int.fdiv (wrap u64 (y * (2 : Int) ^ min (Int.toNat (wrap u64 ((64 : Int) - (↑(bl (Int.toNat y)) : Int)))) (IntKind.bits u64))) ((2 : Int) ^ min (Int.toNat (32 : Int)) (IntKind.bits u64)))) = DQ.r i ∧ True) ∧ True) ∧ ∀ (i : DQ), DqI a U c Y i → bif decide (DQ.q i ≥ (4294967296 : Int)) then bif decide (wrap u64 (DQ.r i + a) ≥ (4294967296 : Int)) then ∃ i_1, i_1 = (0 : Nat) ∧ (Y = Y ∧ S = S ∧ a = a ∧ b = b ∧ U = U ∧ c = c ∧ d = d ∧ wrap u64 (DQ.q i - (1 : Int)) = Q ∧ True) ∧ True else ∃ j, DqI a U c Y j ∧ ((Y = Y ∧ S = S ∧ a = a ∧ b = b ∧ U = U ∧ c = c ∧ d = d ∧ wrap u64 (DQ.q i - (1 : Int)) = DQ.q j ∧ wrap u64 (DQ.r i + a) = DQ.r j ∧ True) ∧ True) ∧ Int.toNat (DQ.q j) < Int.toNat (DQ.q i) else bif decide (wrap u64 (DQ.q i * b) > wrap u64 (wrap u64 ((4294967296 : Int) * DQ.r i) + c)) then bif decide (wrap u64 (DQ.r i + a) ≥ (4294967296 : Int)) then ∃ i_1, i_1 = (0 : Nat) ∧ (Y = Y ∧ S = S ∧ a = a ∧ b = b ∧ U = U ∧ c = c ∧ d = d ∧ wrap u64 (DQ.q i - (1 : Int)) = Q ∧ True) ∧ True else ∃ j, DqI a U c Y j ∧ ((Y = Y ∧ S = S ∧ a = a ∧ b = b ∧ U = U ∧ c = c ∧ d = d ∧ wrap u64 (DQ.q i - (1 : Int)) = DQ.q j ∧ wrap u64 (DQ.r i + a) = DQ.r j ∧ True) ∧ True) ∧ Int.toNat (DQ.q j) < Int.toNat (DQ.q i) else ∃ i_1, i_1 = (0 : Nat) ∧ (Y = Y ∧ S = S ∧ a = a ∧ b = b ∧ U = U ∧ c = c ∧ d = d ∧ DQ.q i = Q ∧ True) ∧ True) ∧ ∀ (i : Nat), i = (0 : Nat) → (a = (0 : Int) → False) ∧ ((∃ i, DqI a V d Y i ∧ (Y = Y ∧ S = S ∧ a = a ∧ b = b ∧ d = d ∧ Q = Q ∧ wrap u64 (wrap u64 (wrap u64 (U * (4294967296 : Int)) + c) - wrap u64 (Q * Y)) = V ∧ wrap u64 (Int.tdiv (wrap u64 (wrap u64 (wrap u64 (U * (4294967296 : Int)) + c) - wrap u64 (Q * Y))) a) = DQ.q i ∧ wrap u64 (wrap u64 (wrap u64 (wrap u64 (U * (4294967296 : Int)) + c) - wrap u64 (Q * Y)) - wrap u64 (wrap u64 (Int.tdiv (wrap u64 (wrap u64 (wrap u64 (U * (4294967296 : Int)) + c) - wrap u64 (Q * Y))) a) * a)) = DQ.r i ∧ True) ∧ True) ∧ ∀ (i : DQ), DqI a V d Y i → bif decide (DQ.q i ≥ (4294967296 : Int)) then bif decide (wrap u64 (DQ.r i + a) ≥ (4294967296 : Int)) then ∃ i_1, i_1 = (0 : Nat) ∧ (Y = Y ∧ S = S ∧ d = d ∧ Q = Q ∧ V = V ∧ wrap u64 (DQ.q i - (1 : Int)) = q ∧ True) ∧ True else ∃ j, DqI a V d Y j ∧ ((Y = Y ∧ S = S ∧ a = a ∧ b = b ∧ d = d ∧ Q = Q ∧ V = V ∧ wrap u64 (DQ.q i - (1 : Int)) = DQ.q j ∧ wrap u64 (DQ.r i + a) = DQ.r j ∧ True) ∧ True) ∧ Int.toNat (DQ.q j) < Int.toNat (DQ.q i) else bif decide (wrap u64 (DQ.q i * b) > wrap u64 (wrap u64 ((4294967296 : Int) * DQ.r i) + d)) then bif decide (wrap u64 (DQ.r i + a) ≥ (4294967296 : Int)) then ∃ i_1, i_1 = (0 : Nat) ∧ (Y = Y ∧ S = S ∧ d = d ∧ Q = Q ∧ V = V ∧ wrap u64 (DQ.q i - (1 : Int)) = q ∧ True) ∧ True else ∃ j, DqI a V d Y j ∧ ((Y = Y ∧ S = S ∧ a = a ∧ b = b ∧ d = d ∧ Q = Q ∧ V = V ∧ wrap u64 (DQ.q i - (1 : Int)) = DQ.q j ∧ wrap u64 (DQ.r i + a) = DQ.r j ∧ True) ∧ True) ∧ Int.toNat (DQ.q j) < Int.toNat (DQ.q i) else ∃ i_1, i_1 = (0 : Nat) ∧ (Y = Y ∧ S = S ∧ d = d ∧ Q = Q ∧ V = V ∧ DQ.q i = q ∧ True) ∧ True) ∧ ∀ (i : Nat), i = (0 : Nat) → (0 : Int) ≤ S ∧ wrap u64 (wrap u64 (Q * (4294967296 : Int)) + q) = A ∧ Int.fdiv (wrap u64 (wrap u64 (wrap u64 (V * (4294967296 : Int)) + d) - wrap u64 (q * Y))) ((2 : Int) ^ min (Int.toNat S) (IntKind.bits u64)) = B ∧ True) = evFn (envK [c_lz64] (a_div64 Y S a b U V c d Q) (k_div64 Y S a b U V c d Q q)) Tryd.f67 [.int .u64 h, .int .u64 l, .int .u64 y] (MRes.sat (.ret (.tup [.int .u64 A, .int .u64 B]))) := by kernel_rfl
theorem or_sum {a b s : Nat} (hb : b < 2 ^ s) (h : a * 2 ^ s + b < 18446744073709551616) : wrap u64 ((BitVec.ofInt (IntKind.bits u64) ((a * 2 ^ s : Nat) : Int) ||| BitVec.ofInt (IntKind.bits u64) (b : Int)).toNat : Int) = ((a * 2 ^ s + b : Nat) : Int) := by
 rw [BitVec.toNat_or]
 have b1 : (BitVec.ofInt (IntKind.bits u64) ((a * 2 ^ s : Nat) : Int)).toNat = a * 2 ^ s := bv64 _ (by omega)
 have b2 : (BitVec.ofInt (IntKind.bits u64) (b : Int)).toNat = b := bv64 _ (by omega)
 rw [b1, b2]
 have e := Nat.shiftLeft_add_eq_or_of_lt hb a
 rw [Nat.shiftLeft_eq] at e
 rw [← e]
 exact u64i (by omega) (by omega)
structure DvOk (h l y : Nat) (s : Nat) : Prop where
 ls : s ≤ 63
 y0 : 9223372036854775808 ≤ y * 2 ^ s
 y1 : y * 2 ^ s < 18446744073709551616
 h1 : h * 2 ^ s + l / 2 ^ (64 - s) < y * 2 ^ s
 l1 : l / 2 ^ (64 - s) < 2 ^ s
 e : (h * 18446744073709551616 + l) * 2 ^ s = (h * 2 ^ s + l / 2 ^ (64 - s)) * 18446744073709551616 + l * 2 ^ s % 18446744073709551616
theorem dvOk {h l y : Nat} (hy : h < y) (y1 : y < 18446744073709551616) (hl : l < 18446744073709551616) : DvOk h l y (64 - bl y) := by
 have hb : bl y ≤ 64 := bl_le_of (show y < 2 ^ 64 by omega)
 have hlt := bl_lt y
 have hle := bl_le (show y ≠ 0 by omega)
 have hb1 : 0 < bl y := by
  rcases Nat.eq_zero_or_pos (bl y) with q | q
  ·rw [q] at hlt; simp at hlt; omega
  ·exact q
 have hs : (2 : Nat) ^ (64 - bl y) * 2 ^ bl y = 18446744073709551616 := by rw [← Nat.pow_add, Nat.sub_add_cancel hb]
 have hs2 : (2 : Nat) ^ (64 - bl y) * 2 ^ (bl y - 1) = 9223372036854775808 := by rw [← Nat.pow_add, show 64 - bl y + (bl y - 1) = 63 by omega]
 have e64 : 64 - (64 - bl y) = bl y := by omega
 have hp : 0 < 2 ^ (64 - bl y) := Nat.pow_pos (by omega)
 have hq : 0 < 2 ^ bl y := Nat.pow_pos (by omega)
 have hl1 : l / 2 ^ bl y < 2 ^ (64 - bl y) := (Nat.div_lt_iff_lt_mul hq).2 (by rw [hs]; exact hl)
 refine ⟨by omega, ?_, ?_, ?_, by rw [e64]; exact hl1, ?_⟩
 ·rw [← hs2, Nat.mul_comm]; exact Nat.mul_le_mul_right _ hle
 ·rw [← hs, Nat.mul_comm]; exact Nat.mul_lt_mul_of_pos_left hlt hp
 ·rw [e64]
  have : (h + 1) * 2 ^ (64 - bl y) ≤ y * 2 ^ (64 - bl y) := Nat.mul_le_mul_right _ hy
  rw [Nat.add_mul] at this
  omega
 ·rw [e64]
  have h1 : l * 2 ^ (64 - bl y) / 18446744073709551616 = l / 2 ^ bl y := by
   rw [← hs, Nat.mul_comm (2 ^ (64 - bl y)), Nat.mul_div_mul_right _ _ hp]
  have h2 := Nat.div_add_mod (l * 2 ^ (64 - bl y)) 18446744073709551616
  rw [h1] at h2
  rw [Nat.add_mul, Nat.add_mul, Nat.mul_right_comm]
  omega
theorem two_digits {N p y U c d : Int} (hp : 0 < p) (hy : 0 < y) (he : N * p = (U * 4294967296 + c) * 4294967296 + d) :
  let Y := y * p
  let Q := (U * 4294967296 + c) / Y
  let V := (U * 4294967296 + c) % Y
  let q := (V * 4294967296 + d) / Y
  Q * 4294967296 + q = N / y ∧ (V * 4294967296 + d) % Y / p = N % y := by
 intro Y Q V q
 have hY : 0 < Y := Int.mul_pos hy hp
 have e1 : Y * Q + V = U * 4294967296 + c := Int.mul_ediv_add_emod _ _
 have e2 : Y * q + (V * 4294967296 + d) % Y = V * 4294967296 + d := Int.mul_ediv_add_emod _ _
 have r0 := Int.emod_nonneg (V * 4294967296 + d) (show Y ≠ 0 by omega)
 have r1 := Int.emod_lt_of_pos (V * 4294967296 + d) hY
 generalize (V * 4294967296 + d) % Y = R at *
 have e3 : N * p = Y * (Q * 4294967296 + q) + R := by
  rw [he, ← e1, Int.mul_add, ← Int.mul_assoc, Int.add_mul]
  generalize Y * Q = z at *
  generalize Y * q = z2 at *
  omega
 have e4 : R = (N - y * (Q * 4294967296 + q)) * p := by
  rw [Int.sub_mul, e3]
  have : y * (Q * 4294967296 + q) * p = Y * (Q * 4294967296 + q) := by
   show _ = y * p * _
   rw [Int.mul_right_comm]
  rw [this]; omega
 have e5 : R / p = N - y * (Q * 4294967296 + q) := by rw [e4, Int.mul_ediv_cancel _ (by omega)]
 have s0 : 0 ≤ N - y * (Q * 4294967296 + q) := by
  rw [← e5]; exact Int.ediv_nonneg r0 (by omega)
 have s1 : N - y * (Q * 4294967296 + q) < y := by
  rw [← e5]; exact (Int.ediv_lt_iff_lt_mul hp).2 r1
 have hdm : y * (N / y) + N % y = N := Int.mul_ediv_add_emod N y
 have m0 := Int.emod_nonneg N (show y ≠ 0 by omega)
 have m1 := Int.emod_lt_of_pos N hy
 have hq : Q * 4294967296 + q = N / y := by
  have := Int.le_ediv_iff_mul_le (a := Q * 4294967296 + q) (b := N) hy
  have h1 : Q * 4294967296 + q ≤ N / y := this.2 (by rw [Int.mul_comm]; omega)
  have h2 : N / y < Q * 4294967296 + q + 1 := (Int.ediv_lt_iff_lt_mul hy).2 (by rw [Int.mul_comm, Int.mul_add, Int.mul_one]; omega)
  omega
 refine ⟨hq, ?_⟩
 rw [e5, hq]
 omega
def s_div64 : FSpec
 | [.int .u64 h, .int .u64 l, .int .u64 y] => some (some ((0 ≤ h ∧ h < y) ∧ y < 18446744073709551616 ∧ 0 ≤ l ∧ l < 18446744073709551616), .ret (.tup [.int .u64 ((h * 18446744073709551616 + l) / y), .int .u64 ((h * 18446744073709551616 + l) % y)]))
 | _ => none
theorem dq_loop {Y a b U c Q : Int} (H : DqH Y a b U c) (hQ : Q = (U * 4294967296 + c) / Y) {i : DQ} (I : DqI a U c Y i) (P0 : Int → Prop) (X : Int → Int → Prop) (hx : P0 Q) (hX : ∀ j : DQ, DqI a U c Y j → j.q.toNat < i.q.toNat → X j.q j.r) :
  bif decide (i.q ≥ 4294967296) then (bif decide (wrap u64 (i.r + a) ≥ 4294967296) then P0 (wrap u64 (i.q - 1)) else X (wrap u64 (i.q - 1)) (wrap u64 (i.r + a)))
  else bif decide (wrap u64 (i.q * b) > wrap u64 (wrap u64 (4294967296 * i.r) + c)) then (bif decide (wrap u64 (i.r + a) ≥ 4294967296) then P0 (wrap u64 (i.q - 1)) else X (wrap u64 (i.q - 1)) (wrap u64 (i.r + a)))
  else P0 i.q := by
 have hq := H.qle I
 have r0 := I.r0
 have r1 := I.r1
 have a0 := H.a0
 have a1 := H.a1
 have c0 := H.c0
 have c1 := H.c1
 have q0 := H.q0
 have q1 := H.q1
 have iq := I.q
 have down : (U * 4294967296 + c) / Y < i.q → (bif decide (wrap u64 (i.r + a) ≥ 4294967296) then P0 (wrap u64 (i.q - 1)) else X (wrap u64 (i.q - 1)) (wrap u64 (i.r + a))) := by
  intro hlt
  obtain ⟨d1, d2⟩ := H.down I hlt
  rw [u64i (x := i.q - 1) (by omega) (by omega), u64i (x := i.r + a) (by omega) (by omega)]
  refine condI decide_eq_true_iff (fun q => ?_) (fun q => ?_)
  ·rw [d1 q, ← hQ]; exact hx
  ·exact hX ⟨i.q - 1, i.r + a⟩ (d2 (by omega)) (by show (i.q - 1).toNat < i.q.toNat; omega)
 refine condI decide_eq_true_iff (fun q => down (by omega)) (fun q => ?_)
 have hb := mul_lt_sq (show 0 ≤ i.q by omega) (show i.q < 4294967296 by omega) H.b0 H.b1
 rw [u64i (x := i.q * b) hb.1 (by omega), u64i (x := 4294967296 * i.r) (by omega) (by omega), u64i (x := 4294967296 * i.r + c) (by omega) (by omega)]
 refine condI decide_eq_true_iff (fun q => down (H.lt (dq_gt H.eY I.e q))) (fun q => ?_)
 have := H.ge (dq_le (c := c) H.eY I.e (by omega))
 rw [show i.q = Q by omega]
 exact hx
theorem p_div64 : Good Tryd.f67 s_div64 := by
 intro ms p r h hp
 unfold s_div64 at h
 split at h
 ·rename_i h0 l0 y0
  simp only [Option.some.injEq, Prod.mk.injEq] at h
  obtain ⟨rfl, rfl⟩ := h
  obtain ⟨⟨g0, g1⟩, g2, g3, g4⟩ : (0 ≤ h0 ∧ h0 < y0) ∧ y0 < 18446744073709551616 ∧ 0 ≤ l0 ∧ l0 < 18446744073709551616 := hp
  obtain ⟨h, rfl⟩ : ∃ n : Nat, h0 = n := ⟨h0.toNat, by omega⟩
  obtain ⟨l, rfl⟩ : ∃ n : Nat, l0 = n := ⟨l0.toNat, by omega⟩
  obtain ⟨y, rfl⟩ : ∃ n : Nat, y0 = n := ⟨y0.toNat, by omega⟩
  have hD := dvOk (h := h) (l := l) (y := y) (by omega) (by omega) (by omega)
  have hbl : bl y ≤ 64 := bl_le_of (show y < 2 ^ 64 by omega)
  have E1 : wrap u64 ((64 : Int) - (bl (Int.toNat (y : Int)) : Nat)) = ((64 - bl y : Nat) : Int) := by
   rw [Int.toNat_natCast, u64i (by omega) (by omega)]; omega
  generalize 64 - bl y = s at hD E1
  have hs := hD.ls
  obtain ⟨P, hP⟩ : ∃ P : Nat, P = 2 ^ s := ⟨_, rfl⟩
  have E2 : (2 : Int) ^ min (Int.toNat (s : Int)) (IntKind.bits u64) = (P : Int) := by
   rw [Int.toNat_natCast, hP, show min s (IntKind.bits u64) = s from Nat.min_eq_left (by show s ≤ 64; omega)]
   simp
  have E3 : wrap u64 ((64 : Int) - (s : Int)) = ((64 - s : Nat) : Int) := by rw [u64i (by omega) (by omega)]; omega
  have E4 : (2 : Int) ^ min (Int.toNat ((64 - s : Nat) : Int)) (IntKind.bits u64) = ((2 ^ (64 - s) : Nat) : Int) := by
   rw [Int.toNat_natCast, show min (64 - s) (IntKind.bits u64) = 64 - s from Nat.min_eq_left (by show 64 - s ≤ 64; omega)]
   simp
  have hPp : 0 < P := by rw [hP]; exact Nat.pow_pos (by omega)
  have hN := hD.e
  have hY0 := hD.y0
  have hY1 := hD.y1
  have hU := hD.h1
  have hl1 := hD.l1
  have hor := or_sum (a := h) hl1 (by omega)
  rw [← hP] at hN hY0 hY1 hU hl1 hor
  have E5 : wrap u64 ((y : Int) * (P : Int)) = ((y * P : Nat) : Int) := by
   rw [← Int.natCast_mul]
   generalize y * P = z at hY1
   exact u64i (Int.natCast_nonneg _) (by omega)
  have E6 : wrap u64 ((h : Int) * (P : Int)) = ((h * P : Nat) : Int) := by
   have hh : h * P < 18446744073709551616 := Nat.lt_of_le_of_lt (Nat.le_trans (Nat.le_add_right _ _) (Nat.le_of_lt hU)) hY1
   rw [← Int.natCast_mul]
   generalize h * P = z at hh
   exact u64i (Int.natCast_nonneg _) (by omega)
  have E7 : Int.fdiv (l : Int) ((2 ^ (64 - s) : Nat) : Int) = ((l / 2 ^ (64 - s) : Nat) : Int) := by rw [fd (Int.natCast_nonneg _)]; rfl
  have E8 : wrap u64 ((l : Int) * (P : Int)) = ((l * P % 18446744073709551616 : Nat) : Int) := by rw [← Int.natCast_mul, u64w]; rfl
  have hPe : (2 : Int) ^ s = (P : Int) := by rw [hP]; simp
  generalize l / 2 ^ (64 - s) = lt at *
  generalize hM : l * P % 18446744073709551616 = M at *
  have hM1 : M < 18446744073709551616 := by omega
  obtain ⟨Y, hYe⟩ : ∃ Y : Nat, Y = y * P := ⟨_, rfl⟩
  obtain ⟨U, hUe⟩ : ∃ U : Nat, U = h * P + lt := ⟨_, rfl⟩
  rw [← hYe] at E5 hY0 hY1 hU
  rw [← hUe] at hN hU hor
  obtain ⟨a, ha⟩ : ∃ a : Int, a = (Y : Int) / 4294967296 := ⟨_, rfl⟩
  obtain ⟨b, hb⟩ : ∃ b : Int, b = (Y : Int) % 4294967296 := ⟨_, rfl⟩
  obtain ⟨c, hc⟩ : ∃ c : Int, c = (M : Int) / 4294967296 := ⟨_, rfl⟩
  obtain ⟨d, hd⟩ : ∃ d : Int, d = (M : Int) % 4294967296 := ⟨_, rfl⟩
  have H1 : DqH (Y : Int) a b (U : Int) c := ⟨by omega, by omega, by omega, by omega, by omega, by omega, by omega, by omega, by omega⟩
  have hY : (0 : Int) < Y := by omega
  have Q0 := H1.q0
  have Q1 := H1.q1
  have v0 := Int.emod_nonneg ((U : Int) * 4294967296 + c) (show (Y : Int) ≠ 0 by omega)
  have v1 := Int.emod_lt_of_pos ((U : Int) * 4294967296 + c) hY
  have vd := Int.mul_ediv_add_emod ((U : Int) * 4294967296 + c) (Y : Int)
  obtain ⟨t1, t2⟩ := two_digits (N := (h : Int) * 18446744073709551616 + l) (p := (P : Int)) (y := (y : Int)) (U := (U : Int)) (c := c) (d := d) (by omega) (by omega) (by
   have : ((h * 18446744073709551616 + l : Nat) : Int) * (P : Int) = ((U * 18446744073709551616 + M : Nat) : Int) := by rw [← hN]; simp
   have e : (h : Int) * 18446744073709551616 + l = ((h * 18446744073709551616 + l : Nat) : Int) := by omega
   rw [e, this]; omega)
  rw [show (y : Int) * (P : Int) = (Y : Int) by rw [hYe]; simp] at t1 t2
  rw [← t1, ← t2]
  obtain ⟨Q, hQ⟩ : ∃ Q : Int, Q = ((U : Int) * 4294967296 + c) / Y := ⟨_, rfl⟩
  obtain ⟨V, hV⟩ : ∃ V : Int, V = ((U : Int) * 4294967296 + c) % Y := ⟨_, rfl⟩
  rw [← hQ] at Q0 Q1 vd ⊢
  rw [← hV] at v0 v1 vd ⊢
  have H2 : DqH (Y : Int) a b V d := ⟨H1.eY, H1.a0, H1.a1, H1.b0, H1.b1, v0, v1, by omega, by omega⟩
  have R0 := H2.q0
  have R1 := H2.q1
  have r0 := Int.emod_nonneg (V * 4294967296 + d) (show (Y : Int) ≠ 0 by omega)
  have r1 := Int.emod_lt_of_pos (V * 4294967296 + d) hY
  have rd := Int.mul_ediv_add_emod (V * 4294967296 + d) (Y : Int)
  obtain ⟨q, hq⟩ : ∃ q : Int, q = (V * 4294967296 + d) / Y := ⟨_, rfl⟩
  obtain ⟨R, hR⟩ : ∃ R : Int, R = (V * 4294967296 + d) % Y := ⟨_, rfl⟩
  rw [← hq] at R0 R1 rd ⊢
  rw [← hR] at r0 r1 rd ⊢
  rw [← hQ, ← hV, ← hq] at t1
  rw [← hV, ← hR] at t2
  refine ⟨envK [c_lz64] (a_div64 Y s a b U V c d Q) (k_div64 Y s a b U V c d Q q), ?_⟩
  rw [← vc_div64 (h : Int) l y Y s a b U V c d Q q]
  refine condF (beqI0 (by omega)) (condF (decide_eq_false (by omega)) (condI beq_iff_eq (fun hz => ?_) (fun hz => ?_)))
  ·have e0 : (h : Int) * 18446744073709551616 + l = l := by omega
   rw [t1, t2, e0, Int.tdiv_eq_ediv_of_nonneg (by omega), Int.tmod_eq_emod_of_nonneg (by omega)]
   have : (l : Int) / y ≤ l := Int.ediv_le_self _ (by omega)
   have h1 : 0 ≤ (l : Int) / y := Int.ediv_nonneg (by omega) (by omega)
   rw [u64i h1 (by omega)]
   exact ⟨by omega, by omega, rfl, rfl, True.intro⟩
  ·rw [E1, E2, E3, E4, E5, E6, E7, E8, hor, q32, and_lowI (x := (Y : Int)) (by omega) (by omega), and_lowI (x := (M : Int)) (by omega) (by omega), fd (x := (Y : Int)) (by omega), fd (x := (M : Int)) (by omega), ← ha, ← hb, ← hc, ← hd]
   have start : ∀ {W x : Int}, DqH (Y : Int) a b W x → wrap u64 (Int.tdiv W a) = W / a ∧ wrap u64 (W - wrap u64 (W / a * a)) = W % a := by
    intro W x H
    have h0 := H.a0
    have h1 := H.u0
    have h2 := H.u1
    have h3 := H.start_lt
    have h4 := Int.mul_ediv_add_emod W a
    have h5 := Int.emod_nonneg W (show a ≠ 0 by omega)
    have h6 := Int.emod_lt_of_pos W (show 0 < a by omega)
    have h7 := H.a1
    rw [Int.mul_comm] at h4
    have h8 : 0 ≤ W / a * a := Int.mul_nonneg h3.1 (by omega)
    rw [Int.tdiv_eq_ediv_of_nonneg h1, u64i h3.1 (by omega)]
    refine ⟨rfl, ?_⟩
    generalize W / a * a = z at *
    rw [u64i (x := z) (by omega) (by omega), u64i (by omega) (by omega)]
    omega
   obtain ⟨s1, s2⟩ := start H1
   obtain ⟨s3, s4⟩ := start H2
   have hV2 : wrap u64 (wrap u64 (wrap u64 ((U : Int) * 4294967296) + c) - wrap u64 (Q * Y)) = V := by
    simp only [u64w]
    rw [Int.mul_comm] at vd
    generalize Q * (Y : Int) = z at *
    omega
   have hR2 : wrap u64 (wrap u64 (wrap u64 (V * 4294967296) + d) - wrap u64 (q * Y)) = R := by
    simp only [u64w]
    rw [Int.mul_comm] at rd
    generalize q * (Y : Int) = z at *
    omega
   rw [s1, s2, hV2, s3, s4, hR2]
   refine ⟨by omega, by omega, by omega, by omega, by omega, by omega, by omega, by omega, ⟨⟨⟨_, H1.start, ?_⟩, fun i I => ?_⟩, fun i0 hi0 => ⟨by omega, ⟨⟨⟨_, H2.start, ?_⟩, fun i I => ?_⟩, fun i1 hi1 => ⟨by omega, ?_⟩⟩⟩⟩⟩
   ·and_intros <;> first | exact True.intro | rfl
   ·refine dq_loop H1 hQ I (P0 := fun z => ∃ i_1, i_1 = 0 ∧ ((Y : Int) = Y ∧ (s : Int) = s ∧ a = a ∧ b = b ∧ (U : Int) = U ∧ c = c ∧ d = d ∧ z = Q ∧ True) ∧ True) (X := fun x1 x2 => ∃ j : DQ, DqI a (U : Int) c (Y : Int) j ∧ (((Y : Int) = Y ∧ (s : Int) = s ∧ a = a ∧ b = b ∧ (U : Int) = U ∧ c = c ∧ d = d ∧ x1 = j.q ∧ x2 = j.r ∧ True) ∧ True) ∧ Int.toNat j.q < Int.toNat i.q) ?_ ?_
    ·exact ⟨0, rfl, ⟨rfl, rfl, rfl, rfl, rfl, rfl, rfl, rfl, True.intro⟩, True.intro⟩
    ·exact fun j J hlt => ⟨j, J, ⟨⟨rfl, rfl, rfl, rfl, rfl, rfl, rfl, rfl, rfl, True.intro⟩, True.intro⟩, hlt⟩
   ·and_intros <;> first | exact True.intro | rfl
   ·refine dq_loop H2 hq I (P0 := fun z => ∃ i_1, i_1 = 0 ∧ ((Y : Int) = Y ∧ (s : Int) = s ∧ d = d ∧ Q = Q ∧ V = V ∧ z = q ∧ True) ∧ True) (X := fun x1 x2 => ∃ j : DQ, DqI a V d (Y : Int) j ∧ (((Y : Int) = Y ∧ (s : Int) = s ∧ a = a ∧ b = b ∧ d = d ∧ Q = Q ∧ V = V ∧ x1 = j.q ∧ x2 = j.r ∧ True) ∧ True) ∧ Int.toNat j.q < Int.toNat i.q) ?_ ?_
    ·exact ⟨0, rfl, ⟨rfl, rfl, rfl, rfl, rfl, rfl, True.intro⟩, True.intro⟩
    ·exact fun j J hlt => ⟨j, J, ⟨⟨rfl, rfl, rfl, rfl, rfl, rfl, rfl, rfl, rfl, True.intro⟩, True.intro⟩, hlt⟩
   ·rw [fd (x := R) (by omega), u64i (x := Q * 4294967296) (by omega) (by omega), u64i (x := Q * 4294967296 + q) (by omega) (by omega)]
    exact ⟨rfl, rfl, True.intro⟩
 ·simp at h
def c_div64 : Ctr Tryd.prog := ⟨67, s_div64, fun args w => Tryd.call67 args w, fn_ok mix Tryd.func67 s_div64 p_div64⟩
end Go.Proofs.YtmjklcpdfmgcaaaDoor
/-
 Contracts of functions: prime.mul, prime.strong, prime.isPrime; algoristref04.plus, times, strong, Prime.
-/
namespace Go.Proofs.YtmjklcpdfmgcaaaDoor
open Go Go.RowKit
open Go.IntKind (wrap i64 i32 i16 i8 u64 u32 u16 u8)
theorem mul_hi_lt {a b m : Int} (h0 : 0 ≤ a) (h1 : a < m) (k0 : 0 ≤ b) (k1 : b < 18446744073709551616) : a * b / 18446744073709551616 < m := by
 refine (Int.ediv_lt_iff_lt_mul (by omega)).2 ?_
 have e1 : a * b ≤ a * 18446744073709551615 := Int.mul_le_mul_of_nonneg_left (by omega) h0
 omega
def s_pmul : FSpec
 | [.int .u64 a, .int .u64 b, .int .u64 m] => some (some (0 ≤ a ∧ a < m ∧ 0 ≤ b ∧ b < 18446744073709551616 ∧ m < 18446744073709551616), .ret (.int .u64 (a * b % m)))
 | _ => none
theorem vc_pmul (a b m : Int) : ((((0 : Int) ≤ a ∧ a < (18446744073709551616 : Int)) ∧ (0 : Int) ≤ b ∧ b < (18446744073709551616 : Int)) ∧ (((0 : Int) ≤ a * b / (18446744073709551616 : Int) ∧ a * b / (18446744073709551616 : Int) < m) ∧ m < (18446744073709551616 : Int) ∧ (0 : Int) ≤ a * b % (18446744073709551616 : Int) ∧ a * b % (18446744073709551616 : Int) < (18446744073709551616 : Int)) ∧ (a * b / (18446744073709551616 : Int) * (18446744073709551616 : Int) + a * b % (18446744073709551616 : Int)) % m = a * b % m) = evFn (env [c_mul64, c_div64] noAnn) Tryd.f45 [.int .u64 a, .int .u64 b, .int .u64 m] (MRes.sat (.ret (.int .u64 (a * b % m)))) := by kernel_rfl
theorem p_pmul : Good Tryd.f45 s_pmul := by
 intro ms p r h hp
 unfold s_pmul at h
 split at h
 ·rename_i a b m
  simp only [Option.some.injEq, Prod.mk.injEq] at h
  obtain ⟨rfl, rfl⟩ := h
  obtain ⟨h1, h2, h3, h4, h5⟩ : 0 ≤ a ∧ a < m ∧ 0 ≤ b ∧ b < 18446744073709551616 ∧ m < 18446744073709551616 := hp
  refine ⟨env [c_mul64, c_div64] noAnn, ?_⟩
  rw [← vc_pmul a b m]
  have hn : 0 ≤ a * b := Int.mul_nonneg h1 h3
  have hd : a * b / 18446744073709551616 * 18446744073709551616 + a * b % 18446744073709551616 = a * b := by omega
  rw [hd]
  exact ⟨⟨⟨h1, by omega⟩, h3, h4⟩, ⟨⟨by omega, mul_hi_lt h1 h2 h3 h4⟩, h5, by omega, by omega⟩, rfl⟩
 ·simp at h
def c_pmul : Ctr Tryd.prog := ⟨45, s_pmul, fun args w => Tryd.call45 args w, fn_ok mix Tryd.func45 s_pmul p_pmul⟩
/-! ### prime.strong -/
structure SP where
 x : Nat
 y : Nat
 d : Nat
structure SpI (n R : Nat) (i : SP) : Prop where
 x : i.x < n
 y : i.y < n
 d : i.d < 18446744073709551616
 e : i.x * i.y ^ i.d % n = R
structure SH where
 k : Nat
 x : Nat
structure ShI (n s : Nat) (B : Bool) (i : SH) : Prop where
 k : i.k ≤ s
 x : i.x < n
 e : hitF (s - i.k) i.x n = B
def a_strong (n s R : Nat) (B : Bool) : Nat → MS → Option LoopAnn
 | 7, _ => some (.inv SP (SpI n R) (fun i => ⟨49, [(0, .int .u64 n), (1, .int .u64 i.y), (5, .int .i64 s), (6, .int .u64 i.x), (7, .int .u64 i.d)], [], 0⟩) (fun i => i.d))
 | 15, _ => some (.inv SH (ShI n s B) (fun i => ⟨49, [(0, .int .u64 n), (6, .int .u64 i.x), (37, .int .i64 s), (38, .int .i64 i.k)], [], 0⟩) (fun i => s - i.k))
 | _, _ => none
theorem vc_strong (n b s R : Nat) (B T : Bool) : (((↑n : Int) = (0 : Int) → False) ∧ bif Int.tmod (↑b : Int) (↑n : Int) == (0 : Int) then true = T else ((0 : Int) < wrap u64 ((↑n : Int) - (1 : Int)) ∧ wrap u64 ((↑n : Int) - (1 : Int)) < (18446744073709551616 : Int)) ∧ (0 : Int) ≤ (↑(tzF (64 : Nat) (Int.toNat (wrap u64 ((↑n : Int) - (1 : Int))))) : Int) ∧ (∃ i, SpI n R i ∧ ((↑n : Int) = (↑n : Int) ∧ Int.tmod (↑b : Int) (↑n : Int) = (↑(SP.y i) : Int) ∧ (↑(tzF (64 : Nat) (Int.toNat (wrap u64 ((↑n : Int) - (1 : Int))))) : Int) = (↑s : Int) ∧ (1 : Int) = (↑(SP.x i) : Int) ∧ Int.fdiv (wrap u64 ((↑n : Int) - (1 : Int))) ((2 : Int) ^ min (Int.toNat (↑(tzF (64 : Nat) (Int.toNat (wrap u64 ((↑n : Int) - (1 : Int))))) : Int)) (IntKind.bits u64)) = (↑(SP.d i) : Int) ∧ True) ∧ True) ∧ ∀ (i : SP), SpI n R i → bif decide ((↑(SP.d i) : Int) > (0 : Int)) then bif wrap u64 (↑(BitVec.toNat (BitVec.ofInt (IntKind.bits u64) (↑(SP.d i) : Int) &&& BitVec.ofInt (IntKind.bits u64) (1 : Int))) : Int) == (1 : Int) then ((0 : Int) ≤ (↑(SP.x i) : Int) ∧ (↑(SP.x i) : Int) < (↑n : Int) ∧ (0 : Int) ≤ (↑(SP.y i) : Int) ∧ (↑(SP.y i) : Int) < (18446744073709551616 : Int) ∧ (↑n : Int) < (18446744073709551616 : Int)) ∧ ((0 : Int) ≤ (↑(SP.y i) : Int) ∧ (↑(SP.y i) : Int) < (↑n : Int) ∧ (0 : Int) ≤ (↑(SP.y i) : Int) ∧ (↑(SP.y i) : Int) < (18446744073709551616 : Int) ∧ (↑n : Int) < (18446744073709551616 : Int)) ∧ (0 : Int) ≤ (1 : Int) ∧ ∃ j, SpI n R j ∧ (((↑n : Int) = (↑n : Int) ∧ (↑(SP.y i) : Int) * (↑(SP.y i) : Int) % (↑n : Int) = (↑(SP.y j) : Int) ∧ (↑s : Int) = (↑s : Int) ∧ (↑(SP.x i) : Int) * (↑(SP.y i) : Int) % (↑n : Int) = (↑(SP.x j) : Int) ∧ Int.fdiv (↑(SP.d i) : Int) ((2 : Int) ^ min (Int.toNat (1 : Int)) (IntKind.bits u64)) = (↑(SP.d j) : Int) ∧ True) ∧ True) ∧ SP.d j < SP.d i else ((0 : Int) ≤ (↑(SP.y i) : Int) ∧ (↑(SP.y i) : Int) < (↑n : Int) ∧ (0 : Int) ≤ (↑(SP.y i) : Int) ∧ (↑(SP.y i) : Int) < (18446744073709551616 : Int) ∧ (↑n : Int) < (18446744073709551616 : Int)) ∧ (0 : Int) ≤ (1 : Int) ∧ ∃ j, SpI n R j ∧ (((↑n : Int) = (↑n : Int) ∧ (↑(SP.y i) : Int) * (↑(SP.y i) : Int) % (↑n : Int) = (↑(SP.y j) : Int) ∧ (↑s : Int) = (↑s : Int) ∧ (↑(SP.x i) : Int) = (↑(SP.x j) : Int) ∧ Int.fdiv (↑(SP.d i) : Int) ((2 : Int) ^ min (Int.toNat (1 : Int)) (IntKind.bits u64)) = (↑(SP.d j) : Int) ∧ True) ∧ True) ∧ SP.d j < SP.d i else bif (↑(SP.x i) : Int) == (1 : Int) then true = T else (∃ i_1, ShI n s B i_1 ∧ ((↑n : Int) = (↑n : Int) ∧ (↑(SP.x i) : Int) = (↑(SH.x i_1) : Int) ∧ (↑s : Int) = (↑s : Int) ∧ (0 : Int) = (↑(SH.k i_1) : Int) ∧ True) ∧ True) ∧ ∀ (i : SH), ShI n s B i → bif decide ((↑(SH.k i) : Int) < (↑s : Int)) then bif (↑(SH.x i) : Int) == wrap u64 ((↑n : Int) - (1 : Int)) then true = T else ((0 : Int) ≤ (↑(SH.x i) : Int) ∧ (↑(SH.x i) : Int) < (↑n : Int) ∧ (0 : Int) ≤ (↑(SH.x i) : Int) ∧ (↑(SH.x i) : Int) < (18446744073709551616 : Int) ∧ (↑n : Int) < (18446744073709551616 : Int)) ∧ ∃ j, ShI n s B j ∧ (((↑n : Int) = (↑n : Int) ∧ (↑(SH.x i) : Int) * (↑(SH.x i) : Int) % (↑n : Int) = (↑(SH.x j) : Int) ∧ (↑s : Int) = (↑s : Int) ∧ wrap i64 ((↑(SH.k i) : Int) + (1 : Int)) = (↑(SH.k j) : Int) ∧ True) ∧ True) ∧ s - SH.k j < s - SH.k i else false = T) = evFn (env [c_tz64, c_pmul] (a_strong n s R B)) Tryd.f26 [.int .u64 n, .int .u64 b] (MRes.sat (.ret (.bool T))) := by kernel_rfl
theorem q1' : ((2 : Int) ^ min (Int.toNat 1) (IntKind.bits u64)) = 2 := by decide +kernel
theorem tz64_eq {n : Nat} (h : 0 < n) (k : n < 18446744073709551616) : tzF 64 n = tz n := tz_uniq (tzF_ok 64 n h k) (tz_ok h (Nat.lt_trans k (by decide)))
theorem strongN_eq {n b : Nat} (h : b % n ≠ 0) (h1 : 1 < n) (h2 : n < 2 ^ 128) : strongN n b = (Nat.beq (1 * (b % n) ^ ((n - 1) / 2 ^ tz (n - 1)) % n) 1 || hitF (tz (n - 1)) (1 * (b % n) ^ ((n - 1) / 2 ^ tz (n - 1)) % n) n) := by
 have hb : Nat.beq (b % n) 0 = false := by
  cases hb : Nat.beq (b % n) 0 with
  | false => rfl
  | true => exact absurd (Nat.eq_of_beq_eq_true hb) h
 have hd : (n - 1) / 2 ^ tz (n - 1) < 2 ^ 128 := Nat.lt_of_le_of_lt (Nat.div_le_self _ _) (by omega)
 unfold strongN
 rw [hb, cond_false, pmF_eq 128 1 (b % n) _ n h1 hd]
theorem sp_odd {n R : Nat} {i : SP} (I : SpI n R i) (h1 : 1 < n) (hd : i.d % 2 = 1) : SpI n R ⟨i.x * i.y % n, i.y * i.y % n, i.d / 2⟩ := by
 refine ⟨Nat.mod_lt _ (by omega), Nat.mod_lt _ (by omega), by show i.d / 2 < _; have := I.d; omega, ?_⟩
 have := pm_step (x := i.x) (y := i.y) (d := i.d) (n := n)
 rw [show Nat.beq (i.d % 2) 1 = true by rw [hd]; rfl, cond_true, I.e] at this
 exact this
theorem sp_even {n R : Nat} {i : SP} (I : SpI n R i) (h1 : 1 < n) (hd : i.d % 2 = 0) : SpI n R ⟨i.x, i.y * i.y % n, i.d / 2⟩ := by
 refine ⟨I.x, Nat.mod_lt _ (by omega), by show i.d / 2 < _; have := I.d; omega, ?_⟩
 have := pm_step (x := i.x) (y := i.y) (d := i.d) (n := n)
 rw [show Nat.beq (i.d % 2) 1 = false by rw [hd]; rfl, cond_false, I.e] at this
 exact this
theorem sp_end {n R : Nat} {i : SP} (I : SpI n R i) (hd : i.d = 0) : i.x = R := by
 have := I.e
 rw [hd, Nat.pow_zero, Nat.mul_one, Nat.mod_eq_of_lt I.x] at this
 exact this
theorem sh_hit {n s : Nat} {B : Bool} {i : SH} (I : ShI n s B i) (hk : i.k < s) (hx : i.x = n - 1) : B = true := by
 have := I.e
 rw [show s - i.k = (s - i.k - 1) + 1 by omega, hitF, hx, Nat.beq_refl, Bool.true_or] at this
 exact this.symm
theorem sh_step {n s : Nat} {B : Bool} {i : SH} (I : ShI n s B i) (hk : i.k < s) (hx : i.x ≠ n - 1) (h1 : 1 < n) : ShI n s B ⟨i.k + 1, i.x * i.x % n⟩ := by
 refine ⟨hk, Nat.mod_lt _ (by omega), ?_⟩
 have := I.e
 have hb : Nat.beq i.x (n - 1) = false := by
  cases hb : Nat.beq i.x (n - 1) with
  | false => rfl
  | true => exact absurd (Nat.eq_of_beq_eq_true hb) hx
 rw [show s - i.k = (s - (i.k + 1)) + 1 by omega, hitF, hb, Bool.false_or] at this
 exact this
theorem sh_end {n s : Nat} {B : Bool} {i : SH} (I : ShI n s B i) (hk : i.k = s) : B = false := by
 have := I.e
 rw [hk, Nat.sub_self] at this
 exact this.symm
theorem beqN {a b : Nat} (h : a ≠ b) : Nat.beq a b = false := by
 cases hb : Nat.beq a b with
 | false => rfl
 | true => exact absurd (Nat.eq_of_beq_eq_true hb) h
def s_strong : FSpec
 | [.int .u64 n, .int .u64 b] => some (some ((2 < n ∧ n < 18446744073709551616) ∧ n % 2 = 1 ∧ 0 ≤ b ∧ b < 18446744073709551616), .ret (.bool (strongN n.toNat b.toNat)))
 | _ => none
theorem p_strong : Good Tryd.f26 s_strong := by
 intro ms p r h hp
 unfold s_strong at h
 split at h
 ·rename_i n0 b0
  simp only [Option.some.injEq, Prod.mk.injEq] at h
  obtain ⟨rfl, rfl⟩ := h
  obtain ⟨⟨h2, h3⟩, ho, h4, h5⟩ : (2 < n0 ∧ n0 < 18446744073709551616) ∧ n0 % 2 = 1 ∧ 0 ≤ b0 ∧ b0 < 18446744073709551616 := hp
  obtain ⟨n, rfl⟩ : ∃ n : Nat, n0 = n := ⟨n0.toNat, by omega⟩
  obtain ⟨b, rfl⟩ : ∃ n : Nat, b0 = n := ⟨b0.toNat, by omega⟩
  rw [Int.toNat_natCast, Int.toNat_natCast]
  have hs := tz64_eq (n := n - 1) (by omega) (by omega)
  have hS := tzF_ok 64 (n - 1) (by omega) (show n - 1 < 18446744073709551616 by omega)
  have hsl := hS.l
  have eS := strongN_eq (n := n) (b := b)
  rw [← hs] at eS
  have en : wrap u64 ((n : Int) - 1) = ((n - 1 : Nat) : Int) := by rw [u64i (by omega) (by omega)]; omega
  generalize hsg : tzF 64 (n - 1) = s at *
  have hpl : (n - 1) / 2 ^ s < 18446744073709551616 := Nat.lt_of_le_of_lt (Nat.div_le_self _ _) (by omega)
  refine ⟨env [c_tz64, c_pmul] (a_strong n s (1 * (b % n) ^ ((n - 1) / 2 ^ s) % n) (hitF s (1 * (b % n) ^ ((n - 1) / 2 ^ s) % n) n)), ?_⟩
  rw [← vc_strong n b s (1 * (b % n) ^ ((n - 1) / 2 ^ s) % n) (hitF s (1 * (b % n) ^ ((n - 1) / 2 ^ s) % n) n) (strongN n b)]
  have ebn : Int.tmod (b : Int) (n : Int) = ((b % n : Nat) : Int) := by rw [Int.tmod_eq_emod_of_nonneg (by omega)]; omega
  have ep : (2 : Int) ^ min (Int.toNat (s : Int)) (IntKind.bits u64) = ((2 ^ s : Nat) : Int) := by
   rw [Int.toNat_natCast, show min s (IntKind.bits u64) = s from Nat.min_eq_left (by show s ≤ 64; omega)]; simp
  rw [ebn, en, Int.toNat_natCast, hsg, ep, fd (Int.natCast_nonneg _), q1']
  refine ⟨by omega, condI beq_iff_eq (fun q => (strongN_zero (by omega)).symm) (fun q => ?_)⟩
  have eS := eS (by omega) (by omega) (Nat.lt_trans (show n < 18446744073709551616 by omega) (by decide))
  generalize hR : 1 * (b % n) ^ ((n - 1) / 2 ^ s) % n = R at *
  have hbn : b % n < n := Nat.mod_lt _ (by omega)
  refine ⟨⟨by omega, by omega⟩, by omega, ⟨⟨⟨1, b % n, (n - 1) / 2 ^ s⟩, ⟨by show 1 < n; omega, hbn, hpl, hR⟩, ?_⟩, fun i I => ?_⟩⟩
  ·refine ⟨⟨rfl, rfl, rfl, rfl, ?_, True.intro⟩, True.intro⟩
   exact (Int.natCast_ediv _ _).symm
  have hx := I.x
  have hy := I.y
  have hd := I.d
  have m1 : (i.y : Int) * (i.y : Int) % (n : Int) = ((i.y * i.y % n : Nat) : Int) := by simp
  have m2 : (i.x : Int) * (i.y : Int) % (n : Int) = ((i.x * i.y % n : Nat) : Int) := by simp
  have m3 : Int.fdiv (i.d : Int) 2 = ((i.d / 2 : Nat) : Int) := by rw [fd (by omega)]; omega
  rw [and_one64 i.d hd, m1, m2, m3]
  refine condI decide_eq_true_iff (fun q => ?_) (fun q => ?_)
  ·refine condI beq_iff_eq (fun q2 => ?_) (fun q2 => ?_)
   ·refine ⟨by omega, by omega, by omega, ⟨_, sp_odd I (by omega) (by omega), ⟨⟨rfl, rfl, rfl, rfl, rfl, True.intro⟩, True.intro⟩, by show i.d / 2 < i.d; omega⟩⟩
   ·refine ⟨by omega, by omega, ⟨_, sp_even I (by omega) (by omega), ⟨⟨rfl, rfl, rfl, rfl, rfl, True.intro⟩, True.intro⟩, by show i.d / 2 < i.d; omega⟩⟩
  ·have hxR := sp_end I (by omega)
   rw [hxR] at hx ⊢
   refine condI beq_iff_eq (fun q2 => ?_) (fun q2 => ⟨⟨⟨0, R⟩, ⟨Nat.zero_le _, hx, rfl⟩, ⟨rfl, rfl, rfl, rfl, True.intro⟩, True.intro⟩, fun i I => ?_⟩)
   ·rw [eS, show R = 1 by omega]; rfl
   rw [beqN (show R ≠ 1 by omega), Bool.false_or] at eS
   have hx := I.x
   have hk := I.k
   have m1 : (i.x : Int) * (i.x : Int) % (n : Int) = ((i.x * i.x % n : Nat) : Int) := by simp
   rw [m1]
   refine condI decide_eq_true_iff (fun q => ?_) (fun q => ?_)
   ·refine condI beq_iff_eq (fun q2 => ?_) (fun q2 => ?_)
    ·rw [eS]; exact (sh_hit I (by omega) (by omega)).symm
    ·refine ⟨by omega, ⟨_, sh_step I (by omega) (by omega) (by omega), ⟨⟨rfl, rfl, rfl, ?_, True.intro⟩, True.intro⟩, by show s - (i.k + 1) < s - i.k; omega⟩⟩
     rw [i64w (by omega) (by omega)]
     rfl
   ·rw [eS]; exact (sh_end I (by omega)).symm
 ·simp at h
def c_strong : Ctr Tryd.prog := ⟨26, s_strong, fun args w => Tryd.call26 args w, fn_ok mix Tryd.func26 s_strong p_strong⟩
/-! ### prime.isPrime -/
def s_pr1 : FSpec
 | [.int .u64 p, .ref (.int .u64 n)] => some (some (2 < n ∧ n < 18446744073709551616 ∧ n % 2 = 1 ∧ 0 ≤ p ∧ p < 18446744073709551616), .ret (.bool (!(strongN n.toNat p.toNat))))
 | _ => none
theorem vc_pr1 (p n : Int) : ((((2 : Int) < n ∧ n < (18446744073709551616 : Int)) ∧ n % (2 : Int) = (1 : Int) ∧ (0 : Int) ≤ p ∧ p < (18446744073709551616 : Int)) ∧ (!strongN (Int.toNat n) (Int.toNat p)) = !strongN (Int.toNat n) (Int.toNat p)) = evFn (env [c_strong] noAnn) Tryd.f42 [.int .u64 p, .ref (.int .u64 n)] (MRes.sat (.ret (.bool (!(strongN n.toNat p.toNat))))) := by kernel_rfl
theorem p_pr1 : Good Tryd.f42 s_pr1 := by
 intro ms p r h hp
 unfold s_pr1 at h
 split at h
 ·rename_i p n
  simp only [Option.some.injEq, Prod.mk.injEq] at h
  obtain ⟨rfl, rfl⟩ := h
  obtain ⟨h1, h2, h3, h4, h5⟩ : 2 < n ∧ n < 18446744073709551616 ∧ n % 2 = 1 ∧ 0 ≤ p ∧ p < 18446744073709551616 := hp
  refine ⟨env [c_strong] noAnn, ?_⟩
  rw [← vc_pr1 p n]
  exact ⟨⟨⟨h1, h2⟩, h3, h4, h5⟩, rfl⟩
 ·simp at h
def c_pr1 : Ctr Tryd.prog := ⟨42, s_pr1, fun args w => Tryd.call42 args w, fn_ok mix Tryd.func42 s_pr1 p_pr1⟩
def basesI : List Int := [2, 3, 5, 7, 11, 13, 17, 19, 23, 29, 31, 37, 41]
structure IxI where
 i : Nat
def a_ix4 (n : Nat) : Nat → MS → Option LoopAnn
 | 2, _ => some (.inv IxI (fun i => i.i ≤ 13 ∧ idxS n (fbases.drop i.i) i.i = idxS n fbases 0) (fun i => ⟨19, [(0, .sl 1 13 (fun j => .int .u64 (basesI.getD j 0))), (1, .fn 42 [.ref (.int .u64 n)]), (7, .int .i64 13), (8, .int .i64 i.i)], [], 0⟩) (fun i => 13 - i.i))
 | _, _ => none
theorem vc_ix4 (n : Nat) : ((∃ i, (IxI.i i ≤ (13 : Nat) ∧ idxS n (List.drop (IxI.i i) fbases) (IxI.i i) = idxS n fbases (0 : Nat)) ∧ (((1 : Nat) = (1 : Nat) ∧ (13 : Nat) = (13 : Nat) ∧ LeFun (13 : Nat) (fun j => MV.int u64 (List.getD basesI j (0 : Int))) fun j => MV.int u64 (List.getD basesI j (0 : Int))) ∧ ((↑n : Int) = (↑n : Int) ∧ True) ∧ (↑(13 : Nat) : Int) = (13 : Int) ∧ (0 : Int) = (↑(IxI.i i) : Int) ∧ True) ∧ True) ∧ ∀ (i : IxI), IxI.i i ≤ (13 : Nat) ∧ idxS n (List.drop (IxI.i i) fbases) (IxI.i i) = idxS n fbases (0 : Nat) → bif decide ((↑(IxI.i i) : Int) < (13 : Int)) then ((0 : Int) ≤ (↑(IxI.i i) : Int) ∧ (↑(IxI.i i) : Int) < (↑(13 : Nat) : Int)) ∧ ((2 : Int) < (↑n : Int) ∧ (↑n : Int) < (18446744073709551616 : Int) ∧ (↑n : Int) % (2 : Int) = (1 : Int) ∧ (0 : Int) ≤ List.getD basesI (Int.toNat (↑(IxI.i i) : Int)) (0 : Int) ∧ List.getD basesI (Int.toNat (↑(IxI.i i) : Int)) (0 : Int) < (18446744073709551616 : Int)) ∧ bif !strongN (Int.toNat (↑n : Int)) (Int.toNat (List.getD basesI (Int.toNat (↑(IxI.i i) : Int)) (0 : Int))) then (↑(IxI.i i) : Int) = idxS n fbases (0 : Nat) else ∃ j, (IxI.i j ≤ (13 : Nat) ∧ idxS n (List.drop (IxI.i j) fbases) (IxI.i j) = idxS n fbases (0 : Nat)) ∧ ((((1 : Nat) = (1 : Nat) ∧ (13 : Nat) = (13 : Nat) ∧ LeFun (13 : Nat) (fun j => MV.int u64 (List.getD basesI j (0 : Int))) fun j => MV.int u64 (List.getD basesI j (0 : Int))) ∧ ((↑n : Int) = (↑n : Int) ∧ True) ∧ (13 : Int) = (13 : Int) ∧ wrap i64 ((↑(IxI.i i) : Int) + (1 : Int)) = (↑(IxI.i j) : Int) ∧ True) ∧ True) ∧ (13 : Nat) - IxI.i j < (13 : Nat) - IxI.i i else (-1 : Int) = idxS n fbases (0 : Nat)) = evFn (env [c_pr1] (a_ix4 n)) Tryd.f63 [.sl 1 13 (fun j => .int .u64 (basesI.getD j 0)), .fn 42 [.ref (.int .u64 n)]] (MRes.sat (.ret (.int .i64 (idxS n fbases 0)))) := by kernel_rfl
theorem LeFun.refl {len : Nat} {f : Nat → MV} : LeFun len f f := ⟨fun _ _ _ _ _ r => r⟩
theorem ix_step (n : Nat) {l : List Nat} {i : Nat} (h : i < l.length) : idxS n (l.drop i) i = cond (strongN n (l.getD i 0)) (idxS n (l.drop (i + 1)) (i + 1)) (i : Int) := by
 rw [List.drop_eq_getElem_cons h]
 simp [idxS, h]
theorem basesI_eq {i : Nat} (h : i < 13) : basesI.getD i 0 = ((fbases.getD i 0 : Nat) : Int) ∧ fbases.getD i 0 < 100 := by
 have : ∀ i : Fin 13, basesI.getD i.1 0 = ((fbases.getD i.1 0 : Nat) : Int) ∧ fbases.getD i.1 0 < 100 := by decide
 exact this ⟨i, h⟩
theorem ix4_ok {n : Nat} (h2 : 2 < n) (h3 : n < 18446744073709551616) (ho : n % 2 = 1) : ∃ E : Env Tryd.prog, evFn E Tryd.f63 [.sl 1 13 (fun j => .int .u64 (basesI.getD j 0)), .fn 42 [.ref (.int .u64 n)]] (MRes.sat (.ret (.int .i64 (idxS n fbases 0)))) := by
 refine ⟨env [c_pr1] (a_ix4 n), ?_⟩
 rw [← vc_ix4 n]
 refine ⟨⟨⟨0⟩, ⟨Nat.zero_le _, rfl⟩, ?_⟩, fun i hi => ?_⟩
 ·and_intros <;> first | exact True.intro | rfl | exact LeFun.refl
 obtain ⟨i⟩ := i
 obtain ⟨h1, h4⟩ : i ≤ 13 ∧ idxS n (fbases.drop i) i = idxS n fbases 0 := hi
 dsimp only
 refine condI decide_eq_true_iff (fun q => ?_) (fun q => ?_)
 ·have hi' : i < 13 := by omega
  obtain ⟨b1, b2⟩ := basesI_eq hi'
  have hs := ix_step n (l := fbases) (i := i) hi'
  rw [h4] at hs
  rw [Int.toNat_natCast, b1, Int.toNat_natCast, Int.toNat_natCast]
  refine ⟨by omega, by omega, ?_⟩
  cases hc : strongN n (fbases.getD i 0) with
  | true =>
   rw [hc, cond_true] at hs
   rw [Bool.not_true, cond_false]
   have e5 : wrap i64 ((i : Int) + 1) = ((i + 1 : Nat) : Int) := by rw [i64w (by omega) (by omega)]; omega
   rw [e5]
   refine ⟨⟨i + 1⟩, ⟨hi', hs.symm⟩, ?_, by show 13 - (i + 1) < 13 - i; omega⟩
   and_intros <;> first | exact True.intro | rfl | exact LeFun.refl
  | false =>
   rw [hc, cond_false] at hs
   rw [Bool.not_false, cond_true]
   exact hs.symm
 ·obtain rfl : i = 13 := by omega
  rw [← h4]; rfl
def s_ix4 : FSpec
 | [.sl 1 13 f, .fn 42 [.ref (.int .u64 n)]] => some (some ((∀ j, j < 13 → f j = .int .u64 (basesI.getD j 0)) ∧ 2 < n ∧ n < 18446744073709551616 ∧ n % 2 = 1), .ret (.int .i64 (idxS n.toNat fbases 0)))
 | _ => none
theorem p_ix4 : ∀ ms p r, s_ix4 ms = some (p, r) → p.holds → ∃ ms', leV.leVs 0 ms ms' ∧ ∃ E : Env Tryd.prog, evFn E Tryd.f63 ms' r.sat := by
 intro ms p r h hp
 unfold s_ix4 at h
 split at h
 ·rename_i f n0
  simp only [Option.some.injEq, Prod.mk.injEq] at h
  obtain ⟨rfl, rfl⟩ := h
  obtain ⟨hf, h2, h3, ho⟩ : (∀ j, j < 13 → f j = .int .u64 (basesI.getD j 0)) ∧ 2 < n0 ∧ n0 < 18446744073709551616 ∧ n0 % 2 = 1 := hp
  obtain ⟨n, rfl⟩ : ∃ n : Nat, n0 = n := ⟨n0.toNat, by omega⟩
  rw [Int.toNat_natCast]
  refine ⟨_, ?_, ix4_ok (by omega) (by omega) (by omega)⟩
  exact ⟨⟨rfl, rfl, ⟨fun i hi c w cs r => by rw [hf i hi] at r; exact r⟩⟩, ⟨rfl, True.intro⟩, True.intro⟩
 ·simp at h
def c_ix4 : Ctr Tryd.prog := ⟨63, s_ix4, fun args w => Tryd.call63 args w, fn_ok_le mix Tryd.func63 s_ix4 p_ix4⟩
theorem vc_cf4 (f : Nat → MV) (n : Int) : (((∀ (j : Nat), j < (13 : Nat) → f j = MV.int u64 (List.getD basesI j (0 : Int))) ∧ (2 : Int) < n ∧ n < (18446744073709551616 : Int) ∧ n % (2 : Int) = (1 : Int)) ∧ decide (idxS (Int.toNat n) fbases (0 : Nat) ≥ (0 : Int)) = !allS (Int.toNat n) fbases) = evFn (env [c_ix4] noAnn) Tryd.f41 [.sl 1 13 f, .fn 42 [.ref (.int .u64 n)]] (MRes.sat (.ret (.bool (!allS n.toNat fbases)))) := by kernel_rfl
def s_cf4 : FSpec
 | [.sl 1 13 f, .fn 42 [.ref (.int .u64 n)]] => some (some ((∀ j, j < 13 → f j = .int .u64 (basesI.getD j 0)) ∧ 2 < n ∧ n < 18446744073709551616 ∧ n % 2 = 1), .ret (.bool (!allS n.toNat fbases)))
 | _ => none
theorem p_cf4 : Good Tryd.f41 s_cf4 := by
 intro ms p r h hp
 unfold s_cf4 at h
 split at h
 ·rename_i f n
  simp only [Option.some.injEq, Prod.mk.injEq] at h
  obtain ⟨rfl, rfl⟩ := h
  have hp : (∀ j, j < 13 → f j = .int .u64 (basesI.getD j 0)) ∧ 2 < n ∧ n < 18446744073709551616 ∧ n % 2 = 1 := hp
  refine ⟨env [c_ix4] noAnn, ?_⟩
  rw [← vc_cf4 f n]
  exact ⟨hp, idxS_all _ _ _⟩
 ·simp at h
def c_cf4 : Ctr Tryd.prog := ⟨41, s_cf4, fun args w => Tryd.call41 args w, fn_ok mix Tryd.func41 s_cf4 p_cf4⟩
def envF (Γ : List (Ctr Tryd.prog)) (fz : Nat → List Nat) (ann : Nat → MS → Option LoopAnn) : Env Tryd.prog := ⟨Γ, [], 27, ann, fz, fun _ _ => none⟩
def a_ppr : Nat → MS → Option LoopAnn
 | 3, _ => some (.unroll 14)
 | _, _ => none
def z_ppr : Nat → List Nat
 | 8 => [0, 1]
 | _ => []
theorem vc_ppr (n : Nat) (T : Bool) : (((0 : Int) ≤ (0 : Int) ∧ (0 : Int) < (↑(13 : Nat) : Int)) ∧ ((2 : Int) = (0 : Int) → False) ∧ bif Int.tmod (↑n : Int) (2 : Int) == (0 : Int) then ((↑n : Int) == (2 : Int)) = T else ((0 : Int) ≤ wrap i64 ((0 : Int) + (1 : Int)) ∧ wrap i64 ((0 : Int) + (1 : Int)) < (↑(13 : Nat) : Int)) ∧ ((3 : Int) = (0 : Int) → False) ∧ bif Int.tmod (↑n : Int) (3 : Int) == (0 : Int) then ((↑n : Int) == (3 : Int)) = T else ((0 : Int) ≤ wrap i64 (wrap i64 ((0 : Int) + (1 : Int)) + (1 : Int)) ∧ wrap i64 (wrap i64 ((0 : Int) + (1 : Int)) + (1 : Int)) < (↑(13 : Nat) : Int)) ∧ ((5 : Int) = (0 : Int) → False) ∧ bif Int.tmod (↑n : Int) (5 : Int) == (0 : Int) then ((↑n : Int) == (5 : Int)) = T else ((0 : Int) ≤ wrap i64 (wrap i64 (wrap i64 ((0 : Int) + (1 : Int)) + (1 : Int)) + (1 : Int)) ∧ wrap i64 (wrap i64 (wrap i64 ((0 : Int) + (1 : Int)) + (1 : Int)) + (1 : Int)) < (↑(13 : Nat) : Int)) ∧ ((7 : Int) = (0 : Int) → False) ∧ bif Int.tmod (↑n : Int) (7 : Int) == (0 : Int) then ((↑n : Int) == (7 : Int)) = T else ((0 : Int) ≤ wrap i64 (wrap i64 (wrap i64 (wrap i64 ((0 : Int) + (1 : Int)) + (1 : Int)) + (1 : Int)) + (1 : Int)) ∧ wrap i64 (wrap i64 (wrap i64 (wrap i64 ((0 : Int) + (1 : Int)) + (1 : Int)) + (1 : Int)) + (1 : Int)) < (↑(13 : Nat) : Int)) ∧ ((11 : Int) = (0 : Int) → False) ∧ bif Int.tmod (↑n : Int) (11 : Int) == (0 : Int) then ((↑n : Int) == (11 : Int)) = T else ((0 : Int) ≤ wrap i64 (wrap i64 (wrap i64 (wrap i64 (wrap i64 ((0 : Int) + (1 : Int)) + (1 : Int)) + (1 : Int)) + (1 : Int)) + (1 : Int)) ∧ wrap i64 (wrap i64 (wrap i64 (wrap i64 (wrap i64 ((0 : Int) + (1 : Int)) + (1 : Int)) + (1 : Int)) + (1 : Int)) + (1 : Int)) < (↑(13 : Nat) : Int)) ∧ ((13 : Int) = (0 : Int) → False) ∧ bif Int.tmod (↑n : Int) (13 : Int) == (0 : Int) then ((↑n : Int) == (13 : Int)) = T else ((0 : Int) ≤ wrap i64 (wrap i64 (wrap i64 (wrap i64 (wrap i64 (wrap i64 ((0 : Int) + (1 : Int)) + (1 : Int)) + (1 : Int)) + (1 : Int)) + (1 : Int)) + (1 : Int)) ∧ wrap i64 (wrap i64 (wrap i64 (wrap i64 (wrap i64 (wrap i64 ((0 : Int) + (1 : Int)) + (1 : Int)) + (1 : Int)) + (1 : Int)) + (1 : Int)) + (1 : Int)) < (↑(13 : Nat) : Int)) ∧ ((17 : Int) = (0 : Int) → False) ∧ bif Int.tmod (↑n : Int) (17 : Int) == (0 : Int) then ((↑n : Int) == (17 : Int)) = T else ((0 : Int) ≤ wrap i64 (wrap i64 (wrap i64 (wrap i64 (wrap i64 (wrap i64 (wrap i64 ((0 : Int) + (1 : Int)) + (1 : Int)) + (1 : Int)) + (1 : Int)) + (1 : Int)) + (1 : Int)) + (1 : Int)) ∧ wrap i64 (wrap i64 (wrap i64 (wrap i64 (wrap i64 (wrap i64 (wrap i64 ((0 : Int) + (1 : Int)) + (1 : Int)) + (1 : Int)) + (1 : Int)) + (1 : Int)) + (1 : Int)) + (1 : Int)) < (↑(13 : Nat) : Int)) ∧ ((19 : Int) = (0 : Int) → False) ∧ bif Int.tmod (↑n : Int) (19 : Int) == (0 : Int) then ((↑n : Int) == (19 : Int)) = T else ((0 : Int) ≤ wrap i64 (wrap i64 (wrap i64 (wrap i64 (wrap i64 (wrap i64 (wrap i64 (wrap i64 ((0 : Int) + (1 : Int)) + (1 : Int)) + (1 : Int)) + (1 : Int)) + (1 : Int)) + (1 : Int)) + (1 : Int)) + (1 : Int)) ∧ wrap i64 (wrap i64 (wrap i64 (wrap i64 (wrap i64 (wrap i64 (wrap i64 (wrap i64 ((0 : Int) + (1 : Int)) + (1 : Int)) + (1 : Int)) + (1 : Int)) + (1 : Int)) + (1 : Int)) + (1 : Int)) + (1 : Int)) < (↑(13 : Nat) : Int)) ∧ ((23 : Int) = (0 : Int) → False) ∧ bif Int.tmod (↑n : Int) (23 : Int) == (0 : Int) then ((↑n : Int) == (23 : Int)) = T else ((0 : Int) ≤ wrap i64 (wrap i64 (wrap i64 (wrap i64 (wrap i64 (wrap i64 (wrap i64 (wrap i64 (wrap i64 ((0 : Int) + (1 : Int)) + (1 : Int)) + (1 : Int)) + (1 : Int)) + (1 : Int)) + (1 : Int)) + (1 : Int)) + (1 : Int)) + (1 : Int)) ∧ wrap i64 (wrap i64 (wrap i64 (wrap i64 (wrap i64 (wrap i64 (wrap i64 (wrap i64 (wrap i64 ((0 : Int) + (1 : Int)) + (1 : Int)) + (1 : Int)) + (1 : Int)) + (1 : Int)) + (1 : Int)) + (1 : Int)) + (1 : Int)) + (1 : Int)) < (↑(13 : Nat) : Int)) ∧ ((29 : Int) = (0 : Int) → False) ∧ bif Int.tmod (↑n : Int) (29 : Int) == (0 : Int) then ((↑n : Int) == (29 : Int)) = T else ((0 : Int) ≤ wrap i64 (wrap i64 (wrap i64 (wrap i64 (wrap i64 (wrap i64 (wrap i64 (wrap i64 (wrap i64 (wrap i64 ((0 : Int) + (1 : Int)) + (1 : Int)) + (1 : Int)) + (1 : Int)) + (1 : Int)) + (1 : Int)) + (1 : Int)) + (1 : Int)) + (1 : Int)) + (1 : Int)) ∧ wrap i64 (wrap i64 (wrap i64 (wrap i64 (wrap i64 (wrap i64 (wrap i64 (wrap i64 (wrap i64 (wrap i64 ((0 : Int) + (1 : Int)) + (1 : Int)) + (1 : Int)) + (1 : Int)) + (1 : Int)) + (1 : Int)) + (1 : Int)) + (1 : Int)) + (1 : Int)) + (1 : Int)) < (↑(13 : Nat) : Int)) ∧ ((31 : Int) = (0 : Int) → False) ∧ bif Int.tmod (↑n : Int) (31 : Int) == (0 : Int) then ((↑n : Int) == (31 : Int)) = T else ((0 : Int) ≤ wrap i64 (wrap i64 (wrap i64 (wrap i64 (wrap i64 (wrap i64 (wrap i64 (wrap i64 (wrap i64 (wrap i64 (wrap i64 ((0 : Int) + (1 : Int)) + (1 : Int)) + (1 : Int)) + (1 : Int)) + (1 : Int)) + (1 : Int)) + (1 : Int)) + (1 : Int)) + (1 : Int)) + (1 : Int)) + (1 : Int)) ∧ wrap i64 (wrap i64 (wrap i64 (wrap i64 (wrap i64 (wrap i64 (wrap i64 (wrap i64 (wrap i64 (wrap i64 (wrap i64 ((0 : Int) + (1 : Int)) + (1 : Int)) + (1 : Int)) + (1 : Int)) + (1 : Int)) + (1 : Int)) + (1 : Int)) + (1 : Int)) + (1 : Int)) + (1 : Int)) + (1 : Int)) < (↑(13 : Nat) : Int)) ∧ ((37 : Int) = (0 : Int) → False) ∧ bif Int.tmod (↑n : Int) (37 : Int) == (0 : Int) then ((↑n : Int) == (37 : Int)) = T else ((0 : Int) ≤ wrap i64 (wrap i64 (wrap i64 (wrap i64 (wrap i64 (wrap i64 (wrap i64 (wrap i64 (wrap i64 (wrap i64 (wrap i64 (wrap i64 ((0 : Int) + (1 : Int)) + (1 : Int)) + (1 : Int)) + (1 : Int)) + (1 : Int)) + (1 : Int)) + (1 : Int)) + (1 : Int)) + (1 : Int)) + (1 : Int)) + (1 : Int)) + (1 : Int)) ∧ wrap i64 (wrap i64 (wrap i64 (wrap i64 (wrap i64 (wrap i64 (wrap i64 (wrap i64 (wrap i64 (wrap i64 (wrap i64 (wrap i64 ((0 : Int) + (1 : Int)) + (1 : Int)) + (1 : Int)) + (1 : Int)) + (1 : Int)) + (1 : Int)) + (1 : Int)) + (1 : Int)) + (1 : Int)) + (1 : Int)) + (1 : Int)) + (1 : Int)) < (↑(13 : Nat) : Int)) ∧ ((41 : Int) = (0 : Int) → False) ∧ bif Int.tmod (↑n : Int) (41 : Int) == (0 : Int) then ((↑n : Int) == (41 : Int)) = T else bif decide ((↑n : Int) > (1 : Int)) then ((∀ (j : Nat), j < (13 : Nat) → MV.int u64 (List.getD [(2 : Int), (3 : Int), (5 : Int), (7 : Int), (11 : Int), (13 : Int), (17 : Int), (19 : Int), (23 : Int), (29 : Int), (31 : Int), (37 : Int), (41 : Int)] j (0 : Int)) = MV.int u64 (List.getD basesI j (0 : Int))) ∧ (2 : Int) < (↑n : Int) ∧ (↑n : Int) < (18446744073709551616 : Int) ∧ (↑n : Int) % (2 : Int) = (1 : Int)) ∧ (!!allS (Int.toNat (↑n : Int)) fbases) = T else false = T) = evFn (envF [c_cf4] z_ppr a_ppr) Tryd.f22 [.int .u64 n] (MRes.sat (.ret (.bool T))) := by kernel_rfl
theorem pr_lvl {n p : Nat} {r : List Nat} {Y : Prop} {T : Bool} (hT : T = isPR n (p :: r)) (hY : n % p ≠ 0 → Y) : bif (Int.tmod (n : Int) (p : Int)) == 0 then ((n : Int) == (p : Int)) = T else Y := by
 have e : Int.tmod (n : Int) (p : Int) = ((n % p : Nat) : Int) := by rw [Int.tmod_eq_emod_of_nonneg (by omega)]; omega
 rw [e]
 refine condI beq_iff_eq (fun q => ?_) (fun q => hY (by omega))
 rw [hT, pr_yes (by omega)]
 cases hb : Nat.beq n p with
 | true => rw [Nat.eq_of_beq_eq_true hb]; exact beqI1 _
 | false => exact beqI0 (by have := Nat.ne_of_beq_eq_false hb; omega)
theorem bltN {a b : Nat} (h : a < b) : Nat.blt a b = true := by rw [Nat.blt_eq]; exact h
theorem bltN0 {a b : Nat} (h : ¬ a < b) : Nat.blt a b = false := by
 cases hb : Nat.blt a b with
 | false => rfl
 | true => rw [Nat.blt_eq] at hb; exact absurd hb h
def s_ppr : FSpec
 | [.int .u64 n] => some (some (0 ≤ n ∧ n < 18446744073709551616), .ret (.bool (isPN n.toNat)))
 | _ => none
theorem p_ppr : Good Tryd.f22 s_ppr := by
 intro ms p r h hp
 unfold s_ppr at h
 split at h
 ·rename_i n0
  simp only [Option.some.injEq, Prod.mk.injEq] at h
  obtain ⟨rfl, rfl⟩ := h
  obtain ⟨h0, h1⟩ : 0 ≤ n0 ∧ n0 < 18446744073709551616 := hp
  obtain ⟨n, rfl⟩ : ∃ n : Nat, n0 = n := ⟨n0.toNat, by omega⟩
  rw [Int.toNat_natCast]
  refine ⟨envF [c_cf4] z_ppr a_ppr, ?_⟩
  rw [← vc_ppr n (isPN n)]
  have hT : isPN n = isPR n [2, 3, 5, 7, 11, 13, 17, 19, 23, 29, 31, 37, 41] := rfl
  generalize isPN n = T at hT ⊢
  refine ⟨by decide +kernel, by decide, pr_lvl hT (fun q2 => ?_)⟩
  have q2 : n % 2 ≠ 0 := q2
  replace hT := hT.trans (pr_no q2)
  iterate 12
   refine ⟨by decide +kernel, by decide, pr_lvl hT (fun q => ?_)⟩
   replace hT := hT.trans (pr_no q)
   clear q
  rw [isPR] at hT
  refine condI decide_eq_true_iff (fun q => ⟨⟨fun _ _ => rfl, by omega, h1, by omega⟩, ?_⟩) (fun q => ?_)
  ·rw [hT, bltN (by omega), Bool.true_and, Bool.not_not, Int.toNat_natCast]
  ·rw [hT, bltN0 (by omega), Bool.false_and]
 ·simp at h
def c_ppr : Ctr Tryd.prog := ⟨22, s_ppr, fun args w => Tryd.call22 args w, fn_ok mix Tryd.func22 s_ppr p_ppr⟩
/-! ### The reference -/
theorem plus_mod {a b n : Int} (h1 : 0 ≤ a) (h2 : a < n) (h3 : 0 ≤ b) (h4 : b < n) : (a + b) % n = if a + b < n then a + b else a + b - n := by
 split
 ·exact Int.emod_eq_of_lt (by omega) (by omega)
 ·rw [← Int.sub_emod_right (a + b) n]
  exact Int.emod_eq_of_lt (by omega) (by omega)
def s_rpl : FSpec
 | [.int .u64 a, .int .u64 b, .int .u64 n] => some (some (0 ≤ a ∧ a < n ∧ 0 ≤ b ∧ b < n ∧ n < 18446744073709551616), .ret (.int .u64 ((a + b) % n)))
 | _ => none
theorem vc_rpl (a b n : Int) : (bif decide (wrap u64 (a + b) < a) then wrap u64 (wrap u64 (a + b) - n) = (a + b) % n else bif decide (wrap u64 (a + b) ≥ n) then wrap u64 (wrap u64 (a + b) - n) = (a + b) % n else wrap u64 (a + b) = (a + b) % n) = evFn (env [] noAnn) Tryd.f72 [.int .u64 a, .int .u64 b, .int .u64 n] (MRes.sat (.ret (.int .u64 ((a + b) % n)))) := by kernel_rfl
theorem p_rpl : Good Tryd.f72 s_rpl := by
 intro ms p r h hp
 unfold s_rpl at h
 split at h
 ·rename_i a b n
  simp only [Option.some.injEq, Prod.mk.injEq] at h
  obtain ⟨rfl, rfl⟩ := h
  obtain ⟨h1, h2, h3, h4, h5⟩ : 0 ≤ a ∧ a < n ∧ 0 ≤ b ∧ b < n ∧ n < 18446744073709551616 := hp
  refine ⟨env [] noAnn, ?_⟩
  rw [← vc_rpl a b n]
  rw [plus_mod h1 h2 h3 h4]
  simp only [u64w]
  by_cases q : a + b < n
  ·rw [if_pos q]
   exact condF (decide_eq_false (by omega)) (condF (decide_eq_false (by omega)) (by omega))
  ·rw [if_neg q]
   exact condI decide_eq_true_iff (fun _ => by omega) (fun _ => condT (decide_eq_true (by omega)) (by omega))
 ·simp at h
def c_rpl : Ctr Tryd.prog := ⟨72, s_rpl, fun args w => Tryd.call72 args w, fn_ok mix Tryd.func72 s_rpl p_rpl⟩
structure TI where
 o : Int
 a : Int
 b : Int
structure TiI (n R : Int) (i : TI) : Prop where
 o0 : 0 ≤ i.o
 o1 : i.o < n
 a0 : 0 ≤ i.a
 a1 : i.a < n
 b0 : 0 ≤ i.b
 b1 : i.b < 18446744073709551616
 e : (i.o + i.a * i.b) % n = R
def a_rtm (n R : Int) : Nat → MS → Option LoopAnn
 | 4, _ => some (.inv TI (TiI n R) (fun i => ⟨31, [(0, .int .u64 i.a), (1, .int .u64 i.b), (2, .int .u64 n), (7, .int .u64 i.o)], [], 0⟩) (fun i => i.b.toNat))
 | _, _ => none
theorem vc_rtm (a b n R : Int) : (bif decide (n < (4294967296 : Int)) then (n = (0 : Int) → False) ∧ Int.tmod (wrap u64 (a * b)) n = R else (∃ i, TiI n R i ∧ (a = TI.a i ∧ b = TI.b i ∧ n = n ∧ (0 : Int) = TI.o i ∧ True) ∧ True) ∧ ∀ (i : TI), TiI n R i → bif decide (TI.b i > (0 : Int)) then ((2 : Int) = (0 : Int) → False) ∧ bif Int.tmod (TI.b i) (2 : Int) == (1 : Int) then ((0 : Int) ≤ TI.o i ∧ TI.o i < n ∧ (0 : Int) ≤ TI.a i ∧ TI.a i < n ∧ n < (18446744073709551616 : Int)) ∧ ((0 : Int) ≤ TI.a i ∧ TI.a i < n ∧ (0 : Int) ≤ TI.a i ∧ TI.a i < n ∧ n < (18446744073709551616 : Int)) ∧ ((2 : Int) = (0 : Int) → False) ∧ ∃ j, TiI n R j ∧ (((TI.a i + TI.a i) % n = TI.a j ∧ wrap u64 (Int.tdiv (TI.b i) (2 : Int)) = TI.b j ∧ n = n ∧ (TI.o i + TI.a i) % n = TI.o j ∧ True) ∧ True) ∧ Int.toNat (TI.b j) < Int.toNat (TI.b i) else ((0 : Int) ≤ TI.a i ∧ TI.a i < n ∧ (0 : Int) ≤ TI.a i ∧ TI.a i < n ∧ n < (18446744073709551616 : Int)) ∧ ((2 : Int) = (0 : Int) → False) ∧ ∃ j, TiI n R j ∧ (((TI.a i + TI.a i) % n = TI.a j ∧ wrap u64 (Int.tdiv (TI.b i) (2 : Int)) = TI.b j ∧ n = n ∧ TI.o i = TI.o j ∧ True) ∧ True) ∧ Int.toNat (TI.b j) < Int.toNat (TI.b i) else TI.o i = R) = evFn (env [c_rpl] (a_rtm n R)) Tryd.f51 [.int .u64 a, .int .u64 b, .int .u64 n] (MRes.sat (.ret (.int .u64 R))) := by kernel_rfl
theorem em1 (x y b n : Int) : (x % n + y % n * b) % n = (x + y * b) % n := by rw [Int.add_emod, Int.emod_emod, Int.mul_emod, Int.emod_emod, ← Int.mul_emod, ← Int.add_emod]
theorem em2 (x y b n : Int) : (x + y % n * b) % n = (x + y * b) % n := by rw [Int.add_emod, Int.mul_emod, Int.emod_emod, ← Int.mul_emod, ← Int.add_emod]
theorem ti_odd {n R : Int} {i : TI} (I : TiI n R i) (h : i.b % 2 = 1) : TiI n R ⟨(i.o + i.a) % n, (i.a + i.a) % n, i.b / 2⟩ := by
 have h1 := I.o0; have h2 := I.o1; have h3 := I.b0; have h4 := I.b1
 refine ⟨Int.emod_nonneg _ (by omega), Int.emod_lt_of_pos _ (by omega), Int.emod_nonneg _ (by omega), Int.emod_lt_of_pos _ (by omega), by show 0 ≤ i.b / 2; omega, by show i.b / 2 < _; omega, ?_⟩
 show ((i.o + i.a) % n + (i.a + i.a) % n * (i.b / 2)) % n = R
 rw [em1, ← I.e]
 have e : i.a * i.b = i.a * (i.b / 2) + i.a * (i.b / 2) + i.a := by
  have : i.b = i.b / 2 + i.b / 2 + 1 := by omega
  calc i.a * i.b = i.a * (i.b / 2 + i.b / 2 + 1) := by rw [← this]
   _ = _ := by rw [Int.mul_add, Int.mul_add, Int.mul_one]
 rw [e, Int.add_mul]
 congr 1
 generalize i.a * (i.b / 2) = z
 omega
theorem ti_even {n R : Int} {i : TI} (I : TiI n R i) (h : i.b % 2 = 0) : TiI n R ⟨i.o, (i.a + i.a) % n, i.b / 2⟩ := by
 have h1 := I.o0; have h2 := I.o1; have h3 := I.b0; have h4 := I.b1
 refine ⟨h1, h2, Int.emod_nonneg _ (by omega), Int.emod_lt_of_pos _ (by omega), by show 0 ≤ i.b / 2; omega, by show i.b / 2 < _; omega, ?_⟩
 show (i.o + (i.a + i.a) % n * (i.b / 2)) % n = R
 rw [em2, ← I.e]
 have e : i.a * i.b = i.a * (i.b / 2) + i.a * (i.b / 2) := by
  have : i.b = i.b / 2 + i.b / 2 := by omega
  calc i.a * i.b = i.a * (i.b / 2 + i.b / 2) := by rw [← this]
   _ = _ := by rw [Int.mul_add]
 rw [e, Int.add_mul]
def s_rtm : FSpec
 | [.int .u64 a, .int .u64 b, .int .u64 n] => some (some (0 ≤ a ∧ a < n ∧ 0 ≤ b ∧ b < n ∧ n < 18446744073709551616), .ret (.int .u64 (a * b % n)))
 | _ => none
theorem p_rtm : Good Tryd.f51 s_rtm := by
 intro ms p r h hp
 unfold s_rtm at h
 split at h
 ·rename_i a b n
  simp only [Option.some.injEq, Prod.mk.injEq] at h
  obtain ⟨rfl, rfl⟩ := h
  obtain ⟨h1, h2, h3, h4, h5⟩ : 0 ≤ a ∧ a < n ∧ 0 ≤ b ∧ b < n ∧ n < 18446744073709551616 := hp
  refine ⟨env [c_rpl] (a_rtm n (a * b % n)), ?_⟩
  rw [← vc_rtm a b n (a * b % n)]
  refine condI decide_eq_true_iff (fun q => ⟨by omega, ?_⟩) (fun q => ⟨⟨⟨0, a, b⟩, ⟨by show (0 : Int) ≤ 0; omega, by show 0 < n; omega, h1, h2, h3, by show b < _; omega, by show (0 + a * b) % n = _; rw [Int.zero_add]⟩, ⟨rfl, rfl, rfl, rfl, True.intro⟩, True.intro⟩, fun i I => ?_⟩)
  ·obtain ⟨m0, m1⟩ := mul_lt_sq h1 (show a < 4294967296 by omega) h3 (show b < 4294967296 by omega)
   rw [u64i m0 (by omega), Int.tmod_eq_emod_of_nonneg m0]
  ·have i1 := I.o0; have i2 := I.o1; have i3 := I.a0; have i4 := I.a1; have i5 := I.b0; have i6 := I.b1
   have e1 : Int.tmod i.b 2 = i.b % 2 := Int.tmod_eq_emod_of_nonneg i5
   have e2 : wrap u64 (Int.tdiv i.b 2) = i.b / 2 := by rw [Int.tdiv_eq_ediv_of_nonneg i5, u64i (by omega) (by omega)]
   rw [e1, e2]
   refine condI decide_eq_true_iff (fun q => ⟨by omega, condI beq_iff_eq (fun q2 => ?_) (fun q2 => ?_)⟩) (fun q => ?_)
   ·exact ⟨⟨i1, i2, i3, i4, h5⟩, ⟨i3, i4, i3, i4, h5⟩, by omega, _, ti_odd I q2, ⟨⟨rfl, rfl, rfl, rfl, True.intro⟩, True.intro⟩, by show (i.b / 2).toNat < i.b.toNat; omega⟩
   ·exact ⟨⟨i3, i4, i3, i4, h5⟩, by omega, _, ti_even I (by omega), ⟨⟨rfl, rfl, rfl, rfl, True.intro⟩, True.intro⟩, by show (i.b / 2).toNat < i.b.toNat; omega⟩
   ·have e : i.b = 0 := by omega
    have := I.e
    rw [e, Int.mul_zero, Int.add_zero, Int.emod_eq_of_lt i1 i2] at this
    exact this
 ·simp at h
def c_rtm : Ctr Tryd.prog := ⟨51, s_rtm, fun args w => Tryd.call51 args w, fn_ok mix Tryd.func51 s_rtm p_rtm⟩
/-! ### algoristref04.strong -/
structure ST where
 d : Nat
 s : Nat
structure StI (n : Nat) (i : ST) : Prop where
 e : i.d * 2 ^ i.s = n - 1
 p : 0 < i.d
 l : i.s < 64
def a_rstr (n bb s R : Nat) (B : Bool) : Nat → MS → Option LoopAnn
 | 6, _ => some (.inv ST (StI n) (fun i => ⟨55, [(0, .int .u64 n), (1, .int .u64 bb), (5, .int .u64 i.d), (6, .int .i64 i.s)], [], 0⟩) (fun i => i.d))
 | 11, _ => some (.inv SP (SpI n R) (fun i => ⟨55, [(0, .int .u64 n), (6, .int .i64 s), (7, .int .u64 i.x), (8, .int .u64 i.y), (5, .int .u64 i.d)], [], 0⟩) (fun i => i.d))
 | 19, _ => some (.inv SH (ShI n s B) (fun i => ⟨55, [(0, .int .u64 n), (6, .int .i64 s), (7, .int .u64 i.x), (9, .int .i64 i.k)], [], 0⟩) (fun i => s - i.k))
 | _, _ => none
theorem vc_rstr (n b bb s R : Nat) (B T : Bool) : (((↑n : Int) = (0 : Int) → False) ∧ bif Int.tmod (↑b : Int) (↑n : Int) == (0 : Int) then true = T else (∃ i, StI n i ∧ ((↑n : Int) = (↑n : Int) ∧ Int.tmod (↑b : Int) (↑n : Int) = (↑bb : Int) ∧ wrap u64 ((↑n : Int) - (1 : Int)) = (↑(ST.d i) : Int) ∧ (0 : Int) = (↑(ST.s i) : Int) ∧ True) ∧ True) ∧ ∀ (i : ST), StI n i → ((2 : Int) = (0 : Int) → False) ∧ bif Int.tmod (↑(ST.d i) : Int) (2 : Int) == (0 : Int) then ((2 : Int) = (0 : Int) → False) ∧ ∃ j, StI n j ∧ (((↑n : Int) = (↑n : Int) ∧ (↑bb : Int) = (↑bb : Int) ∧ wrap u64 (Int.tdiv (↑(ST.d i) : Int) (2 : Int)) = (↑(ST.d j) : Int) ∧ wrap i64 ((↑(ST.s i) : Int) + (1 : Int)) = (↑(ST.s j) : Int) ∧ True) ∧ True) ∧ ST.d j < ST.d i else (∃ i_1, SpI n R i_1 ∧ ((↑n : Int) = (↑n : Int) ∧ (↑(ST.s i) : Int) = (↑s : Int) ∧ (1 : Int) = (↑(SP.x i_1) : Int) ∧ (↑bb : Int) = (↑(SP.y i_1) : Int) ∧ (↑(ST.d i) : Int) = (↑(SP.d i_1) : Int) ∧ True) ∧ True) ∧ ∀ (i : SP), SpI n R i → bif decide ((↑(SP.d i) : Int) > (0 : Int)) then ((2 : Int) = (0 : Int) → False) ∧ bif Int.tmod (↑(SP.d i) : Int) (2 : Int) == (1 : Int) then ((0 : Int) ≤ (↑(SP.x i) : Int) ∧ (↑(SP.x i) : Int) < (↑n : Int) ∧ (0 : Int) ≤ (↑(SP.y i) : Int) ∧ (↑(SP.y i) : Int) < (↑n : Int) ∧ (↑n : Int) < (18446744073709551616 : Int)) ∧ ((0 : Int) ≤ (↑(SP.y i) : Int) ∧ (↑(SP.y i) : Int) < (↑n : Int) ∧ (0 : Int) ≤ (↑(SP.y i) : Int) ∧ (↑(SP.y i) : Int) < (↑n : Int) ∧ (↑n : Int) < (18446744073709551616 : Int)) ∧ ((2 : Int) = (0 : Int) → False) ∧ ∃ j, SpI n R j ∧ (((↑n : Int) = (↑n : Int) ∧ (↑s : Int) = (↑s : Int) ∧ (↑(SP.x i) : Int) * (↑(SP.y i) : Int) % (↑n : Int) = (↑(SP.x j) : Int) ∧ (↑(SP.y i) : Int) * (↑(SP.y i) : Int) % (↑n : Int) = (↑(SP.y j) : Int) ∧ wrap u64 (Int.tdiv (↑(SP.d i) : Int) (2 : Int)) = (↑(SP.d j) : Int) ∧ True) ∧ True) ∧ SP.d j < SP.d i else ((0 : Int) ≤ (↑(SP.y i) : Int) ∧ (↑(SP.y i) : Int) < (↑n : Int) ∧ (0 : Int) ≤ (↑(SP.y i) : Int) ∧ (↑(SP.y i) : Int) < (↑n : Int) ∧ (↑n : Int) < (18446744073709551616 : Int)) ∧ ((2 : Int) = (0 : Int) → False) ∧ ∃ j, SpI n R j ∧ (((↑n : Int) = (↑n : Int) ∧ (↑s : Int) = (↑s : Int) ∧ (↑(SP.x i) : Int) = (↑(SP.x j) : Int) ∧ (↑(SP.y i) : Int) * (↑(SP.y i) : Int) % (↑n : Int) = (↑(SP.y j) : Int) ∧ wrap u64 (Int.tdiv (↑(SP.d i) : Int) (2 : Int)) = (↑(SP.d j) : Int) ∧ True) ∧ True) ∧ SP.d j < SP.d i else bif (↑(SP.x i) : Int) == (1 : Int) then true = T else (∃ i_1, ShI n s B i_1 ∧ ((↑n : Int) = (↑n : Int) ∧ (↑s : Int) = (↑s : Int) ∧ (↑(SP.x i) : Int) = (↑(SH.x i_1) : Int) ∧ (0 : Int) = (↑(SH.k i_1) : Int) ∧ True) ∧ True) ∧ ∀ (i : SH), ShI n s B i → bif decide ((↑(SH.k i) : Int) < (↑s : Int)) then bif (↑(SH.x i) : Int) == wrap u64 ((↑n : Int) - (1 : Int)) then true = T else ((0 : Int) ≤ (↑(SH.x i) : Int) ∧ (↑(SH.x i) : Int) < (↑n : Int) ∧ (0 : Int) ≤ (↑(SH.x i) : Int) ∧ (↑(SH.x i) : Int) < (↑n : Int) ∧ (↑n : Int) < (18446744073709551616 : Int)) ∧ ∃ j, ShI n s B j ∧ (((↑n : Int) = (↑n : Int) ∧ (↑s : Int) = (↑s : Int) ∧ (↑(SH.x i) : Int) * (↑(SH.x i) : Int) % (↑n : Int) = (↑(SH.x j) : Int) ∧ wrap i64 ((↑(SH.k i) : Int) + (1 : Int)) = (↑(SH.k j) : Int) ∧ True) ∧ True) ∧ s - SH.k j < s - SH.k i else false = T) = evFn (env [c_rtm] (a_rstr n bb s R B)) Tryd.f29 [.int .u64 n, .int .u64 b] (MRes.sat (.ret (.bool T))) := by kernel_rfl
theorem st_half {n : Nat} {i : ST} (I : StI n i) (h : i.d % 2 = 0) (hn : n < 18446744073709551616) : StI n ⟨i.d / 2, i.s + 1⟩ := by
 have hp := I.p
 have he := I.e
 have e2 : i.d / 2 * 2 ^ (i.s + 1) = n - 1 := by
  rw [← he, Nat.pow_succ, Nat.mul_comm (2 ^ i.s) 2, ← Nat.mul_assoc]
  congr 1
  omega
 refine ⟨e2, by show 0 < i.d / 2; omega, ?_⟩
 show i.s + 1 < 64
 false_or_by_contra
 rename_i hno
 have h1 : 2 ^ 64 ≤ 2 ^ (i.s + 1) := Nat.pow_le_pow_right (by omega) (by omega)
 have h2 : 1 * 2 ^ (i.s + 1) ≤ i.d / 2 * 2 ^ (i.s + 1) := Nat.mul_le_mul_right _ (by omega)
 have h3 : (2 : Nat) ^ 64 = 18446744073709551616 := rfl
 omega
theorem st_end {n : Nat} {i : ST} (I : StI n i) (h : i.d % 2 ≠ 0) : TzOk 64 (n - 1) i.s ∧ i.d = (n - 1) / 2 ^ i.s := by
 have he := I.e
 have hq : 0 < 2 ^ i.s := Nat.pow_pos (by omega)
 have hd : (n - 1) / 2 ^ i.s = i.d := by rw [← he, Nat.mul_div_cancel _ hq]
 exact ⟨⟨by rw [← he, Nat.mul_mod_left], by rw [hd]; omega, I.l⟩, hd.symm⟩
def s_rstr : FSpec
 | [.int .u64 n, .int .u64 b] => some (some ((2 < n ∧ n < 18446744073709551616) ∧ n % 2 = 1 ∧ 0 ≤ b ∧ b < 18446744073709551616), .ret (.bool (strongN n.toNat b.toNat)))
 | _ => none
theorem p_rstr : Good Tryd.f29 s_rstr := by
 intro ms p r h hp
 unfold s_rstr at h
 split at h
 ·rename_i n0 b0
  simp only [Option.some.injEq, Prod.mk.injEq] at h
  obtain ⟨rfl, rfl⟩ := h
  obtain ⟨⟨h2, h3⟩, ho, h4, h5⟩ : (2 < n0 ∧ n0 < 18446744073709551616) ∧ n0 % 2 = 1 ∧ 0 ≤ b0 ∧ b0 < 18446744073709551616 := hp
  obtain ⟨n, rfl⟩ : ∃ n : Nat, n0 = n := ⟨n0.toNat, by omega⟩
  obtain ⟨b, rfl⟩ : ∃ n : Nat, b0 = n := ⟨b0.toNat, by omega⟩
  rw [Int.toNat_natCast, Int.toNat_natCast]
  have hs := tz64_eq (n := n - 1) (by omega) (by omega)
  have hS := tzF_ok 64 (n - 1) (by omega) (show n - 1 < 18446744073709551616 by omega)
  have hsl := hS.l
  have eS := strongN_eq (n := n) (b := b)
  rw [← hs] at eS
  have en : wrap u64 ((n : Int) - 1) = ((n - 1 : Nat) : Int) := by rw [u64i (by omega) (by omega)]; omega
  generalize hsg : tzF 64 (n - 1) = s at *
  have hpl : (n - 1) / 2 ^ s < 18446744073709551616 := Nat.lt_of_le_of_lt (Nat.div_le_self _ _) (by omega)
  refine ⟨env [c_rtm] (a_rstr n (b % n) s (1 * (b % n) ^ ((n - 1) / 2 ^ s) % n) (hitF s (1 * (b % n) ^ ((n - 1) / 2 ^ s) % n) n)), ?_⟩
  rw [← vc_rstr n b (b % n) s (1 * (b % n) ^ ((n - 1) / 2 ^ s) % n) (hitF s (1 * (b % n) ^ ((n - 1) / 2 ^ s) % n) n) (strongN n b)]
  have ebn : Int.tmod (b : Int) (n : Int) = ((b % n : Nat) : Int) := by rw [Int.tmod_eq_emod_of_nonneg (by omega)]; omega
  rw [ebn, en]
  refine ⟨by omega, condI beq_iff_eq (fun q => (strongN_zero (by omega)).symm) (fun q => ?_)⟩
  have eS := eS (by omega) (by omega) (Nat.lt_trans (show n < 18446744073709551616 by omega) (by decide))
  generalize hR : 1 * (b % n) ^ ((n - 1) / 2 ^ s) % n = R at *
  have hbn : b % n < n := Nat.mod_lt _ (by omega)
  have half : ∀ d : Nat, d < 18446744073709551616 → Int.tmod (d : Int) 2 = ((d % 2 : Nat) : Int) ∧ wrap u64 (Int.tdiv (d : Int) 2) = ((d / 2 : Nat) : Int) := fun d hd => by
   rw [Int.tmod_eq_emod_of_nonneg (by omega), Int.tdiv_eq_ediv_of_nonneg (by omega), u64i (by omega) (by omega)]
   omega
  refine ⟨⟨⟨n - 1, 0⟩, ⟨by show (n - 1) * 2 ^ 0 = n - 1; omega, by show 0 < n - 1; omega, by show 0 < 64; omega⟩, ⟨rfl, rfl, rfl, rfl, True.intro⟩, True.intro⟩, fun i I => ?_⟩
  have hdl : i.d < 18446744073709551616 := by
   have h1 : i.d * 1 ≤ i.d * 2 ^ i.s := Nat.mul_le_mul_left _ (Nat.pow_pos (by omega))
   have := I.e
   omega
  have hil := I.l
  have hip := I.p
  obtain ⟨d1, d2⟩ := half i.d hdl
  rw [d1, d2]
  refine ⟨by omega, condI beq_iff_eq (fun q => ⟨by omega, _, st_half I (by omega) (by omega), ⟨⟨rfl, rfl, rfl, ?_, True.intro⟩, True.intro⟩, by show i.d / 2 < i.d; omega⟩) (fun q => ?_)⟩
  ·rw [i64w (by omega) (by omega)]; rfl
  obtain ⟨k1, k2⟩ := st_end I (by omega)
  have k3 : i.s = s := tz_uniq k1 hS
  rw [k3] at k2 ⊢
  rw [k2]
  refine ⟨⟨⟨1, b % n, (n - 1) / 2 ^ s⟩, ⟨by show 1 < n; omega, hbn, hpl, hR⟩, ⟨rfl, rfl, rfl, rfl, rfl, True.intro⟩, True.intro⟩, fun i I => ?_⟩
  have hx := I.x
  have hy := I.y
  have hd := I.d
  have m1 : (i.y : Int) * (i.y : Int) % (n : Int) = ((i.y * i.y % n : Nat) : Int) := by simp
  have m2 : (i.x : Int) * (i.y : Int) % (n : Int) = ((i.x * i.y % n : Nat) : Int) := by simp
  obtain ⟨d1, d2⟩ := half i.d hd
  rw [d1, d2, m1, m2]
  refine condI decide_eq_true_iff (fun q => ⟨by omega, ?_⟩) (fun q => ?_)
  ·refine condI beq_iff_eq (fun q2 => ?_) (fun q2 => ?_)
   ·refine ⟨by omega, by omega, by omega, ⟨_, sp_odd I (by omega) (by omega), ⟨⟨rfl, rfl, rfl, rfl, rfl, True.intro⟩, True.intro⟩, by show i.d / 2 < i.d; omega⟩⟩
   ·refine ⟨by omega, by omega, ⟨_, sp_even I (by omega) (by omega), ⟨⟨rfl, rfl, rfl, rfl, rfl, True.intro⟩, True.intro⟩, by show i.d / 2 < i.d; omega⟩⟩
  ·have hxR := sp_end I (by omega)
   rw [hxR] at hx ⊢
   refine condI beq_iff_eq (fun q2 => ?_) (fun q2 => ⟨⟨⟨0, R⟩, ⟨Nat.zero_le _, hx, rfl⟩, ⟨rfl, rfl, rfl, rfl, True.intro⟩, True.intro⟩, fun i I => ?_⟩)
   ·rw [eS, show R = 1 by omega]; rfl
   rw [beqN (show R ≠ 1 by omega), Bool.false_or] at eS
   have hx := I.x
   have hk := I.k
   have m1 : (i.x : Int) * (i.x : Int) % (n : Int) = ((i.x * i.x % n : Nat) : Int) := by simp
   rw [m1]
   refine condI decide_eq_true_iff (fun q => ?_) (fun q => ?_)
   ·refine condI beq_iff_eq (fun q2 => ?_) (fun q2 => ?_)
    ·rw [eS]; exact (sh_hit I (by omega) (by omega)).symm
    ·refine ⟨by omega, ⟨_, sh_step I (by omega) (by omega) (by omega), ⟨⟨rfl, rfl, rfl, ?_, True.intro⟩, True.intro⟩, by show s - (i.k + 1) < s - i.k; omega⟩⟩
     rw [i64w (by omega) (by omega)]
     rfl
   ·rw [eS]; exact (sh_end I (by omega)).symm
 ·simp at h
def c_rstr : Ctr Tryd.prog := ⟨29, s_rstr, fun args w => Tryd.call29 args w, fn_ok mix Tryd.func29 s_rstr p_rstr⟩
structure PrI4 (n : Int) (T : Bool) (i : IxI) : Prop where
 l : i.i ≤ 13
 e : isPR n.toNat (fbases.drop i.i) = T
 o : 0 < i.i → n % 2 = 1
structure PrJ4 (n : Int) (T : Bool) (i : IxI) : Prop where
 l : i.i ≤ 13
 e : allS n.toNat (fbases.drop i.i) = T
def a_rpp (n : Int) (T : Bool) : Nat → MS → Option LoopAnn
 | 5, _ => some (.inv IxI (PrI4 n T) (fun i => ⟨41, [(0, .int .u64 n), (3, .bs 0 0 13), (4, .int .i64 i.i)], [⟨false, .arr .u64 basesI⟩], 0⟩) (fun i => 13 - i.i))
 | 10, _ => some (.inv IxI (PrJ4 n T) (fun i => ⟨41, [(0, .int .u64 n), (3, .bs 0 0 13), (5, .int .i64 i.i)], [⟨false, .arr .u64 basesI⟩], 0⟩) (fun i => 13 - i.i))
 | _, _ => none
theorem vc_rpp (n : Int) (T : Bool) : (bif decide (n < (2 : Int)) then false = T else (∃ i, PrI4 n T i ∧ (n = n ∧ ((0 : Nat) = (0 : Nat) ∧ (13 : Nat) = (13 : Nat)) ∧ (0 : Int) = (↑(IxI.i i) : Int) ∧ True) ∧ [(2 : Int), (3 : Int), (5 : Int), (7 : Int), (11 : Int), (13 : Int), (17 : Int), (19 : Int), (23 : Int), (29 : Int), (31 : Int), (37 : Int), (41 : Int)] = basesI ∧ True) ∧ ∀ (i : IxI), PrI4 n T i → bif decide ((↑(IxI.i i) : Int) < (↑(13 : Nat) : Int)) then ((0 : Int) ≤ (↑(IxI.i i) : Int) ∧ (↑(IxI.i i) : Int) < (↑(13 : Nat) : Int)) ∧ (0 : Nat) + Int.toNat (↑(IxI.i i) : Int) < (13 : Nat) ∧ (List.getD basesI ((0 : Nat) + Int.toNat (↑(IxI.i i) : Int)) (0 : Int) = (0 : Int) → False) ∧ bif Int.tmod n (List.getD basesI ((0 : Nat) + Int.toNat (↑(IxI.i i) : Int)) (0 : Int)) == (0 : Int) then ((0 : Int) ≤ (↑(IxI.i i) : Int) ∧ (↑(IxI.i i) : Int) < (↑(13 : Nat) : Int)) ∧ (0 : Nat) + Int.toNat (↑(IxI.i i) : Int) < (13 : Nat) ∧ (n == List.getD basesI ((0 : Nat) + Int.toNat (↑(IxI.i i) : Int)) (0 : Int)) = T else ∃ j, PrI4 n T j ∧ ((n = n ∧ ((0 : Nat) = (0 : Nat) ∧ (13 : Nat) = (13 : Nat)) ∧ wrap i64 ((↑(IxI.i i) : Int) + (1 : Int)) = (↑(IxI.i j) : Int) ∧ True) ∧ basesI = basesI ∧ True) ∧ (13 : Nat) - IxI.i j < (13 : Nat) - IxI.i i else (∃ i, PrJ4 n T i ∧ (n = n ∧ ((0 : Nat) = (0 : Nat) ∧ (13 : Nat) = (13 : Nat)) ∧ (0 : Int) = (↑(IxI.i i) : Int) ∧ True) ∧ basesI = basesI ∧ True) ∧ ∀ (i : IxI), PrJ4 n T i → bif decide ((↑(IxI.i i) : Int) < (↑(13 : Nat) : Int)) then ((0 : Int) ≤ (↑(IxI.i i) : Int) ∧ (↑(IxI.i i) : Int) < (↑(13 : Nat) : Int)) ∧ (0 : Nat) + Int.toNat (↑(IxI.i i) : Int) < (13 : Nat) ∧ (((2 : Int) < n ∧ n < (18446744073709551616 : Int)) ∧ n % (2 : Int) = (1 : Int) ∧ (0 : Int) ≤ List.getD basesI ((0 : Nat) + Int.toNat (↑(IxI.i i) : Int)) (0 : Int) ∧ List.getD basesI ((0 : Nat) + Int.toNat (↑(IxI.i i) : Int)) (0 : Int) < (18446744073709551616 : Int)) ∧ bif !strongN (Int.toNat n) (Int.toNat (List.getD basesI ((0 : Nat) + Int.toNat (↑(IxI.i i) : Int)) (0 : Int))) then false = T else ∃ j, PrJ4 n T j ∧ ((n = n ∧ ((0 : Nat) = (0 : Nat) ∧ (13 : Nat) = (13 : Nat)) ∧ wrap i64 ((↑(IxI.i i) : Int) + (1 : Int)) = (↑(IxI.i j) : Int) ∧ True) ∧ basesI = basesI ∧ True) ∧ (13 : Nat) - IxI.i j < (13 : Nat) - IxI.i i else true = T) = evFn (env [c_rstr] (a_rpp n T)) Tryd.f24 [.int .u64 n] (MRes.sat (.ret (.bool T))) := by kernel_rfl
theorem fb_drop {i : Nat} (h : i < 13) : fbases.drop i = fbases.getD i 0 :: fbases.drop (i + 1) := by
 have h : i < fbases.length := h
 rw [List.drop_eq_getElem_cons h]
 simp [h]
def s_rpp : FSpec
 | [.int .u64 n] => some (some (0 ≤ n ∧ n < 18446744073709551616), .ret (.bool (isPN n.toNat)))
 | _ => none
theorem p_rpp : Good Tryd.f24 s_rpp := by
 intro ms p r h hp
 unfold s_rpp at h
 split at h
 ·rename_i n
  simp only [Option.some.injEq, Prod.mk.injEq] at h
  obtain ⟨rfl, rfl⟩ := h
  obtain ⟨h0, h1⟩ : 0 ≤ n ∧ n < 18446744073709551616 := hp
  have hb2 : 2 ≤ n → isPR n.toNat [] = allS n.toNat fbases := fun h => by rw [isPR, bltN (by omega), Bool.true_and]
  refine ⟨env [c_rstr] (a_rpp n (isPN n.toNat)), ?_⟩
  rw [← vc_rpp n (isPN n.toNat)]
  refine condI decide_eq_true_iff (fun q => ?_) (fun q => ⟨⟨⟨0⟩, ⟨Nat.zero_le _, rfl, fun h => absurd h (by show ¬ 0 < 0; omega)⟩, ⟨rfl, ⟨rfl, rfl⟩, rfl, True.intro⟩, rfl, True.intro⟩, fun i I => ?_⟩)
  ·have : n.toNat = 0 ∨ n.toNat = 1 := by omega
   rcases this with e | e <;> rw [e] <;> decide +kernel
  ·generalize isPN n.toNat = T at *
   obtain ⟨i⟩ := i
   have il : i ≤ 13 := I.l
   have ie : isPR n.toNat (fbases.drop i) = T := I.e
   have io : 0 < i → n % 2 = 1 := I.o
   dsimp only
   have e5 : wrap i64 ((i : Int) + 1) = ((i + 1 : Nat) : Int) := by rw [i64w (by omega) (by omega)]; omega
   rw [Int.toNat_natCast, Nat.zero_add, e5]
   refine condI decide_eq_true_iff (fun q => ?_) (fun q => ?_)
   ·have hi : i < 13 := by omega
    obtain ⟨b1, b2⟩ := basesI_eq hi
    have hpos : 0 < fbases.getD i 0 := by
     have : ∀ i : Fin 13, 0 < fbases.getD i.1 0 := by decide
     exact this ⟨i, hi⟩
    rw [fb_drop hi] at ie
    rw [b1]
    generalize hpg : fbases.getD i 0 = p at *
    have et : Int.tmod n (p : Int) = ((n.toNat % p : Nat) : Int) := by
     rw [Int.tmod_eq_emod_of_nonneg h0]
     obtain ⟨m, rfl⟩ : ∃ m : Nat, n = m := ⟨n.toNat, by omega⟩
     rw [Int.toNat_natCast]; omega
    rw [et]
    refine ⟨by omega, by omega, by omega, condI beq_iff_eq (fun q2 => ⟨by omega, by omega, ?_⟩) (fun q2 => ?_)⟩
    ·rw [pr_yes (by omega)] at ie
     rw [← ie]
     cases hb : Nat.beq n.toNat p with
     | true => have := Nat.eq_of_beq_eq_true hb; rw [show n = (p : Int) by omega]; exact beqI1 _
     | false => exact beqI0 (by have := Nat.ne_of_beq_eq_false hb; omega)
    ·rw [pr_no (by omega)] at ie
     refine ⟨⟨i + 1⟩, ⟨hi, ie, fun _ => ?_⟩, ⟨⟨rfl, ⟨rfl, rfl⟩, rfl, True.intro⟩, rfl, True.intro⟩, by show 13 - (i + 1) < 13 - i; omega⟩
     rcases Nat.eq_zero_or_pos i with z | z
     ·subst z
      have : p = 2 := hpg.symm
      subst this
      omega
     ·exact io z
   ·obtain rfl : i = 13 := by omega
    have ho := io (by omega)
    have ie : isPR n.toNat [] = T := ie
    rw [hb2 (by omega)] at ie
    refine ⟨⟨⟨0⟩, ⟨Nat.zero_le _, ie⟩, ⟨rfl, ⟨rfl, rfl⟩, rfl, True.intro⟩, rfl, True.intro⟩, fun i I => ?_⟩
    obtain ⟨i⟩ := i
    have il : i ≤ 13 := I.l
    have ie : allS n.toNat (fbases.drop i) = T := I.e
    dsimp only
    have e5 : wrap i64 ((i : Int) + 1) = ((i + 1 : Nat) : Int) := by rw [i64w (by omega) (by omega)]; omega
    rw [Int.toNat_natCast, Nat.zero_add, e5]
    refine condI decide_eq_true_iff (fun q => ?_) (fun q => ?_)
    ·have hi : i < 13 := by omega
     obtain ⟨b1, b2⟩ := basesI_eq hi
     rw [fb_drop hi, allS] at ie
     rw [b1, Int.toNat_natCast]
     refine ⟨by omega, by omega, by omega, ?_⟩
     cases hc : strongN n.toNat (fbases.getD i 0) with
     | true =>
      rw [hc, Bool.true_and] at ie
      rw [Bool.not_true, cond_false]
      exact ⟨⟨i + 1⟩, ⟨hi, ie⟩, ⟨⟨rfl, ⟨rfl, rfl⟩, rfl, True.intro⟩, rfl, True.intro⟩, by show 13 - (i + 1) < 13 - i; omega⟩
     | false =>
      rw [hc, Bool.false_and] at ie
      rw [Bool.not_false, cond_true]
      exact ie
    ·obtain rfl : i = 13 := by omega
     exact ie
 ·simp at h
def c_rpp : Ctr Tryd.prog := ⟨24, s_rpp, fun args w => Tryd.call24 args w, fn_ok mix Tryd.func24 s_rpp p_rpp⟩
end Go.Proofs.YtmjklcpdfmgcaaaDoor
/-
 Contracts of functions: prime.word, Is, odd, rest, Strong, Witness; the reference's.
-/
namespace Go.Proofs.YtmjklcpdfmgcaaaDoor
open Go Go.RowKit
open Go.IntKind (wrap i64 i32 i16 i8 u64 u32 u16 u8)
def GoodX (fn : Func) (s : FSpec) : Prop := ∀ ms p r, s ms = some (p, r) → p.holds → factsL ms → ∃ X : XE Tryd.prog, evFnX X fn ms r.sat ∧ allOk X (fn.body.getD .skip)
theorem fnX_ok_facts {f : FuncId} {fn : Func} (hf : Tryd.prog.funcs[f]? = some fn) (spec : FSpec) (hspec : GoodX fn spec)
  (S : Nat → Prop) (w : World) (ms : List MV) (args : Array Value) (p : OProp) (r : MRes) (hs : spec ms = some (p, r)) (hp : p.holds) (hS : ∀ b, S b → b < w.heap.size) (hG : GW S w)
  (ha : RepAll (Ctx.args S) w ms args.toList) : Calls Tryd.prog f args w fun e w' => Ext w w' ∧ r.holds (Ctx.res S) w' e := by
 have hfx : factsL ms := RepAll.facts ms _ ha
 obtain ⟨X, h1, h2⟩ := hspec ms p r hs hp hfx
 refine fnX_ok mix hf (fun m => some (some (∃ X : XE Tryd.prog, evFnX X fn m r.sat ∧ allOk X (fn.body.getD .skip)), r)) (fun m p2 r2 h3 hp2 => ?_) S w ms args _ r rfl ⟨X, h1, h2⟩ hS hG ha
 simp only [Option.some.injEq, Prod.mk.injEq] at h3
 obtain ⟨rfl, rfl⟩ := h3
 exact hp2
structure WalkI where
 i : Nat
def x_word (l : List Int) : Nat → MS → XS → Option XAnn
 | 1, e, _ => some (.inv WalkI (fun i => i.i ≤ l.length) (fun i => ⟨19, [(0, look 0 e.tm), (1, .bp 2 0), (3, .int .i64 ((l.length : Int) - 1 - (i.i : Int)))], setNth e.bx 1 ⟨false, .one (.int .u64 (wv (l.drop (l.length - i.i))))⟩, 3⟩) (fun _ => none) (fun i => l.length - i.i))
 | _, _, _ => none
noncomputable def xe_word (l : List Int) : XE Tryd.prog where
 E := env [] noAnn
 xann := fun _ _ _ => none
 its := [⟨62, Tryd.f62, Tryd.func62, fun args w => Tryd.call62 args w, env [] noAnn, x_word l⟩]
 inl := [⟨40, Tryd.f40, Tryd.func40, fun args w => Tryd.call40 args w, env [] noAnn, fun _ _ _ => none⟩]
 rnp := fun _ => 3
 all := fun _ => none
theorem vc_word (z : Int) (n : Nat) (l : List Int) (v : Int) (o : Bool) : (((0 : Int) ≤ minI (↑(List.length (limbs (Int.natAbs z))) : Int) (2 : Int) ∧ minI (↑(List.length (limbs (Int.natAbs z))) : Int) (2 : Int) ≤ (↑(List.length (limbs (Int.natAbs z))) : Int)) ∧ ∀ (L : Nat), (∃ i : WalkI, i.1 ≤ List.length l ∧ ((Value.func (Fn.yield L) #[] #[] = Value.func (Fn.yield L) #[] #[] ∧ (0 : Nat) = (0 : Nat) ∧ wrap i64 ((↑(List.length (List.take (Int.toNat (minI (↑(List.length (limbs (Int.natAbs z))) : Int) (2 : Int))) (limbs (Int.natAbs z)))) : Int) - (1 : Int)) = (↑(List.length l) : Int) - (1 : Int) - (↑(i.1) : Int) ∧ True) ∧ (z = z ∧ (n ≤ n ∨ Int.natAbs z < (2 : Nat) ^ n)) ∧ (0 : Int) = wv (List.drop (List.length l - i.1) l) ∧ List.take (Int.toNat (minI (↑(List.length (limbs (Int.natAbs z))) : Int) (2 : Int))) (limbs (Int.natAbs z)) = List.take (Int.toNat (minI (↑(List.length (limbs (Int.natAbs z))) : Int) (2 : Int))) (limbs (Int.natAbs z)) ∧ True) ∧ True) ∧ ∀ (i : WalkI), i.1 ≤ List.length l → bif decide ((↑(List.length l) : Int) - (1 : Int) - (↑(i.1) : Int) ≥ (0 : Int)) then ((0 : Int) ≤ (↑(List.length l) : Int) - (1 : Int) - (↑(i.1) : Int) ∧ (↑(List.length l) : Int) - (1 : Int) - (↑(i.1) : Int) < (↑(List.length (List.take (Int.toNat (minI (↑(List.length (limbs (Int.natAbs z))) : Int) (2 : Int))) (limbs (Int.natAbs z)))) : Int)) ∧ L = L ∧ (0 : Int) ≤ (32 : Int) ∧ ∃ j : WalkI, j.1 ≤ List.length l ∧ ((Value.func (Fn.yield L) #[] #[] = Value.func (Fn.yield L) #[] #[] ∧ (0 : Nat) = (0 : Nat) ∧ wrap i64 ((↑(List.length l) : Int) - (1 : Int) - (↑(i.1) : Int) - (1 : Int)) = (↑(List.length l) : Int) - (1 : Int) - (↑(j.1) : Int) ∧ True) ∧ (z = z ∧ (n ≤ n ∨ Int.natAbs z < (2 : Nat) ^ n)) ∧ wrap u64 (↑(BitVec.toNat (BitVec.ofInt (IntKind.bits u64) (wrap u64 (wv (List.drop (List.length l - i.1) l) * (2 : Int) ^ min (Int.toNat (32 : Int)) (IntKind.bits u64))) ||| BitVec.ofInt (IntKind.bits u64) (wrap u64 (List.getD (List.take (Int.toNat (minI (↑(List.length (limbs (Int.natAbs z))) : Int) (2 : Int))) (limbs (Int.natAbs z))) (Int.toNat ((↑(List.length l) : Int) - (1 : Int) - (↑(i.1) : Int))) (0 : Int))))) : Int) = wv (List.drop (List.length l - j.1) l) ∧ List.take (Int.toNat (minI (↑(List.length (limbs (Int.natAbs z))) : Int) (2 : Int))) (limbs (Int.natAbs z)) = List.take (Int.toNat (minI (↑(List.length (limbs (Int.natAbs z))) : Int) (2 : Int))) (limbs (Int.natAbs z)) ∧ True) ∧ True ∧ List.length l - j.1 < List.length l - i.1 else bif !decide (z < (0 : Int)) then wv (List.drop (List.length l - i.1) l) = v ∧ decide ((↑(List.length (limbs (Int.natAbs z))) : Int) ≤ (2 : Int)) = o ∧ True else wv (List.drop (List.length l - i.1) l) = v ∧ false = o ∧ True) = evFnX (xe_word l) Tryd.f21 [.big z n] (MRes.sat (.ret (.tup [.int .u64 v, .bool o]))) := by kernel_rfl
theorem wv_drop_succ (l : List Int) {k : Nat} (h : k < l.length) : wv (l.drop k) = l.getD k 0 + 4294967296 * wv (l.drop (k + 1)) := by
 rw [List.drop_eq_getElem_cons h]
 simp [wv, h]
theorem wv_take2 (n : Nat) : wv ((limbs n).take 2) = ((n % 18446744073709551616 : Nat) : Int) := by
 by_cases h : n = 0
 ·subst h; rw [limbs_zero]; rfl
 ·rw [limbs_pos h]
  by_cases h2 : n / 4294967296 = 0
  ·rw [h2, limbs_zero]
   show ((n % 4294967296 : Nat) : Int) + 4294967296 * 0 = _
   omega
  ·rw [limbs_pos h2]
   show ((n % 4294967296 : Nat) : Int) + 4294967296 * (((n / 4294967296 % 4294967296 : Nat) : Int) + 4294967296 * 0) = _
   omega
theorem len2_iff (n : Nat) : (limbs n).length ≤ 2 ↔ n < 18446744073709551616 := by
 constructor
 ·intro h
  have h1 := limbs_lt n
  have h2 : 4294967296 ^ (limbs n).length ≤ 4294967296 ^ 2 := Nat.pow_le_pow_right (by omega) h
  have h3 : (4294967296 : Nat) ^ 2 = 18446744073709551616 := rfl
  omega
 ·intro h; exact limbs_len_le (by omega)
theorem word_step {l : List Int} (hw : Wd l) (hl : l.length ≤ 2) {i : Nat} (h0 : i < l.length) : wrap u64 (BitVec.ofInt u64.bits (u64.wrap (wv (l.drop (l.length - i)) * 4294967296)) ||| BitVec.ofInt u64.bits (u64.wrap (l.getD (l.length - 1 - i) 0))).toNat = wv (l.drop (l.length - (i + 1))) := by
 have es := wv_drop_succ l (k := l.length - 1 - i) (by omega)
 rw [show l.length - 1 - i + 1 = l.length - i by omega] at es
 have hx : 0 ≤ l.getD (l.length - 1 - i) 0 ∧ l.getD (l.length - 1 - i) 0 < 4294967296 := by
  have hk : l.length - 1 - i < l.length := by omega
  rw [show l.getD (l.length - 1 - i) 0 = l[l.length - 1 - i] by simp [hk]]
  exact hw _ (List.getElem_mem hk)
 have hv : 0 ≤ wv (l.drop (l.length - i)) ∧ wv (l.drop (l.length - i)) < 4294967296 := by
  have hwd : Wd (l.drop (l.length - i)) := fun x hx => hw x (List.mem_of_mem_drop hx)
  have hdl : (l.drop (l.length - i)).length ≤ 1 := by rw [List.length_drop]; omega
  have h2 := wv_lt hwd
  have h3 := wv_nonneg hwd
  have h4 : (4294967296 : Int) ^ (l.drop (l.length - i)).length ≤ 4294967296 ^ 1 := by
   rcases (show (l.drop (l.length - i)).length = 0 ∨ (l.drop (l.length - i)).length = 1 by omega) with q | q <;> rw [q] <;> decide
  omega
 rw [show l.length - (i + 1) = l.length - 1 - i by omega, es]
 generalize wv (l.drop (l.length - i)) = v at *
 generalize l.getD (l.length - 1 - i) 0 = x at *
 rw [eu64 (x := v * 4294967296) (by omega), eu64 (x := x) (by omega), or64 32 (by omega) (by omega) (by omega) (by omega) (by omega) (by omega)]
 omega
theorem minI_nat (a b : Nat) : minI (a : Int) (b : Int) = ((min a b : Nat) : Int) := by
 unfold minI
 split <;> omega
def s_word : FSpec
 | [.big z _] => some (none, .ret (.tup [.int .u64 ((z.natAbs : Int) % 18446744073709551616), .bool (decide (0 ≤ z ∧ z < 18446744073709551616))]))
 | _ => none
theorem p_word : GoodX Tryd.f21 s_word := by
 intro ms p r h hp hf
 unfold s_word at h
 split at h
 ·rename_i z n
  simp only [Option.some.injEq, Prod.mk.injEq] at h
  obtain ⟨rfl, rfl⟩ := h
  refine ⟨xe_word ((limbs z.natAbs).take 2), ?_, allOk_none rfl _⟩
  rw [← vc_word z n ((limbs z.natAbs).take 2) _ _, p32]
  have em : minI ((limbs z.natAbs).length : Int) 2 = ((min (limbs z.natAbs).length 2 : Nat) : Int) := minI_nat _ 2
  have et : (limbs z.natAbs).take (min (limbs z.natAbs).length 2) = (limbs z.natAbs).take 2 := by
   rcases Nat.le_total (limbs z.natAbs).length 2 with q | q
   ·rw [Nat.min_eq_left q, List.take_length, List.take_of_length_le q]
   ·rw [Nat.min_eq_right q]
  rw [em, Int.toNat_natCast, et]
  have hw : Wd ((limbs z.natAbs).take 2) := fun x hx => limbs_wd z.natAbs x (List.mem_of_mem_take hx)
  have hl : ((limbs z.natAbs).take 2).length ≤ 2 := by rw [List.length_take]; omega
  have hv := wv_take2 z.natAbs
  have h2 := len2_iff z.natAbs
  generalize (limbs z.natAbs).take 2 = l at *
  refine ⟨⟨by omega, by omega⟩, fun L => ⟨⟨⟨0⟩, Nat.zero_le _, ?_, True.intro⟩, fun i hi => ?_⟩⟩
  ·have e1 : wrap i64 ((l.length : Int) - 1) = (l.length : Int) - 1 - ((0 : Nat) : Int) := by rw [i64w (by omega) (by omega)]; omega
   have e2 : wv (l.drop (l.length - 0)) = 0 := by rw [Nat.sub_zero, List.drop_length]; rfl
   rw [e1]
   refine ⟨⟨rfl, rfl, rfl, True.intro⟩, ⟨rfl, .inl (Nat.le_refl _)⟩, e2.symm, rfl, True.intro⟩
  obtain ⟨i⟩ := i
  have hi : i ≤ l.length := hi
  dsimp only
  refine condI decide_eq_true_iff (fun q => ?_) (fun q => ?_)
  ·have h0 : i < l.length := by omega
   have eq : ((l.length : Int) - 1 - (i : Int)).toNat = l.length - 1 - i := by omega
   have e1 : wrap i64 ((l.length : Int) - 1 - (i : Int) - 1) = (l.length : Int) - 1 - ((i + 1 : Nat) : Int) := by rw [i64w (by omega) (by omega)]; omega
   rw [eq, word_step hw hl h0, e1]
   refine ⟨⟨by omega, by omega⟩, rfl, by omega, ⟨i + 1⟩, h0, ⟨⟨rfl, rfl, rfl, True.intro⟩, ⟨rfl, .inl (Nat.le_refl _)⟩, rfl, rfl, True.intro⟩, True.intro, by show l.length - (i + 1) < l.length - i; omega⟩
  ·obtain rfl : i = l.length := by omega
   rw [Nat.sub_self, List.drop_zero, hv]
   by_cases hz : z < 0
   ·rw [decide_eq_true hz, Bool.not_true, cond_false]
    exact ⟨by omega, (decide_eq_false (by omega)).symm, True.intro⟩
   ·rw [decide_eq_false hz, Bool.not_false, cond_true]
    refine ⟨by omega, ?_, True.intro⟩
    by_cases hs : z < 18446744073709551616
    ·rw [decide_eq_true (show 0 ≤ z ∧ z < 18446744073709551616 by omega)]
     exact decide_eq_true (by have := h2.2 (by omega); omega)
    ·rw [decide_eq_false (show ¬ (0 ≤ z ∧ z < 18446744073709551616) by omega)]
     refine decide_eq_false (fun h => ?_)
     have := h2.1 (by omega)
     omega
 ·simp at h
noncomputable def c_word : Ctr Tryd.prog := ⟨21, s_word, fun args w => Tryd.call21 args w, fnX_ok_facts Tryd.func21 s_word p_word⟩
def a_rlow4 (l : List Int) : Nat → MS → Option LoopAnn
 | 5, e => some (.inv WalkI (fun i => i.i ≤ l.length) (fun i => ⟨32, [(1, .bp 0 0), (4, .int .u64 (wv (l.drop (l.length - i.i)))), (5, .int .i64 ((l.length : Int) - 1 - (i.i : Int)))], e.bx, 0⟩) (fun i => l.length - i.i))
 | _, _ => none
theorem vc_rlow4 (z : Int) (n : Nat) (v : Int) (o : Bool) : (bif decide (z < (0 : Int)) then (0 : Int) = v ∧ false = o ∧ True else bif decide ((↑(List.length (limbs (Int.natAbs z))) : Int) > (2 : Int)) then (0 : Int) = v ∧ false = o ∧ True else (∃ i : WalkI, i.1 ≤ List.length (limbs (Int.natAbs z)) ∧ ((0 : Nat) = (0 : Nat) ∧ (0 : Int) = wv (List.drop (List.length (limbs (Int.natAbs z)) - i.1) (limbs (Int.natAbs z))) ∧ wrap i64 ((↑(List.length (limbs (Int.natAbs z))) : Int) - (1 : Int)) = (↑(List.length (limbs (Int.natAbs z))) : Int) - (1 : Int) - (↑(i.1) : Int) ∧ True) ∧ (z = z ∧ (n ≤ n ∨ Int.natAbs z < (2 : Nat) ^ n)) ∧ True) ∧ ∀ (i : WalkI), i.1 ≤ List.length (limbs (Int.natAbs z)) → bif decide ((↑(List.length (limbs (Int.natAbs z))) : Int) - (1 : Int) - (↑(i.1) : Int) ≥ (0 : Int)) then (0 : Int) ≤ (32 : Int) ∧ ((0 : Int) ≤ (↑(List.length (limbs (Int.natAbs z))) : Int) - (1 : Int) - (↑(i.1) : Int) ∧ (↑(List.length (limbs (Int.natAbs z))) : Int) - (1 : Int) - (↑(i.1) : Int) < (↑(List.length (limbs (Int.natAbs z))) : Int)) ∧ ∃ j : WalkI, j.1 ≤ List.length (limbs (Int.natAbs z)) ∧ (((0 : Nat) = (0 : Nat) ∧ wrap u64 (↑(BitVec.toNat (BitVec.ofInt (IntKind.bits u64) (wrap u64 (wv (List.drop (List.length (limbs (Int.natAbs z)) - i.1) (limbs (Int.natAbs z))) * (2 : Int) ^ min (Int.toNat (32 : Int)) (IntKind.bits u64))) ||| BitVec.ofInt (IntKind.bits u64) (wrap u64 (List.getD (limbs (Int.natAbs z)) (Int.toNat ((↑(List.length (limbs (Int.natAbs z))) : Int) - (1 : Int) - (↑(i.1) : Int))) (0 : Int))))) : Int) = wv (List.drop (List.length (limbs (Int.natAbs z)) - j.1) (limbs (Int.natAbs z))) ∧ wrap i64 ((↑(List.length (limbs (Int.natAbs z))) : Int) - (1 : Int) - (↑(i.1) : Int) - (1 : Int)) = (↑(List.length (limbs (Int.natAbs z))) : Int) - (1 : Int) - (↑(j.1) : Int) ∧ True) ∧ (z = z ∧ (n ≤ n ∨ Int.natAbs z < (2 : Nat) ^ n)) ∧ True) ∧ List.length (limbs (Int.natAbs z)) - j.1 < List.length (limbs (Int.natAbs z)) - i.1 else wv (List.drop (List.length (limbs (Int.natAbs z)) - i.1) (limbs (Int.natAbs z))) = v ∧ true = o ∧ True) = evFn (env [] (a_rlow4 (limbs z.natAbs))) Tryd.f23 [.big z n] (MRes.sat (.ret (.tup [.int .u64 v, .bool o]))) := by kernel_rfl
def s_rlow4 : FSpec
 | [.big z _] => some (none, .ret (.tup [.int .u64 (if 0 ≤ z ∧ z < 18446744073709551616 then z else 0), .bool (decide (0 ≤ z ∧ z < 18446744073709551616))]))
 | _ => none
theorem p_rlow4 : Good Tryd.f23 s_rlow4 := by
 intro ms p r h hp
 unfold s_rlow4 at h
 split at h
 ·rename_i z n
  simp only [Option.some.injEq, Prod.mk.injEq] at h
  obtain ⟨rfl, rfl⟩ := h
  refine ⟨env [] (a_rlow4 (limbs z.natAbs)), ?_⟩
  rw [← vc_rlow4 z n _ _, p32]
  have h2 := len2_iff z.natAbs
  have hw := limbs_wd z.natAbs
  have hv := wv_limbs z.natAbs
  generalize limbs z.natAbs = l at *
  refine condI decide_eq_true_iff (fun q => ⟨by rw [if_neg (by omega)], (decide_eq_false (by omega)).symm, True.intro⟩) (fun q => condI decide_eq_true_iff (fun q2 => ?_) (fun q2 => ?_))
  ·have hz : ¬ z < 18446744073709551616 := fun h => by have := h2.2 (by omega); omega
   exact ⟨by rw [if_neg (by omega)], (decide_eq_false (by omega)).symm, True.intro⟩
  ·have hl : l.length ≤ 2 := by omega
   have hz := h2.1 hl
   refine ⟨⟨⟨0⟩, Nat.zero_le _, ?_⟩, fun i hi => ?_⟩
   ·have e1 : wrap i64 ((l.length : Int) - 1) = (l.length : Int) - 1 - ((0 : Nat) : Int) := by rw [i64w (by omega) (by omega)]; omega
    have e2 : wv (l.drop (l.length - 0)) = 0 := by rw [Nat.sub_zero, List.drop_length]; rfl
    rw [e1]
    exact ⟨⟨rfl, e2.symm, rfl, True.intro⟩, ⟨rfl, .inl (Nat.le_refl _)⟩, True.intro⟩
   obtain ⟨i⟩ := i
   have hi : i ≤ l.length := hi
   dsimp only
   refine condI decide_eq_true_iff (fun q => ?_) (fun q => ?_)
   ·have h0 : i < l.length := by omega
    have eq : ((l.length : Int) - 1 - (i : Int)).toNat = l.length - 1 - i := by omega
    have e1 : wrap i64 ((l.length : Int) - 1 - (i : Int) - 1) = (l.length : Int) - 1 - ((i + 1 : Nat) : Int) := by rw [i64w (by omega) (by omega)]; omega
    rw [eq, word_step hw hl h0, e1]
    exact ⟨by omega, ⟨by omega, by omega⟩, ⟨i + 1⟩, h0, ⟨⟨rfl, rfl, rfl, True.intro⟩, ⟨rfl, .inl (Nat.le_refl _)⟩, True.intro⟩, by show l.length - (i + 1) < l.length - i; omega⟩
   ·obtain rfl : i = l.length := by omega
    rw [Nat.sub_self, List.drop_zero, hv, if_pos (by omega)]
    exact ⟨by omega, (decide_eq_true (by omega)).symm, True.intro⟩
 ·simp at h
def c_rlow4 : Ctr Tryd.prog := ⟨23, s_rlow4, fun args w => Tryd.call23 args w, fn_ok mix Tryd.func23 s_rlow4 p_rlow4⟩
def isE (z : Int) : Int := if 18446744073709551616 ≤ z then 2 else 0
def isB (z : Int) : Bool := if 0 ≤ z ∧ z < 18446744073709551616 then isPN z.toNat else false
def s_pis : FSpec
 | [.big z _] => some (none, .ret (.tup [.bool (isB z), .int .i64 (isE z)]))
 | _ => none
theorem vc_pis (z : Int) (n : Nat) : (bif decide (z < (0 : Int)) then false = isB z ∧ (0 : Int) = isE z ∧ True else bif !decide ((0 : Int) ≤ z ∧ z < (18446744073709551616 : Int)) then false = isB z ∧ (2 : Int) = isE z ∧ True else ((0 : Int) ≤ (↑(Int.natAbs z) : Int) % (18446744073709551616 : Int) ∧ (↑(Int.natAbs z) : Int) % (18446744073709551616 : Int) < (18446744073709551616 : Int)) ∧ isPN (Int.toNat ((↑(Int.natAbs z) : Int) % (18446744073709551616 : Int))) = isB z ∧ (0 : Int) = isE z ∧ True) = evFn (env [c_word, c_ppr] noAnn) Tryd.f8 [.big z n] (MRes.sat (.ret (.tup [.bool (isB z), .int .i64 (isE z)]))) := by kernel_rfl
theorem p_pis : Good Tryd.f8 s_pis := by
 intro ms p r h hp
 unfold s_pis at h
 split at h
 ·rename_i z n
  simp only [Option.some.injEq, Prod.mk.injEq] at h
  obtain ⟨rfl, rfl⟩ := h
  refine ⟨env [c_word, c_ppr] noAnn, ?_⟩
  rw [← vc_pis z n]
  unfold isB isE
  refine condI decide_eq_true_iff (fun q => ⟨by rw [if_neg (by omega)], by rw [if_neg (by omega)], True.intro⟩) (fun q => ?_)
  by_cases q2 : 0 ≤ z ∧ z < 18446744073709551616
  ·rw [decide_eq_true q2, Bool.not_true, cond_false, if_pos q2, if_neg (show ¬ 18446744073709551616 ≤ z by omega)]
   have e : (z.natAbs : Int) % 18446744073709551616 = z := by omega
   rw [e]
   exact ⟨q2, rfl, rfl, True.intro⟩
  ·rw [decide_eq_false q2, Bool.not_false, cond_true, if_neg q2, if_pos (show 18446744073709551616 ≤ z by omega)]
   exact ⟨rfl, rfl, True.intro⟩
 ·simp at h
def c_pis : Ctr Tryd.prog := ⟨8, s_pis, fun args w => Tryd.call8 args w, fn_ok mix Tryd.func8 s_pis p_pis⟩
def s_ris : FSpec
 | [.big z _] => some (none, .ret (.tup [.bool (isB z), .int .i64 (isE z)]))
 | _ => none
theorem vc_ris (z : Int) (n : Nat) : (bif decide (z < (0 : Int)) then false = isB z ∧ (0 : Int) = isE z ∧ True else bif !decide ((0 : Int) ≤ z ∧ z < (18446744073709551616 : Int)) then false = isB z ∧ (2 : Int) = isE z ∧ True else (((0 : Int) ≤ if (0 : Int) ≤ z ∧ z < (18446744073709551616 : Int) then z else (0 : Int)) ∧ (if (0 : Int) ≤ z ∧ z < (18446744073709551616 : Int) then z else (0 : Int)) < (18446744073709551616 : Int)) ∧ isPN (Int.toNat (if (0 : Int) ≤ z ∧ z < (18446744073709551616 : Int) then z else (0 : Int))) = isB z ∧ (0 : Int) = isE z ∧ True) = evFn (env [c_rlow4, c_rpp] noAnn) Tryd.f9 [.big z n] (MRes.sat (.ret (.tup [.bool (isB z), .int .i64 (isE z)]))) := by kernel_rfl
theorem p_ris : Good Tryd.f9 s_ris := by
 intro ms p r h hp
 unfold s_ris at h
 split at h
 ·rename_i z n
  simp only [Option.some.injEq, Prod.mk.injEq] at h
  obtain ⟨rfl, rfl⟩ := h
  refine ⟨env [c_rlow4, c_rpp] noAnn, ?_⟩
  rw [← vc_ris z n]
  unfold isB isE
  refine condI decide_eq_true_iff (fun q => ⟨by rw [if_neg (by omega)], by rw [if_neg (by omega)], True.intro⟩) (fun q => ?_)
  by_cases q2 : 0 ≤ z ∧ z < 18446744073709551616
  ·rw [decide_eq_true q2, Bool.not_true, cond_false, if_pos q2, if_pos q2, if_neg (show ¬ 18446744073709551616 ≤ z by omega)]
   exact ⟨q2, rfl, rfl, True.intro⟩
  ·rw [decide_eq_false q2, Bool.not_false, cond_true, if_neg q2, if_pos (show 18446744073709551616 ≤ z by omega)]
   exact ⟨rfl, rfl, True.intro⟩
 ·simp at h
def c_ris : Ctr Tryd.prog := ⟨9, s_ris, fun args w => Tryd.call9 args w, fn_ok mix Tryd.func9 s_ris p_ris⟩
def oddB (z t : Int) : Bool := decide (t < z ∧ z % 2 = 1)
theorem limb0 (n : Nat) : (limbs n).getD (Int.toNat 0) 0 = ((n % 4294967296 : Nat) : Int) := by
 have := limbs_getD n 0
 rw [Nat.pow_zero, Nat.div_one] at this
 exact this
theorem icmp_pos {a b : Int} : icmp a b > 0 ↔ b < a := by
 unfold icmp
 split
 ·omega
 ·split <;> omega
theorem limbs_ne {z : Int} (h : 0 < z) : (0 : Int) < ((limbs z.natAbs).length : Int) := by
 have : (limbs z.natAbs).length ≠ 0 := fun e => by
  have := limbs_eq_nil.1 (List.eq_nil_of_length_eq_zero e)
  omega
 omega
def s_podd : FSpec
 | [.big z n, .int .i64 t] => some (some (0 ≤ t ∧ t ≤ 1000 ∧ n ≤ 1000000), .ret (.bool (oddB z t)))
 | _ => none
theorem vc_podd (z t : Int) (n : Nat) : (((-9223372036854775808 : Int) ≤ t ∧ t ≤ (9223372036854775807 : Int)) ∧ (n ≤ (1000000 : Nat) ∧ (64 : Nat) ≤ (1000000 : Nat)) ∧ bif decide (icmp z t > (0 : Int)) then ((0 : Int) ≤ (0 : Int) ∧ (0 : Int) < (↑(List.length (limbs (Int.natAbs z))) : Int)) ∧ (wrap u32 (↑(BitVec.toNat (BitVec.ofInt (IntKind.bits u32) (List.getD (limbs (Int.natAbs z)) (Int.toNat (0 : Int)) (0 : Int)) &&& BitVec.ofInt (IntKind.bits u32) (1 : Int))) : Int) == (1 : Int)) = oddB z t else false = oddB z t) = evFn (env [c_iof, c_icmp] noAnn) Tryd.f25 [.big z n, .int .i64 t] (MRes.sat (.ret (.bool (oddB z t)))) := by kernel_rfl
theorem p_podd : Good Tryd.f25 s_podd := by
 intro ms p r h hp
 unfold s_podd at h
 split at h
 ·rename_i z n t
  simp only [Option.some.injEq, Prod.mk.injEq] at h
  obtain ⟨rfl, rfl⟩ := h
  obtain ⟨h1, h2, h3⟩ : 0 ≤ t ∧ t ≤ 1000 ∧ n ≤ 1000000 := hp
  refine ⟨env [c_iof, c_icmp] noAnn, ?_⟩
  rw [← vc_podd z t n]
  refine ⟨by omega, by omega, condI decide_eq_true_iff (fun q => ?_) (fun q => ?_)⟩
  ·have q := icmp_pos.1 q
   rw [limb0, and_one_word _ (by omega)]
   refine ⟨⟨by omega, limbs_ne (by omega)⟩, ?_⟩
   unfold oddB
   by_cases q2 : z % 2 = 1
   ·rw [decide_eq_true (show t < z ∧ z % 2 = 1 from ⟨q, q2⟩)]
    rw [show z.natAbs % 4294967296 % 2 = 1 by omega]; rfl
   ·rw [decide_eq_false (show ¬ (t < z ∧ z % 2 = 1) from fun h => q2 h.2)]
    rw [show z.natAbs % 4294967296 % 2 = 0 by omega]; rfl
  ·have q : ¬ t < z := fun h => q (icmp_pos.2 h)
   exact (decide_eq_false (show ¬ (t < z ∧ z % 2 = 1) from fun h => q h.1)).symm
 ·simp at h
def c_podd : Ctr Tryd.prog := ⟨25, s_podd, fun args w => Tryd.call25 args w, fn_ok mix Tryd.func25 s_podd p_podd⟩
def s_rodd : FSpec
 | [.big z n, .int .i64 t] => some (some (0 ≤ t ∧ t ≤ 1000 ∧ n ≤ 1000000), .ret (.bool (oddB z t)))
 | _ => none
theorem vc_rodd (z t : Int) (n : Nat) : (((-9223372036854775808 : Int) ≤ t ∧ t ≤ (9223372036854775807 : Int)) ∧ (n ≤ (1000000 : Nat) ∧ (64 : Nat) ≤ (1000000 : Nat)) ∧ bif decide (icmp z t > (0 : Int)) then ((0 : Int) ≤ (0 : Int) ∧ (0 : Int) < (↑(List.length (limbs (Int.natAbs z))) : Int)) ∧ ((2 : Int) = (0 : Int) → False) ∧ (Int.tmod (List.getD (limbs (Int.natAbs z)) (Int.toNat (0 : Int)) (0 : Int)) (2 : Int) == (1 : Int)) = oddB z t else false = oddB z t) = evFn (env [c_rof, c_rcmp] noAnn) Tryd.f28 [.big z n, .int .i64 t] (MRes.sat (.ret (.bool (oddB z t)))) := by kernel_rfl
theorem p_rodd : Good Tryd.f28 s_rodd := by
 intro ms p r h hp
 unfold s_rodd at h
 split at h
 ·rename_i z n t
  simp only [Option.some.injEq, Prod.mk.injEq] at h
  obtain ⟨rfl, rfl⟩ := h
  obtain ⟨h1, h2, h3⟩ : 0 ≤ t ∧ t ≤ 1000 ∧ n ≤ 1000000 := hp
  refine ⟨env [c_rof, c_rcmp] noAnn, ?_⟩
  rw [← vc_rodd z t n]
  refine ⟨by omega, by omega, condI decide_eq_true_iff (fun q => ?_) (fun q => ?_)⟩
  ·have q := icmp_pos.1 q
   rw [limb0, Int.tmod_eq_emod_of_nonneg (by omega)]
   refine ⟨⟨by omega, limbs_ne (by omega)⟩, by omega, ?_⟩
   unfold oddB
   by_cases q2 : z % 2 = 1
   ·rw [decide_eq_true (show t < z ∧ z % 2 = 1 from ⟨q, q2⟩)]
    rw [show ((z.natAbs % 4294967296 : Nat) : Int) % 2 = 1 by omega]; rfl
   ·rw [decide_eq_false (show ¬ (t < z ∧ z % 2 = 1) from fun h => q2 h.2)]
    rw [show ((z.natAbs % 4294967296 : Nat) : Int) % 2 = 0 by omega]; rfl
  ·have q : ¬ t < z := fun h => q (icmp_pos.2 h)
   exact (decide_eq_false (show ¬ (t < z ∧ z % 2 = 1) from fun h => q h.1)).symm
 ·simp at h
def c_rodd : Ctr Tryd.prog := ⟨28, s_rodd, fun args w => Tryd.call28 args w, fn_ok mix Tryd.func28 s_rodd p_rodd⟩
def s_rest : FSpec
 | [.big a n, .big m k] => some (some (n ≤ 900000 ∧ k ≤ 900000 ∧ m ≠ 0), .ret (.big (a % m) k))
 | _ => none
theorem vc_rest (a m : Int) (n k : Nat) : ((n ≤ (900000 : Nat) ∧ k ≤ (900000 : Nat) ∧ (m = (0 : Int) → False)) ∧ a % m = a % m ∧ (k ≤ k ∨ Int.natAbs (a % m) < (2 : Nat) ^ k)) = evFn (env [c_divmod1] noAnn) Tryd.f47 [.big a n, .big m k] (MRes.sat (.ret (.big (a % m) k))) := by kernel_rfl
theorem p_rest : Good Tryd.f47 s_rest := by
 intro ms p r h hp
 unfold s_rest at h
 split at h
 ·rename_i a n m k
  simp only [Option.some.injEq, Prod.mk.injEq] at h
  obtain ⟨rfl, rfl⟩ := h
  obtain ⟨h1, h2, h3⟩ : n ≤ 900000 ∧ k ≤ 900000 ∧ m ≠ 0 := hp
  refine ⟨env [c_divmod1] noAnn, ?_⟩
  rw [← vc_rest a m n k]
  exact ⟨⟨h1, h2, h3⟩, rfl, .inl (Nat.le_refl _)⟩
 ·simp at h
def c_rest : Ctr Tryd.prog := ⟨47, s_rest, fun args w => Tryd.call47 args w, fn_ok mix Tryd.func47 s_rest p_rest⟩
end Go.Proofs.YtmjklcpdfmgcaaaDoor
/-
 Contracts of functions: prime.long, Strong, Witness; algoristref04.Power, Strong, Witness.
-/
namespace Go.Proofs.YtmjklcpdfmgcaaaDoor
open Go Go.RowKit
open Go.IntKind (wrap i64 i32 i16 i8 u64 u32 u16 u8)
structure LkI (M : Nat) (s : Nat) : Prop where
 m : M % 2 ^ s = 0
 l : s < bl M
structure PK where
 k : Nat
 x : Nat
structure PkI (N M c s : Nat) (i : PK) : Prop where
 s : s ≤ i.k
 l : i.k ≤ bl M
 x : i.x = c ^ (M / 2 ^ i.k) % N
def a_long (b : Int) (W N M c s : Nat) (B : Bool) : Nat → MS → Option LoopAnn
 | 4, e => some (.inv WalkI (fun i => LkI M i.i) (fun i => ⟨82, [(1, .int .i64 b), (2, .bp 0 0), (5, .bp 1 0), (6, .bp 2 0), (7, .int .i64 i.i)], e.bx, 0⟩) (fun i => bl M - i.i))
 | 11, e => some (.inv PK (PkI N M c s) (fun i => ⟨82, [(2, .bp 0 0), (5, .bp 1 0), (6, .bp 2 0), (7, .int .i64 s), (8, .bp 3 0), (9, .bp 4 0), (10, .int .i64 ((i.k : Int) - 1))], setNth e.bx 4 ⟨false, .one (.big i.x W)⟩, 0⟩) (fun i => i.k))
 | 19, e => some (.inv SH (ShI N s B) (fun i => ⟨82, [(2, .bp 0 0), (5, .bp 1 0), (6, .bp 2 0), (9, .bp 4 0), (69, .int .i64 s), (70, .int .i64 i.k)], setNth e.bx 4 ⟨false, .one (.big i.x W)⟩, 0⟩) (fun i => s - i.k))
 | _, _ => none
theorem vc_long (z b : Int) (W N M c s : Nat) (B T : Bool) : (((-9223372036854775808 : Int) ≤ (1 : Int) ∧ (1 : Int) ≤ (9223372036854775807 : Int)) ∧ (W ≤ (1000000 : Nat) ∧ (64 : Nat) ≤ (1000000 : Nat)) ∧ (∃ i : WalkI, LkI M (i.1) ∧ (b = b ∧ (0 : Nat) = (0 : Nat) ∧ (0 : Nat) = (0 : Nat) ∧ (0 : Nat) = (0 : Nat) ∧ (0 : Int) = (↑(i.1) : Int) ∧ True) ∧ (z = z ∧ (W ≤ W ∨ Int.natAbs z < (2 : Nat) ^ W)) ∧ ((1 : Int) = (1 : Int) ∧ ((64 : Nat) ≤ (64 : Nat) ∨ Int.natAbs (1 : Int) < (2 : Nat) ^ (64 : Nat))) ∧ (z - (1 : Int) = z - (1 : Int) ∧ (max W (64 : Nat) + (1 : Nat) ≤ max W (64 : Nat) + (1 : Nat) ∨ Int.natAbs (z - (1 : Int)) < (2 : Nat) ^ (max W (64 : Nat) + (1 : Nat)))) ∧ True) ∧ ∀ (i : WalkI), LkI M (i.1) → ((32 : Int) = (0 : Int) → False) ∧ ((0 : Int) ≤ wrap i64 (Int.tdiv (↑(i.1) : Int) (32 : Int)) ∧ wrap i64 (Int.tdiv (↑(i.1) : Int) (32 : Int)) < (↑(List.length (limbs (Int.natAbs (z - (1 : Int))))) : Int)) ∧ ((32 : Int) = (0 : Int) → False) ∧ (0 : Int) ≤ Int.tmod (↑(i.1) : Int) (32 : Int) ∧ bif wrap u32 (↑(BitVec.toNat (BitVec.ofInt (IntKind.bits u32) (Int.fdiv (List.getD (limbs (Int.natAbs (z - (1 : Int)))) (Int.toNat (wrap i64 (Int.tdiv (↑(i.1) : Int) (32 : Int)))) (0 : Int)) ((2 : Int) ^ min (Int.toNat (Int.tmod (↑(i.1) : Int) (32 : Int))) (IntKind.bits u32))) &&& BitVec.ofInt (IntKind.bits u32) (1 : Int))) : Int) == (0 : Int) then ∃ j : WalkI, LkI M (j.1) ∧ ((b = b ∧ (0 : Nat) = (0 : Nat) ∧ (0 : Nat) = (0 : Nat) ∧ (0 : Nat) = (0 : Nat) ∧ wrap i64 ((↑(i.1) : Int) + (1 : Int)) = (↑(j.1) : Int) ∧ True) ∧ (z = z ∧ (W ≤ W ∨ Int.natAbs z < (2 : Nat) ^ W)) ∧ ((1 : Int) = (1 : Int) ∧ ((64 : Nat) ≤ (64 : Nat) ∨ Int.natAbs (1 : Int) < (2 : Nat) ^ (64 : Nat))) ∧ (z - (1 : Int) = z - (1 : Int) ∧ (max W (64 : Nat) + (1 : Nat) ≤ max W (64 : Nat) + (1 : Nat) ∨ Int.natAbs (z - (1 : Int)) < (2 : Nat) ^ (max W (64 : Nat) + (1 : Nat)))) ∧ True) ∧ bl M - j.1 < bl M - i.1 else ((-9223372036854775808 : Int) ≤ b ∧ b ≤ (9223372036854775807 : Int)) ∧ ((64 : Nat) ≤ (900000 : Nat) ∧ W ≤ (900000 : Nat) ∧ (z = (0 : Int) → False)) ∧ bif sgn (b % z) == (0 : Int) then true = T else max W (64 : Nat) + (1 : Nat) ≤ (1000000 : Nat) ∧ (∃ i_1, PkI N M c s i_1 ∧ ((0 : Nat) = (0 : Nat) ∧ (0 : Nat) = (0 : Nat) ∧ (0 : Nat) = (0 : Nat) ∧ (↑(i.1) : Int) = (↑s : Int) ∧ (0 : Nat) = (0 : Nat) ∧ (0 : Nat) = (0 : Nat) ∧ wrap i64 ((↑(bl (Int.natAbs (z - (1 : Int)))) : Int) - (1 : Int)) = (↑(PK.k i_1) : Int) - (1 : Int) ∧ True) ∧ (z = z ∧ (W ≤ W ∨ Int.natAbs z < (2 : Nat) ^ W)) ∧ ((1 : Int) = (1 : Int) ∧ ((64 : Nat) ≤ (64 : Nat) ∨ Int.natAbs (1 : Int) < (2 : Nat) ^ (64 : Nat))) ∧ (z - (1 : Int) = z - (1 : Int) ∧ (max W (64 : Nat) + (1 : Nat) ≤ max W (64 : Nat) + (1 : Nat) ∨ Int.natAbs (z - (1 : Int)) < (2 : Nat) ^ (max W (64 : Nat) + (1 : Nat)))) ∧ (b % z = b % z ∧ (W ≤ W ∨ Int.natAbs (b % z) < (2 : Nat) ^ W)) ∧ ((1 : Int) = (↑(PK.x i_1) : Int) ∧ ((64 : Nat) ≤ W ∨ Int.natAbs (1 : Int) < (2 : Nat) ^ W)) ∧ True) ∧ ∀ (i : PK), PkI N M c s i → bif decide ((↑(PK.k i) : Int) - (1 : Int) ≥ (↑s : Int)) then (W ≤ (1000000 : Nat) ∧ W ≤ (1000000 : Nat)) ∧ (W + W ≤ (900000 : Nat) ∧ W ≤ (900000 : Nat) ∧ (z = (0 : Int) → False)) ∧ ((32 : Int) = (0 : Int) → False) ∧ ((0 : Int) ≤ wrap i64 (Int.tdiv ((↑(PK.k i) : Int) - (1 : Int)) (32 : Int)) ∧ wrap i64 (Int.tdiv ((↑(PK.k i) : Int) - (1 : Int)) (32 : Int)) < (↑(List.length (limbs (Int.natAbs (z - (1 : Int))))) : Int)) ∧ ((32 : Int) = (0 : Int) → False) ∧ (0 : Int) ≤ Int.tmod ((↑(PK.k i) : Int) - (1 : Int)) (32 : Int) ∧ bif wrap u32 (↑(BitVec.toNat (BitVec.ofInt (IntKind.bits u32) (Int.fdiv (List.getD (limbs (Int.natAbs (z - (1 : Int)))) (Int.toNat (wrap i64 (Int.tdiv ((↑(PK.k i) : Int) - (1 : Int)) (32 : Int)))) (0 : Int)) ((2 : Int) ^ min (Int.toNat (Int.tmod ((↑(PK.k i) : Int) - (1 : Int)) (32 : Int))) (IntKind.bits u32))) &&& BitVec.ofInt (IntKind.bits u32) (1 : Int))) : Int) == (1 : Int) then (W ≤ (1000000 : Nat) ∧ W ≤ (1000000 : Nat)) ∧ (W + W ≤ (900000 : Nat) ∧ W ≤ (900000 : Nat) ∧ (z = (0 : Int) → False)) ∧ ∃ j, PkI N M c s j ∧ (((0 : Nat) = (0 : Nat) ∧ (0 : Nat) = (0 : Nat) ∧ (0 : Nat) = (0 : Nat) ∧ (↑s : Int) = (↑s : Int) ∧ (0 : Nat) = (0 : Nat) ∧ (0 : Nat) = (0 : Nat) ∧ wrap i64 ((↑(PK.k i) : Int) - (1 : Int) - (1 : Int)) = (↑(PK.k j) : Int) - (1 : Int) ∧ True) ∧ (z = z ∧ (W ≤ W ∨ Int.natAbs z < (2 : Nat) ^ W)) ∧ ((1 : Int) = (1 : Int) ∧ ((64 : Nat) ≤ (64 : Nat) ∨ Int.natAbs (1 : Int) < (2 : Nat) ^ (64 : Nat))) ∧ (z - (1 : Int) = z - (1 : Int) ∧ (max W (64 : Nat) + (1 : Nat) ≤ max W (64 : Nat) + (1 : Nat) ∨ Int.natAbs (z - (1 : Int)) < (2 : Nat) ^ (max W (64 : Nat) + (1 : Nat)))) ∧ (b % z = b % z ∧ (W ≤ W ∨ Int.natAbs (b % z) < (2 : Nat) ^ W)) ∧ ((↑(PK.x i) : Int) * (↑(PK.x i) : Int) % z * (b % z) % z = (↑(PK.x j) : Int) ∧ (W ≤ W ∨ Int.natAbs ((↑(PK.x i) : Int) * (↑(PK.x i) : Int) % z * (b % z) % z) < (2 : Nat) ^ W)) ∧ True) ∧ PK.k j < PK.k i else ∃ j, PkI N M c s j ∧ (((0 : Nat) = (0 : Nat) ∧ (0 : Nat) = (0 : Nat) ∧ (0 : Nat) = (0 : Nat) ∧ (↑s : Int) = (↑s : Int) ∧ (0 : Nat) = (0 : Nat) ∧ (0 : Nat) = (0 : Nat) ∧ wrap i64 ((↑(PK.k i) : Int) - (1 : Int) - (1 : Int)) = (↑(PK.k j) : Int) - (1 : Int) ∧ True) ∧ (z = z ∧ (W ≤ W ∨ Int.natAbs z < (2 : Nat) ^ W)) ∧ ((1 : Int) = (1 : Int) ∧ ((64 : Nat) ≤ (64 : Nat) ∨ Int.natAbs (1 : Int) < (2 : Nat) ^ (64 : Nat))) ∧ (z - (1 : Int) = z - (1 : Int) ∧ (max W (64 : Nat) + (1 : Nat) ≤ max W (64 : Nat) + (1 : Nat) ∨ Int.natAbs (z - (1 : Int)) < (2 : Nat) ^ (max W (64 : Nat) + (1 : Nat)))) ∧ (b % z = b % z ∧ (W ≤ W ∨ Int.natAbs (b % z) < (2 : Nat) ^ W)) ∧ ((↑(PK.x i) : Int) * (↑(PK.x i) : Int) % z = (↑(PK.x j) : Int) ∧ (W ≤ W ∨ Int.natAbs ((↑(PK.x i) : Int) * (↑(PK.x i) : Int) % z) < (2 : Nat) ^ W)) ∧ True) ∧ PK.k j < PK.k i else (W ≤ (1000000 : Nat) ∧ (64 : Nat) ≤ (1000000 : Nat)) ∧ bif icmp (↑(PK.x i) : Int) (1 : Int) == (0 : Int) then true = T else (∃ i_1, ShI N s B i_1 ∧ ((0 : Nat) = (0 : Nat) ∧ (0 : Nat) = (0 : Nat) ∧ (0 : Nat) = (0 : Nat) ∧ (0 : Nat) = (0 : Nat) ∧ (↑s : Int) = (↑s : Int) ∧ (0 : Int) = (↑(SH.k i_1) : Int) ∧ True) ∧ (z = z ∧ (W ≤ W ∨ Int.natAbs z < (2 : Nat) ^ W)) ∧ ((1 : Int) = (1 : Int) ∧ ((64 : Nat) ≤ (64 : Nat) ∨ Int.natAbs (1 : Int) < (2 : Nat) ^ (64 : Nat))) ∧ (z - (1 : Int) = z - (1 : Int) ∧ (max W (64 : Nat) + (1 : Nat) ≤ max W (64 : Nat) + (1 : Nat) ∨ Int.natAbs (z - (1 : Int)) < (2 : Nat) ^ (max W (64 : Nat) + (1 : Nat)))) ∧ (b % z = b % z ∧ (W ≤ W ∨ Int.natAbs (b % z) < (2 : Nat) ^ W)) ∧ ((↑(PK.x i) : Int) = (↑(SH.x i_1) : Int) ∧ (W ≤ W ∨ Int.natAbs (↑(PK.x i) : Int) < (2 : Nat) ^ W)) ∧ True) ∧ ∀ (i : SH), ShI N s B i → bif decide ((↑(SH.k i) : Int) < (↑s : Int)) then (W ≤ (1000000 : Nat) ∧ max W (64 : Nat) + (1 : Nat) ≤ (1000000 : Nat)) ∧ bif icmp (↑(SH.x i) : Int) (z - (1 : Int)) == (0 : Int) then true = T else (W ≤ (1000000 : Nat) ∧ W ≤ (1000000 : Nat)) ∧ (W + W ≤ (900000 : Nat) ∧ W ≤ (900000 : Nat) ∧ (z = (0 : Int) → False)) ∧ ∃ j, ShI N s B j ∧ (((0 : Nat) = (0 : Nat) ∧ (0 : Nat) = (0 : Nat) ∧ (0 : Nat) = (0 : Nat) ∧ (0 : Nat) = (0 : Nat) ∧ (↑s : Int) = (↑s : Int) ∧ wrap i64 ((↑(SH.k i) : Int) + (1 : Int)) = (↑(SH.k j) : Int) ∧ True) ∧ (z = z ∧ (W ≤ W ∨ Int.natAbs z < (2 : Nat) ^ W)) ∧ ((1 : Int) = (1 : Int) ∧ ((64 : Nat) ≤ (64 : Nat) ∨ Int.natAbs (1 : Int) < (2 : Nat) ^ (64 : Nat))) ∧ (z - (1 : Int) = z - (1 : Int) ∧ (max W (64 : Nat) + (1 : Nat) ≤ max W (64 : Nat) + (1 : Nat) ∨ Int.natAbs (z - (1 : Int)) < (2 : Nat) ^ (max W (64 : Nat) + (1 : Nat)))) ∧ (b % z = b % z ∧ (W ≤ W ∨ Int.natAbs (b % z) < (2 : Nat) ^ W)) ∧ ((↑(SH.x i) : Int) * (↑(SH.x i) : Int) % z = (↑(SH.x j) : Int) ∧ (W ≤ W ∨ Int.natAbs ((↑(SH.x i) : Int) * (↑(SH.x i) : Int) % z) < (2 : Nat) ^ W)) ∧ True) ∧ s - SH.k j < s - SH.k i else false = T) = evFn (env [c_iof, c_isub, c_rest, c_sign, c_bits, c_mul, c_icmp] (a_long b W N M c s B)) Tryd.f27 [.big z W, .int .i64 b] (MRes.sat (.ret (.bool T))) := by kernel_rfl
theorem ixE {i : Nat} (h : i ≤ 1000000) : wrap i64 (Int.tdiv (i : Int) 32) = ((i / 32 : Nat) : Int) := by
 rw [Int.tdiv_eq_ediv_of_nonneg (by omega), i64w (by omega) (by omega)]
 omega
theorem imE (i : Nat) : Int.tmod (i : Int) 32 = ((i % 32 : Nat) : Int) := by
 rw [Int.tmod_eq_emod_of_nonneg (by omega)]
 omega
theorem bit_val (n i : Nat) : wrap u32 ((BitVec.ofInt (IntKind.bits u32) (((limbs n).getD (i / 32) 0).fdiv (2 ^ min (i % 32) (IntKind.bits u32))) &&& BitVec.ofInt (IntKind.bits u32) 1).toNat : Int) = ((n / 2 ^ i % 2 : Nat) : Int) := by
 have hm : min (i % 32) (IntKind.bits u32) = i % 32 := by
  show min (i % 32) 32 = i % 32
  omega
 have hx : n / 4294967296 ^ (i / 32) % 4294967296 / 2 ^ (i % 32) < 4294967296 := Nat.lt_of_le_of_lt (Nat.div_le_self _ _) (Nat.mod_lt _ (by omega))
 have hf : ((limbs n).getD (i / 32) 0).fdiv (2 ^ min (i % 32) (IntKind.bits u32)) = ((n / 4294967296 ^ (i / 32) % 4294967296 / 2 ^ (i % 32) : Nat) : Int) := by
  rw [hm, limbs_getD, Int.fdiv_eq_ediv_of_nonneg _ (Int.pow_nonneg (by omega)), Int.natCast_ediv, Int.natCast_pow]
  rfl
 have hb := bit_word n i
 rw [hf, and_one_word _ hx] at hb ⊢
 by_cases h : n / 2 ^ i % 2 = 1
 ·rw [decide_eq_true h, beq_iff_eq] at hb
  omega
 ·rw [decide_eq_false h] at hb
  have : ¬ ((n / 4294967296 ^ (i / 32) % 4294967296 / 2 ^ (i % 32) % 2 : Nat) : Int) = 1 := fun e => by rw [e] at hb; simp at hb
  omega
theorem lk_step {M s : Nat} (h : LkI M s) (hM : 0 < M) (hb : M / 2 ^ s % 2 = 0) : LkI M (s + 1) := by
 have e : M % 2 ^ (s + 1) = 0 := by rw [Nat.mod_pow_succ, h.m, hb]; simp
 refine ⟨e, ?_⟩
 have h1 : 2 ^ (s + 1) ≤ M := Nat.le_of_dvd hM (Nat.dvd_of_mod_eq_zero e)
 have h2 := bl_lt M
 false_or_by_contra
 rename_i hno
 have := Nat.pow_le_pow_right (show 0 < 2 by omega) (show bl M ≤ s + 1 by omega)
 omega
theorem lk_end {M s : Nat} (h : LkI M s) (hl : bl M ≤ 128) (hb : M / 2 ^ s % 2 ≠ 0) : TzOk 128 M s := ⟨h.m, by omega, by have := h.l; omega⟩
theorem pk_start {N M c s : Nat} (hN : 1 < N) (hs : s ≤ bl M) : PkI N M c s ⟨bl M, 1⟩ := by
 refine ⟨hs, Nat.le_refl _, ?_⟩
 show 1 = c ^ (M / 2 ^ bl M) % N
 rw [Nat.div_eq_of_lt (bl_lt M), Nat.pow_zero, Nat.mod_eq_of_lt hN]
theorem pk_div {M k : Nat} (h : 0 < k) : M / 2 ^ (k - 1) = M / 2 ^ k + M / 2 ^ k + M / 2 ^ (k - 1) % 2 := by
 have e : M / 2 ^ k = M / 2 ^ (k - 1) / 2 := by rw [Nat.div_div_eq_div_mul, ← Nat.pow_succ]; congr 2; omega
 rw [e]; omega
theorem pk_even {N M c s : Nat} {i : PK} (I : PkI N M c s i) (h : s < i.k) (hb : M / 2 ^ (i.k - 1) % 2 = 0) : PkI N M c s ⟨i.k - 1, i.x * i.x % N⟩ := by
 refine ⟨by show s ≤ i.k - 1; omega, by have := I.l; show i.k - 1 ≤ _; omega, ?_⟩
 show i.x * i.x % N = c ^ (M / 2 ^ (i.k - 1)) % N
 rw [pk_div (show 0 < i.k by omega), hb, Nat.add_zero, Nat.pow_add, I.x, ← Nat.mul_mod]
theorem pk_odd {N M c s : Nat} {i : PK} (I : PkI N M c s i) (h : s < i.k) (hb : M / 2 ^ (i.k - 1) % 2 = 1) : PkI N M c s ⟨i.k - 1, i.x * i.x % N * c % N⟩ := by
 refine ⟨by show s ≤ i.k - 1; omega, by have := I.l; show i.k - 1 ≤ _; omega, ?_⟩
 show i.x * i.x % N * c % N = c ^ (M / 2 ^ (i.k - 1)) % N
 rw [pk_div (show 0 < i.k by omega), hb, Nat.pow_succ, Nat.pow_add, Nat.mod_mul_mod, I.x, ← Nat.mul_mod_mod, Nat.mul_mod (c ^ (M / 2 ^ i.k) % N * (c ^ (M / 2 ^ i.k) % N)), ← Nat.mul_mod (c ^ (M / 2 ^ i.k)), Nat.mod_mod, ← Nat.mul_mod]
theorem le1 {x : Int} {n : Nat} {P : Prop} : x = x ∧ (n ≤ n ∨ P) := ⟨rfl, .inl (Nat.le_refl _)⟩
theorem natmod (a b n : Nat) : (a : Int) * (b : Int) % (n : Int) = ((a * b % n : Nat) : Int) := by simp
theorem width2 {z : Int} {W : Nat} (h : 2 < z) (hf : z.natAbs < 2 ^ W) : (1 : Int).natAbs < 2 ^ W := by
 show 1 < _
 omega
def s_long : FSpec
 | [.big z W, .int .i64 b] => some (some ((2 < z ∧ z % 2 = 1) ∧ W ≤ 128 ∧ 1 ≤ b ∧ b ≤ 9223372036854775807), .ret (.bool (strongN z.toNat b.toNat)))
 | _ => none
theorem p_long : GoodF Tryd.f27 s_long := by
 intro ms p r h hp hf
 unfold s_long at h
 split at h
 ·rename_i z W b
  simp only [Option.some.injEq, Prod.mk.injEq] at h
  obtain ⟨rfl, rfl⟩ := h
  obtain ⟨⟨h2, ho⟩, hW, hb1, hb2⟩ : (2 < z ∧ z % 2 = 1) ∧ W ≤ 128 ∧ 1 ≤ b ∧ b ≤ 9223372036854775807 := hp
  simp only [factsL, MV.facts] at hf
  obtain ⟨hz, _⟩ := hf
  obtain ⟨N, rfl⟩ : ∃ n : Nat, z = n := ⟨z.toNat, by omega⟩
  obtain ⟨b', rfl⟩ : ∃ n : Nat, b = n := ⟨b.toNat, by omega⟩
  rw [Int.toNat_natCast, Int.toNat_natCast]
  have hN : N < 2 ^ 128 := Nat.lt_of_lt_of_le hz (Nat.pow_le_pow_right (by omega) hW)
  have hM0 : 0 < N - 1 := by omega
  have hMa : Int.natAbs ((N : Int) - 1) = N - 1 := by omega
  have hbl : bl (N - 1) ≤ 128 := bl_le_of (by omega)
  have hT := tz_ok (n := N - 1) hM0 (by omega)
  have eS := strongN_eq (n := N) (b := b')
  have hc : (b' : Int) % (N : Int) = ((b' % N : Nat) : Int) := by simp
  obtain ⟨M, hM⟩ : ∃ M, M = N - 1 := ⟨_, rfl⟩
  obtain ⟨s, hs⟩ : ∃ s, s = tz M := ⟨_, rfl⟩
  obtain ⟨c, hcc⟩ : ∃ c, c = b' % N := ⟨_, rfl⟩
  rw [← hM] at hM0 hMa hbl hT eS
  rw [← hs] at hT eS
  rw [← hcc] at hc eS
  have w1 := width2 h2 hz
  refine ⟨env [c_iof, c_isub, c_rest, c_sign, c_bits, c_mul, c_icmp] (a_long b' W N M c s (hitF s (1 * c ^ (M / 2 ^ s) % N) N)), ?_⟩
  rw [← vc_long N b' W N M c s (hitF s (1 * c ^ (M / 2 ^ s) % N) N) (strongN N b'), hMa, hc]
  refine ⟨by omega, by omega, ⟨⟨⟨0⟩, ⟨by show M % 2 ^ 0 = 0; rw [Nat.pow_zero, Nat.mod_one], ?_⟩, ⟨rfl, rfl, rfl, rfl, rfl, True.intro⟩, le1, le1, le1, True.intro⟩, fun i I => ?_⟩⟩
  ·show 0 < bl M
   rcases Nat.eq_zero_or_pos (bl M) with q | q
   ·have := bl_lt M; rw [q] at this; simp at this; omega
   ·exact q
  obtain ⟨i⟩ := i
  have I : LkI M i := I
  have il := I.l
  have hix := limbs_idx il
  dsimp only
  rw [ixE (by omega), imE, Int.toNat_natCast, Int.toNat_natCast, bit_val]
  refine ⟨by omega, ⟨by omega, by omega⟩, by omega, by omega, condI beq_iff_eq (fun q => ?_) (fun q => ?_)⟩
  ·have e1 : wrap i64 ((i : Int) + 1) = ((i + 1 : Nat) : Int) := by rw [i64w (by omega) (by omega)]; omega
   rw [e1]
   exact ⟨⟨i + 1⟩, lk_step I hM0 (by omega), ⟨⟨rfl, rfl, rfl, rfl, rfl, True.intro⟩, le1, le1, le1, True.intro⟩, by show bl M - (i + 1) < bl M - i; omega⟩
  ·have his : i = s := tz_uniq (lk_end I hbl (by omega)) hT
   subst his
   refine ⟨by omega, by omega, condI beq_iff_eq (fun q2 => ?_) (fun q2 => ?_)⟩
   ·have hc0 : c = 0 := by
     unfold sgn at q2
     split at q2
     ·omega
     ·split at q2 <;> omega
    exact (strongN_zero (by omega)).symm
   have hc0 : c ≠ 0 := fun e => q2 (by rw [e]; rfl)
   have eS := eS hc0 (by omega) hN
   generalize hB : hitF i (1 * c ^ (M / 2 ^ i) % N) N = B at *
   have e1 : wrap i64 ((bl M : Int) - 1) = (bl M : Int) - 1 := i64w (by omega) (by omega)
   rw [e1]
   refine ⟨by omega, ⟨⟨bl M, 1⟩, pk_start (by omega) (by omega), ⟨rfl, rfl, rfl, rfl, rfl, rfl, rfl, True.intro⟩, le1, le1, le1, le1, ⟨rfl, .inr w1⟩, True.intro⟩, fun k K => ?_⟩
   have ks := K.s
   have kl := K.l
   refine condI decide_eq_true_iff (fun q => ?_) (fun q => ?_)
   ·have ek : (k.k : Int) - 1 = ((k.k - 1 : Nat) : Int) := by omega
    have hix := limbs_idx (N := M) (c := k.k - 1) (by omega)
    rw [ek, ixE (by omega), imE, Int.toNat_natCast, Int.toNat_natCast, bit_val]
    have m1 : (k.x : Int) * (k.x : Int) % (N : Int) = ((k.x * k.x % N : Nat) : Int) := by simp
    have m2 : ((k.x * k.x % N : Nat) : Int) * (c : Int) % (N : Int) = ((k.x * k.x % N * c % N : Nat) : Int) := natmod _ _ _
    have e1 : wrap i64 (((k.k - 1 : Nat) : Int) - 1) = ((k.k - 1 : Nat) : Int) - 1 := i64w (by omega) (by omega)
    rw [m1, m2, e1]
    refine ⟨by omega, by omega, by omega, ⟨by omega, by omega⟩, by omega, by omega, condI beq_iff_eq (fun q3 => ?_) (fun q3 => ?_)⟩
    ·exact ⟨by omega, by omega, _, pk_odd K (by omega) (by omega), ⟨⟨rfl, rfl, rfl, rfl, rfl, rfl, rfl, True.intro⟩, le1, le1, le1, le1, le1, True.intro⟩, by show k.k - 1 < k.k; omega⟩
    ·exact ⟨_, pk_even K (by omega) (by omega), ⟨⟨rfl, rfl, rfl, rfl, rfl, rfl, rfl, True.intro⟩, le1, le1, le1, le1, le1, True.intro⟩, by show k.k - 1 < k.k; omega⟩
   ·have hk : k.k = i := by omega
    have hx := K.x
    rw [hk] at hx
    rw [Nat.one_mul, ← hx] at hB eS
    have hxN : k.x < N := by rw [hx]; exact Nat.mod_lt _ (by omega)
    refine ⟨by omega, condI beq_iff_eq (fun q3 => ?_) (fun q3 => ⟨⟨⟨0, k.x⟩, ⟨Nat.zero_le _, hxN, hB⟩, ⟨rfl, rfl, rfl, rfl, rfl, rfl, True.intro⟩, le1, le1, le1, le1, le1, True.intro⟩, fun j J => ?_⟩)⟩
    ·have := icmp_zero.1 q3
     rw [eS, show k.x = 1 by omega]; rfl
    ·have hne : k.x ≠ 1 := fun e => q3 (icmp_zero.2 (by omega))
     rw [beqN hne, Bool.false_or] at eS
     have jx := J.x
     have jk := J.k
     have m1 : (j.x : Int) * (j.x : Int) % (N : Int) = ((j.x * j.x % N : Nat) : Int) := by simp
     rw [m1]
     refine condI decide_eq_true_iff (fun q => ⟨by omega, condI beq_iff_eq (fun q2 => ?_) (fun q2 => ?_)⟩) (fun q => ?_)
     ·have := icmp_zero.1 q2
      rw [eS]; exact (sh_hit J (by omega) (by omega)).symm
     ·have hne : j.x ≠ N - 1 := fun e => q2 (icmp_zero.2 (by omega))
      refine ⟨by omega, by omega, _, sh_step J (by omega) hne (by omega), ⟨⟨rfl, rfl, rfl, rfl, rfl, ?_, True.intro⟩, le1, le1, le1, le1, le1, True.intro⟩, by show i - (j.k + 1) < i - j.k; omega⟩
      rw [i64w (by omega) (by omega)]; rfl
     ·rw [eS]; exact (sh_end J (by omega)).symm
 ·simp at h
def c_long : Ctr Tryd.prog := ⟨27, s_long, fun args w => Tryd.call27 args w, fn_ok_facts mix Tryd.func27 s_long p_long⟩
/-! ### Strong and Witness of the program -/
def strB (z b : Int) : Bool := if 2 < z ∧ z % 2 = 1 ∧ 1 ≤ b then strongN z.toNat b.toNat else false
def strE (z b : Int) : Int := if 2 < z ∧ z % 2 = 1 ∧ 1 ≤ b then 0 else 1
theorem oddB_iff {z : Int} : oddB z 2 = true ↔ 2 < z ∧ z % 2 = 1 := decide_eq_true_iff
def s_pstr : FSpec
 | [.big z n, .int .i64 b] => some (some (n ≤ 128 ∧ -9223372036854775808 ≤ b ∧ b ≤ 9223372036854775807), .ret (.tup [.bool (strB z b), .int .i64 (strE z b)]))
 | _ => none
theorem vc_pstr (z b : Int) (n : Nat) : (((0 : Int) ≤ (2 : Int) ∧ (2 : Int) ≤ (1000 : Int) ∧ n ≤ (1000000 : Nat)) ∧ bif !oddB z (2 : Int) then false = strB z b ∧ (1 : Int) = strE z b ∧ True else bif decide (b < (1 : Int)) then false = strB z b ∧ (1 : Int) = strE z b ∧ True else bif decide ((0 : Int) ≤ z ∧ z < (18446744073709551616 : Int)) then (((2 : Int) < (↑(Int.natAbs z) : Int) % (18446744073709551616 : Int) ∧ (↑(Int.natAbs z) : Int) % (18446744073709551616 : Int) < (18446744073709551616 : Int)) ∧ (↑(Int.natAbs z) : Int) % (18446744073709551616 : Int) % (2 : Int) = (1 : Int) ∧ (0 : Int) ≤ wrap u64 b ∧ wrap u64 b < (18446744073709551616 : Int)) ∧ strongN (Int.toNat ((↑(Int.natAbs z) : Int) % (18446744073709551616 : Int))) (Int.toNat (wrap u64 b)) = strB z b ∧ (0 : Int) = strE z b ∧ True else (((2 : Int) < z ∧ z % (2 : Int) = (1 : Int)) ∧ n ≤ (128 : Nat) ∧ (1 : Int) ≤ b ∧ b ≤ (9223372036854775807 : Int)) ∧ strongN (Int.toNat z) (Int.toNat b) = strB z b ∧ (0 : Int) = strE z b ∧ True) = evFn (env [c_podd, c_word, c_strong, c_long] noAnn) Tryd.f10 [.big z n, .int .i64 b] (MRes.sat (.ret (.tup [.bool (strB z b), .int .i64 (strE z b)]))) := by kernel_rfl
theorem p_pstr : Good Tryd.f10 s_pstr := by
 intro ms p r h hp
 unfold s_pstr at h
 split at h
 ·rename_i z n b
  simp only [Option.some.injEq, Prod.mk.injEq] at h
  obtain ⟨rfl, rfl⟩ := h
  obtain ⟨h1, h2, h3⟩ : n ≤ 128 ∧ -9223372036854775808 ≤ b ∧ b ≤ 9223372036854775807 := hp
  refine ⟨env [c_podd, c_word, c_strong, c_long] noAnn, ?_⟩
  rw [← vc_pstr z b n]
  unfold strB strE
  refine ⟨by omega, ?_⟩
  by_cases q : 2 < z ∧ z % 2 = 1
  ·rw [oddB_iff.2 q, Bool.not_true, cond_false]
   refine condI decide_eq_true_iff (fun q2 => ⟨by rw [if_neg (by omega)], by rw [if_neg (by omega)], True.intro⟩) (fun q2 => ?_)
   have hc : 2 < z ∧ z % 2 = 1 ∧ 1 ≤ b := ⟨q.1, q.2, by omega⟩
   rw [if_pos hc, if_pos hc, u64i (x := b) (by omega) (by omega)]
   refine condI decide_eq_true_iff (fun q3 => ?_) (fun q3 => ⟨⟨q, h1, by omega, h3⟩, rfl, rfl, True.intro⟩)
   have e : (z.natAbs : Int) % 18446744073709551616 = z := by omega
   rw [e]
   exact ⟨⟨⟨q.1, q3.2⟩, q.2, by omega, by omega⟩, rfl, rfl, True.intro⟩
  ·have hq : oddB z 2 = false := by
    cases hb : oddB z 2 with|true => exact absurd (oddB_iff.1 hb) q|false => rfl
   have hc : ¬ (2 < z ∧ z % 2 = 1 ∧ 1 ≤ b) := fun h => q ⟨h.1, h.2.1⟩
   rw [hq, Bool.not_false, cond_true, if_neg hc, if_neg hc]
   exact ⟨rfl, rfl, True.intro⟩
 ·simp at h
def c_pstr : Ctr Tryd.prog := ⟨10, s_pstr, fun args w => Tryd.call10 args w, fn_ok mix Tryd.func10 s_pstr p_pstr⟩
/-! ### algoristref04.Power -/
def a_rpow4 (M N c W : Nat) : Nat → MS → Option LoopAnn
 | 4, e => some (.inv PK (PkI N M c 0) (fun i => ⟨45, [(3, .bp 0 0), (4, .bp 1 0), (5, .bp 2 0), (6, .bp 3 0), (7, .bp 4 0), (8, .int .i64 ((i.k : Int) - 1))], setNth e.bx 4 ⟨false, .one (.big i.x W)⟩, 0⟩) (fun i => i.k))
 | _, _ => none
theorem vc_rpow4 (b d n : Int) (B D W : Nat) (M N c R : Nat) : (((-9223372036854775808 : Int) ≤ (1 : Int) ∧ (1 : Int) ≤ (9223372036854775807 : Int)) ∧ ((64 : Nat) ≤ (900000 : Nat) ∧ W ≤ (900000 : Nat) ∧ (n = (0 : Int) → False)) ∧ (B ≤ (900000 : Nat) ∧ W ≤ (900000 : Nat) ∧ (n = (0 : Int) → False)) ∧ D ≤ (1000000 : Nat) ∧ (∃ i, PkI N M c (0 : Nat) i ∧ ((0 : Nat) = (0 : Nat) ∧ (0 : Nat) = (0 : Nat) ∧ (0 : Nat) = (0 : Nat) ∧ (0 : Nat) = (0 : Nat) ∧ (0 : Nat) = (0 : Nat) ∧ wrap i64 ((↑(bl (Int.natAbs d)) : Int) - (1 : Int)) = (↑(PK.k i) : Int) - (1 : Int) ∧ True) ∧ (b % n = b % n ∧ (W ≤ W ∨ Int.natAbs (b % n) < (2 : Nat) ^ W)) ∧ (d = d ∧ (D ≤ D ∨ Int.natAbs d < (2 : Nat) ^ D)) ∧ (n = n ∧ (W ≤ W ∨ Int.natAbs n < (2 : Nat) ^ W)) ∧ ((0 : Int) = (0 : Int) ∧ ((0 : Nat) ≤ (0 : Nat) ∨ Int.natAbs (0 : Int) < (2 : Nat) ^ (0 : Nat))) ∧ ((1 : Int) % n = (↑(PK.x i) : Int) ∧ (W ≤ W ∨ Int.natAbs ((1 : Int) % n) < (2 : Nat) ^ W)) ∧ True) ∧ ∀ (i : PK), PkI N M c (0 : Nat) i → bif decide ((↑(PK.k i) : Int) - (1 : Int) ≥ (0 : Int)) then (W ≤ (1000000 : Nat) ∧ W ≤ (1000000 : Nat)) ∧ (W + W ≤ (900000 : Nat) ∧ W ≤ (900000 : Nat) ∧ (n = (0 : Int) → False)) ∧ ((32 : Int) = (0 : Int) → False) ∧ ((0 : Int) ≤ wrap i64 (Int.tdiv ((↑(PK.k i) : Int) - (1 : Int)) (32 : Int)) ∧ wrap i64 (Int.tdiv ((↑(PK.k i) : Int) - (1 : Int)) (32 : Int)) < (↑(List.length (limbs (Int.natAbs d))) : Int)) ∧ ((32 : Int) = (0 : Int) → False) ∧ (0 : Int) ≤ wrap u64 (Int.tmod ((↑(PK.k i) : Int) - (1 : Int)) (32 : Int)) ∧ bif wrap u32 (↑(BitVec.toNat (BitVec.ofInt (IntKind.bits u32) (Int.fdiv (List.getD (limbs (Int.natAbs d)) (Int.toNat (wrap i64 (Int.tdiv ((↑(PK.k i) : Int) - (1 : Int)) (32 : Int)))) (0 : Int)) ((2 : Int) ^ min (Int.toNat (wrap u64 (Int.tmod ((↑(PK.k i) : Int) - (1 : Int)) (32 : Int)))) (IntKind.bits u32))) &&& BitVec.ofInt (IntKind.bits u32) (1 : Int))) : Int) == (1 : Int) then (W ≤ (1000000 : Nat) ∧ W ≤ (1000000 : Nat)) ∧ (W + W ≤ (900000 : Nat) ∧ W ≤ (900000 : Nat) ∧ (n = (0 : Int) → False)) ∧ ∃ j, PkI N M c (0 : Nat) j ∧ (((0 : Nat) = (0 : Nat) ∧ (0 : Nat) = (0 : Nat) ∧ (0 : Nat) = (0 : Nat) ∧ (0 : Nat) = (0 : Nat) ∧ (0 : Nat) = (0 : Nat) ∧ wrap i64 ((↑(PK.k i) : Int) - (1 : Int) - (1 : Int)) = (↑(PK.k j) : Int) - (1 : Int) ∧ True) ∧ (b % n = b % n ∧ (W ≤ W ∨ Int.natAbs (b % n) < (2 : Nat) ^ W)) ∧ (d = d ∧ (D ≤ D ∨ Int.natAbs d < (2 : Nat) ^ D)) ∧ (n = n ∧ (W ≤ W ∨ Int.natAbs n < (2 : Nat) ^ W)) ∧ ((0 : Int) = (0 : Int) ∧ ((0 : Nat) ≤ (0 : Nat) ∨ Int.natAbs (0 : Int) < (2 : Nat) ^ (0 : Nat))) ∧ ((↑(PK.x i) : Int) * (↑(PK.x i) : Int) % n * (b % n) % n = (↑(PK.x j) : Int) ∧ (W ≤ W ∨ Int.natAbs ((↑(PK.x i) : Int) * (↑(PK.x i) : Int) % n * (b % n) % n) < (2 : Nat) ^ W)) ∧ True) ∧ PK.k j < PK.k i else ∃ j, PkI N M c (0 : Nat) j ∧ (((0 : Nat) = (0 : Nat) ∧ (0 : Nat) = (0 : Nat) ∧ (0 : Nat) = (0 : Nat) ∧ (0 : Nat) = (0 : Nat) ∧ (0 : Nat) = (0 : Nat) ∧ wrap i64 ((↑(PK.k i) : Int) - (1 : Int) - (1 : Int)) = (↑(PK.k j) : Int) - (1 : Int) ∧ True) ∧ (b % n = b % n ∧ (W ≤ W ∨ Int.natAbs (b % n) < (2 : Nat) ^ W)) ∧ (d = d ∧ (D ≤ D ∨ Int.natAbs d < (2 : Nat) ^ D)) ∧ (n = n ∧ (W ≤ W ∨ Int.natAbs n < (2 : Nat) ^ W)) ∧ ((0 : Int) = (0 : Int) ∧ ((0 : Nat) ≤ (0 : Nat) ∨ Int.natAbs (0 : Int) < (2 : Nat) ^ (0 : Nat))) ∧ ((↑(PK.x i) : Int) * (↑(PK.x i) : Int) % n = (↑(PK.x j) : Int) ∧ (W ≤ W ∨ Int.natAbs ((↑(PK.x i) : Int) * (↑(PK.x i) : Int) % n) < (2 : Nat) ^ W)) ∧ True) ∧ PK.k j < PK.k i else (↑(PK.x i) : Int) = (↑R : Int) ∧ (W ≤ W ∨ Int.natAbs (↑(PK.x i) : Int) < (2 : Nat) ^ W)) = evFn (env [c_rof, c_rmod, c_rbits, c_rmul] (a_rpow4 M N c W)) Tryd.f33 [.big b B, .big d D, .big n W] (MRes.sat (.ret (.big R W))) := by kernel_rfl
def powR (b d n : Int) : Nat := (b % n).toNat ^ d.toNat % n.toNat
def s_rpow4 : FSpec
 | [.big b B, .big d D, .big n W] => some (some ((B ≤ 1000 ∧ D ≤ 1000 ∧ W ≤ 1000) ∧ 0 ≤ d ∧ 1 < n), .ret (.big (powR b d n) W))
 | _ => none
theorem p_rpow4 : GoodF Tryd.f33 s_rpow4 := by
 intro ms p r h hp hf
 unfold s_rpow4 at h
 split at h
 ·rename_i b B d D n W
  simp only [Option.some.injEq, Prod.mk.injEq] at h
  obtain ⟨rfl, rfl⟩ := h
  obtain ⟨⟨hB, hD, hW⟩, hd, hn⟩ : (B ≤ 1000 ∧ D ≤ 1000 ∧ W ≤ 1000) ∧ 0 ≤ d ∧ 1 < n := hp
  simp only [factsL, MV.facts] at hf
  obtain ⟨_, hfd, _⟩ := hf
  obtain ⟨N, rfl⟩ : ∃ m : Nat, n = m := ⟨n.toNat, by omega⟩
  obtain ⟨M, rfl⟩ : ∃ m : Nat, d = m := ⟨d.toNat, by omega⟩
  have h0 := Int.emod_nonneg b (show (N : Int) ≠ 0 by omega)
  obtain ⟨c, hc⟩ : ∃ c : Nat, b % (N : Int) = c := ⟨(b % (N : Int)).toNat, by omega⟩
  have hbl : bl M ≤ D := bl_le_of hfd
  have eR : powR b M N = c ^ M % N := by unfold powR; rw [hc, Int.toNat_natCast, Int.toNat_natCast, Int.toNat_natCast]
  rw [eR]
  refine ⟨env [c_rof, c_rmod, c_rbits, c_rmul] (a_rpow4 M N c W), ?_⟩
  rw [← vc_rpow4 b M N B D W M N c (c ^ M % N), hc, Int.natAbs_natCast]
  have e1 : wrap i64 ((bl M : Int) - 1) = (bl M : Int) - 1 := i64w (by omega) (by omega)
  have e2 : (1 : Int) % (N : Int) = ((1 : Nat) : Int) := Int.emod_eq_of_lt (by omega) (by omega)
  rw [e1, e2]
  refine ⟨by omega, by omega, by omega, by omega, ⟨⟨bl M, 1⟩, pk_start (by omega) (Nat.zero_le _), ⟨rfl, rfl, rfl, rfl, rfl, rfl, True.intro⟩, le1, le1, le1, le1, le1, True.intro⟩, fun k K => ?_⟩
  have kl := K.l
  refine condI decide_eq_true_iff (fun q => ?_) (fun q => ?_)
  ·have ek : (k.k : Int) - 1 = ((k.k - 1 : Nat) : Int) := by omega
   have hix := limbs_idx (N := M) (c := k.k - 1) (by omega)
   have e3 : wrap u64 (((k.k - 1) % 32 : Nat) : Int) = (((k.k - 1) % 32 : Nat) : Int) := u64i (by omega) (by omega)
   have e4 : wrap i64 (((k.k - 1 : Nat) : Int) - 1) = ((k.k - 1 : Nat) : Int) - 1 := i64w (by omega) (by omega)
   rw [ek, ixE (by omega), imE, e3, Int.toNat_natCast, Int.toNat_natCast, bit_val, natmod k.x k.x N, natmod (k.x * k.x % N) c N, e4]
   refine ⟨by omega, by omega, by omega, ⟨by omega, by omega⟩, by omega, by omega, condI beq_iff_eq (fun q3 => ?_) (fun q3 => ?_)⟩
   ·exact ⟨by omega, by omega, _, pk_odd K (by omega) (by omega), ⟨⟨rfl, rfl, rfl, rfl, rfl, rfl, True.intro⟩, le1, le1, le1, le1, le1, True.intro⟩, by show k.k - 1 < k.k; omega⟩
   ·exact ⟨_, pk_even K (by omega) (by omega), ⟨⟨rfl, rfl, rfl, rfl, rfl, rfl, True.intro⟩, le1, le1, le1, le1, le1, True.intro⟩, by show k.k - 1 < k.k; omega⟩
  ·have hk : k.k = 0 := by omega
   have hx := K.x
   rw [hk, Nat.pow_zero, Nat.div_one] at hx
   rw [hx]
   exact le1
 ·simp at h
def c_rpow4 : Ctr Tryd.prog := ⟨33, s_rpow4, fun args w => Tryd.call33 args w, fn_ok_facts mix Tryd.func33 s_rpow4 p_rpow4⟩
structure WiI (z : Int) (R : Nat) (i : WalkI) : Prop where
 l : i.i ≤ 199
 e : witF (199 - i.i) (2 + i.i) z.toNat = R
def a_wit4 (z : Int) (R : Nat) : Nat → MS → Option LoopAnn
 | 4, e => some (.inv WalkI (WiI z R) (fun i => ⟨23, [(1, .bp 0 0), (4, .int .i64 ((i.i : Int) + 2))], e.bx, 0⟩) (fun i => 199 - i.i))
 | _, _ => none
theorem vc_wit4 (z : Int) (n R : Nat) (T E : Int) : (((0 : Int) ≤ (9 : Int) ∧ (9 : Int) ≤ (1000 : Int) ∧ n ≤ (1000000 : Nat)) ∧ bif !oddB z (9 : Int) then (0 : Int) = T ∧ (1 : Int) = E ∧ True else (∃ i, WiI z R i ∧ ((0 : Nat) = (0 : Nat) ∧ (2 : Int) = (↑(i.1) : Int) + (2 : Int) ∧ True) ∧ (z = z ∧ (n ≤ n ∨ Int.natAbs z < (2 : Nat) ^ n)) ∧ True) ∧ ∀ (i : WalkI), WiI z R i → bif decide ((↑(i.1) : Int) + (2 : Int) ≤ (200 : Int)) then (n ≤ (128 : Nat) ∧ (-9223372036854775808 : Int) ≤ (↑(i.1) : Int) + (2 : Int) ∧ (↑(i.1) : Int) + (2 : Int) ≤ (9223372036854775807 : Int)) ∧ bif !strB z ((↑(i.1) : Int) + (2 : Int)) then (↑(i.1) : Int) + (2 : Int) = T ∧ (0 : Int) = E ∧ True else ∃ j, WiI z R j ∧ (((0 : Nat) = (0 : Nat) ∧ wrap i64 ((↑(i.1) : Int) + (2 : Int) + (1 : Int)) = (↑(j.1) : Int) + (2 : Int) ∧ True) ∧ (z = z ∧ (n ≤ n ∨ Int.natAbs z < (2 : Nat) ^ n)) ∧ True) ∧ (199 : Nat) - j.1 < (199 : Nat) - i.1 else (0 : Int) = T ∧ (6 : Int) = E ∧ True) = evFn (env [c_podd, c_pstr] (a_wit4 z R)) Tryd.f12 [.big z n] (MRes.sat (.ret (.tup [.int .i64 T, .int .i64 E]))) := by kernel_rfl
def witT (z : Int) : Int := if oddB z 9 = true then witN z.toNat else 0
def witE (z : Int) : Int := if oddB z 9 = true then (if witN z.toNat = 0 then 6 else 0) else 1
theorem odd9 {z : Int} (h : oddB z 9 = true) : 9 < z ∧ z % 2 = 1 := of_decide_eq_true h
theorem strB_odd {z b : Int} (h : oddB z 9 = true) (hb : 1 ≤ b) : strB z b = strongN z.toNat b.toNat := by
 have := odd9 h
 unfold strB
 rw [if_pos ⟨by omega, this.2, hb⟩]
theorem wit_step {i R N : Nat} (hi : i < 199) (h : witF (199 - i) (2 + i) N = R) : (strongN N (2 + i) = true → witF (199 - (i + 1)) (2 + (i + 1)) N = R) ∧ (strongN N (2 + i) = false → R = 2 + i) := by
 rw [show 199 - i = (199 - (i + 1)) + 1 by omega, witF] at h
 constructor
 ·intro q
  rw [q, cond_true] at h
  exact h
 ·intro q
  rw [q, cond_false] at h
  exact h.symm
set_option maxRecDepth 100000 in
theorem wit_ok (z : Int) (n R : Nat) (hn : n ≤ 128) (hR : R = witN z.toNat) {X : Nat → Prop} (hX : ∀ i, X i) :
  bif !oddB z 9 then (0 : Int) = witT z ∧ (1 : Int) = witE z ∧ True else
   WiI z R ⟨0⟩ ∧ ∀ i : WalkI, WiI z R i →
    bif decide ((i.i : Int) + 2 ≤ 200) then (n ≤ 128 ∧ (-9223372036854775808 : Int) ≤ (i.i : Int) + 2 ∧ (i.i : Int) + 2 ≤ 9223372036854775807) ∧ (bif !strB z ((i.i : Int) + 2) then (i.i : Int) + 2 = witT z ∧ (0 : Int) = witE z ∧ True else
     ∃ j : WalkI, WiI z R j ∧ wrap i64 ((i.i : Int) + 2 + 1) = (j.i : Int) + 2 ∧ X j.i ∧ 199 - j.i < 199 - i.i) else (0 : Int) = witT z ∧ (6 : Int) = witE z ∧ True := by
 unfold witT witE
 by_cases h9 : oddB z 9 = true
 ·rw [h9, Bool.not_true, cond_false, if_pos rfl, if_pos rfl]
  refine ⟨⟨Nat.zero_le _, by rw [hR]; unfold witN; rfl⟩, fun i hi => ?_⟩
  have h1 := hi.l
  have h2 := hi.e
  obtain ⟨i⟩ := i
  dsimp only at h1 h2 ⊢
  refine condI decide_eq_true_iff (fun q => ⟨by omega, ?_⟩) (fun q => ?_)
  ·obtain ⟨s1, s2⟩ := wit_step (by omega) h2
   have e : strB z ((i : Int) + 2) = strongN z.toNat (2 + i) := by
    rw [strB_odd h9 (by omega)]
    congr 1
    omega
   rw [e]
   cases hc : strongN z.toNat (2 + i) with
   | true =>
    rw [Bool.not_true, cond_false, i64w (by omega) (by omega)]
    exact ⟨⟨i + 1⟩, ⟨by show i + 1 ≤ 199; omega, s1 hc⟩, by show (i : Int) + 2 + 1 = ((i + 1 : Nat) : Int) + 2; omega, hX _, by show 199 - (i + 1) < 199 - i; omega⟩
   | false =>
    have := s2 hc
    rw [Bool.not_false, cond_true, ← hR, if_neg (by omega)]
    exact ⟨by omega, rfl, True.intro⟩
  ·rw [show 199 - i = 0 by omega, witF] at h2
   rw [← hR, if_pos h2.symm]
   exact ⟨by omega, rfl, True.intro⟩
 ·have h9 : oddB z 9 = false := by simpa using h9
  rw [h9, Bool.not_false, cond_true, if_neg (by simp), if_neg (by simp)]
  exact ⟨rfl, rfl, True.intro⟩
def s_wit4 : FSpec
 | [.big z n] => some (some (n ≤ 128), .ret (.tup [.int .i64 (witT z), .int .i64 (witE z)]))
 | _ => none
set_option maxRecDepth 100000 in
theorem p_wit4 : Good Tryd.f12 s_wit4 := by
 intro ms p r h hp
 unfold s_wit4 at h
 split at h
 ·rename_i z n
  simp only [Option.some.injEq, Prod.mk.injEq] at h
  obtain ⟨rfl, rfl⟩ := h
  have hn : n ≤ 128 := hp
  refine ⟨env [c_podd, c_pstr] (a_wit4 z (witN z.toNat)), ?_⟩
  rw [← vc_wit4 z n (witN z.toNat) (witT z) (witE z)]
  have h := wit_ok z n (witN z.toNat) hn rfl (X := fun _ => True) (fun _ => True.intro)
  refine ⟨by omega, ?_⟩
  cases hq : oddB z 9 with
  | false => rw [hq] at h; exact h
  | true =>
   rw [hq] at h
   obtain ⟨h1, h2⟩ := h
   refine ⟨⟨⟨0⟩, h1, ⟨rfl, rfl, True.intro⟩, le1, True.intro⟩, fun i hi => ?_⟩
   have h3 := h2 i hi
   cases hd : decide ((i.i : Int) + 2 ≤ 200) with
   | false => rw [hd] at h3; exact h3
   | true =>
    rw [hd] at h3
    obtain ⟨h4, h5⟩ := h3
    refine ⟨h4, ?_⟩
    cases hs : strB z ((i.i : Int) + 2) with
    | false => rw [hs] at h5; exact h5
    | true =>
     rw [hs] at h5
     obtain ⟨j, j1, j2, _, j3⟩ := h5
     exact ⟨j, j1, ⟨⟨rfl, j2, True.intro⟩, le1, True.intro⟩, j3⟩
 ·simp at h
def c_wit4 : Ctr Tryd.prog := ⟨12, s_wit4, fun args w => Tryd.call12 args w, fn_ok mix Tryd.func12 s_wit4 p_wit4⟩
/-! ### algoristref04.Strong -/
structure SuI (M : Nat) (i : ST) : Prop where
 e : i.d * 2 ^ i.s = M
 p : 0 < i.d
 l : i.s < 128
def a_rst4 (W1 W N M s : Nat) (B : Bool) : Nat → MS → Option LoopAnn
 | 13, e => some (.inv ST (SuI M) (fun i => ⟨76, [(2, .bp 0 0), (8, .bp 1 0), (9, .bp 2 0), (10, .bp 3 0), (11, .bp 4 0), (12, .int .i64 i.s)], setNth e.bx 4 ⟨false, .one (.big i.d W1)⟩, 0⟩) (fun i => i.d))
 | 20, e => some (.inv SH (ShI N s B) (fun i => ⟨76, [(2, .bp 0 0), (9, .bp 2 0), (10, .bp 3 0), (12, .int .i64 s), (13, .bp 5 0), (14, .int .i64 i.k)], setNth e.bx 5 ⟨false, .one (.big i.x W)⟩, 0⟩) (fun i => s - i.k))
 | _, _ => none
theorem vc_rst4 (z b : Int) (W N M s : Nat) (B T : Bool) (e : Int) : (((0 : Int) ≤ (2 : Int) ∧ (2 : Int) ≤ (1000 : Int) ∧ W ≤ (1000000 : Nat)) ∧ bif !oddB z (2 : Int) then false = T ∧ (1 : Int) = e ∧ True else bif decide (b < (1 : Int)) then false = T ∧ (1 : Int) = e ∧ True else bif decide ((0 : Int) ≤ z ∧ z < (18446744073709551616 : Int)) then ((((2 : Int) < if (0 : Int) ≤ z ∧ z < (18446744073709551616 : Int) then z else (0 : Int)) ∧ (if (0 : Int) ≤ z ∧ z < (18446744073709551616 : Int) then z else (0 : Int)) < (18446744073709551616 : Int)) ∧ (if (0 : Int) ≤ z ∧ z < (18446744073709551616 : Int) then z else (0 : Int)) % (2 : Int) = (1 : Int) ∧ (0 : Int) ≤ wrap u64 b ∧ wrap u64 b < (18446744073709551616 : Int)) ∧ strongN (Int.toNat (if (0 : Int) ≤ z ∧ z < (18446744073709551616 : Int) then z else (0 : Int))) (Int.toNat (wrap u64 b)) = T ∧ (0 : Int) = e ∧ True else ((-9223372036854775808 : Int) ≤ b ∧ b ≤ (9223372036854775807 : Int)) ∧ ((64 : Nat) ≤ (900000 : Nat) ∧ W ≤ (900000 : Nat) ∧ (z = (0 : Int) → False)) ∧ bif (↑(List.length (limbs (Int.natAbs (b % z)))) : Int) == (0 : Int) then true = T ∧ (0 : Int) = e ∧ True else ((-9223372036854775808 : Int) ≤ (1 : Int) ∧ (1 : Int) ≤ (9223372036854775807 : Int)) ∧ (W ≤ (1000000 : Nat) ∧ (64 : Nat) ≤ (1000000 : Nat)) ∧ (∃ i, SuI M i ∧ ((0 : Nat) = (0 : Nat) ∧ (0 : Nat) = (0 : Nat) ∧ (0 : Nat) = (0 : Nat) ∧ (0 : Nat) = (0 : Nat) ∧ (0 : Nat) = (0 : Nat) ∧ (0 : Int) = (↑(ST.s i) : Int) ∧ True) ∧ (z = z ∧ (W ≤ W ∨ Int.natAbs z < (2 : Nat) ^ W)) ∧ (b % z = b % z ∧ (W ≤ W ∨ Int.natAbs (b % z) < (2 : Nat) ^ W)) ∧ ((1 : Int) = (1 : Int) ∧ ((64 : Nat) ≤ (64 : Nat) ∨ Int.natAbs (1 : Int) < (2 : Nat) ^ (64 : Nat))) ∧ (z - (1 : Int) = z - (1 : Int) ∧ (max W (64 : Nat) + (1 : Nat) ≤ max W (64 : Nat) + (1 : Nat) ∨ Int.natAbs (z - (1 : Int)) < (2 : Nat) ^ (max W (64 : Nat) + (1 : Nat)))) ∧ (z - (1 : Int) = (↑(ST.d i) : Int) ∧ (max W (64 : Nat) + (1 : Nat) ≤ max W (64 : Nat) + (1 : Nat) ∨ Int.natAbs (z - (1 : Int)) < (2 : Nat) ^ (max W (64 : Nat) + (1 : Nat)))) ∧ True) ∧ ∀ (i : ST), SuI M i → ((0 : Int) ≤ (0 : Int) ∧ (0 : Int) < (↑(List.length (limbs (Int.natAbs (↑(ST.d i) : Int)))) : Int)) ∧ ((2 : Int) = (0 : Int) → False) ∧ bif Int.tmod (List.getD (limbs (Int.natAbs (↑(ST.d i) : Int))) (Int.toNat (0 : Int)) (0 : Int)) (2 : Int) == (0 : Int) then ((-9223372036854775808 : Int) ≤ (2 : Int) ∧ (2 : Int) ≤ (9223372036854775807 : Int)) ∧ (max W (64 : Nat) + (1 : Nat) ≤ (900000 : Nat) ∧ (64 : Nat) ≤ (900000 : Nat) ∧ ((2 : Int) = (0 : Int) → False)) ∧ ∃ j, SuI M j ∧ (((0 : Nat) = (0 : Nat) ∧ (0 : Nat) = (0 : Nat) ∧ (0 : Nat) = (0 : Nat) ∧ (0 : Nat) = (0 : Nat) ∧ (0 : Nat) = (0 : Nat) ∧ wrap i64 ((↑(ST.s i) : Int) + (1 : Int)) = (↑(ST.s j) : Int) ∧ True) ∧ (z = z ∧ (W ≤ W ∨ Int.natAbs z < (2 : Nat) ^ W)) ∧ (b % z = b % z ∧ (W ≤ W ∨ Int.natAbs (b % z) < (2 : Nat) ^ W)) ∧ ((1 : Int) = (1 : Int) ∧ ((64 : Nat) ≤ (64 : Nat) ∨ Int.natAbs (1 : Int) < (2 : Nat) ^ (64 : Nat))) ∧ (z - (1 : Int) = z - (1 : Int) ∧ (max W (64 : Nat) + (1 : Nat) ≤ max W (64 : Nat) + (1 : Nat) ∨ Int.natAbs (z - (1 : Int)) < (2 : Nat) ^ (max W (64 : Nat) + (1 : Nat)))) ∧ ((↑(ST.d i) : Int) / (2 : Int) = (↑(ST.d j) : Int) ∧ (max W (64 : Nat) + (1 : Nat) ≤ max W (64 : Nat) + (1 : Nat) ∨ Int.natAbs ((↑(ST.d i) : Int) / (2 : Int)) < (2 : Nat) ^ (max W (64 : Nat) + (1 : Nat)))) ∧ True) ∧ ST.d j < ST.d i else ((W ≤ (1000 : Nat) ∧ max W (64 : Nat) + (1 : Nat) ≤ (1000 : Nat) ∧ W ≤ (1000 : Nat)) ∧ (0 : Int) ≤ (↑(ST.d i) : Int) ∧ (1 : Int) < z) ∧ (W ≤ (1000000 : Nat) ∧ (64 : Nat) ≤ (1000000 : Nat)) ∧ bif decide ((↑(powR (b % z) (↑(ST.d i) : Int) z) : Int) = (1 : Int)) then true = T ∧ (0 : Int) = e ∧ True else (∃ i_1, ShI N s B i_1 ∧ ((0 : Nat) = (0 : Nat) ∧ (0 : Nat) = (0 : Nat) ∧ (0 : Nat) = (0 : Nat) ∧ (↑(ST.s i) : Int) = (↑s : Int) ∧ (0 : Nat) = (0 : Nat) ∧ (0 : Int) = (↑(SH.k i_1) : Int) ∧ True) ∧ (z = z ∧ (W ≤ W ∨ Int.natAbs z < (2 : Nat) ^ W)) ∧ (b % z = b % z ∧ (W ≤ W ∨ Int.natAbs (b % z) < (2 : Nat) ^ W)) ∧ ((1 : Int) = (1 : Int) ∧ ((64 : Nat) ≤ (64 : Nat) ∨ Int.natAbs (1 : Int) < (2 : Nat) ^ (64 : Nat))) ∧ (z - (1 : Int) = z - (1 : Int) ∧ (max W (64 : Nat) + (1 : Nat) ≤ max W (64 : Nat) + (1 : Nat) ∨ Int.natAbs (z - (1 : Int)) < (2 : Nat) ^ (max W (64 : Nat) + (1 : Nat)))) ∧ ((↑(ST.d i) : Int) = (↑(ST.d i) : Int) ∧ (max W (64 : Nat) + (1 : Nat) ≤ max W (64 : Nat) + (1 : Nat) ∨ Int.natAbs (↑(ST.d i) : Int) < (2 : Nat) ^ (max W (64 : Nat) + (1 : Nat)))) ∧ ((↑(powR (b % z) (↑(ST.d i) : Int) z) : Int) = (↑(SH.x i_1) : Int) ∧ (W ≤ W ∨ Int.natAbs (↑(powR (b % z) (↑(ST.d i) : Int) z) : Int) < (2 : Nat) ^ W)) ∧ True) ∧ ∀ (i_1 : SH), ShI N s B i_1 → bif decide ((↑(SH.k i_1) : Int) < (↑s : Int)) then (W ≤ (1000000 : Nat) ∧ max W (64 : Nat) + (1 : Nat) ≤ (1000000 : Nat)) ∧ bif decide ((↑(SH.x i_1) : Int) = z - (1 : Int)) then true = T ∧ (0 : Int) = e ∧ True else (W ≤ (1000000 : Nat) ∧ W ≤ (1000000 : Nat)) ∧ (W + W ≤ (900000 : Nat) ∧ W ≤ (900000 : Nat) ∧ (z = (0 : Int) → False)) ∧ ∃ j, ShI N s B j ∧ (((0 : Nat) = (0 : Nat) ∧ (0 : Nat) = (0 : Nat) ∧ (0 : Nat) = (0 : Nat) ∧ (↑s : Int) = (↑s : Int) ∧ (0 : Nat) = (0 : Nat) ∧ wrap i64 ((↑(SH.k i_1) : Int) + (1 : Int)) = (↑(SH.k j) : Int) ∧ True) ∧ (z = z ∧ (W ≤ W ∨ Int.natAbs z < (2 : Nat) ^ W)) ∧ (b % z = b % z ∧ (W ≤ W ∨ Int.natAbs (b % z) < (2 : Nat) ^ W)) ∧ ((1 : Int) = (1 : Int) ∧ ((64 : Nat) ≤ (64 : Nat) ∨ Int.natAbs (1 : Int) < (2 : Nat) ^ (64 : Nat))) ∧ (z - (1 : Int) = z - (1 : Int) ∧ (max W (64 : Nat) + (1 : Nat) ≤ max W (64 : Nat) + (1 : Nat) ∨ Int.natAbs (z - (1 : Int)) < (2 : Nat) ^ (max W (64 : Nat) + (1 : Nat)))) ∧ ((↑(ST.d i) : Int) = (↑(ST.d i) : Int) ∧ (max W (64 : Nat) + (1 : Nat) ≤ max W (64 : Nat) + (1 : Nat) ∨ Int.natAbs (↑(ST.d i) : Int) < (2 : Nat) ^ (max W (64 : Nat) + (1 : Nat)))) ∧ ((↑(SH.x i_1) : Int) * (↑(SH.x i_1) : Int) % z = (↑(SH.x j) : Int) ∧ (W ≤ W ∨ Int.natAbs ((↑(SH.x i_1) : Int) * (↑(SH.x i_1) : Int) % z) < (2 : Nat) ^ W)) ∧ True) ∧ s - SH.k j < s - SH.k i_1 else false = T ∧ (0 : Int) = e ∧ True) = evFn (env [c_rodd, c_rlow4, c_rstr, c_rof, c_rmod, c_rsub, c_rdiv, c_rpow4, c_rsame, c_rmul] (a_rst4 (max W 64 + 1) W N M s B)) Tryd.f11 [.big z W, .int .i64 b] (MRes.sat (.ret (.tup [.bool T, .int .i64 e]))) := by kernel_rfl
theorem su_half {M : Nat} {i : ST} (I : SuI M i) (h : i.d % 2 = 0) (hM : M < 2 ^ 128) : SuI M ⟨i.d / 2, i.s + 1⟩ := by
 have hp := I.p
 have he := I.e
 have e2 : i.d / 2 * 2 ^ (i.s + 1) = M := by
  rw [← he, Nat.pow_succ, Nat.mul_comm (2 ^ i.s) 2, ← Nat.mul_assoc]
  congr 1
  omega
 refine ⟨e2, by show 0 < i.d / 2; omega, ?_⟩
 show i.s + 1 < 128
 false_or_by_contra
 rename_i hno
 have h1 : 2 ^ 128 ≤ 2 ^ (i.s + 1) := Nat.pow_le_pow_right (by omega) (by omega)
 have h2 : 1 * 2 ^ (i.s + 1) ≤ i.d / 2 * 2 ^ (i.s + 1) := Nat.mul_le_mul_right _ (by omega)
 omega
theorem su_end {M : Nat} {i : ST} (I : SuI M i) (h : i.d % 2 ≠ 0) : TzOk 128 M i.s ∧ i.d = M / 2 ^ i.s := by
 have he := I.e
 have hq : 0 < 2 ^ i.s := Nat.pow_pos (by omega)
 have hd : M / 2 ^ i.s = i.d := by rw [← he, Nat.mul_div_cancel _ hq]
 exact ⟨⟨by rw [← he, Nat.mul_mod_left], by rw [hd]; omega, I.l⟩, hd.symm⟩
theorem limbs0_len {z : Int} : ((((limbs z.natAbs).length : Nat) : Int) == 0) = decide (z = 0) := by
 by_cases h : z = 0
 ·subst h
  rw [show (0 : Int).natAbs = 0 from rfl, limbs_zero]; rfl
 ·rw [decide_eq_false h]
  refine beqI0 (fun e => h ?_)
  have : (limbs z.natAbs).length = 0 := by omega
  have := limbs_eq_nil.1 (List.eq_nil_of_length_eq_zero this)
  omega
def s_rst4 : FSpec
 | [.big z W, .int .i64 b] => some (some (W ≤ 128 ∧ -9223372036854775808 ≤ b ∧ b ≤ 9223372036854775807), .ret (.tup [.bool (strB z b), .int .i64 (strE z b)]))
 | _ => none
theorem p_rst4 : GoodF Tryd.f11 s_rst4 := by
 intro ms p r h hp hf
 unfold s_rst4 at h
 split at h
 ·rename_i z W b
  simp only [Option.some.injEq, Prod.mk.injEq] at h
  obtain ⟨rfl, rfl⟩ := h
  obtain ⟨hW, hb0, hb1⟩ : W ≤ 128 ∧ -9223372036854775808 ≤ b ∧ b ≤ 9223372036854775807 := hp
  simp only [factsL, MV.facts] at hf
  obtain ⟨hz, _⟩ := hf
  by_cases q : 2 < z ∧ z % 2 = 1
  rotate_left
  ·refine ⟨env [c_rodd, c_rlow4, c_rstr, c_rof, c_rmod, c_rsub, c_rdiv, c_rpow4, c_rsame, c_rmul] (a_rst4 (max W 64 + 1) W 0 0 0 false), ?_⟩
   rw [← vc_rst4 z b W 0 0 0 false (strB z b) (strE z b)]
   have hq : oddB z 2 = false := by
    cases hb : oddB z 2 with
    | true => exact absurd (oddB_iff.1 hb) q
    | false => rfl
   have hc : ¬ (2 < z ∧ z % 2 = 1 ∧ 1 ≤ b) := fun h => q ⟨h.1, h.2.1⟩
   unfold strB strE
   rw [hq, Bool.not_false, cond_true, if_neg hc, if_neg hc]
   exact ⟨by omega, rfl, rfl, True.intro⟩
  obtain ⟨N, hzN⟩ : ∃ n : Nat, z = n := ⟨z.toNat, by omega⟩
  obtain ⟨M, hM⟩ : ∃ M, M = N - 1 := ⟨_, rfl⟩
  obtain ⟨s, hs⟩ : ∃ s, s = tz M := ⟨_, rfl⟩
  have h0 := Int.emod_nonneg b (show z ≠ 0 by omega)
  obtain ⟨c, hc⟩ : ∃ c : Nat, b % z = c := ⟨(b % z).toNat, by omega⟩
  refine ⟨env [c_rodd, c_rlow4, c_rstr, c_rof, c_rmod, c_rsub, c_rdiv, c_rpow4, c_rsame, c_rmul] (a_rst4 (max W 64 + 1) W N M s (hitF s (1 * c ^ (M / 2 ^ s) % N) N)), ?_⟩
  rw [← vc_rst4 z b W N M s (hitF s (1 * c ^ (M / 2 ^ s) % N) N) (strB z b) (strE z b)]
  unfold strB strE
  rw [oddB_iff.2 q, Bool.not_true, cond_false]
  refine ⟨by omega, condI decide_eq_true_iff (fun q2 => ⟨by rw [if_neg (by omega)], by rw [if_neg (by omega)], True.intro⟩) (fun q2 => ?_)⟩
  have hcc : 2 < z ∧ z % 2 = 1 ∧ 1 ≤ b := ⟨q.1, q.2, by omega⟩
  rw [if_pos hcc, if_pos hcc, u64i (x := b) (by omega) (by omega)]
  refine condI decide_eq_true_iff (fun q3 => ?_) (fun q3 => ?_)
  ·rw [if_pos q3]
   exact ⟨⟨⟨q.1, q3.2⟩, q.2, by omega, by omega⟩, rfl, rfl, True.intro⟩
  clear q3 hcc
  subst hzN
  have hN : N < 2 ^ 128 := Nat.lt_of_lt_of_le hz (Nat.pow_le_pow_right (by omega) hW)
  have hT := tz_ok (n := N - 1) (by omega) (by omega)
  have hMi : (N : Int) - 1 = (M : Int) := by omega
  rw [← hM] at hT
  rw [← hs] at hT
  have eS := strongN_eq (n := N) (b := b.toNat)
  obtain ⟨b', rfl⟩ : ∃ n : Nat, b = n := ⟨b.toNat, by omega⟩
  have hcb : c = b' % N := by
   have : (b' : Int) % (N : Int) = ((b' % N : Nat) : Int) := by simp
   omega
  rw [Int.toNat_natCast] at eS
  rw [← hM] at eS
  rw [← hs, ← hcb] at eS
  rw [hc, limbs0_len, Int.toNat_natCast, Int.toNat_natCast, hMi]
  refine ⟨by omega, by omega, condI decide_eq_true_iff (fun q4 => ?_) (fun q4 => ?_)⟩
  ·exact ⟨(strongN_zero (by omega)).symm, rfl, True.intro⟩
  have eS := eS (by omega) (by omega) hN
  refine ⟨by omega, by omega, ⟨⟨M, 0⟩, ⟨by show M * 2 ^ 0 = M; omega, by show 0 < M; omega, by show 0 < 128; omega⟩, ⟨rfl, rfl, rfl, rfl, rfl, rfl, True.intro⟩, le1, le1, le1, le1, le1, True.intro⟩, fun i I => ?_⟩
  have ip := I.p
  have il := I.l
  have e1 : (i.d : Int) / 2 = ((i.d / 2 : Nat) : Int) := by omega
  have e2 : wrap i64 ((i.s : Int) + 1) = ((i.s + 1 : Nat) : Int) := by rw [i64w (by omega) (by omega)]; omega
  have e3 : Int.tmod ((i.d % 4294967296 : Nat) : Int) 2 = ((i.d % 2 : Nat) : Int) := by rw [Int.tmod_eq_emod_of_nonneg (by omega)]; omega
  rw [e1, e2, Int.natAbs_natCast, limb0, e3]
  refine ⟨⟨by omega, by have := limbs_ne (z := (i.d : Int)) (by omega); rw [Int.natAbs_natCast] at this; exact this⟩, by omega, condI beq_iff_eq (fun q5 => ?_) (fun q5 => ?_)⟩
  ·exact ⟨by omega, by omega, _, su_half I (by omega) (by omega), ⟨⟨rfl, rfl, rfl, rfl, rfl, rfl, True.intro⟩, le1, le1, le1, le1, le1, True.intro⟩, by show i.d / 2 < i.d; omega⟩
  ·obtain ⟨t1, t2⟩ := su_end I (by omega)
   have t3 : i.s = s := tz_uniq t1 hT
   have hcN : c < N := by rw [hcb]; exact Nat.mod_lt _ (by omega)
   have ep : powR (c : Int) (i.d : Int) (N : Int) = c ^ (M / 2 ^ s) % N := by
    unfold powR
    rw [show (c : Int) % (N : Int) = (c : Int) from Int.emod_eq_of_lt (by omega) (by omega), Int.toNat_natCast, Int.toNat_natCast, Int.toNat_natCast, t2, t3]
   rw [ep, t3]
   rw [Nat.one_mul] at eS ⊢
   have hRN : c ^ (M / 2 ^ s) % N < N := Nat.mod_lt _ (by omega)
   generalize c ^ (M / 2 ^ s) % N = R at *
   generalize hB : hitF s R N = B at *
   refine ⟨by omega, by omega, condI decide_eq_true_iff (fun q6 => ?_) (fun q6 => ⟨⟨⟨0, R⟩, ⟨Nat.zero_le _, hRN, hB⟩, ⟨rfl, rfl, rfl, rfl, rfl, rfl, True.intro⟩, le1, le1, le1, le1, le1, le1, True.intro⟩, fun j J => ?_⟩)⟩
   ·rw [eS, show R = 1 by omega]; exact ⟨rfl, rfl, True.intro⟩
   ·rw [beqN (show R ≠ 1 by omega), Bool.false_or] at eS
    have jx := J.x
    have jk := J.k
    rw [natmod]
    refine condI decide_eq_true_iff (fun q => ⟨by omega, condI decide_eq_true_iff (fun q2 => ?_) (fun q2 => ?_)⟩) (fun q => ?_)
    ·rw [eS]; exact ⟨(sh_hit J (by omega) (by omega)).symm, rfl, True.intro⟩
    ·refine ⟨by omega, by omega, _, sh_step J (by omega) (by omega) (by omega), ⟨⟨rfl, rfl, rfl, rfl, rfl, ?_, True.intro⟩, le1, le1, le1, le1, le1, le1, True.intro⟩, by show s - (j.k + 1) < s - j.k; omega⟩
     rw [i64w (by omega) (by omega)]; rfl
    ·rw [eS]; exact ⟨(sh_end J (by omega)).symm, rfl, True.intro⟩
 ·simp at h
def c_rst4 : Ctr Tryd.prog := ⟨11, s_rst4, fun args w => Tryd.call11 args w, fn_ok_facts mix Tryd.func11 s_rst4 p_rst4⟩
theorem vc_rwit4 (z : Int) (n R : Nat) (T E : Int) : (((0 : Int) ≤ (9 : Int) ∧ (9 : Int) ≤ (1000 : Int) ∧ n ≤ (1000000 : Nat)) ∧ bif !oddB z (9 : Int) then (0 : Int) = T ∧ (1 : Int) = E ∧ True else (∃ i, WiI z R i ∧ ((0 : Nat) = (0 : Nat) ∧ (2 : Int) = (↑(i.1) : Int) + (2 : Int) ∧ True) ∧ (z = z ∧ (n ≤ n ∨ Int.natAbs z < (2 : Nat) ^ n)) ∧ True) ∧ ∀ (i : WalkI), WiI z R i → bif decide ((↑(i.1) : Int) + (2 : Int) ≤ (200 : Int)) then (n ≤ (128 : Nat) ∧ (-9223372036854775808 : Int) ≤ (↑(i.1) : Int) + (2 : Int) ∧ (↑(i.1) : Int) + (2 : Int) ≤ (9223372036854775807 : Int)) ∧ bif !strB z ((↑(i.1) : Int) + (2 : Int)) then (↑(i.1) : Int) + (2 : Int) = T ∧ (0 : Int) = E ∧ True else ∃ j, WiI z R j ∧ (((0 : Nat) = (0 : Nat) ∧ wrap i64 ((↑(i.1) : Int) + (2 : Int) + (1 : Int)) = (↑(j.1) : Int) + (2 : Int) ∧ True) ∧ (z = z ∧ (n ≤ n ∨ Int.natAbs z < (2 : Nat) ^ n)) ∧ True) ∧ (199 : Nat) - j.1 < (199 : Nat) - i.1 else (0 : Int) = T ∧ (6 : Int) = E ∧ True) = evFn (env [c_rodd, c_rst4] (a_wit4 z R)) Tryd.f13 [.big z n] (MRes.sat (.ret (.tup [.int .i64 T, .int .i64 E]))) := by kernel_rfl
set_option maxRecDepth 100000 in
theorem p_rwit4 : Good Tryd.f13 s_wit4 := by
 intro ms p r h hp
 unfold s_wit4 at h
 split at h
 ·rename_i z n
  simp only [Option.some.injEq, Prod.mk.injEq] at h
  obtain ⟨rfl, rfl⟩ := h
  have hn : n ≤ 128 := hp
  refine ⟨env [c_rodd, c_rst4] (a_wit4 z (witN z.toNat)), ?_⟩
  rw [← vc_rwit4 z n (witN z.toNat) (witT z) (witE z)]
  have h := wit_ok z n (witN z.toNat) hn rfl (X := fun _ => True) (fun _ => True.intro)
  refine ⟨by omega, ?_⟩
  cases hq : oddB z 9 with
  | false => rw [hq] at h; exact h
  | true =>
   rw [hq] at h
   obtain ⟨h1, h2⟩ := h
   refine ⟨⟨⟨0⟩, h1, ⟨rfl, rfl, True.intro⟩, le1, True.intro⟩, fun i hi => ?_⟩
   have h3 := h2 i hi
   cases hd : decide ((i.i : Int) + 2 ≤ 200) with
   | false => rw [hd] at h3; exact h3
   | true =>
    rw [hd] at h3
    obtain ⟨h4, h5⟩ := h3
    refine ⟨h4, ?_⟩
    cases hs : strB z ((i.i : Int) + 2) with
    | false => rw [hs] at h5; exact h5
    | true =>
     rw [hs] at h5
     obtain ⟨j, j1, j2, _, j3⟩ := h5
     exact ⟨j, j1, ⟨⟨rfl, j2, True.intro⟩, le1, True.intro⟩, j3⟩
 ·simp at h
def c_rwit4 : Ctr Tryd.prog := ⟨13, s_wit4, fun args w => Tryd.call13 args w, fn_ok mix Tryd.func13 s_wit4 p_rwit4⟩
end Go.Proofs.YtmjklcpdfmgcaaaDoor
/-
 Contracts of functions: prime.sieve, Small, Next (at small numbers); the examples of chapter 04.
-/
namespace Go.Proofs.YtmjklcpdfmgcaaaDoor
open Go Go.RowKit
open Go.IntKind (wrap i64 i32 i16 i8 u64 u32 u16 u8)
def cmpS : Nat → Nat → Bool
 | 0, _ => false
 | p + 1, j => cmpS p j || (Nat.ble 2 p && (Nat.ble (p * p) j && Nat.beq (j % p) 0))
def outP : Nat → List Int
 | 0 => []
 | p + 1 => outP p ++ cond (Nat.ble 2 p && !(cmpS p p)) [(p : Int)] []
def cmpK (p k j : Nat) : Bool := cmpS p j || (Nat.ble (p * p) j && (Nat.blt j k && Nat.beq (j % p) 0))
def rowB (f : Nat → Bool) : Nat → MV := fun j => .bool (f j)
def bxA : Option Box → Int
 | some ⟨_, .one (.int _ n)⟩ => n
 | _ => 0
structure MkI (p k : Nat) : Prop where
 d : k % p = 0
 l : p * p ≤ k
def x_mult (L : Nat) : Nat → MS → XS → Option XAnn
 | 1, e, _ => some (.inv WalkI (fun k => MkI (bxA (nth e.bx 4)).toNat k.i) (fun k => ⟨18, [(0, look 0 e.tm), (1, .bp 4 0), (2, .bp 5 0), (4, .int .i64 k.i)], setNth e.bx 0 ⟨false, .rows 1 (L + 1) (rowB (cmpK (bxA (nth e.bx 4)).toNat k.i))⟩, 6⟩) (fun _ => none) (fun k => L + (bxA (nth e.bx 4)).toNat - k.i))
 | _, _, _ => none
def x_sieve (L : Nat) : Nat → MS → XS → Option XAnn
 | 4, _, _ => some (.inv WalkI (fun p => 2 ≤ p.i ∧ (p.i ≤ L + 1 ∨ p.i = 2)) (fun p => ⟨31, [(0, .int .i64 L), (3, .bp 1 0), (4, .bs 2 0 (outP p.i).length), (5, .int .i64 p.i)], [⟨false, .rows 1 (L + 1) (rowB (cmpS p.i))⟩, ⟨false, .one (.bs 0 0 (L + 1))⟩, ⟨false, .arr .i64 (outP p.i)⟩], 0⟩) (fun _ => none) (fun p => L + 2 - p.i))
 | _, _, _ => none
noncomputable def xe_sieve (L : Nat) : XE Tryd.prog where
 E := env [] noAnn
 xann := x_sieve L
 its := [⟨77, Tryd.f77, Tryd.func77, fun args w => Tryd.call77 args w, env [] noAnn, x_mult L⟩]
 inl := [⟨56, Tryd.f56, Tryd.func56, fun args w => Tryd.call56 args w, env [] noAnn, fun _ _ _ => none⟩]
 rnp := fun _ => 6
 all := fun _ => none
theorem vc_sieve (L : Nat) (f : Nat → MV) (n : Nat) : (((0 : Int) ≤ wrap i64 ((↑L : Int) + (1 : Int)) ∧ wrap i64 ((↑L : Int) + (1 : Int)) = wrap i64 ((↑L : Int) + (1 : Int)) ∧ (↑(1 : Nat) : Int) * wrap i64 ((↑L : Int) + (1 : Int)) ≤ (140737488355328 : Int)) ∧ (∃ i : WalkI, ((2 : Nat) ≤ i.1 ∧ (i.1 ≤ L + (1 : Nat) ∨ i.1 = (2 : Nat))) ∧ (((↑L : Int) = (↑L : Int) ∧ (0 : Nat) = (0 : Nat) ∧ (Value.slice none (0 : Nat) (0 : Nat) = Value.slice none (0 : Nat) (0 : Nat) ∧ (0 : Nat) = (0 : Nat) ∧ List.length (outP (i.1)) = (0 : Nat)) ∧ (2 : Int) = (↑(i.1) : Int) ∧ True) ∧ (Int.toNat (wrap i64 ((↑L : Int) + (1 : Int))) = L + (1 : Nat) ∧ LeFun (Int.toNat (wrap i64 ((↑L : Int) + (1 : Int)))) (fun x => MV.bool false) (rowB (cmpS (i.1)))) ∧ ((0 : Nat) = (0 : Nat) ∧ Int.toNat (wrap i64 ((↑L : Int) + (1 : Int))) = L + (1 : Nat)) ∧ True) ∧ True) ∧ ∀ (i : WalkI), (2 : Nat) ≤ i.1 ∧ (i.1 ≤ L + (1 : Nat) ∨ i.1 = (2 : Nat)) → bif decide ((↑(i.1) : Int) ≤ (↑L : Int)) then ((0 : Int) ≤ (↑(i.1) : Int) ∧ (↑(i.1) : Int) < (↑(L + (1 : Nat)) : Int)) ∧ Int.toNat (↑(i.1) : Int) < L + (1 : Nat) ∧ bif cmpS (i.1) (Int.toNat (↑(i.1) : Int)) then ∃ j : WalkI, ((2 : Nat) ≤ j.1 ∧ (j.1 ≤ L + (1 : Nat) ∨ j.1 = (2 : Nat))) ∧ (((↑L : Int) = (↑L : Int) ∧ (0 : Nat) = (0 : Nat) ∧ ((0 : Nat) = (0 : Nat) ∧ List.length (outP (i.1)) = List.length (outP (j.1))) ∧ wrap i64 ((↑(i.1) : Int) + (1 : Int)) = (↑(j.1) : Int) ∧ True) ∧ (L + (1 : Nat) = L + (1 : Nat) ∧ LeFun (L + (1 : Nat)) (rowB (cmpS (i.1))) (rowB (cmpS (j.1)))) ∧ ((0 : Nat) = (0 : Nat) ∧ L + (1 : Nat) = L + (1 : Nat)) ∧ outP (i.1) = outP (j.1) ∧ True) ∧ True ∧ L + (2 : Nat) - j.1 < L + (2 : Nat) - i.1 else ((0 : Nat) + (1 : Nat) ≤ (1 : Nat) ∧ List.length (outP (i.1)) ≤ List.length (outP (i.1)) ∧ (List.length (outP (i.1)) + News.len (News.ints i64 (List.take (1 : Nat) (List.drop (0 : Nat) [(↑(i.1) : Int)])))) * (8 : Nat) ≤ (140737488355328 : Nat)) ∧ ∀ (L_1 : Nat), (∃ i_1 : WalkI, MkI (Int.toNat (↑(i.1) : Int)) (i_1.1) ∧ ((Value.func (Fn.yield L_1) #[] #[] = Value.func (Fn.yield L_1) #[] #[] ∧ (0 : Nat) = (0 : Nat) ∧ (0 : Nat) = (0 : Nat) ∧ wrap i64 ((↑(i.1) : Int) * (↑(i.1) : Int)) = (↑(i_1.1) : Int) ∧ True) ∧ (L + (1 : Nat) = L + (1 : Nat) ∧ LeFun (L + (1 : Nat)) (rowB (cmpS (i.1))) (rowB (cmpK (Int.toNat (↑(i.1) : Int)) (i_1.1)))) ∧ ((0 : Nat) = (0 : Nat) ∧ L + (1 : Nat) = L + (1 : Nat)) ∧ List.take (List.length (outP (i.1))) (outP (i.1)) ++ List.take (1 : Nat) (List.drop (0 : Nat) [(↑(i.1) : Int)]) = List.take (List.length (outP (i.1))) (outP (i.1)) ++ List.take (1 : Nat) (List.drop (0 : Nat) [(↑(i.1) : Int)]) ∧ [(↑(i.1) : Int)] = [(↑(i.1) : Int)] ∧ (↑(i.1) : Int) = (↑(i.1) : Int) ∧ (↑L : Int) = (↑L : Int) ∧ True) ∧ True) ∧ ∀ (i_1 : WalkI), MkI (Int.toNat (↑(i.1) : Int)) (i_1.1) → bif decide ((↑(i_1.1) : Int) ≤ (↑L : Int)) then L_1 = L_1 ∧ ((0 : Int) ≤ (↑(i_1.1) : Int) ∧ (↑(i_1.1) : Int) < (↑(L + (1 : Nat)) : Int)) ∧ Int.toNat (↑(i_1.1) : Int) < L + (1 : Nat) ∧ ∃ j : WalkI, MkI (Int.toNat (↑(i.1) : Int)) (j.1) ∧ ((Value.func (Fn.yield L_1) #[] #[] = Value.func (Fn.yield L_1) #[] #[] ∧ (0 : Nat) = (0 : Nat) ∧ (0 : Nat) = (0 : Nat) ∧ wrap i64 ((↑(i_1.1) : Int) + (↑(i.1) : Int)) = (↑(j.1) : Int) ∧ True) ∧ (L + (1 : Nat) = L + (1 : Nat) ∧ LeFun (L + (1 : Nat)) (fun j => bif Nat.beq j (Int.toNat (↑(i_1.1) : Int)) then MV.bool true else rowB (cmpK (Int.toNat (↑(i.1) : Int)) (i_1.1)) j) (rowB (cmpK (Int.toNat (↑(i.1) : Int)) (j.1)))) ∧ ((0 : Nat) = (0 : Nat) ∧ L + (1 : Nat) = L + (1 : Nat)) ∧ List.take (List.length (outP (i.1))) (outP (i.1)) ++ List.take (1 : Nat) (List.drop (0 : Nat) [(↑(i.1) : Int)]) = List.take (List.length (outP (i.1))) (outP (i.1)) ++ List.take (1 : Nat) (List.drop (0 : Nat) [(↑(i.1) : Int)]) ∧ [(↑(i.1) : Int)] = [(↑(i.1) : Int)] ∧ (↑(i.1) : Int) = (↑(i.1) : Int) ∧ (↑L : Int) = (↑L : Int) ∧ True) ∧ True ∧ L + Int.toNat (↑(i.1) : Int) - j.1 < L + Int.toNat (↑(i.1) : Int) - i_1.1 else ∃ j : WalkI, ((2 : Nat) ≤ j.1 ∧ (j.1 ≤ L + (1 : Nat) ∨ j.1 = (2 : Nat))) ∧ (((↑L : Int) = (↑L : Int) ∧ (0 : Nat) = (0 : Nat) ∧ ((0 : Nat) = (0 : Nat) ∧ List.length (outP (i.1)) + News.len (News.ints i64 (List.take (1 : Nat) (List.drop (0 : Nat) [(↑(i.1) : Int)]))) = List.length (outP (j.1))) ∧ wrap i64 ((↑(i.1) : Int) + (1 : Int)) = (↑(j.1) : Int) ∧ True) ∧ (L + (1 : Nat) = L + (1 : Nat) ∧ LeFun (L + (1 : Nat)) (rowB (cmpK (Int.toNat (↑(i.1) : Int)) (i_1.1))) (rowB (cmpS (j.1)))) ∧ ((0 : Nat) = (0 : Nat) ∧ L + (1 : Nat) = L + (1 : Nat)) ∧ List.take (List.length (outP (i.1))) (outP (i.1)) ++ List.take (1 : Nat) (List.drop (0 : Nat) [(↑(i.1) : Int)]) = outP (j.1) ∧ True) ∧ True ∧ L + (2 : Nat) - j.1 < L + (2 : Nat) - i.1 else (0 : Nat) + List.length (outP (i.1)) ≤ List.length (outP (i.1)) ∧ (1 : Nat) = (1 : Nat) ∧ List.length (outP (i.1)) = n ∧ LeFun (List.length (outP (i.1))) (fun j => MV.int i64 (List.getD (outP (i.1)) ((0 : Nat) + j) (0 : Int))) f) = evFnX (xe_sieve L) Tryd.f35 [.int .i64 L] (MRes.sat (.ret (.sl 1 n f))) := by kernel_rfl
theorem cmpS_iff : ∀ {p j : Nat}, cmpS p j = true ↔ ∃ d, 2 ≤ d ∧ d < p ∧ d * d ≤ j ∧ j % d = 0
 | 0, j => by simp [cmpS]
 | p + 1, j => by
  simp only [cmpS, Bool.or_eq_true, Bool.and_eq_true, Nat.ble_eq, Nat.beq_eq, cmpS_iff (p := p)]
  constructor
  ·rintro (⟨d, h1, h2, h3⟩ | ⟨h1, h2, h3⟩)
   ·exact ⟨d, h1, by omega, h3⟩
   ·exact ⟨p, h1, by omega, h2, h3⟩
  ·rintro ⟨d, h1, h2, h3, h4⟩
   rcases Nat.lt_or_ge d p with q | q
   ·exact .inl ⟨d, h1, q, h3, h4⟩
   ·obtain rfl : d = p := by omega
    exact .inr ⟨h1, h3, h4⟩
theorem boolEq {a b : Bool} (h : a = true ↔ b = true) : a = b := by
 cases a <;> cases b <;> simp_all
theorem cmp_skip {p : Nat} (h : cmpS p p = true) (j : Nat) : cmpS p j = cmpS (p + 1) j := by
 refine boolEq (cmpS_iff.trans (Iff.trans ?_ cmpS_iff.symm))
 obtain ⟨d, h1, h2, h3, h4⟩ := cmpS_iff.1 h
 constructor
 ·rintro ⟨e, k1, k2, k3⟩; exact ⟨e, k1, by omega, k3⟩
 ·rintro ⟨e, k1, k2, k3, k4⟩
  rcases Nat.lt_or_ge e p with q | q
  ·exact ⟨e, k1, q, k3, k4⟩
  ·obtain rfl : e = p := by omega
   have hle : e * 1 ≤ e * e := Nat.mul_le_mul_left _ (by omega)
   exact ⟨d, h1, h2, by omega, Nat.mod_eq_zero_of_dvd (Nat.dvd_trans (Nat.dvd_of_mod_eq_zero h4) (Nat.dvd_of_mod_eq_zero k4))⟩
theorem cmpK_iff {p k j : Nat} : cmpK p k j = true ↔ cmpS p j = true ∨ (p * p ≤ j ∧ j < k ∧ j % p = 0) := by
 simp only [cmpK, Bool.or_eq_true, Bool.and_eq_true, Nat.ble_eq, Nat.blt_eq, Nat.beq_eq]
theorem cmpK_start (p j : Nat) : cmpS p j = cmpK p (p * p) j := boolEq (Iff.trans ⟨.inl, fun h => h.elim id (fun h => by omega)⟩ cmpK_iff.symm)
theorem cmpK_step {p k j : Nat} (hp : 0 < p) (hk : k % p = 0) (hl : p * p ≤ k) : (Nat.beq j k || cmpK p k j) = cmpK p (k + p) j := by
 refine boolEq (Iff.trans ?_ cmpK_iff.symm)
 rw [Bool.or_eq_true, Nat.beq_eq, cmpK_iff]
 constructor
 ·rintro (rfl | h | ⟨h1, h2, h3⟩)
  ·exact .inr ⟨hl, by omega, hk⟩
  ·exact .inl h
  ·exact .inr ⟨h1, by omega, h3⟩
 ·rintro (h | ⟨h1, h2, h3⟩)
  ·exact .inr (.inl h)
  ·rcases Nat.lt_or_ge j k with q | q
   ·exact .inr (.inr ⟨h1, q, h3⟩)
   ·refine .inl ?_
    obtain ⟨a, ha⟩ := Nat.dvd_of_mod_eq_zero h3
    obtain ⟨b, hb⟩ := Nat.dvd_of_mod_eq_zero hk
    have h4 : p * a < p * (b + 1) := by rw [Nat.mul_add, Nat.mul_one]; omega
    have h5 : p * b ≤ p * a := by omega
    have h6 := Nat.lt_of_mul_lt_mul_left h4
    have h7 := Nat.le_of_mul_le_mul_left h5 hp
    have : a = b := by omega
    rw [ha, hb, this]
theorem cmpK_end {p k j : Nat} (hp : 2 ≤ p) (hj : j < k) : cmpK p k j = cmpS (p + 1) j := by
 refine boolEq (cmpK_iff.trans ?_)
 simp only [cmpS, Bool.or_eq_true, Bool.and_eq_true, Nat.ble_eq, Nat.beq_eq]
 constructor
 ·rintro (h | ⟨h1, _, h3⟩)
  ·exact .inl h
  ·exact .inr ⟨hp, h1, h3⟩
 ·rintro (h | ⟨_, h1, h3⟩)
  ·exact .inl h
  ·exact .inr ⟨h1, hj, h3⟩
theorem out_skip {p : Nat} (h : cmpS p p = true) : outP p = outP (p + 1) := by
 rw [outP, h]
 simp
theorem out_add {p : Nat} (hp : 2 ≤ p) (h : cmpS p p = false) : outP p ++ [(p : Int)] = outP (p + 1) := by
 rw [outP, h, show Nat.ble 2 p = true by rw [Nat.ble_eq]; exact hp]
 rfl
theorem outP_len : ∀ p, (outP p).length ≤ p
 | 0 => Nat.le_refl _
 | p + 1 => by
  have := outP_len p
  rw [outP, List.length_append]
  cases Nat.ble 2 p && !(cmpS p p) <;> simp <;> omega
def primL (L : Nat) : List Int := outP (L + 1)
def intR (l : List Int) : Nat → MV := fun i => .int .i64 (l.getD i 0)
theorem rowB_le {len : Nat} {g f : Nat → Bool} (h : ∀ j, j < len → g j = f j) : LeFun len (rowB g) (rowB f) := ⟨fun i hi c w cs r => by
 have : rowB g i = rowB f i := congrArg MV.bool (h i hi)
 rw [this] at r
 exact r⟩
def s_sieve : FSpec
 | [.int .i64 L] => some (some (0 ≤ L ∧ L ≤ 1048576), .ret (.sl 1 (primL L.toNat).length (intR (primL L.toNat))))
 | _ => none
theorem p_sieve : GoodX Tryd.f35 s_sieve := by
 intro ms p r h hp hf
 unfold s_sieve at h
 split at h
 ·rename_i L0
  simp only [Option.some.injEq, Prod.mk.injEq] at h
  obtain ⟨rfl, rfl⟩ := h
  obtain ⟨hL0, hL1⟩ : 0 ≤ L0 ∧ L0 ≤ 1048576 := hp
  obtain ⟨L, rfl⟩ : ∃ n : Nat, L0 = n := ⟨L0.toNat, by omega⟩
  rw [Int.toNat_natCast]
  refine ⟨xe_sieve L, ?_, allOk_none rfl _⟩
  rw [← vc_sieve L (intR (primL L)) (primL L).length]
  have e0 : wrap i64 ((L : Int) + 1) = ((L + 1 : Nat) : Int) := by rw [i64w (by omega) (by omega)]; omega
  rw [e0, Int.toNat_natCast]
  refine ⟨⟨by omega, rfl, by omega⟩, ⟨⟨2⟩, ⟨Nat.le_refl _, .inr rfl⟩, ⟨⟨rfl, rfl, ⟨rfl, rfl, rfl⟩, rfl, True.intro⟩, ⟨rfl, ⟨fun i hi c w cs r => r⟩⟩, ⟨rfl, rfl⟩, True.intro⟩, True.intro⟩, fun i hi => ?_⟩
  obtain ⟨p⟩ := i
  obtain ⟨h2, hl⟩ : 2 ≤ p ∧ (p ≤ L + 1 ∨ p = 2) := hi
  have hol := outP_len p
  dsimp only
  rw [Int.toNat_natCast, List.take_length]
  refine condI decide_eq_true_iff (fun q => ?_) (fun q => ?_)
  ·have e1 : wrap i64 ((p : Int) + 1) = ((p + 1 : Nat) : Int) := by rw [i64w (by omega) (by omega)]; omega
   have hpp : p * p ≤ 1048576 * 1048576 := Nat.mul_le_mul (by omega) (by omega)
   refine ⟨⟨by omega, by omega⟩, by omega, condI Iff.rfl (fun q2 => ?_) (fun q2 => ?_)⟩
   ·rw [e1]
    exact ⟨⟨p + 1⟩, ⟨by show 2 ≤ p + 1; omega, .inl (by show p + 1 ≤ L + 1; omega)⟩, ⟨⟨rfl, rfl, ⟨rfl, by rw [out_skip q2]⟩, rfl, True.intro⟩, ⟨rfl, rowB_le fun j _ => cmp_skip q2 j⟩, ⟨rfl, rfl⟩, out_skip q2, True.intro⟩, True.intro, by show L + 2 - (p + 1) < L + 2 - p; omega⟩
   ·have q2 : cmpS p p = false := by simpa using q2
    have e2 : wrap i64 ((p : Int) * (p : Int)) = ((p * p : Nat) : Int) := by
     rw [← Int.natCast_mul, i64w (by omega) (by omega)]
    rw [e2]
    refine ⟨⟨by omega, by omega, by show ((outP p).length + 1) * 8 ≤ _; omega⟩, fun L1 => ⟨⟨⟨p * p⟩, ⟨Nat.mul_mod_left p p, Nat.le_refl _⟩, ⟨⟨rfl, rfl, rfl, rfl, True.intro⟩, ⟨rfl, rowB_le fun j _ => cmpK_start p j⟩, ⟨rfl, rfl⟩, rfl, rfl, rfl, rfl, True.intro⟩, True.intro⟩, fun k K => ?_⟩⟩
    obtain ⟨k⟩ := k
    have kd := K.d
    have kl := K.l
    dsimp only at kd kl ⊢
    rw [Int.toNat_natCast]
    refine condI decide_eq_true_iff (fun q3 => ?_) (fun q3 => ?_)
    ·have e3 : wrap i64 ((k : Int) + (p : Int)) = ((k + p : Nat) : Int) := by rw [i64w (by omega) (by omega)]; omega
     rw [e3]
     refine ⟨rfl, ⟨by omega, by omega⟩, by omega, ⟨k + p⟩, ⟨by show (k + p) % p = 0; rw [Nat.add_mod_right]; exact kd, by show p * p ≤ k + p; omega⟩, ⟨⟨rfl, rfl, rfl, rfl, True.intro⟩, ⟨rfl, ⟨fun j hj c w cs r => ?_⟩⟩, ⟨rfl, rfl⟩, rfl, rfl, rfl, rfl, True.intro⟩, True.intro, by show L + p - (k + p) < L + p - k; omega⟩
     have e4 := cmpK_step (j := j) (by omega) kd kl
     show RepC c w (.bool (cmpK p (k + p) j)) cs
     rw [← e4]
     cases hb : Nat.beq j k with
     | true => rw [hb] at r; exact r
     | false => rw [hb] at r; rw [Bool.false_or]; exact r
    ·rw [e1]
     exact ⟨⟨p + 1⟩, ⟨by show 2 ≤ p + 1; omega, .inl (by show p + 1 ≤ L + 1; omega)⟩, ⟨⟨rfl, rfl, ⟨rfl, by rw [← out_add h2 q2, List.length_append]; rfl⟩, rfl, True.intro⟩, ⟨rfl, rowB_le fun j hj => cmpK_end h2 (by omega)⟩, ⟨rfl, rfl⟩, out_add h2 q2, True.intro⟩, True.intro, by show L + 2 - (p + 1) < L + 2 - p; omega⟩
  ·have hL : outP p = primL L := by
    unfold primL
    rcases (show p = L + 1 ∨ p = L + 2 ∧ L = 0 by omega) with e | ⟨e, e2⟩
    ·rw [e]
    ·subst e2
     rw [e]; rfl
   rw [← hL]
   exact ⟨by omega, rfl, rfl, ⟨fun i hi c w cs r => by rw [Nat.zero_add] at r; exact r⟩⟩
 ·simp at h
noncomputable def c_sieve : Ctr Tryd.prog := ⟨35, s_sieve, fun args w => Tryd.call35 args w, fnX_ok_facts Tryd.func35 s_sieve p_sieve⟩
end Go.Proofs.YtmjklcpdfmgcaaaDoor
/-
 Contracts of functions: prime.Small, prime.Next at small numbers; the examples of chapter 04.
-/
namespace Go.Proofs.YtmjklcpdfmgcaaaDoor
open Go Go.RowKit
open Go.IntKind (wrap i64 i32 i16 i8 u64 u32 u16 u8)
def smL (n : Int) : List Int := if n > 1048576 then [] else primL n.toNat
def smE (n : Int) : Int := if n > 1048576 then 2 else 0
theorem vc_sml4 (n : Int) (k : Nat) (f : Nat → MV) (e : Int) : (bif decide (n > (1048576 : Int)) then (Value.slice none (0 : Nat) (0 : Nat) = Value.slice none (0 : Nat) (0 : Nat) ∧ k = (0 : Nat)) ∧ (2 : Int) = e ∧ True else ((0 : Int) ≤ maxI n (0 : Int) ∧ maxI n (0 : Int) ≤ (1048576 : Int)) ∧ ((1 : Nat) = (1 : Nat) ∧ List.length (primL (Int.toNat (maxI n (0 : Int)))) = k ∧ LeFun (List.length (primL (Int.toNat (maxI n (0 : Int))))) (intR (primL (Int.toNat (maxI n (0 : Int))))) f) ∧ (0 : Int) = e ∧ True) = evFn (env [c_sieve] noAnn) Tryd.f14 [.int .i64 n] (MRes.sat (.ret (.tup [.sl 1 k f, .int .i64 e]))) := by kernel_rfl
def s_sml4 : FSpec
 | [.int .i64 n] => some (none, .ret (.tup [.sl 1 (smL n).length (intR (smL n)), .int .i64 (smE n)]))
 | _ => none
theorem p_sml4 : Good Tryd.f14 s_sml4 := by
 intro ms p r h hp
 unfold s_sml4 at h
 split at h
 ·rename_i n
  simp only [Option.some.injEq, Prod.mk.injEq] at h
  obtain ⟨rfl, rfl⟩ := h
  refine ⟨env [c_sieve] noAnn, ?_⟩
  rw [← vc_sml4 n (smL n).length (intR (smL n)) (smE n)]
  unfold smL smE
  refine condI decide_eq_true_iff (fun q => ?_) (fun q => ?_)
  ·rw [if_pos q, if_pos q]
   exact ⟨⟨rfl, rfl⟩, rfl, True.intro⟩
  ·rw [if_neg q, if_neg q]
   have em : 0 ≤ maxI n 0 ∧ maxI n 0 ≤ 1048576 ∧ (maxI n 0).toNat = n.toNat := by
    unfold maxI
    split <;> omega
   rw [em.2.2]
   exact ⟨⟨em.1, em.2.1⟩, ⟨rfl, rfl, LeFun.refl⟩, rfl, True.intro⟩
 ·simp at h
def c_sml4 : Ctr Tryd.prog := ⟨14, s_sml4, fun args w => Tryd.call14 args w, fn_ok mix Tryd.func14 s_sml4 p_sml4⟩
def mvI : MV → Int
 | .int _ z => z
 | _ => 0
structure isI (m : MV) : Prop where
 h : m = .int .i64 (mvI m)
def ivals (n : Nat) (f : Nat → MV) : List Int := (List.range n).map fun i => mvI (f i)
theorem isI_intR (l : List Int) (i : Nat) : isI (intR l i) := ⟨rfl⟩
theorem ivals_le {n : Nat} {f : Nat → MV} (h : ∀ i, i < n → isI (f i)) : LeFun n f (intR (ivals n f)) := ⟨fun i hi c w cs r => by
 have e : intR (ivals n f) i = f i := by
  rw [(h i hi).h]
  simp [intR, ivals, hi, mvI]
 rw [e]; exact r⟩
def a_same4 (a b : List Int) : Nat → MS → Option LoopAnn
 | 4, _ => some (.inv WalkI (fun i => i.i ≤ a.length ∧ a.take i.i = b.take i.i) (fun i => ⟨26, [(0, .sl 1 a.length (intR a)), (1, .sl 1 b.length (intR b)), (5, .int .i64 i.i)], [], 0⟩) (fun i => a.length - i.i))
 | _, _ => none
theorem vc_same4 (a b : List Int) (T : Bool) : (bif (↑(List.length a) : Int) != (↑(List.length b) : Int) then false = T else (∃ i : WalkI, (i.1 ≤ List.length a ∧ List.take (i.1) a = List.take (i.1) b) ∧ (((1 : Nat) = (1 : Nat) ∧ List.length a = List.length a ∧ LeFun (List.length a) (intR a) (intR a)) ∧ ((1 : Nat) = (1 : Nat) ∧ List.length b = List.length b ∧ LeFun (List.length b) (intR b) (intR b)) ∧ (0 : Int) = (↑(i.1) : Int) ∧ True) ∧ True) ∧ ∀ (i : WalkI), i.1 ≤ List.length a ∧ List.take (i.1) a = List.take (i.1) b → bif decide ((↑(i.1) : Int) < (↑(List.length a) : Int)) then ((0 : Int) ≤ (↑(i.1) : Int) ∧ (↑(i.1) : Int) < (↑(List.length a) : Int)) ∧ ((0 : Int) ≤ (↑(i.1) : Int) ∧ (↑(i.1) : Int) < (↑(List.length b) : Int)) ∧ bif List.getD a (Int.toNat (↑(i.1) : Int)) (0 : Int) != List.getD b (Int.toNat (↑(i.1) : Int)) (0 : Int) then false = T else ∃ j : WalkI, (j.1 ≤ List.length a ∧ List.take (j.1) a = List.take (j.1) b) ∧ ((((1 : Nat) = (1 : Nat) ∧ List.length a = List.length a ∧ LeFun (List.length a) (intR a) (intR a)) ∧ ((1 : Nat) = (1 : Nat) ∧ List.length b = List.length b ∧ LeFun (List.length b) (intR b) (intR b)) ∧ wrap i64 ((↑(i.1) : Int) + (1 : Int)) = (↑(j.1) : Int) ∧ True) ∧ True) ∧ List.length a - j.1 < List.length a - i.1 else true = T) = evFn (env [] (a_same4 a b)) Tryd.f19 [.sl 1 a.length (intR a), .sl 1 b.length (intR b)] (MRes.sat (.ret (.bool T))) := by kernel_rfl
theorem same4_ok (a b : List Int) (ha : a.length ≤ 1000000) : ∃ E : Env Tryd.prog, evFn E Tryd.f19 [.sl 1 a.length (intR a), .sl 1 b.length (intR b)] (MRes.sat (.ret (.bool (decide (a = b))))) := by
 refine ⟨env [] (a_same4 a b), ?_⟩
 rw [← vc_same4 a b (decide (a = b))]
 refine condI bne_iff_ne (fun q => (decide_eq_false (fun e => q (by rw [e]))).symm) (fun q => ⟨⟨⟨0⟩, ⟨Nat.zero_le _, rfl⟩, ?_⟩, fun i hi => ?_⟩)
 ·and_intros <;> first | exact True.intro | rfl | exact LeFun.refl
 obtain ⟨i⟩ := i
 obtain ⟨h1, h2⟩ : i ≤ a.length ∧ a.take i = b.take i := hi
 dsimp only
 rw [Int.toNat_natCast]
 refine condI decide_eq_true_iff (fun q2 => ?_) (fun q2 => ?_)
 ·have e5 : wrap i64 ((i : Int) + 1) = ((i + 1 : Nat) : Int) := by rw [i64w (by omega) (by omega)]; omega
  have ga : a.getD i 0 = a[i]'(by omega) := by simp [show i < a.length by omega]
  have gb : b.getD i 0 = b[i]'(by omega) := by simp [show i < b.length by omega]
  rw [e5, ga, gb]
  refine ⟨by omega, by omega, condI bne_iff_ne (fun q3 => (decide_eq_false (fun e => q3 (by subst e; rfl))).symm) (fun q3 => ⟨⟨i + 1⟩, ⟨by show i + 1 ≤ a.length; omega, ?_⟩, ?_, by show a.length - (i + 1) < a.length - i; omega⟩)⟩
  ·show a.take (i + 1) = b.take (i + 1)
   rw [List.take_add_one, List.take_add_one, h2, List.getElem?_eq_getElem (by omega), List.getElem?_eq_getElem (by omega), Decidable.not_not.1 q3]
  ·and_intros <;> first | exact True.intro | rfl | exact LeFun.refl
 ·have e : i = a.length := by omega
  have e2 : i = b.length := by omega
  have : a = b := by rw [← List.take_length (l := a), ← List.take_length (l := b), ← e, ← e2]; exact h2
  exact (decide_eq_true this).symm
def s_same4 : FSpec
 | [.sl 1 n f, .sl 1 m g] => some (some ((∀ i, i < n → isI (f i)) ∧ (∀ i, i < m → isI (g i)) ∧ n ≤ 1000000), .ret (.bool (decide (ivals n f = ivals m g))))
 | _ => none
theorem p_same4 : ∀ ms p r, s_same4 ms = some (p, r) → p.holds → ∃ ms', leV.leVs 0 ms ms' ∧ ∃ E : Env Tryd.prog, evFn E Tryd.f19 ms' r.sat := by
 intro ms p r h hp
 unfold s_same4 at h
 split at h
 ·rename_i n f m g
  simp only [Option.some.injEq, Prod.mk.injEq] at h
  obtain ⟨rfl, rfl⟩ := h
  obtain ⟨h1, h2, h3⟩ : (∀ i, i < n → isI (f i)) ∧ (∀ i, i < m → isI (g i)) ∧ n ≤ 1000000 := hp
  have l1 : (ivals n f).length = n := by simp [ivals]
  have l2 : (ivals m g).length = m := by simp [ivals]
  exact ⟨[.sl 1 (ivals n f).length (intR (ivals n f)), .sl 1 (ivals m g).length (intR (ivals m g))], ⟨⟨rfl, l1.symm, ivals_le h1⟩, ⟨rfl, l2.symm, ivals_le h2⟩, True.intro⟩, same4_ok _ _ (by omega)⟩
 ·simp at h
def c_same4 : Ctr Tryd.prog := ⟨19, s_same4, fun args w => Tryd.call19 args w, fn_ok_le mix Tryd.func19 s_same4 p_same4⟩
def a_next (k : Nat) : Nat → MS → Option LoopAnn
 | 7, _ => some (.unroll k)
 | _, _ => none
theorem vc_nextn (z : Int) (n : Nat) : (bif decide (z < (0 : Int)) then ((-9223372036854775808 : Int) ≤ (2 : Int) ∧ (2 : Int) ≤ (9223372036854775807 : Int)) ∧ ((2 : Int) = (2 : Int) ∧ ((64 : Nat) ≤ (70 : Nat) ∨ Int.natAbs (2 : Int) < (2 : Nat) ^ (70 : Nat))) ∧ (0 : Int) = (0 : Int) ∧ True else bif !decide ((0 : Int) ≤ z ∧ z < (18446744073709551616 : Int)) then ((0 : Int) = (2 : Int) ∧ ((0 : Nat) ≤ (70 : Nat) ∨ Int.natAbs (0 : Int) < (2 : Nat) ^ (70 : Nat))) ∧ (2 : Int) = (0 : Int) ∧ True else (0 : Int) ≤ (63 : Int) ∧ bif decide (Int.fdiv ((↑(Int.natAbs z) : Int) % (18446744073709551616 : Int)) ((2 : Int) ^ min (Int.toNat (63 : Int)) (IntKind.bits u64)) > (0 : Int)) then ((0 : Int) = (2 : Int) ∧ ((0 : Nat) ≤ (70 : Nat) ∨ Int.natAbs (0 : Int) < (2 : Nat) ^ (70 : Nat))) ∧ (2 : Int) = (0 : Int) ∧ True else False) = evFn (env [c_word, c_ppr, c_iof, c_iadd] (a_next 0)) Tryd.f18 [.big z n] (MRes.sat (.ret (.tup [.big 2 70, .int .i64 0]))) := by kernel_rfl
theorem vc_next7 (n : Nat) : ((0 : Int) ≤ (63 : Int) ∧ ((0 : Int) ≤ wrap u64 ((↑(Int.natAbs (7 : Int)) : Int) % (18446744073709551616 : Int) + (1 : Int)) ∧ wrap u64 ((↑(Int.natAbs (7 : Int)) : Int) % (18446744073709551616 : Int) + (1 : Int)) < (18446744073709551616 : Int)) ∧ ((0 : Int) ≤ wrap u64 (wrap u64 ((↑(Int.natAbs (7 : Int)) : Int) % (18446744073709551616 : Int) + (1 : Int)) + (1 : Int)) ∧ wrap u64 (wrap u64 ((↑(Int.natAbs (7 : Int)) : Int) % (18446744073709551616 : Int) + (1 : Int)) + (1 : Int)) < (18446744073709551616 : Int)) ∧ ((0 : Int) ≤ wrap u64 (wrap u64 (wrap u64 ((↑(Int.natAbs (7 : Int)) : Int) % (18446744073709551616 : Int) + (1 : Int)) + (1 : Int)) + (1 : Int)) ∧ wrap u64 (wrap u64 (wrap u64 ((↑(Int.natAbs (7 : Int)) : Int) % (18446744073709551616 : Int) + (1 : Int)) + (1 : Int)) + (1 : Int)) < (18446744073709551616 : Int)) ∧ ((0 : Int) ≤ wrap u64 (wrap u64 (wrap u64 (wrap u64 ((↑(Int.natAbs (7 : Int)) : Int) % (18446744073709551616 : Int) + (1 : Int)) + (1 : Int)) + (1 : Int)) + (1 : Int)) ∧ wrap u64 (wrap u64 (wrap u64 (wrap u64 ((↑(Int.natAbs (7 : Int)) : Int) % (18446744073709551616 : Int) + (1 : Int)) + (1 : Int)) + (1 : Int)) + (1 : Int)) < (18446744073709551616 : Int)) ∧ (0 : Int) ≤ (1 : Int) ∧ ((-9223372036854775808 : Int) ≤ wrap i64 (Int.fdiv (wrap u64 (wrap u64 (wrap u64 (wrap u64 ((↑(Int.natAbs (7 : Int)) : Int) % (18446744073709551616 : Int) + (1 : Int)) + (1 : Int)) + (1 : Int)) + (1 : Int))) ((2 : Int) ^ min (Int.toNat (1 : Int)) (IntKind.bits u64))) ∧ wrap i64 (Int.fdiv (wrap u64 (wrap u64 (wrap u64 (wrap u64 ((↑(Int.natAbs (7 : Int)) : Int) % (18446744073709551616 : Int) + (1 : Int)) + (1 : Int)) + (1 : Int)) + (1 : Int))) ((2 : Int) ^ min (Int.toNat (1 : Int)) (IntKind.bits u64))) ≤ (9223372036854775807 : Int)) ∧ (0 : Int) ≤ (1 : Int) ∧ ((-9223372036854775808 : Int) ≤ wrap i64 (wrap u64 (wrap u64 (wrap u64 (wrap u64 (wrap u64 ((↑(Int.natAbs (7 : Int)) : Int) % (18446744073709551616 : Int) + (1 : Int)) + (1 : Int)) + (1 : Int)) + (1 : Int)) - Int.fdiv (wrap u64 (wrap u64 (wrap u64 (wrap u64 ((↑(Int.natAbs (7 : Int)) : Int) % (18446744073709551616 : Int) + (1 : Int)) + (1 : Int)) + (1 : Int)) + (1 : Int))) ((2 : Int) ^ min (Int.toNat (1 : Int)) (IntKind.bits u64)))) ∧ wrap i64 (wrap u64 (wrap u64 (wrap u64 (wrap u64 (wrap u64 ((↑(Int.natAbs (7 : Int)) : Int) % (18446744073709551616 : Int) + (1 : Int)) + (1 : Int)) + (1 : Int)) + (1 : Int)) - Int.fdiv (wrap u64 (wrap u64 (wrap u64 (wrap u64 ((↑(Int.natAbs (7 : Int)) : Int) % (18446744073709551616 : Int) + (1 : Int)) + (1 : Int)) + (1 : Int)) + (1 : Int))) ((2 : Int) ^ min (Int.toNat (1 : Int)) (IntKind.bits u64)))) ≤ (9223372036854775807 : Int)) ∧ ((64 : Nat) ≤ (1000000 : Nat) ∧ (64 : Nat) ≤ (1000000 : Nat)) ∧ (wrap i64 (Int.fdiv (wrap u64 (wrap u64 (wrap u64 (wrap u64 ((↑(Int.natAbs (7 : Int)) : Int) % (18446744073709551616 : Int) + (1 : Int)) + (1 : Int)) + (1 : Int)) + (1 : Int))) ((2 : Int) ^ min (Int.toNat (1 : Int)) (IntKind.bits u64))) + wrap i64 (wrap u64 (wrap u64 (wrap u64 (wrap u64 (wrap u64 ((↑(Int.natAbs (7 : Int)) : Int) % (18446744073709551616 : Int) + (1 : Int)) + (1 : Int)) + (1 : Int)) + (1 : Int)) - Int.fdiv (wrap u64 (wrap u64 (wrap u64 (wrap u64 ((↑(Int.natAbs (7 : Int)) : Int) % (18446744073709551616 : Int) + (1 : Int)) + (1 : Int)) + (1 : Int)) + (1 : Int))) ((2 : Int) ^ min (Int.toNat (1 : Int)) (IntKind.bits u64)))) = (11 : Int) ∧ (max (64 : Nat) (64 : Nat) + (1 : Nat) ≤ (70 : Nat) ∨ Int.natAbs (wrap i64 (Int.fdiv (wrap u64 (wrap u64 (wrap u64 (wrap u64 ((↑(Int.natAbs (7 : Int)) : Int) % (18446744073709551616 : Int) + (1 : Int)) + (1 : Int)) + (1 : Int)) + (1 : Int))) ((2 : Int) ^ min (Int.toNat (1 : Int)) (IntKind.bits u64))) + wrap i64 (wrap u64 (wrap u64 (wrap u64 (wrap u64 (wrap u64 ((↑(Int.natAbs (7 : Int)) : Int) % (18446744073709551616 : Int) + (1 : Int)) + (1 : Int)) + (1 : Int)) + (1 : Int)) - Int.fdiv (wrap u64 (wrap u64 (wrap u64 (wrap u64 ((↑(Int.natAbs (7 : Int)) : Int) % (18446744073709551616 : Int) + (1 : Int)) + (1 : Int)) + (1 : Int)) + (1 : Int))) ((2 : Int) ^ min (Int.toNat (1 : Int)) (IntKind.bits u64))))) < (2 : Nat) ^ (70 : Nat))) ∧ (0 : Int) = (0 : Int) ∧ True) = evFn (env [c_word, c_ppr, c_iof, c_iadd] (a_next 6)) Tryd.f18 [.big 7 n] (MRes.sat (.ret (.tup [.big 11 70, .int .i64 0]))) := by kernel_rfl
def s_next4 : FSpec
 | [.big z _] => some (some (z = 7 ∨ z < 0), .ret (.tup [.big (if z = 7 then 11 else 2) 70, .int .i64 0]))
 | _ => none
theorem p_next4 : Good Tryd.f18 s_next4 := by
 intro ms p r h hp
 unfold s_next4 at h
 split at h
 ·rename_i z n
  simp only [Option.some.injEq, Prod.mk.injEq] at h
  obtain ⟨rfl, rfl⟩ := h
  rcases (hp : z = 7 ∨ z < 0) with rfl | hz
  ·rw [if_pos rfl]
   refine ⟨env [c_word, c_ppr, c_iof, c_iadd] (a_next 6), ?_⟩
   rw [← vc_next7 n]
   and_intros <;> first | exact True.intro | rfl | decide +kernel
  ·rw [if_neg (by omega)]
   refine ⟨env [c_word, c_ppr, c_iof, c_iadd] (a_next 0), ?_⟩
   rw [← vc_nextn z n]
   exact condT (decide_eq_true hz) ⟨by omega, ⟨rfl, .inl (by omega)⟩, rfl, True.intro⟩
 ·simp at h
def c_next4 : Ctr Tryd.prog := ⟨18, s_next4, fun args w => Tryd.call18 args w, fn_ok mix Tryd.func18 s_next4 p_next4⟩
theorem vc_lex4  : (((-9223372036854775808 : Int) ≤ (2047 : Int) ∧ (2047 : Int) ≤ (9223372036854775807 : Int)) ∧ ((64 : Nat) ≤ (128 : Nat) ∧ (-9223372036854775808 : Int) ≤ (2 : Int) ∧ (2 : Int) ≤ (9223372036854775807 : Int)) ∧ ((-9223372036854775808 : Int) ≤ (2047 : Int) ∧ (2047 : Int) ≤ (9223372036854775807 : Int)) ∧ ((64 : Nat) ≤ (128 : Nat) ∧ (-9223372036854775808 : Int) ≤ (3 : Int) ∧ (3 : Int) ≤ (9223372036854775807 : Int)) ∧ ((-9223372036854775808 : Int) ≤ (2047 : Int) ∧ (2047 : Int) ≤ (9223372036854775807 : Int)) ∧ (64 : Nat) ≤ (128 : Nat) ∧ ((-9223372036854775808 : Int) ≤ (2305843009213693951 : Int) ∧ (2305843009213693951 : Int) ≤ (9223372036854775807 : Int)) ∧ ((-9223372036854775808 : Int) ≤ (2305843009213693953 : Int) ∧ (2305843009213693953 : Int) ≤ (9223372036854775807 : Int)) ∧ ((-9223372036854775808 : Int) ≤ (7 : Int) ∧ (7 : Int) ≤ (9223372036854775807 : Int)) ∧ ((7 : Int) = (7 : Int) ∨ (7 : Int) < (0 : Int)) ∧ ((-9223372036854775808 : Int) ≤ (-5 : Int) ∧ (-5 : Int) ≤ (9223372036854775807 : Int)) ∧ ((-5 : Int) = (7 : Int) ∨ (-5 : Int) < (0 : Int)) ∧ ((-9223372036854775808 : Int) ≤ (11 : Int) ∧ (11 : Int) ≤ (9223372036854775807 : Int)) ∧ (64 : Nat) ≤ (128 : Nat) ∧ ((-9223372036854775808 : Int) ≤ (4 : Int) ∧ (4 : Int) ≤ (9223372036854775807 : Int)) ∧ ((64 : Nat) ≤ (128 : Nat) ∧ (-9223372036854775808 : Int) ≤ (3 : Int) ∧ (3 : Int) ≤ (9223372036854775807 : Int)) ∧ ((0 : Nat) + (4 : Nat) ≤ (4 : Nat) ∧ (∀ (i : Nat), i < (4 : Nat) → isI (intR (smL (10 : Int)) i)) ∧ (∀ (i : Nat), i < (4 : Nat) → isI (MV.int i64 (List.getD [(2 : Int), (3 : Int), (5 : Int), (7 : Int)] ((0 : Nat) + i) (0 : Int)))) ∧ (4 : Nat) ≤ (1000000 : Nat)) ∧ ((-9223372036854775808 : Int) ≤ (11 : Int) ∧ (11 : Int) ≤ (9223372036854775807 : Int)) ∧ ((70 : Nat) ≤ (1000000 : Nat) ∧ (64 : Nat) ≤ (1000000 : Nat)) ∧ ((-9223372036854775808 : Int) ≤ (2 : Int) ∧ (2 : Int) ≤ (9223372036854775807 : Int)) ∧ ((70 : Nat) ≤ (1000000 : Nat) ∧ (64 : Nat) ≤ (1000000 : Nat)) ∧ decide ((if (-5 : Int) = (7 : Int) then (11 : Int) else (2 : Int)) = (2 : Int)) = true) = evFn (env [c_sml4, c_rof, c_pstr, c_wit4, c_pis, c_next4, c_same4, c_rsame] noAnn) Tryd.f6 [] (MRes.sat (.ret (.bool true))) := by kernel_rfl
def s_lex4 : FSpec
 | [] => some (none, .ret (.bool true))
 | _ => none
theorem p_lex4 : Good Tryd.f6 s_lex4 := by
 intro ms p r h hp
 unfold s_lex4 at h
 split at h
 ·simp only [Option.some.injEq, Prod.mk.injEq] at h
  obtain ⟨rfl, rfl⟩ := h
  refine ⟨env [c_sml4, c_rof, c_pstr, c_wit4, c_pis, c_next4, c_same4, c_rsame] noAnn, ?_⟩
  rw [← vc_lex4]
  and_intros <;> first | exact True.intro | omega | exact fun i _ => isI_intR _ i | exact fun i _ => ⟨rfl⟩ | rfl
 ·simp at h
def c_lex4 : Ctr Tryd.prog := ⟨6, s_lex4, fun args w => Tryd.call6 args w, fn_ok mix Tryd.func6 s_lex4 p_lex4⟩
end Go.Proofs.YtmjklcpdfmgcaaaDoor
/-
 The frame of a law: what was read before the call is read behind it.
-/
namespace Go.Proofs.YtmjklcpdfmgcaaaDoor
open Go Go.RowKit
open Go.IntKind (wrap i64 i32 i16 i8 u64 u32 u16 u8)
theorem mapM_keep {α β : Type} {f g : α → Option β} : ∀ (l : List α) (xs : List β), l.mapM f = some xs → (∀ a x, f a = some x → x ∈ xs → g a = some x) → l.mapM g = some xs
 | [], xs, h, _ => h
 | a :: l, xs, h, hk => by
  simp only [List.mapM_cons, Option.bind_eq_bind, Option.pure_def, Option.bind_eq_some_iff, Option.some.injEq] at h ⊢
  obtain ⟨x, h1, ys, h2, rfl⟩ := h
  exact ⟨x, hk a x h1 (List.mem_cons_self ..), ys, mapM_keep l ys h2 fun b y hb hy => hk b y hb (List.mem_cons_of_mem _ hy), rfl⟩
theorem mapM_keep2 {α β : Type} {f g : α → Option β} : ∀ (l : List α) (xs : List β), l.mapM f = some xs → (∀ a ∈ l, ∀ x, f a = some x → x ∈ xs → g a = some x) → l.mapM g = some xs
 | [], xs, h, _ => h
 | a :: l, xs, h, hk => by
  simp only [List.mapM_cons, Option.bind_eq_bind, Option.pure_def, Option.bind_eq_some_iff, Option.some.injEq] at h ⊢
  obtain ⟨x, h1, ys, h2, rfl⟩ := h
  exact ⟨x, hk a (List.mem_cons_self ..) x h1 (List.mem_cons_self ..), ys, mapM_keep2 l ys h2 fun b hb y hy hm => hk b (List.mem_cons_of_mem _ hb) y hy (List.mem_cons_of_mem _ hm), rfl⟩
theorem cell_keep {w w' : World} (e : ∀ b, b < w.heap.size → w'.heap[b]? = w.heap[b]?) {a : Addr} {v : Value} (h : w.cell? a = some v) : w'.cell? a = some v := by
 have hlt : a.block < w.heap.size := by
  unfold World.cell? at h
  split at h
  ·rename_i h0; exact (Array.getElem?_eq_some_iff.1 h0).1
  ·simp at h
 unfold World.cell? at h ⊢
 rw [e _ hlt]; exact h
theorem cells_keep {w w' : World} (e : ∀ b, b < w.heap.size → w'.heap[b]? = w.heap[b]?) {base : Nat} {a : Addr} {n : Nat} {vs : List Value} (h : w.cells? base a n = some vs) : w'.cells? base a n = some vs := by
 unfold World.cells? at h ⊢
 split at h
 ·rename_i hb
  rw [if_pos hb]
  exact mapM_keep _ _ h fun i v hi _ => cell_keep e hi
 ·simp at h
section
variable {H : Type} {enc : TypeId × Value → H} {P : Program} {w w' : World}
def subOk (P : Program) (L : List Nat) (t : Nat) : Bool := match P.underlying t with
 | some (.pointer e) => L.elem e
 | some (.slice e) => L.elem e && (0).blt (P.cellsOf e)
 | some (.struct fs) => fs.toList.all fun f => L.elem f.type
 | some (.array _ e) => L.elem e
 | some (.interface _) => false
 | some (.map _ e) => L.elem e
 | _ => true
theorem trod_keep {L : List Nat} (hL : L.all (subOk P L) = true) (e : ∀ b, b < w.heap.size → w'.heap[b]? = w.heap[b]?) (sp : Nat → Bool) (held : Bool) :
  ∀ (fuel : Nat) (t : TypeId) (cs : List Value) (x : DataW H × List MemPlace), t ∈ L → DataW.trod enc P w 0 (fun _ => true) held fuel t cs = some x → (∀ p ∈ x.2, sp p.block = true) → DataW.trod enc P w' 0 sp held fuel t cs = some x
 | 0, _, _, _, _, h, _ => by simp [DataW.trod] at h
 | fuel + 1, t, cs, x, ht, h, hsp => by
  have ih := trod_keep hL e sp held fuel
  have hok := List.all_eq_true.1 hL t ht
  unfold subOk at hok
  unfold DataW.trod at h ⊢
  have el : ∀ (a : Addr) (n : Nat) (u : TypeId) (y : DataW H × List MemPlace), u ∈ L → (w.cells? 0 a n).bind (DataW.trod enc P w 0 (fun _ => true) held fuel u) = some y → (∀ p ∈ y.2, sp p.block = true) → (w'.cells? 0 a n).bind (DataW.trod enc P w' 0 sp held fuel u) = some y := by
   intro a n u y hu hy hs
   obtain ⟨vs, h1, h2⟩ := Option.bind_eq_some_iff.1 hy
   exact Option.bind_eq_some_iff.2 ⟨vs, cells_keep e h1, ih u vs y hu h2 hs⟩
  split at h
  case h_21 => simp at h
  case h_6 =>
   rename_i hu
   rw [hu] at hok
   obtain ⟨y, h1, rfl⟩ := Option.map_eq_some_iff.1 h
   exact Option.map_eq_some_iff.2 ⟨y, el _ _ _ _ (List.mem_of_elem_eq_true hok) h1 fun p hp => hsp p (List.mem_append_right _ hp), rfl⟩
  case h_8 =>
   rename_i ee a len cap hu
   rw [hu] at hok
   simp only [Bool.and_eq_true, Nat.blt_eq] at hok
   have hee := List.mem_of_elem_eq_true hok.1
   dsimp only at h ⊢
   split at h
   ·rename_i hc
    rw [if_pos hc]
    obtain ⟨elems, h1, h⟩ := Option.bind_eq_some_iff.1 h
    obtain ⟨rest, h2, rfl⟩ := Option.map_eq_some_iff.1 h
    rw [if_pos rfl] at h2
    have hsz := hok.2
    have q1 : ∀ y ∈ elems, ∀ p ∈ y.2, sp p.block = true := fun y hy p hp => hsp p (List.mem_append_right _ (List.mem_flatMap.2 ⟨y, List.mem_append_left _ hy, hp⟩))
    have q2 : ∀ y ∈ rest, ∀ p ∈ y.2, sp p.block = true := fun y hy p hp => hsp p (List.mem_append_right _ (List.mem_flatMap.2 ⟨y, List.mem_append_right _ hy, hp⟩))
    refine Option.bind_eq_some_iff.2 ⟨elems, mapM_keep _ _ h1 fun i y hi hy => el _ _ _ _ hee hi (q1 y hy), Option.map_eq_some_iff.2 ⟨rest, ?_, rfl⟩⟩
    by_cases h0 : rest = []
    ·subst h0
     have : cap - len = 0 := by
      rcases Nat.eq_zero_or_pos (cap - len) with h | h
      ·exact h
      ·obtain ⟨n, hn⟩ := Nat.exists_eq_succ_of_ne_zero (Nat.pos_iff_ne_zero.1 h)
       rw [hn, List.range_succ_eq_map] at h2
       simp [Option.bind_eq_some_iff] at h2
     rw [this]
     split <;> simp
    ·have hpos : 0 < (elems.length + rest.length) * P.cellsOf ee := Nat.mul_pos (by have := List.length_pos_iff.2 h0; omega) hsz
     have : sp a.block = true := hsp (.cell a.block (a.off + 0)) (List.mem_append_left _ (List.mem_map.2 ⟨0, List.mem_range.2 hpos, rfl⟩))
     rw [if_pos this]
     exact mapM_keep _ _ h2 fun i y hi hy => el _ _ _ _ hee hi (q2 y hy)
   ·simp at h
  case h_9 =>
   rename_i fs hu
   rw [hu] at hok
   split at h
   ·rename_i hc
    rw [if_pos hc]
    obtain ⟨xs, h1, rfl⟩ := Option.map_eq_some_iff.1 h
    exact Option.map_eq_some_iff.2 ⟨xs, mapM_keep2 _ _ h1 fun f hfm y hf hy => ih _ _ _ (List.mem_of_elem_eq_true (List.all_eq_true.1 hok f hfm)) hf fun p hp => hsp p (List.mem_flatMap.2 ⟨y, hy, hp⟩), rfl⟩
   ·simp at h
  case h_10 =>
   rename_i n ee hu
   rw [hu] at hok
   split at h
   ·rename_i hc
    rw [if_pos hc]
    obtain ⟨xs, h1, rfl⟩ := Option.map_eq_some_iff.1 h
    exact Option.map_eq_some_iff.2 ⟨xs, mapM_keep _ _ h1 fun f y hf hy => ih _ _ _ (List.mem_of_elem_eq_true hok) hf fun p hp => hsp p (List.mem_flatMap.2 ⟨y, hy, hp⟩), rfl⟩
   ·simp at h
  case h_12 =>
   rename_i hu
   rw [hu] at hok
   simp at hok
  case h_14 =>
   rename_i b hu
   rw [hu] at hok
   split at h
   ·rename_i es clock hb
    rw [e b (Array.getElem?_eq_some_iff.1 hb).1, hb]
    dsimp only
    split at h
    ·rename_i hc
     rw [if_pos hc]
     obtain ⟨entries, h1, h⟩ := Option.bind_eq_some_iff.1 h
     have hpl : ∀ y ∈ entries, ∀ p ∈ y.2, sp p.block = true := by
      dsimp only at h
      split at h
      ·simp only [Option.some.injEq] at h
       subst h
       exact fun y hy p hp => hsp p (List.mem_cons_of_mem _ (List.mem_flatMap.2 ⟨y, hy, hp⟩))
      ·simp at h
     refine Option.bind_eq_some_iff.2 ⟨entries, mapM_keep _ _ h1 fun f y hf hy => ?_, h⟩
     obtain ⟨key, k1, k2⟩ := Option.bind_eq_some_iff.1 hf
     refine Option.bind_eq_some_iff.2 ⟨key, k1, ?_⟩
     split at k2
     ·rename_i hfm
      rw [if_pos hfm]
      obtain ⟨z, z1, rfl⟩ := Option.map_eq_some_iff.1 k2
      exact Option.map_eq_some_iff.2 ⟨z, ih _ _ _ (List.mem_of_elem_eq_true hok) z1 (hpl _ hy), rfl⟩
     ·simp at k2
    ·simp at h
   ·simp at h
  all_goals
   exact h
theorem trodAll_keep {L : List Nat} (hL : L.all (subOk P L) = true) (e : ∀ b, b < w.heap.size → w'.heap[b]? = w.heap[b]?) (sp : Nat → Bool) :
  ∀ (ts : List TypeId) (vs : List Value) (ds : List (DataW H)) (ps : List MemPlace), (∀ t ∈ ts, t ∈ L) → DataW.TrodAll enc P w 0 (fun _ => true) true ts vs ds ps → (∀ p ∈ ps, sp p.block = true) → DataW.TrodAll enc P w' 0 sp true ts vs ds ps
 | [], [], [], _, _, h, _ => h
 | t :: ts, v :: vs, d :: ds, ps, ht, h, hsp => by
  obtain ⟨p, q, ⟨fuel, h1⟩, h2, rfl⟩ := h
  exact ⟨p, q, ⟨fuel, trod_keep hL e sp true fuel t _ _ (ht t (List.mem_cons_self ..)) h1 fun p hp => hsp p (List.mem_append_left _ hp)⟩, trodAll_keep hL e sp ts vs ds q (fun u hu => ht u (List.mem_cons_of_mem _ hu)) h2 fun p hp => hsp p (List.mem_append_right _ hp), rfl⟩
 | [], _ :: _, _, _, _, h, _ => h.elim
 | [], [], _ :: _, _, _, h, _ => h.elim
 | _ :: _, [], _, _, _, h, _ => h.elim
 | _ :: _, _ :: _, [], _, _, h, _ => h.elim
end
end Go.Proofs.YtmjklcpdfmgcaaaDoor
/-
 The frame of a law: what the arguments are, as the evaluator says it.
-/
namespace Go.Proofs.YtmjklcpdfmgcaaaDoor
open Go Go.RowKit
open Go.IntKind (wrap i64 i32 i16 i8 u64 u32 u16 u8)
abbrev noS : Nat → Prop := fun _ => False
section
variable {H : Type} {enc : TypeId × Value → H} {P : Program} {w : World} {sp : Nat → Bool} {held : Bool}
theorem mapM_all {α β : Type} {f : α → Option β} : ∀ (l : List α) (xs : List β), l.mapM f = some xs → ∀ a ∈ l, ∃ x, f a = some x
 | [], _, _, a, ha => by simp at ha
 | b :: l, xs, h, a, ha => by
  simp only [List.mapM_cons, Option.bind_eq_bind, Option.pure_def, Option.bind_eq_some_iff, Option.some.injEq] at h
  obtain ⟨x, h1, ys, h2, rfl⟩ := h
  rcases List.mem_cons.1 ha with rfl | ha
  ·exact ⟨x, h1⟩
  ·exact mapM_all l ys h2 a ha
theorem trod_fields {t : TypeId} {fs : Array Field} {fuel : Nat} {cs : List Value} {x : DataW H × List MemPlace} (hu : P.underlying t = some (.struct fs)) (h : DataW.trod enc P w 0 sp held fuel t cs = some x) :
  cs.length = P.cellsOf t ∧ ∃ fuel', ∀ f ∈ fs.toList, ∃ y, DataW.trod enc P w 0 sp held fuel' f.type ((cs.drop f.offset).take (P.cellsOf f.type)) = some y := by
 cases fuel with
 | zero => simp [DataW.trod] at h
 | succ fuel =>
  unfold DataW.trod at h
  rw [hu] at h
  split at h
  all_goals first | (rename_i h0; simp at h0; done) | skip
  ·rename_i fs' hf
   simp only [Option.some.injEq, TypeDesc.struct.injEq] at hf
   subst hf
   split at h
   ·rename_i hc
    obtain ⟨xs, h1, rfl⟩ := Option.map_eq_some_iff.1 h
    exact ⟨hc, fuel, mapM_all _ _ h1⟩
   ·simp at h
  ·rename ∀ (fs_1 : Array Field), some (TypeDesc.struct fs) = some (TypeDesc.struct fs_1) → False => hh
   exact (hh fs rfl).elim
theorem trod_array {t e : TypeId} {n : Nat} {fuel : Nat} {cs : List Value} {x : DataW H × List MemPlace} (hu : P.underlying t = some (.array n e)) (h : DataW.trod enc P w 0 sp held fuel t cs = some x) :
  cs.length = P.cellsOf t ∧ ∃ fuel', ∀ i, i < n → ∃ y, DataW.trod enc P w 0 sp held fuel' e ((cs.drop (i * P.cellsOf e)).take (P.cellsOf e)) = some y := by
 cases fuel with
 | zero => simp [DataW.trod] at h
 | succ fuel =>
  unfold DataW.trod at h
  rw [hu] at h
  split at h
  all_goals first | (rename_i h0; simp at h0; done) | skip
  ·rename_i n' e' hf
   simp only [Option.some.injEq, TypeDesc.array.injEq] at hf
   obtain ⟨rfl, rfl⟩ := hf
   split at h
   ·rename_i hc
    obtain ⟨xs, h1, rfl⟩ := Option.map_eq_some_iff.1 h
    exact ⟨hc, fuel, fun i hi => mapM_all _ _ h1 i (List.mem_range.2 hi)⟩
   ·simp at h
  ·rename ∀ (k : Nat) (e_1 : TypeId), some (TypeDesc.array n e) = some (TypeDesc.array k e_1) → False => hh
   exact (hh n e rfl).elim
theorem trod_int {t : TypeId} {k : IntKind} {fuel : Nat} {cs : List Value} {x : DataW H × List MemPlace} (hu : P.underlying t = some (.int k)) (h : DataW.trod enc P w 0 sp held fuel t cs = some x) :
  ∃ n, cs = [.int k n] ∧ (Lit.int k n).wf = true := by
 cases fuel with
 | zero => simp [DataW.trod] at h
 | succ fuel =>
  unfold DataW.trod at h
  rw [hu] at h
  split at h
  all_goals first | (rename_i h0; simp at h0; done) | skip
  ·rename_i k0 k' n hk
   simp only [Option.some.injEq, TypeDesc.int.injEq] at hk
   subst hk
   split at h
   ·rename_i hc
    exact ⟨n, by rw [hc.1], hc.2⟩
   ·simp at h
  ·simp at h
theorem trod_bool {t : TypeId} {fuel : Nat} {cs : List Value} {x : DataW H × List MemPlace} (hu : P.underlying t = some .bool) (h : DataW.trod enc P w 0 sp held fuel t cs = some x) : ∃ b, cs = [.bool b] := by
 cases fuel with
 | zero => simp [DataW.trod] at h
 | succ fuel =>
  unfold DataW.trod at h
  rw [hu] at h
  split at h
  all_goals first | (rename_i h0; simp at h0; done) | skip
  ·exact ⟨_, rfl⟩
  ·simp at h
theorem range_mapM {β : Type} {f : Nat → Option β} {n : Nat} {xs : List β} (h : (List.range n).mapM f = some xs) (i : Nat) (hi : i < n) : ∃ x, f i = some x := mapM_all _ _ h i (List.mem_range.2 hi)
theorem cells_one {a : Addr} {vs : List Value} (h : w.cells? 0 a 1 = some vs) : ∃ v, w.cell? a = some v ∧ vs = [v] := by
 unfold World.cells? at h
 rw [if_pos (Nat.zero_le _)] at h
 simp only [show List.range 1 = [0] from rfl, List.mapM_cons, List.mapM_nil, Option.bind_eq_bind, Option.pure_def, Option.bind_eq_some_iff, Option.some.injEq] at h
 obtain ⟨x, h1, ys, rfl, rfl⟩ := h
 exact ⟨x, by simpa [Addr.add] using h1, rfl⟩
theorem cell_some {a : Addr} {v : Value} (h : w.cell? a = some v) : ∃ arr ty fr, w.heap[a.block]? = some (.cells arr ty fr) ∧ a.spot = none ∧ arr[a.off]? = some v := by
 unfold World.cell? at h
 split at h
 ·rename_i c t f hb
  split at h
  ·simp at h
  ·rename_i hs
   exact ⟨c, t, f, hb, by simpa using hs, h⟩
 ·simp at h
theorem trod_words {t e : TypeId} {fuel : Nat} {cs : List Value} {x : DataW H × List MemPlace} (hu : P.underlying t = some (.slice e)) (he : P.underlying e = some (.int .u32)) (hc : P.cellsOf e = 1)
  (h : DataW.trod enc P w 0 sp held fuel t cs = some x) : ∃ s l, cs = [s] ∧ WordsR (Ctx.args noS) w l s ∧ Wd l ∧ l.length ≤ maxLen := by
 cases fuel with
 | zero => simp [DataW.trod] at h
 | succ fuel =>
  unfold DataW.trod at h
  rw [hu] at h
  split at h
  all_goals first | (rename_i h0; simp at h0; done) | skip
  ·exact ⟨_, [], rfl, ⟨none, 0, rfl, Nat.le_refl _, fun h => absurd h (by simp)⟩, Wd.nil, Nat.zero_le _⟩
  ·rename_i e' a len cap hs
   simp only [Option.some.injEq, TypeDesc.slice.injEq] at hs
   subst hs
   dsimp only at h
   split at h
   ·rename_i hcc
    obtain ⟨elems, h1, h⟩ := Option.bind_eq_some_iff.1 h
    rw [hc] at h1
    have hel : ∀ i, i < len → ∃ n, w.cell? (a.add (i * 1)) = some (.int .u32 n) ∧ 0 ≤ n ∧ n < 4294967296 := by
     intro i hi
     obtain ⟨y, hy⟩ := range_mapM h1 i hi
     obtain ⟨vs, g1, g2⟩ := Option.bind_eq_some_iff.1 hy
     obtain ⟨v, g3, rfl⟩ := cells_one g1
     obtain ⟨n, g4, g5⟩ := trod_int he g2
     simp only [List.cons.injEq, and_true] at g4
     subst g4
     have : 0 ≤ n ∧ n ≤ 4294967295 := by simpa [Lit.wf, IntKind.min, IntKind.max, IntKind.signed, IntKind.bits] using g5
     exact ⟨n, g3, by omega⟩
    obtain ⟨l, hl1, hl2⟩ : ∃ l : List Int, l.length = len ∧ ∀ i n, l[i]? = some n → w.cell? (a.add (i * 1)) = some (.int .u32 n) ∧ 0 ≤ n ∧ n < 4294967296 := by
     refine ⟨(List.range len).pmap (fun i hi => Classical.choose (hel i (List.mem_range.1 hi))) (fun i hi => hi), by simp, fun i n hn => ?_⟩
     rw [List.getElem?_pmap] at hn
     simp only [Option.pmap_eq_some_iff] at hn
     obtain ⟨k, hk, hm, rfl⟩ := hn
     have hi : i < len := by rw [← List.length_range (n := len)]; exact (List.getElem?_eq_some_iff.1 hm).1
     have : k = i := by rw [List.getElem?_range hi] at hm; simpa using hm.symm
     subst this
     exact Classical.choose_spec (hel k hi)
    refine ⟨_, l, rfl, ⟨some a, cap, by rw [hl1], by rw [hl1]; exact hcc.2.1, fun hp => ?_⟩, fun y hy => ?_, by rw [hl1]; exact Nat.le_trans hcc.2.1 hcc.2.2⟩
    ·obtain ⟨v0, _⟩ := hl2 0 l[0] (by simp [hp])
     rw [Nat.zero_mul, show a.add 0 = a from rfl] at v0
     obtain ⟨arr, ty, fr, r1, r2, r3⟩ := cell_some v0
     refine ⟨a.block, a.off, by cases a; simp_all, id, arr, ty, fr, r1, fun j v hv => ?_⟩
     simp only [List.getElem?_map, Option.map_eq_some_iff] at hv
     obtain ⟨n, hn, rfl⟩ := hv
     obtain ⟨s1, _⟩ := hl2 j n hn
     obtain ⟨arr', ty', fr', t1, t2, t3⟩ := cell_some s1
     have hb : (a.add (j * 1)).block = a.block := by unfold Addr.add; split <;> rfl
     have ho : (a.add (j * 1)).off = a.off + j := by unfold Addr.add; split <;> simp_all
     rw [hb, r1] at t1
     simp only [Option.some.injEq, Obj.cells.injEq] at t1
     rw [ho] at t3
     rw [t1.1]; exact t3
    ·obtain ⟨i, hi, rfl⟩ := List.getElem_of_mem hy
     exact (hl2 i l[i] (by simp [hi])).2
   ·simp at h
  ·simp at h
end
end Go.Proofs.YtmjklcpdfmgcaaaDoor
/-
 The frame of a law that may read a package-level array: what is laid; descriptions of numbers; what the contract of a law gives.
-/
namespace Go.Proofs.YtmjklcpdfmgcaaaDoor
open Go Go.ChangeShapes Go.WideShapes Go.ChangeAt Go.RowKit
open Go.IntKind (wrap i64 i32 i16 i8 u64 u32 u16 u8)
theorem own : ownKnob Tryd.prog.godebug = none := by kernel_rfl
theorem agg_cells {v : Value} {a b : Value} {r : List Value} (h : v.cells.toList = a :: b :: r) : v = .agg (a :: b :: r).toArray := by
 cases v <;> first | (simp [Value.cells] at h; done) | skip
 rename_i cs
 have : cs = (a :: b :: r).toArray := by apply Array.ext'; simpa [Value.cells] using h
 rw [this]
theorem len_two {cs : List Value} (h : cs.length = 2) : ∃ a b, cs = [a, b] := by
 match cs, h with
 | [a, b], _ => exact ⟨a, b, rfl⟩
theorem cells_u32 : Tryd.prog.cellsOf 44 = 1 := by kernel_rfl
theorem cells_bool : Tryd.prog.cellsOf 4 = 1 := by kernel_rfl
theorem cells_words : Tryd.prog.cellsOf 22 = 1 := by kernel_rfl
theorem cells_raw : Tryd.prog.cellsOf 24 = 2 := by kernel_rfl
section
variable {H : Type} {enc : TypeId × Value → H} {w : World} {sp : Nat → Bool} {held : Bool}
theorem repc_raw {fuel : Nat} {cs : List Value} {y : DataW H × List MemPlace} (h : DataW.trod enc Tryd.prog w 0 sp held fuel 24 cs = some y) : ∃ b l, RepC (Ctx.args noS) w (rawM b l) cs ∧ Wd l ∧ l.length < 9223372036854775808 := by
 obtain ⟨hl, f', hf⟩ := trod_fields Tryd.underlying24 h
 rw [cells_raw] at hl
 obtain ⟨a, b, e⟩ := len_two hl
 rw [e] at hf ⊢
 clear e hl h
 obtain ⟨y0, h0⟩ := hf _ (List.mem_cons_self ..)
 obtain ⟨y1, h1⟩ := hf _ (List.mem_cons_of_mem _ (List.mem_cons_self ..))
 dsimp only at h0 h1
 rw [cells_bool] at h0
 rw [cells_words] at h1
 obtain ⟨b0, e0⟩ := trod_bool Tryd.underlying4 h0
 obtain ⟨s, l, e1, hw, hwd, hlen⟩ := trod_words Tryd.underlying22 Tryd.underlying44 cells_u32 h1
 have z0 : [a] = [.bool b0] := e0
 have z1 : [b] = [s] := e1
 simp only [List.cons.injEq, and_true] at z0 z1
 subst z0 z1
 refine ⟨b0, l, ⟨_, _, rfl, rfl, _, _, rfl, ⟨_, rfl, hw⟩, rfl⟩, hwd, ?_⟩
 have : maxLen = 2 ^ 63 - 1 := rfl
 omega
theorem rep_raw {v : Value} {d : DataW H} {ps : List MemPlace} (h : DataW.Trod enc Tryd.prog w 0 sp held 24 v d ps) : ∃ b l, Rep1 (Ctx.args noS) w (rawM b l) v ∧ Wd l ∧ l.length < 9223372036854775808 := by
 obtain ⟨fuel, h⟩ := h
 obtain ⟨hl, _⟩ := trod_fields Tryd.underlying24 h
 rw [cells_raw] at hl
 obtain ⟨a, b, e⟩ := len_two hl
 obtain ⟨b0, l, h1, h2, h3⟩ := repc_raw h
 rw [e] at h1
 exact ⟨b0, l, (rep1_agg rfl).2 ⟨_, agg_cells e, h1⟩, h2, h3⟩
theorem post_same {P : Program} {f : Func} {s : ChangeSpec} {apart fresh handsOn again : Bool} {W W' : World} {args : Array Value} {v : Value} {ds gs : List (DataW H)} {before pa pv : List MemPlace}
  (hW : DataW.Whole enc P f.params.toList s.vars apart W args.toList ds gs before)
  (hres : ∀ (b : Nat) (sp : Nat → Bool) (hd : Bool), DataW.TrodAll enc P W' b sp hd f.resultTypes.toList (v.resultList f.resultTypes.size) (s.fn H (ds ++ gs)).results [])
  (hargs : ∀ sp : Nat → Bool, (∀ p ∈ before, sp p.block = true) → DataW.TrodAll enc P W' 0 sp true f.params.toList args.toList (s.fn H (ds ++ gs)).args pa)
  (hvars : ∀ sp : Nat → Bool, (∀ p ∈ before, sp p.block = true) → DataW.TrodVars enc P W' sp s.vars (s.fn H (ds ++ gs)).vars pv)
  (hps : before = pa ++ pv) (hk : W.keptBut W' (· ∈ before)) (hfz : ∀ a : Addr, a.block < W.heap.size → W'.frozen? a = W.frozen? a)
  (hok : ∀ (j : Nat) (t : TypeId) (r : Value), f.resultTypes[j]? = some t → (v.resultList f.resultTypes.size)[j]? = some r → Value.okWide P W' .any 0 t r) :
  s.post enc P f apart fresh handsOn again W args v W' := by
 have hlt : ∀ p ∈ before, p.block < W.heap.size := hW.lt
 have hold : ∀ p ∈ before, (fun b => decide (b < W.heap.size)) p.block = true := fun p hp => by simpa using hlt p hp
 refine ⟨ds, gs, before, [], pa, pv, hW, hres _ _ _, hargs _ hold, hvars _ hold, World.keptBut_mono (fun p hp => ⟨hp, ?_⟩) hk, fun _ => ?_⟩
 ·rw [hps, List.mem_append] at hp
  exact Or.inr hp
 ·obtain ⟨_, _, _, _, _, hz, hn⟩ := hW
  refine ⟨hok, _, _, ([] ++ pa) ++ pv, ⟨[] ++ pa, pv, trodAll_append (hargs _ (fun _ _ => rfl)) (hres _ _ _), hvars _ (fun _ _ => rfl), rfl, ?_, ?_⟩, ?_⟩
  ·intro b off hp
   have hm : MemPlace.cell b off ∈ before := by rw [hps]; simpa using hp
   rw [hfz ⟨b, off, none⟩ (hlt _ hm)]
   exact hz b off hm
  ·intro ha
   have := hn ha
   rw [hps] at this
   simpa using this
  ·intro p hp _
   rw [hps]
   simpa using hp
set_option maxRecDepth 100000 in
theorem law_calls {fn : Func} {s : ChangeSpec} (ctr : Ctr Tryd.prog) (hvars : s.vars = []) (hrt : fn.resultTypes = #[4]) {L : List Nat} (hL : L.all (subOk Tryd.prog L) = true) (hin : ∀ t ∈ fn.params.toList, t ∈ L) {apart fresh handsOn again : Bool} {W : World} {args : Array Value} {ds gs : List (DataW H)} {before : List MemPlace}
  (hW : DataW.Whole enc Tryd.prog fn.params.toList s.vars apart W args.toList ds gs before) (hG : GW noS W)
  (hrep : ∃ ms p, ctr.spec ms = some (p, .ret (.bool true)) ∧ p.holds ∧ RepAll (Ctx.args noS) W ms args.toList)
  (hspec : s.fn H (ds ++ gs) = { results := [.lit (.bool true)], args := ds }) :
  Calls Tryd.prog ctr.f args W fun e W' => ∃ v, e = .returned v ∧ s.post enc Tryd.prog fn apart fresh handsOn again W args v W' := by
 obtain ⟨ms, p, h1, h2, h3⟩ := hrep
 refine (ctr.ok noS W ms args p _ h1 h2 (fun _ h => h.elim) hG h3).mono fun e W' ⟨hE, hh⟩ => ?_
 obtain ⟨v, rfl, hr⟩ : ∃ v, e = .returned v ∧ Rep (Ctx.res noS) W' (.bool true) v := by
  cases e with
  | returned v => exact ⟨v, rfl, hh⟩
  | panicked _ => exact hh.elim
  | outgrown => exact hh.elim
 have hv : v = .bool true := rep_bool hr
 subst hv
 refine ⟨_, rfl, ?_⟩
 have hW' := hW
 obtain ⟨p, q, hA, hV, rfl, _, _⟩ := hW
 rw [hvars] at hV
 obtain ⟨rfl, rfl⟩ : gs = [] ∧ q = [] := trodVars_none hV
 refine post_same (pa := p) (pv := []) hW' (fun _ _ _ => ?_) (fun sp hsp => ?_) (fun _ _ => ?_) rfl (hE.kept _) hE.frz ?_
 ·rw [hspec, hrt]
  exact trodAll_cons_mk (shut_bool Tryd.underlying4 _) trodAll_mk0
 ·rw [hspec]
  exact trodAll_keep hL hE.block sp _ _ _ _ hin hA fun p hp => hsp p (List.mem_append_left _ hp)
 ·rw [hspec, hvars]; rfl
 ·have hw : Value.okWide Tryd.prog W' .any 0 4 (.bool true) := okWide_bool_mk Tryd.underlying4 true
  exact ok_one hrt rfl hw
end
end Go.Proofs.YtmjklcpdfmgcaaaDoor
/-
 The frame of the laws of chapter 04: what is laid (the table of math/bits), the witness, numbers.
-/
namespace Go.Proofs.YtmjklcpdfmgcaaaDoor
open Go Go.ChangeShapes Go.WideShapes Go.ChangeAt Go.RowKit
open Go.IntKind (wrap i64 i32 i16 i8 u64 u32 u16 u8)
theorem cells_u8 : Tryd.prog.cellsOf 5 = 1 := by kernel_rfl
noncomputable abbrev laid1 : List (String × DataW Unit) := [("math/bits.deBruijn64tab", Rows.laid_math_bits_deBruijn64tab)]
theorem gTab : Tryd.prog.globalNamed "math/bits.deBruijn64tab" = some 0 := by kernel_rfl
theorem tTab : (Tryd.prog.globals[0]?).map (·.type) = some 88 := by kernel_rfl
theorem laid_list : (Rows.laid_math_bits_deBruijn64tab : DataW Unit) = .agg (gList.map fun n => .lit (.int .u8 n)) := rfl
theorem gw_of_laid {W : World} (h : laidMetH Tryd.prog laid1 W) : GW noS W := by
 intro _
 rw [MakeChecks.laidMetH_plain _ _ _ (by kernel_rfl)] at h
 obtain ⟨ps, ⟨g0, t0, cs0, f0, p0, q0, hg0, ht0, hv0, hd0, _, _⟩, _, _⟩ := h
 obtain rfl := Option.some.inj (gTab.symm.trans hg0)
 obtain rfl := Option.some.inj (tTab.symm.trans ht0)
 obtain ⟨xs, m1, rfl, hx1, hlen, hn, hel⟩ := DataW.trod_array Tryd.underlying88 hd0
 rw [cells_u8] at hel
 simp only [Prod.mk.injEq] at hx1
 have hd := hx1.1
 rw [laid_list, DataW.agg.injEq] at hd
 have key : ∀ i, i < 64 → W.cell? ⟨0, i, none⟩ = some (.int .u8 (gList.getD i 0)) := by
  intro i hi
  have h1 := hel i hi
  obtain ⟨x, hxe⟩ : ∃ x, xs[i]? = some x := ⟨_, List.getElem?_eq_getElem (by omega)⟩
  rw [hxe] at h1
  obtain ⟨k, e1, e2, _⟩ := DataW.trod_int Tryd.underlying5 h1
  have hk : x.1 = .lit (.int .u8 (gList.getD i 0)) := by
   have e3 : (gList.map fun n => (DataW.lit (Lit.int .u8 n) : DataW Unit))[i]? = some x.1 := by
    rw [hd, List.getElem?_map, hxe]; rfl
   rw [List.getElem?_map, List.getElem?_eq_getElem (show i < gList.length from hi)] at e3
   simp only [Option.map_some, Option.some.injEq] at e3
   rw [← e3, List.getD_eq_getElem?_getD, List.getElem?_eq_getElem (show i < gList.length from hi)]
   rfl
  rw [e2] at hk
  simp only [DataW.lit.injEq, Lit.int.injEq, true_and] at hk
  subst hk
  have := World.var?_cell hg0 hv0 i
  rw [this]
  rw [Nat.mul_one] at e1
  have e3 : (cs0.toList.drop i)[0]? = some (.int .u8 (gList.getD i 0)) := by
   have : ((cs0.toList.drop i).take 1)[0]? = some (.int .u8 (gList.getD i 0)) := by rw [e1]; rfl
   rw [List.getElem?_take] at this
   simpa using this
  rw [List.getElem?_drop] at e3
  simpa using e3
 clear hel hd0 hv0 hn hlen hd hx1
 have c0 := key 0 (by omega)
 obtain ⟨arr, ty, fr, ha⟩ : ∃ arr ty fr, W.heap[0]? = some (.cells arr ty fr) := by
  unfold World.cell? at c0
  split at c0
  ·rename_i arr ty fr e; exact ⟨arr, ty, fr, e⟩
  ·simp at c0
 have hc : ∀ (i : Nat) v, W.cell? ⟨0, i, none⟩ = some v → arr[i]? = some v := fun i v h => by
  unfold World.cell? at h
  rw [show W.heap[(⟨0, i, none⟩ : Addr).block]? = _ from ha] at h
  exact h
 refine ⟨id, (Array.getElem?_eq_some_iff.1 ha).1, arr, ty, fr, ha, fun j v hv => ?_⟩
 rw [Nat.zero_add]
 rw [List.getElem?_map] at hv
 have hj : j < 64 := by
  rcases Nat.lt_or_ge j gList.length with q | q
  ·exact q
  ·rw [List.getElem?_eq_none q] at hv; simp at hv
 have := hc _ _ (key j hj)
 rw [this]
 rw [List.getElem?_eq_getElem (show j < gList.length from hj)] at hv
 rw [List.getD_eq_getElem?_getD, List.getElem?_eq_getElem (show j < gList.length from hj)]
 exact hv
theorem door_met (os : Os) (args : Array Value) : laidMetH Tryd.prog laid1 ((World.doorLaid Tryd.prog 400 os).forCall (fun _ _ => 0) ⟨#[], args, []⟩).memory :=
 laidMetH_of_parts3 (fuel := 8) (laidMet_of_run' 8 (by kernel_rfl) (by kernel_rfl)) (by kernel_rfl) (by kernel_rfl)
theorem ok_at {P : Program} {W : World} {base : Nat} {args : Array Value} {ts : Array TypeId} (hval : ∀ (j : Nat) t v, ts[j]? = some t → args[j]? = some v → Value.okWide P W .any base t v) {j : Nat} {t : TypeId} {v : Value} (h1 : ts[j]? = some t) (h2 : args[j]? = some v) : Value.okWide P W .any base t v := hval j t v h1 h2
theorem i64_wf {n : Int} (h : (Lit.int .i64 n).wf = true) : -9223372036854775808 ≤ n ∧ n ≤ 9223372036854775807 := by simpa [Lit.wf, IntKind.min, IntKind.max, IntKind.signed, IntKind.bits] using h
end Go.Proofs.YtmjklcpdfmgcaaaDoor
