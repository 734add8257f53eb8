/-
  Contracts of functions: words and comparisons.
-/
import Derived.Test.YtnfmjlhkknndhaaGreatW1
import Derived.Test.YtnfmjlhkknndhaaGreatProg
import Derived.Deep.LoopGhost
import Derived.Scope

/-
 The evaluator is right: append, its run.
-/
namespace Go.Proofs.YtnfmjlhkknndhaaGreat
open Go Go.RowKit
def NewsC (c : Ctx) (w : World) (size : Nat) : News → List Value → Prop
 | .ints k l, cs => size = 1 ∧ cs = l.map (Value.int k)
 | .rows wd m g, cs => wd = size ∧ ∀ q, q < m → ∃ ds, ds.length = wd ∧ RepC c.elem w (g q) ds ∧ ∀ (j : Nat) u, ds[j]? = some u → cs[q * wd + j]? = some u
structure NewsR (c : Ctx) (w : World) (size : Nat) (nw : News) (v : Value) : Prop where
 ex : ∃ a cap cs, v = .slice a nw.len cap ∧ cs.length = nw.len * size ∧ (∀ u ∈ cs, u.oneCell' = true) ∧ NewsC c w size nw cs ∧
  (0 < nw.len → ∃ ad : Addr, a = some ad ∧ ∀ (j : Nat) u, cs[j]? = some u → w.cell? (ad.add j) = some u)
theorem cells_at {w : World} {b : Nat} {arr : Array Value} {ty : TypeId} {fr : Nat × Nat} (h : w.heap[b]? = some (.cells arr ty fr)) (off j : Nat) (u : Value) (hj : arr[off + j]? = some u) : w.cell? ((⟨b, off, none⟩ : Addr).add j) = some u := by
 rw [addr_add]
 simp [World.cell?, h, hj]
theorem news_rows {c : Ctx} {w : World} {wd m : Nat} {g : Nat → MV} {a : Option Addr} {cap : Nat} {arr : Array Value} {b off : Nat} {ty : TypeId} {fr : Nat × Nat} (ha : a = some ⟨b, off, none⟩) (hb : w.heap[b]? = some (.cells arr ty fr))
  (h : ∀ q, q < m → ∃ ds, ds.length = wd ∧ RepC c.elem w (g q) ds ∧ ∀ (j : Nat) u, ds[j]? = some u → arr[off + q * wd + j]? = some u) : NewsR c w wd (.rows wd m g) (.slice a m cap) := by
 have hin : ∀ j, j < m * wd → ∃ u, arr[off + j]? = some u ∧ u.oneCell' = true := by
  intro j hj
  have hwd : 0 < wd := by
   rcases Nat.eq_zero_or_pos wd with e | e
   ·subst e; simp at hj
   ·exact e
  have hq : j / wd < m := by rw [Nat.div_lt_iff_lt_mul hwd]; exact hj
  obtain ⟨ds, h1, h2, h3⟩ := h _ hq
  have hr : j % wd < ds.length := by rw [h1]; exact Nat.mod_lt _ hwd
  refine ⟨ds[j % wd], ?_, RepC.one _ _ h2 _ (List.getElem_mem _)⟩
  have := h3 (j % wd) ds[j % wd] (by simp [hr])
  rwa [show off + j / wd * wd + j % wd = off + j by have := Nat.div_add_mod j wd; rw [Nat.mul_comm] at this; omega] at this
 have hget : ∀ j, j < m * wd → ((arr.toList.drop off).take (m * wd))[j]? = arr[off + j]? := fun j hj => by
  rw [List.getElem?_take, if_pos hj, List.getElem?_drop, Array.getElem?_toList]
 have hlen : ((arr.toList.drop off).take (m * wd)).length = m * wd := by
  rw [List.length_take]
  rcases Nat.eq_zero_or_pos (m * wd) with e | e
  ·omega
  ·obtain ⟨u, hu, _⟩ := hin (m * wd - 1) (by omega)
   have := (Array.getElem?_eq_some_iff.1 hu).1
   simp only [List.length_drop, Array.length_toList]
   omega
 refine ⟨a, cap, (arr.toList.drop off).take (m * wd), rfl, hlen, fun u hu => ?_, ⟨rfl, fun q hq => ?_⟩, fun _ => ⟨_, ha, fun j u hu => ?_⟩⟩
 ·obtain ⟨j, hj, rfl⟩ := List.getElem_of_mem hu
  rw [hlen] at hj
  obtain ⟨u, h1, h2⟩ := hin j hj
  have := hget j hj
  rw [h1, List.getElem?_eq_getElem (by omega), Option.some.injEq] at this
  rw [this]; exact h2
 ·obtain ⟨ds, h1, h2, h3⟩ := h q hq
  refine ⟨ds, h1, h2, fun j u hu => ?_⟩
  have hj : j < wd := by rw [← h1]; exact (List.getElem?_eq_some_iff.1 hu).1
  have : (q + 1) * wd ≤ m * wd := Nat.mul_le_mul_right _ hq
  rw [Nat.add_mul] at this
  rw [hget _ (by omega)]
  have := h3 j u hu
  rwa [Nat.add_assoc] at this
 ·have hj : j < m * wd := by rw [← hlen]; exact (List.getElem?_eq_some_iff.1 hu).1
  rw [hget j hj] at hu
  exact cells_at hb off j u hu
theorem news_empty {c : Ctx} {w : World} {size : Nat} {nw : News} {v : Value} {a : Option Addr} {cap : Nat} (hv : v = .slice a 0 cap) (h0 : nw.len = 0) (hs : nw.wd = size) : NewsR c w size nw v := by
 refine ⟨a, cap, [], by rw [hv, h0], by simp [h0], by simp, ?_, fun h => by omega⟩
 cases nw with
 | ints k l =>
  have : l = [] := List.eq_nil_of_length_eq_zero h0
  exact ⟨hs.symm, by simp [this]⟩
 | rows wd m g => exact ⟨hs, fun q hq => by have h0 : m = 0 := h0; omega⟩
theorem evNews_ok {s : MS} {x : MV} {p : OProp} {nw : News} (h : evNews s x = some (p, nw)) (hp : p.holds) {c : Ctx} {w : World} {v : Value} (hx : Rep c w x v) (HB : Boxes c w s.bx) :
  NewsR c w nw.wd nw v := by
 unfold evNews at h
 split at h
 ·rename_i l
  simp only [Option.some.injEq, Prod.mk.injEq] at h
  obtain ⟨_, rfl⟩ := h
  obtain ⟨a, cap, rfl, hcap, hseg⟩ := rep_ws hx
  refine ⟨a, cap, l.map (Value.int .u32), rfl, by simp [News.len, News.wd], by simp [Value.oneCell'], ⟨rfl, rfl⟩, fun h0 => ?_⟩
  obtain ⟨b, off, rfl, _, hs⟩ := hseg h0
  exact ⟨_, rfl, fun j u hu => by rw [addr_add]; exact seg_cell hs j u hu⟩
 ·rename_i wd m g
  simp only [Option.some.injEq, Prod.mk.injEq] at h
  obtain ⟨_, rfl⟩ := h
  obtain ⟨a, cap, rfl, hcap, hseg⟩ := rep_sl hx
  rcases Nat.eq_zero_or_pos m with e | e
  ·subst e; exact news_empty rfl rfl rfl
  ·obtain ⟨b, off, rfl, _, hs⟩ := hseg e
   obtain ⟨_, _, _, arr, ty, fr, hb, _⟩ := hs 0 e
   refine news_rows rfl hb fun q hq => ?_
   obtain ⟨ds, h1, h2, arr', ty', fr', hb', h3⟩ := hs q hq
   rw [hb, Option.some.injEq, Obj.cells.injEq] at hb'
   obtain ⟨rfl, _⟩ := hb'
   exact ⟨ds, h1, h2, h3⟩
 ·rename_i j off m
  obtain ⟨a, cap, rfl, hcap, hor⟩ := rep_bs hx
  split at h
  ·rename_i b hb
   obtain ⟨fz, bc⟩ := b
   split at h
   ·rename_i k l hbc
    have hbc : bc = .arr k l := hbc
    subst hbc
    simp only [Option.some.injEq, Prod.mk.injEq] at h
    obtain ⟨rfl, rfl⟩ := h
    have hle : off + m ≤ l.length := hp
    have hlen : ((l.drop off).take m).length = m := by simp; omega
    refine ⟨a, cap, ((l.drop off).take m).map (Value.int k), by rw [show (News.ints k ((l.drop off).take m)).len = ((l.drop off).take m).length from rfl, hlen], by simp [News.len, News.wd], fun u hu => by simp only [List.mem_map] at hu; obtain ⟨z, _, rfl⟩ := hu; rfl, ⟨rfl, rfl⟩, fun h0 => ?_⟩
    have h0 : 0 < ((l.drop off).take m).length := h0
    rcases hor with ⟨rfl, hl, _⟩ | ⟨_, e, _⟩
    ·obtain ⟨arr, ty, q1, _, _, q4⟩ := HB j _ hl hb
     refine ⟨_, rfl, fun i u hu => cells_at q1 off i u ?_⟩
     simp only [List.getElem?_map, Option.map_eq_some_iff] at hu
     obtain ⟨z, hz, rfl⟩ := hu
     rw [List.getElem?_take] at hz
     split at hz
     ·rw [List.getElem?_drop] at hz
      exact q4 _ _ hz
     ·simp at hz
    ·omega
   ·rename_i wd n g hbc
    have hbc : bc = .rows wd n g := hbc
    subst hbc
    cases ho : off.beq 0 with
    | false => rw [ho] at h; simp at h
    | true =>
     rw [ho, cond_true] at h
     simp only [Option.some.injEq, Prod.mk.injEq] at h
     obtain ⟨rfl, rfl⟩ := h
     simp only [Nat.beq_eq] at ho
     subst ho
     have hle : m ≤ n := hp
     rcases hor with ⟨rfl, hl, _⟩ | ⟨rfl, rfl, _⟩
     ·obtain ⟨arr, ty, q1, _, _, q4⟩ := HB j _ hl hb
      refine news_rows rfl q1 fun q hq => ?_
      obtain ⟨ds, r1, r2, r3⟩ := q4 q (by omega)
      exact ⟨ds, r1, r2, fun i u hu => by rw [Nat.zero_add]; exact r3 i u hu⟩
     ·exact news_empty rfl rfl rfl
   ·simp at h
  ·simp at h
 ·simp at h
theorem app_rep {c c' : Ctx} {w w' : World} (kE : Keeps c.elem c'.elem w w') {bc bc' : BC} {len : Nat} {nw : News} {p : OProp} (h : bc.app len nw = some (p, bc')) (hp : p.holds) {arr arr2 : Array Value} (hold : len = 0 ∨ BCRep c w bc arr)
  {cs : List Value} (hn : NewsC c w bc.wd nw cs) (h1 : ∀ (j : Nat) u, j < len * bc.wd → arr[j]? = some u → arr2[j]? = some u) (h2 : ∀ (j : Nat) u, cs[j]? = some u → arr2[len * bc.wd + j]? = some u) : bc'.wd = bc.wd ∧ BCRep c' w' bc' arr2 := by
 cases bc with
 | one m => cases nw <;> simp [BC.app] at h
 | arr k l =>
  cases nw with
  | rows _ _ _ => simp [BC.app] at h
  | ints k' l2 =>
   simp only [BC.app] at h
   cases hk : decide (k = k') with
   | false => rw [hk] at h; simp at h
   | true =>
    rw [hk, cond_true] at h
    simp only [Option.some.injEq, Prod.mk.injEq] at h
    obtain ⟨rfl, rfl⟩ := h
    simp only [decide_eq_true_eq] at hk
    subst hk
    have hle : len ≤ l.length := hp
    refine ⟨rfl, fun j n hj => ?_⟩
    simp only [BC.wd, Nat.mul_one] at h1 h2
    rw [List.getElem?_append, List.length_take, Nat.min_eq_left hle] at hj
    split at hj
    ·rename_i hlt
     rw [List.getElem?_take, if_pos hlt] at hj
     rcases hold with e | hold
     ·omega
     ·exact h1 j _ hlt (hold j n hj)
    ·rename_i hge
     obtain ⟨_, rfl⟩ := hn
     have := h2 (j - len) (.int k n) (by simp [hj])
     rwa [show len + (j - len) = j by omega] at this
 | rows wd n f =>
  cases nw with
  | ints _ _ => simp [BC.app] at h
  | rows wd' m g =>
   simp only [BC.app] at h
   cases hk : wd.beq wd' with
   | false => rw [hk] at h; simp at h
   | true =>
    rw [hk, cond_true] at h
    simp only [Option.some.injEq, Prod.mk.injEq] at h
    obtain ⟨rfl, rfl⟩ := h
    simp only [Nat.beq_eq] at hk
    subst hk
    have hle : len ≤ n := hp
    refine ⟨rfl, fun q hq => ?_⟩
    simp only [BC.wd] at h1 h2
    show ∃ ds : List Value, ds.length = wd ∧ RepC c'.elem w' (cond (q.blt len) (f q) (g (q - len))) ds ∧ ∀ (j : Nat) v, ds[j]? = some v → arr2[q * wd + j]? = some v
    cases hb : q.blt len with
    | true =>
     simp only [Nat.blt_eq] at hb
     rcases hold with e | hold
     ·omega
     ·obtain ⟨ds, r1, r2, r3⟩ := hold q (by omega)
      refine ⟨ds, r1, RepC.keep kE _ _ r2, fun j v hv => h1 _ _ ?_ (r3 j v hv)⟩
      have hj : j < wd := by rw [← r1]; exact (List.getElem?_eq_some_iff.1 hv).1
      have : (q + 1) * wd ≤ len * wd := Nat.mul_le_mul_right _ hb
      rw [Nat.add_mul] at this
      omega
    | false =>
     have hge : len ≤ q := by
      rcases Nat.lt_or_ge q len with h | h
      ·rw [← Nat.blt_eq] at h; rw [h] at hb; simp at hb
      ·exact h
     obtain ⟨_, hn⟩ := hn
     obtain ⟨ds, r1, r2, r3⟩ := hn (q - len) (by omega)
     refine ⟨ds, r1, RepC.keep kE _ _ r2, fun j v hv => ?_⟩
     have := h2 _ _ (r3 j v hv)
     rwa [← Nat.add_assoc, ← Nat.add_mul, show len + (q - len) = q by omega] at this
theorem run_append_room2 {P : Program} (w : World) (t ty e ty' : TypeId) (i : TypeInfo) (ht : P.underlying t = some (.slice e)) (hi : P.info? e = some i)
  (g sLen sCap : Nat) (cur : Array Value) (hg : w.heap[g]? = some (.cells cur ty' (0, 0)))
  (a : Addr) (m c : Nat) (news : List Value) (hl : news.length = m * i.size) (hnews : ∀ (j : Nat) u, news[j]? = some u → w.cell? (a.add j) = some u) (h1 : ∀ u ∈ news, u.oneCell' = true)
  (hroom : sLen + m ≤ sCap) (hfit : sLen * i.size + news.length ≤ cur.size) :
  (Builtin.append_ #[t, t] ty #[.slice (some ⟨g, 0, none⟩) sLen sCap, .slice (some a) m c]).run P w =
   .ok (.slice (some ⟨g, 0, none⟩) (sLen + m) sCap) (w.setRow g (splice cur.toList (sLen * i.size) news).toArray) := by
 have hf := run_firstCells_some (P := P) w i.size m a m c news hl hnews
 have hst := run_storeCells_at P g (sLen * i.size) ty' news 0 cur w hg (by simpa using hfit) h1
 simp only [Nat.add_zero] at hst
 simp [Builtin.append_, run_underlying ht, sizeOf, typeInfo, hi, Builtin.lenOf, hroom, hf, Addr.add_lit, hst]
 simp [splice]
theorem run_append_zero {P : Program} (w : World) (t ty e : TypeId) (i : TypeInfo) (ht : P.underlying t = some (.slice e)) (hi : P.info? e = some i) (a ax : Option Addr) (len cap capx : Nat) (hcap : len ≤ cap) :
  (Builtin.append_ #[t, t] ty #[.slice a len cap, .slice ax 0 capx]).run P w = .ok (.slice a len cap) w := by
 cases a <;> cases ax <;> simp [Builtin.append_, run_underlying ht, sizeOf, typeInfo, hi, Builtin.lenOf, Builtin.firstCells, hcap, loadCells, loadCellsFrom, storeCells]
end Go.Proofs.YtnfmjlhkknndhaaGreat
/-
 The evaluator is right: append, its effect.
-/
namespace Go.Proofs.YtnfmjlhkknndhaaGreat
open Go Go.RowKit
theorem app_wd {bc bc' : BC} {len : Nat} {nw : News} {p : OProp} (h : bc.app len nw = some (p, bc')) : nw.wd = bc.wd ∧ bc'.wd = bc.wd := by
 cases bc with
 | one m => cases nw <;> simp [BC.app] at h
 | arr k l =>
  cases nw with
  | rows _ _ _ => simp [BC.app] at h
  | ints k' l2 =>
   simp only [BC.app] at h
   cases hk : decide (k = k') with
   | false => rw [hk] at h; simp at h
   | true => rw [hk, cond_true] at h; simp only [Option.some.injEq, Prod.mk.injEq] at h; obtain ⟨_, rfl⟩ := h; exact ⟨rfl, rfl⟩
 | rows wd n f =>
  cases nw with
  | ints _ _ => simp [BC.app] at h
  | rows wd' m g =>
   simp only [BC.app] at h
   cases hk : wd.beq wd' with
   | false => rw [hk] at h; simp at h
   | true =>
    rw [hk, cond_true] at h
    simp only [Option.some.injEq, Prod.mk.injEq] at h
    obtain ⟨_, rfl⟩ := h
    simp only [Nat.beq_eq] at hk
    exact ⟨hk.symm, rfl⟩
theorem Ext.drew (w : World) : Ext w w.drew := ⟨rfl, rfl, Nat.le_refl _, fun _ _ => rfl, fun _ _ => rfl⟩
theorem Mem.renew {S0 : Nat → Prop} {w0 : Base} {w : World} {bx : List Box} {c : Ctx} (h : Mem S0 w0 bx c w) {b : Nat} {b0 : Box} (hb : nth bx b = some b0) (hf : bxFree b 0 bx = true) (hpin : ∀ k z, ¬ w0.pin b k z)
  (arr : Array Value) (ty : TypeId) (bc' : BC) (hbox : ∀ c' : Ctx, Keeps c.elem c'.elem w (w.drew.alloc (.cells arr ty)) → BCRep c' (w.drew.alloc (.cells arr ty)) bc' arr) :
  ∃ c', Mem S0 w0 (setNth bx b ⟨false, bc'⟩) c' (w.drew.alloc (.cells arr ty)) ∧ (∀ m v, m.ment b = false → Rep c w m v → Rep c' (w.drew.alloc (.cells arr ty)) m v) ∧ c'.live b ∧ c'.β b = w.heap.size ∧ c'.sz b = ⟨arr.size, bc'.wd⟩ := by
 obtain ⟨m1, k1⟩ := h.drop hf ⟨false, bc'⟩ hpin
 obtain ⟨m2, k2⟩ := m1.grow (Ext.drew w)
 generalize hcd : ctxOf S0 (setNth bx b ⟨false, bc'⟩) (c.but b).live c.β c.sz = cd at m1 k1 m2 k2
 have hnb : nth (setNth bx b ⟨false, bc'⟩) b = some ⟨false, bc'⟩ := by rw [nth_setNth, if_pos ⟨rfl, nth_lt hb⟩]
 have hnl : ¬ cd.live b := by subst hcd; exact fun h => h.2 rfl
 have hd : w.drew.heap.size = w.heap.size := rfl
 obtain ⟨m3, k3⟩ := m2.allocAt arr ty b ⟨false, bc'⟩ hnb hnl (fun j => cd.live j ∨ j = b) (fun j => if j = b then w.drew.heap.size else cd.β j) (fun j => if j = b then ⟨arr.size, bc'.wd⟩ else cd.sz j) (fun j => Iff.rfl)
  (fun j hj => if_neg (fun (e : j = b) => hnl (e ▸ hj))) (fun j hj => if_neg (fun (e : j = b) => hnl (e ▸ hj))) (if_pos rfl)
  (fun c' kk e1 e2 e3 => ⟨arr, ty, by rw [e2]; simp only [if_true]; exact heap_alloc_self w.drew _ _, by rw [e3]; simp, by rw [e3]; simp, hbox c' (by
   have q1 : Keeps (c.but b).elem cd.elem w w := k1.elem
   have q2 : Keeps cd.elem cd.elem w w.drew := k2.elem
   have q3 : Keeps cd.elem c'.elem w.drew (w.drew.alloc (.cells arr ty)) := kk.elem
   refine ⟨fun x hx hs => q1.S x hx (q2.S x hx (q3.S x hx hs)), fun _ _ _ => trivial, fun _ h => h.elim, fun x hx hs => ?_, fun x hx hs => (hs trivial).elim⟩
   exact q3.heapS x hx (fun hh => hs (q1.S x hx hh)))⟩)
 refine ⟨_, m3, fun m v hm hr => ?_, .inr rfl, if_pos rfl, if_pos rfl⟩
 exact ((Rep.but hm hr).keep k1).keep k2 |>.keep k3
theorem evAppend_ok {P : Program} {s s2 : MS} {t ty0 : TypeId} {x y : MV} {p : OProp} {m : MV} (h : evAppend P s t x y = .upd p s2 m) (hp : p.holds) {S0 : Nat → Prop} {w0 : Base} {w : World} {c : Ctx} (hM : Mem S0 w0 s.bx c w)
  (hnp : ∀ i b z, w0.pin i b z → i < s.np) {xv yv : Value} (hx : Rep c w x xv) (hy : Rep c w y yv) :
  ∃ b v w' c', (Builtin.append_ #[t, t] ty0 #[xv, yv]).run P w = .ok v w' ∧ Mem S0 w0 s2.bx c' w' ∧ (∀ m v, m.ment b = false → Rep c w m v → Rep c' w' m v) ∧ s2.tm = killTm b s.tm ∧ s2.n = s.n ∧ s2.np = s.np ∧ Rep c' w' m v := by
 unfold evAppend at h
 split at h
 ·rename_i e hu
  split at h
  ·rename_i i hi
   split at h
   ·rename_i b off len
    split at h
    ·rename_i bx hb
     obtain ⟨fz, bc⟩ := bx
     split at h
     ·rename_i p1 nw hnw
      split at h
      ·rename_i q bc' happ
       cases hc : (off.beq 0 && !fz && i.size.beq bc.wd && (0).blt i.size && (0).blt i.bytes && (match i.zero with | some z => z.cells.size.beq i.size | none => false) && s.np.ble b && bxFree b 0 s.bx) with
       | false =>
        have : (bif off.beq 0 && !fz && i.size.beq bc.wd && (0).blt i.size && (0).blt i.bytes && (match i.zero with | some z => z.cells.size.beq i.size | none => false) && s.np.ble b && bxFree b 0 s.bx then
         (Act1.upd (oand2 p1 (oand2 q (some ((len + nw.len) * i.bytes ≤ 140737488355328)))) ⟨s.n, killTm b s.tm, setNth s.bx b ⟨false, bc'⟩, s.np⟩ (.bs b 0 (len + nw.len))) else .stuck) = .upd p s2 m := h
        rw [hc] at this; simp at this
       | true =>
        have h : (bif off.beq 0 && !fz && i.size.beq bc.wd && (0).blt i.size && (0).blt i.bytes && (match i.zero with | some z => z.cells.size.beq i.size | none => false) && s.np.ble b && bxFree b 0 s.bx then
         (Act1.upd (oand2 p1 (oand2 q (some ((len + nw.len) * i.bytes ≤ 140737488355328)))) ⟨s.n, killTm b s.tm, setNth s.bx b ⟨false, bc'⟩, s.np⟩ (.bs b 0 (len + nw.len))) else .stuck) = .upd p s2 m := h
        rw [hc, cond_true, Act1.upd.injEq] at h
        obtain ⟨rfl, rfl, rfl⟩ := h
        simp only [Bool.and_eq_true, Bool.not_eq_true', Nat.beq_eq, Nat.blt_eq, Nat.ble_eq] at hc
        obtain ⟨⟨⟨⟨⟨⟨⟨rfl, rfl⟩, hsz⟩, hpos⟩, hby⟩, hz⟩, hnpb⟩, hfree⟩ := hc
        have hsz : i.size = bc.wd := hsz
        have happ : bc.app len nw = some (q, bc') := happ
        obtain ⟨hp1, hp2⟩ := oand2_holds.1 hp
        obtain ⟨hq, hlim⟩ := oand2_holds.1 hp2
        have hlim : (len + nw.len) * i.bytes ≤ 140737488355328 := hlim
        obtain ⟨z, hz0, hzs⟩ : ∃ z, i.zero = some z ∧ z.cells.size = i.size := by
         split at hz
         ·rename_i z hz0; exact ⟨z, hz0, by simpa using hz⟩
         ·simp at hz
        obtain ⟨hnwd, hbwd⟩ := app_wd happ
        have hNR := evNews_ok hnw hp1 hy hM.box
        rw [hnwd, ← hsz] at hNR
        obtain ⟨ax, capx, cs, rfl, hcl, hone, hNC, hcells⟩ := hNR
        obtain ⟨a, cap, rfl, hcap, hor⟩ := rep_bs hx
        have hpin : ∀ k z, ¬ w0.pin b k z := fun k z hk => by have := hnp b k z hk; omega
        have hle63 : len + nw.len ≤ 140737488355328 := Nat.le_trans (Nat.le_mul_of_pos_right _ hby) hlim
        rw [hsz] at hNC
        rcases Nat.eq_zero_or_pos nw.len with h0 | h0
        ·
         rw [h0]
         have hcs : cs = [] := List.eq_nil_of_length_eq_zero (by rw [hcl, h0, Nat.zero_mul])
         refine ⟨b, _, w, c, run_append_zero w t ty0 e i hu hi a ax len cap capx hcap, ?_, fun _ _ _ h => h, rfl, rfl, rfl, hx⟩
         refine hM.setc hb hbwd fun arr hl hrep => ?_
         refine (app_rep (c := c) (c' := c) ⟨fun _ _ h => h, fun _ _ h => h, fun _ h => h.elim, fun _ _ _ => rfl, fun _ _ _ => rfl⟩ happ hq (.inr hrep) hNC (fun j u _ hu => hu) (fun j u hu => by rw [hcs] at hu; simp at hu)).2
        ·obtain ⟨ad, rfl, hcell⟩ := hcells h0
         rcases hor with ⟨rfl, hl, hs⟩ | ⟨rfl, rfl, rfl⟩
         ·obtain ⟨arr, ty, q1, q2, q3, q4⟩ := hM.box b _ hl hb
          have q3 : (c.sz b).wd = bc.wd := q3
          rw [q3, ← hsz] at hs
          have hszarr : arr.size = cap * i.size := by omega
          have hlenfit : len * i.size ≤ cap * i.size := Nat.mul_le_mul_right _ hcap
          by_cases hroom : len + nw.len ≤ cap
          ·have hfit : len * i.size + cs.length ≤ arr.size := by rw [hcl, hszarr, ← Nat.add_mul]; exact Nat.mul_le_mul_right _ hroom
           have hfit' : len * i.size + cs.length ≤ arr.toList.length := by simpa using hfit
           have hrun := run_append_room2 (P := P) w t ty0 e ty i hu hi (c.β b) len cap arr q1 ad nw.len capx cs hcl hcell hone hroom hfit
           obtain ⟨hm2, hk2⟩ := hM.write hb hl q1 (bc' := bc') (splice arr.toList (len * i.size) cs).toArray (by rw [List.size_toArray, len_splice _ _ _ hfit']; simpa using q2) hbwd
            (fun w' kk => (app_rep (c := c) (c' := c) kk.elem happ hq (.inr q4) hNC
             (fun j u hj hu => by
              rw [List.getElem?_toArray, get_splice _ _ _ _ hfit', if_pos (by rw [hsz]; exact hj)]
              simpa using hu)
             (fun j u hu => by
              have hj := (List.getElem?_eq_some_iff.1 hu).1
              rw [List.getElem?_toArray, get_splice _ _ _ _ hfit', if_neg (by rw [hsz]; omega), if_pos (by rw [hsz]; omega), ← hsz, Nat.add_sub_cancel_left]
              exact hu)).2)
           refine ⟨b, _, _, c, hrun, hm2, fun _ _ _ hr => hr.keep hk2, rfl, rfl, rfl, mk_cell rfl (by simp) rfl ⟨_, cap, rfl, hroom, .inl ⟨rfl, hl, by rw [q3, ← hsz]; omega⟩⟩⟩
          ·have holds : ∀ (j : Nat) v, (arr.toList.take (len * i.size))[j]? = some v → w.cell? ((⟨c.β b, 0, none⟩ : Addr).add j) = some v := fun j v hv => by
            refine cells_at q1 0 j v ?_
            rw [List.getElem?_take] at hv
            split at hv
            ·rw [Nat.zero_add]; simpa using hv
            ·simp at hv
           have hlo : (arr.toList.take (len * i.size)).length = len * i.size := by simp; omega
           have hrun := run_append_grow (P := P) w t ty0 e i z hu hi hz0 ⟨c.β b, 0, none⟩ len cap _ hlo holds ad nw.len capx cs hcl hcell (by omega) (by omega) (growslice_fits (by omega) hlim)
           have hcapge := grownCap_ge w (len + nw.len) cap e
           generalize hA : ((arr.toList.take (len * i.size)).toArray ++ cs.toArray ++ Builtin.zeroCells z.cells (grownCap w (len + nw.len) cap e - (len + nw.len))) = A at hrun
           have hAs : A.size = grownCap w (len + nw.len) cap e * i.size := by
            rw [← hA]
            simp only [Array.size_append, List.size_toArray, size_zeroCells, hzs, hlo, hcl, ← Nat.add_mul]
            congr 1; omega
           have hAg : ∀ j, j < len * i.size + cs.length → A[j]? = (arr.toList.take (len * i.size) ++ cs)[j]? := fun j hj => by
            rw [← hA, Array.getElem?_append_left (by simp only [Array.size_append, List.size_toArray, hlo]; exact hj)]
            simp
           obtain ⟨c', hm, hk, hl', hβ', hs'⟩ := hM.renew hb hfree hpin A e bc' (fun c' kk => (app_rep kk happ hq (.inr q4) hNC
             (fun j u hj hu => by
              rw [← hsz] at hj
              rw [hAg j (by omega), List.getElem?_append_left (by omega), List.getElem?_take, if_pos hj]
              simpa using hu)
             (fun j u hu => by
              have hj := (List.getElem?_eq_some_iff.1 hu).1
              rw [← hsz, hAg _ (by omega), List.getElem?_append_right (by omega), hlo, Nat.add_sub_cancel_left]
              exact hu)).2)
           refine ⟨b, _, _, c', hrun, hm, hk, rfl, rfl, rfl, mk_cell rfl (by simp) rfl ⟨_, _, rfl, hcapge, .inl ⟨by rw [hβ'], hl', ?_⟩⟩⟩
           rw [hs', hbwd]
           show 0 + _ * bc.wd = A.size
           rw [hAs, hsz]; omega
         ·have hrun := run_append_nil (P := P) w t ty0 e i z hu hi hz0 ad nw.len capx cs hcl hcell h0 (by omega) (by rw [Nat.zero_add] at hlim; omega)
          have hcapge := grownCap_ge w nw.len 0 e
          generalize hA : (cs.toArray ++ Builtin.zeroCells z.cells (grownCap w nw.len 0 e - nw.len)) = A at hrun
          have hAs : A.size = grownCap w nw.len 0 e * i.size := by
           rw [← hA]
           simp only [Array.size_append, List.size_toArray, size_zeroCells, hzs, hcl, ← Nat.add_mul]
           congr 1; omega
          obtain ⟨c', hm, hk, hl', hβ', hs'⟩ := hM.renew hb hfree hpin A e bc' (fun c' kk => (app_rep (arr := #[]) kk happ hq (.inl rfl) hNC
            (fun j u hj _ => by rw [Nat.zero_mul] at hj; omega)
            (fun j u hu => by
             have hj := (List.getElem?_eq_some_iff.1 hu).1
             rw [Nat.zero_mul, Nat.zero_add, ← hA, Array.getElem?_append_left (by simpa using hj)]
             simpa using hu)).2)
          refine ⟨b, _, _, c', hrun, hm, hk, rfl, rfl, rfl, mk_cell rfl (by simp) rfl ⟨_, _, by rw [Nat.zero_add], by rw [Nat.zero_add]; exact hcapge, .inl ⟨by rw [hβ'], hl', ?_⟩⟩⟩
          rw [hs', hbwd]
          show 0 + _ * bc.wd = A.size
          rw [hAs, hsz]; omega
      ·simp at h
     ·simp at h
    ·simp at h
   ·simp at h
  ·simp at h
 ·simp at h
end Go.Proofs.YtnfmjlhkknndhaaGreat
/-
 The evaluator is right: calls of functions that write what they are given.
-/
namespace Go.Proofs.YtnfmjlhkknndhaaGreat
open Go Go.RowKit
theorem Mem.re {S0 : Nat → Prop} {w0 : Base} {w w' : World} {bx bx' : List Box} {c : Ctx} (h : Mem S0 w0 bx c w) (he : ExtB w0 w') (hsz : w.heap.size ≤ w'.heap.size) (hl : bx'.length = bx.length)
  (hfz : ∀ (i : Nat) b', nth bx' i = some b' → ∃ b, nth bx i = some b ∧ b.fz = b'.fz) (hfz' : ∀ (i : Nat) b, nth bx i = some b → ∃ b', nth bx' i = some b' ∧ b'.fz = b.fz)
  (hb : ∀ i b, c.live i → nth bx' i = some b → BoxRep c w' i b) : Mem S0 w0 bx' c w' := by
 refine ⟨he, h.S0lt, h.gl, h.hS, fun b => (h.hW b).trans ⟨?_, ?_⟩, h.inj, fun i hi => ⟨(h.fresh i hi).1, Nat.lt_of_lt_of_le (h.fresh i hi).2.1 hsz, by rw [hl]; exact (h.fresh i hi).2.2⟩, hb, h.pin⟩
 ·rintro ⟨i, b0, h1, h2, h3, h4⟩
  obtain ⟨b', q1, q2⟩ := hfz' i b0 h2
  exact ⟨i, b', h1, q1, by rw [q2]; exact h3, h4⟩
 ·rintro ⟨i, b0, h1, h2, h3, h4⟩
  obtain ⟨b', q1, q2⟩ := hfz i b0 h2
  exact ⟨i, b', h1, q1, by rw [q2]; exact h3, h4⟩
theorem gives_spec {s : MS} : ∀ (l : List MV) (acc : List Nat) (ms : List MV) (is : List Nat), s.gives l acc = some (ms, is) → acc.Nodup → (∀ i ∈ acc, ∃ b, nth s.bx i = some b ∧ b.fz = false ∧ 1 ≤ b.c.wd) →
  (∃ r, is = acc ++ r) ∧ is.Nodup ∧ (∀ i ∈ is, ∃ b, nth s.bx i = some b ∧ b.fz = false ∧ 1 ≤ b.c.wd)
 | [], acc, ms, is, h, hn, ha => by
  simp only [MS.gives, Option.some.injEq, Prod.mk.injEq] at h
  obtain ⟨_, rfl⟩ := h
  exact ⟨⟨[], by simp⟩, hn, ha⟩
 | m :: l, acc, ms, is, h, hn, ha => by
  unfold MS.gives at h
  split at h
  ·rename_i i off len
   split at h
   ·rename_i b hb
    cases hc : (!b.fz && !(acc.elem i) && b.c.wd.blt 1000000 && (1).ble b.c.wd) with
    | false => rw [hc] at h; simp at h
    | true =>
     rw [hc, cond_true] at h
     simp only [Bool.and_eq_true, Bool.not_eq_true', Nat.ble_eq] at hc
     obtain ⟨⟨⟨h1, h2⟩, _⟩, h3⟩ := hc
     have h2 : i ∉ acc := by simpa using h2
     split at h
     ·rename_i l' acc' hg
      simp only [Option.some.injEq, Prod.mk.injEq] at h
      obtain ⟨rfl, rfl⟩ := h
      obtain ⟨⟨r, q1⟩, q2, q3⟩ := gives_spec l (acc ++ [i]) l' acc' hg (by
       rw [List.nodup_append]
       exact ⟨hn, by simp, fun a ha b hb => by simp at hb; subst hb; exact fun e => h2 (e ▸ ha)⟩) (fun j hj => by
       rcases List.mem_append.1 hj with hj | hj
       ·exact ha j hj
       ·simp at hj; subst hj; exact ⟨b, hb, h1, h3⟩)
      exact ⟨⟨i :: r, by rw [q1]; simp⟩, q2, q3⟩
     ·simp at h
   ·simp at h
  ·cases hc : m.clean true with
   | false => rw [hc] at h; simp at h
   | true =>
    rw [hc, cond_true] at h
    split at h
    ·rename_i l' acc' hg
     simp only [Option.some.injEq, Prod.mk.injEq] at h
     obtain ⟨rfl, rfl⟩ := h
     exact gives_spec l acc l' acc' hg hn ha
    ·simp at h
def givenCtx (c : Ctx) (is : List Nat) : Ctx :=
 ⟨c.S, fun b => ∃ j i, nth is j = some i ∧ c.live i ∧ c.β i = b, fun j => ∃ i, nth is j = some i ∧ c.live i,
 fun j => match nth is j with | some i => c.β i | none => 0, fun j => match nth is j with | some i => c.sz i | none => ⟨0, 0⟩⟩
theorem gives_rep {s : MS} {c : Ctx} {w : World} (hWS : ∀ (is : List Nat), (∀ i ∈ is, ∃ b, nth s.bx i = some b ∧ b.fz = false ∧ 1 ≤ b.c.wd) → ∀ b, (givenCtx c is).W b → c.W b) :
  ∀ (l : List MV) (acc : List Nat) (ms : List MV) (is : List Nat), s.gives l acc = some (ms, is) → acc.Nodup → (∀ i ∈ acc, ∃ b, nth s.bx i = some b ∧ b.fz = false ∧ 1 ≤ b.c.wd) →
  ∀ vs, Pair c w l vs → RepAll (givenCtx c is) w ms vs
 | [], acc, ms, is, h, hn, ha, vs, hp => by
  simp only [MS.gives, Option.some.injEq, Prod.mk.injEq] at h
  obtain ⟨rfl, _⟩ := h
  cases vs with
  | nil => rfl
  | cons _ _ => exact hp.elim
 | m :: l, acc, ms, is, h, hn, ha, vs, hp => by
  cases vs with
  | nil => exact hp.elim
  | cons v vs =>
   obtain ⟨hv, hp⟩ := hp
   have hspec := gives_spec (m :: l) acc ms is h hn ha
   unfold MS.gives at h
   split at h
   ·rename_i i off len
    split at h
    ·rename_i b hb
     cases hc : (!b.fz && !(acc.elem i) && b.c.wd.blt 1000000 && (1).ble b.c.wd) with
     | false => rw [hc] at h; simp at h
     | true =>
      rw [hc, cond_true] at h
      simp only [Bool.and_eq_true, Bool.not_eq_true', Nat.ble_eq] at hc
      obtain ⟨⟨⟨h1, h2⟩, _⟩, h3⟩ := hc
      have h2 : i ∉ acc := by simpa using h2
      split at h
      ·rename_i l' acc' hg
       simp only [Option.some.injEq, Prod.mk.injEq] at h
       obtain ⟨rfl, rfl⟩ := h
       have hn' : (acc ++ [i]).Nodup := by
        rw [List.nodup_append]
        exact ⟨hn, by simp, fun a ha b hb => by simp at hb; subst hb; exact fun e => h2 (e ▸ ha)⟩
       have ha' : ∀ j ∈ acc ++ [i], ∃ b, nth s.bx j = some b ∧ b.fz = false ∧ 1 ≤ b.c.wd := fun j hj => by
        rcases List.mem_append.1 hj with hj | hj
        ·exact ha j hj
        ·simp at hj; subst hj; exact ⟨b, hb, h1, h3⟩
       obtain ⟨⟨r, q1⟩, _, _⟩ := gives_spec l (acc ++ [i]) l' acc' hg hn' ha'
       have hnth : nth acc' acc.length = some i := by rw [q1]; simp [nth_eq]
       refine ⟨v, vs, rfl, ?_, gives_rep hWS l (acc ++ [i]) l' acc' hg hn' ha' vs hp⟩
       obtain ⟨a, cap, rfl, hcap, hor⟩ := rep_bs hv
       refine (rep1_cell rfl (by simp)).2 ⟨a, cap, rfl, hcap, hor.imp (fun ⟨e1, e2, e3⟩ => ⟨?_, ⟨i, hnth, e2⟩, ?_⟩) id⟩
       ·simp only [givenCtx, hnth]; exact e1
       ·simp only [givenCtx, hnth]; exact e3
      ·simp at h
    ·simp at h
   ·cases hc : m.clean true with
    | false => rw [hc] at h; simp at h
    | true =>
     rw [hc, cond_true] at h
     split at h
     ·rename_i l' acc' hg
      simp only [Option.some.injEq, Prod.mk.injEq] at h
      obtain ⟨rfl, rfl⟩ := h
      have hT : m.isTup = false := by cases m <;> first | rfl | (simp [MV.clean] at hc)
      exact ⟨v, vs, rfl, Rep1.clean (c := c) (c' := givenCtx c acc') (r := true) (fun b hb => hb) (fun _ b hb => hWS acc' hspec.2.2 b hb) hc ((rep1_iff hT).1 hv), gives_rep hWS l acc l' acc' hg hn ha vs hp⟩
     ·simp at h
theorem conts_spec {bx : List Box} : ∀ (is : List Nat) (bcs : List BC), conts bx is = some bcs → bcs.length = is.length ∧ ∀ (j i : Nat), nth is j = some i → ∃ b, nth bx i = some b ∧ nth bcs j = some b.c
 | [], bcs, h => by simp only [conts, Option.some.injEq] at h; subst h; exact ⟨rfl, fun j i h => by simp [nth] at h⟩
 | k :: r, bcs, h => by
  simp only [conts] at h
  split at h
  ·rename_i b l hb hl
   simp only [Option.some.injEq] at h
   subst h
   obtain ⟨h1, h2⟩ := conts_spec r l hl
   refine ⟨by simp [h1], fun j i hj => ?_⟩
   cases j with
   | zero => simp only [nth, Option.some.injEq] at hj; subst hj; exact ⟨b, hb, rfl⟩
   | succ j => exact h2 j i hj
  ·simp at h
theorem putAll_spec : ∀ (is : List Nat) (l : List BC) (bx : List Box), is.Nodup → l.length = is.length → (∀ i ∈ is, i < bx.length) →
  (putAll is l bx).length = bx.length ∧ (∀ i, i ∉ is → nth (putAll is l bx) i = nth bx i) ∧ (∀ (j i : Nat) bc, nth is j = some i → nth l j = some bc → nth (putAll is l bx) i = some ⟨false, bc⟩)
 | [], l, bx, _, _, _ => by
  have e : putAll [] l bx = bx := by cases l <;> rfl
  rw [e]
  exact ⟨rfl, fun _ _ => rfl, fun j i bc h => by simp [nth] at h⟩
 | k :: r, [], bx, _, hl, _ => by simp at hl
 | k :: r, b :: l, bx, hn, hl, hlt => by
  simp only [putAll]
  rw [List.nodup_cons] at hn
  obtain ⟨h1, h2, h3⟩ := putAll_spec r l (setNth bx k ⟨false, b⟩) hn.2 (by simpa using hl) (fun i hi => by rw [length_setNth]; exact hlt i (by simp [hi]))
  refine ⟨by rw [h1, length_setNth], fun i hi => ?_, fun j i bc hj hb => ?_⟩
  ·simp only [List.mem_cons, not_or] at hi
   rw [h2 i hi.2, nth_setNth, if_neg (fun q => hi.1 q.1.symm)]
  ·cases j with
   | zero =>
    simp only [nth, Option.some.injEq] at hj hb
    subst hj; subst hb
    rw [h2 k hn.1, nth_setNth, if_pos ⟨rfl, hlt k (by simp)⟩]
   | succ j => exact h3 j i bc hj hb
theorem nth_mem {α : Type} {l : List α} {j : Nat} {x : α} (h : nth l j = some x) : x ∈ l := by rw [nth_eq] at h; exact List.mem_of_getElem? h
theorem nth_of_mem {α : Type} {l : List α} {x : α} (h : x ∈ l) : ∃ j, nth l j = some x := by
 obtain ⟨j, hj, rfl⟩ := List.getElem_of_mem h
 exact ⟨j, by rw [nth_eq]; simp [hj]⟩
theorem nth_nodup {l : List Nat} (hn : l.Nodup) {j k x : Nat} (h1 : nth l j = some x) (h2 : nth l k = some x) : j = k := by
 rw [nth_eq] at h1 h2
 have l1 := (List.getElem?_eq_some_iff.1 h1).1
 exact (List.getElem?_inj l1 hn).1 (h1.trans h2.symm)
theorem evWr_ok {P : Program} {s s2 : MS} {k : MCtr P} {l : List MV} {p : OProp} {m : MV} (h : evWr s k l = .upd p s2 m) (hp : p.holds) {S0 : Nat → Prop} {w0 : Base} {w : World} {c : Ctx} (hM : Mem S0 w0 s.bx c w)
  {vs : List Value} (hv : Pair c w l vs) :
  Calls P k.f vs.toArray w fun e w' => e = .returned (.tuple #[]) ∧ Mem S0 w0 s2.bx c w' ∧ Keeps c c w w' ∧ s2.tm = s.tm ∧ s2.n = s.n ∧ s2.np = s.np ∧ m = .tup [] := by
 unfold evWr at h
 split at h
 ·rename_i ms is hg
  split at h
  ·rename_i bcs hcs
   split at h
   ·rename_i p' bcs' hsp
    cases hwd : wdsEq bcs bcs' with
    | false => rw [hwd] at h; simp at h
    | true =>
     rw [hwd, cond_true, Act1.upd.injEq] at h
     obtain ⟨rfl, rfl, rfl⟩ := h
     obtain ⟨_, hnd, hbx⟩ := gives_spec l [] ms is hg List.nodup_nil (by simp)
     have hWS : ∀ (is : List Nat), (∀ i ∈ is, ∃ b, nth s.bx i = some b ∧ b.fz = false ∧ 1 ≤ b.c.wd) → ∀ b, (givenCtx c is).W b → c.W b := by
      rintro is his b ⟨j, i, h1, h2, h3⟩
      obtain ⟨bb, q1, q2, _⟩ := his i (nth_mem h1)
      exact (hM.hW b).2 ⟨i, bb, h2, q1, q2, h3⟩
     have hrep := gives_rep hWS l [] ms is hg List.nodup_nil (by simp) vs hv
     obtain ⟨hcl, hcn⟩ := conts_spec is bcs hcs
     have hne : ∀ (i : Nat) b, nth s.bx i = some b → i ∈ is → ∀ m, b.c ≠ .one m := by
      intro i b hb hi m e
      obtain ⟨b2, q1, _, q3⟩ := hbx i hi
      rw [hb, Option.some.injEq] at q1
      subst q1
      rw [e] at q3; simp [BC.wd] at q3
     have hgiven : Given (givenCtx c is).W (givenCtx c is) w bcs := by
      refine ⟨hM.Slt, fun b hb => hM.WS b (hWS is hbx b hb), fun b => ?_, fun _ => Iff.rfl, ?_, ?_, ?_⟩
      ·constructor
       ·rintro ⟨j, i, h1, h2, h3⟩; exact ⟨j, ⟨i, h1, h2⟩, by simp only [givenCtx, h1]; exact h3⟩
       ·rintro ⟨j, ⟨i, h1, h2⟩, h3⟩; exact ⟨j, i, h1, h2, by simpa only [givenCtx, h1] using h3⟩
      ·rintro j j' ⟨i, h1, h2⟩ ⟨i', h1', h2'⟩ e
       simp only [givenCtx, h1, h1'] at e
       have := hM.inj i i' h2 h2' e
       subst this
       exact nth_nodup hnd h1 h1'
      ·rintro j ⟨i, h1, _⟩
       rw [hcl]; exact nth_lt h1
      ·rintro j bc ⟨i, h1, h2⟩ hj
       obtain ⟨b, q1, q2⟩ := hcn j i h1
       rw [hj, Option.some.injEq] at q2
       subst q2
       obtain ⟨arr, ty, r1, r2, r3, r4⟩ := hM.box i b h2 q1
       refine ⟨arr, ty, by simp only [givenCtx, h1]; exact r1, by simp only [givenCtx, h1]; exact r2, by simp only [givenCtx, h1]; exact r3, ?_⟩
       have hno := hne i b q1 (nth_mem h1)
       obtain ⟨fz, bc⟩ := b
       cases bc with
       | one m => exact absurd rfl (hno m)
       | arr k l => exact r4
       | rows wd len f => exact r4
     refine (k.ok (givenCtx c is).W (givenCtx c is) w bcs bcs' ms vs.toArray p' hsp hp hgiven hM.gw (by simpa using hrep)).mono ?_
     rintro e w' ⟨he, hext, hlen, hbox⟩
     have hlt : ∀ i ∈ is, i < s.bx.length := fun i hi => by obtain ⟨b, q, _⟩ := hbx i hi; exact nth_lt q
     obtain ⟨p1, p2, p3⟩ := putAll_spec is bcs' s.bx hnd (by rw [hlen, hcl]) hlt
     have hkeep : Keeps c c w w' := ⟨fun _ _ h => h, fun _ _ h => h, fun i hi => ⟨hi, rfl, rfl⟩, fun b hb hS => hext.block b hb (fun hx => hS (hM.WS b (hWS is hbx b hx))), fun b hb hW => hext.block b hb (fun hx => hW (hWS is hbx b hx))⟩
     have hget : ∀ i ∈ is, ∃ j bc, nth is j = some i ∧ nth bcs' j = some bc := fun i hi => by
      obtain ⟨j, hj⟩ := nth_of_mem hi
      have : j < bcs'.length := by rw [hlen, hcl]; exact nth_lt hj
      exact ⟨j, bcs'[j], hj, by rw [nth_eq]; simp [this]⟩
     refine ⟨he, hM.re ⟨hext.os.trans hM.ext.os, hext.output.trans hM.ext.output, Nat.le_trans hM.ext.size hext.size, fun b hb hx => ?_, fun a ha => (hext.frz a (Nat.lt_of_lt_of_le ha hM.ext.size)).trans (hM.ext.frz a ha)⟩ hext.size p1 ?_ ?_ ?_, hkeep, rfl, rfl, rfl, rfl⟩
     ·refine (hext.block b (Nat.lt_of_lt_of_le hb hM.ext.size) ?_).trans (hM.ext.block b hb hx)
      rintro ⟨j, i, h1, h2, rfl⟩
      rcases (hM.fresh i h2).1 with q | q
      ·omega
      ·exact hx q
     ·intro i b' hb'
      by_cases hi : i ∈ is
      ·obtain ⟨j, bc, h1, h2⟩ := hget i hi
       rw [p3 j i bc h1 h2, Option.some.injEq] at hb'
       subst hb'
       obtain ⟨b, q1, q2, _⟩ := hbx i hi
       exact ⟨b, q1, q2⟩
      ·rw [p2 i hi] at hb'; exact ⟨b', hb', rfl⟩
     ·intro i b hb
      by_cases hi : i ∈ is
      ·obtain ⟨j, bc, h1, h2⟩ := hget i hi
       obtain ⟨b2, q1, q2, _⟩ := hbx i hi
       rw [hb, Option.some.injEq] at q1
       subst q1
       exact ⟨_, p3 j i bc h1 h2, q2.symm⟩
      ·exact ⟨b, by rw [p2 i hi]; exact hb, rfl⟩
     ·intro i b hl hb
      by_cases hi : i ∈ is
      ·obtain ⟨j, bc, h1, h2⟩ := hget i hi
       rw [p3 j i bc h1 h2, Option.some.injEq] at hb
       subst hb
       obtain ⟨arr, ty, r1, r2, r3, r4⟩ := hbox j bc ⟨i, h1, hl⟩ h2
       simp only [givenCtx, h1] at r1 r2 r3
       refine ⟨arr, ty, r1, r2, r3, ?_⟩
       obtain ⟨b2, q1, _, q3⟩ := hbx i hi
       obtain ⟨_, _, _, _, r3', _⟩ := hM.box i b2 hl q1
       have r3 : (c.sz i).wd = bc.wd := r3
       cases bc with
       | one m => rw [r3'] at r3; simp only [BC.wd] at r3 q3; rw [r3] at q3; omega
       | arr k l => exact r4
       | rows wd len f => exact r4
      ·rw [p2 i hi] at hb
       refine (hM.box i b hl hb).keep hkeep hl (hext.block _ (hM.fresh i hl).2.1 ?_)
       rintro ⟨j, i', h1, h2, h3⟩
       have := hM.inj i' i h2 hl h3
       subst this
       exact hi (nth_mem h1)
   ·simp at h
  ·simp at h
 ·simp at h
theorem Mem.adopt {S0 : Nat → Prop} {w0 : Base} {w w' : World} {bx : List Box} {c : Ctx} (h : Mem S0 w0 bx c w) (e : Ext w w') (id : Nat) (hid : w.heap.size ≤ id) (b : Box)
  (live' : Nat → Prop) (β' : Nat → Nat) (sz' : Nat → Sz) (hl : ∀ i, live' i ↔ c.live i ∨ i = bx.length) (hβ : ∀ i, c.live i → β' i = c.β i) (hs : ∀ i, c.live i → sz' i = c.sz i)
  (hβ' : β' bx.length = id) (hlt' : id < w'.heap.size)
  (hbox : ∀ c', Keeps c c' w w' → c'.live = live' → c'.β = β' → c'.sz = sz' → BoxRep c' w' bx.length b) :
  Mem S0 w0 (bx ++ [b]) (ctxOf S0 (bx ++ [b]) live' β' sz') w' ∧ Keeps c (ctxOf S0 (bx ++ [b]) live' β' sz') w w' := by
 have hlt : ∀ i, c.live i → i < bx.length := fun i hi => (h.fresh i hi).2.2
 have hnth : ∀ i, i < bx.length → nth (bx ++ [b]) i = nth bx i := fun i hi => by simp only [nth_eq]; rw [List.getElem?_append_left hi]
 have hnthb : nth (bx ++ [b]) bx.length = some b := by simp [nth_eq]
 have hWn : ∀ x, Wof (bx ++ [b]) live' β' x → c.W x ∨ x = id := by
  rintro x ⟨i, b0, h1, h2, h3, h4⟩
  rcases (hl i).1 h1 with hi | rfl
  ·refine .inl ((h.hW x).2 ⟨i, b0, hi, ?_, h3, by rw [← hβ i hi]; exact h4⟩)
   rwa [hnth i (hlt i hi)] at h2
  ·exact .inr (by rw [← h4, hβ'])
 have k : Keeps c (ctxOf S0 (bx ++ [b]) live' β' sz') w w' := by
  refine ⟨fun x hlt hx => ?_, fun x hlt hx => ?_, fun i hi => ⟨(hl i).2 (.inl hi), hβ i hi, hs i hi⟩, fun x hx _ => e.block x hx, fun x hx _ => e.block x hx⟩
  ·rcases hx with hx | hx
   ·exact (h.hS x).2 (.inl hx)
   ·rcases hWn x hx with hx | rfl
    ·exact h.WS x hx
    ·omega
  ·rcases hWn x hx with hx | rfl
   ·exact hx
   ·omega
 refine ⟨⟨h.ext.trans e, h.S0lt, h.gl, fun b => Iff.rfl, fun b => Iff.rfl, ?_, ?_, ?_, fun i b z hp => by obtain ⟨q1, q2, q3⟩ := h.pin i b z hp; exact ⟨(hl i).2 (.inl q1), (hβ i q1).trans q2, (hs i q1).trans q3⟩⟩, k⟩
 ·intro i j hi hj e
  have e : β' i = β' j := e
  rcases (hl i).1 hi with hi | rfl <;> rcases (hl j).1 hj with hj | rfl
  ·rw [hβ i hi, hβ j hj] at e; exact h.inj i j hi hj e
  ·rw [hβ i hi, hβ'] at e; have := (h.fresh i hi).2.1; omega
  ·rw [hβ j hj, hβ'] at e; have := (h.fresh j hj).2.1; omega
  ·rfl
 ·intro i hi
  show w0.new (β' i) ∧ β' i < w'.heap.size ∧ i < (bx ++ [b]).length
  rw [List.length_append, List.length_singleton]
  rcases (hl i).1 hi with hi | rfl
  ·rw [hβ i hi]; have := h.fresh i hi; have := e.size; exact ⟨(h.fresh i hi).1, by omega⟩
  ·rw [hβ']; exact ⟨.inl (Nat.le_trans h.ext.size hid), by omega⟩
 ·intro i b0 hi hb0
  rcases (hl i).1 hi with hi | rfl
  ·rw [hnth i (hlt i hi)] at hb0
   exact (h.box i b0 hi hb0).keep k hi (e.block _ (h.fresh i hi).2.1)
  ·rw [hnthb, Option.some.injEq] at hb0
   subst hb0
   exact hbox _ k rfl rfl rfl
theorem evNw_ok {P : Program} {s s2 : MS} {k : NCtr P} {l : List MV} {p : OProp} {m : MV} (h : evMut s (.nw k) l = .upd p s2 m) (hp : p.holds) {S0 : Nat → Prop} {w0 : Base} {w : World} {c : Ctx} (hM : Mem S0 w0 s.bx c w) {vs : List Value} (hv : Pair c w l vs) :
  Calls P k.f vs.toArray w fun e w' => ∃ v c', e = .returned v ∧ Mem S0 w0 s2.bx c' w' ∧ Keeps c c' w w' ∧ s2.tm = s.tm ∧ s2.n = s.n ∧ s2.np = s.np ∧ Rep c' w' m v := by
 simp only [evMut] at h
 split at h
 ·rename_i ms q fz hsh
  split at h
  ·rename_i p' wl hsp
   split at h
   ·simp only [Act1.upd.injEq] at h
    obtain ⟨rfl, rfl, rfl⟩ := h
    obtain ⟨hq, hp'⟩ := oand2_holds.1 hp
    have hall := shows_all (S' := c.S) (fun b hb => hb) hM.box (fun i b hl hb hf => hM.frozen i b hl hb hf) _ ⟨ms, q, []⟩ hsh hq (by simp) vs hv
    refine (k.ok c.S w ms vs.toArray p' wl hsp hp' (fun b hb => hM.Slt b hb) hM.gw (by simpa using hall)).mono ?_
    rintro e w' ⟨hext, b, arr, ty, cap, rfl, hb, hheap, hsz, hcap, hcont⟩
    have hblt : b < w'.heap.size := (Array.getElem?_eq_some_iff.1 hheap).1
    have hnl : ¬ c.live s.bx.length := fun hl => by have := (hM.fresh _ hl).2.2; omega
    have had := hM.adopt hext b hb ⟨false, .arr .u32 wl⟩ (fun i => c.live i ∨ i = s.bx.length) (fun i => if i = s.bx.length then b else c.β i) (fun i => if i = s.bx.length then ⟨cap, 1⟩ else c.sz i) (fun i => Iff.rfl)
     (fun i hi => if_neg (fun e : i = s.bx.length => hnl (e ▸ hi))) (fun i hi => if_neg (fun e : i = s.bx.length => hnl (e ▸ hi))) (if_pos rfl) hblt (fun c' k q1 q2 q3 => by
      refine ⟨arr, ty, by rw [q2]; simpa using hheap, by rw [q3]; simpa using hsz, by rw [q3]; simp [BC.wd], hcont⟩)
    refine ⟨_, _, rfl, had.1, had.2, rfl, rfl, rfl, ?_⟩
    refine (rep1_iff rfl).2 ((rep1_cell rfl (by simp)).2 ⟨some ⟨b, 0, none⟩, cap, rfl, hcap, .inl ⟨?_, .inr rfl, ?_⟩⟩)
    ·show _ = some (⟨if s.bx.length = s.bx.length then b else c.β s.bx.length, 0, none⟩ : Addr)
     rw [if_pos rfl]
    ·show 0 + cap * (if s.bx.length = s.bx.length then (⟨cap, 1⟩ : Sz) else c.sz s.bx.length).wd = (if s.bx.length = s.bx.length then (⟨cap, 1⟩ : Sz) else c.sz s.bx.length).n
     rw [if_pos rfl]; simp
   ·simp at h
  ·simp at h
 ·simp at h
end Go.Proofs.YtnfmjlhkknndhaaGreat
/-
 The evaluator is right: operations that make memory that is not followed.
-/
namespace Go.Proofs.YtnfmjlhkknndhaaGreat
open Go Go.RowKit
theorem noRoom_ok {c : Ctx} {w : World} {m : MV} {v : Value} (h : noRoom m = true) (hr : Rep c w m v) : ∃ a, v = .slice a 0 0 := by
 unfold noRoom at h
 split at h
 ·obtain ⟨a, h1⟩ := rep_cell hr rfl (by simp) rfl
  simp only [List.cons.injEq, and_true] at h1
  exact ⟨a, h1⟩
 ·obtain ⟨h1, _⟩ := rep_cell hr rfl (by simp) rfl
  simp only [List.cons.injEq, and_true] at h1
  exact ⟨none, h1⟩
 ·simp at h
theorem new_rep {c c' : Ctx} {w w' : World} (kE : Keeps c.elem c'.elem w w') {nw : News} {cs : List Value} {size : Nat} (hn : NewsC c w size nw cs) {x : MV} (hx : ev0News x = some nw) {b : Nat} {arr : Array Value} {ty : TypeId} {cap : Nat}
  (hS : ¬ c'.S b) (hb : w'.heap[b]? = some (.cells arr ty (0, 0))) (h2 : ∀ (j : Nat) u, cs[j]? = some u → arr[j]? = some u) (hcap : nw.len ≤ cap) : Rep c' w' x (.slice (some ⟨b, 0, none⟩) nw.len cap) := by
 unfold ev0News at hx
 split at hx
 ·rename_i l
  simp only [Option.some.injEq] at hx
  subst hx
  obtain ⟨_, rfl⟩ := hn
  refine mk_cell rfl (by simp) rfl ⟨_, rfl, _, cap, rfl, hcap, fun _ => ⟨b, 0, rfl, hS, arr, ty, _, hb, fun j v hv => ?_⟩⟩
  rw [Nat.zero_add]; exact h2 j v hv
 ·rename_i wd m g
  simp only [Option.some.injEq] at hx
  subst hx
  obtain ⟨rfl, hn⟩ := hn
  refine mk_cell rfl (by simp) rfl ⟨_, cap, rfl, hcap, fun _ => ⟨b, 0, rfl, hS, fun i hi => ?_⟩⟩
  obtain ⟨ds, r1, r2, r3⟩ := hn i hi
  exact ⟨ds, r1, RepC.keep kE _ _ r2, arr, ty, _, hb, fun j v hv => by rw [Nat.zero_add]; exact h2 _ _ (r3 j v hv)⟩
 ·simp at hx
theorem keeps_ext {c : Ctx} {w w' : World} (e : Ext w w') : Keeps c.elem c.elem w w' :=
 ⟨fun _ _ h => h, fun _ _ h => h, fun _ h => h.elim, fun b hb _ => e.block b hb, fun b hb _ => e.block b hb⟩
theorem ev0App_ok {P : Program} {t ty0 : TypeId} {x y : MV} {p : OProp} {m : MV} (h : ev0App P t x y = some (p, m)) (hp : p.holds) {w : World} {c : Ctx} (hS : ∀ b, c.S b → b < w.heap.size)
  {xv yv : Value} (hx : Rep c w x xv) (hy : Rep c w y yv) :
  ∃ v w', (Builtin.append_ #[t, t] ty0 #[xv, yv]).run P w = .ok v w' ∧ Ext w w' ∧ Rep c w' m v := by
 unfold ev0App at h
 split at h
 ·rename_i e hu
  split at h
  ·rename_i i hi
   split at h
   ·rename_i nw hnw
    cases hc : (noRoom x && i.size.beq nw.wd && (0).blt i.size && (0).blt i.bytes && zeroFits i) with
    | false =>
     rw [hc] at h; simp at h
    | true =>
     rw [hc, cond_true, Option.some.injEq, Prod.mk.injEq] at h
     obtain ⟨rfl, rfl⟩ := h
     simp only [Bool.and_eq_true, Nat.beq_eq, Nat.blt_eq] at hc
     obtain ⟨⟨⟨⟨hnr, hsz⟩, hpos⟩, hby⟩, hz⟩ := hc
     obtain ⟨z, hz0, hzs⟩ : ∃ z, i.zero = some z ∧ z.cells.size = i.size := by
      unfold zeroFits at hz
      split at hz
      ·rename_i z hz0; exact ⟨z, hz0, by simpa using hz⟩
      ·simp at hz
     obtain ⟨a, rfl⟩ := noRoom_ok hnr hx
     have hlim : nw.len * i.bytes ≤ 140737488355328 := hp
     have hNR : NewsR c w i.size nw yv := by
      rw [hsz]
      have e1 : evNews ⟨0, [], [], 0⟩ y = some (none, nw) := by
       unfold ev0News at hnw
       split at hnw
       ·simp only [Option.some.injEq] at hnw; subst hnw; rfl
       ·simp only [Option.some.injEq] at hnw; subst hnw; rfl
       ·simp at hnw
      exact evNews_ok (s := ⟨0, [], [], 0⟩) e1 trivial hy (fun i b _ hb => by simp [nth] at hb)
     obtain ⟨ax, capx, cs, rfl, hcl, hone, hNC, hcells⟩ := hNR
     have hle63 : nw.len ≤ 140737488355328 := Nat.le_trans (Nat.le_mul_of_pos_right _ hby) hlim
     rcases Nat.eq_zero_or_pos nw.len with h0 | h0
     ·rw [h0] at hy ⊢
      refine ⟨_, w, run_append_zero w t ty0 e i hu hi a ax 0 0 capx (Nat.le_refl _), Ext.refl w, ?_⟩
      unfold ev0News at hnw
      split at hnw
      ·rename_i l
       simp only [Option.some.injEq] at hnw; subst hnw
       have : l = [] := List.eq_nil_of_length_eq_zero h0
       subst this
       exact mk_cell rfl (by simp) rfl ⟨_, rfl, a, 0, rfl, Nat.le_refl _, fun h => absurd h (by simp)⟩
      ·rename_i wd m g
       simp only [Option.some.injEq] at hnw; subst hnw
       have h0 : m = 0 := h0
       subst h0
       exact mk_cell rfl (by simp) rfl ⟨a, 0, rfl, Nat.le_refl _, fun h => absurd h (by simp)⟩
      ·simp at hnw
     ·obtain ⟨ad, rfl, hcell⟩ := hcells h0
      have fin : ∀ (A : Array Value) (cap : Nat), (∀ j, j < cs.length → A[j]? = cs[j]?) → nw.len ≤ cap →
        Ext w (w.drew.alloc (.cells A e)) ∧ Rep c (w.drew.alloc (.cells A e)) y (.slice (some ⟨w.heap.size, 0, none⟩) nw.len cap) := by
       intro A cap hA hcap
       have hext : Ext w (w.drew.alloc (.cells A e)) := (Ext.drew w).trans (Ext.alloc w.drew A e)
       refine ⟨hext, new_rep (keeps_ext hext) hNC hnw (fun hs => by have := hS _ hs; omega) (heap_alloc_self w.drew _ _) (fun j u hu => ?_) hcap⟩
       rw [hA j (List.getElem?_eq_some_iff.1 hu).1]; exact hu
      cases a with
      | none =>
       have hrun := run_append_nil (P := P) w t ty0 e i z hu hi hz0 ad nw.len capx cs hcl hcell h0 (by omega) (by omega)
       have := fin (cs.toArray ++ Builtin.zeroCells z.cells (grownCap w nw.len 0 e - nw.len)) _ (fun j hj => by rw [Array.getElem?_append_left (by simpa using hj)]; simp) (grownCap_ge w nw.len 0 e)
       exact ⟨_, _, hrun, this.1, this.2⟩
      | some b =>
       have hrun := run_append_grow (P := P) w t ty0 e i z hu hi hz0 b 0 0 [] (by simp) (by simp) ad nw.len capx cs hcl hcell (by omega) (by omega) (growslice_fits (by omega) (by rw [Nat.zero_add]; exact hlim))
       rw [Nat.zero_add] at hrun
       have := fin (([] : List Value).toArray ++ cs.toArray ++ Builtin.zeroCells z.cells (grownCap w nw.len 0 e - nw.len)) _ (fun j hj => by rw [Array.getElem?_append_left (by simpa using hj)]; simp) (grownCap_ge w nw.len 0 e)
       exact ⟨_, _, hrun, this.1, this.2⟩
   ·simp at h
  ·simp at h
 ·simp at h
theorem ev0Rows_ok {P : Program} {t : TypeId} {len : Nat} {parts : List (Nat × MV)} {p : OProp} {m : MV} (h : ev0Rows P t len parts = some (p, m)) (_hp : p.holds) {c : Ctx} {w : World} (hS : ∀ b, c.S b → b < w.heap.size) {vals : List (Nat × Value)}
  (hk : parts.map (·.1) = vals.map (·.1)) (hv : ∀ (j : Nat) x y, parts[j]? = some x → vals[j]? = some y → Rep c w x.2 y.2) :
  ∃ v w', (Instr.buildSlice t len vals.toArray).run P w = .ok v w' ∧ Ext w w' ∧ Rep c w' m v := by
 unfold ev0Rows at h
 cases hc : (parts.all fun q => q.2.clean false && !q.2.isTup) with
 | false => rw [hc] at h; simp at h
 | true =>
  rw [hc, cond_true] at h
  split at h
  ·rename_i p' b mk he
   split at h
   ·rename_i wd n f hb
    simp only [Option.some.injEq, Prod.mk.injEq] at h
    obtain ⟨rfl, rfl⟩ := h
    have hmk : mk = fun i => .bs i 0 n := by
     unfold evBuildSlice at he
     split at he
     ·split at he
      ·split at he
       ·revert he
        generalize ((_ : List MV).length.beq len && _ && _ && _) = bb
        intro he
        cases bb <;> simp at he
        obtain ⟨_, rfl, _⟩ := he
        simp at hb
       ·simp at he
      ·revert he
       generalize ((_ : List MV).length.beq len && _ && _ && _ && _) = bb
       intro he
       cases bb <;> simp at he
       obtain ⟨_, rfl, rfl⟩ := he
       simp only [BC.rows.injEq] at hb
       rw [← hb.2.1]
      ·simp at he
     ·simp at he
    have := evBuildSlice_ok (vals := vals) (c := c.elem) (w := w) he hk (fun j x y hx hy => by
     have hall := List.all_eq_true.1 hc x (List.mem_of_getElem? hx)
     simp only [Bool.and_eq_true, Bool.not_eq_true'] at hall
     have h1 := (rep1_iff hall.2).1 (hv j x y hx hy)
     exact (rep1_iff hall.2).2 (Rep1.clean (c := c) (c' := c.elem) (r := false) (fun b hb => hb) (fun e => by simp at e) hall.1 h1))
    obtain ⟨arr, ty, v, hrun, _, hnew⟩ := this
    have hext := Ext.alloc w arr ty
    obtain ⟨g1, g2⟩ := hnew ⟨c.S, fun _ => True, fun i => i = 0, fun _ => w.heap.size, fun _ => ⟨arr.size, b.c.wd⟩⟩ 0 ⟨fun _ _ h => h, fun _ _ h => h, fun _ h => h.elim, fun x hx _ => hext.block x hx, fun _ _ h => (h trivial).elim⟩ rfl rfl rfl
    refine ⟨v, _, hrun, hext, ?_⟩
    rw [hmk] at g1
    obtain ⟨ad, cap, e1, e2, e3⟩ := rep_cell g1 rfl (by simp) rfl
    refine (rep1_iff rfl).2 ((rep1_cell rfl (by simp)).2 ⟨ad, cap, e1, e2, fun hpos => ?_⟩)
    rcases e3 with ⟨rfl, _, _⟩ | ⟨_, h0, _⟩
    ·obtain ⟨arr', ty', q1, _, _, q4⟩ := g2
     rw [hb] at q4
     refine ⟨w.heap.size, 0, rfl, fun hs => absurd (hS _ hs) (Nat.lt_irrefl _), fun i hi => ?_⟩
     obtain ⟨cs, r1, r2, r3⟩ := q4 i hi
     exact ⟨cs, r1, r2, arr', ty', _, q1, fun j u hj => by rw [Nat.zero_add]; exact r3 j u hj⟩
    ·omega
   ·simp at h
  ·simp at h
theorem ev0_ok {P : Program} {s : MS} {o : Oper} {p : OProp} {m : MV} (h : ev0 P s o.op = some (p, m)) (hp : p.holds) {w : World} {c : Ctx} {a : Act} (hS : ∀ b, c.S b → b < w.heap.size)
  (HE : Opnds c w s a o.op.operands.toList) : ∃ v w', (execOp a.eval o).run P w = .ok (.value v) w' ∧ Ext w w' ∧ Rep c w' m v := by
 obtain ⟨dst, op, type, pos, after, guard⟩ := o
 cases op with
 | buildSlice t len parts =>
  simp only [ev0] at h
  cases hl : len.beq 0 with
  | false =>
   rw [hl, cond_false] at h
   obtain ⟨v, w', h1, h2, h3⟩ := ev0Rows_ok (vals := parts.toList.map fun q => (q.1, a.eval q.2)) h hp hS (by simp) (fun j x y hx hy => by
    simp only [List.getElem?_map, Option.map_eq_some_iff] at hx hy
    obtain ⟨q, hq, rfl⟩ := hx
    obtain ⟨q', hq', rfl⟩ := hy
    rw [hq, Option.some.injEq] at hq'
    subst hq'
    refine HE _ ?_
    simp only [Op.operands, List.mem_map]
    exact ⟨q, List.mem_of_getElem? hq, rfl⟩)
   have e : (parts.map fun q => (q.1, a.eval q.2)) = (parts.toList.map fun q => (q.1, a.eval q.2)).toArray := by apply Array.ext'; simp
   rw [← e] at h1
   exact ⟨v, w', by simp [execOp, h1, Sem.run_bind, Result.andThen], h2, h3⟩
  | true =>
   rw [hl, cond_true] at h
   simp only [Nat.beq_eq] at hl
   subst hl
   split at h
   ·rename_i hpt
    split at h
    ·rename_i e hu
     split at h
     ·rename_i q ht
      obtain ⟨agg, size⟩ := q
      simp only [Option.some.injEq, Prod.mk.injEq] at h
      obtain ⟨rfl, rfl⟩ := h
      have ep : parts = #[] := Array.ext' hpt
      subst ep
      refine ⟨.slice (some ⟨w.heap.size, 0, none⟩) 0 0, w.alloc (.cells #[] e), ?_, Ext.alloc w _ _, mk_cell rfl (by simp) rfl ⟨_, rfl⟩⟩
      simp [execOp, Instr.buildSlice, run_underlying hu, run_sizeOf_ty ht, newRow, Instr.fill]
      rw [show Array.map (fun _ => (default : Value)) (Array.range 0) = #[] from Array.eq_empty_of_size_eq_zero (by simp)]
     ·simp at h
    ·simp at h
   ·simp at h
 | call cc =>
  obtain ⟨callee, args, tys⟩ := cc
  simp only [ev0] at h
  split at h
  ·split at h
   ·rename_i d x hargs
    split at h
    ·rename_i t t' htys
     cases htt : t.beq t' with
     | false => rw [htt] at h; simp at h
     | true =>
      rw [htt, cond_true] at h
      simp only [Nat.beq_eq] at htt
      subst htt
      have ea : args = #[d, x] := Array.ext' hargs
      have et : tys = #[t, t] := Array.ext' htys
      subst ea; subst et
      obtain ⟨v, w', hrun, hext, hr⟩ := ev0App_ok (ty0 := type) h hp hS (HE d (by simp [Op.operands, Call.operands])) (HE x (by simp [Op.operands, Call.operands]))
      exact ⟨v, w', by simp [execOp, resolve, invoke, builtin, hrun], hext, hr⟩
    ·simp at h
   ·simp at h
  ·simp at h
 | _ => simp [ev0] at h
theorem ev01_val {P : Program} {E : Env P} {s : MS} {o : Op} {p : OProp} {m : MV} (h : ev01 E s o = .val p m) : ev1 E s o = .val p m := by
 unfold ev01 at h; split at h
 ·simp at h
 ·exact h
theorem ev01_new {P : Program} {E : Env P} {s : MS} {o : Op} {p : OProp} {b : Box} {m : Nat → MV} (h : ev01 E s o = .new p b m) : ev1 E s o = .new p b m := by
 unfold ev01 at h; split at h
 ·simp at h
 ·exact h
theorem ev01_res {P : Program} {E : Env P} {s : MS} {o : Op} {p : OProp} {r : MRes} {fz : List Nat} (h : ev01 E s o = .res p r fz) : ev1 E s o = .res p r fz ∨ ∃ m, r = .ret m ∧ ev0 P s o = some (p, m) := by
 unfold ev01 at h; split at h
 ·rename_i p' m he
  simp only [Act1.res.injEq] at h
  obtain ⟨rfl, rfl, rfl⟩ := h
  exact .inr ⟨m, rfl, he⟩
 ·exact .inl h
end Go.Proofs.YtnfmjlhkknndhaaGreat
/-
 The evaluator is right, part 9: one operation after the other.
-/
namespace Go.Proofs.YtnfmjlhkknndhaaGreat
open Go Go.RowKit
theorem evRes_holds {kr kp : MV → Prop} {c : Ctx} {w : World} {e : Ending} : ∀ (r : MRes), evRes kr kp r → r.holds c w e →
  (∃ m v, e = .returned v ∧ Rep c w m v ∧ kr m) ∨ (∃ m v, e = .panicked [{ v, recovered := false }] ∧ Rep1 c w m v ∧ kp m)
 | .ret m, h, hh => by
  cases e <;> simp only [MRes.holds] at hh
  exact .inl ⟨m, _, rfl, hh, h⟩
 | .pan m, h, hh => by
  cases e <;> simp only [MRes.holds] at hh
  obtain ⟨v, rfl, hr⟩ := hh
  exact .inr ⟨m, v, rfl, hr, h⟩
 | .br b x y, h, hh => by
  simp only [evRes, Br] at h
  have hh : cond b (x.holds c w e) (y.holds c w e) := by cases e <;> exact hh
  cases b with
  | true => exact evRes_holds x h hh
  | false => exact evRes_holds y h hh
theorem rep1_S {S S' : Nat → Prop} {w : World} {m : MV} {v : Value} (h : Rep1 (Ctx.res S') w m v) (hS : ∀ b, S b → S' b) : Rep1 (Ctx.res S) w m v :=
 h.keep (⟨fun b _ => hS b, fun _ _ _ => trivial, fun _ h => h.elim, fun _ _ _ => rfl, fun _ _ _ => rfl⟩ : Keeps (Ctx.res S') (Ctx.res S) w w)
theorem findMCtr_f {P : Program} {f : Nat} : ∀ {l : List (Mu P)} {k : Mu P}, findMCtr f l = some k → k.f = f
 | [], _, h => by simp [findMCtr] at h
 | x :: l, k, h => by
  simp only [findMCtr] at h
  cases hc : x.f.beq f with
  | true => rw [hc] at h; simp at h; subst h; simpa using hc
  | false => rw [hc] at h; exact findMCtr_f (l := l) h
theorem St.keepTm {S0 : Nat → Prop} {w0 : Base} {w w' : World} {s s' : MS} {c c' : Ctx} {a : Act} (h : St S0 w0 s c a w) (k : Keeps c c' w w') (hm : Mem S0 w0 s'.bx c' w') (ht : s'.tm = s.tm) (hn : s'.n = s.n) (hnp : s'.np = s.np) : St S0 w0 s' c' a w' :=
 ⟨hm, fun t => by rw [ht]; exact (h.tm t).keep k, by rw [hn]; exact h.size, h.defers, by rw [hnp]; exact h.np⟩
theorem evPanic_ok {s : MS} {x : MV} {m : MV} (h : evPanic s x = .pan m) {S0 : Nat → Prop} {w0 : Base} {w : World} {c : Ctx} (hM : Mem S0 w0 s.bx c w) {v : Value} (hx : Rep c w x v) :
  (∃ t u, v = .iface t u) ∧ Rep1 (Ctx.res S0) w m v := by
 unfold evPanic at h
 split at h
 ·rename_i t mm
  split at h
  ·rename_i m' fz hsh
   cases hc : (m'.clean false && m'.plain) with
   | false => rw [hc] at h; simp at h
   | true =>
    rw [hc, cond_true, Act1.pan.injEq] at h
    subst h
    simp only [Bool.and_eq_true] at hc
    obtain ⟨hc1, hc2⟩ := hc
    obtain ⟨cs, u, h1, h2, h3⟩ := rep_cell hx rfl (by simp) rfl
    simp only [List.cons.injEq, and_true] at h1
    subst h1
    refine ⟨⟨t, u, rfl⟩, ?_⟩
    have hr1 : Rep1 c w mm u := by
     by_cases hn : mm = .any
     ·subst hn; trivial
     ·cases hg : mm.isAgg with
      | true => rw [rep1_agg hg]; rw [hg] at h3; exact ⟨cs.toArray, by simpa using h3, by simpa using h2⟩
      | false =>
       rw [rep1_cell hg hn]
       have hnt : ∀ ms, mm ≠ .tup ms := by intro ms e; subst e; exact h2.elim
       have hlen := RepC.len _ _ h2
       rw [width_cell hg hnt] at hlen
       obtain ⟨y, rfl⟩ := List.length_eq_one_iff.1 hlen
       rw [hg] at h3
       have : u = y := by simpa using h3
       subst this
       exact h2
    obtain ⟨s1, _⟩ := show_ok (S' := S0) (fun b hb => (hM.hS b).2 (.inl hb)) hM.box (fun i b hl hb hf hs => hM.frozen i b hl hb hf ((hM.hS _).2 (.inl hs))) mm ⟨m', none, fz⟩ hsh trivial
     (fun i _ hl hS => hM.notS0 hl hS) u hr1
    have s2 : Rep1 (Ctx.res S0) w m' u := Rep1.clean (c := Ctx.args S0) (c' := Ctx.res S0) (r := false) (fun b hb => hb) (fun e => by simp at e) hc1 s1
    have hT : m'.isTup = false := by cases m' <;> first | rfl | (simp [MV.plain] at hc2)
    obtain ⟨q1, q2⟩ := rep_cells ((rep1_iff hT).2 s2) hc2
    refine (rep1_cell rfl (by simp)).2 ⟨u.cells.toList, u, rfl, q1, ?_⟩
    have q2 := q2.symm
    unfold valOf at q2
    cases hg : m'.isAgg with
    | true => rw [hg] at q2; simpa using q2
    | false => rw [hg] at q2; simpa using q2
  ·simp at h
  ·simp at h
 ·simp at h
theorem run_ok {P : Program} {E : Env P} {Kp : MV → Prop} {s : MS} {o : Oper} {F : MS → Prop}
  (H : match ev1 E s o.op with
   | .val p m => oand p <| F (s.putO o.dst m)
   | .new p b mk => oand p <| F (({ s with bx := s.bx ++ [b] } : MS).putO o.dst (mk s.bx.length))
   | .res p r fz => oand p <| evRes (fun m => F ((s.frz fz).putO o.dst m)) Kp r
   | .upd p s' m => oand p <| F (s'.putO o.dst m)
   | .pan m => Kp m
   | .stuck => Stuck o.op s)
  {S0 : Nat → Prop} {w0 : Base} {w : World} {c : Ctx} {a : Act} (hSt : St S0 w0 s c a w) (hd : dstOk o.dst s.n = true)
  {K : Act → World → Prop} {Q : Exit → Act → World → Prop}
  (hF : ∀ s' c' a' w', F s' → St S0 w0 s' c' a' w' → s'.n = s.n → K a' w')
  (hP : ∀ m v w' a', Kp m → ExtB w0 w' → Rep1 (Ctx.res S0) w' m v → a'.defers = w0.df → Q (.panic [{ v, recovered := false }]) a' w') :
  o.wp P a w K Q := by
 have HE : Opnds c w s a o.op.operands.toList := opnds_of_tmps fun t _ => hSt.tm t
 have put_n : ∀ (s' : MS) (m : MV), (s'.putO o.dst m).n = s'.n := fun s' m => by cases o.dst <;> rfl
 split at H
 ·rename_i p m he
  obtain ⟨hp, H⟩ := oand_holds.1 H
  obtain ⟨v, hrun, hr⟩ := ev1_val he hp HE hSt.mem.box hSt.mem.WS hSt.mem.gw
  unfold Oper.wp
  rw [hrun, Oper.upon_value]
  exact hF _ c _ _ H (hSt.putO hd hr) (put_n _ _)
 ·rename_i p b mk he
  obtain ⟨hp, H⟩ := oand_holds.1 H
  obtain ⟨r, hex, ⟨arr, ty, v, hrun, _, hnew⟩⟩ := ev1_new he hp HE
  unfold Oper.wp
  rw [hex, run_value hrun, Oper.upon_value]
  let n := s.bx.length
  have hnl : ¬ c.live n := fun hl => by have := (hSt.mem.fresh _ hl).2.2; omega
  have hal := hSt.mem.alloc arr ty b (fun i => c.live i ∨ i = n) (fun i => if i = n then w.heap.size else c.β i) (fun i => if i = n then ⟨arr.size, b.c.wd⟩ else c.sz i) (fun i => Iff.rfl)
   (fun i hi => if_neg (fun e : i = n => hnl (e ▸ hi))) (fun i hi => if_neg (fun e : i = n => hnl (e ▸ hi))) (if_pos rfl)
   (fun c' k e1 e2 e3 => (hnew c' n k (by rw [e1]; exact .inr rfl) (by rw [e2]; exact if_pos rfl) (by rw [e3]; exact if_pos rfl)).2)
  have hrep := (hnew _ n hal.2 (.inr rfl) (if_pos rfl) (if_pos rfl)).1
  have hs1 : St S0 w0 { s with bx := s.bx ++ [b] } _ a _ := hSt.keepTm (s' := { s with bx := s.bx ++ [b] }) hal.2 hal.1 rfl rfl rfl
  exact hF _ _ _ _ H (hs1.putO hd hrep) (put_n _ _)
 ·rename_i p r fz he
  obtain ⟨hp, H⟩ := oand_holds.1 H
  obtain ⟨dst, type, pos, after, guard, f, args, tys, rfl, hcall⟩ := ev1_res_call he
  obtain ⟨hm, hk, hz⟩ := hSt.mem.frz fz
  have hM := hSt.mem
  have hf := HE f (by simp [Op.operands, Call.operands])
  have hargs := pair_map (c := c) (w := w) (s := s) (a := a) args.toList (fun x hx => HE x (by simp [Op.operands, Call.operands]; exact .inr (Array.mem_def.2 hx)))
  obtain ⟨f', caps, hfv, hcf, hC⟩ := evCall_ok hcall hp hf hargs hM.box
   (S' := (ctxOf S0 (frzList fz s.bx) c.live c.β c.sz).S) (fun i b hl hb hf hs => hM.frozen i b hl hb hf (hk.S _ (hm.Slt _ hs) hs)) (fun b hb => hk.S b (hm.Slt b hb) hb) hz (fun b hb => hm.Slt b hb) hM.gw
  have eargs : (args.toList.map a.eval).toArray = args.map a.eval := by apply Array.ext'; simp
  rw [eargs] at hcf hC
  have hrun : (execOp a.eval ⟨dst, .call ⟨.value f, args, tys⟩, type, pos, after, guard⟩).run P w = .ok (.enter f' (args.map a.eval ++ caps)) w := by
   simp [execOp, resolve, Deferred.ofValue, hfv, invoke, hcf]
  unfold Oper.wp
  rw [hrun, Oper.upon_enter]
  refine hC.mono fun e w' ⟨hext, hh⟩ => ?_
  obtain ⟨hm2, hk2⟩ := hm.grow hext
  rcases evRes_holds r H hh with ⟨m, v, rfl, hr, hF'⟩ | ⟨m, v, rfl, hr, hK⟩
  ·have hs1 : St S0 w0 (s.frz fz) _ a w' := (hSt.keepTm (s' := s.frz fz) hk hm rfl rfl rfl).keepTm (s' := s.frz fz) hk2 hm2 rfl rfl rfl
   exact hF _ _ _ _ hF' (hs1.putO hd (rep_back hr (fun b hb => hb))) (put_n _ _)
  ·exact hP m v w' a hK hm2.ext (rep1_S hr (fun b hb => .inl hb)) hSt.defers
 ·rename_i p s2 m he
  obtain ⟨hp, H⟩ := oand_holds.1 H
  rcases ev1_upd_op he with ⟨dst, type, pos, after, guard, t, x, y, rfl, hst⟩ | ⟨dst, type, pos, after, guard, args, tys, rfl, hcp⟩ | ⟨dst, type, pos, after, guard, args, tys, rfl, hap⟩ | ⟨dst, type, pos, after, guard, f, args, tys, k, rfl, hmu, hcall⟩
  ·obtain ⟨w', hrun, hm, hk, ht, hn, hnp, rfl⟩ := evStore_ok hst hp hSt.mem (HE x (by simp [Op.operands])) (HE y (by simp [Op.operands]))
   unfold Oper.wp
   have e : (execOp a.eval ⟨dst, .store t x y, type, pos, after, guard⟩).run P w = .ok .skip w' := by
    simp [execOp, hrun]
   rw [e, Oper.upon_skip]
   have hs1 : St S0 w0 s2 c a w' := hSt.keepTm (s' := s2) hk hm ht hn hnp
   refine hF _ _ _ _ H (hs1.putO (m := .any) (v := undef) ?_ trivial) ((put_n _ _).trans hn)
   rw [hn]; exact hd
  ·unfold evCopyCall at hcp
   split at hcp
   ·rename_i d x hargs
    split at hcp
    ·rename_i t t' htys
     split at hcp
     ·rename_i e hu
      split at hcp
      ·rename_i agg size hty
       cases hsz : size.beq 1 with
       | false => rw [hsz] at hcp; simp at hcp
       | true =>
        rw [hsz, cond_true] at hcp
        simp only [Nat.beq_eq] at hsz
        subst hsz
        obtain ⟨_, i, _, hi, hisz, _⟩ := tyAgg_spec hty
        have ea : args = #[d, x] := Array.ext' hargs
        have et : tys = #[t, t'] := Array.ext' htys
        subst ea; subst et
        obtain ⟨v, w', hrun, hm, hk, ht, hn, hnp, hr⟩ := evCopy_ok (t := t) (t' := t') (ty0 := type) hcp hp hu (by rw [hi]; simp [hisz]) hSt.mem (HE d (by simp [Op.operands, Call.operands])) (HE x (by simp [Op.operands, Call.operands]))
        unfold Oper.wp
        have e : (execOp a.eval ⟨dst, .call ⟨.builtin .copy, #[d, x], #[t, t']⟩, type, pos, after, guard⟩).run P w = .ok (.value v) w' := by
         simp [execOp, resolve, invoke, builtin, hrun]
        rw [e, Oper.upon_value]
        have hs1 : St S0 w0 s2 c a w' := hSt.keepTm (s' := s2) hk hm ht hn hnp
        refine hF _ _ _ _ H (hs1.putO ?_ hr) ((put_n _ _).trans hn)
        rw [hn]; exact hd
      ·simp at hcp
     ·simp at hcp
    ·simp at hcp
   ·simp at hcp
  ·unfold evAppendCall at hap
   split at hap
   ·rename_i d x hargs
    split at hap
    ·rename_i t t' htys
     cases htt : t.beq t' with
     | false => rw [htt] at hap; simp at hap
     | true =>
      rw [htt, cond_true] at hap
      simp only [Nat.beq_eq] at htt
      subst htt
      have ea : args = #[d, x] := Array.ext' hargs
      have et : tys = #[t, t] := Array.ext' htys
      subst ea; subst et
      obtain ⟨b, v, w', c', hrun, hm, hk, ht, hn, hnp, hr⟩ := evAppend_ok (t := t) (ty0 := type) hap hp hSt.mem hSt.np (HE d (by simp [Op.operands, Call.operands])) (HE x (by simp [Op.operands, Call.operands]))
      unfold Oper.wp
      have e : (execOp a.eval ⟨dst, .call ⟨.builtin .append, #[d, x], #[t, t]⟩, type, pos, after, guard⟩).run P w = .ok (.value v) w' := by
       simp [execOp, resolve, invoke, builtin, hrun]
      rw [e, Oper.upon_value]
      have hs1 : St S0 w0 s2 c' a w' := ⟨hm, fun u => by
       rw [ht, look_kill]
       cases hq : (look u s.tm).ment b with
       | true => trivial
       | false => exact hk _ _ hq (hSt.tm u), by rw [hn]; exact hSt.size, hSt.defers, by rw [hnp]; exact hSt.np⟩
      refine hF _ _ _ _ H (hs1.putO ?_ hr) ((put_n _ _).trans hn)
      rw [hn]; exact hd
    ·simp at hap
   ·simp at hap
  ·have hargs := pair_map (c := c) (w := w) (s := s) (a := a) args.toList (fun x hx => HE x (by simp [Op.operands, Call.operands]; exact .inr (Array.mem_def.2 hx)))
   have hf := HE f (by simp [Op.operands, Call.operands])
   unfold mutOf at hmu
   split at hmu
   ·rename_i f0 caps hfe
    rw [hfe] at hf
    split at hmu
    ·obtain ⟨cs, h1, h2, h3⟩ := rep_cell hf rfl (by simp) rfl
     simp only [List.cons.injEq, and_true] at h1
     have h2 : cs = [] := h2
     subst h2
     have hkf := findMCtr_f hmu
     have eargs : (args.toList.map a.eval).toArray = args.map a.eval := by apply Array.ext'; simp
     have hcf := k.call (args.map a.eval) w
     rw [hkf] at hcf
     have hrun : (execOp a.eval ⟨dst, .call ⟨.value f, args, tys⟩, type, pos, after, guard⟩).run P w = .ok (.enter f0 (args.map a.eval)) w := by
      simp [execOp, resolve, Deferred.ofValue, h1, invoke, hcf]
     unfold Oper.wp
     rw [hrun, Oper.upon_enter]
     cases k with
     | wr k =>
      have hkf : k.f = f0 := hkf
      have hC := evWr_ok hcall hp hSt.mem hargs
      rw [eargs, hkf] at hC
      refine hC.mono ?_
      rintro e w' ⟨rfl, hm, hk, ht, hn, hnp, rfl⟩
      have hs1 : St S0 w0 s2 c a w' := hSt.keepTm (s' := s2) hk hm ht hn hnp
      refine hF _ _ _ _ H (hs1.putO (m := .tup []) ?_ ⟨_, rfl, rfl⟩) ((put_n _ _).trans hn)
      rw [hn]; exact hd
     | nw k =>
      have hkf : k.f = f0 := hkf
      have hC := evNw_ok hcall hp hSt.mem hargs
      rw [eargs, hkf] at hC
      refine hC.mono ?_
      rintro e w' ⟨v, c', rfl, hm, hk, ht, hn, hnp, hr⟩
      have hs1 : St S0 w0 s2 c' a w' := hSt.keepTm (s' := s2) hk hm ht hn hnp
      refine hF _ _ _ _ H (hs1.putO ?_ hr) ((put_n _ _).trans hn)
      rw [hn]; exact hd
    ·simp at hmu
   ·simp at hmu
 ·rename_i m he
  obtain ⟨dst, type, pos, after, guard, x, rfl, hpn⟩ := ev1_pan_panic he
  obtain ⟨⟨t, u, hv⟩, hr⟩ := evPanic_ok hpn hSt.mem (HE x (by simp [Op.operands]))
  unfold Oper.wp
  have e : (execOp a.eval ⟨dst, .panic x, type, pos, after, guard⟩).run P w = .halt (.panic (a.eval x)) w := by
   simp [execOp, hv, Instr.panic]
  rw [e, Oper.upon_panic]
  exact hP m _ w a H hSt.mem.ext hr hSt.defers
 ·exact H.elim
theorem tmps_of_bool {c : Ctx} {w : World} {a : Act} {d : Nat} {b : Bool} (h : Rep c w (.bool b) (a.tmps.getD d undef)) : a.tmps[d]? = some (.bool b) := by
 have := rep_bool h
 rw [Array.getD_eq_getD_getElem?] at this
 cases hx : a.tmps[d]? with
 | none => rw [hx] at this; simp [undef] at this
 | some v => rw [hx] at this; simpa using this
theorem wanted_guard {ops : Array Oper} {o oj : Oper} {j d : Nat} {want b : Bool} {c : Ctx} {w : World} {a : Act} (hg : o.guard = some (j, want)) (hj : nth ops.toList j = some oj) (hd : oj.dst = some d)
  (hb : Rep c w (.bool b) (a.tmps.getD d undef)) : Region.wanted o (yielded ops a.tmps) = (b == want) := by
 rw [nth_eq] at hj
 have hj : ops[j]? = some oj := by simpa using hj
 simp [Region.wanted, hg, yielded, hj, hd, tmps_of_bool hb]
theorem tmps_of_none {a : Act} {d : Nat} {c : Ctx} {w : World} (h : Rep c w (.tup []) (a.tmps.getD d undef)) : ∀ b, a.tmps[d]? ≠ some (.bool b) := by
 intro b e
 obtain ⟨vs, h1, _⟩ := h
 rw [Array.getD_eq_getD_getElem?, e] at h1
 simp at h1
theorem wanted_none {ops : Array Oper} {o oj : Oper} {j d : Nat} {want : Bool} {c : Ctx} {w : World} {a : Act} (hg : o.guard = some (j, want)) (hj : nth ops.toList j = some oj) (hd : oj.dst = some d)
  (hb : Rep c w (.tup []) (a.tmps.getD d undef)) : Region.wanted o (yielded ops a.tmps) = false := by
 rw [nth_eq] at hj
 have hj : ops[j]? = some oj := by simpa using hj
 have hn := tmps_of_none hb
 have hy : yielded ops a.tmps j = none := by
  unfold yielded
  rw [hj]
  show (match oj.dst.bind (a.tmps[·]?) with | some (.bool b) => some b | _ => none) = none
  rw [hd]
  show (match a.tmps[d]? with | some (.bool b) => some b | _ => none) = none
  cases ht : a.tmps[d]? with
  | none => rfl
  | some v => cases v <;> first | rfl | exact absurd ht (hn _)
 simp [Region.wanted, hg, hy]
theorem evSeq_sound {P : Program} {E : Env P} {Kp : MV → Prop} {ops : Array Oper} {S0 : Nat → Prop} {w0 : Base} {Q : Exit → Act → World → Prop}
  (hP : ∀ m v w' a', Kp m → ExtB w0 w' → Rep1 (Ctx.res S0) w' m v → a'.defers = w0.df → Q (.panic [{ v, recovered := false }]) a' w') :
  ∀ (l : List Oper) (s : MS) (K : MS → Prop) (c : Ctx) (a : Act) (w : World), evSeq E ops.toList Kp l s K → St S0 w0 s c a w →
  (∀ s' c' a' w', K s' → St S0 w0 s' c' a' w' → s'.n = s.n → Q .normal a' w') → wpList P ops Q l a w
 | [], s, K, c, a, w, h, hSt, hK => hK s c a w h hSt rfl
 | o :: l, s, K, c, a, w, h, hSt, hK => by
  simp only [evSeq] at h
  cases hdd : dstOk o.dst s.n with
  | false => rw [hdd] at h; exact h.elim
  | true =>
   rw [hdd, cond_true] at h
   unfold wpList
   split at h
   ·rename_i hg
    rw [if_pos (by simp [Region.wanted, hg])]
    refine .inl (run_ok h hSt hdd (fun s' c' a' w' hF hs hn => evSeq_sound hP l s' K c' a' w' hF hs fun s2 c2 a2 w2 q1 q2 q3 => hK s2 c2 a2 w2 q1 q2 (q3.trans hn)) hP)
   ·rename_i j want hg
    split at h
    ·rename_i oj hj
     split at h
     ·rename_i d hd
      split at h
      ·rename_i b hb
       have hrb := hSt.tm d
       rw [hb] at hrb
       have hw := wanted_guard (o := o) hg hj hd hrb
       have key : (b = want ∧ (match ev1 E (s.put d (.bool want)) o.op with
         | .val p m => oand p <| evSeq E ops.toList Kp l ((s.put d (.bool want)).putO o.dst m) K
         | .new p b mk => oand p <| evSeq E ops.toList Kp l (({ s.put d (.bool want) with bx := (s.put d (.bool want)).bx ++ [b] } : MS).putO o.dst (mk (s.put d (.bool want)).bx.length)) K
         | .res p r fz => oand p <| evRes (fun m => evSeq E ops.toList Kp l (((s.put d (.bool want)).frz fz).putO o.dst m) K) Kp r
         | .upd p s' m => oand p <| evSeq E ops.toList Kp l (s'.putO o.dst m) K
         | .pan m => Kp m
         | .stuck => Stuck o.op (s.put d (.bool want)))) ∨ (b = (!want) ∧ evSeq E ops.toList Kp l ((s.put d (.bool (!want))).putO o.dst (.tup [])) K) := by
        unfold guardStep Br at h
        cases b <;> cases want <;> first | exact .inl ⟨rfl, h⟩ | exact .inr ⟨rfl, h⟩
       rcases key with ⟨rfl, hh⟩ | ⟨rfl, hh⟩
       ·rw [hw, if_pos (by simp)]
        have hs1 : St S0 w0 (s.put d (.bool b)) c a w := hSt.again hrb
        refine .inl (run_ok hh hs1 hdd (fun s' c' a' w' hF hs hn => evSeq_sound hP l s' K c' a' w' hF hs fun s2 c2 a2 w2 q1 q2 q3 => hK s2 c2 a2 w2 q1 q2 (q3.trans hn)) hP)
       ·rw [hw, if_neg (by cases want <;> simp)]
        have hs1 : St S0 w0 (s.put d (.bool (!want))) c a w := hSt.again hrb
        exact evSeq_sound hP l _ K c _ w hh (hs1.putO (m := .tup []) (v := undef) hdd ⟨#[], rfl, rfl⟩) fun s2 c2 a2 w2 q1 q2 q3 => hK s2 c2 a2 w2 q1 q2 (q3.trans (by cases o.dst <;> rfl))
      ·rename_i hb
       have hrb := hSt.tm d
       rw [hb] at hrb
       have hw := wanted_none (o := o) hg hj hd hrb
       rw [hw, if_neg (by simp)]
       exact evSeq_sound hP l _ K c _ w h (hSt.putO (m := .tup []) (v := undef) hdd ⟨#[], rfl, rfl⟩) fun s2 c2 a2 w2 q1 q2 q3 => hK s2 c2 a2 w2 q1 q2 (q3.trans (by cases o.dst <;> rfl))
      ·exact h.elim
     ·exact h.elim
    ·exact h.elim
end Go.Proofs.YtnfmjlhkknndhaaGreat
/-
 The evaluator is right, part 10: which operations come before which; the end of a region, which has one order.
-/
namespace Go.Proofs.YtnfmjlhkknndhaaGreat
open Go Go.RowKit
/-! ### THE CHECKS, TAKEN APART -/
theorem edgeMask_bit (acc : List Nat) : ∀ (l : List Edge) (b : Nat), (edgeMask acc l).testBit b = true → ∃ e ∈ l, Region.binds .any e = true ∧ (b = e.on ∨ ∃ m, nth acc e.on = some m ∧ m.testBit b = true)
 | [], b, h => by simp [edgeMask] at h
 | e :: r, b, h => by
  simp only [edgeMask] at h
  cases hb : Region.binds .any e with
  | false =>
   rw [hb, cond_false] at h
   obtain ⟨e', h1, h2⟩ := edgeMask_bit acc r b h
   exact ⟨e', by simp [h1], h2⟩
  | true =>
   rw [hb, cond_true] at h
   simp only [Nat.testBit_or, Bool.or_eq_true] at h
   rcases h with (h | h) | h
   ·rw [Nat.testBit_two_pow] at h
    exact ⟨e, by simp, hb, .inl (by simpa using h : e.on = b).symm⟩
   ·split at h
    ·rename_i m hm; exact ⟨e, by simp, hb, .inr ⟨m, hm, h⟩⟩
    ·simp at h
   ·obtain ⟨e', h1, h2⟩ := edgeMask_bit acc r b h
    exact ⟨e', by simp [h1], h2⟩
theorem nth_append_left {α : Type} (l r : List α) (i : Nat) (h : i < l.length) : nth (l ++ r) i = nth l i := by simp only [nth_eq]; rw [List.getElem?_append_left h]
theorem befs_prefix : ∀ (l : List Oper) (acc : List Nat) (i : Nat), i < acc.length → nth (befs acc l) i = nth acc i
 | [], _, _, _ => rfl
 | o :: l, acc, i, h => by
  simp only [befs]
  rw [befs_prefix l _ i (by simp; omega), nth_append_left _ _ _ h]
theorem befs_bit : ∀ (l : List Oper) (acc : List Nat) (i : Nat) (o : Oper) (m : Nat), nth l i = some o → nth (befs acc l) (acc.length + i) = some m → (∀ e ∈ o.after.toList, Region.binds .any e = true → e.on < acc.length + i) →
  ∀ b, m.testBit b = true → ∃ e ∈ o.after.toList, Region.binds .any e = true ∧ (b = e.on ∨ ∃ m', nth (befs acc l) e.on = some m' ∧ m'.testBit b = true)
 | [], acc, i, o, m, h, _, _, _, _ => by simp [nth] at h
 | x :: l, acc, 0, o, m, h, hm, he, b, hb => by
  simp only [nth, Option.some.injEq] at h
  subst h
  simp only [befs, Nat.add_zero] at hm he ⊢
  rw [befs_prefix l _ _ (by simp)] at hm
  have : nth (acc ++ [edgeMask acc x.after.toList]) acc.length = some (edgeMask acc x.after.toList) := by simp [nth_eq]
  rw [this, Option.some.injEq] at hm
  subst hm
  obtain ⟨e, h1, h2, h3⟩ := edgeMask_bit acc _ b hb
  refine ⟨e, h1, h2, h3.imp id fun ⟨m', q1, q2⟩ => ⟨m', ?_, q2⟩⟩
  have hlt := he e h1 h2
  rw [befs_prefix l _ _ (by simp; omega), nth_append_left _ _ _ hlt]
  exact q1
 | x :: l, acc, i + 1, o, m, h, hm, he, b, hb => by
  simp only [befs] at hm ⊢
  have h : nth l i = some o := h
  have e1 : acc.length + (i + 1) = (acc ++ [edgeMask acc x.after.toList]).length + i := by simp; omega
  rw [e1] at hm he
  exact befs_bit l _ i o m h hm he b hb
theorem backAll_spec : ∀ (l : List Oper) (k : Nat), backAll k l = true → ∀ (i : Nat) (o : Oper), nth l i = some o → ∀ e ∈ o.after.toList, Region.binds .any e = true → e.on < k + i
 | [], _, _, i, o, h, _, _, _ => by simp [nth] at h
 | x :: l, k, hb, i, o, h, e, he, hbe => by
  simp only [backAll, Bool.and_eq_true] at hb
  obtain ⟨h1, h2⟩ := hb
  cases i with
  | zero =>
   simp only [nth, Option.some.injEq] at h
   subst h
   have := List.all_eq_true.1 h1 e he
   simp only [hbe, Bool.not_true, Bool.false_or, Nat.blt_eq] at this
   omega
  | succ i =>
   have := backAll_spec l (k + 1) h2 i o h e he hbe
   omega
theorem blt_true {i n : Nat} (h : i < n) : i.blt n = true := by rw [Nat.blt_eq]; exact h
theorem blt_false {i n : Nat} (h : n ≤ i) : i.blt n = false := by
 cases hb : i.blt n with
 | false => rfl
 | true => rw [Nat.blt_eq] at hb; omega
theorem ssaAll_spec (L : List Oper) (n : Nat) : ∀ (l : List Oper) (ms : List Nat) (i : Nat), ssaAll L n i ms l = true → ∀ (j : Nat) (o : Oper), nth l j = some o → ∃ m, nth ms j = some m ∧
  (i + j < n → ssaAt L n (i + j) m o 0 L = true) ∧ (n ≤ i + j → fullAt (i + j) m = true)
 | [], _, _, _, j, o, h => by simp [nth] at h
 | x :: l, [], _, hs, j, o, h => by simp [ssaAll] at hs
 | x :: l, m :: ms, i, hs, j, o, h => by
  simp only [ssaAll, Bool.and_eq_true] at hs
  obtain ⟨h1, h2⟩ := hs
  cases j with
  | zero =>
   simp only [nth, Option.some.injEq] at h
   subst h
   refine ⟨m, rfl, fun hlt => ?_, fun hge => ?_⟩
   ·rw [blt_true (show i < n from hlt), cond_true] at h1; exact h1
   ·rw [blt_false (show n ≤ i from hge), cond_false] at h1; exact h1
  | succ j =>
   obtain ⟨m', q1, q2, q3⟩ := ssaAll_spec L n l ms (i + 1) h2 j o h
   exact ⟨m', q1, fun hlt => by have := q2 (by omega); rwa [show i + 1 + j = i + (j + 1) by omega] at this, fun hge => by have := q3 (by omega); rwa [show i + 1 + j = i + (j + 1) by omega] at this⟩
theorem fullAt_spec {i m : Nat} (h : fullAt i m = true) : ∀ j, j < i → m.testBit j = true := by
 intro j hj
 simp only [fullAt, Nat.beq_eq] at h
 have : (m &&& (2 ^ i - 1)).testBit j = (2 ^ i - 1).testBit j := by rw [h]
 rw [Nat.testBit_and, Nat.testBit_two_pow_sub_one] at this
 simpa [hj] using this
theorem ssaAt_spec {L : List Oper} {n i m : Nat} {o : Oper} : ∀ (l : List Oper) (j : Nat), ssaAt L n i m o j l = true → ∀ (k : Nat) (p : Oper) (d : Nat), nth l k = some p → p.dst = some d →
  (j + k < n → j + k ≠ i → o.dst ≠ some d ∧ (d ∈ Oper.looks L o → j + k < i ∧ m.testBit (j + k) = true)) ∧ (j + k = i → d ∉ Oper.looks L o)
 | [], _, _, k, p, d, h, _ => by simp [nth] at h
 | x :: l, j, hs, k, p, d, h, hd => by
  simp only [ssaAt, Bool.and_eq_true] at hs
  obtain ⟨h1, h2⟩ := hs
  cases k with
  | succ k =>
   have := ssaAt_spec l (j + 1) h2 k p d h hd
   rwa [show j + 1 + k = j + (k + 1) by omega] at this
  | zero =>
   simp only [nth, Option.some.injEq] at h
   subst h
   rw [hd] at h1
   simp only [Nat.add_zero]
   constructor
   ·intro hlt hne
    have hc : (j.blt n && !(j.beq i)) = true := by
     simp only [Bool.and_eq_true, Nat.blt_eq, hlt, Bool.not_eq_true', true_and]
     cases hb : j.beq i with
     | false => rfl
     | true => exact absurd (by simpa using hb) hne
    rw [hc, cond_true] at h1
    simp only [Bool.and_eq_true, Bool.not_eq_true', Bool.or_eq_true, beq_eq_false_iff_ne, ne_eq, Nat.blt_eq] at h1
    refine ⟨h1.1, fun hm => ?_⟩
    rcases h1.2 with h3 | h3
    ·have : (Oper.looks L o).elem d = true := List.elem_eq_true_of_mem hm
     rw [this] at h3; simp at h3
    ·exact h3
   ·intro he
    subst he
    have hc : (j.blt n && !(j.beq j)) = false := by simp
    rw [hc, cond_false] at h1
    simp only [Nat.beq_refl, cond_true, Bool.not_eq_true'] at h1
    intro hm
    have : (Oper.looks L o).elem d = true := List.elem_eq_true_of_mem hm
    rw [this] at h1; simp at h1
/-! ### WHICH OPERATIONS CAN COME NEXT -/
structure Down (ops : Array Oper) (listed : Array Bool) : Prop where
 size : listed.size = ops.size
 down : ∀ i o, ops[i]? = some o → listed.getD i false = true → ∀ e ∈ o.after.toList, Region.binds .any e = true → listed.getD e.on false = true
theorem mem_ready {ops : Array Oper} {listed : Array Bool} {i : Nat} : i ∈ Region.ready .any ops listed ↔ i < ops.size ∧ listed.getD i true = false ∧ ∃ o, ops[i]? = some o ∧ ∀ e ∈ o.after.toList, Region.binds .any e = true → listed.getD e.on false = true := by
 simp only [Region.ready, List.mem_filter, List.mem_range, Bool.and_eq_true, Bool.not_eq_true']
 constructor
 ·rintro ⟨h1, h2, h3⟩
  refine ⟨h1, h2, ops[i], by simp [h1], fun e he hb => ?_⟩
  simp only [Array.getElem?_eq_getElem h1, Option.map_some, Option.getD_some, ← Array.all_toList, List.all_eq_true] at h3
  have := h3 e he
  simpa [hb] using this
 ·rintro ⟨h1, h2, o, h3, h4⟩
  refine ⟨h1, h2, ?_⟩
  simp only [h3, Option.map_some, Option.getD_some, ← Array.all_toList, List.all_eq_true]
  intro e he
  cases hb : Region.binds .any e with
  | false => rfl
  | true => simpa using h4 e he hb
theorem getD_true_false {listed : Array Bool} {i : Nat} (h : i < listed.size) : listed.getD i true = listed.getD i false := by simp [h]
theorem Down.put {ops : Array Oper} {listed : Array Bool} (h : Down ops listed) {i : Nat} (hi : i ∈ Region.ready .any ops listed) : Down ops (listed.setIfInBounds i true) := by
 obtain ⟨h1, h2, o, h3, h4⟩ := mem_ready.1 hi
 have mono : ∀ j, listed.getD j false = true → (listed.setIfInBounds i true).getD j false = true := by
  intro j hj
  simp only [Array.getD_eq_getD_getElem?, Array.getElem?_setIfInBounds] at hj ⊢
  split
  ·split <;> simp_all
  ·exact hj
 refine ⟨by simp [h.size], fun j o' hj hl e he hb => ?_⟩
 by_cases hij : i = j
 ·subst hij
  rw [h3, Option.some.injEq] at hj
  subst hj
  exact mono _ (h4 e he hb)
 ·refine mono _ (h.down j o' hj ?_ e he hb)
  simp only [Array.getD_eq_getD_getElem?, Array.getElem?_setIfInBounds, if_neg hij] at hl ⊢
  exact hl
theorem Down.mask {ops : Array Oper} {listed : Array Bool} (h : Down ops listed) (hback : backAll 0 ops.toList = true) : ∀ (i : Nat) (o : Oper) (m : Nat), nth ops.toList i = some o → nth (befs [] ops.toList) i = some m →
  (∀ e ∈ o.after.toList, Region.binds .any e = true → listed.getD e.on false = true) → ∀ b, m.testBit b = true → listed.getD b false = true := by
 intro i
 induction i using Nat.strongRecOn with
 | _ i ih =>
  intro o m ho hm he b hb
  have hbk := backAll_spec ops.toList 0 hback i o ho
  obtain ⟨e, h1, h2, h3⟩ := befs_bit ops.toList [] i o m ho (by simpa using hm) (by simpa using hbk) b hb
  rcases h3 with rfl | ⟨m', h4, h5⟩
  ·exact he e h1 h2
  ·have hlt : e.on < i := by have := hbk e h1 h2; omega
   have hlist := he e h1 h2
   have hsz : e.on < ops.size := by
    have := nth_lt ho
    simp at this; omega
   have ho' : nth ops.toList e.on = some ops[e.on] := by rw [nth_eq]; simp [hsz]
   exact ih e.on hlt ops[e.on] m' ho' h4 (h.down e.on _ (by simp [hsz]) hlist) b h5
/-! ### THE LAST OPERATIONS, ONE BY ONE -/
theorem wpOp_of_wpList {P : Program} {ops : Array Oper} {Q : Exit → Act → World → Prop} {o : Oper} {rest : List Oper} {a : Act} {w : World} {i : Nat} (hi : ops[i]? = some o) (h : wpList P ops Q (o :: rest) a w) : wpOp P ops Q i (wpList P ops Q rest) a w := by
 unfold wpOp
 simp only [hi]
 exact h
theorem suf_any {P : Program} {ops : Array Oper} {Q : Exit → Act → World → Prop} (hback : backAll 0 ops.toList = true) (n : Nat)
  (hfull : ∀ i o, nth ops.toList i = some o → n ≤ i → ∃ m, nth (befs [] ops.toList) i = some m ∧ fullAt i m = true) :
  ∀ (l : List Oper) (k : Nat) (listed : Array Bool) (a : Act) (w : World), (∀ j, nth l j = nth ops.toList (k + j)) → k + l.length = ops.size → n ≤ k → Down ops listed → (∀ j, listed.getD j false = decide (j < k)) →
  wpList P ops Q l a w → wpAny P .any ops Q l.length listed a w
 | [], k, listed, a, w, hl, hk, hn, hd, hlist, h => by
  refine ⟨?_, h⟩
  apply List.eq_nil_iff_forall_not_mem.2
  intro i hi
  obtain ⟨h1, h2, _⟩ := mem_ready.1 hi
  rw [getD_true_false (by rw [hd.size]; exact h1), hlist] at h2
  simp at h2 hk
  omega
 | o :: l, k, listed, a, w, hl, hk, hn, hd, hlist, h => by
  have hk0 : k < ops.size := by simp at hk; omega
  have ho : nth ops.toList k = some o := by have := hl 0; simp [nth] at this; exact this.symm
  have hok : ops[k]? = some o := by rw [nth_eq] at ho; simpa using ho
  have only : ∀ i ∈ Region.ready .any ops listed, i = k := by
   intro i hi
   obtain ⟨h1, h2, oi, h3, h4⟩ := mem_ready.1 hi
   rw [getD_true_false (by rw [hd.size]; exact h1), hlist] at h2
   have hge : k ≤ i := by simpa using h2
   rcases Nat.lt_or_ge k i with hlt | hle
   ·exfalso
    have hoi : nth ops.toList i = some oi := by rw [nth_eq]; simpa using h3
    obtain ⟨m, hm, hf⟩ := hfull i oi hoi (by omega)
    have := hd.mask hback i oi m hoi hm h4 k (fullAt_spec hf k hlt)
    rw [hlist] at this
    simp at this
   ·omega
  have isr : k ∈ Region.ready .any ops listed := by
   refine mem_ready.2 ⟨hk0, ?_, o, hok, fun e he hb => ?_⟩
   ·rw [getD_true_false (by rw [hd.size]; exact hk0), hlist]; simp
   ·have := backAll_spec ops.toList 0 hback k o ho e he hb
    rw [hlist]; simp; omega
  refine ⟨fun h0 => by rw [h0] at isr; simp at isr, fun i hi => ?_⟩
  have := only i hi
  subst this
  refine wpOp_mono (fun a' w' h' => ?_) (wpOp_of_wpList hok h)
  refine suf_any hback n hfull l (i + 1) _ a' w' (fun j => by have := hl (j + 1); simp only [nth] at this; rw [this]; congr 1; omega) (by simp at hk; omega) (by omega) (hd.put hi) (fun j => ?_) h'
  simp only [Array.getD_eq_getD_getElem?, Array.getElem?_setIfInBounds]
  by_cases e : i = j
  ·subst e; simp [hd.size, hk0]
  ·have := hlist j
   rw [Array.getD_eq_getD_getElem?] at this
   rw [if_neg e, this]
   congr 1
   simp; omega
end Go.Proofs.YtnfmjlhkknndhaaGreat
/-
 The evaluator is right, part 11: a region that draws its order: what its first operations come to, in whatever order.
-/
namespace Go.Proofs.YtnfmjlhkknndhaaGreat
open Go Go.RowKit
def wrN (L : List Oper) (n j t : Nat) : Prop := j < n ∧ ∃ o, nth L j = some o ∧ o.dst = some t
def gpass (L : List Oper) (o : Oper) (s : MS) : Prop := o.guard = none ∨ ∃ j want oj d, o.guard = some (j, want) ∧ nth L j = some oj ∧ oj.dst = some d ∧ look d s.tm = .bool want
def gfail (L : List Oper) (o : Oper) (s : MS) : Prop := ∃ j want oj d, o.guard = some (j, want) ∧ nth L j = some oj ∧ oj.dst = some d ∧ (look d s.tm = .bool (!want) ∨ look d s.tm = .tup [])
def Sep (ms : List Nat) (q : Pend) (j : Nat) (l : List MV) : Prop := (∃ mk, nth ms q.k = some mk ∧ mk.testBit j = true) ∨ ments q.i l = false
structure Fin' where
 sF : MS
 dead : Option (Nat × MV)
 pd : List Pend
def AtRun {P : Program} (E : Env P) (F : Fin') (k nx : Nat) (o : Oper) (s : MS) (R : MV → Prop) : Prop :=
 match ev01 E s o.op with
 | .val p m => p.holds ∧ (∀ q ∈ F.pd, q.k ≠ k) ∧ R m
 | .new p b mk => p.holds ∧ (∀ q ∈ F.pd, q.k ≠ k) ∧ nth F.sF.bx s.bx.length = some b ∧ nx = s.bx.length + 1 ∧ R (mk s.bx.length)
 | .res p r fz => fz = [] ∧ p.holds ∧ (∀ q ∈ F.pd, q.k ≠ k) ∧ evRes R (fun m => F.dead = some (k, m)) r
 | .upd p s' _ => p.holds ∧ (∀ p x, F.dead = some (p, x) → p ≠ k) ∧ o.dst = none ∧ ∃ i b, storeBox s o.op = some i ∧ nth s'.bx i = some b ∧ ⟨k, i, b.c⟩ ∈ F.pd ∧ ∀ q ∈ F.pd, q.k = k → q = ⟨k, i, b.c⟩
 | _ => False
def AtR (L : List Oper) (n : Nat) (F : Fin') (k : Nat) (o : Oper) (m : MV) : Prop :=
 (∀ p x, F.dead = some (p, x) → p ≠ k) ∧ ∀ d, o.dst = some d → (∀ j, k < j → ¬ wrN L n j d) → look d F.sF.tm = m
def At {P : Program} (E : Env P) (L : List Oper) (ms : List Nat) (n : Nat) (F : Fin') (k : Nat) (o : Oper) (s s' : MS) : Prop :=
 (∃ p m mk, F.dead = some (p, m) ∧ p < k ∧ nth ms k = some mk ∧ mk.testBit p = true) ∨
 (dstOk o.dst s.n = true ∧ ∃ s1 : MS, (∀ t, look t s1.tm = look t s.tm) ∧ s1.bx = s.bx ∧ s1.n = s.n ∧
  ((gfail L o s1 ∧ (∀ q ∈ F.pd, q.k ≠ k) ∧ AtR L n F k o (.tup [])) ∨ (gpass L o s1 ∧ (∀ q ∈ F.pd, q.k ≠ k → Sep ms q k (opMs s1 o.op)) ∧ AtRun E F k s'.bx.length o s1 (AtR L n F k o))))
structure Cert {P : Program} (E : Env P) (L : List Oper) (ms : List Nat) (Kp : MV → Prop) (n : Nat) (dead : Option (Nat × MV)) (pd : List Pend) (seen : List (Nat × List MV)) (k : Nat) (s : MS) (K : MS → Prop) (F : Fin') (σ : Nat → MS) : Prop where
 fin : F.dead = none → K { F.sF with bx := putPd F.pd F.sF.bx }
 pan : ∀ p m, F.dead = some (p, m) → Kp m ∧ p < n
 more : ∀ x, dead = some x → F.dead = some x
 from_ : ∀ p m, F.dead = some (p, m) → dead = some (p, m) ∨ k ≤ p
 first : σ k = s
 last : σ n = F.sF
 num : ∀ j, k ≤ j → j ≤ n → (σ j).n = F.sF.n ∧ (σ j).np = F.sF.np
 bx : ∀ j, k ≤ j → j ≤ n → ∀ i b, nth (σ j).bx i = some b → nth F.sF.bx i = some b
 len : ∀ j, k ≤ j → j < n → (σ j).bx.length ≤ (σ (j + 1)).bx.length
 lk : ∀ j, k ≤ j → j ≤ n → ∀ t, (∀ i, j ≤ i → ¬ wrN L n i t) → look t F.sF.tm = look t (σ j).tm
 at_ : ∀ j o, k ≤ j → j < n → nth L j = some o → At E L ms n F j o (σ j) (σ (j + 1))
 pmore : ∀ q, q ∈ pd → q ∈ F.pd
 pfrom : ∀ q, q ∈ F.pd → q ∈ pd ∨ (k ≤ q.k ∧ q.k < n)
 pnod : (F.pd.map Pend.i).Nodup
 pseen : ∀ q ∈ F.pd, k ≤ q.k → ∀ e ∈ seen, Sep ms q e.1 e.2
 pbox : ∀ q ∈ F.pd, ∃ c, nth F.sF.bx q.i = some ⟨false, c⟩
theorem noPend_spec : ∀ {pd : List Pend} {l : List MV}, noPend pd l = true → ∀ q ∈ pd, ments q.i l = false
 | [], _, _ => fun q hq => by simp at hq
 | x :: r, l, h => fun q hq => by
  simp only [noPend, Bool.and_eq_true, Bool.not_eq_true'] at h
  rcases List.mem_cons.1 hq with rfl | hq
  ·exact h.1
  ·exact noPend_spec h.2 q hq
theorem seenOk_spec {i mk : Nat} : ∀ {l : List (Nat × List MV)}, seenOk i mk l = true → ∀ e ∈ l, mk.testBit e.1 = true ∨ ments i e.2 = false
 | [], _ => fun e he => by simp at he
 | x :: r, h => fun e he => by
  simp only [seenOk, Bool.and_eq_true, Bool.or_eq_true, Bool.not_eq_true'] at h
  rcases List.mem_cons.1 he with rfl | he
  ·exact h.1
  ·exact seenOk_spec h.2 e he
theorem cert_cons {P : Program} {E : Env P} {L : List Oper} {ms : List Nat} {Kp : MV → Prop} {n k : Nat} {dead dead2 : Option (Nat × MV)} {pd pd2 : List Pend} {seen seen2 : List (Nat × List MV)} {s s2 : MS} {o : Oper} {K : MS → Prop}
  (hk : nth L k = some o) (hkn : k < n) (hn : s2.n = s.n ∧ s2.np = s.np) (hbx : ∀ i b, nth s.bx i = some b → nth s2.bx i = some b) (hlen : s.bx.length ≤ s2.bx.length)
  (hlook : ∀ t, o.dst ≠ some t → look t s2.tm = look t s.tm) (hdead : ∀ x, dead = some x → dead2 = some x) (hdead2 : ∀ p m, dead2 = some (p, m) → dead = some (p, m) ∨ k ≤ p)
  (hpd : ∀ q, q ∈ pd → q ∈ pd2) (hpd2 : ∀ q, q ∈ pd2 → q ∈ pd ∨ (q.k = k ∧ ∀ e ∈ seen, Sep ms q e.1 e.2)) (hpk : ∀ q ∈ pd, q.k < k) (hseen : ∀ e, e ∈ seen → e ∈ seen2)
  (IH : ∃ F σ, Cert E L ms Kp n dead2 pd2 seen2 (k + 1) s2 K F σ)
  (hAt : ∀ F, (∀ x, dead2 = some x → F.dead = some x) → (∀ p m, F.dead = some (p, m) → dead2 = some (p, m) ∨ k + 1 ≤ p) → (∀ i b, nth s2.bx i = some b → nth F.sF.bx i = some b) → (∀ d, (∀ j, k < j → ¬ wrN L n j d) → look d F.sF.tm = look d s2.tm) →
   (∀ q, q ∈ pd2 → q ∈ F.pd) → (∀ q, q ∈ F.pd → q ∈ pd2 ∨ k + 1 ≤ q.k) → (∀ q ∈ F.pd, k + 1 ≤ q.k → ∀ e ∈ seen2, Sep ms q e.1 e.2) → At E L ms n F k o s s2) :
  ∃ F σ, Cert E L ms Kp n dead pd seen k s K F σ := by
 obtain ⟨F, σ, C⟩ := IH
 have e1 : ∀ j, k < j → (if j ≤ k then s else σ j) = σ j := fun j hj => if_neg (by omega)
 have ek : (if k ≤ k then s else σ k) = s := if_pos (Nat.le_refl _)
 have ek2 : (if k + 1 ≤ k then s else σ (k + 1)) = s2 := by rw [if_neg (by omega)]; exact C.first
 refine ⟨F, fun j => if j ≤ k then s else σ j, ?_⟩
 have hlk2 := C.lk (k + 1) (Nat.le_refl _) (by omega)
 rw [C.first] at hlk2
 have hbx2 := C.bx (k + 1) (Nat.le_refl _) (by omega)
 rw [C.first] at hbx2
 have hn2 := C.num (k + 1) (Nat.le_refl _) (by omega)
 rw [C.first] at hn2
 refine ⟨C.fin, C.pan, fun x hx => C.more x (hdead x hx), fun p m e => (C.from_ p m e).elim (hdead2 p m) (fun h => .inr (by omega)), ek, by rw [e1 n hkn]; exact C.last, fun j h1 h2 => ?_, fun j h1 h2 => ?_, fun j h1 h2 => ?_, fun j h1 h2 => ?_, fun j oj h1 h2 h3 => ?_,
  fun q hq => C.pmore q (hpd q hq), fun q hq => ?_, C.pnod, fun q hq hkq e he => ?_, C.pbox⟩
 ·rcases Nat.lt_or_ge k j with h | h
  ·simp only [e1 j h]; exact C.num j h h2
  ·have : j = k := by omega
   subst this; simp only [ek]; exact ⟨by omega, by omega⟩
 ·rcases Nat.lt_or_ge k j with h | h
  ·simp only [e1 j h]; exact C.bx j h h2
  ·have : j = k := by omega
   subst this; simp only [ek]; exact fun i b hb => hbx2 i b (hbx i b hb)
 ·rcases Nat.lt_or_ge k j with h | h
  ·simp only [e1 j h, e1 (j + 1) (by omega)]; exact C.len j h h2
  ·have : j = k := by omega
   subst this; simp only [ek, ek2]; exact hlen
 ·rcases Nat.lt_or_ge k j with h | h
  ·simp only [e1 j h]; exact C.lk j h h2
  ·have : j = k := by omega
   subst this
   simp only [ek]
   intro t ht
   rw [hlk2 t fun i hi => ht i (by omega)]
   exact hlook t fun e => ht j (Nat.le_refl _) ⟨hkn, o, hk, e⟩
 ·rcases Nat.lt_or_ge k j with h | h
  ·simp only [e1 j h, e1 (j + 1) (by omega)]; exact C.at_ j oj h h2 h3
  ·have : j = k := by omega
   subst this
   rw [hk, Option.some.injEq] at h3
   subst h3
   simp only [ek, ek2]
   exact hAt F C.more C.from_ hbx2 (fun d hd => hlk2 d fun i hi => hd i hi) C.pmore (fun q hq => (C.pfrom q hq).imp id (fun h => h.1)) C.pseen
 ·rcases C.pfrom q hq with h | h
  ·rcases hpd2 q h with h | h
   ·exact .inl h
   ·exact .inr ⟨by omega, by omega⟩
  ·exact .inr ⟨by omega, h.2⟩
 ·rcases C.pfrom q hq with h | h
  ·rcases hpd2 q h with h | h
   ·have := hpk q h; omega
   ·exact h.2 e he
  ·exact C.pseen q hq h.1 e (hseen e he)
theorem look_putO (s : MS) (t : Option Nat) (m : MV) (u : Nat) (h : t ≠ some u) : look u (s.putO t m).tm = look u s.tm := by
 cases t with
 | none => rfl
 | some t => simp only [MS.putO, look_put]; rw [if_neg (fun e => h (by rw [e]))]
theorem look_putO_same (s : MS) (t : Nat) (m : MV) : look t (s.putO (some t) m).tm = m := by simp only [MS.putO, look_put, if_true]
theorem putO_bx (s : MS) (t : Option Nat) (m : MV) : (s.putO t m).bx = s.bx := by cases t <;> rfl
theorem putO_k {s s0 : MS} {t : Option Nat} {m : MV} (e : s.n = s0.n ∧ s.np = s0.np) : (s.putO t m).n = s0.n ∧ (s.putO t m).np = s0.np := by cases t <;> exact e
theorem putO_n (s : MS) (t : Option Nat) (m : MV) : (s.putO t m).n = s.n := by cases t <;> rfl
theorem look_again (s : MS) (d : Nat) (m : MV) (h : look d s.tm = m) (t : Nat) : look t (s.put d m).tm = look t s.tm := by
 rw [look_put]; split
 ·subst_vars; rfl
 ·rfl
theorem evRes_way {kr kp : MV → Prop} : ∀ (r : MRes), evRes kr kp r → ∃ x : MRes, (∀ {kr' kp' : MV → Prop}, evRes kr' kp' x → evRes kr' kp' r) ∧ ((∃ m, x = .ret m ∧ kr m) ∨ (∃ m, x = .pan m ∧ kp m))
 | .ret m, h => ⟨.ret m, id, .inl ⟨m, rfl, h⟩⟩
 | .pan m, h => ⟨.pan m, id, .inr ⟨m, rfl, h⟩⟩
 | .br b x y, h => by
  simp only [evRes, Br] at h
  cases b with
  | false =>
   obtain ⟨z, h1, h2⟩ := evRes_way y h
   exact ⟨z, fun q => by simp only [evRes, Br, cond_false]; exact h1 q, h2⟩
  | true =>
   obtain ⟨z, h1, h2⟩ := evRes_way x h
   exact ⟨z, fun q => by simp only [evRes, Br, cond_true]; exact h1 q, h2⟩
theorem evPre_cert {P : Program} {E : Env P} {L : List Oper} {ms : List Nat} {Kp : MV → Prop} {n : Nat} {K : MS → Prop} :
  ∀ (rest : List Oper) (dead : Option (Nat × MV)) (pd : List Pend) (seen : List (Nat × List MV)) (k : Nat) (s : MS), evPre E L ms Kp K rest dead pd seen k s → k + rest.length = n → (∀ i, i < rest.length → nth rest i = nth L (k + i)) → (∀ p m, dead = some (p, m) → p < k) →
  (∀ q ∈ pd, q.k < k) → (pd.map Pend.i).Nodup → (∀ q ∈ pd, ∃ c, nth s.bx q.i = some ⟨false, c⟩) →
  ∃ F σ, Cert E L ms Kp n dead pd seen k s K F σ
 | [], dead, pd, seen, k, s, h, hk, hl, hd, hpk, hpn, hpb => by
  simp at hk
  subst hk
  simp only [evPre] at h
  refine ⟨⟨s, dead, pd⟩, fun _ => s, ⟨fun e => ?_, fun p m e => ?_, fun x hx => hx, fun p m e => .inl e, rfl, rfl, fun _ _ _ => ⟨rfl, rfl⟩, fun _ _ _ _ _ h => h, fun _ _ _ => Nat.le_refl _, fun _ _ _ _ _ => rfl, fun j o h1 h2 _ => by omega,
   fun q hq => hq, fun q hq => .inl hq, hpn, fun q hq hkq => by have := hpk q hq; omega, hpb⟩⟩
  ·have e : dead = none := e
   subst e; exact h
  ·have e : dead = some (p, m) := e
   subst e; exact ⟨h, hd p m rfl⟩
 | o :: rest, dead, pd, seen, k, s, h, hk, hl, hd, hpk, hpn, hpb => by
  simp only [List.length_cons] at hk
  have hkn : k < n := by omega
  have hok : nth L k = some o := by have := hl 0 (by simp); simp only [nth, Nat.add_zero] at this; exact this.symm
  have hl' : ∀ i, i < rest.length → nth rest i = nth L (k + 1 + i) := fun i hi => by
   have := hl (i + 1) (by simp; omega)
   simp only [nth] at this
   rw [this]; congr 1; omega
  have nd : ∀ {deadF : Option (Nat × MV)}, (∀ p m, deadF = some (p, m) → dead = some (p, m) ∨ k + 1 ≤ p) → ∀ p x, deadF = some (p, x) → p ≠ k := by
   intro deadF hf p x e
   rcases hf p x e with q | q
   ·have := hd p x q; omega
   ·omega
  have npk : ∀ {pdF : List Pend}, (∀ q, q ∈ pdF → q ∈ pd ∨ k + 1 ≤ q.k) → ∀ q ∈ pdF, q.k ≠ k := by
   intro pdF hf q hq
   rcases hf q hq with h | h
   ·have := hpk q h; omega
   ·omega
  have hpk1 : ∀ q ∈ pd, q.k < k + 1 := fun q hq => by have := hpk q hq; omega
  have run : ∀ s1 : MS, (∀ t, look t s1.tm = look t s.tm) → s1.bx = s.bx → s1.n = s.n ∧ s1.np = s.np → dstOk o.dst s.n = true → gpass L o s1 →
    preRun E ms dead pd seen k o s1 (fun d p q s' => evPre E L ms Kp K rest d p q (k + 1) s') → ∃ F σ, Cert E L ms Kp n dead pd seen k s K F σ := by
   intro s1 e1 e2 e3 hdst hg H
   unfold preRun at H
   cases hnp : noPend pd (opMs s1 o.op) with
   | false => rw [hnp] at H; exact H.elim
   | true =>
   rw [hnp, cond_true] at H
   have hnp := noPend_spec hnp
   have hpb1 : ∀ q ∈ pd, ∃ c, nth s1.bx q.i = some ⟨false, c⟩ := fun q hq => by rw [e2]; exact hpb q hq
   have sepF : ∀ {F : Fin'} {pd2 : List Pend}, (∀ q, q ∈ F.pd → q ∈ pd2 ∨ k + 1 ≤ q.k) → (∀ q ∈ pd2, q ∈ pd ∨ q.k = k) → (∀ q ∈ F.pd, k + 1 ≤ q.k → ∀ e ∈ (k, opMs s1 o.op) :: seen, Sep ms q e.1 e.2) → ∀ q ∈ F.pd, q.k ≠ k → Sep ms q k (opMs s1 o.op) := by
    intro F pd2 h1 h2 h3 q hq hne
    rcases h1 q hq with h | h
    ·rcases h2 q h with h | h
     ·exact .inr (hnp q h)
     ·exact absurd h hne
    ·exact h3 q hq h _ (List.mem_cons_self ..)
   split at H
   ·rename_i p m he
    obtain ⟨hp, H⟩ := oand_holds.1 H
    refine cert_cons hok hkn (putO_k e3) (fun i b hb => by rw [putO_bx, e2]; exact hb) (by rw [putO_bx, e2]; exact Nat.le_refl _) (fun t ht => (look_putO _ _ _ _ ht).trans (e1 t)) (fun x hx => hx) (fun p m e => .inl e)
     (fun q hq => hq) (fun q hq => .inl hq) hpk (fun e he => List.mem_cons_of_mem _ he)
     (evPre_cert rest dead pd _ (k + 1) _ H (by omega) hl' (fun p m e => by have := hd p m e; omega) hpk1 hpn (fun q hq => by rw [putO_bx]; exact hpb1 q hq)) (fun F _ hfrom _ hlk hm hf hs => .inr ⟨hdst, s1, e1, e2, e3.1, .inr ⟨hg, sepF hf (fun q hq => .inl hq) hs, ?_⟩⟩)
    unfold AtRun
    rw [he]
    refine ⟨hp, npk hf, nd hfrom, fun d hdd hw => ?_⟩
    rw [hlk d hw, hdd, look_putO_same]
   ·rename_i p b mk he
    obtain ⟨hp, H⟩ := oand_holds.1 H
    refine cert_cons (s2 := ({ s1 with bx := s1.bx ++ [b] } : MS).putO o.dst (mk s1.bx.length)) hok hkn (putO_k e3) (fun i b' hb => by
      rw [putO_bx]
      show nth (s1.bx ++ [b]) i = some b'
      rw [e2, nth_append_left _ _ _ (nth_lt hb)]; exact hb) (by rw [putO_bx]; simp [e2]) (fun t ht => (look_putO _ _ _ _ ht).trans (e1 t)) (fun x hx => hx) (fun p m e => .inl e)
     (fun q hq => hq) (fun q hq => .inl hq) hpk (fun e he => List.mem_cons_of_mem _ he)
     (evPre_cert rest dead pd _ (k + 1) _ H (by omega) hl' (fun p m e => by have := hd p m e; omega) hpk1 hpn (fun q hq => by
      rw [putO_bx]
      obtain ⟨c, hc⟩ := hpb1 q hq
      exact ⟨c, (nth_append_left _ _ _ (nth_lt hc)).trans hc⟩)) (fun F _ hfrom hbx hlk hm hf hs => .inr ⟨hdst, s1, e1, e2, e3.1, .inr ⟨hg, sepF hf (fun q hq => .inl hq) hs, ?_⟩⟩)
    unfold AtRun
    rw [he]
    refine ⟨hp, npk hf, hbx _ _ ?_, by rw [putO_bx]; simp, nd hfrom, fun d hdd hw => ?_⟩
    ·rw [putO_bx]; simp [nth_eq]
    ·rw [hlk d hw, hdd, look_putO_same]
   ·rename_i p r fz he
    split at H
    ·obtain ⟨hp, H⟩ := oand_holds.1 H
     obtain ⟨x, hway, hx⟩ := evRes_way r H
     rcases hx with ⟨m, rfl, H⟩ | ⟨m, rfl, H⟩
     ·refine cert_cons hok hkn (putO_k e3) (fun i b hb => by rw [putO_bx, e2]; exact hb) (by rw [putO_bx, e2]; exact Nat.le_refl _) (fun t ht => (look_putO _ _ _ _ ht).trans (e1 t)) (fun x hx => hx) (fun p m e => .inl e)
       (fun q hq => hq) (fun q hq => .inl hq) hpk (fun e he => List.mem_cons_of_mem _ he)
       (evPre_cert rest dead pd _ (k + 1) _ H (by omega) hl' (fun p m e => by have := hd p m e; omega) hpk1 hpn (fun q hq => by rw [putO_bx]; exact hpb1 q hq)) (fun F _ hfrom _ hlk hm hf hs => .inr ⟨hdst, s1, e1, e2, e3.1, .inr ⟨hg, sepF hf (fun q hq => .inl hq) hs, ?_⟩⟩)
      unfold AtRun
      rw [he]
      refine ⟨rfl, hp, npk hf, hway ⟨nd hfrom, ?_⟩⟩
      intro d hdd hw
      rw [hlk d hw, hdd, look_putO_same]
     ·cases dead with
      | some _ => exact H.elim
      | none =>
       refine cert_cons (s2 := s1) (dead2 := some (k, m)) hok hkn e3 (fun i b hb => by rw [e2]; exact hb) (by rw [e2]; exact Nat.le_refl _) (fun t _ => e1 t) (fun x hx => by simp at hx) (fun p m' e => by simp at e; exact .inr (by omega))
        (fun q hq => hq) (fun q hq => .inl hq) hpk (fun e he => List.mem_cons_of_mem _ he)
        (evPre_cert rest (some (k, m)) pd _ (k + 1) s1 H (by omega) hl' (fun p m' e => by simp at e; omega) hpk1 hpn hpb1) (fun F hmore _ _ hlk hm hf hs => .inr ⟨hdst, s1, e1, e2, e3.1, .inr ⟨hg, sepF hf (fun q hq => .inl hq) hs, ?_⟩⟩)
       unfold AtRun
       rw [he]
       exact ⟨rfl, hp, npk hf, hway (hmore _ rfl)⟩
    ·exact H.elim
   ·rename_i p s' m he
    split at H
    ·split at H
     ·rename_i hod
      split at H
      ·rename_i i hi
       split at H
       ·rename_i b hb
        split at H
        ·rename_i mk hmk
         cases hsk : seenOk i mk seen with
         | false => rw [hsk] at H; exact H.elim
         | true =>
          rw [hsk, cond_true] at H
          have hsk := seenOk_spec hsk
          obtain ⟨hp, H⟩ := oand_holds.1 H
          obtain ⟨dst, type, pos, after, guard, t, x, y, rfl, hst⟩ : ∃ dst type pos after guard t x y, o = ⟨dst, .store t x y, type, pos, after, guard⟩ ∧ evStore P s1 t (s1.ev x) (s1.ev y) = .upd p s' m := by
           obtain ⟨dst, op, type, pos, after, guard⟩ := o
           cases op with
           | store t x y => exact ⟨dst, type, pos, after, guard, t, x, y, rfl, he⟩
           | _ => simp [storeBox] at hi
          have hib : ∃ off, s1.ev x = .bp i off := by
           simp only [storeBox] at hi
           split at hi
           ·rename_i i' off hx
            simp only [Option.some.injEq] at hi
            subst hi
            exact ⟨off, hx⟩
           ·simp at hi
          obtain ⟨off, hx⟩ := hib
          have hmi : ∀ q ∈ pd, q.i ≠ i := fun q hq e => by
           have := hnp q hq
           simp [opMs, Op.operands, ments, hx, MV.ment, e] at this
          have hbox : ∃ c, nth s1.bx i = some ⟨false, c⟩ := by
           rw [hx] at hst
           unfold evStore at hst
           split at hst
           ·simp only at hst
            split at hst
            ·rename_i b0 hb0
             obtain ⟨fz, bc⟩ := b0
             cases fz with
             | false => exact ⟨bc, hb0⟩
             | true => simp at hst
            ·simp at hst
           ·simp at hst
          have hsp : ∀ e ∈ seen, Sep ms ⟨k, i, b.c⟩ e.1 e.2 := fun e he => by
           rcases hsk e he with h | h
           ·exact .inl ⟨mk, hmk, h⟩
           ·exact .inr h
          refine cert_cons (s2 := s1) (dead2 := none) hok hkn e3 (fun i b hb => by rw [e2]; exact hb) (by rw [e2]; exact Nat.le_refl _) (fun t _ => e1 t) (fun x hx => hx) (fun p m e => .inl e)
           (fun q hq => List.mem_cons_of_mem _ hq) (fun q hq => by
            rcases List.mem_cons.1 hq with rfl | hq
            ·exact .inr ⟨rfl, hsp⟩
            ·exact .inl hq) hpk (fun e he => List.mem_cons_of_mem _ he)
           (evPre_cert rest none _ _ (k + 1) s1 H (by omega) hl' (fun p m e => by simp at e) (fun q hq => by
            rcases List.mem_cons.1 hq with rfl | hq
            ·exact Nat.lt_succ_self _
            ·exact hpk1 q hq) (by
             rw [List.map_cons, List.nodup_cons]
             refine ⟨fun hm => ?_, hpn⟩
             obtain ⟨q, hq, e⟩ := List.mem_map.1 hm
             exact hmi q hq e) (fun q hq => by
            rcases List.mem_cons.1 hq with rfl | hq
            ·exact hbox
            ·exact hpb1 q hq)) (fun F hmore hfrom _ hlk hm hf hs => .inr ⟨hdst, s1, e1, e2, e3.1, .inr ⟨hg, sepF hf (fun q hq => by
            rcases List.mem_cons.1 hq with rfl | hq
            ·exact .inr rfl
            ·exact .inl hq) hs, ?_⟩⟩)
          unfold AtRun
          rw [he]
          refine ⟨hp, nd hfrom, hod, i, b, hi, hb, hm _ (List.mem_cons_self ..), fun q hq hqk => ?_⟩
          rcases hf q hq with h | h
          ·rcases List.mem_cons.1 h with h | h
           ·exact h
           ·have := hpk q h; omega
          ·omega
        ·exact H.elim
       ·exact H.elim
      ·exact H.elim
     ·exact H.elim
    ·exact H.elim
   ·exact H.elim
  have go : preGo E L ms dead pd seen k o s (fun d p q s' => evPre E L ms Kp K rest d p q (k + 1) s') → ∃ F σ, Cert E L ms Kp n dead pd seen k s K F σ := by
   intro h
   unfold preGo at h
   cases hdst : dstOk o.dst s.n with
   | false => rw [hdst] at h; exact h.elim
   | true =>
    rw [hdst, cond_true] at h
    split at h
    ·rename_i hg
     exact run s (fun _ => rfl) rfl ⟨rfl, rfl⟩ hdst (.inl hg) h
    ·rename_i j want hg
     split at h
     ·rename_i oj hj
      split at h
      ·rename_i d hdj
       split at h
       ·rename_i b hb
        have key : (b = want ∧ preRun E ms dead pd seen k o (s.put d (.bool want)) (fun d p q s' => evPre E L ms Kp K rest d p q (k + 1) s')) ∨ (b = (!want) ∧ evPre E L ms Kp K rest dead pd seen (k + 1) ((s.put d (.bool (!want))).putO o.dst (.tup []))) := by
         unfold guardStep Br at h
         cases b <;> cases want <;> first | exact .inl ⟨rfl, h⟩ | exact .inr ⟨rfl, h⟩
        rcases key with ⟨rfl, hh⟩ | ⟨rfl, hh⟩
        ·have hlk := look_again s d (.bool b) hb
         exact run (s.put d (.bool b)) hlk rfl ⟨rfl, rfl⟩ hdst (.inr ⟨j, b, oj, d, hg, hj, hdj, (hlk d).trans hb⟩) hh
        ·have hlk := look_again s d (.bool (!want)) hb
         refine cert_cons (s2 := (s.put d (.bool (!want))).putO o.dst (.tup [])) hok hkn (putO_k ⟨rfl, rfl⟩) (fun i b hb => by rw [putO_bx]; exact hb) (by rw [putO_bx]; exact Nat.le_refl _) (fun t ht => (look_putO _ _ _ _ ht).trans (hlk t)) (fun x hx => hx) (fun p m e => .inl e)
          (fun q hq => hq) (fun q hq => .inl hq) hpk (fun e he => he)
          (evPre_cert rest dead pd seen (k + 1) _ hh (by omega) hl' (fun p m e => by have := hd p m e; omega) hpk1 hpn (fun q hq => by rw [putO_bx]; exact hpb q hq))
          (fun F _ hfrom _ hlk2 hm hf hs => .inr ⟨hdst, s.put d (.bool (!want)), hlk, rfl, rfl, .inl ⟨⟨j, want, oj, d, hg, hj, hdj, .inl ((hlk d).trans hb)⟩, npk hf, nd hfrom, fun d' hdd hw => ?_⟩⟩)
         rw [hlk2 d' hw, hdd, look_putO_same]
       ·rename_i hb
        refine cert_cons (s2 := s.putO o.dst (.tup [])) hok hkn (putO_k ⟨rfl, rfl⟩) (fun i b hb => by rw [putO_bx]; exact hb) (by rw [putO_bx]; exact Nat.le_refl _) (fun t ht => look_putO _ _ _ _ ht) (fun x hx => hx) (fun p m e => .inl e)
         (fun q hq => hq) (fun q hq => .inl hq) hpk (fun e he => he)
         (evPre_cert rest dead pd seen (k + 1) _ h (by omega) hl' (fun p m e => by have := hd p m e; omega) hpk1 hpn (fun q hq => by rw [putO_bx]; exact hpb q hq))
         (fun F _ hfrom _ hlk2 hm hf hs => .inr ⟨hdst, s, fun _ => rfl, rfl, rfl, .inl ⟨⟨j, want, oj, d, hg, hj, hdj, .inr hb⟩, npk hf, nd hfrom, fun d' hdd hw => ?_⟩⟩)
        rw [hlk2 d' hw, hdd, look_putO_same]
       ·exact h.elim
      ·exact h.elim
     ·exact h.elim
  cases dead with
  | none => simp only [evPre] at h; exact go h
  | some pm =>
   obtain ⟨p, m⟩ := pm
   simp only [evPre] at h
   split at h
   ·rename_i mk hmk
    cases hb : mk.testBit p with
    | false => rw [hb, cond_false] at h; exact go h
    | true =>
     rw [hb, cond_true] at h
     exact cert_cons (s2 := s) (dead2 := some (p, m)) hok hkn ⟨rfl, rfl⟩ (fun _ _ h => h) (Nat.le_refl _) (fun _ _ => rfl) (fun x hx => hx) (fun p m e => .inl e)
      (fun q hq => hq) (fun q hq => .inl hq) hpk (fun e he => he)
      (evPre_cert rest (some (p, m)) pd seen (k + 1) s h (by omega) hl' (fun p' m' e => by have := hd p' m' e; omega) hpk1 hpn hpb) (fun F hmore _ _ _ _ _ _ => .inl ⟨p, m, mk, hmore _ rfl, hd p m rfl, hmk, hb⟩)
   ·exact h.elim
end Go.Proofs.YtnfmjlhkknndhaaGreat
/-
 The evaluator is right, part 12: the first operations of a region that draws, in whatever order; regions.
-/
namespace Go.Proofs.YtnfmjlhkknndhaaGreat
open Go Go.RowKit
theorem Mem.extend {S0 : Nat → Prop} {w0 : Base} {w : World} {bx bx' : List Box} {c : Ctx} (h : Mem S0 w0 bx c w) (hb : ∀ i b, nth bx i = some b → nth bx' i = some b) (hl : bx.length ≤ bx'.length) : Mem S0 w0 bx' c w := by
 have up : ∀ i b0, c.live i → nth bx' i = some b0 → nth bx i = some b0 := by
  intro i b0 hi h0
  have hlt := (h.fresh i hi).2.2
  have : nth bx i = some bx[i] := by rw [nth_eq]; simp [hlt]
  rw [hb _ _ this] at h0
  rw [this, h0]
 exact ⟨h.ext, h.S0lt, h.gl, h.hS, fun b => (h.hW b).trans ⟨fun ⟨i, b0, q1, q2, q3⟩ => ⟨i, b0, q1, hb _ _ q2, q3⟩, fun ⟨i, b0, q1, q2, q3⟩ => ⟨i, b0, q1, up i b0 q1 q2, q3⟩⟩, h.inj,
  fun i hi => by have := h.fresh i hi; exact ⟨this.1, this.2.1, by omega⟩, fun i b hi h0 => h.box i b hi (up i b hi h0), h.pin⟩
/-! ### HOW MANY ARE LEFT -/
def left (ops : Array Oper) (listed : Array Bool) : Nat := ((List.range ops.size).filter fun i => !listed.getD i true).length
theorem filter_drop (f g : Nat → Bool) (i : Nat) (hi : f i = true) (hg : ∀ j, g j = (f j && decide (j ≠ i))) : ∀ (l : List Nat), l.Nodup → i ∈ l → (l.filter g).length + 1 = (l.filter f).length
 | [], _, h => by simp at h
 | x :: l, hn, h => by
  simp only [List.nodup_cons] at hn
  by_cases e : x = i
  ·subst e
   have hgx : g x = false := by rw [hg]; simp
   have : l.filter g = l.filter f := by
    apply List.filter_congr
    intro y hy
    rw [hg]
    have : y ≠ x := fun e => hn.1 (e ▸ hy)
    simp [this]
   simp [hi, hgx, this]
  ·have hm : i ∈ l := by simpa [Ne.symm e] using h
   have ih := filter_drop f g i hi hg l hn.2 hm
   have hgx : g x = f x := by rw [hg]; simp [e]
   cases hx : f x with
   | true => rw [hx] at hgx; simp [hx, hgx]; omega
   | false => rw [hx] at hgx; simp [hx, hgx]; omega
theorem left_put {ops : Array Oper} {listed : Array Bool} {i : Nat} (hsz : listed.size = ops.size) (hi : i ∈ Region.ready .any ops listed) : left ops (listed.setIfInBounds i true) + 1 = left ops listed := by
 obtain ⟨h1, h2, _⟩ := mem_ready.1 hi
 refine filter_drop (fun j => !listed.getD j true) (fun j => !(listed.setIfInBounds i true).getD j true) i (by simp only [h2]; rfl) (fun j => ?_) _ List.nodup_range (by simp [h1])
 simp only [Array.getD_eq_getD_getElem?, Array.getElem?_setIfInBounds]
 by_cases e : i = j
 ·subst e; simp [hsz, h1]
 ·simp [e, Ne.symm e]
theorem left_suffix {ops : Array Oper} {listed : Array Bool} {n : Nat} (hsz : listed.size = ops.size) (h : ∀ j, listed.getD j false = decide (j < n)) : left ops listed = ops.size - n := by
 have e : ∀ m, m ≤ ops.size → ((List.range m).filter fun i => !listed.getD i true).length = m - n := by
  intro m
  induction m with
  | zero => simp
  | succ m ih =>
   intro hm
   rw [List.range_succ, List.filter_append, List.length_append, ih (by omega)]
   have : listed.getD m true = decide (m < n) := by rw [getD_true_false (by omega), h]
   simp only [List.filter_cons, this, List.filter_nil]
   by_cases hlt : m < n
   ·simp [hlt]; omega
   ·simp [hlt]; omega
 exact e _ (Nat.le_refl _)
def Agr (s : MS) (bx' : List Box) (m : MV) : Prop := ∀ i b, m.ment i = true → nth s.bx i = some b → nth bx' i = some b
theorem shut_bx {s : MS} {bx' : List Box} (hz : ∀ i b, b.fz = true → nth s.bx i = some b → nth bx' i = some b) : ∀ (ms l : List MV), s.shut ms = some l → MS.shut { s with bx := bx' } ms = some l
 | [], l, h => h
 | m :: ms, l, h => by
  unfold MS.shut at h ⊢
  split at h
  ·rename_i j off
   cases ho : off.beq 0 with
   | false => rw [ho] at h; simp at h
   | true =>
    rw [ho, cond_true] at h
    dsimp only
    rw [cond_true]
    split at h
    ·rename_i x hb
     rw [hz j _ rfl hb]
     cases hc : x.clean true with
     | false => rw [hc] at h; simp at h
     | true =>
      rw [hc, cond_true] at h
      dsimp only
      rw [hc, cond_true]
      split at h
      ·rename_i l' hl'
       rw [shut_bx hz ms l' hl']
       exact h
      ·simp at h
    ·simp at h
  ·simp at h
mutual
theorem show_bx {s : MS} {bx' : List Box} (hz : ∀ i b, b.fz = true → nth s.bx i = some b → nth bx' i = some b) : ∀ (m : MV) (sh : Shown), Agr s bx' m → s.show m = some sh → MS.show { s with bx := bx' } m = some sh
 | .bp i off, sh, ha, h => by
  simp only [MS.show] at h ⊢
  cases hc : off.beq 0 with
  | false => rw [hc] at h; simp at h
  | true =>
   rw [hc, cond_true] at h
   rw [cond_true]
   split at h
   ·rename_i fz m hb
    rw [ha i _ (by simp [MV.ment]) hb]
    dsimp only
    cases hc : m.clean true with
    | true => rw [hc] at h; exact h
    | false =>
     rw [hc, cond_false] at h
     rw [cond_false]
     split at h
     ·rename_i f caps
      split at h
      ·rename_i l hl'
       rw [shut_bx hz caps l hl']
       exact h
      ·simp at h
     ·simp at h
   ·simp at h
 | .bs i off len, sh, ha, h => by
  simp only [MS.show] at h ⊢
  split at h
  ·rename_i fz k l hb
   rw [ha i _ (by simp [MV.ment]) hb]
   exact h
  ·rename_i fz wd n f hb
   rw [ha i _ (by simp [MV.ment]) hb]
   exact h
  ·simp at h
 | .fn f caps, sh, ha, h => by
  simp only [MS.show] at h ⊢
  split at h
  ·rename_i l p z hs
   rw [shows_bx hz caps _ (fun i b hm => ha i b (by simpa only [MV.ment] using hm)) hs]
   exact h
  ·simp at h
 | .any, sh, ha, h => by simpa only [MS.show] using h
 | .junk _, sh, ha, h => by simpa only [MS.show] using h
 | .bool _, sh, ha, h => by simpa only [MS.show] using h
 | .int _ _, sh, ha, h => by simpa only [MS.show] using h
 | .val _, sh, ha, h => by simpa only [MS.show] using h
 | .big _ _, sh, ha, h => by simpa only [MS.show] using h
 | .ws _, sh, ha, h => by simpa only [MS.show] using h
 | .sl _ _ _, sh, ha, h => by simpa only [MS.show] using h
 | .st ms, sh, ha, h => by
  simp only [MS.show] at h ⊢
  cases hc : cleans true ms with
  | true => rw [hc] at h; exact h
  | false =>
   rw [hc, cond_false] at h
   rw [cond_false]
   split at h
   ·rename_i l p z hs
    rw [shows_bx hz ms _ (fun i b hm => ha i b (by simpa only [MV.ment] using hm)) hs]
    exact h
   ·simp at h
 | .ref _, sh, ha, h => by simpa only [MS.show] using h
 | .br _ _ _, sh, ha, h => by simpa only [MS.show] using h
 | .tup _, sh, ha, h => by simpa only [MS.show] using h
 | .iface _ _, sh, ha, h => by simpa only [MS.show] using h
 | .emp, sh, ha, h => by simpa only [MS.show] using h
theorem shows_bx {s : MS} {bx' : List Box} (hz : ∀ i b, b.fz = true → nth s.bx i = some b → nth bx' i = some b) : ∀ (ms : List MV) (sh : Showns), (∀ i b, ments i ms = true → nth s.bx i = some b → nth bx' i = some b) → s.shows ms = some sh → MS.shows { s with bx := bx' } ms = some sh
 | [], sh, ha, h => by simpa only [MS.shows] using h
 | m :: ms, sh, ha, h => by
  simp only [MS.shows] at h ⊢
  split at h
  ·rename_i x p y l q z h1 h2
   rw [show_bx hz m _ (fun i b hm => ha i b (by simp [ments, hm])) h1, shows_bx hz ms _ (fun i b hm => ha i b (by simp [ments, hm])) h2]
   exact h
  ·simp at h
end
theorem evLoad_bx {s : MS} {bx' : List Box} {agg : Bool} {size : Nat} {x : MV} {p : OProp} {m : MV} (ha : Agr s bx' x) (h : evLoad s agg size x = .val p m) : evLoad { s with bx := bx' } agg size x = .val p m := by
 cases x
 case bp i off =>
  simp only [evLoad] at h ⊢
  split at h
  ·rename_i b hb
   rw [ha i _ (by simp [MV.ment]) hb]; exact h
  ·simp at h
 case br i idx off =>
  simp only [evLoad] at h ⊢
  split at h
  ·rename_i b hb
   rw [ha i _ (by simp [MV.ment]) hb]; exact h
  ·simp at h
 all_goals exact h
theorem evIndexAddr_bx {P : Program} {s : MS} {bx' : List Box} {t : TypeId} {x y : MV} {p : OProp} {m : MV} (ha : Agr s bx' x) (h : evIndexAddr P s t x y = .val p m) : evIndexAddr P { s with bx := bx' } t x y = .val p m := by
 cases x
 case bs i off len =>
  cases hnb : nth s.bx i with
  | some b =>
   have hb' := ha i b (by simp [MV.ment]) hnb
   unfold evIndexAddr at h ⊢
   simp only [hnb] at h
   simp only [hb']
   exact h
  | none =>
   unfold evIndexAddr at h ⊢
   simp only [hnb] at h
   (repeat' split at h) <;> simp_all
 all_goals exact h
theorem ment_opnd {s : MS} {o : Op} {bx' : List Box} (ha : ∀ i b, ments i (opMs s o) = true → nth s.bx i = some b → nth bx' i = some b) {x : Operand} (hx : x ∈ o.operands.toList) : Agr s bx' (s.ev x) := by
 intro i b hm hb
 refine ha i b ?_ hb
 have : ∀ (l : List MV), s.ev x ∈ l → ments i l = true := by
  intro l
  induction l with
  | nil => intro h; simp at h
  | cons y r ih =>
   intro h
   simp only [ments]
   rcases List.mem_cons.1 h with e | h
   ·rw [← e, hm]; simp
   ·rw [ih h]; simp
 exact this _ (List.mem_map.2 ⟨x, hx, rfl⟩)
theorem ev1_val_bx {P : Program} {E : Env P} {s : MS} {o : Op} {bx' : List Box} {p : OProp} {m : MV} (ha : ∀ i b, ments i (opMs s o) = true → nth s.bx i = some b → nth bx' i = some b) (h : ev1 E s o = .val p m) : ev1 E { s with bx := bx' } o = .val p m := by
 have hx := fun (x : Operand) (q : x ∈ o.operands.toList) => ment_opnd ha q
 cases o
 case load t x =>
  simp only [ev1] at h ⊢
  split at h
  ·rename_i agg size ht
   exact evLoad_bx (hx x (by simp [Op.operands])) h
  ·simp at h
 case indexAddr t x y =>
  simp only [ev1] at h ⊢
  cases x
  case global g => exact h
  case tmp u => exact evIndexAddr_bx (x := s.ev (.tmp u)) (hx (.tmp u) (by simp [Op.operands])) h
  case const v => exact evIndexAddr_bx (x := s.ev (.const v)) (hx (.const v) (by simp [Op.operands])) h
  case func f => exact evIndexAddr_bx (x := s.ev (.func f)) (hx (.func f) (by simp [Op.operands])) h
 case store t x y =>
  simp only [ev1] at h
  unfold evStore at h
  simp only [Bool.cond_eq_ite] at h
  (repeat' split at h) <;> simp at h
 case call c =>
  obtain ⟨callee, args, tys⟩ := c
  cases callee
  case value f =>
   simp only [ev1] at h
   split at h
   ·exact (not_upd evMut_isUpd h rfl).elim
   ·unfold evCall at h
    simp only [Bool.cond_eq_ite] at h
    (repeat' split at h) <;> simp at h
  case builtin b =>
   cases b
   case copy =>
    simp only [ev1] at h
    unfold evCopyCall evCopy at h
    simp only [Bool.cond_eq_ite] at h
    (repeat' split at h) <;> simp at h
   case append =>
    simp only [ev1] at h
    unfold evAppendCall evAppend at h
    simp only [Bool.cond_eq_ite] at h
    (repeat' split at h) <;> simp at h
   all_goals exact h
  all_goals exact h
 case panic x =>
  simp only [ev1] at h
  unfold evPanic at h
  simp only [Bool.cond_eq_ite] at h
  (repeat' split at h) <;> simp at h
 case makeFunc fn first caps => cases fn <;> exact h
 case slice t x lo hi mx => cases mx <;> exact h
 all_goals exact h
theorem evCall_bx {P : Program} {E : Env P} {s : MS} {bx' : List Box} {f : MV} {args : List MV} {p : OProp} {r : MRes} {fz : List Nat} (hz : ∀ i b, b.fz = true → nth s.bx i = some b → nth bx' i = some b) (hf : Agr s bx' f) (ha : ∀ i b, ments i args = true → nth s.bx i = some b → nth bx' i = some b)
  (h : evCall E s f args = .res p r fz) : evCall E { s with bx := bx' } f args = .res p r fz := by
 cases f
 case fn f caps =>
  simp only [evCall] at h ⊢
  split at h
  ·rename_i c hc
   split at h
   ·rename_i ms q fz2 hs
    have happ : ∀ (i : Nat) (a b : List MV), ments i (a ++ b) = (ments i a || ments i b) := by
     intro i a b
     induction a with
     | nil => simp [ments]
     | cons x r ih => simp [ments, ih, Bool.or_assoc]
    rw [shows_bx hz (args ++ caps) _ (fun i b hm hb => by
     rw [happ] at hm
     rcases (Bool.or_eq_true ..).mp hm with hm | hm
     ·exact ha i b hm hb
     ·exact hf i b (by simpa only [MV.ment] using hm) hb) hs]
    exact h
   ·simp at h
  ·simp at h
 all_goals simp [evCall] at h
theorem ments_mem {i : Nat} : ∀ {l : List MV}, ments i l = false → ∀ m ∈ l, m.ment i = false
 | [], _ => fun m hm => by simp at hm
 | x :: r, h => fun m hm => by
  simp only [ments, Bool.or_eq_false_iff] at h
  rcases List.mem_cons.1 hm with rfl | hm
  ·exact h.1
  ·exact ments_mem h.2 m hm
def appP (listed : Array Bool) : List Pend → List Box → List Box
 | [], bx => bx
 | q :: r, bx => appP listed r (if listed.getD q.k false = true then setNth bx q.i ⟨false, q.c⟩ else bx)
theorem appP_len (listed : Array Bool) : ∀ (pd : List Pend) (bx : List Box), (appP listed pd bx).length = bx.length
 | [], _ => rfl
 | q :: r, bx => by
  simp only [appP]
  rw [appP_len listed r]
  split
  ·rw [length_setNth]
  ·rfl
theorem appP_other (listed : Array Bool) (i : Nat) : ∀ (pd : List Pend) (bx : List Box), (∀ q ∈ pd, listed.getD q.k false = true → q.i ≠ i) → nth (appP listed pd bx) i = nth bx i
 | [], _, _ => rfl
 | q :: r, bx, h => by
  simp only [appP]
  rw [appP_other listed i r _ (fun q hq => h q (List.mem_cons_of_mem _ hq))]
  split
  ·rename_i hl
   rw [nth_setNth, if_neg (fun e => h q (List.mem_cons_self ..) hl e.1)]
  ·rfl
theorem appP_hit (listed : Array Bool) (i : Nat) (c : BC) (k : Nat) (hl : listed.getD k false = true) : ∀ (pd : List Pend) (bx : List Box), (pd.map Pend.i).Nodup → ⟨k, i, c⟩ ∈ pd → i < bx.length → nth (appP listed pd bx) i = some ⟨false, c⟩
 | [], _, _, h, _ => by simp at h
 | q :: r, bx, hn, h, hlt => by
  simp only [appP]
  rw [List.map_cons, List.nodup_cons] at hn
  rcases List.mem_cons.1 h with rfl | h
  ·rw [appP_other listed i r _ (fun q hq _ e => hn.1 (List.mem_map.2 ⟨q, hq, e⟩)), if_pos hl, nth_setNth, if_pos ⟨rfl, hlt⟩]
  ·refine appP_hit listed i c k hl r _ hn.2 h ?_
   split
   ·rw [length_setNth]; exact hlt
   ·exact hlt
theorem nth_ext {α : Type} : ∀ {a b : List α}, a.length = b.length → (∀ i, nth a i = nth b i) → a = b
 | [], [], _, _ => rfl
 | [], _ :: _, h, _ => by simp at h
 | _ :: _, [], h, _ => by simp at h
 | x :: a, y :: b, hl, h => by
  have h0 := h 0
  simp only [nth, Option.some.injEq] at h0
  rw [h0, nth_ext (a := a) (b := b) (by simpa using hl) (fun i => by have := h (i + 1); simpa only [nth] using this)]
theorem appP_cases (listed : Array Bool) (i : Nat) (pd : List Pend) (bx : List Box) (hn : (pd.map Pend.i).Nodup) : (∃ q ∈ pd, listed.getD q.k false = true ∧ q.i = i ∧ (i < bx.length → nth (appP listed pd bx) i = some ⟨false, q.c⟩)) ∨ ((∀ q ∈ pd, listed.getD q.k false = true → q.i ≠ i) ∧ nth (appP listed pd bx) i = nth bx i) := by
 by_cases h : ∃ q ∈ pd, listed.getD q.k false = true ∧ q.i = i
 ·obtain ⟨q, h1, h2, h3⟩ := h
  refine .inl ⟨q, h1, h2, h3, fun hlt => ?_⟩
  obtain ⟨k, i', c⟩ := q
  simp only at h3
  subst h3
  exact appP_hit listed i' c k h2 pd bx hn h1 hlt
 ·have hno : ∀ q ∈ pd, listed.getD q.k false = true → q.i ≠ i := fun q h1 h2 h3 => h ⟨q, h1, h2, h3⟩
  exact .inr ⟨hno, appP_other listed i pd bx hno⟩
theorem appP_all (listed : Array Bool) : ∀ (pd : List Pend) (bx : List Box), (∀ q ∈ pd, listed.getD q.k false = true) → appP listed pd bx = putPd pd bx
 | [], _, _ => rfl
 | q :: r, bx, h => by
  simp only [appP, putPd, h q (List.mem_cons_self ..), if_true]
  exact appP_all listed r _ fun q hq => h q (List.mem_cons_of_mem _ hq)
theorem appP_none (listed : Array Bool) : ∀ (pd : List Pend) (bx : List Box), (∀ q ∈ pd, listed.getD q.k false = false) → appP listed pd bx = bx
 | [], _, _ => rfl
 | q :: r, bx, h => by
  simp only [appP, h q (List.mem_cons_self ..)]
  exact appP_none listed r _ fun q hq => h q (List.mem_cons_of_mem _ hq)
theorem nodup_inj : ∀ {l : List Pend}, (l.map Pend.i).Nodup → ∀ {q r : Pend}, q ∈ l → r ∈ l → q.i = r.i → q = r
 | [], _, _, _, h, _, _ => by simp at h
 | x :: l, hn, q, r, hq, hr, e => by
  rw [List.map_cons, List.nodup_cons] at hn
  rcases List.mem_cons.1 hq with hq1 | hq1 <;> rcases List.mem_cons.1 hr with hr1 | hr1
  ·rw [hq1, hr1]
  ·rw [hq1] at e; exact absurd (List.mem_map.2 ⟨r, hr1, e.symm⟩) hn.1
  ·rw [hr1] at e; exact absurd (List.mem_map.2 ⟨q, hq1, e⟩) hn.1
  ·exact nodup_inj hn.2 hq1 hr1 e
theorem evStore_bx {P : Program} {s s2 : MS} {t : TypeId} {i off : Nat} {x : MV} {p : OProp} {m : MV} {bx' : List Box} (h : evStore P s t (.bp i off) x = .upd p s2 m) (hb : nth bx' i = nth s.bx i) :
  ∃ c', s2.bx = setNth s.bx i ⟨false, c'⟩ ∧ evStore P { s with bx := bx' } t (.bp i off) x = .upd p { s with bx := setNth bx' i ⟨false, c'⟩ } m := by
 unfold evStore at h ⊢
 split at h
 ·rename_i agg size ht
  simp only at h ⊢
  simp only [hb]
  split at h
  ·rename_i b0 hb0
   cases hc : (!b0.fz && x.plain && x.width.beq size && (x.isAgg == agg)) with
   | false => rw [hc] at h; simp at h
   | true =>
    rw [hc, cond_true] at h
    split at h
    ·rename_i p' c' hs
     simp only [Act1.upd.injEq] at h
     obtain ⟨rfl, rfl, rfl⟩ := h
     refine ⟨c', rfl, ?_⟩
     simp
    ·simp at h
  ·simp at h
 ·simp at h
structure Pre (S0 : Nat → Prop) (w0 : Base) (L : List Oper) (n : Nat) (s : MS) (F : Fin') (σ : Nat → MS) (listed : Array Bool) (c : Ctx) (a : Act) (w : World) : Prop where
 mem : Mem S0 w0 (appP listed F.pd F.sF.bx) c w
 tm : ∀ t, (∀ k o, k < n → nth L k = some o → listed.getD k false = false → o.dst ≠ some t) → Rep c w (look t F.sF.tm) (a.tmps.getD t undef)
 size : a.tmps.size = F.sF.n
 defers : a.defers = w0.df
 np : ∀ i b z, w0.pin i b z → i < F.sF.np
 live : ∀ i, c.live i → i < s.bx.length ∨ ∃ k, k < n ∧ listed.getD k false = true ∧ (σ k).bx.length = i ∧ (σ (k + 1)).bx.length = i + 1
 dead : ∀ p m, F.dead = some (p, m) → listed.getD p false = false
 suf : ∀ k, n ≤ k → listed.getD k false = false
 pl : ∀ q ∈ F.pd, listed.getD q.k false = true → c.live q.i
theorem listed_put {listed : Array Bool} {i j : Nat} (hi : i < listed.size) : (listed.setIfInBounds i true).getD j false = (decide (i = j) || listed.getD j false) := by
 simp only [Array.getD_eq_getD_getElem?, Array.getElem?_setIfInBounds]
 by_cases e : i = j
 ·subst e; simp [hi]
 ·simp [e]
section
variable {P : Program} {E : Env P} {ops : Array Oper} {Kp : MV → Prop} {S0 : Nat → Prop} {w0 : Base} {Q : Exit → Act → World → Prop} {n : Nat} {s : MS} {F : Fin'} {σ : Nat → MS} {K : MS → Prop}
theorem cert_mono (C : Cert E ops.toList (befs [] ops.toList) Kp n none [] [] 0 s K F σ) : ∀ i j, i ≤ j → j ≤ n → (σ i).bx.length ≤ (σ j).bx.length := by
 intro i j hij hj
 induction j with
 | zero =>
  have : i = 0 := by omega
  subst this; exact Nat.le_refl _
 | succ j ih =>
  rcases Nat.lt_or_ge i (j + 1) with h | h
  ·exact Nat.le_trans (ih (by omega) (by omega)) (C.len j (by omega) (by omega))
  ·have : i = j + 1 := by omega
   subst this; exact Nat.le_refl _
theorem pre_step (hP : ∀ m v w' a', Kp m → ExtB w0 w' → Rep1 (Ctx.res S0) w' m v → a'.defers = w0.df → Q (.panic [{ v, recovered := false }]) a' w')
  (hssa : ssaAll ops.toList n 0 (befs [] ops.toList) ops.toList = true) (hback : backAll 0 ops.toList = true)
  (C : Cert E ops.toList (befs [] ops.toList) Kp n none [] [] 0 s K F σ) {listed : Array Bool} {c : Ctx} {a : Act} {w : World} (hd : Down ops listed) (h : Pre S0 w0 ops.toList n s F σ listed c a w)
  {i : Nat} (hi : i ∈ Region.ready .any ops listed) (hin : i < n) {Kn : Act → World → Prop} (hK : ∀ c' a' w', Pre S0 w0 ops.toList n s F σ (listed.setIfInBounds i true) c' a' w' → Kn a' w') :
  wpOp P ops Q i Kn a w := by
 obtain ⟨h1, h2, o, hoi, hedges⟩ := mem_ready.1 hi
 have hsz := hd.size
 have hnl : listed.getD i false = false := by rw [← getD_true_false (by omega)]; exact h2
 have hLi : nth ops.toList i = some o := by rw [nth_eq]; simpa using hoi
 obtain ⟨mk, hmk, hss, _⟩ := ssaAll_spec ops.toList n ops.toList _ 0 hssa i o hLi
 rw [Nat.zero_add] at hss
 have hss := hss hin
 have hmask := hd.mask hback i o mk hLi hmk hedges
 have looks_ok : ∀ t, t ∈ Oper.looks ops.toList o → (∀ k o', k < n → nth ops.toList k = some o' → listed.getD k false = false → o'.dst ≠ some t) ∧ (∀ j, i ≤ j → ¬ wrN ops.toList n j t) := by
  intro t ht
  constructor
  ·intro k o' hk hok hlk hdst
   have := ssaAt_spec ops.toList 0 hss k o' t hok hdst
   rw [Nat.zero_add] at this
   by_cases e : k = i
   ·exact this.2 e ht
   ·have := (this.1 hk e).2 ht
    rw [hmask k this.2] at hlk
    simp at hlk
  ·rintro j hij ⟨hjn, o', hoj, hdst⟩
   have := ssaAt_spec ops.toList 0 hss j o' t hoj hdst
   rw [Nat.zero_add] at this
   by_cases e : j = i
   ·exact this.2 e ht
   ·have := (this.1 hjn e).2 ht
    omega
 have own : ∀ t, o.dst = some t → (∀ j, i < j → ¬ wrN ops.toList n j t) ∧ ∀ k o', k < n → k ≠ i → nth ops.toList k = some o' → o'.dst ≠ some t := by
  intro t ht
  have key : ∀ k o', k < n → k ≠ i → nth ops.toList k = some o' → o'.dst ≠ some t := by
   intro k o' hk hne hok hdst
   have := ssaAt_spec ops.toList 0 hss k o' t hok hdst
   rw [Nat.zero_add] at this
   exact (this.1 hk hne).1 ht
  exact ⟨fun j hj ⟨hjn, o', hoj, hdst⟩ => key j o' hjn (by omega) hoj hdst, key⟩
 have next0 : ∀ (c' : Ctx) (a' : Act) (w' : World), Mem S0 w0 (appP (listed.setIfInBounds i true) F.pd F.sF.bx) c' w' → Keeps c c' w w' →
   (∀ t, o.dst ≠ some t → a'.tmps.getD t undef = a.tmps.getD t undef) → (∀ t, o.dst = some t → Rep c' w' (look t F.sF.tm) (a'.tmps.getD t undef)) → a'.tmps.size = F.sF.n → a'.defers = w0.df →
   (∀ i', c'.live i' → c.live i' ∨ ((σ i).bx.length = i' ∧ (σ (i + 1)).bx.length = i' + 1)) → (∀ p m, F.dead = some (p, m) → p ≠ i) → (∀ q ∈ F.pd, q.k = i → c'.live q.i) → Kn a' w' := by
  intro c' a' w' hm hk ht1 ht2 hsz' hdf hlive hdd hpl
  refine hK c' a' w' ⟨hm, fun t ht => ?_, hsz', hdf, h.np, fun i' hi' => ?_, fun p m e => ?_, fun k hk2 => ?_, fun q hq hl => ?_⟩
  ·by_cases e : o.dst = some t
   ·exact ht2 t e
   ·rw [ht1 t e]
    refine (h.tm t fun k o' q1 q2 q3 => ?_).keep hk
    by_cases ek : k = i
    ·subst ek
     rw [hLi, Option.some.injEq] at q2
     subst q2
     exact e
    ·exact ht k o' q1 q2 (by rw [listed_put (by omega), q3]; simp [Ne.symm ek])
  ·rcases hlive i' hi' with q | ⟨q1, q2⟩
   ·rcases h.live i' q with q | ⟨k, r1, r2, r3⟩
    ·exact .inl q
    ·exact .inr ⟨k, r1, by rw [listed_put (by omega), r2]; simp, r3⟩
   ·exact .inr ⟨i, hin, by rw [listed_put (by omega)]; simp, q1, q2⟩
  ·rw [listed_put (by omega), h.dead p m e]
   simp [Ne.symm (hdd p m e)]
  ·rw [listed_put (by omega), h.suf k hk2]
   have : i ≠ k := by omega
   simp [this]
  ·rw [listed_put (by omega)] at hl
   by_cases e : q.k = i
   ·exact hpl q hq e
   ·have : listed.getD q.k false = true := by simpa [Ne.symm e] using hl
    exact (hk.live _ (h.pl q hq this)).1
 have same : (∀ q ∈ F.pd, q.k ≠ i) → appP (listed.setIfInBounds i true) F.pd F.sF.bx = appP listed F.pd F.sF.bx := by
  intro hne
  have : ∀ (pd : List Pend) (bx : List Box), (∀ q ∈ pd, q.k ≠ i) → appP (listed.setIfInBounds i true) pd bx = appP listed pd bx := by
   intro pd
   induction pd with
   | nil => intro bx _; rfl
   | cons q r ih =>
    intro bx hq
    simp only [appP]
    have e : (listed.setIfInBounds i true).getD q.k false = listed.getD q.k false := by
     rw [listed_put (by omega)]; simp [Ne.symm (hq q (List.mem_cons_self ..))]
    rw [e]
    exact ih _ fun q' hq' => hq q' (List.mem_cons_of_mem _ hq')
  exact this _ _ hne
 have next : ∀ (c' : Ctx) (w' : World) (v : Value), (∀ q ∈ F.pd, q.k ≠ i) → Mem S0 w0 (appP listed F.pd F.sF.bx) c' w' → Keeps c c' w w' → (∀ t, o.dst = some t → Rep c' w' (look t F.sF.tm) v) → dstOk o.dst F.sF.n = true →
   (∀ i', c'.live i' → c.live i' ∨ ((σ i).bx.length = i' ∧ (σ (i + 1)).bx.length = i' + 1)) → (∀ p m, F.dead = some (p, m) → p ≠ i) → Kn (a.put o.dst v) w' := by
  intro c' w' v hne hm hk hv hdst hlive hdd
  refine next0 c' _ w' (by rw [same hne]; exact hm) hk (fun t e => ?_) (fun t e => ?_) ?_ ?_ hlive hdd (fun q hq e => absurd e (hne q hq))
  ·cases hod : o.dst with
   | none => rfl
   | some d =>
    have hlt : d < a.tmps.size := by
     rw [h.size]; rw [hod] at hdst; simpa [dstOk, Nat.blt_eq] using hdst
    rw [getD_put a d t v hlt, if_neg (fun q => e (by rw [hod, q]))]
  ·rw [e]
   have hlt : t < a.tmps.size := by
    rw [h.size]; rw [e] at hdst; simpa [dstOk, Nat.blt_eq] using hdst
   rw [getD_put a t t v hlt, if_pos rfl]
   exact hv t e
  ·cases o.dst with
   | none => exact h.size
   | some d => simp only [Act.put, Array.size_setIfInBounds]; exact h.size
  ·cases o.dst <;> exact h.defers
 unfold wpOp
 simp only [hoi]
 rcases C.at_ i o (by omega) hin hLi with ⟨p, m, mk', q1, q2, q3, q4⟩ | ⟨hdst, s1, e1, e2, e3, hcase⟩
 ·
  exfalso
  rw [hmk, Option.some.injEq] at q3
  subst q3
  have := hmask p q4
  rw [h.dead p m q1] at this
  simp at this
 ·have hn1 : (σ i).n = F.sF.n := (C.num i (by omega) (by omega)).1
  have hdst' : dstOk o.dst F.sF.n = true := by rw [← hn1]; exact hdst
  have hlook : ∀ t, t ∈ Oper.looks ops.toList o → Rep c w (look t s1.tm) (a.tmps.getD t undef) := by
   intro t ht
   obtain ⟨q1, q2⟩ := looks_ok t ht
   rw [e1 t, ← C.lk i (by omega) (by omega) t q2]
   exact h.tm t q1
  have hgd : ∀ j want oj d, o.guard = some (j, want) → nth ops.toList j = some oj → oj.dst = some d → d ∈ Oper.looks ops.toList o := by
   intro j want oj d q1 q2 q3
   simp [Oper.looks, q1, q2, q3]
  rcases hcase with ⟨⟨j, want, oj, d, g1, g2, g3, g4⟩, hne, hR⟩ | ⟨hg, hsep, hrun⟩
  ·
   have hb := hlook d (hgd j want oj d g1 g2 g3)
   have hwf : Region.wanted o (yielded ops a.tmps) = false := by
    rcases g4 with g4 | g4
    ·rw [g4] at hb
     rw [wanted_guard g1 g2 g3 hb]; cases want <;> rfl
    ·rw [g4] at hb
     exact wanted_none g1 g2 g3 hb
   rw [hwf, if_neg (by simp)]
   exact next c w undef hne h.mem (h.mem.grow (Ext.refl w)).2 (fun t ht => by rw [hR.2 t ht (own t ht).1]; exact ⟨#[], rfl, rfl⟩) hdst' (fun i' hi' => .inl hi') hR.1
  ·have hw : Region.wanted o (yielded ops a.tmps) = true := by
    rcases hg with hg | ⟨j, want, oj, d, g1, g2, g3, g4⟩
    ·simp [Region.wanted, hg]
    ·have hb := hlook d (hgd j want oj d g1 g2 g3)
     rw [g4] at hb
     rw [wanted_guard g1 g2 g3 hb]; simp
   rw [if_pos hw]
   refine .inl ?_
   have HE : Opnds c w s1 a o.op.operands.toList := opnds_of_tmps fun t ht => hlook t (by
    simp only [Oper.looks, List.mem_append, List.mem_filterMap]
    exact .inl ⟨_, ht, rfl⟩)
   have hagr : (∀ q ∈ F.pd, q.k ≠ i) → ∀ i' b, ments i' (opMs s1 o.op) = true → nth s1.bx i' = some b → nth (appP listed F.pd F.sF.bx) i' = some b := by
    intro hne i' b hm hb
    have h1 := C.bx i (by omega) (by omega) i' b (by rw [← e2]; exact hb)
    rw [appP_other listed i' F.pd F.sF.bx (fun q hq hl e => ?_)]
    ·exact h1
    ·rcases hsep q hq (hne q hq) with ⟨mk2, r1, r2⟩ | r
     ·have hqn : q.k < n := ((C.pfrom q hq).elim (fun h => by simp at h) id).2
      obtain ⟨oq, hoq⟩ : ∃ oq, ops[q.k]? = some oq := ⟨ops[q.k]'(by
       rcases Nat.lt_or_ge q.k ops.size with h | h
       ·exact h
       ·rw [Array.getD_eq_getD_getElem?, Array.getElem?_eq_none (by omega)] at hl; simp at hl), by simp⟩
      have := hd.mask hback q.k oq mk2 (by rw [nth_eq]; simpa using hoq) r1 (hd.down q.k oq hoq hl) i r2
      rw [hnl] at this; simp at this
     ·rw [e] at r
      rw [r] at hm; simp at hm
   have hfz : ∀ i' b, b.fz = true → nth s1.bx i' = some b → nth (appP listed F.pd F.sF.bx) i' = some b := by
    intro i' b hf hb
    have h1 := C.bx i (by omega) (by omega) i' b (by rw [← e2]; exact hb)
    rw [appP_other listed i' F.pd F.sF.bx (fun q hq hl e => ?_)]
    ·exact h1
    ·obtain ⟨c', hc'⟩ := C.pbox q hq
     rw [e, h1, Option.some.injEq] at hc'
     rw [hc'] at hf
     simp at hf
   let s2 : MS := { s1 with bx := appP listed F.pd F.sF.bx }
   unfold AtRun at hrun
   split at hrun
   ·rename_i p m he
    obtain ⟨hp, hne, hR⟩ := hrun
    obtain ⟨v, hr, hv⟩ := ev1_val (ev1_val_bx (hagr hne) (ev01_val he)) hp (s := s2) HE h.mem.box h.mem.WS h.mem.gw
    unfold Oper.wp
    rw [hr, Oper.upon_value]
    exact next c w v hne h.mem (h.mem.grow (Ext.refl w)).2 (fun t ht => by rw [hR.2 t ht (own t ht).1]; exact hv) hdst' (fun i' hi' => .inl hi') hR.1
   ·rename_i p b mkf he
    obtain ⟨hp, hne, hb, hlen, hR⟩ := hrun
    obtain ⟨r, hex, ⟨arr, ty, v, hrn, _, hnew⟩⟩ := ev1_new (ev01_new he) hp HE
    unfold Oper.wp
    rw [hex, run_value hrn, Oper.upon_value]
    rw [e2] at hb hlen hR
    let id := (σ i).bx.length
    have hnl : ¬ c.live id := by
     intro hl
     rcases h.live id hl with q | ⟨k, r1, r2, r3, r4⟩
     ·have := cert_mono C 0 i (by omega) (by omega)
      rw [C.first] at this
      simp only [id] at q; omega
     ·rcases Nat.lt_trichotomy k i with hlt | he | hgt
      ·have := cert_mono C (k + 1) i (by omega) (by omega)
       simp only [id] at r4; omega
      ·subst he; rw [r2] at hnl; simp at hnl
      ·have := cert_mono C (i + 1) k (by omega) (by omega)
       simp only [id] at r3; omega
    have hb' : nth (appP listed F.pd F.sF.bx) id = some b := by
     rw [appP_other listed id F.pd F.sF.bx (fun q hq hl e => hnl (e ▸ h.pl q hq hl))]; exact hb
    have hal := h.mem.allocAt arr ty id b hb' hnl (fun i' => c.live i' ∨ i' = id) (fun i' => if i' = id then w.heap.size else c.β i') (fun i' => if i' = id then ⟨arr.size, b.c.wd⟩ else c.sz i') (fun i' => Iff.rfl)
     (fun i' hi' => if_neg (fun e : i' = id => hnl (e ▸ hi'))) (fun i' hi' => if_neg (fun e : i' = id => hnl (e ▸ hi'))) (if_pos rfl)
     (fun c' k q1 q2 q3 => (hnew c' id k (by rw [q1]; exact .inr rfl) (by rw [q2]; exact if_pos rfl) (by rw [q3]; exact if_pos rfl)).2)
    have hrep := (hnew _ id hal.2 (.inr rfl) (if_pos rfl) (if_pos rfl)).1
    refine next _ _ v hne hal.1 hal.2 (fun t ht => by rw [hR.2 t ht (own t ht).1]; exact hrep) hdst' (fun i' hi' => ?_) hR.1
    rcases hi' with q | q
    ·exact .inl q
    ·exact .inr ⟨q.symm, by rw [q]; exact hlen⟩
   ·rename_i p r fz he
    obtain ⟨rfl, hp, hne, hres⟩ := hrun
    rcases ev01_res he with he | ⟨m0, rfl, he0⟩
    rotate_left
    ·obtain ⟨v, w', hrn, hext, hr⟩ := ev0_ok he0 hp (fun b hb => h.mem.Slt b hb) HE
     obtain ⟨hm2, hk2⟩ := h.mem.grow hext
     have hF' : AtR ops.toList n F i o m0 := hres
     unfold Oper.wp
     rw [hrn, Oper.upon_value]
     exact next c w' v hne hm2 hk2 (fun t ht => by rw [hF'.2 t ht (own t ht).1]; exact hr) hdst' (fun i' hi' => .inl hi') hF'.1
    obtain ⟨dst, type, pos, after, guard, f, args, tys, rfl, hcall⟩ := ev1_res_call he
    have hf := HE f (by simp [Op.operands, Call.operands])
    have hargs := pair_map (c := c) (w := w) (s := s1) (a := a) args.toList (fun x hx => HE x (by simp [Op.operands, Call.operands]; exact .inr (Array.mem_def.2 hx)))
    have hcall := evCall_bx (bx' := appP listed F.pd F.sF.bx) hfz (ment_opnd (hagr hne) (x := f) (by simp [Op.operands, Call.operands])) (fun i' b hm hb => hagr hne i' b (by
     have : ∀ (l : List MV), (∀ m ∈ args.toList.map s1.ev, m ∈ l) → ments i' l = true := by
      intro l hsub
      false_or_by_contra
      rename_i hno
      have hno := ments_mem (by simpa using hno : ments i' l = false)
      have : ∀ (l2 : List MV), (∀ m ∈ l2, m ∈ l) → ments i' l2 = false := by
       intro l2
       induction l2 with
       | nil => intro _; rfl
       | cons x r ih =>
        intro h2
        simp only [ments, hno x (h2 x (List.mem_cons_self ..)), Bool.false_or]
        exact ih fun m hm => h2 m (List.mem_cons_of_mem _ hm)
      rw [this _ hsub] at hm
      simp at hm
     exact this _ fun m hm => by
      obtain ⟨x, hx, rfl⟩ := List.mem_map.1 hm
      exact List.mem_map.2 ⟨x, by simp [Op.operands, Call.operands]; exact .inr (Array.mem_def.2 hx), rfl⟩) hb) hcall
    obtain ⟨f', caps, hfv, hcf, hC⟩ := evCall_ok (s := s2) hcall hp hf hargs h.mem.box (S' := c.S) (fun i' b hl hb hf => h.mem.frozen i' b hl hb hf) (fun b hb => hb) (by simp) (fun b hb => h.mem.Slt b hb) h.mem.gw
    have eargs : (args.toList.map a.eval).toArray = args.map a.eval := by apply Array.ext'; simp
    rw [eargs] at hcf hC
    have hrn : (execOp a.eval ⟨dst, .call ⟨.value f, args, tys⟩, type, pos, after, guard⟩).run P w = .ok (.enter f' (args.map a.eval ++ caps)) w := by
     simp [execOp, resolve, Deferred.ofValue, hfv, invoke, hcf]
    unfold Oper.wp
    rw [hrn, Oper.upon_enter]
    refine hC.mono fun e w' ⟨hext, hh⟩ => ?_
    obtain ⟨hm2, hk2⟩ := h.mem.grow hext
    rcases evRes_holds r hres hh with ⟨m, v, rfl, hr, hF'⟩ | ⟨m, v, rfl, hr, hKd⟩
    ·exact next c w' v hne hm2 hk2 (fun t ht => by rw [hF'.2 t ht (own t ht).1]; exact rep_back hr (fun b hb => hb)) hdst' (fun i' hi' => .inl hi') hF'.1
    ·exact hP m v w' a (C.pan i m hKd).1 hm2.ext (rep1_S hr (fun b hb => (h.mem.hS b).2 (.inl hb))) h.defers
   ·rename_i p s' m he
    obtain ⟨hp, hdd, hod, ib, b, hib, hnb, hmem, huniq⟩ := hrun
    obtain ⟨dst, type, pos, after, guard, t, x, y, rfl, hst⟩ : ∃ dst type pos after guard t x y, o = ⟨dst, .store t x y, type, pos, after, guard⟩ ∧ evStore P s1 t (s1.ev x) (s1.ev y) = .upd p s' m := by
     obtain ⟨dst, op, type, pos, after, guard⟩ := o
     cases op with
     | store t x y => exact ⟨dst, type, pos, after, guard, t, x, y, rfl, he⟩
     | _ => simp [storeBox] at hib
    have hx : ∃ off, s1.ev x = .bp ib off := by
     simp only [storeBox] at hib
     split at hib
     ·rename_i i' off hx
      simp only [Option.some.injEq] at hib
      subst hib
      exact ⟨off, hx⟩
     ·simp at hib
    obtain ⟨off, hx⟩ := hx
    have hRx := HE x (by simp [Op.operands])
    have hRy := HE y (by simp [Op.operands])
    rw [hx] at hst hRx
    have hlv : c.live ib := hRx.1
    have hnk : ∀ q ∈ F.pd, listed.getD q.k false = true → q.i ≠ ib := by
     intro q hq hl e
     have e2 : q = ⟨i, ib, b.c⟩ := nodup_inj C.pnod hq hmem e
     rw [e2, hnl] at hl; simp at hl
    have hnth : nth (appP listed F.pd F.sF.bx) ib = nth s1.bx ib := by
     rw [appP_other listed ib F.pd F.sF.bx hnk]
     obtain ⟨bb, hbb⟩ : ∃ bb, nth s1.bx ib = some bb := by
      unfold evStore at hst
      split at hst
      ·simp only at hst
       split at hst
       ·rename_i b0 hb0; exact ⟨b0, hb0⟩
       ·simp at hst
      ·simp at hst
     rw [hbb]
     exact C.bx i (by omega) (by omega) ib bb (by rw [← e2]; exact hbb)
    obtain ⟨c', hs', hst2⟩ := evStore_bx (bx' := appP listed F.pd F.sF.bx) hst hnth
    obtain ⟨w', hrun, hm, hk, _, _, _, _⟩ := evStore_ok hst2 hp h.mem hRx hRy
    have hb' : b = ⟨false, c'⟩ := by
     rw [hs', nth_setNth] at hnb
     split at hnb
     ·simpa using hnb.symm
     ·rename_i hno
      obtain ⟨bb, hbb⟩ : ∃ bb, nth s1.bx ib = some bb := ⟨b, hnb⟩
      exact absurd ⟨rfl, nth_lt hbb⟩ hno
    subst hb'
    unfold Oper.wp
    have e : (execOp a.eval ⟨dst, .store t x y, type, pos, after, guard⟩).run P w = .ok .skip w' := by
     simp [execOp, hrun]
    rw [e, Oper.upon_skip]
    have hod : dst = none := hod
    subst hod
    refine next0 c a w' ?_ hk (fun _ _ => rfl) (fun t e => by simp at e) h.size h.defers (fun i' hi' => .inl hi') hdd (fun q hq e => by rw [huniq q hq e]; exact hlv)
    have heq : appP (listed.setIfInBounds i true) F.pd F.sF.bx = setNth (appP listed F.pd F.sF.bx) ib ⟨false, c'⟩ := by
     refine nth_ext (by rw [appP_len, length_setNth, appP_len]) fun i' => ?_
     rw [nth_setNth]
     by_cases ei : ib = i'
     ·subst ei
      have hlt : ib < F.sF.bx.length := by
       have := (h.mem.fresh ib hlv).2.2
       rwa [appP_len] at this
      rw [if_pos ⟨rfl, by rw [appP_len]; exact hlt⟩]
      exact appP_hit _ ib c' i (by rw [listed_put (by omega)]; simp) F.pd F.sF.bx C.pnod hmem hlt
     ·rw [if_neg (fun q => ei q.1)]
      rcases appP_cases listed i' F.pd F.sF.bx C.pnod with ⟨q, r1, r2, r3, r4⟩ | ⟨r1, r2⟩
      ·obtain ⟨cc, hcc⟩ := C.pbox q r1
       have hlt : i' < F.sF.bx.length := by rw [← r3]; exact nth_lt hcc
       rw [r4 hlt]
       obtain ⟨qk, qi, qc⟩ := q
       simp only at r3 r2
       subst r3
       exact appP_hit _ qi qc qk (by rw [listed_put (by omega), r2]; simp) F.pd F.sF.bx C.pnod r1 hlt
      ·rw [r2]
       refine appP_other _ i' F.pd F.sF.bx fun q hq hl e => ?_
       rw [listed_put (by omega)] at hl
       by_cases eq : q.k = i
       ·have := huniq q hq eq
        rw [this] at e
        exact ei e
       ·have : listed.getD q.k false = true := by simpa [Ne.symm eq] using hl
        exact r1 q hq this e
    rw [heq]
    exact hm
   ·exact hrun.elim
theorem wp_of_pre (hP : ∀ m v w' a', Kp m → ExtB w0 w' → Rep1 (Ctx.res S0) w' m v → a'.defers = w0.df → Q (.panic [{ v, recovered := false }]) a' w')
  (hssa : ssaAll ops.toList n 0 (befs [] ops.toList) ops.toList = true) (hback : backAll 0 ops.toList = true) (hn : n ≤ ops.size)
  (C : Cert E ops.toList (befs [] ops.toList) Kp n none [] [] 0 s K F σ)
  (hfin : F.dead = none → ∀ c a w, St S0 w0 { F.sF with bx := putPd F.pd F.sF.bx } c a w → wpList P ops Q (ops.toList.drop n) a w) :
  ∀ (fuel : Nat) (listed : Array Bool) (c : Ctx) (a : Act) (w : World), left ops listed = fuel → Down ops listed → Pre S0 w0 ops.toList n s F σ listed c a w → wpAny P .any ops Q fuel listed a w := by
 intro fuel
 induction fuel with
 | zero =>
  intro listed c a w hleft hd h
  have hall : ∀ j, j < ops.size → listed.getD j false = true := by
   intro j hj
   cases hb : listed.getD j false with
   | true => rfl
   | false =>
    exfalso
    have hmem : j ∈ (List.range ops.size).filter fun i => !listed.getD i true := by
     simp only [List.mem_filter, List.mem_range, hj, true_and]
     rw [getD_true_false (by rw [hd.size]; exact hj), hb]; rfl
    unfold left at hleft
    rw [List.length_eq_zero_iff] at hleft
    rw [hleft] at hmem
    simp at hmem
  have hns : n = ops.size := by
   rcases Nat.lt_or_ge n ops.size with hlt | hge
   ·have := h.suf n (Nat.le_refl _)
    rw [hall n hlt] at this
    simp at this
   ·omega
  have hnone : F.dead = none := by
   cases hdf : F.dead with
   | none => rfl
   | some pm =>
    have := h.dead pm.1 pm.2 hdf
    rw [hall _ (by have := (C.pan pm.1 pm.2 hdf).2; omega)] at this
    simp at this
  have hst : St S0 w0 { F.sF with bx := putPd F.pd F.sF.bx } c a w := ⟨by rw [← appP_all listed F.pd F.sF.bx (fun q hq => hall q.k (by have := ((C.pfrom q hq).elim (fun h => by simp at h) id).2; omega))]; exact h.mem, fun t => h.tm t fun k o q1 _ q3 => by rw [hall k (by omega)] at q3; simp at q3, h.size, h.defers, h.np⟩
  have := hfin hnone c a w hst
  rw [List.drop_of_length_le (by simp; omega)] at this
  refine ⟨?_, this⟩
  apply List.eq_nil_iff_forall_not_mem.2
  intro i hi
  obtain ⟨h1, h2, _⟩ := mem_ready.1 hi
  rw [getD_true_false (by rw [hd.size]; exact h1), hall i h1] at h2
  simp at h2
 | succ fuel ih =>
  intro listed c a w hleft hd h
  by_cases hall : ∀ j, j < n → listed.getD j false = true
  ·
   have hlist : ∀ j, listed.getD j false = decide (j < n) := by
    intro j
    rcases Nat.lt_or_ge j n with hj | hj
    ·rw [hall j hj]; simp [hj]
    ·rw [h.suf j hj]; simp; omega
   have hnone : F.dead = none := by
    cases hdf : F.dead with
    | none => rfl
    | some pm =>
     have := h.dead pm.1 pm.2 hdf
     rw [hall _ (C.pan pm.1 pm.2 hdf).2] at this
     simp at this
   have hst : St S0 w0 { F.sF with bx := putPd F.pd F.sF.bx } c a w := ⟨by rw [← appP_all listed F.pd F.sF.bx (fun q hq => hall q.k ((C.pfrom q hq).elim (fun h => by simp at h) id).2)]; exact h.mem, fun t => h.tm t fun k o q1 _ q3 => by rw [hall k q1] at q3; simp at q3, h.size, h.defers, h.np⟩
   have hL := left_suffix hd.size hlist
   have hlen : (ops.toList.drop n).length = fuel + 1 := by simp; omega
   have := suf_any hback n (fun i o ho hge => by
     obtain ⟨m, q1, _, q3⟩ := ssaAll_spec ops.toList n ops.toList _ 0 hssa i o ho
     rw [Nat.zero_add] at q3
     exact ⟨m, q1, q3 hge⟩) (ops.toList.drop n) n listed a w (fun j => by simp only [nth_eq, List.getElem?_drop]) (by simp; omega) (Nat.le_refl _) hd hlist (hfin hnone c a w hst)
   rwa [hlen] at this
  ·
   obtain ⟨u, hu⟩ : ∃ u, u < n ∧ listed.getD u false = false := by
    false_or_by_contra
    rename_i hno
    exact hall fun j hj => by
     cases hb : listed.getD j false with
     | true => rfl
     | false => exact absurd ⟨j, hj, hb⟩ hno
   refine ⟨fun h0 => ?_, fun i hi => ?_⟩
   ·exfalso
    have least : ∀ m u, u ≤ m → u < n → listed.getD u false = false → ∃ x, x < n ∧ listed.getD x false = false ∧ ∀ y, y < x → listed.getD y false = true := by
     intro m
     induction m with
     | zero => intro u h1 h2 h3; exact ⟨u, h2, h3, fun y hy => by omega⟩
     | succ m ihm =>
      intro u h1 h2 h3
      by_cases hy : ∃ y, y < u ∧ listed.getD y false = false
      ·obtain ⟨y, hy1, hy2⟩ := hy
       exact ihm y (by omega) (by omega) hy2
      ·refine ⟨u, h2, h3, fun y hlt => ?_⟩
       cases hb : listed.getD y false with
       | true => rfl
       | false => exact absurd ⟨y, hlt, hb⟩ hy
    obtain ⟨x, hx1, hx2, hx3⟩ := least u u (Nat.le_refl _) hu.1 hu.2
    have hxs : x < ops.size := by omega
    have : x ∈ Region.ready .any ops listed := by
     refine mem_ready.2 ⟨hxs, by rw [getD_true_false (by rw [hd.size]; exact hxs)]; exact hx2, ops[x], by simp [hxs], fun e he hb => ?_⟩
     have := backAll_spec ops.toList 0 hback x ops[x] (by rw [nth_eq]; simp [hxs]) e he hb
     exact hx3 _ (by omega)
    rw [h0] at this
    simp at this
   ·have hin : i < n := by
     obtain ⟨h1, h2, o, h3, h4⟩ := mem_ready.1 hi
     rcases Nat.lt_or_ge i n with hlt | hge
     ·exact hlt
     ·exfalso
      have hLi : nth ops.toList i = some o := by rw [nth_eq]; simpa using h3
      obtain ⟨m, q1, _, q3⟩ := ssaAll_spec ops.toList n ops.toList _ 0 hssa i o hLi
      rw [Nat.zero_add] at q3
      have := hd.mask hback i o m hLi q1 h4 u (fullAt_spec (q3 hge) u (by omega))
      rw [hu.2] at this
      simp at this
    have hput := left_put hd.size hi
    exact pre_step hP hssa hback C hd h hi hin fun c' a' w' hpre => ih _ c' a' w' (by omega) (hd.put hi) hpre
end
/-! ### REGIONS -/
theorem splitAt_le : ∀ (l : List Nat) (i : Nat), splitAt i l ≤ i + l.length
 | [], i => by simp [splitAt]
 | m :: r, i => by
  have ih := splitAt_le r (i + 1)
  simp only [splitAt, List.length_cons]
  cases ((splitAt (i + 1) r).beq (i + 1) && fullAt i m) with
  | true => simp
  | false => simp only [cond_false]; omega
theorem befs_length : ∀ (l : List Oper) (acc : List Nat), (befs acc l).length = acc.length + l.length
 | [], acc => by simp [befs]
 | o :: l, acc => by simp only [befs, befs_length l, List.length_append, List.length_cons, List.length_nil]; omega
def RegWp (P : Program) (ops : Array Oper) (draw : Bool) (Q : Exit → Act → World → Prop) (a : Act) (w : World) : Prop :=
 match draw with
 | false => wpList P ops Q ops.toList a w
 | true => wpAny P .any ops Q ops.size (Array.replicate ops.size false) a { w with drawn := w.drawn + 1 }
theorem wp_of_reg {P : Program} (hmix : P.follows .mixedOrders = true) {ops : Array Oper} {draw : Bool} {id : Nat} {Q : Exit → Act → World → Prop} {a : Act} {w : World} (h : RegWp P ops draw Q a w) : (Code.region id ops draw).wp P Q a w := by
 cases draw with
 | false => exact wp_region_list h
 | true => exact wp_region_any hmix h
theorem evRegion_core {P : Program} {E : Env P} {Kp : MV → Prop} {ops : Array Oper} {draw : Bool} {S0 : Nat → Prop} {w0 : Base} {Q : Exit → Act → World → Prop}
  (hP : ∀ m v w' a', Kp m → ExtB w0 w' → Rep1 (Ctx.res S0) w' m v → a'.defers = w0.df → Q (.panic [{ v, recovered := false }]) a' w')
  {s : MS} {K : MS → Prop} {c : Ctx} {a : Act} {w : World} (h : evRegion E ops.toList draw s K Kp) (hSt : St S0 w0 s c a w)
  (hK : ∀ s' c' a' w', K s' → St S0 w0 s' c' a' w' → s'.n = s.n → Q .normal a' w') : RegWp P ops draw Q a w := by
 cases draw with
 | false =>
  simp only [evRegion] at h
  exact evSeq_sound hP ops.toList s K c a w h hSt hK
 | true =>
  simp only [evRegion] at h
  generalize hn : splitAt 0 (befs [] ops.toList) = n at h
  cases hc : (ssaAll ops.toList n 0 (befs [] ops.toList) ops.toList && backAll 0 ops.toList) with
  | false => rw [hc] at h; exact h.elim
  | true =>
   rw [hc, cond_true] at h
   simp only [Bool.and_eq_true] at hc
   have hns : n ≤ ops.size := by
    have h1 := splitAt_le (befs [] ops.toList) 0
    have h2 := befs_length ops.toList []
    simp at h2
    omega
   obtain ⟨F, σ, C⟩ := evPre_cert (n := n) (ops.toList.take n) none [] [] 0 s h (by simp; omega) (fun i hi => by
    simp only [List.length_take] at hi
    simp only [nth_eq, Nat.zero_add]
    rw [List.getElem?_take, if_pos (by omega)]) (fun p m e => by simp at e) (fun q hq => by simp at hq) (by simp) (fun q hq => by simp at hq)
   show wpAny P .any ops Q ops.size (Array.replicate ops.size false) a { w with drawn := w.drawn + 1 }
   have hdrew : St S0 w0 s c a { w with drawn := w.drawn + 1 } := by
    have e : Ext w { w with drawn := w.drawn + 1 } := ⟨rfl, rfl, Nat.le_refl _, fun _ _ => rfl, fun _ _ => rfl⟩
    obtain ⟨hm, hk⟩ := hSt.mem.grow e
    exact hSt.keepTm hk hm rfl rfl rfl
   have hlk := C.lk 0 (Nat.le_refl _) (Nat.zero_le _)
   rw [C.first] at hlk
   have hbx := C.bx 0 (Nat.le_refl _) (Nat.zero_le _)
   rw [C.first] at hbx
   have hnn := C.num 0 (Nat.le_refl _) (Nat.zero_le _)
   rw [C.first] at hnn
   have hlen := cert_mono C 0 n (Nat.zero_le _) (Nat.le_refl _)
   rw [C.first, C.last] at hlen
   have hrep : ∀ j, (Array.replicate ops.size false).getD j false = false := by
    intro j
    simp only [Array.getD_eq_getD_getElem?, Array.getElem?_replicate]
    split <;> rfl
   refine wp_of_pre hP hc.1 hc.2 hns C (fun hnone c' a' w' hst => ?_) ops.size _ c a _ ?_ ⟨by simp, fun i o _ hl => ?_⟩ ⟨by rw [appP_none _ F.pd F.sF.bx (fun q _ => hrep q.k)]; exact hdrew.mem.extend hbx hlen, fun t ht => ?_, hdrew.size.trans hnn.1, hdrew.defers, fun i b z hp => by rw [← hnn.2]; exact hdrew.np i b z hp, fun i hi => .inl (hdrew.mem.fresh i hi).2.2, fun p m _ => hrep p, fun k _ => hrep k, fun q _ hl => by rw [hrep] at hl; simp at hl⟩
   ·exact evSeq_sound hP (ops.toList.drop n) _ K c' a' w' (C.fin hnone) hst (fun s2 c2 a2 w2 q1 q2 q3 => hK s2 c2 a2 w2 q1 q2 (q3.trans hnn.1.symm))
   ·have : left ops (Array.replicate ops.size false) = ops.size - 0 := left_suffix (by simp) (fun j => by rw [hrep j]; simp)
    simpa using this
   ·rw [hrep i] at hl; simp at hl
   ·rw [hlk t fun i _ hw => by
     obtain ⟨h1, o, h2, h3⟩ := hw
     exact ht i o h1 h2 (hrep i) h3]
    exact hdrew.tm t
theorem evRegion_sound {P : Program} (hmix : P.follows .mixedOrders = true) {E : Env P} {Kp : MV → Prop} {ops : Array Oper} {draw : Bool} {id : Nat} {S0 : Nat → Prop} {w0 : Base} {Q : Exit → Act → World → Prop}
  (hP : ∀ m v w' a', Kp m → ExtB w0 w' → Rep1 (Ctx.res S0) w' m v → a'.defers = w0.df → Q (.panic [{ v, recovered := false }]) a' w')
  {s : MS} {K : MS → Prop} {c : Ctx} {a : Act} {w : World} (h : evRegion E ops.toList draw s K Kp) (hSt : St S0 w0 s c a w)
  (hK : ∀ s' c' a' w', K s' → St S0 w0 s' c' a' w' → s'.n = s.n → Q .normal a' w') : (Code.region id ops draw).wp P Q a w :=
 wp_of_reg hmix (evRegion_core hP h hSt hK)
end Go.Proofs.YtnfmjlhkknndhaaGreat
/-
 The evaluator is right, part 13: states that say less; code; functions.
-/
namespace Go.Proofs.YtnfmjlhkknndhaaGreat
open Go Go.RowKit
structure Cuts (nb : Nat) (c c' : Ctx) : Prop where
 S : ∀ b, c'.S b → c.S b
 W : ∀ b, c'.W b → c.W b
 live : ∀ i, i < nb → c.live i → c'.live i ∧ c'.β i = c.β i ∧ c'.sz i = c.sz i
theorem Cuts.elem {nb : Nat} {c c' : Ctx} (h : Cuts nb c c') : Cuts 0 c.elem c'.elem := ⟨h.S, fun _ h => h, fun i hi => by omega⟩
theorem words_nil' (c : Ctx) (w : World) : WordsR c w [] (.slice none 0 0) := ⟨none, 0, rfl, Nat.le_refl _, fun h => absurd h (by simp)⟩
theorem limbs_zero : limbs 0 = [] := by rw [limbs]; simp
theorem any_of_cell {c : Ctx} {w : World} {m : MV} {vs : List Value} (h : RepC c w m vs) (hw : m.width = 1) : ∃ v, vs = [v] ∧ v.oneCell' = true := by
 have hl := RepC.len _ _ h
 rw [hw] at hl
 obtain ⟨v, rfl⟩ := List.length_eq_one_iff.1 hl
 exact ⟨v, rfl, RepC.one _ _ h v (by simp)⟩
theorem leMV_agg {nb : Nat} : ∀ (m m' : MV), leMV nb m m' → m'.isAgg = m.isAgg := by
 intro m m' h
 cases m <;> cases m' <;> first | rfl | (simp only [leMV] at h)
mutual
theorem le_repc {w : World} : ∀ (m m' : MV) (nb : Nat) (c c' : Ctx) (vs : List Value), Cuts nb c c' → leMV nb m m' → RepC c w m vs → RepC c' w m' vs
 | .bool a, m', nb, c, c', vs, k, h, r => by
  cases m' <;> simp only [leMV] at h <;> first | (exact any_of_cell r rfl) | skip
  subst h; exact r
 | .int kk a, m', nb, c, c', vs, k, h, r => by
  cases m' <;> simp only [leMV] at h <;> first | (exact any_of_cell r rfl) | skip
  rename_i k' b
  cases hk : decide (kk = k') with
  | false => rw [hk] at h; exact h.elim
  | true =>
   rw [hk, cond_true] at h
   simp only [decide_eq_true_eq] at hk
   subst hk; subst h; exact r
 | .val v, m', nb, c, c', vs, k, h, r => by
  cases m' <;> simp only [leMV] at h <;> first | (exact any_of_cell r rfl) | skip
  ·subst h; exact r
  ·obtain ⟨rfl, rfl⟩ := h
   obtain ⟨rfl, _⟩ := r
   exact ⟨_, rfl, words_nil' _ _⟩
  ·obtain ⟨rfl, rfl⟩ := h
   obtain ⟨rfl, _⟩ := r
   exact ⟨none, 0, rfl, Nat.le_refl _, fun h => by omega⟩
  ·obtain ⟨rfl, rfl, rfl⟩ := h
   obtain ⟨rfl, _⟩ := r
   exact ⟨none, 0, rfl, Nat.le_refl _, .inr ⟨rfl, rfl, rfl⟩⟩
 | .big z n, m', nb, c, c', vs, k, h, r => by
  cases m' <;> simp only [leMV] at h
  ·rename_i kk
   cases hk : kk.beq 2 with
   | false => rw [hk] at h; exact h.elim
   | true =>
    simp only [Nat.beq_eq] at hk
    subst hk
    exact ⟨RepC.len _ _ r, RepC.one _ _ r⟩
  ·obtain ⟨rfl, hn⟩ := h
   obtain ⟨s, h1, h2, h3⟩ := r
   refine ⟨s, h1, ?_, h3.mono k.S⟩
   rcases hn with hn | hn
   ·exact Nat.lt_of_lt_of_le h2 (Nat.pow_le_pow_right (by omega) hn)
   ·exact hn
 | .ws l, m', nb, c, c', vs, k, h, r => by
  cases m' <;> simp only [leMV] at h <;> first | (exact any_of_cell r rfl) | skip
  subst h
  obtain ⟨s, h1, h2⟩ := r
  exact ⟨s, h1, h2.mono k.S⟩
 | .sl wd len f, m', nb, c, c', vs, k, h, r => by
  cases m' <;> simp only [leMV] at h <;> first | (exact any_of_cell r rfl) | skip
  rename_i wd' len' f'
  obtain ⟨rfl, rfl, h⟩ := h
  obtain ⟨a, cap, h1, h2, h3⟩ := r
  refine ⟨a, cap, h1, h2, fun hl => ?_⟩
  obtain ⟨b, off, h4, h5, h6⟩ := h3 hl
  refine ⟨b, off, h4, fun h => h5 (k.S b h), fun i hi => ?_⟩
  obtain ⟨cs, h7, h8, h9⟩ := h6 i hi
  exact ⟨cs, h7, h.h i hi _ _ _ (RepC.keep (⟨fun b _ => k.S b, fun _ _ _ => trivial, fun _ h => h.elim, fun _ _ _ => rfl, fun _ _ _ => rfl⟩ : Keeps c.elem c'.elem w w) (f i) cs h8), h9⟩
 | .st a, m', nb, c, c', vs, k, h, r => by
  cases m' <;> simp only [leMV] at h
  ·rename_i kk
   cases hk : kk.beq (widths a) with
   | false => rw [hk] at h; exact h.elim
   | true =>
    simp only [Nat.beq_eq] at hk
    subst hk
    exact ⟨RepC.len _ _ r, RepC.one _ _ r⟩
  ·rename_i z n
   unfold leBig at h
   split at h
   ·rename_i b l
    obtain ⟨rfl, rfl, h3⟩ := h
    obtain ⟨x, y, rfl, hx, ⟨x2, y2, rfl, hx2, hy2⟩⟩ := r
    have hx : x = [.bool (decide (z < 0))] := hx
    have hy2 : y2 = [] := hy2
    subst hx; subst hy2
    obtain ⟨s, rfl, hs⟩ := hx2
    exact ⟨s, rfl, h3, hs.mono k.S⟩
   ·rename_i b v
    obtain ⟨rfl, rfl, rfl⟩ := h
    obtain ⟨x, y, rfl, hx, ⟨x2, y2, rfl, hx2, hy2⟩⟩ := r
    have hx : x = [.bool false] := hx
    have hy2 : y2 = [] := hy2
    subst hx; subst hy2
    obtain ⟨rfl, _⟩ := hx2
    exact ⟨.slice none 0 0, rfl, Nat.two_pow_pos n, words_nil _ _⟩
   ·exact h.elim
  ·exact les_repc a _ nb c c' vs k h r
 | .ref m, m', nb, c, c', vs, k, h, r => by
  cases m' <;> simp only [leMV] at h <;> first | (exact any_of_cell r rfl) | skip
  obtain ⟨b, off, cs, h1, h2, h3, h4⟩ := r
  exact ⟨b, off, cs, h1, fun h => h2 (k.W b h), le_repc m _ nb c c' cs k h h3, h4⟩
 | .bp i off, m', nb, c, c', vs, k, h, r => by
  cases m' <;> simp only [leMV] at h <;> first | (exact any_of_cell r rfl) | skip
  rename_i i' off'
  cases hk : (i.beq i' && i.blt nb) with
  | false => rw [hk] at h; exact h.elim
  | true =>
   rw [hk, cond_true] at h
   simp only [Bool.and_eq_true, Nat.beq_eq, Nat.blt_eq] at hk
   obtain ⟨rfl, hlt⟩ := hk
   subst h
   obtain ⟨h1, h2⟩ := r
   obtain ⟨a, b, _⟩ := k.live i hlt h1
   exact ⟨a, by rw [b]; exact h2⟩
 | .bs i off len, m', nb, c, c', vs, k, h, r => by
  cases m' <;> simp only [leMV] at h <;> first | (exact any_of_cell r rfl) | skip
  rename_i i' off' len'
  cases hk : (i.beq i' && i.blt nb) with
  | false => rw [hk] at h; exact h.elim
  | true =>
   rw [hk, cond_true] at h
   simp only [Bool.and_eq_true, Nat.beq_eq, Nat.blt_eq] at hk
   obtain ⟨rfl, hlt⟩ := hk
   obtain ⟨rfl, rfl⟩ := h
   obtain ⟨a, cap, h1, h2, h3⟩ := r
   refine ⟨a, cap, h1, h2, h3.imp (fun ⟨h4, h5, h6⟩ => ?_) id⟩
   obtain ⟨x, y, z⟩ := k.live i hlt h5
   exact ⟨by rw [y]; exact h4, x, by rw [z]; exact h6⟩
 | .fn f a, m', nb, c, c', vs, k, h, r => by
  cases m' <;> simp only [leMV] at h <;> first | (exact any_of_cell r rfl) | skip
  rename_i f' b
  cases hk : f.beq f' with
  | false => rw [hk] at h; exact h.elim
  | true =>
   rw [hk, cond_true] at h
   simp only [Nat.beq_eq] at hk
   subst hk
   obtain ⟨cs, h1, h2, h3⟩ := r
   exact ⟨cs, h1, les_repc a b nb c c' cs k h h2, les_agg a b nb h h3⟩
 | .iface t m, m', nb, c, c', vs, k, h, r => by
  cases m' <;> simp only [leMV] at h <;> first | (exact any_of_cell r rfl) | skip
  rename_i t' m2
  cases hk : (t.beq t' && (m.isAgg == m2.isAgg)) with
  | false => rw [hk] at h; exact h.elim
  | true =>
   rw [hk, cond_true] at h
   simp only [Bool.and_eq_true, Nat.beq_eq, beq_iff_eq] at hk
   obtain ⟨rfl, hg⟩ := hk
   obtain ⟨cs, u, h1, h2, h3⟩ := r
   exact ⟨cs, u, h1, le_repc m m2 nb c c' cs k h h2, by rw [← hg]; exact h3⟩
 | .emp, m', nb, c, c', vs, k, h, r => by
  cases m' <;> simp only [leMV] at h <;> first | (exact any_of_cell r rfl) | skip
  ·subst h
   obtain ⟨a, rfl⟩ := r
   exact ⟨_, rfl, a, 0, rfl, Nat.le_refl _, fun h => absurd h (by simp)⟩
  ·exact r
 | .any, m', nb, c, c', vs, k, h, r => by
  cases m' <;> simp only [leMV] at h
  exact r
 | .junk n, m', nb, c, c', vs, k, h, r => by
  cases m' <;> simp only [leMV] at h
  rename_i kk
  cases hk : kk.beq n with
  | false => rw [hk] at h; exact h.elim
  | true =>
   simp only [Nat.beq_eq] at hk
   subst hk
   exact r
 | .br i idx off, m', nb, c, c', vs, k, h, r => by
  cases m' <;> simp only [leMV] at h <;> first | (exact any_of_cell r rfl) | skip
  rename_i i' idx' off'
  cases hk : (i.beq i' && i.blt nb) with
  | false => rw [hk] at h; exact h.elim
  | true =>
   rw [hk, cond_true] at h
   simp only [Bool.and_eq_true, Nat.beq_eq, Nat.blt_eq] at hk
   obtain ⟨rfl, hlt⟩ := hk
   obtain ⟨rfl, rfl⟩ := h
   obtain ⟨h1, h2⟩ := r
   obtain ⟨a, b, d⟩ := k.live i hlt h1
   exact ⟨a, by rw [b, d]; exact h2⟩
 | .tup _, m', nb, c, c', vs, k, h, r => by simp only [leMV] at h
theorem les_repc {w : World} : ∀ (a b : List MV) (nb : Nat) (c c' : Ctx) (vs : List Value), Cuts nb c c' → leMVs nb a b → RepCs c w a vs → RepCs c' w b vs
 | [], b, nb, c, c', vs, k, h, r => by
  cases b <;> simp only [leMVs] at h
  exact r
 | x :: a, b, nb, c, c', vs, k, h, r => by
  cases b <;> simp only [leMVs] at h
  obtain ⟨h1, h2⟩ := h
  obtain ⟨u, v, rfl, hu, hv⟩ := r
  exact ⟨u, v, rfl, le_repc x _ nb c c' u k h1 hu, les_repc a _ nb c c' v k h2 hv⟩
theorem les_agg : ∀ (a b : List MV) (nb : Nat), leMVs nb a b → (∀ m ∈ a, m.isAgg = false) → ∀ m ∈ b, m.isAgg = false
 | [], b, nb, h, hg => by
  cases b <;> simp only [leMVs] at h
  simp
 | x :: a, b, nb, h, hg => by
  cases b <;> simp only [leMVs] at h
  obtain ⟨h1, h2⟩ := h
  intro m hm
  rcases List.mem_cons.1 hm with rfl | hm
  ·rw [leMV_agg x _ h1]; exact hg x (by simp)
  ·exact les_agg a _ nb h2 (fun y hy => hg y (by simp [hy])) m hm
end
theorem leMV_notup {nb : Nat} {m m' : MV} (h : leMV nb m m') : m.isTup = false ∧ m'.isTup = false := by
 cases m <;> cases m' <;> first | exact ⟨rfl, rfl⟩ | (simp only [leMV] at h)
theorem le_rep1 {w : World} {m m' : MV} {nb : Nat} {c c' : Ctx} {v : Value} (k : Cuts nb c c') (h : leMV nb m m') (r : Rep1 c w m v) : Rep1 c' w m' v := by
 by_cases hn' : m' = .any
 ·subst hn'; trivial
 ·have hg := leMV_agg m m' h
  by_cases hn : m = .any
  ·subst hn; cases m' <;> simp only [leMV] at h; exact absurd rfl hn'
  ·cases hm : m.isAgg with
   | true =>
    rw [rep1_agg hm] at r
    rw [rep1_agg (hg.trans hm)]
    obtain ⟨cs, h1, h2⟩ := r
    exact ⟨cs, h1, le_repc m m' nb c c' _ k h h2⟩
   | false =>
    rw [rep1_cell hm hn] at r
    rw [rep1_cell (hg.trans hm) hn']
    exact le_repc m m' nb c c' _ k h r
theorem leVs_all {w : World} {nb : Nat} {c c' : Ctx} (k : Cuts nb c c') : ∀ (a b : List MV) (vs : List Value), leV.leVs nb a b → RepAll c w a vs → RepAll c' w b vs
 | [], b, vs, h, r => by cases b <;> simp only [leV.leVs] at h; exact r
 | x :: a, b, vs, h, r => by
  cases b with
  | nil => simp only [leV.leVs] at h
  | cons y b =>
   simp only [leV.leVs] at h
   obtain ⟨h1, h2⟩ := h
   obtain ⟨v, u, rfl, hv, hu⟩ := r
   refine ⟨v, u, rfl, ?_, leVs_all k a b u h2 hu⟩
   by_cases hy : y = .any
   ·subst hy; trivial
   ·refine le_rep1 k ?_ hv
    revert h1
    cases y <;> first | exact absurd rfl hy | exact id
theorem le_rep {w : World} {m m' : MV} {nb : Nat} {c c' : Ctx} {v : Value} (k : Cuts nb c c') (h : leV nb m m') (r : Rep c w m v) : Rep c' w m' v := by
 unfold leV at h
 split at h
 ·trivial
 ·rename_i b
  split at h
  ·rename_i a
   obtain ⟨vs, h1, h2⟩ := r
   exact ⟨vs, h1, leVs_all k a b _ h h2⟩
  ·exact h.elim
 ·obtain ⟨q1, q2⟩ := leMV_notup h
  exact (rep1_iff q2).2 (le_rep1 k h ((rep1_iff q1).1 r))
theorem LeFun.of_le {len : Nat} {f f' : Nat → MV} (h : ∀ i, i < len → leMV 0 (f i) (f' i)) : LeFun len f f' :=
 ⟨fun i hi c _ cs r => le_repc (f i) (f' i) 0 c c cs ⟨fun _ h => h, fun _ h => h, fun i hi => by omega⟩ (h i hi) r⟩
theorem leBC_rep {w : World} {nb : Nat} {c c' : Ctx} (k : Cuts nb c c') {x y : BC} {arr : Array Value} (h : leBC nb x y) (r : BCRep c w x arr) : BCRep c' w y arr := by
 cases x with
 | one m =>
  cases y with
  | one m' =>
   obtain ⟨cs, h1, h2⟩ := r
   exact ⟨cs, le_repc m m' nb c c' cs k h h1, h2⟩
  | arr k l => exact h.elim
  | rows _ _ _ => exact h.elim
 | arr kk l =>
  cases y with
  | one m' => exact h.elim
  | arr k' l' =>
   simp only [leBC] at h
   cases hk : decide (kk = k') with
   | false => rw [hk] at h; exact h.elim
   | true =>
    rw [hk, cond_true] at h
    simp only [decide_eq_true_eq] at hk
    subst hk; subst h
    exact r
  | rows _ _ _ => exact h.elim
 | rows wd len f =>
  cases y with
  | one m' => exact h.elim
  | arr k l => exact h.elim
  | rows wd' len' f' =>
   simp only [leBC] at h
   cases hk : wd.beq wd' with
   | false => rw [hk] at h; exact h.elim
   | true =>
    rw [hk, cond_true] at h
    simp only [Nat.beq_eq] at hk
    obtain ⟨rfl, hf⟩ := h
    subst hk
    intro i hi
    obtain ⟨cs, q1, q2, q3⟩ := r i hi
    exact ⟨cs, q1, hf.h i hi _ _ _ (RepC.keep (⟨fun b _ => k.S b, fun _ _ _ => trivial, fun _ h => h.elim, fun _ _ _ => rfl, fun _ _ _ => rfl⟩ : Keeps c.elem c'.elem w w) (f i) cs q2), q3⟩
theorem leBC_wd {nb : Nat} {x y : BC} (h : leBC nb x y) : y.wd = x.wd := by
 cases x <;> cases y <;> first | rfl | exact h.elim | skip
 rename_i wd len f wd' len' f'
 simp only [leBC] at h
 cases hk : wd.beq wd' with
 | false => rw [hk] at h; exact h.elim
 | true => simp only [Nat.beq_eq] at hk; exact hk.symm
theorem leBx_nth {nb : Nat} : ∀ (l l' : List Box), leBx nb l l' → ∀ i b', nth l' i = some b' → i < l.length → ∃ b, nth l i = some b ∧ b.fz = b'.fz ∧ leBC nb b.c b'.c
 | l, [], _ => fun i b h => by simp [nth] at h
 | [], _ :: _, h => fun i b _ hi => by simp at hi
 | x :: l, y :: l', h => by
  simp only [leBx] at h
  cases hk : (x.fz == y.fz) with
  | false => rw [hk] at h; exact h.elim
  | true =>
   rw [hk, cond_true] at h
   obtain ⟨h1, h2⟩ := h
   have h4 := leBx_nth l l' h2
   intro i b' hb hi
   cases i with
   | zero => simp only [nth, Option.some.injEq] at hb; subst hb; exact ⟨x, rfl, by simpa using hk, h1⟩
   | succ i => exact h4 i b' hb (by simpa using hi)
theorem leTm_look {nb : Nat} {s : MS} : ∀ (l : List (Nat × MV)), leTm nb s l → ∀ t, leV nb (look t s.tm) (look t l)
 | [], _, t => by simp only [look]; unfold leV; trivial
 | (u, m) :: l, h, t => by
  obtain ⟨h1, h2⟩ := h
  simp only [look]
  cases hk : u.beq t with
  | true => simp only [Nat.beq_eq] at hk; subst hk; exact h1
  | false => exact leTm_look l h2 t
theorem St.le {S0 : Nat → Prop} {w0 : Base} {w : World} {s t : MS} {c : Ctx} {a : Act} (h : St S0 w0 s c a w) (hle : leMS s t) : ∃ c', St S0 w0 t c' a w := by
 unfold leMS at hle
 cases hnn : (s.n.beq t.n && s.np.beq t.np && t.np.ble t.bx.length) with
 | false => rw [hnn] at hle; exact hle.elim
 | true =>
  rw [hnn, cond_true] at hle
  simp only [Bool.and_eq_true, Nat.beq_eq, Nat.ble_eq] at hnn
  obtain ⟨⟨hn, hnp⟩, hnb⟩ := hnn
  obtain ⟨h1, h2⟩ := hle
  have hnth0 := leBx_nth _ _ h2
  have hnth : ∀ i b', c.live i → nth t.bx i = some b' → ∃ b, nth s.bx i = some b ∧ b.fz = b'.fz ∧ leBC t.bx.length b.c b'.c := fun i b' hl hb => hnth0 i b' hb (h.mem.fresh i hl).2.2
  let live' : Nat → Prop := fun i => c.live i ∧ i < t.bx.length
  have hW : ∀ b, Wof t.bx live' c.β b → c.W b := by
   rintro b ⟨i, b0, q1, q2, q3, q4⟩
   obtain ⟨b1, r1, r2, _⟩ := hnth i b0 q1.1 q2
   exact (h.mem.hW b).2 ⟨i, b1, q1.1, r1, by rw [r2]; exact q3, q4⟩
  have k : Cuts t.bx.length c (ctxOf S0 t.bx live' c.β c.sz) :=
   ⟨fun b hb => (h.mem.hS b).2 (hb.imp id (hW b)), hW, fun i hi hl => ⟨⟨hl, hi⟩, rfl, rfl⟩⟩
  refine ⟨ctxOf S0 t.bx live' c.β c.sz, ⟨⟨h.mem.ext, h.mem.S0lt, h.mem.gl, fun b => Iff.rfl, fun b => Iff.rfl, fun i j hi hj => h.mem.inj i j hi.1 hj.1, fun i hi => ⟨(h.mem.fresh i hi.1).1, (h.mem.fresh i hi.1).2.1, hi.2⟩, ?_, fun i b z hp => by obtain ⟨q1, q2, q3⟩ := h.mem.pin i b z hp; have := h.np i b z hp; exact ⟨⟨q1, by omega⟩, q2, q3⟩⟩, fun u => le_rep k (leTm_look _ h1 u) (h.tm u), hn ▸ h.size, h.defers, hnp ▸ h.np⟩⟩
  intro i b hl hb
  obtain ⟨b1, r1, r2, r3⟩ := hnth i b hl.1 hb
  obtain ⟨arr, ty, q1, q2, qw, q3⟩ := h.mem.box i b1 hl.1 r1
  exact ⟨arr, ty, q1, q2, by rw [leBC_wd r3]; exact qw, leBC_rep k r3 q3⟩
end Go.Proofs.YtnfmjlhkknndhaaGreat
/-
 The evaluator is right, part 14: code, functions: what 'evFn' says is a contract.
-/
namespace Go.Proofs.YtnfmjlhkknndhaaGreat
open Go Go.RowKit
def Ex.out : Ex → Exit
 | .normal => .normal
 | .exit id => .exit id
 | .ret => .ret
theorem St.frzs {S0 : Nat → Prop} {w0 : Base} {w : World} {s : MS} {c : Ctx} {a : Act} (h : St S0 w0 s c a w) (fz : List Nat) : St S0 w0 (s.frz fz) (ctxOf S0 (frzList fz s.bx) c.live c.β c.sz) a w := by
 obtain ⟨hm, hk, _⟩ := h.mem.frz fz
 exact h.keepTm (s' := s.frz fz) hk hm rfl rfl rfl
theorem evUnroll_sound {P : Program} {S0 : Nat → Prop} {w0 : Base} {c : Code} {F : MS → (Ex → MS → Prop) → Prop} {Q : Exit → Act → World → Prop} {K : Ex → MS → Prop}
  (hF : ∀ (s : MS) (K' : Ex → MS → Prop) (ct : Ctx) (a : Act) (w : World) (Q' : Exit → Act → World → Prop), F s K' → St S0 w0 s ct a w →
   (∀ e s' c' a' w', K' e s' → St S0 w0 s' c' a' w' → Q' e.out a' w') → (∀ ch a' w', Q (.panic ch) a' w' → Q' (.panic ch) a' w') → c.wp P Q' a w)
  (hK : ∀ e s' c' a' w', e ≠ .normal → K e s' → St S0 w0 s' c' a' w' → Q e.out a' w')
  {n : Nat} {s : MS} {ct : Ctx} {a : Act} {w : World} (h : evUnroll F n s K) (hs : St S0 w0 s ct a w) : (Code.loop c).wp P Q a w := by
 refine wp_loop_ghost (fun m a' w' => ∃ s' c', evUnroll F m s' K ∧ St S0 w0 s' c' a' w') n ⟨s, ct, h, hs⟩ ?_
 rintro m a' w' ⟨s', c', h1, h2⟩
 cases m with
 | zero => exact h1.elim
 | succ m =>
  refine hF s' _ c' a' w' _ h1 h2 (fun e s2 c2 a2 w2 q1 q2 => ?_) (fun ch a2 w2 q => q)
  cases e with
  | normal => exact ⟨m, Nat.lt_succ_self m, s2, c2, q1, q2⟩
  | exit id => exact hK (.exit id) s2 c2 a2 w2 (by simp) q1 q2
  | ret => exact hK .ret s2 c2 a2 w2 (by simp) q1 q2
theorem evCode_sound {P : Program} (hmix : P.follows .mixedOrders = true) {E : Env P} {Kp : MV → Prop} {S0 : Nat → Prop} {w0 : Base} :
  ∀ (c : Code) (s : MS) (K : Ex → MS → Prop) (ct : Ctx) (a : Act) (w : World) (Q : Exit → Act → World → Prop), evCode E Kp c s K → St S0 w0 s ct a w →
  (∀ e s' c' a' w', K e s' → St S0 w0 s' c' a' w' → Q e.out a' w') →
  (∀ m v w' a', Kp m → ExtB w0 w' → Rep1 (Ctx.res S0) w' m v → a'.defers = w0.df → Q (.panic [{ v, recovered := false }]) a' w') → c.wp P Q a w
 | .skip, s, K, ct, a, w, Q, h, hs, hK, hP => wp_skip (hK .normal s ct a w h hs)
 | .label l, s, K, ct, a, w, Q, h, hs, hK, hP => wp_label (hK .normal s ct a w h hs)
 | .region id ops draw, s, K, ct, a, w, Q, h, hs, hK, hP => evRegion_sound hmix hP (by simpa only [evCode] using h) (hs.frzs _) (fun s' c' a' w' q1 q2 _ => hK .normal s' c' a' w' q1 q2)
 | .seq x y, s, K, ct, a, w, Q, h, hs, hK, hP => by
  simp only [evCode] at h
  generalize E.cut (firstRegion y) s = A at h
  unfold evCut at h
  split at h
  ·refine wp_seq (evCode_sound hmix x s _ ct a w _ h hs (fun e s' c' a' w' q1 q2 => ?_) (fun m v w' a' q1 q2 q3 q4 => hP m v w' a' q1 q2 q3 q4))
   cases e with
   | normal => exact evCode_sound hmix y s' K c' a' w' Q q1 q2 hK hP
   | exit id => exact hK (.exit id) s' c' a' w' q1 q2
   | ret => exact hK .ret s' c' a' w' q1 q2
  ·obtain ⟨h1, h2⟩ := h
   refine wp_seq (evCode_sound hmix x s _ ct a w _ h1 hs (fun e s' c' a' w' q1 q2 => ?_) (fun m v w' a' q1 q2 q3 q4 => hP m v w' a' q1 q2 q3 q4))
   cases e with
   | normal =>
    obtain ⟨j, hj, hle⟩ := q1
    obtain ⟨c3, hc3⟩ := q2.le hle
    exact evCode_sound hmix y _ K c3 a' w' Q (h2 j hj) hc3 hK hP
   | exit id => exact hK (.exit id) s' c' a' w' q1 q2
   | ret => exact hK .ret s' c' a' w' q1 q2
 | .cond cc x y, s, K, ct, a, w, Q, h, hs, hK, hP => by
  simp only [evCode] at h
  split at h
  ·rename_i t
   split at h
   ·rename_i b hb
    have hr := hs.tm t
    rw [hb] at hr
    have he : a.eval (.tmp t) = .bool b := rep_bool hr
    unfold Br at h
    cases b with
    | true =>
     rw [cond_true] at h
     exact wp_cond he (evCode_sound hmix x _ K ct a w Q h (hs.again hr) hK hP)
    | false =>
     rw [cond_false] at h
     exact wp_cond he (evCode_sound hmix y _ K ct a w Q h (hs.again hr) hK hP)
   ·exact h.elim
  ·exact h.elim
 | .block id x, s, K, ct, a, w, Q, h, hs, hK, hP => by
  simp only [evCode] at h
  refine wp_block (evCode_sound hmix x s _ ct a w _ h hs (fun e s' c' a' w' q1 q2 => ?_) (fun m v w' a' q1 q2 q3 q4 => hP m v w' a' q1 q2 q3 q4))
  cases e with
  | normal => exact hK .normal s' c' a' w' q1 q2
  | exit j =>
   simp only [Ex.out, Exit.inBlock]
   cases hj : j.beq id with
   | true =>
    simp only [Nat.beq_eq] at hj
    rw [if_pos hj]
    have q1 : cond (j.beq id) (K .normal s') (K (.exit j) s') := q1
    rw [show j.beq id = true by simpa using hj, cond_true] at q1
    exact hK .normal s' c' a' w' q1 q2
   | false =>
    have hne : ¬ j = id := by intro e; subst e; simp at hj
    rw [if_neg hne]
    have q1 : cond (j.beq id) (K .normal s') (K (.exit j) s') := q1
    rw [hj, cond_false] at q1
    exact hK (.exit j) s' c' a' w' q1 q2
  | ret => exact hK .ret s' c' a' w' q1 q2
 | .loop x, s, K, ct, a, w, Q, h, hs, hK, hP => by
  simp only [evCode] at h
  generalize hann : E.ann (firstRegion x) s = A at h
  unfold evLoop at h
  split at h
  ·exact h.elim
  ·exact evUnroll_sound (Q := Q) (K := K) (fun s' K' c' a' w' Q' h' hs' hK' hp' => evCode_sound hmix x s' K' c' a' w' Q' h' hs' hK' (fun m v w2 a2 q1 q2 q3 q4 => hp' _ _ _ (hP m v w2 a2 q1 q2 q3 q4)))
    (fun e s' c' a' w' _ q1 q2 => hK e s' c' a' w' q1 q2) h hs
  ·rename_i ι I T μ
   obtain ⟨⟨i0, hi0, hle0⟩, hround⟩ := h
   refine wp_loop_ghost (fun m a' w' => ∃ i c', I i ∧ μ i = m ∧ St S0 w0 (T i) c' a' w') (μ i0) (by
    obtain ⟨c', hc'⟩ := hs.le hle0
    exact ⟨i0, c', hi0, rfl, hc'⟩) ?_
   rintro m a' w' ⟨i, c', hi, rfl, hst⟩
   refine evCode_sound hmix x (T i) _ c' a' w' _ (hround i hi) hst (fun e s2 c2 a2 w2 q1 q2 => ?_) (fun m v w2 a2 q1 q2 q3 q4 => hP m v w2 a2 q1 q2 q3 q4)
   cases e with
   | normal =>
    obtain ⟨j, hj, hle, hlt⟩ := q1
    obtain ⟨c3, hc3⟩ := q2.le hle
    exact ⟨μ j, hlt, j, c3, hj, rfl, hc3⟩
   | exit id => exact hK (.exit id) s2 c2 a2 w2 q1 q2
   | ret => exact hK .ret s2 c2 a2 w2 q1 q2
 | .exit id, s, K, ct, a, w, Q, h, hs, hK, hP => wp_exit (hK (.exit id) s ct a w h hs)
 | .ret, s, K, ct, a, w, Q, h, hs, hK, hP => wp_ret (hK .ret s ct a w h hs)
 | .rangeFunc _ _ _ _, s, K, ct, a, w, Q, h, hs, hK, hP => by simp only [evCode] at h; exact h.elim
 | .scope x, s, K, ct, a, w, Q, h, hs, hK, hP => wp_scope_straight (evCode_sound hmix x s K ct a w _ (by simpa only [evCode] using h) hs (fun e s' c' a' w' q1 q2 => by
   cases e with
   | normal => exact hK .normal s' c' a' w' q1 q2
   | exit id => exact hK (.exit id) s' c' a' w' q1 q2
   | ret => exact hK .ret s' c' a' w' q1 q2) (fun m v w' a' q1 q2 q3 q4 => hP m v w' a' q1 q2 q3 q4))
 | .goto _, s, K, ct, a, w, Q, h, hs, hK, hP => by simp only [evCode] at h; exact h.elim
 | .refuse _, s, K, ct, a, w, Q, h, hs, hK, hP => by simp only [evCode] at h; exact h.elim
/-! ### RESULTS -/
theorem show_out {S0 : Nat → Prop} {w0 : Base} {w : World} {s : MS} {c : Ctx} {a : Act} (h : St S0 w0 s c a w) {m : MV} {sh : Shown} (hsh : s.show m = some sh) (hp : sh.p.holds) (hc : sh.m.clean false = true) {v : Value} (hr : Rep c w m v) : Rep1 (Ctx.res S0) w sh.m v := by
 have hM := h.mem
 obtain ⟨s1, _⟩ := show_ok (S' := S0) (fun b hb => (hM.hS b).2 (.inl hb)) hM.box (fun i b hl hb hf hs => hM.frozen i b hl hb hf ((hM.hS _).2 (.inl hs))) m sh hsh hp
  (fun i _ hl hS => hM.notS0 hl hS) v ((rep1_iff (show_notup hsh)).1 hr)
 exact Rep1.clean (c := Ctx.args S0) (c' := Ctx.res S0) (r := false) (fun b hb => hb) (fun e => by simp at e) hc s1
theorem evLoad_addr {P : Program} {s : MS} {t : TypeId} {agg : Bool} {size : Nat} (ht : tyAgg P t = some (agg, size)) {x : MV} {p : OProp} {m : MV} (h : evLoad s agg size x = .val p m) (hp : p.holds)
  {c : Ctx} {w : World} {v : Value} (hx : Rep c w x v) (hB : Boxes c w s.bx) : ∃ ad u, v = .pointer (some ad) ∧ (loadVar t ad).run P w = .ok u w ∧ Rep c w m u := by
 have hv : ∃ ad, v = .pointer (some ad) := by
  have h' := h
  unfold evLoad at h'
  split at h'
  ·obtain ⟨_, rfl⟩ := rep_bp hx; exact ⟨_, rfl⟩
  ·obtain ⟨b, off, cs, rfl, _⟩ := rep_ref hx; exact ⟨_, rfl⟩
  ·obtain ⟨_, rfl⟩ := rep_br hx; exact ⟨_, rfl⟩
  ·simp at h'
 obtain ⟨ad, rfl⟩ := hv
 obtain ⟨u, hu, hr⟩ := evLoad_ok ht h hp hx hB
 refine ⟨ad, u, rfl, ?_, hr⟩
 simpa [Instr.loadAt, Instr.sureAddr] using hu
def resF (tmps : Array Value) : ResultVar → Sem Value
 | .tmp t => pure (tmps.getD t undef)
 | .cell b t => do loadVar t (← asAddr (tmps.getD b undef))
theorem results_eq (fn : Func) (tmps : Array Value) : results fn tmps = (do let vs ← fn.results.mapM (resF tmps); pure (if h : vs.size = 1 then vs[0] else .tuple vs)) := by
 have e : (fun r : ResultVar => (match r with | .tmp t => pure (tmps.getD t undef) | .cell b t => do loadVar t (← asAddr (tmps.getD b undef)) : Sem Value)) = resF tmps := by
  funext r; cases r <;> rfl
 rw [← e]
 rfl
theorem evResult_ok {P : Program} {S0 : Nat → Prop} {w0 : Base} {w : World} {s : MS} {c : Ctx} {a : Act} (h : St S0 w0 s c a w) {r : ResultVar} {p : OProp} {m : MV} (he : evResult P s r = some (p, m)) (hp : p.holds) :
  ∃ v, (resF a.tmps r).run P w = .ok v w ∧ Rep1 (Ctx.res S0) w m v := by
 cases r with
 | tmp t =>
  simp only [evResult] at he
  split at he
  ·rename_i m' p' fz hsh
   cases hc : m'.clean false with
   | false => rw [hc] at he; simp at he
   | true =>
    rw [hc] at he
    simp only [cond_true, Option.some.injEq, Prod.mk.injEq] at he
    obtain ⟨rfl, rfl⟩ := he
    exact ⟨_, rfl, show_out h hsh hp hc (h.tm t)⟩
  ·simp at he
 | cell b t =>
  simp only [evResult] at he
  split at he
  ·rename_i agg size ht
   split at he
   ·rename_i p1 m1 hl
    split at he
    ·rename_i m' q fz hsh
     cases hc : m'.clean false with
     | false => rw [hc] at he; simp at he
     | true =>
      rw [hc] at he
      simp only [cond_true, Option.some.injEq, Prod.mk.injEq] at he
      obtain ⟨rfl, rfl⟩ := he
      obtain ⟨hp1, hq⟩ := oand2_holds.1 hp
      obtain ⟨ad, u, hv, hu, hr⟩ := evLoad_addr ht hl hp1 (h.tm b) h.mem.box
      refine ⟨u, ?_, show_out h hsh hq hc hr⟩
      simp [resF, hv, asAddr, hu]
    ·simp at he
   ·simp at he
  ·simp at he
theorem evResults_ok {P : Program} {S0 : Nat → Prop} {w0 : Base} {w : World} {s : MS} {c : Ctx} {a : Act} (h : St S0 w0 s c a w) : ∀ (l : List ResultVar) (p : OProp) (ms : List MV), evResults P s l = some (p, ms) → p.holds →
  ∃ vs, (l.mapM (resF a.tmps)).run P w = .ok vs w ∧ RepAll (Ctx.res S0) w ms vs
 | [], p, ms, he, hp => by
  simp only [evResults, Option.some.injEq, Prod.mk.injEq] at he
  obtain ⟨rfl, rfl⟩ := he
  exact ⟨[], rfl, rfl⟩
 | r :: l, p, ms, he, hp => by
  simp only [evResults] at he
  split at he
  ·rename_i p1 m q ms' h1 h2
   simp only [Option.some.injEq, Prod.mk.injEq] at he
   obtain ⟨rfl, rfl⟩ := he
   obtain ⟨hp1, hq⟩ := oand2_holds.1 hp
   obtain ⟨v, hv, hr⟩ := evResult_ok h h1 hp1
   obtain ⟨vs, hvs, hrs⟩ := evResults_ok h l q ms' h2 hq
   refine ⟨v :: vs, ?_, v, vs, rfl, hr, hrs⟩
   simp only [List.mapM_cons, Sem.run_bind, hv, Result.andThen, hvs, Sem.run_pure]
  ·simp at he
theorem oneOrTup_rep {c : Ctx} {w : World} {ms : List MV} {vs : List Value} (h : RepAll c w ms vs) : Rep c w (oneOrTup ms) (if hh : vs.toArray.size = 1 then vs.toArray[0] else .tuple vs.toArray) := by
 match ms, vs, h with
 | [], vs, h =>
  have h : vs = [] := h
  subst h
  exact ⟨#[], rfl, rfl⟩
 | [m], vs, h =>
  obtain ⟨v, r, rfl, h1, h2⟩ := h
  have h2 : r = [] := h2
  subst h2
  exact rep_of_rep1 h1
 | m :: m2 :: ms, vs, h =>
  have hh := h
  obtain ⟨v, r, rfl, h1, ⟨v2, r2, rfl, h3, h4⟩⟩ := h
  rw [dif_neg (by simp)]
  exact ⟨_, rfl, by simpa using hh⟩
theorem sat_ret {S0 : Nat → Prop} {w : World} {m : MV} {v : Value} : ∀ (r : MRes), r.sat (.ret m) → Rep (Ctx.res S0) w m v → r.holds (Ctx.res S0) w (.returned v)
 | .ret m', h, hr => le_rep (nb := 0) ⟨fun _ h => h, fun _ h => h, fun i hi => by omega⟩ h hr
 | .pan _, h, _ => h.elim
 | .br b x y, h, hr => by
  simp only [MRes.sat, Br] at h
  simp only [MRes.holds]
  cases b with
  | true => exact sat_ret x h hr
  | false => exact sat_ret y h hr
theorem sat_pan {S0 : Nat → Prop} {w : World} {m : MV} {v : Value} : ∀ (r : MRes), r.sat (.pan m) → Rep1 (Ctx.res S0) w m v → r.holds (Ctx.res S0) w (.panicked [{ v, recovered := false }])
 | .ret _, h, _ => h.elim
 | .pan m', h, hr => by
  refine ⟨v, rfl, ?_⟩
  have h : leV 0 m m' := h
  unfold leV at h
  split at h
  ·trivial
  ·split at h
   ·have : RepC (Ctx.res S0) w (.tup _) [v] := (rep1_cell rfl (by simp)).1 hr
    exact this.elim
   ·exact h.elim
  ·exact le_rep1 (nb := 0) ⟨fun _ h => h, fun _ h => h, fun i hi => by omega⟩ h hr
 | .br b x y, h, hr => by
  simp only [MRes.sat, Br] at h
  simp only [MRes.holds]
  cases b with
  | true => exact sat_pan x h hr
  | false => exact sat_pan y h hr
theorem look_numbered {c : Ctx} {w : World} : ∀ (ms : List MV) (vs : List Value) (k : Nat), RepAll c w ms vs → ∀ t, (t < k → look t (numbered k ms) = .any) ∧ (k ≤ t → Rep c w (look t (numbered k ms)) (vs.getD (t - k) undef))
 | [], vs, k, h, t => ⟨fun _ => rfl, fun _ => trivial⟩
 | m :: ms, vs, k, h, t => by
  obtain ⟨v, r, rfl, h1, h2⟩ := h
  obtain ⟨ih1, ih2⟩ := look_numbered ms r (k + 1) h2 t
  simp only [numbered, look]
  cases hk : k.beq t with
  | true =>
   simp only [Nat.beq_eq] at hk
   subst hk
   exact ⟨fun h => by omega, fun _ => by simpa using rep_of_rep1 h1⟩
  | false =>
   have hne : k ≠ t := by intro e; subst e; simp at hk
   refine ⟨fun h => ih1 (by omega), fun h => ?_⟩
   have := ih2 (by omega)
   rw [show t - k = (t - (k + 1)) + 1 by omega]
   exact this
theorem repAll_length {c : Ctx} {w : World} : ∀ (ms : List MV) (vs : List Value), RepAll c w ms vs → vs.length = ms.length
 | [], vs, h => by have h : vs = [] := h; simp [h]
 | m :: ms, vs, h => by
  obtain ⟨v, r, rfl, _, h2⟩ := h
  simp [repAll_length ms r h2]
theorem fn_ok {P : Program} (hmix : P.follows .mixedOrders = true) {f : FuncId} {fn : Func} (hf : P.funcs[f]? = some fn) (spec : FSpec)
  (hspec : ∀ ms p r, spec ms = some (p, r) → p.holds → ∃ E : Env P, evFn E fn ms r.sat)
  (S : Nat → Prop) (w : World) (ms : List MV) (args : Array Value) (p : OProp) (r : MRes) (hs : spec ms = some (p, r)) (hp : p.holds) (hS : ∀ b, S b → b < w.heap.size) (hG : GW S w)
  (ha : RepAll (Ctx.args S) w ms args.toList) : Calls P f args w fun e w' => Ext w w' ∧ r.holds (Ctx.res S) w' e := by
 obtain ⟨E, h⟩ := hspec ms p r hs hp
 unfold evFn at h
 split at h
 ·rename_i c hb
  cases hl : ms.length.ble fn.ntmps with
  | false => rw [hl] at h; exact h.elim
  | true =>
   rw [hl, cond_true] at h
   have hle : ms.length ≤ fn.ntmps := Nat.le_of_ble_eq_true hl
   have hlen := repAll_length _ _ ha
   simp only [Array.length_toList] at hlen
   refine calls_of_wp hf hb (evCode_sound (S0 := S) (w0 := ⟨w, fun _ => False, fun _ _ _ => False, []⟩) hmix c _ _ (ctxOf S [] (fun _ => False) (fun _ => 0) (fun _ => ⟨0, 0⟩)) _ w _ h ⟨⟨⟨rfl, rfl, Nat.le_refl _, fun _ _ _ => rfl, fun _ _ => rfl⟩, fun b hb => ⟨hS b hb, id⟩, ⟨hG, fun _ h => h⟩, fun b => Iff.rfl, fun b => Iff.rfl, fun i j hi => hi.elim, fun i hi => hi.elim, fun i b hi => hi.elim, fun _ _ _ h => h.elim⟩, fun t => ?_, ?_, rfl, fun _ _ _ h => h.elim⟩ (fun e s' c' a' w' hK hst => ?_) (fun m v w' a' hK hext hr hd => ?_))
   ·have hk : Keeps (Ctx.args S) (ctxOf S [] (fun _ => False) (fun _ => 0) (fun _ => ⟨0, 0⟩)) w w :=
     ⟨fun b _ hb => hb.elim id (fun ⟨i, _, hi, _⟩ => hi.elim), fun b _ ⟨i, _, hi, _⟩ => hi.elim, fun _ h => h.elim, fun _ _ _ => rfl, fun _ _ _ => rfl⟩
    have := ((look_numbered ms args.toList 0 ha t).2 (Nat.zero_le _)).keep hk
    rw [Nat.sub_zero] at this
    have e : (args ++ Array.replicate (fn.ntmps - args.size) undef).getD t undef = args.toList.getD t undef := by
     simp only [Array.getD_eq_getD_getElem?, Array.getElem?_append, List.getD_eq_getElem?_getD, Array.getElem?_toList]
     split
     ·rfl
     ·rename_i hge
      rw [Array.getElem?_replicate, Array.getElem?_eq_none (by omega : args.size ≤ t)]
      split <;> rfl
    rw [e]
    exact this
   ·simp; omega
   ·have fin : (match evResults P s' fn.results.toList with | some (p, l) => oand p <| r.sat (.ret (oneOrTup l)) | none => StuckRet s') → ∃ v, (results fn a'.tmps).run P w' = .ok v w' ∧ r.holds (Ctx.res S) w' (.returned v) := by
     intro hK
     split at hK
     ·rename_i p l hres
      obtain ⟨hp, hK⟩ := oand_holds.1 hK
      obtain ⟨vs, hvs, hrs⟩ := evResults_ok hst _ p l hres hp
      refine ⟨_, ?_, sat_ret r hK (oneOrTup_rep hrs)⟩
      rw [results_eq, Array.mapM_eq_mapM_toList]
      simp only [Sem.run_bind, Sem.run_map, hvs, Result.andThen, Sem.run_pure]
     ·exact hK.elim
    cases e with
    | normal =>
     obtain ⟨v, h1, h2⟩ := fin hK
     exact ⟨hst.defers, v, h1, hst.mem.ext.plain, h2⟩
    | ret =>
     obtain ⟨v, h1, h2⟩ := fin hK
     exact ⟨hst.defers, v, h1, hst.mem.ext.plain, h2⟩
    | exit id => exact hK.elim
   ·exact ⟨hd, hext.plain, sat_pan r hK hr⟩
 ·exact h.elim
end Go.Proofs.YtnfmjlhkknndhaaGreat
/-
 The evaluator is right, part 15: functions that write the blocks they are given.
-/
namespace Go.Proofs.YtnfmjlhkknndhaaGreat
open Go Go.RowKit
theorem leGiven_nth {nb : Nat} : ∀ (l : List Box) (l' : List BC), leGiven nb l l' → ∀ (i : Nat) bc, nth l' i = some bc → ∃ b, nth l i = some b ∧ b.fz = false ∧ 1 ≤ bc.wd ∧ leBC nb b.c bc
 | l, [], _, i, bc, h => by simp [nth] at h
 | [], _ :: _, h, _, _, _ => h.elim
 | b :: r, c :: l, h, i, bc, hi => by
  obtain ⟨h1, h2⟩ := h
  cases hc : (b.fz || c.wd.beq 0) with
  | true => rw [hc] at h1; exact h1.elim
  | false =>
   rw [hc, cond_false] at h1
   simp only [Bool.or_eq_false_iff] at hc
   cases i with
   | zero =>
    simp only [nth, Option.some.injEq] at hi
    subst hi
    refine ⟨b, rfl, hc.1, ?_, h1⟩
    have := hc.2
    rcases Nat.eq_zero_or_pos c.wd with e | e
    ·rw [e] at this; simp at this
    ·exact e
   | succ i => exact leGiven_nth r l h2 i bc hi
theorem leGiven_rep {nb : Nat} {c c' : Ctx} {w : World} (hS : ∀ b, c.S b → c'.S b) {x y : BC} {arr : Array Value} (hy : 1 ≤ y.wd) (h : leBC nb x y) (r : BCRep c' w x arr) : BCRep c w y arr := by
 cases x with
 | one m => cases y <;> first | (simp [BC.wd] at hy; done) | exact h.elim
 | arr kk l =>
  cases y with
  | one m' => exact h.elim
  | rows _ _ _ => exact h.elim
  | arr k' l' =>
   simp only [leBC] at h
   cases hk : decide (kk = k') with
   | false => rw [hk] at h; exact h.elim
   | true =>
    rw [hk, cond_true] at h
    simp only [decide_eq_true_eq] at hk
    subst hk; subst h
    exact r
 | rows wd len f =>
  cases y with
  | one m' => exact h.elim
  | arr k l => exact h.elim
  | rows wd' len' f' =>
   simp only [leBC] at h
   cases hk : wd.beq wd' with
   | false => rw [hk] at h; exact h.elim
   | true =>
    rw [hk, cond_true] at h
    simp only [Nat.beq_eq] at hk
    obtain ⟨rfl, hf⟩ := h
    subst hk
    intro i hi
    obtain ⟨cs, q1, q2, q3⟩ := r i hi
    exact ⟨cs, q1, hf.h i hi _ _ _ (RepC.keep (⟨fun b _ => hS b, fun _ _ _ => trivial, fun _ h => h.elim, fun _ _ _ => rfl, fun _ _ _ => rfl⟩ : Keeps c'.elem c.elem w w) (f i) cs q2), q3⟩
theorem fn_mok {P : Program} (hmix : P.follows .mixedOrders = true) {f : FuncId} {fn : Func} (hf : P.funcs[f]? = some fn) (spec : List MV → List BC → Option (OProp × List BC))
  (hspec : ∀ ms bcs p bcs', spec ms bcs = some (p, bcs') → p.holds → bcs'.length = bcs.length ∧ ∃ E : Env P, evMFn E fn ms bcs bcs') : MOk P f spec := by
 intro X c w bcs bcs' ms args p hs hp hG hGW ha
 obtain ⟨hlen', E, h⟩ := hspec ms bcs p bcs' hs hp
 unfold evMFn at h
 split at h
 ·rename_i cd hb
  cases hl : (ms.length.ble fn.ntmps && fn.results.toList.length.beq 0) with
  | false => rw [hl] at h; exact h.elim
  | true =>
   rw [hl, cond_true] at h
   simp only [Bool.and_eq_true, Nat.ble_eq, Nat.beq_eq] at hl
   obtain ⟨hle, hres⟩ := hl
   have hres : fn.results = #[] := by
    apply Array.eq_empty_of_size_eq_zero
    simpa using hres
   have hlen := repAll_length _ _ ha
   simp only [Array.length_toList] at hlen
   have hnth : ∀ i, nth (bcs.map (fun b => (⟨false, b⟩ : Box))) i = (nth bcs i).map (fun b => ⟨false, b⟩) := fun i => by simp only [nth_eq, List.getElem?_map]
   have hsome : ∀ i, c.live i → ∃ bc, nth bcs i = some bc := fun i hi => ⟨bcs[i]'(hG.ind i hi), by rw [nth_eq]; simp [hG.ind i hi]⟩
   let w0 : Base := ⟨w, X, fun i b z => c.live i ∧ c.β i = b ∧ c.sz i = z, []⟩
   refine calls_of_wp hf hb (evCode_sound (S0 := fun b => c.S b ∧ ¬ c.W b) (w0 := w0) hmix cd _ _ c _ w _ h ⟨⟨⟨rfl, rfl, Nat.le_refl _, fun _ _ _ => rfl, fun _ _ => rfl⟩, fun b hb => ⟨hG.lt b hb.1, fun hx => hb.2 ((hG.X b).1 hx)⟩, ⟨hGW.sub fun b hb => hb.1, fun hg hx => (hGW hg).1 (hG.WS _ ((hG.X _).1 hx))⟩, fun b => ?_, fun b => ?_, hG.inj, fun i hi => ?_, fun i b hi hb => ?_, fun _ _ _ h => h⟩, fun t => ?_, ?_, rfl, fun i b z hp => hG.ind i hp.1⟩ (fun e s' c' a' w' hK hst => ?_) (fun m v w' a' hK hext hr hd => hK.elim))
   ·constructor
    ·intro hs
     by_cases hw : c.W b
     ·exact .inr hw
     ·exact .inl ⟨hs, hw⟩
    ·rintro (hs | hw)
     ·exact hs.1
     ·exact hG.WS b hw
   ·rw [hG.hW b]
    constructor
    ·rintro ⟨i, h1, h2⟩
     obtain ⟨bc, hbc⟩ := hsome i h1
     exact ⟨i, ⟨false, bc⟩, h1, by rw [hnth, hbc]; rfl, rfl, h2⟩
    ·rintro ⟨i, _, h1, _, _, h2⟩; exact ⟨i, h1, h2⟩
   ·obtain ⟨bc, hbc⟩ := hsome i hi
    obtain ⟨arr, ty, q1, _⟩ := hG.box i bc hi hbc
    exact ⟨.inr ((hG.X _).2 ((hG.hW _).2 ⟨i, hi, rfl⟩)), (Array.getElem?_eq_some_iff.1 q1).1, by rw [List.length_map]; exact hG.ind i hi⟩
   ·rw [hnth] at hb
    obtain ⟨bc, hbc⟩ := hsome i hi
    rw [hbc] at hb
    simp only [Option.map_some, Option.some.injEq] at hb
    subst hb
    exact hG.box i bc hi hbc
   ·have := (look_numbered ms args.toList 0 ha t).2 (Nat.zero_le _)
    rw [Nat.sub_zero] at this
    have e : (args ++ Array.replicate (fn.ntmps - args.size) undef).getD t undef = args.toList.getD t undef := by
     simp only [Array.getD_eq_getD_getElem?, Array.getElem?_append, List.getD_eq_getElem?_getD, Array.getElem?_toList]
     split
     ·rfl
     ·rename_i hge
      rw [Array.getElem?_replicate, Array.getElem?_eq_none (by omega : args.size ≤ t)]
      split <;> rfl
    rw [e]
    exact this
   ·simp; omega
   ·have hfin : leGiven bcs.length s'.bx bcs' → a'.defers = [] ∧ ∃ v, (results fn a'.tmps).run P w' = .ok v w' ∧ (Ending.returned v = .returned (.tuple #[]) ∧ ExtB ⟨w, X, fun _ _ _ => False, []⟩ w' ∧ bcs'.length = bcs.length ∧ ∀ i bc, c.live i → nth bcs' i = some bc → BoxRep c w' i ⟨false, bc⟩) := by
     intro hK
     have hx := leGiven_nth _ _ hK
     refine ⟨hst.defers, .tuple #[], ?_, rfl, ⟨hst.mem.ext.os, hst.mem.ext.output, hst.mem.ext.size, hst.mem.ext.block, hst.mem.ext.frz⟩, hlen', fun i bc hi hbc => ?_⟩
     ·rw [results_eq, hres]; simp
     ·obtain ⟨b, q1, q2, q3, q4⟩ := hx i bc hbc
      obtain ⟨p1, p2, p3⟩ := hst.mem.pin i (c.β i) (c.sz i) ⟨hi, rfl, rfl⟩
      obtain ⟨arr, ty, r1, r2, r3, r4⟩ := hst.mem.box i b p1 q1
      rw [p2] at r1
      rw [p3] at r2 r3
      refine ⟨arr, ty, r1, r2, by rw [r3, ← leBC_wd q4], leGiven_rep (fun x hx => ?_) q3 q4 r4⟩
      by_cases hw : c.W x
      ·obtain ⟨j, hj1, hj2⟩ := (hG.hW x).1 hw
       have hjl : j < bcs'.length := by rw [hlen']; exact hG.ind j hj1
       obtain ⟨b2, t1, t2, _⟩ := leGiven_nth _ _ hK j bcs'[j] (by rw [nth_eq]; simp [hjl])
       obtain ⟨u1, u2, _⟩ := hst.mem.pin j (c.β j) (c.sz j) ⟨hj1, rfl, rfl⟩
       exact (hst.mem.hS x).2 (.inr ((hst.mem.hW x).2 ⟨j, b2, u1, t1, t2, u2.trans hj2⟩))
      ·exact (hst.mem.hS x).2 (.inl ⟨hx, hw⟩)
    cases e with
    | normal => exact hfin hK
    | ret => exact hfin hK
    | exit id => exact hK.elim
 ·exact h.elim
theorem evNFn_ok {P : Program} (hmix : P.follows .mixedOrders = true) {f : FuncId} {fn : Func} (hf : P.funcs[f]? = some fn) (spec : List MV → Option (OProp × List Int))
  (hspec : ∀ ms p l, spec ms = some (p, l) → p.holds → ∃ E : Env P, evNFn E fn ms l)
  (S : Nat → Prop) (w : World) (ms : List MV) (args : Array Value) (p : OProp) (l : List Int) (hs : spec ms = some (p, l)) (hp : p.holds) (hS : ∀ b, S b → b < w.heap.size) (hGW : GW S w)
  (ha : RepAll (Ctx.args S) w ms args.toList) : Calls P f args w fun e w' => Ext w w' ∧ ∃ b arr ty cap, e = .returned (.slice (some ⟨b, 0, none⟩) l.length cap) ∧ w.heap.size ≤ b ∧
   w'.heap[b]? = some (.cells arr ty (0, 0)) ∧ arr.size = cap ∧ l.length ≤ cap ∧ ∀ (j : Nat) n, l[j]? = some n → arr[j]? = some (.int .u32 n) := by
 obtain ⟨E, h⟩ := hspec ms p l hs hp
 unfold evNFn at h
 split at h
 ·rename_i c hb
  cases hl : ms.length.ble fn.ntmps with
  | false => rw [hl] at h; exact h.elim
  | true =>
   rw [hl, cond_true] at h
   have hle : ms.length ≤ fn.ntmps := Nat.le_of_ble_eq_true hl
   have hlen := repAll_length _ _ ha
   simp only [Array.length_toList] at hlen
   refine calls_of_wp hf hb (evCode_sound (S0 := S) (w0 := ⟨w, fun _ => False, fun _ _ _ => False, []⟩) hmix c _ _ (ctxOf S [] (fun _ => False) (fun _ => 0) (fun _ => ⟨0, 0⟩)) _ w _ h ⟨⟨⟨rfl, rfl, Nat.le_refl _, fun _ _ _ => rfl, fun _ _ => rfl⟩, fun b hb => ⟨hS b hb, id⟩, ⟨hGW, fun _ h => h⟩, fun b => Iff.rfl, fun b => Iff.rfl, fun i j hi => hi.elim, fun i hi => hi.elim, fun i b hi => hi.elim, fun _ _ _ h => h.elim⟩, fun t => ?_, ?_, rfl, fun _ _ _ h => h.elim⟩ (fun e s' c' a' w' hK hst => ?_) (fun m v w' a' hK _ _ _ => hK.elim))
   ·have hk : Keeps (Ctx.args S) (ctxOf S [] (fun _ => False) (fun _ => 0) (fun _ => ⟨0, 0⟩)) w w :=
     ⟨fun b _ hb => hb.elim id (fun ⟨i, _, hi, _⟩ => hi.elim), fun b _ ⟨i, _, hi, _⟩ => hi.elim, fun _ h => h.elim, fun _ _ _ => rfl, fun _ _ _ => rfl⟩
    have := ((look_numbered ms args.toList 0 ha t).2 (Nat.zero_le _)).keep hk
    rw [Nat.sub_zero] at this
    have e : (args ++ Array.replicate (fn.ntmps - args.size) undef).getD t undef = args.toList.getD t undef := by
     simp only [Array.getD_eq_getD_getElem?, Array.getElem?_append, List.getD_eq_getElem?_getD, Array.getElem?_toList]
     split
     ·rfl
     ·rename_i hge
      rw [Array.getElem?_replicate, Array.getElem?_eq_none (by omega : args.size ≤ t)]
      split <;> rfl
    rw [e]
    exact this
   ·simp; omega
   ·have fin : (match fn.results.toList with | [.tmp t] => ownRes s' l (look t s'.tm) | _ => False) → ∃ v, (results fn a'.tmps).run P w' = .ok v w' ∧ (Ext w w' ∧ ∃ b arr ty cap, Ending.returned v = .returned (.slice (some ⟨b, 0, none⟩) l.length cap) ∧ w.heap.size ≤ b ∧
      w'.heap[b]? = some (.cells arr ty (0, 0)) ∧ arr.size = cap ∧ l.length ≤ cap ∧ ∀ (j : Nat) n, l[j]? = some n → arr[j]? = some (.int .u32 n)) := by
     intro hK
     split at hK
     ·rename_i t hres
      have hr := hst.tm t
      unfold ownRes at hK
      split at hK
      ·rename_i i off len hlk
       rw [hlk] at hr
       split at hK
       ·rename_i b hb
        split at hK
        ·rename_i k l' hbc
         cases hc : (!b.fz && decide (k = .u32)) with
         | false => rw [hc] at hK; exact hK.elim
         | true =>
          rw [hc, cond_true] at hK
          obtain ⟨rfl, hll, hpos, htk⟩ := hK
          simp only [Bool.and_eq_true, decide_eq_true_eq] at hc
          obtain ⟨_, rfl⟩ := hc
          obtain ⟨a, cap, h1, h2, h3⟩ := rep_cell hr rfl (by simp) rfl
          simp only [List.cons.injEq, and_true] at h1
          rcases h3 with ⟨rfl, h5, h6⟩ | ⟨_, h5, _⟩
          ·obtain ⟨arr, ty, q1, q2, q3, q4⟩ := hst.mem.box i b h5 hb
           rw [hbc] at q3 q4
           have hwd : (c'.sz i).wd = 1 := q3
           rw [hwd] at h6
           have hfr := (hst.mem.fresh i h5).1
           refine ⟨a'.tmps.getD t undef, ?_, hst.mem.ext.plain, c'.β i, arr, ty, cap, by rw [h1, hll], hfr.elim id (fun h => h.elim), q1, by rw [q2]; omega, by omega, fun j n hj => ?_⟩
           ·rw [results_eq, Array.mapM_eq_mapM_toList, hres]
            simp [resF]
           ·refine q4 j n ?_
            rw [← htk] at hj
            rw [List.getElem?_take] at hj
            split at hj
            ·exact hj
            ·simp at hj
          ·omega
        ·exact hK.elim
       ·exact hK.elim
      ·exact hK.elim
     ·exact hK.elim
    cases e with
    | normal =>
     obtain ⟨v, h1, h2⟩ := fin hK
     exact ⟨hst.defers, v, h1, h2⟩
    | ret =>
     obtain ⟨v, h1, h2⟩ := fin hK
     exact ⟨hst.defers, v, h1, h2⟩
    | exit id => exact hK.elim
 ·exact h.elim
theorem fn_ok_le {P : Program} (hmix : P.follows .mixedOrders = true) {f : FuncId} {fn : Func} (hf : P.funcs[f]? = some fn) (spec : FSpec)
  (hspec : ∀ ms p r, spec ms = some (p, r) → p.holds → ∃ ms', leV.leVs 0 ms ms' ∧ ∃ E : Env P, evFn E fn ms' r.sat)
  (S : Nat → Prop) (w : World) (ms : List MV) (args : Array Value) (p : OProp) (r : MRes) (hs : spec ms = some (p, r)) (hp : p.holds) (hS : ∀ b, S b → b < w.heap.size) (hGW : GW S w)
  (ha : RepAll (Ctx.args S) w ms args.toList) : Calls P f args w fun e w' => Ext w w' ∧ r.holds (Ctx.res S) w' e := by
 obtain ⟨ms', hle, E, hE⟩ := hspec ms p r hs hp
 have k : Cuts 0 (Ctx.args S) (Ctx.args S) := ⟨fun _ h => h, fun _ h => h, fun i hi => by omega⟩
 exact fn_ok hmix hf (fun m => some (some (∃ E : Env P, evFn E fn m r.sat), r)) (fun m p2 r2 h2 hp2 => by
  simp only [Option.some.injEq, Prod.mk.injEq] at h2
  obtain ⟨rfl, rfl⟩ := h2
  exact hp2) S w ms' args _ r rfl ⟨E, hE⟩ hS hGW (leVs_all k ms ms' _ hle ha)
end Go.Proofs.YtnfmjlhkknndhaaGreat
/-
 The evaluator is right, part 16: what the arguments are known to be.
-/
namespace Go.Proofs.YtnfmjlhkknndhaaGreat
open Go Go.RowKit
mutual
def MV.facts : MV → Prop
 | .big z n => z.natAbs < 2 ^ n
 | .st ms => factsL ms
 | .ref m => m.facts
 | .fn _ caps => factsL caps
 | _ => True
def factsL : List MV → Prop
 | [] => True
 | m :: ms => m.facts ∧ factsL ms
end
mutual
theorem RepC.facts {c : Ctx} {w : World} : ∀ (m : MV) (vs : List Value), RepC c w m vs → m.facts
 | .big z n, vs, h => by obtain ⟨s, _, h2, _⟩ := h; exact h2
 | .st ms, vs, h => by simp only [MV.facts]; exact RepCs.facts ms vs h
 | .ref m, vs, h => by obtain ⟨b, off, cs, _, _, h3, _⟩ := h; simp only [MV.facts]; exact RepC.facts m cs h3
 | .fn f caps, vs, h => by obtain ⟨cs, _, h2, _⟩ := h; simp only [MV.facts]; exact RepCs.facts caps cs h2
 | .any, _, _ => trivial
 | .junk _, _, _ => trivial
 | .bool _, _, _ => trivial
 | .int _ _, _, _ => trivial
 | .val _, _, _ => trivial
 | .ws _, _, _ => trivial
 | .sl _ _ _, _, _ => trivial
 | .bp _ _, _, _ => trivial
 | .br _ _ _, _, _ => trivial
 | .bs _ _ _, _, _ => trivial
 | .tup _, _, _ => trivial
 | .iface _ _, _, _ => trivial
 | .emp, _, _ => trivial
theorem RepCs.facts {c : Ctx} {w : World} : ∀ (ms : List MV) (vs : List Value), RepCs c w ms vs → factsL ms
 | [], _, _ => trivial
 | m :: ms, vs, h => by
  obtain ⟨x, y, _, h2, h3⟩ := h
  exact ⟨RepC.facts m x h2, RepCs.facts ms y h3⟩
end
theorem RepAll.facts {c : Ctx} {w : World} : ∀ (ms : List MV) (vs : List Value), RepAll c w ms vs → factsL ms
 | [], _, _ => trivial
 | m :: ms, vs, h => by
  obtain ⟨v, r, _, h2, h3⟩ := h
  refine ⟨?_, RepAll.facts ms r h3⟩
  by_cases hn : m = .any
  ·subst hn; trivial
  ·cases hg : m.isAgg with
   | true => rw [rep1_agg hg] at h2; obtain ⟨cs, _, q⟩ := h2; exact RepC.facts m _ q
   | false => rw [rep1_cell hg hn] at h2; exact RepC.facts m _ h2
theorem fn_ok_facts {P : Program} (hmix : P.follows .mixedOrders = true) {f : FuncId} {fn : Func} (hf : P.funcs[f]? = some fn) (spec : FSpec)
  (hspec : ∀ ms p r, spec ms = some (p, r) → p.holds → factsL ms → ∃ E : Env P, evFn E fn ms r.sat)
  (S : Nat → Prop) (w : World) (ms : List MV) (args : Array Value) (p : OProp) (r : MRes) (hs : spec ms = some (p, r)) (hp : p.holds) (hS : ∀ b, S b → b < w.heap.size) (hG : GW S w)
  (ha : RepAll (Ctx.args S) w ms args.toList) : Calls P f args w fun e w' => Ext w w' ∧ r.holds (Ctx.res S) w' e :=
 fn_ok hmix hf (fun m => some (some (∃ E : Env P, evFn E fn m r.sat), r)) (fun m p2 r2 h2 hp2 => by
  simp only [Option.some.injEq, Prod.mk.injEq] at h2
  obtain ⟨rfl, rfl⟩ := h2
  exact hp2) S w ms args _ r rfl (hspec ms p r hs hp (RepAll.facts ms _ ha)) hS hG ha
end Go.Proofs.YtnfmjlhkknndhaaGreat
/-
 The evaluator is right, part 17: the state at the start of a call; the same state seen by another frame.
-/
namespace Go.Proofs.YtnfmjlhkknndhaaGreat
open Go Go.RowKit
abbrev base0 (w : World) : Base := ⟨w, fun _ => False, fun _ _ _ => False, []⟩
theorem St.start {S : Nat → Prop} {w : World} {ms : List MV} {args : Array Value} {n : Nat} (hS : ∀ b, S b → b < w.heap.size) (hG : GW S w) (ha : RepAll (Ctx.args S) w ms args.toList) (hle : ms.length ≤ n) :
  St S (base0 w) ⟨n, numbered 0 ms, [], 0⟩ (ctxOf S [] (fun _ => False) (fun _ => 0) (fun _ => ⟨0, 0⟩)) { tmps := args ++ Array.replicate (n - args.size) undef, defers := [] } w := by
 have hlen := repAll_length _ _ ha
 simp only [Array.length_toList] at hlen
 refine ⟨⟨⟨rfl, rfl, Nat.le_refl _, fun _ _ _ => rfl, fun _ _ => rfl⟩, fun b hb => ⟨hS b hb, id⟩, ⟨hG, fun _ h => h⟩, fun b => Iff.rfl, fun b => Iff.rfl, fun i j hi => hi.elim, fun i hi => hi.elim, fun i b hi => hi.elim, fun _ _ _ h => h.elim⟩, fun t => ?_, ?_, rfl, fun _ _ _ h => h.elim⟩
 ·have hk : Keeps (Ctx.args S) (ctxOf S [] (fun _ => False) (fun _ => 0) (fun _ => ⟨0, 0⟩)) w w :=
   ⟨fun b _ hb => hb.elim id (fun ⟨i, _, hi, _⟩ => hi.elim), fun b _ ⟨i, _, hi, _⟩ => hi.elim, fun _ h => h.elim, fun _ _ _ => rfl, fun _ _ _ => rfl⟩
  have := ((look_numbered ms args.toList 0 ha t).2 (Nat.zero_le _)).keep hk
  rw [Nat.sub_zero] at this
  have e : (args ++ Array.replicate (n - args.size) undef).getD t undef = args.toList.getD t undef := by
   simp only [Array.getD_eq_getD_getElem?, Array.getElem?_append, List.getD_eq_getElem?_getD, Array.getElem?_toList]
   split
   ·rfl
   ·rename_i hge
    rw [Array.getElem?_replicate, Array.getElem?_eq_none (by omega : args.size ≤ t)]
    split <;> rfl
  rw [e]
  exact this
 ·simp; omega
theorem Mem.rebase {S0 : Nat → Prop} {w0 : Base} {w : World} {bx : List Box} {c : Ctx} (h : Mem S0 w0 bx c w) (pin : Nat → Nat → Sz → Prop) (df : List Deferred) (hp : ∀ i b z, pin i b z → c.live i ∧ c.β i = b ∧ c.sz i = z) :
  Mem S0 ⟨w0.w, w0.X, pin, df⟩ bx c w :=
 ⟨⟨h.ext.os, h.ext.output, h.ext.size, h.ext.block, h.ext.frz⟩, h.S0lt, h.gl, h.hS, h.hW, h.inj, h.fresh, h.box, hp⟩
theorem St.defer {S0 : Nat → Prop} {w0 : Base} {w : World} {s : MS} {c : Ctx} {a : Act} (h : St S0 w0 s c a w) (df : List Deferred) : St S0 ⟨w0.w, w0.X, w0.pin, df⟩ s c { a with defers := df } w :=
 ⟨h.mem.rebase w0.pin df h.mem.pin, h.tm, h.size, rfl, h.np⟩
theorem ExtB.free {b : Base} {w' : World} (h : ExtB b w') (hX : ∀ k, ¬ b.X k) : Ext b.w w' := ⟨h.os, h.output, h.size, fun k hk => h.block k hk (hX k), h.frz⟩
theorem St.results {P : Program} {S0 : Nat → Prop} {w0 : Base} {w : World} {s : MS} {c : Ctx} {a : Act} (h : St S0 w0 s c a w) {fn : Func} {l : List MV} (he : evResults P s fn.results.toList = some (none, l)) :
  ∃ v, (results fn a.tmps).run P w = .ok v w ∧ Rep (Ctx.res S0) w (oneOrTup l) v := by
 obtain ⟨vs, hvs, hrs⟩ := evResults_ok h _ none l he trivial
 refine ⟨_, ?_, oneOrTup_rep hrs⟩
 rw [results_eq, Array.mapM_eq_mapM_toList]
 simp only [Sem.run_bind, Sem.run_map, hvs, Result.andThen, Sem.run_pure]
theorem repcs_all {c : Ctx} {w : World} : ∀ (ms : List MV) (cs : List Value), RepCs c w ms cs → (∀ m ∈ ms, m.isAgg = false) → RepAll c w ms cs
 | [], cs, h, _ => h
 | m :: ms, cs, h, hg => by
  obtain ⟨a, b, rfl, ha, hb⟩ := h
  have hg0 := hg m (by simp)
  have hlen := RepC.len _ _ ha
  have hnt : ∀ ms, m ≠ .tup ms := by intro ms e; subst e; exact ha.elim
  rw [width_cell hg0 hnt] at hlen
  obtain ⟨v, rfl⟩ := List.length_eq_one_iff.1 hlen
  refine ⟨v, b, rfl, ?_, repcs_all ms b hb fun m hm => hg m (by simp [hm])⟩
  by_cases hn : m = .any
  ·subst hn; trivial
  ·exact (rep1_cell hg0 hn).2 ha
end Go.Proofs.YtnfmjlhkknndhaaGreat
/-
 Plain facts on lists of words and the numbers they stand for.
-/
namespace Go.Proofs.YtnfmjlhkknndhaaGreat
open Go Go.RowKit
def wv : List Int → Int
 | [] => 0
 | x :: r => x + 4294967296 * wv r
def Wd (l : List Int) : Prop := ∀ x ∈ l, 0 ≤ x ∧ x < 4294967296
theorem Wd.tail {x : Int} {l : List Int} (h : Wd (x :: l)) : Wd l := fun y hy => h y (by simp [hy])
theorem Wd.head {x : Int} {l : List Int} (h : Wd (x :: l)) : 0 ≤ x ∧ x < 4294967296 := h x (by simp)
theorem Wd.cons {x : Int} {l : List Int} (h : 0 ≤ x ∧ x < 4294967296) (h2 : Wd l) : Wd (x :: l) := fun y hy => by
 rcases List.mem_cons.1 hy with e | e
 ·subst e; exact h
 ·exact h2 y e
theorem Wd.nil : Wd [] := fun _ h => by simp at h
theorem Wd.append {a b : List Int} (h : Wd a) (k : Wd b) : Wd (a ++ b) := fun x hx => (List.mem_append.1 hx).elim (h x) (k x)
theorem Wd.take {l : List Int} (h : Wd l) (n : Nat) : Wd (l.take n) := fun x hx => h x (List.mem_of_mem_take hx)
theorem Wd.drop {l : List Int} (h : Wd l) (n : Nat) : Wd (l.drop n) := fun x hx => h x (List.mem_of_mem_drop hx)
theorem Wd.set {l : List Int} (h : Wd l) (n : Nat) {x : Int} (hx : 0 ≤ x ∧ x < 4294967296) : Wd (l.set n x) := fun y hy => by
 rcases List.mem_or_eq_of_mem_set hy with e | e
 ·exact h y e
 ·subst e; exact hx
theorem Wd.replicate (n : Nat) : Wd (List.replicate n 0) := fun x hx => by
 obtain ⟨_, rfl⟩ := List.mem_replicate.1 hx
 omega
theorem Wd.getD {l : List Int} (h : Wd l) (n : Nat) : 0 ≤ l.getD n 0 ∧ l.getD n 0 < 4294967296 := by
 rcases Nat.lt_or_ge n l.length with hl | hl
 ·rw [show l.getD n 0 = l[n] by simp [hl]]
  exact h _ (List.getElem_mem _)
 ·rw [show l.getD n 0 = 0 by simp [List.getElem?_eq_none hl]]
  omega
theorem wv_nonneg : ∀ {l : List Int}, Wd l → 0 ≤ wv l
 | [], _ => Int.le_refl _
 | x :: r, h => by
  have := wv_nonneg h.tail
  have := h.head
  simp only [wv]; omega
theorem wv_lt : ∀ {l : List Int}, Wd l → wv l < 4294967296 ^ l.length
 | [], _ => by simp [wv]
 | x :: r, h => by
  have := wv_lt h.tail
  have := h.head
  simp only [wv, List.length_cons, Int.pow_succ]; omega
theorem wv_append : ∀ (a b : List Int), wv (a ++ b) = wv a + 4294967296 ^ a.length * wv b
 | [], b => by simp [wv]
 | x :: r, b => by
  simp only [List.cons_append, wv, wv_append r b, List.length_cons, Int.pow_succ]
  generalize (4294967296 : Int) ^ r.length = p
  grind
theorem wv_replicate (n : Nat) : wv (List.replicate n 0) = 0 := by
 induction n with
 | zero => rfl
 | succ n ih => simp [List.replicate_succ, wv, ih]
theorem limbs_pos {n : Nat} (h : n ≠ 0) : limbs n = ((n % 4294967296 : Nat) : Int) :: limbs (n / 4294967296) := by
 rw [limbs]; simp [h]
theorem limbs_wd (n : Nat) : Wd (limbs n) := by
 induction n using Nat.strongRecOn with
 | ind n ih =>
  by_cases h : n = 0
  ·subst h; rw [limbs_zero]; exact Wd.nil
  ·rw [limbs_pos h]
   exact Wd.cons (by omega) (ih _ (by omega))
theorem wv_limbs (n : Nat) : wv (limbs n) = n := by
 induction n using Nat.strongRecOn with
 | ind n ih =>
  by_cases h : n = 0
  ·subst h; rw [limbs_zero]; rfl
  ·rw [limbs_pos h, wv, ih _ (by omega)]
   omega
theorem limbs_eq_nil {n : Nat} : limbs n = [] ↔ n = 0 := by
 constructor
 ·intro h
  by_cases e : n = 0
  ·exact e
  ·rw [limbs_pos e] at h; simp at h
 ·intro h; subst h; exact limbs_zero
theorem limbs_wv : ∀ {l : List Int}, Wd l → (∀ h : l ≠ [], l.getLast h ≠ 0) → limbs (wv l).toNat = l
 | [], _, _ => by simp [wv, limbs_zero]
 | x :: r, h, hl => by
  have h0 := wv_nonneg h.tail
  have h1 := h.head
  have ih : limbs (wv r).toNat = r := limbs_wv h.tail (fun hr => by
   have := hl (by simp)
   rwa [List.getLast_cons hr] at this)
  have hne : (wv (x :: r)).toNat ≠ 0 := by
   intro e
   have e : wv (x :: r) = 0 := by have := wv_nonneg h; omega
   simp only [wv] at e
   have hx : x = 0 := by omega
   have hr : wv r = 0 := by omega
   rw [hr] at ih
   rw [show (0 : Int).toNat = 0 from rfl, limbs_zero] at ih
   subst ih
   exact hl (by simp) (by simpa using hx)
  rw [limbs_pos hne]
  have e1 : (((wv (x :: r)).toNat % 4294967296 : Nat) : Int) = x := by simp only [wv]; omega
  have e2 : (wv (x :: r)).toNat / 4294967296 = (wv r).toNat := by simp only [wv]; omega
  rw [e1, e2, ih]
theorem limbs_last (n : Nat) (h : limbs n ≠ []) : (limbs n).getLast h ≠ 0 := by
 induction n using Nat.strongRecOn with
 | ind n ih =>
  have e : n ≠ 0 := fun e => h (limbs_eq_nil.2 e)
  by_cases e2 : n / 4294967296 = 0
  ·have : limbs n = [((n % 4294967296 : Nat) : Int)] := by rw [limbs_pos e, e2, limbs_zero]
   have h2 : (limbs n).getLast h = ((n % 4294967296 : Nat) : Int) := by
    simp only [this, List.getLast_singleton]
   rw [h2]; omega
  ·have h3 : limbs (n / 4294967296) ≠ [] := fun e => e2 (limbs_eq_nil.1 e)
   have h2 : (limbs n).getLast h = (limbs (n / 4294967296)).getLast h3 := by
    have := limbs_pos e
    simp only [this, List.getLast_cons h3]
   rw [h2]
   exact ih _ (by omega) h3
theorem pow_words (k : Nat) : (4294967296 : Nat) ^ k = 2 ^ (32 * k) := by rw [Nat.pow_mul]
theorem limbs_len_le {n k : Nat} (h : n < 4294967296 ^ k) : (limbs n).length ≤ k := by
 induction k generalizing n with
 | zero =>
  have : n = 0 := by simpa using h
  subst this; rw [limbs_zero]; simp
 | succ k ih =>
  by_cases e : n = 0
  ·subst e; rw [limbs_zero]; simp
  ·rw [limbs_pos e, List.length_cons]
   have := ih (n := n / 4294967296) (by rw [Nat.div_lt_iff_lt_mul (by omega)]; rwa [Nat.pow_succ] at h)
   omega
theorem limbs_lt (n : Nat) : n < 4294967296 ^ (limbs n).length := by
 have h := wv_lt (limbs_wd n)
 rw [wv_limbs] at h
 have e : ((4294967296 ^ (limbs n).length : Nat) : Int) = (4294967296 : Int) ^ (limbs n).length := by simp [Int.natCast_pow]
 omega
theorem limbs_len_bits {n b : Nat} (h : n < 2 ^ b) : (limbs n).length ≤ b / 32 + 1 := by
 refine limbs_len_le (Nat.lt_of_lt_of_le h ?_)
 rw [pow_words]
 exact Nat.pow_le_pow_right (by omega) (by omega)
def Cn (l : List Int) : Prop := limbs (wv l).toNat = l
theorem Cn.wd {l : List Int} (h : Cn l) : Wd l := by unfold Cn at h; rw [← h]; exact limbs_wd _
theorem cn_limbs (n : Nat) : Cn (limbs n) := by unfold Cn; rw [wv_limbs]; simp
theorem Cn.pos {l : List Int} (h : Cn l) : 0 ≤ wv l := wv_nonneg h.wd
def bl (n : Nat) : Nat := if n = 0 then 0 else Nat.log2 n + 1
theorem bl_iff {n k : Nat} (h : 2 ^ k ≤ n) (h2 : n < 2 ^ (k + 1)) : bl n = k + 1 := by
 have : n ≠ 0 := by have := Nat.two_pow_pos k; omega
 unfold bl
 rw [if_neg this]
 congr 1
 exact (Nat.log2_eq_iff this).2 ⟨h, h2⟩
theorem bl_lt (n : Nat) : n < 2 ^ bl n := by
 unfold bl
 split
 ·subst_vars; decide
 ·exact Nat.lt_log2_self
theorem bl_le {n : Nat} (h : n ≠ 0) : 2 ^ (bl n - 1) ≤ n := by
 unfold bl
 rw [if_neg h]
 exact Nat.log2_self_le h
theorem bl_eq {n k : Nat} (h : n < 2 ^ k) (h2 : k ≠ 0 → 2 ^ (k - 1) ≤ n) : bl n = k := by
 rcases Nat.eq_zero_or_pos k with e | e
 ·subst e; have : n = 0 := by simpa using h
  subst this; rfl
 ·have := bl_iff (h2 (by omega)) (by rwa [show k - 1 + 1 = k by omega])
  omega
theorem bl_mul {n k : Nat} (h : n ≠ 0) (r : Nat) (hr : r < 2 ^ k) : bl (n * 2 ^ k + r) = bl n + k := by
 have h1 := bl_lt n
 have h2 := bl_le h
 have h0 : bl n ≠ 0 := by unfold bl; rw [if_neg h]; omega
 refine bl_eq ?_ fun _ => ?_
 ·rw [Nat.pow_add]
  have : (n + 1) * 2 ^ k ≤ 2 ^ bl n * 2 ^ k := Nat.mul_le_mul_right _ h1
  rw [Nat.add_mul] at this
  omega
 ·rw [show bl n + k - 1 = (bl n - 1) + k by omega, Nat.pow_add]
  have : 2 ^ (bl n - 1) * 2 ^ k ≤ n * 2 ^ k := Nat.mul_le_mul_right _ h2
  omega
theorem bl_zero : bl 0 = 0 := rfl
theorem bl_le_of {n k : Nat} (h : n < 2 ^ k) : bl n ≤ k := by
 by_cases e : n = 0
 ·subst e; rw [bl_zero]; omega
 ·have := bl_le e
  have h2 : 2 ^ (bl n - 1) < 2 ^ k := by omega
  have := (Nat.pow_lt_pow_iff_right (by omega : 1 < 2)).1 h2
  omega
theorem wv_split (l : List Int) (k : Nat) (h : k < l.length) : wv l = wv (l.take k) + 4294967296 ^ k * (l.getD k 0 + 4294967296 * wv (l.drop (k + 1))) := by
 have e : l = l.take k ++ (l.getD k 0 :: l.drop (k + 1)) := by
  rw [show l.getD k 0 = l[k] by simp [h], ← List.drop_eq_getElem_cons h, List.take_append_drop]
 have e2 := wv_append (l.take k) (l.getD k 0 :: l.drop (k + 1))
 rw [← e] at e2
 rw [e2, List.length_take, Nat.min_eq_left (by omega)]
 rfl
theorem Cn.top {l : List Int} (h : Cn l) (hne : l ≠ []) : 4294967296 ^ (l.length - 1) ≤ wv l := by
 have hp : 0 < l.length := List.length_pos_iff.2 hne
 have h1 := wv_split l (l.length - 1) (by omega)
 have hd : l.drop (l.length - 1 + 1) = [] := List.drop_eq_nil_of_le (by omega)
 rw [hd] at h1
 have h2 : l.getD (l.length - 1) 0 ≠ 0 := by
  have := limbs_last (wv l).toNat (by unfold Cn at h; rw [h]; exact hne)
  have e : ∀ (m : List Int) (hm : m ≠ []), m.getLast hm = m.getD (m.length - 1) 0 := fun m hm => by
   have hl : m.length - 1 < m.length := by have := List.length_pos_iff.2 hm; omega
   rw [List.getLast_eq_getElem, List.getD_eq_getElem?_getD, List.getElem?_eq_getElem hl, Option.getD_some]
  rw [e] at this
  unfold Cn at h
  rwa [h] at this
 have h3 := h.wd.getD (l.length - 1)
 have h4 := wv_nonneg (h.wd.take (l.length - 1))
 have h5 : (0 : Int) ≤ 4294967296 ^ (l.length - 1) := Int.pow_nonneg (by omega)
 simp only [wv] at h1
 have h6 : (4294967296 : Int) ^ (l.length - 1) * 1 ≤ 4294967296 ^ (l.length - 1) * (l.getD (l.length - 1) 0 + 4294967296 * 0) := Int.mul_le_mul_of_nonneg_left (by omega) h5
 omega
theorem wv_lt_of_len {a b : List Int} (ha : Wd a) (hb : Cn b) (h : a.length < b.length) : wv a < wv b := by
 have h1 := wv_lt ha
 have h2 := hb.top (by intro e; subst e; simp at h)
 have h3 : (4294967296 : Int) ^ a.length ≤ 4294967296 ^ (b.length - 1) := by
  have := Nat.pow_le_pow_right (show 0 < 4294967296 by omega) (show a.length ≤ b.length - 1 by omega)
  have e : ∀ k : Nat, ((4294967296 ^ k : Nat) : Int) = (4294967296 : Int) ^ k := fun k => by simp [Int.natCast_pow]
  rw [← e, ← e]
  exact Int.ofNat_le.2 this
 omega
theorem take_set {l : List Int} {i : Nat} (v : Int) (h : i < l.length) : (l.set i v).take (i + 1) = l.take i ++ [v] := by
 rw [List.take_add_one]
 simp [h, List.take_set_of_le]
theorem drop_set {l : List Int} {i : Nat} (v : Int) : (l.set i v).drop (i + 1) = l.drop (i + 1) := by
 rw [List.drop_set_of_lt (by omega)]
theorem wv_take_succ (l : List Int) (k : Nat) : wv (l.take (k + 1)) = wv (l.take k) + 4294967296 ^ k * l.getD k 0 := by
 rcases Nat.lt_or_ge k l.length with h | h
 ·rw [List.take_add_one, wv_append, List.length_take, Nat.min_eq_left (by omega)]
  simp [h, wv]
 ·rw [List.take_of_length_le (by omega), List.take_of_length_le (by omega)]
  simp [List.getElem?_eq_none h]
theorem wv_take_set {l : List Int} {i : Nat} (v : Int) (h : i < l.length) : wv ((l.set i v).take (i + 1)) = wv (l.take i) + 4294967296 ^ i * v := by
 rw [take_set v h, wv_append, List.length_take, Nat.min_eq_left (by omega)]
 simp [wv]
theorem wv_take_all {l : List Int} {k : Nat} (h : l.length ≤ k) : wv (l.take k) = wv l := by rw [List.take_of_length_le h]
theorem getD_of_drop {l m : List Int} {k : Nat} (h : l.drop k = m.drop k) (j : Nat) (hj : k ≤ j) : l.getD j 0 = m.getD j 0 := by
 have : (l.drop k)[j - k]? = (m.drop k)[j - k]? := by rw [h]
 rw [List.getElem?_drop, List.getElem?_drop, show k + (j - k) = j by omega] at this
 simp [List.getD_eq_getElem?_getD, this]
theorem drop_of_drop {l m : List Int} {k : Nat} (h : l.drop k = m.drop k) : l.drop (k + 1) = m.drop (k + 1) := by
 have : (l.drop k).drop 1 = (m.drop k).drop 1 := by rw [h]
 simpa [List.drop_drop] using this
theorem carry_step (P t : Int) : P * t = P * (t % 4294967296) + P * 4294967296 * (t / 4294967296) := by
 rw [Int.mul_assoc, ← Int.mul_add]
 congr 1; omega
theorem ite_share {c : Prop} [Decidable c] {p q r p' q' r' s : Prop} (h1 : c → p ∧ q ∧ r) (h2 : ¬ c → p' ∧ q' ∧ r') (hs : s) : if c then p ∧ q ∧ r ∧ s else p' ∧ q' ∧ r' ∧ s := by
 split
 ·rename_i h; obtain ⟨x, y, z⟩ := h1 h; exact ⟨x, y, z, hs⟩
 ·rename_i h; obtain ⟨x, y, z⟩ := h2 h; exact ⟨x, y, z, hs⟩
abbrev LeB (a b : Int) (n m : Nat) : Prop := a = b ∧ (n ≤ m ∨ Int.natAbs a < (2 : Nat) ^ m)
abbrev Fit (z : Int) : Prop := (-9223372036854775808 : Int) ≤ z ∧ z ≤ (9223372036854775807 : Int)
end Go.Proofs.YtnfmjlhkknndhaaGreat
/-
 Contracts of functions: words and comparisons.
-/
namespace Go.Proofs.YtnfmjlhkknndhaaGreat
open Go Go.RowKit
theorem mix : Tryz.prog.follows .mixedOrders = true := by kernel_rfl
def env (Γ : List (Ctr Tryz.prog)) (ann : Nat → MS → Option LoopAnn) : Env Tryz.prog := ⟨Γ, [], 37, ann, fun _ => [], fun _ _ => none⟩
def Good (fn : Func) (s : FSpec) : Prop := ∀ ms p r, s ms = some (p, r) → p.holds → ∃ E : Env Tryz.prog, evFn E fn ms r.sat
def noAnn : Nat → MS → Option LoopAnn := fun _ _ => none
/-! ### nat.trim -/
def s_trim : FSpec
 | [.ws l] => some (some (Wd l ∧ l.length ≤ 1099511627776), .ret (.ws (limbs (wv l).toNat)))
 | _ => none
def a_trim (l : List Int) : Nat → MS → Option LoopAnn
 | 1, _ => some (.inv Nat (fun k => k ≤ l.length ∧ wv (l.take k) = wv l) (fun k => ⟨21, [(0, .ws (l.take k))], [], 0⟩) id)
 | _, _ => none
theorem vc_trim (l : List Int) : ((∃ i, (i ≤ List.length l ∧ wv (List.take i l) = wv l) ∧ (l = List.take i l ∧ True) ∧ True) ∧ ∀ (i : Nat), i ≤ List.length l ∧ wv (List.take i l) = wv l → bif decide ((↑(List.length (List.take i l)) : Int) > 0) then ((0 : Int) ≤ IntKind.wrap IntKind.i64 ((↑(List.length (List.take i l)) : Int) - 1) ∧ IntKind.wrap IntKind.i64 ((↑(List.length (List.take i l)) : Int) - 1) < (↑(List.length (List.take i l)) : Int)) ∧ bif List.getD (List.take i l) (Int.toNat (IntKind.wrap IntKind.i64 ((↑(List.length (List.take i l)) : Int) - 1))) (0 : Int) == 0 then ((0 : Int) ≤ IntKind.wrap IntKind.i64 ((↑(List.length (List.take i l)) : Int) - 1) ∧ IntKind.wrap IntKind.i64 ((↑(List.length (List.take i l)) : Int) - 1) ≤ (↑(List.length (List.take i l)) : Int)) ∧ ∃ j, (j ≤ List.length l ∧ wv (List.take j l) = wv l) ∧ ((List.take (Int.toNat (IntKind.wrap IntKind.i64 ((↑(List.length (List.take i l)) : Int) - 1))) (List.take i l) = List.take j l ∧ True) ∧ True) ∧ id j < id i else List.take i l = limbs (Int.toNat (wv l)) else List.take i l = limbs (Int.toNat (wv l))) = evFn (env [] (a_trim l)) Tryz.f122 [.ws l] (MRes.sat (.ret (.ws (limbs (wv l).toNat)))) := by kernel_rfl
theorem i64w {x : Int} (h : -9223372036854775808 ≤ x) (k : x ≤ 9223372036854775807) : IntKind.i64.wrap x = x := IntWalk.i64_in x ⟨h, k⟩
theorem take_snoc {l : List Int} {i : Nat} (h : i < l.length) : l.take (i + 1) = l.take i ++ [l.getD i 0] := by
 rw [List.take_add_one]
 simp [h]
theorem p_trim : Good Tryz.f122 s_trim := by
 intro ms p r h hp
 unfold s_trim at h
 split at h
 ·rename_i l
  simp only [Option.some.injEq, Prod.mk.injEq] at h
  obtain ⟨rfl, rfl⟩ := h
  obtain ⟨hw, hlen⟩ : Wd l ∧ l.length ≤ 1099511627776 := hp
  refine ⟨_, cast (vc_trim l) ⟨⟨l.length, ⟨Nat.le_refl _, by rw [List.take_length]⟩, ⟨by rw [List.take_length], trivial⟩, trivial⟩, fun i ⟨hi, hv⟩ => ?_⟩⟩
  have hl : (l.take i).length = i := by simp [hi]
  have hlim : i = 0 ∨ (l.take i).getLast? ≠ some 0 → l.take i = limbs (wv l).toNat := by
   intro h
   rw [← hv]
   refine (limbs_wv (hw.take i) fun hne e => ?_).symm
   rcases h with h | h
   ·subst h; exact hne rfl
   ·exact h (by rw [List.getLast?_eq_some_getLast hne, e])
  rw [hl, Bool.cond_decide]
  split
  ·rename_i h0
   have hi1 : i - 1 < l.length := by omega
   have e1 : IntKind.i64.wrap ((i : Int) - 1) = i - 1 := i64w (by omega) (by omega)
   have e2 : ((i : Int) - 1).toNat = i - 1 := by omega
   rw [e1, e2]
   have hs : l.take i = l.take (i - 1) ++ [l.getD (i - 1) 0] := by
    have := take_snoc hi1
    rwa [show i - 1 + 1 = i by omega] at this
   have hg : (l.take i).getD (i - 1) 0 = l.getD (i - 1) 0 := by
    simp [show i - 1 < i by omega]
   rw [hg]
   refine ⟨by omega, ?_⟩
   cases hz : (l.getD (i - 1) 0 == 0) with
   | true =>
    simp only [beq_iff_eq] at hz
    rw [hz] at hs
    refine ⟨by omega, i - 1, ⟨by omega, ?_⟩, ⟨⟨?_, trivial⟩, trivial⟩, by show i - 1 < i; omega⟩
    ·rw [← hv, hs, wv_append]; simp [wv]
    ·rw [List.take_take]; congr 1; omega
   | false =>
    rw [cond_false]
    refine hlim (.inr ?_)
    rw [hs]
    simpa using hz
  ·exact hlim (.inl (by omega))
 ·simp at h
def c_trim : Ctr Tryz.prog := ⟨122, s_trim, fun args w => Tryz.call122 args w, fn_ok mix Tryz.func122 s_trim p_trim⟩
theorem u32w (x : Int) : IntKind.u32.wrap x = x % 4294967296 := by simp [IntKind.wrap, IntKind.bits, IntKind.signed]
theorem u64w (x : Int) : IntKind.u64.wrap x = x % 18446744073709551616 := by simp [IntKind.wrap, IntKind.bits, IntKind.signed]
theorem u8w (x : Int) : IntKind.u8.wrap x = x % 256 := by simp [IntKind.wrap, IntKind.bits, IntKind.signed]
/-! ### math/bits.Add32, Sub32 -/
def s_add32 : FSpec
 | [.int .u32 x, .int .u32 y, .int .u32 c] => some (some (0 ≤ x ∧ x < 4294967296 ∧ 0 ≤ y ∧ y < 4294967296 ∧ 0 ≤ c ∧ c ≤ 1), .ret (.tup [.int .u32 ((x + y + c) % 4294967296), .int .u32 ((x + y + c) / 4294967296)]))
 | _ => none
theorem vc_add32 (x y c : Int) : ((0 : Int) ≤ 32 ∧ IntKind.wrap IntKind.u32 (IntKind.wrap IntKind.u64 (IntKind.wrap IntKind.u64 (IntKind.wrap IntKind.u64 x + IntKind.wrap IntKind.u64 y) + IntKind.wrap IntKind.u64 c)) = (x + y + c) % 4294967296 ∧ IntKind.wrap IntKind.u32 (Int.fdiv (IntKind.wrap IntKind.u64 (IntKind.wrap IntKind.u64 (IntKind.wrap IntKind.u64 x + IntKind.wrap IntKind.u64 y) + IntKind.wrap IntKind.u64 c)) ((2 : Int) ^ min (Int.toNat (32 : Int)) (IntKind.bits IntKind.u64))) = (x + y + c) / 4294967296 ∧ True) = evFn (env [] noAnn) Tryz.f123 [.int .u32 x, .int .u32 y, .int .u32 c] (MRes.sat (.ret (.tup [.int .u32 ((x + y + c) % 4294967296), .int .u32 ((x + y + c) / 4294967296)]))) := by kernel_rfl
def s_sub32 : FSpec
 | [.int .u32 x, .int .u32 y, .int .u32 c] => some (some (0 ≤ x ∧ x < 4294967296 ∧ 0 ≤ y ∧ y < 4294967296 ∧ 0 ≤ c ∧ c ≤ 1), .ret (.tup [.int .u32 ((x - y - c) % 4294967296), .int .u32 (if x < y + c then 1 else 0)]))
 | _ => none
theorem p32 : ((2 : Int) ^ min (Int.toNat 32) (IntKind.bits IntKind.u64)) = 4294967296 := by decide +kernel
theorem p31 : ((2 : Int) ^ min (Int.toNat 31) (IntKind.bits IntKind.u32)) = 2147483648 := by decide +kernel
theorem p_add32 : Good Tryz.f123 s_add32 := by
 intro ms p r h hp
 unfold s_add32 at h
 split at h
 ·rename_i x y c
  simp only [Option.some.injEq, Prod.mk.injEq] at h
  obtain ⟨rfl, rfl⟩ := h
  obtain ⟨h1, h2, h3, h4, h5, h6⟩ : 0 ≤ x ∧ x < 4294967296 ∧ 0 ≤ y ∧ y < 4294967296 ∧ 0 ≤ c ∧ c ≤ 1 := hp
  refine ⟨env [] noAnn, ?_⟩
  rw [← vc_add32 x y c]
  rw [p32, Int.fdiv_eq_ediv_of_nonneg _ (by omega)]
  simp only [u32w, u64w]
  have e : (((x % 18446744073709551616 + y % 18446744073709551616) % 18446744073709551616 + c % 18446744073709551616) % 18446744073709551616) = x + y + c := by omega
  rw [e]
  refine ⟨by omega, rfl, ?_, trivial⟩
  omega
 ·simp at h
def c_add32 : Ctr Tryz.prog := ⟨123, s_add32, fun args w => Tryz.call123 args w, fn_ok mix Tryz.func123 s_add32 p_add32⟩
theorem bitShift (z : BitVec (IntKind.bits IntKind.u32)) : ((z.toNat : Int) % 4294967296).fdiv 2147483648 = if z.msb then 1 else 0 := by
 rw [Int.fdiv_eq_ediv_of_nonneg _ (by omega), BitVec.msb_eq_decide]
 have : z.toNat < 4294967296 := z.isLt
 show _ = if decide (2147483648 ≤ z.toNat) = true then _ else _
 simp only [decide_eq_true_eq]
 split <;> omega
theorem ofIntNat (z : BitVec (IntKind.bits IntKind.u32)) : BitVec.ofInt (IntKind.bits IntKind.u32) ((z.toNat : Int) % 4294967296) = z := by
 apply BitVec.eq_of_toNat_eq
 have : z.toNat < 4294967296 := z.isLt
 rw [BitVec.toNat_ofInt]
 show ((z.toNat : Int) % 4294967296 % 4294967296).toNat = z.toNat
 omega
theorem ofIntVal {x : Int} (h : 0 ≤ x) (k : x < 4294967296) : ((BitVec.ofInt 32 x).toNat : Int) = x := by
 rw [BitVec.toNat_ofInt]
 show (((x % 4294967296).toNat : Nat) : Int) = x
 omega
theorem vc_sub32 (x y c : Int) : ((0 : Int) ≤ 31 ∧ IntKind.wrap IntKind.u32 (IntKind.wrap IntKind.u32 (x - y) - c) = (x - y - c) % 4294967296 ∧ (Int.fdiv (IntKind.wrap IntKind.u32 (↑(BitVec.toNat (BitVec.ofInt (IntKind.bits IntKind.u32) (IntKind.wrap IntKind.u32 (↑(BitVec.toNat (BitVec.ofInt (IntKind.bits IntKind.u32) (IntKind.wrap IntKind.u32 (↑(BitVec.toNat (BitVec.ofInt (IntKind.bits IntKind.u32) (if IntKind.signed IntKind.u32 = true then (-1 : Int) else IntKind.max IntKind.u32) ^^^ BitVec.ofInt (IntKind.bits IntKind.u32) x)) : Int)) &&& BitVec.ofInt (IntKind.bits IntKind.u32) y)) : Int)) ||| BitVec.ofInt (IntKind.bits IntKind.u32) (IntKind.wrap IntKind.u32 (↑(BitVec.toNat (BitVec.ofInt (IntKind.bits IntKind.u32) (IntKind.wrap IntKind.u32 (↑(BitVec.toNat (BitVec.ofInt (IntKind.bits IntKind.u32) (if IntKind.signed IntKind.u32 = true then (-1 : Int) else IntKind.max IntKind.u32) ^^^ BitVec.ofInt (IntKind.bits IntKind.u32) (IntKind.wrap IntKind.u32 (↑(BitVec.toNat (BitVec.ofInt (IntKind.bits IntKind.u32) x ^^^ BitVec.ofInt (IntKind.bits IntKind.u32) y)) : Int)))) : Int)) &&& BitVec.ofInt (IntKind.bits IntKind.u32) (IntKind.wrap IntKind.u32 (IntKind.wrap IntKind.u32 (x - y) - c)))) : Int)))) : Int)) ((2 : Int) ^ min (Int.toNat (31 : Int)) (IntKind.bits IntKind.u32)) = if x < y + c then (1 : Int) else (0 : Int)) ∧ True) = evFn (env [] noAnn) Tryz.f124 [.int .u32 x, .int .u32 y, .int .u32 c] (MRes.sat (.ret (.tup [.int .u32 ((x - y - c) % 4294967296), .int .u32 (if x < y + c then 1 else 0)]))) := by kernel_rfl
theorem p_sub32 : Good Tryz.f124 s_sub32 := by
 intro ms p r h hp
 unfold s_sub32 at h
 split at h
 ·rename_i x y c
  simp only [Option.some.injEq, Prod.mk.injEq] at h
  obtain ⟨rfl, rfl⟩ := h
  obtain ⟨h1, h2, h3, h4, h5, h6⟩ : 0 ≤ x ∧ x < 4294967296 ∧ 0 ≤ y ∧ y < 4294967296 ∧ 0 ≤ c ∧ c ≤ 1 := hp
  refine ⟨_, cast (vc_sub32 x y c) ?_⟩
  rw [p31,
   show (if IntKind.signed IntKind.u32 = true then (-1 : Int) else IntKind.max IntKind.u32) = 4294967295 from rfl]
  simp only [u32w, ofIntNat]
  refine ⟨by omega, by omega, ?_, trivial⟩
  rw [bitShift]
  simp only [BitVec.msb_or, BitVec.msb_and, BitVec.msb_xor]
  have m : ∀ t : Int, 0 ≤ t → t < 4294967296 → (BitVec.ofInt (IntKind.bits IntKind.u32) t).msb = decide (2147483648 ≤ t) := fun t q1 q2 => by
   rw [BitVec.msb_eq_decide]
   have := ofIntVal q1 q2
   show decide (2147483648 ≤ (BitVec.ofInt 32 t).toNat) = _
   rw [decide_eq_decide]; omega
  rw [m x h1 h2, m y h3 h4, m 4294967295 (by omega) (by omega), m _ (by omega) (by omega)]
  by_cases q1 : 2147483648 ≤ x <;> by_cases q2 : 2147483648 ≤ y <;> by_cases q3 : 2147483648 ≤ ((x - y) % 4294967296 - c) % 4294967296 <;> simp [q1, q2] <;> omega
 ·simp at h
def c_sub32 : Ctr Tryz.prog := ⟨124, s_sub32, fun args w => Tryz.call124 args w, fn_ok mix Tryz.func124 s_sub32 p_sub32⟩
/-! ### comparisons -/
def icmp (a b : Int) : Int := if a < b then -1 else if a = b then 0 else 1
def s_nanI : FSpec
 | [.int .i64 _] => some (none, .ret (.bool false))
 | _ => none
def s_nanU : FSpec
 | [.int .u32 _] => some (none, .ret (.bool false))
 | _ => none
theorem vc_nanI (x : Int) : ((x != x) = false) = evFn (env [] noAnn) Tryz.f120 [.int .i64 x] (MRes.sat (.ret (.bool false))) := by kernel_rfl
theorem vc_nanU (x : Int) : ((x != x) = false) = evFn (env [] noAnn) Tryz.f136 [.int .u32 x] (MRes.sat (.ret (.bool false))) := by kernel_rfl
theorem p_nanI : Good Tryz.f120 s_nanI := by
 intro ms p r h hp
 unfold s_nanI at h
 split at h
 ·rename_i x
  simp only [Option.some.injEq, Prod.mk.injEq] at h
  obtain ⟨rfl, rfl⟩ := h
  exact ⟨_, cast (vc_nanI x) (by simp)⟩
 ·simp at h
theorem p_nanU : Good Tryz.f136 s_nanU := by
 intro ms p r h hp
 unfold s_nanU at h
 split at h
 ·rename_i x
  simp only [Option.some.injEq, Prod.mk.injEq] at h
  obtain ⟨rfl, rfl⟩ := h
  exact ⟨_, cast (vc_nanU x) (by simp)⟩
 ·simp at h
def c_nanI : Ctr Tryz.prog := ⟨120, s_nanI, fun args w => Tryz.call120 args w, fn_ok mix Tryz.func120 s_nanI p_nanI⟩
def c_nanU : Ctr Tryz.prog := ⟨136, s_nanU, fun args w => Tryz.call136 args w, fn_ok mix Tryz.func136 s_nanU p_nanU⟩
def s_cmpI : FSpec
 | [.int .i64 a, .int .i64 b] => some (none, .ret (.int .i64 (icmp a b)))
 | _ => none
def s_cmpU : FSpec
 | [.int .u32 a, .int .u32 b] => some (none, .ret (.int .i64 (icmp a b)))
 | _ => none
theorem vc_cmpI (a b : Int) : (bif decide (a < b) then (-1 : Int) = icmp a b else bif decide (a > b) then (1 : Int) = icmp a b else (0 : Int) = icmp a b) = evFn (env [c_nanI] noAnn) Tryz.f101 [.int .i64 a, .int .i64 b] (MRes.sat (.ret (.int .i64 (icmp a b)))) := by kernel_rfl
theorem vc_cmpU (a b : Int) : (bif decide (a < b) then (-1 : Int) = icmp a b else bif decide (a > b) then (1 : Int) = icmp a b else (0 : Int) = icmp a b) = evFn (env [c_nanU] noAnn) Tryz.f121 [.int .u32 a, .int .u32 b] (MRes.sat (.ret (.int .i64 (icmp a b)))) := by kernel_rfl
theorem p_cmpI : Good Tryz.f101 s_cmpI := by
 intro ms p r h hp
 unfold s_cmpI at h
 split at h
 ·rename_i a b
  simp only [Option.some.injEq, Prod.mk.injEq] at h
  obtain ⟨rfl, rfl⟩ := h
  refine ⟨_, cast (vc_cmpI a b) ?_⟩
  unfold icmp
  simp only [Bool.cond_decide]
  split <;> (try split) <;> (try split) <;> omega
 ·simp at h
theorem p_cmpU : Good Tryz.f121 s_cmpU := by
 intro ms p r h hp
 unfold s_cmpU at h
 split at h
 ·rename_i a b
  simp only [Option.some.injEq, Prod.mk.injEq] at h
  obtain ⟨rfl, rfl⟩ := h
  refine ⟨_, cast (vc_cmpU a b) ?_⟩
  unfold icmp
  simp only [Bool.cond_decide]
  split <;> (try split) <;> (try split) <;> omega
 ·simp at h
def c_cmpI : Ctr Tryz.prog := ⟨101, s_cmpI, fun args w => Tryz.call101 args w, fn_ok mix Tryz.func101 s_cmpI p_cmpI⟩
def c_cmpU : Ctr Tryz.prog := ⟨121, s_cmpU, fun args w => Tryz.call121 args w, fn_ok mix Tryz.func121 s_cmpU p_cmpU⟩
def two (a b : Int) (j : Nat) : MV := .int .i64 (if j = 0 then a else b)
theorem vc_or (a b : Int) : (((0 : Int) ≤ 0 ∧ (0 : Int) < (↑(2 : Nat) : Int)) ∧ bif (if Int.toNat (0 : Int) = 0 then a else b) != 0 then (if Int.toNat (0 : Int) = 0 then a else b) = if a = 0 then b else a else ((0 : Int) ≤ IntKind.wrap IntKind.i64 ((0 : Int) + 1) ∧ IntKind.wrap IntKind.i64 ((0 : Int) + 1) < (↑(2 : Nat) : Int)) ∧ bif (if Int.toNat (IntKind.wrap IntKind.i64 ((0 : Int) + 1)) = 0 then a else b) != 0 then (if Int.toNat (IntKind.wrap IntKind.i64 ((0 : Int) + 1)) = 0 then a else b) = if a = 0 then b else a else (0 : Int) = if a = 0 then b else a) = evFn (env [] (fun | 3, _ => some (.unroll 3) | _, _ => none)) Tryz.f103 [.sl 1 2 (two a b)] (MRes.sat (.ret (.int .i64 (if a = 0 then b else a)))) := by kernel_rfl
def s_or : FSpec
 | [.sl 1 2 f] => (match f 0, f 1 with
  | .int .i64 a, .int .i64 b => some (none, .ret (.int .i64 (if a = 0 then b else a)))
  | _, _ => none)
 | _ => none
theorem p_or : ∀ ms p r, s_or ms = some (p, r) → p.holds → ∃ ms', leV.leVs 0 ms ms' ∧ ∃ E : Env Tryz.prog, evFn E Tryz.f103 ms' r.sat := by
 intro ms p r h hp
 unfold s_or at h
 split at h
 ·rename_i f
  split at h
  ·rename_i a b h0 h1
   simp only [Option.some.injEq, Prod.mk.injEq] at h
   obtain ⟨rfl, rfl⟩ := h
   refine ⟨[.sl 1 2 (two a b)], ⟨⟨rfl, rfl, LeFun.of_le fun i hi => ?_⟩, trivial⟩, env [] (fun | 3, _ => some (.unroll 3) | _, _ => none), ?_⟩
   ·have : i = 0 ∨ i = 1 := by omega
    rcases this with rfl | rfl
    ·rw [h0]; simp [two, leMV]
    ·rw [h1]; simp [two, leMV]
   ·rw [← vc_or a b]
    have e : IntKind.i64.wrap ((0 : Int) + 1) = 1 := by decide +kernel
    rw [e]
    by_cases ha : a = 0 <;> by_cases hb : b = 0 <;> simp [ha, hb]
  ·simp at h
 ·simp at h
def c_or : Ctr Tryz.prog := ⟨103, s_or, fun args w => Tryz.call103 args w, fn_ok_le mix Tryz.func103 s_or p_or⟩
/-! ### math/bits.Len32, LeadingZeros32 -/
def s_len32 : FSpec
 | [.int .u32 x] => some (some (0 ≤ x ∧ x < 4294967296), .ret (.int .i64 (bl x.toNat)))
 | _ => none
def len8tab : ByteArray := ⟨((List.range 256).map fun n => UInt8.ofNat (bl n)).toArray⟩
theorem len8_size : len8tab.size = 256 := by decide +kernel
theorem len8_at {i : Nat} (h : i < 256) : byteAt len8tab i = bl i := by
 have h8 : i < 2 ^ 8 := h
 have hb : bl i ≤ 8 := bl_le_of h8
 have hl : i < ((List.range 256).map fun n => UInt8.ofNat (bl n)).length := by simpa using h
 unfold byteAt len8tab
 simp only [List.getD_eq_getElem?_getD, List.getElem?_eq_getElem hl, Option.getD_some, List.getElem_map, List.getElem_range, UInt8.toNat_ofNat']
 omega
theorem vc_len32 (x : Int) : (bif decide (x ≥ 65536) then (0 : Int) ≤ 16 ∧ bif decide (Int.fdiv x ((2 : Int) ^ min (Int.toNat (16 : Int)) (IntKind.bits IntKind.u32)) ≥ 256) then (0 : Int) ≤ 8 ∧ ((0 : Int) ≤ IntKind.wrap IntKind.u8 (Int.fdiv (Int.fdiv x ((2 : Int) ^ min (Int.toNat (16 : Int)) (IntKind.bits IntKind.u32))) ((2 : Int) ^ min (Int.toNat (8 : Int)) (IntKind.bits IntKind.u32))) ∧ IntKind.wrap IntKind.u8 (Int.fdiv (Int.fdiv x ((2 : Int) ^ min (Int.toNat (16 : Int)) (IntKind.bits IntKind.u32))) ((2 : Int) ^ min (Int.toNat (8 : Int)) (IntKind.bits IntKind.u32))) < (↑(ByteArray.size len8tab) : Int)) ∧ IntKind.wrap IntKind.i64 (IntKind.wrap IntKind.i64 ((16 : Int) + 8) + IntKind.wrap IntKind.i64 (byteAt len8tab (Int.toNat (IntKind.wrap IntKind.u8 (Int.fdiv (Int.fdiv x ((2 : Int) ^ min (Int.toNat (16 : Int)) (IntKind.bits IntKind.u32))) ((2 : Int) ^ min (Int.toNat (8 : Int)) (IntKind.bits IntKind.u32))))))) = (↑(bl (Int.toNat x)) : Int) else ((0 : Int) ≤ IntKind.wrap IntKind.u8 (Int.fdiv x ((2 : Int) ^ min (Int.toNat (16 : Int)) (IntKind.bits IntKind.u32))) ∧ IntKind.wrap IntKind.u8 (Int.fdiv x ((2 : Int) ^ min (Int.toNat (16 : Int)) (IntKind.bits IntKind.u32))) < (↑(ByteArray.size len8tab) : Int)) ∧ IntKind.wrap IntKind.i64 ((16 : Int) + IntKind.wrap IntKind.i64 (byteAt len8tab (Int.toNat (IntKind.wrap IntKind.u8 (Int.fdiv x ((2 : Int) ^ min (Int.toNat (16 : Int)) (IntKind.bits IntKind.u32))))))) = (↑(bl (Int.toNat x)) : Int) else bif decide (x ≥ 256) then (0 : Int) ≤ 8 ∧ ((0 : Int) ≤ IntKind.wrap IntKind.u8 (Int.fdiv x ((2 : Int) ^ min (Int.toNat (8 : Int)) (IntKind.bits IntKind.u32))) ∧ IntKind.wrap IntKind.u8 (Int.fdiv x ((2 : Int) ^ min (Int.toNat (8 : Int)) (IntKind.bits IntKind.u32))) < (↑(ByteArray.size len8tab) : Int)) ∧ IntKind.wrap IntKind.i64 (IntKind.wrap IntKind.i64 ((0 : Int) + 8) + IntKind.wrap IntKind.i64 (byteAt len8tab (Int.toNat (IntKind.wrap IntKind.u8 (Int.fdiv x ((2 : Int) ^ min (Int.toNat (8 : Int)) (IntKind.bits IntKind.u32))))))) = (↑(bl (Int.toNat x)) : Int) else ((0 : Int) ≤ IntKind.wrap IntKind.u8 x ∧ IntKind.wrap IntKind.u8 x < (↑(ByteArray.size len8tab) : Int)) ∧ IntKind.wrap IntKind.i64 ((0 : Int) + IntKind.wrap IntKind.i64 (byteAt len8tab (Int.toNat (IntKind.wrap IntKind.u8 x)))) = (↑(bl (Int.toNat x)) : Int)) = evFn (env [] noAnn) Tryz.f138 [.int .u32 x] (MRes.sat (.ret (.int .i64 (bl x.toNat)))) := by kernel_rfl
theorem p16u : ((2 : Int) ^ min (Int.toNat 16) (IntKind.bits IntKind.u32)) = 65536 := by decide +kernel
theorem p8u : ((2 : Int) ^ min (Int.toNat 8) (IntKind.bits IntKind.u32)) = 256 := by decide +kernel
theorem w24 : IntKind.i64.wrap ((16 : Int) + 8) = 24 := by decide +kernel
theorem w8 : IntKind.i64.wrap ((0 : Int) + 8) = 8 := by decide +kernel
theorem bl8 {n : Nat} (h : n < 256) : bl n ≤ 8 := bl_le_of (show n < 2 ^ 8 by omega)
theorem bl32 {n : Nat} (h : n < 4294967296) : bl n ≤ 32 := bl_le_of (show n < 2 ^ 32 by omega)
theorem len_step {x : Int} {z k : Nat} (hz : z < 256) (h0 : z ≠ 0) (hk : k ≤ 24) (h : ∃ r, x.toNat = z * 2 ^ k + r ∧ r < 2 ^ k) : IntKind.i64.wrap ((k : Int) + IntKind.i64.wrap (byteAt len8tab z)) = (bl x.toNat : Int) := by
 obtain ⟨r, h1, h2⟩ := h
 rw [h1, bl_mul h0 r h2, len8_at hz]
 have := bl8 hz
 have e1 : IntKind.i64.wrap (bl z : Int) = bl z := i64w (by omega) (by omega)
 rw [e1, i64w (by omega) (by omega)]
 omega
theorem p_len32 : Good Tryz.f138 s_len32 := by
 intro ms p r h hp
 unfold s_len32 at h
 split at h
 ·rename_i x
  simp only [Option.some.injEq, Prod.mk.injEq] at h
  obtain ⟨rfl, rfl⟩ := h
  obtain ⟨h1, h2⟩ : 0 ≤ x ∧ x < 4294967296 := hp
  refine ⟨env [] noAnn, ?_⟩
  rw [← vc_len32 x, p16u, p8u, len8_size, w24, w8]
  simp only [u8w, Int.fdiv_eq_ediv_of_nonneg _ (show (0 : Int) ≤ 65536 by omega), Int.fdiv_eq_ediv_of_nonneg _ (show (0 : Int) ≤ 256 by omega), Bool.cond_decide]
  split
  ·refine ⟨by omega, ?_⟩
   split
   ·refine ⟨by omega, by omega, ?_⟩
    exact len_step (z := (x / 65536 / 256 % 256).toNat) (k := 24) (by omega) (by omega) (by omega) ⟨(x % 16777216).toNat, by omega, by omega⟩
   ·refine ⟨by omega, ?_⟩
    exact len_step (z := (x / 65536 % 256).toNat) (k := 16) (by omega) (by omega) (by omega) ⟨(x % 65536).toNat, by omega, by omega⟩
  ·split
   ·refine ⟨by omega, by omega, ?_⟩
    exact len_step (z := (x / 256 % 256).toNat) (k := 8) (by omega) (by omega) (by omega) ⟨(x % 256).toNat, by omega, by omega⟩
   ·refine ⟨by omega, ?_⟩
    by_cases e : x = 0
    ·subst e
     have : ((0 : Int) % 256).toNat = 0 := by omega
     rw [this, len8_at (by omega), bl_zero]
     decide +kernel
    ·exact len_step (z := (x % 256).toNat) (k := 0) (by omega) (by omega) (by omega) ⟨0, by omega, by omega⟩
 ·simp at h
def c_len32 : Ctr Tryz.prog := ⟨138, s_len32, fun args w => Tryz.call138 args w, fn_ok mix Tryz.func138 s_len32 p_len32⟩
theorem vc_lz32 (x : Int) : (((0 : Int) ≤ x ∧ x < 4294967296) ∧ IntKind.wrap IntKind.i64 ((32 : Int) - (↑(bl (Int.toNat x)) : Int)) = 32 - (↑(bl (Int.toNat x)) : Int)) = evFn (env [c_len32] noAnn) Tryz.f128 [.int .u32 x] (MRes.sat (.ret (.int .i64 (32 - bl x.toNat)))) := by kernel_rfl
def s_lz32 : FSpec
 | [.int .u32 x] => some (some (0 ≤ x ∧ x < 4294967296), .ret (.int .i64 (32 - bl x.toNat)))
 | _ => none
theorem p_lz32 : Good Tryz.f128 s_lz32 := by
 intro ms p r h hp
 unfold s_lz32 at h
 split at h
 ·rename_i x
  simp only [Option.some.injEq, Prod.mk.injEq] at h
  obtain ⟨rfl, rfl⟩ := h
  have hp : 0 ≤ x ∧ x < 4294967296 := hp
  refine ⟨env [c_len32] noAnn, ?_⟩
  rw [← vc_lz32 x]
  have := bl32 (n := x.toNat) (by omega)
  exact ⟨hp, i64w (by omega) (by omega)⟩
 ·simp at h
def c_lz32 : Ctr Tryz.prog := ⟨128, s_lz32, fun args w => Tryz.call128 args w, fn_ok mix Tryz.func128 s_lz32 p_lz32⟩
theorem icmp_zero {a b : Int} : icmp a b = 0 ↔ a = b := by unfold icmp; split <;> (try split) <;> omega
theorem icmp_lt {a b : Int} (h : a < b) : icmp a b = -1 := by unfold icmp; rw [if_pos h]
theorem icmp_gt {a b : Int} (h : b < a) : icmp a b = 1 := by unfold icmp; rw [if_neg (by omega), if_neg (by omega)]
theorem icmp_same {a : Int} : icmp a a = 0 := icmp_zero.2 rfl
theorem wv_decide {a b : List Int} {k : Nat} (ha : Wd a) (hb : Wd b) (hka : k < a.length) (hkb : k < b.length) (hd : a.drop (k + 1) = b.drop (k + 1)) (h : a.getD k 0 < b.getD k 0) : wv a < wv b := by
 rw [wv_split a k hka, wv_split b k hkb, hd]
 have h1 := wv_lt (ha.take k)
 have h2 := wv_nonneg (hb.take k)
 rw [List.length_take, Nat.min_eq_left (by omega)] at h1
 have h5 : (0 : Int) ≤ 4294967296 ^ k := Int.pow_nonneg (by omega)
 generalize hP : (4294967296 : Int) ^ k = P at *
 generalize wv (b.drop (k + 1)) = t
 have h6 : P * (a.getD k 0 + 4294967296 * t + 1) ≤ P * (b.getD k 0 + 4294967296 * t) := Int.mul_le_mul_of_nonneg_left (by omega) h5
 rw [Int.mul_add P _ 1] at h6
 omega
/-! ### nat.cmp, nat.bits -/
def s_ncmp : FSpec
 | [.ws a, .ws b] => some (some (Cn a ∧ Cn b ∧ a.length ≤ 1099511627776 ∧ b.length ≤ 1099511627776), .ret (.int .i64 (icmp (wv a) (wv b))))
 | _ => none
def a_ncmp (a b : List Int) : Nat → MS → Option LoopAnn
 | 5, _ => some (.inv Nat (fun k => k ≤ a.length ∧ a.drop k = b.drop k) (fun k => ⟨35, [(0, .ws a), (1, .ws b), (6, .int .i64 ((k : Int) - 1))], [], 0⟩) id)
 | _, _ => none
theorem vc_ncmp (a b : List Int) : (bif icmp (↑(List.length a) : Int) (↑(List.length b) : Int) != 0 then icmp (↑(List.length a) : Int) (↑(List.length b) : Int) = icmp (wv a) (wv b) else (∃ i, (i ≤ List.length a ∧ List.drop i a = List.drop i b) ∧ (a = a ∧ b = b ∧ IntKind.wrap IntKind.i64 ((↑(List.length a) : Int) - 1) = (↑i : Int) - 1 ∧ True) ∧ True) ∧ ∀ (i : Nat), i ≤ List.length a ∧ List.drop i a = List.drop i b → bif decide ((↑i : Int) - 1 ≥ 0) then ((0 : Int) ≤ (↑i : Int) - 1 ∧ (↑i : Int) - 1 < (↑(List.length a) : Int)) ∧ ((0 : Int) ≤ (↑i : Int) - 1 ∧ (↑i : Int) - 1 < (↑(List.length b) : Int)) ∧ bif icmp (List.getD a (Int.toNat ((↑i : Int) - 1)) (0 : Int)) (List.getD b (Int.toNat ((↑i : Int) - 1)) (0 : Int)) != 0 then icmp (List.getD a (Int.toNat ((↑i : Int) - 1)) (0 : Int)) (List.getD b (Int.toNat ((↑i : Int) - 1)) (0 : Int)) = icmp (wv a) (wv b) else ∃ j, (j ≤ List.length a ∧ List.drop j a = List.drop j b) ∧ ((a = a ∧ b = b ∧ IntKind.wrap IntKind.i64 ((↑i : Int) - 1 - 1) = (↑j : Int) - 1 ∧ True) ∧ True) ∧ id j < id i else (0 : Int) = icmp (wv a) (wv b)) = evFn (env [c_cmpI, c_cmpU] (a_ncmp a b)) Tryz.f102 [.ws a, .ws b] (MRes.sat (.ret (.int .i64 (icmp (wv a) (wv b))))) := by kernel_rfl
def s_nbits : FSpec
 | [.ws a] => some (some (Cn a ∧ a.length ≤ 1099511627776), .ret (.int .i64 (bl (wv a).toNat)))
 | _ => none
theorem p_ncmp : Good Tryz.f102 s_ncmp := by
 intro ms p r h hp
 unfold s_ncmp at h
 split at h
 ·rename_i a b
  simp only [Option.some.injEq, Prod.mk.injEq] at h
  obtain ⟨rfl, rfl⟩ := h
  obtain ⟨ha, hb, la, lb⟩ : Cn a ∧ Cn b ∧ a.length ≤ 1099511627776 ∧ b.length ≤ 1099511627776 := hp
  refine ⟨env [c_cmpI, c_cmpU] (a_ncmp a b), ?_⟩
  rw [← vc_ncmp a b]
  cases hc : (icmp (a.length : Int) (b.length : Int) != 0) with
  | true =>
   rw [cond_true]
   have hne : (a.length : Int) ≠ b.length := fun e => by rw [e, icmp_same] at hc; simp at hc
   rcases Nat.lt_or_ge a.length b.length with h | h
   ·rw [icmp_lt (by omega), icmp_lt (wv_lt_of_len ha.wd hb h)]
   ·rw [icmp_gt (by omega), icmp_gt (wv_lt_of_len hb.wd ha (by omega))]
  | false =>
   rw [cond_false]
   have heq : a.length = b.length := by
    have : icmp (a.length : Int) (b.length : Int) = 0 := by simpa using hc
    have := icmp_zero.1 this
    omega
   refine ⟨⟨a.length, ⟨Nat.le_refl _, by rw [List.drop_length, heq, List.drop_length]⟩, ⟨rfl, rfl, i64w (by omega) (by omega), trivial⟩, trivial⟩, fun i ⟨hi, hd⟩ => ?_⟩
   rw [Bool.cond_decide]
   split
   ·rename_i h0
    have e2 : ((i : Int) - 1).toNat = i - 1 := by omega
    rw [e2]
    refine ⟨by omega, by omega, ?_⟩
    have hd' : a.drop (i - 1 + 1) = b.drop (i - 1 + 1) := by rw [show i - 1 + 1 = i by omega]; exact hd
    cases hc2 : (icmp (a.getD (i - 1) 0) (b.getD (i - 1) 0) != 0) with
    | true =>
     rw [cond_true]
     have hne : a.getD (i - 1) 0 ≠ b.getD (i - 1) 0 := fun e => by rw [e, icmp_same] at hc2; simp at hc2
     rcases Int.lt_or_gt_of_ne hne with h | h
     ·rw [icmp_lt h, icmp_lt (wv_decide ha.wd hb.wd (by omega) (by omega) hd' h)]
     ·rw [icmp_gt h, icmp_gt (wv_decide hb.wd ha.wd (by omega) (by omega) hd'.symm h)]
    | false =>
     rw [cond_false]
     have he : a.getD (i - 1) 0 = b.getD (i - 1) 0 := icmp_zero.1 (by simpa using hc2)
     refine ⟨i - 1, ⟨by omega, ?_⟩, ⟨⟨rfl, rfl, ?_, trivial⟩, trivial⟩, by show i - 1 < i; omega⟩
     ·have ea : a.drop (i - 1) = a.getD (i - 1) 0 :: a.drop (i - 1 + 1) := by
       rw [show a.getD (i - 1) 0 = a[i - 1]'(by omega) by simp [show i - 1 < a.length by omega]]; exact List.drop_eq_getElem_cons _
      have eb : b.drop (i - 1) = b.getD (i - 1) 0 :: b.drop (i - 1 + 1) := by
       rw [show b.getD (i - 1) 0 = b[i - 1]'(by omega) by simp [show i - 1 < b.length by omega]]; exact List.drop_eq_getElem_cons _
      rw [ea, eb, he, hd']
     ·rw [i64w (by omega) (by omega)]; omega
   ·have : i = 0 := by omega
    subst this
    rw [List.drop_zero, List.drop_zero] at hd
    rw [hd, icmp_same]
 ·simp at h
def c_ncmp : Ctr Tryz.prog := ⟨102, s_ncmp, fun args w => Tryz.call102 args w, fn_ok mix Tryz.func102 s_ncmp p_ncmp⟩
theorem vc_nbits (a : List Int) : (bif (↑(List.length a) : Int) == 0 then (0 : Int) = (↑(bl (Int.toNat (wv a))) : Int) else ((0 : Int) ≤ IntKind.wrap IntKind.i64 ((↑(List.length a) : Int) - 1) ∧ IntKind.wrap IntKind.i64 ((↑(List.length a) : Int) - 1) < (↑(List.length a) : Int)) ∧ ((0 : Int) ≤ List.getD a (Int.toNat (IntKind.wrap IntKind.i64 ((↑(List.length a) : Int) - 1))) (0 : Int) ∧ List.getD a (Int.toNat (IntKind.wrap IntKind.i64 ((↑(List.length a) : Int) - 1))) (0 : Int) < 4294967296) ∧ IntKind.wrap IntKind.i64 (IntKind.wrap IntKind.i64 ((32 : Int) * IntKind.wrap IntKind.i64 ((↑(List.length a) : Int) - 1)) + (↑(bl (Int.toNat (List.getD a (Int.toNat (IntKind.wrap IntKind.i64 ((↑(List.length a) : Int) - 1))) (0 : Int)))) : Int)) = (↑(bl (Int.toNat (wv a))) : Int)) = evFn (env [c_len32] noAnn) Tryz.f139 [.ws a] (MRes.sat (.ret (.int .i64 (bl (wv a).toNat)))) := by kernel_rfl
theorem bl_words {a : List Int} (h : Cn a) (hne : a ≠ []) : bl (wv a).toNat = 32 * (a.length - 1) + bl (a.getD (a.length - 1) 0).toNat := by
 have hp : 0 < a.length := List.length_pos_iff.2 hne
 have h1 := wv_split a (a.length - 1) (by omega)
 rw [List.drop_eq_nil_of_le (by omega)] at h1
 simp only [wv, Int.mul_zero, Int.add_zero] at h1
 have h2 := wv_lt (h.wd.take (a.length - 1))
 have h3 := wv_nonneg (h.wd.take (a.length - 1))
 rw [List.length_take, Nat.min_eq_left (by omega)] at h2
 have h4 := h.wd.getD (a.length - 1)
 have h5 : a.getD (a.length - 1) 0 ≠ 0 := by
  intro e
  have := h.top hne
  rw [e, Int.mul_zero] at h1
  omega
 have e : (4294967296 : Int) ^ (a.length - 1) = ((2 ^ (32 * (a.length - 1)) : Nat) : Int) := by
  rw [Nat.pow_mul]; simp [Int.natCast_pow]
 rw [e] at h1 h2
 obtain ⟨q, hq⟩ : ∃ q : Nat, a.getD (a.length - 1) 0 = q := ⟨(a.getD (a.length - 1) 0).toNat, by omega⟩
 obtain ⟨s, hs⟩ : ∃ s : Nat, wv (a.take (a.length - 1)) = s := ⟨(wv (a.take (a.length - 1))).toNat, by omega⟩
 rw [hq] at h5 ⊢
 rw [hq, hs] at h1
 rw [hs] at h2
 have e2 : (wv a).toNat = q * 2 ^ (32 * (a.length - 1)) + s := by
  rw [h1]
  generalize 2 ^ (32 * (a.length - 1)) = Q
  have : ((s : Int) + (Q : Int) * (q : Int)) = ((q * Q + s : Nat) : Int) := by
   rw [Int.natCast_add, Int.natCast_mul, Int.mul_comm]; omega
  rw [this, Int.toNat_natCast]
 rw [e2, bl_mul (by omega) s (by omega)]
 have e3 : (q : Int).toNat = q := by omega
 rw [e3]; omega
theorem p_nbits : Good Tryz.f139 s_nbits := by
 intro ms p r h hp
 unfold s_nbits at h
 split at h
 ·rename_i a
  simp only [Option.some.injEq, Prod.mk.injEq] at h
  obtain ⟨rfl, rfl⟩ := h
  obtain ⟨ha, la⟩ : Cn a ∧ a.length ≤ 1099511627776 := hp
  refine ⟨env [c_len32] noAnn, ?_⟩
  rw [← vc_nbits a]
  by_cases hne : a = []
  ·subst hne; rfl
  ·have hp : 0 < a.length := List.length_pos_iff.2 hne
   have hc : ((a.length : Int) == 0) = false := by simpa using hne
   have e1 : IntKind.i64.wrap ((a.length : Int) - 1) = a.length - 1 := i64w (by omega) (by omega)
   have e2 : ((a.length : Int) - 1).toNat = a.length - 1 := by omega
   have h4 := ha.wd.getD (a.length - 1)
   have h5 := bl32 (n := (a.getD (a.length - 1) 0).toNat) (by omega)
   rw [hc, cond_false, e1, e2, bl_words ha hne]
   refine ⟨by omega, h4, ?_⟩
   have e3 : IntKind.i64.wrap ((32 : Int) * (a.length - 1)) = 32 * (a.length - 1) := i64w (by omega) (by omega)
   rw [e3, i64w (by omega) (by omega)]
   omega
 ·simp at h
def c_nbits : Ctr Tryz.prog := ⟨139, s_nbits, fun args w => Tryz.call139 args w, fn_ok mix Tryz.func139 s_nbits p_nbits⟩
end Go.Proofs.YtnfmjlhkknndhaaGreat
