/-
  The frame of the laws of chapter 18: small numbers and descriptions.
-/
import Derived.Test.YtijailhickfapaaGreatV5
import Derived.Test.YtijailhickfapaaGreatV3
import Derived.JoinedCond
import Derived.LaidMore
import Derived.LaidLaws
import Derived.LaidHandle
import Derived.ChangeVars
import Derived.Stop.Joined
import Derived.ChangeSame
import Derived.MakeChecks

namespace Go.Proofs.YtijailhickfapaaGreat
open Go Go.RowKit
open Go.IntKind (wrap i64 i32 i16 i8 u64 u32 u16 u8)
open Int (toNat natAbs)
open List (length take drop getD set replicate)
section
abbrev noS:Nat→Prop:=fun _=>False
section
variable {H:Type} {enc:TypeId×Value→H} {P:Program} {w:World} {sp:Nat→Bool} {held:Bool}
theorem aFG {α β:Type} {f:α→Option β}:∀ (l:List α) (xs:List β),l.mapM f=some xs→∀ a∈l,∃ x,f a=some x
 | [],_,_,a,ha=>by simp at ha
 | b::l,xs,h,a,ha=>by
  simp only [List.mapM_cons,Option.bind_eq_bind,Option.pure_def,Option.bind_eq_some_iff,Option.some.injEq] at h
  obtain ⟨x,h1,ys,h2,rfl⟩:=h
  rcases List.mem_cons.1 ha with rfl|ha
  ·exact ⟨x,h1⟩
  ·exact aFG l ys h2 a ha
theorem aGi {t:TypeId} {fs:Array Field} {fuel:Nat} {cs:List Value} {x:DataW H×List MemPlace} (hu:P.underlying t=some (.struct fs)) (h:DataW.trod enc P w 0 sp held fuel t cs=some x) :
  cs.length=P.cellsOf t∧∃ fuel',∀ f∈fs.toList,∃ y,DataW.trod enc P w 0 sp held fuel' f.type ((cs.drop f.offset).take (P.cellsOf f.type))=some y:=by
 cases fuel with
 | zero=>simp [DataW.trod] at h
 | succ fuel =>
  unfold DataW.trod at h
  rw [hu] at h
  split at h
  all_goals first|(rename_i h0;simp at h0;done)|skip
  ·rename_i fs' hf
   simp only [Option.some.injEq,TypeDesc.struct.injEq] at hf
   subst hf
   split at h
   ·rename_i hc
    obtain ⟨xs,h1,rfl⟩:=Option.map_eq_some_iff.1 h
    exact ⟨hc,fuel,aFG _ _ h1⟩
   ·simp at h
  ·rename ∀ (fs_1:Array Field),some (TypeDesc.struct fs)=some (TypeDesc.struct fs_1)→False=>hh
   exact (hh fs rfl).elim
theorem uZ {t:TypeId} {k:IntKind} {fuel:Nat} {cs:List Value} {x:DataW H×List MemPlace} (hu:P.underlying t=some (.int k)) (h:DataW.trod enc P w 0 sp held fuel t cs=some x) :
  ∃ n,cs= [.int k n]∧(Lit.int k n).wf=true:=by
 cases fuel with
 | zero=>simp [DataW.trod] at h
 | succ fuel =>
  unfold DataW.trod at h
  rw [hu] at h
  split at h
  all_goals first|(rename_i h0;simp at h0;done)|skip
  ·rename_i k0 k' n hk
   simp only [Option.some.injEq,TypeDesc.int.injEq] at hk
   subst hk
   split at h
   ·rename_i hc
    exact ⟨n,by rw [hc.1],hc.2⟩
   ·simp at h
  ·simp at h
end
end
section
open Go Go.ChangeShapes Go.WideShapes Go.ChangeAt Go.RowKit
theorem own:ownKnob Tryz.prog.godebug=none:=by kernel_rfl
theorem aJG {v:Value} {a b:Value} {r:List Value} (h:v.cells.toList=a::b::r):v= .agg (a::b::r).toArray:=by
 cases v <;> first|(simp [Value.cells] at h;done)|skip
 rename_i cs
 have:cs=(a::b::r).toArray:=by apply Array.ext';simpa [Value.cells] using h
 rw [this]
section
variable {H:Type} {enc:TypeId×Value→H} {w:World} {sp:Nat→Bool} {held:Bool}
theorem aUd {n:Int} (h:(Lit.int .u16 n).wf=true):0≤n∧n≤65535:=by simpa [Lit.wf,IntKind.min,IntKind.max,IntKind.signed,IntKind.bits] using h
theorem aKl {P:Program} {f:Func} {s:ChangeSpec} {apart fresh handsOn again:Bool} {W W':World} {args:Array Value} {v:Value} {ds gs:List (DataW H)} {before pa pv:List MemPlace}
  (hW:DataW.Whole enc P f.params.toList s.vars apart W args.toList ds gs before)
  (hres:∀ (b:Nat) (sp:Nat→Bool) (hd:Bool),DataW.TrodAll enc P W' b sp hd f.resultTypes.toList (v.resultList f.resultTypes.size) (s.fn H (ds++gs)).results [])
  (hargs:∀ sp:Nat→Bool,(∀ p∈before,sp p.block=true)→DataW.TrodAll enc P W' 0 sp true f.params.toList args.toList (s.fn H (ds++gs)).args pa)
  (hvars:∀ sp:Nat→Bool,(∀ p∈before,sp p.block=true)→DataW.TrodVars enc P W' sp s.vars (s.fn H (ds++gs)).vars pv)
  (hps:before=pa++pv) (hk:W.keptBut W' (·∈before)) (hfz:∀ a:Addr,a.block<W.heap.size→W'.frozen? a=W.frozen? a)
  (hok:∀ (j:Nat) (t:TypeId) (r:Value),f.resultTypes[j]? =some t→(v.resultList f.resultTypes.size)[j]? =some r→Value.okWide P W' .any 0 t r) :
  s.post enc P f apart fresh handsOn again W args v W':=by
 have hlt:∀ p∈before,p.block<W.heap.size:=hW.lt
 have hold:∀ p∈before,(fun b=>decide (b<W.heap.size)) p.block=true:=fun p hp=>by simpa using hlt p hp
 refine ⟨ds,gs,before, [],pa,pv,hW,hres _ _ _,hargs _ hold,hvars _ hold,World.keptBut_mono (fun p hp=>⟨hp,?_⟩) hk,fun _=>?_⟩
 ·rw [hps,List.mem_append] at hp
  exact Or.inr hp
 ·obtain ⟨_,_,_,_,_,hz,hn⟩:=hW
  refine ⟨hok,_,_,([]++pa)++pv,⟨[]++pa,pv,trodAll_append (hargs _ (fun _ _=>rfl)) (hres _ _ _),hvars _ (fun _ _=>rfl),rfl,?_,?_⟩,?_⟩
  ·intro b off hp
   have hm:MemPlace.cell b off∈before:=by rw [hps];simpa using hp
   rw [hfz ⟨b,off,none⟩ (hlt _ hm)]
   exact hz b off hm
  ·intro ha
   have:=hn ha
   rw [hps] at this
   simpa using this
  ·intro p hp _
   rw [hps]
   simpa using hp
set_option maxRecDepth 100000 in
theorem aJ7 {fn:Func} {s:ChangeSpec} (ctr:Ctr Tryz.prog) (hvars:s.vars= []) (hrt:fn.resultTypes=#[4]) {L:List Nat} (hL:L.all (aGe Tryz.prog L)=true) (hin:∀ t∈fn.params.toList,t∈L) {apart fresh handsOn again:Bool} {W:World} {args:Array Value} {ds gs:List (DataW H)} {before:List MemPlace}
  (hW:DataW.Whole enc Tryz.prog fn.params.toList s.vars apart W args.toList ds gs before) (hG:GW noS W)
  (hrep:∃ ms p,ctr.spec ms=some (p,.ret (.bool true))∧p.holds∧RepAll (Ctx.args noS) W ms args.toList)
  (hspec:s.fn H (ds++gs)={ results:= [.lit (.bool true)],args:=ds }) :
  Calls Tryz.prog ctr.f args W fun e W'=>∃ v,e= .returned v∧s.post enc Tryz.prog fn apart fresh handsOn again W args v W':=by
 obtain ⟨ms,p,h1,h2,h3⟩:=hrep
 refine (ctr.ok noS W ms args p _ h1 h2 (fun _ h=>h.elim) hG h3).mono fun e W' ⟨hE,hh⟩=>?_
 obtain ⟨v,rfl,hr⟩:∃ v,e= .returned v∧Rep (Ctx.res noS) W' (.bool true) v:=by
  cases e with
  | returned v=>exact ⟨v,rfl,hh⟩
  | panicked _=>exact hh.elim
  | outgrown=>exact hh.elim
 have hv:v= .bool true:=gG hr
 subst hv
 refine ⟨_,rfl,?_⟩
 have hW':=hW
 obtain ⟨p,q,hA,hV,rfl,_,_⟩:=hW
 rw [hvars] at hV
 obtain ⟨rfl,rfl⟩:gs= []∧q= []:=trodVars_none hV
 refine aKl (pa:=p) (pv:= []) hW' (fun _ _ _=>?_) (fun sp hsp=>?_) (fun _ _=>?_) rfl (hE.kept _) hE.frz ?_
 ·rw [hspec,hrt]
  exact trodAll_cons_mk (shut_bool Tryz.underlying4 _) trodAll_mk0
 ·rw [hspec]
  exact uY hL hE.block sp _ _ _ _ hin hA fun p hp=>hsp p (List.mem_append_left _ hp)
 ·rw [hspec,hvars];rfl
 ·have hw:Value.okWide Tryz.prog W' .any 0 4 (.bool true):=okWide_bool_mk Tryz.underlying4 true
  exact ok_one hrt rfl hw
end
end
section
open Go Go.ChangeShapes Go.WideShapes Go.ChangeAt Go.RowKit
theorem gw0 (W:World):GW noS W:=fun h=>by cases h
theorem aVv {n:Int} (h:(Lit.int .u8 n).wf=true):0≤n∧n≤255:=by simpa [Lit.wf,IntKind.min,IntKind.max,IntKind.signed,IntKind.bits] using h
theorem aII {n:Int} (h:(Lit.int .i8 n).wf=true): -128≤n∧n≤127:=by simpa [Lit.wf,IntKind.min,IntKind.max,IntKind.signed,IntKind.bits] using h
theorem aRL {P:Program} {W:World} {base:Nat} {args:Array Value} {ts:Array TypeId} (hval:∀ (j:Nat) t v,ts[j]? =some t→args[j]? =some v→Value.okWide P W .any base t v) {j:Nat} {t:TypeId} {v:Value} (h1:ts[j]? =some t) (h2:args[j]? =some v):Value.okWide P W .any base t v:=hval j t v h1 h2
theorem aU0 {cs:List Value} (h:cs.length=4):∃ a b c d,cs= [a,b,c,d]:=by
 match cs,h with
 | [a,b,c,d],_=>exact ⟨a,b,c,d,rfl⟩
theorem s9:Tryz.prog.cellsOf 23=1:=by kernel_rfl
section
variable {H:Type} {enc:TypeId×Value→H} {w:World} {sp:Nat→Bool} {held:Bool}
theorem aJN:Tryz.prog.cellsOf 93=4:=by kernel_rfl
theorem aPQ {v:Value} {d:DataW H} {ps:List MemPlace} (h:DataW.Trod enc Tryz.prog w 0 sp held 93 v d ps) :
  ∃ n0 n1 n2 n3,Rep1 (Ctx.args noS) w (.st [.int .i8 n0,.int .i8 n1,.int .i8 n2,.int .i8 n3]) v∧(-128≤n0∧n0≤127)∧(-128≤n1∧n1≤127)∧(-128≤n2∧n2≤127)∧(-128≤n3∧n3≤127):=by
 obtain ⟨fuel,h⟩:=h
 obtain ⟨hl,f',hf⟩:=aGi Tryz.underlying93 h
 rw [aJN] at hl
 obtain ⟨x0,x1,x2,x3,e⟩:=aU0 hl
 rw [e] at hf
 obtain ⟨y0,g0⟩:=hf _ (List.mem_cons_self ..)
 obtain ⟨y1,g1⟩:=hf _ (List.mem_cons_of_mem _ (List.mem_cons_self ..))
 obtain ⟨y2,g2⟩:=hf _ (List.mem_cons_of_mem _ (List.mem_cons_of_mem _ (List.mem_cons_self ..)))
 obtain ⟨y3,g3⟩:=hf _ (List.mem_cons_of_mem _ (List.mem_cons_of_mem _ (List.mem_cons_of_mem _ (List.mem_cons_self ..))))
 dsimp only at g0 g1 g2 g3
 rw [s9] at g0
 obtain ⟨n0,e0,w0⟩:=uZ Tryz.underlying23 g0
 have z0: [x0]= [.int .i8 n0]:=e0
 simp only [List.cons.injEq,and_true] at z0
 subst z0
 rw [s9] at g1
 obtain ⟨n1,e1,w1⟩:=uZ Tryz.underlying23 g1
 have z1: [x1]= [.int .i8 n1]:=e1
 simp only [List.cons.injEq,and_true] at z1
 subst z1
 rw [s9] at g2
 obtain ⟨n2,e2,w2⟩:=uZ Tryz.underlying23 g2
 have z2: [x2]= [.int .i8 n2]:=e2
 simp only [List.cons.injEq,and_true] at z2
 subst z2
 rw [s9] at g3
 obtain ⟨n3,e3,w3⟩:=uZ Tryz.underlying23 g3
 have z3: [x3]= [.int .i8 n3]:=e3
 simp only [List.cons.injEq,and_true] at z3
 subst z3
 exact ⟨n0,n1,n2,n3,(cW rfl).2 ⟨_,aJG e,⟨_,_,rfl,rfl,_,_,rfl,rfl,_,_,rfl,rfl,_,_,rfl,rfl,rfl⟩⟩,aII w0,aII w1,aII w2,aII w3⟩
end
end
end Go.Proofs.YtijailhickfapaaGreat
