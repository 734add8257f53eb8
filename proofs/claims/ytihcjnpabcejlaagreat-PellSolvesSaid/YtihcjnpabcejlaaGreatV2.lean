/-
  Contracts of functions: sums, differences, products of sizes.
-/
import Derived.Test.YtihcjnpabcejlaaGreatV1
import Derived.Test.YtihcjnpabcejlaaGreatProg
import Derived.Deep.LoopGhost
import Derived.Scope

namespace Go.Proofs.YtihcjnpabcejlaaGreat
open Go Go.RowKit
open Go.IntKind (wrap i64 i32 i16 i8 u64 u32 u16 u8)
open Int (toNat natAbs)
open List (length take drop getD set replicate)
theorem Mem.re {S0:Nat→Prop} {w0:Base} {w w':World} {bx bx':List Box} {c:Ctx} (h:Mem S0 w0 bx c w) (he:ExtB w0 w') (hsz:w.heap.size≤w'.heap.size) (hl:bx'.length=bx.length)
  (hfz:∀ (i:Nat) b',aR bx' i=some b'→∃ b,aR bx i=some b∧b.fz=b'.fz) (hfz':∀ (i:Nat) b,aR bx i=some b→∃ b',aR bx' i=some b'∧b'.fz=b.fz)
  (hb:∀ i b,c.live i→aR bx' i=some b→BoxRep c w' i b):Mem S0 w0 bx' c w':=by
 refine ⟨he,h.S0lt,h.gl,h.hS,fun b=>(h.hW b).trans ⟨?_,?_⟩,h.inj,fun i hi=>⟨(h.fresh i hi).1,Nat.lt_of_lt_of_le (h.fresh i hi).2.1 hsz,by rw [hl];exact (h.fresh i hi).2.2⟩,hb,h.pin⟩
 ·rintro ⟨i,b0,h1,h2,h3,h4⟩
  obtain ⟨b',q1,q2⟩:=hfz' i b0 h2
  exact ⟨i,b',h1,q1,by rw [q2];exact h3,h4⟩
 ·rintro ⟨i,b0,h1,h2,h3,h4⟩
  obtain ⟨b',q1,q2⟩:=hfz i b0 h2
  exact ⟨i,b',h1,q1,by rw [q2];exact h3,h4⟩
theorem l9 {s:MS}:∀ (l:List MV) (acc:List Nat) (ms:List MV) (is:List Nat),s.gives l acc=some (ms,is)→acc.Nodup→(∀ i∈acc,∃ b,aR s.bx i=some b∧b.fz=false∧1≤b.c.wd)→
  (∃ r,is=acc++r)∧is.Nodup∧(∀ i∈is,∃ b,aR s.bx i=some b∧b.fz=false∧1≤b.c.wd)
 | [],acc,ms,is,h,hn,ha=>by
  simp only [MS.gives,Z1,Z2] at h
  obtain ⟨_,rfl⟩:=h
  exact ⟨⟨[],by simp⟩,hn,ha⟩
 | m::l,acc,ms,is,h,hn,ha=>by
  unfold MS.gives at h
  split at h
  ·rename_i i off len
   split at h
   ·rename_i b hb
    cases hc:(!b.fz&&!(acc.elem i)&&b.c.wd.blt 1000000&&(1).ble b.c.wd) with
    | false=>rw [hc] at h;simp at h
    | true =>
     rw [hc,Z6] at h
     simp only [Z3,Bool.not_eq_true',Nat.ble_eq] at hc
     obtain ⟨⟨⟨h1,h2⟩,_⟩,h3⟩:=hc
     have h2:i ∉ acc:=by simpa using h2
     split at h
     ·rename_i l' acc' hg
      simp only [Z1,Z2] at h
      obtain ⟨rfl,rfl⟩:=h
      obtain ⟨⟨r,q1⟩,q2,q3⟩:=l9 l (acc++ [i]) l' acc' hg (by
       rw [List.nodup_append]
       exact ⟨hn,by simp,fun a ha b hb=>by simp at hb;subst hb;exact fun e=>h2 (e ▸ ha)⟩) (fun j hj=>by
       rcases List.mem_append.1 hj with hj|hj
       ·exact ha j hj
       ·simp at hj;subst hj;exact ⟨b,hb,h1,h3⟩)
      exact ⟨⟨i::r,by rw [q1];simp⟩,q2,q3⟩
     ·simp at h
   ·simp at h
  ·cases hc:m.clean true with
   | false=>rw [hc] at h;simp at h
   | true =>
    rw [hc,Z6] at h
    split at h
    ·rename_i l' acc' hg
     simp only [Z1,Z2] at h
     obtain ⟨rfl,rfl⟩:=h
     exact l9 l acc l' acc' hg hn ha
    ·simp at h
def dK (c:Ctx) (is:List Nat):Ctx :=
 ⟨c.S,fun b=>∃ j i,aR is j=some i∧c.live i∧c.β i=b,fun j=>∃ i,aR is j=some i∧c.live i,
 fun j=>match aR is j with|some i=>c.β i|none=>0,fun j=>match aR is j with|some i=>c.sz i|none=>⟨0,0⟩⟩
theorem yB {s:MS} {c:Ctx} {w:World} (hWS:∀ (is:List Nat),(∀ i∈is,∃ b,aR s.bx i=some b∧b.fz=false∧1≤b.c.wd)→∀ b,(dK c is).W b→c.W b) :
  ∀ (l:List MV) (acc:List Nat) (ms:List MV) (is:List Nat),s.gives l acc=some (ms,is)→acc.Nodup→(∀ i∈acc,∃ b,aR s.bx i=some b∧b.fz=false∧1≤b.c.wd)→
  ∀ vs,Pair c w l vs→RepAll (dK c is) w ms vs
 | [],acc,ms,is,h,hn,ha,vs,hp=>by
  simp only [MS.gives,Z1,Z2] at h
  obtain ⟨rfl,_⟩:=h
  cases vs with
  | nil=>rfl
  | cons _ _=>exact hp.elim
 | m::l,acc,ms,is,h,hn,ha,vs,hp=>by
  cases vs with
  | nil=>exact hp.elim
  | cons v vs =>
   obtain ⟨hv,hp⟩:=hp
   have hspec:=l9 (m::l) acc ms is h hn ha
   unfold MS.gives at h
   split at h
   ·rename_i i off len
    split at h
    ·rename_i b hb
     cases hc:(!b.fz&&!(acc.elem i)&&b.c.wd.blt 1000000&&(1).ble b.c.wd) with
     | false=>rw [hc] at h;simp at h
     | true =>
      rw [hc,Z6] at h
      simp only [Z3,Bool.not_eq_true',Nat.ble_eq] at hc
      obtain ⟨⟨⟨h1,h2⟩,_⟩,h3⟩:=hc
      have h2:i ∉ acc:=by simpa using h2
      split at h
      ·rename_i l' acc' hg
       simp only [Z1,Z2] at h
       obtain ⟨rfl,rfl⟩:=h
       have hn':(acc++ [i]).Nodup:=by
        rw [List.nodup_append]
        exact ⟨hn,by simp,fun a ha b hb=>by simp at hb;subst hb;exact fun e=>h2 (e ▸ ha)⟩
       have ha':∀ j∈acc++ [i],∃ b,aR s.bx j=some b∧b.fz=false∧1≤b.c.wd:=fun j hj=>by
        rcases List.mem_append.1 hj with hj|hj
        ·exact ha j hj
        ·simp at hj;subst hj;exact ⟨b,hb,h1,h3⟩
       obtain ⟨⟨r,q1⟩,_,_⟩:=l9 l (acc++ [i]) l' acc' hg hn' ha'
       have hnth:aR acc' acc.length=some i:=by rw [q1];simp [bQ]
       refine ⟨v,vs,rfl,?_,yB hWS l (acc++ [i]) l' acc' hg hn' ha' vs hp⟩
       obtain ⟨a,cap,rfl,hcap,hor⟩:=kW hv
       refine (aU rfl (by simp)).2 ⟨a,cap,rfl,hcap,hor.imp (fun ⟨e1,e2,e3⟩=>⟨?_,⟨i,hnth,e2⟩,?_⟩) id⟩
       ·simp only [dK,hnth];exact e1
       ·simp only [dK,hnth];exact e3
      ·simp at h
    ·simp at h
   ·cases hc:m.clean true with
    | false=>rw [hc] at h;simp at h
    | true =>
     rw [hc,Z6] at h
     split at h
     ·rename_i l' acc' hg
      simp only [Z1,Z2] at h
      obtain ⟨rfl,rfl⟩:=h
      have hT:m.isTup=false:=by cases m <;> first|rfl|(simp [MV.clean] at hc)
      exact ⟨v,vs,rfl,Rep1.clean (c:=c) (c':=dK c acc') (r:=true) (fun b hb=>hb) (fun _ b hb=>hWS acc' hspec.2.2 b hb) hc ((bA hT).1 hv),yB hWS l acc l' acc' hg hn ha vs hp⟩
     ·simp at h
theorem aBE {bx:List Box}:∀ (is:List Nat) (bcs:List BC),aGv bx is=some bcs→bcs.length=is.length∧∀ (j i:Nat),aR is j=some i→∃ b,aR bx i=some b∧aR bcs j=some b.c
 | [],bcs,h=>by simp only [aGv,Z1] at h;subst h;exact ⟨rfl,fun j i h=>by simp [aR] at h⟩
 | k::r,bcs,h=>by
  simp only [aGv] at h
  split at h
  ·rename_i b l hb hl
   simp only [Z1] at h
   subst h
   obtain ⟨h1,h2⟩:=aBE r l hl
   refine ⟨by simp [h1],fun j i hj=>?_⟩
   cases j with
   | zero=>simp only [aR,Z1] at hj;subst hj;exact ⟨b,hb,rfl⟩
   | succ j=>exact h2 j i hj
  ·simp at h
theorem zQ:∀ (is:List Nat) (l:List BC) (bx:List Box),is.Nodup→l.length=is.length→(∀ i∈is,i<bx.length)→
  (tX is l bx).length=bx.length∧(∀ i,i ∉ is→aR (tX is l bx) i=aR bx i)∧(∀ (j i:Nat) bc,aR is j=some i→aR l j=some bc→aR (tX is l bx) i=some ⟨false,bc⟩)
 | [],l,bx,_,_,_=>by
  have e:tX [] l bx=bx:=by cases l <;> rfl
  rw [e]
  exact ⟨rfl,fun _ _=>rfl,fun j i bc h=>by simp [aR] at h⟩
 | k::r, [],bx,_,hl,_=>by simp at hl
 | k::r,b::l,bx,hn,hl,hlt=>by
  simp only [tX]
  rw [List.nodup_cons] at hn
  obtain ⟨h1,h2,h3⟩:=zQ r l (aO bx k ⟨false,b⟩) hn.2 (by simpa using hl) (fun i hi=>by rw [bX];exact hlt i (by simp [hi]))
  refine ⟨by rw [h1,bX],fun i hi=>?_,fun j i bc hj hb=>?_⟩
  ·simp only [List.mem_cons,not_or] at hi
   rw [h2 i hi.2,bI,if_neg (fun q=>hi.1 q.1.symm)]
  ·cases j with
   | zero =>
    simp only [aR,Z1] at hj hb
    subst hj;subst hb
    rw [h2 k hn.1,bI,if_pos ⟨rfl,hlt k (by simp)⟩]
   | succ j=>exact h3 j i bc hj hb
theorem aE9 {α:Type} {l:List α} {j:Nat} {x:α} (h:aR l j=some x):x∈l:=by rw [bQ] at h;exact List.mem_of_getElem? h
theorem aIO {α:Type} {l:List α} {x:α} (h:x∈l):∃ j,aR l j=some x:=by
 obtain ⟨j,hj,rfl⟩:=List.getElem_of_mem h
 exact ⟨j,by rw [bQ];simp [hj]⟩
theorem aLJ {l:List Nat} (hn:l.Nodup) {j k x:Nat} (h1:aR l j=some x) (h2:aR l k=some x):j=k:=by
 rw [bQ] at h1 h2
 have l1:=(List.getElem?_eq_some_iff.1 h1).1
 exact (List.getElem?_inj l1 hn).1 (h1.trans h2.symm)
theorem aQ3 {P:Program} {s s2:MS} {k:MCtr P} {l:List MV} {p:OProp} {m:MV} (h:aNF s k l= .upd p s2 m) (hp:p.holds) {S0:Nat→Prop} {w0:Base} {w:World} {c:Ctx} (hM:Mem S0 w0 s.bx c w)
  {vs:List Value} (hv:Pair c w l vs) :
  Calls P k.f vs.toArray w fun e w'=>e= .returned (.tuple #[])∧Mem S0 w0 s2.bx c w'∧Keeps c c w w'∧s2.tm=s.tm∧s2.n=s.n∧s2.np=s.np∧m= .tup []:=by
 unfold aNF at h
 split at h
 ·rename_i ms is hg
  split at h
  ·rename_i bcs hcs
   split at h
   ·rename_i p' bcs' hsp
    cases hwd:aK1 bcs bcs' with
    | false=>rw [hwd] at h;simp at h
    | true =>
     rw [hwd,Z6,Act1.upd.injEq] at h
     obtain ⟨rfl,rfl,rfl⟩:=h
     obtain ⟨_,hnd,hbx⟩:=l9 l [] ms is hg List.nodup_nil (by simp)
     have hWS:∀ (is:List Nat),(∀ i∈is,∃ b,aR s.bx i=some b∧b.fz=false∧1≤b.c.wd)→∀ b,(dK c is).W b→c.W b:=by
      rintro is his b ⟨j,i,h1,h2,h3⟩
      obtain ⟨bb,q1,q2,_⟩:=his i (aE9 h1)
      exact (hM.hW b).2 ⟨i,bb,h2,q1,q2,h3⟩
     have hrep:=yB hWS l [] ms is hg List.nodup_nil (by simp) vs hv
     obtain ⟨hcl,hcn⟩:=aBE is bcs hcs
     have hne:∀ (i:Nat) b,aR s.bx i=some b→i∈is→∀ m,b.c≠ .one m:=by
      intro i b hb hi m e
      obtain ⟨b2,q1,_,q3⟩:=hbx i hi
      rw [hb,Z1] at q1
      subst q1
      rw [e] at q3;simp [BC.wd] at q3
     have hgiven:Given (dK c is).W (dK c is) w bcs:=by
      refine ⟨hM.Slt,fun b hb=>hM.WS b (hWS is hbx b hb),fun b=>?_,fun _=>Iff.rfl,?_,?_,?_⟩
      ·constructor
       ·rintro ⟨j,i,h1,h2,h3⟩;exact ⟨j,⟨i,h1,h2⟩,by simp only [dK,h1];exact h3⟩
       ·rintro ⟨j,⟨i,h1,h2⟩,h3⟩;exact ⟨j,i,h1,h2,by simpa only [dK,h1] using h3⟩
      ·rintro j j' ⟨i,h1,h2⟩ ⟨i',h1',h2'⟩ e
       simp only [dK,h1,h1'] at e
       have:=hM.inj i i' h2 h2' e
       subst this
       exact aLJ hnd h1 h1'
      ·rintro j ⟨i,h1,_⟩
       rw [hcl];exact i6 h1
      ·rintro j bc ⟨i,h1,h2⟩ hj
       obtain ⟨b,q1,q2⟩:=hcn j i h1
       rw [hj,Z1] at q2
       subst q2
       obtain ⟨arr,ty,r1,r2,r3,r4⟩:=hM.box i b h2 q1
       refine ⟨arr,ty,by simp only [dK,h1];exact r1,by simp only [dK,h1];exact r2,by simp only [dK,h1];exact r3,?_⟩
       have hno:=hne i b q1 (aE9 h1)
       obtain ⟨fz,bc⟩:=b
       cases bc with
       | one m=>exact absurd rfl (hno m)
       | arr k l=>exact r4
       | rows wd len f=>exact r4
     refine (k.ok (dK c is).W (dK c is) w bcs bcs' ms vs.toArray p' hsp hp hgiven hM.gw (by simpa using hrep)).mono ?_
     rintro e w' ⟨he,hext,hlen,hbox⟩
     have hlt:∀ i∈is,i<s.bx.length:=fun i hi=>by obtain ⟨b,q,_⟩:=hbx i hi;exact i6 q
     obtain ⟨p1,p2,p3⟩:=zQ is bcs' s.bx hnd (by rw [hlen,hcl]) hlt
     have hkeep:Keeps c c w w':=⟨fun _ _ h=>h,fun _ _ h=>h,fun i hi=>⟨hi,rfl,rfl⟩,fun b hb hS=>hext.block b hb (fun hx=>hS (hM.WS b (hWS is hbx b hx))),fun b hb hW=>hext.block b hb (fun hx=>hW (hWS is hbx b hx))⟩
     have hget:∀ i∈is,∃ j bc,aR is j=some i∧aR bcs' j=some bc:=fun i hi=>by
      obtain ⟨j,hj⟩:=aIO hi
      have:j<bcs'.length:=by rw [hlen,hcl];exact i6 hj
      exact ⟨j,bcs'[j],hj,by rw [bQ];simp [this]⟩
     refine ⟨he,hM.re ⟨hext.os.trans hM.ext.os,hext.output.trans hM.ext.output,Nat.le_trans hM.ext.size hext.size,fun b hb hx=>?_,fun a ha=>(hext.frz a (Nat.lt_of_lt_of_le ha hM.ext.size)).trans (hM.ext.frz a ha),hext.tape.trans hM.ext.tape,Nat.le_trans hM.ext.dr hext.dr⟩ hext.size p1 ?_ ?_ ?_,hkeep,rfl,rfl,rfl,rfl⟩
     ·refine (hext.block b (Nat.lt_of_lt_of_le hb hM.ext.size) ?_).trans (hM.ext.block b hb hx)
      rintro ⟨j,i,h1,h2,rfl⟩
      rcases (hM.fresh i h2).1 with q|q
      ·omega
      ·exact hx q
     ·intro i b' hb'
      by_cases hi:i∈is
      ·obtain ⟨j,bc,h1,h2⟩:=hget i hi
       rw [p3 j i bc h1 h2,Z1] at hb'
       subst hb'
       obtain ⟨b,q1,q2,_⟩:=hbx i hi
       exact ⟨b,q1,q2⟩
      ·rw [p2 i hi] at hb';exact ⟨b',hb',rfl⟩
     ·intro i b hb
      by_cases hi:i∈is
      ·obtain ⟨j,bc,h1,h2⟩:=hget i hi
       obtain ⟨b2,q1,q2,_⟩:=hbx i hi
       rw [hb,Z1] at q1
       subst q1
       exact ⟨_,p3 j i bc h1 h2,q2.symm⟩
      ·exact ⟨b,by rw [p2 i hi];exact hb,rfl⟩
     ·intro i b hl hb
      by_cases hi:i∈is
      ·obtain ⟨j,bc,h1,h2⟩:=hget i hi
       rw [p3 j i bc h1 h2,Z1] at hb
       subst hb
       obtain ⟨arr,ty,r1,r2,r3,r4⟩:=hbox j bc ⟨i,h1,hl⟩ h2
       simp only [dK,h1] at r1 r2 r3
       refine ⟨arr,ty,r1,r2,r3,?_⟩
       obtain ⟨b2,q1,_,q3⟩:=hbx i hi
       obtain ⟨_,_,_,_,r3',_⟩:=hM.box i b2 hl q1
       have r3:(c.sz i).wd=bc.wd:=r3
       cases bc with
       | one m=>rw [r3'] at r3;simp only [BC.wd] at r3 q3;rw [r3] at q3;omega
       | arr k l=>exact r4
       | rows wd len f=>exact r4
      ·rw [p2 i hi] at hb
       refine (hM.box i b hl hb).keep hkeep hl (hext.block _ (hM.fresh i hl).2.1 ?_)
       rintro ⟨j,i',h1,h2,h3⟩
       have:=hM.inj i' i h2 hl h3
       subst this
       exact hi (aE9 h1)
   ·simp at h
  ·simp at h
 ·simp at h
theorem Mem.adopt {S0:Nat→Prop} {w0:Base} {w w':World} {bx:List Box} {c:Ctx} (h:Mem S0 w0 bx c w) (e:Ext w w') (id:Nat) (hid:w.heap.size≤id) (b:Box)
  (live':Nat→Prop) (β':Nat→Nat) (sz':Nat→Sz) (hl:∀ i,live' i↔c.live i∨i=bx.length) (hβ:∀ i,c.live i→β' i=c.β i) (hs:∀ i,c.live i→sz' i=c.sz i)
  (hβ':β' bx.length=id) (hlt':id<w'.heap.size)
  (hbox:∀ c',Keeps c c' w w'→c'.live=live'→c'.β=β'→c'.sz=sz'→BoxRep c' w' bx.length b) :
  Mem S0 w0 (bx++ [b]) (eO S0 (bx++ [b]) live' β' sz') w'∧Keeps c (eO S0 (bx++ [b]) live' β' sz') w w':=by
 have hlt:∀ i,c.live i→i<bx.length:=fun i hi=>(h.fresh i hi).2.2
 have hnth:∀ i,i<bx.length→aR (bx++ [b]) i=aR bx i:=fun i hi=>by simp only [bQ];rw [List.getElem?_append_left hi]
 have hnthb:aR (bx++ [b]) bx.length=some b:=by simp [bQ]
 have hWn:∀ x,Wof (bx++ [b]) live' β' x→c.W x∨x=id:=by
  rintro x ⟨i,b0,h1,h2,h3,h4⟩
  rcases (hl i).1 h1 with hi|rfl
  ·refine .inl ((h.hW x).2 ⟨i,b0,hi,?_,h3,by rw [← hβ i hi];exact h4⟩)
   rwa [hnth i (hlt i hi)] at h2
  ·exact .inr (by rw [← h4,hβ'])
 have k:Keeps c (eO S0 (bx++ [b]) live' β' sz') w w':=by
  refine ⟨fun x hlt hx=>?_,fun x hlt hx=>?_,fun i hi=>⟨(hl i).2 (.inl hi),hβ i hi,hs i hi⟩,fun x hx _=>e.block x hx,fun x hx _=>e.block x hx⟩
  ·rcases hx with hx|hx
   ·exact (h.hS x).2 (.inl hx)
   ·rcases hWn x hx with hx|rfl
    ·exact h.WS x hx
    ·omega
  ·rcases hWn x hx with hx|rfl
   ·exact hx
   ·omega
 refine ⟨⟨h.ext.trans e,h.S0lt,h.gl,fun b=>Iff.rfl,fun b=>Iff.rfl,?_,?_,?_,fun i b z hp=>by obtain ⟨q1,q2,q3⟩:=h.pin i b z hp;exact ⟨(hl i).2 (.inl q1),(hβ i q1).trans q2,(hs i q1).trans q3⟩⟩,k⟩
 ·intro i j hi hj e
  have e:β' i=β' j:=e
  rcases (hl i).1 hi with hi|rfl <;> rcases (hl j).1 hj with hj|rfl
  ·rw [hβ i hi,hβ j hj] at e;exact h.inj i j hi hj e
  ·rw [hβ i hi,hβ'] at e;have:=(h.fresh i hi).2.1;omega
  ·rw [hβ j hj,hβ'] at e;have:=(h.fresh j hj).2.1;omega
  ·rfl
 ·intro i hi
  show w0.new (β' i)∧β' i<w'.heap.size∧i<(bx++ [b]).length
  rw [List.length_append,List.length_singleton]
  rcases (hl i).1 hi with hi|rfl
  ·rw [hβ i hi];have:=h.fresh i hi;have:=e.size;exact ⟨(h.fresh i hi).1,by omega⟩
  ·rw [hβ'];exact ⟨.inl (Nat.le_trans h.ext.size hid),by omega⟩
 ·intro i b0 hi hb0
  rcases (hl i).1 hi with hi|rfl
  ·rw [hnth i (hlt i hi)] at hb0
   exact (h.box i b0 hi hb0).keep k hi (e.block _ (h.fresh i hi).2.1)
  ·rw [hnthb,Z1] at hb0
   subst hb0
   exact hbox _ k rfl rfl rfl
theorem aQ1 {P:Program} {s s2:MS} {k:NCtr P} {l:List MV} {p:OProp} {m:MV} (h:qF s (.nw k) l= .upd p s2 m) (hp:p.holds) {S0:Nat→Prop} {w0:Base} {w:World} {c:Ctx} (hM:Mem S0 w0 s.bx c w) {vs:List Value} (hv:Pair c w l vs) :
  Calls P k.f vs.toArray w fun e w'=>∃ v c',e= .returned v∧Mem S0 w0 s2.bx c' w'∧Keeps c c' w w'∧s2.tm=s.tm∧s2.n=s.n∧s2.np=s.np∧Rep c' w' m v:=by
 simp only [qF] at h
 split at h
 ·rename_i ms q fz hsh
  split at h
  ·rename_i p' wl hsp
   split at h
   ·simp only [Act1.upd.injEq] at h
    obtain ⟨rfl,rfl,rfl⟩:=h
    obtain ⟨hq,hp'⟩:=oand2_holds.1 hp
    have hall:=sP (S':=c.S) (fun b hb=>hb) hM.box (fun i b hl hb hf=>hM.frozen i b hl hb hf) _ ⟨ms,q, []⟩ hsh hq (by simp) vs hv
    refine (k.ok c.S w ms vs.toArray p' wl hsp hp' (fun b hb=>hM.Slt b hb) hM.gw (by simpa using hall)).mono ?_
    rintro e w' ⟨hext,b,arr,ty,cap,rfl,hb,hheap,hsz,hcap,hcont⟩
    have hblt:b<w'.heap.size:=(Array.getElem?_eq_some_iff.1 hheap).1
    have hnl:¬ c.live s.bx.length:=fun hl=>by have:=(hM.fresh _ hl).2.2;omega
    have had:=hM.adopt hext b hb ⟨false,.arr .u32 wl⟩ (fun i=>c.live i∨i=s.bx.length) (fun i=>if i=s.bx.length then b else c.β i) (fun i=>if i=s.bx.length then ⟨cap,1⟩ else c.sz i) (fun i=>Iff.rfl)
     (fun i hi=>if_neg (fun e:i=s.bx.length=>hnl (e ▸ hi))) (fun i hi=>if_neg (fun e:i=s.bx.length=>hnl (e ▸ hi))) (if_pos rfl) hblt (fun c' k q1 q2 q3=>by
      refine ⟨arr,ty,by rw [q2];simpa using hheap,by rw [q3];simpa using hsz,by rw [q3];simp [BC.wd],hcont⟩)
    refine ⟨_,_,rfl,had.1,had.2,rfl,rfl,rfl,?_⟩
    refine (bA rfl).2 ((aU rfl (by simp)).2 ⟨some ⟨b,0,none⟩,cap,rfl,hcap,.inl ⟨?_,.inr rfl,?_⟩⟩)
    ·show _=some (⟨if s.bx.length=s.bx.length then b else c.β s.bx.length,0,none⟩:Addr)
     rw [if_pos rfl]
    ·show 0+cap*(if s.bx.length=s.bx.length then (⟨cap,1⟩:Sz) else c.sz s.bx.length).wd=(if s.bx.length=s.bx.length then (⟨cap,1⟩:Sz) else c.sz s.bx.length).n
     rw [if_pos rfl];simp
   ·simp at h
  ·simp at h
 ·simp at h
theorem aEd {c:Ctx} {w:World} {m:MV} {v:Value} (h:yJ m=true) (hr:Rep c w m v):∃ a,v= .slice a 0 0:=by
 unfold yJ at h
 split at h
 ·obtain ⟨a,h1⟩:=bU hr rfl (by simp) rfl
  simp only [List.cons.injEq,and_true] at h1
  exact ⟨a,h1⟩
 ·obtain ⟨h1,_⟩:=bU hr rfl (by simp) rfl
  simp only [List.cons.injEq,and_true] at h1
  exact ⟨none,h1⟩
 ·simp at h
theorem aRi {c c':Ctx} {w w':World} (kE:Keeps c.elem c'.elem w w') {nw:News} {cs:List Value} {size:Nat} (hn:aME c w size nw cs) {x:MV} (hx:oI x=some nw) {b:Nat} {arr:Array Value} {ty:TypeId} {cap:Nat}
  (hS:¬ c'.S b) (hb:w'.heap[b]? =some (.cells arr ty (0,0))) (h2:∀ (j:Nat) u,cs[j]? =some u→arr[j]? =some u) (hcap:nw.len≤cap):Rep c' w' x (.slice (some ⟨b,0,none⟩) nw.len cap):=by
 unfold oI at hx
 split at hx
 ·rename_i l
  simp only [Z1] at hx
  subst hx
  obtain ⟨_,rfl⟩:=hn
  refine bH rfl (by simp) rfl ⟨_,rfl,_,cap,rfl,hcap,fun _=>⟨b,0,rfl,hS,arr,ty,_,hb,fun j v hv=>?_⟩⟩
  rw [Nat.zero_add];exact h2 j v hv
 ·rename_i wd m g
  simp only [Z1] at hx
  subst hx
  obtain ⟨rfl,hn⟩:=hn
  refine bH rfl (by simp) rfl ⟨_,cap,rfl,hcap,fun _=>⟨b,0,rfl,hS,fun i hi=>?_⟩⟩
  obtain ⟨ds,r1,r2,r3⟩:=hn i hi
  exact ⟨ds,r1,RepC.keep kE _ _ r2,arr,ty,_,hb,fun j v hv=>by rw [Nat.zero_add];exact h2 _ _ (r3 j v hv)⟩
 ·simp at hx
theorem aLD {c:Ctx} {w w':World} (e:Ext w w'):Keeps c.elem c.elem w w' :=
 ⟨fun _ _ h=>h,fun _ _ h=>h,fun _ h=>h.elim,fun b hb _=>e.block b hb,fun b hb _=>e.block b hb⟩
theorem aLm {P:Program} {t ty0:TypeId} {x y:MV} {p:OProp} {m:MV} (h:aIc P t x y=some (p,m)) (hp:p.holds) {w:World} {c:Ctx} (hS:∀ b,c.S b→b<w.heap.size)
  {xv yv:Value} (hx:Rep c w x xv) (hy:Rep c w y yv) :
  ∃ v w',(Builtin.append_ #[t,t] ty0 #[xv,yv]).run P w= .ok v w'∧Ext w w'∧Rep c w' m v:=by
 unfold aIc at h
 split at h
 ·rename_i e hu
  split at h
  ·rename_i i hi
   split at h
   ·rename_i nw hnw
    cases hc:(yJ x&&i.size.beq nw.wd&&(0).blt i.size&&(0).blt i.bytes&&oA i) with
    | false =>
     rw [hc] at h;simp at h
    | true =>
     rw [hc,Z6,Z1,Z2] at h
     obtain ⟨rfl,rfl⟩:=h
     simp only [Z3,Nat.beq_eq,Nat.blt_eq] at hc
     obtain ⟨⟨⟨⟨hnr,hsz⟩,hpos⟩,hby⟩,hz⟩:=hc
     obtain ⟨z,hz0,hzs⟩:∃ z,i.zero=some z∧z.cells.size=i.size:=by
      unfold oA at hz
      split at hz
      ·rename_i z hz0;exact ⟨z,hz0,by simpa using hz⟩
      ·simp at hz
     obtain ⟨a,rfl⟩:=aEd hnr hx
     have hlim:nw.len*i.bytes≤140737488355328:=hp
     have hNR:NewsR c w i.size nw yv:=by
      rw [hsz]
      have e1:aBQ ⟨0, [], [],0⟩ y=some (none,nw):=by
       unfold oI at hnw
       split at hnw
       ·simp only [Z1] at hnw;subst hnw;rfl
       ·simp only [Z1] at hnw;subst hnw;rfl
       ·simp at hnw
      exact xY (s:=⟨0, [], [],0⟩) e1 trivial hy (fun i b _ hb=>by simp [aR] at hb)
     obtain ⟨ax,capx,cs,rfl,hcl,hone,hNC,hcells⟩:=hNR
     have hle63:nw.len≤140737488355328:=Nat.le_trans (Nat.le_mul_of_pos_right _ hby) hlim
     rcases Nat.eq_zero_or_pos nw.len with h0|h0
     ·rw [h0] at hy⊢
      refine ⟨_,w,pP w t ty0 e i hu hi a ax 0 0 capx (Z0 _),Ext.refl w,?_⟩
      unfold oI at hnw
      split at hnw
      ·rename_i l
       simp only [Z1] at hnw;subst hnw
       have:l= []:=List.eq_nil_of_length_eq_zero h0
       subst this
       exact bH rfl (by simp) rfl ⟨_,rfl,a,0,rfl,Z0 _,fun h=>absurd h (by simp)⟩
      ·rename_i wd m g
       simp only [Z1] at hnw;subst hnw
       have h0:m=0:=h0
       subst h0
       exact bH rfl (by simp) rfl ⟨a,0,rfl,Z0 _,fun h=>absurd h (by simp)⟩
      ·simp at hnw
     ·obtain ⟨ad,rfl,hcell⟩:=hcells h0
      have fin:∀ (A:Array Value) (cap:Nat),(∀ j,j<cs.length→A[j]? =cs[j]?)→nw.len≤cap→
        Ext w (w.drew.alloc (.cells A e))∧Rep c (w.drew.alloc (.cells A e)) y (.slice (some ⟨w.heap.size,0,none⟩) nw.len cap):=by
       intro A cap hA hcap
       have hext:Ext w (w.drew.alloc (.cells A e)):=(Ext.drew w).trans (Ext.alloc w.drew A e)
       refine ⟨hext,aRi (aLD hext) hNC hnw (fun hs=>by have:=hS _ hs;omega) (dE w.drew _ _) (fun j u hu=>?_) hcap⟩
       rw [hA j (List.getElem?_eq_some_iff.1 hu).1];exact hu
      cases a with
      | none =>
       have hrun:=run_append_nil (P:=P) w t ty0 e i z hu hi hz0 ad nw.len capx cs hcl hcell h0 (by omega) (by omega)
       have:=fin (cs.toArray++Builtin.zeroCells z.cells (grownCap w nw.len 0 e -nw.len)) _ (fun j hj=>by rw [Array.getElem?_append_left (by simpa using hj)];simp) (grownCap_ge w nw.len 0 e)
       exact ⟨_,_,hrun,this.1,this.2⟩
      | some b =>
       have hrun:=run_append_grow (P:=P) w t ty0 e i z hu hi hz0 b 0 0 [] (by simp) (by simp) ad nw.len capx cs hcl hcell (by omega) (by omega) (growslice_fits (by omega) (by rw [Nat.zero_add];exact hlim))
       rw [Nat.zero_add] at hrun
       have:=fin (([]:List Value).toArray++cs.toArray++Builtin.zeroCells z.cells (grownCap w nw.len 0 e -nw.len)) _ (fun j hj=>by rw [Array.getElem?_append_left (by simpa using hj)];simp) (grownCap_ge w nw.len 0 e)
       exact ⟨_,_,hrun,this.1,this.2⟩
   ·simp at h
  ·simp at h
 ·simp at h
theorem aId {P:Program} {t:TypeId} {len:Nat} {parts:List (Nat×MV)} {p:OProp} {m:MV} (h:aES P t len parts=some (p,m)) (_hp:p.holds) {c:Ctx} {w:World} (hS:∀ b,c.S b→b<w.heap.size) {vals:List (Nat×Value)}
  (hk:parts.map (·.1)=vals.map (·.1)) (hv:∀ (j:Nat) x y,parts[j]? =some x→vals[j]? =some y→Rep c w x.2 y.2) :
  ∃ v w',(Instr.buildSlice t len vals.toArray).run P w= .ok v w'∧Ext w w'∧Rep c w' m v:=by
 unfold aES at h
 cases hc:(parts.all fun q=>q.2.clean false&&!q.2.isTup) with
 | false=>rw [hc] at h;simp at h
 | true =>
  rw [hc,Z6] at h
  split at h
  ·rename_i p' b mk he
   split at h
   ·rename_i wd n f hb
    simp only [Z1,Z2] at h
    obtain ⟨rfl,rfl⟩:=h
    have hmk:mk=fun i=> .bs i 0 n:=by
     unfold bS at he
     split at he
     ·split at he
      ·split at he
       ·revert he
        generalize ((_:List MV).length.beq len&&_&&_&&_)=bb
        intro he
        cases bb <;> simp at he
        obtain ⟨_,rfl,_⟩:=he
        simp at hb
       ·simp at he
      ·revert he
       generalize ((_:List MV).length.beq len&&_&&_&&_&&_)=bb
       intro he
       cases bb <;> simp at he
       obtain ⟨_,rfl,rfl⟩:=he
       simp only [BC.rows.injEq] at hb
       rw [← hb.2.1]
      ·simp at he
     ·simp at he
    have:=pL (vals:=vals) (c:=c.elem) (w:=w) he hk (fun j x y hx hy=>by
     have hall:=List.all_eq_true.1 hc x (List.mem_of_getElem? hx)
     simp only [Z3,Bool.not_eq_true'] at hall
     have h1:=(bA hall.2).1 (hv j x y hx hy)
     exact (bA hall.2).2 (Rep1.clean (c:=c) (c':=c.elem) (r:=false) (fun b hb=>hb) (fun e=>by simp at e) hall.1 h1))
    obtain ⟨arr,ty,v,hrun,_,hnew⟩:=this
    have hext:=Ext.alloc w arr ty
    obtain ⟨g1,g2⟩:=hnew ⟨c.S,fun _=>True,fun i=>i=0,fun _=>w.heap.size,fun _=>⟨arr.size,b.c.wd⟩⟩ 0 ⟨fun _ _ h=>h,fun _ _ h=>h,fun _ h=>h.elim,fun x hx _=>hext.block x hx,fun _ _ h=>(h trivial).elim⟩ rfl rfl rfl
    refine ⟨v,_,hrun,hext,?_⟩
    rw [hmk] at g1
    obtain ⟨ad,cap,e1,e2,e3⟩:=bU g1 rfl (by simp) rfl
    refine (bA rfl).2 ((aU rfl (by simp)).2 ⟨ad,cap,e1,e2,fun hpos=>?_⟩)
    rcases e3 with ⟨rfl,_,_⟩|⟨_,h0,_⟩
    ·obtain ⟨arr',ty',q1,_,_,q4⟩:=g2
     rw [hb] at q4
     refine ⟨w.heap.size,0,rfl,fun hs=>absurd (hS _ hs) (Nat.lt_irrefl _),fun i hi=>?_⟩
     obtain ⟨cs,r1,r2,r3⟩:=q4 i hi
     exact ⟨cs,r1,r2,arr',ty',_,q1,fun j u hj=>by rw [Nat.zero_add];exact r3 j u hj⟩
    ·omega
   ·simp at h
  ·simp at h
theorem aUe {P:Program} {s:MS} {o:Oper} {p:OProp} {m:MV} (h:ev0 P s o.op=some (p,m)) (hp:p.holds) {w:World} {c:Ctx} {a:Act} (hS:∀ b,c.S b→b<w.heap.size)
  (HE:uH c w s a o.op.operands.toList):∃ v w',(execOp a.eval o).run P w= .ok (.value v) w'∧Ext w w'∧Rep c w' m v:=by
 obtain ⟨dst,op,type,pos,after,guard⟩:=o
 cases op with
 | buildSlice t len parts =>
  simp only [ev0] at h
  cases hl:len.beq 0 with
  | false =>
   rw [hl,Z5] at h
   obtain ⟨v,w',h1,h2,h3⟩:=aId (vals:=parts.toList.map fun q=>(q.1,a.eval q.2)) h hp hS (by simp) (fun j x y hx hy=>by
    simp only [List.getElem?_map,Option.map_eq_some_iff] at hx hy
    obtain ⟨q,hq,rfl⟩:=hx
    obtain ⟨q',hq',rfl⟩:=hy
    rw [hq,Z1] at hq'
    subst hq'
    refine HE _ ?_
    simp only [Op.operands,List.mem_map]
    exact ⟨q,List.mem_of_getElem? hq,rfl⟩)
   have e:(parts.map fun q=>(q.1,a.eval q.2))=(parts.toList.map fun q=>(q.1,a.eval q.2)).toArray:=by apply Array.ext';simp
   rw [← e] at h1
   exact ⟨v,w',by simp [execOp,h1,Result.andThen],h2,h3⟩
  | true =>
   rw [hl,Z6] at h
   simp only [Nat.beq_eq] at hl
   subst hl
   split at h
   ·rename_i hpt
    split at h
    ·rename_i e hu
     split at h
     ·rename_i q ht
      obtain ⟨agg,size⟩:=q
      simp only [Z1,Z2] at h
      obtain ⟨rfl,rfl⟩:=h
      have ep:parts=#[]:=Array.ext' hpt
      subst ep
      refine ⟨.slice (some ⟨w.heap.size,0,none⟩) 0 0,w.alloc (.cells #[] e),?_,Ext.alloc w _ _,bH rfl (by simp) rfl ⟨_,rfl⟩⟩
      simp [execOp,Instr.buildSlice,run_underlying hu,bM ht,newRow,Instr.fill]
      rw [show Array.map (fun _=>(default:Value)) (Array.range 0)=#[] from Array.eq_empty_of_size_eq_zero (by simp)]
     ·simp at h
    ·simp at h
   ·simp at h
 | call cc =>
  obtain ⟨callee,args,tys⟩:=cc
  simp only [ev0] at h
  split at h
  ·split at h
   ·rename_i d x hargs
    split at h
    ·rename_i t t' htys
     cases htt:t.beq t' with
     | false=>rw [htt] at h;simp at h
     | true =>
      rw [htt,Z6] at h
      simp only [Nat.beq_eq] at htt
      subst htt
      have ea:args=#[d,x]:=Array.ext' hargs
      have et:tys=#[t,t]:=Array.ext' htys
      subst ea;subst et
      obtain ⟨v,w',hrun,hext,hr⟩:=aLm (ty0:=type) h hp hS (HE d (by simp [Op.operands,Call.operands])) (HE x (by simp [Op.operands,Call.operands]))
      exact ⟨v,w',by simp [execOp,resolve,invoke,builtin,hrun],hext,hr⟩
    ·simp at h
   ·simp at h
  ·simp at h
 | _=>simp [ev0] at h
theorem Keeps.trans' {c1 c2 c3:Ctx} {w1 w2 w3:World} (h:Keeps c1 c2 w1 w2) (hs:w1.heap.size≤w2.heap.size) (k:Keeps c2 c3 w2 w3):Keeps c1 c3 w1 w3 :=
 ⟨fun b hb q=>h.S b hb (k.S b (by omega) q),fun b hb q=>h.W b hb (k.W b (by omega) q),fun i hi=>by
  obtain ⟨a1,a2,a3⟩:=h.live i hi
  obtain ⟨b1,b2,b3⟩:=k.live i a1
  exact ⟨b1,b2.trans a2,b3.trans a3⟩,
 fun b hb q=>(k.heapS b (by omega) (fun q2=>q (h.S b hb q2))).trans (h.heapS b hb q),fun b hb q=>(k.heapW b (by omega) (fun q2=>q (h.W b hb q2))).trans (h.heapW b hb q)⟩
theorem aLx {P:Program} {t ty0:TypeId} {x y:MV} {p:OProp} {b:Box} {n:Nat} (h:aIn P t x y=some (p,b,n)) (hp:p.holds) {w:World} {c:Ctx}
  {xv yv:Value} (hx:Rep c w x xv) (hy:Rep c w y yv) :
  ∃ v arr ty,(Builtin.append_ #[t,t] ty0 #[xv,yv]).run P w= .ok v (w.drew.alloc (.cells arr ty))∧b.fz=false∧
   ∀ (c':Ctx) (id:Nat),Keeps c c' w (w.drew.alloc (.cells arr ty))→c'.live id→c'.β id=w.heap.size→c'.sz id=⟨arr.size,b.c.wd⟩→
    Rep c' (w.drew.alloc (.cells arr ty)) (.bs id 0 n) v∧BoxRep c' (w.drew.alloc (.cells arr ty)) id b:=by
 unfold aIn at h
 split at h
 ·rename_i e hu
  split at h
  ·rename_i i hi
   split at h
   ·rename_i nw hnw
    cases hc:(yJ x&&i.size.beq nw.wd&&(0).blt i.size&&(0).blt i.bytes&&oA i) with
    | false =>
     rw [hc] at h;simp at h
    | true =>
     rw [hc,Z6,Z1,Z2,Z2] at h
     obtain ⟨rfl,rfl,rfl⟩:=h
     simp only [Z3,Nat.beq_eq,Nat.blt_eq] at hc
     obtain ⟨⟨⟨⟨hnr,hsz⟩,hpos⟩,hby⟩,hz⟩:=hc
     obtain ⟨z,hz0,hzs⟩:∃ z,i.zero=some z∧z.cells.size=i.size:=by
      unfold oA at hz
      split at hz
      ·rename_i z hz0;exact ⟨z,hz0,by simpa using hz⟩
      ·simp at hz
     obtain ⟨a,rfl⟩:=aEd hnr hx
     obtain ⟨h0,hlim⟩:0<nw.len∧nw.len*i.bytes≤140737488355328:=hp
     have hNR:NewsR c w i.size nw yv:=by
      rw [hsz]
      have e1:aBQ ⟨0, [], [],0⟩ y=some (none,nw):=by
       unfold oI at hnw
       split at hnw
       ·simp only [Z1] at hnw;subst hnw;rfl
       ·simp only [Z1] at hnw;subst hnw;rfl
       ·simp at hnw
      exact xY (s:=⟨0, [], [],0⟩) e1 trivial hy (fun i b _ hb=>by simp [aR] at hb)
     obtain ⟨ax,capx,cs,rfl,hcl,hone,hNC,hcells⟩:=hNR
     have hle63:nw.len≤140737488355328:=Nat.le_trans (Nat.le_mul_of_pos_right _ hby) hlim
     obtain ⟨ad,rfl,hcell⟩:=hcells h0
     have hcap:=grownCap_ge w nw.len 0 e
     have fin:∀ (A:Array Value),(∀ j,j<cs.length→A[j]? =cs[j]?)→A.size=grownCap w nw.len 0 e*i.size→
       ∀ (c':Ctx) (id:Nat),Keeps c c' w (w.drew.alloc (.cells A e))→c'.live id→c'.β id=w.heap.size→c'.sz id=⟨A.size,(aCj nw).wd⟩→
        Rep c' (w.drew.alloc (.cells A e)) (.bs id 0 nw.len) (.slice (some ⟨w.heap.size,0,none⟩) nw.len (grownCap w nw.len 0 e))∧BoxRep c' (w.drew.alloc (.cells A e)) id ⟨false,aCj nw⟩:=by
      intro A hA hAs c' id kk hlv hb hs
      have hwd:(aCj nw).wd=i.size:=by
       rw [hsz]
       cases nw <;> rfl
      refine ⟨bH rfl (by simp) rfl ⟨_,_,rfl,hcap,.inl ⟨by rw [hb],hlv,?_⟩⟩,?_⟩
      ·rw [hs]
       show 0+_*(aCj nw).wd=A.size
       rw [hwd,hAs];omega
      ·refine ⟨A,e,by rw [hb];exact dE w.drew _ _,by rw [hs],by rw [hs],?_⟩
       have hA':∀ (j:Nat) u,cs[j]? =some u→A[j]? =some u:=fun j u hu=>by
        rw [hA j (List.getElem?_eq_some_iff.1 hu).1];exact hu
       cases nw with
       | ints k l =>
        obtain ⟨_,rfl⟩:=hNC
        exact fun j n hn=>hA' j _ (by simp [hn])
       | rows wd m g =>
        obtain ⟨rfl,hn⟩:=hNC
        intro q hq
        obtain ⟨ds,r1,r2,r3⟩:=hn q hq
        exact ⟨ds,r1,RepC.keep kk.elem _ _ r2,fun j v hv=>hA' _ _ (r3 j v hv)⟩
     cases a with
     | none =>
      have hrun:=run_append_nil (P:=P) w t ty0 e i z hu hi hz0 ad nw.len capx cs hcl hcell h0 (by omega) (by omega)
      exact ⟨_,_,_,hrun,rfl,fin (cs.toArray++Builtin.zeroCells z.cells (grownCap w nw.len 0 e -nw.len)) (fun j hj=>by rw [Array.getElem?_append_left (by simpa using hj)];simp) (by
       rw [Array.size_append,size_zeroCells,hzs]
       simp only [List.size_toArray,hcl]
       rw [← Nat.add_mul]
       congr 1;omega)⟩
     | some b =>
      have hrun:=run_append_grow (P:=P) w t ty0 e i z hu hi hz0 b 0 0 [] (by simp) (by simp) ad nw.len capx cs hcl hcell (by omega) (by omega) (growslice_fits (by omega) (by rw [Nat.zero_add];exact hlim))
      rw [Nat.zero_add] at hrun
      exact ⟨_,_,_,hrun,rfl,fin (([]:List Value).toArray++cs.toArray++Builtin.zeroCells z.cells (grownCap w nw.len 0 e -nw.len)) (fun j hj=>by rw [Array.getElem?_append_left (by simpa using hj)];simp) (by
       rw [Array.size_append,size_zeroCells,hzs]
       simp only [Array.size_append,List.size_toArray,hcl,List.length_nil]
       rw [Nat.zero_add,← Nat.add_mul]
       congr 1;omega)⟩
   ·simp at h
  ·simp at h
 ·simp at h
theorem aLw {P:Program} {s:MS} {o:Oper} {p:OProp} {b:Box} {n:Nat} (h:aBP P s o.op=some (p,b,n)) (hp:p.holds) {w:World} {c:Ctx} {a:Act}
  (HE:uH c w s a o.op.operands.toList):∃ v arr ty,(execOp a.eval o).run P w= .ok (.value v) (w.drew.alloc (.cells arr ty))∧b.fz=false∧
   ∀ (c':Ctx) (id:Nat),Keeps c c' w (w.drew.alloc (.cells arr ty))→c'.live id→c'.β id=w.heap.size→c'.sz id=⟨arr.size,b.c.wd⟩→
    Rep c' (w.drew.alloc (.cells arr ty)) (.bs id 0 n) v∧BoxRep c' (w.drew.alloc (.cells arr ty)) id b:=by
 obtain ⟨dst,op,type,pos,after,guard⟩:=o
 cases op with
 | call cc =>
  obtain ⟨callee,args,tys⟩:=cc
  simp only [aBP] at h
  split at h
  ·split at h
   ·rename_i d x hargs
    split at h
    ·rename_i t t' htys
     cases htt:t.beq t' with
     | false=>rw [htt] at h;simp at h
     | true =>
      rw [htt,Z6] at h
      simp only [Nat.beq_eq] at htt
      subst htt
      have ea:args=#[d,x]:=Array.ext' hargs
      have et:tys=#[t,t]:=Array.ext' htys
      subst ea;subst et
      obtain ⟨v,arr,ty,hrun,hr⟩:=aLx (ty0:=type) h hp (HE d (by simp [Op.operands,Call.operands])) (HE x (by simp [Op.operands,Call.operands]))
      exact ⟨v,arr,ty,by simp [execOp,resolve,invoke,builtin,hrun],hr⟩
    ·simp at h
   ·simp at h
  ·simp at h
 | _=>simp [aBP] at h
theorem aNx {P:Program} {E:Env P} {s:MS} {o:Op} {p:OProp} {m:MV} (h:aDl E s o= .val p m):iH E s o= .val p m:=by
 unfold aDl at h;split at h
 ·simp at h
 ·split at h
  ·simp at h
  ·exact h
theorem aIb {P:Program} {E:Env P} {s:MS} {o:Oper} {p:OProp} {b:Box} {mk:Nat→MV} (h:aDl E s o.op= .new p b mk) (hp:p.holds) {c:Ctx} {w:World} {a:Act}
  (HE:uH c w s a o.op.operands.toList):∃ w1,Ext w w1∧w1.heap.size=w.heap.size∧∃ arr ty v,(execOp a.eval o).run P w= .ok (.value v) (w1.alloc (.cells arr ty))∧
   ∀ (c':Ctx) (id:Nat),Keeps c c' w (w1.alloc (.cells arr ty))→c'.live id→c'.β id=w.heap.size→c'.sz id=⟨arr.size,b.c.wd⟩→
    Rep c' (w1.alloc (.cells arr ty)) (mk id) v∧BoxRep c' (w1.alloc (.cells arr ty)) id b:=by
 unfold aDl at h;split at h
 ·rename_i p' b' n he
  simp only [Act1.new.injEq] at h
  obtain ⟨rfl,rfl,rfl⟩:=h
  have he2:aBP P s o.op=some (p',b',n):=by
   cases hb:aLI (E.fzs 999999) with
   | false=>rw [hb] at he;simp at he
   | true=>rw [hb] at he;exact he
  obtain ⟨v,arr,ty,h1,_,h2⟩:=aLw he2 hp HE
  exact ⟨w.drew,Ext.drew w,rfl,arr,ty,v,h1,h2⟩
 ·split at h
  ·simp at h
  ·obtain ⟨r,hex,⟨arr,ty,v,hrn,_,hnew⟩⟩:=aET h hp HE
   exact ⟨w,Ext.refl w,rfl,arr,ty,v,by rw [hex,cE hrn],hnew⟩
theorem aGD {P:Program} {E:Env P} {s s':MS} {o:Op} {p:OProp} {m:MV} (h:aDl E s o= .upd p s' m):iH E s o= .upd p s' m:=by
 unfold aDl at h;split at h
 ·simp at h
 ·split at h
  ·simp at h
  ·exact h
theorem aNw {P:Program} {E:Env P} {s:MS} {o:Op} {p:OProp} {r:MRes} {fz:List Nat} (h:aDl E s o= .res p r fz):iH E s o= .res p r fz∨∃ m,r= .ret m∧ev0 P s o=some (p,m):=by
 unfold aDl at h;split at h
 ·simp at h
 ·split at h
  ·rename_i p' m he
   simp only [Act1.res.injEq] at h
   obtain ⟨rfl,rfl,rfl⟩:=h
   refine .inr ⟨m,rfl,?_⟩
   cases hb:aLI (E.fzs 999995) with
   | false=>rw [hb] at he;exact he
   | true=>rw [hb] at he;simp at he
  ·exact .inl h
theorem evRes_holds {kr kp:MV→Prop} {c:Ctx} {w:World} {e:Ending}:∀ (r:MRes),l7 kr kp r→r.holds c w e→
  (∃ m v,e= .returned v∧Rep c w m v∧kr m)∨(∃ m v,e= .panicked [{ v,recovered:=false }]∧Rep1 c w m v∧kp m)
 | .ret m,h,hh=>by
  cases e <;> simp only [MRes.holds] at hh
  exact .inl ⟨m,_,rfl,hh,h⟩
 | .pan m,h,hh=>by
  cases e <;> simp only [MRes.holds] at hh
  obtain ⟨v,rfl,hr⟩:=hh
  exact .inr ⟨m,v,rfl,hr,h⟩
 | .br b x y,h,hh=>by
  simp only [l7,Br] at h
  have hh:cond b (x.holds c w e) (y.holds c w e):=by cases e <;> exact hh
  cases b with
  | true=>exact evRes_holds x h hh
  | false=>exact evRes_holds y h hh
theorem aO4 {S S':Nat→Prop} {w:World} {m:MV} {v:Value} (h:Rep1 (Ctx.res S') w m v) (hS:∀ b,S b→S' b):Rep1 (Ctx.res S) w m v :=
 h.keep (⟨fun b _=>hS b,fun _ _ _=>trivial,fun _ h=>h.elim,fun _ _ _=>rfl,fun _ _ _=>rfl⟩:Keeps (Ctx.res S') (Ctx.res S) w w)
theorem aBX {P:Program} {f:Nat}:∀ {l:List (Mu P)} {k:Mu P},qH f l=some k→k.f=f
 | [],_,h=>by simp [qH] at h
 | x::l,k,h=>by
  simp only [qH] at h
  cases hc:x.f.beq f with
  | true=>rw [hc] at h;simp at h;subst h;simpa using hc
  | false=>rw [hc] at h;exact aBX (l:=l) h
theorem St.keepTm {S0:Nat→Prop} {w0:Base} {w w':World} {s s':MS} {c c':Ctx} {a:Act} (h:St S0 w0 s c a w) (k:Keeps c c' w w') (hm:Mem S0 w0 s'.bx c' w') (ht:s'.tm=s.tm) (hn:s'.n=s.n) (hnp:s'.np=s.np):St S0 w0 s' c' a w' :=
 ⟨hm,fun t=>by rw [ht];exact (h.tm t).keep k,by rw [hn];exact h.size,h.defers,by rw [hnp];exact h.np⟩
theorem aIp {s:MS} {x:MV} {m:MV} (h:hZ s x= .pan m) {S0:Nat→Prop} {w0:Base} {w:World} {c:Ctx} (hM:Mem S0 w0 s.bx c w) {v:Value} (hx:Rep c w x v) :
  (∃ t u,v= .iface t u)∧Rep1 (Ctx.res S0) w m v:=by
 unfold hZ at h
 split at h
 ·rename_i t mm
  split at h
  ·rename_i m' fz hsh
   cases hc:(m'.clean false&&m'.plain) with
   | false=>rw [hc] at h;simp at h
   | true =>
    rw [hc,Z6,Act1.pan.injEq] at h
    subst h
    simp only [Z3] at hc
    obtain ⟨hc1,hc2⟩:=hc
    obtain ⟨cs,u,h1,h2,h3⟩:=bU hx rfl (by simp) rfl
    simp only [List.cons.injEq,and_true] at h1
    subst h1
    refine ⟨⟨t,u,rfl⟩,?_⟩
    have hr1:Rep1 c w mm u:=by
     by_cases hn:mm= .any
     ·subst hn;trivial
     ·cases hg:mm.isAgg with
      | true=>rw [cY hg];rw [hg] at h3;exact ⟨cs.toArray,by simpa using h3,by simpa using h2⟩
      | false =>
       rw [aU hg hn]
       have hnt:∀ ms,mm≠ .tup ms:=by intro ms e;subst e;exact h2.elim
       have hlen:=RepC.len _ _ h2
       rw [dU hg hnt] at hlen
       obtain ⟨y,rfl⟩:=List.length_eq_one_iff.1 hlen
       rw [hg] at h3
       have:u=y:=by simpa using h3
       subst this
       exact h2
    obtain ⟨s1,_⟩:=sO (S':=S0) (fun b hb=>(hM.hS b).2 (.inl hb)) hM.box (fun i b hl hb hf hs=>hM.frozen i b hl hb hf ((hM.hS _).2 (.inl hs))) mm ⟨m',none,fz⟩ hsh trivial
     (fun i _ hl hS=>hM.notS0 hl hS) u hr1
    have s2:Rep1 (Ctx.res S0) w m' u:=Rep1.clean (c:=Ctx.args S0) (c':=Ctx.res S0) (r:=false) (fun b hb=>hb) (fun e=>by simp at e) hc1 s1
    have hT:m'.isTup=false:=by cases m' <;> first|rfl|(simp [MV.plain] at hc2)
    obtain ⟨q1,q2⟩:=jZ ((bA hT).2 s2) hc2
    refine (aU rfl (by simp)).2 ⟨u.cells.toList,u,rfl,q1,?_⟩
    have q2:=q2.symm
    unfold pT at q2
    cases hg:m'.isAgg with
    | true=>rw [hg] at q2;simpa using q2
    | false=>rw [hg] at q2;simpa using q2
  ·simp at h
  ·simp at h
 ·simp at h
theorem aO8 {P:Program} {E:Env P} {Kp:MV→Prop} {s:MS} {o:Oper} {F:MS→Prop}
  (H:match iH E s o.op with
   | .val p m=>lE p <| F (s.putO o.dst m)
   | .new p b mk=>lE p <| F (({ s with bx:=s.bx++ [b] }:MS).putO o.dst (mk s.bx.length))
   | .res p r fz=>lE p <| l7 (fun m=>F ((s.frz fz).putO o.dst m)) Kp r
   | .upd p s' m=>lE p <| F (s'.putO o.dst m)
   | .pan m=>Kp m
   | .stuck=>bW o.op s)
  {S0:Nat→Prop} {w0:Base} {w:World} {c:Ctx} {a:Act} (hSt:St S0 w0 s c a w) (hd:gF o.dst s.n=true)
  {K:Act→World→Prop} {Q:Exit→Act→World→Prop}
  (hF:∀ s' c' a' w',F s'→St S0 w0 s' c' a' w'→s'.n=s.n→K a' w')
  (hP:∀ m v w' a',Kp m→ExtB w0 w'→Rep1 (Ctx.res S0) w' m v→a'.defers=w0.df→Q (.panic [{ v,recovered:=false }]) a' w') :
  o.wp P a w K Q:=by
 have HE:uH c w s a o.op.operands.toList:=kH fun t _=>hSt.tm t
 have put_n:∀ (s':MS) (m:MV),(s'.putO o.dst m).n=s'.n:=fun s' m=>by cases o.dst <;> rfl
 split at H
 ·rename_i p m he
  obtain ⟨hp,H⟩:=oand_holds.1 H
  obtain ⟨v,hrun,hr⟩:=aJR he hp HE hSt.mem.box hSt.mem.WS hSt.mem.gw (fun i b hl hb hf=>hSt.mem.frozen i b hl hb hf)
  unfold Oper.wp
  rw [hrun,Oper.upon_value]
  exact hF _ c _ _ H (hSt.putO hd hr) (put_n _ _)
 ·rename_i p b mk he
  obtain ⟨hp,H⟩:=oand_holds.1 H
  obtain ⟨r,hex,⟨arr,ty,v,hrun,_,hnew⟩⟩:=aET he hp HE
  unfold Oper.wp
  rw [hex,cE hrun,Oper.upon_value]
  let n:=s.bx.length
  have hnl:¬ c.live n:=fun hl=>by have:=(hSt.mem.fresh _ hl).2.2;omega
  have hal:=hSt.mem.alloc arr ty b (fun i=>c.live i∨i=n) (fun i=>if i=n then w.heap.size else c.β i) (fun i=>if i=n then ⟨arr.size,b.c.wd⟩ else c.sz i) (fun i=>Iff.rfl)
   (fun i hi=>if_neg (fun e:i=n=>hnl (e ▸ hi))) (fun i hi=>if_neg (fun e:i=n=>hnl (e ▸ hi))) (if_pos rfl)
   (fun c' k e1 e2 e3=>(hnew c' n k (by rw [e1];exact .inr rfl) (by rw [e2];exact if_pos rfl) (by rw [e3];exact if_pos rfl)).2)
  have hrep:=(hnew _ n hal.2 (.inr rfl) (if_pos rfl) (if_pos rfl)).1
  have hs1:St S0 w0 { s with bx:=s.bx++ [b] } _ a _:=hSt.keepTm (s':={ s with bx:=s.bx++ [b] }) hal.2 hal.1 rfl rfl rfl
  exact hF _ _ _ _ H (hs1.putO hd hrep) (put_n _ _)
 ·rename_i p r fz he
  obtain ⟨hp,H⟩:=oand_holds.1 H
  obtain ⟨dst,type,pos,after,guard,f,args,tys,rfl,hcall⟩:=uY he
  obtain ⟨hm,hk,hz⟩:=hSt.mem.frz fz
  have hM:=hSt.mem
  have hf:=HE f (by simp [Op.operands,Call.operands])
  have hargs:=vX (c:=c) (w:=w) (s:=s) (a:=a) args.toList (fun x hx=>HE x (by simp [Op.operands,Call.operands];exact .inr (Array.mem_def.2 hx)))
  obtain ⟨f',caps,hfv,hcf,hC⟩:=aDQ hcall hp hf hargs hM.box
   (S':=(eO S0 (gM fz s.bx) c.live c.β c.sz).S) (fun i b hl hb hf hs=>hM.frozen i b hl hb hf (hk.S _ (hm.Slt _ hs) hs)) (fun b hb=>hk.S b (hm.Slt b hb) hb) hz (fun b hb=>hm.Slt b hb) hM.gw
  have eargs:(args.toList.map a.eval).toArray=args.map a.eval:=by apply Array.ext';simp
  rw [eargs] at hcf hC
  have hrun:(execOp a.eval ⟨dst,.call ⟨.value f,args,tys⟩,type,pos,after,guard⟩).run P w= .ok (.enter f' (args.map a.eval++caps)) w:=by
   simp [execOp,resolve,Deferred.ofValue,hfv,invoke,hcf]
  unfold Oper.wp
  rw [hrun,Oper.upon_enter]
  refine hC.mono fun e w' ⟨hext,hh⟩=>?_
  obtain ⟨hm2,hk2⟩:=hm.grow hext
  rcases evRes_holds r H hh with ⟨m,v,rfl,hr,hF'⟩|⟨m,v,rfl,hr,hK⟩
  ·have hs1:St S0 w0 (s.frz fz) _ a w':=(hSt.keepTm (s':=s.frz fz) hk hm rfl rfl rfl).keepTm (s':=s.frz fz) hk2 hm2 rfl rfl rfl
   exact hF _ _ _ _ hF' (hs1.putO hd (aHc hr (fun b hb=>hb))) (put_n _ _)
  ·exact hP m v w' a hK hm2.ext (aO4 hr (fun b hb=> .inl hb)) hSt.defers
 ·rename_i p s2 m he
  obtain ⟨hp,H⟩:=oand_holds.1 H
  rcases aIe he with ⟨dst,type,pos,after,guard,t,x,y,rfl,hst⟩|⟨dst,type,pos,after,guard,args,tys,rfl,hcp⟩|⟨dst,type,pos,after,guard,args,tys,rfl,hap⟩|⟨dst,type,pos,after,guard,f,args,tys,k,rfl,hmu,hcall⟩
  ·obtain ⟨w',hrun,hm,hk,ht,hn,hnp,rfl⟩:=aBT hst hp hSt.mem (HE x (by simp [Op.operands])) (HE y (by simp [Op.operands]))
   unfold Oper.wp
   have e:(execOp a.eval ⟨dst,.store t x y,type,pos,after,guard⟩).run P w= .ok .skip w':=by
    simp [execOp,hrun]
   rw [e,Oper.upon_skip]
   have hs1:St S0 w0 s2 c a w':=hSt.keepTm (s':=s2) hk hm ht hn hnp
   refine hF _ _ _ _ H (hs1.putO (m:= .any) (v:=undef) ?_ trivial) ((put_n _ _).trans hn)
   rw [hn];exact hd
  ·unfold dT at hcp
   split at hcp
   ·rename_i d x hargs
    split at hcp
    ·rename_i t t' htys
     split at hcp
     ·rename_i e hu
      split at hcp
      ·rename_i agg size hty
       cases hsz:size.beq 1 with
       | false=>rw [hsz] at hcp;simp at hcp
       | true =>
        rw [hsz,Z6] at hcp
        simp only [Nat.beq_eq] at hsz
        subst hsz
        obtain ⟨_,i,_,hi,hisz,_⟩:=pC hty
        have ea:args=#[d,x]:=Array.ext' hargs
        have et:tys=#[t,t']:=Array.ext' htys
        subst ea;subst et
        obtain ⟨v,w',hrun,hm,hk,ht,hn,hnp,hr⟩:=aLr (t:=t) (t':=t') (ty0:=type) hcp hp hu (by rw [hi];simp [hisz]) hSt.mem (HE d (by simp [Op.operands,Call.operands])) (HE x (by simp [Op.operands,Call.operands]))
        unfold Oper.wp
        have e:(execOp a.eval ⟨dst,.call ⟨.builtin .copy,#[d,x],#[t,t']⟩,type,pos,after,guard⟩).run P w= .ok (.value v) w':=by
         simp [execOp,resolve,invoke,builtin,hrun]
        rw [e,Oper.upon_value]
        have hs1:St S0 w0 s2 c a w':=hSt.keepTm (s':=s2) hk hm ht hn hnp
        refine hF _ _ _ _ H (hs1.putO ?_ hr) ((put_n _ _).trans hn)
        rw [hn];exact hd
      ·simp at hcp
     ·simp at hcp
    ·simp at hcp
   ·simp at hcp
  ·unfold hJ at hap
   split at hap
   ·rename_i d x hargs
    split at hap
    ·rename_i t t' htys
     cases htt:t.beq t' with
     | false=>rw [htt] at hap;simp at hap
     | true =>
      rw [htt,Z6] at hap
      simp only [Nat.beq_eq] at htt
      subst htt
      have ea:args=#[d,x]:=Array.ext' hargs
      have et:tys=#[t,t]:=Array.ext' htys
      subst ea;subst et
      obtain ⟨b,v,w',c',hrun,hm,hk,ht,hn,hnp,hr⟩:=aGE (t:=t) (ty0:=type) hap hp (hSt.mem.forgetV (s.ev d)) (by rw [(oP s (s.ev d)).2.2];exact hSt.np) (HE d (by simp [Op.operands,Call.operands])) (HE x (by simp [Op.operands,Call.operands]))
      rw [(oP s (s.ev d)).1] at ht
      rw [(oP s (s.ev d)).2.1] at hn
      rw [(oP s (s.ev d)).2.2] at hnp
      unfold Oper.wp
      have e:(execOp a.eval ⟨dst,.call ⟨.builtin .append,#[d,x],#[t,t]⟩,type,pos,after,guard⟩).run P w= .ok (.value v) w':=by
       simp [execOp,resolve,invoke,builtin,hrun]
      rw [e,Oper.upon_value]
      have hs1:St S0 w0 s2 c' a w':=⟨hm,fun u=>by
       rw [ht,yG]
       cases hq:(look u s.tm).ment b with
       | true=>trivial
       | false=>exact hk _ _ hq (hSt.tm u),by rw [hn];exact hSt.size,hSt.defers,by rw [hnp];exact hSt.np⟩
      refine hF _ _ _ _ H (hs1.putO ?_ hr) ((put_n _ _).trans hn)
      rw [hn];exact hd
    ·simp at hap
   ·simp at hap
  ·have hargs:=vX (c:=c) (w:=w) (s:=s) (a:=a) args.toList (fun x hx=>HE x (by simp [Op.operands,Call.operands];exact .inr (Array.mem_def.2 hx)))
   have hf:=HE f (by simp [Op.operands,Call.operands])
   unfold zM at hmu
   split at hmu
   ·rename_i f0 caps hfe
    rw [hfe] at hf
    split at hmu
    ·obtain ⟨cs,h1,h2,h3⟩:=bU hf rfl (by simp) rfl
     simp only [List.cons.injEq,and_true] at h1
     have h2:cs= []:=h2
     subst h2
     have hkf:=aBX hmu
     have eargs:(args.toList.map a.eval).toArray=args.map a.eval:=by apply Array.ext';simp
     have hcf:=k.call (args.map a.eval) w
     rw [hkf] at hcf
     have hrun:(execOp a.eval ⟨dst,.call ⟨.value f,args,tys⟩,type,pos,after,guard⟩).run P w= .ok (.enter f0 (args.map a.eval)) w:=by
      simp [execOp,resolve,Deferred.ofValue,h1,invoke,hcf]
     unfold Oper.wp
     rw [hrun,Oper.upon_enter]
     cases k with
     | wr k =>
      have hkf:k.f=f0:=hkf
      have hC:=aQ3 hcall hp hSt.mem hargs
      rw [eargs,hkf] at hC
      refine hC.mono ?_
      rintro e w' ⟨rfl,hm,hk,ht,hn,hnp,rfl⟩
      have hs1:St S0 w0 s2 c a w':=hSt.keepTm (s':=s2) hk hm ht hn hnp
      refine hF _ _ _ _ H (hs1.putO (m:= .tup []) ?_ ⟨_,rfl,rfl⟩) ((put_n _ _).trans hn)
      rw [hn];exact hd
     | nw k =>
      have hkf:k.f=f0:=hkf
      have hC:=aQ1 hcall hp hSt.mem hargs
      rw [eargs,hkf] at hC
      refine hC.mono ?_
      rintro e w' ⟨v,c',rfl,hm,hk,ht,hn,hnp,hr⟩
      have hs1:St S0 w0 s2 c' a w':=hSt.keepTm (s':=s2) hk hm ht hn hnp
      refine hF _ _ _ _ H (hs1.putO ?_ hr) ((put_n _ _).trans hn)
      rw [hn];exact hd
    ·simp at hmu
   ·simp at hmu
 ·rename_i m he
  obtain ⟨dst,type,pos,after,guard,x,rfl,hpn⟩:=aDm he
  obtain ⟨⟨t,u,hv⟩,hr⟩:=aIp hpn hSt.mem (HE x (by simp [Op.operands]))
  unfold Oper.wp
  have e:(execOp a.eval ⟨dst,.panic x,type,pos,after,guard⟩).run P w= .halt (.panic (a.eval x)) w:=by
   simp [execOp,hv,Instr.panic]
  rw [e,Oper.upon_panic]
  exact hP m _ w a H hSt.mem.ext hr hSt.defers
 ·exact H.elim
theorem aFX {c:Ctx} {w:World} {a:Act} {d:Nat} {b:Bool} (h:Rep c w (.bool b) (a.tmps.getD d undef)):a.tmps[d]? =some (.bool b):=by
 have:=gH h
 rw [Array.getD_eq_getD_getElem?] at this
 cases hx:a.tmps[d]? with
 | none=>rw [hx] at this;simp [undef] at this
 | some v=>rw [hx] at this;simpa using this
theorem pD {ops:Array Oper} {o oj:Oper} {j d:Nat} {want b:Bool} {c:Ctx} {w:World} {a:Act} (hg:o.guard=some (j,want)) (hj:aR ops.toList j=some oj) (hd:oj.dst=some d)
  (hb:Rep c w (.bool b) (a.tmps.getD d undef)):Region.wanted o (yielded ops a.tmps)=(b==want):=by
 rw [bQ] at hj
 have hj:ops[j]? =some oj:=by simpa using hj
 simp [Region.wanted,hg,yielded,hj,hd,aFX hb]
theorem aFY {a:Act} {d:Nat} {c:Ctx} {w:World} (h:Rep c w (.tup []) (a.tmps.getD d undef)):∀ b,a.tmps[d]?≠some (.bool b):=by
 intro b e
 obtain ⟨vs,h1,_⟩:=h
 rw [Array.getD_eq_getD_getElem?,e] at h1
 simp at h1
theorem aAc {ops:Array Oper} {o oj:Oper} {j d:Nat} {want:Bool} {c:Ctx} {w:World} {a:Act} (hg:o.guard=some (j,want)) (hj:aR ops.toList j=some oj) (hd:oj.dst=some d)
  (hb:Rep c w (.tup []) (a.tmps.getD d undef)):Region.wanted o (yielded ops a.tmps)=false:=by
 rw [bQ] at hj
 have hj:ops[j]? =some oj:=by simpa using hj
 have hn:=aFY hb
 have hy:yielded ops a.tmps j=none:=by
  unfold yielded
  rw [hj]
  show (match oj.dst.bind (a.tmps[·]?) with|some (.bool b)=>some b|_=>none)=none
  rw [hd]
  show (match a.tmps[d]? with|some (.bool b)=>some b|_=>none)=none
  cases ht:a.tmps[d]? with
  | none=>rfl
  | some v=>cases v <;> first|rfl|exact absurd ht (hn _)
 simp [Region.wanted,hg,hy]
theorem eV {P:Program} {E:Env P} {Kp:MV→Prop} {ops:Array Oper} {S0:Nat→Prop} {w0:Base} {Q:Exit→Act→World→Prop}
  (hP:∀ m v w' a',Kp m→ExtB w0 w'→Rep1 (Ctx.res S0) w' m v→a'.defers=w0.df→Q (.panic [{ v,recovered:=false }]) a' w') :
  ∀ (l:List Oper) (s:MS) (K:MS→Prop) (c:Ctx) (a:Act) (w:World),gG E ops.toList Kp l s K→St S0 w0 s c a w→
  (∀ s' c' a' w',K s'→St S0 w0 s' c' a' w'→s'.n=s.n→Q .normal a' w')→wpList P ops Q l a w
 | [],s,K,c,a,w,h,hSt,hK=>hK s c a w h hSt rfl
 | o::l,s,K,c,a,w,h,hSt,hK=>by
  simp only [gG] at h
  cases hdd:gF o.dst s.n with
  | false=>rw [hdd] at h;exact h.elim
  | true =>
   rw [hdd,Z6] at h
   unfold wpList
   split at h
   ·rename_i hg
    rw [if_pos (by simp [Region.wanted,hg])]
    refine .inl (aO8 h hSt hdd (fun s' c' a' w' hF hs hn=>eV hP l s' K c' a' w' hF hs fun s2 c2 a2 w2 q1 q2 q3=>hK s2 c2 a2 w2 q1 q2 (q3.trans hn)) hP)
   ·rename_i j want hg
    split at h
    ·rename_i oj hj
     split at h
     ·rename_i d hd
      split at h
      ·rename_i b hb
       have hrb:=hSt.tm d
       rw [hb] at hrb
       have hw:=pD (o:=o) hg hj hd hrb
       have key:(b=want∧(match iH E (s.put d (.bool want)) o.op with
         | .val p m=>lE p <| gG E ops.toList Kp l ((s.put d (.bool want)).putO o.dst m) K
         | .new p b mk=>lE p <| gG E ops.toList Kp l (({ s.put d (.bool want) with bx:=(s.put d (.bool want)).bx++ [b] }:MS).putO o.dst (mk (s.put d (.bool want)).bx.length)) K
         | .res p r fz=>lE p <| l7 (fun m=>gG E ops.toList Kp l (((s.put d (.bool want)).frz fz).putO o.dst m) K) Kp r
         | .upd p s' m=>lE p <| gG E ops.toList Kp l (s'.putO o.dst m) K
         | .pan m=>Kp m
         | .stuck=>bW o.op (s.put d (.bool want))))∨(b=(!want)∧gG E ops.toList Kp l ((s.put d (.bool (!want))).putO o.dst (.tup [])) K):=by
        unfold rV Br at h
        cases b <;> cases want <;> first|exact .inl ⟨rfl,h⟩|exact .inr ⟨rfl,h⟩
       rcases key with ⟨rfl,hh⟩|⟨rfl,hh⟩
       ·rw [hw,if_pos (by simp)]
        have hs1:St S0 w0 (s.put d (.bool b)) c a w:=hSt.again hrb
        refine .inl (aO8 hh hs1 hdd (fun s' c' a' w' hF hs hn=>eV hP l s' K c' a' w' hF hs fun s2 c2 a2 w2 q1 q2 q3=>hK s2 c2 a2 w2 q1 q2 (q3.trans hn)) hP)
       ·rw [hw,if_neg (by cases want <;> simp)]
        have hs1:St S0 w0 (s.put d (.bool (!want))) c a w:=hSt.again hrb
        exact eV hP l _ K c _ w hh (hs1.putO (m:= .tup []) (v:=undef) hdd ⟨#[],rfl,rfl⟩) fun s2 c2 a2 w2 q1 q2 q3=>hK s2 c2 a2 w2 q1 q2 (q3.trans (by cases o.dst <;> rfl))
      ·rename_i hb
       have hrb:=hSt.tm d
       rw [hb] at hrb
       have hw:=aAc (o:=o) hg hj hd hrb
       rw [hw,if_neg (by simp)]
       exact eV hP l _ K c _ w h (hSt.putO (m:= .tup []) (v:=undef) hdd ⟨#[],rfl,rfl⟩) fun s2 c2 a2 w2 q1 q2 q3=>hK s2 c2 a2 w2 q1 q2 (q3.trans (by cases o.dst <;> rfl))
      ·exact h.elim
     ·exact h.elim
    ·exact h.elim
theorem oG (acc:List Nat):∀ (l:List Edge) (b:Nat),(jJ acc l).testBit b=true→∃ e∈l,Region.binds .any e=true∧(b=e.on∨∃ m,aR acc e.on=some m∧m.testBit b=true)
 | [],b,h=>by simp [jJ] at h
 | e::r,b,h=>by
  simp only [jJ] at h
  cases hb:Region.binds .any e with
  | false =>
   rw [hb,Z5] at h
   obtain ⟨e',h1,h2⟩:=oG acc r b h
   exact ⟨e',by simp [h1],h2⟩
  | true =>
   rw [hb,Z6] at h
   simp only [Nat.testBit_or,Bool.or_eq_true] at h
   rcases h with (h|h)|h
   ·rw [Nat.testBit_two_pow] at h
    exact ⟨e,by simp,hb,.inl (by simpa using h:e.on=b).symm⟩
   ·split at h
    ·rename_i m hm;exact ⟨e,by simp,hb,.inr ⟨m,hm,h⟩⟩
    ·simp at h
   ·obtain ⟨e',h1,h2⟩:=oG acc r b h
    exact ⟨e',by simp [h1],h2⟩
theorem iS {α:Type} (l r:List α) (i:Nat) (h:i<l.length):aR (l++r) i=aR l i:=by simp only [bQ];rw [List.getElem?_append_left h]
theorem p9:∀ (l:List Oper) (acc:List Nat) (i:Nat),i<acc.length→aR (gR acc l) i=aR acc i
 | [],_,_,_=>rfl
 | o::l,acc,i,h=>by
  simp only [gR]
  rw [p9 l _ i (by simp;omega),iS _ _ _ h]
theorem aF9:∀ (l:List Oper) (acc:List Nat) (i:Nat) (o:Oper) (m:Nat),aR l i=some o→aR (gR acc l) (acc.length+i)=some m→(∀ e∈o.after.toList,Region.binds .any e=true→e.on<acc.length+i)→
  ∀ b,m.testBit b=true→∃ e∈o.after.toList,Region.binds .any e=true∧(b=e.on∨∃ m',aR (gR acc l) e.on=some m'∧m'.testBit b=true)
 | [],acc,i,o,m,h,_,_,_,_=>by simp [aR] at h
 | x::l,acc,0,o,m,h,hm,he,b,hb=>by
  simp only [aR,Z1] at h
  subst h
  simp only [gR,Nat.add_zero] at hm he⊢
  rw [p9 l _ _ (by simp)] at hm
  have:aR (acc++ [jJ acc x.after.toList]) acc.length=some (jJ acc x.after.toList):=by simp [bQ]
  rw [this,Z1] at hm
  subst hm
  obtain ⟨e,h1,h2,h3⟩:=oG acc _ b hb
  refine ⟨e,h1,h2,h3.imp id fun ⟨m',q1,q2⟩=>⟨m',?_,q2⟩⟩
  have hlt:=he e h1 h2
  rw [p9 l _ _ (by simp;omega),iS _ _ _ hlt]
  exact q1
 | x::l,acc,i+1,o,m,h,hm,he,b,hb=>by
  simp only [gR] at hm⊢
  have h:aR l i=some o:=h
  have e1:acc.length+(i+1)=(acc++ [jJ acc x.after.toList]).length+i:=by simp;omega
  rw [e1] at hm he
  exact aF9 l _ i o m h hm he b hb
theorem g7:∀ (l:List Oper) (k:Nat),eJ k l=true→∀ (i:Nat) (o:Oper),aR l i=some o→∀ e∈o.after.toList,Region.binds .any e=true→e.on<k+i
 | [],_,_,i,o,h,_,_,_=>by simp [aR] at h
 | x::l,k,hb,i,o,h,e,he,hbe=>by
  simp only [eJ,Z3] at hb
  obtain ⟨h1,h2⟩:=hb
  cases i with
  | zero =>
   simp only [aR,Z1] at h
   subst h
   have:=List.all_eq_true.1 h1 e he
   simp only [hbe,Bool.not_true,Bool.false_or,Nat.blt_eq] at this
   omega
  | succ i =>
   have:=g7 l (k+1) h2 i o h e he hbe
   omega
theorem aMW {i n:Nat} (h:i<n):i.blt n=true:=by rw [Nat.blt_eq];exact h
theorem aLa {i n:Nat} (h:n≤i):i.blt n=false:=by
 cases hb:i.blt n with
 | false=>rfl
 | true=>rw [Nat.blt_eq] at hb;omega
theorem m8 (L:List Oper) (n:Nat):∀ (l:List Oper) (ms:List Nat) (i:Nat),mG L n i ms l=true→∀ (j:Nat) (o:Oper),aR l j=some o→∃ m,aR ms j=some m∧
  (i+j<n→aHD L n (i+j) m o 0 L=true)∧(n≤i+j→l8 (i+j) m=true)
 | [],_,_,_,j,o,h=>by simp [aR] at h
 | x::l, [],_,hs,j,o,h=>by simp [mG] at hs
 | x::l,m::ms,i,hs,j,o,h=>by
  simp only [mG,Z3] at hs
  obtain ⟨h1,h2⟩:=hs
  cases j with
  | zero =>
   simp only [aR,Z1] at h
   subst h
   refine ⟨m,rfl,fun hlt=>?_,fun hge=>?_⟩
   ·rw [aMW (show i<n from hlt),Z6] at h1;exact h1
   ·rw [aLa (show n≤i from hge),Z5] at h1;exact h1
  | succ j =>
   obtain ⟨m',q1,q2,q3⟩:=m8 L n l ms (i+1) h2 j o h
   exact ⟨m',q1,fun hlt=>by have:=q2 (by omega);rwa [show i+1+j=i+(j+1) by omega] at this,fun hge=>by have:=q3 (by omega);rwa [show i+1+j=i+(j+1) by omega] at this⟩
theorem mV {i m:Nat} (h:l8 i m=true):∀ j,j<i→m.testBit j=true:=by
 intro j hj
 simp only [l8,Nat.beq_eq] at h
 have:(m &&&(2^i -1)).testBit j=(2^i -1).testBit j:=by rw [h]
 rw [Nat.testBit_and,Nat.testBit_two_pow_sub_one] at this
 simpa [hj] using this
theorem o8 {L:List Oper} {n i m:Nat} {o:Oper}:∀ (l:List Oper) (j:Nat),aHD L n i m o j l=true→∀ (k:Nat) (p:Oper) (d:Nat),aR l k=some p→p.dst=some d→
  (j+k<n→j+k≠i→o.dst≠some d∧(d∈Oper.looks L o→j+k<i∧m.testBit (j+k)=true))∧(j+k=i→d ∉ Oper.looks L o)
 | [],_,_,k,p,d,h,_=>by simp [aR] at h
 | x::l,j,hs,k,p,d,h,hd=>by
  simp only [aHD,Z3] at hs
  obtain ⟨h1,h2⟩:=hs
  cases k with
  | succ k =>
   have:=o8 l (j+1) h2 k p d h hd
   rwa [show j+1+k=j+(k+1) by omega] at this
  | zero =>
   simp only [aR,Z1] at h
   subst h
   rw [hd] at h1
   simp only [Nat.add_zero]
   constructor
   ·intro hlt hne
    have hc:(j.blt n&&!(j.beq i))=true:=by
     simp only [Z3,Nat.blt_eq,hlt,Bool.not_eq_true',true_and]
     cases hb:j.beq i with
     | false=>rfl
     | true=>exact absurd (by simpa using hb) hne
    rw [hc,Z6] at h1
    simp only [Z3,Bool.not_eq_true',Bool.or_eq_true,beq_eq_false_iff_ne,ne_eq,Nat.blt_eq] at h1
    refine ⟨h1.1,fun hm=>?_⟩
    rcases h1.2 with h3|h3
    ·have:(Oper.looks L o).elem d=true:=List.elem_eq_true_of_mem hm
     rw [this] at h3;simp at h3
    ·exact h3
   ·intro he
    subst he
    have hc:(j.blt n&&!(j.beq j))=false:=by simp
    rw [hc,Z5] at h1
    simp only [Nat.beq_refl,Z6,Bool.not_eq_true'] at h1
    intro hm
    have:(Oper.looks L o).elem d=true:=List.elem_eq_true_of_mem hm
    rw [this] at h1;simp at h1
structure Down (ops:Array Oper) (listed:Array Bool):Prop where
 size:listed.size=ops.size
 down:∀ i o,ops[i]? =some o→listed.getD i false=true→∀ e∈o.after.toList,Region.binds .any e=true→listed.getD e.on false=true
theorem bD {ops:Array Oper} {listed:Array Bool} {i:Nat}:i∈Region.ready .any ops listed↔i<ops.size∧listed.getD i true=false∧∃ o,ops[i]? =some o∧∀ e∈o.after.toList,Region.binds .any e=true→listed.getD e.on false=true:=by
 simp only [Region.ready,List.mem_filter,List.mem_range,Z3,Bool.not_eq_true']
 constructor
 ·rintro ⟨h1,h2,h3⟩
  refine ⟨h1,h2,ops[i],by simp [h1],fun e he hb=>?_⟩
  simp only [Array.getElem?_eq_getElem h1,Option.map_some,Option.getD_some,← Array.all_toList,List.all_eq_true] at h3
  have:=h3 e he
  simpa [hb] using this
 ·rintro ⟨h1,h2,o,h3,h4⟩
  refine ⟨h1,h2,?_⟩
  simp only [h3,Option.map_some,Option.getD_some,← Array.all_toList,List.all_eq_true]
  intro e he
  cases hb:Region.binds .any e with
  | false=>rfl
  | true=>simpa using h4 e he hb
theorem aY {listed:Array Bool} {i:Nat} (h:i<listed.size):listed.getD i true=listed.getD i false:=by simp [h]
theorem Down.put {ops:Array Oper} {listed:Array Bool} (h:Down ops listed) {i:Nat} (hi:i∈Region.ready .any ops listed):Down ops (listed.setIfInBounds i true):=by
 obtain ⟨h1,h2,o,h3,h4⟩:=bD.1 hi
 have mono:∀ j,listed.getD j false=true→(listed.setIfInBounds i true).getD j false=true:=by
  intro j hj
  simp only [Array.getD_eq_getD_getElem?,Array.getElem?_setIfInBounds] at hj⊢
  split
  ·split <;> simp_all
  ·exact hj
 refine ⟨by simp [h.size],fun j o' hj hl e he hb=>?_⟩
 by_cases hij:i=j
 ·subst hij
  rw [h3,Z1] at hj
  subst hj
  exact mono _ (h4 e he hb)
 ·refine mono _ (h.down j o' hj ?_ e he hb)
  simp only [Array.getD_eq_getD_getElem?,Array.getElem?_setIfInBounds,if_neg hij] at hl⊢
  exact hl
theorem Down.mask {ops:Array Oper} {listed:Array Bool} (h:Down ops listed) (hback:eJ 0 ops.toList=true):∀ (i:Nat) (o:Oper) (m:Nat),aR ops.toList i=some o→aR (gR [] ops.toList) i=some m→
  (∀ e∈o.after.toList,Region.binds .any e=true→listed.getD e.on false=true)→∀ b,m.testBit b=true→listed.getD b false=true:=by
 intro i
 induction i using Nat.strongRecOn with
 | _ i ih =>
  intro o m ho hm he b hb
  have hbk:=g7 ops.toList 0 hback i o ho
  obtain ⟨e,h1,h2,h3⟩:=aF9 ops.toList [] i o m ho (by simpa using hm) (by simpa using hbk) b hb
  rcases h3 with rfl|⟨m',h4,h5⟩
  ·exact he e h1 h2
  ·have hlt:e.on<i:=by have:=hbk e h1 h2;omega
   have hlist:=he e h1 h2
   have hsz:e.on<ops.size:=by
    have:=i6 ho
    simp at this;omega
   have ho':aR ops.toList e.on=some ops[e.on]:=by rw [bQ];simp [hsz]
   exact ih e.on hlt ops[e.on] m' ho' h4 (h.down e.on _ (by simp [hsz]) hlist) b h5
theorem rH {P:Program} {ops:Array Oper} {Q:Exit→Act→World→Prop} {o:Oper} {rest:List Oper} {a:Act} {w:World} {i:Nat} (hi:ops[i]? =some o) (h:wpList P ops Q (o::rest) a w):wpOp P ops Q i (wpList P ops Q rest) a w:=by
 unfold wpOp
 simp only [hi]
 exact h
theorem aKQ {P:Program} {ops:Array Oper} {Q:Exit→Act→World→Prop} (hback:eJ 0 ops.toList=true) (n:Nat)
  (hfull:∀ i o,aR ops.toList i=some o→n≤i→∃ m,aR (gR [] ops.toList) i=some m∧l8 i m=true) :
  ∀ (l:List Oper) (k:Nat) (listed:Array Bool) (a:Act) (w:World),(∀ j,aR l j=aR ops.toList (k+j))→k+l.length=ops.size→n≤k→Down ops listed→(∀ j,listed.getD j false=decide (j<k))→
  wpList P ops Q l a w→wpAny P .any ops Q l.length listed a w
 | [],k,listed,a,w,hl,hk,hn,hd,hlist,h=>by
  refine ⟨?_,h⟩
  apply List.eq_nil_iff_forall_not_mem.2
  intro i hi
  obtain ⟨h1,h2,_⟩:=bD.1 hi
  rw [aY (by rw [hd.size];exact h1),hlist] at h2
  simp at h2 hk
  omega
 | o::l,k,listed,a,w,hl,hk,hn,hd,hlist,h=>by
  have hk0:k<ops.size:=by simp at hk;omega
  have ho:aR ops.toList k=some o:=by have:=hl 0;simp [aR] at this;exact this.symm
  have hok:ops[k]? =some o:=by rw [bQ] at ho;simpa using ho
  have only:∀ i∈Region.ready .any ops listed,i=k:=by
   intro i hi
   obtain ⟨h1,h2,oi,h3,h4⟩:=bD.1 hi
   rw [aY (by rw [hd.size];exact h1),hlist] at h2
   have hge:k≤i:=by simpa using h2
   rcases Nat.lt_or_ge k i with hlt|hle
   ·exfalso
    have hoi:aR ops.toList i=some oi:=by rw [bQ];simpa using h3
    obtain ⟨m,hm,hf⟩:=hfull i oi hoi (by omega)
    have:=hd.mask hback i oi m hoi hm h4 k (mV hf k hlt)
    rw [hlist] at this
    simp at this
   ·omega
  have isr:k∈Region.ready .any ops listed:=by
   refine bD.2 ⟨hk0,?_,o,hok,fun e he hb=>?_⟩
   ·rw [aY (by rw [hd.size];exact hk0),hlist];simp
   ·have:=g7 ops.toList 0 hback k o ho e he hb
    rw [hlist];simp;omega
  refine ⟨fun h0=>by rw [h0] at isr;simp at isr,fun i hi=>?_⟩
  have:=only i hi
  subst this
  refine wpOp_mono (fun a' w' h'=>?_) (rH hok h)
  refine aKQ hback n hfull l (i+1) _ a' w' (fun j=>by have:=hl (j+1);simp only [aR] at this;rw [this];congr 1;omega) (by simp at hk;omega) (by omega) (hd.put hi) (fun j=>?_) h'
  simp only [Array.getD_eq_getD_getElem?,Array.getElem?_setIfInBounds]
  by_cases e:i=j
  ·subst e;simp [hd.size,hk0]
  ·have:=hlist j
   rw [Array.getD_eq_getD_getElem?] at this
   rw [if_neg e,this]
   congr 1
   simp;omega
def wrN (L:List Oper) (n j t:Nat):Prop:=j<n∧∃ o,aR L j=some o∧o.dst=some t
def aTy (L:List Oper) (o:Oper) (s:MS):Prop:=o.guard=none∨∃ j want oj d,o.guard=some (j,want)∧aR L j=some oj∧oj.dst=some d∧look d s.tm= .bool want
def aWf (L:List Oper) (o:Oper) (s:MS):Prop:=∃ j want oj d,o.guard=some (j,want)∧aR L j=some oj∧oj.dst=some d∧(look d s.tm= .bool (!want)∨look d s.tm= .tup [])
def Sep (ms:List Nat) (q:Pend) (j:Nat) (l:List MV):Prop:=(∃ mk,aR ms q.k=some mk∧mk.testBit j=true)∨dP q.i l=false
structure Fin' where
 sF:MS
 dead:Option (Nat×MV)
 pd:List Pend
def aBp {P:Program} (E:Env P) (F:Fin') (k nx:Nat) (o:Oper) (s:MS) (R:MV→Prop):Prop :=
 match aDl E s o.op with
 | .val p m=>p.holds∧(∀ q∈F.pd,q.k≠k)∧R m
 | .new p b mk=>p.holds∧(∀ q∈F.pd,q.k≠k)∧aR F.sF.bx s.bx.length=some b∧nx=s.bx.length+1∧R (mk s.bx.length)
 | .res p r fz=>fz= []∧p.holds∧(∀ q∈F.pd,q.k≠k)∧l7 R (fun m=>F.dead=some (k,m)) r
 | .upd p s' _=>p.holds∧(∀ p x,F.dead=some (p,x)→p≠k)∧o.dst=none∧∃ i b,n8 s o.op=some i∧aR s'.bx i=some b∧⟨k,i,b.c⟩∈F.pd∧∀ q∈F.pd,q.k=k→q=⟨k,i,b.c⟩
 | _=>False
def AtR (L:List Oper) (n:Nat) (F:Fin') (k:Nat) (o:Oper) (m:MV):Prop :=
 (∀ p x,F.dead=some (p,x)→p≠k)∧∀ d,o.dst=some d→(∀ j,k<j→¬ wrN L n j d)→look d F.sF.tm=m
def At {P:Program} (E:Env P) (L:List Oper) (ms:List Nat) (n:Nat) (F:Fin') (k:Nat) (o:Oper) (s s':MS):Prop :=
 (∃ p m mk,F.dead=some (p,m)∧p<k∧aR ms k=some mk∧mk.testBit p=true)∨
 (gF o.dst s.n=true∧∃ s1:MS,(∀ t,look t s1.tm=look t s.tm)∧s1.bx=s.bx∧s1.n=s.n∧
  ((aWf L o s1∧(∀ q∈F.pd,q.k≠k)∧AtR L n F k o (.tup []))∨(aTy L o s1∧(∀ q∈F.pd,q.k≠k→Sep ms q k (vW s1 o.op))∧aBp E F k s'.bx.length o s1 (AtR L n F k o))))
structure Cert {P:Program} (E:Env P) (L:List Oper) (ms:List Nat) (Kp:MV→Prop) (n:Nat) (dead:Option (Nat×MV)) (pd:List Pend) (seen:List (Nat×List MV)) (k:Nat) (s:MS) (K:MS→Prop) (F:Fin') (σ:Nat→MS):Prop where
 fin:F.dead=none→K { F.sF with bx:=zR F.pd F.sF.bx }
 pan:∀ p m,F.dead=some (p,m)→Kp m∧p<n
 more:∀ x,dead=some x→F.dead=some x
 from_:∀ p m,F.dead=some (p,m)→dead=some (p,m)∨k≤p
 first:σ k=s
 last:σ n=F.sF
 num:∀ j,k≤j→j≤n→(σ j).n=F.sF.n∧(σ j).np=F.sF.np
 bx:∀ j,k≤j→j≤n→∀ i b,aR (σ j).bx i=some b→aR F.sF.bx i=some b
 len:∀ j,k≤j→j<n→(σ j).bx.length≤(σ (j+1)).bx.length
 lk:∀ j,k≤j→j≤n→∀ t,(∀ i,j≤i→¬ wrN L n i t)→look t F.sF.tm=look t (σ j).tm
 at_:∀ j o,k≤j→j<n→aR L j=some o→At E L ms n F j o (σ j) (σ (j+1))
 pmore:∀ q,q∈pd→q∈F.pd
 pfrom:∀ q,q∈F.pd→q∈pd∨(k≤q.k∧q.k<n)
 pnod:(F.pd.map Pend.i).Nodup
 pseen:∀ q∈F.pd,k≤q.k→∀ e∈seen,Sep ms q e.1 e.2
 pbox:∀ q∈F.pd,∃ c,aR F.sF.bx q.i=some ⟨false,c⟩
theorem zO:∀ {pd:List Pend} {l:List MV},aCn pd l=true→∀ q∈pd,dP q.i l=false
 | [],_,_=>fun q hq=>by simp at hq
 | x::r,l,h=>fun q hq=>by
  simp only [aCn,Z3,Bool.not_eq_true'] at h
  rcases List.mem_cons.1 hq with rfl|hq
  ·exact h.1
  ·exact zO h.2 q hq
theorem zX {i mk:Nat}:∀ {l:List (Nat×List MV)},aCM i mk l=true→∀ e∈l,mk.testBit e.1=true∨dP i e.2=false
 | [],_=>fun e he=>by simp at he
 | x::r,h=>fun e he=>by
  simp only [aCM,Z3,Bool.or_eq_true,Bool.not_eq_true'] at h
  rcases List.mem_cons.1 he with rfl|he
  ·exact h.1
  ·exact zX h.2 e he
theorem jA {P:Program} {E:Env P} {L:List Oper} {ms:List Nat} {Kp:MV→Prop} {n k:Nat} {dead dead2:Option (Nat×MV)} {pd pd2:List Pend} {seen seen2:List (Nat×List MV)} {s s2:MS} {o:Oper} {K:MS→Prop}
  (hk:aR L k=some o) (hkn:k<n) (hn:s2.n=s.n∧s2.np=s.np) (hbx:∀ i b,aR s.bx i=some b→aR s2.bx i=some b) (hlen:s.bx.length≤s2.bx.length)
  (hlook:∀ t,o.dst≠some t→look t s2.tm=look t s.tm) (hdead:∀ x,dead=some x→dead2=some x) (hdead2:∀ p m,dead2=some (p,m)→dead=some (p,m)∨k≤p)
  (hpd:∀ q,q∈pd→q∈pd2) (hpd2:∀ q,q∈pd2→q∈pd∨(q.k=k∧∀ e∈seen,Sep ms q e.1 e.2)) (hpk:∀ q∈pd,q.k<k) (hseen:∀ e,e∈seen→e∈seen2)
  (IH:∃ F σ,Cert E L ms Kp n dead2 pd2 seen2 (k+1) s2 K F σ)
  (hAt:∀ F,(∀ x,dead2=some x→F.dead=some x)→(∀ p m,F.dead=some (p,m)→dead2=some (p,m)∨k+1≤p)→(∀ i b,aR s2.bx i=some b→aR F.sF.bx i=some b)→(∀ d,(∀ j,k<j→¬ wrN L n j d)→look d F.sF.tm=look d s2.tm)→
   (∀ q,q∈pd2→q∈F.pd)→(∀ q,q∈F.pd→q∈pd2∨k+1≤q.k)→(∀ q∈F.pd,k+1≤q.k→∀ e∈seen2,Sep ms q e.1 e.2)→At E L ms n F k o s s2) :
  ∃ F σ,Cert E L ms Kp n dead pd seen k s K F σ:=by
 obtain ⟨F,σ,C⟩:=IH
 have e1:∀ j,k<j→(if j≤k then s else σ j)=σ j:=fun j hj=>if_neg (by omega)
 have ek:(if k≤k then s else σ k)=s:=if_pos (Z0 _)
 have ek2:(if k+1≤k then s else σ (k+1))=s2:=by rw [if_neg (by omega)];exact C.first
 refine ⟨F,fun j=>if j≤k then s else σ j,?_⟩
 have hlk2:=C.lk (k+1) (Z0 _) (by omega)
 rw [C.first] at hlk2
 have hbx2:=C.bx (k+1) (Z0 _) (by omega)
 rw [C.first] at hbx2
 have hn2:=C.num (k+1) (Z0 _) (by omega)
 rw [C.first] at hn2
 refine ⟨C.fin,C.pan,fun x hx=>C.more x (hdead x hx),fun p m e=>(C.from_ p m e).elim (hdead2 p m) (fun h=> .inr (by omega)),ek,by rw [e1 n hkn];exact C.last,fun j h1 h2=>?_,fun j h1 h2=>?_,fun j h1 h2=>?_,fun j h1 h2=>?_,fun j oj h1 h2 h3=>?_,
  fun q hq=>C.pmore q (hpd q hq),fun q hq=>?_,C.pnod,fun q hq hkq e he=>?_,C.pbox⟩
 ·rcases Nat.lt_or_ge k j with h|h
  ·simp only [e1 j h];exact C.num j h h2
  ·have:j=k:=by omega
   subst this;simp only [ek];exact ⟨by omega,by omega⟩
 ·rcases Nat.lt_or_ge k j with h|h
  ·simp only [e1 j h];exact C.bx j h h2
  ·have:j=k:=by omega
   subst this;simp only [ek];exact fun i b hb=>hbx2 i b (hbx i b hb)
 ·rcases Nat.lt_or_ge k j with h|h
  ·simp only [e1 j h,e1 (j+1) (by omega)];exact C.len j h h2
  ·have:j=k:=by omega
   subst this;simp only [ek,ek2];exact hlen
 ·rcases Nat.lt_or_ge k j with h|h
  ·simp only [e1 j h];exact C.lk j h h2
  ·have:j=k:=by omega
   subst this
   simp only [ek]
   intro t ht
   rw [hlk2 t fun i hi=>ht i (by omega)]
   exact hlook t fun e=>ht j (Z0 _) ⟨hkn,o,hk,e⟩
 ·rcases Nat.lt_or_ge k j with h|h
  ·simp only [e1 j h,e1 (j+1) (by omega)];exact C.at_ j oj h h2 h3
  ·have:j=k:=by omega
   subst this
   rw [hk,Z1] at h3
   subst h3
   simp only [ek,ek2]
   exact hAt F C.more C.from_ hbx2 (fun d hd=>hlk2 d fun i hi=>hd i hi) C.pmore (fun q hq=>(C.pfrom q hq).imp id (fun h=>h.1)) C.pseen
 ·rcases C.pfrom q hq with h|h
  ·rcases hpd2 q h with h|h
   ·exact .inl h
   ·exact .inr ⟨by omega,by omega⟩
  ·exact .inr ⟨by omega,h.2⟩
 ·rcases C.pfrom q hq with h|h
  ·rcases hpd2 q h with h|h
   ·have:=hpk q h;omega
   ·exact h.2 e he
  ·exact C.pseen q hq h.1 e (hseen e he)
theorem jW (s:MS) (t:Option Nat) (m:MV) (u:Nat) (h:t≠some u):look u (s.putO t m).tm=look u s.tm:=by
 cases t with
 | none=>rfl
 | some t=>simp only [MS.putO,nP];rw [if_neg (fun e=>h (by rw [e]))]
theorem d8 (s:MS) (t:Nat) (m:MV):look t (s.putO (some t) m).tm=m:=by simp only [MS.putO,nP,if_true]
theorem dY (s:MS) (t:Option Nat) (m:MV):(s.putO t m).bx=s.bx:=by cases t <;> rfl
theorem aCv {s s0:MS} {t:Option Nat} {m:MV} (e:s.n=s0.n∧s.np=s0.np):(s.putO t m).n=s0.n∧(s.putO t m).np=s0.np:=by cases t <;> exact e
theorem aOS (s:MS) (t:Option Nat) (m:MV):(s.putO t m).n=s.n:=by cases t <;> rfl
theorem aCc (s:MS) (d:Nat) (m:MV) (h:look d s.tm=m) (t:Nat):look t (s.put d m).tm=look t s.tm:=by
 rw [nP];split
 ·subst_vars;rfl
 ·rfl
theorem x8 {kr kp:MV→Prop}:∀ (r:MRes),l7 kr kp r→∃ x:MRes,(∀ {kr' kp':MV→Prop},l7 kr' kp' x→l7 kr' kp' r)∧((∃ m,x= .ret m∧kr m)∨(∃ m,x= .pan m∧kp m))
 | .ret m,h=>⟨.ret m,id,.inl ⟨m,rfl,h⟩⟩
 | .pan m,h=>⟨.pan m,id,.inr ⟨m,rfl,h⟩⟩
 | .br b x y,h=>by
  simp only [l7,Br] at h
  cases b with
  | false =>
   obtain ⟨z,h1,h2⟩:=x8 y h
   exact ⟨z,fun q=>by simp only [l7,Br,Z5];exact h1 q,h2⟩
  | true =>
   obtain ⟨z,h1,h2⟩:=x8 x h
   exact ⟨z,fun q=>by simp only [l7,Br,Z6];exact h1 q,h2⟩
theorem gC {P:Program} {E:Env P} {L:List Oper} {ms:List Nat} {Kp:MV→Prop} {n:Nat} {K:MS→Prop} :
  ∀ (rest:List Oper) (dead:Option (Nat×MV)) (pd:List Pend) (seen:List (Nat×List MV)) (k:Nat) (s:MS),mS E L ms Kp K rest dead pd seen k s→k+rest.length=n→(∀ i,i<rest.length→aR rest i=aR L (k+i))→(∀ p m,dead=some (p,m)→p<k)→
  (∀ q∈pd,q.k<k)→(pd.map Pend.i).Nodup→(∀ q∈pd,∃ c,aR s.bx q.i=some ⟨false,c⟩)→
  ∃ F σ,Cert E L ms Kp n dead pd seen k s K F σ
 | [],dead,pd,seen,k,s,h,hk,hl,hd,hpk,hpn,hpb=>by
  simp at hk
  subst hk
  simp only [mS] at h
  refine ⟨⟨s,dead,pd⟩,fun _=>s,⟨fun e=>?_,fun p m e=>?_,fun x hx=>hx,fun p m e=> .inl e,rfl,rfl,fun _ _ _=>⟨rfl,rfl⟩,fun _ _ _ _ _ h=>h,fun _ _ _=>Z0 _,fun _ _ _ _ _=>rfl,fun j o h1 h2 _=>by omega,
   fun q hq=>hq,fun q hq=> .inl hq,hpn,fun q hq hkq=>by have:=hpk q hq;omega,hpb⟩⟩
  ·have e:dead=none:=e
   subst e;exact h
  ·have e:dead=some (p,m):=e
   subst e;exact ⟨h,hd p m rfl⟩
 | o::rest,dead,pd,seen,k,s,h,hk,hl,hd,hpk,hpn,hpb=>by
  simp only [List.length_cons] at hk
  have hkn:k<n:=by omega
  have hok:aR L k=some o:=by have:=hl 0 (by simp);simp only [aR,Nat.add_zero] at this;exact this.symm
  have hl':∀ i,i<rest.length→aR rest i=aR L (k+1+i):=fun i hi=>by
   have:=hl (i+1) (by simp;omega)
   simp only [aR] at this
   rw [this];congr 1;omega
  have nd:∀ {deadF:Option (Nat×MV)},(∀ p m,deadF=some (p,m)→dead=some (p,m)∨k+1≤p)→∀ p x,deadF=some (p,x)→p≠k:=by
   intro deadF hf p x e
   rcases hf p x e with q|q
   ·have:=hd p x q;omega
   ·omega
  have npk:∀ {pdF:List Pend},(∀ q,q∈pdF→q∈pd∨k+1≤q.k)→∀ q∈pdF,q.k≠k:=by
   intro pdF hf q hq
   rcases hf q hq with h|h
   ·have:=hpk q h;omega
   ·omega
  have hpk1:∀ q∈pd,q.k<k+1:=fun q hq=>by have:=hpk q hq;omega
  have run:∀ s1:MS,(∀ t,look t s1.tm=look t s.tm)→s1.bx=s.bx→s1.n=s.n∧s1.np=s.np→gF o.dst s.n=true→aTy L o s1→
    aCu E ms dead pd seen k o s1 (fun d p q s'=>mS E L ms Kp K rest d p q (k+1) s')→∃ F σ,Cert E L ms Kp n dead pd seen k s K F σ:=by
   intro s1 e1 e2 e3 hdst hg H
   unfold aCu at H
   cases hnp:aCn pd (vW s1 o.op) with
   | false=>rw [hnp] at H;exact H.elim
   | true =>
   rw [hnp,Z6] at H
   have hnp:=zO hnp
   have hpb1:∀ q∈pd,∃ c,aR s1.bx q.i=some ⟨false,c⟩:=fun q hq=>by rw [e2];exact hpb q hq
   have sepF:∀ {F:Fin'} {pd2:List Pend},(∀ q,q∈F.pd→q∈pd2∨k+1≤q.k)→(∀ q∈pd2,q∈pd∨q.k=k)→(∀ q∈F.pd,k+1≤q.k→∀ e∈(k,vW s1 o.op)::seen,Sep ms q e.1 e.2)→∀ q∈F.pd,q.k≠k→Sep ms q k (vW s1 o.op):=by
    intro F pd2 h1 h2 h3 q hq hne
    rcases h1 q hq with h|h
    ·rcases h2 q h with h|h
     ·exact .inr (hnp q h)
     ·exact absurd h hne
    ·exact h3 q hq h _ (List.mem_cons_self ..)
   split at H
   ·rename_i p m he
    obtain ⟨hp,H⟩:=oand_holds.1 H
    refine jA hok hkn (aCv e3) (fun i b hb=>by rw [dY,e2];exact hb) (by rw [dY,e2];exact Z0 _) (fun t ht=>(jW _ _ _ _ ht).trans (e1 t)) (fun x hx=>hx) (fun p m e=> .inl e)
     (fun q hq=>hq) (fun q hq=> .inl hq) hpk (fun e he=>List.mem_cons_of_mem _ he)
     (gC rest dead pd _ (k+1) _ H (by omega) hl' (fun p m e=>by have:=hd p m e;omega) hpk1 hpn (fun q hq=>by rw [dY];exact hpb1 q hq)) (fun F _ hfrom _ hlk hm hf hs=> .inr ⟨hdst,s1,e1,e2,e3.1,.inr ⟨hg,sepF hf (fun q hq=> .inl hq) hs,?_⟩⟩)
    unfold aBp
    rw [he]
    refine ⟨hp,npk hf,nd hfrom,fun d hdd hw=>?_⟩
    rw [hlk d hw,hdd,d8]
   ·rename_i p b mk he
    obtain ⟨hp,H⟩:=oand_holds.1 H
    refine jA (s2:=({ s1 with bx:=s1.bx++ [b] }:MS).putO o.dst (mk s1.bx.length)) hok hkn (aCv e3) (fun i b' hb=>by
      rw [dY]
      show aR (s1.bx++ [b]) i=some b'
      rw [e2,iS _ _ _ (i6 hb)];exact hb) (by rw [dY];simp [e2]) (fun t ht=>(jW _ _ _ _ ht).trans (e1 t)) (fun x hx=>hx) (fun p m e=> .inl e)
     (fun q hq=>hq) (fun q hq=> .inl hq) hpk (fun e he=>List.mem_cons_of_mem _ he)
     (gC rest dead pd _ (k+1) _ H (by omega) hl' (fun p m e=>by have:=hd p m e;omega) hpk1 hpn (fun q hq=>by
      rw [dY]
      obtain ⟨c,hc⟩:=hpb1 q hq
      exact ⟨c,(iS _ _ _ (i6 hc)).trans hc⟩)) (fun F _ hfrom hbx hlk hm hf hs=> .inr ⟨hdst,s1,e1,e2,e3.1,.inr ⟨hg,sepF hf (fun q hq=> .inl hq) hs,?_⟩⟩)
    unfold aBp
    rw [he]
    refine ⟨hp,npk hf,hbx _ _ ?_,by rw [dY];simp,nd hfrom,fun d hdd hw=>?_⟩
    ·rw [dY];simp [bQ]
    ·rw [hlk d hw,hdd,d8]
   ·rename_i p r fz he
    split at H
    ·obtain ⟨hp,H⟩:=oand_holds.1 H
     obtain ⟨x,hway,hx⟩:=x8 r H
     rcases hx with ⟨m,rfl,H⟩|⟨m,rfl,H⟩
     ·refine jA hok hkn (aCv e3) (fun i b hb=>by rw [dY,e2];exact hb) (by rw [dY,e2];exact Z0 _) (fun t ht=>(jW _ _ _ _ ht).trans (e1 t)) (fun x hx=>hx) (fun p m e=> .inl e)
       (fun q hq=>hq) (fun q hq=> .inl hq) hpk (fun e he=>List.mem_cons_of_mem _ he)
       (gC rest dead pd _ (k+1) _ H (by omega) hl' (fun p m e=>by have:=hd p m e;omega) hpk1 hpn (fun q hq=>by rw [dY];exact hpb1 q hq)) (fun F _ hfrom _ hlk hm hf hs=> .inr ⟨hdst,s1,e1,e2,e3.1,.inr ⟨hg,sepF hf (fun q hq=> .inl hq) hs,?_⟩⟩)
      unfold aBp
      rw [he]
      refine ⟨rfl,hp,npk hf,hway ⟨nd hfrom,?_⟩⟩
      intro d hdd hw
      rw [hlk d hw,hdd,d8]
     ·cases dead with
      | some _=>exact H.elim
      | none =>
       refine jA (s2:=s1) (dead2:=some (k,m)) hok hkn e3 (fun i b hb=>by rw [e2];exact hb) (by rw [e2];exact Z0 _) (fun t _=>e1 t) (fun x hx=>by simp at hx) (fun p m' e=>by simp at e;exact .inr (by omega))
        (fun q hq=>hq) (fun q hq=> .inl hq) hpk (fun e he=>List.mem_cons_of_mem _ he)
        (gC rest (some (k,m)) pd _ (k+1) s1 H (by omega) hl' (fun p m' e=>by simp at e;omega) hpk1 hpn hpb1) (fun F hmore _ _ hlk hm hf hs=> .inr ⟨hdst,s1,e1,e2,e3.1,.inr ⟨hg,sepF hf (fun q hq=> .inl hq) hs,?_⟩⟩)
       unfold aBp
       rw [he]
       exact ⟨rfl,hp,npk hf,hway (hmore _ rfl)⟩
    ·exact H.elim
   ·rename_i p s' m he
    split at H
    ·split at H
     ·rename_i hod
      split at H
      ·rename_i i hi
       split at H
       ·rename_i b hb
        split at H
        ·rename_i mk hmk
         cases hsk:aCM i mk seen with
         | false=>rw [hsk] at H;exact H.elim
         | true =>
          rw [hsk,Z6] at H
          have hsk:=zX hsk
          obtain ⟨hp,H⟩:=oand_holds.1 H
          obtain ⟨dst,type,pos,after,guard,t,x,y,rfl,hst⟩:∃ dst type pos after guard t x y,o=⟨dst,.store t x y,type,pos,after,guard⟩∧dO P s1 t (s1.ev x) (s1.ev y)= .upd p s' m:=by
           obtain ⟨dst,op,type,pos,after,guard⟩:=o
           cases op with
           | store t x y=>exact ⟨dst,type,pos,after,guard,t,x,y,rfl,(aGD he:iH E s1 (.store t x y)= .upd p s' m)⟩
           | _=>simp [n8] at hi
          have hib:∃ off,s1.ev x= .bp i off:=by
           simp only [n8] at hi
           split at hi
           ·rename_i i' off hx
            simp only [Z1] at hi
            subst hi
            exact ⟨off,hx⟩
           ·simp at hi
          obtain ⟨off,hx⟩:=hib
          have hmi:∀ q∈pd,q.i≠i:=fun q hq e=>by
           have:=hnp q hq
           simp [vW,Op.operands,dP,hx,MV.ment,e] at this
          have hbox:∃ c,aR s1.bx i=some ⟨false,c⟩:=by
           rw [hx] at hst
           unfold dO at hst
           split at hst
           ·simp only at hst
            split at hst
            ·rename_i b0 hb0
             obtain ⟨fz,bc⟩:=b0
             cases fz with
             | false=>exact ⟨bc,hb0⟩
             | true=>simp at hst
            ·simp at hst
           ·simp at hst
          have hsp:∀ e∈seen,Sep ms ⟨k,i,b.c⟩ e.1 e.2:=fun e he=>by
           rcases hsk e he with h|h
           ·exact .inl ⟨mk,hmk,h⟩
           ·exact .inr h
          refine jA (s2:=s1) (dead2:=none) hok hkn e3 (fun i b hb=>by rw [e2];exact hb) (by rw [e2];exact Z0 _) (fun t _=>e1 t) (fun x hx=>hx) (fun p m e=> .inl e)
           (fun q hq=>List.mem_cons_of_mem _ hq) (fun q hq=>by
            rcases List.mem_cons.1 hq with rfl|hq
            ·exact .inr ⟨rfl,hsp⟩
            ·exact .inl hq) hpk (fun e he=>List.mem_cons_of_mem _ he)
           (gC rest none _ _ (k+1) s1 H (by omega) hl' (fun p m e=>by simp at e) (fun q hq=>by
            rcases List.mem_cons.1 hq with rfl|hq
            ·exact Nat.lt_succ_self _
            ·exact hpk1 q hq) (by
             rw [List.map_cons,List.nodup_cons]
             refine ⟨fun hm=>?_,hpn⟩
             obtain ⟨q,hq,e⟩:=List.mem_map.1 hm
             exact hmi q hq e) (fun q hq=>by
            rcases List.mem_cons.1 hq with rfl|hq
            ·exact hbox
            ·exact hpb1 q hq)) (fun F hmore hfrom _ hlk hm hf hs=> .inr ⟨hdst,s1,e1,e2,e3.1,.inr ⟨hg,sepF hf (fun q hq=>by
            rcases List.mem_cons.1 hq with rfl|hq
            ·exact .inr rfl
            ·exact .inl hq) hs,?_⟩⟩)
          unfold aBp
          rw [he]
          refine ⟨hp,nd hfrom,hod,i,b,hi,hb,hm _ (List.mem_cons_self ..),fun q hq hqk=>?_⟩
          rcases hf q hq with h|h
          ·rcases List.mem_cons.1 h with h|h
           ·exact h
           ·have:=hpk q h;omega
          ·omega
        ·exact H.elim
       ·exact H.elim
      ·exact H.elim
     ·exact H.elim
    ·exact H.elim
   ·exact H.elim
  have go:aKo E L ms dead pd seen k o s (fun d p q s'=>mS E L ms Kp K rest d p q (k+1) s')→∃ F σ,Cert E L ms Kp n dead pd seen k s K F σ:=by
   intro h
   unfold aKo at h
   cases hdst:gF o.dst s.n with
   | false=>rw [hdst] at h;exact h.elim
   | true =>
    rw [hdst,Z6] at h
    split at h
    ·rename_i hg
     exact run s (fun _=>rfl) rfl ⟨rfl,rfl⟩ hdst (.inl hg) h
    ·rename_i j want hg
     split at h
     ·rename_i oj hj
      split at h
      ·rename_i d hdj
       split at h
       ·rename_i b hb
        have key:(b=want∧aCu E ms dead pd seen k o (s.put d (.bool want)) (fun d p q s'=>mS E L ms Kp K rest d p q (k+1) s'))∨(b=(!want)∧mS E L ms Kp K rest dead pd seen (k+1) ((s.put d (.bool (!want))).putO o.dst (.tup []))):=by
         unfold rV Br at h
         cases b <;> cases want <;> first|exact .inl ⟨rfl,h⟩|exact .inr ⟨rfl,h⟩
        rcases key with ⟨rfl,hh⟩|⟨rfl,hh⟩
        ·have hlk:=aCc s d (.bool b) hb
         exact run (s.put d (.bool b)) hlk rfl ⟨rfl,rfl⟩ hdst (.inr ⟨j,b,oj,d,hg,hj,hdj,(hlk d).trans hb⟩) hh
        ·have hlk:=aCc s d (.bool (!want)) hb
         refine jA (s2:=(s.put d (.bool (!want))).putO o.dst (.tup [])) hok hkn (aCv ⟨rfl,rfl⟩) (fun i b hb=>by rw [dY];exact hb) (by rw [dY];exact Z0 _) (fun t ht=>(jW _ _ _ _ ht).trans (hlk t)) (fun x hx=>hx) (fun p m e=> .inl e)
          (fun q hq=>hq) (fun q hq=> .inl hq) hpk (fun e he=>he)
          (gC rest dead pd seen (k+1) _ hh (by omega) hl' (fun p m e=>by have:=hd p m e;omega) hpk1 hpn (fun q hq=>by rw [dY];exact hpb q hq))
          (fun F _ hfrom _ hlk2 hm hf hs=> .inr ⟨hdst,s.put d (.bool (!want)),hlk,rfl,rfl,.inl ⟨⟨j,want,oj,d,hg,hj,hdj,.inl ((hlk d).trans hb)⟩,npk hf,nd hfrom,fun d' hdd hw=>?_⟩⟩)
         rw [hlk2 d' hw,hdd,d8]
       ·rename_i hb
        refine jA (s2:=s.putO o.dst (.tup [])) hok hkn (aCv ⟨rfl,rfl⟩) (fun i b hb=>by rw [dY];exact hb) (by rw [dY];exact Z0 _) (fun t ht=>jW _ _ _ _ ht) (fun x hx=>hx) (fun p m e=> .inl e)
         (fun q hq=>hq) (fun q hq=> .inl hq) hpk (fun e he=>he)
         (gC rest dead pd seen (k+1) _ h (by omega) hl' (fun p m e=>by have:=hd p m e;omega) hpk1 hpn (fun q hq=>by rw [dY];exact hpb q hq))
         (fun F _ hfrom _ hlk2 hm hf hs=> .inr ⟨hdst,s,fun _=>rfl,rfl,rfl,.inl ⟨⟨j,want,oj,d,hg,hj,hdj,.inr hb⟩,npk hf,nd hfrom,fun d' hdd hw=>?_⟩⟩)
        rw [hlk2 d' hw,hdd,d8]
       ·exact h.elim
      ·exact h.elim
     ·exact h.elim
  cases dead with
  | none=>simp only [mS] at h;exact go h
  | some pm =>
   obtain ⟨p,m⟩:=pm
   simp only [mS] at h
   split at h
   ·rename_i mk hmk
    cases hb:mk.testBit p with
    | false=>rw [hb,Z5] at h;exact go h
    | true =>
     rw [hb,Z6] at h
     exact jA (s2:=s) (dead2:=some (p,m)) hok hkn ⟨rfl,rfl⟩ (fun _ _ h=>h) (Z0 _) (fun _ _=>rfl) (fun x hx=>hx) (fun p m e=> .inl e)
      (fun q hq=>hq) (fun q hq=> .inl hq) hpk (fun e he=>he)
      (gC rest (some (p,m)) pd seen (k+1) s h (by omega) hl' (fun p' m' e=>by have:=hd p' m' e;omega) hpk1 hpn hpb) (fun F hmore _ _ _ _ _ _=> .inl ⟨p,m,mk,hmore _ rfl,hd p m rfl,hmk,hb⟩)
   ·exact h.elim
section
theorem Mem.extend {S0:Nat→Prop} {w0:Base} {w:World} {bx bx':List Box} {c:Ctx} (h:Mem S0 w0 bx c w) (hb:∀ i b,aR bx i=some b→aR bx' i=some b) (hl:bx.length≤bx'.length):Mem S0 w0 bx' c w:=by
 have up:∀ i b0,c.live i→aR bx' i=some b0→aR bx i=some b0:=by
  intro i b0 hi h0
  have hlt:=(h.fresh i hi).2.2
  have:aR bx i=some bx[i]:=by rw [bQ];simp [hlt]
  rw [hb _ _ this] at h0
  rw [this,h0]
 exact ⟨h.ext,h.S0lt,h.gl,h.hS,fun b=>(h.hW b).trans ⟨fun ⟨i,b0,q1,q2,q3⟩=>⟨i,b0,q1,hb _ _ q2,q3⟩,fun ⟨i,b0,q1,q2,q3⟩=>⟨i,b0,q1,up i b0 q1 q2,q3⟩⟩,h.inj,
  fun i hi=>by have:=h.fresh i hi;exact ⟨this.1,this.2.1,by omega⟩,fun i b hi h0=>h.box i b hi (up i b hi h0),h.pin⟩
def left (ops:Array Oper) (listed:Array Bool):Nat:=((List.range ops.size).filter fun i=>!listed.getD i true).length
theorem zG (f g:Nat→Bool) (i:Nat) (hi:f i=true) (hg:∀ j,g j=(f j&&decide (j≠i))):∀ (l:List Nat),l.Nodup→i∈l→(l.filter g).length+1=(l.filter f).length
 | [],_,h=>by simp at h
 | x::l,hn,h=>by
  simp only [List.nodup_cons] at hn
  by_cases e:x=i
  ·subst e
   have hgx:g x=false:=by rw [hg];simp
   have:l.filter g=l.filter f:=by
    apply List.filter_congr
    intro y hy
    rw [hg]
    have:y≠x:=fun e=>hn.1 (e ▸ hy)
    simp [this]
   simp [hi,hgx,this]
  ·have hm:i∈l:=by simpa [Ne.symm e] using h
   have ih:=zG f g i hi hg l hn.2 hm
   have hgx:g x=f x:=by rw [hg];simp [e]
   cases hx:f x with
   | true=>rw [hx] at hgx;simp [hx,hgx];omega
   | false=>rw [hx] at hgx;simp [hx,hgx];omega
theorem aG0 {ops:Array Oper} {listed:Array Bool} {i:Nat} (hsz:listed.size=ops.size) (hi:i∈Region.ready .any ops listed):left ops (listed.setIfInBounds i true)+1=left ops listed:=by
 obtain ⟨h1,h2,_⟩:=bD.1 hi
 refine zG (fun j=>!listed.getD j true) (fun j=>!(listed.setIfInBounds i true).getD j true) i (by simp only [h2];rfl) (fun j=>?_) _ List.nodup_range (by simp [h1])
 simp only [Array.getD_eq_getD_getElem?,Array.getElem?_setIfInBounds]
 by_cases e:i=j
 ·subst e;simp [hsz,h1]
 ·simp [e,Ne.symm e]
theorem qN {ops:Array Oper} {listed:Array Bool} {n:Nat} (hsz:listed.size=ops.size) (h:∀ j,listed.getD j false=decide (j<n)):left ops listed=ops.size -n:=by
 have e:∀ m,m≤ops.size→((List.range m).filter fun i=>!listed.getD i true).length=m -n:=by
  intro m
  induction m with
  | zero=>simp
  | succ m ih =>
   intro hm
   rw [List.range_succ,List.filter_append,List.length_append,ih (by omega)]
   have:listed.getD m true=decide (m<n):=by rw [aY (by omega),h]
   simp only [List.filter_cons,this,List.filter_nil]
   by_cases hlt:m<n
   ·simp [hlt];omega
   ·simp [hlt];omega
 exact e _ (Z0 _)
def Agr (s:MS) (bx':List Box) (m:MV):Prop:=∀ i b,m.ment i=true→aR s.bx i=some b→aR bx' i=some b
theorem aKK {s:MS} {bx':List Box} (hz:∀ i b,b.fz=true→aR s.bx i=some b→aR bx' i=some b):∀ (ms l:List MV),s.shut ms=some l→MS.shut { s with bx:=bx' } ms=some l
 | [],l,h=>h
 | m::ms,l,h=>by
  unfold MS.shut at h⊢
  split at h
  ·rename_i j off
   cases ho:off.beq 0 with
   | false=>rw [ho] at h;simp at h
   | true =>
    rw [ho,Z6] at h
    dsimp only
    rw [Z6]
    split at h
    ·rename_i x hb
     rw [hz j _ rfl hb]
     cases hc:x.clean true with
     | false=>rw [hc] at h;simp at h
     | true =>
      rw [hc,Z6] at h
      dsimp only
      rw [hc,Z6]
      split at h
      ·rename_i l' hl'
       rw [aKK hz ms l' hl']
       exact h
      ·simp at h
    ·simp at h
  ·simp at h
mutual
theorem aSp {s:MS} {bx':List Box} (hz:∀ i b,b.fz=true→aR s.bx i=some b→aR bx' i=some b):∀ (m:MV) (sh:Shown),Agr s bx' m→s.show m=some sh→MS.show { s with bx:=bx' } m=some sh
 | .bp i off,sh,ha,h=>by
  simp only [MS.show] at h⊢
  cases hc:off.beq 0 with
  | false=>rw [hc] at h;simp at h
  | true =>
   rw [hc,Z6] at h
   rw [Z6]
   split at h
   ·rename_i fz m hb
    rw [ha i _ (by simp [MV.ment]) hb]
    dsimp only
    cases hc:m.clean true with
    | true=>rw [hc] at h;exact h
    | false =>
     rw [hc,Z5] at h
     rw [Z5]
     split at h
     ·rename_i f caps
      split at h
      ·rename_i l hl'
       rw [aKK hz caps l hl']
       exact h
      ·simp at h
     ·simp at h
   ·simp at h
 | .bs i off len,sh,ha,h=>by
  simp only [MS.show] at h⊢
  split at h
  ·rename_i fz k l hb
   rw [ha i _ (by simp [MV.ment]) hb]
   exact h
  ·rename_i fz wd n f hb
   rw [ha i _ (by simp [MV.ment]) hb]
   exact h
  ·simp at h
 | .fn f caps,sh,ha,h=>by
  simp only [MS.show] at h⊢
  split at h
  ·rename_i l p z hs
   rw [xB hz caps _ (fun i b hm=>ha i b (by simpa only [MV.ment] using hm)) hs]
   exact h
  ·simp at h
 | .any,sh,ha,h=>by simpa only [MS.show] using h
 | .junk _,sh,ha,h=>by simpa only [MS.show] using h
 | .bool _,sh,ha,h=>by simpa only [MS.show] using h
 | .int _ _,sh,ha,h=>by simpa only [MS.show] using h
 | .val _,sh,ha,h=>by simpa only [MS.show] using h
 | .big _ _,sh,ha,h=>by simpa only [MS.show] using h
 | .ws _,sh,ha,h=>by simpa only [MS.show] using h
 | .sl _ _ _,sh,ha,h=>by simpa only [MS.show] using h
 | .st ms,sh,ha,h=>by
  simp only [MS.show] at h⊢
  cases hc:oF true ms with
  | true=>rw [hc] at h;exact h
  | false =>
   rw [hc,Z5] at h
   rw [Z5]
   split at h
   ·rename_i l p z hs
    rw [xB hz ms _ (fun i b hm=>ha i b (by simpa only [MV.ment] using hm)) hs]
    exact h
   ·simp at h
 | .ref _,sh,ha,h=>by simpa only [MS.show] using h
 | .br _ _ _,sh,ha,h=>by simpa only [MS.show] using h
 | .tup _,sh,ha,h=>by simpa only [MS.show] using h
 | .iface _ _,sh,ha,h=>by simpa only [MS.show] using h
 | .emp,sh,ha,h=>by simpa only [MS.show] using h
theorem xB {s:MS} {bx':List Box} (hz:∀ i b,b.fz=true→aR s.bx i=some b→aR bx' i=some b):∀ (ms:List MV) (sh:Showns),(∀ i b,dP i ms=true→aR s.bx i=some b→aR bx' i=some b)→s.shows ms=some sh→MS.shows { s with bx:=bx' } ms=some sh
 | [],sh,ha,h=>by simpa only [MS.shows] using h
 | m::ms,sh,ha,h=>by
  simp only [MS.shows] at h⊢
  split at h
  ·rename_i x p y l q z h1 h2
   rw [aSp hz m _ (fun i b hm=>ha i b (by simp [dP,hm])) h1,xB hz ms _ (fun i b hm=>ha i b (by simp [dP,hm])) h2]
   exact h
  ·simp at h
end
theorem aLt {s:MS} {bx':List Box} {agg:Bool} {size:Nat} {x:MV} {p:OProp} {m:MV} (ha:Agr s bx' x) (h:gB s agg size x= .val p m):gB { s with bx:=bx' } agg size x= .val p m:=by
 cases x
 case bp i off =>
  simp only [gB] at h⊢
  split at h
  ·rename_i b hb
   rw [ha i _ (by simp [MV.ment]) hb];exact h
  ·simp at h
 case br i idx off =>
  simp only [gB] at h⊢
  split at h
  ·rename_i b hb
   rw [ha i _ (by simp [MV.ment]) hb];exact h
  ·simp at h
 all_goals exact h
theorem lY {P:Program} {s:MS} {bx':List Box} {t:TypeId} {x y:MV} {p:OProp} {m:MV} (ha:Agr s bx' x) (h:cT P s t x y= .val p m):cT P { s with bx:=bx' } t x y= .val p m:=by
 cases x
 case bs i off len =>
  cases hnb:aR s.bx i with
  | some b =>
   have hb':=ha i b (by simp [MV.ment]) hnb
   unfold cT at h⊢
   simp only [hnb] at h
   simp only [hb']
   exact h
  | none =>
   unfold cT at h⊢
   simp only [hnb] at h
   (repeat' split at h) <;> simp_all
 all_goals exact h
theorem aNE {P:Program} {s:MS} {bx':List Box} {t:TypeId} {x:MV} {lo hi:Option MV} {p:OProp} {m:MV} (ha:Agr s bx' x) (h:pM P s t x lo hi= .val p m):pM P { s with bx:=bx' } t x lo hi= .val p m:=by
 rcases gS P s t x lo hi with e|⟨rfl,rfl,e⟩
 ·rcases gS P { s with bx:=bx' } t x lo hi with e2|⟨rfl,rfl,e2⟩
  ·rw [e2,← e];exact h
  ·exfalso
   rw [e] at h
   unfold kF at h
   split at h
   ·split at h <;> simp at h
   ·simp at h
 ·rw [e] at h
  have e3:u7 P { s with bx:=bx' } t x= .val p m:=by
   unfold u7 at h⊢
   split at h
   ·rename_i i off
    simp only at h⊢
    cases hb:aR s.bx i with
    | none =>
     rw [hb] at h
     (repeat' split at h) <;> first|(rename_i hq _ _ _ _ _ _;simp at hq;done)|(simp at h;done)|simp_all
    | some b =>
     have:=ha i b (by simp [MV.ment]) hb
     rw [this]
     rw [hb] at h
     exact h
   ·simp at h
  unfold pM
  split
  ·exact e3
  ·rename_i hno
   exfalso
   refine hno ?_
   unfold kF
   split
   ·split <;> rfl
   ·rfl
theorem aIk {P:Program} {s:MS} {bx':List Box} {src dst:TypeId} {x:MV} {p:OProp} {m:MV} (ha:Agr s bx' x) (h:fK P s src dst x= .val p m):fK P { s with bx:=bx' } src dst x= .val p m:=by
 rcases uZ P src dst x with e|⟨p',m',e⟩
 ·have h1:kB P s src dst x= .val p m:=by
   unfold fK at h;rw [e] at h;exact h
  have h2:kB P { s with bx:=bx' } src dst x= .val p m:=by
   cases x
   case bs i off len =>
    unfold kB at h1⊢
    simp only at h1⊢
    cases hb:aR s.bx i with
    | none =>
     rw [hb] at h1
     exfalso
     (repeat' split at h1) <;> first|(cases h1;done)|(simp at h1;done)|simp_all
    | some b =>
     have:=ha i b (by simp [MV.ment]) hb
     simp only [this]
     rw [hb] at h1
     exact h1
   all_goals exact h1
  unfold fK
  rw [e]
  exact h2
 ·unfold fK at h⊢
  rw [e] at h⊢
  exact h
theorem r9 {s:MS} {o:Op} {bx':List Box} (ha:∀ i b,dP i (vW s o)=true→aR s.bx i=some b→aR bx' i=some b) {x:Operand} (hx:x∈o.operands.toList):Agr s bx' (s.ev x):=by
 intro i b hm hb
 refine ha i b ?_ hb
 have:∀ (l:List MV),s.ev x∈l→dP i l=true:=by
  intro l
  induction l with
  | nil=>intro h;simp at h
  | cons y r ih =>
   intro h
   simp only [dP]
   rcases List.mem_cons.1 h with e|h
   ·rw [← e,hm];simp
   ·rw [ih h];simp
 exact this _ (List.mem_map.2 ⟨x,hx,rfl⟩)
theorem aIf {P:Program} {E:Env P} {s:MS} {o:Op} {bx':List Box} {p:OProp} {m:MV} (ha:∀ i b,dP i (vW s o)=true→aR s.bx i=some b→aR bx' i=some b) (h:iH E s o= .val p m):iH E { s with bx:=bx' } o= .val p m:=by
 have hx:=fun (x:Operand) (q:x∈o.operands.toList)=>r9 ha q
 cases o
 case load t x =>
  simp only [iH] at h⊢
  split at h
  ·rename_i agg size ht
   exact aLt (hx x (by simp [Op.operands])) h
  ·simp at h
 case indexAddr t x y =>
  simp only [iH] at h⊢
  cases x
  case global g=>exact h
  case tmp u=>exact lY (x:=s.ev (.tmp u)) (hx (.tmp u) (by simp [Op.operands])) h
  case const v=>exact lY (x:=s.ev (.const v)) (hx (.const v) (by simp [Op.operands])) h
  case func f=>exact lY (x:=s.ev (.func f)) (hx (.func f) (by simp [Op.operands])) h
 case store t x y =>
  simp only [iH] at h
  unfold dO at h
  simp only [Bool.cond_eq_ite] at h
  (repeat' split at h) <;> simp at h
 case call c =>
  obtain ⟨callee,args,tys⟩:=c
  cases callee
  case value f =>
   simp only [iH] at h
   split at h
   ·exact (lD kJ h rfl).elim
   ·unfold gA at h
    simp only [Bool.cond_eq_ite] at h
    (repeat' split at h) <;> simp at h
  case builtin b =>
   cases b
   case copy =>
    simp only [iH] at h
    unfold dT oK at h
    simp only [Bool.cond_eq_ite] at h
    (repeat' split at h) <;> simp at h
   case append =>
    simp only [iH] at h
    unfold hJ lX at h
    simp only [Bool.cond_eq_ite] at h
    (repeat' split at h) <;> simp at h
   all_goals exact h
  all_goals exact h
 case panic x =>
  simp only [iH] at h
  unfold hZ at h
  simp only [Bool.cond_eq_ite] at h
  (repeat' split at h) <;> simp at h
 case makeFunc fn first caps=>cases fn <;> exact h
 case slice t x lo hi mx =>
  cases mx with
  | some _=>exact h
  | none=>exact aNE (r9 ha (by simp [Op.operands])) h
 case convert src dst x=>exact aIk (r9 ha (by simp [Op.operands])) h
 all_goals exact h
theorem aLn {P:Program} {E:Env P} {s:MS} {bx':List Box} {f:MV} {args:List MV} {p:OProp} {r:MRes} {fz:List Nat} (hz:∀ i b,b.fz=true→aR s.bx i=some b→aR bx' i=some b) (hf:Agr s bx' f) (ha:∀ i b,dP i args=true→aR s.bx i=some b→aR bx' i=some b)
  (h:gA E s f args= .res p r fz):gA E { s with bx:=bx' } f args= .res p r fz:=by
 cases f
 case fn f caps =>
  simp only [gA] at h⊢
  split at h
  ·rename_i c hc
   split at h
   ·rename_i ms q fz2 hs
    have happ:∀ (i:Nat) (a b:List MV),dP i (a++b)=(dP i a || dP i b):=by
     intro i a b
     induction a with
     | nil=>simp [dP]
     | cons x r ih=>simp [dP,ih,Bool.or_assoc]
    rw [xB hz (args++caps) _ (fun i b hm hb=>by
     rw [happ] at hm
     rcases (Bool.or_eq_true ..).mp hm with hm|hm
     ·exact ha i b hm hb
     ·exact hf i b (by simpa only [MV.ment] using hm) hb) hs]
    exact h
   ·simp at h
  ·simp at h
 all_goals simp [gA] at h
theorem aD9 {i:Nat}:∀ {l:List MV},dP i l=false→∀ m∈l,m.ment i=false
 | [],_=>fun m hm=>by simp at hm
 | x::r,h=>fun m hm=>by
  simp only [dP,Bool.or_eq_false_iff] at h
  rcases List.mem_cons.1 hm with rfl|hm
  ·exact h.1
  ·exact aD9 h.2 m hm
def jD (listed:Array Bool):List Pend→List Box→List Box
 | [],bx=>bx
 | q::r,bx=>jD listed r (if listed.getD q.k false=true then aO bx q.i ⟨false,q.c⟩ else bx)
theorem pZ (listed:Array Bool):∀ (pd:List Pend) (bx:List Box),(jD listed pd bx).length=bx.length
 | [],_=>rfl
 | q::r,bx=>by
  simp only [jD]
  rw [pZ listed r]
  split
  ·rw [bX]
  ·rfl
theorem gP (listed:Array Bool) (i:Nat):∀ (pd:List Pend) (bx:List Box),(∀ q∈pd,listed.getD q.k false=true→q.i≠i)→aR (jD listed pd bx) i=aR bx i
 | [],_,_=>rfl
 | q::r,bx,h=>by
  simp only [jD]
  rw [gP listed i r _ (fun q hq=>h q (List.mem_cons_of_mem _ hq))]
  split
  ·rename_i hl
   rw [bI,if_neg (fun e=>h q (List.mem_cons_self ..) hl e.1)]
  ·rfl
theorem uL (listed:Array Bool) (i:Nat) (c:BC) (k:Nat) (hl:listed.getD k false=true):∀ (pd:List Pend) (bx:List Box),(pd.map Pend.i).Nodup→⟨k,i,c⟩∈pd→i<bx.length→aR (jD listed pd bx) i=some ⟨false,c⟩
 | [],_,_,h,_=>by simp at h
 | q::r,bx,hn,h,hlt=>by
  simp only [jD]
  rw [List.map_cons,List.nodup_cons] at hn
  rcases List.mem_cons.1 h with rfl|h
  ·rw [gP listed i r _ (fun q hq _ e=>hn.1 (List.mem_map.2 ⟨q,hq,e⟩)),if_pos hl,bI,if_pos ⟨rfl,hlt⟩]
  ·refine uL listed i c k hl r _ hn.2 h ?_
   split
   ·rw [bX];exact hlt
   ·exact hlt
theorem aKi {α:Type}:∀ {a b:List α},a.length=b.length→(∀ i,aR a i=aR b i)→a=b
 | [], [],_,_=>rfl
 | [],_::_,h,_=>by simp at h
 | _::_, [],h,_=>by simp at h
 | x::a,y::b,hl,h=>by
  have h0:=h 0
  simp only [aR,Z1] at h0
  rw [h0,aKi (a:=a) (b:=b) (by simpa using hl) (fun i=>by have:=h (i+1);simpa only [aR] using this)]
theorem aH0 (listed:Array Bool) (i:Nat) (pd:List Pend) (bx:List Box) (hn:(pd.map Pend.i).Nodup):(∃ q∈pd,listed.getD q.k false=true∧q.i=i∧(i<bx.length→aR (jD listed pd bx) i=some ⟨false,q.c⟩))∨((∀ q∈pd,listed.getD q.k false=true→q.i≠i)∧aR (jD listed pd bx) i=aR bx i):=by
 by_cases h:∃ q∈pd,listed.getD q.k false=true∧q.i=i
 ·obtain ⟨q,h1,h2,h3⟩:=h
  refine .inl ⟨q,h1,h2,h3,fun hlt=>?_⟩
  obtain ⟨k,i',c⟩:=q
  simp only at h3
  subst h3
  exact uL listed i' c k h2 pd bx hn h1 hlt
 ·have hno:∀ q∈pd,listed.getD q.k false=true→q.i≠i:=fun q h1 h2 h3=>h ⟨q,h1,h2,h3⟩
  exact .inr ⟨hno,gP listed i pd bx hno⟩
theorem aBu (listed:Array Bool):∀ (pd:List Pend) (bx:List Box),(∀ q∈pd,listed.getD q.k false=true)→jD listed pd bx=zR pd bx
 | [],_,_=>rfl
 | q::r,bx,h=>by
  simp only [jD,zR,h q (List.mem_cons_self ..),if_true]
  exact aBu listed r _ fun q hq=>h q (List.mem_cons_of_mem _ hq)
theorem aDA (listed:Array Bool):∀ (pd:List Pend) (bx:List Box),(∀ q∈pd,listed.getD q.k false=false)→jD listed pd bx=bx
 | [],_,_=>rfl
 | q::r,bx,h=>by
  simp only [jD,h q (List.mem_cons_self ..)]
  exact aDA listed r _ fun q hq=>h q (List.mem_cons_of_mem _ hq)
theorem aEf:∀ {l:List Pend},(l.map Pend.i).Nodup→∀ {q r:Pend},q∈l→r∈l→q.i=r.i→q=r
 | [],_,_,_,h,_,_=>by simp at h
 | x::l,hn,q,r,hq,hr,e=>by
  rw [List.map_cons,List.nodup_cons] at hn
  rcases List.mem_cons.1 hq with hq1|hq1 <;> rcases List.mem_cons.1 hr with hr1|hr1
  ·rw [hq1,hr1]
  ·rw [hq1] at e;exact absurd (List.mem_map.2 ⟨r,hr1,e.symm⟩) hn.1
  ·rw [hr1] at e;exact absurd (List.mem_map.2 ⟨q,hq1,e⟩) hn.1
  ·exact aEf hn.2 hq1 hr1 e
theorem aIt {P:Program} {s s2:MS} {t:TypeId} {i off:Nat} {x:MV} {p:OProp} {m:MV} {bx':List Box} (h:dO P s t (.bp i off) x= .upd p s2 m) (hb:aR bx' i=aR s.bx i) :
  ∃ c',s2.bx=aO s.bx i ⟨false,c'⟩∧dO P { s with bx:=bx' } t (.bp i off) x= .upd p { s with bx:=aO bx' i ⟨false,c'⟩ } m:=by
 unfold dO at h⊢
 split at h
 ·rename_i agg size ht
  simp only at h⊢
  simp only [hb]
  split at h
  ·rename_i b0 hb0
   cases hc:(!b0.fz&&x.plain&&x.width.beq size&&(x.isAgg==agg)) with
   | false=>rw [hc] at h;simp at h
   | true =>
    rw [hc,Z6] at h
    split at h
    ·rename_i p' c' hs
     simp only [Act1.upd.injEq] at h
     obtain ⟨rfl,rfl,rfl⟩:=h
     refine ⟨c',rfl,?_⟩
     simp
    ·simp at h
  ·simp at h
 ·simp at h
structure Pre (S0:Nat→Prop) (w0:Base) (L:List Oper) (n:Nat) (s:MS) (F:Fin') (σ:Nat→MS) (listed:Array Bool) (c:Ctx) (a:Act) (w:World):Prop where
 mem:Mem S0 w0 (jD listed F.pd F.sF.bx) c w
 tm:∀ t,(∀ k o,k<n→aR L k=some o→listed.getD k false=false→o.dst≠some t)→Rep c w (look t F.sF.tm) (a.tmps.getD t undef)
 size:a.tmps.size=F.sF.n
 defers:a.defers=w0.df
 np:∀ i b z,w0.pin i b z→jG F.sF.np i=true
 live:∀ i,c.live i→i<s.bx.length∨∃ k,k<n∧listed.getD k false=true∧(σ k).bx.length=i∧(σ (k+1)).bx.length=i+1
 dead:∀ p m,F.dead=some (p,m)→listed.getD p false=false
 suf:∀ k,n≤k→listed.getD k false=false
 pl:∀ q∈F.pd,listed.getD q.k false=true→c.live q.i
theorem cA {listed:Array Bool} {i j:Nat} (hi:i<listed.size):(listed.setIfInBounds i true).getD j false=(decide (i=j) || listed.getD j false):=by
 simp only [Array.getD_eq_getD_getElem?,Array.getElem?_setIfInBounds]
 by_cases e:i=j
 ·subst e;simp [hi]
 ·simp [e]
section
variable {P:Program} {E:Env P} {ops:Array Oper} {Kp:MV→Prop} {S0:Nat→Prop} {w0:Base} {Q:Exit→Act→World→Prop} {n:Nat} {s:MS} {F:Fin'} {σ:Nat→MS} {K:MS→Prop}
theorem rR (C:Cert E ops.toList (gR [] ops.toList) Kp n none [] [] 0 s K F σ):∀ i j,i≤j→j≤n→(σ i).bx.length≤(σ j).bx.length:=by
 intro i j hij hj
 induction j with
 | zero =>
  have:i=0:=by omega
  subst this;exact Z0 _
 | succ j ih =>
  rcases Nat.lt_or_ge i (j+1) with h|h
  ·exact Nat.le_trans (ih (by omega) (by omega)) (C.len j (by omega) (by omega))
  ·have:i=j+1:=by omega
   subst this;exact Z0 _
theorem aOR (hP:∀ m v w' a',Kp m→ExtB w0 w'→Rep1 (Ctx.res S0) w' m v→a'.defers=w0.df→Q (.panic [{ v,recovered:=false }]) a' w')
  (hssa:mG ops.toList n 0 (gR [] ops.toList) ops.toList=true) (hback:eJ 0 ops.toList=true)
  (C:Cert E ops.toList (gR [] ops.toList) Kp n none [] [] 0 s K F σ) {listed:Array Bool} {c:Ctx} {a:Act} {w:World} (hd:Down ops listed) (h:Pre S0 w0 ops.toList n s F σ listed c a w)
  {i:Nat} (hi:i∈Region.ready .any ops listed) (hin:i<n) {Kn:Act→World→Prop} (hK:∀ c' a' w',Pre S0 w0 ops.toList n s F σ (listed.setIfInBounds i true) c' a' w'→Kn a' w') :
  wpOp P ops Q i Kn a w:=by
 obtain ⟨h1,h2,o,hoi,hedges⟩:=bD.1 hi
 have hsz:=hd.size
 have hnl:listed.getD i false=false:=by rw [← aY (by omega)];exact h2
 have hLi:aR ops.toList i=some o:=by rw [bQ];simpa using hoi
 obtain ⟨mk,hmk,hss,_⟩:=m8 ops.toList n ops.toList _ 0 hssa i o hLi
 rw [Nat.zero_add] at hss
 have hss:=hss hin
 have hmask:=hd.mask hback i o mk hLi hmk hedges
 have looks_ok:∀ t,t∈Oper.looks ops.toList o→(∀ k o',k<n→aR ops.toList k=some o'→listed.getD k false=false→o'.dst≠some t)∧(∀ j,i≤j→¬ wrN ops.toList n j t):=by
  intro t ht
  constructor
  ·intro k o' hk hok hlk hdst
   have:=o8 ops.toList 0 hss k o' t hok hdst
   rw [Nat.zero_add] at this
   by_cases e:k=i
   ·exact this.2 e ht
   ·have:=(this.1 hk e).2 ht
    rw [hmask k this.2] at hlk
    simp at hlk
  ·rintro j hij ⟨hjn,o',hoj,hdst⟩
   have:=o8 ops.toList 0 hss j o' t hoj hdst
   rw [Nat.zero_add] at this
   by_cases e:j=i
   ·exact this.2 e ht
   ·have:=(this.1 hjn e).2 ht
    omega
 have own:∀ t,o.dst=some t→(∀ j,i<j→¬ wrN ops.toList n j t)∧∀ k o',k<n→k≠i→aR ops.toList k=some o'→o'.dst≠some t:=by
  intro t ht
  have key:∀ k o',k<n→k≠i→aR ops.toList k=some o'→o'.dst≠some t:=by
   intro k o' hk hne hok hdst
   have:=o8 ops.toList 0 hss k o' t hok hdst
   rw [Nat.zero_add] at this
   exact (this.1 hk hne).1 ht
  exact ⟨fun j hj ⟨hjn,o',hoj,hdst⟩=>key j o' hjn (by omega) hoj hdst,key⟩
 have next0:∀ (c':Ctx) (a':Act) (w':World),Mem S0 w0 (jD (listed.setIfInBounds i true) F.pd F.sF.bx) c' w'→Keeps c c' w w'→
   (∀ t,o.dst≠some t→a'.tmps.getD t undef=a.tmps.getD t undef)→(∀ t,o.dst=some t→Rep c' w' (look t F.sF.tm) (a'.tmps.getD t undef))→a'.tmps.size=F.sF.n→a'.defers=w0.df→
   (∀ i',c'.live i'→c.live i'∨((σ i).bx.length=i'∧(σ (i+1)).bx.length=i'+1))→(∀ p m,F.dead=some (p,m)→p≠i)→(∀ q∈F.pd,q.k=i→c'.live q.i)→Kn a' w':=by
  intro c' a' w' hm hk ht1 ht2 hsz' hdf hlive hdd hpl
  refine hK c' a' w' ⟨hm,fun t ht=>?_,hsz',hdf,h.np,fun i' hi'=>?_,fun p m e=>?_,fun k hk2=>?_,fun q hq hl=>?_⟩
  ·by_cases e:o.dst=some t
   ·exact ht2 t e
   ·rw [ht1 t e]
    refine (h.tm t fun k o' q1 q2 q3=>?_).keep hk
    by_cases ek:k=i
    ·subst ek
     rw [hLi,Z1] at q2
     subst q2
     exact e
    ·exact ht k o' q1 q2 (by rw [cA (by omega),q3];simp [Ne.symm ek])
  ·rcases hlive i' hi' with q|⟨q1,q2⟩
   ·rcases h.live i' q with q|⟨k,r1,r2,r3⟩
    ·exact .inl q
    ·exact .inr ⟨k,r1,by rw [cA (by omega),r2];simp,r3⟩
   ·exact .inr ⟨i,hin,by rw [cA (by omega)];simp,q1,q2⟩
  ·rw [cA (by omega),h.dead p m e]
   simp [Ne.symm (hdd p m e)]
  ·rw [cA (by omega),h.suf k hk2]
   have:i≠k:=by omega
   simp [this]
  ·rw [cA (by omega)] at hl
   by_cases e:q.k=i
   ·exact hpl q hq e
   ·have:listed.getD q.k false=true:=by simpa [Ne.symm e] using hl
    exact (hk.live _ (h.pl q hq this)).1
 have same:(∀ q∈F.pd,q.k≠i)→jD (listed.setIfInBounds i true) F.pd F.sF.bx=jD listed F.pd F.sF.bx:=by
  intro hne
  have:∀ (pd:List Pend) (bx:List Box),(∀ q∈pd,q.k≠i)→jD (listed.setIfInBounds i true) pd bx=jD listed pd bx:=by
   intro pd
   induction pd with
   | nil=>intro bx _;rfl
   | cons q r ih =>
    intro bx hq
    simp only [jD]
    have e:(listed.setIfInBounds i true).getD q.k false=listed.getD q.k false:=by
     rw [cA (by omega)];simp [Ne.symm (hq q (List.mem_cons_self ..))]
    rw [e]
    exact ih _ fun q' hq'=>hq q' (List.mem_cons_of_mem _ hq')
  exact this _ _ hne
 have next:∀ (c':Ctx) (w':World) (v:Value),(∀ q∈F.pd,q.k≠i)→Mem S0 w0 (jD listed F.pd F.sF.bx) c' w'→Keeps c c' w w'→(∀ t,o.dst=some t→Rep c' w' (look t F.sF.tm) v)→gF o.dst F.sF.n=true→
   (∀ i',c'.live i'→c.live i'∨((σ i).bx.length=i'∧(σ (i+1)).bx.length=i'+1))→(∀ p m,F.dead=some (p,m)→p≠i)→Kn (a.put o.dst v) w':=by
  intro c' w' v hne hm hk hv hdst hlive hdd
  refine next0 c' _ w' (by rw [same hne];exact hm) hk (fun t e=>?_) (fun t e=>?_) ?_ ?_ hlive hdd (fun q hq e=>absurd e (hne q hq))
  ·cases hod:o.dst with
   | none=>rfl
   | some d =>
    have hlt:d<a.tmps.size:=by
     rw [h.size];rw [hod] at hdst;simpa [gF,Nat.blt_eq] using hdst
    rw [aB4 a d t v hlt,if_neg (fun q=>e (by rw [hod,q]))]
  ·rw [e]
   have hlt:t<a.tmps.size:=by
    rw [h.size];rw [e] at hdst;simpa [gF,Nat.blt_eq] using hdst
   rw [aB4 a t t v hlt,if_pos rfl]
   exact hv t e
  ·cases o.dst with
   | none=>exact h.size
   | some d=>simp only [Act.put,Array.size_setIfInBounds];exact h.size
  ·cases o.dst <;> exact h.defers
 unfold wpOp
 simp only [hoi]
 rcases C.at_ i o (by omega) hin hLi with ⟨p,m,mk',q1,q2,q3,q4⟩|⟨hdst,s1,e1,e2,e3,hcase⟩
 ·
  exfalso
  rw [hmk,Z1] at q3
  subst q3
  have:=hmask p q4
  rw [h.dead p m q1] at this
  simp at this
 ·have hn1:(σ i).n=F.sF.n:=(C.num i (by omega) (by omega)).1
  have hdst':gF o.dst F.sF.n=true:=by rw [← hn1];exact hdst
  have hlook:∀ t,t∈Oper.looks ops.toList o→Rep c w (look t s1.tm) (a.tmps.getD t undef):=by
   intro t ht
   obtain ⟨q1,q2⟩:=looks_ok t ht
   rw [e1 t,← C.lk i (by omega) (by omega) t q2]
   exact h.tm t q1
  have hgd:∀ j want oj d,o.guard=some (j,want)→aR ops.toList j=some oj→oj.dst=some d→d∈Oper.looks ops.toList o:=by
   intro j want oj d q1 q2 q3
   simp [Oper.looks,q1,q2,q3]
  rcases hcase with ⟨⟨j,want,oj,d,g1,g2,g3,g4⟩,hne,hR⟩|⟨hg,hsep,hrun⟩
  ·
   have hb:=hlook d (hgd j want oj d g1 g2 g3)
   have hwf:Region.wanted o (yielded ops a.tmps)=false:=by
    rcases g4 with g4|g4
    ·rw [g4] at hb
     rw [pD g1 g2 g3 hb];cases want <;> rfl
    ·rw [g4] at hb
     exact aAc g1 g2 g3 hb
   rw [hwf,if_neg (by simp)]
   exact next c w undef hne h.mem (h.mem.grow (Ext.refl w)).2 (fun t ht=>by rw [hR.2 t ht (own t ht).1];exact ⟨#[],rfl,rfl⟩) hdst' (fun i' hi'=> .inl hi') hR.1
  ·have hw:Region.wanted o (yielded ops a.tmps)=true:=by
    rcases hg with hg|⟨j,want,oj,d,g1,g2,g3,g4⟩
    ·simp [Region.wanted,hg]
    ·have hb:=hlook d (hgd j want oj d g1 g2 g3)
     rw [g4] at hb
     rw [pD g1 g2 g3 hb];simp
   rw [if_pos hw]
   refine .inl ?_
   have HE:uH c w s1 a o.op.operands.toList:=kH fun t ht=>hlook t (by
    simp only [Oper.looks,List.mem_append,List.mem_filterMap]
    exact .inl ⟨_,ht,rfl⟩)
   have hagr:(∀ q∈F.pd,q.k≠i)→∀ i' b,dP i' (vW s1 o.op)=true→aR s1.bx i'=some b→aR (jD listed F.pd F.sF.bx) i'=some b:=by
    intro hne i' b hm hb
    have h1:=C.bx i (by omega) (by omega) i' b (by rw [← e2];exact hb)
    rw [gP listed i' F.pd F.sF.bx (fun q hq hl e=>?_)]
    ·exact h1
    ·rcases hsep q hq (hne q hq) with ⟨mk2,r1,r2⟩|r
     ·have hqn:q.k<n:=((C.pfrom q hq).elim (fun h=>by simp at h) id).2
      obtain ⟨oq, hoq⟩ : ∃ oq, ops[q.k]? = some oq := ⟨ops[q.k]'(by
       rcases Nat.lt_or_ge q.k ops.size with h|h
       ·exact h
       ·rw [Array.getD_eq_getD_getElem?,Array.getElem?_eq_none (by omega)] at hl;simp at hl),by simp⟩
      have:=hd.mask hback q.k oq mk2 (by rw [bQ];simpa using hoq) r1 (hd.down q.k oq hoq hl) i r2
      rw [hnl] at this;simp at this
     ·rw [e] at r
      rw [r] at hm;simp at hm
   have hfz:∀ i' b,b.fz=true→aR s1.bx i'=some b→aR (jD listed F.pd F.sF.bx) i'=some b:=by
    intro i' b hf hb
    have h1:=C.bx i (by omega) (by omega) i' b (by rw [← e2];exact hb)
    rw [gP listed i' F.pd F.sF.bx (fun q hq hl e=>?_)]
    ·exact h1
    ·obtain ⟨c',hc'⟩:=C.pbox q hq
     rw [e,h1,Z1] at hc'
     rw [hc'] at hf
     simp at hf
   let s2:MS:={ s1 with bx:=jD listed F.pd F.sF.bx }
   unfold aBp at hrun
   split at hrun
   ·rename_i p m he
    obtain ⟨hp,hne,hR⟩:=hrun
    obtain ⟨v,hr,hv⟩:=aJR (aIf (hagr hne) (aNx he)) hp (s:=s2) HE h.mem.box h.mem.WS h.mem.gw (fun i b hl hb hf=>h.mem.frozen i b hl hb hf)
    unfold Oper.wp
    rw [hr,Oper.upon_value]
    exact next c w v hne h.mem (h.mem.grow (Ext.refl w)).2 (fun t ht=>by rw [hR.2 t ht (own t ht).1];exact hv) hdst' (fun i' hi'=> .inl hi') hR.1
   ·rename_i p b mkf he
    obtain ⟨hp,hne,hb,hlen,hR⟩:=hrun
    obtain ⟨w1,hx1,hs1,arr,ty,v,hrn,hnew⟩:=aIb he hp HE
    obtain ⟨hm1,hk1⟩:=h.mem.grow hx1
    unfold Oper.wp
    rw [hrn,Oper.upon_value]
    rw [e2] at hb hlen hR
    let id:=(σ i).bx.length
    have hnl:¬ c.live id:=by
     intro hl
     rcases h.live id hl with q|⟨k,r1,r2,r3,r4⟩
     ·have:=rR C 0 i (by omega) (by omega)
      rw [C.first] at this
      simp only [id] at q;omega
     ·rcases Nat.lt_trichotomy k i with hlt|he|hgt
      ·have:=rR C (k+1) i (by omega) (by omega)
       simp only [id] at r4;omega
      ·subst he;rw [r2] at hnl;simp at hnl
      ·have:=rR C (i+1) k (by omega) (by omega)
       simp only [id] at r3;omega
    have hb':aR (jD listed F.pd F.sF.bx) id=some b:=by
     rw [gP listed id F.pd F.sF.bx (fun q hq hl e=>hnl (e ▸ h.pl q hq hl))];exact hb
    have hal:=hm1.allocAt arr ty id b hb' hnl (fun i'=>c.live i'∨i'=id) (fun i'=>if i'=id then w.heap.size else c.β i') (fun i'=>if i'=id then ⟨arr.size,b.c.wd⟩ else c.sz i') (fun i'=>Iff.rfl)
     (fun i' hi'=>if_neg (fun e:i'=id=>hnl (e ▸ hi'))) (fun i' hi'=>if_neg (fun e:i'=id=>hnl (e ▸ hi'))) ((if_pos rfl).trans hs1.symm)
     (fun c' k q1 q2 q3=>(hnew c' id (hk1.trans' hx1.size k) (by rw [q1];exact .inr rfl) (by rw [q2];exact if_pos rfl) (by rw [q3];exact if_pos rfl)).2)
    have hrep:=(hnew _ id (hk1.trans' hx1.size hal.2) (.inr rfl) (if_pos rfl) (if_pos rfl)).1
    refine next _ _ v hne hal.1 (hk1.trans' hx1.size hal.2) (fun t ht=>by rw [hR.2 t ht (own t ht).1];exact hrep) hdst' (fun i' hi'=>?_) hR.1
    rcases hi' with q|q
    ·exact .inl q
    ·exact .inr ⟨q.symm,by rw [q];exact hlen⟩
   ·rename_i p r fz he
    obtain ⟨rfl,hp,hne,hres⟩:=hrun
    rcases aNw he with he|⟨m0,rfl,he0⟩
    rotate_left
    ·obtain ⟨v,w',hrn,hext,hr⟩:=aUe he0 hp (fun b hb=>h.mem.Slt b hb) HE
     obtain ⟨hm2,hk2⟩:=h.mem.grow hext
     have hF':AtR ops.toList n F i o m0:=hres
     unfold Oper.wp
     rw [hrn,Oper.upon_value]
     exact next c w' v hne hm2 hk2 (fun t ht=>by rw [hF'.2 t ht (own t ht).1];exact hr) hdst' (fun i' hi'=> .inl hi') hF'.1
    obtain ⟨dst,type,pos,after,guard,f,args,tys,rfl,hcall⟩:=uY he
    have hf:=HE f (by simp [Op.operands,Call.operands])
    have hargs:=vX (c:=c) (w:=w) (s:=s1) (a:=a) args.toList (fun x hx=>HE x (by simp [Op.operands,Call.operands];exact .inr (Array.mem_def.2 hx)))
    have hcall:=aLn (bx':=jD listed F.pd F.sF.bx) hfz (r9 (hagr hne) (x:=f) (by simp [Op.operands,Call.operands])) (fun i' b hm hb=>hagr hne i' b (by
     have:∀ (l:List MV),(∀ m∈args.toList.map s1.ev,m∈l)→dP i' l=true:=by
      intro l hsub
      false_or_by_contra
      rename_i hno
      have hno:=aD9 (by simpa using hno:dP i' l=false)
      have:∀ (l2:List MV),(∀ m∈l2,m∈l)→dP i' l2=false:=by
       intro l2
       induction l2 with
       | nil=>intro _;rfl
       | cons x r ih =>
        intro h2
        simp only [dP,hno x (h2 x (List.mem_cons_self ..)),Bool.false_or]
        exact ih fun m hm=>h2 m (List.mem_cons_of_mem _ hm)
      rw [this _ hsub] at hm
      simp at hm
     exact this _ fun m hm=>by
      obtain ⟨x,hx,rfl⟩:=List.mem_map.1 hm
      exact List.mem_map.2 ⟨x,by simp [Op.operands,Call.operands];exact .inr (Array.mem_def.2 hx),rfl⟩) hb) hcall
    obtain ⟨f',caps,hfv,hcf,hC⟩:=aDQ (s:=s2) hcall hp hf hargs h.mem.box (S':=c.S) (fun i' b hl hb hf=>h.mem.frozen i' b hl hb hf) (fun b hb=>hb) (by simp) (fun b hb=>h.mem.Slt b hb) h.mem.gw
    have eargs:(args.toList.map a.eval).toArray=args.map a.eval:=by apply Array.ext';simp
    rw [eargs] at hcf hC
    have hrn:(execOp a.eval ⟨dst,.call ⟨.value f,args,tys⟩,type,pos,after,guard⟩).run P w= .ok (.enter f' (args.map a.eval++caps)) w:=by
     simp [execOp,resolve,Deferred.ofValue,hfv,invoke,hcf]
    unfold Oper.wp
    rw [hrn,Oper.upon_enter]
    refine hC.mono fun e w' ⟨hext,hh⟩=>?_
    obtain ⟨hm2,hk2⟩:=h.mem.grow hext
    rcases evRes_holds r hres hh with ⟨m,v,rfl,hr,hF'⟩|⟨m,v,rfl,hr,hKd⟩
    ·exact next c w' v hne hm2 hk2 (fun t ht=>by rw [hF'.2 t ht (own t ht).1];exact aHc hr (fun b hb=>hb)) hdst' (fun i' hi'=> .inl hi') hF'.1
    ·exact hP m v w' a (C.pan i m hKd).1 hm2.ext (aO4 hr (fun b hb=>(h.mem.hS b).2 (.inl hb))) h.defers
   ·rename_i p s' m he
    obtain ⟨hp,hdd,hod,ib,b,hib,hnb,hmem,huniq⟩:=hrun
    obtain ⟨dst,type,pos,after,guard,t,x,y,rfl,hst⟩:∃ dst type pos after guard t x y,o=⟨dst,.store t x y,type,pos,after,guard⟩∧dO P s1 t (s1.ev x) (s1.ev y)= .upd p s' m:=by
     obtain ⟨dst,op,type,pos,after,guard⟩:=o
     cases op with
     | store t x y=>exact ⟨dst,type,pos,after,guard,t,x,y,rfl,(aGD he:iH E s1 (.store t x y)= .upd p s' m)⟩
     | _=>simp [n8] at hib
    have hx:∃ off,s1.ev x= .bp ib off:=by
     simp only [n8] at hib
     split at hib
     ·rename_i i' off hx
      simp only [Z1] at hib
      subst hib
      exact ⟨off,hx⟩
     ·simp at hib
    obtain ⟨off,hx⟩:=hx
    have hRx:=HE x (by simp [Op.operands])
    have hRy:=HE y (by simp [Op.operands])
    rw [hx] at hst hRx
    have hlv:c.live ib:=hRx.1
    have hnk:∀ q∈F.pd,listed.getD q.k false=true→q.i≠ib:=by
     intro q hq hl e
     have e2:q=⟨i,ib,b.c⟩:=aEf C.pnod hq hmem e
     rw [e2,hnl] at hl;simp at hl
    have hnth:aR (jD listed F.pd F.sF.bx) ib=aR s1.bx ib:=by
     rw [gP listed ib F.pd F.sF.bx hnk]
     obtain ⟨bb,hbb⟩:∃ bb,aR s1.bx ib=some bb:=by
      unfold dO at hst
      split at hst
      ·simp only at hst
       split at hst
       ·rename_i b0 hb0;exact ⟨b0,hb0⟩
       ·simp at hst
      ·simp at hst
     rw [hbb]
     exact C.bx i (by omega) (by omega) ib bb (by rw [← e2];exact hbb)
    obtain ⟨c',hs',hst2⟩:=aIt (bx':=jD listed F.pd F.sF.bx) hst hnth
    obtain ⟨w',hrun,hm,hk,_,_,_,_⟩:=aBT hst2 hp h.mem hRx hRy
    have hb':b=⟨false,c'⟩:=by
     rw [hs',bI] at hnb
     split at hnb
     ·simpa using hnb.symm
     ·rename_i hno
      obtain ⟨bb,hbb⟩:∃ bb,aR s1.bx ib=some bb:=⟨b,hnb⟩
      exact absurd ⟨rfl,i6 hbb⟩ hno
    subst hb'
    unfold Oper.wp
    have e:(execOp a.eval ⟨dst,.store t x y,type,pos,after,guard⟩).run P w= .ok .skip w':=by
     simp [execOp,hrun]
    rw [e,Oper.upon_skip]
    have hod:dst=none:=hod
    subst hod
    refine next0 c a w' ?_ hk (fun _ _=>rfl) (fun t e=>by simp at e) h.size h.defers (fun i' hi'=> .inl hi') hdd (fun q hq e=>by rw [huniq q hq e];exact hlv)
    have heq:jD (listed.setIfInBounds i true) F.pd F.sF.bx=aO (jD listed F.pd F.sF.bx) ib ⟨false,c'⟩:=by
     refine aKi (by rw [pZ,bX,pZ]) fun i'=>?_
     rw [bI]
     by_cases ei:ib=i'
     ·subst ei
      have hlt:ib<F.sF.bx.length:=by
       have:=(h.mem.fresh ib hlv).2.2
       rwa [pZ] at this
      rw [if_pos ⟨rfl,by rw [pZ];exact hlt⟩]
      exact uL _ ib c' i (by rw [cA (by omega)];simp) F.pd F.sF.bx C.pnod hmem hlt
     ·rw [if_neg (fun q=>ei q.1)]
      rcases aH0 listed i' F.pd F.sF.bx C.pnod with ⟨q,r1,r2,r3,r4⟩|⟨r1,r2⟩
      ·obtain ⟨cc,hcc⟩:=C.pbox q r1
       have hlt:i'<F.sF.bx.length:=by rw [← r3];exact i6 hcc
       rw [r4 hlt]
       obtain ⟨qk,qi,qc⟩:=q
       simp only at r3 r2
       subst r3
       exact uL _ qi qc qk (by rw [cA (by omega),r2];simp) F.pd F.sF.bx C.pnod r1 hlt
      ·rw [r2]
       refine gP _ i' F.pd F.sF.bx fun q hq hl e=>?_
       rw [cA (by omega)] at hl
       by_cases eq:q.k=i
       ·have:=huniq q hq eq
        rw [this] at e
        exact ei e
       ·have:listed.getD q.k false=true:=by simpa [Ne.symm eq] using hl
        exact r1 q hq this e
    rw [heq]
    exact hm
   ·exact hrun.elim
theorem aMz (hP:∀ m v w' a',Kp m→ExtB w0 w'→Rep1 (Ctx.res S0) w' m v→a'.defers=w0.df→Q (.panic [{ v,recovered:=false }]) a' w')
  (hssa:mG ops.toList n 0 (gR [] ops.toList) ops.toList=true) (hback:eJ 0 ops.toList=true) (hn:n≤ops.size)
  (C:Cert E ops.toList (gR [] ops.toList) Kp n none [] [] 0 s K F σ)
  (hfin:F.dead=none→∀ c a w,St S0 w0 { F.sF with bx:=zR F.pd F.sF.bx } c a w→wpList P ops Q (ops.toList.drop n) a w) :
  ∀ (fuel:Nat) (listed:Array Bool) (c:Ctx) (a:Act) (w:World),left ops listed=fuel→Down ops listed→Pre S0 w0 ops.toList n s F σ listed c a w→wpAny P .any ops Q fuel listed a w:=by
 intro fuel
 induction fuel with
 | zero =>
  intro listed c a w hleft hd h
  have hall:∀ j,j<ops.size→listed.getD j false=true:=by
   intro j hj
   cases hb:listed.getD j false with
   | true=>rfl
   | false =>
    exfalso
    have hmem:j∈(List.range ops.size).filter fun i=>!listed.getD i true:=by
     simp only [List.mem_filter,List.mem_range,hj,true_and]
     rw [aY (by rw [hd.size];exact hj),hb];rfl
    unfold left at hleft
    rw [List.length_eq_zero_iff] at hleft
    rw [hleft] at hmem
    simp at hmem
  have hns:n=ops.size:=by
   rcases Nat.lt_or_ge n ops.size with hlt|hge
   ·have:=h.suf n (Z0 _)
    rw [hall n hlt] at this
    simp at this
   ·omega
  have hnone:F.dead=none:=by
   cases hdf:F.dead with
   | none=>rfl
   | some pm =>
    have:=h.dead pm.1 pm.2 hdf
    rw [hall _ (by have:=(C.pan pm.1 pm.2 hdf).2;omega)] at this
    simp at this
  have hst:St S0 w0 { F.sF with bx:=zR F.pd F.sF.bx } c a w:=⟨by rw [← aBu listed F.pd F.sF.bx (fun q hq=>hall q.k (by have:=((C.pfrom q hq).elim (fun h=>by simp at h) id).2;omega))];exact h.mem,fun t=>h.tm t fun k o q1 _ q3=>by rw [hall k (by omega)] at q3;simp at q3,h.size,h.defers,h.np⟩
  have:=hfin hnone c a w hst
  rw [List.drop_of_length_le (by simp;omega)] at this
  refine ⟨?_,this⟩
  apply List.eq_nil_iff_forall_not_mem.2
  intro i hi
  obtain ⟨h1,h2,_⟩:=bD.1 hi
  rw [aY (by rw [hd.size];exact h1),hall i h1] at h2
  simp at h2
 | succ fuel ih =>
  intro listed c a w hleft hd h
  by_cases hall:∀ j,j<n→listed.getD j false=true
  ·
   have hlist:∀ j,listed.getD j false=decide (j<n):=by
    intro j
    rcases Nat.lt_or_ge j n with hj|hj
    ·rw [hall j hj];simp [hj]
    ·rw [h.suf j hj];simp;omega
   have hnone:F.dead=none:=by
    cases hdf:F.dead with
    | none=>rfl
    | some pm =>
     have:=h.dead pm.1 pm.2 hdf
     rw [hall _ (C.pan pm.1 pm.2 hdf).2] at this
     simp at this
   have hst:St S0 w0 { F.sF with bx:=zR F.pd F.sF.bx } c a w:=⟨by rw [← aBu listed F.pd F.sF.bx (fun q hq=>hall q.k ((C.pfrom q hq).elim (fun h=>by simp at h) id).2)];exact h.mem,fun t=>h.tm t fun k o q1 _ q3=>by rw [hall k q1] at q3;simp at q3,h.size,h.defers,h.np⟩
   have hL:=qN hd.size hlist
   have hlen:(ops.toList.drop n).length=fuel+1:=by simp;omega
   have:=aKQ hback n (fun i o ho hge=>by
     obtain ⟨m,q1,_,q3⟩:=m8 ops.toList n ops.toList _ 0 hssa i o ho
     rw [Nat.zero_add] at q3
     exact ⟨m,q1,q3 hge⟩) (ops.toList.drop n) n listed a w (fun j=>by simp only [bQ,List.getElem?_drop]) (by simp;omega) (Z0 _) hd hlist (hfin hnone c a w hst)
   rwa [hlen] at this
  ·
   obtain ⟨u,hu⟩:∃ u,u<n∧listed.getD u false=false:=by
    false_or_by_contra
    rename_i hno
    exact hall fun j hj=>by
     cases hb:listed.getD j false with
     | true=>rfl
     | false=>exact absurd ⟨j,hj,hb⟩ hno
   refine ⟨fun h0=>?_,fun i hi=>?_⟩
   ·exfalso
    have least:∀ m u,u≤m→u<n→listed.getD u false=false→∃ x,x<n∧listed.getD x false=false∧∀ y,y<x→listed.getD y false=true:=by
     intro m
     induction m with
     | zero=>intro u h1 h2 h3;exact ⟨u,h2,h3,fun y hy=>by omega⟩
     | succ m ihm =>
      intro u h1 h2 h3
      by_cases hy:∃ y,y<u∧listed.getD y false=false
      ·obtain ⟨y,hy1,hy2⟩:=hy
       exact ihm y (by omega) (by omega) hy2
      ·refine ⟨u,h2,h3,fun y hlt=>?_⟩
       cases hb:listed.getD y false with
       | true=>rfl
       | false=>exact absurd ⟨y,hlt,hb⟩ hy
    obtain ⟨x,hx1,hx2,hx3⟩:=least u u (Z0 _) hu.1 hu.2
    have hxs:x<ops.size:=by omega
    have:x∈Region.ready .any ops listed:=by
     refine bD.2 ⟨hxs,by rw [aY (by rw [hd.size];exact hxs)];exact hx2,ops[x],by simp [hxs],fun e he hb=>?_⟩
     have:=g7 ops.toList 0 hback x ops[x] (by rw [bQ];simp [hxs]) e he hb
     exact hx3 _ (by omega)
    rw [h0] at this
    simp at this
   ·have hin:i<n:=by
     obtain ⟨h1,h2,o,h3,h4⟩:=bD.1 hi
     rcases Nat.lt_or_ge i n with hlt|hge
     ·exact hlt
     ·exfalso
      have hLi:aR ops.toList i=some o:=by rw [bQ];simpa using h3
      obtain ⟨m,q1,_,q3⟩:=m8 ops.toList n ops.toList _ 0 hssa i o hLi
      rw [Nat.zero_add] at q3
      have:=hd.mask hback i o m hLi q1 h4 u (mV (q3 hge) u (by omega))
      rw [hu.2] at this
      simp at this
    have hput:=aG0 hd.size hi
    exact aOR hP hssa hback C hd h hi hin fun c' a' w' hpre=>ih _ c' a' w' (by omega) (hd.put hi) hpre
end
theorem aCU:∀ (l:List Nat) (i:Nat),iE i l≤i+l.length
 | [],i=>by simp [iE]
 | m::r,i=>by
  have ih:=aCU r (i+1)
  simp only [iE,List.length_cons]
  cases ((iE (i+1) r).beq (i+1)&&l8 i m) with
  | true=>simp
  | false=>simp only [Z5];omega
theorem p8:∀ (l:List Oper) (acc:List Nat),(gR acc l).length=acc.length+l.length
 | [],acc=>by simp [gR]
 | o::l,acc=>by simp only [gR,p8 l,List.length_append,List.length_cons,List.length_nil];omega
def aF3 (P:Program) (ops:Array Oper) (draw:Bool) (Q:Exit→Act→World→Prop) (a:Act) (w:World):Prop :=
 match draw with
 | false=>wpList P ops Q ops.toList a w
 | true=>wpAny P .any ops Q ops.size (Array.replicate ops.size false) a { w with drawn:=w.drawn+1 }
theorem aEz {P:Program} (hmix:P.follows .mixedOrders=true) {ops:Array Oper} {draw:Bool} {id:Nat} {Q:Exit→Act→World→Prop} {a:Act} {w:World} (h:aF3 P ops draw Q a w):(Code.region id ops draw).wp P Q a w:=by
 cases draw with
 | false=>exact wp_region_list h
 | true=>exact wp_region_any hmix h
theorem aBR {P:Program} {E:Env P} {Kp:MV→Prop} {ops:Array Oper} {S0:Nat→Prop} {w0:Base} {Q:Exit→Act→World→Prop}
  (hP:∀ m v w' a',Kp m→ExtB w0 w'→Rep1 (Ctx.res S0) w' m v→a'.defers=w0.df→Q (.panic [{ v,recovered:=false }]) a' w')
  {s:MS} {K1:MS→Prop} {c:Ctx} {a:Act} {w:World} {n:Nat} (hn:iE 0 (gR [] ops.toList)=n) (hc:mG ops.toList n 0 (gR [] ops.toList) ops.toList=true∧eJ 0 ops.toList=true)
  (h:mS E ops.toList (gR [] ops.toList) Kp K1 (ops.toList.take n) none [] [] 0 s) (hSt:St S0 w0 s c a w)
  (hK:∀ s1 c' a' w',K1 s1→St S0 w0 s1 c' a' w'→s1.n=s.n→wpList P ops Q (ops.toList.drop n) a' w'):aF3 P ops true Q a w:=by
 have hns:n≤ops.size:=by
  have h1:=aCU (gR [] ops.toList) 0
  have h2:=p8 ops.toList []
  simp at h2
  omega
 obtain ⟨F,σ,C⟩:=gC (n:=n) (ops.toList.take n) none [] [] 0 s h (by simp;omega) (fun i hi=>by
  simp only [List.length_take] at hi
  simp only [bQ,Nat.zero_add]
  rw [List.getElem?_take,if_pos (by omega)]) (fun p m e=>by simp at e) (fun q hq=>by simp at hq) (by simp) (fun q hq=>by simp at hq)
 show wpAny P .any ops Q ops.size (Array.replicate ops.size false) a { w with drawn:=w.drawn+1 }
 have hdrew:St S0 w0 s c a { w with drawn:=w.drawn+1 }:=by
  have e:Ext w { w with drawn:=w.drawn+1 }:=⟨rfl,rfl,Z0 _,fun _ _=>rfl,fun _ _=>rfl,rfl,Nat.le_succ _⟩
  obtain ⟨hm,hk⟩:=hSt.mem.grow e
  exact hSt.keepTm hk hm rfl rfl rfl
 have hlk:=C.lk 0 (Z0 _) (Z9 _)
 rw [C.first] at hlk
 have hbx:=C.bx 0 (Z0 _) (Z9 _)
 rw [C.first] at hbx
 have hnn:=C.num 0 (Z0 _) (Z9 _)
 rw [C.first] at hnn
 have hlen:=rR C 0 n (Z9 _) (Z0 _)
 rw [C.first,C.last] at hlen
 have hrep:∀ j,(Array.replicate ops.size false).getD j false=false:=by
  intro j
  simp only [Array.getD_eq_getD_getElem?,Array.getElem?_replicate]
  split <;> rfl
 refine aMz hP hc.1 hc.2 hns C (fun hnone c' a' w' hst=>?_) ops.size _ c a _ ?_ ⟨by simp,fun i o _ hl=>?_⟩ ⟨by rw [aDA _ F.pd F.sF.bx (fun q _=>hrep q.k)];exact hdrew.mem.extend hbx hlen,fun t ht=>?_,hdrew.size.trans hnn.1,hdrew.defers,fun i b z hp=>by rw [← hnn.2];exact hdrew.np i b z hp,fun i hi=> .inl (hdrew.mem.fresh i hi).2.2,fun p m _=>hrep p,fun k _=>hrep k,fun q _ hl=>by rw [hrep] at hl;simp at hl⟩
 ·exact hK _ c' a' w' (C.fin hnone) hst hnn.1.symm
 ·have:left ops (Array.replicate ops.size false)=ops.size -0:=qN (by simp) (fun j=>by rw [hrep j];simp)
  simpa using this
 ·rw [hrep i] at hl;simp at hl
 ·rw [hlk t fun i _ hw=>by
   obtain ⟨h1,o,h2,h3⟩:=hw
   exact ht i o h1 h2 (hrep i) h3]
  exact hdrew.tm t
theorem tD {P:Program} {E:Env P} {Kp:MV→Prop} {ops:Array Oper} {draw:Bool} {S0:Nat→Prop} {w0:Base} {Q:Exit→Act→World→Prop}
  (hP:∀ m v w' a',Kp m→ExtB w0 w'→Rep1 (Ctx.res S0) w' m v→a'.defers=w0.df→Q (.panic [{ v,recovered:=false }]) a' w')
  {s:MS} {K:MS→Prop} {c:Ctx} {a:Act} {w:World} (h:l6 E ops.toList draw s K Kp) (hSt:St S0 w0 s c a w)
  (hK:∀ s' c' a' w',K s'→St S0 w0 s' c' a' w'→s'.n=s.n→Q .normal a' w'):aF3 P ops draw Q a w:=by
 cases draw with
 | false =>
  simp only [l6] at h
  exact eV hP ops.toList s K c a w h hSt hK
 | true =>
  simp only [l6] at h
  generalize hn:iE 0 (gR [] ops.toList)=n at h
  cases hc:(mG ops.toList n 0 (gR [] ops.toList) ops.toList&&eJ 0 ops.toList) with
  | false=>rw [hc] at h;exact h.elim
  | true =>
   rw [hc,Z6] at h
   simp only [Z3] at hc
   exact aBR hP hn hc h hSt (fun s1 c' a' w' q1 q2 q3=>eV hP (ops.toList.drop n) s1 K c' a' w' q1 q2 (fun s2 c2 a2 w2 r1 r2 r3=>hK s2 c2 a2 w2 r1 r2 (r3.trans q3)))
theorem aBS {P:Program} (hmix:P.follows .mixedOrders=true) {E:Env P} {Kp:MV→Prop} {ops:Array Oper} {draw:Bool} {id:Nat} {S0:Nat→Prop} {w0:Base} {Q:Exit→Act→World→Prop}
  (hP:∀ m v w' a',Kp m→ExtB w0 w'→Rep1 (Ctx.res S0) w' m v→a'.defers=w0.df→Q (.panic [{ v,recovered:=false }]) a' w')
  {s:MS} {K:MS→Prop} {c:Ctx} {a:Act} {w:World} (h:l6 E ops.toList draw s K Kp) (hSt:St S0 w0 s c a w)
  (hK:∀ s' c' a' w',K s'→St S0 w0 s' c' a' w'→s'.n=s.n→Q .normal a' w'):(Code.region id ops draw).wp P Q a w :=
 aEz hmix (tD hP h hSt hK)
end
section
section
variable {P:Program} {Q Q':Exit→Act→World→Prop}
theorem aOT (a:Act) {d t:Nat} (h:t≠d) (v u:Value):(a.put (some d) v).put (some t) u=(a.put (some t) u).put (some d) v:=by
 have e:(a.tmps.setIfInBounds d v).setIfInBounds t u=(a.tmps.setIfInBounds t u).setIfInBounds d v:=by
  apply Array.ext_getElem?
  intro i
  simp only [Array.getElem?_setIfInBounds,Array.size_setIfInBounds]
  by_cases h1:t=i
  ·by_cases h2:d=i
   ·omega
   ·simp [h1,h2]
  ·by_cases h2:d=i
   ·simp [h1,h2]
   ·simp [h1,h2]
 show ({ tmps:=(a.tmps.setIfInBounds d v).setIfInBounds t u,defers:=a.defers }:Act)=⟨(a.tmps.setIfInBounds t u).setIfInBounds d v,a.defers⟩
 rw [e]
theorem lT (a:Act) {d:Nat} {t:Option Nat} (h:t≠some d) (v u:Value):(a.put (some d) v).put t u=(a.put t u).put (some d) v:=by
 cases t with
 | none=>rfl
 | some t=>exact aOT a (fun e=>h (by rw [e])) v u
theorem aG6 (a:Act) {t:Option Nat} {u:Nat} (h:t≠some u) (v:Value):(a.put t v).tmps.getD u undef=a.tmps.getD u undef:=by
 cases t with
 | none=>rfl
 | some t =>
  simp only [Act.put,Array.getD_eq_getD_getElem?,Array.getElem?_setIfInBounds]
  split
  ·rename_i e;subst e;exact absurd rfl h
  ·rfl
theorem aOU (a:Act) {t:Option Nat} {u:Nat} (h:t≠some u) (v:Value):(a.put t v).tmps[u]? =a.tmps[u]? :=by
 cases t with
 | none=>rfl
 | some t =>
  simp only [Act.put,Array.getElem?_setIfInBounds]
  split
  ·rename_i e;subst e;exact absurd rfl h
  ·rfl
theorem aMa {o:Oper} {a:Act} {d:Nat} {v:Value} {K:Act→World→Prop} (hd:o.dst≠some d)
  (hL:LetsOut Q'→LetsOut Q) (hP:∀ ch w,Q' (.panic ch) (a.put (some d) v) w→Q (.panic ch) a w) :
  ∀ r,o.upon P (a.put (some d) v) K Q' r→o.upon P a (fun a1 w1=>(∃ z,a1.tmps=(a.put o.dst z).tmps)∧K (a1.put (some d) v) w1) Q r:=by
 intro r h
 cases r with
 | ok n w' =>
  cases n <;> simp only [Oper.upon] at h⊢
  case value x=>exact ⟨⟨x,rfl⟩,by rw [← lT a hd];exact h⟩
  case skip=>exact ⟨⟨undef,rfl⟩,by rw [← lT a hd];exact h⟩
  case defer x =>
   refine ⟨⟨undef,by cases o.dst <;> rfl⟩,?_⟩
   rw [← lT ({ a with defers:=x::a.defers }:Act) hd v undef]
   exact h
  case enter f args =>
   refine Calls.mono h fun e w'' he=>?_
   cases e with
   | returned x =>
    refine ⟨⟨x,rfl⟩,?_⟩
    rw [← lT a hd]
    exact he
   | panicked ch=>exact hP ch w'' he
   | outgrown=>exact hL he
  case row r args=>exact Rows.mono h fun x w'' he=>⟨⟨x,rfl⟩,by rw [← lT a hd];exact he⟩
 | halt x w' =>
  cases x <;> simp only [Oper.upon] at h⊢
  exact hP _ _ h
theorem aPB {o:Oper} {a:Act} {K K':Act→World→Prop} (hK:∀ a w,K' a w→K a w) (hL:LetsOut Q'→LetsOut Q) (hP:∀ ch a w,Q' (.panic ch) a w→Q (.panic ch) a w) :
  ∀ r,o.upon P a K' Q' r→o.upon P a K Q r:=by
 intro r h
 cases r with
 | ok n w' =>
  cases n <;> simp only [Oper.upon] at h⊢
  case value x=>exact hK _ _ h
  case skip=>exact hK _ _ h
  case defer x=>exact hK _ _ h
  case enter f args =>
   refine Calls.mono h fun e w'' he=>?_
   cases e with
   | returned x=>exact hK _ _ he
   | panicked ch=>exact hP ch _ w'' he
   | outgrown=>exact hL he
  case row r args=>exact Rows.mono h fun x w'' he=>hK _ _ he
 | halt x w' =>
  cases x <;> simp only [Oper.upon] at h⊢
  exact hP _ _ _ h
end
theorem uK (j:Nat):∀ (x:Nat) (l:List Oper),(k8 j x l).length=l.length
 | _, []=>by cases ‹Nat› <;> rfl
 | 0,o::r=>rfl
 | x+1,o::r=>by simp only [k8,List.length_cons,uK j x r]
theorem aBt (j:Nat):∀ (x i:Nat) (l:List Oper),i≠x→(k8 j x l)[i]? =l[i]?
 | x,i, [],h=>by cases x <;> rfl
 | 0,i,o::r,h=>by
  cases i with
  | zero=>exact absurd rfl h
  | succ i=>rfl
 | x+1,i,o::r,h=>by
  cases i with
  | zero=>rfl
  | succ i=>simp only [k8,List.getElem?_cons_succ];exact aBt j x i r (by omega)
theorem aBs (j:Nat):∀ (x:Nat) (l:List Oper) (o:Oper),l[x]? =some o→(k8 j x l)[x]? =some ⟨o.dst,o.op,o.type,o.pos,o.after.push ⟨j,.data⟩,o.guard⟩
 | x, [],o,h=>by simp at h
 | 0,a::r,o,h=>by
  simp only [List.getElem?_cons_zero,Z1] at h
  subst h;rfl
 | x+1,a::r,o,h=>by
  simp only [List.getElem?_cons_succ] at h
  simp only [k8,List.getElem?_cons_succ]
  exact aBs j x r o h
structure Late (ops:Array Oper) (j x:Nat) (oj ox:Oper) (u d:Nat):Prop where
 lt:j<x
 back:eJ 0 ops.toList=true
 full:qJ (x+1) 0 (gR [] ops.toList)=true
 hj:ops[j]? =some oj
 hx:ops[x]? =some ox
 fullx:∃ m,aR (gR [] ops.toList) x=some m∧l8 x (m ||| 2^j)=true
 mv:oj.op= .move (.tmp u)
 bi:∃ c b,ox.op= .call c∧c.callee= .builtin b
 dst:oj.dst=some d
 ne:ox.dst≠some d
 nl:d ∉ Oper.looks ops.toList ox
 nx:∀ t,ox.dst=some t→t ∉ Oper.looks ops.toList oj
theorem aKh {ops:Array Oper} {i:Nat} {o:Oper} (h:aR ops.toList i=some o):ops[i]? =some o:=by
 rw [bQ] at h
 simpa using h
theorem aGU {ops:Array Oper} {j x:Nat} (h:aE1 j x ops.toList=true):∃ oj ox u d,Late ops j x oj ox u d:=by
 unfold aE1 at h
 simp only [Z3] at h
 obtain ⟨⟨⟨h1,h2⟩,h3⟩,h4⟩:=h
 split at h4
 ·rename_i oj ox m q1 q2 q3
  simp only [Z3] at h4
  obtain ⟨⟨⟨k1,k2⟩,k3⟩,k4⟩:=h4
  split at k4
  ·rename_i d hd
   simp only [Z3,Bool.not_eq_true',beq_eq_false_iff_ne] at k4
   obtain ⟨⟨n1,n2⟩,n3⟩:=k4
   obtain ⟨u,hu⟩:∃ u,oj.op= .move (.tmp u):=by
    unfold aJ0 at k2
    split at k2
    ·rename_i y hy
     split at k2
     ·rename_i u;exact ⟨u,hy⟩
     ·simp at k2
    ·simp at k2
   refine ⟨oj,ox,u,d,by simpa [Nat.blt_eq] using h1,h2,h3,aKh q1,aKh q2,⟨m,q3,k1⟩,hu,?_,hd,n1,fun hm=>?_,fun t ht hm=>?_⟩
   ·unfold aDZ at k3
    split at k3
    ·rename_i c hc
     split at k3
     ·rename_i b hb;exact ⟨c,b,hc,hb⟩
     ·simp at k3
    ·simp at k3
   ·rw [List.elem_eq_true_of_mem hm] at n2;simp at n2
   ·rw [ht] at n3
    simp only [List.elem_eq_true_of_mem hm] at n3
    simp at n3
  ·simp at k4
 ·simp at h4
section
variable {P:Program} {ops:Array Oper} {Q Q':Exit→Act→World→Prop} {j x:Nat} {oj ox:Oper} {u d:Nat}
def cU (j x:Nat) (ops:Array Oper):Array Oper:=(k8 j x ops.toList).toArray
theorem lQ:(cU j x ops).size=ops.size:=by simp [cU,uK]
theorem r8 {i:Nat} (h:i≠x):(cU j x ops)[i]? =ops[i]? :=by
 have:=aBt j x i ops.toList h
 simpa [cU] using this
theorem r7 {o:Oper} (h:ops[x]? =some o):(cU j x ops)[x]? =some ⟨o.dst,o.op,o.type,o.pos,o.after.push ⟨j,.data⟩,o.guard⟩:=by
 have:=aBs j x ops.toList o (by simpa using h)
 simpa [cU] using this
theorem aID (hx:ops[x]? =some ox) (T:Array Value) (k:Nat):yielded (cU j x ops) T k=yielded ops T k:=by
 unfold yielded
 by_cases e:k=x
 ·subst e;rw [r7 hx,hx];rfl
 ·rw [r8 e]
theorem mY (hx:ops[x]? =some ox) (o:Oper) (T:Array Value):Region.wanted o (yielded (cU j x ops) T)=Region.wanted o (yielded ops T):=by
 unfold Region.wanted
 cases o.guard with
 | none=>rfl
 | some q=>simp only [aID hx]
theorem aDc {o:Oper} {a:Act} {t:Option Nat} {v:Value} (h:∀ y,t=some y→y ∉ Oper.looks ops.toList o):Region.wanted o (yielded ops (a.put t v).tmps)=Region.wanted o (yielded ops a.tmps):=by
 unfold Region.wanted
 cases hg:o.guard with
 | none=>rfl
 | some q =>
  obtain ⟨k,want⟩:=q
  have:yielded ops (a.put t v).tmps k=yielded ops a.tmps k:=by
   unfold yielded
   cases hk:ops[k]? with
   | none=>rfl
   | some ok =>
    cases hd:ok.dst with
    | none=>simp [hd]
    | some y =>
     have hn:t≠some y:=fun e=>h y e (by
      have:aR ops.toList k=some ok:=by rw [bQ];simpa using hk
      simp [Oper.looks,hg,this,hd])
     have:=aOU a hn v
     simp [hd,this]
  simp only [this]
theorem aE7 {o:Oper} {a:Act} {w:World} {K:Act→World→Prop} (ho:o.op= .move (.tmp u)):o.wp P a w K Q=K (a.put o.dst (a.tmps.getD u undef)) w:=by
 unfold Oper.wp execOp
 rw [ho]
 rfl
theorem aEa {o:Oper} {a:Act} {w:World} (ho:o.op= .move (.tmp u)):¬ o.asks P a w:=by
 unfold Oper.asks execOp
 rw [ho]
 rintro ⟨h,_⟩
 exact absurd (show noRoomEvent∈(#[]:Array Event) from h) (by simp)
theorem aD1 (h:Late ops j x oj ox u d) {a:Act} {v:Value}:execOp (a.put (some d) v).eval ox=execOp a.eval ox:=by
 obtain ⟨c,b,hc,hb⟩:=h.bi
 have hargs:c.args.map (a.put (some d) v).eval=c.args.map a.eval:=by
  apply Array.map_congr_left
  intro y hy
  cases y with
  | tmp t =>
   refine aG6 a (fun e=>?_) v
   have e:d=t:=by simpa using e
   subst e
   apply h.nl
   simp only [Oper.looks,List.mem_append,List.mem_filterMap]
   refine .inl ⟨.tmp d,?_,rfl⟩
   rw [hc]
   simp [Op.operands,Call.operands,hb,hy]
  | _=>rfl
 unfold execOp
 rw [hc]
 simp only [resolve,hb,hargs]
theorem aLF (h:Late ops j x oj ox u d) {K' K:Act→World→Prop} {a:Act} {w:World} (hK:∀ a w,K' a w→K a w) (hL:LetsOut Q'→LetsOut Q) (hP:∀ ch a d v w,Q' (.panic ch) (Act.put a d v) w→Q (.panic ch) a w)
  (H:wpOp P (cU j x ops) Q' j (fun a1 w1=>wpOp P (cU j x ops) Q' x K' a1 w1) a w):wpOp P ops Q x (fun a1 w1=>wpOp P ops Q j K a1 w1) a w:=by
 have hjx:j≠x:=by have:=h.lt;omega
 have H1:∃ v,(v=if Region.wanted oj (yielded ops a.tmps)=true then a.tmps.getD u undef else undef)∧wpOp P (cU j x ops) Q' x K' (a.put (some d) v) w:=by
  generalize hG:(fun a1 w1=>wpOp P (cU j x ops) Q' x K' a1 w1)=G at H
  unfold wpOp at H
  simp only [r8 hjx,h.hj] at H
  rw [mY h.hx] at H
  split at H
  ·rename_i hw
   rcases H with H|H
   ·rw [aE7 h.mv,h.dst] at H
    subst hG
    exact ⟨_,(if_pos hw).symm,H⟩
   ·exact absurd H.1 (aEa h.mv)
  ·rename_i hw
   rw [h.dst] at H
   subst hG
   exact ⟨_,(if_neg hw).symm,H⟩
 obtain ⟨v,hv,H⟩:=H1
 have key:∀ (z:Value) (a1:Act) (w1:World),a1.tmps=(a.put ox.dst z).tmps→K' (a1.put (some d) v) w1→wpOp P ops Q j K a1 w1:=by
  intro z a1 w1 ht hk
  unfold wpOp
  simp only [h.hj]
  have e1:Region.wanted oj (yielded ops a1.tmps)=Region.wanted oj (yielded ops a.tmps):=by rw [ht];exact aDc h.nx
  have e2:a1.tmps.getD u undef=a.tmps.getD u undef:=by
   rw [ht]
   refine aG6 a (fun e=>h.nx u e ?_) z
   simp [Oper.looks,h.mv,Op.operands]
  rw [e1]
  by_cases hw:Region.wanted oj (yielded ops a.tmps)=true
  ·rw [if_pos hw] at hv⊢
   left
   rw [aE7 h.mv,h.dst,e2,← hv]
   exact hK _ _ hk
  ·rw [if_neg hw] at hv⊢
   rw [h.dst,← hv]
   exact hK _ _ hk
 unfold wpOp at H⊢
 simp only [r7 h.hx] at H
 simp only [h.hx]
 rw [mY h.hx] at H
 have ew:Region.wanted (⟨ox.dst,ox.op,ox.type,ox.pos,ox.after.push ⟨j,.data⟩,ox.guard⟩:Oper) (yielded ops (a.put (some d) v).tmps)=Region.wanted ox (yielded ops a.tmps) :=
  aDc (o:=ox) (fun y hy=>by cases hy;exact h.nl)
 rw [ew] at H
 by_cases hw:Region.wanted ox (yielded ops a.tmps)=true
 ·rw [if_pos hw] at H⊢
  rcases H with H|⟨H,H3⟩
  ·left
   have H':ox.upon P (a.put (some d) v) K' Q' ((execOp (a.put (some d) v).eval ox).run P w):=H
   rw [aD1 h] at H'
   have H2:ox.wp P a w (fun a1 w1=>(∃ z,a1.tmps=(a.put ox.dst z).tmps)∧K' (a1.put (some d) v) w1) Q:=aMa h.ne hL (fun ch w=>hP ch a _ v w) _ H'
   exact Oper.wp_mono (fun a1 w1 ⟨⟨z,hz⟩,hk⟩=>key z a1 w1 hz hk) H2
  ·right
   have H':ox.asks P (a.put (some d) v) w:=H
   unfold Oper.asks at H'⊢
   rw [aD1 h] at H'
   exact ⟨H',hL H3⟩
 ·rw [if_neg hw] at H⊢
  refine key undef (a.put ox.dst undef) w rfl ?_
  rw [← lT a h.ne]
  exact H
theorem aD3 (hx:ops[x]? =some ox) {K' K:Act→World→Prop} {a:Act} {w:World} {i:Nat} (hK:∀ a w,K' a w→K a w) (hL:LetsOut Q'→LetsOut Q) (hP:∀ ch a w,Q' (.panic ch) a w→Q (.panic ch) a w)
  (H:wpOp P (cU j x ops) Q' i K' a w):wpOp P ops Q i K a w:=by
 have one:∀ o:Oper,(if Region.wanted o (yielded ops a.tmps)=true then o.wp P a w K' Q'∨(o.asks P a w∧LetsOut Q') else K' (a.put o.dst undef) w)→(if Region.wanted o (yielded ops a.tmps)=true then o.wp P a w K Q∨(o.asks P a w∧LetsOut Q) else K (a.put o.dst undef) w):=by
  intro o H
  by_cases hw:Region.wanted o (yielded ops a.tmps)=true
  ·rw [if_pos hw] at H⊢
   exact H.imp (fun H=>aPB hK hL hP _ H) fun H=>⟨H.1,hL H.2⟩
  ·rw [if_neg hw] at H⊢
   exact hK _ _ H
 unfold wpOp at H⊢
 by_cases e:i=x
 ·subst e
  simp only [r7 hx] at H
  simp only [hx]
  rw [mY hx] at H
  exact one ox H
 ·simp only [r8 e] at H
  cases hi:ops[i]? with
  | none =>
   simp only [hi] at H
   exact hK _ _ H
  | some o =>
   simp only [hi] at H
   rw [mY hx] at H
   exact one o H
theorem aGV (hx:ops[x]? =some ox) {listed:Array Bool} {i:Nat} (hi:i∈Region.ready .any (cU j x ops) listed):i∈Region.ready .any ops listed:=by
 obtain ⟨h1,h2,o,h3,h4⟩:=bD.1 hi
 rw [lQ] at h1
 by_cases e:i=x
 ·subst e
  rw [r7 hx,Z1] at h3
  subst h3
  exact bD.2 ⟨h1,h2,ox,hx,fun e he hb=>h4 e (by simp;exact .inl (by simpa using he)) hb⟩
 ·rw [r8 e] at h3
  exact bD.2 ⟨h1,h2,o,h3,h4⟩
theorem aD2 (h:Late ops j x oj ox u d) {listed:Array Bool} (hd:Down ops listed) {i:Nat} (hi:i∈Region.ready .any ops listed):i∈Region.ready .any (cU j x ops) listed∨(i=x∧listed.getD j false=false∧j∈Region.ready .any (cU j x ops) listed∧(∀ k,k<x→k≠j→listed.getD k false=true)):=by
 obtain ⟨h1,h2,o,h3,h4⟩:=bD.1 hi
 have hjx:j≠x:=by have:=h.lt;omega
 by_cases e:i=x
 ·subst e
  rw [h.hx,Z1] at h3
  subst h3
  cases hj:listed.getD j false with
  | true =>
   refine .inl (bD.2 ⟨by rw [lQ];exact h1,h2,_,r7 h.hx,fun e he hb=>?_⟩)
   simp at he
   rcases he with he|he
   ·exact h4 e (by simpa using he) hb
   ·subst he;exact hj
  | false =>
   obtain ⟨m,hm,hf⟩:=h.fullx
   have hall:∀ k,k<i→k≠j→listed.getD k false=true:=by
    intro k hk hne
    have:=mV hf k hk
    rw [Nat.testBit_or,Nat.testBit_two_pow_of_ne (Ne.symm hne),Bool.or_false] at this
    exact hd.mask h.back i ox m (by rw [bQ];simpa using h.hx) hm h4 k this
   refine .inr ⟨rfl,rfl,bD.2 ⟨by rw [lQ];have:=h.lt;omega,?_,oj,by rw [r8 hjx];exact h.hj,fun e he hb=>?_⟩,hall⟩
   ·rw [aY (by rw [hd.size];have:=h.lt;omega)];exact hj
   ·have hlt:=g7 ops.toList 0 h.back j oj (by rw [bQ];simpa using h.hj) e he hb
    have:=h.lt
    exact hall _ (by omega) (by omega)
 ·refine .inl (bD.2 ⟨by rw [lQ];exact h1,h2,o,by rw [r8 e];exact h3,h4⟩)
theorem tE {n:Nat}:∀ {l:List Nat} {i:Nat},qJ n i l=true→∀ k m,aR l k=some m→n≤i+k→l8 (i+k) m=true
 | [],i,_,k,m,hk,_=>by simp [aR] at hk
 | x::r,i,h,k,m,hk,hn=>by
  simp only [qJ,Z3,Bool.or_eq_true] at h
  cases k with
  | zero =>
   simp only [aR,Z1] at hk
   subst hk
   rcases h.1 with q|q
   ·have:i<n:=by simpa [Nat.blt_eq] using q
    omega
   ·exact q
  | succ k =>
   simp only [aR] at hk
   have:=tE h.2 k m hk (by omega)
   rw [show i+(k+1)=i+1+k by omega]
   exact this
theorem aHr (l:Array Bool) (i k:Nat):(l.setIfInBounds i true).setIfInBounds k true=(l.setIfInBounds k true).setIfInBounds i true:=by
 apply Array.ext_getElem?
 intro n
 simp only [Array.getElem?_setIfInBounds,Array.size_setIfInBounds]
 by_cases h1:k=n <;> by_cases h2:i=n <;> simp [h1,h2]
theorem aNX (h:Late ops j x oj ox u d) (hN:∀ a w,Q' .normal a w→Q .normal a w) (hL:LetsOut Q'→LetsOut Q) (hP:∀ ch a w,Q' (.panic ch) a w→Q (.panic ch) a w) (hP2:∀ ch a d v w,Q' (.panic ch) (Act.put a d v) w→Q (.panic ch) a w) :
  ∀ (fuel:Nat) (listed:Array Bool) (a:Act) (w:World),Down ops listed→wpAny P .any (cU j x ops) Q' fuel listed a w→wpAny P .any ops Q fuel listed a w:=by
 have hjx:j≠x:=by have:=h.lt;omega
 intro fuel
 induction fuel using Nat.strongRecOn with
 | _ fuel ih =>
 intro listed a w hd H
 have nil:Region.ready .any (cU j x ops) listed= []→Region.ready .any ops listed= []:=by
  intro h0
  apply List.eq_nil_iff_forall_not_mem.2
  intro i hi
  rcases aD2 h hd hi with q|⟨_,_,q,_⟩
  ·rw [h0] at q;simp at q
  ·rw [h0] at q;simp at q
 have nil2:Region.ready .any ops listed= []→Region.ready .any (cU j x ops) listed= []:=by
  intro h0
  apply List.eq_nil_iff_forall_not_mem.2
  intro i hi
  have:=aGV h.hx hi
  rw [h0] at this;simp at this
 cases fuel with
 | zero=>exact ⟨nil H.1,hN _ _ H.2⟩
 | succ fuel =>
  refine ⟨fun h0=>hN _ _ (H.1 (nil2 h0)),fun i hi=>?_⟩
  rcases aD2 h hd hi with q|⟨rfl,hjl,hjr,hall⟩
  ·exact aD3 h.hx (fun a1 w1=>ih fuel (Nat.lt_succ_self _) _ a1 w1 (hd.put hi)) hL hP (H.2 i q)
  ·have H1:=H.2 j hjr
   have hjr':=aGV h.hx hjr
   have hxr:i∈Region.ready .any (cU j i ops) (listed.setIfInBounds j true):=by
    obtain ⟨h1,h2,o,h3,h4⟩:=bD.1 hi
    rw [h.hx,Z1] at h3
    subst h3
    have hjs:j<listed.size:=by rw [hd.size];have:=h.lt;omega
    refine bD.2 ⟨by rw [lQ];exact h1,?_,_,r7 h.hx,fun e he hb=>?_⟩
    ·rw [aY (by rw [Array.size_setIfInBounds,hd.size];exact h1),cA hjs,← aY (by rw [hd.size];exact h1),h2]
     simp [hjx]
    ·rw [cA hjs]
     simp at he
     rcases he with he|he
     ·rw [h4 e (by simpa using he) hb];simp
     ·subst he;simp
   cases fuel with
   | zero =>
    exfalso
    have H1:=aD3 (Q:=Q') (K:=fun _ _=>False) h.hx (fun a1 w1 hh=>by
     have:=hh.1
     rw [this] at hxr
     simp at hxr) id (fun _ _ _ q=>q) H1
    unfold wpOp at H1
    simp only [h.hj] at H1
    by_cases hw:Region.wanted oj (yielded ops a.tmps)=true
    ·rw [if_pos hw,aE7 h.mv] at H1
     rcases H1 with q|q
     ·exact q
     ·exact aEa h.mv q.1
    ·rw [if_neg hw] at H1;exact H1
   | succ f =>
    have H2:=aLF (Q:=Q) (K:=wpAny P .any ops Q f ((listed.setIfInBounds j true).setIfInBounds i true)) h (fun a1 w1 hh=>ih f (by omega) _ a1 w1 (by rw [aHr];refine (hd.put hi).put (bD.2 ?_);exact (by
     obtain ⟨h1,h2,o,h3,h4⟩:=bD.1 hjr'
     have his:i<listed.size:=by obtain ⟨k1,_⟩:=bD.1 hi;rw [hd.size];exact k1
     refine ⟨h1,?_,o,h3,fun e he hb=>by rw [cA his,h4 e he hb];simp⟩
     rw [aY (by rw [Array.size_setIfInBounds,hd.size];exact h1),cA his,← aY (by rw [hd.size];exact h1),h2]
     simp [Ne.symm hjx])) hh) hL hP2 (wpOp_mono (fun a1 w1 hh=>hh.2 i hxr) H1)
    refine wpOp_mono (fun a1 w1 hh=>⟨fun h0=>?_,fun k hk=>?_⟩) H2
    ·exfalso
     have:j∈Region.ready .any ops (listed.setIfInBounds i true):=by
      obtain ⟨h1,h2,o,h3,h4⟩:=bD.1 hjr'
      have his:i<listed.size:=by obtain ⟨k1,_⟩:=bD.1 hi;rw [hd.size];exact k1
      refine bD.2 ⟨h1,?_,o,h3,fun e he hb=>by rw [cA his,h4 e he hb];simp⟩
      rw [aY (by rw [Array.size_setIfInBounds,hd.size];exact h1),cA his,← aY (by rw [hd.size];exact h1),h2]
      simp [Ne.symm hjx]
     rw [h0] at this;simp at this
    ·have hk':=hk
     obtain ⟨h1,h2,o,h3,h4⟩:=bD.1 hk
     have his:i<listed.size:=by obtain ⟨k1,_⟩:=bD.1 hi;rw [hd.size];exact k1
     rw [aY (by rw [Array.size_setIfInBounds,hd.size];exact h1),cA his] at h2
     have hkj:k=j:=by
      false_or_by_contra
      rename_i hne
      rcases Nat.lt_trichotomy k i with q|q|q
      ·rw [hall k q hne] at h2;simp at h2
      ·subst q;simp at h2
      ·have hlen:k<(gR [] ops.toList).length:=by rw [p8];simpa using h1
       obtain ⟨m,hm⟩:∃ m,aR (gR [] ops.toList) k=some m:=⟨_,by rw [bQ];exact List.getElem?_eq_getElem hlen⟩
       have hf:=tE h.full k m hm (by omega)
       rw [Nat.zero_add] at hf
       have hb:=mV hf j (by have:=h.lt;omega)
       have:=(hd.put hi).mask h.back k o m (by rw [bQ];simpa using h3) hm h4 j hb
       rw [cA his,hjl] at this
       simp [Ne.symm hjx] at this
     subst hkj
     rw [aHr]
     exact hh
end
def aCp (Q:Exit→Act→World→Prop):Exit→Act→World→Prop
 | .panic ch,a,w=>∀ a',a'.defers=a.defers→Q (.panic ch) a' w
 | e,a,w=>Q e a w
theorem aAf {P:Program} (hmix:P.follows .mixedOrders=true) {E:Env P} {Kp:MV→Prop} {lt:List Nat} {ops:Array Oper} {draw:Bool} {id:Nat} {S0:Nat→Prop} {w0:Base} {Q:Exit→Act→World→Prop}
  (hP:∀ m v w' a',Kp m→ExtB w0 w'→Rep1 (Ctx.res S0) w' m v→a'.defers=w0.df→Q (.panic [{ v,recovered:=false }]) a' w')
  {s:MS} {K:MS→Prop} {c:Ctx} {a:Act} {w:World} (h:xZ E lt ops.toList draw s K Kp) (hSt:St S0 w0 s c a w)
  (hK:∀ s' c' a' w',K s'→St S0 w0 s' c' a' w'→s'.n=s.n→Q .normal a' w'):(Code.region id ops draw).wp P Q a w:=by
 unfold xZ at h
 split at h
 ·exact aBS hmix hP h hSt hK
 ·rename_i j hj
  simp only at h
  generalize hx:iE 0 (gR [] ops.toList) -1=x at h
  cases hc:(draw&&aE1 j x ops.toList) with
  | false=>rw [hc] at h;exact h.elim
  | true =>
   rw [hc,Z6] at h
   simp only [Z3] at hc
   obtain ⟨rfl,hl⟩:=hc
   obtain ⟨oj,ox,u,d,hl⟩:=aGU hl
   have h2:l6 E (cU j x ops).toList true s K Kp:=h
   have H:=tD (Q:=aCp Q) (fun m v w' a' q1 q2 q3 q4 a2 q5=>hP m v w' a2 q1 q2 q3 (q5.trans q4)) h2 hSt hK
   refine aEz hmix ?_
   show wpAny P .any ops Q ops.size (Array.replicate ops.size false) a { w with drawn:=w.drawn+1 }
   have H:wpAny P .any (cU j x ops) (aCp Q) (cU j x ops).size (Array.replicate (cU j x ops).size false) a { w with drawn:=w.drawn+1 }:=H
   rw [lQ] at H
   refine aNX (Q:=Q) (Q':=aCp Q) hl (fun _ _ q=>q) (fun ⟨a,w,q⟩=>⟨a,w,q⟩) (fun ch a w q=>q a rfl) (fun ch a d v w q=>q a (by cases d <;> rfl)) _ _ _ _ ⟨by simp,fun i o _ hl=>?_⟩ H
   have:(Array.replicate ops.size false).getD i false=false:=by
    simp only [Array.getD_eq_getD_getElem?,Array.getElem?_replicate]
    split <;> rfl
   rw [this] at hl;simp at hl
end
structure Cuts (nb:Nat) (c c':Ctx):Prop where
 S:∀ b,c'.S b→c.S b
 W:∀ b,c'.W b→c.W b
 live:∀ i,i<nb→c.live i→c'.live i∧c'.β i=c.β i∧c'.sz i=c.sz i
theorem Cuts.elem {nb:Nat} {c c':Ctx} (h:Cuts nb c c'):Cuts 0 c.elem c'.elem:=⟨h.S,fun _ h=>h,fun i hi=>by omega⟩
theorem aJm (c:Ctx) (w:World):WordsR c w [] (.slice none 0 0):=⟨none,0,rfl,Z0 _,fun h=>absurd h (by simp)⟩
theorem cJ:aA 0= []:=by rw [aA];simp
theorem dA {c:Ctx} {w:World} {m:MV} {vs:List Value} (h:RepC c w m vs) (hw:m.width=1):∃ v,vs= [v]∧v.oneCell'=true:=by
 have hl:=RepC.len _ _ h
 rw [hw] at hl
 obtain ⟨v,rfl⟩:=List.length_eq_one_iff.1 hl
 exact ⟨v,rfl,RepC.one _ _ h v (by simp)⟩
theorem aGZ {nb:Nat}:∀ (m m':MV),fC nb m m'→m'.isAgg=m.isAgg:=by
 intro m m' h
 cases m <;> cases m' <;> first|rfl|(simp only [fC] at h)
mutual
theorem oS {w:World}:∀ (m m':MV) (nb:Nat) (c c':Ctx) (vs:List Value),Cuts nb c c'→fC nb m m'→RepC c w m vs→RepC c' w m' vs
 | .bool a,m',nb,c,c',vs,k,h,r=>by
  cases m' <;> simp only [fC] at h <;> first|(exact dA r rfl)|skip
  subst h;exact r
 | .int kk a,m',nb,c,c',vs,k,h,r=>by
  cases m' <;> simp only [fC] at h <;> first|(exact dA r rfl)|skip
  rename_i k' b
  cases hk:decide (kk=k') with
  | false=>rw [hk] at h;exact h.elim
  | true =>
   rw [hk,Z6] at h
   simp only [decide_eq_true_eq] at hk
   subst hk;subst h;exact r
 | .val v,m',nb,c,c',vs,k,h,r=>by
  cases m' <;> simp only [fC] at h <;> first|(exact dA r rfl)|skip
  ·subst h;exact r
  ·obtain ⟨rfl,rfl⟩:=h
   obtain ⟨rfl,_⟩:=r
   exact ⟨_,rfl,aJm _ _⟩
  ·obtain ⟨rfl,rfl⟩:=h
   obtain ⟨rfl,_⟩:=r
   exact ⟨none,0,rfl,Z0 _,fun h=>by omega⟩
  ·obtain ⟨rfl,rfl,rfl⟩:=h
   obtain ⟨rfl,_⟩:=r
   exact ⟨none,0,rfl,Z0 _,.inr ⟨rfl,rfl,rfl⟩⟩
 | .big z n,m',nb,c,c',vs,k,h,r=>by
  cases m' <;> simp only [fC] at h
  ·rename_i kk
   cases hk:kk.beq 2 with
   | false=>rw [hk] at h;exact h.elim
   | true =>
    simp only [Nat.beq_eq] at hk
    subst hk
    exact ⟨RepC.len _ _ r,RepC.one _ _ r⟩
  ·obtain ⟨rfl,hn⟩:=h
   obtain ⟨s,h1,h2,h3⟩:=r
   refine ⟨s,h1,?_,h3.mono k.S⟩
   rcases hn with hn|hn
   ·exact Nat.lt_of_lt_of_le h2 (Nat.pow_le_pow_right (by omega) hn)
   ·exact hn
 | .ws l,m',nb,c,c',vs,k,h,r=>by
  cases m' <;> simp only [fC] at h <;> first|(exact dA r rfl)|skip
  subst h
  obtain ⟨s,h1,h2⟩:=r
  exact ⟨s,h1,h2.mono k.S⟩
 | .sl wd len f,m',nb,c,c',vs,k,h,r=>by
  cases m' <;> simp only [fC] at h <;> first|(exact dA r rfl)|skip
  rename_i wd' len' f'
  obtain ⟨rfl,rfl,h⟩:=h
  obtain ⟨a,cap,h1,h2,h3⟩:=r
  refine ⟨a,cap,h1,h2,fun hl=>?_⟩
  obtain ⟨b,off,h4,h5,h6⟩:=h3 hl
  refine ⟨b,off,h4,fun h=>h5 (k.S b h),fun i hi=>?_⟩
  obtain ⟨cs,h7,h8,h9⟩:=h6 i hi
  exact ⟨cs,h7,h.h i hi _ _ _ (RepC.keep (⟨fun b _=>k.S b,fun _ _ _=>trivial,fun _ h=>h.elim,fun _ _ _=>rfl,fun _ _ _=>rfl⟩:Keeps c.elem c'.elem w w) (f i) cs h8),h9⟩
 | .st a,m',nb,c,c',vs,k,h,r=>by
  cases m' <;> simp only [fC] at h
  ·rename_i kk
   cases hk:kk.beq (nH a) with
   | false=>rw [hk] at h;exact h.elim
   | true =>
    simp only [Nat.beq_eq] at hk
    subst hk
    exact ⟨RepC.len _ _ r,RepC.one _ _ r⟩
  ·rename_i z n
   unfold aTF at h
   split at h
   ·rename_i b l
    obtain ⟨rfl,rfl,h3⟩:=h
    obtain ⟨x,y,rfl,hx,⟨x2,y2,rfl,hx2,hy2⟩⟩:=r
    have hx:x= [.bool (decide (z<0))]:=hx
    have hy2:y2= []:=hy2
    subst hx;subst hy2
    obtain ⟨s,rfl,hs⟩:=hx2
    exact ⟨s,rfl,h3,hs.mono k.S⟩
   ·rename_i b v
    obtain ⟨rfl,rfl,rfl⟩:=h
    obtain ⟨x,y,rfl,hx,⟨x2,y2,rfl,hx2,hy2⟩⟩:=r
    have hx:x= [.bool false]:=hx
    have hy2:y2= []:=hy2
    subst hx;subst hy2
    obtain ⟨rfl,_⟩:=hx2
    exact ⟨.slice none 0 0,rfl,Nat.two_pow_pos n,aEx _ _⟩
   ·exact h.elim
  ·exact aCa a _ nb c c' vs k h r
 | .ref m,m',nb,c,c',vs,k,h,r=>by
  cases m' <;> simp only [fC] at h <;> first|(exact dA r rfl)|skip
  obtain ⟨b,off,cs,h1,h2,h3,h4⟩:=r
  exact ⟨b,off,cs,h1,fun h=>h2 (k.W b h),oS m _ nb c c' cs k h h3,h4⟩
 | .bp i off,m',nb,c,c',vs,k,h,r=>by
  cases m' <;> simp only [fC] at h <;> first|(exact dA r rfl)|skip
  rename_i i' off'
  cases hk:(i.beq i'&&i.blt nb) with
  | false=>rw [hk] at h;exact h.elim
  | true =>
   rw [hk,Z6] at h
   simp only [Z3,Nat.beq_eq,Nat.blt_eq] at hk
   obtain ⟨rfl,hlt⟩:=hk
   subst h
   obtain ⟨h1,h2⟩:=r
   obtain ⟨a,b,_⟩:=k.live i hlt h1
   exact ⟨a,by rw [b];exact h2⟩
 | .bs i off len,m',nb,c,c',vs,k,h,r=>by
  cases m' <;> simp only [fC] at h <;> first|(exact dA r rfl)|skip
  case sl =>
   obtain ⟨rfl,rfl⟩:=h
   obtain ⟨a,cap,h1,h2,_⟩:=r
   exact ⟨a,cap,h1,h2,fun h=>by omega⟩
  rename_i i' off' len'
  cases hk:(i.beq i'&&i.blt nb) with
  | false=>rw [hk] at h;exact h.elim
  | true =>
   rw [hk,Z6] at h
   simp only [Z3,Nat.beq_eq,Nat.blt_eq] at hk
   obtain ⟨rfl,hlt⟩:=hk
   obtain ⟨rfl,rfl⟩:=h
   obtain ⟨a,cap,h1,h2,h3⟩:=r
   refine ⟨a,cap,h1,h2,h3.imp (fun ⟨h4,h5,h6⟩=>?_) id⟩
   obtain ⟨x,y,z⟩:=k.live i hlt h5
   exact ⟨by rw [y];exact h4,x,by rw [z];exact h6⟩
 | .fn f a,m',nb,c,c',vs,k,h,r=>by
  cases m' <;> simp only [fC] at h <;> first|(exact dA r rfl)|skip
  rename_i f' b
  cases hk:f.beq f' with
  | false=>rw [hk] at h;exact h.elim
  | true =>
   rw [hk,Z6] at h
   simp only [Nat.beq_eq] at hk
   subst hk
   obtain ⟨cs,h1,h2,h3⟩:=r
   exact ⟨cs,h1,aCa a b nb c c' cs k h h2,aJ5 a b nb h h3⟩
 | .iface t m,m',nb,c,c',vs,k,h,r=>by
  cases m' <;> simp only [fC] at h <;> first|(exact dA r rfl)|skip
  rename_i t' m2
  cases hk:(t.beq t'&&(m.isAgg==m2.isAgg)) with
  | false=>rw [hk] at h;exact h.elim
  | true =>
   rw [hk,Z6] at h
   simp only [Z3,Nat.beq_eq,beq_iff_eq] at hk
   obtain ⟨rfl,hg⟩:=hk
   obtain ⟨cs,u,h1,h2,h3⟩:=r
   exact ⟨cs,u,h1,oS m m2 nb c c' cs k h h2,by rw [← hg];exact h3⟩
 | .emp,m',nb,c,c',vs,k,h,r=>by
  cases m' <;> simp only [fC] at h <;> first|(exact dA r rfl)|skip
  ·subst h
   obtain ⟨a,rfl⟩:=r
   exact ⟨_,rfl,a,0,rfl,Z0 _,fun h=>absurd h (by simp)⟩
  ·exact r
 | .any,m',nb,c,c',vs,k,h,r=>by
  cases m' <;> simp only [fC] at h
  exact r
 | .junk n,m',nb,c,c',vs,k,h,r=>by
  cases m' <;> simp only [fC] at h
  rename_i kk
  cases hk:kk.beq n with
  | false=>rw [hk] at h;exact h.elim
  | true =>
   simp only [Nat.beq_eq] at hk
   subst hk
   exact r
 | .br i idx off,m',nb,c,c',vs,k,h,r=>by
  cases m' <;> simp only [fC] at h <;> first|(exact dA r rfl)|skip
  rename_i i' idx' off'
  cases hk:(i.beq i'&&i.blt nb) with
  | false=>rw [hk] at h;exact h.elim
  | true =>
   rw [hk,Z6] at h
   simp only [Z3,Nat.beq_eq,Nat.blt_eq] at hk
   obtain ⟨rfl,hlt⟩:=hk
   obtain ⟨rfl,rfl⟩:=h
   obtain ⟨h1,h2⟩:=r
   obtain ⟨a,b,d⟩:=k.live i hlt h1
   exact ⟨a,by rw [b,d];exact h2⟩
 | .tup _,m',nb,c,c',vs,k,h,r=>by simp only [fC] at h
theorem aCa {w:World}:∀ (a b:List MV) (nb:Nat) (c c':Ctx) (vs:List Value),Cuts nb c c'→pN nb a b→RepCs c w a vs→RepCs c' w b vs
 | [],b,nb,c,c',vs,k,h,r=>by
  cases b <;> simp only [pN] at h
  exact r
 | x::a,b,nb,c,c',vs,k,h,r=>by
  cases b <;> simp only [pN] at h
  obtain ⟨h1,h2⟩:=h
  obtain ⟨u,v,rfl,hu,hv⟩:=r
  exact ⟨u,v,rfl,oS x _ nb c c' u k h1 hu,aCa a _ nb c c' v k h2 hv⟩
theorem aJ5:∀ (a b:List MV) (nb:Nat),pN nb a b→(∀ m∈a,m.isAgg=false)→∀ m∈b,m.isAgg=false
 | [],b,nb,h,hg=>by
  cases b <;> simp only [pN] at h
  simp
 | x::a,b,nb,h,hg=>by
  cases b <;> simp only [pN] at h
  obtain ⟨h1,h2⟩:=h
  intro m hm
  rcases List.mem_cons.1 hm with rfl|hm
  ·rw [aGZ x _ h1];exact hg x (by simp)
  ·exact aJ5 a _ nb h2 (fun y hy=>hg y (by simp [hy])) m hm
end
theorem aIE {nb:Nat} {m m':MV} (h:fC nb m m'):m.isTup=false∧m'.isTup=false:=by
 cases m <;> cases m' <;> first|exact ⟨rfl,rfl⟩|(simp only [fC] at h)
theorem aE4 {w:World} {m m':MV} {nb:Nat} {c c':Ctx} {v:Value} (k:Cuts nb c c') (h:fC nb m m') (r:Rep1 c w m v):Rep1 c' w m' v:=by
 by_cases hn':m'= .any
 ·subst hn';trivial
 ·have hg:=aGZ m m' h
  by_cases hn:m= .any
  ·subst hn;cases m' <;> simp only [fC] at h;exact absurd rfl hn'
  ·cases hm:m.isAgg with
   | true =>
    rw [cY hm] at r
    rw [cY (hg.trans hm)]
    obtain ⟨cs,h1,h2⟩:=r
    exact ⟨cs,h1,oS m m' nb c c' _ k h h2⟩
   | false =>
    rw [aU hm hn] at r
    rw [aU (hg.trans hm) hn']
    exact oS m m' nb c c' _ k h r
theorem vJ {w:World} {nb:Nat} {c c':Ctx} (k:Cuts nb c c'):∀ (a b:List MV) (vs:List Value),leV.leVs nb a b→RepAll c w a vs→RepAll c' w b vs
 | [],b,vs,h,r=>by cases b <;> simp only [leV.leVs] at h;exact r
 | x::a,b,vs,h,r=>by
  cases b with
  | nil=>simp only [leV.leVs] at h
  | cons y b =>
   simp only [leV.leVs] at h
   obtain ⟨h1,h2⟩:=h
   obtain ⟨v,u,rfl,hv,hu⟩:=r
   refine ⟨v,u,rfl,?_,vJ k a b u h2 hu⟩
   by_cases hy:y= .any
   ·subst hy;trivial
   ·refine aE4 k ?_ hv
    revert h1
    cases y <;> first|exact absurd rfl hy|exact id
theorem aIG {w:World} {m m':MV} {nb:Nat} {c c':Ctx} {v:Value} (k:Cuts nb c c') (h:leV nb m m') (r:Rep c w m v):Rep c' w m' v:=by
 unfold leV at h
 split at h
 ·trivial
 ·rename_i b
  split at h
  ·rename_i a
   obtain ⟨vs,h1,h2⟩:=r
   exact ⟨vs,h1,vJ k a b _ h h2⟩
  ·exact h.elim
 ·obtain ⟨q1,q2⟩:=aIE h
  exact (bA q2).2 (aE4 k h ((bA q1).1 r))
theorem LeFun.of_le {len:Nat} {f f':Nat→MV} (h:∀ i,i<len→fC 0 (f i) (f' i)):LeFun len f f' :=
 ⟨fun i hi c _ cs r=>oS (f i) (f' i) 0 c c cs ⟨fun _ h=>h,fun _ h=>h,fun i hi=>by omega⟩ (h i hi) r⟩
theorem aNY {w:World} {nb:Nat} {c c':Ctx} (k:Cuts nb c c') {x y:BC} {arr:Array Value} (h:yE nb x y) (r:BCRep c w x arr):BCRep c' w y arr:=by
 cases x with
 | one m =>
  cases y with
  | one m' =>
   obtain ⟨cs,h1,h2⟩:=r
   exact ⟨cs,oS m m' nb c c' cs k h h1,h2⟩
  | arr k l=>exact h.elim
  | rows _ _ _=>exact h.elim
 | arr kk l =>
  cases y with
  | one m'=>exact h.elim
  | arr k' l' =>
   simp only [yE] at h
   cases hk:decide (kk=k') with
   | false=>rw [hk] at h;exact h.elim
   | true =>
    rw [hk,Z6] at h
    simp only [decide_eq_true_eq] at hk
    subst hk;subst h
    exact r
  | rows _ _ _=>exact h.elim
 | rows wd len f =>
  cases y with
  | one m'=>exact h.elim
  | arr k l=>exact h.elim
  | rows wd' len' f' =>
   simp only [yE] at h
   cases hk:wd.beq wd' with
   | false=>rw [hk] at h;exact h.elim
   | true =>
    rw [hk,Z6] at h
    simp only [Nat.beq_eq] at hk
    obtain ⟨rfl,hf⟩:=h
    subst hk
    intro i hi
    obtain ⟨cs,q1,q2,q3⟩:=r i hi
    exact ⟨cs,q1,hf.h i hi _ _ _ (RepC.keep (⟨fun b _=>k.S b,fun _ _ _=>trivial,fun _ h=>h.elim,fun _ _ _=>rfl,fun _ _ _=>rfl⟩:Keeps c.elem c'.elem w w) (f i) cs q2),q3⟩
theorem aJ1 {nb:Nat} {x y:BC} (h:yE nb x y):y.wd=x.wd:=by
 cases x <;> cases y <;> first|rfl|exact h.elim|skip
 rename_i wd len f wd' len' f'
 simp only [yE] at h
 cases hk:wd.beq wd' with
 | false=>rw [hk] at h;exact h.elim
 | true=>simp only [Nat.beq_eq] at hk;exact hk.symm
theorem aGW {nb:Nat}:∀ (l l':List Box),aRc nb l l'→∀ i b',aR l' i=some b'→i<l.length→∃ b,aR l i=some b∧b.fz=b'.fz∧yE nb b.c b'.c
 | l, [],_=>fun i b h=>by simp [aR] at h
 | [],_::_,h=>fun i b _ hi=>by simp at hi
 | x::l,y::l',h=>by
  simp only [aRc] at h
  cases hk:(x.fz==y.fz) with
  | false=>rw [hk] at h;exact h.elim
  | true =>
   rw [hk,Z6] at h
   obtain ⟨h1,h2⟩:=h
   have h4:=aGW l l' h2
   intro i b' hb hi
   cases i with
   | zero=>simp only [aR,Z1] at hb;subst hb;exact ⟨x,rfl,by simpa using hk,h1⟩
   | succ i=>exact h4 i b' hb (by simpa using hi)
theorem aD4 {nb:Nat} {s:MS}:∀ (l:List (Nat×MV)),aUo nb s l→∀ t,leV nb (look t s.tm) (look t l)
 | [],_,t=>by simp only [look];unfold leV;trivial
 | (u,m)::l,h,t=>by
  obtain ⟨h1,h2⟩:=h
  simp only [look]
  cases hk:u.beq t with
  | true=>simp only [Nat.beq_eq] at hk;subst hk;exact h1
  | false=>exact aD4 l h2 t
theorem St.le {S0:Nat→Prop} {w0:Base} {w:World} {s t:MS} {c:Ctx} {a:Act} (h:St S0 w0 s c a w) (hle:aGY s t):∃ c',St S0 w0 t c' a w:=by
 unfold aGY at hle
 cases hnn:(s.n.beq t.n&&s.np.beq t.np&&(t.np%1048576).ble t.bx.length) with
 | false=>rw [hnn] at hle;exact hle.elim
 | true =>
  rw [hnn,Z6] at hle
  simp only [Z3,Nat.beq_eq,Nat.ble_eq] at hnn
  obtain ⟨⟨hn,hnp⟩,hnb⟩:=hnn
  obtain ⟨h1,h2⟩:=hle
  have hnth0:=aGW _ _ h2
  have hnth:∀ i b',c.live i→aR t.bx i=some b'→∃ b,aR s.bx i=some b∧b.fz=b'.fz∧yE t.bx.length b.c b'.c:=fun i b' hl hb=>hnth0 i b' hb (h.mem.fresh i hl).2.2
  let live':Nat→Prop:=fun i=>c.live i∧i<t.bx.length
  have hW:∀ b,Wof t.bx live' c.β b→c.W b:=by
   rintro b ⟨i,b0,q1,q2,q3,q4⟩
   obtain ⟨b1,r1,r2,_⟩:=hnth i b0 q1.1 q2
   exact (h.mem.hW b).2 ⟨i,b1,q1.1,r1,by rw [r2];exact q3,q4⟩
  have k:Cuts t.bx.length c (eO S0 t.bx live' c.β c.sz) :=
   ⟨fun b hb=>(h.mem.hS b).2 (hb.imp id (hW b)),hW,fun i hi hl=>⟨⟨hl,hi⟩,rfl,rfl⟩⟩
  refine ⟨eO S0 t.bx live' c.β c.sz,⟨⟨h.mem.ext,h.mem.S0lt,h.mem.gl,fun b=>Iff.rfl,fun b=>Iff.rfl,fun i j hi hj=>h.mem.inj i j hi.1 hj.1,fun i hi=>⟨(h.mem.fresh i hi.1).1,(h.mem.fresh i hi.1).2.1,hi.2⟩,?_,fun i b z hp=>by obtain ⟨q1,q2,q3⟩:=h.mem.pin i b z hp;have:=aR6 (h.np i b z hp);exact ⟨⟨q1,by rw [hnp] at this;omega⟩,q2,q3⟩⟩,fun u=>aIG k (aD4 _ h1 u) (h.tm u),hn ▸ h.size,h.defers,hnp ▸ h.np⟩⟩
  intro i b hl hb
  obtain ⟨b1,r1,r2,r3⟩:=hnth i b hl.1 hb
  obtain ⟨arr,ty,q1,q2,qw,q3⟩:=h.mem.box i b1 hl.1 r1
  exact ⟨arr,ty,q1,q2,by rw [aJ1 r3];exact qw,aNY k r3 q3⟩
def Ex.out:Ex→Exit
 | .normal=> .normal
 | .exit id=> .exit id
 | .ret=> .ret
theorem St.frzs {S0:Nat→Prop} {w0:Base} {w:World} {s:MS} {c:Ctx} {a:Act} (h:St S0 w0 s c a w) (fz:List Nat):St S0 w0 (s.frz fz) (eO S0 (gM fz s.bx) c.live c.β c.sz) a w:=by
 obtain ⟨hm,hk,_⟩:=h.mem.frz fz
 exact h.keepTm (s':=s.frz fz) hk hm rfl rfl rfl
theorem aBU {P:Program} {S0:Nat→Prop} {w0:Base} {c:Code} {F:MS→(Ex→MS→Prop)→Prop} {Q:Exit→Act→World→Prop} {K:Ex→MS→Prop}
  (hF:∀ (s:MS) (K':Ex→MS→Prop) (ct:Ctx) (a:Act) (w:World) (Q':Exit→Act→World→Prop),F s K'→St S0 w0 s ct a w→
   (∀ e s' c' a' w',K' e s'→St S0 w0 s' c' a' w'→Q' e.out a' w')→(∀ ch a' w',Q (.panic ch) a' w'→Q' (.panic ch) a' w')→c.wp P Q' a w)
  (hK:∀ e s' c' a' w',e≠ .normal→K e s'→St S0 w0 s' c' a' w'→Q e.out a' w')
  {n:Nat} {s:MS} {ct:Ctx} {a:Act} {w:World} (h:u9 F n s K) (hs:St S0 w0 s ct a w):(Code.loop c).wp P Q a w:=by
 refine wp_loop_ghost (fun m a' w'=>∃ s' c',u9 F m s' K∧St S0 w0 s' c' a' w') n ⟨s,ct,h,hs⟩ ?_
 rintro m a' w' ⟨s',c',h1,h2⟩
 cases m with
 | zero=>exact h1.elim
 | succ m =>
  refine hF s' _ c' a' w' _ h1 h2 (fun e s2 c2 a2 w2 q1 q2=>?_) (fun ch a2 w2 q=>q)
  cases e with
  | normal=>exact ⟨m,Nat.lt_succ_self m,s2,c2,q1,q2⟩
  | exit id=>exact hK (.exit id) s2 c2 a2 w2 (by simp) q1 q2
  | ret=>exact hK .ret s2 c2 a2 w2 (by simp) q1 q2
theorem cB {P:Program} (hmix:P.follows .mixedOrders=true) {E:Env P} {Kp:MV→Prop} {S0:Nat→Prop} {w0:Base} :
  ∀ (c:Code) (s:MS) (K:Ex→MS→Prop) (ct:Ctx) (a:Act) (w:World) (Q:Exit→Act→World→Prop),fB E Kp c s K→St S0 w0 s ct a w→
  (∀ e s' c' a' w',K e s'→St S0 w0 s' c' a' w'→Q e.out a' w')→
  (∀ m v w' a',Kp m→ExtB w0 w'→Rep1 (Ctx.res S0) w' m v→a'.defers=w0.df→Q (.panic [{ v,recovered:=false }]) a' w')→c.wp P Q a w
 | .skip,s,K,ct,a,w,Q,h,hs,hK,hP=>wp_skip (hK .normal s ct a w h hs)
 | .label l,s,K,ct,a,w,Q,h,hs,hK,hP=>wp_label (hK .normal s ct a w h hs)
 | .region id ops draw,s,K,ct,a,w,Q,h,hs,hK,hP=>aAf hmix hP (by simpa only [fB] using h) (hs.frzs _) (fun s' c' a' w' q1 q2 _=>hK .normal s' c' a' w' q1 q2)
 | .seq x y,s,K,ct,a,w,Q,h,hs,hK,hP=>by
  simp only [fB] at h
  generalize E.cut (bZ y) s=A at h
  unfold aTx at h
  split at h
  ·refine wp_seq (cB hmix x s _ ct a w _ h hs (fun e s' c' a' w' q1 q2=>?_) (fun m v w' a' q1 q2 q3 q4=>hP m v w' a' q1 q2 q3 q4))
   cases e with
   | normal=>exact cB hmix y s' K c' a' w' Q q1 q2 hK hP
   | exit id=>exact hK (.exit id) s' c' a' w' q1 q2
   | ret=>exact hK .ret s' c' a' w' q1 q2
  ·obtain ⟨h1,h2⟩:=h
   refine wp_seq (cB hmix x s _ ct a w _ h1 hs (fun e s' c' a' w' q1 q2=>?_) (fun m v w' a' q1 q2 q3 q4=>hP m v w' a' q1 q2 q3 q4))
   cases e with
   | normal =>
    obtain ⟨j,hj,hle⟩:=q1
    obtain ⟨c3,hc3⟩:=q2.le hle
    exact cB hmix y _ K c3 a' w' Q (h2 j hj) hc3 hK hP
   | exit id=>exact hK (.exit id) s' c' a' w' q1 q2
   | ret=>exact hK .ret s' c' a' w' q1 q2
 | .cond cc x y,s,K,ct,a,w,Q,h,hs,hK,hP=>by
  simp only [fB] at h
  split at h
  ·rename_i t
   split at h
   ·rename_i b hb
    have hr:=hs.tm t
    rw [hb] at hr
    have he:a.eval (.tmp t)= .bool b:=gH hr
    unfold Br at h
    cases b with
    | true =>
     rw [Z6] at h
     exact wp_cond he (cB hmix x _ K ct a w Q h (hs.again hr) hK hP)
    | false =>
     rw [Z5] at h
     exact wp_cond he (cB hmix y _ K ct a w Q h (hs.again hr) hK hP)
   ·exact h.elim
  ·exact h.elim
 | .block id x,s,K,ct,a,w,Q,h,hs,hK,hP=>by
  simp only [fB] at h
  refine wp_block (cB hmix x s _ ct a w _ h hs (fun e s' c' a' w' q1 q2=>?_) (fun m v w' a' q1 q2 q3 q4=>hP m v w' a' q1 q2 q3 q4))
  cases e with
  | normal=>exact hK .normal s' c' a' w' q1 q2
  | exit j =>
   simp only [Ex.out,Exit.inBlock]
   cases hj:j.beq id with
   | true =>
    simp only [Nat.beq_eq] at hj
    rw [if_pos hj]
    have q1:cond (j.beq id) (K .normal s') (K (.exit j) s'):=q1
    rw [show j.beq id=true by simpa using hj,Z6] at q1
    exact hK .normal s' c' a' w' q1 q2
   | false =>
    have hne:¬ j=id:=by intro e;subst e;simp at hj
    rw [if_neg hne]
    have q1:cond (j.beq id) (K .normal s') (K (.exit j) s'):=q1
    rw [hj,Z5] at q1
    exact hK (.exit j) s' c' a' w' q1 q2
  | ret=>exact hK .ret s' c' a' w' q1 q2
 | .loop x,s,K,ct,a,w,Q,h,hs,hK,hP=>by
  simp only [fB] at h
  generalize hann:E.ann (bZ x) s=A at h
  unfold aNC at h
  split at h
  ·exact h.elim
  ·exact aBU (Q:=Q) (K:=K) (fun s' K' c' a' w' Q' h' hs' hK' hp'=>cB hmix x s' K' c' a' w' Q' h' hs' hK' (fun m v w2 a2 q1 q2 q3 q4=>hp' _ _ _ (hP m v w2 a2 q1 q2 q3 q4)))
    (fun e s' c' a' w' _ q1 q2=>hK e s' c' a' w' q1 q2) h hs
  ·rename_i ι I T μ
   obtain ⟨⟨i0,hi0,hle0⟩,hround⟩:=h
   refine wp_loop_ghost (fun m a' w'=>∃ i c',I i∧μ i=m∧St S0 w0 (T i) c' a' w') (μ i0) (by
    obtain ⟨c',hc'⟩:=hs.le hle0
    exact ⟨i0,c',hi0,rfl,hc'⟩) ?_
   rintro m a' w' ⟨i,c',hi,rfl,hst⟩
   refine cB hmix x (T i) _ c' a' w' _ (hround i hi) hst (fun e s2 c2 a2 w2 q1 q2=>?_) (fun m v w2 a2 q1 q2 q3 q4=>hP m v w2 a2 q1 q2 q3 q4)
   cases e with
   | normal =>
    obtain ⟨j,hj,hle,hlt⟩:=q1
    obtain ⟨c3,hc3⟩:=q2.le hle
    exact ⟨μ j,hlt,j,c3,hj,rfl,hc3⟩
   | exit id=>exact hK (.exit id) s2 c2 a2 w2 q1 q2
   | ret=>exact hK .ret s2 c2 a2 w2 q1 q2
 | .exit id,s,K,ct,a,w,Q,h,hs,hK,hP=>wp_exit (hK (.exit id) s ct a w h hs)
 | .ret,s,K,ct,a,w,Q,h,hs,hK,hP=>wp_ret (hK .ret s ct a w h hs)
 | .rangeFunc _ _ _ _,s,K,ct,a,w,Q,h,hs,hK,hP=>by simp only [fB] at h;exact h.elim
 | .scope x,s,K,ct,a,w,Q,h,hs,hK,hP=>wp_scope_straight (cB hmix x s K ct a w _ (by simpa only [fB] using h) hs (fun e s' c' a' w' q1 q2=>by
   cases e with
   | normal=>exact hK .normal s' c' a' w' q1 q2
   | exit id=>exact hK (.exit id) s' c' a' w' q1 q2
   | ret=>exact hK .ret s' c' a' w' q1 q2) (fun m v w' a' q1 q2 q3 q4=>hP m v w' a' q1 q2 q3 q4))
 | .goto _,s,K,ct,a,w,Q,h,hs,hK,hP=>by simp only [fB] at h;exact h.elim
 | .refuse _,s,K,ct,a,w,Q,h,hs,hK,hP=>by simp only [fB] at h;exact h.elim
theorem aHt {S0:Nat→Prop} {w0:Base} {w:World} {s:MS} {c:Ctx} {a:Act} (h:St S0 w0 s c a w) {m:MV} {sh:Shown} (hsh:s.show m=some sh) (hp:sh.p.holds) (hc:sh.m.clean false=true) {v:Value} (hr:Rep c w m v):Rep1 (Ctx.res S0) w sh.m v:=by
 have hM:=h.mem
 obtain ⟨s1,_⟩:=sO (S':=S0) (fun b hb=>(hM.hS b).2 (.inl hb)) hM.box (fun i b hl hb hf hs=>hM.frozen i b hl hb hf ((hM.hS _).2 (.inl hs))) m sh hsh hp
  (fun i _ hl hS=>hM.notS0 hl hS) v ((bA (aCR hsh)).1 hr)
 exact Rep1.clean (c:=Ctx.args S0) (c':=Ctx.res S0) (r:=false) (fun b hb=>hb) (fun e=>by simp at e) hc s1
theorem aGF {P:Program} {s:MS} {t:TypeId} {agg:Bool} {size:Nat} (ht:dI P t=some (agg,size)) {x:MV} {p:OProp} {m:MV} (h:gB s agg size x= .val p m) (hp:p.holds)
  {c:Ctx} {w:World} {v:Value} (hx:Rep c w x v) (hB:mJ c w s.bx):∃ ad u,v= .pointer (some ad)∧(loadVar t ad).run P w= .ok u w∧Rep c w m u:=by
 have hv:∃ ad,v= .pointer (some ad):=by
  have h':=h
  unfold gB at h'
  split at h'
  ·obtain ⟨_,rfl⟩:=tZ hx;exact ⟨_,rfl⟩
  ·obtain ⟨b,off,cs,rfl,_⟩:=aAH hx;exact ⟨_,rfl⟩
  ·obtain ⟨_,rfl⟩:=aFd hx;exact ⟨_,rfl⟩
  ·simp at h'
 obtain ⟨ad,rfl⟩:=hv
 obtain ⟨u,hu,hr⟩:=aDR ht h hp hx hB
 refine ⟨ad,u,rfl,?_,hr⟩
 simpa [Instr.loadAt,Instr.sureAddr] using hu
def aI1 (tmps:Array Value):ResultVar→Sem Value
 | .tmp t=>pure (tmps.getD t undef)
 | .cell b t=>do loadVar t (← asAddr (tmps.getD b undef))
theorem i7 (fn:Func) (tmps:Array Value):results fn tmps=(do let vs ← fn.results.mapM (aI1 tmps);pure (if h:vs.size=1 then vs[0] else .tuple vs)):=by
 have e:(fun r:ResultVar=>(match r with| .tmp t=>pure (tmps.getD t undef)| .cell b t=>do loadVar t (← asAddr (tmps.getD b undef)):Sem Value))=aI1 tmps:=by
  funext r;cases r <;> rfl
 rw [← e]
 rfl
theorem aGH {P:Program} {S0:Nat→Prop} {w0:Base} {w:World} {s:MS} {c:Ctx} {a:Act} (h:St S0 w0 s c a w) {r:ResultVar} {p:OProp} {m:MV} (he:u6 P s r=some (p,m)) (hp:p.holds) :
  ∃ v,(aI1 a.tmps r).run P w= .ok v w∧Rep1 (Ctx.res S0) w m v:=by
 cases r with
 | tmp t =>
  simp only [u6] at he
  split at he
  ·rename_i m' p' fz hsh
   cases hc:m'.clean false with
   | false=>rw [hc] at he;simp at he
   | true =>
    rw [hc] at he
    simp only [Z6,Z1,Z2] at he
    obtain ⟨rfl,rfl⟩:=he
    exact ⟨_,rfl,aHt h hsh hp hc (h.tm t)⟩
  ·simp at he
 | cell b t =>
  simp only [u6] at he
  split at he
  ·rename_i agg size ht
   split at he
   ·rename_i p1 m1 hl
    split at he
    ·rename_i m' q fz hsh
     cases hc:m'.clean false with
     | false=>rw [hc] at he;simp at he
     | true =>
      rw [hc] at he
      simp only [Z6,Z1,Z2] at he
      obtain ⟨rfl,rfl⟩:=he
      obtain ⟨hp1,hq⟩:=oand2_holds.1 hp
      obtain ⟨ad,u,hv,hu,hr⟩:=aGF ht hl hp1 (h.tm b) h.mem.box
      refine ⟨u,?_,aHt h hsh hq hc hr⟩
      simp [aI1,hv,asAddr,hu]
    ·simp at he
   ·simp at he
  ·simp at he
theorem lB {P:Program} {S0:Nat→Prop} {w0:Base} {w:World} {s:MS} {c:Ctx} {a:Act} (h:St S0 w0 s c a w):∀ (l:List ResultVar) (p:OProp) (ms:List MV),iA P s l=some (p,ms)→p.holds→
  ∃ vs,(l.mapM (aI1 a.tmps)).run P w= .ok vs w∧RepAll (Ctx.res S0) w ms vs
 | [],p,ms,he,hp=>by
  simp only [iA,Z1,Z2] at he
  obtain ⟨rfl,rfl⟩:=he
  exact ⟨[],rfl,rfl⟩
 | r::l,p,ms,he,hp=>by
  simp only [iA] at he
  split at he
  ·rename_i p1 m q ms' h1 h2
   simp only [Z1,Z2] at he
   obtain ⟨rfl,rfl⟩:=he
   obtain ⟨hp1,hq⟩:=oand2_holds.1 hp
   obtain ⟨v,hv,hr⟩:=aGH h h1 hp1
   obtain ⟨vs,hvs,hrs⟩:=lB h l q ms' h2 hq
   refine ⟨v::vs,?_,v,vs,rfl,hr,hrs⟩
   simp only [List.mapM_cons,Sem.run_bind,hv,Result.andThen,hvs,Sem.run_pure]
  ·simp at he
theorem oW {c:Ctx} {w:World} {ms:List MV} {vs:List Value} (h:RepAll c w ms vs):Rep c w (nT ms) (if hh:vs.toArray.size=1 then vs.toArray[0] else .tuple vs.toArray):=by
 match ms,vs,h with
 | [],vs,h =>
  have h:vs= []:=h
  subst h
  exact ⟨#[],rfl,rfl⟩
 | [m],vs,h =>
  obtain ⟨v,r,rfl,h1,h2⟩:=h
  have h2:r= []:=h2
  subst h2
  exact m6 h1
 | m::m2::ms,vs,h =>
  have hh:=h
  obtain ⟨v,r,rfl,h1,⟨v2,r2,rfl,h3,h4⟩⟩:=h
  rw [dif_neg (by simp)]
  exact ⟨_,rfl,by simpa using hh⟩
theorem aBl {S0:Nat→Prop} {w:World} {m:MV} {v:Value}:∀ (r:MRes),r.sat (.ret m)→Rep (Ctx.res S0) w m v→r.holds (Ctx.res S0) w (.returned v)
 | .ret m',h,hr=>aIG (nb:=0) ⟨fun _ h=>h,fun _ h=>h,fun i hi=>by omega⟩ h hr
 | .pan _,h,_=>h.elim
 | .br b x y,h,hr=>by
  simp only [MRes.sat,Br] at h
  simp only [MRes.holds]
  cases b with
  | true=>exact aBl x h hr
  | false=>exact aBl y h hr
theorem aFP {S0:Nat→Prop} {w:World} {m:MV} {v:Value}:∀ (r:MRes),r.sat (.pan m)→Rep1 (Ctx.res S0) w m v→r.holds (Ctx.res S0) w (.panicked [{ v,recovered:=false }])
 | .ret _,h,_=>h.elim
 | .pan m',h,hr=>by
  refine ⟨v,rfl,?_⟩
  have h:leV 0 m m':=h
  unfold leV at h
  split at h
  ·trivial
  ·split at h
   ·have:RepC (Ctx.res S0) w (.tup _) [v]:=(aU rfl (by simp)).1 hr
    exact this.elim
   ·exact h.elim
  ·exact aE4 (nb:=0) ⟨fun _ h=>h,fun _ h=>h,fun i hi=>by omega⟩ h hr
 | .br b x y,h,hr=>by
  simp only [MRes.sat,Br] at h
  simp only [MRes.holds]
  cases b with
  | true=>exact aFP x h hr
  | false=>exact aFP y h hr
theorem fD {c:Ctx} {w:World}:∀ (ms:List MV) (vs:List Value) (k:Nat),RepAll c w ms vs→∀ t,(t<k→look t (dV k ms)= .any)∧(k≤t→Rep c w (look t (dV k ms)) (vs.getD (t -k) undef))
 | [],vs,k,h,t=>⟨fun _=>rfl,fun _=>trivial⟩
 | m::ms,vs,k,h,t=>by
  obtain ⟨v,r,rfl,h1,h2⟩:=h
  obtain ⟨ih1,ih2⟩:=fD ms r (k+1) h2 t
  simp only [dV,look]
  cases hk:k.beq t with
  | true =>
   simp only [Nat.beq_eq] at hk
   subst hk
   exact ⟨fun h=>by omega,fun _=>by simpa using m6 h1⟩
  | false =>
   have hne:k≠t:=by intro e;subst e;simp at hk
   refine ⟨fun h=>ih1 (by omega),fun h=>?_⟩
   have:=ih2 (by omega)
   rw [show t -k=(t -(k+1))+1 by omega]
   exact this
theorem d6 {c:Ctx} {w:World}:∀ (ms:List MV) (vs:List Value),RepAll c w ms vs→vs.length=ms.length
 | [],vs,h=>by have h:vs= []:=h;simp [h]
 | m::ms,vs,h=>by
  obtain ⟨v,r,rfl,_,h2⟩:=h
  simp [d6 ms r h2]
theorem aL {P:Program} (hmix:P.follows .mixedOrders=true) {f:FuncId} {fn:Func} (hf:P.funcs[f]? =some fn) (spec:aG)
  (hspec:∀ ms p r,spec ms=some (p,r)→p.holds→∃ E:Env P,aM E fn ms r.sat)
  (S:Nat→Prop) (w:World) (ms:List MV) (args:Array Value) (p:OProp) (r:MRes) (hs:spec ms=some (p,r)) (hp:p.holds) (hS:∀ b,S b→b<w.heap.size) (hG:GW S w)
  (ha:RepAll (Ctx.args S) w ms args.toList):Calls P f args w fun e w'=>Ext w w'∧r.holds (Ctx.res S) w' e:=by
 obtain ⟨E,h⟩:=hspec ms p r hs hp
 unfold aM at h
 split at h
 ·rename_i c hb
  cases hl:ms.length.ble fn.ntmps with
  | false=>rw [hl] at h;exact h.elim
  | true =>
   rw [hl,Z6] at h
   have hle:ms.length≤fn.ntmps:=Nat.le_of_ble_eq_true hl
   have hlen:=d6 _ _ ha
   simp only [Array.length_toList] at hlen
   refine calls_of_wp hf hb (cB (S0:=S) (w0:=⟨w,fun _=>False,fun _ _ _=>False, []⟩) hmix c _ _ (eO S [] (fun _=>False) (fun _=>0) (fun _=>⟨0,0⟩)) _ w _ h ⟨⟨⟨rfl,rfl,Z0 _,fun _ _ _=>rfl,fun _ _=>rfl,rfl,Z0 _⟩,fun b hb=>⟨hS b hb,id⟩,⟨hG,fun _ h=>h⟩,fun b=>Iff.rfl,fun b=>Iff.rfl,fun i j hi=>hi.elim,fun i hi=>hi.elim,fun i b hi=>hi.elim,fun _ _ _ h=>h.elim⟩,fun t=>?_,?_,rfl,fun _ _ _ h=>h.elim⟩ (fun e s' c' a' w' hK hst=>?_) (fun m v w' a' hK hext hr hd=>?_))
   ·have hk:Keeps (Ctx.args S) (eO S [] (fun _=>False) (fun _=>0) (fun _=>⟨0,0⟩)) w w :=
     ⟨fun b _ hb=>hb.elim id (fun ⟨i,_,hi,_⟩=>hi.elim),fun b _ ⟨i,_,hi,_⟩=>hi.elim,fun _ h=>h.elim,fun _ _ _=>rfl,fun _ _ _=>rfl⟩
    have:=((fD ms args.toList 0 ha t).2 (Z9 _)).keep hk
    rw [Nat.sub_zero] at this
    have e:(args++Array.replicate (fn.ntmps -args.size) undef).getD t undef=args.toList.getD t undef:=by
     simp only [Array.getD_eq_getD_getElem?,Array.getElem?_append,List.getD_eq_getElem?_getD,Array.getElem?_toList]
     split
     ·rfl
     ·rename_i hge
      rw [Array.getElem?_replicate,Array.getElem?_eq_none (by omega:args.size≤t)]
      split <;> rfl
    rw [e]
    exact this
   ·simp;omega
   ·have fin:(match iA P s' fn.results.toList with|some (p,l)=>lE p <| r.sat (.ret (nT l))|none=>uI s')→∃ v,(results fn a'.tmps).run P w'= .ok v w'∧r.holds (Ctx.res S) w' (.returned v):=by
     intro hK
     split at hK
     ·rename_i p l hres
      obtain ⟨hp,hK⟩:=oand_holds.1 hK
      obtain ⟨vs,hvs,hrs⟩:=lB hst _ p l hres hp
      refine ⟨_,?_,aBl r hK (oW hrs)⟩
      rw [i7,Array.mapM_eq_mapM_toList]
      simp only [Sem.run_bind,Sem.run_map,hvs,Result.andThen,Sem.run_pure]
     ·exact hK.elim
    cases e with
    | normal =>
     obtain ⟨v,h1,h2⟩:=fin hK
     exact ⟨hst.defers,v,h1,hst.mem.ext.plain,h2⟩
    | ret =>
     obtain ⟨v,h1,h2⟩:=fin hK
     exact ⟨hst.defers,v,h1,hst.mem.ext.plain,h2⟩
    | exit id=>exact hK.elim
   ·exact ⟨hd,hext.plain,aFP r hK hr⟩
 ·exact h.elim
theorem qM {nb:Nat}:∀ (l:List Box) (l':List BC),aAC nb l l'→∀ (i:Nat) bc,aR l' i=some bc→∃ b,aR l i=some b∧b.fz=false∧1≤bc.wd∧yE nb b.c bc
 | l, [],_,i,bc,h=>by simp [aR] at h
 | [],_::_,h,_,_,_=>h.elim
 | b::r,c::l,h,i,bc,hi=>by
  obtain ⟨h1,h2⟩:=h
  cases hc:(b.fz || c.wd.beq 0) with
  | true=>rw [hc] at h1;exact h1.elim
  | false =>
   rw [hc,Z5] at h1
   simp only [Bool.or_eq_false_iff] at hc
   cases i with
   | zero =>
    simp only [aR,Z1] at hi
    subst hi
    refine ⟨b,rfl,hc.1,?_,h1⟩
    have:=hc.2
    rcases Nat.eq_zero_or_pos c.wd with e|e
    ·rw [e] at this;simp at this
    ·exact e
   | succ i=>exact qM r l h2 i bc hi
theorem aGX {nb:Nat} {c c':Ctx} {w:World} (hS:∀ b,c.S b→c'.S b) {x y:BC} {arr:Array Value} (hy:1≤y.wd) (h:yE nb x y) (r:BCRep c' w x arr):BCRep c w y arr:=by
 cases x with
 | one m=>cases y <;> first|(simp [BC.wd] at hy;done)|exact h.elim
 | arr kk l =>
  cases y with
  | one m'=>exact h.elim
  | rows _ _ _=>exact h.elim
  | arr k' l' =>
   simp only [yE] at h
   cases hk:decide (kk=k') with
   | false=>rw [hk] at h;exact h.elim
   | true =>
    rw [hk,Z6] at h
    simp only [decide_eq_true_eq] at hk
    subst hk;subst h
    exact r
 | rows wd len f =>
  cases y with
  | one m'=>exact h.elim
  | arr k l=>exact h.elim
  | rows wd' len' f' =>
   simp only [yE] at h
   cases hk:wd.beq wd' with
   | false=>rw [hk] at h;exact h.elim
   | true =>
    rw [hk,Z6] at h
    simp only [Nat.beq_eq] at hk
    obtain ⟨rfl,hf⟩:=h
    subst hk
    intro i hi
    obtain ⟨cs,q1,q2,q3⟩:=r i hi
    exact ⟨cs,q1,hf.h i hi _ _ _ (RepC.keep (⟨fun b _=>hS b,fun _ _ _=>trivial,fun _ h=>h.elim,fun _ _ _=>rfl,fun _ _ _=>rfl⟩:Keeps c'.elem c.elem w w) (f i) cs q2),q3⟩
theorem aNJ {P:Program} (hmix:P.follows .mixedOrders=true) {f:FuncId} {fn:Func} (hf:P.funcs[f]? =some fn) (spec:List MV→List BC→Option (OProp×List BC))
  (hspec:∀ ms bcs p bcs',spec ms bcs=some (p,bcs')→p.holds→bcs'.length=bcs.length∧∃ E:Env P,aDS E fn ms bcs bcs'):MOk P f spec:=by
 intro X c w bcs bcs' ms args p hs hp hG hGW ha
 obtain ⟨hlen',E,h⟩:=hspec ms bcs p bcs' hs hp
 unfold aDS at h
 split at h
 ·rename_i cd hb
  cases hl:(ms.length.ble fn.ntmps&&fn.results.toList.length.beq 0&&bcs.length.blt 1048576) with
  | false=>rw [hl] at h;exact h.elim
  | true =>
   rw [hl,Z6] at h
   simp only [Z3,Nat.ble_eq,Nat.beq_eq,Nat.blt_eq] at hl
   obtain ⟨⟨hle,hres⟩,hmany⟩:=hl
   have hres:fn.results=#[]:=by
    apply Array.eq_empty_of_size_eq_zero
    simpa using hres
   have hlen:=d6 _ _ ha
   simp only [Array.length_toList] at hlen
   have hnth:∀ i,aR (bcs.map (fun b=>(⟨false,b⟩:Box))) i=(aR bcs i).map (fun b=>⟨false,b⟩):=fun i=>by simp only [bQ,List.getElem?_map]
   have hsome : ∀ i, c.live i → ∃ bc, aR bcs i = some bc := fun i hi => ⟨bcs[i]'(hG.ind i hi), by rw [bQ]; simp [hG.ind i hi]⟩
   let w0:Base:=⟨w,X,fun i b z=>c.live i∧c.β i=b∧c.sz i=z, []⟩
   refine calls_of_wp hf hb (cB (S0:=fun b=>c.S b∧¬ c.W b) (w0:=w0) hmix cd _ _ c _ w _ h ⟨⟨⟨rfl,rfl,Z0 _,fun _ _ _=>rfl,fun _ _=>rfl,rfl,Z0 _⟩,fun b hb=>⟨hG.lt b hb.1,fun hx=>hb.2 ((hG.X b).1 hx)⟩,⟨hGW.sub fun b hb=>hb.1,fun hg hx=>(hGW hg).1 (hG.WS _ ((hG.X _).1 hx))⟩,fun b=>?_,fun b=>?_,hG.inj,fun i hi=>?_,fun i b hi hb=>?_,fun _ _ _ h=>h⟩,fun t=>?_,?_,rfl,fun i b z hp=>aKn hmany (hG.ind i hp.1)⟩ (fun e s' c' a' w' hK hst=>?_) (fun m v w' a' hK hext hr hd=>hK.elim))
   ·constructor
    ·intro hs
     by_cases hw:c.W b
     ·exact .inr hw
     ·exact .inl ⟨hs,hw⟩
    ·rintro (hs|hw)
     ·exact hs.1
     ·exact hG.WS b hw
   ·rw [hG.hW b]
    constructor
    ·rintro ⟨i,h1,h2⟩
     obtain ⟨bc,hbc⟩:=hsome i h1
     exact ⟨i,⟨false,bc⟩,h1,by rw [hnth,hbc];rfl,rfl,h2⟩
    ·rintro ⟨i,_,h1,_,_,h2⟩;exact ⟨i,h1,h2⟩
   ·obtain ⟨bc,hbc⟩:=hsome i hi
    obtain ⟨arr,ty,q1,_⟩:=hG.box i bc hi hbc
    exact ⟨.inr ((hG.X _).2 ((hG.hW _).2 ⟨i,hi,rfl⟩)),(Array.getElem?_eq_some_iff.1 q1).1,by rw [List.length_map];exact hG.ind i hi⟩
   ·rw [hnth] at hb
    obtain ⟨bc,hbc⟩:=hsome i hi
    rw [hbc] at hb
    simp only [Option.map_some,Z1] at hb
    subst hb
    exact hG.box i bc hi hbc
   ·have:=(fD ms args.toList 0 ha t).2 (Z9 _)
    rw [Nat.sub_zero] at this
    have e:(args++Array.replicate (fn.ntmps -args.size) undef).getD t undef=args.toList.getD t undef:=by
     simp only [Array.getD_eq_getD_getElem?,Array.getElem?_append,List.getD_eq_getElem?_getD,Array.getElem?_toList]
     split
     ·rfl
     ·rename_i hge
      rw [Array.getElem?_replicate,Array.getElem?_eq_none (by omega:args.size≤t)]
      split <;> rfl
    rw [e]
    exact this
   ·simp;omega
   ·have hfin:aAC bcs.length s'.bx bcs'→a'.defers= []∧∃ v,(results fn a'.tmps).run P w'= .ok v w'∧(Ending.returned v= .returned (.tuple #[])∧ExtB ⟨w,X,fun _ _ _=>False, []⟩ w'∧bcs'.length=bcs.length∧∀ i bc,c.live i→aR bcs' i=some bc→BoxRep c w' i ⟨false,bc⟩):=by
     intro hK
     have hx:=qM _ _ hK
     refine ⟨hst.defers,.tuple #[],?_,rfl,⟨hst.mem.ext.os,hst.mem.ext.output,hst.mem.ext.size,hst.mem.ext.block,hst.mem.ext.frz,hst.mem.ext.tape,hst.mem.ext.dr⟩,hlen',fun i bc hi hbc=>?_⟩
     ·rw [i7,hres];simp
     ·obtain ⟨b,q1,q2,q3,q4⟩:=hx i bc hbc
      obtain ⟨p1,p2,p3⟩:=hst.mem.pin i (c.β i) (c.sz i) ⟨hi,rfl,rfl⟩
      obtain ⟨arr,ty,r1,r2,r3,r4⟩:=hst.mem.box i b p1 q1
      rw [p2] at r1
      rw [p3] at r2 r3
      refine ⟨arr,ty,r1,r2,by rw [r3,← aJ1 q4],aGX (fun x hx=>?_) q3 q4 r4⟩
      by_cases hw:c.W x
      ·obtain ⟨j,hj1,hj2⟩:=(hG.hW x).1 hw
       have hjl:j<bcs'.length:=by rw [hlen'];exact hG.ind j hj1
       obtain ⟨b2,t1,t2,_⟩:=qM _ _ hK j bcs'[j] (by rw [bQ];simp [hjl])
       obtain ⟨u1,u2,_⟩:=hst.mem.pin j (c.β j) (c.sz j) ⟨hj1,rfl,rfl⟩
       exact (hst.mem.hS x).2 (.inr ((hst.mem.hW x).2 ⟨j,b2,u1,t1,t2,u2.trans hj2⟩))
      ·exact (hst.mem.hS x).2 (.inl ⟨hx,hw⟩)
    cases e with
    | normal=>exact hfin hK
    | ret=>exact hfin hK
    | exit id=>exact hK.elim
 ·exact h.elim
theorem aGG {P:Program} (hmix:P.follows .mixedOrders=true) {f:FuncId} {fn:Func} (hf:P.funcs[f]? =some fn) (spec:List MV→Option (OProp×List Int))
  (hspec:∀ ms p l,spec ms=some (p,l)→p.holds→∃ E:Env P,aJU E fn ms l)
  (S:Nat→Prop) (w:World) (ms:List MV) (args:Array Value) (p:OProp) (l:List Int) (hs:spec ms=some (p,l)) (hp:p.holds) (hS:∀ b,S b→b<w.heap.size) (hGW:GW S w)
  (ha:RepAll (Ctx.args S) w ms args.toList):Calls P f args w fun e w'=>Ext w w'∧∃ b arr ty cap,e= .returned (.slice (some ⟨b,0,none⟩) l.length cap)∧w.heap.size≤b∧
   w'.heap[b]? =some (.cells arr ty (0,0))∧arr.size=cap∧l.length≤cap∧∀ (j:Nat) n,l[j]? =some n→arr[j]? =some (.int .u32 n):=by
 obtain ⟨E,h⟩:=hspec ms p l hs hp
 unfold aJU at h
 split at h
 ·rename_i c hb
  cases hl:ms.length.ble fn.ntmps with
  | false=>rw [hl] at h;exact h.elim
  | true =>
   rw [hl,Z6] at h
   have hle:ms.length≤fn.ntmps:=Nat.le_of_ble_eq_true hl
   have hlen:=d6 _ _ ha
   simp only [Array.length_toList] at hlen
   refine calls_of_wp hf hb (cB (S0:=S) (w0:=⟨w,fun _=>False,fun _ _ _=>False, []⟩) hmix c _ _ (eO S [] (fun _=>False) (fun _=>0) (fun _=>⟨0,0⟩)) _ w _ h ⟨⟨⟨rfl,rfl,Z0 _,fun _ _ _=>rfl,fun _ _=>rfl,rfl,Z0 _⟩,fun b hb=>⟨hS b hb,id⟩,⟨hGW,fun _ h=>h⟩,fun b=>Iff.rfl,fun b=>Iff.rfl,fun i j hi=>hi.elim,fun i hi=>hi.elim,fun i b hi=>hi.elim,fun _ _ _ h=>h.elim⟩,fun t=>?_,?_,rfl,fun _ _ _ h=>h.elim⟩ (fun e s' c' a' w' hK hst=>?_) (fun m v w' a' hK _ _ _=>hK.elim))
   ·have hk:Keeps (Ctx.args S) (eO S [] (fun _=>False) (fun _=>0) (fun _=>⟨0,0⟩)) w w :=
     ⟨fun b _ hb=>hb.elim id (fun ⟨i,_,hi,_⟩=>hi.elim),fun b _ ⟨i,_,hi,_⟩=>hi.elim,fun _ h=>h.elim,fun _ _ _=>rfl,fun _ _ _=>rfl⟩
    have:=((fD ms args.toList 0 ha t).2 (Z9 _)).keep hk
    rw [Nat.sub_zero] at this
    have e:(args++Array.replicate (fn.ntmps -args.size) undef).getD t undef=args.toList.getD t undef:=by
     simp only [Array.getD_eq_getD_getElem?,Array.getElem?_append,List.getD_eq_getElem?_getD,Array.getElem?_toList]
     split
     ·rfl
     ·rename_i hge
      rw [Array.getElem?_replicate,Array.getElem?_eq_none (by omega:args.size≤t)]
      split <;> rfl
    rw [e]
    exact this
   ·simp;omega
   ·have fin:(match fn.results.toList with|[.tmp t]=>aIR s' l (look t s'.tm)|_=>False)→∃ v,(results fn a'.tmps).run P w'= .ok v w'∧(Ext w w'∧∃ b arr ty cap,Ending.returned v= .returned (.slice (some ⟨b,0,none⟩) l.length cap)∧w.heap.size≤b∧
      w'.heap[b]? =some (.cells arr ty (0,0))∧arr.size=cap∧l.length≤cap∧∀ (j:Nat) n,l[j]? =some n→arr[j]? =some (.int .u32 n)):=by
     intro hK
     split at hK
     ·rename_i t hres
      have hr:=hst.tm t
      unfold aIR at hK
      split at hK
      ·rename_i i off len hlk
       rw [hlk] at hr
       split at hK
       ·rename_i b hb
        split at hK
        ·rename_i k l' hbc
         cases hc:(!b.fz&&decide (k= .u32)) with
         | false=>rw [hc] at hK;exact hK.elim
         | true =>
          rw [hc,Z6] at hK
          obtain ⟨rfl,hll,hpos,htk⟩:=hK
          simp only [Z3,decide_eq_true_eq] at hc
          obtain ⟨_,rfl⟩:=hc
          obtain ⟨a,cap,h1,h2,h3⟩:=bU hr rfl (by simp) rfl
          simp only [List.cons.injEq,and_true] at h1
          rcases h3 with ⟨rfl,h5,h6⟩|⟨_,h5,_⟩
          ·obtain ⟨arr,ty,q1,q2,q3,q4⟩:=hst.mem.box i b h5 hb
           rw [hbc] at q3 q4
           have hwd:(c'.sz i).wd=1:=q3
           rw [hwd] at h6
           have hfr:=(hst.mem.fresh i h5).1
           refine ⟨a'.tmps.getD t undef,?_,hst.mem.ext.plain,c'.β i,arr,ty,cap,by rw [h1,hll],hfr.elim id (fun h=>h.elim),q1,by rw [q2];omega,by omega,fun j n hj=>?_⟩
           ·rw [i7,Array.mapM_eq_mapM_toList,hres]
            simp [aI1]
           ·refine q4 j n ?_
            rw [← htk] at hj
            rw [List.getElem?_take] at hj
            split at hj
            ·exact hj
            ·simp at hj
          ·omega
        ·exact hK.elim
       ·exact hK.elim
      ·exact hK.elim
     ·exact hK.elim
    cases e with
    | normal =>
     obtain ⟨v,h1,h2⟩:=fin hK
     exact ⟨hst.defers,v,h1,h2⟩
    | ret =>
     obtain ⟨v,h1,h2⟩:=fin hK
     exact ⟨hst.defers,v,h1,h2⟩
    | exit id=>exact hK.elim
 ·exact h.elim
theorem qI {P:Program} (hmix:P.follows .mixedOrders=true) {f:FuncId} {fn:Func} (hf:P.funcs[f]? =some fn) (spec:aG)
  (hspec:∀ ms p r,spec ms=some (p,r)→p.holds→∃ ms',leV.leVs 0 ms ms'∧∃ E:Env P,aM E fn ms' r.sat)
  (S:Nat→Prop) (w:World) (ms:List MV) (args:Array Value) (p:OProp) (r:MRes) (hs:spec ms=some (p,r)) (hp:p.holds) (hS:∀ b,S b→b<w.heap.size) (hGW:GW S w)
  (ha:RepAll (Ctx.args S) w ms args.toList):Calls P f args w fun e w'=>Ext w w'∧r.holds (Ctx.res S) w' e:=by
 obtain ⟨ms',hle,E,hE⟩:=hspec ms p r hs hp
 have k:Cuts 0 (Ctx.args S) (Ctx.args S):=⟨fun _ h=>h,fun _ h=>h,fun i hi=>by omega⟩
 exact aL hmix hf (fun m=>some (some (∃ E:Env P,aM E fn m r.sat),r)) (fun m p2 r2 h2 hp2=>by
  simp only [Z1,Z2] at h2
  obtain ⟨rfl,rfl⟩:=h2
  exact hp2) S w ms' args _ r rfl ⟨E,hE⟩ hS hGW (vJ k ms ms' _ hle ha)
mutual
def MV.facts:MV→Prop
 | .big z n=>z.natAbs<2^n
 | .st ms=>iG ms
 | .ref m=>m.facts
 | .fn _ caps=>iG caps
 | _=>True
def iG:List MV→Prop
 | []=>True
 | m::ms=>m.facts∧iG ms
end
mutual
theorem RepC.facts {c:Ctx} {w:World}:∀ (m:MV) (vs:List Value),RepC c w m vs→m.facts
 | .big z n,vs,h=>by obtain ⟨s,_,h2,_⟩:=h;exact h2
 | .st ms,vs,h=>by simp only [MV.facts];exact RepCs.facts ms vs h
 | .ref m,vs,h=>by obtain ⟨b,off,cs,_,_,h3,_⟩:=h;simp only [MV.facts];exact RepC.facts m cs h3
 | .fn f caps,vs,h=>by obtain ⟨cs,_,h2,_⟩:=h;simp only [MV.facts];exact RepCs.facts caps cs h2
 | .any,_,_=>trivial
 | .junk _,_,_=>trivial
 | .bool _,_,_=>trivial
 | .int _ _,_,_=>trivial
 | .val _,_,_=>trivial
 | .ws _,_,_=>trivial
 | .sl _ _ _,_,_=>trivial
 | .bp _ _,_,_=>trivial
 | .br _ _ _,_,_=>trivial
 | .bs _ _ _,_,_=>trivial
 | .tup _,_,_=>trivial
 | .iface _ _,_,_=>trivial
 | .emp,_,_=>trivial
theorem RepCs.facts {c:Ctx} {w:World}:∀ (ms:List MV) (vs:List Value),RepCs c w ms vs→iG ms
 | [],_,_=>trivial
 | m::ms,vs,h=>by
  obtain ⟨x,y,_,h2,h3⟩:=h
  exact ⟨RepC.facts m x h2,RepCs.facts ms y h3⟩
end
theorem RepAll.facts {c:Ctx} {w:World}:∀ (ms:List MV) (vs:List Value),RepAll c w ms vs→iG ms
 | [],_,_=>trivial
 | m::ms,vs,h=>by
  obtain ⟨v,r,_,h2,h3⟩:=h
  refine ⟨?_,RepAll.facts ms r h3⟩
  by_cases hn:m= .any
  ·subst hn;trivial
  ·cases hg:m.isAgg with
   | true=>rw [cY hg] at h2;obtain ⟨cs,_,q⟩:=h2;exact RepC.facts m _ q
   | false=>rw [aU hg hn] at h2;exact RepC.facts m _ h2
theorem bJ {P:Program} (hmix:P.follows .mixedOrders=true) {f:FuncId} {fn:Func} (hf:P.funcs[f]? =some fn) (spec:aG)
  (hspec:∀ ms p r,spec ms=some (p,r)→p.holds→iG ms→∃ E:Env P,aM E fn ms r.sat)
  (S:Nat→Prop) (w:World) (ms:List MV) (args:Array Value) (p:OProp) (r:MRes) (hs:spec ms=some (p,r)) (hp:p.holds) (hS:∀ b,S b→b<w.heap.size) (hG:GW S w)
  (ha:RepAll (Ctx.args S) w ms args.toList):Calls P f args w fun e w'=>Ext w w'∧r.holds (Ctx.res S) w' e :=
 aL hmix hf (fun m=>some (some (∃ E:Env P,aM E fn m r.sat),r)) (fun m p2 r2 h2 hp2=>by
  simp only [Z1,Z2] at h2
  obtain ⟨rfl,rfl⟩:=h2
  exact hp2) S w ms args _ r rfl (hspec ms p r hs hp (RepAll.facts ms _ ha)) hS hG ha
abbrev aTr (w:World):Base:=⟨w,fun _=>False,fun _ _ _=>False, []⟩
theorem St.start {S:Nat→Prop} {w:World} {ms:List MV} {args:Array Value} {n:Nat} (hS:∀ b,S b→b<w.heap.size) (hG:GW S w) (ha:RepAll (Ctx.args S) w ms args.toList) (hle:ms.length≤n) :
  St S (aTr w) ⟨n,dV 0 ms, [],0⟩ (eO S [] (fun _=>False) (fun _=>0) (fun _=>⟨0,0⟩)) { tmps:=args++Array.replicate (n -args.size) undef,defers:= [] } w:=by
 have hlen:=d6 _ _ ha
 simp only [Array.length_toList] at hlen
 refine ⟨⟨⟨rfl,rfl,Z0 _,fun _ _ _=>rfl,fun _ _=>rfl,rfl,Z0 _⟩,fun b hb=>⟨hS b hb,id⟩,⟨hG,fun _ h=>h⟩,fun b=>Iff.rfl,fun b=>Iff.rfl,fun i j hi=>hi.elim,fun i hi=>hi.elim,fun i b hi=>hi.elim,fun _ _ _ h=>h.elim⟩,fun t=>?_,?_,rfl,fun _ _ _ h=>h.elim⟩
 ·have hk:Keeps (Ctx.args S) (eO S [] (fun _=>False) (fun _=>0) (fun _=>⟨0,0⟩)) w w :=
   ⟨fun b _ hb=>hb.elim id (fun ⟨i,_,hi,_⟩=>hi.elim),fun b _ ⟨i,_,hi,_⟩=>hi.elim,fun _ h=>h.elim,fun _ _ _=>rfl,fun _ _ _=>rfl⟩
  have:=((fD ms args.toList 0 ha t).2 (Z9 _)).keep hk
  rw [Nat.sub_zero] at this
  have e:(args++Array.replicate (n -args.size) undef).getD t undef=args.toList.getD t undef:=by
   simp only [Array.getD_eq_getD_getElem?,Array.getElem?_append,List.getD_eq_getElem?_getD,Array.getElem?_toList]
   split
   ·rfl
   ·rename_i hge
    rw [Array.getElem?_replicate,Array.getElem?_eq_none (by omega:args.size≤t)]
    split <;> rfl
  rw [e]
  exact this
 ·simp;omega
theorem Mem.rebase {S0:Nat→Prop} {w0:Base} {w:World} {bx:List Box} {c:Ctx} (h:Mem S0 w0 bx c w) (pin:Nat→Nat→Sz→Prop) (df:List Deferred) (hp:∀ i b z,pin i b z→c.live i∧c.β i=b∧c.sz i=z) :
  Mem S0 ⟨w0.w,w0.X,pin,df⟩ bx c w :=
 ⟨⟨h.ext.os,h.ext.output,h.ext.size,h.ext.block,h.ext.frz,h.ext.tape,h.ext.dr⟩,h.S0lt,h.gl,h.hS,h.hW,h.inj,h.fresh,h.box,hp⟩
theorem St.defer {S0:Nat→Prop} {w0:Base} {w:World} {s:MS} {c:Ctx} {a:Act} (h:St S0 w0 s c a w) (df:List Deferred):St S0 ⟨w0.w,w0.X,w0.pin,df⟩ s c { a with defers:=df } w :=
 ⟨h.mem.rebase w0.pin df h.mem.pin,h.tm,h.size,rfl,h.np⟩
theorem ExtB.free {b:Base} {w':World} (h:ExtB b w') (hX:∀ k,¬ b.X k):Ext b.w w':=⟨h.os,h.output,h.size,fun k hk=>h.block k hk (hX k),h.frz,h.tape,h.dr⟩
theorem St.results {P:Program} {S0:Nat→Prop} {w0:Base} {w:World} {s:MS} {c:Ctx} {a:Act} (h:St S0 w0 s c a w) {fn:Func} {l:List MV} (he:iA P s fn.results.toList=some (none,l)) :
  ∃ v,(results fn a.tmps).run P w= .ok v w∧Rep (Ctx.res S0) w (nT l) v:=by
 obtain ⟨vs,hvs,hrs⟩:=lB h _ none l he trivial
 refine ⟨_,?_,oW hrs⟩
 rw [i7,Array.mapM_eq_mapM_toList]
 simp only [Sem.run_bind,Sem.run_map,hvs,Result.andThen,Sem.run_pure]
theorem aEk {c:Ctx} {w:World}:∀ (ms:List MV) (cs:List Value),RepCs c w ms cs→(∀ m∈ms,m.isAgg=false)→RepAll c w ms cs
 | [],cs,h,_=>h
 | m::ms,cs,h,hg=>by
  obtain ⟨a,b,rfl,ha,hb⟩:=h
  have hg0:=hg m (by simp)
  have hlen:=RepC.len _ _ ha
  have hnt:∀ ms,m≠ .tup ms:=by intro ms e;subst e;exact ha.elim
  rw [dU hg0 hnt] at hlen
  obtain ⟨v,rfl⟩:=List.length_eq_one_iff.1 hlen
  refine ⟨v,b,rfl,?_,aEk ms b hb fun m hm=>hg m (by simp [hm])⟩
  by_cases hn:m= .any
  ·subst hn;trivial
  ·exact (aU hg0 hn).2 ha
def wv:List Int→Int
 | []=>0
 | x::r=>x+4294967296*wv r
def Wd (l:List Int):Prop:=∀ x∈l,0≤x∧x<4294967296
theorem Wd.tail {x:Int} {l:List Int} (h:Wd (x::l)):Wd l:=fun y hy=>h y (by simp [hy])
theorem Wd.head {x:Int} {l:List Int} (h:Wd (x::l)):0≤x∧x<4294967296:=h x (by simp)
theorem Wd.cons {x:Int} {l:List Int} (h:0≤x∧x<4294967296) (h2:Wd l):Wd (x::l):=fun y hy=>by
 rcases List.mem_cons.1 hy with e|e
 ·subst e;exact h
 ·exact h2 y e
theorem Wd.nil:Wd []:=fun _ h=>by simp at h
theorem Wd.append {a b:List Int} (h:Wd a) (k:Wd b):Wd (a++b):=fun x hx=>(List.mem_append.1 hx).elim (h x) (k x)
theorem Wd.take {l:List Int} (h:Wd l) (n:Nat):Wd (l.take n):=fun x hx=>h x (List.mem_of_mem_take hx)
theorem Wd.drop {l:List Int} (h:Wd l) (n:Nat):Wd (l.drop n):=fun x hx=>h x (List.mem_of_mem_drop hx)
theorem Wd.set {l:List Int} (h:Wd l) (n:Nat) {x:Int} (hx:0≤x∧x<4294967296):Wd (l.set n x):=fun y hy=>by
 rcases List.mem_or_eq_of_mem_set hy with e|e
 ·exact h y e
 ·subst e;exact hx
theorem Wd.replicate (n:Nat):Wd (replicate n 0):=fun x hx=>by
 obtain ⟨_,rfl⟩:=List.mem_replicate.1 hx
 omega
theorem Wd.getD {l:List Int} (h:Wd l) (n:Nat):0≤l.getD n 0∧l.getD n 0<4294967296:=by
 rcases Nat.lt_or_ge n l.length with hl|hl
 ·rw [show l.getD n 0=l[n] by simp [hl]]
  exact h _ (List.getElem_mem _)
 ·rw [show l.getD n 0=0 by simp [List.getElem?_eq_none hl]]
  omega
theorem a8:∀ {l:List Int},Wd l→0≤wv l
 | [],_=>Int.le_refl _
 | x::r,h=>by
  have:=a8 h.tail
  have:=h.head
  simp only [wv];omega
theorem eP:∀ {l:List Int},Wd l→wv l<4294967296^l.length
 | [],_=>by simp [wv]
 | x::r,h=>by
  have:=eP h.tail
  have:=h.head
  simp only [wv,List.length_cons,Int.pow_succ];omega
theorem dR:∀ (a b:List Int),wv (a++b)=wv a+4294967296^a.length*wv b
 | [],b=>by simp [wv]
 | x::r,b=>by
  simp only [List.cons_append,wv,dR r b,List.length_cons,Int.pow_succ]
  generalize (4294967296:Int)^r.length=p
  grind
theorem eZ (n:Nat):wv (replicate n 0)=0:=by
 induction n with
 | zero=>rfl
 | succ n ih=>simp [List.replicate_succ,wv,ih]
theorem jV {n:Nat} (h:n≠0):aA n=((n%4294967296:Nat):Int)::aA (n/4294967296):=by
 rw [aA];simp [h]
theorem aS (n:Nat):Wd (aA n):=by
 induction n using Nat.strongRecOn with
 | ind n ih =>
  by_cases h:n=0
  ·subst h;rw [cJ];exact Wd.nil
  ·rw [jV h]
   exact Wd.cons (by omega) (ih _ (by omega))
theorem iM (n:Nat):wv (aA n)=n:=by
 induction n using Nat.strongRecOn with
 | ind n ih =>
  by_cases h:n=0
  ·subst h;rw [cJ];rfl
  ·rw [jV h,wv,ih _ (by omega)]
   omega
theorem cP {n:Nat}:aA n= []↔n=0:=by
 constructor
 ·intro h
  by_cases e:n=0
  ·exact e
  ·rw [jV e] at h;simp at h
 ·intro h;subst h;exact cJ
theorem aCb:∀ {l:List Int},Wd l→(∀ h:l≠ [],l.getLast h≠0)→aA (wv l).toNat=l
 | [],_,_=>by simp [wv,cJ]
 | x::r,h,hl=>by
  have h0:=a8 h.tail
  have h1:=h.head
  have ih:aA (wv r).toNat=r:=aCb h.tail (fun hr=>by
   have:=hl (by simp)
   rwa [List.getLast_cons hr] at this)
  have hne:(wv (x::r)).toNat≠0:=by
   intro e
   have e:wv (x::r)=0:=by have:=a8 h;omega
   simp only [wv] at e
   have hx:x=0:=by omega
   have hr:wv r=0:=by omega
   rw [hr] at ih
   rw [show (0:Int).toNat=0 from rfl,cJ] at ih
   subst ih
   exact hl (by simp) (by simpa using hx)
  rw [jV hne]
  have e1:(((wv (x::r)).toNat%4294967296:Nat):Int)=x:=by simp only [wv];omega
  have e2:(wv (x::r)).toNat/4294967296=(wv r).toNat:=by simp only [wv];omega
  rw [e1,e2,ih]
theorem aII (n:Nat) (h:aA n≠ []):(aA n).getLast h≠0:=by
 induction n using Nat.strongRecOn with
 | ind n ih =>
  have e:n≠0:=fun e=>h (cP.2 e)
  by_cases e2:n/4294967296=0
  ·have:aA n= [((n%4294967296:Nat):Int)]:=by rw [jV e,e2,cJ]
   have h2:(aA n).getLast h=((n%4294967296:Nat):Int):=by
    simp only [this,List.getLast_singleton]
   rw [h2];omega
  ·have h3:aA (n/4294967296)≠ []:=fun e=>e2 (cP.1 e)
   have h2:(aA n).getLast h=(aA (n/4294967296)).getLast h3:=by
    have:=jV e
    simp only [this,List.getLast_cons h3]
   rw [h2]
   exact ih _ (by omega) h3
theorem nV (k:Nat):(4294967296:Nat)^k=2^(32*k):=by rw [Nat.pow_mul]
theorem dJ {n k:Nat} (h:n<4294967296^k):(aA n).length≤k:=by
 induction k generalizing n with
 | zero =>
  have:n=0:=by simpa using h
  subst this;rw [cJ];simp
 | succ k ih =>
  by_cases e:n=0
  ·subst e;rw [cJ];simp
  ·rw [jV e,List.length_cons]
   have:=ih (n:=n/4294967296) (by rw [Nat.div_lt_iff_lt_mul (by omega)];rwa [Nat.pow_succ] at h)
   omega
theorem vM (n:Nat):n<4294967296^(aA n).length:=by
 have h:=eP (aS n)
 rw [iM] at h
 have e:((4294967296^(aA n).length:Nat):Int)=(4294967296:Int)^(aA n).length:=by simp [Int.natCast_pow]
 omega
theorem dL {n b:Nat} (h:n<2^b):(aA n).length≤b/32+1:=by
 refine dJ (Nat.lt_of_lt_of_le h ?_)
 rw [nV]
 exact Nat.pow_le_pow_right (by omega) (by omega)
def Cn (l:List Int):Prop:=aA (wv l).toNat=l
theorem Cn.wd {l:List Int} (h:Cn l):Wd l:=by unfold Cn at h;rw [← h];exact aS _
theorem aGo (n:Nat):Cn (aA n):=by unfold Cn;rw [iM];simp
theorem Cn.pos {l:List Int} (h:Cn l):0≤wv l:=a8 h.wd
def bl (n:Nat):Nat:=if n=0 then 0 else Nat.log2 n+1
theorem aT0 {n k:Nat} (h:2^k≤n) (h2:n<2^(k+1)):bl n=k+1:=by
 have:n≠0:=by have:=Nat.two_pow_pos k;omega
 unfold bl
 rw [if_neg this]
 congr 1
 exact (Nat.log2_eq_iff this).2 ⟨h,h2⟩
theorem kY (n:Nat):n<2^bl n:=by
 unfold bl
 split
 ·subst_vars;decide
 ·exact Nat.lt_log2_self
theorem aDE {n:Nat} (h:n≠0):2^(bl n -1)≤n:=by
 unfold bl
 rw [if_neg h]
 exact Nat.log2_self_le h
theorem aV3 {n k:Nat} (h:n<2^k) (h2:k≠0→2^(k -1)≤n):bl n=k:=by
 rcases Nat.eq_zero_or_pos k with e|e
 ·subst e;have:n=0:=by simpa using h
  subst this;rfl
 ·have:=aT0 (h2 (by omega)) (by rwa [show k -1+1=k by omega])
  omega
theorem aEI {n k:Nat} (h:n≠0) (r:Nat) (hr:r<2^k):bl (n*2^k+r)=bl n+k:=by
 have h1:=kY n
 have h2:=aDE h
 have h0:bl n≠0:=by unfold bl;rw [if_neg h];omega
 refine aV3 ?_ fun _=>?_
 ·rw [Nat.pow_add]
  have:(n+1)*2^k≤2^bl n*2^k:=Nat.mul_le_mul_right _ h1
  rw [Nat.add_mul] at this
  omega
 ·rw [show bl n+k -1=(bl n -1)+k by omega,Nat.pow_add]
  have:2^(bl n -1)*2^k≤n*2^k:=Nat.mul_le_mul_right _ h2
  omega
theorem aAp:bl 0=0:=rfl
theorem jI {n k:Nat} (h:n<2^k):bl n≤k:=by
 by_cases e:n=0
 ·subst e;rw [aAp];omega
 ·have:=aDE e
  have h2:2^(bl n -1)<2^k:=by omega
  have:=(Nat.pow_lt_pow_iff_right (by omega:1<2)).1 h2
  omega
theorem kR (l:List Int) (k:Nat) (h:k<l.length):wv l=wv (l.take k)+4294967296^k*(l.getD k 0+4294967296*wv (l.drop (k+1))):=by
 have e:l=l.take k++(l.getD k 0::l.drop (k+1)):=by
  rw [show l.getD k 0=l[k] by simp [h],← List.drop_eq_getElem_cons h,List.take_append_drop]
 have e2:=dR (l.take k) (l.getD k 0::l.drop (k+1))
 rw [← e] at e2
 rw [e2,List.length_take,Nat.min_eq_left (by omega)]
 rfl
theorem Cn.top {l:List Int} (h:Cn l) (hne:l≠ []):4294967296^(l.length -1)≤wv l:=by
 have hp:0<l.length:=List.length_pos_iff.2 hne
 have h1:=kR l (l.length -1) (by omega)
 have hd:l.drop (l.length -1+1)= []:=List.drop_eq_nil_of_le (by omega)
 rw [hd] at h1
 have h2:l.getD (l.length -1) 0≠0:=by
  have:=aII (wv l).toNat (by unfold Cn at h;rw [h];exact hne)
  have e:∀ (m:List Int) (hm:m≠ []),m.getLast hm=m.getD (m.length -1) 0:=fun m hm=>by
   have hl:m.length -1<m.length:=by have:=List.length_pos_iff.2 hm;omega
   rw [List.getLast_eq_getElem,List.getD_eq_getElem?_getD,List.getElem?_eq_getElem hl,Option.getD_some]
  rw [e] at this
  unfold Cn at h
  rwa [h] at this
 have h3:=h.wd.getD (l.length -1)
 have h4:=a8 (h.wd.take (l.length -1))
 have h5:(0:Int)≤4294967296^(l.length -1):=Int.pow_nonneg (by omega)
 simp only [wv] at h1
 have h6:(4294967296:Int)^(l.length -1)*1≤4294967296^(l.length -1)*(l.getD (l.length -1) 0+4294967296*0):=Z7 (by omega) h5
 omega
theorem jO {a b:List Int} (ha:Wd a) (hb:Cn b) (h:a.length<b.length):wv a<wv b:=by
 have h1:=eP ha
 have h2:=hb.top (by intro e;subst e;simp at h)
 have h3:(4294967296:Int)^a.length≤4294967296^(b.length -1):=by
  have:=Nat.pow_le_pow_right (show 0<4294967296 by omega) (show a.length≤b.length -1 by omega)
  have e:∀ k:Nat,((4294967296^k:Nat):Int)=(4294967296:Int)^k:=fun k=>by simp [Int.natCast_pow]
  rw [← e,← e]
  exact Int.ofNat_le.2 this
 omega
theorem aPt {l:List Int} {i:Nat} (v:Int) (h:i<l.length):(l.set i v).take (i+1)=l.take i++ [v]:=by
 rw [List.take_add_one]
 simp [h,List.take_set_of_le]
theorem gE {l:List Int} {i:Nat} (v:Int):(l.set i v).drop (i+1)=l.drop (i+1):=by
 rw [List.drop_set_of_lt (by omega)]
theorem bE (l:List Int) (k:Nat):wv (l.take (k+1))=wv (l.take k)+4294967296^k*l.getD k 0:=by
 rcases Nat.lt_or_ge k l.length with h|h
 ·rw [List.take_add_one,dR,List.length_take,Nat.min_eq_left (by omega)]
  simp [h,wv]
 ·rw [List.take_of_length_le (by omega),List.take_of_length_le (by omega)]
  simp [List.getElem?_eq_none h]
theorem g5 {l:List Int} {i:Nat} (v:Int) (h:i<l.length):wv ((l.set i v).take (i+1))=wv (l.take i)+4294967296^i*v:=by
 rw [aPt v h,dR,List.length_take,Nat.min_eq_left (by omega)]
 simp [wv]
theorem cM {l:List Int} {k:Nat} (h:l.length≤k):wv (l.take k)=wv l:=by rw [List.take_of_length_le h]
theorem eW {l m:List Int} {k:Nat} (h:l.drop k=m.drop k) (j:Nat) (hj:k≤j):l.getD j 0=m.getD j 0:=by
 have:(l.drop k)[j -k]? =(m.drop k)[j -k]? :=by rw [h]
 rw [List.getElem?_drop,List.getElem?_drop,show k+(j -k)=j by omega] at this
 simp [List.getD_eq_getElem?_getD,this]
theorem dW {l m:List Int} {k:Nat} (h:l.drop k=m.drop k):l.drop (k+1)=m.drop (k+1):=by
 have:(l.drop k).drop 1=(m.drop k).drop 1:=by rw [h]
 simpa [List.drop_drop] using this
theorem iW (P t:Int):P*t=P*(t%4294967296)+P*4294967296*(t/4294967296):=by
 rw [Int.mul_assoc,← Int.mul_add]
 congr 1;omega
theorem aLC {c:Prop} [Decidable c] {p q r p' q' r' s:Prop} (h1:c→p∧q∧r) (h2:¬ c→p'∧q'∧r') (hs:s):if c then p∧q∧r∧s else p'∧q'∧r'∧s:=by
 split
 ·rename_i h;obtain ⟨x,y,z⟩:=h1 h;exact ⟨x,y,z,hs⟩
 ·rename_i h;obtain ⟨x,y,z⟩:=h2 h;exact ⟨x,y,z,hs⟩
abbrev aE (a b:Int) (n m:Nat):Prop:=a=b∧(n≤m∨natAbs a<(2:Nat)^m)
abbrev eH (z:Int):Prop:=(-9223372036854775808:Int)≤z∧z≤(9223372036854775807:Int)
theorem cK:Tryz.prog.follows .mixedOrders=true:=by kernel_rfl
def aW (Γ:List (Ctr Tryz.prog)) (ann:Nat→MS→Option LoopAnn):Env Tryz.prog:=⟨Γ, [],34,ann,fun _=> [],fun _ _=>none⟩
def bF (fn:Func) (s:aG):Prop:=∀ ms p r,s ms=some (p,r)→p.holds→∃ E:Env Tryz.prog,aM E fn ms r.sat
def aD:Nat→MS→Option LoopAnn:=fun _ _=>none
def rB:aG
 | [.ws l]=>some (some (Wd l∧l.length≤1099511627776),.ret (.ws (aA (wv l).toNat)))
 | _=>none
def aTX (l:List Int):Nat→MS→Option LoopAnn
 | 1,_=>some (.inv Nat (fun k=>k≤l.length∧wv (l.take k)=wv l) (fun k=>⟨21, [(0,.ws (l.take k))], [],0⟩) id)
 | _,_=>none
theorem aTe (l:List Int):((∃ i,(i≤length l∧wv (take i l)=wv l)∧(l=take i l∧True)∧True)∧∀ (i:Nat),i≤length l∧wv (take i l)=wv l→bif decide ((length (take i l):Int)>0) then (0≤wrap i64 ((length (take i l):Int) -1)∧wrap i64 ((length (take i l):Int) -1)<(length (take i l):Int))∧bif getD (take i l) (toNat (wrap i64 ((length (take i l):Int) -1))) 0==0 then (0≤wrap i64 ((length (take i l):Int) -1)∧wrap i64 ((length (take i l):Int) -1)≤(length (take i l):Int))∧∃ j,(j≤length l∧wv (take j l)=wv l)∧((take (toNat (wrap i64 ((length (take i l):Int) -1))) (take i l)=take j l∧True)∧True)∧id j<id i else take i l=aA (toNat (wv l)) else take i l=aA (toNat (wv l)))=aM (aW [] (aTX l)) Tryz.f142 [.ws l] (MRes.sat (.ret (.ws (aA (wv l).toNat)))):=by kernel_rfl
theorem bC {x:Int} (h: -9223372036854775808≤x) (k:x≤9223372036854775807):i64.wrap x=x:=IntWalk.i64_in x ⟨h,k⟩
theorem aEr {l:List Int} {i:Nat} (h:i<l.length):l.take (i+1)=l.take i++ [l.getD i 0]:=by
 rw [List.take_add_one]
 simp [h]
theorem aVg:bF Tryz.f142 rB:=by
 intro ms p r h hp
 unfold rB at h
 split at h
 ·rename_i l
  cases h
  obtain ⟨hw,hlen⟩:=hp
  refine ⟨_,cast (aTe l) ⟨⟨l.length,⟨Z0 _,by rw [List.take_length]⟩,⟨by rw [List.take_length],trivial⟩,trivial⟩,fun i ⟨hi,hv⟩=>?_⟩⟩
  have hl:(l.take i).length=i:=by simp [hi]
  have hlim:i=0∨(l.take i).getLast?≠some 0→l.take i=aA (wv l).toNat:=by
   intro h
   rw [← hv]
   refine (aCb (hw.take i) fun hne e=>?_).symm
   rcases h with h|h
   ·subst h;exact hne rfl
   ·exact h (by rw [List.getLast?_eq_some_getLast hne,e])
  rw [hl,Bool.cond_decide]
  split
  ·rename_i h0
   have hi1:i -1<l.length:=by omega
   have e1:i64.wrap ((i:Int) -1)=i -1:=bC (by omega) (by omega)
   have e2:((i:Int) -1).toNat=i -1:=by omega
   rw [e1,e2]
   have hs:l.take i=l.take (i -1)++ [l.getD (i -1) 0]:=by
    have:=aEr hi1
    rwa [show i -1+1=i by omega] at this
   have hg:(l.take i).getD (i -1) 0=l.getD (i -1) 0:=by
    simp [show i -1<i by omega]
   rw [hg]
   refine ⟨by omega,?_⟩
   cases hz:(l.getD (i -1) 0==0) with
   | true =>
    simp only [beq_iff_eq] at hz
    rw [hz] at hs
    refine ⟨by omega,i -1,⟨by omega,?_⟩,⟨⟨?_,trivial⟩,trivial⟩,by show i -1<i;omega⟩
    ·rw [← hv,hs,dR];simp [wv]
    ·rw [List.take_take];congr 1;omega
   | false =>
    rw [Z5]
    refine hlim (.inr ?_)
    rw [hs]
    simpa using hz
  ·exact hlim (.inl (by omega))
 ·simp at h
def iV:Ctr Tryz.prog:=⟨142,rB,fun args w=>Tryz.call142 args w,aL cK Tryz.func142 rB aVg⟩
theorem j3 (x:Int):u32.wrap x=x%4294967296:=by simp [wrap,IntKind.bits,IntKind.signed]
theorem s6 (x:Int):u64.wrap x=x%18446744073709551616:=by simp [wrap,IntKind.bits,IntKind.signed]
theorem u8w (x:Int):u8.wrap x=x%256:=by simp [wrap,IntKind.bits,IntKind.signed]
def aAJ:aG
 | [.int .u32 x,.int .u32 y,.int .u32 c]=>some (some (0≤x∧x<4294967296∧0≤y∧y<4294967296∧0≤c∧c≤1),.ret (.tup [.int .u32 ((x+y+c)%4294967296),.int .u32 ((x+y+c)/4294967296)]))
 | _=>none
theorem aPC (x y c:Int):((0:Int)≤32∧wrap u32 (wrap u64 (wrap u64 (wrap u64 x+wrap u64 y)+wrap u64 c))=(x+y+c)%4294967296∧wrap u32 (Int.fdiv (wrap u64 (wrap u64 (wrap u64 x+wrap u64 y)+wrap u64 c)) ((2:Int)^min (toNat 32) (IntKind.bits u64)))=(x+y+c)/4294967296∧True)=aM (aW [] aD) Tryz.f174 [.int .u32 x,.int .u32 y,.int .u32 c] (MRes.sat (.ret (.tup [.int .u32 ((x+y+c)%4294967296),.int .u32 ((x+y+c)/4294967296)]))):=by kernel_rfl
def aBb:aG
 | [.int .u32 x,.int .u32 y,.int .u32 c]=>some (some (0≤x∧x<4294967296∧0≤y∧y<4294967296∧0≤c∧c≤1),.ret (.tup [.int .u32 ((x -y -c)%4294967296),.int .u32 (if x<y+c then 1 else 0)]))
 | _=>none
theorem p32:((2:Int)^min (toNat 32) (IntKind.bits u64))=4294967296:=by decide +kernel
theorem p31:((2:Int)^min (toNat 31) (IntKind.bits u32))=2147483648:=by decide +kernel
theorem aRn:bF Tryz.f174 aAJ:=by
 intro ms p r h hp
 unfold aAJ at h
 split at h
 ·rename_i x y c
  cases h
  obtain ⟨h1,h2,h3,h4,h5,h6⟩:=hp
  refine ⟨aW [] aD,?_⟩
  rw [← aPC x y c]
  rw [p32,Int.fdiv_eq_ediv_of_nonneg _ (by omega)]
  simp only [j3,s6]
  have e:(((x%18446744073709551616+y%18446744073709551616)%18446744073709551616+c%18446744073709551616)%18446744073709551616)=x+y+c:=by omega
  rw [e]
  refine ⟨by omega,rfl,?_,trivial⟩
  omega
 ·simp at h
def aEJ:Ctr Tryz.prog:=⟨174,aAJ,fun args w=>Tryz.call174 args w,aL cK Tryz.func174 aAJ aRn⟩
theorem aMU (z:BitVec (IntKind.bits u32)):((z.toNat:Int)%4294967296).fdiv 2147483648=if z.msb then 1 else 0:=by
 rw [Int.fdiv_eq_ediv_of_nonneg _ (by omega),BitVec.msb_eq_decide]
 have:z.toNat<4294967296:=z.isLt
 show _=if decide (2147483648≤z.toNat)=true then _ else _
 simp only [decide_eq_true_eq]
 split <;> omega
theorem aOg (z:BitVec (IntKind.bits u32)):BitVec.ofInt (IntKind.bits u32) ((z.toNat:Int)%4294967296)=z:=by
 apply BitVec.eq_of_toNat_eq
 have:z.toNat<4294967296:=z.isLt
 rw [BitVec.toNat_ofInt]
 show ((z.toNat:Int)%4294967296%4294967296).toNat=z.toNat
 omega
theorem aOh {x:Int} (h:0≤x) (k:x<4294967296):((BitVec.ofInt 32 x).toNat:Int)=x:=by
 rw [BitVec.toNat_ofInt]
 show (((x%4294967296).toNat:Nat):Int)=x
 omega
theorem aQa (x y c:Int):((0:Int)≤31∧wrap u32 (wrap u32 (x -y) -c)=(x -y -c)%4294967296∧(Int.fdiv (wrap u32 (BitVec.toNat (BitVec.ofInt (IntKind.bits u32) (wrap u32 (BitVec.toNat (BitVec.ofInt (IntKind.bits u32) (wrap u32 (BitVec.toNat (BitVec.ofInt (IntKind.bits u32) (if IntKind.signed u32=true then (-1:Int) else IntKind.max u32) ^^^ BitVec.ofInt (IntKind.bits u32) x):Int)) &&&BitVec.ofInt (IntKind.bits u32) y):Int)) ||| BitVec.ofInt (IntKind.bits u32) (wrap u32 (BitVec.toNat (BitVec.ofInt (IntKind.bits u32) (wrap u32 (BitVec.toNat (BitVec.ofInt (IntKind.bits u32) (if IntKind.signed u32=true then (-1:Int) else IntKind.max u32) ^^^ BitVec.ofInt (IntKind.bits u32) (wrap u32 (BitVec.toNat (BitVec.ofInt (IntKind.bits u32) x ^^^ BitVec.ofInt (IntKind.bits u32) y):Int))):Int)) &&&BitVec.ofInt (IntKind.bits u32) (wrap u32 (wrap u32 (x -y) -c))):Int))):Int)) ((2:Int)^min (toNat 31) (IntKind.bits u32))=if x<y+c then (1:Int) else (0:Int))∧True)=aM (aW [] aD) Tryz.f173 [.int .u32 x,.int .u32 y,.int .u32 c] (MRes.sat (.ret (.tup [.int .u32 ((x -y -c)%4294967296),.int .u32 (if x<y+c then 1 else 0)]))):=by kernel_rfl
theorem aRU:bF Tryz.f173 aBb:=by
 intro ms p r h hp
 unfold aBb at h
 split at h
 ·rename_i x y c
  cases h
  obtain ⟨h1,h2,h3,h4,h5,h6⟩:=hp
  refine ⟨_,cast (aQa x y c) ?_⟩
  rw [p31,
   show (if IntKind.signed u32=true then (-1:Int) else IntKind.max u32)=4294967295 from rfl]
  simp only [j3,aOg]
  refine ⟨by omega,by omega,?_,trivial⟩
  rw [aMU]
  simp only [BitVec.msb_or,BitVec.msb_and,BitVec.msb_xor]
  have m:∀ t:Int,0≤t→t<4294967296→(BitVec.ofInt (IntKind.bits u32) t).msb=decide (2147483648≤t):=fun t q1 q2=>by
   rw [BitVec.msb_eq_decide]
   have:=aOh q1 q2
   show decide (2147483648≤(BitVec.ofInt 32 t).toNat)=_
   rw [decide_eq_decide];omega
  rw [m x h1 h2,m y h3 h4,m 4294967295 (by omega) (by omega),m _ (by omega) (by omega)]
  by_cases q1:2147483648≤x <;> by_cases q2:2147483648≤y <;> by_cases q3:2147483648≤((x -y)%4294967296 -c)%4294967296 <;> simp [q1,q2] <;> omega
 ·simp at h
def aEO:Ctr Tryz.prog:=⟨173,aBb,fun args w=>Tryz.call173 args w,aL cK Tryz.func173 aBb aRU⟩
def aQ (a b:Int):Int:=if a<b then -1 else if a=b then 0 else 1
def aFu:aG
 | [.int .i64 _]=>some (none,.ret (.bool false))
 | _=>none
def aFv:aG
 | [.int .u32 _]=>some (none,.ret (.bool false))
 | _=>none
theorem aSQ (x:Int):((x != x)=false)=aM (aW [] aD) Tryz.f143 [.int .i64 x] (MRes.sat (.ret (.bool false))):=by kernel_rfl
theorem aSR (x:Int):((x != x)=false)=aM (aW [] aD) Tryz.f189 [.int .u32 x] (MRes.sat (.ret (.bool false))):=by kernel_rfl
theorem aUR:bF Tryz.f143 aFu:=by
 intro ms p r h hp
 unfold aFu at h
 split at h
 ·rename_i x
  cases h
  exact ⟨_,cast (aSQ x) (by simp)⟩
 ·simp at h
theorem aUS:bF Tryz.f189 aFv:=by
 intro ms p r h hp
 unfold aFv at h
 split at h
 ·rename_i x
  cases h
  exact ⟨_,cast (aSR x) (by simp)⟩
 ·simp at h
def aT3:Ctr Tryz.prog:=⟨143,aFu,fun args w=>Tryz.call143 args w,aL cK Tryz.func143 aFu aUR⟩
def aT4:Ctr Tryz.prog:=⟨189,aFv,fun args w=>Tryz.call189 args w,aL cK Tryz.func189 aFv aUS⟩
def aFj:aG
 | [.int .i64 a,.int .i64 b]=>some (none,.ret (.int .i64 (aQ a b)))
 | _=>none
def aFk:aG
 | [.int .u32 a,.int .u32 b]=>some (none,.ret (.int .i64 (aQ a b)))
 | _=>none
theorem aSA (a b:Int):(bif decide (a<b) then (-1)=aQ a b else bif decide (a>b) then 1=aQ a b else 0=aQ a b)=aM (aW [aT3] aD) Tryz.f103 [.int .i64 a,.int .i64 b] (MRes.sat (.ret (.int .i64 (aQ a b)))):=by kernel_rfl
theorem aSB (a b:Int):(bif decide (a<b) then (-1)=aQ a b else bif decide (a>b) then 1=aQ a b else 0=aQ a b)=aM (aW [aT4] aD) Tryz.f144 [.int .u32 a,.int .u32 b] (MRes.sat (.ret (.int .i64 (aQ a b)))):=by kernel_rfl
theorem aUC:bF Tryz.f103 aFj:=by
 intro ms p r h hp
 unfold aFj at h
 split at h
 ·rename_i a b
  cases h
  refine ⟨_,cast (aSA a b) ?_⟩
  unfold aQ
  simp only [Bool.cond_decide]
  split <;> (try split) <;> (try split) <;> omega
 ·simp at h
theorem aUD:bF Tryz.f144 aFk:=by
 intro ms p r h hp
 unfold aFk at h
 split at h
 ·rename_i a b
  cases h
  refine ⟨_,cast (aSB a b) ?_⟩
  unfold aQ
  simp only [Bool.cond_decide]
  split <;> (try split) <;> (try split) <;> omega
 ·simp at h
def aEK:Ctr Tryz.prog:=⟨103,aFj,fun args w=>Tryz.call103 args w,aL cK Tryz.func103 aFj aUC⟩
def aM1:Ctr Tryz.prog:=⟨144,aFk,fun args w=>Tryz.call144 args w,aL cK Tryz.func144 aFk aUD⟩
def two (a b:Int) (j:Nat):MV:= .int .i64 (if j=0 then a else b)
theorem aWW (a b:Int):(((0:Int)≤0∧(0:Int)<(↑(2:Nat):Int))∧bif (if toNat 0=0 then a else b) != 0 then (if toNat 0=0 then a else b)=if a=0 then b else a else (0≤wrap i64 ((0:Int)+1)∧wrap i64 ((0:Int)+1)<(↑(2:Nat):Int))∧bif (if toNat (wrap i64 ((0:Int)+1))=0 then a else b) != 0 then (if toNat (wrap i64 ((0:Int)+1))=0 then a else b)=if a=0 then b else a else 0=if a=0 then b else a)=aM (aW [] (fun|3,_=>some (.unroll 3)|_,_=>none)) Tryz.f64 [.sl 1 2 (two a b)] (MRes.sat (.ret (.int .i64 (if a=0 then b else a)))):=by kernel_rfl
def aSj:aG
 | [.sl 1 2 f]=>(match f 0,f 1 with
  | .int .i64 a,.int .i64 b=>some (none,.ret (.int .i64 (if a=0 then b else a)))
  | _,_=>none)
 | _=>none
theorem aXt:∀ ms p r,aSj ms=some (p,r)→p.holds→∃ ms',leV.leVs 0 ms ms'∧∃ E:Env Tryz.prog,aM E Tryz.f64 ms' r.sat:=by
 intro ms p r h hp
 unfold aSj at h
 split at h
 ·rename_i f
  split at h
  ·rename_i a b h0 h1
   cases h
   refine ⟨[.sl 1 2 (two a b)],⟨⟨rfl,rfl,LeFun.of_le fun i hi=>?_⟩,trivial⟩,aW [] (fun|3,_=>some (.unroll 3)|_,_=>none),?_⟩
   ·have:i=0∨i=1:=by omega
    rcases this with rfl|rfl
    ·rw [h0];simp [two,fC]
    ·rw [h1];simp [two,fC]
   ·rw [← aWW a b]
    have e:i64.wrap ((0:Int)+1)=1:=by decide +kernel
    rw [e]
    by_cases ha:a=0 <;> by_cases hb:b=0 <;> simp [ha,hb]
  ·simp at h
 ·simp at h
def aLd:Ctr Tryz.prog:=⟨64,aSj,fun args w=>Tryz.call64 args w,qI cK Tryz.func64 aSj aXt⟩
def aAR:aG
 | [.int .u32 x]=>some (some (0≤x∧x<4294967296),.ret (.int .i64 (bl x.toNat)))
 | _=>none
def iR:ByteArray:=⟨((List.range 256).map fun n=>UInt8.ofNat (bl n)).toArray⟩
theorem aLG:iR.size=256:=by decide +kernel
theorem aJ3 {i:Nat} (h:i<256):lV iR i=bl i:=by
 have h8:i<2^8:=h
 have hb:bl i≤8:=jI h8
 have hl:i<((List.range 256).map fun n=>UInt8.ofNat (bl n)).length:=by simpa using h
 unfold lV iR
 simp only [List.getD_eq_getElem?_getD,List.getElem?_eq_getElem hl,Option.getD_some,List.getElem_map,List.getElem_range,UInt8.toNat_ofNat']
 omega
theorem aPK (x:Int):(bif decide (x≥65536) then (0:Int)≤16∧bif decide (Int.fdiv x ((2:Int)^min (toNat 16) (IntKind.bits u32))≥256) then (0:Int)≤8∧(0≤wrap u8 (Int.fdiv (Int.fdiv x ((2:Int)^min (toNat 16) (IntKind.bits u32))) ((2:Int)^min (toNat 8) (IntKind.bits u32)))∧wrap u8 (Int.fdiv (Int.fdiv x ((2:Int)^min (toNat 16) (IntKind.bits u32))) ((2:Int)^min (toNat 8) (IntKind.bits u32)))<(ByteArray.size iR:Int))∧wrap i64 (wrap i64 ((16:Int)+8)+wrap i64 (lV iR (toNat (wrap u8 (Int.fdiv (Int.fdiv x ((2:Int)^min (toNat 16) (IntKind.bits u32))) ((2:Int)^min (toNat 8) (IntKind.bits u32)))))))=(bl (toNat x):Int) else (0≤wrap u8 (Int.fdiv x ((2:Int)^min (toNat 16) (IntKind.bits u32)))∧wrap u8 (Int.fdiv x ((2:Int)^min (toNat 16) (IntKind.bits u32)))<(ByteArray.size iR:Int))∧wrap i64 (16+wrap i64 (lV iR (toNat (wrap u8 (Int.fdiv x ((2:Int)^min (toNat 16) (IntKind.bits u32)))))))=(bl (toNat x):Int) else bif decide (x≥256) then (0:Int)≤8∧(0≤wrap u8 (Int.fdiv x ((2:Int)^min (toNat 8) (IntKind.bits u32)))∧wrap u8 (Int.fdiv x ((2:Int)^min (toNat 8) (IntKind.bits u32)))<(ByteArray.size iR:Int))∧wrap i64 (wrap i64 ((0:Int)+8)+wrap i64 (lV iR (toNat (wrap u8 (Int.fdiv x ((2:Int)^min (toNat 8) (IntKind.bits u32)))))))=(bl (toNat x):Int) else (0≤wrap u8 x∧wrap u8 x<(ByteArray.size iR:Int))∧wrap i64 (0+wrap i64 (lV iR (toNat (wrap u8 x))))=(bl (toNat x):Int))=aM (aW [] aD) Tryz.f162 [.int .u32 x] (MRes.sat (.ret (.int .i64 (bl x.toNat)))):=by kernel_rfl
theorem aXr:((2:Int)^min (toNat 16) (IntKind.bits u32))=65536:=by decide +kernel
theorem p8u:((2:Int)^min (toNat 8) (IntKind.bits u32))=256:=by decide +kernel
theorem w24:i64.wrap ((16:Int)+8)=24:=by decide +kernel
theorem w8:i64.wrap ((0:Int)+8)=8:=by decide +kernel
theorem bl8 {n:Nat} (h:n<256):bl n≤8:=jI (show n<2^8 by omega)
theorem aTZ {n:Nat} (h:n<4294967296):bl n≤32:=jI (show n<2^32 by omega)
theorem vK {x:Int} {z k:Nat} (hz:z<256) (h0:z≠0) (hk:k≤24) (h:∃ r,x.toNat=z*2^k+r∧r<2^k):i64.wrap ((k:Int)+i64.wrap (lV iR z))=(bl x.toNat:Int):=by
 obtain ⟨r,h1,h2⟩:=h
 rw [h1,aEI h0 r h2,aJ3 hz]
 have:=bl8 hz
 have e1:i64.wrap (bl z:Int)=bl z:=bC (by omega) (by omega)
 rw [e1,bC (by omega) (by omega)]
 omega
theorem aRv:bF Tryz.f162 aAR:=by
 intro ms p r h hp
 unfold aAR at h
 split at h
 ·rename_i x
  cases h
  obtain ⟨h1,h2⟩:=hp
  refine ⟨aW [] aD,?_⟩
  rw [← aPK x,aXr,p8u,aLG,w24,w8]
  simp only [u8w,Int.fdiv_eq_ediv_of_nonneg _ (show (0:Int)≤65536 by omega),Int.fdiv_eq_ediv_of_nonneg _ (show (0:Int)≤256 by omega),Bool.cond_decide]
  split
  ·refine ⟨by omega,?_⟩
   split
   ·refine ⟨by omega,by omega,?_⟩
    exact vK (z:=(x/65536/256%256).toNat) (k:=24) (by omega) (by omega) (by omega) ⟨(x%16777216).toNat,by omega,by omega⟩
   ·refine ⟨by omega,?_⟩
    exact vK (z:=(x/65536%256).toNat) (k:=16) (by omega) (by omega) (by omega) ⟨(x%65536).toNat,by omega,by omega⟩
  ·split
   ·refine ⟨by omega,by omega,?_⟩
    exact vK (z:=(x/256%256).toNat) (k:=8) (by omega) (by omega) (by omega) ⟨(x%256).toNat,by omega,by omega⟩
   ·refine ⟨by omega,?_⟩
    by_cases e:x=0
    ·subst e
     have:((0:Int)%256).toNat=0:=by omega
     rw [this,aJ3 (by omega),aAp]
     decide +kernel
    ·exact vK (z:=(x%256).toNat) (k:=0) (by omega) (by omega) (by omega) ⟨0,by omega,by omega⟩
 ·simp at h
def aAs:Ctr Tryz.prog:=⟨162,aAR,fun args w=>Tryz.call162 args w,aL cK Tryz.func162 aAR aRv⟩
theorem aSO (x:Int):((0≤x∧x<4294967296)∧wrap i64 (32 -(bl (toNat x):Int))=32 -(bl (toNat x):Int))=aM (aW [aAs] aD) Tryz.f171 [.int .u32 x] (MRes.sat (.ret (.int .i64 (32 -bl x.toNat)))):=by kernel_rfl
def aFs:aG
 | [.int .u32 x]=>some (some (0≤x∧x<4294967296),.ret (.int .i64 (32 -bl x.toNat)))
 | _=>none
theorem aUP:bF Tryz.f171 aFs:=by
 intro ms p r h hp
 unfold aFs at h
 split at h
 ·rename_i x
  cases h
  have hp:0≤x∧x<4294967296:=hp
  refine ⟨aW [aAs] aD,?_⟩
  rw [← aSO x]
  have:=aTZ (n:=x.toNat) (by omega)
  exact ⟨hp,bC (by omega) (by omega)⟩
 ·simp at h
def aT2:Ctr Tryz.prog:=⟨171,aFs,fun args w=>Tryz.call171 args w,aL cK Tryz.func171 aFs aUP⟩
theorem r5 {a b:Int}:aQ a b=0↔a=b:=by unfold aQ;split <;> (try split) <;> omega
theorem rY {a b:Int} (h:a<b):aQ a b= -1:=by unfold aQ;rw [if_pos h]
theorem rX {a b:Int} (h:b<a):aQ a b=1:=by unfold aQ;rw [if_neg (by omega),if_neg (by omega)]
theorem rZ {a:Int}:aQ a a=0:=r5.2 rfl
theorem sU {a b:List Int} {k:Nat} (ha:Wd a) (hb:Wd b) (hka:k<a.length) (hkb:k<b.length) (hd:a.drop (k+1)=b.drop (k+1)) (h:a.getD k 0<b.getD k 0):wv a<wv b:=by
 rw [kR a k hka,kR b k hkb,hd]
 have h1:=eP (ha.take k)
 have h2:=a8 (hb.take k)
 rw [List.length_take,Nat.min_eq_left (by omega)] at h1
 have h5:(0:Int)≤4294967296^k:=Int.pow_nonneg (by omega)
 generalize hP:(4294967296:Int)^k=P at *
 generalize wv (b.drop (k+1))=t
 have h6:P*(a.getD k 0+4294967296*t+1)≤P*(b.getD k 0+4294967296*t):=Z7 (by omega) h5
 rw [Int.mul_add P _ 1] at h6
 omega
def q9:aG
 | [.ws a,.ws b]=>some (some (Cn a∧Cn b∧a.length≤1099511627776∧b.length≤1099511627776),.ret (.int .i64 (aQ (wv a) (wv b))))
 | _=>none
def aMI (a b:List Int):Nat→MS→Option LoopAnn
 | 5,_=>some (.inv Nat (fun k=>k≤a.length∧a.drop k=b.drop k) (fun k=>⟨35, [(0,.ws a),(1,.ws b),(6,.int .i64 ((k:Int) -1))], [],0⟩) id)
 | _,_=>none
theorem aSS (a b:List Int):(bif aQ (length a:Int) (length b:Int) != 0 then aQ (length a:Int) (length b:Int)=aQ (wv a) (wv b) else (∃ i,(i≤length a∧drop i a=drop i b)∧(a=a∧b=b∧wrap i64 ((length a:Int) -1)=(i:Int) -1∧True)∧True)∧∀ (i:Nat),i≤length a∧drop i a=drop i b→bif decide ((i:Int) -1≥0) then (0≤(i:Int) -1∧(i:Int) -1<(length a:Int))∧(0≤(i:Int) -1∧(i:Int) -1<(length b:Int))∧bif aQ (getD a (toNat ((i:Int) -1)) 0) (getD b (toNat ((i:Int) -1)) 0) != 0 then aQ (getD a (toNat ((i:Int) -1)) 0) (getD b (toNat ((i:Int) -1)) 0)=aQ (wv a) (wv b) else ∃ j,(j≤length a∧drop j a=drop j b)∧((a=a∧b=b∧wrap i64 ((i:Int) -1 -1)=(j:Int) -1∧True)∧True)∧id j<id i else 0=aQ (wv a) (wv b))=aM (aW [aEK,aM1] (aMI a b)) Tryz.f104 [.ws a,.ws b] (MRes.sat (.ret (.int .i64 (aQ (wv a) (wv b))))):=by kernel_rfl
def aAT:aG
 | [.ws a]=>some (some (Cn a∧a.length≤1099511627776),.ret (.int .i64 (bl (wv a).toNat)))
 | _=>none
theorem aUT:bF Tryz.f104 q9:=by
 intro ms p r h hp
 unfold q9 at h
 split at h
 ·rename_i a b
  cases h
  obtain ⟨ha,hb,la,lb⟩:=hp
  refine ⟨aW [aEK,aM1] (aMI a b),?_⟩
  rw [← aSS a b]
  cases hc:(aQ (a.length:Int) (b.length:Int) != 0) with
  | true =>
   rw [Z6]
   have hne:(a.length:Int)≠b.length:=fun e=>by rw [e,rZ] at hc;simp at hc
   rcases Nat.lt_or_ge a.length b.length with h|h
   ·rw [rY (by omega),rY (jO ha.wd hb h)]
   ·rw [rX (by omega),rX (jO hb.wd ha (by omega))]
  | false =>
   rw [Z5]
   have heq:a.length=b.length:=by
    have:aQ (a.length:Int) (b.length:Int)=0:=by simpa using hc
    have:=r5.1 this
    omega
   refine ⟨⟨a.length,⟨Z0 _,by rw [List.drop_length,heq,List.drop_length]⟩,⟨rfl,rfl,bC (by omega) (by omega),trivial⟩,trivial⟩,fun i ⟨hi,hd⟩=>?_⟩
   rw [Bool.cond_decide]
   split
   ·rename_i h0
    have e2:((i:Int) -1).toNat=i -1:=by omega
    rw [e2]
    refine ⟨by omega,by omega,?_⟩
    have hd':a.drop (i -1+1)=b.drop (i -1+1):=by rw [show i -1+1=i by omega];exact hd
    cases hc2:(aQ (a.getD (i -1) 0) (b.getD (i -1) 0) != 0) with
    | true =>
     rw [Z6]
     have hne:a.getD (i -1) 0≠b.getD (i -1) 0:=fun e=>by rw [e,rZ] at hc2;simp at hc2
     rcases Int.lt_or_gt_of_ne hne with h|h
     ·rw [rY h,rY (sU ha.wd hb.wd (by omega) (by omega) hd' h)]
     ·rw [rX h,rX (sU hb.wd ha.wd (by omega) (by omega) hd'.symm h)]
    | false =>
     rw [Z5]
     have he:a.getD (i -1) 0=b.getD (i -1) 0:=r5.1 (by simpa using hc2)
     refine ⟨i -1,⟨by omega,?_⟩,⟨⟨rfl,rfl,?_,trivial⟩,trivial⟩,by show i -1<i;omega⟩
     ·have ea:a.drop (i -1)=a.getD (i -1) 0::a.drop (i -1+1):=by
       rw [show a.getD (i - 1) 0 = a[i - 1]'(by omega) by simp [show i - 1 < a.length by omega]]; exact List.drop_eq_getElem_cons _
      have eb:b.drop (i -1)=b.getD (i -1) 0::b.drop (i -1+1):=by
       rw [show b.getD (i - 1) 0 = b[i - 1]'(by omega) by simp [show i - 1 < b.length by omega]]; exact List.drop_eq_getElem_cons _
      rw [ea,eb,he,hd']
     ·rw [bC (by omega) (by omega)];omega
   ·have:i=0:=by omega
    subst this
    rw [List.drop_zero,List.drop_zero] at hd
    rw [hd,rZ]
 ·simp at h
def aBw:Ctr Tryz.prog:=⟨104,q9,fun args w=>Tryz.call104 args w,aL cK Tryz.func104 q9 aUT⟩
theorem aPM (a:List Int):(bif (length a:Int)==0 then 0=(bl (toNat (wv a)):Int) else (0≤wrap i64 ((length a:Int) -1)∧wrap i64 ((length a:Int) -1)<(length a:Int))∧(0≤getD a (toNat (wrap i64 ((length a:Int) -1))) 0∧getD a (toNat (wrap i64 ((length a:Int) -1))) 0<4294967296)∧wrap i64 (wrap i64 (32*wrap i64 ((length a:Int) -1))+(bl (toNat (getD a (toNat (wrap i64 ((length a:Int) -1))) 0)):Int))=(bl (toNat (wv a)):Int))=aM (aW [aAs] aD) Tryz.f210 [.ws a] (MRes.sat (.ret (.int .i64 (bl (wv a).toNat)))):=by kernel_rfl
theorem aBv {a:List Int} (h:Cn a) (hne:a≠ []):bl (wv a).toNat=32*(a.length -1)+bl (a.getD (a.length -1) 0).toNat:=by
 have hp:0<a.length:=List.length_pos_iff.2 hne
 have h1:=kR a (a.length -1) (by omega)
 rw [List.drop_eq_nil_of_le (by omega)] at h1
 simp only [wv,Int.mul_zero,Int.add_zero] at h1
 have h2:=eP (h.wd.take (a.length -1))
 have h3:=a8 (h.wd.take (a.length -1))
 rw [List.length_take,Nat.min_eq_left (by omega)] at h2
 have h4:=h.wd.getD (a.length -1)
 have h5:a.getD (a.length -1) 0≠0:=by
  intro e
  have:=h.top hne
  rw [e,Int.mul_zero] at h1
  omega
 have e:(4294967296:Int)^(a.length -1)=((2^(32*(a.length -1)):Nat):Int):=by
  rw [Nat.pow_mul];simp [Int.natCast_pow]
 rw [e] at h1 h2
 obtain ⟨q,hq⟩:∃ q:Nat,a.getD (a.length -1) 0=q:=⟨(a.getD (a.length -1) 0).toNat,by omega⟩
 obtain ⟨s,hs⟩:∃ s:Nat,wv (a.take (a.length -1))=s:=⟨(wv (a.take (a.length -1))).toNat,by omega⟩
 rw [hq] at h5⊢
 rw [hq,hs] at h1
 rw [hs] at h2
 have e2:(wv a).toNat=q*2^(32*(a.length -1))+s:=by
  rw [h1]
  generalize 2^(32*(a.length -1))=Q
  have:((s:Int)+(Q:Int)*(q:Int))=((q*Q+s:Nat):Int):=by
   rw [Int.natCast_add,Int.natCast_mul,Int.mul_comm];omega
  rw [this,Z8]
 rw [e2,aEI (by omega) s (by omega)]
 have e3:(q:Int).toNat=q:=by omega
 rw [e3];omega
theorem aRx:bF Tryz.f210 aAT:=by
 intro ms p r h hp
 unfold aAT at h
 split at h
 ·rename_i a
  cases h
  obtain ⟨ha,la⟩:=hp
  refine ⟨aW [aAs] aD,?_⟩
  rw [← aPM a]
  by_cases hne:a= []
  ·subst hne;rfl
  ·have hp:0<a.length:=List.length_pos_iff.2 hne
   have hc:((a.length:Int)==0)=false:=by simpa using hne
   have e1:i64.wrap ((a.length:Int) -1)=a.length -1:=bC (by omega) (by omega)
   have e2:((a.length:Int) -1).toNat=a.length -1:=by omega
   have h4:=ha.wd.getD (a.length -1)
   have h5:=aTZ (n:=(a.getD (a.length -1) 0).toNat) (by omega)
   rw [hc,Z5,e1,e2,aBv ha hne]
   refine ⟨by omega,h4,?_⟩
   have e3:i64.wrap ((32:Int)*(a.length -1))=32*(a.length -1):=bC (by omega) (by omega)
   rw [e3,bC (by omega) (by omega)]
   omega
 ·simp at h
def aJE:Ctr Tryz.prog:=⟨210,aAT,fun args w=>Tryz.call210 args w,aL cK Tryz.func210 aAT aRx⟩
def aFt:aG
 | [.ws a,.ws b]=>some (some (Wd a∧Wd b∧a.length≤1000000000∧b.length≤1000000000),.ret (.ws (aA (wv a+wv b).toNat)))
 | _=>none
structure AddS where
 x:List Int
 y:List Int
 i:Nat
 out:List Int
 c:Int
structure AddI (a b:List Int) (s:AddS):Prop where
 xy:(s.x=a∧s.y=b)∨(s.x=b∧s.y=a)
 le:s.y.length≤s.x.length
 hi:s.i≤s.x.length+1
 len:s.out.length=s.x.length+1
 wd:Wd s.out
 c0:0≤s.c∧s.c≤1
 sum:wv (s.out.take s.i)+4294967296^s.i*s.c=wv (s.x.take s.i)+wv (s.y.take s.i)
 rest:s.out.drop s.i=(s.x++ [0]).drop s.i
def aMH (a b:List Int):Nat→MS→Option LoopAnn
 | 7,_=>some (.inv AddS (AddI a b) (fun s=>⟨52, [(0,.ws s.x),(1,.ws s.y),(5,.bs 0 0 (s.x.length+1)),(6,.int .u32 s.c),(24,.int .i64 (s.x.length+1)),(25,.int .i64 s.i)], [⟨false,.arr .u32 s.out⟩],0⟩) (fun s=>s.x.length+1 -s.i))
 | _,_=>none
theorem aSP (a b:List Int):(bif decide ((length a:Int)<(length b:Int)) then (0≤wrap i64 ((length b:Int)+1)∧wrap i64 ((length b:Int)+1)=wrap i64 ((length b:Int)+1)∧(↑(4:Nat):Int)*wrap i64 ((length b:Int)+1)≤140737488355328)∧0+toNat (wrap i64 ((length b:Int)+1))≤length (replicate (toNat (wrap i64 ((length b:Int)+1))) (0:Int))∧(∃ i,AddI a b i∧(b=AddS.x i∧a=AddS.y i∧(0=0∧toNat (wrap i64 ((length b:Int)+1))=length (AddS.x i)+1)∧0=AddS.c i∧(toNat (wrap i64 ((length b:Int)+1)):Int)=(length (AddS.x i):Int)+1∧0=(AddS.i i:Int)∧True)∧take 0 (replicate (toNat (wrap i64 ((length b:Int)+1))) (0:Int))++take (toNat (wrap i64 ((length b:Int)+1))) b++drop (0+min (length b) (toNat (wrap i64 ((length b:Int)+1)))) (replicate (toNat (wrap i64 ((length b:Int)+1))) (0:Int))=AddS.out i∧True)∧∀ (i:AddS),AddI a b i→bif decide ((AddS.i i:Int)<(length (AddS.x i):Int)+1) then bif decide ((AddS.i i:Int)<(length (AddS.y i):Int)) then (0≤(AddS.i i:Int)∧(AddS.i i:Int)<(length (AddS.y i):Int))∧(0≤(AddS.i i:Int)∧(AddS.i i:Int)<(↑(length (AddS.x i)+1):Int))∧0+toNat (AddS.i i:Int)<length (AddS.out i)∧(0≤getD (AddS.out i) (0+toNat (AddS.i i:Int)) 0∧getD (AddS.out i) (0+toNat (AddS.i i:Int)) 0<4294967296∧0≤getD (AddS.y i) (toNat (AddS.i i:Int)) 0∧getD (AddS.y i) (toNat (AddS.i i:Int)) 0<4294967296∧0≤AddS.c i∧AddS.c i≤1)∧(0≤(AddS.i i:Int)∧(AddS.i i:Int)<(↑(length (AddS.x i)+1):Int))∧0+toNat (AddS.i i:Int)<length (AddS.out i)∧∃ j,AddI a b j∧((AddS.x i=AddS.x j∧AddS.y i=AddS.y j∧(0=0∧length (AddS.x i)+1=length (AddS.x j)+1)∧(getD (AddS.out i) (0+toNat (AddS.i i:Int)) 0+getD (AddS.y i) (toNat (AddS.i i:Int)) 0+AddS.c i)/4294967296=AddS.c j∧(length (AddS.x i):Int)+1=(length (AddS.x j):Int)+1∧wrap i64 ((AddS.i i:Int)+1)=(AddS.i j:Int)∧True)∧set (AddS.out i) (0+toNat (AddS.i i:Int)) ((getD (AddS.out i) (0+toNat (AddS.i i:Int)) 0+getD (AddS.y i) (toNat (AddS.i i:Int)) 0+AddS.c i)%4294967296)=AddS.out j∧True)∧length (AddS.x j)+1 -AddS.i j<length (AddS.x i)+1 -AddS.i i else (0≤(AddS.i i:Int)∧(AddS.i i:Int)<(↑(length (AddS.x i)+1):Int))∧0+toNat (AddS.i i:Int)<length (AddS.out i)∧(0≤getD (AddS.out i) (0+toNat (AddS.i i:Int)) 0∧getD (AddS.out i) (0+toNat (AddS.i i:Int)) 0<4294967296∧(0:Int)≤0∧(0:Int)<4294967296∧0≤AddS.c i∧AddS.c i≤1)∧(0≤(AddS.i i:Int)∧(AddS.i i:Int)<(↑(length (AddS.x i)+1):Int))∧0+toNat (AddS.i i:Int)<length (AddS.out i)∧∃ j,AddI a b j∧((AddS.x i=AddS.x j∧AddS.y i=AddS.y j∧(0=0∧length (AddS.x i)+1=length (AddS.x j)+1)∧(getD (AddS.out i) (0+toNat (AddS.i i:Int)) 0+0+AddS.c i)/4294967296=AddS.c j∧(length (AddS.x i):Int)+1=(length (AddS.x j):Int)+1∧wrap i64 ((AddS.i i:Int)+1)=(AddS.i j:Int)∧True)∧set (AddS.out i) (0+toNat (AddS.i i:Int)) ((getD (AddS.out i) (0+toNat (AddS.i i:Int)) 0+0+AddS.c i)%4294967296)=AddS.out j∧True)∧length (AddS.x j)+1 -AddS.i j<length (AddS.x i)+1 -AddS.i i else (0+(length (AddS.x i)+1)≤length (AddS.out i)∧(∀ (x:Int),x∈take (length (AddS.x i)+1) (drop 0 (AddS.out i))→0≤x∧x<4294967296)∧length (take (length (AddS.x i)+1) (drop 0 (AddS.out i)))≤1099511627776)∧aA (toNat (wv (take (length (AddS.x i)+1) (drop 0 (AddS.out i)))))=aA (toNat (wv a+wv b)) else (0≤wrap i64 ((length a:Int)+1)∧wrap i64 ((length a:Int)+1)=wrap i64 ((length a:Int)+1)∧(↑(4:Nat):Int)*wrap i64 ((length a:Int)+1)≤140737488355328)∧0+toNat (wrap i64 ((length a:Int)+1))≤length (replicate (toNat (wrap i64 ((length a:Int)+1))) (0:Int))∧(∃ i,AddI a b i∧(a=AddS.x i∧b=AddS.y i∧(0=0∧toNat (wrap i64 ((length a:Int)+1))=length (AddS.x i)+1)∧0=AddS.c i∧(toNat (wrap i64 ((length a:Int)+1)):Int)=(length (AddS.x i):Int)+1∧0=(AddS.i i:Int)∧True)∧take 0 (replicate (toNat (wrap i64 ((length a:Int)+1))) (0:Int))++take (toNat (wrap i64 ((length a:Int)+1))) a++drop (0+min (length a) (toNat (wrap i64 ((length a:Int)+1)))) (replicate (toNat (wrap i64 ((length a:Int)+1))) (0:Int))=AddS.out i∧True)∧∀ (i:AddS),AddI a b i→bif decide ((AddS.i i:Int)<(length (AddS.x i):Int)+1) then bif decide ((AddS.i i:Int)<(length (AddS.y i):Int)) then (0≤(AddS.i i:Int)∧(AddS.i i:Int)<(length (AddS.y i):Int))∧(0≤(AddS.i i:Int)∧(AddS.i i:Int)<(↑(length (AddS.x i)+1):Int))∧0+toNat (AddS.i i:Int)<length (AddS.out i)∧(0≤getD (AddS.out i) (0+toNat (AddS.i i:Int)) 0∧getD (AddS.out i) (0+toNat (AddS.i i:Int)) 0<4294967296∧0≤getD (AddS.y i) (toNat (AddS.i i:Int)) 0∧getD (AddS.y i) (toNat (AddS.i i:Int)) 0<4294967296∧0≤AddS.c i∧AddS.c i≤1)∧(0≤(AddS.i i:Int)∧(AddS.i i:Int)<(↑(length (AddS.x i)+1):Int))∧0+toNat (AddS.i i:Int)<length (AddS.out i)∧∃ j,AddI a b j∧((AddS.x i=AddS.x j∧AddS.y i=AddS.y j∧(0=0∧length (AddS.x i)+1=length (AddS.x j)+1)∧(getD (AddS.out i) (0+toNat (AddS.i i:Int)) 0+getD (AddS.y i) (toNat (AddS.i i:Int)) 0+AddS.c i)/4294967296=AddS.c j∧(length (AddS.x i):Int)+1=(length (AddS.x j):Int)+1∧wrap i64 ((AddS.i i:Int)+1)=(AddS.i j:Int)∧True)∧set (AddS.out i) (0+toNat (AddS.i i:Int)) ((getD (AddS.out i) (0+toNat (AddS.i i:Int)) 0+getD (AddS.y i) (toNat (AddS.i i:Int)) 0+AddS.c i)%4294967296)=AddS.out j∧True)∧length (AddS.x j)+1 -AddS.i j<length (AddS.x i)+1 -AddS.i i else (0≤(AddS.i i:Int)∧(AddS.i i:Int)<(↑(length (AddS.x i)+1):Int))∧0+toNat (AddS.i i:Int)<length (AddS.out i)∧(0≤getD (AddS.out i) (0+toNat (AddS.i i:Int)) 0∧getD (AddS.out i) (0+toNat (AddS.i i:Int)) 0<4294967296∧(0:Int)≤0∧(0:Int)<4294967296∧0≤AddS.c i∧AddS.c i≤1)∧(0≤(AddS.i i:Int)∧(AddS.i i:Int)<(↑(length (AddS.x i)+1):Int))∧0+toNat (AddS.i i:Int)<length (AddS.out i)∧∃ j,AddI a b j∧((AddS.x i=AddS.x j∧AddS.y i=AddS.y j∧(0=0∧length (AddS.x i)+1=length (AddS.x j)+1)∧(getD (AddS.out i) (0+toNat (AddS.i i:Int)) 0+0+AddS.c i)/4294967296=AddS.c j∧(length (AddS.x i):Int)+1=(length (AddS.x j):Int)+1∧wrap i64 ((AddS.i i:Int)+1)=(AddS.i j:Int)∧True)∧set (AddS.out i) (0+toNat (AddS.i i:Int)) ((getD (AddS.out i) (0+toNat (AddS.i i:Int)) 0+0+AddS.c i)%4294967296)=AddS.out j∧True)∧length (AddS.x j)+1 -AddS.i j<length (AddS.x i)+1 -AddS.i i else (0+(length (AddS.x i)+1)≤length (AddS.out i)∧(∀ (x:Int),x∈take (length (AddS.x i)+1) (drop 0 (AddS.out i))→0≤x∧x<4294967296)∧length (take (length (AddS.x i)+1) (drop 0 (AddS.out i)))≤1099511627776)∧aA (toNat (wv (take (length (AddS.x i)+1) (drop 0 (AddS.out i)))))=aA (toNat (wv a+wv b)))=aM (aW [aEJ,iV] (aMH a b)) Tryz.f140 [.ws a,.ws b] (MRes.sat (.ret (.ws (aA (wv a+wv b).toNat)))):=by kernel_rfl
theorem AddI.step {a b:List Int} {s:AddS} (h:AddI a b s) (ha:Wd a) (hb:Wd b) (hi:s.i<s.x.length+1) (y:Int) (hy:y=s.y.getD s.i 0) :
  AddI a b ⟨s.x,s.y,s.i+1,s.out.set s.i ((s.out.getD s.i 0+y+s.c)%4294967296),(s.out.getD s.i 0+y+s.c)/4294967296⟩:=by
 have hyw:Wd s.y:=by rcases h.xy with ⟨_,e⟩|⟨_,e⟩ <;> rw [e] <;> assumption
 have h1:=h.wd.getD s.i
 have h2:=hyw.getD s.i
 have h3:=h.c0
 rw [← hy] at h2
 have ho:s.out.getD s.i 0=s.x.getD s.i 0:=by
  rw [eW h.rest s.i (Z0 _)]
  rcases Nat.lt_or_ge s.i s.x.length with q|q
  ·simp [List.getElem?_append_left q]
  ·have e:s.i=s.x.length:=by omega
   rw [e];simp
 have hl:s.i<s.out.length:=by rw [h.len];omega
 refine ⟨h.xy,h.le,by show s.i+1≤s.x.length+1;omega,by simp [h.len],h.wd.set _ (by omega),by show 0≤(s.out.getD s.i 0+y+s.c)/4294967296∧(s.out.getD s.i 0+y+s.c)/4294967296≤1;omega,?_,?_⟩
 ·show wv ((s.out.set s.i ((s.out.getD s.i 0+y+s.c)%4294967296)).take (s.i+1))+4294967296^(s.i+1)*((s.out.getD s.i 0+y+s.c)/4294967296)=wv (s.x.take (s.i+1))+wv (s.y.take (s.i+1))
  rw [g5 _ hl,bE,bE,← hy,← ho,Int.pow_succ]
  have:=iW (4294967296^s.i) (s.out.getD s.i 0+y+s.c)
  have h4:=h.sum
  rw [Int.mul_add,Int.mul_add] at this
  omega
 ·show (s.out.set s.i _).drop (s.i+1)=(s.x++ [0]).drop (s.i+1)
  rw [gE];exact dW h.rest
theorem AddI.init {a b x y:List Int} (h:(x=a∧y=b)∨(x=b∧y=a)) (hl:y.length≤x.length) (hw:Wd x):AddI a b ⟨x,y,0,x++ [0],0⟩ :=
 ⟨h,hl,by show 0≤_;omega,by simp,hw.append (fun z hz=>by simp at hz;subst hz;omega),⟨Int.le_refl _,by show (0:Int)≤1;omega⟩,by simp [wv],rfl⟩
theorem bR (k:Nat):(0:Int)<4294967296^k:=Int.pow_pos (by omega)
theorem nU {j k:Nat} (h:j≤k):(4294967296:Int)^j≤4294967296^k:=by
 have:=Nat.pow_le_pow_right (show 0<4294967296 by omega) h
 have e:∀ k:Nat,((4294967296^k:Nat):Int)=(4294967296:Int)^k:=fun k=>by simp [Int.natCast_pow]
 rw [← e,← e]
 exact Int.ofNat_le.2 this
theorem AddI.fin {a b:List Int} {s:AddS} (h:AddI a b s) (ha:Wd a) (hb:Wd b) (hi:¬ s.i<s.x.length+1):wv s.out=wv a+wv b:=by
 have e:s.i=s.x.length+1:=by have:=h.hi;omega
 have h1:=h.sum
 rw [e,cM (by rw [h.len];omega),cM (by omega),cM (by have:=h.le;omega)] at h1
 have hxw:Wd s.x:=by rcases h.xy with ⟨e,_⟩|⟨e,_⟩ <;> rw [e] <;> assumption
 have hyw:Wd s.y:=by rcases h.xy with ⟨_,e⟩|⟨_,e⟩ <;> rw [e] <;> assumption
 have h2:=eP hxw
 have h3:=eP hyw
 have h4:=nU h.le
 have h5:=a8 h.wd
 have h6:=bR s.x.length
 have h7:=h.c0
 have hs:wv s.x+wv s.y=wv a+wv b:=by rcases h.xy with ⟨e1,e2⟩|⟨e1,e2⟩ <;> rw [e1,e2] <;> omega
 have hc:s.c=0:=by
  rcases (show s.c=0∨s.c=1 by omega) with q|q
  ·exact q
  ·rw [q,Int.mul_one,Int.pow_succ] at h1;omega
 rw [hc] at h1
 omega
theorem aUQ:bF Tryz.f140 aFt:=by
 intro ms p r h hp
 unfold aFt at h
 split at h
 ·rename_i a b
  cases h
  obtain ⟨ha,hb,la,lb⟩:=hp
  refine ⟨aW [aEJ,iV] (aMH a b),?_⟩
  rw [← aSP a b]
  have ew:∀ l:List Int,l.length≤1000000000→i64.wrap ((l.length:Int)+1)=l.length+1:=fun l hl=>bC (by omega) (by omega)
  have et:∀ l:List Int,((l.length:Int)+1).toNat=l.length+1:=fun l=>by omega
  have el:∀ l:List Int,l.take (l.length+1)=l:=fun l=>List.take_of_length_le (by omega)
  have ed:∀ l:List Int,(replicate (l.length+1) (0:Int)).drop (min l.length (l.length+1))= [0]:=fun l=>by
   rw [Nat.min_eq_left (by omega),List.drop_replicate,show l.length+1 -l.length=1 by omega];rfl
  simp only [Bool.cond_decide,ew a la,ew b lb,et,Nat.zero_add,List.take_zero,List.nil_append,List.drop_zero,el,ed,Z8]
  refine aLC (fun h=>?_) (fun h=>?_) (fun s hs=>?_)
  ·refine ⟨by and_intros <;> first|exact ⟨⟩|omega,by simp,⟨b,a,0,b++ [0],0⟩,AddI.init (.inr ⟨rfl,rfl⟩) (by omega) hb,?_⟩
   and_intros <;> first|exact ⟨⟩|rfl|simp
  ·refine ⟨by and_intros <;> first|exact ⟨⟩|omega,by simp,⟨a,b,0,a++ [0],0⟩,AddI.init (.inl ⟨rfl,rfl⟩) (by omega) ha,?_⟩
   and_intros <;> first|exact ⟨⟩|rfl|simp
  ·have hxl:s.x.length≤1000000000:=by rcases hs.xy with ⟨e,_⟩|⟨e,_⟩ <;> rw [e] <;> assumption
   have hyw:Wd s.y:=by rcases hs.xy with ⟨_,e⟩|⟨_,e⟩ <;> rw [e] <;> assumption
   have h1:=hs.wd.getD s.i
   have h2:=hyw.getD s.i
   have h3:=hs.c0
   have h4:=hs.len
   split
   ·rename_i hlt
    have hi:s.i<s.x.length+1:=by omega
    have e1:i64.wrap ((s.i:Int)+1)=((s.i+1:Nat):Int):=by rw [bC (by omega) (by omega)];omega
    rw [e1]
    split
    ·refine ⟨by omega,by omega,by omega,by omega,by omega,by omega,_,hs.step ha hb hi (s.y.getD s.i 0) rfl,by and_intros <;> first|exact ⟨⟩|rfl,?_⟩
     show s.x.length+1 -(s.i+1)<s.x.length+1 -s.i
     omega
    ·refine ⟨by omega,by omega,by omega,by omega,by omega,_,hs.step ha hb hi 0 ?_,by and_intros <;> first|exact ⟨⟩|rfl,?_⟩
     ·have:s.y.length≤s.i:=by omega
      simp [List.getElem?_eq_none this]
     ·show s.x.length+1 -(s.i+1)<s.x.length+1 -s.i
      omega
   ·rename_i hlt
    have hf:=hs.fin ha hb (by omega)
    have e2:s.out.take (s.x.length+1)=s.out:=List.take_of_length_le (by omega)
    rw [e2,hf]
    exact ⟨⟨by omega,hs.wd,by omega⟩,rfl⟩
 ·simp at h
def aM5:Ctr Tryz.prog:=⟨140,aFt,fun args w=>Tryz.call140 args w,aL cK Tryz.func140 aFt aUQ⟩
def aFA:aG
 | [.ws a,.ws b]=>some (some (Wd a∧Wd b∧wv b≤wv a∧b.length≤a.length∧a.length≤1000000000),.ret (.ws (aA (wv a -wv b).toNat)))
 | _=>none
structure SubI (a b:List Int) (s:AddS):Prop where
 hi:s.i≤a.length
 len:s.out.length=a.length
 wd:Wd s.out
 c0:0≤s.c∧s.c≤1
 sum:wv (s.out.take s.i) -4294967296^s.i*s.c=wv (a.take s.i) -wv (b.take s.i)
 rest:s.out.drop s.i=a.drop s.i
def aMM (a b:List Int):Nat→MS→Option LoopAnn
 | 5,_=>some (.inv AddS (SubI a b) (fun s=>⟨44, [(0,.ws a),(1,.ws b),(5,.bs 0 0 a.length),(6,.int .u32 s.c),(16,.int .i64 a.length),(17,.int .i64 s.i)], [⟨false,.arr .u32 s.out⟩],0⟩) (fun s=>a.length -s.i))
 | _,_=>none
theorem aSX (a b:List Int):((0≤(length a:Int)∧(length a:Int)=(length a:Int)∧(↑(4:Nat):Int)*(length a:Int)≤140737488355328)∧0+toNat (length a:Int)≤length (replicate (toNat (length a:Int)) (0:Int))∧(∃ i,SubI a b i∧(a=a∧b=b∧(0=0∧toNat (length a:Int)=length a)∧0=AddS.c i∧(toNat (length a:Int):Int)=(length a:Int)∧0=(AddS.i i:Int)∧True)∧take 0 (replicate (toNat (length a:Int)) (0:Int))++take (toNat (length a:Int)) a++drop (0+min (length a) (toNat (length a:Int))) (replicate (toNat (length a:Int)) (0:Int))=AddS.out i∧True)∧∀ (i:AddS),SubI a b i→bif decide ((AddS.i i:Int)<(length a:Int)) then bif decide ((AddS.i i:Int)<(length b:Int)) then (0≤(AddS.i i:Int)∧(AddS.i i:Int)<(length b:Int))∧(0≤(AddS.i i:Int)∧(AddS.i i:Int)<(length a:Int))∧0+toNat (AddS.i i:Int)<length (AddS.out i)∧(0≤getD (AddS.out i) (0+toNat (AddS.i i:Int)) 0∧getD (AddS.out i) (0+toNat (AddS.i i:Int)) 0<4294967296∧0≤getD b (toNat (AddS.i i:Int)) 0∧getD b (toNat (AddS.i i:Int)) 0<4294967296∧0≤AddS.c i∧AddS.c i≤1)∧(0≤(AddS.i i:Int)∧(AddS.i i:Int)<(length a:Int))∧0+toNat (AddS.i i:Int)<length (AddS.out i)∧∃ j,SubI a b j∧((a=a∧b=b∧(0=0∧length a=length a)∧(if getD (AddS.out i) (0+toNat (AddS.i i:Int)) 0<getD b (toNat (AddS.i i:Int)) 0+AddS.c i then (1:Int) else (0:Int))=AddS.c j∧(length a:Int)=(length a:Int)∧wrap i64 ((AddS.i i:Int)+1)=(AddS.i j:Int)∧True)∧set (AddS.out i) (0+toNat (AddS.i i:Int)) ((getD (AddS.out i) (0+toNat (AddS.i i:Int)) 0 -getD b (toNat (AddS.i i:Int)) 0 -AddS.c i)%4294967296)=AddS.out j∧True)∧length a -AddS.i j<length a -AddS.i i else (0≤(AddS.i i:Int)∧(AddS.i i:Int)<(length a:Int))∧0+toNat (AddS.i i:Int)<length (AddS.out i)∧(0≤getD (AddS.out i) (0+toNat (AddS.i i:Int)) 0∧getD (AddS.out i) (0+toNat (AddS.i i:Int)) 0<4294967296∧(0:Int)≤0∧(0:Int)<4294967296∧0≤AddS.c i∧AddS.c i≤1)∧(0≤(AddS.i i:Int)∧(AddS.i i:Int)<(length a:Int))∧0+toNat (AddS.i i:Int)<length (AddS.out i)∧∃ j,SubI a b j∧((a=a∧b=b∧(0=0∧length a=length a)∧(if getD (AddS.out i) (0+toNat (AddS.i i:Int)) 0<0+AddS.c i then (1:Int) else (0:Int))=AddS.c j∧(length a:Int)=(length a:Int)∧wrap i64 ((AddS.i i:Int)+1)=(AddS.i j:Int)∧True)∧set (AddS.out i) (0+toNat (AddS.i i:Int)) ((getD (AddS.out i) (0+toNat (AddS.i i:Int)) 0 -0 -AddS.c i)%4294967296)=AddS.out j∧True)∧length a -AddS.i j<length a -AddS.i i else (0+length a≤length (AddS.out i)∧(∀ (x:Int),x∈take (length a) (drop 0 (AddS.out i))→0≤x∧x<4294967296)∧length (take (length a) (drop 0 (AddS.out i)))≤1099511627776)∧aA (toNat (wv (take (length a) (drop 0 (AddS.out i)))))=aA (toNat (wv a -wv b)))=aM (aW [aEO,iV] (aMM a b)) Tryz.f141 [.ws a,.ws b] (MRes.sat (.ret (.ws (aA (wv a -wv b).toNat)))):=by kernel_rfl
theorem SubI.step {a b:List Int} {s:AddS} (h:SubI a b s) (hb:Wd b) (hi:s.i<a.length) (y:Int) (hy:y=b.getD s.i 0) :
  SubI a b ⟨s.x,s.y,s.i+1,s.out.set s.i ((s.out.getD s.i 0 -y -s.c)%4294967296),if s.out.getD s.i 0<y+s.c then 1 else 0⟩:=by
 have h1:=h.wd.getD s.i
 have h2:=hb.getD s.i
 have h3:=h.c0
 rw [← hy] at h2
 have ho:s.out.getD s.i 0=a.getD s.i 0:=eW h.rest s.i (Z0 _)
 have hl:s.i<s.out.length:=by rw [h.len];omega
 refine ⟨by show s.i+1≤a.length;omega,by simp [h.len],h.wd.set _ (by omega),by show 0≤(if s.out.getD s.i 0<y+s.c then (1:Int) else 0)∧(if s.out.getD s.i 0<y+s.c then (1:Int) else 0)≤1;split <;> omega,?_,?_⟩
 ·show wv ((s.out.set s.i ((s.out.getD s.i 0 -y -s.c)%4294967296)).take (s.i+1)) -4294967296^(s.i+1)*(if s.out.getD s.i 0<y+s.c then 1 else 0)=wv (a.take (s.i+1)) -wv (b.take (s.i+1))
  rw [g5 _ hl,bE,bE,← hy,← ho,Int.pow_succ]
  have:=iW (4294967296^s.i) (s.out.getD s.i 0 -y -s.c)
  have h4:=h.sum
  have h5:(s.out.getD s.i 0 -y -s.c)/4294967296= -(if s.out.getD s.i 0<y+s.c then 1 else 0):=by split <;> omega
  rw [h5,Int.mul_sub,Int.mul_sub,Int.mul_neg] at this
  omega
 ·show (s.out.set s.i _).drop (s.i+1)=a.drop (s.i+1)
  rw [gE];exact dW h.rest
theorem SubI.fin {a b:List Int} {s:AddS} (h:SubI a b s) (hle:wv b≤wv a) (hl:b.length≤a.length) (hi:¬ s.i<a.length):wv s.out=wv a -wv b:=by
 have e:s.i=a.length:=by have:=h.hi;omega
 have h1:=h.sum
 rw [e,cM (by rw [h.len];omega),cM (by omega),cM (by omega)] at h1
 have h2:=eP h.wd
 rw [h.len] at h2
 have h6:=bR a.length
 have h7:=h.c0
 have hc:s.c=0:=by
  rcases (show s.c=0∨s.c=1 by omega) with q|q
  ·exact q
  ·rw [q,Int.mul_one] at h1;omega
 rw [hc] at h1
 omega
theorem aUY:bF Tryz.f141 aFA:=by
 intro ms p r h hp
 unfold aFA at h
 split at h
 ·rename_i a b
  cases h
  obtain ⟨ha,hb,hle,hl,la⟩:=hp
  refine ⟨aW [aEO,iV] (aMM a b),?_⟩
  rw [← aSX a b]
  have ed:(replicate a.length (0:Int)).drop (min a.length a.length)= []:=by simp
  simp only [Bool.cond_decide,Nat.zero_add,List.take_zero,List.nil_append,List.drop_zero,ed,Z8,List.take_length,List.append_nil]
  refine ⟨by and_intros <;> first|exact ⟨⟩|omega,by simp,⟨⟨a,b,0,a,0⟩,⟨by show 0≤_;omega,rfl,ha,⟨Int.le_refl _,by show (0:Int)≤1;omega⟩,by simp [wv],rfl⟩,?_⟩,fun s hs=>?_⟩
  ·and_intros <;> first|exact ⟨⟩|rfl
  ·have h1:=hs.wd.getD s.i
   have h2:=hb.getD s.i
   have h3:=hs.c0
   have h4:=hs.len
   split
   ·rename_i hlt
    have hi:s.i<a.length:=by omega
    have e1:i64.wrap ((s.i:Int)+1)=((s.i+1:Nat):Int):=by rw [bC (by omega) (by omega)];omega
    rw [e1]
    split
    ·refine ⟨by omega,by omega,by omega,by omega,by omega,by omega,_,hs.step hb hi (b.getD s.i 0) rfl,by and_intros <;> first|exact ⟨⟩|rfl,?_⟩
     show a.length -(s.i+1)<a.length -s.i
     omega
    ·refine ⟨by omega,by omega,by omega,by omega,by omega,_,hs.step hb hi 0 ?_,by and_intros <;> first|exact ⟨⟩|rfl,?_⟩
     ·have:b.length≤s.i:=by omega
      simp [List.getElem?_eq_none this]
     ·show a.length -(s.i+1)<a.length -s.i
      omega
   ·rename_i hlt
    have hf:=hs.fin hle hl (by omega)
    have e2:s.out.take a.length=s.out:=List.take_of_length_le (by omega)
    rw [e2,hf]
    exact ⟨⟨by omega,hs.wd,by omega⟩,rfl⟩
 ·simp at h
def aM8:Ctr Tryz.prog:=⟨141,aFA,fun args w=>Tryz.call141 args w,aL cK Tryz.func141 aFA aUY⟩
def aFx:aG
 | [.ws a,.ws b]=>some (some (Wd a∧Wd b∧a.length≤1000000000∧b.length≤1000000000),.ret (.ws (aA (wv a*wv b).toNat)))
 | _=>none
structure MulS where
 i:Nat
 k:Nat
 out:List Int
 c:Int
structure MulO (a b:List Int) (s:MulS):Prop where
 hi:s.i≤a.length
 len:s.out.length=a.length+b.length
 wd:Wd s.out
 sum:wv s.out=wv (a.take s.i)*wv b
 rest:∀ j,s.i+b.length≤j→s.out.getD j 0=0
structure MulN (a b:List Int) (s:MulS):Prop where
 hi:s.i<a.length
 hk:s.k≤b.length
 len:s.out.length=a.length+b.length
 wd:Wd s.out
 c0:0≤s.c∧s.c<4294967296
 sum:wv s.out+4294967296^(s.i+s.k)*s.c=wv (a.take s.i)*wv b+4294967296^s.i*(a.getD s.i 0*wv (b.take s.k))
 rest:∀ j,s.i+b.length≤j→s.out.getD j 0=0
def aMJ (a b:List Int):Nat→MS→Option LoopAnn
 | 3,_=>some (.inv MulS (MulO a b) (fun s=>⟨68, [(1,.ws b),(5,.bs 0 0 (a.length+b.length)),(18,.ws a),(19,.int .i64 a.length),(20,.int .i64 s.i)], [⟨false,.arr .u32 s.out⟩],0⟩) (fun s=>a.length -s.i))
 | 7,s0=>some (.inv MulS (fun s=>MulN a b s∧.int .i64 (s.i:Int)=look 20 s0.tm) (fun s=>⟨68, [(1,.ws b),(5,.bs 0 0 (a.length+b.length)),(6,.int .i64 s.i),(7,.int .u32 (a.getD s.i 0)),(8,.int .u64 s.c),(18,.ws a),(19,.int .i64 a.length),(20,.int .i64 s.i),(25,.ws b),(26,.int .i64 b.length),(27,.int .i64 s.k)], [⟨false,.arr .u32 s.out⟩],0⟩) (fun s=>b.length -s.k))
 | _,_=>none
theorem aSU (a b:List Int):((0≤wrap i64 ((length a:Int)+(length b:Int))∧wrap i64 ((length a:Int)+(length b:Int))=wrap i64 ((length a:Int)+(length b:Int))∧(↑(4:Nat):Int)*wrap i64 ((length a:Int)+(length b:Int))≤140737488355328)∧(∃ i,MulO a b i∧(b=b∧(0=0∧toNat (wrap i64 ((length a:Int)+(length b:Int)))=length a+length b)∧a=a∧(length a:Int)=(length a:Int)∧0=(MulS.i i:Int)∧True)∧replicate (toNat (wrap i64 ((length a:Int)+(length b:Int)))) (0:Int)=MulS.out i∧True)∧∀ (i:MulS),MulO a b i→bif decide ((MulS.i i:Int)<(length a:Int)) then (0≤(MulS.i i:Int)∧(MulS.i i:Int)<(length a:Int))∧(∃ i_1,(MulN a b i_1∧MV.int i64 (MulS.i i_1:Int)=MV.int i64 (MulS.i i:Int))∧(b=b∧(0=0∧length a+length b=length a+length b)∧(MulS.i i:Int)=(MulS.i i_1:Int)∧getD a (toNat (MulS.i i:Int)) 0=getD a (MulS.i i_1) 0∧0=MulS.c i_1∧a=a∧(length a:Int)=(length a:Int)∧(MulS.i i:Int)=(MulS.i i_1:Int)∧b=b∧(length b:Int)=(length b:Int)∧0=(MulS.k i_1:Int)∧True)∧MulS.out i=MulS.out i_1∧True)∧∀ (i_1:MulS),MulN a b i_1∧MV.int i64 (MulS.i i_1:Int)=MV.int i64 (MulS.i i:Int)→bif decide ((MulS.k i_1:Int)<(length b:Int)) then (0≤(MulS.k i_1:Int)∧(MulS.k i_1:Int)<(length b:Int))∧(0≤wrap i64 ((MulS.i i_1:Int)+(MulS.k i_1:Int))∧wrap i64 ((MulS.i i_1:Int)+(MulS.k i_1:Int))<(↑(length a+length b):Int))∧0+toNat (wrap i64 ((MulS.i i_1:Int)+(MulS.k i_1:Int)))<length (MulS.out i_1)∧(0:Int)≤32∧(0≤wrap i64 ((MulS.i i_1:Int)+(MulS.k i_1:Int))∧wrap i64 ((MulS.i i_1:Int)+(MulS.k i_1:Int))<(↑(length a+length b):Int))∧0+toNat (wrap i64 ((MulS.i i_1:Int)+(MulS.k i_1:Int)))<length (MulS.out i_1)∧∃ j,(MulN a b j∧MV.int i64 (MulS.i j:Int)=MV.int i64 (MulS.i i:Int))∧((b=b∧(0=0∧length a+length b=length a+length b)∧(MulS.i i_1:Int)=(MulS.i j:Int)∧getD a (MulS.i i_1) 0=getD a (MulS.i j) 0∧Int.fdiv (wrap u64 (wrap u64 (wrap u64 (wrap u64 (getD a (MulS.i i_1) 0)*wrap u64 (getD b (toNat (MulS.k i_1:Int)) 0))+wrap u64 (getD (MulS.out i_1) (0+toNat (wrap i64 ((MulS.i i_1:Int)+(MulS.k i_1:Int)))) 0))+MulS.c i_1)) ((2:Int)^min (toNat 32) (IntKind.bits u64))=MulS.c j∧a=a∧(length a:Int)=(length a:Int)∧(MulS.i i_1:Int)=(MulS.i j:Int)∧b=b∧(length b:Int)=(length b:Int)∧wrap i64 ((MulS.k i_1:Int)+1)=(MulS.k j:Int)∧True)∧set (MulS.out i_1) (0+toNat (wrap i64 ((MulS.i i_1:Int)+(MulS.k i_1:Int)))) (wrap u32 (wrap u64 (wrap u64 (wrap u64 (wrap u64 (getD a (MulS.i i_1) 0)*wrap u64 (getD b (toNat (MulS.k i_1:Int)) 0))+wrap u64 (getD (MulS.out i_1) (0+toNat (wrap i64 ((MulS.i i_1:Int)+(MulS.k i_1:Int)))) 0))+MulS.c i_1)))=MulS.out j∧True)∧length b -MulS.k j<length b -MulS.k i_1 else (0≤wrap i64 ((MulS.i i_1:Int)+(length b:Int))∧wrap i64 ((MulS.i i_1:Int)+(length b:Int))<(↑(length a+length b):Int))∧0+toNat (wrap i64 ((MulS.i i_1:Int)+(length b:Int)))<length (MulS.out i_1)∧∃ j,MulO a b j∧((b=b∧(0=0∧length a+length b=length a+length b)∧a=a∧(length a:Int)=(length a:Int)∧wrap i64 ((MulS.i i_1:Int)+1)=(MulS.i j:Int)∧True)∧set (MulS.out i_1) (0+toNat (wrap i64 ((MulS.i i_1:Int)+(length b:Int)))) (wrap u32 (MulS.c i_1))=MulS.out j∧True)∧length a -MulS.i j<length a -MulS.i i else (0+(length a+length b)≤length (MulS.out i)∧(∀ (x:Int),x∈take (length a+length b) (drop 0 (MulS.out i))→0≤x∧x<4294967296)∧length (take (length a+length b) (drop 0 (MulS.out i)))≤1099511627776)∧aA (toNat (wv (take (length a+length b) (drop 0 (MulS.out i)))))=aA (toNat (wv a*wv b)))=aM (aW [iV] (aMJ a b)) Tryz.f102 [.ws a,.ws b] (MRes.sat (.ret (.ws (aA (wv a*wv b).toNat)))):=by kernel_rfl
theorem aDh (l:List Int) (i:Nat) (v:Int) (h:i<l.length):wv (l.set i v)=wv l+4294967296^i*(v -l.getD i 0):=by
 have h1:=kR (l.set i v) i (by simpa using h)
 have h2:=kR l i h
 rw [gE,List.take_set_of_le (Z0 _),show (l.set i v).getD i 0=v by simp [h]] at h1
 rw [h1,h2]
 generalize (4294967296:Int)^i=P
 generalize wv (l.drop (i+1))=t
 rw [Int.mul_add,Int.mul_add,Int.mul_sub]
 omega
theorem kK {l:List Int} {i j:Nat} (v:Int) (h:i≠j):(l.set i v).getD j 0=l.getD j 0:=by
 simp [List.getD_eq_getElem?_getD,h]
theorem MulN.step {a b:List Int} {s:MulS} (h:MulN a b s) (ha:Wd a) (hb:Wd b) (hk:s.k<b.length) (t:Int) (ht:t=a.getD s.i 0*b.getD s.k 0+s.out.getD (s.i+s.k) 0+s.c) :
  (0≤a.getD s.i 0*b.getD s.k 0∧a.getD s.i 0*b.getD s.k 0≤18446744065119617025)∧0≤t∧t<18446744073709551616∧MulN a b ⟨s.i,s.k+1,s.out.set (s.i+s.k) (t%4294967296),t/4294967296⟩:=by
 have h1:=h.wd.getD (s.i+s.k)
 have h2:=ha.getD s.i
 have h3:=hb.getD s.k
 have h4:=h.c0
 have hi:=h.hi
 have hp0:0≤a.getD s.i 0*b.getD s.k 0:=Int.mul_nonneg h2.1 h3.1
 have hp1:a.getD s.i 0*b.getD s.k 0≤4294967295*4294967295:=Int.mul_le_mul (by omega) (by omega) h3.1 (by omega)
 have hl:s.i+s.k<s.out.length:=by rw [h.len];omega
 refine ⟨⟨hp0,by omega⟩,by omega,by omega,hi,by show s.k+1≤b.length;omega,by simp [h.len],h.wd.set _ (by omega),by show 0≤t/4294967296∧t/4294967296<4294967296;omega,?_,fun j hj=>?_⟩
 ·show wv (s.out.set (s.i+s.k) (t%4294967296))+4294967296^(s.i+(s.k+1))*(t/4294967296)=wv (a.take s.i)*wv b+4294967296^s.i*(a.getD s.i 0*wv (b.take (s.k+1)))
  rw [aDh _ _ _ hl,bE,show s.i+(s.k+1)=s.i+s.k+1 by omega,Int.pow_succ]
  have h5:=iW (4294967296^(s.i+s.k)) t
  have h6:=h.sum
  have h7:(4294967296:Int)^s.i*(a.getD s.i 0*(wv (b.take s.k)+4294967296^s.k*b.getD s.k 0))=4294967296^s.i*(a.getD s.i 0*wv (b.take s.k))+4294967296^(s.i+s.k)*(a.getD s.i 0*b.getD s.k 0):=by
   rw [Int.pow_add];grind
  rw [h7,Int.mul_sub]
  have h8:(4294967296:Int)^(s.i+s.k)*t=4294967296^(s.i+s.k)*(a.getD s.i 0*b.getD s.k 0)+4294967296^(s.i+s.k)*s.out.getD (s.i+s.k) 0+4294967296^(s.i+s.k)*s.c:=by
   rw [ht,Int.mul_add,Int.mul_add]
  omega
 ·show (s.out.set (s.i+s.k) (t%4294967296)).getD j 0=0
  have hj:s.i+b.length≤j:=hj
  rw [kK _ (by omega)]
  exact h.rest j hj
theorem MulN.done {a b:List Int} {s:MulS} (h:MulN a b s) (hk:¬ s.k<b.length):MulO a b ⟨s.i+1,0,s.out.set (s.i+b.length) s.c,0⟩:=by
 have e:s.k=b.length:=by have:=h.hk;omega
 have hi:=h.hi
 have hl:s.i+b.length<s.out.length:=by rw [h.len];omega
 refine ⟨by show s.i+1≤a.length;omega,by simp [h.len],h.wd.set _ h.c0,?_,fun j hj=>?_⟩
 ·show wv (s.out.set (s.i+b.length) s.c)=wv (a.take (s.i+1))*wv b
  rw [aDh _ _ _ hl,h.rest _ (Z0 _),bE]
  have h6:=h.sum
  rw [e,List.take_length] at h6
  have h7:(wv (a.take s.i)+4294967296^s.i*a.getD s.i 0)*wv b=wv (a.take s.i)*wv b+4294967296^s.i*(a.getD s.i 0*wv b):=by grind
  rw [h7,Int.sub_zero]
  omega
 ·show (s.out.set (s.i+b.length) s.c).getD j 0=0
  have hj:s.i+1+b.length≤j:=hj
  rw [kK _ (by omega)]
  exact h.rest j (by omega)
theorem aXp {x y o c:Int} (hx:0≤x∧x<4294967296) (hy:0≤y∧y<4294967296) (_ho:0≤o∧o<4294967296) (_hp:0≤x*y∧x*y≤18446744065119617025) (h0:0≤x*y+o+c) (h1:x*y+o+c<18446744073709551616) :
  u64.wrap (u64.wrap (u64.wrap (u64.wrap x*u64.wrap y)+u64.wrap o)+c)=x*y+o+c:=by
 simp only [s6]
 have e1:x%18446744073709551616=x:=Int.emod_eq_of_lt hx.1 (by omega)
 have e2:y%18446744073709551616=y:=Int.emod_eq_of_lt hy.1 (by omega)
 rw [e1,e2]
 generalize x*y=q at *
 omega
theorem aUV:bF Tryz.f102 aFx:=by
 intro ms p r h hp
 unfold aFx at h
 split at h
 ·rename_i a b
  cases h
  obtain ⟨ha,hb,la,lb⟩:=hp
  refine ⟨aW [iV] (aMJ a b),?_⟩
  rw [← aSU a b]
  have ew:i64.wrap ((a.length:Int)+b.length)=((a.length+b.length:Nat):Int):=by rw [bC (by omega) (by omega)];omega
  simp only [Bool.cond_decide,ew,Nat.zero_add,Z8,List.drop_zero,p32]
  refine ⟨by and_intros <;> first|exact ⟨⟩|omega,⟨⟨0,0,replicate (a.length+b.length) 0,0⟩,⟨by show 0≤_;omega,by simp,Wd.replicate _,by show wv (replicate _ 0)=_;rw [eZ];simp [wv],fun j _=>?_⟩,by and_intros <;> first|exact ⟨⟩|rfl⟩,fun s hs=>?_⟩
  ·show (replicate _ (0:Int)).getD j 0=0
   simp [List.getElem?_replicate];split <;> rfl
  ·split
   ·rename_i hlt
    have hi:s.i<a.length:=by omega
    refine ⟨by omega,⟨⟨s.i,0,s.out,0⟩,⟨⟨hi,by show 0≤_;omega,hs.len,hs.wd,⟨Int.le_refl _,by show (0:Int)<4294967296;omega⟩,?_,hs.rest⟩,rfl⟩,by and_intros <;> first|exact ⟨⟩|rfl⟩,fun t ⟨ht,hti⟩=>?_⟩
    ·show wv s.out+4294967296^(s.i+0)*0=wv (a.take s.i)*wv b+4294967296^s.i*(a.getD s.i 0*wv (b.take 0))
     rw [hs.sum];simp [wv]
    ·have hti:(t.i:Int)=s.i:=by simpa using hti
     have hti:t.i=s.i:=by omega
     have hk:=ht.hk
     have hl:=ht.len
     have ek:i64.wrap ((t.i:Int)+t.k)=((t.i+t.k:Nat):Int):=by rw [bC (by omega) (by omega)];omega
     have eb:i64.wrap ((t.i:Int)+b.length)=((t.i+b.length:Nat):Int):=by rw [bC (by omega) (by omega)];omega
     have e1:i64.wrap ((t.k:Int)+1)=((t.k+1:Nat):Int):=by rw [bC (by omega) (by omega)];omega
     have e2:i64.wrap ((t.i:Int)+1)=((t.i+1:Nat):Int):=by rw [bC (by omega) (by omega)];omega
     simp only [ek,eb,e1,e2,Z8]
     split
     ·rename_i hkl
      obtain ⟨hp,h0,h1,hst⟩:=ht.step ha hb (by omega) _ rfl
      rw [aXp (ha.getD _) (hb.getD _) (ht.wd.getD _) hp h0 h1]
      rw [Int.fdiv_eq_ediv_of_nonneg _ (by omega),j3]
      refine ⟨by omega,by omega,by omega,by omega,by omega,by omega,_,⟨hst,by rw [hti]⟩,by and_intros <;> first|exact ⟨⟩|rfl,?_⟩
      show b.length -(t.k+1)<b.length -t.k
      omega
     ·rename_i hkl
      have hc:=ht.c0
      have e3:u32.wrap t.c=t.c:=by rw [j3];omega
      rw [e3]
      refine ⟨by omega,by omega,_,ht.done (by omega),by and_intros <;> first|exact ⟨⟩|rfl,?_⟩
      show a.length -(t.i+1)<a.length -s.i
      omega
   ·rename_i hlt
    have e:s.i=a.length:=by have:=hs.hi;omega
    have hsum:=hs.sum
    have hl:=hs.len
    have e2:s.out.take (a.length+b.length)=s.out:=List.take_of_length_le (by omega)
    rw [e,List.take_length] at hsum
    rw [e2,hsum]
    exact ⟨⟨by omega,hs.wd,by omega⟩,rfl⟩
 ·simp at h
def aM7:Ctr Tryz.prog:=⟨102,aFx,fun args w=>Tryz.call102 args w,aL cK Tryz.func102 aFx aUV⟩
end Go.Proofs.YtihcjnpabcejlaaGreat
