/-
  Contracts of functions: cycle.Cycles, cycle.Class.
-/
import Derived.Test.YtihcjnpabcejlaaGreatV3
import Derived.Test.YtihcjnpabcejlaaGreatV2
import Derived.RangeFuncNested
import Derived.RangeFuncLeaves
import Derived.Sort.LoopGhostIn
import Derived.OrdersIn
import Derived.Maps.Keyed
import Derived.WideKeyArr

namespace Go.Proofs.YtihcjnpabcejlaaGreat
open Go Go.RowKit
open Go.IntKind (wrap i64 i32 i16 i8 u64 u32 u16 u8)
open Int (toNat natAbs)
open List (length take drop getD set replicate)
theorem cX {D s:Int} (hd:Dis D s) {f:Fm} (h:f.disc=D):f.A≠0∧f.C≠0:=by
 have key:f.A*f.C≠0:=fun e=>by
  unfold Fm.disc at h
  rw [Int.mul_assoc,e] at h
  have hs:=hd.pos
  have e2:(f.B.natAbs:Int)*f.B.natAbs=f.B*f.B:=by rw [← Int.natCast_mul];exact Int.natAbs_mul_self' f.B
  have lo:=hd.lo
  have hi:=hd.hi
  have hb:0≤(f.B.natAbs:Int):=by omega
  generalize (f.B.natAbs:Int)=b at *
  rcases Int.lt_or_le s b with q|q
  ·have:=Int.mul_le_mul (show s+1≤b by omega) (show s+1≤b by omega) (by omega) hb
   omega
  ·have:=Int.mul_le_mul q q hb (by omega)
   omega
 exact ⟨fun e=>key (by rw [e,Int.zero_mul]),fun e=>key (by rw [e,Int.mul_zero])⟩
theorem aI2 {D s:Int} (hd:Dis D s) {f:Fm} (h:f.disc=D) (hc:s<f.C.natAbs):(rho s f).C.natAbs<f.C.natAbs:=by
 have hC:=(cX hd h).2
 have h1:=gV (s:=s) h hC
 obtain ⟨r1,r2⟩:=(i9 (s:=s) (B:=f.B) hC).1 hc
 have hs:=hd.pos
 have hhi:=hd.hi
 have hlo:=hd.lo
 unfold Fm.disc at h1
 have e1:(rho s f).B=fX s f.B f.C:=rfl
 have e2:(rho s f).A=f.C:=rfl
 rw [e1,e2,Int.mul_assoc] at h1
 generalize (rho s f).C=x at *
 generalize fX s f.B f.C=r at *
 have e3:(f.C.natAbs:Int)*x.natAbs=((f.C*x).natAbs:Int):=by rw [Int.natAbs_mul,Int.natCast_mul]
 have hr:r*r≤(f.C.natAbs:Int)*f.C.natAbs:=by
  have e:(r.natAbs:Int)*r.natAbs=r*r:=by rw [← Int.natCast_mul];exact Int.natAbs_mul_self' r
  rw [← e]
  exact Int.mul_le_mul (by omega) (by omega) (by omega) (by omega)
 have hr0:0≤r*r:=by
  have e:(r.natAbs:Int)*r.natAbs=r*r:=by rw [← Int.natCast_mul];exact Int.natAbs_mul_self' r
  rw [← e]
  exact Int.mul_nonneg (by omega) (by omega)
 have hD:(s+1)*(s+1)≤(f.C.natAbs:Int)*f.C.natAbs:=Int.mul_le_mul (by omega) (by omega) (by omega) (by omega)
 have hx:4*((f.C.natAbs:Int)*x.natAbs)≤(f.C.natAbs:Int)*f.C.natAbs:=by
  rw [e3]
  have hss:=Int.mul_nonneg (Int.le_of_lt hs) (Int.le_of_lt hs)
  omega
 rcases Nat.lt_or_ge x.natAbs f.C.natAbs with q|q
 ·exact q
 ·exfalso
  have h5:(f.C.natAbs:Int)*f.C.natAbs≤f.C.natAbs*x.natAbs:=Z7 (by omega) (by omega)
  have h6:0<(f.C.natAbs:Int)*f.C.natAbs:=Int.mul_pos (by omega) (by omega)
  omega
theorem aGQ {D s:Int} (hd:Dis D s) {f:Fm} (h:f.disc=D) (hA:(f.A.natAbs:Int)≤s) (hb0:s -2*f.A.natAbs<f.B) (hb1:f.B≤s):RedF s (rho s f):=by
 obtain ⟨hA0,hC⟩:=cX hd h
 have hs:=hd.pos
 have hhi:=hd.hi
 have hlo:=hd.lo
 have hbb:f.B*f.B≤s*s:=by
  have e:(f.B.natAbs:Int)*f.B.natAbs=f.B*f.B:=by rw [← Int.natCast_mul];exact Int.natAbs_mul_self' f.B
  rw [← e]
  exact Int.mul_le_mul (by omega) (by omega) (by omega) (by omega)
 have e1:((f.A.natAbs:Int)*f.C.natAbs)=((f.A*f.C).natAbs:Int):=by rw [Int.natAbs_mul,Int.natCast_mul]
 have hp:4*((f.A.natAbs:Int)*f.C.natAbs)=D -f.B*f.B:=by
  unfold Fm.disc at h
  rw [Int.mul_assoc] at h
  rw [e1]
  omega
 have m2:2*(f.C.natAbs:Int) -f.B≤s:=by
  rcases Int.lt_or_le s (2*(f.C.natAbs:Int) -f.B) with q|q
  ·exfalso
   have h2:(s+1 -f.B)*(s+1+f.B)≤2*f.A.natAbs*(2*f.C.natAbs):=Int.mul_le_mul (by omega) (by omega) (by omega) (by omega)
   have h3:2*(f.A.natAbs:Int)*(2*f.C.natAbs)=4*(f.A.natAbs*f.C.natAbs):=by grind
   have h4:(s+1 -f.B)*(s+1+f.B)=(s+1)*(s+1) -f.B*f.B:=by grind
   omega
  ·omega
 have hcs:(f.C.natAbs:Int)≤s:=by omega
 obtain ⟨r1,r2⟩:=(i9 (s:=s) (B:=f.B) hC).2 hcs
 obtain ⟨t,ht⟩:=sI (s:=s) (B:=f.B) (C:=f.C)
 have hc:(0:Int)<f.C.natAbs:=by omega
 have key:2*(f.C.natAbs:Int) -f.B≤fX s f.B f.C:=by
  rcases Int.lt_or_le 0 t with q|q
  ·have:2*(f.C.natAbs:Int)*1≤2*(f.C.natAbs:Int)*t:=Z7 (by omega) (by omega)
   omega
  ·have:2*(f.C.natAbs:Int)*t≤2*(f.C.natAbs:Int)*0:=Z7 q (by omega)
   omega
 refine ⟨?_,r2,?_,?_⟩
 ·show 0<fX s f.B f.C
  omega
 ·show s<2*(f.C.natAbs:Int)+fX s f.B f.C
  omega
 ·show 2*(f.C.natAbs:Int) -fX s f.B f.C≤s
  omega
def rhoN (s:Int):Nat→Fm→Fm
 | 0,f=>f
 | n+1,f=>rhoN s n (rho s f)
theorem aHa {D s:Int} (hd:Dis D s):∀ (k:Nat) (f:Fm),f.disc=D→f.C.natAbs≤k→∃ n,n≤k+2∧RedF s (rhoN s n f)
 | k,f,h,hk=>by
  obtain ⟨_,hC⟩:=cX hd h
  by_cases hc:s<f.C.natAbs
  ·have h1:=aI2 hd h hc
   match k,hk with
   | 0,hk=>omega
   | k+1,hk =>
    obtain ⟨n,h2,h3⟩:=aHa hd k (rho s f) (gV h hC) (by omega)
    exact ⟨n+1,by omega,h3⟩
  ·have hcs:(f.C.natAbs:Int)≤s:=by omega
   obtain ⟨r1,r2⟩:=(i9 (s:=s) (B:=f.B) hC).2 hcs
   exact ⟨2,by omega,aGQ hd (gV h hC) hcs r1 r2⟩
theorem nR:∀ (m:Nat) (l:List Nat),l.Nodup→(∀ x∈l,x<m)→l.length≤m
 | 0,l,_,hl=>by
  cases l with
  | nil=>exact Z0 _
  | cons x r=>exact absurd (hl x (List.mem_cons_self ..)) (by omega)
 | m+1,l,hn,hl=>by
  by_cases hm:m∈l
  ·have hp:=List.perm_cons_erase hm
   have hn':=List.nodup_cons.1 (hp.nodup_iff.1 hn)
   have:=nR m (l.erase m) hn'.2 fun x hx=>by
    have h1:=hl x (hp.mem_iff.2 (List.mem_cons_of_mem _ hx))
    have h2:x≠m:=fun e=>hn'.1 (e ▸ hx)
    omega
   have h3:=hp.length_eq
   rw [List.length_cons] at h3
   omega
  ·have:=nR m l hn fun x hx=>by
    have h1:=hl x hx
    have h2:x≠m:=fun e=>hm (e ▸ hx)
    omega
   omega
theorem eF (s:Int) (m:Nat):∀ (n:Nat) (f:Fm),rhoN s (m+n) f=rhoN s m (rhoN s n f)
 | 0,_=>rfl
 | n+1,f=>eF s m n (rho s f)
structure RD (D s:Int) (f:Fm):Prop where
 h:f.disc=D
 r:RedF s f
theorem RD.rho {D s:Int} (hd:Dis D s) {f:Fm} (h:RD D s f):RD D s (rho s f):=⟨gV h.h (cX hd h.h).2,aSi hd h.h h.r⟩
theorem RD.rhoN {D s:Int} (hd:Dis D s):∀ (n:Nat) {f:Fm},RD D s f→RD D s (rhoN s n f)
 | 0,_,h=>h
 | n+1,_,h=>RD.rhoN hd n (h.rho hd)
theorem RD.inj {D s:Int} (hd:Dis D s):∀ (n:Nat) {f g:Fm},RD D s f→RD D s g→Go.Proofs.YtihcjnpabcejlaaGreat.rhoN s n f=Go.Proofs.YtihcjnpabcejlaaGreat.rhoN s n g→f=g
 | 0,_,_,_,_,h=>h
 | n+1,_,_,hf,hg,h=>aSh hd hf.h hg.h hf.r hg.r (RD.inj hd n (hf.rho hd) (hg.rho hd) h)
def cd (s:Int) (f:Fm):Nat:=(f.A+s).toNat*(s.toNat+1)+f.B.toNat
theorem RD.abs {D s:Int} {f:Fm} (h:RD D s f):(f.A.natAbs:Int)≤s:=by
 have:=h.r.hi
 have:=h.r.b1
 omega
theorem aV5 {D s:Int} (hd:Dis D s) {f:Fm} (h:RD D s f):cd s f<(2*s.toNat+1)*(s.toNat+1):=by
 have h1:=h.abs
 have h2:=h.r.b1
 have h3:=hd.pos
 unfold cd
 have h4:(f.A+s).toNat*(s.toNat+1)≤2*s.toNat*(s.toNat+1):=Nat.mul_le_mul_right _ (by omega)
 rw [Nat.add_mul,Nat.one_mul]
 omega
theorem aNi {D s:Int} (hd:Dis D s) {f g:Fm} (hf:RD D s f) (hg:RD D s g) (h:cd s f=cd s g):f=g:=by
 have a1:=hf.abs
 have a2:=hg.abs
 have b1:=hf.r.b1
 have b2:=hg.r.b1
 have c1:=hf.r.b0
 have c2:=hg.r.b0
 have hs:=hd.pos
 unfold cd at h
 have key:∀ x y u v m:Nat,y<m→v<m→x*m+y=u*m+v→x=u∧y=v:=by
  intro x y u v m hy hv he
  have d1:(x*m+y)/m=x:=by rw [Nat.mul_comm,Nat.mul_add_div (by omega),Nat.div_eq_of_lt hy,Nat.add_zero]
  have d2:(u*m+v)/m=u:=by rw [Nat.mul_comm,Nat.mul_add_div (by omega),Nat.div_eq_of_lt hv,Nat.add_zero]
  have e:x=u:=by rw [← d1,he,d2]
  subst e
  exact ⟨rfl,by omega⟩
 obtain ⟨k1,k2⟩:=key _ _ _ _ _ (by omega) (by omega) h
 have eA:f.A=g.A:=by omega
 have eB:f.B=g.B:=by omega
 have hA:=(cX hd hf.h).1
 have eC:f.C=g.C:=by
  have hf':=hf.h
  have hg':=hg.h
  unfold Fm.disc at hf' hg'
  rw [← eA,← eB] at hg'
  rw [Int.mul_assoc] at hf' hg'
  exact Int.eq_of_mul_eq_mul_left hA (by omega)
 cases f;cases g
 simp only at eA eB eC
 rw [eA,eB,eC]
theorem aH7 {D s:Int} (hd:Dis D s) {f:Fm} (hf:RD D s f):∃ n,1≤n∧n≤(2*s.toNat+1)*(s.toNat+1)∧rhoN s n f=f:=by
 rcases Classical.em (∃ n,1≤n∧n≤(2*s.toNat+1)*(s.toNat+1)∧rhoN s n f=f) with h|h
 ·exact h
 exfalso
 have:=nR ((2*s.toNat+1)*(s.toNat+1)) ((List.range ((2*s.toNat+1)*(s.toNat+1)+1)).map fun i=>cd s (rhoN s i f)) (by
  unfold List.Nodup
  rw [List.pairwise_map]
  refine (List.pairwise_lt_range (n:=(2*s.toNat+1)*(s.toNat+1)+1)).imp_of_mem fun {i j} hi hj hij e=>?_
  have hj:=List.mem_range.1 hj
  have e1:=aNi hd (hf.rhoN hd i) (hf.rhoN hd j) e
  have e2:rhoN s j f=rhoN s i (rhoN s (j -i) f):=by rw [← eF];congr 1;omega
  rw [e2] at e1
  have e3:=RD.inj hd i hf (hf.rhoN hd (j -i)) e1
  exact h ⟨j -i,by omega,by omega,e3.symm⟩) fun x hx=>by
   obtain ⟨i,_,rfl⟩:=List.mem_map.1 hx
   exact aV5 hd (hf.rhoN hd i)
 rw [List.length_map,List.length_range] at this
 omega
theorem vR {a b:Int}:a*b<0↔(a<0∧0<b)∨(0<a∧b<0):=by
 constructor
 ·intro h
  rcases Int.lt_trichotomy a 0 with ha|ha|ha <;> rcases Int.lt_trichotomy b 0 with hb|hb|hb
  ·have:=Int.mul_pos_of_neg_of_neg ha hb;omega
  ·subst hb;omega
  ·exact .inl ⟨ha,hb⟩
  ·subst ha;omega
  ·subst ha;omega
  ·subst ha;omega
  ·exact .inr ⟨ha,hb⟩
  ·subst hb;omega
  ·have:=Int.mul_pos ha hb;omega
 ·rintro (⟨ha,hb⟩|⟨ha,hb⟩)
  ·exact Int.mul_neg_of_neg_of_pos ha hb
  ·exact Int.mul_neg_of_pos_of_neg ha hb
theorem xE {x s:Int} (hs:0≤s) (h:x*x<(s+1)*(s+1)):x≤s:=by
 rcases Int.lt_or_le s x with q|q
 ·have:=Int.mul_le_mul (show s+1≤x by omega) (show s+1≤x by omega) (by omega) (by omega)
  omega
 ·exact q
theorem aHC {x s:Int} (hx:0≤x) (hs:0≤s) (h:s*s<x*x):s<x:=by
 rcases Int.lt_or_le s x with q|q
 ·exact q
 ·have:=Int.mul_le_mul q q hx hs
  omega
theorem sE {D s:Int} (hd:Dis D s) {f:Fm} (h:f.disc=D):RedF s f↔f.A*f.C<0∧0<f.A+f.B+f.C∧f.A -f.B+f.C<0:=by
 constructor
 ·intro hr
  have h1:=nY hd h hr
  obtain ⟨m1,m2⟩:=oZ hd h hr
  have h2:=hr.lo
  have h3:=hr.hi
  refine ⟨h1,?_,?_⟩ <;> rcases vR.1 h1 with ⟨q1,q2⟩|⟨q1,q2⟩ <;> omega
 ·rintro ⟨h1,h2,h3⟩
  have hs:=hd.pos
  have hlo:=hd.lo
  have hhi:=hd.hi
  unfold Fm.disc at h
  have e1:(2*f.A+f.B)*(2*f.A+f.B)=D+4*(f.A*(f.A+f.B+f.C)):=by rw [← h];grind
  have e2:(2*f.A -f.B)*(2*f.A -f.B)=D+4*(f.A*(f.A -f.B+f.C)):=by rw [← h];grind
  have e3:f.B*f.B=D+4*(f.A*f.C):=by rw [← h];grind
  have b0:0<f.B:=by omega
  have b1:f.B≤s:=xE (by omega) (by omega)
  rcases vR.1 h1 with ⟨q1,q2⟩|⟨q1,q2⟩
  ·have p1:=Int.mul_neg_of_neg_of_pos q1 h2
   have p2:=Int.mul_pos_of_neg_of_neg q1 h3
   have e1':(-(2*f.A) -f.B)*(-(2*f.A) -f.B)=(2*f.A+f.B)*(2*f.A+f.B):=by grind
   have e2':(-(2*f.A)+f.B)*(-(2*f.A)+f.B)=(2*f.A -f.B)*(2*f.A -f.B):=by grind
   have k1: -(2*f.A) -f.B≤s:=xE (by omega) (by rw [e1',e1];omega)
   have k2:s< -(2*f.A)+f.B:=aHC (by omega) (by omega) (by rw [e2',e2];omega)
   exact ⟨b0,b1,by omega,by omega⟩
  ·have p1:=Int.mul_pos q1 h2
   have p2:=Int.mul_neg_of_pos_of_neg q1 h3
   have k1:s<2*f.A+f.B:=aHC (by omega) (by omega) (by rw [e1];omega)
   have k2:2*f.A -f.B≤s:=xE (by omega) (by rw [e2];omega)
   exact ⟨b0,b1,by omega,by omega⟩
structure Mx where
 a:Int
 b:Int
 c:Int
 d:Int
def Mx.det (m:Mx):Int:=m.a*m.d -m.b*m.c
def Mx.mul (m n:Mx):Mx:=⟨m.a*n.a+m.b*n.c,m.a*n.b+m.b*n.d,m.c*n.a+m.d*n.c,m.c*n.b+m.d*n.d⟩
def Mx.one:Mx:=⟨1,0,0,1⟩
def Mx.inv (m:Mx):Mx:=⟨m.d,-m.b,-m.c,m.a⟩
def Fm.val (f:Fm) (x y:Int):Int:=f.A*(x*x)+f.B*(x*y)+f.C*(y*y)
def Fm.app (f:Fm) (m:Mx):Fm:=⟨f.val m.a m.c,2*(f.A*(m.a*m.b)+f.C*(m.c*m.d))+f.B*(m.a*m.d+m.b*m.c),f.val m.b m.d⟩
abbrev FLe (f g:Fm) (n m:Nat):Prop:=aE f.A g.A n m∧aE f.B g.B n m∧aE f.C g.C n m∧True
abbrev MLe (f g:Mx) (n m:Nat):Prop:=aE f.a g.a n m∧aE f.b g.b n m∧aE f.c g.c n m∧aE f.d g.d n m∧True
theorem Fm.ext' {f g:Fm} (h1:f.A=g.A) (h2:f.B=g.B) (h3:f.C=g.C):f=g:=by
 cases f;cases g
 simp only at h1 h2 h3
 rw [h1,h2,h3]
theorem aAn (f:Fm):f.app Mx.one=f:=by
 apply Fm.ext' <;> simp [Fm.app,Fm.val,Mx.one]
theorem eI (f:Fm) (m n:Mx):(f.app m).app n=f.app (m.mul n):=by
 apply Fm.ext' <;> simp only [Fm.app,Fm.val,Mx.mul] <;> grind
theorem fJ (m n:Mx):(m.mul n).det=m.det*n.det:=by
 simp only [Mx.det,Mx.mul];grind
theorem rS (m:Mx):m.inv.det=m.det:=by
 simp only [Mx.det,Mx.inv];grind
theorem jH (f:Fm) (m:Mx):(f.app m).disc=m.det*m.det*f.disc:=by
 simp only [Fm.disc,Fm.app,Fm.val,Mx.det];grind
theorem aRg {m:Mx} (h:m.det=1):m.mul m.inv=Mx.one:=by
 unfold Mx.det at h
 simp only [Mx.mul,Mx.inv,Mx.one,Mx.mk.injEq]
 refine ⟨?_,?_,?_,?_⟩ <;> grind
theorem rL {f:Fm} {m:Mx} (h:m.det=1):(f.app m).app m.inv=f:=by rw [eI,aRg h,aAn]
def gZ (s:Int) (f:Fm):Mx:=⟨0,-1,1,cV s f⟩
theorem aPo (s:Int) (f:Fm):(gZ s f).det=1:=by simp [gZ,Mx.det]
theorem wE {s:Int} {f:Fm} (hC:f.C≠0):f.app (gZ s f)=rho s f:=by
 obtain ⟨q,hq⟩:=aCB (s:=s) (B:=f.B) (C:=f.C)
 have hk:cV s f=q:=by unfold cV;rw [hq];exact Int.mul_ediv_cancel_left _ (by omega)
 have hb:fX s f.B f.C=2*f.C*q -f.B:=by omega
 apply Fm.ext' <;> simp only [Fm.app,Fm.val,gZ,rho,hk,hb] <;> grind
def pU (s:Int):Nat→Fm→Mx
 | 0,_=>Mx.one
 | n+1,f=>(gZ s f).mul (pU s n (rho s f))
theorem aDb (s:Int):∀ (n:Nat) (f:Fm),(pU s n f).det=1
 | 0,_=>by simp [pU,Mx.one,Mx.det]
 | n+1,f=>by
  show ((gZ s f).mul (pU s n (rho s f))).det=1
  rw [fJ,aPo,aDb s n,Int.mul_one]
theorem aDa {D s:Int} (hd:Dis D s):∀ (n:Nat) {f:Fm},f.disc=D→f.app (pU s n f)=rhoN s n f
 | 0,f,_=>aAn f
 | n+1,f,h=>by
  show f.app ((gZ s f).mul (pU s n (rho s f)))=rhoN s n (rho s f)
  have hC:=(cX hd h).2
  rw [← eI,wE hC,aDa hd n (gV h hC)]
theorem nF (r:Int):(r.natAbs:Int)*r.natAbs=r*r:=by rw [← Int.natCast_mul];exact Int.natAbs_mul_self' r
def aX (d:Int):Int:=if d<0∨d -fZ d.natAbs*fZ d.natAbs=0∨1<d%4 then 5 else if 65536<d then 2 else 0
def aF (d:Int):Int:=if aX d=0 then fZ d.natAbs else 0
theorem cD {d:Int} (h:aX d=0):Dis d (aF d)∧aF d≤255∧d≤65536∧d%4≤1:=by
 unfold aF
 rw [if_pos h]
 unfold aX at h
 split at h
 ·simp at h
 ·rename_i h1
  split at h
  ·simp at h
  ·rename_i h2
   obtain ⟨k1,k2⟩:=aCo d.natAbs
   have e:(d.natAbs:Int)=d:=by omega
   generalize fZ d.natAbs=r at *
   have k1':(r:Int)*r≤d:=by rw [← e];exact_mod_cast k1
   have k2':d<((r:Int)+1)*(r+1):=by rw [← e];exact_mod_cast k2
   have hne:d -r*r≠0:=fun q=>h1 (.inr (.inl q))
   have h3:d%4≤1:=by omega
   have hr:(r:Int)≤255:=by
    rcases Int.lt_or_le 255 (r:Int) with q|q
    ·exfalso
     have:=Int.mul_le_mul (show (256:Int)≤r by omega) (show (256:Int)≤r by omega) (by omega) (by omega)
     omega
    ·exact q
   have hr0:(0:Int)<r:=by
    rcases Nat.eq_zero_or_pos r with q|q
    ·subst q;simp at k1' k2' hne;omega
    ·omega
   exact ⟨⟨hr0,by omega,k2'⟩,hr,by omega,h3⟩
theorem aUn {d:Int} (h:aX d=0):aF d=fZ d.natAbs:=if_pos h
def jY (f:Fm):Bool:=decide (aX f.disc=0)&&(decide (0<f.B)&&(decide (f.B≤aF f.disc)&&(decide (aF f.disc<2*f.A.natAbs+f.B)&&decide (2*f.A.natAbs -f.B≤aF f.disc))))
theorem qS {f:Fm}:jY f=true↔aX f.disc=0∧RedF (aF f.disc) f:=by
 unfold jY
 simp only [Z3,decide_eq_true_eq]
 exact ⟨fun ⟨a,b,c,d,e⟩=>⟨a,b,c,d,e⟩,fun ⟨a,⟨b,c,d,e⟩⟩=>⟨a,b,c,d,e⟩⟩
theorem lF {f:Fm}:jY f=true↔aX f.disc=0∧RD f.disc (aF f.disc) f :=
 qS.trans ⟨fun h=>⟨h.1,rfl,h.2⟩,fun h=>⟨h.1,h.2.r⟩⟩
theorem aHj {D s:Int} (hd:Dis D s) {f:Fm} (h:f.disc=D) (hc:s<f.C.natAbs):2*(rho s f).C.natAbs≤f.C.natAbs:=by
 have hC:=(cX hd h).2
 have h1:=gV (s:=s) h hC
 obtain ⟨r1,r2⟩:=(i9 (s:=s) (B:=f.B) hC).1 hc
 have hs:=hd.pos
 have hhi:=hd.hi
 have hlo:=hd.lo
 unfold Fm.disc at h1
 have e1:(rho s f).B=fX s f.B f.C:=rfl
 have e2:(rho s f).A=f.C:=rfl
 rw [e1,e2,Int.mul_assoc] at h1
 generalize (rho s f).C=x at *
 generalize fX s f.B f.C=r at *
 have e3:(f.C.natAbs:Int)*x.natAbs=((f.C*x).natAbs:Int):=by rw [Int.natAbs_mul,Int.natCast_mul]
 have hr:r*r≤(f.C.natAbs:Int)*f.C.natAbs:=by
  rw [← nF r]
  exact Int.mul_le_mul (by omega) (by omega) (by omega) (by omega)
 have hr0:0≤r*r:=by
  rw [← nF r]
  exact Int.mul_nonneg (by omega) (by omega)
 have hD:(s+1)*(s+1)≤(f.C.natAbs:Int)*f.C.natAbs:=Int.mul_le_mul (by omega) (by omega) (by omega) (by omega)
 have hx:4*((f.C.natAbs:Int)*x.natAbs)≤(f.C.natAbs:Int)*f.C.natAbs:=by
  rw [e3]
  have hss:=Int.mul_nonneg (Int.le_of_lt hs) (Int.le_of_lt hs)
  omega
 rcases Nat.lt_or_ge f.C.natAbs (2*x.natAbs) with q|q
 ·exfalso
  have h5:(f.C.natAbs:Int)*(f.C.natAbs+1)≤f.C.natAbs*(2*x.natAbs):=Z7 (by omega) (by omega)
  have h6:0<(f.C.natAbs:Int)*f.C.natAbs:=Int.mul_pos (by omega) (by omega)
  have e4:(f.C.natAbs:Int)*(2*x.natAbs)=2*(f.C.natAbs*x.natAbs):=by grind
  have e5:(f.C.natAbs:Int)*(f.C.natAbs+1)=f.C.natAbs*f.C.natAbs+f.C.natAbs:=by grind
  omega
 ·exact q
theorem t6 {s B C:Int} (hs:0<s) (hC:C≠0):(fX s B C).natAbs≤max s.natAbs C.natAbs:=by
 obtain ⟨k1,k2⟩:=i9 (s:=s) (B:=B) hC
 rcases Int.lt_or_le s (C.natAbs:Int) with q|q
 ·have:=k1 q;omega
 ·have:=k2 q;omega
theorem aKu {s B C:Int} (hs:0<s) (hs2:s≤255) (hC:C≠0) {k:Nat} (hk:16≤k) (h:C.natAbs<2^k):(fX s B C).natAbs<2^k:=by
 have:=t6 (B:=B) hs hC
 have:2^16≤2^k:=Nat.pow_le_pow_right (by omega) hk
 omega
theorem aEl {D s:Int} (hd:Dis D s) (hs2:s≤255) {f:Fm} (h:f.disc=D) {k:Nat} (hk:16≤k) (hc:f.C.natAbs<2^k):(rho s f).B.natAbs<2^k∧(rho s f).C.natAbs<2^k:=by
 have hC:=(cX hd h).2
 refine ⟨aKu hd.pos hs2 hC hk hc,?_⟩
 have hp:2^16≤2^k:=Nat.pow_le_pow_right (by omega) hk
 rcases Int.lt_or_le s (f.C.natAbs:Int) with q|q
 ·have:=aHj hd h q;omega
 ·have h1:=gV (s:=s) h hC
  have hr:=t6 (B:=f.B) hd.pos hC
  have hs:=hd.pos
  have hhi:=hd.hi
  have hlo:=hd.lo
  unfold Fm.disc at h1
  have e1:(rho s f).B=fX s f.B f.C:=rfl
  have e2:(rho s f).A=f.C:=rfl
  rw [e1,e2,Int.mul_assoc] at h1
  generalize (rho s f).C=x at *
  generalize fX s f.B f.C=r at *
  have hb:r*r≤65025:=by
   rw [← nF r]
   have:=Int.mul_le_mul (show (r.natAbs:Int)≤255 by omega) (show (r.natAbs:Int)≤255 by omega) (by omega) (by omega)
   omega
  have hr0:0≤r*r:=by
   rw [← nF r]
   exact Int.mul_nonneg (by omega) (by omega)
  have hD:D<65536:=by
   have:=Int.mul_le_mul (show s+1≤256 by omega) (show s+1≤256 by omega) (by omega) (by omega)
   omega
  have hss:=Int.mul_nonneg (Int.le_of_lt hs) (Int.le_of_lt hs)
  have e3:(f.C.natAbs:Int)*x.natAbs=((f.C*x).natAbs:Int):=by rw [Int.natAbs_mul,Int.natCast_mul]
  have h5:(1:Int)*x.natAbs≤f.C.natAbs*x.natAbs:=Int.mul_le_mul_of_nonneg_right (by omega) (by omega)
  omega
theorem aHh {s:Int} {f:Fm} (hC:f.C≠0):2*f.C*cV s f=fX s f.B f.C+f.B:=by
 obtain ⟨q,hq⟩:=aCB (s:=s) (B:=f.B) (C:=f.C)
 have hk:cV s f=q:=by unfold cV;rw [hq];exact Int.mul_ediv_cancel_left _ (by omega)
 rw [hk,hq]
theorem aHg {s:Int} {f:Fm} (hC:f.C≠0):2*(f.C.natAbs*(cV s f).natAbs)≤(fX s f.B f.C).natAbs+f.B.natAbs:=by
 have h:=aHh (s:=s) hC
 have e:(2*f.C*cV s f).natAbs=2*(f.C.natAbs*(cV s f).natAbs):=by
  rw [Int.natAbs_mul,Int.natAbs_mul,Nat.mul_assoc];rfl
 rw [h] at e
 omega
theorem aKv {s:Int} (hs:0<s) (hs2:s≤255) {f:Fm} (hC:f.C≠0) {k:Nat} (hk:16≤k) (hb:f.B.natAbs<2^k) (hc:f.C.natAbs<2^k):(cV s f).natAbs<2^k:=by
 have h1:=aHg (s:=s) hC
 have h2:=aKu (B:=f.B) hs hs2 hC hk hc
 have h3:1*(cV s f).natAbs≤f.C.natAbs*(cV s f).natAbs:=Nat.mul_le_mul_right _ (by omega)
 omega
theorem RD.small {D s:Int} (hd:Dis D s) (hs2:s≤255) {f:Fm} (h:RD D s f):f.A.natAbs<2^8∧f.B.natAbs<2^8∧f.C.natAbs<2^8∧(cV s f).natAbs<2^8:=by
 have h1:=h.abs
 have h2:=h.r.b0
 have h3:=h.r.b1
 obtain ⟨_,h4⟩:=oZ hd h.h h.r
 have hC:=(cX hd h.h).2
 have h5:=aHg (s:=s) hC
 have h6:=t6 (B:=f.B) hd.pos hC
 have h7:1*(cV s f).natAbs≤f.C.natAbs*(cV s f).natAbs:=Nat.mul_le_mul_right _ (by omega)
 have e:(2:Nat)^8=256:=rfl
 rw [e]
 omega
theorem aKs {D s:Int} (hd:Dis D s):∀ (k:Nat) (f:Fm),f.disc=D→f.C.natAbs<2^k→∃ n,n≤k+2∧RedF s (rhoN s n f)
 | 0,f,h,hc=>absurd (cX hd h).2 (by rw [Nat.pow_zero] at hc;omega)
 | k+1,f,h,hc=>by
  have hC:=(cX hd h).2
  rcases Int.lt_or_le s (f.C.natAbs:Int) with q|q
  ·have h1:=aHj hd h q
   rw [Nat.pow_succ] at hc
   obtain ⟨n,h2,h3⟩:=aKs hd k (rho s f) (gV h hC) (by omega)
   exact ⟨n+1,by omega,h3⟩
  ·refine ⟨2,by omega,?_⟩
   have h1:=(i9 (s:=s) (B:=f.B) hC).2 q
   exact aGQ hd (gV h hC) q h1.1 h1.2
def aI (s:Int):Nat→Fm→Mx
 | 0,_=>Mx.one
 | n+1,f=>(aI s n f).mul (gZ s (rhoN s n f))
theorem aIL (a b c:Mx):(a.mul b).mul c=a.mul (b.mul c):=by
 simp only [Mx.mul,Mx.mk.injEq]
 refine ⟨?_,?_,?_,?_⟩ <;> grind
theorem aOm (a:Mx):Mx.one.mul a=a:=by
 cases a
 simp [Mx.mul,Mx.one]
theorem aN7 (a:Mx):a.mul Mx.one=a:=by
 cases a
 simp [Mx.mul,Mx.one]
theorem jC (s:Int) (n:Nat) (f:Fm):rhoN s (n+1) f=rho s (rhoN s n f):=by
 rw [Nat.add_comm,eF]
 rfl
theorem aC7 (s:Int):∀ (n:Nat) (f:Fm),pU s (n+1) f=(pU s n f).mul (gZ s (rhoN s n f))
 | 0,f=>by
  show (gZ s f).mul Mx.one=Mx.one.mul (gZ s f)
  rw [aN7,aOm]
 | n+1,f=>by
  show (gZ s f).mul (pU s (n+1) (rho s f))=((gZ s f).mul (pU s n (rho s f))).mul (gZ s (rhoN s n (rho s f)))
  rw [aC7 s n (rho s f),aIL]
theorem aC9 (s:Int):∀ (n:Nat) (f:Fm),aI s n f=pU s n f
 | 0,_=>rfl
 | n+1,f=>by
  show (aI s n f).mul _=_
  rw [aC9 s n f,aC7]
theorem n9 (s:Int) (n:Nat) (f:Fm):(aI s n f).det=1:=by rw [aC9,aDb]
theorem sT {D s:Int} (hd:Dis D s) (n:Nat) {f:Fm} (h:f.disc=D):f.app (aI s n f)=rhoN s n f:=by rw [aC9,aDa hd n h]
theorem n7 {D s:Int} (hd:Dis D s):∀ (n:Nat) {f:Fm},f.disc=D→(rhoN s n f).disc=D
 | 0,_,h=>h
 | n+1,_,h=>n7 hd n (gV h (cX hd h).2)
structure Mx.bd (m:Mx) (w:Nat):Prop where
 a:m.a.natAbs<2^w
 b:m.b.natAbs<2^w
 c:m.c.natAbs<2^w
 d:m.d.natAbs<2^w
theorem aKN {x y k:Int} {w j:Nat} (hx:x.natAbs<2^w) (hy:y.natAbs<2^w) (hk:k.natAbs<2^j):(x* -1+y*k).natAbs<2^(w+j):=by
 have h1:(y*k).natAbs=y.natAbs*k.natAbs:=Int.natAbs_mul ..
 have h2:y.natAbs*k.natAbs≤(2^w -1)*k.natAbs:=Nat.mul_le_mul_right _ (by omega)
 have h3:(2^w -1)*(k.natAbs+1)≤(2^w -1)*2^j:=Nat.mul_le_mul_left _ hk
 have h4:(2^w -1)*2^j<2^w*2^j:=Nat.mul_lt_mul_of_pos_right (by have:=Nat.two_pow_pos w;omega) (Nat.two_pow_pos j)
 rw [Nat.pow_add]
 rw [Nat.mul_add] at h3
 omega
theorem Mx.bd.step {m:Mx} {w j:Nat} (h:m.bd w) {k:Int} (hk:k.natAbs<2^j):(m.mul ⟨0,-1,1,k⟩).bd (w+j):=by
 have hp:2^w≤2^(w+j):=Nat.pow_le_pow_right (by omega) (by omega)
 refine ⟨?_,aKN h.a h.b hk,?_,aKN h.c h.d hk⟩
 ·have e:(m.mul ⟨0,-1,1,k⟩).a=m.b:=by simp [Mx.mul]
  rw [e];exact Nat.lt_of_lt_of_le h.b hp
 ·have e:(m.mul ⟨0,-1,1,k⟩).c=m.d:=by simp [Mx.mul]
  rw [e];exact Nat.lt_of_lt_of_le h.d hp
theorem Mx.bd.le {m:Mx} {w v:Nat} (h:m.bd w) (hv:w≤v):m.bd v:=by
 have hp:2^w≤2^v:=Nat.pow_le_pow_right (by omega) hv
 exact ⟨Nat.lt_of_lt_of_le h.a hp,Nat.lt_of_lt_of_le h.b hp,Nat.lt_of_lt_of_le h.c hp,Nat.lt_of_lt_of_le h.d hp⟩
structure Fm.bd (f:Fm) (w:Nat):Prop where
 A:f.A.natAbs<2^w
 B:f.B.natAbs<2^w
 C:f.C.natAbs<2^w
theorem aAI {D s:Int} (hd:Dis D s) (hs2:s≤255) {k:Nat} (hk:16≤k):∀ (n:Nat) {f:Fm},f.disc=D→f.bd k→(rhoN s n f).bd k
 | 0,_,_,h=>h
 | n+1,f,e,h=>by
  obtain ⟨h1,h2⟩:=aEl hd hs2 e hk h.C
  exact aAI hd hs2 hk n (gV e (cX hd e).2) ⟨h.C,h1,h2⟩
theorem aC8 {D s:Int} (hd:Dis D s) (hs2:s≤255) {k:Nat} (hk:16≤k) {f:Fm} (e:f.disc=D) (h:f.bd k):∀ (n:Nat),(aI s n f).bd (n*k+1)
 | 0=>by
  show Mx.one.bd _
  simp only [Nat.zero_mul,Nat.zero_add]
  exact ⟨by decide,by decide,by decide,by decide⟩
 | n+1=>by
  have h1:=aAI hd hs2 hk n e h
  have h2:=aKv hd.pos hs2 (cX hd (n7 hd n e)).2 hk h1.B h1.C
  exact ((aC8 hd hs2 hk e h n).step h2).le (by rw [Nat.add_mul];omega)
theorem aH9 {D s:Int} (hd:Dis D s) (hs2:s≤255) {f:Fm} (h:RD D s f):∀ (n:Nat),(aI s n f).bd (n*8+1)
 | 0=>by
  show Mx.one.bd _
  simp only [Nat.zero_mul,Nat.zero_add]
  exact ⟨by decide,by decide,by decide,by decide⟩
 | n+1=>by
  have h1:=(h.rhoN hd n).small hd hs2
  exact ((aH9 hd hs2 h n).step h1.2.2.2).le (by omega)
def cd2 (s:Int) (f:Fm):Nat:=(f.A+s).toNat*(s.toNat/2+1)+f.B.toNat/2
theorem aSs (b:Int):(b*b)%4=b%2:=by
 rw [Int.mul_emod]
 have:b%4=0∨b%4=1∨b%4=2∨b%4=3:=by omega
 rcases this with h|h|h|h <;> rw [h] <;> omega
theorem aGw {D:Int} {f:Fm} (h:f.disc=D):f.B%2=D%4:=by
 unfold Fm.disc at h
 rw [Int.mul_assoc] at h
 have:=aSs f.B
 omega
theorem aT7 {D s:Int} (hd:Dis D s) {f:Fm} (h:RD D s f):cd2 s f<(2*s.toNat+1)*(s.toNat/2+1):=by
 have h1:=h.abs
 have h2:=h.r.b1
 have h3:=hd.pos
 unfold cd2
 have h4:(f.A+s).toNat*(s.toNat/2+1)≤2*s.toNat*(s.toNat/2+1):=Nat.mul_le_mul_right _ (by omega)
 rw [Nat.add_mul,Nat.one_mul]
 omega
theorem aQQ {D s:Int} (hd:Dis D s) {f g:Fm} (hf:RD D s f) (hg:RD D s g) (h:cd2 s f=cd2 s g):f=g:=by
 refine aNi hd hf hg ?_
 have p1:=aGw hf.h
 have p2:=aGw hg.h
 have b1:=hf.r.b1
 have b2:=hg.r.b1
 have c1:=hf.r.b0
 have c2:=hg.r.b0
 unfold cd2 at h
 unfold cd
 have key:∀ x y u v m:Nat,y<m→v<m→x*m+y=u*m+v→x=u∧y=v:=by
  intro x y u v m hy hv he
  have d1:(x*m+y)/m=x:=by rw [Nat.mul_comm,Nat.mul_add_div (by omega),Nat.div_eq_of_lt hy,Nat.add_zero]
  have d2:(u*m+v)/m=u:=by rw [Nat.mul_comm,Nat.mul_add_div (by omega),Nat.div_eq_of_lt hv,Nat.add_zero]
  have e:x=u:=by rw [← d1,he,d2]
  subst e
  exact ⟨rfl,by omega⟩
 obtain ⟨k1,k2⟩:=key _ _ _ _ _ (by omega) (by omega) h
 rw [k1]
 omega
theorem aQU {D s:Int} (hd:Dis D s) {f:Fm} (hf:RD D s f):∃ n,1≤n∧n≤(2*s.toNat+1)*(s.toNat/2+1)∧rhoN s n f=f:=by
 rcases Classical.em (∃ n,1≤n∧n≤(2*s.toNat+1)*(s.toNat/2+1)∧rhoN s n f=f) with h|h
 ·exact h
 exfalso
 have:=nR ((2*s.toNat+1)*(s.toNat/2+1)) ((List.range ((2*s.toNat+1)*(s.toNat/2+1)+1)).map fun i=>cd2 s (rhoN s i f)) (by
  unfold List.Nodup
  rw [List.pairwise_map]
  refine (List.pairwise_lt_range (n:=(2*s.toNat+1)*(s.toNat/2+1)+1)).imp_of_mem fun {i j} hi hj hij e=>?_
  have hj:=List.mem_range.1 hj
  have e1:=aQQ hd (hf.rhoN hd i) (hf.rhoN hd j) e
  have e2:rhoN s j f=rhoN s i (rhoN s (j -i) f):=by rw [← eF];congr 1;omega
  rw [e2] at e1
  have e3:=RD.inj hd i hf (hf.rhoN hd (j -i)) e1
  exact h ⟨j -i,by omega,by omega,e3.symm⟩) fun x hx=>by
   obtain ⟨i,_,rfl⟩:=List.mem_map.1 hx
   exact aT7 hd (hf.rhoN hd i)
 rw [List.length_map,List.length_range] at this
 omega
def aG9:Nat→Int→Fm→Nat
 | 0,_,_=>0
 | k+1,s,f=>cond (jY f) 0 (aG9 k s (rho s f)+1)
def cL (f:Fm):Nat:=aG9 (f.C.natAbs+3) (aF f.disc) f
theorem tY (s:Int):∀ (k n:Nat) (f:Fm),n<k→jY (rhoN s n f)=true→(∀ i,i<n→jY (rhoN s i f)=false)→aG9 k s f=n
 | 0,_,_,h,_,_=>absurd h (by omega)
 | k+1,0,f,_,h,_=>by
  have h:jY f=true:=h
  simp [aG9,h]
 | k+1,n+1,f,hk,h,hl=>by
  have h0:jY f=false:=hl 0 (by omega)
  simp only [aG9,h0,Z5]
  rw [tY s k n (rho s f) (by omega) h fun i hi=>hl (i+1) (by omega)]
theorem least {p:Nat→Bool}:∀ (n:Nat),p n=true→∃ m,m≤n∧p m=true∧∀ i,i<m→p i=false
 | 0,h=>⟨0,Z0 _,h,fun i hi=>by omega⟩
 | n+1,h=>by
  cases h0:p 0 with
  | true=>exact ⟨0,by omega,h0,fun i hi=>by omega⟩
  | false =>
   obtain ⟨m,h1,h2,h3⟩:=least (p:=fun i=>p (i+1)) n h
   refine ⟨m+1,by omega,h2,fun i hi=>?_⟩
   cases i with
   | zero=>exact h0
   | succ i=>exact h3 i (by omega)
theorem aIM (n:Nat):n<2^n:=Nat.lt_two_pow_self
theorem aCX {f:Fm} (h:aX f.disc=0) {k:Nat} (hk:f.C.natAbs<2^k) :
  cL f≤k+2∧jY (rhoN (aF f.disc) (cL f) f)=true∧(∀ i,i<cL f→jY (rhoN (aF f.disc) i f)=false):=by
 obtain ⟨hd,_⟩:=cD h
 have tr:∀ {n},RedF (aF f.disc) (rhoN (aF f.disc) n f)→jY (rhoN (aF f.disc) n f)=true:=fun {n} hn=>by
  rw [qS,n7 hd n rfl];exact ⟨h,hn⟩
 obtain ⟨n,h1,h2⟩:=aKs hd k f rfl hk
 obtain ⟨n',h1',h2'⟩:=aHa hd f.C.natAbs f rfl (Z0 _)
 obtain ⟨m,k1,k2,k3⟩:=least (p:=fun n=>jY (rhoN (aF f.disc) n f)) n (tr h2)
 have hm:m≤n':=by
  rcases Nat.lt_or_ge n' m with q|q
  ·have q1:=k3 n' q
   have q2:=tr h2'
   simp only [q2] at q1
   simp at q1
  ·exact q
 have e:cL f=m:=tY _ _ m f (by omega) k2 k3
 rw [e]
 exact ⟨by omega,k2,k3⟩
def aG8 (f:Fm):Fm:=rhoN (aF f.disc) (cL f) f
def aSb (f:Fm):Mx:=aI (aF f.disc) (cL f) f
instance:DecidableEq Fm:=fun f g=>decidable_of_iff (f.A=g.A∧f.B=g.B∧f.C=g.C) ⟨fun h=>Fm.ext' h.1 h.2.1 h.2.2,fun h=>by subst h;exact ⟨rfl,rfl,rfl⟩⟩
def aKm:Nat→Int→Fm→Fm→Nat
 | 0,_,_,_=>1
 | k+1,s,f,g=>cond (decide (g.A=f.A)&&(decide (g.B=f.B)&&decide (g.C=f.C))) 1 (aKm k s f (rho s g)+1)
def bB (f:Fm):Nat:=aKm ((2*(aF f.disc).toNat+1)*((aF f.disc).toNat/2+1)) (aF f.disc) f (rho (aF f.disc) f)
def tH (f g:Fm):Bool:=decide (g.A=f.A)&&(decide (g.B=f.B)&&decide (g.C=f.C))
theorem yS {f g:Fm}:tH f g=true↔g=f:=by
 unfold tH
 simp only [Z3,decide_eq_true_eq]
 exact ⟨fun ⟨a,b,c⟩=>Fm.ext' a b c,fun h=>by subst h;exact ⟨rfl,rfl,rfl⟩⟩
theorem aCt (s:Int) (f:Fm):∀ (k n:Nat) (g:Fm),n≤k→tH f (rhoN s n g)=true→(∀ i,i<n→tH f (rhoN s i g)=false)→aKm k s f g=n+1
 | 0,n,g,hn,_,_=>by
  obtain rfl:n=0:=by omega
  rfl
 | k+1,0,g,_,h,_=>by
  have h:tH f g=true:=h
  show cond (tH f g) 1 _=_
  simp [h]
 | k+1,n+1,g,hk,h,hl=>by
  have h0:tH f g=false:=hl 0 (by omega)
  show cond (tH f g) 1 (aKm k s f (rho s g)+1)=_
  rw [h0,Z5,aCt s f k n (rho s g) (by omega) h fun i hi=>hl (i+1) (by omega)]
theorem v8 {f:Fm} (h:jY f=true):1≤bB f∧bB f≤(2*(aF f.disc).toNat+1)*((aF f.disc).toNat/2+1)∧rhoN (aF f.disc) (bB f) f=f∧∀ i,1≤i→i<bB f→rhoN (aF f.disc) i f≠f:=by
 obtain ⟨h0,hr⟩:=lF.1 h
 obtain ⟨hd,_⟩:=cD h0
 obtain ⟨n,h1,h2,h3⟩:=aQU hd hr
 obtain ⟨m,k1,k2,k3⟩:=least (p:=fun n=>tH f (rhoN (aF f.disc) n (rho (aF f.disc) f))) (n -1) (yS.2 (by
  show rhoN (aF f.disc) (n -1+1) f=f
  rw [Nat.sub_add_cancel h1];exact h3))
 have e:bB f=m+1:=aCt _ _ _ m _ (by omega) k2 k3
 rw [e]
 refine ⟨by omega,by omega,yS.1 k2,fun i hi hi2 q=>?_⟩
 have q1:=k3 (i -1) (by omega)
 have q2:tH f (rhoN (aF f.disc) (i -1) (rho (aF f.disc) f))=true:=yS.2 (by
  show rhoN (aF f.disc) (i -1+1) f=f
  rw [Nat.sub_add_cancel hi];exact q)
 simp only [q2] at q1
 simp at q1
theorem aOK {f:Fm} (h:jY f=true):bB f≤65408:=by
 obtain ⟨h0,hr⟩:=lF.1 h
 obtain ⟨_,hs,_⟩:=cD h0
 have h1:=(v8 h).2.1
 have h2:(2*(aF f.disc).toNat+1)*((aF f.disc).toNat/2+1)≤511*128:=Nat.mul_le_mul (by omega) (by omega)
 omega
inductive KK where
 | int (q:IntKind)
 | str
def pH:List UInt8→Int
 | []=>1
 | b::r=>(b.toNat:Int)+256*pH r
def mO (s:ByteArray):Int:=pH s.data.toList
structure wfS (l:List Int):Prop where
 h:∀ z∈l,∃ s:ByteArray,s.size≤Go.maxLen∧mO s=z
def wfK:KK→List Int→Prop
 | .int q,l=>wfL q l
 | .str,l=>wfS l
def uM:List MV→Option (List Int)
 | []=>some []
 | m::r=>match m with
  | .val v=>(match v with
   | .string s=>(match uM r with|some l=>some (mO s::l)|none=>none)
   | _=>none)
  | _=>none
def aEG:KK→List MV→Option (List Int)
 | .int q,ms=>j4 q ms
 | .str,ms=>uM ms
structure MapC where
 kt:TypeId
 kk:KK
 n:Nat
 f:List Int→Bool
 vk:Option IntKind
structure XS where
 mp:Option (Nat×MapC)
 pe:Option Ex
inductive XAnn where
 | inv (ι:Type) (I:ι→Prop) (T:ι→MS) (X:ι→Option (Nat×MapC)) (μ:ι→Nat)
 | unroll (n:Nat)
structure ItE (P:Program) where
 f:FuncId
 fn:Func
 hf:P.funcs[f]? =some fn
 hc:∀ args w,(callFunc f args).run P w= .ok (.enter f args) w
 E:Env P
 xann:Nat→MS→XS→Option XAnn
structure XE (P:Program) where
 E:Env P
 xann:Nat→MS→XS→Option XAnn
 its:List (ItE P)
 inl:List (ItE P)
 rnp:Nat→Nat
 all:Nat→Option (List Oper)
def qG {P:Program} (f:Nat):List (ItE P)→Option (ItE P)
 | []=>none
 | c::r=>cond (c.f.beq f) (some c) (qG f r)
def aEp (np:Nat):MV→MV
 | .bool b=> .bool b
 | .int k n=> .int k n
 | .val v=> .val v
 | .bp i off=>cond (jG np i) (.bp i off) .any
 | .br i idx off=>cond (jG np i) (.br i idx off) .any
 | .bs i off len=>cond (jG np i) (.bs i off len) .any
 | _=> .any
def d4 (np:Nat):List (Nat×MV)→List (Nat×MV)
 | []=> []
 | (t,m)::r=>(t,aEp np m)::d4 np r
def leX (x:XS) (q:Option (Nat×MapC)):Prop :=
 match x.pe with
 | some _=>False
 | none=>match q with
  | none=>True
  | some (B,m)=>match x.mp with
   | none=>False
   | some (B',m')=>B'=B∧m'.kt=m.kt∧m'.kk=m.kk∧m'.n=m.n∧m'.vk=m.vk∧∀ l,l.length=m.n→m'.f l=m.f l
abbrev XK:=Ex→MS→XS→Prop
structure Hnd where
 L:Nat
 yh:List MV→MS→XS→(List Box→Option (Nat×MapC)→Prop)→(Ex→List Box→Option (Nat×MapC)→Prop)→Prop
 rng:Operand→Array Tmp→Code→Code→MS→XS→XK→Prop
def Hnd.none:Hnd:=⟨0,fun _ _ _ _ _=>False,fun _ _ _ _ _ _ _=>False⟩
inductive XOp where
 | plain
 | mk (t:TypeId)
 | look (t:TypeId) (m k:MV)
 | look2 (t:TypeId) (m k:MV)
 | upd (t:TypeId) (m k v:MV)
 | yield (l:Nat) (args:List MV)
 | inl (f:Nat) (args:List MV)
 | app (i:Nat)
def aTC {P:Program} (X:XE P) (f:Nat):Bool:=match qG f X.inl with|some _=>true|none=>false
def sV {P:Program} (X:XE P) (s:MS) (c:Call):XOp :=
 match c.callee with
 | .value g=>(match s.ev g with
  | .val v=>(match v with
   | .func fn a b=>(match fn with
    | .yield l=>cond (a.size.beq 0&&b.size.beq 0) (.yield l (c.args.toList.map s.ev)) .plain
    | _=> .plain)
   | _=> .plain)
  | .fn f caps=>(match caps with
   | []=>cond (aTC X f) (.inl f (c.args.toList.map s.ev)) .plain
   | _::_=> .plain)
  | _=> .plain)
 | .builtin b=>(match b with
  | .append=>(match c.args.toList with
   | d::_=>(match s.ev d with
    | .bs i _ _=> .app i
    | _=> .plain)
   | []=> .plain)
  | _=> .plain)
 | _=> .plain
def xop {P:Program} (X:XE P) (s:MS) (o:Op):XOp :=
 match o with
 | .makeMap t r=>(match r with|none=> .mk t|some _=> .plain)
 | .lookup t m k ok=>cond ok (.look2 t (s.ev m) (s.ev k)) (.look t (s.ev m) (s.ev k))
 | .mapUpdate t m k v=> .upd t (s.ev m) (s.ev k) (s.ev v)
 | .call c=>sV X s c
 | _=> .plain
def aK4:Option IntKind→Value
 | none=> .bool false
 | some k=> .int k 0
def aJn (P:Program) (t:TypeId) (vk:Option IntKind):Bool :=
 match P.info? t with
 | some i=>(match i.zero with
  | some v=>(match v with
   | .bool b=>(match vk with|none=>!b|some _=>false)
   | .int k n=>(match vk with|none=>false|some q=>k==q&&n==0)
   | _=>false)
  | none=>false)
 | none=>false
def aSy (P:Program) (t:TypeId):Option (Option IntKind) :=
 match P.underlying t with
 | some .bool=>some none
 | some (.int k)=>some (some k)
 | _=>none
def oR (P:Program) (e:TypeId):Option KK :=
 match P.underlying e with
 | some (.int q)=>some (.int q)
 | some .string=>some .str
 | _=>none
def aJ8 (P:Program) (t:TypeId):Option (TypeId×KK×Nat×Option IntKind) :=
 match P.underlying t with
 | some (.map kt et)=>(match aSy P et with
  | some vk=>(match P.underlying kt with
   | some (.array n e)=>(match oR P e with
    | some q=>cond ((P.cellsOf e).beq 1&&(P.cellsOf kt).beq n&&(0).blt P.types.size&&aJn P et vk) (some (kt,q,n,vk)) none
    | none=>none)
   | _=>none)
  | none=>none)
 | _=>none
def MapC.add (m:MapC) (l:List Int):MapC:=⟨m.kt,m.kk,m.n,fun l'=>uX l' l || m.f l',m.vk⟩
def oU (P:Program) (t:TypeId) (mv kv:MV) (x:XS):Option (Prop×Nat×MapC×List Int) :=
 match mv with
 | .val v=>(match v with
  | .map r=>(match r with
   | some B=>(match x.mp with
    | some (B',m)=>(match aJ8 P t with
     | some (kt,q,n,vk)=>(match kv with
      | .st ms=>(match aEG q ms with
       | some l=>cond (l.length.beq n) (some ((B=B'∧m.kt=kt∧m.kk=q∧m.n=n∧m.vk=vk)∧wfK q l,B',m,l)) none
       | none=>none)
      | _=>none)
     | none=>none)
    | none=>none)
   | none=>none)
  | _=>none)
 | _=>none
def aDk (P:Program):Env P:=⟨[], [],0,fun _ _=>none,fun _=> [],fun _ _=>none⟩
def aLV (t:Nat) (m:MV):List (Nat×MV)→List (Nat×MV)
 | []=> [(t,m)]
 | (u,x)::r=>cond (u.blt t) ((u,x)::aLV t m r) (cond (u.beq t) ((t,m)::r) ((t,m)::(u,x)::r))
def MS.putSO (s:MS) (d:Option Nat) (m:MV):MS:=match d with|some t=>⟨s.n,aLV t m s.tm,s.bx,s.np⟩|none=>s
def yA (i:Nat):List (Nat×MV)→Bool
 | []=>true
 | (_,m)::r=>!(m.ment i)&&yA i r
def o9 (s:MS) (o:Oper):Act1→Option (OProp×MS)
 | .val p m=>some (p,s.putSO o.dst m)
 | .upd p s' m=>some (p,s'.putSO o.dst m)
 | _=>none
def aV2 (s:MS) (o:Op):Option Nat :=
 match o with
 | .call c=>(match c.args.toList with
  | d::_=>(match s.ev d with| .bs i _ _=>some i|_=>none)
  | []=>none)
 | _=>none
def aGP (d:Nat):Box:=⟨false,.one (.tup [.junk d])⟩
def aNN (d:Nat):MV→Bool
 | .tup ms=>(match ms with
  | m::_=>(match m with| .junk k=>k.beq d|_=>false)
  | []=>false)
 | _=>false
def r6 (d:Nat) (b:Box):Bool:=match b.c with| .one m=>aNN d m|_=>false
def vC (d:Nat):List Box→Nat→Option Nat
 | [],_=>none
 | b::r,i=>cond (r6 d b) (some i) (vC d r (i+1))
def aB5 (s:MS) (o:Oper):Option Nat:=match o.dst with|some d=>vC d s.bx 0|none=>none
def nM:List Oper→List Box
 | []=> []
 | o::r=>match o.dst with
  | some d=>(match o.op with
   | .alloc _=>aGP d::nM r
   | .buildSlice _ len _=>cond (len.beq 0) (aGP d::nM r) (nM r)
   | _=>nM r)
  | none=>nM r
def MS.ghosts (fl:List Nat) (L:List Oper) (s:MS):MS:=match fl with|[]=>s|_::_=>{ s with bx:=s.bx++nM L }
def sS (P:Program) (s:MS) (o:Oper):Option (OProp×MS) :=
 match o.guard with
 | some _=>none
 | none=>cond (gF o.dst s.n) (match aB5 s o with
  | some id=>(match iH (aDk P) s o.op with
   | .new p b mk=>some (p,({ s with bx:=aO s.bx id b }:MS).putSO o.dst (mk id))
   | _=>none)
  | none=>match o.op with
  | .buildSlice t len parts=>(match bS P t len (parts.toList.map fun (i,x)=>(i,s.ev x)) with
   | .new p b _=>(match b.c with
    | .rows wd n f=>cond (!b.fz&&yA s.bx.length s.tm&&fA s.bx.length 0 s.bx) (some (p,s.putSO o.dst (.sl wd n f))) none
    | _=>none)
   | _=>none)
  | .call _=>(match aV2 s o.op with
   | some i=>o9 (s.forget i) o (iH (aDk P) (s.forget i) o.op)
   | none=>none)
  | _=>o9 s o (iH (aDk P) s o.op)) none
def aAk (P:Program):List Oper→List Bool→MS→Option MS
 | o::r,f::fs,s=>cond f (match sS P s o with|some (_,s')=>aAk P r fs s'|none=>none) (aAk P r fs s)
 | _,_,s=>some s
def aCF (P:Program):List Oper→MS→List OProp
 | [],_=> []
 | o::r,s=>match sS P s o with
  | some (p,s')=>p::aCF P r s'
  | none=> []
def s8:Nat→List (List Bool)
 | 0=> [[]]
 | n+1=>(s8 n).map (false::·)++(s8 n).map (true::·)
def oH (fl:List Bool) (o:Oper):Bool:=o.after.toList.all fun e=>!(Region.binds .any e) || fl.getD e.on false
def uV:List Oper→List Bool→List Bool→Bool
 | o::r,f::fs,fl=>(!f || oH fl o)&&uV r fs fl
 | _,_,_=>true
def m5:Nat→List Oper→List Bool→List Bool→List (Nat×Oper)
 | k,o::r,f::fs,fl=>cond (!f&&oH fl o) ((k,o)::m5 (k+1) r fs fl) (m5 (k+1) r fs fl)
 | _,_,_,_=> []
def aGx (P:Program) (ops:List Oper) (s:MS):List (List Bool)→List (List (Option (Option (OProp×MS))))
 | []=> []
 | fl::r=>cond (uV ops fl fl) ((m5 0 ops fl fl).map fun (_,o)=>match aAk P ops fl s with|some s1=>some (sS P s1 o)|none=>none) []::aGx P ops s r
def aGy (P:Program) (ops:List Oper) (s:MS) (ps:List OProp):List (List Bool)→List (List (Option (Option (OProp×MS))))
 | []=> []
 | fl::r=>cond (uV ops fl fl) ((m5 0 ops fl fl).map fun (k,_)=>match aAk P ops (fl.set k true) s with|some s2=>some (some (ps.getD k none,s2))|none=>none) []::aGy P ops s ps r
def aIY:List OProp→Prop→Prop
 | [],q=>q
 | p::r,q=>lE p (aIY r q)
structure DrawOk (P:Program) (ops:List Oper) (s:MS):Prop where
 h:aGx P ops s (s8 ops.length)=aGy P ops s (aCF P ops s) (s8 ops.length)
def aTw (P:Program) (ops:List Oper) (s:MS) (K:MS→Prop):Prop :=
 eJ 0 ops=true∧DrawOk P ops s∧aIY (aCF P ops s) (match aAk P ops (replicate ops.length true) s with|some s'=>K s'|none=>False)
def aJS {P:Program} (ie:ItE P) (args:List MV) (s:MS) (K:MV→List Box→Prop):Prop :=
 match ie.fn.body with
 | some c=>(match ie.fn.results.toList with
  | [.tmp t]=>cond (args.length.ble ie.fn.ntmps&&s.bx.length.blt 1048576) (fB ie.E (fun _=>False) c ⟨ie.fn.ntmps,dV 0 args,s.bx,s.bx.length⟩ (fun e s'=>match e with
    | .exit _=>False
    | _=>K (look t s'.tm) s'.bx)) False
  | _=>False)
 | none=>False
def aVo {P:Program} (X:XE P) (s:MS) (o:Oper):Option Nat :=
 cond (aLI (X.E.fzs 999997)) (match o.op with
  | .alloc _=>(match o.dst with
   | some d=>(match look d s.tm with
    | .bp i off=>cond (off.beq 0&&!(jG s.np i)&&fA i 0 s.bx) (some i) none
    | _=>none)
   | none=>none)
  | _=>none) none
def aUf {P:Program} (X:XE P) (i:Nat) (o:Oper) (s:MS) (x:XS) (K:MS→XS→Prop):Prop :=
 match o.guard with
 | some _=>bW o.op s
 | none=>cond (gF o.dst s.n) (match iH X.E s o.op with
  | .new p b mk=>lE p <| K ((⟨s.n,kV i s.tm,aO s.bx i b,s.np⟩:MS).putO o.dst (mk i)) x
  | _=>bW o.op s) (bW o.op s)
def aEU {P:Program} (X:XE P) (ops:List Oper) (o:Oper) (s:MS) (x:XS) (K:MS→XS→Prop):Prop :=
 match xop X s o.op with
 | .plain=>gG X.E ops (fun _=>False) [o] s (fun s'=>K s' x)
 | .app i=>gG X.E ops (fun _=>False) [o] (s.forget i) (fun s'=>K s' x)
 | k=>(match o.guard with
  | some _=>bW o.op s
  | none=>cond (gF o.dst s.n) (match k with
   | .look t m kv=>(match oU P t m kv x with
    | some (p,_,m,l)=>(match m.vk with
     | none=>p∧K (s.putO o.dst (.bool (m.f l))) x
     | some _=>bW o.op s)
    | none=>bW o.op s)
   | .upd t m kv v=>(match oU P t m kv x with
    | some (p,B,m,l)=>(match v with
     | .bool b=>(match o.dst with
      | none=>(match m.vk with
       | none=>(p∧b=true)∧K s ⟨some (B,m.add l),x.pe⟩
       | some _=>bW o.op s)
      | some _=>bW o.op s)
     | _=>bW o.op s)
    | none=>bW o.op s)
   | .inl f args=>cond (args.all fun m=>!m.isTup) (match qG f X.inl with
    | some ie=>aJS ie args s (fun m bx=>K ((⟨s.n,d4 s.bx.length s.tm,bx,s.np⟩:MS).putO o.dst m) x)
    | none=>bW o.op s) (bW o.op s)
   | _=>bW o.op s) (bW o.op s))
def aIq {P:Program} (X:XE P) (ops:List Oper):List Oper→MS→XS→(MS→XS→Prop)→Prop
 | [],s,x,K=>K s x
 | o::r,s,x,K=>aEU X ops o s x (fun s' x'=>aIq X ops r s' x' K)
def aDT {P:Program} (X:XE P) (ops:List Oper) (s:MS) (x:XS) (K:MS→XS→Prop):Prop :=
 let ms:=gR [] ops
 let n:=iE 0 ms
 cond (mG ops n 0 ms ops&&eJ 0 ops)
  (mS X.E ops ms (fun _=>False) (fun s1=>aIq X ops (ops.drop n) s1 x K) (ops.take n) none [] [] 0 s) aDx
def aEV {P:Program} (X:XE P) (H:Hnd) (ops:List Oper) (o:Oper) (s:MS) (x:XS) (K:MS→XS→Prop):Prop :=
 match aVo X s o with
 | some i=>aUf X i o s x K
 | none=>match xop X s o.op with
 | .plain=>gG X.E ops (fun _=>False) [o] s (fun s'=>K s' x)
 | .app i=>gG X.E ops (fun _=>False) [o] (s.forget i) (fun s'=>K s' x)
 | k=>(match o.guard with
  | some _=>bW o.op s
  | none=>cond (gF o.dst s.n) (match k with
   | .mk t=>(match aJ8 P t with
    | some (kt,q,n,vk)=>(match x.mp with
     | none=>∀ B:Nat,K (s.putO o.dst (.val (.map (some B)))) ⟨some (B,⟨kt,q,n,fun _=>false,vk⟩),x.pe⟩
     | some _=>bW o.op s)
    | none=>bW o.op s)
   | .look t m kv=>(match oU P t m kv x with
    | some (p,_,m,l)=>(match m.vk with
     | none=>p∧K (s.putO o.dst (.bool (m.f l))) x
     | some _=>bW o.op s)
    | none=>bW o.op s)
   | .look2 t m kv=>(match oU P t m kv x with
    | some (p,_,m,l)=>(match m.vk with
     | none=>bW o.op s
     | some k=>p∧∀ z:Int,K (s.putO o.dst (.tup [.int k z,.bool (m.f l)])) x)
    | none=>bW o.op s)
   | .upd t m kv v=>(match oU P t m kv x with
    | some (p,B,m,l)=>(match v with
     | .bool b=>(match o.dst with
      | none=>(match m.vk with
       | none=>(p∧b=true)∧K s ⟨some (B,m.add l),x.pe⟩
       | some _=>bW o.op s)
      | some _=>bW o.op s)
     | .int k _=>(match o.dst with
      | none=>(match m.vk with
       | none=>bW o.op s
       | some q=>(p∧k=q)∧K s ⟨some (B,m.add l),x.pe⟩)
      | some _=>bW o.op s)
     | _=>bW o.op s)
    | none=>bW o.op s)
   | .yield l args=>cond (args.all fun m=>!m.isTup) (match x.pe with
    | none=>l=H.L∧H.yh args s x (fun bx mp=>K ((⟨s.n,d4 s.np s.tm,bx,s.np⟩:MS).putO o.dst (.bool true)) ⟨mp,none⟩)
      (fun e bx mp=>K ((⟨s.n,d4 s.np s.tm,bx,s.np⟩:MS).putO o.dst (.bool false)) ⟨mp,some e⟩)
    | some _=>bW o.op s) (bW o.op s)
   | .inl f args=>cond (args.all fun m=>!m.isTup) (match qG f X.inl with
    | some ie=>aJS ie args s (fun m bx=>K ((⟨s.n,d4 s.bx.length s.tm,bx,s.np⟩:MS).putO o.dst m) x)
    | none=>bW o.op s) (bW o.op s)
   | _=>bW o.op s) (bW o.op s))
def aIr {P:Program} (X:XE P) (H:Hnd) (ops:List Oper):List Oper→MS→XS→(MS→XS→Prop)→Prop
 | [],s,x,K=>K s x
 | o::r,s,x,K=>aEV X H ops o s x (fun s' x'=>aIr X H ops r s' x' K)
def x7 {P:Program} (X:XE P) (H:Hnd) (id:Nat) (ops:List Oper) (draw:Bool) (s:MS) (x:XS) (K:MS→XS→Prop):Prop :=
 match draw with
 | false=>aIr X H ops ops s x K
 | true=>(match X.all id with
  | some L=>aTw P L (s.ghosts (X.E.fzs 999998) L) (fun s'=>K s' x)
  | none=>aDT X ops s x K)
def iJ {P:Program} (X:XE P):Code→Prop
 | .region id ops _=>(match X.all id with|some L=>ops.toList=L|none=>True)
 | .seq a b=>iJ X a∧iJ X b
 | .cond _ a b=>iJ X a∧iJ X b
 | .block _ c=>iJ X c
 | .loop c=>iJ X c
 | .scope c=>iJ X c
 | .rangeFunc _ _ a b=>iJ X a∧iJ X b
 | _=>True
def x9 (F:MS→XS→XK→Prop):Nat→MS→XS→XK→Prop
 | 0,_,_,_=>rK 0
 | n+1,s,x,K=>F s x (fun e s' x'=>match e with| .normal=>x9 F n s' x' K|e=>K e s' x')
def aJT (id:Nat) (F:MS→XS→XK→Prop) (A:Option XAnn) (s:MS) (x:XS) (K:XK):Prop :=
 match A with
 | none=>rK id
 | some (.unroll n)=>x9 F n s x K
 | some (.inv _ I T X μ)=>(∃ i,I i∧aGY s (T i)∧leX x (X i))∧∀ i,I i→F (T i) ⟨X i,none⟩ (fun e s' x'=>match e with
  | .normal=>∃ j,I j∧aGY s' (T j)∧leX x' (X j)∧μ j<μ i
  | e=>K e s' x')
def evX {P:Program} (X:XE P) (H:Hnd):Code→MS→XS→XK→Prop
 | .skip,s,x,K=>K .normal s x
 | .label _,s,x,K=>K .normal s x
 | .region id ops draw,s,x,K=>x7 X H id ops.toList draw (s.frz (X.E.fzs id)) x (K .normal)
 | .seq a b,s,x,K=>evX X H a s x (fun e s' x'=>match e with| .normal=>evX X H b s' x' K|e=>K e s' x')
 | .cond c a b,s,x,K=>(match c with
  | .tmp t=>(match look t s.tm with
   | .bool y=>Br y (evX X H a (s.put t (.bool true)) x K) (evX X H b (s.put t (.bool false)) x K)
   | _=>lO (.cond c .skip .skip))
  | _=>lO (.cond c .skip .skip))
 | .block id c,s,x,K=>evX X H c s x (fun e s' x'=>match e with| .exit j=>cond (j.beq id) (K .normal s' x') (K (.exit j) s' x')|e=>K e s' x')
 | .loop c,s,x,K=>aJT (bZ c) (evX X H c) (X.xann (bZ c) s x) s x K
 | .exit id,s,x,K=>K (.exit id) s x
 | .ret,s,x,K=>K .ret s x
 | .rangeFunc g ps a b,s,x,K=>H.rng g ps a b s x K
 | c,_,_,_=>lO c
def aOb:Op→Bool
 | .defer _=>false
 | _=>true
def eQ:Code→Bool
 | .region _ ops _=>ops.toList.all fun o=>aOb o.op
 | .seq a b=>eQ a&&eQ b
 | .cond _ a b=>eQ a&&eQ b
 | .block _ c=>eQ c
 | .loop c=>eQ c
 | .scope c=>eQ c
 | .rangeFunc _ _ a b=>eQ a&&eQ b
 | _=>true
def aEh:List Tmp→List MV→List (Nat×MV)→List (Nat×MV)
 | p::ps,m::ms,l=>aEh ps ms ((p,m)::l)
 | _,_,l=>l
def aFg {P:Program} (X:XE P) (so:MS) (np:Nat) (ps:Array Tmp) (a b:Code) (ys:List MV) (si:MS) (x:XS) (kN:List Box→Option (Nat×MapC)→Prop) (kX:Ex→List Box→Option (Nat×MapC)→Prop):Prop :=
 cond (ys.length.beq ps.size&&ps.toList.all (fun p=>p.blt so.n)&&si.np.beq np) (evX X Hnd.none a ⟨so.n,aEh ps.toList ys (d4 np so.tm),si.bx,np⟩ ⟨x.mp,none⟩ (fun e s1 x1=>match e with
  | .normal=>evX X Hnd.none b s1 x1 (fun e s2 x2=>match e with
   | .normal=>kN s2.bx x2.mp
   | e=>kX e s2.bx x2.mp)
  | _=>False)) False
def aVp {P:Program} (X:XE P) (g:Operand) (ps:Array Tmp) (a b:Code) (s:MS) (x:XS) (K:XK):Prop :=
 match g with
 | .tmp t=>(match look t s.tm with
  | .fn f caps=>(match qG f X.its with
   | some ie=>(match ie.fn.body with
    | some c=>(match x.pe with
     | none=>cond ((caps.length+1).ble ie.fn.ntmps&&ie.fn.results.size.beq 0&&eQ a&&eQ b&&eQ c)
       (∀ L:Nat,evX { X with E:=ie.E,xann:=ie.xann,all:=fun _=>none } ⟨L,aFg X s (X.rnp (bZ b+1000*s.bx.length)) ps a b,fun _ _ _ _ _ _ _=>False⟩ c
        ⟨ie.fn.ntmps,(0,.val (.func (.yield L) #[] #[]))::dV 1 caps,s.bx,X.rnp (bZ b+1000*s.bx.length)⟩ x (fun e s' x'=>match e with
        | .exit _=>False
        | _=>(match x'.pe with
         | none=>K .normal ⟨s.n,d4 (X.rnp (bZ b+1000*s.bx.length)) s.tm,s'.bx,s.np⟩ ⟨x'.mp,none⟩
         | some e=>K e ⟨s.n,d4 (X.rnp (bZ b+1000*s.bx.length)) s.tm,s'.bx,s.np⟩ ⟨x'.mp,none⟩))) False
     | some _=>False)
    | none=>False)
   | none=>False)
  | _=>False)
 | _=>False
def hFn {P:Program} (X:XE P):Hnd:=⟨0,fun _ _ _ _ _=>False,aVp X⟩
def tC {P:Program} (X:XE P) (fn:Func) (args:List MV) (post:MRes→Prop):Prop :=
 match fn.body with
 | some c=>cond (args.length.ble fn.ntmps&&eQ c) (evX X (hFn X) c ⟨fn.ntmps,dV 0 args, [],0⟩ ⟨none,none⟩ (fun e s _=>match e with
  | .exit _=>False
  | _=>match iA P s fn.results.toList with
   | some (p,l)=>lE p <| post (.ret (nT l))
   | none=>uI s)) False
 | none=>False
structure Moved (N:Nat) (w w':World):Prop where
 os:w'.os=w.os
 output:w'.output=w.output
 size:w.heap.size≤w'.heap.size
 cells:∀ (b:Nat) arr ty fr,w.heap[b]? =some (Obj.cells arr ty fr)→w'.heap[b]? =some (Obj.cells arr ty fr)
 lo:∀ k,k<N→w'.heap[k]? =w.heap[k]?
 frz:∀ a:Addr,a.block<w.heap.size→w'.frozen? a=w.frozen? a
 tape:w'.tape=w.tape
 dr:w.drawn≤w'.drawn
theorem Moved.refl (N:Nat) (w:World):Moved N w w:=⟨rfl,rfl,Z0 _,fun _ _ _ _ h=>h,fun _ _=>rfl,fun _ _=>rfl,rfl,Z0 _⟩
theorem Moved.trans {N:Nat} {a b c:World} (h:Moved N a b) (k:Moved N b c):Moved N a c :=
 ⟨k.os.trans h.os,k.output.trans h.output,Nat.le_trans h.size k.size,fun i x y z e=>k.cells i x y z (h.cells i x y z e),fun i hi=>(k.lo i hi).trans (h.lo i hi),fun x hx=>(k.frz x (Nat.lt_of_lt_of_le hx h.size)).trans (h.frz x hx),k.tape.trans h.tape,Nat.le_trans h.dr k.dr⟩
theorem Moved.alloc {N:Nat} {w:World} (hN:N≤w.heap.size) (o:Obj):Moved N w (w.alloc o):=by
 have hb:∀ k,k<w.heap.size→(w.alloc o).heap[k]? =w.heap[k]? :=fun k hk=>Below.heap_alloc w o k hk
 exact ⟨rfl,rfl,by simp,fun b arr ty fr h=>(hb b (Array.getElem?_eq_some_iff.1 h).1).trans h,fun k hk=>hb k (by omega),fun a ha=>World.frozen?_of_block (hb _ ha),rfl,Z0 _⟩
theorem Moved.put {N:Nat} {w:World} {e:Nat} {o o':Obj} (he:w.heap[e]? =some o) (hN:N≤e) (ho:o.isCells=false) (ho':o'.isCells=false):Moved N w (w.putObj e o'):=by
 have hlt:=(Array.getElem?_eq_some_iff.1 he).1
 refine ⟨rfl,rfl,by simp,fun b arr ty fr h=>?_,fun k hk=>World.putObj_heap_other (by omega),fun a ha=>?_,rfl,Z0 _⟩
 ·refine (World.putObj_heap_other fun q=>?_).trans h
  subst q
  rw [he,Z1] at h
  subst h
  simp [Obj.isCells] at ho
 ·by_cases hk:a.block=e
  ·unfold World.frozen?
   rw [hk,World.putObj_heap_same hlt,he]
   cases o <;> cases o' <;> first|rfl|(simp [Obj.isCells] at ho ho')
  ·exact World.frozen?_of_block (World.putObj_heap_other hk)
theorem seg.moved {N:Nat} {w w':World} (h:Moved N w w') {b off:Nat} {cs:List Value} (s:seg w b off cs):seg w' b off cs:=by
 obtain ⟨arr,ty,fr,h1,h2⟩:=s
 exact ⟨arr,ty,fr,h.cells _ _ _ _ h1,h2⟩
theorem WordsR.moved {N:Nat} {c:Ctx} {w w':World} (h:Moved N w w') {l:List Int} {s:Value} (r:WordsR c w l s):WordsR c w' l s:=by
 obtain ⟨a,cap,h1,h2,h3⟩:=r
 refine ⟨a,cap,h1,h2,fun hl=>?_⟩
 obtain ⟨b,off,h4,h5,h6⟩:=h3 hl
 exact ⟨b,off,h4,h5,h6.moved h⟩
mutual
theorem RepC.moved {N:Nat} {w w':World} (k:Moved N w w'):∀ (m:MV) (c:Ctx) (vs:List Value),RepC c w m vs→RepC c w' m vs
 | .any,c,vs,h=>h
 | .junk n,c,vs,h=>h
 | .bool _,c,vs,h=>h
 | .int _ _,c,vs,h=>h
 | .val _,c,vs,h=>h
 | .big _ _,c,vs,h=>by obtain ⟨s,h1,h2,h3⟩:=h;exact ⟨s,h1,h2,h3.moved k⟩
 | .ws _,c,vs,h=>by obtain ⟨s,h1,h2⟩:=h;exact ⟨s,h1,h2.moved k⟩
 | .sl wd len f,c,vs,h=>by
  obtain ⟨a,cap,h1,h2,h3⟩:=h
  refine ⟨a,cap,h1,h2,fun hl=>?_⟩
  obtain ⟨b,off,h4,h5,h6⟩:=h3 hl
  refine ⟨b,off,h4,h5,fun i hi=>?_⟩
  obtain ⟨cs,h7,h8,h9⟩:=h6 i hi
  exact ⟨cs,h7,RepC.moved k (f i) c.elem cs h8,h9.moved k⟩
 | .st ms,c,vs,h=>RepCs.moved k ms c vs h
 | .ref m,c,vs,h=>by
  obtain ⟨b,off,cs,h1,h2,h3,h4⟩:=h
  exact ⟨b,off,cs,h1,h2,RepC.moved k m c cs h3,h4.moved k⟩
 | .bp i off,c,vs,h=>h
 | .br i _ _,c,vs,h=>h
 | .bs i off len,c,vs,h=>h
 | .tup _,c,vs,h=>h.elim
 | .fn f caps,c,vs,h=>by
  obtain ⟨cs,h1,h2,h3⟩:=h
  exact ⟨cs,h1,RepCs.moved k caps c cs h2,h3⟩
 | .iface t m,c,vs,h=>by
  obtain ⟨cs,u,h1,h2,h3⟩:=h
  exact ⟨cs,u,h1,RepC.moved k m c cs h2,h3⟩
 | .emp,c,vs,h=>h
theorem RepCs.moved {N:Nat} {w w':World} (k:Moved N w w'):∀ (ms:List MV) (c:Ctx) (vs:List Value),RepCs c w ms vs→RepCs c w' ms vs
 | [],c,vs,h=>h
 | m::ms,c,vs,h=>by
  obtain ⟨x,y,h1,h2,h3⟩:=h
  exact ⟨x,y,h1,RepC.moved k m c x h2,RepCs.moved k ms c y h3⟩
end
theorem Rep1.moved {N:Nat} {c:Ctx} {w w':World} (k:Moved N w w') {m:MV} {v:Value} (h:Rep1 c w m v):Rep1 c w' m v:=by
 by_cases hn:m= .any
 ·subst hn;trivial
 ·cases hg:m.isAgg with
  | true =>
   rw [cY hg] at h⊢
   obtain ⟨cs,h1,h2⟩:=h
   exact ⟨cs,h1,RepC.moved k m c _ h2⟩
  | false =>
   rw [aU hg hn] at h⊢
   exact RepC.moved k m c _ h
theorem RepAll.moved {N:Nat} {c:Ctx} {w w':World} (k:Moved N w w'):∀ (ms:List MV) (vs:List Value),RepAll c w ms vs→RepAll c w' ms vs
 | [],_,h=>h
 | _::ms,_,h=>by
  obtain ⟨v,r,h1,h2,h3⟩:=h
  exact ⟨v,r,h1,Rep1.moved k h2,RepAll.moved k ms r h3⟩
theorem Rep.moved {N:Nat} {c:Ctx} {w w':World} (k:Moved N w w') {m:MV} {v:Value} (h:Rep c w m v):Rep c w' m v:=by
 cases hm:m.isTup with
 | false=>exact (bA hm).2 (((bA hm).1 h).moved k)
 | true =>
  cases m <;> simp [MV.isTup] at hm
  obtain ⟨vs,h1,h2⟩:=h
  exact ⟨vs,h1,RepAll.moved k _ _ h2⟩
theorem BCRep.moved {N:Nat} {c:Ctx} {w w':World} (k:Moved N w w') {b:BC} {arr:Array Value} (h:BCRep c w b arr):BCRep c w' b arr:=by
 cases b with
 | one m=>obtain ⟨cs,h1,h2⟩:=h;exact ⟨cs,RepC.moved k m c cs h1,h2⟩
 | arr _ _=>exact h
 | rows wd len f =>
  intro i hi
  obtain ⟨cs,h1,h2,h3⟩:=h i hi
  exact ⟨cs,h1,RepC.moved k (f i) c.elem cs h2,h3⟩
theorem BoxRep.moved {N:Nat} {c:Ctx} {w w':World} (k:Moved N w w') {i:Nat} {b:Box} (h:BoxRep c w i b):BoxRep c w' i b:=by
 obtain ⟨arr,ty,h1,h2,h3,h4⟩:=h
 exact ⟨arr,ty,k.cells _ _ _ _ h1,h2,h3,h4.moved k⟩
def aUA (c:Ctx) (b:Nat):Prop:=∃ i,c.live i∧c.β i=b
abbrev gQ (w:World) (c:Ctx) (pin:Nat→Nat→Sz→Prop) (df:List Deferred):Base:=⟨w,aUA c,pin,df⟩
theorem Mem.moved {S0:Nat→Prop} {w1:Base} {bx:List Box} {c:Ctx} {w w':World} {N:Nat} (h:Mem S0 w1 bx c w) (k:Moved N w w') (pin:Nat→Nat→Sz→Prop) (df:List Deferred)
  (hp:∀ i b z,pin i b z→c.live i∧c.β i=b∧c.sz i=z):Mem S0 (gQ w' c pin df) bx c w':=by
 refine ⟨⟨rfl,rfl,Z0 _,fun _ _ _=>rfl,fun _ _=>rfl,rfl,Z0 _⟩,fun b hb=>⟨?_,?_⟩,⟨fun hg=>?_,fun hg=>?_⟩,h.hS,h.hW,h.inj,fun i hi=>⟨.inr ⟨i,hi,rfl⟩,Nat.lt_of_lt_of_le (h.fresh i hi).2.1 k.size,(h.fresh i hi).2.2⟩,fun i b hi hb=>(h.box i b hi hb).moved k,hp⟩
 ·exact Nat.lt_of_lt_of_le (h.S0lt b hb).1 (Nat.le_trans h.ext.size k.size)
 ·rintro ⟨i,hi,rfl⟩
  exact h.notS0 hi hb
 ·obtain ⟨g1,g2,arr,ty,fr,g3,g4⟩:=h.gl.1 hg
  exact ⟨g1,Nat.lt_of_lt_of_le g2 (Nat.le_trans h.ext.size k.size),arr,ty,fr,k.cells _ _ _ _ ((h.ext.block _ g2 (h.gl.2 hg)).trans g3),g4⟩
 ·rintro ⟨i,hi,e⟩
  obtain ⟨_,g2,_⟩:=h.gl.1 hg
  rcases (h.fresh i hi).1 with q|q
  ·rw [e] at q;exact absurd g2 (by omega)
  ·exact h.gl.2 hg (e ▸ q)
structure Reb (w0 w1:Base):Prop where
 ext:ExtB w0 w1.w
 X:∀ b,w1.X b→w0.new b
theorem Reb.refl (w0:Base):Reb w0 w0:=⟨⟨rfl,rfl,Z0 _,fun _ _ _=>rfl,fun _ _=>rfl,rfl,Z0 _⟩,fun _ h=> .inr h⟩
theorem Reb.end_ {w0 w1:Base} (h:Reb w0 w1) {w:World} (e:ExtB w1 w):ExtB w0 w :=
 ⟨e.os.trans h.ext.os,e.output.trans h.ext.output,Nat.le_trans h.ext.size e.size,fun k hk hx=>(e.block k (Nat.lt_of_lt_of_le hk h.ext.size) (fun q=>(h.X k q).elim (fun r=>by omega) hx)).trans (h.ext.block k hk hx),
  fun a ha=>(e.frz a (Nat.lt_of_lt_of_le ha h.ext.size)).trans (h.ext.frz a ha),e.tape.trans h.ext.tape,Nat.le_trans h.ext.dr e.dr⟩
theorem Reb.move {S0:Nat→Prop} {w0 w1:Base} {bx:List Box} {c:Ctx} {w w':World} (h:Reb w0 w1) (m:Mem S0 w1 bx c w) (k:Moved w0.w.heap.size w w') (pin:Nat→Nat→Sz→Prop) (df:List Deferred):Reb w0 (gQ w' c pin df):=by
 have e:=h.end_ m.ext
 refine ⟨⟨k.os.trans e.os,k.output.trans e.output,Nat.le_trans e.size k.size,fun i hi hx=>(k.lo i hi).trans (e.block i hi hx),fun a ha=>(k.frz a (Nat.lt_of_lt_of_le ha e.size)).trans (e.frz a ha),k.tape.trans e.tape,Nat.le_trans e.dr k.dr⟩,?_⟩
 rintro b ⟨i,hi,rfl⟩
 rcases (m.fresh i hi).1 with q|q
 ·exact .inl (Nat.le_trans h.ext.size q)
 ·exact h.X _ q
structure Extn (w0 w1:Base) (e:Nat) (o:Obj):Prop where
 at_:w1.w.heap[e]? =some o
 notX:¬ w1.X e
 lo:w0.w.heap.size≤e
theorem Extn.now {S0:Nat→Prop} {w0 w1:Base} {bx:List Box} {c:Ctx} {w:World} {e:Nat} {o:Obj} (h:Extn w0 w1 e o) (m:Mem S0 w1 bx c w):w.heap[e]? =some o∧¬ aUA c e:=by
 have hlt:=(Array.getElem?_eq_some_iff.1 h.at_).1
 refine ⟨(m.ext.block e hlt h.notX).trans h.at_,?_⟩
 rintro ⟨i,hi,rfl⟩
 rcases (m.fresh i hi).1 with q|q
 ·omega
 ·exact h.notX q
def qP (D:Nat):Deferred:={ target:= .collected D,args:=#[] }
noncomputable def aHE (z:Int):ByteArray:=@dite _ (∃ s:ByteArray,mO s=z) (Classical.propDecidable _) (fun h=>Classical.choose h) (fun _=>ByteArray.empty)
noncomputable def vG:KK→Int→Value
 | .int q,z=> .int q z
 | .str,z=> .string (aHE z)
noncomputable def jT (q:KK) (l:List Int):Value:= .agg (l.map (vG q)).toArray
structure MapTy (P:Program) (m:MapC):Prop where
 ex:∃ e,WideMaps.ArrKey P m.kt e m.n∧oR P e=some m.kk
 size:∃ k,P.types.size=k+1
def aJq:Option IntKind→Value→Prop
 | none,v=>v= .bool true
 | some k,v=>∃ z,v= .int k z
def MapOk (m:MapC) (o:Obj):Prop:=∃ es clock,o= .map es clock∧(∀ e∈es.toList,∃ l,l.length=m.n∧wfK m.kk l∧e.key=jT m.kk l∧aJq m.vk e.val∧m.f l=true)∧
 ∀ l,l.length=m.n→m.f l=true→∃ e∈es.toList,e.key=jT m.kk l
structure Out (P:Program) (w0 w1:Base) (zl:List (Nat×Obj)) (Ds:List Nat) (mp:Option (Nat×MapC)):Prop where
 reb:Reb w0 w1
 nd:Ds.Nodup
 ds:∀ D∈Ds,Extn w0 w1 D (.deferred (some []))
 zs:∀ z∈zl,Extn w0 w1 z.1 z.2
 mp:∀ B m,mp=some (B,m)→MapTy P m∧∃ o,MapOk m o∧Extn w0 w1 B o
 dis:∀ z∈zl,z.1 ∉ Ds
def XSt (P:Program) (S0:Nat→Prop) (w0:Base) (pin:Nat→Nat→Sz→Prop) (zs:Option Ex→List (Nat×Obj)) (s:MS) (x:XS) (c:Ctx) (a:Act) (w:World):Prop :=
 ∃ (w1:Base) (Ds:List Nat),Out P w0 w1 (zs x.pe) Ds x.mp∧St S0 w1 s c a w∧(∀ i b z,pin i b z→w1.pin i b z)∧w1.df=Ds.map qP
theorem Extn.move {S0:Nat→Prop} {w0 w1:Base} {bx:List Box} {c:Ctx} {w w':World} {e:Nat} {o:Obj} (h:Extn w0 w1 e o) (m:Mem S0 w1 bx c w) (hw:w'.heap[e]? =w.heap[e]?) (pin:Nat→Nat→Sz→Prop) (df:List Deferred):Extn w0 (gQ w' c pin df) e o :=
 let ⟨h1,h2⟩:=h.now m
 ⟨hw.trans h1,h2,h.lo⟩
theorem MapOk.notCells {m:MapC} {o:Obj} (h:MapOk m o):o.isCells=false:=by
 obtain ⟨es,clock,rfl,_⟩:=h
 rfl
theorem Out.move {P:Program} {S0:Nat→Prop} {w0 w1:Base} {zl:List (Nat×Obj)} {Ds:List Nat} {mp:Option (Nat×MapC)} {bx:List Box} {c:Ctx} {w w':World} (h:Out P w0 w1 zl Ds mp) (m:Mem S0 w1 bx c w) (k:Moved w0.w.heap.size w w')
  (he:∀ e,e<w.heap.size→¬ aUA c e→w'.heap[e]? =w.heap[e]?) (pin:Nat→Nat→Sz→Prop) (df:List Deferred):Out P w0 (gQ w' c pin df) zl Ds mp:=by
 have hx:∀ e o,Extn w0 w1 e o→Extn w0 (gQ w' c pin df) e o:=fun e o q=>by
  have:=q.now m
  exact q.move m (he e (Array.getElem?_eq_some_iff.1 this.1).1 this.2) pin df
 exact ⟨h.reb.move m k pin df,h.nd,fun D hD=>hx _ _ (h.ds D hD),fun z hz=>hx _ _ (h.zs z hz),fun B m hB=>by
  obtain ⟨q1,o,q2,q3⟩:=h.mp B m hB
  exact ⟨q1,o,q2,hx _ _ q3⟩,h.dis⟩
theorem XSt.with_ {P:Program} {S0:Nat→Prop} {w0:Base} {pin:Nat→Nat→Sz→Prop} {zs:Option Ex→List (Nat×Obj)} {s:MS} {x:XS} {c:Ctx} {a:Act} {w:World} (h:XSt P S0 w0 pin zs s x c a w) :
  ∃ w1,St S0 w1 s c a w∧Reb w0 w1∧∀ s' c' a' w',St S0 w1 s' c' a' w'→XSt P S0 w0 pin zs s' x c' a' w':=by
 obtain ⟨w1,Ds,h1,h2,h3,h4⟩:=h
 exact ⟨w1,h2,h1.reb,fun s' c' a' w' hs=>⟨w1,Ds,h1,hs,h3,h4⟩⟩
theorem XSt.le {P:Program} {S0:Nat→Prop} {w0:Base} {pin:Nat→Nat→Sz→Prop} {zs:Option Ex→List (Nat×Obj)} {s t:MS} {x:XS} {q:Option (Nat×MapC)} {c:Ctx} {a:Act} {w:World} (h:XSt P S0 w0 pin zs s x c a w) (hle:aGY s t) (hx:leX x q):∃ c',XSt P S0 w0 pin zs t ⟨q,none⟩ c' a w:=by
 obtain ⟨w1,Ds,h1,h2,h3,h4⟩:=h
 obtain ⟨c',h2'⟩:=h2.le hle
 unfold leX at hx
 split at hx
 ·exact hx.elim
 ·rename_i hpe
  refine ⟨c',w1,Ds,⟨h1.reb,h1.nd,h1.ds,by rw [← hpe];exact h1.zs,fun B m hBm=>?_,by rw [← hpe];exact h1.dis⟩,h2',h3,h4⟩
  simp only at hBm
  subst hBm
  simp only at hx
  split at hx
  ·exact hx.elim
  ·rename_i B' m' hmp
   obtain ⟨rfl,e1,e2,e3,e4,hf⟩:=hx
   obtain ⟨⟨⟨e,k1,k2⟩,k3⟩,o,⟨es,clock,ho,o1,o2⟩,hext⟩:=h1.mp B' m' hmp
   rw [e1,e3] at k1
   rw [e2] at k2
   refine ⟨⟨⟨e,k1,k2⟩,k3⟩,o,⟨es,clock,ho,fun y hy=>?_,fun l hl hfl=>?_⟩,hext⟩
   ·obtain ⟨l,q1,q2,q3,q4,q5⟩:=o1 y hy
    exact ⟨l,q1.trans e3,by rw [← e2];exact q2,by rw [← e2];exact q3,by rw [← e4];exact q4,by rw [← hf l (q1.trans e3)];exact q5⟩
   ·obtain ⟨y,hy,hk⟩:=o2 l (hl.trans e3.symm) (by rw [hf l hl];exact hfl)
    exact ⟨y,hy,by rw [← e2];exact hk⟩
section
theorem xU:∀ (l:List UInt8),1≤pH l
 | []=>Int.le_refl _
 | b::r=>by
  have:=xU r
  show 1≤(b.toNat:Int)+256*pH r
  omega
theorem xT:∀ (a b:List UInt8),pH a=pH b→a=b
 | [], [],_=>rfl
 | [],x::r,h=>by
  have h:(1:Int)=(x.toNat:Int)+256*pH r:=h
  have:=xU r
  omega
 | x::r, [],h=>by
  have h:(x.toNat:Int)+256*pH r=1:=h
  have:=xU r
  omega
 | x::r,y::s,h=>by
  have h:(x.toNat:Int)+256*pH r=(y.toNat:Int)+256*pH s:=h
  have h1:=x.toNat_lt
  have h2:=y.toNat_lt
  have e1:x=y:=UInt8.toNat_inj.1 (by omega)
  have e2:pH r=pH s:=by omega
  rw [e1,xT r s e2]
theorem aLi {a b:ByteArray} (h:mO a=mO b):a=b:=by
 have:=xT _ _ h
 exact ByteArray.ext (Array.toList_inj.1 this)
theorem pB (s:ByteArray):aHE (mO s)=s:=by
 have h:∃ t:ByteArray,mO t=mO s:=⟨s,rfl⟩
 unfold aHE
 rw [dif_pos h]
 exact aLi (Classical.choose_spec h)
noncomputable def aE0:KK→Int→Lit
 | .int q,z=> .int q z
 | .str,z=> .string (aHE z).data.toList
theorem aGS {P:Program} {t e:TypeId} {n:Nat} (ht:P.underlying t=some (.array n e)) (hc:P.cellsOf e=1) (hct:P.cellsOf t=n) {l:List Int} (hl:l.length=n) (f:Int→Value) (g:Int→Lit) (D:Nat) (hw:∀ a∈l,P.keyLits (D+1) e [f a]=some [g a]) :
  P.keyLits (D+2) t (l.map f)=some (l.map g):=by
 have one:∀ i,i<n→P.keyLits (D+1) e (((l.map f).drop (i*1)).take 1)=some [g (l.getD i 0)]:=by
  intro i hi
  have hi':i<l.length:=by omega
  have e1:((l.map f).drop (i*1)).take 1= [f (l.getD i 0)]:=by
   rw [Nat.mul_one,List.drop_eq_getElem_cons (by simpa using hi')]
   simp [List.getD_eq_getElem?_getD,hi']
  rw [e1]
  have hm:l.getD i 0∈l:=by rw [List.getD_eq_getElem?_getD,List.getElem?_eq_getElem hi'];exact List.getElem_mem hi'
  exact hw _ hm
 unfold Program.keyLits
 simp only [ht,List.length_map,hl,hct,hc,if_true]
 have hm:∀ (k:Nat),k≤n→(List.range k).mapM (fun i=>P.keyLits (D+1) e (((l.map f).drop (i*1)).take 1))=some ((List.range k).map fun i=> [g (l.getD i 0)]):=by
  intro k
  induction k with
  | zero=>intro _;rfl
  | succ k ih =>
   intro hk
   rw [List.range_succ,List.mapM_append,ih (by omega)]
   simp only [List.mapM_cons,List.mapM_nil,one k (by omega),List.map_append,List.map_cons,List.map_nil]
   rfl
 rw [hm n (Z0 _)]
 simp only [Option.map_some,Z1]
 rw [← List.flatMap_def]
 apply List.ext_getElem?
 intro j
 rw [show ((List.range n).flatMap fun i=> [g (l.getD i 0)])=(List.range n).map fun i=>g (l.getD i 0) from (List.map_eq_flatMap ..).symm]
 simp only [List.getElem?_map,List.getD_eq_getElem?_getD]
 by_cases hj:j<n
 ·simp [hj,hl]
 ·rw [List.getElem?_eq_none (by simp;omega),List.getElem?_eq_none (by omega)]
  rfl
theorem aLE {P:Program} {e:TypeId} {q:KK} (he:oR P e=some q) {l:List Int} (hw:wfK q l) (D:Nat):∀ a∈l,P.keyLits (D+1) e [vG q a]=some [aE0 q a]:=by
 intro a ha
 unfold oR at he
 split at he
 ·rename_i k hk
  simp only [Z1] at he
  subst he
  have:=aBn hw a ha
  simp only [Program.keyLits,hk,vG,aE0,this,and_self,if_true]
 ·rename_i hk
  simp only [Z1] at he
  subst he
  obtain ⟨s,h1,h2⟩:=wfS.h hw a ha
  have e1:aHE a=s:=by rw [← h2,pB]
  simp only [Program.keyLits,hk,vG,aE0,e1,h1,if_true]
 ·simp at he
theorem aIC (q:KK) (l:List Int):(jT q l).cells.toList=l.map (vG q):=by simp [jT,Value.cells]
theorem tN {P:Program} {m:MapC} (hT:MapTy P m) {l:List Int} (hl:l.length=m.n) (hw:wfK m.kk l):∃ k,keyOf P m.kt (jT m.kk l)=some k:=by
 obtain ⟨⟨e,A,he⟩,hs⟩:=hT
 have hk:=A.keyType hs
 obtain ⟨q,hq⟩:=hs
 have hq2:P.types.size+1=q+2:=by omega
 refine ⟨.string (keyBytes (l.map (aE0 m.kk))),?_⟩
 unfold keyOf
 rw [A.hu]
 simp only
 rw [if_pos (by simp [hk,Value.formed,jT,A.hu,A.size,hl])]
 rw [aIC,hq2,aGS A.hu A.one A.size hl _ _ q (aLE he hw q)]
 rfl
theorem aNT {q:KK}:∀ (a b:List Int),wfK q a→wfK q b→a.map (vG q)=b.map (vG q)→a=b:=by
 intro a b ha hb h
 have one:∀ x∈a,∀ y∈b,vG q x=vG q y→x=y:=by
  intro x hx y hy e
  cases q with
  | int k=>simpa [vG] using e
  | str =>
   obtain ⟨s,_,h2⟩:=wfS.h ha x hx
   obtain ⟨t,_,h4⟩:=wfS.h hb y hy
   simp only [vG,Value.string.injEq] at e
   rw [← h2,← h4,pB,pB] at e
   rw [← h2,← h4,e]
 clear ha hb
 induction a generalizing b with
 | nil=>cases b with
  | nil=>rfl
  | cons _ _=>simp at h
 | cons x a ih=>cases b with
  | nil=>simp at h
  | cons y b =>
   simp only [List.map_cons,List.cons.injEq] at h
   rw [one x (by simp) y (by simp) h.1,ih b h.2 (fun u hu v hv=>one u (by simp [hu]) v (by simp [hv]))]
theorem aNV {q:KK} {a b:List Int} (ha:wfK q a) (hb:wfK q b) (h:jT q a=jT q b):a=b:=by
 simp only [jT,Value.agg.injEq] at h
 exact aNT a b ha hb (by simpa using congrArg Array.toList h)
theorem aON {P:Program} {e:TypeId} {q:KK} (h:oR P e=some q):P.plainKey e=true:=by
 unfold oR at h
 unfold Program.plainKey
 split at h
 ·rename_i hk;rw [hk]
 ·rename_i hk;rw [hk]
 ·simp at h
theorem aCg {P:Program} {t kt:TypeId} {q:KK} {n:Nat} {vk:Option IntKind} (h:aJ8 P t=some (kt,q,n,vk)):∃ et e,P.underlying t=some (.map kt et)∧True∧WideMaps.ArrKey P kt e n∧oR P e=some q∧(∃ k,P.types.size=k+1)∧∀ w,(zeroValue et).run P w= .ok (aK4 vk) w:=by
 unfold aJ8 at h
 split at h
 ·rename_i kt' et hu
  split at h
  ·rename_i vk' hb
   split at h
   ·rename_i n' e hk
    split at h
    ·rename_i q' he
     cases hc:((P.cellsOf e).beq 1&&(P.cellsOf kt').beq n'&&(0).blt P.types.size&&aJn P et vk') with
     | false=>rw [hc] at h;simp at h
     | true =>
      rw [hc] at h
      simp only [Z6,Z1,Z2] at h
      obtain ⟨rfl,rfl,rfl,rfl⟩:=h
      simp only [Z3,Nat.beq_eq,Nat.blt_eq] at hc
      obtain ⟨⟨⟨h1,h2⟩,h3⟩,h4⟩:=hc
      refine ⟨et,e,hu,⟨⟩,⟨hk,aON he,h1,h2⟩,he,⟨P.types.size -1,by omega⟩,fun w=>?_⟩
      unfold aJn at h4
      split at h4
      ·rename_i i hi
       split at h4
       ·rename_i v hv
        split at h4
        ·rename_i b
         split at h4
         ·simp only [Bool.not_eq_true'] at h4
          subst h4
          simp [zeroValue,typeInfo,hi,hv,Sem.run_bind,go_sem,Result.andThen,aK4]
         ·simp at h4
        ·rename_i k z
         split at h4
         ·simp at h4
         ·simp only [Z3,beq_iff_eq] at h4
          obtain ⟨rfl,rfl⟩:=h4
          simp [zeroValue,typeInfo,hi,hv,Sem.run_bind,go_sem,Result.andThen,aK4]
        ·simp at h4
       ·simp at h4
      ·simp at h4
    ·simp at h
   ·simp at h
  ·simp at h
 ·simp at h
section
variable {P:Program} {m:MapC} {w:World} {B:Nat} {o:Obj} {l:List Int} {t:TypeId}
theorem aCh (hT:MapTy P m) (hm:MapOk m o) (hl:l.length=m.n) (hw:wfK m.kk l):∃ es clock,o= .map es clock∧(Instr.checkKey es.isEmpty 10000 m.kt (jT m.kk l)).run P w= .ok () w∧(Instr.checkKey false 10000 m.kt (jT m.kk l)).run P w= .ok () w∧
  (((Instr.findKey m.kt (jT m.kk l) es.toList).run P w= .ok none w∧m.f l=false)∨∃ j e,(Instr.findKey m.kt (jT m.kk l) es.toList).run P w= .ok (some (j,e.val)) w∧es[j]? =some e∧e.key=jT m.kk l∧aJq m.vk e.val∧m.f l=true):=by
 obtain ⟨es,clock,rfl,h1,h2⟩:=hm
 obtain ⟨kl,hkl⟩:=tN hT hl hw
 obtain ⟨⟨e,A,he⟩,hs⟩:=hT
 have K:=A.law
 refine ⟨es,clock,rfl,K.check w _ hkl,K.check w _ hkl,?_⟩
 have hall:∀ x∈es.toList,∃ l,keyOf P m.kt x.key=some l:=by
  intro x hx
  obtain ⟨l',q1,q2,q3,_⟩:=h1 x hx
  rw [q3]
  exact tN ⟨⟨e,A,he⟩,hs⟩ q1 q2
 rcases K.find w hkl es.toList hall with ⟨h3,h4⟩|⟨j,x,h3,h4,h5⟩
 ·refine .inl ⟨h3,?_⟩
  cases hf:m.f l with
  | false=>rfl
  | true =>
   obtain ⟨x,hx,hk⟩:=h2 l hl hf
   exact absurd hk (h4 x hx)
 ·have hx:x∈es.toList:=List.mem_of_getElem? h4
  obtain ⟨l',q1,q2,q3,q4,q5⟩:=h1 x hx
  have:l'=l:=aNV q2 hw (q3.symm.trans h5)
  subst this
  exact .inr ⟨j,x,h3,by simpa using h4,h5,q4,q5⟩
theorem aCH (hT:MapTy P m) (hvk:m.vk=none) (hm:MapOk m o) (hB:w.heap[B]? =some o) (hl:l.length=m.n) (hw:wfK m.kk l) {et:TypeId} (ht:P.underlying t=some (.map m.kt et)) (hz:(zeroValue et).run P w= .ok (.bool false) w) :
  (Instr.lookup t (.map (some B)) (jT m.kk l) false).run P w= .ok (.bool (m.f l)) w:=by
 obtain ⟨es,clock,rfl,h1,_,h2⟩:=aCh (P:=P) (w:=w) hT hm hl hw
 rcases h2 with ⟨h3,h4⟩|⟨j,e,h3,_,_,h6,h7⟩
 ·simp [Instr.lookup,run_underlying ht,MapKept.run_getObj_map hB,Sem.run_bind,Result.andThen,h1,h3,h4,hz]
 ·rw [hvk] at h6
  have h6:e.val= .bool true:=h6
  simp [Instr.lookup,run_underlying ht,MapKept.run_getObj_map hB,Sem.run_bind,Result.andThen,h1,h3,h6,h7]
theorem aHo (hT:MapTy P m) {k:IntKind} (hvk:m.vk=some k) (hm:MapOk m o) (hB:w.heap[B]? =some o) (hl:l.length=m.n) (hw:wfK m.kk l) {et:TypeId} (ht:P.underlying t=some (.map m.kt et)) (hz:(zeroValue et).run P w= .ok (.int k 0) w) :
  ∃ z,(Instr.lookup t (.map (some B)) (jT m.kk l) true).run P w= .ok (.tuple #[.int k z,.bool (m.f l)]) w:=by
 obtain ⟨es,clock,rfl,h1,_,h2⟩:=aCh (P:=P) (w:=w) hT hm hl hw
 rcases h2 with ⟨h3,h4⟩|⟨j,e,h3,_,_,h6,h7⟩
 ·exact ⟨0,by simp [Instr.lookup,run_underlying ht,MapKept.run_getObj_map hB,Sem.run_bind,Result.andThen,h1,h3,h4,hz]⟩
 ·rw [hvk] at h6
  obtain ⟨z,h6⟩:=h6
  exact ⟨z,by simp [Instr.lookup,run_underlying ht,MapKept.run_getObj_map hB,Sem.run_bind,Result.andThen,h1,h3,h6,h7]⟩
theorem aCI (hT:MapTy P m) {v:Value} (hv:aJq m.vk v) (hm:MapOk m o) (hB:w.heap[B]? =some o) (hl:l.length=m.n) (hw:wfK m.kk l) {et:TypeId} (ht:P.underlying t=some (.map m.kt et)) :
  ∃ o',(Instr.mapUpdate t (.map (some B)) (jT m.kk l) v).run P w= .ok () (w.putObj B o')∧MapOk (m.add l) o':=by
 have hm0:=hm
 obtain ⟨es,clock,rfl,_,h1,h2⟩:=aCh (P:=P) (w:=w) hT hm hl hw
 obtain ⟨es',clock',ho,g1,g2⟩:=hm0
 simp only [Obj.map.injEq] at ho
 obtain ⟨rfl,rfl⟩:=ho
 obtain ⟨kl,hkl⟩:=tN hT hl hw
 have hst:(Instr.keyThatStays (jT m.kk l) (jT m.kk l)).run P w= .ok (jT m.kk l) w:=by
  obtain ⟨⟨e,A,he⟩,hs⟩:=hT
  exact A.law.stays w hkl
 have hadd:∀ l',(m.add l).f l'=true↔l'=l∨m.f l'=true:=fun l'=>by simp [MapC.add,j7]
 rcases h2 with ⟨h3,h4⟩|⟨j,e,h3,h5,h6,h7,h8⟩
 ·refine ⟨.map (es.push { key:=jT m.kk l,val:=v,born:=clock }) (clock+1),?_,_,_,rfl,?_,?_⟩
  ·simp [Instr.mapUpdate,run_underlying ht,MapKept.run_getObj_map hB,Sem.run_bind,Result.andThen,h1,h3,MapKept.run_setObj_map _ hB,World.putObj]
  ·intro x hx
   simp only [Array.toList_push,List.mem_append,List.mem_singleton] at hx
   rcases hx with hx|rfl
   ·obtain ⟨l',q1,q2,q3,q4,q5⟩:=g1 x hx
    exact ⟨l',q1,q2,q3,q4,(hadd l').2 (.inr q5)⟩
   ·exact ⟨l,hl,hw,rfl,hv,(hadd l).2 (.inl rfl)⟩
  ·intro l' hl' hf
   rcases (hadd l').1 hf with rfl|hf
   ·exact ⟨⟨jT m.kk l',v,clock⟩,by simp,rfl⟩
   ·obtain ⟨x,hx,hk⟩:=g2 l' hl' hf
    exact ⟨x,by simp;exact .inl (by simpa using hx),hk⟩
 ·refine ⟨.map (es.modify j fun e=>{ e with key:=jT m.kk l,val:=v }) clock,?_,_,_,rfl,?_,?_⟩
  ·simp [Instr.mapUpdate,run_underlying ht,MapKept.run_getObj_map hB,Sem.run_bind,Result.andThen,h1,h3,h5,h6,hst,MapKept.run_setObj_map _ hB,World.putObj]
  ·intro x hx
   obtain ⟨i,hi⟩:=List.mem_iff_getElem?.1 hx
   rw [Array.getElem?_toList,Array.getElem?_modify] at hi
   by_cases hij:j=i
   ·subst hij
    rw [if_pos rfl,h5] at hi
    simp only [Option.map_some,Z1] at hi
    subst hi
    exact ⟨l,hl,hw,rfl,hv,(hadd l).2 (.inl rfl)⟩
   ·rw [if_neg hij] at hi
    obtain ⟨l',q1,q2,q3,q4,q5⟩:=g1 x (by rw [← Array.getElem?_toList] at hi;exact List.mem_of_getElem? hi)
    exact ⟨l',q1,q2,q3,q4,(hadd l').2 (.inr q5)⟩
  ·intro l' hl' hf
   have hf:m.f l'=true:=by
    rcases (hadd l').1 hf with rfl|hf
    ·exact h8
    ·exact hf
   obtain ⟨x,hx,hk⟩:=g2 l' hl' hf
   obtain ⟨i,hi⟩:=List.mem_iff_getElem?.1 hx
   rw [Array.getElem?_toList] at hi
   by_cases hij:j=i
   ·subst hij
    rw [h5,Z1] at hi
    subst hi
    refine ⟨{ e with key:=jT m.kk l,val:=v },List.mem_of_getElem? (i:=j) ?_,?_⟩
    ·rw [Array.getElem?_toList,Array.getElem?_modify,if_pos rfl,h5];rfl
    ·exact h6.symm.trans hk
   ·refine ⟨x,List.mem_of_getElem? (i:=i) ?_,hk⟩
    rw [Array.getElem?_toList,Array.getElem?_modify,if_neg hij];exact hi
end
end
section
structure Fw (F:Fence) (P:Program):Prop where
 fn:∀ f,F.fn f
 depth:F.depth=none
 sem:∀ (o:Oper) (ρ:Operand→Value),(∀ c,o.op≠ .defer c)→o.semAt F.round ρ=execOp ρ o
 calls:∀ {n:Nat} {f:FuncId} {args:Array Value} {w:World} {R:Ending→World→Prop},Calls P f args w R→CallsIn F n P f args w R
 rows:∀ {n:Nat} {row:String} {args:Array Value} {w:World} {R:Value→World→Prop},Rows P row args w R→RowsIn F n P row args w R
theorem aJY (P:Program):Fw Fence.wide P :=
 ⟨fun _=>trivial,rfl,fun _ _ _=>rfl,fun h=>callsIn_wide.2 h,fun h c cs _=>let ⟨v,w',r,s⟩:=h c cs;⟨v,w',r,stepsIn_wide.2 s⟩⟩
theorem aGN (P:Program) (l:Nat):Fw (Fence.wide.inRound l) P :=
 ⟨fun _=>trivial,rfl,fun o ρ h=>Oper.semAt_some l ρ o h,fun h=>CallsIn.inRound l (callsIn_wide.2 h),fun h c cs _=>let ⟨v,w',r,s⟩:=h c cs;⟨v,w',r,stepsIn_wide.2 s⟩⟩
section
variable {F:Fence} {P:Program} {m:Nat} {ops:Array Oper}
theorem rG (hF:Fw F P) {Q Q1:Exit→Act→World→Prop} (hQ1:∀ a w,¬ Q1 .outgrown a w) (hp:∀ ch a w,Q1 (.panic ch) a w→Q (.panic ch) a w) {rest:List Oper} (hr:∀ a w,Q1 .normal a w→wpListIn F m P ops Q rest a w) :
  ∀ (l:List Oper) (a:Act) (w:World),(∀ o∈l,∀ c,o.op≠ .defer c)→wpList P ops Q1 l a w→wpListIn F m P ops Q (l++rest) a w
 | [],a,w,_,h=>hr a w h
 | o::r,a,w,hd,h=>by
  have ih:=rG hF hQ1 hp hr r
  have hd':∀ o∈r,∀ c,o.op≠ .defer c:=fun o ho=>hd o (List.mem_cons_of_mem _ ho)
  have hdep:¬ F.depth.isSome=true:=by rw [hF.depth];simp
  unfold wpList at h
  rw [List.cons_append]
  unfold wpListIn
  split at h
  ·rename_i hw
   rw [if_pos hw]
   rcases h with h|⟨_,h⟩
   ·refine ⟨fun f _=>hF.fn f,?_⟩
    rw [hF.sem _ _ (hd o (List.mem_cons_self ..))]
    unfold Oper.wp at h
    generalize (execOp a.eval o).run P w=res at h⊢
    cases res with
    | ok nx w' =>
     cases nx with
     | value v=>exact ih _ _ hd' h
     | skip=>exact ih _ _ hd' h
     | defer d=>exact ih _ _ hd' h
     | enter f args =>
      refine ⟨fun h=>absurd h hdep,hF.calls (Calls.mono h ?_)⟩
      intro e w'' he
      cases e with
      | returned v=>exact ih _ _ hd' he
      | panicked c=>exact hp _ _ _ he
      | outgrown=>exact (let ⟨a,w,q⟩:=he;(hQ1 a w q).elim)
     | row rw args =>
      refine ⟨fun h=>absurd h hdep,hF.rows fun c cs=>?_⟩
      obtain ⟨v,w'',r',s⟩:=h c cs
      exact ⟨v,w'',ih _ _ hd' r',s⟩
     | round l f t x y=>exact h.elim
     | _=>exact h.elim
    | halt hh w' =>
     cases hh
     all_goals first|exact hp _ _ _ h|exact h.elim
   ·exact (let ⟨a,w,q⟩:=h;(hQ1 a w q).elim)
  ·rename_i hw
   rw [if_neg hw]
   exact ⟨fun f _=>hF.fn f,ih _ _ hd' h⟩
theorem aMx (hF:Fw F P) {Q:Exit→Act→World→Prop} (hQ:∀ a w,¬ Q .outgrown a w) {i:Nat} {K K':Act→World→Prop} (hd:∀ o,ops[i]? =some o→∀ c,o.op≠ .defer c) (hK:∀ a w,K a w→K' a w) {a:Act} {w:World} (h:wpOp P ops Q i K a w):wpOpIn F m P ops Q i K' a w:=by
 have hdep:¬ F.depth.isSome=true:=by rw [hF.depth];simp
 unfold wpOp at h
 unfold wpOpIn
 split at h
 ·rename_i hn
  simp only [hn]
  exact hK _ _ h
 ·rename_i o ho
  simp only [ho]
  split at h
  ·rename_i hw
   rw [if_pos hw]
   rcases h with h|⟨_,h⟩
   ·refine ⟨fun f _=>hF.fn f,?_⟩
    rw [hF.sem _ _ (hd o ho)]
    unfold Oper.wp at h
    generalize (execOp a.eval o).run P w=res at h⊢
    cases res with
    | ok nx w' =>
     cases nx with
     | value v=>exact hK _ _ h
     | skip=>exact hK _ _ h
     | defer d=>exact hK _ _ h
     | enter f args =>
      refine ⟨fun h=>absurd h hdep,hF.calls (Calls.mono h ?_)⟩
      intro e w'' he
      cases e with
      | returned v=>exact hK _ _ he
      | panicked c=>exact he
      | outgrown=>exact he
     | row rw args =>
      refine ⟨fun h=>absurd h hdep,hF.rows fun c cs=>?_⟩
      obtain ⟨v,w'',r',s⟩:=h c cs
      exact ⟨v,w'',hK _ _ r',s⟩
     | round l f t x y=>exact h.elim
     | _=>exact h.elim
    | halt hh w' =>
     cases hh <;> exact h
   ·exact (let ⟨a,w,q⟩:=h;(hQ a w q).elim)
  ·rename_i hw
   rw [if_neg hw]
   exact ⟨fun f _=>hF.fn f,hK _ _ h⟩
theorem aDf (hF:Fw F P) {md:Region.Mode} {Q:Exit→Act→World→Prop} (hQ:∀ a w,¬ Q .outgrown a w) (hd:∀ (i:Nat) o,ops[i]? =some o→∀ c,o.op≠ .defer c):∀ (fuel:Nat) (listed:Array Bool) (a:Act) (w:World),wpAny P md ops Q fuel listed a w→wpAnyIn F m P md ops Q fuel listed a w
 | 0,_,_,_,h=>h
 | fuel+1,_,_,_,h=>⟨h.1,fun i hi=>aMx hF hQ (hd i) (fun a' w'=>aDf hF hQ hd fuel _ a' w') (h.2 i hi)⟩
theorem aIN {ops:Array Oper} (h:(ops.toList.all fun o=>aOb o.op)=true):∀ o∈ops.toList,∀ c,o.op≠ .defer c:=fun o ho c e=>by
 have:=List.all_eq_true.1 h o ho
 rw [e] at this
 simp [aOb] at this
theorem aAd (hmix:P.follows .mixedOrders=true) (hF:Fw F P) {Q:Exit→Act→World→Prop} (hQ:∀ a w,¬ Q .outgrown a w) (hd:(ops.toList.all fun o=>aOb o.op)=true) {draw:Bool} {id:Nat} {a:Act} {w:World} (h:aF3 P ops draw Q a w):(Code.region id ops draw).wpIn F m P Q a w:=by
 cases draw with
 | false =>
  refine wpIn_region_list ?_
  have:=rG (m:=m) (rest:= []) hF (Q:=Q) hQ (fun _ _ _ h=>h) (fun a w h=>h) ops.toList a w (aIN hd) h
  rwa [List.append_nil] at this
 | true=>exact wpIn_region_any hmix (aDf hF hQ (fun i o ho=>aIN hd o (by have:=List.mem_of_getElem? (l:=ops.toList) (i:=i) (a:=o) (by simpa using ho);exact this)) _ _ _ _ h)
end
end
theorem nQ (np t:Nat):∀ (l:List (Nat×MV)),look t (d4 np l)=aEp np (look t l)
 | []=>rfl
 | (u,m)::r=>by
  simp only [d4,look]
  cases u.beq t with
  | true=>rfl
  | false=>exact nQ np t r
theorem sR {c c':Ctx} {w w':World} {np:Nat} (hk:∀ i,jG np i=true→c.live i→c'.live i∧c'.β i=c.β i∧c'.sz i=c.sz i) {m:MV} {v:Value} (h:Rep c w m v):Rep c' w' (aEp np m) v:=by
 cases m <;> try exact trivial
 case bool b=>exact h
 case int k n=>exact h
 case val u=>exact h
 case bp i off =>
  simp only [aEp]
  cases hb:jG np i with
  | false=>exact trivial
  | true =>
   obtain ⟨h1,h2⟩:=bU h rfl (by simp) rfl
   obtain ⟨q1,q2,_⟩:=hk i hb h1
   exact (bA rfl).2 ((aU rfl (by simp)).2 ⟨q1,by rw [q2];exact h2⟩)
 case br i idx off =>
  simp only [aEp]
  cases hb:jG np i with
  | false=>exact trivial
  | true =>
   obtain ⟨h1,h2⟩:=bU h rfl (by simp) rfl
   obtain ⟨q1,q2,q3⟩:=hk i hb h1
   exact (bA rfl).2 ((aU rfl (by simp)).2 ⟨q1,by rw [q2,q3];exact h2⟩)
 case bs i off len =>
  simp only [aEp]
  cases hb:jG np i with
  | false=>exact trivial
  | true =>
   obtain ⟨a,cap,h1,h2,h3⟩:=bU h rfl (by simp) rfl
   refine (bA rfl).2 ((aU rfl (by simp)).2 ⟨a,cap,h1,h2,h3.imp (fun ⟨h4,h5,h6⟩=>?_) id⟩)
   obtain ⟨q1,q2,q3⟩:=hk i hb h5
   exact ⟨by rw [q2];exact h4,q1,by rw [q3];exact h6⟩
theorem St.forget {S0:Nat→Prop} {w0:Base} {w:World} {s:MS} {c:Ctx} {a:Act} (h:St S0 w0 s c a w) (i:Nat):St S0 w0 (s.forget i) c a w:=⟨h.mem.forget i,h.tm,h.size,h.defers,h.np⟩
theorem aIw {P:Program} {o:Oper} {c:Call} {g:Operand} {l:Nat} (ho:o.op= .call c) (hc:c.callee= .value g) {ρ:Operand→Value} (hg:ρ g= .func (.yield l) #[] #[]) (w:World):(execOp ρ o).run P w=(Instr.yield l (c.args.map ρ)).run P w:=by
 simp [execOp,ho,resolve,hc,Deferred.ofValue,hg,invoke]
theorem aBW {P:Program} {o:Oper} {c:Call} {g:Operand} {f:FuncId} (ho:o.op= .call c) (hc:c.callee= .value g) {ρ:Operand→Value} (hg:ρ g= .func (.func f) #[] #[]) (hcf:∀ args w,(callFunc f args).run P w= .ok (.enter f args) w) (w:World):(execOp ρ o).run P w= .ok (.enter f (c.args.map ρ)) w:=by
 simp [execOp,ho,resolve,hc,Deferred.ofValue,hg,invoke,hcf]
theorem sG {c:Ctx} {w:World} {s:MS} {a:Act}:∀ (l:List Operand),(∀ x∈l,Rep c w (s.ev x) (a.eval x))→((l.map s.ev).all fun m=>!m.isTup)=true→RepAll c w (l.map s.ev) (l.map a.eval)
 | [],_,_=>rfl
 | x::l,h,ht=>by
  simp only [List.map_cons,List.all_cons,Z3,Bool.not_eq_true'] at ht
  exact ⟨_,_,rfl,(bA ht.1).1 (h x (by simp)),sG l (fun y hy=>h y (by simp [hy])) ht.2⟩
theorem St.at {S0:Nat→Prop} {w1:Base} {s:MS} {c:Ctx} {a:Act} {w w':World} {N:Nat} (h:St S0 w1 s c a w) (k:Moved N w w'):St S0 (gQ w' c w1.pin w1.df) s c a w' :=
 ⟨h.mem.moved k w1.pin w1.df h.mem.pin,fun t=>(h.tm t).moved k,h.size,h.defers,h.np⟩
structure YSnd (F:Fence) (n:Nat) (P:Program) (S0:Nat→Prop) (w0:Base) (pin:Nat→Nat→Sz→Prop) (zs:Option Ex→List (Nat×Obj)) (H:Hnd):Prop where
 h:∀ (args:List MV) (s:MS) (mp:Option (Nat×MapC)) (c:Ctx) (a:Act) (w:World) (vs:List Value) kN kX,H.yh args s ⟨mp,none⟩ kN kX→XSt P S0 w0 pin zs s ⟨mp,none⟩ c a w→RepAll c w args vs→
  ∃ f0 tmps assign body,(Instr.yield H.L vs.toArray).run P w= .ok (.round H.L f0 tmps assign body) w∧RoundIn F n P H.L f0 tmps assign body w (fun e w' =>
   (e= .returned (.bool true)∧∃ bx mp' c',kN bx mp'∧XSt P S0 w0 pin zs ⟨s.n,d4 s.np s.tm,bx,s.np⟩ ⟨mp',none⟩ c' a w')∨
   (e= .returned (.bool false)∧∃ e' bx mp' c',kX e' bx mp'∧XSt P S0 w0 pin zs ⟨s.n,d4 s.np s.tm,bx,s.np⟩ ⟨mp',some e'⟩ c' a w'))
theorem XSt.putO {P:Program} {S0:Nat→Prop} {w0:Base} {pin:Nat→Nat→Sz→Prop} {zs:Option Ex→List (Nat×Obj)} {s:MS} {x:XS} {c:Ctx} {a:Act} {w:World} (h:XSt P S0 w0 pin zs s x c a w) {t:Option Nat} {m:MV} {v:Value} (ht:gF t s.n=true) (hr:Rep c w m v) :
  XSt P S0 w0 pin zs (s.putO t m) x c (a.put t v) w:=by
 obtain ⟨w1,h1,_,h3⟩:=h.with_
 exact h3 _ _ _ _ (h1.putO ht hr)
theorem XSt.tm {P:Program} {S0:Nat→Prop} {w0:Base} {pin:Nat→Nat→Sz→Prop} {zs:Option Ex→List (Nat×Obj)} {s:MS} {x:XS} {c:Ctx} {a:Act} {w:World} (h:XSt P S0 w0 pin zs s x c a w) (y:Operand):Rep c w (s.ev y) (a.eval y):=by
 obtain ⟨w1,h1,_,_⟩:=h.with_
 exact (kH (l:= [y]) fun t _=>h1.tm t) y (by simp)
theorem qK {P:Program} {t:TypeId} {mv kv:MV} {x:XS} {p:Prop} {B:Nat} {m:MapC} {l:List Int} (h:oU P t mv kv x=some (p,B,m,l)) (hp:p):mv= .val (.map (some B))∧x.mp=some (B,m)∧wfK m.kk l∧l.length=m.n∧
  ∃ ms,kv= .st ms∧aEG m.kk ms=some l∧∃ et,P.underlying t=some (.map m.kt et)∧∀ w,(zeroValue et).run P w= .ok (aK4 m.vk) w:=by
 unfold oU at h
 split at h
 ·split at h
  ·split at h
   ·rename_i B0
    split at h
    ·rename_i B' m' hmp
     split at h
     ·rename_i kt q n vk hty
      split at h
      ·rename_i ms
       split at h
       ·rename_i l' hl'
        cases hc:l'.length.beq n with
        | false=>rw [hc] at h;simp at h
        | true =>
         rw [hc] at h
         simp only [Z6,Z1,Z2] at h
         obtain ⟨rfl,rfl,rfl,rfl⟩:=h
         obtain ⟨⟨rfl,e1,e2,e3,e4⟩,hw⟩:=hp
         simp only [Nat.beq_eq] at hc
         obtain ⟨et,e,k1,_,_,_,_,k6⟩:=aCg hty
         exact ⟨rfl,hmp,by rw [e2];exact hw,by rw [e3];exact hc,ms,rfl,by rw [e2];exact hl',et,by rw [e1];exact k1,by rw [e4];exact k6⟩
       ·simp at h
      ·simp at h
     ·simp at h
    ·simp at h
   ·simp at h
  ·simp at h
 ·simp at h
theorem aHF {c:Ctx} {w:World}:∀ (ms:List MV) (l:List Int) (vs:List Value),uM ms=some l→RepCs c w ms vs→vs=l.map (vG .str)
 | [],l,vs,h,r=>by
  simp only [uM,Z1] at h
  subst h
  exact r
 | m::ms,l,vs,h,r=>by
  unfold uM at h
  split at h
  ·split at h
   ·rename_i s
    split at h
    ·rename_i l' hl
     simp only [Z1] at h
     subst h
     obtain ⟨x,y,rfl,hx,hy⟩:=r
     obtain ⟨v,rfl,rfl,_⟩:∃ v,x= [v]∧v= .string s∧True:=by
      obtain ⟨h1,_⟩:=hx
      exact ⟨_,h1,rfl,trivial⟩
     rw [aHF ms l' y hl hy]
     simp [vG,pB]
    ·simp at h
   ·simp at h
  ·simp at h
theorem vI {c:Ctx} {w:World} {q:KK} {ms:List MV} {l:List Int} {v:Value} (h:aEG q ms=some l) (hr:Rep c w (.st ms) v):v=jT q l:=by
 obtain ⟨cs,h1,h2⟩:=(cY rfl).1 ((bA rfl).1 hr)
 cases q with
 | int k =>
  have:=mC _ _ _ h h2
  have e:l.map (vG (.int k))=l.map (Value.int k):=rfl
  rw [h1,jT,e,← this]
 | str =>
  have:=aHF _ _ _ h h2
  rw [h1,jT,← this]
section
section
variable {F:Fence} {P:Program} {n:Nat} {S0:Nat→Prop} {w0:Base} {pin:Nat→Nat→Sz→Prop} {zs:Option Ex→List (Nat×Obj)} {H:Hnd} {X:XE P}
def XOp.callK:XOp→Bool
 | .mk _=>false
 | .look _ _ _=>false
 | .look2 _ _ _=>false
 | .upd _ _ _ _=>false
 | _=>true
theorem lM {s:MS} {c:Call}:(sV X s c).callK=true:=by
 unfold sV
 split
 ·split
  ·split
   ·split
    ·exact Bool.rec (motive:=fun b=>(cond b (XOp.yield _ _) XOp.plain).callK=true) rfl rfl _
    ·rfl
   ·rfl
  ·split
   ·exact Bool.rec (motive:=fun b=>(cond b (XOp.inl _ _) XOp.plain).callK=true) rfl rfl _
   ·rfl
  ·rfl
 ·split
  ·split
   ·split <;> rfl
   ·rfl
  ·rfl
 ·rfl
theorem aVR {s:MS} {o:Op} {t:TypeId} (h:xop X s o= .mk t):o= .makeMap t none:=by
 unfold xop at h
 split at h
 ·split at h
  ·simp only [XOp.mk.injEq] at h;subst h;rfl
  ·simp at h
 ·rename_i t m k ok;cases ok <;> simp at h
 ·simp at h
 ·have:=lM (X:=X) (s:=s) (c:=by assumption)
  rw [h] at this
  simp [XOp.callK] at this
 ·simp at h
theorem aHQ {s:MS} {o:Op} {t:TypeId} {m k:MV} (h:xop X s o= .look t m k):∃ m' k',o= .lookup t m' k' false∧m=s.ev m'∧k=s.ev k':=by
 unfold xop at h
 split at h
 ·split at h <;> simp at h
 ·rename_i t m k ok
  cases ok with
  | true=>simp at h
  | false =>
   simp only [Z5,XOp.look.injEq] at h
   obtain ⟨rfl,rfl,rfl⟩:=h
   exact ⟨_,_,rfl,rfl,rfl⟩
 ·simp at h
 ·have:=lM (X:=X) (s:=s) (c:=by assumption)
  rw [h] at this
  simp [XOp.callK] at this
 ·simp at h
theorem aMA {s:MS} {o:Op} {t:TypeId} {m k:MV} (h:xop X s o= .look2 t m k):∃ m' k',o= .lookup t m' k' true∧m=s.ev m'∧k=s.ev k':=by
 unfold xop at h
 split at h
 ·split at h <;> simp at h
 ·rename_i t m k ok
  cases ok with
  | false=>simp at h
  | true =>
   simp only [Z6,XOp.look2.injEq] at h
   obtain ⟨rfl,rfl,rfl⟩:=h
   exact ⟨_,_,rfl,rfl,rfl⟩
 ·simp at h
 ·have:=lM (X:=X) (s:=s) (c:=by assumption)
  rw [h] at this
  simp [XOp.callK] at this
 ·simp at h
theorem aK3 {s:MS} {o:Op} {t:TypeId} {m k v:MV} (h:xop X s o= .upd t m k v):∃ m' k' v',o= .mapUpdate t m' k' v'∧m=s.ev m'∧k=s.ev k'∧v=s.ev v':=by
 unfold xop at h
 split at h
 ·split at h <;> simp at h
 ·rename_i t m k ok;cases ok <;> simp at h
 ·simp only [XOp.upd.injEq] at h
  obtain ⟨rfl,rfl,rfl,rfl⟩:=h
  exact ⟨_,_,_,rfl,rfl,rfl,rfl⟩
 ·have:=lM (X:=X) (s:=s) (c:=by assumption)
  rw [h] at this
  simp [XOp.callK] at this
 ·simp at h
theorem aDi {s:MS} {o:Op} {l:Nat} {args:List MV} (h:xop X s o= .yield l args∨xop X s o= .inl l args):∃ c g,o= .call c∧c.callee= .value g∧args=c.args.toList.map s.ev∧
  ((xop X s o= .yield l args∧s.ev g= .val (.func (.yield l) #[] #[]))∨(xop X s o= .inl l args∧s.ev g= .fn l [])):=by
 have h0:=h
 unfold xop at h
 split at h
 ·split at h <;> simp at h
 ·rename_i t m k ok;cases ok <;> simp at h
 ·simp at h
 ·rename_i c
  unfold sV at h
  split at h
  ·rename_i g hg
   split at h
   ·rename_i v hv
    split at h
    ·rename_i fn a b
     split at h
     ·rename_i l'
      cases hc:(a.size.beq 0&&b.size.beq 0) with
      | false=>rw [hc] at h;simp at h
      | true =>
       rw [hc] at h
       simp only [Z6,XOp.yield.injEq,reduceCtorEq,or_false] at h
       obtain ⟨rfl,rfl⟩:=h
       simp only [Z3,Nat.beq_eq] at hc
       have ha:a=#[]:=Array.eq_empty_of_size_eq_zero hc.1
       have hb:b=#[]:=Array.eq_empty_of_size_eq_zero hc.2
       subst ha;subst hb
       refine ⟨c,g,rfl,hg,rfl,.inl ⟨?_,hv⟩⟩
       rcases h0 with h0|h0
       ·exact h0
       ·exfalso
        simp only [xop,sV,hg,hv] at h0
        simp at h0
     ·simp at h
    ·simp at h
   ·rename_i f caps hv
    split at h
    ·cases hc:aTC X f with
     | false=>rw [hc] at h;simp at h
     | true =>
      rw [hc] at h
      simp only [Z6,XOp.inl.injEq,reduceCtorEq,false_or] at h
      obtain ⟨rfl,rfl⟩:=h
      refine ⟨c,g,rfl,hg,rfl,.inr ⟨?_,hv⟩⟩
      rcases h0 with h0|h0
      ·exfalso
       simp only [xop,sV,hg,hv,hc] at h0
       simp at h0
      ·exact h0
    ·simp at h
   ·simp at h
  ·split at h
   ·split at h
    ·split at h <;> simp at h
    ·simp at h
   ·simp at h
  ·simp at h
 ·simp at h
variable {ops:Array Oper} {Q:Exit→Act→World→Prop} {rest:List Oper}
theorem aCW (hF:Fw F P) {E:Env P} {o:Oper} (hnd:∀ c,o.op≠ .defer c) {s:MS} {x:XS} {c:Ctx} {a:Act} {w:World} {K:MS→XS→Prop} (h:gG E ops.toList (fun _=>False) [o] s (fun s'=>K s' x)) (hs:XSt P S0 w0 pin zs s x c a w)
  (hK:∀ s' x' c' a' w',K s' x'→XSt P S0 w0 pin zs s' x' c' a' w'→wpListIn F n P ops Q rest a' w'):wpListIn F n P ops Q (o::rest) a w:=by
 obtain ⟨w1,hst,hreb,hback⟩:=hs.with_
 have:=eV (Q:=fun e a' w'=>match e with| .normal=>∃ s' c',K s' x∧St S0 w1 s' c' a' w'|_=>False) (ops:=ops) (w0:=w1) (fun m v w' a' hk _ _ _=>hk.elim) [o] s _ c a w h hst (fun s' c' a' w' q1 q2 _=>⟨s',c',q1,q2⟩)
 exact rG hF (fun a w q=>q) (fun ch a w q=>q.elim) (fun a' w' ⟨s',c',q1,q2⟩=>hK s' x c' a' w' q1 (hback _ _ _ _ q2)) [o] a w (by simpa using hnd) this
theorem pA (hF:Fw F P) {o:Oper} (hnd:∀ c,o.op≠ .defer c) (hg:o.guard=none) {a:Act} {w w':World} {v:Value} (hrun:(execOp a.eval o).run P w= .ok (.value v) w') (h:wpListIn F n P ops Q rest (a.put o.dst v) w'):wpListIn F n P ops Q (o::rest) a w:=by
 unfold wpListIn
 rw [if_pos (by simp [Region.wanted,hg])]
 refine ⟨fun f _=>hF.fn f,?_⟩
 rw [hF.sem _ _ hnd,hrun,Oper.uponIn_value]
 exact h
theorem aDY (hmix:P.follows .mixedOrders=true) {ie:ItE P} {args:List MV} {s:MS} {x:XS} {c:Ctx} {a:Act} {w:World} {K:MV→List Box→Prop} (h:aJS ie args s K) (hs:XSt P S0 w0 pin zs s x c a w) {vs:Array Value} (hv:RepAll c w args vs.toList) :
  Calls P ie.f vs w fun e w'=>∃ v m bx c',e= .returned v∧K m bx∧Rep c' w' m v∧XSt P S0 w0 pin zs ⟨s.n,d4 s.bx.length s.tm,bx,s.np⟩ x c' a w':=by
 unfold aJS at h
 split at h
 ·rename_i body hb
  split at h
  ·rename_i t hres
   cases hl:(args.length.ble ie.fn.ntmps&&s.bx.length.blt 1048576) with
   | false=>rw [hl] at h;exact h.elim
   | true =>
    rw [hl,Z6] at h
    simp only [Z3,Nat.ble_eq,Nat.blt_eq] at hl
    obtain ⟨hle,hmany⟩:=hl
    have hlen:=d6 _ _ hv
    simp only [Array.length_toList] at hlen
    obtain ⟨w1,Ds,hO,hst,hp,hdf⟩:=hs
    have hM:=hst.mem
    generalize hpa:(fun (i:Nat) (b:Nat) (z:Sz)=>c.live i∧c.β i=b∧c.sz i=z)=pa
    have hpa':∀ i b z,pa i b z→c.live i∧c.β i=b∧c.sz i=z:=by subst hpa;exact fun _ _ _ h=>h
    have k0:=Moved.refl w0.w.heap.size w
    have hst2:St S0 (gQ w c pa []) ⟨ie.fn.ntmps,dV 0 args,s.bx,s.bx.length⟩ c { tmps:=vs++Array.replicate (ie.fn.ntmps -vs.size) undef,defers:= [] } w:=by
     refine ⟨hM.moved k0 pa [] hpa',fun t=>?_,by simp;omega,rfl,fun i b z q=>aKn hmany (hM.fresh i (hpa' i b z q).1).2.2⟩
     have:=(fD args vs.toList 0 hv t).2 (Z9 _)
     rw [Nat.sub_zero] at this
     have e:(vs++Array.replicate (ie.fn.ntmps -vs.size) undef).getD t undef=vs.toList.getD t undef:=by
      simp only [Array.getD_eq_getD_getElem?,Array.getElem?_append,List.getD_eq_getElem?_getD,Array.getElem?_toList]
      split
      ·rfl
      ·rename_i hge
       rw [Array.getElem?_replicate,Array.getElem?_eq_none (by omega:vs.size≤t)]
       split <;> rfl
     rw [e]
     exact this
    have hO2:=hO.move hM k0 (fun e _ _=>rfl) pa []
    refine calls_of_wp ie.hf hb (cB hmix body _ _ c _ w _ h hst2 (fun e s' c' a' w' hk hst'=>?_) (fun m v w' a' hk=>hk.elim))
    have fin:K (look t s'.tm) s'.bx→∃ v,(results ie.fn a'.tmps).run P w'= .ok v w'∧∃ v' m bx c'',Ending.returned v= .returned v'∧K m bx∧Rep c'' w' m v'∧XSt P S0 w0 pin zs ⟨s.n,d4 s.bx.length s.tm,bx,s.np⟩ x c'' a w':=by
     intro hk
     refine ⟨a'.tmps.getD t undef,?_,_,look t s'.tm,s'.bx,c',rfl,hk,hst'.tm t,?_⟩
     ·rw [i7,Array.mapM_eq_mapM_toList,hres]
      simp [aI1]
     ·have hM':=hst'.mem
      have hkeep:∀ i,i<s.bx.length→c.live i→c'.live i∧c'.β i=c.β i∧c'.sz i=c.sz i:=fun i _ hi=>hM'.pin i (c.β i) (c.sz i) (by subst hpa;exact ⟨hi,rfl,rfl⟩)
      have k1:Moved w0.w.heap.size w' w':=Moved.refl _ _
      have hpin':∀ i b z,w1.pin i b z→c'.live i∧c'.β i=b∧c'.sz i=z:=fun i b z q=>by
       obtain ⟨q1,q2,q3⟩:=hM.pin i b z q
       obtain ⟨r1,r2,r3⟩:=hkeep i (hM.fresh i q1).2.2 q1
       exact ⟨r1,r2.trans q2,r3.trans q3⟩
      refine ⟨gQ w' c' w1.pin w1.df,Ds,hO2.move hM' k1 (fun e _ _=>rfl) w1.pin w1.df,⟨hM'.moved k1 w1.pin w1.df hpin',fun u=>?_,hst.size,hst.defers,hst.np⟩,hp,hdf⟩
      rw [nQ]
      exact sR (fun i _ hi=>hkeep i (hM.fresh i hi).2.2 hi) (hst.tm u)
    cases e with
    | normal =>
     obtain ⟨v,q1,q2⟩:=fin hk
     exact ⟨hst'.defers,v,q1,q2⟩
    | ret =>
     obtain ⟨v,q1,q2⟩:=fin hk
     exact ⟨hst'.defers,v,q1,q2⟩
    | exit id=>exact hk.elim
  ·exact h.elim
 ·exact h.elim
theorem mU {f:Nat} {ie:ItE P}:∀ {l:List (ItE P)},qG f l=some ie→ie.f=f
 | [],h=>by simp [qG] at h
 | c::r,h=>by
  simp only [qG] at h
  cases hc:c.f.beq f with
  | true=>rw [hc,Z6,Z1] at h;subst h;simpa using hc
  | false=>rw [hc,Z5] at h;exact mU h
theorem aWG (hF:Fw F P) {o:Oper} (hnd:∀ c,o.op≠ .defer c) {s:MS} {x:XS} {c:Ctx} {a:Act} {w:World} {K:MS→XS→Prop} {i:Nat} (hre:aVo X s o=some i)
  (h:aUf X i o s x K) (hs:XSt P S0 w0 pin zs s x c a w)
  (hK:∀ s' x' c' a' w',K s' x'→XSt P S0 w0 pin zs s' x' c' a' w'→wpListIn F n P ops Q rest a' w'):wpListIn F n P ops Q (o::rest) a w:=by
 obtain ⟨t,d,off,hot,hod,hlk,hnp,hfree⟩:∃ t d off,o.op= .alloc t∧o.dst=some d∧look d s.tm= .bp i off∧jG s.np i=false∧fA i 0 s.bx=true:=by
  unfold aVo at hre
  cases hb:aLI (X.E.fzs 999997) with
  | false=>rw [hb] at hre;simp at hre
  | true =>
   rw [hb,Z6] at hre
   split at hre
   ·rename_i t ht
    split at hre
    ·rename_i d hd
     split at hre
     ·rename_i j off hl
      cases hc:(off.beq 0&&!(jG s.np j)&&fA j 0 s.bx) with
      | false=>rw [hc] at hre;simp at hre
      | true =>
       rw [hc,Z6,Z1] at hre
       subst hre
       simp only [Z3] at hc
       exact ⟨t,d,off,ht,hd,hl,by simpa using hc.1.2,hc.2⟩
     ·simp at hre
    ·simp at hre
   ·simp at hre
 unfold aUf at h
 split at h
 ·exact h.elim
 ·rename_i hg
  cases hdd:gF o.dst s.n with
  | false=>rw [hdd] at h;exact h.elim
  | true =>
   rw [hdd,Z6] at h
   split at h
   ·rename_i p b mk he
    obtain ⟨hp,h⟩:=oand_holds.1 h
    obtain ⟨w1,hst,_,hback⟩:=hs.with_
    have hlive:c.live i:=by
     have:=hst.tm d
     rw [hlk] at this
     exact (bU this rfl (by simp) rfl).1
    have hlt:=(hst.mem.fresh i hlive).2.2
    have hpin:∀ b z,¬ w1.pin i b z:=fun b z q=>by have:=hst.np i b z q;rw [hnp] at this;cases this
    obtain ⟨m1,k1⟩:=hst.mem.drop hfree b hpin
    generalize hcd:eO S0 (aO s.bx i b) (c.but i).live c.β c.sz=cd at m1 k1
    have hl:∀ j,cd.live j↔c.live j∧j≠i:=by subst hcd;exact fun j=>Iff.rfl
    have hdead:¬ cd.live i:=fun q=>((hl i).1 q).2 rfl
    have htm:∀ u,Rep cd w (look u (kV i s.tm)) (a.tmps.getD u undef):=fun u=>by
     rw [yG]
     cases hm:(look u s.tm).ment i with
     | true=>exact trivial
     | false=>exact (Rep.but hm (hst.tm u)).keep k1
    have hst1:St S0 w1 ⟨s.n,kV i s.tm,aO s.bx i b,s.np⟩ cd a w:=⟨m1,htm,hst.size,hst.defers,hst.np⟩
    have hb':aR (aO s.bx i b) i=some b:=by
     rw [bI];simp [hlt]
    obtain ⟨dst,op,type,pos,after,guard⟩:=o
    simp only at hot hod hg hdd
    subst hot
    obtain ⟨arr,ty,v,hrun,_,hnew⟩:=(aBJ (P:=P) (c:=cd) (w:=w) (he:g9 P X.E.bigT t= .new p b mk)).run
    have hal:=m1.allocAt arr ty i b hb' hdead (fun j=>cd.live j∨j=i) (fun j=>if j=i then w.heap.size else cd.β j) (fun j=>if j=i then ⟨arr.size,b.c.wd⟩ else cd.sz j) (fun j=>Iff.rfl)
     (fun j hj=>if_neg (fun e:j=i=>hdead (e ▸ hj))) (fun j hj=>if_neg (fun e:j=i=>hdead (e ▸ hj))) (if_pos rfl)
     (fun c' k q1 q2 q3=>(hnew c' i k (by rw [q1];exact .inr rfl) (by rw [q2];exact if_pos rfl) (by rw [q3];exact if_pos rfl)).2)
    have hrep:=(hnew _ i hal.2 (.inr rfl) (if_pos rfl) (if_pos rfl)).1
    have hst2:St S0 w1 ⟨s.n,kV i s.tm,aO s.bx i b,s.np⟩ _ a _:=hst1.keepTm (s':=⟨s.n,kV i s.tm,aO s.bx i b,s.np⟩) hal.2 hal.1 rfl rfl rfl
    have hr2:(execOp a.eval ⟨dst,.alloc t,type,pos,after,guard⟩).run P w= .ok (.value v) (w.alloc (.cells arr ty)):=cE hrun
    exact pA hF hnd hg hr2 (hK _ _ _ _ _ h (hback _ _ _ _ (hst2.putO hdd hrep)))
   ·exact h.elim
theorem aSt (hmix:P.follows .mixedOrders=true) (hF:Fw F P) (hY:YSnd F (n -1) P S0 w0 pin zs H) (hz:∀ pe z,z∈zs pe→z.2.isWalk=false) {o:Oper} (hnd:∀ c,o.op≠ .defer c) {s:MS} {x:XS} {c:Ctx} {a:Act} {w:World} {K:MS→XS→Prop}
  (h:aEV X H ops.toList o s x K) (hs:XSt P S0 w0 pin zs s x c a w)
  (hK:∀ s' x' c' a' w',K s' x'→XSt P S0 w0 pin zs s' x' c' a' w'→wpListIn F n P ops Q rest a' w'):wpListIn F n P ops Q (o::rest) a w:=by
 have hdep:¬ F.depth.isSome=true:=by rw [hF.depth];simp
 unfold aEV at h
 split at h
 ·rename_i i hre
  exact aWG hF hnd hre h hs hK
 split at h
 ·exact aCW hF hnd h hs hK
 ·rename_i i _
  obtain ⟨w1,hst,_,hback⟩:=hs.with_
  exact aCW hF hnd h (hback _ _ _ _ (hst.forget i)) hK
 ·split at h
  ·exact h.elim
  ·rename_i hg
   cases hdd:gF o.dst s.n with
   | false=>rw [hdd] at h;exact h.elim
   | true =>
    rw [hdd,Z6] at h
    split at h
    ·
     rename_i t hx
     split at h
     ·rename_i kt q n' vk hty
      split at h
      ·rename_i hmp
       have ho:=aVR hx
       obtain ⟨et,e,_,_,k3,k4,k5,_⟩:=aCg hty
       have hrun:(execOp a.eval o).run P w= .ok (.value (.map (some w.heap.size))) (w.alloc (.map #[] 0)):=by
        simp [execOp,ho,Instr.makeMap,Result.andThen]
       refine pA hF hnd hg hrun (hK _ _ c _ _ (h w.heap.size) ?_)
       obtain ⟨w1,Ds,hO,hst,hp,hdf⟩:=hs
       have hN:w0.w.heap.size≤w.heap.size:=Nat.le_trans hO.reb.ext.size hst.mem.ext.size
       have k:=Moved.alloc hN (.map #[] 0)
       have hO2:=hO.move hst.mem k (fun e he _=>Below.heap_alloc w _ e he) w1.pin w1.df
       refine ⟨_,Ds,⟨hO2.reb,hO2.nd,hO2.ds,hO2.zs,fun B m hBm=>?_,hO2.dis⟩,(hst.at k).putO hdd ((bA rfl).2 ((aU rfl (by simp)).2 ⟨rfl,rfl⟩)),hp,hdf⟩
       simp only [Z1,Z2] at hBm
       obtain ⟨rfl,rfl⟩:=hBm
       refine ⟨⟨⟨e,k3,k4⟩,k5⟩,_,⟨#[],0,rfl,fun y hy=>by simp at hy,fun l _ hf=>by simp at hf⟩,World.alloc_heap_new w _,?_,hN⟩
       rintro ⟨i,hi,he⟩
       have:=(hst.mem.fresh i hi).2.1
       omega
      ·exact h.elim
     ·exact h.elim
    ·
     rename_i t m kv hx
     split at h
     ·rename_i p B mm l hkey
      split at h
      ·rename_i hvk
       obtain ⟨hp,h⟩:=h
       obtain ⟨m',k',ho,rfl,rfl⟩:=aHQ hx
       obtain ⟨q1,q2,q3,q4,ms,q5,q6,et,q7,q8⟩:=qK hkey hp
       have r1:=hs.tm m'
       have r2:=hs.tm k'
       rw [q1] at r1
       rw [q5] at r2
       obtain ⟨w1,Ds,hO,hst,hp,hdf⟩:=id hs
       obtain ⟨hT,ob,hmo,hext⟩:=hO.mp B mm q2
       have hnow:=(hext.now hst.mem).1
       have hrun:(execOp a.eval o).run P w= .ok (.value (.bool (mm.f l))) w:=by
        rw [hvk] at q8
        have:=aCH (P:=P) (w:=w) hT hvk hmo hnow q4 q3 q7 (q8 w)
        rw [← vI q6 r2,← (lH r1).1] at this
        simp [execOp,ho,this,Result.andThen]
       exact pA hF hnd hg hrun (hK _ _ c _ _ h (hs.putO hdd (eK _)))
      ·exact h.elim
     ·exact h.elim
    ·
     rename_i t m kv hx
     split at h
     ·rename_i p B mm l hkey
      split at h
      ·exact h.elim
      ·rename_i k hvk
       obtain ⟨hp,h⟩:=h
       obtain ⟨m',k',ho,rfl,rfl⟩:=aMA hx
       obtain ⟨q1,q2,q3,q4,ms,q5,q6,et,q7,q8⟩:=qK hkey hp
       have r1:=hs.tm m'
       have r2:=hs.tm k'
       rw [q1] at r1
       rw [q5] at r2
       obtain ⟨w1,Ds,hO,hst,hp,hdf⟩:=id hs
       obtain ⟨hT,ob,hmo,hext⟩:=hO.mp B mm q2
       have hnow:=(hext.now hst.mem).1
       rw [hvk] at q8
       obtain ⟨z,hz⟩:=aHo (P:=P) (w:=w) hT hvk hmo hnow q4 q3 q7 (q8 w)
       have hrun:(execOp a.eval o).run P w= .ok (.value (.tuple #[.int k z,.bool (mm.f l)])) w:=by
        rw [← vI q6 r2,← (lH r1).1] at hz
        simp [execOp,ho,hz,Result.andThen]
       exact pA hF hnd hg hrun (hK _ _ c _ _ (h z) (hs.putO hdd ⟨_,rfl,_,_,rfl,(bA rfl).1 (dH k z),_,_,rfl,(bA rfl).1 (eK _),rfl⟩))
     ·exact h.elim
    ·
     rename_i t m kv v hx
     split at h
     ·rename_i p B mm l hkey
      obtain ⟨m',k',v',ho,e1,e2,e3⟩:=aK3 hx
      subst e1 e2
      have r3:=hs.tm v'
      rw [← e3] at r3
      have main:∀ v0,aJq mm.vk v0→a.eval v'=v0→p→o.dst=none→K s ⟨some (B,mm.add l),x.pe⟩→wpListIn F n P ops Q (o::rest) a w:=by
       intro v0 hv0 hev hp hdst h
       obtain ⟨q1,q2,q3,q4,ms,q5,q6,et,q7,q8⟩:=qK hkey hp
       have r1:=hs.tm m'
       have r2:=hs.tm k'
       rw [q1] at r1
       rw [q5] at r2
       obtain ⟨w1,Ds,hO,hst,hp,hdf⟩:=hs
       obtain ⟨hT,ob,hmo,hext⟩:=hO.mp B mm q2
       obtain ⟨hnow,hnown⟩:=hext.now hst.mem
       obtain ⟨o',hu,hmo'⟩:=aCI (P:=P) (w:=w) hT hv0 hmo hnow q4 q3 q7
       have hrun:(execOp a.eval o).run P w= .ok .skip (w.putObj B o'):=by
        rw [← vI q6 r2,← (lH r1).1,← hev] at hu
        simp [execOp,ho,hu,Result.andThen]
       unfold wpListIn
       rw [if_pos (by simp [Region.wanted,hg])]
       refine ⟨fun f _=>hF.fn f,?_⟩
       rw [hF.sem _ _ hnd,hrun,Oper.uponIn_skip,hdst]
       have hlt:=(Array.getElem?_eq_some_iff.1 hnow).1
       have k:=Moved.put (N:=w0.w.heap.size) hnow hext.lo hmo.notCells hmo'.notCells
       have hne:∀ e ob',Extn w0 w1 e ob'→ob'.isWalk=false→e≠B:=fun e ob' q hw hh=>by
        subst hh
        have:=(q.now hst.mem).1
        rw [hnow,Z1] at this
        obtain ⟨es,clock,he,_⟩:=hmo
        rw [← this,he] at hw
        simp [Obj.isWalk] at hw
       refine hK _ _ c _ _ h ⟨gQ (w.putObj B o') c w1.pin w1.df,Ds,⟨hO.reb.move hst.mem k w1.pin w1.df,hO.nd,fun D hD=>(hO.ds D hD).move hst.mem (World.putObj_heap_other (hne D _ (hO.ds D hD) rfl)) _ _,fun z hzz=>(hO.zs z hzz).move hst.mem (World.putObj_heap_other (hne _ _ (hO.zs z hzz) (hz _ z hzz))) _ _,fun B' m' hBm=>?_,hO.dis⟩,hst.at k,hp,hdf⟩
       simp only [Z1,Z2] at hBm
       obtain ⟨rfl,rfl⟩:=hBm
       exact ⟨⟨hT.ex,hT.size⟩,o',hmo',World.putObj_heap_same hlt,hnown,hext.lo⟩
      split at h
      ·split at h
       ·rename_i hdst
        split at h
        ·rename_i hvk
         obtain ⟨⟨hp,hb⟩,h⟩:=h
         subst hb
         exact main _ (by rw [hvk];exact rfl) (gH r3) hp hdst h
        ·exact h.elim
       ·exact h.elim
      ·split at h
       ·rename_i hdst
        split at h
        ·exact h.elim
        ·rename_i hvk
         obtain ⟨⟨hp,hb⟩,h⟩:=h
         subst hb
         exact main _ (by rw [hvk];exact ⟨_,rfl⟩) (eN r3) hp hdst h
       ·exact h.elim
      ·exact h.elim
     ·exact h.elim
    ·
     rename_i l args hx
     cases hta:(args.all fun m=>!m.isTup) with
     | false=>rw [hta] at h;exact h.elim
     | true =>
      rw [hta,Z6] at h
      split at h
      ·rename_i hpe
       obtain ⟨rfl,h⟩:=h
       obtain ⟨cc,g,ho,hc,rfl,hh⟩:=aDi (.inl hx)
       rcases hh with ⟨_,hev⟩|⟨hh,_⟩
       ·have hgv:a.eval g= .func (.yield H.L) #[] #[]:=by
         have:=hs.tm g
         rw [hev] at this
         exact (lH this).1
        have hall:=sG (c:=c) (w:=w) (s:=s) (a:=a) cc.args.toList (fun y _=>hs.tm y) hta
        have hx2:x=⟨x.mp,none⟩:=by cases x;simp only at hpe;subst hpe;rfl
        rw [hx2] at h hs
        obtain ⟨f0,tmps,assign,body,hyr,hR⟩:=hY.h _ s x.mp c a w _ _ _ h hs hall
        have eargs:(cc.args.toList.map a.eval).toArray=cc.args.map a.eval:=by apply Array.ext';simp
        rw [eargs] at hyr
        unfold wpListIn
        rw [if_pos (by simp [Region.wanted,hg])]
        refine ⟨fun f _=>hF.fn f,?_⟩
        rw [hF.sem _ _ hnd,aIw ho hc hgv,hyr,Oper.uponIn_round]
        refine ⟨fun h=>absurd h hdep,hR.mono fun e w' he=>?_⟩
        rcases he with ⟨rfl,bx,mp',c',q1,q2⟩|⟨rfl,e',bx,mp',c',q1,q2⟩
        ·exact hK _ _ c' _ _ q1 (q2.putO hdd (eK _))
        ·exact hK _ _ c' _ _ q1 (q2.putO hdd (eK _))
       ·rw [hh] at hx;simp at hx
      ·exact h.elim
    ·
     rename_i f args hx
     cases hta:(args.all fun m=>!m.isTup) with
     | false=>rw [hta] at h;exact h.elim
     | true =>
      rw [hta,Z6] at h
      split at h
      ·rename_i ie hie
       have hf:=mU hie
       obtain ⟨cc,g,ho,hc,rfl,hh⟩:=aDi (.inr hx)
       rcases hh with ⟨hh,_⟩|⟨_,hev⟩
       ·rw [hh] at hx;simp at hx
       ·have hgv:a.eval g= .func (.func f) #[] #[]:=by
         have:=hs.tm g
         rw [hev] at this
         obtain ⟨cs,h1,h2,_⟩:=bU this rfl (by simp) rfl
         have h2:cs= []:=h2
         subst h2
         simpa using h1
        have hall:=sG (c:=c) (w:=w) (s:=s) (a:=a) cc.args.toList (fun y _=>hs.tm y) hta
        have eargs:(cc.args.toList.map a.eval).toArray=cc.args.map a.eval:=by apply Array.ext';simp
        have hC:=aDY hmix h hs (vs:=cc.args.map a.eval) (by rw [← eargs];exact hall)
        unfold wpListIn
        rw [if_pos (by simp [Region.wanted,hg])]
        refine ⟨fun f _=>hF.fn f,?_⟩
        rw [hF.sem _ _ hnd,aBW ho hc hgv (hf ▸ ie.hc),Oper.uponIn_enter]
        refine ⟨fun h=>absurd h hdep,hF.calls (hf ▸ hC.mono ?_)⟩
        rintro e w' ⟨v,m,bx,c',rfl,q1,q2,q3⟩
        exact hK _ _ c' _ _ q1 (q3.putO hdd q2)
      ·exact h.elim
    ·exact h.elim
theorem aT9 {Q1:Exit→Act→World→Prop} (hp:∀ ch a w,¬ Q1 (.panic ch) a w) (ho:∀ a w,¬ Q1 .outgrown a w) {o:Oper} {a:Act} {w:World} (hr:∀ a w,Q1 .normal a w→wpList P ops Q rest a w)
  (h:wpList P ops Q1 [o] a w):wpList P ops Q (o::rest) a w:=by
 unfold wpList at h⊢
 split at h
 ·rename_i hw
  rw [if_pos hw]
  rcases h with h|⟨_,h⟩
  ·refine .inl ?_
   unfold Oper.wp at h⊢
   generalize (execOp a.eval o).run P w=res at h⊢
   cases res with
   | ok nx w' =>
    cases nx with
    | value v=>exact hr _ _ h
    | skip=>exact hr _ _ h
    | defer d=>exact hr _ _ h
    | enter f args =>
     refine Calls.mono h ?_
     intro e w'' he
     cases e with
     | returned v=>exact hr _ _ he
     | panicked c=>exact (hp _ _ _ he).elim
     | outgrown=>exact (let ⟨a,w,q⟩:=he;(ho a w q).elim)
    | row rw args=>exact Rows.mono h fun v w'' hv=>hr _ _ hv
    | round l f t x y=>exact h.elim
    | _=>exact h.elim
   | halt hh w' =>
    cases hh
    all_goals first|exact (hp _ _ _ h).elim|exact h.elim
  ·exact (let ⟨a,w,q⟩:=h;(ho a w q).elim)
 ·rename_i hw
  rw [if_neg hw]
  exact hr _ _ h
theorem aPn (hmix:P.follows .mixedOrders=true) (hz:∀ pe z,z∈zs pe→z.2.isWalk=false) {o:Oper} {s:MS} {x:XS} {c:Ctx} {a:Act} {w:World} {K:MS→XS→Prop}
  (h:aEU X ops.toList o s x K) (hs:XSt P S0 w0 pin zs s x c a w)
  (hK:∀ s' x' c' a' w',K s' x'→XSt P S0 w0 pin zs s' x' c' a' w'→wpList P ops Q rest a' w'):wpList P ops Q (o::rest) a w:=by
 have plain:∀ (s:MS),gG X.E ops.toList (fun _=>False) [o] s (fun s'=>K s' x)→XSt P S0 w0 pin zs s x c a w→wpList P ops Q (o::rest) a w:=by
  intro s h hs
  obtain ⟨w1,hst,hreb,hback⟩:=hs.with_
  have:=eV (Q:=fun e a' w'=>match e with| .normal=>∃ s' c',K s' x∧St S0 w1 s' c' a' w'|_=>False) (ops:=ops) (w0:=w1) (fun m v w' a' hk _ _ _=>hk.elim) [o] s _ c a w h hst (fun s' c' a' w' q1 q2 _=>⟨s',c',q1,q2⟩)
  exact aT9 (fun _ _ _ q=>q) (fun _ _ q=>q) (fun a' w' ⟨s',c',q1,q2⟩=>hK s' x c' a' w' q1 (hback _ _ _ _ q2)) this
 have value:∀ {w':World} {v:Value},o.guard=none→(execOp a.eval o).run P w= .ok (.value v) w'→wpList P ops Q rest (a.put o.dst v) w'→wpList P ops Q (o::rest) a w:=by
  intro w' v hg hrun h
  unfold wpList
  rw [if_pos (by simp [Region.wanted,hg])]
  refine .inl ?_
  unfold Oper.wp
  rw [hrun,Oper.upon_value]
  exact h
 unfold aEU at h
 split at h
 ·exact plain s h hs
 ·rename_i i _
  obtain ⟨w1,hst,_,hback⟩:=hs.with_
  exact plain _ h (hback _ _ _ _ (hst.forget i))
 ·split at h
  ·exact h.elim
  ·rename_i hg
   cases hdd:gF o.dst s.n with
   | false=>rw [hdd] at h;exact h.elim
   | true =>
    rw [hdd,Z6] at h
    split at h
    ·rename_i t m kv hx
     split at h
     ·rename_i p B mm l hkey
      split at h
      ·rename_i hvk
       obtain ⟨hp,h⟩:=h
       obtain ⟨m',k',ho,rfl,rfl⟩:=aHQ hx
       obtain ⟨q1,q2,q3,q4,ms,q5,q6,et,q7,q8⟩:=qK hkey hp
       have r1:=hs.tm m'
       have r2:=hs.tm k'
       rw [q1] at r1
       rw [q5] at r2
       obtain ⟨w1,Ds,hO,hst,hp,hdf⟩:=id hs
       obtain ⟨hT,ob,hmo,hext⟩:=hO.mp B mm q2
       have hnow:=(hext.now hst.mem).1
       have hrun:(execOp a.eval o).run P w= .ok (.value (.bool (mm.f l))) w:=by
        rw [hvk] at q8
        have:=aCH (P:=P) (w:=w) hT hvk hmo hnow q4 q3 q7 (q8 w)
        rw [← vI q6 r2,← (lH r1).1] at this
        simp [execOp,ho,this,Result.andThen]
       exact value hg hrun (hK _ _ c _ _ h (hs.putO hdd (eK _)))
      ·exact h.elim
     ·exact h.elim
    ·rename_i t m kv v hx
     split at h
     ·rename_i p B mm l hkey
      obtain ⟨m',k',v',ho,e1,e2,e3⟩:=aK3 hx
      subst e1 e2
      have r3:=hs.tm v'
      rw [← e3] at r3
      split at h
      ·split at h
       ·rename_i hdst
        split at h
        ·rename_i hvk
         obtain ⟨⟨hp,hb⟩,h⟩:=h
         subst hb
         have hev:=gH r3
         obtain ⟨q1,q2,q3,q4,ms,q5,q6,et,q7,q8⟩:=qK hkey hp
         have r1:=hs.tm m'
         have r2:=hs.tm k'
         rw [q1] at r1
         rw [q5] at r2
         obtain ⟨w1,Ds,hO,hst,hp,hdf⟩:=hs
         obtain ⟨hT,ob,hmo,hext⟩:=hO.mp B mm q2
         obtain ⟨hnow,hnown⟩:=hext.now hst.mem
         obtain ⟨o',hu,hmo'⟩:=aCI (P:=P) (w:=w) hT (v:= .bool true) (by rw [hvk];exact rfl) hmo hnow q4 q3 q7
         have hrun:(execOp a.eval o).run P w= .ok .skip (w.putObj B o'):=by
          rw [← vI q6 r2,← (lH r1).1,← hev] at hu
          simp [execOp,ho,hu,Result.andThen]
         unfold wpList
         rw [if_pos (by simp [Region.wanted,hg])]
         refine .inl ?_
         unfold Oper.wp
         rw [hrun,Oper.upon_skip,hdst]
         have hlt:=(Array.getElem?_eq_some_iff.1 hnow).1
         have k:=Moved.put (N:=w0.w.heap.size) hnow hext.lo hmo.notCells hmo'.notCells
         have hne:∀ e ob',Extn w0 w1 e ob'→ob'.isWalk=false→e≠B:=fun e ob' q hw hh=>by
          subst hh
          have:=(q.now hst.mem).1
          rw [hnow,Z1] at this
          obtain ⟨es,clock,he,_⟩:=hmo
          rw [← this,he] at hw
          simp [Obj.isWalk] at hw
         refine hK _ _ c _ _ h ⟨gQ (w.putObj B o') c w1.pin w1.df,Ds,⟨hO.reb.move hst.mem k w1.pin w1.df,hO.nd,fun D hD=>(hO.ds D hD).move hst.mem (World.putObj_heap_other (hne D _ (hO.ds D hD) rfl)) _ _,fun z hzz=>(hO.zs z hzz).move hst.mem (World.putObj_heap_other (hne _ _ (hO.zs z hzz) (hz _ z hzz))) _ _,fun B' m' hBm=>?_,hO.dis⟩,hst.at k,hp,hdf⟩
         simp only [Z1,Z2] at hBm
         obtain ⟨rfl,rfl⟩:=hBm
         exact ⟨⟨hT.ex,hT.size⟩,o',hmo',World.putObj_heap_same hlt,hnown,hext.lo⟩
        ·exact h.elim
       ·exact h.elim
      ·exact h.elim
     ·exact h.elim
    ·
     rename_i f args hx
     cases hta:(args.all fun m=>!m.isTup) with
     | false=>rw [hta] at h;exact h.elim
     | true =>
      rw [hta,Z6] at h
      split at h
      ·rename_i ie hie
       have hf:=mU hie
       obtain ⟨cc,g,ho,hc,rfl,hh⟩:=aDi (.inr hx)
       rcases hh with ⟨hh,_⟩|⟨_,hev⟩
       ·rw [hh] at hx;simp at hx
       ·have hgv:a.eval g= .func (.func f) #[] #[]:=by
         have:=hs.tm g
         rw [hev] at this
         obtain ⟨cs,h1,h2,_⟩:=bU this rfl (by simp) rfl
         have h2:cs= []:=h2
         subst h2
         simpa using h1
        have hall:=sG (c:=c) (w:=w) (s:=s) (a:=a) cc.args.toList (fun y _=>hs.tm y) hta
        have eargs:(cc.args.toList.map a.eval).toArray=cc.args.map a.eval:=by apply Array.ext';simp
        have hC:=aDY hmix h hs (vs:=cc.args.map a.eval) (by rw [← eargs];exact hall)
        unfold wpList
        rw [if_pos (by simp [Region.wanted,hg])]
        refine .inl ?_
        unfold Oper.wp
        rw [aBW ho hc hgv (hf ▸ ie.hc)]
        refine Calls.mono (hf ▸ hC) ?_
        rintro e w' ⟨v,m,bx,c',rfl,q1,q2,q3⟩
        exact hK _ _ c' _ _ q1 (q3.putO hdd q2)
      ·exact h.elim
    ·exact h.elim
theorem aCP (hmix:P.follows .mixedOrders=true) (hz:∀ pe z,z∈zs pe→z.2.isWalk=false) {K:MS→XS→Prop} (hK:∀ s' x' c' a' w',K s' x'→XSt P S0 w0 pin zs s' x' c' a' w'→Q .normal a' w') :
  ∀ (l:List Oper) (s:MS) (x:XS) (c:Ctx) (a:Act) (w:World),aIq X ops.toList l s x K→XSt P S0 w0 pin zs s x c a w→wpList P ops Q l a w
 | [],s,x,c,a,w,h,hs=>hK s x c a w h hs
 | _::r,_,_,_,_,_,h,hs=>aPn hmix hz h hs fun s' x' c' a' w' q1 q2=>aCP hmix hz hK r s' x' c' a' w' q1 q2
end
end
section
theorem aD6 (t u:Nat) (m:MV):∀ (l:List (Nat×MV)),look u (aLV t m l)=if t=u then m else look u l
 | []=>by
  simp only [aLV,look]
  cases h:t.beq u with
  | true=>simp only [Nat.beq_eq] at h;simp [h]
  | false =>
   have:t≠u:=by intro e;subst e;simp at h
   simp [this]
 | (v,x)::r=>by
  simp only [aLV]
  cases h1:v.blt t with
  | true =>
   rw [Nat.blt_eq] at h1
   simp only [Z6,look,aD6 t u m r]
   cases h:v.beq u with
   | true =>
    simp only [Nat.beq_eq] at h
    subst h
    have hne:t≠v:=by omega
    simp [hne]
   | false=>rfl
  | false =>
   simp only [Z5]
   cases h2:v.beq t with
   | true =>
    simp only [Nat.beq_eq] at h2
    subst h2
    simp only [Z6,look]
    cases h:v.beq u with
    | true=>simp only [Nat.beq_eq] at h;simp [h]
    | false =>
     have:v≠u:=by intro e;subst e;simp at h
     simp [this]
   | false =>
    simp only [Z5,look]
    cases h:t.beq u with
    | true=>simp only [Nat.beq_eq] at h;simp [h]
    | false =>
     have:t≠u:=by intro e;subst e;simp at h
     simp [this]
section
variable {P:Program} {ops:Array Oper} {S0:Nat→Prop} {w1:Base} {Q:Exit→Act→World→Prop}
theorem St.look {s s':MS} {c:Ctx} {a:Act} {w:World} (h:St S0 w1 s c a w) (hn:s'.n=s.n) (hb:s'.bx=s.bx) (hp:s'.np=s.np) (hl:∀ t,Go.Proofs.YtihcjnpabcejlaaGreat.look t s'.tm=Go.Proofs.YtihcjnpabcejlaaGreat.look t s.tm):St S0 w1 s' c a w :=
 ⟨hb ▸ h.mem,fun t=>by rw [hl];exact h.tm t,by rw [hn];exact h.size,h.defers,by rw [hp];exact h.np⟩
theorem St.sorted {s:MS} {c:Ctx} {a:Act} {w:World} {d:Option Nat} {m:MV} (h:St S0 w1 (s.putO d m) c a w):St S0 w1 (s.putSO d m) c a w:=by
 cases d with
 | none=>exact h
 | some t=>exact h.look rfl rfl rfl (fun u=>by show Go.Proofs.YtihcjnpabcejlaaGreat.look u (aLV t m s.tm)=_;rw [aD6];show _=Go.Proofs.YtihcjnpabcejlaaGreat.look u (s.put t m).tm;rw [nP])
theorem aVN {Q1:Exit→Act→World→Prop} (hp:∀ ch a w,¬ Q1 (.panic ch) a w) (ho:∀ a w,¬ Q1 .outgrown a w) {i:Nat} {K K':Act→World→Prop} (hK:∀ a w,K a w→K' a w) {a:Act} {w:World} (h:wpOp P ops Q1 i K a w):wpOp P ops Q i K' a w:=by
 unfold wpOp at h⊢
 split at h
 ·exact hK _ _ h
 ·rename_i o _
  split at h
  ·rename_i hw
   rw [if_pos hw]
   rcases h with h|⟨_,h⟩
   ·refine .inl ?_
    unfold Oper.wp at h⊢
    generalize (execOp a.eval o).run P w=res at h⊢
    cases res with
    | ok nx w' =>
     cases nx with
     | value v=>exact hK _ _ h
     | skip=>exact hK _ _ h
     | defer d=>exact hK _ _ h
     | enter f args =>
      refine Calls.mono h ?_
      intro e w'' he
      cases e with
      | returned v=>exact hK _ _ he
      | panicked c=>exact (hp _ _ _ he).elim
      | outgrown=>exact (let ⟨a,w,q⟩:=he;(ho a w q).elim)
     | row rw args=>exact Rows.mono h fun v w'' hv=>hK _ _ hv
     | round l f t x y=>exact h.elim
     | _=>exact h.elim
    | halt hh w' =>
     cases hh
     all_goals first|exact (hp _ _ _ h).elim|exact h.elim
   ·exact (let ⟨a,w,q⟩:=h;(ho a w q).elim)
  ·rename_i hw
   rw [if_neg hw]
   exact hK _ _ h
theorem zI {i:Nat}:∀ (l:List (Nat×MV)),yA i l=true→∀ t,(Go.Proofs.YtihcjnpabcejlaaGreat.look t l).ment i=false
 | [],_,t=>rfl
 | (u,m)::r,h,t=>by
  simp only [yA,Z3,Bool.not_eq_true'] at h
  simp only [Go.Proofs.YtihcjnpabcejlaaGreat.look]
  cases u.beq t with
  | true=>exact h.1
  | false=>exact zI r h.2 t
theorem aFW {o:Oper} {i:Nat} (hi:ops[i]? =some o) {E:Env P} {s:MS} {c:Ctx} {a:Act} {w:World} {K:MS→Prop} {K':Act→World→Prop} (h:gG E ops.toList (fun _=>False) [o] s K) (hs:St S0 w1 s c a w)
  (hK:∀ s' c' a' w',K s'→St S0 w1 s' c' a' w'→K' a' w'):wpOp P ops Q i K' a w:=by
 have:=eV (Q:=fun e a' w'=>match e with| .normal=>K' a' w'|_=>False) (ops:=ops) (w0:=w1) (fun m v w' a' hk _ _ _=>hk.elim) [o] s _ c a w h hs (fun s' c' a' w' q1 q2 _=>hK s' c' a' w' q1 q2)
 exact aVN (fun _ _ _ q=>q) (fun _ _ q=>q) (fun a' w' q=>q) (rH hi this)
theorem aEq {o:Oper} {i:Nat} (hi:ops[i]? =some o) (hg:o.guard=none) {s:MS} {p:OProp} {s':MS} (hd:gF o.dst s.n=true) (h:o9 s o (iH (aDk P) s o.op)=some (p,s')) (hp:p.holds) {c:Ctx} {a:Act} {w:World} (hs:St S0 w1 s c a w) :
  wpOp P ops Q i (fun a' w'=>∃ c',St S0 w1 s' c' a' w') a w:=by
 cases he:iH (aDk P) s o.op with
 | val p' m =>
  rw [he] at h
  simp only [o9,Z1,Z2] at h
  obtain ⟨rfl,rfl⟩:=h
  refine aFW hi (E:=aDk P) (K:=fun s2=>s2=s.putO o.dst m) ?_ hs (fun s2 c' a' w' q1 q2=>⟨c',by subst q1;exact q2.sorted⟩)
  simp only [gG,hg,hd,he,Z6]
  exact oand_holds.2 ⟨hp,trivial⟩
 | upd p' s2 m =>
  rw [he] at h
  simp only [o9,Z1,Z2] at h
  obtain ⟨rfl,rfl⟩:=h
  refine aFW hi (E:=aDk P) (K:=fun s3=>s3=s2.putO o.dst m) ?_ hs (fun s3 c' a' w' q1 q2=>⟨c',by subst q1;exact q2.sorted⟩)
  simp only [gG,hg,hd,he,Z6]
  exact oand_holds.2 ⟨hp,trivial⟩
 | new _ _ _=>rw [he] at h;simp [o9] at h
 | res _ _ _=>rw [he] at h;simp [o9] at h
 | pan _=>rw [he] at h;simp [o9] at h
 | stuck=>rw [he] at h;simp [o9] at h
theorem St.shutB {s:MS} {wd len:Nat} {f:Nat→MV} {d:Option Nat} {c:Ctx} {a:Act} {w:World} (h:St S0 w1 (({ s with bx:=s.bx++ [⟨false,.rows wd len f⟩] }:MS).putO d (.bs s.bx.length 0 len)) c a w) (hd:gF d s.n=true)
  (ht:yA s.bx.length s.tm=true) (hb:fA s.bx.length 0 s.bx=true) (hpin:∀ b z,¬ w1.pin s.bx.length b z):∃ c',St S0 w1 (s.putO d (.sl wd len f)) c' a w:=by
 have hM:Mem S0 w1 (s.bx++ [⟨false,.rows wd len f⟩]) c w:=by
  have:=h.mem
  rwa [dY] at this
 have hbf:fA s.bx.length 0 (s.bx++ [⟨false,.rows wd len f⟩])=true:=by
  have:∀ (l:List Box) (j:Nat),fA s.bx.length j l=true→fA s.bx.length j (l++ [⟨false,.rows wd len f⟩])=true:=by
   intro l
   induction l with
   | nil=>intro j _;simp [fA]
   | cons x r ih =>
    intro j hj
    simp only [fA,Z3] at hj
    simp only [List.cons_append,fA,Z3]
    exact ⟨hj.1,ih _ hj.2⟩
  exact this _ _ hb
 obtain ⟨m1,k1⟩:=hM.drop hbf ⟨false,.rows wd len f⟩ hpin
 generalize hcd:eO S0 (aO (s.bx++ [⟨false,.rows wd len f⟩]) s.bx.length ⟨false,.rows wd len f⟩) (c.but s.bx.length).live c.β c.sz=cd at m1 k1
 have hl:∀ i,cd.live i↔c.live i∧i≠s.bx.length:=by subst hcd;exact fun i=>Iff.rfl
 have hβ:cd.β=c.β:=by subst hcd;rfl
 have hsz:cd.sz=c.sz:=by subst hcd;rfl
 have hlt:∀ i,cd.live i→i<s.bx.length:=fun i hi=>by
  have h1:=(m1.fresh i hi).2.2
  rw [bX,List.length_append,List.length_singleton] at h1
  have:=((hl i).1 hi).2
  omega
 have hnth:∀ i,i<s.bx.length→aR (aO (s.bx++ [⟨false,.rows wd len f⟩]) s.bx.length ⟨false,.rows wd len f⟩) i=aR s.bx i:=fun i hi=>by
  rw [bI,if_neg (by omega)]
  simp only [bQ]
  rw [List.getElem?_append_left hi]
 have m2:Mem S0 w1 s.bx cd w:=by
  refine ⟨m1.ext,m1.S0lt,m1.gl,m1.hS,fun b=>(m1.hW b).trans ?_,m1.inj,fun i hi=>⟨(m1.fresh i hi).1,(m1.fresh i hi).2.1,hlt i hi⟩,fun i b hi hb=>m1.box i b hi (by rw [hnth i (hlt i hi)];exact hb),m1.pin⟩
  constructor
  ·rintro ⟨i,b0,h1,h2,h3,h4⟩
   exact ⟨i,b0,h1,by rw [hnth i (hlt i h1)] at h2;exact h2,h3,h4⟩
  ·rintro ⟨i,b0,h1,h2,h3,h4⟩
   exact ⟨i,b0,h1,by rw [hnth i (hlt i h1)];exact h2,h3,h4⟩
 have htm:∀ t,d≠some t→Rep cd w (Go.Proofs.YtihcjnpabcejlaaGreat.look t s.tm) (a.tmps.getD t undef):=fun t ht'=>by
  have h1:=h.tm t
  rw [jW _ _ _ _ ht'] at h1
  exact (Rep.but (zI _ ht t) h1).keep k1
 refine ⟨cd,by rw [dY];exact m2,fun t=>?_,by rw [aOS];have:=h.size;rw [aOS] at this;exact this,h.defers,fun i b z q=>?_⟩
 ·by_cases hdt:d=some t
  ·subst hdt
   rw [d8]
   have h1:=h.tm t
   rw [d8] at h1
   obtain ⟨ad,cap,e1,e2,e3⟩:=bU h1 rfl (by simp) rfl
   refine (bA rfl).2 ((aU rfl (by simp)).2 ⟨ad,cap,e1,e2,fun hpos=>?_⟩)
   rcases e3 with ⟨rfl,hlv,hcap⟩|⟨_,h0,_⟩
   ·obtain ⟨arr,ty,q1,q2,q3,q4⟩:=hM.box s.bx.length ⟨false,.rows wd len f⟩ hlv (by simp [bQ])
    refine ⟨c.β s.bx.length,0,rfl,fun hS=>?_,fun i hi=>?_⟩
    ·rcases (m2.hS _).1 hS with q|q
     ·exact hM.notS0 hlv q
     ·obtain ⟨j,b0,r1,_,_,r4⟩:=(m2.hW _).1 q
      rw [hβ] at r4
      have:=hM.inj j s.bx.length ((hl j).1 r1).1 hlv r4
      exact ((hl j).1 r1).2 this
    ·obtain ⟨cs,r1,r2,r3⟩:=q4 i hi
     refine ⟨cs,r1,RepC.keep k1.elem (f i) cs (show RepC (c.but s.bx.length).elem w (f i) cs from r2),arr,ty,_,q1,fun j v hj=>?_⟩
     rw [Nat.zero_add]
     exact r3 j v hj
   ·omega
  ·rw [jW _ _ _ _ hdt]
   exact htm t hdt
 ·have:=h.np i b z q
  cases d <;> exact this
theorem aGs {b:Bool} {x y:Act1} (h:cond b x .stuck=y) (hy:y≠ .stuck):x=y:=by
 cases b with
 | true=>exact h
 | false=>exact absurd h.symm hy
theorem vD {d:Nat}:∀ (l:List Box) (i id:Nat),vC d l i=some id→∃ j b,id=i+j∧aR l j=some b∧r6 d b=true
 | [],i,id,h=>by simp [vC] at h
 | b::r,i,id,h=>by
  simp only [vC] at h
  cases hb:r6 d b with
  | true =>
   rw [hb,Z6,Z1] at h
   exact ⟨0,b,h.symm,rfl,hb⟩
  | false =>
   rw [hb,Z5] at h
   obtain ⟨j,b',h1,h2,h3⟩:=vD r (i+1) id h
   exact ⟨j+1,b',by omega,h2,h3⟩
theorem aIA {d id:Nat} {bx:List Box} {c:Ctx} {w:World} (h:Mem S0 w1 bx c w) {b:Box} (hb:aR bx id=some b) (hg:r6 d b=true):¬ c.live id:=by
 intro hl
 obtain ⟨arr,ty,_,_,_,h4⟩:=h.box id b hl hb
 unfold r6 at hg
 split at hg
 ·rename_i m e
  rw [e] at h4
  obtain ⟨cs,h5,_⟩:=h4
  unfold aNN at hg
  split at hg
  ·simp only [RepC] at h5
  ·simp at hg
 ·simp at hg
theorem Mem.swapDead {bx:List Box} {c:Ctx} {w:World} (h:Mem S0 w1 bx c w) {id:Nat} (hd:¬ c.live id) (b':Box):Mem S0 w1 (aO bx id b') c w:=by
 have hn:∀ i,c.live i→aR (aO bx id b') i=aR bx i:=fun i hi=>by
  rw [bI,if_neg (fun e=>hd (by first|exact e.1 ▸ hi|exact e.1.symm ▸ hi))]
 refine ⟨h.ext,h.S0lt,h.gl,h.hS,fun b=>(h.hW b).trans ⟨?_,?_⟩,h.inj,fun i hi=>?_,fun i b hi hb=>h.box i b hi (by rw [← hn i hi];exact hb),h.pin⟩
 ·rintro ⟨i,b0,q1,q2,q3,q4⟩
  exact ⟨i,b0,q1,by rw [hn i q1];exact q2,q3,q4⟩
 ·rintro ⟨i,b0,q1,q2,q3,q4⟩
  exact ⟨i,b0,q1,by rw [← hn i q1];exact q2,q3,q4⟩
 ·rw [bX];exact h.fresh i hi
theorem Mem.more {bx:List Box} {c:Ctx} {w:World} (h:Mem S0 w1 bx c w) (g:List Box):Mem S0 w1 (bx++g) c w:=by
 have hn:∀ i,c.live i→aR (bx++g) i=aR bx i:=fun i hi=>by
  have:=(h.fresh i hi).2.2
  simp only [bQ]
  rw [List.getElem?_append_left this]
 refine ⟨h.ext,h.S0lt,h.gl,h.hS,fun b=>(h.hW b).trans ⟨?_,?_⟩,h.inj,fun i hi=>?_,fun i b hi hb=>h.box i b hi (by rw [← hn i hi];exact hb),h.pin⟩
 ·rintro ⟨i,b0,q1,q2,q3,q4⟩
  exact ⟨i,b0,q1,by rw [hn i q1];exact q2,q3,q4⟩
 ·rintro ⟨i,b0,q1,q2,q3,q4⟩
  exact ⟨i,b0,q1,by rw [← hn i q1];exact q2,q3,q4⟩
 ·obtain ⟨q1,q2,q3⟩:=h.fresh i hi
  exact ⟨q1,q2,by rw [List.length_append];omega⟩
theorem St.ghosts {s:MS} {c:Ctx} {a:Act} {w:World} (h:St S0 w1 s c a w) (fl:List Nat) (L:List Oper):St S0 w1 (s.ghosts fl L) c a w:=by
 cases fl with
 | nil=>exact h
 | cons _ _=>exact ⟨h.mem.more _,h.tm,h.size,h.defers,h.np⟩
theorem aIB {o:Oper} {i:Nat} (hi:ops[i]? =some o) (hg:o.guard=none) {s:MS} (hd:gF o.dst s.n=true) {id:Nat} (hid:aB5 s o=some id) {p:OProp} {b:Box} {mk:Nat→MV} (he:iH (aDk P) s o.op= .new p b mk) (hp:p.holds)
  {c:Ctx} {a:Act} {w:World} (hs:St S0 w1 s c a w):wpOp P ops Q i (fun a' w'=>∃ c',St S0 w1 (({ s with bx:=aO s.bx id b }:MS).putSO o.dst (mk id)) c' a' w') a w:=by
 have hgb:∃ d b0,aR s.bx id=some b0∧r6 d b0=true:=by
  unfold aB5 at hid
  split at hid
  ·rename_i d _
   obtain ⟨j,b0,h1,h2,h3⟩:=vD _ _ _ hid
   rw [Nat.zero_add] at h1
   subst h1
   exact ⟨d,b0,h2,h3⟩
  ·simp at hid
 obtain ⟨d,b0,hb0,hg0⟩:=hgb
 have hdead:=aIA hs.mem hb0 hg0
 have HE:uH c w s a o.op.operands.toList:=kH fun t _=>hs.tm t
 obtain ⟨r,hex,⟨arr,ty,v,hrun,_,hnew⟩⟩:=aET he hp HE
 have hb':aR (aO s.bx id b) id=some b:=by
  have:=i6 hb0
  rw [bI];simp [this]
 have hal:=(hs.mem.swapDead hdead b).allocAt arr ty id b hb' hdead (fun i'=>c.live i'∨i'=id) (fun i'=>if i'=id then w.heap.size else c.β i') (fun i'=>if i'=id then ⟨arr.size,b.c.wd⟩ else c.sz i') (fun i'=>Iff.rfl)
  (fun i' hi'=>if_neg (fun e:i'=id=>hdead (e ▸ hi'))) (fun i' hi'=>if_neg (fun e:i'=id=>hdead (e ▸ hi'))) (if_pos rfl)
  (fun c' k q1 q2 q3=>(hnew c' id k (by rw [q1];exact .inr rfl) (by rw [q2];exact if_pos rfl) (by rw [q3];exact if_pos rfl)).2)
 have hrep:=(hnew _ id hal.2 (.inr rfl) (if_pos rfl) (if_pos rfl)).1
 have hs1:St S0 w1 { s with bx:=aO s.bx id b } _ a _:=hs.keepTm (s':={ s with bx:=aO s.bx id b }) hal.2 hal.1 rfl rfl rfl
 unfold wpOp
 simp only [hi]
 have hw:Region.wanted o (yielded ops a.tmps)=true:=by simp [Region.wanted,hg]
 rw [if_pos hw]
 refine .inl ?_
 unfold Oper.wp
 rw [hex,cE hrun,Oper.upon_value]
 exact ⟨_,(hs1.putO hd hrep).sorted⟩
theorem aI9 {o:Oper} {i:Nat} (hi:ops[i]? =some o) {s:MS} {p:OProp} {s':MS} (h:sS P s o=some (p,s')) (hp:p.holds) {c:Ctx} {a:Act} {w:World} (hs:St S0 w1 s c a w) :
  wpOp P ops Q i (fun a' w'=>∃ c',St S0 w1 s' c' a' w') a w:=by
 unfold sS at h
 split at h
 ·simp at h
 ·rename_i hg
  cases hd:gF o.dst s.n with
  | false=>rw [hd] at h;simp at h
  | true =>
   rw [hd,Z6] at h
   split at h
   ·rename_i id hid
    split at h
    ·rename_i p' b mk he
     simp only [Z1,Z2] at h
     obtain ⟨rfl,rfl⟩:=h
     exact aIB hi hg hd hid he hp hs
    ·simp at h
   split at h
   ·rename_i t len parts ho
    split at h
    ·rename_i p' b mk he
     split at h
     ·rename_i wd n f hb
      cases hc:(!b.fz&&yA s.bx.length s.tm&&fA s.bx.length 0 s.bx) with
      | false=>rw [hc] at h;simp at h
      | true =>
       rw [hc] at h
       simp only [Z6,Z1,Z2] at h
       obtain ⟨rfl,rfl⟩:=h
       simp only [Z3,Bool.not_eq_true'] at hc
       have hbe:b=⟨false,.rows wd n f⟩:=by cases b;simp only at hb hc;rw [hb,hc.1.1]
       subst hbe
       have hmk:mk=fun i=> .bs i 0 n:=by
        unfold bS at he
        split at he
        ·split at he
         ·split at he
          ·have:=aGs he (by simp)
           simp at this
          ·simp at he
         ·have:=aGs he (by simp)
          simp only [Act1.new.injEq,Box.mk.injEq,BC.rows.injEq,true_and] at this
          obtain ⟨_,⟨_,rfl,_⟩,rfl⟩:=this
          rfl
         ·simp at he
        ·simp at he
       have hev:iH (aDk P) s o.op= .new p' ⟨false,.rows wd n f⟩ mk:=by rw [ho];exact he
       refine aFW hi (E:=aDk P) (K:=fun s2=>s2=({ s with bx:=s.bx++ [⟨false,.rows wd n f⟩] }:MS).putO o.dst (.bs s.bx.length 0 n)) ?_ hs (fun s2 c' a' w' q1 q2=>?_)
       ·simp only [gG,hg,hd,hev,Z6]
        exact oand_holds.2 ⟨hp,by rw [hmk]⟩
       ·subst q1
        obtain ⟨c2,h2⟩:=q2.shutB hd hc.1.2 hc.2 (fun b z q=>by have:=(hs.mem.fresh _ (hs.mem.pin _ _ _ q).1).2.2;omega)
        exact ⟨c2,h2.sorted⟩
     ·simp at h
    ·simp at h
   ·split at h
    ·rename_i i' _
     exact aEq (s:=s.forget i') hi hg hd h hp (hs.forget i')
    ·simp at h
   ·exact aEq hi hg hd h hp hs
theorem aD8:∀ (n:Nat) (fl:List Bool),fl.length=n→fl∈s8 n
 | 0,fl,h=>by
  have:fl= []:=List.eq_nil_of_length_eq_zero h
  subst this
  simp [s8]
 | n+1, [],h=>by simp at h
 | n+1,b::r,h=>by
  have:=aD8 n r (by simpa using h)
  simp only [s8,List.mem_append,List.mem_map]
  cases b
  ·exact .inl ⟨r,this,rfl⟩
  ·exact .inr ⟨r,this,rfl⟩
theorem aDP {L:List Oper} {s:MS} {ps:List OProp}:∀ (fls:List (List Bool)),aGx P L s fls=aGy P L s ps fls→∀ fl∈fls,uV L fl fl=true→∀ k o,(k,o)∈m5 0 L fl fl→∀ s1,aAk P L fl s=some s1→
  ∃ s2,aAk P L (fl.set k true) s=some s2∧sS P s1 o=some (ps.getD k none,s2)
 | [],_,fl,hfl=>by simp at hfl
 | f0::r,h,fl,hfl=>by
  simp only [aGx,aGy,List.cons.injEq] at h
  rcases List.mem_cons.1 hfl with rfl|hfl
  ·intro hd k o hk s1 hs1
   have h1:=h.1
   rw [hd,Z6,Z6] at h1
   have h2:=List.map_inj_left.1 h1 (k,o) hk
   simp only [hs1] at h2
   split at h2
   ·rename_i s2 hs2
    exact ⟨s2,hs2,by simpa using h2⟩
   ·simp at h2
  ·exact aDP r h.2 fl hfl
theorem uW {fl:List Bool} {o:Oper} (h:∀ e∈o.after.toList,Region.binds .any e=true→fl.getD e.on false=true):oH fl o=true:=by
 simp only [oH,List.all_eq_true,Bool.or_eq_true,Bool.not_eq_true']
 intro e he
 cases hb:Region.binds .any e with
 | false=>exact .inl rfl
 | true=>exact .inr (h e he hb)
theorem aBG (fl:List Bool):∀ (L:List Oper) (fs:List Bool),(∀ i o,aR L i=some o→fs.getD i false=true→oH fl o=true)→uV L fs fl=true
 | [],_,_=>by simp [uV]
 | _::_, [],_=>by simp [uV]
 | o::r,f::fs,h=>by
  simp only [uV,Z3,Bool.or_eq_true,Bool.not_eq_true']
  refine ⟨?_,aBG fl r fs fun i o' h1 h2=>h (i+1) o' h1 (by simpa using h2)⟩
  cases f with
  | false=>exact .inl rfl
  | true=>exact .inr (h 0 o rfl (by simp))
theorem wA (fl:List Bool):∀ (L:List Oper) (fs:List Bool) (k i:Nat) (o:Oper),aR L i=some o→i<fs.length→fs.getD i true=false→oH fl o=true→(k+i,o)∈m5 k L fs fl
 | [],_,_,_,_,h,_,_,_=>by simp [aR] at h
 | _::_, [],_,_,_,_,h,_,_=>by simp at h
 | o'::r,f::fs,k,0,o,h,_,h2,h3=>by
  simp only [aR,Z1] at h
  subst h
  have h2:f=false:=by simpa using h2
  subst h2
  simp [m5,h3]
 | o'::r,f::fs,k,i+1,o,h,hl,h2,h3=>by
  have:=wA fl r fs (k+1) i o h (by simpa using hl) (by simpa using h2) h3
  rw [show k+(i+1)=k+1+i by omega]
  simp only [m5]
  cases (!f&&oH fl o') with
  | true=>exact List.mem_cons_of_mem _ this
  | false=>exact this
theorem mW (l:Array Bool) (i:Nat) (b:Bool):l.toList.getD i b=l.getD i b:=by
 simp [List.getD_eq_getElem?_getD,Array.getD_eq_getD_getElem?]
theorem aMy {s s':MS} (hback:eJ 0 ops.toList=true) (heq:aGx P ops.toList s (s8 ops.toList.length)=aGy P ops.toList s (aCF P ops.toList s) (s8 ops.toList.length)) (hps:∀ p∈aCF P ops.toList s,p.holds) (hfin:aAk P ops.toList (replicate ops.toList.length true) s=some s')
  (hK:∀ c' a' w',St S0 w1 s' c' a' w'→Q .normal a' w'):∀ (fuel:Nat) (listed:Array Bool) (c:Ctx) (a:Act) (w:World),left ops listed=fuel→Down ops listed→(∃ s1,aAk P ops.toList listed.toList s=some s1∧St S0 w1 s1 c a w)→wpAny P .any ops Q fuel listed a w:=by
 have hps':∀ k,((aCF P ops.toList s).getD k none).holds:=by
  intro k
  rw [List.getD_eq_getElem?_getD]
  cases hk:(aCF P ops.toList s)[k]? with
  | none=>trivial
  | some p=>exact hps p (List.mem_of_getElem? hk)
 have hdone:∀ (listed:Array Bool) (c:Ctx) (a:Act) (w:World),Down ops listed→(∀ j,j<ops.size→listed.getD j false=true)→(∃ s1,aAk P ops.toList listed.toList s=some s1∧St S0 w1 s1 c a w)→Q .normal a w:=by
  rintro listed c a w hd hall ⟨s1,h1,h2⟩
  have:listed.toList=replicate ops.toList.length true:=by
   apply List.ext_getElem?
   intro j
   by_cases hj:j<ops.size
   ·have h3:=hall j hj
    rw [← mW,List.getD_eq_getElem?_getD] at h3
    have hj':j<listed.toList.length:=by simpa [hd.size] using hj
    rw [List.getElem?_eq_getElem hj'] at h3⊢
    rw [List.getElem?_replicate,if_pos (by simpa using hj)]
    simpa using h3
   ·rw [List.getElem?_eq_none (by simp [hd.size];omega),List.getElem?_eq_none (by simp;omega)]
  rw [this,hfin,Z1] at h1
  subst h1
  exact hK _ _ _ h2
 have hnoready:∀ (listed:Array Bool),Down ops listed→Region.ready .any ops listed= []→∀ j,j<ops.size→listed.getD j false=true:=by
  intro listed hd h0 j
  induction j using Nat.strongRecOn with
  | _ j ih =>
   intro hj
   cases hb:listed.getD j false with
   | true=>rfl
   | false =>
    exfalso
    have:j∈Region.ready .any ops listed:=bD.2 ⟨hj,by rw [aY (by rw [hd.size];exact hj),hb],ops[j],by simp [hj],fun e he hbd=>by
     have:=g7 ops.toList 0 hback j ops[j] (by rw [bQ];simp [hj]) e he hbd
     exact ih e.on (by omega) (by omega)⟩
    rw [h0] at this
    simp at this
 intro fuel
 induction fuel with
 | zero =>
  intro listed c a w hleft hd h
  have hall:∀ j,j<ops.size→listed.getD j false=true:=by
   intro j hj
   cases hb:listed.getD j false with
   | true=>rfl
   | false =>
    exfalso
    have hmem:j∈(List.range ops.size).filter fun i=>!listed.getD i true:=by
     simp only [List.mem_filter,List.mem_range,hj,true_and]
     rw [aY (by rw [hd.size];exact hj),hb];rfl
    unfold left at hleft
    rw [List.length_eq_zero_iff] at hleft
    rw [hleft] at hmem
    simp at hmem
  refine ⟨?_,hdone listed c a w hd hall h⟩
  apply List.eq_nil_iff_forall_not_mem.2
  intro i hi
  obtain ⟨h1,h2,_⟩:=bD.1 hi
  rw [aY (by rw [hd.size];exact h1),hall i h1] at h2
  simp at h2
 | succ fuel ih =>
  intro listed c a w hleft hd h
  refine ⟨fun h0=>hdone listed c a w hd (hnoready listed hd h0) h,fun i hi=>?_⟩
  obtain ⟨s1,h1,h2⟩:=h
  obtain ⟨q1,q2,o,q3,q4⟩:=bD.1 hi
  have hl:listed.toList∈s8 ops.toList.length:=aD8 _ _ (by simp [hd.size])
  have hdn:uV ops.toList listed.toList listed.toList=true:=aBG _ _ _ fun j oj hj hfj=>uW fun e he hb=>by
   rw [mW] at hfj⊢
   exact hd.down j oj (by rw [bQ] at hj;simpa using hj) hfj e he hb
  have hrd:=wA listed.toList ops.toList listed.toList 0 i o (by rw [bQ];simpa using q3) (by simp [hd.size,q1]) (by rw [mW];exact q2) (uW fun e he hb=>by rw [mW];exact q4 e he hb)
  rw [Nat.zero_add] at hrd
  obtain ⟨s2,r1,r2⟩:=aDP _ heq _ hl hdn i o hrd s1 h1
  refine wpOp_mono (fun a' w' h'=>?_) (aI9 (Q:=Q) q3 r2 (hps' i) h2)
  obtain ⟨c',h'⟩:=h'
  exact ih _ c' a' w' (by have:=aG0 hd.size hi;omega) (hd.put hi) ⟨s2,by rw [Array.toList_setIfInBounds];exact r1,h'⟩
theorem aIg {s:MS} {K:MS→Prop} {c:Ctx} {a:Act} {w:World} (h:aTw P ops.toList s K) (hs:St S0 w1 s c a w) (hK:∀ s' c' a' w',K s'→St S0 w1 s' c' a' w'→Q .normal a' w'):aF3 P ops true Q a w:=by
 obtain ⟨h0,⟨h1⟩,h2⟩:=h
 have hall:∀ (l:List OProp) (q:Prop),aIY l q→(∀ p∈l,p.holds)∧q:=by
  intro l
  induction l with
  | nil=>intro q h;exact ⟨fun p hp=>by simp at hp,h⟩
  | cons p r ih =>
   intro q h
   obtain ⟨hp,hr⟩:=oand_holds.1 h
   obtain ⟨h3,h4⟩:=ih q hr
   exact ⟨fun x hx=>by rcases List.mem_cons.1 hx with rfl|hx;exact hp;exact h3 x hx,h4⟩
 obtain ⟨h3,h4⟩:=hall _ _ h2
 split at h4
 ·rename_i s' hfin
  have e:Ext w { w with drawn:=w.drawn+1 }:=⟨rfl,rfl,Z0 _,fun _ _=>rfl,fun _ _=>rfl,rfl,Nat.le_succ _⟩
  obtain ⟨hm,hk⟩:=hs.mem.grow e
  have hst:St S0 w1 s _ a { w with drawn:=w.drawn+1 }:=hs.keepTm hk hm rfl rfl rfl
  have hrep:∀ j,(Array.replicate ops.size false).getD j false=false:=by
   intro j
   simp only [Array.getD_eq_getD_getElem?,Array.getElem?_replicate]
   split <;> rfl
  refine aMy h0 h1 h3 hfin (fun c' a' w' q=>hK s' c' a' w' h4 q) ops.size _ _ a _ ?_ ⟨by simp,fun i o _ hl=>?_⟩ ⟨s,?_,hst⟩
  ·have:left ops (Array.replicate ops.size false)=ops.size -0:=qN (by simp) (fun j=>by rw [hrep j];simp)
   simpa using this
  ·rw [hrep i] at hl;simp at hl
  ·have:∀ (L:List Oper) (n:Nat),aAk P L (replicate n false) s=some s:=by
    intro L
    induction L with
    | nil=>intro n;cases n <;> rfl
    | cons o r ih=>intro n;cases n with
     | zero=>rfl
     | succ n=>simp only [List.replicate_succ,aAk,Z5];exact ih n
   simpa using this ops.toList ops.size
 ·exact h4.elim
end
end
section
section
variable {F:Fence} {P:Program} {n:Nat} {S0:Nat→Prop} {w0:Base} {pin:Nat→Nat→Sz→Prop} {zs:Option Ex→List (Nat×Obj)} {H:Hnd} {X:XE P}
theorem aCQ (hmix:P.follows .mixedOrders=true) (hF:Fw F P) (hY:YSnd F (n -1) P S0 w0 pin zs H) (hz:∀ pe z,z∈zs pe→z.2.isWalk=false) {ops:Array Oper} {Q:Exit→Act→World→Prop} {K:MS→XS→Prop}
  (hK:∀ s' x' c' a' w',K s' x'→XSt P S0 w0 pin zs s' x' c' a' w'→Q .normal a' w'):∀ (l:List Oper) (s:MS) (x:XS) (c:Ctx) (a:Act) (w:World),(∀ o∈l,∀ c,o.op≠ .defer c)→aIr X H ops.toList l s x K→XSt P S0 w0 pin zs s x c a w→
  wpListIn F n P ops Q l a w
 | [],s,x,c,a,w,_,h,hs=>hK s x c a w h hs
 | o::r,s,x,c,a,w,hd,h,hs=>aSt hmix hF hY hz (hd o (by simp)) h hs fun s' x' c' a' w' q1 q2=>aCQ hmix hF hY hz hK r s' x' c' a' w' (fun o ho=>hd o (by simp [ho])) q1 q2
theorem aDt (hmix:P.follows .mixedOrders=true) (hF:Fw F P) (hY:YSnd F (n -1) P S0 w0 pin zs H) (hz:∀ pe z,z∈zs pe→z.2.isWalk=false) {ops:Array Oper} {draw:Bool} {id:Nat} {Q:Exit→Act→World→Prop} (hQ:∀ a w,¬ Q .outgrown a w) {K:MS→XS→Prop}
  (hK:∀ s' x' c' a' w',K s' x'→XSt P S0 w0 pin zs s' x' c' a' w'→Q .normal a' w') {s:MS} {x:XS} {c:Ctx} {a:Act} {w:World} (hd:(ops.toList.all fun o=>aOb o.op)=true) (ha:iJ X (.region id ops draw)) (h:x7 X H id ops.toList draw s x K) (hs:XSt P S0 w0 pin zs s x c a w) :
  (Code.region id ops draw).wpIn F n P Q a w:=by
 unfold x7 at h
 split at h
 ·exact wpIn_region_list (aCQ hmix hF hY hz hK ops.toList s x c a w (aIN hd) h hs)
 ·obtain ⟨w1,hst,_,hback⟩:=hs.with_
  split at h
  ·rename_i L hL
   have e:ops.toList=L:=by simpa only [iJ,hL] using ha
   subst e
   exact aAd hmix hF hQ hd (aIg h (hst.ghosts _ _) (fun s' c' a' w' q1 q2=>hK s' x c' a' w' q1 (hback _ _ _ _ q2)))
  simp only [aDT] at h
  generalize hn:iE 0 (gR [] ops.toList)=n0 at h
  cases hc:(mG ops.toList n0 0 (gR [] ops.toList) ops.toList&&eJ 0 ops.toList) with
  | false=>rw [hc] at h;exact h.elim
  | true =>
   rw [hc,Z6] at h
   simp only [Z3] at hc
   exact aAd hmix hF hQ hd (aBR (fun m v w' a' hk=>hk.elim) hn hc h hst (fun s1 c' a' w' q1 q2 _=>aCP hmix hz hK _ s1 x c' a' w' q1 (hback _ _ _ _ q2)))
structure RSnd (F:Fence) (n:Nat) (P:Program) (S0:Nat→Prop) (w0:Base) (pin:Nat→Nat→Sz→Prop) (zs:Option Ex→List (Nat×Obj)) (ha:Code→Prop) (H:Hnd):Prop where
 h:∀ (g:Operand) (ps:Array Tmp) (p q:Code) (s:MS) (x:XS) (K:XK) (c:Ctx) (a:Act) (w:World) (Q:Exit→Act→World→Prop),(∀ a w,¬ Q .outgrown a w)→(ha p∧ha q)→H.rng g ps p q s x K→XSt P S0 w0 pin zs s x c a w→
  (∀ e s' x' c' a' w',K e s' x'→XSt P S0 w0 pin zs s' x' c' a' w'→Q e.out a' w')→(Code.rangeFunc g ps p q).wpIn F n P Q a w
theorem aCm {Q:Exit→Act→World→Prop} (hQ:∀ a w,¬ Q .outgrown a w) (K:Act→World→Prop):∀ a w,¬ Exit.then K Q .outgrown a w:=hQ
theorem fS (hmix:P.follows .mixedOrders=true) (hF:Fw F P) (hY:YSnd F (n -1) P S0 w0 pin zs H) (hR:RSnd F n P S0 w0 pin zs (iJ X) H) (hz:∀ pe z,z∈zs pe→z.2.isWalk=false) :
  ∀ (c:Code) (s:MS) (x:XS) (K:XK) (ct:Ctx) (a:Act) (w:World) (Q:Exit→Act→World→Prop),(∀ a w,¬ Q .outgrown a w)→eQ c=true→iJ X c→evX X H c s x K→XSt P S0 w0 pin zs s x ct a w→
  (∀ e s' x' c' a' w',K e s' x'→XSt P S0 w0 pin zs s' x' c' a' w'→Q e.out a' w')→c.wpIn F n P Q a w
 | .skip,s,x,K,ct,a,w,Q,hQ,hd,ha,h,hs,hK=>wpIn_skip (hK .normal s x ct a w h hs)
 | .label l,s,x,K,ct,a,w,Q,hQ,hd,ha,h,hs,hK=>wpIn_label (hK .normal s x ct a w h hs)
 | .region id ops draw,s,x,K,ct,a,w,Q,hQ,hd,ha,h,hs,hK=>by
  simp only [evX] at h
  obtain ⟨w1,hst,_,hback⟩:=hs.with_
  exact aDt hmix hF hY hz hQ (fun s' x' c' a' w' q1 q2=>hK .normal s' x' c' a' w' q1 q2) hd ha h (hback _ _ _ _ (hst.frzs _))
 | .seq p q,s,x,K,ct,a,w,Q,hQ,hd,ha,h,hs,hK=>by
  simp only [evX] at h
  simp only [eQ,Z3] at hd
  refine wpIn_seq (fS hmix hF hY hR hz p s x _ ct a w _ hQ hd.1 ha.1 h hs (fun e s' x' c' a' w' q1 q2=>?_))
  cases e with
  | normal=>exact fS hmix hF hY hR hz q s' x' K c' a' w' Q hQ hd.2 ha.2 q1 q2 hK
  | exit id=>exact hK (.exit id) s' x' c' a' w' q1 q2
  | ret=>exact hK .ret s' x' c' a' w' q1 q2
 | .cond cc p q,s,x,K,ct,a,w,Q,hQ,hd,ha,h,hs,hK=>by
  simp only [evX] at h
  simp only [eQ,Z3] at hd
  split at h
  ·rename_i t
   split at h
   ·rename_i b hb
    obtain ⟨w1,hst,_,hback⟩:=hs.with_
    have hr:=hst.tm t
    rw [hb] at hr
    have he:a.eval (.tmp t)= .bool b:=gH hr
    unfold Br at h
    cases b with
    | true =>
     rw [Z6] at h
     exact wpIn_cond he (fS hmix hF hY hR hz p _ x K ct a w Q hQ hd.1 ha.1 h (hback _ _ _ _ (hst.again hr)) hK)
    | false =>
     rw [Z5] at h
     exact wpIn_cond he (fS hmix hF hY hR hz q _ x K ct a w Q hQ hd.2 ha.2 h (hback _ _ _ _ (hst.again hr)) hK)
   ·exact h.elim
  ·exact h.elim
 | .block id p,s,x,K,ct,a,w,Q,hQ,hd,ha,h,hs,hK=>by
  simp only [evX] at h
  refine wpIn_block (fS hmix hF hY hR hz p s x _ ct a w _ (fun a w=>hQ a w) hd ha h hs (fun e s' x' c' a' w' q1 q2=>?_))
  cases e with
  | normal=>exact hK .normal s' x' c' a' w' q1 q2
  | exit j =>
   simp only [Ex.out,Exit.inBlock]
   have q1:cond (j.beq id) (K .normal s' x') (K (.exit j) s' x'):=q1
   cases hj:j.beq id with
   | true =>
    rw [hj,Z6] at q1
    simp only [Nat.beq_eq] at hj
    rw [if_pos hj]
    exact hK .normal s' x' c' a' w' q1 q2
   | false =>
    rw [hj,Z5] at q1
    have hne:¬ j=id:=by intro e;subst e;simp at hj
    rw [if_neg hne]
    exact hK (.exit j) s' x' c' a' w' q1 q2
  | ret=>exact hK .ret s' x' c' a' w' q1 q2
 | .loop p,s,x,K,ct,a,w,Q,hQ,hd,ha,h,hs,hK=>by
  simp only [evX] at h
  generalize hann:X.xann (bZ p) s x=A at h
  unfold aJT at h
  split at h
  ·exact h.elim
  ·rename_i m0
   refine wpIn_loop_ghost (fun m a' w'=>∃ s' x' c',x9 (evX X H p) m s' x' K∧XSt P S0 w0 pin zs s' x' c' a' w') m0 ⟨s,x,ct,h,hs⟩ ?_
   rintro m a' w' ⟨s1,x1,c',hu,hst⟩
   cases m with
   | zero=>exact hu.elim
   | succ m =>
    refine fS hmix hF hY hR hz p s1 x1 _ c' a' w' _ (aCm hQ _) hd ha hu hst (fun e s2 x2 c2 a2 w2 q1 q2=>?_)
    cases e with
    | normal=>exact ⟨m,Nat.lt_succ_self m,s2,x2,c2,q1,q2⟩
    | exit id=>exact hK (.exit id) s2 x2 c2 a2 w2 q1 q2
    | ret=>exact hK .ret s2 x2 c2 a2 w2 q1 q2
  ·rename_i ι I T Xm μ
   obtain ⟨⟨i0,hi0,hle0,hlx0⟩,hround⟩:=h
   refine wpIn_loop_ghost (fun m a' w'=>∃ i c',I i∧μ i=m∧XSt P S0 w0 pin zs (T i) ⟨Xm i,none⟩ c' a' w') (μ i0) (by
    obtain ⟨c',hc'⟩:=hs.le hle0 hlx0
    exact ⟨i0,c',hi0,rfl,hc'⟩) ?_
   rintro m a' w' ⟨i,c',hi,rfl,hst⟩
   refine fS hmix hF hY hR hz p (T i) _ _ c' a' w' _ (aCm hQ _) hd ha (hround i hi) hst (fun e s2 x2 c2 a2 w2 q1 q2=>?_)
   cases e with
   | normal =>
    obtain ⟨j,hj,hle,hlx,hlt⟩:=q1
    obtain ⟨c3,hc3⟩:=q2.le hle hlx
    exact ⟨μ j,hlt,j,c3,hj,rfl,hc3⟩
   | exit id=>exact hK (.exit id) s2 x2 c2 a2 w2 q1 q2
   | ret=>exact hK .ret s2 x2 c2 a2 w2 q1 q2
 | .exit id,s,x,K,ct,a,w,Q,hQ,hd,ha,h,hs,hK=>wpIn_exit (hK (.exit id) s x ct a w h hs)
 | .ret,s,x,K,ct,a,w,Q,hQ,hd,ha,h,hs,hK=>wpIn_ret (hK .ret s x ct a w h hs)
 | .rangeFunc g ps p q,s,x,K,ct,a,w,Q,hQ,hd,ha,h,hs,hK=>hR.h g ps p q s x K ct a w Q hQ ha (by simpa only [evX] using h) hs hK
 | .scope p,s,x,K,ct,a,w,Q,hQ,hd,ha,h,hs,hK=>by simp only [evX] at h;exact h.elim
 | .goto _,s,x,K,ct,a,w,Q,hQ,hd,ha,h,hs,hK=>by simp only [evX] at h;exact h.elim
 | .refuse _,s,x,K,ct,a,w,Q,hQ,hd,ha,h,hs,hK=>by simp only [evX] at h;exact h.elim
end
end
section
def aBV:Ex→Code
 | .normal=> .skip
 | .exit id=> .exit id
 | .ret=> .ret
theorem aEi {c:Ctx} {w:World} {n:Nat}:∀ (ps:List Tmp) (ms:List MV) (vs:List Value) (l:List (Nat×MV)) (tmps:Array Value),RepAll c w ms vs→ms.length=ps.length→(ps.all fun p=>p.blt n)=true→tmps.size=n→(∀ t,Rep c w (look t l) (tmps.getD t undef))→
  (∀ t,Rep c w (look t (aEh ps ms l)) (((ps.zip vs).foldl (fun t (p,v)=>t.setIfInBounds p v) tmps).getD t undef))∧((ps.zip vs).foldl (fun t (p,v)=>t.setIfInBounds p v) tmps).size=n
 | [],ms,vs,l,tmps,_,hl,_,hs,h=>by
  have:ms= []:=List.eq_nil_of_length_eq_zero hl
  subst this
  exact ⟨h,hs⟩
 | p::ps, [],vs,l,tmps,_,hl,_,hs,h=>by simp at hl
 | p::ps,m::ms,vs,l,tmps,hr,hl,hp,hs,h=>by
  obtain ⟨v,r,rfl,h1,h2⟩:=hr
  simp only [List.all_cons,Z3,Nat.blt_eq] at hp
  simp only [List.zip_cons_cons,List.foldl_cons,aEh]
  refine aEi ps ms r _ _ h2 (by simpa using hl) hp.2 (by simpa using hs) fun t=>?_
  simp only [look]
  cases hb:p.beq t with
  | true =>
   simp only [Nat.beq_eq] at hb
   subst hb
   have:(tmps.setIfInBounds p v).getD p undef=v:=by simp [Array.getD_eq_getD_getElem?,hs,hp.1]
   rw [this]
   exact m6 h1
  | false =>
   have hne:p≠t:=by intro e;subst e;simp at hb
   have:(tmps.setIfInBounds p v).getD t undef=tmps.getD t undef:=by simp [Array.getD_eq_getD_getElem?,hne]
   rw [this]
   exact h t
section
variable {P:Program} {S0:Nat→Prop} {w0:Base}
theorem aTJ {F:Fence} {n:Nat} {pin:Nat→Nat→Sz→Prop} {zs:Option Ex→List (Nat×Obj)}:YSnd F n P S0 w0 pin zs Hnd.none:=⟨fun _ _ _ _ _ _ _ _ _ h=>h.elim⟩
theorem aTI {F:Fence} {n:Nat} {pin:Nat→Nat→Sz→Prop} {zs:Option Ex→List (Nat×Obj)} {ha:Code→Prop}:RSnd F n P S0 w0 pin zs ha Hnd.none:=⟨fun _ _ _ _ _ _ _ _ _ _ _ _ _ h=>h.elim⟩
theorem oT {fn:Func} {tmps:Array Value} {R:Ending→World→Prop} {n:Nat} {N:Nat}:∀ (Ds:List Nat) (w:World),Ds.Nodup→(∀ D∈Ds,N≤D∧w.heap[D]? =some (.deferred (some [])))→
  (∀ w',Moved N w w'→(∀ e,e ∉ Ds→w'.heap[e]? =w.heap[e]?)→∃ v,(results fn tmps).run P w'= .ok v w'∧R (.returned v) w')→LeavesInM Fence.wide n P fn tmps R (Ds.map qP) .returning w
 | [],w,_,_,h=>h w (Moved.refl N w) (fun _ _=>rfl)
 | D::Ds,w,hn,hD,h=>by
  obtain ⟨h1,h2⟩:=hD D (by simp)
  have hk:=Moved.put (N:=N) (o':= .deferred none) h2 h1 rfl rfl
  simp only [List.nodup_cons] at hn
  refine ⟨by simp,.inl ⟨D,_,rfl,run_takeDeferred h2,oT (N:=N) Ds _ hn.2 (fun D' hD'=>?_) (fun w' k q=>?_)⟩⟩
  ·have hne:D'≠D:=fun e=>hn.1 (e ▸ hD')
   exact ⟨(hD D' (by simp [hD'])).1,(World.putObj_heap_other hne).trans (hD D' (by simp [hD'])).2⟩
  ·refine h w' (hk.trans k) fun e he=>?_
   simp only [List.mem_cons,not_or] at he
   exact (q e he.2).trans (World.putObj_heap_other he.1)
def aLR:Nat→Nat→Sz→Prop:=fun _ _ _=>False
def zs0:Option Ex→List (Nat×Obj):=fun _=> []
def aKr (fn:FuncId) (tmps:Array Value) (ps:Array Tmp) (p q:Code) (D:Nat) (st:LoopState) (pe:Option Code):Loop:={ state:=st,pending:=pe,fn,tmps,params:=ps,assign:=p,body:=q,defers:=D }
def aEY:Obj→Bool
 | .loop _=>true
 | _=>false
theorem MapOk.notLoop {m:MapC} {o:Obj} (h:MapOk m o):aEY o=false:=by
 obtain ⟨es,clock,rfl,_⟩:=h
 rfl
theorem Out.putL {w1:Base} {L:Nat} {r r':Loop} {zl zl':List (Nat×Obj)} {Ds:List Nat} {mp:Option (Nat×MapC)} {bx:List Box} {c:Ctx} {w:World} (h:Out P w0 w1 zl Ds mp) (hL:Extn w0 w1 L (.loop r)) (m:Mem S0 w1 bx c w)
  (hz:∀ z∈zl',z=(L,.loop r')∨(Extn w0 w1 z.1 z.2∧aEY z.2=false)) (pin:Nat→Nat→Sz→Prop) (df:List Deferred) {Ds':List Nat} (hn:Ds'.Nodup) (hDs:∀ D∈Ds',Extn w0 w1 D (.deferred (some []))) (hdis:∀ z∈zl',z.1 ∉ Ds') :
  Out P w0 (gQ (w.putObj L (.loop r')) c pin df) zl' Ds' mp∧Moved w0.w.heap.size w (w.putObj L (.loop r')):=by
 obtain ⟨hnow,hnown⟩:=hL.now m
 have hlt:=(Array.getElem?_eq_some_iff.1 hnow).1
 have k:=Moved.put (N:=w0.w.heap.size) (o':= .loop r') hnow hL.lo rfl rfl
 have hne:∀ e ob,Extn w0 w1 e ob→aEY ob=false→e≠L:=fun e ob q hw hh=>by
  subst hh
  have:=(q.now m).1
  rw [hnow,Z1] at this
  rw [← this] at hw
  simp [aEY] at hw
 refine ⟨⟨h.reb.move m k pin df,hn,fun D hD=>(hDs D hD).move m (World.putObj_heap_other (hne D _ (hDs D hD) rfl)) _ _,fun z hzz=>?_,fun B mm hB=>?_,hdis⟩,k⟩
 ·rcases hz z hzz with rfl|⟨q1,q2⟩
  ·exact ⟨World.putObj_heap_same hlt,hnown,hL.lo⟩
  ·exact q1.move m (World.putObj_heap_other (hne _ _ q1 q2)) _ _
 ·obtain ⟨q1,o,q2,q3⟩:=h.mp B mm hB
  exact ⟨q1,o,q2,q3.move m (World.putObj_heap_other (hne _ _ q3 q2.notLoop)) _ _⟩
def uD (L:Nat) (rec:LoopState→Option Code→Loop) (Ds:List Nat) (pe:Option Ex):List (Nat×Obj) :=
 (L,.loop (match pe with|none=>rec .ready none|some e=>rec .done (some (aBV e))))::Ds.map fun D=>(D,.deferred (some []))
theorem aMB {L:Nat} {rec:LoopState→Option Code→Loop} {Ds:List Nat}:∀ pe z,z∈uD L rec Ds pe→z.2.isWalk=false:=by
 intro pe z hz
 simp only [uD,List.mem_cons,List.mem_map] at hz
 rcases hz with rfl|⟨D,_,rfl⟩
 ·cases pe <;> rfl
 ·rfl
theorem aHm (hmix:P.follows .mixedOrders=true) {X:XE P} {s:MS} {np:Nat} {ps:Array Tmp} {p q:Code} {L:Nat} {fn:FuncId} {a:Act} {D:Nat} {Ds:List Nat} {rec:LoopState→Option Code→Loop} (hrec:∀ st pe,rec st pe=aKr fn a.tmps ps p q D st pe)
  {c0:Ctx} {w00:World} (hnd:eQ p=true∧eQ q=true) (hall:iJ X p∧iJ X q) (htm:∀ t,Rep c0 w00 (look t s.tm) (a.tmps.getD t undef)) (hsz:a.tmps.size=s.n) {pinI:Nat→Nat→Sz→Prop} (hpI:∀ i b z,pinI i b z↔jG np i=true∧c0.live i∧c0.β i=b∧c0.sz i=z) {m:Nat} (rn:Operand→Array Tmp→Code→Code→MS→XS→XK→Prop) :
  YSnd Fence.wide m P S0 w0 pinI (uD L rec Ds) ⟨L,aFg X s np ps p q,rn⟩:=⟨by
 intro args si mp ci ai W vs kN kX h hs hv
 have h:aFg X s np ps p q args si ⟨mp,none⟩ kN kX:=h
 unfold aFg at h
 cases hc:(args.length.beq ps.size&&ps.toList.all (fun p=>p.blt s.n)&&si.np.beq np) with
 | false=>rw [hc] at h;exact h.elim
 | true =>
  rw [hc,Z6] at h
  simp only [Z3,Nat.beq_eq] at hc
  obtain ⟨⟨hlen,hps⟩,hnp⟩:=hc
  have hvl:=d6 _ _ hv
  obtain ⟨w1,Dr,hO,hst,hp,hdf⟩:=hs
  have hM:=hst.mem
  have hL:Extn w0 w1 L (.loop (rec .ready none)):=hO.zs (L,_) (by simp [uD])
  have hLnow:=(hL.now hM).1
  have hDe:∀ E∈Ds,Extn w0 w1 E (.deferred (some [])):=fun E hE=>hO.zs (E,_) (by simp [uD,hE])
  have hy:=run_yield (P:=P) (args:=vs.toArray) hLnow (by rw [hrec];simp [aKr];omega)
  rw [hrec] at hy
  refine ⟨fn,_,p,q,hy,roundIn_of_wpIn trivial ?_⟩
  generalize hpr:(fun (i:Nat) (b:Nat) (z:Sz)=>jG np i=true∧ci.live i∧ci.β i=b∧ci.sz i=z)=pr
  have hpr':∀ i b z,pr i b z↔jG np i=true∧ci.live i∧ci.β i=b∧ci.sz i=z:=by subst hpr;exact fun _ _ _=>Iff.rfl
  have hIc:∀ i,jG np i=true→c0.live i→ci.live i∧ci.β i=c0.β i∧ci.sz i=c0.sz i:=fun i hi hl=>hM.pin i _ _ (hp i _ _ ((hpI i _ _).2 ⟨hi,hl,rfl,rfl⟩))
  have k0:=Moved.refl w0.w.heap.size W
  obtain ⟨htm2,hsz2⟩:=aEi (c:=ci) (w:=W) (n:=s.n) ps.toList args vs (d4 np s.tm) a.tmps hv (by rw [Array.length_toList];exact hlen) hps hsz (fun t=>by rw [nQ];exact sR hIc (htm t))
  have efold:(ps.zip vs.toArray).foldl (fun t (p,v)=>t.setIfInBounds p v) a.tmps=(ps.toList.zip vs).foldl (fun t (p,v)=>t.setIfInBounds p v) a.tmps:=by
   rw [← Array.foldl_toList,Array.toList_zip]
  have hstr:St S0 (gQ W ci pr []) ⟨s.n,aEh ps.toList args (d4 np s.tm),si.bx,np⟩ ci { tmps:=(ps.zip vs.toArray).foldl (fun t (p,v)=>t.setIfInBounds p v) a.tmps,defers:= [] } W :=
   ⟨hM.moved k0 pr [] (fun i b z h=>((hpr' i b z).1 h).2),fun t=>by rw [efold];exact htm2 t,by rw [efold];exact hsz2,rfl,fun i b z h=>((hpr' i b z).1 h).1⟩
  have hOm:=hO.move hM k0 (fun _ _ _=>rfl) pr []
  let zr:LoopState→Option Ex→List (Nat×Obj):=fun st _=>(L,.loop (rec st none))::(Ds++Dr).map fun D=>(D,.deferred (some []))
  have hzr:∀ st pe z,z∈zr st pe→z.2.isWalk=false:=by
   intro st pe z hz
   simp only [zr,List.mem_cons,List.mem_map] at hz
   rcases hz with rfl|⟨D,_,rfl⟩ <;> rfl
  have hx1:XSt P S0 w0 pr (zr .ready) ⟨s.n,aEh ps.toList args (d4 np s.tm),si.bx,np⟩ ⟨mp,none⟩ ci { tmps:=(ps.zip vs.toArray).foldl (fun t (p,v)=>t.setIfInBounds p v) a.tmps,defers:= [] } W:=by
   refine ⟨_, [],⟨hOm.reb,List.nodup_nil,fun D hD=>by simp at hD,fun z hz=>?_,hOm.mp,fun z _=>by simp⟩,hstr,fun _ _ _ h=>h,rfl⟩
   simp only [zr,List.mem_cons,List.mem_map,List.mem_append] at hz
   rcases hz with rfl|⟨E,hE,rfl⟩
   ·exact hL.move hM rfl _ _
   ·rcases hE with hE|hE
    ·exact (hDe E hE).move hM rfl _ _
    ·exact (hO.ds E hE).move hM rfl _ _
  refine fS hmix (aGN P L) aTJ aTI (hzr .ready) p _ _ _ ci _ W _ (fun _ _ h=>h) hnd.1 hall.1 h hx1 (fun e s1 x1 c1 a1 wa q1 q2=>?_)
  cases e with
  | exit id=>exact q1.elim
  | ret=>exact q1.elim
  | normal =>
   obtain ⟨w2,D2,hO2,hst2,hp2,hdf2⟩:=q2
   have hM2:=hst2.mem
   have hL2:Extn w0 w2 L (.loop (rec .ready none)):=hO2.zs (L,_) (by simp [zr])
   have hd2:∀ E∈Ds++Dr,Extn w0 w2 E (.deferred (some [])):=fun E hE=>hO2.zs (E,_) (by simp only [zr,List.mem_cons,List.mem_map];exact .inr ⟨E,hE,rfl⟩)
   obtain ⟨hO3,hk3⟩:=hO2.putL (S0:=S0) (r':=rec .busy none) (zl':=zr .busy none) hL2 hM2 (fun z hz=>by
    simp only [zr,List.mem_cons,List.mem_map] at hz
    rcases hz with rfl|⟨E,hE,rfl⟩
    ·exact .inl rfl
    ·exact .inr ⟨hd2 E hE,rfl⟩) w2.pin w2.df hO2.nd hO2.ds (fun z hz=>by
    simp only [zr,List.mem_cons,List.mem_map] at hz
    rcases hz with rfl|⟨E,hE,rfl⟩
    ·exact hO2.dis (L,.loop (rec .ready none)) (by simp [zr])
    ·exact hO2.dis (E,_) (by simp only [zr,List.mem_cons,List.mem_map];exact .inr ⟨E,hE,rfl⟩))
   refine ⟨_,by have:=run_beginRound (P:=P) (hL2.now hM2).1 (by rw [hrec];rfl);rw [hrec] at this;exact this,?_⟩
   have hx3:XSt P S0 w0 pr (zr .busy) s1 x1 c1 a1 (wa.putObj L (.loop (rec .busy none))):=⟨_,D2,hO3,hst2.at hk3,hp2,hdf2⟩
   rw [hrec] at hx3
   refine fS hmix (aGN P L) aTJ aTI (hzr .busy) q s1 x1 _ c1 a1 _ _ (fun _ _ h=>h) hnd.2 hall.2 q1 hx3 (fun e s2 x2 c2 a2 w3 r1 r2=>?_)
   obtain ⟨w4,D4,hO4,hst4,hp4,hdf4⟩:=r2
   have hM4:=hst4.mem
   have hL4:Extn w0 w4 L (.loop (rec .busy none)):=hO4.zs (L,_) (by simp [zr])
   have hd4:∀ E∈Ds++Dr,Extn w0 w4 E (.deferred (some [])):=fun E hE=>hO4.zs (E,_) (by simp only [zr,List.mem_cons,List.mem_map];exact .inr ⟨E,hE,rfl⟩)
   have hcc:∀ i,jG np i=true→ci.live i→c2.live i∧c2.β i=ci.β i∧c2.sz i=ci.sz i:=fun i hi hl=>hM4.pin i _ _ (hp4 i _ _ ((hpr' i _ _).2 ⟨hi,hl,rfl,rfl⟩))
   have back:∀ (pe:Option Ex) (r':Loop),r'=(match pe with|none=>rec .ready none|some e=>rec .done (some (aBV e)))→XSt P S0 w0 pinI (uD L rec Ds) ⟨si.n,d4 si.np si.tm,s2.bx,si.np⟩ ⟨x2.mp,pe⟩ c2 ai (w3.putObj L (.loop r')):=by
    intro pe r' hr'
    obtain ⟨hO5,hk5⟩:=hO4.putL (S0:=S0) (r':=r') (zl':=uD L rec Ds pe) hL4 hM4 (fun z hz=>by
     simp only [uD,List.mem_cons,List.mem_map] at hz
     rcases hz with rfl|⟨E,hE,rfl⟩
     ·exact .inl (by rw [hr'])
     ·exact .inr ⟨hd4 E (by simp [hE]),rfl⟩) pinI w1.df hO.nd (fun E hE=>hd4 E (by simp [hE])) (fun z hz=>by
     simp only [uD,List.mem_cons,List.mem_map] at hz
     rcases hz with rfl|⟨E,hE,rfl⟩
     ·exact hO.dis (L,.loop (rec .ready none)) (by simp [uD])
     ·exact hO.dis (E,_) (by simp [uD,hE]))
    refine ⟨_,Dr,hO5,⟨hM4.moved hk5 pinI w1.df (fun i b z h=>?_),fun t=>?_,hst.size,hst.defers,fun i b z h=>?_⟩,fun _ _ _ h=>h,hdf⟩
    ·obtain ⟨h1,h2,rfl,rfl⟩:=(hpI i b z).1 h
     obtain ⟨g1,g2,g3⟩:=hIc i h1 h2
     obtain ⟨f1,f2,f3⟩:=hcc i h1 g1
     exact ⟨f1,f2.trans g2,f3.trans g3⟩
    ·show Rep c2 _ (look t (d4 si.np si.tm)) _
     rw [nQ,hnp]
     exact sR hcc (hst.tm t)
    ·show jG si.np i=true
     rw [hnp];exact ((hpI i b z).1 h).1
   have fin:∀ (jump:Option Code),(Instr.endRound L jump).run P w3= .ok (.bool jump.isNone) (w3.putObj L (.loop (rec (if jump.isNone then .ready else .done) jump))):=fun jump=>by
    have:=run_endRound (P:=P) jump (hL4.now hM4).1
    rw [hrec] at this⊢
    exact this
   cases e with
   | normal=>exact ⟨_,_,fin none,.inl ⟨rfl,s2.bx,x2.mp,c2,r1,back none _ rfl⟩⟩
   | ret=>exact ⟨_,_,fin (some .ret),.inr ⟨rfl,.ret,s2.bx,x2.mp,c2,r1,back (some .ret) _ rfl⟩⟩
   | exit id=>exact ⟨_,_,fin (some (.exit id)),.inr ⟨rfl,.exit id,s2.bx,x2.mp,c2,r1,back (some (.exit id)) _ rfl⟩⟩⟩
end
end
section
section
variable {P:Program} {S0:Nat→Prop} {w0:Base}
theorem cQ {X:XE P} (hX:X.all=fun _=>none):∀ (c:Code),iJ X c
 | .region _ _ _=>by simp [iJ,hX]
 | .seq a b=>⟨cQ hX a,cQ hX b⟩
 | .cond _ a b=>⟨cQ hX a,cQ hX b⟩
 | .block _ c=>cQ hX c
 | .loop c=>cQ hX c
 | .scope c=>cQ hX c
 | .rangeFunc _ _ a b=>⟨cQ hX a,cQ hX b⟩
 | .skip=>trivial
 | .label _=>trivial
 | .exit _=>trivial
 | .ret=>trivial
 | .goto _=>trivial
 | .refuse _=>trivial
theorem aL0 (hmix:P.follows .mixedOrders=true) {X:XE P} {n:Nat}:RSnd Fence.wide n P S0 w0 aLR zs0 (iJ X) (hFn X):=⟨by
 intro g ps p q s x K c a w Q hQ hall h hs hK
 replace h:aVp X g ps p q s x K:=h
 unfold aVp at h
 split at h
 ·rename_i t
  split at h
  ·rename_i f caps hlk
   split at h
   ·rename_i ie hie
    have hief:=mU hie
    subst hief
    split at h
    ·rename_i code hbody
     split at h
     ·rename_i hpe
      generalize hnp:X.rnp (bZ q+1000*s.bx.length)=np at h
      cases hc:((caps.length+1).ble ie.fn.ntmps&&ie.fn.results.size.beq 0&&eQ p&&eQ q&&eQ code) with
      | false=>rw [hc] at h;exact h.elim
      | true =>
       rw [hc,Z6] at h
       simp only [Z3,Nat.beq_eq,Nat.ble_eq] at hc
       obtain ⟨⟨⟨⟨hcl,hres⟩,hnp1⟩,hnp2⟩,hnp3⟩:=hc
       obtain ⟨w1,Ds,hO,hst,hp,hdf⟩:=id hs
       have hM:=hst.mem
       obtain ⟨cs,hv0,hcs,hagg⟩:=bU (show Rep c w (.fn ie.f caps) (a.tmps.getD t undef) from hlk ▸ hst.tm t) rfl (by simp) rfl
       have hgv:a.eval (.tmp t)= .func (.func ie.f) #[] cs.toArray:=by
        simp only [List.cons.injEq,and_true] at hv0
        exact hv0
       have hcv:=aEk caps cs hcs hagg
       have hcsl:=d6 _ _ hcv
       have hwN:w0.w.heap.size≤w.heap.size:=Nat.le_trans hO.reb.ext.size hM.ext.size
       refine wpIn_rangeFunc ?_
       intro fn hfn
       obtain ⟨rec,hrec⟩:∃ rec:LoopState→Option Code→Loop,∀ st pe,rec st pe=aKr fn a.tmps ps p q w.heap.size st pe:=⟨_,fun _ _=>rfl⟩
       obtain ⟨W1,hW1⟩:∃ W1,(w.alloc (.deferred (some []))).alloc (.loop (rec .ready none))=W1:=⟨_,rfl⟩
       have hL1:W1.heap[w.heap.size+1]? =some (.loop (rec .ready none)):=by
        rw [← hW1];have:=World.alloc_heap_new (w.alloc (.deferred (some []))) (.loop (rec .ready none));rwa [World.size_alloc] at this
       have hD1:W1.heap[w.heap.size]? =some (.deferred (some [])):=by
        rw [← hW1];exact (Below.heap_alloc _ _ _ (by simp)).trans (World.alloc_heap_new w _)
       have k1:Moved w0.w.heap.size w W1:=by
        rw [← hW1]
        exact (Moved.alloc hwN _).trans (Moved.alloc (by simp;omega) _)
       have hsame:∀ e,e<w.heap.size→W1.heap[e]? =w.heap[e]? :=fun e he=>by
        rw [← hW1]
        exact (Below.heap_alloc _ _ _ (by simp;omega)).trans (Below.heap_alloc _ _ _ he)
       refine ⟨w.heap.size+1, [qP w.heap.size],W1,{ target:= .fn (.func ie.f) cs.toArray,args:=#[Value.func (.yield (w.heap.size+1)) #[] #[]] },W1,ie.f,#[Value.func (.yield (w.heap.size+1)) #[] #[]]++cs.toArray,W1,?_,?_,?_,?_,fun h=>by simp [Fence.wide] at h,?_⟩
       ·rw [← hW1,hrec];exact run_enterLoop_outer _ _ _ _ _
       ·simp only [resolve,hgv]
        simp [go_sem]
       ·intro f' _;trivial
       ·simp [invoke,go_sem,ie.hc]
       ·
        generalize hpI:(fun (i:Nat) (b:Nat) (z:Sz)=>jG np i=true∧c.live i∧c.β i=b∧c.sz i=z)=pI
        have hpI':∀ i b z,pI i b z↔jG np i=true∧c.live i∧c.β i=b∧c.sz i=z:=by subst hpI;exact fun _ _ _=>Iff.rfl
        have hOm:=hO.move hM k1 (fun e he _=>hsame e he) pI []
        have hL:Extn w0 (gQ W1 c pI []) (w.heap.size+1) (.loop (rec .ready none)):=⟨hL1,fun ⟨i,hi,e⟩=>by have:=(hM.fresh i hi).2.1;omega,by omega⟩
        have hD:Extn w0 (gQ W1 c pI []) w.heap.size (.deferred (some [])):=⟨hD1,fun ⟨i,hi,e⟩=>by have:=(hM.fresh i hi).2.1;omega,by omega⟩
        have hsti:St S0 (gQ W1 c pI []) ⟨ie.fn.ntmps,dV 0 (.val (.func (.yield (w.heap.size+1)) #[] #[])::caps),s.bx,np⟩ c { tmps:=(#[Value.func (.yield (w.heap.size+1)) #[] #[]]++cs.toArray)++Array.replicate (ie.fn.ntmps -(#[Value.func (.yield (w.heap.size+1)) #[] #[]]++cs.toArray).size) undef,defers:= [] } W1:=by
         refine ⟨hM.moved k1 pI [] (fun i b z h=>((hpI' i b z).1 h).2),fun u=>?_,by simp;omega,rfl,fun i b z h=>((hpI' i b z).1 h).1⟩
         have hall:RepAll c W1 (.val (.func (.yield (w.heap.size+1)) #[] #[])::caps) (.func (.yield (w.heap.size+1)) #[] #[]::cs):=⟨_,_,rfl,(aU rfl (by simp)).2 ⟨rfl,rfl⟩,RepAll.moved k1 _ _ hcv⟩
         have:=(fD _ _ 0 hall u).2 (Z9 _)
         rw [Nat.sub_zero] at this
         have e:((#[Value.func (.yield (w.heap.size+1)) #[] #[]]++cs.toArray)++Array.replicate (ie.fn.ntmps -(#[Value.func (.yield (w.heap.size+1)) #[] #[]]++cs.toArray).size) undef).getD u undef=(Value.func (.yield (w.heap.size+1)) #[] #[]::cs).getD u undef:=by
          have e0:(#[Value.func (.yield (w.heap.size+1)) #[] #[]]++cs.toArray).toList=Value.func (.yield (w.heap.size+1)) #[] #[]::cs:=by simp
          rw [← e0]
          simp only [Array.getD_eq_getD_getElem?,List.getD_eq_getElem?_getD,Array.getElem?_toList]
          rw [Array.getElem?_append]
          split
          ·rfl
          ·rename_i hge
           rw [Array.getElem?_replicate,Array.getElem?_eq_none (by omega:(#[Value.func (.yield (w.heap.size+1)) #[] #[]]++cs.toArray).size≤u)]
           split <;> rfl
         rw [e]
         exact this
        have hx1:∀ ai,St S0 (gQ W1 c pI []) ⟨ie.fn.ntmps,dV 0 (.val (.func (.yield (w.heap.size+1)) #[] #[])::caps),s.bx,np⟩ c ai W1→XSt P S0 w0 pI (uD (w.heap.size+1) rec (w.heap.size::Ds)) ⟨ie.fn.ntmps,(0,.val (.func (.yield (w.heap.size+1)) #[] #[]))::dV 1 caps,s.bx,np⟩ x c ai W1:=by
         intro ai hsti
         refine ⟨_, [],⟨hOm.reb,List.nodup_nil,fun D hD=>by simp at hD,fun z hz=>?_,hOm.mp,fun z _=>by simp⟩,hsti,fun _ _ _ h=>h,rfl⟩
         rw [hpe] at hz
         simp only [uD,List.mem_cons,List.map_cons,List.mem_map] at hz
         rcases hz with rfl|rfl|⟨E,hE,rfl⟩
         ·exact hL
         ·exact hD
         ·exact hOm.ds E hE
        refine callsIn_of_wp_marks ie.hf hbody trivial ?_ rfl
        refine fS (X:={ X with E:=ie.E,xann:=ie.xann,all:=fun _=>none }) hmix (aJY P) (aHm hmix hrec ⟨hnp1,hnp2⟩ hall (fun u=>hst.tm u) hst.size hpI' _) ⟨fun _ _ _ _ _ _ _ _ _ _ _ _ _ h=>h.elim⟩ aMB code _ x _ c _ W1 _ (fun _ _ hh=>?_) hnp3 (cQ rfl code) (h (w.heap.size+1)) (hx1 _ hsti) (fun e s' x' c' a' w' q1 q2=>?_)
        ·obtain ⟨a0,w0',hq⟩:=hh
         exact hQ a0 w0' hq
        ·obtain ⟨w2,D2,hO2,hst2,hp2,hdf2⟩:=q2
         have hM2:=hst2.mem
         have hcc:∀ i,jG np i=true→c.live i→c'.live i∧c'.β i=c.β i∧c'.sz i=c.sz i:=fun i hi hl=>hM2.pin i _ _ (hp2 i _ _ ((hpI' i _ _).2 ⟨hi,hl,rfl,rfl⟩))
         have fin:(match x'.pe with
           | none=>K .normal ⟨s.n,d4 np s.tm,s'.bx,s.np⟩ ⟨x'.mp,none⟩
           | some e=>K e ⟨s.n,d4 np s.tm,s'.bx,s.np⟩ ⟨x'.mp,none⟩)→LeavesInM Fence.wide (n -1) P ie.fn a'.tmps (rangePost Fence.wide n P (w.heap.size+1) Q { a with defers:= [qP w.heap.size]++a.defers }) a'.defers .returning w':=by
          intro hk
          rw [hst2.defers,hdf2]
          refine oT (N:=w0.w.heap.size) D2 w' hO2.nd (fun D hD=>⟨(hO2.ds D hD).lo,((hO2.ds D hD).now hM2).1⟩) fun w3 k3 hs3=>?_
          refine ⟨.tuple #[],?_,?_⟩
          ·have:ie.fn.results=#[]:=Array.eq_empty_of_size_eq_zero hres
           rw [i7,this,Array.mapM_eq_mapM_toList]
           simp
          ·have hLx:Extn w0 w2 (w.heap.size+1) (.loop (match x'.pe with|none=>rec .ready none|some e=>rec .done (some (aBV e)))):=hO2.zs (w.heap.size+1,_) (List.mem_cons_self ..)
           have hne:∀ e o,Extn w0 w2 e o→(∀ ds,o≠ .deferred ds)→e ∉ D2:=fun e o he ho hm=>by
            have h1:=he.at_
            rw [(hO2.ds e hm).at_,Z1] at h1
            exact ho _ h1.symm
           have hLn:=(hLx.now hM2).1
           have hL3:w3.heap[w.heap.size+1]? =some (.loop (match x'.pe with|none=>rec .ready none|some e=>rec .done (some (aBV e)))):=(hs3 _ (hne _ _ hLx (by simp))).trans hLn
           have hend:=run_endLoop (P:=P) hL3 (by cases x'.pe <;> (simp only [hrec];simp [aKr]))
           refine ⟨_,_,hend,?_⟩
           generalize hw4:w3.putObj (w.heap.size+1) (.loop { (match x'.pe with|none=>rec .ready none|some e=>rec .done (some (aBV e))) with state:= .exhausted })=w4
           have k4:Moved w0.w.heap.size w3 w4:=by rw [← hw4];exact Moved.put hL3 (by omega) rfl rfl
           have k:=k3.trans k4
           have hs4:∀ e,e ∉ D2→e≠w.heap.size+1→w4.heap[e]? =w'.heap[e]? :=fun e h1 h2=>by rw [← hw4];exact (World.putObj_heap_other h2).trans (hs3 e h1)
           have hDm:∀ E,E∈w.heap.size::Ds→Extn w0 w2 E (.deferred (some [])):=fun E hE=>hO2.zs (E,_) (by simp only [uD,List.mem_cons,List.mem_map];exact .inr ⟨E,by simpa using hE,rfl⟩)
           have hlast:∀ E,E∈Ds→E<w.heap.size:=fun E hE=>(Array.getElem?_eq_some_iff.1 ((hO.ds E hE).now hM).1).1
           have hX:K (match x'.pe with|none=> .normal|some e=>e) ⟨s.n,d4 np s.tm,s'.bx,s.np⟩ ⟨x'.mp,none⟩:=by
            revert hk
            cases x'.pe <;> exact id
           have hxs:(∀ E∈w.heap.size::Ds,E ∉ D2)→XSt P S0 w0 aLR zs0 ⟨s.n,d4 np s.tm,s'.bx,s.np⟩ ⟨x'.mp,none⟩ c' { a with defers:= [qP w.heap.size]++a.defers } w4:=by
            intro hdis
            refine ⟨gQ w4 c' aLR ([qP w.heap.size]++a.defers),w.heap.size::Ds,⟨hO2.reb.move hM2 k aLR _,List.nodup_cons.2 ⟨fun hm=>absurd (hlast _ hm) (Nat.lt_irrefl _),hO.nd⟩,fun E hE=>(hDm E hE).move hM2 (hs4 E (hdis E hE) (fun e=>by
             rcases List.mem_cons.1 hE with rfl|hE
             ·omega
             ·have:=hlast E hE;omega)) _ _,fun z hz=>by simp [zs0] at hz,fun B m hB=>?_,fun z hz=>by simp [zs0] at hz⟩,⟨hM2.moved k aLR _ (fun _ _ _ h=>h.elim),fun u=>?_,hst.size,rfl,fun _ _ _ h=>h.elim⟩,fun _ _ _ h=>h.elim,?_⟩
            ·obtain ⟨g1,o,g2,g3⟩:=hO2.mp B m hB
             refine ⟨g1,o,g2,g3.move hM2 (hs4 B (hne _ _ g3 (fun ds e=>?_)) (fun e=>?_)) _ _⟩
             ·obtain ⟨es,clock,rfl,_⟩:=g2
              cases e
             ·have h1:=g3.at_
              rw [e,hLx.at_,Z1] at h1
              obtain ⟨es,clock,rfl,_⟩:=g2
              cases h1
            ·show Rep c' w4 (look u (d4 np s.tm)) _
             rw [nQ]
             exact sR hcc (hst.tm u)
            ·show [qP w.heap.size]++a.defers=(w.heap.size::Ds).map qP
             rw [hst.defers,hdf]
             rfl
           have hxs':=hxs (fun E hE=>hO2.dis (E,.deferred (some [])) (by simp only [uD,List.mem_cons,List.mem_map];exact .inr ⟨E,by simpa using hE,rfl⟩))
           have hfin:=hK _ _ _ c' _ _ hX hxs'
           cases hpe':x'.pe with
           | none =>
            rw [hpe'] at hfin
            simp only [hrec]
            exact hfin
           | some e' =>
            rw [hpe'] at hfin
            simp only [hrec]
            cases e' with
            | normal=>exact wpIn_skip hfin
            | ret=>exact wpIn_ret hfin
            | exit id=>exact wpIn_exit hfin
         cases e with
         | normal=>exact fin q1
         | ret=>exact fin q1
         | exit id=>exact q1.elim
     ·exact h.elim
    ·exact h.elim
   ·exact h.elim
  ·exact h.elim
 ·exact h.elim⟩
end
theorem yC {c:Ctx} {w:World}:∀ (r:MRes),¬ r.holds c w .outgrown
 | .ret _,h=>h
 | .pan _,h=>h
 | .br b x y,h=>by
  simp only [MRes.holds] at h
  cases b with
  | true=>exact yC x h
  | false=>exact yC y h
theorem fnY {P:Program} {S0:Nat→Prop} {w0:Base} {F:Fence} {n:Nat} {pin:Nat→Nat→Sz→Prop} {zs:Option Ex→List (Nat×Obj)} (X:XE P):YSnd F n P S0 w0 pin zs (hFn X):=⟨fun _ _ _ _ _ _ _ _ _ h=>(show False from h).elim⟩
theorem aUk {P:Program} (hmix:P.follows .mixedOrders=true) {f:FuncId} {fn:Func} (hf:P.funcs[f]? =some fn) (spec:aG)
  (hspec:∀ ms p r,spec ms=some (p,r)→p.holds→∃ X:XE P,tC X fn ms r.sat∧iJ X (fn.body.getD .skip))
  (S:Nat→Prop) (w:World) (ms:List MV) (args:Array Value) (p:OProp) (r:MRes) (hs:spec ms=some (p,r)) (hp:p.holds) (hS:∀ b,S b→b<w.heap.size) (hG:GW S w)
  (ha:RepAll (Ctx.args S) w ms args.toList):Calls P f args w fun e w'=>Ext w w'∧r.holds (Ctx.res S) w' e:=by
 obtain ⟨X,h,hall⟩:=hspec ms p r hs hp
 unfold tC at h
 split at h
 ·rename_i c hb
  cases hl:(ms.length.ble fn.ntmps&&eQ c) with
  | false=>rw [hl] at h;exact h.elim
  | true =>
   rw [hl,Z6] at h
   simp only [Z3] at hl
   have hle:ms.length≤fn.ntmps:=Nat.le_of_ble_eq_true hl.1
   have hst0:=St.start (n:=fn.ntmps) hS hG ha hle
   have hx0:XSt P S (aTr w) aLR zs0 ⟨fn.ntmps,dV 0 ms, [],0⟩ ⟨none,none⟩ (eO S [] (fun _=>False) (fun _=>0) (fun _=>⟨0,0⟩)) { tmps:=args++Array.replicate (fn.ntmps -args.size) undef,defers:= [] } w :=
    ⟨_, [],⟨Reb.refl _,List.nodup_nil,fun D hD=>by simp at hD,fun z hz=>by simp [zs0] at hz,fun B m hB=>by simp at hB,fun z hz=>by simp [zs0] at hz⟩,hst0,fun _ _ _ h=>h,rfl⟩
   refine (callsIn_wide (n:=1)).1 (callsIn_of_wp_marks hf hb trivial ?_ rfl)
   refine fS hmix (aJY P) (fnY X) (aL0 hmix) (fun _ z hz=>by simp [zs0] at hz) c _ _ _ _ _ w _ (fun _ _ hh=>?_) hl.2 (by rw [hb] at hall;exact hall) h hx0 (fun e s' x' c' a' w' q1 q2=>?_)
   ·exact yC r hh.2
   ·obtain ⟨w2,D2,hO2,hst2,hp2,hdf2⟩:=q2
    have fin:(match iA P s' fn.results.toList with|some (p,l)=>lE p <| r.sat (.ret (nT l))|none=>uI s')→
      LeavesInM Fence.wide 1 P fn a'.tmps (fun e w'=>Ext w w'∧r.holds (Ctx.res S) w' e) a'.defers .returning w':=by
     intro hK
     rw [hst2.defers,hdf2]
     refine oT (N:=w.heap.size) D2 w' hO2.nd (fun D hD=>⟨(hO2.ds D hD).lo,((hO2.ds D hD).now hst2.mem).1⟩) fun w3 k3 _=>?_
     split at hK
     ·rename_i p l hres
      obtain ⟨hp,hK⟩:=oand_holds.1 hK
      have hst3:=hst2.at k3
      obtain ⟨vs,hvs,hrs⟩:=lB hst3 _ p l hres hp
      refine ⟨_,?_,?_,aBl r hK (oW hrs)⟩
      ·rw [i7,Array.mapM_eq_mapM_toList]
       simp only [Sem.run_bind,Sem.run_map,hvs,Result.andThen,Sem.run_pure]
      ·have e:=(hO2.reb.move hst2.mem k3 (fun _ _ _=>False) []).ext
       exact e.free (fun _ h=>h)
     ·exact hK.elim
    cases e with
    | normal=>exact fin q1
    | ret=>exact fin q1
    | exit id=>exact q1.elim
 ·exact h.elim
end
def aBr (fn:Func) (s:aG):Prop:=∀ ms p r,s ms=some (p,r)→p.holds→iG ms→∃ X:XE Tryz.prog,tC X fn ms r.sat∧iJ X (fn.body.getD .skip)
theorem iB {f:FuncId} {fn:Func} (hf:Tryz.prog.funcs[f]? =some fn) (spec:aG) (hspec:aBr fn spec)
  (S:Nat→Prop) (w:World) (ms:List MV) (args:Array Value) (p:OProp) (r:MRes) (hs:spec ms=some (p,r)) (hp:p.holds) (hS:∀ b,S b→b<w.heap.size) (hG:GW S w)
  (ha:RepAll (Ctx.args S) w ms args.toList):Calls Tryz.prog f args w fun e w'=>Ext w w'∧r.holds (Ctx.res S) w' e:=by
 have hfx:iG ms:=RepAll.facts ms _ ha
 obtain ⟨X,h1,h2⟩:=hspec ms p r hs hp hfx
 refine aUk cK hf (fun m=>some (some (∃ X:XE Tryz.prog,tC X fn m r.sat∧iJ X (fn.body.getD .skip)),r)) (fun m p2 r2 h3 hp2=>?_) S w ms args _ r rfl ⟨X,h1,h2⟩ hS hG ha
 simp only [Z1,Z2] at h3
 obtain ⟨rfl,rfl⟩:=h3
 exact hp2
structure WalkI where
 i:Nat
def aW4 (l:List Int):Nat→MS→XS→Option XAnn
 | 1,e,_=>some (.inv WalkI (fun i=>i.i≤l.length) (fun i=>⟨19, [(0,look 0 e.tm),(1,.bp 2 0),(3,.int .i64 ((l.length:Int) -1 -(i.i:Int)))],aO e.bx 1 ⟨false,.one (.int .u64 (wv (l.drop (l.length -i.i))))⟩,3⟩) (fun _=>none) (fun i=>l.length -i.i))
 | _,_,_=>none
noncomputable def aQu (l:List Int):XE Tryz.prog where
 E:=aW [] aD
 xann:=fun _ _ _=>none
 its:= [⟨145,Tryz.f145,Tryz.func145,fun args w=>Tryz.call145 args w,aW [] aD,aW4 l⟩]
 inl:= [⟨105,Tryz.f105,Tryz.func105,fun args w=>Tryz.call105 args w,aW [] aD,fun _ _ _=>none⟩]
 rnp:=fun _=>3
 all:=fun _=>none
theorem aSI (z:Int) (n:Nat):(bif decide ((length (aA (natAbs z)):Int)>2) then 0=z∧false=true∧True else ∀ (L:Nat),(∃ i:WalkI,i.1≤length (aA (natAbs z))∧((Value.func (Fn.yield L) #[] #[]=Value.func (Fn.yield L) #[] #[]∧0=0∧wrap i64 ((length (aA (natAbs z)):Int) -1)=(length (aA (natAbs z)):Int) -1 -(i.1:Int)∧True)∧aE z z n n∧0=wv (drop (length (aA (natAbs z)) -i.1) (aA (natAbs z)))∧aA (natAbs z)=aA (natAbs z)∧True)∧True)∧∀ (i:WalkI),i.1≤length (aA (natAbs z))→bif decide ((length (aA (natAbs z)):Int) -1 -(i.1:Int)≥0) then (0≤(length (aA (natAbs z)):Int) -1 -(i.1:Int)∧(length (aA (natAbs z)):Int) -1 -(i.1:Int)<(length (aA (natAbs z)):Int))∧L=L∧(0:Int)≤32∧∃ j:WalkI,j.1≤length (aA (natAbs z))∧((Value.func (Fn.yield L) #[] #[]=Value.func (Fn.yield L) #[] #[]∧0=0∧wrap i64 ((length (aA (natAbs z)):Int) -1 -(i.1:Int) -1)=(length (aA (natAbs z)):Int) -1 -(j.1:Int)∧True)∧aE z z n n∧wrap u64 (BitVec.toNat (BitVec.ofInt (IntKind.bits u64) (wrap u64 (wv (drop (length (aA (natAbs z)) -i.1) (aA (natAbs z)))*2^min (toNat 32) (IntKind.bits u64))) ||| BitVec.ofInt (IntKind.bits u64) (wrap u64 (getD (aA (natAbs z)) (toNat ((length (aA (natAbs z)):Int) -1 -(i.1:Int))) 0))):Int)=wv (drop (length (aA (natAbs z)) -j.1) (aA (natAbs z)))∧aA (natAbs z)=aA (natAbs z)∧True)∧True∧length (aA (natAbs z)) -j.1<length (aA (natAbs z)) -i.1 else bif decide (z<0) then bif wrap i64 (0 -wrap i64 (wv (drop (length (aA (natAbs z)) -i.1) (aA (natAbs z))))) != 0 then bif !decide (z<0)==decide (wrap i64 (0 -wrap i64 (wv (drop (length (aA (natAbs z)) -i.1) (aA (natAbs z)))))<0) then 0=z∧false=true∧True else wrap i64 (0 -wrap i64 (wv (drop (length (aA (natAbs z)) -i.1) (aA (natAbs z)))))=z∧true=true∧True else wrap i64 (0 -wrap i64 (wv (drop (length (aA (natAbs z)) -i.1) (aA (natAbs z)))))=z∧true=true∧True else bif wrap i64 (wv (drop (length (aA (natAbs z)) -i.1) (aA (natAbs z)))) != 0 then bif !decide (z<0)==decide (wrap i64 (wv (drop (length (aA (natAbs z)) -i.1) (aA (natAbs z))))<0) then 0=z∧false=true∧True else wrap i64 (wv (drop (length (aA (natAbs z)) -i.1) (aA (natAbs z))))=z∧true=true∧True else wrap i64 (wv (drop (length (aA (natAbs z)) -i.1) (aA (natAbs z))))=z∧true=true∧True)=tC (aQu (aA z.natAbs)) Tryz.f59 [.big z n] (MRes.sat (.ret (.tup [.int .i64 z,.bool true]))):=by kernel_rfl
def aFo:aG
 | [.big z _]=>some (some (z.natAbs<9223372036854775808),.ret (.tup [.int .i64 z,.bool true]))
 | _=>none
theorem aF0 (l:List Int) {k:Nat} (h:k<l.length):wv (l.drop k)=l.getD k 0+4294967296*wv (l.drop (k+1)):=by
 rw [List.drop_eq_getElem_cons h]
 simp [wv,h]
theorem aUJ:aBr Tryz.f59 aFo:=by
 intro ms p r h hp hf
 unfold aFo at h
 split at h
 ·rename_i z n
  cases h
  have hz:z.natAbs<9223372036854775808:=hp
  refine ⟨aQu (aA z.natAbs),?_,cQ rfl _⟩
  rw [← aSI z n,p32]
  have hw:=aS z.natAbs
  have hl:(aA z.natAbs).length≤2:=dJ (by omega)
  have e:=iM z.natAbs
  generalize aA z.natAbs=l at *
  rw [Y1 (show ¬ ((l.length:Nat):Int)>2 by omega),Z5]
  refine fun L=>⟨⟨⟨0⟩,Z9 _,?_,⟨⟩⟩,fun i hi=>?_⟩
  ·have e1:wrap i64 ((l.length:Int) -1)=(l.length:Int) -1 -((0:Nat):Int):=by rw [bC (by omega) (by omega)];omega
   have e2:wv (l.drop (l.length -0))=0:=by rw [Nat.sub_zero,List.drop_length];rfl
   rw [e1]
   refine ⟨⟨rfl,rfl,rfl,⟨⟩⟩,⟨rfl,.inl (Z0 _)⟩,e2.symm,rfl,⟨⟩⟩
  obtain ⟨i⟩:=i
  have hi:i≤l.length:=hi
  dsimp only
  by_cases h0:i<l.length
  ·rw [Y0 (show (l.length:Int) -1 -(i:Int)≥0 by omega),Z6]
   have et:((l.length:Int) -1 -(i:Int)).toNat=l.length -1 -i:=by omega
   rw [et]
   have es:=aF0 l (k:=l.length -1 -i) (by omega)
   rw [show l.length -1 -i+1=l.length -i by omega] at es
   have hx:0≤l.getD (l.length -1 -i) 0∧l.getD (l.length -1 -i) 0<4294967296:=by
    have hk:l.length -1 -i<l.length:=by omega
    rw [show l.getD (l.length -1 -i) 0=l[l.length -1 -i] by simp [hk]]
    exact hw _ (List.getElem_mem hk)
   have hv:0≤wv (l.drop (l.length -i))∧wv (l.drop (l.length -i))<4294967296:=by
    have hwd:Wd (l.drop (l.length -i)):=fun x hx=>hw x (List.mem_of_mem_drop hx)
    have hdl:(l.drop (l.length -i)).length≤1:=by rw [List.length_drop];omega
    have h2:=eP hwd
    have h3:=a8 hwd
    have h4:(4294967296:Int)^(l.drop (l.length -i)).length≤4294967296^1:=by
     rcases (show (l.drop (l.length -i)).length=0∨(l.drop (l.length -i)).length=1 by omega) with q|q <;> rw [q] <;> decide
    omega
   generalize wv (l.drop (l.length -i))=v at *
   generalize l.getD (l.length -1 -i) 0=x at *
   have eo:wrap u64 (BitVec.ofInt u64.bits (u64.wrap (v*4294967296)) ||| BitVec.ofInt u64.bits (u64.wrap x)).toNat=v*4294967296+x:=by
    rw [fW (x:=v*4294967296) (by omega),fW (x:=x) (by omega)]
    exact aLK 32 (by omega) (by omega) (by omega) (by omega) (by omega) (by omega)
   rw [eo]
   have e1:wrap i64 ((l.length:Int) -1 -(i:Int) -1)=(l.length:Int) -1 -((i+1:Nat):Int):=by rw [bC (by omega) (by omega)];omega
   rw [e1]
   refine ⟨⟨by omega,by omega⟩,rfl,by omega,⟨i+1⟩,h0,⟨⟨rfl,rfl,rfl,⟨⟩⟩,⟨rfl,.inl (Z0 _)⟩,?_,rfl,⟨⟩⟩,⟨⟩,by show l.length -(i+1)<l.length -i;omega⟩
   show v*4294967296+x=wv (l.drop (l.length -(i+1)))
   rw [show l.length -(i+1)=l.length -1 -i by omega]
   omega
  ·obtain rfl:i=l.length:=by omega
   rw [Y1 (show ¬ (l.length:Int) -1 -(l.length:Int)≥0 by omega),Z5,Nat.sub_self,List.drop_zero,e]
   have e1:wrap i64 (z.natAbs:Int)=z.natAbs:=bC (by omega) (by omega)
   have e2:wrap i64 (0 -(z.natAbs:Int))=0 -(z.natAbs:Int):=bC (by omega) (by omega)
   rw [e1,e2]
   by_cases hz0:z<0
   ·have e3:(0 -(z.natAbs:Int) != 0)=true:=by simp only [bne_iff_ne];omega
    have e4:decide (0 -(z.natAbs:Int)<0)=true:=Y0 (by omega)
    rw [Y0 hz0,Z6,e3,Z6,e4]
    exact ⟨by omega,rfl,⟨⟩⟩
   ·have e4:decide ((z.natAbs:Int)<0)=false:=Y1 (by omega)
    rw [Y1 hz0,Z5,e4]
    cases ((z.natAbs:Int) != 0)
    ·exact ⟨by omega,rfl,⟨⟩⟩
    ·exact ⟨by omega,rfl,⟨⟩⟩
 ·simp at h
noncomputable def oC:Ctr Tryz.prog:=⟨59,aFo,fun args w=>Tryz.call59 args w,iB Tryz.func59 aFo aUJ⟩
theorem aAz {f:FuncId} {fn:Func} (hf:Tryz.prog.funcs[f]? =some fn) {ms:List MV} {r:MRes} (h:iG ms→∃ E:Env Tryz.prog,aM E fn ms r.sat) {S:Nat→Prop} {w:World} {args:Array Value} (hS:∀ b,S b→b<w.heap.size) (hG:GW S w)
  (ha:RepAll (Ctx.args S) w ms args.toList):Calls Tryz.prog f args w fun e w'=>Ext w w'∧r.holds (Ctx.res S) w' e :=
 aL cK hf (fun m=>some (some (∃ E:Env Tryz.prog,aM E fn m r.sat),r)) (fun m p2 r2 h2 hp2=>by
  simp only [Z1,Z2] at h2
  obtain ⟨rfl,rfl⟩:=h2
  exact hp2) S w ms args _ r rfl (h (RepAll.facts ms _ ha)) hS hG ha
theorem aE8 {a b:Int} {n m:Nat} (ha:a.natAbs<2^n) (hb:b.natAbs<2^m):(a*b).natAbs<2^(n+m):=by
 rw [Int.natAbs_mul,Nat.pow_add]
 exact Nat.mul_lt_mul'' ha hb
theorem sH {c:Ctx} {w:World} {wd len:Nat} {f g:Nat→MV} {v:Value} (h:Rep1 c w (.sl wd len f) v) (hg:∀ i,i<len→g i=f i):Rep1 c w (.sl wd len g) v:=by
 rw [aU rfl (by simp)] at h⊢
 obtain ⟨a,cap,h1,h2,h3⟩:=h
 refine ⟨a,cap,h1,h2,fun hl=>?_⟩
 obtain ⟨b,off,h4,h5,h6⟩:=h3 hl
 exact ⟨b,off,h4,h5,fun i hi=>by rw [hg i hi];exact h6 i hi⟩
def aFD:aG
 | [.int .i64 z]=>some (some (-9223372036854775808≤z∧z≤9223372036854775807),.ret (.big z 64))
 | _=>none
theorem aS0 (z:Int):(eH z∧z=z∧(64≤64∨natAbs z<2^64))=aM (aW [jQ] aD) Tryz.f146 [.int .i64 z] (MRes.sat (.ret (.big z 64))):=by kernel_rfl
theorem aU1:bF Tryz.f146 aFD:=by
 intro ms p r h hp
 unfold aFD at h
 split at h
 ·rename_i z
  cases h
  obtain ⟨h1,h2⟩:=hp
  refine ⟨aW [jQ] aD,?_⟩
  rw [← aS0 z]
  first|done|(and_intros <;> first|exact ⟨⟩|rfl|exact .inl (Z0 _)|omega)
 ·simp at h
def nA:Ctr Tryz.prog:=⟨146,aFD,fun args w=>Tryz.call146 args w,aL cK Tryz.func146 aFD aU1⟩
def aAm:Nat→MS→Option LoopAnn
 | 3,_=>some (.unroll 4)
 | _,_=>none
theorem aMp (a b:Int) (n m:Nat):(eH 1∧((0:Int)≤0∧(0:Int)<(↑(2:Nat):Int))∧(64≤1000000∧n≤1000000)∧(0≤wrap i64 ((0:Int)+1)∧wrap i64 ((0:Int)+1)<(↑(2:Nat):Int))∧(64+n≤1000000∧m≤1000000)∧1*a*b=a*b∧(64+n+m≤n+m∨natAbs (1*a*b)<2^(n+m)))=aM (aW [nA,fH] aAm) Tryz.f191 [.sl 2 2 (bO [.big a n,.big b m])] (MRes.sat (.ret (.big (a*b) (n+m)))):=by kernel_rfl
theorem aMq (a b c:Int) (n m k:Nat):(eH 1∧((0:Int)≤0∧(0:Int)<(↑(3:Nat):Int))∧(64≤1000000∧n≤1000000)∧(0≤wrap i64 ((0:Int)+1)∧wrap i64 ((0:Int)+1)<(↑(3:Nat):Int))∧(64+n≤1000000∧m≤1000000)∧(0≤wrap i64 (wrap i64 ((0:Int)+1)+1)∧wrap i64 (wrap i64 ((0:Int)+1)+1)<(↑(3:Nat):Int))∧(64+n+m≤1000000∧k≤1000000)∧1*a*b*c=a*b*c∧(64+n+m+k≤n+m+k∨natAbs (1*a*b*c)<2^(n+m+k)))=aM (aW [nA,fH] aAm) Tryz.f191 [.sl 2 3 (bO [.big a n,.big b m,.big c k])] (MRes.sat (.ret (.big (a*b*c) (n+m+k)))):=by kernel_rfl
def aKE:aG
 | [.sl wd len f]=>cond (wd.beq 2&&len.beq 2) (match f 0,f 1 with
   | .big a n,.big b m=>some (some (n≤900000∧m≤900000),.ret (.big (a*b) (n+m)))
   | _,_=>none)
  (cond (wd.beq 2&&len.beq 3) (match f 0,f 1,f 2 with
   | .big a n,.big b m,.big c k=>some (some (n≤300000∧m≤300000∧k≤300000),.ret (.big (a*b*c) (n+m+k)))
   | _,_,_=>none) none)
 | _=>none
theorem w01:wrap i64 ((0:Int)+1)=1:=rfl
theorem w12:wrap i64 ((1:Int)+1)=2:=rfl
theorem aLX {a b:Int} {n m:Nat} (h1:n≤900000) (h2:m≤900000) (hf:iG [.sl 2 2 (bO [.big a n,.big b m])]→True) (ha:a.natAbs<2^n) (hb:b.natAbs<2^m):∃ E:Env Tryz.prog,aM E Tryz.f191 [.sl 2 2 (bO [.big a n,.big b m])] (MRes.sat (.ret (.big (a*b) (n+m)))):=by
 refine ⟨aW [nA,fH] aAm,?_⟩
 have:=hf
 rw [← aMp a b n m,w01,Int.one_mul]
 have:=aE8 ha hb
 refine ⟨by omega,by omega,by omega,by omega,by omega,rfl,.inr this⟩
theorem aLY {a b c:Int} {n m k:Nat} (h1:n≤300000) (h2:m≤300000) (h3:k≤300000) (ha:a.natAbs<2^n) (hb:b.natAbs<2^m) (hc:c.natAbs<2^k):∃ E:Env Tryz.prog,aM E Tryz.f191 [.sl 2 3 (bO [.big a n,.big b m,.big c k])] (MRes.sat (.ret (.big (a*b*c) (n+m+k)))):=by
 refine ⟨aW [nA,fH] aAm,?_⟩
 rw [← aMq a b c n m k,w01,w12,Int.one_mul]
 have:=aE8 (aE8 ha hb) hc
 refine ⟨by omega,by omega,by omega,by omega,by omega,by omega,by omega,rfl,.inr this⟩
theorem aCS {c:Ctx} {w:World} {len:Nat} {f:Nat→MV} {v:Value} (h:Rep1 c w (.sl 2 len f) v) {i:Nat} (hi:i<len) {a:Int} {n:Nat} (hf:f i= .big a n):a.natAbs<2^n:=by
 rw [aU rfl (by simp)] at h
 obtain ⟨_,_,_,_,h3⟩:=h
 obtain ⟨b,off,_,_,h6⟩:=h3 (by omega)
 obtain ⟨cs,_,q,_⟩:=h6 i hi
 rw [hf] at q
 obtain ⟨_,_,q2,_⟩:=q
 exact q2
def mN:Ctr Tryz.prog:=⟨191,aKE,fun args w=>Tryz.call191 args w,fun S w ms args p r hs hp hS hG ha=>by
 unfold aKE at hs
 split at hs
 ·rename_i wd len f
  cases h2:(wd.beq 2&&len.beq 2) with
  | true =>
   rw [h2,Z6] at hs
   simp only [Z3,Nat.beq_eq] at h2
   obtain ⟨rfl,rfl⟩:=h2
   split at hs
   ·rename_i a n b m e0 e1
    simp only [Z1,Z2] at hs
    obtain ⟨rfl,rfl⟩:=hs
    obtain ⟨v,rr,q0,q1,q2⟩:=ha
    have ha':RepAll (Ctx.args S) w [.sl 2 2 (bO [.big a n,.big b m])] args.toList:=⟨v,rr,q0,sH q1 (fun i hi=>by
     have:i=0∨i=1:=by omega
     rcases this with rfl|rfl
     ·exact e0.symm
     ·exact e1.symm),q2⟩
    exact aAz Tryz.func191 (fun _=>aLX hp.1 hp.2 (fun _=>trivial) (aCS q1 (by omega) e0) (aCS q1 (by omega) e1)) hS hG ha'
   ·simp at hs
  | false =>
   rw [h2,Z5] at hs
   cases h3:(wd.beq 2&&len.beq 3) with
   | true =>
    rw [h3,Z6] at hs
    simp only [Z3,Nat.beq_eq] at h3
    obtain ⟨rfl,rfl⟩:=h3
    split at hs
    ·rename_i a n b m c k e0 e1 e2
     simp only [Z1,Z2] at hs
     obtain ⟨rfl,rfl⟩:=hs
     obtain ⟨v,rr,q0,q1,q2⟩:=ha
     have ha':RepAll (Ctx.args S) w [.sl 2 3 (bO [.big a n,.big b m,.big c k])] args.toList:=⟨v,rr,q0,sH q1 (fun i hi=>by
      have:i=0∨i=1∨i=2:=by omega
      rcases this with rfl|rfl|rfl
      ·exact e0.symm
      ·exact e1.symm
      ·exact e2.symm),q2⟩
     exact aAz Tryz.func191 (fun _=>aLY hp.1 hp.2.1 hp.2.2 (aCS q1 (by omega) e0) (aCS q1 (by omega) e1) (aCS q1 (by omega) e2)) hS hG ha'
    ·simp at hs
   | false=>rw [h3,Z5] at hs;simp at hs
 ·simp at hs⟩
def g6 (f:Fm) (n:Nat):MV:= .st [.big f.A n,.big f.B n,.big f.C n]
def zL (m:Mx) (n:Nat):MV:= .st [.big m.a n,.big m.b n,.big m.c n,.big m.d n]
def a7 (a b c:Nat):Nat:=max a (max b c)
def bP (a b c d:Nat):Nat:=max (max a b) (max c d)
theorem aNP (a b:Int):(aQ a b==(0:Int))=decide (a=b):=by
 unfold aQ
 by_cases h:a=b
 ·subst h;simp
 ·rw [Y1 h]
  split <;> (try split) <;> first|rfl|omega
def aA0:aG
 | [.st [.big a n,.big b m,.big c k]]=>some (some (n≤100000∧m≤100000∧k≤100000),.ret (.big (Fm.disc ⟨a,b,c⟩) (2*a7 n m k+66)))
 | _=>none
theorem aPT (a b c:Int) (n m k:Nat):((m≤900000∧m≤900000)∧eH 4∧(3≤3∧64≤300000∧n≤300000∧k≤300000)∧(m+m≤1000000∧64+n+k≤1000000)∧b*b -4*a*c=Fm.disc (Fm.mk a b c)∧(max (m+m) (64+n+k)+1≤2*a7 n m k+66∨natAbs (b*b -4*a*c)<2^(2*a7 n m k+66)))=aM (aW [mN,nA,iF] aD) Tryz.f152 [.st [.big a n,.big b m,.big c k]] (MRes.sat (.ret (.big (Fm.disc ⟨a,b,c⟩) (2*a7 n m k+66)))):=by kernel_rfl
theorem aRE:bF Tryz.f152 aA0:=by
 intro ms p r h hp
 unfold aA0 at h
 split at h
 ·rename_i a n b m c k
  cases h
  obtain ⟨h1,h2,h3⟩:=hp
  refine ⟨aW [mN,nA,iF] aD,?_⟩
  rw [← aPT a b c n m k]
  unfold a7 Fm.disc
  and_intros <;> first|exact ⟨⟩|rfl|omega|exact .inl (by omega)
 ·simp at h
def mM:Ctr Tryz.prog:=⟨152,aA0,fun args w=>Tryz.call152 args w,aL cK Tryz.func152 aA0 aRE⟩
def aFE:aG
 | [.st [.big a n,.big b m,.big c k],.big x l,.big y r]=>some (some (n≤100000∧m≤100000∧k≤100000∧l≤100000∧r≤100000),.ret (.big (Fm.val ⟨a,b,c⟩ x y) (a7 n m k+2*max l r+2)))
 | _=>none
theorem aS1 (a b c x y:Int) (n m k l r:Nat):((n≤300000∧l≤300000∧l≤300000)∧(m≤300000∧l≤300000∧r≤300000)∧(n+l+l≤1000000∧m+l+r≤1000000)∧(k≤300000∧r≤300000∧r≤300000)∧(max (n+l+l) (m+l+r)+1≤1000000∧k+r+r≤1000000)∧a*x*x+b*x*y+c*y*y=Fm.val (Fm.mk a b c) x y∧(max (max (n+l+l) (m+l+r)+1) (k+r+r)+1≤a7 n m k+2*max l r+2∨natAbs (a*x*x+b*x*y+c*y*y)<2^(a7 n m k+2*max l r+2)))=aM (aW [mN,fM] aD) Tryz.f204 [.st [.big a n,.big b m,.big c k],.big x l,.big y r] (MRes.sat (.ret (.big (Fm.val ⟨a,b,c⟩ x y) (a7 n m k+2*max l r+2)))):=by kernel_rfl
theorem aU2:bF Tryz.f204 aFE:=by
 intro ms p r h hp
 unfold aFE at h
 split at h
 ·rename_i a n b m c k x l y r
  cases h
  obtain ⟨h1,h2,h3,h4,h5⟩:=hp
  refine ⟨aW [mN,fM] aD,?_⟩
  rw [← aS1 a b c x y n m k l r]
  unfold a7 Fm.val
  simp only [← Int.mul_assoc]
  and_intros <;> first|exact ⟨⟩|rfl|omega|exact .inl (by omega)
 ·simp at h
def aNa:Ctr Tryz.prog:=⟨204,aFE,fun args w=>Tryz.call204 args w,aL cK Tryz.func204 aFE aU2⟩
def wT:aG
 | [.st [.big a n,.big b m,.big c k],.st [.big x l,.big y r,.big z u,.big t v]]=>some (some (n≤40000∧m≤40000∧k≤40000∧l≤40000∧r≤40000∧u≤40000∧v≤40000),.ret (g6 (Fm.app ⟨a,b,c⟩ ⟨x,y,z,t⟩) (a7 n m k+2*bP l r u v+68)))
 | _=>none
theorem aMo (a b c x y z t:Int) (n m k l r u v:Nat):((l≤900000∧v≤900000)∧(r≤900000∧u≤900000)∧(l+v≤1000000∧r+u≤1000000)∧(n≤300000∧l≤300000∧r≤300000)∧(k≤300000∧u≤300000∧v≤300000)∧(n+l+r≤1000000∧k+u+v≤1000000)∧(n≤100000∧m≤100000∧k≤100000∧l≤100000∧u≤100000)∧eH 2∧(64≤900000∧max (n+l+r) (k+u+v)+1≤900000)∧(m≤900000∧max (l+v) (r+u)+1≤900000)∧(64+(max (n+l+r) (k+u+v)+1)≤1000000∧m+(max (l+v) (r+u)+1)≤1000000)∧(n≤100000∧m≤100000∧k≤100000∧r≤100000∧v≤100000)∧aE (Fm.val (Fm.mk a b c) x z) (Fm.val (Fm.mk a b c) x z) (a7 n m k+2*max l u+2) (a7 n m k+2*bP l r u v+68)∧aE (2*(a*x*y+c*z*t)+b*(x*t+y*z)) (2*(a*(x*y)+c*(z*t))+b*(x*t+y*z)) (max (64+(max (n+l+r) (k+u+v)+1)) (m+(max (l+v) (r+u)+1))+1) (a7 n m k+2*bP l r u v+68)∧aE (Fm.val (Fm.mk a b c) y t) (Fm.val (Fm.mk a b c) y t) (a7 n m k+2*max r v+2) (a7 n m k+2*bP l r u v+68)∧True)=aM (aW [mN,fM,nA,aNa] aD) Tryz.f180 [.st [.big a n,.big b m,.big c k],.st [.big x l,.big y r,.big z u,.big t v]] (MRes.sat (.ret (g6 (Fm.app ⟨a,b,c⟩ ⟨x,y,z,t⟩) (a7 n m k+2*bP l r u v+68)))):=by kernel_rfl
theorem aOD:bF Tryz.f180 wT:=by
 intro ms p r h hp
 unfold wT at h
 split at h
 ·rename_i a n b m c k x l y r z u t v
  cases h
  obtain ⟨h1,h2,h3,h4,h5,h6,h7⟩:=hp
  refine ⟨aW [mN,fM,nA,aNa] aD,?_⟩
  rw [← aMo a b c x y z t n m k l r u v]
  unfold a7 bP
  simp only [← Int.mul_assoc]
  and_intros <;> first|exact ⟨⟩|rfl|omega|exact .inl (by omega)
 ·simp at h
def uQ:Ctr Tryz.prog:=⟨180,wT,fun args w=>Tryz.call180 args w,aL cK Tryz.func180 wT aOD⟩
def aA2:aG
 | [.st [.big a n,.big b m,.big c k,.big d l]]=>some (none,.ret (.st [.st [.big a n,.big b m],.st [.big c k,.big d l]]))
 | _=>none
theorem aPV (a b c d:Int) (n m k l:Nat):((aE a a n n∧aE b b m m∧True)∧(aE c c k k∧aE d d l l∧True)∧True)=aM (aW [] aD) Tryz.f192 [.st [.big a n,.big b m,.big c k,.big d l]] (MRes.sat (.ret (.st [.st [.big a n,.big b m],.st [.big c k,.big d l]]))):=by kernel_rfl
theorem aRG:bF Tryz.f192 aA2:=by
 intro ms p r h hp
 unfold aA2 at h
 split at h
 ·rename_i a n b m c k d l
  cases h
  refine ⟨aW [] aD,?_⟩
  rw [← aPV a b c d n m k l]
  first|done|(and_intros <;> first|exact ⟨⟩|rfl|exact .inl (Z0 _)|omega)
 ·simp at h
def aJF:Ctr Tryz.prog:=⟨192,aA2,fun args w=>Tryz.call192 args w,aL cK Tryz.func192 aA2 aRG⟩
def aF6:Nat→MS→Option LoopAnn
 | 4,_=>some (.unroll 3)
 | 7,_=>some (.unroll 3)
 | _,_=>none
def wU:aG
 | [.st [.big a n,.big b m,.big c k,.big d l],.st [.big x r,.big y u,.big z v,.big t w]]=>some (some (bP n m k l+bP r u v w≤900000),.ret (zL (Mx.mul ⟨a,b,c,d⟩ ⟨x,y,z,t⟩) (bP n m k l+bP r u v w+1)))
 | _=>none
theorem aMr (a b c d x y z t:Int) (n m k l r u v w:Nat):(((0:Int)≤0∧(0:Int)<(↑(2:Nat):Int))∧((0:Int)≤0∧(0:Int)<(↑(2:Nat):Int))∧((0:Int)≤0∧(0:Int)<(↑(2:Nat):Int))∧((0:Int)≤0∧(0:Int)<(↑(2:Nat):Int))∧(n≤900000∧r≤900000)∧((0:Int)≤0∧(0:Int)<(↑(2:Nat):Int))∧((0:Int)≤1∧(1:Int)<(↑(2:Nat):Int))∧((0:Int)≤1∧(1:Int)<(↑(2:Nat):Int))∧((0:Int)≤0∧(0:Int)<(↑(2:Nat):Int))∧(m≤900000∧v≤900000)∧(n+r≤1000000∧m+v≤1000000)∧((0:Int)≤0∧(0:Int)<(↑(2:Nat):Int))∧((0:Int)≤0∧(0:Int)<(↑(2:Nat):Int))∧((0:Int)≤0∧(0:Int)<(↑(2:Nat):Int))∧((0:Int)≤0∧(0:Int)<(↑(2:Nat):Int))∧((0:Int)≤0∧(0:Int)<(↑(2:Nat):Int))∧(0≤wrap i64 ((0:Int)+1)∧wrap i64 ((0:Int)+1)<(↑(2:Nat):Int))∧(n≤900000∧u≤900000)∧((0:Int)≤0∧(0:Int)<(↑(2:Nat):Int))∧((0:Int)≤1∧(1:Int)<(↑(2:Nat):Int))∧((0:Int)≤1∧(1:Int)<(↑(2:Nat):Int))∧(0≤wrap i64 ((0:Int)+1)∧wrap i64 ((0:Int)+1)<(↑(2:Nat):Int))∧(m≤900000∧w≤900000)∧(n+u≤1000000∧m+w≤1000000)∧((0:Int)≤0∧(0:Int)<(↑(2:Nat):Int))∧(0≤wrap i64 ((0:Int)+1)∧wrap i64 ((0:Int)+1)<(↑(2:Nat):Int))∧(0≤wrap i64 ((0:Int)+1)∧wrap i64 ((0:Int)+1)<(↑(2:Nat):Int))∧((0:Int)≤0∧(0:Int)<(↑(2:Nat):Int))∧((0:Int)≤0∧(0:Int)<(↑(2:Nat):Int))∧((0:Int)≤0∧(0:Int)<(↑(2:Nat):Int))∧(k≤900000∧r≤900000)∧(0≤wrap i64 ((0:Int)+1)∧wrap i64 ((0:Int)+1)<(↑(2:Nat):Int))∧((0:Int)≤1∧(1:Int)<(↑(2:Nat):Int))∧((0:Int)≤1∧(1:Int)<(↑(2:Nat):Int))∧((0:Int)≤0∧(0:Int)<(↑(2:Nat):Int))∧(l≤900000∧v≤900000)∧(k+r≤1000000∧l+v≤1000000)∧(0≤wrap i64 ((0:Int)+1)∧wrap i64 ((0:Int)+1)<(↑(2:Nat):Int))∧((0:Int)≤0∧(0:Int)<(↑(2:Nat):Int))∧(0≤wrap i64 ((0:Int)+1)∧wrap i64 ((0:Int)+1)<(↑(2:Nat):Int))∧((0:Int)≤0∧(0:Int)<(↑(2:Nat):Int))∧((0:Int)≤0∧(0:Int)<(↑(2:Nat):Int))∧(0≤wrap i64 ((0:Int)+1)∧wrap i64 ((0:Int)+1)<(↑(2:Nat):Int))∧(k≤900000∧u≤900000)∧(0≤wrap i64 ((0:Int)+1)∧wrap i64 ((0:Int)+1)<(↑(2:Nat):Int))∧((0:Int)≤1∧(1:Int)<(↑(2:Nat):Int))∧((0:Int)≤1∧(1:Int)<(↑(2:Nat):Int))∧(0≤wrap i64 ((0:Int)+1)∧wrap i64 ((0:Int)+1)<(↑(2:Nat):Int))∧(l≤900000∧w≤900000)∧(k+u≤1000000∧l+w≤1000000)∧(0≤wrap i64 ((0:Int)+1)∧wrap i64 ((0:Int)+1)<(↑(2:Nat):Int))∧(0≤wrap i64 ((0:Int)+1)∧wrap i64 ((0:Int)+1)<(↑(2:Nat):Int))∧((0:Int)≤0∧(0:Int)<(↑(2:Nat):Int))∧((0:Int)≤0∧(0:Int)<(↑(2:Nat):Int))∧((0:Int)≤0∧(0:Int)<(↑(2:Nat):Int))∧((0:Int)≤1∧(1:Int)<(↑(2:Nat):Int))∧((0:Int)≤1∧(1:Int)<(↑(2:Nat):Int))∧((0:Int)≤0∧(0:Int)<(↑(2:Nat):Int))∧((0:Int)≤1∧(1:Int)<(↑(2:Nat):Int))∧((0:Int)≤1∧(1:Int)<(↑(2:Nat):Int))∧aE (a*x+b*z) (a*x+b*z) (max (n+r) (m+v)+1) (bP n m k l+bP r u v w+1)∧aE (a*y+b*t) (a*y+b*t) (max (n+u) (m+w)+1) (bP n m k l+bP r u v w+1)∧aE (c*x+d*z) (c*x+d*z) (max (k+r) (l+v)+1) (bP n m k l+bP r u v w+1)∧aE (c*y+d*t) (c*y+d*t) (max (k+u) (l+w)+1) (bP n m k l+bP r u v w+1)∧True)=aM (aW [aJF,mN,fM] aF6) Tryz.f153 [.st [.big a n,.big b m,.big c k,.big d l],.st [.big x r,.big y u,.big z v,.big t w]] (MRes.sat (.ret (zL (Mx.mul ⟨a,b,c,d⟩ ⟨x,y,z,t⟩) (bP n m k l+bP r u v w+1)))):=by kernel_rfl
theorem aOE:bF Tryz.f153 wU:=by
 intro ms p r h hp
 unfold wU at h
 split at h
 ·rename_i a n b m c k d l x r y u z v t w
  cases h
  have h1:bP n m k l+bP r u v w≤900000:=hp
  refine ⟨aW [aJF,mN,fM] aF6,?_⟩
  rw [← aMr a b c d x y z t n m k l r u v w]
  unfold bP at h1⊢
  simp only [w01]
  and_intros <;> first|exact ⟨⟩|rfl|omega|exact .inl (by omega)
 ·simp at h
def uR:Ctr Tryz.prog:=⟨153,wU,fun args w=>Tryz.call153 args w,aL cK Tryz.func153 wU aOE⟩
theorem aP {b:Bool} {p x y:Prop} (hb:b=true↔p) (h1:p→x) (h2:¬ p→y):cond b x y:=by
 cases b with
 | true=>exact h1 (hb.1 rfl)
 | false=>exact h2 fun q=>by have:=hb.2 q;simp at this
theorem uN {a b:Bool} {p:Prop} (ha:a=true↔p) (hb:b=true↔p):a=b:=Bool.eq_iff_iff.2 (ha.trans hb.symm)
theorem oN {b:Bool} {p:Prop} (hb:b=true↔p) (h:¬ p):false=b:=by
 cases b with
 | true=>exact absurd (hb.1 rfl) h
 | false=>rfl
theorem aTO {b:Bool} {p:Prop} (hb:b=true↔p) (h:p):true=b:=(hb.2 h).symm
theorem mA (a b:Int):(aQ a b=1∧b<a)∨(aQ a b=0∧a=b)∨(aQ a b= -1∧a<b):=by
 unfold aQ
 split
 ·exact .inr (.inr ⟨rfl,by assumption⟩)
 ·split
  ·exact .inr (.inl ⟨rfl,by assumption⟩)
  ·exact .inl ⟨rfl,by omega⟩
theorem cgt {a b:Int}:decide (aQ a b>0)=true↔b<a:=by
 rw [decide_eq_true_eq]
 rcases mA a b with ⟨h,k⟩|⟨h,k⟩|⟨h,k⟩ <;> rw [h] <;> omega
theorem cle {a b:Int}:decide (aQ a b≤0)=true↔a≤b:=by
 rw [decide_eq_true_eq]
 rcases mA a b with ⟨h,k⟩|⟨h,k⟩|⟨h,k⟩ <;> rw [h] <;> omega
theorem cge {a b:Int}:decide (aQ a b≥0)=true↔b≤a:=by
 rw [decide_eq_true_eq]
 rcases mA a b with ⟨h,k⟩|⟨h,k⟩|⟨h,k⟩ <;> rw [h] <;> omega
theorem aV6 {a b:Int}:(aQ a b==(0:Int))=true↔a=b:=by
 rw [beq_iff_eq]
 rcases mA a b with ⟨h,k⟩|⟨h,k⟩|⟨h,k⟩ <;> rw [h] <;> omega
theorem aV7 {a b:Int}:(aQ a b != (0:Int))=true↔a≠b:=by
 rw [bne_iff_ne]
 rcases mA a b with ⟨h,k⟩|⟨h,k⟩|⟨h,k⟩ <;> rw [h] <;> omega
theorem yV (a:Int):(gY a=1∧0<a)∨(gY a=0∧a=0)∨(gY a= -1∧a<0):=by
 unfold gY
 split
 ·exact .inr (.inl ⟨rfl,by assumption⟩)
 ·split
  ·rename_i h;exact .inr (.inr ⟨rfl,by omega⟩)
  ·exact .inl ⟨rfl,by omega⟩
theorem aL3 {a:Int}:(gY a==(0:Int))=true↔a=0:=by
 rw [beq_iff_eq]
 rcases yV a with ⟨h,k⟩|⟨h,k⟩|⟨h,k⟩ <;> rw [h] <;> omega
theorem aWH {a:Int}:decide (gY a≤0)=true↔a≤0:=by
 rw [decide_eq_true_eq]
 rcases yV a with ⟨h,k⟩|⟨h,k⟩|⟨h,k⟩ <;> rw [h] <;> omega
theorem aPe {a:Int}:decide (gY a<0)=true↔a<0:=by
 rw [decide_eq_true_eq]
 rcases yV a with ⟨h,k⟩|⟨h,k⟩|⟨h,k⟩ <;> rw [h] <;> omega
theorem lR {x n m:Nat} (h:x<2^n) (hm:n≤m):x<2^m:=Nat.lt_of_lt_of_le h (Nat.pow_le_pow_right (by omega) hm)
def aFl:aG
 | [.int .i64 z]=>some (some (-9223372036854775808≤z∧z≤9223372036854775807),.ret (.big z 64))
 | _=>none
theorem aSC (z:Int):(eH z∧z=z∧(64≤64∨natAbs z<2^64))=aM (aW [jQ] aD) Tryz.f200 [.int .i64 z] (MRes.sat (.ret (.big z 64))):=by kernel_rfl
theorem aUE:bF Tryz.f200 aFl:=by
 intro ms p r h hp
 unfold aFl at h
 split at h
 ·rename_i z
  cases h
  obtain ⟨h1,h2⟩:=hp
  refine ⟨aW [jQ] aD,?_⟩
  rw [← aSC z]
  first|done|(and_intros <;> first|exact ⟨⟩|rfl|exact .inl (Z0 _)|omega)
 ·simp at h
def qA:Ctr Tryz.prog:=⟨200,aFl,fun args w=>Tryz.call200 args w,aL cK Tryz.func200 aFl aUE⟩
def aAO:aG
 | [.big d n]=>some (some (n≤100000),.ret (.tup [.big (aF d) 9,.int .i64 (aX d)]))
 | _=>none
theorem aPH (d:Int) (n:Nat):(eH 4∧(n≤900000∧64≤900000∧((4:Int)=0→False))∧n≤100000∧bif decide (d<0) then aE 0 (aF d) 0 9∧5=aX d∧True else bif gY (d -(fZ (natAbs d):Int)*(fZ (natAbs d):Int))==0 then aE 0 (aF d) 0 9∧5=aX d∧True else eH 1∧(64≤1000000∧64≤1000000)∧bif decide (aQ (d%4) 1>0) then aE 0 (aF d) 0 9∧5=aX d∧True else eH 65536∧(n≤1000000∧64≤1000000)∧bif decide (aQ d 65536>0) then aE 0 (aF d) 0 9∧2=aX d∧True else aE (fZ (natAbs d):Int) (aF d) n 9∧0=aX d∧True)=aM (aW [qA,c8,aAr,fN,dS] aD) Tryz.f176 [.big d n] (MRes.sat (.ret (.tup [.big (aF d) 9,.int .i64 (aX d)]))):=by kernel_rfl
theorem aRs:bF Tryz.f176 aAO:=by
 intro ms p r h hp
 unfold aAO at h
 split at h
 ·rename_i d n
  cases h
  have h1:n≤100000:=hp
  refine ⟨aW [qA,c8,aAr,fN,dS] aD,?_⟩
  rw [← aPH d n]
  refine ⟨by omega,⟨by omega,by omega,by omega⟩,by omega,?_⟩
  refine aP Z4 (fun q=>?_) (fun q=>?_)
  ·have e:aX d=5:=if_pos (.inl q)
   exact ⟨⟨(if_neg (by omega)).symm,.inl (by omega)⟩,e.symm,⟨⟩⟩
  refine aP aL3 (fun q2=>?_) (fun q2=>?_)
  ·have e:aX d=5:=if_pos (.inr (.inl q2))
   exact ⟨⟨(if_neg (by omega)).symm,.inl (by omega)⟩,e.symm,⟨⟩⟩
  refine ⟨by omega,by omega,aP cgt (fun q3=>?_) (fun q3=>?_)⟩
  ·have e:aX d=5:=if_pos (.inr (.inr q3))
   exact ⟨⟨(if_neg (by omega)).symm,.inl (by omega)⟩,e.symm,⟨⟩⟩
  have e0:aX d=if 65536<d then 2 else 0:=if_neg (by omega)
  refine ⟨by omega,⟨by omega,by omega⟩,aP cgt (fun q4=>?_) (fun q4=>?_)⟩
  ·rw [if_pos q4] at e0
   exact ⟨⟨(if_neg (by omega)).symm,.inl (by omega)⟩,e0.symm,⟨⟩⟩
  ·rw [if_neg q4] at e0
   have e1:=aUn e0
   have:=(cD e0).2.1
   exact ⟨⟨e1.symm,.inr (Nat.lt_of_le_of_lt (show _≤255 by omega) (by decide))⟩,e0.symm,⟨⟩⟩
 ·simp at h
def rM:Ctr Tryz.prog:=⟨176,aAO,fun args w=>Tryz.call176 args w,aL cK Tryz.func176 aAO aRs⟩
def aBc:aG
 | [.big a n]=>some (some (n≤900000),.ret (.big (2*(a.natAbs:Int)) (n+64)))
 | _=>none
theorem aQb (a:Int) (n:Nat):(eH 2∧n≤1000000∧(64≤1000000∧n≤1000000)∧2*(natAbs a:Int)=2*(natAbs a:Int)∧(64+n≤n+64∨natAbs (2*(natAbs a:Int))<2^(n+64)))=aM (aW [qA,pG,fH] aD) Tryz.f202 [.big a n] (MRes.sat (.ret (.big (2*(a.natAbs:Int)) (n+64)))):=by kernel_rfl
theorem aRV:bF Tryz.f202 aBc:=by
 intro ms p r h hp
 unfold aBc at h
 split at h
 ·rename_i a n
  cases h
  have h1:n≤900000:=hp
  refine ⟨aW [qA,pG,fH] aD,?_⟩
  rw [← aQb a n]
  first|done|(and_intros <;> first|exact ⟨⟩|rfl|exact .inl (Z0 _)|omega)
 ·simp at h
def aAx:Ctr Tryz.prog:=⟨202,aBc,fun args w=>Tryz.call202 args w,aL cK Tryz.func202 aBc aRV⟩
def sJ:aG
 | [.big a n,.big b m]=>some (some (n≤900000∧m≤900000∧b≠0),.ret (.big (a%b) m))
 | _=>none
theorem aJg (a b:Int) (n m:Nat):((n≤900000∧m≤900000∧(b=0→False))∧a%b=a%b∧(m≤m∨natAbs (a%b)<2^m))=aM (aW [c8] aD) Tryz.f203 [.big a n,.big b m] (MRes.sat (.ret (.big (a%b) m))):=by kernel_rfl
theorem aLL:bF Tryz.f203 sJ:=by
 intro ms p r h hp
 unfold sJ at h
 split at h
 ·rename_i a n b m
  cases h
  obtain ⟨h1,h2,h3⟩:=hp
  refine ⟨aW [c8] aD,?_⟩
  rw [← aJg a b n m]
  first|done|(and_intros <;> first|exact ⟨⟩|rfl|exact .inl (Z0 _)|omega)
 ·simp at h
def aDH:Ctr Tryz.prog:=⟨203,sJ,fun args w=>Tryz.call203 args w,aL cK Tryz.func203 sJ aLL⟩
def o0:aG
 | [.st [.big a n,.big b m,.big c k]]=>some (some (n≤40000∧m≤40000∧k≤40000),.ret (.bool (jY ⟨a,b,c⟩)))
 | _=>none
theorem aHJ (a b c:Int) (n m k:Nat):((n≤100000∧m≤100000∧k≤100000)∧2*a7 n m k+66≤100000∧bif aX (Fm.disc (Fm.mk a b c)) != 0 then false=jY (Fm.mk a b c) else bif decide (gY b≤0) then false=jY (Fm.mk a b c) else (m≤1000000∧9≤1000000)∧bif decide (aQ b (aF (Fm.disc (Fm.mk a b c)))>0) then false=jY (Fm.mk a b c) else n≤900000∧(n+64≤1000000∧m≤1000000)∧(max (n+64) m+1≤1000000∧9≤1000000)∧bif decide (aQ (2*(natAbs a:Int)+b) (aF (Fm.disc (Fm.mk a b c)))>0) then (n+64≤1000000∧m≤1000000)∧(max (n+64) m+1≤1000000∧9≤1000000)∧decide (aQ (2*(natAbs a:Int) -b) (aF (Fm.disc (Fm.mk a b c)))≤0)=jY (Fm.mk a b c) else false=jY (Fm.mk a b c))=aM (aW [rM,mM,fN,dS,aAx,fM,iF] aD) Tryz.f178 [.st [.big a n,.big b m,.big c k]] (MRes.sat (.ret (.bool (jY ⟨a,b,c⟩)))):=by kernel_rfl
theorem aIT:bF Tryz.f178 o0:=by
 intro ms p r h hp
 unfold o0 at h
 split at h
 ·rename_i a n b m c k
  cases h
  obtain ⟨h1,h2,h3⟩:=hp
  refine ⟨aW [rM,mM,fN,dS,aAx,fM,iF] aD,?_⟩
  rw [← aHJ a b c n m k]
  unfold a7
  refine ⟨⟨by omega,by omega,by omega⟩,by omega,?_⟩
  have hi:=qS (f:=⟨a,b,c⟩)
  refine aP bne_iff_ne (fun q=>oN hi fun e=>q e.1) (fun q=>?_)
  refine aP aWH (fun q2=>oN hi fun e=>by have:=e.2.b0;simp only at this;omega) (fun q2=>?_)
  refine ⟨by omega,aP cgt (fun q3=>oN hi fun e=>by have:=e.2.b1;simp only at this;omega) (fun q3=>?_)⟩
  refine ⟨by omega,by omega,by omega,aP cgt (fun q4=>?_) (fun q4=>oN hi fun e=>by have:=e.2.lo;simp only at this;omega)⟩
  refine ⟨by omega,by omega,uN cle ⟨fun q5=>?_,fun q5=>?_⟩⟩
  ·have:=(hi.1 q5).2.hi;simp only at this;exact this
  ·exact hi.2 ⟨Decidable.not_not.1 q,⟨by simp only;omega,by simp only;omega,by simp only;omega,by simp only;omega⟩⟩
 ·simp at h
def aH2:Ctr Tryz.prog:=⟨178,o0,fun args w=>Tryz.call178 args w,aL cK Tryz.func178 o0 aIT⟩
def aAL:aG
 | [.st [.big a n,.big b m,.big c k],.big s l]=>some (some (n≤40000∧m≤40000∧k≤40000∧l≤40000∧c≠0∧0<s∧s≤255),.ret (zL (gZ s ⟨a,b,c⟩) (max (a7 n m k) 64)))
 | _=>none
theorem aPE (a b c s:Int) (n m k l:Nat):(k≤900000∧(l≤1000000∧m≤1000000)∧(max l m+1≤900000∧k+64≤900000∧(2*(natAbs c:Int)=0→False))∧(l≤1000000∧k+64≤1000000)∧k≤1000000∧(k≤1000000∧l≤1000000)∧bif decide (aQ (natAbs c:Int) s>0) then m≤1000000∧(m≤900000∧k+64≤900000∧(2*(natAbs c:Int)=0→False))∧k≤1000000∧(k+64≤1000000∧k≤1000000)∧bif decide (aQ (-b%(2*(natAbs c:Int))) (natAbs c:Int)>0) then (k+64≤1000000∧k+64≤1000000)∧(max (k+64) (k+64)+1≤1000000∧m≤1000000)∧eH 2∧(64≤1000000∧k≤1000000)∧(max (max (k+64) (k+64)+1) m+1≤900000∧64+k≤900000∧(2*c=0→False))∧eH 0∧eH (-1)∧eH 1∧aE 0 0 64 (max (a7 n m k) 64)∧aE (-1) (-1) 64 (max (a7 n m k) 64)∧aE 1 1 64 (max (a7 n m k) 64)∧aE ((-b%(2*(natAbs c:Int)) -2*(natAbs c:Int)+b)/(2*c)) (cV s (Fm.mk a b c)) (max (max (k+64) (k+64)+1) m+1) (max (a7 n m k) 64)∧True else (k+64≤1000000∧m≤1000000)∧eH 2∧(64≤1000000∧k≤1000000)∧(max (k+64) m+1≤900000∧64+k≤900000∧(2*c=0→False))∧eH 0∧eH (-1)∧eH 1∧aE 0 0 64 (max (a7 n m k) 64)∧aE (-1) (-1) 64 (max (a7 n m k) 64)∧aE 1 1 64 (max (a7 n m k) 64)∧aE ((-b%(2*(natAbs c:Int))+b)/(2*c)) (cV s (Fm.mk a b c)) (max (k+64) m+1) (max (a7 n m k) 64)∧True else (max l (k+64)+1≤1000000∧m≤1000000)∧eH 2∧(64≤1000000∧k≤1000000)∧(max (max l (k+64)+1) m+1≤900000∧64+k≤900000∧(2*c=0→False))∧eH 0∧eH (-1)∧eH 1∧aE 0 0 64 (max (a7 n m k) 64)∧aE (-1) (-1) 64 (max (a7 n m k) 64)∧aE 1 1 64 (max (a7 n m k) 64)∧aE ((s -(s+b)%(2*(natAbs c:Int))+b)/(2*c)) (cV s (Fm.mk a b c)) (max (max l (k+64)+1) m+1) (max (a7 n m k) 64)∧True)=aM (aW [qA,aAx,fM,iF,aDH,dS,pG,kZ,c8,fH] aD) Tryz.f179 [.st [.big a n,.big b m,.big c k],.big s l] (MRes.sat (.ret (zL (gZ s ⟨a,b,c⟩) (max (a7 n m k) 64)))):=by kernel_rfl
theorem aRp:iI Tryz.f179 aAL:=by
 intro ms p r h hp hf
 unfold aAL at h
 split at h
 ·rename_i a n b m c k s l
  cases h
  obtain ⟨h1,h2,h3,h4,h5,h6,h7⟩:=hp
  refine ⟨aW [qA,aAx,fM,iF,aDH,dS,pG,kZ,c8,fH] aD,?_⟩
  rw [← aPE a b c s n m k l]
  unfold a7
  simp only [iG,MV.facts] at hf
  obtain ⟨⟨ha,hb,hc,_⟩,_,_⟩:=hf
  have hk:(cV s ⟨a,b,c⟩).natAbs<2^max (max n (max m k)) 64:=aKv h6 h7 h5 (by omega) (lR hb (by omega)) (lR hc (by omega))
  have c0:2*(c.natAbs:Int)=0→False:=by omega
  have c1:2*c=0→False:=by omega
  refine ⟨by omega,by omega,⟨by omega,by omega,c0⟩,by omega,by omega,by omega,aP cgt (fun q=>?_) (fun q=>?_)⟩
  ·refine ⟨by omega,⟨by omega,by omega,c0⟩,by omega,by omega,aP cgt (fun q2=>?_) (fun q2=>?_)⟩
   ·have e:(-b%(2*(c.natAbs:Int)) -2*(c.natAbs:Int)+b)/(2*c)=cV s ⟨a,b,c⟩:=by
     unfold cV fX
     rw [if_pos q,if_pos q2]
    exact ⟨by omega,by omega,by omega,by omega,⟨by omega,by omega,c1⟩,by omega,by omega,by omega,⟨rfl,.inl (by omega)⟩,⟨rfl,.inl (by omega)⟩,⟨rfl,.inl (by omega)⟩,⟨e,.inr (by rw [e];exact hk)⟩,⟨⟩⟩
   ·have e:(-b%(2*(c.natAbs:Int))+b)/(2*c)=cV s ⟨a,b,c⟩:=by
     unfold cV fX
     rw [if_pos q,if_neg q2]
    exact ⟨by omega,by omega,by omega,⟨by omega,by omega,c1⟩,by omega,by omega,by omega,⟨rfl,.inl (by omega)⟩,⟨rfl,.inl (by omega)⟩,⟨rfl,.inl (by omega)⟩,⟨e,.inr (by rw [e];exact hk)⟩,⟨⟩⟩
  ·have e:(s -(s+b)%(2*(c.natAbs:Int))+b)/(2*c)=cV s ⟨a,b,c⟩:=by
    unfold cV fX
    rw [if_neg q]
   exact ⟨by omega,by omega,by omega,⟨by omega,by omega,c1⟩,by omega,by omega,by omega,⟨rfl,.inl (by omega)⟩,⟨rfl,.inl (by omega)⟩,⟨rfl,.inl (by omega)⟩,⟨e,.inr (by rw [e];exact hk)⟩,⟨⟩⟩
 ·simp at h
def aAq:Ctr Tryz.prog:=⟨179,aAL,fun args w=>Tryz.call179 args w,bJ cK Tryz.func179 aAL aRp⟩
def wD (f:Fm):Fm:=if aX f.disc=0 then rho (aF f.disc) f else ⟨0,0,0⟩
def aLZ (f:Fm):Mx:=if aX f.disc=0 then gZ (aF f.disc) f else ⟨0,0,0,0⟩
def aFm:aG
 | [.st [.big a n,.big b m,.big c k]]=>some (some (n≤10000∧m≤10000∧k≤10000),.ret (.tup [g6 (wD ⟨a,b,c⟩) (max (a7 n m k) 64),zL (aLZ ⟨a,b,c⟩) (max (a7 n m k) 64),.int .i64 (aX (Fm.disc ⟨a,b,c⟩))]))
 | _=>none
theorem aSD (a b c:Int) (n m k:Nat):((n≤100000∧m≤100000∧k≤100000)∧2*a7 n m k+66≤100000∧bif aX (Fm.disc (Fm.mk a b c)) != 0 then FLe (Fm.mk 0 0 0) (wD (Fm.mk a b c)) 0 (max (a7 n m k) 64)∧MLe (Mx.mk 0 0 0 0) (aLZ (Fm.mk a b c)) 0 (max (a7 n m k) 64)∧aX (Fm.disc (Fm.mk a b c))=aX (Fm.disc (Fm.mk a b c))∧True else (n≤40000∧m≤40000∧k≤40000∧9≤40000∧(c=0→False)∧0<aF (Fm.disc (Fm.mk a b c))∧aF (Fm.disc (Fm.mk a b c))≤255)∧(n≤40000∧m≤40000∧k≤40000∧max (a7 n m k) 64≤40000∧max (a7 n m k) 64≤40000∧max (a7 n m k) 64≤40000∧max (a7 n m k) 64≤40000)∧FLe (Fm.mk (Fm.val (Fm.mk a b c) 0 1) (2*(a*((0:Int)*(-1:Int))+c*(1*cV (aF (Fm.disc (Fm.mk a b c))) (Fm.mk a b c)))+b*(0*cV (aF (Fm.disc (Fm.mk a b c))) (Fm.mk a b c)+(-1)*1)) (Fm.val (Fm.mk a b c) (-1) (cV (aF (Fm.disc (Fm.mk a b c))) (Fm.mk a b c)))) (wD (Fm.mk a b c)) (a7 n m k+2*bP (max (a7 n m k) 64) (max (a7 n m k) 64) (max (a7 n m k) 64) (max (a7 n m k) 64)+68) (max (a7 n m k) 64)∧MLe (Mx.mk 0 (-1) 1 (cV (aF (Fm.disc (Fm.mk a b c))) (Fm.mk a b c))) (aLZ (Fm.mk a b c)) (max (a7 n m k) 64) (max (a7 n m k) 64)∧0=aX (Fm.disc (Fm.mk a b c))∧True)=aM (aW [rM,mM,aAq,uQ] aD) Tryz.f123 [.st [.big a n,.big b m,.big c k]] (MRes.sat (.ret (.tup [g6 (wD ⟨a,b,c⟩) (max (a7 n m k) 64),zL (aLZ ⟨a,b,c⟩) (max (a7 n m k) 64),.int .i64 (aX (Fm.disc ⟨a,b,c⟩))]))):=by kernel_rfl
theorem aUF:iI Tryz.f123 aFm:=by
 intro ms p r h hp hf
 unfold aFm at h
 split at h
 ·rename_i a n b m c k
  cases h
  obtain ⟨h1,h2,h3⟩:=hp
  refine ⟨aW [rM,mM,aAq,uQ] aD,?_⟩
  rw [← aSD a b c n m k]
  simp only [iG,MV.facts] at hf
  obtain ⟨⟨ha,hb,hc,_⟩,_⟩:=hf
  have hW:a7 n m k=max n (max m k):=rfl
  generalize hWW:max (a7 n m k) 64=W
  refine ⟨by omega,by omega,aP bne_iff_ne (fun q=>?_) (fun q=>?_)⟩
  ·have e1:wD ⟨a,b,c⟩=⟨0,0,0⟩:=if_neg q
   have e2:aLZ ⟨a,b,c⟩=⟨0,0,0,0⟩:=if_neg q
   rw [e1,e2]
   and_intros <;> first|exact ⟨⟩|rfl|exact .inl (Z9 _)
  ·have q:=Decidable.not_not.1 q
   obtain ⟨hd,hs,_⟩:=cD q
   have hC:c≠0:=(cX hd rfl).2
   have e1:wD ⟨a,b,c⟩=Fm.app ⟨a,b,c⟩ (gZ (aF (Fm.disc ⟨a,b,c⟩)) ⟨a,b,c⟩):=by rw [wE hC];exact if_pos q
   have e2:aLZ ⟨a,b,c⟩=gZ (aF (Fm.disc ⟨a,b,c⟩)) ⟨a,b,c⟩:=if_pos q
   have bd:(Fm.app ⟨a,b,c⟩ (gZ (aF (Fm.disc ⟨a,b,c⟩)) ⟨a,b,c⟩)).bd W:=by
    rw [wE hC]
    have hc':c.natAbs<2^W:=lR hc (by omega)
    obtain ⟨k1,k2⟩:=aEl hd hs (f:=⟨a,b,c⟩) rfl (k:=W) (by omega) hc'
    exact ⟨hc',k1,k2⟩
   rw [e1,e2]
   refine ⟨⟨by omega,by omega,by omega,by omega,hC,hd.pos,hs⟩,⟨by omega,by omega,by omega,by omega,by omega,by omega,by omega⟩,⟨⟨rfl,.inr bd.A⟩,⟨rfl,.inr bd.B⟩,⟨rfl,.inr bd.C⟩,⟨⟩⟩,?_,q.symm,⟨⟩⟩
   exact ⟨⟨rfl,.inl (Z0 _)⟩,⟨rfl,.inl (Z0 _)⟩,⟨rfl,.inl (Z0 _)⟩,⟨rfl,.inl (Z0 _)⟩,⟨⟩⟩
 ·simp at h
def aT1:Ctr Tryz.prog:=⟨123,aFm,fun args w=>Tryz.call123 args w,bJ cK Tryz.func123 aFm aUF⟩
def aJA:Nat→MS→Option LoopAnn
 | 3,_=>some (.unroll 4)
 | _,_=>none
def aBa:aG
 | [.st [.big a _,.big b _,.big c _]]=>some (some (a.natAbs<9223372036854775808∧b.natAbs<9223372036854775808∧c.natAbs<9223372036854775808),.ret (.st [.int .i64 a,.int .i64 b,.int .i64 c]))
 | _=>none
theorem aP9 (a b c:Int) (n m k:Nat):(((0:Int)≤0∧(0:Int)<(↑(3:Nat):Int))∧natAbs a<9223372036854775808∧((0:Int)≤0∧(0:Int)<(↑(3:Nat):Int))∧(0≤wrap i64 ((0:Int)+1)∧wrap i64 ((0:Int)+1)<(↑(3:Nat):Int))∧natAbs b<9223372036854775808∧(0≤wrap i64 ((0:Int)+1)∧wrap i64 ((0:Int)+1)<(↑(3:Nat):Int))∧(0≤wrap i64 (wrap i64 ((0:Int)+1)+1)∧wrap i64 (wrap i64 ((0:Int)+1)+1)<(↑(3:Nat):Int))∧natAbs c<9223372036854775808∧(0≤wrap i64 (wrap i64 ((0:Int)+1)+1)∧wrap i64 (wrap i64 ((0:Int)+1)+1)<(↑(3:Nat):Int))∧a=a∧b=b∧c=c∧True)=aM (aW [oC] aJA) Tryz.f151 [.st [.big a n,.big b m,.big c k]] (MRes.sat (.ret (.st [.int .i64 a,.int .i64 b,.int .i64 c]))):=by kernel_rfl
theorem aRT:bF Tryz.f151 aBa:=by
 intro ms p r h hp
 unfold aBa at h
 split at h
 ·rename_i a n b m c k
  cases h
  obtain ⟨h1,h2,h3⟩:=hp
  refine ⟨aW [oC] aJA,?_⟩
  rw [← aP9 a b c n m k,w01,w12]
  and_intros <;> first|exact ⟨⟩|rfl|omega
 ·simp at h
noncomputable def aEN:Ctr Tryz.prog:=⟨151,aBa,fun args w=>Tryz.call151 args w,aL cK Tryz.func151 aBa aRT⟩
def aXI (s:Int) (f:Fm) (W n0:Nat):Nat→MS→XS→Option XAnn
 | 1,e,_=>some (.inv WalkI (fun i=>i.i≤n0) (fun i=>⟨24, [(0,look 0 e.tm),(1,.bp 5 0),(2,.bp 6 0),(4,.bp 7 0)],aO (aO e.bx 5 ⟨false,.one (g6 (rhoN s i.i f) W)⟩) 7 ⟨false,.one (zL (aI s i.i f) (i.i*W+1))⟩,8⟩) (fun _=>none) (fun i=>n0 -i.i))
 | _,_,_=>none
noncomputable def aEC (s:Int) (f:Fm) (W n0:Nat):XE Tryz.prog where
 E:=aW [rM,mM,aH2] aD
 xann:=fun _ _ _=>none
 its:= [⟨201,Tryz.f201,Tryz.func201,fun args w=>Tryz.call201 args w,aW [qA,aAq,uQ,uR] aD,aXI s f W n0⟩]
 inl:= [⟨177,Tryz.f177,Tryz.func177,fun args w=>Tryz.call177 args w,aW [] aD,fun _ _ _=>none⟩]
 rnp:=fun _=>8
 all:=fun _=>none
def aC (f:Fm):Fm:=if aX f.disc=0 then aG8 f else ⟨0,0,0⟩
def bL (f:Fm):Mx:=if aX f.disc=0 then aSb f else ⟨0,0,0,0⟩
def bV (n m k:Nat):Nat:=max (a7 n m k) 64
def aZ (W:Nat):Nat:=(W+2)*W+1
theorem aJh (a b c:Int) (n m k W:Nat):((n≤100000∧m≤100000∧k≤100000)∧2*a7 n m k+66≤100000∧bif aX (Fm.disc (Fm.mk a b c)) != 0 then FLe (Fm.mk 0 0 0) (aC (Fm.mk a b c)) 0 W∧MLe (Mx.mk 0 0 0 0) (bL (Fm.mk a b c)) 0 (aZ W)∧aX (Fm.disc (Fm.mk a b c))=aX (Fm.disc (Fm.mk a b c))∧True else ∀ (L:Nat),eH 1∧eH 0∧eH 0∧eH 1∧(∃ i:WalkI,i.1≤cL (Fm.mk a b c)∧((Value.func (Fn.yield L) #[] #[]=Value.func (Fn.yield L) #[] #[]∧0=0∧0=0∧0=0∧True)∧(aE a a n n∧aE b b m m∧aE c c k k∧True)∧(aE 0 0 0 0∧aE 0 0 0 0∧aE 0 0 0 0∧True)∧(aE 0 0 0 0∧aE 0 0 0 0∧aE 0 0 0 0∧aE 0 0 0 0∧True)∧(0:Int)=0∧aE (aF (Fm.disc (Fm.mk a b c))) (aF (Fm.disc (Fm.mk a b c))) 9 9∧(aE a (Fm.A (rhoN (aF (Fm.disc (Fm.mk a b c))) (i.1) (Fm.mk a b c))) n W∧aE b (Fm.B (rhoN (aF (Fm.disc (Fm.mk a b c))) (i.1) (Fm.mk a b c))) m W∧aE c (Fm.C (rhoN (aF (Fm.disc (Fm.mk a b c))) (i.1) (Fm.mk a b c))) k W∧True)∧aE (aF (Fm.disc (Fm.mk a b c))) (aF (Fm.disc (Fm.mk a b c))) 9 9∧MLe (Mx.mk 1 0 0 1) (aI (aF (Fm.disc (Fm.mk a b c))) (i.1) (Fm.mk a b c)) 64 (i.1*W+1)∧True)∧True)∧∀ (i:WalkI),i.1≤cL (Fm.mk a b c)→L=L∧(W≤40000∧W≤40000∧W≤40000)∧bif jY (rhoN (aF (Fm.disc (Fm.mk a b c))) (i.1) (Fm.mk a b c)) then FLe (rhoN (aF (Fm.disc (Fm.mk a b c))) (i.1) (Fm.mk a b c)) (aC (Fm.mk a b c)) W W∧MLe (aI (aF (Fm.disc (Fm.mk a b c))) (i.1) (Fm.mk a b c)) (bL (Fm.mk a b c)) (i.1*W+1) (aZ W)∧0=aX (Fm.disc (Fm.mk a b c))∧True else (W≤40000∧W≤40000∧W≤40000∧9≤40000∧(Fm.C (rhoN (aF (Fm.disc (Fm.mk a b c))) (i.1) (Fm.mk a b c))=0→False)∧0<aF (Fm.disc (Fm.mk a b c))∧aF (Fm.disc (Fm.mk a b c))≤255)∧(W≤40000∧W≤40000∧W≤40000∧max (a7 W W W) 64≤40000∧max (a7 W W W) 64≤40000∧max (a7 W W W) 64≤40000∧max (a7 W W W) 64≤40000)∧bP (i.1*W+1) (i.1*W+1) (i.1*W+1) (i.1*W+1)+bP (max (a7 W W W) 64) (max (a7 W W W) 64) (max (a7 W W W) 64) (max (a7 W W W) 64)≤900000∧∃ j:WalkI,j.1≤cL (Fm.mk a b c)∧((Value.func (Fn.yield L) #[] #[]=Value.func (Fn.yield L) #[] #[]∧0=0∧0=0∧0=0∧True)∧(aE a a n n∧aE b b m m∧aE c c k k∧True)∧(aE 0 0 0 0∧aE 0 0 0 0∧aE 0 0 0 0∧True)∧(aE 0 0 0 0∧aE 0 0 0 0∧aE 0 0 0 0∧aE 0 0 0 0∧True)∧(0:Int)=0∧aE (aF (Fm.disc (Fm.mk a b c))) (aF (Fm.disc (Fm.mk a b c))) 9 9∧FLe (Fm.mk (Fm.val (rhoN (aF (Fm.disc (Fm.mk a b c))) (i.1) (Fm.mk a b c)) 0 1) (2*(Fm.A (rhoN (aF (Fm.disc (Fm.mk a b c))) (i.1) (Fm.mk a b c))*((0:Int)*(-1:Int))+Fm.C (rhoN (aF (Fm.disc (Fm.mk a b c))) (i.1) (Fm.mk a b c))*(1*cV (aF (Fm.disc (Fm.mk a b c))) (rhoN (aF (Fm.disc (Fm.mk a b c))) (i.1) (Fm.mk a b c))))+Fm.B (rhoN (aF (Fm.disc (Fm.mk a b c))) (i.1) (Fm.mk a b c))*(0*cV (aF (Fm.disc (Fm.mk a b c))) (rhoN (aF (Fm.disc (Fm.mk a b c))) (i.1) (Fm.mk a b c))+(-1)*1)) (Fm.val (rhoN (aF (Fm.disc (Fm.mk a b c))) (i.1) (Fm.mk a b c)) (-1) (cV (aF (Fm.disc (Fm.mk a b c))) (rhoN (aF (Fm.disc (Fm.mk a b c))) (i.1) (Fm.mk a b c))))) (rhoN (aF (Fm.disc (Fm.mk a b c))) (j.1) (Fm.mk a b c)) (a7 W W W+2*bP (max (a7 W W W) 64) (max (a7 W W W) 64) (max (a7 W W W) 64) (max (a7 W W W) 64)+68) W∧aE (aF (Fm.disc (Fm.mk a b c))) (aF (Fm.disc (Fm.mk a b c))) 9 9∧MLe (Mx.mk (Mx.a (aI (aF (Fm.disc (Fm.mk a b c))) (i.1) (Fm.mk a b c))*0+Mx.b (aI (aF (Fm.disc (Fm.mk a b c))) (i.1) (Fm.mk a b c))*1) (Mx.a (aI (aF (Fm.disc (Fm.mk a b c))) (i.1) (Fm.mk a b c))*(-1)+Mx.b (aI (aF (Fm.disc (Fm.mk a b c))) (i.1) (Fm.mk a b c))*cV (aF (Fm.disc (Fm.mk a b c))) (rhoN (aF (Fm.disc (Fm.mk a b c))) (i.1) (Fm.mk a b c))) (Mx.c (aI (aF (Fm.disc (Fm.mk a b c))) (i.1) (Fm.mk a b c))*0+Mx.d (aI (aF (Fm.disc (Fm.mk a b c))) (i.1) (Fm.mk a b c))*1) (Mx.c (aI (aF (Fm.disc (Fm.mk a b c))) (i.1) (Fm.mk a b c))*(-1)+Mx.d (aI (aF (Fm.disc (Fm.mk a b c))) (i.1) (Fm.mk a b c))*cV (aF (Fm.disc (Fm.mk a b c))) (rhoN (aF (Fm.disc (Fm.mk a b c))) (i.1) (Fm.mk a b c)))) (aI (aF (Fm.disc (Fm.mk a b c))) (j.1) (Fm.mk a b c)) (bP (i.1*W+1) (i.1*W+1) (i.1*W+1) (i.1*W+1)+bP (max (a7 W W W) 64) (max (a7 W W W) 64) (max (a7 W W W) 64) (max (a7 W W W) 64)+1) (j.1*W+1)∧True)∧True∧cL (Fm.mk a b c) -j.1<cL (Fm.mk a b c) -i.1)=tC (aEC (aF (Fm.disc ⟨a,b,c⟩)) ⟨a,b,c⟩ W (cL ⟨a,b,c⟩)) Tryz.f121 [.st [.big a n,.big b m,.big c k]] (MRes.sat (.ret (.tup [g6 (aC ⟨a,b,c⟩) W,zL (bL ⟨a,b,c⟩) (aZ W),.int .i64 (aX (Fm.disc ⟨a,b,c⟩))]))):=by kernel_rfl
def sK:aG
 | [.st [.big a n,.big b m,.big c k]]=>some (some (n≤300∧m≤300∧k≤300),.ret (.tup [g6 (aC ⟨a,b,c⟩) (bV n m k),zL (bL ⟨a,b,c⟩) (aZ (bV n m k)),.int .i64 (aX (Fm.disc ⟨a,b,c⟩))]))
 | _=>none
theorem aLM:aBr Tryz.f121 sK:=by
 intro ms p r h hp hf
 unfold sK at h
 split at h
 ·rename_i a n b m c k
  cases h
  obtain ⟨h1,h2,h3⟩:=hp
  simp only [iG,MV.facts] at hf
  obtain ⟨⟨ha,hb,hc,_⟩,_⟩:=hf
  have hm3:a7 n m k=max n (max m k):=rfl
  generalize hWW:bV n m k=W
  have hW:W=max (max n (max m k)) 64:=hWW.symm
  refine ⟨aEC (aF (Fm.disc ⟨a,b,c⟩)) ⟨a,b,c⟩ W (cL ⟨a,b,c⟩),?_,cQ rfl _⟩
  rw [← aJh a b c n m k W]
  refine ⟨by omega,by omega,aP bne_iff_ne (fun q=>?_) (fun q=>?_)⟩
  ·have e1:aC ⟨a,b,c⟩=⟨0,0,0⟩:=if_neg q
   have e2:bL ⟨a,b,c⟩=⟨0,0,0,0⟩:=if_neg q
   rw [e1,e2]
   and_intros <;> first|exact ⟨⟩|rfl|exact .inl (Z9 _)
  ·have q:=Decidable.not_not.1 q
   obtain ⟨hd,hs,_⟩:=cD q
   have e1:aC ⟨a,b,c⟩=aG8 ⟨a,b,c⟩:=if_pos q
   have e2:bL ⟨a,b,c⟩=aSb ⟨a,b,c⟩:=if_pos q
   have hbd:Fm.bd ⟨a,b,c⟩ W:=⟨lR ha (by omega),lR hb (by omega),lR hc (by omega)⟩
   obtain ⟨k1,k2,k3⟩:=aCX q (k:=W) hbd.C
   rw [e1,e2]
   unfold a7 bP
   generalize hS:aF (Fm.disc ⟨a,b,c⟩)=s at *
   intro L
   refine ⟨by omega,by omega,by omega,by omega,⟨⟨0⟩,Z9 _,?_,⟨⟩⟩,?_⟩
   ·and_intros <;> first|exact ⟨⟩|rfl|exact .inl (Z0 _)|exact .inl (by omega)|(right;show _<2^(0*W+1);rw [Nat.zero_mul];decide)
   ·intro i hi
    obtain ⟨i⟩:=i
    have hi:i≤cL ⟨a,b,c⟩:=hi
    have hg:=aAI hd hs (k:=W) (by omega) i rfl hbd
    have hM:=aC8 hd hs (k:=W) (by omega) rfl hbd i
    have hiw:i*W+1≤aZ W:=by
     have:=Nat.mul_le_mul_right W (show i≤W+2 by omega)
     unfold aZ
     omega
    have hwm:aZ W≤90601:=by
     have:=Nat.mul_le_mul (show W+2≤302 by omega) (show W≤300 by omega)
     unfold aZ
     omega
    dsimp only
    refine ⟨rfl,⟨by omega,by omega,by omega⟩,aP Iff.rfl (fun q1=>?_) (fun q1=>?_)⟩
    ·have hii:i=cL ⟨a,b,c⟩:=by
      rcases Nat.lt_or_ge i (cL ⟨a,b,c⟩) with hl|hl
      ·have:=k3 i hl
       rw [q1] at this
       simp at this
      ·omega
     have g1:aG8 ⟨a,b,c⟩=rhoN s i ⟨a,b,c⟩:=by unfold aG8;rw [hS,← hii]
     have g2:aSb ⟨a,b,c⟩=aI s i ⟨a,b,c⟩:=by unfold aSb;rw [hS,← hii]
     rw [g1,g2,q]
     and_intros <;> first|exact ⟨⟩|rfl|exact .inl (Z0 _)|exact .inl hiw
    ·have hlt:i<cL ⟨a,b,c⟩:=by
      rcases Nat.lt_or_ge i (cL ⟨a,b,c⟩) with hl|hl
      ·exact hl
      ·obtain rfl:i=cL ⟨a,b,c⟩:=by omega
       exact absurd k2 q1
     have hC:=(cX hd (n7 hd i (f:=⟨a,b,c⟩) rfl)).2
     have g1:rhoN s (i+1) ⟨a,b,c⟩=(rhoN s i ⟨a,b,c⟩).app (gZ s (rhoN s i ⟨a,b,c⟩)):=by rw [jC,wE hC]
     have hg':=aAI hd hs (k:=W) (by omega) (i+1) rfl hbd
     have hM':=aC8 hd hs (k:=W) (by omega) rfl hbd (i+1)
     have hg2:=hg'
     rw [g1] at hg2
     refine ⟨⟨by omega,by omega,by omega,by omega,hC,hd.pos,hs⟩,⟨by omega,by omega,by omega,by omega,by omega,by omega,by omega⟩,by omega,⟨i+1⟩,hlt,?_,⟨⟩,?_⟩
     ·simp only []
      rw [g1]
      and_intros <;> first|exact ⟨⟩|rfl|exact .inl (Z0 _)|exact .inr hg2.A|exact .inr hg2.B|exact .inr hg2.C|exact .inr hM'.a|exact .inr hM'.b|exact .inr hM'.c|exact .inr hM'.d
     ·show cL _ -(i+1)<cL _ -i
      omega
 ·simp at h
noncomputable def xO:Ctr Tryz.prog:=⟨121,sK,fun args w=>Tryz.call121 args w,iB Tryz.func121 sK aLM⟩
def nC (id:Nat):Code→List Oper
 | .region j ops _=>cond (j.beq id) ops.toList []
 | .seq a b=>nC id a++nC id b
 | .cond _ a b=>nC id a++nC id b
 | .block _ c=>nC id c
 | .loop c=>nC id c
 | .scope c=>nC id c
 | .rangeFunc _ _ a b=>nC id a++nC id b
 | _=> []
noncomputable def aOn:List Oper:=nC 9 (Tryz.f148.body.getD .skip)
def aXH (s:Int) (f:Fm) (n0 WM:Nat):Nat→MS→XS→Option XAnn
 | 1,e,_=>some (.inv WalkI (fun i=>i.i≤n0) (fun i=>⟨24, [(0,look 0 e.tm),(1,.bp 5 0),(2,.bp 6 0),(4,.bp 7 0)],
   aO (aO (aO (aO e.bx 2 ⟨false,.one (.bs 8 0 i.i)⟩) 3 ⟨false,.one (.bs 9 0 i.i)⟩) 5 ⟨false,.one (g6 (rhoN s i.i f) 8)⟩) 7 ⟨false,.one (zL (aI s i.i f) (i.i*8+1))⟩ ++
    [⟨false,.rows 6 i.i (fun j=>g6 (rhoN s j f) 8)⟩,⟨false,.rows 8 i.i (fun j=>zL (aI s j f) WM)⟩],8⟩) (fun _=>none) (fun i=>n0 -i.i))
 | _,_,_=>none
noncomputable def aEB (s:Int) (f:Fm) (n0 WM:Nat):XE Tryz.prog where
 E:=aW [rM,mM,aEN] aD
 xann:=fun _ _ _=>none
 its:= [⟨201,Tryz.f201,Tryz.func201,fun args w=>Tryz.call201 args w,aW [qA,aAq,uQ,uR] aD,aXH s f n0 WM⟩]
 inl:= [⟨177,Tryz.f177,Tryz.func177,fun args w=>Tryz.call177 args w,aW [] aD,fun _ _ _=>none⟩]
 rnp:=fun _=>8
 all:=fun j=>cond (j.beq 9) (some aOn) none
def bG (f:Fm):Nat:=bB f*8+1
def arF (f:Fm):MV:= .sl 6 (bB f) (fun j=>g6 (rhoN (aF f.disc) j f) 8)
def arM (f:Fm):MV:= .sl 8 (bB f) (fun j=>zL (aI (aF f.disc) j f) (bG f))
theorem aMb (a b c:Int) (n m k:Nat):((n≤100000∧m≤100000∧k≤100000)∧2*a7 n m k+66≤100000∧(natAbs a<9223372036854775808∧natAbs b<9223372036854775808∧natAbs c<9223372036854775808)∧∀ (L:Nat),eH 1∧eH 0∧eH 0∧eH 1∧(∃ i:WalkI,i.1≤bB (Fm.mk a b c)∧((Value.func (Fn.yield L) #[] #[]=Value.func (Fn.yield L) #[] #[]∧0=0∧0=0∧0=0∧True)∧(aE a a n n∧aE b b m m∧aE c c k k∧True)∧aE (aF (Fm.disc (Fm.mk a b c))) (aF (Fm.disc (Fm.mk a b c))) 9 9∧(Value.slice none 0 0=Value.slice none 0 0∧0=0∧i.1=0)∧(Value.slice none 0 0=Value.slice none 0 0∧0=0∧i.1=0)∧(a=a∧b=b∧c=c∧True)∧(aE a (Fm.A (rhoN (aF (Fm.disc (Fm.mk a b c))) (i.1) (Fm.mk a b c))) n 8∧aE b (Fm.B (rhoN (aF (Fm.disc (Fm.mk a b c))) (i.1) (Fm.mk a b c))) m 8∧aE c (Fm.C (rhoN (aF (Fm.disc (Fm.mk a b c))) (i.1) (Fm.mk a b c))) k 8∧True)∧aE (aF (Fm.disc (Fm.mk a b c))) (aF (Fm.disc (Fm.mk a b c))) 9 9∧MLe (Mx.mk 1 0 0 1) (aI (aF (Fm.disc (Fm.mk a b c))) (i.1) (Fm.mk a b c)) 64 (i.1*8+1)∧True)∧True)∧∀ (i:WalkI),i.1≤bB (Fm.mk a b c)→L=L∧bif decide ((i.1:Int)>0) then (natAbs (Fm.A (rhoN (aF (Fm.disc (Fm.mk a b c))) (i.1) (Fm.mk a b c)))<9223372036854775808∧natAbs (Fm.B (rhoN (aF (Fm.disc (Fm.mk a b c))) (i.1) (Fm.mk a b c)))<9223372036854775808∧natAbs (Fm.C (rhoN (aF (Fm.disc (Fm.mk a b c))) (i.1) (Fm.mk a b c)))<9223372036854775808)∧(((IntKind.min i64≤Fm.A (rhoN (aF (Fm.disc (Fm.mk a b c))) (i.1) (Fm.mk a b c))∧Fm.A (rhoN (aF (Fm.disc (Fm.mk a b c))) (i.1) (Fm.mk a b c))≤IntKind.max i64)∧(IntKind.min i64≤Fm.B (rhoN (aF (Fm.disc (Fm.mk a b c))) (i.1) (Fm.mk a b c))∧Fm.B (rhoN (aF (Fm.disc (Fm.mk a b c))) (i.1) (Fm.mk a b c))≤IntKind.max i64)∧(IntKind.min i64≤Fm.C (rhoN (aF (Fm.disc (Fm.mk a b c))) (i.1) (Fm.mk a b c))∧Fm.C (rhoN (aF (Fm.disc (Fm.mk a b c))) (i.1) (Fm.mk a b c))≤IntKind.max i64)∧True)∧(IntKind.min i64≤a∧a≤IntKind.max i64)∧(IntKind.min i64≤b∧b≤IntKind.max i64)∧(IntKind.min i64≤c∧c≤IntKind.max i64)∧True)∧bif uX [Fm.A (rhoN (aF (Fm.disc (Fm.mk a b c))) (i.1) (Fm.mk a b c)),Fm.B (rhoN (aF (Fm.disc (Fm.mk a b c))) (i.1) (Fm.mk a b c)),Fm.C (rhoN (aF (Fm.disc (Fm.mk a b c))) (i.1) (Fm.mk a b c))] [a,b,c] then (i.1≤i.1∧i.1≤i.1)∧(6=6∧i.1=bB (Fm.mk a b c)∧LeFun (i.1) (fun j=>g6 (rhoN (aF (Fm.disc (Fm.mk a b c))) j (Fm.mk a b c)) 8) fun j=>g6 (rhoN (aF (Fm.disc (Fm.mk a b c))) j (Fm.mk a b c)) 8)∧(8=8∧i.1=bB (Fm.mk a b c)∧LeFun (i.1) (fun j=>zL (aI (aF (Fm.disc (Fm.mk a b c))) j (Fm.mk a b c)) (bG (Fm.mk a b c))) fun j=>zL (aI (aF (Fm.disc (Fm.mk a b c))) j (Fm.mk a b c)) (bG (Fm.mk a b c)))∧True else eJ 0 aOn=true∧DrawOk Tryz.prog aOn { n:=nat_lit 43,tm:= [(32,MV.bool false),(32,MV.bool (uX [Fm.A (rhoN (aF (Fm.disc (Fm.mk a b c))) (i.1) (Fm.mk a b c)),Fm.B (rhoN (aF (Fm.disc (Fm.mk a b c))) (i.1) (Fm.mk a b c)),Fm.C (rhoN (aF (Fm.disc (Fm.mk a b c))) (i.1) (Fm.mk a b c))] [a,b,c])),(31,MV.bool (uX [Fm.A (rhoN (aF (Fm.disc (Fm.mk a b c))) (i.1) (Fm.mk a b c)),Fm.B (rhoN (aF (Fm.disc (Fm.mk a b c))) (i.1) (Fm.mk a b c)),Fm.C (rhoN (aF (Fm.disc (Fm.mk a b c))) (i.1) (Fm.mk a b c))] [a,b,c])),(27,MV.bool true),(30,MV.st [MV.int i64 a,MV.int i64 b,MV.int i64 c]),(27,MV.bool true),(29,MV.st [MV.int i64 (Fm.A (rhoN (aF (Fm.disc (Fm.mk a b c))) (i.1) (Fm.mk a b c))),MV.int i64 (Fm.B (rhoN (aF (Fm.disc (Fm.mk a b c))) (i.1) (Fm.mk a b c))),MV.int i64 (Fm.C (rhoN (aF (Fm.disc (Fm.mk a b c))) (i.1) (Fm.mk a b c)))]),(27,MV.bool true),(28,MV.st [MV.big (Fm.A (rhoN (aF (Fm.disc (Fm.mk a b c))) (i.1) (Fm.mk a b c))) 8,MV.big (Fm.B (rhoN (aF (Fm.disc (Fm.mk a b c))) (i.1) (Fm.mk a b c))) 8,MV.big (Fm.C (rhoN (aF (Fm.disc (Fm.mk a b c))) (i.1) (Fm.mk a b c))) 8]),(27,MV.bool true),(27,MV.bool (decide ((i.1:Int)>0))),(26,MV.bool (decide ((i.1:Int)>0))),(25,MV.int i64 (i.1:Int)),(24,MV.bs 8 0 (i.1)),(10,MV.bp 11 0),(9,MV.bp 10 0),(23,MV.st [MV.big (Mx.a (aI (aF (Fm.disc (Fm.mk a b c))) (i.1) (Fm.mk a b c))) (i.1*8+1),MV.big (Mx.b (aI (aF (Fm.disc (Fm.mk a b c))) (i.1) (Fm.mk a b c))) (i.1*8+1),MV.big (Mx.c (aI (aF (Fm.disc (Fm.mk a b c))) (i.1) (Fm.mk a b c))) (i.1*8+1),MV.big (Mx.d (aI (aF (Fm.disc (Fm.mk a b c))) (i.1) (Fm.mk a b c))) (i.1*8+1)]),(22,MV.st [MV.big (Fm.A (rhoN (aF (Fm.disc (Fm.mk a b c))) (i.1) (Fm.mk a b c))) 8,MV.big (Fm.B (rhoN (aF (Fm.disc (Fm.mk a b c))) (i.1) (Fm.mk a b c))) 8,MV.big (Fm.C (rhoN (aF (Fm.disc (Fm.mk a b c))) (i.1) (Fm.mk a b c))) 8]),(21,MV.any),(20,MV.any),(19,MV.any),(8,MV.bp 4 0),(18,MV.any),(17,MV.any),(7,MV.bp 3 0),(6,MV.bp 2 0),(5,MV.int i64 (aX (Fm.disc (Fm.mk a b c)))),(4,MV.bp 1 0),(16,MV.int i64 (aX (Fm.disc (Fm.mk a b c)))),(15,MV.any),(11,MV.any),(14,MV.any),(13,MV.any),(12,MV.any),(3,MV.val (Value.slice none 0 0)),(2,MV.val (Value.slice none 0 0)),(1,MV.bp 0 0),(0,MV.any)],bx:= [{ fz:=false,c:=BC.one (MV.st [MV.big a n,MV.big b m,MV.big c k]) },{ fz:=false,c:=BC.one (MV.big (aF (Fm.disc (Fm.mk a b c))) 9) },{ fz:=false,c:=BC.one (MV.bs 8 0 (i.1)) },{ fz:=false,c:=BC.one (MV.bs 9 0 (i.1)) },{ fz:=false,c:=BC.one (MV.st [MV.int i64 a,MV.int i64 b,MV.int i64 c]) },{ fz:=false,c:=BC.one (g6 (rhoN (aF (Fm.disc (Fm.mk a b c))) (i.1) (Fm.mk a b c)) 8) },{ fz:=false,c:=BC.one (MV.big (aF (Fm.disc (Fm.mk a b c))) 9) },{ fz:=false,c:=BC.one (zL (aI (aF (Fm.disc (Fm.mk a b c))) (i.1) (Fm.mk a b c)) (i.1*8+1)) },{ fz:=false,c:=BC.rows 6 (i.1) fun j=>g6 (rhoN (aF (Fm.disc (Fm.mk a b c))) j (Fm.mk a b c)) 8 },{ fz:=false,c:=BC.rows 8 (i.1) fun j=>zL (aI (aF (Fm.disc (Fm.mk a b c))) j (Fm.mk a b c)) (bG (Fm.mk a b c)) },{ fz:=false,c:=BC.one (MV.st [MV.big (Fm.A (rhoN (aF (Fm.disc (Fm.mk a b c))) (i.1) (Fm.mk a b c))) 8,MV.big (Fm.B (rhoN (aF (Fm.disc (Fm.mk a b c))) (i.1) (Fm.mk a b c))) 8,MV.big (Fm.C (rhoN (aF (Fm.disc (Fm.mk a b c))) (i.1) (Fm.mk a b c))) 8]) },{ fz:=false,c:=BC.one (MV.st [MV.big (Mx.a (aI (aF (Fm.disc (Fm.mk a b c))) (i.1) (Fm.mk a b c))) (i.1*8+1),MV.big (Mx.b (aI (aF (Fm.disc (Fm.mk a b c))) (i.1) (Fm.mk a b c))) (i.1*8+1),MV.big (Mx.c (aI (aF (Fm.disc (Fm.mk a b c))) (i.1) (Fm.mk a b c))) (i.1*8+1),MV.big (Mx.d (aI (aF (Fm.disc (Fm.mk a b c))) (i.1) (Fm.mk a b c))) (i.1*8+1)]) }],np:=nat_lit 8 }∧(i.1≤i.1∧(i.1+News.len (News.rows 6 1 (bO [MV.st [MV.big (Fm.A (rhoN (aF (Fm.disc (Fm.mk a b c))) (i.1) (Fm.mk a b c))) 8,MV.big (Fm.B (rhoN (aF (Fm.disc (Fm.mk a b c))) (i.1) (Fm.mk a b c))) 8,MV.big (Fm.C (rhoN (aF (Fm.disc (Fm.mk a b c))) (i.1) (Fm.mk a b c))) 8]])))*96≤140737488355328)∧(i.1≤i.1∧(i.1+News.len (News.rows 8 1 (bO [MV.st [MV.big (Mx.a (aI (aF (Fm.disc (Fm.mk a b c))) (i.1) (Fm.mk a b c))) (i.1*8+1),MV.big (Mx.b (aI (aF (Fm.disc (Fm.mk a b c))) (i.1) (Fm.mk a b c))) (i.1*8+1),MV.big (Mx.c (aI (aF (Fm.disc (Fm.mk a b c))) (i.1) (Fm.mk a b c))) (i.1*8+1),MV.big (Mx.d (aI (aF (Fm.disc (Fm.mk a b c))) (i.1) (Fm.mk a b c))) (i.1*8+1)]])))*128≤140737488355328)∧(8≤40000∧8≤40000∧8≤40000∧9≤40000∧(Fm.C (rhoN (aF (Fm.disc (Fm.mk a b c))) (i.1) (Fm.mk a b c))=0→False)∧0<aF (Fm.disc (Fm.mk a b c))∧aF (Fm.disc (Fm.mk a b c))≤255)∧(8≤40000∧8≤40000∧8≤40000∧64≤40000∧64≤40000∧64≤40000∧64≤40000)∧bP (i.1*8+1) (i.1*8+1) (i.1*8+1) (i.1*8+1)+64≤900000∧∃ j:WalkI,j.1≤bB (Fm.mk a b c)∧((Value.func (Fn.yield L) #[] #[]=Value.func (Fn.yield L) #[] #[]∧0=0∧0=0∧0=0∧True)∧(aE a a n n∧aE b b m m∧aE c c k k∧True)∧aE (aF (Fm.disc (Fm.mk a b c))) (aF (Fm.disc (Fm.mk a b c))) 9 9∧(0=0∧i.1+News.len (News.rows 6 1 (bO [MV.st [MV.big (Fm.A (rhoN (aF (Fm.disc (Fm.mk a b c))) (i.1) (Fm.mk a b c))) 8,MV.big (Fm.B (rhoN (aF (Fm.disc (Fm.mk a b c))) (i.1) (Fm.mk a b c))) 8,MV.big (Fm.C (rhoN (aF (Fm.disc (Fm.mk a b c))) (i.1) (Fm.mk a b c))) 8]]))=j.1)∧(0=0∧i.1+News.len (News.rows 8 1 (bO [MV.st [MV.big (Mx.a (aI (aF (Fm.disc (Fm.mk a b c))) (i.1) (Fm.mk a b c))) (i.1*8+1),MV.big (Mx.b (aI (aF (Fm.disc (Fm.mk a b c))) (i.1) (Fm.mk a b c))) (i.1*8+1),MV.big (Mx.c (aI (aF (Fm.disc (Fm.mk a b c))) (i.1) (Fm.mk a b c))) (i.1*8+1),MV.big (Mx.d (aI (aF (Fm.disc (Fm.mk a b c))) (i.1) (Fm.mk a b c))) (i.1*8+1)]]))=j.1)∧(a=a∧b=b∧c=c∧True)∧FLe (Fm.mk (Fm.val (rhoN (aF (Fm.disc (Fm.mk a b c))) (i.1) (Fm.mk a b c)) 0 1) (2*(Fm.A (rhoN (aF (Fm.disc (Fm.mk a b c))) (i.1) (Fm.mk a b c))*((0:Int)*(-1:Int))+Fm.C (rhoN (aF (Fm.disc (Fm.mk a b c))) (i.1) (Fm.mk a b c))*(1*cV (aF (Fm.disc (Fm.mk a b c))) (rhoN (aF (Fm.disc (Fm.mk a b c))) (i.1) (Fm.mk a b c))))+Fm.B (rhoN (aF (Fm.disc (Fm.mk a b c))) (i.1) (Fm.mk a b c))*(0*cV (aF (Fm.disc (Fm.mk a b c))) (rhoN (aF (Fm.disc (Fm.mk a b c))) (i.1) (Fm.mk a b c))+(-1)*1)) (Fm.val (rhoN (aF (Fm.disc (Fm.mk a b c))) (i.1) (Fm.mk a b c)) (-1) (cV (aF (Fm.disc (Fm.mk a b c))) (rhoN (aF (Fm.disc (Fm.mk a b c))) (i.1) (Fm.mk a b c))))) (rhoN (aF (Fm.disc (Fm.mk a b c))) (j.1) (Fm.mk a b c)) 204 8∧aE (aF (Fm.disc (Fm.mk a b c))) (aF (Fm.disc (Fm.mk a b c))) 9 9∧MLe (Mx.mk (Mx.a (aI (aF (Fm.disc (Fm.mk a b c))) (i.1) (Fm.mk a b c))*0+Mx.b (aI (aF (Fm.disc (Fm.mk a b c))) (i.1) (Fm.mk a b c))*1) (Mx.a (aI (aF (Fm.disc (Fm.mk a b c))) (i.1) (Fm.mk a b c))*(-1)+Mx.b (aI (aF (Fm.disc (Fm.mk a b c))) (i.1) (Fm.mk a b c))*cV (aF (Fm.disc (Fm.mk a b c))) (rhoN (aF (Fm.disc (Fm.mk a b c))) (i.1) (Fm.mk a b c))) (Mx.c (aI (aF (Fm.disc (Fm.mk a b c))) (i.1) (Fm.mk a b c))*0+Mx.d (aI (aF (Fm.disc (Fm.mk a b c))) (i.1) (Fm.mk a b c))*1) (Mx.c (aI (aF (Fm.disc (Fm.mk a b c))) (i.1) (Fm.mk a b c))*(-1)+Mx.d (aI (aF (Fm.disc (Fm.mk a b c))) (i.1) (Fm.mk a b c))*cV (aF (Fm.disc (Fm.mk a b c))) (rhoN (aF (Fm.disc (Fm.mk a b c))) (i.1) (Fm.mk a b c)))) (aI (aF (Fm.disc (Fm.mk a b c))) (j.1) (Fm.mk a b c)) (bP (i.1*8+1) (i.1*8+1) (i.1*8+1) (i.1*8+1)+64+1) (j.1*8+1)∧(i.1+1=j.1∧LeFun (i.1+1) (fun q=>bif Nat.blt q (i.1) then g6 (rhoN (aF (Fm.disc (Fm.mk a b c))) q (Fm.mk a b c)) 8 else bO [MV.st [MV.big (Fm.A (rhoN (aF (Fm.disc (Fm.mk a b c))) (i.1) (Fm.mk a b c))) 8,MV.big (Fm.B (rhoN (aF (Fm.disc (Fm.mk a b c))) (i.1) (Fm.mk a b c))) 8,MV.big (Fm.C (rhoN (aF (Fm.disc (Fm.mk a b c))) (i.1) (Fm.mk a b c))) 8]] (q -i.1)) fun j=>g6 (rhoN (aF (Fm.disc (Fm.mk a b c))) j (Fm.mk a b c)) 8)∧(i.1+1=j.1∧LeFun (i.1+1) (fun q=>bif Nat.blt q (i.1) then zL (aI (aF (Fm.disc (Fm.mk a b c))) q (Fm.mk a b c)) (bG (Fm.mk a b c)) else bO [MV.st [MV.big (Mx.a (aI (aF (Fm.disc (Fm.mk a b c))) (i.1) (Fm.mk a b c))) (i.1*8+1),MV.big (Mx.b (aI (aF (Fm.disc (Fm.mk a b c))) (i.1) (Fm.mk a b c))) (i.1*8+1),MV.big (Mx.c (aI (aF (Fm.disc (Fm.mk a b c))) (i.1) (Fm.mk a b c))) (i.1*8+1),MV.big (Mx.d (aI (aF (Fm.disc (Fm.mk a b c))) (i.1) (Fm.mk a b c))) (i.1*8+1)]] (q -i.1)) fun j=>zL (aI (aF (Fm.disc (Fm.mk a b c))) j (Fm.mk a b c)) (bG (Fm.mk a b c)))∧True)∧True∧bB (Fm.mk a b c) -j.1<bB (Fm.mk a b c) -i.1 else eJ 0 aOn=true∧DrawOk Tryz.prog aOn { n:=nat_lit 43,tm:= [(32,MV.bool false),(32,MV.bool false),(31,MV.tup []),(27,MV.bool !true),(30,MV.tup []),(27,MV.bool !true),(29,MV.tup []),(27,MV.bool !true),(28,MV.tup []),(27,MV.bool !true),(27,MV.bool (decide ((i.1:Int)>0))),(26,MV.bool (decide ((i.1:Int)>0))),(25,MV.int i64 (i.1:Int)),(24,MV.bs 8 0 (i.1)),(10,MV.bp 11 0),(9,MV.bp 10 0),(23,MV.st [MV.big (Mx.a (aI (aF (Fm.disc (Fm.mk a b c))) (i.1) (Fm.mk a b c))) (i.1*8+1),MV.big (Mx.b (aI (aF (Fm.disc (Fm.mk a b c))) (i.1) (Fm.mk a b c))) (i.1*8+1),MV.big (Mx.c (aI (aF (Fm.disc (Fm.mk a b c))) (i.1) (Fm.mk a b c))) (i.1*8+1),MV.big (Mx.d (aI (aF (Fm.disc (Fm.mk a b c))) (i.1) (Fm.mk a b c))) (i.1*8+1)]),(22,MV.st [MV.big (Fm.A (rhoN (aF (Fm.disc (Fm.mk a b c))) (i.1) (Fm.mk a b c))) 8,MV.big (Fm.B (rhoN (aF (Fm.disc (Fm.mk a b c))) (i.1) (Fm.mk a b c))) 8,MV.big (Fm.C (rhoN (aF (Fm.disc (Fm.mk a b c))) (i.1) (Fm.mk a b c))) 8]),(21,MV.any),(20,MV.any),(19,MV.any),(8,MV.bp 4 0),(18,MV.any),(17,MV.any),(7,MV.bp 3 0),(6,MV.bp 2 0),(5,MV.int i64 (aX (Fm.disc (Fm.mk a b c)))),(4,MV.bp 1 0),(16,MV.int i64 (aX (Fm.disc (Fm.mk a b c)))),(15,MV.any),(11,MV.any),(14,MV.any),(13,MV.any),(12,MV.any),(3,MV.val (Value.slice none 0 0)),(2,MV.val (Value.slice none 0 0)),(1,MV.bp 0 0),(0,MV.any)],bx:= [{ fz:=false,c:=BC.one (MV.st [MV.big a n,MV.big b m,MV.big c k]) },{ fz:=false,c:=BC.one (MV.big (aF (Fm.disc (Fm.mk a b c))) 9) },{ fz:=false,c:=BC.one (MV.bs 8 0 (i.1)) },{ fz:=false,c:=BC.one (MV.bs 9 0 (i.1)) },{ fz:=false,c:=BC.one (MV.st [MV.int i64 a,MV.int i64 b,MV.int i64 c]) },{ fz:=false,c:=BC.one (g6 (rhoN (aF (Fm.disc (Fm.mk a b c))) (i.1) (Fm.mk a b c)) 8) },{ fz:=false,c:=BC.one (MV.big (aF (Fm.disc (Fm.mk a b c))) 9) },{ fz:=false,c:=BC.one (zL (aI (aF (Fm.disc (Fm.mk a b c))) (i.1) (Fm.mk a b c)) (i.1*8+1)) },{ fz:=false,c:=BC.rows 6 (i.1) fun j=>g6 (rhoN (aF (Fm.disc (Fm.mk a b c))) j (Fm.mk a b c)) 8 },{ fz:=false,c:=BC.rows 8 (i.1) fun j=>zL (aI (aF (Fm.disc (Fm.mk a b c))) j (Fm.mk a b c)) (bG (Fm.mk a b c)) },{ fz:=false,c:=BC.one (MV.st [MV.big (Fm.A (rhoN (aF (Fm.disc (Fm.mk a b c))) (i.1) (Fm.mk a b c))) 8,MV.big (Fm.B (rhoN (aF (Fm.disc (Fm.mk a b c))) (i.1) (Fm.mk a b c))) 8,MV.big (Fm.C (rhoN (aF (Fm.disc (Fm.mk a b c))) (i.1) (Fm.mk a b c))) 8]) },{ fz:=false,c:=BC.one (MV.st [MV.big (Mx.a (aI (aF (Fm.disc (Fm.mk a b c))) (i.1) (Fm.mk a b c))) (i.1*8+1),MV.big (Mx.b (aI (aF (Fm.disc (Fm.mk a b c))) (i.1) (Fm.mk a b c))) (i.1*8+1),MV.big (Mx.c (aI (aF (Fm.disc (Fm.mk a b c))) (i.1) (Fm.mk a b c))) (i.1*8+1),MV.big (Mx.d (aI (aF (Fm.disc (Fm.mk a b c))) (i.1) (Fm.mk a b c))) (i.1*8+1)]) }],np:=nat_lit 8 }∧(i.1≤i.1∧(i.1+News.len (News.rows 6 1 (bO [MV.st [MV.big (Fm.A (rhoN (aF (Fm.disc (Fm.mk a b c))) (i.1) (Fm.mk a b c))) 8,MV.big (Fm.B (rhoN (aF (Fm.disc (Fm.mk a b c))) (i.1) (Fm.mk a b c))) 8,MV.big (Fm.C (rhoN (aF (Fm.disc (Fm.mk a b c))) (i.1) (Fm.mk a b c))) 8]])))*96≤140737488355328)∧(i.1≤i.1∧(i.1+News.len (News.rows 8 1 (bO [MV.st [MV.big (Mx.a (aI (aF (Fm.disc (Fm.mk a b c))) (i.1) (Fm.mk a b c))) (i.1*8+1),MV.big (Mx.b (aI (aF (Fm.disc (Fm.mk a b c))) (i.1) (Fm.mk a b c))) (i.1*8+1),MV.big (Mx.c (aI (aF (Fm.disc (Fm.mk a b c))) (i.1) (Fm.mk a b c))) (i.1*8+1),MV.big (Mx.d (aI (aF (Fm.disc (Fm.mk a b c))) (i.1) (Fm.mk a b c))) (i.1*8+1)]])))*128≤140737488355328)∧(8≤40000∧8≤40000∧8≤40000∧9≤40000∧(Fm.C (rhoN (aF (Fm.disc (Fm.mk a b c))) (i.1) (Fm.mk a b c))=0→False)∧0<aF (Fm.disc (Fm.mk a b c))∧aF (Fm.disc (Fm.mk a b c))≤255)∧(8≤40000∧8≤40000∧8≤40000∧64≤40000∧64≤40000∧64≤40000∧64≤40000)∧bP (i.1*8+1) (i.1*8+1) (i.1*8+1) (i.1*8+1)+64≤900000∧∃ j:WalkI,j.1≤bB (Fm.mk a b c)∧((Value.func (Fn.yield L) #[] #[]=Value.func (Fn.yield L) #[] #[]∧0=0∧0=0∧0=0∧True)∧(aE a a n n∧aE b b m m∧aE c c k k∧True)∧aE (aF (Fm.disc (Fm.mk a b c))) (aF (Fm.disc (Fm.mk a b c))) 9 9∧(0=0∧i.1+News.len (News.rows 6 1 (bO [MV.st [MV.big (Fm.A (rhoN (aF (Fm.disc (Fm.mk a b c))) (i.1) (Fm.mk a b c))) 8,MV.big (Fm.B (rhoN (aF (Fm.disc (Fm.mk a b c))) (i.1) (Fm.mk a b c))) 8,MV.big (Fm.C (rhoN (aF (Fm.disc (Fm.mk a b c))) (i.1) (Fm.mk a b c))) 8]]))=j.1)∧(0=0∧i.1+News.len (News.rows 8 1 (bO [MV.st [MV.big (Mx.a (aI (aF (Fm.disc (Fm.mk a b c))) (i.1) (Fm.mk a b c))) (i.1*8+1),MV.big (Mx.b (aI (aF (Fm.disc (Fm.mk a b c))) (i.1) (Fm.mk a b c))) (i.1*8+1),MV.big (Mx.c (aI (aF (Fm.disc (Fm.mk a b c))) (i.1) (Fm.mk a b c))) (i.1*8+1),MV.big (Mx.d (aI (aF (Fm.disc (Fm.mk a b c))) (i.1) (Fm.mk a b c))) (i.1*8+1)]]))=j.1)∧(a=a∧b=b∧c=c∧True)∧FLe (Fm.mk (Fm.val (rhoN (aF (Fm.disc (Fm.mk a b c))) (i.1) (Fm.mk a b c)) 0 1) (2*(Fm.A (rhoN (aF (Fm.disc (Fm.mk a b c))) (i.1) (Fm.mk a b c))*((0:Int)*(-1:Int))+Fm.C (rhoN (aF (Fm.disc (Fm.mk a b c))) (i.1) (Fm.mk a b c))*(1*cV (aF (Fm.disc (Fm.mk a b c))) (rhoN (aF (Fm.disc (Fm.mk a b c))) (i.1) (Fm.mk a b c))))+Fm.B (rhoN (aF (Fm.disc (Fm.mk a b c))) (i.1) (Fm.mk a b c))*(0*cV (aF (Fm.disc (Fm.mk a b c))) (rhoN (aF (Fm.disc (Fm.mk a b c))) (i.1) (Fm.mk a b c))+(-1)*1)) (Fm.val (rhoN (aF (Fm.disc (Fm.mk a b c))) (i.1) (Fm.mk a b c)) (-1) (cV (aF (Fm.disc (Fm.mk a b c))) (rhoN (aF (Fm.disc (Fm.mk a b c))) (i.1) (Fm.mk a b c))))) (rhoN (aF (Fm.disc (Fm.mk a b c))) (j.1) (Fm.mk a b c)) 204 8∧aE (aF (Fm.disc (Fm.mk a b c))) (aF (Fm.disc (Fm.mk a b c))) 9 9∧MLe (Mx.mk (Mx.a (aI (aF (Fm.disc (Fm.mk a b c))) (i.1) (Fm.mk a b c))*0+Mx.b (aI (aF (Fm.disc (Fm.mk a b c))) (i.1) (Fm.mk a b c))*1) (Mx.a (aI (aF (Fm.disc (Fm.mk a b c))) (i.1) (Fm.mk a b c))*(-1)+Mx.b (aI (aF (Fm.disc (Fm.mk a b c))) (i.1) (Fm.mk a b c))*cV (aF (Fm.disc (Fm.mk a b c))) (rhoN (aF (Fm.disc (Fm.mk a b c))) (i.1) (Fm.mk a b c))) (Mx.c (aI (aF (Fm.disc (Fm.mk a b c))) (i.1) (Fm.mk a b c))*0+Mx.d (aI (aF (Fm.disc (Fm.mk a b c))) (i.1) (Fm.mk a b c))*1) (Mx.c (aI (aF (Fm.disc (Fm.mk a b c))) (i.1) (Fm.mk a b c))*(-1)+Mx.d (aI (aF (Fm.disc (Fm.mk a b c))) (i.1) (Fm.mk a b c))*cV (aF (Fm.disc (Fm.mk a b c))) (rhoN (aF (Fm.disc (Fm.mk a b c))) (i.1) (Fm.mk a b c)))) (aI (aF (Fm.disc (Fm.mk a b c))) (j.1) (Fm.mk a b c)) (bP (i.1*8+1) (i.1*8+1) (i.1*8+1) (i.1*8+1)+64+1) (j.1*8+1)∧(i.1+1=j.1∧LeFun (i.1+1) (fun q=>bif Nat.blt q (i.1) then g6 (rhoN (aF (Fm.disc (Fm.mk a b c))) q (Fm.mk a b c)) 8 else bO [MV.st [MV.big (Fm.A (rhoN (aF (Fm.disc (Fm.mk a b c))) (i.1) (Fm.mk a b c))) 8,MV.big (Fm.B (rhoN (aF (Fm.disc (Fm.mk a b c))) (i.1) (Fm.mk a b c))) 8,MV.big (Fm.C (rhoN (aF (Fm.disc (Fm.mk a b c))) (i.1) (Fm.mk a b c))) 8]] (q -i.1)) fun j=>g6 (rhoN (aF (Fm.disc (Fm.mk a b c))) j (Fm.mk a b c)) 8)∧(i.1+1=j.1∧LeFun (i.1+1) (fun q=>bif Nat.blt q (i.1) then zL (aI (aF (Fm.disc (Fm.mk a b c))) q (Fm.mk a b c)) (bG (Fm.mk a b c)) else bO [MV.st [MV.big (Mx.a (aI (aF (Fm.disc (Fm.mk a b c))) (i.1) (Fm.mk a b c))) (i.1*8+1),MV.big (Mx.b (aI (aF (Fm.disc (Fm.mk a b c))) (i.1) (Fm.mk a b c))) (i.1*8+1),MV.big (Mx.c (aI (aF (Fm.disc (Fm.mk a b c))) (i.1) (Fm.mk a b c))) (i.1*8+1),MV.big (Mx.d (aI (aF (Fm.disc (Fm.mk a b c))) (i.1) (Fm.mk a b c))) (i.1*8+1)]] (q -i.1)) fun j=>zL (aI (aF (Fm.disc (Fm.mk a b c))) j (Fm.mk a b c)) (bG (Fm.mk a b c)))∧True)∧True∧bB (Fm.mk a b c) -j.1<bB (Fm.mk a b c) -i.1)=tC (aEB (aF (Fm.disc ⟨a,b,c⟩)) ⟨a,b,c⟩ (bB ⟨a,b,c⟩) (bG ⟨a,b,c⟩)) Tryz.f148 [.st [.big a n,.big b m,.big c k]] (MRes.sat (.ret (.tup [arF ⟨a,b,c⟩,arM ⟨a,b,c⟩]))):=by kernel_rfl
theorem aJ2 {len:Nat} {g:Nat→MV} {x:MV} (h:fC 0 x (g len)):LeFun (len+1) (fun q=>bif Nat.blt q len then g q else bO [x] (q -len)) g:=⟨fun q hq c w cs r=>by
 have r:RepC c w (bif Nat.blt q len then g q else bO [x] (q -len)) cs:=r
 rcases Nat.lt_or_ge q len with k|k
 ·have e:Nat.blt q len=true:=by simpa [Nat.blt_eq] using k
  rw [e,Z6] at r
  exact r
 ·have e:Nat.blt q len=false:=by
   cases hb:Nat.blt q len with
   | true=>rw [Nat.blt_eq] at hb;omega
   | false=>rfl
  have hq':q=len:=by omega
  rw [e,Z5] at r
  subst hq'
  have e0:bO [x] (q -q)=x:=by rw [Nat.sub_self];rfl
  rw [e0] at r
  exact (LeFun.of_le (len:=1) (f:=fun _=>x) (f':=fun _=>g q) (fun _ _=>h)).h 0 (by omega) c w cs r⟩
theorem aWh {nb:Nat} (f:Fm) {n n':Nat} (h:n≤n'):fC nb (.st [.big f.A n,.big f.B n,.big f.C n]) (g6 f n'):=by
 unfold g6
 simp only [fC,pN]
 exact ⟨⟨trivial,.inl h⟩,⟨trivial,.inl h⟩,⟨trivial,.inl h⟩,⟨⟩⟩
theorem aWi {nb:Nat} (m:Mx) {n n':Nat} (h:n≤n'):fC nb (.st [.big m.a n,.big m.b n,.big m.c n,.big m.d n]) (zL m n'):=by
 unfold zL
 simp only [fC,pN]
 exact ⟨⟨trivial,.inl h⟩,⟨trivial,.inl h⟩,⟨trivial,.inl h⟩,⟨trivial,.inl h⟩,⟨⟩⟩
theorem LeFun.refl {len:Nat} {f:Nat→MV}:LeFun len f f:=⟨fun _ _ _ _ _ r=>r⟩
def wH:aG
 | [.st [.big a n,.big b m,.big c k]]=>some (some (jY ⟨a,b,c⟩=true∧n≤10000∧m≤10000∧k≤10000),.ret (.tup [arF ⟨a,b,c⟩,arM ⟨a,b,c⟩]))
 | _=>none
set_option maxRecDepth 100000 in
theorem aOq:aBr Tryz.f148 wH:=by
 intro ms p r h hp hf
 unfold wH at h
 split at h
 ·rename_i a n b m c k
  cases h
  obtain ⟨hred,h1,h2,h3⟩:=hp
  have hm3:a7 n m k=max n (max m k):=rfl
  refine ⟨aEB (aF (Fm.disc ⟨a,b,c⟩)) ⟨a,b,c⟩ (bB ⟨a,b,c⟩) (bG ⟨a,b,c⟩),?_,?_⟩
  rotate_left
  ·repeat' first|exact ⟨⟩|apply And.intro|rfl
  rw [← aMb a b c n m k]
  obtain ⟨q,hr⟩:=lF.1 hred
  obtain ⟨hd,hs,_⟩:=cD q
  obtain ⟨p1,_,p3,p4⟩:=v8 hred
  have p5:=aOK hred
  obtain ⟨b1,b2,b3,_⟩:=hr.small hd hs
  have e8:(2:Nat)^8=256:=rfl
  have hw:bG ⟨a,b,c⟩=bB ⟨a,b,c⟩*8+1:=rfl
  generalize hS:aF (Fm.disc ⟨a,b,c⟩)=s at *
  generalize hP:bB ⟨a,b,c⟩=per at *
  generalize hW:bG ⟨a,b,c⟩=WM at *
  have b1':a.natAbs<2^8:=b1
  have b2':b.natAbs<2^8:=b2
  have b3':c.natAbs<2^8:=b3
  have l1:(IntKind.min i64)= -9223372036854775808:=rfl
  have l2:(IntKind.max i64)=9223372036854775807:=rfl
  unfold a7 bP
  refine ⟨by omega,by omega,by omega,fun L=>⟨by omega,by omega,by omega,by omega,⟨⟨0⟩,Z9 _,?_,⟨⟩⟩,fun i hi=>?_⟩⟩
  ·and_intros <;> first|exact ⟨⟩|rfl|exact .inl (Z0 _)|exact .inr b1'|exact .inr b2'|exact .inr b3'|(right;show _<2^(0*8+1);decide)|exact LeFun.refl
  obtain ⟨i⟩:=i
  have hi:i≤per:=hi
  have hg:=hr.rhoN hd i
  obtain ⟨g1,g2,g3,_⟩:=hg.small hd hs
  have hM:=aH9 hd hs hr i
  dsimp only
  have hlt1:¬ ([(rhoN s i ⟨a,b,c⟩).A,(rhoN s i ⟨a,b,c⟩).B,(rhoN s i ⟨a,b,c⟩).C]= [a,b,c])→i<per:=fun hne=>by
   rcases Nat.lt_or_ge i per with hl|hl
   ·exact hl
   ·obtain rfl:i=per:=by omega
    exact absurd (by rw [p3]) hne
  have hlt2:¬ ((i:Int)>0)→i<per:=fun h0=>by omega
  refine ⟨rfl,aP Z4 (fun q0=>⟨by omega,(by rw [l1,l2];and_intros <;> first|exact ⟨⟩|omega),aP (j7 _ _) (fun q1=>?_) (fun q1=>⟨by kernel_rfl,⟨by kernel_rfl⟩,?_⟩)⟩) (fun q0=>⟨by kernel_rfl,⟨by kernel_rfl⟩,?_⟩)⟩
  ·have hii:i=per:=by
    simp only [List.cons.injEq,and_true] at q1
    rcases Nat.lt_or_ge i per with hl|hl
    ·exact absurd (Fm.ext' q1.1 q1.2.1 q1.2.2) (p4 i (by omega) hl)
    ·omega
   subst hii
   exact ⟨⟨Z0 _,Z0 _⟩,⟨rfl,rfl,LeFun.refl⟩,⟨rfl,rfl,LeFun.refl⟩,⟨⟩⟩
  all_goals
   have hlt:i<per:=by first|exact hlt1 q1|exact hlt2 q0
   have hC:=(cX hd hg.h).2
   have gs:rhoN s (i+1) ⟨a,b,c⟩=(rhoN s i ⟨a,b,c⟩).app (gZ s (rhoN s i ⟨a,b,c⟩)):=by rw [jC,wE hC]
   have hM':=aH9 hd hs hr (i+1)
   have hg':=hr.rhoN hd (i+1)
   obtain ⟨k1,k2,k3,_⟩:=hg'.small hd hs
   rw [gs] at k1 k2 k3
   have n1:∀ x:MV,News.len (.rows 6 1 (bO [x]))=1:=fun _=>rfl
   have n2:∀ x:MV,News.len (.rows 8 1 (bO [x]))=1:=fun _=>rfl
   rw [n1,n2]
   refine ⟨⟨Z0 _,by omega⟩,⟨Z0 _,by omega⟩,⟨by omega,by omega,by omega,by omega,hC,hd.pos,hs⟩,by omega,by omega,⟨i+1⟩,hlt,?_,⟨⟩,?_⟩
   ·dsimp only
    rw [gs]
    and_intros
    any_goals exact aJ2 (aWh _ (Z0 _))
    any_goals exact aJ2 (aWi _ (by omega))
    all_goals first|exact ⟨⟩|rfl|exact .inl (Z0 _)|exact .inr k1|exact .inr k2|exact .inr k3|exact .inr hM'.a|exact .inr hM'.b|exact .inr hM'.c|exact .inr hM'.d
   ·show per -(i+1)<per -i
    omega
 ·simp at h
noncomputable def aGb:Ctr Tryz.prog:=⟨148,wH,fun args w=>Tryz.call148 args w,iB Tryz.func148 wH aOq⟩
def fL (l:List Fm) (W:Nat):Nat→MV:=fun i=>g6 (l.getD i ⟨0,0,0⟩) W
def mvF:MV→Fm
 | .st [.big a _,.big b _,.big c _]=>⟨a,b,c⟩
 | _=>⟨0,0,0⟩
structure isFm (W:Nat) (m:MV):Prop where
 h:∃ (g:Fm) (i j k:Nat),m= .st [.big g.A i,.big g.B j,.big g.C k]∧i≤W∧j≤W∧k≤W
def cC (n:Nat) (f:Nat→MV):List Fm:=(List.range n).map fun i=>mvF (f i)
theorem vB (n:Nat) (f:Nat→MV):(cC n f).length=n:=by simp [cC]
theorem aLB (n:Nat) (g:Nat→Fm) (W:Nat):cC n (fun i=>g6 (g i) W)=(List.range n).map g:=by
 simp [cC,mvF,g6]
theorem aNR (g:Fm) {n W:Nat} (h:n≤W):isFm W (g6 g n):=⟨g,n,n,n,rfl,h,h,h⟩
theorem aNL {n:Nat} {f:Nat→MV} {W:Nat} (h:∀ i,i<n→isFm W (f i)):LeFun n f (fL (cC n f) W):=LeFun.of_le fun i hi=>by
 obtain ⟨g,a,b,c,e,ha,hb,hc⟩:=(h i hi).h
 have e2:(cC n f).getD i ⟨0,0,0⟩=g:=by
  simp [cC,hi,e,mvF]
 show fC 0 (f i) (g6 ((cC n f).getD i ⟨0,0,0⟩) W)
 rw [e2,e]
 unfold g6
 simp only [fC,pN]
 exact ⟨⟨trivial,.inl ha⟩,⟨trivial,.inl hb⟩,⟨trivial,.inl hc⟩,⟨⟩⟩
def cyL (f:Fm):List Fm:=if aX f.disc=0 then (List.range (bB (aC f))).map fun j=>rhoN (aF (aC f).disc) j (aC f) else []
theorem iT {f:Fm} (h:aX f.disc=0):jY (aC f)=true∧(aC f).disc=f.disc:=by
 obtain ⟨hd,_⟩:=cD h
 have e:aC f=aG8 f:=if_pos h
 obtain ⟨k,hk⟩:∃ k,f.C.natAbs<2^k:=⟨f.C.natAbs,aIM _⟩
 have:=(aCX h hk).2.1
 rw [e]
 exact ⟨this,n7 hd _ rfl⟩
theorem aUb (f:Fm):(cyL f).length≤65408:=by
 unfold cyL
 split
 ·rename_i h
  have:=aOK (iT h).1
  simpa using this
 ·simp
theorem aLj (f:Fm):∀ g∈cyL f,g.A.natAbs<2^8∧g.B.natAbs<2^8∧g.C.natAbs<2^8:=by
 intro g hg
 unfold cyL at hg
 split at hg
 ·rename_i h
  obtain ⟨i,_,rfl⟩:=List.mem_map.1 hg
  obtain ⟨q,hr⟩:=lF.1 (iT h).1
  obtain ⟨hd,hs,_⟩:=cD q
  have:=(hr.rhoN hd i).small hd hs
  exact ⟨this.1,this.2.1,this.2.2.1⟩
 ·simp at hg
def aA9:aG
 | [.st [.big a _,.big b _,.big c _],.ref (.st [.big x _,.big y _,.big z _])]=>some (some (a.natAbs<9223372036854775808∧b.natAbs<9223372036854775808∧c.natAbs<9223372036854775808∧x.natAbs<9223372036854775808∧y.natAbs<9223372036854775808∧z.natAbs<9223372036854775808),.ret (.bool (decide (a=x∧b=y∧c=z))))
 | _=>none
theorem aP8 (a b c x y z:Int) (n m k l r u:Nat):((natAbs a<9223372036854775808∧natAbs b<9223372036854775808∧natAbs c<9223372036854775808)∧(natAbs x<9223372036854775808∧natAbs y<9223372036854775808∧natAbs z<9223372036854775808)∧(((IntKind.min i64≤a∧a≤IntKind.max i64)∧(IntKind.min i64≤b∧b≤IntKind.max i64)∧(IntKind.min i64≤c∧c≤IntKind.max i64)∧True)∧(IntKind.min i64≤x∧x≤IntKind.max i64)∧(IntKind.min i64≤y∧y≤IntKind.max i64)∧(IntKind.min i64≤z∧z≤IntKind.max i64)∧True)∧uX [a,b,c] [x,y,z]=decide (a=x∧b=y∧c=z))=aM (aW [aEN] aD) Tryz.f150 [.st [.big a n,.big b m,.big c k],.ref (.st [.big x l,.big y r,.big z u])] (MRes.sat (.ret (.bool (decide (a=x∧b=y∧c=z))))):=by kernel_rfl
theorem aRS:bF Tryz.f150 aA9:=by
 intro ms p r h hp
 unfold aA9 at h
 split at h
 ·rename_i a n b m c k x l y r z u
  cases h
  obtain ⟨h1,h2,h3,h4,h5,h6⟩:=hp
  refine ⟨aW [aEN] aD,?_⟩
  rw [← aP8 a b c x y z n m k l r u]
  have l1:(IntKind.min i64)= -9223372036854775808:=rfl
  have l2:(IntKind.max i64)=9223372036854775807:=rfl
  rw [l1,l2]
  refine ⟨by omega,by omega,by and_intros <;> first|exact ⟨⟩|omega,uN (j7 _ _) ?_⟩
  rw [Z4]
  simp
 ·simp at h
def aJJ:Ctr Tryz.prog:=⟨150,aA9,fun args w=>Tryz.call150 args w,aL cK Tryz.func150 aA9 aRS⟩
def cN (p:Fm→Bool):List Fm→Nat→Int
 | [],_=> -1
 | g::r,i=>cond (p g) (i:Int) (cN p r (i+1))
theorem aLz (p:Fm→Bool) {l:List Fm} {i:Nat} (h:i<l.length):cN p (l.drop i) i=cond (p (l.getD i ⟨0,0,0⟩)) (i:Int) (cN p (l.drop (i+1)) (i+1)):=by
 rw [List.drop_eq_getElem_cons h]
 simp [cN,h]
theorem aNI (p:Fm→Bool) (l:List Fm):cN p (l.drop l.length) l.length= -1:=by simp [cN]
theorem oO (p:Fm→Bool):∀ (l:List Fm) (i:Nat),(cN p l i= -1∧∀ g∈l,p g=false)∨(∃ j,j<l.length∧cN p l i=((i+j:Nat):Int)∧p (l.getD j ⟨0,0,0⟩)=true∧∀ h,h<j→p (l.getD h ⟨0,0,0⟩)=false)
 | [],i=> .inl ⟨rfl,fun g hg=>by simp at hg⟩
 | g::r,i=>by
  cases hg:p g with
  | true=>exact .inr ⟨0,by simp,by simp [cN,hg],hg,fun h hh=>by omega⟩
  | false =>
   have e:cN p (g::r) i=cN p r (i+1):=by simp [cN,hg]
   rcases oO p r (i+1) with ⟨h1,h2⟩|⟨j,h1,h2,h3,h4⟩
   ·refine .inl ⟨e.trans h1,fun x hx=>?_⟩
    rcases List.mem_cons.1 hx with rfl|hx
    ·exact hg
    ·exact h2 x hx
   ·refine .inr ⟨j+1,by simpa using h1,by rw [e,h2];omega,by simpa using h3,fun h hh=>?_⟩
    cases h with
    | zero=>simpa using hg
    | succ h=>simpa using h4 h (by omega)
def jF (x y z:Int) (g:Fm):Bool:=decide (g.A=x∧g.B=y∧g.C=z)
structure sm63 (g:Fm):Prop where
 A:g.A.natAbs<9223372036854775808
 B:g.B.natAbs<9223372036854775808
 C:g.C.natAbs<9223372036854775808
def aTq (l:List Fm) (fn:MV) (p:Fm→Bool):Nat→MS→Option LoopAnn
 | 2,_=>some (.inv WalkI (fun i=>i.i≤l.length∧cN p (l.drop i.i) i.i=cN p l 0) (fun i=>⟨19, [(0,.sl 6 l.length (fL l 1000)),(1,fn),(7,.int .i64 l.length),(8,.int .i64 i.i)], [],0⟩) (fun i=>l.length -i.i))
 | _,_=>none
theorem aSG (l:List Fm) (x y z:Int) (n m k:Nat):((∃ i:WalkI,(i.1≤length l∧cN (jF x y z) (drop (i.1) l) (i.1)=cN (jF x y z) l 0)∧((6=6∧length l=length l∧LeFun (length l) (fL l 1000) (fL l 1000))∧((aE x x n n∧aE y y m m∧aE z z k k∧True)∧True)∧(length l:Int)=(length l:Int)∧0=(i.1:Int)∧True)∧True)∧∀ (i:WalkI),i.1≤length l∧cN (jF x y z) (drop (i.1) l) (i.1)=cN (jF x y z) l 0→bif decide ((i.1:Int)<(length l:Int)) then (0≤(i.1:Int)∧(i.1:Int)<(length l:Int))∧(natAbs (Fm.A (getD l (toNat (i.1:Int)) (Fm.mk 0 0 0)))<9223372036854775808∧natAbs (Fm.B (getD l (toNat (i.1:Int)) (Fm.mk 0 0 0)))<9223372036854775808∧natAbs (Fm.C (getD l (toNat (i.1:Int)) (Fm.mk 0 0 0)))<9223372036854775808∧natAbs x<9223372036854775808∧natAbs y<9223372036854775808∧natAbs z<9223372036854775808)∧bif decide (Fm.A (getD l (toNat (i.1:Int)) (Fm.mk 0 0 0))=x∧Fm.B (getD l (toNat (i.1:Int)) (Fm.mk 0 0 0))=y∧Fm.C (getD l (toNat (i.1:Int)) (Fm.mk 0 0 0))=z) then (i.1:Int)=cN (jF x y z) l 0 else ∃ j:WalkI,(j.1≤length l∧cN (jF x y z) (drop (j.1) l) (j.1)=cN (jF x y z) l 0)∧(((6=6∧length l=length l∧LeFun (length l) (fL l 1000) (fL l 1000))∧((aE x x n n∧aE y y m m∧aE z z k k∧True)∧True)∧(length l:Int)=(length l:Int)∧wrap i64 ((i.1:Int)+1)=(j.1:Int)∧True)∧True)∧length l -j.1<length l -i.1 else (-1)=cN (jF x y z) l 0)=aM (aW [aJJ] (aTq l (.fn 150 [.ref (.st [.big x n,.big y m,.big z k])]) (jF x y z))) Tryz.f149 [.sl 6 l.length (fL l 1000),.fn 150 [.ref (.st [.big x n,.big y m,.big z k])]] (MRes.sat (.ret (.int .i64 (cN (jF x y z) l 0)))):=by kernel_rfl
theorem aRb (l:List Fm) (x y z:Int) (n m k:Nat) (hx:sm63 ⟨x,y,z⟩) (hg:∀ g∈l,sm63 g) (hl:l.length≤1000000000):∃ E:Env Tryz.prog,aM E Tryz.f149 [.sl 6 l.length (fL l 1000),.fn 150 [.ref (.st [.big x n,.big y m,.big z k])]] (MRes.sat (.ret (.int .i64 (cN (jF x y z) l 0)))):=by
 refine ⟨aW [aJJ] (aTq l (.fn 150 [.ref (.st [.big x n,.big y m,.big z k])]) (jF x y z)),?_⟩
 rw [← aSG l x y z n m k]
 refine ⟨⟨⟨0⟩,⟨Z9 _,rfl⟩,?_⟩,fun i hi=>?_⟩
 ·and_intros <;> first|exact ⟨⟩|rfl|exact .inl (Z0 _)|exact LeFun.refl
 obtain ⟨i⟩:=i
 obtain ⟨h1,h2⟩:i≤l.length∧cN (jF x y z) (l.drop i) i=cN (jF x y z) l 0:=hi
 dsimp only
 refine aP Z4 (fun q=>?_) (fun q=>?_)
 ·have hlt:i<l.length:=by omega
  have hs:=aLz (jF x y z) hlt
  rw [h2] at hs
  rw [Z8]
  have hgi:=hg (l.getD i ⟨0,0,0⟩) (by simp [hlt])
  refine ⟨by omega,⟨hgi.A,hgi.B,hgi.C,hx.A,hx.B,hx.C⟩,aP Iff.rfl (fun q2=>?_) (fun q2=>?_)⟩
  ·have e:jF x y z (l.getD i ⟨0,0,0⟩)=true:=q2
   rw [hs,e,Z6]
  ·have e:jF x y z (l.getD i ⟨0,0,0⟩)=false:=by
    cases hb:jF x y z (l.getD i ⟨0,0,0⟩) with
    | true=>exact absurd hb q2
    | false=>rfl
   rw [e,Z5] at hs
   have e5:wrap i64 ((i:Int)+1)=((i+1:Nat):Int):=by rw [bC (by omega) (by omega)];omega
   rw [e5]
   refine ⟨⟨i+1⟩,⟨hlt,hs.symm⟩,?_,by show l.length -(i+1)<l.length -i;omega⟩
   and_intros <;> first|exact ⟨⟩|rfl|exact .inl (Z0 _)|exact LeFun.refl
 ·obtain rfl:i=l.length:=by omega
  rw [← h2,aNI]
def aKB:aG
 | [.sl 6 n f,.fn 150 [.ref (.st [.big x _,.big y _,.big z _])]]=>some (some ((∀ i,i<n→isFm 1000 (f i))∧n≤1000000000∧(∀ g∈cC n f,sm63 g)∧sm63 ⟨x,y,z⟩),.ret (.int .i64 (cN (jF x y z) (cC n f) 0)))
 | _=>none
theorem aWs:∀ ms p r,aKB ms=some (p,r)→p.holds→∃ ms',leV.leVs 0 ms ms'∧∃ E:Env Tryz.prog,aM E Tryz.f149 ms' r.sat:=by
 intro ms p r h hp
 unfold aKB at h
 split at h
 ·rename_i n f x a y b z c
  cases h
  obtain ⟨h1,h2,h3,h4⟩:=hp
  exact ⟨[.sl 6 (cC n f).length (fL (cC n f) 1000),.fn 150 [.ref (.st [.big x a,.big y b,.big z c])]],⟨⟨rfl,(vB n f).symm,aNL h1⟩,⟨⟨⟨rfl,.inl (Z0 _)⟩,⟨rfl,.inl (Z0 _)⟩,⟨rfl,.inl (Z0 _)⟩,⟨⟩⟩,⟨⟩⟩,⟨⟩⟩,aRb _ x y z a b c h4 h3 (by rw [vB];exact h2)⟩
 ·simp at h
def aTs:Ctr Tryz.prog:=⟨149,aKB,fun args w=>Tryz.call149 args w,qI cK Tryz.func149 aKB aWs⟩
def w9 (f g:Fm):Int:=cN (jF (aC g).A (aC g).B (aC g).C) (cyL f) 0
def jN (f g:Fm):Bool:=decide (aX f.disc=0∧aX g.disc=0∧0≤w9 f g∧f.disc=g.disc)
def gW (f g:Fm):Mx:=if jN f g=true then ((bL f).mul (aI (aF (aC f).disc) (w9 f g).toNat (aC f))).mul (bL g).inv else ⟨0,0,0,0⟩
def rF (f:Fm) (V W:Nat):Nat:=aZ V+bG (aC f)+aZ W+2
def aAK:aG
 | [.st [.big a n,.big b m,.big c k],.st [.big x l,.big y r,.big z u]]=>some (some (n≤300∧m≤300∧k≤300∧l≤300∧r≤300∧u≤300),.ret (.tup [zL (gW ⟨a,b,c⟩ ⟨x,y,z⟩) (rF ⟨a,b,c⟩ (bV n m k) (bV l r u)),.bool (jN ⟨a,b,c⟩ ⟨x,y,z⟩)]))
 | _=>none
theorem aPD (a b c x y z:Int) (n m k l r u:Nat):((n≤300∧m≤300∧k≤300)∧(l≤300∧r≤300∧u≤300)∧bif aX (Fm.disc (Fm.mk a b c)) != 0 then MLe (Mx.mk 0 0 0 0) (gW (Fm.mk a b c) (Fm.mk x y z)) 0 (rF (Fm.mk a b c) (bV n m k) (bV l r u))∧false=jN (Fm.mk a b c) (Fm.mk x y z)∧True else bif aX (Fm.disc (Fm.mk x y z)) != 0 then MLe (Mx.mk 0 0 0 0) (gW (Fm.mk a b c) (Fm.mk x y z)) 0 (rF (Fm.mk a b c) (bV n m k) (bV l r u))∧false=jN (Fm.mk a b c) (Fm.mk x y z)∧True else (jY (aC (Fm.mk a b c))=true∧bV n m k≤10000∧bV n m k≤10000∧bV n m k≤10000)∧((∀ (i:Nat),i<bB (aC (Fm.mk a b c))→isFm 1000 (g6 (rhoN (aF (Fm.disc (aC (Fm.mk a b c)))) i (aC (Fm.mk a b c))) 8))∧bB (aC (Fm.mk a b c))≤1000000000∧(∀ (g:Fm),(g∈cC (bB (aC (Fm.mk a b c))) fun j=>g6 (rhoN (aF (Fm.disc (aC (Fm.mk a b c)))) j (aC (Fm.mk a b c))) 8)→sm63 g)∧sm63 (aC (Fm.mk x y z)))∧bif decide (cN (jF (Fm.A (aC (Fm.mk x y z))) (Fm.B (aC (Fm.mk x y z))) (Fm.C (aC (Fm.mk x y z)))) (cC (bB (aC (Fm.mk a b c))) fun j=>g6 (rhoN (aF (Fm.disc (aC (Fm.mk a b c)))) j (aC (Fm.mk a b c))) 8) 0<0) then MLe (Mx.mk 0 0 0 0) (gW (Fm.mk a b c) (Fm.mk x y z)) 0 (rF (Fm.mk a b c) (bV n m k) (bV l r u))∧false=jN (Fm.mk a b c) (Fm.mk x y z)∧True else (n≤100000∧m≤100000∧k≤100000)∧(l≤100000∧r≤100000∧u≤100000)∧(2*a7 n m k+66≤1000000∧2*a7 l r u+66≤1000000)∧bif aQ (Fm.disc (Fm.mk a b c)) (Fm.disc (Fm.mk x y z)) != 0 then MLe (Mx.mk 0 0 0 0) (gW (Fm.mk a b c) (Fm.mk x y z)) 0 (rF (Fm.mk a b c) (bV n m k) (bV l r u))∧false=jN (Fm.mk a b c) (Fm.mk x y z)∧True else aZ (bV l r u)≤1000000∧aZ (bV l r u)≤1000000∧(0≤cN (jF (Fm.A (aC (Fm.mk x y z))) (Fm.B (aC (Fm.mk x y z))) (Fm.C (aC (Fm.mk x y z)))) (cC (bB (aC (Fm.mk a b c))) fun j=>g6 (rhoN (aF (Fm.disc (aC (Fm.mk a b c)))) j (aC (Fm.mk a b c))) 8) 0∧cN (jF (Fm.A (aC (Fm.mk x y z))) (Fm.B (aC (Fm.mk x y z))) (Fm.C (aC (Fm.mk x y z)))) (cC (bB (aC (Fm.mk a b c))) fun j=>g6 (rhoN (aF (Fm.disc (aC (Fm.mk a b c)))) j (aC (Fm.mk a b c))) 8) 0<(bB (aC (Fm.mk a b c)):Int))∧bP (aZ (bV n m k)) (aZ (bV n m k)) (aZ (bV n m k)) (aZ (bV n m k))+bP (bG (aC (Fm.mk a b c))) (bG (aC (Fm.mk a b c))) (bG (aC (Fm.mk a b c))) (bG (aC (Fm.mk a b c)))≤900000∧bP (bP (aZ (bV n m k)) (aZ (bV n m k)) (aZ (bV n m k)) (aZ (bV n m k))+bP (bG (aC (Fm.mk a b c))) (bG (aC (Fm.mk a b c))) (bG (aC (Fm.mk a b c))) (bG (aC (Fm.mk a b c)))+1) (bP (aZ (bV n m k)) (aZ (bV n m k)) (aZ (bV n m k)) (aZ (bV n m k))+bP (bG (aC (Fm.mk a b c))) (bG (aC (Fm.mk a b c))) (bG (aC (Fm.mk a b c))) (bG (aC (Fm.mk a b c)))+1) (bP (aZ (bV n m k)) (aZ (bV n m k)) (aZ (bV n m k)) (aZ (bV n m k))+bP (bG (aC (Fm.mk a b c))) (bG (aC (Fm.mk a b c))) (bG (aC (Fm.mk a b c))) (bG (aC (Fm.mk a b c)))+1) (bP (aZ (bV n m k)) (aZ (bV n m k)) (aZ (bV n m k)) (aZ (bV n m k))+bP (bG (aC (Fm.mk a b c))) (bG (aC (Fm.mk a b c))) (bG (aC (Fm.mk a b c))) (bG (aC (Fm.mk a b c)))+1)+bP (aZ (bV l r u)) (aZ (bV l r u)) (aZ (bV l r u)) (aZ (bV l r u))≤900000∧(((Mx.a (bL (Fm.mk a b c))*Mx.a (aI (aF (Fm.disc (aC (Fm.mk a b c)))) (toNat (cN (jF (Fm.A (aC (Fm.mk x y z))) (Fm.B (aC (Fm.mk x y z))) (Fm.C (aC (Fm.mk x y z)))) (cC (bB (aC (Fm.mk a b c))) fun j=>g6 (rhoN (aF (Fm.disc (aC (Fm.mk a b c)))) j (aC (Fm.mk a b c))) 8) 0)) (aC (Fm.mk a b c)))+Mx.b (bL (Fm.mk a b c))*Mx.c (aI (aF (Fm.disc (aC (Fm.mk a b c)))) (toNat (cN (jF (Fm.A (aC (Fm.mk x y z))) (Fm.B (aC (Fm.mk x y z))) (Fm.C (aC (Fm.mk x y z)))) (cC (bB (aC (Fm.mk a b c))) fun j=>g6 (rhoN (aF (Fm.disc (aC (Fm.mk a b c)))) j (aC (Fm.mk a b c))) 8) 0)) (aC (Fm.mk a b c))))*Mx.d (bL (Fm.mk x y z))+(Mx.a (bL (Fm.mk a b c))*Mx.b (aI (aF (Fm.disc (aC (Fm.mk a b c)))) (toNat (cN (jF (Fm.A (aC (Fm.mk x y z))) (Fm.B (aC (Fm.mk x y z))) (Fm.C (aC (Fm.mk x y z)))) (cC (bB (aC (Fm.mk a b c))) fun j=>g6 (rhoN (aF (Fm.disc (aC (Fm.mk a b c)))) j (aC (Fm.mk a b c))) 8) 0)) (aC (Fm.mk a b c)))+Mx.b (bL (Fm.mk a b c))*Mx.d (aI (aF (Fm.disc (aC (Fm.mk a b c)))) (toNat (cN (jF (Fm.A (aC (Fm.mk x y z))) (Fm.B (aC (Fm.mk x y z))) (Fm.C (aC (Fm.mk x y z)))) (cC (bB (aC (Fm.mk a b c))) fun j=>g6 (rhoN (aF (Fm.disc (aC (Fm.mk a b c)))) j (aC (Fm.mk a b c))) 8) 0)) (aC (Fm.mk a b c))))* -Mx.c (bL (Fm.mk x y z))=Mx.a (gW (Fm.mk a b c) (Fm.mk x y z))∧(bP (bP (aZ (bV n m k)) (aZ (bV n m k)) (aZ (bV n m k)) (aZ (bV n m k))+bP (bG (aC (Fm.mk a b c))) (bG (aC (Fm.mk a b c))) (bG (aC (Fm.mk a b c))) (bG (aC (Fm.mk a b c)))+1) (bP (aZ (bV n m k)) (aZ (bV n m k)) (aZ (bV n m k)) (aZ (bV n m k))+bP (bG (aC (Fm.mk a b c))) (bG (aC (Fm.mk a b c))) (bG (aC (Fm.mk a b c))) (bG (aC (Fm.mk a b c)))+1) (bP (aZ (bV n m k)) (aZ (bV n m k)) (aZ (bV n m k)) (aZ (bV n m k))+bP (bG (aC (Fm.mk a b c))) (bG (aC (Fm.mk a b c))) (bG (aC (Fm.mk a b c))) (bG (aC (Fm.mk a b c)))+1) (bP (aZ (bV n m k)) (aZ (bV n m k)) (aZ (bV n m k)) (aZ (bV n m k))+bP (bG (aC (Fm.mk a b c))) (bG (aC (Fm.mk a b c))) (bG (aC (Fm.mk a b c))) (bG (aC (Fm.mk a b c)))+1)+bP (aZ (bV l r u)) (aZ (bV l r u)) (aZ (bV l r u)) (aZ (bV l r u))+1≤rF (Fm.mk a b c) (bV n m k) (bV l r u)∨natAbs ((Mx.a (bL (Fm.mk a b c))*Mx.a (aI (aF (Fm.disc (aC (Fm.mk a b c)))) (toNat (cN (jF (Fm.A (aC (Fm.mk x y z))) (Fm.B (aC (Fm.mk x y z))) (Fm.C (aC (Fm.mk x y z)))) (cC (bB (aC (Fm.mk a b c))) fun j=>g6 (rhoN (aF (Fm.disc (aC (Fm.mk a b c)))) j (aC (Fm.mk a b c))) 8) 0)) (aC (Fm.mk a b c)))+Mx.b (bL (Fm.mk a b c))*Mx.c (aI (aF (Fm.disc (aC (Fm.mk a b c)))) (toNat (cN (jF (Fm.A (aC (Fm.mk x y z))) (Fm.B (aC (Fm.mk x y z))) (Fm.C (aC (Fm.mk x y z)))) (cC (bB (aC (Fm.mk a b c))) fun j=>g6 (rhoN (aF (Fm.disc (aC (Fm.mk a b c)))) j (aC (Fm.mk a b c))) 8) 0)) (aC (Fm.mk a b c))))*Mx.d (bL (Fm.mk x y z))+(Mx.a (bL (Fm.mk a b c))*Mx.b (aI (aF (Fm.disc (aC (Fm.mk a b c)))) (toNat (cN (jF (Fm.A (aC (Fm.mk x y z))) (Fm.B (aC (Fm.mk x y z))) (Fm.C (aC (Fm.mk x y z)))) (cC (bB (aC (Fm.mk a b c))) fun j=>g6 (rhoN (aF (Fm.disc (aC (Fm.mk a b c)))) j (aC (Fm.mk a b c))) 8) 0)) (aC (Fm.mk a b c)))+Mx.b (bL (Fm.mk a b c))*Mx.d (aI (aF (Fm.disc (aC (Fm.mk a b c)))) (toNat (cN (jF (Fm.A (aC (Fm.mk x y z))) (Fm.B (aC (Fm.mk x y z))) (Fm.C (aC (Fm.mk x y z)))) (cC (bB (aC (Fm.mk a b c))) fun j=>g6 (rhoN (aF (Fm.disc (aC (Fm.mk a b c)))) j (aC (Fm.mk a b c))) 8) 0)) (aC (Fm.mk a b c))))* -Mx.c (bL (Fm.mk x y z)))<2^rF (Fm.mk a b c) (bV n m k) (bV l r u)))∧((Mx.a (bL (Fm.mk a b c))*Mx.a (aI (aF (Fm.disc (aC (Fm.mk a b c)))) (toNat (cN (jF (Fm.A (aC (Fm.mk x y z))) (Fm.B (aC (Fm.mk x y z))) (Fm.C (aC (Fm.mk x y z)))) (cC (bB (aC (Fm.mk a b c))) fun j=>g6 (rhoN (aF (Fm.disc (aC (Fm.mk a b c)))) j (aC (Fm.mk a b c))) 8) 0)) (aC (Fm.mk a b c)))+Mx.b (bL (Fm.mk a b c))*Mx.c (aI (aF (Fm.disc (aC (Fm.mk a b c)))) (toNat (cN (jF (Fm.A (aC (Fm.mk x y z))) (Fm.B (aC (Fm.mk x y z))) (Fm.C (aC (Fm.mk x y z)))) (cC (bB (aC (Fm.mk a b c))) fun j=>g6 (rhoN (aF (Fm.disc (aC (Fm.mk a b c)))) j (aC (Fm.mk a b c))) 8) 0)) (aC (Fm.mk a b c))))* -Mx.b (bL (Fm.mk x y z))+(Mx.a (bL (Fm.mk a b c))*Mx.b (aI (aF (Fm.disc (aC (Fm.mk a b c)))) (toNat (cN (jF (Fm.A (aC (Fm.mk x y z))) (Fm.B (aC (Fm.mk x y z))) (Fm.C (aC (Fm.mk x y z)))) (cC (bB (aC (Fm.mk a b c))) fun j=>g6 (rhoN (aF (Fm.disc (aC (Fm.mk a b c)))) j (aC (Fm.mk a b c))) 8) 0)) (aC (Fm.mk a b c)))+Mx.b (bL (Fm.mk a b c))*Mx.d (aI (aF (Fm.disc (aC (Fm.mk a b c)))) (toNat (cN (jF (Fm.A (aC (Fm.mk x y z))) (Fm.B (aC (Fm.mk x y z))) (Fm.C (aC (Fm.mk x y z)))) (cC (bB (aC (Fm.mk a b c))) fun j=>g6 (rhoN (aF (Fm.disc (aC (Fm.mk a b c)))) j (aC (Fm.mk a b c))) 8) 0)) (aC (Fm.mk a b c))))*Mx.a (bL (Fm.mk x y z))=Mx.b (gW (Fm.mk a b c) (Fm.mk x y z))∧(bP (bP (aZ (bV n m k)) (aZ (bV n m k)) (aZ (bV n m k)) (aZ (bV n m k))+bP (bG (aC (Fm.mk a b c))) (bG (aC (Fm.mk a b c))) (bG (aC (Fm.mk a b c))) (bG (aC (Fm.mk a b c)))+1) (bP (aZ (bV n m k)) (aZ (bV n m k)) (aZ (bV n m k)) (aZ (bV n m k))+bP (bG (aC (Fm.mk a b c))) (bG (aC (Fm.mk a b c))) (bG (aC (Fm.mk a b c))) (bG (aC (Fm.mk a b c)))+1) (bP (aZ (bV n m k)) (aZ (bV n m k)) (aZ (bV n m k)) (aZ (bV n m k))+bP (bG (aC (Fm.mk a b c))) (bG (aC (Fm.mk a b c))) (bG (aC (Fm.mk a b c))) (bG (aC (Fm.mk a b c)))+1) (bP (aZ (bV n m k)) (aZ (bV n m k)) (aZ (bV n m k)) (aZ (bV n m k))+bP (bG (aC (Fm.mk a b c))) (bG (aC (Fm.mk a b c))) (bG (aC (Fm.mk a b c))) (bG (aC (Fm.mk a b c)))+1)+bP (aZ (bV l r u)) (aZ (bV l r u)) (aZ (bV l r u)) (aZ (bV l r u))+1≤rF (Fm.mk a b c) (bV n m k) (bV l r u)∨natAbs ((Mx.a (bL (Fm.mk a b c))*Mx.a (aI (aF (Fm.disc (aC (Fm.mk a b c)))) (toNat (cN (jF (Fm.A (aC (Fm.mk x y z))) (Fm.B (aC (Fm.mk x y z))) (Fm.C (aC (Fm.mk x y z)))) (cC (bB (aC (Fm.mk a b c))) fun j=>g6 (rhoN (aF (Fm.disc (aC (Fm.mk a b c)))) j (aC (Fm.mk a b c))) 8) 0)) (aC (Fm.mk a b c)))+Mx.b (bL (Fm.mk a b c))*Mx.c (aI (aF (Fm.disc (aC (Fm.mk a b c)))) (toNat (cN (jF (Fm.A (aC (Fm.mk x y z))) (Fm.B (aC (Fm.mk x y z))) (Fm.C (aC (Fm.mk x y z)))) (cC (bB (aC (Fm.mk a b c))) fun j=>g6 (rhoN (aF (Fm.disc (aC (Fm.mk a b c)))) j (aC (Fm.mk a b c))) 8) 0)) (aC (Fm.mk a b c))))* -Mx.b (bL (Fm.mk x y z))+(Mx.a (bL (Fm.mk a b c))*Mx.b (aI (aF (Fm.disc (aC (Fm.mk a b c)))) (toNat (cN (jF (Fm.A (aC (Fm.mk x y z))) (Fm.B (aC (Fm.mk x y z))) (Fm.C (aC (Fm.mk x y z)))) (cC (bB (aC (Fm.mk a b c))) fun j=>g6 (rhoN (aF (Fm.disc (aC (Fm.mk a b c)))) j (aC (Fm.mk a b c))) 8) 0)) (aC (Fm.mk a b c)))+Mx.b (bL (Fm.mk a b c))*Mx.d (aI (aF (Fm.disc (aC (Fm.mk a b c)))) (toNat (cN (jF (Fm.A (aC (Fm.mk x y z))) (Fm.B (aC (Fm.mk x y z))) (Fm.C (aC (Fm.mk x y z)))) (cC (bB (aC (Fm.mk a b c))) fun j=>g6 (rhoN (aF (Fm.disc (aC (Fm.mk a b c)))) j (aC (Fm.mk a b c))) 8) 0)) (aC (Fm.mk a b c))))*Mx.a (bL (Fm.mk x y z)))<2^rF (Fm.mk a b c) (bV n m k) (bV l r u)))∧((Mx.c (bL (Fm.mk a b c))*Mx.a (aI (aF (Fm.disc (aC (Fm.mk a b c)))) (toNat (cN (jF (Fm.A (aC (Fm.mk x y z))) (Fm.B (aC (Fm.mk x y z))) (Fm.C (aC (Fm.mk x y z)))) (cC (bB (aC (Fm.mk a b c))) fun j=>g6 (rhoN (aF (Fm.disc (aC (Fm.mk a b c)))) j (aC (Fm.mk a b c))) 8) 0)) (aC (Fm.mk a b c)))+Mx.d (bL (Fm.mk a b c))*Mx.c (aI (aF (Fm.disc (aC (Fm.mk a b c)))) (toNat (cN (jF (Fm.A (aC (Fm.mk x y z))) (Fm.B (aC (Fm.mk x y z))) (Fm.C (aC (Fm.mk x y z)))) (cC (bB (aC (Fm.mk a b c))) fun j=>g6 (rhoN (aF (Fm.disc (aC (Fm.mk a b c)))) j (aC (Fm.mk a b c))) 8) 0)) (aC (Fm.mk a b c))))*Mx.d (bL (Fm.mk x y z))+(Mx.c (bL (Fm.mk a b c))*Mx.b (aI (aF (Fm.disc (aC (Fm.mk a b c)))) (toNat (cN (jF (Fm.A (aC (Fm.mk x y z))) (Fm.B (aC (Fm.mk x y z))) (Fm.C (aC (Fm.mk x y z)))) (cC (bB (aC (Fm.mk a b c))) fun j=>g6 (rhoN (aF (Fm.disc (aC (Fm.mk a b c)))) j (aC (Fm.mk a b c))) 8) 0)) (aC (Fm.mk a b c)))+Mx.d (bL (Fm.mk a b c))*Mx.d (aI (aF (Fm.disc (aC (Fm.mk a b c)))) (toNat (cN (jF (Fm.A (aC (Fm.mk x y z))) (Fm.B (aC (Fm.mk x y z))) (Fm.C (aC (Fm.mk x y z)))) (cC (bB (aC (Fm.mk a b c))) fun j=>g6 (rhoN (aF (Fm.disc (aC (Fm.mk a b c)))) j (aC (Fm.mk a b c))) 8) 0)) (aC (Fm.mk a b c))))* -Mx.c (bL (Fm.mk x y z))=Mx.c (gW (Fm.mk a b c) (Fm.mk x y z))∧(bP (bP (aZ (bV n m k)) (aZ (bV n m k)) (aZ (bV n m k)) (aZ (bV n m k))+bP (bG (aC (Fm.mk a b c))) (bG (aC (Fm.mk a b c))) (bG (aC (Fm.mk a b c))) (bG (aC (Fm.mk a b c)))+1) (bP (aZ (bV n m k)) (aZ (bV n m k)) (aZ (bV n m k)) (aZ (bV n m k))+bP (bG (aC (Fm.mk a b c))) (bG (aC (Fm.mk a b c))) (bG (aC (Fm.mk a b c))) (bG (aC (Fm.mk a b c)))+1) (bP (aZ (bV n m k)) (aZ (bV n m k)) (aZ (bV n m k)) (aZ (bV n m k))+bP (bG (aC (Fm.mk a b c))) (bG (aC (Fm.mk a b c))) (bG (aC (Fm.mk a b c))) (bG (aC (Fm.mk a b c)))+1) (bP (aZ (bV n m k)) (aZ (bV n m k)) (aZ (bV n m k)) (aZ (bV n m k))+bP (bG (aC (Fm.mk a b c))) (bG (aC (Fm.mk a b c))) (bG (aC (Fm.mk a b c))) (bG (aC (Fm.mk a b c)))+1)+bP (aZ (bV l r u)) (aZ (bV l r u)) (aZ (bV l r u)) (aZ (bV l r u))+1≤rF (Fm.mk a b c) (bV n m k) (bV l r u)∨natAbs ((Mx.c (bL (Fm.mk a b c))*Mx.a (aI (aF (Fm.disc (aC (Fm.mk a b c)))) (toNat (cN (jF (Fm.A (aC (Fm.mk x y z))) (Fm.B (aC (Fm.mk x y z))) (Fm.C (aC (Fm.mk x y z)))) (cC (bB (aC (Fm.mk a b c))) fun j=>g6 (rhoN (aF (Fm.disc (aC (Fm.mk a b c)))) j (aC (Fm.mk a b c))) 8) 0)) (aC (Fm.mk a b c)))+Mx.d (bL (Fm.mk a b c))*Mx.c (aI (aF (Fm.disc (aC (Fm.mk a b c)))) (toNat (cN (jF (Fm.A (aC (Fm.mk x y z))) (Fm.B (aC (Fm.mk x y z))) (Fm.C (aC (Fm.mk x y z)))) (cC (bB (aC (Fm.mk a b c))) fun j=>g6 (rhoN (aF (Fm.disc (aC (Fm.mk a b c)))) j (aC (Fm.mk a b c))) 8) 0)) (aC (Fm.mk a b c))))*Mx.d (bL (Fm.mk x y z))+(Mx.c (bL (Fm.mk a b c))*Mx.b (aI (aF (Fm.disc (aC (Fm.mk a b c)))) (toNat (cN (jF (Fm.A (aC (Fm.mk x y z))) (Fm.B (aC (Fm.mk x y z))) (Fm.C (aC (Fm.mk x y z)))) (cC (bB (aC (Fm.mk a b c))) fun j=>g6 (rhoN (aF (Fm.disc (aC (Fm.mk a b c)))) j (aC (Fm.mk a b c))) 8) 0)) (aC (Fm.mk a b c)))+Mx.d (bL (Fm.mk a b c))*Mx.d (aI (aF (Fm.disc (aC (Fm.mk a b c)))) (toNat (cN (jF (Fm.A (aC (Fm.mk x y z))) (Fm.B (aC (Fm.mk x y z))) (Fm.C (aC (Fm.mk x y z)))) (cC (bB (aC (Fm.mk a b c))) fun j=>g6 (rhoN (aF (Fm.disc (aC (Fm.mk a b c)))) j (aC (Fm.mk a b c))) 8) 0)) (aC (Fm.mk a b c))))* -Mx.c (bL (Fm.mk x y z)))<2^rF (Fm.mk a b c) (bV n m k) (bV l r u)))∧((Mx.c (bL (Fm.mk a b c))*Mx.a (aI (aF (Fm.disc (aC (Fm.mk a b c)))) (toNat (cN (jF (Fm.A (aC (Fm.mk x y z))) (Fm.B (aC (Fm.mk x y z))) (Fm.C (aC (Fm.mk x y z)))) (cC (bB (aC (Fm.mk a b c))) fun j=>g6 (rhoN (aF (Fm.disc (aC (Fm.mk a b c)))) j (aC (Fm.mk a b c))) 8) 0)) (aC (Fm.mk a b c)))+Mx.d (bL (Fm.mk a b c))*Mx.c (aI (aF (Fm.disc (aC (Fm.mk a b c)))) (toNat (cN (jF (Fm.A (aC (Fm.mk x y z))) (Fm.B (aC (Fm.mk x y z))) (Fm.C (aC (Fm.mk x y z)))) (cC (bB (aC (Fm.mk a b c))) fun j=>g6 (rhoN (aF (Fm.disc (aC (Fm.mk a b c)))) j (aC (Fm.mk a b c))) 8) 0)) (aC (Fm.mk a b c))))* -Mx.b (bL (Fm.mk x y z))+(Mx.c (bL (Fm.mk a b c))*Mx.b (aI (aF (Fm.disc (aC (Fm.mk a b c)))) (toNat (cN (jF (Fm.A (aC (Fm.mk x y z))) (Fm.B (aC (Fm.mk x y z))) (Fm.C (aC (Fm.mk x y z)))) (cC (bB (aC (Fm.mk a b c))) fun j=>g6 (rhoN (aF (Fm.disc (aC (Fm.mk a b c)))) j (aC (Fm.mk a b c))) 8) 0)) (aC (Fm.mk a b c)))+Mx.d (bL (Fm.mk a b c))*Mx.d (aI (aF (Fm.disc (aC (Fm.mk a b c)))) (toNat (cN (jF (Fm.A (aC (Fm.mk x y z))) (Fm.B (aC (Fm.mk x y z))) (Fm.C (aC (Fm.mk x y z)))) (cC (bB (aC (Fm.mk a b c))) fun j=>g6 (rhoN (aF (Fm.disc (aC (Fm.mk a b c)))) j (aC (Fm.mk a b c))) 8) 0)) (aC (Fm.mk a b c))))*Mx.a (bL (Fm.mk x y z))=Mx.d (gW (Fm.mk a b c) (Fm.mk x y z))∧(bP (bP (aZ (bV n m k)) (aZ (bV n m k)) (aZ (bV n m k)) (aZ (bV n m k))+bP (bG (aC (Fm.mk a b c))) (bG (aC (Fm.mk a b c))) (bG (aC (Fm.mk a b c))) (bG (aC (Fm.mk a b c)))+1) (bP (aZ (bV n m k)) (aZ (bV n m k)) (aZ (bV n m k)) (aZ (bV n m k))+bP (bG (aC (Fm.mk a b c))) (bG (aC (Fm.mk a b c))) (bG (aC (Fm.mk a b c))) (bG (aC (Fm.mk a b c)))+1) (bP (aZ (bV n m k)) (aZ (bV n m k)) (aZ (bV n m k)) (aZ (bV n m k))+bP (bG (aC (Fm.mk a b c))) (bG (aC (Fm.mk a b c))) (bG (aC (Fm.mk a b c))) (bG (aC (Fm.mk a b c)))+1) (bP (aZ (bV n m k)) (aZ (bV n m k)) (aZ (bV n m k)) (aZ (bV n m k))+bP (bG (aC (Fm.mk a b c))) (bG (aC (Fm.mk a b c))) (bG (aC (Fm.mk a b c))) (bG (aC (Fm.mk a b c)))+1)+bP (aZ (bV l r u)) (aZ (bV l r u)) (aZ (bV l r u)) (aZ (bV l r u))+1≤rF (Fm.mk a b c) (bV n m k) (bV l r u)∨natAbs ((Mx.c (bL (Fm.mk a b c))*Mx.a (aI (aF (Fm.disc (aC (Fm.mk a b c)))) (toNat (cN (jF (Fm.A (aC (Fm.mk x y z))) (Fm.B (aC (Fm.mk x y z))) (Fm.C (aC (Fm.mk x y z)))) (cC (bB (aC (Fm.mk a b c))) fun j=>g6 (rhoN (aF (Fm.disc (aC (Fm.mk a b c)))) j (aC (Fm.mk a b c))) 8) 0)) (aC (Fm.mk a b c)))+Mx.d (bL (Fm.mk a b c))*Mx.c (aI (aF (Fm.disc (aC (Fm.mk a b c)))) (toNat (cN (jF (Fm.A (aC (Fm.mk x y z))) (Fm.B (aC (Fm.mk x y z))) (Fm.C (aC (Fm.mk x y z)))) (cC (bB (aC (Fm.mk a b c))) fun j=>g6 (rhoN (aF (Fm.disc (aC (Fm.mk a b c)))) j (aC (Fm.mk a b c))) 8) 0)) (aC (Fm.mk a b c))))* -Mx.b (bL (Fm.mk x y z))+(Mx.c (bL (Fm.mk a b c))*Mx.b (aI (aF (Fm.disc (aC (Fm.mk a b c)))) (toNat (cN (jF (Fm.A (aC (Fm.mk x y z))) (Fm.B (aC (Fm.mk x y z))) (Fm.C (aC (Fm.mk x y z)))) (cC (bB (aC (Fm.mk a b c))) fun j=>g6 (rhoN (aF (Fm.disc (aC (Fm.mk a b c)))) j (aC (Fm.mk a b c))) 8) 0)) (aC (Fm.mk a b c)))+Mx.d (bL (Fm.mk a b c))*Mx.d (aI (aF (Fm.disc (aC (Fm.mk a b c)))) (toNat (cN (jF (Fm.A (aC (Fm.mk x y z))) (Fm.B (aC (Fm.mk x y z))) (Fm.C (aC (Fm.mk x y z)))) (cC (bB (aC (Fm.mk a b c))) fun j=>g6 (rhoN (aF (Fm.disc (aC (Fm.mk a b c)))) j (aC (Fm.mk a b c))) 8) 0)) (aC (Fm.mk a b c))))*Mx.a (bL (Fm.mk x y z)))<2^rF (Fm.mk a b c) (bV n m k) (bV l r u)))∧True)∧true=jN (Fm.mk a b c) (Fm.mk x y z)∧True)=aM (aW [xO,aGb,aTs,dS,mM,kZ,uR] aD) Tryz.f108 [.st [.big a n,.big b m,.big c k],.st [.big x l,.big y r,.big z u]] (MRes.sat (.ret (.tup [zL (gW ⟨a,b,c⟩ ⟨x,y,z⟩) (rF ⟨a,b,c⟩ (bV n m k) (bV l r u)),.bool (jN ⟨a,b,c⟩ ⟨x,y,z⟩)]))):=by kernel_rfl
theorem aRo:bF Tryz.f108 aAK:=by
 intro ms p r h hp
 unfold aAK at h
 split at h
 ·rename_i a n b m c k x l y r z u
  cases h
  obtain ⟨h1,h2,h3,h4,h5,h6⟩:=hp
  refine ⟨aW [xO,aGb,aTs,dS,mM,kZ,uR] aD,?_⟩
  rw [← aPD a b c x y z n m k l r u]
  have er:∀ p:Prop,jN ⟨a,b,c⟩ ⟨x,y,z⟩=false→(gW ⟨a,b,c⟩ ⟨x,y,z⟩=⟨0,0,0,0⟩→false=jN ⟨a,b,c⟩ ⟨x,y,z⟩→p)→p:=fun p h k=>k (if_neg (by rw [h];simp)) h.symm
  have m3:a7 n m k=max n (max m k):=rfl
  have m4:a7 l r u=max l (max r u):=rfl
  have hw:bV n m k≤300:=by unfold bV;omega
  have hw2:bV l r u≤300:=by unfold bV;omega
  have hb1:aZ (bV n m k)≤90601:=by
   have:=Nat.mul_le_mul (show bV n m k+2≤302 by omega) hw
   unfold aZ
   omega
  have hb2:aZ (bV l r u)≤90601:=by
   have:=Nat.mul_le_mul (show bV l r u+2≤302 by omega) hw2
   unfold aZ
   omega
  refine ⟨by omega,by omega,aP bne_iff_ne (fun q=>?_) (fun q=>?_)⟩
  ·refine er _ (Y1 fun h=>q h.1) fun e1 e2=>?_
   rw [e1]
   exact ⟨⟨⟨rfl,.inl (Z9 _)⟩,⟨rfl,.inl (Z9 _)⟩,⟨rfl,.inl (Z9 _)⟩,⟨rfl,.inl (Z9 _)⟩,⟨⟩⟩,e2,⟨⟩⟩
  refine aP bne_iff_ne (fun q2=>?_) (fun q2=>?_)
  ·refine er _ (Y1 fun h=>q2 h.2.1) fun e1 e2=>?_
   rw [e1]
   exact ⟨⟨⟨rfl,.inl (Z9 _)⟩,⟨rfl,.inl (Z9 _)⟩,⟨rfl,.inl (Z9 _)⟩,⟨rfl,.inl (Z9 _)⟩,⟨⟩⟩,e2,⟨⟩⟩
  have q:=Decidable.not_not.1 q
  have q2:=Decidable.not_not.1 q2
  have ec:cyL ⟨a,b,c⟩=(List.range (bB (aC ⟨a,b,c⟩))).map fun j=>rhoN (aF (aC ⟨a,b,c⟩).disc) j (aC ⟨a,b,c⟩):=if_pos q
  have ef:cC (bB (aC ⟨a,b,c⟩)) (fun j=>g6 (rhoN (aF (aC ⟨a,b,c⟩).disc) j (aC ⟨a,b,c⟩)) 8)=cyL ⟨a,b,c⟩:=by rw [aLB,ec]
  have el:(cyL ⟨a,b,c⟩).length=bB (aC ⟨a,b,c⟩):=by rw [ec];simp
  have hl:=aUb ⟨a,b,c⟩
  have hsm:=aLj ⟨a,b,c⟩
  have hsr:sm63 (aC ⟨x,y,z⟩):=by
   obtain ⟨q',hr⟩:=lF.1 (iT q2).1
   obtain ⟨hd,hs,_⟩:=cD q'
   have:=hr.small hd hs
   have e8:(2:Nat)^8=256:=rfl
   exact ⟨by omega,by omega,by omega⟩
  have ei:cN (jF (aC ⟨x,y,z⟩).A (aC ⟨x,y,z⟩).B (aC ⟨x,y,z⟩).C) (cyL ⟨a,b,c⟩) 0=w9 ⟨a,b,c⟩ ⟨x,y,z⟩:=rfl
  rw [ef,ei]
  refine ⟨⟨(iT q).1,by omega,by omega,by omega⟩,⟨fun i _=>aNR _ (by omega),by omega,fun g hg=>?_,hsr⟩,aP Z4 (fun q3=>?_) (fun q3=>?_)⟩
  ·have:=hsm g hg
   have e8:(2:Nat)^8=256:=rfl
   exact ⟨by omega,by omega,by omega⟩
  ·refine er _ (Y1 fun h=>absurd h.2.2.1 (by omega)) fun e1 e2=>?_
   rw [e1]
   exact ⟨⟨⟨rfl,.inl (Z9 _)⟩,⟨rfl,.inl (Z9 _)⟩,⟨rfl,.inl (Z9 _)⟩,⟨rfl,.inl (Z9 _)⟩,⟨⟩⟩,e2,⟨⟩⟩
  refine ⟨by omega,by omega,by omega,aP aV7 (fun q4=>?_) (fun q4=>?_)⟩
  ·refine er _ (Y1 fun h=>q4 h.2.2.2) fun e1 e2=>?_
   rw [e1]
   exact ⟨⟨⟨rfl,.inl (Z9 _)⟩,⟨rfl,.inl (Z9 _)⟩,⟨rfl,.inl (Z9 _)⟩,⟨rfl,.inl (Z9 _)⟩,⟨⟩⟩,e2,⟨⟩⟩
  have e2:jN ⟨a,b,c⟩ ⟨x,y,z⟩=true:=Y0 ⟨q,q2,by omega,Decidable.not_not.1 q4⟩
  have e1:gW ⟨a,b,c⟩ ⟨x,y,z⟩=((bL ⟨a,b,c⟩).mul (aI (aF (aC ⟨a,b,c⟩).disc) (w9 ⟨a,b,c⟩ ⟨x,y,z⟩).toNat (aC ⟨a,b,c⟩))).mul (bL ⟨x,y,z⟩).inv:=if_pos e2
  have hr:w9 ⟨a,b,c⟩ ⟨x,y,z⟩<(cyL ⟨a,b,c⟩).length:=by
   rcases oO (jF (aC ⟨x,y,z⟩).A (aC ⟨x,y,z⟩).B (aC ⟨x,y,z⟩).C) (cyL ⟨a,b,c⟩) 0 with ⟨h1,_⟩|⟨j,h1,h2,_⟩ <;> rw [ei] at* <;> omega
  have hp:bG (aC ⟨a,b,c⟩)=bB (aC ⟨a,b,c⟩)*8+1:=rfl
  have hS:rF ⟨a,b,c⟩ (bV n m k) (bV l r u)=aZ (bV n m k)+bG (aC ⟨a,b,c⟩)+aZ (bV l r u)+2:=rfl
  rw [e1,e2]
  have h44:∀ t,bP t t t t=t:=fun t=>by unfold bP;omega
  rw [h44,h44,h44,h44]
  exact ⟨by omega,by omega,⟨by omega,by omega⟩,by omega,by omega,⟨⟨rfl,.inl (by omega)⟩,⟨rfl,.inl (by omega)⟩,⟨rfl,.inl (by omega)⟩,⟨rfl,.inl (by omega)⟩,⟨⟩⟩,rfl,⟨⟩⟩
 ·simp at h
def aQJ:Ctr Tryz.prog:=⟨108,aAK,fun args w=>Tryz.call108 args w,aL cK Tryz.func108 aAK aRo⟩
def aUt (x:XS) (f:List Int→Bool):Option (Nat×MapC):=match x.mp with
 | some (B,m)=>some (B,⟨m.kt,m.kk,m.n,f,m.vk⟩)
 | none=>none
theorem aGz (a b:List Int):uX a b=uX b a:=uN ((j7 _ _).trans eq_comm) (j7 _ _)
end Go.Proofs.YtihcjnpabcejlaaGreat
