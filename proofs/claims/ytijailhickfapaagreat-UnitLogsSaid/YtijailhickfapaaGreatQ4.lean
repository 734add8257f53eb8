/-
  Contracts of functions: package bound: natural.
-/
import Derived.Test.YtijailhickfapaaGreatQ2
import Derived.Test.YtijailhickfapaaGreatQ3
import Derived.RangeFuncNested
import Derived.RangeFuncLeaves
import Derived.Sort.LoopGhostIn
import Derived.OrdersIn
import Derived.Maps.Keyed
import Derived.WideKeyArr

namespace Go.Proofs.YtijailhickfapaaGreat
open Go Go.RowKit
open Go.IntKind (wrap i64 i32 i16 i8 u64 u32 u16 u8)
open Int (toNat natAbs)
open List (length take drop getD set replicate)
structure Fm where
 A:Int
 B:Int
 C:Int
def Fm.disc (f:Fm):Int:=f.B*f.B -4*f.A*f.C
structure Dis (D s:Int):Prop where
 pos:0<s
 lo:s*s<D
 hi:D<(s+1)*(s+1)
def fC (s B C:Int):Int :=
 if s<(C.natAbs:Int) then (if (C.natAbs:Int)< -B%(2*C.natAbs) then -B%(2*C.natAbs) -2*C.natAbs else -B%(2*C.natAbs))
 else s -(s+B)%(2*C.natAbs)
def dN (s:Int) (f:Fm):Int:=(fC s f.B f.C+f.B)/(2*f.C)
def rho (s:Int) (f:Fm):Fm:=⟨f.C,fC s f.B f.C,f.A -f.B*dN s f+f.C*(dN s f*dN s f)⟩
structure RedF (s:Int) (f:Fm):Prop where
 b0:0<f.B
 b1:f.B≤s
 lo:s<2*f.A.natAbs+f.B
 hi:2*f.A.natAbs -f.B≤s
theorem p5 {s B C:Int}:(2*(C.natAbs:Int)) ∣ fC s B C+B:=by
 unfold fC
 generalize (C.natAbs:Int)=c at *
 have h1:=Int.emod_add_mul_ediv (-B) (2*c)
 have h2:=Int.emod_add_mul_ediv (s+B) (2*c)
 split
 ·split
  ·exact ⟨-(-B/(2*c)) -1,by rw [Int.mul_sub,Int.mul_neg];omega⟩
  ·exact ⟨-(-B/(2*c)),by rw [Int.mul_neg];omega⟩
 ·exact ⟨(s+B)/(2*c),by omega⟩
theorem aAu {s B C:Int}:(2*C) ∣ fC s B C+B:=by
 obtain ⟨q,hq⟩:=p5 (s:=s) (B:=B) (C:=C)
 rcases Int.natAbs_eq C with h|h
 ·exact ⟨q,by rw [hq,← h]⟩
 ·refine ⟨-q,?_⟩
  rw [hq]
  have e:(C.natAbs:Int)= -C:=by omega
  rw [e];grind
theorem hZ {s B C:Int} (hC:C≠0):(s<C.natAbs→ -(C.natAbs:Int)<fC s B C∧fC s B C≤C.natAbs)∧((C.natAbs:Int)≤s→s -2*C.natAbs<fC s B C∧fC s B C≤s):=by
 have hc:(0:Int)<C.natAbs:=by omega
 unfold fC
 generalize (C.natAbs:Int)=c at *
 have h1:=Int.emod_nonneg (-B) (show 2*c≠0 by omega)
 have h2:=Int.emod_lt_of_pos (-B) (show 0<2*c by omega)
 have h3:=Int.emod_nonneg (s+B) (show 2*c≠0 by omega)
 have h4:=Int.emod_lt_of_pos (s+B) (show 0<2*c by omega)
 generalize -B%(2*c)=m at *
 generalize (s+B)%(2*c)=t at *
 refine ⟨fun h=>?_,fun h=>?_⟩
 ·rw [if_pos h]
  split <;> omega
 ·rw [if_neg (by omega)]
  omega
theorem gE {D s:Int} {f:Fm} (h:f.disc=D) (hC:f.C≠0):(rho s f).disc=D:=by
 obtain ⟨q,hq⟩:=aAu (s:=s) (B:=f.B) (C:=f.C)
 have hk:dN s f=q:=by unfold dN;rw [hq];exact Int.mul_ediv_cancel_left _ (by omega)
 have hb:fC s f.B f.C=2*f.C*q -f.B:=by omega
 unfold Fm.disc rho at *
 rw [hk,hb]
 dsimp only
 rw [← h]
 grind
theorem mK {D s:Int} (hd:Dis D s) {f:Fm} (h:f.disc=D) (hr:RedF s f):f.A*f.C<0:=by
 have h1:f.B*f.B≤s*s:=Int.mul_le_mul hr.b1 hr.b1 (Int.le_of_lt hr.b0) (by have:=hd.pos;omega)
 have h2:=hd.lo
 unfold Fm.disc at h
 rw [Int.mul_assoc] at h
 omega
theorem aPa {D s:Int} (hd:Dis D s) {f:Fm} (h:f.disc=D) (hr:RedF s f):4*((f.A.natAbs:Int)*f.C.natAbs)=D -f.B*f.B:=by
 have h1:=mK hd h hr
 have e:((f.A.natAbs:Int)*f.C.natAbs)=((f.A*f.C).natAbs:Int):=by rw [Int.natAbs_mul,Int.natCast_mul]
 unfold Fm.disc at h
 rw [Int.mul_assoc] at h
 rw [e]
 omega
theorem nB {D s:Int} (hd:Dis D s) {f:Fm} (h:f.disc=D) (hr:RedF s f):s<2*f.C.natAbs+f.B∧2*f.C.natAbs -f.B≤s:=by
 have h1:=aPa hd h hr
 obtain ⟨b0,b1,lo,hi⟩:=hr
 have hlo:=hd.lo
 have hhi:=hd.hi
 generalize (f.A.natAbs:Int)=a at *
 generalize hcc:(f.C.natAbs:Int)=c at *
 have hc0:0≤c:=by omega
 generalize f.B=b at *
 constructor
 ·rcases Int.lt_or_le s (2*c+b) with q|q
  ·exact q
  ·exfalso
   have h2:2*a*(2*c)≤(s+b)*(s -b):=Int.mul_le_mul (by omega) (by omega) (by omega) (by omega)
   have h3:2*a*(2*c)=4*(a*c):=by grind
   have h4:(s+b)*(s -b)=s*s -b*b:=by grind
   omega
 ·rcases Int.lt_or_le s (2*c -b) with q|q
  ·exfalso
   have h2:(s+1 -b)*(s+1+b)≤2*a*(2*c):=Int.mul_le_mul (by omega) (by omega) (by omega) (by omega)
   have h3:2*a*(2*c)=4*(a*c):=by grind
   have h4:(s+1 -b)*(s+1+b)=(s+1)*(s+1) -b*b:=by grind
   omega
  ·omega
theorem aPf {D s:Int} (hd:Dis D s) {f:Fm} (h:f.disc=D) (hr:RedF s f):RedF s (rho s f):=by
 have hs:=mK hd h hr
 have hC:f.C≠0:=fun e=>by rw [e,Int.mul_zero] at hs;omega
 obtain ⟨m1,m2⟩:=nB hd h hr
 have hcs:(f.C.natAbs:Int)≤s:=by have:=hr.b1;omega
 obtain ⟨r1,r2⟩:=(hZ (s:=s) (B:=f.B) hC).2 hcs
 obtain ⟨t,ht⟩:=p5 (s:=s) (B:=f.B) (C:=f.C)
 obtain ⟨b0,b1,_,_⟩:=hr
 have hc:(0:Int)<f.C.natAbs:=by omega
 have key:2*(f.C.natAbs:Int) -f.B≤fC s f.B f.C:=by
  rcases Int.lt_or_le 0 t with q|q
  ·have:2*(f.C.natAbs:Int)*1≤2*(f.C.natAbs:Int)*t:=Int.mul_le_mul_of_nonneg_left (by omega) (by omega)
   omega
  ·have:2*(f.C.natAbs:Int)*t≤2*(f.C.natAbs:Int)*0:=Int.mul_le_mul_of_nonneg_left q (by omega)
   omega
 refine ⟨?_,r2,?_,?_⟩
 ·show 0<fC s f.B f.C
  omega
 ·show s<2*(f.C.natAbs:Int)+fC s f.B f.C
  omega
 ·show 2*(f.C.natAbs:Int) -fC s f.B f.C≤s
  omega
theorem aPd {D s:Int} (hd:Dis D s) {f:Fm} (h:f.disc=D) (hr:RedF s f):f.A*(rho s f).A<0:=mK hd h hr
theorem aFt {D s:Int} (hd:Dis D s) {f:Fm} (h:f.disc=D) (hr:RedF s f):f.B=s -(s+(rho s f).B)%(2*(rho s f).A.natAbs):=by
 have hs:=mK hd h hr
 have hC:f.C≠0:=fun e=>by rw [e,Int.mul_zero] at hs;omega
 obtain ⟨m1,m2⟩:=nB hd h hr
 obtain ⟨t,ht⟩:=p5 (s:=s) (B:=f.B) (C:=f.C)
 obtain ⟨b0,b1,_,_⟩:=hr
 have hc:(0:Int)<f.C.natAbs:=by omega
 show f.B=s -(s+fC s f.B f.C)%(2*(f.C.natAbs:Int))
 rw [show s+fC s f.B f.C=(s -f.B)+2*(f.C.natAbs:Int)*t by omega,Int.add_mul_emod_self_left,Int.emod_eq_of_lt (by omega) (by omega)]
 omega
theorem aPe {D s:Int} (hd:Dis D s) {f g:Fm} (hf:f.disc=D) (hg:g.disc=D) (rf:RedF s f) (rg:RedF s g) (h:rho s f=rho s g):f=g:=by
 have b1:=aFt hd hf rf
 have b2:=aFt hd hg rg
 rw [h,← b2] at b1
 have c1:f.C=g.C:=congrArg Fm.A h
 have hs:=mK hd hf rf
 have hC:f.C≠0:=fun e=>by rw [e,Int.mul_zero] at hs;omega
 have a1:f.A=g.A:=by
  unfold Fm.disc at hf hg
  rw [b1] at hf
  rw [← c1] at hg
  have e:f.A*f.C=g.A*f.C:=by
   have e1:4*f.A*f.C=4*(f.A*f.C):=Int.mul_assoc ..
   have e2:4*g.A*f.C=4*(g.A*f.C):=Int.mul_assoc ..
   omega
  exact Int.eq_of_mul_eq_mul_right hC e
 cases f;cases g
 simp only at a1 b1 c1
 rw [a1,b1,c1]
theorem dE {D s:Int} (hd:Dis D s) {f:Fm} (h:f.disc=D):f.A≠0∧f.C≠0:=by
 have key:f.A*f.C≠0:=fun e=>by
  unfold Fm.disc at h
  rw [Int.mul_assoc,e] at h
  have hs:=hd.pos
  have e2:(f.B.natAbs:Int)*f.B.natAbs=f.B*f.B:=by rw [← Int.natCast_mul];exact Int.natAbs_mul_self' f.B
  have lo:=hd.lo
  have hi:=hd.hi
  have hb:0≤(f.B.natAbs:Int):=by omega
  generalize (f.B.natAbs:Int)=b at *
  rcases Int.lt_or_le s b with q|q
  ·have:=Int.mul_le_mul (show s+1≤b by omega) (show s+1≤b by omega) (by omega) hb
   omega
  ·have:=Int.mul_le_mul q q hb (by omega)
   omega
 exact ⟨fun e=>key (by rw [e,Int.zero_mul]),fun e=>key (by rw [e,Int.mul_zero])⟩
theorem aG5 {D s:Int} (hd:Dis D s) {f:Fm} (h:f.disc=D) (hc:s<f.C.natAbs):(rho s f).C.natAbs<f.C.natAbs:=by
 have hC:=(dE hd h).2
 have h1:=gE (s:=s) h hC
 obtain ⟨r1,r2⟩:=(hZ (s:=s) (B:=f.B) hC).1 hc
 have hs:=hd.pos
 have hhi:=hd.hi
 have hlo:=hd.lo
 unfold Fm.disc at h1
 have e1:(rho s f).B=fC s f.B f.C:=rfl
 have e2:(rho s f).A=f.C:=rfl
 rw [e1,e2,Int.mul_assoc] at h1
 generalize (rho s f).C=x at *
 generalize fC s f.B f.C=r at *
 have e3:(f.C.natAbs:Int)*x.natAbs=((f.C*x).natAbs:Int):=by rw [Int.natAbs_mul,Int.natCast_mul]
 have hr:r*r≤(f.C.natAbs:Int)*f.C.natAbs:=by
  have e:(r.natAbs:Int)*r.natAbs=r*r:=by rw [← Int.natCast_mul];exact Int.natAbs_mul_self' r
  rw [← e]
  exact Int.mul_le_mul (by omega) (by omega) (by omega) (by omega)
 have hr0:0≤r*r:=by
  have e:(r.natAbs:Int)*r.natAbs=r*r:=by rw [← Int.natCast_mul];exact Int.natAbs_mul_self' r
  rw [← e]
  exact Int.mul_nonneg (by omega) (by omega)
 have hD:(s+1)*(s+1)≤(f.C.natAbs:Int)*f.C.natAbs:=Int.mul_le_mul (by omega) (by omega) (by omega) (by omega)
 have hx:4*((f.C.natAbs:Int)*x.natAbs)≤(f.C.natAbs:Int)*f.C.natAbs:=by
  rw [e3]
  have hss:=Int.mul_nonneg (Int.le_of_lt hs) (Int.le_of_lt hs)
  omega
 rcases Nat.lt_or_ge x.natAbs f.C.natAbs with q|q
 ·exact q
 ·exfalso
  have h5:(f.C.natAbs:Int)*f.C.natAbs≤f.C.natAbs*x.natAbs:=Int.mul_le_mul_of_nonneg_left (by omega) (by omega)
  have h6:0<(f.C.natAbs:Int)*f.C.natAbs:=Int.mul_pos (by omega) (by omega)
  omega
theorem aE1 {D s:Int} (hd:Dis D s) {f:Fm} (h:f.disc=D) (hA:(f.A.natAbs:Int)≤s) (hb0:s -2*f.A.natAbs<f.B) (hb1:f.B≤s):RedF s (rho s f):=by
 obtain ⟨hA0,hC⟩:=dE hd h
 have hs:=hd.pos
 have hhi:=hd.hi
 have hlo:=hd.lo
 have hbb:f.B*f.B≤s*s:=by
  have e:(f.B.natAbs:Int)*f.B.natAbs=f.B*f.B:=by rw [← Int.natCast_mul];exact Int.natAbs_mul_self' f.B
  rw [← e]
  exact Int.mul_le_mul (by omega) (by omega) (by omega) (by omega)
 have e1:((f.A.natAbs:Int)*f.C.natAbs)=((f.A*f.C).natAbs:Int):=by rw [Int.natAbs_mul,Int.natCast_mul]
 have hp:4*((f.A.natAbs:Int)*f.C.natAbs)=D -f.B*f.B:=by
  unfold Fm.disc at h
  rw [Int.mul_assoc] at h
  rw [e1]
  omega
 have m2:2*(f.C.natAbs:Int) -f.B≤s:=by
  rcases Int.lt_or_le s (2*(f.C.natAbs:Int) -f.B) with q|q
  ·exfalso
   have h2:(s+1 -f.B)*(s+1+f.B)≤2*f.A.natAbs*(2*f.C.natAbs):=Int.mul_le_mul (by omega) (by omega) (by omega) (by omega)
   have h3:2*(f.A.natAbs:Int)*(2*f.C.natAbs)=4*(f.A.natAbs*f.C.natAbs):=by grind
   have h4:(s+1 -f.B)*(s+1+f.B)=(s+1)*(s+1) -f.B*f.B:=by grind
   omega
  ·omega
 have hcs:(f.C.natAbs:Int)≤s:=by omega
 obtain ⟨r1,r2⟩:=(hZ (s:=s) (B:=f.B) hC).2 hcs
 obtain ⟨t,ht⟩:=p5 (s:=s) (B:=f.B) (C:=f.C)
 have hc:(0:Int)<f.C.natAbs:=by omega
 have key:2*(f.C.natAbs:Int) -f.B≤fC s f.B f.C:=by
  rcases Int.lt_or_le 0 t with q|q
  ·have:2*(f.C.natAbs:Int)*1≤2*(f.C.natAbs:Int)*t:=Int.mul_le_mul_of_nonneg_left (by omega) (by omega)
   omega
  ·have:2*(f.C.natAbs:Int)*t≤2*(f.C.natAbs:Int)*0:=Int.mul_le_mul_of_nonneg_left q (by omega)
   omega
 refine ⟨?_,r2,?_,?_⟩
 ·show 0<fC s f.B f.C
  omega
 ·show s<2*(f.C.natAbs:Int)+fC s f.B f.C
  omega
 ·show 2*(f.C.natAbs:Int) -fC s f.B f.C≤s
  omega
def rhoN (s:Int):Nat→Fm→Fm
 | 0,f=>f
 | n+1,f=>rhoN s n (rho s f)
theorem aFn {D s:Int} (hd:Dis D s):∀ (k:Nat) (f:Fm),f.disc=D→f.C.natAbs≤k→∃ n,n≤k+2∧RedF s (rhoN s n f)
 | k,f,h,hk=>by
  obtain ⟨_,hC⟩:=dE hd h
  by_cases hc:s<f.C.natAbs
  ·have h1:=aG5 hd h hc
   match k,hk with
   | 0,hk=>omega
   | k+1,hk =>
    obtain ⟨n,h2,h3⟩:=aFn hd k (rho s f) (gE h hC) (by omega)
    exact ⟨n+1,by omega,h3⟩
  ·have hcs:(f.C.natAbs:Int)≤s:=by omega
   obtain ⟨r1,r2⟩:=(hZ (s:=s) (B:=f.B) hC).2 hcs
   exact ⟨2,by omega,aE1 hd (gE h hC) hcs r1 r2⟩
theorem pU:∀ (m:Nat) (l:List Nat),l.Nodup→(∀ x∈l,x<m)→l.length≤m
 | 0,l,_,hl=>by
  cases l with
  | nil=>exact Nat.le_refl _
  | cons x r=>exact absurd (hl x (List.mem_cons_self ..)) (by omega)
 | m+1,l,hn,hl=>by
  by_cases hm:m∈l
  ·have hp:=List.perm_cons_erase hm
   have hn':=List.nodup_cons.1 (hp.nodup_iff.1 hn)
   have:=pU m (l.erase m) hn'.2 fun x hx=>by
    have h1:=hl x (hp.mem_iff.2 (List.mem_cons_of_mem _ hx))
    have h2:x≠m:=fun e=>hn'.1 (e ▸ hx)
    omega
   have h3:=hp.length_eq
   rw [List.length_cons] at h3
   omega
  ·have:=pU m l hn fun x hx=>by
    have h1:=hl x hx
    have h2:x≠m:=fun e=>hm (e ▸ hx)
    omega
   omega
theorem gS (s:Int) (m:Nat):∀ (n:Nat) (f:Fm),rhoN s (m+n) f=rhoN s m (rhoN s n f)
 | 0,_=>rfl
 | n+1,f=>gS s m n (rho s f)
structure RD (D s:Int) (f:Fm):Prop where
 h:f.disc=D
 r:RedF s f
theorem RD.rho {D s:Int} (hd:Dis D s) {f:Fm} (h:RD D s f):RD D s (rho s f):=⟨gE h.h (dE hd h.h).2,aPf hd h.h h.r⟩
theorem RD.rhoN {D s:Int} (hd:Dis D s):∀ (n:Nat) {f:Fm},RD D s f→RD D s (rhoN s n f)
 | 0,_,h=>h
 | n+1,_,h=>RD.rhoN hd n (h.rho hd)
theorem RD.inj {D s:Int} (hd:Dis D s):∀ (n:Nat) {f g:Fm},RD D s f→RD D s g→Go.Proofs.YtijailhickfapaaGreat.rhoN s n f=Go.Proofs.YtijailhickfapaaGreat.rhoN s n g→f=g
 | 0,_,_,_,_,h=>h
 | n+1,_,_,hf,hg,h=>aPe hd hf.h hg.h hf.r hg.r (RD.inj hd n (hf.rho hd) (hg.rho hd) h)
def cd (s:Int) (f:Fm):Nat:=(f.A+s).toNat*(s.toNat+1)+f.B.toNat
theorem RD.abs {D s:Int} {f:Fm} (h:RD D s f):(f.A.natAbs:Int)≤s:=by
 have:=h.r.hi
 have:=h.r.b1
 omega
theorem aUd {D s:Int} (hd:Dis D s) {f:Fm} (h:RD D s f):cd s f<(2*s.toNat+1)*(s.toNat+1):=by
 have h1:=h.abs
 have h2:=h.r.b1
 have h3:=hd.pos
 unfold cd
 have h4:(f.A+s).toNat*(s.toNat+1)≤2*s.toNat*(s.toNat+1):=Nat.mul_le_mul_right _ (by omega)
 rw [Nat.add_mul,Nat.one_mul]
 omega
theorem aRE {D s:Int} (hd:Dis D s) {f g:Fm} (hf:RD D s f) (hg:RD D s g) (h:cd s f=cd s g):f=g:=by
 have a1:=hf.abs
 have a2:=hg.abs
 have b1:=hf.r.b1
 have b2:=hg.r.b1
 have c1:=hf.r.b0
 have c2:=hg.r.b0
 have hs:=hd.pos
 unfold cd at h
 have key:∀ x y u v m:Nat,y<m→v<m→x*m+y=u*m+v→x=u∧y=v:=by
  intro x y u v m hy hv he
  have d1:(x*m+y)/m=x:=by rw [Nat.mul_comm,Nat.mul_add_div (by omega),Nat.div_eq_of_lt hy,Nat.add_zero]
  have d2:(u*m+v)/m=u:=by rw [Nat.mul_comm,Nat.mul_add_div (by omega),Nat.div_eq_of_lt hv,Nat.add_zero]
  have e:x=u:=by rw [← d1,he,d2]
  subst e
  exact ⟨rfl,by omega⟩
 obtain ⟨k1,k2⟩:=key _ _ _ _ _ (by omega) (by omega) h
 have eA:f.A=g.A:=by omega
 have eB:f.B=g.B:=by omega
 have hA:=(dE hd hf.h).1
 have eC:f.C=g.C:=by
  have hf':=hf.h
  have hg':=hg.h
  unfold Fm.disc at hf' hg'
  rw [← eA,← eB] at hg'
  rw [Int.mul_assoc] at hf' hg'
  exact Int.eq_of_mul_eq_mul_left hA (by omega)
 cases f;cases g
 simp only at eA eB eC
 rw [eA,eB,eC]
theorem aGa {D s:Int} (hd:Dis D s) {f:Fm} (hf:RD D s f):∃ n,1≤n∧n≤(2*s.toNat+1)*(s.toNat+1)∧rhoN s n f=f:=by
 rcases Classical.em (∃ n,1≤n∧n≤(2*s.toNat+1)*(s.toNat+1)∧rhoN s n f=f) with h|h
 ·exact h
 exfalso
 have:=pU ((2*s.toNat+1)*(s.toNat+1)) ((List.range ((2*s.toNat+1)*(s.toNat+1)+1)).map fun i=>cd s (rhoN s i f)) (by
  unfold List.Nodup
  rw [List.pairwise_map]
  refine (List.pairwise_lt_range (n:=(2*s.toNat+1)*(s.toNat+1)+1)).imp_of_mem fun {i j} hi hj hij e=>?_
  have hj:=List.mem_range.1 hj
  have e1:=aRE hd (hf.rhoN hd i) (hf.rhoN hd j) e
  have e2:rhoN s j f=rhoN s i (rhoN s (j -i) f):=by rw [← gS];congr 1;omega
  rw [e2] at e1
  have e3:=RD.inj hd i hf (hf.rhoN hd (j -i)) e1
  exact h ⟨j -i,by omega,by omega,e3.symm⟩) fun x hx=>by
   obtain ⟨i,_,rfl⟩:=List.mem_map.1 hx
   exact aUd hd (hf.rhoN hd i)
 rw [List.length_map,List.length_range] at this
 omega
theorem s7 {a b:Int}:a*b<0↔(a<0∧0<b)∨(0<a∧b<0):=by
 constructor
 ·intro h
  rcases Int.lt_trichotomy a 0 with ha|ha|ha <;> rcases Int.lt_trichotomy b 0 with hb|hb|hb
  ·have:=Int.mul_pos_of_neg_of_neg ha hb;omega
  ·subst hb;omega
  ·exact .inl ⟨ha,hb⟩
  ·subst ha;omega
  ·subst ha;omega
  ·subst ha;omega
  ·exact .inr ⟨ha,hb⟩
  ·subst hb;omega
  ·have:=Int.mul_pos ha hb;omega
 ·rintro (⟨ha,hb⟩|⟨ha,hb⟩)
  ·exact Int.mul_neg_of_neg_of_pos ha hb
  ·exact Int.mul_neg_of_pos_of_neg ha hb
theorem aAJ {x s:Int} (hs:0≤s) (h:x*x<(s+1)*(s+1)):x≤s:=by
 rcases Int.lt_or_le s x with q|q
 ·have:=Int.mul_le_mul (show s+1≤x by omega) (show s+1≤x by omega) (by omega) (by omega)
  omega
 ·exact q
theorem aFM {x s:Int} (hx:0≤x) (hs:0≤s) (h:s*s<x*x):s<x:=by
 rcases Int.lt_or_le s x with q|q
 ·exact q
 ·have:=Int.mul_le_mul q q hx hs
  omega
theorem pV {D s:Int} (hd:Dis D s) {f:Fm} (h:f.disc=D):RedF s f↔f.A*f.C<0∧0<f.A+f.B+f.C∧f.A -f.B+f.C<0:=by
 constructor
 ·intro hr
  have h1:=mK hd h hr
  obtain ⟨m1,m2⟩:=nB hd h hr
  have h2:=hr.lo
  have h3:=hr.hi
  refine ⟨h1,?_,?_⟩ <;> rcases s7.1 h1 with ⟨q1,q2⟩|⟨q1,q2⟩ <;> omega
 ·rintro ⟨h1,h2,h3⟩
  have hs:=hd.pos
  have hlo:=hd.lo
  have hhi:=hd.hi
  unfold Fm.disc at h
  have e1:(2*f.A+f.B)*(2*f.A+f.B)=D+4*(f.A*(f.A+f.B+f.C)):=by rw [← h];grind
  have e2:(2*f.A -f.B)*(2*f.A -f.B)=D+4*(f.A*(f.A -f.B+f.C)):=by rw [← h];grind
  have e3:f.B*f.B=D+4*(f.A*f.C):=by rw [← h];grind
  have b0:0<f.B:=by omega
  have b1:f.B≤s:=aAJ (by omega) (by omega)
  rcases s7.1 h1 with ⟨q1,q2⟩|⟨q1,q2⟩
  ·have p1:=Int.mul_neg_of_neg_of_pos q1 h2
   have p2:=Int.mul_pos_of_neg_of_neg q1 h3
   have e1':(-(2*f.A) -f.B)*(-(2*f.A) -f.B)=(2*f.A+f.B)*(2*f.A+f.B):=by grind
   have e2':(-(2*f.A)+f.B)*(-(2*f.A)+f.B)=(2*f.A -f.B)*(2*f.A -f.B):=by grind
   have k1: -(2*f.A) -f.B≤s:=aAJ (by omega) (by rw [e1',e1];omega)
   have k2:s< -(2*f.A)+f.B:=aFM (by omega) (by omega) (by rw [e2',e2];omega)
   exact ⟨b0,b1,by omega,by omega⟩
  ·have p1:=Int.mul_pos q1 h2
   have p2:=Int.mul_neg_of_pos_of_neg q1 h3
   have k1:s<2*f.A+f.B:=aFM (by omega) (by omega) (by rw [e1];omega)
   have k2:2*f.A -f.B≤s:=aAJ (by omega) (by rw [e2];omega)
   exact ⟨b0,b1,by omega,by omega⟩
structure Mx where
 a:Int
 b:Int
 c:Int
 d:Int
def Mx.det (m:Mx):Int:=m.a*m.d -m.b*m.c
def Mx.mul (m n:Mx):Mx:=⟨m.a*n.a+m.b*n.c,m.a*n.b+m.b*n.d,m.c*n.a+m.d*n.c,m.c*n.b+m.d*n.d⟩
def Mx.one:Mx:=⟨1,0,0,1⟩
def Mx.inv (m:Mx):Mx:=⟨m.d,-m.b,-m.c,m.a⟩
def Fm.val (f:Fm) (x y:Int):Int:=f.A*(x*x)+f.B*(x*y)+f.C*(y*y)
def Fm.app (f:Fm) (m:Mx):Fm:=⟨f.val m.a m.c,2*(f.A*(m.a*m.b)+f.C*(m.c*m.d))+f.B*(m.a*m.d+m.b*m.c),f.val m.b m.d⟩
abbrev FLe (f g:Fm) (n m:Nat):Prop:=aG f.A g.A n m∧aG f.B g.B n m∧aG f.C g.C n m∧True
abbrev MLe (f g:Mx) (n m:Nat):Prop:=aG f.a g.a n m∧aG f.b g.b n m∧aG f.c g.c n m∧aG f.d g.d n m∧True
theorem Fm.ext' {f g:Fm} (h1:f.A=g.A) (h2:f.B=g.B) (h3:f.C=g.C):f=g:=by
 cases f;cases g
 simp only at h1 h2 h3
 rw [h1,h2,h3]
theorem aCn (f:Fm):f.app Mx.one=f:=by
 apply Fm.ext' <;> simp [Fm.app,Fm.val,Mx.one]
theorem mQ (f:Fm) (m n:Mx):(f.app m).app n=f.app (m.mul n):=by
 apply Fm.ext' <;> simp only [Fm.app,Fm.val,Mx.mul] <;> grind
theorem pF (m n:Mx):(m.mul n).det=m.det*n.det:=by
 simp only [Mx.det,Mx.mul];grind
theorem aCN (m:Mx):m.inv.det=m.det:=by
 simp only [Mx.det,Mx.inv];grind
theorem yT (f:Fm) (m:Mx):(f.app m).disc=m.det*m.det*f.disc:=by
 simp only [Fm.disc,Fm.app,Fm.val,Mx.det];grind
theorem aOh {m:Mx} (h:m.det=1):m.mul m.inv=Mx.one:=by
 unfold Mx.det at h
 simp only [Mx.mul,Mx.inv,Mx.one,Mx.mk.injEq]
 refine ⟨?_,?_,?_,?_⟩ <;> grind
theorem aCl {f:Fm} {m:Mx} (h:m.det=1):(f.app m).app m.inv=f:=by rw [mQ,aOh h,aCn]
def gT (s:Int) (f:Fm):Mx:=⟨0,-1,1,dN s f⟩
theorem aMx (s:Int) (f:Fm):(gT s f).det=1:=by simp [gT,Mx.det]
theorem wZ {s:Int} {f:Fm} (hC:f.C≠0):f.app (gT s f)=rho s f:=by
 obtain ⟨q,hq⟩:=aAu (s:=s) (B:=f.B) (C:=f.C)
 have hk:dN s f=q:=by unfold dN;rw [hq];exact Int.mul_ediv_cancel_left _ (by omega)
 have hb:fC s f.B f.C=2*f.C*q -f.B:=by omega
 apply Fm.ext' <;> simp only [Fm.app,Fm.val,gT,rho,hk,hb] <;> grind
def nY (s:Int):Nat→Fm→Mx
 | 0,_=>Mx.one
 | n+1,f=>(gT s f).mul (nY s n (rho s f))
theorem aAS (s:Int):∀ (n:Nat) (f:Fm),(nY s n f).det=1
 | 0,_=>by simp [nY,Mx.one,Mx.det]
 | n+1,f=>by
  show ((gT s f).mul (nY s n (rho s f))).det=1
  rw [pF,aMx,aAS s n,Int.mul_one]
theorem aAR {D s:Int} (hd:Dis D s):∀ (n:Nat) {f:Fm},f.disc=D→f.app (nY s n f)=rhoN s n f
 | 0,f,_=>aCn f
 | n+1,f,h=>by
  show f.app ((gT s f).mul (nY s n (rho s f)))=rhoN s n (rho s f)
  have hC:=(dE hd h).2
  rw [← mQ,wZ hC,aAR hd n (gE h hC)]
theorem nH (r:Int):(r.natAbs:Int)*r.natAbs=r*r:=by rw [← Int.natCast_mul];exact Int.natAbs_mul_self' r
def bS (d:Int):Int:=if d<0∨d -eF d.natAbs*eF d.natAbs=0∨1<d%4 then 5 else if 65536<d then 2 else 0
def aN (d:Int):Int:=if bS d=0 then eF d.natAbs else 0
theorem dQ {d:Int} (h:bS d=0):Dis d (aN d)∧aN d≤255∧d≤65536∧d%4≤1:=by
 unfold aN
 rw [if_pos h]
 unfold bS at h
 split at h
 ·simp at h
 ·rename_i h1
  split at h
  ·simp at h
  ·rename_i h2
   obtain ⟨k1,k2⟩:=s8 d.natAbs
   have e:(d.natAbs:Int)=d:=by omega
   generalize eF d.natAbs=r at *
   have k1':(r:Int)*r≤d:=by rw [← e];exact_mod_cast k1
   have k2':d<((r:Int)+1)*(r+1):=by rw [← e];exact_mod_cast k2
   have hne:d -r*r≠0:=fun q=>h1 (.inr (.inl q))
   have h3:d%4≤1:=by omega
   have hr:(r:Int)≤255:=by
    rcases Int.lt_or_le 255 (r:Int) with q|q
    ·exfalso
     have:=Int.mul_le_mul (show (256:Int)≤r by omega) (show (256:Int)≤r by omega) (by omega) (by omega)
     omega
    ·exact q
   have hr0:(0:Int)<r:=by
    rcases Nat.eq_zero_or_pos r with q|q
    ·subst q;simp at k1' k2' hne;omega
    ·omega
   exact ⟨⟨hr0,by omega,k2'⟩,hr,by omega,h3⟩
theorem aRV {d:Int} (h:bS d=0):aN d=eF d.natAbs:=if_pos h
def l6 (f:Fm):Bool:=decide (bS f.disc=0)&&(decide (0<f.B)&&(decide (f.B≤aN f.disc)&&(decide (aN f.disc<2*f.A.natAbs+f.B)&&decide (2*f.A.natAbs -f.B≤aN f.disc))))
theorem aAq {f:Fm}:l6 f=true↔bS f.disc=0∧RedF (aN f.disc) f:=by
 unfold l6
 simp only [Bool.and_eq_true,decide_eq_true_eq]
 exact ⟨fun ⟨a,b,c,d,e⟩=>⟨a,b,c,d,e⟩,fun ⟨a,⟨b,c,d,e⟩⟩=>⟨a,b,c,d,e⟩⟩
theorem aIu {f:Fm}:l6 f=true↔bS f.disc=0∧RD f.disc (aN f.disc) f :=
 aAq.trans ⟨fun h=>⟨h.1,rfl,h.2⟩,fun h=>⟨h.1,h.2.r⟩⟩
theorem aFu {D s:Int} (hd:Dis D s) {f:Fm} (h:f.disc=D) (hc:s<f.C.natAbs):2*(rho s f).C.natAbs≤f.C.natAbs:=by
 have hC:=(dE hd h).2
 have h1:=gE (s:=s) h hC
 obtain ⟨r1,r2⟩:=(hZ (s:=s) (B:=f.B) hC).1 hc
 have hs:=hd.pos
 have hhi:=hd.hi
 have hlo:=hd.lo
 unfold Fm.disc at h1
 have e1:(rho s f).B=fC s f.B f.C:=rfl
 have e2:(rho s f).A=f.C:=rfl
 rw [e1,e2,Int.mul_assoc] at h1
 generalize (rho s f).C=x at *
 generalize fC s f.B f.C=r at *
 have e3:(f.C.natAbs:Int)*x.natAbs=((f.C*x).natAbs:Int):=by rw [Int.natAbs_mul,Int.natCast_mul]
 have hr:r*r≤(f.C.natAbs:Int)*f.C.natAbs:=by
  rw [← nH r]
  exact Int.mul_le_mul (by omega) (by omega) (by omega) (by omega)
 have hr0:0≤r*r:=by
  rw [← nH r]
  exact Int.mul_nonneg (by omega) (by omega)
 have hD:(s+1)*(s+1)≤(f.C.natAbs:Int)*f.C.natAbs:=Int.mul_le_mul (by omega) (by omega) (by omega) (by omega)
 have hx:4*((f.C.natAbs:Int)*x.natAbs)≤(f.C.natAbs:Int)*f.C.natAbs:=by
  rw [e3]
  have hss:=Int.mul_nonneg (Int.le_of_lt hs) (Int.le_of_lt hs)
  omega
 rcases Nat.lt_or_ge f.C.natAbs (2*x.natAbs) with q|q
 ·exfalso
  have h5:(f.C.natAbs:Int)*(f.C.natAbs+1)≤f.C.natAbs*(2*x.natAbs):=Int.mul_le_mul_of_nonneg_left (by omega) (by omega)
  have h6:0<(f.C.natAbs:Int)*f.C.natAbs:=Int.mul_pos (by omega) (by omega)
  have e4:(f.C.natAbs:Int)*(2*x.natAbs)=2*(f.C.natAbs*x.natAbs):=by grind
  have e5:(f.C.natAbs:Int)*(f.C.natAbs+1)=f.C.natAbs*f.C.natAbs+f.C.natAbs:=by grind
  omega
 ·exact q
theorem rK {s B C:Int} (hs:0<s) (hC:C≠0):(fC s B C).natAbs≤max s.natAbs C.natAbs:=by
 obtain ⟨k1,k2⟩:=hZ (s:=s) (B:=B) hC
 rcases Int.lt_or_le s (C.natAbs:Int) with q|q
 ·have:=k1 q;omega
 ·have:=k2 q;omega
theorem aIA {s B C:Int} (hs:0<s) (hs2:s≤255) (hC:C≠0) {k:Nat} (hk:16≤k) (h:C.natAbs<2^k):(fC s B C).natAbs<2^k:=by
 have:=rK (B:=B) hs hC
 have:2^16≤2^k:=Nat.pow_le_pow_right (by omega) hk
 omega
theorem aBX {D s:Int} (hd:Dis D s) (hs2:s≤255) {f:Fm} (h:f.disc=D) {k:Nat} (hk:16≤k) (hc:f.C.natAbs<2^k):(rho s f).B.natAbs<2^k∧(rho s f).C.natAbs<2^k:=by
 have hC:=(dE hd h).2
 refine ⟨aIA hd.pos hs2 hC hk hc,?_⟩
 have hp:2^16≤2^k:=Nat.pow_le_pow_right (by omega) hk
 rcases Int.lt_or_le s (f.C.natAbs:Int) with q|q
 ·have:=aFu hd h q;omega
 ·have h1:=gE (s:=s) h hC
  have hr:=rK (B:=f.B) hd.pos hC
  have hs:=hd.pos
  have hhi:=hd.hi
  have hlo:=hd.lo
  unfold Fm.disc at h1
  have e1:(rho s f).B=fC s f.B f.C:=rfl
  have e2:(rho s f).A=f.C:=rfl
  rw [e1,e2,Int.mul_assoc] at h1
  generalize (rho s f).C=x at *
  generalize fC s f.B f.C=r at *
  have hb:r*r≤65025:=by
   rw [← nH r]
   have:=Int.mul_le_mul (show (r.natAbs:Int)≤255 by omega) (show (r.natAbs:Int)≤255 by omega) (by omega) (by omega)
   omega
  have hr0:0≤r*r:=by
   rw [← nH r]
   exact Int.mul_nonneg (by omega) (by omega)
  have hD:D<65536:=by
   have:=Int.mul_le_mul (show s+1≤256 by omega) (show s+1≤256 by omega) (by omega) (by omega)
   omega
  have hss:=Int.mul_nonneg (Int.le_of_lt hs) (Int.le_of_lt hs)
  have e3:(f.C.natAbs:Int)*x.natAbs=((f.C*x).natAbs:Int):=by rw [Int.natAbs_mul,Int.natCast_mul]
  have h5:(1:Int)*x.natAbs≤f.C.natAbs*x.natAbs:=Int.mul_le_mul_of_nonneg_right (by omega) (by omega)
  omega
theorem aFs {s:Int} {f:Fm} (hC:f.C≠0):2*f.C*dN s f=fC s f.B f.C+f.B:=by
 obtain ⟨q,hq⟩:=aAu (s:=s) (B:=f.B) (C:=f.C)
 have hk:dN s f=q:=by unfold dN;rw [hq];exact Int.mul_ediv_cancel_left _ (by omega)
 rw [hk,hq]
theorem aFr {s:Int} {f:Fm} (hC:f.C≠0):2*(f.C.natAbs*(dN s f).natAbs)≤(fC s f.B f.C).natAbs+f.B.natAbs:=by
 have h:=aFs (s:=s) hC
 have e:(2*f.C*dN s f).natAbs=2*(f.C.natAbs*(dN s f).natAbs):=by
  rw [Int.natAbs_mul,Int.natAbs_mul,Nat.mul_assoc];rfl
 rw [h] at e
 omega
theorem aIB {s:Int} (hs:0<s) (hs2:s≤255) {f:Fm} (hC:f.C≠0) {k:Nat} (hk:16≤k) (hb:f.B.natAbs<2^k) (hc:f.C.natAbs<2^k):(dN s f).natAbs<2^k:=by
 have h1:=aFr (s:=s) hC
 have h2:=aIA (B:=f.B) hs hs2 hC hk hc
 have h3:1*(dN s f).natAbs≤f.C.natAbs*(dN s f).natAbs:=Nat.mul_le_mul_right _ (by omega)
 omega
theorem RD.small {D s:Int} (hd:Dis D s) (hs2:s≤255) {f:Fm} (h:RD D s f):f.A.natAbs<2^8∧f.B.natAbs<2^8∧f.C.natAbs<2^8∧(dN s f).natAbs<2^8:=by
 have h1:=h.abs
 have h2:=h.r.b0
 have h3:=h.r.b1
 obtain ⟨_,h4⟩:=nB hd h.h h.r
 have hC:=(dE hd h.h).2
 have h5:=aFr (s:=s) hC
 have h6:=rK (B:=f.B) hd.pos hC
 have h7:1*(dN s f).natAbs≤f.C.natAbs*(dN s f).natAbs:=Nat.mul_le_mul_right _ (by omega)
 have e:(2:Nat)^8=256:=rfl
 rw [e]
 omega
theorem aIx {D s:Int} (hd:Dis D s):∀ (k:Nat) (f:Fm),f.disc=D→f.C.natAbs<2^k→∃ n,n≤k+2∧RedF s (rhoN s n f)
 | 0,f,h,hc=>absurd (dE hd h).2 (by rw [Nat.pow_zero] at hc;omega)
 | k+1,f,h,hc=>by
  have hC:=(dE hd h).2
  rcases Int.lt_or_le s (f.C.natAbs:Int) with q|q
  ·have h1:=aFu hd h q
   rw [Nat.pow_succ] at hc
   obtain ⟨n,h2,h3⟩:=aIx hd k (rho s f) (gE h hC) (by omega)
   exact ⟨n+1,by omega,h3⟩
  ·refine ⟨2,by omega,?_⟩
   have h1:=(hZ (s:=s) (B:=f.B) hC).2 q
   exact aE1 hd (gE h hC) q h1.1 h1.2
def fX (s:Int):Nat→Fm→Mx
 | 0,_=>Mx.one
 | n+1,f=>(fX s n f).mul (gT s (rhoN s n f))
theorem aGJ (a b c:Mx):(a.mul b).mul c=a.mul (b.mul c):=by
 simp only [Mx.mul,Mx.mk.injEq]
 refine ⟨?_,?_,?_,?_⟩ <;> grind
theorem aLP (a:Mx):Mx.one.mul a=a:=by
 cases a
 simp [Mx.mul,Mx.one]
theorem aLC (a:Mx):a.mul Mx.one=a:=by
 cases a
 simp [Mx.mul,Mx.one]
theorem jC (s:Int) (n:Nat) (f:Fm):rhoN s (n+1) f=rho s (rhoN s n f):=by
 rw [Nat.add_comm,gS]
 rfl
theorem aAO (s:Int):∀ (n:Nat) (f:Fm),nY s (n+1) f=(nY s n f).mul (gT s (rhoN s n f))
 | 0,f=>by
  show (gT s f).mul Mx.one=Mx.one.mul (gT s f)
  rw [aLC,aLP]
 | n+1,f=>by
  show (gT s f).mul (nY s (n+1) (rho s f))=((gT s f).mul (nY s n (rho s f))).mul (gT s (rhoN s n (rho s f)))
  rw [aAO s n (rho s f),aGJ]
theorem aAQ (s:Int):∀ (n:Nat) (f:Fm),fX s n f=nY s n f
 | 0,_=>rfl
 | n+1,f=>by
  show (fX s n f).mul _=_
  rw [aAQ s n f,aAO]
theorem u7 (s:Int) (n:Nat) (f:Fm):(fX s n f).det=1:=by rw [aAQ,aAS]
theorem aCf {D s:Int} (hd:Dis D s) (n:Nat) {f:Fm} (h:f.disc=D):f.app (fX s n f)=rhoN s n f:=by rw [aAQ,aAR hd n h]
theorem mN {D s:Int} (hd:Dis D s):∀ (n:Nat) {f:Fm},f.disc=D→(rhoN s n f).disc=D
 | 0,_,h=>h
 | n+1,_,h=>mN hd n (gE h (dE hd h).2)
structure Mx.bd (m:Mx) (w:Nat):Prop where
 a:m.a.natAbs<2^w
 b:m.b.natAbs<2^w
 c:m.c.natAbs<2^w
 d:m.d.natAbs<2^w
theorem aIS {x y k:Int} {w j:Nat} (hx:x.natAbs<2^w) (hy:y.natAbs<2^w) (hk:k.natAbs<2^j):(x* -1+y*k).natAbs<2^(w+j):=by
 have h1:(y*k).natAbs=y.natAbs*k.natAbs:=Int.natAbs_mul ..
 have h2:y.natAbs*k.natAbs≤(2^w -1)*k.natAbs:=Nat.mul_le_mul_right _ (by omega)
 have h3:(2^w -1)*(k.natAbs+1)≤(2^w -1)*2^j:=Nat.mul_le_mul_left _ hk
 have h4:(2^w -1)*2^j<2^w*2^j:=Nat.mul_lt_mul_of_pos_right (by have:=Nat.two_pow_pos w;omega) (Nat.two_pow_pos j)
 rw [Nat.pow_add]
 rw [Nat.mul_add] at h3
 omega
theorem Mx.bd.step {m:Mx} {w j:Nat} (h:m.bd w) {k:Int} (hk:k.natAbs<2^j):(m.mul ⟨0,-1,1,k⟩).bd (w+j):=by
 have hp:2^w≤2^(w+j):=Nat.pow_le_pow_right (by omega) (by omega)
 refine ⟨?_,aIS h.a h.b hk,?_,aIS h.c h.d hk⟩
 ·have e:(m.mul ⟨0,-1,1,k⟩).a=m.b:=by simp [Mx.mul]
  rw [e];exact Nat.lt_of_lt_of_le h.b hp
 ·have e:(m.mul ⟨0,-1,1,k⟩).c=m.d:=by simp [Mx.mul]
  rw [e];exact Nat.lt_of_lt_of_le h.d hp
theorem Mx.bd.le {m:Mx} {w v:Nat} (h:m.bd w) (hv:w≤v):m.bd v:=by
 have hp:2^w≤2^v:=Nat.pow_le_pow_right (by omega) hv
 exact ⟨Nat.lt_of_lt_of_le h.a hp,Nat.lt_of_lt_of_le h.b hp,Nat.lt_of_lt_of_le h.c hp,Nat.lt_of_lt_of_le h.d hp⟩
structure Fm.bd (f:Fm) (w:Nat):Prop where
 A:f.A.natAbs<2^w
 B:f.B.natAbs<2^w
 C:f.C.natAbs<2^w
theorem wY {D s:Int} (hd:Dis D s) (hs2:s≤255) {k:Nat} (hk:16≤k):∀ (n:Nat) {f:Fm},f.disc=D→f.bd k→(rhoN s n f).bd k
 | 0,_,_,h=>h
 | n+1,f,e,h=>by
  obtain ⟨h1,h2⟩:=aBX hd hs2 e hk h.C
  exact wY hd hs2 hk n (gE e (dE hd e).2) ⟨h.C,h1,h2⟩
theorem aAP {D s:Int} (hd:Dis D s) (hs2:s≤255) {k:Nat} (hk:16≤k) {f:Fm} (e:f.disc=D) (h:f.bd k):∀ (n:Nat),(fX s n f).bd (n*k+1)
 | 0=>by
  show Mx.one.bd _
  simp only [Nat.zero_mul,Nat.zero_add]
  exact ⟨by decide,by decide,by decide,by decide⟩
 | n+1=>by
  have h1:=wY hd hs2 hk n e h
  have h2:=aIB hd.pos hs2 (dE hd (mN hd n e)).2 hk h1.B h1.C
  exact ((aAP hd hs2 hk e h n).step h2).le (by rw [Nat.add_mul];omega)
def aFm:Nat→Int→Fm→Nat
 | 0,_,_=>0
 | k+1,s,f=>cond (l6 f) 0 (aFm k s (rho s f)+1)
def cH (f:Fm):Nat:=aFm (f.C.natAbs+3) (aN f.disc) f
theorem aAp (s:Int):∀ (k n:Nat) (f:Fm),n<k→l6 (rhoN s n f)=true→(∀ i,i<n→l6 (rhoN s i f)=false)→aFm k s f=n
 | 0,_,_,h,_,_=>absurd h (by omega)
 | k+1,0,f,_,h,_=>by
  have h:l6 f=true:=h
  simp [aFm,h]
 | k+1,n+1,f,hk,h,hl=>by
  have h0:l6 f=false:=hl 0 (by omega)
  simp only [aFm,h0,cond_false]
  rw [aAp s k n (rho s f) (by omega) h fun i hi=>hl (i+1) (by omega)]
theorem aFb {p:Nat→Bool}:∀ (n:Nat),p n=true→∃ m,m≤n∧p m=true∧∀ i,i<m→p i=false
 | 0,h=>⟨0,Nat.le_refl _,h,fun i hi=>by omega⟩
 | n+1,h=>by
  cases h0:p 0 with
  | true=>exact ⟨0,by omega,h0,fun i hi=>by omega⟩
  | false =>
   obtain ⟨m,h1,h2,h3⟩:=aFb (p:=fun i=>p (i+1)) n h
   refine ⟨m+1,by omega,h2,fun i hi=>?_⟩
   cases i with
   | zero=>exact h0
   | succ i=>exact h3 i (by omega)
theorem aGK (n:Nat):n<2^n:=Nat.lt_two_pow_self
theorem aAL {f:Fm} (h:bS f.disc=0) {k:Nat} (hk:f.C.natAbs<2^k) :
  cH f≤k+2∧l6 (rhoN (aN f.disc) (cH f) f)=true∧(∀ i,i<cH f→l6 (rhoN (aN f.disc) i f)=false):=by
 obtain ⟨hd,_⟩:=dQ h
 have tr:∀ {n},RedF (aN f.disc) (rhoN (aN f.disc) n f)→l6 (rhoN (aN f.disc) n f)=true:=fun {n} hn=>by
  rw [aAq,mN hd n rfl];exact ⟨h,hn⟩
 obtain ⟨n,h1,h2⟩:=aIx hd k f rfl hk
 obtain ⟨n',h1',h2'⟩:=aFn hd f.C.natAbs f rfl (Nat.le_refl _)
 obtain ⟨m,k1,k2,k3⟩:=aFb (p:=fun n=>l6 (rhoN (aN f.disc) n f)) n (tr h2)
 have hm:m≤n':=by
  rcases Nat.lt_or_ge n' m with q|q
  ·have q1:=k3 n' q
   have q2:=tr h2'
   simp only [q2] at q1
   simp at q1
  ·exact q
 have e:cH f=m:=aAp _ _ m f (by omega) k2 k3
 rw [e]
 exact ⟨by omega,k2,k3⟩
def aG1 (f:Fm):Fm:=rhoN (aN f.disc) (cH f) f
def aO9 (f:Fm):Mx:=fX (aN f.disc) (cH f) f
instance:DecidableEq Fm:=fun f g=>decidable_of_iff (f.A=g.A∧f.B=g.B∧f.C=g.C) ⟨fun h=>Fm.ext' h.1 h.2.1 h.2.2,fun h=>by subst h;exact ⟨rfl,rfl,rfl⟩⟩
structure MapC where
 kt:TypeId
 kk:IntKind
 n:Nat
 f:List Int→Bool
 vk:Option IntKind
structure XS where
 mp:Option (Nat×MapC)
 pe:Option Ex
inductive XAnn where
 | inv (ι:Type) (I:ι→Prop) (T:ι→MS) (X:ι→Option (Nat×MapC)) (μ:ι→Nat)
structure ItE (P:Program) where
 f:FuncId
 fn:Func
 hf:P.funcs[f]? =some fn
 hc:∀ args w,(callFunc f args).run P w= .ok (.enter f args) w
 E:Env P
 xann:Nat→MS→XS→Option XAnn
structure XE (P:Program) where
 E:Env P
 xann:Nat→MS→XS→Option XAnn
 its:List (ItE P)
 inl:List (ItE P)
 rnp:Nat→Nat
 all:Nat→Option (List Oper)
def qY {P:Program} (f:Nat):List (ItE P)→Option (ItE P)
 | []=>none
 | c::r=>cond (c.f.beq f) (some c) (qY f r)
def aB3 (np:Nat):MV→MV
 | .bool b=> .bool b
 | .int k n=> .int k n
 | .val v=> .val v
 | .bp i off=>cond (i.blt np) (.bp i off) .any
 | .br i idx off=>cond (i.blt np) (.br i idx off) .any
 | .bs i off len=>cond (i.blt np) (.bs i off len) .any
 | _=> .any
def d4 (np:Nat):List (Nat×MV)→List (Nat×MV)
 | []=> []
 | (t,m)::r=>(t,aB3 np m)::d4 np r
def leX (x:XS) (q:Option (Nat×MapC)):Prop :=
 match x.pe with
 | some _=>False
 | none=>match q with
  | none=>True
  | some (B,m)=>match x.mp with
   | none=>False
   | some (B',m')=>B'=B∧m'.kt=m.kt∧m'.kk=m.kk∧m'.n=m.n∧m'.vk=m.vk∧∀ l,l.length=m.n→m'.f l=m.f l
abbrev XK:=Ex→MS→XS→Prop
structure Hnd where
 L:Nat
 yh:List MV→MS→XS→(List Box→Option (Nat×MapC)→Prop)→(Ex→List Box→Option (Nat×MapC)→Prop)→Prop
 rng:Operand→Array Tmp→Code→Code→MS→XS→XK→Prop
def Hnd.none:Hnd:=⟨0,fun _ _ _ _ _=>False,fun _ _ _ _ _ _ _=>False⟩
inductive XOp where
 | plain
 | mk (t:TypeId)
 | look (t:TypeId) (m k:MV)
 | look2 (t:TypeId) (m k:MV)
 | upd (t:TypeId) (m k v:MV)
 | yield (l:Nat) (args:List MV)
 | inl (f:Nat) (args:List MV)
 | app (i:Nat)
def aQZ {P:Program} (X:XE P) (f:Nat):Bool:=match qY f X.inl with|some _=>true|none=>false
def qK {P:Program} (X:XE P) (s:MS) (c:Call):XOp :=
 match c.callee with
 | .value g=>(match s.ev g with
  | .val v=>(match v with
   | .func fn a b=>(match fn with
    | .yield l=>cond (a.size.beq 0&&b.size.beq 0) (.yield l (c.args.toList.map s.ev)) .plain
    | _=> .plain)
   | _=> .plain)
  | .fn f caps=>(match caps with
   | []=>cond (aQZ X f) (.inl f (c.args.toList.map s.ev)) .plain
   | _::_=> .plain)
  | _=> .plain)
 | .builtin b=>(match b with
  | .append=>(match c.args.toList with
   | d::_=>(match s.ev d with
    | .bs i _ _=> .app i
    | _=> .plain)
   | []=> .plain)
  | _=> .plain)
 | _=> .plain
def xop {P:Program} (X:XE P) (s:MS) (o:Op):XOp :=
 match o with
 | .makeMap t r=>(match r with|none=> .mk t|some _=> .plain)
 | .lookup t m k ok=>cond ok (.look2 t (s.ev m) (s.ev k)) (.look t (s.ev m) (s.ev k))
 | .mapUpdate t m k v=> .upd t (s.ev m) (s.ev k) (s.ev v)
 | .call c=>qK X s c
 | _=> .plain
def aI3:Option IntKind→Value
 | none=> .bool false
 | some k=> .int k 0
def aHt (P:Program) (t:TypeId) (vk:Option IntKind):Bool :=
 match P.info? t with
 | some i=>(match i.zero with
  | some v=>(match v with
   | .bool b=>(match vk with|none=>!b|some _=>false)
   | .int k n=>(match vk with|none=>false|some q=>k==q&&n==0)
   | _=>false)
  | none=>false)
 | none=>false
def aPr (P:Program) (t:TypeId):Option (Option IntKind) :=
 match P.underlying t with
 | some .bool=>some none
 | some (.int k)=>some (some k)
 | _=>none
def aId (P:Program) (t:TypeId):Option (TypeId×IntKind×Nat×Option IntKind) :=
 match P.underlying t with
 | some (.map kt et)=>(match aPr P et with
  | some vk=>(match P.underlying kt with
   | some (.array n e)=>(match P.underlying e with
    | some (.int q)=>cond ((P.cellsOf e).beq 1&&(P.cellsOf kt).beq n&&(0).blt P.types.size&&aHt P et vk) (some (kt,q,n,vk)) none
    | _=>none)
   | _=>none)
  | none=>none)
 | _=>none
def MapC.add (m:MapC) (l:List Int):MapC:=⟨m.kt,m.kk,m.n,fun l'=>eqL l' l || m.f l',m.vk⟩
def s6 (P:Program) (t:TypeId) (mv kv:MV) (x:XS):Option (Prop×Nat×MapC×List Int) :=
 match mv with
 | .val v=>(match v with
  | .map r=>(match r with
   | some B=>(match x.mp with
    | some (B',m)=>(match aId P t with
     | some (kt,q,n,vk)=>(match kv with
      | .st ms=>(match gU q ms with
       | some l=>cond (l.length.beq n) (some ((B=B'∧m.kt=kt∧m.kk=q∧m.n=n∧m.vk=vk)∧wfL q l,B',m,l)) none
       | none=>none)
      | _=>none)
     | none=>none)
    | none=>none)
   | none=>none)
  | _=>none)
 | _=>none
def aEN (P:Program):Env P:=⟨[], [],0,fun _ _=>none,fun _=> [],fun _ _=>none⟩
def aJN (t:Nat) (m:MV):List (Nat×MV)→List (Nat×MV)
 | []=> [(t,m)]
 | (u,x)::r=>cond (u.blt t) ((u,x)::aJN t m r) (cond (u.beq t) ((t,m)::r) ((t,m)::(u,x)::r))
def MS.putSO (s:MS) (d:Option Nat) (m:MV):MS:=match d with|some t=>⟨s.n,aJN t m s.tm,s.bx,s.np⟩|none=>s
def uP (i:Nat):List (Nat×MV)→Bool
 | []=>true
 | (_,m)::r=>!(m.ment i)&&uP i r
def nJ (s:MS) (o:Oper):Act1→Option (OProp×MS)
 | .val p m=>some (p,s.putSO o.dst m)
 | .upd p s' m=>some (p,s'.putSO o.dst m)
 | _=>none
def aT5 (s:MS) (o:Op):Option Nat :=
 match o with
 | .call c=>(match c.args.toList with
  | d::_=>(match s.ev d with| .bs i _ _=>some i|_=>none)
  | []=>none)
 | _=>none
def qG (P:Program) (s:MS) (o:Oper):Option (OProp×MS) :=
 match o.guard with
 | some _=>none
 | none=>cond (iB o.dst s.n) (match o.op with
  | .buildSlice t len parts=>(match bM P t len (parts.toList.map fun (i,x)=>(i,s.ev x)) with
   | .new p b _=>(match b.c with
    | .rows wd n f=>cond (!b.fz&&uP s.bx.length s.tm&&fP s.bx.length 0 s.bx) (some (p,s.putSO o.dst (.sl wd n f))) none
    | _=>none)
   | _=>none)
  | .call _=>(match aT5 s o.op with
   | some i=>nJ (s.forget i) o (hH (aEN P) (s.forget i) o.op)
   | none=>none)
  | _=>nJ s o (hH (aEN P) s o.op)) none
def v9 (P:Program):List Oper→List Bool→MS→Option MS
 | o::r,f::fs,s=>cond f (match qG P s o with|some (_,s')=>v9 P r fs s'|none=>none) (v9 P r fs s)
 | _,_,s=>some s
def aAw (P:Program):List Oper→MS→List OProp
 | [],_=> []
 | o::r,s=>match qG P s o with
  | some (p,s')=>p::aAw P r s'
  | none=> []
def qN:Nat→List (List Bool)
 | 0=> [[]]
 | n+1=>(qN n).map (false::·)++(qN n).map (true::·)
def mV (fl:List Bool) (o:Oper):Bool:=o.after.toList.all fun e=>!(Region.binds .any e) || fl.getD e.on false
def sG:List Oper→List Bool→List Bool→Bool
 | o::r,f::fs,fl=>(!f || mV fl o)&&sG r fs fl
 | _,_,_=>true
def lS:Nat→List Oper→List Bool→List Bool→List (Nat×Oper)
 | k,o::r,f::fs,fl=>cond (!f&&mV fl o) ((k,o)::lS (k+1) r fs fl) (lS (k+1) r fs fl)
 | _,_,_,_=> []
def aEL (P:Program) (ops:List Oper) (s:MS):List (List Bool)→List (List (Option (Option (OProp×MS))))
 | []=> []
 | fl::r=>cond (sG ops fl fl) ((lS 0 ops fl fl).map fun (_,o)=>match v9 P ops fl s with|some s1=>some (qG P s1 o)|none=>none) []::aEL P ops s r
def aEM (P:Program) (ops:List Oper) (s:MS) (ps:List OProp):List (List Bool)→List (List (Option (Option (OProp×MS))))
 | []=> []
 | fl::r=>cond (sG ops fl fl) ((lS 0 ops fl fl).map fun (k,_)=>match v9 P ops (fl.set k true) s with|some s2=>some (some (ps.getD k none,s2))|none=>none) []::aEM P ops s ps r
def aGW:List OProp→Prop→Prop
 | [],q=>q
 | p::r,q=>lB p (aGW r q)
structure DrawOk (P:Program) (ops:List Oper) (s:MS):Prop where
 h:aEL P ops s (qN ops.length)=aEM P ops s (aAw P ops s) (qN ops.length)
def aQV (P:Program) (ops:List Oper) (s:MS) (K:MS→Prop):Prop :=
 gG 0 ops=true∧DrawOk P ops s∧aGW (aAw P ops s) (match v9 P ops (replicate ops.length true) s with|some s'=>K s'|none=>False)
def aLg {P:Program} (ie:ItE P) (args:List MV) (s:MS) (K:MV→List Box→Prop):Prop :=
 match ie.fn.body with
 | some c=>(match ie.fn.results.toList with
  | [.tmp t]=>cond (args.length.ble ie.fn.ntmps) (eL ie.E (fun _=>False) c ⟨ie.fn.ntmps,dM 0 args,s.bx,s.bx.length⟩ (fun e s'=>match e with
    | .exit _=>False
    | _=>K (look t s'.tm) s'.bx)) False
  | _=>False)
 | none=>False
def aCP {P:Program} (X:XE P) (H:Hnd) (ops:List Oper) (o:Oper) (s:MS) (x:XS) (K:MS→XS→Prop):Prop :=
 match xop X s o.op with
 | .plain=>gO X.E ops (fun _=>False) [o] s (fun s'=>K s' x)
 | .app i=>gO X.E ops (fun _=>False) [o] (s.forget i) (fun s'=>K s' x)
 | k=>(match o.guard with
  | some _=>cO o.op s
  | none=>cond (iB o.dst s.n) (match k with
   | .mk t=>(match aId P t with
    | some (kt,q,n,vk)=>(match x.mp with
     | none=>∀ B:Nat,K (s.putO o.dst (.val (.map (some B)))) ⟨some (B,⟨kt,q,n,fun _=>false,vk⟩),x.pe⟩
     | some _=>cO o.op s)
    | none=>cO o.op s)
   | .look t m kv=>(match s6 P t m kv x with
    | some (p,_,m,l)=>(match m.vk with
     | none=>p∧K (s.putO o.dst (.bool (m.f l))) x
     | some _=>cO o.op s)
    | none=>cO o.op s)
   | .look2 t m kv=>(match s6 P t m kv x with
    | some (p,_,m,l)=>(match m.vk with
     | none=>cO o.op s
     | some k=>p∧∀ z:Int,K (s.putO o.dst (.tup [.int k z,.bool (m.f l)])) x)
    | none=>cO o.op s)
   | .upd t m kv v=>(match s6 P t m kv x with
    | some (p,B,m,l)=>(match v with
     | .bool b=>(match o.dst with
      | none=>(match m.vk with
       | none=>(p∧b=true)∧K s ⟨some (B,m.add l),x.pe⟩
       | some _=>cO o.op s)
      | some _=>cO o.op s)
     | .int k _=>(match o.dst with
      | none=>(match m.vk with
       | none=>cO o.op s
       | some q=>(p∧k=q)∧K s ⟨some (B,m.add l),x.pe⟩)
      | some _=>cO o.op s)
     | _=>cO o.op s)
    | none=>cO o.op s)
   | .yield l args=>cond (args.all fun m=>!m.isTup) (match x.pe with
    | none=>l=H.L∧H.yh args s x (fun bx mp=>K ((⟨s.n,d4 s.np s.tm,bx,s.np⟩:MS).putO o.dst (.bool true)) ⟨mp,none⟩)
      (fun e bx mp=>K ((⟨s.n,d4 s.np s.tm,bx,s.np⟩:MS).putO o.dst (.bool false)) ⟨mp,some e⟩)
    | some _=>cO o.op s) (cO o.op s)
   | .inl f args=>cond (args.all fun m=>!m.isTup) (match qY f X.inl with
    | some ie=>aLg ie args s (fun m bx=>K ((⟨s.n,d4 s.bx.length s.tm,bx,s.np⟩:MS).putO o.dst m) x)
    | none=>cO o.op s) (cO o.op s)
   | _=>cO o.op s) (cO o.op s))
def aGr {P:Program} (X:XE P) (H:Hnd) (ops:List Oper):List Oper→MS→XS→(MS→XS→Prop)→Prop
 | [],s,x,K=>K s x
 | o::r,s,x,K=>aCP X H ops o s x (fun s' x'=>aGr X H ops r s' x' K)
def uM {P:Program} (X:XE P) (H:Hnd) (id:Nat) (ops:List Oper) (draw:Bool) (s:MS) (x:XS) (K:MS→XS→Prop):Prop :=
 match draw with
 | false=>aGr X H ops ops s x K
 | true=>(match X.all id with
  | some L=>aQV P L s (fun s'=>K s' x)
  | none=>jR X.E ops true s (fun s'=>K s' x) (fun _=>False))
def gQ {P:Program} (X:XE P):Code→Prop
 | .region id ops _=>(match X.all id with|some L=>ops.toList=L|none=>True)
 | .seq a b=>gQ X a∧gQ X b
 | .cond _ a b=>gQ X a∧gQ X b
 | .block _ c=>gQ X c
 | .loop c=>gQ X c
 | .scope c=>gQ X c
 | .rangeFunc _ _ a b=>gQ X a∧gQ X b
 | _=>True
def aH0 (id:Nat) (F:MS→XS→XK→Prop) (A:Option XAnn) (s:MS) (x:XS) (K:XK):Prop :=
 match A with
 | none=>uB id
 | some (.inv _ I T X μ)=>(∃ i,I i∧aE9 s (T i)∧leX x (X i))∧∀ i,I i→F (T i) ⟨X i,none⟩ (fun e s' x'=>match e with
  | .normal=>∃ j,I j∧aE9 s' (T j)∧leX x' (X j)∧μ j<μ i
  | e=>K e s' x')
def evX {P:Program} (X:XE P) (H:Hnd):Code→MS→XS→XK→Prop
 | .skip,s,x,K=>K .normal s x
 | .label _,s,x,K=>K .normal s x
 | .region id ops draw,s,x,K=>uM X H id ops.toList draw (s.frz (X.E.fzs id)) x (K .normal)
 | .seq a b,s,x,K=>evX X H a s x (fun e s' x'=>match e with| .normal=>evX X H b s' x' K|e=>K e s' x')
 | .cond c a b,s,x,K=>(match c with
  | .tmp t=>(match look t s.tm with
   | .bool y=>Br y (evX X H a (s.put t (.bool true)) x K) (evX X H b (s.put t (.bool false)) x K)
   | _=>kL (.cond c .skip .skip))
  | _=>kL (.cond c .skip .skip))
 | .block id c,s,x,K=>evX X H c s x (fun e s' x'=>match e with| .exit j=>cond (j.beq id) (K .normal s' x') (K (.exit j) s' x')|e=>K e s' x')
 | .loop c,s,x,K=>aH0 (bR c) (evX X H c) (X.xann (bR c) s x) s x K
 | .exit id,s,x,K=>K (.exit id) s x
 | .ret,s,x,K=>K .ret s x
 | .rangeFunc g ps a b,s,x,K=>H.rng g ps a b s x K
 | c,_,_,_=>kL c
def aLF:Op→Bool
 | .defer _=>false
 | _=>true
def d9:Code→Bool
 | .region _ ops _=>ops.toList.all fun o=>aLF o.op
 | .seq a b=>d9 a&&d9 b
 | .cond _ a b=>d9 a&&d9 b
 | .block _ c=>d9 c
 | .loop c=>d9 c
 | .scope c=>d9 c
 | .rangeFunc _ _ a b=>d9 a&&d9 b
 | _=>true
def aBS:List Tmp→List MV→List (Nat×MV)→List (Nat×MV)
 | p::ps,m::ms,l=>aBS ps ms ((p,m)::l)
 | _,_,l=>l
def aC9 {P:Program} (X:XE P) (so:MS) (np:Nat) (ps:Array Tmp) (a b:Code) (ys:List MV) (si:MS) (x:XS) (kN:List Box→Option (Nat×MapC)→Prop) (kX:Ex→List Box→Option (Nat×MapC)→Prop):Prop :=
 cond (ys.length.beq ps.size&&ps.toList.all (fun p=>p.blt so.n)&&si.np.beq np) (evX X Hnd.none a ⟨so.n,aBS ps.toList ys (d4 np so.tm),si.bx,np⟩ ⟨x.mp,none⟩ (fun e s1 x1=>match e with
  | .normal=>evX X Hnd.none b s1 x1 (fun e s2 x2=>match e with
   | .normal=>kN s2.bx x2.mp
   | e=>kX e s2.bx x2.mp)
  | _=>False)) False
def aTp {P:Program} (X:XE P) (g:Operand) (ps:Array Tmp) (a b:Code) (s:MS) (x:XS) (K:XK):Prop :=
 match g with
 | .tmp t=>(match look t s.tm with
  | .fn f caps=>(match qY f X.its with
   | some ie=>(match ie.fn.body with
    | some c=>(match x.pe with
     | none=>cond ((caps.length+1).ble ie.fn.ntmps&&ie.fn.results.size.beq 0&&d9 a&&d9 b&&d9 c)
       (∀ L:Nat,evX { X with E:=ie.E,xann:=ie.xann,all:=fun _=>none } ⟨L,aC9 X s (X.rnp (bR b)) ps a b,fun _ _ _ _ _ _ _=>False⟩ c
        ⟨ie.fn.ntmps,(0,.val (.func (.yield L) #[] #[]))::dM 1 caps,s.bx,X.rnp (bR b)⟩ x (fun e s' x'=>match e with
        | .exit _=>False
        | _=>(match x'.pe with
         | none=>K .normal ⟨s.n,d4 (X.rnp (bR b)) s.tm,s'.bx,s.np⟩ ⟨x'.mp,none⟩
         | some e=>K e ⟨s.n,d4 (X.rnp (bR b)) s.tm,s'.bx,s.np⟩ ⟨x'.mp,none⟩))) False
     | some _=>False)
    | none=>False)
   | none=>False)
  | _=>False)
 | _=>False
def hFn {P:Program} (X:XE P):Hnd:=⟨0,fun _ _ _ _ _=>False,aTp X⟩
def vD {P:Program} (X:XE P) (fn:Func) (args:List MV) (post:MRes→Prop):Prop :=
 match fn.body with
 | some c=>cond (args.length.ble fn.ntmps&&d9 c) (evX X (hFn X) c ⟨fn.ntmps,dM 0 args, [],0⟩ ⟨none,none⟩ (fun e s _=>match e with
  | .exit _=>False
  | _=>match gL P s fn.results.toList with
   | some (p,l)=>lB p <| post (.ret (mG l))
   | none=>rS s)) False
 | none=>False
structure Moved (N:Nat) (w w':World):Prop where
 os:w'.os=w.os
 output:w'.output=w.output
 size:w.heap.size≤w'.heap.size
 cells:∀ (b:Nat) arr ty fr,w.heap[b]? =some (Obj.cells arr ty fr)→w'.heap[b]? =some (Obj.cells arr ty fr)
 lo:∀ k,k<N→w'.heap[k]? =w.heap[k]?
 frz:∀ a:Addr,a.block<w.heap.size→w'.frozen? a=w.frozen? a
theorem Moved.refl (N:Nat) (w:World):Moved N w w:=⟨rfl,rfl,Nat.le_refl _,fun _ _ _ _ h=>h,fun _ _=>rfl,fun _ _=>rfl⟩
theorem Moved.trans {N:Nat} {a b c:World} (h:Moved N a b) (k:Moved N b c):Moved N a c :=
 ⟨k.os.trans h.os,k.output.trans h.output,Nat.le_trans h.size k.size,fun i x y z e=>k.cells i x y z (h.cells i x y z e),fun i hi=>(k.lo i hi).trans (h.lo i hi),fun x hx=>(k.frz x (Nat.lt_of_lt_of_le hx h.size)).trans (h.frz x hx)⟩
theorem Moved.alloc {N:Nat} {w:World} (hN:N≤w.heap.size) (o:Obj):Moved N w (w.alloc o):=by
 have hb:∀ k,k<w.heap.size→(w.alloc o).heap[k]? =w.heap[k]? :=fun k hk=>Below.heap_alloc w o k hk
 exact ⟨rfl,rfl,by simp,fun b arr ty fr h=>(hb b (Array.getElem?_eq_some_iff.1 h).1).trans h,fun k hk=>hb k (by omega),fun a ha=>World.frozen?_of_block (hb _ ha)⟩
theorem Moved.put {N:Nat} {w:World} {e:Nat} {o o':Obj} (he:w.heap[e]? =some o) (hN:N≤e) (ho:o.isCells=false) (ho':o'.isCells=false):Moved N w (w.putObj e o'):=by
 have hlt:=(Array.getElem?_eq_some_iff.1 he).1
 refine ⟨rfl,rfl,by simp,fun b arr ty fr h=>?_,fun k hk=>World.putObj_heap_other (by omega),fun a ha=>?_⟩
 ·refine (World.putObj_heap_other fun q=>?_).trans h
  subst q
  rw [he,Option.some.injEq] at h
  subst h
  simp [Obj.isCells] at ho
 ·by_cases hk:a.block=e
  ·unfold World.frozen?
   rw [hk,World.putObj_heap_same hlt,he]
   cases o <;> cases o' <;> first|rfl|(simp [Obj.isCells] at ho ho')
  ·exact World.frozen?_of_block (World.putObj_heap_other hk)
theorem seg.moved {N:Nat} {w w':World} (h:Moved N w w') {b off:Nat} {cs:List Value} (s:seg w b off cs):seg w' b off cs:=by
 obtain ⟨arr,ty,fr,h1,h2⟩:=s
 exact ⟨arr,ty,fr,h.cells _ _ _ _ h1,h2⟩
theorem WordsR.moved {N:Nat} {c:Ctx} {w w':World} (h:Moved N w w') {l:List Int} {s:Value} (r:WordsR c w l s):WordsR c w' l s:=by
 obtain ⟨a,cap,h1,h2,h3⟩:=r
 refine ⟨a,cap,h1,h2,fun hl=>?_⟩
 obtain ⟨b,off,h4,h5,h6⟩:=h3 hl
 exact ⟨b,off,h4,h5,h6.moved h⟩
mutual
theorem RepC.moved {N:Nat} {w w':World} (k:Moved N w w'):∀ (m:MV) (c:Ctx) (vs:List Value),RepC c w m vs→RepC c w' m vs
 | .any,c,vs,h=>h
 | .junk n,c,vs,h=>h
 | .bool _,c,vs,h=>h
 | .int _ _,c,vs,h=>h
 | .val _,c,vs,h=>h
 | .big _ _,c,vs,h=>by obtain ⟨s,h1,h2,h3⟩:=h;exact ⟨s,h1,h2,h3.moved k⟩
 | .ws _,c,vs,h=>by obtain ⟨s,h1,h2⟩:=h;exact ⟨s,h1,h2.moved k⟩
 | .sl wd len f,c,vs,h=>by
  obtain ⟨a,cap,h1,h2,h3⟩:=h
  refine ⟨a,cap,h1,h2,fun hl=>?_⟩
  obtain ⟨b,off,h4,h5,h6⟩:=h3 hl
  refine ⟨b,off,h4,h5,fun i hi=>?_⟩
  obtain ⟨cs,h7,h8,h9⟩:=h6 i hi
  exact ⟨cs,h7,RepC.moved k (f i) c.elem cs h8,h9.moved k⟩
 | .st ms,c,vs,h=>RepCs.moved k ms c vs h
 | .ref m,c,vs,h=>by
  obtain ⟨b,off,cs,h1,h2,h3,h4⟩:=h
  exact ⟨b,off,cs,h1,h2,RepC.moved k m c cs h3,h4.moved k⟩
 | .bp i off,c,vs,h=>h
 | .br i _ _,c,vs,h=>h
 | .bs i off len,c,vs,h=>h
 | .tup _,c,vs,h=>h.elim
 | .fn f caps,c,vs,h=>by
  obtain ⟨cs,h1,h2,h3⟩:=h
  exact ⟨cs,h1,RepCs.moved k caps c cs h2,h3⟩
 | .iface t m,c,vs,h=>by
  obtain ⟨cs,u,h1,h2,h3⟩:=h
  exact ⟨cs,u,h1,RepC.moved k m c cs h2,h3⟩
 | .emp,c,vs,h=>h
theorem RepCs.moved {N:Nat} {w w':World} (k:Moved N w w'):∀ (ms:List MV) (c:Ctx) (vs:List Value),RepCs c w ms vs→RepCs c w' ms vs
 | [],c,vs,h=>h
 | m::ms,c,vs,h=>by
  obtain ⟨x,y,h1,h2,h3⟩:=h
  exact ⟨x,y,h1,RepC.moved k m c x h2,RepCs.moved k ms c y h3⟩
end
theorem Rep1.moved {N:Nat} {c:Ctx} {w w':World} (k:Moved N w w') {m:MV} {v:Value} (h:Rep1 c w m v):Rep1 c w' m v:=by
 by_cases hn:m= .any
 ·subst hn;trivial
 ·cases hg:m.isAgg with
  | true =>
   rw [dD hg] at h⊢
   obtain ⟨cs,h1,h2⟩:=h
   exact ⟨cs,h1,RepC.moved k m c _ h2⟩
  | false =>
   rw [aS hg hn] at h⊢
   exact RepC.moved k m c _ h
theorem RepAll.moved {N:Nat} {c:Ctx} {w w':World} (k:Moved N w w'):∀ (ms:List MV) (vs:List Value),RepAll c w ms vs→RepAll c w' ms vs
 | [],_,h=>h
 | _::ms,_,h=>by
  obtain ⟨v,r,h1,h2,h3⟩:=h
  exact ⟨v,r,h1,Rep1.moved k h2,RepAll.moved k ms r h3⟩
theorem Rep.moved {N:Nat} {c:Ctx} {w w':World} (k:Moved N w w') {m:MV} {v:Value} (h:Rep c w m v):Rep c w' m v:=by
 cases hm:m.isTup with
 | false=>exact (aZ hm).2 (((aZ hm).1 h).moved k)
 | true =>
  cases m <;> simp [MV.isTup] at hm
  obtain ⟨vs,h1,h2⟩:=h
  exact ⟨vs,h1,RepAll.moved k _ _ h2⟩
theorem BCRep.moved {N:Nat} {c:Ctx} {w w':World} (k:Moved N w w') {b:BC} {arr:Array Value} (h:BCRep c w b arr):BCRep c w' b arr:=by
 cases b with
 | one m=>obtain ⟨cs,h1,h2⟩:=h;exact ⟨cs,RepC.moved k m c cs h1,h2⟩
 | arr _ _=>exact h
 | rows wd len f =>
  intro i hi
  obtain ⟨cs,h1,h2,h3⟩:=h i hi
  exact ⟨cs,h1,RepC.moved k (f i) c.elem cs h2,h3⟩
theorem BoxRep.moved {N:Nat} {c:Ctx} {w w':World} (k:Moved N w w') {i:Nat} {b:Box} (h:BoxRep c w i b):BoxRep c w' i b:=by
 obtain ⟨arr,ty,h1,h2,h3,h4⟩:=h
 exact ⟨arr,ty,k.cells _ _ _ _ h1,h2,h3,h4.moved k⟩
def aR9 (c:Ctx) (b:Nat):Prop:=∃ i,c.live i∧c.β i=b
abbrev gP (w:World) (c:Ctx) (pin:Nat→Nat→Sz→Prop) (df:List Deferred):Base:=⟨w,aR9 c,pin,df⟩
theorem Mem.moved {S0:Nat→Prop} {w1:Base} {bx:List Box} {c:Ctx} {w w':World} {N:Nat} (h:Mem S0 w1 bx c w) (k:Moved N w w') (pin:Nat→Nat→Sz→Prop) (df:List Deferred)
  (hp:∀ i b z,pin i b z→c.live i∧c.β i=b∧c.sz i=z):Mem S0 (gP w' c pin df) bx c w':=by
 refine ⟨⟨rfl,rfl,Nat.le_refl _,fun _ _ _=>rfl,fun _ _=>rfl⟩,fun b hb=>⟨?_,?_⟩,⟨fun hg=>?_,fun hg=>?_⟩,h.hS,h.hW,h.inj,fun i hi=>⟨.inr ⟨i,hi,rfl⟩,Nat.lt_of_lt_of_le (h.fresh i hi).2.1 k.size,(h.fresh i hi).2.2⟩,fun i b hi hb=>(h.box i b hi hb).moved k,hp⟩
 ·exact Nat.lt_of_lt_of_le (h.S0lt b hb).1 (Nat.le_trans h.ext.size k.size)
 ·rintro ⟨i,hi,rfl⟩
  exact h.notS0 hi hb
 ·obtain ⟨g1,g2,arr,ty,fr,g3,g4⟩:=h.gl.1 hg
  exact ⟨g1,Nat.lt_of_lt_of_le g2 (Nat.le_trans h.ext.size k.size),arr,ty,fr,k.cells _ _ _ _ ((h.ext.block _ g2 (h.gl.2 hg)).trans g3),g4⟩
 ·rintro ⟨i,hi,e⟩
  obtain ⟨_,g2,_⟩:=h.gl.1 hg
  rcases (h.fresh i hi).1 with q|q
  ·rw [e] at q;exact absurd g2 (by omega)
  ·exact h.gl.2 hg (e ▸ q)
structure Reb (w0 w1:Base):Prop where
 ext:ExtB w0 w1.w
 X:∀ b,w1.X b→w0.new b
theorem Reb.refl (w0:Base):Reb w0 w0:=⟨⟨rfl,rfl,Nat.le_refl _,fun _ _ _=>rfl,fun _ _=>rfl⟩,fun _ h=> .inr h⟩
theorem Reb.end_ {w0 w1:Base} (h:Reb w0 w1) {w:World} (e:ExtB w1 w):ExtB w0 w :=
 ⟨e.os.trans h.ext.os,e.output.trans h.ext.output,Nat.le_trans h.ext.size e.size,fun k hk hx=>(e.block k (Nat.lt_of_lt_of_le hk h.ext.size) (fun q=>(h.X k q).elim (fun r=>by omega) hx)).trans (h.ext.block k hk hx),
  fun a ha=>(e.frz a (Nat.lt_of_lt_of_le ha h.ext.size)).trans (h.ext.frz a ha)⟩
theorem Reb.move {S0:Nat→Prop} {w0 w1:Base} {bx:List Box} {c:Ctx} {w w':World} (h:Reb w0 w1) (m:Mem S0 w1 bx c w) (k:Moved w0.w.heap.size w w') (pin:Nat→Nat→Sz→Prop) (df:List Deferred):Reb w0 (gP w' c pin df):=by
 have e:=h.end_ m.ext
 refine ⟨⟨k.os.trans e.os,k.output.trans e.output,Nat.le_trans e.size k.size,fun i hi hx=>(k.lo i hi).trans (e.block i hi hx),fun a ha=>(k.frz a (Nat.lt_of_lt_of_le ha e.size)).trans (e.frz a ha)⟩,?_⟩
 rintro b ⟨i,hi,rfl⟩
 rcases (m.fresh i hi).1 with q|q
 ·exact .inl (Nat.le_trans h.ext.size q)
 ·exact h.X _ q
structure Extn (w0 w1:Base) (e:Nat) (o:Obj):Prop where
 at_:w1.w.heap[e]? =some o
 notX:¬ w1.X e
 lo:w0.w.heap.size≤e
theorem Extn.now {S0:Nat→Prop} {w0 w1:Base} {bx:List Box} {c:Ctx} {w:World} {e:Nat} {o:Obj} (h:Extn w0 w1 e o) (m:Mem S0 w1 bx c w):w.heap[e]? =some o∧¬ aR9 c e:=by
 have hlt:=(Array.getElem?_eq_some_iff.1 h.at_).1
 refine ⟨(m.ext.block e hlt h.notX).trans h.at_,?_⟩
 rintro ⟨i,hi,rfl⟩
 rcases (m.fresh i hi).1 with q|q
 ·omega
 ·exact h.notX q
def oP (D:Nat):Deferred:={ target:= .collected D,args:=#[] }
def jT (q:IntKind) (l:List Int):Value:= .agg (l.map (Value.int q)).toArray
structure MapTy (P:Program) (m:MapC):Prop where
 ex:∃ e,WideMaps.ArrKey P m.kt e m.n∧P.underlying e=some (.int m.kk)
 size:∃ k,P.types.size=k+1
def aHv:Option IntKind→Value→Prop
 | none,v=>v= .bool true
 | some k,v=>∃ z,v= .int k z
def MapOk (m:MapC) (o:Obj):Prop:=∃ es clock,o= .map es clock∧(∀ e∈es.toList,∃ l,l.length=m.n∧wfL m.kk l∧e.key=jT m.kk l∧aHv m.vk e.val∧m.f l=true)∧
 ∀ l,l.length=m.n→m.f l=true→∃ e∈es.toList,e.key=jT m.kk l
structure Out (P:Program) (w0 w1:Base) (zl:List (Nat×Obj)) (Ds:List Nat) (mp:Option (Nat×MapC)):Prop where
 reb:Reb w0 w1
 nd:Ds.Nodup
 ds:∀ D∈Ds,Extn w0 w1 D (.deferred (some []))
 zs:∀ z∈zl,Extn w0 w1 z.1 z.2
 mp:∀ B m,mp=some (B,m)→MapTy P m∧∃ o,MapOk m o∧Extn w0 w1 B o
 dis:∀ z∈zl,z.1 ∉ Ds
def XSt (P:Program) (S0:Nat→Prop) (w0:Base) (pin:Nat→Nat→Sz→Prop) (zs:Option Ex→List (Nat×Obj)) (s:MS) (x:XS) (c:Ctx) (a:Act) (w:World):Prop :=
 ∃ (w1:Base) (Ds:List Nat),Out P w0 w1 (zs x.pe) Ds x.mp∧St S0 w1 s c a w∧(∀ i b z,pin i b z→w1.pin i b z)∧w1.df=Ds.map oP
theorem Extn.move {S0:Nat→Prop} {w0 w1:Base} {bx:List Box} {c:Ctx} {w w':World} {e:Nat} {o:Obj} (h:Extn w0 w1 e o) (m:Mem S0 w1 bx c w) (hw:w'.heap[e]? =w.heap[e]?) (pin:Nat→Nat→Sz→Prop) (df:List Deferred):Extn w0 (gP w' c pin df) e o :=
 let ⟨h1,h2⟩:=h.now m
 ⟨hw.trans h1,h2,h.lo⟩
theorem MapOk.notCells {m:MapC} {o:Obj} (h:MapOk m o):o.isCells=false:=by
 obtain ⟨es,clock,rfl,_⟩:=h
 rfl
theorem Out.move {P:Program} {S0:Nat→Prop} {w0 w1:Base} {zl:List (Nat×Obj)} {Ds:List Nat} {mp:Option (Nat×MapC)} {bx:List Box} {c:Ctx} {w w':World} (h:Out P w0 w1 zl Ds mp) (m:Mem S0 w1 bx c w) (k:Moved w0.w.heap.size w w')
  (he:∀ e,e<w.heap.size→¬ aR9 c e→w'.heap[e]? =w.heap[e]?) (pin:Nat→Nat→Sz→Prop) (df:List Deferred):Out P w0 (gP w' c pin df) zl Ds mp:=by
 have hx:∀ e o,Extn w0 w1 e o→Extn w0 (gP w' c pin df) e o:=fun e o q=>by
  have:=q.now m
  exact q.move m (he e (Array.getElem?_eq_some_iff.1 this.1).1 this.2) pin df
 exact ⟨h.reb.move m k pin df,h.nd,fun D hD=>hx _ _ (h.ds D hD),fun z hz=>hx _ _ (h.zs z hz),fun B m hB=>by
  obtain ⟨q1,o,q2,q3⟩:=h.mp B m hB
  exact ⟨q1,o,q2,hx _ _ q3⟩,h.dis⟩
theorem XSt.with_ {P:Program} {S0:Nat→Prop} {w0:Base} {pin:Nat→Nat→Sz→Prop} {zs:Option Ex→List (Nat×Obj)} {s:MS} {x:XS} {c:Ctx} {a:Act} {w:World} (h:XSt P S0 w0 pin zs s x c a w) :
  ∃ w1,St S0 w1 s c a w∧Reb w0 w1∧∀ s' c' a' w',St S0 w1 s' c' a' w'→XSt P S0 w0 pin zs s' x c' a' w':=by
 obtain ⟨w1,Ds,h1,h2,h3,h4⟩:=h
 exact ⟨w1,h2,h1.reb,fun s' c' a' w' hs=>⟨w1,Ds,h1,hs,h3,h4⟩⟩
theorem XSt.le {P:Program} {S0:Nat→Prop} {w0:Base} {pin:Nat→Nat→Sz→Prop} {zs:Option Ex→List (Nat×Obj)} {s t:MS} {x:XS} {q:Option (Nat×MapC)} {c:Ctx} {a:Act} {w:World} (h:XSt P S0 w0 pin zs s x c a w) (hle:aE9 s t) (hx:leX x q):∃ c',XSt P S0 w0 pin zs t ⟨q,none⟩ c' a w:=by
 obtain ⟨w1,Ds,h1,h2,h3,h4⟩:=h
 obtain ⟨c',h2'⟩:=h2.le hle
 unfold leX at hx
 split at hx
 ·exact hx.elim
 ·rename_i hpe
  refine ⟨c',w1,Ds,⟨h1.reb,h1.nd,h1.ds,by rw [← hpe];exact h1.zs,fun B m hBm=>?_,by rw [← hpe];exact h1.dis⟩,h2',h3,h4⟩
  simp only at hBm
  subst hBm
  simp only at hx
  split at hx
  ·exact hx.elim
  ·rename_i B' m' hmp
   obtain ⟨rfl,e1,e2,e3,e4,hf⟩:=hx
   obtain ⟨⟨⟨e,k1,k2⟩,k3⟩,o,⟨es,clock,ho,o1,o2⟩,hext⟩:=h1.mp B' m' hmp
   rw [e1,e3] at k1
   rw [e2] at k2
   refine ⟨⟨⟨e,k1,k2⟩,k3⟩,o,⟨es,clock,ho,fun y hy=>?_,fun l hl hfl=>?_⟩,hext⟩
   ·obtain ⟨l,q1,q2,q3,q4,q5⟩:=o1 y hy
    exact ⟨l,q1.trans e3,by rw [← e2];exact q2,by rw [← e2];exact q3,by rw [← e4];exact q4,by rw [← hf l (q1.trans e3)];exact q5⟩
   ·obtain ⟨y,hy,hk⟩:=o2 l (hl.trans e3.symm) (by rw [hf l hl];exact hfl)
    exact ⟨y,hy,by rw [← e2];exact hk⟩
section
theorem qZ {P:Program} {m:MapC} (hT:MapTy P m) {l:List Int} (hl:l.length=m.n) (hw:wfL m.kk l):∃ k,keyOf P m.kt (jT m.kk l)=some k:=by
 obtain ⟨⟨e,A,he⟩,hs⟩:=hT
 have hk:=A.keyType hs
 obtain ⟨q,hq⟩:=hs
 have hq2:P.types.size+1=q+2:=by omega
 refine ⟨.string (keyBytes (l.map (Lit.int m.kk))),?_⟩
 unfold keyOf
 rw [A.hu]
 simp only
 rw [if_pos (by simp [hk,Value.formed,jT,A.hu,A.size,hl])]
 rw [show (jT m.kk l).cells.toList=l.map (Value.int m.kk) from by simp [jT,Value.cells],hq2,m6 A.hu he A.one A.size hl (yM hw) q]
 rfl
theorem aAN {q:IntKind}:∀ (a b:List Int),a.map (Value.int q)=b.map (Value.int q)→a=b
 | [], [],_=>rfl
 | [],_::_,h=>by simp at h
 | _::_, [],h=>by simp at h
 | x::a,y::b,h=>by
  simp only [List.map_cons,List.cons.injEq,Value.int.injEq,true_and] at h
  rw [h.1,aAN a b h.2]
theorem aLw {q:IntKind} {a b:List Int} (h:jT q a=jT q b):a=b:=by
 simp only [jT,Value.agg.injEq] at h
 exact aAN a b (by simpa using congrArg Array.toList h)
theorem aAe {P:Program} {t kt:TypeId} {q:IntKind} {n:Nat} {vk:Option IntKind} (h:aId P t=some (kt,q,n,vk)):∃ et e,P.underlying t=some (.map kt et)∧True∧WideMaps.ArrKey P kt e n∧P.underlying e=some (.int q)∧(∃ k,P.types.size=k+1)∧∀ w,(zeroValue et).run P w= .ok (aI3 vk) w:=by
 unfold aId at h
 split at h
 ·rename_i kt' et hu
  split at h
  ·rename_i vk' hb
   split at h
   ·rename_i n' e hk
    split at h
    ·rename_i q' he
     cases hc:((P.cellsOf e).beq 1&&(P.cellsOf kt').beq n'&&(0).blt P.types.size&&aHt P et vk') with
     | false=>rw [hc] at h;simp at h
     | true =>
      rw [hc] at h
      simp only [cond_true,Option.some.injEq,Prod.mk.injEq] at h
      obtain ⟨rfl,rfl,rfl,rfl⟩:=h
      simp only [Bool.and_eq_true,Nat.beq_eq,Nat.blt_eq] at hc
      obtain ⟨⟨⟨h1,h2⟩,h3⟩,h4⟩:=hc
      refine ⟨et,e,hu,⟨⟩,⟨hk,by simp [Program.plainKey,he],h1,h2⟩,he,⟨P.types.size -1,by omega⟩,fun w=>?_⟩
      unfold aHt at h4
      split at h4
      ·rename_i i hi
       split at h4
       ·rename_i v hv
        split at h4
        ·rename_i b
         split at h4
         ·simp only [Bool.not_eq_true'] at h4
          subst h4
          simp [zeroValue,typeInfo,hi,hv,Sem.run_bind,go_sem,Result.andThen,aI3]
         ·simp at h4
        ·rename_i k z
         split at h4
         ·simp at h4
         ·simp only [Bool.and_eq_true,beq_iff_eq] at h4
          obtain ⟨rfl,rfl⟩:=h4
          simp [zeroValue,typeInfo,hi,hv,Sem.run_bind,go_sem,Result.andThen,aI3]
        ·simp at h4
       ·simp at h4
      ·simp at h4
    ·simp at h
   ·simp at h
  ·simp at h
 ·simp at h
section
variable {P:Program} {m:MapC} {w:World} {B:Nat} {o:Obj} {l:List Int} {t:TypeId}
theorem aAf (hT:MapTy P m) (hm:MapOk m o) (hl:l.length=m.n) (hw:wfL m.kk l):∃ es clock,o= .map es clock∧(Instr.checkKey es.isEmpty 10000 m.kt (jT m.kk l)).run P w= .ok () w∧(Instr.checkKey false 10000 m.kt (jT m.kk l)).run P w= .ok () w∧
  (((Instr.findKey m.kt (jT m.kk l) es.toList).run P w= .ok none w∧m.f l=false)∨∃ j e,(Instr.findKey m.kt (jT m.kk l) es.toList).run P w= .ok (some (j,e.val)) w∧es[j]? =some e∧e.key=jT m.kk l∧aHv m.vk e.val∧m.f l=true):=by
 obtain ⟨es,clock,rfl,h1,h2⟩:=hm
 obtain ⟨kl,hkl⟩:=qZ hT hl hw
 obtain ⟨⟨e,A,he⟩,hs⟩:=hT
 have K:=A.law
 refine ⟨es,clock,rfl,K.check w _ hkl,K.check w _ hkl,?_⟩
 have hall:∀ x∈es.toList,∃ l,keyOf P m.kt x.key=some l:=by
  intro x hx
  obtain ⟨l',q1,q2,q3,_⟩:=h1 x hx
  rw [q3]
  exact qZ ⟨⟨e,A,he⟩,hs⟩ q1 q2
 rcases K.find w hkl es.toList hall with ⟨h3,h4⟩|⟨j,x,h3,h4,h5⟩
 ·refine .inl ⟨h3,?_⟩
  cases hf:m.f l with
  | false=>rfl
  | true =>
   obtain ⟨x,hx,hk⟩:=h2 l hl hf
   exact absurd hk (h4 x hx)
 ·have hx:x∈es.toList:=List.mem_of_getElem? h4
  obtain ⟨l',q1,q2,q3,q4,q5⟩:=h1 x hx
  have:l'=l:=aLw (q3.symm.trans h5)
  subst this
  exact .inr ⟨j,x,h3,by simpa using h4,h5,q4,q5⟩
theorem aG8 (hT:MapTy P m) (hvk:m.vk=none) (hm:MapOk m o) (hB:w.heap[B]? =some o) (hl:l.length=m.n) (hw:wfL m.kk l) {et:TypeId} (ht:P.underlying t=some (.map m.kt et)) (hz:(zeroValue et).run P w= .ok (.bool false) w) :
  (Instr.lookup t (.map (some B)) (jT m.kk l) false).run P w= .ok (.bool (m.f l)) w:=by
 obtain ⟨es,clock,rfl,h1,_,h2⟩:=aAf (P:=P) (w:=w) hT hm hl hw
 rcases h2 with ⟨h3,h4⟩|⟨j,e,h3,_,_,h6,h7⟩
 ·simp [Instr.lookup,run_underlying ht,MapKept.run_getObj_map hB,Sem.run_bind,Result.andThen,h1,h3,h4,hz]
 ·rw [hvk] at h6
  have h6:e.val= .bool true:=h6
  simp [Instr.lookup,run_underlying ht,MapKept.run_getObj_map hB,Sem.run_bind,Result.andThen,h1,h3,h6,h7]
theorem aFx (hT:MapTy P m) {k:IntKind} (hvk:m.vk=some k) (hm:MapOk m o) (hB:w.heap[B]? =some o) (hl:l.length=m.n) (hw:wfL m.kk l) {et:TypeId} (ht:P.underlying t=some (.map m.kt et)) (hz:(zeroValue et).run P w= .ok (.int k 0) w) :
  ∃ z,(Instr.lookup t (.map (some B)) (jT m.kk l) true).run P w= .ok (.tuple #[.int k z,.bool (m.f l)]) w:=by
 obtain ⟨es,clock,rfl,h1,_,h2⟩:=aAf (P:=P) (w:=w) hT hm hl hw
 rcases h2 with ⟨h3,h4⟩|⟨j,e,h3,_,_,h6,h7⟩
 ·exact ⟨0,by simp [Instr.lookup,run_underlying ht,MapKept.run_getObj_map hB,Sem.run_bind,Result.andThen,h1,h3,h4,hz]⟩
 ·rw [hvk] at h6
  obtain ⟨z,h6⟩:=h6
  exact ⟨z,by simp [Instr.lookup,run_underlying ht,MapKept.run_getObj_map hB,Sem.run_bind,Result.andThen,h1,h3,h6,h7]⟩
theorem aG9 (hT:MapTy P m) {v:Value} (hv:aHv m.vk v) (hm:MapOk m o) (hB:w.heap[B]? =some o) (hl:l.length=m.n) (hw:wfL m.kk l) {et:TypeId} (ht:P.underlying t=some (.map m.kt et)) :
  ∃ o',(Instr.mapUpdate t (.map (some B)) (jT m.kk l) v).run P w= .ok () (w.putObj B o')∧MapOk (m.add l) o':=by
 have hm0:=hm
 obtain ⟨es,clock,rfl,_,h1,h2⟩:=aAf (P:=P) (w:=w) hT hm hl hw
 obtain ⟨es',clock',ho,g1,g2⟩:=hm0
 simp only [Obj.map.injEq] at ho
 obtain ⟨rfl,rfl⟩:=ho
 obtain ⟨kl,hkl⟩:=qZ hT hl hw
 have hst:(Instr.keyThatStays (jT m.kk l) (jT m.kk l)).run P w= .ok (jT m.kk l) w:=by
  obtain ⟨⟨e,A,he⟩,hs⟩:=hT
  exact A.law.stays w hkl
 have hadd:∀ l',(m.add l).f l'=true↔l'=l∨m.f l'=true:=fun l'=>by simp [MapC.add,pG]
 rcases h2 with ⟨h3,h4⟩|⟨j,e,h3,h5,h6,h7,h8⟩
 ·refine ⟨.map (es.push { key:=jT m.kk l,val:=v,born:=clock }) (clock+1),?_,_,_,rfl,?_,?_⟩
  ·simp [Instr.mapUpdate,run_underlying ht,MapKept.run_getObj_map hB,Sem.run_bind,Result.andThen,h1,h3,MapKept.run_setObj_map _ hB,World.putObj]
  ·intro x hx
   simp only [Array.toList_push,List.mem_append,List.mem_singleton] at hx
   rcases hx with hx|rfl
   ·obtain ⟨l',q1,q2,q3,q4,q5⟩:=g1 x hx
    exact ⟨l',q1,q2,q3,q4,(hadd l').2 (.inr q5)⟩
   ·exact ⟨l,hl,hw,rfl,hv,(hadd l).2 (.inl rfl)⟩
  ·intro l' hl' hf
   rcases (hadd l').1 hf with rfl|hf
   ·exact ⟨⟨jT m.kk l',v,clock⟩,by simp,rfl⟩
   ·obtain ⟨x,hx,hk⟩:=g2 l' hl' hf
    exact ⟨x,by simp;exact .inl (by simpa using hx),hk⟩
 ·refine ⟨.map (es.modify j fun e=>{ e with key:=jT m.kk l,val:=v }) clock,?_,_,_,rfl,?_,?_⟩
  ·simp [Instr.mapUpdate,run_underlying ht,MapKept.run_getObj_map hB,Sem.run_bind,Result.andThen,h1,h3,h5,h6,hst,MapKept.run_setObj_map _ hB,World.putObj]
  ·intro x hx
   obtain ⟨i,hi⟩:=List.mem_iff_getElem?.1 hx
   rw [Array.getElem?_toList,Array.getElem?_modify] at hi
   by_cases hij:j=i
   ·subst hij
    rw [if_pos rfl,h5] at hi
    simp only [Option.map_some,Option.some.injEq] at hi
    subst hi
    exact ⟨l,hl,hw,rfl,hv,(hadd l).2 (.inl rfl)⟩
   ·rw [if_neg hij] at hi
    obtain ⟨l',q1,q2,q3,q4,q5⟩:=g1 x (by rw [← Array.getElem?_toList] at hi;exact List.mem_of_getElem? hi)
    exact ⟨l',q1,q2,q3,q4,(hadd l').2 (.inr q5)⟩
  ·intro l' hl' hf
   have hf:m.f l'=true:=by
    rcases (hadd l').1 hf with rfl|hf
    ·exact h8
    ·exact hf
   obtain ⟨x,hx,hk⟩:=g2 l' hl' hf
   obtain ⟨i,hi⟩:=List.mem_iff_getElem?.1 hx
   rw [Array.getElem?_toList] at hi
   by_cases hij:j=i
   ·subst hij
    rw [h5,Option.some.injEq] at hi
    subst hi
    refine ⟨{ e with key:=jT m.kk l,val:=v },List.mem_of_getElem? (i:=j) ?_,?_⟩
    ·rw [Array.getElem?_toList,Array.getElem?_modify,if_pos rfl,h5];rfl
    ·exact h6.symm.trans hk
   ·refine ⟨x,List.mem_of_getElem? (i:=i) ?_,hk⟩
    rw [Array.getElem?_toList,Array.getElem?_modify,if_neg hij];exact hi
end
end
section
structure Fw (F:Fence) (P:Program):Prop where
 fn:∀ f,F.fn f
 depth:F.depth=none
 sem:∀ (o:Oper) (ρ:Operand→Value),(∀ c,o.op≠ .defer c)→o.semAt F.round ρ=execOp ρ o
 calls:∀ {n:Nat} {f:FuncId} {args:Array Value} {w:World} {R:Ending→World→Prop},Calls P f args w R→CallsIn F n P f args w R
 rows:∀ {n:Nat} {row:String} {args:Array Value} {w:World} {R:Value→World→Prop},Rows P row args w R→RowsIn F n P row args w R
theorem aH6 (P:Program):Fw Fence.wide P :=
 ⟨fun _=>trivial,rfl,fun _ _ _=>rfl,fun h=>callsIn_wide.2 h,fun h c cs _=>let ⟨v,w',r,s⟩:=h c cs;⟨v,w',r,stepsIn_wide.2 s⟩⟩
theorem aE0 (P:Program) (l:Nat):Fw (Fence.wide.inRound l) P :=
 ⟨fun _=>trivial,rfl,fun o ρ h=>Oper.semAt_some l ρ o h,fun h=>CallsIn.inRound l (callsIn_wide.2 h),fun h c cs _=>let ⟨v,w',r,s⟩:=h c cs;⟨v,w',r,stepsIn_wide.2 s⟩⟩
section
variable {F:Fence} {P:Program} {m:Nat} {ops:Array Oper}
theorem o6 (hF:Fw F P) {Q Q1:Exit→Act→World→Prop} (hQ1:∀ a w,¬ Q1 .outgrown a w) (hp:∀ ch a w,Q1 (.panic ch) a w→Q (.panic ch) a w) {rest:List Oper} (hr:∀ a w,Q1 .normal a w→wpListIn F m P ops Q rest a w) :
  ∀ (l:List Oper) (a:Act) (w:World),(∀ o∈l,∀ c,o.op≠ .defer c)→wpList P ops Q1 l a w→wpListIn F m P ops Q (l++rest) a w
 | [],a,w,_,h=>hr a w h
 | o::r,a,w,hd,h=>by
  have ih:=o6 hF hQ1 hp hr r
  have hd':∀ o∈r,∀ c,o.op≠ .defer c:=fun o ho=>hd o (List.mem_cons_of_mem _ ho)
  have hdep:¬ F.depth.isSome=true:=by rw [hF.depth];simp
  unfold wpList at h
  rw [List.cons_append]
  unfold wpListIn
  split at h
  ·rename_i hw
   rw [if_pos hw]
   rcases h with h|⟨_,h⟩
   ·refine ⟨fun f _=>hF.fn f,?_⟩
    rw [hF.sem _ _ (hd o (List.mem_cons_self ..))]
    unfold Oper.wp at h
    generalize (execOp a.eval o).run P w=res at h⊢
    cases res with
    | ok nx w' =>
     cases nx with
     | value v=>exact ih _ _ hd' h
     | skip=>exact ih _ _ hd' h
     | defer d=>exact ih _ _ hd' h
     | enter f args =>
      refine ⟨fun h=>absurd h hdep,hF.calls (Calls.mono h ?_)⟩
      intro e w'' he
      cases e with
      | returned v=>exact ih _ _ hd' he
      | panicked c=>exact hp _ _ _ he
      | outgrown=>exact (let ⟨a,w,q⟩:=he;(hQ1 a w q).elim)
     | row rw args =>
      refine ⟨fun h=>absurd h hdep,hF.rows fun c cs=>?_⟩
      obtain ⟨v,w'',r',s⟩:=h c cs
      exact ⟨v,w'',ih _ _ hd' r',s⟩
     | round l f t x y=>exact h.elim
     | _=>exact h.elim
    | halt hh w' =>
     cases hh
     all_goals first|exact hp _ _ _ h|exact h.elim
   ·exact (let ⟨a,w,q⟩:=h;(hQ1 a w q).elim)
  ·rename_i hw
   rw [if_neg hw]
   exact ⟨fun f _=>hF.fn f,ih _ _ hd' h⟩
theorem aKc (hF:Fw F P) {Q:Exit→Act→World→Prop} (hQ:∀ a w,¬ Q .outgrown a w) {i:Nat} {K K':Act→World→Prop} (hd:∀ o,ops[i]? =some o→∀ c,o.op≠ .defer c) (hK:∀ a w,K a w→K' a w) {a:Act} {w:World} (h:wpOp P ops Q i K a w):wpOpIn F m P ops Q i K' a w:=by
 have hdep:¬ F.depth.isSome=true:=by rw [hF.depth];simp
 unfold wpOp at h
 unfold wpOpIn
 split at h
 ·rename_i hn
  simp only [hn]
  exact hK _ _ h
 ·rename_i o ho
  simp only [ho]
  split at h
  ·rename_i hw
   rw [if_pos hw]
   rcases h with h|⟨_,h⟩
   ·refine ⟨fun f _=>hF.fn f,?_⟩
    rw [hF.sem _ _ (hd o ho)]
    unfold Oper.wp at h
    generalize (execOp a.eval o).run P w=res at h⊢
    cases res with
    | ok nx w' =>
     cases nx with
     | value v=>exact hK _ _ h
     | skip=>exact hK _ _ h
     | defer d=>exact hK _ _ h
     | enter f args =>
      refine ⟨fun h=>absurd h hdep,hF.calls (Calls.mono h ?_)⟩
      intro e w'' he
      cases e with
      | returned v=>exact hK _ _ he
      | panicked c=>exact he
      | outgrown=>exact he
     | row rw args =>
      refine ⟨fun h=>absurd h hdep,hF.rows fun c cs=>?_⟩
      obtain ⟨v,w'',r',s⟩:=h c cs
      exact ⟨v,w'',hK _ _ r',s⟩
     | round l f t x y=>exact h.elim
     | _=>exact h.elim
    | halt hh w' =>
     cases hh <;> exact h
   ·exact (let ⟨a,w,q⟩:=h;(hQ a w q).elim)
  ·rename_i hw
   rw [if_neg hw]
   exact ⟨fun f _=>hF.fn f,hK _ _ h⟩
theorem aAV (hF:Fw F P) {md:Region.Mode} {Q:Exit→Act→World→Prop} (hQ:∀ a w,¬ Q .outgrown a w) (hd:∀ (i:Nat) o,ops[i]? =some o→∀ c,o.op≠ .defer c):∀ (fuel:Nat) (listed:Array Bool) (a:Act) (w:World),wpAny P md ops Q fuel listed a w→wpAnyIn F m P md ops Q fuel listed a w
 | 0,_,_,_,h=>h
 | fuel+1,_,_,_,h=>⟨h.1,fun i hi=>aKc hF hQ (hd i) (fun a' w'=>aAV hF hQ hd fuel _ a' w') (h.2 i hi)⟩
theorem aGM {ops:Array Oper} (h:(ops.toList.all fun o=>aLF o.op)=true):∀ o∈ops.toList,∀ c,o.op≠ .defer c:=fun o ho c e=>by
 have:=List.all_eq_true.1 h o ho
 rw [e] at this
 simp [aLF] at this
theorem v4 (hmix:P.follows .mixedOrders=true) (hF:Fw F P) {Q:Exit→Act→World→Prop} (hQ:∀ a w,¬ Q .outgrown a w) (hd:(ops.toList.all fun o=>aLF o.op)=true) {draw:Bool} {id:Nat} {a:Act} {w:World} (h:aHu P ops draw Q a w):(Code.region id ops draw).wpIn F m P Q a w:=by
 cases draw with
 | false =>
  refine wpIn_region_list ?_
  have:=o6 (m:=m) (rest:= []) hF (Q:=Q) hQ (fun _ _ _ h=>h) (fun a w h=>h) ops.toList a w (aGM hd) h
  rwa [List.append_nil] at this
 | true=>exact wpIn_region_any hmix (aAV hF hQ (fun i o ho=>aGM hd o (by have:=List.mem_of_getElem? (l:=ops.toList) (i:=i) (a:=o) (by simpa using ho);exact this)) _ _ _ _ h)
end
end
theorem mE (np t:Nat):∀ (l:List (Nat×MV)),look t (d4 np l)=aB3 np (look t l)
 | []=>rfl
 | (u,m)::r=>by
  simp only [d4,look]
  cases u.beq t with
  | true=>rfl
  | false=>exact mE np t r
theorem qF {c c':Ctx} {w w':World} {np:Nat} (hk:∀ i,i<np→c.live i→c'.live i∧c'.β i=c.β i∧c'.sz i=c.sz i) {m:MV} {v:Value} (h:Rep c w m v):Rep c' w' (aB3 np m) v:=by
 cases m <;> try exact trivial
 case bool b=>exact h
 case int k n=>exact h
 case val u=>exact h
 case bp i off =>
  simp only [aB3]
  cases hb:i.blt np with
  | false=>exact trivial
  | true =>
   rw [Nat.blt_eq] at hb
   obtain ⟨h1,h2⟩:=bU h rfl (by simp) rfl
   obtain ⟨q1,q2,_⟩:=hk i hb h1
   exact (aZ rfl).2 ((aS rfl (by simp)).2 ⟨q1,by rw [q2];exact h2⟩)
 case br i idx off =>
  simp only [aB3]
  cases hb:i.blt np with
  | false=>exact trivial
  | true =>
   rw [Nat.blt_eq] at hb
   obtain ⟨h1,h2⟩:=bU h rfl (by simp) rfl
   obtain ⟨q1,q2,q3⟩:=hk i hb h1
   exact (aZ rfl).2 ((aS rfl (by simp)).2 ⟨q1,by rw [q2,q3];exact h2⟩)
 case bs i off len =>
  simp only [aB3]
  cases hb:i.blt np with
  | false=>exact trivial
  | true =>
   rw [Nat.blt_eq] at hb
   obtain ⟨a,cap,h1,h2,h3⟩:=bU h rfl (by simp) rfl
   refine (aZ rfl).2 ((aS rfl (by simp)).2 ⟨a,cap,h1,h2,h3.imp (fun ⟨h4,h5,h6⟩=>?_) id⟩)
   obtain ⟨q1,q2,q3⟩:=hk i hb h5
   exact ⟨by rw [q2];exact h4,q1,by rw [q3];exact h6⟩
theorem St.forget {S0:Nat→Prop} {w0:Base} {w:World} {s:MS} {c:Ctx} {a:Act} (h:St S0 w0 s c a w) (i:Nat):St S0 w0 (s.forget i) c a w:=⟨h.mem.forget i,h.tm,h.size,h.defers,h.np⟩
theorem aGx {P:Program} {o:Oper} {c:Call} {g:Operand} {l:Nat} (ho:o.op= .call c) (hc:c.callee= .value g) {ρ:Operand→Value} (hg:ρ g= .func (.yield l) #[] #[]) (w:World):(execOp ρ o).run P w=(Instr.yield l (c.args.map ρ)).run P w:=by
 simp [execOp,ho,resolve,hc,Deferred.ofValue,hg,invoke]
theorem aGw {P:Program} {o:Oper} {c:Call} {g:Operand} {f:FuncId} (ho:o.op= .call c) (hc:c.callee= .value g) {ρ:Operand→Value} (hg:ρ g= .func (.func f) #[] #[]) (hcf:∀ args w,(callFunc f args).run P w= .ok (.enter f args) w) (w:World):(execOp ρ o).run P w= .ok (.enter f (c.args.map ρ)) w:=by
 simp [execOp,ho,resolve,hc,Deferred.ofValue,hg,invoke,hcf]
theorem uY {c:Ctx} {w:World} {s:MS} {a:Act}:∀ (l:List Operand),(∀ x∈l,Rep c w (s.ev x) (a.eval x))→((l.map s.ev).all fun m=>!m.isTup)=true→RepAll c w (l.map s.ev) (l.map a.eval)
 | [],_,_=>rfl
 | x::l,h,ht=>by
  simp only [List.map_cons,List.all_cons,Bool.and_eq_true,Bool.not_eq_true'] at ht
  exact ⟨_,_,rfl,(aZ ht.1).1 (h x (by simp)),uY l (fun y hy=>h y (by simp [hy])) ht.2⟩
theorem St.at {S0:Nat→Prop} {w1:Base} {s:MS} {c:Ctx} {a:Act} {w w':World} {N:Nat} (h:St S0 w1 s c a w) (k:Moved N w w'):St S0 (gP w' c w1.pin w1.df) s c a w' :=
 ⟨h.mem.moved k w1.pin w1.df h.mem.pin,fun t=>(h.tm t).moved k,h.size,h.defers,h.np⟩
structure YSnd (F:Fence) (n:Nat) (P:Program) (S0:Nat→Prop) (w0:Base) (pin:Nat→Nat→Sz→Prop) (zs:Option Ex→List (Nat×Obj)) (H:Hnd):Prop where
 h:∀ (args:List MV) (s:MS) (mp:Option (Nat×MapC)) (c:Ctx) (a:Act) (w:World) (vs:List Value) kN kX,H.yh args s ⟨mp,none⟩ kN kX→XSt P S0 w0 pin zs s ⟨mp,none⟩ c a w→RepAll c w args vs→
  ∃ f0 tmps assign body,(Instr.yield H.L vs.toArray).run P w= .ok (.round H.L f0 tmps assign body) w∧RoundIn F n P H.L f0 tmps assign body w (fun e w' =>
   (e= .returned (.bool true)∧∃ bx mp' c',kN bx mp'∧XSt P S0 w0 pin zs ⟨s.n,d4 s.np s.tm,bx,s.np⟩ ⟨mp',none⟩ c' a w')∨
   (e= .returned (.bool false)∧∃ e' bx mp' c',kX e' bx mp'∧XSt P S0 w0 pin zs ⟨s.n,d4 s.np s.tm,bx,s.np⟩ ⟨mp',some e'⟩ c' a w'))
theorem XSt.putO {P:Program} {S0:Nat→Prop} {w0:Base} {pin:Nat→Nat→Sz→Prop} {zs:Option Ex→List (Nat×Obj)} {s:MS} {x:XS} {c:Ctx} {a:Act} {w:World} (h:XSt P S0 w0 pin zs s x c a w) {t:Option Nat} {m:MV} {v:Value} (ht:iB t s.n=true) (hr:Rep c w m v) :
  XSt P S0 w0 pin zs (s.putO t m) x c (a.put t v) w:=by
 obtain ⟨w1,h1,_,h3⟩:=h.with_
 exact h3 _ _ _ _ (h1.putO ht hr)
theorem XSt.tm {P:Program} {S0:Nat→Prop} {w0:Base} {pin:Nat→Nat→Sz→Prop} {zs:Option Ex→List (Nat×Obj)} {s:MS} {x:XS} {c:Ctx} {a:Act} {w:World} (h:XSt P S0 w0 pin zs s x c a w) (y:Operand):Rep c w (s.ev y) (a.eval y):=by
 obtain ⟨w1,h1,_,_⟩:=h.with_
 exact (l5 (l:= [y]) fun t _=>h1.tm t) y (by simp)
theorem zU {P:Program} {t:TypeId} {mv kv:MV} {x:XS} {p:Prop} {B:Nat} {m:MapC} {l:List Int} (h:s6 P t mv kv x=some (p,B,m,l)) (hp:p):mv= .val (.map (some B))∧x.mp=some (B,m)∧wfL m.kk l∧l.length=m.n∧
  ∃ ms,kv= .st ms∧gU m.kk ms=some l∧∃ et,P.underlying t=some (.map m.kt et)∧∀ w,(zeroValue et).run P w= .ok (aI3 m.vk) w:=by
 unfold s6 at h
 split at h
 ·split at h
  ·split at h
   ·rename_i B0
    split at h
    ·rename_i B' m' hmp
     split at h
     ·rename_i kt q n vk hty
      split at h
      ·rename_i ms
       split at h
       ·rename_i l' hl'
        cases hc:l'.length.beq n with
        | false=>rw [hc] at h;simp at h
        | true =>
         rw [hc] at h
         simp only [cond_true,Option.some.injEq,Prod.mk.injEq] at h
         obtain ⟨rfl,rfl,rfl,rfl⟩:=h
         obtain ⟨⟨rfl,e1,e2,e3,e4⟩,hw⟩:=hp
         simp only [Nat.beq_eq] at hc
         obtain ⟨et,e,k1,_,_,_,_,k6⟩:=aAe hty
         exact ⟨rfl,hmp,by rw [e2];exact hw,by rw [e3];exact hc,ms,rfl,by rw [e2];exact hl',et,by rw [e1];exact k1,by rw [e4];exact k6⟩
       ·simp at h
      ·simp at h
     ·simp at h
    ·simp at h
   ·simp at h
  ·simp at h
 ·simp at h
theorem aCU {c:Ctx} {w:World} {q:IntKind} {ms:List MV} {l:List Int} {v:Value} (h:gU q ms=some l) (hr:Rep c w (.st ms) v):v=jT q l:=by
 obtain ⟨cs,h1,h2⟩:=(dD rfl).1 ((aZ rfl).1 hr)
 rw [h1,jT,← k9 _ _ _ h h2]
section
section
variable {F:Fence} {P:Program} {n:Nat} {S0:Nat→Prop} {w0:Base} {pin:Nat→Nat→Sz→Prop} {zs:Option Ex→List (Nat×Obj)} {H:Hnd} {X:XE P}
def XOp.callK:XOp→Bool
 | .mk _=>false
 | .look _ _ _=>false
 | .look2 _ _ _=>false
 | .upd _ _ _ _=>false
 | _=>true
theorem kK {s:MS} {c:Call}:(qK X s c).callK=true:=by
 unfold qK
 split
 ·split
  ·split
   ·split
    ·exact Bool.rec (motive:=fun b=>(cond b (XOp.yield _ _) XOp.plain).callK=true) rfl rfl _
    ·rfl
   ·rfl
  ·split
   ·exact Bool.rec (motive:=fun b=>(cond b (XOp.inl _ _) XOp.plain).callK=true) rfl rfl _
   ·rfl
  ·rfl
 ·split
  ·split
   ·split <;> rfl
   ·rfl
  ·rfl
 ·rfl
theorem aTZ {s:MS} {o:Op} {t:TypeId} (h:xop X s o= .mk t):o= .makeMap t none:=by
 unfold xop at h
 split at h
 ·split at h
  ·simp only [XOp.mk.injEq] at h;subst h;rfl
  ·simp at h
 ·rename_i t m k ok;cases ok <;> simp at h
 ·simp at h
 ·have:=kK (X:=X) (s:=s) (c:=by assumption)
  rw [h] at this
  simp [XOp.callK] at this
 ·simp at h
theorem aNA {s:MS} {o:Op} {t:TypeId} {m k:MV} (h:xop X s o= .look t m k):∃ m' k',o= .lookup t m' k' false∧m=s.ev m'∧k=s.ev k':=by
 unfold xop at h
 split at h
 ·split at h <;> simp at h
 ·rename_i t m k ok
  cases ok with
  | true=>simp at h
  | false =>
   simp only [cond_false,XOp.look.injEq] at h
   obtain ⟨rfl,rfl,rfl⟩:=h
   exact ⟨_,_,rfl,rfl,rfl⟩
 ·simp at h
 ·have:=kK (X:=X) (s:=s) (c:=by assumption)
  rw [h] at this
  simp [XOp.callK] at this
 ·simp at h
theorem aKf {s:MS} {o:Op} {t:TypeId} {m k:MV} (h:xop X s o= .look2 t m k):∃ m' k',o= .lookup t m' k' true∧m=s.ev m'∧k=s.ev k':=by
 unfold xop at h
 split at h
 ·split at h <;> simp at h
 ·rename_i t m k ok
  cases ok with
  | false=>simp at h
  | true =>
   simp only [cond_true,XOp.look2.injEq] at h
   obtain ⟨rfl,rfl,rfl⟩:=h
   exact ⟨_,_,rfl,rfl,rfl⟩
 ·simp at h
 ·have:=kK (X:=X) (s:=s) (c:=by assumption)
  rw [h] at this
  simp [XOp.callK] at this
 ·simp at h
theorem aQG {s:MS} {o:Op} {t:TypeId} {m k v:MV} (h:xop X s o= .upd t m k v):∃ m' k' v',o= .mapUpdate t m' k' v'∧m=s.ev m'∧k=s.ev k'∧v=s.ev v':=by
 unfold xop at h
 split at h
 ·split at h <;> simp at h
 ·rename_i t m k ok;cases ok <;> simp at h
 ·simp only [XOp.upd.injEq] at h
  obtain ⟨rfl,rfl,rfl,rfl⟩:=h
  exact ⟨_,_,_,rfl,rfl,rfl,rfl⟩
 ·have:=kK (X:=X) (s:=s) (c:=by assumption)
  rw [h] at this
  simp [XOp.callK] at this
 ·simp at h
theorem aFZ {s:MS} {o:Op} {l:Nat} {args:List MV} (h:xop X s o= .yield l args∨xop X s o= .inl l args):∃ c g,o= .call c∧c.callee= .value g∧args=c.args.toList.map s.ev∧
  ((xop X s o= .yield l args∧s.ev g= .val (.func (.yield l) #[] #[]))∨(xop X s o= .inl l args∧s.ev g= .fn l [])):=by
 have h0:=h
 unfold xop at h
 split at h
 ·split at h <;> simp at h
 ·rename_i t m k ok;cases ok <;> simp at h
 ·simp at h
 ·rename_i c
  unfold qK at h
  split at h
  ·rename_i g hg
   split at h
   ·rename_i v hv
    split at h
    ·rename_i fn a b
     split at h
     ·rename_i l'
      cases hc:(a.size.beq 0&&b.size.beq 0) with
      | false=>rw [hc] at h;simp at h
      | true =>
       rw [hc] at h
       simp only [cond_true,XOp.yield.injEq,reduceCtorEq,or_false] at h
       obtain ⟨rfl,rfl⟩:=h
       simp only [Bool.and_eq_true,Nat.beq_eq] at hc
       have ha:a=#[]:=Array.eq_empty_of_size_eq_zero hc.1
       have hb:b=#[]:=Array.eq_empty_of_size_eq_zero hc.2
       subst ha;subst hb
       refine ⟨c,g,rfl,hg,rfl,.inl ⟨?_,hv⟩⟩
       rcases h0 with h0|h0
       ·exact h0
       ·exfalso
        simp only [xop,qK,hg,hv] at h0
        simp at h0
     ·simp at h
    ·simp at h
   ·rename_i f caps hv
    split at h
    ·cases hc:aQZ X f with
     | false=>rw [hc] at h;simp at h
     | true =>
      rw [hc] at h
      simp only [cond_true,XOp.inl.injEq,reduceCtorEq,false_or] at h
      obtain ⟨rfl,rfl⟩:=h
      refine ⟨c,g,rfl,hg,rfl,.inr ⟨?_,hv⟩⟩
      rcases h0 with h0|h0
      ·exfalso
       simp only [xop,qK,hg,hv,hc] at h0
       simp at h0
      ·exact h0
    ·simp at h
   ·simp at h
  ·split at h
   ·split at h
    ·split at h <;> simp at h
    ·simp at h
   ·simp at h
  ·simp at h
 ·simp at h
variable {ops:Array Oper} {Q:Exit→Act→World→Prop} {rest:List Oper}
theorem aAK (hF:Fw F P) {E:Env P} {o:Oper} (hnd:∀ c,o.op≠ .defer c) {s:MS} {x:XS} {c:Ctx} {a:Act} {w:World} {K:MS→XS→Prop} (h:gO E ops.toList (fun _=>False) [o] s (fun s'=>K s' x)) (hs:XSt P S0 w0 pin zs s x c a w)
  (hK:∀ s' x' c' a' w',K s' x'→XSt P S0 w0 pin zs s' x' c' a' w'→wpListIn F n P ops Q rest a' w'):wpListIn F n P ops Q (o::rest) a w:=by
 obtain ⟨w1,hst,hreb,hback⟩:=hs.with_
 have:=fD (Q:=fun e a' w'=>match e with| .normal=>∃ s' c',K s' x∧St S0 w1 s' c' a' w'|_=>False) (ops:=ops) (w0:=w1) (fun m v w' a' hk _ _ _=>hk.elim) [o] s _ c a w h hst (fun s' c' a' w' q1 q2 _=>⟨s',c',q1,q2⟩)
 exact o6 hF (fun a w q=>q) (fun ch a w q=>q.elim) (fun a' w' ⟨s',c',q1,q2⟩=>hK s' x c' a' w' q1 (hback _ _ _ _ q2)) [o] a w (by simpa using hnd) this
theorem rM (hF:Fw F P) {o:Oper} (hnd:∀ c,o.op≠ .defer c) (hg:o.guard=none) {a:Act} {w w':World} {v:Value} (hrun:(execOp a.eval o).run P w= .ok (.value v) w') (h:wpListIn F n P ops Q rest (a.put o.dst v) w'):wpListIn F n P ops Q (o::rest) a w:=by
 unfold wpListIn
 rw [if_pos (by simp [Region.wanted,hg])]
 refine ⟨fun f _=>hF.fn f,?_⟩
 rw [hF.sem _ _ hnd,hrun,Oper.uponIn_value]
 exact h
theorem aJt (hmix:P.follows .mixedOrders=true) {ie:ItE P} {args:List MV} {s:MS} {x:XS} {c:Ctx} {a:Act} {w:World} {K:MV→List Box→Prop} (h:aLg ie args s K) (hs:XSt P S0 w0 pin zs s x c a w) {vs:Array Value} (hv:RepAll c w args vs.toList) :
  Calls P ie.f vs w fun e w'=>∃ v m bx c',e= .returned v∧K m bx∧Rep c' w' m v∧XSt P S0 w0 pin zs ⟨s.n,d4 s.bx.length s.tm,bx,s.np⟩ x c' a w':=by
 unfold aLg at h
 split at h
 ·rename_i body hb
  split at h
  ·rename_i t hres
   cases hl:args.length.ble ie.fn.ntmps with
   | false=>rw [hl] at h;exact h.elim
   | true =>
    rw [hl,cond_true] at h
    have hle:args.length≤ie.fn.ntmps:=Nat.le_of_ble_eq_true hl
    have hlen:=dS _ _ hv
    simp only [Array.length_toList] at hlen
    obtain ⟨w1,Ds,hO,hst,hp,hdf⟩:=hs
    have hM:=hst.mem
    generalize hpa:(fun (i:Nat) (b:Nat) (z:Sz)=>c.live i∧c.β i=b∧c.sz i=z)=pa
    have hpa':∀ i b z,pa i b z→c.live i∧c.β i=b∧c.sz i=z:=by subst hpa;exact fun _ _ _ h=>h
    have k0:=Moved.refl w0.w.heap.size w
    have hst2:St S0 (gP w c pa []) ⟨ie.fn.ntmps,dM 0 args,s.bx,s.bx.length⟩ c { tmps:=vs++Array.replicate (ie.fn.ntmps -vs.size) undef,defers:= [] } w:=by
     refine ⟨hM.moved k0 pa [] hpa',fun t=>?_,by simp;omega,rfl,fun i b z q=>(hM.fresh i (hpa' i b z q).1).2.2⟩
     have:=(eM args vs.toList 0 hv t).2 (Nat.zero_le _)
     rw [Nat.sub_zero] at this
     have e:(vs++Array.replicate (ie.fn.ntmps -vs.size) undef).getD t undef=vs.toList.getD t undef:=by
      simp only [Array.getD_eq_getD_getElem?,Array.getElem?_append,List.getD_eq_getElem?_getD,Array.getElem?_toList]
      split
      ·rfl
      ·rename_i hge
       rw [Array.getElem?_replicate,Array.getElem?_eq_none (by omega:vs.size≤t)]
       split <;> rfl
     rw [e]
     exact this
    have hO2:=hO.move hM k0 (fun e _ _=>rfl) pa []
    refine calls_of_wp ie.hf hb (bZ hmix body _ _ c _ w _ h hst2 (fun e s' c' a' w' hk hst'=>?_) (fun m v w' a' hk=>hk.elim))
    have fin:K (look t s'.tm) s'.bx→∃ v,(results ie.fn a'.tmps).run P w'= .ok v w'∧∃ v' m bx c'',Ending.returned v= .returned v'∧K m bx∧Rep c'' w' m v'∧XSt P S0 w0 pin zs ⟨s.n,d4 s.bx.length s.tm,bx,s.np⟩ x c'' a w':=by
     intro hk
     refine ⟨a'.tmps.getD t undef,?_,_,look t s'.tm,s'.bx,c',rfl,hk,hst'.tm t,?_⟩
     ·rw [hJ,Array.mapM_eq_mapM_toList,hres]
      simp [aG4]
     ·have hM':=hst'.mem
      have hkeep:∀ i,i<s.bx.length→c.live i→c'.live i∧c'.β i=c.β i∧c'.sz i=c.sz i:=fun i _ hi=>hM'.pin i (c.β i) (c.sz i) (by subst hpa;exact ⟨hi,rfl,rfl⟩)
      have k1:Moved w0.w.heap.size w' w':=Moved.refl _ _
      have hpin':∀ i b z,w1.pin i b z→c'.live i∧c'.β i=b∧c'.sz i=z:=fun i b z q=>by
       obtain ⟨q1,q2,q3⟩:=hM.pin i b z q
       obtain ⟨r1,r2,r3⟩:=hkeep i (hM.fresh i q1).2.2 q1
       exact ⟨r1,r2.trans q2,r3.trans q3⟩
      refine ⟨gP w' c' w1.pin w1.df,Ds,hO2.move hM' k1 (fun e _ _=>rfl) w1.pin w1.df,⟨hM'.moved k1 w1.pin w1.df hpin',fun u=>?_,hst.size,hst.defers,hst.np⟩,hp,hdf⟩
      rw [mE]
      exact qF hkeep (hst.tm u)
    cases e with
    | normal =>
     obtain ⟨v,q1,q2⟩:=fin hk
     exact ⟨hst'.defers,v,q1,q2⟩
    | ret =>
     obtain ⟨v,q1,q2⟩:=fin hk
     exact ⟨hst'.defers,v,q1,q2⟩
    | exit id=>exact hk.elim
  ·exact h.elim
 ·exact h.elim
theorem oI {f:Nat} {ie:ItE P}:∀ {l:List (ItE P)},qY f l=some ie→ie.f=f
 | [],h=>by simp [qY] at h
 | c::r,h=>by
  simp only [qY] at h
  cases hc:c.f.beq f with
  | true=>rw [hc,cond_true,Option.some.injEq] at h;subst h;simpa using hc
  | false=>rw [hc,cond_false] at h;exact oI h
theorem aPo (hmix:P.follows .mixedOrders=true) (hF:Fw F P) (hY:YSnd F (n -1) P S0 w0 pin zs H) (hz:∀ pe z,z∈zs pe→z.2.isWalk=false) {o:Oper} (hnd:∀ c,o.op≠ .defer c) {s:MS} {x:XS} {c:Ctx} {a:Act} {w:World} {K:MS→XS→Prop}
  (h:aCP X H ops.toList o s x K) (hs:XSt P S0 w0 pin zs s x c a w)
  (hK:∀ s' x' c' a' w',K s' x'→XSt P S0 w0 pin zs s' x' c' a' w'→wpListIn F n P ops Q rest a' w'):wpListIn F n P ops Q (o::rest) a w:=by
 have hdep:¬ F.depth.isSome=true:=by rw [hF.depth];simp
 unfold aCP at h
 split at h
 ·exact aAK hF hnd h hs hK
 ·rename_i i _
  obtain ⟨w1,hst,_,hback⟩:=hs.with_
  exact aAK hF hnd h (hback _ _ _ _ (hst.forget i)) hK
 ·split at h
  ·exact h.elim
  ·rename_i hg
   cases hdd:iB o.dst s.n with
   | false=>rw [hdd] at h;exact h.elim
   | true =>
    rw [hdd,cond_true] at h
    split at h
    ·
     rename_i t hx
     split at h
     ·rename_i kt q n' vk hty
      split at h
      ·rename_i hmp
       have ho:=aTZ hx
       obtain ⟨et,e,_,_,k3,k4,k5,_⟩:=aAe hty
       have hrun:(execOp a.eval o).run P w= .ok (.value (.map (some w.heap.size))) (w.alloc (.map #[] 0)):=by
        simp [execOp,ho,Instr.makeMap,Result.andThen]
       refine rM hF hnd hg hrun (hK _ _ c _ _ (h w.heap.size) ?_)
       obtain ⟨w1,Ds,hO,hst,hp,hdf⟩:=hs
       have hN:w0.w.heap.size≤w.heap.size:=Nat.le_trans hO.reb.ext.size hst.mem.ext.size
       have k:=Moved.alloc hN (.map #[] 0)
       have hO2:=hO.move hst.mem k (fun e he _=>Below.heap_alloc w _ e he) w1.pin w1.df
       refine ⟨_,Ds,⟨hO2.reb,hO2.nd,hO2.ds,hO2.zs,fun B m hBm=>?_,hO2.dis⟩,(hst.at k).putO hdd ((aZ rfl).2 ((aS rfl (by simp)).2 ⟨rfl,rfl⟩)),hp,hdf⟩
       simp only [Option.some.injEq,Prod.mk.injEq] at hBm
       obtain ⟨rfl,rfl⟩:=hBm
       refine ⟨⟨⟨e,k3,k4⟩,k5⟩,_,⟨#[],0,rfl,fun y hy=>by simp at hy,fun l _ hf=>by simp at hf⟩,World.alloc_heap_new w _,?_,hN⟩
       rintro ⟨i,hi,he⟩
       have:=(hst.mem.fresh i hi).2.1
       omega
      ·exact h.elim
     ·exact h.elim
    ·
     rename_i t m kv hx
     split at h
     ·rename_i p B mm l hkey
      split at h
      ·rename_i hvk
       obtain ⟨hp,h⟩:=h
       obtain ⟨m',k',ho,rfl,rfl⟩:=aNA hx
       obtain ⟨q1,q2,q3,q4,ms,q5,q6,et,q7,q8⟩:=zU hkey hp
       have r1:=hs.tm m'
       have r2:=hs.tm k'
       rw [q1] at r1
       rw [q5] at r2
       obtain ⟨w1,Ds,hO,hst,hp,hdf⟩:=id hs
       obtain ⟨hT,ob,hmo,hext⟩:=hO.mp B mm q2
       have hnow:=(hext.now hst.mem).1
       have hrun:(execOp a.eval o).run P w= .ok (.value (.bool (mm.f l))) w:=by
        rw [hvk] at q8
        have:=aG8 (P:=P) (w:=w) hT hvk hmo hnow q4 q3 q7 (q8 w)
        rw [← aCU q6 r2,← (pZ r1).1] at this
        simp [execOp,ho,this,Result.andThen]
       exact rM hF hnd hg hrun (hK _ _ c _ _ h (hs.putO hdd (eI _)))
      ·exact h.elim
     ·exact h.elim
    ·
     rename_i t m kv hx
     split at h
     ·rename_i p B mm l hkey
      split at h
      ·exact h.elim
      ·rename_i k hvk
       obtain ⟨hp,h⟩:=h
       obtain ⟨m',k',ho,rfl,rfl⟩:=aKf hx
       obtain ⟨q1,q2,q3,q4,ms,q5,q6,et,q7,q8⟩:=zU hkey hp
       have r1:=hs.tm m'
       have r2:=hs.tm k'
       rw [q1] at r1
       rw [q5] at r2
       obtain ⟨w1,Ds,hO,hst,hp,hdf⟩:=id hs
       obtain ⟨hT,ob,hmo,hext⟩:=hO.mp B mm q2
       have hnow:=(hext.now hst.mem).1
       rw [hvk] at q8
       obtain ⟨z,hz⟩:=aFx (P:=P) (w:=w) hT hvk hmo hnow q4 q3 q7 (q8 w)
       have hrun:(execOp a.eval o).run P w= .ok (.value (.tuple #[.int k z,.bool (mm.f l)])) w:=by
        rw [← aCU q6 r2,← (pZ r1).1] at hz
        simp [execOp,ho,hz,Result.andThen]
       exact rM hF hnd hg hrun (hK _ _ c _ _ (h z) (hs.putO hdd ⟨_,rfl,_,_,rfl,(aZ rfl).1 (c6 k z),_,_,rfl,(aZ rfl).1 (eI _),rfl⟩))
     ·exact h.elim
    ·
     rename_i t m kv v hx
     split at h
     ·rename_i p B mm l hkey
      obtain ⟨m',k',v',ho,e1,e2,e3⟩:=aQG hx
      subst e1 e2
      have r3:=hs.tm v'
      rw [← e3] at r3
      have main:∀ v0,aHv mm.vk v0→a.eval v'=v0→p→o.dst=none→K s ⟨some (B,mm.add l),x.pe⟩→wpListIn F n P ops Q (o::rest) a w:=by
       intro v0 hv0 hev hp hdst h
       obtain ⟨q1,q2,q3,q4,ms,q5,q6,et,q7,q8⟩:=zU hkey hp
       have r1:=hs.tm m'
       have r2:=hs.tm k'
       rw [q1] at r1
       rw [q5] at r2
       obtain ⟨w1,Ds,hO,hst,hp,hdf⟩:=hs
       obtain ⟨hT,ob,hmo,hext⟩:=hO.mp B mm q2
       obtain ⟨hnow,hnown⟩:=hext.now hst.mem
       obtain ⟨o',hu,hmo'⟩:=aG9 (P:=P) (w:=w) hT hv0 hmo hnow q4 q3 q7
       have hrun:(execOp a.eval o).run P w= .ok .skip (w.putObj B o'):=by
        rw [← aCU q6 r2,← (pZ r1).1,← hev] at hu
        simp [execOp,ho,hu,Result.andThen]
       unfold wpListIn
       rw [if_pos (by simp [Region.wanted,hg])]
       refine ⟨fun f _=>hF.fn f,?_⟩
       rw [hF.sem _ _ hnd,hrun,Oper.uponIn_skip,hdst]
       have hlt:=(Array.getElem?_eq_some_iff.1 hnow).1
       have k:=Moved.put (N:=w0.w.heap.size) hnow hext.lo hmo.notCells hmo'.notCells
       have hne:∀ e ob',Extn w0 w1 e ob'→ob'.isWalk=false→e≠B:=fun e ob' q hw hh=>by
        subst hh
        have:=(q.now hst.mem).1
        rw [hnow,Option.some.injEq] at this
        obtain ⟨es,clock,he,_⟩:=hmo
        rw [← this,he] at hw
        simp [Obj.isWalk] at hw
       refine hK _ _ c _ _ h ⟨gP (w.putObj B o') c w1.pin w1.df,Ds,⟨hO.reb.move hst.mem k w1.pin w1.df,hO.nd,fun D hD=>(hO.ds D hD).move hst.mem (World.putObj_heap_other (hne D _ (hO.ds D hD) rfl)) _ _,fun z hzz=>(hO.zs z hzz).move hst.mem (World.putObj_heap_other (hne _ _ (hO.zs z hzz) (hz _ z hzz))) _ _,fun B' m' hBm=>?_,hO.dis⟩,hst.at k,hp,hdf⟩
       simp only [Option.some.injEq,Prod.mk.injEq] at hBm
       obtain ⟨rfl,rfl⟩:=hBm
       exact ⟨⟨hT.ex,hT.size⟩,o',hmo',World.putObj_heap_same hlt,hnown,hext.lo⟩
      split at h
      ·split at h
       ·rename_i hdst
        split at h
        ·rename_i hvk
         obtain ⟨⟨hp,hb⟩,h⟩:=h
         subst hb
         exact main _ (by rw [hvk];exact rfl) (gD r3) hp hdst h
        ·exact h.elim
       ·exact h.elim
      ·split at h
       ·rename_i hdst
        split at h
        ·exact h.elim
        ·rename_i hvk
         obtain ⟨⟨hp,hb⟩,h⟩:=h
         subst hb
         exact main _ (by rw [hvk];exact ⟨_,rfl⟩) (d5 r3) hp hdst h
       ·exact h.elim
      ·exact h.elim
     ·exact h.elim
    ·
     rename_i l args hx
     cases hta:(args.all fun m=>!m.isTup) with
     | false=>rw [hta] at h;exact h.elim
     | true =>
      rw [hta,cond_true] at h
      split at h
      ·rename_i hpe
       obtain ⟨rfl,h⟩:=h
       obtain ⟨cc,g,ho,hc,rfl,hh⟩:=aFZ (.inl hx)
       rcases hh with ⟨_,hev⟩|⟨hh,_⟩
       ·have hgv:a.eval g= .func (.yield H.L) #[] #[]:=by
         have:=hs.tm g
         rw [hev] at this
         exact (pZ this).1
        have hall:=uY (c:=c) (w:=w) (s:=s) (a:=a) cc.args.toList (fun y _=>hs.tm y) hta
        have hx2:x=⟨x.mp,none⟩:=by cases x;simp only at hpe;subst hpe;rfl
        rw [hx2] at h hs
        obtain ⟨f0,tmps,assign,body,hyr,hR⟩:=hY.h _ s x.mp c a w _ _ _ h hs hall
        have eargs:(cc.args.toList.map a.eval).toArray=cc.args.map a.eval:=by apply Array.ext';simp
        rw [eargs] at hyr
        unfold wpListIn
        rw [if_pos (by simp [Region.wanted,hg])]
        refine ⟨fun f _=>hF.fn f,?_⟩
        rw [hF.sem _ _ hnd,aGx ho hc hgv,hyr,Oper.uponIn_round]
        refine ⟨fun h=>absurd h hdep,hR.mono fun e w' he=>?_⟩
        rcases he with ⟨rfl,bx,mp',c',q1,q2⟩|⟨rfl,e',bx,mp',c',q1,q2⟩
        ·exact hK _ _ c' _ _ q1 (q2.putO hdd (eI _))
        ·exact hK _ _ c' _ _ q1 (q2.putO hdd (eI _))
       ·rw [hh] at hx;simp at hx
      ·exact h.elim
    ·
     rename_i f args hx
     cases hta:(args.all fun m=>!m.isTup) with
     | false=>rw [hta] at h;exact h.elim
     | true =>
      rw [hta,cond_true] at h
      split at h
      ·rename_i ie hie
       have hf:=oI hie
       obtain ⟨cc,g,ho,hc,rfl,hh⟩:=aFZ (.inr hx)
       rcases hh with ⟨hh,_⟩|⟨_,hev⟩
       ·rw [hh] at hx;simp at hx
       ·have hgv:a.eval g= .func (.func f) #[] #[]:=by
         have:=hs.tm g
         rw [hev] at this
         obtain ⟨cs,h1,h2,_⟩:=bU this rfl (by simp) rfl
         have h2:cs= []:=h2
         subst h2
         simpa using h1
        have hall:=uY (c:=c) (w:=w) (s:=s) (a:=a) cc.args.toList (fun y _=>hs.tm y) hta
        have eargs:(cc.args.toList.map a.eval).toArray=cc.args.map a.eval:=by apply Array.ext';simp
        have hC:=aJt hmix h hs (vs:=cc.args.map a.eval) (by rw [← eargs];exact hall)
        unfold wpListIn
        rw [if_pos (by simp [Region.wanted,hg])]
        refine ⟨fun f _=>hF.fn f,?_⟩
        rw [hF.sem _ _ hnd,aGw ho hc hgv (hf ▸ ie.hc),Oper.uponIn_enter]
        refine ⟨fun h=>absurd h hdep,hF.calls (hf ▸ hC.mono ?_)⟩
        rintro e w' ⟨v,m,bx,c',rfl,q1,q2,q3⟩
        exact hK _ _ c' _ _ q1 (q3.putO hdd q2)
      ·exact h.elim
    ·exact h.elim
end
end
section
theorem aBJ (t u:Nat) (m:MV):∀ (l:List (Nat×MV)),look u (aJN t m l)=if t=u then m else look u l
 | []=>by
  simp only [aJN,look]
  cases h:t.beq u with
  | true=>simp only [Nat.beq_eq] at h;simp [h]
  | false =>
   have:t≠u:=by intro e;subst e;simp at h
   simp [this]
 | (v,x)::r=>by
  simp only [aJN]
  cases h1:v.blt t with
  | true =>
   rw [Nat.blt_eq] at h1
   simp only [cond_true,look,aBJ t u m r]
   cases h:v.beq u with
   | true =>
    simp only [Nat.beq_eq] at h
    subst h
    have hne:t≠v:=by omega
    simp [hne]
   | false=>rfl
  | false =>
   simp only [cond_false]
   cases h2:v.beq t with
   | true =>
    simp only [Nat.beq_eq] at h2
    subst h2
    simp only [cond_true,look]
    cases h:v.beq u with
    | true=>simp only [Nat.beq_eq] at h;simp [h]
    | false =>
     have:v≠u:=by intro e;subst e;simp at h
     simp [this]
   | false =>
    simp only [cond_false,look]
    cases h:t.beq u with
    | true=>simp only [Nat.beq_eq] at h;simp [h]
    | false =>
     have:t≠u:=by intro e;subst e;simp at h
     simp [this]
section
variable {P:Program} {ops:Array Oper} {S0:Nat→Prop} {w1:Base} {Q:Exit→Act→World→Prop}
theorem St.look {s s':MS} {c:Ctx} {a:Act} {w:World} (h:St S0 w1 s c a w) (hn:s'.n=s.n) (hb:s'.bx=s.bx) (hp:s'.np=s.np) (hl:∀ t,Go.Proofs.YtijailhickfapaaGreat.look t s'.tm=Go.Proofs.YtijailhickfapaaGreat.look t s.tm):St S0 w1 s' c a w :=
 ⟨hb ▸ h.mem,fun t=>by rw [hl];exact h.tm t,by rw [hn];exact h.size,h.defers,by rw [hp];exact h.np⟩
theorem St.sorted {s:MS} {c:Ctx} {a:Act} {w:World} {d:Option Nat} {m:MV} (h:St S0 w1 (s.putO d m) c a w):St S0 w1 (s.putSO d m) c a w:=by
 cases d with
 | none=>exact h
 | some t=>exact h.look rfl rfl rfl (fun u=>by show Go.Proofs.YtijailhickfapaaGreat.look u (aJN t m s.tm)=_;rw [aBJ];show _=Go.Proofs.YtijailhickfapaaGreat.look u (s.put t m).tm;rw [mD])
theorem aTV {Q1:Exit→Act→World→Prop} (hp:∀ ch a w,¬ Q1 (.panic ch) a w) (ho:∀ a w,¬ Q1 .outgrown a w) {i:Nat} {K K':Act→World→Prop} (hK:∀ a w,K a w→K' a w) {a:Act} {w:World} (h:wpOp P ops Q1 i K a w):wpOp P ops Q i K' a w:=by
 unfold wpOp at h⊢
 split at h
 ·exact hK _ _ h
 ·rename_i o _
  split at h
  ·rename_i hw
   rw [if_pos hw]
   rcases h with h|⟨_,h⟩
   ·refine .inl ?_
    unfold Oper.wp at h⊢
    generalize (execOp a.eval o).run P w=res at h⊢
    cases res with
    | ok nx w' =>
     cases nx with
     | value v=>exact hK _ _ h
     | skip=>exact hK _ _ h
     | defer d=>exact hK _ _ h
     | enter f args =>
      refine Calls.mono h ?_
      intro e w'' he
      cases e with
      | returned v=>exact hK _ _ he
      | panicked c=>exact (hp _ _ _ he).elim
      | outgrown=>exact (let ⟨a,w,q⟩:=he;(ho a w q).elim)
     | row rw args=>exact Rows.mono h fun v w'' hv=>hK _ _ hv
     | round l f t x y=>exact h.elim
     | _=>exact h.elim
    | halt hh w' =>
     cases hh
     all_goals first|exact (hp _ _ _ h).elim|exact h.elim
   ·exact (let ⟨a,w,q⟩:=h;(ho a w q).elim)
  ·rename_i hw
   rw [if_neg hw]
   exact hK _ _ h
theorem vH {i:Nat}:∀ (l:List (Nat×MV)),uP i l=true→∀ t,(Go.Proofs.YtijailhickfapaaGreat.look t l).ment i=false
 | [],_,t=>rfl
 | (u,m)::r,h,t=>by
  simp only [uP,Bool.and_eq_true,Bool.not_eq_true'] at h
  simp only [Go.Proofs.YtijailhickfapaaGreat.look]
  cases u.beq t with
  | true=>exact h.1
  | false=>exact vH r h.2 t
theorem aEc {o:Oper} {i:Nat} (hi:ops[i]? =some o) {E:Env P} {s:MS} {c:Ctx} {a:Act} {w:World} {K:MS→Prop} {K':Act→World→Prop} (h:gO E ops.toList (fun _=>False) [o] s K) (hs:St S0 w1 s c a w)
  (hK:∀ s' c' a' w',K s'→St S0 w1 s' c' a' w'→K' a' w'):wpOp P ops Q i K' a w:=by
 have:=fD (Q:=fun e a' w'=>match e with| .normal=>K' a' w'|_=>False) (ops:=ops) (w0:=w1) (fun m v w' a' hk _ _ _=>hk.elim) [o] s _ c a w h hs (fun s' c' a' w' q1 q2 _=>hK s' c' a' w' q1 q2)
 exact aTV (fun _ _ _ q=>q) (fun _ _ q=>q) (fun a' w' q=>q) (o7 hi this)
theorem aB4 {o:Oper} {i:Nat} (hi:ops[i]? =some o) (hg:o.guard=none) {s:MS} {p:OProp} {s':MS} (hd:iB o.dst s.n=true) (h:nJ s o (hH (aEN P) s o.op)=some (p,s')) (hp:p.holds) {c:Ctx} {a:Act} {w:World} (hs:St S0 w1 s c a w) :
  wpOp P ops Q i (fun a' w'=>∃ c',St S0 w1 s' c' a' w') a w:=by
 cases he:hH (aEN P) s o.op with
 | val p' m =>
  rw [he] at h
  simp only [nJ,Option.some.injEq,Prod.mk.injEq] at h
  obtain ⟨rfl,rfl⟩:=h
  refine aEc hi (E:=aEN P) (K:=fun s2=>s2=s.putO o.dst m) ?_ hs (fun s2 c' a' w' q1 q2=>⟨c',by subst q1;exact q2.sorted⟩)
  simp only [gO,hg,hd,he,cond_true]
  exact oand_holds.2 ⟨hp,trivial⟩
 | upd p' s2 m =>
  rw [he] at h
  simp only [nJ,Option.some.injEq,Prod.mk.injEq] at h
  obtain ⟨rfl,rfl⟩:=h
  refine aEc hi (E:=aEN P) (K:=fun s3=>s3=s2.putO o.dst m) ?_ hs (fun s3 c' a' w' q1 q2=>⟨c',by subst q1;exact q2.sorted⟩)
  simp only [gO,hg,hd,he,cond_true]
  exact oand_holds.2 ⟨hp,trivial⟩
 | new _ _ _=>rw [he] at h;simp [nJ] at h
 | res _ _ _=>rw [he] at h;simp [nJ] at h
 | pan _=>rw [he] at h;simp [nJ] at h
 | stuck=>rw [he] at h;simp [nJ] at h
theorem St.Ab {s:MS} {wd len:Nat} {f:Nat→MV} {d:Option Nat} {c:Ctx} {a:Act} {w:World} (h:St S0 w1 (({ s with bx:=s.bx++ [⟨false,.rows wd len f⟩] }:MS).putO d (.bs s.bx.length 0 len)) c a w) (hd:iB d s.n=true)
  (ht:uP s.bx.length s.tm=true) (hb:fP s.bx.length 0 s.bx=true) (hpin:∀ b z,¬ w1.pin s.bx.length b z):∃ c',St S0 w1 (s.putO d (.sl wd len f)) c' a w:=by
 have hM:Mem S0 w1 (s.bx++ [⟨false,.rows wd len f⟩]) c w:=by
  have:=h.mem
  rwa [dR] at this
 have hbf:fP s.bx.length 0 (s.bx++ [⟨false,.rows wd len f⟩])=true:=by
  have:∀ (l:List Box) (j:Nat),fP s.bx.length j l=true→fP s.bx.length j (l++ [⟨false,.rows wd len f⟩])=true:=by
   intro l
   induction l with
   | nil=>intro j _;simp [fP]
   | cons x r ih =>
    intro j hj
    simp only [fP,Bool.and_eq_true] at hj
    simp only [List.cons_append,fP,Bool.and_eq_true]
    exact ⟨hj.1,ih _ hj.2⟩
  exact this _ _ hb
 obtain ⟨m1,k1⟩:=hM.drop hbf ⟨false,.rows wd len f⟩ hpin
 generalize hcd:eG S0 (a7 (s.bx++ [⟨false,.rows wd len f⟩]) s.bx.length ⟨false,.rows wd len f⟩) (c.but s.bx.length).live c.β c.sz=cd at m1 k1
 have hl:∀ i,cd.live i↔c.live i∧i≠s.bx.length:=by subst hcd;exact fun i=>Iff.rfl
 have hβ:cd.β=c.β:=by subst hcd;rfl
 have hsz:cd.sz=c.sz:=by subst hcd;rfl
 have hlt:∀ i,cd.live i→i<s.bx.length:=fun i hi=>by
  have h1:=(m1.fresh i hi).2.2
  rw [cE,List.length_append,List.length_singleton] at h1
  have:=((hl i).1 hi).2
  omega
 have hnth:∀ i,i<s.bx.length→aP (a7 (s.bx++ [⟨false,.rows wd len f⟩]) s.bx.length ⟨false,.rows wd len f⟩) i=aP s.bx i:=fun i hi=>by
  rw [bT,if_neg (by omega)]
  simp only [bL]
  rw [List.getElem?_append_left hi]
 have m2:Mem S0 w1 s.bx cd w:=by
  refine ⟨m1.ext,m1.S0lt,m1.gl,m1.hS,fun b=>(m1.hW b).trans ?_,m1.inj,fun i hi=>⟨(m1.fresh i hi).1,(m1.fresh i hi).2.1,hlt i hi⟩,fun i b hi hb=>m1.box i b hi (by rw [hnth i (hlt i hi)];exact hb),m1.pin⟩
  constructor
  ·rintro ⟨i,b0,h1,h2,h3,h4⟩
   exact ⟨i,b0,h1,by rw [hnth i (hlt i h1)] at h2;exact h2,h3,h4⟩
  ·rintro ⟨i,b0,h1,h2,h3,h4⟩
   exact ⟨i,b0,h1,by rw [hnth i (hlt i h1)];exact h2,h3,h4⟩
 have htm:∀ t,d≠some t→Rep cd w (Go.Proofs.YtijailhickfapaaGreat.look t s.tm) (a.tmps.getD t undef):=fun t ht'=>by
  have h1:=h.tm t
  rw [iZ _ _ _ _ ht'] at h1
  exact (Rep.but (vH _ ht t) h1).keep k1
 refine ⟨cd,by rw [dR];exact m2,fun t=>?_,by rw [aMc];have:=h.size;rw [aMc] at this;exact this,h.defers,fun i b z q=>?_⟩
 ·by_cases hdt:d=some t
  ·subst hdt
   rw [dZ]
   have h1:=h.tm t
   rw [dZ] at h1
   obtain ⟨ad,cap,e1,e2,e3⟩:=bU h1 rfl (by simp) rfl
   refine (aZ rfl).2 ((aS rfl (by simp)).2 ⟨ad,cap,e1,e2,fun hpos=>?_⟩)
   rcases e3 with ⟨rfl,hlv,hcap⟩|⟨_,h0,_⟩
   ·obtain ⟨arr,ty,q1,q2,q3,q4⟩:=hM.box s.bx.length ⟨false,.rows wd len f⟩ hlv (by simp [bL])
    refine ⟨c.β s.bx.length,0,rfl,fun hS=>?_,fun i hi=>?_⟩
    ·rcases (m2.hS _).1 hS with q|q
     ·exact hM.notS0 hlv q
     ·obtain ⟨j,b0,r1,_,_,r4⟩:=(m2.hW _).1 q
      rw [hβ] at r4
      have:=hM.inj j s.bx.length ((hl j).1 r1).1 hlv r4
      exact ((hl j).1 r1).2 this
    ·obtain ⟨cs,r1,r2,r3⟩:=q4 i hi
     refine ⟨cs,r1,RepC.keep k1.elem (f i) cs (show RepC (c.but s.bx.length).elem w (f i) cs from r2),arr,ty,_,q1,fun j v hj=>?_⟩
     rw [Nat.zero_add]
     exact r3 j v hj
   ·omega
  ·rw [iZ _ _ _ _ hdt]
   exact htm t hdt
 ·have:=h.np i b z q
  cases d <;> exact this
theorem aEI {b:Bool} {x y:Act1} (h:cond b x .stuck=y) (hy:y≠ .stuck):x=y:=by
 cases b with
 | true=>exact h
 | false=>exact absurd h.symm hy
theorem aHd {o:Oper} {i:Nat} (hi:ops[i]? =some o) {s:MS} {p:OProp} {s':MS} (h:qG P s o=some (p,s')) (hp:p.holds) {c:Ctx} {a:Act} {w:World} (hs:St S0 w1 s c a w) :
  wpOp P ops Q i (fun a' w'=>∃ c',St S0 w1 s' c' a' w') a w:=by
 unfold qG at h
 split at h
 ·simp at h
 ·rename_i hg
  cases hd:iB o.dst s.n with
  | false=>rw [hd] at h;simp at h
  | true =>
   rw [hd,cond_true] at h
   split at h
   ·rename_i t len parts ho
    split at h
    ·rename_i p' b mk he
     split at h
     ·rename_i wd n f hb
      cases hc:(!b.fz&&uP s.bx.length s.tm&&fP s.bx.length 0 s.bx) with
      | false=>rw [hc] at h;simp at h
      | true =>
       rw [hc] at h
       simp only [cond_true,Option.some.injEq,Prod.mk.injEq] at h
       obtain ⟨rfl,rfl⟩:=h
       simp only [Bool.and_eq_true,Bool.not_eq_true'] at hc
       have hbe:b=⟨false,.rows wd n f⟩:=by cases b;simp only at hb hc;rw [hb,hc.1.1]
       subst hbe
       have hmk:mk=fun i=> .bs i 0 n:=by
        unfold bM at he
        split at he
        ·split at he
         ·split at he
          ·have:=aEI he (by simp)
           simp at this
          ·simp at he
         ·have:=aEI he (by simp)
          simp only [Act1.new.injEq,Box.mk.injEq,BC.rows.injEq,true_and] at this
          obtain ⟨_,⟨_,rfl,_⟩,rfl⟩:=this
          rfl
         ·simp at he
        ·simp at he
       have hev:hH (aEN P) s o.op= .new p' ⟨false,.rows wd n f⟩ mk:=by rw [ho];exact he
       refine aEc hi (E:=aEN P) (K:=fun s2=>s2=({ s with bx:=s.bx++ [⟨false,.rows wd n f⟩] }:MS).putO o.dst (.bs s.bx.length 0 n)) ?_ hs (fun s2 c' a' w' q1 q2=>?_)
       ·simp only [gO,hg,hd,hev,cond_true]
        exact oand_holds.2 ⟨hp,by rw [hmk]⟩
       ·subst q1
        obtain ⟨c2,h2⟩:=q2.Ab hd hc.1.2 hc.2 (fun b z q=>by have:=(hs.mem.fresh _ (hs.mem.pin _ _ _ q).1).2.2;omega)
        exact ⟨c2,h2.sorted⟩
     ·simp at h
    ·simp at h
   ·split at h
    ·rename_i i' _
     exact aB4 (s:=s.forget i') hi hg hd h hp (hs.forget i')
    ·simp at h
   ·exact aB4 hi hg hd h hp hs
theorem aBK:∀ (n:Nat) (fl:List Bool),fl.length=n→fl∈qN n
 | 0,fl,h=>by
  have:fl= []:=List.eq_nil_of_length_eq_zero h
  subst this
  simp [qN]
 | n+1, [],h=>by simp at h
 | n+1,b::r,h=>by
  have:=aBK n r (by simpa using h)
  simp only [qN,List.mem_append,List.mem_map]
  cases b
  ·exact .inl ⟨r,this,rfl⟩
  ·exact .inr ⟨r,this,rfl⟩
theorem aBr {L:List Oper} {s:MS} {ps:List OProp}:∀ (fls:List (List Bool)),aEL P L s fls=aEM P L s ps fls→∀ fl∈fls,sG L fl fl=true→∀ k o,(k,o)∈lS 0 L fl fl→∀ s1,v9 P L fl s=some s1→
  ∃ s2,v9 P L (fl.set k true) s=some s2∧qG P s1 o=some (ps.getD k none,s2)
 | [],_,fl,hfl=>by simp at hfl
 | f0::r,h,fl,hfl=>by
  simp only [aEL,aEM,List.cons.injEq] at h
  rcases List.mem_cons.1 hfl with rfl|hfl
  ·intro hd k o hk s1 hs1
   have h1:=h.1
   rw [hd,cond_true,cond_true] at h1
   have h2:=List.map_inj_left.1 h1 (k,o) hk
   simp only [hs1] at h2
   split at h2
   ·rename_i s2 hs2
    exact ⟨s2,hs2,by simpa using h2⟩
   ·simp at h2
  ·exact aBr r h.2 fl hfl
theorem sH {fl:List Bool} {o:Oper} (h:∀ e∈o.after.toList,Region.binds .any e=true→fl.getD e.on false=true):mV fl o=true:=by
 simp only [mV,List.all_eq_true,Bool.or_eq_true,Bool.not_eq_true']
 intro e he
 cases hb:Region.binds .any e with
 | false=>exact .inl rfl
 | true=>exact .inr (h e he hb)
theorem y8 (fl:List Bool):∀ (L:List Oper) (fs:List Bool),(∀ i o,aP L i=some o→fs.getD i false=true→mV fl o=true)→sG L fs fl=true
 | [],_,_=>by simp [sG]
 | _::_, [],_=>by simp [sG]
 | o::r,f::fs,h=>by
  simp only [sG,Bool.and_eq_true,Bool.or_eq_true,Bool.not_eq_true']
  refine ⟨?_,y8 fl r fs fun i o' h1 h2=>h (i+1) o' h1 (by simpa using h2)⟩
  cases f with
  | false=>exact .inl rfl
  | true=>exact .inr (h 0 o rfl (by simp))
theorem tH (fl:List Bool):∀ (L:List Oper) (fs:List Bool) (k i:Nat) (o:Oper),aP L i=some o→i<fs.length→fs.getD i true=false→mV fl o=true→(k+i,o)∈lS k L fs fl
 | [],_,_,_,_,h,_,_,_=>by simp [aP] at h
 | _::_, [],_,_,_,_,h,_,_=>by simp at h
 | o'::r,f::fs,k,0,o,h,_,h2,h3=>by
  simp only [aP,Option.some.injEq] at h
  subst h
  have h2:f=false:=by simpa using h2
  subst h2
  simp [lS,h3]
 | o'::r,f::fs,k,i+1,o,h,hl,h2,h3=>by
  have:=tH fl r fs (k+1) i o h (by simpa using hl) (by simpa using h2) h3
  rw [show k+(i+1)=k+1+i by omega]
  simp only [lS]
  cases (!f&&mV fl o') with
  | true=>exact List.mem_cons_of_mem _ this
  | false=>exact this
theorem lQ (l:Array Bool) (i:Nat) (b:Bool):l.toList.getD i b=l.getD i b:=by
 simp [List.getD_eq_getElem?_getD,Array.getD_eq_getD_getElem?]
theorem aKd {s s':MS} (hback:gG 0 ops.toList=true) (heq:aEL P ops.toList s (qN ops.toList.length)=aEM P ops.toList s (aAw P ops.toList s) (qN ops.toList.length)) (hps:∀ p∈aAw P ops.toList s,p.holds) (hfin:v9 P ops.toList (replicate ops.toList.length true) s=some s')
  (hK:∀ c' a' w',St S0 w1 s' c' a' w'→Q .normal a' w'):∀ (fuel:Nat) (listed:Array Bool) (c:Ctx) (a:Act) (w:World),left ops listed=fuel→Down ops listed→(∃ s1,v9 P ops.toList listed.toList s=some s1∧St S0 w1 s1 c a w)→wpAny P .any ops Q fuel listed a w:=by
 have hps':∀ k,((aAw P ops.toList s).getD k none).holds:=by
  intro k
  rw [List.getD_eq_getElem?_getD]
  cases hk:(aAw P ops.toList s)[k]? with
  | none=>trivial
  | some p=>exact hps p (List.mem_of_getElem? hk)
 have hdone:∀ (listed:Array Bool) (c:Ctx) (a:Act) (w:World),Down ops listed→(∀ j,j<ops.size→listed.getD j false=true)→(∃ s1,v9 P ops.toList listed.toList s=some s1∧St S0 w1 s1 c a w)→Q .normal a w:=by
  rintro listed c a w hd hall ⟨s1,h1,h2⟩
  have:listed.toList=replicate ops.toList.length true:=by
   apply List.ext_getElem?
   intro j
   by_cases hj:j<ops.size
   ·have h3:=hall j hj
    rw [← lQ,List.getD_eq_getElem?_getD] at h3
    have hj':j<listed.toList.length:=by simpa [hd.size] using hj
    rw [List.getElem?_eq_getElem hj'] at h3⊢
    rw [List.getElem?_replicate,if_pos (by simpa using hj)]
    simpa using h3
   ·rw [List.getElem?_eq_none (by simp [hd.size];omega),List.getElem?_eq_none (by simp;omega)]
  rw [this,hfin,Option.some.injEq] at h1
  subst h1
  exact hK _ _ _ h2
 have hnoready:∀ (listed:Array Bool),Down ops listed→Region.ready .any ops listed= []→∀ j,j<ops.size→listed.getD j false=true:=by
  intro listed hd h0 j
  induction j using Nat.strongRecOn with
  | _ j ih =>
   intro hj
   cases hb:listed.getD j false with
   | true=>rfl
   | false =>
    exfalso
    have:j∈Region.ready .any ops listed:=bC.2 ⟨hj,by rw [aV (by rw [hd.size];exact hj),hb],ops[j],by simp [hj],fun e he hbd=>by
     have:=gH ops.toList 0 hback j ops[j] (by rw [bL];simp [hj]) e he hbd
     exact ih e.on (by omega) (by omega)⟩
    rw [h0] at this
    simp at this
 intro fuel
 induction fuel with
 | zero =>
  intro listed c a w hleft hd h
  have hall:∀ j,j<ops.size→listed.getD j false=true:=by
   intro j hj
   cases hb:listed.getD j false with
   | true=>rfl
   | false =>
    exfalso
    have hmem:j∈(List.range ops.size).filter fun i=>!listed.getD i true:=by
     simp only [List.mem_filter,List.mem_range,hj,true_and]
     rw [aV (by rw [hd.size];exact hj),hb];rfl
    unfold left at hleft
    rw [List.length_eq_zero_iff] at hleft
    rw [hleft] at hmem
    simp at hmem
  refine ⟨?_,hdone listed c a w hd hall h⟩
  apply List.eq_nil_iff_forall_not_mem.2
  intro i hi
  obtain ⟨h1,h2,_⟩:=bC.1 hi
  rw [aV (by rw [hd.size];exact h1),hall i h1] at h2
  simp at h2
 | succ fuel ih =>
  intro listed c a w hleft hd h
  refine ⟨fun h0=>hdone listed c a w hd (hnoready listed hd h0) h,fun i hi=>?_⟩
  obtain ⟨s1,h1,h2⟩:=h
  obtain ⟨q1,q2,o,q3,q4⟩:=bC.1 hi
  have hl:listed.toList∈qN ops.toList.length:=aBK _ _ (by simp [hd.size])
  have hdn:sG ops.toList listed.toList listed.toList=true:=y8 _ _ _ fun j oj hj hfj=>sH fun e he hb=>by
   rw [lQ] at hfj⊢
   exact hd.down j oj (by rw [bL] at hj;simpa using hj) hfj e he hb
  have hrd:=tH listed.toList ops.toList listed.toList 0 i o (by rw [bL];simpa using q3) (by simp [hd.size,q1]) (by rw [lQ];exact q2) (sH fun e he hb=>by rw [lQ];exact q4 e he hb)
  rw [Nat.zero_add] at hrd
  obtain ⟨s2,r1,r2⟩:=aBr _ heq _ hl hdn i o hrd s1 h1
  refine wpOp_mono (fun a' w' h'=>?_) (aHd (Q:=Q) q3 r2 (hps' i) h2)
  obtain ⟨c',h'⟩:=h'
  exact ih _ c' a' w' (by have:=aFc hd.size hi;omega) (hd.put hi) ⟨s2,by rw [Array.toList_setIfInBounds];exact r1,h'⟩
theorem aGi {s:MS} {K:MS→Prop} {c:Ctx} {a:Act} {w:World} (h:aQV P ops.toList s K) (hs:St S0 w1 s c a w) (hK:∀ s' c' a' w',K s'→St S0 w1 s' c' a' w'→Q .normal a' w'):aHu P ops true Q a w:=by
 obtain ⟨h0,⟨h1⟩,h2⟩:=h
 have hall:∀ (l:List OProp) (q:Prop),aGW l q→(∀ p∈l,p.holds)∧q:=by
  intro l
  induction l with
  | nil=>intro q h;exact ⟨fun p hp=>by simp at hp,h⟩
  | cons p r ih =>
   intro q h
   obtain ⟨hp,hr⟩:=oand_holds.1 h
   obtain ⟨h3,h4⟩:=ih q hr
   exact ⟨fun x hx=>by rcases List.mem_cons.1 hx with rfl|hx;exact hp;exact h3 x hx,h4⟩
 obtain ⟨h3,h4⟩:=hall _ _ h2
 split at h4
 ·rename_i s' hfin
  have e:Ext w { w with drawn:=w.drawn+1 }:=⟨rfl,rfl,Nat.le_refl _,fun _ _=>rfl,fun _ _=>rfl⟩
  obtain ⟨hm,hk⟩:=hs.mem.grow e
  have hst:St S0 w1 s _ a { w with drawn:=w.drawn+1 }:=hs.keepTm hk hm rfl rfl rfl
  have hrep:∀ j,(Array.replicate ops.size false).getD j false=false:=by
   intro j
   simp only [Array.getD_eq_getD_getElem?,Array.getElem?_replicate]
   split <;> rfl
  refine aKd h0 h1 h3 hfin (fun c' a' w' q=>hK s' c' a' w' h4 q) ops.size _ _ a _ ?_ ⟨by simp,fun i o _ hl=>?_⟩ ⟨s,?_,hst⟩
  ·have:left ops (Array.replicate ops.size false)=ops.size -0:=oN (by simp) (fun j=>by rw [hrep j];simp)
   simpa using this
  ·rw [hrep i] at hl;simp at hl
  ·have:∀ (L:List Oper) (n:Nat),v9 P L (replicate n false) s=some s:=by
    intro L
    induction L with
    | nil=>intro n;cases n <;> rfl
    | cons o r ih=>intro n;cases n with
     | zero=>rfl
     | succ n=>simp only [List.replicate_succ,v9,cond_false];exact ih n
   simpa using this ops.toList ops.size
 ·exact h4.elim
end
end
section
section
variable {F:Fence} {P:Program} {n:Nat} {S0:Nat→Prop} {w0:Base} {pin:Nat→Nat→Sz→Prop} {zs:Option Ex→List (Nat×Obj)} {H:Hnd} {X:XE P}
theorem aAF (hmix:P.follows .mixedOrders=true) (hF:Fw F P) (hY:YSnd F (n -1) P S0 w0 pin zs H) (hz:∀ pe z,z∈zs pe→z.2.isWalk=false) {ops:Array Oper} {Q:Exit→Act→World→Prop} {K:MS→XS→Prop}
  (hK:∀ s' x' c' a' w',K s' x'→XSt P S0 w0 pin zs s' x' c' a' w'→Q .normal a' w'):∀ (l:List Oper) (s:MS) (x:XS) (c:Ctx) (a:Act) (w:World),(∀ o∈l,∀ c,o.op≠ .defer c)→aGr X H ops.toList l s x K→XSt P S0 w0 pin zs s x c a w→
  wpListIn F n P ops Q l a w
 | [],s,x,c,a,w,_,h,hs=>hK s x c a w h hs
 | o::r,s,x,c,a,w,hd,h,hs=>aPo hmix hF hY hz (hd o (by simp)) h hs fun s' x' c' a' w' q1 q2=>aAF hmix hF hY hz hK r s' x' c' a' w' (fun o ho=>hd o (by simp [ho])) q1 q2
theorem aA8 (hmix:P.follows .mixedOrders=true) (hF:Fw F P) (hY:YSnd F (n -1) P S0 w0 pin zs H) (hz:∀ pe z,z∈zs pe→z.2.isWalk=false) {ops:Array Oper} {draw:Bool} {id:Nat} {Q:Exit→Act→World→Prop} (hQ:∀ a w,¬ Q .outgrown a w) {K:MS→XS→Prop}
  (hK:∀ s' x' c' a' w',K s' x'→XSt P S0 w0 pin zs s' x' c' a' w'→Q .normal a' w') {s:MS} {x:XS} {c:Ctx} {a:Act} {w:World} (hd:(ops.toList.all fun o=>aLF o.op)=true) (ha:gQ X (.region id ops draw)) (h:uM X H id ops.toList draw s x K) (hs:XSt P S0 w0 pin zs s x c a w) :
  (Code.region id ops draw).wpIn F n P Q a w:=by
 unfold uM at h
 split at h
 ·exact wpIn_region_list (aAF hmix hF hY hz hK ops.toList s x c a w (aGM hd) h hs)
 ·obtain ⟨w1,hst,_,hback⟩:=hs.with_
  split at h
  ·rename_i L hL
   have e:ops.toList=L:=by simpa only [gQ,hL] using ha
   subst e
   exact v4 hmix hF hQ hd (aGi h hst (fun s' c' a' w' q1 q2=>hK s' x c' a' w' q1 (hback _ _ _ _ q2)))
  exact v4 hmix hF hQ hd (lY (fun m v w' a' hk=>hk.elim) h hst (fun s' c' a' w' q1 q2 _=>hK s' x c' a' w' q1 (hback _ _ _ _ q2)))
structure RSnd (F:Fence) (n:Nat) (P:Program) (S0:Nat→Prop) (w0:Base) (pin:Nat→Nat→Sz→Prop) (zs:Option Ex→List (Nat×Obj)) (ha:Code→Prop) (H:Hnd):Prop where
 h:∀ (g:Operand) (ps:Array Tmp) (p q:Code) (s:MS) (x:XS) (K:XK) (c:Ctx) (a:Act) (w:World) (Q:Exit→Act→World→Prop),(∀ a w,¬ Q .outgrown a w)→(ha p∧ha q)→H.rng g ps p q s x K→XSt P S0 w0 pin zs s x c a w→
  (∀ e s' x' c' a' w',K e s' x'→XSt P S0 w0 pin zs s' x' c' a' w'→Q e.out a' w')→(Code.rangeFunc g ps p q).wpIn F n P Q a w
theorem aGN {Q:Exit→Act→World→Prop} (hQ:∀ a w,¬ Q .outgrown a w) (K:Act→World→Prop):∀ a w,¬ Exit.then K Q .outgrown a w:=hQ
theorem fN (hmix:P.follows .mixedOrders=true) (hF:Fw F P) (hY:YSnd F (n -1) P S0 w0 pin zs H) (hR:RSnd F n P S0 w0 pin zs (gQ X) H) (hz:∀ pe z,z∈zs pe→z.2.isWalk=false) :
  ∀ (c:Code) (s:MS) (x:XS) (K:XK) (ct:Ctx) (a:Act) (w:World) (Q:Exit→Act→World→Prop),(∀ a w,¬ Q .outgrown a w)→d9 c=true→gQ X c→evX X H c s x K→XSt P S0 w0 pin zs s x ct a w→
  (∀ e s' x' c' a' w',K e s' x'→XSt P S0 w0 pin zs s' x' c' a' w'→Q e.out a' w')→c.wpIn F n P Q a w
 | .skip,s,x,K,ct,a,w,Q,hQ,hd,ha,h,hs,hK=>wpIn_skip (hK .normal s x ct a w h hs)
 | .label l,s,x,K,ct,a,w,Q,hQ,hd,ha,h,hs,hK=>wpIn_label (hK .normal s x ct a w h hs)
 | .region id ops draw,s,x,K,ct,a,w,Q,hQ,hd,ha,h,hs,hK=>by
  simp only [evX] at h
  obtain ⟨w1,hst,_,hback⟩:=hs.with_
  exact aA8 hmix hF hY hz hQ (fun s' x' c' a' w' q1 q2=>hK .normal s' x' c' a' w' q1 q2) hd ha h (hback _ _ _ _ (hst.frzs _))
 | .seq p q,s,x,K,ct,a,w,Q,hQ,hd,ha,h,hs,hK=>by
  simp only [evX] at h
  simp only [d9,Bool.and_eq_true] at hd
  refine wpIn_seq (fN hmix hF hY hR hz p s x _ ct a w _ hQ hd.1 ha.1 h hs (fun e s' x' c' a' w' q1 q2=>?_))
  cases e with
  | normal=>exact fN hmix hF hY hR hz q s' x' K c' a' w' Q hQ hd.2 ha.2 q1 q2 hK
  | exit id=>exact hK (.exit id) s' x' c' a' w' q1 q2
  | ret=>exact hK .ret s' x' c' a' w' q1 q2
 | .cond cc p q,s,x,K,ct,a,w,Q,hQ,hd,ha,h,hs,hK=>by
  simp only [evX] at h
  simp only [d9,Bool.and_eq_true] at hd
  split at h
  ·rename_i t
   split at h
   ·rename_i b hb
    obtain ⟨w1,hst,_,hback⟩:=hs.with_
    have hr:=hst.tm t
    rw [hb] at hr
    have he:a.eval (.tmp t)= .bool b:=gD hr
    unfold Br at h
    cases b with
    | true =>
     rw [cond_true] at h
     exact wpIn_cond he (fN hmix hF hY hR hz p _ x K ct a w Q hQ hd.1 ha.1 h (hback _ _ _ _ (hst.again hr)) hK)
    | false =>
     rw [cond_false] at h
     exact wpIn_cond he (fN hmix hF hY hR hz q _ x K ct a w Q hQ hd.2 ha.2 h (hback _ _ _ _ (hst.again hr)) hK)
   ·exact h.elim
  ·exact h.elim
 | .block id p,s,x,K,ct,a,w,Q,hQ,hd,ha,h,hs,hK=>by
  simp only [evX] at h
  refine wpIn_block (fN hmix hF hY hR hz p s x _ ct a w _ (fun a w=>hQ a w) hd ha h hs (fun e s' x' c' a' w' q1 q2=>?_))
  cases e with
  | normal=>exact hK .normal s' x' c' a' w' q1 q2
  | exit j =>
   simp only [Ex.out,Exit.inBlock]
   have q1:cond (j.beq id) (K .normal s' x') (K (.exit j) s' x'):=q1
   cases hj:j.beq id with
   | true =>
    rw [hj,cond_true] at q1
    simp only [Nat.beq_eq] at hj
    rw [if_pos hj]
    exact hK .normal s' x' c' a' w' q1 q2
   | false =>
    rw [hj,cond_false] at q1
    have hne:¬ j=id:=by intro e;subst e;simp at hj
    rw [if_neg hne]
    exact hK (.exit j) s' x' c' a' w' q1 q2
  | ret=>exact hK .ret s' x' c' a' w' q1 q2
 | .loop p,s,x,K,ct,a,w,Q,hQ,hd,ha,h,hs,hK=>by
  simp only [evX] at h
  generalize hann:X.xann (bR p) s x=A at h
  unfold aH0 at h
  split at h
  ·exact h.elim
  ·rename_i ι I T Xm μ
   obtain ⟨⟨i0,hi0,hle0,hlx0⟩,hround⟩:=h
   refine wpIn_loop_ghost (fun m a' w'=>∃ i c',I i∧μ i=m∧XSt P S0 w0 pin zs (T i) ⟨Xm i,none⟩ c' a' w') (μ i0) (by
    obtain ⟨c',hc'⟩:=hs.le hle0 hlx0
    exact ⟨i0,c',hi0,rfl,hc'⟩) ?_
   rintro m a' w' ⟨i,c',hi,rfl,hst⟩
   refine fN hmix hF hY hR hz p (T i) _ _ c' a' w' _ (aGN hQ _) hd ha (hround i hi) hst (fun e s2 x2 c2 a2 w2 q1 q2=>?_)
   cases e with
   | normal =>
    obtain ⟨j,hj,hle,hlx,hlt⟩:=q1
    obtain ⟨c3,hc3⟩:=q2.le hle hlx
    exact ⟨μ j,hlt,j,c3,hj,rfl,hc3⟩
   | exit id=>exact hK (.exit id) s2 x2 c2 a2 w2 q1 q2
   | ret=>exact hK .ret s2 x2 c2 a2 w2 q1 q2
 | .exit id,s,x,K,ct,a,w,Q,hQ,hd,ha,h,hs,hK=>wpIn_exit (hK (.exit id) s x ct a w h hs)
 | .ret,s,x,K,ct,a,w,Q,hQ,hd,ha,h,hs,hK=>wpIn_ret (hK .ret s x ct a w h hs)
 | .rangeFunc g ps p q,s,x,K,ct,a,w,Q,hQ,hd,ha,h,hs,hK=>hR.h g ps p q s x K ct a w Q hQ ha (by simpa only [evX] using h) hs hK
 | .scope p,s,x,K,ct,a,w,Q,hQ,hd,ha,h,hs,hK=>by simp only [evX] at h;exact h.elim
 | .goto _,s,x,K,ct,a,w,Q,hQ,hd,ha,h,hs,hK=>by simp only [evX] at h;exact h.elim
 | .refuse _,s,x,K,ct,a,w,Q,hQ,hd,ha,h,hs,hK=>by simp only [evX] at h;exact h.elim
end
end
section
def zM:Ex→Code
 | .normal=> .skip
 | .exit id=> .exit id
 | .ret=> .ret
theorem aBT {c:Ctx} {w:World} {n:Nat}:∀ (ps:List Tmp) (ms:List MV) (vs:List Value) (l:List (Nat×MV)) (tmps:Array Value),RepAll c w ms vs→ms.length=ps.length→(ps.all fun p=>p.blt n)=true→tmps.size=n→(∀ t,Rep c w (look t l) (tmps.getD t undef))→
  (∀ t,Rep c w (look t (aBS ps ms l)) (((ps.zip vs).foldl (fun t (p,v)=>t.setIfInBounds p v) tmps).getD t undef))∧((ps.zip vs).foldl (fun t (p,v)=>t.setIfInBounds p v) tmps).size=n
 | [],ms,vs,l,tmps,_,hl,_,hs,h=>by
  have:ms= []:=List.eq_nil_of_length_eq_zero hl
  subst this
  exact ⟨h,hs⟩
 | p::ps, [],vs,l,tmps,_,hl,_,hs,h=>by simp at hl
 | p::ps,m::ms,vs,l,tmps,hr,hl,hp,hs,h=>by
  obtain ⟨v,r,rfl,h1,h2⟩:=hr
  simp only [List.all_cons,Bool.and_eq_true,Nat.blt_eq] at hp
  simp only [List.zip_cons_cons,List.foldl_cons,aBS]
  refine aBT ps ms r _ _ h2 (by simpa using hl) hp.2 (by simpa using hs) fun t=>?_
  simp only [look]
  cases hb:p.beq t with
  | true =>
   simp only [Nat.beq_eq] at hb
   subst hb
   have:(tmps.setIfInBounds p v).getD p undef=v:=by simp [Array.getD_eq_getD_getElem?,hs,hp.1]
   rw [this]
   exact lU h1
  | false =>
   have hne:p≠t:=by intro e;subst e;simp at hb
   have:(tmps.setIfInBounds p v).getD t undef=tmps.getD t undef:=by simp [Array.getD_eq_getD_getElem?,hne]
   rw [this]
   exact h t
section
variable {P:Program} {S0:Nat→Prop} {w0:Base}
theorem aQ8 {F:Fence} {n:Nat} {pin:Nat→Nat→Sz→Prop} {zs:Option Ex→List (Nat×Obj)}:YSnd F n P S0 w0 pin zs Hnd.none:=⟨fun _ _ _ _ _ _ _ _ _ h=>h.elim⟩
theorem aQ7 {F:Fence} {n:Nat} {pin:Nat→Nat→Sz→Prop} {zs:Option Ex→List (Nat×Obj)} {ha:Code→Prop}:RSnd F n P S0 w0 pin zs ha Hnd.none:=⟨fun _ _ _ _ _ _ _ _ _ _ _ _ _ h=>h.elim⟩
theorem m8 {fn:Func} {tmps:Array Value} {R:Ending→World→Prop} {n:Nat} {N:Nat}:∀ (Ds:List Nat) (w:World),Ds.Nodup→(∀ D∈Ds,N≤D∧w.heap[D]? =some (.deferred (some [])))→
  (∀ w',Moved N w w'→(∀ e,e ∉ Ds→w'.heap[e]? =w.heap[e]?)→∃ v,(results fn tmps).run P w'= .ok v w'∧R (.returned v) w')→LeavesInM Fence.wide n P fn tmps R (Ds.map oP) .returning w
 | [],w,_,_,h=>h w (Moved.refl N w) (fun _ _=>rfl)
 | D::Ds,w,hn,hD,h=>by
  obtain ⟨h1,h2⟩:=hD D (by simp)
  have hk:=Moved.put (N:=N) (o':= .deferred none) h2 h1 rfl rfl
  simp only [List.nodup_cons] at hn
  refine ⟨by simp,.inl ⟨D,_,rfl,run_takeDeferred h2,m8 (N:=N) Ds _ hn.2 (fun D' hD'=>?_) (fun w' k q=>?_)⟩⟩
  ·have hne:D'≠D:=fun e=>hn.1 (e ▸ hD')
   exact ⟨(hD D' (by simp [hD'])).1,(World.putObj_heap_other hne).trans (hD D' (by simp [hD'])).2⟩
  ·refine h w' (hk.trans k) fun e he=>?_
   simp only [List.mem_cons,not_or] at he
   exact (q e he.2).trans (World.putObj_heap_other he.1)
def aJK:Nat→Nat→Sz→Prop:=fun _ _ _=>False
def zs0:Option Ex→List (Nat×Obj):=fun _=> []
def aIt (fn:FuncId) (tmps:Array Value) (ps:Array Tmp) (p q:Code) (D:Nat) (st:LoopState) (pe:Option Code):Loop:={ state:=st,pending:=pe,fn,tmps,params:=ps,assign:=p,body:=q,defers:=D }
def aCR:Obj→Bool
 | .loop _=>true
 | _=>false
theorem MapOk.notLoop {m:MapC} {o:Obj} (h:MapOk m o):aCR o=false:=by
 obtain ⟨es,clock,rfl,_⟩:=h
 rfl
theorem Out.putL {w1:Base} {L:Nat} {r r':Loop} {zl zl':List (Nat×Obj)} {Ds:List Nat} {mp:Option (Nat×MapC)} {bx:List Box} {c:Ctx} {w:World} (h:Out P w0 w1 zl Ds mp) (hL:Extn w0 w1 L (.loop r)) (m:Mem S0 w1 bx c w)
  (hz:∀ z∈zl',z=(L,.loop r')∨(Extn w0 w1 z.1 z.2∧aCR z.2=false)) (pin:Nat→Nat→Sz→Prop) (df:List Deferred) {Ds':List Nat} (hn:Ds'.Nodup) (hDs:∀ D∈Ds',Extn w0 w1 D (.deferred (some []))) (hdis:∀ z∈zl',z.1 ∉ Ds') :
  Out P w0 (gP (w.putObj L (.loop r')) c pin df) zl' Ds' mp∧Moved w0.w.heap.size w (w.putObj L (.loop r')):=by
 obtain ⟨hnow,hnown⟩:=hL.now m
 have hlt:=(Array.getElem?_eq_some_iff.1 hnow).1
 have k:=Moved.put (N:=w0.w.heap.size) (o':= .loop r') hnow hL.lo rfl rfl
 have hne:∀ e ob,Extn w0 w1 e ob→aCR ob=false→e≠L:=fun e ob q hw hh=>by
  subst hh
  have:=(q.now m).1
  rw [hnow,Option.some.injEq] at this
  rw [← this] at hw
  simp [aCR] at hw
 refine ⟨⟨h.reb.move m k pin df,hn,fun D hD=>(hDs D hD).move m (World.putObj_heap_other (hne D _ (hDs D hD) rfl)) _ _,fun z hzz=>?_,fun B mm hB=>?_,hdis⟩,k⟩
 ·rcases hz z hzz with rfl|⟨q1,q2⟩
  ·exact ⟨World.putObj_heap_same hlt,hnown,hL.lo⟩
  ·exact q1.move m (World.putObj_heap_other (hne _ _ q1 q2)) _ _
 ·obtain ⟨q1,o,q2,q3⟩:=h.mp B mm hB
  exact ⟨q1,o,q2,q3.move m (World.putObj_heap_other (hne _ _ q3 q2.notLoop)) _ _⟩
def rR (L:Nat) (rec:LoopState→Option Code→Loop) (Ds:List Nat) (pe:Option Ex):List (Nat×Obj) :=
 (L,.loop (match pe with|none=>rec .ready none|some e=>rec .done (some (zM e))))::Ds.map fun D=>(D,.deferred (some []))
theorem aKg {L:Nat} {rec:LoopState→Option Code→Loop} {Ds:List Nat}:∀ pe z,z∈rR L rec Ds pe→z.2.isWalk=false:=by
 intro pe z hz
 simp only [rR,List.mem_cons,List.mem_map] at hz
 rcases hz with rfl|⟨D,_,rfl⟩
 ·cases pe <;> rfl
 ·rfl
theorem aFw (hmix:P.follows .mixedOrders=true) {X:XE P} {s:MS} {np:Nat} {ps:Array Tmp} {p q:Code} {L:Nat} {fn:FuncId} {a:Act} {D:Nat} {Ds:List Nat} {rec:LoopState→Option Code→Loop} (hrec:∀ st pe,rec st pe=aIt fn a.tmps ps p q D st pe)
  {c0:Ctx} {w00:World} (hnd:d9 p=true∧d9 q=true) (hall:gQ X p∧gQ X q) (htm:∀ t,Rep c0 w00 (look t s.tm) (a.tmps.getD t undef)) (hsz:a.tmps.size=s.n) {pinI:Nat→Nat→Sz→Prop} (hpI:∀ i b z,pinI i b z↔i<np∧c0.live i∧c0.β i=b∧c0.sz i=z) {m:Nat} (rn:Operand→Array Tmp→Code→Code→MS→XS→XK→Prop) :
  YSnd Fence.wide m P S0 w0 pinI (rR L rec Ds) ⟨L,aC9 X s np ps p q,rn⟩:=⟨by
 intro args si mp ci ai W vs kN kX h hs hv
 have h:aC9 X s np ps p q args si ⟨mp,none⟩ kN kX:=h
 unfold aC9 at h
 cases hc:(args.length.beq ps.size&&ps.toList.all (fun p=>p.blt s.n)&&si.np.beq np) with
 | false=>rw [hc] at h;exact h.elim
 | true =>
  rw [hc,cond_true] at h
  simp only [Bool.and_eq_true,Nat.beq_eq] at hc
  obtain ⟨⟨hlen,hps⟩,hnp⟩:=hc
  have hvl:=dS _ _ hv
  obtain ⟨w1,Dr,hO,hst,hp,hdf⟩:=hs
  have hM:=hst.mem
  have hL:Extn w0 w1 L (.loop (rec .ready none)):=hO.zs (L,_) (by simp [rR])
  have hLnow:=(hL.now hM).1
  have hDe:∀ E∈Ds,Extn w0 w1 E (.deferred (some [])):=fun E hE=>hO.zs (E,_) (by simp [rR,hE])
  have hy:=run_yield (P:=P) (args:=vs.toArray) hLnow (by rw [hrec];simp [aIt];omega)
  rw [hrec] at hy
  refine ⟨fn,_,p,q,hy,roundIn_of_wpIn trivial ?_⟩
  generalize hpr:(fun (i:Nat) (b:Nat) (z:Sz)=>i<np∧ci.live i∧ci.β i=b∧ci.sz i=z)=pr
  have hpr':∀ i b z,pr i b z↔i<np∧ci.live i∧ci.β i=b∧ci.sz i=z:=by subst hpr;exact fun _ _ _=>Iff.rfl
  have hIc:∀ i,i<np→c0.live i→ci.live i∧ci.β i=c0.β i∧ci.sz i=c0.sz i:=fun i hi hl=>hM.pin i _ _ (hp i _ _ ((hpI i _ _).2 ⟨hi,hl,rfl,rfl⟩))
  have k0:=Moved.refl w0.w.heap.size W
  obtain ⟨htm2,hsz2⟩:=aBT (c:=ci) (w:=W) (n:=s.n) ps.toList args vs (d4 np s.tm) a.tmps hv (by rw [Array.length_toList];exact hlen) hps hsz (fun t=>by rw [mE];exact qF hIc (htm t))
  have efold:(ps.zip vs.toArray).foldl (fun t (p,v)=>t.setIfInBounds p v) a.tmps=(ps.toList.zip vs).foldl (fun t (p,v)=>t.setIfInBounds p v) a.tmps:=by
   rw [← Array.foldl_toList,Array.toList_zip]
  have hstr:St S0 (gP W ci pr []) ⟨s.n,aBS ps.toList args (d4 np s.tm),si.bx,np⟩ ci { tmps:=(ps.zip vs.toArray).foldl (fun t (p,v)=>t.setIfInBounds p v) a.tmps,defers:= [] } W :=
   ⟨hM.moved k0 pr [] (fun i b z h=>((hpr' i b z).1 h).2),fun t=>by rw [efold];exact htm2 t,by rw [efold];exact hsz2,rfl,fun i b z h=>((hpr' i b z).1 h).1⟩
  have hOm:=hO.move hM k0 (fun _ _ _=>rfl) pr []
  let zr:LoopState→Option Ex→List (Nat×Obj):=fun st _=>(L,.loop (rec st none))::(Ds++Dr).map fun D=>(D,.deferred (some []))
  have hzr:∀ st pe z,z∈zr st pe→z.2.isWalk=false:=by
   intro st pe z hz
   simp only [zr,List.mem_cons,List.mem_map] at hz
   rcases hz with rfl|⟨D,_,rfl⟩ <;> rfl
  have hx1:XSt P S0 w0 pr (zr .ready) ⟨s.n,aBS ps.toList args (d4 np s.tm),si.bx,np⟩ ⟨mp,none⟩ ci { tmps:=(ps.zip vs.toArray).foldl (fun t (p,v)=>t.setIfInBounds p v) a.tmps,defers:= [] } W:=by
   refine ⟨_, [],⟨hOm.reb,List.nodup_nil,fun D hD=>by simp at hD,fun z hz=>?_,hOm.mp,fun z _=>by simp⟩,hstr,fun _ _ _ h=>h,rfl⟩
   simp only [zr,List.mem_cons,List.mem_map,List.mem_append] at hz
   rcases hz with rfl|⟨E,hE,rfl⟩
   ·exact hL.move hM rfl _ _
   ·rcases hE with hE|hE
    ·exact (hDe E hE).move hM rfl _ _
    ·exact (hO.ds E hE).move hM rfl _ _
  refine fN hmix (aE0 P L) aQ8 aQ7 (hzr .ready) p _ _ _ ci _ W _ (fun _ _ h=>h) hnd.1 hall.1 h hx1 (fun e s1 x1 c1 a1 wa q1 q2=>?_)
  cases e with
  | exit id=>exact q1.elim
  | ret=>exact q1.elim
  | normal =>
   obtain ⟨w2,D2,hO2,hst2,hp2,hdf2⟩:=q2
   have hM2:=hst2.mem
   have hL2:Extn w0 w2 L (.loop (rec .ready none)):=hO2.zs (L,_) (by simp [zr])
   have hd2:∀ E∈Ds++Dr,Extn w0 w2 E (.deferred (some [])):=fun E hE=>hO2.zs (E,_) (by simp only [zr,List.mem_cons,List.mem_map];exact .inr ⟨E,hE,rfl⟩)
   obtain ⟨hO3,hk3⟩:=hO2.putL (S0:=S0) (r':=rec .busy none) (zl':=zr .busy none) hL2 hM2 (fun z hz=>by
    simp only [zr,List.mem_cons,List.mem_map] at hz
    rcases hz with rfl|⟨E,hE,rfl⟩
    ·exact .inl rfl
    ·exact .inr ⟨hd2 E hE,rfl⟩) w2.pin w2.df hO2.nd hO2.ds (fun z hz=>by
    simp only [zr,List.mem_cons,List.mem_map] at hz
    rcases hz with rfl|⟨E,hE,rfl⟩
    ·exact hO2.dis (L,.loop (rec .ready none)) (by simp [zr])
    ·exact hO2.dis (E,_) (by simp only [zr,List.mem_cons,List.mem_map];exact .inr ⟨E,hE,rfl⟩))
   refine ⟨_,by have:=run_beginRound (P:=P) (hL2.now hM2).1 (by rw [hrec];rfl);rw [hrec] at this;exact this,?_⟩
   have hx3:XSt P S0 w0 pr (zr .busy) s1 x1 c1 a1 (wa.putObj L (.loop (rec .busy none))):=⟨_,D2,hO3,hst2.at hk3,hp2,hdf2⟩
   rw [hrec] at hx3
   refine fN hmix (aE0 P L) aQ8 aQ7 (hzr .busy) q s1 x1 _ c1 a1 _ _ (fun _ _ h=>h) hnd.2 hall.2 q1 hx3 (fun e s2 x2 c2 a2 w3 r1 r2=>?_)
   obtain ⟨w4,D4,hO4,hst4,hp4,hdf4⟩:=r2
   have hM4:=hst4.mem
   have hL4:Extn w0 w4 L (.loop (rec .busy none)):=hO4.zs (L,_) (by simp [zr])
   have hd4:∀ E∈Ds++Dr,Extn w0 w4 E (.deferred (some [])):=fun E hE=>hO4.zs (E,_) (by simp only [zr,List.mem_cons,List.mem_map];exact .inr ⟨E,hE,rfl⟩)
   have hcc:∀ i,i<np→ci.live i→c2.live i∧c2.β i=ci.β i∧c2.sz i=ci.sz i:=fun i hi hl=>hM4.pin i _ _ (hp4 i _ _ ((hpr' i _ _).2 ⟨hi,hl,rfl,rfl⟩))
   have back:∀ (pe:Option Ex) (r':Loop),r'=(match pe with|none=>rec .ready none|some e=>rec .done (some (zM e)))→XSt P S0 w0 pinI (rR L rec Ds) ⟨si.n,d4 si.np si.tm,s2.bx,si.np⟩ ⟨x2.mp,pe⟩ c2 ai (w3.putObj L (.loop r')):=by
    intro pe r' hr'
    obtain ⟨hO5,hk5⟩:=hO4.putL (S0:=S0) (r':=r') (zl':=rR L rec Ds pe) hL4 hM4 (fun z hz=>by
     simp only [rR,List.mem_cons,List.mem_map] at hz
     rcases hz with rfl|⟨E,hE,rfl⟩
     ·exact .inl (by rw [hr'])
     ·exact .inr ⟨hd4 E (by simp [hE]),rfl⟩) pinI w1.df hO.nd (fun E hE=>hd4 E (by simp [hE])) (fun z hz=>by
     simp only [rR,List.mem_cons,List.mem_map] at hz
     rcases hz with rfl|⟨E,hE,rfl⟩
     ·exact hO.dis (L,.loop (rec .ready none)) (by simp [rR])
     ·exact hO.dis (E,_) (by simp [rR,hE]))
    refine ⟨_,Dr,hO5,⟨hM4.moved hk5 pinI w1.df (fun i b z h=>?_),fun t=>?_,hst.size,hst.defers,fun i b z h=>?_⟩,fun _ _ _ h=>h,hdf⟩
    ·obtain ⟨h1,h2,rfl,rfl⟩:=(hpI i b z).1 h
     obtain ⟨g1,g2,g3⟩:=hIc i h1 h2
     obtain ⟨f1,f2,f3⟩:=hcc i h1 g1
     exact ⟨f1,f2.trans g2,f3.trans g3⟩
    ·show Rep c2 _ (look t (d4 si.np si.tm)) _
     rw [mE,hnp]
     exact qF hcc (hst.tm t)
    ·show i<si.np
     rw [hnp];exact ((hpI i b z).1 h).1
   have fin:∀ (jump:Option Code),(Instr.endRound L jump).run P w3= .ok (.bool jump.isNone) (w3.putObj L (.loop (rec (if jump.isNone then .ready else .done) jump))):=fun jump=>by
    have:=run_endRound (P:=P) jump (hL4.now hM4).1
    rw [hrec] at this⊢
    exact this
   cases e with
   | normal=>exact ⟨_,_,fin none,.inl ⟨rfl,s2.bx,x2.mp,c2,r1,back none _ rfl⟩⟩
   | ret=>exact ⟨_,_,fin (some .ret),.inr ⟨rfl,.ret,s2.bx,x2.mp,c2,r1,back (some .ret) _ rfl⟩⟩
   | exit id=>exact ⟨_,_,fin (some (.exit id)),.inr ⟨rfl,.exit id,s2.bx,x2.mp,c2,r1,back (some (.exit id)) _ rfl⟩⟩⟩
end
end
section
section
variable {P:Program} {S0:Nat→Prop} {w0:Base}
theorem cU {X:XE P} (hX:X.all=fun _=>none):∀ (c:Code),gQ X c
 | .region _ _ _=>by simp [gQ,hX]
 | .seq a b=>⟨cU hX a,cU hX b⟩
 | .cond _ a b=>⟨cU hX a,cU hX b⟩
 | .block _ c=>cU hX c
 | .loop c=>cU hX c
 | .scope c=>cU hX c
 | .rangeFunc _ _ a b=>⟨cU hX a,cU hX b⟩
 | .skip=>trivial
 | .label _=>trivial
 | .exit _=>trivial
 | .ret=>trivial
 | .goto _=>trivial
 | .refuse _=>trivial
theorem aJR (hmix:P.follows .mixedOrders=true) {X:XE P} {n:Nat}:RSnd Fence.wide n P S0 w0 aJK zs0 (gQ X) (hFn X):=⟨by
 intro g ps p q s x K c a w Q hQ hall h hs hK
 replace h:aTp X g ps p q s x K:=h
 unfold aTp at h
 split at h
 ·rename_i t
  split at h
  ·rename_i f caps hlk
   split at h
   ·rename_i ie hie
    have hief:=oI hie
    subst hief
    split at h
    ·rename_i code hbody
     split at h
     ·rename_i hpe
      generalize hnp:X.rnp (bR q)=np at h
      cases hc:((caps.length+1).ble ie.fn.ntmps&&ie.fn.results.size.beq 0&&d9 p&&d9 q&&d9 code) with
      | false=>rw [hc] at h;exact h.elim
      | true =>
       rw [hc,cond_true] at h
       simp only [Bool.and_eq_true,Nat.beq_eq,Nat.ble_eq] at hc
       obtain ⟨⟨⟨⟨hcl,hres⟩,hnp1⟩,hnp2⟩,hnp3⟩:=hc
       obtain ⟨w1,Ds,hO,hst,hp,hdf⟩:=id hs
       have hM:=hst.mem
       obtain ⟨cs,hv0,hcs,hagg⟩:=bU (show Rep c w (.fn ie.f caps) (a.tmps.getD t undef) from hlk ▸ hst.tm t) rfl (by simp) rfl
       have hgv:a.eval (.tmp t)= .func (.func ie.f) #[] cs.toArray:=by
        simp only [List.cons.injEq,and_true] at hv0
        exact hv0
       have hcv:=aBW caps cs hcs hagg
       have hcsl:=dS _ _ hcv
       have hwN:w0.w.heap.size≤w.heap.size:=Nat.le_trans hO.reb.ext.size hM.ext.size
       refine wpIn_rangeFunc ?_
       intro fn hfn
       obtain ⟨rec,hrec⟩:∃ rec:LoopState→Option Code→Loop,∀ st pe,rec st pe=aIt fn a.tmps ps p q w.heap.size st pe:=⟨_,fun _ _=>rfl⟩
       obtain ⟨W1,hW1⟩:∃ W1,(w.alloc (.deferred (some []))).alloc (.loop (rec .ready none))=W1:=⟨_,rfl⟩
       have hL1:W1.heap[w.heap.size+1]? =some (.loop (rec .ready none)):=by
        rw [← hW1];have:=World.alloc_heap_new (w.alloc (.deferred (some []))) (.loop (rec .ready none));rwa [World.size_alloc] at this
       have hD1:W1.heap[w.heap.size]? =some (.deferred (some [])):=by
        rw [← hW1];exact (Below.heap_alloc _ _ _ (by simp)).trans (World.alloc_heap_new w _)
       have k1:Moved w0.w.heap.size w W1:=by
        rw [← hW1]
        exact (Moved.alloc hwN _).trans (Moved.alloc (by simp;omega) _)
       have hsame:∀ e,e<w.heap.size→W1.heap[e]? =w.heap[e]? :=fun e he=>by
        rw [← hW1]
        exact (Below.heap_alloc _ _ _ (by simp;omega)).trans (Below.heap_alloc _ _ _ he)
       refine ⟨w.heap.size+1, [oP w.heap.size],W1,{ target:= .fn (.func ie.f) cs.toArray,args:=#[Value.func (.yield (w.heap.size+1)) #[] #[]] },W1,ie.f,#[Value.func (.yield (w.heap.size+1)) #[] #[]]++cs.toArray,W1,?_,?_,?_,?_,fun h=>by simp [Fence.wide] at h,?_⟩
       ·rw [← hW1,hrec];exact run_enterLoop_outer _ _ _ _ _
       ·simp only [resolve,hgv]
        simp [go_sem]
       ·intro f' _;trivial
       ·simp [invoke,go_sem,ie.hc]
       ·
        generalize hpI:(fun (i:Nat) (b:Nat) (z:Sz)=>i<np∧c.live i∧c.β i=b∧c.sz i=z)=pI
        have hpI':∀ i b z,pI i b z↔i<np∧c.live i∧c.β i=b∧c.sz i=z:=by subst hpI;exact fun _ _ _=>Iff.rfl
        have hOm:=hO.move hM k1 (fun e he _=>hsame e he) pI []
        have hL:Extn w0 (gP W1 c pI []) (w.heap.size+1) (.loop (rec .ready none)):=⟨hL1,fun ⟨i,hi,e⟩=>by have:=(hM.fresh i hi).2.1;omega,by omega⟩
        have hD:Extn w0 (gP W1 c pI []) w.heap.size (.deferred (some [])):=⟨hD1,fun ⟨i,hi,e⟩=>by have:=(hM.fresh i hi).2.1;omega,by omega⟩
        have hsti:St S0 (gP W1 c pI []) ⟨ie.fn.ntmps,dM 0 (.val (.func (.yield (w.heap.size+1)) #[] #[])::caps),s.bx,np⟩ c { tmps:=(#[Value.func (.yield (w.heap.size+1)) #[] #[]]++cs.toArray)++Array.replicate (ie.fn.ntmps -(#[Value.func (.yield (w.heap.size+1)) #[] #[]]++cs.toArray).size) undef,defers:= [] } W1:=by
         refine ⟨hM.moved k1 pI [] (fun i b z h=>((hpI' i b z).1 h).2),fun u=>?_,by simp;omega,rfl,fun i b z h=>((hpI' i b z).1 h).1⟩
         have hall:RepAll c W1 (.val (.func (.yield (w.heap.size+1)) #[] #[])::caps) (.func (.yield (w.heap.size+1)) #[] #[]::cs):=⟨_,_,rfl,(aS rfl (by simp)).2 ⟨rfl,rfl⟩,RepAll.moved k1 _ _ hcv⟩
         have:=(eM _ _ 0 hall u).2 (Nat.zero_le _)
         rw [Nat.sub_zero] at this
         have e:((#[Value.func (.yield (w.heap.size+1)) #[] #[]]++cs.toArray)++Array.replicate (ie.fn.ntmps -(#[Value.func (.yield (w.heap.size+1)) #[] #[]]++cs.toArray).size) undef).getD u undef=(Value.func (.yield (w.heap.size+1)) #[] #[]::cs).getD u undef:=by
          have e0:(#[Value.func (.yield (w.heap.size+1)) #[] #[]]++cs.toArray).toList=Value.func (.yield (w.heap.size+1)) #[] #[]::cs:=by simp
          rw [← e0]
          simp only [Array.getD_eq_getD_getElem?,List.getD_eq_getElem?_getD,Array.getElem?_toList]
          rw [Array.getElem?_append]
          split
          ·rfl
          ·rename_i hge
           rw [Array.getElem?_replicate,Array.getElem?_eq_none (by omega:(#[Value.func (.yield (w.heap.size+1)) #[] #[]]++cs.toArray).size≤u)]
           split <;> rfl
         rw [e]
         exact this
        have hx1:∀ ai,St S0 (gP W1 c pI []) ⟨ie.fn.ntmps,dM 0 (.val (.func (.yield (w.heap.size+1)) #[] #[])::caps),s.bx,np⟩ c ai W1→XSt P S0 w0 pI (rR (w.heap.size+1) rec (w.heap.size::Ds)) ⟨ie.fn.ntmps,(0,.val (.func (.yield (w.heap.size+1)) #[] #[]))::dM 1 caps,s.bx,np⟩ x c ai W1:=by
         intro ai hsti
         refine ⟨_, [],⟨hOm.reb,List.nodup_nil,fun D hD=>by simp at hD,fun z hz=>?_,hOm.mp,fun z _=>by simp⟩,hsti,fun _ _ _ h=>h,rfl⟩
         rw [hpe] at hz
         simp only [rR,List.mem_cons,List.map_cons,List.mem_map] at hz
         rcases hz with rfl|rfl|⟨E,hE,rfl⟩
         ·exact hL
         ·exact hD
         ·exact hOm.ds E hE
        refine callsIn_of_wp_marks ie.hf hbody trivial ?_ rfl
        refine fN (X:={ X with E:=ie.E,xann:=ie.xann,all:=fun _=>none }) hmix (aH6 P) (aFw hmix hrec ⟨hnp1,hnp2⟩ hall (fun u=>hst.tm u) hst.size hpI' _) ⟨fun _ _ _ _ _ _ _ _ _ _ _ _ _ h=>h.elim⟩ aKg code _ x _ c _ W1 _ (fun _ _ hh=>?_) hnp3 (cU rfl code) (h (w.heap.size+1)) (hx1 _ hsti) (fun e s' x' c' a' w' q1 q2=>?_)
        ·obtain ⟨a0,w0',hq⟩:=hh
         exact hQ a0 w0' hq
        ·obtain ⟨w2,D2,hO2,hst2,hp2,hdf2⟩:=q2
         have hM2:=hst2.mem
         have hcc:∀ i,i<np→c.live i→c'.live i∧c'.β i=c.β i∧c'.sz i=c.sz i:=fun i hi hl=>hM2.pin i _ _ (hp2 i _ _ ((hpI' i _ _).2 ⟨hi,hl,rfl,rfl⟩))
         have fin:(match x'.pe with
           | none=>K .normal ⟨s.n,d4 np s.tm,s'.bx,s.np⟩ ⟨x'.mp,none⟩
           | some e=>K e ⟨s.n,d4 np s.tm,s'.bx,s.np⟩ ⟨x'.mp,none⟩)→LeavesInM Fence.wide (n -1) P ie.fn a'.tmps (rangePost Fence.wide n P (w.heap.size+1) Q { a with defers:= [oP w.heap.size]++a.defers }) a'.defers .returning w':=by
          intro hk
          rw [hst2.defers,hdf2]
          refine m8 (N:=w0.w.heap.size) D2 w' hO2.nd (fun D hD=>⟨(hO2.ds D hD).lo,((hO2.ds D hD).now hM2).1⟩) fun w3 k3 hs3=>?_
          refine ⟨.tuple #[],?_,?_⟩
          ·have:ie.fn.results=#[]:=Array.eq_empty_of_size_eq_zero hres
           rw [hJ,this,Array.mapM_eq_mapM_toList]
           simp
          ·have hLx:Extn w0 w2 (w.heap.size+1) (.loop (match x'.pe with|none=>rec .ready none|some e=>rec .done (some (zM e)))):=hO2.zs (w.heap.size+1,_) (List.mem_cons_self ..)
           have hne:∀ e o,Extn w0 w2 e o→(∀ ds,o≠ .deferred ds)→e ∉ D2:=fun e o he ho hm=>by
            have h1:=he.at_
            rw [(hO2.ds e hm).at_,Option.some.injEq] at h1
            exact ho _ h1.symm
           have hLn:=(hLx.now hM2).1
           have hL3:w3.heap[w.heap.size+1]? =some (.loop (match x'.pe with|none=>rec .ready none|some e=>rec .done (some (zM e)))):=(hs3 _ (hne _ _ hLx (by simp))).trans hLn
           have hend:=run_endLoop (P:=P) hL3 (by cases x'.pe <;> (simp only [hrec];simp [aIt]))
           refine ⟨_,_,hend,?_⟩
           generalize hw4:w3.putObj (w.heap.size+1) (.loop { (match x'.pe with|none=>rec .ready none|some e=>rec .done (some (zM e))) with state:= .exhausted })=w4
           have k4:Moved w0.w.heap.size w3 w4:=by rw [← hw4];exact Moved.put hL3 (by omega) rfl rfl
           have k:=k3.trans k4
           have hs4:∀ e,e ∉ D2→e≠w.heap.size+1→w4.heap[e]? =w'.heap[e]? :=fun e h1 h2=>by rw [← hw4];exact (World.putObj_heap_other h2).trans (hs3 e h1)
           have hDm:∀ E,E∈w.heap.size::Ds→Extn w0 w2 E (.deferred (some [])):=fun E hE=>hO2.zs (E,_) (by simp only [rR,List.mem_cons,List.mem_map];exact .inr ⟨E,by simpa using hE,rfl⟩)
           have hlast:∀ E,E∈Ds→E<w.heap.size:=fun E hE=>(Array.getElem?_eq_some_iff.1 ((hO.ds E hE).now hM).1).1
           have hX:K (match x'.pe with|none=> .normal|some e=>e) ⟨s.n,d4 np s.tm,s'.bx,s.np⟩ ⟨x'.mp,none⟩:=by
            revert hk
            cases x'.pe <;> exact id
           have hxs:(∀ E∈w.heap.size::Ds,E ∉ D2)→XSt P S0 w0 aJK zs0 ⟨s.n,d4 np s.tm,s'.bx,s.np⟩ ⟨x'.mp,none⟩ c' { a with defers:= [oP w.heap.size]++a.defers } w4:=by
            intro hdis
            refine ⟨gP w4 c' aJK ([oP w.heap.size]++a.defers),w.heap.size::Ds,⟨hO2.reb.move hM2 k aJK _,List.nodup_cons.2 ⟨fun hm=>absurd (hlast _ hm) (Nat.lt_irrefl _),hO.nd⟩,fun E hE=>(hDm E hE).move hM2 (hs4 E (hdis E hE) (fun e=>by
             rcases List.mem_cons.1 hE with rfl|hE
             ·omega
             ·have:=hlast E hE;omega)) _ _,fun z hz=>by simp [zs0] at hz,fun B m hB=>?_,fun z hz=>by simp [zs0] at hz⟩,⟨hM2.moved k aJK _ (fun _ _ _ h=>h.elim),fun u=>?_,hst.size,rfl,fun _ _ _ h=>h.elim⟩,fun _ _ _ h=>h.elim,?_⟩
            ·obtain ⟨g1,o,g2,g3⟩:=hO2.mp B m hB
             refine ⟨g1,o,g2,g3.move hM2 (hs4 B (hne _ _ g3 (fun ds e=>?_)) (fun e=>?_)) _ _⟩
             ·obtain ⟨es,clock,rfl,_⟩:=g2
              cases e
             ·have h1:=g3.at_
              rw [e,hLx.at_,Option.some.injEq] at h1
              obtain ⟨es,clock,rfl,_⟩:=g2
              cases h1
            ·show Rep c' w4 (look u (d4 np s.tm)) _
             rw [mE]
             exact qF hcc (hst.tm u)
            ·show [oP w.heap.size]++a.defers=(w.heap.size::Ds).map oP
             rw [hst.defers,hdf]
             rfl
           have hxs':=hxs (fun E hE=>hO2.dis (E,.deferred (some [])) (by simp only [rR,List.mem_cons,List.mem_map];exact .inr ⟨E,by simpa using hE,rfl⟩))
           have hfin:=hK _ _ _ c' _ _ hX hxs'
           cases hpe':x'.pe with
           | none =>
            rw [hpe'] at hfin
            simp only [hrec]
            exact hfin
           | some e' =>
            rw [hpe'] at hfin
            simp only [hrec]
            cases e' with
            | normal=>exact wpIn_skip hfin
            | ret=>exact wpIn_ret hfin
            | exit id=>exact wpIn_exit hfin
         cases e with
         | normal=>exact fin q1
         | ret=>exact fin q1
         | exit id=>exact q1.elim
     ·exact h.elim
    ·exact h.elim
   ·exact h.elim
  ·exact h.elim
 ·exact h.elim⟩
end
theorem uR {c:Ctx} {w:World}:∀ (r:MRes),¬ r.holds c w .outgrown
 | .ret _,h=>h
 | .pan _,h=>h
 | .br b x y,h=>by
  simp only [MRes.holds] at h
  cases b with
  | true=>exact uR x h
  | false=>exact uR y h
theorem fnY {P:Program} {S0:Nat→Prop} {w0:Base} {F:Fence} {n:Nat} {pin:Nat→Nat→Sz→Prop} {zs:Option Ex→List (Nat×Obj)} (X:XE P):YSnd F n P S0 w0 pin zs (hFn X):=⟨fun _ _ _ _ _ _ _ _ _ h=>(show False from h).elim⟩
theorem aRR {P:Program} (hmix:P.follows .mixedOrders=true) {f:FuncId} {fn:Func} (hf:P.funcs[f]? =some fn) (spec:aH)
  (hspec:∀ ms p r,spec ms=some (p,r)→p.holds→∃ X:XE P,vD X fn ms r.sat∧gQ X (fn.body.getD .skip))
  (S:Nat→Prop) (w:World) (ms:List MV) (args:Array Value) (p:OProp) (r:MRes) (hs:spec ms=some (p,r)) (hp:p.holds) (hS:∀ b,S b→b<w.heap.size) (hG:GW S w)
  (ha:RepAll (Ctx.args S) w ms args.toList):Calls P f args w fun e w'=>Ext w w'∧r.holds (Ctx.res S) w' e:=by
 obtain ⟨X,h,hall⟩:=hspec ms p r hs hp
 unfold vD at h
 split at h
 ·rename_i c hb
  cases hl:(ms.length.ble fn.ntmps&&d9 c) with
  | false=>rw [hl] at h;exact h.elim
  | true =>
   rw [hl,cond_true] at h
   simp only [Bool.and_eq_true] at hl
   have hle:ms.length≤fn.ntmps:=Nat.le_of_ble_eq_true hl.1
   have hst0:=St.start (n:=fn.ntmps) hS hG ha hle
   have hx0:XSt P S (aQO w) aJK zs0 ⟨fn.ntmps,dM 0 ms, [],0⟩ ⟨none,none⟩ (eG S [] (fun _=>False) (fun _=>0) (fun _=>⟨0,0⟩)) { tmps:=args++Array.replicate (fn.ntmps -args.size) undef,defers:= [] } w :=
    ⟨_, [],⟨Reb.refl _,List.nodup_nil,fun D hD=>by simp at hD,fun z hz=>by simp [zs0] at hz,fun B m hB=>by simp at hB,fun z hz=>by simp [zs0] at hz⟩,hst0,fun _ _ _ h=>h,rfl⟩
   refine (callsIn_wide (n:=1)).1 (callsIn_of_wp_marks hf hb trivial ?_ rfl)
   refine fN hmix (aH6 P) (fnY X) (aJR hmix) (fun _ z hz=>by simp [zs0] at hz) c _ _ _ _ _ w _ (fun _ _ hh=>?_) hl.2 (by rw [hb] at hall;exact hall) h hx0 (fun e s' x' c' a' w' q1 q2=>?_)
   ·exact uR r hh.2
   ·obtain ⟨w2,D2,hO2,hst2,hp2,hdf2⟩:=q2
    have fin:(match gL P s' fn.results.toList with|some (p,l)=>lB p <| r.sat (.ret (mG l))|none=>rS s')→
      LeavesInM Fence.wide 1 P fn a'.tmps (fun e w'=>Ext w w'∧r.holds (Ctx.res S) w' e) a'.defers .returning w':=by
     intro hK
     rw [hst2.defers,hdf2]
     refine m8 (N:=w.heap.size) D2 w' hO2.nd (fun D hD=>⟨(hO2.ds D hD).lo,((hO2.ds D hD).now hst2.mem).1⟩) fun w3 k3 _=>?_
     split at hK
     ·rename_i p l hres
      obtain ⟨hp,hK⟩:=oand_holds.1 hK
      have hst3:=hst2.at k3
      obtain ⟨vs,hvs,hrs⟩:=kC hst3 _ p l hres hp
      refine ⟨_,?_,?_,yJ r hK (m9 hrs)⟩
      ·rw [hJ,Array.mapM_eq_mapM_toList]
       simp only [Sem.run_bind,Sem.run_map,hvs,Result.andThen,Sem.run_pure]
      ·have e:=(hO2.reb.move hst2.mem k3 (fun _ _ _=>False) []).ext
       exact e.free (fun _ h=>h)
     ·exact hK.elim
    cases e with
    | normal=>exact fin q1
    | ret=>exact fin q1
    | exit id=>exact q1.elim
 ·exact h.elim
end
def aEq (fn:Func) (s:aH):Prop:=∀ ms p r,s ms=some (p,r)→p.holds→iM ms→∃ X:XE Tryz.prog,vD X fn ms r.sat∧gQ X (fn.body.getD .skip)
theorem kD {f:FuncId} {fn:Func} (hf:Tryz.prog.funcs[f]? =some fn) (spec:aH) (hspec:aEq fn spec)
  (S:Nat→Prop) (w:World) (ms:List MV) (args:Array Value) (p:OProp) (r:MRes) (hs:spec ms=some (p,r)) (hp:p.holds) (hS:∀ b,S b→b<w.heap.size) (hG:GW S w)
  (ha:RepAll (Ctx.args S) w ms args.toList):Calls Tryz.prog f args w fun e w'=>Ext w w'∧r.holds (Ctx.res S) w' e:=by
 have hfx:iM ms:=RepAll.facts ms _ ha
 obtain ⟨X,h1,h2⟩:=hspec ms p r hs hp hfx
 refine aRR bQ hf (fun m=>some (some (∃ X:XE Tryz.prog,vD X fn m r.sat∧gQ X (fn.body.getD .skip)),r)) (fun m p2 r2 h3 hp2=>?_) S w ms args _ r rfl ⟨X,h1,h2⟩ hS hG ha
 simp only [Option.some.injEq,Prod.mk.injEq] at h3
 obtain ⟨rfl,rfl⟩:=h3
 exact hp2
structure WalkI where
 i:Nat
def aU6 (l:List Int):Nat→MS→XS→Option XAnn
 | 1,e,_=>some (.inv WalkI (fun i=>i.i≤l.length) (fun i=>⟨19, [(0,look 0 e.tm),(1,.bp 2 0),(3,.int .i64 ((l.length:Int) -1 -(i.i:Int)))],a7 e.bx 1 ⟨false,.one (.int .u64 (wv (l.drop (l.length -i.i))))⟩,3⟩) (fun _=>none) (fun i=>l.length -i.i))
 | _,_,_=>none
noncomputable def aNz (l:List Int):XE Tryz.prog where
 E:=aL [] aF
 xann:=fun _ _ _=>none
 its:= [⟨219,Tryz.f219,Tryz.func219,fun args w=>Tryz.call219 args w,aL [] aF,aU6 l⟩]
 inl:= [⟨188,Tryz.f188,Tryz.func188,fun args w=>Tryz.call188 args w,aL [] aF,fun _ _ _=>none⟩]
 rnp:=fun _=>3
 all:=fun _=>none
theorem aPP (z:Int) (n:Nat):(bif decide ((length (aA (natAbs z)):Int)>2) then 0=z∧false=true∧True else ∀ (L:Nat),(∃ i:WalkI,i.1≤length (aA (natAbs z))∧((Value.func (Fn.yield L) #[] #[]=Value.func (Fn.yield L) #[] #[]∧0=0∧wrap i64 ((length (aA (natAbs z)):Int) -1)=(length (aA (natAbs z)):Int) -1 -(i.1:Int)∧True)∧aG z z n n∧0=wv (drop (length (aA (natAbs z)) -i.1) (aA (natAbs z)))∧aA (natAbs z)=aA (natAbs z)∧True)∧True)∧∀ (i:WalkI),i.1≤length (aA (natAbs z))→bif decide ((length (aA (natAbs z)):Int) -1 -(i.1:Int)≥0) then (0≤(length (aA (natAbs z)):Int) -1 -(i.1:Int)∧(length (aA (natAbs z)):Int) -1 -(i.1:Int)<(length (aA (natAbs z)):Int))∧L=L∧(0:Int)≤32∧∃ j:WalkI,j.1≤length (aA (natAbs z))∧((Value.func (Fn.yield L) #[] #[]=Value.func (Fn.yield L) #[] #[]∧0=0∧wrap i64 ((length (aA (natAbs z)):Int) -1 -(i.1:Int) -1)=(length (aA (natAbs z)):Int) -1 -(j.1:Int)∧True)∧aG z z n n∧wrap u64 (BitVec.toNat (BitVec.ofInt (IntKind.bits u64) (wrap u64 (wv (drop (length (aA (natAbs z)) -i.1) (aA (natAbs z)))*2^min (toNat 32) (IntKind.bits u64))) ||| BitVec.ofInt (IntKind.bits u64) (wrap u64 (getD (aA (natAbs z)) (toNat ((length (aA (natAbs z)):Int) -1 -(i.1:Int))) 0))):Int)=wv (drop (length (aA (natAbs z)) -j.1) (aA (natAbs z)))∧aA (natAbs z)=aA (natAbs z)∧True)∧True∧length (aA (natAbs z)) -j.1<length (aA (natAbs z)) -i.1 else bif decide (z<0) then bif wrap i64 (0 -wrap i64 (wv (drop (length (aA (natAbs z)) -i.1) (aA (natAbs z))))) != 0 then bif !decide (z<0)==decide (wrap i64 (0 -wrap i64 (wv (drop (length (aA (natAbs z)) -i.1) (aA (natAbs z)))))<0) then 0=z∧false=true∧True else wrap i64 (0 -wrap i64 (wv (drop (length (aA (natAbs z)) -i.1) (aA (natAbs z)))))=z∧true=true∧True else wrap i64 (0 -wrap i64 (wv (drop (length (aA (natAbs z)) -i.1) (aA (natAbs z)))))=z∧true=true∧True else bif wrap i64 (wv (drop (length (aA (natAbs z)) -i.1) (aA (natAbs z)))) != 0 then bif !decide (z<0)==decide (wrap i64 (wv (drop (length (aA (natAbs z)) -i.1) (aA (natAbs z))))<0) then 0=z∧false=true∧True else wrap i64 (wv (drop (length (aA (natAbs z)) -i.1) (aA (natAbs z))))=z∧true=true∧True else wrap i64 (wv (drop (length (aA (natAbs z)) -i.1) (aA (natAbs z))))=z∧true=true∧True)=vD (aNz (aA z.natAbs)) Tryz.f130 [.big z n] (MRes.sat (.ret (.tup [.int .i64 z,.bool true]))):=by kernel_rfl
def aDt:aH
 | [.big z _]=>some (some (z.natAbs<9223372036854775808),.ret (.tup [.int .i64 z,.bool true]))
 | _=>none
theorem aEk (l:List Int) {k:Nat} (h:k<l.length):wv (l.drop k)=l.getD k 0+4294967296*wv (l.drop (k+1)):=by
 rw [List.drop_eq_getElem_cons h]
 simp [wv,h]
theorem aSw:aEq Tryz.f130 aDt:=by
 intro ms p r h hp hf
 unfold aDt at h
 split at h
 ·rename_i z n
  cases h
  have hz:z.natAbs<9223372036854775808:=hp
  refine ⟨aNz (aA z.natAbs),?_,cU rfl _⟩
  rw [← aPP z n,p32]
  have hw:=aQ z.natAbs
  have hl:(aA z.natAbs).length≤2:=c9 (by omega)
  have e:=jY z.natAbs
  generalize aA z.natAbs=l at *
  rw [decide_eq_false (show ¬ ((l.length:Nat):Int)>2 by omega),cond_false]
  refine fun L=>⟨⟨⟨0⟩,Nat.zero_le _,?_,⟨⟩⟩,fun i hi=>?_⟩
  ·have e1:wrap i64 ((l.length:Int) -1)=(l.length:Int) -1 -((0:Nat):Int):=by rw [a8 (by omega) (by omega)];omega
   have e2:wv (l.drop (l.length -0))=0:=by rw [Nat.sub_zero,List.drop_length];rfl
   rw [e1]
   refine ⟨⟨rfl,rfl,rfl,⟨⟩⟩,⟨rfl,.inl (Nat.le_refl _)⟩,e2.symm,rfl,⟨⟩⟩
  obtain ⟨i⟩:=i
  have hi:i≤l.length:=hi
  dsimp only
  by_cases h0:i<l.length
  ·rw [decide_eq_true (show (l.length:Int) -1 -(i:Int)≥0 by omega),cond_true]
   have et:((l.length:Int) -1 -(i:Int)).toNat=l.length -1 -i:=by omega
   rw [et]
   have es:=aEk l (k:=l.length -1 -i) (by omega)
   rw [show l.length -1 -i+1=l.length -i by omega] at es
   have hx:0≤l.getD (l.length -1 -i) 0∧l.getD (l.length -1 -i) 0<4294967296:=by
    have hk:l.length -1 -i<l.length:=by omega
    rw [show l.getD (l.length -1 -i) 0=l[l.length -1 -i] by simp [hk]]
    exact hw _ (List.getElem_mem hk)
   have hv:0≤wv (l.drop (l.length -i))∧wv (l.drop (l.length -i))<4294967296:=by
    have hwd:Wd (l.drop (l.length -i)):=fun x hx=>hw x (List.mem_of_mem_drop hx)
    have hdl:(l.drop (l.length -i)).length≤1:=by rw [List.length_drop];omega
    have h2:=d7 hwd
    have h3:=aY hwd
    have h4:(4294967296:Int)^(l.drop (l.length -i)).length≤4294967296^1:=by
     rcases (show (l.drop (l.length -i)).length=0∨(l.drop (l.length -i)).length=1 by omega) with q|q <;> rw [q] <;> decide
    omega
   generalize wv (l.drop (l.length -i))=v at *
   generalize l.getD (l.length -1 -i) 0=x at *
   have eo:wrap u64 (BitVec.ofInt u64.bits (u64.wrap (v*4294967296)) ||| BitVec.ofInt u64.bits (u64.wrap x)).toNat=v*4294967296+x:=by
    rw [fB (x:=v*4294967296) (by omega),fB (x:=x) (by omega)]
    exact aJC 32 (by omega) (by omega) (by omega) (by omega) (by omega) (by omega)
   rw [eo]
   have e1:wrap i64 ((l.length:Int) -1 -(i:Int) -1)=(l.length:Int) -1 -((i+1:Nat):Int):=by rw [a8 (by omega) (by omega)];omega
   rw [e1]
   refine ⟨⟨by omega,by omega⟩,rfl,by omega,⟨i+1⟩,h0,⟨⟨rfl,rfl,rfl,⟨⟩⟩,⟨rfl,.inl (Nat.le_refl _)⟩,?_,rfl,⟨⟩⟩,⟨⟩,by show l.length -(i+1)<l.length -i;omega⟩
   show v*4294967296+x=wv (l.drop (l.length -(i+1)))
   rw [show l.length -(i+1)=l.length -1 -i by omega]
   omega
  ·obtain rfl:i=l.length:=by omega
   rw [decide_eq_false (show ¬ (l.length:Int) -1 -(l.length:Int)≥0 by omega),cond_false,Nat.sub_self,List.drop_zero,e]
   have e1:wrap i64 (z.natAbs:Int)=z.natAbs:=a8 (by omega) (by omega)
   have e2:wrap i64 (0 -(z.natAbs:Int))=0 -(z.natAbs:Int):=a8 (by omega) (by omega)
   rw [e1,e2]
   by_cases hz0:z<0
   ·have e3:(0 -(z.natAbs:Int) != 0)=true:=by simp only [bne_iff_ne];omega
    have e4:decide (0 -(z.natAbs:Int)<0)=true:=decide_eq_true (by omega)
    rw [decide_eq_true hz0,cond_true,e3,cond_true,e4]
    exact ⟨by omega,rfl,⟨⟩⟩
   ·have e4:decide ((z.natAbs:Int)<0)=false:=decide_eq_false (by omega)
    rw [decide_eq_false hz0,cond_false,e4]
    cases ((z.natAbs:Int) != 0)
    ·exact ⟨by omega,rfl,⟨⟩⟩
    ·exact ⟨by omega,rfl,⟨⟩⟩
 ·simp at h
noncomputable def qX:Ctr Tryz.prog:=⟨130,aDt,fun args w=>Tryz.call130 args w,kD Tryz.func130 aDt aSw⟩
theorem wR {f:FuncId} {fn:Func} (hf:Tryz.prog.funcs[f]? =some fn) {ms:List MV} {r:MRes} (h:iM ms→∃ E:Env Tryz.prog,aK E fn ms r.sat) {S:Nat→Prop} {w:World} {args:Array Value} (hS:∀ b,S b→b<w.heap.size) (hG:GW S w)
  (ha:RepAll (Ctx.args S) w ms args.toList):Calls Tryz.prog f args w fun e w'=>Ext w w'∧r.holds (Ctx.res S) w' e :=
 aJ bQ hf (fun m=>some (some (∃ E:Env Tryz.prog,aK E fn m r.sat),r)) (fun m p2 r2 h2 hp2=>by
  simp only [Option.some.injEq,Prod.mk.injEq] at h2
  obtain ⟨rfl,rfl⟩:=h2
  exact hp2) S w ms args _ r rfl (h (RepAll.facts ms _ ha)) hS hG ha
theorem aC1 {a b:Int} {n m:Nat} (ha:a.natAbs<2^n) (hb:b.natAbs<2^m):(a*b).natAbs<2^(n+m):=by
 rw [Int.natAbs_mul,Nat.pow_add]
 exact Nat.mul_lt_mul'' ha hb
theorem pW {c:Ctx} {w:World} {wd len:Nat} {f g:Nat→MV} {v:Value} (h:Rep1 c w (.sl wd len f) v) (hg:∀ i,i<len→g i=f i):Rep1 c w (.sl wd len g) v:=by
 rw [aS rfl (by simp)] at h⊢
 obtain ⟨a,cap,h1,h2,h3⟩:=h
 refine ⟨a,cap,h1,h2,fun hl=>?_⟩
 obtain ⟨b,off,h4,h5,h6⟩:=h3 hl
 exact ⟨b,off,h4,h5,fun i hi=>by rw [hg i hi];exact h6 i hi⟩
def aDJ:aH
 | [.int .i64 z]=>some (some (-9223372036854775808≤z∧z≤9223372036854775807),.ret (.big z 64))
 | _=>none
theorem aP8 (z:Int):(dT z∧z=z∧(64≤64∨natAbs z<2^64))=aK (aL [d6] aF) Tryz.f129 [.int .i64 z] (MRes.sat (.ret (.big z 64))):=by kernel_rfl
theorem aSP:aT Tryz.f129 aDJ:=by
 intro ms p r h hp
 unfold aDJ at h
 split at h
 ·rename_i z
  cases h
  obtain ⟨h1,h2⟩:=hp
  refine ⟨aL [d6] aF,?_⟩
  rw [← aP8 z]
  first|done|(and_intros <;> first|exact ⟨⟩|rfl|exact .inl (Nat.le_refl _)|omega)
 ·simp at h
def lX:Ctr Tryz.prog:=⟨129,aDJ,fun args w=>Tryz.call129 args w,aJ bQ Tryz.func129 aDJ aSP⟩
def wD:Nat→MS→Option LoopAnn
 | 3,_=>some (.unroll 4)
 | _,_=>none
theorem aJ3 (a b:Int) (n m:Nat):(dT 1∧((0:Int)≤0∧(0:Int)<(↑(2:Nat):Int))∧(64≤1000000∧n≤1000000)∧(0≤wrap i64 ((0:Int)+1)∧wrap i64 ((0:Int)+1)<(↑(2:Nat):Int))∧(64+n≤1000000∧m≤1000000)∧1*a*b=a*b∧(64+n+m≤n+m∨natAbs (1*a*b)<2^(n+m)))=aK (aL [lX,bX] wD) Tryz.f232 [.sl 2 2 (bV [.big a n,.big b m])] (MRes.sat (.ret (.big (a*b) (n+m)))):=by kernel_rfl
theorem aJ4 (a b c:Int) (n m k:Nat):(dT 1∧((0:Int)≤0∧(0:Int)<(↑(3:Nat):Int))∧(64≤1000000∧n≤1000000)∧(0≤wrap i64 ((0:Int)+1)∧wrap i64 ((0:Int)+1)<(↑(3:Nat):Int))∧(64+n≤1000000∧m≤1000000)∧(0≤wrap i64 (wrap i64 ((0:Int)+1)+1)∧wrap i64 (wrap i64 ((0:Int)+1)+1)<(↑(3:Nat):Int))∧(64+n+m≤1000000∧k≤1000000)∧1*a*b*c=a*b*c∧(64+n+m+k≤n+m+k∨natAbs (1*a*b*c)<2^(n+m+k)))=aK (aL [lX,bX] wD) Tryz.f232 [.sl 2 3 (bV [.big a n,.big b m,.big c k])] (MRes.sat (.ret (.big (a*b*c) (n+m+k)))):=by kernel_rfl
def aII:aH
 | [.sl wd len f]=>cond (wd.beq 2&&len.beq 2) (match f 0,f 1 with
   | .big a n,.big b m=>some (some (n≤900000∧m≤900000),.ret (.big (a*b) (n+m)))
   | _,_=>none)
  (cond (wd.beq 2&&len.beq 3) (match f 0,f 1,f 2 with
   | .big a n,.big b m,.big c k=>some (some (n≤300000∧m≤300000∧k≤300000),.ret (.big (a*b*c) (n+m+k)))
   | _,_,_=>none) none)
 | _=>none
theorem w01:wrap i64 ((0:Int)+1)=1:=rfl
theorem w12:wrap i64 ((1:Int)+1)=2:=rfl
theorem aJO {a b:Int} {n m:Nat} (h1:n≤900000) (h2:m≤900000) (hf:iM [.sl 2 2 (bV [.big a n,.big b m])]→True) (ha:a.natAbs<2^n) (hb:b.natAbs<2^m):∃ E:Env Tryz.prog,aK E Tryz.f232 [.sl 2 2 (bV [.big a n,.big b m])] (MRes.sat (.ret (.big (a*b) (n+m)))):=by
 refine ⟨aL [lX,bX] wD,?_⟩
 have:=hf
 rw [← aJ3 a b n m,w01,Int.one_mul]
 have:=aC1 ha hb
 refine ⟨by omega,by omega,by omega,by omega,by omega,rfl,.inr this⟩
theorem aJP {a b c:Int} {n m k:Nat} (h1:n≤300000) (h2:m≤300000) (h3:k≤300000) (ha:a.natAbs<2^n) (hb:b.natAbs<2^m) (hc:c.natAbs<2^k):∃ E:Env Tryz.prog,aK E Tryz.f232 [.sl 2 3 (bV [.big a n,.big b m,.big c k])] (MRes.sat (.ret (.big (a*b*c) (n+m+k)))):=by
 refine ⟨aL [lX,bX] wD,?_⟩
 rw [← aJ4 a b c n m k,w01,w12,Int.one_mul]
 have:=aC1 (aC1 ha hb) hc
 refine ⟨by omega,by omega,by omega,by omega,by omega,by omega,by omega,rfl,.inr this⟩
theorem aAH {c:Ctx} {w:World} {len:Nat} {f:Nat→MV} {v:Value} (h:Rep1 c w (.sl 2 len f) v) {i:Nat} (hi:i<len) {a:Int} {n:Nat} (hf:f i= .big a n):a.natAbs<2^n:=by
 rw [aS rfl (by simp)] at h
 obtain ⟨_,_,_,_,h3⟩:=h
 obtain ⟨b,off,_,_,h6⟩:=h3 (by omega)
 obtain ⟨cs,_,q,_⟩:=h6 i hi
 rw [hf] at q
 obtain ⟨_,_,q2,_⟩:=q
 exact q2
def lK:Ctr Tryz.prog:=⟨232,aII,fun args w=>Tryz.call232 args w,fun S w ms args p r hs hp hS hG ha=>by
 unfold aII at hs
 split at hs
 ·rename_i wd len f
  cases h2:(wd.beq 2&&len.beq 2) with
  | true =>
   rw [h2,cond_true] at hs
   simp only [Bool.and_eq_true,Nat.beq_eq] at h2
   obtain ⟨rfl,rfl⟩:=h2
   split at hs
   ·rename_i a n b m e0 e1
    simp only [Option.some.injEq,Prod.mk.injEq] at hs
    obtain ⟨rfl,rfl⟩:=hs
    obtain ⟨v,rr,q0,q1,q2⟩:=ha
    have ha':RepAll (Ctx.args S) w [.sl 2 2 (bV [.big a n,.big b m])] args.toList:=⟨v,rr,q0,pW q1 (fun i hi=>by
     have:i=0∨i=1:=by omega
     rcases this with rfl|rfl
     ·exact e0.symm
     ·exact e1.symm),q2⟩
    exact wR Tryz.func232 (fun _=>aJO hp.1 hp.2 (fun _=>trivial) (aAH q1 (by omega) e0) (aAH q1 (by omega) e1)) hS hG ha'
   ·simp at hs
  | false =>
   rw [h2,cond_false] at hs
   cases h3:(wd.beq 2&&len.beq 3) with
   | true =>
    rw [h3,cond_true] at hs
    simp only [Bool.and_eq_true,Nat.beq_eq] at h3
    obtain ⟨rfl,rfl⟩:=h3
    split at hs
    ·rename_i a n b m c k e0 e1 e2
     simp only [Option.some.injEq,Prod.mk.injEq] at hs
     obtain ⟨rfl,rfl⟩:=hs
     obtain ⟨v,rr,q0,q1,q2⟩:=ha
     have ha':RepAll (Ctx.args S) w [.sl 2 3 (bV [.big a n,.big b m,.big c k])] args.toList:=⟨v,rr,q0,pW q1 (fun i hi=>by
      have:i=0∨i=1∨i=2:=by omega
      rcases this with rfl|rfl|rfl
      ·exact e0.symm
      ·exact e1.symm
      ·exact e2.symm),q2⟩
     exact wR Tryz.func232 (fun _=>aJP hp.1 hp.2.1 hp.2.2 (aAH q1 (by omega) e0) (aAH q1 (by omega) e1) (aAH q1 (by omega) e2)) hS hG ha'
    ·simp at hs
   | false=>rw [h3,cond_false] at hs;simp at hs
 ·simp at hs⟩
def fmv (f:Fm) (n:Nat):MV:= .st [.big f.A n,.big f.B n,.big f.C n]
def mmv (m:Mx) (n:Nat):MV:= .st [.big m.a n,.big m.b n,.big m.c n,.big m.d n]
def aR (a b c:Nat):Nat:=max a (max b c)
def iF (a b c d:Nat):Nat:=max (max a b) (max c d)
def xO:aH
 | [.st [.big a n,.big b m,.big c k]]=>some (some (n≤100000∧m≤100000∧k≤100000),.ret (.big (Fm.disc ⟨a,b,c⟩) (2*aR n m k+66)))
 | _=>none
theorem aM0 (a b c:Int) (n m k:Nat):((m≤900000∧m≤900000)∧dT 4∧(3≤3∧64≤300000∧n≤300000∧k≤300000)∧(m+m≤1000000∧64+n+k≤1000000)∧b*b -4*a*c=Fm.disc (Fm.mk a b c)∧(max (m+m) (64+n+k)+1≤2*aR n m k+66∨natAbs (b*b -4*a*c)<2^(2*aR n m k+66)))=aK (aL [lK,lX,fQ] aF) Tryz.f211 [.st [.big a n,.big b m,.big c k]] (MRes.sat (.ret (.big (Fm.disc ⟨a,b,c⟩) (2*aR n m k+66)))):=by kernel_rfl
theorem aOE:aT Tryz.f211 xO:=by
 intro ms p r h hp
 unfold xO at h
 split at h
 ·rename_i a n b m c k
  cases h
  obtain ⟨h1,h2,h3⟩:=hp
  refine ⟨aL [lK,lX,fQ] aF,?_⟩
  rw [← aM0 a b c n m k]
  unfold aR Fm.disc
  and_intros <;> first|exact ⟨⟩|rfl|omega|exact .inl (by omega)
 ·simp at h
def r8:Ctr Tryz.prog:=⟨211,xO,fun args w=>Tryz.call211 args w,aJ bQ Tryz.func211 xO aOE⟩
def aDN:aH
 | [.st [.big a n,.big b m,.big c k],.big x l,.big y r]=>some (some (n≤100000∧m≤100000∧k≤100000∧l≤100000∧r≤100000),.ret (.big (Fm.val ⟨a,b,c⟩ x y) (aR n m k+2*max l r+2)))
 | _=>none
theorem aQc (a b c x y:Int) (n m k l r:Nat):((n≤300000∧l≤300000∧l≤300000)∧(m≤300000∧l≤300000∧r≤300000)∧(n+l+l≤1000000∧m+l+r≤1000000)∧(k≤300000∧r≤300000∧r≤300000)∧(max (n+l+l) (m+l+r)+1≤1000000∧k+r+r≤1000000)∧a*x*x+b*x*y+c*y*y=Fm.val (Fm.mk a b c) x y∧(max (max (n+l+l) (m+l+r)+1) (k+r+r)+1≤aR n m k+2*max l r+2∨natAbs (a*x*x+b*x*y+c*y*y)<2^(aR n m k+2*max l r+2)))=aK (aL [lK,cB] aF) Tryz.f237 [.st [.big a n,.big b m,.big c k],.big x l,.big y r] (MRes.sat (.ret (.big (Fm.val ⟨a,b,c⟩ x y) (aR n m k+2*max l r+2)))):=by kernel_rfl
theorem aST:aT Tryz.f237 aDN:=by
 intro ms p r h hp
 unfold aDN at h
 split at h
 ·rename_i a n b m c k x l y r
  cases h
  obtain ⟨h1,h2,h3,h4,h5⟩:=hp
  refine ⟨aL [lK,cB] aF,?_⟩
  rw [← aQc a b c x y n m k l r]
  unfold aR Fm.val
  simp only [← Int.mul_assoc]
  and_intros <;> first|exact ⟨⟩|rfl|omega|exact .inl (by omega)
 ·simp at h
def aKX:Ctr Tryz.prog:=⟨237,aDN,fun args w=>Tryz.call237 args w,aJ bQ Tryz.func237 aDN aST⟩
def tP:aH
 | [.st [.big a n,.big b m,.big c k],.st [.big x l,.big y r,.big z u,.big t v]]=>some (some (n≤40000∧m≤40000∧k≤40000∧l≤40000∧r≤40000∧u≤40000∧v≤40000),.ret (fmv (Fm.app ⟨a,b,c⟩ ⟨x,y,z,t⟩) (aR n m k+2*iF l r u v+68)))
 | _=>none
theorem aJ2 (a b c x y z t:Int) (n m k l r u v:Nat):((l≤900000∧v≤900000)∧(r≤900000∧u≤900000)∧(l+v≤1000000∧r+u≤1000000)∧(n≤300000∧l≤300000∧r≤300000)∧(k≤300000∧u≤300000∧v≤300000)∧(n+l+r≤1000000∧k+u+v≤1000000)∧(n≤100000∧m≤100000∧k≤100000∧l≤100000∧u≤100000)∧dT 2∧(64≤900000∧max (n+l+r) (k+u+v)+1≤900000)∧(m≤900000∧max (l+v) (r+u)+1≤900000)∧(64+(max (n+l+r) (k+u+v)+1)≤1000000∧m+(max (l+v) (r+u)+1)≤1000000)∧(n≤100000∧m≤100000∧k≤100000∧r≤100000∧v≤100000)∧aG (Fm.val (Fm.mk a b c) x z) (Fm.val (Fm.mk a b c) x z) (aR n m k+2*max l u+2) (aR n m k+2*iF l r u v+68)∧aG (2*(a*x*y+c*z*t)+b*(x*t+y*z)) (2*(a*(x*y)+c*(z*t))+b*(x*t+y*z)) (max (64+(max (n+l+r) (k+u+v)+1)) (m+(max (l+v) (r+u)+1))+1) (aR n m k+2*iF l r u v+68)∧aG (Fm.val (Fm.mk a b c) y t) (Fm.val (Fm.mk a b c) y t) (aR n m k+2*max r v+2) (aR n m k+2*iF l r u v+68)∧True)=aK (aL [lK,cB,lX,aKX] aF) Tryz.f215 [.st [.big a n,.big b m,.big c k],.st [.big x l,.big y r,.big z u,.big t v]] (MRes.sat (.ret (fmv (Fm.app ⟨a,b,c⟩ ⟨x,y,z,t⟩) (aR n m k+2*iF l r u v+68)))):=by kernel_rfl
theorem aLY:aT Tryz.f215 tP:=by
 intro ms p r h hp
 unfold tP at h
 split at h
 ·rename_i a n b m c k x l y r z u t v
  cases h
  obtain ⟨h1,h2,h3,h4,h5,h6,h7⟩:=hp
  refine ⟨aL [lK,cB,lX,aKX] aF,?_⟩
  rw [← aJ2 a b c x y z t n m k l r u v]
  unfold aR iF
  simp only [← Int.mul_assoc]
  and_intros <;> first|exact ⟨⟩|rfl|omega|exact .inl (by omega)
 ·simp at h
def yW:Ctr Tryz.prog:=⟨215,tP,fun args w=>Tryz.call215 args w,aJ bQ Tryz.func215 tP aLY⟩
def xQ:aH
 | [.st [.big a n,.big b m,.big c k,.big d l]]=>some (none,.ret (.st [.st [.big a n,.big b m],.st [.big c k,.big d l]]))
 | _=>none
theorem aM2 (a b c d:Int) (n m k l:Nat):((aG a a n n∧aG b b m m∧True)∧(aG c c k k∧aG d d l l∧True)∧True)=aK (aL [] aF) Tryz.f239 [.st [.big a n,.big b m,.big c k,.big d l]] (MRes.sat (.ret (.st [.st [.big a n,.big b m],.st [.big c k,.big d l]]))):=by kernel_rfl
theorem aOG:aT Tryz.f239 xQ:=by
 intro ms p r h hp
 unfold xQ at h
 split at h
 ·rename_i a n b m c k d l
  cases h
  refine ⟨aL [] aF,?_⟩
  rw [← aM2 a b c d n m k l]
  first|done|(and_intros <;> first|exact ⟨⟩|rfl|exact .inl (Nat.le_refl _)|omega)
 ·simp at h
def aHO:Ctr Tryz.prog:=⟨239,xQ,fun args w=>Tryz.call239 args w,aJ bQ Tryz.func239 xQ aOG⟩
def aEt:Nat→MS→Option LoopAnn
 | 4,_=>some (.unroll 3)
 | 7,_=>some (.unroll 3)
 | _,_=>none
def tS:aH
 | [.st [.big a n,.big b m,.big c k,.big d l],.st [.big x r,.big y u,.big z v,.big t w]]=>some (some (iF n m k l+iF r u v w≤900000),.ret (mmv (Mx.mul ⟨a,b,c,d⟩ ⟨x,y,z,t⟩) (iF n m k l+iF r u v w+1)))
 | _=>none
theorem aJ6 (a b c d x y z t:Int) (n m k l r u v w:Nat):(((0:Int)≤0∧(0:Int)<(↑(2:Nat):Int))∧((0:Int)≤0∧(0:Int)<(↑(2:Nat):Int))∧((0:Int)≤0∧(0:Int)<(↑(2:Nat):Int))∧((0:Int)≤0∧(0:Int)<(↑(2:Nat):Int))∧(n≤900000∧r≤900000)∧((0:Int)≤0∧(0:Int)<(↑(2:Nat):Int))∧((0:Int)≤1∧(1:Int)<(↑(2:Nat):Int))∧((0:Int)≤1∧(1:Int)<(↑(2:Nat):Int))∧((0:Int)≤0∧(0:Int)<(↑(2:Nat):Int))∧(m≤900000∧v≤900000)∧(n+r≤1000000∧m+v≤1000000)∧((0:Int)≤0∧(0:Int)<(↑(2:Nat):Int))∧((0:Int)≤0∧(0:Int)<(↑(2:Nat):Int))∧((0:Int)≤0∧(0:Int)<(↑(2:Nat):Int))∧((0:Int)≤0∧(0:Int)<(↑(2:Nat):Int))∧((0:Int)≤0∧(0:Int)<(↑(2:Nat):Int))∧(0≤wrap i64 ((0:Int)+1)∧wrap i64 ((0:Int)+1)<(↑(2:Nat):Int))∧(n≤900000∧u≤900000)∧((0:Int)≤0∧(0:Int)<(↑(2:Nat):Int))∧((0:Int)≤1∧(1:Int)<(↑(2:Nat):Int))∧((0:Int)≤1∧(1:Int)<(↑(2:Nat):Int))∧(0≤wrap i64 ((0:Int)+1)∧wrap i64 ((0:Int)+1)<(↑(2:Nat):Int))∧(m≤900000∧w≤900000)∧(n+u≤1000000∧m+w≤1000000)∧((0:Int)≤0∧(0:Int)<(↑(2:Nat):Int))∧(0≤wrap i64 ((0:Int)+1)∧wrap i64 ((0:Int)+1)<(↑(2:Nat):Int))∧(0≤wrap i64 ((0:Int)+1)∧wrap i64 ((0:Int)+1)<(↑(2:Nat):Int))∧((0:Int)≤0∧(0:Int)<(↑(2:Nat):Int))∧((0:Int)≤0∧(0:Int)<(↑(2:Nat):Int))∧((0:Int)≤0∧(0:Int)<(↑(2:Nat):Int))∧(k≤900000∧r≤900000)∧(0≤wrap i64 ((0:Int)+1)∧wrap i64 ((0:Int)+1)<(↑(2:Nat):Int))∧((0:Int)≤1∧(1:Int)<(↑(2:Nat):Int))∧((0:Int)≤1∧(1:Int)<(↑(2:Nat):Int))∧((0:Int)≤0∧(0:Int)<(↑(2:Nat):Int))∧(l≤900000∧v≤900000)∧(k+r≤1000000∧l+v≤1000000)∧(0≤wrap i64 ((0:Int)+1)∧wrap i64 ((0:Int)+1)<(↑(2:Nat):Int))∧((0:Int)≤0∧(0:Int)<(↑(2:Nat):Int))∧(0≤wrap i64 ((0:Int)+1)∧wrap i64 ((0:Int)+1)<(↑(2:Nat):Int))∧((0:Int)≤0∧(0:Int)<(↑(2:Nat):Int))∧((0:Int)≤0∧(0:Int)<(↑(2:Nat):Int))∧(0≤wrap i64 ((0:Int)+1)∧wrap i64 ((0:Int)+1)<(↑(2:Nat):Int))∧(k≤900000∧u≤900000)∧(0≤wrap i64 ((0:Int)+1)∧wrap i64 ((0:Int)+1)<(↑(2:Nat):Int))∧((0:Int)≤1∧(1:Int)<(↑(2:Nat):Int))∧((0:Int)≤1∧(1:Int)<(↑(2:Nat):Int))∧(0≤wrap i64 ((0:Int)+1)∧wrap i64 ((0:Int)+1)<(↑(2:Nat):Int))∧(l≤900000∧w≤900000)∧(k+u≤1000000∧l+w≤1000000)∧(0≤wrap i64 ((0:Int)+1)∧wrap i64 ((0:Int)+1)<(↑(2:Nat):Int))∧(0≤wrap i64 ((0:Int)+1)∧wrap i64 ((0:Int)+1)<(↑(2:Nat):Int))∧((0:Int)≤0∧(0:Int)<(↑(2:Nat):Int))∧((0:Int)≤0∧(0:Int)<(↑(2:Nat):Int))∧((0:Int)≤0∧(0:Int)<(↑(2:Nat):Int))∧((0:Int)≤1∧(1:Int)<(↑(2:Nat):Int))∧((0:Int)≤1∧(1:Int)<(↑(2:Nat):Int))∧((0:Int)≤0∧(0:Int)<(↑(2:Nat):Int))∧((0:Int)≤1∧(1:Int)<(↑(2:Nat):Int))∧((0:Int)≤1∧(1:Int)<(↑(2:Nat):Int))∧aG (a*x+b*z) (a*x+b*z) (max (n+r) (m+v)+1) (iF n m k l+iF r u v w+1)∧aG (a*y+b*t) (a*y+b*t) (max (n+u) (m+w)+1) (iF n m k l+iF r u v w+1)∧aG (c*x+d*z) (c*x+d*z) (max (k+r) (l+v)+1) (iF n m k l+iF r u v w+1)∧aG (c*y+d*t) (c*y+d*t) (max (k+u) (l+w)+1) (iF n m k l+iF r u v w+1)∧True)=aK (aL [aHO,lK,cB] aEt) Tryz.f234 [.st [.big a n,.big b m,.big c k,.big d l],.st [.big x r,.big y u,.big z v,.big t w]] (MRes.sat (.ret (mmv (Mx.mul ⟨a,b,c,d⟩ ⟨x,y,z,t⟩) (iF n m k l+iF r u v w+1)))):=by kernel_rfl
theorem aL0:aT Tryz.f234 tS:=by
 intro ms p r h hp
 unfold tS at h
 split at h
 ·rename_i a n b m c k d l x r y u z v t w
  cases h
  have h1:iF n m k l+iF r u v w≤900000:=hp
  refine ⟨aL [aHO,lK,cB] aEt,?_⟩
  rw [← aJ6 a b c d x y z t n m k l r u v w]
  unfold iF at h1⊢
  simp only [w01]
  and_intros <;> first|exact ⟨⟩|rfl|omega|exact .inl (by omega)
 ·simp at h
def aKU:Ctr Tryz.prog:=⟨234,tS,fun args w=>Tryz.call234 args w,aJ bQ Tryz.func234 tS aL0⟩
theorem bF {b:Bool} {p x y:Prop} (hb:b=true↔p) (h1:p→x) (h2:¬ p→y):cond b x y:=by
 cases b with
 | true=>exact h1 (hb.1 rfl)
 | false=>exact h2 fun q=>by have:=hb.2 q;simp at this
theorem aBj {a b:Bool} {p:Prop} (ha:a=true↔p) (hb:b=true↔p):a=b:=Bool.eq_iff_iff.2 (ha.trans hb.symm)
theorem zN {b:Bool} {p:Prop} (hb:b=true↔p) (h:¬ p):false=b:=by
 cases b with
 | true=>exact absurd (hb.1 rfl) h
 | false=>rfl
theorem iW (a b:Int):(aO a b=1∧b<a)∨(aO a b=0∧a=b)∨(aO a b= -1∧a<b):=by
 unfold aO
 split
 ·exact .inr (.inr ⟨rfl,by assumption⟩)
 ·split
  ·exact .inr (.inl ⟨rfl,by assumption⟩)
  ·exact .inl ⟨rfl,by omega⟩
theorem cgt {a b:Int}:decide (aO a b>0)=true↔b<a:=by
 rw [decide_eq_true_eq]
 rcases iW a b with ⟨h,k⟩|⟨h,k⟩|⟨h,k⟩ <;> rw [h] <;> omega
theorem cle {a b:Int}:decide (aO a b≤0)=true↔a≤b:=by
 rw [decide_eq_true_eq]
 rcases iW a b with ⟨h,k⟩|⟨h,k⟩|⟨h,k⟩ <;> rw [h] <;> omega
theorem clt {a b:Int}:decide (aO a b<0)=true↔a<b:=by
 rw [decide_eq_true_eq]
 rcases iW a b with ⟨h,k⟩|⟨h,k⟩|⟨h,k⟩ <;> rw [h] <;> omega
theorem cge {a b:Int}:decide (aO a b≥0)=true↔b≤a:=by
 rw [decide_eq_true_eq]
 rcases iW a b with ⟨h,k⟩|⟨h,k⟩|⟨h,k⟩ <;> rw [h] <;> omega
theorem aUe {a b:Int}:(aO a b==(0:Int))=true↔a=b:=by
 rw [beq_iff_eq]
 rcases iW a b with ⟨h,k⟩|⟨h,k⟩|⟨h,k⟩ <;> rw [h] <;> omega
theorem aRG {a b:Int}:(aO a b != (0:Int))=true↔a≠b:=by
 rw [bne_iff_ne]
 rcases iW a b with ⟨h,k⟩|⟨h,k⟩|⟨h,k⟩ <;> rw [h] <;> omega
theorem u6 (a:Int):(cP a=1∧0<a)∨(cP a=0∧a=0)∨(cP a= -1∧a<0):=by
 unfold cP
 split
 ·exact .inr (.inl ⟨rfl,by assumption⟩)
 ·split
  ·rename_i h;exact .inr (.inr ⟨rfl,by omega⟩)
  ·exact .inl ⟨rfl,by omega⟩
theorem aHb {a:Int}:(cP a==(0:Int))=true↔a=0:=by
 rw [beq_iff_eq]
 rcases u6 a with ⟨h,k⟩|⟨h,k⟩|⟨h,k⟩ <;> rw [h] <;> omega
theorem aUT {a:Int}:decide (cP a≤0)=true↔a≤0:=by
 rw [decide_eq_true_eq]
 rcases u6 a with ⟨h,k⟩|⟨h,k⟩|⟨h,k⟩ <;> rw [h] <;> omega
theorem aUU {a:Int}:decide (cP a<0)=true↔a<0:=by
 rw [decide_eq_true_eq]
 rcases u6 a with ⟨h,k⟩|⟨h,k⟩|⟨h,k⟩ <;> rw [h] <;> omega
theorem kQ {x n m:Nat} (h:x<2^n) (hm:n≤m):x<2^m:=Nat.lt_of_lt_of_le h (Nat.pow_le_pow_right (by omega) hm)
def aDg:aH
 | [.int .i64 z]=>some (some (-9223372036854775808≤z∧z≤9223372036854775807),.ret (.big z 64))
 | _=>none
theorem aPz (z:Int):(dT z∧z=z∧(64≤64∨natAbs z<2^64))=aK (aL [d6] aF) Tryz.f231 [.int .i64 z] (MRes.sat (.ret (.big z 64))):=by kernel_rfl
theorem aSg:aT Tryz.f231 aDg:=by
 intro ms p r h hp
 unfold aDg at h
 split at h
 ·rename_i z
  cases h
  obtain ⟨h1,h2⟩:=hp
  refine ⟨aL [d6] aF,?_⟩
  rw [← aPz z]
  first|done|(and_intros <;> first|exact ⟨⟩|rfl|exact .inl (Nat.le_refl _)|omega)
 ·simp at h
def qW:Ctr Tryz.prog:=⟨231,aDg,fun args w=>Tryz.call231 args w,aJ bQ Tryz.func231 aDg aSg⟩
def xI:aH
 | [.big d n]=>some (some (n≤100000),.ret (.tup [.big (aN d) 9,.int .i64 (bS d)]))
 | _=>none
theorem aMU (d:Int) (n:Nat):(dT 4∧(n≤900000∧64≤900000∧((4:Int)=0→False))∧n≤100000∧bif decide (d<0) then aG 0 (aN d) 0 9∧5=bS d∧True else bif cP (d -(eF (natAbs d):Int)*(eF (natAbs d):Int))==0 then aG 0 (aN d) 0 9∧5=bS d∧True else dT 1∧(64≤1000000∧64≤1000000)∧bif decide (aO (d%4) 1>0) then aG 0 (aN d) 0 9∧5=bS d∧True else dT 65536∧(n≤1000000∧64≤1000000)∧bif decide (aO d 65536>0) then aG 0 (aN d) 0 9∧2=bS d∧True else aG (eF (natAbs d):Int) (aN d) n 9∧0=bS d∧True)=aK (aL [qW,b6,lJ,d8,cI] aF) Tryz.f210 [.big d n] (MRes.sat (.ret (.tup [.big (aN d) 9,.int .i64 (bS d)]))):=by kernel_rfl
theorem aOy:aT Tryz.f210 xI:=by
 intro ms p r h hp
 unfold xI at h
 split at h
 ·rename_i d n
  cases h
  have h1:n≤100000:=hp
  refine ⟨aL [qW,b6,lJ,d8,cI] aF,?_⟩
  rw [← aMU d n]
  refine ⟨by omega,⟨by omega,by omega,by omega⟩,by omega,?_⟩
  refine bF decide_eq_true_iff (fun q=>?_) (fun q=>?_)
  ·have e:bS d=5:=if_pos (.inl q)
   exact ⟨⟨(if_neg (by omega)).symm,.inl (by omega)⟩,e.symm,⟨⟩⟩
  refine bF aHb (fun q2=>?_) (fun q2=>?_)
  ·have e:bS d=5:=if_pos (.inr (.inl q2))
   exact ⟨⟨(if_neg (by omega)).symm,.inl (by omega)⟩,e.symm,⟨⟩⟩
  refine ⟨by omega,by omega,bF cgt (fun q3=>?_) (fun q3=>?_)⟩
  ·have e:bS d=5:=if_pos (.inr (.inr q3))
   exact ⟨⟨(if_neg (by omega)).symm,.inl (by omega)⟩,e.symm,⟨⟩⟩
  have e0:bS d=if 65536<d then 2 else 0:=if_neg (by omega)
  refine ⟨by omega,⟨by omega,by omega⟩,bF cgt (fun q4=>?_) (fun q4=>?_)⟩
  ·rw [if_pos q4] at e0
   exact ⟨⟨(if_neg (by omega)).symm,.inl (by omega)⟩,e0.symm,⟨⟩⟩
  ·rw [if_neg q4] at e0
   have e1:=aRV e0
   have:=(dQ e0).2.1
   exact ⟨⟨e1.symm,.inr (Nat.lt_of_le_of_lt (show _≤255 by omega) (by decide))⟩,e0.symm,⟨⟩⟩
 ·simp at h
def rZ:Ctr Tryz.prog:=⟨210,xI,fun args w=>Tryz.call210 args w,aJ bQ Tryz.func210 xI aOy⟩
def x8:aH
 | [.big a n]=>some (some (n≤900000),.ret (.big (2*(a.natAbs:Int)) (n+64)))
 | _=>none
theorem aNj (a:Int) (n:Nat):(dT 2∧n≤1000000∧(64≤1000000∧n≤1000000)∧2*(natAbs a:Int)=2*(natAbs a:Int)∧(64+n≤n+64∨natAbs (2*(natAbs a:Int))<2^(n+64)))=aK (aL [qW,iH,bX] aF) Tryz.f235 [.big a n] (MRes.sat (.ret (.big (2*(a.natAbs:Int)) (n+64)))):=by kernel_rfl
theorem aOW:aT Tryz.f235 x8:=by
 intro ms p r h hp
 unfold x8 at h
 split at h
 ·rename_i a n
  cases h
  have h1:n≤900000:=hp
  refine ⟨aL [qW,iH,bX] aF,?_⟩
  rw [← aNj a n]
  first|done|(and_intros <;> first|exact ⟨⟩|rfl|exact .inl (Nat.le_refl _)|omega)
 ·simp at h
def wJ:Ctr Tryz.prog:=⟨235,x8,fun args w=>Tryz.call235 args w,aJ bQ Tryz.func235 x8 aOW⟩
def p6:aH
 | [.big a n,.big b m]=>some (some (n≤900000∧m≤900000∧b≠0),.ret (.big (a%b) m))
 | _=>none
theorem aHl (a b:Int) (n m:Nat):((n≤900000∧m≤900000∧(b=0→False))∧a%b=a%b∧(m≤m∨natAbs (a%b)<2^m))=aK (aL [b6] aF) Tryz.f236 [.big a n,.big b m] (MRes.sat (.ret (.big (a%b) m))):=by kernel_rfl
theorem aJD:aT Tryz.f236 p6:=by
 intro ms p r h hp
 unfold p6 at h
 split at h
 ·rename_i a n b m
  cases h
  obtain ⟨h1,h2,h3⟩:=hp
  refine ⟨aL [b6] aF,?_⟩
  rw [← aHl a b n m]
  first|done|(and_intros <;> first|exact ⟨⟩|rfl|exact .inl (Nat.le_refl _)|omega)
 ·simp at h
def aBk:Ctr Tryz.prog:=⟨236,p6,fun args w=>Tryz.call236 args w,aJ bQ Tryz.func236 p6 aJD⟩
def nC:aH
 | [.st [.big a n,.big b m,.big c k]]=>some (some (n≤40000∧m≤40000∧k≤40000),.ret (.bool (l6 ⟨a,b,c⟩)))
 | _=>none
theorem aFV (a b c:Int) (n m k:Nat):((n≤100000∧m≤100000∧k≤100000)∧2*aR n m k+66≤100000∧bif bS (Fm.disc (Fm.mk a b c)) != 0 then false=l6 (Fm.mk a b c) else bif decide (cP b≤0) then false=l6 (Fm.mk a b c) else (m≤1000000∧9≤1000000)∧bif decide (aO b (aN (Fm.disc (Fm.mk a b c)))>0) then false=l6 (Fm.mk a b c) else n≤900000∧(n+64≤1000000∧m≤1000000)∧(max (n+64) m+1≤1000000∧9≤1000000)∧bif decide (aO (2*(natAbs a:Int)+b) (aN (Fm.disc (Fm.mk a b c)))>0) then (n+64≤1000000∧m≤1000000)∧(max (n+64) m+1≤1000000∧9≤1000000)∧decide (aO (2*(natAbs a:Int) -b) (aN (Fm.disc (Fm.mk a b c)))≤0)=l6 (Fm.mk a b c) else false=l6 (Fm.mk a b c))=aK (aL [rZ,r8,d8,cI,wJ,cB,fQ] aF) Tryz.f213 [.st [.big a n,.big b m,.big c k]] (MRes.sat (.ret (.bool (l6 ⟨a,b,c⟩)))):=by kernel_rfl
theorem aGT:aT Tryz.f213 nC:=by
 intro ms p r h hp
 unfold nC at h
 split at h
 ·rename_i a n b m c k
  cases h
  obtain ⟨h1,h2,h3⟩:=hp
  refine ⟨aL [rZ,r8,d8,cI,wJ,cB,fQ] aF,?_⟩
  rw [← aFV a b c n m k]
  unfold aR
  refine ⟨⟨by omega,by omega,by omega⟩,by omega,?_⟩
  have hi:=aAq (f:=⟨a,b,c⟩)
  refine bF bne_iff_ne (fun q=>zN hi fun e=>q e.1) (fun q=>?_)
  refine bF aUT (fun q2=>zN hi fun e=>by have:=e.2.b0;simp only at this;omega) (fun q2=>?_)
  refine ⟨by omega,bF cgt (fun q3=>zN hi fun e=>by have:=e.2.b1;simp only at this;omega) (fun q3=>?_)⟩
  refine ⟨by omega,by omega,by omega,bF cgt (fun q4=>?_) (fun q4=>zN hi fun e=>by have:=e.2.lo;simp only at this;omega)⟩
  refine ⟨by omega,by omega,aBj cle ⟨fun q5=>?_,fun q5=>?_⟩⟩
  ·have:=(hi.1 q5).2.hi;simp only at this;exact this
  ·exact hi.2 ⟨Decidable.not_not.1 q,⟨by simp only;omega,by simp only;omega,by simp only;omega,by simp only;omega⟩⟩
 ·simp at h
def aF6:Ctr Tryz.prog:=⟨213,nC,fun args w=>Tryz.call213 args w,aJ bQ Tryz.func213 nC aGT⟩
def xA:aH
 | [.st [.big a n,.big b m,.big c k],.big s l]=>some (some (n≤40000∧m≤40000∧k≤40000∧l≤40000∧c≠0∧0<s∧s≤255),.ret (mmv (gT s ⟨a,b,c⟩) (max (aR n m k) 64)))
 | _=>none
theorem aMM (a b c s:Int) (n m k l:Nat):(k≤900000∧(l≤1000000∧m≤1000000)∧(max l m+1≤900000∧k+64≤900000∧(2*(natAbs c:Int)=0→False))∧(l≤1000000∧k+64≤1000000)∧k≤1000000∧(k≤1000000∧l≤1000000)∧bif decide (aO (natAbs c:Int) s>0) then m≤1000000∧(m≤900000∧k+64≤900000∧(2*(natAbs c:Int)=0→False))∧k≤1000000∧(k+64≤1000000∧k≤1000000)∧bif decide (aO (-b%(2*(natAbs c:Int))) (natAbs c:Int)>0) then (k+64≤1000000∧k+64≤1000000)∧(max (k+64) (k+64)+1≤1000000∧m≤1000000)∧dT 2∧(64≤1000000∧k≤1000000)∧(max (max (k+64) (k+64)+1) m+1≤900000∧64+k≤900000∧(2*c=0→False))∧dT 0∧dT (-1)∧dT 1∧aG 0 0 64 (max (aR n m k) 64)∧aG (-1) (-1) 64 (max (aR n m k) 64)∧aG 1 1 64 (max (aR n m k) 64)∧aG ((-b%(2*(natAbs c:Int)) -2*(natAbs c:Int)+b)/(2*c)) (dN s (Fm.mk a b c)) (max (max (k+64) (k+64)+1) m+1) (max (aR n m k) 64)∧True else (k+64≤1000000∧m≤1000000)∧dT 2∧(64≤1000000∧k≤1000000)∧(max (k+64) m+1≤900000∧64+k≤900000∧(2*c=0→False))∧dT 0∧dT (-1)∧dT 1∧aG 0 0 64 (max (aR n m k) 64)∧aG (-1) (-1) 64 (max (aR n m k) 64)∧aG 1 1 64 (max (aR n m k) 64)∧aG ((-b%(2*(natAbs c:Int))+b)/(2*c)) (dN s (Fm.mk a b c)) (max (k+64) m+1) (max (aR n m k) 64)∧True else (max l (k+64)+1≤1000000∧m≤1000000)∧dT 2∧(64≤1000000∧k≤1000000)∧(max (max l (k+64)+1) m+1≤900000∧64+k≤900000∧(2*c=0→False))∧dT 0∧dT (-1)∧dT 1∧aG 0 0 64 (max (aR n m k) 64)∧aG (-1) (-1) 64 (max (aR n m k) 64)∧aG 1 1 64 (max (aR n m k) 64)∧aG ((s -(s+b)%(2*(natAbs c:Int))+b)/(2*c)) (dN s (Fm.mk a b c)) (max (max l (k+64)+1) m+1) (max (aR n m k) 64)∧True)=aK (aL [qW,wJ,cB,fQ,aBk,cI,iH,j6,b6,bX] aF) Tryz.f214 [.st [.big a n,.big b m,.big c k],.big s l] (MRes.sat (.ret (mmv (gT s ⟨a,b,c⟩) (max (aR n m k) 64)))):=by kernel_rfl
theorem aOq:f8 Tryz.f214 xA:=by
 intro ms p r h hp hf
 unfold xA at h
 split at h
 ·rename_i a n b m c k s l
  cases h
  obtain ⟨h1,h2,h3,h4,h5,h6,h7⟩:=hp
  refine ⟨aL [qW,wJ,cB,fQ,aBk,cI,iH,j6,b6,bX] aF,?_⟩
  rw [← aMM a b c s n m k l]
  unfold aR
  simp only [iM,MV.facts] at hf
  obtain ⟨⟨ha,hb,hc,_⟩,_,_⟩:=hf
  have hk:(dN s ⟨a,b,c⟩).natAbs<2^max (max n (max m k)) 64:=aIB h6 h7 h5 (by omega) (kQ hb (by omega)) (kQ hc (by omega))
  have c0:2*(c.natAbs:Int)=0→False:=by omega
  have c1:2*c=0→False:=by omega
  refine ⟨by omega,by omega,⟨by omega,by omega,c0⟩,by omega,by omega,by omega,bF cgt (fun q=>?_) (fun q=>?_)⟩
  ·refine ⟨by omega,⟨by omega,by omega,c0⟩,by omega,by omega,bF cgt (fun q2=>?_) (fun q2=>?_)⟩
   ·have e:(-b%(2*(c.natAbs:Int)) -2*(c.natAbs:Int)+b)/(2*c)=dN s ⟨a,b,c⟩:=by
     unfold dN fC
     rw [if_pos q,if_pos q2]
    exact ⟨by omega,by omega,by omega,by omega,⟨by omega,by omega,c1⟩,by omega,by omega,by omega,⟨rfl,.inl (by omega)⟩,⟨rfl,.inl (by omega)⟩,⟨rfl,.inl (by omega)⟩,⟨e,.inr (by rw [e];exact hk)⟩,⟨⟩⟩
   ·have e:(-b%(2*(c.natAbs:Int))+b)/(2*c)=dN s ⟨a,b,c⟩:=by
     unfold dN fC
     rw [if_pos q,if_neg q2]
    exact ⟨by omega,by omega,by omega,⟨by omega,by omega,c1⟩,by omega,by omega,by omega,⟨rfl,.inl (by omega)⟩,⟨rfl,.inl (by omega)⟩,⟨rfl,.inl (by omega)⟩,⟨e,.inr (by rw [e];exact hk)⟩,⟨⟩⟩
  ·have e:(s -(s+b)%(2*(c.natAbs:Int))+b)/(2*c)=dN s ⟨a,b,c⟩:=by
    unfold dN fC
    rw [if_neg q]
   exact ⟨by omega,by omega,by omega,⟨by omega,by omega,c1⟩,by omega,by omega,by omega,⟨rfl,.inl (by omega)⟩,⟨rfl,.inl (by omega)⟩,⟨rfl,.inl (by omega)⟩,⟨e,.inr (by rw [e];exact hk)⟩,⟨⟩⟩
 ·simp at h
def aCu:Ctr Tryz.prog:=⟨214,xA,fun args w=>Tryz.call214 args w,a9 bQ Tryz.func214 xA aOq⟩
def tI (f:Fm):Fm:=if bS f.disc=0 then rho (aN f.disc) f else ⟨0,0,0⟩
def aJQ (f:Fm):Mx:=if bS f.disc=0 then gT (aN f.disc) f else ⟨0,0,0,0⟩
def aDh:aH
 | [.st [.big a n,.big b m,.big c k]]=>some (some (n≤10000∧m≤10000∧k≤10000),.ret (.tup [fmv (tI ⟨a,b,c⟩) (max (aR n m k) 64),mmv (aJQ ⟨a,b,c⟩) (max (aR n m k) 64),.int .i64 (bS (Fm.disc ⟨a,b,c⟩))]))
 | _=>none
theorem aPA (a b c:Int) (n m k:Nat):((n≤100000∧m≤100000∧k≤100000)∧2*aR n m k+66≤100000∧bif bS (Fm.disc (Fm.mk a b c)) != 0 then FLe (Fm.mk 0 0 0) (tI (Fm.mk a b c)) 0 (max (aR n m k) 64)∧MLe (Mx.mk 0 0 0 0) (aJQ (Fm.mk a b c)) 0 (max (aR n m k) 64)∧bS (Fm.disc (Fm.mk a b c))=bS (Fm.disc (Fm.mk a b c))∧True else (n≤40000∧m≤40000∧k≤40000∧9≤40000∧(c=0→False)∧0<aN (Fm.disc (Fm.mk a b c))∧aN (Fm.disc (Fm.mk a b c))≤255)∧(n≤40000∧m≤40000∧k≤40000∧max (aR n m k) 64≤40000∧max (aR n m k) 64≤40000∧max (aR n m k) 64≤40000∧max (aR n m k) 64≤40000)∧FLe (Fm.mk (Fm.val (Fm.mk a b c) 0 1) (2*(a*((0:Int)*(-1:Int))+c*(1*dN (aN (Fm.disc (Fm.mk a b c))) (Fm.mk a b c)))+b*(0*dN (aN (Fm.disc (Fm.mk a b c))) (Fm.mk a b c)+(-1)*1)) (Fm.val (Fm.mk a b c) (-1) (dN (aN (Fm.disc (Fm.mk a b c))) (Fm.mk a b c)))) (tI (Fm.mk a b c)) (aR n m k+2*iF (max (aR n m k) 64) (max (aR n m k) 64) (max (aR n m k) 64) (max (aR n m k) 64)+68) (max (aR n m k) 64)∧MLe (Mx.mk 0 (-1) 1 (dN (aN (Fm.disc (Fm.mk a b c))) (Fm.mk a b c))) (aJQ (Fm.mk a b c)) (max (aR n m k) 64) (max (aR n m k) 64)∧0=bS (Fm.disc (Fm.mk a b c))∧True)=aK (aL [rZ,r8,aCu,yW] aF) Tryz.f177 [.st [.big a n,.big b m,.big c k]] (MRes.sat (.ret (.tup [fmv (tI ⟨a,b,c⟩) (max (aR n m k) 64),mmv (aJQ ⟨a,b,c⟩) (max (aR n m k) 64),.int .i64 (bS (Fm.disc ⟨a,b,c⟩))]))):=by kernel_rfl
theorem aSh:f8 Tryz.f177 aDh:=by
 intro ms p r h hp hf
 unfold aDh at h
 split at h
 ·rename_i a n b m c k
  cases h
  obtain ⟨h1,h2,h3⟩:=hp
  refine ⟨aL [rZ,r8,aCu,yW] aF,?_⟩
  rw [← aPA a b c n m k]
  simp only [iM,MV.facts] at hf
  obtain ⟨⟨ha,hb,hc,_⟩,_⟩:=hf
  have hW:aR n m k=max n (max m k):=rfl
  generalize hWW:max (aR n m k) 64=W
  refine ⟨by omega,by omega,bF bne_iff_ne (fun q=>?_) (fun q=>?_)⟩
  ·have e1:tI ⟨a,b,c⟩=⟨0,0,0⟩:=if_neg q
   have e2:aJQ ⟨a,b,c⟩=⟨0,0,0,0⟩:=if_neg q
   rw [e1,e2]
   and_intros <;> first|exact ⟨⟩|rfl|exact .inl (Nat.zero_le _)
  ·have q:=Decidable.not_not.1 q
   obtain ⟨hd,hs,_⟩:=dQ q
   have hC:c≠0:=(dE hd rfl).2
   have e1:tI ⟨a,b,c⟩=Fm.app ⟨a,b,c⟩ (gT (aN (Fm.disc ⟨a,b,c⟩)) ⟨a,b,c⟩):=by rw [wZ hC];exact if_pos q
   have e2:aJQ ⟨a,b,c⟩=gT (aN (Fm.disc ⟨a,b,c⟩)) ⟨a,b,c⟩:=if_pos q
   have bd:(Fm.app ⟨a,b,c⟩ (gT (aN (Fm.disc ⟨a,b,c⟩)) ⟨a,b,c⟩)).bd W:=by
    rw [wZ hC]
    have hc':c.natAbs<2^W:=kQ hc (by omega)
    obtain ⟨k1,k2⟩:=aBX hd hs (f:=⟨a,b,c⟩) rfl (k:=W) (by omega) hc'
    exact ⟨hc',k1,k2⟩
   rw [e1,e2]
   refine ⟨⟨by omega,by omega,by omega,by omega,hC,hd.pos,hs⟩,⟨by omega,by omega,by omega,by omega,by omega,by omega,by omega⟩,⟨⟨rfl,.inr bd.A⟩,⟨rfl,.inr bd.B⟩,⟨rfl,.inr bd.C⟩,⟨⟩⟩,?_,q.symm,⟨⟩⟩
   exact ⟨⟨rfl,.inl (Nat.le_refl _)⟩,⟨rfl,.inl (Nat.le_refl _)⟩,⟨rfl,.inl (Nat.le_refl _)⟩,⟨rfl,.inl (Nat.le_refl _)⟩,⟨⟩⟩
 ·simp at h
def aRu:Ctr Tryz.prog:=⟨177,aDh,fun args w=>Tryz.call177 args w,a9 bQ Tryz.func177 aDh aSh⟩
def aVy (s:Int) (f:Fm) (W n0:Nat):Nat→MS→XS→Option XAnn
 | 1,e,_=>some (.inv WalkI (fun i=>i.i≤n0) (fun i=>⟨24, [(0,look 0 e.tm),(1,.bp 5 0),(2,.bp 6 0),(4,.bp 7 0)],a7 (a7 e.bx 5 ⟨false,.one (fmv (rhoN s i.i f) W)⟩) 7 ⟨false,.one (mmv (fX s i.i f) (i.i*W+1))⟩,8⟩) (fun _=>none) (fun i=>n0 -i.i))
 | _,_,_=>none
noncomputable def aCj (s:Int) (f:Fm) (W n0:Nat):XE Tryz.prog where
 E:=aL [rZ,r8,aF6] aF
 xann:=fun _ _ _=>none
 its:= [⟨233,Tryz.f233,Tryz.func233,fun args w=>Tryz.call233 args w,aL [qW,aCu,yW,aKU] aF,aVy s f W n0⟩]
 inl:= [⟨212,Tryz.f212,Tryz.func212,fun args w=>Tryz.call212 args w,aL [] aF,fun _ _ _=>none⟩]
 rnp:=fun _=>8
 all:=fun _=>none
def lD (f:Fm):Fm:=if bS f.disc=0 then aG1 f else ⟨0,0,0⟩
def aBV (f:Fm):Mx:=if bS f.disc=0 then aO9 f else ⟨0,0,0,0⟩
def wid (n m k:Nat):Nat:=max (aR n m k) 64
def aFY (W:Nat):Nat:=(W+2)*W+1
theorem aHm (a b c:Int) (n m k W:Nat):((n≤100000∧m≤100000∧k≤100000)∧2*aR n m k+66≤100000∧bif bS (Fm.disc (Fm.mk a b c)) != 0 then FLe (Fm.mk 0 0 0) (lD (Fm.mk a b c)) 0 W∧MLe (Mx.mk 0 0 0 0) (aBV (Fm.mk a b c)) 0 (aFY W)∧bS (Fm.disc (Fm.mk a b c))=bS (Fm.disc (Fm.mk a b c))∧True else ∀ (L:Nat),dT 1∧dT 0∧dT 0∧dT 1∧(∃ i:WalkI,i.1≤cH (Fm.mk a b c)∧((Value.func (Fn.yield L) #[] #[]=Value.func (Fn.yield L) #[] #[]∧0=0∧0=0∧0=0∧True)∧(aG a a n n∧aG b b m m∧aG c c k k∧True)∧(aG 0 0 0 0∧aG 0 0 0 0∧aG 0 0 0 0∧True)∧(aG 0 0 0 0∧aG 0 0 0 0∧aG 0 0 0 0∧aG 0 0 0 0∧True)∧(0:Int)=0∧aG (aN (Fm.disc (Fm.mk a b c))) (aN (Fm.disc (Fm.mk a b c))) 9 9∧(aG a (Fm.A (rhoN (aN (Fm.disc (Fm.mk a b c))) (i.1) (Fm.mk a b c))) n W∧aG b (Fm.B (rhoN (aN (Fm.disc (Fm.mk a b c))) (i.1) (Fm.mk a b c))) m W∧aG c (Fm.C (rhoN (aN (Fm.disc (Fm.mk a b c))) (i.1) (Fm.mk a b c))) k W∧True)∧aG (aN (Fm.disc (Fm.mk a b c))) (aN (Fm.disc (Fm.mk a b c))) 9 9∧MLe (Mx.mk 1 0 0 1) (fX (aN (Fm.disc (Fm.mk a b c))) (i.1) (Fm.mk a b c)) 64 (i.1*W+1)∧True)∧True)∧∀ (i:WalkI),i.1≤cH (Fm.mk a b c)→L=L∧(W≤40000∧W≤40000∧W≤40000)∧bif l6 (rhoN (aN (Fm.disc (Fm.mk a b c))) (i.1) (Fm.mk a b c)) then FLe (rhoN (aN (Fm.disc (Fm.mk a b c))) (i.1) (Fm.mk a b c)) (lD (Fm.mk a b c)) W W∧MLe (fX (aN (Fm.disc (Fm.mk a b c))) (i.1) (Fm.mk a b c)) (aBV (Fm.mk a b c)) (i.1*W+1) (aFY W)∧0=bS (Fm.disc (Fm.mk a b c))∧True else (W≤40000∧W≤40000∧W≤40000∧9≤40000∧(Fm.C (rhoN (aN (Fm.disc (Fm.mk a b c))) (i.1) (Fm.mk a b c))=0→False)∧0<aN (Fm.disc (Fm.mk a b c))∧aN (Fm.disc (Fm.mk a b c))≤255)∧(W≤40000∧W≤40000∧W≤40000∧max (aR W W W) 64≤40000∧max (aR W W W) 64≤40000∧max (aR W W W) 64≤40000∧max (aR W W W) 64≤40000)∧iF (i.1*W+1) (i.1*W+1) (i.1*W+1) (i.1*W+1)+iF (max (aR W W W) 64) (max (aR W W W) 64) (max (aR W W W) 64) (max (aR W W W) 64)≤900000∧∃ j:WalkI,j.1≤cH (Fm.mk a b c)∧((Value.func (Fn.yield L) #[] #[]=Value.func (Fn.yield L) #[] #[]∧0=0∧0=0∧0=0∧True)∧(aG a a n n∧aG b b m m∧aG c c k k∧True)∧(aG 0 0 0 0∧aG 0 0 0 0∧aG 0 0 0 0∧True)∧(aG 0 0 0 0∧aG 0 0 0 0∧aG 0 0 0 0∧aG 0 0 0 0∧True)∧(0:Int)=0∧aG (aN (Fm.disc (Fm.mk a b c))) (aN (Fm.disc (Fm.mk a b c))) 9 9∧FLe (Fm.mk (Fm.val (rhoN (aN (Fm.disc (Fm.mk a b c))) (i.1) (Fm.mk a b c)) 0 1) (2*(Fm.A (rhoN (aN (Fm.disc (Fm.mk a b c))) (i.1) (Fm.mk a b c))*((0:Int)*(-1:Int))+Fm.C (rhoN (aN (Fm.disc (Fm.mk a b c))) (i.1) (Fm.mk a b c))*(1*dN (aN (Fm.disc (Fm.mk a b c))) (rhoN (aN (Fm.disc (Fm.mk a b c))) (i.1) (Fm.mk a b c))))+Fm.B (rhoN (aN (Fm.disc (Fm.mk a b c))) (i.1) (Fm.mk a b c))*(0*dN (aN (Fm.disc (Fm.mk a b c))) (rhoN (aN (Fm.disc (Fm.mk a b c))) (i.1) (Fm.mk a b c))+(-1)*1)) (Fm.val (rhoN (aN (Fm.disc (Fm.mk a b c))) (i.1) (Fm.mk a b c)) (-1) (dN (aN (Fm.disc (Fm.mk a b c))) (rhoN (aN (Fm.disc (Fm.mk a b c))) (i.1) (Fm.mk a b c))))) (rhoN (aN (Fm.disc (Fm.mk a b c))) (j.1) (Fm.mk a b c)) (aR W W W+2*iF (max (aR W W W) 64) (max (aR W W W) 64) (max (aR W W W) 64) (max (aR W W W) 64)+68) W∧aG (aN (Fm.disc (Fm.mk a b c))) (aN (Fm.disc (Fm.mk a b c))) 9 9∧MLe (Mx.mk (Mx.a (fX (aN (Fm.disc (Fm.mk a b c))) (i.1) (Fm.mk a b c))*0+Mx.b (fX (aN (Fm.disc (Fm.mk a b c))) (i.1) (Fm.mk a b c))*1) (Mx.a (fX (aN (Fm.disc (Fm.mk a b c))) (i.1) (Fm.mk a b c))*(-1)+Mx.b (fX (aN (Fm.disc (Fm.mk a b c))) (i.1) (Fm.mk a b c))*dN (aN (Fm.disc (Fm.mk a b c))) (rhoN (aN (Fm.disc (Fm.mk a b c))) (i.1) (Fm.mk a b c))) (Mx.c (fX (aN (Fm.disc (Fm.mk a b c))) (i.1) (Fm.mk a b c))*0+Mx.d (fX (aN (Fm.disc (Fm.mk a b c))) (i.1) (Fm.mk a b c))*1) (Mx.c (fX (aN (Fm.disc (Fm.mk a b c))) (i.1) (Fm.mk a b c))*(-1)+Mx.d (fX (aN (Fm.disc (Fm.mk a b c))) (i.1) (Fm.mk a b c))*dN (aN (Fm.disc (Fm.mk a b c))) (rhoN (aN (Fm.disc (Fm.mk a b c))) (i.1) (Fm.mk a b c)))) (fX (aN (Fm.disc (Fm.mk a b c))) (j.1) (Fm.mk a b c)) (iF (i.1*W+1) (i.1*W+1) (i.1*W+1) (i.1*W+1)+iF (max (aR W W W) 64) (max (aR W W W) 64) (max (aR W W W) 64) (max (aR W W W) 64)+1) (j.1*W+1)∧True)∧True∧cH (Fm.mk a b c) -j.1<cH (Fm.mk a b c) -i.1)=vD (aCj (aN (Fm.disc ⟨a,b,c⟩)) ⟨a,b,c⟩ W (cH ⟨a,b,c⟩)) Tryz.f175 [.st [.big a n,.big b m,.big c k]] (MRes.sat (.ret (.tup [fmv (lD ⟨a,b,c⟩) W,mmv (aBV ⟨a,b,c⟩) (aFY W),.int .i64 (bS (Fm.disc ⟨a,b,c⟩))]))):=by kernel_rfl
def p7:aH
 | [.st [.big a n,.big b m,.big c k]]=>some (some (n≤300∧m≤300∧k≤300),.ret (.tup [fmv (lD ⟨a,b,c⟩) (wid n m k),mmv (aBV ⟨a,b,c⟩) (aFY (wid n m k)),.int .i64 (bS (Fm.disc ⟨a,b,c⟩))]))
 | _=>none
theorem aJE:aEq Tryz.f175 p7:=by
 intro ms p r h hp hf
 unfold p7 at h
 split at h
 ·rename_i a n b m c k
  cases h
  obtain ⟨h1,h2,h3⟩:=hp
  simp only [iM,MV.facts] at hf
  obtain ⟨⟨ha,hb,hc,_⟩,_⟩:=hf
  have hm3:aR n m k=max n (max m k):=rfl
  generalize hWW:wid n m k=W
  have hW:W=max (max n (max m k)) 64:=hWW.symm
  refine ⟨aCj (aN (Fm.disc ⟨a,b,c⟩)) ⟨a,b,c⟩ W (cH ⟨a,b,c⟩),?_,cU rfl _⟩
  rw [← aHm a b c n m k W]
  refine ⟨by omega,by omega,bF bne_iff_ne (fun q=>?_) (fun q=>?_)⟩
  ·have e1:lD ⟨a,b,c⟩=⟨0,0,0⟩:=if_neg q
   have e2:aBV ⟨a,b,c⟩=⟨0,0,0,0⟩:=if_neg q
   rw [e1,e2]
   and_intros <;> first|exact ⟨⟩|rfl|exact .inl (Nat.zero_le _)
  ·have q:=Decidable.not_not.1 q
   obtain ⟨hd,hs,_⟩:=dQ q
   have e1:lD ⟨a,b,c⟩=aG1 ⟨a,b,c⟩:=if_pos q
   have e2:aBV ⟨a,b,c⟩=aO9 ⟨a,b,c⟩:=if_pos q
   have hbd:Fm.bd ⟨a,b,c⟩ W:=⟨kQ ha (by omega),kQ hb (by omega),kQ hc (by omega)⟩
   obtain ⟨k1,k2,k3⟩:=aAL q (k:=W) hbd.C
   rw [e1,e2]
   unfold aR iF
   generalize hS:aN (Fm.disc ⟨a,b,c⟩)=s at *
   intro L
   refine ⟨by omega,by omega,by omega,by omega,⟨⟨0⟩,Nat.zero_le _,?_,⟨⟩⟩,?_⟩
   ·and_intros <;> first|exact ⟨⟩|rfl|exact .inl (Nat.le_refl _)|exact .inl (by omega)|(right;show _<2^(0*W+1);rw [Nat.zero_mul];decide)
   ·intro i hi
    obtain ⟨i⟩:=i
    have hi:i≤cH ⟨a,b,c⟩:=hi
    have hg:=wY hd hs (k:=W) (by omega) i rfl hbd
    have hM:=aAP hd hs (k:=W) (by omega) rfl hbd i
    have hiw:i*W+1≤aFY W:=by
     have:=Nat.mul_le_mul_right W (show i≤W+2 by omega)
     unfold aFY
     omega
    have hwm:aFY W≤90601:=by
     have:=Nat.mul_le_mul (show W+2≤302 by omega) (show W≤300 by omega)
     unfold aFY
     omega
    dsimp only
    refine ⟨rfl,⟨by omega,by omega,by omega⟩,bF Iff.rfl (fun q1=>?_) (fun q1=>?_)⟩
    ·have hii:i=cH ⟨a,b,c⟩:=by
      rcases Nat.lt_or_ge i (cH ⟨a,b,c⟩) with hl|hl
      ·have:=k3 i hl
       rw [q1] at this
       simp at this
      ·omega
     have g1:aG1 ⟨a,b,c⟩=rhoN s i ⟨a,b,c⟩:=by unfold aG1;rw [hS,← hii]
     have g2:aO9 ⟨a,b,c⟩=fX s i ⟨a,b,c⟩:=by unfold aO9;rw [hS,← hii]
     rw [g1,g2,q]
     and_intros <;> first|exact ⟨⟩|rfl|exact .inl (Nat.le_refl _)|exact .inl hiw
    ·have hlt:i<cH ⟨a,b,c⟩:=by
      rcases Nat.lt_or_ge i (cH ⟨a,b,c⟩) with hl|hl
      ·exact hl
      ·obtain rfl:i=cH ⟨a,b,c⟩:=by omega
       exact absurd k2 q1
     have hC:=(dE hd (mN hd i (f:=⟨a,b,c⟩) rfl)).2
     have g1:rhoN s (i+1) ⟨a,b,c⟩=(rhoN s i ⟨a,b,c⟩).app (gT s (rhoN s i ⟨a,b,c⟩)):=by rw [jC,wZ hC]
     have hg':=wY hd hs (k:=W) (by omega) (i+1) rfl hbd
     have hM':=aAP hd hs (k:=W) (by omega) rfl hbd (i+1)
     have hg2:=hg'
     rw [g1] at hg2
     refine ⟨⟨by omega,by omega,by omega,by omega,hC,hd.pos,hs⟩,⟨by omega,by omega,by omega,by omega,by omega,by omega,by omega⟩,by omega,⟨i+1⟩,hlt,?_,⟨⟩,?_⟩
     ·simp only []
      rw [g1]
      and_intros <;> first|exact ⟨⟩|rfl|exact .inl (Nat.le_refl _)|exact .inr hg2.A|exact .inr hg2.B|exact .inr hg2.C|exact .inr hM'.a|exact .inr hM'.b|exact .inr hM'.c|exact .inr hM'.d
     ·show cH _ -(i+1)<cH _ -i
      omega
 ·simp at h
noncomputable def aJa:Ctr Tryz.prog:=⟨175,p7,fun args w=>Tryz.call175 args w,kD Tryz.func175 p7 aJE⟩
theorem aOd {len:Nat} {g:Nat→MV} {x:MV} (h:fZ 0 x (g len)):LeFun (len+1) (fun q=>bif Nat.blt q len then g q else bV [x] (q -len)) g:=⟨fun q hq c w cs r=>by
 have r:RepC c w (bif Nat.blt q len then g q else bV [x] (q -len)) cs:=r
 rcases Nat.lt_or_ge q len with k|k
 ·have e:Nat.blt q len=true:=by simpa [Nat.blt_eq] using k
  rw [e,cond_true] at r
  exact r
 ·have e:Nat.blt q len=false:=by
   cases hb:Nat.blt q len with
   | true=>rw [Nat.blt_eq] at hb;omega
   | false=>rfl
  have hq':q=len:=by omega
  rw [e,cond_false] at r
  subst hq'
  have e0:bV [x] (q -q)=x:=by rw [Nat.sub_self];rfl
  rw [e0] at r
  exact (LeFun.of_le (len:=1) (f:=fun _=>x) (f':=fun _=>g q) (fun _ _=>h)).h 0 (by omega) c w cs r⟩
theorem LeFun.refl {len:Nat} {f:Nat→MV}:LeFun len f f:=⟨fun _ _ _ _ _ r=>r⟩
theorem aIv {f:Fm} (h:bS f.disc=0):l6 (lD f)=true∧(lD f).disc=f.disc:=by
 obtain ⟨hd,_⟩:=dQ h
 have e:lD f=aG1 f:=if_pos h
 obtain ⟨k,hk⟩:∃ k,f.C.natAbs<2^k:=⟨f.C.natAbs,aGK _⟩
 have:=(aAL h hk).2.1
 rw [e]
 exact ⟨this,mN hd _ rfl⟩
def aVm (x:XS) (f:List Int→Bool):Option (Nat×MapC):=match x.mp with
 | some (B,m)=>some (B,⟨m.kt,m.kk,m.n,f,m.vk⟩)
 | none=>none
theorem aLb (a b:List Int):eqL a b=eqL b a:=aBj ((pG _ _).trans eq_comm) (pG _ _)
def aAz:aH:=fun ms=>match nE ms with
 | some (p,l)=>some (p,.ret (.ws l))
 | none=>none
theorem aMn:∀ (S:Nat→Prop) (w:World) (ms:List MV) (args:Array Value) (p:OProp) (r:MRes),aAz ms=some (p,r)→p.holds→(∀ b,S b→b<w.heap.size)→GW S w→
  RepAll (Ctx.args S) w ms args.toList→Calls Tryz.prog 201 args w fun e w'=>Ext w w'∧r.holds (Ctx.res S) w' e:=by
 intro S w ms args p r hs hp hS hG hR
 unfold aAz at hs
 cases h:nE ms with
 | none=>rw [h] at hs;simp at hs
 | some q =>
  obtain ⟨p',l⟩:=q
  rw [h] at hs
  simp only [Option.some.injEq,Prod.mk.injEq] at hs
  obtain ⟨rfl,rfl⟩:=hs
  refine (aES bQ Tryz.func201 nE aIp S w ms args p' l h hp hS hG hR).mono fun e w' ⟨hext,b,arr,ty,cap,he,hb,hh,hsz,hcap,hl⟩=>⟨hext,?_⟩
  subst he
  show Rep (Ctx.res S) w' (.ws l) _
  refine (aZ rfl).2 ((aS rfl (by simp)).2 ⟨_,rfl,some ⟨b,0,none⟩,cap,rfl,hcap,fun _=>⟨b,0,rfl,fun q=>?_,arr,ty,(0,0),hh,fun j v hv=>?_⟩⟩)
  ·have:=hS b q;omega
  ·simp only [List.getElem?_map,Option.map_eq_some_iff] at hv
   obtain ⟨x,hx,rfl⟩:=hv
   rw [Nat.zero_add]
   exact hl j x hx
def aED:Ctr Tryz.prog:=⟨201,aAz,fun args w=>Tryz.call201 args w,aMn⟩
structure SqI where
 s:Nat
def aHC (a n:Nat):Nat→MS→Option LoopAnn
 | 6,e=>some (.inv SqI (fun i=>0<i.s∧a<(i.s+1)*(i.s+1)∧i.s<2^(n+1)) (fun i=>⟨42, [(1,.bp 0 0),(2,.bp 1 0),(3,.bp 2 0),(5,.bp 4 0)],a7 e.bx 4 ⟨false,.one (.big (i.s:Int) (n+1))⟩,0⟩) (fun i=>i.s))
 | _,_=>none
theorem aNc (a:Int) (n:Nat):(bif decide (a<0) then bif decide (a<0) then aG 0 0 0 0∧aG 0 0 0 0∧(1:Int)=1∧True else aG 0 (eF (natAbs a):Int) 0 n∧aG 0 (a -(eF (natAbs a):Int)*(eF (natAbs a):Int)) 0 (n+n+1)∧(1:Int)=0∧True else bif (length (aA (natAbs a)):Int)==0 then bif decide (a<0) then aG 0 0 0 0∧aG 0 0 0 0∧(0:Int)=1∧True else aG 0 (eF (natAbs a):Int) 0 n∧aG 0 (a -(eF (natAbs a):Int)*(eF (natAbs a):Int)) 0 (n+n+1)∧(0:Int)=0∧True else n≤1000000∧((2:Int)=0→False)∧(0+1≤1∧(∀ (x:Int),x∈take 1 (drop 0 [(1:Int)])→0≤x∧x<4294967296)∧0≤wrap i64 (Int.tdiv (wrap i64 ((bl (natAbs a):Int)+1)) 2)∧wrap i64 (Int.tdiv (wrap i64 ((bl (natAbs a):Int)+1)) 2)≤1000000000∧1≤1000000000)∧((∀ (x:Int),x∈b7 (toNat (wrap i64 (Int.tdiv (wrap i64 ((bl (natAbs a):Int)+1)) 2))/32+1+1) (wv (take 1 (drop 0 [(1:Int)]))*2^toNat (wrap i64 (Int.tdiv (wrap i64 ((bl (natAbs a):Int)+1)) 2)))→0≤x∧x<4294967296)∧length (b7 (toNat (wrap i64 (Int.tdiv (wrap i64 ((bl (natAbs a):Int)+1)) 2))/32+1+1) (wv (take 1 (drop 0 [(1:Int)]))*2^toNat (wrap i64 (Int.tdiv (wrap i64 ((bl (natAbs a):Int)+1)) 2))))≤1000000000)∧(∃ i,(0<SqI.s i∧natAbs a<(SqI.s i+1)*(SqI.s i+1)∧SqI.s i<2^(n+1))∧(0=0∧0=0∧0=0∧0=0∧True)∧aG a a n n∧aG 0 0 0 0∧aG 0 0 0 0∧ [(1:Int)]= [(1:Int)]∧aG (sg false (wv (b7 (toNat (wrap i64 (Int.tdiv (wrap i64 ((bl (natAbs a):Int)+1)) 2))/32+1+1) (wv (take 1 (drop 0 [(1:Int)]))*2^toNat (wrap i64 (Int.tdiv (wrap i64 ((bl (natAbs a):Int)+1)) 2)))))) (SqI.s i:Int) (32*length (b7 (toNat (wrap i64 (Int.tdiv (wrap i64 ((bl (natAbs a):Int)+1)) 2))/32+1+1) (wv (take 1 (drop 0 [(1:Int)]))*2^toNat (wrap i64 (Int.tdiv (wrap i64 ((bl (natAbs a):Int)+1)) 2))))) (n+1)∧True)∧∀ (i:SqI),0<SqI.s i∧natAbs a<(SqI.s i+1)*(SqI.s i+1)∧SqI.s i<2^(n+1)→(n≤900000∧n+1≤900000∧((SqI.s i:Int)=0→False))∧(n+1≤1000000∧n≤1000000)∧dT 2∧(max (n+1) n+1≤900000∧64≤900000∧((2:Int)=0→False))∧(max (n+1) n+1≤1000000∧n+1≤1000000)∧bif decide (aO (((SqI.s i:Int)+a/(SqI.s i:Int))/2) (SqI.s i:Int)≥0) then (n+1≤1000000∧n+1≤1000000)∧(n≤1000000∧n+1+(n+1)≤1000000)∧bif decide (a<0) then aG (SqI.s i:Int) 0 (n+1) 0∧aG (a -(SqI.s i:Int)*(SqI.s i:Int)) 0 (max n (n+1+(n+1))+1) 0∧(0:Int)=1∧True else aG (SqI.s i:Int) (eF (natAbs a):Int) (n+1) n∧aG (a -(SqI.s i:Int)*(SqI.s i:Int)) (a -(eF (natAbs a):Int)*(eF (natAbs a):Int)) (max n (n+1+(n+1))+1) (n+n+1)∧(0:Int)=0∧True else ∃ j,(0<SqI.s j∧natAbs a<(SqI.s j+1)*(SqI.s j+1)∧SqI.s j<2^(n+1))∧((0=0∧0=0∧0=0∧0=0∧True)∧aG a a n n∧aG 0 0 0 0∧aG 0 0 0 0∧ [(1:Int)]= [(1:Int)]∧aG (((SqI.s i:Int)+a/(SqI.s i:Int))/2) (SqI.s j:Int) (max (n+1) n+1) (n+1)∧True)∧SqI.s j<SqI.s i)=aK (aL [wH,aED,fS,aCC,uD,iI,aCB,aK0,aCG] (aHC a.natAbs n)) Tryz.f155 [.big a n] (MRes.sat (.br (decide (a<0)) (.ret (.tup [.big 0 0,.big 0 0,.int .i64 1])) (.ret (.tup [.big (eF a.natAbs) n,.big (a -eF a.natAbs*eF a.natAbs) (n+n+1),.int .i64 0])))):=by kernel_rfl
theorem o5 (j:Nat):(2:Int)^j=((2^j:Nat):Int):=by rw [Int.natCast_pow];rfl
def xV:aH
 | [.big a n]=>some (some (n≤100000),.br (decide (a<0)) (.ret (.tup [.big 0 0,.big 0 0,.int .i64 1])) (.ret (.tup [.big (eF a.natAbs) n,.big (a -eF a.natAbs*eF a.natAbs) (n+n+1),.int .i64 0])))
 | _=>none
theorem aOP:f8 Tryz.f155 xV:=by
 intro ms p r h hp hf
 unfold xV at h
 split at h
 ·rename_i a n
  cases h
  have h1:n≤100000:=hp
  have ha:a.natAbs<2^n:=hf.1
  refine ⟨aL [wH,aED,fS,aCC,uD,iI,aCB,aK0,aCG] (aHC a.natAbs n),?_⟩
  rw [← aNc a n]
  by_cases h0:a<0
  ·rw [decide_eq_true h0,cond_true,cond_true]
   exact ⟨⟨rfl,.inl (Nat.le_refl _)⟩,⟨rfl,.inl (Nat.le_refl _)⟩,rfl,⟨⟩⟩
  rw [decide_eq_false h0]
  rw [cond_false]
  by_cases hz:a=0
  ·subst hz
   have e:aA (natAbs 0)= []:=by rw [aA];rfl
   rw [e]
   show _∧_∧_∧_
   exact ⟨⟨rfl,.inl (Nat.zero_le _)⟩,⟨rfl,.inl (Nat.zero_le _)⟩,rfl,⟨⟩⟩
  have hl:((((aA a.natAbs).length:Nat):Int)==(0:Int))=false:=by
   have:=oO a
   rw [decide_eq_true (show a≠0 from hz)] at this
   have:=of_decide_eq_true this
   simp only [beq_eq_false_iff_ne]
   omega
  rw [hl,cond_false]
  have hb1:bl a.natAbs≤n:=dL ha
  have hb2:=iS a.natAbs
  have hb0:0<bl a.natAbs:=by
   rcases Nat.eq_zero_or_pos (bl a.natAbs) with q|q
   ·rw [q] at hb2;omega
   ·exact q
  generalize hB:bl a.natAbs=b at *
  have e1:wrap i64 ((b:Int)+1)=((b+1:Nat):Int):=by rw [a8 (by omega) (by omega)];omega
  have e2:Int.tdiv ((b+1:Nat):Int) 2=(((b+1)/2:Nat):Int):=rfl
  have e3:wrap i64 (((b+1)/2:Nat):Int)=(((b+1)/2:Nat):Int):=a8 (by omega) (by omega)
  rw [e1,e2,e3,Int.toNat_natCast]
  have hK1:(b+1)/2≤n:=by omega
  have hK2:b≤2*((b+1)/2):=by omega
  generalize (b+1)/2=K at *
  have w1:wv (take 1 (drop 0 [(1:Int)]))=1:=rfl
  rw [w1,Int.one_mul,eQ]
  have hlt:(2:Int)^K<4294967296^(K/32+1+1):=by
   rw [show (4294967296:Int)=2^32 from rfl,← Int.pow_mul,o5,o5]
   exact Int.ofNat_lt.2 (Nat.pow_lt_pow_right (by omega) (by omega))
  have hge:(0:Int)≤2^K:=by rw [o5];exact Int.natCast_nonneg _
  rw [g5 _ _ hge hlt]
  have sg0:∀ z:Int,sg false z=z:=fun _=>rfl
  rw [sg0]
  have hKn:2^K<2^(n+1):=Nat.pow_lt_pow_right (by omega) (by omega)
  have hp0:0<2^K:=Nat.two_pow_pos K
  refine ⟨by omega,by omega,⟨by omega,fun x hx=>?_,by omega,by omega,by omega⟩,⟨fun x hx=>gI _ _ x hx,by omega⟩,⟨⟨2^K⟩,⟨hp0,?_,hKn⟩,?_⟩,fun i hi=>?_⟩
  ·simp at hx;omega
  ·show a.natAbs<(2^K+1)*(2^K+1)
   have k1:2^b≤2^(2*K):=Nat.pow_le_pow_right (by omega) hK2
   have k2:2^(2*K)=2^K*2^K:=by rw [Nat.two_mul,Nat.pow_add]
   have k3:2^K*2^K≤(2^K+1)*(2^K+1):=Nat.mul_le_mul (by omega) (by omega)
   omega
  ·dsimp only
   have e7:((2^K:Nat):Int)=2^K:=(o5 K).symm
   rw [e7]
   and_intros <;> first|exact ⟨⟩|rfl|exact .inl (Nat.le_refl _)|(right;rw [o5];exact hKn)
  obtain ⟨s⟩:=i
  obtain ⟨i1,i2,i3⟩:0<s∧a.natAbs<(s+1)*(s+1)∧s<2^(n+1):=hi
  dsimp only
  have ea:a=(a.natAbs:Int):=by omega
  have et:((s:Int)+a/(s:Int))/2=(((s+a.natAbs/s)/2:Nat):Int):=by
   have:a/(s:Int)=((a.natAbs/s:Nat):Int):=by rw [ea];rfl
   rw [this]
   omega
  rw [et]
  have n1:=aBO (a:=a.natAbs) i1
  have n2:s≤(s+a.natAbs/s)/2→s*s≤a.natAbs:=aAk
  clear et
  generalize (s+a.natAbs/s)/2=T at *
  refine ⟨by omega,by omega,by omega,by omega,by omega,bF cge (fun q=>?_) (fun q=>?_)⟩
  ·have q':s≤T:=by omega
   have k1:=n2 q'
   have k2:=s9 k1 i2
   rw [k2]
   have k3:s*1≤s*s:=Nat.mul_le_mul_left s i1
   have k4:((s*s:Nat):Int)=(s:Int)*s:=Int.natCast_mul s s
   refine ⟨by omega,by omega,?_⟩
   show _∧_∧_∧_
   refine ⟨⟨rfl,.inr (by omega)⟩,⟨rfl,.inr ?_⟩,rfl,⟨⟩⟩
   have:2^n≤2^(n+n+1):=Nat.pow_le_pow_right (by omega) (by omega)
   omega
  ·have q':T<s:=by omega
   refine ⟨⟨T⟩,⟨?_,n1,?_⟩,?_,q'⟩
   ·rcases Nat.eq_zero_or_pos T with z|z
    ·rw [z] at n1;omega
    ·exact z
   ·show T<2^(n+1)
    omega
   ·and_intros <;> first|exact ⟨⟩|rfl|exact .inl (Nat.le_refl _)|(right;omega)
 ·simp at h
def aHQ:Ctr Tryz.prog:=⟨155,xV,fun args w=>Tryz.call155 args w,a9 bQ Tryz.func155 xV aOP⟩
def sqQ (d:Int):Bool:=decide (0≤d∧d -eF d.natAbs*eF d.natAbs=0)
def aDO:aH
 | [.big d n]=>some (some (n≤100000),.ret (.bool (sqQ d)))
 | _=>none
theorem aQd (d:Int) (n:Nat):(bif decide (cP d<0) then false=sqQ d else n≤100000∧bif decide (d<0) then (cP 0==0)=sqQ d else (cP (d -(eF (natAbs d):Int)*(eF (natAbs d):Int))==0)=sqQ d)=aK (aL [pA,aHQ] aF) Tryz.f90 [.big d n] (MRes.sat (.ret (.bool (sqQ d)))):=by kernel_rfl
theorem aSU:aT Tryz.f90 aDO:=by
 intro ms p r h hp
 unfold aDO at h
 split at h
 ·rename_i d n
  cases h
  have h1:n≤100000:=hp
  refine ⟨aL [pA,aHQ] aF,?_⟩
  rw [← aQd d n]
  have hi:sqQ d=true↔0≤d∧d -eF d.natAbs*eF d.natAbs=0:=decide_eq_true_iff
  refine bF aUU (fun q=>zN hi fun e=>by omega) (fun q=>⟨by omega,bF decide_eq_true_iff (fun q2=>absurd q2 q) (fun q2=>aBj aHb (hi.trans ⟨fun e=>e.2,fun e=>⟨by omega,e⟩⟩))⟩)
 ·simp at h
def aKY:Ctr Tryz.prog:=⟨90,aDO,fun args w=>Tryz.call90 args w,aJ bQ Tryz.func90 aDO aSU⟩
theorem aHn :((65536:Int)=65536)=aK (aL [] aF) Tryz.f91 [] (MRes.sat (.ret (.int .i64 65536))):=by kernel_rfl
def p9:aH
 | []=>some (none,.ret (.int .i64 65536))
 | _=>none
theorem aJF:aT Tryz.f91 p9:=by
 intro ms p r h hp
 unfold p9 at h
 split at h
 ·simp only [Option.some.injEq,Prod.mk.injEq] at h
  obtain ⟨rfl,rfl⟩:=h
  refine ⟨aL [] aF,?_⟩
  rw [← aHn]
 ·simp at h
def aBm:Ctr Tryz.prog:=⟨91,p9,fun args w=>Tryz.call91 args w,aJ bQ Tryz.func91 p9 aJF⟩
def nD:aH
 | [.big d n]=>some (some (n≤100000),.ret (.int .i64 (bS d)))
 | _=>none
theorem aFW (d:Int) (n:Nat):(bif decide (cP d≤0) then 5=bS d else dT 4∧(n≤900000∧64≤900000∧((4:Int)=0→False))∧dT 1∧(64≤1000000∧64≤1000000)∧bif decide (aO (d%4) 1>0) then 5=bS d else n≤100000∧bif sqQ d then 5=bS d else dT 65536∧(n≤1000000∧64≤1000000)∧bif decide (aO d 65536>0) then 2=bS d else 0=bS d)=aK (aL [pA,aCB,aCD,iI,aKY,aBm] aF) Tryz.f28 [.big d n] (MRes.sat (.ret (.int .i64 (bS d)))):=by kernel_rfl
theorem aGU:aT Tryz.f28 nD:=by
 intro ms p r h hp
 unfold nD at h
 split at h
 ·rename_i d n
  cases h
  have h1:n≤100000:=hp
  refine ⟨aL [pA,aCB,aCD,iI,aKY,aBm] aF,?_⟩
  rw [← aFW d n]
  have hsq:sqQ d=true↔0≤d∧d -eF d.natAbs*eF d.natAbs=0:=decide_eq_true_iff
  refine bF aUT (fun q=>?_) (fun q=>⟨by omega,⟨by omega,by omega,by omega⟩,by omega,by omega,bF cgt (fun q2=>(if_pos (.inr (.inr q2))).symm) (fun q2=>⟨by omega,bF hsq (fun q3=>(if_pos (.inr (.inl q3.2))).symm) (fun q3=>⟨by omega,⟨by omega,by omega⟩,?_⟩)⟩)⟩)
  ·rcases Int.lt_or_le d 0 with h|h
   ·exact (if_pos (.inl h)).symm
   ·obtain rfl:d=0:=by omega
    exact (if_pos (.inr (.inl rfl))).symm
  ·have e0:bS d=if 65536<d then 2 else 0:=if_neg (by omega)
   rw [e0]
   exact bF cgt (fun q4=>(if_pos q4).symm) (fun q4=>(if_neg q4).symm)
 ·simp at h
def yY:Ctr Tryz.prog:=⟨28,nD,fun args w=>Tryz.call28 args w,aJ bQ Tryz.func28 nD aGU⟩

def ce (a b:Int):Int:= -(-a/b)
def aDa (s t:Int×Int):Int×Int:=(s.1+t.1,s.2+t.2)
def wA (s:Int×Int) (n:Int):Int×Int:=if n<0 then (-s.2* -n,-s.1* -n) else (s.1*n,s.2*n)
def qU (s:Int×Int) (d:Int):Int×Int:=(s.1/d,ce s.2 d)
def aBZ (s t:Int×Int) (u:Int):Int×Int:=qU (s.1*t.1,s.2*t.2) u
def aEe (sq:Int×Int) (u:Int):Nat→Int→Int×Int→Int×Int→Option (Int×Int)
 | 0,_,_,_=>none
 | f+1,k,pw,sm=>if pw.2≤1 then some (aDa sm (qU pw k)) else aEe sq u f (k+2) (aBZ pw sq u) (aDa sm (qU pw k))
def aBa (n d p:Int):Option (Int×Int) :=
 let u:Int:=2^p.toNat
 let pw:=qU (n*u,n*u) d
 (aEe (aBZ pw pw u) u 1000 1 pw (0,0)).map fun s=>(s.1*2,(s.2+1)*2)
def jV (N D:Int):Int:=(bl N.natAbs:Int) -bl D.natAbs
def lH (N D:Int):Int:=if 0≤jV N D then N else N*2^(-jV N D).toNat
def dC (N D:Int):Int:=if 0≤jV N D then D*2^(jV N D).toNat else D
def cF (N D:Int):Int:=if lH N D<dC N D then lH N D+lH N D else lH N D
def eW (N D:Int):Int:=if lH N D<dC N D then jV N D -1 else jV N D
def fJ (N D p:Int):Option (Int×Int) :=
 match aBa 1 3 p,aBa (cF N D -dC N D) (cF N D+dC N D) p with
 | some b,some t=>some (aDa t (wA b (eW N D)))
 | _,_=>none
def fY (g:Int→Option (Int×Int)) (k:Int):Nat→Int→Option Int
 | 0,_=>none
 | f+1,p=>match g p with
  | some s=>if s.1/2^(p -k).toNat=s.2/2^(p -k).toNat then some (s.1/2^(p -k).toNat) else fY g k f (p*2)
  | none=>none
def gM (N D k:Int):Option Int:=fY (fun p=>fJ N D p) k 4 (k+24)
abbrev bJ (a b:Int) (n m:Nat):MV:= .st [.big a n,.big b m]
def aDM:aH
 | [.big a n,.big b m]=>some (some (n≤900000∧m≤900000∧b≠0),.ret (.big (a/b) n))
 | _=>none
theorem aQb (a b:Int) (n m:Nat):((n≤900000∧m≤900000∧(b=0→False))∧a/b=a/b∧(n≤n∨natAbs (a/b)<2^n))=aK (aL [b6] aF) Tryz.f179 [.big a n,.big b m] (MRes.sat (.ret (.big (a/b) n))):=by kernel_rfl
theorem aSS:aT Tryz.f179 aDM:=by
 intro ms p r h hp
 unfold aDM at h
 split at h
 ·rename_i a n b m
  cases h
  obtain ⟨h1,h2,h3⟩:=hp
  refine ⟨aL [b6] aF,?_⟩
  rw [← aQb a b n m]
  first|done|(and_intros <;> first|exact ⟨⟩|rfl|exact .inl (Nat.le_refl _)|omega)
 ·simp at h
def aKW:Ctr Tryz.prog:=⟨179,aDM,fun args w=>Tryz.call179 args w,aJ bQ Tryz.func179 aDM aSS⟩
theorem aMh {n d:Int} {k m:Nat} (hd:0<d) (hn:n.natAbs<2^k) (hm:d.natAbs<2^m):(aC n d).natAbs<2^k∧(aB n d).natAbs<2^m:=by
 have hg:(0:Int)<Int.gcd n d:=by have:=sU (n:=n) hd;omega
 refine ⟨(zA hn).resolve_right fun h=>h hg,(zA hm).resolve_right fun h=>h hg⟩
theorem aLr {n d:Int} (hd:0<d):(Int.gcd n d:Int)≠0:=by have:=sU (n:=n) hd;omega
def qB:aH
 | [.big a n,.big d m]=>some (some (n≤900000∧m≤900000∧0<d),.ret (bJ (aC a d) (aB a d) n m))
 | _=>none
theorem aHq (a d:Int) (n m:Nat):((n≤900000∧m≤900000)∧(n≤900000∧max n m≤900000∧((Int.gcd a d:Int)=0→False))∧(m≤900000∧max n m≤900000∧((Int.gcd a d:Int)=0→False))∧aG (a/(Int.gcd a d:Int)) (aC a d) n n∧aG (d/(Int.gcd a d:Int)) (aB a d) m m∧True)=aK (aL [aCv,aKW] aF) Tryz.f111 [.big a n,.big d m] (MRes.sat (.ret (bJ (aC a d) (aB a d) n m))):=by kernel_rfl
theorem aJI:aT Tryz.f111 qB:=by
 intro ms p r h hp
 unfold qB at h
 split at h
 ·rename_i a n d m
  cases h
  obtain ⟨h1,h2,h3⟩:=hp
  refine ⟨aL [aCv,aKW] aF,?_⟩
  rw [← aHq a d n m]
  have hg:=aLr (n:=a) h3
  and_intros <;> first|exact ⟨⟩|rfl|exact .inl (Nat.le_refl _)|omega|exact hg
 ·simp at h
def kM:Ctr Tryz.prog:=⟨111,qB,fun args w=>Tryz.call111 args w,aJ bQ Tryz.func111 qB aJI⟩
def aDQ:aH
 | [.big a n,.big d m]=>some (some (n≤899000∧m≤899000∧0<d),.ret (.tup [bJ (aC a d) (aB a d) n m,.int .i64 0]))
 | _=>none
theorem aQm (a d:Int) (n m:Nat):(bif cP d==0 then (aG 0 (aC a d) 0 n∧aG 0 (aB a d) 0 m∧True)∧(4:Int)=0∧True else dT (cP d)∧(n≤1000000∧64≤1000000)∧m≤1000000∧(n+64≤900000∧m≤900000∧0<(natAbs d:Int))∧(aG (aC (a*cP d) (natAbs d:Int)) (aC a d) (n+64) n∧aG (aB (a*cP d) (natAbs d:Int)) (aB a d) m m∧True)∧(0:Int)=0∧True)=aK (aL [d8,d6,bX,iH,kM] aF) Tryz.f93 [.big a n,.big d m] (MRes.sat (.ret (.tup [bJ (aC a d) (aB a d) n m,.int .i64 0]))):=by kernel_rfl
theorem aS3:f8 Tryz.f93 aDQ:=by
 intro ms p r h hp hf
 unfold aDQ at h
 split at h
 ·rename_i a n d m
  cases h
  obtain ⟨h1,h2,h3⟩:=hp
  refine ⟨aL [d8,d6,bX,iH,kM] aF,?_⟩
  rw [← aQm a d n m]
  have hs:cP d=1:=by unfold cP;rw [if_neg (by omega),if_neg (by omega)]
  have ha:(d.natAbs:Int)=d:=by omega
  rw [hs,ha,Int.mul_one]
  obtain ⟨q1,q2⟩:=aMh h3 hf.1 hf.2.1
  and_intros <;> first|exact ⟨⟩|rfl|exact .inl (Nat.le_refl _)|omega|exact .inr q1
 ·simp at h
def aCF:Ctr Tryz.prog:=⟨93,aDQ,fun args w=>Tryz.call93 args w,a9 bQ Tryz.func93 aDQ aS3⟩
def aDF:aH
 | [.st [.big a n,.big b m],.st [.big c k,.big d l]]=>some (some (n≤400000∧m≤400000∧k≤400000∧l≤400000∧0<b∧0<d),.ret (bJ (aC (a*d+c*b) (b*d)) (aB (a*d+c*b) (b*d)) (max (n+l) (k+m)+1) (m+l)))
 | _=>none
theorem aP4 (a b c d:Int) (n m k l:Nat):((n≤1000000∧l≤1000000)∧(k≤1000000∧m≤1000000)∧(n+l≤1000000∧k+m≤1000000)∧(m≤1000000∧l≤1000000)∧(max (n+l) (k+m)+1≤900000∧m+l≤900000∧0<b*d)∧aG (aC (a*d+c*b) (b*d)) (aC (a*d+c*b) (b*d)) (max (n+l) (k+m)+1) (max (n+l) (k+m)+1)∧aG (aB (a*d+c*b) (b*d)) (aB (a*d+c*b) (b*d)) (m+l) (m+l)∧True)=aK (aL [bX,cB,kM] aF) Tryz.f120 [.st [.big a n,.big b m],.st [.big c k,.big d l]] (MRes.sat (.ret (bJ (aC (a*d+c*b) (b*d)) (aB (a*d+c*b) (b*d)) (max (n+l) (k+m)+1) (m+l)))):=by kernel_rfl
theorem aSL:aT Tryz.f120 aDF:=by
 intro ms p r h hp
 unfold aDF at h
 split at h
 ·rename_i a n b m c k d l
  cases h
  obtain ⟨h1,h2,h3,h4,h5,h6⟩:=hp
  refine ⟨aL [bX,cB,kM] aF,?_⟩
  rw [← aP4 a b c d n m k l]
  have hb:=Int.mul_pos h5 h6
  and_intros <;> first|exact ⟨⟩|rfl|exact .inl (Nat.le_refl _)|omega|exact hb
 ·simp at h
def aCw:Ctr Tryz.prog:=⟨120,aDF,fun args w=>Tryz.call120 args w,aJ bQ Tryz.func120 aDF aSL⟩
def aDI:aH
 | [.st [.big a n,.big b m]]=>some (some (n≤900000∧m≤900000),.ret (bJ (-a) b n m))
 | _=>none
theorem aP7 (a b:Int) (n m:Nat):(n≤1000000∧aG (-a) (-a) n n∧aG b b m m∧True)=aK (aL [j6] aF) Tryz.f182 [.st [.big a n,.big b m]] (MRes.sat (.ret (bJ (-a) b n m))):=by kernel_rfl
theorem aSO:aT Tryz.f182 aDI:=by
 intro ms p r h hp
 unfold aDI at h
 split at h
 ·rename_i a n b m
  cases h
  obtain ⟨h1,h2⟩:=hp
  refine ⟨aL [j6] aF,?_⟩
  rw [← aP7 a b n m]
  first|done|(and_intros <;> first|exact ⟨⟩|rfl|exact .inl (Nat.le_refl _)|omega)
 ·simp at h
def aKS:Ctr Tryz.prog:=⟨182,aDI,fun args w=>Tryz.call182 args w,aJ bQ Tryz.func182 aDI aSO⟩
def aDK:aH
 | [.st [.big a n,.big b m],.st [.big c k,.big d l]]=>some (some (n≤400000∧m≤400000∧k≤400000∧l≤400000∧0<b∧0<d),.ret (bJ (aC (a*d+ -c*b) (b*d)) (aB (a*d+ -c*b) (b*d)) (max (n+l) (k+m)+1) (m+l)))
 | _=>none
theorem aP9 (a b c d:Int) (n m k l:Nat):((k≤900000∧l≤900000)∧(n≤400000∧m≤400000∧k≤400000∧l≤400000∧0<b∧0<d)∧aG (aC (a*d+ -c*b) (b*d)) (aC (a*d+ -c*b) (b*d)) (max (n+l) (k+m)+1) (max (n+l) (k+m)+1)∧aG (aB (a*d+ -c*b) (b*d)) (aB (a*d+ -c*b) (b*d)) (m+l) (m+l)∧True)=aK (aL [aKS,aCw] aF) Tryz.f116 [.st [.big a n,.big b m],.st [.big c k,.big d l]] (MRes.sat (.ret (bJ (aC (a*d+ -c*b) (b*d)) (aB (a*d+ -c*b) (b*d)) (max (n+l) (k+m)+1) (m+l)))):=by kernel_rfl
theorem aSQ:aT Tryz.f116 aDK:=by
 intro ms p r h hp
 unfold aDK at h
 split at h
 ·rename_i a n b m c k d l
  cases h
  obtain ⟨h1,h2,h3,h4,h5,h6⟩:=hp
  refine ⟨aL [aKS,aCw] aF,?_⟩
  rw [← aP9 a b c d n m k l]
  first|done|(and_intros <;> first|exact ⟨⟩|rfl|exact .inl (Nat.le_refl _)|omega)
 ·simp at h
def aCz:Ctr Tryz.prog:=⟨116,aDK,fun args w=>Tryz.call116 args w,aJ bQ Tryz.func116 aDK aSQ⟩
def aDH:aH
 | [.st [.big a n,.big b m],.st [.big c k,.big d l]]=>some (some (n≤400000∧m≤400000∧k≤400000∧l≤400000∧0<b∧0<d),.ret (bJ (aC (a*c) (b*d)) (aB (a*c) (b*d)) (n+k) (m+l)))
 | _=>none
theorem aP6 (a b c d:Int) (n m k l:Nat):((n≤1000000∧k≤1000000)∧(m≤1000000∧l≤1000000)∧(n+k≤900000∧m+l≤900000∧0<b*d)∧aG (aC (a*c) (b*d)) (aC (a*c) (b*d)) (n+k) (n+k)∧aG (aB (a*c) (b*d)) (aB (a*c) (b*d)) (m+l) (m+l)∧True)=aK (aL [bX,kM] aF) Tryz.f52 [.st [.big a n,.big b m],.st [.big c k,.big d l]] (MRes.sat (.ret (bJ (aC (a*c) (b*d)) (aB (a*c) (b*d)) (n+k) (m+l)))):=by kernel_rfl
theorem aSN:aT Tryz.f52 aDH:=by
 intro ms p r h hp
 unfold aDH at h
 split at h
 ·rename_i a n b m c k d l
  cases h
  obtain ⟨h1,h2,h3,h4,h5,h6⟩:=hp
  refine ⟨aL [bX,kM] aF,?_⟩
  rw [← aP6 a b c d n m k l]
  have hb:=Int.mul_pos h5 h6
  and_intros <;> first|exact ⟨⟩|rfl|exact .inl (Nat.le_refl _)|omega|exact hb
 ·simp at h
def aCx:Ctr Tryz.prog:=⟨52,aDH,fun args w=>Tryz.call52 args w,aJ bQ Tryz.func52 aDH aSN⟩
def aDG:aH
 | [.st [.big a n,.big b m],.st [.big c k,.big d l]]=>some (some (n≤400000∧m≤400000∧k≤400000∧l≤400000),.ret (.int .i64 (aO (a*d) (c*b))))
 | _=>none
theorem aP5 (a b c d:Int) (n m k l:Nat):((n≤1000000∧l≤1000000)∧(k≤1000000∧m≤1000000)∧(n+l≤1000000∧k+m≤1000000)∧aO (a*d) (c*b)=aO (a*d) (c*b))=aK (aL [bX,cI] aF) Tryz.f56 [.st [.big a n,.big b m],.st [.big c k,.big d l]] (MRes.sat (.ret (.int .i64 (aO (a*d) (c*b))))):=by kernel_rfl
theorem aSM:aT Tryz.f56 aDG:=by
 intro ms p r h hp
 unfold aDG at h
 split at h
 ·rename_i a n b m c k d l
  cases h
  obtain ⟨h1,h2,h3,h4⟩:=hp
  refine ⟨aL [bX,cI] aF,?_⟩
  rw [← aP5 a b c d n m k l]
  first|done|(and_intros <;> first|exact ⟨⟩|rfl|exact .inl (Nat.le_refl _)|omega)
 ·simp at h
def yX:Ctr Tryz.prog:=⟨56,aDG,fun args w=>Tryz.call56 args w,aJ bQ Tryz.func56 aDG aSM⟩
def xR:aH
 | [.st [.big a _,.big _ _]]=>some (none,.ret (.int .i64 (cP a)))
 | _=>none
theorem aM3 (a b:Int) (n m:Nat):(cP a=cP a)=aK (aL [d8] aF) Tryz.f57 [.st [.big a n,.big b m]] (MRes.sat (.ret (.int .i64 (cP a)))):=by kernel_rfl
theorem aOH:aT Tryz.f57 xR:=by
 intro ms p r h hp
 unfold xR at h
 split at h
 ·rename_i a n b m
  cases h
  refine ⟨aL [d8] aF,?_⟩
  rw [← aM3 a b n m]
  first|done|(and_intros <;> first|exact ⟨⟩|rfl|exact .inl (Nat.le_refl _)|omega)
 ·simp at h
def o8:Ctr Tryz.prog:=⟨57,xR,fun args w=>Tryz.call57 args w,aJ bQ Tryz.func57 xR aOH⟩
def aIH:aH
 | [.st [.big a n,.big b m]]=>some (none,.ret (.st [bJ a b n m,bJ a b n m]))
 | _=>none
theorem aTH (a b:Int) (n m:Nat):((aG a a n n∧aG b b m m∧True)∧(aG a a n n∧aG b b m m∧True)∧True)=aK (aL [] aF) Tryz.f180 [.st [.big a n,.big b m]] (MRes.sat (.ret (.st [bJ a b n m,bJ a b n m]))):=by kernel_rfl
theorem aUI:aT Tryz.f180 aIH:=by
 intro ms p r h hp
 unfold aIH at h
 split at h
 ·rename_i a n b m
  cases h
  refine ⟨aL [] aF,?_⟩
  rw [← aTH a b n m]
  first|done|(and_intros <;> first|exact ⟨⟩|rfl|exact .inl (Nat.le_refl _)|omega)
 ·simp at h
def aHN:Ctr Tryz.prog:=⟨180,aIH,fun args w=>Tryz.call180 args w,aJ bQ Tryz.func180 aIH aUI⟩
def aIL:aH
 | [.int .i64 k]=>some (some (0≤k∧k≤200000),.ret (.big (2^k.toNat) (k.toNat+1)))
 | _=>none
structure TwX where
 j:Nat
structure TwI (K:Nat) (x:TwX):Prop where
 j:x.j≤K/4000
def aQN (K:Nat):Nat→MS→Option LoopAnn
 | 2,_=>some (.inv TwX (TwI K) (fun x=>⟨27, [(0,.int .i64 (K -4000*x.j:Nat)),(2,.bp 0 0),(3,.bp 1 0)], [⟨false,.one (.big 0 0)⟩,⟨false,.one (.big (2^(K%4000+4000*x.j)) (K%4000+4000*x.j+1))⟩],0⟩) (fun x=>K/4000 -x.j))
 | _,_=>none
theorem aTL (K:Nat):(dT 2∧((4000:Int)=0→False)∧(64≤1000000∧(2:Int)=2∧0≤Int.tmod (K:Int) 4000∧Int.tmod (K:Int) 4000≤4000)∧(∃ i,TwI K i∧((K:Int)=(↑(K -4000*TwX.j i):Int)∧0=0∧0=0∧True)∧aG 0 0 0 0∧aG ((2:Int)^toNat (Int.tmod (K:Int) 4000)) ((2:Int)^(K%4000+4000*TwX.j i)) (toNat (Int.tmod (K:Int) 4000)+1) (K%4000+4000*TwX.j i+1)∧True)∧∀ (i:TwX),TwI K i→bif decide ((↑(K -4000*TwX.j i):Int)≥4000) then dT 2∧(64≤1000000∧(2:Int)=2∧(0:Int)≤4000∧(4000:Int)≤4000)∧(K%4000+4000*TwX.j i+1≤1000000∧toNat 4000+1≤1000000)∧∃ j,TwI K j∧((wrap i64 ((↑(K -4000*TwX.j i):Int) -4000)=(↑(K -4000*TwX.j j):Int)∧0=0∧0=0∧True)∧aG 0 0 0 0∧aG ((2:Int)^(K%4000+4000*TwX.j i)*2^toNat (4000:Int)) ((2:Int)^(K%4000+4000*TwX.j j)) (K%4000+4000*TwX.j i+1+(toNat 4000+1)) (K%4000+4000*TwX.j j+1)∧True)∧K/4000 -TwX.j j<K/4000 -TwX.j i else (2:Int)^(K%4000+4000*TwX.j i)=2^K∧(K%4000+4000*TwX.j i+1≤K+1∨natAbs ((2:Int)^(K%4000+4000*TwX.j i))<2^(K+1)))=aK (aL [d6,aHL,bX] (aQN K)) Tryz.f122 [.int .i64 K] (MRes.sat (.ret (.big (2^K) (K+1)))):=by kernel_rfl
theorem aUM:aT Tryz.f122 aIL:=by
 intro ms p r h hp
 unfold aIL at h
 split at h
 ·rename_i k
  cases h
  obtain ⟨h1,h2⟩:=hp
  obtain ⟨K,rfl⟩:=Int.eq_ofNat_of_zero_le h1
  refine ⟨aL [d6,aHL,bX] (aQN K),?_⟩
  rw [show ((K:Int)).toNat=K from rfl,← aTL K]
  have e1:Int.tmod (K:Int) 4000=((K%4000:Nat):Int):=rfl
  rw [e1,show ((K%4000:Nat):Int).toNat=K%4000 from rfl,show toNat 4000=4000 from rfl]
  have hK:=Nat.div_add_mod K 4000
  refine ⟨by omega,fun h=>by omega,⟨by omega,rfl,by omega,by omega⟩,⟨⟨0⟩,⟨Nat.zero_le _⟩,⟨rfl,rfl,rfl,⟨⟩⟩,⟨rfl,.inl (Nat.le_refl _)⟩,⟨rfl,.inl (Nat.le_refl _)⟩,⟨⟩⟩,?_⟩
  rintro ⟨j⟩ hI
  have hj:j≤K/4000:=hI.j
  clear hI
  dsimp only
  by_cases hc:((K -4000*j:Nat):Int)≥4000
  ·rw [decide_eq_true hc,cond_true]
   have e2:wrap i64 (((K -4000*j:Nat):Int) -4000)=((K -4000*(j+1):Nat):Int):=by rw [a8 (by omega) (by omega)];omega
   have e3:K%4000+4000*(j+1)=K%4000+4000*j+4000:=by omega
   have e4:(2:Int)^(K%4000+4000*j)*2^4000=2^(K%4000+4000*(j+1)):=by rw [e3];exact (Int.pow_add _ _ _).symm
   have h5:((2:Int)^(K%4000+4000*j)*2^4000).natAbs<2^(K%4000+4000*(j+1)+1):=by rw [e4];exact aHf _
   exact ⟨by omega,⟨by omega,rfl,by omega,by omega⟩,⟨by omega,by omega⟩,⟨j+1⟩,⟨by show j+1≤K/4000;omega⟩,⟨⟨e2,rfl,rfl,⟨⟩⟩,⟨rfl,.inl (Nat.le_refl _)⟩,⟨e4,.inr h5⟩,⟨⟩⟩,by show K/4000 -(j+1)<K/4000 -j;omega⟩
  ·rw [decide_eq_false hc,cond_false]
   have e:K%4000+4000*j=K:=by omega
   rw [e]
   exact ⟨rfl,.inl (Nat.le_refl _)⟩
 ·simp at h
def j7:Ctr Tryz.prog:=⟨122,aIL,fun args w=>Tryz.call122 args w,aJ bQ Tryz.func122 aIL aUM⟩
def tJ:aH
 | [.big a n,.big b m]=>some (some (n≤900000∧m≤900000∧b≠0),.ret (.big (a/b) n))
 | _=>none
theorem aJV (a b:Int) (n m:Nat):((n≤900000∧m≤900000∧(b=0→False))∧a/b=a/b∧(n≤n∨natAbs (a/b)<2^n))=aK (aL [b6] aF) Tryz.f183 [.big a n,.big b m] (MRes.sat (.ret (.big (a/b) n))):=by kernel_rfl
theorem aLR:aT Tryz.f183 tJ:=by
 intro ms p r h hp
 unfold tJ at h
 split at h
 ·rename_i a n b m
  cases h
  obtain ⟨h1,h2,h3⟩:=hp
  refine ⟨aL [b6] aF,?_⟩
  rw [← aJV a b n m]
  first|done|(and_intros <;> first|exact ⟨⟩|rfl|exact .inl (Nat.le_refl _)|omega)
 ·simp at h
def fL:Ctr Tryz.prog:=⟨183,tJ,fun args w=>Tryz.call183 args w,aJ bQ Tryz.func183 tJ aLR⟩
def w9:aH
 | [.big a n,.big b m]=>some (some (n≤900000∧m≤900000∧b≠0),.ret (.big (ce a b) n))
 | _=>none
theorem aML (a b:Int) (n m:Nat):(n≤1000000∧(n≤900000∧m≤900000∧(b=0→False))∧n≤1000000∧ -(-a/b)=ce a b∧(n≤n∨natAbs (-(-a/b))<2^n))=aK (aL [j6,fL] aF) Tryz.f238 [.big a n,.big b m] (MRes.sat (.ret (.big (ce a b) n))):=by kernel_rfl
theorem aOp:aT Tryz.f238 w9:=by
 intro ms p r h hp
 unfold w9 at h
 split at h
 ·rename_i a n b m
  cases h
  obtain ⟨h1,h2,h3⟩:=hp
  refine ⟨aL [j6,fL] aF,?_⟩
  rw [← aML a b n m]
  first|done|(and_intros <;> first|exact ⟨⟩|rfl|exact .inl (Nat.le_refl _)|omega)
 ·simp at h
def aHF:Ctr Tryz.prog:=⟨238,w9,fun args w=>Tryz.call238 args w,aJ bQ Tryz.func238 w9 aOp⟩
theorem eJ (k:Nat):(0:Int)<2^k:=Int.pow_pos (by omega)
def aDo:aH
 | [.big a n,.int .i64 k]=>some (some (n≤300000∧0≤k∧k≤200000),.ret (bJ (aC a (2^k.toNat)) (aB a (2^k.toNat)) n (k.toNat+1)))
 | _=>none
theorem aPH (a k:Int) (n:Nat):((0≤k∧k≤200000)∧(n≤899000∧toNat k+1≤899000∧(0:Int)<2^toNat k)∧aG (aC a ((2:Int)^toNat k)) (aC a ((2:Int)^toNat k)) n n∧aG (aB a ((2:Int)^toNat k)) (aB a ((2:Int)^toNat k)) (toNat k+1) (toNat k+1)∧True)=aK (aL [j7,aCF] aF) Tryz.f115 [.big a n,.int .i64 k] (MRes.sat (.ret (bJ (aC a (2^k.toNat)) (aB a (2^k.toNat)) n (k.toNat+1)))):=by kernel_rfl
theorem aSo:aT Tryz.f115 aDo:=by
 intro ms p r h hp
 unfold aDo at h
 split at h
 ·rename_i a n k
  cases h
  obtain ⟨h1,h2,h3⟩:=hp
  refine ⟨aL [j7,aCF] aF,?_⟩
  rw [← aPH a k n]
  have hb:=eJ k.toNat
  and_intros <;> first|exact ⟨⟩|rfl|exact .inl (Nat.le_refl _)|omega|exact hb
 ·simp at h
def oE:Ctr Tryz.prog:=⟨115,aDo,fun args w=>Tryz.call115 args w,aJ bQ Tryz.func115 aDo aSo⟩
def aDd:aH
 | [.big a n,.int .i64 k]=>some (some (n≤200000∧0≤k∧k≤200000),.ret (.st [bJ (aC a (2^k.toNat)) (aB a (2^k.toNat)) n (k.toNat+1),bJ (aC (a+1) (2^k.toNat)) (aB (a+1) (2^k.toNat)) (max n 64+1) (k.toNat+1)]))
 | _=>none
theorem aPw (a k:Int) (n:Nat):((n≤300000∧0≤k∧k≤200000)∧dT 1∧(n≤1000000∧64≤1000000)∧(max n 64+1≤300000∧0≤k∧k≤200000)∧(aG (aC a ((2:Int)^toNat k)) (aC a ((2:Int)^toNat k)) n n∧aG (aB a ((2:Int)^toNat k)) (aB a ((2:Int)^toNat k)) (toNat k+1) (toNat k+1)∧True)∧(aG (aC (a+1) ((2:Int)^toNat k)) (aC (a+1) ((2:Int)^toNat k)) (max n 64+1) (max n 64+1)∧aG (aB (a+1) ((2:Int)^toNat k)) (aB (a+1) ((2:Int)^toNat k)) (toNat k+1) (toNat k+1)∧True)∧True)=aK (aL [oE,d6,cB] aF) Tryz.f187 [.big a n,.int .i64 k] (MRes.sat (.ret (.st [bJ (aC a (2^k.toNat)) (aB a (2^k.toNat)) n (k.toNat+1),bJ (aC (a+1) (2^k.toNat)) (aB (a+1) (2^k.toNat)) (max n 64+1) (k.toNat+1)]))):=by kernel_rfl
theorem aSd:aT Tryz.f187 aDd:=by
 intro ms p r h hp
 unfold aDd at h
 split at h
 ·rename_i a n k
  cases h
  obtain ⟨h1,h2,h3⟩:=hp
  refine ⟨aL [oE,d6,cB] aF,?_⟩
  rw [← aPw a k n]
  first|done|(and_intros <;> first|exact ⟨⟩|rfl|exact .inl (Nat.le_refl _)|omega)
 ·simp at h
def uC:Ctr Tryz.prog:=⟨187,aDd,fun args w=>Tryz.call187 args w,aJ bQ Tryz.func187 aDd aSd⟩
def yI:aH
 | [.int .i64 k]=>some (none,.ret (.bool (decide (k<0∨200<k))))
 | _=>none
theorem aNw (k:Int):(bif decide (k<0) then true=decide (k<0∨200<k) else decide (k>200)=decide (k<0∨200<k))=aK (aL [] aF) Tryz.f112 [.int .i64 k] (MRes.sat (.ret (.bool (decide (k<0∨200<k))))):=by kernel_rfl
theorem aO7:aT Tryz.f112 yI:=by
 intro ms p r h hp
 unfold yI at h
 split at h
 ·rename_i k
  cases h
  refine ⟨aL [] aF,?_⟩
  rw [← aNw k]
  by_cases h1:k<0 <;> by_cases h2:200<k <;> simp [h1,h2]
 ·simp at h
def wQ:Ctr Tryz.prog:=⟨112,yI,fun args w=>Tryz.call112 args w,aJ bQ Tryz.func112 yI aO7⟩
def aDc:aH
 | [.st [.big a n,.big b m]]=>some (some (n≤900000∧m≤900000),.ret (bJ a.natAbs b n m))
 | _=>none
theorem aPu (a b:Int) (n m:Nat):(n≤1000000∧aG (natAbs a:Int) (natAbs a:Int) n n∧aG b b m m∧True)=aK (aL [iH] aF) Tryz.f114 [.st [.big a n,.big b m]] (MRes.sat (.ret (bJ a.natAbs b n m))):=by kernel_rfl
theorem aSb:aT Tryz.f114 aDc:=by
 intro ms p r h hp
 unfold aDc at h
 split at h
 ·rename_i a n b m
  cases h
  obtain ⟨h1,h2⟩:=hp
  refine ⟨aL [iH] aF,?_⟩
  rw [← aPu a b n m]
  first|done|(and_intros <;> first|exact ⟨⟩|rfl|exact .inl (Nat.le_refl _)|omega)
 ·simp at h
def aCs:Ctr Tryz.prog:=⟨114,aDc,fun args w=>Tryz.call114 args w,aJ bQ Tryz.func114 aDc aSb⟩
def aDS:aH
 | [.st [.big a n,.big b m],.st [.big c k,.big d l]]=>some (some (n≤900000∧m≤900000∧k≤900000∧l≤900000),.ret (bJ (a+c) (b+d) (max n k+1) (max m l+1)))
 | _=>none
theorem aQp (a b c d:Int) (n m k l:Nat):((n≤1000000∧k≤1000000)∧(m≤1000000∧l≤1000000)∧aG (a+c) (a+c) (max n k+1) (max n k+1)∧aG (b+d) (b+d) (max m l+1) (max m l+1)∧True)=aK (aL [cB] aF) Tryz.f124 [.st [.big a n,.big b m],.st [.big c k,.big d l]] (MRes.sat (.ret (bJ (a+c) (b+d) (max n k+1) (max m l+1)))):=by kernel_rfl
theorem aS6:aT Tryz.f124 aDS:=by
 intro ms p r h hp
 unfold aDS at h
 split at h
 ·rename_i a n b m c k d l
  cases h
  obtain ⟨h1,h2,h3,h4⟩:=hp
  refine ⟨aL [cB] aF,?_⟩
  rw [← aQp a b c d n m k l]
  first|done|(and_intros <;> first|exact ⟨⟩|rfl|exact .inl (Nat.le_refl _)|omega)
 ·simp at h
def uE:Ctr Tryz.prog:=⟨124,aDS,fun args w=>Tryz.call124 args w,aJ bQ Tryz.func124 aDS aS6⟩
def aDU:aH
 | [.st [.big a n,.big b m]]=>some (some (n≤900000∧m≤900000),.ret (bJ (-b) (-a) m n))
 | _=>none
theorem aQs (a b:Int) (n m:Nat):(m≤1000000∧n≤1000000∧aG (-b) (-b) m m∧aG (-a) (-a) n n∧True)=aK (aL [j6] aF) Tryz.f125 [.st [.big a n,.big b m]] (MRes.sat (.ret (bJ (-b) (-a) m n))):=by kernel_rfl
theorem aS9:aT Tryz.f125 aDU:=by
 intro ms p r h hp
 unfold aDU at h
 split at h
 ·rename_i a n b m
  cases h
  obtain ⟨h1,h2⟩:=hp
  refine ⟨aL [j6] aF,?_⟩
  rw [← aQs a b n m]
  first|done|(and_intros <;> first|exact ⟨⟩|rfl|exact .inl (Nat.le_refl _)|omega)
 ·simp at h
def uF:Ctr Tryz.prog:=⟨125,aDU,fun args w=>Tryz.call125 args w,aJ bQ Tryz.func125 aDU aS9⟩
def qC:aH
 | [.st [.big a n,.big b m],.int .i64 c]=>some (some (n≤400000∧m≤400000∧0≤c∧c≤1000000000),.ret (bJ (a*c) (b*c) (n+64) (m+64)))
 | _=>none
theorem aHr (a b c:Int) (n m:Nat):(bif decide (c<0) then (n≤900000∧m≤900000)∧False else dT c∧(n≤1000000∧64≤1000000)∧(m≤1000000∧64≤1000000)∧aG (a*c) (a*c) (n+64) (n+64)∧aG (b*c) (b*c) (m+64) (m+64)∧True)=aK (aL [d6,bX,uF] aF) Tryz.f185 [.st [.big a n,.big b m],.int .i64 c] (MRes.sat (.ret (bJ (a*c) (b*c) (n+64) (m+64)))):=by kernel_rfl
theorem aJJ:aT Tryz.f185 qC:=by
 intro ms p r h hp
 unfold qC at h
 split at h
 ·rename_i a n b m c
  cases h
  obtain ⟨h1,h2,h3,h4⟩:=hp
  refine ⟨aL [d6,bX,uF] aF,?_⟩
  rw [← aHr a b c n m]
  rw [decide_eq_false (show ¬ c<0 by omega),cond_false]
  and_intros <;> first|exact ⟨⟩|rfl|exact .inl (Nat.le_refl _)|omega
 ·simp at h
def aBo:Ctr Tryz.prog:=⟨185,qC,fun args w=>Tryz.call185 args w,aJ bQ Tryz.func185 qC aJJ⟩
def tX:aH
 | [.st [.big a n,.big b m],.int .i64 c]=>some (some (n≤400000∧m≤400000∧ -1000000000≤c∧c≤1000000000),.ret (bJ (wA (a,b) c).1 (wA (a,b) c).2 (max n m+64) (max n m+64)))
 | _=>none
theorem aJ9 (a b c A B:Int) (n m N:Nat):(bif decide (c<0) then (n≤900000∧m≤900000)∧(m≤400000∧n≤400000∧0≤wrap i64 (0 -c)∧wrap i64 (0 -c)≤1000000000)∧aG (-b*wrap i64 (0 -c)) A (m+64) N∧aG (-a*wrap i64 (0 -c)) B (n+64) N∧True else dT c∧(n≤1000000∧64≤1000000)∧(m≤1000000∧64≤1000000)∧aG (a*c) A (n+64) N∧aG (b*c) B (m+64) N∧True)=aK (aL [d6,bX,uF,aBo] aF) Tryz.f185 [.st [.big a n,.big b m],.int .i64 c] (MRes.sat (.ret (bJ A B N N))):=by kernel_rfl
theorem aL3:aT Tryz.f185 tX:=by
 intro ms p r h hp
 unfold tX at h
 split at h
 ·rename_i a n b m c
  cases h
  obtain ⟨h1,h2,h3,h4⟩:=hp
  refine ⟨aL [d6,bX,uF,aBo] aF,?_⟩
  rw [← aJ9 a b c _ _ n m _]
  unfold wA
  by_cases hc:c<0
  ·have e:wrap i64 (0 -c)= -c:=by rw [a8 (by omega) (by omega)];omega
   rw [e,decide_eq_true hc,if_pos hc]
   and_intros <;> first|exact ⟨⟩|rfl|exact .inl (by omega)|omega
  ·rw [decide_eq_false hc,if_neg hc]
   and_intros <;> first|exact ⟨⟩|rfl|exact .inl (by omega)|omega
 ·simp at h
def r9:Ctr Tryz.prog:=⟨185,tX,fun args w=>Tryz.call185 args w,aJ bQ Tryz.func185 tX aL3⟩
def xY:aH
 | [.st [.big a n,.big b m],.big c k]=>some (some (n≤900000∧m≤900000∧k≤900000∧c≠0),.ret (bJ (a/c) (ce b c) n m))
 | _=>none
theorem aNg (a b c:Int) (n m k:Nat):((n≤900000∧k≤900000∧(c=0→False))∧(m≤900000∧k≤900000∧(c=0→False))∧aG (a/c) (a/c) n n∧aG (ce b c) (ce b c) m m∧True)=aK (aL [fL,aHF] aF) Tryz.f217 [.st [.big a n,.big b m],.big c k] (MRes.sat (.ret (bJ (a/c) (ce b c) n m))):=by kernel_rfl
theorem aOT:aT Tryz.f217 xY:=by
 intro ms p r h hp
 unfold xY at h
 split at h
 ·rename_i a n b m c k
  cases h
  obtain ⟨h1,h2,h3,h4⟩:=hp
  refine ⟨aL [fL,aHF] aF,?_⟩
  rw [← aNg a b c n m k]
  first|done|(and_intros <;> first|exact ⟨⟩|rfl|exact .inl (Nat.le_refl _)|omega)
 ·simp at h
def wI:Ctr Tryz.prog:=⟨217,xY,fun args w=>Tryz.call217 args w,aJ bQ Tryz.func217 xY aOT⟩
def xZ:aH
 | [.st [.big a n,.big b m],.st [.big c k,.big d l],.big u o]=>some (some (n≤400000∧m≤400000∧k≤400000∧l≤400000∧o≤900000∧u≠0),.ret (bJ (a*c/u) (ce (b*d) u) (n+k) (m+l)))
 | _=>none
theorem aNh (a b c d u:Int) (n m k l o:Nat):((n≤1000000∧k≤1000000)∧(m≤1000000∧l≤1000000)∧(n+k≤900000∧m+l≤900000∧o≤900000∧(u=0→False))∧aG (a*c/u) (a*c/u) (n+k) (n+k)∧aG (ce (b*d) u) (ce (b*d) u) (m+l) (m+l)∧True)=aK (aL [bX,wI] aF) Tryz.f218 [.st [.big a n,.big b m],.st [.big c k,.big d l],.big u o] (MRes.sat (.ret (bJ (a*c/u) (ce (b*d) u) (n+k) (m+l)))):=by kernel_rfl
theorem aOU:aT Tryz.f218 xZ:=by
 intro ms p r h hp
 unfold xZ at h
 split at h
 ·rename_i a n b m c k d l u o
  cases h
  obtain ⟨h1,h2,h3,h4,h5,h6⟩:=hp
  refine ⟨aL [bX,wI] aF,?_⟩
  rw [← aNh a b c d u n m k l o]
  first|done|(and_intros <;> first|exact ⟨⟩|rfl|exact .inl (Nat.le_refl _)|omega)
 ·simp at h
def aHS:Ctr Tryz.prog:=⟨218,xZ,fun args w=>Tryz.call218 args w,aJ bQ Tryz.func218 xZ aOU⟩
theorem aH3 {a b c:Int} (hb:0<b) (ha:0≤a) (h:a≤c*b):0≤a/b∧a/b≤c :=
 ⟨Int.ediv_nonneg ha (by omega),Int.ediv_le_of_le_mul hb h⟩
theorem aHU {a b c:Int} (hb:0<b) (ha:0≤a) (h:a≤c*b):0≤ce a b∧ce a b≤c:=by
 unfold ce
 have h1: -a/b≤0:=Int.ediv_le_of_le_mul hb (by omega)
 have h2: -c≤ -a/b:=by
  refine Int.le_ediv_of_mul_le hb ?_
  rw [Int.neg_mul]
  omega
 omega
theorem zV {a b:Int} (ha:0≤a) (hb:1≤b):a≤a*b:=by
 have:=Int.mul_le_mul_of_nonneg_left hb ha
 omega
theorem aRf {x U:Int} {p k c:Nat} (hU:U=2^p) (h0:0≤x) (h:x≤c*U) (hc:c<2^k):x.natAbs<2^(p+k):=by
 have e:U=((2^p:Nat):Int):=by rw [hU,Int.natCast_pow];rfl
 have h1:x.toNat≤c*2^p:=by
  have:x≤((c*2^p:Nat):Int):=by rw [Int.natCast_mul,← e];exact h
  omega
 have h2:(c+1)*2^p≤2^k*2^p:=Nat.mul_le_mul_right _ hc
 rw [Nat.add_mul] at h2
 have:=Nat.two_pow_pos p
 rw [Nat.pow_add,Nat.mul_comm (2^p)]
 omega
structure TgX where
 f:Nat
 k:Int
 a:Int
 b:Int
 s:Int
 t:Int
structure TgI (sq:Int×Int) (U:Int) (R:Int×Int) (x:TgX):Prop where
 run:aEe sq U x.f x.k (x.a,x.b) (x.s,x.t)=some R
 f:x.f≤1000
 k:x.k=1+2*(1000 -x.f)
 a0:0≤x.a
 a1:x.a≤U
 b0:0≤x.b
 b1:x.b≤U
 s0:0≤x.s
 s1:x.s≤(1000 -x.f)*U
 t0:0≤x.t
 t1:x.t≤(1000 -x.f)*U
def aJT (n d p:Int):Int×Int:=qU (n*2^p.toNat,n*2^p.toNat) d
def aEf (n d p:Int):Int×Int:=aBZ (aJT n d p) (aJT n d p) (2^p.toNat)
def jD (n d p:Int):Option (Int×Int):=aEe (aEf n d p) (2^p.toNat) 1000 1 (aJT n d p) (0,0)
theorem aIV (n d p:Int):aBa n d p=(jD n d p).map fun s=>(s.1*2,(s.2+1)*2):=rfl
def aQM (a d p:Int) (n m:Nat) (R:Int×Int):Nat→MS→Option LoopAnn
 | 8,_=>some (.inv TgX (TgI (aEf a d p) (2^p.toNat) R) (fun x=>⟨51, [(3,.bp 0 0),(4,.bp 1 0),(6,.bp 2 0),(7,.bp 3 0),(8,.bp 4 0),(9,.bp 5 0),(10,.bp 6 0),(11,.bp 7 0),(12,.int .i64 x.k)],
   [⟨false,.one (.big a n)⟩,⟨false,.one (.big d m)⟩,⟨false,.one (bJ 0 0 0 0)⟩,⟨false,.one (.big (2^p.toNat) (p.toNat+1))⟩,⟨false,.one (.big (a*2^p.toNat) (n+(p.toNat+1)))⟩,⟨false,.one (bJ x.a x.b (p.toNat+20) (p.toNat+20))⟩,⟨false,.one (bJ (aEf a d p).1 (aEf a d p).2 (p.toNat+20) (p.toNat+20))⟩,⟨false,.one (bJ x.s x.t (p.toNat+20) (p.toNat+20))⟩],0⟩) (fun x=>x.f))
 | _,_=>none
def aIK:aH
 | [.big a n,.big d m,.int .i64 p]=>some (some (n≤100000∧m≤100000∧0≤p∧p≤50000∧0≤a∧a<d∧(jD a d p).isSome=true),.ret (bJ (((jD a d p).getD (0,0)).1*2) ((((jD a d p).getD (0,0)).2+1)*2) (p.toNat+200) (p.toNat+200)))
 | _=>none
theorem aTK (a d p X Y:Int) (n m:Nat):((0≤p∧p≤200000)∧(n≤1000000∧toNat p+1≤1000000)∧(n+(toNat p+1)≤900000∧n+(toNat p+1)≤900000∧m≤900000∧(d=0→False))∧(n+(toNat p+1)≤400000∧n+(toNat p+1)≤400000∧n+(toNat p+1)≤400000∧n+(toNat p+1)≤400000∧toNat p+1≤900000∧((2:Int)^toNat p=0→False))∧(∃ i,TgI (aEf a d p) ((2:Int)^toNat p) (X,Y) i∧(0=0∧0=0∧0=0∧0=0∧0=0∧0=0∧0=0∧0=0∧1=TgX.k i∧True)∧aG a a n n∧aG d d m m∧(aG 0 0 0 0∧aG 0 0 0 0∧True)∧aG ((2:Int)^toNat p) ((2:Int)^toNat p) (toNat p+1) (toNat p+1)∧aG (a*2^toNat p) (a*2^toNat p) (n+(toNat p+1)) (n+(toNat p+1))∧(aG (a*2^toNat p/d) (TgX.a i) (n+(toNat p+1)) (toNat p+20)∧aG (ce (a*2^toNat p) d) (TgX.b i) (n+(toNat p+1)) (toNat p+20)∧True)∧(aG (a*2^toNat p/d*(a*2^toNat p/d)/2^toNat p) (a*2^toNat p/d*(a*2^toNat p/d)/2^toNat p) (n+(toNat p+1)+(n+(toNat p+1))) (toNat p+20)∧aG (ce (ce (a*2^toNat p) d*ce (a*2^toNat p) d) ((2:Int)^toNat p)) (ce (ce (a*2^toNat p) d*ce (a*2^toNat p) d) ((2:Int)^toNat p)) (n+(toNat p+1)+(n+(toNat p+1))) (toNat p+20)∧True)∧(aG 0 (TgX.s i) 0 (toNat p+20)∧aG 0 (TgX.t i) 0 (toNat p+20)∧True)∧True)∧∀ (i:TgX),TgI (aEf a d p) ((2:Int)^toNat p) (X,Y) i→dT (TgX.k i)∧(toNat p+20≤900000∧toNat p+20≤900000∧64≤900000∧(TgX.k i=0→False))∧(toNat p+20≤900000∧toNat p+20≤900000∧toNat p+20≤900000∧toNat p+20≤900000)∧dT 1∧(toNat p+20≤1000000∧64≤1000000)∧bif decide (aO (TgX.b i) 1≤0) then dT 1∧(max (toNat p+20) (toNat p+20)+1≤1000000∧64≤1000000)∧(max (toNat p+20) (toNat p+20)+1≤400000∧max (max (toNat p+20) (toNat p+20)+1) 64+1≤400000∧(-1000000000:Int)≤2∧(2:Int)≤1000000000)∧aG ((TgX.s i+TgX.a i/TgX.k i)*2) (X*2) (max (max (toNat p+20) (toNat p+20)+1) (max (max (toNat p+20) (toNat p+20)+1) 64+1)+64) (toNat p+200)∧aG ((TgX.t i+ce (TgX.b i) (TgX.k i)+1)*2) ((Y+1)*2) (max (max (toNat p+20) (toNat p+20)+1) (max (max (toNat p+20) (toNat p+20)+1) 64+1)+64) (toNat p+200)∧True else (toNat p+20≤400000∧toNat p+20≤400000∧toNat p+20≤400000∧toNat p+20≤400000∧toNat p+1≤900000∧((2:Int)^toNat p=0→False))∧∃ j,TgI (aEf a d p) ((2:Int)^toNat p) (X,Y) j∧((0=0∧0=0∧0=0∧0=0∧0=0∧0=0∧0=0∧0=0∧wrap i64 (TgX.k i+2)=TgX.k j∧True)∧aG a a n n∧aG d d m m∧(aG 0 0 0 0∧aG 0 0 0 0∧True)∧aG ((2:Int)^toNat p) ((2:Int)^toNat p) (toNat p+1) (toNat p+1)∧aG (a*2^toNat p) (a*2^toNat p) (n+(toNat p+1)) (n+(toNat p+1))∧(aG (TgX.a i*(a*2^toNat p/d*(a*2^toNat p/d)/2^toNat p)/2^toNat p) (TgX.a j) (toNat p+20+(toNat p+20)) (toNat p+20)∧aG (ce (TgX.b i*ce (ce (a*2^toNat p) d*ce (a*2^toNat p) d) ((2:Int)^toNat p)) ((2:Int)^toNat p)) (TgX.b j) (toNat p+20+(toNat p+20)) (toNat p+20)∧True)∧(aG (a*2^toNat p/d*(a*2^toNat p/d)/2^toNat p) (a*2^toNat p/d*(a*2^toNat p/d)/2^toNat p) (toNat p+20) (toNat p+20)∧aG (ce (ce (a*2^toNat p) d*ce (a*2^toNat p) d) ((2:Int)^toNat p)) (ce (ce (a*2^toNat p) d*ce (a*2^toNat p) d) ((2:Int)^toNat p)) (toNat p+20) (toNat p+20)∧True)∧(aG (TgX.s i+TgX.a i/TgX.k i) (TgX.s j) (max (toNat p+20) (toNat p+20)+1) (toNat p+20)∧aG (TgX.t i+ce (TgX.b i) (TgX.k i)) (TgX.t j) (max (toNat p+20) (toNat p+20)+1) (toNat p+20)∧True)∧True)∧TgX.f j<TgX.f i)=aK (aL [j7,bX,wI,aHS,d6,uE,cI,cB,r9] (aQM a d p n m (X,Y))) Tryz.f184 [.big a n,.big d m,.int .i64 p] (MRes.sat (.ret (bJ (X*2) ((Y+1)*2) (p.toNat+200) (p.toNat+200)))):=by kernel_rfl
theorem aOb (a b:Int):decide (aO a b≤0)=decide (a≤b):=by
 refine decide_eq_decide.2 ?_
 unfold aO
 split <;> (try split) <;> omega
theorem aUL:aT Tryz.f184 aIK:=by
 intro ms p r h hp
 unfold aIK at h
 split at h
 ·rename_i a n d m p
  cases h
  obtain ⟨h1,h2,h3,h4,h5,h6,h7⟩:=hp
  obtain ⟨⟨X,Y⟩,hR⟩:=Option.isSome_iff_exists.1 h7
  rw [hR]
  refine ⟨aL [j7,bX,wI,aHS,d6,uE,cI,cB,r9] (aQM a d p n m (X,Y)),?_⟩
  rw [Option.getD_some,← aTK a d p X Y n m]
  have hP:p.toNat≤50000:=by omega
  unfold jD at hR
  generalize hPe:p.toNat=P at *
  have hU0:(0:Int)<2^P:=eJ P
  have hUU:∀ x y:Int,0≤x→x≤2^P→0≤y→y≤2^P→0≤x*y∧x*y≤2^P*2^P:=fun x y q1 q2 q3 q4=>⟨Int.mul_nonneg q1 q3,Int.mul_le_mul q2 q4 q3 (by omega)⟩
  have b0:0≤a*2^P:=Int.mul_nonneg h5 (by omega)
  have b1:a*2^P≤2^P*d:=by rw [Int.mul_comm];exact Int.mul_le_mul_of_nonneg_left (by omega) (by omega)
  have x0:=aH3 (by omega) b0 b1
  have y0:=aHU (by omega) b0 b1
  have c0:=hUU _ _ x0.1 x0.2 x0.1 x0.2
  have c0:=aH3 hU0 c0.1 c0.2
  have e0:=hUU _ _ y0.1 y0.2 y0.1 y0.2
  have e0:=aHU hU0 e0.1 e0.2
  have sz1:∀ x:Int,0≤x→x≤2^P→x.natAbs<2^(P+20):=fun x q1 q2=>aRf (c:=1) rfl q1 (by omega) (by omega)
  have sz2:∀ x:Int,0≤x→x≤1000*2^P→x.natAbs<2^(P+20):=fun x q1 q2=>aRf (c:=1000) rfl q1 (by omega) (by omega)
  have hS:aEf a d p=(a*2^P/d*(a*2^P/d)/2^P,ce (ce (a*2^P) d*ce (a*2^P) d) (2^P)):=by unfold aEf aJT aBZ qU;rw [hPe]
  have hI0:aJT a d p=(a*2^P/d,ce (a*2^P) d):=by unfold aJT qU;rw [hPe]
  rw [hS,hI0] at hR
  rw [hS]
  have hz:(2:Int)^P=0→False:=fun h=>by omega
  refine ⟨by omega,⟨by omega,by omega⟩,⟨by omega,by omega,by omega,fun h=>by omega⟩,⟨by omega,by omega,by omega,by omega,by omega,hz⟩,⟨⟨1000,1,_,_,0,0⟩,⟨hR,Nat.le_refl _,rfl,x0.1,x0.2,y0.1,y0.2,Int.le_refl _,?_,Int.le_refl _,?_⟩,⟨rfl,rfl,rfl,rfl,rfl,rfl,rfl,rfl,rfl,⟨⟩⟩,⟨rfl,.inl (Nat.le_refl _)⟩,⟨rfl,.inl (Nat.le_refl _)⟩,⟨⟨rfl,.inl (Nat.le_refl _)⟩,⟨rfl,.inl (Nat.le_refl _)⟩,⟨⟩⟩,⟨rfl,.inl (Nat.le_refl _)⟩,⟨rfl,.inl (Nat.le_refl _)⟩,
   ⟨⟨rfl,.inr (sz1 _ x0.1 x0.2)⟩,⟨rfl,.inr (sz1 _ y0.1 y0.2)⟩,⟨⟩⟩,⟨⟨rfl,.inr (sz1 _ c0.1 c0.2)⟩,⟨rfl,.inr (sz1 _ e0.1 e0.2)⟩,⟨⟩⟩,⟨⟨rfl,.inl (by omega)⟩,⟨rfl,.inl (by omega)⟩,⟨⟩⟩,⟨⟩⟩,?_⟩
  ·show (0:Int)≤(1000 -(1000:Nat))*2^P;omega
  ·show (0:Int)≤(1000 -(1000:Nat))*2^P;omega
  clear hR hI0
  generalize a*2^P/d*(a*2^P/d)/2^P=C at *
  generalize ce (ce (a*2^P) d*ce (a*2^P) d) (2^P)=E at *
  rintro ⟨f,k,A,B,S,T⟩ ⟨hr,i1,i2,i3,i4,i5,i6,i7,i8,i9,i10⟩
  dsimp only at hr i1 i2 i3 i4 i5 i6 i7 i8 i9 i10
  dsimp only
  rw [aOb]
  cases f with
  | zero=>simp [aEe] at hr
  | succ f =>
   have hk:1≤k∧k≤2001:=by omega
   have A1:=aH3 (by omega) i3 (Int.le_trans i4 (zV (by omega) hk.1))
   have B1:=aHU (by omega) i5 (Int.le_trans i6 (zV (by omega) hk.1))
   have A2:=hUU _ _ i3 i4 c0.1 c0.2
   have A2:=aH3 hU0 A2.1 A2.2
   have B2:=hUU _ _ i5 i6 e0.1 e0.2
   have B2:=aHU hU0 B2.1 B2.2
   have m1:(1000 -((f+1:Nat):Int))*2^P+2^P=(1000 -(f:Int))*2^P:=by rw [show (1000 -(f:Int))=(1000 -((f+1:Nat):Int))+1 by omega,Int.add_mul,Int.one_mul]
   have m2:(1000 -(f:Int))*2^P≤1000*2^P:=Int.mul_le_mul_of_nonneg_right (by omega) (by omega)
   have S1:0≤S+A/k∧S+A/k≤(1000 -(f:Int))*2^P:=by omega
   have T1:0≤T+ce B k∧T+ce B k≤(1000 -(f:Int))*2^P:=by omega
   unfold aEe at hr
   refine ⟨by omega,⟨by omega,by omega,by omega,fun h=>by omega⟩,⟨by omega,by omega,by omega,by omega⟩,by omega,⟨by omega,by omega⟩,?_⟩
   by_cases hc:B≤1
   ·rw [if_pos hc] at hr
    simp only [aDa,qU,Option.some.injEq,Prod.mk.injEq] at hr
    obtain ⟨rfl,rfl⟩:=hr
    rw [decide_eq_true hc,cond_true]
    exact ⟨by omega,⟨by omega,by omega⟩,⟨by omega,by omega,by omega,by omega⟩,⟨rfl,.inl (by omega)⟩,⟨rfl,.inl (by omega)⟩,⟨⟩⟩
   ·rw [if_neg hc] at hr
    rw [decide_eq_false hc,cond_false]
    have ek:wrap i64 (k+2)=k+2:=a8 (by omega) (by omega)
    refine ⟨⟨by omega,by omega,by omega,by omega,by omega,hz⟩,⟨f,k+2,_,_,_,_⟩,⟨hr,by show f≤1000;omega,by show k+2=1+2*(1000 -(f:Int));omega,A2.1,A2.2,B2.1,B2.2,S1.1,S1.2,T1.1,T1.2⟩,
     ⟨⟨rfl,rfl,rfl,rfl,rfl,rfl,rfl,rfl,ek,⟨⟩⟩,⟨rfl,.inl (Nat.le_refl _)⟩,⟨rfl,.inl (Nat.le_refl _)⟩,⟨⟨rfl,.inl (Nat.le_refl _)⟩,⟨rfl,.inl (Nat.le_refl _)⟩,⟨⟩⟩,⟨rfl,.inl (Nat.le_refl _)⟩,⟨rfl,.inl (Nat.le_refl _)⟩,
      ⟨⟨rfl,.inr (sz1 _ A2.1 A2.2)⟩,⟨rfl,.inr (sz1 _ B2.1 B2.2)⟩,⟨⟩⟩,⟨⟨rfl,.inl (Nat.le_refl _)⟩,⟨rfl,.inl (Nat.le_refl _)⟩,⟨⟩⟩,⟨⟨rfl,.inr (sz2 _ S1.1 (by omega))⟩,⟨rfl,.inr (sz2 _ T1.1 (by omega))⟩,⟨⟩⟩,⟨⟩⟩,by show f<f+1;omega⟩
 ·simp at h
def aQS:Ctr Tryz.prog:=⟨184,aIK,fun args w=>Tryz.call184 args w,aJ bQ Tryz.func184 aIK aUL⟩
def aUj (Γ:List (Ctr Tryz.prog)) (ann:Nat→MS→Option LoopAnn) (cut:Nat→MS→Option CutAnn):Env Tryz.prog:=⟨Γ, [],30,ann,fun _=> [],cut⟩
def aB1:aH
 | [.st [.big N n,.big D m],.int .i64 p]=>some (some (n≤40000∧m≤40000∧0<N∧0<D∧0≤p∧p≤50000∧(fJ N D p).isSome=true),.ret (bJ ((fJ N D p).getD (0,0)).1 ((fJ N D p).getD (0,0)).2 (p.toNat+300) (p.toNat+300)))
 | _=>none
def aQ3 (N D p:Int) (n m:Nat):Nat→MS→Option CutAnn
 | 9,_=>some (.mk Nat (fun i=>i=0) (fun _=>⟨56, [(1,.int .i64 p),(4,.bp 1 0),(5,.int .i64 (eW N D)),(6,.bp 2 0),(7,.bp 3 0)], [⟨false,.one (bJ N D n m)⟩,⟨false,.one (bJ 0 0 0 0)⟩,⟨false,.one (.big (cF N D) 90000)⟩,⟨false,.one (.big (dC N D) 90000)⟩],0⟩))
 | _,_=>none
theorem aTF (N D p X Y:Int) (n m:Nat):(n≤1000000∧m≤1000000∧bif decide (wrap i64 ((bl (natAbs N):Int) -(bl (natAbs D):Int))≥0) then (0≤wrap i64 ((bl (natAbs N):Int) -(bl (natAbs D):Int))∧wrap i64 ((bl (natAbs N):Int) -(bl (natAbs D):Int))≤200000)∧(m≤1000000∧toNat (wrap i64 ((bl (natAbs N):Int) -(bl (natAbs D):Int)))+1≤1000000)∧((n≤1000000∧m+(toNat (wrap i64 ((bl (natAbs N):Int) -(bl (natAbs D):Int)))+1)≤1000000)∧bif decide (aO N (D*2^toNat (wrap i64 ((bl (natAbs N):Int) -(bl (natAbs D):Int))))<0) then (n≤1000000∧n≤1000000)∧∃ i,i=0∧(p=p∧0=0∧wrap i64 (wrap i64 ((bl (natAbs N):Int) -(bl (natAbs D):Int)) -1)=eW N D∧0=0∧0=0∧True)∧(aG N N n n∧aG D D m m∧True)∧(aG 0 0 0 0∧aG 0 0 0 0∧True)∧aG (N+N) (cF N D) (max n n+1) 90000∧aG (D*2^toNat (wrap i64 ((bl (natAbs N):Int) -(bl (natAbs D):Int)))) (dC N D) (m+(toNat (wrap i64 ((bl (natAbs N):Int) -(bl (natAbs D):Int)))+1)) 90000∧True else ∃ i,i=0∧(p=p∧0=0∧wrap i64 ((bl (natAbs N):Int) -(bl (natAbs D):Int))=eW N D∧0=0∧0=0∧True)∧(aG N N n n∧aG D D m m∧True)∧(aG 0 0 0 0∧aG 0 0 0 0∧True)∧aG N (cF N D) n 90000∧aG (D*2^toNat (wrap i64 ((bl (natAbs N):Int) -(bl (natAbs D):Int)))) (dC N D) (m+(toNat (wrap i64 ((bl (natAbs N):Int) -(bl (natAbs D):Int)))+1)) 90000∧True)∧∀ (i:Nat),i=0→dT 1∧dT 3∧(64≤100000∧64≤100000∧0≤p∧p≤50000∧(0:Int)≤1∧(1:Int)<3∧Option.isSome (jD 1 3 p)=true)∧(90000≤1000000∧90000≤1000000)∧(90000≤1000000∧90000≤1000000)∧(max 90000 90000+1≤100000∧max 90000 90000+1≤100000∧0≤p∧p≤50000∧0≤cF N D -dC N D∧cF N D -dC N D<cF N D+dC N D∧Option.isSome (jD (cF N D -dC N D) (cF N D+dC N D) p)=true)∧(toNat p+200≤400000∧toNat p+200≤400000∧(-1000000000)≤eW N D∧eW N D≤1000000000)∧(toNat p+200≤900000∧toNat p+200≤900000∧max (toNat p+200) (toNat p+200)+64≤900000∧max (toNat p+200) (toNat p+200)+64≤900000)∧aG (Prod.fst (Option.getD (jD (cF N D -dC N D) (cF N D+dC N D) p) ((0:Int),(0:Int)))*2+Prod.fst (wA (Prod.fst (Option.getD (jD 1 3 p) ((0:Int),(0:Int)))*2,(Prod.snd (Option.getD (jD 1 3 p) ((0:Int),(0:Int)))+1)*2) (eW N D))) X (max (toNat p+200) (max (toNat p+200) (toNat p+200)+64)+1) (toNat p+300)∧aG ((Prod.snd (Option.getD (jD (cF N D -dC N D) (cF N D+dC N D) p) ((0:Int),(0:Int)))+1)*2+Prod.snd (wA (Prod.fst (Option.getD (jD 1 3 p) ((0:Int),(0:Int)))*2,(Prod.snd (Option.getD (jD 1 3 p) ((0:Int),(0:Int)))+1)*2) (eW N D))) Y (max (toNat p+200) (max (toNat p+200) (toNat p+200)+64)+1) (toNat p+300)∧True else (0≤wrap i64 (0 -wrap i64 ((bl (natAbs N):Int) -(bl (natAbs D):Int)))∧wrap i64 (0 -wrap i64 ((bl (natAbs N):Int) -(bl (natAbs D):Int)))≤200000)∧(n≤1000000∧toNat (wrap i64 (0 -wrap i64 ((bl (natAbs N):Int) -(bl (natAbs D):Int))))+1≤1000000)∧((n+(toNat (wrap i64 (0 -wrap i64 ((bl (natAbs N):Int) -(bl (natAbs D):Int))))+1)≤1000000∧m≤1000000)∧bif decide (aO (N*2^toNat (wrap i64 (0 -wrap i64 ((bl (natAbs N):Int) -(bl (natAbs D):Int))))) D<0) then (n+(toNat (wrap i64 (0 -wrap i64 ((bl (natAbs N):Int) -(bl (natAbs D):Int))))+1)≤1000000∧n+(toNat (wrap i64 (0 -wrap i64 ((bl (natAbs N):Int) -(bl (natAbs D):Int))))+1)≤1000000)∧∃ i,i=0∧(p=p∧0=0∧wrap i64 (wrap i64 ((bl (natAbs N):Int) -(bl (natAbs D):Int)) -1)=eW N D∧0=0∧0=0∧True)∧(aG N N n n∧aG D D m m∧True)∧(aG 0 0 0 0∧aG 0 0 0 0∧True)∧aG (N*2^toNat (wrap i64 (0 -wrap i64 ((bl (natAbs N):Int) -(bl (natAbs D):Int))))+N*2^toNat (wrap i64 (0 -wrap i64 ((bl (natAbs N):Int) -(bl (natAbs D):Int))))) (cF N D) (max (n+(toNat (wrap i64 (0 -wrap i64 ((bl (natAbs N):Int) -(bl (natAbs D):Int))))+1)) (n+(toNat (wrap i64 (0 -wrap i64 ((bl (natAbs N):Int) -(bl (natAbs D):Int))))+1))+1) 90000∧aG D (dC N D) m 90000∧True else ∃ i,i=0∧(p=p∧0=0∧wrap i64 ((bl (natAbs N):Int) -(bl (natAbs D):Int))=eW N D∧0=0∧0=0∧True)∧(aG N N n n∧aG D D m m∧True)∧(aG 0 0 0 0∧aG 0 0 0 0∧True)∧aG (N*2^toNat (wrap i64 (0 -wrap i64 ((bl (natAbs N):Int) -(bl (natAbs D):Int))))) (cF N D) (n+(toNat (wrap i64 (0 -wrap i64 ((bl (natAbs N):Int) -(bl (natAbs D):Int))))+1)) 90000∧aG D (dC N D) m 90000∧True)∧∀ (i:Nat),i=0→dT 1∧dT 3∧(64≤100000∧64≤100000∧0≤p∧p≤50000∧(0:Int)≤1∧(1:Int)<3∧Option.isSome (jD 1 3 p)=true)∧(90000≤1000000∧90000≤1000000)∧(90000≤1000000∧90000≤1000000)∧(max 90000 90000+1≤100000∧max 90000 90000+1≤100000∧0≤p∧p≤50000∧0≤cF N D -dC N D∧cF N D -dC N D<cF N D+dC N D∧Option.isSome (jD (cF N D -dC N D) (cF N D+dC N D) p)=true)∧(toNat p+200≤400000∧toNat p+200≤400000∧(-1000000000)≤eW N D∧eW N D≤1000000000)∧(toNat p+200≤900000∧toNat p+200≤900000∧max (toNat p+200) (toNat p+200)+64≤900000∧max (toNat p+200) (toNat p+200)+64≤900000)∧aG (Prod.fst (Option.getD (jD (cF N D -dC N D) (cF N D+dC N D) p) ((0:Int),(0:Int)))*2+Prod.fst (wA (Prod.fst (Option.getD (jD 1 3 p) ((0:Int),(0:Int)))*2,(Prod.snd (Option.getD (jD 1 3 p) ((0:Int),(0:Int)))+1)*2) (eW N D))) X (max (toNat p+200) (max (toNat p+200) (toNat p+200)+64)+1) (toNat p+300)∧aG ((Prod.snd (Option.getD (jD (cF N D -dC N D) (cF N D+dC N D) p) ((0:Int),(0:Int)))+1)*2+Prod.snd (wA (Prod.fst (Option.getD (jD 1 3 p) ((0:Int),(0:Int)))*2,(Prod.snd (Option.getD (jD 1 3 p) ((0:Int),(0:Int)))+1)*2) (eW N D))) Y (max (toNat p+200) (max (toNat p+200) (toNat p+200)+64)+1) (toNat p+300)∧True)=aK (aUj [oD,j7,bX,cI,cB,d6,aQS,fQ,r9,uE] aF (aQ3 N D p n m)) Tryz.f119 [.st [.big N n,.big D m],.int .i64 p] (MRes.sat (.ret (bJ X Y (p.toNat+300) (p.toNat+300)))):=by kernel_rfl
theorem aE3 (a b:Int):decide (aO a b<0)=decide (a<b):=by
 refine decide_eq_decide.2 ?_
 unfold aO
 split <;> (try split) <;> omega
theorem aGL {N D:Int} (hN:0<N) (hD:0<D):0<dC N D∧dC N D≤cF N D:=by
 have b1:=iS N.natAbs
 have b2:=vA (n:=N.natAbs) (by omega)
 have b3:=iS D.natAbs
 have b4:=vA (n:=D.natAbs) (by omega)
 have eN:(N.natAbs:Int)=N:=by omega
 have eD:(D.natAbs:Int)=D:=by omega
 have n0:bl N.natAbs≠0:=fun h=>by rw [h] at b1;omega
 have d0:bl D.natAbs≠0:=fun h=>by rw [h] at b3;omega
 have key:0<lH N D∧0<dC N D∧dC N D≤2*lH N D:=by
  unfold lH dC jV
  by_cases h:(0:Int)≤(bl N.natAbs:Int) -bl D.natAbs
  ·rw [if_pos h,if_pos h]
   have e:((bl N.natAbs:Int) -bl D.natAbs).toNat=bl N.natAbs -bl D.natAbs:=by omega
   rw [e]
   have hp:=eJ (bl N.natAbs -bl D.natAbs)
   refine ⟨hN,Int.mul_pos hD hp,?_⟩
   have h5:D.natAbs*2^(bl N.natAbs -bl D.natAbs)≤2^bl D.natAbs*2^(bl N.natAbs -bl D.natAbs):=Nat.mul_le_mul_right _ (by omega)
   rw [← Nat.pow_add,show bl D.natAbs+(bl N.natAbs -bl D.natAbs)=(bl N.natAbs -1)+1 by omega,Nat.pow_succ] at h5
   have h6:((D.natAbs*2^(bl N.natAbs -bl D.natAbs):Nat):Int)=D*2^(bl N.natAbs -bl D.natAbs):=by rw [Int.natCast_mul,eD,Int.natCast_pow];rfl
   rw [← h6]
   omega
  ·rw [if_neg h,if_neg h]
   have e:(-((bl N.natAbs:Int) -bl D.natAbs)).toNat=bl D.natAbs -bl N.natAbs:=by omega
   rw [e]
   have hp:=eJ (bl D.natAbs -bl N.natAbs)
   refine ⟨Int.mul_pos hN hp,hD,?_⟩
   have h5:2^(bl N.natAbs -1)*2^(bl D.natAbs -bl N.natAbs)≤N.natAbs*2^(bl D.natAbs -bl N.natAbs):=Nat.mul_le_mul_right _ (by omega)
   rw [← Nat.pow_add,show bl N.natAbs -1+(bl D.natAbs -bl N.natAbs)=bl D.natAbs -1 by omega] at h5
   have h6:((N.natAbs*2^(bl D.natAbs -bl N.natAbs):Nat):Int)=N*2^(bl D.natAbs -bl N.natAbs):=by rw [Int.natCast_mul,eN,Int.natCast_pow];rfl
   have h7:2^bl D.natAbs=2^(bl D.natAbs -1)*2:=by rw [← Nat.pow_succ];congr 1;omega
   rw [← h6]
   omega
 unfold cF
 refine ⟨key.2.1,?_⟩
 by_cases h:lH N D<dC N D
 ·rw [if_pos h];omega
 ·rw [if_neg h];omega
theorem aJz {N D p X Y:Int} (h:fJ N D p=some (X,Y)):∃ a b c d:Int,jD 1 3 p=some (a,b)∧jD (cF N D -dC N D) (cF N D+dC N D) p=some (c,d)∧
  X=c*2+(wA (a*2,(b+1)*2) (eW N D)).1∧Y=(d+1)*2+(wA (a*2,(b+1)*2) (eW N D)).2:=by
 unfold fJ at h
 rw [aIV,aIV] at h
 cases h1:jD 1 3 p with
 | none=>rw [h1] at h;simp at h
 | some u =>
  cases h2:jD (cF N D -dC N D) (cF N D+dC N D) p with
  | none=>rw [h1,h2] at h;simp at h
  | some v =>
   rw [h1,h2] at h
   simp only [Option.map_some,aDa,Option.some.injEq,Prod.mk.injEq] at h
   exact ⟨u.1,u.2,v.1,v.2,rfl,rfl,h.1.symm,h.2.symm⟩
theorem aOj {N D:Int} {n m:Nat} (hn:N.natAbs<2^n) (hm:D.natAbs<2^m): -(m:Int)≤jV N D∧jV N D≤n:=by
 have:=dL hn
 have:=dL hm
 unfold jV
 omega
theorem aUG:f8 Tryz.f119 aB1:=by
 intro ms p r h hp hf
 unfold aB1 at h
 split at h
 ·rename_i N n D m p
  cases h
  obtain ⟨h1,h2,h3,h4,h5,h6,h7⟩:=hp
  have hn:N.natAbs<2^n:=hf.1.1
  have hm:D.natAbs<2^m:=hf.1.2.1
  obtain ⟨⟨X,Y⟩,hR⟩:=Option.isSome_iff_exists.1 h7
  rw [hR]
  refine ⟨aUj [oD,j7,bX,cI,cB,d6,aQS,fQ,r9,uE] aF (aQ3 N D p n m),?_⟩
  rw [Option.getD_some,← aTF N D p X Y n m]
  obtain ⟨u,v,x,y,g1,g2,g3,g4⟩:=aJz hR
  obtain ⟨s1,s2⟩:=aGL h3 h4
  obtain ⟨e1,e2⟩:=aOj hn hm
  have hE':eW N D=jV N D∨eW N D=jV N D -1:=by unfold eW;split <;> omega
  have i1:(jD 1 3 p).isSome=true:=by rw [g1];rfl
  have i2:(jD (cF N D -dC N D) (cF N D+dC N D) p).isSome=true:=by rw [g2];rfl
  have w1:wrap i64 ((bl N.natAbs:Int) -(bl D.natAbs:Int))=jV N D:=a8 (by unfold jV at e1;omega) (by unfold jV at e2;omega)
  have w2:wrap i64 (jV N D -1)=jV N D -1:=a8 (by omega) (by omega)
  have w3:wrap i64 (0 -jV N D)= -jV N D:=by rw [a8 (by omega) (by omega)];omega
  rw [w1,w2,w3,aE3,aE3]
  refine ⟨by omega,by omega,?_⟩
  clear hf hR
  have hNN:∀ c:Bool,decide (lH N D<dC N D)=c→cF N D=(cond c (lH N D+lH N D) (lH N D))∧eW N D=cond c (jV N D -1) (jV N D):=by
   intro c hc
   unfold cF eW
   cases c with
   | true=>rw [if_pos (of_decide_eq_true hc),if_pos (of_decide_eq_true hc)];exact ⟨rfl,rfl⟩
   | false=>rw [if_neg (of_decide_eq_false hc),if_neg (of_decide_eq_false hc)];exact ⟨rfl,rfl⟩
  by_cases he:0≤jV N D
  ·have t1:lH N D=N:=by unfold lH;rw [if_pos he]
   have t2:dC N D=D*2^(jV N D).toNat:=by unfold dC;rw [if_pos he]
   rw [decide_eq_true he,cond_true,← t2]
   refine ⟨by omega,⟨by omega,by omega⟩,⟨⟨by omega,by omega⟩,?_⟩,?_⟩
   ·rw [t1] at hNN
    cases hc:decide (N<dC N D) with
    | true =>
     obtain ⟨q1,q2⟩:=hNN _ hc
     exact ⟨⟨by omega,by omega⟩,0,rfl,⟨rfl,rfl,q2.symm,rfl,rfl,⟨⟩⟩,⟨⟨rfl,.inl (Nat.le_refl _)⟩,⟨rfl,.inl (Nat.le_refl _)⟩,⟨⟩⟩,⟨⟨rfl,.inl (Nat.le_refl _)⟩,⟨rfl,.inl (Nat.le_refl _)⟩,⟨⟩⟩,⟨q1.symm,.inl (by omega)⟩,⟨rfl,.inl (by omega)⟩,⟨⟩⟩
    | false =>
     obtain ⟨q1,q2⟩:=hNN _ hc
     exact ⟨0,rfl,⟨rfl,rfl,q2.symm,rfl,rfl,⟨⟩⟩,⟨⟨rfl,.inl (Nat.le_refl _)⟩,⟨rfl,.inl (Nat.le_refl _)⟩,⟨⟩⟩,⟨⟨rfl,.inl (Nat.le_refl _)⟩,⟨rfl,.inl (Nat.le_refl _)⟩,⟨⟩⟩,⟨q1.symm,.inl (by omega)⟩,⟨rfl,.inl (by omega)⟩,⟨⟩⟩
   ·intro i _
    rw [g1,g2]
    exact ⟨by omega,by omega,⟨by omega,by omega,h5,h6,by omega,by omega,rfl⟩,by omega,by omega,⟨by omega,by omega,h5,h6,by omega,by omega,rfl⟩,⟨by omega,by omega,by omega,by omega⟩,⟨by omega,by omega,by omega,by omega⟩,⟨g3.symm,.inl (by omega)⟩,⟨g4.symm,.inl (by omega)⟩,⟨⟩⟩
  ·have t1:lH N D=N*2^(-jV N D).toNat:=by unfold lH;rw [if_neg he]
   have t2:dC N D=D:=by unfold dC;rw [if_neg he]
   rw [decide_eq_false he,cond_false,← t1]
   refine ⟨by omega,⟨by omega,by omega⟩,⟨⟨by omega,by omega⟩,?_⟩,?_⟩
   ·rw [t2] at hNN
    cases hc:decide (lH N D<D) with
    | true =>
     obtain ⟨q1,q2⟩:=hNN _ hc
     exact ⟨⟨by omega,by omega⟩,0,rfl,⟨rfl,rfl,q2.symm,rfl,rfl,⟨⟩⟩,⟨⟨rfl,.inl (Nat.le_refl _)⟩,⟨rfl,.inl (Nat.le_refl _)⟩,⟨⟩⟩,⟨⟨rfl,.inl (Nat.le_refl _)⟩,⟨rfl,.inl (Nat.le_refl _)⟩,⟨⟩⟩,⟨q1.symm,.inl (by omega)⟩,⟨t2.symm,.inl (by omega)⟩,⟨⟩⟩
    | false =>
     obtain ⟨q1,q2⟩:=hNN _ hc
     exact ⟨0,rfl,⟨rfl,rfl,q2.symm,rfl,rfl,⟨⟩⟩,⟨⟨rfl,.inl (Nat.le_refl _)⟩,⟨rfl,.inl (Nat.le_refl _)⟩,⟨⟩⟩,⟨⟨rfl,.inl (Nat.le_refl _)⟩,⟨rfl,.inl (Nat.le_refl _)⟩,⟨⟩⟩,⟨q1.symm,.inl (by omega)⟩,⟨t2.symm,.inl (by omega)⟩,⟨⟩⟩
   ·intro i _
    rw [g1,g2]
    exact ⟨by omega,by omega,⟨by omega,by omega,h5,h6,by omega,by omega,rfl⟩,by omega,by omega,⟨by omega,by omega,h5,h6,by omega,by omega,rfl⟩,⟨by omega,by omega,by omega,by omega⟩,⟨by omega,by omega,by omega,by omega⟩,⟨g3.symm,.inl (by omega)⟩,⟨g4.symm,.inl (by omega)⟩,⟨⟩⟩
 ·simp at h
def aBl:Ctr Tryz.prog:=⟨119,aB1,fun args w=>Tryz.call119 args w,a9 bQ Tryz.func119 aB1 aUG⟩
end Go.Proofs.YtijailhickfapaaGreat
