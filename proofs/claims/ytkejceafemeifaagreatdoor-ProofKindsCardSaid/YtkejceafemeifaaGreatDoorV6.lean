/-
  Walk of the law ProofKinds.
-/
import Derived.Test.YtkejceafemeifaaGreatDoorV5
import Derived.Test.YtkejceafemeifaaGreatDoorV4
import Derived.Test.YtkejceafemeifaaGreatDoorV2
import Derived.Test.YtkejceafemeifaaGreatDoorRows
import Derived.Test.YtkejceafemeifaaGreatDoorV3
import Derived.Test.YtkejceafemeifaaGreatDoorCards
import Derived.Test.YtkejceafemeifaaGreatDoorTie
import Derived.ProofKit
import Derived.OpenShut
import Derived.JoinedCond
import Derived.LaidMore
import Derived.LaidLaws
import Derived.LaidHandle
import Derived.ChangeVars
import Derived.Stop.Joined
import Derived.ChangeSame
import Derived.MakeChecks

namespace Go.Proofs.YtkejceafemeifaaGreatDoor
open Go Go.RowKit
open Go.IntKind (wrap i64 i32 i16 i8 u64 u32 u16 u8)
open Int (toNat natAbs)
open List (length take drop getD set replicate)
open BitVec (ofInt)
open Int (gcd tmod tdiv fdiv)
open Int renaming dvd_mul_of_dvd_right->AA,dvd_add->AB,emod_eq_emod_iff_emod_sub_eq_zero->AH,natCast_mul->AI,natCast_emod->AX,emod_eq_zero_of_dvd->A0,dvd_of_emod_eq_zero->A9,dvd_mul_of_dvd_left->BA,natAbs_natCast->BF,emod_eq_of_lt->BK,le_of_dvd->BS,natCast_pow->BT,dvd_sub->B0,mul_comm->B3,tmod_eq_emod_of_nonneg->B5,sub_add_cancel->B6,emod_lt_of_pos->B7,natCast_ediv->CD,natCast_add->CG,emod_nonneg->CH,sub_self->CQ,pow_succ->CR,mul_zero->CS,add_comm->CT,mul_one->C5,tdiv_eq_ediv_of_nonneg->DA,natCast_dvd_natCast->DG,pow_zero->DJ,dvd_zero->DK,mul_neg->DO,mul_emod->EE,gcd_comm->EF,mul_add->EO,dvd_neg->EP
open List renaming getD_eq_getElem?_getD->AC,mem_cons_self->AD,mem_cons_of_mem->AF,mem_singleton->AO,getElem?_eq_getElem->AQ,mem_append->AS,all_eq_true->AU,mem_map->AY,mem_of_elem_eq_true->A4,mem_cons->A5,mem_flatMap->A7,length_append->BB,mem_append_right->BG,append_assoc->BI,not_mem_nil->BM,length_cons->BN,getElem?_append_left->BQ,take_succ_eq_append_getElem->BU,pairwise_map->BV,mem_append_left->BZ,nil_append->B1,append_nil->B2,length_map->CF,mem_range->CJ,range->CM,getElem?_map->CO,take_length->CW,range_succ->C2,nodup_cons->C3,mem_filter->C4,mapM_cons->C8,length_eq_zero_iff->DD,take_of_length_le->DE,length_pos_of_mem->DF,range'->DL,pairwise_cons->DP,filter_append->DR,Nodup->DS,mem_range'_1->DV,length_take->DZ,ext_getElem->D0,length_nil->D2
open Go.Proofs.Tryz renaming prog->AE,underlying4->DX,f54->D3,f6->D8,func25->EB,f48->EQ,f28->ER,f27->ES,f26->ET,f25->EU
open Option renaming bind_eq_some_iff->AG,map_eq_some_iff->AJ,bind_eq_bind->CI,pure_def->CV
open LeFun renaming refl->AK
open Nat renaming dvd_of_mod_eq_zero->AL,log2->AN,mod_lt->AR,mul_le_mul->AW,mul_comm->A2,blt->A3,mul_le_mul_left->A6,mul_div_cancel_left->A8,zero_add->BD,add_sub_cancel->BE,eq_of_beq_eq_true->BH,pow_le_pow_right->BL,pow_succ->BO,add_zero->BP,le_of_dvd->BR,mod_eq_zero_of_dvd->BW,lt_or_ge->BX,log2_lt->B9,beq->CA,mul_assoc->CB,mod_eq_of_lt->CC,blt_eq->CE,add_assoc->CL,le_trans->CP,le_add_right->CX,mul_add->CZ,le_log2->C0,add_mod->C1,two_pow_pos->C6,mod->C7,mod_two_eq_zero_or_one->C9,add_mul_mod_self_left->DB,pow_succ'->DC,succ_mul->DH,pow_zero->DI,pow_mod->DM,mul_pos->DN,lt_of_le_of_lt->DT,eq_zero_or_pos->DU,div->DY,div_eq_of_lt->D1,not_lt_zero->D4,mul_add_div->D5,div_le_self->D6,div_add_mod->D7,lt_trans->EC,add->ED,pow_pos->EG,pow_one->EH,pow_mul->EI,mul_one->EJ,mul_mod->EK,gcd_rec->EL,add_mul->EM,Coprime->EN,pow->EW,gcd->EX
open News renaming len->AM
open Classical renaming choose_spec->AP,choose->AT,byContradiction->AV,not_not->EV
open Go.DataW renaming trod->AZ,TrodAll->CK,Whole->D9
open Go.Value renaming slice->A1,okWide->CN
open List.Pairwise renaming imp_of_mem->BJ,filter->CY
open Bool renaming true_and->BY,not_eq_true'->DW,or_true->EA
open _root_.Array renaming getElem?_eq_some_iff->B4
open Option.some renaming inj->B8
open Go.World renaming cell?->CU
open _root_ renaming Int->Z,Nat->Y,List->O,True->u,absurd->V,False->W,Option->o,Bool->I,if_neg->r,Nat->E5,List->E6,Int->E7,True->E9,absurd->FA,if_pos->FC,Array->FH
open List renaming length->t,getD->v,take->S,replicate->l,take->FB,length->FE
open Int renaming toNat->U,tmod->y,natAbs->E4,tdiv->FD
open Go.IntKind renaming wrap->Q,u64->E2,i64->E3,wrap->E8
open Decidable renaming decide->C
open Go renaming Value->J,TypeId->K,World->FF,Program->FG
open Bool renaming true->EY,false->EZ
open Option renaming some->E0,none->E1
theorem g8{p:Y}(h:Pri p):dM p=EY:=aDs.2 ⟨h.lt,λd b hdd a=>by
 rcases h.dv d (AL a) with e|e
 ·omega
 ·subst e;have:=A6 d b;omega⟩
theorem aKI{p:Y}(h:dM p=EY):Pri p:=⟨(fY h).1,(fY h).2⟩
def n9(c:Z):O Z->Z->Z
 | [],_=>c
 | a::l,x=>a+x*n9 c l x
theorem aMh(k:Z):∀(l:O Z) (c r:Z),∃q:O Z,q.length=l.length/\∀x,n9 k (c::l) x -n9 k (c::l) r=(x -r)*n9 k q x
 | [],c,r=>⟨[],rfl,λx=>by simp only[n9];grind⟩
 | d::l,c,r=>by
  obtain⟨q,a,h⟩:=aMh k l d r;refine⟨n9 k (d::l) r::q,by simp[a],λx=>?_⟩;have:=h x;show c+x*n9 k (d::l) x -(c+r*n9 k (d::l) r)=(x -r)*(n9 k (d::l) r+x*n9 k q x);generalize n9 k (d::l) x=u at *;generalize n9 k (d::l) r=v at *;generalize n9 k q x=w at *
  grind
theorem zN{p:Y}(s:dM p=EY){k:Z}(u:¬(p:Z) ∣ k):∀(n:Y) (l rs:O Z),l.length=n->rs.Pairwise (λa b=>¬(p:Z) ∣ a -b)->(∀r∈rs,(p:Z) ∣ n9 k l r)->rs.length<=n:=by
 intro n
 induction n with
 | zero =>
  intro l rs d _ g;have:l= []:=DD.1 d;subst this;cases rs with
  | nil=>exact Z0 _
  | cons r t=>exact V (g r (AD ..)) u
 | succ n m =>
  intro l rs d v g
  match l,d with
  | c::l,d =>
   cases rs with
   | nil=>exact Z9 _
   | cons r t =>
    obtain⟨q,o,h⟩:=aMh k l c r;have f:=DP.1 v;have:=m q t (by rw[o];simpa using d) f.2 λx i=>by
     have j:=B0 (g x (AF _ i)) (g r (AD ..));rw[h x] at j;refine kC (fA s λe=>f.1 x i ?_) j;obtain⟨z,hz⟩:=e;exact⟨-z,by rw[DO];omega⟩
    rw[BN];omega
theorem aMk:∀(j:Y) (x:Z),n9 1 (l j 0) x=x^j
 | 0,x=>by rw[DJ];rfl
 | j+1,x=>by
  show 0+x*n9 1 (l j 0) x=x^(j+1);rw[aMk j x,CR,Int.zero_add,B3]
theorem aAV{p a n:Y}(h:n<=p):((DL a n).map λj:Y=>(j:Z)).Pairwise (λx y=>¬(p:Z) ∣ x -y):=by
 rw[BV];refine BJ (R:=λx y=>x<y) (λ{x y} c b hxy d=>?_) List.pairwise_lt_range';rw[DV] at c b;obtain⟨z,hz⟩:=d;have e:(y:Z) -x=p*(-z):=by rw[DO];omega
 have h2:=BS (show 0<(y:Z) -x by omega) ⟨-z,e⟩;omega
theorem aEq{p k:Y}(e:dM p=EY)(k1:1<=k)(k2:k<p -1):∃b:Y,2<=b/\b<=p -1/\¬(p:Z) ∣ (b:Z)^k -1:=by
 refine AV λg=>?_;have a:∀b:Y,1<=b->b<=p -1->(p:Z) ∣ (b:Z)^k -1:=λb b1 h=>by
  by_cases c:b=1
  ·subst c;exact⟨0,by rw[show((1:Y):Z)=1 from rfl,Int.one_pow];simp⟩
  ·exact AV λd=>g ⟨b,by omega,h,d⟩
 have h1:=(fY e).1;have:=zN e (k:=1) (λd=>by have:=BS (by decide) d;omega) k (-1::l (k -1) 0) ((DL 1 (p -1)).map λj:Y=>(j:Z)) (by simp;omega) (aAV (by omega)) (λr f=>by
  obtain⟨b,c,rfl⟩:=AY.1 f;rw[DV] at c;have:=a b c.1 (by omega);show(p:Z) ∣ -1+(b:Z)*n9 1 (l (k -1) 0) b;rw[aMk,<- Int.pow_succ',show k -1+1=k by omega];rw[CT];exact this)
 simp at this;omega
theorem aMo{p:Y}(a:dM p=EY)(c:p%2=1){t:Z}(b:¬(p:Z) ∣ t):(p:Z) ∣ t^(p -1) -1:=by
 have h1:=(fY a).1;have h:=aQZ a c t;have e:t^p -t=t*(t^(p -1) -1):=by
  have:t^p=t^(p -1)*t:=by rw[<- CR];congr 1;omega
  rw[this];grind
 rw[e] at h;exact kC (fA a b) h
theorem zZ(w:Z)(a b:Z×Z):dB w a b=dB w b a:=by
 unfold dB;apply Prod.ext<;>dsimp only<;>grind
def oW(w:Z)(x:Z×Z):Y->Z×Z
 | 0=>(1,0)
 | e+1=>dB w (oW w x e) x
theorem aLc(t w:Z):∀e,oW w (t,1) e=zp t w e
 | 0=>rfl
 | e+1=>by show dB w (oW w (t,1) e) (t,1)=dB w (zp t w e) (t,1);rw[aLc t w e]
theorem aC0(w:Z)(a:Z×Z):dB w a (1,0)=a:=by
 unfold dB;apply Prod.ext<;>dsimp only<;>simp
theorem aRz(w:Z)(a:Z×Z):dB w (1,0) a=a:=by rw[zZ,aC0]
theorem aHB(w:Z)(x:Z×Z)(i:Y):∀j,oW w x (i+j)=dB w (oW w x i) (oW w x j)
 | 0=>by show oW w x i=dB w (oW w x i) (1,0);rw[aC0]
 | j+1=>by
  show dB w (oW w x (i+j)) x=dB w (oW w x i) (dB w (oW w x j) x);rw[aHB w x i j,nK]
theorem oX(w:Z)(x:Z×Z)(i:Y):∀j,oW w x (i*j)=oW w (oW w x i) j
 | 0=>rfl
 | j+1=>by
  rw[Nat.mul_succ,aHB,oX w x i j];rfl
theorem aCt(w:Z)(x y:Z×Z):∀e,oW w (dB w x y) e=dB w (oW w x e) (oW w y e)
 | 0=>by show(1,0)=dB w (1,0) (1,0);rw[aC0]
 | e+1=>by
  show dB w (oW w (dB w x y) e) (dB w x y)=dB w (dB w (oW w x e) x) (dB w (oW w y e) y);rw[aCt w x y e,nK,nK]
  congr 1
  rw[<- nK,zZ w (oW w y e) x,nK]
def znm(w:Z)(x:Z×Z):Z:=x.1*x.1 -w*(x.2*x.2)
theorem aXT(w:Z)(x y:Z×Z):znm w (dB w x y)=znm w x*znm w y:=by
 unfold znm dB;dsimp only
 grind
def ReP(p:Y)(x:Z×Z):Prop:=(p:Z) ∣ x.2
def UnP(p:Y)(w:Z)(x:Z×Z):Prop:=¬(p:Z) ∣ znm w x
theorem p6{p:Y}(d:dM p=EY){a b:Z}(h:(p:Z) ∣ a*b):(p:Z) ∣ a\/(p:Z) ∣ b:=by
 by_cases c:(p:Z) ∣ a
 ·exact .inl c
 ·exact .inr (kC (fA d c) h)
theorem aSZ{p:Y}{w:Z}(c:dM p=EY){x y:Z×Z}(b:UnP p w x)(a:UnP p w y):UnP p w (dB w x y):=λh=>by
 rw[aXT] at h;rcases p6 c h with q|q
 ·exact b q
 ·exact a q
theorem aS0{p:Y}{w:Z}(a:dM p=EY):UnP p w (1,0):=λh=>by
 have h:(p:Z) ∣ 1*1 -w*(0*0):=h;rw[CS,CS] at h;have:=BS (by decide) h;have:=(fY a).1;omega
theorem aAx{p:Y}{w:Z}(a:dM p=EY){x:Z×Z}(b:UnP p w x):∀e,UnP p w (oW w x e)
 | 0=>aS0 a
 | e+1=>aSZ a (aAx a b e) b
theorem aKL{p:Y}{w:Z}{x y:Z×Z}(b:ReP p x)(a:ReP p y):ReP p (dB w x y) :=
 AB (AA a) (BA b)
theorem s6{p:Y}{w:Z}{x:Z×Z}(a:ReP p x):∀e,ReP p (oW w x e)
 | 0=>⟨0,by show(0:Z)=p*0;omega⟩
 | e+1=>aKL (s6 a e) a
theorem aAn{p:Y}{w:Z}(d:dM p=EY){x y:Z×Z}(a:ReP p x)(b:UnP p w x)(h:ReP p (dB w x y)):ReP p y:=by
 have e:(p:Z) ∣ x.1*y.2:=by
  have h:(p:Z) ∣ x.1*y.2+x.2*y.1:=h;have:=B0 h (BA (c:=y.1) a)
  rwa [Int.add_sub_cancel] at this
 rcases p6 d e with q|q
 ·exact V (B0 (BA q) (AA (BA a))) b
 ·exact q
theorem bAR{p:Y}{w:Z}(a:dM p=EY){x:Z×Z}(c:UnP p w x){M:Y}(h:ReP p (oW w x M))(k r:Y)(b:ReP p (oW w x (M*k+r))):ReP p (oW w x r):=by
 rw[aHB,oX] at b;exact aAn a (s6 h k) (aAx a (aAx a c M) k) b
theorem bAQ{p:Y}{w:Z}(c:dM p=EY){x:Z×Z}(b:UnP p w x)(M K:Y):ReP p (oW w x M)->ReP p (oW w x K)->ReP p (oW w x (EX M K)):=by
 induction M,K using Nat.gcd.induction with
 | H0 n=>intro _ h;rw[Nat.gcd_zero_left];exact h
 | H1 m n _ ih =>
  intro a d;rw[EL];refine ih (bAR c b a (n/m) (n%m) ?_) a;rw[D7];exact d
theorem aMi(c d:Z):∀(l m:O Z),m.length<l.length->∃l',l'.length=l.length/\∀x,n9 c l x+n9 d m x=n9 c l' x
 | a::l, [],_=>⟨(a+d)::l,by simp,λx=>by show a+x*n9 c l x+d=a+d+x*n9 c l x;omega⟩
 | a::l,b::m,h=>by
  obtain⟨l',f,e⟩:=aMi c d l m (by simpa using h);refine⟨(a+b)::l',by simp[f],λx=>?_⟩;show a+x*n9 c l x+(b+x*n9 d m x)=a+b+x*n9 c l' x;rw[<- e x,EO];omega
 | [], [],h=>by simp at h
 | [],_::_,h=>by simp at h
theorem aMg(c d:Z):∀(l m:O Z),m.length=l.length->∃l',l'.length=l.length/\∀x,n9 c l x+n9 d m x=n9 (c+d) l' x
 | [], [],_=>⟨[],rfl,λx=>rfl⟩
 | a::l,b::m,h=>by
  obtain⟨l',f,e⟩:=aMg c d l m (by simpa using h);refine⟨(a+b)::l',by simp[f],λx=>?_⟩;show a+x*n9 c l x+(b+x*n9 d m x)=a+b+x*n9 (c+d) l' x;rw[<- e x,EO];omega
 | [],_::_,h=>by simp at h
 | _::_, [],h=>by simp at h
theorem aMj(c w:Z):∀l:O Z,∃l',l'.length=l.length/\∀x,w*n9 c l x=n9 (w*c) l' x
 | []=>⟨[],rfl,λx=>rfl⟩
 | a::l=>by
  obtain⟨l',d,b⟩:=aMj c w l;refine⟨(w*a)::l',by simp[d],λx=>?_⟩;show w*(a+x*n9 c l x)=w*a+x*n9 (w*c) l' x;rw[<- b x]
  grind
theorem aNK(w:Z):∀m:Y,(∃l:O Z,l.length=m+1/\∀t,(zp t w (m+1)).1=n9 1 l t)/\(∃l:O Z,l.length=m/\∀t,(zp t w (m+1)).2=n9 ((m+1:Y):Z) l t)
 | 0=>⟨⟨[0],rfl,λt=>by rw[aUa];show t=0+t*1;omega⟩,⟨[],rfl,λt=>by rw[aUa];rfl⟩⟩
 | m+1=>by
  obtain⟨⟨l,a,f⟩,⟨d,e,c⟩⟩:=aNK w m;have o:∀t,(zp t w (m+1+1)).1=(zp t w (m+1)).1*t+w*((zp t w (m+1)).2*1):=λt=>rfl;have n:∀t,(zp t w (m+1+1)).2=(zp t w (m+1)).1*1+(zp t w (m+1)).2*t:=λt=>rfl;obtain⟨d',k,j⟩:=aMj ((m+1:Y):Z) w d;obtain⟨l',i,h⟩:=aMi 1 (w*((m+1:Y):Z)) (0::l) d' (by rw[k,e,BN,a];omega);obtain⟨p,g,b⟩:=aMg 1 ((m+1:Y):Z) l (0::d) (by simp[a,e]);refine⟨⟨l',by rw[i,BN,a],λt=>?_⟩,⟨p,by rw[g,a],λt=>?_⟩⟩
  ·rw[o,<- h t,<- j t,f t,c t,C5];show n9 1 l t*t+w*n9 _ d t=0+t*n9 1 l t+w*n9 _ d t
   grind
  ·have:=b t;rw[show(1:Z)+((m+1:Y):Z)=((m+1+1:Y):Z) by omega] at this;rw[n,<- this,f t,c t,C5];show n9 1 l t+n9 _ d t*t=n9 1 l t+(0+t*n9 _ d t)
   grind
theorem aXV{p:Y}(f:dM p=EY)(w:Z){m:Y}(d:1<=m)(c:m<p):∃t:Y,¬ReP p (zp t w m):=by
 refine AV λg=>?_;have a:∀t:Y,(p:Z) ∣ (zp t w m).2:=λt=>AV λh=>g ⟨t,h⟩;obtain⟨j,rfl⟩:∃j,m=j+1:=⟨m -1,by omega⟩;obtain⟨_,l,o,n⟩:=aNK w j;have:=zN f (k:=((j+1:Y):Z)) (g7 d c) j l ((DL 0 p).map λi:Y=>(i:Z)) o (aAV (Z0 p)) (λr e=>by
  obtain⟨b,hb,rfl⟩:=AY.1 e;rw[<- n];exact a b)
 simp at this;omega
theorem aZD{p:Y}(a:dM p=EY)(c:p%2=1):∃w:Z,rQ p w= -1:=by
 have h1:=(fY a).1;obtain⟨b,b1,b2,e⟩:=aEq a (k:=p/2) (by omega) (by omega);have h2:=aF7 b p;rw[xL b c] at h2;refine⟨b,?_⟩;have d:=aQO a c b;rcases h2 with h2|h2|h2
 ·exact V (fA a (g7 (show 1<=b by omega) (by omega))) (c9.1 h2)
 ·rw[h2] at d;exact V (A9 (AH.1 d)) e
 ·exact h2
theorem aUb{p:Y}(a:dM p=EY)(b:p%2=1){w:Z}(g:rQ p w= -1)(t:Z):ReP p (oW w (t,1) (p+1)):=by
 rw[aLc];obtain⟨⟨f,h1⟩,⟨e,h2⟩⟩:=aXU a b t w;obtain⟨d,h3⟩:=aQZ a b t;obtain⟨c,h⟩:=A9 (AH.1 (aQO a b w));rw[g] at h;show(p:Z) ∣ (zp t w p).1*1+(zp t w p).2*t;refine⟨f+d+(e+c)*t,?_⟩;have j:(zp t w p).1=t+p*d+p*f:=by omega
 have i:(zp t w p).2= -1+p*c+p*e:=by omega
 rw[j,i]
 grind
theorem bDv{p:Y}(_hp:dM p=EY)(a:p%2=1){w:Z}(b:rQ p w= -1)(t:Z):UnP p w (t,1):=λh=>by
 have h:(p:Z) ∣ t*t -w*(1*1):=h;rw[C5,C5] at h;have e:rQ p (t*t)=rQ p w:=aH6 (AH.2 (A0 h));rw[aBo a,b] at e;have h2:=aF7 t p;rw[xL t a] at h2;rcases h2 with h2|h2|h2<;>rw[h2] at e<;>exact V e (by decide)
theorem aJf{q:Y}(a:Pri q):∀(f n:Y),n<=f->1<=n->q ∣ n->∃e c,n=q^(e+1)*c/\¬q ∣ c
 | 0,n,h,d,_=>by omega
 | f+1,n,h,d,g=>by
  obtain⟨m,rfl⟩:=g;have k:=a.lt;have m0:m≠0:=λe=>by rw[e,Nat.mul_zero] at d;omega
  by_cases b:q ∣ m
  ·have hlt:m<q*m:=by
    have:=Nat.mul_le_mul_right m k;omega
   obtain⟨e,c,j,i⟩:=aJf a f m (by omega) (by omega) b;refine⟨e+1,c,?_,i⟩;rw[DC (n:=e+1),CB,<- j]
  ·exact⟨0,m,by rw[BD,EH],b⟩
theorem aRA{p:Y}(f:dM p=EY)(B:p%2=1){w:Z}(v:rQ p w= -1){q:Y}(m:Pri q)(F:q ∣ p+1) :
  ∃y,UnP p w y/\ReP p (oW w y (p+1))/\¬ReP p (oW w y ((p+1)/q))/\∀r,Pri r->r ∣ p+1->r≠q->ReP p (oW w y ((p+1)/r)):=by
 have h1:=(fY f).1;have E:=m.lt;obtain⟨e,c,i,D⟩:=aJf m (p+1) (p+1) (Z0 _) (by omega) F;have l:0<q^e:=EG (by omega);have J:0<c:=Nat.pos_of_ne_zero λz=>D (z ▸ Nat.dvd_zero q);have j:(p+1)/q=q^e*c:=by
  rw[i,DC,CB,A8 _ (by omega)]
 have s:(p+1)/q<p:=by
  have:(p+1)/q<=(p+1)/2:=Nat.div_le_div_left E (by omega);omega
 have u:1<=(p+1)/q:=by rw[j];exact DN l J
 obtain⟨t,A⟩:=aXV f w u s;rw[<- aLc] at A;have x:=bDv f B v t;have a:=aUb f B v t;refine⟨oW w (t,1) c,aAx f x c,by rw[<- oX,A2,oX];exact s6 a c,λh=>?_,λr g b o=>?_⟩
 ·rw[<- oX] at h;have C:=bAQ f x _ _ a h;have I:EX (p+1) (c*((p+1)/q))=(p+1)/q:=by
   rw[j,i];have L:q^(e+1)*c=(q^e*c)*q:=by rw[BO,CB,A2 q c,CB]
   have K:c*(q^e*c)=(q^e*c)*c:=A2 _ _;rw[L,K,Nat.gcd_mul_left,m.cop D,EJ]
  rw[I] at C;exact A C
 ·have n:r ∣ c:=by
   rw[i] at b;rcases g.mul b with z|z
   ·rcases m.dv r (by
     clear b;have:∀k,r ∣ q^k->r ∣ q:=λk=>by
      induction k with
      | zero=>intro z;rw[DI] at z;have:=BR (by omega) z;have:=g.lt;omega
      | succ k ih =>
       intro z;rw[BO] at z;rcases g.mul z with y|y
       ·exact ih y
       ·exact y
     exact this _ z) with y|y
    ·have:=g.lt;omega
    ·exact V y o
   ·exact z
  obtain⟨d,rfl⟩:=n;have r2:=g.lt;have H:(p+1)/r=q^(e+1)*d:=by rw[i,Nat.mul_left_comm,A8 _ (by omega)]
  have G:r*d*((p+1)/r)=(p+1)*d:=by rw[H,i];grind
  rw[<- oX,G,oX];exact s6 a d
theorem aEl{p:Y}(c:dM p=EY)(o:p%2=1){w:Z}(n:rQ p w= -1):∀l:O Y,l.Nodup->(∀q∈l,Pri q/\q ∣ p+1)->
  ∃g,UnP p w g/\ReP p (oW w g (p+1))/\(∀q∈l,¬ReP p (oW w g ((p+1)/q)))/\∀r,Pri r->r ∣ p+1->r ∉ l->ReP p (oW w g ((p+1)/r))
 | [],_,_=>⟨(1,0),aS0 c,s6 ⟨0,by show(0:Z)=p*0;omega⟩ _,λq f=>by simp at f,λr _ _ _=>s6 ⟨0,by show(0:Z)=p*0;omega⟩ _⟩
 | q::l,i,h=>by
  rw[C3] at i;obtain⟨g,u,A,z,t⟩:=aEl c o n l i.2 λr hr=>h r (AF _ hr);obtain⟨f,s⟩:=h q (AD ..);obtain⟨y,m,x,v,k⟩:=aRA c o n f s;refine⟨dB w g y,aSZ c u m,by rw[aCt];exact aKL A x,λr hr a=>?_,λr hr b d=>?_⟩
  ·rw[aCt] at a;rcases A5.1 hr with rfl|hr
   ·exact v (aAn c (t r f s i.1) (aAx c u _) a)
   ·obtain⟨j,b⟩:=h r (AF _ hr);rw[zZ] at a;exact z r hr (aAn c (k r j b λe=>i.1 (e ▸ hr)) (aAx c m _) a)
  ·rw[A5,not_or] at d;rw[aCt];exact aKL (t r hr b d.2) (k r hr b d.1)
def vY(n:Y)(idx base:O Z):Stp:=⟨2,EZ,aA n,idx,base,0,0,0,0,0,EZ,0⟩
noncomputable def gA(n:Y)(q:Z):Y:=AT (⟨srF (λb=>decide (fK (b:Z) (((n:Z) -1)/q).natAbs n≠1)) 1152921504606846976 2,rfl⟩:∃r,r=srF (λb=>decide (fK (b:Z) (((n:Z) -1)/q).natAbs n≠1)) 1152921504606846976 2)
theorem aUo(n:Y)(q:Z):gA n q=srF (λb=>decide (fK (b:Z) (((n:Z) -1)/q).natAbs n≠1)) 1152921504606846976 2:=AP (⟨srF (λb=>decide (fK (b:Z) (((n:Z) -1)/q).natAbs n≠1)) 1152921504606846976 2,rfl⟩:∃r,r=srF (λb=>decide (fK (b:Z) (((n:Z) -1)/q).natAbs n≠1)) 1152921504606846976 2)
def oY(pr:O Stp->Z->O Stp):O Stp->O Z->O Stp
 | L, []=>L
 | L,q::r=>oY pr (pr L q) r
def ixG(pr:O Stp->Z->O Stp):O Stp->O Z->O Z
 | _, []=> []
 | L,q::r=>(((pr L q).length:Z) -1)::ixG pr (pr L q) r
noncomputable def aGd(pr:O Stp->Z->O Stp)(L:O Stp)(n:Y):O Stp :=
 oY pr L (aL (n -1))++ [vY n (ixG pr L (aL (n -1))) ((aL (n -1)).map λq=>(gA n q:Z))]
noncomputable def eE:Y->O Stp->Z->O Stp
 | 0,L,z=>L++ [bY z]
 | f+1,L,z=>if z<65536 then L++ [bY z] else aGd (eE f) L z.toNat
theorem aEj(pr:O Stp->Z->O Stp):∀(l:O Z) (L:O Stp) (x:Z),oY pr L (l++ [x])=pr (oY pr L l) x
 | [],_,_=>rfl
 | q::r,L,x=>by show oY pr (pr L q) (r++ [x])=pr (oY pr (pr L q) r) x;exact aEj pr r _ x
theorem aIA(pr:O Stp->Z->O Stp):∀(l:O Z) (L:O Stp) (x:Z),ixG pr L (l++ [x])=ixG pr L l++ [((pr (oY pr L l) x).length:Z) -1]
 | [],_,_=>rfl
 | q::r,L,x=>by show _::ixG pr (pr L q) (r++ [x])=_::(ixG pr (pr L q) r++_);rw[aIA pr r];rfl
theorem aMt(pr:O Stp->Z->O Stp):∀(l:O Z) (L:O Stp),(ixG pr L l).length=l.length
 | [],_=>rfl
 | q::r,L=>by show(ixG pr (pr L q) r).length+1=r.length+1;rw[aMt pr r]
structure ProvOk (L R:List Stp) (w:Nat) (z:Int):Prop where
 pre:∃T,R=L++T
 lo:L.length+1<=R.length
 hi:R.length+1<=L.length+2*w
 ok:(∀s∈L,okS s)->∀s∈R,okS s
 fine:(∀s∈L,s.can=true/\2<=s.n)->∀s∈R,s.can=true/\2<=s.n
 last:(R.getD (R.length -1) aE).n=z
 mag:(R.getD (R.length -1) aE).neg=false/\(R.getD (R.length -1) aE).mag=aA z.toNat
structure AddOk (L R:List Stp) (w:Nat) (q I:List Int):Prop where
 pre:∃T,R=L++T
 hi:R.length+q.length<=L.length+2*w
 ok:(∀s∈L,okS s)->∀s∈R,okS s
 fine:(∀s∈L,s.can=true/\2<=s.n)->∀s∈R,s.can=true/\2<=s.n
 len:I.length=q.length
 at_:∀k,k<q.length->0<=I.getD k 0/\I.getD k 0<R.length/\(R.getD (I.getD k 0).toNat aE).n=q.getD k 0/\(R.getD (I.getD k 0).toNat aE).neg=false/\(R.getD (I.getD k 0).toNat aE).mag=aA (q.getD k 0).toNat
theorem tP(pr:O Stp->Z->O Stp):∀(q:O Z) (L:O Stp),(∀x∈q,∀L,ProvOk L (pr L x) (AN x.toNat) x)->AddOk L (oY pr L q) (wtL q) q (ixG pr L q)
 | [],L,_=>⟨⟨[],by simp[oY]⟩,by simp[oY,wtL],λh=>h,λh=>h,rfl,λk a=>by simp at a⟩
 | x::r,L,h=>by
  have P:=h x (AD ..) L;have A:=tP pr r (pr L x) λy d=>h y (AF _ d);show AddOk L (oY pr (pr L x) r) (AN x.toNat+wtL r) (x::r) ((((pr L x).length:Z) -1)::ixG pr (pr L x) r);obtain⟨T,e⟩:=P.pre;obtain⟨U,b⟩:=A.pre;have hlen:(pr L x).length<=(oY pr (pr L x) r).length:=by rw[b,BB];omega
  refine⟨⟨T++U,by rw[b,e,BI]⟩,?_,λc=>A.ok (P.ok c),λc=>A.fine (P.fine c),by rw[BN,BN,A.len],λk a=>?_⟩
  ·have:=A.hi;have:=P.hi;rw[BN];omega
  ·cases k with
   | zero =>
    have hl:=P.lo;show 0<=((pr L x).length:Z) -1/\((pr L x).length:Z) -1<((oY pr (pr L x) r).length:Z)/\_;have g:(((pr L x).length:Z) -1).toNat=(pr L x).length -1:=by omega
    have f:(oY pr (pr L x) r).getD ((pr L x).length -1) aE=(pr L x).getD ((pr L x).length -1) aE:=by
     rw[b,AC,AC,BQ (by omega)]
    refine⟨by omega,by omega,?_⟩;show(v _ ((((pr L x).length:Z) -1)).toNat aE).n=x/\(v _ ((((pr L x).length:Z) -1)).toNat aE).neg=EZ/\(v _ ((((pr L x).length:Z) -1)).toNat aE).mag=aA x.toNat;rw[g,f];exact⟨P.last,P.mag.1,P.mag.2⟩
   | succ k=>exact A.at_ k (by simpa using a)
theorem aSP{z:Z}(h:0<=z):(bY z).n=z:=by
 show(if C (z<0)=EY then -(wv (aA z.natAbs)) else wv (aA z.natAbs))=z;rw[Y1 (show ¬z<0 by omega),r (by decide),hH];omega
theorem aE0(n:Y)(i b:O Z):(vY n i b).n=n:=by
 show(if EZ=EY then -(wv (aA n)) else wv (aA n))=(n:Z);rw[r (by decide),hH]
theorem mY(L:O Stp)(s:Stp):(L++ [s]).getD ((L++ [s]).length -1) aE=s:=by
 rw[BB,List.length_singleton,BE];exact wF L s
theorem aSQ(L:O Stp){z:Z}(h:2<=z)(b:z<65536):ProvOk L (L++ [bY z]) (AN z.toNat) z:=by
 have hl:1<=AN z.toNat:=(C0 (by omega)).2 (by omega);refine⟨⟨_,rfl⟩,by simp,by simp;omega,λa s hs=>?_,λa s hs=>?_,by rw[mY];exact aSP (by omega),by rw[mY];exact⟨Y1 (by omega),by show aA z.natAbs=_;congr 1;omega⟩⟩
 ·rcases AS.1 hs with hs|hs
  ·exact a s hs
  ·rw[AO.1 hs];exact aVt (by omega) b
 ·rcases AS.1 hs with hs|hs
  ·exact a s hs
  ·rw[AO.1 hs];exact aHt h
theorem p5{n:Y}(hn:3<=n)(ho:n%2=1):∀x∈aL (n -1),Pri x.toNat/\2<=x/\2*x<=max 4 (n -1:Y):=λx a=>by
 rw[fN] at a;obtain⟨p,rfl,c,b,h3⟩:=(fZ (show 1<=n -1 by omega)).mem x a;rw[Z8];refine⟨c,by omega,?_⟩;by_cases d:p=2
 ·omega
 ·have g:EN p 2:=by
   rw[EN,Nat.gcd_comm];rcases C9 p with q|q
   ·exact V ((c.dv 2 (AL q)).resolve_left (by omega)).symm d
   ·rw[EL,q];decide
  have f:p ∣ (n -1)/2:=by
   have e:n -1=2*((n -1)/2):=by omega
   rw[e] at b;exact g.dvd_of_dvd_mul_left b
  have:=BR (by omega) f;omega
theorem aME{pr:O Stp->Z->O Stp}(L:O Stp){n:Y}(hn5:5<=n)(hn2:n<1099511627776)(m:n%2=1)(h:∀x∈aL (n -1),∀L,ProvOk L (pr L x) (AN x.toNat) x):ProvOk L (aGd pr L n) (AN n) n:=by
 have o:3<=n:=by omega
 have A:=tP pr (aL (n -1)) L h;have g:=p5 o m;have k:=m5 (show 1<=n -1 by omega);rw[<- fN] at k;have hlen:=qP (aL (n -1)) λx j=>(g x j).2.1;have hlog:AN (n -1)<=AN n:=(C0 (by omega)).2 (CP (y8 (by omega)) (by omega));have h40:AN n<40:=(B9 (by omega)).2 hn2;have f:1<=(aL (n -1)).length:=by
  rw[fN];have:=(fZ (show 1<=n -1 by omega)).all 2 ⟨by omega,λd a=>by have:=BR (by omega) a;have:d≠0:=(λe=>by rw[e] at a;simp at a);omega⟩ (AL (by omega));exact DF this
 obtain⟨T,i⟩:=A.pre;have hsz:(oY pr L (aL (n -1))).length=L.length+T.length:=by rw[i,BB]
 have hhi:=A.hi;have hcase:2<=(aL (n -1)).length\/wtL (aL (n -1))+1<=AN (n -1):=by
  rcases BX (aL (n -1)).length 2 with q|q
  ·right
   match l:aL (n -1),q,f with
   | [x],_,_ =>
    have h1:=g x (by rw[l];exact AD ..);show AN x.toNat+0+1<=_;refine(C0 (by omega)).2 ?_;have:=y8 (n:=x.toNat) (by omega);rw[BP,BO];omega
  ·exact .inl q
 unfold aGd;refine⟨⟨T++ [_],by rw[i,BI]⟩,by simp;omega,by simp;omega,λc s hs=>?_,λc s hs=>?_,by rw[mY];exact aE0 n _ _,by rw[mY];exact⟨rfl,rfl⟩⟩
 ·rcases AS.1 hs with hs|hs
  ·exact A.ok c s hs
  ·rw[AO.1 hs];refine⟨aR _,?_,?_,?_⟩
   ·have:=bQ (n:=n) (b:=64) (by omega);show(aA n).length<=6;omega
   ·show(ixG pr L (aL (n -1))).length<=90;rw[aMt];omega
   ·show(List.map _ (aL (n -1))).length<=1000;rw[CF];omega
 ·rcases AS.1 hs with hs|hs
  ·exact A.fine c s hs
  ·rw[AO.1 hs,aE0];exact⟨nB (n:Z),by omega⟩
structure Fits (f:Nat) (z:Int):Prop where
 pr:Pri z.toNat
 two:2<=z
 lt:z<65536*2^f
theorem uB{f n:Y}(c:3<=n)(b:n%2=1)(hf:n<65536*2^(f+1)):∀x∈aL (n -1),Fits f x:=λx a=>by
 obtain⟨g,d,h3⟩:=p5 c b x a;refine⟨g,d,?_⟩;have e:(65536*2^(f+1):Y)=2*(65536*2^f):=by rw[BO];omega
 have h:(65536*2^f:Z)=((65536*2^f:Y):Z):=by rw[AI,BT];rfl
 have e3:1<=2^f:=C6 f;rw[h];omega
theorem jD{n:Y}(h:Pri n)(h3:3<=n):n%2=1:=by
 rcases C9 n with q|q
 ·rcases h.dv 2 (AL q) with e|e<;>omega
 ·exact q
theorem nY:∀(f:Y) (L:O Stp) (z:Z),f<=20->Fits f z->ProvOk L (eE f L z) (AN z.toNat) z
 | 0,L,z,_,h=>aSQ L h.two (by have:=h.lt;omega)
 | f+1,L,z,d,h=>by
  unfold eE;split
  ·rename_i a;exact aSQ L h.two a
  ·rename_i a;have e:((z.toNat:Y):Z)=z:=by have:=h.two;omega
   have g:=h.lt;have i:(65536*2^(f+1):Z)=((65536*2^(f+1):Y):Z):=by rw[AI,BT];rfl
   rw[i] at g;have h3:65536*2^(f+1)<=65536*2^20:=A6 _ (BL (by omega) d);have b:=jD h.pr (by omega);have:=aME L (pr:=eE f) (n:=z.toNat) (by omega) (by omega) b λx c L=>nY f L x (by omega) (uB (by omega) b (by omega) x c);rw[e] at this;exact this
noncomputable def iK(f:Y)(L:O Stp)(z:Z):O Stp:=AT (⟨eE f L z,rfl⟩:∃r,r=eE f L z)
theorem p7(f:Y)(L:O Stp)(z:Z):iK f L z=eE f L z:=AP (⟨eE f L z,rfl⟩:∃r,r=eE f L z)
noncomputable def iR(f:Y)(L:O Stp)(q:O Z):O Stp:=AT (⟨oY (eE f) L q,rfl⟩:∃r,r=oY (eE f) L q)
theorem mJ(f:Y)(L:O Stp)(q:O Z):iR f L q=oY (eE f) L q:=AP (⟨oY (eE f) L q,rfl⟩:∃r,r=oY (eE f) L q)
noncomputable def ixH(f:Y)(L:O Stp)(q:O Z):O Z:=AT (⟨ixG (eE f) L q,rfl⟩:∃r,r=ixG (eE f) L q)
theorem vP(f:Y)(L:O Stp)(q:O Z):ixH f L q=ixG (eE f) L q:=AP (⟨ixG (eE f) L q,rfl⟩:∃r,r=ixG (eE f) L q)
noncomputable def l6(f:Y)(L:O Stp)(n:Y):O Stp:=AT (⟨aGd (eE f) L n,rfl⟩:∃r,r=aGd (eE f) L n)
theorem aGe(f:Y)(L:O Stp)(n:Y):l6 f L n=aGd (eE f) L n:=AP (⟨aGd (eE f) L n,rfl⟩:∃r,r=aGd (eE f) L n)
structure provP (f m:Nat) (g:Nat->MV) (z:Int):Prop where
 fits:Fits f z
 f20:f<=20
 ok:okL m g
 len:m+2*AN z.toNat<=900000
noncomputable def lG(f:Y):O MV->Y->(Y->MV)->o (OProp×Y×(Y->MV)×MV)
 | [.int .u64 z],m,g=>E0 (E0 (provP f m g z),(iK f (aD m g) z).length,aG (iK f (aD m g) z) 200,.int .i64 (((iK f (aD m g) z).length:Z) -1))
 | _,_,_=>E1
structure addP (f m:Nat) (g:Nat->MV) (z:Int):Prop where
 z1:1<=z
 z2:z<4611686018427387904
 fits:∀x∈aL z.toNat,Fits f x
 f20:f<=20
 ok:okL m g
 len:m+2*wtL (aL z.toNat)<=900000
noncomputable def tB(f:Y):O MV->Y->(Y->MV)->o (OProp×Y×(Y->MV)×MV)
 | [.int .u64 z],m,g=>E0 (E0 (addP f m g z),(iR f (aD m g) (aL z.toNat)).length,aG (iR f (aD m g) (aL z.toNat)) 200,.sl 1 (aL z.toNat).length (bP (ixH f (aD m g) (aL z.toNat))))
 | _,_,_=>E1
noncomputable def aGf(f:Y)(h:POk AE 25 18 (lG f)):PCtr AE:=⟨25,18,lG f,λargs w=>Tryz.call25 args w,h⟩
noncomputable def aMG(f:Y)(h:POk AE 48 18 (tB f)):PCtr AE:=⟨48,18,tB f,λargs w=>Tryz.call48 args w,h⟩
def aXW(q:O Z)(R:Y->O Stp)(X:Y->O Z):Y->MS->o LoopAnn
 | 4,_=>E0 (.inv AdS (AdI q) (λs=>⟨27, [(0,.bp 0 0),(5,.sl 1 q.length (λj=> .int .u64 (q.getD j 0))),(6,.bs 2 0 s.k),(7,.int .i64 s.k)],
   [⟨EZ,.one (.st [.bs 1 0 (R s.k).length])⟩,⟨EZ,.rows 18 (R s.k).length (aG (R s.k) 200)⟩,⟨EZ,.arr .i64 (X s.k)⟩],1⟩) (λs=>q.length -s.k))
 | _,_=>E1
theorem bA6(f:Y)(h:POk AE 25 18 (lG f))(L:O Stp)(z:Z)(R:Y->O Stp)(X:Y->O Z)(a:_)(b:a=(aL (U z))):((1<=z/\z<4611686018427387904)/\(∃i,AdI a i/\(0=0/\(1=1/\t a =t a /\LeFun (t a) (λj=>MV.int E2 (v a j 0)) λj=>MV.int E2 (v a j 0))/\(0=0/\0=AdS.k i)/\0=(AdS.k i:Z)/\u)/\((0=0/\t L=t (R (AdS.k i)))/\u)/\(t L=t (R (AdS.k i))/\LeFun (t L) (aG L 200) (aG (R (AdS.k i)) 200))/\ []=X (AdS.k i)/\u)/\∀(i:AdS),AdI a i->bif C ((AdS.k i:Z)<(t a :Z)) then (0<=(AdS.k i:Z)/\(AdS.k i:Z)<(t a :Z))/\(t (R (AdS.k i))<=t (R (AdS.k i))/\provP f (t (R (AdS.k i))) (aG (R (AdS.k i)) 200) (v a (U (AdS.k i:Z)) 0))/\(0+1<=1/\AdS.k i<=t (X (AdS.k i))/\(AdS.k i+AM (News.ints E3 (S 1 (drop 0 [(t (iK f (aD (t (R (AdS.k i))) (aG (R (AdS.k i)) 200)) (v a (U (AdS.k i:Z)) 0)):Z) -1]))))*8<=140737488355328)/\∃j,AdI a j/\((0=0/\(1=1/\t a =t a /\LeFun (t a) (λj=>MV.int E2 (v a j 0)) λj=>MV.int E2 (v a j 0))/\(0=0/\AdS.k i+AM (News.ints E3 (S 1 (drop 0 [(t (iK f (aD (t (R (AdS.k i))) (aG (R (AdS.k i)) 200)) (v a (U (AdS.k i:Z)) 0)):Z) -1])))=AdS.k j)/\Q E3 ((AdS.k i:Z)+1)=(AdS.k j:Z)/\u)/\((0=0/\t (iK f (aD (t (R (AdS.k i))) (aG (R (AdS.k i)) 200)) (v a (U (AdS.k i:Z)) 0))=t (R (AdS.k j)))/\u)/\(t (iK f (aD (t (R (AdS.k i))) (aG (R (AdS.k i)) 200)) (v a (U (AdS.k i:Z)) 0))=t (R (AdS.k j))/\LeFun (t (iK f (aD (t (R (AdS.k i))) (aG (R (AdS.k i)) 200)) (v a (U (AdS.k i:Z)) 0))) (aG (iK f (aD (t (R (AdS.k i))) (aG (R (AdS.k i)) 200)) (v a (U (AdS.k i:Z)) 0)) 200) (aG (R (AdS.k j)) 200))/\S (AdS.k i) (X (AdS.k i))++S 1 (drop 0 [(t (iK f (aD (t (R (AdS.k i))) (aG (R (AdS.k i)) 200)) (v a (U (AdS.k i:Z)) 0)):Z) -1])=X (AdS.k j)/\u)/\t a -AdS.k j<t a -AdS.k i else 0+AdS.k i<=t (X (AdS.k i))/\((0=0/\t (R (AdS.k i))=t (R (t a)))/\u)/\(t (R (t a))<=t (R (AdS.k i))/\LeFun (t (R (t a))) (aG (R (AdS.k i)) 200) (aG (R (t a)) 200))/\1=1/\AdS.k i=t a /\LeFun (AdS.k i) (λj=>MV.int E3 (v (X (AdS.k i)) (0+j) 0)) (bP (X (t a))))=mD (aIh [aBk] [.pt (aGf f h)] fzA (aXW (aL z.toNat) R X)) EQ 18 [.int .u64 z] L.length (aG L 200) (R (aL z.toNat).length).length (aG (R (aL z.toNat).length) 200) (.sl 1 (aL z.toNat).length (bP (X (aL z.toNat).length))):=by subst b;kernel_rfl
theorem aT8:∀(q:O Z) (k:Y),k<q.length->wtL (q.take k)+AN (q.getD k 0).toNat<=wtL q
 | [],k,h=>by simp at h
 | x::r,0,_=>by show 0+AN x.toNat<=AN x.toNat+wtL r;omega
 | x::r,k+1,h=>by
  show AN x.toNat+wtL (r.take k)+AN (r.getD k 0).toNat<=AN x.toNat+wtL r;have:=aT8 r k (by simpa using h);omega
theorem aJR{f:Y}(a:f<=20){q:O Z}(c:∀x∈q,Fits f x)(L:O Stp)(k:Y):AddOk L (iR f L (q.take k)) (wtL (q.take k)) (q.take k) (ixH f L (q.take k)):=by
 rw[mJ,vP];exact tP _ _ L λx b L=>nY f L x a (c x (List.mem_of_mem_take b))
theorem aYH(f:Y)(h:POk AE 25 18 (lG f))(L:O Stp)(z:Z)(K:1<=z)(J:z<4611686018427387904)(i:f<=20)(H:okT L)(l:∀x∈aL z.toNat,Fits f x)(hl:L.length+2*wtL (aL z.toNat)<=900000) :
  ∃E:Env AE,mD E EQ 18 [.int .u64 z] L.length (aG L 200) (iR f L (aL z.toNat)).length (aG (iR f L (aL z.toNat)) 200) (.sl 1 (aL z.toNat).length (bP (ixH f L (aL z.toNat)))):=by
 have D:=aJR i l L;have d:iR f L ((aL z.toNat).take 0)=L:=by rw[mJ];rfl
 have u:ixH f L ((aL z.toNat).take 0)= []:=by rw[vP];rfl
 have g:∀k,k<(aL z.toNat).length->iR f L ((aL z.toNat).take (k+1))=iK f (iR f L ((aL z.toNat).take k)) ((aL z.toNat).getD k 0):=λk b=>by
  rw[mJ,mJ,p7,BU b,aEj];simp[AC,b]
 have t:∀k,k<(aL z.toNat).length->ixH f L ((aL z.toNat).take (k+1))=ixH f L ((aL z.toNat).take k)++ [((iR f L ((aL z.toNat).take (k+1))).length:Z) -1]:=λk b=>by
  rw[g k b,mJ,vP,vP,p7,BU b,aIA];simp[AC,b]
 have eR:iR f L (aL z.toNat)=iR f L ((aL z.toNat).take (aL z.toNat).length):=by rw[CW]
 have eX:ixH f L (aL z.toNat)=ixH f L ((aL z.toNat).take (aL z.toNat).length):=by rw[CW]
 rw[eR,eX];generalize G:(λk=>iR f L ((aL z.toNat).take k))=R;generalize F:(λk=>ixH f L ((aL z.toNat).take k))=X;have cR:∀k,iR f L ((aL z.toNat).take k)=R k:=λk=>congrFun G k;have cX:∀k,ixH f L ((aL z.toNat).take k)=X k:=λk=>congrFun F k;simp only[cR,cX] at *;refine⟨aIh [aBk] [.pt (aGf f h)] fzA (aXW (aL z.toNat) R X),?_⟩;rw[<- bA6 f h L z R X _ rfl];generalize aL z.toNat=q at *;refine⟨⟨K,J⟩,⟨⟨0⟩,⟨Z9 _⟩,⟨rfl,⟨rfl,rfl,AK⟩,⟨rfl,rfl⟩,rfl,⟨⟩⟩,⟨⟨rfl,by rw[d]⟩,⟨⟩⟩,⟨by rw[d],by rw[d];exact AK⟩,u.symm,⟨⟩⟩,λs I=>?_⟩;obtain⟨k⟩:=s;obtain⟨b⟩:=I;dsimp only at b⊢;rw[Z8];have A:=D k;have e:(X k).length=k:=by rw[A.len,DZ];omega
 have C:S k (X k)=X k:=DE (by rw[e];exact Z0 k);have B:∀y:Z,S 1 (drop 0 [y])= [y]:=λ_=>rfl;have v:∀y:Z,AM (News.ints E3 [y])=1:=λ_=>rfl;rw[C,B,v,e,jF];refine aH Z4 (λq1=>?_) (λq1=>?_)
 ·have a:k<q.length:=by omega
  have M:Q E3 ((k:Z)+1)=((k+1:Y):Z):=by
   have n:=qP q λx m=>(l x m).two;rw[aT (by omega) (by omega)];omega
  have hw:=aT8 q k a;have hhi:=A.hi;have o:okT (R k):=⟨by omega,A.ok H.ok⟩;rw[<- g k a];have n:=qP q λx m=>(l x m).two;refine⟨by omega,⟨Z0 _,⟨l _ (eU a),i,qQ o,by omega⟩⟩,⟨by omega,Z0 _,by omega⟩,⟨k+1⟩,⟨a⟩,⟨⟨rfl,⟨rfl,rfl,AK⟩,⟨rfl,rfl⟩,M,⟨⟩⟩,⟨⟨rfl,rfl⟩,⟨⟩⟩,⟨rfl,AK⟩,(t k a).symm,⟨⟩⟩,by show q.length -(k+1)<q.length -k;omega⟩
 ·have p:k=q.length:=by omega
  subst p;refine⟨by omega,⟨⟨rfl,rfl⟩,⟨⟩⟩,⟨Z0 _,AK⟩,rfl,rfl,⟨λj _ c w N r=>?_⟩⟩;have r:RepC c w (.int .i64 ((X q.length).getD (0+j) 0)) N:=r;rw[BD] at r;exact r
theorem aFE(f:Y)(h:POk AE 25 18 (lG f)):POk AE 48 18 (tB f):=mX bU Tryz.func48 (tB f) λms n g p n' g' m a c=>by
 unfold tB at a;split at a
 ·rename_i z;simp only[Z1,Z2] at a;obtain⟨rfl,rfl,rfl,rfl⟩:=a;obtain⟨k,j,i,e,b,h6⟩:addP f n g z:=c;have d:=dD n g;have:=aYH f h (aD n g) z k j e b.T i (by omega);rw[d] at this;exact⟨aG (aD n g) 200,iW b.stp,this⟩
 ·simp at a
structure MiS where
 k:Nat
structure MiI (q:List Int) (s:MiS):Prop where
 hk:s.k<=q.length
structure MjS where
 b:Nat
structure MjI (B:Nat) (s:MjS):Prop where
 h2:2<=s.b
 hB:s.b<=B
def miT(n:Y)(k:Y):O (Y×MV):= [(0,.bp 0 0),(1,.int .u64 n),(5,.bp 2 0),(6,.bp 3 0),(7,.int .i64 k)]
def miB(n:Y)(M:O Stp)(idx bas:O Z)(k:Y):O Box:= [⟨EZ,.one (.st [.bs 1 0 M.length])⟩,⟨EZ,.rows 18 M.length (aG M 200)⟩,
 ⟨EZ,.one (.st [.int .i64 2,.big n 64,.sl 1 idx.length (bP idx),.bs 4 0 k,.st [.big 0 0,.big 0 0,.big 0 0],.st [.big 0 0,.big 0 0,.bool EZ],.big 0 0])⟩,
 ⟨EZ,.one (.big ((n:Z) -1) 64)⟩,⟨EZ,.rows 2 k (iL (bas.take k) 200)⟩]
def aX1(n:Y)(M:O Stp)(q idx bas:O Z):Y->MS->o LoopAnn
 | 4,_=>E0 (.inv MiS (MiI q) (λs=>⟨74,miT n s.k,miB n M idx bas s.k,1⟩) (λs=>q.length -s.k))
 | 8,e=>(match bI 7 e.tm with
  | .int _ k=>E0 (.inv MjS (MjI (bas.getD k.toNat 0).toNat) (λs=>⟨74,miT n k.toNat++ [(8,.bp 5 0),(9,.bp 6 0)],miB n M idx bas k.toNat++ [⟨EZ,.one (.big (q.getD k.toNat 0) 200)⟩,⟨EZ,.one (.big s.b 64)⟩],1⟩) (λs=>(bas.getD k.toNat 0).toNat -s.b))
  | _=>E1)
 | _,_=>E1
def fzM:Y->O Y
 | 11=> [4,1000000]
 | 999994=> [0]
 | _=> []
theorem bBe(f:Y)(h:POk AE 48 18 (tB f))(L:O Stp)(n:Y)(q idx bas:O Z)(M R:O Stp)(a:_)(e:a=(n:Z))(c:_)(d:c=(iR f (aD (t L) (aG L 200)) (aL (U (Q E2 ( a -1)))))):((0<= a /\ a <18446744073709551616)/\(t L<=t L/\addP f (t L) (aG L 200) (Q E2 (a -1)))/\(0<=Q E2 (a -1)/\Q E2 (a -1)<18446744073709551616)/\(∃i,MiI q i/\(0=0/\ a = a /\0=0/\0=0/\0=(MiS.k i:Z)/\u)/\((0=0/\t c =t M)/\u)/\(t c =t M/\LeFun (t c) (aG c 200) (aG M 200))/\((2:Z)=2/\aB a a 64 64/\(1=1/\t (aL (U (Q E2 (a -1))))=t idx/\LeFun (t (aL (U (Q E2 (a -1))))) (bP (ixH f (aD (t L) (aG L 200)) (aL (U (Q E2 (a -1)))))) (bP idx))/\(A1 E1 0 0=A1 E1 0 0/\0=0/\MiS.k i=0)/\(aB 0 0 0 0/\aB 0 0 0 0/\aB 0 0 0 0/\u)/\(aB 0 0 0 0/\aB 0 0 0 0/\EZ=EZ/\u)/\aB 0 0 0 0/\u)/\aB (Q E2 (a -1)) (a -1) 64 64/\u)/\∀(i:MiS),MiI q i->bif C ((MiS.k i:Z)<(t idx:Z)) then (0<=(MiS.k i:Z)/\(MiS.k i:Z)<(t idx:Z))/\(0<=v idx (U (MiS.k i:Z)) 0/\v idx (U (MiS.k i:Z)) 0<(t M:Z))/\U (v idx (U (MiS.k i:Z)) 0)<t M/\eW 2/\(∃i_1,MjI (U (v bas (U (MiS.k i:Z)) 0)) i_1/\(0=0/\ a = a /\0=0/\0=0/\(MiS.k i:Z)=(U (MiS.k i:Z):Z)/\0=0/\0=0/\u)/\((0=0/\t M=t M)/\u)/\(t M=t M/\LeFun (t M) (aG M 200) (aG M 200))/\((2:Z)=2/\aB a a 64 64/\(1=1/\t idx=t idx/\LeFun (t idx) (bP idx) (bP idx))/\(0=0/\MiS.k i=U (MiS.k i:Z))/\(aB 0 0 0 0/\aB 0 0 0 0/\aB 0 0 0 0/\u)/\(aB 0 0 0 0/\aB 0 0 0 0/\EZ=EZ/\u)/\aB 0 0 0 0/\u)/\aB (a -1) (a -1) 64 64/\(MiS.k i=U (MiS.k i:Z)/\LeFun (MiS.k i) (iL (S (MiS.k i) bas) 200) (iL (S (U (MiS.k i:Z)) bas) 200))/\(Stp.neg (v M (U (v idx (U (MiS.k i:Z)) 0)) aE)=C (v q (U (MiS.k i:Z)) 0<0)/\Stp.mag (v M (U (v idx (U (MiS.k i:Z)) 0)) aE)=aA (E4 (v q (U (MiS.k i:Z)) 0))/\E4 (v q (U (MiS.k i:Z)) 0)<2^200)/\aB 2 (MjS.b i_1:Z) 64 64/\u)/\∀(i_1:MjS),MjI (U (v bas (U (MiS.k i:Z)) 0)) i_1->(64<=900000/\200<=900000/\(v q (U (MiS.k i:Z)) 0=0->W))/\(64<=10000/\64<=10000/\64<=10000/\0< a)/\eW 1/\(64<=1000000/\64<=1000000)/\bif C (fK (MjS.b i_1:Z) (E4 ((a -1)/v q (U (MiS.k i:Z)) 0)) a =1) then eW 1/\(64<=1000000/\64<=1000000)/\∃j,MjI (U (v bas (U (MiS.k i:Z)) 0)) j/\((0=0/\ a = a /\0=0/\0=0/\(U (MiS.k i:Z):Z)=(U (MiS.k i:Z):Z)/\0=0/\0=0/\u)/\((0=0/\t M=t M)/\u)/\(t M=t M/\LeFun (t M) (aG M 200) (aG M 200))/\((2:Z)=2/\aB a a 64 64/\(1=1/\t idx=t idx/\LeFun (t idx) (bP idx) (bP idx))/\(0=0/\U (MiS.k i:Z)=U (MiS.k i:Z))/\(aB 0 0 0 0/\aB 0 0 0 0/\aB 0 0 0 0/\u)/\(aB 0 0 0 0/\aB 0 0 0 0/\EZ=EZ/\u)/\aB 0 0 0 0/\u)/\aB (a -1) (a -1) 64 64/\(U (MiS.k i:Z)=U (MiS.k i:Z)/\LeFun (U (MiS.k i:Z)) (iL (S (U (MiS.k i:Z)) bas) 200) (iL (S (U (MiS.k i:Z)) bas) 200))/\aB (v q (U (MiS.k i:Z)) 0) (v q (U (MiS.k i:Z)) 0) 200 200/\aB ((MjS.b i_1:Z)+1) (MjS.b j:Z) (max 64 64+1) 64/\u)/\U (v bas (U (MiS.k i:Z)) 0) -MjS.b j<U (v bas (U (MiS.k i:Z)) 0) -MjS.b i_1 else (U (MiS.k i:Z)<=U (MiS.k i:Z)/\(U (MiS.k i:Z)+AM (News.rows 2 1 (aV [MV.big (MjS.b i_1:Z) 64])))*32<=140737488355328)/\∃j,MiI q j/\((0=0/\ a = a /\0=0/\0=0/\Q E3 ((U (MiS.k i:Z):Z)+1)=(MiS.k j:Z)/\u)/\((0=0/\t M=t M)/\u)/\(t M=t M/\LeFun (t M) (aG M 200) (aG M 200))/\((2:Z)=2/\aB a a 64 64/\(1=1/\t idx=t idx/\LeFun (t idx) (bP idx) (bP idx))/\(0=0/\U (MiS.k i:Z)+AM (News.rows 2 1 (aV [MV.big (MjS.b i_1:Z) 64]))=MiS.k j)/\(aB 0 0 0 0/\aB 0 0 0 0/\aB 0 0 0 0/\u)/\(aB 0 0 0 0/\aB 0 0 0 0/\EZ=EZ/\u)/\aB 0 0 0 0/\u)/\aB (a -1) (a -1) 64 64/\(U (MiS.k i:Z)+1=MiS.k j/\LeFun (U (MiS.k i:Z)+1) (λq=>bif A3 q (U (MiS.k i:Z)) then iL (S (U (MiS.k i:Z)) bas) 200 q else aV [MV.big (MjS.b i_1:Z) 64] (q -U (MiS.k i:Z))) (iL (S (MiS.k j) bas) 200))/\u)/\t q -MiS.k j<t q -MiS.k i else MiS.k i<=MiS.k i/\(t M<=t M/\(t M+AM (News.rows 18 1 (aV [MV.st [MV.int E3 (2:Z),MV.big a 64,MV.sl 1 (t idx) (bP idx),MV.sl 2 (MiS.k i) (iL (S (MiS.k i) bas) 200),MV.st [MV.big 0 0,MV.big 0 0,MV.big 0 0],MV.st [MV.big 0 0,MV.big 0 0,MV.bool EZ],MV.big 0 0]])))*288<=140737488355328)/\((0=0/\t M+AM (News.rows 18 1 (aV [MV.st [MV.int E3 (2:Z),MV.big a 64,MV.sl 1 (t idx) (bP idx),MV.sl 2 (MiS.k i) (iL (S (MiS.k i) bas) 200),MV.st [MV.big 0 0,MV.big 0 0,MV.big 0 0],MV.st [MV.big 0 0,MV.big 0 0,MV.bool EZ],MV.big 0 0]]))=t R)/\u)/\(t R<=t M+1/\LeFun (t R) (λq=>bif A3 q (t M) then aG M 200 q else aV [MV.st [MV.int E3 (2:Z),MV.big a 64,MV.sl 1 (t idx) (bP idx),MV.sl 2 (MiS.k i) (iL (S (MiS.k i) bas) 200),MV.st [MV.big 0 0,MV.big 0 0,MV.big 0 0],MV.st [MV.big 0 0,MV.big 0 0,MV.bool EZ],MV.big 0 0]] (q -t M)) (aG R 200))/\Q E3 ((↑(t M+AM (News.rows 18 1 (aV [MV.st [MV.int E3 (2:Z),MV.big a 64,MV.sl 1 (t idx) (bP idx),MV.sl 2 (MiS.k i) (iL (S (MiS.k i) bas) 200),MV.st [MV.big 0 0,MV.big 0 0,MV.big 0 0],MV.st [MV.big 0 0,MV.big 0 0,MV.bool EZ],MV.big 0 0]]))):Z) -1)=(t R:Z) -1)=mD (aIh [jZ,cK,j0,tT,eI,fP] [.pt (aMG f h)] fzM (aX1 n M q idx bas)) ET 18 [.int .u64 n] L.length (aG L 200) R.length (aG R 200) (.int .i64 ((R.length:Z) -1)):=by subst e d;kernel_rfl
structure BasOk (n:Nat) (q:Int):Prop where
 lo:2<=gA n q
 hi:gA n q<=n -1
 yes:fK (gA n q:Int) (((n:Int) -1)/q).natAbs n≠1
 no:∀j,2<=j->j<gA n q->fK (j:Int) (((n:Int) -1)/q).natAbs n=1
theorem aAU{n k:Y}(h:1<n)(b:Z):fK b k n=1↔(n:Z) ∣ b^k -1:=by
 unfold fK;constructor
 ·intro e;refine A9 ?_;rw[<- AH,e,BK (by omega) (by omega)]
 ·intro e;have:=AH.2 (A0 e);rw[this,BK (by omega) (by omega)]
theorem aPQ{n:Y}(g:Pri n)(hn:3<=n)(hn2:n<1152921504606846976){q:Z}(f:Pri q.toNat)(h:q.toNat ∣ n -1):BasOk n q:=by
 have l:=f.lt;obtain⟨p,rfl⟩:∃p:Y,q=p:=⟨q.toNat,by omega⟩;rw[Z8] at f h l;have c:=g8 g;have u:(((n:Z) -1)/(p:Z)).natAbs=(n -1)/p:=by
  rw[show(n:Z) -1=((n -1:Y):Z) by omega,<- CD,BF]
 have d:=BR (by omega) h;obtain⟨b,r,b2,v⟩:=aEq c (k:=(n -1)/p) (Nat.div_pos d (by omega)) (Nat.div_lt_self (by omega) l);have i:fK (b:Z) (((n:Z) -1)/(p:Z)).natAbs n≠1:=λe=>v (by rw[u] at e;exact(aAU g.lt _).1 e);have o:=aHp (λb=>decide (fK (b:Z) (((n:Z) -1)/(p:Z)).natAbs n≠1)) 1152921504606846976 2;have a:=aCp (λb=>decide (fK (b:Z) (((n:Z) -1)/(p:Z)).natAbs n≠1)) 1152921504606846976 2;have m:=yZ (λb=>decide (fK (b:Z) (((n:Z) -1)/(p:Z)).natAbs n≠1)) 1152921504606846976 2 b r (by omega) (Y0 i);rw[<- aUo] at o a m;refine⟨o,?_,of_decide_eq_true m,λj t s=>?_⟩
 ·rcases BX b (gA n p) with w|w
  ·exact V i (of_decide_eq_false (a b r w))
  ·omega
 ·have:=of_decide_eq_false (a j t s);exact EV.1 this
theorem aOm{α:Type}(l:O Z)(f:Z->α)(d:α){k:Y}(h:k<l.length):(l.map f).getD k d=f (l.getD k 0):=by
 simp[AC,h]
structure minP (f m:Nat) (g:Nat->MV) (n:Int):Prop where
 pr:Pri n.toNat
 n5:5<=n
 n6:n<1099511627776
 lt:n.toNat<65536*2^(f+1)
 f20:f<=20
 ok:okL m g
 len:m+2*AN n.toNat<=900000
theorem aZz(f:E5)(h:POk AE 48 18 (tB f))(L:E6 Stp)(n:E5)(hp:Pri n)(n5:5<=n)(Z:n<1099511627776)(U:n<65536*2^(f+1))(C:f<=20)(hL:okT L)(hl:L.length+2*AN n<=900000) :
  ∃E:Env AE,mD E ET 18 [.int .u64 n] L.length (aG L 200) (l6 f L n).length (aG (l6 f L n) 200) (.int .i64 (((l6 f L n).length:E7) -1)):=by
 have Q:=jD hp (by omega);have c:=uB (by omega) Q U;have hw:=m5 (show 1<=n -1 by omega);have hlog:AN (n -1)<=AN n:=(C0 (by omega)).2 (CP (y8 (by omega)) (by omega));rw[<- fN] at hw;have F:∀x∈aL (n -1),BasOk n x:=λx g=>by
  have N:=(p5 (by omega) Q x g).1;rw[fN] at g;obtain⟨p,rfl,h2,h3,_⟩:=(fZ (show 1<=n -1 by omega)).mem x g;exact aPQ hp (by omega) (by omega) N (by rw[Z8];exact h3)
 have A:=tP (eE f) (aL (n -1)) L λx g L=>nY f L x C (c x g);rw[<- mJ,<- vP] at A;have B:l6 f L n=iR f L (aL (n -1))++ [vY n (ixH f L (aL (n -1))) ((aL (n -1)).map λq=>(gA n q:E7))]:=by rw[aGe,mJ,vP];rfl
 generalize hM:iR f L (aL (n -1))=M at *;generalize D:ixH f L (aL (n -1))=idx at *;generalize hR:l6 f L n=R at *;refine⟨aIh [jZ,cK,j0,tT,eI,fP] [.pt (aMG f h)] fzM (aX1 n M (aL (n -1)) idx ((aL (n -1)).map λq=>(gA n q:E7))),?_⟩;rw[<- bBe f h L n (aL (n -1)) idx ((aL (n -1)).map λq=>(gA n q:E7)) M R _ rfl _ rfl];have e2:E8 E2 ((n:E7) -1)=((n -1:E5):E7):=by rw[show(n:E7) -1=((n -1:E5):E7) by omega];exact u6 (by omega)
 rw[e2,Z8,jF,hM,D];have hhi:=A.hi;have okM:okT M:=⟨by omega,A.ok hL.ok⟩;have u:idx.length=(aL (n -1)).length:=A.len;generalize P:aL (n -1)=q at *;have v:(q.map λq=>(gA n q:E7)).length=q.length:=CF ..;have y:∀k,k<q.length->(q.map λq=>(gA n q:E7)).getD k 0=(gA n (q.getD k 0):E7):=λk S=>aOm q _ 0 S;generalize hbb:(q.map λq=>(gA n q:E7))=bas at *;have hq9:=qP q λx g=>(c x g).two;have h40:AN n<40:=(B9 (by omega)).2 Z;have H:aB 0 0 0 0/\aB 0 0 0 0/\aB 0 0 0 0/\E9:=⟨bJ,bJ,bJ,⟨⟩⟩;have G:aB 0 0 0 0/\aB 0 0 0 0/\EZ=EZ/\E9:=⟨bJ,bJ,rfl,⟨⟩⟩;refine⟨by omega,⟨Z0 _,⟨by omega,by omega,by rw[Z8,P];exact c,C,qQ hL,by rw[Z8,P];omega⟩⟩,by omega,⟨⟨0⟩,⟨Z9 _⟩,⟨rfl,rfl,rfl,rfl,rfl,⟨⟩⟩,⟨⟨rfl,rfl⟩,⟨⟩⟩,⟨rfl,AK⟩,⟨rfl,bJ,⟨rfl,u.symm,by rw[<- u];exact AK⟩,⟨rfl,rfl,rfl⟩,H,G,bJ,⟨⟩⟩,⟨by omega,.inl (Z0 _)⟩,⟨⟩⟩,λs I=>?_⟩;obtain⟨k⟩:=s;obtain⟨S⟩:=I;dsimp only at S⊢;rw[Z8];refine aH Z4 (λq1=>?_) (λq1=>?_)
 ·have a:k<q.length:=by omega
  obtain⟨i1,i2,i3,i4,i5⟩:=A.at_ k a;have g:=c _ (eU a);have K:=F _ (eU a);rw[y k a,Z8];generalize r:q.getD k 0=x at *;have hx2:=g.two;have hxs:=(p5 (by omega) Q x (by rw[P,<- r];exact eU a)).2.2;have ex:x.natAbs=x.toNat:=by omega
  have o:x.natAbs<2^200:=Nat.lt_of_lt_of_le (show x.natAbs<2^64 by omega) (BL (by omega) (by omega));have e5:E8 E3 ((k:E7)+1)=((k+1:E5):E7):=by rw[aT (by omega) (by omega)];omega
  refine⟨by omega,⟨i1,i2⟩,by omega,by omega,⟨⟨2⟩,⟨Z0 2,K.lo⟩,⟨rfl,rfl,rfl,rfl,rfl,rfl,rfl,⟨⟩⟩,⟨⟨rfl,rfl⟩,⟨⟩⟩,⟨rfl,AK⟩,⟨rfl,bJ,⟨rfl,rfl,AK⟩,⟨rfl,rfl⟩,H,G,bJ,⟨⟩⟩,bJ,⟨rfl,AK⟩,⟨by rw[i4];exact(Y1 (by omega)).symm,by rw[i5,ex],o⟩,bJ,⟨⟩⟩,λj J=>?_⟩;obtain⟨b⟩:=j;obtain⟨j1,j2⟩:=J;dsimp only at j1 j2⊢;have hBn:=K.hi;refine⟨⟨by omega,by omega,λe=>by omega⟩,by omega,by omega,by omega,aH Z4 (λO=>?_) (λO=>?_)⟩
  ·have hne:b≠gA n x:=λe=>K.yes (e ▸ O);exact⟨by omega,by omega,⟨b+1⟩,⟨by show 2<=b+1;omega,by show b+1<=gA n x;omega⟩,⟨⟨rfl,rfl,rfl,rfl,rfl,rfl,rfl,⟨⟩⟩,⟨⟨rfl,rfl⟩,⟨⟩⟩,⟨rfl,AK⟩,⟨rfl,bJ,⟨rfl,rfl,AK⟩,⟨rfl,rfl⟩,H,G,bJ,⟨⟩⟩,bJ,⟨rfl,AK⟩,bJ,⟨by show(b:E7)+1=((b+1:E5):E7);omega,.inr (by omega)⟩,⟨⟩⟩,by show gA n x -(b+1)<gA n x -b;omega⟩
  ·have Y:b=gA n x:=by
    rcases BX b (gA n x) with w|w
    ·exact FA (K.no b j1 w) O
    ·omega
   have V:LeFun (k+1) (λq=>bif A3 q k then iL (FB k bas) 200 q else aV [MV.big (b:E7) 64] (q -k)) (iL (FB (k+1) bas) 200):=by
    have W:(FB k bas).length=k:=by rw[DZ];omega
    have:=aAb (FB k bas) (m:= .big (b:E7) 64) (z:=(b:E7)) ⟨rfl,.inl (by omega)⟩;rw[W] at this;have e:FB (k+1) bas=FB k bas++ [(b:E7)]:=by
     have t:k<bas.length:=by omega
     rw[BU t];have N:=y k a;rw[r,<- Y,AC,AQ t,Option.getD_some] at N;rw[N]
    rw[e];exact this
   exact⟨⟨Z0 _,by show(k+1)*32<=_;omega⟩,⟨k+1⟩,⟨a⟩,⟨⟨rfl,rfl,rfl,rfl,e5,⟨⟩⟩,⟨⟨rfl,rfl⟩,⟨⟩⟩,⟨rfl,AK⟩,⟨rfl,bJ,⟨rfl,rfl,AK⟩,⟨rfl,rfl⟩,H,G,bJ,⟨⟩⟩,bJ,⟨rfl,V⟩,⟨⟩⟩,by show q.length -(k+1)<q.length -k;omega⟩
 ·have X:k=q.length:=by omega
  subst X;have hv:isOk (.st [.int .i64 2,.big n 64,.sl 1 idx.length (bP idx),.sl 2 q.length (iL (bas.take q.length) 200),.st [.big 0 0,.big 0 0,.big 0 0],.st [.big 0 0,.big 0 0,.bool EZ],.big 0 0]) :=
   j9 (by omega) (by omega) (by omega) (by omega) (by omega) (by omega) (aIx idx) (pP λi _=>j8 _ (Z0 _) i) (by rw[BF];exact EC Z (by decide)) (by
    show(gY idx.length (bP idx)).length<=90;rw[gH];omega) (by
    show(aI q.length (iL (bas.take q.length) 200)).length<=1000;rw[bA];omega)
  have T:oU (.st [.int .i64 2,.big n 64,.sl 1 idx.length (bP idx),.sl 2 q.length (iL (bas.take q.length) 200),.st [.big 0 0,.big 0 0,.big 0 0],.st [.big 0 0,.big 0 0,.bool EZ],.big 0 0])=vY n idx bas:=by
   have e1:FB q.length bas=bas:=by rw[<- v];exact CW
   rw[e1,<- v];show(⟨2,decide ((n:E7)<0),aA (n:E7).natAbs,gY idx.length (bP idx),aI bas.length (iL bas 200),0,0,0,0,0,EZ,0⟩:Stp)=_;rw[gH,dU,Y1 (show ¬(n:E7)<0 by omega)];rfl
  have l:=aFI (M:=M) (ex:= []) hv.stp T;have d:R.length=M.length+1:=by rw[B];simp
  have e7:∀m:MV,AM (News.rows 18 1 (aV [m]))=1:=λ_=>rfl;unfold zG at l;rw[B2,<- B,<- d] at l;rw[e7];exact⟨Z0 _,⟨Z0 _,by omega⟩,⟨⟨rfl,d.symm⟩,⟨⟩⟩,⟨by omega,l⟩,by rw[<- d,aT (by omega) (by omega)]⟩
noncomputable def aDF(f:Y):O MV->Y->(Y->MV)->o (OProp×Y×(Y->MV)×MV)
 | [.int .u64 n],m,g=>E0 (E0 (minP f m g n),(l6 f (aD m g) n.toNat).length,aG (l6 f (aD m g) n.toNat) 200,.int .i64 (((l6 f (aD m g) n.toNat).length:Z) -1))
 | _,_,_=>E1
theorem aMF(f:Y)(h:POk AE 48 18 (tB f)):POk AE 26 18 (aDF f):=mX bU Tryz.func26 (aDF f) λms m g p n' g' v a d=>by
 unfold aDF at a;split at a
 ·rename_i b;simp only[Z1,Z2] at a;obtain⟨rfl,rfl,rfl,rfl⟩:=a;have H:minP f m g b:=d;obtain⟨n,rfl⟩:∃n:Y,b=n:=⟨b.toNat,by have:=H.n5;omega⟩;obtain⟨k,h2,h3,j,i,c,h7⟩:=H;rw[Z8] at *;have e:=dD m g;have:=aZz f h (aD m g) n k (by omega) (by omega) j i c.T (by omega);rw[e] at this;exact⟨aG (aD m g) 200,iW c.stp,this⟩
 ·simp at a
noncomputable def aRo(f:Y)(h:POk AE 26 18 (aDF f)):PCtr AE:=⟨26,18,aDF f,λargs w=>Tryz.call26 args w,h⟩
theorem aTw(f:Y)(h:POk AE 26 18 (aDF f))(L R:O Stp)(z:Z)(b:_)(d:b=(News.rows 18 1 (aV [MV.st [MV.int E3 (1:Z),MV.big z 64,MV.val (A1 E1 0 0),MV.val (A1 E1 0 0),MV.st [MV.big 0 0,MV.big 0 0,MV.big 0 0],MV.st [MV.big 0 0,MV.big 0 0,MV.bool EZ],MV.big 0 0]])))(a:_)(c:a=(l6 f (aD (t L) (aG L 200)) (U z))):(bif C (z<65536) then (0<=z/\z<18446744073709551616)/\(t L<=t L/\(t L+AM b)*288<=140737488355328)/\((0=0/\t L+AM b =t R)/\u)/\(t R<=t L+1/\LeFun (t R) (λq=>bif A3 q (t L) then aG L 200 q else aV [MV.st [MV.int E3 (1:Z),MV.big z 64,MV.val (A1 E1 0 0),MV.val (A1 E1 0 0),MV.st [MV.big 0 0,MV.big 0 0,MV.big 0 0],MV.st [MV.big 0 0,MV.big 0 0,MV.bool EZ],MV.big 0 0]] (q -t L)) (aG R 200))/\Q E3 ((↑(t L+AM b):Z) -1)=(t R:Z) -1 else (t L<=t L/\minP f (t L) (aG L 200) z)/\((0=0/\t a =t R)/\u)/\(t R<=t a /\LeFun (t R) (aG a 200) (aG R 200))/\(t a :Z) -1=(t R:Z) -1)=mD (aIh [jZ] [.pt (aRo f h)] fzP aC) EU 18 [.int .u64 z] L.length (aG L 200) R.length (aG R 200) (.int .i64 ((R.length:Z) -1)):=by subst d c;kernel_rfl
theorem aOR(f:Y)(h:POk AE 26 18 (aDF f))(L:O Stp)(z:Z)(a:¬z<65536)(b:minP f L.length (aG L 200) z) :
  ∃E:Env AE,mD E EU 18 [.int .u64 z] L.length (aG L 200) (l6 f L z.toNat).length (aG (l6 f L z.toNat) 200) (.int .i64 (((l6 f L z.toNat).length:Z) -1)):=by
 refine⟨aIh [jZ] [.pt (aRo f h)] fzP aC,?_⟩;rw[<- aTw f h L (l6 f L z.toNat) z _ rfl _ rfl,jF];exact aEB (Y1 a) ⟨⟨Z0 _,b⟩,⟨⟨rfl,rfl⟩,⟨⟩⟩,⟨Z0 _,AK⟩,rfl⟩
theorem aND(L:O Stp)(z:Z):(((L++ [bY z]).length:Y):Z) -1=(L.length:Z):=by rw[aMx];omega
theorem uQ:∀f:Y,POk AE 25 18 (lG f)
 | 0=>mX bU EB (lG 0) λk m g p n' g' v a j=>by
  unfold lG at a;split at a
  ·rename_i z;simp only[Z1,Z2] at a;obtain⟨rfl,rfl,rfl,rfl⟩:=a;obtain⟨b,_,c,n⟩:provP 0 m g z:=j;have h:=dD m g;have d:=b.lt;have o:=b.two;have e:iK 0 (aD m g) z=aD m g++ [bY z]:=by rw[p7];rfl
   have:=aFj (aD m g) z (by omega) (by omega) (by omega);rw[<- aND,h] at this;rw[e];exact⟨aG (aD m g) 200,iW c.stp,this⟩
  ·simp at a
 | f+1=>mX bU EB (lG (f+1)) λk m g p n' g' v a j=>by
  unfold lG at a;split at a
  ·rename_i z;simp only[Z1,Z2] at a;obtain⟨rfl,rfl,rfl,rfl⟩:=a;obtain⟨b,l,c,n⟩:provP (f+1) m g z:=j;have h:=dD m g;have o:=b.two;by_cases i:z<65536
   ·have e:iK (f+1) (aD m g) z=aD m g++ [bY z]:=by rw[p7];unfold eE;rw[FC i]
    have:=aFj (aD m g) z (by omega) (by omega) (by omega);rw[<- aND,h] at this;rw[e];exact⟨aG (aD m g) 200,iW c.stp,this⟩
   ·have e:iK (f+1) (aD m g) z=l6 f (aD m g) z.toNat:=by rw[p7,aGe];unfold eE;rw[r i]
    have d:=b.lt;have q:(65536*2^(f+1):Z)=((65536*2^(f+1):Y):Z):=by rw[AI,BT];rfl
    rw[q] at d;have hb:65536*2^(f+1)<=65536*2^20:=A6 _ (BL (by omega) l);have:=aOR f (aMF f (aFE f (uQ f))) (aD m g) z i ⟨b.pr,by omega,by omega,by omega,by omega,qQ c.T,by omega⟩;rw[h] at this;rw[e];exact⟨aG (aD m g) 200,iW c.stp,this⟩
  ·simp at a
noncomputable def aUB(f:Y):PCtr AE:=aGf f (uQ f)
noncomputable def bBY(f:Y):PCtr AE:=aRo f (aMF f (aFE f (uQ f)))
theorem aUZ{n b:Y}(a:Pri n)(c:n%2=1)(d:b%n≠0):b^(n -1)%n=1:=by
 have h1:=a.lt;have:=aMo (g8 a) c (t:=(b:Z)) λh=>d (BW (DG.1 h));have e:=AH.2 (A0 this);rw[BK (by omega) (show(1:Z)<n by omega)] at e;have e2:((b^(n -1)%n:Y):Z)=1:=by rw[AX,BT];exact e
 omega
theorem aMq{n:Y}(a:Pri n):∀(k x:Y),x<n->x^2^k%n=1->x=1\/uZ k x n=EY
 | 0,x,hx,h=>by
  rw[DI,EH,CC hx] at h;exact .inl h
 | k+1,x,hx,h=>by
  have h1:=a.lt;rw[DC,EI,Nat.pow_two,DM] at h;rcases aMq a k (x*x%n) (AR _ (by omega)) h with q|q
  ·have b:n ∣ (x -1)*(x+1):=by
    cases x with
    | zero=>simp at q
    | succ y =>
     have e:(y+1)*(y+1)=y*(y+1+1)+1:=by grind
     rw[e] at q;have:=Nat.mod_add_div (y*(y+1+1)+1) n;rw[q] at this;exact⟨(y*(y+1+1)+1)/n,by show y*(y+1+1)=n*((y*(y+1+1)+1)/n);omega⟩
   have hx0:x≠0:=λe=>by rw[e] at q;simp at q
   rcases a.mul b with w|w
   ·left;rcases DU (x -1) with z|z
    ·omega
    ·have:=BR z w;omega
   ·right;have:=BR (by omega) w;unfold uZ;rw[show x=n -1 by omega];simp
  ·right;unfold uZ;rw[q,EA]
theorem aK0{n:Y}(c:Pri n)(g:n%2=1)(h2:n<2^128)(b:Y):cF n b=EY:=by
 have h1:=c.lt;have T:=aSW (n:=n -1) (by omega) (by omega);unfold cF;cases a:CA (b%n) 0 with
 | true=>rfl
 | false =>
  have h:b%n≠0:=λe=>by rw[e] at a;simp at a
  rw[Z5,aKH 128 1 (b%n) _ n (by omega) (DT (D6 ..) (by omega)),Nat.one_mul,<- DM];generalize tz (n -1)=s at *;obtain⟨d,f⟩:=AL T.m;have j:(n -1)/2^s=d:=by rw[f];exact A8 d (C6 s)
  rw[j];have i:(b^d%n)^2^s%n=1:=by
   rw[<- DM,<- EI,A2,<- f];exact aUZ c g h
  rcases aMq c s _ (AR _ (by omega)) i with q|q
  ·rw[q];rfl
  ·rw[q,EA]
theorem aHO{n:Y}(a:Pri n)(c:n%2=1)(d:n<2^128):∀l,rR n l=EY
 | []=>rfl
 | b::r=>by rw[rR,aK0 a c d b,aHO a c d r];rfl
theorem aIz{n:Y}(a:Pri n)(d:n<2^128):∀l,(∀b∈l,1<b)->(2∈l\/n%2=1)->qO n l=EY
 | [],_,h=>by
  have g:=a.lt;rw[qO,aHO a (h.elim (λq=>by simp at q) id) d];simp[CE];exact g
 | b::r,c,h=>by
  by_cases q:n%b=0
  ·rw[aGq q];rcases a.dv b (AL q) with e|e
   ·have:=c b (AD ..);omega
   ·rw[e];simp
  ·rw[aJe q];refine aIz a d r (λx f=>c x (AF _ f)) ?_;rcases h with h|h
   ·rcases A5.1 h with e|h
    ·subst e;right;omega
    ·exact .inl h
   ·exact .inr h
theorem aIy{n:Y}(a:Pri n)(b:n<2^128):kK n=EY :=
 aIz a b bM (by decide) (.inl (by decide))
theorem aVc{z:Z}(a:Pri z.toNat)(b:z<18446744073709551616):isB z=EY:=by
 have h1:=a.lt;unfold isB;rw[FC ⟨by omega,b⟩];exact aIy a (by omega)
theorem aAh(w u v:Z):∀m,(oW w (u,v) m).2=v*aW (2*u) (u*u -w*(v*v)) m/\(oW w (u,v) (m+1)).2=v*aW (2*u) (u*u -w*(v*v)) (m+1)
 | 0=>⟨by show(0:Z)=v*0;omega,by show(dB w (1,0) (u,v)).2=v*1;unfold dB;dsimp only;omega⟩
 | m+1=>by
  obtain⟨b,a⟩:=aAh w u v m;refine⟨a,?_⟩;show(dB w (dB w (oW w (u,v) m) (u,v)) (u,v)).2=v*(2*u*aW (2*u) (u*u -w*(v*v)) (m+1) -(u*u -w*(v*v))*aW (2*u) (u*u -w*(v*v)) m);have a:(dB w (oW w (u,v) m) (u,v)).2=v*aW (2*u) (u*u -w*(v*v)) (m+1):=a;have e:∀A B:Z,v*(2*u*A -(u*u -w*(v*v))*B)=2*u*(v*A) -(u*u -w*(v*v))*(v*B):=λA B=>by grind
  rw[e,<- b,<- a];unfold dB;dsimp only
  grind
theorem aIS{n p q p' q':Z}(f:n ∣ p -p')(e:n ∣ q -q'):∀m,n ∣ aW p q m -aW p' q' m/\n ∣ aW p q (m+1) -aW p' q' (m+1)
 | 0=>⟨⟨0,by show(0:Z) -0=_;omega⟩,⟨0,by show(1:Z) -1=_;omega⟩⟩
 | m+1=>by
  obtain⟨h,g⟩:=aIS f e m;refine⟨g,?_⟩;show n ∣ p*aW p q (m+1) -q*aW p q m -(p'*aW p' q' (m+1) -q'*aW p' q' m);obtain⟨a,ha⟩:=f;obtain⟨b,hb⟩:=e;obtain⟨c,hc⟩:=h;obtain⟨d,hd⟩:=g;refine⟨a*aW p q (m+1)+p'*d -b*aW p q m -q'*c,?_⟩;have l:p=p'+n*a:=by omega
  have k:q=q'+n*b:=by omega
  have j:aW p q (m+1)=aW p' q' (m+1)+n*d:=by omega
  have i:aW p q m=aW p' q' m+n*c:=by omega
  generalize aW p q (m+1)=x1 at *;generalize aW p q m=x2 at *;generalize aW p' q' (m+1)=x3 at *;generalize aW p' q' m=x4 at *;subst l k j i
  grind
theorem uL(a n:Z):n ∣ a -a%n:=⟨a/n,by have:=Int.emod_def a n;omega⟩
structure PlusOk (p P Q:Nat):Prop where
 P1:1<=P
 P2:P<=p -1
 Q1:1<=Q
 Q2:Q<=p -1
 kr:fM ((P:Int)*P -4*Q) p= -1
 whole:pT P Q (p+1) p=0
 part:∀q,Pri q->q ∣ p+1->¬(p:Int) ∣ pT P Q ((p+1)/q) p
theorem aOO{p:Y}(L:Pri p)(F:5<=p):∃P Q,PlusOk p P Q:=by
 have m:=jD L (by omega);have f:=g8 L;obtain⟨w,K⟩:=aZD f m;have r:=fZ (show 1<=p+1 by omega);obtain⟨g,R,S,s,_⟩:=aEl f m K ((gI (p+1)).map U) (by
  rw[DS,BV];refine BJ (λ{x y} C M hxy e=>?_) r.pw;obtain⟨a,rfl,_⟩:=r.mem x C;obtain⟨b,rfl,_⟩:=r.mem y M;rw[Z8,Z8] at e;omega) (λq o=>by
  obtain⟨x,C,rfl⟩:=AY.1 o;obtain⟨a,rfl,j,i,_⟩:=r.mem x C;rw[Z8];exact⟨j,i⟩)
 have s:∀q,Pri q->q ∣ p+1->¬ReP p (oW w g ((p+1)/q)):=λq j i=>s q (AY.2 ⟨q,r.all q j i,Z8 q⟩);obtain⟨u,v⟩:=g;have B:Pri 2:=aKI (by decide);have t:2 ∣ p+1:=AL (by omega);have hv:¬(p:Z) ∣ v:=λh=>s 2 B t (s6 (x:=(u,v)) h _);have N:¬(p:Z) ∣ u:=λh=>by
  have H:ReP p (oW w (u,v) 2):=by
   show(p:Z) ∣ (dB w (dB w (1,0) (u,v)) (u,v)).2;rw[aRz];exact AB (BA h) (AA h)
  have key:∀q,Pri q->q ∣ p+1->(p+1)/q%2=0->W:=λq j i h3=>by
   obtain⟨k,D⟩:=AL h3;refine s q j i ?_;rw[D,oX];exact s6 H k
  by_cases A:(p+1)/2%2=0
  ·exact key 2 B t A
  ·obtain⟨q,o,z⟩:=qM ((p+1)/2) ((p+1)/2) (Z0 _) (by omega);have hq2:¬q ∣ 2:=λh=>by
    have:=o.eq_of_dvd B h;rw[this] at z;exact A (BW z)
   obtain⟨k,D⟩:=z;have e:p+1=q*(2*k):=by
    have:p+1=2*((p+1)/2):=by omega
    rw[this,D]
    grind
   refine key q o ⟨2*k,e⟩ ?_;rw[e,A8 _ (by have:=o.lt;omega)];exact Nat.mul_mod_right 2 k
 have hn2:¬(p:Z) ∣ 2:=g7 (n:=p) (k:=2) (show 1<=2 by omega) (by omega);have J:¬(p:Z) ∣ 2*u:=λh=>(p6 f h).elim hn2 N;have O:¬(p:Z) ∣ u*u -w*(v*v):=R;have l:∀a:Z,¬(p:Z) ∣ a->1<=a%p/\a%p<=p -1:=λa h=>by
  have j:=CH a (show(p:Z)≠0 by omega);have i:=B7 a (show(0:Z)<p by omega);have h3:a%p≠0:=λe=>h (A9 e);omega
 obtain⟨a1,a2⟩:=l _ J;obtain⟨b1,b2⟩:=l _ O;have eP:(((2*u%p).toNat:Y):Z)=2*u%p:=by omega
 have eQ:((((u*u -w*(v*v))%p).toNat:Y):Z)=(u*u -w*(v*v))%p:=by omega
 have E:=aIS (uL (2*u) p) (uL (u*u -w*(v*v)) p);refine⟨(2*u%p).toNat,((u*u -w*(v*v))%p).toNat,by omega,by omega,by omega,by omega,?_,?_,λq j i h=>?_⟩
 ·rw[eP,eQ,xL _ m];have G:rQ p (2*u%p*(2*u%p) -4*((u*u -w*(v*v))%p))=rQ p (2*v*(2*v)*w):=by
   refine aH6 (AH.2 (A0 ?_));obtain⟨c,E⟩:=uL (2*u) p;obtain⟨d,z⟩:=uL (u*u -w*(v*v)) p;have G:2*u%p=2*u -p*c:=by omega
   have T:(u*u -w*(v*v))%p=u*u -w*(v*v) -p*d:=by omega
   rw[G,T];exact⟨-4*u*c+p*(c*c)+4*d,by grind⟩
  have I:¬(p:Z) ∣ 2*v:=λh=>(p6 f h).elim hn2 hv;have h3:=aF7 (2*v) p;rw[xL _ m] at h3;rw[G,aBo m,aBo m,K];rcases h3 with h3|h3|h3
  ·exact V (fA f I) (c9.1 h3)
  ·rw[h3];decide
  ·rw[h3];decide
 ·rw[eP,eQ,aGa];have j:(p:Z) ∣ v*aW (2*u) (u*u -w*(v*v)) (p+1):=by rw[<- (aAh w u v (p+1)).1];exact S
  have i:=(p6 f j).resolve_left hv;have h3:=(E (p+1)).1;refine A0 ?_;have:=B0 i h3
  rwa [Int.sub_sub_self] at this
 ·rw[eP,eQ,aGa] at h;have h3:=(E ((p+1)/q)).1;have A:(p:Z) ∣ aW (2*u%p) ((u*u -w*(v*v))%p) ((p+1)/q):=by
   have:=AB h (uL (aW (2*u%p) ((u*u -w*(v*v))%p) ((p+1)/q)) p)
   rwa [CT,B6] at this
  have F:=AB h3 A;rw[B6] at F;refine s q j i ?_;show(p:Z) ∣ (oW w (u,v) ((p+1)/q)).2;rw[(aAh w u v _).1];exact AA F
theorem aKG{n P Q:Y}(h5:5<=n)(P1:1<=P)(P2:P<=n -1)(Q1:1<=Q)(Q2:Q<=n -1)(d:Y):∃k,d<=k/\k<d+14*(n*n)+14*n+14/\1+k%(n -1)=P/\(1+k/7)%n=Q:=by
 obtain⟨s,r,h,o⟩:∃s r,P -1=7*s+r/\r<7:=⟨(P -1)/7,(P -1)%7,by omega,by omega⟩;obtain⟨m,rfl⟩:∃m,n=m+1:=⟨n -1,by omega⟩;rw[BE] at *
 let b:=(s+(m -1)*Q+1)%m
 have hi0:b<m:=AR _ (by omega)
 let M:=7*(m+1)*m
 have q:0<M:=DN (by omega) (by omega)
 let t:=d/M+1
 have ht1:d<M*t:=by
  have:=Nat.lt_div_mul_add (a:=d) q;have e:M*t=d/M*M+M:=by show M*(d/M+1)=_;rw[CZ,A2];omega
  omega
 have ht2:M*t<=d+M:=by
  have g:=Nat.div_mul_le_self d M;have e:M*t=d/M*M+M:=by show M*(d/M+1)=_;rw[CZ,A2];omega
  omega
 obtain⟨c,p⟩:∃c,s+(m -1)*Q+1=m*c+b:=⟨(s+(m -1)*Q+1)/m,(D7 _ _).symm⟩;have u:7*(Q -1)+r+7*(m+1)*(b+m*t)=7*((Q -1)+(m+1)*(b+m*t))+r:=by grind
 refine⟨7*(Q -1)+r+7*(m+1)*(b+m*t),?_,?_,?_,?_⟩
 ·have e:7*(m+1)*(b+m*t)=7*(m+1)*b+M*t:=by show _=_+7*(m+1)*m*t;grind
  omega
 ·have e:7*(m+1)*(b+m*t)=7*(m+1)*b+M*t:=by show _=_+7*(m+1)*m*t;grind
  have g:7*(m+1)*b<=7*(m+1)*m:=A6 _ (by omega);have l:M=7*(m*m)+7*m:=by show 7*(m+1)*m=_;grind
  have j:14*((m+1)*(m+1))=14*(m*m)+28*m+14:=by grind
  have e4:7*(m+1)*m=M:=rfl;omega
 ·
  have e:7*(Q -1)+r+7*(m+1)*(b+m*t)+m*(7*c)=(P -1)+m*(7*(Q+b+(m+1)*t)):=by
   obtain⟨Q',rfl⟩:∃Q',Q=Q'+1:=⟨Q -1,by omega⟩;obtain⟨m',rfl⟩:∃m',m=m'+1:=⟨m -1,by omega⟩;rw[BE] at *;rw[h];have f:7*(s+m'*(Q'+1)+1)=7*((m'+1)*c+b):=by rw[p]
   have v:(m'+1)*(7*c)=7*(s+m'*(Q'+1)+1) -7*b:=by
    rw[f,CZ,BE];grind
   have h7:7*b<=7*(s+m'*(Q'+1)+1):=by rw[f];omega
   rw[v];have l:7*(m'+1+1)*(b+(m'+1)*t)=7*b+(m'+1)*(7*b)+(m'+1)*(7*((m'+1+1)*t)):=by grind
   have j:(m'+1)*(7*(Q'+1+b+(m'+1+1)*t))=7*(m'*(Q'+1))+7*(Q'+1)+(m'+1)*(7*b)+(m'+1)*(7*((m'+1+1)*t)):=by grind
   rw[l,j];omega
  have g:=congrArg (·%m) e;simp only[DB] at g;rw[g,CC (by omega)];omega
 ·rw[u,D5 (by omega),D1 o,BP,show 1+(Q -1+(m+1)*(b+m*t))=Q+(m+1)*(b+m*t) by omega,DB];exact CC (by omega)
def dO(a:O Z):O Stp->Prop
 | []=>u
 | s::r=>cB a s=EY/\dO (a++ [s.n]) r
theorem aEA:∀(L:O Stp) (a:O Z) (i:Y),pH a L i=E1↔dO a L
 | [],_,_=>by simp[pH,dO]
 | s::r,a,i=>by
  unfold pH dO;cases h:cB a s with
  | true=>rw[Z6,aEA r];simp
  | false=>rw[Z5];simp
theorem aFn:∀(L T:O Stp) (a:O Z),dO a (L++T)↔dO a L/\dO (a++nums L) T
 | [],T,a=>by
  show dO a T↔u/\dO (a++ []) T;rw[B2];simp
 | s::r,T,a=>by
  show(cB a s=EY/\dO (a++ [s.n]) (r++T))↔(cB a s=EY/\dO (a++ [s.n]) r)/\dO (a++(s.n::nums r)) T;rw[aFn r T,BI,and_assoc];rfl
theorem kW{L:O Stp}{s:Stp}(h:dO [] L)(a:cB (nums L) s=EY):dO [] (L++ [s]):=(aFn L [s] []).2 ⟨h,by rw[B1];exact⟨a,trivial⟩⟩
theorem aFc(a:O Z):∀(I q acc:O Z),I.length=q.length->(∀k,k<q.length->0<=I.getD k 0/\I.getD k 0<a.length/\a.getD (I.getD k 0).toNat 0=q.getD k 0)->(acc++q).Nodup->cC a I acc=E0 (acc++q)
 | [], [],acc,_,_,_=>by rw[B2];rfl
 | [],_::_,_,h,_,_=>by simp at h
 | _::_, [],_,h,_,_=>by simp at h
 | i::I,x::q,acc,j,h,b=>by
  obtain⟨e,d,c⟩:=h 0 (by simp);have e:0<=i:=e;have d:i<a.length:=d;have c:a.getD i.toNat 0=x:=c;rw[nT,c];have f:acc.elem x=EZ:=by
   rw[List.elem_eq_mem,decide_eq_false_iff_not];intro g;rw[List.nodup_append] at b;exact b.2.2 x g x (AD ..) rfl
  rw[Y0 e,Y0 d,f];show cC a I (acc++ [x])=_;rw[aFc a I q (acc++ [x]) (by simpa using j) (λk l=>h (k+1) (by simpa using l)) (by rw[BI];exact b),BI];rfl
theorem aOD(L:O Stp):(nums L).length=L.length:=by simp[nums]
theorem aOC{L:O Stp}{j:Y}(h:j<L.length):(nums L).getD j 0=(L.getD j aE).n:=by simp[nums,AC,h]
theorem aOQ{n:Y}(h:1<=n):(aL n).Nodup:=by
 rw[fN];exact(fZ h).pw.imp λhxy e=>by omega
theorem aEk{L M:O Stp}{w N:Y}{I:O Z}(b:1<=N)(A:AddOk L M w (aL N) I):cC (nums M) I []=E0 (aL N):=by
 have:=aFc (nums M) I (aL N) [] A.len (λk a=>by
  obtain⟨e,d,c,_⟩:=A.at_ k a;exact⟨e,by rw[aOD];exact d,by rw[aOC (by omega)];exact c⟩) (by rw[B1];exact aOQ b)
 rwa [B1] at this
theorem aJg{N:Y}(h:1<=N):b9 (N:Z) (aL N)=E0 (N:Z):=by rw[fN];exact aJh h
theorem wT(n:Y):lX EZ (aA n)=EY:=nB (n:Z)
theorem aDR(c:O Z){z:Z}(a:Pri z.toNat)(h:z<65536):cB c (bY z)=EY:=by
 have h1:=a.lt;have b:=aSP (z:=z) (by omega);have d:(bY z).can=EY:=nB z;unfold cB;rw[d,b,Y0 (show 1<z by omega)];show(EY&&(EY&&(tM (bY z).n 0 0 (noC (bY z)))))=EY;rw[b,show noC (bY z)=EY from rfl];unfold tM;rw[Y0 h,aVc a (by omega)];rfl
theorem aBt{n:Y}(b:Pri n){a:Z}(h:¬(n:Z) ∣ a):gcd a n=1:=fA (g8 b) h
theorem aJd(x n:Z):∀m:Y,(x%n)^m%n=x^m%n
 | 0=>by rw[DJ,DJ]
 | m+1=>by rw[CR,CR,EE,aJd x n m,Int.emod_emod_of_dvd _ (Int.dvd_refl n),<- EE]
theorem aIW{n:Y}(a:Pri n)(g:5<=n):∀q:O Z,(∀x∈q,BasOk n x/\Pri x.toNat/\x.toNat ∣ n -1)->aAj n (q.map λq=>(gA n q:Z)) q=EY
 | [],_=>rfl
 | x::r,h=>by
  obtain⟨B,b,d⟩:=h x (AD ..);have l:=b.lt;obtain⟨p,rfl⟩:∃p:Y,x=p:=⟨x.toNat,by omega⟩;rw[Z8] at b d l;obtain⟨k,e⟩:=d;have m:(((n:Z) -1)/(p:Z)).natAbs=k:=by
   rw[show(n:Z) -1=((n -1:Y):Z) by omega,<- CD,BF,e,A8 _ (by omega)]
  have y:=B.yes;have h3:=B.lo;have h4:=B.hi;show((C (1<(gA n p:Z))&&C ((gA n p:Z)<=(n:Z) -1))&&((C (gcd (fK (gA n p:Z) (((n:Z) -1)/(p:Z)).natAbs n -1) n=1)&&C (fK (fK (gA n p:Z) (((n:Z) -1)/(p:Z)).natAbs n) (p:Z).natAbs n=1))&&aAj n (r.map λq=>(gA n q:Z)) r))=EY;rw[m] at y⊢;have f:=jD a (by omega);have j:¬(n:Z) ∣ (gA n p:Z):=g7 (by omega) (by omega);have s:fK (fK (gA n p:Z) k n) (p:Z).natAbs n=1:=by
   rw[BF];have:fK (fK (gA n p:Z) k n) p n=fK (gA n p:Z) (n -1) n:=by
    unfold fK;rw[aJd,<- Int.pow_mul,A2,<- e]
   rw[this];exact(aAU a.lt _).2 (aMo (g8 a) f j)
  have o:gcd (fK (gA n p:Z) k n -1) n=1:=by
   refine aBt a λd=>?_;have l1:0<=fK (gA n p:Z) k n:=CH _ (by omega);have l2:fK (gA n p:Z) k n<n:=B7 _ (by omega);obtain⟨c,i⟩:=d;have t:c=0:=by
    rcases Int.lt_trichotomy c 0 with w|w|w
    ·have:(n:Z)*c<=n*(-1):=Z7 (by omega) (by omega);omega
    ·exact w
    ·have:(n:Z)*1<=n*c:=Z7 (by omega) (by omega);omega
   rw[t,CS] at i;exact y (by omega)
  rw[s,o,aIW a g r λx b=>h x (AF _ b),Y0 (show 1<(gA n p:Z) by omega),Y0 (show(gA n p:Z)<=(n:Z) -1 by omega)];rfl
theorem aI4{n:Y}(ho:n%2=1)(h:3<=n):jM (n:Z) 2=EY:=Y0 ⟨by omega,by omega⟩
theorem aRn{n w:Y}(b:Pri n)(g:5<=n)(hn2:n<1099511627776){L M:O Stp}{I:O Z}(A:AddOk L M w (aL (n -1)) I):cB (nums M) (vY n I ((aL (n -1)).map λq=>(gA n q:Z)))=EY:=by
 have d:=jD b (by omega);unfold cB;rw[aE0,show(vY n I ((aL (n -1)).map λq=>(gA n q:Z))).can=EY from wT n,Y0 (show(1:Z)<n by omega),BY,BY];show(match cC (nums M) I [] with|none=>EZ|some q=>vX (vY n I ((aL (n -1)).map λq=>(gA n q:Z))).n ((aL (n -1)).map λq=>(gA n q:Z)) EY q)=EY;rw[aEk (by omega) A,aE0];dsimp only;unfold vX;have h:(n:Z) -1=((n -1:Y):Z):=by omega
 rw[aI4 d (by omega),h,aJg (by omega)];dsimp only;have c:(n:Z)<((n -1:Y):Z)*((n -1:Y):Z):=by
  rw[<- AI];have:=AW (show 4<=n -1 by omega) (Z0 (n -1));omega
 rw[Y0 c,Y0 (show((aL (n -1)).map λq=>(gA n q:Z)).length=(aL (n -1)).length from CF ..),aIW b g _ λx a=>by
  have f:=(p5 (by omega) d x a).1;rw[fN] at a;obtain⟨p,rfl,h2,e,_⟩:=(fZ (show 1<=n -1 by omega)).mem x a;exact⟨aPQ b (by omega) (by omega) f (by rw[Z8];exact e),f,by rw[Z8];exact e⟩]
 rfl
theorem vH{pr:O Stp->Z->O Stp}:∀(q:O Z) (L:O Stp),(∀x∈q,∀L,dO [] L->dO [] (pr L x))->dO [] L->dO [] (oY pr L q)
 | [],_,_,h=>h
 | x::r,L,a,h=>vH r (pr L x) (λy b=>a y (AF _ b)) (a x (AD ..) L h)
theorem aDg{f n:Y}(d:Pri n)(e:5<=n)(hn2:n<1099511627776)(b:f<=20)(g:∀x∈aL (n -1),Fits f x){L:O Stp}(a:∀x∈aL (n -1),∀L,dO [] L->dO [] (eE f L x))(h:dO [] L):dO [] (aGd (eE f) L n) :=
 kW (vH _ L a h) (aRn d e hn2 (tP (eE f) (aL (n -1)) L λx c L=>nY f L x b (g x c)))
theorem oP:∀(f:Y) (L:O Stp) (z:Z),f<=20->Fits f z->dO [] L->dO [] (eE f L z)
 | 0,L,z,_,h,a=>kW a (aDR _ h.pr (by have:=h.lt;omega))
 | f+1,L,z,g,h,a=>by
  unfold eE;split
  ·rename_i b;exact kW a (aDR _ h.pr b)
  ·rename_i b;have i:=h.lt;have j:(65536*2^(f+1):Z)=((65536*2^(f+1):Y):Z):=by rw[AI,BT];rfl
   rw[j] at i;have h3:65536*2^(f+1)<=65536*2^20:=A6 _ (BL (by omega) g);have e:=jD h.pr (by omega);have c:=uB (f:=f) (n:=z.toNat) (by omega) e (by omega);exact aDg h.pr (by omega) (by omega) (by omega) c (λx d L a=>oP f L x (by omega) (c x d) a) a
theorem aJa{n:Y}(c:Pri n){a b:Z}:∀q:O Z,(∀x∈q,¬(n:Z) ∣ pT a b (((n:Z)+1)/x).natAbs n)->xZ n a b q=EY
 | [],_=>rfl
 | x::r,h=>by
  show(C (gcd (pT a b (((n:Z)+1)/x).natAbs n) n=1)&&xZ n a b r)=EY;rw[aJa c r λy d=>h y (AF _ d),aBt c (h x (AD ..))];rfl
theorem aR4{n w P Q k:Y}(c:Pri n)(h:5<=n)(i:PlusOk n P Q)(s:1+k%(n -1)=P)(r:(1+k/7)%n=Q){L M:O Stp}{I:O Z}(A:AddOk L M w (aL (n+1)) I):cB (nums M) (eT n k I)=EY:=by
 have g:=jD c (by omega);have d:(eT n k I).n=(n:Z):=aE0 n I [];obtain⟨P1,P2,Q1,Q2,kr,whole,part⟩:=i;unfold cB;rw[d,show(eT n k I).can=EY from wT n,Y0 (show(1:Z)<n by omega),BY,BY];show(match cC (nums M) I [] with|none=>EZ|some q=>v6 (eT n k I).n [plP n k,plQ n k] EY q)=EY;rw[aEk (by omega) A,d];dsimp only;unfold v6;have f:(n:Z)+1=((n+1:Y):Z):=by omega
 rw[aI4 g (by omega),f,aJg (by omega)];dsimp only;have a:(n:Z)<(((n+1:Y):Z) -1)*(((n+1:Y):Z) -1):=by
  have e:((n+1:Y):Z) -1=(n:Z):=by omega
  rw[e,<- AI];have:=AW h (Z0 n);omega
 have eP:plP n k=(P:Z):=by unfold plP;rw[s]
 have eQ:plQ n k=(Q:Z):=by unfold plQ;rw[r]
 rw[Y0 a,eP,eQ];show(EY&&(EY&&(EY&&aR3 n (aL (n+1)) [(P:Z),(Q:Z)])))=EY;have o:((n:Z)+1).natAbs=n+1:=by omega
 show(EY&&(EY&&(EY&&((C ((0:Z)<=P)&&C ((P:Z)<n))&&((C ((0:Z)<=Q)&&C ((Q:Z)<n))&&(C (fM ((P:Z)*P -4*Q) n= -1)&&(C (pT P Q ((n:Z)+1).natAbs n=0)&&xZ n P Q (aL (n+1)))))))))=EY;rw[o,whole,kr,Y0 (show(0:Z)<=P by omega),Y0 (show(P:Z)<n by omega),Y0 (show(0:Z)<=Q by omega),Y0 (show(Q:Z)<n by omega),aJa c _ λx b=>by
  rw[fN] at b;obtain⟨p,rfl,l,j,_⟩:=(fZ (show 1<=n+1 by omega)).mem x b;have m:(((n:Z)+1)/(p:Z)).natAbs=(n+1)/p:=by rw[f,<- CD,BF]
  rw[m];exact part p l j]
 rfl
theorem aXs(f:Y)(h:POk AE 48 18 (tB f))(L M:O Stp)(n g K:Y)(idx:O Z)(a:_)(s:a=(n:Z))(l:_)(r:l=(iR f (aD (t L) (aG L 200)) (aL (U (Q E2 ( a +1))))))(d:_)(p:d=(t idx))(c:_)(o:c=(bP idx))(e:_)(m:e=(t M:Z)):((0<= a /\ a <18446744073709551616)/\(t L<=t L/\addP f (t L) (aG L 200) (Q E2 (a +1)))/\(∃i,PuI g K i/\(0=0/\ a = a /\0=0/\(g:Z)=(PuS.k i:Z)/\u)/\((0=0/\t l =t M)/\u)/\(t l =t M+t (PuS.ex i)/\LeFun (t l) (aG l 200) (aG (M++PuS.ex i) 200))/\((3:Z)=3/\aB a a 64 64/\(1=1/\t (aL (U (Q E2 (a +1))))=t idx/\LeFun (t (aL (U (Q E2 (a +1))))) (bP (ixH f (aD (t L) (aG L 200)) (aL (U (Q E2 (a +1)))))) c)/\(A1 E1 0 0=A1 E1 0 0/\t (PuS.b i)=0)/\(aB 0 0 0 0/\aB 0 0 0 0/\aB 0 0 0 0/\u)/\(aB 0 0 0 0/\aB 0 0 0 0/\EZ=EZ/\u)/\aB 0 0 0 0/\u)/\u)/\∀(i:PuS),PuI g K i->((Q E2 (a -1)=0->W)/\(0<=Q E2 (1+y (PuS.k i:Z) (Q E2 (a -1)))/\Q E2 (1+y (PuS.k i:Z) (Q E2 (a -1)))<18446744073709551616)/\((7:Z)=0->W)/\(a =0->W)/\(0<=y (Q E2 (1+Q E2 (FD (PuS.k i:Z) 7))) a /\y (Q E2 (1+Q E2 (FD (PuS.k i:Z) 7))) a <18446744073709551616)/\∃i_1,CuI n (PuS.k i:Z) i_1/\(0=0/\ a = a /\0=0/\(PuS.k i:Z)=(PuS.k i_1:Z)/\u)/\((0=0/\t M=t M)/\u)/\(t M+t (PuS.ex i)=t M+t (PuS.ex i_1)/\LeFun (t M+t (PuS.ex i)) (aG (M++PuS.ex i) 200) (aG (M++PuS.ex i_1) 200))/\((3:Z)=3/\aB a a 64 64/\(1=1/\t idx=t idx/\LeFun d c c)/\(2=2/\2=t (PuS.b i_1)/\LeFun 2 (aV [MV.big (Q E2 (1+y (PuS.k i:Z) (Q E2 (a -1)))) 64,MV.big (y (Q E2 (1+Q E2 (FD (PuS.k i:Z) 7))) a) 64]) (iL (PuS.b i_1) 200))/\(aB 0 0 0 0/\aB 0 0 0 0/\aB 0 0 0 0/\u)/\(aB 0 0 0 0/\aB 0 0 0 0/\EZ=EZ/\u)/\aB 0 0 0 0/\u)/\u)/\∀(i_1:PuS),CuI n (PuS.k i:Z) i_1->(t M<=t M+t (PuS.ex i_1)/\(t M+AM (News.rows 18 1 (aV [MV.st [MV.int E3 (3:Z),MV.big a 64,MV.sl 1 d c,MV.sl 2 (t (PuS.b i_1)) (iL (PuS.b i_1) 200),MV.st [MV.big 0 0,MV.big 0 0,MV.big 0 0],MV.st [MV.big 0 0,MV.big 0 0,MV.bool EZ],MV.big 0 0]])))*288<=140737488355328)/\(t M+AM (News.rows 18 1 (aV [MV.st [MV.int E3 (3:Z),MV.big a 64,MV.sl 1 d c,MV.sl 2 (t (PuS.b i_1)) (iL (PuS.b i_1) 200),MV.st [MV.big 0 0,MV.big 0 0,MV.big 0 0],MV.st [MV.big 0 0,MV.big 0 0,MV.bool EZ],MV.big 0 0]]))<=t M+1/\0<= e /\ e <(↑(t M+AM (News.rows 18 1 (aV [MV.st [MV.int E3 (3:Z),MV.big a 64,MV.sl 1 d c,MV.sl 2 (t (PuS.b i_1)) (iL (PuS.b i_1) 200),MV.st [MV.big 0 0,MV.big 0 0,MV.big 0 0],MV.st [MV.big 0 0,MV.big 0 0,MV.bool EZ],MV.big 0 0]]))):Z)/\(okL (t M+AM (News.rows 18 1 (aV [MV.st [MV.int E3 (3:Z),MV.big a 64,MV.sl 1 d c,MV.sl 2 (t (PuS.b i_1)) (iL (PuS.b i_1) 200),MV.st [MV.big 0 0,MV.big 0 0,MV.big 0 0],MV.st [MV.big 0 0,MV.big 0 0,MV.bool EZ],MV.big 0 0]]))) λq=>bif A3 q (t M) then aG (M++PuS.ex i_1) 200 q else aV [MV.st [MV.int E3 (3:Z),MV.big a 64,MV.sl 1 d c,MV.sl 2 (t (PuS.b i_1)) (iL (PuS.b i_1) 200),MV.st [MV.big 0 0,MV.big 0 0,MV.big 0 0],MV.st [MV.big 0 0,MV.big 0 0,MV.bool EZ],MV.big 0 0]] (q -t M))/\fineL (aD (t M+AM (News.rows 18 1 (aV [MV.st [MV.int E3 (3:Z),MV.big a 64,MV.sl 1 d c,MV.sl 2 (t (PuS.b i_1)) (iL (PuS.b i_1) 200),MV.st [MV.big 0 0,MV.big 0 0,MV.big 0 0],MV.st [MV.big 0 0,MV.big 0 0,MV.bool EZ],MV.big 0 0]]))) λq=>bif A3 q (t M) then aG (M++PuS.ex i_1) 200 q else aV [MV.st [MV.int E3 (3:Z),MV.big a 64,MV.sl 1 d c,MV.sl 2 (t (PuS.b i_1)) (iL (PuS.b i_1) 200),MV.st [MV.big 0 0,MV.big 0 0,MV.big 0 0],MV.st [MV.big 0 0,MV.big 0 0,MV.bool EZ],MV.big 0 0]] (q -t M)) (U e))/\bif cB (nums (S (U e) (aD (t M+AM (News.rows 18 1 (aV [MV.st [MV.int E3 (3:Z),MV.big a 64,MV.sl 1 d c,MV.sl 2 (t (PuS.b i_1)) (iL (PuS.b i_1) 200),MV.st [MV.big 0 0,MV.big 0 0,MV.big 0 0],MV.st [MV.big 0 0,MV.big 0 0,MV.bool EZ],MV.big 0 0]]))) λq=>bif A3 q (t M) then aG (M++PuS.ex i_1) 200 q else aV [MV.st [MV.int E3 (3:Z),MV.big a 64,MV.sl 1 d c,MV.sl 2 (t (PuS.b i_1)) (iL (PuS.b i_1) 200),MV.st [MV.big 0 0,MV.big 0 0,MV.big 0 0],MV.st [MV.big 0 0,MV.big 0 0,MV.bool EZ],MV.big 0 0]] (q -t M)))) (v (aD (t M+AM (News.rows 18 1 (aV [MV.st [MV.int E3 (3:Z),MV.big a 64,MV.sl 1 d c,MV.sl 2 (t (PuS.b i_1)) (iL (PuS.b i_1) 200),MV.st [MV.big 0 0,MV.big 0 0,MV.big 0 0],MV.st [MV.big 0 0,MV.big 0 0,MV.bool EZ],MV.big 0 0]]))) λq=>bif A3 q (t M) then aG (M++PuS.ex i_1) 200 q else aV [MV.st [MV.int E3 (3:Z),MV.big a 64,MV.sl 1 d c,MV.sl 2 (t (PuS.b i_1)) (iL (PuS.b i_1) 200),MV.st [MV.big 0 0,MV.big 0 0,MV.big 0 0],MV.st [MV.big 0 0,MV.big 0 0,MV.bool EZ],MV.big 0 0]] (q -t M)) (U e) aE) then ((0=0/\t M+AM (News.rows 18 1 (aV [MV.st [MV.int E3 (3:Z),MV.big a 64,MV.sl 1 d c,MV.sl 2 (t (PuS.b i_1)) (iL (PuS.b i_1) 200),MV.st [MV.big 0 0,MV.big 0 0,MV.big 0 0],MV.st [MV.big 0 0,MV.big 0 0,MV.bool EZ],MV.big 0 0]]))=t (M++ [eT n K idx]))/\u)/\(t (M++ [eT n K idx])<=t M+1/\LeFun (t (M++ [eT n K idx])) (λq=>bif A3 q (t M) then aG (M++PuS.ex i_1) 200 q else aV [MV.st [MV.int E3 (3:Z),MV.big a 64,MV.sl 1 d c,MV.sl 2 (t (PuS.b i_1)) (iL (PuS.b i_1) 200),MV.st [MV.big 0 0,MV.big 0 0,MV.big 0 0],MV.st [MV.big 0 0,MV.big 0 0,MV.bool EZ],MV.big 0 0]] (q -t M)) (aG (M++ [eT n K idx]) 200))/\ e = e else (0<= e /\ e <=(↑(t M+AM (News.rows 18 1 (aV [MV.st [MV.int E3 (3:Z),MV.big a 64,MV.sl 1 d c,MV.sl 2 (t (PuS.b i_1)) (iL (PuS.b i_1) 200),MV.st [MV.big 0 0,MV.big 0 0,MV.big 0 0],MV.st [MV.big 0 0,MV.big 0 0,MV.bool EZ],MV.big 0 0]]))):Z))/\∃j,PuI g K j/\((0=0/\ a = a /\0=0/\Q E2 ((PuS.k i_1:Z)+1)=(PuS.k j:Z)/\u)/\((0=0/\U e =t M)/\u)/\(t M+1=t M+t (PuS.ex j)/\LeFun (t M+1) (λq=>bif A3 q (t M) then aG (M++PuS.ex i_1) 200 q else aV [MV.st [MV.int E3 (3:Z),MV.big a 64,MV.sl 1 d c,MV.sl 2 (t (PuS.b i_1)) (iL (PuS.b i_1) 200),MV.st [MV.big 0 0,MV.big 0 0,MV.big 0 0],MV.st [MV.big 0 0,MV.big 0 0,MV.bool EZ],MV.big 0 0]] (q -t M)) (aG (M++PuS.ex j) 200))/\((3:Z)=3/\aB a a 64 64/\(1=1/\t idx=t idx/\LeFun d c c)/\(2=2/\t (PuS.b i_1)=t (PuS.b j)/\LeFun (t (PuS.b i_1)) (iL (PuS.b i_1) 200) (iL (PuS.b j) 200))/\(aB 0 0 0 0/\aB 0 0 0 0/\aB 0 0 0 0/\u)/\(aB 0 0 0 0/\aB 0 0 0 0/\EZ=EZ/\u)/\aB 0 0 0 0/\u)/\u)/\K+1 -PuS.k j<K+1 -PuS.k i)=mD (aQN [jZ,tV] [.pt (aMG f h)] fzU (aLi n g K M idx) (bB3 n M idx)) ES 18 [.int .u64 n,.int .u64 g] L.length (aG L 200) (M++ [eT n K idx]).length (aG (M++ [eT n K idx]) 200) (.int .i64 M.length):=by subst s r p o m;kernel_rfl
theorem aWs(f:E5)(h:POk AE 48 18 (tB f))(L M:E6 Stp)(n c K:E5)(idx:E6 E7)(n3:3<=n)(D:n<1152921504606846976)(u:c<=K)(hK6:K<1152921504606846976)(B:okT L)(O:∀x∈aL (n+1),Fits f x)(v:f<=20)(hl:L.length+2*wtL (aL (n+1))<=900000)(S:M=iR f L (aL (n+1)))(l:idx=ixH f L (aL (n+1)))(A:AddOk L M (wtL (aL (n+1))) (aL (n+1)) idx)(t:idx.length<=90)(P:fineL M M.length)(N:cB (nums M) (eT n K idx)=EY)(o:∀k,c<=k->k<K->cB (nums M) (eT n k idx)=EZ) :
  ∃E:Env AE,mD E ES 18 [.int .u64 n,.int .u64 c] L.length (aG L 200) (M++ [eT n K idx]).length (aG (M++ [eT n K idx]) 200) (.int .i64 M.length):=by
 refine⟨aQN [jZ,tV] [.pt (aMG f h)] fzU (aLi n c K M idx) (bB3 n M idx),?_⟩;rw[<- aXs f h L M n c K idx _ rfl _ rfl _ rfl _ rfl _ rfl];have Z:E8 E2 ((n:E7)+1)=((n+1:E5):E7):=u6 (a:=n+1) (by omega);have Y:E8 E2 ((n:E7) -1)=((n -1:E5):E7):=by rw[show(n:E7) -1=((n -1:E5):E7) by omega];exact u6 (by omega)
 rw[Z,Y,Z8,jF];have hhi:=A.hi;have okM:okT M:=⟨by omega,A.ok B.ok⟩;have r:(aL (n+1)).length=idx.length:=A.len.symm;rw[<- S,<- l,r];refine⟨by omega,⟨Z0 _,⟨by omega,by omega,by rw[Z8];exact O,v,qQ B,by rw[Z8];omega⟩⟩,⟨⟨c, [], []⟩,⟨Z0 c,u⟩,⟨rfl,rfl,rfl,rfl,⟨⟩⟩,⟨⟨rfl,rfl⟩,⟨⟩⟩,⟨rfl,by
  show LeFun M.length (aG M 200) (aG (M++ []) 200);rw[B2];exact AK⟩,⟨rfl,bJ,⟨rfl,rfl,AK⟩,⟨rfl,rfl⟩,⟨bJ,bJ,bJ,⟨⟩⟩,⟨bJ,bJ,rfl,⟨⟩⟩,bJ,⟨⟩⟩,⟨⟩⟩,λs I=>?_⟩
 obtain⟨k,ex,b⟩:=s;obtain⟨w,F⟩:=I;dsimp only at w F⊢;have X:E8 E2 ((1:E7)+tmod (k:E7) ((n -1:E5):E7))=plP n k:=by
  rw[B5 (by omega),<- AX];exact u6 (a:=1+k%(n -1)) (by have:=AR k (show 0<n -1 by omega);omega)
 have W:E8 E2 (FD (k:E7) 7)=((k/7:E5):E7):=by
  rw[DA (by omega)];exact u6 (a:=k/7) (by omega)
 have V:E8 E2 ((1:E7)+((k/7:E5):E7))=((1+k/7:E5):E7):=u6 (a:=1+k/7) (by omega);have U:tmod ((1+k/7:E5):E7) (n:E7)=plQ n k:=by
  rw[B5 (by omega),<- AX];rfl
 rw[X,W,V,U];have R:0<=plP n k/\plP n k<18446744073709551616:=by
  unfold plP;have:=AR k (show 0<n -1 by omega);omega
 have Q:0<=plQ n k/\plQ n k<18446744073709551616:=by
  unfold plQ;have:=AR (1+k/7) (show 0<n by omega);omega
 refine⟨⟨by omega,R,by omega,by omega,Q,⟨k,ex, [plP n k,plQ n k]⟩,⟨rfl,rfl⟩,⟨rfl,rfl,rfl,rfl,⟨⟩⟩,⟨⟨rfl,rfl⟩,⟨⟩⟩,⟨rfl,AK⟩,⟨rfl,bJ,⟨rfl,rfl,AK⟩,⟨rfl,rfl,LeFun.of_le λj m=>?_⟩,⟨bJ,bJ,bJ,⟨⟩⟩,⟨bJ,bJ,rfl,⟨⟩⟩,bJ,⟨⟩⟩,⟨⟩⟩,λH J=>?_⟩
 ·match j,m with
  | 0,_=>exact⟨rfl,.inl (by omega)⟩
  | 1,_=>exact⟨rfl,.inl (by omega)⟩
 obtain⟨k',ex',b'⟩:=H;obtain⟨G,y⟩:=J;dsimp only at G y⊢;have p:k'=k:=by omega
 subst p;subst y;have hv:isOk (plV n idx [plP n k',plQ n k']):=bAK (EC D (by decide)) t (show 2<=1000 by omega);have z:=aWr n k' idx;have e:=aAt M ex' (plV n idx [plP n k',plQ n k']);rw[z] at e;have i:=aVr (ex:=ex') okM hv (by omega);have g:=aFI (M:=M) (ex:=ex') hv.stp z;have C:AM (News.rows 18 1 (aV [plV n idx [plP n k',plQ n k']]))=1:=rfl;unfold zG plV at e i g;unfold plV at C;rw[C,Z8,e,wF M,List.take_left' rfl];have d:(M++ [eT n k' idx]).length=M.length+1:=by simp
 refine⟨by omega,⟨by omega,by omega,by omega,i,?_⟩,?_⟩
 ·exact⟨λj m=>by
   have:(M++ [eT n k' idx]).getD j aE=M.getD j aE:=by rw[AC,AC,BQ m]
   rw[this];exact P.h j m⟩
 by_cases q:k'=K
 ·subst q;rw[N,Z6];exact⟨⟨⟨rfl,d.symm⟩,⟨⟩⟩,⟨by omega,by rw[d];exact g⟩,rfl⟩
 ·rw[o k' w (by omega),Z5];have T:E8 E2 ((k':E7)+1)=((k'+1:E5):E7):=u6 (a:=k'+1) (by omega);exact⟨by omega,⟨k'+1, [eT n k' idx], [plP n k',plQ n k']⟩,⟨by show c<=k'+1;omega,by show k'+1<=K;omega⟩,⟨⟨rfl,rfl,rfl,T,⟨⟩⟩,⟨⟨rfl,rfl⟩,⟨⟩⟩,⟨rfl,g⟩,⟨rfl,bJ,⟨rfl,rfl,AK⟩,⟨rfl,rfl,AK⟩,⟨bJ,bJ,bJ,⟨⟩⟩,⟨bJ,bJ,rfl,⟨⟩⟩,bJ,⟨⟩⟩,⟨⟩⟩,by show K+1 -(k'+1)<K+1 -k';omega⟩
theorem aSd{N:Y}(hN:2<=N)(he:N%2=0):∀x∈aL N,Pri x.toNat/\2<=x/\2*x<=max 4 (N:Y):=λx a=>by
 have:=p5 (n:=N+1) (by omega) (by omega) x (by rw[BE];exact a)
 rwa [BE] at this
theorem zW{f N:Y}(c:2<=N)(b:N%2=0)(hf:N<65536*2^(f+1)):∀x∈aL N,Fits f x:=λx a=>by
 obtain⟨g,d,h3⟩:=aSd c b x a;refine⟨g,d,?_⟩;have e:(65536*2^(f+1):Y)=2*(65536*2^f):=by rw[BO];omega
 have h:(65536*2^f:Z)=((65536*2^f:Y):Z):=by rw[AI,BT];rfl
 have e3:1<=2^f:=C6 f;rw[h];omega
noncomputable def aDo(n a:Y)(M:O Stp)(idx:O Z):Y:=AT (⟨srF (λk=>cB (nums M) (eT n k idx)) 1125899906842624 a,rfl⟩:∃r,r=srF (λk=>cB (nums M) (eT n k idx)) 1125899906842624 a)
theorem aR5(n a:Y)(M:O Stp)(idx:O Z):aDo n a M idx=srF (λk=>cB (nums M) (eT n k idx)) 1125899906842624 a:=AP (⟨srF (λk=>cB (nums M) (eT n k idx)) 1125899906842624 a,rfl⟩:∃r,r=srF (λk=>cB (nums M) (eT n k idx)) 1125899906842624 a)
noncomputable def aFe(f:Y)(L:O Stp)(n a:Y):O Stp:=iR f L (aL (n+1))++ [eT n (aDo n a (iR f L (aL (n+1))) (ixH f L (aL (n+1)))) (ixH f L (aL (n+1)))]
noncomputable def pY(f:Y)(L:O Stp)(n a:Y):O Stp:=AT (⟨aFe f L n a,rfl⟩:∃r,r=aFe f L n a)
theorem aJb(f:Y)(L:O Stp)(n a:Y):pY f L n a=aFe f L n a:=AP (⟨aFe f L n a,rfl⟩:∃r,r=aFe f L n a)
structure plsP (f m:Nat) (g:Nat->MV) (n fr:Int):Prop where
 pr:Pri n.toNat
 n5:5<=n
 n6:n<4194304
 lt:n.toNat+1<65536*2^(f+1)
 f0:0<=fr
 f6:fr<1099511627776
 f20:f<=20
 ok:okL m g
 fine:fineL (aD m g) m
 len:m+2*AN (n.toNat+1)<=900000
noncomputable def aG2(f:Y):O MV->Y->(Y->MV)->o (OProp×Y×(Y->MV)×MV)
 | [.int .u64 n,.int .u64 a],m,g=>E0 (E0 (plsP f m g n a),(pY f (aD m g) n.toNat a.toNat).length,aG (pY f (aD m g) n.toNat a.toNat) 200,.int .i64 (((pY f (aD m g) n.toNat a.toNat).length:Z) -1))
 | _,_,_=>E1
theorem aFf{f n:Y}(e:Pri n)(h5:5<=n)(b:n+1<65536*2^(f+1))(c:f<=20)(L:O Stp):AddOk L (iR f L (aL (n+1))) (wtL (aL (n+1))) (aL (n+1)) (ixH f L (aL (n+1))):=by
 have ho:=jD e (by omega);have a:=zW (f:=f) (show 2<=n+1 by omega) (by omega) b;rw[mJ,vP];exact tP (eE f) (aL (n+1)) L λx d L=>nY f L x c (a x d)
structure PlusEnds (n fr:Nat) (M:List Stp) (idx:List Int):Prop where
 ge:fr<=aDo n fr M idx
 le:aDo n fr M idx<=fr+1125899906842624
 yes:cB (nums M) (eT n (aDo n fr M idx) idx)=true
 no:∀k,fr<=k->k<aDo n fr M idx->cB (nums M) (eT n k idx)=false
theorem aFg{n w:Y}(d:Pri n)(c:5<=n)(h6:n<4194304){L M:O Stp}{I:O Z}(A:AddOk L M w (aL (n+1)) I)(b:Y):PlusEnds n b M I:=by
 obtain⟨P,Q,a⟩:=aOO d c;obtain⟨k,l,k2,j,i⟩:=aKG c a.P1 a.P2 a.Q1 a.Q2 b;have m:=aR4 d c a j i A;have hsq:n*n<=4194304*4194304:=AW (by omega) (by omega);have h:=aHp (λk=>cB (nums M) (eT n k I)) 1125899906842624 b;have g:=aKX (λk=>cB (nums M) (eT n k I)) 1125899906842624 b;have f:=aCp (λk=>cB (nums M) (eT n k I)) 1125899906842624 b;have e:=yZ (λk=>cB (nums M) (eT n k I)) 1125899906842624 b k l (by omega) m;rw[<- aR5] at h g f e;exact⟨h,g,e,f⟩
theorem aEJ{L:O Stp}:fineL L L.length↔∀s∈L,s.can=EY/\2<=s.n:=by
 constructor
 ·intro h s b;obtain⟨j,a,rfl⟩:=List.mem_iff_getElem.1 b;have:=h.h j a
  rwa [AC,AQ a] at this
 ·intro h;refine⟨λj a=>?_⟩;rw[AC,AQ a];exact h _ (List.getElem_mem a)
theorem aR7(f:Y)(h:POk AE 48 18 (tB f)):POk AE 27 18 (aG2 f):=mX bU Tryz.func27 (aG2 f) λms m g p n' g' v d r=>by
 unfold aG2 at d;split at d
 ·rename_i k j;simp only[Z1,Z2] at d;obtain⟨rfl,rfl,rfl,rfl⟩:=d;have H:plsP f m g k j:=r;obtain⟨n,rfl⟩:∃n:Y,k=n:=⟨k.toNat,by have:=H.n5;omega⟩;obtain⟨c,rfl⟩:∃n:Y,j=n:=⟨j.toNat,by have:=H.f0;omega⟩;obtain⟨pr,n5,n6,lt,j,f6,i,ok,fine,len⟩:=H;rw[Z8] at *;rw[Z8] at *;have l:=dD m g;have b:fineL (aD m g) (aD m g).length:=by rw[l];exact fine
  have ho:=jD pr (by omega);have A:=aFf pr (by omega) lt i (aD m g);have a:=zW (f:=f) (show 2<=n+1 by omega) (by omega) lt;have q:=m5 (show 1<=n+1 by omega);rw[<- fN] at q;have hlen:=qP (aL (n+1)) λx o=>(a x o).two;have h40:AN (n+1)<40:=(B9 (by omega)).2 (by omega);have E:=aFg pr (by omega) (by omega) A c;have hA:=A.len;have:=aWs f h (aD m g) _ n c _ _ (by omega) (by omega) E.ge (by have:=E.le;omega) ok.T a i (by omega) rfl rfl A (by omega) (aEJ.2 (A.fine (aEJ.1 b))) E.yes E.no;have e:pY f (aD m g) n c=iR f (aD m g) (aL (n+1))++ [eT n (aDo n c (iR f (aD m g) (aL (n+1))) (ixH f (aD m g) (aL (n+1)))) (ixH f (aD m g) (aL (n+1)))]:=aJb f (aD m g) n c;rw[<- e,l] at this;have s:((iR f (aD m g) (aL (n+1))).length:Z)=((pY f (aD m g) n c).length:Z) -1:=by rw[e];simp
  rw[s] at this;exact⟨aG (aD m g) 200,iW ok.stp,this⟩
 ·simp at d
noncomputable def aY2(f:Y):PCtr AE:=⟨27,18,aG2 f,λargs w=>Tryz.call27 args w,aR7 f (aFE f (uQ f))⟩
theorem aJ0{a d x:Z}(b:gcd d a=1)(h:a ∣ x*d):a ∣ x :=
 sJ (by rw[EF];exact b) (by rwa [B3] at h)
theorem aDL{A m d c b a:Z}(hm:1<m)(h:gcd (m9 d c b a) m=1):m ∣ d8 A m d c b a*m9 d c b a -slN A d c b a:=by
 obtain⟨_,_,f⟩:=aE1 (by omega) h;have g:m ∣ d8 A m d c b a -slN A d c b a*bT (m9 d c b a) m:=iT _ _;have e:d8 A m d c b a*m9 d c b a -slN A d c b a=m9 d c b a*(d8 A m d c b a -slN A d c b a*bT (m9 d c b a) m)+slN A d c b a*(bT (m9 d c b a) m*m9 d c b a -1):=by grind
 rw[e];exact dv2 g f
theorem bC8{p B s A b d a c:Z}(h:p ∣ s*(a -b) -(c -d))(g:p ∣ d*d -(b*b*b+A*b+B))(f:p ∣ c*c -(a*a*a+A*a+B)):p ∣ (s*(d+c) -(b*b+b*a+a*a+A))*(a -b):=by
 have e:(s*(d+c) -(b*b+b*a+a*a+A))*(a -b)=(d+c)*(s*(a -b) -(c -d))+(-1)*(d*d -(b*b*b+A*b+B))+(1)*(c*c -(a*a*a+A*a+B)):=by grind
 rw[e];exact AB (AB (AA h) (AA g)) (AA f)
theorem aFG{p i h g A d s2 c a b f:Z}(n:p ∣ i -(d*d -c -a))(m:p ∣ d*(a -c) -(f -h))(l:p ∣ s2*(b -a) -(g -f))(k:p ∣ d*(h+f) -(c*c+c*a+a*a+A))(j:p ∣ s2*(f+g) -(a*a+a*b+b*b+A)):p ∣ (s2 -d)*(d*(b -c)+h+g) -(b -c)*(b -i):=by
 have e:(s2 -d)*(d*(b -c)+h+g) -(b -c)*(b -i)=(-c+b)*(i -(d*d -c -a))+(s2)*(d*(a -c) -(f -h))+(d)*(s2*(b -a) -(g -f))+(-1)*(d*(h+f) -(c*c+c*a+a*a+A))+(1)*(s2*(f+g) -(a*a+a*b+b*b+A)):=by grind
 rw[e];exact AB (AB (AB (AB (AA n) (AA m)) (AA l)) (AA k)) (AA j)
theorem aX7{p b c f g h d a:Z}(k:p ∣ b -(a*(h -f) -d))(j:p ∣ a*(g -h)+d+c)(i:p ∣ g -f):p ∣ c -b:=by
 have e:c -b=(-1)*(b -(a*(h -f) -d))+(1)*(a*(g -h)+d+c)+(-a)*(g -f):=by grind
 rw[e];exact AB (AB (AA k) (AA j)) (AA i)
theorem aYL{p a g f h c b d s2:Z}(k:p ∣ d*(b -h)+g+a)(j:p ∣ d*(c -h) -(f -g))(i:p ∣ s2*(b -c) -(a -f)):p ∣ (s2 -d)*(b -c) -2*a:=by
 have e:(s2 -d)*(b -c) -2*a=(-1)*(d*(b -h)+g+a)+(1)*(d*(c -h) -(f -g))+(1)*(s2*(b -c) -(a -f)):=by grind
 rw[e];exact AB (AB (AA k) (AA j)) (AA i)
theorem bBM{p b a c d s2:Z}(h:p ∣ s2*(c -d) -(a -b))(g:p ∣ c -d)(f:p ∣ a):p ∣ b+a:=by
 have e:b+a=(1)*(s2*(c -d) -(a -b))+(-s2)*(c -d)+(2)*(a):=by grind
 rw[e];exact AB (AB (AA h) (AA g)) (AA f)
theorem aYK{p f k g i A h j b c d a s2:Z}(t:p ∣ b -f)(s:p ∣ g -k)(r:p ∣ a*(b -c)+i+g)(q:p ∣ a*(d -c) -(h -i))(o:p ∣ a*(i+h) -(c*c+c*d+d*d+A))(n:p ∣ f -(a*a -c -d))(m:p ∣ s2*(b -d) -(g -h))(l:p ∣ j*(k+g) -(f*f+f*b+b*b+A)):p ∣ (2*g)*((s2 -a)*(a+j) -(b -c)):=by
 have e:(2*g)*((s2 -a)*(a+j) -(b -c))=(a*c+a*b+a*f -s2*c -2*s2*d+s2*b -s2*f+2*h)*(b -f)+(-a*j+s2*j)*(g -k)+(-(a*a)+2*a*s2 -d -2*b)*(a*(b -c)+i+g)+(-a*s2+d+2*b)*(a*(d -c) -(h -i))+(a -s2)*(a*(i+h) -(c*c+c*d+d*d+A))+(a*c -a*b -s2*c -2*s2*d+3*s2*b+2*h)*(f -(a*a -c -d))+((a*a) -2*c -d)*(s2*(b -d) -(g -h))+(-a+s2)*(j*(k+g) -(f*f+f*b+b*b+A)):=by grind
 rw[e];exact AB (AB (AB (AB (AB (AB (AB (AA t) (AA s)) (AA r)) (AA q)) (AA o)) (AA n)) (AA m)) (AA l)
theorem aYI{p g f c a d h i b s2:Z}(l:p ∣ i*(a -c) -(g -f))(k:p ∣ f -(b*(d -c) -h))(j:p ∣ (s2 -b)*(b*(a -d)+h+g) -(a -d)*(a -c)):p ∣ (a -c)*((s2 -b)*(b+i) -(a -d)):=by
 have e:(a -c)*((s2 -b)*(b+i) -(a -d))=(-b+s2)*(i*(a -c) -(g -f))+(b -s2)*(f -(b*(d -c) -h))+(1)*((s2 -b)*(b*(a -d)+h+g) -(a -d)*(a -c)):=by grind
 rw[e];exact AB (AB (AA l) (AA k)) (AA j)
theorem aYJ{p b c a s2 f d:Z}(h:p ∣ (s2 -a)*(a+f) -(b -c))(g:p ∣ (a -s2)*(s2+d) -(c -b)):p ∣ (s2 -a)*(a+f -s2 -d):=by
 have e:(s2 -a)*(a+f -s2 -d)=(1)*((s2 -a)*(a+f) -(b -c))+(1)*((a -s2)*(s2+d) -(c -b)):=by grind
 rw[e];exact AB (AA h) (AA g)
theorem bC6{p X h g b d f i a s2 c:Z}(n:p ∣ X -(b*b -h -d))(m:p ∣ h -(a*a -f -i))(l:p ∣ g -(s2*s2 -i -d))(k:p ∣ a+b -s2 -c)(j:p ∣ (s2 -a)*(a+b) -(d -f)):p ∣ X -(c*c -g -f):=by
 have e:X -(c*c -g -f)=(1)*(X -(b*b -h -d))+(-1)*(h -(a*a -f -i))+(1)*(g -(s2*s2 -i -d))+(a -s2+b+c)*(a+b -s2 -c)+(2)*((s2 -a)*(a+b) -(d -f)):=by grind
 rw[e];exact AB (AB (AB (AB (AA n) (AA m)) (AA l)) (AA k)) (AA j)
theorem bC7{p Y X k j f i m b h l d c a s2 g:Z}(w:p ∣ Y -(b*(f -X) -k))(v:p ∣ X -(b*b -f -h))(u:p ∣ k -(a*(d -f) -m))(t:p ∣ j -(s2*(c -i) -l))(s:p ∣ f -(a*a -d -c))(r:p ∣ i -(s2*s2 -c -h))(q:p ∣ a*(c -d) -(l -m))(o:p ∣ a+b -s2 -g)(n:p ∣ (s2 -a)*(a+b) -(h -d)):p ∣ Y -(g*(i -X) -j):=by
 have e:Y -(g*(i -X) -j)=(1)*(Y -(b*(f -X) -k))+(-b+g)*(X -(b*b -f -h))+(-1)*(k -(a*(d -f) -m))+(1)*(j -(s2*(c -i) -l))+(a+2*b -g)*(f -(a*a -d -c))+(-s2 -g)*(i -(s2*s2 -c -h))+(1)*(a*(c -d) -(l -m))+(2*(a*a) -a*s2+a*b+(s2*s2) -s2*b -(b*b) -2*d -2*c+h)*(a+b -s2 -g)+(a -2*s2 -g)*((s2 -a)*(a+b) -(h -d)):=by grind
 rw[e];exact AB (AB (AB (AB (AB (AB (AB (AB (AA w) (AA v)) (AA u)) (AA t)) (AA s)) (AA r)) (AA q)) (AA o)) (AA n)
theorem aYM{p f c h s2 b g a d:Z}(l:p ∣ h*(a -b) -(d -f))(k:p ∣ s2*(g -a) -(c -d))(j:p ∣ h -s2)(i:p ∣ b -g):p ∣ f -c:=by
 have e:f -c=(1)*(h*(a -b) -(d -f))+(1)*(s2*(g -a) -(c -d))+(b -a)*(h -s2)+(s2)*(b -g):=by grind
 rw[e];exact AB (AB (AB (AA l) (AA k)) (AA j)) (AA i)
theorem bBN{p c a d b s2 g f:Z}(i:p ∣ (s2 -b)*(b*(a -c)+g+f) -(a -c)*(a -d))(h:p ∣ b -s2):p ∣ (a -c)*(a -d):=by
 have e:(a -c)*(a -d)=(-1)*((s2 -b)*(b*(a -c)+g+f) -(a -c)*(a -d))+(b*c -b*a -g -f)*(b -s2):=by grind
 rw[e];exact AB (AA i) (AA h)
theorem aPN{p d h f a s2 b i j c g:Z}(o:p ∣ d -(a*(j -b) -h))(n:p ∣ a*(c -j) -(g -h))(m:p ∣ s2*(i -c) -(f -g))(l:p ∣ a -s2)(k:p ∣ i -b):p ∣ d+f:=by
 have e:d+f=(1)*(d -(a*(j -b) -h))+(-1)*(a*(c -j) -(g -h))+(-1)*(s2*(i -c) -(f -g))+(c -b)*(a -s2)+(s2)*(i -b):=by grind
 rw[e];exact AB (AB (AB (AB (AA o) (AA n)) (AA m)) (AA l)) (AA k)
theorem aUn{p A d f c a b s2:Z}(k:p ∣ s2*(c+d) -(a*a+a*b+b*b+A))(j:p ∣ s2*(b -a) -(d -c))(i:p ∣ a -f)(h:p ∣ f -(s2*s2 -a -b))(g:p ∣ c):p ∣ 3*(a*a)+A:=by
 have e:3*(a*a)+A=(-1)*(s2*(c+d) -(a*a+a*b+b*b+A))+(-s2)*(s2*(b -a) -(d -c))+(a -b)*(a -f)+(a -b)*(f -(s2*s2 -a -b))+(2*s2)*(c):=by grind
 rw[e];exact AB (AB (AB (AB (AA k) (AA j)) (AA i)) (AA h)) (AA g)
theorem aUm{p B A b a:Z}(f:p ∣ b*b -(a*a*a+A*a+B))(d:p ∣ 3*(a*a)+A)(c:p ∣ b):p ∣ 4*(A*(A*A))+27*(B*B):=by
 have e:4*(A*(A*A))+27*(B*B)=(27*A*a -27*B+27*(a*a*a) -27*(b*b))*(b*b -(a*a*a+A*a+B))+(4*(A*A)+15*A*(a*a)+9*(a*a*a*a) -54*a*(b*b))*(3*(a*a)+A)+(108*(a*a*a)*b+27*(b*b*b))*(b):=by grind
 rw[e];exact AB (AB (AA f) (AA d)) (AA c)
theorem bBI{p a g c d f b s2:Z}(j:p ∣ a -(s2*(f -d) -b))(i:p ∣ g -f)(h:p ∣ c+b):p ∣ (-s2)*(d -g) -(a -c):=by
 have e:(-s2)*(d -g) -(a -c)=(-1)*(a -(s2*(f -d) -b))+(s2)*(g -f)+(1)*(c+b):=by grind
 rw[e];exact AB (AB (AA j) (AA i)) (AA h)
theorem bBJ{p g d i A h b a c f s2:Z}(o:p ∣ g -(s2*(a -b) -f))(n:p ∣ d -a)(m:p ∣ i+f)(l:p ∣ s2*(f+h) -(a*a+a*c+c*c+A))(k:p ∣ s2*(c -a) -(h -f))(j:p ∣ b -(s2*s2 -a -c)):p ∣ (-s2)*(i+g) -(d*d+d*b+b*b+A):=by
 have e:(-s2)*(i+g) -(d*d+d*b+b*b+A)=(-s2)*(g -(s2*(a -b) -f))+(-d -a -b)*(d -a)+(-s2)*(i+f)+(1)*(s2*(f+h) -(a*a+a*c+c*c+A))+(s2)*(s2*(c -a) -(h -f))+(c -b)*(b -(s2*s2 -a -c)):=by grind
 rw[e];exact AB (AB (AB (AB (AB (AA o) (AA n)) (AA m)) (AA l)) (AA k)) (AA j)
theorem bBG{p b d a c s2:Z}(g:p ∣ d -c)(f:p ∣ a -(s2*s2 -c -b)):p ∣ b -((-s2)*(-s2) -d -a):=by
 have e:b -((-s2)*(-s2) -d -a)=(1)*(d -c)+(1)*(a -(s2*s2 -c -b)):=by grind
 rw[e];exact AB (AA g) (AA f)
theorem bBH{p a g c f b d s2:Z}(j:p ∣ g -f)(i:p ∣ c+b)(h:p ∣ s2*(d -f) -(a -b)):p ∣ a -((-s2)*(g -d) -c):=by
 have e:a -((-s2)*(g -d) -c)=(s2)*(g -f)+(1)*(c+b)+(-1)*(s2*(d -f) -(a -b)):=by grind
 rw[e];exact AB (AB (AA j) (AA i)) (AA h)
theorem aX5{p X b a s:Z}(c:p ∣ X -(s*s -b -a)):p ∣ X -(s*s -a -b):=by
 have e:X -(s*s -a -b)=(1)*(X -(s*s -b -a)):=by grind
 rw[e];exact AA c
theorem aX6{p Y X d b c a s:Z}(g:p ∣ Y -(s*(d -X) -b))(f:p ∣ s*(c -d) -(a -b)):p ∣ Y -(s*(c -X) -a):=by
 have e:Y -(s*(c -X) -a)=(1)*(Y -(s*(d -X) -b))+(-1)*(s*(c -d) -(a -b)):=by grind
 rw[e];exact AB (AA g) (AA f)
theorem bBK{p d c b a s:Z}(f:p ∣ s*(c -d) -(a -b)):p ∣ s*(d -c) -(b -a):=by
 have e:s*(d -c) -(b -a)=(-1)*(s*(c -d) -(a -b)):=by grind
 rw[e];exact AA f
theorem bBL{p b a d c s A:Z}(f:p ∣ s*(d+c) -(b*b+b*a+a*a+A)):p ∣ s*(c+d) -(a*a+a*b+b*b+A):=by
 have e:s*(c+d) -(a*a+a*b+b*b+A)=(1)*(s*(d+c) -(b*b+b*a+a*a+A)):=by grind
 rw[e];exact AA f
theorem bBF{p b c d g f a s2:Z}(l:p ∣ b -(s2*(f -d) -a))(k:p ∣ g -d)(j:p ∣ c+b)(i:p ∣ g -f)(h:p ∣ c+a):p ∣ 2*a:=by
 have e:2*a=(1)*(b -(s2*(f -d) -a))+(s2)*(g -d)+(-1)*(c+b)+(-s2)*(g -f)+(1)*(c+a):=by grind
 rw[e];exact AB (AB (AB (AB (AA l) (AA k)) (AA j)) (AA i)) (AA h)
theorem bBO{p s t b a d c:Z}(g:p ∣ s*(a -b) -(c -d))(f:p ∣ t*(a -b) -(c -d)):p ∣ (s -t)*(a -b):=by
 have e:(s -t)*(a -b)=(1)*(s*(a -b) -(c -d))+(-1)*(t*(a -b) -(c -d)):=by grind
 rw[e];exact AB (AA g) (AA f)
theorem bBP{p s t b a d c A:Z}(g:p ∣ s*(d+c) -(b*b+b*a+a*a+A))(f:p ∣ t*(d+c) -(b*b+b*a+a*a+A)):p ∣ (s -t)*(d+c):=by
 have e:(s -t)*(d+c)=(1)*(s*(d+c) -(b*b+b*a+a*a+A))+(-1)*(t*(d+c) -(b*b+b*a+a*a+A)):=by grind
 rw[e];exact AB (AA g) (AA f)
structure PrP (p:Int):Prop where
 pos:3<p
 odd:p%2≠0
 gc:∀a:Int,¬p ∣ a->gcd a p=1
theorem PrP.pr{p a b:Z}(h:PrP p)(c:p ∣ a*b)(d:¬p ∣ a):p ∣ b:=aJ0 (h.gc a d) (by rwa [B3] at c)
theorem PrP.two{p a:Z}(h:PrP p)(b:p ∣ 2*a):p ∣ a:=h.pr b (λe=>by have:=BS (by omega) e;have:=h.pos;omega)
theorem fQ{p a b:Z}(h:p ∣ a -b):p ∣ b -a:=by rw[<- Int.neg_sub];exact EP.2 h
theorem mA{p a b:Z}(f:0<=a)(e:a<p)(d:0<=b)(c:b<p)(h:p ∣ a -b):a=b:=by
 have:=jQ.2 h
 rwa [BK f e,BK d c] at this
theorem aSx{p a e:Z}(c:0<=a)(b:a<p)(h:p ∣ a -e):e%p=a:=by
 have:=jQ.2 h;rw[BK c b] at this;exact this.symm
structure Ln (A p x1 y1 x2 y2 s:Int):Prop where
 c:p ∣ s*(x2 -x1) -(y2 -y1)
 t:p ∣ s*(y1+y2) -(x1*x1+x1*x2+x2*x2+A)
theorem Ln.symm{A p e b d a s:Z}(h:Ln A p e b d a s):Ln A p d a e b s:=⟨bBK h.c,bBL h.t⟩
def Opp(p d b c a:Z):Prop:=p ∣ d -c/\p ∣ b+a
theorem Opp.symm{p d b c a:Z}(h:Opp p d b c a):Opp p c a d b:=⟨fQ h.1,by rw[CT];exact h.2⟩
theorem Ln.uniq{A p g b d a s t:Z}(j:PrP p)(i:¬Opp p g b d a)(h:Ln A p g b d a s)(h':Ln A p g b d a t):p ∣ s -t:=by
 by_cases e:p ∣ d -g
 ·have n:¬p ∣ b+a:=λf=>i ⟨fQ e,f⟩;exact j.pr (by rw[B3];exact bBP h.t h'.t) n
 ·exact j.pr (by rw[B3];exact bBO h.c h'.c) e
theorem aIO{A B p a c d b:Z}(h:PrP p)(m:OnP A B p a c)(l:OnP A B p d b)(o:¬Opp p a c d b) :
  gcd (m9 a c d b) p=1/\Ln A p a c d b (d8 A p a c d b):=by
 have hp0:=h.pos;by_cases e:a=d
 ·have k:m9 a c d b=c+b:=by unfold m9;rw[Y0 e];rfl
  have n:slN A a c d b=3*(a*a)+A:=by unfold slN;rw[Y0 e];rfl
  have i:¬p ∣ c+b:=λf=>o ⟨by rw[e,CQ];exact DK _,f⟩;have j:gcd (m9 a c d b) p=1:=by rw[k];exact h.gc _ i
  have g:=aDL (A:=A) (by omega) j;rw[k,n] at g;subst e;refine⟨j,?_,?_⟩
  ·have q:p ∣ (c+b)*(c -b):=by
    have:(c+b)*(c -b)=(c*c -(a*a*a+A*a+B)) -(b*b -(a*a*a+A*a+B)):=by grind
    rw[this];exact B0 m.eq l.eq
   have:=h.pr q i;rw[CQ,CS,Int.zero_sub];exact EP.2 (fQ this)
  ·have e:d8 A p a c a b*(c+b) -(a*a+a*a+a*a+A)=d8 A p a c a b*(c+b) -(3*(a*a)+A):=by omega
   rw[e];exact g
 ·have k:m9 a c d b=d -a:=by unfold m9;rw[Y1 e];rfl
  have n:slN A a c d b=b -c:=by unfold slN;rw[Y1 e];rfl
  have i:¬p ∣ d -a:=λf=>e (mA m.x0 m.x1 l.x0 l.x1 (fQ f));have j:gcd (m9 a c d b) p=1:=by rw[k];exact h.gc _ i
  have g:=aDL (A:=A) (by omega) j;rw[k,n] at g;exact⟨j,g,h.pr (by rw[B3];exact bC8 g m.eq l.eq) i⟩
theorem aFF{A B p a c b d s X Y:Z}(j:PrP p)(w:OnP A B p a c)(v:OnP A B p b d)(f:¬Opp p a c b d)(q:Ln A p a c b d s)(n:0<=X)(m:X<p)(l:0<=Y)(k:Y<p)(u:p ∣ X -(s*s -a -b))(t:p ∣ Y -(s*(a -X) -c)):aP A p a c EZ b d EZ= .pt X Y EZ:=by
 obtain⟨r,g⟩:=aIO j w v f;have i:=Ln.uniq j f q g;have o:l8 p a c b d=EZ:=by
  cases h:l8 p a c b d with
  | false=>rfl
  | true =>
   unfold l8 at h;rw[Z3,Z4,Z4] at h;exact(f ⟨by rw[h.1,CQ];exact DK _,A9 h.2⟩).elim
 have eX:mC A p a c b d=X:=by
  unfold mC;refine aSx n m ?_;have e:X -(d8 A p a c b d*d8 A p a c b d -(a+b))=(X -(s*s -a -b))+(s+d8 A p a c b d)*(s -d8 A p a c b d):=by grind
  rw[e];exact AB u (AA i)
 have eY:rP A p a c b d=Y:=by
  unfold rP;rw[eX];refine aSx l k ?_;have e:Y -(d8 A p a c b d*(a -X) -c)=(Y -(s*(a -X) -c))+(a -X)*(s -d8 A p a c b d):=by grind
  rw[e];exact AB t (AA i)
 unfold aP;rw[Z5,Z5,o,Z5,Y0 r,Z6,eX,eY]
theorem qC{A p d c b a:Z}(e:d=b)(h:p ∣ c+a):aP A p d c EZ b a EZ= .pt 0 0 EY:=by
 unfold aP;rw[Z5,Z5];have:l8 p d c b a=EY:=by
  unfold l8;rw[Y0 e,Y0 (A0 h)];rfl
 rw[this,Z6]
theorem vJ{A B p a c b d:Z}(g:PrP p)(l:cL A B p=EY)(i:OnP A B p a c)(h:OnP A B p b d)(f:¬Opp p a c b d) :
  ∃s X Y,Ln A p a c b d s/\OnP A B p X Y/\p ∣ X -(s*s -a -b)/\p ∣ Y -(s*(a -X) -c)/\aP A p a c EZ b d EZ= .pt X Y EZ:=by
 have hp0:=g.pos;obtain⟨hg,j⟩:=aIO g i h f;have n:p ∣ mC A p a c b d -(d8 A p a c b d*d8 A p a c b d -a -b):=by
  unfold mC;rw[Int.sub_sub];exact iT _ _
 have m:p ∣ rP A p a c b d -(d8 A p a c b d*(a -mC A p a c b d) -c):=by
  unfold rP;exact iT _ _
 have e:=aFF g i h f j (CH _ (by omega)) (B7 _ (by omega)) (CH _ (by omega)) (B7 _ (by omega)) n m;have k:=aPL (nS.2 ⟨l,i⟩) (nS.2 ⟨l,h⟩);rw[e] at k;exact⟨_,_,_,j,(nS.1 k).2,n,m,e⟩
theorem aQ7{A p j s q r a d i l g s2:Z}(k:PrP p)(n:Ln A p j s q r g)(m:Ln A p q r a d s2)(w:¬Opp p q r a d)(y:p ∣ i -(g*g -j -q))(v:p ∣ l -(g*(j -i) -s))(E:¬p ∣ g -s2) :
  ¬Opp p i l a d/\∀u,Ln A p i l a d u->p ∣ (s2 -g)*(g+u) -(a -j):=by
 have H:=aFG y n.c m.c n.t m.t;have o:¬p ∣ s2 -g:=λh=>E (fQ h);have G:p ∣ a -i->p ∣ g*(a -j)+s+d:=λe=>by
  have:=AB H (AA (b:=a -j) e);rw[B6] at this;exact k.pr this o
 have F:p ∣ a -i->¬p ∣ d:=λe z=>by
  have C:=AB (aYL (G e) n.c m.c) (AA (b:=2) z);rw[B6] at C;have B:=k.pr C o;exact w ⟨fQ B,bBM m.c B z⟩
 constructor
 ·rintro⟨e,f⟩
  have e':=fQ e;have D:=AB (aX7 v (G e') e') f;rw[show d -l+(l+d)=2*d by omega] at D;exact F e' (k.two D)
 ·intro u x;by_cases e:p ∣ a -i
  ·exact k.pr (aYK e (aX7 v (G e) e) (G e) n.c n.t y m.c x.t) (λh=>F e (k.two h))
  ·exact k.pr (aYI x.c v H) e
theorem tQ{A B p d g b f:Z}(k:PrP p)(m:cL A B p=EY)(j:OnP A B p d g)(i:OnP A B p b f):aP A p d g EZ b f EZ=aP A p b f EZ d g EZ:=by
 by_cases a:Opp p d g b f
 ·have e:d=b:=mA j.x0 j.x1 i.x0 i.x1 a.1;rw[qC e a.2,qC e.symm a.symm.2]
 ·obtain⟨s,X,Y,l,o,dX,dY,e⟩:=vJ k m j i a;rw[e,aFF k i j (λh=>a h.symm) l.symm o.x0 o.x1 o.y0 o.y1 (aX5 dX) (aX6 dY l.c)]
theorem aNR{A B p g m o n f l:Z}(a:PrP p)(k:cL A B p=EY)(b:OnP A B p g m)(z:OnP A B p o n)(i:OnP A B p f l)(u:¬Opp p g m o n)(s:¬Opp p o n f l) :
  fB A p (aP A p g m EZ o n EZ) (.pt f l EZ)=fB A p (.pt g m EZ) (aP A p o n EZ f l EZ):=by
 obtain⟨D,N,L,e,y,X4,Y4,H⟩:=vJ a k b z u;obtain⟨s2,M,K,d,q,X5,Y5,G⟩:=vJ a k z i s;have X5':=aX5 X5;have Y5':=aX6 Y5 d.c;rw[H,G];show aP A p N L EZ f l EZ=aP A p g m EZ M K EZ;by_cases j:p ∣ D -s2
 ·by_cases w:g=f
  ·subst w;have T:m=l:=mA b.y0 b.y1 i.y0 i.y1 (aYM e.c d.c j (by rw[CQ];exact DK _));subst T;have:=tQ a k b z;rw[H,G] at this;simp only[TR.pt.injEq,and_true] at this;obtain⟨rfl,rfl⟩:=this;exact tQ a k y b
  ·have r:¬p ∣ f -g:=λh=>w (mA b.x0 b.x1 i.x0 i.x1 (fQ h));have C:¬p ∣ g -f:=λh=>r (fQ h);have J:=a.pr (bBN (aFG X4 e.c d.c e.t d.t) j) r;have I:=a.pr (bBN (aFG X5' d.symm.c e.symm.c d.symm.t e.symm.t) (fQ j)) C;have W:=aPN Y4 e.c d.c j J;have V:=aPN Y5' d.symm.c e.symm.c (fQ j) I;rw[qC (mA y.x0 y.x1 i.x0 i.x1 (fQ J)) W,qC (mA b.x0 b.x1 q.x0 q.x1 I) (by rw[CT];exact V)]
 ·have v:¬p ∣ s2 -D:=λh=>j (fQ h);obtain⟨nU,S⟩:=aQ7 a e d s X4 Y4 j;obtain⟨nV,R⟩:=aQ7 a d.symm e.symm (λh=>u h.symm) X5' Y5' v;obtain⟨P,X,Y,Q,x,dX,dY,U⟩:=vJ a k y i nU;obtain⟨O,_,_,F,_,_,_,_⟩:=vJ a k q b nV;have K1:=S P Q;have E:=a.pr (aYJ K1 (R O F)) v;rw[U,tQ a k b q];exact(aFF a q b nV F x.x0 x.x1 x.y0 x.y1 (bC6 dX X4 X5 E K1) (bC7 dY dX Y4 Y5 X4 X5 e.c E K1)).symm
theorem aQv{A B p i h e k n j:Z}(r:PrP p)(C:cL A B p=EY)(y:¬p ∣ 4*(A*(A*A))+27*(B*B))(q:OnP A B p i h)(l:OnP A B p e k)(f:OnP A B p n j)(d:Opp p i h e k) :
  fB A p (.pt i h EZ) (aP A p e k EZ n j EZ)= .pt n j EZ:=by
 by_cases g:Opp p e k n j
 ·have ex:e=n:=mA l.x0 l.x1 f.x0 f.x1 g.1;rw[qC ex g.2];have u:i=e:=mA q.x0 q.x1 l.x0 l.x1 d.1;have D:h=j:=mA q.y0 q.y1 f.y0 f.y1 (by
   have:=B0 d.2 g.2
   rwa [show h+k -(k+j)=h -j by omega] at this)
  subst ex;subst u;subst D;rfl
 ·obtain⟨s2,m,v,o,x,X5,Y5,E⟩:=vJ r C l f g;rw[E];show aP A p i h EZ m v EZ=_;have s:¬Opp p i h m v:=by
   rintro⟨a,b⟩
   have w:=r.two (bBF Y5 a b d.1 d.2);have z:p ∣ e -m:=by
    have:=B0 a d.1
    rwa [show i -m -(i -e)=e -m by omega] at this
   exact y (aUm l.eq (aUn o.t o.c z X5 w) w)
  exact aFF r q x s ⟨bBI Y5 d.1 d.2,bBJ Y5 d.1 d.2 o.t o.c X5⟩ f.x0 f.x1 f.y0 f.y1 (bBG d.1 X5) (bBH d.1 d.2 o.c)
section
structure Gp {T:Type} (on:T->Prop) (add:T->T->T) (z:T) (ng:T->T):Prop where
 on_z:on z
 on_add:∀ {a b},on a->on b->on (add a b)
 on_ng:∀ {a},on a->on (ng a)
 add_z:∀ {a},on a->add a z=a
 comm:∀ {a b},on a->on b->add a b=add b a
 assoc:∀ {a b c},on a->on b->on c->add (add a b) c=add a (add b c)
 inv:∀ {a},on a->add a (ng a)=z
section
variable {T:Type} {on:T->Prop} {add:T->T->T} {z:T} {ng:T->T}
def wB(add:T->T->T)(z:T):Y->T->T
 | 0,_=>z
 | n+1,p=>add (wB add z n p) p
theorem Gp.z_add(g:Gp on add z ng){a:T}(h:on a):add z a=a:=by rw[g.comm g.on_z h,g.add_z h]
theorem Gp.smul_on(g:Gp on add z ng){p:T}(h:on p):∀n,on (wB add z n p)
 | 0=>g.on_z
 | n+1=>g.on_add (g.smul_on h n) h
theorem Gp.smul_add(g:Gp on add z ng){p:T}(h:on p)(m:Y):∀n,wB add z (m+n) p=add (wB add z m p) (wB add z n p)
 | 0=>(g.add_z (g.smul_on h m)).symm
 | n+1=>by
  show add (wB add z (m+n) p) p=add (wB add z m p) (add (wB add z n p) p);rw[g.smul_add h m n,g.assoc (g.smul_on h m) (g.smul_on h n) h]
end
end
section
def TR.on(A B p:Z):TR->Prop
 | .pt X Y o=>mF A B p X Y o=EY
 | .dv _=>W
def TR.ng(p:Z):TR->TR
 | .pt X Y o=> .pt X (aD8 p Y o) o
 | .dv d=> .dv d
theorem TR.on_cases{A B p:Z}{a:TR}(h:a.on A B p):a= .pt 0 0 EY\/∃X Y,a= .pt X Y EZ/\OnP A B p X Y:=by
 cases a with
 | dv d=>exact h.elim
 | pt X Y o =>
  cases o with
  | true =>
   obtain⟨_,c,b⟩:=aKE.1 h;subst c;subst b;exact .inl rfl
  | false=>exact .inr ⟨X,Y,rfl,(nS.1 h).2⟩
section
variable {A B p:Int}
theorem aCs(a:cL A B p=EY):(TR.pt 0 0 EY).on A B p:=aKE.2 ⟨a,rfl,rfl⟩
theorem aPM(a:cL A B p=EY){X Y:Z}(h:OnP A B p X Y):(TR.pt X Y EZ).on A B p:=nS.2 ⟨a,h⟩
theorem wM(k:PrP p)(f:cL A B p=EY){a b:TR}(j:a.on A B p)(g:b.on A B p):(fB A p a b).on A B p:=by
 rcases TR.on_cases j with rfl|⟨X,Y,rfl,i⟩
 ·cases b with
  | dv d=>exact g.elim
  | pt X' Y' o'=>exact g
 rcases TR.on_cases g with rfl|⟨X',Y',rfl,h⟩
 ·exact j
 show(aP A p X Y EZ X' Y' EZ).on A B p;by_cases c:Opp p X Y X' Y'
 ·rw[qC (mA i.x0 i.x1 h.x0 h.x1 c.1) c.2];exact aCs f
 ·obtain⟨_,_,_,_,o,_,_,e⟩:=vJ k f i h c;rw[e];exact aPM f o
theorem vI(c:PrP p)(d:cL A B p=EY){a b:TR}(f:a.on A B p)(e:b.on A B p):fB A p a b=fB A p b a:=by
 rcases TR.on_cases f with rfl|⟨X,Y,rfl,h⟩<;>rcases TR.on_cases e with rfl|⟨X',Y',rfl,g⟩
 ·rfl
 ·rfl
 ·rfl
 ·exact tQ c d h g
theorem nA{a:TR}(b:a.on A B p):fB A p a (.pt 0 0 EY)=a:=by
 rcases TR.on_cases b with rfl|⟨X,Y,rfl,h1⟩<;>rfl
theorem rJ{a:TR}(b:a.on A B p):fB A p (.pt 0 0 EY) a=a:=by
 rcases TR.on_cases b with rfl|⟨X,Y,rfl,h1⟩<;>rfl
theorem aNN{a:TR}(b:a.on A B p):fB A p a (a.ng p)= .pt 0 0 EY:=by
 rcases TR.on_cases b with rfl|⟨X,Y,rfl,h1⟩
 ·rfl
 ·show aP A p X Y EZ X (-Y%p) EZ=_;refine qC rfl ?_;have:=iT (-Y) p
  rwa [show -Y%p - -Y=Y+ -Y%p by omega] at this
theorem aHM(g:PrP p)(h:cL A B p=EY)(v:¬p ∣ 4*(A*(A*A))+27*(B*B)){a b c:TR}(k:a.on A B p)(i:b.on A B p)(l:c.on A B p) :
  fB A p (fB A p a b) c=fB A p a (fB A p b c):=by
 rcases TR.on_cases k with rfl|⟨u,s,rfl,n⟩
 ·rw[rJ i,rJ (wM g h i l)]
 rcases TR.on_cases i with rfl|⟨q,o,rfl,j⟩
 ·rw[rJ l,nA k]
 rcases TR.on_cases l with rfl|⟨t,r,rfl,m⟩
 ·rw[nA (wM g h k i),nA i]
 by_cases f:Opp p u s q o
 ·have e:fB A p (.pt u s EZ) (.pt q o EZ)= .pt 0 0 EY:=qC (mA n.x0 n.x1 j.x0 j.x1 f.1) f.2;rw[e,rJ l];exact(aQv g h v n j m f).symm
 by_cases d:Opp p q o t r
 ·have e:fB A p (.pt q o EZ) (.pt t r EZ)= .pt 0 0 EY:=qC (mA j.x0 j.x1 m.x0 m.x1 d.1) d.2;rw[e,nA k,vI g h (wM g h k i) l,vI g h k i];exact aQv g h v m j n d.symm
 exact aNR g h n j m f d
theorem bCd(c:PrP p)(b:cL A B p=EY)(e:¬p ∣ 4*(A*(A*A))+27*(B*B)):Gp (TR.on A B p) (fB A p) (.pt 0 0 EY) (TR.ng p) where
 on_z:=aCs b
 on_add:=wM c b
 on_ng:=λ{a} h=>by
  cases a with
  | dv d=>exact h.elim
  | pt X Y o=>exact aZC h
 add_z:=nA
 comm:=vI c b
 assoc:=aHM c b e
 inv:=aNN
theorem aOy(g:Gp (TR.on A B p) (fB A p) (.pt 0 0 EY) (TR.ng p)){a:TR}(d:a.on A B p)(n:Y):cH A p a n=wB (fB A p) (.pt 0 0 EY) n a:=by
 induction n using Nat.strongRecOn with
 | _ n ih =>
  by_cases c:n=0
  ·subst c;rw[pU];rfl
  rw[sX c,ih (n/2) (by omega),<- g.smul_add d];by_cases b:n%2=1
  ·rw[Y0 b,Z6];have e:n/2+n/2+1=n:=by omega
   have:wB (fB A p) (TR.pt 0 0 EY) (n/2+n/2+1) a=fB A p (wB (fB A p) (TR.pt 0 0 EY) (n/2+n/2) a) a:=rfl;rw[<- this,e]
  ·rw[Y1 b,Z5]
   congr 1;omega
end
end
def jJ(n v:Y):Y->Y
 | 0=>0
 | k+1=>jJ n v k+(if k*k%n=v then 1 else 0)
def o9(a b n x:Y):Y:=(x*x%n*x+a*x+b)%n
def pC(a b n:Y):Y->Y
 | 0=>1
 | x+1=>pC a b n x+jJ n (o9 a b n x) n
def zK(a b n:Y):Y:=pC a b n n
theorem wV(n v:Y):∀k,jJ n v k<=k
 | 0=>Z0 0
 | k+1=>by have:=wV n v k;unfold jJ;split<;>omega
theorem aHs(a b n:Y):∀k,pC a b n k<=1+k*n
 | 0=>by simp[pC]
 | k+1=>by
  have h1:=aHs a b n k;have h2:=wV n (o9 a b n k) n;have e:(k+1)*n=k*n+n:=DH k n;unfold pC;omega
def kX(n k:Y):O Z:=(CM n).map λv=>((jJ n v k:Y):Z)
theorem aDQ(n k:Y):(kX n k).length=n:=by simp[kX]
theorem aAu{n k v:Y}(h:v<n):(kX n k).getD v 0=(jJ n v k:Z):=by simp[kX,AC,h]
theorem aOZ{n k:Y}(h:0<n):kX n (k+1)=(kX n k).set (k*k%n) ((kX n k).getD (k*k%n) 0+1):=by
 have a:=AR (k*k) h;rw[aAu a];refine D0 (by simp[kX]) λi b h2=>?_;have hi:i<n:=by rw[aDQ] at b;exact b
 rw[List.getElem_set];simp only[kX,List.getElem_map,List.getElem_range];split
 ·rename_i e;subst e;show((jJ n (k*k%n) k+(if k*k%n=k*k%n then 1 else 0):Y):Z)=_;rw[FC rfl];rfl
 ·rename_i e;show((jJ n i k+(if k*k%n=i then 1 else 0):Y):Z)=_;rw[r e,BP]
structure CtS where
 k:Nat
structure CtI (n:Nat) (s:CtS):Prop where
 hk:s.k<=n
def aLk(a b n:Y):Y->MS->o LoopAnn
 | 3,_=>E0 (.inv CtS (CtI n) (λs=>⟨54, [(0,.int .i64 a),(1,.int .i64 b),(2,.int .i64 n),(7,.bs 0 0 n),(8,.int .i64 s.k)], [⟨EZ,.arr .i64 (kX n s.k)⟩],0⟩) (λs=>n -s.k))
 | 8,_=>E0 (.inv CtS (CtI n) (λs=>⟨54, [(0,.int .i64 a),(1,.int .i64 b),(2,.int .i64 n),(7,.bs 0 0 n),(9,.int .i64 (pC a b n s.k)),(10,.int .i64 s.k)], [⟨EZ,.arr .i64 (kX n n)⟩],0⟩) (λs=>n -s.k))
 | _,_=>E1
theorem aTB(a b n:Y)(c:_)(d:c=(n:Z)):((0<= c /\ c = c /\(↑(8:Y):Z)* c <=140737488355328)/\(∃i,CtI n i/\((a:Z)=(a:Z)/\(b:Z)=(b:Z)/\ c = c /\(0=0/\U c =n)/\0=(CtS.k i:Z)/\u)/\l (U c) (0:Z)=kX n (CtS.k i)/\u)/\∀(i:CtS),CtI n i->bif C ((CtS.k i:Z)< c) then (c =0->W)/\(0<=y (Q E3 ((CtS.k i:Z)*(CtS.k i:Z))) c /\y (Q E3 ((CtS.k i:Z)*(CtS.k i:Z))) c < c)/\0+U (y (Q E3 ((CtS.k i:Z)*(CtS.k i:Z))) c)<t (kX n (CtS.k i))/\(0<=y (Q E3 ((CtS.k i:Z)*(CtS.k i:Z))) c /\y (Q E3 ((CtS.k i:Z)*(CtS.k i:Z))) c < c)/\0+U (y (Q E3 ((CtS.k i:Z)*(CtS.k i:Z))) c)<t (kX n (CtS.k i))/\∃j,CtI n j/\(((a:Z)=(a:Z)/\(b:Z)=(b:Z)/\ c = c /\(0=0/\n=n)/\Q E3 ((CtS.k i:Z)+1)=(CtS.k j:Z)/\u)/\set (kX n (CtS.k i)) (0+U (y (Q E3 ((CtS.k i:Z)*(CtS.k i:Z))) c)) (Q E3 (v (kX n (CtS.k i)) (0+U (y (Q E3 ((CtS.k i:Z)*(CtS.k i:Z))) c)) 0+1))=kX n (CtS.k j)/\u)/\n -CtS.k j<n -CtS.k i else (∃i_1,CtI n i_1/\((a:Z)=(a:Z)/\(b:Z)=(b:Z)/\ c = c /\(0=0/\n=n)/\1=(pC a b n (CtS.k i_1):Z)/\0=(CtS.k i_1:Z)/\u)/\kX n (CtS.k i)=kX n n/\u)/\∀(i:CtS),CtI n i->bif C ((CtS.k i:Z)< c) then (c =0->W)/\(c =0->W)/\(0<=y (Q E3 (Q E3 (Q E3 (y (Q E3 ((CtS.k i:Z)*(CtS.k i:Z))) c *(CtS.k i:Z))+Q E3 ((a:Z)*(CtS.k i:Z)))+(b:Z))) c /\y (Q E3 (Q E3 (Q E3 (y (Q E3 ((CtS.k i:Z)*(CtS.k i:Z))) c *(CtS.k i:Z))+Q E3 ((a:Z)*(CtS.k i:Z)))+(b:Z))) c < c)/\0+U (y (Q E3 (Q E3 (Q E3 (y (Q E3 ((CtS.k i:Z)*(CtS.k i:Z))) c *(CtS.k i:Z))+Q E3 ((a:Z)*(CtS.k i:Z)))+(b:Z))) c)<t (kX n n)/\∃j,CtI n j/\(((a:Z)=(a:Z)/\(b:Z)=(b:Z)/\ c = c /\(0=0/\n=n)/\Q E3 ((pC a b n (CtS.k i):Z)+v (kX n n) (0+U (y (Q E3 (Q E3 (Q E3 (y (Q E3 ((CtS.k i:Z)*(CtS.k i:Z))) c *(CtS.k i:Z))+Q E3 ((a:Z)*(CtS.k i:Z)))+(b:Z))) c)) 0)=(pC a b n (CtS.k j):Z)/\Q E3 ((CtS.k i:Z)+1)=(CtS.k j:Z)/\u)/\kX n n=kX n n/\u)/\n -CtS.k j<n -CtS.k i else (pC a b n (CtS.k i):Z)=(zK a b n:Z))=aJ (aM [] (aLk a b n)) D3 [.int .i64 a,.int .i64 b,.int .i64 n] (MRes.sat (.ret (.int .i64 (zK a b n)))):=by subst d;kernel_rfl
theorem pN{x:Y}(h:x<9223372036854775808):Q E3 (x:Z)=(x:Z):=aT (by omega) (by omega)
theorem lU(x n:Y):y (x:Z) (n:Z)=((x%n:Y):Z):=by rw[B5 (by omega),AX]
theorem aSo(a b n:Y)(n1:1<=n)(n2:n<=100000)(q:a<=100000)(hb:b<=100000):∃E:Env AE,aJ E D3 [.int .i64 a,.int .i64 b,.int .i64 n] (MRes.sat (.ret (.int .i64 (zK a b n)))):=by
 refine⟨aM [] (aLk a b n),?_⟩;rw[<- aTB a b n _ rfl];rw[Z8];refine⟨⟨by omega,rfl,by omega⟩,⟨⟨0⟩,⟨Z9 _⟩,⟨rfl,rfl,rfl,⟨rfl,rfl⟩,rfl,⟨⟩⟩,?_,⟨⟩⟩,λs I=>?_⟩
 ·refine D0 (by simp[kX]) λi h1 h2=>?_;simp[kX,jJ]
 obtain⟨k⟩:=s;obtain⟨o⟩:=I;dsimp only at o⊢;have e:Q E3 ((k:Z)*(k:Z))=((k*k:Y):Z):=by
  have:=AW (show k<=100000 by omega) (show k<=100000 by omega);rw[<- AI];exact pN (by omega)
 rw[e,lU,Z8,BD];have c:=AR (k*k) (show 0<n by omega);refine aH Z4 (λq1=>?_) (λq1=>?_)
 ·have g:Q E3 ((k:Z)+1)=((k+1:Y):Z):=pN (x:=k+1) (by omega);have p:=wV n (k*k%n) k;have f:Q E3 ((kX n k).getD (k*k%n) 0+1)=(kX n k).getD (k*k%n) 0+1:=by
   rw[aAu c];exact pN (x:=jJ n (k*k%n) k+1) (by omega)
  rw[aDQ];exact⟨by omega,by omega,c,by omega,c,⟨k+1⟩,⟨by show k+1<=n;omega⟩,⟨⟨rfl,rfl,rfl,⟨rfl,rfl⟩,g,⟨⟩⟩,by rw[f];exact(aOZ (by omega)).symm,⟨⟩⟩,by show n -(k+1)<n -k;omega⟩
 ·have h:k=n:=by omega
  subst h;refine⟨⟨⟨0⟩,⟨Z9 _⟩,⟨rfl,rfl,rfl,⟨rfl,rfl⟩,rfl,rfl,⟨⟩⟩,rfl,⟨⟩⟩,λs I=>?_⟩;obtain⟨x⟩:=s;obtain⟨m⟩:=I;dsimp only at m⊢;clear c e;refine aH Z4 (λl=>?_) (λl=>?_)
  ·have b1:=AW (show x<=100000 by omega) (show x<=100000 by omega);have c:=AR (x*x) (show 0<k by omega);have b2:=AW (show x*x%k<=100000 by omega) (show x<=100000 by omega);have b3:=AW q (show x<=100000 by omega);have e:Q E3 ((x:Z)*(x:Z))=((x*x:Y):Z):=by rw[<- AI];exact pN (by omega)
   have g:Q E3 (((x*x%k:Y):Z)*(x:Z))=((x*x%k*x:Y):Z):=by rw[<- AI];exact pN (by omega)
   have f:Q E3 ((a:Z)*(x:Z))=((a*x:Y):Z):=by rw[<- AI];exact pN (by omega)
   have w:Q E3 (((x*x%k*x:Y):Z)+((a*x:Y):Z))=((x*x%k*x+a*x:Y):Z):=pN (x:=x*x%k*x+a*x) (by omega);have v:Q E3 (((x*x%k*x+a*x:Y):Z)+(b:Z))=((x*x%k*x+a*x+b:Y):Z):=pN (x:=x*x%k*x+a*x+b) (by omega);have u:Q E3 ((x:Z)+1)=((x+1:Y):Z):=pN (x:=x+1) (by omega);rw[e,lU,g,f,w,v,lU,Z8,BD,u,aDQ];have j:o9 a b k x<k:=AR _ (by omega);have r:(x*x%k*x+a*x+b)%k=o9 a b k x:=rfl;rw[r,aAu j];have hs:=aHs a b k x;have p:=wV k (o9 a b k x) k;have d:=AW (show x<=100000 by omega) (show k<=100000 by omega);have t:Q E3 ((pC a b k x:Z)+(jJ k (o9 a b k x) k:Z))=((pC a b k (x+1):Y):Z):=pN (x:=pC a b k x+jJ k (o9 a b k x) k) (by omega);exact⟨by omega,by omega,by omega,j,⟨x+1⟩,⟨by show x+1<=k;omega⟩,⟨⟨rfl,rfl,rfl,⟨rfl,rfl⟩,t,rfl,⟨⟩⟩,rfl,⟨⟩⟩,by show k -(x+1)<k -x;omega⟩
  ·have d:x=k:=by omega
   subst d;rfl
noncomputable def aQC(a b n:Y):Y:=AT (⟨zK a b n,rfl⟩:∃r,r=zK a b n)
theorem tZ(a b n:Y):aQC a b n=zK a b n:=AP (⟨zK a b n,rfl⟩:∃r,r=zK a b n)
noncomputable def aB5:aF
 | [.int .i64 a,.int .i64 b,.int .i64 n]=>E0 (E0 (0<=a/\a<=100000/\0<=b/\b<=100000/\1<=n/\n<=100000),.ret (.int .i64 (aQC a.toNat b.toNat n.toNat)))
 | _=>E1
theorem aVY:bD D3 aB5:=by
 intro ms p r h c;unfold aB5 at h;split at h
 ·rename_i a b n;cases h;obtain⟨h1,h2,h3,h4,h5,h6⟩:=c;obtain⟨a,rfl⟩:∃x:Y,a=x:=⟨a.toNat,by omega⟩;obtain⟨b,rfl⟩:∃x:Y,b=x:=⟨b.toNat,by omega⟩;obtain⟨n,rfl⟩:∃x:Y,n=x:=⟨n.toNat,by omega⟩;rw[Z8,Z8,Z8,tZ];exact aSo a b n (by omega) (by omega) (by omega) (by omega)
 ·simp at h
noncomputable def aLU:Ctr AE:=⟨54,aB5,λargs w=>Tryz.call54 args w,aN bU Tryz.func54 aB5 aVY⟩
section
theorem aI9{α:Type}:∀(l l':O α),l.Nodup->(∀x∈l,x∈l')->l'.length<=l.length->l.Perm l'
 | [],l',_,_,h=>by
  have:l'= []:=DD.1 (by simpa using h);rw[this]
 | x::t,l',d,c,h=>by
  obtain⟨u,v,rfl⟩:=List.append_of_mem (c x (AD ..));have a:=C3.1 d;have e:t.Perm (u++v):=aI9 t (u++v) a.2 (λy b=>by
   have:=c y (AF _ b);simp only[AS,A5] at this⊢;rcases this with q|q|q
   ·exact .inl q
   ·exact V (q ▸ b) a.1
   ·exact .inr q) (by simp at h⊢;omega)
  exact(e.cons x).trans List.perm_middle.symm
section
variable {T:Type} {on:T->Prop} {add:T->T->T} {z:T} {ng:T->T}
def xF(add:T->T->T)(z:T):O T->T
 | []=>z
 | x::r=>add x (xF add z r)
theorem Gp.gsum_on(g:Gp on add z ng):∀l:O T,(∀x∈l,on x)->on (xF add z l)
 | [],_=>g.on_z
 | x::r,h=>g.on_add (h x (AD ..)) (g.gsum_on r λy a=>h y (AF _ a))
theorem Gp.gsum_perm(g:Gp on add z ng){l l':O T}(p:l.Perm l'):(∀x∈l,on x)->xF add z l=xF add z l':=by
 induction p with
 | nil=>intro _;rfl
 | cons x _ f=>intro h;show add x _=add x _;rw[f λy a=>h y (AF _ a)]
 | swap x y l =>
  intro h;have b:=h x (by simp);have a:=h y (by simp);have e:=g.gsum_on l λw i=>h w (by simp[i]);show add y (add x (xF add z l))=add x (add y (xF add z l));rw[<- g.assoc a b e,g.comm a b,g.assoc b a e]
 | trans p _ d c=>intro h;rw[d h,c λy a=>h y (p.mem_iff.2 a)]
theorem Gp.gsum_map(g:Gp on add z ng){p:T}(a:on p):∀l:O T,(∀x∈l,on x)->xF add z (l.map (add p))=add (wB add z l.length p) (xF add z l)
 | [],_=>(g.add_z g.on_z).symm
 | x::r,h=>by
  have b:=h x (AD ..);have e:∀y∈r,on y:=λy f=>h y (AF _ f);have d:=g.gsum_on r e;have c:=g.smul_on a r.length;show add (add p x) (xF add z (r.map (add p)))=add (add (wB add z r.length p) p) (add x (xF add z r));rw[g.gsum_map a r e,<- g.assoc (g.on_add a b) c d,<- g.assoc (g.on_add c a) b d]
  congr 1
  rw[g.comm (g.on_add a b) c,g.assoc c a b]
theorem Gp.lagrange(g:Gp on add z ng){l:O T}(q:l.Nodup)(n:∀x,x∈l↔on x){p:T}(b:on p):wB add z l.length p=z:=by
 have a:∀x∈l,on x:=λx c=>(n x).1 c;have inj:∀x∈l,∀y∈l,add p x=add p y->x=y:=λx c y d e=>by
  have h:add (ng p) (add p x)=add (ng p) (add p y):=by rw[e]
  rw[<- g.assoc (g.on_ng b) b (a x c),<- g.assoc (g.on_ng b) b (a y d),g.comm (g.on_ng b) b,g.inv b,g.z_add (a x c),g.z_add (a y d)] at h;exact h
 have j:(l.map (add p)).Nodup:=by
  rw[DS,BV];exact BJ (λ{x y} c d k e=>k (inj x c y d e)) q
 have f:=aI9 (l.map (add p)) l j (λy d=>by
  obtain⟨x,c,rfl⟩:=AY.1 d;exact(n _).2 (g.on_add b (a x c))) (by simp)
 have h:=g.gsum_perm f λy d=>by
  obtain⟨x,c,rfl⟩:=AY.1 d;exact g.on_add b (a x c)
 rw[g.gsum_map b l a] at h;have i:=g.gsum_on l a;have m:=g.smul_on b l.length;have o:add (add (wB add z l.length p) (xF add z l)) (ng (xF add z l))=add (xF add z l) (ng (xF add z l)):=by rw[h]
 rw[g.assoc m i (g.on_ng i),g.inv i,g.add_z m] at o;exact o
end
def aQD(a b n x:Y)(k:Y):O TR:=((CM k).filter λy=>y*y%n==o9 a b n x).map λy:Y=> .pt (x:Z) ((y:Y):Z) EZ
def aOU(a b n:Y)(k:Y):O TR:=(CM k).flatMap λx=>aQD a b n x n
def ptL(a b n:Y):O TR:= .pt 0 0 EY::aOU a b n n
theorem aH8(a b n x:Y):∀k,(aQD a b n x k).length=jJ n (o9 a b n x) k
 | 0=>rfl
 | k+1=>by
  have:=aH8 a b n x k;unfold aQD at this⊢;rw[CF] at this⊢;rw[C2,DR,BB,this];show _=jJ n (o9 a b n x) k+(if k*k%n=o9 a b n x then 1 else 0);by_cases e:k*k%n=o9 a b n x
  ·simp[e]
  ·simp[e]
theorem aJq(a b n:Y):∀k,1+(aOU a b n k).length=pC a b n k
 | 0=>rfl
 | k+1=>by
  have:=aJq a b n k;unfold aOU at this⊢;rw[C2,List.flatMap_append,BB];show _=pC a b n k+_;rw[<- this,<- aH8 a b n k n];simp;omega
theorem aMZ(a b n:Y):(ptL a b n).length=zK a b n:=by
 show(aOU a b n n).length+1=pC a b n n;rw[<- aJq];omega
theorem aM1{a b n x y:Y}:y*y%n=o9 a b n x↔(n:Z) ∣ (y:Z)*y -((x:Z)*x*x+a*x+b):=by
 have e:(x*x%n*x+a*x+b)%n=(x*x*x+a*x+b)%n:=by
  rw[C1,C1 (x*x%n*x),EK (x*x%n),Nat.mod_mod,<- EK,<- C1 (x*x*x),<- C1]
 unfold o9;rw[e,<- jQ];have c:((x:Z)*x*x+a*x+b)=((x*x*x+a*x+b:Y):Z):=by simp[AI,CG]
 rw[c,<- AI,<- AX,<- AX];omega
theorem aGr{a b n:E5}(c:cL a b n=EY)(t:TR):t∈ptL a b n↔t.on a b n:=by
 unfold ptL;rw[A5];unfold aOU aQD;simp only[A7,AY,C4,CJ,beq_iff_eq];constructor
 ·rintro(rfl|⟨x,hx,y,⟨hy,h⟩,rfl⟩)
  ·exact aCs c
  ·exact aPM c (X:=(x:Z)) (Y:=(y:Z)) ⟨by omega,by omega,by omega,by omega,aM1.1 h⟩
 ·intro h;rcases TR.on_cases h with rfl|⟨X,Y,rfl,h'⟩
  ·exact .inl rfl
  ·obtain⟨x0,x1,y0,y1,d⟩:=h';obtain⟨x,rfl⟩:∃x:E5,X=x:=⟨X.toNat,by omega⟩;obtain⟨y,rfl⟩:∃y:E5,Y=y:=⟨Y.toNat,by omega⟩;exact .inr ⟨x,by omega,y,⟨by omega,aM1.2 d⟩,rfl⟩
theorem aOS(a b n:Y):(ptL a b n).Nodup:=by
 unfold ptL;rw[C3];unfold aOU aQD;refine⟨λh=>?_,?_⟩
 ·simp only[A7,AY] at h;obtain⟨x,_,y,_,e⟩:=h;simp at e
 ·rw[DS,List.pairwise_flatMap];refine⟨λx _=>?_,?_⟩
  ·rw[BV];exact(CY _ List.nodup_range).imp λ{u v} c e=>by
    simp only[TR.pt.injEq] at e;omega
  ·refine List.nodup_range.imp λ{u v} c=>?_;intro s f t d e;obtain⟨y,_,rfl⟩:=AY.1 f;obtain⟨y',_,rfl⟩:=AY.1 d;simp only[TR.pt.injEq] at e;omega
theorem aWt{p:Y}(a:Pri p)(h5:5<=p):PrP p:=⟨by omega,by
 intro h;rcases a.dv 2 (AL (by omega)) with e|e<;>omega,λ_ b=>fA (g8 a) b⟩
theorem aQH{p a b:Y}(e:Pri p)(j:5<=p)(f:cL a b p=EY)(i:oO a b p=EY){t:TR}(d:t.on a b p):cH a p t (zK a b p)= .pt 0 0 EY:=by
 have c:¬(p:Z) ∣ 4*((a:Z)*(a*a))+27*((b:Z)*b):=λh=>aDt (g8 e) h (of_decide_eq_true i);have g:=bCd (aWt e j) f c;rw[aOy g d,<- aMZ];exact g.lagrange (aOS a b p) (aGr f) d
end
def smF(f:Y->Y)(a:Y):Y->Y
 | 0=>0
 | k+1=>smF f a k+f (a+k)
theorem aNx(f:Y->Y)(a i:Y):∀j,smF f a (i+j)=smF f a i+smF f (a+i) j
 | 0=>rfl
 | j+1=>by
  show smF f a (i+j)+f (a+(i+j))=smF f a i+(smF f (a+i) j+f (a+i+j));rw[aNx f a i j,CL,CL a i j]
def smH(f:Y->Y):Y->Y->Y->Y
 | 0,a,n=>cond (CA n 0) 0 (f a)
 | d+1,a,n=>cond (CA n 0) 0 (cond (CA n 1) (f a) (ED (smH f d a (DY n 2)) (smH f d (ED a (DY n 2)) (Nat.sub n (DY n 2)))))
theorem aHl(f:Y->Y):∀(d a n:Y),n<=2^d->smH f d a n=smF f a n
 | 0,a,n,h=>by
  rw[DI] at h
  match n,h with
  | 0,_=>rfl
  | 1,_ =>
   show f a=0+f (a+0);rw[BD,BP]
 | d+1,a,n,h=>by
  unfold smH;cases c:CA n 0 with
  | true=>rw[BH c];rfl
  | false =>
   have n0:n≠0:=λe=>by rw[e] at c;simp at c
   rw[Z5];cases b:CA n 1 with
   | true =>
    rw[BH b];show f a=0+f (a+0);rw[BD,BP]
   | false =>
    have n1:n≠1:=λe=>by rw[e] at b;simp at b
    rw[Z5];rw[BO] at h;show smH f d a (n/2)+smH f d (a+n/2) (n -n/2)=_;rw[aHl f d a (n/2) (by omega),aHl f d (a+n/2) (n -n/2) (by omega),<- aNx]
    congr 1;omega
def aN4(n:Y):Y->Y:=smF (λy=>2048^(y*y%n)) 0
theorem aED(n v:Y):∀k,∃a b,aN4 n k=a*(2048*2048^v)+jJ n v k*2048^v+b/\b*2048<=k*2048^v
 | 0=>⟨0,0,by simp[aN4,smF,jJ],by omega⟩
 | k+1=>by
  obtain⟨a,b,g,c⟩:=aED n v k;have e:aN4 n (k+1)=aN4 n k+2048^(k*k%n):=by
   show smF _ 0 k+2048^((0+k)*(0+k)%n)=_;rw[BD];rfl
  have l:jJ n v (k+1)=jJ n v k+(if k*k%n=v then 1 else 0):=rfl;have m:(k+1)*2048^v=k*2048^v+2048^v:=DH ..;rw[e,g,m,l];rcases Nat.lt_trichotomy (k*k%n) v with q|q|q
  ·rw[r (by omega),BP];refine⟨a,b+2048^(k*k%n),by rw[CL],?_⟩;have d:2048^(k*k%n+1)<=2048^v:=BL (by omega) q;rw[BO] at d;rw[EM];exact Nat.add_le_add c d
  ·rw[FC q,q];refine⟨a,b,?_,CP c (CX ..)⟩;have h:(jJ n v k+1)*2048^v=jJ n v k*2048^v+2048^v:=DH ..;rw[h];generalize a*(2048*2048^v)=u;generalize jJ n v k*2048^v=w;generalize 2048^v=z;omega
  ·obtain⟨j,f⟩:∃j,k*k%n=v+1+j:=⟨k*k%n -(v+1),by omega⟩;rw[r (by omega),BP,f];refine⟨a+2048^j,b,?_,CP c (CX ..)⟩;have i:2048^(v+1+j)=2048^j*(2048*2048^v):=by rw[Nat.pow_add,BO,A2,A2 (2048^v)]
   rw[i,EM];generalize a*(2048*2048^v)=u;generalize jJ n v k*2048^v=w;generalize 2048^j*(2048*2048^v)=z;omega
theorem aY6{n k:Y}(f:k<2048)(v:Y):aN4 n k/2048^v%2048=jJ n v k:=by
 obtain⟨a,c,g,h2⟩:=aED n v k;have d:0<2048^v:=EG (by omega);have b:c<2048^v:=by
  have:k*2048^v<2048*2048^v:=Nat.mul_lt_mul_of_pos_right f d;omega
 have hc:=wV n v k;have e:aN4 n k=2048^v*(a*2048+jJ n v k)+c:=by
  rw[g,CZ,A2 (2048^v) (jJ n v k)];have h:2048^v*(a*2048)=a*(2048*2048^v):=by rw[A2 (2048^v),CB]
  rw[h]
 rw[e,D5 d,D1 b,BP,Nat.add_comm,Nat.add_mul_mod_self_right];exact CC (by omega)
def wA:O Y:= [2,3,5,7,11,13,17,19,23,29,31,37]
def aE7(n:Y):O Y->I
 | []=>EY
 | d::r=>(CA n d || !(CA (C7 n d) 0))&&aE7 n r
theorem aIZ{n:Y}:∀l,aE7 n l=EY->∀d∈l,n=d\/n%d≠0
 | [],_,d,hd=>by simp at hd
 | e::r,h,d,hd=>by
  rw[aE7,Z3,Bool.or_eq_true,DW] at h;rcases A5.1 hd with rfl|hd
  ·rcases h.1 with q|q
   ·exact .inl (BH q)
   ·right;intro w;have w:C7 n d=0:=w;rw[w] at q;simp at q
  ·exact aIZ r h.2 d hd
theorem aOX:∀q,q<41->2<=q->q∈wA\/∃d,d<q/\2<=d/\q%d=0:=by decide +kernel
theorem aFh{q:Y}(a:Pri q)(h:q<41):q∈wA:=by
 rcases aOX q h a.lt with w|⟨d,d1,d2,b⟩
 ·exact w
 ·rcases a.dv d (AL b) with e|e<;>omega
theorem qS{n:Y}(f:1<n)(h2:n<1681)(h:aE7 n wA=EY):Pri n:=by
 refine AV λw=>?_;obtain⟨p,c,d,hsq⟩:=aAe f w;have a:=c.lt;have b:p<41:=by
  rcases BX p 41 with q|q
  ·exact q
  ·have:=AW q q;omega
 rcases aIZ wA h p (aFh c b) with e|e
 ·subst e;have:=A6 n a;omega
 ·exact e (BW d)
def cbN(m a x y:Y):Y:=(y*y+(m -(x*x*x+a*x)%m))%m
theorem aQx{m a x y:Y}(b:0<m):iP m a x y=(cbN m a x y:Z):=by
 have h:=AR (x*x*x+a*x) b;unfold iP cbN;rw[AX,jQ];have e:(((m -(x*x*x+a*x)%m:Y)):Z)=m -((x:Z)*x*x+a*x)%m:=by
  rw[Int.natCast_sub (by omega),AX];simp[AI,CG]
 rw[CG,e,AI];obtain⟨c,d⟩:=iT ((x:Z)*x*x+a*x) m;exact⟨c -1,by rw[Int.mul_sub,<- d];omega⟩
def aY3(p a b:Y):Y:=ED 1 (smH (λx=>C7 (DY (smH (λy=>EW 2048 (C7 (Nat.mul y y) p)) 12 0 p) (EW 2048 (o9 a b p x))) 2048) 12 0 p)
theorem aUI{p:Y}(a b:Y)(h:p<2048):aY3 p a b=zK a b p:=by
 unfold aY3 zK;show 1+smH (λx=>smH (λy=>2048^(y*y%p)) 12 0 p/2048^o9 a b p x%2048) 12 0 p=pC a b p p;rw[aHl _ 12 0 p (by omega),aHl _ 12 0 p (by omega)];have e:(λx=>smF (λy=>2048^(y*y%p)) 0 p/2048^o9 a b p x%2048)=λx=>jJ p (o9 a b p x) p:=by
  funext x
  exact aY6 h _
 rw[e];have:∀k,1+smF (λx=>jJ p (o9 a b p x) p) 0 k=pC a b p k:=λk=>by
  induction k with
  | zero=>rfl
  | succ k ih =>
   show 1+(smF _ 0 k+jJ p (o9 a b p (0+k)) p)=pC a b p k+_;rw[BD,<- CL,ih]
 exact this p
def aMp(p a b N:Y):I:=!(CA (C7 (4*(a*(a*a))+27*(b*b)) p) 0)&&(A3 1 N&&(A3 N 1681&&(aE7 N wA&&grB N p)))
def aCG(p k:Y):I:=aMp p (k%p) (cbN p (k%p) (k/p%p) (1+k%(p -1))) (aY3 p (k%p) (cbN p (k%p) (k/p%p) (1+k%(p -1))))
def hn0:O (Y×Y):= [(7,7),(11,16),(13,12),(17,31),(19,19),(23,29),(29,28),(31,31),(37,50),(41,50),(43,49),(47,53),(53,56),(59,78),(61,68),(67,83),(71,73),(73,75),(79,79),(83,84),(89,95),(97,107),(101,109),(103,111),(107,167),(109,113),(113,120),(127,127),(131,143),(137,141)]
theorem aZe:hn0.all (λq=>aCG q.1 q.2)=EY:=by decide +kernel
def hn1:O (Y×Y):= [(139,152),(149,154),(151,150),(157,158),(163,163),(167,168),(173,201),(179,196),(181,204),(191,204),(193,206),(197,206),(199,199),(211,211),(223,252),(227,231),(229,231),(233,243),(239,255),(241,263),(251,256),(257,256),(263,270),(269,268),(271,299),(277,285),(281,312),(283,283),(293,304),(307,315)]
theorem aZf:hn1.all (λq=>aCG q.1 q.2)=EY:=by decide +kernel
def hn2:O (Y×Y):= [(311,310),(313,326),(317,320),(331,331),(337,338),(347,348),(349,358),(353,382),(359,363),(367,379),(373,377),(379,380),(383,395),(389,421),(397,398),(401,419),(409,408),(419,420),(421,425),(431,435),(433,436),(439,441),(443,448),(449,457),(457,469),(461,470),(463,463),(467,489),(479,496),(487,486)]
theorem aZg:hn2.all (λq=>aCG q.1 q.2)=EY:=by decide +kernel
def hn3:O (Y×Y):= [(491,498),(499,498),(503,510),(509,516),(521,522),(523,587),(541,540),(547,546),(557,571),(563,568),(569,591),(571,571),(577,587),(587,586),(593,605),(599,612),(601,605),(607,608),(613,639),(617,624),(619,628),(631,631),(641,672),(643,652),(647,646),(653,662),(659,669),(661,681),(673,672),(677,700)]
theorem aZh:hn3.all (λq=>aCG q.1 q.2)=EY:=by decide +kernel
def hn4:O (Y×Y):= [(683,688),(691,691),(701,722),(709,739),(719,720),(727,768),(733,734),(739,738),(743,767),(751,754),(757,767),(761,781),(769,781),(773,777),(787,796),(797,806),(809,826),(811,817),(821,840),(823,823),(827,845),(829,830),(839,853),(853,854),(857,864),(859,861),(863,862),(877,904),(881,883),(883,885)]
theorem aZi:hn4.all (λq=>aCG q.1 q.2)=EY:=by decide +kernel
def hn5:O (Y×Y):= [(887,894),(907,932),(911,941),(919,930),(929,950),(937,943),(941,946),(947,970),(953,962),(967,968),(971,973),(977,980),(983,987),(991,1007),(997,999),(1009,1036),(1013,1048),(1019,1024),(1021,1038),(1031,1036),(1033,1041),(1039,1063),(1049,1052),(1051,1051),(1061,1074),(1063,1063),(1069,1070),(1087,1105),(1091,1092),(1093,1100)]
theorem aZj:hn5.all (λq=>aCG q.1 q.2)=EY:=by decide +kernel
def hn6:O (Y×Y):= [(1097,1112),(1103,1130),(1109,1128),(1117,1128),(1123,1124),(1129,1148),(1151,1190),(1153,1160),(1163,1172),(1171,1216),(1181,1190),(1187,1214),(1193,1196),(1201,1216),(1213,1233),(1217,1248),(1223,1243),(1229,1289),(1231,1231),(1237,1246),(1249,1262),(1259,1272),(1277,1276),(1279,1279),(1283,1282),(1289,1295),(1291,1291),(1297,1296),(1301,1300),(1303,1321)]
theorem aZk:hn6.all (λq=>aCG q.1 q.2)=EY:=by decide +kernel
def hn7:O (Y×Y):= [(1307,1317),(1319,1362),(1321,1335),(1327,1337),(1361,1367),(1367,1370),(1373,1411),(1381,1396),(1399,1410),(1409,1427),(1423,1453),(1427,1433),(1429,1448),(1433,1480),(1439,1512),(1447,1447),(1451,1458),(1453,1483),(1459,1479),(1471,1476),(1481,1503),(1483,1485),(1487,1529),(1489,1526),(1493,1529),(1499,1498),(1511,1510)]
theorem aZl:hn7.all (λq=>aCG q.1 q.2)=EY:=by decide +kernel
def aZm:O (Y×Y):=hn0++hn1++hn2++hn3++hn4++hn5++hn6++hn7
theorem aVa:∀q∈aZm,aCG q.1 q.2=EY:=λq a=>by
 unfold aZm at a;simp only[AS] at a;rcases a with ((((((h|h)|h)|h)|h)|h)|h)|h
 ·exact AU.1 aZe q h
 ·exact AU.1 aZf q h
 ·exact AU.1 aZg q h
 ·exact AU.1 aZh q h
 ·exact AU.1 aZi q h
 ·exact AU.1 aZj q h
 ·exact AU.1 aZk q h
 ·exact AU.1 aZl q h
theorem aQ9:∀p,p<1512->7<=p->(aZm.any λq=>CA q.1 p&&Nat.ble (p -1) q.2&&A3 q.2 (p+100))=EY\/∃d,d<38/\2<=d/\p%d=0/\d<p:=by decide +kernel
def qB(n k:Y):Y:=k%n
def cxX(n k:Y):Y:=k/n%n
def zF(n k:Y):Y:=1+k%(n -1)
def sG(n k:Y):Y:=cbN n (qB n k) (cxX n k) (zF n k)
noncomputable def iS(n k:Y):Y:=aQC (qB n k) (sG n k) n
noncomputable def vK(n k:Y):Z:=(aL (iS n k)).getD ((aL (iS n k)).length -1) 0
def lZ(n at_:Y)(a b x y o:Y):Stp:=⟨4,EZ,aA n, [(at_:Z)], [],a,b,n,x,y,EZ,o⟩
noncomputable def gO(L:O Stp)(n k:Y):O Stp:=L++ [bY (vK n k),lZ n L.length (qB n k) (sG n k) (cxX n k) (zF n k) (iS n k)]
noncomputable def nC(L:O Stp)(n k:Y):I:=oO (qB n k) (sG n k) n&&(grB (vK n k) n&&cB (nums (L++ [bY (vK n k)])) (lZ n L.length (qB n k) (sG n k) (cxX n k) (zF n k) (iS n k)))
structure CvS where
 k:Nat
 ex:List Stp
structure CvI (fr K:Nat) (s:CvS):Prop where
 h1:fr<=s.k
 h2:s.k<=K
def cvT(n:Y)(L:O Stp)(s:CvS):MS:=⟨130, [(0,.bp 0 0),(1,.int .u64 n),(7,.int .i64 n),(8,.int .i64 s.k)],
 [⟨EZ,.one (.st [.bs 1 0 L.length])⟩,⟨EZ,.rows 18 (L.length+s.ex.length) (aG (L++s.ex) 200)⟩],1⟩
def aXY(n a K:Y)(L:O Stp):Y->MS->o LoopAnn
 | 4,_=>E0 (.inv CvS (CvI a K) (cvT n L) (λs=>K+1 -s.k))
 | _,_=>E1
structure CwI (n:Nat) (k:Int) (s:CvS):Prop where
 hk:k=(s.k:Int)
 hn:oO (qB n s.k) (sG n s.k) n=true
 hg:grB (vK n s.k) n=true
noncomputable def cwT(n:Y)(L:O Stp)(s:CvS):MS:=⟨130, [(0,.bp 0 0),(1,.int .u64 n),(7,.int .i64 n),(8,.int .i64 s.k),(17,.int .i64 L.length)],
 [⟨EZ,.one (.st [.bs 1 0 (L.length+2)])⟩,⟨EZ,.rows 18 (L.length+2) (aG (gO L n s.k) 200)⟩],1⟩
noncomputable def bB2(n:Y)(L:O Stp):Y->MS->o CutAnn
 | 16,e=>(match bI 8 e.tm with
  | .int _ k=>E0 (.mk CvS (CwI n k) (cwT n L))
  | _=>E1)
 | _,_=>E1
def fzC:Y->O Y
 | 14=> [1000000]
 | 15=> [1000000]
 | 999994=> [0]
 | 999993=> [0]
 | _=> []
def zA(n k:Y):Z:=tmod (k:Z) (n:Z)
def zX(n k:Y):Z:=tmod (Q E3 (FD (k:Z) (n:Z))) (n:Z)
def zY(n k:Y):Z:=wrap E3 (1+y (k:Z) (Q E3 ((n:Z) -1)))
def zB(n k:Y):Z:=iP (n:Z) (zA n k) (zX n k) (zY n k)
noncomputable def zO(n k:Y):Y:=aQC (U (zA n k)) (U (zB n k)) (U (n:Z))
noncomputable def zL(n k:Y):O Z:=aL (U (Q E2 ((zO n k:Y):Z)))
noncomputable def zQ(n k:Y):Z:=(zL n k).getD (U (Q E3 (((zL n k).length:Z) -1))) 0
theorem bBa(L:O Stp)(n c K:Y)(a:_)(e:a=(n:Z))(b:_)(d:b=(t L:Z)):((a =0->W)/\(∃i,CvI (c%n) K i/\(0=0/\ a = a /\Q E3 a = a /\Q E3 (y (c:Z) a)=(CvS.k i:Z)/\u)/\((0=0/\t L=t L)/\u)/\(t L=t L+t (CvS.ex i)/\LeFun (t L) (aG L 200) (aG (L++CvS.ex i) 200))/\u)/\∀(i:CvS),CvI (c%n) K i->(a =0->W)/\(a =0->W)/\(Q E3 (a -1)=0->W)/\(a =0->W)/\(1<= a /\ a <=100000/\0<=zA n (CvS.k i)/\zA n (CvS.k i)<=100000/\0<=zX n (CvS.k i)/\zX n (CvS.k i)<=100000/\0<=zY n (CvS.k i)/\zY n (CvS.k i)<=100000)/\(64<=200/\64<=200/\64<=200)/\bif !oO (zA n (CvS.k i)) (zB n (CvS.k i)) a then ∃j,CvI (c%n) K j/\((0=0/\ a = a /\ a = a /\Q E3 ((CvS.k i:Z)+1)=(CvS.k j:Z)/\u)/\((0=0/\t L=t L)/\u)/\(t L+t (CvS.ex i)=t L+t (CvS.ex j)/\LeFun (t L+t (CvS.ex i)) (aG (L++CvS.ex i) 200) (aG (L++CvS.ex j) 200))/\u)/\K+1 -CvS.k j<K+1 -CvS.k i else E4 (zB n (CvS.k i))<9223372036854775808/\(a =0->W)/\(0<=zA n (CvS.k i)/\zA n (CvS.k i)<=100000/\0<=zB n (CvS.k i)/\zB n (CvS.k i)<=100000/\1<= a /\ a <=100000)/\(1<=Q E2 (zO n (CvS.k i):Z)/\Q E2 (zO n (CvS.k i):Z)<4611686018427387904)/\(0<=Q E3 ((t (zL n (CvS.k i)):Z) -1)/\Q E3 ((t (zL n (CvS.k i)):Z) -1)<(t (zL n (CvS.k i)):Z))/\(0<=zQ n (CvS.k i)/\zQ n (CvS.k i)<18446744073709551616)/\(0<= a /\ a <18446744073709551616)/\(64<=100000/\64<=100000)/\bif !grB (zQ n (CvS.k i)) a then ∃j,CvI (c%n) K j/\((0=0/\ a = a /\ a = a /\Q E3 ((CvS.k i:Z)+1)=(CvS.k j:Z)/\u)/\((0=0/\t L=t L)/\u)/\(t L+t (CvS.ex i)=t L+t (CvS.ex j)/\LeFun (t L+t (CvS.ex i)) (aG (L++CvS.ex i) 200) (aG (L++CvS.ex j) 200))/\u)/\K+1 -CvS.k j<K+1 -CvS.k i else (0<=zQ n (CvS.k i)/\zQ n (CvS.k i)<18446744073709551616)/\(t L<=t L+t (CvS.ex i)/\(t L+AM (News.rows 18 1 (aV [aAv (zQ n (CvS.k i))])))*288<=140737488355328)/\((0<= a /\ a <18446744073709551616)/\eW (zX n (CvS.k i))/\eW (zY n (CvS.k i))/\eW (zO n (CvS.k i):Z)/\(t L+AM (News.rows 18 1 (aV [aAv (zQ n (CvS.k i))]))<=t L+1/\(t L+AM (News.rows 18 1 (aV [aAv (zQ n (CvS.k i))]))+AM (News.rows 18 1 (aV [MV.st [MV.int E3 (4:Z),MV.big a 64,MV.sl 1 1 λi=>MV.int E3 (v [b] i 0),MV.val (A1 E1 0 0),MV.st [MV.big (zA n (CvS.k i)) 64,MV.big (zB n (CvS.k i)) 64,MV.big a 64],MV.st [MV.big (zX n (CvS.k i)) 64,MV.big (zY n (CvS.k i)) 64,MV.bool EZ],MV.big (zO n (CvS.k i):Z) 64]])))*288<=140737488355328)/\∃i_1,CwI n (CvS.k i:Z) i_1/\(0=0/\ a = a /\ a = a /\(CvS.k i:Z)=(CvS.k i_1:Z)/\ b = b /\u)/\((0=0/\t L+AM (News.rows 18 1 (aV [aAv (zQ n (CvS.k i))]))+AM (News.rows 18 1 (aV [MV.st [MV.int E3 (4:Z),MV.big a 64,MV.sl 1 1 λi=>MV.int E3 (v [b] i 0),MV.val (A1 E1 0 0),MV.st [MV.big (zA n (CvS.k i)) 64,MV.big (zB n (CvS.k i)) 64,MV.big a 64],MV.st [MV.big (zX n (CvS.k i)) 64,MV.big (zY n (CvS.k i)) 64,MV.bool EZ],MV.big (zO n (CvS.k i):Z) 64]]))=t L+2)/\u)/\(t L+AM (News.rows 18 1 (aV [aAv (zQ n (CvS.k i))]))+1=t L+2/\LeFun (t L+AM (News.rows 18 1 (aV [aAv (zQ n (CvS.k i))]))+1) (λq=>bif A3 q (t L+AM (News.rows 18 1 (aV [aAv (zQ n (CvS.k i))]))) then bif A3 q (t L) then aG (L++CvS.ex i) 200 q else aV [aAv (zQ n (CvS.k i))] (q -t L) else aV [MV.st [MV.int E3 (4:Z),MV.big a 64,MV.sl 1 1 λi=>MV.int E3 (v [b] i 0),MV.val (A1 E1 0 0),MV.st [MV.big (zA n (CvS.k i)) 64,MV.big (zB n (CvS.k i)) 64,MV.big a 64],MV.st [MV.big (zX n (CvS.k i)) 64,MV.big (zY n (CvS.k i)) 64,MV.bool EZ],MV.big (zO n (CvS.k i):Z) 64]] (q -(t L+AM (News.rows 18 1 (aV [aAv (zQ n (CvS.k i))]))))) (aG (gO L n (CvS.k i_1)) 200))/\u)/\∀(i_1:CvS),CwI n (CvS.k i:Z) i_1->(t L+2<=t L+2/\0<=Q E3 (b +1)/\Q E3 (b +1)<(↑(t L+2):Z)/\okL (t L+2) (aG (gO L n (CvS.k i_1)) 200)/\fineL (aD (t L+2) (aG (gO L n (CvS.k i_1)) 200)) (U (Q E3 (b +1))))/\bif cB (nums (S (U (Q E3 (b +1))) (aD (t L+2) (aG (gO L n (CvS.k i_1)) 200)))) (v (aD (t L+2) (aG (gO L n (CvS.k i_1)) 200)) (U (Q E3 (b +1))) aE) then ((0=0/\t L+2=t (gO L n K))/\u)/\(t (gO L n K)<=t L+2/\LeFun (t (gO L n K)) (aG (gO L n (CvS.k i_1)) 200) (aG (gO L n K) 200))/\Q E3 (b +1)=(t (gO L n K):Z) -1 else (0<= b /\ b <=(↑(t L+2):Z))/\∃j,CvI (c%n) K j/\((0=0/\ a = a /\ a = a /\Q E3 ((CvS.k i_1:Z)+1)=(CvS.k j:Z)/\u)/\((0=0/\U b =t L)/\u)/\(t L+2=t L+t (CvS.ex j)/\LeFun (t L+2) (aG (gO L n (CvS.k i_1)) 200) (aG (L++CvS.ex j) 200))/\u)/\K+1 -CvS.k j<K+1 -CvS.k i)=mD (aQN [aLz,aFM,aFU,aLU,aBk,jZ,aFT,tV,cK] [] fzC (aXY n (c%n) K L) (bB2 n L)) ER 18 [.int .u64 n,.int .u64 c] L.length (aG L 200) (gO L n K).length (aG (gO L n K) 200) (.int .i64 (((gO L n K).length:Z) -1)):=by subst e d;kernel_rfl
structure RndOk (n k:Nat):Prop where
 a:qB n k<n
 x:cxX n k<n
 y1:1<=zF n k
 y:zF n k<n
 b:sG n k<n
 o:2<=iS n k
 o2:iS n k<9007199254740992
 q:Pri (vK n k).toNat
 qd:(vK n k).toNat ∣ iS n k
 cv:cL (qB n k) (sG n k) n=true
 on:mF (qB n k) (sG n k) n (cxX n k) (zF n k) false=true
 len:1<=(aL (iS n k)).length
 qle:(vK n k).toNat<=iS n k
theorem aKO{n:Y}(f:Pri n)(h7:7<=n)(j:n<=2000)(k:Y):RndOk n k:=by
 have ho:=jD f (by omega);have A:qB n k<n:=AR _ (by omega);have o:cxX n k<n:=AR _ (by omega);have l:zF n k<n:=by have:=AR k (show 0<n -1 by omega);unfold zF;omega
 have w:sG n k<n:=AR _ (by omega);have v:iP n (qB n k) (cxX n k) (zF n k)=(sG n k:Z):=aQx (by omega);have on:=aQJ (m:=n) (a:=qB n k) (x:=cxX n k) (y:=zF n k) (by omega) (by omega) (by omega) (by omega) (by omega) (by omega) (by omega) (by omega);rw[v] at on;have d:=aI7 on;have s:2<=iS n k:=by
  unfold iS;rw[tZ,<- aMZ];have b:=(aGr d (.pt 0 0 EY)).2 (aCs d);have c:=(aGr d (.pt (cxX n k) (zF n k) EZ)).2 on
  match hl:ptL (qB n k) (sG n k) n,b,c with
  | [],b,_=>simp at b
  | [z],b,c =>
   rw[AO] at b c;rw[<- b] at c;simp at c
  | _::_::r,_,_=>simp
 have q:iS n k<9007199254740992:=by
  unfold iS;rw[tZ];have:=aHs (qB n k) (sG n k) n n;have h3:=AW j j;unfold zK;omega
 have P:=fZ (show 1<=iS n k by omega);rw[<- fN] at P;have h:1<=(aL (iS n k)).length:=by
  obtain⟨p,f,u⟩:=qM _ (iS n k) (Z0 _) (by omega);exact DF (P.all p f u)
 have t:vK n k∈aL (iS n k):=eU (by omega);obtain⟨p,e,q1,i,_⟩:=P.mem _ t;have g:(vK n k).toNat=p:=by omega
 exact⟨A,o,CX 1 _,l,w,s,q,by rw[g];exact q1,by rw[g];exact i,d,on,h,by rw[g];exact BR (by omega) i⟩
structure RndEq (n k:Nat):Prop where
 a:zA n k=(qB n k:Int)
 x:zX n k=(cxX n k:Int)
 y:zY n k=(zF n k:Int)
 b:zB n k=(sG n k:Int)
 o:zO n k=iS n k
 l:zL n k=aL (iS n k)
 q:zQ n k=vK n k
theorem bAU{n k:Y}(R:RndOk n k)(h7:7<=n)(h2:n<=2000)(hk:k<1152921504606846976):RndEq n k:=by
 have a:zA n k=(qB n k:Z):=lU k n;have hd:k/n<=k:=D6 k n;have ex:zX n k=(cxX n k:Z):=by
  unfold zX;rw[DA (by omega),<- CD,pN (by omega),lU];rfl
 have b:zY n k=(zF n k:Z):=by
  unfold zY;rw[show(n:Z) -1=((n -1:Y):Z) by omega,pN (by omega),lU];have:=AR k (show 0<n -1 by omega);exact pN (x:=1+k%(n -1)) (by omega)
 have f:zB n k=(sG n k:Z):=by unfold zB;rw[a,ex,b];exact aQx (by omega)
 have c:zO n k=iS n k:=by unfold zO iS;rw[a,f,Z8,Z8,Z8]
 have j:=R.o2;have d:zL n k=aL (iS n k):=by unfold zL;rw[c,u6 (by omega),Z8]
 have hlen:=R.len;have hl2:(aL (iS n k)).length<=100:=by
  have P:=fZ (show 1<=iS n k by have:=R.o;omega);have i:=m5 (show 1<=iS n k by have:=R.o;omega);rw[<- fN] at P i;have:=qP (aL (iS n k)) λx g=>by obtain⟨p,e,_,_,h⟩:=P.mem x g;omega
  have h53:AN (iS n k)<53:=(B9 (by have:=R.o;omega)).2 j;omega
 refine⟨a,ex,b,f,c,d,?_⟩;unfold zQ vK;rw[d,show((aL (iS n k)).length:Z) -1=(((aL (iS n k)).length -1:Y):Z) by omega,pN (by omega),Z8]
theorem bDa{A:O Stp}{f:Y->MV}(i:LeFun A.length f (aG A 200)){v:MV}(hv:isStp 200 v){s:Stp}(g:oU v=s):LeFun (A.length+1) (λq=>bif A3 q A.length then f q else aV [v] (q -A.length)) (aG (A++ [s]) 200):=by
 refine⟨λq hq c w a r=>?_⟩;have r:RepC c w (bif A3 q A.length then f q else aV [v] (q -A.length)) a:=r;show RepC c w (rA ((A++ [s]).getD q aE) 200) a;by_cases b:q<A.length
 ·have e:A3 q A.length=EY:=by simpa [CE] using b
  rw[e,Z6] at r;have k:(A++ [s]).getD q aE=A.getD q aE:=by rw[AC,AC,BQ b]
  rw[k];exact i.h q b c w a r
 ·have d:q=A.length:=by omega
  subst d;have e:A3 A.length A.length=EZ:=by
   cases j:A3 A.length A.length with
   | false=>rfl
   | true=>exact V (CE ▸ j) (Nat.lt_irrefl _)
  rw[e,Z5,Nat.sub_self] at r;rw[wF A s,<- g];exact hv.h c w a r
theorem aI6{z:Z}(h1:0<=z)(h2:z<18446744073709551616):okS (bY z):=⟨aR _,by
 have:=bQ (n:=z.natAbs) (b:=64) (by omega);show(aA z.natAbs).length<=6;omega,Z9 _,Z9 _⟩
def aUL(n at_:Y)(a b x y o:Y):MV:=MV.st [MV.int E3 (4:Z),MV.big (↑n:Z) (64:Y),MV.sl (1:Y) (1:Y) λi=>MV.int E3 (v [(at_:Z)] i (0:Z)),MV.val (A1 E1 (0:Y) (0:Y)),MV.st [MV.big (a:Z) 64,MV.big (b:Z) 64,MV.big (↑n:Z) (64:Y)],MV.st [MV.big (x:Z) 64,MV.big (y:Z) 64,MV.bool EZ],MV.big (o:Z) (64:Y)]
theorem aUM{n at_ a b x y o:Y}(c:n<2^160):isOk (aUL n at_ a b x y o):=j9 (by omega) (by omega) (by omega) (by omega) (by omega) (by omega) (nO _) nN (by simpa using c) (by show 1<=90;omega) (by show 0<=1000;omega)
theorem aQG(n at_ a b x y o:Y):oU (aUL n at_ a b x y o)=lZ n at_ a b x y o:=by
 show(⟨4,C ((n:Z)<0),aA (n:Z).natAbs, [(at_:Z)], [],a,b,n,x,y,EZ,o⟩:Stp)=_;rw[Y1 (show ¬(n:Z)<0 by omega)];rfl
theorem wW(L:O Stp)(n k:Y):(gO L n k).length=L.length+2:=by simp[gO]
theorem aN2(L:O Stp)(n k:Y):(gO L n k).take (L.length+1)=L++ [bY (vK n k)]:=by
 unfold gO;rw[List.take_append,DE (by omega)];simp
theorem aQF(L:O Stp)(n k:Y):(gO L n k).getD (L.length+1) aE=lZ n L.length (qB n k) (sG n k) (cxX n k) (zF n k) (iS n k):=by simp[gO,AC]
theorem aL7(n at_ a b x y o:Y):(lZ n at_ a b x y o).n=n:=by
 show(if EZ=EY then -(wv (aA n)) else wv (aA n))=(n:Z);rw[r (by decide),hH]
theorem aL8{n at_ a b x y o:Y}(hn:n<18446744073709551616):okS (lZ n at_ a b x y o):=⟨aR _,by
 have:=bQ (n:=n) (b:=64) (by omega);show(aA n).length<=6;omega,by show 1<=90;omega,by show 0<=1000;omega⟩
theorem aY4(L:E6 Stp)(n a K:E5)(hp:Pri n)(C:7<=n)(o:n<=2000)(y:a%n<=K)(hK:K<1152921504606846976)(hL:okT L)(hl:L.length<=900000)(hf:fineL L L.length)(A:nC L n K=EY)(q:∀k,a%n<=k->k<K->nC L n k=EZ) :
  ∃E:Env AE,mD E ER 18 [.int .u64 n,.int .u64 a] L.length (aG L 200) (gO L n K).length (aG (gO L n K) 200) (.int .i64 (((gO L n K).length:E7) -1)):=by
 refine⟨aQN [aLz,aFM,aFU,aLU,aBk,jZ,aFT,tV,cK] [] fzC (aXY n (a%n) K L) (bB2 n L),?_⟩;rw[<- bBa L n a K _ rfl _ rfl];have hfm:a%n<n:=AR _ (by omega);have e1:E8 E3 (n:E7)=(n:E7):=pN (by omega);have e2:E8 E3 (tmod (a:E7) (n:E7))=((a%n:E5):E7):=by rw[lU,pN (by omega)]
 have e3:E8 E3 ((n:E7) -1)≠0:=by rw[show(n:E7) -1=((n -1:E5):E7) by omega,pN (by omega)];omega
 have e4:E8 E3 ((L.length:E7)+1)=((L.length+1:E5):E7):=pN (x:=L.length+1) (by omega);rw[e1,e2,e4,Z8];have D:∀m:MV,AM (News.rows 18 1 (aV [m]))=1:=λ_=>rfl;refine⟨by omega,⟨⟨a%n, []⟩,⟨Z0 _,y⟩,⟨rfl,rfl,rfl,rfl,⟨⟩⟩,⟨⟨rfl,rfl⟩,⟨⟩⟩,⟨rfl,by
  show LeFun L.length (aG L 200) (aG (L++ []) 200);rw[B2];exact AK⟩,⟨⟩⟩,λs I=>?_⟩
 obtain⟨k,ex⟩:=s;obtain⟨z,V⟩:=I;dsimp only at z V⊢;have R:=aKO hp C o k;obtain⟨q1,U,T,S,Q,O,N⟩:=bAU R C o (by omega);rw[q1,U,T,S,Q,O,N,D,D];obtain⟨r1,r2,r3,r4,r5,r6,H,G,r9,r10,r11,r12,r13⟩:=R;have r8':=G.lt;have F:E8 E3 ((k:E7)+1)=((k+1:E5):E7):=pN (x:=k+1) (by omega);rw[F,u6 (by omega)];have e6:E8 E3 (((aL (iS n k)).length:E7) -1)=(((aL (iS n k)).length -1:E5):E7):=by
  have hl2:(aL (iS n k)).length<=1000:=by
   have P:=fZ (show 1<=iS n k by omega);have hw:=m5 (show 1<=iS n k by omega);rw[<- fN] at P hw;have:=qP (aL (iS n k)) λx Z=>by obtain⟨p,e,_,_,h⟩:=P.mem x Z;omega
   have h53:AN (iS n k)<53:=(B9 (by omega)).2 H;omega
  rw[show((aL (iS n k)).length:E7) -1=(((aL (iS n k)).length -1:E5):E7) by omega,pN (by omega)]
 rw[e6];have next:nC L n k=EZ->∃j,CvI (a%n) K j/\(((0:E5)=0/\(↑n:E7)=(↑n:E7)/\(↑n:E7)=(↑n:E7)/\((k+1:E5):E7)=(↑(CvS.k j):E7)/\E9)/\(((0:E5)=0/\FE L=FE L)/\E9)/\(FE L+FE ex=FE L+FE (CvS.ex j)/\LeFun (FE L+FE ex) (aG (L++ex) (200:E5)) (aG (L++CvS.ex j) (200:E5)))/\E9)/\K+1 -CvS.k j<K+1 -k:=λd=>by
  have r:k≠K:=λe=>by rw[e,A] at d;exact FA d (by decide)
  exact⟨⟨k+1,ex⟩,⟨by show a%n<=k+1;omega,by show k+1<=K;omega⟩,⟨⟨rfl,rfl,rfl,rfl,⟨⟩⟩,⟨⟨rfl,rfl⟩,⟨⟩⟩,⟨rfl,AK⟩,⟨⟩⟩,by show K+1 -(k+1)<K+1 -k;omega⟩
 refine⟨by omega,by omega,e3,by omega,by omega,by omega,?_⟩;cases c:oO (qB n k) (sG n k) n with
 | false =>
  exact next (by unfold nC;rw[c];rfl)
 | true =>
 show _/\_;refine⟨by omega,by omega,by omega,by omega,by omega,by omega,by omega,by omega,?_⟩;cases l:grB (vK n k) n with
 | false =>
  exact next (by unfold nC;rw[c,l];rfl)
 | true =>
 show _/\_;have hv:isOk (aUL n L.length (qB n k) (sG n k) (cxX n k) (zF n k) (iS n k)):=aUM (DT o (by decide));have i:=aFI (M:=L) (ex:=ex) (aNE (vK n k)) (rfl:oU (aAv (vK n k))=bY (vK n k));have g:(L++ [bY (vK n k)]).length=L.length+1:=by simp
 rw[<- g] at i;have b:=bDa i hv.stp (aQG n L.length (qB n k) (sG n k) (cxX n k) (zF n k) (iS n k));rw[g,BI] at b;unfold zG aUL at b;have okC:okT (gO L n k):=⟨by rw[wW];omega,λs hs=>by
  unfold gO at hs;rcases AS.1 hs with hs|hs
  ·exact hL.ok s hs
  ·rcases A5.1 hs with rfl|hs
   ·exact aI6 (by omega) (by omega)
   ·rw[AO.1 hs];exact aL8 (by omega)⟩
 have okl:=qQ okC;rw[wW] at okl;refine⟨by omega,by omega,⟨by omega,by omega,by omega,by omega,⟨Z0 _,by omega⟩,⟨k, []⟩,⟨rfl,c,l⟩,⟨rfl,rfl,rfl,rfl,rfl,⟨⟩⟩,⟨⟨rfl,rfl⟩,⟨⟩⟩,⟨rfl,b⟩,⟨⟩⟩,λs2 J=>?_⟩;obtain⟨k',ex'⟩:=s2;obtain⟨Y,X,W⟩:=J;dsimp only at Y X W⊢;have t:k'=k:=by omega
 subst t;rw[aOY (wW L n k'),aN2,aQF];refine⟨⟨Z0 _,by omega,by omega,okl,⟨λj hj=>?_⟩⟩,?_⟩
 ·by_cases f:j<L.length
  ·have:(gO L n k').getD j aE=L.getD j aE:=by unfold gO;rw[AC,AC,BQ f]
   rw[this];exact hf.h j f
  ·have v:j=L.length:=by omega
   subst v;have:(gO L n k').getD L.length aE=bY (vK n k'):=by simp[gO,AC]
   rw[this];exact aHt (by omega)
 ·cases hs:cB (nums (L++ [bY (vK n k')])) (lZ n L.length (qB n k') (sG n k') (cxX n k') (zF n k') (iS n k')) with
  | true =>
   have B:nC L n k'=EY:=by unfold nC;rw[c,l,hs];rfl
   have u:k'=K:=by
    rcases BX k' K with w|w
    ·rw[q k' z w] at B;exact FA B (by decide)
    ·omega
   subst u;rw[wW];exact⟨⟨⟨rfl,rfl⟩,⟨⟩⟩,⟨Z0 _,AK⟩,by omega⟩
  | false =>
   have d:nC L n k'=EZ:=by unfold nC;rw[c,l,hs];rfl
   have r:k'≠K:=λe=>by rw[e,A] at d;exact FA d (by decide)
   exact⟨by omega,⟨k'+1, [bY (vK n k'),lZ n L.length (qB n k') (sG n k') (cxX n k') (zF n k') (iS n k')]⟩,⟨by show a%n<=k'+1;omega,by show k'+1<=K;omega⟩,⟨⟨rfl,rfl,rfl,F,⟨⟩⟩,⟨⟨rfl,Z8 _⟩,⟨⟩⟩,⟨rfl,AK⟩,⟨⟩⟩,by show K+1 -(k'+1)<K+1 -k';omega⟩
noncomputable def aIc(L:O Stp)(n a:Y):Y:=AT (⟨srF (nC L n) 1125899906842624 (a%n),rfl⟩:∃r,r=srF (nC L n) 1125899906842624 (a%n))
theorem aL5(L:O Stp)(n a:Y):aIc L n a=srF (nC L n) 1125899906842624 (a%n):=AP (⟨srF (nC L n) 1125899906842624 (a%n),rfl⟩:∃r,r=srF (nC L n) 1125899906842624 (a%n))
noncomputable def aCK(L:O Stp)(n a:Y):O Stp:=AT (⟨gO L n (aIc L n a),rfl⟩:∃r,r=gO L n (aIc L n a))
theorem aL6(L:O Stp)(n a:Y):aCK L n a=gO L n (aIc L n a):=AP (⟨gO L n (aIc L n a),rfl⟩:∃r,r=gO L n (aIc L n a))
structure curP (m:Nat) (g:Nat->MV) (n fr:Int):Prop where
 pr:Pri n.toNat
 n7:7<=n
 n2:n<=2000
 f0:0<=fr
 f6:fr<1099511627776
 ok:okL m g
 fine:fineL (aD m g) m
 len:m<=900000
 yes:∃k,n.toNat -1<=k/\k<1099511627776/\nC (aD m g) n.toNat k=true
noncomputable def aM7:O MV->Y->(Y->MV)->o (OProp×Y×(Y->MV)×MV)
 | [.int .u64 n,.int .u64 a],m,g=>E0 (E0 (curP m g n a),(aCK (aD m g) n.toNat a.toNat).length,aG (aCK (aD m g) n.toNat a.toNat) 200,.int .i64 (((aCK (aD m g) n.toNat a.toNat).length:Z) -1))
 | _,_,_=>E1
theorem aUN:POk AE 28 18 aM7:=mX bU Tryz.func28 aM7 λms m g p n' g' v c o=>by
 unfold aM7 at c;split at c
 ·rename_i e d;simp only[Z1,Z2] at c;obtain⟨rfl,rfl,rfl,rfl⟩:=c;have H:curP m g e d:=o;obtain⟨n,rfl⟩:∃n:Y,e=n:=⟨e.toNat,by have:=H.n7;omega⟩;obtain⟨a,rfl⟩:∃n:Y,d=n:=⟨d.toNat,by have:=H.f0;omega⟩;obtain⟨pr,n7,n2,d,f6,ok,fine,len,l,y1,y2,k⟩:=H;rw[Z8] at *;rw[Z8] at *;have f:=dD m g;have b:fineL (aD m g) (aD m g).length:=by rw[f];exact fine
  have hfm:a%n<n:=AR _ (by omega);have j:=aHp (nC (aD m g) n) 1125899906842624 (a%n);have q:=aKX (nC (aD m g) n) 1125899906842624 (a%n);have i:=aCp (nC (aD m g) n) 1125899906842624 (a%n);have h:=yZ (nC (aD m g) n) 1125899906842624 (a%n) l (by omega) (by omega) k;rw[<- aL5] at j q i h;have:=aY4 (aD m g) n a (aIc (aD m g) n a) pr (by omega) (by omega) j (by omega) ok.T (by omega) b h i;rw[<- aL6,f] at this;exact⟨aG (aD m g) 200,iW ok.stp,this⟩
 ·simp at c
noncomputable def bBX:PCtr AE:=⟨28,18,aM7,λargs w=>Tryz.call28 args w,aUN⟩
theorem aSc{N:Y}(b:Pri N):aL N= [(N:Z)]:=by
 have g:=b.lt;have P:=fZ (show 1<=N by omega);rw[<- fN] at P;have a:∀x∈aL N,x=(N:Z):=λx f=>by
  obtain⟨p,rfl,q1,d,_⟩:=P.mem x f;rw[q1.eq_of_dvd b d]
 have c:=P.all N b (Nat.dvd_refl N)
 match hl:aL N,c,a,P.pw with
 | [],c,_,_=>simp at c
 | [x],_,a,_=>rw[a x (AD ..)]
 | x::y::r,_,a,e =>
  have g:=a x (AD ..);have h2:=a y (AF _ (AD ..));have:=(DP.1 e).1 y (AD ..);omega
theorem aQ5{p a b N:Y}(h:aMp p a b N=EY):¬p ∣ 4*(a*(a*a))+27*(b*b)/\Pri N/\N<1681/\grB N p=EY:=by
 unfold aMp at h;simp only[Z3,DW,CE] at h;obtain⟨d,j,c,i,g⟩:=h;refine⟨λf=>?_,qS j c i,c,g⟩;have e:C7 (4*(a*(a*a))+27*(b*b)) p=0:=BW f;rw[e] at d;simp at d
theorem aOo{n:Y}(f:Pri n)(g:7<=n)(i:n<1512):∃k,n -1<=k/\k<n+100/\aCG n k=EY:=by
 rcases aQ9 n i g with h|⟨d,_,d2,l,d4⟩
 ·rw[List.any_eq_true] at h;obtain⟨q,c,h⟩:=h;simp only[Z3,CE] at h;obtain⟨⟨b,a⟩,j⟩:=h;have b:=BH b;have a:=Nat.le_of_ble_eq_true a;have:=aVa q c;rw[b] at this;exact⟨q.2,a,j,this⟩
 ·rcases f.dv d (AL l) with e|e<;>omega
theorem aOx(A M X Y:Z):cH A M (.pt X Y EZ) 1= .pt X Y EZ:=by
 rw[sX (by decide),show 1/2=0 from rfl,pU];rfl
theorem aQI{n k:Y}(d:Pri n)(p:7<=n)(s:n<=2000)(o:Pri (iS n k))(j:vK n k=(iS n k:Z))(c:oO (qB n k) (sG n k) n=EY)(l:grB (iS n k) n=EY)(L:O Stp) :
  cB (nums (L++ [bY (vK n k)])) (lZ n L.length (qB n k) (sG n k) (cxX n k) (zF n k) (iS n k))=EY:=by
 have R:=aKO d p s k;have h1:=o.lt;have h:(nums (L++ [bY (vK n k)])).length=L.length+1:=by simp[nums]
 have b:(nums (L++ [bY (vK n k)])).getD L.length 0=(iS n k:Z):=by
  have:(bY (vK n k)).n=(iS n k:Z):=by rw[j];exact aSP (by omega)
  simp[nums,AC,this]
 have e:cC (nums (L++ [bY (vK n k)])) [(L.length:Z)] []=E0 [(iS n k:Z)]:=by
  rw[nT,Z8,b,h,Y0 (show(0:Z)<=L.length by omega),Y0 (show(L.length:Z)<((L.length+1:Y):Z) by omega)];rfl
 unfold cB;rw[aL7,show(lZ n L.length (qB n k) (sG n k) (cxX n k) (zF n k) (iS n k)).can=EY from wT n,Y0 (show(1:Z)<n by omega),BY,BY];show(match cC (nums (L++ [bY (vK n k)])) [(L.length:Z)] [] with|none=>EZ|some q=>zM (lZ n L.length (qB n k) (sG n k) (cxX n k) (zF n k) (iS n k)).n 0 (qB n k) (sG n k) n (cxX n k) (zF n k) (iS n k) EZ q)=EY;rw[e,aL7];dsimp only;have a:=R.on;have g:bE (qB n k) (sG n k) n ((iS n k:Z)/(iS n k:Z)) (cxX n k) (zF n k) EZ=⟨cxX n k,zF n k,EZ,0,0⟩:=by
  rw[Int.ediv_self (by omega)];unfold bE;rw[a,Z6,Y1 (show ¬(1:Z)<0 by omega),Z5,show(1:Z).natAbs=1 from rfl,aOx];rfl
 have f:bE (qB n k) (sG n k) n (iS n k:Z) (cxX n k) (zF n k) EZ=⟨0,0,EY,0,0⟩:=by
  unfold bE;have i:=aQH (t:= .pt (cxX n k) (zF n k) EZ) d (by omega) R.cv c a;rw[<- tZ] at i;rw[a,Z6,Y1 (show ¬(iS n k:Z)<0 by omega),Z5,BF];show(cH (qB n k) n (.pt (cxX n k) (zF n k) EZ) (iS n k)).rs=_;rw[show iS n k=aQC (qB n k) (sG n k) n from rfl,i];rfl
 have r:gcd n 6=1:=by
  rw[EF];exact aBt d λm=>by
   have:=BS (by decide) m;have:n=7\/n<7:=by omega
   omega
 unfold oO at c;unfold zM;dsimp only;rw[g];dsimp only;rw[f,a,l,of_decide_eq_true c,r,Y0 (show(3:Z)<n by omega),Y0 (show(0:Z)<iS n k by omega),Int.emod_self,Y0 (rfl:(n:Z)=n)];rfl
theorem aId{n:Y}(b:Pri n)(g:7<=n)(m:n<1512)(L:O Stp):∃k,n -1<=k/\k<1099511627776/\nC L n k=EY:=by
 obtain⟨k,j,k2,a⟩:=aOo b g m;unfold aCG at a;rw[aUI _ _ (by omega),<- tZ] at a;have a:aMp n (qB n k) (sG n k) (iS n k)=EY:=a;obtain⟨o,i,g3,h⟩:=aQ5 a;have c:oO (qB n k) (sG n k) n=EY:=Y0 (aBt b λf=>o (by
  have e:(4*((qB n k:Z)*((qB n k:Z)*qB n k))+27*((sG n k:Z)*sG n k))=((4*(qB n k*(qB n k*qB n k))+27*(sG n k*sG n k):Y):Z):=by simp[CG,AI]
  rw[e] at f;exact DG.1 f))
 have d:vK n k=(iS n k:Z):=by unfold vK;rw[aSc i];rfl
 refine⟨k,j,by omega,?_⟩;have l:=aQI b g (by omega) i d c h L;unfold nC;rw[c,l,d,h];rfl
structure MadeOk (R:List Stp) (p:Int):Prop where
 right:dO [] R
 ok:okT R
 fine:∀s∈R,s.can=true/\2<=s.n
 last:(R.getD (R.length -1) aE).n=p
 pos:1<=R.length
 len:R.length<=200
theorem MadeOk.chk{R:O Stp}{p:Z}(h:MadeOk R p):pH [] R 0=E1:=(aEA R [] 0).2 h.right
theorem MadeOk.chkE{R:O Stp}{p:Z}(h:MadeOk R p):chkE R=0:=by
 unfold Go.Proofs.YtkejceafemeifaaGreatDoor.chkE;rw[h.chk];dsimp only;have:R.length.beq 0=EZ:=by
  cases a:R.length.beq 0 with
  | true=>have:=BH a;have:=h.pos;omega
  | false=>rfl
 rw[this];rfl
theorem MadeOk.proves{R:O Stp}{p:Z}(h:MadeOk R p):lF R p=EY:=by
 unfold lF;rw[h.chkE,h.last,Y0 (rfl:(0:Z)=0),Y0 (rfl:p=p)];rfl
theorem MadeOk.okl{R:O Stp}{p:Z}(h:MadeOk R p):okL R.length (aG R 200):=qQ h.ok
theorem aIP{n:Y}(a:n≠0)(h:n<1099511627776):AN n<40:=(B9 a).2 h
theorem aMD{R:O Stp}{w:Y}{z:Z}(P:ProvOk [] R w z)(hw:w<40)(c:dO [] R):MadeOk R z:=by
 have d:=P.hi;have b:=P.lo;rw[D2] at d b;exact⟨c,⟨by omega,P.ok λs a=>V a BM⟩,P.fine λs a=>V a BM,P.last,by omega,by omega⟩
theorem aOw{f:Y}{z:Z}(a:f<=20)(h:Fits f z)(hz:z<1099511627776):MadeOk (iK f [] z) z:=by
 rw[p7];have:=h.two;exact aMD (nY f [] z a h) (aIP (by omega) (by omega)) (oP f [] z a h trivial)
theorem aRl{f n:Y}(g:Pri n)(i:5<=n)(d:n<1099511627776)(e:n<65536*2^(f+1))(a:f<=20):MadeOk (l6 f [] n) n:=by
 rw[aGe];have h:=jD g (by omega);have c:=uB (f:=f) (n:=n) (by omega) h e;exact aMD (aME [] i d h λx b L=>nY f L x a (c x b)) (aIP (by omega) d) (aDg g i d a c (λx b L j=>oP f L x a (c x b) j) trivial)
theorem aYv(n k:Y)(I:O Z):(eT n k I).n=n:=aE0 n I []
theorem aOv{f n:Y}(e:Pri n)(i:5<=n)(o:n<4194304)(a:n+1<65536*2^(f+1))(c:f<=20)(j:Y):MadeOk (pY f [] n j) n:=by
 have ho:=jD e (by omega);have h:=zW (f:=f) (show 2<=n+1 by omega) (by omega) a;have A:=aFf e i a c [];have E:=aFg e i o A j;have k:=m5 (show 1<=n+1 by omega);rw[<- fN] at k;have hlen:=qP (aL (n+1)) λx d=>(h x d).two;have h40:=aIP (n:=n+1) (by omega) (by omega);have g:=A.hi;rw[D2] at g;have hA:=A.len;rw[aJb];unfold aFe;have l:dO [] (iR f [] (aL (n+1))):=by
  rw[mJ];exact vH _ [] (λx d L m=>oP f L x c (h x d) m) trivial
 refine⟨kW l E.yes,⟨by simp;omega,λs hs=>?_⟩,λs hs=>?_,by rw[mY];exact aYv n _ _,by simp,by simp;omega⟩
 ·rcases AS.1 hs with hs|hs
  ·exact A.ok (λs hs=>V hs BM) s hs
  ·rw[AO.1 hs];refine⟨aR _,?_,?_,by show 2<=1000;omega⟩
   ·have:=bQ (n:=n) (b:=64) (by omega);show(aA n).length<=6;omega
   ·show(ixH f [] (aL (n+1))).length<=90;omega
 ·rcases AS.1 hs with hs|hs
  ·exact A.fine (λs hs=>V hs BM) s hs
  ·rw[AO.1 hs,aYv];exact⟨wT n,by omega⟩
theorem aIr(n v:Y):∀k,((CM k).filter λy=>y*y%n==v).length=jJ n v k
 | 0=>rfl
 | k+1=>by
  have:=aIr n v k;rw[C2,DR,BB,this];show _=jJ n v k+(if k*k%n=v then 1 else 0);by_cases e:k*k%n=v
  ·simp[e]
  ·simp[e]
theorem aUJ{p:Y}(c:Pri p)(v:Y):jJ p v p<=2:=by
 have d:=c.lt;rw[<- aIr];have:=zN (g8 c) (k:=1) (λb=>by have:=BS (by decide) b;omega) 2 [-(v:Z),0] (((CM p).filter λy=>y*y%p==v).map λy:Y=>(y:Z)) rfl (by
  rw[BV];refine BJ (R:=λx y=>x<y) (λ{x y} hx a hxy b=>?_) (CY _ List.pairwise_lt_range);have a:=CJ.1 (C4.1 a).1;obtain⟨z,hz⟩:=b;have d:(y:Z) -x=p*(-z):=by rw[DO];omega
  have h2:=BS (show 0<(y:Z) -x by omega) ⟨-z,d⟩;omega) (λr f=>by
  obtain⟨y,a,rfl⟩:=AY.1 f;have e:y*y%p=v:=by simpa using (C4.1 a).2
  show(p:Z) ∣ -(v:Z)+y*(0+y*1);have g: -(v:Z)+y*(0+y*1)=(y:Z)*y -((y*y%p:Y):Z):=by rw[e];grind
  rw[g,AX,AI];exact uL _ _)
 simpa using this
theorem aNC{p:Y}(c:Pri p)(a b:Y):∀k,pC a b p k<=1+2*k
 | 0=>Z0 1
 | k+1=>by
  have h1:=aNC c a b k;have h2:=aUJ c (o9 a b p k);unfold pC;omega
theorem aRk{n:Y}(c:Pri n)(d:7<=n)(i:n<1512)(b:Y):MadeOk (aCK [] n b) n:=by
 obtain⟨g,y1,y2,f⟩:=aId c d i [];have hfm:b%n<n:=AR _ (by omega);have a:=yZ (nC [] n) 1125899906842624 (b%n) g (by omega) (by omega) f;rw[<- aL5] at a;rw[aL6];generalize aIc [] n b=K at *;have R:=aKO c d (by omega) K;have hq:=R.q.lt;have hle:iS n K<=1+2*n:=by unfold iS;rw[tZ];exact aNC c _ _ n
 have hqle:=R.qle;unfold nC at a;simp only[Z3] at a;have h:=aDR [] R.q (z:=vK n K) (by omega);have e:gO [] n K=([]++ [bY (vK n K)])++ [lZ n 0 (qB n K) (sG n K) (cxX n K) (zF n K) (iS n K)]:=rfl;rw[e];refine⟨kW (kW trivial h) a.2.2,⟨by simp,λs hs=>?_⟩,λs hs=>?_,by rw[mY];exact aL7 n 0 _ _ _ _ _,by simp,by simp⟩
 ·rcases AS.1 hs with hs|hs
  ·rw[B1,AO] at hs;rw[hs];exact aI6 (by omega) (by omega)
  ·rw[AO.1 hs];exact aL8 (by omega)
 ·rcases AS.1 hs with hs|hs
  ·rw[B1,AO] at hs;rw[hs];exact aHt (by omega)
  ·rw[AO.1 hs,aL7];exact⟨wT n,by omega⟩
theorem aE6:∀(f n q:Y),n<=q->q<n+f->kK q=EY->kK (lR f n)=EY/\lR f n<=q
 | 0,n,q,c,h2,_=>by omega
 | f+1,n,q,c,h2,a=>by
  unfold lR;cases b:kK n with
  | true=>exact⟨b,c⟩
  | false =>
   have:q≠n:=λe=>by rw[e,b] at a;exact V a (by decide)
   exact aE6 f (n+1) q (by omega) (by omega) a
theorem aY9:∀n,n∈bM->1<n/\n<1681/\aE7 n wA=EY:=by decide
theorem aR9{n:Y}(h:kK n=EY)(h2:n<1681):Pri n:=by
 rcases aVd h with w|w
 ·obtain⟨a,b,c⟩:=aY9 n w;exact qS a b c
 ·refine AV λg=>?_;obtain⟨p,f,i,hsq⟩:=aAe w.lt g;have d:p<41:=by
   rcases BX p 41 with q|q
   ·exact q
   ·have:=AW q q;omega
  have e:=aFh f d;exact w.nd p (by
   unfold wA at e;unfold bM;simp only[A5,BM,or_false] at e⊢;omega) i
section
theorem m4{α β:Type}{f g:α->o β}:∀(l:O α) (c:O β),l.mapM f=E0 c->(∀a x,f a=E0 x->x∈c->g a=E0 x)->l.mapM g=E0 c
 | [],c,h,_=>h
 | a::l,c,h,e=>by
  simp only[C8,CI,CV,AG,Z1] at h⊢;obtain⟨x,m,d,k,rfl⟩:=h;exact⟨x,e a x m (AD ..),d,m4 l d k λb y j i=>e b y j (AF _ i),rfl⟩
theorem aDf{α β:Type}{f g:α->o β}:∀(l:O α) (c:O β),l.mapM f=E0 c->(∀a∈l,∀x,f a=E0 x->x∈c->g a=E0 x)->l.mapM g=E0 c
 | [],c,h,_=>h
 | a::l,c,h,e=>by
  simp only[C8,CI,CV,AG,Z1] at h⊢;obtain⟨x,n,d,m,rfl⟩:=h;exact⟨x,e a (AD ..) x n (AD ..),d,aDf l d m λb k y i j=>e b (AF _ k) y i (AF _ j),rfl⟩
theorem aNY{w w':FF}(e:∀b,b<w.heap.size->w'.heap[b]? =w.heap[b]?){a:Addr}{v:J}(h:w.cell? a=E0 v):w'.cell? a=E0 v:=by
 have c:a.block<w.heap.size:=by
  unfold CU at h;split at h
  ·rename_i d;exact(B4.1 d).1
  ·simp at h
 unfold CU at h⊢;rw[e _ c];exact h
theorem aJY{w w':FF}(e:∀b,b<w.heap.size->w'.heap[b]? =w.heap[b]?){base:Y}{a:Addr}{n:Y}{c:O J}(h:w.cells? base a n=E0 c):w'.cells? base a n=E0 c:=by
 unfold World.cells? at h⊢;split at h
 ·rename_i f;rw[FC f];exact m4 _ _ h λi v d _=>aNY e d
 ·simp at h
section
variable {H:Type} {enc:TypeId×Value->H} {P:Program} {w w':World}
def aJH(P:FG)(L:O Y)(t:Y):I:=match P.underlying t with
 | some (.pointer e)=>L.elem e
 | some (.slice e)=>L.elem e&&(0).blt (P.cellsOf e)
 | some (.struct a)=>a.toList.all λf=>L.elem f.type
 | some (.array _ e)=>L.elem e
 | some (.interface _)=>EZ
 | some (.map _ e)=>L.elem e
 | _=>EY
theorem aFx{L:E6 Y}(O:L.all (aJH P L)=EY)(e:∀b,b<w.heap.size->w'.heap[b]? =w.heap[b]?)(o:Y->Bool)(g:Bool) :
  ∀(fuel:Y) (t:TypeId) (I:E6 Value) (x:DataW H×E6 MemPlace),t∈L->AZ enc P w 0 (λ_=>EY) g fuel t I=E0 x->(∀p∈x.2,o p.block=EY)->AZ enc P w' 0 o g fuel t I=E0 x
 | 0,_,_,_,_,h,_=>by simp[AZ] at h
 | fuel+1,t,I,x,V,h,j=>by
  have C:=aFx O e o g fuel;have c:=AU.1 O t V;unfold aJH at c;unfold AZ at h⊢;have G:∀(a:Addr) (n:Y) (u:TypeId) (y:DataW H×E6 MemPlace),u∈L->(w.cells? 0 a n).bind (AZ enc P w 0 (λ_=>EY) g fuel u)=E0 y->(∀p∈y.2,o p.block=EY)->(w'.cells? 0 a n).bind (AZ enc P w' 0 o g fuel u)=E0 y:=by
   intro a n u y k d W;obtain⟨M,m,s⟩:=AG.1 d;exact AG.2 ⟨M,aJY e m,C u M y k s W⟩
  split at h
  case h_21=>simp at h
  case h_6 =>
   rename_i k;rw[k] at c;obtain⟨y,m,rfl⟩:=AJ.1 h;exact AJ.2 ⟨y,G _ _ _ _ (A4 c) m λp l=>j p (BG _ l),rfl⟩
  case h_8 =>
   rename_i R a len cap k;rw[k] at c;simp only[Z3,CE] at c;have A:=A4 c.1;dsimp only at h⊢;split at h
   ·rename_i q;rw[FC q];obtain⟨elems,m,h⟩:=AG.1 h;obtain⟨rest,s,rfl⟩:=AJ.1 h;rw[FC rfl] at s;have J:=c.2;have q1:∀y∈elems,∀p∈y.2,o p.block=EY:=λy d p l=>j p (BG _ (A7.2 ⟨y,BZ _ d,l⟩));have T:∀y∈rest,∀p∈y.2,o p.block=EY:=λy d p l=>j p (BG _ (A7.2 ⟨y,BG _ d,l⟩));refine AG.2 ⟨elems,m4 _ _ m λi y F d=>G _ _ _ _ A F (q1 y d),AJ.2 ⟨rest,?_,rfl⟩⟩;by_cases Q:rest= []
    ·subst Q;have:cap -len=0:=by
      rcases DU (cap -len) with h|h
      ·exact h
      ·obtain⟨n,X⟩:=Nat.exists_eq_succ_of_ne_zero (Nat.pos_iff_ne_zero.1 h);rw[X,List.range_succ_eq_map] at s;simp[AG] at s
     rw[this];split<;>simp
    ·have B:0<(elems.length+rest.length)*P.cellsOf R:=DN (by have:=List.length_pos_iff.2 Q;omega) J;have:o a.block=EY:=j (.cell a.block (a.off+0)) (BZ _ (AY.2 ⟨0,CJ.2 B,rfl⟩));rw[FC this];exact m4 _ _ s λi y F d=>G _ _ _ _ A F (T y d)
   ·simp at h
  case h_9 =>
   rename_i fs k;rw[k] at c;split at h
   ·rename_i q;rw[FC q];obtain⟨D,m,rfl⟩:=AJ.1 h;exact AJ.2 ⟨D,aDf _ _ m λf r y v d=>C _ _ _ (A4 (AU.1 c f r)) v λp l=>j p (A7.2 ⟨y,d,l⟩),rfl⟩
   ·simp at h
  case h_10 =>
   rename_i n R k;rw[k] at c;split at h
   ·rename_i q;rw[FC q];obtain⟨D,m,rfl⟩:=AJ.1 h;exact AJ.2 ⟨D,m4 _ _ m λf y v d=>C _ _ _ (A4 c) v λp l=>j p (A7.2 ⟨y,d,l⟩),rfl⟩
   ·simp at h
  case h_12 =>
   rename_i k;rw[k] at c;simp at c
  case h_14 =>
   rename_i b k;rw[k] at c;split at h
   ·rename_i es clock N;rw[e b (B4.1 N).1,N];dsimp only;split at h
    ·rename_i q;rw[FC q];obtain⟨entries,m,h⟩:=AG.1 h;have K:∀y∈entries,∀p∈y.2,o p.block=EY:=by
      dsimp only at h;split at h
      ·simp only[Z1] at h;subst h;exact λy d p l=>j p (AF _ (A7.2 ⟨y,d,l⟩))
      ·simp at h
     refine AG.2 ⟨entries,m4 _ _ m λf y v d=>?_,h⟩;obtain⟨key,U,E⟩:=AG.1 v;refine AG.2 ⟨key,U,?_⟩;split at E
     ·rename_i r;rw[FC r];obtain⟨z,S,rfl⟩:=AJ.1 E;exact AJ.2 ⟨z,C _ _ _ (A4 c) S (K _ d),rfl⟩
     ·simp at E
    ·simp at h
   ·simp at h
  all_goals
   exact h
theorem y7{L:O Y}(m:L.all (aJH P L)=EY)(e:∀b,b<w.heap.size->w'.heap[b]? =w.heap[b]?)(g:Y->I) :
  ∀(a:O K) (f:O J) (j:O (DataW H)) (i:O MemPlace),(∀t∈a,t∈L)->CK enc P w 0 (λ_=>EY) EY a f j i->(∀p∈i,g p.block=EY)->CK enc P w' 0 g EY a f j i
 | [], [], [],_,_,h,_=>h
 | t::a,v::f,d::j,i,l,h,c=>by
  obtain⟨p,q,⟨fuel,r⟩,o,rfl⟩:=h;exact⟨p,q,⟨fuel,aFx m e g EY fuel t _ _ (l t (AD ..)) r λp k=>c p (BZ _ k)⟩,y7 m e g a f j q (λu n=>l u (AF _ n)) o λp k=>c p (BG _ k),rfl⟩
 | [],_::_,_,_,_,h,_=>h.elim
 | [], [],_::_,_,_,h,_=>h.elim
 | _::_, [],_,_,_,h,_=>h.elim
 | _::_,_::_, [],_,_,h,_=>h.elim
end
end
section
abbrev noS:Y->Prop:=λ_=>W
section
variable {H:Type} {enc:TypeId×Value->H} {P:Program} {w:World} {sp:Nat->Bool} {held:Bool}
theorem aIT{α β:Type}{f:α->o β}:∀(l:O α) (c:O β),l.mapM f=E0 c->∀a∈l,∃x,f a=E0 x
 | [],_,_,a,ha=>by simp at ha
 | b::l,c,h,a,ha=>by
  simp only[C8,CI,CV,AG,Z1] at h;obtain⟨x,g,d,e,rfl⟩:=h;rcases A5.1 ha with rfl|ha
  ·exact⟨x,g⟩
  ·exact aIT l d e a ha
theorem trod_array{t e:K}{n:Y}{fuel:Y}{a:O J}{x:DataW H×O MemPlace}(c:P.underlying t=E0 (.array n e))(h:AZ enc P w 0 sp held fuel t a=E0 x) :
  a.length=P.cellsOf t/\∃fuel',∀i,i<n->∃y,AZ enc P w 0 sp held fuel' e ((a.drop (i*P.cellsOf e)).take (P.cellsOf e))=E0 y:=by
 cases fuel with
 | zero=>simp[AZ] at h
 | succ fuel =>
  unfold AZ at h;rw[c] at h;split at h
  all_goals first|(rename_i l;simp at l;done)|skip
  ·rename_i n' e' b;simp only[Z1,TypeDesc.array.injEq] at b;obtain⟨rfl,rfl⟩:=b;split at h
   ·rename_i g;obtain⟨xs,j,rfl⟩:=AJ.1 h;exact⟨g,fuel,λi d=>aIT _ _ j i (CJ.2 d)⟩
   ·simp at h
  ·rename ∀(k:Y) (e_1:K),E0 (TypeDesc.array n e)=E0 (TypeDesc.array k e_1)->W=>f
   exact(f n e rfl).elim
theorem trod_int{t:K}{k:IntKind}{fuel:Y}{c:O J}{x:DataW H×O MemPlace}(d:P.underlying t=E0 (.int k))(h:AZ enc P w 0 sp held fuel t c=E0 x) :
  ∃n,c= [.int k n]/\(Lit.int k n).wf=EY:=by
 cases fuel with
 | zero=>simp[AZ] at h
 | succ fuel =>
  unfold AZ at h;rw[d] at h;split at h
  all_goals first|(rename_i e;simp at e;done)|skip
  ·rename_i k0 k' n a;simp only[Z1,TypeDesc.int.injEq] at a;subst a;split at h
   ·rename_i b;exact⟨n,by rw[b.1],b.2⟩
   ·simp at h
  ·simp at h
end
end
section
open Go Go.ChangeShapes Go.WideShapes Go.ChangeAt Go.RowKit
theorem own:ownKnob Tryz.prog.godebug=E1:=by kernel_rfl
theorem aNZ:Tryz.prog.cellsOf 3=1:=by kernel_rfl
section
variable {H:Type} {enc:TypeId×Value->H} {w:World} {sp:Nat->Bool} {held:Bool}
theorem aSY{n:Z}(h:(Lit.int .u16 n).wf=EY):0<=n/\n<=65535:=by simpa [Lit.wf,IntKind.min,IntKind.max,IntKind.signed,IntKind.bits] using h
theorem aOP{P:FG}{f:Func}{s:ChangeSpec}{apart fresh e again:I}{W W':FF}{args:FH J}{v:J}{l gs:O (DataW H)}{before pa pv:O MemPlace}(n:D9 enc P f.params.toList s.vars apart W args.toList l gs before)(i:∀(b:Y) (sp:Y->I) (A:I),CK enc P W' b sp A f.resultTypes.toList (v.resultList f.resultTypes.size) (s.fn H (l++gs)).results [])(d:∀sp:Y->I,(∀p∈before,sp p.block=EY)->CK enc P W' 0 sp EY f.params.toList args.toList (s.fn H (l++gs)).args pa)(c:∀sp:Y->I,(∀p∈before,sp p.block=EY)->DataW.TrodVars enc P W' sp s.vars (s.fn H (l++gs)).vars pv)(h:before=pa++pv)(z:W.keptBut W' (·∈before))(q:∀a:Addr,a.block<W.heap.size->W'.frozen? a=W.frozen? a)(o:∀(j:Y) (t:K) (r:J),f.resultTypes[j]? =E0 t->(v.resultList f.resultTypes.size)[j]? =E0 r->CN P W' .any 0 t r) :
  s.post enc P f apart fresh e again W args v W':=by
 have m:∀p∈before,p.block<W.heap.size:=n.lt;have k:∀p∈before,(λb=>decide (b<W.heap.size)) p.block=EY:=λp g=>by simpa using m p g
 refine⟨l,gs,before, [],pa,pv,n,i _ _ _,d _ k,c _ k,World.keptBut_mono (λp g=>⟨g,?_⟩) z,λ_=>?_⟩
 ·rw[h,AS] at g;exact Or.inr g
 ·obtain⟨_,_,_,_,_,x,y⟩:=n;refine⟨o,_,_,([]++pa)++pv,⟨[]++pa,pv,trodAll_append (d _ (λ_ _=>rfl)) (i _ _ _),c _ (λ_ _=>rfl),rfl,?_,?_⟩,?_⟩
  ·intro b off g;have u:MemPlace.cell b off∈before:=by rw[h];simpa using g
   rw[q ⟨b,off,E1⟩ (m _ u)];exact x b off u
  ·intro B;have:=y B;rw[h] at this
   simpa using this
  ·intro p g _;rw[h]
   simpa using g
set_option maxRecDepth 100000 in
theorem aOu{j:Func}{s:ChangeSpec}(ctr:Ctr AE)(b:s.vars= [])(d:j.resultTypes=#[4]){L:O Y}(B:L.all (aJH AE L)=EY)(o:∀t∈j.params.toList,t∈L){apart fresh c again:I}{W:FF}{args:FH J}{m gs:O (DataW H)}{before:O MemPlace}(u:D9 enc AE j.params.toList s.vars apart W args.toList m gs before)(C:GW noS W)(g:∃i p,ctr.spec i=E0 (p,.ret (.bool EY))/\p.holds/\RepAll (Ctx.args noS) W i args.toList)(a:s.fn H (m++gs)={ results:= [.lit (.bool EY)],args:=m }) :
  Calls AE ctr.f args W λe W'=>∃v,e= .returned v/\s.post enc AE j apart fresh c again W args v W':=by
 obtain⟨i,p,G,F,E⟩:=g;refine(ctr.ok noS W i args p _ G F (λ_ h=>h.elim) C E).mono λe W' ⟨l,k⟩=>?_;obtain⟨v,rfl,z⟩:∃v,e= .returned v/\Rep (Ctx.res noS) W' (.bool EY) v:=by
  cases e with
  | returned v=>exact⟨v,rfl,k⟩
  | panicked _=>exact k.elim
  | outgrown=>exact k.elim
 have hv:v= .bool EY:=f8 z;subst hv;refine⟨_,rfl,?_⟩;have r:=u;obtain⟨p,q,D,x,rfl,_,_⟩:=u;rw[b] at x;obtain⟨rfl,rfl⟩:gs= []/\q= []:=trodVars_none x;refine aOP (pa:=p) (pv:= []) r (λ_ _ _=>?_) (λsp n=>?_) (λ_ _=>?_) rfl (l.kept _) l.frz ?_
 ·rw[a,d];exact trodAll_cons_mk (shut_bool DX _) trodAll_mk0
 ·rw[a];exact y7 B l.block sp _ _ _ _ o D λp A=>n p (BZ _ A)
 ·rw[a,b];rfl
 ·have y:CN AE W' .any 0 4 (.bool EY):=okWide_bool_mk DX EY;exact ok_one d rfl y
end
end
section
open Go Go.ChangeShapes Go.WideShapes Go.ChangeAt Go.RowKit
theorem aQy:Tryz.prog.cellsOf 5=1:=by kernel_rfl
theorem aIG{W:FF}{name:String}{g:Y}{k:IntKind}{tA tE:K}{l:O Z}{r:FH J}{fuel:Y}{p:O MemPlace}(E:Tryz.prog.underlying tA=E0 (.array l.length tE))(A:Tryz.prog.underlying tE=E0 (.int k))(w:Tryz.prog.cellsOf tE=1)(G:Tryz.prog.globalNamed name=E0 g)(hv:W.var? AE name=E0 r)(d:AZ (λ_=>()) AE W 0 (λ_=>EY) EZ fuel tA r.toList=E0 ((.agg (l.map λn=> .lit (.int k n)):DataW Unit),p))(H:0<l.length) :
  g<W.heap.size/\seg W g 0 (l.map (Value.int k)):=by
 obtain⟨D,m1,rfl,a,o,F,b⟩:=DataW.trod_array E d;rw[w] at b;simp only[Z2] at a;have d:=a.1;rw[DataW.agg.injEq] at d;have key:∀i,i<l.length->W.cell? ⟨g,i,E1⟩=E0 (.int k (l.getD i 0)):=by
  intro i u;have B:=b i u;obtain⟨x,m⟩:∃x,D[i]? =E0 x:=⟨_,AQ (by omega)⟩;rw[m] at B;obtain⟨j,C,I,_⟩:=DataW.trod_int A B;have s:x.1= .lit (.int k (l.getD i 0)):=by
   have c:(l.map λn=>(DataW.lit (Lit.int k n):DataW Unit))[i]? =E0 x.1:=by
    rw[d,CO,m];rfl
   rw[CO,AQ u] at c;simp only[Option.map_some,Z1] at c;rw[<- c,AC,AQ u];rfl
  rw[I] at s;simp only[DataW.lit.injEq,Lit.int.injEq,true_and] at s;subst s;have:=World.var?_cell G hv i;rw[this];rw[EJ] at C;have c:(r.toList.drop i)[0]? =E0 (.int k (l.getD i 0)):=by
   have:((r.toList.drop i).take 1)[0]? =E0 (.int k (l.getD i 0)):=by rw[C];rfl
   rw[List.getElem?_take] at this
   simpa using this
  rw[List.getElem?_drop] at c
  simpa using c
 clear b hv F o d a;have z:=key 0 H;obtain⟨arr,ty,f,y⟩:∃arr ty f,W.heap[g]? =E0 (.cells arr ty f):=by
  unfold CU at z;split at z
  ·rename_i arr ty f e;exact⟨arr,ty,f,e⟩
  ·simp at z
 have w:∀(i:Y) v,W.cell? ⟨g,i,E1⟩=E0 v->arr[i]? =E0 v:=λi v h=>by
  unfold CU at h;rw[show W.heap[(⟨g,i,E1⟩:Addr).block]? =_ from y] at h;exact h
 refine⟨(B4.1 y).1,arr,ty,f,y,λj v hv=>?_⟩;rw[BD];rw[CO] at hv;have t:j<l.length:=by
  rcases BX j l.length with q|q
  ·exact q
  ·rw[List.getElem?_eq_none q] at hv;simp at hv
 have:=w _ _ (key j t);rw[this];rw[AQ t] at hv;rw[AC,AQ t];exact hv
noncomputable abbrev aIF : List (String × DataW Unit) := [("math/bits.deBruijn64tab", Rows.laid_math_bits_deBruijn64tab), ("algorist/modular.signs", Rows.laid_algorist_modular_signs)]
theorem bDh : Tryz.prog.globalNamed "math/bits.deBruijn64tab" = some 0 := by kernel_rfl
theorem bDt:(Tryz.prog.globals[0]?).map (·.type)=E0 184:=by kernel_rfl
theorem aOs:(Rows.laid_math_bits_deBruijn64tab:DataW Unit)= .agg ((iU 0).map λn=> .lit (.int .u8 n)):=rfl
theorem bDg : Tryz.prog.globalNamed "algorist/modular.signs" = some 3 := by kernel_rfl
theorem bDs:(Tryz.prog.globals[3]?).map (·.type)=E0 206:=by kernel_rfl
theorem aRe:(Rows.laid_algorist_modular_signs:DataW Unit)= .agg ((iU 3).map λn=> .lit (.int .i64 n)):=rfl
theorem aQ4{g:Y}(h:gOn g=EY):g=0\/g=3:=by
 simp[gOn] at h;omega
theorem aIu{W:FF}(h:laidMetH AE aIF W):GW noS W:=by
 rw[MakeChecks.laidMetH_plain _ _ _ (by kernel_rfl)] at h;obtain⟨ps,⟨g0,t0,cs0,f0,p0,q0,d,m,j,f,⟨g1,t1,cs1,f1,p1,q1,c,k,i,e,_,_⟩,_⟩,_,_⟩:=h;obtain rfl:=B8 (bDh.symm.trans d);obtain rfl:=B8 (bDt.symm.trans m);obtain rfl:=B8 (bDg.symm.trans c);obtain rfl:=B8 (bDs.symm.trans k);rw[aOs] at f;rw[aRe] at e;have a:=aIG (l:=iU 0) Tryz.underlying184 Tryz.underlying5 aQy d j f (by decide);have b:=aIG (l:=iU 3) Tryz.underlying206 Tryz.underlying3 aNZ c i e (by decide);intro g n;rcases aQ4 n with rfl|rfl
 ·exact⟨id,a⟩
 ·exact⟨id,b⟩
theorem aQM(os:Os)(args:FH J):laidMetH AE aIF ((World.doorLaid AE 400 os).forCall (λ_ _=>0) ⟨#[],args, []⟩).memory :=
 laidMetH_of_parts3 (fuel:=8) (laidMet_of_run' 8 (by kernel_rfl) (by kernel_rfl)) (by kernel_rfl) (by kernel_rfl)
theorem aYu{P:FG}{W:FF}{base:Y}{args:FH J}{b:FH K}(a:∀(j:Y) t v,b[j]? =E0 t->args[j]? =E0 v->CN P W .any base t v){j:Y}{t:K}{v:J}(d:b[j]? =E0 t)(c:args[j]? =E0 v):CN P W .any base t v:=a j t v d c
end
def jG:Y->MV:=λ_=> .any
def kpA(n:Z):Z:=wrap E2 (7+Q E2 (y n 1500))
noncomputable def pF(n:Z):Y:=aVq (U (kpA n))
noncomputable def ukE:Env AE:=aQN [aYS,aQm,jZ,aLN] [.pt (aUB 0),.pt (bBY 0),.pt (aY2 0),.pt bBX] (fun|999994=> [0]|_=> []) aC (λ_ _=>E1)
theorem aO8(n f:Z)(T:I)(e:_)(k:e=(pY 0 (aD 0 jG) (U (pF n:Z)) (U (Q E2 f))))(d:_)(j:d=(aCK (aD 0 jG) (U (pF n:Z)) (U (Q E2 f))))(a:_)(i:a=(pF n:Z))(c:_)(h:c=(l6 0 (aD 0 jG) (U a )))(b:_)(g:b=(iK 0 (aD 0 jG) a )):(((1500:Z)=0->W)/\(0<=kpA n/\kpA n<1099511627776/\kK (pF n)=EY)/\provP 0 0 jG a /\minP 0 0 jG a /\plsP 0 0 jG a (Q E2 f)/\curP 0 jG a (Q E2 f)/\(0<= a /\ a <18446744073709551616)/\(t b <=t b /\okL (t b) (aG b 200)/\64<=1000)/\bif lF (aD (t b) (aG b 200)) a then (t c <=t c /\okL (t c) (aG c 200)/\64<=1000)/\bif lF (aD (t c) (aG c 200)) a then (t e <=t e /\okL (t e) (aG e 200)/\64<=1000)/\bif lF (aD (t e) (aG e 200)) a then (t d <=t d /\okL (t d) (aG d 200)/\64<=1000)/\lF (aD (t d) (aG d 200)) a =T else EZ=T else EZ=T else EZ=T)=aJ ukE D8 [.int .u16 n,.int .u16 f] (MRes.sat (.ret (.bool T))):=by subst k j i h g;kernel_rfl
structure KpOk (n:Int):Prop where
 a0:0<=kpA n
 a1:kpA n<1099511627776
 pn:kK (pF n)=true
 pr:Pri (pF n)
 lo:7<=pF n
 hi:pF n<1512
theorem bCf{n:Z}(h0:0<=n)(h1:n<=65535):KpOk n:=by
 obtain⟨m,rfl⟩:∃m:Y,n=m:=⟨n.toNat,by omega⟩;have hm:=AR m (show 0<1500 by omega);have g:kpA (m:Z)=((7+m%1500:Y):Z):=by
  unfold kpA;rw[show y (m:Z) 1500=((m%1500:Y):Z) from lU m 1500,u6 (by omega)];exact u6 (a:=7+m%1500) (by omega)
 have c:kK 1511=EY:=aIy (qS (by omega) (by omega) (by decide +kernel)) (by decide);have e:pF (m:Z)=lR 100000 (7+m%1500):=by unfold pF;rw[g,Z8,aMQ]
 obtain⟨b,f⟩:=aE6 100000 (7+m%1500) 1511 (by omega) (by omega) c;have d:=aDj 100000 (7+m%1500);rw[<- e] at b f d;exact⟨by omega,by omega,b,aR9 b (by omega),by omega,by omega⟩
theorem aBz:okL 0 jG:=⟨Z9 _,λj b=>V b (D4 j),λ_ a=>V a BM⟩
theorem aIY:fineL (aD 0 jG) 0:=⟨λj a=>V a (D4 j)⟩
theorem aRI{n a:Z}(i:0<=n)(h:n<=65535)(f0:0<=a)(f1:a<=65535):aJ ukE D8 [.int .u16 n,.int .u16 a] (MRes.sat (.ret (.bool EY))):=by
 rw[<- aO8 n a EY _ rfl _ rfl _ rfl _ rfl _ rfl];obtain⟨k,j,g,pr,b,c⟩:=bCf i h;generalize pF n=p at *;obtain⟨f,rfl⟩:∃f:Y,a=f:=⟨a.toNat,by omega⟩;have e:aD 0 jG= []:=rfl;rw[u6 (by omega),Z8,Z8,e];have d:Fits 0 (p:Z):=⟨by rw[Z8];exact pr,by omega,by omega⟩;have M1:=aOw (f:=0) (z:=(p:Z)) (by omega) d (by omega);have M2:=aRl (f:=0) pr (by omega) (by omega) (by omega) (by omega);have M3:=aOv (f:=0) pr (by omega) (by omega) (by omega) (by omega) f;have M4:=aRk pr b c f;rw[jF,jF,jF,jF];have hlog:2*AN p<80:=by have:=aIP (n:=p) (by omega) (by omega);omega
 have hlog1:2*AN (p+1)<80:=by have:=aIP (n:=p+1) (by omega) (by omega);omega
 refine⟨by omega,⟨k,j,g⟩,⟨d,by omega,aBz,by rw[Z8];omega⟩,
  ⟨by rw[Z8];exact pr,by omega,by omega,by rw[Z8];omega,by omega,aBz,by rw[Z8];omega⟩,
  ⟨by rw[Z8];exact pr,by omega,by omega,by rw[Z8];omega,by omega,by omega,by omega,aBz,aIY,by rw[Z8];omega⟩,
  ⟨by rw[Z8];exact pr,by omega,by omega,by omega,by omega,aBz,aIY,by omega,by rw[Z8,e];exact aId pr b c []⟩,
  ⟨by omega,by omega⟩,⟨Z0 _,M1.okl,by omega⟩,aCH M1.proves ⟨⟨Z0 _,M2.okl,by omega⟩,aCH M2.proves ⟨⟨Z0 _,M3.okl,by omega⟩,aCH M3.proves ⟨⟨Z0 _,M4.okl,by omega⟩,M4.proves⟩⟩⟩⟩
noncomputable def yK:aF
 | [.int .u16 n,.int .u16 fr]=>E0 (E0 ((0<=n/\n<=65535)/\0<=fr/\fr<=65535),.ret (.bool EY))
 | _=>E1
theorem aSm:bD D8 yK:=by
 intro ms p r h b;unfold yK at h;split at h
 ·rename_i n a;simp only[Z1,Z2] at h;obtain⟨rfl,rfl⟩:=h;obtain⟨⟨f,e⟩,d,c⟩:(0<=n/\n<=65535)/\0<=a/\a<=65535:=b;exact⟨ukE,aRI f e d c⟩
 ·simp at h
noncomputable def aQh:Ctr AE:=⟨6,yK,λargs w=>Tryz.call6 args w,aN bU Tryz.func6 yK aSm⟩
end Go.Proofs.YtkejceafemeifaaGreatDoor
