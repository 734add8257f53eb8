/-
  Arguments of the laws of chapter 07: descriptions of proofs, and changes.
-/
import Derived.Test.YtkejceafemeifaaGreatDoorQ4
import Derived.Test.YtkejceafemeifaaGreatDoorQ5
import Derived.Test.YtkejceafemeifaaGreatDoorQ3
import Derived.OrdersHeld

namespace Go.Proofs.YtkejceafemeifaaGreatDoor
set_option linter.defProp false
set_option linter.unusedVariables false
set_option linter.unusedSimpArgs false
open Go Go.RowKit
open Go.IntKind (wrap i64 i32 i16 i8 u64 u32 u16 u8)
open Int (toNat natAbs)
open List (length take drop getD set replicate)
open BitVec (ofInt)
open Int (gcd tmod tdiv fdiv)
open Go.Proofs.Tryz renaming prog->AA,f11->A9,underlying5->BM,f29->BU,f35->B0,f14->CA,f10->CB,f3->CE,func35->CG,func29->CH,func11->CI,call35->CJ,call29->CK,f41->CP,f15->CQ,f12->CR
open List renaming take_of_length_le->AB,getD_eq_getElem?_getD->AF,mem_cons_of_mem->AG,mem_cons_self->AH,length_set->AK,not_mem_nil->AW,length_take->AX,length_append->AY,take_append_drop->A2,getElem?_eq_getElem->A8,length_singleton->BD,length_drop->BO,getElem_mem->BP,mem_or_eq_of_mem_set->BX,length_eq_zero_iff->BY,mem_singleton->B2,drop_length->B6,mem_append->B8
open al renaming refl->AC,of_le->BZ
open Nat renaming lt_or_ge->AD,not_lt_zero->AE,lt_of_lt_of_le->AI,beq->AL,mod_lt->AM,le_trans->AN,zero_add->AQ,eq_of_beq_eq_true->AT,gcd->A0,dvd_of_mod_eq_zero->A1,le_of_dvd->A3,blt->A4,pow_le_pow_right->BE,mul_le_mul->BF,mul_le_mul_left->BH,dvd_trans->BJ,mod_eq_of_lt->BS,blt_eq->BV,beq_eq->BW,lt_or_gt_of_ne->B3,eq_zero_or_pos->B4,log2->CC,mul_assoc->CF,pow_mul->CM,pow_mod->CN,pow_add->CO
open _root_.Array renaming getD->AJ,getElem?_eq_some_iff->BT,length_toList->B1,ext'->CL
open Go.Region renaming ready->AO,wanted->A7,binds->BI,noSelect->BN
open bh renaming len->AP
open MV renaming dm->AR
open cg renaming sat->AS
open Go.Act renaming put->AU,eval->BG
open Option.some renaming inj->AV
open Ctx renaming res->AZ,args->BB
open aj renaming clean->A5,bu->BA
open Int renaming natAbs_natCast->A6,natAbs_mul->CD
open List.cons renaming injEq->BK
open Bool renaming eq_false_iff->BL,cond_decide->B7,or_eq_true->B9
open Go renaming mem_ready->BQ
open Classical renaming byContradiction->BR
open _root_ renaming Nat->Z,Int->Y,List->V,False->D,if_neg->F,Bool->J,absurd->M,True->R,Array->N,if_pos->x,cond->T,Option->CX,Nat->C1,List->C2,Array->C5,False->C7,absurd->C8,Int->C9,cond->DB,if_pos->DD
open List renaming length->C,getD->C0,drop->DA
open Go renaming Value->W,World->U,Oper->r,Program->CY,Value->C3,World->C4,Oper->C6,TypeId->DC
open Int renaming toNat->E,tmod->G,natAbs->X,tmod->DE
open Go.IntKind renaming wrap->O,u64->CV,i64->CZ
open Decidable renaming decide->I
open Bool renaming true->CS,false->CT
open Option renaming none->CU,some->CW
noncomputable section
variable{B:ck}{L:C2 ab}{Q:Exit->Act->U->Prop}{S:Z->Prop}{S0:Z->Prop}{S1:Z->Prop}{S2:Z->Prop}{a:Act}{b:Z}{c:Ctx}{i:Z}{k:Z}{m:Z}{ops:C5 C6}{pv:C1->C3}{q:Z}{s:ab}{w:U}{w':U}{w0:ck}{z:Sz}
def pS:V Z:=[2,3,5,7,11,13,17,19,23,29,31,37,41,43,47,53,59,61,67,71,73,79,83,89]
def ug:Z:=304250263527210
def rk:Z:=23768741896345550770650537601358310
def ga:Z:=67108880
def Gn:V Z->Z
 |[]=>1
 |p::r=>p*Gn r
def zq{m:Z}:∀l:V Z,(∀b∈l,A0 m b=1)->A0 m (Gn l)=1
 |[],_=>Nat.gcd_one_right m
 |p::r,h=>Nat.Coprime.mul_right (h p (AH ..)) (zq r λb a=>h b (AG _ a))
def To:Gn bG=ug:=by decide +kernel
def Tp:Gn pS=rk:=by decide +kernel
def ais:∀q∈pS,1<q/\∀d,d<q+1->q%d=0->d=1\/d=q:=by decide +kernel
def vg(h:q∈pS):bg q:=by
 obtain⟨c,b⟩:=ais q h;exact⟨c,λd a=>b d (by have:=A3 (by omega) a;omega) (Nat.mod_eq_zero_of_dvd a)⟩
def Ue:∀b∈bG,b∈pS:=by decide +kernel
def IT:∀b∈bG,2<=b/\b<=41:=by decide +kernel
def aae:∀p,p<43->1<p->∃b∈bG,p%b=0:=by decide +kernel
def XY:∀p,p<90->1<p->∃b∈pS,p%b=0:=by decide +kernel
def Uq(n e:Z):Z:=((2^(e/8192)%n)^64%n)^128%n*2^(e%8192)%n
def ajp(n x y c d:Z):((2^x%n)^c%n)^d%n*2^y%n=2^(x*c*d+y)%n:=by
 rw[<-CN,<-CM,<-CN,<-CM,Nat.mod_mul_mod,<-CO,CF]
def ama(e:Z):e/8192*64*128+e%8192=e:=by omega
def ab3(n e:Z):Uq n e=2^e%n:=by
 have h:=ajp n (e/8192) (e%8192) 64 128;rw[ama]at h;exact h
def xu(n m:Z):J:=!(AL (A0 m ug) 1) ||(!(AL (Uq n (n-1)) 1) || !(hH n))
def qV(f:Z->J):Z->Z->J
 |0,a=>f a
 |k+1,a=>qV f k a&&qV f k (a+2^k)
def fX(f:Z->J):∀(k a i:Z),qV f k a=CS->a<=i->i<a+2^k->f i=CS
 |0,a,i,h,h1,b=>by
  obtain rfl:i=a:=by rw[Nat.pow_zero]at b;omega
  exact h
 |k+1,a,i,h,h1,b=>by
  rw[qV,Z3]at h;rw[Nat.pow_succ]at b;rcases AD i (a+2^k)with q|q
  .exact fX f k a i h.1 h1 q
  .exact fX f k _ i h.2 q (by omega)
def wh(p x:Z):V Z->J
 |[]=>CT
 |a::r=>(AL (a^(p-1)%p) 1&&!(AL (a^x%p) 1)) ||wh p x r
def KU:Z->Z->Z->Z
 |0,_,_=>0
 |f+1,r,q=>T (AL (r%q) 0) (KU f (r/q) q+1) 0
def Hk:V Z->Z->V (Z×Z)
 |[],r=>T (AL r 1) [] [(r,0)]
 |q::t,r=>T (AL (r%q) 0) ((q,KU 13 r q-1)::Hk t (r/q^KU 13 r q)) (Hk t r)
def K3(q:Z):J:=pS.elem q ||(A4 89 q&&(A4 q 8100&&AL (A0 q rk) 1))
def okF(p:Z):V (Z×Z)->Z->J
 |[],D=>AL D (p-1)
 |(q,e)::t,D=>K3 q&&(AL (A0 D (q^(e+1))) 1&&(AL ((p-1)%q^(e+1)) 0&&(wh p ((p-1)/q) bG&&okF p t (D*q^(e+1)))))
def LO(p k:Z):J:=!(A4 (p*(1+(k+1)*(p-1))) ga) ||xu (p*(1+(k+1)*(p-1))) (1+(k+1)*(p-1))
def KQ(p:Z):J :=
 T (AL (A0 p ug) 1) (T (A4 89 p&&!(AL (A0 p rk) 1)) CS (okF p (Hk pS (p-1)) 1&&qV (LO p) (CC (ga/(p*(p-1)))+1) 0)) CS
def xK(i:Z):J:=KQ (43+2*i)
def akU:qV xK 1 0=CS:=by decide +kernel
def akV:qV xK 1 2=CS:=by decide +kernel
def akW:qV xK 2 4=CS:=by decide +kernel
def akX:qV xK 2 8=CS:=by decide +kernel
def ahB:qV xK 2 12=CS:=by decide +kernel
def ahC:qV xK 3 16=CS:=by decide +kernel
def ahD:qV xK 3 24=CS:=by decide +kernel
def ahE:qV xK 4 32=CS:=by decide +kernel
def ahF:qV xK 4 48=CS:=by decide +kernel
def ahG:qV xK 6 64=CS:=by decide +kernel
def ads:qV xK 7 128=CS:=by decide +kernel
def adt:qV xK 8 256=CS:=by decide +kernel
def adu:qV xK 9 512=CS:=by decide +kernel
def aaX:qV xK 10 1024=CS:=by decide +kernel
def aaY:qV xK 11 2048=CS:=by decide +kernel
def adv(h:i<4096:=by omega):KQ (43+2*i)=CS:=by
 show xK i=CS;rcases AD i 2 with q|q
 .exact fX _ 1 0 i akU (by omega) q
 rcases AD i 4 with q|q
 .exact fX _ 1 2 i akV (by omega) q
 rcases AD i 8 with q|q
 .exact fX _ 2 4 i akW (by omega) q
 rcases AD i 12 with q|q
 .exact fX _ 2 8 i akX (by omega) q
 rcases AD i 16 with q|q
 .exact fX _ 2 12 i ahB (by omega) q
 rcases AD i 24 with q|q
 .exact fX _ 3 16 i ahC (by omega) q
 rcases AD i 32 with q|q
 .exact fX _ 3 24 i ahD (by omega) q
 rcases AD i 48 with q|q
 .exact fX _ 4 32 i ahE (by omega) q
 rcases AD i 64 with q|q
 .exact fX _ 4 48 i ahF (by omega) q
 rcases AD i 128 with q|q
 .exact fX _ 6 64 i ahG (by omega) q
 rcases AD i 256 with q|q
 .exact fX _ 7 128 i ads (by omega) q
 rcases AD i 512 with q|q
 .exact fX _ 8 256 i adt (by omega) q
 rcases AD i 1024 with q|q
 .exact fX _ 9 512 i adu (by omega) q
 rcases AD i 2048 with q|q
 .exact fX _ 10 1024 i aaX (by omega) q
 exact fX _ 11 2048 i aaY (by omega) h
def ae6(h:K3 q=CS):bg q:=by
 unfold K3 at h;rcases B9 _ _ ▸ h with h|h
 .exact vg (List.elem_iff.1 h)
 .rw[Z3,Z3,BV,BV]at h;obtain⟨h1,h2,e⟩:=h;have e:=AT e;refine BR λi=>?_;obtain⟨p,g,j,hle⟩:=wM (by omega) i;have d:p<90:=by
   rcases AD p 90 with w|w
   .exact w
   .have:=BF w w;omega
  obtain⟨b,k,c⟩:=XY p d g.lt;have a:b ∣ q:=BJ (A1 c) j;have f:b ∣ rk:=by
   rw[<-Tp];clear a c
   revert b
   decide +kernel
  have:=Nat.dvd_gcd a f;rw[e]at this;have:=(vg k).lt;have:=A3 (by omega) ‹b ∣ 1›;omega
def Ra{p x:Z}:∀l:V Z,wh p x l=CS->∃a∈l,a^(p-1)%p=1/\a^x%p≠1
 |[],h=>by simp[wh]at h
 |a::r,h=>by
  rw[wh]at h;rcases B9 _ _ ▸ h with h|h
  .rw[Z3]at h;refine⟨a,AH ..,AT h.1,λw=>?_⟩;have c:=h.2;rw[w]at c;exact M c (by decide)
  .obtain⟨b,d,h⟩:=Ra r h;exact⟨b,AG _ d,h⟩
def Tk{p K:Z}(m:1<p)(o:∀a∈bG,a^K%p=1):∀(l:V (Z×Z)) (D:Z),okF p l D=CS->D ∣ K->p-1 ∣ K
 |[],D,h,d=>by rw[<-AT h];exact d
 |(q,e)::t,D,h,d=>by
  rw[okF,Z3,Z3,Z3,Z3]at h;obtain⟨w,f,v,u,s⟩:=h;have k:=ae6 w;have f:A0 D (q^(e+1))=1:=AT f;obtain⟨c,n⟩:=A1 (AT v);obtain⟨a,r,j,i⟩:=Ra _ u;have g:0<q:=by have:=k.lt;omega
  have x:(p-1)/q=q^e*c:=by
   rw[n,Nat.pow_succ',CF];exact Nat.mul_div_cancel_left _ g
  have b:1%p=1:=BS m;have:=abK (a:=a) (c:=c) (K:=K) k (by rw[<-n,b];exact j) (by rw[b];exact o a r) (by rw[<-x,b];exact i);exact Tk m o t _ s (Nat.Coprime.mul_dvd_of_dvd_of_dvd f d this)
def amJ{n:Z}(h:hH n=CS)(G:n<ga):bg n:=by
 rcases aes h with w|w
 .exact vg (Ue n w)
 refine BR λz=>?_;obtain⟨p,j,k,l⟩:=wM w.lt z;have hN:ga=67108880:=rfl;have arK:43<=p:=by
  rcases AD p 43 with q|q
  .obtain⟨b,e,C⟩:=aae p q j.lt;exact M (BJ (A1 C) k) (w.nd b e)
  .exact q
 have arJ:p%2=1:=by
  rcases Nat.mod_two_eq_zero_or_one p with q|q
  .exact M (BJ (A1 q) k) (w.nd 2 (by decide))
  .exact q
 have arL:p<8193:=by
  rcases AD p 8193 with q|q
  .exact q
  .have:=BF q q;omega
 have d:=adv (i:=(p-43)/2);rw[show 43+2*((p-43)/2)=p by omega]at d;have s:∀b∈bG,A0 p b=1:=λb e=>j.qs λq=>by
  have:=A3 (by have:=IT b e;omega) q;have:=IT b e;omega
 have D:A0 p ug=1:=by rw[<-To];exact zq _ s
 unfold KQ at d;rw[D]at d;have r:(A4 89 p&&!(AL (A0 p rk) 1))=CT:=by
  cases e:A4 89 p with
  |false=>rfl
  |true =>
   rw[BV]at e;have:A0 p rk=1:=by
    rw[<-Tp];refine zq _ λb c=>j.qs λq=>?_;have F:=A3 (by have:=(vg c).lt;omega) q;have E:∀b∈pS,b<=89:=by decide +kernel
    have:=E b c;omega
   rw[this];rfl
 rw[r]at d;have d:(okF p (Hk pS (p-1)) 1&&qV (LO p) (CC (ga/(p*(p-1)))+1) 0)=CS:=d;rw[Z3]at d;obtain⟨I,J⟩:=d;have Vt:p<=n:=A3 (by have:=w.lt;omega) k;have g:∀a∈bG,a^(n-1)%n=1:=λa v=>by
  have:=IT a v;exact Wx (by omega) (by have:(2:Z)^128=340282366920938463463374607431768211456:=rfl;omega) (w.st a v) (by rw[BS (by omega)];omega)
 have o:=Tk j.lt (λa v=>by rw[<-Nat.mod_mod_of_dvd _ k,g a v];exact BS j.lt) _ 1 I (Nat.one_dvd _);obtain⟨m,u⟩:=k;have arF:p<=m:=by
  rw[u]at l;exact Nat.le_of_mul_le_mul_left l (by omega)
 have B:p-1 ∣ m-1:=by
  have L:n-1=(p-1)*m+(m-1):=by
   obtain⟨p',rfl⟩:∃p',p=p'+1:=⟨p-1,by omega⟩;obtain⟨m',rfl⟩:∃m',m=m'+1:=⟨m-1,by omega⟩;rw[u];show(p'+1)*(m'+1)-1=p'*(m'+1)+m';have:(p'+1)*(m'+1)=p'*(m'+1)+m'+1:=by grind
   omega
  rw[L]at o;exact(Nat.dvd_add_right (Nat.dvd_mul_right (p-1) m)).1 o
 obtain⟨t,x⟩:=B;have xp:t≠0:=λq=>by rw[q,Nat.mul_zero]at x;omega
 have A:m=1+(t-1+1)*(p-1):=by
  rw[Nat.mul_comm,show t-1+1=t by omega,<-x];omega
 have y:0<p*(p-1):=Nat.mul_pos (by omega) (by omega);have H:t-1<0+2^(CC (ga/(p*(p-1)))+1):=by
  have F:t*(p*(p-1))<=ga:=by
   have:t*(p*(p-1))=p*((p-1)*t):=by grind
   rw[this,<-x];have:p*(m-1)<=p*m:=BH _ (by omega);omega
  have E:t<=ga/(p*(p-1)):=(Nat.le_div_iff_mul_le y).2 F;have h3:=Nat.lt_log2_self (n:=ga/(p*(p-1)));omega
 have f:=fX _ _ 0 (t-1) J (Z9 _) H;unfold LO at f;rw[<-A,<-u]at f;have e:A4 n ga=CS:=by rw[BV];exact G
 rw[e]at f;have f:xu n m=CS:=f;unfold xu at f;have K:A0 m ug=1:=by
  rw[<-To];refine zq _ λb c=>?_;rw[Nat.gcd_comm];exact(vg (Ue b c)).qs λq=>w.nd b c (by rw[u];exact BJ q (Nat.dvd_mul_left ..))
 rw[K,ab3,g 2 (by decide),h]at f;exact Bool.noConfusion (show CT=CS from f)
def KW:V Z:=[13,13,19,1,17,23,19,23,1,1,17,1,7,13,13,1,7,43,31,19,13,37,1,13,19,7,19,17,13,31,7,7,1,7,29,17,1,1,7,7,37,1,17,13,1,7,17,1,13,67,7,7,1,13,7,1,41,7,1,7,1,19,13,13,1,13,1,29,7,23,13,7,7,17,23,17,13,17,17,19,1,23,7,1,23,13,1,17,7,1,17,61,17,1,17,23,7,41,19,47,47,7,1,1,1,31,17,29,19,23,1,19,19,7,1,47,17,23,1,23,29,19,1,1,17,17,59,7,1,1,7,7,1,7,7,23,1,13,1,1,37,13,1,7,17,19,1,7,1,41,17,23,1,29,7,1,1,13,29,7,19,17,89,19,13,1,29,17,7,19,13,13,1,19,13,23,41,1,7,13,7,17,23,17,13,1,23,19,1,73,17,7,1,7,17,1,13,1,13,83,37,29,13,49,13,37,19,7,1,17,31,7,19,17,7,61,13,13,7,1,19,7,7,29,31,13,19,29,7,49,13,47,61,7,1,71,23,1,7,7,1,13,29,1,13,7,43,37,17,7,1,17,13,19,1,13,7,1,47,7,13,1,1,13,7,23,19,7,1,13,41,29,19,13,1,1,1,37,19,1,19,1,7,43,7,1,29,13,7,13,7,13,7,29,13,17,1,7,49,19,1,31,13,7,13,1,7,41,13,1,1,17,7,23,29,17,29,13,7,1,19,17,13,61,29,1,1,1,17,7,1,1,31,1,1,1,7,17,7,71,1,17,29,7,1,7,19,1,1,17,41,31,41,1,17,29,1,23,19,1,17,7,47,1,19,1,13,1,17,1,13,7,1,1,19,7,23,13,13,7,43,19,1,7,17,47,1,41,29,7,7,19,13,1,7,13,29,31,41,7,13,19,29,23,17,17,17,31,19,13,37,1,17,7,19,61,17,13,1,13,7,29,13,17,1,7,1,53,29,29,37,13,43,13,37,7,89,13,29,7,13,31,7,7,13,1,7,1,7,17,29,17,13,19,1,7,13,13,7,13,1,13,53,41,1,1,1,7,19,17,17,1,7,23,7,13,61,7,1,13,49,7,13,7,13,7,17,1,29,37,7,17,1,23,1,1,1,67,13,23,1,7,19,47,41,43,1,17,1,19,23,19,1,1,7,53,7,53,19,1,7,13,1,1,31,7,7,29,31,13,31,1,7,31,1,1,1,49,17,47,13,13,1,43,1,17,13,1,19,1,7,7,53,13,1,29,41,1,7,13,13,13,1,23,23,29,19,13,19,7,1,31,43,13,47,41,13,7,1,17,13,7,13,7,7,1,43,1,23,29,49,19,7,1,19,7,7,19,1,17,1,1,7,7,19,7,23,17,17,13,49,13,1,7,31,31,31,19,1,29,7,7,23,17,13,43,7,1,43,1,19,1,23,1,7,1,31,13,1,7,23,7,7,13,17,13,13,7,71,7,17,7,1,1,19,1,1,1,17,1,29,19,7,7,23,17,13,19,19,1,17,13,23,1,7,7,17]
def Hb:Z->V Z->J
 |_, []=>CS
 |b,d::r=>Nat.ble d 100&&(hH (b+d)&&Hb (b+99000) r)
def PF:∀(l:V Z) (b i:Z),Hb b l=CS->i<l.length->∃d,d<=100/\hH (b+99000*i+d)=CS
 |[],_,i,_,h=>M h (AE i)
 |d::r,b,i,h,a=>by
  unfold Hb at h;simp only[Z3,Nat.ble_eq]at h
  match i,a with
  |0,_=>exact⟨d,h.1,h.2.1⟩
  |i+1,a =>
   obtain⟨e,f,c⟩:=PF r (b+99000) i h.2.2 (by simp at a;omega);exact⟨e,f,by rw[show b+99000*(i+1)+e=b+99000+99000*i+e by omega];exact c⟩
def aeb:Hb 99000 KW=CS:=by decide +kernel
def abG:KW.length=677:=by decide +kernel
def aky:hH 67108879=CS:=by decide +kernel
def Kb:hH 65003=CS:=by decide +kernel
structure Md (m u:Nat):Prop where
 pn:hH (fU m)=true
 pr:bg (fU m)
 lo:m<=fU m
 hi:fU m<=u
def u7(h:m<=q)(f:q<m+100000)(d:hH q=CS)(e:q<ga):Md m q:=by
 obtain⟨a,b⟩:=N5 100000 m q h f d;have c:=IN 100000 m;rw[<-Q4]at a b c;exact⟨a,amJ a (Nat.lt_of_le_of_lt b e),c,b⟩
def r8(h:m<67108867:=by omega):∃q,q<=67108879/\q<m+100000/\Md m q:=by
 by_cases hm:67023000<=m
 .exact⟨67108879,Z0 _,by omega,u7 (by omega) (by omega) aky (by unfold ga;omega)⟩
 .obtain⟨d,h1,a⟩:=PF KW 99000 (m/99000) aeb (by rw[abG];omega);exact⟨99000+99000*(m/99000)+d,by omega,by omega,u7 (by omega) (by omega) a (by unfold ga;omega)⟩
def VN:Env AA:=wm [aag] [.pt (adL 0),.pt (alf 10),.pt (ah4 4),.pt ale] (fun|999994=> [0]|_=> []) aC (λ_ _=>CU)
def ac7(a n i:Y)(k:Z)(g:Z->MV)(b:_)(q:b=(O CV n))(h:_)(p:h=(fU (E (O CV (3+G b 67108864))):Y))(f:_)(o:f=(fU (E (O CV (5+G b 1048576))):Y))(e:_)(m:e=(fU (E (O CV (7+G b 1500))):Y))(c:_)(l:c=(E (O CV i)))(d:_)(j:d=(fU (E (G b 65000)):Y)):(((4:Y)=0->D)/\bif G a 4==0 then ((65000:Y)=0->D)/\(0<=G b 65000/\G b 65000<1099511627776/\hH (fU (E (G b 65000)))=CS)/\x7 0 0 (λx=>MV.any) d/\C (jQ 0 (aE 0 λx=>MV.any) d)<=C (jQ 0 (aE 0 λx=>MV.any) d)/\18=18/\C (jQ 0 (aE 0 λx=>MV.any) d)=k/\al (C (jQ 0 (aE 0 λx=>MV.any) d)) (aF (jQ 0 (aE 0 λx=>MV.any) d) 200) g else bif G a 4==1 then ((67108864:Y)=0->D)/\(0<=O CV (3+G b 67108864)/\O CV (3+G b 67108864)<1099511627776/\hH (fU (E (O CV (3+G b 67108864))))=CS)/\xt 10 0 (λx=>MV.any) h/\C (m8 10 (aE 0 λx=>MV.any) (E h))<=C (m8 10 (aE 0 λx=>MV.any) (E h))/\18=18/\C (m8 10 (aE 0 λx=>MV.any) (E h))=k/\al (C (m8 10 (aE 0 λx=>MV.any) (E h))) (aF (m8 10 (aE 0 λx=>MV.any) (E h)) 200) g else bif G a 4==2 then ((1048576:Y)=0->D)/\(0<=O CV (5+G b 1048576)/\O CV (5+G b 1048576)<1099511627776/\hH (fU (E (O CV (5+G b 1048576))))=CS)/\LV 4 0 (λx=>MV.any) f (O CV i)/\C (qJ 4 (aE 0 λx=>MV.any) (E f) c)<=C (qJ 4 (aE 0 λx=>MV.any) (E f) c)/\18=18/\C (qJ 4 (aE 0 λx=>MV.any) (E f) c)=k/\al (C (qJ 4 (aE 0 λx=>MV.any) (E f) c)) (aF (qJ 4 (aE 0 λx=>MV.any) (E f) c) 200) g else ((1500:Y)=0->D)/\(0<=O CV (7+G b 1500)/\O CV (7+G b 1500)<1099511627776/\hH (fU (E (O CV (7+G b 1500))))=CS)/\K9 0 (λx=>MV.any) e (O CV i)/\C (kb (aE 0 λx=>MV.any) (E e) c)<=C (kb (aE 0 λx=>MV.any) (E e) c)/\18=18/\C (kb (aE 0 λx=>MV.any) (E e) c)=k/\al (C (kb (aE 0 λx=>MV.any) (E e) c)) (aF (kb (aE 0 λx=>MV.any) (E e) c) 200) g)=aI VN CB [.st [.int .u8 a,.int .u32 n,.int .u16 i]] (AS (.ret (.sl 18 k g))):=by subst q p o m l j;kernel_rfl
def en(a n:Z):Z:=fU (if a%4=0 then n%65000 else if a%4=1 then 3+n%67108864 else if a%4=2 then 5+n%1048576 else 7+n%1500)
def pM(a n b:Z):V ab:=if a%4=0 then jQ 0 [] (en a n:Z)else if a%4=1 then m8 10 [] (en a n)else if a%4=2 then qJ 4 [] (en a n) b else kb [] (en a n) b
def aim(a n g:Z):i! (pM a n g) (en a n:Z):=by
 unfold pM;split
 .rename_i h;have e:en a n=fU (n%65000):=by unfold en;rw[x h]
  have c:=AM n (show 0<65000 by omega);have k:=u7 (m:=n%65000) (q:=65003) (by omega) (by omega) Kb (by unfold ga;omega);rw[e];have:=k.hi;have k5:=k.pr.lt;exact YQ (f:=0) (by omega) ⟨by rw[Z8];exact k.pr,by omega,by omega⟩
 .split
  .rename_i b h;have e:en a n=fU (3+n%67108864):=by unfold en;rw[F b,x h]
   have c:=AM n (show 0<67108864 by omega);obtain⟨q,q1,_,k⟩:=r8 (m:=3+n%67108864);rw[e];have j:=k.hi;have i:=k.lo;exact aaC (f:=10) k.pr
  .split
   .rename_i b d h;have e:en a n=fU (5+n%1048576):=by unfold en;rw[F b,F d,x h]
    have c:=AM n (show 0<1048576 by omega);obtain⟨q,_,q1,k⟩:=r8 (m:=5+n%1048576);rw[e];have j:=k.hi;have i:=k.lo;exact YP (f:=4) k.pr (by omega) (by omega) (by omega) (by omega) g
   .rename_i b d h;have e:en a n=fU (7+n%1500):=by unfold en;rw[F b,F d,F h]
    have c:=AM n (show 0<1500 by omega);have l:hH 1511=CS:=zx (oG (by omega) (by omega) (by decide +kernel)) (by decide);have k:=u7 (m:=7+n%1500) (q:=1511) (by omega) (by omega) l (by unfold ga;omega);rw[e];have j:=k.hi;have i:=k.lo;exact aaB k.pr (by omega) (by omega) g
def Hf:ct 0 (λ_=>.any):=⟨Z9 _,λj b=>M b (AE j),λ_ a=>M a AW⟩
def UH:fi (aE 0 λ_=>.any) 0:=⟨λj a=>M a (AE j)⟩
def aaA(a n c:Z)(ha:a<256:=by omega)(hn:n<4294967296:=by omega)(hf:c<65536:=by omega):∃E:Env AA,aI E CB [.st [.int .u8 a,.int .u32 n,.int .u16 c]] (AS (.ret (.sl 18 (pM a n c).length (aF (pM a n c) 200)))):=by
 refine⟨VN,?_⟩;rw[<-ac7 a n c (pM a n c).length (aF (pM a n c) 200) _ rfl _ rfl _ rfl _ rfl _ rfl _ rfl];have u:aE 0 (λ_=>.any)=[]:=rfl;have s:G (a:Y) 4=((a%4:Z):Y):=lM a 4;have f:∀m:Z,G (n:Y) (m:Y)=((n%m:Z):Y):=λm=>lM n m;rw[u,s,xP (show(n:Z)<18446744073709551616 by omega),xP (show c<18446744073709551616 by omega),show G (n:Y) 65000=((n%65000:Z):Y) from f 65000,show G (n:Y) 67108864=((n%67108864:Z):Y) from f 67108864,
  show G (n:Y) 1048576=((n%1048576:Z):Y) from f 1048576,show G (n:Y) 1500=((n%1500:Z):Y) from f 1500]
 have wr:∀m:Z,m<18446744073709551616->O CV (m:Y)=(m:Y):=λm h=>xP h;have r:O CV (3+((n%67108864:Z):Y))=((3+n%67108864:Z):Y):=wr (3+n%67108864) (by omega);have p:O CV (5+((n%1048576:Z):Y))=((5+n%1048576:Z):Y):=wr (5+n%1048576) (by omega);have o:O CV (7+((n%1500:Z):Y))=((7+n%1500:Z):Y):=wr (7+n%1500) (by omega);rw[r,p,o];have m0:=AM n (show 0<65000 by omega);have m1:=AM n (show 0<67108864 by omega);have m2:=AM n (show 0<1048576 by omega);have apd:=AM n (show 0<1500 by omega);refine⟨by omega,aJ beq_iff_eq (λz=>?_) (λz=>aJ beq_iff_eq (λl=>?_) (λl=>aJ beq_iff_eq (λj=>?_) (λj=>?_)))⟩
 .have h:a%4=0:=by omega
  have k:=u7 (m:=n%65000) (q:=65003) (by omega) (by omega) Kb (by unfold ga;omega);have g:=k.hi;have k5:=k.pr.lt;unfold pM en;rw[x h,x h];have d:=qc (n:=fU (n%65000));exact⟨by omega,⟨by omega,by omega,by rw[Z8];exact k.pn⟩,⟨⟨by rw[Z8,Z8];exact k.pr,by rw[Z8];omega,by rw[Z8];omega⟩,by omega,Hf,by rw[Z8,Z8];omega⟩,by rw[Z8];exact Z0 _,rfl,by rw[Z8],by rw[Z8];exact AC⟩
 .have b:¬a%4=0:=by omega
  have h:a%4=1:=by omega
  obtain⟨q,q1,_,k⟩:=r8 (m:=3+n%67108864);have g:=k.hi;have i:=k.lo;unfold pM en;rw[F b,x h,F b,x h];simp only[Z8];have d:=qc (n:=fU (3+n%67108864));exact⟨by omega,⟨by omega,by omega,k.pn⟩,⟨by rw[Z8];exact k.pr,by omega,by omega,by rw[Z8];omega,by omega,Hf,by rw[Z8];omega⟩,Z0 _,⟨⟩,⟨⟩,AC⟩
 .have b:¬a%4=0:=by omega
  have e:¬a%4=1:=by omega
  have h:a%4=2:=by omega
  obtain⟨q,_,q1,k⟩:=r8 (m:=5+n%1048576);have g:=k.hi;have i:=k.lo;unfold pM en;rw[F b,F e,x h,F b,F e,x h];simp only[Z8];have d:=qc (n:=fU (5+n%1048576)+1);exact⟨by omega,⟨by omega,by omega,k.pn⟩,⟨by rw[Z8];exact k.pr,by omega,by omega,by rw[Z8];omega,by omega,by omega,by omega,Hf,UH,by rw[Z8];omega⟩,Z0 _,⟨⟩,⟨⟩,AC⟩
 .have b:¬a%4=0:=by omega
  have e:¬a%4=1:=by omega
  have h:¬a%4=2:=by omega
  have t:hH 1511=CS:=zx (oG (by omega) (by omega) (by decide +kernel)) (by decide);have k:=u7 (m:=7+n%1500) (q:=1511) (by omega) (by omega) t (by unfold ga;omega);have g:=k.hi;have i:=k.lo;unfold pM en;rw[F b,F e,F h,F b,F e,F h];simp only[Z8];exact⟨by omega,⟨by omega,by omega,k.pn⟩,⟨by rw[Z8];exact k.pr,by omega,by omega,by omega,by omega,Hf,UH,by omega,by rw[Z8];exact PI k.pr (by omega) (by omega) []⟩,Z0 _,⟨⟩,⟨⟩,AC⟩
def Ct:aG
 |[.st [.int .u8 a,.int .u32 n,.int .u16 fr]]=>CW (CW ((0<=a/\a<=255)/\(0<=n/\n<=4294967295)/\0<=fr/\fr<=65535),.ret (.sl 18 (pM a.toNat n.toNat fr.toNat).length (aF (pM a.toNat n.toNat fr.toNat) 200)))
 |_=>CU
def afD:bC CB Ct:=by
 intro ms p r h c;unfold Ct at h;split at h
 .rename_i a n b;cases h;obtain⟨⟨h0,h1⟩,⟨h2,h3⟩,h4,h5⟩:(0<=a/\a<=255)/\(0<=n/\n<=4294967295)/\0<=b/\b<=65535:=c;have:=aaA a.toNat n.toNat b.toNat
  grind
 .simp at h
def adC:ai AA:=⟨10,Ct,λargs w=>Tryz.call10 args w,aO bQ Tryz.func10 Ct afD⟩
def my(id:Z):Code->CX (N r)
 |.region i ops _=>T (i.beq id) (CW ops) CU
 |.seq a b=>(match my id a with
  |some x=>CW x
  |none=>my id b)
 |.cond _ a b=>(match my id a with
  |some x=>CW x
  |none=>my id b)
 |.block _ c=>my id c
 |.loop c=>my id c
 |.scope c=>my id c
 |_=>CU
def ai1(f:Func)(id:Z):V r:=match f.body with
 |some c=>(match my id c with
  |some x=>x.toList
  |none=> [])
 |none=> []
def jX(L:V ab)(pv a:Z->W):Z->MV:=λi =>
 .st [.int .i64 (L.getD i aB).kind,.st [.bool (L.getD i aB).neg,.ws (L.getD i aB).ah],.val (pv i),.val (a i),.st [.aa (L.getD i aB).ca 200,.aa (L.getD i aB).cb 200,.aa (L.getD i aB).cm 200],.st [.aa (L.getD i aB).x 200,.aa (L.getD i aB).y 200,.bool (L.getD i aB).inf],.aa (L.getD i aB).ord 200]
def jO{P:CY}{ops:N r}{Q:Exit->Act->U->Prop}{b:V r}:∀(c:V r) (a:Act) (w:U),wpList P ops (λe a' w'=>match e with|.normal=>wpList P ops Q b a' w'|e=>Q e a' w') c a w->wpList P ops Q (c++b) a w
 |[],_,_,h=>h
 |o::l,a,w,h=>by
  rw[List.cons_append];unfold wpList at h⊢;split
  .rename_i f;rw[x f]at h;exact h.imp (λh=>vT (λg d=>jO l g d) (λh=>h) (λ_ _ _ h=>h) _ h) λh=>⟨h.1,h.2⟩
  simp_all [jO]
def fa{α:Type}{p:α->Prop}{x:α}{l:V α}(b:p x)(a:∀y∈l,p y):∀y∈x::l,p y:=List.forall_mem_cons.2 ⟨b,a⟩
def f0{α:Type}{p:α->Prop}:∀y∈([]:V α),p y:=λ_ h=>M h AW
def so{c:Ctx}{w:U}{a:Act}:∀(tm:V (Z×MV)),(∀p∈tm,af c w p.2 (a.tmps.getD p.1 undef))->∀t,af c w (bE t tm) (a.tmps.getD t undef)
 |[],_,_=>⟨⟩
 |(u,m)::r,h,t=>by
  have h1:=h (u,m) AH;have h2:=so r (λp b=>h p (AG _ b)) t
  grind [bE,BW]
def St.re{s:MS}(h:St S0 w0 s c a w)(k0:V (Z×MV))(bx':V aq)(d:Mem S0 w0 bx' c w)(b:∀p∈k0,af c w p.2 (a.tmps.getD p.1 undef)) :
  St S0 w0 ⟨s.n,k0,bx',s.np⟩ c a w:=⟨d,so k0 b,h.size,h.defers,h.np⟩
def Ctx.b1(S:Z->Prop)(b:Z)(z:Sz):Ctx:=⟨λq=>S q\/q=b,λq=>q=b,λi=>i=0,λ_=>b,λ_=>z⟩
def ck.b1(w:U)(b:Z)(z:Sz)(a:V Deferred):ck:=⟨w,λq=>q=b,λi q z'=>i=0/\q=b/\z'=z,a⟩
def dp.apF(w:U)(b:Z)(z:Sz)(a:V Deferred):dp (ck.b1 w b z a) w:=⟨rfl,rfl,Z0 _,λ_ _ _=>rfl,λ_ _=>rfl,rfl,Z0 _⟩
def St.VX{s:MS}(h:St S0 w0 s c a w){wd n:Z}{F F':Z->MV}(x:aQ s.bx 0=CW ⟨CT,.rows wd n F⟩)(o:c.live 0)(r:c.β 0=b)(v:c.sz 0=z)(S1:Z->Prop)(t:∀q,S1 q->c.S q/\q≠b)(G:(∀q,(Ctx.b1 S1 b z).S q->c.S q)->∀arr ty,w.heap[b]? =CW (.cells arr ty (0,0))->gI c w (.rows wd n F) arr->gI (Ctx.b1 S1 b z) w (.rows wd n F') arr)(k0:V (Z×MV))(C:∀p∈k0,af (Ctx.b1 S1 b z) w p.2 (a.tmps.getD p.1 undef)) :
  St S1 (ck.b1 w b z w0.df) ⟨s.n,k0, [⟨CT,.rows wd n F'⟩],1⟩ (Ctx.b1 S1 b z) a w:=by
 have k:=h.mem;have u:c.S b:=k.WS b ((k.hW b).2 ⟨0,_,o,x,rfl,r⟩);have l:∀q,(Ctx.b1 S1 b z).S q->c.S q:=λq hq=>by
  rcases hq with hq|hq
  all_goals simp_all
 refine⟨⟨dp.apF w b z _,λq hq=>⟨k.fh q (t q hq).1,(t q hq).2⟩,⟨k.gw.sub λq hq=>(t q hq).1,λg E e=>(k.gw g E).1 (by rw[show g=b from e];exact u)⟩,λq=>Iff.rfl,λq=>⟨λhq=>⟨0,_,rfl,rfl,rfl,hq.symm⟩,λ⟨i,y,_,_,_,e⟩=>e.symm⟩,λi j f D _=>by rw[show i=0 from f,show j=0 from D],λi f=>⟨.inr rfl,by rw[<-r];exact(k.fresh 0 o).2.1,by rw[show i=0 from f];exact Nat.zero_lt_one⟩,λi y f d=>?_,λi q z' ⟨J,I,H⟩=>⟨J,I.symm,H.symm⟩⟩,so k0 C,h.size,h.defers,λi q z' e=>?_⟩
 .have f:i=0:=f;subst f;have d:CW (⟨CT,.rows wd n F'⟩:aq)=CW y:=d;simp only[Z1]at d;subst d;obtain⟨arr,ty,q1,B,m,A⟩:=k.box 0 _ o x;rw[r]at q1;exact⟨arr,ty,q1,by rw[B,v];rfl,by have m:(c.sz 0).wd=wd:=m;rw[v]at m;exact m,G l arr ty q1 A⟩
 .obtain⟨e,_⟩:=e
  grind [nI,jL]
def St.one{s:MS}(h:St S0 w0 s c a w){wd n:Z}{F F':Z->MV}(y:aQ s.bx 0=CW ⟨CT,.rows wd n F⟩)(t:c.live 0)(u:c.β 0=b)(m:c.sz 0=z)(S1:Z->Prop)(v:∀q,S1 q->c.S q/\q≠b)(x:∀i,i<n->∀d,aj (Ctx.b1 S1 b z).elem w (F i) d->aj (Ctx.b1 S1 b z).elem w (F' i) d)(k0:V (Z×MV))(o:∀p∈k0,af (Ctx.b1 S1 b z) w p.2 (a.tmps.getD p.1 undef)) :
  St S1 (ck.b1 w b z w0.df) ⟨s.n,k0, [⟨CT,.rows wd n F'⟩],1⟩ (Ctx.b1 S1 b z) a w :=
 h.VX y t u m S1 v (λe arr ty _ l i f=>by
  obtain⟨d,k,j,g⟩:=l i f;exact⟨d,k,x i f d (BA (⟨λq _ r=>e q r,λ_ _ h=>h,λ_ h=>h.elim,λ_ _ _=>rfl,λ_ _ _=>rfl⟩:bf c.elem (Ctx.b1 S1 b z).elem w w) _ _ j),g⟩) k0 o
def Mem.VW{f:U}{n:V Deferred}{bx:V aq}(h:Mem S1 (ck.b1 f b z n) bx c w):bf (Ctx.b1 S1 b z) c f w:=by
 have g:∀q,q<f.heap.size->c.W q->q=b:=λq a j=>by
  obtain⟨i,b0,m,_,_,e⟩:=(h.hW q).1 j;rcases(h.fresh i m).1 with k|k
  .have k:f.heap.size<=c.β i:=k;omega
  .rw[<-e];exact k
 refine⟨λq a d=>?_,g,λi l=>?_,λq a d=>h.ext.block q a λe=>d (.inr e),λq a d=>h.ext.block q a d⟩
 .rcases(h.hS q).1 d with k|k
  .exact .inl k
  .exact .inr (g q a k)
 .exact h.bz i b z ⟨l,rfl,rfl⟩
def eB(v:W)(q:Z):Prop:=∃len cap,v= .slice (CW ⟨q,0,CU⟩) len cap
def jq(c:Ctx)(w:U)(wd len:Z)(f:Z->MV)(v:W):Prop :=
 ∃a cap,v= .slice a len cap/\len<=cap/\((∃q arr ty,a=CW ⟨q,0,CU⟩/\w.heap[q]? =CW (.cells arr ty (0,0))/\arr.size=cap*wd/\gI c w (.rows wd len f) arr)\/(a=CU/\len=0/\cap=0))
def jq.lt{wd len:Z}{f:Z->MV}{v:W}(h:jq c w wd len f v)(b:eB v q):q<w.heap.size:=by
 obtain⟨a,cap,rfl,_,h⟩:=h;obtain⟨l2,c2,e⟩:=b
 grind
def jq.bu{c':Ctx}(k:bf c.elem c'.elem w w'){wd len:Z}{f:Z->MV}{v:W}(h:jq c w wd len f v)(j:∀q,eB v q->w'.heap[q]? =w.heap[q]?):jq c' w' wd len f v:=by
 obtain⟨a,cap,rfl,l,h⟩:=h;refine⟨a,cap,rfl,l,h.imp (λ⟨q,arr,ty,b,p,o,n⟩=>⟨q,arr,ty,b,by rw[j q ⟨len,cap,by rw[b]⟩];exact p,o,λi m=>?_⟩) id⟩;obtain⟨r,g,e,d⟩:=n i m;exact⟨r,g,BA k _ _ e,d⟩
def N?{len wd:Z}{f:Z->MV}{v:W}(h:aj c w (.bs i 0 len) [v])(o:c.live i->dn c w i ⟨CT,.rows wd len f⟩):jq c w wd len f v/\∀q,eB v q->c.live i/\q=c.β i:=by
 obtain⟨a,cap,e,j,h⟩:=h;simp only[BK,and_true]at e;subst e;rcases h with ⟨g,b,n⟩|⟨g,r,p⟩
 .obtain⟨arr,ty,q1,l,d,k⟩:=o b;have d:(c.sz i).wd=wd:=d;refine⟨⟨a,cap,rfl,j,.inl ⟨_,arr,ty,g,q1,by rw[l,<-n,d,AQ],k⟩⟩,λq ⟨m,s,e⟩=>⟨b,?_⟩⟩
  grind
 .refine⟨⟨a,cap,rfl,j,.inr ⟨g,r,p⟩⟩,λq ⟨m,s,e⟩=>?_⟩
  simp_all
structure gn (w0:Nat) (S:Nat->Prop) (b:Nat) (z:Sz) (L:List ab) (pv bv:Nat->Value) (mP mB:Nat) (w:World):Prop where
 tu:∀j,j<mP->jq (Ctx.b1 S b z) w 1 (L.getD j aB).parts.length (bI (L.getD j aB).parts) (pv j)
 tt:∀j,j<mB->jq (Ctx.b1 S b z) w 2 (L.getD j aB).base.length (iL (L.getD j aB).base 200) (bv j)
 H4:∀j,mP<=j->j<L.length->aj (Ctx.b1 S b z) w (.sl 1 (L.getD j aB).parts.length (bI (L.getD j aB).parts)) [pv j]
 HZ:∀j,mB<=j->j<L.length->aj (Ctx.b1 S b z) w (.sl 2 (L.getD j aB).base.length (iL (L.getD j aB).base 200)) [bv j]
 l7:∀j q,j<mP->eB (pv j) q->S q/\w0<=q
 d?:∀j q,j<mB->eB (bv j) q->S q/\w0<=q
 dP:∀j k q,j<k->k<mP->eB (pv j) q->¬eB (pv k) q
 dB:∀j k q,j<k->k<mB->eB (bv j) q->¬eB (bv k) q
 dX:∀j k q,j<mP->k<mB->eB (pv j) q->¬eB (bv k) q
 S0:∀q,S q->q<w.heap.size/\q≠b
def gn.frame{w0:Z}{L:V ab}{pv p:Z->W}{mP mB:Z}{s:V Deferred}(h:gn w0 S b z L pv p mP mB w)(e:dp (ck.b1 w b z s) w')(S2:Z->Prop)(o:∀q,S q->S2 q)(m:∀q,S2 q->S q\/w.heap.size<=q)(l:∀q,S2 q->q<w'.heap.size/\q≠b):gn w0 S2 b z L pv p mP mB w':=by
 have k:bf (Ctx.b1 S b z) (Ctx.b1 S2 b z) w w':=⟨λq a f=>f.imp (λf=>(m q f).elim id λh=>by omega) id,λ_ _ h=>h,λi r=>⟨r,rfl,rfl⟩,λq a f=>e.block q a λe=>f (.inr e),λq a f=>e.block q a f⟩;have n:∀q,S q->w'.heap[q]? =w.heap[q]? :=λq a=>e.block q (h.S0 q a).1 (h.S0 q a).2;exact⟨λj g=>(h.tu j g).bu k.elem λq a=>n q (h.l7 j q g a).1,λj g=>(h.tt j g).bu k.elem λq a=>n q (h.d? j q g a).1,λj d c=>(h.H4 j d c).bu k,λj d c=>(h.HZ j d c).bu k,
  λj q d c=>⟨o q (h.l7 j q d c).1,(h.l7 j q d c).2⟩,λj q d c=>⟨o q (h.d? j q d c).1,(h.d? j q d c).2⟩,h.dP,h.dB,h.dX,l⟩
def tc(n i:Z):V (Z×MV):=[(3,.bs 0 0 n),(4,.int .i64 i)]
def xe(n i:Z):V (Z×MV):=[(3,.bs 0 0 n),(4,.int .i64 i),(14,.bs 0 0 n),(15,.int .i64 i)]
def xf(n i:Z):V (Z×MV):=[(3,.bs 0 0 n),(4,.int .i64 i),(25,.bs 0 0 n),(26,.int .i64 i)]
def nO(L:V ab)(pv a:Z->W):aq:=⟨CT,.rows 18 L.length (jX L pv a)⟩
def kg(L:V ab)(pv a:Z->W)(i:Z):MS:=⟨37,tc L.length i, [nO L pv a],1⟩
noncomputable def ed(id:Z):V r:=ai1 BU id
def akf(L:V ab)(pv a:Z->W)(i:Z)(K:MS->Prop):(((0:Y)<=(↑i:Y)/\(↑i:Y)<(↑(C L):Y))/\E (↑i:Y)<C L/\K { n:=nat_lit 37,tm:=[((21:Z),MV.val (pv (E (↑i:Y)))),((20:Z),MV.br (0:Z) (E (↑i:Y)) ((0:Z)+3)),((19:Z),MV.br (0:Z) (E (↑i:Y)) (0:Z)),((18:Z),MV.int CZ (↑i:Y)),((17:Z),MV.bs (0:Z) (0:Z) (C L)),((16:Z),MV.bs (1:Z) (0:Z) (0:Z)),((15:Z),MV.int CZ (↑i:Y)),((14:Z),MV.bs (0:Z) (0:Z) (C L)),((3:Z),MV.bs (0:Z) (0:Z) (C L)),((4:Z),MV.int CZ (↑i:Y))],bx:=[nO L pv a,{ fz:=false,c:=BC.arr CZ [] }],np:=nat_lit 1 })=cV (aK [] aC) (ed 5) (λ_=>D) ((ed 5).take 8) (kg L pv a i) K:=by kernel_rfl
def akg(L:V ab)(pv a:Z->W)(i len:Z)(g:Z->MV)(K:MS->Prop):(((0:Z)<=0/\((0:Z)+AP (bh.rows (1:Z) len g))*8<=140737488355328)/\K { n:=nat_lit 37,tm:=[((22:Z),MV.bs (1:Z) (0:Z) ((0:Z)+AP (bh.rows (1:Z) len g))),((16:Z),bif AR (1:Z) (MV.bs (1:Z) (0:Z) (0:Z))then MV.any else MV.bs (1:Z) (0:Z) (0:Z)),((21:Z),bif AR (1:Z) (MV.sl (1:Z) len g)then MV.any else MV.sl (1:Z) len g),((3:Z),bif AR (1:Z) (MV.bs (0:Z) (0:Z) (C L))then MV.any else MV.bs (0:Z) (0:Z) (C L)),((4:Z),bif AR (1:Z) (MV.int CZ (↑i:Y))then MV.any else MV.int CZ (↑i:Y)),((14:Z),bif AR (1:Z) (MV.bs (0:Z) (0:Z) (C L))then MV.any else MV.bs (0:Z) (0:Z) (C L)),((15:Z),bif AR (1:Z) (MV.int CZ (↑i:Y))then MV.any else MV.int CZ (↑i:Y))],bx:=[bif AL (0:Z) (1:Z)then nO L pv a else nO L pv a,{ fz:=false,c:=BC.rows (1:Z) ((0:Z)+len) λq=>bif A4 q (0:Z)then MV.any else g (q-0) }],np:=nat_lit 1 })=cV (aK [] aC) (ed 5) (λ_=>D) (((ed 5).drop 8).take 1) ⟨37,(16,.bs 1 0 0)::(21,.sl 1 len g)::xe L.length i, [nO L pv a,⟨CT,.rows 1 0 (λ_=>.any)⟩],1⟩ K:=by kernel_rfl
def akh(L:V ab)(pv d:Z->W)(i:Z)(v:W)(K:MS->Prop)(b:_)(e:b=(E (↑i:Y)))(a:_)(f:a=(C0 L b aB)):(((0:Y)<=(↑i:Y)/\(↑i:Y)<(↑(C L):Y))/\E (↑i:Y)<C L/\K {n:=nat_lit 37,tm:=((24:Z),MV.br (0:Z) b ((0:Z)+3))::((23:Z),MV.br (0:Z) b (0:Z))::((22:Z),MV.val v)::xe (C L) i,bx:=[{fz:=false,c:=BC.rows (18:Z) (C L) λj=>bif AL j b then MV.st [MV.int CZ (ab.kind a),MV.st [MV.bool (ab.neg a),MV.ws (ab.ah a)],MV.val v,MV.val (d b),MV.st [MV.aa (ab.ca a) (200:Z),MV.aa (ab.cb a) (200:Z),MV.aa (ab.cm a) (200:Z)],MV.st [MV.aa (ab.x a) (200:Z),MV.aa (ab.y a) (200:Z),MV.bool (ab.inf a)],MV.aa (ab.ord a) (200:Z)]else jX L pv d j}],np:=nat_lit 1})=cV (aK [] aC) (ed 5) (λ_=>D) (((ed 5).drop 8).drop 1) ⟨37,(22,.val v)::xe L.length i, [nO L pv d],1⟩ K:=by subst e f;kernel_rfl
def aki(L:V ab)(pv a:Z->W)(i:Z)(K:MS->Prop):(((0:Y)<=(↑i:Y)/\(↑i:Y)<(↑(C L):Y))/\E (↑i:Y)<C L/\K { n:=nat_lit 37,tm:=[((32:Z),MV.val (a (E (↑i:Y)))),((31:Z),MV.br (0:Z) (E (↑i:Y)) ((0:Z)+4)),((30:Z),MV.br (0:Z) (E (↑i:Y)) (0:Z)),((29:Z),MV.int CZ (↑i:Y)),((28:Z),MV.bs (0:Z) (0:Z) (C L)),((27:Z),MV.bs (1:Z) (0:Z) (0:Z)),((26:Z),MV.int CZ (↑i:Y)),((25:Z),MV.bs (0:Z) (0:Z) (C L)),((3:Z),MV.bs (0:Z) (0:Z) (C L)),((4:Z),MV.int CZ (↑i:Y))],bx:=[nO L pv a,{ fz:=false,c:=BC.rows (2:Z) (0:Z) (aT []) }],np:=nat_lit 1 })=cV (aK [] aC) (ed 6) (λ_=>D) ((ed 6).take 8) (kg L pv a i) K:=by kernel_rfl
def akj(L:V ab)(pv a:Z->W)(i len:Z)(g:Z->MV)(K:MS->Prop):(((0:Z)<=0/\((0:Z)+AP (bh.rows (2:Z) len g))*32<=140737488355328)/\K { n:=nat_lit 37,tm:=[((33:Z),MV.bs (1:Z) (0:Z) ((0:Z)+AP (bh.rows (2:Z) len g))),((27:Z),bif AR (1:Z) (MV.bs (1:Z) (0:Z) (0:Z))then MV.any else MV.bs (1:Z) (0:Z) (0:Z)),((32:Z),bif AR (1:Z) (MV.sl (2:Z) len g)then MV.any else MV.sl (2:Z) len g),((3:Z),bif AR (1:Z) (MV.bs (0:Z) (0:Z) (C L))then MV.any else MV.bs (0:Z) (0:Z) (C L)),((4:Z),bif AR (1:Z) (MV.int CZ (↑i:Y))then MV.any else MV.int CZ (↑i:Y)),((25:Z),bif AR (1:Z) (MV.bs (0:Z) (0:Z) (C L))then MV.any else MV.bs (0:Z) (0:Z) (C L)),((26:Z),bif AR (1:Z) (MV.int CZ (↑i:Y))then MV.any else MV.int CZ (↑i:Y))],bx:=[bif AL (0:Z) (1:Z)then nO L pv a else nO L pv a,{ fz:=false,c:=BC.rows (2:Z) ((0:Z)+len) λq=>bif A4 q (0:Z)then MV.any else g (q-0) }],np:=nat_lit 1 })=cV (aK [] aC) (ed 6) (λ_=>D) (((ed 6).drop 8).take 1) ⟨37,(27,.bs 1 0 0)::(32,.sl 2 len g)::xf L.length i, [nO L pv a,⟨CT,.rows 2 0 (λ_=>.any)⟩],1⟩ K:=by kernel_rfl
def akk(L:V ab)(pv f:Z->W)(i:Z)(v:W)(K:MS->Prop)(b:_)(d:b=(E (↑i:Y)))(a:_)(e:a=(C0 L b aB)):(((0:Y)<=(↑i:Y)/\(↑i:Y)<(↑(C L):Y))/\E (↑i:Y)<C L/\K {n:=nat_lit 37,tm:=((35:Z),MV.br (0:Z) b ((0:Z)+4))::((34:Z),MV.br (0:Z) b (0:Z))::((33:Z),MV.val v)::xf (C L) i,bx:=[{fz:=false,c:=BC.rows (18:Z) (C L) λj=>bif AL j b then MV.st [MV.int CZ (ab.kind a),MV.st [MV.bool (ab.neg a),MV.ws (ab.ah a)],MV.val (pv b),MV.val v,MV.st [MV.aa (ab.ca a) (200:Z),MV.aa (ab.cb a) (200:Z),MV.aa (ab.cm a) (200:Z)],MV.st [MV.aa (ab.x a) (200:Z),MV.aa (ab.y a) (200:Z),MV.bool (ab.inf a)],MV.aa (ab.ord a) (200:Z)]else jX L pv f j}],np:=nat_lit 1})=cV (aK [] aC) (ed 6) (λ_=>D) (((ed 6).drop 8).drop 1) ⟨37,(33,.val v)::xf L.length i, [nO L pv f],1⟩ K:=by subst d e;kernel_rfl
def oL(f:Z->W)(i:Z)(v:W):Z->W:=λq=>T (q.beq i) v (f q)
def dp.KF{f e d:U}{c:V Deferred}(h:dp (ck.b1 f b z c) e)(k:dp (ck.b1 e b z c) d):dp (ck.b1 f b z c) d :=
 ⟨k.os.trans h.os,k.output.trans h.output,AN h.size k.size,λi g a=>(k.block i (AI g h.size) a).trans (h.block i g a),λx a=>(k.cz x (AI a h.size)).trans (h.cz x a),k.tape.trans h.tape,AN h.dr k.dr⟩
theorem qk{n:Z}{v:W}(g:c.β 0=b)(e:c.sz 0=z)(h:af c w (.bs 0 0 n) v):af (Ctx.b1 S b z) w (.bs 0 0 n) v:=by
 obtain⟨a,cap,rfl,f,h⟩:=iC h;refine aS rfl (by simp) rfl ⟨a,cap,rfl,f,h.imp (λ⟨i,h2,d⟩=>⟨?_,rfl,?_⟩) id⟩
 .rw[i,g];rfl
 .rw[e]at d;exact d
def gn.s5{w0:Z}{L:V ab}{pv e:Z->W}{v:W}(N:gn w0 S b z L pv e i m w)(_hi:i<L.length)(O:jq (Ctx.b1 S b z) w 1 (L.getD i aB).parts.length (bI (L.getD i aB).parts) v)(xj:∀q,eB v q->S q/\w0<=q)(h1:∀j q,j<i->eB (pv j) q->¬eB v q)(h2:∀j q,j<m->eB (e j) q->¬eB v q):gn w0 S b z L (oL pv i v) e (i+1) m w:=by
 have e1:oL pv i v i=v:=by unfold oL;simp
 have d:∀j,j≠i->oL pv i v j=pv j:=λj c=>by
  unfold oL;rw[show j.beq i=CT from BL.2 λh=>c (by simpa using h)];rfl
 refine⟨λj c=>?_,N.tt,λj h3 g=>by rw[d j (by omega)];exact N.H4 j (by omega) g,N.HZ,λj q c a=>?_,N.d?,λj k q c f a=>?_,N.dB,λj k q c f a=>?_,N.S0⟩
 .by_cases h:j=i
  .simp_all
  .rw[d j h];exact N.tu j (by omega)
 .by_cases h:j=i
  .simp_all
  .rw[d j h]at a;exact N.l7 j q (by omega) a
 .rw[d j (by omega)]at a;by_cases h:k=i
  .grind
  .rw[d k h];exact N.dP j k q c (by omega) a
 .by_cases h:j=i
  .grind
  .rw[d j h]at a;exact N.dX j k q (by omega) f a
def gn.afY{w0:Z}{L:V ab}{pv e:Z->W}{v:W}(N:gn w0 S b z L pv e m i w)(_hi:i<L.length)(O:jq (Ctx.b1 S b z) w 2 (L.getD i aB).base.length (iL (L.getD i aB).base 200) v)(xj:∀q,eB v q->S q/\w0<=q)(h1:∀j q,j<m->eB (pv j) q->¬eB v q)(h2:∀j q,j<i->eB (e j) q->¬eB v q):gn w0 S b z L pv (oL e i v) m (i+1) w:=by
 have e1:oL e i v i=v:=by unfold oL;simp
 have d:∀j,j≠i->oL e i v j=e j:=λj c=>by
  unfold oL;rw[show j.beq i=CT from BL.2 λh=>c (by simpa using h)];rfl
 refine⟨N.tu,λj c=>?_,N.H4,λj h3 g=>by rw[d j (by omega)];exact N.HZ j (by omega) g,N.l7,λj q c a=>?_,N.dP,λj k q c f a=>?_,λj k q c f a=>?_,N.S0⟩
 .by_cases h:j=i
  .simp_all
  .rw[d j h];exact N.tt j (by omega)
 .by_cases h:j=i
  .simp_all
  .rw[d j h]at a;exact N.d? j q (by omega) a
 .rw[d j (by omega)]at a;by_cases h:k=i
  .grind
  .rw[d k h];exact N.dB j k q c (by omega) a
 .by_cases h:k=i
  .grind
  .rw[d k h];exact N.dX j k q c (by omega) a
def al4{L:V ab}{pv b:Z->W}{v:W}:∀j,j<L.length->∀a,aj c w (T (j.beq i) (.st [.int .i64 (L.getD i aB).kind,.st [.bool (L.getD i aB).neg,.ws (L.getD i aB).ah],.val v,.val (b i),.st [.aa (L.getD i aB).ca 200,.aa (L.getD i aB).cb 200,.aa (L.getD i aB).cm 200],.st [.aa (L.getD i aB).x 200,.aa (L.getD i aB).y 200,.bool (L.getD i aB).inf],.aa (L.getD i aB).ord 200]) (jX L pv b j)) a->aj c w (jX L (oL pv i v) b j) a:=λj _ a h=>by
 unfold jX oL;cases d:j.beq i with
 |true =>
  simp_all
 |false =>
  rw[d,Z5]at h;exact h
set_option maxRecDepth 100000 in
def amy{w0:C1}{S1:C1->Prop}{b:C1}{m:C1->C3}{i:C1}{w:C4}{G:C2 Deferred}{Q:Exit->Act->C4->Prop}(U:ops.toList=ed 5)(N:gn w0 S1 b z L pv m i i w)(F:i<L.length)(LL:w0<=w.heap.size)(T:(0+(L.getD i aB).parts.length)*8<=140737488355328)(h:St S1 (ck.b1 w b z G) (kg L pv m i) (Ctx.b1 S1 b z) a w)(hQ:∀v S2 a' w',gn w0 S2 b z L (oL pv i v) m (i+1) i w'->St S2 (ck.b1 w' b z G) (kg L (oL pv i v) m i) (Ctx.b1 S2 b z) a' w'->dp (ck.b1 w b z G) w'->(∀q,S1 q->S2 q)->(∀q,S2 q->S1 q\/w.heap.size<=q)->Q .normal a' w'):wpList AA ops Q ops.toList a w:=by
 rw[show ops.toList=(ed 5).take 8++(ed 5).drop 8 by rw[A2,U]];refine jO _ a w ?_;refine cG (E:=aK [] aC) (Kp:=λ_=>C7) (K:=λs=>∀c' a' w',St S1 (ck.b1 w b z G) s c' a' w'->wpList _ ops Q ((ed 5).drop 8) a' w') (λ_ _ _ _ h=>h.elim) _ (kg L pv m i) _ a w ?_ h (λs' c' a' w' q n _=>q c' a' w' n);rw[U,<-akf];refine⟨by omega,by rw[Z8];exact F,λc1 X V p=>?_⟩;rw[Z8]at p;have hk:=p.mem.VW;have Z:=dS (show af c1 V (.val (pv i)) (X.tmps.getD 21 undef) from p.tm 21);have Y:=(N.H4 i (Z0 _) F).bu hk;have h2:=p.re ((16,.bs 1 0 0)::(21,.sl 1 (L.getD i aB).parts.length (bI (L.getD i aB).parts))::xe L.length i) [nO L pv m,⟨CT,.rows 1 0 λ_=>.any⟩]
  (p.mem.nq (i:=1) (bc:= .arr .i64 []) (bc':= .rows 1 0 λ_=>.any) rfl rfl (λarr _ _ i F=>C8 F (AE i)))
  (fa (p.tm 16) (fa (aS rfl (by simp) rfl (by rw[Z.1];exact Y)) (fa (p.tm 3) (fa (p.tm 4) (fa (p.tm 14) (fa (p.tm 15) f0))))))
 rw[show(ed 5).drop 8=((ed 5).drop 8).take 1++((ed 5).drop 8).drop 1 from (A2 1 _).symm];refine jO _ X V ?_;refine cG (E:=aK [] aC) (Kp:=λ_=>C7) (K:=λs=>∀c' a' w',St S1 (ck.b1 w b z G) s c' a' w'->wpList _ ops Q (((ed 5).drop 8).drop 1) a' w') (λ_ _ _ _ h=>h.elim) _ _ _ X V ?_ h2 (λs' c' a' w' q n _=>q c' a' w' n);rw[U];refine cast (akg L pv m i _ (bI (L.getD i aB).parts) _) ⟨⟨Z9 _,T⟩,λu A l f=>?_⟩;have g:=f.mem.bz 0 b z ⟨rfl,rfl,rfl⟩;generalize hv:A.tmps.getD 22 undef=v;have R:aj u l (.bs 1 0 (0+(L.getD i aB).parts.length)) [v]:=hv ▸ b8 (show af u l (.bs 1 0 (0+(L.getD i aB).parts.length)) (A.tmps.getD 22 undef) from f.tm 22) rfl (by simp) rfl;obtain⟨O,D⟩:=N? R (λH=>f.mem.box 1 _ H rfl);rw[AQ]at O R;have d:∀q,eB v q->w.heap.size<=q/\u.S q/\q≠b:=λq c=>by
  obtain⟨H,e⟩:=D q c;have J:q≠b:=λe2=>C8 (f.mem.inj 1 0 H g.1 (by rw[g.2.1,<-e,e2])) (by decide);refine⟨?_,f.mem.WS q ((f.mem.hW q).2 ⟨1,_,H,rfl,rfl,e.symm⟩),J⟩;rcases(f.mem.fresh 1 H).1 with k|k
  .rw[e];exact k
  .exact C8 (e.trans k) J
 have o:∀q,S1 q\/eB v q->u.S q/\q≠b:=λq c=>c.elim (λc=>⟨(f.mem.hS q).2 (.inl c),(N.S0 q c).2⟩) λc=>(d q c).2;have P:∀t,af u l (.bs 0 0 L.length) (A.tmps.getD t undef)->af (Ctx.b1 (λq=>S1 q\/eB v q) b z) l (.bs 0 0 L.length) (A.tmps.getD t undef):=λt W=>qk g.2.1 g.2.2 W;have M:∀t,af u l (.int .i64 i) (A.tmps.getD t undef)->af (Ctx.b1 (λq=>S1 q\/eB v q) b z) l (.int .i64 i) (A.tmps.getD t undef):=λt W=>by rw[cK W];exact cE _ _
 have Lg:v.oneCell'=CS:=by
  obtain⟨x,y,e,_⟩:=O;rw[e];rfl
 have h4:=f.one (F':=jX L pv m) rfl g.1 g.2.1 g.2.2 (λq=>S1 q\/eB v q) o (λ_ _ _ h=>h) ((22,.val v)::xe L.length i)
  (fa (aS rfl (by simp) rfl ⟨by rw[hv],Lg⟩) (fa (P 3 (f.tm 3)) (fa (M 4 (f.tm 4)) (fa (P 14 (f.tm 14)) (fa (M 15 (f.tm 15)) f0)))))
 have dj:∀q,S1 q\/eB v q->q<l.heap.size/\q≠b:=λq c=>⟨f.mem.fh q (o q c).1,(o q c).2⟩;have N1:=N.frame f.mem.ext (λq=>S1 q\/eB v q) (λq c=>.inl c) (λq c=>c.imp id λc=>(d q c).1) dj;have N2:gn w0 (λq=>S1 q\/eB v q) b z L (oL pv i v) m (i+1) i l:=N1.s5 F (O.bu (⟨λq _ c=>(show(S1 q\/eB v q)\/q=b from c).elim (λc=>(o q c).1) λc=>f.mem.WS q ((f.mem.hW q).2 ⟨0,_,g.1,rfl,rfl,by rw[g.2.1];exact c.symm⟩),λ_ _ h=>h,λ_ h=>h.elim,λ_ _ _=>rfl,λ_ _ _=>rfl⟩:bf u.elem (Ctx.b1 (λq=>S1 q\/eB v q) b z).elem l l) λ_ _=>rfl)
  (λq c=>⟨.inr c,AN LL (d q c).1⟩) (λj q I c B=>by have:=(N.S0 q (N.l7 j q I c).1).1;have:=(d q B).1;omega) (λj q I c B=>by have:=(N.S0 q (N.d? j q I c).1).1;have:=(d q B).1;omega)
 refine cG (E:=aK [] aC) (Kp:=λ_=>C7) (K:=λs=>∀c' a' w',St (λq=>S1 q\/eB v q) (ck.b1 l b z G) s c' a' w'->Q .normal a' w') (λ_ _ _ _ h=>h.elim) _ _ _ A l ?_ h4 (λs' c' a' w' q n _=>q c' a' w' n);rw[U];refine cast (akh L pv m i v _ _ rfl _ rfl) ⟨by omega,by rw[Z8];exact F,λc3 a3 w3 r=>?_⟩;rw[Z8]at r;have g:=r.mem.bz 0 b z ⟨rfl,rfl,rfl⟩;have C:∀q,S1 q\/eB v q->c3.S q/\q≠b:=λq c=>⟨(r.mem.hS q).2 (.inl c),(o q c).2⟩;have h6:=r.one (F':=jX L (oL pv i v) m) rfl g.1 g.2.1 g.2.2 (λq=>S1 q\/eB v q) C (λj I cs h=>al4 j I cs h) (tc L.length i)
  (fa (qk g.2.1 g.2.2 (r.tm 3)) (fa (by rw[cK (r.tm 4)];exact cE _ _) f0))
 exact hQ v _ a3 w3 (N2.frame r.mem.ext _ (λq c=>c) (λq c=>.inl c) λq c=>⟨r.mem.fh q (C q c).1,(C q c).2⟩) h6 (f.mem.ext.KF r.mem.ext) (λq c=>.inl c) (λq c=>c.imp id λc=>(d q c).1)
def al5{L:V ab}{pv b:Z->W}{v:W}:∀j,j<L.length->∀a,aj c w (T (j.beq i) (.st [.int .i64 (L.getD i aB).kind,.st [.bool (L.getD i aB).neg,.ws (L.getD i aB).ah],.val (pv i),.val v,.st [.aa (L.getD i aB).ca 200,.aa (L.getD i aB).cb 200,.aa (L.getD i aB).cm 200],.st [.aa (L.getD i aB).x 200,.aa (L.getD i aB).y 200,.bool (L.getD i aB).inf],.aa (L.getD i aB).ord 200]) (jX L pv b j)) a->aj c w (jX L pv (oL b i v) j) a:=λj _ a h=>by
 unfold jX oL;cases d:j.beq i with
 |true =>
  simp_all
 |false =>
  rw[d,Z5]at h;exact h
set_option maxRecDepth 100000 in
def amz{w0:C1}{S1:C1->Prop}{b:C1}{m:C1->C3}{i:C1}{w:C4}{G:C2 Deferred}{Q:Exit->Act->C4->Prop}(U:ops.toList=ed 6)(N:gn w0 S1 b z L pv m (i+1) i w)(F:i<L.length)(LL:w0<=w.heap.size)(T:(0+(L.getD i aB).base.length)*32<=140737488355328)(h:St S1 (ck.b1 w b z G) (kg L pv m i) (Ctx.b1 S1 b z) a w)(hQ:∀v S2 a' w',gn w0 S2 b z L pv (oL m i v) (i+1) (i+1) w'->St S2 (ck.b1 w' b z G) (kg L pv (oL m i v) i) (Ctx.b1 S2 b z) a' w'->dp (ck.b1 w b z G) w'->(∀q,S1 q->S2 q)->(∀q,S2 q->S1 q\/w.heap.size<=q)->Q .normal a' w'):wpList AA ops Q ops.toList a w:=by
 rw[show ops.toList=(ed 6).take 8++(ed 6).drop 8 by rw[A2,U]];refine jO _ a w ?_;refine cG (E:=aK [] aC) (Kp:=λ_=>C7) (K:=λs=>∀c' a' w',St S1 (ck.b1 w b z G) s c' a' w'->wpList _ ops Q ((ed 6).drop 8) a' w') (λ_ _ _ _ h=>h.elim) _ (kg L pv m i) _ a w ?_ h (λs' c' a' w' q n _=>q c' a' w' n);rw[U,<-aki];refine⟨by omega,by rw[Z8];exact F,λc1 X V p=>?_⟩;rw[Z8]at p;have hk:=p.mem.VW;have Z:=dS (show af c1 V (.val (m i)) (X.tmps.getD 32 undef) from p.tm 32);have Y:=(N.HZ i (Z0 _) F).bu hk;have h2:=p.re ((27,.bs 1 0 0)::(32,.sl 2 (L.getD i aB).base.length (iL (L.getD i aB).base 200))::xf L.length i) [nO L pv m,⟨CT,.rows 2 0 λ_=>.any⟩]
  (p.mem.nq (i:=1) (bc:= .rows 2 0 (aT [])) (bc':= .rows 2 0 λ_=>.any) rfl rfl (λarr _ _ i F=>C8 F (AE i)))
  (fa (p.tm 27) (fa (aS rfl (by simp) rfl (by rw[Z.1];exact Y)) (fa (p.tm 3) (fa (p.tm 4) (fa (p.tm 25) (fa (p.tm 26) f0))))))
 rw[show(ed 6).drop 8=((ed 6).drop 8).take 1++((ed 6).drop 8).drop 1 from (A2 1 _).symm];refine jO _ X V ?_;refine cG (E:=aK [] aC) (Kp:=λ_=>C7) (K:=λs=>∀c' a' w',St S1 (ck.b1 w b z G) s c' a' w'->wpList _ ops Q (((ed 6).drop 8).drop 1) a' w') (λ_ _ _ _ h=>h.elim) _ _ _ X V ?_ h2 (λs' c' a' w' q n _=>q c' a' w' n);rw[U];refine cast (akj L pv m i _ (iL (L.getD i aB).base 200) _) ⟨⟨Z9 _,T⟩,λu A l f=>?_⟩;have g:=f.mem.bz 0 b z ⟨rfl,rfl,rfl⟩;generalize hv:A.tmps.getD 33 undef=v;have R:aj u l (.bs 1 0 (0+(L.getD i aB).base.length)) [v]:=hv ▸ b8 (show af u l (.bs 1 0 (0+(L.getD i aB).base.length)) (A.tmps.getD 33 undef) from f.tm 33) rfl (by simp) rfl;obtain⟨O,D⟩:=N? R (λH=>f.mem.box 1 _ H rfl);rw[AQ]at O R;have d:∀q,eB v q->w.heap.size<=q/\u.S q/\q≠b:=λq c=>by
  obtain⟨H,e⟩:=D q c;have J:q≠b:=λe2=>C8 (f.mem.inj 1 0 H g.1 (by rw[g.2.1,<-e,e2])) (by decide);refine⟨?_,f.mem.WS q ((f.mem.hW q).2 ⟨1,_,H,rfl,rfl,e.symm⟩),J⟩;rcases(f.mem.fresh 1 H).1 with k|k
  .rw[e];exact k
  .exact C8 (e.trans k) J
 have o:∀q,S1 q\/eB v q->u.S q/\q≠b:=λq c=>c.elim (λc=>⟨(f.mem.hS q).2 (.inl c),(N.S0 q c).2⟩) λc=>(d q c).2;have P:∀t,af u l (.bs 0 0 L.length) (A.tmps.getD t undef)->af (Ctx.b1 (λq=>S1 q\/eB v q) b z) l (.bs 0 0 L.length) (A.tmps.getD t undef):=λt W=>qk g.2.1 g.2.2 W;have M:∀t,af u l (.int .i64 i) (A.tmps.getD t undef)->af (Ctx.b1 (λq=>S1 q\/eB v q) b z) l (.int .i64 i) (A.tmps.getD t undef):=λt W=>by rw[cK W];exact cE _ _
 have Lg:v.oneCell'=CS:=by
  obtain⟨x,y,e,_⟩:=O;rw[e];rfl
 have h4:=f.one (F':=jX L pv m) rfl g.1 g.2.1 g.2.2 (λq=>S1 q\/eB v q) o (λ_ _ _ h=>h) ((33,.val v)::xf L.length i)
  (fa (aS rfl (by simp) rfl ⟨by rw[hv],Lg⟩) (fa (P 3 (f.tm 3)) (fa (M 4 (f.tm 4)) (fa (P 25 (f.tm 25)) (fa (M 26 (f.tm 26)) f0)))))
 have dj:∀q,S1 q\/eB v q->q<l.heap.size/\q≠b:=λq c=>⟨f.mem.fh q (o q c).1,(o q c).2⟩;have N1:=N.frame f.mem.ext (λq=>S1 q\/eB v q) (λq c=>.inl c) (λq c=>c.imp id λc=>(d q c).1) dj;have N2:gn w0 (λq=>S1 q\/eB v q) b z L pv (oL m i v) (i+1) (i+1) l:=N1.afY F (O.bu (⟨λq _ c=>(show(S1 q\/eB v q)\/q=b from c).elim (λc=>(o q c).1) λc=>f.mem.WS q ((f.mem.hW q).2 ⟨0,_,g.1,rfl,rfl,by rw[g.2.1];exact c.symm⟩),λ_ _ h=>h,λ_ h=>h.elim,λ_ _ _=>rfl,λ_ _ _=>rfl⟩:bf u.elem (Ctx.b1 (λq=>S1 q\/eB v q) b z).elem l l) λ_ _=>rfl)
  (λq c=>⟨.inr c,AN LL (d q c).1⟩) (λj q I c B=>by have:=(N.S0 q (N.l7 j q I c).1).1;have:=(d q B).1;omega) (λj q I c B=>by have:=(N.S0 q (N.d? j q I c).1).1;have:=(d q B).1;omega)
 refine cG (E:=aK [] aC) (Kp:=λ_=>C7) (K:=λs=>∀c' a' w',St (λq=>S1 q\/eB v q) (ck.b1 l b z G) s c' a' w'->Q .normal a' w') (λ_ _ _ _ h=>h.elim) _ _ _ A l ?_ h4 (λs' c' a' w' q n _=>q c' a' w' n);rw[U];refine cast (akk L pv m i v _ _ rfl _ rfl) ⟨by omega,by rw[Z8];exact F,λc3 a3 w3 r=>?_⟩;rw[Z8]at r;have g:=r.mem.bz 0 b z ⟨rfl,rfl,rfl⟩;have C:∀q,S1 q\/eB v q->c3.S q/\q≠b:=λq c=>⟨(r.mem.hS q).2 (.inl c),(o q c).2⟩;have h6:=r.one (F':=jX L pv (oL m i v)) rfl g.1 g.2.1 g.2.2 (λq=>S1 q\/eB v q) C (λj I cs h=>al5 j I cs h) (tc L.length i)
  (fa (qk g.2.1 g.2.2 (r.tm 3)) (fa (by rw[cK (r.tm 4)];exact cE _ _) f0))
 exact hQ v _ a3 w3 (N2.frame r.mem.ext _ (λq c=>c) (λq c=>.inl c) λq c=>⟨r.mem.fh q (C q c).1,(C q c).2⟩) h6 (f.mem.ext.KF r.mem.ext) (λq c=>.inl c) (λq c=>c.imp id λc=>(d q c).1)
noncomputable def nf:Code:=qX BU
def aaZ:Code->Code
 |.loop c=>c
 |c=>c
def ady:Code->Code
 |.block _ c=>c
 |c=>c
noncomputable def Hw:Code:=aaZ (ady (aW (cN (aW (aW nf)))))
def aj9(n:Z)(f:Z->MV)(K:Ex->MS->Prop):K .normal ⟨37, [(2,.val (.slice CU 0 0)),(0,.sl 18 n f)], [],0⟩=aY (aK [] aC) (λ_=>D) (cN nf) ⟨37,dR 0 [.sl 18 n f], [],0⟩ K:=by kernel_rfl
def aka(n:Z)(f:Z->MV)(K:Ex->MS->Prop):(((0:Z)<=0/\((0:Z)+AP (bh.rows (18:Z) n f))*288<=140737488355328)/\K Ex.normal { n:=nat_lit 37,tm:=[((3:Z),MV.bs (0:Z) (0:Z) ((0:Z)+AP (bh.rows (18:Z) n f))),((7:Z),MV.bs (0:Z) (0:Z) ((0:Z)+AP (bh.rows (18:Z) n f))),((6:Z),bif AR (0:Z) (MV.sl (18:Z) n f)then MV.any else MV.sl (18:Z) n f),((5:Z),bif AR (0:Z) (MV.bs (0:Z) (0:Z) (0:Z))then MV.any else MV.bs (0:Z) (0:Z) (0:Z)),((2:Z),bif AR (0:Z) (MV.val (Value.slice CU (0:Z) (0:Z)))then MV.any else MV.val (Value.slice CU (0:Z) (0:Z))),((0:Z),bif AR (0:Z) (MV.sl (18:Z) n f)then MV.any else MV.sl (18:Z) n f)],bx:=[{ fz:=false,c:=BC.rows (18:Z) ((0:Z)+n) λq=>bif A4 q (0:Z)then aT [] q else f (q-0) }],np:=nat_lit 0 })=aY (aK [] aC) (λ_=>D) (cN (aW nf)) ⟨37, [(2,.val (.slice CU 0 0)),(0,.sl 18 n f)], [],0⟩ K:=by kernel_rfl
def akb(n:Z)(f:Z->MV)(K:Ex->MS->Prop):K .normal ⟨37, [(4,.int .i64 0),(3,.bs 0 0 n)], [⟨CT,.rows 18 n f⟩],0⟩=aY (aK [] aC) (λ_=>D) (cN (cN (aW (aW nf)))) ⟨37, [(3,.bs 0 0 n)], [⟨CT,.rows 18 n f⟩],0⟩ K:=by kernel_rfl
def akc(L:V ab)(pv a:Z->W)(i:Z)(K:Ex->MS->Prop):(bif I ((↑i:Y)<(↑(C L):Y))then K Ex.normal { n:=nat_lit 37,tm:=[((11:Z),MV.bool CS),((11:Z),MV.bool (I ((↑i:Y)<(↑(C L):Y)))),((10:Z),MV.int CZ (↑(C L):Y)),((9:Z),MV.bs (0:Z) (0:Z) (C L)),((8:Z),MV.int CZ (↑i:Y)),((3:Z),MV.bs (0:Z) (0:Z) (C L)),((4:Z),MV.int CZ (↑i:Y))],bx:=[nO L pv a],np:=nat_lit 1 } else K (Ex.exit (0:Z)) { n:=nat_lit 37,tm:=[((11:Z),MV.bool CT),((11:Z),MV.bool (I ((↑i:Y)<(↑(C L):Y)))),((10:Z),MV.int CZ (↑(C L):Y)),((9:Z),MV.bs (0:Z) (0:Z) (C L)),((8:Z),MV.int CZ (↑i:Y)),((3:Z),MV.bs (0:Z) (0:Z) (C L)),((4:Z),MV.int CZ (↑i:Y))],bx:=[nO L pv a],np:=nat_lit 1 })=aY (aK [] aC) (λ_=>D) (cN Hw) (kg L pv a i) K:=by kernel_rfl
def akd(L:V ab)(pv a:Z->W)(i:Z)(K:Ex->MS->Prop):K .normal ⟨37, [(4,.int .i64 (i64.wrap (i+1))),(13,.int .i64 (i64.wrap (i+1))),(12,.int .i64 i),(3,.bs 0 0 L.length),(4,.int .i64 i)], [nO L pv a],1⟩=aY (aK [] aC) (λ_=>D) (aW (aW Hw)) (kg L pv a i) K:=by kernel_rfl
def ake(L:V ab)(pv a:Z->W)(i:Z)(K:Ex->MS->Prop):K .ret ⟨37, [(2,.bs 0 0 L.length),(36,.bs 0 0 L.length),(3,.bs 0 0 L.length),(4,.int .i64 i)], [nO L pv a],1⟩=aY (aK [] aC) (λ_=>D) (aW (aW (aW nf))) (kg L pv a i) K:=by kernel_rfl
def ao5(S:Z->Prop)(B:ck)(Q:Exit->Act->U->Prop)(e:Ex)(s:MS):Prop:=∀c a w,St S B s c a w->Q e.out a w
def rZ{E:Env AA}{x:Code}{s:MS}(h:aY E (λ_=>D) x s (ao5 S B Q))(b:St S B s c a w):x.wp AA Q a w :=
 bJ bQ x s _ c a w Q h b (λ_ _ c' a' w' q h=>q c' a' w' h) (λ_ _ _ _ h=>h.elim)
structure ri (S:Nat->Prop) (w0:World) (b:Nat) (z:Sz) (L:List ab) (pv bv:Nat->Value) (m i:Nat) (S1:Nat->Prop) (a:Act) (w:World):Prop where
 nest:gn w0.heap.size S1 b z L pv bv m m w
 st:St S1 (ck.b1 w b z []) (kg L pv bv i) (Ctx.b1 S1 b z) a w
 ext:Ext w0 w
 hb:w0.heap.size<=b
 sub:∀q,S q->S1 q
 sup:∀q,S1 q->S q\/w0.heap.size<=q
def Ext.b1{w0:U}{d:V Deferred}(h:Ext w0 w)(hb:w0.heap.size<=b)(k:dp (ck.b1 w b z d) w'):Ext w0 w' :=
 ⟨k.os.trans h.os,k.output.trans h.output,AN h.size k.size,λi c=>(k.block i (AI c h.size) λe=>by have e:i=b:=e;omega).trans (h.block i c),λx a=>(k.cz x (AI a h.size)).trans (h.cz x a),k.tape.trans h.tape,AN h.dr k.dr⟩
def ri.next{w0:U}{L:V ab}{pv f:Z->W}{i':Z}{a':Act}{tm:V (Z×MV)}(I:ri S w0 b z L pv f m i S1 a w)(h:St S1 (ck.b1 w b z []) ⟨37,tm, [nO L pv f],1⟩ c a' w')(n:bE 3 tm= .bs 0 0 L.length)(l:bE 4 tm= .int .i64 i'):ri S w0 b z L pv f m i' S1 a' w':=by
 have e:=h.mem.bz 0 b z ⟨rfl,rfl,rfl⟩;have g:∀q,S1 q->c.S q/\q≠b:=λq d=>⟨(h.mem.hS q).2 (.inl d),(I.nest.S0 q d).2⟩;have k:af c w' (.bs 0 0 L.length) (a'.tmps.getD 3 undef):=n ▸ h.tm 3;have j:af c w' (.int .i64 i') (a'.tmps.getD 4 undef):=l ▸ h.tm 4;exact⟨I.nest.frame h.mem.ext S1 (λq d=>d) (λq d=>.inl d) λq d=>⟨h.mem.fh q (g q d).1,(g q d).2⟩,
  h.one (F':=jX L pv f) rfl e.1 e.2.1 e.2.2 S1 g (λ_ _ _ h=>h) (tc L.length i') (fa (qk e.2.1 e.2.2 k) (fa (by rw[cK j];exact cE _ _) f0)),I.ext.b1 I.hb h.mem.ext,I.hb,I.sub,I.sup⟩
structure Wb (S:Nat->Prop) (w:World) (L:List ab) (e:Ending) (w':World) (b cap:Nat) (S1:Nat->Prop) (pv bv:Nat->Value):Prop where
 res:e= .returned (.slice (some ⟨b,0,none⟩) L.length cap)
 jy:L.length<=cap
 ext:Ext w w'
 hb:w.heap.size<=b
 nest:gn w.heap.size S1 b ⟨cap*18,18⟩ L pv bv L.length L.length w'
 sub:∀q,S q->S1 q
 sup:∀q,S1 q->S q\/w.heap.size<=q
 box:dn (Ctx.b1 S1 b ⟨cap*18,18⟩) w' 0 (nO L pv bv)
def Z!{L:V ab}{j:Z}{f:V W}(h:aj c w (aF L 200 j) f):∃p b,aj c w (jX L (λ_=>p) (λ_=>b) j) f/\aj c w (.sl 1 (L.getD j aB).parts.length (bI (L.getD j aB).parts)) [p]/\aj c w (.sl 2 (L.getD j aB).base.length (iL (L.getD j aB).base 200)) [b]:=by
 obtain⟨l,y1,rfl,r,k,y2,rfl,q,i,y3,rfl,e,g,y4,rfl,d,o⟩:=h;have t:∃v,i=[v]/\v.oneCell'=CS:=by
  obtain⟨a,cap,rfl,_⟩:=e;exact⟨_,rfl,rfl⟩
 have s:∃v,g=[v]/\v.oneCell'=CS:=by
  obtain⟨a,cap,rfl,_⟩:=d;exact⟨_,rfl,rfl⟩
 obtain⟨p,rfl,m⟩:=t;obtain⟨b,rfl,n⟩:=s;exact⟨p,b,⟨l,_,rfl,r,k,_,rfl,q, [p],_,rfl,⟨rfl,m⟩, [b],_,rfl,⟨rfl,n⟩,o⟩,e,d⟩
def aaa{L:V ab}{arr:N W}(h:gI c w (.rows 18 L.length (aF L 200)) arr):∃pv g:Z->W,gI c w (.rows 18 L.length (jX L pv g)) arr/\
  ∀j,j<L.length->aj c.elem w (.sl 1 (L.getD j aB).parts.length (bI (L.getD j aB).parts)) [pv j]/\aj c.elem w (.sl 2 (L.getD j aB).base.length (iL (L.getD j aB).base 200)) [g j]:=by
 have H:∀j:Z,∃y:W×W,j<L.length->(∃d,d.length=18/\aj c.elem w (jX L (λ_=>y.1) (λ_=>y.2) j) d/\∀(k:Z) v,d[k]? =CW v->arr[j*18+k]? =CW v)/\
   aj c.elem w (.sl 1 (L.getD j aB).parts.length (bI (L.getD j aB).parts)) [y.1]/\aj c.elem w (.sl 2 (L.getD j aB).base.length (iL (L.getD j aB).base 200)) [y.2]:=λj=>by
  by_cases a:j<L.length
  .obtain⟨d,o,n,m⟩:=h j a;obtain⟨p,b,l,s2,i⟩:=Z! n;exact⟨(p,b),λ_=>⟨⟨d,o,l,m⟩,s2,i⟩⟩
  .exact⟨(.nilFunc,.nilFunc),λh=>M h a⟩
 obtain⟨f,e⟩:=Classical.axiomOfChoice H;exact⟨λj=>(f j).1,λj=>(f j).2,λj a=>(e j a).1,λj a=>(e j a).2⟩
def ahH(a:Act)(w:U):(results BU a.tmps).run AA w= .ok (a.tmps.getD 2 undef) w:=by
 simp[results,Tryz.results29]
set_option maxRecDepth 100000 in
def Za{S:C1->Prop}{w:C4}{args:C5 C3}(V:ee L)(h0:0<L.length)(hS:∀b,S b->b<w.heap.size)(hG:GW S w)(ha:cr (BB S) w [.sl 18 L.length (aF L 200)] args.toList) :
  Calls AA 29 args w λe w'=>∃b cap S1 pv f,Wb S w L e w' b cap S1 pv f:=by
 have u:=St.start (n:=37) hS hG ha (by simp);have hlen:=V.len;refine calls_of_wp CH rfl ?_;refine wp_seq (rZ (x:=cN nf) (cast (aj9 _ _ _) λc1 a1 w1 X=>?_) u);refine wp_seq (rZ (x:=cN (aW nf)) (cast (aka _ _ _) ⟨⟨Z9 _,by show(0+L.length)*288<=_;omega⟩,λc2 a2 w2 A=>?_⟩) X);refine wp_seq (wp_seq (rZ (x:=cN (cN (aW (aW nf)))) (cast (akb L.length (aF L 200) _) λa J r d=>?_) (A.re [(3,.bs 0 0 L.length)] [⟨CT,.rows 18 L.length (aF L 200)⟩] (A.mem.nq (i:=0) (bc':= .rows 18 L.length (aF L 200)) rfl rfl λarr _ h i hi=>h i (by omega)) (fa (by have:=A.tm 3;rw[show bE 3 _=MV.bs 0 0 (0+L.length) from rfl,AQ]at this;exact this) f0))));have Q:af a r (.bs 0 0 L.length) (J.tmps.getD 3 undef):=d.tm 3;obtain⟨a0,cap,e3,jy,hd⟩:=iC Q;obtain⟨s,hn⟩:a.live 0/\0+cap*(a.sz 0).wd=(a.sz 0).n:=hd.elim (λh=>h.2) λh=>C8 h.2.1 (by omega);obtain⟨arr,ty,q1,q2,C,q4⟩:=d.mem.box 0 _ s rfl;obtain⟨pv,f,R,E⟩:=aaa q4;have T:a.sz 0=⟨cap*18,18⟩:=by
  have C:(a.sz 0).wd=18:=C;rw[C]at hn;generalize a.sz 0=z at *;obtain⟨n,wd⟩:=z
  simp_all
 have N:a.S (a.β 0):=d.mem.WS _ ((d.mem.hW _).2 ⟨0,_,s,rfl,rfl,rfl⟩);have l:∀q,S q->a.S q/\q≠a.β 0:=λq c=>⟨(d.mem.hS q).2 (.inl c),λe=>d.mem.l! s (e ▸ c)⟩;have D:bf a.elem (Ctx.b1 S (a.β 0) ⟨cap*18,18⟩).elem r r:=⟨λq _ c=>(show S q\/q=a.β 0 from c).elim (λc=>(l q c).1) λe=>by rw[e];exact N,λ_ _ h=>h,λ_ h=>h.elim,λ_ _ _=>rfl,λ_ _ _=>rfl⟩;have W:=d.VX (F':=jX L pv f) rfl s rfl T S l (λ_ ec ko e _ j t=>by
  rw[q1]at e;simp only[Z1,Obj.cells.injEq]at e;obtain⟨cs,r1,r2,r3⟩:=R j t
  grind [BA,tc,qk,cK,af,cE]) (tc L.length 0) (fa (qk rfl T Q) (fa (by rw[cK (show af a r (.int .i64 0) (J.tmps.getD 4 undef) from d.tm 4)];exact cE _ _) f0))
 have hb:w.heap.size<=a.β 0:=(d.mem.fresh 0 s).1.elim id λh=>h.elim;have I0:ri S w (a.β 0) ⟨cap*18,18⟩ L pv f 0 0 S J r:=⟨⟨λj h=>C8 h (AE j),λj h=>C8 h (AE j),λj _ t=>Jb (BA D _ _ (E j t).1),λj _ t=>Jb (BA D _ _ (E j t).2),λj _ h=>C8 h (AE j),λj _ h=>C8 h (AE j),
  λj k q _ h=>C8 h (AE k),λj k q _ h=>C8 h (AE k),λj k q h=>C8 h (AE j),λq c=>⟨d.mem.fh q (l q c).1,(l q c).2⟩⟩,W,d.mem.ext.plain,hb,λq c=>c,λq c=>.inl c⟩
 generalize a.β 0=b at *;clear W R E D X A d;refine wp_block (wp_loop_ghost (λm a' w'=>∃i S1 pv f,m=L.length-i/\i<=L.length/\ri S w b ⟨cap*18,18⟩ L pv f i i S1 a' w') L.length ⟨0,S,pv,f,rfl,Z9 _,I0⟩ ?_)
 rintro m a4 w4 ⟨i,S1,pv,f,rfl,hi,I⟩
 refine wp_seq (rZ (x:=cN Hw) (cast (akc _ _ _ _ _) (aJ Z4 (λdj=>λc5 a5 P G=>?_) (λdz=>λc5 a5 P G=>?_))) I.st)
 .have I5:=I.next G rfl rfl;have g:i<L.length:=by omega
  have VV:=V.at i g;refine wp_seq (wp_block (wp_seq (wp_region_list ?_)));refine amy (by kernel_rfl) I5.nest g I5.ext.size (by have:=VV.parts;omega) I5.st (λv S2 H y N6 p B s1 s2=>?_);refine wp_region_list ?_;refine amz (by kernel_rfl) N6 g (AN I5.ext.size B.size) (by have:=VV.base;omega) p (λv2 S3 a7 Y N7 h7 e7 apJ s4=>?_);have O:=B.KF e7;have I7:ri S w b ⟨cap*18,18⟩ L (oL pv i v) (oL f i v2) (i+1) i S3 a7 Y:=⟨N7,h7,I5.ext.b1 I5.hb O,I5.hb,λq c=>apJ q (s1 q (I5.sub q c)),λq c=>by
   have:=I5.ext.size;have:=B.size;rcases s4 q c with h|h
   .rcases s2 q h with h|h
    .exact I5.sup q h
    omega
   .have F:P.heap.size<=y.heap.size:=B.size;omega⟩
  refine rZ (x:=aW (aW Hw)) (cast (akd _ _ _ _ _) λc8 a8 w8 F=>?_) I7.st;have e4:wrap CZ ((i:C9)+1)=((i+1:C1):C9):=by rw[aU (by omega) (by omega)];omega
  rw[e4]at F;exact⟨L.length-(i+1),by omega,i+1,S3,_,_,rfl,g,I7.next F rfl rfl⟩
 .have I5:=I.next G rfl rfl;have K:i=L.length:=by omega
  subst K;refine rZ (x:=aW (aW (aW nf))) (cast (ake _ _ _ _ _) λc6 H y p=>?_) I5.st;have Z:af c6 y (.bs 0 0 L.length) (H.tmps.getD 2 undef):=p.tm 2;have U:=p.mem.bz 0 b _ ⟨rfl,rfl,rfl⟩;have I6:=I5.next p rfl rfl;obtain⟨a1,K7,e1,M,te⟩:=iC Z;rcases te with ⟨te,_,o⟩|te
  .rw[U.2.1]at te;rw[U.2.2]at o;have o:0+K7*18=cap*18:=o;obtain rfl:K7=cap:=by omega
   exact⟨p.defers,_,ahH H y,b,K7,S1,pv,f,by rw[e1,te],M,I6.ext,I6.hb,I6.nest,I6.sub,I6.sup,I6.st.mem.box 0 _ rfl rfl⟩
  omega
def rL(a b:V Y):Y:=if a.length<b.length then-1 else if b.length<a.length then 1 else aX (wv a) (wv b)
def zS:aG
 |[.ws a,.ws b]=>CW (CW (Wd a/\Wd b/\a.length<=1099511627776/\b.length<=1099511627776),.ret (.int .i64 (rL a b)))
 |_=>CU
def ZE(a b:V Y):(bif (C a:Y) != (C b:Y)then bif I ((C a:Y)<(C b:Y))then (-1)=rL a b else 1=rL a b else (∃i,(i<=C a/\DA i a=DA i b)/\(a=a/\b=b/\O CZ ((C a:Y)-1)=(i:Y)-1/\R)/\R)/\∀(i:Z),i<=C a/\DA i a=DA i b->bif I ((i:Y)-1≥0)then (0<=(i:Y)-1/\(i:Y)-1<(C a:Y))/\(0<=(i:Y)-1/\(i:Y)-1<(C b:Y))/\bif I (C0 a (E ((i:Y)-1)) 0<C0 b (E ((i:Y)-1)) 0)then (-1)=rL a b else (0<=(i:Y)-1/\(i:Y)-1<(C a:Y))/\(0<=(i:Y)-1/\(i:Y)-1<(C b:Y))/\bif I (C0 a (E ((i:Y)-1)) 0>C0 b (E ((i:Y)-1)) 0)then 1=rL a b else ∃j,(j<=C a/\DA j a=DA j b)/\((a=a/\b=b/\O CZ ((i:Y)-1-1)=(j:Y)-1/\R)/\R)/\id j<id i else 0=rL a b)=aI (aK [] (Al a b)) CP [.ws a,.ws b] (AS (.ret (.int .i64 (rL a b)))):=by kernel_rfl
def abv:bC CP zS:=by
 intro ms p r h e;unfold zS at h;split at h
 .rename_i a b;cases h;obtain⟨j,g,la,lb⟩:=e;refine⟨aK [] (Al a b),?_⟩;rw[<-ZE a b];unfold rL;cases hc:((a.length:Y) != (b.length:Y))with
  |true =>
   grind
  |false =>
   rw[Z5];have c:a.length=b.length:=by
    grind
   rw[F (by omega),F (by omega)];refine⟨⟨a.length,⟨Z0 _,by rw[B6,c,B6]⟩,⟨rfl,rfl,aU (by omega) (by omega),⟨⟩⟩,⟨⟩⟩,λi ⟨hi,f⟩=>?_⟩;simp only[B7];split
   .rename_i h0;have k:((i:Y)-1).toNat=i-1:=by omega
    rw[k];have d:a.drop (i-1+1)=b.drop (i-1+1):=by rw[show i-1+1=i by omega];exact f
    refine⟨by omega,by omega,?_⟩;split
    .grind [sV,oW]
    .refine⟨by omega,by omega,?_⟩;split
     .rename_i h;exact(sU (oW g j (by omega) (by omega) d.symm h)).symm
     grind [oO,aU]
   .have:i=0:=by omega
    grind [rM]
 .simp at h
def OU:ai AA:=⟨41,zS,λargs w=>Tryz.call41 args w,aO bQ Tryz.func41 zS abv⟩
def PJ:∀(k:Z) (x c:Y),bS k (x+4294967296^k*c)=bS k x
 |0,_,_=>rfl
 |k+1,x,c=>by
  simp only[bS];have e:(4294967296:Y)^(k+1)*c=4294967296*(4294967296^k*c):=by rw[Int.pow_succ];grind
  rw[e,show(x+4294967296*(4294967296^k*c))%4294967296=x%4294967296 by omega,show(x+4294967296*(4294967296^k*c))/4294967296=x/4294967296+4294967296^k*c by omega,PJ k]
def xH:aG
 |[.ws a,.ws b]=>CW (CW (Wd a/\Wd b/\a.length<=1000000000/\b.length<=a.length),.ret (.ws (bS a.length (wv a-wv b))))
 |_=>CU
def ZQ:bC Tryz.f42 xH:=by
 intro ms p r h k;unfold xH at h;split at h
 .rename_i a b;cases h;obtain⟨j,g,la,lb⟩:=k;refine⟨aK [fH] (IZ a b),?_⟩;rw[<-OK a b _ rfl];refine⟨⟨⟨0, [],0⟩,⟨Z9 _,rfl,Wd.nil,⟨Int.le_refl _,by show(0:Y)<=1;omega⟩,by simp[wv]⟩,(by and_intros<;>first|exact⟨⟩|rfl|omega)⟩,?_⟩
  rintro⟨i,out,c⟩ d
  have hc:0<=c/\c<=1:=d.c0;have m:out.length=i:=d.len;have hi:i<=a.length:=d.hi;have h1:=j.getD i;have h2:=g.getD i;have w:u64.wrap (4294967296+a.getD i 0)=4294967296+a.getD i 0:=gQ (by omega);have v:u64.wrap (4294967296+a.getD i 0-b.getD i 0)=4294967296+a.getD i 0-b.getD i 0:=gQ (by omega);have u:u64.wrap (4294967296+a.getD i 0-b.getD i 0-c)=4294967296+a.getD i 0-b.getD i 0-c:=gQ (by omega);have t:i64.wrap ((i:Y)+1)=((i+1:Z):Y):=by rw[aU (by omega) (by omega)];omega
  have s:fdiv (4294967296+a.getD i 0-b.getD i 0-c) 4294967296=(4294967296+a.getD i 0-b.getD i 0-c)/4294967296:=Int.fdiv_eq_ediv_of_nonneg _ (by omega);have q:take i out=out:=AB (by omega);have o:u64.wrap (1-(4294967296+a.getD i 0-b.getD i 0-c)/4294967296)=1-(4294967296+a.getD i 0-b.getD i 0-c)/4294967296:=gQ (by omega);simp only[lO,w,v,u,t,Uk,Fy,gy,s,q,o,lR (4294967296+a.getD i 0-b.getD i 0-c),B7,List.drop_zero];split
  .rename_i e;have e:i<a.length:=by omega
   exact⟨j,g,⟨by simp,by omega,by omega⟩,by omega,_,d.step j g e rfl,(by and_intros<;>first|exact⟨⟩|rfl|omega),by show a.length-(i+1)<a.length-i;omega⟩
  .rename_i dz;have n:i=a.length:=by omega
   have f:wv out-4294967296^i*c=wv (a.take i)-wv (b.take i):=d.sum;rw[cI,cI]at f;have:=n9 (l:=out) d.wd;rw[show wv out=(wv a-wv b)+4294967296^i*c by omega,m,PJ,n]at this
   simp_all
 .simp at h
def Om:ai AA:=⟨42,xH,λargs w=>Tryz.call42 args w,aO bQ Tryz.func42 xH ZQ⟩
def i9(g:J)(l:V Y)(y:Y):Y :=
 T (g==I (y<0)) (sg g (wv (bS (max l.length (aA y.natAbs).length+1) (wv l+wv (aA y.natAbs)))))
  (T (I (rL l (aA y.natAbs)≥0)) (sg g (wv (bS l.length (wv l-wv (aA y.natAbs))))) (sg (I (y<0)) (wv (bS (aA y.natAbs).length (wv (aA y.natAbs)-wv l)))))
def acP(g:J)(l:V Y)(y z:Y)(m w:Z)(a:_)(i:a=(aA (X y)))(d:_)(h:d=(bS (max (C l) (C a)+1) (wv l+wv a)))(c:_)(f:c=(bS (C a) (wv a-wv l)))(b:_)(e:b=(bS (C l) (wv l-wv a))):(bif g==I (y<0)then ((∀(x:Y),x∈l->0<=x/\x<4294967296)/\(∀(x:Y),x∈aA (X y)->0<=x/\x<4294967296)/\C l<=1000000000/\C a <=1000000000)/\((∀(x:Y),x∈bS (max (C l) (C a)+1) (wv l+wv a)->0<=x/\x<4294967296)/\C d <=1000000000)/\sg g (wv d)=z/\(32*C d <=w\/X (sg g (wv d))<2^w)else ((∀(x:Y),x∈l->0<=x/\x<4294967296)/\(∀(x:Y),x∈aA (X y)->0<=x/\x<4294967296)/\C l<=1099511627776/\C a <=1099511627776)/\bif I (rL l a ≥0)then ((∀(x:Y),x∈l->0<=x/\x<4294967296)/\(∀(x:Y),x∈aA (X y)->0<=x/\x<4294967296)/\C l<=1000000000/\C a <=C l)/\((∀(x:Y),x∈bS (C l) (wv l-wv a)->0<=x/\x<4294967296)/\C b <=1000000000)/\sg g (wv b)=z/\(32*C b <=w\/X (sg g (wv b))<2^w)else ((∀(x:Y),x∈aA (X y)->0<=x/\x<4294967296)/\(∀(x:Y),x∈l->0<=x/\x<4294967296)/\C a <=1000000000/\C l<=C a)/\((∀(x:Y),x∈bS (C a) (wv a-wv l)->0<=x/\x<4294967296)/\C c <=1000000000)/\sg (I (y<0)) (wv c)=z/\(32*C c <=w\/X (sg (I (y<0)) (wv c))<2^w))=aI (aK [gJ,Ah,Om,OU] aC) CQ [.st [.bool g,.ws l],.aa y m] (AS (.ret (.aa z w))):=by subst i h f e;kernel_rfl
def Ar:aG
 |[.st [.bool g,.ws l],.aa y m]=>CW (CW (Wd l/\l.length<=100/\m<=64),.ret (.aa (i9 g l y) (32*(l.length+3))))
 |_=>CU
def afk:dM CQ Ar:=by
 intro ms p r h e i;unfold Ar at h;split at h
 .rename_i g l y m;cases h;obtain⟨c,hn,f⟩:=e;have d:y.natAbs<2^m:=i.2.1;refine⟨aK [gJ,Ah,Om,OU] aC,?_⟩;rw[<-acP g l y (i9 g l y) m (32*(l.length+3)) _ rfl _ rfl _ rfl _ rfl];have hb:(aA y.natAbs).length<=2:=cJ (AI d (AN (BE (by omega) f) (show 2^64<=4294967296^2 by decide)));have b:=aN y.natAbs;simp only[iE];unfold i9;cases (g==I (y<0))with
  |true=>exact⟨⟨c,b,by omega,by omega⟩,⟨gY _ _,by omega⟩,rfl,.inl (by omega)⟩
  |false =>
   rw[Z5,Z5];refine⟨⟨c,b,by omega,by omega⟩,?_⟩;by_cases a:rL l (aA y.natAbs)≥0
   .rw[Y0 a,Z6,Z6];have:(aA y.natAbs).length<=l.length:=by unfold rL at a;split at a<;>omega
    exact⟨⟨c,b,by omega,this⟩,⟨gY _ _,by omega⟩,rfl,.inl (by omega)⟩
   .rw[Y1 a,Z5,Z5];have:l.length<=(aA y.natAbs).length:=by unfold rL at a;split at a<;>(try split at a)<;>omega
    exact⟨⟨b,c,by omega,this⟩,⟨gY _ _,by omega⟩,rfl,.inl (by omega)⟩
 .simp at h
def Rt:ai AA:=⟨15,Ar,λargs w=>Tryz.call15 args w,aM bQ Tryz.func15 Ar afk⟩
def zk:aG
 |[.aa a n,.int .i64 y]=>CW (CW (n<=1000/\-9223372036854775808<=y/\y<=9223372036854775807),.ret (.aa (a+y) (max n 64+1)))
 |_=>CU
def Zo(a y:Y)(n:Z):(fY y/\(n<=1000000/\64<=1000000)/\a+y=a+y/\(max n 64+1<=max n 64+1\/X (a+y)<2^(max n 64+1)))=aI (aK [cB,fS] aC) B0 [.aa a n,.int .i64 y] (AS (.ret (.aa (a+y) (max n 64+1)))):=by kernel_rfl
def abM:dM B0 zk:=by
 intro ms p r h b hf;unfold zk at h;split at h
 .rename_i a n y;cases h;obtain⟨h1,h2,h3⟩:=b;refine⟨aK [cB,fS] aC,?_⟩;rw[<-Zo a y n];first|done|(and_intros<;>first|exact⟨⟩|rfl|exact .inl (Z0 _)|omega)
 .simp at h
def aam:ai AA:=⟨35,zk,λargs w=>CJ args w,aM bQ CG zk abM⟩
def zl:aG
 |[.st [.bool g,.ws l],.int .i64 y]=>CW (CW (Wd l/\l.length<=100/\-9223372036854775808<=y/\y<=9223372036854775807),.ret (.aa (i9 g l y) (32*(l.length+3))))
 |_=>CU
def Zp(g:J)(l:V Y)(y:Y):(fY y/\((∀(x:Y),x∈l->0<=x/\x<4294967296)/\C l<=100/\64<=64)/\i9 g l y=i9 g l y/\(32*(C l+3)<=32*(C l+3)\/X (i9 g l y)<2^(32*(C l+3))))=aI (aK [cB,Rt] aC) B0 [.st [.bool g,.ws l],.int .i64 y] (AS (.ret (.aa (i9 g l y) (32*(l.length+3))))):=by kernel_rfl
def abN:dM B0 zl:=by
 intro ms p r h a hf;unfold zl at h;split at h
 .rename_i g l y;cases h;obtain⟨b,h2,h3,h4⟩:=a;refine⟨aK [cB,Rt] aC,?_⟩;rw[<-Zp g l y];first|done|(and_intros<;>first|exact⟨⟩|rfl|exact .inl (Z0 _)|omega|exact b)
 .simp at h
def aan:ai AA:=⟨35,zl,λargs w=>CJ args w,aM bQ CG zl abN⟩
def ai.or{P:CY}(a b:ai P)(h:b.f=a.f):ai P where
 f:=a.f
 spec:=λc=>match a.spec c with
  |some x=>CW x
  |none=>b.spec c
 call:=a.call
 ok:=by
  intro S w c args p r d;cases e:a.spec c with
  |some x =>
   rw[e]at d;exact a.ok S w c args p r (by rw[e];exact d)
  |none =>
   rw[e]at d;rw[<-h];exact b.ok S w c args p r d
def adE:ai AA:=aam.or aan rfl
noncomputable def nc:Code:=qX A9
noncomputable def Hu:Code:=aW (aW (aW (aW (aW nc))))
noncomputable def g5:Code:=aW (cN Hu)
noncomputable def tb:Code:=aW Hu
def zM(a b y:Y):MV:= .st [.int .u8 a,.int .u8 b,.int .i64 y]
def g!(L:V ab)(pv c:Z->W)(s:ab)(a b y:Y):V aq:=[⟨CT,.one (zM a b y)⟩,nO L pv c,⟨CT,.arr .i64 s.parts⟩,⟨CT,.rows 2 s.base.length (iL s.base 200)⟩]
def aj5(L:V ab)(pv e:Z->W)(s:ab)(b d y:Y)(K:Ex->MS->Prop)(a:_)(f:a=(C L)):(bif (↑ a :Y)==0 then K Ex.ret {n:=nat_lit 190,tm:=[((4:Z),MV.bs (1:Z) (0:Z) a),((13:Z),MV.bs (1:Z) (0:Z) a),((12:Z),MV.bool CS),((12:Z),MV.bool ((↑ a :Y)==0)),((11:Z),MV.int CZ (↑ a :Y)),((10:Z),MV.bs (1:Z) (0:Z) a),((3:Z),MV.bp (0:Z) (0:Z)),((5:Z),MV.bs (1:Z) (0:Z) a)],bx:=[{fz:=false,c:=BC.one (zM b d y)},nO L pv e,{fz:=false,c:=BC.arr CZ (ab.parts s)},{fz:=false,c:=BC.rows (2:Z) (C (ab.base s)) (iL (ab.base s) (200:Z))}],np:=nat_lit 4} else K Ex.normal {n:=nat_lit 190,tm:=[((12:Z),MV.bool CT),((12:Z),MV.bool ((↑ a :Y)==0)),((11:Z),MV.int CZ (↑ a :Y)),((10:Z),MV.bs (1:Z) (0:Z) a),((3:Z),MV.bp (0:Z) (0:Z)),((5:Z),MV.bs (1:Z) (0:Z) a)],bx:=[{fz:=false,c:=BC.one (zM b d y)},nO L pv e,{fz:=false,c:=BC.arr CZ (ab.parts s)},{fz:=false,c:=BC.rows (2:Z) (C (ab.base s)) (iL (ab.base s) (200:Z))}],np:=nat_lit 4})=aY (aK [] aC) (λ_=>D) (cN (aW (aW nc))) ⟨190, [(3,.bp 0 0),(5,.bs 1 0 L.length)],g! L pv e s b d y,4⟩ K:=by subst f;kernel_rfl
def aj6(L:V ab)(pv d:Z->W)(s:ab)(a b y:Y)(K:Ex->MS->Prop):(((↑(C L):Y)=0->D)/\K Ex.normal { n:=nat_lit 190,tm:=[((6:Z),MV.int CZ (G (O CZ a) (↑(C L):Y))),((19:Z),MV.int CZ (G (O CZ a) (↑(C L):Y))),((18:Z),MV.int CZ (↑(C L):Y)),((17:Z),MV.bs (1:Z) (0:Z) (C L)),((16:Z),MV.int CZ (O CZ a)),((15:Z),MV.int u8 a),((14:Z),MV.bp (0:Z) ((0:Z)+0)),((3:Z),MV.bp (0:Z) (0:Z)),((5:Z),MV.bs (1:Z) (0:Z) (C L))],bx:=[{ fz:=false,c:=BC.one (zM a b y) },nO L pv d,{ fz:=false,c:=BC.arr CZ (ab.parts s) },{ fz:=false,c:=BC.rows (2:Z) (C (ab.base s)) (iL (ab.base s) (200:Z)) }],np:=nat_lit 4 })=aY (aK [] aC) (λ_=>D) (cN (aW (aW (aW nc)))) ⟨190, [(3,.bp 0 0),(5,.bs 1 0 L.length)],g! L pv d s a b y,4⟩ K:=by kernel_rfl
def aj7(L:V ab)(pv d:Z->W)(s:ab)(g h y:Y)(i:Z)(K:Ex->MS->Prop)(b:_)(e:b=(E (↑i:Y)))(a:_)(f:a=(C0 L b aB)):(((0:Y)<=(↑i:Y)/\(↑i:Y)<(↑(C L):Y))/\E (↑i:Y)<C L/\K Ex.normal {n:=nat_lit 190,tm:=[((7:Z),MV.bp (4:Z) (0:Z)),((23:Z),MV.st [MV.int CZ (ab.kind a),MV.st [MV.bool (ab.neg a),MV.ws (ab.ah a)],MV.val (pv b),MV.val (d b),MV.st [MV.aa (ab.ca a) (200:Z),MV.aa (ab.cb a) (200:Z),MV.aa (ab.cm a) (200:Z)],MV.st [MV.aa (ab.x a) (200:Z),MV.aa (ab.y a) (200:Z),MV.bool (ab.inf a)],MV.aa (ab.ord a) (200:Z)]),((22:Z),MV.br (1:Z) b (0:Z)),((21:Z),MV.int CZ (↑i:Y)),((20:Z),MV.bs (1:Z) (0:Z) (C L)),((3:Z),MV.bp (0:Z) (0:Z)),((5:Z),MV.bs (1:Z) (0:Z) (C L)),((6:Z),MV.int CZ (↑i:Y))],bx:=[{fz:=false,c:=BC.one (zM g h y)},nO L pv d,{fz:=false,c:=BC.arr CZ (ab.parts s)},{fz:=false,c:=BC.rows (2:Z) (C (ab.base s)) (iL (ab.base s) (200:Z))},{fz:=false,c:=BC.one (MV.st [MV.int CZ (ab.kind a),MV.st [MV.bool (ab.neg a),MV.ws (ab.ah a)],MV.val (pv b),MV.val (d b),MV.st [MV.aa (ab.ca a) (200:Z),MV.aa (ab.cb a) (200:Z),MV.aa (ab.cm a) (200:Z)],MV.st [MV.aa (ab.x a) (200:Z),MV.aa (ab.y a) (200:Z),MV.bool (ab.inf a)],MV.aa (ab.ord a) (200:Z)])}],np:=nat_lit 4})=aY (aK [] aC) (λ_=>D) (cN (aW (aW (aW (aW nc))))) ⟨190, [(3,.bp 0 0),(5,.bs 1 0 L.length),(6,.int .i64 i)],g! L pv d s g h y,4⟩ K:=by subst e f;kernel_rfl
def Hv(L:V ab)(pv a:Z->W)(i:Z):aq:=⟨CT,.one (jX L pv a i)⟩
def aj8(L:V ab)(pv b:Z->W)(s:ab)(d a y:Y)(i:Z)(K:Ex->MS->Prop):(((16:Y)=0->D)/\K Ex.normal { n:=nat_lit 190,tm:=[((26:Z),MV.int u8 (G a (16:Y))),((25:Z),MV.int u8 a),((24:Z),MV.bp (0:Z) ((0:Z)+1)),((3:Z),MV.bp (0:Z) (0:Z)),((5:Z),MV.bs (1:Z) (0:Z) (C L)),((6:Z),MV.int CZ (↑i:Y)),((7:Z),MV.bp (4:Z) (0:Z))],bx:=[{ fz:=false,c:=BC.one (zM d a y) },nO L pv b,{ fz:=false,c:=BC.arr CZ (ab.parts s) },{ fz:=false,c:=BC.rows (2:Z) (C (ab.base s)) (iL (ab.base s) (200:Z)) },Hv L pv b i],np:=nat_lit 4 })=aY (aK [] aC) (λ_=>D) (cN (cN Hu)) ⟨190, [(3,.bp 0 0),(5,.bs 1 0 L.length),(6,.int .i64 i),(7,.bp 4 0)],g! L pv b s d a y++[Hv L pv b i],4⟩ K:=by kernel_rfl
def sM(s:ab):MV:= .st [.int .i64 s.kind,.st [.bool s.neg,.ws s.ah],.bs 2 0 s.parts.length,.bs 3 0 s.base.length,.st [.aa s.ca 200,.aa s.cb 200,.aa s.cm 200],.st [.aa s.x 200,.aa s.y 200,.bool s.inf],.aa s.ord 200]
def fm(s:ab)(L:V ab)(pv c:Z->W)(i:Z)(a b y p:Y):MS:=⟨190, [(3,.bp 0 0),(5,.bs 1 0 L.length),(6,.int .i64 i),(7,.bp 4 0),(26,.int .u8 p)],
 g! L pv c s a b y++[⟨CT,.one (sM s)⟩],2⟩
def jh:Env AA:=⟨[adE,cB,sH,e9], [],39,aC,λ_=> [],λ_ _=>CU⟩
def kT(n:Z)(i:Y)(K:Ex->V aq->Prop)(e:Ex)(s:MS):Prop:=cond (s.n.beq 190&&s.np.beq 2) (match bE 7 s.tm with
 |.bp j o=>(match bE 5 s.tm with
  |.bs k f m=>(match bE 6 s.tm with
   |.int q z=>T (j.beq 4&&o.beq 0&&k.beq 1&&f.beq 0&&I (q= .i64)) ((m=n/\z=i)/\K e s.bx) D
   |_=>D)
  |_=>D)
 |_=>D) D
def akH(s:ab)(L:V ab)(pv d:Z->W)(i:Z)(a b y:Y)(K:Ex->V aq->Prop):(((∀(x:Y),x∈ab.ah s->(0:Y)<=x/\x<4294967296)/\C (ab.ah s)<=100/\(-9223372036854775808:Y)<=y/\y<=9223372036854775807)/\(C L=C L/\(↑i:Y)=(↑i:Y))/\K Ex.normal [{ fz:=false,c:=BC.one (zM a b y) },nO L pv d,{ fz:=false,c:=BC.arr CZ (ab.parts s) },{ fz:=false,c:=BC.rows (2:Z) (C (ab.base s)) (iL (ab.base s) (200:Z)) },{ fz:=false,c:=BC.one (MV.st [MV.int CZ (ab.kind s),MV.aa (i9 (ab.neg s) (ab.ah s) y) ((32:Z)*(C (ab.ah s)+3)),MV.bs (2:Z) (0:Z) (C (ab.parts s)),MV.bs (3:Z) (0:Z) (C (ab.base s)),MV.st [MV.aa (ab.ca s) (200:Z),MV.aa (ab.cb s) (200:Z),MV.aa (ab.cm s) (200:Z)],MV.st [MV.aa (ab.x s) (200:Z),MV.aa (ab.y s) (200:Z),MV.bool (ab.inf s)],MV.aa (ab.ord s) (200:Z)]) }])=aY jh (λ_=>D) g5 (fm s L pv d i a b y 0) (kT L.length i K):=by kernel_rfl
def akI(s:ab)(L:V ab)(pv d:Z->W)(i:Z)(a b y:Y)(K:Ex->V aq->Prop):(((6:Y)=0->D)/\(C L=C L/\(↑i:Y)=(↑i:Y))/\K Ex.normal [{ fz:=false,c:=BC.one (zM a b y) },nO L pv d,{ fz:=false,c:=BC.arr CZ (ab.parts s) },{ fz:=false,c:=BC.rows (2:Z) (C (ab.base s)) (iL (ab.base s) (200:Z)) },{ fz:=false,c:=BC.one (MV.st [MV.int CZ (G y (6:Y)),MV.st [MV.bool (ab.neg s),MV.ws (ab.ah s)],MV.bs (2:Z) (0:Z) (C (ab.parts s)),MV.bs (3:Z) (0:Z) (C (ab.base s)),MV.st [MV.aa (ab.ca s) (200:Z),MV.aa (ab.cb s) (200:Z),MV.aa (ab.cm s) (200:Z)],MV.st [MV.aa (ab.x s) (200:Z),MV.aa (ab.y s) (200:Z),MV.bool (ab.inf s)],MV.aa (ab.ord s) (200:Z)]) }])=aY jh (λ_=>D) g5 (fm s L pv d i a b y 1) (kT L.length i K):=by kernel_rfl
def akJ(s:ab)(L:V ab)(pv e:Z->W)(i:Z)(a b y:Y)(K:Ex->V aq->Prop)(d:_)(f:d=(C (ab.parts s)+AP (bh.ints CZ (take (1:Z) (DA (0:Z) [y]))))):(((0:Z)+1<=1/\C (ab.parts s)<=C (ab.parts s)/\d *8<=140737488355328)/\(C L=C L/\(↑i:Y)=(↑i:Y))/\K Ex.normal [bif AL (0:Z) (2:Z)then {fz:=false,c:=BC.one (zM a b y)} else bif AR (2:Z) (zM a b y)then {fz:=false,c:=BC.one (MV.st [MV.int u8 a,MV.int u8 b,MV.int CZ y])} else {fz:=false,c:=BC.one (zM a b y)},bif AL ((0:Z)+1) (2:Z)then nO L pv e else nO L pv e,{fz:=false,c:=BC.arr CZ (take (C (ab.parts s)) (ab.parts s)++take (1:Z) (DA (0:Z) [y]))},bif AL ((0:Z)+1+1+1) (2:Z)then {fz:=false,c:=BC.rows (2:Z) (C (ab.base s)) (iL (ab.base s) (200:Z))} else {fz:=false,c:=BC.rows (2:Z) (C (ab.base s)) (iL (ab.base s) (200:Z))},{fz:=false,c:=BC.one (MV.st [MV.int CZ (ab.kind s),MV.st [MV.bool (ab.neg s),MV.ws (ab.ah s)],MV.bs (2:Z) (0:Z) d,MV.bs (3:Z) (0:Z) (C (ab.base s)),MV.st [MV.aa (ab.ca s) (200:Z),MV.aa (ab.cb s) (200:Z),MV.aa (ab.cm s) (200:Z)],MV.st [MV.aa (ab.x s) (200:Z),MV.aa (ab.y s) (200:Z),MV.bool (ab.inf s)],MV.aa (ab.ord s) (200:Z)])},bif AL ((0:Z)+1+1+1+1+1) (2:Z)then {fz:=false,c:=BC.arr CZ [y]} else {fz:=false,c:=BC.arr CZ [y]}])=aY jh (λ_=>D) g5 (fm s L pv e i a b y 2) (kT L.length i K):=by subst f;kernel_rfl
def akK(s:ab)(L:V ab)(pv d:Z->W)(i:Z)(a b y:Y)(K:Ex->V aq->Prop):(bif I ((↑(C (ab.parts s)):Y)>0)then ((8:Y)=0->D)/\((0:Y)<=0/\(0:Y)<(↑(C (ab.parts s)):Y))/\(0:Z)+E (0:Y)<C (ab.parts s)/\(C L=C L/\(↑i:Y)=(↑i:Y))/\K Ex.normal [{ fz:=false,c:=BC.one (zM a b y) },nO L pv d,{ fz:=false,c:=BC.arr CZ (set (ab.parts s) ((0:Z)+E (0:Y)) (G y (8:Y))) },{ fz:=false,c:=BC.rows (2:Z) (C (ab.base s)) (iL (ab.base s) (200:Z)) },{ fz:=false,c:=BC.one (sM s) }]else (C L=C L/\(↑i:Y)=(↑i:Y))/\K Ex.normal [{ fz:=false,c:=BC.one (zM a b y) },nO L pv d,{ fz:=false,c:=BC.arr CZ (ab.parts s) },{ fz:=false,c:=BC.rows (2:Z) (C (ab.base s)) (iL (ab.base s) (200:Z)) },{ fz:=false,c:=BC.one (sM s) }])=aY jh (λ_=>D) g5 (fm s L pv d i a b y 3) (kT L.length i K):=by kernel_rfl
def akL(s:ab)(L:V ab)(pv f:Z->W)(i:Z)(d e y:Y)(K:Ex->V aq->Prop)(a:_)(b:a=(tdiv (↑(C (ab.parts s)):Y) (2:Y))):(((2:Y)=0->D)/\((0:Y)<=O CZ a/\O CZ a <=(↑(C (ab.parts s)):Y))/\(C L=C L/\(↑i:Y)=(↑i:Y))/\K Ex.normal [{fz:=false,c:=BC.one (zM d e y)},nO L pv f,{fz:=false,c:=BC.arr CZ (ab.parts s)},{fz:=false,c:=BC.rows (2:Z) (C (ab.base s)) (iL (ab.base s) (200:Z))},{fz:=false,c:=BC.one (MV.st [MV.int CZ (ab.kind s),MV.st [MV.bool (ab.neg s),MV.ws (ab.ah s)],MV.bs (2:Z) (0:Z) (E (O CZ a)),MV.bs (3:Z) (0:Z) (C (ab.base s)),MV.st [MV.aa (ab.ca s) (200:Z),MV.aa (ab.cb s) (200:Z),MV.aa (ab.cm s) (200:Z)],MV.st [MV.aa (ab.x s) (200:Z),MV.aa (ab.y s) (200:Z),MV.bool (ab.inf s)],MV.aa (ab.ord s) (200:Z)])}])=aY jh (λ_=>D) g5 (fm s L pv f i d e y 4) (kT L.length i K):=by subst b;kernel_rfl
def akM(s:ab)(L:V ab)(pv f:Z->W)(i:Z)(b d y:Y)(K:Ex->V aq->Prop)(a:_)(g:a=(ab.base s))(e:_)(h:e=(C a +AP (bh.rows (2:Z) (1:Z) (aT [MV.aa y (64:Z)])))):(fY y/\(C a <=C a/\e *32<=140737488355328)/\(C L=C L/\(↑i:Y)=(↑i:Y))/\K Ex.normal [bif AL (0:Z) (3:Z)then {fz:=false,c:=BC.one (zM b d y)} else bif AR (3:Z) (zM b d y)then {fz:=false,c:=BC.one (MV.st [MV.int u8 b,MV.int u8 d,MV.int CZ y])} else {fz:=false,c:=BC.one (zM b d y)},bif AL ((0:Z)+1) (3:Z)then nO L pv f else nO L pv f,bif AL ((0:Z)+1+1) (3:Z)then {fz:=false,c:=BC.arr CZ (ab.parts s)} else {fz:=false,c:=BC.arr CZ (ab.parts s)},{fz:=false,c:=BC.rows (2:Z) (C a +1) λq=>bif A4 q (C a)then iL a (200:Z) q else aT [MV.aa y (64:Z)] (q-C a)},{fz:=false,c:=BC.one (MV.st [MV.int CZ (ab.kind s),MV.st [MV.bool (ab.neg s),MV.ws (ab.ah s)],MV.bs (2:Z) (0:Z) (C (ab.parts s)),MV.bs (3:Z) (0:Z) e,MV.st [MV.aa (ab.ca s) (200:Z),MV.aa (ab.cb s) (200:Z),MV.aa (ab.cm s) (200:Z)],MV.st [MV.aa (ab.x s) (200:Z),MV.aa (ab.y s) (200:Z),MV.bool (ab.inf s)],MV.aa (ab.ord s) (200:Z)])}])=aY jh (λ_=>D) g5 (fm s L pv f i b d y 5) (kT L.length i K):=by subst g h;kernel_rfl
def akN(s:ab)(L:V ab)(pv e:Z->W)(i:Z)(b d y:Y)(K:Ex->V aq->Prop)(a:_)(f:a=(ab.base s)):(bif I ((↑(C a):Y)>0)then ((0:Y)<=0/\(0:Y)<(↑(C a):Y))/\E (0:Y)<C a/\((200:Z)<=1000/\(-9223372036854775808:Y)<=y/\y<=9223372036854775807)/\((0:Y)<=0/\(0:Y)<(↑(C a):Y))/\E (0:Y)<C a/\(C L=C L/\(↑i:Y)=(↑i:Y))/\K Ex.normal [{fz:=false,c:=BC.one (zM b d y)},nO L pv e,{fz:=false,c:=BC.arr CZ (ab.parts s)},{fz:=false,c:=BC.rows (2:Z) (C a) λj=>bif AL j (E (0:Y))then MV.aa (C0 a (E (0:Y)) (0:Y)+y) (max (200:Z) (64:Z)+1)else iL a (200:Z) j},{fz:=false,c:=BC.one (sM s)}]else (C L=C L/\(↑i:Y)=(↑i:Y))/\K Ex.normal [{fz:=false,c:=BC.one (zM b d y)},nO L pv e,{fz:=false,c:=BC.arr CZ (ab.parts s)},{fz:=false,c:=BC.rows (2:Z) (C a) (iL a (200:Z))},{fz:=false,c:=BC.one (sM s)}])=aY jh (λ_=>D) g5 (fm s L pv e i b d y 6) (kT L.length i K):=by subst f;kernel_rfl
def akO(s:ab)(L:V ab)(pv d:Z->W)(i:Z)(a b y:Y)(K:Ex->V aq->Prop):(((200:Z)<=1000/\(-9223372036854775808:Y)<=y/\y<=9223372036854775807)/\(C L=C L/\(↑i:Y)=(↑i:Y))/\K Ex.normal [{ fz:=false,c:=BC.one (zM a b y) },nO L pv d,{ fz:=false,c:=BC.arr CZ (ab.parts s) },{ fz:=false,c:=BC.rows (2:Z) (C (ab.base s)) (iL (ab.base s) (200:Z)) },{ fz:=false,c:=BC.one (MV.st [MV.int CZ (ab.kind s),MV.st [MV.bool (ab.neg s),MV.ws (ab.ah s)],MV.bs (2:Z) (0:Z) (C (ab.parts s)),MV.bs (3:Z) (0:Z) (C (ab.base s)),MV.st [MV.aa (ab.ca s+y) (max (200:Z) (64:Z)+1),MV.aa (ab.cb s) (200:Z),MV.aa (ab.cm s) (200:Z)],MV.st [MV.aa (ab.x s) (200:Z),MV.aa (ab.y s) (200:Z),MV.bool (ab.inf s)],MV.aa (ab.ord s) (200:Z)]) }])=aY jh (λ_=>D) g5 (fm s L pv d i a b y 7) (kT L.length i K):=by kernel_rfl
def akP(s:ab)(L:V ab)(pv d:Z->W)(i:Z)(a b y:Y)(K:Ex->V aq->Prop):(((200:Z)<=1000/\(-9223372036854775808:Y)<=y/\y<=9223372036854775807)/\(C L=C L/\(↑i:Y)=(↑i:Y))/\K Ex.normal [{ fz:=false,c:=BC.one (zM a b y) },nO L pv d,{ fz:=false,c:=BC.arr CZ (ab.parts s) },{ fz:=false,c:=BC.rows (2:Z) (C (ab.base s)) (iL (ab.base s) (200:Z)) },{ fz:=false,c:=BC.one (MV.st [MV.int CZ (ab.kind s),MV.st [MV.bool (ab.neg s),MV.ws (ab.ah s)],MV.bs (2:Z) (0:Z) (C (ab.parts s)),MV.bs (3:Z) (0:Z) (C (ab.base s)),MV.st [MV.aa (ab.ca s) (200:Z),MV.aa (ab.cb s+y) (max (200:Z) (64:Z)+1),MV.aa (ab.cm s) (200:Z)],MV.st [MV.aa (ab.x s) (200:Z),MV.aa (ab.y s) (200:Z),MV.bool (ab.inf s)],MV.aa (ab.ord s) (200:Z)]) }])=aY jh (λ_=>D) g5 (fm s L pv d i a b y 8) (kT L.length i K):=by kernel_rfl
def akQ(s:ab)(L:V ab)(pv d:Z->W)(i:Z)(a b y:Y)(K:Ex->V aq->Prop):(((200:Z)<=1000/\(-9223372036854775808:Y)<=y/\y<=9223372036854775807)/\(C L=C L/\(↑i:Y)=(↑i:Y))/\K Ex.normal [{ fz:=false,c:=BC.one (zM a b y) },nO L pv d,{ fz:=false,c:=BC.arr CZ (ab.parts s) },{ fz:=false,c:=BC.rows (2:Z) (C (ab.base s)) (iL (ab.base s) (200:Z)) },{ fz:=false,c:=BC.one (MV.st [MV.int CZ (ab.kind s),MV.st [MV.bool (ab.neg s),MV.ws (ab.ah s)],MV.bs (2:Z) (0:Z) (C (ab.parts s)),MV.bs (3:Z) (0:Z) (C (ab.base s)),MV.st [MV.aa (ab.ca s) (200:Z),MV.aa (ab.cb s) (200:Z),MV.aa (ab.cm s) (200:Z)],MV.st [MV.aa (ab.x s+y) (max (200:Z) (64:Z)+1),MV.aa (ab.y s) (200:Z),MV.bool (ab.inf s)],MV.aa (ab.ord s) (200:Z)]) }])=aY jh (λ_=>D) g5 (fm s L pv d i a b y 9) (kT L.length i K):=by kernel_rfl
def agf(s:ab)(L:V ab)(pv d:Z->W)(i:Z)(a b y:Y)(K:Ex->V aq->Prop):((200:Z)<=1000000/\(C L=C L/\(↑i:Y)=(↑i:Y))/\K Ex.normal [{ fz:=false,c:=BC.one (zM a b y) },nO L pv d,{ fz:=false,c:=BC.arr CZ (ab.parts s) },{ fz:=false,c:=BC.rows (2:Z) (C (ab.base s)) (iL (ab.base s) (200:Z)) },{ fz:=false,c:=BC.one (MV.st [MV.int CZ (ab.kind s),MV.st [MV.bool (ab.neg s),MV.ws (ab.ah s)],MV.bs (2:Z) (0:Z) (C (ab.parts s)),MV.bs (3:Z) (0:Z) (C (ab.base s)),MV.st [MV.aa (ab.ca s) (200:Z),MV.aa (ab.cb s) (200:Z),MV.aa (ab.cm s) (200:Z)],MV.st [MV.aa (ab.x s) (200:Z),MV.aa (-ab.y s) (200:Z),MV.bool (ab.inf s)],MV.aa (ab.ord s) (200:Z)]) }])=aY jh (λ_=>D) g5 (fm s L pv d i a b y 10) (kT L.length i K):=by kernel_rfl
def agh(s:ab)(L:V ab)(pv d:Z->W)(i:Z)(a b y:Y)(K:Ex->V aq->Prop):((C L=C L/\(↑i:Y)=(↑i:Y))/\K Ex.normal [{ fz:=false,c:=BC.one (zM a b y) },nO L pv d,{ fz:=false,c:=BC.arr CZ (ab.parts s) },{ fz:=false,c:=BC.rows (2:Z) (C (ab.base s)) (iL (ab.base s) (200:Z)) },{ fz:=false,c:=BC.one (MV.st [MV.int CZ (ab.kind s),MV.st [MV.bool (ab.neg s),MV.ws (ab.ah s)],MV.bs (2:Z) (0:Z) (C (ab.parts s)),MV.bs (3:Z) (0:Z) (C (ab.base s)),MV.st [MV.aa (ab.ca s) (200:Z),MV.aa (ab.cb s) (200:Z),MV.aa (ab.cm s) (200:Z)],MV.st [MV.aa (ab.x s) (200:Z),MV.aa (ab.y s) (200:Z),MV.bool !ab.inf s],MV.aa (ab.ord s) (200:Z)]) }])=aY jh (λ_=>D) g5 (fm s L pv d i a b y 11) (kT L.length i K):=by kernel_rfl
def agi(s:ab)(L:V ab)(pv d:Z->W)(i:Z)(a b y:Y)(K:Ex->V aq->Prop):(((5:Y)=0->D)/\fY (G y (5:Y))/\((200:Z)<=1000000/\(64:Z)<=1000000)/\(C L=C L/\(↑i:Y)=(↑i:Y))/\K Ex.normal [{ fz:=false,c:=BC.one (zM a b y) },nO L pv d,{ fz:=false,c:=BC.arr CZ (ab.parts s) },{ fz:=false,c:=BC.rows (2:Z) (C (ab.base s)) (iL (ab.base s) (200:Z)) },{ fz:=false,c:=BC.one (MV.st [MV.int CZ (ab.kind s),MV.st [MV.bool (ab.neg s),MV.ws (ab.ah s)],MV.bs (2:Z) (0:Z) (C (ab.parts s)),MV.bs (3:Z) (0:Z) (C (ab.base s)),MV.st [MV.aa (ab.ca s) (200:Z),MV.aa (ab.cb s) (200:Z),MV.aa (ab.cm s) (200:Z)],MV.st [MV.aa (ab.x s) (200:Z),MV.aa (ab.y s) (200:Z),MV.bool (ab.inf s)],MV.aa (ab.ord s*G y (5:Y)) ((200:Z)+64)]) }])=aY jh (λ_=>D) g5 (fm s L pv d i a b y 12) (kT L.length i K):=by kernel_rfl
def agj(s:ab)(L:V ab)(pv d:Z->W)(i:Z)(a b y:Y)(K:Ex->V aq->Prop):(((200:Z)<=1000/\(-9223372036854775808:Y)<=y/\y<=9223372036854775807)/\(C L=C L/\(↑i:Y)=(↑i:Y))/\K Ex.normal [{ fz:=false,c:=BC.one (zM a b y) },nO L pv d,{ fz:=false,c:=BC.arr CZ (ab.parts s) },{ fz:=false,c:=BC.rows (2:Z) (C (ab.base s)) (iL (ab.base s) (200:Z)) },{ fz:=false,c:=BC.one (MV.st [MV.int CZ (ab.kind s),MV.st [MV.bool (ab.neg s),MV.ws (ab.ah s)],MV.bs (2:Z) (0:Z) (C (ab.parts s)),MV.bs (3:Z) (0:Z) (C (ab.base s)),MV.st [MV.aa (ab.ca s) (200:Z),MV.aa (ab.cb s) (200:Z),MV.aa (ab.cm s) (200:Z)],MV.st [MV.aa (ab.x s) (200:Z),MV.aa (ab.y s) (200:Z),MV.bool (ab.inf s)],MV.aa (ab.ord s+y) (max (200:Z) (64:Z)+1)]) }])=aY jh (λ_=>D) g5 (fm s L pv d i a b y 13) (kT L.length i K):=by kernel_rfl
def St.fresh{bx:V aq}{β:Z->Z}{sz:Z->Sz}{live:Z->Prop}{n np:Z}{tm:V (Z×MV)}(f:∀i,live i->i<bx.length/\β i<w.heap.size/\¬S1 (β i))(inj:∀i j,live i->live j->β i=β j->i=j)(u:∀q,S1 q->q<w.heap.size)(s:GW (λq=>S1 q\/∃i,live i/\β i=q) w)(d:∀i b,live i->aQ bx i=CW b->dn (cD S1 bx live β sz) w i b)(o:∀p∈tm,af (cD S1 bx live β sz) w p.2 (a.tmps.getD p.1 undef))(r:a.tmps.size=n)(bz:Z->Z->Sz->Prop)(c:∀i b z,bz i b z->live i/\β i=b/\sz i=z/\nI np i=CS) :
  St S1 ⟨w,λq=>∃i,live i/\β i=q,bz,a.defers⟩ ⟨n,tm,bx,np⟩ (cD S1 bx live β sz) a w :=
 ⟨⟨⟨rfl,rfl,Z0 _,λ_ _ _=>rfl,λ_ _=>rfl,rfl,Z0 _⟩,λq e=>⟨u q e,λ⟨i,m,l⟩=>(f i m).2.2 (l ▸ e)⟩,⟨s.sub λq e=>.inl e,λg t ⟨i,m,l⟩=>(s g t).1 (.inr ⟨i,m,l⟩)⟩,λ_=>Iff.rfl,λ_=>Iff.rfl,inj,λi k=>⟨.inr ⟨i,k,rfl⟩,(f i k).2.1,(f i k).1⟩,d,λi b z h=>⟨(c i b z h).1,(c i b z h).2.1,(c i b z h).2.2.1⟩⟩,
  so tm o,r,rfl,λi b z h=>(c i b z h).2.2.2⟩
def qT{n:Z}{i:Y}{E:Env AA}{x:Code}{s:MS}(h:aY E (λ_=>D) x s (kT n i λe bx=>∀c a w,St S B ⟨190, [(5,.bs 1 0 n),(6,.int .i64 i),(7,.bp 4 0)],bx,2⟩ c a w->Q e.out a w))(p:St S B s c a w):x.wp AA Q a w:=by
 refine bJ bQ x s _ c a w Q h p (λe s' c' a' w' q b=>?_) (λ_ _ _ _ h=>h.elim);unfold kT at q;cases g:(s'.n.beq 190&&s'.np.beq 2)with
 |false=>rw[g]at q;exact q.elim
 |true =>
  rw[g,Z6]at q;simp only[Z3,BW]at g;split at q
  .rename_i j o r;split at q
   .rename_i k f m u;split at q
    .rename_i l z t;cases d:(j.beq 4&&o.beq 0&&k.beq 1&&f.beq 0&&I (l= .i64))with
     |false=>rw[d]at q;exact q.elim
     |true =>
      rw[d,Z6]at q;simp only[Z3,BW,decide_eq_true_eq]at d;obtain⟨⟨⟨⟨rfl,rfl⟩,rfl⟩,rfl⟩,rfl⟩:=d;obtain⟨⟨rfl,rfl⟩,q⟩:=q;have:=b.re [(5,.bs 1 0 m),(6,.int .i64 z),(7,.bp 4 0)] s'.bx b.mem (fa (u ▸ b.tm 5) (fa (t ▸ b.tm 6) (fa (r ▸ b.tm 7) f0)))
      grind
    .exact q.elim
   .exact q.elim
  .exact q.elim
def gB:aq:=⟨CT,.one .any⟩
def amN(s:ab)(L:V ab)(pv a:Z->W)(i:Z)(K:Ex->MS->Prop):(((0:Y)<=(↑i:Y)/\(↑i:Y)<(↑(C L):Y))/\E (↑i:Y)<C L/\K Ex.ret { n:=nat_lit 190,tm:=[((4:Z),MV.bs (1:Z) (0:Z) (C L)),((189:Z),MV.bs (1:Z) (0:Z) (C L)),((188:Z),MV.br (1:Z) (E (↑i:Y)) (0:Z)),((187:Z),MV.st [MV.int CZ (ab.kind s),MV.st [MV.bool (ab.neg s),MV.ws (ab.ah s)],MV.sl (1:Z) (C (ab.parts s)) (bI (ab.parts s)),MV.sl (2:Z) (C (ab.base s)) (iL (ab.base s) (200:Z)),MV.st [MV.aa (ab.ca s) (200:Z),MV.aa (ab.cb s) (200:Z),MV.aa (ab.cm s) (200:Z)],MV.st [MV.aa (ab.x s) (200:Z),MV.aa (ab.y s) (200:Z),MV.bool (ab.inf s)],MV.aa (ab.ord s) (200:Z)]),((186:Z),MV.int CZ (↑i:Y)),((185:Z),MV.bs (1:Z) (0:Z) (C L)),((5:Z),MV.bs (1:Z) (0:Z) (C L)),((6:Z),MV.int CZ (↑i:Y)),((7:Z),MV.bp (4:Z) (0:Z))],bx:=[gB,{ fz:=false,c:=BC.rows (18:Z) (C L) λj=>bif AL j (E (↑i:Y))then MV.st [MV.int CZ (ab.kind s),MV.st [MV.bool (ab.neg s),MV.ws (ab.ah s)],MV.sl (1:Z) (C (ab.parts s)) (bI (ab.parts s)),MV.sl (2:Z) (C (ab.base s)) (iL (ab.base s) (200:Z)),MV.st [MV.aa (ab.ca s) (200:Z),MV.aa (ab.cb s) (200:Z),MV.aa (ab.cm s) (200:Z)],MV.st [MV.aa (ab.x s) (200:Z),MV.aa (ab.y s) (200:Z),MV.bool (ab.inf s)],MV.aa (ab.ord s) (200:Z)]else jX L pv a j },gB,gB,{ fz:=false,c:=BC.one (jY s (200:Z)) }],np:=nat_lit 2 })=aY (aK [] aC) (λ_=>D) tb ⟨190, [(5,.bs 1 0 L.length),(6,.int .i64 i),(7,.bp 4 0)], [gB,nO L pv a,gB,gB,⟨CT,.one (jY s 200)⟩],2⟩ K:=by kernel_rfl
structure L! (s:ab) (C A O:MV) (P:List Int) (lp lb hD:Nat) (G:Nat->MV):Prop where
 hC:eI 0 C (.st [.aa s.ca 200,.aa s.cb 200,.aa s.cm 200])
 hA:eI 0 A (.st [.aa s.x 200,.aa s.y 200,.bool s.inf])
 hO:eI 0 O (.aa s.ord 200)
 hP:P.take lp=s.parts
 hp:lp=s.parts.length
 hb:lb=s.base.length
 hle:lb<=hD
 hB:al lb G (iL s.base 200)
def akv{c':Ctx}{f:Z}{P l:V Y}{v:W}(h:aj c w (.bs k 0 f) [v])(p:c.live k->dn c w k ⟨CT,.arr .i64 P⟩)(o:c.live k->¬c'.S (c.β k))(hP:P.take f=l)(i:f=l.length):aj c' w (.sl 1 l.length (bI l)) [v]:=by
 obtain⟨a,cap,e,m,h⟩:=h;subst i;refine⟨a,cap,e,m,λh0=>?_⟩;rcases h with ⟨n,d,_⟩|⟨_,h1,_⟩
 .obtain⟨arr,ty,q1,_,_,g⟩:=p d;refine⟨_,0,n,o d,λj hj=>⟨[.int .i64 (l.getD j 0)],rfl,rfl,arr,ty,_,q1,λr u b=>?_⟩⟩
  match r,b with
  |0,b =>
   simp only[List.getElem?_cons_zero,Z1]at b;rw[<-b,show 0+j*1+0=j by omega];refine g j _ ?_
   grind
  |r+1,b=>simp at b
 .omega
def aku{c':Ctx}{lb hD:Z}{G:Z->MV}{l:V Y}{v:W}(h:aj c w (.bs k 0 lb) [v])(B:c.live k->dn c w k ⟨CT,.rows 2 hD G⟩)(z:c.live k->¬c'.S (c.β k))(d:∀q,c'.S q->c.S q)(hle:lb<=hD)(A:al lb G (iL l 200))(s:lb=l.length):aj c' w (.sl 2 l.length (iL l 200)) [v]:=by
 obtain⟨a,cap,e,x,h⟩:=h;subst s;refine⟨a,cap,e,x,λh0=>?_⟩;rcases h with ⟨y,b,_⟩|⟨_,h1,_⟩
 .obtain⟨arr,ty,q1,_,_,n⟩:=B b;refine⟨_,0,y,z b,λj t=>?_⟩;obtain⟨f,m,i,g⟩:=n j (by omega);exact⟨f,m,A5 (c:=c.elem) (c':=c'.elem) (r:=false) (λq p=>d q p) (λe=>by simp at e) (iL l 200 j) _ rfl (A.h j t c.elem w f i),arr,ty,_,q1,λr u o=>by rw[AQ];exact g r u o⟩
 .omega
def agJ{c':Ctx}(a:∀q,c'.S q->c.S q){N:MV}{b:V W}(f:N= .st [.bool s.neg,.ws s.ah]\/∃z n,N= .aa z n/\s.neg=I (z<0)/\s.ah=aA z.natAbs)(h:aj c w N b):aj c' w (.st [.bool s.neg,.ws s.ah]) b:=by
 rcases f with rfl|⟨z,n,rfl,i,g⟩
 .exact A5 (r:=false) a (λe=>by simp at e) _ _ rfl h
 .obtain⟨x,rfl,_,d⟩:=h;rw[i,g];exact⟨[_], [x],rfl,rfl, [x], [],rfl,⟨x,rfl,d.mono a⟩,rfl⟩
set_option maxRecDepth 100000 in
def dH{S2:C1->Prop}{E:C1->C3}{i:C1}{b0:aq}{rest:C2 aq}{w:C4}{Q:Exit->Act->C4->Prop}{N C A O:MV}{P:C2 C9}{Z lb hD:C1}{G:C1->MV}(h:St S2 B ⟨190, [(5,.bs 1 0 L.length),(6,.int .i64 i),(7,.bp 4 0)],b0::nO L pv E::⟨CT,.arr .i64 P⟩::⟨CT,.rows 2 hD G⟩::⟨CT,.one (.st [.int .i64 s.kind,N,.bs 2 0 Z,.bs 3 0 lb,C,A,O])⟩::rest,2⟩ c a w)(hN:∀c':Ctx,(∀q,c'.S q->c.S q)->(∀k,c.live k->k≠1->k≠4->¬c'.S (c.β k))->∀D,aj c w N D->aj c' w (.st [.bool s.neg,.ws s.ah]) D)(F:L! s C A O P Z lb hD G)(hi:i<L.length)(hQ:∀c' a' w',St S2 ⟨w,λq=>∃k,(k=1\/k=4)/\c.β k=q,λk q z=>k=1/\q=c.β 1/\z=c.sz 1,a.defers⟩ ⟨190, [(4,.bs 1 0 L.length)], [gB,⟨CT,.rows 18 L.length (λj=>DB (j.beq i) (jY s 200) (jX L pv E j))⟩,gB,gB,gB],2⟩ c' a' w'->c.live 1->c.live 4->Q .ret a' w'):tb.wp AA Q a w:=by
 have d:=h.mem;have J:=(eN (h.tm 7)).1;have K:c.live 1:=by
  obtain⟨a0,cap,_,_,h5⟩:=iC (h.tm 5)
  grind
 have t:∀k b,c.live k->aQ (b0::nO L pv E::⟨CT,.arr .i64 P⟩::⟨CT,.rows 2 hD G⟩::⟨CT,.one (.st [.int .i64 s.kind,N,.bs 2 0 Z,.bs 3 0 lb,C,A,O])⟩::rest) k=CW b->b.fz=CT->c.W (c.β k):=λk b m p hf=>(d.hW _).2 ⟨k,b,m,p,hf,rfl⟩;have w1:=t 1 _ K rfl rfl;have w4:=t 4 _ J rfl rfl
 let lv:C1->Prop:=λk=>k=1\/k=4
 let bx:C2 aq:=[gB,nO L pv E,gB,gB,⟨CT,.one (jY s 200)⟩]
 have g:∀q,(cD S2 bx lv c.β c.sz).S q->c.S q:=λq f=>by
  rcases f with f|⟨k,_,l,_,_,e⟩
  .exact(d.hS q).2 (.inl f)
  .rcases l with rfl|rfl
   .rw[<-e];exact d.WS _ w1
   .rw[<-e];exact d.WS _ w4
 have I:∀q,(cD S2 bx lv c.β c.sz).W q->c.W q:=λq ⟨k,_,l,_,_,e⟩=>by
  grind
 have H:∀k,c.live k->k≠1->k≠4->¬(cD S2 bx lv c.β c.sz).S (c.β k):=λk l h1 h4 f=>by
  rcases f with f|⟨j,_,hj,_,_,e⟩
  .exact d.l! l f
  .rcases hj with rfl|rfl
   .exact h1 (d.inj _ _ K l e).symm
   .exact h4 (d.inj _ _ J l e).symm
 have nk:=St.fresh (S1:=S2) (w:=w) (bx:=bx) (β:=c.β) (sz:=c.sz) (live:=lv) (n:=190) (np:=2) (tm:=[(5,.bs 1 0 L.length),(6,.int .i64 i),(7,.bp 4 0)]) (a:=a)
  (λk l=>by
   rcases l with rfl|rfl
   .exact⟨by show 1<5;omega,(d.fresh 1 K).2.1,d.l! K⟩
   .exact⟨by show 4<5;omega,(d.fresh 4 J).2.1,d.l! J⟩)
  (λx y hx hy e=>d.inj x y (by rcases hx with rfl|rfl<;>assumption) (by rcases hy with rfl|rfl<;>assumption) e)
  (λq f=>d.fh q ((d.hS q).2 (.inl f))) (d.gw.sub λq f=>by
   rcases f with f|⟨k,l,e⟩
   .exact(d.hS q).2 (.inl f)
   .rcases l with rfl|rfl
    .rw[<-e];exact d.WS _ w1
    .rw[<-e];exact d.WS _ w4)
  (λk bb l p=>by
   rcases l with rfl|rfl
   .have p:CW (nO L pv E)=CW bb:=p;simp only[Z1]at p;subst p;obtain⟨arr,ty,q1,Y,X,V⟩:=d.box 1 _ K rfl;refine⟨arr,ty,q1,Y,X,λj hj=>?_⟩;obtain⟨D,u,U,M⟩:=V j hj;exact⟨D,u,A5 (c:=c.elem) (c':=(cD S2 bx lv c.β c.sz).elem) (r:=false) (λq f=>g q f) (λe=>by simp at e) (jX L pv E j) _ rfl U,M⟩
   .have p:CW (⟨CT,.one (jY s 200)⟩:aq)=CW bb:=p;simp only[Z1]at p;subst p;obtain⟨arr,ty,q1,Y,X,D,V,q5⟩:=d.box 4 _ J rfl;refine⟨arr,ty,q1,Y,X,D,?_,q5⟩;obtain⟨T,y1,rfl,u,x2,y2,rfl,U,x3,y3,rfl,M,x4,y4,rfl,r4,x5,y5,rfl,r5,ap7,asQ,rfl,r6,ap8,asR,rfl,r7,apE⟩:=V;have e3:∃v,x3=[v]:=by obtain⟨_,_,e,_⟩:=M;exact⟨_,e⟩
    have e4:∃v,x4=[v]:=by obtain⟨_,_,e,_⟩:=r4;exact⟨_,e⟩
    obtain⟨v3,rfl⟩:=e3;obtain⟨v4,rfl⟩:=e4;have o:fq 0 c (cD S2 bx lv c.β c.sz):=⟨g,I,λi hi=>C8 hi (AE i)⟩;exact⟨T,_,rfl,u,x2,_,rfl,hN _ g H _ U, [v3],_,rfl,akv M (λm=>d.box 2 _ m rfl) (λm=>H 2 m (by omega) (by omega)) F.hP F.hp, [v4],_,rfl,aku r4 (λm=>d.box 3 _ m rfl) (λm=>H 3 m (by omega) (by omega)) g F.hle F.hB F.hb,
     x5,_,rfl,j7 _ _ 0 _ _ _ o F.hC r5,ap7,_,rfl,j7 _ _ 0 _ _ _ o F.hA r6,ap8,_,rfl,j7 _ _ 0 _ _ _ o F.hO r7,apE⟩)
  (fa (by
   obtain⟨a0,cap,e,m,h5⟩:=iC (show af c w (.bs 1 0 L.length) (a.tmps.getD 5 undef) from h.tm 5);rw[e];exact aS rfl (by simp) rfl ⟨a0,cap,rfl,m,h5.imp (λh=>⟨h.1,.inl rfl,h.2.2⟩) _root_.id⟩) (fa (by rw[cK (show af c w (.int .i64 i) (a.tmps.getD 6 undef) from h.tm 6)];exact cE _ _) (fa (by
   obtain⟨_,e⟩:=eN (show af c w (.bp 4 0) (a.tmps.getD 7 undef) from h.tm 7);rw[e];exact aS rfl (by simp) rfl ⟨.inr rfl,rfl⟩) f0)))
  h.size (λk q z=>k=1/\q=c.β 1/\z=c.sz 1) (λk q z hp=>by
   grind [nI,jL])
 refine rZ (x:=tb) (cast (amN s L pv E i _) ⟨by omega,by rw[Z8];exact hi,λc3 a3 w3 R=>?_⟩) nk;rw[Z8]at R;refine hQ c3 a3 w3 (R.re [(4,.bs 1 0 L.length)] _ ?_ (fa (R.tm 4) f0)) K J;exact R.mem.nq (i:=4) (bc:= .one (jY s 200)) (bc':= .one .any) rfl rfl λarr _ ⟨D,h1,h2⟩=>by
  obtain⟨T,y1,rfl,u,_⟩:=h1;have u:T=[.int .i64 s.kind]:=u;subst u;exact⟨[.int .i64 s.kind],⟨_,rfl,rfl⟩,λj v hv=>by
   grind⟩
structure H5 (W:Nat) (s:ab):Prop where
 ca:s.ca.natAbs<2^W
 cb:s.cb.natAbs<2^W
 cm:s.cm.natAbs<2^W
 x:s.x.natAbs<2^W
 y:s.y.natAbs<2^W
 ord:s.ord.natAbs<2^W
 base:∀b∈s.base,b.natAbs<2^W
structure s? (s:ab):Prop where
 wd:Wd s.ah
 len:s.ah.length<=5
 parts:s.parts.length<=89
 base:s.base.length<=999
 sm:H5 190 s
def p5(s:ab)(p y:Y):ab :=
 if p=0 then { s with neg:=decide (i9 s.neg s.ah y<0),ah:=aA (i9 s.neg s.ah y).natAbs }
 else if p=1 then { s with kind:=tmod y 6 }
 else if p=2 then { s with parts:=s.parts++[y] }
 else if p=3 then { s with parts:=s.parts.set 0 (G y 8) }
 else if p=4 then { s with parts:=s.parts.take (s.parts.length/2) }
 else if p=5 then { s with base:=s.base++[y] }
 else if p=6 then { s with base:=s.base.set 0 (s.base.getD 0 0+y) }
 else if p=7 then { s with ca:=s.ca+y }
 else if p=8 then { s with cb:=s.cb+y }
 else if p=9 then { s with x:=s.x+y }
 else if p=10 then { s with y:= -s.y }
 else if p=11 then { s with inf:=!s.inf }
 else if p=12 then { s with ord:=s.ord*G y 5 }
 else if p=13 then { s with ord:=s.ord+y }
 else { s with ah:=s.ah++[0] }
def adV{y:U}{X:Z->Prop}{R:V Deferred}{L:V ab}{pv l:Z->W}(h:St S2 ⟨y,X,λk q z'=>k=1/\q=b/\z'=z,R⟩ ⟨190, [(4,.bs 1 0 L.length)], [gB,⟨CT,.rows 18 L.length (λj=>DB (j.beq i) (jY s 200) (jX L pv l j))⟩,gB,gB,gB],2⟩ c a w)(O:∀q,S q->S2 q)(N:¬S b)(hi:i<L.length)(J:∀j,j<L.length->j≠i->aj (AZ S) w (.sl 1 (L.getD j aB).parts.length (bI (L.getD j aB).parts)) [pv j]/\aj (AZ S) w (.sl 2 (L.getD j aB).base.length (iL (L.getD j aB).base 200)) [l j]) :
  af (AZ S) w (.sl 18 (L.set i s).length (aF (L.set i s) 200)) (a.tmps.getD 4 undef):=by
 obtain⟨I,H,p3⟩:=h.mem.bz 1 b z ⟨rfl,rfl,rfl⟩;obtain⟨T,cap,e,M,hd⟩:=iC (show af c w (.bs 1 0 L.length) (a.tmps.getD 4 undef) from h.tm 4);rw[e];refine aS rfl (by simp) rfl ⟨T,cap,by rw[AK],by rw[AK];exact M,λ_=>?_⟩;rw[AK];rcases hd with ⟨hd,_⟩|hd
 .obtain⟨arr,ty,q1,q2,q3,G⟩:=h.mem.box 1 _ I rfl;rw[H]at hd q1;refine⟨b,0,hd,N,λj m=>?_⟩;obtain⟨o,F,d,E⟩:=G j m;refine⟨o,F,?_,arr,ty,_,q1,λk v hv=>by rw[AQ];exact E k v hv⟩;have g:∀q,S q->c.S q:=λq K=>(h.mem.hS q).2 (.inl (O q K));by_cases f:j=i
  .subst f;have n:(L.set j s).getD j aB=s:=by simp[AF,m]
   have d:aj c.elem w (DB (j.beq j) (jY s 200) (jX L pv l j)) o:=d;rw[show j.beq j=CS by simp,Z6]at d;unfold aF;rw[n];exact A5 (c:=c.elem) (c':=(AZ S).elem) (r:=false) g (λe=>by simp at e) (jY s 200) _ rfl d
  .have n:(L.set i s).getD j aB=L.getD j aB:=by simp[AF,show ¬i=j from λh=>f h.symm]
   have d:aj c.elem w (DB (j.beq i) (jY s 200) (jX L pv l j)) o:=d;rw[show j.beq i=CT from BL.2 λh=>f (by simpa using h),Z5]at d;have d:=A5 (c:=c.elem) (c':=(AZ S).elem) (r:=false) g (λe=>by simp at e) (jX L pv l j) _ rfl d;obtain⟨Q,P⟩:=J j m f;unfold aF;rw[n];obtain⟨x,y1,rfl,D,u,y2,rfl,s2,t,y3,rfl,C,p,y4,rfl,B,A⟩:=d;obtain⟨rfl,_⟩:t=[pv j]/\_:=C;obtain⟨rfl,_⟩:p=[l j]/\_:=B;exact⟨x,_,rfl,D,u,_,rfl,s2,_,_,rfl,Q,_,_,rfl,P,A⟩
 .omega
def iy(a b m:Y):eI 0 (.st [.aa a 200,.aa b 200,.aa m 200]) (.st [.aa a 200,.aa b 200,.aa m 200]):=⟨⟨rfl,.inl (Z0 _)⟩,⟨rfl,.inl (Z0 _)⟩,⟨rfl,.inl (Z0 _)⟩,⟨⟩⟩
def ij(a b:Y)(o:J):eI 0 (.st [.aa a 200,.aa b 200,.bool o]) (.st [.aa a 200,.aa b 200,.bool o]):=⟨⟨rfl,.inl (Z0 _)⟩,⟨rfl,.inl (Z0 _)⟩,rfl,⟨⟩⟩
def iz(a:Y):eI 0 (.aa a 200) (.aa a 200):=⟨rfl,.inl (Z0 _)⟩
def fieldsOf{C A O:MV}{P:V Y}{a lb hD:Z}{G:Z->MV}(g:eI 0 C (.st [.aa s.ca 200,.aa s.cb 200,.aa s.cm 200]))(i:eI 0 A (.st [.aa s.x 200,.aa s.y 200,.bool s.inf]))(f:eI 0 O (.aa s.ord 200))(e:P.take a=s.parts)(c:a=s.parts.length)(d:lb=s.base.length)(b:lb<=hD)(h:al lb G (iL s.base 200)):L! s C A O P a lb hD G:=⟨g,i,f,e,c,d,b,h⟩
def ic{N:MV}(h:N= .st [.bool s.neg,.ws s.ah]\/∃z n,N= .aa z n/\s.neg=I (z<0)/\s.ah=aA z.natAbs):∀c':Ctx,(∀q,c'.S q->c.S q)->(∀k,c.live k->k≠1->k≠4->¬c'.S (c.β k))->∀a,aj c w N a->aj c' w (.st [.bool s.neg,.ws s.ah]) a:=λ_ b _ _ d=>agJ b h d
def v?{a y:Y}{n:Z}(h:a.natAbs<2^190)(hy: -9223372036854775808<=y/\y<=9223372036854775807):a+y=a+y/\(n<=200\/(a+y).natAbs<2^200):=by
 omega
def ajn:(2:Z)^190=1569275433846670190958947355801916604025588861116008628224:=by decide
def ajo:(2:Z)^200=1606938044258990275541962092341162602522202993782792835301376:=by decide
def aeo(l:V Y)(y:Y)(n:Z)(c:n<=200:=by omega):al (l.length+1) (λq=>T (q.blt l.length) (iL l 200 q) (aT [MV.aa y n] (q-l.length))) (iL (l++[y]) 200):=BZ λj hj=>by
 cases a:j.blt l.length with
 |true =>
  have b:j<l.length:=by simpa using a
  rw[Z6];unfold iL;rw[show(l++[y]).getD j 0=l.getD j 0 by simp[AF,List.getElem?_append_left b]];exact⟨rfl,.inl (Z0 _)⟩
 |false =>
  have dz:¬j<l.length:=by intro h;rw[show j.blt l.length=CS by simpa using h]at a;simp at a
  have:j=l.length:=by omega
  subst this;rw[Z5,Nat.sub_self];unfold iL;rw[show(l++[y]).getD l.length 0=y by simp[AF]];exact⟨rfl,.inl c⟩
def aep{l:V Y}{y:Y}{n:Z}(hl:0<l.length)(h:n<=200\/y.natAbs<2^200):al l.length (λj=>T (j.beq (E 0)) (MV.aa y n) (iL l 200 j)) (iL (l.set 0 y) 200):=BZ λj a=>by
 match j,a with
 |0,_ =>
  simp_all [eI,iL,AF]
 |j+1,_ =>
  show eI 0 (iL l 200 (j+1)) (iL (l.set 0 y) 200 (j+1));unfold iL;rw[show(l.set 0 y).getD (j+1) 0=l.getD (j+1) 0 by simp[AF]];exact⟨rfl,.inl (Z0 _)⟩
def agU{y m:Y}(hm:0<m): -m<G y m/\G y m<m:=by
 have h1:=Int.natAbs_tmod y m;have h2:y.natAbs%m.natAbs<m.natAbs:=AM _ (by omega);omega
set_option maxRecDepth 100000 in
set_option maxHeartbeats 1600000 in
def adW{L:V ab}{pv n:Z->W}{o r y p:Y}(h:St S2 B (fm s L pv n i o r y p) c a w)(Vs:0<=p)(pb:p<=13)(u:s? s)(l: -9223372036854775808<=y/\y<=9223372036854775807)(m:i<L.length)(g:∀tm bx c a w,St S2 B ⟨190,tm,bx,2⟩ c a w->c.live 1->c.live 4->∀c' a' w',St S2 ⟨w,λq=>∃k,(k=1\/k=4)/\c.β k=q,λk q z=>k=1/\q=c.β 1/\z=c.sz 1,a.defers⟩ ⟨190, [(4,.bs 1 0 L.length)], [gB,⟨CT,.rows 18 L.length (λj=>T (j.beq i) (jY (p5 s p y) 200) (jX L pv n j))⟩,gB,gB,gB],2⟩ c' a' w'->Q .ret a' w') :
  g5.wp AA (Exit.then (tb.wp AA Q) Q) a w:=by
 have t:=u.sm;have hl:=u.len;have xn:=u.parts;have o?:=u.base;have C:p=0\/p=1\/p=2\/p=3\/p=4\/p=5\/p=6\/p=7\/p=8\/p=9\/p=10\/p=11\/p=12\/p=13:=by omega
 rcases C with rfl|rfl|rfl|rfl|rfl|rfl|rfl|rfl|rfl|rfl|rfl|rfl|rfl|rfl
 .rw[show p5 s 0 y={ s with neg:=decide (i9 s.neg s.ah y<0),ah:=aA (i9 s.neg s.ah y).natAbs } from rfl]at g;refine qT (cast (akH s L pv n i o r y _) ⟨⟨u.wd,by omega,l.1,l.2⟩,⟨rfl,rfl⟩,λc a w h=>?_⟩) h;exact dH (s:={ s with neg:=decide (i9 s.neg s.ah y<0),ah:=aA (i9 s.neg s.ah y).natAbs }) h (ic (.inr ⟨_,_,rfl,rfl,rfl⟩)) (fieldsOf (iy _ _ _) (ij _ _ _) (iz _) (AB (Z0 _)) rfl rfl (Z0 _) AC) m λc' a' w' f d b=>g _ _ c a w h d b c' a' w' f
 .rw[show p5 s 1 y={ s with kind:=tmod y 6 } from rfl]at g;refine qT (cast (akI s L pv n i o r y _) ⟨by omega,⟨rfl,rfl⟩,λc a w h=>?_⟩) h;exact dH (s:={ s with kind:=tmod y 6 }) h (ic (.inl rfl)) (fieldsOf (iy _ _ _) (ij _ _ _) (iz _) (AB (Z0 _)) rfl rfl (Z0 _) AC) m λc' a' w' f d b=>g _ _ c a w h d b c' a' w' f
 .rw[show p5 s 2 y={ s with parts:=s.parts++[y] } from rfl]at g;refine qT (cast (akJ s L pv n i o r y _ _ rfl) ⟨⟨Z0 _,Z0 _,by show(s.parts.length+1)*8<=_;omega⟩,⟨rfl,rfl⟩,λc a w h=>?_⟩) h;exact dH (s:={ s with parts:=s.parts++[y] }) h (ic (.inl rfl)) (fieldsOf (iy _ _ _) (ij _ _ _) (iz _) (by rw[AB (Z0 s.parts.length)];exact AB (by simp[AP])) (by simp[AP]) rfl (Z0 _) AC) m λc' a' w' f d b=>g _ _ c a w h d b c' a' w' f
 .rw[show p5 s 3 y={ s with parts:=s.parts.set 0 (G y 8) } from rfl]at g;refine qT (cast (akK s L pv n i o r y _) (aJ Z4 (λA=>⟨by omega,by omega,by show 0<s.parts.length;omega,⟨rfl,rfl⟩,λc a w h=>?_⟩) (λA=>⟨⟨rfl,rfl⟩,λc a w h=>?_⟩))) h
  .exact dH (s:={ s with parts:=s.parts.set 0 (G y 8) }) h (ic (.inl rfl)) (fieldsOf (iy _ _ _) (ij _ _ _) (iz _) (AB (by rw[AK];exact Z0 _)) (by rw[AK]) rfl (Z0 _) AC) m λc' a' w' f d b=>g _ _ c a w h d b c' a' w' f
  .have e:s.parts=[]:=BY.1 (by omega);exact dH (s:={ s with parts:=s.parts.set 0 (G y 8) }) h (ic (.inl rfl)) (fieldsOf (iy _ _ _) (ij _ _ _) (iz _) (by show s.parts.take s.parts.length=s.parts.set 0 _;rw[e];rfl) (by show s.parts.length=(s.parts.set 0 _).length;rw[AK]) rfl (Z0 _) AC) m λc' a' w' f d b=>g _ _ c a w h d b c' a' w' f
 .rw[show p5 s 4 y={ s with parts:=s.parts.take (s.parts.length/2) } from rfl]at g;have e:O CZ (tdiv (s.parts.length:Y) 2)=((s.parts.length/2:Z):Y):=by
   grind [tdiv,Int.tdiv_eq_ediv_of_nonneg,aU]
  refine qT (cast (akL s L pv n i o r y _ _ rfl) ⟨by omega,⟨by rw[e];omega,by rw[e];omega⟩,⟨rfl,rfl⟩,λc a w h=>?_⟩) h;rw[e,Z8]at h;exact dH (s:={ s with parts:=s.parts.take (s.parts.length/2) }) h (ic (.inl rfl)) (fieldsOf (iy _ _ _) (ij _ _ _) (iz _) rfl (by rw[AX];omega) rfl (Z0 _) AC) m λc' a' w' f d b=>g _ _ c a w h d b c' a' w' f
 .rw[show p5 s 5 y={ s with base:=s.base++[y] } from rfl]at g;refine qT (cast (akM s L pv n i o r y _ _ rfl _ rfl) ⟨l,⟨Z0 _,by show(s.base.length+1)*32<=_;omega⟩,⟨rfl,rfl⟩,λc a w h=>?_⟩) h;exact dH (s:={ s with base:=s.base++[y] }) h (ic (.inl rfl)) (fieldsOf (iy _ _ _) (ij _ _ _) (iz _) (AB (Z0 _)) rfl (by simp[AP]) (Z0 _) (aeo s.base y 64)) m λc' a' w' f d b=>g _ _ c a w h d b c' a' w' f
 .rw[show p5 s 6 y={ s with base:=s.base.set 0 (s.base.getD 0 0+y) } from rfl]at g;refine qT (cast (akN s L pv n i o r y _ _ rfl) (aJ Z4 (λA=>⟨by omega,by show 0<s.base.length;omega,⟨by omega,l.1,l.2⟩,by omega,by show 0<s.base.length;omega,⟨rfl,rfl⟩,λc a w h=>?_⟩) (λA=>⟨⟨rfl,rfl⟩,λc a w h=>?_⟩))) h
  .have v:0<s.base.length:=by omega
   have D:(s.base.getD 0 0).natAbs<2^190:=t.base _ (by rw[AF,A8 v];exact BP v);exact dH (s:={ s with base:=s.base.set 0 (s.base.getD 0 0+y) }) h (ic (.inl rfl)) (fieldsOf (iy _ _ _) (ij _ _ _) (iz _) (AB (Z0 _)) rfl (by rw[AK]) (Z0 _) (aep v (v? D l).2)) m λc' a' w' f d b=>g _ _ c a w h d b c' a' w' f
  .have e:s.base=[]:=BY.1 (by omega);exact dH (s:={ s with base:=s.base.set 0 (s.base.getD 0 0+y) }) h (ic (.inl rfl)) (fieldsOf (iy _ _ _) (ij _ _ _) (iz _) (AB (Z0 _)) rfl (by show s.base.length=(s.base.set 0 _).length;rw[AK]) (Z0 _) (by show al _ (iL s.base 200) (iL (s.base.set 0 _) 200);rw[e];exact AC)) m λc' a' w' f d b=>g _ _ c a w h d b c' a' w' f
 .rw[show p5 s 7 y={ s with ca:=s.ca+y } from rfl]at g;refine qT (cast (akO s L pv n i o r y _) ⟨⟨by omega,l.1,l.2⟩,⟨rfl,rfl⟩,λc a w h=>?_⟩) h;exact dH (s:={ s with ca:=s.ca+y }) h (ic (.inl rfl)) (fieldsOf ⟨v? t.ca l,⟨rfl,.inl (Z0 _)⟩,⟨rfl,.inl (Z0 _)⟩,⟨⟩⟩ (ij _ _ _) (iz _) (AB (Z0 _)) rfl rfl (Z0 _) AC) m λc' a' w' f d b=>g _ _ c a w h d b c' a' w' f
 .rw[show p5 s 8 y={ s with cb:=s.cb+y } from rfl]at g;refine qT (cast (akP s L pv n i o r y _) ⟨⟨by omega,l.1,l.2⟩,⟨rfl,rfl⟩,λc a w h=>?_⟩) h;exact dH (s:={ s with cb:=s.cb+y }) h (ic (.inl rfl)) (fieldsOf ⟨⟨rfl,.inl (Z0 _)⟩,v? t.cb l,⟨rfl,.inl (Z0 _)⟩,⟨⟩⟩ (ij _ _ _) (iz _) (AB (Z0 _)) rfl rfl (Z0 _) AC) m λc' a' w' f d b=>g _ _ c a w h d b c' a' w' f
 .rw[show p5 s 9 y={ s with x:=s.x+y } from rfl]at g;refine qT (cast (akQ s L pv n i o r y _) ⟨⟨by omega,l.1,l.2⟩,⟨rfl,rfl⟩,λc a w h=>?_⟩) h;exact dH (s:={ s with x:=s.x+y }) h (ic (.inl rfl)) (fieldsOf (iy _ _ _) ⟨v? t.x l,⟨rfl,.inl (Z0 _)⟩,rfl,⟨⟩⟩ (iz _) (AB (Z0 _)) rfl rfl (Z0 _) AC) m λc' a' w' f d b=>g _ _ c a w h d b c' a' w' f
 .rw[show p5 s 10 y={ s with y:= -s.y } from rfl]at g;refine qT (cast (agf s L pv n i o r y _) ⟨by omega,⟨rfl,rfl⟩,λc a w h=>?_⟩) h;exact dH (s:={ s with y:= -s.y }) h (ic (.inl rfl)) (fieldsOf (iy _ _ _) (ij _ _ _) (iz _) (AB (Z0 _)) rfl rfl (Z0 _) AC) m λc' a' w' f d b=>g _ _ c a w h d b c' a' w' f
 .rw[show p5 s 11 y={ s with inf:=!s.inf } from rfl]at g;refine qT (cast (agh s L pv n i o r y _) ⟨⟨rfl,rfl⟩,λc a w h=>?_⟩) h;exact dH (s:={ s with inf:=!s.inf }) h (ic (.inl rfl)) (fieldsOf (iy _ _ _) (ij _ _ _) (iz _) (AB (Z0 _)) rfl rfl (Z0 _) AC) m λc' a' w' f d b=>g _ _ c a w h d b c' a' w' f
 .rw[show p5 s 12 y={ s with ord:=s.ord*G y 5 } from rfl]at g;have t5:=agU (y:=y) (show(0:Y)<5 by omega);have E:(s.ord*G y 5).natAbs<2^200:=by
   have v:=t.ord;have h2:=ajn;have h3:=ajo;rw[CD];have h4:s.ord.natAbs*(G y 5).natAbs<=s.ord.natAbs*4:=BH _ (by omega);omega
  refine qT (cast (agi s L pv n i o r y _) ⟨by omega,by omega,by omega,⟨rfl,rfl⟩,λc a w h=>?_⟩) h;exact dH (s:={ s with ord:=s.ord*G y 5 }) h (ic (.inl rfl)) (fieldsOf (iy _ _ _) (ij _ _ _) ⟨rfl,.inr E⟩ (AB (Z0 _)) rfl rfl (Z0 _) AC) m λc' a' w' f d b=>g _ _ c a w h d b c' a' w' f
 .rw[show p5 s 13 y={ s with ord:=s.ord+y } from rfl]at g;refine qT (cast (agj s L pv n i o r y _) ⟨⟨by omega,l.1,l.2⟩,⟨rfl,rfl⟩,λc a w h=>?_⟩) h;exact dH (s:={ s with ord:=s.ord+y }) h (ic (.inl rfl)) (fieldsOf (iy _ _ _) (ij _ _ _) (v? t.ord l) (AB (Z0 _)) rfl rfl (Z0 _) AC) m λc' a' w' f d b=>g _ _ c a w h d b c' a' w' f
section
section
variable {P:Program} {ops:Array Oper} {Q:Exit->Act->World->Prop} {S:World->Prop} {t:Nat}
def mD(P:CY)(ops:N r)(Q:Exit->Act->U->Prop)(S:U->Prop)(t:Z):Z->N J->Act->U->Prop
 |0,listed,a,w=>AO .any ops listed=[]/\Q .normal a w
 |fuel+1,listed,a,w=>(AO .any ops listed=[]->Q .normal a w)/\
  ∀i∈AO .any ops listed,wpOp P ops Q i (λa' w'=>(i≠t->S w')/\mD P ops Q S t fuel (listed.setIfInBounds i CS) a' w') a w
def y9:∀(fuel:Z) (listed:N J) (a:Act) (w:U),mD P ops Q S t fuel listed a w->wpAny P .any ops Q fuel listed a w
 |0,_,_,_,h=>h
 |fuel+1,_,_,_,h=>⟨h.1,λi b=>wpOp_mono (λa' w' h'=>y9 fuel _ a' w' h'.2) (h.2 i b)⟩
def WQ{u:C6}{v:C3}(G:ops[i]? =CW u)(p:∀(j:Z) (o:C6) B b,ops[j]? =CW o->o.op≠ .select B b)(X:∀c a w,Q (.panic c) (a.put u.dst v) w->Q (.panic c) a w)(T:∀listed:C5 Bool,listed.getD i CS=CT->t ∉ AO .any ops listed)(arh:i≠t) :
  ∀(fuel:Z) (listed:C5 Bool) (a:Act) (w:C4),
   (∀j r,ops[j]? =CW r->j≠i->listed.getD j CS=CT->(∀e∈r.after,BI .any e=CS->e.on≠i)->u.apart ops r=CS)->
   i∈AO .any ops listed->YieldsIf P ops S u v a->S w->
   mD P ops Q S t fuel (listed.setIfInBounds i CS) (a.put u.dst v) w->mD P ops Q S t (fuel+1) listed a w:=by
 intro fuel
 induction fuel with
 |zero =>
  intro listed a w _ l F A H;refine⟨λh=>(by rw[h]at l;cases l),λj z=>?_⟩;by_cases d:j=i
  .subst d;exact F.wpOp G A ⟨λ_=>A,H⟩
  .have:=ready_mono z d;rw[H.1]at this;cases this
 |succ fuel R =>
  intro listed a w f l F A H;refine⟨λh=>(by rw[h]at l;cases l),λj z=>?_⟩;by_cases d:j=i
  .subst d;exact F.wpOp G A ⟨λ_=>A,H⟩
  .have O:=H.2 j (ready_mono z d);obtain⟨q,r,x,E⟩:=BQ.1 z;have C:j≠t:=λe=>T listed (BQ.1 l).1 (e ▸ z);have D:∀e∈r.after,BI .any e=CS->e.on≠i:=λe V W heq=>by
    have O:=E e V W;have h0:=(BQ.1 l).1
    grind
   have Y:=wpOp_putIf x (f j r x d q D) (λB b=>p i u B b G) (λB b=>p j r B b x) X F O;have g:∀k ok,ops[k]? =CW ok->k≠i->(listed.setIfInBounds j CS).getD k CS=CT->
     (∀e∈ok.after,BI .any e=CS->e.on≠i)->u.apart ops ok=CS:=λk ok U M ar4 J=>by
    refine f k ok U M ?_ J;by_cases N:j=k
    .subst N;exact q
    .simp_all
   refine wpOp_mono (λa' w' I=>⟨λ_=>I.2.1 C,R (listed.setIfInBounds j CS) a' w' g (ready_mono l (Ne.symm d)) I.1 (I.2.1 C) ?_⟩) Y
   grind [Array.setIfInBounds_comm]
def cY{b:r}{v:W}{fuel:Z}{listed:N J}(e:ops[i]? =CW b)(j:BN ops=CS)(l:Region.free .any ops listed i=CS)(k:(AO .any ops listed).contains i=CS)(p:∀c a w,Q (.panic c) (a.put b.dst v) w->Q (.panic c) a w)(g:∀listed:N J,listed.getD i CS=CT->t ∉ AO .any ops listed)(d:i≠t)(f:YieldsIf P ops S b v a)(o:S w)(h:mD P ops Q S t fuel (listed.setIfInBounds i CS) (a.put b.dst v) w):mD P ops Q S t (fuel+1) listed a w :=
 WQ e (Region.noSelect_spec j) p g d fuel listed a w (Region.free_spec e l) (by simpa using k) f o h
def eF{rs:V Z}{fuel:Z}{listed:N J}(c:AO .any ops listed=rs)(b:rs≠ [])(h:∀i∈rs,wpOp P ops Q i (λa' w'=>(i≠t->S w')/\mD P ops Q S t fuel (listed.setIfInBounds i CS) a' w') a w):mD P ops Q S t (fuel+1) listed a w :=
 ⟨λd=>M (c ▸ d) b,c ▸ h⟩
def MH{listed:N J}(b:AO .any ops listed=[])(h:Q .normal a w):∀fuel,mD P ops Q S t fuel listed a w
 |0=>⟨b,h⟩
 |_+1=>⟨λ_=>h,by rw[b];simp⟩
def gG(he:(match ops[t]? with|some o=>o.after.toList.any λe=>BI .any e&&e.on.beq i|none=>CS)=CS)(listed:N J)(hl:listed.getD i CS=CT):t ∉ AO .any ops listed:=λa=>by
 obtain⟨_,o2,h2,td⟩:=BQ.1 a
 grind [List.any_eq_true,BW]
theorem ag7{E:Env P}{o:r}{s:MS}{K:Act->U->Prop}(g:ops[i]? =CW o)(h:cV E ops.toList (λ_=>D) [o] s (λs'=>∀c a w,St S0 w0 s' c a w->K a w))(f:St S0 w0 s c a w):wpOp P ops Q i K a w:=by
 have:=cG (ops:=ops) (Q:=λe a w=>match e with|.normal=>K a w|e=>Q e a w) (λ_ _ _ _ h=>h.elim) [o] s _ c a w h f (λs' c' a' w' q d _=>q c' a' w' d);unfold wpList at this;unfold wpOp;rw[g];dsimp only;split
 .rename_i b;rw[x b]at this;exact this.imp (λh=>vT (λa1 w1 h=>h) (λh=>h) (λ_ _ _ h=>h) _ h) λh=>⟨h.1,h.2⟩
 .rename_i b;rw[F b]at this;exact this
end
def TD(f:Func)(id:Z):N r:=match f.body with
 |some c=>(match my id c with
  |some x=>x
  |none=>#[])
 |none=>#[]
noncomputable def wO:N r:=TD A9 39
noncomputable def wL(k:Z):V r:=match aQ wO.toList k with
 |some o=> [o]
 |none=> []
def sW(s:ab)(m:W):MV:= .st [.int .i64 s.kind,.st [.bool s.neg,.val m],.bs 2 0 s.parts.length,.bs 3 0 s.base.length,.st [.aa s.ca 200,.aa s.cb 200,.aa s.cm 200],.st [.aa s.x 200,.aa s.y 200,.bool s.inf],.aa s.ord 200]
def wT(s:ab)(n i:Z):V (Z×MV):=[(7,.bp 4 0),(5,.bs 1 0 n),(6,.int .i64 i),(175,.bool s.neg),(179,.ws s.ah)]
def wX(s:ab)(L:V ab)(pv bv:Z->W)(st pt y:Y)(m:W):V aq:=g! L pv bv s st pt y++[⟨CT,.one (sW s m)⟩]
def wS(T:V (Z×MV))(s:ab)(L:V ab)(pv bv:Z->W)(st pt y:Y)(m:W)(X:V aq):MS:=⟨190,T,wX s L pv bv st pt y m++X,5⟩
def wA(l:V Y):aq:=⟨CT,.arr .u32 l⟩
section
variable (s:ab) (L:List ab) (pv bv:Nat->Value) (n i:Nat) (st pt y:Int) (m:Value) (K:MS->Prop)
def amQ(T:V (Z×MV)):K (wS ((176,.bs 5 0 0)::T) s L pv bv st pt y m [wA []])=cV (aK [] aC) wO.toList (λ_=>D) (wL 3) (wS T s L pv bv st pt y m []) K:=by kernel_rfl
def alq(T:V (Z×MV))(b:aq):K (wS ((176,.bs 6 0 0)::T) s L pv bv st pt y m [b,wA []])=cV (aK [] aC) wO.toList (λ_=>D) (wL 3) (wS T s L pv bv st pt y m [b]) K:=by kernel_rfl
def amS(T:V (Z×MV)):K (wS ((181,.bs 5 0 1)::T) s L pv bv st pt y m [wA [0]])=cV (aK [] aC) wO.toList (λ_=>D) (wL 8) (wS T s L pv bv st pt y m []) K:=by kernel_rfl
def TJ(T:V (Z×MV))(b:aq):K (wS ((181,.bs 6 0 1)::T) s L pv bv st pt y m [b,wA [0]])=cV (aK [] aC) wO.toList (λ_=>D) (wL 8) (wS T s L pv bv st pt y m [b]) K:=by kernel_rfl
def wP(k:Z):Prop:=k*4<=140737488355328
def amR:((0<=0/\wP (0+s.ah.length))/\K (wS ((180,.bs 5 0 (0+s.ah.length))::(176,.any)::wT s n i) s L pv bv st pt y m [wA s.ah]))=cV (aK [] aC) wO.toList (λ_=>D) (wL 7) (wS ((176,.bs 5 0 0)::wT s n i) s L pv bv st pt y m [wA []]) K:=by kernel_rfl
def alr:((0<=0/\wP (0+s.ah.length))/\K (wS ((180,.bs 5 0 (0+s.ah.length))::(181,.bs 6 0 1)::(176,.any)::wT s n i) s L pv bv st pt y m [wA s.ah,wA [0]]))=cV (aK [] aC) wO.toList (λ_=>D) (wL 7) (wS ((181,.bs 6 0 1)::(176,.bs 5 0 0)::wT s n i) s L pv bv st pt y m [wA [],wA [0]]) K:=by kernel_rfl
def als:((0<=0/\wP (0+s.ah.length))/\K (wS ((180,.bs 6 0 (0+s.ah.length))::(176,.any)::(181,.bs 5 0 1)::wT s n i) s L pv bv st pt y m [wA [0],wA s.ah]))=cV (aK [] aC) wO.toList (λ_=>D) (wL 7) (wS ((176,.bs 6 0 0)::(181,.bs 5 0 1)::wT s n i) s L pv bv st pt y m [wA [0],wA []]) K:=by kernel_rfl
def amT:((0+1<=1/\s.ah.length<=s.ah.length/\wP (s.ah.length+1))/\K (wS ((182,.bs 5 0 (s.ah.length+1))::(180,.any)::(181,.bs 6 0 1)::wT s n i) s L pv bv st pt y m [wA (s.ah.take s.ah.length++[0]),wA [0]]))=cV (aK [] aC) wO.toList (λ_=>D) (wL 9) (wS ((180,.bs 5 0 s.ah.length)::(181,.bs 6 0 1)::wT s n i) s L pv bv st pt y m [wA s.ah,wA [0]]) K:=by kernel_rfl
def alu:((0+1<=1/\s.ah.length<=s.ah.length/\wP (s.ah.length+1))/\K (wS ((182,.bs 6 0 (s.ah.length+1))::(180,.any)::(181,.bs 5 0 1)::wT s n i) s L pv bv st pt y m [wA [0],wA (s.ah.take s.ah.length++[0])]))=cV (aK [] aC) wO.toList (λ_=>D) (wL 9) (wS ((180,.bs 6 0 s.ah.length)::(181,.bs 5 0 1)::wT s n i) s L pv bv st pt y m [wA [0],wA s.ah]) K:=by kernel_rfl
def wN(s:ab)(e:Z):MV:= .st [.bool s.neg,.bs e 0 (s.ah.length+1)]
def aln(e:Z)(b b':aq):K (wS ((183,wN s e)::(182,.bs e 0 (s.ah.length+1))::wT s n i) s L pv bv st pt y m [b,b'])=cV (aK [] aC) wO.toList (λ_=>D) (wL 10) (wS ((182,.bs e 0 (s.ah.length+1))::wT s n i) s L pv bv st pt y m [b,b']) K:=by kernel_rfl
def alo(e:Z)(b b':aq):K (wS ((184,.bp 4 (0+1))::(183,wN s e)::wT s n i) s L pv bv st pt y m [b,b'])=cV (aK [] aC) wO.toList (λ_=>D) (wL 11) (wS ((183,wN s e)::wT s n i) s L pv bv st pt y m [b,b']) K:=by kernel_rfl
def sE(s:ab)(e:Z):MV:= .st [.int .i64 s.kind,wN s e,.bs 2 0 s.parts.length,.bs 3 0 s.base.length,.st [.aa s.ca 200,.aa s.cb 200,.aa s.cm 200],.st [.aa s.x 200,.aa s.y 200,.bool s.inf],.aa s.ord 200]
def alp(e:Z)(b b':aq):K ⟨190,(184,.bp 4 (0+1))::(183,wN s e)::wT s n i,g! L pv bv s st pt y++⟨CT,.one (sE s e)⟩::[b,b'],5⟩=cV (aK [] aC) wO.toList (λ_=>D) (wL 12) (wS ((184,.bp 4 (0+1))::(183,wN s e)::wT s n i) s L pv bv st pt y m [b,b']) K:=by kernel_rfl
end
def Mem.apL{bx:V aq}(h:Mem S0 w0 bx c w){bc bc':BC}(k:aQ bx i=CW ⟨CT,bc⟩)(d:bc'.wd=bc.wd)(f:∀arr ty,c.live i->w.heap[c.β i]? =CW (.cells arr ty (0,0))->gI c w bc arr->gI c w bc' arr):Mem S0 w0 (aV bx i ⟨CT,bc'⟩) c w:=by
 by_cases v:c.live i
 .have l:=iZ k;have e:aQ (aV bx i ⟨CT,bc'⟩) i=CW ⟨CT,bc'⟩:=by rw[bL,x ⟨rfl,l⟩]
  refine⟨h.ext,h.fl,h.gl,h.hS,λb=>(h.hW b).trans ?_,h.inj,λj a=>by rw[bY];exact h.fresh j a,λj b a g=>?_,h.bz⟩
  .grind [bL]
  .by_cases o:i=j
   .subst o;rw[e]at g;obtain rfl:=AV g;obtain⟨arr,ty,q1,u,r,p⟩:=h.box i _ a k;exact⟨arr,ty,q1,u,by rw[r];exact d.symm,f arr ty a q1 p⟩
   .rw[bL,F (λq=>o q.1)]at g;exact h.box j b a g
 .exact h.nq k d λ_ h=>M h v
def aiF{P:CY}{T f off off' a:Z}(b:cU P T f (.bp 0 off)= .val CU (.bp 0 off')):(Instr.fieldAt T (.pointer (CW ⟨a,off,CU⟩)) f).run P w= .ok (.pointer (CW ⟨a,off',CU⟩)) w:=by
 obtain⟨u,e,d⟩:=uL (c:=⟨λ_=>D,λ_=>D,λ_=>R,λ_=>a,λ_=>⟨0,0⟩⟩) (w:=w) b (aS rfl (by simp) rfl ⟨⟨⟩,rfl⟩);rw[e,(eN d).2]
def mE{s:MS}{K:Act->U->Prop}(b:(wL k).length.beq 1=CS)(h:cV (aK [] aC) wO.toList (λ_=>D) (wL k) s (λs'=>∀c a w,St S0 w0 s' c a w->K a w))(hs:St S0 w0 s c a w):wpOp AA wO Q k K a w:=by
 cases d:aQ wO.toList k with
 |none=>unfold wL at b;rw[d]at b;exact M b (by decide)
 |some o =>
  grind [wL,ag7,bU]
def mC{L:V ab}{pv bv:Z->W}{st pt y:Y}{m:W}{T:V (Z×MV)}{X:V aq}(u:B.bz 4 b z)(h:St S2 B (wS T s L pv bv st pt y m X) c a w):da w b 1 [.bool s.neg,m]:=by
 obtain⟨r,q,_⟩:=h.mem.bz 4 b z u;obtain⟨arr,ty,q1,_,_,cs,p,q5⟩:=h.mem.box 4 ⟨CT,.one (sW s m)⟩ r rfl;rw[q]at q1;obtain⟨k,y1,rfl,e,x2,y2,rfl,o,_⟩:=p;have e:k=[.int .i64 s.kind]:=e;subst e;obtain⟨g,y3,rfl,d,f,y4,rfl,l,r5⟩:=o;have d:g=[.bool s.neg]:=d;subst d;obtain⟨rfl,_⟩:f=[m]/\_:=l;exact⟨arr,ty,_,q1,λj v hv=>by
  grind⟩
def ap1 : Oper := ⟨some 173, .fieldAddr 47 (.tmp 7) 1, 0, "law.go:97", #[], none⟩
def ap2 : Oper := ⟨some 174, .fieldAddr 39 (.tmp 173) 0, 0, "law.go:97", #[⟨0, .data⟩], none⟩
def ap3 : Oper := ⟨some 175, .load 4 (.tmp 174), 4, "law.go:97", #[⟨1, .data⟩], none⟩
def ap4 : Oper := ⟨some 177, .fieldAddr 47 (.tmp 7) 1, 0, "law.go:97", #[], none⟩
def ap5 : Oper := ⟨some 178, .fieldAddr 39 (.tmp 177) 1, 0, "law.go:97", #[⟨4, .data⟩], none⟩
def ap6 : Oper := ⟨some 179, .load 37 (.tmp 178), 37, "law.go:97", #[⟨5, .data⟩], none⟩
def s0:(wO[0]? =CW ap1/\wO[1]? =CW ap2/\wO[2]? =CW ap3)/\wO[4]? =CW ap4/\wO[5]? =CW ap5/\wO[6]? =CW ap6:=⟨⟨by kernel_rfl,by kernel_rfl,by kernel_rfl⟩,by kernel_rfl,by kernel_rfl,by kernel_rfl⟩
def sr:BN wO=CS:=by kernel_rfl
def alw:wO.size=13:=by kernel_rfl
def Hs{S:U->Prop}{t T f off off':Z}{d:CX Z}{ty:DC}{pos:String}{g:N Edge}(c:cU AA T f (.bp 0 off)= .val CU (.bp 0 off'))(e:a.tmps.getD t undef= .pointer (CW ⟨b,off,CU⟩)):YieldsIf AA wO S ⟨d,.fieldAddr T (.tmp t) f,ty,pos,g,CU⟩ (.pointer (CW ⟨b,off',CU⟩)) a :=
 .inl ⟨by simp[A7],λw _=>by
  have:a.eval (.tmp t)= .pointer (CW ⟨b,off,CU⟩):=e;simp only[execOp,this];simp[aiF c]⟩
def UJ{S:U->Prop}{t T off:Z}{d:CX Z}{ty:DC}{pos:String}{h:N Edge}{v:W}(e:eA AA T=CW (CT,1))(f:a.tmps.getD t undef= .pointer (CW ⟨b,off,CU⟩))(g:∀w,S w->da w b off [v]):YieldsIf AA wO S ⟨d,.load T (.tmp t),ty,pos,h,CU⟩ v a :=
 .inl ⟨by simp[A7],λw c=>by
  have:a.eval (.tmp t)= .pointer (CW ⟨b,off,CU⟩):=f;simp only[execOp,this];simp[lK e (g w c) rfl (λ_=>rfl),rY]⟩
def wl(a b c d:J)(n:J):N J:=#[CS,CS,CS,a,CS,CS,CS,b,c,d,n,n,CT]
set_option maxRecDepth 100000 in
def Ur{L:V ab}{pv bv:Z->W}{n:Z}{st pt y:Y}{m:W}{e g:Z}{b b':aq}(l:B.bz 4 g z)(q:∀c a w,St S2 B ⟨190,(184,.bp 4 (0+1))::(183,wN s e)::wT s n i,g! L pv bv s st pt y++⟨CT,.one (sE s e)⟩::[b,b'],5⟩ c a w->Q .normal a w)(h:St S2 B (wS ((182,.bs e 0 (s.ah.length+1))::wT s n i) s L pv bv st pt y m [b,b']) c a w):mD AA wO Q (λw=>da w g 1 [.bool s.neg,m]) 12 3 (wl CS CS CS CS CT) a w:=by
 refine eF (rs:=[10]) (by kernel_rfl) (by simp) λj f=>?_;obtain rfl:j=10:=by simpa using f
 refine mE (k:=10) (by kernel_rfl) (cast (aln s L pv bv n i st pt y m _ e b b') λc1 a1 w1 d=>⟨λ_=>mC l d,?_⟩) h;refine eF (rs:=[11]) (by kernel_rfl) (by simp) λj f=>?_;obtain rfl:j=11:=by simpa using f
 refine mE (k:=11) (by kernel_rfl) (cast (alo s L pv bv n i st pt y m _ e b b') λc2 a2 w2 o=>⟨λ_=>mC l o,?_⟩) (d.re ((183,wN s e)::wT s n i) _ d.mem (fa (d.tm 183) (fa (d.tm 7) (fa (d.tm 5) (fa (d.tm 6) (fa (d.tm 175) (fa (d.tm 179) f0)))))));refine eF (rs:=[12]) (by kernel_rfl) (by simp) λj f=>?_;obtain rfl:j=12:=by simpa using f
 refine mE (k:=12) (by kernel_rfl) (cast (alp s L pv bv n i st pt y m _ e b b') λu v p r=>⟨λh=>M rfl h,?_⟩) o;exact MH (by kernel_rfl) (q u v p r) 0
set_option maxRecDepth 100000 in
def V?{L:V ab}{pv bv:Z->W}{n:Z}{st pt y:Y}{m:W}{f:Z}(g:B.bz 4 f z)(l:s.ah.length<=5)(r:∀e b b' c a w,St S2 B ⟨190,(184,.bp 4 (0+1))::(183,wN s e)::wT s n i,g! L pv bv s st pt y++⟨CT,.one (sE s e)⟩::[b,b'],5⟩ c a w->5<=e->(c.live e->dn c w e (wA (s.ah++[0])))->Q .normal a w)(h:St S2 B (wS ((180,.bs 5 0 s.ah.length)::(181,.bs 6 0 1)::wT s n i) s L pv bv st pt y m [wA s.ah,wA [0]]) c a w):mD AA wO Q (λw=>da w f 1 [.bool s.neg,m]) 12 4 (wl CS CS CS CT CT) a w:=by
 refine eF (rs:=[9]) (by kernel_rfl) (by simp) λj q=>?_;obtain rfl:j=9:=by simpa using q
 refine mE (k:=9) (by kernel_rfl) (cast (amT s L pv bv n i st pt y m _) ⟨⟨Z0 _,Z0 _,by unfold wP;omega⟩,λc1 a1 w1 d=>⟨λ_=>mC g d,?_⟩⟩) h;rw[AB (Z0 _)]at d;exact Ur g (λu v p o=>r 5 _ _ u v p o (by omega) λl=>o.mem.box 5 _ l rfl) (d.re ((182,.bs 5 0 (s.ah.length+1))::wT s n i) _ d.mem (fa (d.tm 182) (fa (d.tm 7) (fa (d.tm 5) (fa (d.tm 6) (fa (d.tm 175) (fa (d.tm 179) f0)))))))
set_option maxRecDepth 100000 in
def amp{L:V ab}{pv bv:Z->W}{n:Z}{st pt y:Y}{m:W}{f:Z}(g:B.bz 4 f z)(l:s.ah.length<=5)(r:∀e b b' c a w,St S2 B ⟨190,(184,.bp 4 (0+1))::(183,wN s e)::wT s n i,g! L pv bv s st pt y++⟨CT,.one (sE s e)⟩::[b,b'],5⟩ c a w->5<=e->(c.live e->dn c w e (wA (s.ah++[0])))->Q .normal a w)(h:St S2 B (wS ((180,.bs 6 0 s.ah.length)::(181,.bs 5 0 1)::wT s n i) s L pv bv st pt y m [wA [0],wA s.ah]) c a w):mD AA wO Q (λw=>da w f 1 [.bool s.neg,m]) 12 4 (wl CS CS CS CT CT) a w:=by
 refine eF (rs:=[9]) (by kernel_rfl) (by simp) λj q=>?_;obtain rfl:j=9:=by simpa using q
 refine mE (k:=9) (by kernel_rfl) (cast (alu s L pv bv n i st pt y m _) ⟨⟨Z0 _,Z0 _,by unfold wP;omega⟩,λc1 a1 w1 d=>⟨λ_=>mC g d,?_⟩⟩) h;rw[AB (Z0 _)]at d;exact Ur g (λu v p o=>r 6 _ _ u v p o (by omega) λl=>o.mem.box 6 _ l rfl) (d.re ((182,.bs 6 0 (s.ah.length+1))::wT s n i) _ d.mem (fa (d.tm 182) (fa (d.tm 7) (fa (d.tm 5) (fa (d.tm 6) (fa (d.tm 175) (fa (d.tm 179) f0)))))))
set_option maxRecDepth 100000 in
def amU{L:V ab}{pv bv:Z->W}{n:Z}{st pt y:Y}{m:W}{x:Z}(g:B.bz 4 x z)(u:s.ah.length<=5)(v:∀e b b' c a w,St S2 B ⟨190,(184,.bp 4 (0+1))::(183,wN s e)::wT s n i,g! L pv bv s st pt y++⟨CT,.one (sE s e)⟩::[b,b'],5⟩ c a w->5<=e->(c.live e->dn c w e (wA (s.ah++[0])))->Q .normal a w)(h:St S2 B (wS (wT s n i) s L pv bv st pt y m []) c a w):mD AA wO Q (λw=>da w x 1 [.bool s.neg,m]) 12 7 (wl CT CT CT CT CT) a w:=by
 have r:wP (0+s.ah.length):=by unfold wP;omega
 have q:0+s.ah.length=s.ah.length:=AQ _;refine eF (rs:=[3,8]) (by kernel_rfl) (by simp) λj f=>?_;have f:j=3\/j=8:=by simpa using f
 rcases f with rfl|rfl
 .refine mE (k:=3) (by kernel_rfl) (cast (amQ s L pv bv st pt y m _ _) λo p l d=>⟨λ_=>mC g d,?_⟩) h;refine eF (rs:=[7,8]) (by kernel_rfl) (by simp) λj f=>?_;have f:j=7\/j=8:=by simpa using f
  rcases f with rfl|rfl
  .refine mE (k:=7) (by kernel_rfl) (cast (amR s L pv bv n i st pt y m _) ⟨⟨Z0 _,r⟩,λo p l d=>⟨λ_=>mC g d,?_⟩⟩) d;rw[q]at d;refine eF (rs:=[8]) (by kernel_rfl) (by simp) λj f=>?_;obtain rfl:j=8:=by simpa using f
   refine mE (k:=8) (by kernel_rfl) (cast (TJ s L pv bv st pt y m _ _ _) λo p l d=>⟨λ_=>mC g d,?_⟩) d;exact V? g u v (d.re _ _ d.mem (fa (d.tm 180) (fa (d.tm 181) (fa (d.tm 7) (fa (d.tm 5) (fa (d.tm 6) (fa (d.tm 175) (fa (d.tm 179) f0))))))))
  .refine mE (k:=8) (by kernel_rfl) (cast (TJ s L pv bv st pt y m _ _ _) λo p l d=>⟨λ_=>mC g d,?_⟩) d;refine eF (rs:=[7]) (by kernel_rfl) (by simp) λj f=>?_;obtain rfl:j=7:=by simpa using f
   refine mE (k:=7) (by kernel_rfl) (cast (alr s L pv bv n i st pt y m _) ⟨⟨Z0 _,r⟩,λo p l d=>⟨λ_=>mC g d,?_⟩⟩) d;rw[q]at d;exact V? g u v (d.re _ _ d.mem (fa (d.tm 180) (fa (d.tm 181) (fa (d.tm 7) (fa (d.tm 5) (fa (d.tm 6) (fa (d.tm 175) (fa (d.tm 179) f0))))))))
 .refine mE (k:=8) (by kernel_rfl) (cast (amS s L pv bv st pt y m _ _) λo p l d=>⟨λ_=>mC g d,?_⟩) h;refine eF (rs:=[3]) (by kernel_rfl) (by simp) λj f=>?_;obtain rfl:j=3:=by simpa using f
  refine mE (k:=3) (by kernel_rfl) (cast (alq s L pv bv st pt y m _ _ _) λo p l d=>⟨λ_=>mC g d,?_⟩) d;refine eF (rs:=[7]) (by kernel_rfl) (by simp) λj f=>?_;obtain rfl:j=7:=by simpa using f
  refine mE (k:=7) (by kernel_rfl) (cast (als s L pv bv n i st pt y m _) ⟨⟨Z0 _,r⟩,λo p l d=>⟨λ_=>mC g d,?_⟩⟩) d;rw[q]at d;exact amp g u v (d.re _ _ d.mem (fa (d.tm 180) (fa (d.tm 181) (fa (d.tm 7) (fa (d.tm 5) (fa (d.tm 6) (fa (d.tm 175) (fa (d.tm 179) f0))))))))
set_option maxRecDepth 100000 in
def apD{S2:C1->Prop}{bv:C1->C3}{i:C1}{st pt y:C9}{w:C4}{Q:Exit->Act->C4->Prop}(ho:ops.toList=wO.toList)(hl:s.ah.length<=5)(hB:∀i b z,B.bz i b z->i=1)(j:∀ch a d v w,Q (.panic ch) (AU a d v) w->Q (.panic ch) a w)(h:St S2 B (fm s L pv bv i st pt y 14) c a w)(hQ:∀e b b' c a w,St S2 B ⟨190, [(5,.bs 1 0 L.length),(6,.int .i64 i),(7,.bp 4 0)],g! L pv bv s st pt y++⟨CT,.one (sE s e)⟩::[b,b'],2⟩ c a w->5<=e->(c.live e->dn c w e (wA (s.ah++[0])))->Q .normal a w):(Code.region 39 ops CS).wp AA Q a w:=by
 obtain rfl:ops=wO:=CL ho;have J:=(eN (h.tm 7)).1;have e7:=(eN (h.tm 7)).2;obtain⟨arr,ty,q1,_,_,cs,q4,q5⟩:=h.mem.box 4 ⟨CT,.one (sM s)⟩ J rfl;obtain⟨m,hm,o⟩:∃m,arr[2]? =CW m/\gu c w s.ah m:=by
  obtain⟨G,y1,rfl,u,x2,y2,rfl,I,_⟩:=q4;have u:G=[.int .i64 s.kind]:=u;subst u;obtain⟨F,y3,rfl,r,x4,y4,rfl,H,Z⟩:=I;have r:F=[.bool s.neg]:=r;subst r;obtain⟨m,rfl,C⟩:=H
  simp_all
 have N:m.oneCell'=CS:=by
  obtain⟨x,y,e,_⟩:=o;rw[e];rfl
 have hM:=h.mem.apL (i:=4) (bc:= .one (sM s)) (bc':= .one (sW s m)) rfl rfl (λec ko _ e hc=>by
  rw[q1]at e;simp only[Z1,Obj.cells.injEq]at e;obtain⟨rfl,_⟩:=e;obtain⟨cs,h1,h2⟩:=hc;obtain⟨G,y1,rfl,u,x2,y2,rfl,I,r6⟩:=h1;have u:G=[.int .i64 s.kind]:=u;subst u;obtain⟨F,y3,rfl,r,x4,y4,rfl,H,Z⟩:=I;have r:F=[.bool s.neg]:=r;subst r;obtain⟨m',rfl,C⟩:=H;have M:m'=m:=by
   simp_all
  subst M;exact⟨_,⟨_,_,rfl,rfl,_,_,rfl,⟨_,_,rfl,rfl, [m'],_,rfl,⟨rfl,N⟩,Z⟩,r6⟩,h2⟩)
 let B5:ck:=⟨B.w,B.X,λk q z=>B.bz k q z\/(k=4/\q=c.β 4/\z=c.sz 4),B.df⟩
 have hp:B5.bz 4 (c.β 4) (c.sz 4):= .inr ⟨rfl,rfl,rfl⟩;have R:Mem S2 B5 (wX s L pv bv st pt y m) c w:=hM.x? _ _ λk q z l=>l.elim (hM.bz k q z) λ⟨e1,e2,e3⟩=>by rw[e1,e2,e3];exact⟨J,rfl,rfl⟩
 have g:St S2 B5 (wS [(7,.bp 4 0),(5,.bs 1 0 L.length),(6,.int .i64 i)] s L pv bv st pt y m []) c a w:=⟨R,so _ (fa (h.tm 7) (fa (h.tm 5) (fa (h.tm 6) f0))),h.size,h.defers,λk q z l=>by
  rcases l with l|⟨rfl,_⟩
  .rw[hB k q z l];exact(show nI 5 1=CS from jL (by decide) (by omega))
  .exact(show nI 5 4=CS from jL (by decide) (by omega))⟩
 have e:Ext w { w with drawn:=w.drawn+1 }:=⟨rfl,rfl,Z0 _,λ_ _=>rfl,λ_ _=>rfl,rfl,Z9 _⟩;obtain⟨O,D⟩:=g.mem.grow e;have g:=g.iw D O rfl rfl rfl;have o:=(show aj c w (.ws s.ah) [m] from ⟨m,rfl,o⟩).bu D;refine wp_region_any bQ (y9 (S:=λw=>da w (c.β 4) 1 [.bool s.neg,m]) (t:=12) _ _ _ _ ?_);rw[alw];generalize ({ w with drawn:=w.drawn+1 }:C4)=T at *;have A:da T (c.β 4) 1 [.bool s.neg,m]:=mC hp g;have E:∀k,af c T (.bp 4 k) (.pointer (CW ⟨c.β 4,k,CU⟩)):=λk=>aS rfl (by simp) rfl ⟨J,rfl⟩;have Y:=g.b5 (t:=some 173) rfl (E 1);have s2:=Y.b5 (t:=some 174) rfl (E 1);have W:=s2.b5 (t:=some 175) (m:= .bool s.neg) (v:= .bool s.neg) rfl (eU _);have V:=W.b5 (t:=some 177) rfl (E 1);have U:=V.b5 (t:=some 178) rfl (E 2);have p:=U.b5 (t:=some 179) (m:= .ws s.ah) (v:=m) rfl (aS rfl (by simp) rfl o);refine cY (i:=0) s0.1.1 sr (by kernel_rfl) (by kernel_rfl) (λ_ _ _ h=>j _ _ _ _ _ h) (gG (by kernel_rfl)) (by decide) (Hs (off':=1) rfl (eN (g.tm 7)).2) A ?_;refine cY (i:=1) s0.1.2.1 sr (by kernel_rfl) (by kernel_rfl) (λ_ _ _ h=>j _ _ _ _ _ h) (gG (by kernel_rfl)) (by decide) (Hs (off':=1) rfl (eN (Y.tm 173)).2) A ?_;refine cY (i:=2) s0.1.2.2 sr (by kernel_rfl) (by kernel_rfl) (λ_ _ _ h=>j _ _ _ _ _ h) (gG (by kernel_rfl)) (by decide) (UJ (v:= .bool s.neg) rfl (eN (s2.tm 174)).2 λw C=>by have:=Cx C 0 (.bool s.neg) rfl;exact this) A ?_;refine cY (i:=4) s0.2.1 sr (by kernel_rfl) (by kernel_rfl) (λ_ _ _ h=>j _ _ _ _ _ h) (gG (by kernel_rfl)) (by decide) (Hs (off':=1) rfl (eN (W.tm 7)).2) A ?_;refine cY (i:=5) s0.2.2.1 sr (by kernel_rfl) (by kernel_rfl) (λ_ _ _ h=>j _ _ _ _ _ h) (gG (by kernel_rfl)) (by decide) (Hs (off':=2) rfl (eN (V.tm 177)).2) A ?_;refine cY (i:=6) s0.2.2.2 sr (by kernel_rfl) (by kernel_rfl) (λ_ _ _ h=>j _ _ _ _ _ h) (gG (by kernel_rfl)) (by decide) (UJ (v:=m) rfl (eN (U.tm 178)).2 λw C=>by have:=Cx C 1 m rfl;exact this) A ?_;refine amU (i:=i) (n:=L.length) hp hl (λe b b' c' a' w' f he hb=>?_) (p.re (wT s L.length i) _ p.mem (fa (p.tm 7) (fa (p.tm 5) (fa (p.tm 6) (fa (p.tm 175) (fa (p.tm 179) f0))))));refine hQ e b b' c' a' w' ⟨⟨⟨f.mem.ext.os,f.mem.ext.output,f.mem.ext.size,f.mem.ext.block,f.mem.ext.cz,f.mem.ext.tape,f.mem.ext.dr⟩,f.mem.fl,f.mem.gl,f.mem.hS,f.mem.hW,f.mem.inj,f.mem.fresh,f.mem.box,λk q z l=>f.mem.bz k q z (.inl l)⟩,so _ (fa (f.tm 5) (fa (f.tm 6) (fa (f.tm 7) f0))),f.size,f.defers,λk q z l=>?_⟩ he hb;rw[hB k q z l];exact(show nI 2 1=CS from jL (by decide) (by omega))
end
noncomputable def dO:N r:=TD A9 7
def ana : Oper := ⟨none, .move (.tmp 0), 0, "", #[], none⟩
def ia(k:Z):r:=(aQ dO.toList k).getD ana
def oe:BN dO=CS:=by kernel_rfl
def aiB:dO.size=10:=by kernel_rfl
structure jz (k:Nat) (d:Nat) (op:Op):Prop where
 at_:dO[k]? =some (ia k)
 dst:(ia k).dst=some d
 ts:(ia k).op=op
 gd:(ia k).guard=none
def d0:jz 0 27 (.move (.tmp 5)):=⟨by kernel_rfl,by kernel_rfl,by kernel_rfl,by kernel_rfl⟩
def d1:jz 1 28 (.move (.tmp 6)):=⟨by kernel_rfl,by kernel_rfl,by kernel_rfl,by kernel_rfl⟩
def d2:jz 2 29 (.move (.tmp 6)):=⟨by kernel_rfl,by kernel_rfl,by kernel_rfl,by kernel_rfl⟩
def d3:jz 3 30 (.slice 29 (.tmp 27) CU (CW (.tmp 28)) (CW (.tmp 29))):=⟨by kernel_rfl,by kernel_rfl,by kernel_rfl,by kernel_rfl⟩
def d4:jz 4 31 (.move (.tmp 5)):=⟨by kernel_rfl,by kernel_rfl,by kernel_rfl,by kernel_rfl⟩
def d5:jz 5 32 (.move (.tmp 6)):=⟨by kernel_rfl,by kernel_rfl,by kernel_rfl,by kernel_rfl⟩
def d6:jz 6 33 (.binOp .add 3 (.tmp 32) (.const (.int .i64 1)) 3):=⟨by kernel_rfl,by kernel_rfl,by kernel_rfl,by kernel_rfl⟩
def d7:jz 7 34 (.slice 29 (.tmp 31) (CW (.tmp 33)) CU CU):=⟨by kernel_rfl,by kernel_rfl,by kernel_rfl,by kernel_rfl⟩
def d8:jz 8 35 (.call ⟨.builtin .append,#[.tmp 30,.tmp 34],#[29,29]⟩):=⟨by kernel_rfl,by kernel_rfl,by kernel_rfl,by kernel_rfl⟩
def d9:jz 9 4 (.assign (.tmp 35)):=⟨by kernel_rfl,by kernel_rfl,by kernel_rfl,by kernel_rfl⟩
def oz{S:U->Prop}{d:Z}{op:Op}(h:jz k d op){v:W}(b:∀w,(execOp a.eval (ia k)).run AA w= .ok (.value v) w):YieldsIf AA dO S (ia k) v a:= .inl ⟨by simp[A7,h.gd],λw _=>b w⟩
def ve{d:Z}{x:Operand}(h:jz k d (.move x))(a:Act)(w:U):(execOp a.eval (ia k)).run AA w= .ok (.value (a.eval x)) w:=by
 simp only[execOp,h.ts];simp
def RL{d:Z}{t:DC}{x:Operand}{c e b:CX Operand}(h:jz k d (.slice t x c e b)){v:W}(f:(Instr.sliceAt t (a.eval x) (c.map a.eval) (e.map a.eval) (b.map a.eval)).run AA w= .ok v w):(execOp a.eval (ia k)).run AA w= .ok (.value v) w:=by
 simp only[execOp,h.ts];simp[f]
def amV{n:Y}(b:a.tmps.getD 32 undef= .int .i64 n):(execOp a.eval (ia 6)).run AA w= .ok (.value (.int .i64 (i64.wrap (n+1)))) w:=by
 have e:a.eval (.tmp 32)= .int .i64 n:=b;have g:a.eval (.const (.int .i64 1))= .int .i64 1:=rfl;obtain⟨z,d,f⟩:=PL (P:=AA) (op:= .add) (t:=3) (x:= .int .i64 n) (y:= .int .i64 1) (p:=none) (m:= .int .i64 (i64.wrap (n+1))) rfl trivial (c:=BB λ_=>D) (w:=w) (cE _ _) (cE _ _);rw[cK f]at d;simp only[execOp,d6.ts,e,g];rfl
def qS:Tryz.prog.underlying 29=CW (.slice 47):=by kernel_rfl
def amq{n cap:Z}(g:a.tmps.getD 27 undef= .slice (CW ⟨b,0,CU⟩) n cap)(f:a.tmps.getD 28 undef= .int .i64 i)(e:a.tmps.getD 29 undef= .int .i64 i)(hi:i<=cap:=by omega):(execOp a.eval (ia 3)).run AA w= .ok (.value (.slice (CW ⟨b,0,CU⟩) i i)) w:=by
 refine RL d3 ?_;have k:a.eval (.tmp 27)= .slice (CW ⟨b,0,CU⟩) n cap:=g;have j:a.eval (.tmp 28)= .int .i64 i:=f;have h:a.eval (.tmp 29)= .int .i64 i:=e;have c:Tryz.prog.underlying 29=CW (.slice (Tryz.prog.elem 29)):=by rw[lU qS];exact qS
 obtain⟨agg,size,d⟩:∃agg size,eA AA (Tryz.prog.elem 29)=CW (agg,size):=⟨CS,18,by rw[lU qS];kernel_rfl⟩;simp only[k,j,h,Option.map_some,Option.map_none];rw[run_sliceAt_slice (P:=AA) w 29 _ _ _ _ c,run_slice_hm (P:=AA) w 29 _ n cap c .i64 .i64 i i (by omega) (by omega) (by omega),bK d];simp[Result.andThen,sliced,Addr.add]
def amr{n cap:Z}(f:a.tmps.getD 31 undef= .slice (CW ⟨b,0,CU⟩) n cap)(e:a.tmps.getD 33 undef= .int .i64 ((i+1:Z):Y))(hi:i<n)(hc:n<=cap):(execOp a.eval (ia 7)).run AA w= .ok (.value (.slice (CW ⟨b,if cap=i+1 then 0 else (i+1)*18,CU⟩) (n-(i+1)) (cap-(i+1)))) w:=by
 refine RL d7 ?_;have h:a.eval (.tmp 31)= .slice (CW ⟨b,0,CU⟩) n cap:=f;have g:a.eval (.tmp 33)= .int .i64 ((i+1:Z):Y):=e;have c:Tryz.prog.underlying 29=CW (.slice (Tryz.prog.elem 29)):=by rw[lU qS];exact qS
 have d:eA AA (Tryz.prog.elem 29)=CW (CS,18):=by rw[lU qS];kernel_rfl
 simp only[h,g,Option.map_some,Option.map_none];rw[run_sliceAt_slice (P:=AA) w 29 _ _ _ _ c,run_slice_l (P:=AA) w 29 _ n cap c .i64 _ (by omega) (by omega),bK d,Z8];simp only[Result.andThen,sliced];split<;>simp[Addr.add]
def RW{n j:Z}(hi:i<n)(hj:j<n-1):(if j<i then j else j+1)<n:=by split<;>omega
def zh{t:Z}{v:W}(h:t<a.tmps.size):(a.put (CW t) v).tmps.getD t undef=v:=by
 simp[AU,Array.getD_eq_getD_getElem?,h]
def abX{t:Z}{v:W}:(a.put (CW t) v).tmps.size=a.tmps.size:=by simp[AU]
def TZ(c:Ctx)(L:V ab)(pv d:Z->W)(i:Z)(w w':U)(v:W):Prop :=
 ∃b cap,v= .slice b (L.length-1) cap/\L.length-1<=cap/\(0<L.length-1->∃b',b=CW ⟨b',0,CU⟩/\(b'=c.β 1\/w.heap.size<=b')/\
  ∀j,j<L.length-1->∃a,aj c.elem w (jX L pv d (if j<i then j else j+1)) a/\a.length=18/\da w' b' (j*18) a)
def al6{n cap:Z}{arr:N W}{ty:DC}(r:a.tmps.getD 30 undef= .slice (CW ⟨b,0,CU⟩) i i)(E:a.tmps.getD 34 undef= .slice (CW ⟨b,if cap=i+1 then 0 else (i+1)*18,CU⟩) (n-(i+1)) (cap-(i+1)))(hi:i<n)(hc:n<=cap)(hn:n<=1000000)(D:w.heap[b]? =CW (.cells arr ty (0,0)))(y:arr.size=cap*18) :
  ∃v w',(execOp a.eval (ia 8)).run AA w= .ok (.value v) w'/\Ext w w'/\∃B s6,v= .slice B (n-1) s6/\n-1<=s6/\(0<n-1->∃b',B=CW ⟨b',0,CU⟩/\(b'=b\/w.heap.size<=b')/\
   ∀j e,j<n-1->e.length=18->(∀(k:Z) u,e[k]? =CW u->arr[(if j<i then j else j+1)*18+k]? =CW u)->da w' b' (j*18) e):=by
 have A:a.eval (.tmp 30)= .slice (CW ⟨b,0,CU⟩) i i:=r;have p:a.eval (.tmp 34)= .slice (CW ⟨b,if cap=i+1 then 0 else (i+1)*18,CU⟩) (n-(i+1)) (cap-(i+1)):=E;obtain⟨c,f,g,x,q⟩:∃c,Tryz.prog.info? 47=CW c/\c.size=18/\c.bytes<=1000/\∃z,c.zero=CW z:=by
  have:(Tryz.prog.info? 47).map (λt=>(t.size,t.bytes,t.zero.isSome))=CW (18,288,CS):=by kernel_rfl
  cases h:Tryz.prog.info? 47 with
  |none=>rw[h]at this;simp at this
  |some c =>
   grind [Z1,Z2,Option.isSome_iff_exists]
 obtain⟨z,q⟩:=q;by_cases d:n-(i+1)=0
 .refine⟨.slice (CW ⟨b,0,CU⟩) i i,w,?_,Ext.refl w,CW ⟨b,0,CU⟩,i,by rw[show n-1=i by omega],by omega,λ_=>⟨b,rfl,.inl rfl,λj e C _ s=>⟨arr,ty,_,D,λk u o=>?_⟩⟩⟩
  .simp only[execOp,d8.ts];rw[d]at p;simp[resolve,invoke,builtin,A,p,nL (P:=AA) w 29 (ia 8).type 47 c qS f _ _ i i _ (Z0 i)]
  grind
 .have m:¬cap=i+1:=by omega
  rw[F m]at p;have an1:∀j u,arr[j]? =CW u->w.cell? ⟨b,j,CU⟩=CW u:=λj u o=>by
   unfold World.cell?
   simp_all
  have l:=run_append_grow (P:=AA) w 29 (ia 8).type 47 c z qS f q ⟨b,0,CU⟩ i i (arr.toList.take (i*18)) (by rw[g,AX,B1,y];have:i*18<=cap*18:=Nat.mul_le_mul_right _ (by omega);omega)
   (λj u o=>by
    grind [gO])
   ⟨b,(i+1)*18,CU⟩ (n-(i+1)) (cap-(i+1)) ((arr.toList.drop ((i+1)*18)).take ((n-(i+1))*18)) (by rw[g,AX,BO,B1,y];omega)
   (λj u o=>by
    grind [gO,BF]) (by omega) (by omega) (growslice_fits (by omega) (by
    have r:i+(n-(i+1))<=1000000:=by omega
    have:=BF r x;omega))
  have ara:=grownCap_ge w (i+(n-(i+1))) i 47;refine⟨_,_,by
   simp only[execOp,d8.ts];simp[resolve,invoke,builtin,A,p,l];exact⟨rfl,rfl⟩,(Ext.drew w).trans (Ext.alloc w.drew _ _),CW ⟨w.heap.size,0,CU⟩,_,by rw[show n-1=i+(n-(i+1)) by omega],by omega,λ_=>⟨w.heap.size,rfl,.inr (Z0 _),λj e C Lh s=>⟨_,_,_,dC w.drew _ _,λk u o=>?_⟩⟩⟩
  grind
set_option maxRecDepth 100000 in
set_option maxHeartbeats 4000000 in
def r7{S2:C1->Prop}{bv:C1->C3}{i:C1}{f pt y p:C9}{w:C4}{Q:Exit->Act->C4->Prop}(ho:ops.toList=dO.toList)(g:∀ch a d v w,Q (.panic ch) (AU a d v) w->Q (.panic ch) a w)(h:St S2 B (fm s L pv bv i f pt y p) c a w)(J:i<L.length)(H:L.length<=1000000)(hQ:∀a' w' v,a'.tmps.getD 4 undef=v->a'.defers=a.defers->Ext w w'->TZ c L pv bv i w w' v->Q .normal a' w'):(Code.region 7 ops CS).wp AA Q a w:=by
 obtain rfl:ops=dO:=CL ho;obtain⟨a0,cap,Z,z,X⟩:=iC (show af c w (.bs 1 0 L.length) (a.tmps.getD 5 undef) from h.tm 5);obtain⟨T,l1,hz⟩:a0=CW ⟨c.β 1,0,CU⟩/\c.live 1/\0+cap*(c.sz 1).wd=(c.sz 1).n:=X.elim id λh=>C8 h.2.1 (by omega);subst T;have Y:=cK (show af c w (.int .i64 i) (a.tmps.getD 6 undef) from h.tm 6);obtain⟨arr,ty,q1,q2,W,q4⟩:=h.mem.box 1 _ l1 rfl;have hs:arr.size=cap*18:=by
  have W:(c.sz 1).wd=18:=W
  simp_all
 have e:Ext w { w with drawn:=w.drawn+1 }:=⟨rfl,rfl,Z0 _,λ_ _=>rfl,λ_ _=>rfl,rfl,Z9 _⟩;have hh:({ w with drawn:=w.drawn+1 }:C4).heap[c.β 1]? =CW (.cells arr ty (0,0)):=q1;obtain⟨O,P⟩:=h.mem.grow e;have C:=h.iw P O rfl rfl rfl;refine wp_region_any bQ (y9 (S:=λ_=>True) (t:=9) _ _ _ _ ?_);rw[aiB];have N:({ w with drawn:=w.drawn+1 }:C4).heap.size=w.heap.size:=rfl;generalize ({ w with drawn:=w.drawn+1 }:C4)=b at *;have V:∀v:C3,v.oneCell'=CS->af c b (.val v) v:=λv hv=>aS rfl (by simp) rfl ⟨rfl,hv⟩;have x:=C.re [(5,.val (.slice (CW ⟨c.β 1,0,CU⟩) L.length cap)),(6,.val (.int .i64 i))] _ C.mem (fa (by rw[Z];exact V _ rfl) (fa (by rw[Y];exact V _ rfl) f0));have R:=h.defers;clear C h Z Y X;have ew:i64.wrap ((i:C9)+1)=((i+1:C1):C9):=by rw[aU (by omega) (by omega)];omega
 have E5:=(dS (show af c b (.val (.slice (CW ⟨c.β 1,0,CU⟩) L.length cap)) (AJ _ 5 undef) from x.tm 5)).1;have E6:=(dS (show af c b (.val (.int .i64 i)) (AJ _ 6 undef) from x.tm 6)).1;refine cY (i:=0) d0.at_ oe (by kernel_rfl) (by kernel_rfl) (λ_ _ _ h=>g _ _ _ _ _ h) (gG (by kernel_rfl)) (by decide) (oz d0 (v:= .slice (CW ⟨c.β 1,0,CU⟩) L.length cap) λw=>(ve d0 _ w).trans (by rw[show BG _ (.tmp 5)=_ from E5])) ⟨⟩ ?_;rw[d0.dst];have f:=x.b5 (t:=some 27) rfl (V (.slice (CW ⟨c.β 1,0,CU⟩) L.length cap) rfl);clear x
 revert f
 generalize AU _ (CW 27) _=a0;intro u;clear E5 E6;have E5:=(dS (show af c b (.val (.slice (CW ⟨c.β 1,0,CU⟩) L.length cap)) (AJ _ 5 undef) from u.tm 5)).1;have E6:=(dS (show af c b (.val (.int .i64 i)) (AJ _ 6 undef) from u.tm 6)).1;refine cY (i:=1) d1.at_ oe (by kernel_rfl) (by kernel_rfl) (λ_ _ _ h=>g _ _ _ _ _ h) (gG (by kernel_rfl)) (by decide) (oz d1 (v:= .int .i64 i) λw=>(ve d1 _ w).trans (by rw[show BG _ (.tmp 6)=_ from E6])) ⟨⟩ ?_;rw[d1.dst];have f:=u.b5 (t:=some 28) rfl (V (.int .i64 i) rfl);clear u
 revert f
 generalize AU _ (CW 28) _=a1;intro r;clear E5 E6;have E5:=(dS (show af c b (.val (.slice (CW ⟨c.β 1,0,CU⟩) L.length cap)) (AJ _ 5 undef) from r.tm 5)).1;have E6:=(dS (show af c b (.val (.int .i64 i)) (AJ _ 6 undef) from r.tm 6)).1;refine cY (i:=2) d2.at_ oe (by kernel_rfl) (by kernel_rfl) (λ_ _ _ h=>g _ _ _ _ _ h) (gG (by kernel_rfl)) (by decide) (oz d2 (v:= .int .i64 i) λw=>(ve d2 _ w).trans (by rw[show BG _ (.tmp 6)=_ from E6])) ⟨⟩ ?_;rw[d2.dst];have f:=r.b5 (t:=some 29) rfl (V (.int .i64 i) rfl);clear r
 revert f
 generalize AU _ (CW 29) _=a2;intro k;clear E5 E6;have L6:=(dS (show af c b (.val (.slice (CW ⟨c.β 1,0,CU⟩) L.length cap)) (AJ _ 27 undef) from k.tm 27)).1;have L7:=(dS (show af c b (.val (.int .i64 i)) (AJ _ 28 undef) from k.tm 28)).1;have L8:=(dS (show af c b (.val (.int .i64 i)) (AJ _ 29 undef) from k.tm 29)).1;refine cY (i:=3) d3.at_ oe (by kernel_rfl) (by kernel_rfl) (λ_ _ _ h=>g _ _ _ _ _ h) (gG (by kernel_rfl)) (by decide) (oz d3 (v:= .slice (CW ⟨c.β 1,0,CU⟩) i i) λw=>amq L6 L7 L8) ⟨⟩ ?_;rw[d3.dst];have f:=k.b5 (t:=some 30) rfl (V (.slice (CW ⟨c.β 1,0,CU⟩) i i) rfl);clear k
 revert f
 generalize AU _ (CW 30) _=a3;intro q;clear L6 L7 L8;have E5:=(dS (show af c b (.val (.slice (CW ⟨c.β 1,0,CU⟩) L.length cap)) (AJ _ 5 undef) from q.tm 5)).1;have E6:=(dS (show af c b (.val (.int .i64 i)) (AJ _ 6 undef) from q.tm 6)).1;refine cY (i:=4) d4.at_ oe (by kernel_rfl) (by kernel_rfl) (λ_ _ _ h=>g _ _ _ _ _ h) (gG (by kernel_rfl)) (by decide) (oz d4 (v:= .slice (CW ⟨c.β 1,0,CU⟩) L.length cap) λw=>(ve d4 _ w).trans (by rw[show BG _ (.tmp 5)=_ from E5])) ⟨⟩ ?_;rw[d4.dst];have f:=q.b5 (t:=some 31) rfl (V (.slice (CW ⟨c.β 1,0,CU⟩) L.length cap) rfl);clear q
 revert f
 generalize AU _ (CW 31) _=a4;intro o;clear E5 E6;have E5:=(dS (show af c b (.val (.slice (CW ⟨c.β 1,0,CU⟩) L.length cap)) (AJ _ 5 undef) from o.tm 5)).1;have E6:=(dS (show af c b (.val (.int .i64 i)) (AJ _ 6 undef) from o.tm 6)).1;refine cY (i:=5) d5.at_ oe (by kernel_rfl) (by kernel_rfl) (λ_ _ _ h=>g _ _ _ _ _ h) (gG (by kernel_rfl)) (by decide) (oz d5 (v:= .int .i64 i) λw=>(ve d5 _ w).trans (by rw[show BG _ (.tmp 6)=_ from E6])) ⟨⟩ ?_;rw[d5.dst];have f:=o.b5 (t:=some 32) rfl (V (.int .i64 i) rfl);clear o
 revert f
 generalize AU _ (CW 32) _=a5;intro A;clear E5 E6;have L':=(dS (show af c b (.val (.int .i64 i)) (AJ _ 32 undef) from A.tm 32)).1;refine cY (i:=6) d6.at_ oe (by kernel_rfl) (by kernel_rfl) (λ_ _ _ h=>g _ _ _ _ _ h) (gG (by kernel_rfl)) (by decide) (oz d6 (v:= .int .i64 ((i+1:C1):C9)) λw=>(amV (n:=i) L').trans (by rw[ew])) ⟨⟩ ?_;rw[d6.dst];have f:=A.b5 (t:=some 33) rfl (V (.int .i64 ((i+1:C1):C9)) rfl);clear A
 revert f
 generalize AU _ (CW 33) _=a6;intro m;clear L';have L9:=(dS (show af c b (.val (.slice (CW ⟨c.β 1,0,CU⟩) L.length cap)) (AJ _ 31 undef) from m.tm 31)).1;have L?:=(dS (show af c b (.val (.int .i64 ((i+1:C1):C9))) (AJ _ 33 undef) from m.tm 33)).1;refine cY (i:=7) d7.at_ oe (by kernel_rfl) (by kernel_rfl) (λ_ _ _ h=>g _ _ _ _ _ h) (gG (by kernel_rfl)) (by decide) (oz d7 (v:= .slice (CW ⟨c.β 1,if cap=i+1 then 0 else (i+1)*18,CU⟩) (L.length-(i+1)) (cap-(i+1))) λw=>amr L9 L? J z) ⟨⟩ ?_;rw[d7.dst];have f:=m.b5 (t:=some 34) rfl (V (.slice (CW ⟨c.β 1,if cap=i+1 then 0 else (i+1)*18,CU⟩) (L.length-(i+1)) (cap-(i+1))) rfl);clear m
 revert f
 generalize AU _ (CW 34) _=a7;intro l;clear L9 L?;have Wc:=(dS (show af c b (.val (.slice (CW ⟨c.β 1,0,CU⟩) i i)) (AJ _ 30 undef) from l.tm 30)).1;have We:=(dS (show af c b (.val (.slice (CW ⟨c.β 1,if cap=i+1 then 0 else (i+1)*18,CU⟩) (L.length-(i+1)) (cap-(i+1)))) (AJ _ 34 undef) from l.tm 34)).1;obtain⟨v,D,G,I,hv⟩:=al6 (w:=b) Wc We J z H hh hs;refine eF (rs:=[8]) (by kernel_rfl) (by simp) λj E=>?_;obtain rfl:j=8:=by simpa using E
 have M:∀(K:Act->C4->Prop) a,(execOp a.eval (ia 8)).run AA b= .ok (.value v) D->K (a.put (CW 35) v) D->wpOp AA dO Q 8 K a b:=λK a hr hK=>by
  unfold wpOp;rw[d8.at_];dsimp only;rw[DD (by simp[A7,d8.gd])];refine .inl ?_;unfold Oper.wp;rw[hr,Oper.upon_value,d8.dst];exact hK
 refine M _ _ G ⟨λ_=>⟨⟩,?_⟩;refine eF (rs:=[9]) (by kernel_rfl) (by simp) λj E=>?_;obtain rfl:j=9:=by simpa using E
 unfold wpOp;rw[d9.at_];dsimp only;rw[DD (by simp[A7,d9.gd])];refine .inl ?_;unfold Oper.wp;rw[show ∀ ρ,(execOp ρ (ia 9)).run AA D= .ok (.value (ρ (.tmp 35))) D from fun ρ=>by simp only[execOp,d9.ts];simp,Oper.upon_value,d9.dst];refine⟨λh=>C8 rfl h,MH (by kernel_rfl) ?_ 0⟩;have F:a7.tmps.size=190:=l.size;have U:(a7.put (CW 35) v).tmps.getD 35 undef=v:=zh (by rw[F];decide);have g4:((a7.put (CW 35) v).put (CW 4) ((a7.put (CW 35) v).eval (.tmp 35))).tmps.getD 4 undef=v:=(zh (by rw[abX,F];decide)).trans U;obtain⟨a1,c1,e1,e2,e3⟩:=hv;refine hQ _ D v g4 ?_ (e.trans I) ⟨a1,c1,e1,e2,λh0=>?_⟩
 .show a7.defers=a.defers;rw[l.defers,R]
 .obtain⟨b',f1,f2,f3⟩:=e3 h0;have e0:b.heap.size=w.heap.size:=N;refine⟨b',f1,by rw[<-e0];exact f2,λj E=>?_⟩;obtain⟨cs,r1,r2,r3⟩:=q4 _ (RW J E)
  grind
section
def iS(L:V ab)(a c y:Y):V ab :=
 if G c 16=15 then L.take (a.toNat%L.length)++L.drop (a.toNat%L.length+1)
 else L.set (a.toNat%L.length) (p5 (L.getD (a.toNat%L.length) aB) (G c 16) y)
def uD:W->Z
 |.slice (CW a) _ _=>a.block
 |_=>0
def Ga:W->Z
 |.slice _ _ c=>c
 |_=>0
def m5{v:W}(h:eB v q):uD v=q:=by
 obtain⟨_,_,rfl⟩:=h;rfl
def Q6{X:Z->Prop}{d:U}{wd len:Z}{f:Z->MV}{v:W}(h:jq c d wd len f v)(n:∀q,q<d.heap.size->¬X q->w'.heap[q]? =d.heap[q]?)(B:∀q,X q->c.S q)(C:∀q,S q->c.S q)(hv:∀q,eB v q->¬X q/\¬S q) :
  aj (AZ S) w' (.sl wd len f) [v]:=by
 obtain⟨a,cap,rfl,z,h⟩:=h;refine⟨a,cap,rfl,z,λh0=>?_⟩;rcases h with ⟨q,arr,ty,p,o,e3,D⟩|⟨_,e,_⟩
 .have g:=hv q ⟨len,cap,by rw[p]⟩;have m:q<d.heap.size:=(BT.1 o).1;refine⟨q,0,p,g.2,λj A=>?_⟩;obtain⟨E,t,s,r⟩:=D j A;exact⟨E,t,BA (⟨λq _ l=>C q l,λ_ _ h=>h,λ_ h=>h.elim,λq g l=>n q g λx=>l (B q x),λ_ _ h=>(h trivial).elim⟩:bf c.elem (AZ S).elem d w') _ _ s,arr,ty,_,by rw[n q m g.1];exact o,λk u y=>by rw[AQ];exact r k u y⟩
 .omega
def Tf(a:Act)(w:U):(results A9 a.tmps).run AA w= .ok (a.tmps.getD 4 undef) w:=by
 simp[results,Tryz.results11]
def dp.ext{b:ck}{w0:U}(a:Ext w0 b.w)(h:dp b w')(e:∀q,b.X q->w0.heap.size<=q):Ext w0 w' :=
 ⟨h.os.trans a.os,h.output.trans a.output,AN a.size h.size,λk d=>(h.block k (AI d a.size) λc=>by have:=e k c;omega).trans (a.block k d),λx c=>(h.cz x (AI c a.size)).trans (a.cz x c),h.tape.trans a.tape,AN a.dr h.dr⟩
def aj4(n:Z)(f:Z->MV)(a c y:Y)(K:Ex->MS->Prop):K .normal ⟨190, [(4,.val (.slice CU 0 0)),(3,.bp 0 0),(0,.sl 18 n f),(1,zM a c y)], [⟨CT,.one (zM a c y)⟩],0⟩=aY (aK [] aC) (λ_=>D) (cN nc) ⟨190,dR 0 [.sl 18 n f,zM a c y], [],0⟩ K:=by kernel_rfl
structure mi (S:Nat->Prop) (w0 w1:World) (zb:Nat) (L:List ab) (i b cap:Nat) (S1:Nat->Prop) (pv bv:Nat->Value) (w:World):Prop where
 ext:Ext w0 w
 sz:w0.heap.size<=w1.heap.size
 L5:zb<w1.heap.size/\w0.heap.size<=zb
 aqf:S1 zb
 sub:∀q,S q->S1 q
 fh:∀q,S q->q<w0.heap.size
 hb:w1.heap.size<=b
 bl:b<w.heap.size
 wl:w1.heap.size<=w.heap.size
 nest:gn w1.heap.size S1 b ⟨cap*18,18⟩ L pv bv L.length L.length w
 hi:i<L.length
def o8(pv bv:Z->W)(i k:Z):Prop:=k=0\/k=1\/(k=2/\∃q,eB (pv i) q)\/(k=3/\∃q,eB (bv i) q)
def chβ(zb b:Z)(pv bv:Z->W)(i k:Z):Z:=if k=0 then zb else if k=1 then b else if k=2 then uD (pv i)else uD (bv i)
def xd(a:Sz)(cap:Z)(pv bv:Z->W)(i k:Z):Sz:=if k=0 then a else if k=1 then ⟨cap*18,18⟩else if k=2 then ⟨Ga (pv i)*1,1⟩else ⟨Ga (bv i)*2,2⟩
def m3(zb b:Z)(pv bv:Z->W)(i q:Z):Prop:=∃k,o8 pv bv i k/\chβ zb b pv bv i k=q
def II{zb:Z}{pv bv:Z->W}(h:m3 zb b pv bv i q):q=zb\/q=b\/eB (pv i) q\/eB (bv i) q:=by
 obtain⟨k,d,a⟩:=h;rcases d with rfl|rfl|⟨rfl,p,c⟩|⟨rfl,p,c⟩
 .exact .inl a.symm
 .exact .inr (.inl a.symm)
 .have e:uD (pv i)=q:=a;rw[m5 c]at e
  simp_all
 .have e:uD (bv i)=q:=a;rw[m5 c]at e
  simp_all
section
variable {S:Nat->Prop} {w0 w1:World} {zb:Nat} {L:List ab} {i b cap:Nat} {S1:Nat->Prop} {pv bv:Nat->Value} {w:World}
def mi.X1(I:mi S w0 w1 zb L i b cap S1 pv bv w)(h:m3 zb b pv bv i q):w0.heap.size<=q/\(S1 q\/q=b)/\q<w.heap.size:=by
 have a:=I.L5;have hb:=I.hb;have hs:=I.sz;have hw:=I.wl;rcases II h with rfl|rfl|h|h
 .exact⟨a.2,.inl I.aqf,by omega⟩
 .exact⟨by omega,.inr rfl,I.bl⟩
 .have:=I.nest.l7 i q I.hi h;exact⟨by omega,.inl this.1,(I.nest.S0 q this.1).1⟩
 .have:=I.nest.d? i q I.hi h;exact⟨by omega,.inl this.1,(I.nest.S0 q this.1).1⟩
def mi.inj(I:mi S w0 w1 zb L i b cap S1 pv bv w):∀j k,o8 pv bv i j->o8 pv bv i k->chβ zb b pv bv i j=chβ zb b pv bv i k->j=k:=by
 have z1:=I.L5;have hb:=I.hb;have f:∀q,eB (pv i) q->uD (pv i)=q/\w1.heap.size<=q/\q≠b:=λq c=>by
  have:=I.nest.l7 i q I.hi c;exact⟨m5 c,this.2,(I.nest.S0 q this.1).2⟩
 have g:∀q,eB (bv i) q->uD (bv i)=q/\w1.heap.size<=q/\q≠b:=λq c=>by
  have:=I.nest.d? i q I.hi c;exact⟨m5 c,this.2,(I.nest.S0 q this.1).2⟩
 have t:chβ zb b pv bv i 0=zb:=rfl;have s:chβ zb b pv bv i 1=b:=rfl;have r:chβ zb b pv bv i 2=uD (pv i):=rfl;have o:chβ zb b pv bv i 3=uD (bv i):=rfl;intro j k l h e;rcases l with rfl|rfl|⟨rfl,p,d⟩|⟨rfl,p,d⟩<;>rcases h with rfl|rfl|⟨rfl,p',a⟩|⟨rfl,p',a⟩<;>simp only[t,s,r,o]at e<;>first|rfl|(exfalso)
 .omega
 .grind
 .grind
 .omega
 .grind
 .grind
 .grind
 .grind
 .have n:=f _ d;have m:=g _ a;exact I.nest.dX i i p I.hi I.hi d (by rw[show p=p' by omega];exact a)
 .grind
 .grind
 .have n:=g _ d;have m:=f _ a;exact I.nest.dX i i p' I.hi I.hi a (by rw[show p'=p by omega];exact d)
def mi.rest(I:mi S w0 w1 zb L i b cap S1 pv bv w)(k:∀q,q<w.heap.size->¬m3 zb b pv bv i q->w'.heap[q]? =w.heap[q]?):∀j,j<L.length->j≠i->
  aj (AZ S) w' (.sl 1 (L.getD j aB).parts.length (bI (L.getD j aB).parts)) [pv j]/\aj (AZ S) w' (.sl 2 (L.getD j aB).base.length (iL (L.getD j aB).base 200)) [bv j]:=λj c f=>by
 have z1:=I.L5;have hs:=I.sz;have e:∀q,w1.heap.size<=q->¬S q:=λq a h=>by have:=I.fh q h;omega
 refine⟨Q6 (X:=m3 zb b pv bv i) (I.nest.tu j c) k (λq a=>(I.X1 a).2.1) (λq a=>.inl (I.sub q a)) λq a=>?_,Q6 (X:=m3 zb b pv bv i) (I.nest.tt j c) k (λq a=>(I.X1 a).2.1) (λq a=>.inl (I.sub q a)) λq a=>?_⟩
 .have d:=I.nest.l7 j q c a;refine⟨λg=>?_,e q d.2⟩;rcases II g with rfl|rfl|h|h
  .omega
  .exact(I.nest.S0 _ d.1).2 rfl
  .rcases B3 f with h2|h2
   .exact I.nest.dP j i q h2 I.hi a h
   .exact I.nest.dP i j q h2 c h a
  .exact I.nest.dX j i q c I.hi a h
 .have d:=I.nest.d? j q c a;refine⟨λg=>?_,e q d.2⟩;rcases II g with rfl|rfl|h|h
  .omega
  .exact(I.nest.S0 _ d.1).2 rfl
  .exact I.nest.dX i j q I.hi c h a
  .rcases B3 f with h2|h2
   .exact I.nest.dB j i q h2 I.hi a h
   .exact I.nest.dB i j q h2 c h a
def sw(zb b:Z)(pv bv:Z->W)(i:Z)(S1:Z->Prop)(q:Z):Prop:=S1 q/\¬m3 zb b pv bv i q
def Tm{wd len:Z}{f:Z->MV}{v:W}(h:jq c w wd len f v)(g:eB v q):∃arr ty,w.heap[q]? =CW (.cells arr ty (0,0))/\arr.size=Ga v*wd/\gI c w (.rows wd len f) arr:=by
 obtain⟨a,aqp,rfl,_,h⟩:=h;obtain⟨l2,c2,e⟩:=g;simp only[Value.slice.injEq]at e;rcases h with ⟨q',arr,ty,d,l,k,j⟩|⟨d,_⟩
 .rw[d]at e;simp only[Z1,Addr.mk.injEq]at e;obtain⟨⟨rfl,_⟩,_⟩:=e;exact⟨arr,ty,l,k,j⟩
 simp_all
set_option maxRecDepth 100000 in
def adS(I:mi S w0 w1 zb L i b cap S1 pv bv w){s t y:Y}{u:Sz}(J:dn (Ctx.b1 S1 b ⟨cap*18,18⟩) w 0 (nO L pv bv))(O:∃arr ty,w.heap[zb]? =CW (.cells arr ty (0,0))/\arr.size=u.n/\u.wd=0/\arr[0]? =CW (.int .u8 s)/\arr[1]? =CW (.int .u8 t)/\arr[2]? =CW (.int .i64 y))(M:∀g,nh g=CS->¬S1 g/\g≠b/\g<w.heap.size/\da w g 0 ((iU g).map (Value.int (vv g))))(T:a.tmps.getD 3 undef= .pointer (CW ⟨zb,0,CU⟩))(Q:a.tmps.getD 5 undef= .slice (CW ⟨b,0,CU⟩) L.length cap)(D:L.length<=cap)(H:a.tmps.size=190) :
  St (sw zb b pv bv i S1) ⟨w,λq=>∃k,o8 pv bv i k/\chβ zb b pv bv i k=q,λk q z=>(o8 pv bv i k/\1<=k)/\chβ zb b pv bv i k=q/\xd u cap pv bv i k=z,a.defers⟩ ⟨190, [(3,.bp 0 0),(5,.bs 1 0 L.length)],g! L pv bv (L.getD i aB) s t y,4⟩
   (cD (sw zb b pv bv i S1) (g! L pv bv (L.getD i aB) s t y) (o8 pv bv i) (chβ zb b pv bv i) (xd u cap pv bv i)) a w:=by
 have C:∀q,(cD (sw zb b pv bv i S1) (g! L pv bv (L.getD i aB) s t y) (o8 pv bv i) (chβ zb b pv bv i) (xd u cap pv bv i)).S q->S1 q\/q=b:=λq f=>by
  rcases f with f|⟨k,_,V,_,_,U⟩
  .exact .inl f.1
  .exact(I.X1 ⟨k,V,U⟩).2.1
 refine St.fresh (λk p=>⟨?_,(I.X1 ⟨k,p,rfl⟩).2.2,λh=>h.2 ⟨k,p,rfl⟩⟩) I.inj (λq f=>(I.nest.S0 q f.1).1) (λg K=>⟨λh=>?_,(M g K).2.2⟩) (λk G p d=>?_) (fa (by rw[T];exact aS rfl (by simp) rfl ⟨.inl rfl,rfl⟩) (fa (by
   rw[Q];exact aS rfl (by simp) rfl ⟨_,_,rfl,D,.inl ⟨rfl,.inr (.inl rfl),by show 0+cap*18=cap*18;omega⟩⟩) f0)) H _ (λk q z F=>⟨F.1.1,F.2.1,F.2.2,?_⟩)
 .have R:k<4:=by rcases p with rfl|rfl|⟨rfl,_⟩|⟨rfl,_⟩<;>decide
  exact R
 .have W:=M g K;rcases h with h|h
  .exact W.1 h.1
  .rcases(I.X1 h).2.1 with h|h
   all_goals simp_all
 .rcases p with rfl|rfl|⟨rfl,q,f⟩|⟨rfl,q,f⟩
  .have d:CW (⟨CT,.one (zM s t y)⟩:aq)=CW G:=d;obtain rfl:=AV d;obtain⟨arr,ty,q1,o,m,a0,a1,a2⟩:=O;refine⟨arr,ty,q1,o,m, [.int .u8 s,.int .u8 t,.int .i64 y],⟨[_],_,rfl,rfl, [_],_,rfl,rfl, [_],_,rfl,rfl,rfl⟩,λj v hv=>?_⟩
   grind
  .have d:CW (nO L pv bv)=CW G:=d;obtain rfl:=AV d;obtain⟨arr,ty,q1,o,m,N⟩:=J;refine⟨arr,ty,q1,o,m,λj A=>?_⟩;obtain⟨B,E,l,x⟩:=N j A;exact⟨B,E,A5 (c:=(Ctx.b1 S1 b ⟨cap*18,18⟩).elem) (c':=(cD _ _ _ _ _).elem) (r:=false) C (λe=>by simp at e) (jX L pv bv j) _ rfl l,x⟩
  .have d:CW (⟨CT,.arr .i64 (L.getD i aB).parts⟩:aq)=CW G:=d;obtain rfl:=AV d;obtain⟨arr,ty,q1,o,m⟩:=Tm (I.nest.tu i I.hi) f;refine⟨arr,ty,?_,o,rfl,λj n P=>?_⟩
   .show w.heap[uD (pv i)]? =_;rw[m5 f];exact q1
   .have A:j<(L.getD i aB).parts.length:=(List.getElem?_eq_some_iff.1 P).1;obtain⟨B,E,l,x⟩:=m j A;have l:B=[.int .i64 ((L.getD i aB).parts.getD j 0)]:=l;have:=x 0 _ (by rw[l];rfl)
    simp_all
  .have d:CW (⟨CT,.rows 2 (L.getD i aB).base.length (iL (L.getD i aB).base 200)⟩:aq)=CW G:=d;obtain rfl:=AV d;obtain⟨arr,ty,q1,o,m⟩:=Tm (I.nest.tt i I.hi) f;refine⟨arr,ty,?_,o,rfl,λj A=>?_⟩
   .show w.heap[uD (bv i)]? =_;rw[m5 f];exact q1
   .obtain⟨B,E,l,x⟩:=m j A;exact⟨B,E,A5 (c:=(Ctx.b1 S1 b ⟨cap*18,18⟩).elem) (c':=(cD _ _ _ _ _).elem) (r:=false) C (λe=>by simp at e) (iL (L.getD i aB).base 200 j) _ rfl l,x⟩
 .have p:k<4:=by rcases F.1.1 with rfl|rfl|⟨rfl,_⟩|⟨rfl,_⟩<;>decide
  exact jL (by decide) p
end
end
def sx(n:Z)(i p:Y):V (Z×MV):=[(3,.bp 0 0),(5,.bs 1 0 n),(6,.int .i64 i),(7,.bp 4 0),(26,.int .u8 p)]
def amD(t d:Z):J:=[3,5,6,7,26].all λk=>!(t.beq k)&&!(d.beq k)
def zF{bx:V aq}{n t d:Z}{i p:Y}{v:J}{r A C:Code}(u:∀K:Ex->MS->Prop,K .normal ⟨190,(t,.bool v)::(d,.bool v)::sx n i p,bx,2⟩=aY (aK [] aC) (λ_=>D) r ⟨190,sx n i p,bx,2⟩ K)(s:amD t d=CS)(h:St S B ⟨190,sx n i p,bx,2⟩ c a w)(x:∀c a w,St S B ⟨190,sx n i p,bx,2⟩ c a w->(T v A C).wp AA Q a w):(Code.seq r (.cond (.tmp t) A C)).wp AA Q a w:=by
 have f:=List.all_eq_true.1 s;have ie:∀k,k∈ [3,5,6,7,26]->t≠k/\d≠k:=λk o=>by
  have:=f k o;simp only[Z3,Bool.not_eq_true']at this;exact⟨λe=>by rw[e]at this;simp at this,λe=>by rw[e]at this;simp at this⟩
 refine wp_seq (rZ (cast (u _) λl m j g=>?_) h);have q:af l j (.bool v) (m.tmps.getD t undef):=by
  have:=g.tm t
  grind [bE,Nat.beq_refl]
 have b:∀k,k∈ [3,5,6,7,26]->af l j (bE k (sx n i p)) (m.tmps.getD k undef):=λk o=>by
  have:=g.tm k
  grind [bE]
 refine wp_cond (t:=v) (gF q) ?_;have:=x l m j (g.re (sx n i p) bx g.mem (fa (b 3 (by simp)) (fa (b 5 (by simp)) (fa (b 6 (by simp)) (fa (b 7 (by simp)) (fa (b 26 (by simp)) f0))))));cases v<;>exact this
set_option maxRecDepth 100000 in
def akS{L:V ab}{pv p:Z->W}{x F y:Y}{w:C4}{Q:Exit->Act->C4->Prop}(h:St S2 B (fm s L pv p i x F y 14) c a w)(I:s? s)(M:i<L.length)(S:∀i b z,B.bz i b z->i=1)(m:∀ch a d v w,Q (.panic ch) (AU a d v) w->Q (.panic ch) a w)(o:∀tm bx c a w,St S2 B ⟨190,tm,bx,2⟩ c a w->c.live 1->c.live 4->∀c' a' w',St S2 ⟨w,λq=>∃k,(k=1\/k=4)/\c.β k=q,λk q z=>k=1/\q=c.β 1/\z=c.sz 1,a.defers⟩ ⟨190, [(4,.bs 1 0 L.length)], [gB,⟨CT,.rows 18 L.length (λj=>DB (j.beq i) (jY (p5 s 14 y) 200) (jX L pv p j))⟩,gB,gB,gB],2⟩ c' a' w'->Q .ret a' w') :
  g5.wp AA (Exit.then (tb.wp AA Q) Q) a w:=by
 refine wp_block ?_;refine zF (t:=36) (d:=37) (v:=false) (λK=>by kernel_rfl) rfl h λc a w h=>?_;refine zF (t:=44) (d:=45) (v:=false) (λK=>by kernel_rfl) rfl h λc a w h=>?_;refine zF (t:=50) (d:=51) (v:=false) (λK=>by kernel_rfl) rfl h λc a w h=>?_;refine zF (t:=59) (d:=60) (v:=false) (λK=>by kernel_rfl) rfl h λc a w h=>?_;refine zF (t:=71) (d:=72) (v:=false) (λK=>by kernel_rfl) rfl h λc a w h=>?_;refine zF (t:=81) (d:=82) (v:=false) (λK=>by kernel_rfl) rfl h λc a w h=>?_;refine zF (t:=91) (d:=92) (v:=false) (λK=>by kernel_rfl) rfl h λc a w h=>?_;refine zF (t:=107) (d:=108) (v:=false) (λK=>by kernel_rfl) rfl h λc a w h=>?_;refine zF (t:=117) (d:=118) (v:=false) (λK=>by kernel_rfl) rfl h λc a w h=>?_;refine zF (t:=127) (d:=128) (v:=false) (λK=>by kernel_rfl) rfl h λc a w h=>?_;refine zF (t:=137) (d:=138) (v:=false) (λK=>by kernel_rfl) rfl h λc a w h=>?_;refine zF (t:=145) (d:=146) (v:=false) (λK=>by kernel_rfl) rfl h λc a w h=>?_;refine zF (t:=153) (d:=154) (v:=false) (λK=>by kernel_rfl) rfl h λc a w h=>?_;refine zF (t:=163) (d:=164) (v:=false) (λK=>by kernel_rfl) rfl h λc a w h=>?_;refine zF (t:=171) (d:=172) (v:=true) (λK=>by kernel_rfl) rfl h λc a w h=>?_;rw[show p5 s 14 y={ s with ah:=s.ah++[0] } from rfl]at o;refine apD (by kernel_rfl) I.len S (λch a d v w h=>m ch a d v w h) h λe b b' c a w h he P=>?_;refine dH (s:={ s with ah:=s.ah++[0] }) h (λc' LI l cs O=>?_) (fieldsOf (iy _ _ _) (ij _ _ _) (iz _) (AB (Z0 _)) rfl rfl (Z0 _) AC) M λc' a' w' T H G=>o _ _ c a w h H G c' a' w' T;obtain⟨u,y1,rfl,D,r,y2,rfl,C,A⟩:=O;refine⟨u,_,rfl,D,r,_,rfl,?_,A⟩;obtain⟨U,cap,rfl,J,N⟩:=C;rcases N with ⟨R,f,_⟩|⟨_,h1,_⟩
 .obtain⟨arr,ty,q1,_,_,E⟩:=P f;refine⟨_,rfl,U,cap,by simp,by simpa using J,λ_=>⟨_,0,R,l e f (by omega) (by omega),arr,ty,_,q1,λj v hv=>?_⟩⟩;rw[List.getElem?_map]at hv;cases g:(s.ah++[0])[j]? with
  |none=>rw[g]at hv;simp at hv
  |some n =>
   rw[g]at hv;obtain rfl:=AV hv;rw[AQ];exact E j n g
 .omega
set_option maxRecDepth 100000 in
def akT{L:V ab}{pv e:Z->W}{g j y:Y}(h:St S2 B (fm s L pv e i g j y 15) c a w)(k:i<L.length)(b:L.length<=1000000)(f:∀ch a d v w,Q (.panic ch) (AU a d v) w->Q (.panic ch) a w)(l:∀c a w,St S2 B (fm s L pv e i g j y 15) c a w->∀a' w' v,a'.tmps.getD 4 undef=v->a'.defers=a.defers->Ext w w'->TZ c L pv e i w w' v->Q .ret a' w'):g5.wp AA (Exit.then (tb.wp AA Q) Q) a w:=by
 refine wp_block ?_;refine zF (t:=36) (d:=37) (v:=false) (λK=>by kernel_rfl) rfl h λc a w h=>?_;refine zF (t:=44) (d:=45) (v:=false) (λK=>by kernel_rfl) rfl h λc a w h=>?_;refine zF (t:=50) (d:=51) (v:=false) (λK=>by kernel_rfl) rfl h λc a w h=>?_;refine zF (t:=59) (d:=60) (v:=false) (λK=>by kernel_rfl) rfl h λc a w h=>?_;refine zF (t:=71) (d:=72) (v:=false) (λK=>by kernel_rfl) rfl h λc a w h=>?_;refine zF (t:=81) (d:=82) (v:=false) (λK=>by kernel_rfl) rfl h λc a w h=>?_;refine zF (t:=91) (d:=92) (v:=false) (λK=>by kernel_rfl) rfl h λc a w h=>?_;refine zF (t:=107) (d:=108) (v:=false) (λK=>by kernel_rfl) rfl h λc a w h=>?_;refine zF (t:=117) (d:=118) (v:=false) (λK=>by kernel_rfl) rfl h λc a w h=>?_;refine zF (t:=127) (d:=128) (v:=false) (λK=>by kernel_rfl) rfl h λc a w h=>?_;refine zF (t:=137) (d:=138) (v:=false) (λK=>by kernel_rfl) rfl h λc a w h=>?_;refine zF (t:=145) (d:=146) (v:=false) (λK=>by kernel_rfl) rfl h λc a w h=>?_;refine zF (t:=153) (d:=154) (v:=false) (λK=>by kernel_rfl) rfl h λc a w h=>?_;refine zF (t:=163) (d:=164) (v:=false) (λK=>by kernel_rfl) rfl h λc a w h=>?_;refine zF (t:=171) (d:=172) (v:=false) (λK=>by kernel_rfl) rfl h λc a w h=>?_;refine wp_seq (r7 (by kernel_rfl) (λch a d v w h=>f ch a d v w h) h k b λa' w' v p o n m=>?_);exact wp_ret (l c a w h a' w' v p o n m)
def Tn{v:W}{len wd:Z}{f:Z->MV}{m:Ctx}(O:jq m w wd len f v)(g:∀q,eB v q->c.live k/\c.β k=q/\c.sz k=⟨Ga v*wd,wd⟩):aj c w' (.bs k 0 len) [v]:=by
 obtain⟨a,b,rfl,e,h⟩:=O;refine⟨a,b,rfl,e,h.imp (λ⟨q,arr,ty,d,e2,e3,e4⟩=>?_) id⟩;obtain⟨l,j,i⟩:=g q ⟨len,b,by rw[d]⟩;refine⟨by rw[d,j],l,?_⟩;rw[i];show 0+b*wd=b*wd;omega
def adT{w0 C A:U}{o:Sz}{L:V ab}{cap:Z}{pv d:Z->W}{r s y p:Y}(I:mi S w0 C m L i b cap S1 pv d A)(H:B.bz=λk q z=>(o8 pv d i k/\1<=k)/\chβ m b pv d i k=q/\xd o cap pv d i k=z)(h:St S2 B ⟨190, [(3,.bp 0 0),(5,.bs 1 0 L.length),(6,.int .i64 i),(7,.bp 4 0),(26,.int .u8 p)],g! L pv d (L.getD i aB) r s y++[Hv L pv d i],4⟩ c a w) :
  St S2 ⟨B.w,B.X,λk q z=>k=1/\q=b/\z=⟨cap*18,18⟩,B.df⟩ (fm (L.getD i aB) L pv d i r s y p) c a w:=by
 have e:∀k,o8 pv d i k->1<=k->c.live k/\c.β k=chβ m b pv d i k/\c.sz k=xd o cap pv d i k:=λk g f=>h.mem.bz k _ _ (by rw[H];exact⟨⟨g,f⟩,rfl,rfl⟩);have K:aj c w (.bs 2 0 (L.getD i aB).parts.length) [pv i]:=Tn (I.nest.tu i I.hi) λq j=>by
  obtain⟨g,f,l⟩:=e 2 (.inr (.inr (.inl ⟨rfl,q,j⟩))) (by omega);exact⟨g,by rw[f];exact m5 j,l⟩
 have M:aj c w (.bs 3 0 (L.getD i aB).base.length) [d i]:=Tn (I.nest.tt i I.hi) λq j=>by
  obtain⟨g,f,l⟩:=e 3 (.inr (.inr (.inr ⟨rfl,q,j⟩))) (by omega);exact⟨g,by rw[f];exact m5 j,l⟩
 have J:=h.mem.nq (i:=4) (bc:= .one (jX L pv d i)) (bc':= .one (sM (L.getD i aB))) rfl rfl λarr _ ⟨cs,g,f⟩=>by
  obtain⟨x,y1,rfl,G,v,y2,rfl,s2,u,y3,rfl,F,t,y4,rfl,E,D⟩:=g;obtain⟨rfl,_⟩:u=[pv i]/\_:=F;obtain⟨rfl,_⟩:t=[d i]/\_:=E;exact⟨_,⟨x,_,rfl,G,v,_,rfl,s2,_,_,rfl,K,_,_,rfl,M,D⟩,f⟩
 refine⟨J.x? _ _ λk q z ⟨n,O,N⟩=>?_,h.tm,h.size,h.defers,λk q z ⟨n,_,_⟩=>by rw[n];exact(show nI 2 1=CS from jL (by decide) (by omega))⟩;obtain⟨g,f,l⟩:=e 1 (.inr (.inl rfl)) (Z0 _);rw[n,O,N];exact⟨g,f,l⟩
def aeK{L:V ab}(hi:i<L.length):(L.take i++L.drop (i+1)).length=L.length-1:=by rw[AY,AX,BO];omega
def aeJ{L:V ab}{j:Z}(hi:i<L.length)(hj:j<L.length-1):(L.take i++L.drop (i+1)).getD j aB=L.getD (if j<i then j else j+1) aB:=by
 grind
def agR{j:Z}:(if j<i then j else j+1)≠i:=by split<;>omega
set_option maxRecDepth 100000 in
set_option maxHeartbeats 1000000 in
def Xf{S:C1->Prop}{w:C4}{o l y:C9}{args:C5 C3}(hL:ee L)(h0:0<L.length)(hc:∀s∈L,s? s)(nk:0<=o/\o<=255)(aoB:0<=l)(hy: -9223372036854775808<=y/\y<=9223372036854775807)(hS:∀b,S b->b<w.heap.size)(hG:GW S w)(ha:cr (BB S) w [.sl 18 L.length (aF L 200),zM o l y] args.toList):Calls AA 11 args w λe w'=>Ext w w'/\(cg.ret (.sl 18 (iS L o l y).length (aF (iS L o l y) 200))).holds (AZ S) w' e:=by
 have P:=St.start (n:=190) hS hG ha (by simp);have hlen:=hL.len;refine calls_of_wp CI rfl ?_;refine wp_seq (rZ (x:=cN nc) (cast (aj4 _ _ o l y _) λt a1 w1 h1=>?_) P);refine wp_seq (wp_region_list ?_);refine eG (E:=aK [] aC) (m:= .sl 18 L.length (aF L 200)) (p:=none) rfl rfl trivial h1 rfl λX W=>?_;have H:X.tmps.size=190:=W.size;have t8:b! t w1 (.sl 18 L.length (aF L 200)) (X.tmps.getD 8 undef):=(bF rfl).1 (show af t w1 (.sl 18 L.length (aF L 200)) (X.tmps.getD 8 undef) from W.tm 8);have F:=W.mem;obtain⟨l0,e3⟩:=eN (show af t w1 (.bp 0 0) (X.tmps.getD 3 undef) from W.tm 3);have ao3:t.S (t.β 0):=F.WS _ ((F.hW _).2 ⟨0,_,l0,rfl,rfl,rfl⟩);refine tR rfl (f:=29) (args:=#[X.tmps.getD 8 undef]) (by simp[execOp,resolve,Deferred.ofValue,invoke,BG,CK])
  (Za hL h0 (λb hb=>F.fh b hb) F.gw ⟨_, [],rfl,b!.clean (r:=false) (λb hb=>hb) (λe=>by simp at e) rfl t8,rfl⟩) (λv A hC=>?_) (λch A hC=>?_) (λA hC=>?_)
 case refine_2=>obtain⟨_,_,_,_,_,C⟩:=hC;have:=C.res;simp at this
 case refine_3=>obtain⟨_,_,_,_,_,C⟩:=hC;have:=C.res;simp at this
 obtain⟨b,cap,S1,pv,B,C⟩:=hC;obtain rfl:v= .slice (CW ⟨b,0,CU⟩) L.length cap:=by simpa using C.res
 have g9:(X.put (CW 9) (.slice (CW ⟨b,0,CU⟩) L.length cap)).tmps.getD 9 undef= .slice (CW ⟨b,0,CU⟩) L.length cap:=zh (by rw[H];decide);refine pY rfl (v:= .slice (CW ⟨b,0,CU⟩) L.length cap) (by simp only[execOp,show BG _ (.tmp 9)=_ from g9];simp) λa4 U=>?_;have aoS:a4.tmps.size=190:=by rw[U];simp[AU,H]
 have g3:a4.tmps.getD 3 undef= .pointer (CW ⟨t.β 0,0,CU⟩):=by rw[U,vC _ (by simp),vC _ (by simp)];exact e3
 have anv:a4.tmps.getD 5 undef= .slice (CW ⟨b,0,CU⟩) L.length cap:=by rw[U];exact zh (by simp[AU,H])
 have gd:a4.defers=[]:=by rw[U];exact W.defers
 refine wpList_nil ?_;clear U g9
 let i:=o.toNat%L.length
 have G:i<L.length:=AM _ h0;have V:=F.fresh 0 l0;have ar7:=F.ext.size;have I:mi S w w1 (t.β 0) L i b cap S1 pv B A:=⟨F.ext.plain.trans C.ext,F.ext.size,⟨V.2.1,V.1.elim id λh=>h.elim⟩,C.sub _ ao3,λq u=>C.sub q ((F.hS q).2 (.inl u)),hS,C.hb,by
  obtain⟨arr,ty,q1,_⟩:=C.box;exact(BT.1 q1).1,C.ext.size,C.nest,G⟩
 have UU:∀g,nh g=CS->¬S1 g/\g≠b/\g<A.heap.size/\da A g 0 ((iU g).map (Value.int (vv g))):=λg hg=>by
  obtain⟨q1,q2,arr,ty,fr,q3,q4⟩:=F.gw g hg;have:=C.hb;have:=C.ext.size;exact⟨λh=>(C.sup g h).elim q1 λh=>by omega,by omega,by omega,arr,ty,fr,by rw[C.ext.block g q2];exact q3,q4⟩
 have hz:∃arr ty,A.heap[t.β 0]? =CW (.cells arr ty (0,0))/\arr.size=(t.sz 0).n/\(t.sz 0).wd=0/\arr[0]? =CW (.int .u8 o)/\arr[1]? =CW (.int .u8 l)/\arr[2]? =CW (.int .i64 y):=by
  obtain⟨arr,ty,q1,q2,q3,cs,q4,q5⟩:=F.box 0 _ l0 rfl;obtain⟨x1,y1,rfl,Z,x2,y2,rfl,s2,x3,y3,rfl,Y,s4⟩:=q4;have Z:x1=[.int .u8 o]:=Z;have s2:x2=[.int .u8 l]:=s2;have Y:x3=[.int .i64 y]:=Y;subst Z;subst s2;subst Y;exact⟨arr,ty,by rw[C.ext.block _ V.2.1];exact q1,q2,q3,q5 0 _ rfl,q5 1 _ rfl,q5 2 _ rfl⟩
 have hO:=adS I C.box hz UU g3 anv C.jy aoS;rw[gd]at hO;clear h1 W F t8 P ha;refine wp_seq (rZ (x:=cN (aW (aW nc))) (cast (aj5 _ _ _ (L.getD i aB) o l y _ _ rfl) (aJ beq_iff_eq (λz=>C8 z (by omega)) λ_ c5 a5 w5 O=>?_)) hO);have anc:DE (wrap CZ o) (L.length:C9)=(i:C9):=by
  rw[aU (by omega) (by omega)]
  grind
 refine wp_seq (rZ (x:=cN (aW (aW (aW nc)))) (cast (aj6 _ _ _ (L.getD i aB) o l y _) ⟨by omega,λc6 a6 w6 T=>?_⟩) (O.re [(3,.bp 0 0),(5,.bs 1 0 L.length)] _ O.mem (fa (O.tm 3) (fa (O.tm 5) f0))));rw[anc]at T;refine wp_seq (rZ (x:=cN (aW (aW (aW (aW nc))))) (cast (aj7 _ _ _ (L.getD i aB) o l y i _ _ rfl _ rfl) ⟨by omega,by rw[Z8];exact G,λaqo a7 w7 D=>?_⟩) (T.re [(3,.bp 0 0),(5,.bs 1 0 L.length),(6,.int .i64 i)] _ T.mem (fa (T.tm 3) (fa (T.tm 5) (fa (T.tm 6) f0)))));rw[Z8]at D;refine wp_seq (wp_seq (rZ (x:=cN (cN Hu)) (cast (aj8 _ _ _ (L.getD i aB) o l y i _) ⟨by omega,λc8 a8 w8 N=>?_⟩) (D.re [(3,.bp 0 0),(5,.bs 1 0 L.length),(6,.int .i64 i),(7,.bp 4 0)] (g! L pv B (L.getD i aB) o l y++[Hv L pv B i]) D.mem (fa (D.tm 3) (fa (D.tm 5) (fa (D.tm 6) (fa (D.tm 7) f0)))))));have h9:=adT I rfl (N.re [(3,.bp 0 0),(5,.bs 1 0 L.length),(6,.int .i64 i),(7,.bp 4 0),(26,.int .u8 (DE l 16))] _ N.mem (fa (N.tm 3) (fa (N.tm 5) (fa (N.tm 6) (fa (N.tm 7) (fa (N.tm 26) f0))))));clear O T D N hO hz UU;have M:∀q,(∃k,o8 pv B i k/\chβ (t.β 0) b pv B i k=q)->w.heap.size<=q:=λq u=>(I.X1 u).1;have Le:∀q,S q->sw (t.β 0) b pv B i S1 q:=λq u=>⟨I.sub q u,λK=>by have:=hS q u;have:=M q K;omega⟩;have hs:s? (L.getD i aB):=hc _ (by rw[AF,A8 G,Option.getD_some];exact BP G);have aoy:0<=DE l 16/\DE l 16<16:=by rw[Int.tmod_eq_emod_of_nonneg aoB];omega
 by_cases J:DE l 16=15
 .rw[J]at h9;have eL:iS L o l y=L.take i++L.drop (i+1):=by unfold iS;rw[DD J]
  refine akT h9 G hlen (λch a d v w h=>by cases d<;>exact h) λc a R h a' w' v e1 e2 e3 U=>?_;have hU:∀q,q<A.heap.size->¬m3 (t.β 0) b pv B i q->w'.heap[q]? =A.heap[q]? :=λq u K=>(e3.block q (AI u h.mem.ext.size)).trans (h.mem.ext.block q u K);have hr:=I.rest hU;have hE:=(dp.ext (b:=⟨A,_,_, []⟩) I.ext h.mem.ext M).trans e3;refine⟨e2.trans h.defers,_,Tf a' w',hE,?_⟩;rw[e1,eL];obtain⟨a0,s6,rfl,an3,aoG⟩:=U;have hn:=aeK G;refine aS rfl (by simp) rfl ⟨a0,s6,by rw[hn],by rw[hn];exact an3,λQ=>?_⟩;rw[hn]at Q;obtain⟨b',f1,f2,f3⟩:=aoG Q;have jx:¬S b':=λK=>by
   have h3:=hS b' K;have h4:=I.ext.size;have O:=h.mem.ext.size;have O:A.heap.size<=R.heap.size:=O;rcases f2 with f2|f2
   .obtain⟨_,g2,_⟩:=h.mem.bz 1 _ _ ⟨rfl,rfl,rfl⟩;have:=I.hb;have:=I.sz;omega
   .omega
  refine⟨b',0,f1,jx,λj hj=>?_⟩;rw[hn]at hj;obtain⟨cs,r1,r2,r3⟩:=f3 j hj;have Vd:(if j<i then j else j+1)<L.length/\(if j<i then j else j+1)≠i:=⟨RW G hj,agR⟩;have anf:=aeJ G hj;refine⟨cs,r2,?_,by rw[AQ];exact r3⟩;obtain⟨q1,q2⟩:=hr _ Vd.1 Vd.2;unfold aF;rw[anf];generalize (if j<i then j else j+1)=jj at *;have r4:=BA (⟨λq _ u=>(h.mem.hS q).2 (.inl (Le q u)),λ_ _ h=>h,λ_ h=>h.elim,λq u _=>e3.block q u,λ_ _ h=>(h trivial).elim⟩:bf c.elem (AZ S).elem R w') _ _ r1;obtain⟨x1,y1,rfl,Z,x2,y2,rfl,s2,x3,y3,rfl,Y,x4,y4,rfl,s4,apK⟩:=r4;obtain⟨rfl,_⟩:x3=[pv jj]/\_:=Y;obtain⟨rfl,_⟩:x4=[B jj]/\_:=s4;exact⟨x1,_,rfl,Z,x2,_,rfl,s2,_,_,rfl,q1,_,_,rfl,q2,apK⟩
 .have eL:iS L o l y=L.set i (p5 (L.getD i aB) (DE l 16) y):=by unfold iS;rw[if_neg J]
  have hQ:∀tm bx c a R,St (sw (t.β 0) b pv B i S1) ⟨A,λq=>∃k,o8 pv B i k/\chβ (t.β 0) b pv B i k=q,λk q z=>k=1/\q=b/\z=⟨cap*18,18⟩, []⟩ ⟨190,tm,bx,2⟩ c a R->c.live 1->c.live 4->∀c' a' w',St (sw (t.β 0) b pv B i S1) ⟨R,λq=>∃k,(k=1\/k=4)/\c.β k=q,λk q z=>k=1/\q=c.β 1/\z=c.sz 1,a.defers⟩
    ⟨190, [(4,.bs 1 0 L.length)], [gB,⟨CT,.rows 18 L.length (λj=>DB (j.beq i) (jY (p5 (L.getD i aB) (DE l 16) y) 200) (jX L pv B j))⟩,gB,gB,gB],2⟩ c' a' w'->
    bodyPost AA A9 (λe w'=>Ext w w'/\(cg.ret (.sl 18 (iS L o l y).length (aF (iS L o l y) 200))).holds (AZ S) w' e) .ret a' w':=λtm bx c a R h l1 l4 c' a' w' D=>by
   have nj:∀k,(k=1\/k=4)->A.heap.size<=c.β k\/m3 (t.β 0) b pv B i (c.β k):=λk hk=>by
    rcases hk with rfl|rfl
    .exact(h.mem.fresh 1 l1).1
    .exact(h.mem.fresh 4 l4).1
   have HO:∀q,(∃k,(k=1\/k=4)/\c.β k=q)->w.heap.size<=q:=λq ⟨k,hk,e⟩=>by
    have h4:=I.ext.size;rcases nj k hk with h|h
    .omega
    .have:=M _ h;omega
   have hU:∀q,q<A.heap.size->¬m3 (t.β 0) b pv B i q->w'.heap[q]? =A.heap[q]? :=λq u K=>(D.mem.ext.block q (AI u h.mem.ext.size) λ⟨k,hk,e⟩=>by
    grind).trans (h.mem.ext.block q u K)
   refine⟨D.defers.trans h.defers,_,Tf a' w',dp.ext (b:=⟨R,_,_,a.defers⟩) (dp.ext (b:=⟨A,_,_, []⟩) I.ext h.mem.ext M) D.mem.ext HO,?_⟩;rw[eL];exact adV D Le (λK=>by have:=hS _ K;have:=HO _ ⟨1,.inl rfl,rfl⟩;omega) G (I.rest hU)
  by_cases aox:DE l 16=14
  .rw[aox]at h9 hQ;exact akS h9 hs G (λk q z h=>h.1) (λch a d v w h=>by cases d<;>exact h) hQ
  .exact adW h9 aoy.1 (by omega) hs hy G hQ
def xB:aG
 |[.sl 18 0 f]=>CW (CU,.ret (.sl 18 0 f))
 |_=>CU
def T6:Z->MS->CX bt:=λ_ _=>CW (.pj 1)
def X8(f:Z->MV):((0<=0/\(0+AP (bh.rows 18 0 f))*288<=140737488355328)/\0+AP (bh.rows 18 0 f)<=0+0/\18=18/\0+AP (bh.rows 18 0 f)=0/\al (0+AP (bh.rows 18 0 f)) (λq=>bif A4 q 0 then aT [] q else f (q-0)) f)=aI (aK [] T6) BU [.sl 18 0 f] (AS (.ret (.sl 18 0 f))):=by kernel_rfl
def ZK:bC BU xB:=by
 intro ms p r h hp;unfold xB at h;split at h
 .rename_i f;cases h;refine⟨aK [] T6,?_⟩;rw[<-X8 f];exact⟨⟨Z9 _,by show(0+0)*288<=_;omega⟩,Z0 _,rfl,rfl,⟨λi a=>M a (AE i)⟩⟩
 .simp at h
def IE:ai AA:=⟨29,xB,λargs w=>CK args w,aO bQ CH xB ZK⟩
def agk(f:Z->MV)(a b y:Y):(18=18/\0=0/\al 0 f f)=aI (aK [IE] aC) A9 [.sl 18 0 f,zM a b y] (AS (.ret (.sl 18 0 f))):=by kernel_rfl
structure ta (n:Nat) (f:Nat->MV) (st pt y:Int):Prop where
 ok:ct n f
 ch:∀s∈aE n f,s? s
 asH:0<=st/\st<=255
 asw:0<=pt
 y0: -9223372036854775808<=y/\y<=9223372036854775807
def Kw:aG
 |[.sl 18 n f,.st [.int .u8 a,.int .u8 b,.int .i64 y]]=>CW (CW (ta n f a b y),.ret (.sl 18 (iS (aE n f) a b y).length (aF (iS (aE n f) a b y) 200)))
 |_=>CU
def adq(a b y:Y):iS [] a b y=[]:=by
 unfold iS;split
 .rw[List.take_nil,List.drop_nil];rfl
 .rfl
def J0:aG
 |[.sl 18 0 f,.st [.int .u8 a,.int .u8 b,.int .i64 y]]=>CW (CW (0=0*(a+b+y)),.ret (.sl 18 0 f))
 |_=>CU
def aiv:bC A9 J0:=by
 intro ms p r h hp;unfold J0 at h;split at h
 .rename_i f a b y;cases h;refine⟨aK [IE] aC,?_⟩;show aI (aK [IE] aC) A9 [.sl 18 0 f,zM a b y] (AS (.ret (.sl 18 0 f)));rw[<-agk f a b y];exact⟨rfl,rfl,AC⟩
 .simp at h
def aaW(S:Z->Prop)(w:U)(m:V MV)(args:N W)(p:bq)(r:cg)(j:Kw m=CW (p,r))(u:p.holds)(q:∀b,S b->b<w.heap.size)(s:GW S w)(o:cr (BB S) w m args.toList):Calls AA 11 args w λe w'=>Ext w w'/\r.holds (AZ S) w' e:=by
 unfold Kw at j;split at j
 .rename_i n f d g y;simp only[Z1,Z2]at j;obtain⟨rfl,rfl⟩:=j;obtain⟨t,C,B,A,z⟩:ta n f d g y:=u;have k:fq 0 (BB S) (BB S):=⟨λ_ h=>h,λ_ h=>h,λi hi=>by omega⟩;by_cases D:n=0
  .subst D;have:=aO bQ CI J0 aiv S w [.sl 18 0 f,.st [.int .u8 d,.int .u8 g,.int .i64 y]] args _ _ rfl (show 0=0*(d+g+y) by omega) q s o;rw[show aE 0 f=[] from rfl,adq];refine this.mono λe w' ⟨q1,l⟩=>⟨q1,?_⟩;cases e with
   |returned v =>
    obtain⟨a,cap,e,x,_⟩:=rm (show af (AZ S) w' (.sl 18 0 f) v from l);rw[e];exact aS rfl (by simp) rfl ⟨a,cap,rfl,x,λh=>M h (Nat.lt_irrefl 0)⟩
   |panicked c=>exact l.elim
   |outgrown=>exact l.elim
  .exact Xf t.T (by rw[dD];omega) C B A z q s (pJ k _ _ _ (show kU.dg 0 [.sl 18 n f,zM d g y] [.sl 18 (aE n f).length (aF (aE n f) 200),zM d g y] from ⟨t.le,⟨rfl,rfl,rfl,⟨⟩⟩,⟨⟩⟩) o)
 .simp at j
def ald:ai AA:=⟨11,Kw,λargs w=>Tryz.call11 args w,aaW⟩
structure i? (m:Nat) (s:ab):Prop where
 wd:Wd s.ah
 len:s.ah.length<=2+m
 parts:s.parts.length<=87+m
 base:s.base.length<=990+m
 sm:H5 (64+4*m) s
def aij(h:i? m s)(hm:m<=3):ff s:=⟨h.wd,by have:=h.len;omega,by have:=h.parts;omega,by have:=h.base;omega⟩
def tM{x a:Z}(h:x<2^a)(c:a<=b:=by omega):x<2^b:=AI h (BE (by omega) c)
def ami(h:i? m s)(hm:m<=2):s? s :=
 ⟨h.wd,by have:=h.len;omega,by have:=h.parts;omega,by have:=h.base;omega,
  ⟨tM h.sm.ca,tM h.sm.cb,tM h.sm.cm,tM h.sm.x,tM h.sm.y,tM h.sm.ord,λb a=>tM (h.sm.base b a)⟩⟩
def zI{c y:Y}(hc:c.natAbs<2^(64+4*m))(hy: -9223372036854775808<=y/\y<=9223372036854775807):(c+y).natAbs<2^(64+4*(m+1)):=by
 grind
def mul_two{c y:Y}(hc:c.natAbs<2^(64+4*m))(a:y.natAbs<=4):(c*y).natAbs<2^(64+4*(m+1)):=by
 have e:2^(64+4*(m+1))=2^(64+4*m)*16:=by rw[show 64+4*(m+1)=(64+4*m)+4 by omega,CO]
 rw[e,CD];have h1:=BH c.natAbs a;omega
def lN{c:Y}(a:c.natAbs<2^(64+4*m)):c.natAbs<2^(64+4*(m+1)):=tM a
def Jq(k K:Z)(v:Y)(g:J)(h:k<=K:=by omega):(sg g (wv (bS k v))).natAbs<4294967296^K:=by
 have a:=fZ (gY k v);have h0:=aZ (gY k v);rw[iE]at a;have e1:((4294967296^k:Z):Y)=4294967296^k:=Int.natCast_pow ..;have e2:4294967296^k<=4294967296^K:=BE (by omega) h
 grind [sg]
def Ry{c:J}{a b:Y}{Z:C1}(ha:a.natAbs<Z)(hb:b.natAbs<Z):(T c a b).natAbs<Z:=by
 grind
def agI{g:J}{l:V Y}{y:Y}(hy: -9223372036854775808<=y/\y<=9223372036854775807)(m:Z)(hl:l.length<=2+m):(aA (i9 g l y).natAbs).length<=2+(m+1):=by
 have h2:(aA y.natAbs).length<=2:=cJ;refine cJ ?_;unfold i9;exact Ry (Jq _ _ _ _) (Ry (Jq _ _ _ _) (Jq _ _ _ _))
def agQ{l:V Y}{v x:Y}(h:x∈l.set i v):x∈l\/x=v:=(BX h)
def aau{l:V Y}(h:∀b∈l,b.natAbs<2^(64+4*m)):(l.getD 0 0).natAbs<2^(64+4*m):=by
 grind
def amW{y:Y}(hy: -9223372036854775808<=y/\y<=9223372036854775807)(m:Z):y.natAbs<2^(64+4*(m+1)) :=
 tM (show y.natAbs<2^64 by omega)
def lF{c:Prop}[Decidable c]{a b:ab}(h1:i? m a)(h2:i? m b):i? m (if c then a else b):=by
 grind
theorem aii(h:i? m s)(p:Y){y:Y}(d: -9223372036854775808<=y/\y<=9223372036854775807):i? (m+1) (p5 s p y):=by
 have f:=h.len;have hp:=h.parts;have c:=h.base;have a:H5 (64+4*(m+1)) s:=⟨lN h.sm.ca,lN h.sm.cb,lN h.sm.cm,lN h.sm.x,lN h.sm.y,lN h.sm.ord,λb c=>lN (h.sm.base b c)⟩;have e:(G y 5).natAbs<=4:=by
  grind
 unfold p5;refine lF ⟨aN _,agI d m f,by show s.parts.length<=_;omega,by show s.base.length<=_;omega,a.ca,a.cb,a.cm,a.x,a.y,a.ord,a.base⟩ ?_;refine lF ⟨h.wd,by show s.ah.length<=_;omega,by show s.parts.length<=_;omega,by show s.base.length<=_;omega,a.ca,a.cb,a.cm,a.x,a.y,a.ord,a.base⟩ ?_;refine lF ⟨h.wd,by show s.ah.length<=_;omega,by show(s.parts++[y]).length<=_;rw[AY,BD];omega,by show s.base.length<=_;omega,a.ca,a.cb,a.cm,a.x,a.y,a.ord,a.base⟩ ?_;refine lF ⟨h.wd,by show s.ah.length<=_;omega,by show(s.parts.set 0 _).length<=_;rw[AK];omega,by show s.base.length<=_;omega,a.ca,a.cb,a.cm,a.x,a.y,a.ord,a.base⟩ ?_;refine lF ⟨h.wd,by show s.ah.length<=_;omega,by show(s.parts.take _).length<=_;rw[AX];omega,by show s.base.length<=_;omega,a.ca,a.cb,a.cm,a.x,a.y,a.ord,a.base⟩ ?_;refine lF ⟨h.wd,by show s.ah.length<=_;omega,by show s.parts.length<=_;omega,by show(s.base++[y]).length<=_;rw[AY,BD];omega,a.ca,a.cb,a.cm,a.x,a.y,a.ord,λb c=>(B8.1 c).elim (a.base b) (λc=>by rw[B2.1 c];exact amW d m)⟩ ?_;refine lF ⟨h.wd,by show s.ah.length<=_;omega,by show s.parts.length<=_;omega,by show(s.base.set 0 _).length<=_;rw[AK];omega,a.ca,a.cb,a.cm,a.x,a.y,a.ord,λb c=>(agQ c).elim (a.base b) (λc=>by rw[c];exact zI (aau h.sm.base) d)⟩ ?_;refine lF ⟨h.wd,by show s.ah.length<=_;omega,by show s.parts.length<=_;omega,by show s.base.length<=_;omega,zI h.sm.ca d,a.cb,a.cm,a.x,a.y,a.ord,a.base⟩ ?_;refine lF ⟨h.wd,by show s.ah.length<=_;omega,by show s.parts.length<=_;omega,by show s.base.length<=_;omega,a.ca,zI h.sm.cb d,a.cm,a.x,a.y,a.ord,a.base⟩ ?_;refine lF ⟨h.wd,by show s.ah.length<=_;omega,by show s.parts.length<=_;omega,by show s.base.length<=_;omega,a.ca,a.cb,a.cm,zI h.sm.x d,a.y,a.ord,a.base⟩ ?_;refine lF ⟨h.wd,by show s.ah.length<=_;omega,by show s.parts.length<=_;omega,by show s.base.length<=_;omega,a.ca,a.cb,a.cm,a.x,by show(-s.y).natAbs<_;rw[Int.natAbs_neg];exact a.y,a.ord,a.base⟩ ?_;refine lF ⟨h.wd,by show s.ah.length<=_;omega,by show s.parts.length<=_;omega,by show s.base.length<=_;omega,a.ca,a.cb,a.cm,a.x,a.y,a.ord,a.base⟩ ?_;refine lF ⟨h.wd,by show s.ah.length<=_;omega,by show s.parts.length<=_;omega,by show s.base.length<=_;omega,a.ca,a.cb,a.cm,a.x,a.y,mul_two h.sm.ord e,a.base⟩ ?_;refine lF ⟨h.wd,by show s.ah.length<=_;omega,by show s.parts.length<=_;omega,by show s.base.length<=_;omega,a.ca,a.cb,a.cm,a.x,a.y,zI h.sm.ord d,a.base⟩ ?_;exact⟨h.wd.append (Wd.one (by omega)),by show(s.ah++[0]).length<=_;rw[AY,BD];omega,by show s.parts.length<=_;omega,by show s.base.length<=_;omega,a.ca,a.cb,a.cm,a.x,a.y,a.ord,a.base⟩
theorem amj(h:i? m s):i? (m+1) s :=
 ⟨h.wd,by have:=h.len;omega,by have:=h.parts;omega,by have:=h.base;omega,lN h.sm.ca,lN h.sm.cb,lN h.sm.cm,lN h.sm.x,lN h.sm.y,lN h.sm.ord,λb a=>lN (h.sm.base b a)⟩
def Rk{L:V ab}(h:∀s∈L,i? m s)(a p:Y){y:Y}(hy: -9223372036854775808<=y/\y<=9223372036854775807):∀s∈iS L a p y,i? (m+1) s:=by
 grind [iS,amj,List.mem_of_mem_take,List.mem_of_mem_drop,BX,B4,List.eq_nil_of_length_eq_zero,aii,AM,A8,BP]
def aaV(L:V ab)(a p y:Y):(iS L a p y).length<=L.length:=by
 grind [iS,AY,AX,BO,AK]
structure jk (N:Nat) (s:ab):Prop where
 lv:i? 0 s
 cm:s.cm=0\/s.cm=N
def Ew{n:Z}(h:n<18446744073709551616:=by omega):(aA n).length<=2+0:=cJ
def L2(k:Y)(g:J)(m p b:V Y)(a:∀x∈b,x.natAbs<18446744073709551616):H5 64 ⟨k,g,m,p,b,0,0,0,0,0,CT,0⟩:=by
 have h:(0:Y).natAbs<2^64:=by decide
 exact⟨h,h,h,h,h,h,a⟩
theorem J9(N:Z){z:Y}(h:0<=z)(h2:z<18446744073709551616):jk N (bX z) :=
 ⟨⟨aN _,Ew,Z9 _,Z9 _,L2 _ _ _ _ _ λ_ h=>M h AW⟩,.inl rfl⟩
theorem ahS(n:Z)(q:Y):((gP n q:Z):Y).natAbs<18446744073709551616:=by
 grind [A6,Qz,Fm,gN]
def R8(a:1<=m:=by omega)(c:m<1099511627776:=by omega):(aL m).length<=40:=by
 have h:=l5 a;rw[<-fK]at h;have h3:=qY (aL m) λx b=>by
  rw[fK]at b;obtain⟨p,rfl,a,_⟩:=(fQ a).mem x b;have:=a.lt;omega
 have:=qc (n:=m) (by omega) c;omega
def Tj(N n:Z)(hn:2<=n)(ek:n<1099511627776)(pr:V ab->Y->V ab)(M:V ab):jk N (uY n (gv pr M (aL (n-1))) ((aL (n-1)).map λq=>(gP n q:Y))):=by
 have hl:=R8 (m:=n-1);refine⟨⟨aN _,Ew,?_,?_,L2 _ _ _ _ _ λx hx=>?_⟩,.inl rfl⟩
 .show(gv pr M (aL (n-1))).length<=_;rw[Cc];omega
 .show(List.map _ (aL (n-1))).length<=_
  grind
 grind [ahS]
def Mb(N:Z)(pr:V ab->Y->V ab)(x:Y):Prop:=∀L:V ab,(∀s∈L,jk N s)->∀s∈pr L x,jk N s
def Ev(N:Z)(pr:V ab->Y->V ab):∀(q:V Y) (L:V ab),(∀x∈q,Mb N pr x)->(∀s∈L,jk N s)->∀s∈pZ pr L q,jk N s
 |[],_,_,a=>a
 |x::r,L,h,a=>Ev N pr r (pr L x) (λy b=>h y (AG _ b)) (h x (AH ..) L a)
theorem sZ{N:Z}{L:V ab}{b:ab}(c:∀s∈L,jk N s)(h:jk N b):∀s∈L++[b],jk N s:=λs a =>
 (B8.1 a).elim (c s) λa=>by rw[B2.1 a];exact h
def Cj{n:Z}(h:1<=n){x:Y}(a:x∈aL n):2<=x/\x<=n:=by
 rw[fK]at a;obtain⟨p,rfl,c,b,_⟩:=(fQ h).mem x a;have:=c.lt;have:=A3 (by omega) b;omega
def Cg(N:Z):∀(f:Z) (z:Y),2<=z->z<1099511627776->Mb N (eK f) z
 |0,z,h,h2,L,a=>sZ a (J9 N (by omega) (by omega))
 |f+1,z,h,h2,L,a=>by
  unfold eK;split
  .grind [sZ,J9]
  .unfold kf;exact sZ (Ev N _ _ L (λx b=>Cg N f x (Cj (show 1<=z.toNat-1 by omega) b).1 (by have:=(Cj (show 1<=z.toNat-1 by omega) b).2;omega)) a) (Tj N _ (by omega) (by omega) _ _)
def He{N:Z}:∀s∈([]:V ab),jk N s:=λ_ h=>M h AW
def aeC(N f n:Z)(b:2<=n:=by omega)(ek:n<1099511627776:=by omega):∀s∈m8 f [] n,jk N s:=by
 rw[Cf];unfold kf;exact sZ (Ev N _ _ [] (λx a=>by have:=Cj (by omega) a;exact Cg N f x (by omega) (by omega)) He) (Tj N n b ek _ _)
def aeD(N f n b:Z)(hn:2<=n:=by omega)(ek:n<1099511627770:=by omega):∀s∈qJ f [] n b,jk N s:=by
 rw[I!];unfold qm;have hl:=R8 (m:=n+1);refine sZ (by rw[nZ];exact Ev N _ _ [] (λx a=>by have:=Cj (by omega) a;exact Cg N f x (by omega) (by omega)) He) ⟨⟨aN _,Ew,?_,by show 2<=990;omega,L2 _ _ _ _ _ λx a=>?_⟩,.inl rfl⟩
 .show(eu f [] (aL (n+1))).length<=_;rw[yH,Cc];omega
 .simp only[List.mem_cons,AW,or_false]at a;rcases a with rfl|rfl
  .unfold fv;rw[A6];rcases B4 (n-1)with e|e
   .omega
   .have:=AM (mr n b (jD f [] (aL (n+1))) (eu f [] (aL (n+1)))) e;omega
  .unfold fw;rw[A6];have:=AM (1+mr n b (jD f [] (aL (n+1))) (eu f [] (aL (n+1)))/7) (show 0<n by omega);omega
def aio{n:Z}(c:bg n)(f:7<=n)(h2:n<1512)(d:Z):∀s∈kb [] n d,jk n s:=by
 rw[Jp];generalize m? [] n d=K;have R:=E! c f (by omega) K;have hle:jT n K<=1+2*n:=by unfold jT;rw[sI];exact JU c _ _ n
 have aoD:=R.HX;have hq:=R.q.lt;have e:iK [] n K=([]++[bX (xR n K)])++[lT n 0 (rE n K) (tY n K) (ef n K) (dy n K) (jT n K)]:=rfl;rw[e];have ha:=R.a;have hb:=R.b;have hx:=R.x;have hy:=R.y;refine sZ (sZ He (J9 n (by omega) (by omega))) ⟨⟨aN _,Ew,by show 1<=87;omega,Z9 _,?_,?_,?_,?_,?_,?_,λ_ h=>M h AW⟩,.inr rfl⟩
 all_goals (show(Int.ofNat _).natAbs<2^64;rw[Int.ofNat_eq_natCast,A6])
 all_goals omega
def ail(a n f:Z):∀s∈pM a n f,jk (en a n) s:=by
 unfold pM;split
 .rename_i h;have e:en a n=fU (n%65000):=by unfold en;rw[x h]
  have c:=AM n (show 0<65000 by omega);have k:=u7 (m:=n%65000) (q:=65003) (by omega) (by omega) Kb (by unfold ga;omega);have:=k.hi;have k5:=k.pr.lt;rw[e,pU];exact Cg _ 0 _ (by omega) (by omega) [] He
 .split
  .rename_i b h;have e:en a n=fU (3+n%67108864):=by unfold en;rw[F b,x h]
   have c:=AM n (show 0<67108864 by omega);obtain⟨q,q1,_,k⟩:=r8 (m:=3+n%67108864);rw[e];have i:=k.hi;have g:=k.lo;exact aeC _ 10 _
  .split
   .rename_i b d h;have e:en a n=fU (5+n%1048576):=by unfold en;rw[F b,F d,x h]
    have c:=AM n (show 0<1048576 by omega);obtain⟨q,_,q1,k⟩:=r8 (m:=5+n%1048576);rw[e];have i:=k.hi;have g:=k.lo;exact aeD _ 4 _ f
   .rename_i b d h;have e:en a n=fU (7+n%1500):=by unfold en;rw[F b,F d,F h]
    have c:=AM n (show 0<1500 by omega);have j:hH 1511=CS:=zx (oG (by omega) (by omega) (by decide +kernel)) (by decide);have k:=u7 (m:=7+n%1500) (q:=1511) (by omega) (by omega) j (by unfold ga;omega);rw[e];have i:=k.hi;have g:=k.lo;exact aio k.pr (by omega) (by omega) f
def Nz:aG
 |[.st [.bool g,.ws l],.st [.bool b,.ws m]]=>CW (CW (cR g l/\cR b m),.ret (.bool (I (dJ g l=dJ b m))))
 |_=>CU
def Nd:ai AA:=kZ.conv Nz λms p r h a hf=>by
 unfold Nz at h;split at h
 .rename_i g l b m;simp only[Z1,Z2]at h;obtain⟨rfl,rfl⟩:=h;obtain⟨d,c⟩:cR g l/\cR b m:=a;exact⟨[.aa (dJ g l) 200,.aa (dJ b m) 200],_,⟨pW d,pW c,⟨⟩⟩,rfl,by omega,by omega⟩
 .simp at h
def Zr(L:V ab)(g:J)(l:V Y)(T:J)(a:_)(b:a=(C0 L (E (O CZ ((C L:Y)-1))) aB)):(ct (C L) (aF L 200)/\bif dq (aE (C L) (aF L 200))==0 then (0<=O CZ ((C L:Y)-1)/\O CZ ((C L:Y)-1)<(C L:Y))/\(cR (ab.neg a) (ab.ah a)/\cR g l)/\I (dJ (ab.neg a) (ab.ah a)=dJ g l)=T else CT=T)=aI (aK [sD,Nd] aC) CA [.sl 18 L.length (aF L 200),.st [.bool g,.ws l]] (AS (.ret (.bool T))):=by subst b;kernel_rfl
def ZT(L:V ab)(g:J)(l:V Y)(h:ee L)(a:dq L=0->cR g l):∃E:Env AA,aI E CA [.sl 18 L.length (aF L 200),.st [.bool g,.ws l]] (AS (.ret (.bool (gM L (dJ g l))))):=by
 refine⟨aK [sD,Nd] aC,?_⟩;rw[<-Zr L g l (gM L (dJ g l)) _ rfl];rw[iD];have hl:=h.len;unfold gM;refine⟨iA h,aJ beq_iff_eq (λz=>?_) (λz=>by rw[Y1 z,Bool.false_and])⟩;obtain⟨h0,b⟩:=I8 z;have e:O CZ ((L.length:Y)-1)=((L.length-1:Z):Y):=by rw[aU (by omega) (by omega)];omega
 rw[e,Z8,Y0 z,Bool.true_and];exact⟨by omega,⟨zt h b,a z⟩,rfl⟩
def zn:aG
 |[.sl 18 n f,.st [.bool g,.ws l]]=>CW (CW (ct n f/\(dq (aE n f)=0->cR g l)),.ret (.bool (gM (aE n f) (dJ g l))))
 |_=>CU
def abP:∀b p r,zn b=CW (p,r)->p.holds->fB b->∃az,kU.dg 0 b az/\∃E:Env AA,aI E CA az r.sat:=by
 intro b p r a d hf;unfold zn at a;split at a
 .rename_i n f g l;simp only[Z1,Z2]at a;obtain⟨rfl,rfl⟩:=a;obtain⟨h,c⟩:=d;exact⟨[.sl 18 (aE n f).length (aF (aE n f) 200),.st [.bool g,.ws l]],⟨h.le,⟨rfl,rfl,⟨⟩⟩,⟨⟩⟩,ZT (aE n f) g l h.T c⟩
 .simp at a
def aaq:ai AA:=⟨14,zn,λargs w=>Tryz.call14 args w,fT bQ Tryz.func14 zn abP⟩
def aap:ai AA:=ai.or aaq Qj rfl
def agl(n:Z)(f:Z->MV)(x y:Y):(ct n f/\p9 (aE n f)=x/\dq (aE n f)=y/\R)=aI (aK [sD] aC) CR [.sl 18 n f] (AS (.ret (.st [.int .i64 x,.int .i64 y]))):=by kernel_rfl
def xA:aG
 |[.sl 18 n f]=>CW (CW (ct n f),.ret (.st [.int .i64 (p9 (aE n f)),.int .i64 (dq (aE n f))]))
 |_=>CU
def Ys:bC CR xA:=by
 intro ms p r h a;unfold xA at h;split at h
 .rename_i n f;cases h;have b:ct n f:=a;refine⟨aK [sD] aC,?_⟩;rw[<-agl n f (p9 (aE n f)) (dq (aE n f))];exact⟨b,rfl,rfl,⟨⟩⟩
 .simp at h
def YU:ai AA:=⟨12,xA,λargs w=>Tryz.call12 args w,aO bQ Tryz.func12 xA Ys⟩
def tD(l:V (V ab))(i:Z):MV:= .sl 18 (l.getD i []).length (aF (l.getD i []) 200)
def akY(l:V (V ab)):Z->MS->CX bt
 |7,e=>CW (.inv Z (λi=>i<=l.length) (λi=>⟨99, [(7,.bool CS),(8,tD l 0),(9,.sl 1 l.length (tD l)),(10,.int .i64 i)],e.bx,0⟩) (λi=>l.length-i))
 |_,_=>CU
def K6(l:V (V ab)):Env AA:=⟨[ahU,adC,ald,YU,adM,aap,adQ,sG,fS,cB], [],39,akY l,(fun|999994=> [0]|_=> []),λ_ _=>CU⟩
def alv(a n r g k f s2 h e:Y)(l:V (V ab))(T:J)(d:_)(A:d=(pM (E a) (E n) (E r)))(c:_)(z:c=λ(i:Z)=>(C0 l (E (i:Y)) []))(q:_)(B:q=λ(i:Z)=>(C0 (c i) (E (O CZ ((C (c i) :Y)-1))) aB))(p:_)(y:p=(iS (aE (C d) (aF d 200)) g k f))(o:_)(w:o=λ(i:Z)=>(aE (C (c i)) (aF (c i) 200)))(b:_)(v:b=(C0 l 0 []))(s:_)(u:s=λ(i:Z)=>(C (ab.ah (q i)):Y))(m:_)(t:m=(C l:Y)):(((0<=a/\a<=255)/\(0<=n/\n<=4294967295)/\0<=r/\r<=65535)/\ta (C d) (aF d 200) g k f/\ta (C d) (aF d 200) g k f/\ta (C p) (aF p 200) s2 h e/\(∃i,i<=C l/\(CS=CS/\(18=18/\C d =C b/\al (C d) (aF d 200) (aF b 200))/\(1=1/\3=C l/\al 3 (aT [MV.sl 18 (C d) (aF d 200),MV.sl 18 (C p) (aF p 200),MV.sl 18 (C (iS (aE (C p) (aF p 200)) s2 h e)) (aF (iS (aE (C p) (aF p 200)) s2 h e) 200)]) (tD l))/\0=(i:Y)/\R)/\(a=a/\n=n/\r=r/\R)/\(g=g/\k=k/\f=f/\R)/\(s2=s2/\h=h/\e=e/\R)/\R)/\∀(i:Z),i<=C l->bif I ((i:Y)< m)then (0<=(i:Y)/\(i:Y)< m)/\ct (C (c i)) (aF (c i) 200)/\(0<=(i:Y)/\(i:Y)< m)/\ct (C (c i)) (aF (c i) 200)/\t! AA 35/\bif !e8 [p9 (o i),dq (o i)] [p9 (o i),dq (o i)]then CT=T else (0<=(i:Y)/\(i:Y)< m)/\bif (C (c i) :Y)==0 then ∃j,j<=C l/\((CS=CS/\(18=18/\C b =C b/\al (C b) (aF b 200) (aF b 200))/\(1=1/\C l=C l/\al (C l) (tD l) (tD l))/\O CZ ((i:Y)+1)=(j:Y)/\R)/\(a=a/\n=n/\r=r/\R)/\(g=g/\k=k/\f=f/\R)/\(s2=s2/\h=h/\e=e/\R)/\R)/\C l-j<C l-i else (0<=(i:Y)/\(i:Y)< m)/\(0<=(i:Y)/\(i:Y)< m)/\(0<=O CZ ((C (c i) :Y)-1)/\O CZ ((C (c i) :Y)-1)<(C (c i) :Y))/\(0<=(i:Y)/\(i:Y)< m)/\(ct (C (c i)) (aF (c i) 200)/\(dq (o i) =0->cR (ab.neg (q i)) (ab.ah (q i))))/\bif !gM (o i) (dJ (ab.neg (q i)) (ab.ah (q i)))==(dq (o i) ==0)then CT=T else (0<=(i:Y)/\(i:Y)< m)/\((∀(x:Y),x∈ab.ah (q i) ->0<=x/\x<4294967296)/\0<= (s i)/\(s i) <=1000/\C (ab.ah (q i))<9223372036854775808)/\32*E (s i) <=1000000/\fY 1/\(32*E (s i) <=1000000/\64<=1000000)/\(ct (C (c i)) (aF (c i) 200)/\max (32*E (s i)) 64+1<=1000)/\bif gM (o i) ((X (qd CT (ab.ah (q i)) (E (s i))):Y)+1)then CT=T else ∃j,j<=C l/\((CS=CS/\(18=18/\C b =C b/\al (C b) (aF b 200) (aF b 200))/\(1=1/\C l=C l/\al (C l) (tD l) (tD l))/\O CZ ((i:Y)+1)=(j:Y)/\R)/\(a=a/\n=n/\r=r/\R)/\(g=g/\k=k/\f=f/\R)/\(s2=s2/\h=h/\e=e/\R)/\R)/\C l-j<C l-i else ct (C b) (aF b 200)/\(dq (aE (C b) (aF b 200))==0)=T)=aI (K6 l) CE [.st [.int .u8 a,.int .u32 n,.int .u16 r],zM g k f,zM s2 h e] (AS (.ret (.bool T))):=by subst A z B y w v u t;kernel_rfl
def alD:t! AA 35:=⟨by kernel_rfl,by
 rw[Tryz.underlying35];decide⟩
def ad1{L:V ab}(h:ee L)(h0:L.length≠0):gM L (dJ (L.getD (L.length-1) aB).neg (L.getD (L.length-1) aB).ah)=(dq L==0):=by
 unfold gM;have e:(L.getD (L.length-1) aB).n=dJ (L.getD (L.length-1) aB).neg (L.getD (L.length-1) aB).ah:=rfl;rw[Y0 e,Bool.and_true];by_cases z:dq L=0
 .rw[z];rfl
 .rw[Y1 z,beq_eq_false_iff_ne.2 z]
def ad2{L:V ab}(h:ee L)(h0:L.length≠0):gM L (((qd CT (L.getD (L.length-1) aB).ah (L.getD (L.length-1) aB).ah.length).natAbs:Y)+1)=CT:=by
 unfold gM;have a:=(h.at _ (show L.length-1<L.length by omega)).wd;have h1:=aZ a;have e:qd CT (L.getD (L.length-1) aB).ah (L.getD (L.length-1) aB).ah.length=wv (L.getD (L.length-1) aB).ah:=by
  unfold qd;rw[List.take_length];rfl
 rw[e];have b:¬(L.getD (L.length-1) aB).n=((wv (L.getD (L.length-1) aB).ah).natAbs:Y)+1:=by
  unfold ab.n;split<;>omega
 rw[Y1 b,Bool.and_false]
def Hr(a n r c d b s2 f e:Y):V (V ab) :=
 [pM a.toNat n.toNat r.toNat,iS (pM a.toNat n.toNat r.toNat) c d b,iS (iS (pM a.toNat n.toNat r.toNat) c d b) s2 f e]
def ra(y:Y):Prop:= -9223372036854775808<=y/\y<=9223372036854775807
def ji(y:Y):Prop:=0<=y/\y<=255
def wb{L:V ab}(h:∀s∈L,i? m s)(b:m<=3)(hl:L.length<=200):ee L:=⟨by omega,λs a=>aij (h s a) b⟩
def J8{L:V ab}(h:∀s∈L,i? m s)(d:m<=2)(e:L.length<=200){s p y:Y}(a:ji s)(c:ji p)(b:ra y):ta L.length (aF L 200) s p y :=
 ⟨iA (wb h (by omega) e),by rw[iD];exact λs a=>ami (h s a) d,a,c.1,b⟩
structure Ia (a n r:Int):Prop where
 a:0<=a/\a<=255
 n:0<=n/\n<=4294967295
 r:0<=r/\r<=65535
def aml(a n r:Z):∀s∈pM a n r,i? 0 s:=λs b=>(ail a n r s b).lv
def S8{L:V ab}(h:L.length<=200)(s p y:Y):(iS L s p y).length<=200:=AN (aaV L s p y) h
def alx{a n r b c d s2 e f:Y}(u:Ia a n r)(C:ji b)(B:ji c)(v:ra d)(J:ji s2)(I:ji e)(A:ra f) :
  aI (K6 (Hr a n r b c d s2 e f)) CE [.st [.int .u8 a,.int .u32 n,.int .u16 r],zM b c d,zM s2 e f] (AS (.ret (.bool CS))):=by
 rw[<-alv a n r b c d s2 e f (Hr a n r b c d s2 e f) CS _ rfl _ rfl _ rfl _ rfl _ rfl _ rfl _ rfl _ rfl];have q:Hr a n r b c d s2 e f=[pM a.toNat n.toNat r.toNat,iS (pM a.toNat n.toNat r.toNat) b c d,iS (iS (pM a.toNat n.toNat r.toNat) b c d) s2 e f]:=rfl;generalize Hr a n r b c d s2 e f=l at *;have M:=aim a.toNat n.toNat r.toNat;have m:=aml a.toNat n.toNat r.toNat;have H:=M.dq;have o:=M.len;generalize pM a.toNat n.toNat r.toNat=L0 at *;have s:=Rk m b c v;have t:=S8 o b c d;rw[iD];generalize iS L0 b c d=L1 at *;rw[iD];have v2:=Rk s s2 e A;have G:=S8 t s2 e f;generalize iS L1 s2 e f=aqg at *;have E:l.getD 0 []=L0:=by rw[q];rfl
 have h:l.length=3:=by rw[q];rfl
 have ok:∀i,i<3->ee (l.getD i []):=by
  intro i p;rw[q]
  match i,p with
  |0,_=>exact wb m (by omega) o
  |1,_=>exact wb s (by omega) t
  |2,_=>exact wb v2 (by omega) G
 refine⟨⟨u.a,u.n,u.r⟩,J8 m (by omega) o C B v,J8 m (by omega) o C B v,J8 s (by omega) t J I A,⟨0,Z9 _,⟨rfl,?_,⟨rfl,h.symm,BZ λi p=>?_⟩,rfl,⟨⟩⟩,⟨rfl,rfl,rfl,⟨⟩⟩,⟨rfl,rfl,rfl,⟨⟩⟩,⟨rfl,rfl,rfl,⟨⟩⟩,⟨⟩⟩,λi p=>?_⟩
 .rw[E];exact⟨rfl,rfl,AC⟩
 .rw[q]
  match i,p with
  |0,_=>exact⟨rfl,rfl,AC⟩
  |1,_=>exact⟨rfl,rfl,AC⟩
  |2,_=>exact⟨rfl,rfl,AC⟩
 .rw[Z8,E,h,iD,iD];refine aJ Z4 (λq1=>?_) (λq1=>⟨iA (wb m (by omega) o),by rw[H];rfl⟩);have g:=ok i (by omega);generalize l.getD i []=L at *;have hl:=g.len;have k:(0:Y)<=(i:Y)/\(i:Y)<((3:Z):Y):=⟨by omega,q1⟩;have N:O CZ ((i:Y)+1)=((i+1:Z):Y):=by rw[aU (by omega) (by omega)];omega
  have x:∃j:Z,j<=3/\((CS=CS/\((18:Z)=18/\L0.length=L0.length/\al L0.length (aF L0 200) (aF L0 200))/\((1:Z)=1/\(3:Z)=3/\al 3 (tD l) (tD l))/\O CZ ((i:Y)+1)=(j:Y)/\R)/\(a=a/\n=n/\r=r/\R)/\(b=b/\c=c/\d=d/\R)/\(s2=s2/\e=e/\f=f/\R)/\R)/\3-j<3-i :=
   ⟨i+1,by omega,⟨⟨rfl,⟨rfl,rfl,AC⟩,⟨rfl,rfl,AC⟩,N,⟨⟩⟩,⟨rfl,rfl,rfl,⟨⟩⟩,⟨rfl,rfl,rfl,⟨⟩⟩,⟨rfl,rfl,rfl,⟨⟩⟩,⟨⟩⟩,by omega⟩
  refine⟨k,iA g,k,iA g,alD,mw (by rw[(Jr _ _).2 rfl];rfl) ⟨k,aJ beq_iff_eq (λ_=>x) (λz=>?_)⟩⟩;have D:L.length≠0:=by omega
  have K:O CZ ((L.length:Y)-1)=((L.length-1:Z):Y):=by rw[aU (by omega) (by omega)];omega
  rw[K,Z8,Z8];have y:=g.at (L.length-1) (by omega);have aoK:=y.len;have w:=ad1 g D;have F:=ad2 g D;refine⟨k,k,by omega,k,⟨iA g,λz=>zt g (I8 z).2⟩,mw (by rw[w];simp) ⟨k,⟨y.wd,by omega,by omega,by omega⟩,by omega,by omega,by omega,⟨iA g,by omega⟩,mw F x⟩⟩
def Gl:aG
 |[.st [.int .u8 a,.int .u32 n,.int .u16 r],.st [.int .u8 d,.int .u8 f,.int .i64 c],.st [.int .u8 s2,.int .u8 e,.int .i64 b]]=>CW (CW (Ia a n r/\(ji d/\ji f/\ra c)/\ji s2/\ji e/\ra b),.ret (.bool CS))
 |_=>CU
set_option maxRecDepth 100000 in
def alB:bC CE Gl:=by
 intro ms p r h g;unfold Gl at h;split at h
 .rename_i a n r d f c s2 e b;cases h;obtain⟨i,⟨q,o,m⟩,l,k,j⟩:Ia a n r/\(ji d/\ji f/\ra c)/\ji s2/\ji e/\ra b:=g;exact⟨K6 _,alx i q o m l k j⟩
 .simp at h
def akR:ai AA:=⟨3,Gl,λargs w=>Tryz.call3 args w,aO bQ Tryz.func3 Gl alB⟩
section
open Go Go.ChangeShapes Go.WideShapes Go.ChangeAt Go.RowKit
def Y8:Tryz.prog.cellsOf 23=1:=by kernel_rfl
def Y6:Tryz.prog.cellsOf 2=1:=by kernel_rfl
def Xd:Tryz.prog.cellsOf 25=3:=by kernel_rfl
def YZ:Tryz.prog.cellsOf 27=3:=by kernel_rfl
def Kv{n:Y}(h:(Lit.int .u8 n).wf=CS):0<=n/\n<=255:=by simpa [Lit.wf,IntKind.min,IntKind.max,IntKind.signed,IntKind.bits]using h
def akB{n:Y}(h:(Lit.int .u32 n).wf=CS):0<=n/\n<=4294967295:=by simpa [Lit.wf,IntKind.min,IntKind.max,IntKind.signed,IntKind.bits]using h
section
variable {H:Type} {enc:TypeId×Value->H} {w:World} {sp:Nat->Bool} {held:Bool} {v:Value} {d:DataW H} {ps:List MemPlace}
def acj(h:DataW.Trod enc AA w 0 sp held 25 v d ps) :
  ∃a n r,b! (BB pe) w (.st [.int .u8 a,.int .u32 n,.int .u16 r]) v/\(0<=a/\a<=255)/\(0<=n/\n<=4294967295)/\0<=r/\r<=65535:=by
 obtain⟨fuel,h⟩:=h;obtain⟨q,f',e⟩:=ME Tryz.underlying25 h;rw[Xd]at q
 match s:v.cells.toList,q with
 |[a,b,c],_ =>
  rw[s]at e;obtain⟨y0,i⟩:=e _ (AH ..);obtain⟨y1,g⟩:=e _ (AG _ (AH ..));obtain⟨y2,f⟩:=e _ (AG _ (AG _ (AH ..)));dsimp only at i g f;rw[I4]at i;rw[Y9]at g;rw[Y8]at f;obtain⟨p,z,w0⟩:=trod_int BM i;obtain⟨o,y,u⟩:=trod_int Tryz.underlying22 g;obtain⟨m,x,t⟩:=trod_int Tryz.underlying23 f;have l:[a]=[.int .u8 p]:=z;have k:[b]=[.int .u32 o]:=y;have j:[c]=[.int .u16 m]:=x;simp only[BK,and_true]at l k j;subst l k j;exact⟨p,o,m,(eM rfl).2 ⟨_,Ob s,_,_,rfl,rfl,_,_,rfl,rfl,_,_,rfl,rfl,rfl⟩,Kv w0,akB u,akA t⟩
def Sa(h:DataW.Trod enc AA w 0 sp held 27 v d ps) :
  ∃a n r,b! (BB pe) w (.st [.int .u8 a,.int .u8 n,.int .i64 r]) v/\(0<=a/\a<=255)/\(0<=n/\n<=255)/\-9223372036854775808<=r/\r<=9223372036854775807:=by
 obtain⟨fuel,h⟩:=h;obtain⟨q,f',e⟩:=ME Tryz.underlying27 h;rw[YZ]at q
 match s:v.cells.toList,q with
 |[a,b,c],_ =>
  rw[s]at e;obtain⟨y0,i⟩:=e _ (AH ..);obtain⟨y1,g⟩:=e _ (AG _ (AH ..));obtain⟨y2,f⟩:=e _ (AG _ (AG _ (AH ..)));dsimp only at i g f;rw[I4]at i g;rw[Y6]at f;obtain⟨p,z,w0⟩:=trod_int BM i;obtain⟨o,y,u⟩:=trod_int BM g;obtain⟨m,x,t⟩:=trod_int Tryz.underlying2 f;have l:[a]=[.int .u8 p]:=z;have k:[b]=[.int .u8 o]:=y;have j:[c]=[.int .i64 m]:=x;simp only[BK,and_true]at l k j;subst l k j;exact⟨p,o,m,(eM rfl).2 ⟨_,Ob s,_,_,rfl,rfl,_,_,rfl,rfl,_,_,rfl,rfl,rfl⟩,Kv w0,Kv u,aiQ t⟩
end
end
end
end Go.Proofs.YtkejceafemeifaaGreatDoor
