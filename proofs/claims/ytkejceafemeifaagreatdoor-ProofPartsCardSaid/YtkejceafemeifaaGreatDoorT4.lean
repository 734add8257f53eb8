/-
  Contracts of functions: algoristref07.parts, canonical.
-/
import Derived.Test.YtkejceafemeifaaGreatDoorT3
import Derived.Test.YtkejceafemeifaaGreatDoorT2
import Derived.Tactics
import Derived.Tactics2
import Derived.Defers
import Derived.Recover
import Derived.Laws.Pointers

namespace Go.Proofs.YtkejceafemeifaaGreatDoor
open Go Go.RowKit
open Go.IntKind (wrap i64 i32 i16 i8 u64 u32 u16 u8)
open Int (toNat natAbs)
open List (length take drop getD set replicate)
open BitVec (ofInt)
open Int (gcd tmod tdiv fdiv)
open Go.Proofs.Tryz renaming prog->AA,f116->BT,f194->CU,f166->CV,f138->CW,f137->CX,f136->CY,f101->CZ,results203->C3,f67->C6,f66->C7,f65->C8,f63->C9,f62->DA,ntmps203->DB,func203->DG,func116->DH,f204->D0,f203->D1,f201->D2,f196->D3,f195->D4,f193->D5,f192->D6,f191->D7,f190->D8,f189->D9,f188->EA,f187->EB,f186->EC,f185->ED,f175->EE,f174->EF,f173->EG,f172->EH,f171->EI,f170->EJ,f169->EK,f168->EL,f167->EM,f165->EN,f164->EO,f144->EP,f143->EQ,f142->ER,f141->ES,f140->ET,f139->EU,f135->EV,f119->EW,f118->EX,f109->EY,f108->EZ,f107->E0,f106->E1,f105->E2,f104->E3,f103->E4,f102->E5,f100->E6,f96->E7,f95->E8,f81->E9,f77->FA,f76->FB,f74->FC,f64->FD,f56->FE,f53->FF,f52->FG,f51->FH,f49->FI,f38->FJ
open Bool renaming true_and->AB,false_and->AH,eq_false_iff->AK,not_true->AO,and_false->AP,cond_decide->AS,eq_iff_iff->BB,not_false->BH,not_eq_true'->BL,or_eq_true->C5
open Go.IntKind renaming bits->AC
open Prod renaming fst->AD,snd->AE
open MRes renaming sat->AF,holds->DY
open LeFun renaming refl->AG,of_le->CI
open BitVec renaming toNat->AI
open Go.Value renaming slice->AJ,pointer->A6,iface->DF
open Int renaming natAbs_natCast->AL,emod_lt_of_pos->AM,emod_nonneg->AT,mul_assoc->A0,add_mul_emod_self_left->A2,one_mul->A5,emod_add_mul_ediv->A8,sub_emod->BF,mul_emod->BG,tmod_lt_of_pos->BJ,tmod_eq_emod_of_nonneg->BK,le_refl->BN,dvd_mul_of_dvd_right->BP,eq_ofNat_of_zero_le->BQ,emod_eq_zero_of_dvd->BR,mul_le_mul->BW,emod_emod_of_dvd->BX,emod_def->B7,mul_neg->CB,pow_succ->CJ,dvd_refl->CK,natAbs_neg->DD,natAbs_mul->DE,zero_emod->DJ,zero_mul->DM,pow_zero->DN,neg_tmod->DO,mul_zero->DP,mul_comm->DR,le_trans->DS,le_of_lt->DT,pow_add->DZ
open Nat renaming pow_le_pow_right->AN,div_div_eq_div_mul->AR,mul_le_mul_left->AV,pow_zero->AX,pow_succ->AZ,pow_mod->A4,eq_of_beq_eq_true->A7,mod_eq_of_lt->A9,div_eq_of_lt->BA,mul_comm->BE,lt_of_le_of_lt->BI,mod_lt->BS,pow_mul->BU,div_one->BV,blt->BZ,pow_succ'->B1,mul_assoc->B2,dvd_trans->B3,one_le_two_pow->B5,strongRecOn->CC,not_lt_zero->CD,lt_or_ge->CF,le_trans->CG,add_zero->CH,one_pow->CM,one_mul->CN,mul_one->CO,mul_le_mul_right->CP,Coprime->CQ,eq_zero_or_pos->CS,blt_eq->CT,gcd_dvd_right->C0,gcd_dvd_left->C4,le_of_dvd->DI,zero_add->DK,gcd_comm->DL,pow_two->DU,pow_one->DV,pow_add->DW,mul_mod->DX,gcd->FN,beq->FO
open Option renaming getD->AQ,isSome->AU,isSome_some->BD,getD_some->BM
open News renaming len->AW
open List renaming drop_length->AY,length_pos_iff->B0,ext_getElem->CA,getD_eq_getElem?_getD->CE,mem_iff_getElem->CL,range->CR,mem_cons->DC
open _root_.Array renaming getD_eq_getD_getElem?->A1,replicate->C2
open Nat.Coprime renaming dvd_of_dvd_mul_left->A3
open Iff renaming rfl->BO
open Classical renaming not_not->BY,choose_spec->FK,choose->FL,byContradiction->FM
open Go.Deferred renaming ofValue->B4
open List.cons renaming injEq->B6
open Ctx renaming args->B8,res->C1
open Go.Act renaming eval->B9
open _root_ renaming Int->Z,True->S,False->U,Nat->O,Bool->N,List->K,Option->G,if_neg->X,absurd->W,cond->g,if_pos->Y,Array->FY,List->FZ,Nat->F0,False->F1,Int->F2
open Decidable renaming decide->V,decide->f,decide->FW
open List renaming length->H,getD->J
open Int renaming natAbs->P,toNat->I,tmod->T,tdiv->D,tdiv->F3,toNat->F5
open Go.IntKind renaming wrap->Q,u32->FR,i64->FT,wrap->FV,u64->F4
open BitVec renaming ofInt->R
open Go renaming World->L,Value->F,TypeId->FX
open Option renaming some->FP,none->FQ
open Bool renaming false->Aa,true->FU
noncomputable section
def aIr:aG
 |[.big a n]=>FP (FP (n<=1000000),.ret (.bool (V (a%2=1))))
 |_=>FQ
theorem bAE(a:Z)(n:O):(bif V ((H (aA (P a)):Z)>0)then ((0:Z)<=0/\0<(H (aA (P a)):Z))/\(Q FR (AI (R (AC FR) (J (aA (P a)) (I 0) 0) &&&R (AC FR) 1):Z)==1)=V (a%2=1)else Aa=V (a%2=1))=aJ (aK [] aC) ED [.big a n] (AF (.ret (.bool (V (a%2=1))))):=by kernel_rfl
def aIp:aG
 |[.big a n,.big b m]=>FP (FP (n<=900000/\m<=900000/\b≠0),.ret (.big (a/b) n))
 |_=>FQ
theorem bAB(a b:Z)(n m:O):((n<=900000/\m<=900000/\(b=0->U))/\a/b=a/b/\(n<=n\/P (a/b)<2^n))=aJ (aK [iM] aC) D2 [.big a n,.big b m] (AF (.ret (.big (a/b) n))):=by kernel_rfl
def v2f:O->O->O
 |0,_=>0
 |f+1,n=>if n%2=0 then v2f f (n/2)+1 else 0
def v2(n:O):O:=v2f n n
theorem bAi:∀(f g n:O),n<=f->n<=g->n≠0->v2f f n=v2f g n:=by
 intro f
 induction f with
 |zero=>intro g n h _ a;omega
 |succ f ih =>
  intro g n h hg a;obtain⟨k,rfl⟩:∃k,g=k+1:=⟨g-1,by omega⟩;simp only[v2f]
  grind
theorem bFc(f n:O)(h:n<=f)(a:n≠0):v2f f n=v2f n n:=bAi f n n h (Z0 _) a
def aIq:aG
 |[.big a n,.int .u32 m]=>FP (FP (n<=1000000/\(m=4\/m=8)),.ret (.int .u32 (a%m)))
 |_=>FQ
theorem bAC(a m:Z)(n:O)(b:_)(c:b=(J (aA (P a)) (I 0) 0)):(bif (H (aA (P a)):Z)==0 then 0=a%m else ((0:Z)<=0/\0<(H (aA (P a)):Z))/\(m=0->U)/\bif V (a<0)then bif V (T b m>0)then Q FR (m-T b m)=a%m else T b m=a%m else T b m=a%m)=aJ (aK [] aC) EB [.big a n,.int .u32 m] (AF (.ret (.int .u32 (a%m)))):=by subst c;kernel_rfl
theorem aYz(n:O):(Q FR ((R (AC FR) ((aA n).getD 0 0) &&&R (AC FR) 1).toNat:Z)==1)=V (n%2=1):=by
 rw[pG,AX,BV,kW _ (BS _ (by omega))]
 grind
theorem bDW:bE ED aIr:=by
 intro ms p r h hp;unfold aIr at h;split at h
 .rename_i a n;cases h;refine⟨aK [] aC,?_⟩;rw[<-bAE a n,mY,show I (0:Z)=0 from rfl,aYz,AS]
  grind [aA,cA,B0]
 .simp at h
def aHr:Ctr AA:=⟨185,aIr,λargs w=>Tryz.call185 args w,aM bT Tryz.func185 aIr bDW⟩
theorem bDT:bE D2 aIp:=by
 intro ms p r h c;unfold aIp at h;split at h
 .rename_i a n b m;cases h;obtain⟨hn,hm,hb⟩:=c;refine⟨aK [iM] aC,?_⟩;rw[<-bAB a b n m];omega
 .simp at h
def aSD:Ctr AA:=⟨201,aIp,λargs w=>Tryz.call201 args w,aM bT Tryz.func201 aIp bDT⟩
theorem bDU:eD EB aIq:=by
 intro ms p r h b hf;unfold aIq at h;split at h
 .rename_i a n m;cases h;obtain⟨hn,hm⟩:=b;refine⟨aK [] aC,?_⟩;rw[<-bAC a m n _ rfl,lF,show I (0:Z)=0 from rfl,pG,AX,BV]
  grind [T,aA,cA,B0,aTo]
 .simp at h
def aSE:Ctr AA:=⟨187,aIq,λargs w=>Tryz.call187 args w,aO bT Tryz.func187 aIq bDU⟩
theorem aDS{n:O}(h:n≠0)(a:n%2=0):v2 n=v2 (n/2)+1:=by
 obtain⟨m,rfl⟩:∃m,n=m+1:=⟨n-1,by omega⟩;show v2f (m+1) (m+1)=_;rw[v2f,Y a,bFc _ _ (by omega) (by omega)];rfl
theorem aFm{n:O}(h2:n%2=1):v2 n=0:=by
 obtain⟨m,rfl⟩:∃m,n=m+1:=⟨n-1,by omega⟩;show v2f (m+1) (m+1)=_;rw[v2f,X (by omega)]
def aDh:aG
 |[.big a n]=>FP (FP (n<=900000/\a≠0),.ret (.tup [.big (a/2^v2 a.natAbs) n,.int .i64 (v2 a.natAbs)]))
 |_=>FQ
structure TwS where
 k:Nat
 x:Int
def TwI(a:Z)(s:TwS):Prop:=s.x≠0/\a=s.x*2^s.k
def aNl(a:Z)(n:O):O->MS->G LoopAnn
 |2,_=>FP (.inv TwS (TwI a) (λs=>⟨15, [(1,.bp 0 0),(2,.bp 1 0),(4,.int .i64 s.k)], [⟨Aa,.one (.big s.x n)⟩,⟨Aa,.one (.big 0 0)⟩],0⟩) (λs=>s.x.natAbs))
 |_,_=>FQ
theorem aWh(a:Z)(n:O):((∃i,((TwS.x i=0->U)/\a=TwS.x i*2^TwS.k i)/\(0=0/\0=0/\0=(TwS.k i:Z)/\S)/\aD a (TwS.x i) n n/\aD 0 0 0 0/\S)/\∀(i:TwS),(TwS.x i=0->U)/\a=TwS.x i*2^TwS.k i->n<=1000000/\bif !decide (TwS.x i%2=1)then fY 2/\(n<=900000/\64<=900000/\((2:Z)=0->U))/\∃j,((TwS.x j=0->U)/\a=TwS.x j*2^TwS.k j)/\((0=0/\0=0/\Q FT ((TwS.k i:Z)+1)=(TwS.k j:Z)/\S)/\aD (TwS.x i/2) (TwS.x j) n n/\aD 0 0 0 0/\S)/\P (TwS.x j)<P (TwS.x i)else aD (TwS.x i) (a/2^v2 (P a)) n n/\(TwS.k i:Z)=(v2 (P a):Z)/\S)=aJ (aK [aHr,aF4,aSD] (aNl a n)) EC [.big a n] (AF (.ret (.tup [.big (a/2^v2 a.natAbs) n,.int .i64 (v2 a.natAbs)]))):=by kernel_rfl
theorem bFb{n:O}:∀k x:O,x≠0->n=x*2^k->v2 n=v2 x+k:=by
 intro k
 induction k generalizing n with
 |zero=>intro x _ h;rw[h,AX,CO,CH]
 |succ k ih =>
  intro x hx h;have a:x*2≠0:=by omega
  have b:n=x*2*2^k:=by rw[h,AZ,B2,BE 2]
  rw[ih (x*2) a b,aDS a (by omega),Nat.mul_div_cancel _ (by omega)];omega
theorem aY0:eD EC aDh:=by
 intro ms p r h i j;unfold aDh at h;split at h
 .rename_i a n;cases h;obtain⟨hn,l⟩:=i;have hb:a.natAbs<2^n:=j.1;refine⟨aK [aHr,aF4,aSD] (aNl a n),?_⟩;rw[<-aWh a n];refine⟨⟨⟨0,a⟩,⟨l,by simp⟩,(by and_intros<;>first|exact⟨⟩|rfl|omega),⟨rfl,.inl (Z0 _)⟩,⟨rfl,.inl (Z0 _)⟩,⟨⟩⟩,?_⟩
  rintro⟨k,x⟩ ⟨d,b⟩
  have d:x≠0:=d;have b:a=x*2^k:=b;have c:a.natAbs=x.natAbs*2^k:=by rw[b,DE,Int.natAbs_pow];rfl
  have hkn:k<=n:=by
   rcases CF n k with q|q
   .have f:2^n<=2^k:=AN (by omega) (by omega);have m:1*2^k<=x.natAbs*2^k:=CP _ (by omega);omega
   .exact q
  have hxb:x.natAbs<2^n:=by
   have f:1<=2^k:=B5;have m:x.natAbs*1<=x.natAbs*2^k:=AV _ f;omega
  refine⟨by omega,?_⟩;dsimp only;by_cases e:x%2=1
  .rw[Y0 e];have hv:v2 a.natAbs=k:=by rw[bFb k x.natAbs (by omega) c,aFm (by omega),DK]
   grind [Int.mul_ediv_cancel,Int.pow_pos,AO]
  .rw[Y1 e];have g:Q FT ((k:Z)+1)=((k+1:O):Z):=by rw[aT (by omega) (by omega)];omega
   rw[BH,Z6];refine⟨by omega,by omega,⟨k+1,x/2⟩,⟨by show x/2≠0;omega,?_⟩,⟨⟨rfl,rfl,g,⟨⟩⟩,⟨rfl,.inl (Z0 _)⟩,⟨rfl,.inl (Z0 _)⟩,⟨⟩⟩,by show(x/2).natAbs<x.natAbs;omega⟩;show a=x/2*2^(k+1);rw[b,CJ,DR (2^k) 2,<-A0]
   congr 1;omega
 .simp at h
def aNQ:Ctr AA:=⟨186,aDh,λargs w=>Tryz.call186 args w,aO bT Tryz.func186 aDh aY0⟩
def jL(a:Z):Z:=if a%8=1\/a%8=7 then 1 else if a%8=3\/a%8=5 then-1 else 0
def rsg(a n:O):Z:=if a%4=3/\n%4=3 then-1 else 1
def aKr:O->O->O->Z
 |0,_,_=>0
 |f+1,a,n=>if a=0 then (if n=1 then 1 else 0)else if a%2=0 then jL n*aKr f (a/2) n else rsg a n*aKr f (n%a) a
def jac(a n:O):Z:=aKr (a+1) a n
theorem aKs:∀(f g a n:O),a<f->a<g->aKr f a n=aKr g a n:=by
 intro f
 induction f with
 |zero=>intro g a n h;omega
 |succ f ih =>
  intro g a n h hg;obtain⟨k,rfl⟩:∃k,g=k+1:=⟨g-1,by omega⟩
  grind [aKr,BS]
theorem aEz(n:O):jac 0 n=if n=1 then 1 else 0:=rfl
theorem aEy{a n:O}(h:a≠0)(h2:a%2=0):jac a n=jL n*jac (a/2) n:=by
 grind [jac,aKr,aKs]
theorem aHJ{a n:O}(h2:a%2=1):jac a n=rsg a n*jac (n%a) a:=by
 grind [BS,jac,aKr,aKs]
def krf(a:Z):O->O->Z
 |0,_=>0
 |f+1,n=>if n%2=0 then jL a*krf a f (n/2)else jac (a%n).toNat n
def kr(a:Z)(n:O):Z:=krf a n n
theorem aYv(a:Z):∀(f g n:O),n<=f->n<=g->n≠0->krf a f n=krf a g n:=by
 intro f
 induction f with
 |zero=>intro g n h _ b;omega
 |succ f ih =>
  intro g n h hg b;obtain⟨k,rfl⟩:∃k,g=k+1:=⟨g-1,by omega⟩;simp only[krf]
  grind
theorem aC0{a:Z}{n:O}(h:n≠0)(b:n%2=0):kr a n=jL a*kr a (n/2):=by
 obtain⟨m,rfl⟩:∃m,n=m+1:=⟨n-1,by omega⟩;show krf a (m+1) (m+1)=_;rw[krf,Y b,aYv a m _ _ (by omega) (Z0 _) (by omega)];rfl
theorem aMy{a:Z}{n:O}(h2:n%2=1):kr a n=jac (a%n).toNat n:=by
 obtain⟨m,rfl⟩:∃m,n=m+1:=⟨n-1,by omega⟩;show krf a (m+1) (m+1)=_;rw[krf,X (by omega)]
def gH(a n:Z):Z:=if n=0 then (if a.natAbs=1 then 1 else 0)else (if n<0/\a<0 then-1 else 1)*kr a n.natAbs
def aIi:aG
 |[.big a n,.big b m]=>FP (FP (n<=200000/\m<=200000),.ret (.int .i64 (gH a b)))
 |_=>FQ
structure KrS where
 k:Int
 a:Nat
 n:Nat
structure KrI (r:Int) (N:Nat) (s:KrS):Prop where
 odd:s.n%2=1
 k:s.k=1\/s.k= -1
 val:s.k*jac s.a s.n=r
 ba:s.a<2^N
 bn:s.n<2^N
def aR1(r:Z)(N:O):O->MS->G LoopAnn
 |16,_=>FP (.inv KrS (KrI r N) (λs=>⟨79, [(2,.bp 0 0),(3,.bp 1 0),(5,.int .i64 s.k)], [⟨Aa,.one (.big s.a N)⟩,⟨Aa,.one (.big s.n N)⟩],0⟩) (λs=>s.a))
 |_,_=>FQ
structure KcS where
 k:Int
 n:Int
structure Kc12 (a r:Int) (m:Nat) (s:KcS):Prop where
 k:s.k=1\/s.k= -1
 pos:0<s.n
 bn:s.n.natAbs<2^m
 odd:a%2=1\/s.n%2=1
 val:s.k*kr a s.n.natAbs=r
structure Kc15 (a r:Int) (m:Nat) (s:KcS):Prop where
 k:s.k=1\/s.k= -1
 pos:0<s.n
 bn:s.n.natAbs<2^m
 odd:s.n%2=1
 val:s.k*kr a s.n.natAbs=r
def krS(a:Z)(n m:O)(k b:Z):MS:=⟨79, [(2,.bp 0 0),(3,.bp 1 0),(5,.int .i64 k)], [⟨Aa,.one (.big a n)⟩,⟨Aa,.one (.big b m)⟩],0⟩
def aTM(a b:Z)(n m:O):O->MS->G CutAnn
 |12,_=>FP (.mk KcS (Kc12 a (gH a b) m) (λs=>krS a n m s.k s.n))
 |15,_=>FP (.mk KcS (Kc15 a (gH a b) m) (λs=>krS a n m s.k s.n))
 |_,_=>FQ
def aJ5(Γ:K (Ctr AA))(ann:O->MS->G LoopAnn)(cut:O->MS->G CutAnn):Env AA:=⟨Γ, [],39,ann,λ_=> [],cut⟩
theorem bAu(a b:Z)(n m:O)(c:_)(d:c=(gH a b)):(bif dL b==0 then n<=1000000/\n<=1000000/\bif V ((P a:Z)=1)then 1=gH a b else 0=gH a b else n<=1000000/\bif !decide (a%2=1)then m<=1000000/\bif !decide (b%2=1)then 0=gH a b else (bif V (b<0)then bif V (a<0)then m<=1000000/\∃i,Kc12 a c m i/\(0=0/\0=0/\(-1)=KcS.k i/\S)/\aD a a n n/\aD (-b) (KcS.n i) m m/\S else m<=1000000/\∃i,Kc12 a c m i/\(0=0/\0=0/\1=KcS.k i/\S)/\aD a a n n/\aD (-b) (KcS.n i) m m/\S else ∃i,Kc12 a c m i/\(0=0/\0=0/\1=KcS.k i/\S)/\aD a a n n/\aD b (KcS.n i) m m/\S)/\∀(i:KcS),Kc12 a c m i->(m<=900000/\(KcS.n i=0->U))/\(((2:Z)=0->U)/\bif T (v2 (P (KcS.n i)):Z) 2==1 then (n<=1000000/\((8:Z)=4\/(8:Z)=8))/\(0<=a%8/\a%8<(↑(8:O):Z))/\∃i_1,Kc15 a c m i_1/\(0=0/\0=0/\Q FT (KcS.k i*J (jY 3) (I (a%8)) 0)=KcS.k i_1/\S)/\aD a a n n/\aD (KcS.n i/2^v2 (P (KcS.n i))) (KcS.n i_1) m m/\S else ∃i_1,Kc15 a c m i_1/\(0=0/\0=0/\KcS.k i=KcS.k i_1/\S)/\aD a a n n/\aD (KcS.n i/2^v2 (P (KcS.n i))) (KcS.n i_1) m m/\S)/\∀(i:KcS),Kc15 a c m i->(n<=900000/\m<=900000/\(KcS.n i=0->U))/\(∃i_1,KrI c m i_1/\(0=0/\0=0/\KcS.k i=KrS.k i_1/\S)/\aD (a%KcS.n i) (KrS.a i_1:Z) m m/\aD (KcS.n i) (KrS.n i_1:Z) m m/\S)/\∀(i:KrS),KrI c m i->bif V (dL (KrS.a i:Z)>0)then (m<=900000/\((KrS.a i:Z)=0->U))/\((2:Z)=0->U)/\bif T (v2 (P (KrS.a i:Z)):Z) 2==1 then (m<=1000000/\((8:Z)=4\/(8:Z)=8))/\(0<=(KrS.n i:Z)%8/\(KrS.n i:Z)%8<(↑(8:O):Z))/\(m<=1000000/\((4:Z)=4\/(4:Z)=8))/\bif (KrS.a i:Z)/2^v2 (P (KrS.a i:Z))%4==3 then (m<=1000000/\((4:Z)=4\/(4:Z)=8))/\bif (KrS.n i:Z)%4==3 then (m<=900000/\m<=900000/\((KrS.a i:Z)/2^v2 (P (KrS.a i:Z))=0->U))/\∃j,KrI c m j/\((0=0/\0=0/\Q FT (0-Q FT (KrS.k i*J (jY 3) (I ((KrS.n i:Z)%8)) 0))=KrS.k j/\S)/\aD ((KrS.n i:Z)%((KrS.a i:Z)/2^v2 (P (KrS.a i:Z)))) (KrS.a j:Z) m m/\aD ((KrS.a i:Z)/2^v2 (P (KrS.a i:Z))) (KrS.n j:Z) m m/\S)/\KrS.a j<KrS.a i else (m<=900000/\m<=900000/\((KrS.a i:Z)/2^v2 (P (KrS.a i:Z))=0->U))/\∃j,KrI c m j/\((0=0/\0=0/\Q FT (KrS.k i*J (jY 3) (I ((KrS.n i:Z)%8)) 0)=KrS.k j/\S)/\aD ((KrS.n i:Z)%((KrS.a i:Z)/2^v2 (P (KrS.a i:Z)))) (KrS.a j:Z) m m/\aD ((KrS.a i:Z)/2^v2 (P (KrS.a i:Z))) (KrS.n j:Z) m m/\S)/\KrS.a j<KrS.a i else (m<=900000/\m<=900000/\((KrS.a i:Z)/2^v2 (P (KrS.a i:Z))=0->U))/\∃j,KrI c m j/\((0=0/\0=0/\Q FT (KrS.k i*J (jY 3) (I ((KrS.n i:Z)%8)) 0)=KrS.k j/\S)/\aD ((KrS.n i:Z)%((KrS.a i:Z)/2^v2 (P (KrS.a i:Z)))) (KrS.a j:Z) m m/\aD ((KrS.a i:Z)/2^v2 (P (KrS.a i:Z))) (KrS.n j:Z) m m/\S)/\KrS.a j<KrS.a i else (m<=1000000/\((4:Z)=4\/(4:Z)=8))/\bif (KrS.a i:Z)/2^v2 (P (KrS.a i:Z))%4==3 then (m<=1000000/\((4:Z)=4\/(4:Z)=8))/\bif (KrS.n i:Z)%4==3 then (m<=900000/\m<=900000/\((KrS.a i:Z)/2^v2 (P (KrS.a i:Z))=0->U))/\∃j,KrI c m j/\((0=0/\0=0/\Q FT (0-KrS.k i)=KrS.k j/\S)/\aD ((KrS.n i:Z)%((KrS.a i:Z)/2^v2 (P (KrS.a i:Z)))) (KrS.a j:Z) m m/\aD ((KrS.a i:Z)/2^v2 (P (KrS.a i:Z))) (KrS.n j:Z) m m/\S)/\KrS.a j<KrS.a i else (m<=900000/\m<=900000/\((KrS.a i:Z)/2^v2 (P (KrS.a i:Z))=0->U))/\∃j,KrI c m j/\((0=0/\0=0/\KrS.k i=KrS.k j/\S)/\aD ((KrS.n i:Z)%((KrS.a i:Z)/2^v2 (P (KrS.a i:Z)))) (KrS.a j:Z) m m/\aD ((KrS.a i:Z)/2^v2 (P (KrS.a i:Z))) (KrS.n j:Z) m m/\S)/\KrS.a j<KrS.a i else (m<=900000/\m<=900000/\((KrS.a i:Z)/2^v2 (P (KrS.a i:Z))=0->U))/\∃j,KrI c m j/\((0=0/\0=0/\KrS.k i=KrS.k j/\S)/\aD ((KrS.n i:Z)%((KrS.a i:Z)/2^v2 (P (KrS.a i:Z)))) (KrS.a j:Z) m m/\aD ((KrS.a i:Z)/2^v2 (P (KrS.a i:Z))) (KrS.n j:Z) m m/\S)/\KrS.a j<KrS.a i else m<=1000000/\bif !decide ((KrS.n i:Z)=1)then 0=gH a b else KrS.k i=gH a b else (bif V (b<0)then bif V (a<0)then m<=1000000/\∃i,Kc12 a c m i/\(0=0/\0=0/\(-1)=KcS.k i/\S)/\aD a a n n/\aD (-b) (KcS.n i) m m/\S else m<=1000000/\∃i,Kc12 a c m i/\(0=0/\0=0/\1=KcS.k i/\S)/\aD a a n n/\aD (-b) (KcS.n i) m m/\S else ∃i,Kc12 a c m i/\(0=0/\0=0/\1=KcS.k i/\S)/\aD a a n n/\aD b (KcS.n i) m m/\S)/\∀(i:KcS),Kc12 a c m i->(m<=900000/\(KcS.n i=0->U))/\(((2:Z)=0->U)/\bif T (v2 (P (KcS.n i)):Z) 2==1 then (n<=1000000/\((8:Z)=4\/(8:Z)=8))/\(0<=a%8/\a%8<(↑(8:O):Z))/\∃i_1,Kc15 a c m i_1/\(0=0/\0=0/\Q FT (KcS.k i*J (jY 3) (I (a%8)) 0)=KcS.k i_1/\S)/\aD a a n n/\aD (KcS.n i/2^v2 (P (KcS.n i))) (KcS.n i_1) m m/\S else ∃i_1,Kc15 a c m i_1/\(0=0/\0=0/\KcS.k i=KcS.k i_1/\S)/\aD a a n n/\aD (KcS.n i/2^v2 (P (KcS.n i))) (KcS.n i_1) m m/\S)/\∀(i:KcS),Kc15 a c m i->(n<=900000/\m<=900000/\(KcS.n i=0->U))/\(∃i_1,KrI c m i_1/\(0=0/\0=0/\KcS.k i=KrS.k i_1/\S)/\aD (a%KcS.n i) (KrS.a i_1:Z) m m/\aD (KcS.n i) (KrS.n i_1:Z) m m/\S)/\∀(i:KrS),KrI c m i->bif V (dL (KrS.a i:Z)>0)then (m<=900000/\((KrS.a i:Z)=0->U))/\((2:Z)=0->U)/\bif T (v2 (P (KrS.a i:Z)):Z) 2==1 then (m<=1000000/\((8:Z)=4\/(8:Z)=8))/\(0<=(KrS.n i:Z)%8/\(KrS.n i:Z)%8<(↑(8:O):Z))/\(m<=1000000/\((4:Z)=4\/(4:Z)=8))/\bif (KrS.a i:Z)/2^v2 (P (KrS.a i:Z))%4==3 then (m<=1000000/\((4:Z)=4\/(4:Z)=8))/\bif (KrS.n i:Z)%4==3 then (m<=900000/\m<=900000/\((KrS.a i:Z)/2^v2 (P (KrS.a i:Z))=0->U))/\∃j,KrI c m j/\((0=0/\0=0/\Q FT (0-Q FT (KrS.k i*J (jY 3) (I ((KrS.n i:Z)%8)) 0))=KrS.k j/\S)/\aD ((KrS.n i:Z)%((KrS.a i:Z)/2^v2 (P (KrS.a i:Z)))) (KrS.a j:Z) m m/\aD ((KrS.a i:Z)/2^v2 (P (KrS.a i:Z))) (KrS.n j:Z) m m/\S)/\KrS.a j<KrS.a i else (m<=900000/\m<=900000/\((KrS.a i:Z)/2^v2 (P (KrS.a i:Z))=0->U))/\∃j,KrI c m j/\((0=0/\0=0/\Q FT (KrS.k i*J (jY 3) (I ((KrS.n i:Z)%8)) 0)=KrS.k j/\S)/\aD ((KrS.n i:Z)%((KrS.a i:Z)/2^v2 (P (KrS.a i:Z)))) (KrS.a j:Z) m m/\aD ((KrS.a i:Z)/2^v2 (P (KrS.a i:Z))) (KrS.n j:Z) m m/\S)/\KrS.a j<KrS.a i else (m<=900000/\m<=900000/\((KrS.a i:Z)/2^v2 (P (KrS.a i:Z))=0->U))/\∃j,KrI c m j/\((0=0/\0=0/\Q FT (KrS.k i*J (jY 3) (I ((KrS.n i:Z)%8)) 0)=KrS.k j/\S)/\aD ((KrS.n i:Z)%((KrS.a i:Z)/2^v2 (P (KrS.a i:Z)))) (KrS.a j:Z) m m/\aD ((KrS.a i:Z)/2^v2 (P (KrS.a i:Z))) (KrS.n j:Z) m m/\S)/\KrS.a j<KrS.a i else (m<=1000000/\((4:Z)=4\/(4:Z)=8))/\bif (KrS.a i:Z)/2^v2 (P (KrS.a i:Z))%4==3 then (m<=1000000/\((4:Z)=4\/(4:Z)=8))/\bif (KrS.n i:Z)%4==3 then (m<=900000/\m<=900000/\((KrS.a i:Z)/2^v2 (P (KrS.a i:Z))=0->U))/\∃j,KrI c m j/\((0=0/\0=0/\Q FT (0-KrS.k i)=KrS.k j/\S)/\aD ((KrS.n i:Z)%((KrS.a i:Z)/2^v2 (P (KrS.a i:Z)))) (KrS.a j:Z) m m/\aD ((KrS.a i:Z)/2^v2 (P (KrS.a i:Z))) (KrS.n j:Z) m m/\S)/\KrS.a j<KrS.a i else (m<=900000/\m<=900000/\((KrS.a i:Z)/2^v2 (P (KrS.a i:Z))=0->U))/\∃j,KrI c m j/\((0=0/\0=0/\KrS.k i=KrS.k j/\S)/\aD ((KrS.n i:Z)%((KrS.a i:Z)/2^v2 (P (KrS.a i:Z)))) (KrS.a j:Z) m m/\aD ((KrS.a i:Z)/2^v2 (P (KrS.a i:Z))) (KrS.n j:Z) m m/\S)/\KrS.a j<KrS.a i else (m<=900000/\m<=900000/\((KrS.a i:Z)/2^v2 (P (KrS.a i:Z))=0->U))/\∃j,KrI c m j/\((0=0/\0=0/\KrS.k i=KrS.k j/\S)/\aD ((KrS.n i:Z)%((KrS.a i:Z)/2^v2 (P (KrS.a i:Z)))) (KrS.a j:Z) m m/\aD ((KrS.a i:Z)/2^v2 (P (KrS.a i:Z))) (KrS.n j:Z) m m/\S)/\KrS.a j<KrS.a i else m<=1000000/\bif !decide ((KrS.n i:Z)=1)then 0=gH a b else KrS.k i=gH a b)=aJ (aJ5 [dC,aB1,aBe,aHr,aB2,aNQ,aSE,nE] (aR1 (gH a b) m) (aTM a b n m)) EK [.big a n,.big b m] (AF (.ret (.int .i64 (gH a b)))):=by subst d;kernel_rfl
theorem aPV{n:O}(h:n≠0):n=n/2^v2 n*2^v2 n/\n/2^v2 n%2=1:=by
 induction n using Nat.strongRecOn with
 |ind n ih =>
  by_cases h2:n%2=0
  .grind [aDS,AZ,BE,v2,AR,B2]
  grind [aFm]
theorem pP{q:Z}(h:q%2=1):jL q=1\/jL q= -1:=by
 unfold jL;omega
theorem wY{q:Z}(h:¬q%2=1):jL q=0:=by
 unfold jL;omega
theorem aEt(a:Z):(jY 3).getD (a%8).toNat 0=jL a:=by
 have h1:0<=a%8/\a%8<8:=by omega
 unfold jL;generalize a%8=r at *;rcases(show r=0\/r=1\/r=2\/r=3\/r=4\/r=5\/r=6\/r=7 by omega)with h|h|h|h|h|h|h|h<;>subst h<;>decide
theorem aVH{x:Z}(h:x=1\/x= -1):x*x=1:=by rcases h with h|h<;>rw[h]<;>rfl
def tsg(c:O)(x:Z):Z:=if c%2=1 then x else 1
theorem aLI{c:O}{x:Z}(h:x=1\/x= -1):tsg (c+1) x=x*tsg c x:=by
 unfold tsg
 grind
theorem bDh{x q:O}(a:x≠0)(hq:q%2=1):jac x q=tsg (v2 x) (jL q)*jac (x/2^v2 x) q:=by
 induction x using Nat.strongRecOn with
 |ind x ih =>
  by_cases b:x%2=0
  .rw[aEy a b,ih (x/2) (by omega) (by omega),aDS a b,AZ,BE (2^v2 (x/2)) 2,<-AR,aLI (pP (by omega)),A0]
  .rw[aFm (by omega),AX,BV];show _=1*_;rw[A5]
theorem bGY{a:Z}{b:O}(c:b≠0)(ho:a%2=1\/b%2=1):kr a b=tsg (v2 b) (jL a)*kr a (b/2^v2 b):=by
 induction b using Nat.strongRecOn with
 |ind x ih =>
  by_cases e:x%2=0
  .have d:a%2=1:=by omega
   rw[aC0 c e,ih (x/2) (by omega) (by omega) (.inl d),aDS c e,AZ,BE (2^v2 (x/2)) 2,<-AR,aLI (pP d),A0]
  .rw[aFm (by omega),AX,BV];show _=1*_;rw[A5]
theorem tm2(c:O):(T (c:Z) 2==1)=V (c%2=1):=by
 grind
theorem aXq(x:O):((x:Z)%4==3)=V (x%4=3):=by
 grind
theorem wL{x y:Z}(h:x=1\/x= -1)(k:y=1\/y= -1):x*y=1\/x*y= -1:=by
 grind
theorem aOj{z:Z}(h:0<z):z/2^v2 z.natAbs=((z.natAbs/2^v2 z.natAbs:O):Z):=by
 grind
theorem aYt{p q:N}{M R T:Prop}(h0:M)(hR:p=FU->q=FU->R)(hT:p=Aa\/q=Aa->T):bif p then M/\bif q then R else T else T:=by
 simp_all
theorem jI{r e k':Z}{m x q y:O}(b:m<=900000)(c:y%2=1)(hyx:y<=x)(hxm:x<2^m)(f:e=k')(d:k'=1\/k'= -1)(hv:k'*jac (q%y) y=r) :
  (m<=(900000:O)/\m<=(900000:O)/\((y:Z)=(0:Z)->U))/\∃j,KrI r m j/\(((0:O)=(0:O)/\(0:O)=(0:O)/\e=KrS.k j/\S)/\
   ((q:Z)%(y:Z)=(KrS.a j:Z)/\(m<=m\/P ((q:Z)%(y:Z))<(2:O)^m))/\((y:Z)=(KrS.n j:Z)/\(m<=m\/P (y:Z)<(2:O)^m))/\S)/\KrS.a j<x:=by
 have hlt:=BS q (show y>0 by omega);exact⟨⟨b,b,by omega⟩,⟨k',q%y,y⟩,⟨c,d,hv,by show q%y<_;omega,by show y<_;omega⟩,⟨⟨rfl,rfl,f,⟨⟩⟩,⟨by show _=((q%y:O):Z);omega,.inl (Z0 _)⟩,⟨rfl,.inl (Z0 _)⟩,⟨⟩⟩,by show q%y<x;omega⟩
theorem bDL:eD EK aIi:=by
 intro ms p r h S O;unfold aIi at h;split at h
 .rename_i a n b m;cases h;obtain⟨hn,hm⟩:=S;have ha:a.natAbs<2^n:=O.1;have T:b.natAbs<2^m:=O.2.1;refine⟨aJ5 [dC,aB1,aBe,aHr,aB2,aNQ,aSE,nE] (aR1 (gH a b) m) (aTM a b n m),?_⟩;rw[<-bAu a b n m _ rfl];by_cases K:b=0
  .grind [dL,gH]
  have V:(dL b==0)=Aa:=by
   unfold dL
   grind
  have hkro:gH a b=(if b<0/\a<0 then-1 else 1)*kr a b.natAbs:=by unfold gH;rw[X K]
  generalize hr:gH a b=r at *;rw[V,Z5];refine⟨by omega,?_⟩;refine aYt (by omega) (λF P=>?_) (λo=>?_)
  .grind [aC0,wY]
  have o:a%2=1\/b%2=1:=by simpa using o
  refine⟨?_,?_⟩
  .rw[AS];split
   .rw[AS];split
    .refine⟨by omega,⟨-1,-b⟩,⟨.inr rfl,by show 0< -b;omega,by show(-b).natAbs<_;omega,by show a%2=1\/ -b%2=1;omega,?_⟩,⟨rfl,rfl,rfl,⟨⟩⟩,⟨rfl,.inl (Z0 _)⟩,⟨rfl,.inl (Z0 _)⟩,⟨⟩⟩
     simp_all
    .refine⟨by omega,⟨1,-b⟩,⟨.inl rfl,by show 0< -b;omega,by show(-b).natAbs<_;omega,by show a%2=1\/ -b%2=1;omega,?_⟩,⟨rfl,rfl,rfl,⟨⟩⟩,⟨rfl,.inl (Z0 _)⟩,⟨rfl,.inl (Z0 _)⟩,⟨⟩⟩
     simp_all
   .refine⟨⟨1,b⟩,⟨.inl rfl,by show 0<b;omega,T,o,?_⟩,⟨rfl,rfl,rfl,⟨⟩⟩,⟨rfl,.inl (Z0 _)⟩,⟨rfl,.inl (Z0 _)⟩,⟨⟩⟩
    simp_all
  rintro⟨k,c⟩ f
  have j:k=1\/k= -1:=f.k;have d:0<c:=f.pos;have l:c.natAbs<2^m:=f.bn;have G:a%2=1\/c%2=1:=f.odd;have hv:k*kr a c.natAbs=r:=f.val;clear f;dsimp only;rw[tm2,aOj d,aEt];have B:c.natAbs≠0:=by omega
  have D:v2 c.natAbs%2=1->a%2=1:=λh=>by
   grind [aFm]
  obtain⟨M,s2⟩:=aPV B;rw[bGY B (by omega)]at hv;generalize v2 c.natAbs=v at *;generalize c.natAbs/2^v=y at *;have H:y<2^m:=by
   have F:1<=2^v:=B5;have P:y*1<=y*2^v:=AV _ F;omega
  refine⟨by omega,⟨by omega,?_⟩,?_⟩
  .rw[AS];split
   .rename_i u;have L:=D u;have E:=wL j (pP L);have t:FV FT (k*jL a)=k*jL a:=by rcases E with h|h<;>rw[h]<;>rfl
    refine⟨⟨by omega,.inr rfl⟩,by omega,⟨k*jL a,y⟩,⟨E,by show(0:Z)<y;omega,by show(y:Z).natAbs<_;omega,by show(y:Z)%2=1;omega,?_⟩,⟨rfl,rfl,t,⟨⟩⟩,⟨rfl,.inl (Z0 _)⟩,⟨rfl,.inl (Z0 _)⟩,⟨⟩⟩
    grind [jL,kr,tsg,AL,A0]
   .rename_i u;refine⟨⟨k,y⟩,⟨j,by show(0:Z)<y;omega,by show(y:Z).natAbs<_;omega,by show(y:Z)%2=1;omega,?_⟩,⟨rfl,rfl,rfl,⟨⟩⟩,⟨rfl,.inl (Z0 _)⟩,⟨rfl,.inl (Z0 _)⟩,⟨⟩⟩
    grind [kr,tsg,AL]
  clear hv j M s2 H D G l d B
  rintro⟨k,c⟩ f
  have j:k=1\/k= -1:=f.k;have d:0<c:=f.pos;have l:c.natAbs<2^m:=f.bn;have G:c%2=1:=f.odd;have hv:k*kr a c.natAbs=r:=f.val;clear f;dsimp only;obtain⟨q,rfl⟩:=BQ (DT d);rw[AL]at l hv;have J:=AT a (show(q:Z)≠0 by omega);have I:=AM a d;refine⟨by omega,⟨⟨k,(a%q).toNat,q⟩,⟨by show q%2=1;omega,j,?_,by show(a%q).toNat<_;omega,l⟩,⟨rfl,rfl,rfl,⟨⟩⟩,⟨by show a%q=((a%q).toNat:Z);omega,.inl (Z0 _)⟩,⟨rfl,.inl (Z0 _)⟩,⟨⟩⟩,?_⟩
  .grind [jac,aMy]
  clear hv j G J I l d
  rintro⟨k,x,q⟩ C
  have R:q%2=1:=C.odd;have j:k=1\/k= -1:=C.k;have hv:k*jac x q=r:=C.val;have i:x<2^m:=C.ba;have hqm:q<2^m:=C.bn;clear C;dsimp only;by_cases N:x=0
  .grind [dL,aEz]
  have U:FW (dL (x:Z)>0)=FU:=by rw[aDP (by omega)];rfl
  have Q:=aOj (z:=(x:Z)) (by omega);rw[AL]at Q;rw[U,Z6];rw[AL,Q,tm2,aEt,aXq,aXq];obtain⟨M,s2⟩:=aPV N;rw[bDh N R]at hv;generalize v2 x=v at *;generalize x/2^v=y at *;have g:y<=x:=by
   have F:1<=2^v:=B5;have P:y*1<=y*2^v:=AV _ F;omega
  rw[aHJ s2]at hv;have E:=pP (q:=(q:Z)) (by omega);have t:∀ {z:Z},z=1\/z= -1->FV FT z=z:=λh=>by rcases h with h|h<;>rw[h]<;>rfl
  have e:=wL j E;have s:∀ {z:Z},z=1\/z= -1->(0-z=1\/0-z= -1):=λh=>by rcases h with h|h<;>rw[h]<;>decide
  refine⟨by omega,by omega,?_⟩;by_cases u:v%2=1
  .rw[Y0 u,Z6];unfold tsg at hv;rw[Y u]at hv;refine⟨⟨by omega,.inr rfl⟩,by omega,⟨by omega,.inl rfl⟩,?_⟩;by_cases A:y%4=3
   .rw[Y0 A,Z6];refine⟨⟨by omega,.inl rfl⟩,?_⟩;by_cases w:q%4=3
    .rw[Y0 w,Z6];unfold rsg at hv;rw[Y ⟨A,w⟩]at hv;exact jI (by omega) s2 g i (by rw[t e,t (s e)]) (s e) (by rw[<-hv];grind)
    .rw[Y1 w,Z5];unfold rsg at hv;rw[X (by omega)]at hv;exact jI (by omega) s2 g i (t e) e (by rw[<-hv];grind)
   .rw[Y1 A,Z5];unfold rsg at hv;rw[X (by omega)]at hv;exact jI (by omega) s2 g i (t e) e (by rw[<-hv];grind)
  .rw[Y1 u,Z5];unfold tsg at hv;rw[X u,A5]at hv;refine⟨⟨by omega,.inl rfl⟩,?_⟩;by_cases A:y%4=3
   .rw[Y0 A,Z6];refine⟨⟨by omega,.inl rfl⟩,?_⟩;by_cases w:q%4=3
    .rw[Y0 w,Z6];unfold rsg at hv;rw[Y ⟨A,w⟩]at hv;exact jI (by omega) s2 g i (t (s j)) (s j) (by rw[<-hv];grind)
    .rw[Y1 w,Z5];unfold rsg at hv;rw[X (by omega),A5]at hv;exact jI (by omega) s2 g i rfl j hv
   .rw[Y1 A,Z5];unfold rsg at hv;rw[X (by omega),A5]at hv;exact jI (by omega) s2 g i rfl j hv
 .simp at h
def aSy:Ctr AA:=⟨169,aIi,λargs w=>Tryz.call169 args w,aO bT Tryz.func169 aIi bDL⟩
def aDd:aG
 |[.big a n,.big b m]=>FP (FP (n<=200000/\m<=200000),.br (V (0<b)) (.br (V (gcd a b=1)) (.ret (.tup [.big (bU a b) m,.int .i64 0])) (.ret (.tup [.big 0 0,.int .i64 4]))) (.ret (.tup [.big 0 0,.int .i64 1])))
 |_=>FQ
theorem aWd(a b:Z)(n m:O):(bif V (dL b<1)then bif V (0<b)then bif V (gcd a b=1)then aD 0 (bU a b) 0 m/\(1:Z)=0/\S else aD 0 0 0 0/\(1:Z)=4/\S else aD 0 0 0 0/\(1:Z)=1/\S else (n<=900000/\m<=900000/\(b=0->U))/\(m<=300000/\m<=300000/\(b=0->U))/\m<=1000000/\bif !decide ((gcd (a%b) b:Z)=1)then bif V (0<b)then bif V (gcd a b=1)then aD 0 (bU a b) 0 m/\(4:Z)=0/\S else aD 0 0 0 0/\(4:Z)=4/\S else aD 0 0 0 0/\(4:Z)=1/\S else (m<=900000/\m<=900000/\(b=0->U))/\bif V (0<b)then bif V (gcd a b=1)then aD (tT (a%b) b%b) (bU a b) m m/\(0:Z)=0/\S else aD (tT (a%b) b%b) 0 m 0/\(0:Z)=4/\S else aD (tT (a%b) b%b) 0 m 0/\(0:Z)=1/\S)=aJ (aK [nE,dC,aCJ,aBe] aC) EX [.big a n,.big b m] (AF (.br (V (0<b)) (.br (V (gcd a b=1)) (.ret (.tup [.big (bU a b) m,.int .i64 0])) (.ret (.tup [.big 0 0,.int .i64 4]))) (.ret (.tup [.big 0 0,.int .i64 1])))):=by kernel_rfl
theorem aPF{b:Z}:V (dL b<1)=!decide (0<b):=by
 grind [dL]
theorem aYW:eD EX aDd:=by
 intro ms p r h c hf;unfold aDd at h;split at h
 .rename_i a n b m;cases h;obtain⟨hn,hm⟩:=c;refine⟨aK [nE,dC,aCJ,aBe] aC,?_⟩;rw[<-aWd a b n m,aPF];by_cases e:0<b
  .rw[Y0 e,aAb];refine⟨by omega,by omega,by omega,?_⟩;by_cases d:gcd a b=1
   .have f:V ((gcd a b:Z)=1)=FU:=Y0 (by omega);rw[f,Y0 d];exact⟨by omega,⟨rfl,.inl (Z0 _)⟩,(by and_intros<;>first|exact⟨⟩|rfl|omega)⟩
   grind
  grind
 .simp at h
def aNO:Ctr AA:=⟨118,aDd,λargs w=>Tryz.call118 args w,aO bT Tryz.func118 aDd aYW⟩
def gX(a:Z)(e:O)(m:Z):Z:=a^e%m
def aDg:aG
 |[.big a n,.big b k,.ref (.big m l)]=>FP (FP (n<=200000/\k<=200000/\l<=200000/\0<m),.ret (.big (a*b%m) l))
 |_=>FQ
theorem aWg(a b m:Z)(n k l:O):((n<=1000000/\k<=1000000)/\(n+k<=900000/\l<=900000/\(m=0->U))/\a*b%m=a*b%m/\(l<=l\/P (a*b%m)<2^l))=aJ (aK [jN,nE] aC) EW [.big a n,.big b k,.ref (.big m l)] (AF (.ret (.big (a*b%m) l))):=by kernel_rfl
theorem aYZ:bE EW aDg:=by
 intro ms p r h c;unfold aDg at h;split at h
 .rename_i a n b k m l;cases h;obtain⟨h1,h2,h3,h4⟩:=c;refine⟨aK [jN,nE] aC,?_⟩;rw[<-aWg a b m n k l];omega
 .simp at h
def aNP:Ctr AA:=⟨119,aDg,λargs w=>Tryz.call119 args w,aM bT Tryz.func119 aDg aYZ⟩
def sT(a e m:Z):Z:=if e<0 then gX (bU a m) e.natAbs m else gX a e.natAbs m
def aIt:aG
 |[.big a n,.big e k,.big m l]=>FP (FP (n<=100000/\k<=100000/\l<=100000),.br (V (0<m)) (.br (V (e<0)&&!decide (gcd a m=1)) (.ret (.tup [.big 0 0,.int .i64 4])) (.ret (.tup [.big (sT a e m) l,.int .i64 0]))) (.ret (.tup [.big 0 0,.int .i64 1])))
 |_=>FQ
structure PwC where
 a:Int
 e:Int
structure PwCI (a e m:Int) (k:Nat) (s:PwC):Prop where
 e0:0<=s.e
 ek:s.e.natAbs<2^k
 m0:0<m
 g:e<0->gcd a m=1
 v:gX s.a s.e.natAbs m=sT a e m
structure PwS where
 i:Nat
 x:Int
 y:Int
structure PwI (a:Int) (e:Nat) (m:Int) (s:PwS):Prop where
 i:s.i<=bl e
 x:s.x=gX a (e%2^s.i) m
 y:s.y=gX a (2^s.i) m
def pwS(a e m:Z)(n k l:O)(r:Z×O)(s:PwS):MS:=⟨66, [(4,.bp 1 0),(5,.bp 2 0),(6,.bp 3 0),(10,.fn 119 [.bp 2 0]),(11,.bp 4 0),(12,.bp 5 0),(41,.int .i64 (bl e.natAbs)),(42,.int .i64 s.i)],
 [⟨Aa,.one (.big a n)⟩,⟨Aa,.one (.big e k)⟩,⟨Aa,.one (.big m l)⟩,⟨Aa,.one (.big r.1 r.2)⟩,⟨Aa,.one (.big s.x l)⟩,⟨Aa,.one (.big s.y l)⟩],0⟩
def aR3(m:Z)(n k l:O):O->MS->G LoopAnn
 |11,s=>(match s.bx with
  |⟨_,.one (.big a _)⟩::⟨_,.one (.big e _)⟩::_=>FP (.inv PwS (PwI a e.natAbs m) (pwS a e m n k l (0,0)) (λs=>bl e.natAbs-s.i))
  |_=>FQ)
 |_,_=>FQ
def aTN(a e m:Z)(n k l:O):O->MS->G CutAnn
 |8,_=>FP (.mk PwC (PwCI a e m k) (λs=>⟨66, [(3,.bp 0 0),(4,.bp 1 0),(5,.bp 2 0),(6,.bp 3 0)], [⟨Aa,.one (.big s.a n)⟩,⟨Aa,.one (.big s.e k)⟩,⟨Aa,.one (.big m l)⟩,⟨Aa,.one (.big 0 0)⟩],0⟩))
 |_,_=>FQ
theorem bAG(a e m:Z)(n k l:O)(b:_)(c:b=λ(i:PwC)=>(P (PwC.e i))):(bif V (dL m<1)then bif V (0<m)then bif V (e<0)&&!decide (gcd a m=1)then aD 0 0 0 0/\(1:Z)=4/\S else aD 0 (sT a e m) 0 l/\(1:Z)=0/\S else aD 0 0 0 0/\(1:Z)=1/\S else (bif V (e<0)then (n<=200000/\l<=200000)/\bif V (0<m)then bif V (gcd a m=1)then k<=1000000/\∃i,PwCI a e m k i/\(0=0/\0=0/\0=0/\0=0/\S)/\aD (bU a m) (PwC.a i) l (max n l)/\aD (-e) (PwC.e i) k k/\aD m m l l/\aD 0 0 0 0/\S else bif V (0<m)then bif V (e<0)&&!decide (gcd a m=1)then aD 0 0 0 0/\(4:Z)=4/\S else aD 0 (sT a e m) 0 l/\(4:Z)=0/\S else aD 0 0 0 0/\(4:Z)=1/\S else bif V (0<m)then bif V (e<0)&&!decide (gcd a m=1)then aD 0 0 0 0/\(1:Z)=4/\S else aD 0 (sT a e m) 0 l/\(1:Z)=0/\S else aD 0 0 0 0/\(1:Z)=1/\S else ∃i,PwCI a e m k i/\(0=0/\0=0/\0=0/\0=0/\S)/\aD a (PwC.a i) n (max n l)/\aD e (PwC.e i) k k/\aD m m l l/\aD 0 0 0 0/\S)/\∀(i:PwC),PwCI a e m k i->fY 1/\(64<=900000/\l<=900000/\(m=0->U))/\(max n l<=900000/\l<=900000/\(m=0->U))/\k<=1000000/\(∃i_1,PwI (PwC.a i) (b i) m i_1/\(0=0/\0=0/\0=0/\(0=0/\S)/\0=0/\0=0/\(bl (b i) :Z)=(bl (b i) :Z)/\0=(PwS.i i_1:Z)/\S)/\aD (PwC.a i) (PwC.a i) (max n l) (max n l)/\aD (PwC.e i) (PwC.e i) k k/\aD m m l l/\aD 0 0 0 0/\aD (1%m) (PwS.x i_1) l l/\aD (PwC.a i%m) (PwS.y i_1) l l/\S)/\∀(i_1:PwS),PwI (PwC.a i) (b i) m i_1->bif V ((PwS.i i_1:Z)<(bl (b i) :Z))then ((32:Z)=0->U)/\(0<=Q FT (D (PwS.i i_1:Z) 32)/\Q FT (D (PwS.i i_1:Z) 32)<(H (aA (b i)):Z))/\((32:Z)=0->U)/\0<=T (PwS.i i_1:Z) 32/\bif Q FR (AI (R (AC FR) (fdiv (J (aA (b i)) (I (Q FT (D (PwS.i i_1:Z) 32))) 0) ((2:Z)^min (I (T (PwS.i i_1:Z) 32)) (AC FR))) &&&R (AC FR) 1):Z)==1 then (l<=200000/\l<=200000/\l<=200000/\0<m)/\(l<=200000/\l<=200000/\l<=200000/\0<m)/\∃j,PwI (PwC.a i) (b i) m j/\((0=0/\0=0/\0=0/\(0=0/\S)/\0=0/\0=0/\(bl (b i) :Z)=(bl (b i) :Z)/\Q FT ((PwS.i i_1:Z)+1)=(PwS.i j:Z)/\S)/\aD (PwC.a i) (PwC.a i) (max n l) (max n l)/\aD (PwC.e i) (PwC.e i) k k/\aD m m l l/\aD 0 0 0 0/\aD (PwS.x i_1*PwS.y i_1%m) (PwS.x j) l l/\aD (PwS.y i_1*PwS.y i_1%m) (PwS.y j) l l/\S)/\bl (b i)-PwS.i j<bl (b i)-PwS.i i_1 else (l<=200000/\l<=200000/\l<=200000/\0<m)/\∃j,PwI (PwC.a i) (b i) m j/\((0=0/\0=0/\0=0/\(0=0/\S)/\0=0/\0=0/\(bl (b i) :Z)=(bl (b i) :Z)/\Q FT ((PwS.i i_1:Z)+1)=(PwS.i j:Z)/\S)/\aD (PwC.a i) (PwC.a i) (max n l) (max n l)/\aD (PwC.e i) (PwC.e i) k k/\aD m m l l/\aD 0 0 0 0/\aD (PwS.x i_1) (PwS.x j) l l/\aD (PwS.y i_1*PwS.y i_1%m) (PwS.y j) l l/\S)/\bl (b i)-PwS.i j<bl (b i)-PwS.i i_1 else bif V (0<m)then bif V (e<0)&&!decide (gcd a m=1)then aD (PwS.x i_1) 0 l 0/\(0:Z)=4/\S else aD (PwS.x i_1) (sT a e m) l l/\(0:Z)=0/\S else aD (PwS.x i_1) 0 l 0/\(0:Z)=1/\S)=aJ (aJ5 [dC,aNO,aB2,aNP,aF4,nE,t8] (aR3 m (max n l) k l) (aTN a e m (max n l) k l)) FA [.big a n,.big e k,.big m l] (AF (.br (V (0<m)) (.br (V (e<0)&&!decide (gcd a m=1)) (.ret (.tup [.big 0 0,.int .i64 4])) (.ret (.tup [.big (sT a e m) l,.int .i64 0]))) (.ret (.tup [.big 0 0,.int .i64 1])))):=by subst c;kernel_rfl
theorem aAA(a m:Z):gX a 0 m=1%m:=by unfold gX;rw[DN]
theorem aH9(a m:Z):gX a 1 m=a%m:=by unfold gX;rw[CJ,DN,A5]
theorem aAz(a m:Z)(i j:O):gX a i m*gX a j m%m=gX a (i+j) m:=by
 grind [gX,BG,DZ]
theorem PwI.init(a:Z)(e:O)(m:Z):PwI a e m ⟨0,1%m,a%m⟩ :=
 ⟨Z9 _,by show 1%m=gX a (e%2^0) m;rw[AX,Nat.mod_one,aAA],by show a%m=gX a (2^0) m;rw[AX,aH9]⟩
theorem PwI.step{a:Z}{e:O}{m:Z}{i:O}{x y:Z}(h:PwI a e m ⟨i,x,y⟩)(d:i<bl e) :
  (V (e/2^i%2=1)=FU->PwI a e m ⟨i+1,x*y%m,y*y%m⟩)/\(V (e/2^i%2=1)=Aa->PwI a e m ⟨i+1,x,y*y%m⟩):=by
 have hx:x=gX a (e%2^i) m:=h.x;have f:y=gX a (2^i) m:=h.y;have b:y*y%m=gX a (2^(i+1)) m:=by rw[f,aAz,AZ,Nat.mul_two]
 have hs:e%2^(i+1)=e%2^i+2^i*(e/2^i%2):=Nat.mod_pow_succ;refine⟨λc=>⟨d,?_,b⟩,λc=>⟨d,?_,b⟩⟩
 .have c:=of_decide_eq_true c;show x*y%m=gX a (e%2^(i+1)) m
  simp_all [CO,aAz]
 .simp_all
theorem PwI.fin{a:Z}{e:O}{m:Z}{i:O}{x y:Z}(h:PwI a e m ⟨i,x,y⟩)(hi:¬i<bl e):x=gX a e m:=by
 have h1:i<=bl e:=h.i;have hx:x=gX a (e%2^i) m:=h.x
 grind [bl,A9,kY]
theorem bDY:eD FA aIt:=by
 intro ms p r h s t;unfold aIt at h;split at h
 .rename_i a n e k m l;cases h;obtain⟨hn,hk,hl⟩:=s;have u:e.natAbs<2^k:=t.2.1;refine⟨aJ5 [dC,aNO,aB2,aNP,aF4,nE,t8] (aR3 m (max n l) k l) (aTN a e m (max n l) k l),?_⟩;rw[<-bAG a e m n k l _ rfl,aPF];by_cases j:0<m
  .rw[Y0 j,AO,Z5];refine⟨?_,?_⟩
   .by_cases b:e<0
    .rw[Y0 b,Z6,Z6];refine⟨by omega,?_⟩;by_cases d:gcd a m=1
     .rw[Y0 d,Z6];refine⟨by omega,⟨bU a m,-e⟩,⟨by show 0<= -e;omega,by show(-e).natAbs<_;omega,j,λ_=>d,?_⟩,?_⟩
      all_goals grind [gX,bU,sT,DD,Nat.le_max_right]
     grind
    .rw[Y1 b,Z5];refine⟨⟨a,e⟩,⟨by show 0<=e;omega,u,j,λh=>W h b,?_⟩,?_⟩
     all_goals grind [gX,sT,Nat.le_max_left]
   .rintro⟨A,E⟩ c
    have hE0:0<=E:=c.e0;have o:E.natAbs<2^k:=c.ek;have d:=c.g;have hv:gX A E.natAbs m=sT a e m:=c.v;have hbr:(V (e<0)&&!decide (gcd a m=1))=Aa:=by
     simp_all
    clear c d;dsimp only;generalize hN:E.natAbs=N at *;have hbl:bl N<=k:=dN o;refine⟨by omega,by omega,by omega,by omega,⟨⟨0,1%m,A%m⟩,PwI.init A N m,?_⟩,?_⟩
    .grind
    rintro⟨i,x,y⟩ q
    dsimp only;rw[AS];split
    .rename_i f;have f:i<bl N:=by omega
     have C:D (i:Z) 32=((i/32:O):Z):=rfl;have B:T (i:Z) 32=((i%32:O):Z):=rfl;have z:Q FT ((i/32:O):Z)=((i/32:O):Z):=aT (by omega) (by omega);have w:Q FT ((i:Z)+1)=((i+1:O):Z):=by rw[aT (by omega) (by omega)];omega
     have hidx:=oM f;rw[C,B,z,w,Z8,Z8,t5];refine⟨by omega,by omega,by omega,by omega,?_⟩;obtain⟨st1,st2⟩:=q.step f
     grind
    .rename_i f;have:=q.fin (by omega)
     grind
  grind
 .simp at h
def aSF:Ctr AA:=⟨77,aIt,λargs w=>Tryz.call77 args w,aO bT Tryz.func77 aIt bDY⟩
abbrev cvM(A B M:Z)(i j k:O):MV:= .st [.big A i,.big B j,.big M k]
abbrev qD(X Y:Z)(o:N)(i j:O):MV:= .st [.big X i,.big Y j,.bool o]
theorem bFE(z:Z):(fY z/\z=z/\(64<=64\/P z<2^64))=aJ (aK [gZ] aC) D9 [.int .i64 z] (AF (.ret (.big z 64))):=by kernel_rfl
theorem bHl:bE D9 nX:=by
 intro ms p r h a;unfold nX at h;split at h
 .rename_i z;cases h;refine⟨aK [gZ] aC,?_⟩;rw[<-bFE z];exact⟨a,rfl,.inl (Z0 _)⟩
 .simp at h
def aNX:Ctr AA:=⟨189,nX,λargs w=>Tryz.call189 args w,aM bT Tryz.func189 nX bHl⟩
def aPo:aG
 |[.st [.big _ _,.big _ _,.big M k],.big a n]=>FP (FP (k<=1000/\n<=1000),.ret (.bool (V (0<=a/\a<M))))
 |_=>FQ
theorem bFC(A B M a:Z)(i j k n:O):(bif V (dL a≥0)then (n<=1000000/\k<=1000000)/\V (aX a M<0)=V (0<=a/\a<M)else Aa=V (0<=a/\a<M))=aJ (aK [dC,eF] aC) D8 [cvM A B M i j k,.big a n] (AF (.ret (.bool (V (0<=a/\a<M))))):=by kernel_rfl
theorem aAe{a b:Z}:aX a b<0↔a<b:=by unfold aX;split<;>(try split)<;>omega
theorem aVD{a:Z}:0<=dL a↔0<=a:=by unfold dL;split<;>(try split)<;>omega
theorem bHj:bE D8 aPo:=by
 intro ms p r h b;unfold aPo at h;split at h
 .rename_i A i B j M k a n;cases h;obtain⟨h1,h2⟩:=b;refine⟨aK [dC,eF] aC,?_⟩;rw[<-bFC A B M a i j k n,AS]
  grind [aVD,aAe]
 .simp at h
def bBR:Ctr AA:=⟨190,aPo,λargs w=>Tryz.call190 args w,aM bT Tryz.func190 aPo bHj⟩
def aIL:aG
 |[.st [.big _ _,.big _ _,.big M k],.big a n]=>FP (FP (k<=1000/\n<=5000/\0<M),.ret (.big (a%M) k))
 |_=>FQ
theorem bAY(A B M a:Z)(i j k n:O):((n<=900000/\k<=900000/\0<M)/\a%M=a%M/\(k<=k\/P (a%M)<2^k))=aJ (aK [aSC] aC) D6 [cvM A B M i j k,.big a n] (AF (.ret (.big (a%M) k))):=by kernel_rfl
theorem bEf:bE D6 aIL:=by
 intro ms p r h b;unfold aIL at h;split at h
 .rename_i A i B j M k a n;cases h;obtain⟨h1,h2,h3⟩:=b;refine⟨aK [aSC] aC,?_⟩;rw[<-bAY A B M a i j k n];omega
 .simp at h
def uA:Ctr AA:=⟨192,aIL,λargs w=>Tryz.call192 args w,aM bT Tryz.func192 aIL bEf⟩
def aAL:aG
 |[.st [.big _ _,.big _ _,.big M k],.big a n,.big b m]=>FP (FP (k<=1000/\n<=2000/\m<=2000/\0<M),.ret (.big (a*b%M) k))
 |_=>FQ
theorem aRE(A B M a b:Z)(i j k n m:O):((n<=1000000/\m<=1000000)/\(k<=1000/\n+m<=5000/\0<M)/\a*b%M=a*b%M/\(k<=k\/P (a*b%M)<2^k))=aJ (aK [uA,jN] aC) D7 [cvM A B M i j k,.big a n,.big b m] (AF (.ret (.big (a*b%M) k))):=by kernel_rfl
theorem aUt:bE D7 aAL:=by
 intro ms p r h c;unfold aAL at h;split at h
 .rename_i A i B j M k a n b m;cases h;obtain⟨h1,h2,h3,h4⟩:=c;refine⟨aK [uA,jN] aC,?_⟩;rw[<-aRE A B M a b i j k n m];omega
 .simp at h
def zD:Ctr AA:=⟨191,aAL,λargs w=>Tryz.call191 args w,aM bT Tryz.func191 aAL aUt⟩
def aIN:aG
 |[.st [.big _ _,.big _ _,.big M k],.st [.big X n,.big Y m,.bool o]]=>FP (FP (k<=1000/\m<=2000/\0<M),.br o (.ret (.st [.big X n,.big Y m,.bool FU])) (.ret (.st [.big X n,.big (-Y%M) k,.bool Aa])))
 |_=>FQ
theorem bA0(A B M X Y:Z)(o:N)(i j k n m:O):(bif !o then m<=1000000/\(k<=1000/\m<=5000/\0<M)/\bif o then aD X X n n/\aD (-Y%M) Y k m/\o=FU/\S else aD X X n n/\aD (-Y%M) (-Y%M) k k/\o=Aa/\S else bif o then aD X X n n/\aD Y Y m m/\o=FU/\S else aD X X n n/\aD Y (-Y%M) m k/\o=Aa/\S)=aJ (aK [uA,aB2] aC) D5 [cvM A B M i j k,qD X Y o n m] (AF (.br o (.ret (.st [.big X n,.big Y m,.bool FU])) (.ret (.st [.big X n,.big (-Y%M) k,.bool Aa])))):=by kernel_rfl
def aIJ:aG
 |[.st [.big _ _,.big _ _,.big M k],.big a n]=>FP (FP (k<=1000/\n<=5000/\0<M),.br (V (gcd a M=1)) (.ret (.big (bU a M) k)) (.pan (.iface 215 (.big (gcd a M) k))))
 |_=>FQ
theorem bAW(A B M a:Z)(i j k n:O):((n<=200000/\k<=200000/\0<M)/\bif V (gcd a M=1)then bif V (gcd a M=1)then bU a M=bU a M/\(k<=k\/P (bU a M)<2^k)else U else (n<=900000/\k<=900000)/\bif V (gcd a M=1)then U else (gcd a M:Z)=(gcd a M:Z)/\(max n k<=k\/P (gcd a M:Z)<2^k))=aJ (aK [aSB,aHp] aC) D0 [cvM A B M i j k,.big a n] (AF (.br (V (gcd a M=1)) (.ret (.big (bU a M) k)) (.pan (.iface 215 (.big (gcd a M) k))))):=by kernel_rfl
theorem bEh:bE D5 aIN:=by
 intro ms p r h a;unfold aIN at h;split at h
 .rename_i A i B j M k X n Y m o;cases h;obtain⟨h1,h2,h3⟩:=a;refine⟨aK [uA,aB2] aC,?_⟩;rw[<-bA0 A B M X Y o i j k n m]
  grind
 .simp at h
def aSP:Ctr AA:=⟨193,aIN,λargs w=>Tryz.call193 args w,aM bT Tryz.func193 aIN bEh⟩
theorem aAa{a M:Z}{k:O}(hM:0<M)(hk:M.natAbs<2^k):gcd a M<2^k:=by
 have:=DI (by omega) (Int.gcd_dvd_natAbs_right a M);omega
theorem bEe:eD D0 aIJ:=by
 intro ms p r h c d;unfold aIJ at h;split at h
 .rename_i A i B j M k a n;cases h;obtain⟨h1,h2,b⟩:=c;have e:M.natAbs<2^k:=d.1.2.2.1;refine⟨aK [aSB,aHp] aC,?_⟩;rw[<-bAW A B M a i j k n];refine⟨⟨by omega,by omega,b⟩,?_⟩;cases V (gcd a M=1)with
  |true=>exact⟨rfl,.inl (Z0 _)⟩
  |false=>exact⟨by omega,rfl,.inr (by have:=aAa (a:=a) b e;simpa using this)⟩
 .simp at h
def aSN:Ctr AA:=⟨204,aIJ,λargs w=>Tryz.call204 args w,aO bT Tryz.func204 aIJ bEe⟩
def inB(a M:Z):N:=decide (0<=a/\a<M)
def cT(A B M:Z):N:=!(V (M<=3))&&!(V (M%2=0))&&inB A M&&inB B M
def nT(A B M X Y:Z)(o:N):N :=
 cT A B M&&g o (V (X=0)&&V (Y=0)) (inB X M&&inB Y M&&V (Y*Y%M=((X*X%M+A)*X%M+B)%M))
def aPq:aG
 |[.st [.big A i,.big B j,.big M k],.st [.big X n,.big Y m,.bool o]]=>FP (FP (i<=1000/\j<=1000/\k<=1000/\n<=1000/\m<=1000),.ret (.bool (nT A B M X Y o)))
 |_=>FQ
theorem bFF(A B M X Y:Z)(o:N)(i j k n m:O):(fY 3/\(k<=1000000/\64<=1000000)/\bif V (aX M 3<=0)then Aa=nT A B M X Y o else ((0:Z)<=0/\0<(H (aA (P M)):Z))/\bif Q FR (AI (R (AC FR) (J (aA (P M)) (I 0) 0) &&&R (AC FR) 1):Z)==0 then Aa=nT A B M X Y o else (k<=1000/\i<=1000)/\bif !decide (0<=A/\A<M)then Aa=nT A B M X Y o else (k<=1000/\j<=1000)/\bif !decide (0<=B/\B<M)then Aa=nT A B M X Y o else bif o then bif dL X==0 then (dL Y==0)=nT A B M X Y o else Aa=nT A B M X Y o else (k<=1000/\n<=1000)/\bif !decide (0<=X/\X<M)then Aa=nT A B M X Y o else (k<=1000/\m<=1000)/\bif !decide (0<=Y/\Y<M)then Aa=nT A B M X Y o else (k<=1000/\n<=2000/\n<=2000/\0<M)/\(k<=1000000/\i<=1000000)/\(k<=1000/\max k i+1<=2000/\n<=2000/\0<M)/\(k<=1000000/\j<=1000000)/\(k<=1000/\m<=2000/\m<=2000/\0<M)/\(k<=1000/\max k j+1<=5000/\0<M)/\(k<=1000000/\k<=1000000)/\(aX (Y*Y%M) (((X*X%M+A)*X%M+B)%M)==0)=nT A B M X Y o)=aJ (aK [aNX,eF,bBR,zD,uA,jR,dC] aC) EG [cvM A B M i j k,qD X Y o n m] (AF (.ret (.bool (nT A B M X Y o)))):=by kernel_rfl
theorem bH8{x:Z}(h:0<=x/\x<4294967296):u32.wrap (↑(R (AC FR) x &&&R (AC FR) 1).toNat)=x%2:=by
 rw[l7,BitVec.toNat_and];have e1:(R (AC FR) x).toNat=x.toNat:=by
  rw[BitVec.toNat_ofInt];show(x%4294967296).toNat=_;omega
 grind
theorem aCZ{a b:Z}:aX a b<=0↔a<=b:=by unfold aX;split<;>(try split)<;>omega
theorem vJ{a:Z}:dL a=0↔a=0:=by unfold dL;split<;>(try split)<;>omega
theorem aHk{a b:Z}{c:Prop}[Decidable c](h:a=b↔c):(a==b)=decide c:=by
 grind
theorem bGZ(k:O):(aA k).getD 0 0=((k%4294967296:O):Z):=by
 grind [bN,gS]
theorem bHm:bE EG aPq:=by
 intro ms p r h f;unfold aPq at h;split at h
 .rename_i A i B j M k X n Y m o;cases h;obtain⟨h1,h2,h3,h4,h5⟩:=f;refine⟨aK [aNX,eF,bBR,zD,uA,jR,dC] aC,?_⟩;rw[<-bFF A B M X Y o i j k n m];refine⟨by omega,by omega,?_⟩;unfold nT cT;by_cases b:M<=3
  .grind [aCZ]
  .rw[Y1 (λh=>b (aCZ.1 h)),Y1 b,Z5];have d:=aQ M.natAbs;have g:=bGZ M.natAbs;have a:aA M.natAbs≠ []:=λe=>by have:=cA.1 e;omega
   have hl:0<(aA M.natAbs).length:=B0.2 a;refine⟨by omega,?_⟩;rw[show I 0=0 from rfl,bH8 (d.getD 0),aHk (c:=M%2=0) (by rw[g];omega)]
   grind [inB,vJ,fZ]
 .simp at h
def aNY:Ctr AA:=⟨173,aPq,λargs w=>Tryz.call173 args w,aM bT Tryz.func173 aPq bHm⟩
def qG(b d a c:Z):Z:=cond (V (b=a)) (d+c) (a-b)
def slN(A a d c b:Z):Z:=cond (V (a=c)) (3*(a*a)+A) (b-d)
def fT(A M d c b a:Z):Z:=slN A d c b a*bU (qG d c b a) M%M
def nO(A M b d a c:Z):Z:=(fT A M b d a c*fT A M b d a c-(b+a))%M
def vK(A M b a d c:Z):Z:=(fT A M b a d c*(b-nO A M b a d c)-a)%M
def oD(M d c b a:Z):N:=decide (d=b)&&V ((c+a)%M=0)
def bCm(T:FX)(A M d c:Z)(f:N)(b a:Z)(e:N)(k n m n' m':O):MRes :=
 .br f (.ret (qD b a e n' m')) (.br e (.ret (qD d c Aa n m)) (.br (oD M d c b a) (.ret (qD 0 0 FU 0 0))
  (.br (V (gcd (qG d c b a) M=1)) (.ret (qD (nO A M d c b a) (vK A M d c b a) Aa k k)) (.pan (.iface T (.big (gcd (qG d c b a) M) k))))))
def aIC:aG
 |[.st [.big A i,.big _ _,.big M k],.st [.big e n,.big d m,.bool f],.st [.big b n',.big a m',.bool c]] =>
  FP (FP (i<=200/\k<=200/\n<=200/\m<=200/\n'<=200/\m'<=200/\0<M),bCm 215 A M e d f b a c k n m n' m')
 |_=>FQ
theorem bAQ(A B M a c b d:Z)(o f:N)(i j k n m n' m':O)(p:_)(C:p=(qG a c b d))(g:_)(z:g=(b-a))(e:_)(y:e=(c+d))(l:_)(x:l=(d-c))(s:_)(D:s=(a-(l *bU g M%M*(l *bU g M%M)-(a+b))%M))(r:_)(w:r=(nO A M a c b d))(q:_)(v:q=(vK A M a c b d))(h:_)(u:h=(a*a))(t:_)(E:t=(a-((3* h +A)*bU e M%M*((3* h +A)*bU e M%M)-(a+b))%M)):(bif o then bif o then aD b b n' n'/\aD d d m' m'/\f=f/\S else bif f then aD b a n' n/\aD d c m' m/\f=Aa/\S else bif oD M a c b d then aD b 0 n' 0/\aD d 0 m' 0/\f=FU/\S else bif V (gcd p M=1)then aD b r n' k/\aD d q m' k/\f=Aa/\S else U else bif f then bif o then aD a b n n'/\aD c d m m'/\o=f/\S else bif f then aD a a n n/\aD c c m m/\o=Aa/\S else bif oD M a c b d then aD a 0 n 0/\aD c 0 m 0/\o=FU/\S else bif V (gcd p M=1)then aD a r n k/\aD c q m k/\o=Aa/\S else U else (n<=1000000/\n'<=1000000)/\bif aX a b != 0 then (m'<=1000000/\m<=1000000)/\(n'<=1000000/\n<=1000000)/\(k<=1000/\max n' n+1<=5000/\0<M)/\bif V (gcd g M=1)then (k<=1000/\max m' m+1<=2000/\k<=2000/\0<M)/\(k<=1000000/\k<=1000000)/\(n<=1000000/\n'<=1000000)/\(k+k<=1000000/\max n n'+1<=1000000)/\(k<=1000/\max (k+k) (max n n'+1)+1<=5000/\0<M)/\(n<=1000000/\k<=1000000)/\(k<=1000000/\max n k+1<=1000000)/\(k+(max n k+1)<=1000000/\m<=1000000)/\(k<=1000/\max (k+(max n k+1)) m+1<=5000/\0<M)/\bif o then aD ((l *bU g M%M*(l *bU g M%M)-(a+b))%M) b k n'/\aD ((l *bU g M%M* s-c)%M) d k m'/\Aa=f/\S else bif f then aD ((l *bU g M%M*(l *bU g M%M)-(a+b))%M) a k n/\aD ((l *bU g M%M* s-c)%M) c k m/\Aa=Aa/\S else bif oD M a c b d then aD ((l *bU g M%M*(l *bU g M%M)-(a+b))%M) 0 k 0/\aD ((l *bU g M%M* s-c)%M) 0 k 0/\Aa=FU/\S else bif V (gcd p M=1)then aD ((l *bU g M%M*(l *bU g M%M)-(a+b))%M) r k k/\aD ((l *bU g M%M* s-c)%M) q k k/\Aa=Aa/\S else U else bif o then U else bif f then U else bif oD M a c b d then U else bif V (gcd p M=1)then U else (gcd g M:Z)=(gcd p M:Z)/\(k<=k\/P (gcd g M:Z)<2^k)else (m<=1000000/\m'<=1000000)/\(k<=1000/\max m m'+1<=5000/\0<M)/\bif dL (e %M)==0 then bif o then aD 0 b 0 n'/\aD 0 d 0 m'/\FU=f/\S else bif f then aD 0 a 0 n/\aD 0 c 0 m/\FU=Aa/\S else bif oD M a c b d then aD 0 0 0 0/\aD 0 0 0 0/\FU=FU/\S else bif V (gcd p M=1)then aD 0 r 0 k/\aD 0 q 0 k/\FU=Aa/\S else U else fY 3/\(n<=1000000/\n<=1000000)/\(64<=1000000/\n+n<=1000000)/\(64+(n+n)<=1000000/\i<=1000000)/\(m<=1000000/\m'<=1000000)/\(k<=1000/\max m m'+1<=5000/\0<M)/\bif V (gcd e M=1)then (k<=1000/\max (64+(n+n)) i+1<=2000/\k<=2000/\0<M)/\(k<=1000000/\k<=1000000)/\(n<=1000000/\n'<=1000000)/\(k+k<=1000000/\max n n'+1<=1000000)/\(k<=1000/\max (k+k) (max n n'+1)+1<=5000/\0<M)/\(n<=1000000/\k<=1000000)/\(k<=1000000/\max n k+1<=1000000)/\(k+(max n k+1)<=1000000/\m<=1000000)/\(k<=1000/\max (k+(max n k+1)) m+1<=5000/\0<M)/\bif o then aD (((3* h +A)*bU e M%M*((3* h +A)*bU e M%M)-(a+b))%M) b k n'/\aD (((3* h +A)*bU e M%M* t-c)%M) d k m'/\Aa=f/\S else bif f then aD (((3* h +A)*bU e M%M*((3* h +A)*bU e M%M)-(a+b))%M) a k n/\aD (((3* h +A)*bU e M%M* t-c)%M) c k m/\Aa=Aa/\S else bif oD M a c b d then aD (((3* h +A)*bU e M%M*((3* h +A)*bU e M%M)-(a+b))%M) 0 k 0/\aD (((3* h +A)*bU e M%M* t-c)%M) 0 k 0/\Aa=FU/\S else bif V (gcd p M=1)then aD (((3* h +A)*bU e M%M*((3* h +A)*bU e M%M)-(a+b))%M) r k k/\aD (((3* h +A)*bU e M%M* t-c)%M) q k k/\Aa=Aa/\S else U else bif o then U else bif f then U else bif oD M a c b d then U else bif V (gcd p M=1)then U else (gcd e M:Z)=(gcd p M:Z)/\(k<=k\/P (gcd e M:Z)<2^k))=aJ (aK [aNX,eF,zD,uA,aSN,jR,jS,jN,dC] aC) D3 [cvM A B M i j k,qD a c o n m,qD b d f n' m'] (AF (bCm 215 A M a c o b d f k n m n' m')):=by subst C z y x D w v u E;kernel_rfl
theorem bD8:eD D3 aIC:=by
 intro ms p r h x hf;unfold aIC at h;split at h
 .rename_i A i B j M k b n c m t f n' d m' s;cases h;obtain⟨h1,h2,h3,h4,h5,h6,l⟩:=x;refine⟨aK [aNX,eF,zD,uA,aSN,jR,jS,jN,dC] aC,?_⟩;rw[<-bAQ A B M b c f d t s i j k n m n' m' _ rfl _ rfl _ rfl _ rfl _ rfl _ rfl _ rfl _ rfl _ rfl];cases t with
  |true=>exact⟨⟨rfl,.inl (Z0 _)⟩,⟨rfl,.inl (Z0 _)⟩,rfl,⟨⟩⟩
  |false =>
   cases s with
   |true=>exact⟨⟨rfl,.inl (Z0 _)⟩,⟨rfl,.inl (Z0 _)⟩,rfl,⟨⟩⟩
   |false =>
    simp only[Z5];refine⟨by omega,?_⟩;by_cases e:b=f
    .have u:(aX b f != 0)=Aa:=by rw[fZ.2 e];rfl
     have g:qG b c f d=c+d:=by unfold qG;rw[Y0 e];rfl
     have o:slN A b c f d=3*(b*b)+A:=by unfold slN;rw[Y0 e];rfl
     have w:oD M b c f d=V ((c+d)%M=0):=by unfold oD;rw[Y0 e,AB]
     have q:nO A M b c f d=((3*(b*b)+A)*bU (c+d) M%M*((3*(b*b)+A)*bU (c+d) M%M)-(b+f))%M:=by unfold nO fT;rw[g,o]
     have v:vK A M b c f d=((3*(b*b)+A)*bU (c+d) M%M*(b-nO A M b c f d)-c)%M:=by unfold vK fT;rw[g,o]
     rw[q]at v;simp only[u,Z5,aHk (vJ (a:=(c+d)%M)),w,g,q,v];refine⟨by omega,⟨by omega,by omega,l⟩,?_⟩;cases V ((c+d)%M=0)with
     |true=>exact⟨⟨by first|exact⟨⟩|rfl,.inl (Z0 _)⟩,⟨by first|exact⟨⟩|rfl,.inl (Z0 _)⟩,by first|exact⟨⟩|rfl,⟨⟩⟩
     |false =>
      simp only[Z5];refine⟨by omega,by omega,by omega,by omega,by omega,⟨by omega,by omega,l⟩,?_⟩;cases V (gcd (c+d) M=1)with
      |true =>
       simp only[Z6];exact⟨⟨by omega,by omega,by omega,l⟩,by omega,by omega,by omega,⟨by omega,by omega,l⟩,by omega,by omega,by omega,⟨by omega,by omega,l⟩,⟨by first|exact⟨⟩|rfl,.inl (Z0 _)⟩,⟨by first|exact⟨⟩|rfl,.inl (Z0 _)⟩,by first|exact⟨⟩|rfl,⟨⟩⟩
      |false=>exact⟨by first|exact⟨⟩|rfl,.inl (Z0 _)⟩
    .have u:(aX b f != 0)=FU:=by
      grind [aX,fZ]
     have g:qG b c f d=f-b:=by unfold qG;rw[Y1 e];rfl
     have o:slN A b c f d=d-c:=by unfold slN;rw[Y1 e];rfl
     have w:oD M b c f d=Aa:=by unfold oD;rw[Y1 e,AH]
     have q:nO A M b c f d=((d-c)*bU (f-b) M%M*((d-c)*bU (f-b) M%M)-(b+f))%M:=by unfold nO fT;rw[g,o]
     grind [vK,bU,nO,fT,gcd]
 .simp at h
def aSK:Ctr AA:=⟨196,aIC,λargs w=>Tryz.call196 args w,aO bT Tryz.func196 aIC bD8⟩
theorem aLY(p q r:Addr)(w:L) :
  CallsD AA 203 #[.pointer (FP p),.pointer (FP q),.pointer (FP r)] .returning w λe u' w'=>e= .returned (.tuple #[])/\u'= .returning/\w'=w:=by
 refine callsD_of_wpS DG rfl λc₀ cs a=>?_;apply wpS_seq
 apply wpS_region
 simp[wpOpsS,go_sem,recoverD,a,DB,Exit.thenS];apply wpS_seq
 apply wpS_region
 simp[wpOpsS,go_sem,Exit.thenS];refine wpS_cond (t:=false) (by simp[B9,C2]) ?_;simp only[Bool.false_eq_true,if_false];refine wpS_of_wp (wp_skip ?_);cases c₀
 simp_all [bodyPostS,results,C3]
theorem aMV(v:F)(w:L):(Instr.typeAssert (.iface 215 v) 20 215 FU).run AA w= .ok (.tuple #[v,.bool FU]) w:=by kernel_rfl
def aLG:K Box:=[⟨Aa,.one (qD 0 0 Aa 0 0)⟩,⟨Aa,.one (.big 0 0)⟩,⟨Aa,.one (.int .i64 0)⟩]
def yU(d:Z)(n:O):K Box:=[⟨Aa,.one (qD 0 0 Aa 0 0)⟩,⟨Aa,.one (.big d n)⟩,⟨Aa,.one (.int .i64 6)⟩,⟨Aa,.one (.big d n)⟩]
def zH(d:Z)(n:O):MS:=⟨20, [(3,.iface 215 (.big d n)),(0,.bp 0 0),(1,.bp 1 0),(2,.bp 2 0)],aLG,3⟩
def aZ:Code->Code
 |.seq _ b=>b
 |c=>c
def aXU:Code->Code
 |.cond _ a _=>a
 |c=>c
def qO(f:Func):Code:=f.body.getD .skip
theorem aGU{c:Ctx}{w:L}{t:FX}{m:MV}{v:F}(h:Rep c w (.iface t m) v):∃u,v= .iface t u:=by
 obtain⟨cs,u,hv,hrep,hu⟩:=b6 h rfl (by simp) rfl
 simp_all
theorem aFM{c:Ctx}{w:L}{t:FX}{d:Z}{n:O}{v:F}(h:Rep c w (.iface t (.big d n)) v):∃b,v= .iface t (.agg b)/\Rep1 c w (.big d n) (.agg b):=by
 obtain⟨b,u,hv,a,e⟩:=b6 h rfl (by simp) rfl;simp only[B6,and_true]at hv;have e:u= .agg b.toArray:=e;subst e;exact⟨_,hv,(fH rfl).2 ⟨_,rfl,by simpa using a⟩⟩
def bGO(l:K Box):Ex->MS->Prop
 |.normal,s=>s.bx=l
 |_,_=>U
def vW:Code->K Oper
 |.region _ ops _=>ops.toList
 |.seq a _=>vW a
 |_=> []
def aHw(d:Z)(n:O):MS:=⟨20, [(11,.tup [.big d n,.bool FU]),(10,.iface 215 (.big d n)),(8,.bool FU),(7,.iface 215 (.big d n)),(3,.iface 215 (.big d n)),(0,.bp 0 0),(1,.bp 1 0),(2,.bp 2 0)],aLG,3⟩
noncomputable def uE:Code:=aXU (aZ (aZ (qO D1)))
def aLX(d:Z)(n:O)(s':MS):Prop:=bG (aK [] aC) (λ_=>U) (aZ uE) s' (bGO (yU d n))
theorem aS2(d:Z)(n:O):(yU d n=yU d n)=eG (aK [] aC) (vW uE) (λ_=>U) ((vW uE).drop 2) (aHw d n) (aLX d n):=by kernel_rfl
set_option maxRecDepth 100000 in
theorem aJS(d:Z)(n:O){S:O->Prop}{w0:Base}{c:Ctx}{a:Act}{w:L}(h:St S w0 (zH d n) c a w){Q:Exit->Act->L->Prop}(B:∀s' c' a' w',s'.bx=yU d n->St S w0 s' c' a' w'->Q .normal a' w'):(aZ (qO D1)).wp AA Q a w:=by
 refine wp_seq (wp_region_list ?_);refine eT (E:=aK [] aC) (m:= .iface 215 (.big d n)) (p:=none) rfl rfl trivial h rfl λj q=>?_;have C:aW 7 ((zH d n).putO (FP 7) (MV.iface 215 (MV.big d n))).tm= .iface 215 (.big d n):=rfl;obtain⟨u,hv⟩:=aGU (C ▸ q.tm 7);refine pQ (v:= .bool FU) rfl ?_ λI F=>?_
 .simp[execOp,B9,hv,go_sem]
 have g:=q.put (t:=8) (m:= .bool FU) (v:= .bool FU) (show 8<20 by decide) (eJ _);rw[<-show I=j.put (FP 8) (.bool FU) from F]at g;refine wpList_nil ?_;refine wp_cond_true (fI (g.tm 8)) ?_;refine wp_seq (wp_region_list ?_);refine eT (E:=aK [] aC) (m:= .iface 215 (.big d n)) (p:=none) rfl rfl trivial g rfl λH o=>?_;obtain⟨i,A,x⟩:=aFM (show Rep c w (.iface 215 (.big d n)) _ from o.tm 10);refine pQ (v:= .tuple #[.agg i,.bool FU]) rfl ?_ λr D=>?_
 .simp[execOp,B9,A,aMV]
 have l:=o.put (t:=11) (m:= .tup [.big d n,.bool FU]) (v:= .tuple #[.agg i,.bool FU]) (show 11<20 by decide) ⟨_,rfl,_,_,rfl,x,_,_,rfl,rfl,rfl⟩;rw[<-show r=H.put (FP 11) (.tuple #[.agg i,.bool FU]) from D]at l;have z:eG (aK [] aC) (vW uE) (λ_=>U) ((vW uE).drop 2) (aHw d n) (aLX d n):=by rw[<-aS2 d n]
 refine cH (E:=aK [] aC) (Kp:=λ_=>U) (λ_ _ _ _ b=>b.elim) _ (aHw d n) (aLX d n) c r w z l λs' c' a' w' b y _=>?_
 .refine bD bT _ s' _ c' a' w' Q b y (λe s2 G j s f k=>?_) (λ_ _ _ _ b=>b.elim);cases e with
  |normal=>exact B s2 G j s f k
  |_=>exact f.elim
set_option maxRecDepth 100000 in
theorem aQe{S:O->Prop}{w0:Base}{c:Ctx}{w:L}(m:Mem S w0 aLG c w)(j:∀i,i<3->c.live i){d:Z}{n:O}{v:F}(hv:Rep1 c w (.iface 215 (.big d n)) v) :
  CallsD AA 203 #[.pointer (FP ⟨c.β 0,0,FQ⟩),.pointer (FP ⟨c.β 1,0,FQ⟩),.pointer (FP ⟨c.β 2,0,FQ⟩)] (.panicking [{ v,recovered:=false }]) w λe u' w' =>
   e= .returned (.tuple #[])/\u'= .panicking [{ v,recovered:=true }]/\∃c',Mem S ⟨w0.w,w0.X,λi b z=>i<3/\b=c.β i/\z=c.sz i, []⟩ (yU d n) c' w':=by
 refine callsD_of_wpS DG rfl λc₀ cs k=>?_;refine wpS_seq (wpS_region ?_);obtain⟨u,rfl⟩:=aGU (show Rep c w _ v from hv);simp[wpOpsS,go_sem,recoverD,k,DB,Exit.thenS];have f:∀i,i<3->Rep c w (.bp i 0) (.pointer (FP ⟨c.β i,0,FQ⟩)):=λi l=>aU rfl (by simp) rfl ⟨j i l,rfl⟩;have a:∀T:FY F,T=#[A6 (FP { block:=c.β 0,off:=0 }),A6 (FP { block:=c.β 1,off:=0 }),A6 (FP { block:=c.β 2,off:=0 })]++((C2 17 undef).setIfInBounds 3 (DF 215 u)).setIfInBounds 0 (DF 215 u)->
   St S ⟨w0.w,w0.X,λi b z=>i<3/\b=c.β i/\z=c.sz i, []⟩ (zH d n) c { tmps:=T,defers:=[] } w:=by
  intro T a;have r:T.getD 0 undef= .pointer (FP ⟨c.β 0,0,FQ⟩):=by rw[a];simp[A1]
  have q:T.getD 1 undef= .pointer (FP ⟨c.β 1,0,FQ⟩):=by rw[a];simp[A1]
  have p:T.getD 2 undef= .pointer (FP ⟨c.β 2,0,FQ⟩):=by rw[a];simp[A1]
  have o:T.getD 3 undef= .iface 215 u:=by rw[a];simp[A1]
  refine⟨m.rebase _ _ (λi b z h=>⟨j i h.1,h.2.1.symm,h.2.2.symm⟩),λt=>?_,by rw[a];simp[zH],rfl,λi b z h=>(show qQ 3 i=FU from oE (by decide) h.1)⟩;show Rep c w (aW t (zH d n).tm) (T.getD t undef)
  match t with
  |0=>rw[r];exact f 0 (by decide)
  |1=>rw[q];exact f 1 (by decide)
  |2=>rw[p];exact f 2 (by decide)
  |3=>rw[o];exact hv
  |t+4=>exact⟨⟩
 refine wpS_of_wp (aJS d n (a _ rfl) ?_);intro s' c' a' w' hs' g;refine⟨g.defers,.panicking [{ v:= .iface 215 u,recovered:=true }],rfl,.tuple #[],?_,rfl,rfl,c',?_⟩
 .simp[results,C3]
 .have:=g.mem
  simp_all
def uT:MRes->G MRes
 |.ret m=>(match m with
  |.st [.big X n,.big Y m,.bool o]=>FP (.ret (.tup [qD X Y o n m,.big 0 0,.int .i64 0]))
  |_=>FQ)
 |.pan m=>(match m with
  |.iface t (.big d n)=>g (t.beq 215) (FP (.ret (.tup [qD 0 0 Aa 0 0,.big d n,.int .i64 6]))) FQ
  |_=>FQ)
 |.br b x y=>(match uT x,uT y with
  |some x',FP y'=>FP (.br b x' y')
  |_,_=>FQ)
theorem lG{c:Ctx}{w:L}{e:Ending}:∀(r r':MRes),uT r=FP r'->r.holds c w e->
  (∃X Y o n m v,e= .returned v/\Rep c w (qD X Y o n m) v/\∀c' w' v',Rep c' w' (.tup [qD X Y o n m,.big 0 0,.int .i64 0]) v'->r'.holds c' w' (.returned v'))\/
  (∃d n v,e= .panicked [{ v,recovered:=false }]/\Rep1 c w (.iface 215 (.big d n)) v/\∀c' w' v',Rep c' w' (.tup [qD 0 0 Aa 0 0,.big d n,.int .i64 6]) v'->r'.holds c' w' (.returned v'))
 |.ret m,r',h,a=>by
  simp only[uT]at h;split at h
  .rename_i X n Y m o;simp only[Z1]at h;subst h;cases e<;>first|exact a.elim|skip
   rename_i v;exact .inl ⟨X,Y,o,n,m,v,rfl,a,λ_ _ _ h=>h⟩
  .simp at h
 |.pan m,r',h,a=>by
  simp only[uT]at h;split at h
  .rename_i t d n;cases j:t.beq 215 with
   |false=>rw[j]at h;simp at h
   |true =>
    rw[j,Z6]at h;simp only[Nat.beq_eq]at j;subst j;simp only[Z1]at h;subst h;cases e<;>first|exact a.elim|skip
    obtain⟨v,rfl,p⟩:=a;exact .inr ⟨d,n,v,rfl,p,λ_ _ _ h=>h⟩
  .simp at h
 |.br b x y,r',h,a=>by
  simp only[uT]at h;split at h
  .rename_i x' y' l k;simp only[Z1]at h;subst h;simp only[DY]at a;cases b with
   |true =>
    rcases lG x x' l a with ⟨X,Y,o,n,m,v,i,g,f⟩|⟨d,n,v,i,g,f⟩
    .exact .inl ⟨X,Y,o,n,m,v,i,g,f⟩
    .exact .inr ⟨d,n,v,i,g,f⟩
   |false =>
    rcases lG y y' k a with ⟨X,Y,o,n,m,v,i,g,f⟩|⟨d,n,v,i,g,f⟩
    .exact .inl ⟨X,Y,o,n,m,v,i,g,f⟩
    .exact .inr ⟨d,n,v,i,g,f⟩
  .simp at h
def bR:Code->Code
 |.seq a _=>a
 |c=>c
def aOm(t:MS):Ex->MS->Prop
 |.normal,s=>s=t
 |_,_=>U
def aLH(f:O)(caps:K MV):MS:=⟨9, [(4,.bp 2 0),(3,.bp 1 0),(2,.bp 0 0),(0,.fn f caps)],aLG,0⟩
theorem bAd(f:O)(caps:K MV):(aLH f caps=aLH f caps)=bG (aK [] aC) (λ_=>U) (bR (qO CU)) ⟨9,dT 0 [.fn f caps], [],0⟩ (aOm (aLH f caps)):=by kernel_rfl
def aVS(f:O)(caps:K MV)(X Y:Z)(o:N)(n m:O):MS:=⟨9, [(7,qD X Y o n m),(6,.fn f caps),(5,.fn 203 [.bp 0 0,.bp 1 0,.bp 2 0]),(4,.bp 2 0),(3,.bp 1 0),(2,.bp 0 0),(0,.fn f caps)],aLG,0⟩
def aG7(f:O)(caps:K MV)(X Y:Z)(o:N)(n m:O):MS:=⟨9, [(8,.big 0 0),(7,qD X Y o n m),(6,.fn f caps),(5,.fn 203 [.bp 0 0,.bp 1 0,.bp 2 0]),(4,.bp 2 0),(3,.bp 1 0),(2,.bp 0 0),(0,.fn f caps)], [⟨Aa,.one (qD X Y o n m)⟩,⟨Aa,.one (.big 0 0)⟩,⟨Aa,.one (.int .i64 0)⟩],0⟩
def aJf:K Oper:=vW (aZ (aZ (qO CU)))
theorem bAe(f:O)(caps:K MV)(X Y:Z)(o:N)(n m:O):(aG7 f caps X Y o n m=aG7 f caps X Y o n m)=eG (aK [] aC) aJf (λ_=>U) (aJf.drop 2) (aVS f caps X Y o n m) (λs'=>s'=aG7 f caps X Y o n m):=by kernel_rfl
theorem bAf(f:O)(caps:K MV)(X Y:Z)(o:N)(n m:O):jH AA (aG7 f caps X Y o n m) Tryz.f194.results.toList=FP (FQ, [qD X Y o n m,.big 0 0,.int .i64 0]):=by kernel_rfl
theorem aVT(d:Z)(n:O):jH AA ⟨9, [(2,.bp 0 0),(3,.bp 1 0),(4,.bp 2 0)],yU d n,3⟩ Tryz.f194.results.toList=FP (FQ, [qD 0 0 Aa 0 0,.big d n,.int .i64 6]):=by kernel_rfl
set_option maxRecDepth 100000 in
theorem bE9(k:Ctr AA)(caps:FZ MV)(p:OProp)(r r':MRes)(hs:k.spec caps=FP (p,r))(hp:p.holds)(hm:uT r=FP r')(hcl:nG FU caps=FU)(S:F0->Prop)(w:World)(args:FY Value)(hS:∀b,S b->b<w.heap.size)(hG:GW S w)(ha:RepAll (B8 S) w [.fn k.f caps] args.toList):Calls AA 194 args w λe w'=>Ext w w'/\r'.holds (C1 S) w' e:=by
 have R:=St.start (n:=9) hS hG ha (by simp);have he1:bG (aK [] aC) (λ_=>F1) (bR (qO CU)) ⟨9,dT 0 [.fn k.f caps], [],0⟩ (aOm (aLH k.f caps)):=by rw[<-bAd k.f caps]
 refine calls_of_wp_defers Tryz.func194 rfl ?_;refine wp_seq (bD bT _ _ _ _ _ w _ he1 R (λe s' g a1 I j Q=>?_) (λ_ _ _ _ j=>j.elim));cases e with
 |exit _=>exact j.elim
 |ret=>exact j.elim
 |normal =>
 have j:s'=aLH k.f caps:=j;subst j;refine wp_seq (wp_region_list ?_);refine eT (E:=aK [] aC) (m:= .fn 203 [.bp 0 0,.bp 1 0,.bp 2 0]) (p:=none) rfl rfl trivial Q rfl λa2 q=>?_;obtain⟨cs,L,hcs,_⟩:=b6 (show Rep g I (.fn 203 [.bp 0 0,.bp 1 0,.bp 2 0]) (a2.tmps.getD 5 undef) from q.tm 5) rfl (by simp) rfl;simp only[B6,and_true]at L;obtain⟨_,_,rfl,⟨hl0,rfl⟩,_,_,rfl,⟨hl1,rfl⟩,_,_,rfl,⟨hl2,rfl⟩,rfl⟩:=hcs
 let d:Deferred:={ target:= .fn (.func 203) #[A6 (FP ⟨g.β 0,0,FQ⟩),A6 (FP ⟨g.β 1,0,FQ⟩),A6 (FP ⟨g.β 2,0,FQ⟩)],args:=#[] }
 refine aA6 (d:=d) rfl rfl ?_ ?_
 .simp[execOp,resolve,B4,B9,L,d]
 have C:=q.defer [d];rw[q.defers];generalize ({ a2 with defers:=[d] }:Act)=a3 at C⊢;refine wpList_nil ?_;refine wp_seq (wp_region_list ?_);refine eT (E:=aK [] aC) (m:= .fn k.f caps) (p:=none) rfl rfl trivial C rfl λJ a=>?_;obtain⟨A,K,T,hag⟩:=b6 (show Rep g I (.fn k.f caps) (J.tmps.getD 6 undef) from a.tm 6) rfl (by simp) rfl;simp only[B6,and_true]at K;have U:=aGV _ _ (RepCs.clean (c:=g) (c':=B8 g.S) (r:=true) (λb D=>D) (λ_ b D=>D.elim) caps A hcl T) hag;have hC:=k.ok g.S I caps A.toArray p r hs hp a.mem.Slt a.mem.gw (by simpa using U);refine tM (f:=k.f) (args:=A.toArray) rfl ?_ hC ?_ ?_ ?_
 .have:=k.call A.toArray I;simp[execOp,resolve,B4,B9,K,invoke,this]
 .rintro v V ⟨x,hh⟩
  rcases lG r r' hm hh with ⟨X,Y,o,n,m,v',y,Z,u⟩|⟨d',n,v',y,_⟩
  .simp only[Ending.returned.injEq]at y;subst y;obtain⟨H,N⟩:=a.mem.grow x;have O:=(a.keepTm (s':=_) N H rfl rfl rfl).put (t:=7) (v:=v) (show 7<9 by decide) (aAB Z (λb D=>D));have he2:eG (aK [] aC) aJf (λ_=>F1) (aJf.drop 2) (aVS k.f caps X Y o n m) (λs'=>s'=aG7 k.f caps X Y o n m):=by rw[<-bAe k.f caps X Y o n m]
   refine cH (E:=aK [] aC) (Kp:=λ_=>F1) (λ_ _ _ _ j=>j.elim) _ (aVS k.f caps X Y o n m) (λs'=>s'=aG7 k.f caps X Y o n m) g _ V he2 O λs' c3 a5 w3 j l _=>?_;subst j;refine wp_ret ?_;show Leaves _ _ _ _ a5.defers _ _;rw[l.defers];refine leaves_cons (f:=203) (args:=#[.pointer (FP ⟨g.β 0,0,FQ⟩),.pointer (FP ⟨g.β 1,0,FQ⟩),.pointer (FP ⟨g.β 2,0,FQ⟩)]) (by simp) (by simp[go_sem]) ?_;refine(aLY _ _ _ _).mono ?_
   rintro e u' w'' ⟨rfl,rfl,rfl⟩
   obtain⟨W,F,s⟩:=l.results (P:=AA) (bAf k.f caps X Y o n m);exact⟨W,F,l.mem.ext.free (λ_ h=>h),u _ _ _ s⟩
  .simp at y
 .rintro chain V ⟨x,hh⟩
  rcases lG r r' hm hh with ⟨X,Y,o,n,m,v',y,_⟩|⟨d',n,v,y,Z,u⟩
  .simp at y
  .simp only[Ending.panicked.injEq]at y;subst y;obtain⟨H,N⟩:=a.mem.grow x;show Leaves _ _ _ _ J.defers _ _;rw[a.defers];refine leaves_cons (f:=203) (args:=#[.pointer (FP ⟨g.β 0,0,FQ⟩),.pointer (FP ⟨g.β 1,0,FQ⟩),.pointer (FP ⟨g.β 2,0,FQ⟩)]) (by simp) (by simp[go_sem]) ?_;refine(aQe H (λi hi=>?_) (d:=d') (n:=n) (v:=v) ?_).mono ?_
   .grind
   .exact aAB (show Rep (C1 g.S) V (.iface 215 (.big d' n)) v from Z) (λb D=>D)
   rintro e u' w'' ⟨rfl,rfl,c',M⟩
   have G:∀t i,i<3->Rep g I (.bp i 0) (J.tmps.getD t undef)->Rep c' w'' (.bp i 0) (J.tmps.getD t undef):=by
    intro t i hi h;obtain⟨_,h2⟩:=kL h;obtain⟨q1,q2,_⟩:=M.pin i _ _ ⟨hi,rfl,rfl⟩;rw[h2,<-q2];exact aU rfl (by simp) rfl ⟨q1,rfl⟩
   have B:St S ⟨w,λ_=>F1,λi b z=>i<3/\b=g.β i/\z=g.sz i, []⟩ ⟨9, [(2,.bp 0 0),(3,.bp 1 0),(4,.bp 2 0)],yU d' n,3⟩ c' { J with defers:=[] } w'':=by
    refine⟨M,λt=>?_,a.size,rfl,λi b z h=>(show qQ 3 i=FU from oE (by decide) h.1)⟩
    match t with
    |0=>exact⟨⟩
    |1=>exact⟨⟩
    |2=>exact G 2 0 (by decide) (a.tm 2)
    |3=>exact G 3 1 (by decide) (a.tm 3)
    |4=>exact G 4 2 (by decide) (a.tm 4)
    |t+5=>exact⟨⟩
   obtain⟨W,F,s⟩:=B.results (P:=AA) (aVT d' n);exact⟨W,F,B.mem.ext.free (λ_ h=>h),u _ _ _ s⟩
 .grind [lG]
inductive TR where
 |pt (X Y:Int) (o:Bool)
 |dv (d:Int)
def aP(A M d c:Z)(f:N)(b a:Z)(e:N):TR :=
 g f (.pt b a e) (g e (.pt d c Aa) (g (oD M d c b a) (.pt 0 0 FU)
  (g (V (gcd (qG d c b a) M=1)) (.pt (nO A M d c b a) (vK A M d c b a) Aa) (.dv (gcd (qG d c b a) M)))))
def TR.X:TR->Z
 |.pt x _ _=>x
 |.dv _=>0
def TR.Y:TR->Z
 |.pt _ y _=>y
 |.dv _=>0
def TR.o:TR->N
 |.pt _ _ o=>o
 |.dv _=>Aa
def TR.d:TR->Z
 |.pt _ _ _=>0
 |.dv d=>d
def TR.ok:TR->N
 |.pt _ _ _=>FU
 |.dv _=>Aa
def gA(A M:Z):TR->TR->TR
 |.pt a b c,.pt x y z=>aP A M a b c x y z
 |.dv d,_=>.dv d
 |.pt _ _ _,.dv d=>.dv d
def cM(A M:Z)(p:TR)(n:O):TR :=
 if n=0 then .pt 0 0 FU else
  let a:=cM A M p (n/2)
  g (V (n%2=1)) (gA A M (gA A M a a) p) (gA A M a a)
termination_by n
decreasing_by omega
def trM(T:FX)(k:O)(r:TR):MRes:= .br r.ok (.ret (qD r.X r.Y r.o k k)) (.pan (.iface T (.big r.d k)))
theorem bBY(c:Ctx):Cuts 0 c c:=⟨λ_ h=>h,λ_ h=>h,λi hi=>by omega⟩
theorem aAd{c:Ctx}{w:L}{e:Ending}{X Y:Z}{o:N}{n m n' m':O}(h:(MRes.ret (qD X Y o n m)).holds c w e)(a:n<=n')(b:m<=m'):(MRes.ret (qD X Y o n' m')).holds c w e:=by
 cases e<;>first|exact h.elim|skip
 exact yE (bBY c) (m:=qD X Y o n m) (m':=qD X Y o n' m') ⟨⟨rfl,.inl a⟩,⟨rfl,.inl b⟩,rfl,trivial⟩ h
theorem aTL{c:Ctx}{w:L}{e:Ending}{T:FX}{d:Z}{n n':O}(h:(MRes.pan (.iface T (.big d n))).holds c w e)(hn:n<=n'):(MRes.pan (.iface T (.big d n'))).holds c w e:=by
 cases e<;>first|exact h.elim|skip
 obtain⟨v,b,a⟩:=h;refine⟨v,b,?_⟩;have:=yE (bBY c) (m:= .iface T (.big d n)) (m':= .iface T (.big d n')) (by
  show fN 0 (.iface T (.big d n)) (.iface T (.big d n'))
  simp_all [fN,MV.isAgg]) (show Rep c w (.iface T (.big d n)) v from a)
 exact this
def aID:aG
 |[.st [.big A i,.big _ _,.big M k],.st [.big e n,.big d m,.bool f],.st [.big b n',.big a m',.bool c]] =>
  FP (FP (i<=200/\k<=200/\n<=200/\m<=200/\n'<=200/\m'<=200/\0<M),trM 215 200 (aP A M e d f b a c))
 |_=>FQ
theorem bBu:∀l p r,aID l=FP (p,r)->p.holds->∃p' r',aSK.spec l=FP (p',r')/\p'.holds/\∀o w e,r'.holds o w e->r.holds o w e:=by
 intro l p r h C;unfold aID at h;split at h
 .rename_i A i B j M k g n f m s d n' c m' q;simp only[Z1,Z2]at h;obtain⟨rfl,rfl⟩:=h;obtain⟨E,b,z,y,x,v,D⟩:i<=200/\k<=200/\n<=200/\m<=200/\n'<=200/\m'<=200/\0<M:=C;refine⟨_,_,rfl,⟨E,b,z,y,x,v,D⟩,λo w e h=>?_⟩;unfold bCm at h;unfold trM;generalize a:aP A M g f s d c q=R;unfold aP at a;simp only[DY]at h⊢;cases s with
  |true=>rw[Z6]at a h;subst a;exact aAd h x v
  |false =>
   rw[Z5]at h a;cases q with
   |true=>rw[Z6]at a h;subst a;exact aAd h z y
   |false =>
    rw[Z5]at h a;cases t:oD M g f d c with
    |true=>rw[t,Z6]at a h;subst a;exact aAd h (Z9 _) (Z9 _)
    |false =>
     rw[t,Z5]at h a;cases u:V (gcd (qG g f d c) M=1)with
     |true=>rw[u,Z6]at a h;subst a;exact aAd h b b
     |false=>rw[u,Z5]at a h;subst a;exact aTL h b
 .simp at h
def aNT:Ctr AA:=aSK.weaken aID bBu
abbrev TmI:=Nat×Z×Z×N
def tmS(z A B M b a:Z)(c:N)(t i j k n m:O)(q:TmI):MS :=
 ⟨34, [(0,.ref (.big z t)),(1,.ref (cvM A B M i j k)),(2,.ref (qD b a c n m)),(3,.bp 0 0),(4,.bp 1 0),(5,.int .i64 ((q.1:Z)-1))],
  [⟨Aa,.one (qD 0 0 Aa 0 0)⟩,⟨Aa,.one (qD q.2.1 q.2.2.1 q.2.2.2 200 200)⟩],0⟩
def aJx(z A B M b a:Z)(c:N)(t i j k n m:O):O->MS->G LoopAnn
 |3,_=>FP (.inv TmI (λq=>q.1<=bl z.natAbs/\cM A M (.pt b a c) (z.natAbs/2^q.1)= .pt q.2.1 q.2.2.1 q.2.2.2) (tmS z A B M b a c t i j k n m) (λq=>q.1))
 |_,_=>FQ
def aAV:aG
 |[.ref (.big z t),.ref (.st [.big A i,.big _ _,.big M k]),.ref (.st [.big b n,.big a m,.bool c])] =>
  FP (FP (t<=100000/\i<=200/\k<=200/\n<=200/\m<=200/\0<M),trM 215 200 (cM A M (.pt b a c) z.natAbs))
 |_=>FQ
theorem aRP(z A B M b a:Z)(c:N)(t i j k n m:O)(g:_)(r:g=(cM A M (TR.pt b a c) (P z)))(e:_)(q:e=λ(i_1:TmI)=>(AE (AE i_1)))(h:_)(p:h=λ(i_1:TmI)=>(AD (AE i_1)))(f:_)(u:f=λ(i_1:TmI)=>(aP A M (h i_1) (AD (e i_1)) (AE (e i_1)) (h i_1) (AD (e i_1)) (AE (e i_1))))(l:_)(s:l=λ(i_1:TmI)=>(aP A M (TR.X (f i_1)) (TR.Y (f i_1)) (TR.o (f i_1)) b a c)):(t<=1000000/\(∃i_1,(AD i_1<=bl (P z)/\cM A M (TR.pt b a c) (P z/2^AD i_1)=TR.pt (h i_1) (AD (e i_1)) (AE (e i_1)))/\(aD z z t t/\(aD A A i i/\aD B B j j/\aD M M k k/\S)/\(aD b b n n/\aD a a m m/\c=c/\S)/\0=0/\0=0/\Q FT ((bl (P z):Z)-1)=(↑(AD i_1):Z)-1/\S)/\(aD 0 0 0 0/\aD 0 0 0 0/\Aa=Aa/\S)/\(aD 0 (h i_1) 0 200/\aD 0 (AD (e i_1)) 0 200/\FU=AE (e i_1)/\S)/\S)/\∀(i_1:TmI),AD i_1<=bl (P z)/\cM A M (TR.pt b a c) (P z/2^AD i_1)=TR.pt (h i_1) (AD (e i_1)) (AE (e i_1))->bif V ((↑(AD i_1):Z)-1≥0)then (i<=200/\k<=200/\200<=200/\200<=200/\200<=200/\200<=200/\0<M)/\bif TR.ok (f i_1)then ((32:Z)=0->U)/\(0<=Q FT (D ((↑(AD i_1):Z)-1) 32)/\Q FT (D ((↑(AD i_1):Z)-1) 32)<(H (aA (P z)):Z))/\((32:Z)=0->U)/\0<=T ((↑(AD i_1):Z)-1) 32/\bif Q FR (AI (R (AC FR) (fdiv (J (aA (P z)) (I (Q FT (D ((↑(AD i_1):Z)-1) 32))) 0) ((2:Z)^min (I (T ((↑(AD i_1):Z)-1) 32)) (AC FR))) &&&R (AC FR) 1):Z)==1 then (i<=200/\k<=200/\200<=200/\200<=200/\n<=200/\m<=200/\0<M)/\bif TR.ok (l i_1)then ∃j_1,(AD j_1<=bl (P z)/\cM A M (TR.pt b a c) (P z/2^AD j_1)=TR.pt (AD (AE j_1)) (AD (AE (AE j_1))) (AE (AE (AE j_1))))/\((aD z z t t/\(aD A A i i/\aD B B j j/\aD M M k k/\S)/\(aD b b n n/\aD a a m m/\c=c/\S)/\0=0/\0=0/\Q FT ((↑(AD i_1):Z)-1-1)=(↑(AD j_1):Z)-1/\S)/\(aD 0 0 0 0/\aD 0 0 0 0/\Aa=Aa/\S)/\(aD (TR.X (l i_1)) (AD (AE j_1)) 200 200/\aD (TR.Y (l i_1)) (AD (AE (AE j_1))) 200 200/\TR.o (l i_1) =AE (AE (AE j_1))/\S)/\S)/\AD j_1<AD i_1 else bif TR.ok g then U else TR.d (l i_1) =TR.d g/\(200<=200\/P (TR.d (l i_1))<2^200)else ∃j_1,(AD j_1<=bl (P z)/\cM A M (TR.pt b a c) (P z/2^AD j_1)=TR.pt (AD (AE j_1)) (AD (AE (AE j_1))) (AE (AE (AE j_1))))/\((aD z z t t/\(aD A A i i/\aD B B j j/\aD M M k k/\S)/\(aD b b n n/\aD a a m m/\c=c/\S)/\0=0/\0=0/\Q FT ((↑(AD i_1):Z)-1-1)=(↑(AD j_1):Z)-1/\S)/\(aD 0 0 0 0/\aD 0 0 0 0/\Aa=Aa/\S)/\(aD (TR.X (f i_1)) (AD (AE j_1)) 200 200/\aD (TR.Y (f i_1)) (AD (AE (AE j_1))) 200 200/\TR.o (f i_1) =AE (AE (AE j_1))/\S)/\S)/\AD j_1<AD i_1 else bif TR.ok g then U else TR.d (f i_1) =TR.d g/\(200<=200\/P (TR.d (f i_1))<2^200)else bif TR.ok g then aD (h i_1) (TR.X g) 200 200/\aD (AD (e i_1)) (TR.Y g) 200 200/\AE (e i_1) =TR.o g/\S else U)=aJ (aK [aNT,t8] (aJx z A B M b a c t i j k n m)) D4 [.ref (.big z t),.ref (cvM A B M i j k),.ref (qD b a c n m)] (AF (trM 215 200 (cM A M (.pt b a c) z.natAbs))):=by subst r q p u s;kernel_rfl
theorem rL(A M:Z)(p:TR):cM A M p 0= .pt 0 0 FU:=by rw[cM];simp
theorem uV{A M:Z}{p:TR}{n:O}(h:n≠0):cM A M p n=g (V (n%2=1)) (gA A M (gA A M (cM A M p (n/2)) (cM A M p (n/2))) p) (gA A M (cM A M p (n/2)) (cM A M p (n/2))):=by
 rw[cM];simp[h]
theorem aYF{A M:Z}{p:TR}{n:O}{d:Z}(h:cM A M p (n/2)= .dv d):cM A M p n= .dv d:=by
 have a:n≠0:=by intro e;subst e;rw[rL]at h;simp at h
 rw[uV a,h];cases V (n%2=1)<;>rfl
theorem uU{A M:Z}{p:TR}{n:O}{d:Z}:∀(k:O),cM A M p (n/2^k)= .dv d->cM A M p n= .dv d
 |0,h=>by simpa using h
 |k+1,h=>uU k (aYF (by rw[AR,<-AZ];exact h))
theorem aUE:eD D4 aAV:=by
 intro ms p r h O P;unfold aAV at h;split at h
 .rename_i z t A i B j M k g n f m l;cases h;obtain⟨h0,K,J,S,R,I⟩:=O;refine⟨aK [aNT,t8] (aJx z A B M g f l t i j k n m),?_⟩;rw[<-aRP z A B M g f l t i j k n m _ rfl _ rfl _ rfl _ rfl _ rfl];have F:z.natAbs<2^t:=P.1;have C:bl z.natAbs<=t:=dN F;have x:=kY z.natAbs;have y:=mZ z.natAbs;generalize hN:z.natAbs=N at F C x y⊢;refine⟨by omega,⟨(bl N,0,0,FU),?_⟩,?_⟩
  .grind [cM,bl,BA,rL,aT]
  .rintro⟨b,X,Y,o⟩ ⟨s,a⟩
   have s:b<=bl N:=s;have a:cM A M (.pt g f l) (N/2^b)= .pt X Y o:=a;dsimp only;rw[AS];split
   .rename_i Q;obtain⟨c,rfl⟩:∃c,b=c+1:=⟨b-1,by omega⟩;have e1:((c+1:F0):F2)-1=(c:F0):=by omega
    have Z:F3 (c:F2) 32=((c/32:F0):F2):=rfl;have W:tmod (c:F2) 32=((c%32:F0):F2):=rfl;have V:FV FT ((c/32:F0):F2)=((c/32:F0):F2):=aT (by omega) (by omega);have U:FV FT ((c:F0)-1:F2)=(c:F0)-1:=aT (by omega) (by omega);have e6:(2:F0)^c<=N:=by
     have u:N≠0:=by intro e;subst e;rw[rY]at s;omega
     exact CG (AN (by omega) (by omega)) (xH u)
    have u:N/2^c≠0:=by
     simp_all
    have T:N/2^c/2=N/2^(c+1):=by rw[AR,<-AZ]
    have q:cM A M (.pt g f l) (N/2^c)=cond (FW (N/2^c%2=1)) (gA A M (aP A M X Y o X Y o) (.pt g f l)) (aP A M X Y o X Y o):=by
     rw[uV u,T,a];rfl
    have hidx:c/32<(aA N).length:=by
     rcases CF (c/32) (aA N).length with h|h
     .exact h
     .exfalso;have h8:4294967296^(aA N).length<=2^c:=by
       rw[jK];exact AN (by omega) (by omega)
      omega
    have v:=t5 N c;simp only[e1,Z,W,V,U,Z8,v];refine⟨⟨K,J,by omega,by omega,by omega,by omega,I⟩,?_⟩;cases H:aP A M X Y o X Y o with
    |dv d =>
     simp only[TR.ok,TR.d,Z5];have hmN:cM A M (.pt g f l) N= .dv d:=uU c (by rw[q,H];cases FW (N/2^c%2=1)<;>rfl)
     simp_all
    |pt X2 Y2 w =>
     simp only[TR.ok,TR.X,TR.Y,TR.o,Z6];refine⟨by omega,by omega,by omega,by omega,?_⟩;rw[H]at q;cases G:FW (N/2^c%2=1)with
     |false =>
      rw[G,Z5]at q;rw[Z5];refine⟨(c,X2,Y2,w),⟨by dsimp only;omega,q⟩,?_,by dsimp only;omega⟩
      grind
     |true =>
      rw[G,Z6]at q;rw[Z6];refine⟨⟨K,J,by omega,by omega,S,R,I⟩,?_⟩;have q:cM A M (.pt g f l) (N/2^c)=aP A M X2 Y2 w g f l:=q;cases E:aP A M X2 Y2 w g f l with
      |dv d =>
       grind [TR.d,cM,uU]
      |pt X3 Y3 L =>
       rw[Z6];refine⟨(c,X3,Y3,L),⟨by dsimp only;omega,q.trans E⟩,?_,by dsimp only;omega⟩
       grind
   .rename_i Q;have D:b=0:=by omega
    subst D;have a:cM A M (.pt g f l) N= .pt X Y o:=by simpa using a
    rw[a];exact⟨⟨rfl,.inl (Z0 _)⟩,⟨rfl,.inl (Z0 _)⟩,rfl,⟨⟩⟩
 .simp at h
def aSY:Ctr AA:=⟨195,aAV,λargs w=>Tryz.call195 args w,aO bT Tryz.func195 aAV aUE⟩
def bHI:K (Ctr AA):=[aSY]
def bCe:aG
 |[.fn f caps]=>(match v5 f bHI with
  |some k=>(match k.spec caps with
   |some (p,r)=>(match uT r with
    |some r'=>g (nG FU caps) (FP (p,r')) FQ
    |none=>FQ)
   |none=>FQ)
  |none=>FQ)
 |_=>FQ
def bBX:Ctr AA:=⟨194,bCe,λargs w=>Tryz.call194 args w,λS w ms args p r a h l m j=>by
 unfold bCe at a;split at a
 .rename_i f caps;split at a
  .rename_i k i;have c:=aBt i;subst c;split at a
   .rename_i g e o;split at a
    .rename_i d n;cases b:nG FU caps with
     |false=>rw[b]at a;simp at a
     |true =>
      rw[b,Z6]at a;simp only[Z1,Z2]at a;obtain⟨rfl,rfl⟩:=a;exact bE9 k caps g e d o h n b S w args l m j
    .simp at a
   .simp at a
  .simp at a
 .simp at a⟩
structure RS where
 X:Int
 Y:Int
 o:Bool
 d:Int
 e:Int
def TR.rs(r:TR):RS:=⟨r.X,r.Y,r.o,r.d,g r.ok 0 6⟩
def RS.arg:RS:=⟨0,0,Aa,0,1⟩
def aFJ(M Y:Z)(o:N):Z:=cond o Y (-Y%M)
def bI(A B M z c a:Z)(b:N):RS:=cond (nT A B M c a b) (cM A M (.pt c (g (V (z<0)) (aFJ M a b) a) b) z.natAbs).rs .arg
def bEY(r:RS):MV:= .tup [qD r.X r.Y r.o 200 200,.big r.d 200,.int .i64 r.e]
theorem aO2{A B M X Y:Z}{o:N}(h:nT A B M X Y o=FU):3<M:=by
 unfold nT cT at h;simp only[Z3,BL,decide_eq_false_iff_not]at h;omega
def aAE:aG
 |[.st [.big A i,.big B j,.big M k],.big z t,.st [.big b n,.big a m,.bool c]] =>
  FP (FP (t<=100000/\i<=200/\j<=200/\k<=200/\n<=200/\m<=200),.ret (bEY (bI A B M z b a c)))
 |_=>FQ
theorem aV2(A B M z c b:Z)(l:N)(t i j k n m:O)(a:_)(s:a=(bI A B M z c b l))(h:_)(r:h=(cM A M (TR.pt c (-b%M) Aa) (P z)))(g:_)(q:g=(cM A M (TR.pt c b FU) (P z)))(f:_)(p:f=(cM A M (TR.pt c b l) (P z))):((i<=1000/\j<=1000/\k<=1000/\n<=1000/\m<=1000)/\bif !nT A B M c b l then (aD 0 (RS.X a) 0 200/\aD 0 (RS.Y a) 0 200/\Aa=RS.o a/\S)/\aD 0 (RS.d a) 0 200/\1=RS.e a/\S else bif V (z<0)then (k<=1000/\m<=2000/\0<M)/\bif l then (t<=100000/\i<=200/\k<=200/\n<=200/\m<=200/\0<M)/\bif TR.ok g then (aD (TR.X g) (RS.X a) 200 200/\aD (TR.Y g) (RS.Y a) 200 200/\TR.o g =RS.o a/\S)/\aD 0 (RS.d a) 0 200/\0=RS.e a/\S else (aD 0 (RS.X a) 0 200/\aD 0 (RS.Y a) 0 200/\Aa=RS.o a/\S)/\aD (TR.d g) (RS.d a) 200 200/\6=RS.e a/\S else (t<=100000/\i<=200/\k<=200/\n<=200/\k<=200/\0<M)/\bif TR.ok h then (aD (TR.X h) (RS.X a) 200 200/\aD (TR.Y h) (RS.Y a) 200 200/\TR.o h =RS.o a/\S)/\aD 0 (RS.d a) 0 200/\0=RS.e a/\S else (aD 0 (RS.X a) 0 200/\aD 0 (RS.Y a) 0 200/\Aa=RS.o a/\S)/\aD (TR.d h) (RS.d a) 200 200/\6=RS.e a/\S else (t<=100000/\i<=200/\k<=200/\n<=200/\m<=200/\0<M)/\bif TR.ok f then (aD (TR.X f) (RS.X a) 200 200/\aD (TR.Y f) (RS.Y a) 200 200/\TR.o f =RS.o a/\S)/\aD 0 (RS.d a) 0 200/\0=RS.e a/\S else (aD 0 (RS.X a) 0 200/\aD 0 (RS.Y a) 0 200/\Aa=RS.o a/\S)/\aD (TR.d f) (RS.d a) 200 200/\6=RS.e a/\S)=aJ (aK [aNY,aSP,bBX] aC) EF [cvM A B M i j k,.big z t,qD c b l n m] (AF (.ret (bEY (bI A B M z c b l)))):=by subst s r q p;kernel_rfl
theorem aZ2{r:TR}{R:RS}(h:R=r.rs){P Q:Prop}(b:r.ok=FU->(r.X=R.X/\r.Y=R.Y/\r.o=R.o/\(0:Z)=R.d/\(0:Z)=R.e)->P)(a:r.ok=Aa->((0:Z)=R.X/\(0:Z)=R.Y/\Aa=R.o/\r.d=R.d/\(6:Z)=R.e)->Q):bif r.ok then P else Q:=by
 subst h;cases r with
 |pt X Y o=>exact b rfl ⟨rfl,rfl,rfl,rfl,rfl⟩
 |dv d=>exact a rfl ⟨rfl,rfl,rfl,rfl,rfl⟩
theorem aYP:bE EF aAE:=by
 intro ms p r h v;unfold aAE at h;split at h
 .rename_i A i B j M k z t b n q m e;cases h;obtain⟨h1,h2,h3,h4,h5,h6⟩:=v;refine⟨aK [aNY,aSP,bBX] aC,?_⟩;rw[<-aV2 A B M z b q e t i j k n m _ rfl _ rfl _ rfl _ rfl];refine⟨by omega,?_⟩;generalize a:bI A B M z b q e=R;unfold bI at a;cases s:nT A B M b q e with
  |false =>
   rw[s,Z5]at a;subst a;exact⟨⟨⟨rfl,.inl (by omega)⟩,⟨rfl,.inl (by omega)⟩,rfl,⟨⟩⟩,⟨rfl,.inl (by omega)⟩,rfl,⟨⟩⟩
  |true =>
   rw[s,Z6]at a;have hM:=aO2 s;have fin:∀ {y:Z} {c:N},R=(cM A M (.pt b y c) z.natAbs).rs->_:=λ{y c} h=>aZ2 h
    (λ_ ⟨q1,o,l,g,f⟩=>(⟨⟨⟨q1,.inl (Z0 200)⟩,⟨o,.inl (Z0 200)⟩,l,⟨⟩⟩,⟨g,.inl (Z9 200)⟩,f,⟨⟩⟩:((_/\(_\/P (cM A M (.pt b y c) z.natAbs).X<2^200))/\(_/\(_\/P (cM A M (.pt b y c) z.natAbs).Y<2^200))/\_/\S)/\(_/\(_\/P (0:Z)<2^200))/\_/\S))
    (λ_ ⟨q1,o,l,g,f⟩=>(⟨⟨⟨q1,.inl (Z9 200)⟩,⟨o,.inl (Z9 200)⟩,l,⟨⟩⟩,⟨g,.inl (Z0 200)⟩,f,⟨⟩⟩:((_/\(_\/P (0:Z)<2^200))/\(_/\(_\/P (0:Z)<2^200))/\_/\S)/\(_/\(_\/P (cM A M (.pt b y c) z.natAbs).d<2^200))/\_/\S))
   cases u:V (z<0)with
   |false =>
    rw[u,Z5]at a;exact⟨by omega,fin a.symm⟩
   |true =>
    rw[u,Z6]at a;refine⟨by omega,?_⟩;cases e with
    |true=>exact⟨by omega,fin a.symm⟩
    |false=>exact⟨by omega,fin a.symm⟩
 .simp at h
def aXt:Ctr AA:=⟨174,aAE,λargs w=>Tryz.call174 args w,aM bT Tryz.func174 aAE aYP⟩
def k8(m a x y:Z):Z:=(y*y-x*x*x-a*x)%m
def aC5:aG
 |[.int .i64 m,.int .i64 a,.int .i64 x,.int .i64 y]=>FP (FP (1<=m/\m<=100000/\0<=a/\a<=100000/\0<=x/\x<=100000/\0<=y/\y<=100000),.ret (cvM a (k8 m a x y) m 64 64 64))
 |_=>FQ
theorem aV0(m a x y:Z)(b:_)(c:b=(T (Q FT (T (Q FT (Q FT (Q FT (y*y)-Q FT (T (Q FT (x*x)) m*x))-Q FT (a*x))) m+m)) m)):((m=0->U)/\(m=0->U)/\(m=0->U)/\fY a/\fY b/\fY m/\aD a a 64 64/\aD b (k8 m a x y) 64 64/\aD m m 64 64/\S)=aJ (aK [cO] aC) FH [.int .i64 m,.int .i64 a,.int .i64 x,.int .i64 y] (AF (.ret (cvM a (k8 m a x y) m 64 64 64))):=by subst c;kernel_rfl
def aBM(A B M x:Z):Z:=(x*(x*x)+A*x+B)%M
def aC6:aG
 |[.st [.big A i,.big B j,.big M k],.big x n]=>FP (FP (i<=200/\j<=200/\k<=200/\n<=200/\0<M),.ret (.big (aBM A B M x) k))
 |_=>FQ
theorem aV1(A B M x:Z)(i j k n:O):((n<=1000000/\n<=1000000)/\(n<=1000000/\n+n<=1000000)/\(i<=1000000/\n<=1000000)/\(n+(n+n)<=1000000/\i+n<=1000000)/\(max (n+(n+n)) (i+n)+1<=1000000/\j<=1000000)/\(max (max (n+(n+n)) (i+n)+1) j+1<=900000/\k<=900000/\(M=0->U))/\(x*(x*x)+A*x+B)%M=aBM A B M x/\(k<=k\/P ((x*(x*x)+A*x+B)%M)<2^k))=aJ (aK [eV,gL,eB] aC) ER [cvM A B M i j k,.big x n] (AF (.ret (.big (aBM A B M x) k))):=by kernel_rfl
def qB(A B M:Z):N:=decide (gcd (4*(A*(A*A))+27*(B*B)) M=1)
def aIe:aG
 |[.st [.big A i,.big B j,.big M k]]=>FP (FP (i<=200/\j<=200/\k<=200),.ret (.bool (qB A B M)))
 |_=>FQ
theorem bAj(A B M:Z)(i j k:O):(fY 4/\(i<=1000000/\i<=1000000)/\(i<=1000000/\i+i<=1000000)/\(64<=1000000/\i+(i+i)<=1000000)/\fY 27/\(j<=1000000/\j<=1000000)/\(64<=1000000/\j+j<=1000000)/\(64+(i+(i+i))<=1000000/\64+(j+j)<=1000000)/\(max (64+(i+(i+i))) (64+(j+j))+1<=900000/\k<=900000)/\fY 1/\(max (max (64+(i+(i+i))) (64+(j+j))+1) k<=1000000/\64<=1000000)/\V ((gcd (4*(A*(A*A))+27*(B*B)) M:Z)=1)=qB A B M)=aJ (aK [cO,eV,gL,aBf,fJ] aC) FG [cvM A B M i j k] (AF (.ret (.bool (qB A B M)))):=by kernel_rfl
abbrev aVM(r:RS):MV:= .st [qD r.X r.Y r.o 200 200,.big r.d 200,.int .i64 r.e]
def vF:aG
 |[.st [.big A i,.big B j,.big M k],.big z t,.st [.big b n,.big a m,.bool c]] =>
  FP (FP (t<=100000/\i<=200/\j<=200/\k<=200/\n<=200/\m<=200),.ret (aVM (bI A B M z b a c)))
 |_=>FQ
theorem aVR(u m:Z)(a:0<m):T (T u m+m) m=u%m:=by
 have h1:=BJ u a;have h2: -m<T u m:=by
  have:=BJ (-u) a;rw[DO]at this;omega
 rw[BK (by omega),Int.tmod_def];rw[show u-m*u.tdiv m+m=u+m*(1-u.tdiv m) by rw[Int.mul_sub];omega,A2]
theorem aQm(m a x y:Z):(y*y-x*x%m*x-a*x)%m=k8 m a x y:=by
 unfold k8;rw[BF,BF (y*y),BG (x*x%m),Int.emod_emod,<-BG,<-BF (y*y),<-BF]
theorem aYN:bE FH aC5:=by
 intro ms p r h j;unfold aC5 at h;split at h
 .rename_i m a x y;cases h;obtain⟨h1,h2,l,k,c,b,g,f⟩:=j;refine⟨aK [cO] aC,?_⟩;rw[<-aV0 m a x y _ rfl];have mul2:∀ {u v:Z},0<=u->u<=100000->0<=v->v<=100000->0<=u*v/\u*v<=10000000000:=λi e hv d=>⟨Int.mul_nonneg i hv,DS (BW e d hv (by omega)) (by decide)⟩;have C:=mul2 c b c b;have a2:=mul2 g f g f;have a3:=mul2 l k c b;have A:T (x*x) m=x*x%m:=BK C.1;have B:0<=x*x%m:=AT _ (by omega);have a5:x*x%m<m:=AM _ (by omega);have a6:=mul2 B (by omega) c b;have z:Q FT (x*x)=x*x:=aT (by omega) (by omega);have w:Q FT (y*y)=y*y:=aT (by omega) (by omega);have t:Q FT (a*x)=a*x:=aT (by omega) (by omega);have s:Q FT (x*x%m*x)=x*x%m*x:=aT (by omega) (by omega);have q:Q FT (y*y-x*x%m*x)=y*y-x*x%m*x:=aT (by omega) (by omega);have o:Q FT (y*y-x*x%m*x-a*x)=y*y-x*x%m*x-a*x:=aT (by omega) (by omega);have b1:=BJ (y*y-x*x%m*x-a*x) (show 0<m by omega);have b2: -m<T (y*y-x*x%m*x-a*x) m:=by
   have:=BJ (-(y*y-x*x%m*x-a*x)) (show 0<m by omega);rw[DO]at this;omega
  have n:Q FT (T (y*y-x*x%m*x-a*x) m+m)=T (y*y-x*x%m*x-a*x) m+m:=aT (by omega) (by omega);simp only[z,A,w,t,s,q,o,n,aVR _ m (show 0<m by omega),aQm];have c1:0<=k8 m a x y:=AT _ (by omega);have c2:k8 m a x y<m:=AM _ (by omega);exact⟨by omega,by omega,by omega,by omega,by omega,by omega,⟨by first|exact⟨⟩|rfl,.inl (Z0 _)⟩,⟨by first|exact⟨⟩|rfl,.inl (Z0 _)⟩,⟨by first|exact⟨⟩|rfl,.inl (Z0 _)⟩,by first|exact⟨⟩|rfl⟩
 .simp at h
def aNI:Ctr AA:=⟨51,aC5,λargs w=>Tryz.call51 args w,aM bT Tryz.func51 aC5 aYN⟩
theorem aYO:bE ER aC6:=by
 intro ms p r h a;unfold aC6 at h;split at h
 .rename_i A i B j M k x n;cases h;obtain⟨h1,h2,h3,h4,h5⟩:=a;refine⟨aK [eV,gL,eB] aC,?_⟩;rw[<-aV1 A B M x i j k n];exact⟨by omega,by omega,by omega,by omega,by omega,by omega,rfl,.inl (Z0 _)⟩
 .simp at h
def aNJ:Ctr AA:=⟨142,aC6,λargs w=>Tryz.call142 args w,aM bT Tryz.func142 aC6 aYO⟩
theorem bDB:bE FG aIe:=by
 intro ms p r h a;unfold aIe at h;split at h
 .rename_i A i B j M k;cases h;obtain⟨h1,h2,h3⟩:=a;refine⟨aK [cO,eV,gL,aBf,fJ] aC,?_⟩;rw[<-bAj A B M i j k];refine⟨by omega,by omega,by omega,by omega,by omega,by omega,by omega,by omega,by omega,by omega,by omega,?_⟩;unfold qB;exact decide_eq_decide.2 (by omega)
 .simp at h
def aHm:Ctr AA:=⟨52,aIe,λargs w=>Tryz.call52 args w,aM bT Tryz.func52 aIe bDB⟩
structure Pri (p:Nat):Prop where
 lt:1<p
 dv:∀d,d ∣ p->d=1\/d=p
theorem Pri.cop{p a:O}(h:Pri p)(ha:¬p ∣ a):FN p a=1:=by
 rcases h.dv _ (C4 p a)with e|e
 all_goals grind [C0]
theorem Pri.mul{p a b:O}(h:Pri p)(c:p ∣ a*b):p ∣ a\/p ∣ b:=by
 by_cases q:p ∣ a
 .exact .inl q
 .exact .inr (A3 (h.cop q) c)
theorem aOY{n:O}(b:1<n)(h:¬Pri n):∃d,1<d/\d ∣ n/\d*d<=n:=by
 have:¬ ∀d,d ∣ n->d=1\/d=n:=λw=>h ⟨b,w⟩;obtain⟨d,w⟩:=Classical.not_forall.1 this;obtain⟨⟨e,a⟩,hne⟩:=Classical.not_imp.1 w;have d0:d≠0:=λq=>by rw[q,Nat.zero_mul]at a;omega
 have e0:e≠0:=λq=>by rw[q,Nat.mul_zero]at a;omega
 have e1:e≠1:=λq=>by rw[q,CO]at a;omega
 rcases Nat.le_total d e with q|q
 .exact⟨d,by omega,⟨e,a⟩,by rw[a];exact AV _ q⟩
 .exact⟨e,by omega,⟨d,by rw[BE];exact a⟩,by rw[a];exact CP _ q⟩
theorem sJ:∀(f n:O),n<=f->1<n->∃p,Pri p/\p ∣ n
 |0,n,h,a=>by omega
 |f+1,n,h,a=>by
  by_cases q:Pri n
  .exact⟨n,q,Nat.dvd_refl n⟩
  .obtain⟨d,d1,d2,d3⟩:=aOY a q;have hlt:d<n:=by
    have:d*2<=d*d:=AV _ d1;omega
   obtain⟨p,b,c⟩:=sJ f d (by omega) d1;exact⟨p,b,B3 c d2⟩
theorem wF{n:O}(e:1<n)(h:¬Pri n):∃p,Pri p/\p ∣ n/\p*p<=n:=by
 obtain⟨d,d1,d2,d3⟩:=aOY e h;obtain⟨p,c,b⟩:=sJ d d (Z0 d) d1;have a:=DI (by omega) b;exact⟨p,c,B3 b d2,CG (Nat.mul_le_mul a a) d3⟩
theorem aO7{p a M:O}(h:a^M%p=1%p)(k r:O):a^(M*k+r)%p=a^r%p:=by
 rw[DW,BU,DX,A4 (a^M),h,<-A4,CM,<-DX,CN]
theorem aZN{p a:O}(M K:O):a^M%p=1%p->a^K%p=1%p->a^FN M K%p=1%p:=by
 induction M,K using Nat.gcd.induction with
 |H0 n=>intro _ h;rw[Nat.gcd_zero_left];exact h
 |H1 m n _ ih =>
  grind [Nat.gcd_rec,aO7,Nat.div_add_mod]
theorem part{q c:O}(b:Pri q):∀(e g:O),g ∣ q^(e+1)*c->¬q^(e+1) ∣ g->g ∣ q^e*c:=by
 intro e
 induction e with
 |zero =>
  intro g h d;by_cases a:q ∣ g
  .simp_all
  .rw[DK,DV]at h;rw[AX,CN];exact A3 (by rw[CQ,DL];exact b.cop a) h
 |succ e ih =>
  intro g h d;by_cases a:q ∣ g
  .obtain⟨g',rfl⟩:=a;have i:q^(e+1+1)*c=q*(q^(e+1)*c):=by rw[B1 (m:=q) (n:=e+1),B2]
   rw[i]at h;have q0:0<q:=by have:=b.lt;omega
   grind [Nat.dvd_of_mul_dvd_mul_left,B1,Nat.mul_dvd_mul_left,B2]
  .have f:CQ g (q^(e+1+1)):=Nat.Coprime.pow_right _ (by rw[CQ,DL];exact b.cop a);exact B3 (A3 f h) (Nat.dvd_mul_left ..)
theorem aUj{p a q e c K:O}(b:Pri q)(g:a^(q^(e+1)*c)%p=1%p)(h:a^K%p=1%p)(hn:a^(q^e*c)%p≠1%p):q^(e+1) ∣ K:=by
 refine FM λd=>?_;have f:=aZN _ _ g h;obtain⟨t,ht⟩:=part b e _ (C4 (q^(e+1)*c) K) (λw=>d (B3 w (C0 ..)));have:=aO7 f t 0
 simp_all
theorem aKm:∀(k x n:O),x<n->sL k x n=FU->∃j,j<k/\x^2^j%n=n-1
 |0,x,n,_,h=>by simp[sL]at h
 |k+1,x,n,a,h=>by
  rw[sL]at h;rcases C5 _ _ ▸ h with h|h
  .exact⟨0,by omega,by rw[AX,DV,A9 a];exact A7 h⟩
  .obtain⟨j,hj,he⟩:=aKm k (x*x%n) n (BS _ (by omega)) h;refine⟨j+1,by omega,?_⟩
   grind [A4,B1,BU,DU]
theorem aFO{n b:O}(h1:2<n)(h2:n<2^128)(a:cF n b=FU)(hb:b%n≠0):b^(n-1)%n=1:=by
 have T:=aPT (n:=n-1) (by omega) (by omega);unfold cF at a;have c:FO (b%n) 0=Aa:=by
  grind [FO,A7]
 rw[c,Z5,aH3 128 1 (b%n) _ n (by omega) (BI (Nat.div_le_self ..) (by omega)),CN,<-A4]at a;generalize hS:tz (n-1)=s at *;obtain⟨d,f⟩:=Nat.dvd_of_mod_eq_zero T.m;have l:(n-1)/2^s=d:=by rw[f];exact Nat.mul_div_cancel_left d (Nat.two_pow_pos s)
 rw[l]at a;have g:b^(n-1)=(b^d)^2^s:=by rw[f,BE,BU]
 rcases C5 _ _ ▸ a with q|q
 .have q:=A7 q;rw[g,A4,q,CM];exact A9 (by omega)
 .obtain⟨j,hj,e⟩:=aKm s (b^d%n) n (BS _ (by omega)) q;rw[<-A4]at e;have i:2^s=2^j*(2*2^(s-1-j)):=by
   rw[<-B1,<-DW]
   congr 1
   omega
  have h:(n-1)*(n-1)%n=1:=by
   have:(n-1)*(n-1)=n*(n-2)+1:=by
    obtain⟨k,rfl⟩:∃k,n=k+2:=⟨n-2,by omega⟩
    grind
   rw[this,Nat.mul_add_mod];exact A9 (by omega)
  rw[g,i,BU,A4,e,BU,DU,A4,h,CM];exact A9 (by omega)
theorem aJz{n b:O}:∀l:K O,tW n l=FU->b∈l->cF n b=FU
 |[],_,h=>by simp at h
 |p::r,h,hb=>by
  rw[tW,Z3]at h;rcases DC.1 hb with rfl|hb
  .exact h.1
  .exact aJz r h.2 hb
structure PnOk (n:Nat):Prop where
 lt:1<n
 nd:∀b∈bH,¬b ∣ n
 st:∀b∈bH,cF n b=true
theorem aOD{n:O}:∀l:K O,sO n l=FU->n∈l\/((∀b∈l,¬b ∣ n)/\1<n/\tW n bH=FU)
 |[],h=>by
  grind [sO,CT]
 |p::r,h=>by
  by_cases q:n%p=0
  .grind [aH7,A7,List.mem_cons_self]
  .rw[aK6 q]at h;rcases aOD r h with w|⟨w1,w2⟩
   all_goals grind [List.mem_cons_of_mem,Nat.mod_eq_zero_of_dvd]
theorem aYq{n:O}(h:iI n=FU):n∈bH\/PnOk n:=by
 rcases aOD bH h with w|⟨d,c,a⟩
 .exact .inl w
 .exact .inr ⟨c,d,λb e=>aJz _ a e⟩
theorem bDc{a b:Z}:aX a b=0↔a=b:=by
 unfold aX;split<;>(try split)<;>omega
theorem aNF{a:Z}{p:Prop}[Decidable p](h:a=0↔p):(a==0)=decide p:=by
 rw[BB,beq_iff_eq,Z4];exact h
theorem bHG{a:Z}:dL a=0↔a=0:=by
 unfold dL;split<;>(try split)<;>omega
theorem aWs :(fY 1/\(1:Z)=1/\(64<=64\/P 1<2^64))=aJ (aK [gZ] aC) FC [] (AF (.ret (.big 1 64))):=by kernel_rfl
def aDr:aG
 |[]=>FP (FQ,.ret (.big 1 64))
 |_=>FQ
theorem aZb:bE FC aDr:=by
 intro ms p r h hp;unfold aDr at h;split at h
 .simp only[Z1,Z2]at h;obtain⟨rfl,rfl⟩:=h;refine⟨aK [gZ] aC,?_⟩;rw[<-aWs];exact⟨⟨by decide,by decide⟩,rfl,.inl (Z0 _)⟩
 .simp at h
def jE:Ctr AA:=⟨74,aDr,λargs w=>Tryz.call74 args w,aM bT Tryz.func74 aDr aZb⟩
def aAK:aG
 |[.big a _]=>FP (FQ,.ret (.bool (V (a=0))))
 |_=>FQ
theorem aRC(a:Z)(n:O):((dL a==0)=V (a=0))=aJ (aK [dC] aC) EJ [.big a n] (AF (.ret (.bool (V (a=0))))):=by kernel_rfl
theorem aUs:bE EJ aAK:=by
 intro ms p r h hp;unfold aAK at h;split at h
 .rename_i a n;cases h;refine⟨aK [dC] aC,?_⟩;rw[<-aRC a n];exact aNF bHG
 .simp at h
def mT:Ctr AA:=⟨170,aAK,λargs w=>Tryz.call170 args w,aM bT Tryz.func170 aAK aUs⟩
def aAI:aG
 |[.big a n,.big b m]=>FP (FP (n<=1000000/\m<=1000000),.ret (.bool (V (a=b))))
 |_=>FQ
theorem aRA(a b:Z)(n m:O):((n<=1000000/\m<=1000000)/\(aX a b==0)=V (a=b))=aJ (aK [eF] aC) FJ [.big a n,.big b m] (AF (.ret (.bool (V (a=b))))):=by kernel_rfl
theorem aUq:bE FJ aAI:=by
 intro ms p r h c;unfold aAI at h;split at h
 .rename_i a n b m;cases h;obtain⟨e,d⟩:=c;refine⟨aK [eF] aC,?_⟩;rw[<-aRA a b n m];exact⟨⟨e,d⟩,aNF bDc⟩
 .simp at h
def mS:Ctr AA:=⟨38,aAI,λargs w=>Tryz.call38 args w,aM bT Tryz.func38 aAI aUq⟩
def aDm:aG
 |[.big a n,.big b m]=>FP (FP (n<=900000/\m<=900000),.ret (.bool (V (gcd a b=1))))
 |_=>FQ
theorem aWm(a b:Z)(n m:O):((n<=900000/\m<=900000)/\(max n m<=1000000/\64<=1000000)/\V ((gcd a b:Z)=1)=V (gcd a b=1))=aJ (aK [aHp,jE,mS] aC) EL [.big a n,.big b m] (AF (.ret (.bool (V (gcd a b=1))))):=by kernel_rfl
theorem aY5:bE EL aDm:=by
 intro ms p r h c;unfold aDm at h;split at h
 .rename_i a n b m;cases h;obtain⟨e,d⟩:=c;refine⟨aK [aHp,jE,mS] aC,?_⟩;rw[<-aWm a b n m];refine⟨⟨e,d⟩,by omega,?_⟩;rw[BB,Z4,Z4];omega
 .simp at h
def vO:Ctr AA:=⟨168,aDm,λargs w=>Tryz.call168 args w,aM bT Tryz.func168 aDm aY5⟩
def aDo:aG
 |[.big a n,.big b m]=>FP (FP (n<=900000/\m<=900000/\b≠0),.ret (.tup [.big (a/b) n,.big (a%b) m]))
 |_=>FQ
theorem aWo(a b:Z)(n m:O):((n<=900000/\m<=900000/\(b=0->U))/\aD (a/b) (a/b) n n/\aD (a%b) (a%b) m m/\S)=aJ (aK [iM] aC) FB [.big a n,.big b m] (AF (.ret (.tup [.big (a/b) n,.big (a%b) m]))):=by kernel_rfl
theorem aY7:bE FB aDo:=by
 intro ms p r h c;unfold aDo at h;split at h
 .rename_i a n b m;cases h;obtain⟨h1,h2,h3⟩:=c;refine⟨aK [iM] aC,?_⟩;rw[<-aWo a b n m];first|done|(and_intros<;>first|exact⟨⟩|rfl|exact .inl (Z0 _)|omega)
 .simp at h
def l9:Ctr AA:=⟨76,aDo,λargs w=>Tryz.call76 args w,aM bT Tryz.func76 aDo aY7⟩
def aAH:aG
 |[.big a n,.big b m]=>FP (FP (n<=900000/\m<=900000/\b≠0),.ret (.big (a%b) m))
 |_=>FQ
theorem aRz(a b:Z)(n m:O):((n<=900000/\m<=900000/\(b=0->U))/\a%b=a%b/\(m<=m\/P (a%b)<2^m))=aJ (aK [l9] aC) EA [.big a n,.big b m] (AF (.ret (.big (a%b) m))):=by kernel_rfl
theorem aUp:bE EA aAH:=by
 intro ms p r h c;unfold aAH at h;split at h
 .rename_i a n b m;cases h;obtain⟨h1,h2,h3⟩:=c;refine⟨aK [l9] aC,?_⟩;rw[<-aRz a b n m];first|done|(and_intros<;>first|exact⟨⟩|rfl|exact .inl (Z0 _)|omega)
 .simp at h
def aJF:Ctr AA:=⟨188,aAH,λargs w=>Tryz.call188 args w,aM bT Tryz.func188 aAH aUp⟩
def fC:MV:= .iface 128 (.st [])
def fR(b:N)(r:MRes):MRes:= .br b r (.pan fC)
theorem aRB(b:N):(bif !b then bif b then U else S else bif b then S else U)=aJ (aK [] aC) E8 [.bool b] (AF (fR b (.ret (.tup [])))):=by kernel_rfl
def aAJ:aG
 |[.bool b]=>FP (FQ,fR b (.ret (.tup [])))
 |_=>FQ
theorem aUr:bE E8 aAJ:=by
 intro ms p r h hp;unfold aAJ at h;split at h
 .rename_i b;cases h;refine⟨aK [] aC,?_⟩;rw[<-aRB b];cases b<;>exact⟨⟩
 .simp at h
def dQ:Ctr AA:=⟨95,aAJ,λargs w=>Tryz.call95 args w,aM bT Tryz.func95 aAJ aUr⟩
theorem aWt(a e m:Z)(n k l:O):((n<=100000/\k<=100000/\l<=100000)/\bif V (0<m)then bif V (e<0)&&!decide (gcd a m=1)then bif V (0<m)then U else S else bif V (0<m)then sT a e m=sT a e m/\(l<=l\/P (sT a e m)<2^l)else U else bif V (0<m)then U else S)=aJ (aK [aSF,dQ] aC) EM [.big a n,.big e k,.big m l] (AF (fR (V (0<m)) (.ret (.big (sT a e m) l)))):=by kernel_rfl
def aDs:aG
 |[.big a n,.big e k,.big m l]=>FP (FP (n<=100000/\k<=100000/\l<=100000/\0<=e),fR (V (0<m)) (.ret (.big (sT a e m) l)))
 |_=>FQ
theorem aZc:bE EM aDs:=by
 intro ms p r h c;unfold aDs at h;split at h
 .rename_i a n e k m l;cases h;obtain⟨g,f,d,h4⟩:=c;refine⟨aK [aSF,dQ] aC,?_⟩;rw[<-aWt a e m n k l];refine⟨⟨g,f,d⟩,?_⟩;rw[Y1 (show ¬e<0 by omega),AH,Z5];by_cases b:0<m
  .rw[Y0 b];exact⟨rfl,.inl (Z0 _)⟩
  .rw[Y1 b];exact⟨⟩
 .simp at h
def aNV:Ctr AA:=⟨167,aDs,λargs w=>Tryz.call167 args w,aM bT Tryz.func167 aDs aZc⟩
theorem bAV(q n:Z)(k l:O)(b:N)(a:_)(c:a=(max (max k 64+1+(max k 64+1)) l+1)):((k<=1000000/\64<=1000000)/\(max k 64+1<=1000000/\max k 64+1<=1000000)/\(max k 64+1+(max k 64+1)<=1000000/\l<=1000000)/\fY 4/\(64<=1000000/\k<=1000000)/\(max (max k 64+1+(max k 64+1)) l+1<=1000000/\64+k<=1000000)/\bif V (dL ((q+1)*(q+1)-n-4*q)>0)then (max a (64+k)+1<=1000000/\max a (64+k)+1<=1000000)/\fY 16/\(k<=1000000/\l<=1000000)/\(64<=1000000/\k+l<=1000000)/\(max a (64+k)+1+(max a (64+k)+1)<=1000000/\64+(k+l)<=1000000)/\bif V (aX (((q+1)*(q+1)-n-4*q)*((q+1)*(q+1)-n-4*q)) (16*(q*n))>0)then bif b then S else U else bif b then U else S else bif b then U else S)=aJ (aK [gZ,jR,jS,jN,dC,eF,jE,dQ] aC) EH [.big q k,.big n l] (AF (fR b (.ret (.tup [])))):=by subst c;kernel_rfl
def grB(q n:Z):N:=decide (0<(q+1)*(q+1)-n-4*q)&&V (16*(q*n)<((q+1)*(q+1)-n-4*q)*((q+1)*(q+1)-n-4*q))
def aII:aG
 |[.big q k,.big n l]=>FP (FP (k<=100000/\l<=100000),fR (grB q n) (.ret (.tup [])))
 |_=>FQ
theorem bEd:bE EH aII:=by
 intro ms p r h a;unfold aII at h;split at h
 .rename_i q k n l;cases h;obtain⟨h1,h2⟩:=a;refine⟨aK [gZ,jR,jS,jN,dC,eF,jE,dQ] aC,?_⟩;rw[<-bAV q n k l (grB q n) _ rfl];unfold grB;generalize (q+1)*(q+1)-n-4*q=d;generalize d*d=dd;generalize 16*(q*n)=e;refine⟨by omega,by omega,by omega,by omega,by omega,by omega,aI (p:=0<d) (by rw[Z4];unfold dL;split<;>(try split)<;>omega) (λw=>?_) (λw=>?_)⟩
  .rw[Y0 w,AB];refine⟨by omega,by omega,by omega,by omega,by omega,aI (p:=e<dd) (by rw[Z4];unfold aX;split<;>(try split)<;>omega) (λw=>?_) (λw=>?_)⟩
   .rw[Y0 w];exact⟨⟩
   .rw[Y1 w];exact⟨⟩
  .rw[Y1 w,AH];exact⟨⟩
 .simp at h
def aSM:Ctr AA:=⟨172,aII,λargs w=>Tryz.call172 args w,aM bT Tryz.func172 aII bEd⟩
def aY(p q:Z):O->Z
 |0=>0
 |1=>1
 |k+2=>p*aY p q (k+1)-q*aY p q k
theorem aHP(p q:Z)(m:O):∀k,aY p q (m+k+1)=aY p q (m+1)*aY p q (k+1)-q*(aY p q m*aY p q k)/\aY p q (m+k+2)=aY p q (m+1)*aY p q (k+2)-q*(aY p q m*aY p q (k+1))
 |0=>by
  refine⟨?_,?_⟩
  .show aY p q (m+1)=aY p q (m+1)*1-q*(aY p q m*0)
   grind
  .show p*aY p q (m+1)-q*aY p q m=aY p q (m+1)*(p*1-q*0)-q*(aY p q m*1)
   grind
 |k+1=>by
  obtain⟨b,a⟩:=aHP p q m k;refine⟨a,?_⟩;show p*aY p q (m+k+2)-q*aY p q (m+k+1)=aY p q (m+1)*(p*aY p q (k+2)-q*aY p q (k+1))-q*(aY p q m*(p*aY p q (k+1)-q*aY p q k));rw[b,a]
  grind
theorem aHQ(p q:Z)(m:O):aY p q (2*m+1)=aY p q (m+1)*aY p q (m+1)-q*(aY p q m*aY p q m):=by
 rw[show 2*m+1=m+m+1 by omega];exact(aHP p q m m).1
theorem aYD(p q:Z)(m:O):aY p q (2*m+2)=aY p q (m+1)*(2*aY p q (m+2)-p*aY p q (m+1)):=by
 rw[show 2*m+2=m+m+2 by omega,(aHP p q m m).2];show aY p q (m+1)*aY p q (m+2)-q*(aY p q m*aY p q (m+1))=aY p q (m+1)*(2*(p*aY p q (m+1)-q*aY p q m)-p*aY p q (m+1));have:aY p q (m+2)=p*aY p q (m+1)-q*aY p q m:=rfl;rw[this]
 grind
theorem aAq(p q:Z):∀m:O,aY p q (2*m)=aY p q m*(2*aY p q (m+1)-p*aY p q m)
 |0=>by
  show(0:Z)=0*_;rw[DM]
 |m+1=>aYD p q m
def jT(p q n:Z)(m:O):Z×Z:=if m=0 then (1,0)else (aY p q (m+1)%n,aY p q m%n)
def rK(p q:Z)(k:O)(n:Z):Z:=(jT p q n k).2
theorem aHO(p q n:Z)(k:O):rK p q k n=aY p q k%n:=by
 unfold rK jT;split
 .rename_i h;subst h;exact(DJ n).symm
 .rfl
theorem aON(p q n:Z)(m:O):∃s t,(jT p q n m).1=aY p q (m+1)+n*s/\(jT p q n m).2=aY p q m+n*t:=by
 unfold jT;split
 .rename_i h;subst h;exact⟨0,0,by show(1:Z)=1+n*0;omega,by show(0:Z)=0+n*0;omega⟩
 .refine⟨- (aY p q (m+1)/n),-(aY p q m/n),?_,?_⟩
  all_goals grind [B7,aY,CB]
theorem aQQ{p q n:Z}{m:O}(h:0<m):jT p q n (m+m)=(((jT p q n m).1*(jT p q n m).1-q*((jT p q n m).2*(jT p q n m).2))%n,(jT p q n m).2*((jT p q n m).1+(jT p q n m).1-p*(jT p q n m).2)%n):=by
 obtain⟨s,t,c,b⟩:=aON p q n m;rw[c,b];have a:jT p q n (m+m)=(aY p q (m+m+1)%n,aY p q (m+m)%n):=if_neg (by omega);rw[a,show m+m=2*m by omega,aHQ,aAq];generalize aY p q (m+1)=U;generalize aY p q m=V;have x1:(U+n*s)*(U+n*s)-q*((V+n*t)*(V+n*t))=(U*U-q*(V*V))+n*(2*U*s+n*s*s-q*(2*V*t+n*t*t)):=by grind
 have x2:(V+n*t)*(U+n*s+(U+n*s)-p*(V+n*t))=V*(2*U-p*V)+n*(V*(2*s-p*t)+t*(2*U+2*n*s-p*V-p*n*t)):=by grind
 simp_all
theorem aTU{p q n:Z}{m:O}:jT p q n (m+m+1)=((p*((jT p q n m).1*(jT p q n m).1-q*((jT p q n m).2*(jT p q n m).2))-q*((jT p q n m).2*((jT p q n m).1+(jT p q n m).1-p*(jT p q n m).2)))%n,((jT p q n m).1*(jT p q n m).1-q*((jT p q n m).2*(jT p q n m).2))%n):=by
 obtain⟨s,t,f,e⟩:=aON p q n m;rw[f,e];have d:jT p q n (m+m+1)=(aY p q (m+m+1+1)%n,aY p q (m+m+1)%n):=if_neg (by omega);have c:aY p q (2*m+1+1)=p*aY p q (2*m+1)-q*aY p q (2*m):=rfl;rw[d,show m+m=2*m by omega,c,aHQ,aAq];generalize aY p q (m+1)=U;generalize aY p q m=V;have b:(U+n*s)*(U+n*s)-q*((V+n*t)*(V+n*t))=(U*U-q*(V*V))+n*(2*U*s+n*s*s-q*(2*V*t+n*t*t)):=by grind
 have a:(V+n*t)*(U+n*s+(U+n*s)-p*(V+n*t))=V*(2*U-p*V)+n*(V*(2*s-p*t)+t*(2*U+2*n*s-p*V-p*n*t)):=by grind
 rw[b,a,A2];generalize 2*U*s+n*s*s-q*(2*V*t+n*t*t)=A;generalize V*(2*s-p*t)+t*(2*U+2*n*s-p*V-p*n*t)=B;have x3:p*(U*U-q*(V*V)+n*A)-q*(V*(2*U-p*V)+n*B)=(p*(U*U-q*(V*V))-q*(V*(2*U-p*V)))+n*(p*A-q*B):=by grind
 simp_all
def aNo(W L:O)(F:O->Z×Z):O->MS->G LoopAnn
 |3,e=>FP (.inv WalkI (λi=>i.i<=L) (λi=>⟨67, [(4,.bp 0 0),(5,.bp 1 0),(6,.bp 2 0),(7,.bp 3 0),(8,.bp 4 0),(9,.bp 5 0),(10,.bp 6 0),(11,.int .i64 ((i.i:Z)-1))],
   aV (aV e.bx 5 ⟨Aa,.one (.big (F i.i).1 W)⟩) 6 ⟨Aa,.one (.big (F i.i).2 W)⟩,0⟩) (λi=>i.i))
 |_,_=>FQ
theorem aWp(p q k n:Z)(a b c d:O)(r:Z)(w:O)(F:O->Z×Z)(W L:O)(f:_)(h:f=λ(i:WalkI)=>((F (i.1)).1*(F (i.1)).1-q*((F (i.1)).2*(F (i.1)).2)))(e:_)(g:e=(max (max W W+1) (a+W)+1)):(c<=1000000/\(∃i:WalkI,i.1<=L/\(0=0/\0=0/\0=0/\0=0/\0=0/\0=0/\0=0/\Q FT ((bl (P k):Z)-1)=(i.1:Z)-1/\S)/\aD p p a a/\aD q q b b/\aD k k c c/\aD n n d d/\aD 0 0 0 0/\aD 1 ((F (i.1)).1) 64 W/\aD 0 ((F (i.1)).2) 0 W/\S)/\∀(i:WalkI),i.1<=L->bif V ((i.1:Z)-1≥0)then (W<=1000000/\W<=1000000)/\(a<=1000000/\W<=1000000)/\(max W W+1<=1000000/\a+W<=1000000)/\(W<=1000000/\W<=1000000)/\(W<=1000000/\W<=1000000)/\(b<=1000000/\W+W<=1000000)/\(W+W<=1000000/\b+(W+W)<=1000000)/\(W<=1000000/\max (max W W+1) (a+W)+1<=1000000)/\((32:Z)=0->U)/\(0<=Q FT (D ((i.1:Z)-1) 32)/\Q FT (D ((i.1:Z)-1) 32)<(H (aA (P k)):Z))/\((32:Z)=0->U)/\0<=T ((i.1:Z)-1) 32/\bif Q FR (AI (R (AC FR) (fdiv (J (aA (P k)) (I (Q FT (D ((i.1:Z)-1) 32))) 0) ((2:Z)^min (I (T ((i.1:Z)-1) 32)) (AC FR))) &&&R (AC FR) 1):Z)==1 then (a<=1000000/\max (W+W) (b+(W+W))+1<=1000000)/\(b<=1000000/\W+ e <=1000000)/\(a+(max (W+W) (b+(W+W))+1)<=1000000/\b+(W+ e)<=1000000)/\(max (a+(max (W+W) (b+(W+W))+1)) (b+(W+ e))+1<=900000/\d<=900000/\(n=0->U))/\(max (W+W) (b+(W+W))+1<=900000/\d<=900000/\(n=0->U))/\∃j:WalkI,j.1<=L/\((0=0/\0=0/\0=0/\0=0/\0=0/\0=0/\0=0/\Q FT ((i.1:Z)-1-1)=(j.1:Z)-1/\S)/\aD p p a a/\aD q q b b/\aD k k c c/\aD n n d d/\aD 0 0 0 0/\aD ((p* (f i)-q*((F (i.1)).2*((F (i.1)).1+(F (i.1)).1-p*(F (i.1)).2)))%n) ((F (j.1)).1) d W/\aD ((f i) %n) ((F (j.1)).2) d W/\S)/\j.1<i.1 else (max (W+W) (b+(W+W))+1<=900000/\d<=900000/\(n=0->U))/\(W+ e <=900000/\d<=900000/\(n=0->U))/\∃j:WalkI,j.1<=L/\((0=0/\0=0/\0=0/\0=0/\0=0/\0=0/\0=0/\Q FT ((i.1:Z)-1-1)=(j.1:Z)-1/\S)/\aD p p a a/\aD q q b b/\aD k k c c/\aD n n d d/\aD 0 0 0 0/\aD ((f i) %n) ((F (j.1)).1) d W/\aD ((F (i.1)).2*((F (i.1)).1+(F (i.1)).1-p*(F (i.1)).2)%n) ((F (j.1)).2) d W/\S)/\j.1<i.1 else (F (i.1)).2=r/\(W<=w\/P ((F (i.1)).2)<2^w))=aJ (aK [gZ,jR,jS,jN,t8,jE,aJF] (aNo W L F)) EI [.big p a,.big q b,.big k c,.big n d] (AF (.ret (.big r w))):=by subst h g;kernel_rfl
def qF:aG
 |[.big p a,.big q b,.big k c,.big n d]=>FP (FP (a<=100000/\b<=100000/\c<=100000/\d<=100000/\n≠0),.ret (.big (rK p q k.natAbs n) (d+64)))
 |_=>FQ
theorem aY8:eD EI qF:=by
 intro ms pr r h u v;unfold qF at h;split at h
 .rename_i p a q b k c n d;cases h;obtain⟨h1,h2,h3,h4,h5⟩:=u;have g:k.natAbs<2^c:=v.2.2.1;have hbl:bl k.natAbs<=c:=dN g;refine⟨aK [gZ,jR,jS,jN,t8,jE,aJF] (aNo (d+64) (bl k.natAbs) λi=>jT p q n (k.natAbs/2^i)),?_⟩;rw[<-aWp p q k n a b c d (rK p q k.natAbs n) (d+64) (λi=>jT p q n (k.natAbs/2^i)) (d+64) (bl k.natAbs) _ rfl _ rfl];generalize hK:k.natAbs=K at *;have o:K/2^bl K=0:=BA (kY K);have w:Q FT ((bl K:Z)-1)=(bl K:Z)-1:=aT (by omega) (by omega);have t:max (d+64) (d+64)=d+64:=Nat.max_self _;rw[w,t];refine⟨by omega,⟨⟨bl K⟩,Z0 _,⟨rfl,rfl,rfl,rfl,rfl,rfl,rfl,rfl,⟨⟩⟩,bQ,bQ,bQ,bQ,bQ,⟨?_,.inl (by omega)⟩,⟨?_,.inl (by omega)⟩,⟨⟩⟩,λi l=>?_⟩
  .rw[o];rfl
  .rw[o];rfl
  obtain⟨i⟩:=i;have l:i<=bl K:=l;dsimp only;refine aI Z4 (λq1=>?_) (λq1=>?_)
  .have x:(i:Z)-1=((i-1:O):Z):=by omega
   have hix:=oM (N:=K) (c:=i-1) (by omega);rw[x,ixE (by omega),imE,Z8,Z8,aCI];have m:Q FT (((i-1:O):Z)-1)=((i-1:O):Z)-1:=aT (by omega) (by omega);have e:=aH0 (M:=K) (k:=i) (by omega);refine⟨by omega,by omega,by omega,by omega,by omega,by omega,by omega,by omega,by omega,by omega,by omega,by omega,aI beq_iff_eq (λs=>?_) (λs=>?_)⟩
   .have f:K/2^(i-1)%2=1:=by omega
    rw[f]at e;refine⟨by omega,by omega,by omega,by omega,by omega,⟨i-1⟩,by show i-1<=bl K;omega,⟨⟨rfl,rfl,rfl,rfl,rfl,rfl,rfl,m,⟨⟩⟩,bQ,bQ,bQ,bQ,bQ,⟨?_,.inl (by omega)⟩,⟨?_,.inl (by omega)⟩,⟨⟩⟩,by show i-1<i;omega⟩
    all_goals grind [jT,aTU]
   .have f:K/2^(i-1)%2=0:=by omega
    rw[f,CH]at e;have hm:0<K/2^i:=by
     rcases CS (K/2^i)with z|z
     .exfalso;rw[z]at e;have:K<2^(i-1):=by
       simp_all
      have:=dN this;omega
     .exact z
    refine⟨by omega,by omega,⟨i-1⟩,by show i-1<=bl K;omega,⟨⟨rfl,rfl,rfl,rfl,rfl,rfl,rfl,m,⟨⟩⟩,bQ,bQ,bQ,bQ,bQ,⟨?_,.inl (by omega)⟩,⟨?_,.inl (by omega)⟩,⟨⟩⟩,by show i-1<i;omega⟩
    all_goals grind [jT,aQQ]
  .have j:i=0:=by omega
   subst j;rw[AX,BV];exact⟨rfl,.inl (Z0 _)⟩
 .simp at h
def aNU:Ctr AA:=⟨171,qF,λargs w=>Tryz.call171 args w,aO bT Tryz.func171 qF aY8⟩
def aDz:aG
 |[.big a n,.big b m]=>FP (FP (n<=900000/\m<=900000),.ret (.bool (V (gcd a b=1))))
 |_=>FQ
theorem aWD(a b:Z)(n m:O):((n<=900000/\m<=900000)/\fY 1/\(max n m<=1000000/\64<=1000000)/\V ((gcd a b:Z)=1)=V (gcd a b=1))=aJ (aK [aBf,cO,fJ] aC) E3 [.big a n,.big b m] (AF (.ret (.bool (V (gcd a b=1))))):=by kernel_rfl
theorem aZj:bE E3 aDz:=by
 intro ms p r h c;unfold aDz at h;split at h
 .rename_i a n b m;cases h;obtain⟨e,d⟩:=c;refine⟨aK [aBf,cO,fJ] aC,?_⟩;rw[<-aWD a b n m];refine⟨⟨e,d⟩,by omega,by omega,?_⟩;rw[BB,Z4,Z4];omega
 .simp at h
def vR:Ctr AA:=⟨104,aDz,λargs w=>Tryz.call104 args w,aM bT Tryz.func104 aDz aZj⟩
def aDG:aG
 |[.big a n,.big b m,.big c l]=>FP (FP (n<=1000000/\m<=1000000/\l<=1000000),.ret (.bool (V (b<=a)&&V (a<=c))))
 |_=>FQ
theorem aWL(a b c:Z)(n m l:O):((n<=1000000/\m<=1000000)/\bif V (aX a b≥0)then (n<=1000000/\l<=1000000)/\V (aX a c<=0)=(V (b<=a)&&V (a<=c))else Aa=(V (b<=a)&&V (a<=c)))=aJ (aK [iW] aC) E4 [.big a n,.big b m,.big c l] (AF (.ret (.bool (V (b<=a)&&V (a<=c))))):=by kernel_rfl
theorem aZr:bE E4 aDG:=by
 intro ms p r h e;unfold aDG at h;split at h
 .rename_i a n b m c l;cases h;obtain⟨d,g,f⟩:=e;refine⟨aK [iW] aC,?_⟩;rw[<-aWL a b c n m l];refine⟨⟨d,g⟩,aI (p:=b<=a) (by rw[Z4];unfold aX;split<;>(try split)<;>omega) (λw=>⟨⟨d,f⟩,?_⟩) (λw=>?_)⟩
  .rw[Y0 w,AB,BB,Z4,Z4];unfold aX;split<;>(try split)<;>omega
  .rw[Y1 w,AH]
 .simp at h
def aCP:Ctr AA:=⟨103,aDG,λargs w=>Tryz.call103 args w,aM bT Tryz.func103 aDG aZr⟩
theorem bBb(q n:Z)(k l:O)(b:N)(a:_)(c:a=(max (max k 64+1+(max k 64+1)) l+1)):(fY 1/\(k<=1000000/\64<=1000000)/\(max k 64+1<=1000000/\max k 64+1<=1000000)/\(max k 64+1+(max k 64+1)<=1000000/\l<=1000000)/\fY 4/\(64<=1000000/\k<=1000000)/\(max (max k 64+1+(max k 64+1)) l+1<=1000000/\64+k<=1000000)/\bif V (dL ((q+1)*(q+1)-n-4*q)>0)then (max a (64+k)+1<=1000000/\max a (64+k)+1<=1000000)/\fY 16/\(k<=1000000/\l<=1000000)/\(64<=1000000/\k+l<=1000000)/\(max a (64+k)+1+(max a (64+k)+1)<=1000000/\64+(k+l)<=1000000)/\V (aX (((q+1)*(q+1)-n-4*q)*((q+1)*(q+1)-n-4*q)) (16*(q*n))>0)=b else Aa=b)=aJ (aK [cO,gL,k6,eV,eM,iW] aC) FE [.big q k,.big n l] (AF (.ret (.bool b))):=by subst c;kernel_rfl
def aIQ:aG
 |[.big q k,.big n l]=>FP (FP (k<=100000/\l<=100000),.ret (.bool (grB q n)))
 |_=>FQ
theorem bEk:bE FE aIQ:=by
 intro ms p r h a;unfold aIQ at h;split at h
 .rename_i q k n l;cases h;obtain⟨h1,h2⟩:=a;refine⟨aK [cO,gL,k6,eV,eM,iW] aC,?_⟩;rw[<-bBb q n k l (grB q n) _ rfl];unfold grB;generalize (q+1)*(q+1)-n-4*q=d;generalize d*d=dd;generalize 16*(q*n)=e;refine⟨by omega,by omega,by omega,by omega,by omega,by omega,by omega,aI (p:=0<d) (by rw[Z4];unfold dL;split<;>(try split)<;>omega) (λw=>?_) (λw=>?_)⟩
  .rw[Y0 w,AB];refine⟨by omega,by omega,by omega,by omega,by omega,?_⟩;rw[BB,Z4,Z4];unfold aX;split<;>(try split)<;>omega
  .rw[Y1 w,AH]
 .simp at h
def aHs:Ctr AA:=⟨56,aIQ,λargs w=>Tryz.call56 args w,aM bT Tryz.func56 aIQ bEk⟩
theorem aSo(a b:Z):(a==b)=V (a=b):=by
 rfl
theorem aPE{b:Z}:V (dL b<0)=V (b<0):=by
 grind [dL]
def aDu:aG
 |[.big a n,.int .i64 i]=>FP (FP (n<=1000000/\0<=i/\i.toNat<bl a.natAbs),.ret (.bool (V (a.natAbs/2^i.toNat%2=1))))
 |_=>FQ
theorem aWy(a:Z)(i n:O):(((32:Z)=0->U)/\(0<=Q FT (D (i:Z) 32)/\Q FT (D (i:Z) 32)<(H (aA (P a)):Z))/\((32:Z)=0->U)/\0<=Q F4 (T (i:Z) 32)/\(Q FR (AI (R (AC FR) (fdiv (J (aA (P a)) (I (Q FT (D (i:Z) 32))) 0) ((2:Z)^min (I (Q F4 (T (i:Z) 32))) (AC FR))) &&&R (AC FR) 1):Z)==1)=V (P a/2^i%2=1))=aJ (aK [] aC) E9 [.big a n,.int .i64 i] (AF (.ret (.bool (V (a.natAbs/2^i%2=1))))):=by kernel_rfl
theorem aZe:eD E9 aDu:=by
 intro ms p r h c d;unfold aDu at h;split at h
 .rename_i a n i0;cases h;obtain⟨h1,f,b⟩:=c;have e:a.natAbs<2^n:=d.1;obtain⟨i,rfl⟩:=BQ f;rw[Z8]at b;have hbl:=dN e;refine⟨aK [] aC,?_⟩;rw[show((i:Z)).toNat=i from rfl,<-aWy a i n];have l:D (i:Z) 32=((i/32:O):Z):=rfl;have k:T (i:Z) 32=((i%32:O):Z):=rfl;have j:Q FT ((i/32:O):Z)=((i/32:O):Z):=aT (by omega) (by omega);have g:Q F4 ((i%32:O):Z)=((i%32:O):Z):=iP (by omega);have hidx:=oM b;rw[l,k,j,g,Z8,Z8,t5]
  grind
 .simp at h
def aNZ:Ctr AA:=⟨81,aDu,λargs w=>Tryz.call81 args w,aO bT Tryz.func81 aDu aZe⟩
def wT:aG
 |[.big a n,.big e k,.big m l]=>FP (FP (n<=10000/\k<=10000/\l<=10000/\0<m),.ret (.big (gX a e.natAbs m) l))
 |_=>FQ
structure R3pS where
 q:Nat
 x:Int
structure R3pI (a:Int) (e:Nat) (m:Int) (s:R3pS):Prop where
 q:s.q<=bl e
 x:s.x=gX a (e/2^s.q) m
def aFR(a e m:Z)(n k l:O):O->MS->G LoopAnn
 |3,_=>FP (.inv R3pS (R3pI a e.natAbs m) (λs=>⟨33, [(3,.bp 0 0),(4,.bp 1 0),(5,.bp 2 0),(6,.bp 3 0),(7,.bp 4 0),(8,.int .i64 ((s.q:Z)-1))], [⟨Aa,.one (.big a n)⟩,⟨Aa,.one (.big e k)⟩,⟨Aa,.one (.big m l)⟩,⟨Aa,.one (.big 0 0)⟩,⟨Aa,.one (.big s.x l)⟩],0⟩) (λs=>s.q))
 |_,_=>FQ
theorem aNb(a e m:Z)(n k l:O):(fY 1/\(64<=900000/\l<=900000/\(m=0->U))/\k<=1000000/\(∃i,R3pI a (P e) m i/\(0=0/\0=0/\0=0/\0=0/\0=0/\Q FT ((bl (P e):Z)-1)=(R3pS.q i:Z)-1/\S)/\aD a a n n/\aD e e k k/\aD m m l l/\aD 0 0 0 0/\aD (1%m) (R3pS.x i) l l/\S)/\∀(i:R3pS),R3pI a (P e) m i->bif V ((R3pS.q i:Z)-1≥0)then (l<=1000000/\l<=1000000)/\(l+l<=900000/\l<=900000/\(m=0->U))/\(k<=1000000/\0<=(R3pS.q i:Z)-1/\I ((R3pS.q i:Z)-1)<bl (P e))/\bif V (P e/2^I ((R3pS.q i:Z)-1)%2=1)then (l<=1000000/\n<=1000000)/\(l+n<=900000/\l<=900000/\(m=0->U))/\∃j,R3pI a (P e) m j/\((0=0/\0=0/\0=0/\0=0/\0=0/\Q FT ((R3pS.q i:Z)-1-1)=(R3pS.q j:Z)-1/\S)/\aD a a n n/\aD e e k k/\aD m m l l/\aD 0 0 0 0/\aD (R3pS.x i*R3pS.x i%m*a%m) (R3pS.x j) l l/\S)/\R3pS.q j<R3pS.q i else ∃j,R3pI a (P e) m j/\((0=0/\0=0/\0=0/\0=0/\0=0/\Q FT ((R3pS.q i:Z)-1-1)=(R3pS.q j:Z)-1/\S)/\aD a a n n/\aD e e k k/\aD m m l l/\aD 0 0 0 0/\aD (R3pS.x i*R3pS.x i%m) (R3pS.x j) l l/\S)/\R3pS.q j<R3pS.q i else R3pS.x i=gX a (P e) m/\(l<=l\/P (R3pS.x i)<2^l))=aJ (aK [cO,eB,pV,eV,aNZ] (aFR a e m n k l)) FI [.big a n,.big e k,.big m l] (AF (.ret (.big (gX a e.natAbs m) l))):=by kernel_rfl
theorem aVe(a m:Z)(q:O):gX a q m*gX a q m%m=gX a (2*q) m:=by rw[aAz,Nat.two_mul]
theorem aZY(a m:Z)(q:O):gX a q m*gX a q m%m*a%m=gX a (2*q+1) m:=by
 grind [aVe,gX,CJ,BG,BX,CK]
theorem aQ4:eD FI wT:=by
 intro ms p r h f g;unfold wT at h;split at h
 .rename_i a n e k m l;cases h;obtain⟨h1,h2,h3,hm⟩:=f;have i:e.natAbs<2^k:=g.2.1;refine⟨aK [cO,eB,pV,eV,aNZ] (aFR a e m n k l),?_⟩;rw[<-aNb a e m n k l];generalize hN:e.natAbs=N at *;have hbl:bl N<=k:=dN i;have e0:Q FT ((bl N:Z)-1)=(bl N:Z)-1:=aT (by omega) (by omega);refine⟨by omega,by omega,by omega,⟨⟨bl N,1%m⟩,⟨Z0 _,?_⟩,?_⟩,?_⟩
  .grind [gX,bl,BA,kY,aAA]
  .grind
  rintro⟨q,x⟩ b
  have hq:q<=bl N:=b.q;have hx:x=gX a (N/2^q) m:=b.x;clear b;dsimp only;rw[AS];split
  .rename_i hc;obtain⟨c,rfl⟩:∃c,q=c+1:=⟨q-1,by omega⟩;have o:((c+1:O):Z)-1=(c:O):=by omega
   have j:Q FT ((c:O)-1:Z)=(c:O)-1:=aT (by omega) (by omega);have e7:N/2^c=2*(N/2^(c+1))+N/2^c%2:=by
    rw[AZ,<-AR];omega
   rw[o,j,Z8];refine⟨by omega,by omega,by omega,?_⟩;by_cases d:N/2^c%2=1
   .rw[Y0 d,Z6];refine⟨by omega,by omega,⟨c,x*x%m*a%m⟩,⟨by show c<=bl N;omega,?_⟩,?_,by show c<c+1;omega⟩
    all_goals grind [gX,aZY]
   .rw[Y1 d,Z5];refine⟨⟨c,x*x%m⟩,⟨by show c<=bl N;omega,?_⟩,?_,by show c<c+1;omega⟩
    all_goals grind [gX,aVe]
  grind
 .simp at h
def vQ:Ctr AA:=⟨49,wT,λargs w=>Tryz.call49 args w,aO bT Tryz.func49 wT aQ4⟩
theorem aZW(a m:Z)(e:O):gX (a%m) e m=gX a e m:=by
 induction e with
 |zero=>rw[aAA,aAA]
 |succ e ih =>
  rw[<-aAz,<-aAz,ih,aH9,aH9,BX _ (CK m)]
def aDN:aG
 |[.big a n,.int .i64 m]=>FP (FP (n<=900000/\0<m/\m<=4611686018427387904),.ret (.int .i64 (a%m)))
 |_=>FQ
theorem aWZ(a m:Z)(n:O):(fY m/\(n<=900000/\64<=900000/\(m=0->U))/\P (a%m)<9223372036854775808/\a%m=a%m)=aJ (aK [cO,eB,aHt] aC) EU [.big a n,.int .i64 m] (AF (.ret (.int .i64 (a%m)))):=by kernel_rfl
theorem aZE:bE EU aDN:=by
 intro ms p r h b;unfold aDN at h;split at h
 .rename_i a n m;cases h;obtain⟨h1,c,h3⟩:=b;have hm0:=AT a (show m≠0 by omega);have hm1:=AM a c;refine⟨aK [cO,eB,aHt] aC,?_⟩;rw[<-aWZ a m n];omega
 .simp at h
def aCQ:Ctr AA:=⟨139,aDN,λargs w=>Tryz.call139 args w,aM bT Tryz.func139 aDN aZE⟩
def aDv:aG
 |[.big a n]=>FP (FP (n<=900000),.ret (.int .i64 (jL a)))
 |_=>FQ
theorem aWz(a:Z)(n:O):((n<=900000/\(0:Z)<8/\(8:Z)<=4611686018427387904)/\((2:Z)=0->U)/\bif T (a%8) 2==0 then 0=jL a else bif a%8==3 then (-1)=jL a else bif a%8==5 then (-1)=jL a else 1=jL a)=aJ (aK [aCQ] aC) ET [.big a n] (AF (.ret (.int .i64 (jL a)))):=by kernel_rfl
theorem aZf:bE ET aDv:=by
 intro ms p r h b;unfold aDv at h;split at h
 .rename_i a n;cases h;have h1:n<=900000:=b;refine⟨aK [aCQ] aC,?_⟩;rw[<-aWz a n]
  grind [jL]
 .simp at h
def aN0:Ctr AA:=⟨140,aDv,λargs w=>Tryz.call140 args w,aM bT Tryz.func140 aDv aZf⟩
structure KnI (a r:Int) (m:Nat) (s:KcS):Prop where
 k:s.k=1\/s.k= -1
 pos:0<s.n
 bn:s.n.natAbs<2^m
 val:s.k*kr a s.n.natAbs=r
structure KbI (a b:Int) (s:KcS):Prop where
 k:s.k=if b<0/\a<0 then-1 else 1
 n:s.n=b
structure KrJ (r:Int) (N:Nat) (A Q:Int) (s:KrS):Prop where
 i:KrI r N s
 a:(s.a:Int)<=A
 n:(s.n:Int)=Q
 ne:s.a≠0
def rkS(m:O)(s:KrS):MS:=⟨72, [(2,.bp 0 0),(3,.bp 1 0),(5,.int .i64 s.k)], [⟨Aa,.one (.big s.a m)⟩,⟨Aa,.one (.big s.n m)⟩],0⟩
def rkC(a:Z)(n m:O)(s:KcS):MS:=⟨72, [(2,.bp 0 0),(3,.bp 1 0),(5,.int .i64 s.k)], [⟨Aa,.one (.big a n)⟩,⟨Aa,.one (.big s.n m)⟩],0⟩
def aJr(a r:Z)(n m:O):O->MS->G LoopAnn
 |9,_=>FP (.inv KcS (KnI a r m) (rkC a n m) (λs=>s.n.natAbs))
 |15,_=>FP (.inv KrS (KrI r m) (rkS m) (λs=>s.a))
 |16,s=>(match s.bx with
  |⟨_,.one (.big A _)⟩::⟨_,.one (.big Q _)⟩::_=>FP (.inv KrS (KrJ r m A Q) (rkS m) (λs=>s.a))
  |_=>FQ)
 |_,_=>FQ
def aKt(a b:Z)(n m:O):O->MS->G CutAnn
 |8,_=>FP (.mk KcS (KbI a b) (rkC a n m))
 |_,_=>FQ
theorem aRF(a b:Z)(n m:O)(c:_)(f:c=λ(i_1:KrS)=>(KrS.a i_1:Z))(d:_)(e:d=(gH a b)):(bif dL b==0 then n<=1000000/\fY 1/\(n<=1000000/\64<=1000000)/\bif V ((P a:Z)=1)then 1=gH a b else 0=gH a b else (bif V (dL b<0)then bif V (dL a<0)then ∃i,KbI a b i/\(0=0/\0=0/\(-1)=KcS.k i/\S)/\aD a a n n/\aD b (KcS.n i) m m/\S else ∃i,KbI a b i/\(0=0/\0=0/\1=KcS.k i/\S)/\aD a a n n/\aD b (KcS.n i) m m/\S else ∃i,KbI a b i/\(0=0/\0=0/\1=KcS.k i/\S)/\aD a a n n/\aD b (KcS.n i) m m/\S)/\∀(i:KcS),KbI a b i->m<=1000000/\(∃i_1,KnI a d m i_1/\(0=0/\0=0/\KcS.k i=KcS.k i_1/\S)/\aD a a n n/\aD (P (KcS.n i):Z) (KcS.n i_1) m m/\S)/\∀(i:KcS),KnI a d m i->(m<=900000/\(0:Z)<2/\(2:Z)<=4611686018427387904)/\bif KcS.n i%2==0 then n<=900000/\fY 2/\(m<=900000/\64<=900000/\((2:Z)=0->U))/\bif Q FT (KcS.k i*jL a)==0 then 0=gH a b else ∃j,KnI a d m j/\((0=0/\0=0/\Q FT (KcS.k i*jL a)=KcS.k j/\S)/\aD a a n n/\aD (KcS.n i/2) (KcS.n j) m m/\S)/\P (KcS.n j)<P (KcS.n i)else (n<=900000/\m<=900000/\(KcS.n i=0->U))/\(∃i_1,KrI d m i_1/\(0=0/\0=0/\KcS.k i=KrS.k i_1/\S)/\aD (a%KcS.n i) (c i_1) m m/\aD (KcS.n i) (KrS.n i_1:Z) m m/\S)/\∀(i:KrS),KrI d m i->bif dL (KrS.a i:Z) != 0 then (∃i_1,KrJ d m (KrS.a i:Z) (KrS.n i:Z) i_1/\(0=0/\0=0/\KrS.k i=KrS.k i_1/\S)/\aD (KrS.a i:Z) (c i_1) m m/\aD (KrS.n i:Z) (KrS.n i_1:Z) m m/\S)/\∀(i_1:KrS),KrJ d m (KrS.a i:Z) (KrS.n i:Z) i_1->(m<=900000/\(0:Z)<2/\(2:Z)<=4611686018427387904)/\bif (c i_1) %2==0 then fY 2/\(m<=900000/\64<=900000/\((2:Z)=0->U))/\m<=900000/\∃j,KrJ d m (KrS.a i:Z) (KrS.n i:Z) j/\((0=0/\0=0/\Q FT (KrS.k i_1*jL (KrS.n i_1:Z))=KrS.k j/\S)/\aD ((c i_1) /2) (KrS.a j:Z) m m/\aD (KrS.n i_1:Z) (KrS.n j:Z) m m/\S)/\KrS.a j<KrS.a i_1 else (m<=900000/\(0:Z)<4/\(4:Z)<=4611686018427387904)/\bif (c i_1) %4==3 then (m<=900000/\(0:Z)<4/\(4:Z)<=4611686018427387904)/\bif (KrS.n i_1:Z)%4==3 then (m<=900000/\m<=900000/\((c i_1) =0->U))/\∃j,KrI d m j/\((0=0/\0=0/\Q FT (0-KrS.k i_1)=KrS.k j/\S)/\aD ((KrS.n i_1:Z)% (c i_1)) (KrS.a j:Z) m m/\aD (c i_1) (KrS.n j:Z) m m/\S)/\KrS.a j<KrS.a i else (m<=900000/\m<=900000/\((c i_1) =0->U))/\∃j,KrI d m j/\((0=0/\0=0/\KrS.k i_1=KrS.k j/\S)/\aD ((KrS.n i_1:Z)% (c i_1)) (KrS.a j:Z) m m/\aD (c i_1) (KrS.n j:Z) m m/\S)/\KrS.a j<KrS.a i else (m<=900000/\m<=900000/\((c i_1) =0->U))/\∃j,KrI d m j/\((0=0/\0=0/\KrS.k i_1=KrS.k j/\S)/\aD ((KrS.n i_1:Z)% (c i_1)) (KrS.a j:Z) m m/\aD (c i_1) (KrS.n j:Z) m m/\S)/\KrS.a j<KrS.a i else fY 1/\(m<=1000000/\64<=1000000)/\bif !decide ((KrS.n i:Z)=1)then 0=gH a b else KrS.k i=gH a b)=aJ (aJ5 [eM,uC,cO,fJ,aCQ,aN0,kZ,eB] (aJr a (gH a b) n m) (aKt a b n m)) E2 [.big a n,.big b m] (AF (.ret (.int .i64 (gH a b)))):=by subst f e;kernel_rfl
def aAM:aG
 |[.big a n,.big b m]=>FP (FP (n<=200000/\m<=200000),.ret (.int .i64 (gH a b)))
 |_=>FQ
theorem aUu:eD E2 aAM:=by
 intro ms p r h S G;unfold aAM at h;split at h
 .rename_i a n b m;cases h;obtain⟨hn,hm⟩:=S;have T:a.natAbs<2^n:=G.1;have N:b.natAbs<2^m:=G.2.1;refine⟨aJ5 [eM,uC,cO,fJ,aCQ,aN0,kZ,eB] (aJr a (gH a b) n m) (aKt a b n m),?_⟩;rw[<-aRF a b n m _ rfl _ rfl];by_cases C:b=0
  .grind [dL,gH]
  have P:(dL b==0)=Aa:=by
   unfold dL
   grind
  have j:gH a b=(if b<0/\a<0 then-1 else 1)*kr a b.natAbs:=by unfold gH;rw[X C]
  generalize R:gH a b=r at *;rw[P,Z5];refine⟨?_,?_⟩
  .rw[aPE,aPE];by_cases q1:b<0
   .rw[Y0 q1,Z6];by_cases D:a<0
    .rw[Y0 D,Z6];exact⟨⟨-1,b⟩,⟨by show(-1:Z)=_;rw[Y ⟨q1,D⟩],rfl⟩,⟨rfl,rfl,rfl,⟨⟩⟩,⟨rfl,.inl (Z0 _)⟩,⟨rfl,.inl (Z0 _)⟩,⟨⟩⟩
    .rw[Y1 D,Z5];exact⟨⟨1,b⟩,⟨by show(1:Z)=_;rw[X (by omega)],rfl⟩,⟨rfl,rfl,rfl,⟨⟩⟩,⟨rfl,.inl (Z0 _)⟩,⟨rfl,.inl (Z0 _)⟩,⟨⟩⟩
   .rw[Y1 q1,Z5];exact⟨⟨1,b⟩,⟨by show(1:Z)=_;rw[X (by omega)],rfl⟩,⟨rfl,rfl,rfl,⟨⟩⟩,⟨rfl,.inl (Z0 _)⟩,⟨rfl,.inl (Z0 _)⟩,⟨⟩⟩
  rintro⟨k,c⟩ f
  have A:k=if b<0/\a<0 then-1 else 1:=f.k;have B:c=b:=f.n;clear f;dsimp only;rw[B];have d:k=1\/k= -1:=by
   omega
  rw[<-A]at j;refine⟨by omega,⟨⟨k,b.natAbs⟩,⟨d,by show(0:Z)<(b.natAbs:Z);omega,by show((b.natAbs:Z)).natAbs<_;rw[AL];exact N,?_⟩,⟨rfl,rfl,rfl,⟨⟩⟩,⟨rfl,.inl (Z0 _)⟩,⟨rfl,.inl (Z0 _)⟩,⟨⟩⟩,?_⟩
  .simp_all
  clear d A j P C N B R T G
  rintro⟨k,c⟩ f
  have d:k=1\/k= -1:=f.k;have e:0<c:=f.pos;have l:c.natAbs<2^m:=f.bn;have hv:k*kr a c.natAbs=r:=f.val;clear f;dsimp only;obtain⟨q,rfl⟩:=BQ (DT e);rw[AL]at l hv;have E:∀ {z:Z},z=1\/z= -1->FV FT z=z:=λh=>by rcases h with h|h<;>rw[h]<;>rfl
  have w:∀ {z:Z},z=1\/z= -1->(0-z=1\/0-z= -1):=λh=>by rcases h with h|h<;>rw[h]<;>decide
  refine⟨by omega,?_⟩;rw[aSo];by_cases u:(q:Z)%2=0
  .rw[Y0 u,Z6];rw[aC0 (by omega) (by omega),<-A0]at hv;refine⟨by omega,by omega,by omega,?_⟩;by_cases F:a%2=1
   .have o:=wL d (pP F);rw[E o,show(k*jL a==0)=Aa by rcases o with h|h<;>rw[h]<;>rfl,Z5];refine⟨⟨k*jL a,((q/2:F0):Z)⟩,⟨o,by show(0:Z)<((q/2:F0):Z);omega,by show(((q/2:F0):Z)).natAbs<_;omega,?_⟩,⟨⟨rfl,rfl,rfl,⟨⟩⟩,⟨rfl,.inl (Z0 _)⟩,⟨by show(q:Z)/2=((q/2:F0):Z);omega,.inl (Z0 _)⟩,⟨⟩⟩,by show(((q/2:F0):Z)).natAbs<((q:Z)).natAbs;omega⟩
    grind [jL,kr,AL]
   .rw[wY F,DP,DM]at hv;rw[wY F,DP];exact hv
  .rw[Y1 u,Z5];have L:=AT a (show(q:Z)≠0 by omega);have K:=AM a e;refine⟨by omega,⟨⟨k,(a%q).toNat,q⟩,⟨by show q%2=1;omega,d,?_,by show(a%q).toNat<_;omega,l⟩,⟨rfl,rfl,rfl,⟨⟩⟩,⟨by show a%q=((a%q).toNat:Z);omega,.inl (Z0 _)⟩,⟨rfl,.inl (Z0 _)⟩,⟨⟩⟩,?_⟩
   .grind [jac,aMy]
   clear hv d L K l e u
   rintro⟨k,x,q⟩ t
   have M:q%2=1:=t.odd;have d:k=1\/k= -1:=t.k;have hv:k*jac x q=r:=t.val;have g:x<2^m:=t.ba;have v:q<2^m:=t.bn;clear t;dsimp only;by_cases Q:x=0
   .grind [dL,aEz]
   have O:(dL (x:Z) != 0)=FU:=by rw[aDP (by omega)];rfl
   rw[O,Z6];refine⟨⟨⟨k,x,q⟩,⟨⟨M,d,hv,g,v⟩,BN _,rfl,Q⟩,⟨rfl,rfl,rfl,⟨⟩⟩,⟨rfl,.inl (Z0 _)⟩,⟨rfl,.inl (Z0 _)⟩,⟨⟩⟩,?_⟩;clear hv d O
   rintro⟨k,y,q'⟩ s
   have hya:(y:Z)<=x:=s.a;have hqq:(q':Z)=q:=s.n;have J:y≠0:=s.ne;have d:k=1\/k= -1:=s.i.k;have hv:k*jac y q'=r:=s.i.val;clear s;obtain rfl:q'=q:=by omega
   dsimp only;refine⟨by omega,?_⟩;rw[aSo];by_cases u:(y:Z)%2=0
   .rw[Y0 u,Z6];rw[aEy J (by omega),<-A0]at hv;have o:=wL d (pP (q:=(q':Z)) (by omega));exact⟨by omega,by omega,by omega,⟨k*jL q',y/2,q'⟩,⟨⟨M,o,hv,by show y/2<_;omega,v⟩,by show((y/2:F0):Z)<=x;omega,rfl,by show y/2≠0;omega⟩,⟨⟨rfl,rfl,E o,⟨⟩⟩,⟨by show(y:Z)/2=((y/2:F0):Z);omega,.inl (Z0 _)⟩,⟨rfl,.inl (Z0 _)⟩,⟨⟩⟩,by show y/2<y;omega⟩
   .rw[Y1 u,Z5];rw[aHJ (by omega)]at hv;refine⟨by omega,?_⟩;rw[aXq,aXq];unfold rsg at hv;by_cases I:y%4=3
    .rw[Y0 I,Z6];refine⟨by omega,?_⟩;by_cases H:q'%4=3
     .rw[Y0 H,Z6];rw[Y ⟨I,H⟩]at hv;exact jI (by omega) (by omega) (by omega) g (E (w d)) (w d) (by rw[<-hv];grind)
     .rw[Y1 H,Z5];rw[X (by omega),A5]at hv;exact jI (by omega) (by omega) (by omega) g rfl d hv
    .rw[Y1 I,Z5];rw[X (by omega),A5]at hv;exact jI (by omega) (by omega) (by omega) g rfl d hv
 .simp at h
def aJG:Ctr AA:=⟨105,aAM,λargs w=>Tryz.call105 args w,aO bT Tryz.func105 aAM aUu⟩
theorem dv2{M a b c d:Z}(f:M ∣ a)(e:M ∣ b):M ∣ c*a+d*b:=Int.dvd_add (BP f) (BP e)
theorem aCv{M u D G:Z}(a:M ∣ u*D-1)(h:M ∣ D*G):M ∣ G:=by
 have e:G=u*(D*G)+(-G)*(u*D-1):=by grind
 rw[e];exact dv2 h a
theorem bH3{M A B b c a d u s:Z}(j:M ∣ c*c-(b*b*b+A*b+B))(i:M ∣ d*d-(a*a*a+A*a+B))(f:M ∣ u*(a-b)-1)(h:M ∣ s-(d-c)*u) :
  M ∣ a*a+a*b+b*b+A-s*s*(a-b)-2*s*c:=by
 have g:M ∣ s*(a-b)-(d-c):=by
  have e:s*(a-b)-(d-c)=(a-b)*(s-(d-c)*u)+(d-c)*(u*(a-b)-1):=by grind
  rw[e];exact dv2 h f
 refine aCv f ?_;have e:(a-b)*(a*a+a*b+b*b+A-s*s*(a-b)-2*s*c)=1*(1*(c*c-(b*b*b+A*b+B))+(-1)*(d*d-(a*a*a+A*a+B)))+(-(2*d+(s*(a-b)-(d-c))))*(s*(a-b)-(d-c)):=by grind
 rw[e];exact dv2 (dv2 j i) g
theorem bH2{M A B a b c u s:Z}(j:M ∣ b*b-(a*a*a+A*a+B))(i:M ∣ c*c-(a*a*a+A*a+B))(d:M ∣ u*(b+c)-1)(g:M ∣ s-(3*(a*a)+A)*u) :
  M ∣ a*a+a*a+a*a+A-s*s*(a-a)-2*s*b:=by
 have f:M ∣ s*(b+c)-(3*(a*a)+A):=by
  have e:s*(b+c)-(3*(a*a)+A)=(b+c)*(s-(3*(a*a)+A)*u)+(3*(a*a)+A)*(u*(b+c)-1):=by grind
  rw[e];exact dv2 g d
 have h:M ∣ b-c:=by
  refine aCv d ?_;have e:(b+c)*(b-c)=1*(b*b-(a*a*a+A*a+B))+(-1)*(c*c-(a*a*a+A*a+B)):=by grind
  rw[e];exact dv2 j i
 have e:a*a+a*a+a*a+A-s*s*(a-a)-2*s*b=(-1)*(s*(b+c)-(3*(a*a)+A))+(-s)*(b-c):=by grind
 rw[e];exact dv2 f h
theorem bHH{M A B a c b s x y:Z}(h:M ∣ c*c-(a*a*a+A*a+B))(g:M ∣ b*b+b*a+a*a+A-s*s*(b-a)-2*s*c)(f:M ∣ x-(s*s-(a+b)))(d:M ∣ y-(s*(a-x)-c)):M ∣ y*y-(x*x*x+A*x+B):=by
 have e:y*y-(x*x*x+A*x+B)=1*(1*(1*(c*c-(a*a*a+A*a+B))+(-(x-a))*(b*b+b*a+a*a+A-s*s*(b-a)-2*s*c))+(-((x-a)*(x-b)))*(x-(s*s-(a+b))))+((y-(s*(a-x)-c))-2*(s*(x-a)+c))*(y-(s*(a-x)-c)):=by grind
 rw[e];exact dv2 (dv2 (dv2 h g) f) d
theorem jX(a M:Z):M ∣ a%M-a:=by
 have:=A8 a M;exact⟨-(a/M),by rw[CB];omega⟩
theorem aQo(a M:Z):M ∣ a-a%M:=by
 have:=A8 a M;exact⟨a/M,by omega⟩
theorem aHH{a M:Z}:inB a M=FU↔0<=a/\a<M:=by unfold inB;exact Z4
theorem kP{a b M:Z}:a%M=b%M↔M ∣ a-b:=Int.emod_eq_emod_iff_emod_sub_eq_zero.trans ⟨Int.dvd_of_emod_eq_zero,BR⟩
structure OnP (A B M X Y:Int):Prop where
 x0:0<=X
 x1:X<M
 y0:0<=Y
 y1:Y<M
 eq:M ∣ Y*Y-(X*X*X+A*X+B)
theorem aLg(A B M X:Z):((X*X%M+A)*X%M+B)%M=(X*X*X+A*X+B)%M:=by
 rw[Int.emod_add_emod,kP];have e:(X*X%M+A)*X+B-(X*X*X+A*X+B)=X*(X*X%M-X*X):=by grind
 simp_all [BP,jX]
theorem pJ{A B M X Y:Z}:nT A B M X Y Aa=FU↔cT A B M=FU/\OnP A B M X Y:=by
 unfold nT;rw[Z5,Z3,Z3,Z3,aHH,aHH,Z4,aLg,kP];constructor
 .rintro⟨h,⟨⟨e,d⟩,c,b⟩,a⟩;exact⟨h,e,d,c,b,a⟩
 .rintro⟨h,e,d,c,b,a⟩;exact⟨h,⟨⟨e,d⟩,c,b⟩,a⟩
theorem aMJ{A B M X Y:Z}:nT A B M X Y FU=FU↔cT A B M=FU/\X=0/\Y=0:=by
 grind [nT]
theorem aKX{A B M X Y:Z}{o:N}(h:nT A B M X Y o=FU):cT A B M=FU:=by
 grind [nT]
theorem xX{A B M:Z}:cT A B M=FU↔3<M/\M%2≠0/\(0<=A/\A<M)/\0<=B/\B<M:=by
 grind [cT,BL,aHH]
def TR.fine(A B M:Z):TR->Prop
 |.pt X Y o=>nT A B M X Y o=FU
 |.dv d=>M%d=0/\1<d/\d<M
theorem aYg{D M:Z}(hM:1<M)(h1:gcd D M≠1)(hD:¬M ∣ D):M%(gcd D M:Z)=0/\1<(gcd D M:Z)/\(gcd D M:Z)<M:=by
 have a:(gcd D M:Z) ∣ M:=Int.gcd_dvd_right ..;have hd2:(gcd D M:Z) ∣ D:=Int.gcd_dvd_left ..;have hle:=Int.le_of_dvd (by omega) a
 grind [gcd,Int.gcd_eq_zero_iff,BR]
theorem aSg{A B M a d b f:Z}{k j:N}(l:nT A B M a d k=FU)(m:nT A B M b f j=FU):(aP A M a d k b f j).fine A B M:=by
 have i:=aKX l;obtain⟨hM,_⟩:=xX.1 i;unfold aP;cases k with
 |true=>exact m
 |false =>
  rw[Z5];cases j with
  |true=>exact l
  |false =>
   rw[Z5];obtain⟨_,p0,p1,p2,p3,o⟩:=pJ.1 l;obtain⟨_,q0,q1,q2,q3,q4⟩:=pJ.1 m;cases ho:oD M a d b f with
   |true=>exact aMJ.2 ⟨i,rfl,rfl⟩
   |false =>
    rw[Z5];by_cases g:gcd (qG a d b f) M=1
    .rw[Y0 g,Z6];obtain⟨m1,m2,m3⟩:=aGA (by omega) g;have q:M ∣ nO A M a d b f-(fT A M a d b f*fT A M a d b f-(a+b)):=jX _ _;have p:M ∣ vK A M a d b f-(fT A M a d b f*(a-nO A M a d b f)-d):=jX _ _;have hs:M ∣ fT A M a d b f-slN A a d b f*bU (qG a d b f) M:=jX _ _;have r:M ∣ b*b+b*a+a*a+A-fT A M a d b f*fT A M a d b f*(b-a)-2*fT A M a d b f*d:=by
      grind [qG,slN,bH2,bH3]
     exact pJ.2 ⟨i,AT _ (by omega),AM _ (by omega),AT _ (by omega),AM _ (by omega),bHH o r q p⟩
    .rw[Y1 g,Z5];refine aYg (by omega) g λn=>?_;by_cases e:a=b
     .grind [qG,oD,BR]
     .have s:qG a d b f=b-a:=by unfold qG;simp[e]
      rw[s]at n;obtain⟨c,i⟩:=n;have:c=0:=by
       rcases Int.lt_trichotomy c 0 with h|h|h
       .have:M*c<=M*(-1):=Z7 (by omega) (by omega);omega
       .exact h
       .have:M*1<=M*c:=Z7 (by omega) (by omega);omega
      subst this;omega
theorem bDr{A B M X Y:Z}{o:N}(h:nT A B M X Y o=FU):nT A B M X (aFJ M Y o) o=FU:=by
 cases o with
 |true=>exact h
 |false =>
  obtain⟨a,d,c,p2,p3,b⟩:=pJ.1 h;obtain⟨hM,_⟩:=xX.1 a;refine pJ.2 ⟨a,d,c,AT _ (by omega),AM _ (by omega),?_⟩;have f:M ∣ -Y%M - -Y:=jX _ _;show M ∣ (-Y%M)*(-Y%M)-_;have e:(-Y%M)*(-Y%M)-(X*X*X+A*X+B)=1*(Y*Y-(X*X*X+A*X+B))+((-Y%M)-Y)*(-Y%M - -Y):=by grind
  rw[e];exact dv2 b f
theorem aTj{m a x y:Z}(h:3<m)(g:m%2≠0)(j:0<=a)(d:a<m)(f:0<=x)(c:x<m)(e:0<=y)(b:y<m):nT a (k8 m a x y) m x y Aa=FU:=by
 have i:cT a (k8 m a x y) m=FU:=xX.2 ⟨h,g,⟨j,d⟩,AT _ (by omega),AM _ (by omega)⟩;refine pJ.2 ⟨i,f,c,e,b,?_⟩
 grind [k8,aQo]
def aIU:aG
 |[.big a n,.big m k]=>FP (FP (n<=200000/\k<=200000/\0<m/\gcd a m=1),.ret (.tup [.big (bU a m) k,.int .i64 0]))
 |_=>FQ
theorem bBj(a m:Z)(n k:O):(bif V (dL m<=0)then aD 0 (bU a m) 0 k/\(1:Z)=0/\S else (n<=900000/\k<=900000/\(m=0->U))/\(k<=300000/\k<=300000)/\bif V (m=0)then fY 1/\(k<=1000000/\64<=1000000)/\bif !decide ((P (a%m):Z)=1)then aD 0 (bU a m) 0 k/\(4:Z)=0/\S else (64<=900000/\k<=900000/\(m=0->U))/\aD (dL (a%m)%m) (bU a m) k k/\(0:Z)=0/\S else fY 1/\(k<=1000000/\64<=1000000)/\bif !decide ((gcd (a%m) m:Z)=1)then aD 0 (bU a m) 0 k/\(4:Z)=0/\S else (k<=900000/\k<=900000/\(m=0->U))/\aD (tT (a%m) m%m) (bU a m) k k/\(0:Z)=0/\S)=aJ (aK [eM,eB,aST,cO,fJ] aC) EE [.big a n,.big m k] (AF (.ret (.tup [.big (bU a m) k,.int .i64 0]))):=by kernel_rfl
theorem bEs:bE EE aIU:=by
 intro ms p r h c;unfold aIU at h;split at h
 .rename_i a n m k;cases h;obtain⟨h1,h2,h3,d⟩:=c;refine⟨aK [eM,eB,aST,cO,fJ] aC,?_⟩;rw[<-bBj a m n k];have b:¬dL m<=0:=by unfold dL;rw[X (by omega),X (by omega)];omega
  rw[Y1 b,Z5,Y1 (show ¬m=0 by omega),Z5,aAb,d];exact⟨by omega,by omega,by omega,by omega,by omega,⟨rfl,.inl (Z0 _)⟩,rfl,⟨⟩⟩
 .simp at h
def aSV:Ctr AA:=⟨175,aIU,λargs w=>Tryz.call175 args w,aM bT Tryz.func175 aIU bEs⟩
def aAT:aG
 |[.st [.big A i,.big B j,.big M k]]=>FP (FP (i<=1000/\j<=1000/\k<=1000),.ret (.bool (cT A B M)))
 |_=>FQ
def aPv:aG
 |[.big a n,.big m k]=>FP (FP (n<=1000/\k<=1000),.ret (.bool (inB a m)))
 |_=>FQ
theorem bFQ(a m:Z)(n k:O):(bif V (dL a≥0)then (n<=1000000/\k<=1000000)/\V (aX a m<0)=inB a m else Aa=inB a m)=aJ (aK [eM,iW] aC) ES [.big a n,.big m k] (AF (.ret (.bool (inB a m)))):=by kernel_rfl
theorem aI2{a:Z}:dL a<0↔a<0:=by unfold dL;split<;>(try split)<;>omega
theorem bHq:bE ES aPv:=by
 intro ms p r h b;unfold aPv at h;split at h
 .rename_i a n m k;cases h;obtain⟨h1,h2⟩:=b;refine⟨aK [eM,iW] aC,?_⟩;rw[<-bFQ a m n k]
  grind [inB,dL,aI2,aAe]
 .simp at h
def aN7:Ctr AA:=⟨141,aPv,λargs w=>Tryz.call141 args w,aM bT Tryz.func141 aPv bHq⟩
theorem aRN(A B M:Z)(i j k:O):(fY 3/\(k<=1000000/\64<=1000000)/\bif V (aX M 3<=0)then Aa=cT A B M else fY 2/\(k<=900000/\64<=900000/\((2:Z)=0->U))/\bif dL (M%2)==0 then Aa=cT A B M else (i<=1000/\k<=1000)/\bif inB A M then (j<=1000/\k<=1000)/\inB B M=cT A B M else Aa=cT A B M)=aJ (aK [cO,iW,eB,eM,aN7] aC) E0 [cvM A B M i j k] (AF (.ret (.bool (cT A B M)))):=by kernel_rfl
theorem aUC:bE E0 aAT:=by
 intro ms p r h a;unfold aAT at h;split at h
 .rename_i A i B j M k;cases h;obtain⟨h1,h2,h3⟩:=a;refine⟨aK [cO,iW,eB,eM,aN7] aC,?_⟩;rw[<-aRN A B M i j k]
  grind [cT,aCZ,vJ,inB]
 .simp at h
def zE:Ctr AA:=⟨107,aAT,λargs w=>Tryz.call107 args w,aM bT Tryz.func107 aAT aUC⟩
def aPt:aG
 |[.st [.big A i,.big B j,.big M k],.st [.big X n,.big Y m,.bool o]]=>FP (FP (i<=200/\j<=200/\k<=200/\n<=200/\m<=200),.ret (.bool (nT A B M X Y o)))
 |_=>FQ
theorem bFP(A B M X Y:Z)(o:N)(i j k n m:O):((i<=1000/\j<=1000/\k<=1000)/\bif !cT A B M then Aa=nT A B M X Y o else bif o then bif dL X==0 then (dL Y==0)=nT A B M X Y o else Aa=nT A B M X Y o else (n<=1000/\k<=1000)/\bif inB X M then (m<=1000/\k<=1000)/\bif inB Y M then (m<=1000000/\m<=1000000)/\(m+m<=900000/\k<=900000/\(M=0->U))/\(i<=200/\j<=200/\k<=200/\n<=200/\0<M)/\(k<=1000000/\k<=1000000)/\V (Y*Y%M=aBM A B M X)=nT A B M X Y o else Aa=nT A B M X Y o else Aa=nT A B M X Y o)=aJ (aK [zE,eM,aN7,eV,eB,aNJ,fJ] aC) EZ [cvM A B M i j k,qD X Y o n m] (AF (.ret (.bool (nT A B M X Y o)))):=by kernel_rfl
theorem aRj(A B M X:Z):aBM A B M X=((X*X%M+A)*X%M+B)%M:=by
 grind [aLg,aBM,A0]
theorem bHp:bE EZ aPt:=by
 intro ms p r h a;unfold aPt at h;split at h
 .rename_i A i B j M k X n Y m o;cases h;obtain⟨h1,h2,h3,h4,h5⟩:=a;refine⟨aK [zE,eM,aN7,eV,eB,aNJ,fJ] aC,?_⟩;rw[<-bFP A B M X Y o i j k n m]
  grind [nT,cT,BL,AO,vJ,inB,aRj]
 .simp at h
def aN4:Ctr AA:=⟨108,aPt,λargs w=>Tryz.call108 args w,aM bT Tryz.func108 aPt bHp⟩
def aAQ:aG
 |[.st [.big _ i,.big _ j,.big M k],.st [.big X n,.big Y m,.bool o]]=>FP (FP (i<=200/\j<=200/\k<=200/\n<=200/\m<=200/\0<M),.ret (qD X (aFJ M Y o) o 200 200))
 |_=>FQ
theorem aRJ(A B M X Y:Z)(o:N)(i j k n m:O):(bif o then aD X X n 200/\aD Y (aFJ M Y o) m 200/\o=o/\S else m<=1000000/\(m<=900000/\k<=900000/\(M=0->U))/\aD X X n 200/\aD (-Y%M) (aFJ M Y o) k 200/\Aa=o/\S)=aJ (aK [uD,eB] aC) EQ [cvM A B M i j k,qD X Y o n m] (AF (.ret (qD X (aFJ M Y o) o 200 200))):=by kernel_rfl
theorem aUy:bE EQ aAQ:=by
 intro ms p r h a;unfold aAQ at h;split at h
 .rename_i A i B j M k X n Y m o;cases h;obtain⟨h1,h2,h3,h4,h5,h6⟩:=a;refine⟨aK [uD,eB] aC,?_⟩;rw[<-aRJ A B M X Y o i j k n m];cases o with
  |true=>exact⟨⟨rfl,.inl (by omega)⟩,⟨rfl,.inl (by omega)⟩,rfl,⟨⟩⟩
  |false=>exact⟨by omega,by omega,⟨rfl,.inl (by omega)⟩,⟨rfl,.inl (by omega)⟩,rfl,⟨⟩⟩
 .simp at h
def aJL:Ctr AA:=⟨143,aAQ,λargs w=>Tryz.call143 args w,aM bT Tryz.func143 aAQ aUy⟩
def aAP:aG
 |[.st [.big A i,.big _ j,.big M k],.st [.big e n,.big d m,.bool f],.st [.big b n',.big a m',.bool c]] =>
  FP (FP (i<=200/\j<=200/\k<=200/\n<=200/\m<=200/\n'<=200/\m'<=200/\0<M),.ret (aVM (aP A M e d f b a c).rs))
 |_=>FQ
theorem aRI(A B M b c f e:Z)(h g:N)(i j k n m n' m':O)(a:_)(l:a=(aP A M b c h f e g)):(bif h then (aD f (TR.X a) n' 200/\aD e (TR.Y a) m' 200/\g=TR.o a/\S)/\aD 0 (TR.d a) 0 200/\(0=bif TR.ok a then (0:Z)else (6:Z))/\S else bif g then (aD b (TR.X a) n 200/\aD c (TR.Y a) m 200/\h=TR.o a/\S)/\aD 0 (TR.d a) 0 200/\(0=bif TR.ok a then (0:Z)else (6:Z))/\S else (n'<=1000000/\n<=1000000)/\(m'<=1000000/\m<=1000000)/\(n<=1000000/\n'<=1000000)/\bif V (b=f)then (m<=1000000/\m'<=1000000)/\(max m m'+1<=900000/\k<=900000/\(M=0->U))/\bif dL ((c+e)%M)==0 then (aD 0 (TR.X a) 0 200/\aD 0 (TR.Y a) 0 200/\FU=TR.o a/\S)/\aD 0 (TR.d a) 0 200/\(0=bif TR.ok a then (0:Z)else (6:Z))/\S else fY 3/\(n<=1000000/\n<=1000000)/\(64<=1000000/\n+n<=1000000)/\(64+(n+n)<=1000000/\i<=1000000)/\(max m m'+1<=900000/\k<=900000)/\fY 1/\(max (max m m'+1) k<=1000000/\64<=1000000)/\bif !decide ((gcd (c+e) M:Z)=1)then (aD 0 (TR.X a) 0 200/\aD 0 (TR.Y a) 0 200/\Aa=TR.o a/\S)/\aD (gcd (c+e) M:Z) (TR.d a) (max (max m m'+1) k) 200/\(6=bif TR.ok a then (0:Z)else (6:Z))/\S else (max m m'+1<=200000/\k<=200000/\0<M/\gcd (c+e) M=1)/\(max (64+(n+n)) i+1<=1000000/\k<=1000000)/\(max (64+(n+n)) i+1+k<=1000000/\max (64+(n+n)) i+1+k<=1000000)/\(n<=1000000/\n'<=1000000)/\(max (64+(n+n)) i+1+k+(max (64+(n+n)) i+1+k)<=1000000/\max n n'+1<=1000000)/\(max (max (64+(n+n)) i+1+k+(max (64+(n+n)) i+1+k)) (max n n'+1)+1<=900000/\k<=900000/\(M=0->U))/\(n<=1000000/\k<=1000000)/\(max (64+(n+n)) i+1+k<=1000000/\max n k+1<=1000000)/\(max (64+(n+n)) i+1+k+(max n k+1)<=1000000/\m<=1000000)/\(max (max (64+(n+n)) i+1+k+(max n k+1)) m+1<=900000/\k<=900000/\(M=0->U))/\(aD (((3*(b*b)+A)*bU (c+e) M*((3*(b*b)+A)*bU (c+e) M)-(b+f))%M) (TR.X a) k 200/\aD (((3*(b*b)+A)*bU (c+e) M*(b-((3*(b*b)+A)*bU (c+e) M*((3*(b*b)+A)*bU (c+e) M)-(b+f))%M)-c)%M) (TR.Y a) k 200/\Aa=TR.o a/\S)/\aD 0 (TR.d a) 0 200/\(0=bif TR.ok a then (0:Z)else (6:Z))/\S else (max n' n+1<=900000/\k<=900000)/\fY 1/\(max (max n' n+1) k<=1000000/\64<=1000000)/\bif !decide ((gcd (f-b) M:Z)=1)then (aD 0 (TR.X a) 0 200/\aD 0 (TR.Y a) 0 200/\Aa=TR.o a/\S)/\aD (gcd (f-b) M:Z) (TR.d a) (max (max n' n+1) k) 200/\(6=bif TR.ok a then (0:Z)else (6:Z))/\S else (max n' n+1<=200000/\k<=200000/\0<M/\gcd (f-b) M=1)/\(max m' m+1<=1000000/\k<=1000000)/\(max m' m+1+k<=1000000/\max m' m+1+k<=1000000)/\(n<=1000000/\n'<=1000000)/\(max m' m+1+k+(max m' m+1+k)<=1000000/\max n n'+1<=1000000)/\(max (max m' m+1+k+(max m' m+1+k)) (max n n'+1)+1<=900000/\k<=900000/\(M=0->U))/\(n<=1000000/\k<=1000000)/\(max m' m+1+k<=1000000/\max n k+1<=1000000)/\(max m' m+1+k+(max n k+1)<=1000000/\m<=1000000)/\(max (max m' m+1+k+(max n k+1)) m+1<=900000/\k<=900000/\(M=0->U))/\(aD (((e-c)*bU (f-b) M*((e-c)*bU (f-b) M)-(b+f))%M) (TR.X a) k 200/\aD (((e-c)*bU (f-b) M*(b-((e-c)*bU (f-b) M*((e-c)*bU (f-b) M)-(b+f))%M)-c)%M) (TR.Y a) k 200/\Aa=TR.o a/\S)/\aD 0 (TR.d a) 0 200/\(0=bif TR.ok a then (0:Z)else (6:Z))/\S)=aJ (aK [k6,fJ,gL,eM,eB,eV,cO,aBf,aSV] aC) EP [cvM A B M i j k,qD b c h n m,qD f e g n' m'] (AF (.ret (aVM (aP A M b c h f e g).rs))):=by subst l;kernel_rfl
theorem aI7(s u M:Z):(s%M*(s%M)-u)%M=(s*s-u)%M:=by
 simp_all [BF,BG]
theorem aOJ(s u v M:Z):(s%M*u-v)%M=(s*u-v)%M:=by
 simp_all [BF,BG,BX,CK]
theorem aUx:eD EP aAP:=by
 intro ms p r h I K;unfold aAP at h;split at h
 .rename_i A i B j M k q n l m C t n' g m' z;cases h;obtain⟨y,H,v,F,O,N,L,E⟩:=I;refine⟨aK [k6,fJ,gL,eM,eB,eV,cO,aBf,aSV] aC,?_⟩;rw[<-aRI A B M q l t g C z i j k n m n' m' _ rfl];generalize f:aP A M q l C t g z=R;unfold aP at f;have pt:∀ {X Y X' Y':Z} {o:Bool} {a b:F0},TR.pt X' Y' o=R->X=X'->Y=Y'->a<=200->b<=200->((X=R.X/\(a<=200\/X.natAbs<2^200))/\(Y=R.Y/\(b<=200\/Y.natAbs<2^200))/\o=R.o/\S)/\((0:Z)=R.d/\(0<=200\/P 0<2^200))/\((0:Z)=bif R.ok then 0 else 6)/\S:=by
   rintro X Y X' Y' o a b rfl y H v F
   exact⟨⟨⟨y,.inl v⟩,⟨H,.inl F⟩,rfl,⟨⟩⟩,⟨rfl,.inl (Z9 _)⟩,rfl,⟨⟩⟩
  have dv:∀ {d:Z} {a:F0},TR.dv d=R->a<=200\/d.natAbs<2^200->(((0:Z)=R.X/\(0<=200\/P 0<2^200))/\((0:Z)=R.Y/\(0<=200\/P 0<2^200))/\Aa=R.o/\S)/\(d=R.d/\(a<=200\/d.natAbs<2^200))/\((6:Z)=bif R.ok then 0 else 6)/\S:=by
   rintro d a rfl y
   exact⟨⟨⟨rfl,.inl (Z9 _)⟩,⟨rfl,.inl (Z9 _)⟩,rfl,⟨⟩⟩,⟨rfl,y⟩,rfl,⟨⟩⟩
  have J:M.natAbs<2^k:=K.1.2.2.1;have G:∀(d:Z) (a:F0),a<=200\/(gcd d M:Z).natAbs<2^200:=λd a=>.inr (by
   have:=aAa (a:=d) E J;have:=AN (n:=2) (by omega) v;omega)
  cases C with
  |true=>rw[Z6]at f;exact pt f rfl rfl N L
  |false =>
   rw[Z5]at f;rw[Z5];cases z with
   |true=>rw[Z6]at f;exact pt f rfl rfl F O
   |false =>
    rw[Z5]at f;rw[Z5];refine⟨by omega,by omega,by omega,?_⟩;by_cases e:q=t
    .have u:qG q l t g=l+g:=by unfold qG;rw[Y0 e];rfl
     have w:slN A q l t g=3*(q*q)+A:=by unfold slN;rw[Y0 e];rfl
     have D:oD M q l t g=V ((l+g)%M=0):=by unfold oD;rw[Y0 e,AB]
     rw[D,u]at f;rw[Y0 e,Z6];refine⟨by omega,by omega,?_⟩;rw[aHk (c:=(l+g)%M=0) vJ];by_cases x:(l+g)%M=0
     .rw[Y0 x,Z6]at f;rw[Y0 x,Z6];exact pt f rfl rfl (Z9 _) (Z9 _)
     .rw[Y1 x,Z5]at f;rw[Y1 x,Z5];refine⟨by omega,by omega,by omega,by omega,by omega,by omega,by omega,?_⟩;by_cases s:gcd (l+g) M=1
      .rw[Y0 s,Z6]at f;rw[Y0 (show(gcd (l+g) M:Z)=1 by omega),AO,Z5];refine⟨⟨by omega,by omega,E,s⟩,by omega,by omega,by omega,by omega,by omega,by omega,by omega,by omega,by omega,pt f ?_ ?_ v v⟩
       .unfold nO fT;rw[u,w,aI7]
       .unfold vK nO fT;rw[u,w,aI7,aOJ]
      .rw[Y1 s,Z5]at f;rw[Y1 (show ¬(gcd (l+g) M:Z)=1 by omega),BH,Z6];exact dv f (G _ _)
    .have u:qG q l t g=t-q:=by unfold qG;rw[Y1 e];rfl
     have w:slN A q l t g=g-l:=by unfold slN;rw[Y1 e];rfl
     have D:oD M q l t g=Aa:=by unfold oD;rw[Y1 e,AH]
     rw[D,u,Z5]at f;rw[Y1 e,Z5];refine⟨by omega,by omega,by omega,?_⟩;by_cases s:gcd (t-q) M=1
     .rw[Y0 s,Z6]at f;rw[Y0 (show(gcd (t-q) M:Z)=1 by omega),AO,Z5];refine⟨⟨by omega,by omega,E,s⟩,by omega,by omega,by omega,by omega,by omega,by omega,by omega,by omega,by omega,pt f ?_ ?_ v v⟩
      .unfold nO fT;rw[u,w,aI7]
      .unfold vK nO fT;rw[u,w,aI7,aOJ]
     .rw[Y1 s,Z5]at f;rw[Y1 (show ¬(gcd (t-q) M:Z)=1 by omega),BH,Z6];exact dv f (G _ _)
 .simp at h
def aJK:Ctr AA:=⟨144,aAP,λargs w=>Tryz.call144 args w,aO bT Tryz.func144 aAP aUx⟩
def xE(z M a:Z)(b:N):Z:=cond (V (z<0)) (aFJ M a b) a
def bIz(z A B M c b:Z)(a:N)(t i j k:O):MS :=
 ⟨64, [(3,.bp 0 0),(4,.bp 1 0),(5,.bp 2 0),(6,.bp 3 0)],
  [⟨Aa,.one (cvM A B M i j k)⟩,⟨Aa,.one (.big z.natAbs t)⟩,⟨Aa,.one (qD c (xE z M b a) a 200 200)⟩,⟨Aa,.one (.st [qD 0 0 Aa 0 0,.big 0 0,.int .i64 0])⟩],0⟩
def rtS(z A B M c b:Z)(a:N)(t i j k:O)(q:TmI):MS :=
 ⟨64, [(3,.bp 0 0),(4,.bp 1 0),(5,.bp 2 0),(6,.bp 3 0),(7,.bp 4 0),(8,.int .i64 ((q.1:Z)-1))],
  [⟨Aa,.one (cvM A B M i j k)⟩,⟨Aa,.one (.big z.natAbs t)⟩,⟨Aa,.one (qD c (xE z M b a) a 200 200)⟩,⟨Aa,.one (.st [qD 0 0 Aa 0 0,.big 0 0,.int .i64 0])⟩,
   ⟨Aa,.one (.st [qD q.2.1 q.2.2.1 q.2.2.2 200 200,.big 0 200,.int .i64 0])⟩],0⟩
def bCd(z A B M b a:Z)(c:N)(t i j k:O):O->MS->G CutAnn
 |6,_=>FP (.mk N (λu=>u=FU/\0<M) (λ_=>bIz z A B M b a c t i j k))
 |_,_=>FQ
def aJv(z A B M c b:Z)(a:N)(t i j k:O):O->MS->G LoopAnn
 |8,_=>FP (.inv TmI (λq=>q.1<=bl z.natAbs/\cM A M (.pt c (xE z M b a) a) (z.natAbs/2^q.1)= .pt q.2.1 q.2.2.1 q.2.2.2) (rtS z A B M c b a t i j k) (λq=>q.1))
 |_,_=>FQ
theorem aRM(A B M z c q:Z)(b:N)(t i j k n m:O)(a:_)(C:a=(bI A B M z c q b))(g:_)(x:g=(xE z M q b))(l:_)(w:l=λ(i_2:TmI)=>(AE (AE i_2)))(h:_)(v:h=(P z:Z))(s:_)(u:s=λ(i_2:TmI)=>(AD (AE i_2)))(f:_)(E:f=λ(i_2:TmI)=>(aP A M (s i_2) (AD (l i_2)) (AE (l i_2)) (s i_2) (AD (l i_2)) (AE (l i_2))))(p:_)(D:p=λ(i_2:TmI)=>(aP A M (TR.X (f i_2)) (TR.Y (f i_2)) (TR.o (f i_2)) c g b))(r:_)(y:r=λ(i_2:TmI)=>(bif TR.ok (f i_2)then (0:Z)else (6:Z))):((i<=200/\j<=200/\k<=200/\n<=200/\m<=200)/\bif !nT A B M c q b then (aD 0 (RS.X a) 0 200/\aD 0 (RS.Y a) 0 200/\Aa=RS.o a/\S)/\aD 0 (RS.d a) 0 200/\1=RS.e a/\S else (bif V (dL z<0)then (i<=200/\j<=200/\k<=200/\n<=200/\m<=200/\0<M)/\t<=1000000/\∃i_1,(i_1=FU/\0<M)/\(0=0/\0=0/\0=0/\0=0/\S)/\(aD A A i i/\aD B B j j/\aD M M k k/\S)/\aD (-z) h t t/\(aD c c 200 200/\aD (aFJ M q b) g 200 200/\b=b/\S)/\((aD 0 0 0 0/\aD 0 0 0 0/\Aa=Aa/\S)/\aD 0 0 0 0/\(0:Z)=0/\S)/\S else ∃i_1,(i_1=FU/\0<M)/\(0=0/\0=0/\0=0/\0=0/\S)/\(aD A A i i/\aD B B j j/\aD M M k k/\S)/\aD z h t t/\(aD c c n 200/\aD q g m 200/\b=b/\S)/\((aD 0 0 0 0/\aD 0 0 0 0/\Aa=Aa/\S)/\aD 0 0 0 0/\(0:Z)=0/\S)/\S)/\∀(i_1:N),i_1=FU/\0<M->t<=1000000/\(∃i_2,(AD i_2<=bl (P z)/\cM A M (TR.pt c g b) (P z/2^AD i_2)=TR.pt (s i_2) (AD (l i_2)) (AE (l i_2)))/\(0=0/\0=0/\0=0/\0=0/\0=0/\Q FT ((bl (P h):Z)-1)=(↑(AD i_2):Z)-1/\S)/\(aD A A i i/\aD B B j j/\aD M M k k/\S)/\aD h h t t/\(aD c c 200 200/\aD g g 200 200/\b=b/\S)/\((aD 0 0 0 0/\aD 0 0 0 0/\Aa=Aa/\S)/\aD 0 0 0 0/\(0:Z)=0/\S)/\((aD 0 (s i_2) 0 200/\aD 0 (AD (l i_2)) 0 200/\FU=AE (l i_2)/\S)/\aD 0 0 0 200/\(0:Z)=0/\S)/\S)/\∀(i_2:TmI),AD i_2<=bl (P z)/\cM A M (TR.pt c g b) (P z/2^AD i_2)=TR.pt (s i_2) (AD (l i_2)) (AE (l i_2))->bif V ((↑(AD i_2):Z)-1≥0)then (i<=200/\j<=200/\k<=200/\200<=200/\200<=200/\200<=200/\200<=200/\0<M)/\bif (r i_2) ==0 then ((32:Z)=0->U)/\(0<=Q FT (F3 ((↑(AD i_2):Z)-1) 32)/\Q FT (F3 ((↑(AD i_2):Z)-1) 32)<(H (aA (P h)):Z))/\((32:Z)=0->U)/\0<=Q F4 (T ((↑(AD i_2):Z)-1) 32)/\bif Q FR (AI (R (AC FR) (fdiv (J (aA (P h)) (I (Q FT (F3 ((↑(AD i_2):Z)-1) 32))) 0) ((2:Z)^min (I (Q F4 (T ((↑(AD i_2):Z)-1) 32))) (AC FR))) &&&R (AC FR) 1):Z)==1 then (i<=200/\j<=200/\k<=200/\200<=200/\200<=200/\200<=200/\200<=200/\0<M)/\bif (bif TR.ok (p i_2)then (0:Z)else (6:Z)) != 0 then (aD (TR.X (p i_2)) (RS.X a) 200 200/\aD (TR.Y (p i_2)) (RS.Y a) 200 200/\TR.o (p i_2) =RS.o a/\S)/\aD (TR.d (p i_2)) (RS.d a) 200 200/\(bif TR.ok (p i_2)then (0:Z)else (6:Z))=RS.e a/\S else ∃j_1,(AD j_1<=bl (P z)/\cM A M (TR.pt c g b) (P z/2^AD j_1)=TR.pt (AD (AE j_1)) (AD (AE (AE j_1))) (AE (AE (AE j_1))))/\((0=0/\0=0/\0=0/\0=0/\0=0/\Q FT ((↑(AD i_2):Z)-1-1)=(↑(AD j_1):Z)-1/\S)/\(aD A A i i/\aD B B j j/\aD M M k k/\S)/\aD h h t t/\(aD c c 200 200/\aD g g 200 200/\b=b/\S)/\((aD 0 0 0 0/\aD 0 0 0 0/\Aa=Aa/\S)/\aD 0 0 0 0/\(0:Z)=0/\S)/\((aD (TR.X (p i_2)) (AD (AE j_1)) 200 200/\aD (TR.Y (p i_2)) (AD (AE (AE j_1))) 200 200/\TR.o (p i_2) =AE (AE (AE j_1))/\S)/\aD (TR.d (p i_2)) 0 200 200/\(bif TR.ok (p i_2)then (0:Z)else (6:Z))=0/\S)/\S)/\AD j_1<AD i_2 else bif (r i_2) != 0 then (aD (TR.X (f i_2)) (RS.X a) 200 200/\aD (TR.Y (f i_2)) (RS.Y a) 200 200/\TR.o (f i_2) =RS.o a/\S)/\aD (TR.d (f i_2)) (RS.d a) 200 200/\(r i_2) =RS.e a/\S else ∃j_1,(AD j_1<=bl (P z)/\cM A M (TR.pt c g b) (P z/2^AD j_1)=TR.pt (AD (AE j_1)) (AD (AE (AE j_1))) (AE (AE (AE j_1))))/\((0=0/\0=0/\0=0/\0=0/\0=0/\Q FT ((↑(AD i_2):Z)-1-1)=(↑(AD j_1):Z)-1/\S)/\(aD A A i i/\aD B B j j/\aD M M k k/\S)/\aD h h t t/\(aD c c 200 200/\aD g g 200 200/\b=b/\S)/\((aD 0 0 0 0/\aD 0 0 0 0/\Aa=Aa/\S)/\aD 0 0 0 0/\(0:Z)=0/\S)/\((aD (TR.X (f i_2)) (AD (AE j_1)) 200 200/\aD (TR.Y (f i_2)) (AD (AE (AE j_1))) 200 200/\TR.o (f i_2) =AE (AE (AE j_1))/\S)/\aD (TR.d (f i_2)) 0 200 200/\(r i_2) =0/\S)/\S)/\AD j_1<AD i_2 else bif (r i_2) != 0 then (aD (TR.X (f i_2)) (RS.X a) 200 200/\aD (TR.Y (f i_2)) (RS.Y a) 200 200/\TR.o (f i_2) =RS.o a/\S)/\aD (TR.d (f i_2)) (RS.d a) 200 200/\(r i_2) =RS.e a/\S else ∃j_1,(AD j_1<=bl (P z)/\cM A M (TR.pt c g b) (P z/2^AD j_1)=TR.pt (AD (AE j_1)) (AD (AE (AE j_1))) (AE (AE (AE j_1))))/\((0=0/\0=0/\0=0/\0=0/\0=0/\Q FT ((↑(AD i_2):Z)-1-1)=(↑(AD j_1):Z)-1/\S)/\(aD A A i i/\aD B B j j/\aD M M k k/\S)/\aD h h t t/\(aD c c 200 200/\aD g g 200 200/\b=b/\S)/\((aD 0 0 0 0/\aD 0 0 0 0/\Aa=Aa/\S)/\aD 0 0 0 0/\(0:Z)=0/\S)/\((aD (TR.X (f i_2)) (AD (AE j_1)) 200 200/\aD (TR.Y (f i_2)) (AD (AE (AE j_1))) 200 200/\TR.o (f i_2) =AE (AE (AE j_1))/\S)/\aD (TR.d (f i_2)) 0 200 200/\(r i_2) =0/\S)/\S)/\AD j_1<AD i_2 else (aD (s i_2) (RS.X a) 200 200/\aD (AD (l i_2)) (RS.Y a) 200 200/\AE (l i_2) =RS.o a/\S)/\aD 0 (RS.d a) 200 200/\0=RS.e a/\S)=aJ (aJ5 [aN4,eM,aJL,uD,pV,aJK] (aJv z A B M c q b t i j k) (bCd z A B M c q b t i j k)) EY [cvM A B M i j k,.big z t,qD c q b n m] (AF (.ret (aVM (bI A B M z c q b)))):=by subst C x w v u E D y;kernel_rfl
theorem b00:((0:Z)==0)=FU:=rfl
theorem b60:((6:Z)==0)=Aa:=rfl
theorem n00:((0:Z) != 0)=Aa:=rfl
theorem n60:((6:Z) != 0)=FU:=rfl
theorem aUB:eD EY vF:=by
 intro ms p r h S T;unfold vF at h;split at h
 .rename_i A i B j M k z t f n v m a;cases h;obtain⟨h1,h2,h3,h4,h5,h6⟩:=S;refine⟨aJ5 [aN4,eM,aJL,uD,pV,aJK] (aJv z A B M f v a t i j k) (bCd z A B M f v a t i j k),?_⟩;rw[<-aRM A B M z f v a t i j k n m _ rfl _ rfl _ rfl _ rfl _ rfl _ rfl _ rfl _ rfl];have K:z.natAbs<2^t:=T.2.1;refine⟨by omega,?_⟩;generalize g:bI A B M z f v a=R;unfold bI at g;cases F:nT A B M f v a with
  |false =>
   rw[F,Z5]at g;subst g;exact⟨⟨⟨rfl,.inl (by omega)⟩,⟨rfl,.inl (by omega)⟩,rfl,⟨⟩⟩,⟨rfl,.inl (by omega)⟩,rfl,⟨⟩⟩
  |true =>
   rw[F,Z6]at g;have hM:=aO2 F;rw[AO,Z5];refine⟨?_,?_⟩
   .by_cases L:z<0
    .rw[Y0 (aI2.2 L),Z6];refine⟨by omega,by omega,FU,⟨rfl,by omega⟩,?_⟩
     grind [aFJ,xE]
    .rw[Y1 (λh=>L (aI2.1 h)),Z5];refine⟨FU,⟨rfl,by omega⟩,?_⟩
     grind [xE]
   .rintro u ⟨_,hM0⟩
    have I:bl z.natAbs<=t:=dN K;have G:=kY z.natAbs;have H:=mZ z.natAbs;have g:(cM A M (.pt f (xE z M v a) a) z.natAbs).rs=R:=g;simp only[AL];generalize z.natAbs=N at K I G H g⊢;generalize xE z M v a=q at g⊢;refine⟨by omega,⟨(bl N,0,0,FU),?_⟩,?_⟩
    .grind [cM,bl,BA,rL,aT]
    .rintro⟨b,X,Y,o⟩ ⟨w,l⟩
     have w:b<=bl N:=w;have l:cM A M (.pt f q a) (N/2^b)= .pt X Y o:=l;dsimp only;rw[AS];split
     .rename_i U;obtain⟨c,rfl⟩:∃c,b=c+1:=⟨b-1,by omega⟩;have e1:((c+1:F0):F2)-1=(c:F0):=by omega
      have e2:F3 (c:F2) 32=((c/32:F0):F2):=rfl;have e3:tmod (c:F2) 32=((c%32:F0):F2):=rfl;have e4:FV FT ((c/32:F0):F2)=((c/32:F0):F2):=aT (by omega) (by omega);have Z:FV FT ((c:F0)-1:F2)=(c:F0)-1:=aT (by omega) (by omega);have V:FV F4 ((c%32:F0):F2)=((c%32:F0):F2):=by rw[l8];omega
      have e6:(2:F0)^c<=N:=by
       have x:N≠0:=by intro e;subst e;rw[rY]at w;omega
       exact CG (AN (by omega) (by omega)) (xH x)
      have x:N/2^c≠0:=by
       simp_all
      have W:N/2^c/2=N/2^(c+1):=by rw[AR,<-AZ]
      have s:cM A M (.pt f q a) (N/2^c)=cond (FW (N/2^c%2=1)) (gA A M (aP A M X Y o X Y o) (.pt f q a)) (aP A M X Y o X Y o):=by
       rw[uV x,W,l];rfl
      have hidx:c/32<(aA N).length:=by
       rcases CF (c/32) (aA N).length with h|h
       .exact h
       .exfalso;have h8:4294967296^(aA N).length<=2^c:=by
         rw[jK];exact AN (by omega) (by omega)
        omega
      have D:=t5 N c;simp only[e1,e2,e3,e4,Z,V,Z8,D];refine⟨by omega,?_⟩;cases P:aP A M X Y o X Y o with
      |dv d =>
       simp only[TR.ok,TR.X,TR.Y,TR.o,TR.d,Z5,b60,n60,Z6];have y:cM A M (.pt f q a) N= .dv d:=uU c (by rw[s,P];cases FW (N/2^c%2=1)<;>rfl);rw[y]at g;subst g;exact⟨⟨⟨rfl,.inl (Z0 _)⟩,⟨rfl,.inl (Z0 _)⟩,rfl,⟨⟩⟩,⟨rfl,.inl (Z0 _)⟩,rfl,⟨⟩⟩
      |pt X2 Y2 E =>
       simp only[TR.ok,TR.X,TR.Y,TR.o,TR.d,Z6,b00,n00,Z5];refine⟨by omega,by omega,by omega,by omega,?_⟩;rw[P]at s;cases O:FW (N/2^c%2=1)with
       |false =>
        rw[O,Z5]at s;rw[Z5];refine⟨(c,X2,Y2,E),⟨by dsimp only;omega,s⟩,?_,by dsimp only;omega⟩
        grind
       |true =>
        rw[O,Z6]at s;rw[Z6];refine⟨by omega,?_⟩;have s:cM A M (.pt f q a) (N/2^c)=aP A M X2 Y2 E f q a:=s;cases C:aP A M X2 Y2 E f q a with
        |dv d =>
         simp only[Z5,n60,Z6];have y:cM A M (.pt f q a) N= .dv d:=uU c (by rw[s,C]);rw[y]at g;subst g;exact⟨⟨⟨rfl,.inl (Z0 _)⟩,⟨rfl,.inl (Z0 _)⟩,rfl,⟨⟩⟩,⟨rfl,.inl (Z0 _)⟩,rfl,⟨⟩⟩
        |pt X3 Y3 Q =>
         simp only[Z6,n00,Z5];refine⟨(c,X3,Y3,Q),⟨by dsimp only;omega,s.trans C⟩,?_,by dsimp only;omega⟩
         grind
     .rename_i U;have J:b=0:=by omega
      subst J;have l:cM A M (.pt f q a) N= .pt X Y o:=by simpa using l
      rw[l]at g;subst g;exact⟨⟨⟨rfl,.inl (Z0 _)⟩,⟨rfl,.inl (Z0 _)⟩,rfl,⟨⟩⟩,⟨rfl,.inl (Z0 _)⟩,rfl,⟨⟩⟩
 .simp at h
def aSX:Ctr AA:=⟨109,vF,λargs w=>Tryz.call109 args w,aO bT Tryz.func109 vF aUB⟩
def bJ(l:K Z):O->MV:=λi=>.int .i64 (l.getD i 0)
def mvI:MV->Z
 |.int _ z=>z
 |_=>0
def iY(n:O)(f:O->MV):K Z:=(CR n).map λi=>mvI (f i)
theorem iE(l:K Z):iY l.length (bJ l)=l:=by
 refine CA (by simp[iY]) λi h1 a=>?_;simp[iY,bJ,mvI,a]
def p6(z:Z):N:=decide (-9223372036854775808<=z)&&V (z<9223372036854775808)
def uR(z:Z):Z:=cond (p6 z) z 0
theorem rE{z:Z}:p6 z=FU↔ -9223372036854775808<=z/\z<9223372036854775808:=by
 grind [p6]
theorem aAo{z v:Z}{b:N}(h: -9223372036854775808<=z/\z<9223372036854775808)(hv:v=z)(hb:b=FU):v=uR z/\b=p6 z:=by
 grind [rE,uR]
theorem aBC{z:Z}(h:¬(-9223372036854775808<=z/\z<9223372036854775808)):0=uR z/\Aa=p6 z:=by
 grind [p6,rE,uR]
theorem bB3{x:Z}(h:9223372036854775808<=x)(k:x<18446744073709551616):Q FT x=x-18446744073709551616:=by
 show(if (FU&&V (x%18446744073709551616≥9223372036854775808))=FU then x%18446744073709551616-18446744073709551616 else x%18446744073709551616)=_
 grind
def aBO:aG
 |[.big z _]=>FP (FQ,.ret (.tup [.int .i64 (uR z),.bool (p6 z)]))
 |_=>FQ
noncomputable def aTV:Code:=bCx (aGc 3 (aB0 BT))
def lwT(z:Z)(n:O):MS:=⟨38, [(1,.bp 0 0),(4,.bp 1 0)], [⟨Aa,.one (.big z n)⟩,⟨Aa,.one (.int .u64 0)⟩],0⟩
theorem aV6(z:Z)(n:O)(v:Z)(b:N):(bif V ((H (aA (P z)):Z)>2)then 0=v/\Aa=b/\S else U)=aJ (aK [] aC) BT [.big z n] (AF (.ret (.tup [.int .i64 v,.bool b]))):=by kernel_rfl
def aOO:K Oper:=bBN (aGc 3 (aB0 BT))
theorem aV7(z:Z)(n:O):(bif V ((↑(H (aA (P z))):Z)>2)then U else ((0:O)=0/\(0:O)=0/\S)/\aD z z n n/\(0:Z)=0/\S)=rC (aK [] aC) (λ_=>U) 3 (aB0 BT) ⟨38,dT 0 [.big z n], [],0⟩ (λs=>yD s (lwT z n)):=by kernel_rfl
theorem aV8(v x:Z):((0:Z)<=32/\S/\aD 0 0 0 0/\Q F4 (↑(AI (R (AC F4) (Q F4 (v*2^min (I (32:Z)) (AC F4))) |||ofInt (AC F4) (Q F4 x))):Z)=vst v x/\S)=eG (aK [] aC) aOO (λ_=>U) aOO (aAn 38 v [(4,.bp 1 0),(6,.int .u32 x)]) (λs'=>yD s' (aAn 38 (vst v x) [])):=by kernel_rfl
theorem aV9(z V:Z)(n:O)(v:Z)(b:N):(bif f (z<0)then bif Q FT ((0:Z)-Q FT V) != 0 then bif !decide (z<0)==f (Q FT ((0:Z)-Q FT V)<0)then (0:Z)=v/\Aa=b else Q FT ((0:Z)-Q FT V)=v/\FU=b else Q FT ((0:Z)-Q FT V)=v/\FU=b else bif Q FT V != 0 then bif !decide (z<0)==f (Q FT V<0)then (0:Z)=v/\Aa=b else Q FT V=v/\FU=b else Q FT V=v/\FU=b)=bG (aK [] aC) (λ_=>U) aTV (aCB 38 z V n) (aEv λs=>lO 0 (aW 2 s.tm) (.int .i64 v)/\lO 0 (aW 3 s.tm) (.bool b)):=by kernel_rfl
def aMX:aG
 |[.big z _]=>FP (FP (18446744073709551616<=z.natAbs),.ret (.tup [.int .i64 0,.bool Aa]))
 |_=>FQ
theorem bDO:bE BT aMX:=by
 intro ms p r h a;unfold aMX at h;split at h
 .rename_i z n;cases h;refine⟨aK [] aC,?_⟩;rw[<-aV6 z n];have h2:=aAj z.natAbs;have a:18446744073709551616<=z.natAbs:=a
  grind
 .simp at h
theorem aTW(v x:Z):eG (aK [] aC) aOO (λ_=>U) aOO (aAn 38 v [(4,.bp 1 0),(6,.int .u32 x)]) (λs'=>yD s' (aAn 38 (vst v x) [])):=by
 rw[<-aV8 v x];exact⟨by decide,⟨⟩,⟨rfl,.inl (Z0 _)⟩,rfl,⟨⟩⟩
set_option maxRecDepth 100000 in
set_option maxHeartbeats 2000000 in
theorem bDl(z:Z)(n:O)(v:Z)(b:N)(o:(aA z.natAbs).length<=2)(y:bG (aK [] aC) (λ_=>U) aTV (aCB 38 z (wv (aA z.natAbs)) n) (aEv λs=>lO 0 (aW 2 s.tm) (.int .i64 v)/\lO 0 (aW 3 s.tm) (.bool b)))(S:O->Prop)(w:L)(args:FY F)(u:∀b,S b->b<w.heap.size)(x:GW S w)(t:RepAll (B8 S) w [.big z n] args.toList) :
  Calls AA 116 args w λe w'=>Ext w w'/\(MRes.ret (.tup [.int .i64 v,.bool b])).holds (C1 S) w' e:=by
 have g:=St.start (n:=38) u x t (by simp);have i:rC (aK [] aC) (λ_=>U) 3 (aB0 BT) ⟨38,dT 0 [.big z n], [],0⟩ (λs=>yD s (lwT z n)):=by
  rw[<-aV7 z n,Y1 (by omega),Z5]
  grind
 refine(callsIn_wide (n:=3)).1 ?_;refine callsIn_of_wp_marks DH rfl trivial ?_ rfl;refine wpIn_wide.2 ?_;refine pC bT 3 _ _ _ _ _ w _ i g λs1 c1 a1 j q f=>?_;obtain⟨c2,d⟩:=f.le q;refine wp_seq (wp_seq (wp_region_list ?_));refine eT (E:=aK [] aC) (m:= .bp 0 1) (p:=none) rfl rfl trivial d rfl λa3 c=>?_;refine eT (E:=aK [] aC) (m:= .ws (aA z.natAbs)) (p:=none) rfl rfl trivial c rfl λC a=>?_;refine aSq (n:=38) (z:=z) (m:=n) a rfl rfl rfl (by decide) o (aQ _) aTW y rfl rfl ?_ rfl rfl (λ_ _=>rfl) rfl rfl (λ_ _ h=>h) (λ_ _ h=>h) (λa' w' D B A l k r=>?_)
 .have:=Tryz.call111 #[C.tmps.getD 13 undef] j;simp[execOp,resolve,B4,B9,invoke]
 show LeavesInM _ _ _ _ a'.tmps _ a'.defers _ w';rw[B];refine⟨by simp,.inl ⟨D,_,rfl,run_takeDeferred A,.tuple #[.int .i64 v,.bool b],?_,r,_,rfl,_,_,rfl,rfl,_,_,rfl,rfl,rfl⟩⟩;rw[kM];simp[aIb,l,k,Tryz.results116]
theorem aYy(z:Z)(n:O)(hz2:z.natAbs<18446744073709551616):bG (aK [] aC) (λ_=>U) aTV (aCB 38 z (z.natAbs:Z) n) (aEv λs=>lO 0 (aW 2 s.tm) (.int .i64 (uR z))/\lO 0 (aW 3 s.tm) (.bool (p6 z))):=by
 rw[<-aV9];by_cases c:z<0
 .rw[Y0 c,Z6];by_cases h:z.natAbs<9223372036854775808
  .have a:Q FT (z.natAbs:Z)=z.natAbs:=aT (by omega) (by omega);have g:Q FT (0-(z.natAbs:Z))=z:=by rw[aT (by omega) (by omega)];omega
   rw[a,g,Y0 c];obtain⟨e,d⟩:=aAo (z:=z) (v:=z) (b:=true) (by omega) rfl rfl
   grind
  .have a:Q FT (z.natAbs:Z)=(z.natAbs:Z)-18446744073709551616:=bB3 (by omega) (by omega);rw[a];by_cases h7:z.natAbs=9223372036854775808
   .have f:z= -9223372036854775808:=by omega
    subst f;obtain⟨e,d⟩:=aAo (z:= -9223372036854775808) (v:= -9223372036854775808) (b:=true) (by omega) rfl rfl;exact⟨e,d⟩
   grind [aT,aBC]
 .rw[Y1 c,Z5];by_cases h:z.natAbs<9223372036854775808
  .have a:Q FT (z.natAbs:Z)=z:=by rw[aT (by omega) (by omega)];omega
   rw[a,Y1 c];obtain⟨e,d⟩:=aAo (z:=z) (v:=z) (b:=true) (by omega) rfl rfl
   grind
  grind [bB3,aBC]
set_option maxRecDepth 100000 in
def aNM:Ctr AA:=⟨116,aBO,λargs w=>Tryz.call116 args w,λS w ms args p r a hp c d b=>by
 unfold aBO at a;split at a
 .rename_i z n;simp only[Z1,Z2]at a;obtain⟨rfl,rfl⟩:=a;have h:=aAj z.natAbs;by_cases q:z.natAbs<18446744073709551616
  .have e:=aYy z n q;rw[<-iK z.natAbs]at e;exact bDl z n (uR z) (p6 z) (h.2 q) e S w args c d b
  .obtain⟨g,f⟩:=aBC (z:=z) (by omega);rw[<-g,<-f];exact aM bT DH aMX bDO S w [.big z n] args (FP (18446744073709551616<=z.natAbs)) _ rfl (show 18446744073709551616<=z.natAbs by omega) c d b
 .simp at a⟩
theorem aWQ(z:Z)(n:O)(v:Z)(b:N):((∀(x:Z),x∈aA (P z)->0<=x/\x<4294967296)/\(∀(x:Z),x∈aA (P z)->0<=x/\x<4294967296)/\(0:Z)<=32/\bif V ((H (aA (P z)):Z)>2)then 0=v/\Aa=b/\S else bif V (Q F4 (AI (R (AC F4) (cN (aA (P z)) 0) |||ofInt (AC F4) (Q F4 (cN (aA (P z)) 1*2^min (I 32) (AC F4)))):Z)>9223372036854775808)then 0=v/\Aa=b/\S else bif Q F4 (AI (R (AC F4) (cN (aA (P z)) 0) |||ofInt (AC F4) (Q F4 (cN (aA (P z)) 1*2^min (I 32) (AC F4)))):Z)==9223372036854775808 then bif !decide (z<0)then 0=v/\Aa=b/\S else bif V (z<0)then Q FT (0-Q FT (Q F4 (AI (R (AC F4) (cN (aA (P z)) 0) |||ofInt (AC F4) (Q F4 (cN (aA (P z)) 1*2^min (I 32) (AC F4)))):Z)))=v/\FU=b/\S else Q FT (Q F4 (AI (R (AC F4) (cN (aA (P z)) 0) |||ofInt (AC F4) (Q F4 (cN (aA (P z)) 1*2^min (I 32) (AC F4)))):Z))=v/\FU=b/\S else bif V (z<0)then Q FT (0-Q FT (Q F4 (AI (R (AC F4) (cN (aA (P z)) 0) |||ofInt (AC F4) (Q F4 (cN (aA (P z)) 1*2^min (I 32) (AC F4)))):Z)))=v/\FU=b/\S else Q FT (Q F4 (AI (R (AC F4) (cN (aA (P z)) 0) |||ofInt (AC F4) (Q F4 (cN (aA (P z)) 1*2^min (I 32) (AC F4)))):Z))=v/\FU=b/\S)=aJ (aK [fX] aC) FF [.big z n] (AF (.ret (.tup [.int .i64 v,.bool b]))):=by kernel_rfl
theorem aZv:bE FF aBO:=by
 intro ms p r h hp;unfold aBO at h;split at h
 .rename_i z n;cases h;refine⟨aK [fX] aC,?_⟩;rw[<-aWQ z n,p32];have a:=aQ z.natAbs;refine⟨a,a,by omega,?_⟩;have k:=aAj z.natAbs;by_cases i:(aA z.natAbs).length<=2
  .have hz2:=k.1 i;have e:=wv2 i;rw[yX]at e;have w0:=tJ a 0;have c:=tJ a 1;have o:u64.wrap (↑(R (AC F4) (cN (aA z.natAbs) 0) |||ofInt (AC F4) (u64.wrap (cN (aA z.natAbs) 1*4294967296))).toNat)=(z.natAbs:Z):=by
    rw[BitVec.or_comm,aGJ c w0,e]
   rw[o,Y1 (show ¬(((aA z.natAbs).length:O):Z)>2 by omega),Z5];refine aI Z4 (λq=>?_) (λq=>aI beq_iff_eq (λj=>?_) (λj=>?_))
   .grind [aBC]
   .by_cases hz:z<0
    .have d:z= -9223372036854775808:=by omega
     subst d;obtain⟨g,f⟩:=aAo (z:= -9223372036854775808) (v:= -9223372036854775808) (b:=true) (by omega) rfl rfl;exact⟨g,f,⟨⟩⟩
    grind [aBC]
   .have c:Q FT (z.natAbs:Z)=z.natAbs:=aT (by omega) (by omega);rw[c];obtain⟨g,f⟩:=aAo (z:=z) (v:=z) (b:=true) (by omega) rfl rfl
    grind [aT]
  grind [aA,aBC]
 .simp at h
def aXJ:Ctr AA:=⟨53,aBO,λargs w=>Tryz.call53 args w,aM bT Tryz.func53 aBO aZv⟩
def cQ(p q n:Z)(m:O):Z×Z:=if m=0 then (1,0)else ((aY p q (m+1)-p*aY p q m)%n,aY p q m%n)
theorem aZ4(p q n:Z)(m:O):(cQ p q n m).2=rK p q m n:=by
 rw[aHO];unfold cQ;split
 .rename_i h;subst h;exact(DJ n).symm
 .rfl
theorem aZ3(p q n:Z)(m:O):∃s t,(cQ p q n m).1=aY p q (m+1)-p*aY p q m+n*s/\(cQ p q n m).2=aY p q m+n*t:=by
 unfold cQ;split
 .rename_i h;subst h;exact⟨0,0,by show(1:Z)=1-p*0+n*0;grind,by show(0:Z)=0+n*0;omega⟩
 .refine⟨- ((aY p q (m+1)-p*aY p q m)/n),-(aY p q m/n),?_,?_⟩
  .have:=B7 (aY p q (m+1)-p*aY p q m) n
   grind
  grind [B7,aY,CB]
theorem aLi{p q n:Z}{m:O}:∃s t,((cQ p q n m).1*(cQ p q n m).1-q*((cQ p q n m).2*(cQ p q n m).2))%n=(aY p q (m+m+1)-p*aY p q (m+m))%n/\
  ((cQ p q n m).1*(cQ p q n m).2+(cQ p q n m).1*(cQ p q n m).2+p*((cQ p q n m).2*(cQ p q n m).2))%n=aY p q (m+m)%n/\
  ((cQ p q n m).1*(cQ p q n m).1-q*((cQ p q n m).2*(cQ p q n m).2))%n=aY p q (m+m+1)-p*aY p q (m+m)+n*s/\
  ((cQ p q n m).1*(cQ p q n m).2+(cQ p q n m).1*(cQ p q n m).2+p*((cQ p q n m).2*(cQ p q n m).2))%n=aY p q (m+m)+n*t:=by
 obtain⟨s,t,e,d⟩:=aZ3 p q n m;have a:∀z:Z,∃s,z%n=z+n*s:=λz=>⟨- (z/n),by rw[CB];exact B7 z n⟩;have c:((cQ p q n m).1*(cQ p q n m).1-q*((cQ p q n m).2*(cQ p q n m).2))%n=(aY p q (m+m+1)-p*aY p q (m+m))%n:=by
  rw[e,d,show m+m=2*m by omega,aHQ,aAq];generalize aY p q (m+1)=U;generalize aY p q m=V;have h:(U-p*V+n*s)*(U-p*V+n*s)-q*((V+n*t)*(V+n*t))=(U*U-q*(V*V)-p*(V*(2*U-p*V)))+n*(2*(U-p*V)*s+n*s*s-q*(2*V*t+n*t*t)):=by grind
  simp_all
 have b:((cQ p q n m).1*(cQ p q n m).2+(cQ p q n m).1*(cQ p q n m).2+p*((cQ p q n m).2*(cQ p q n m).2))%n=aY p q (m+m)%n:=by
  rw[e,d,show m+m=2*m by omega,aAq];generalize aY p q (m+1)=U;generalize aY p q m=V;have h:(U-p*V+n*s)*(V+n*t)+(U-p*V+n*s)*(V+n*t)+p*((V+n*t)*(V+n*t))=V*(2*U-p*V)+n*(2*((U-p*V)*t+s*V+n*s*t)+p*(2*V*t+n*t*t)):=by grind
  simp_all
 obtain⟨s2,g⟩:=a (aY p q (m+m+1)-p*aY p q (m+m));obtain⟨i,f⟩:=a (aY p q (m+m));exact⟨s2,i,c,b,c.trans g,b.trans f⟩
theorem aRk{p q n:Z}{m:O}(h:0<m):cQ p q n (m+m)=(((cQ p q n m).1*(cQ p q n m).1-q*((cQ p q n m).2*(cQ p q n m).2))%n,((cQ p q n m).1*(cQ p q n m).2+(cQ p q n m).1*(cQ p q n m).2+p*((cQ p q n m).2*(cQ p q n m).2))%n):=by
 obtain⟨s,t,b,a,_⟩:=aLi (p:=p) (q:=q) (n:=n) (m:=m);rw[b,a];exact X (by omega)
theorem aVs{p q n:Z}{m:O}:cQ p q n (m+m+1)=(-(q*(((cQ p q n m).1*(cQ p q n m).2+(cQ p q n m).1*(cQ p q n m).2+p*((cQ p q n m).2*(cQ p q n m).2))%n))%n,
  (((cQ p q n m).1*(cQ p q n m).1-q*((cQ p q n m).2*(cQ p q n m).2))%n+p*(((cQ p q n m).1*(cQ p q n m).2+(cQ p q n m).1*(cQ p q n m).2+p*((cQ p q n m).2*(cQ p q n m).2))%n))%n):=by
 obtain⟨s,t,_,_,d,c⟩:=aLi (p:=p) (q:=q) (n:=n) (m:=m);rw[d,c];have e:cQ p q n (m+m+1)=((aY p q (m+m+1+1)-p*aY p q (m+m+1))%n,aY p q (m+m+1)%n):=if_neg (by omega);have f:aY p q (m+m+1+1)=p*aY p q (m+m+1)-q*aY p q (m+m):=rfl;rw[e,f];generalize aY p q (m+m+1)=U;generalize aY p q (m+m)=V;have b: -(q*(V+n*t))=p*U-q*V-p*U+n*(- (q*t)):=by grind
 have a:U-p*V+n*s+p*(V+n*t)=U+n*(s+p*t):=by grind
 rw[b,a,A2,A2]
def aNt(W L:O)(F:O->Z×Z):O->MS->G LoopAnn
 |4,e=>FP (.inv WalkI (λi=>i.i<=L) (λi=>⟨75, [(4,.bp 0 0),(5,.bp 1 0),(6,.bp 2 0),(7,.bp 3 0),(8,.bp 4 0),(9,.bp 5 0),(10,.bp 6 0),(11,.int .i64 ((i.i:Z)-1))],
   aV (aV e.bx 5 ⟨Aa,.one (.big (F i.i).1 W)⟩) 6 ⟨Aa,.one (.big (F i.i).2 W)⟩,0⟩) (λi=>i.i))
 |_,_=>FQ
theorem aWG(p q k n:Z)(a b c d:O)(r:Z)(w:O)(F:O->Z×Z)(W L:O)(e:_)(h:e=λ(i:WalkI)=>((F (i.1)).1*(F (i.1)).2+(F (i.1)).1*(F (i.1)).2+p*((F (i.1)).2*(F (i.1)).2)))(f:_)(g:f=λ(i:WalkI)=>((F (i.1)).1*(F (i.1)).1-q*((F (i.1)).2*(F (i.1)).2))):(fY 1/\c<=1000000/\(∃i:WalkI,i.1<=L/\(0=0/\0=0/\0=0/\0=0/\0=0/\0=0/\0=0/\Q FT ((bl (P k):Z)-1)=(i.1:Z)-1/\S)/\aD p p a a/\aD q q b b/\aD k k c c/\aD n n d d/\aD 0 0 0 0/\aD 1 ((F (i.1)).1) 64 W/\aD 0 ((F (i.1)).2) 0 W/\S)/\∀(i:WalkI),i.1<=L->bif V ((i.1:Z)-1≥0)then (W<=1000000/\W<=1000000)/\(W<=1000000/\W<=1000000)/\(W<=1000000/\W<=1000000)/\(b<=1000000/\W+W<=1000000)/\(W+W<=1000000/\b+(W+W)<=1000000)/\(max (W+W) (b+(W+W))+1<=900000/\d<=900000/\(n=0->U))/\(W+W<=1000000/\W+W<=1000000)/\(a<=1000000/\W+W<=1000000)/\(max (W+W) (W+W)+1<=1000000/\a+(W+W)<=1000000)/\(max (max (W+W) (W+W)+1) (a+(W+W))+1<=900000/\d<=900000/\(n=0->U))/\((32:Z)=0->U)/\(0<=Q FT (D ((i.1:Z)-1) 32)/\Q FT (D ((i.1:Z)-1) 32)<(H (aA (P k)):Z))/\((32:Z)=0->U)/\0<=Q F4 (T ((i.1:Z)-1) 32)/\bif Q FR (AI (R (AC FR) (fdiv (J (aA (P k)) (I (Q FT (D ((i.1:Z)-1) 32))) 0) ((2:Z)^min (I (Q F4 (T ((i.1:Z)-1) 32))) (AC FR))) &&&R (AC FR) 1):Z)==1 then (a<=1000000/\d<=1000000)/\(d<=1000000/\a+d<=1000000)/\(max d (a+d)+1<=900000/\d<=900000/\(n=0->U))/\(b<=1000000/\d<=1000000)/\b+d<=1000000/\(b+d<=900000/\d<=900000/\(n=0->U))/\∃j:WalkI,j.1<=L/\((0=0/\0=0/\0=0/\0=0/\0=0/\0=0/\0=0/\Q FT ((i.1:Z)-1-1)=(j.1:Z)-1/\S)/\aD p p a a/\aD q q b b/\aD k k c c/\aD n n d d/\aD 0 0 0 0/\aD (-(q*((e i) %n))%n) ((F (j.1)).1) d W/\aD (((f i) %n+p*((e i) %n))%n) ((F (j.1)).2) d W/\S)/\j.1<i.1 else ∃j:WalkI,j.1<=L/\((0=0/\0=0/\0=0/\0=0/\0=0/\0=0/\0=0/\Q FT ((i.1:Z)-1-1)=(j.1:Z)-1/\S)/\aD p p a a/\aD q q b b/\aD k k c c/\aD n n d d/\aD 0 0 0 0/\aD ((f i) %n) ((F (j.1)).1) d W/\aD ((e i) %n) ((F (j.1)).2) d W/\S)/\j.1<i.1 else (F (i.1)).2=r/\(W<=w\/P ((F (i.1)).2)<2^w))=aJ (aK [cO,gL,k6,eV,pV,uD,eB] (aNt W L F)) E1 [.big p a,.big q b,.big k c,.big n d] (AF (.ret (.big r w))):=by subst h g;kernel_rfl
theorem aZm:eD E1 qF:=by
 intro ms pr r h o s;unfold qF at h;split at h
 .rename_i p a q b k c n d;cases h;obtain⟨h1,h2,h3,h4,h5⟩:=o;have g:k.natAbs<2^c:=s.2.2.1;have hbl:bl k.natAbs<=c:=dN g;refine⟨aK [cO,gL,k6,eV,pV,uD,eB] (aNt (d+64) (bl k.natAbs) λi=>cQ p q n (k.natAbs/2^i)),?_⟩;rw[<-aWG p q k n a b c d (rK p q k.natAbs n) (d+64) (λi=>cQ p q n (k.natAbs/2^i)) (d+64) (bl k.natAbs) _ rfl _ rfl];generalize hK:k.natAbs=K at *;have e0:K/2^bl K=0:=BA (kY K);have t:Q FT ((bl K:Z)-1)=(bl K:Z)-1:=aT (by omega) (by omega);rw[t];refine⟨by omega,by omega,⟨⟨bl K⟩,Z0 _,⟨rfl,rfl,rfl,rfl,rfl,rfl,rfl,rfl,⟨⟩⟩,bQ,bQ,bQ,bQ,bQ,⟨?_,.inl (by omega)⟩,⟨?_,.inl (by omega)⟩,⟨⟩⟩,λi j=>?_⟩
  .grind [cQ,bl]
  .grind [cQ,bl]
  obtain⟨i⟩:=i;have j:i<=bl K:=j;dsimp only;refine aI Z4 (λq1=>?_) (λq1=>?_)
  .have v:(i:Z)-1=((i-1:O):Z):=by omega
   have hix:=oM (N:=K) (c:=i-1) (by omega);have u:Q F4 (((i-1)%32:O):Z)=(((i-1)%32:O):Z):=iP (by omega);rw[v,ixE (by omega),imE,u,Z8,Z8,aCI];have l:Q FT (((i-1:O):Z)-1)=((i-1:O):Z)-1:=aT (by omega) (by omega);have e:=aH0 (M:=K) (k:=i) (by omega);refine⟨by omega,by omega,by omega,by omega,by omega,by omega,by omega,by omega,by omega,by omega,by omega,by omega,by omega,by omega,aI beq_iff_eq (λm=>?_) (λm=>?_)⟩
   .have f:K/2^(i-1)%2=1:=by omega
    rw[f]at e;refine⟨by omega,by omega,by omega,by omega,by omega,by omega,⟨i-1⟩,by show i-1<=bl K;omega,⟨⟨rfl,rfl,rfl,rfl,rfl,rfl,rfl,l,⟨⟩⟩,bQ,bQ,bQ,bQ,bQ,⟨?_,.inl (by omega)⟩,⟨?_,.inl (by omega)⟩,⟨⟩⟩,by show i-1<i;omega⟩
    all_goals grind [cQ,aVs]
   .have f:K/2^(i-1)%2=0:=by omega
    rw[f,CH]at e;have hm:0<K/2^i:=by
     rcases CS (K/2^i)with z|z
     .exfalso;rw[z]at e;have:K<2^(i-1):=by
       simp_all
      have:=dN this;omega
     .exact z
    refine⟨⟨i-1⟩,by show i-1<=bl K;omega,⟨⟨rfl,rfl,rfl,rfl,rfl,rfl,rfl,l,⟨⟩⟩,bQ,bQ,bQ,bQ,bQ,⟨?_,.inl (by omega)⟩,⟨?_,.inl (by omega)⟩,⟨⟩⟩,by show i-1<i;omega⟩
    all_goals grind [cQ,aRk]
  grind [aZ4]
 .simp at h
def aN3:Ctr AA:=⟨106,qF,λargs w=>Tryz.call106 args w,aO bT Tryz.func106 qF aZm⟩
theorem gO{P:Program}(d:P.follows .mixedOrders=FU){f:FuncId}{g:Func}(n:P.funcs[f]? =FP g)(spec:aG)(c:∀a p r,spec a=FP (p,r)->p.holds->fL a->∃ms',lO.leVs 0 a ms'/\∃E:Env P,aJ E g ms' r.sat)(S:O->Prop)(w:L)(a:K MV)(args:FY F)(p:OProp)(r:MRes)(k:spec a=FP (p,r))(l:p.holds)(o:∀b,S b->b<w.heap.size)(q:GW S w)(i:RepAll (B8 S) w a args.toList):Calls P f args w λe w'=>Ext w w'/\r.holds (C1 S) w' e :=
 uK d n (λm=>FP (FP (∃ms',lO.leVs 0 m ms'/\∃E:Env P,aJ E g ms' r.sat),r)) (λm p2 r2 j h=>by
  simp only[Z1,Z2]at j;obtain⟨rfl,rfl⟩:=j;exact h) S w a args _ r rfl (c a p r k l (RepAll.facts a _ i)) o q i
def xG:MV->Z
 |.big z _=>z
 |_=>0
structure isBig (W:Nat) (m:MV):Prop where
 h:∃z n,m= .big z n/\n<=W
def iL(l:K Z)(W:O):O->MV:=λi=>.big (l.getD i 0) W
def aH(n:O)(f:O->MV):K Z:=(CR n).map λi=>xG (f i)
theorem bA(n:O)(f:O->MV):(aH n f).length=n:=by simp[aH]
theorem eK(l:K Z)(W:O):aH l.length (iL l W)=l:=by
 refine CA (by simp[aH]) λi h1 a=>?_;simp[aH,iL,xG,a]
theorem aLW{n i:O}{f:O->MV}(h:i<n):(aH n f).getD i 0=xG (f i):=by simp[aH,h]
theorem lE(l:K Z){V W:O}(h:V<=W)(i:O):isBig W (iL l V i):=⟨_,V,rfl,h⟩
theorem aAf{z:Z}{n W:O}(h:n<=W):isBig W (.big z n):=⟨z,n,rfl,h⟩
theorem t6{n:O}{f:O->MV}{W:O}(h:∀i,i<n->isBig W (f i)):LeFun n f (iL (aH n f) W):=CI λi b=>by
 obtain⟨z,a,e,c⟩:=(h i b).h;show fN 0 (f i) (.big ((aH n f).getD i 0) W);rw[aLW b,e];exact⟨rfl,.inl c⟩
structure Stp where
 kind:Int
 neg:Bool
 mag:List Int
 parts:List Int
 base:List Int
 ca:Int
 cb:Int
 cm:Int
 x:Int
 y:Int
 inf:Bool
 ord:Int
def Stp.n(s:Stp):Z:=if s.neg then-(wv s.mag)else wv s.mag
def nF(neg:N)(l:K Z):N:=cond ((l.length:Z)==0) (!neg) (l.getD (l.length-1) 0 != 0)
def Stp.can(s:Stp):N:=nF s.neg s.mag
def aB:Stp:=⟨0,Aa, [], [], [],0,0,0,0,0,Aa,0⟩
def dS(a b m x y o:Z)(i:N):N:=decide (a=0)&&(V (b=0)&&(V (m=0)&&(V (x=0)&&(V (y=0)&&(V (o=0)&&!i)))))
def noC(s:Stp):N:=dS s.ca s.cb s.cm s.x s.y s.ord s.inf
def bZ(a:K Z):K Z->K Z->G (K Z)
 |[],q=>FP q
 |i::r,q=>g (V (0<=i)&&(V (i<a.length)&&!(q.elem (a.getD i.toNat 0)))) (bZ a r (q++[a.getD i.toNat 0])) FQ
def aFL:O->Z->Z->Z
 |0,_,_=>1
 |f+1,x,q=>if x%q=0 then q*aFL f (x/q) q else 1
def lQ(x q:Z):Z:=aFL x.toNat x q
def pM(n:Z):K Z->Z->G Z
 |[],o=>FP o
 |q::r,o=>if n%q=0 then pM n r (o*lQ n q)else FQ
def cE(n:Z)(l:K Z):G Z:=pM n l 1
def tU(n:Z)(bl a:O)(b:N):N:=decide (n<65536)&&(V (a=0)&&(V (bl=0)&&(b&&isB n)))
def aBF(n:Z):K Z->K Z->N
 |b::c,q::a=>(V (1<b)&&V (b<=n-1))&&((V (gcd (gX b ((n-1)/q).natAbs n-1) n=1)&&V (gX (gX b ((n-1)/q).natAbs n) q.natAbs n=1))&&aBF n c a)
 |_,_=>FU
def yJ(n:Z)(base:K Z)(a:N)(q:K Z):N:=kK n 2&&(a&&(match cE (n-1) q with
 |none=>Aa
 |some f=>decide (n<f*f)&&(V (base.length=q.length)&&aBF n base q)))
def aAv(n a b:Z):K Z->N
 |[]=>FU
 |q::c=>decide (gcd (rK a b ((n+1)/q).natAbs n) n=1)&&aAv n a b c
def aUP(n:Z)(q:K Z):K Z->N
 |[a,b]=>(V (0<=a)&&V (a<n))&&((V (0<=b)&&V (b<n))&&(V (gH (a*a-4*b) n= -1)&&(V (rK a b (n+1).natAbs n=0)&&aAv n a b q)))
 |_=>Aa
def yN(n:Z)(base:K Z)(a:N)(q:K Z):N:=kK n 2&&(a&&(match cE (n+1) q with
 |none=>Aa
 |some f=>decide (n<(f-1)*(f-1))&&aUP n q base))
def aBl(n:Z)(bl:O)(a b m x y o:Z)(i:N)(q:K Z):N:=match q with
 |[p]=>decide (bl=0)&&(V (3<n)&&(V (gcd n 6=1)&&(grB p n&&(V (m=n)&&(V (gcd (4*(a*(a*a))+27*(b*b)) n=1) &&
   (nT a b m x y i&&(!i&&(V (0<o)&&(V (o%p=0) &&
    ((V ((bI a b m (o/p) x y i).e=0)&&!(bI a b m (o/p) x y i).o) &&
    (V ((bI a b m p (bI a b m (o/p) x y i).X (bI a b m (o/p) x y i).Y (bI a b m (o/p) x y i).o).e=0) &&
     (bI a b m p (bI a b m (o/p) x y i).X (bI a b m (o/p) x y i).Y (bI a b m (o/p) x y i).o).o)))))))))))
 |_=>Aa
def aRt(s:Stp)(q:K Z):N:=tU s.n s.base.length q.length (noC s)
def aT1(s:Stp)(q:K Z):N:=yJ s.n s.base (noC s) q
def aUO(s:Stp)(q:K Z):N:=yN s.n s.base (noC s) q
def aTe(s:Stp)(q:K Z):N:=aBl s.n s.base.length s.ca s.cb s.cm s.x s.y s.ord s.inf q
def aKv(s:Stp)(q:K Z):N :=
 g (s.kind==1) (aRt s q) (g (s.kind==2) (aT1 s q) (g (s.kind==3) (aUO s q) (g (s.kind==4) (aTe s q) Aa)))
def bW(a:K Z)(s:Stp):N:=s.can&&(V (1<s.n)&&(match bZ a s.parts []with
 |none=>Aa
 |some q=>aKv s q))
def oX(a:K Z):K Stp->O->G O
 |[],_=>FQ
 |s::r,i=>g (bW a s) (oX (a++[s.n]) r (i+1)) (FP i)
def oW(l:K Stp):Z:=match oX [] l 0 with
 |some i=>i
 |none=>0
def chkE(l:K Stp):Z:=match oX [] l 0 with
 |some _=>70
 |none=>g (l.length.beq 0) 70 0
def m8(s:Stp)(W:O):MV:= .st [.int .i64 s.kind,.st [.bool s.neg,.ws s.mag],.sl 1 s.parts.length (bJ s.parts),.sl 2 s.base.length (iL s.base W),.st [.big s.ca W,.big s.cb W,.big s.cm W],.st [.big s.x W,.big s.y W,.bool s.inf],.big s.ord W]
def bAb(s:Stp)(W:O):MV:= .st [.int .i64 s.kind,.big s.n W,.sl 1 s.parts.length (bJ s.parts),.sl 2 s.base.length (iL s.base W),.st [.big s.ca W,.big s.cb W,.big s.cm W],.st [.big s.x W,.big s.y W,.bool s.inf],.big s.ord W]
def aF(l:K Stp)(W:O):O->MV:=λi=>m8 (l.getD i aB) W
def bG1:MV->N
 |.big z _=>decide (z<0)
 |.st l=>(match l with
  |[x,_]=>(match x with
   |.bool b=>b
   |_=>Aa)
  |_=>Aa)
 |_=>Aa
def bG0:MV->K Z
 |.big z _=>aA z.natAbs
 |.st l=>(match l with
  |[_,y]=>(match y with
   |.ws w=>w
   |_=> [])
  |_=> [])
 |_=> []
def aEw:MV->K Z
 |.sl _ n f=>iY n f
 |_=> []
def aD0:MV->K Z
 |.sl _ n f=>aH n f
 |_=> []
def bEP:MV->Z×Z×N
 |.st l=>(match l with
  |[x,y,o]=>(xG x,xG y,(match o with
   |.bool b=>b
   |_=>Aa))
  |_=>(0,0,Aa))
 |_=>(0,0,Aa)
def bCU:MV->Z×Z×Z
 |.st l=>(match l with
  |[x,y,z]=>(xG x,xG y,xG z)
  |_=>(0,0,0))
 |_=>(0,0,0)
def bG3:MV->Z
 |.int _ z=>z
 |_=>0
def m7:MV->Stp
 |.st l=>(match l with
  |[k,n,p,b,c,a,o]=>⟨bG3 k,bG1 n,bG0 n,aEw p,aD0 b,(bCU c).1,(bCU c).2.1,(bCU c).2.2,(bEP a).1,(bEP a).2.1,(bEP a).2.2,xG o⟩
  |_=>aB)
 |_=>aB
structure isStp (W:Nat) (m:MV):Prop where
 h:∀(c:Ctx) (w:World) (cs:List Value),RepC c w m cs->RepC c w (m8 (m7 m) W) cs
def aE(n:O)(f:O->MV):K Stp:=(CR n).map λi=>m7 (f i)
theorem dG(n:O)(f:O->MV):(aE n f).length=n:=by simp[aE]
theorem aM8{n i:O}{f:O->MV}(h:i<n):(aE n f).getD i aB=m7 (f i):=by simp[aE,h]
theorem tC(s:Stp)(W:O):m7 (m8 s W)=s:=by
 show(⟨s.kind,s.neg,s.mag,iY s.parts.length (bJ s.parts),aH s.base.length (iL s.base W),s.ca,s.cb,s.cm,s.x,s.y,s.inf,s.ord⟩:Stp)=s;rw[iE,eK]
theorem qJ(l:K Stp)(W:O):aE l.length (aF l W)=l:=by
 refine CA (by simp[aE]) λi h1 a=>?_;simp[aE,aF,a,tC]
theorem p8(s:Stp)(W:O):isStp W (m8 s W):=⟨λc w cs h=>by rw[tC];exact h⟩
theorem j0{n:O}{f:O->MV}{W:O}(h:∀i,i<n->isStp W (f i)):LeFun n f (aF (aE n f) W):=⟨λi a c w b r=>by
 show RepC c w (m8 ((aE n f).getD i aB) W) b;rw[aM8 a];exact(h i a).h c w b r⟩
structure okS (s:Stp):Prop where
 wd:Wd s.mag
 len:s.mag.length<=6
 parts:s.parts.length<=90
 base:s.base.length<=1000
theorem aQd{s:Stp}(f:Wd s.mag)(d:s.can=FU):s.neg=V (s.n<0)/\s.mag=aA s.n.natAbs:=by
 unfold Stp.can nF at d;have h0:=bB f;cases c:s.mag with
 |nil =>
  rw[c]at d;have g:s.neg=Aa:=by
   simp_all
  have e:s.n=0:=by unfold Stp.n;rw[g,c];rfl
  rw[g,e];exact⟨rfl,bN.symm⟩
 |cons a r =>
  have i:((s.mag.length:Z)==0)=Aa:=by rw[c];simp;omega
  rw[i,Z5]at d;have hne:s.mag≠ []:=by rw[c];simp
  have b:s.mag.getD (s.mag.length-1) 0≠0:=by simpa using d
  have hlm:aA (wv s.mag).toNat=s.mag:=aAm f λh e=>b (by
   grind)
  grind [wv,Int.lt_or_eq_of_le,bN,Stp.n,DD]
theorem aCT{x q:Z}(hx:1<=x)(a:2<=q)(h:x%q=0):1<=x/q/\x/q<x/\q*(x/q)=x:=by
 have e:q*(x/q)=x:=by have:=A8 x q;omega
 have b:0<x/q:=by
  rcases Int.lt_or_le 0 (x/q)with z|z
  .exact z
  .have:=Z7 z (show 0<=q by omega);omega
 refine⟨b,?_,e⟩;have:=Int.mul_le_mul_of_nonneg_right a (show 0<=x/q by omega);rw[e]at this;omega
theorem aK3:∀(f g:O) (x q:Z),1<=x->2<=q->x<=f->x<=g->aFL f x q=aFL g x q
 |0,_,x,_,a,_,hf,_=>by omega
 |_,0,x,_,a,_,_,hg=>by omega
 |f+1,g+1,x,q,a,b,hf,hg=>by
  unfold aFL;split
  .rename_i h;obtain⟨c,h2,_⟩:=aCT a b h;rw[aK3 f g (x/q) q c b (by omega) (by omega)]
  .rfl
theorem aAw{x q:Z}(a:1<=x)(b:2<=q)(h:x%q=0):lQ x q=q*lQ (x/q) q:=by
 obtain⟨h1,h2,_⟩:=aCT a b h;unfold lQ;obtain⟨k,hk⟩:∃k,x.toNat=k+1:=⟨x.toNat-1,by omega⟩
 grind [aFL,aK3]
theorem aH5{x q:Z}(h:x%q≠0):lQ x q=1:=by
 unfold lQ;cases x.toNat with
 |zero=>rfl
 |succ k=>show(if x%q=0 then q*aFL k (x/q) q else 1)=1;rw[X h]
theorem aO4:∀(f:O) (x q:Z),1<=x->2<=q->1<=aFL f x q/\aFL f x q<=x
 |0,x,_,c,_=>⟨BN 1,c⟩
 |f+1,x,q,c,d=>by
  unfold aFL;split
  .rename_i h;obtain⟨j,h2,i⟩:=aCT c d h;obtain⟨g,e⟩:=aO4 f (x/q) q j d;have a:=Z7 e (show 0<=q by omega);have b:=Z7 g (show 0<=q by omega);rw[i]at a;omega
  omega
theorem aO6{x q:Z}(a:1<=x)(b:2<=q):1<=lQ x q/\lQ x q<=x:=aO4 _ x q a b
theorem aQa{o v n:Z}{k a A:O}(g:1<=o)(b:o<=2^(A*k))(c:1<=v)(h2:v<=n)(h3:n<2^a)(d:a<=A):1<=o*v/\o*v<=2^(A*(k+1)):=by
 have e:(2:Z)^(A*(k+1))=2^(A*k)*2^A:=by rw[<-DZ];rfl
 have f:v<=2^A:=by
  have:(2:Z)^a<=2^A:=by
   have:=AN (show 0<2 by omega) d
   exact_mod_cast this
  omega
 rw[e];refine⟨?_,BW b f (by omega) (DS (by omega) b)⟩;have:=BW g c (by omega) (show 0<=o by omega);omega
theorem aGC{o:Z}{k A V:O}(h0:1<=o)(h1:o<=2^(A*k))(a:A*k<V):o.natAbs<2^V:=by
 have b:o.natAbs<=2^(A*k):=by
  grind
 exact BI b (Nat.pow_lt_pow_right (by omega) a)
theorem aOV{n:Z}{a:O}(h0:0<=n)(h:n.natAbs<2^a):n<2^a:=by
 grind
structure PrO where
 i:Nat
 o:Int
structure PrOI (A:Nat) (n:Int) (l:List Int) (R:Option Int) (s:PrO):Prop where
 hi:s.i<=l.length
 hr:pM n (l.drop s.i) s.o=R
 o0:1<=s.o
 o1:s.o<=2^(A*s.i)
structure PrI where
 x:Int
 o:Int
structure PrII (n q p:Int) (s:PrI):Prop where
 hx:1<=s.x
 ho:1<=s.o
 he:s.o*lQ s.x q=p*lQ n q
def aJq(A:O)(n:Z)(l:K Z)(a W V:O)(R:G Z):O->MS->G LoopAnn
 |3,_=>FP (.inv PrO (PrOI A n l R) (λs=>⟨39, [(2,.bp 0 0),(4,.bp 1 0),(5,.bp 2 0),(11,.sl 2 l.length (iL l W)),(12,.int .i64 l.length),(13,.int .i64 s.i)], [⟨Aa,.one (.big n a)⟩,⟨Aa,.one (.big 0 0)⟩,⟨Aa,.one (.big s.o V)⟩],0⟩) (λs=>l.length-s.i))
 |7,e=>(match e.bx with
  |_::_::⟨_,.one (.big o _)⟩::⟨_,.one (.big q _)⟩::_=>FP (.inv PrI (PrII n q o) (λs=>⟨39, [(2,.bp 0 0),(4,.bp 1 0),(5,.bp 2 0),(7,.bp 3 0),(8,.bp 4 0),(9,.bp 5 0),(11,aW 11 e.tm),(12,aW 12 e.tm),(13,aW 13 e.tm)],
    [⟨Aa,.one (.big n a)⟩,⟨Aa,.one (.big 0 0)⟩,⟨Aa,.one (.big s.o V)⟩,⟨Aa,.one (.big q W)⟩,⟨Aa,.one (.big (s.x/q) a)⟩,⟨Aa,.one (.big (s.x%q) W)⟩],0⟩) (λs=>s.x.toNat))
  |_=>FQ)
 |_,_=>FQ
theorem aRy(A:O)(n:Z)(l:K Z)(a W V:O)(R:G Z)(b:_)(e:b=λ(i:PrO)=>(I (PrO.i i:Z)))(c:_)(d:c=(H l:Z)):((∃i,PrOI A n l R i/\(0=0/\0=0/\0=0/\(2=2/\H l=H l/\LeFun (H l) (iL l W) (iL l W))/\c = c/\0=(PrO.i i:Z)/\S)/\aD n n a a/\aD 0 0 0 0/\aD 1 (PrO.o i) 64 V/\S)/\∀(i:PrO),PrOI A n l R i->bif f ((PrO.i i:Z)< c)then (0<=(PrO.i i:Z)/\(PrO.i i:Z)< c)/\(a<=900000/\W<=900000/\(J l (b i) 0=0->U))/\bif f (n%J l (b i) 0=0)then (∃i_1,PrII n (J l (b i) 0) (PrO.o i) i_1/\(0=0/\0=0/\0=0/\0=0/\0=0/\0=0/\(2=2/\H l=H l/\LeFun (H l) (iL l W) (iL l W))/\c = c/\(PrO.i i:Z)=(PrO.i i:Z)/\S)/\aD n n a a/\aD 0 0 0 0/\aD (PrO.o i) (PrI.o i_1) V V/\aD (J l (b i) 0) (J l (b i) 0) W W/\aD (n/J l (b i) 0) (PrI.x i_1/J l (b i) 0) a a/\aD (n%J l (b i) 0) (PrI.x i_1%J l (b i) 0) W W/\S)/\∀(i_1:PrI),PrII n (J l (b i) 0) (PrO.o i) i_1->bif f (PrI.x i_1%J l (b i) 0=0)then (V<=1000000/\W<=1000000)/\(a<=900000/\W<=900000/\(J l (b i) 0=0->U))/\∃j,PrII n (J l (b i) 0) (PrO.o i) j/\((0=0/\0=0/\0=0/\0=0/\0=0/\0=0/\(2=2/\H l=H l/\LeFun (H l) (iL l W) (iL l W))/\c = c/\(PrO.i i:Z)=(PrO.i i:Z)/\S)/\aD n n a a/\aD 0 0 0 0/\aD (PrI.o i_1*J l (b i) 0) (PrI.o j) (V+W) V/\aD (J l (b i) 0) (J l (b i) 0) W W/\aD (PrI.x i_1/J l (b i) 0/J l (b i) 0) (PrI.x j/J l (b i) 0) a a/\aD (PrI.x i_1/J l (b i) 0%J l (b i) 0) (PrI.x j%J l (b i) 0) W W/\S)/\I (PrI.x j)<I (PrI.x i_1)else ∃j,PrOI A n l R j/\((0=0/\0=0/\0=0/\(2=2/\H l=H l/\LeFun (H l) (iL l W) (iL l W))/\c = c/\Q FT ((PrO.i i:Z)+1)=(PrO.i j:Z)/\S)/\aD n n a a/\aD 0 0 0 0/\aD (PrI.o i_1) (PrO.o j) V V/\S)/\H l-PrO.i j<H l-PrO.i i else bif AU R then U else S else bif AU R then PrO.o i=AQ R 0/\(V<=V\/P (PrO.o i)<2^V)else U)=aJ (aK [jE,mT,l9,dQ,jN] (aJq A n l a W V R)) CV [.big n a,.sl 2 l.length (iL l W)] (AF (fR R.isSome (.ret (.big (R.getD 0) V)))):=by subst e d;kernel_rfl
theorem uG{l:K Z}{i:O}(h:i<l.length):l.drop i=l.getD i 0::l.drop (i+1):=by
 simp_all
theorem gP{l:K Z}{i:O}(h:i<l.length):l.getD i 0∈l:=by
 simp_all
theorem aPa{n q p x o:Z}(I:PrII n q p ⟨x,o⟩)(a:2<=q):(x%q=0->PrII n q p ⟨x/q,o*q⟩/\(x/q).toNat<x.toNat/\o*q<=p*lQ n q)/\(x%q≠0->o=p*lQ n q):=by
 have c:1<=x:=I.hx;have f:1<=o:=I.ho;have d:o*lQ x q=p*lQ n q:=I.he;refine⟨λh=>?_,λh=>?_⟩
 .obtain⟨e,h2,h3⟩:=aCT c a h;rw[aAw c a h,<-A0]at d;have b:1<=o*q:=by
   have:=BW f a (by omega) (show 0<=o by omega);omega
  refine⟨⟨e,b,d⟩,by omega,?_⟩;have:=Z7 (aO6 e a).1 (show 0<=o*q by omega);omega
 grind [aH5]
theorem aPb{n q p:Z}{k a A:O}(h:1<=p)(g:p<=2^(A*k))(d:1<=n)(c:2<=q)(f:n<2^a)(e:a<=A):1<=p*lQ n q/\p*lQ n q<=2^(A*(k+1)):=by
 obtain⟨b,v2⟩:=aO6 d c;exact aQa h g b v2 f e
theorem aRa(n:Z)(l:K Z)(a W V A:O)(t:1<=n)(k:n<2^a)(D:a<=A)(hA:A<=300000)(hW:W<=300000)(hV:V<=300000)(p:64<=V)(B:∀q∈l,2<=q)(d:A*l.length<V)(hll:l.length<=1000000) :
  ∃E:Env AA,aJ E CV [.big n a,.sl 2 l.length (iL l W)] (AF (fR (cE n l).isSome (.ret (.big ((cE n l).getD 0) V)))):=by
 refine⟨aK [jE,mT,l9,dQ,jN] (aJq A n l a W V (cE n l)),?_⟩;rw[<-aRy A n l a W V (cE n l) _ rfl _ rfl];refine⟨⟨⟨0,1⟩,⟨Z9 _,rfl,BN 1,BN 1⟩,⟨rfl,rfl,rfl,⟨rfl,rfl,AG⟩,rfl,rfl,⟨⟩⟩,bQ,bQ,⟨rfl,.inl p⟩,⟨⟩⟩,λi I=>?_⟩;obtain⟨i,o⟩:=i;obtain⟨C,b,h,r⟩:=I;dsimp only at C b h r⊢;rw[Z8];refine aI Z4 (λq1=>?_) (λq1=>?_)
 .have c:i<l.length:=by omega
  rw[uG c]at b;have s:=B _ (gP c);generalize l.getD i 0=q at *;have F:Q FT ((i:Z)+1)=((i+1:O):Z):=by rw[aT (by omega) (by omega)];omega
  refine⟨by omega,by omega,aI Z4 (λg=>?_) (λg=>?_)⟩
  .have b:pM n (l.drop (i+1)) (o*lQ n q)=cE n l:=by rw[<-b];exact(Y g).symm
   obtain⟨b1,v⟩:=aPb h r t s k D;have b3:(o*lQ n q).natAbs<2^V:=aGC b1 v (BI (AV A c) d);refine⟨⟨⟨n,o⟩,⟨t,h,rfl⟩,⟨rfl,rfl,rfl,rfl,rfl,rfl,⟨rfl,rfl,AG⟩,rfl,rfl,⟨⟩⟩,bQ,bQ,bQ,bQ,bQ,bQ,⟨⟩⟩,λj J=>?_⟩;obtain⟨x,u⟩:=j;obtain⟨y,w⟩:=aPa J s;have z:1<=u:=J.ho;dsimp only;refine aI Z4 (λf=>?_) (λf=>?_)
   .obtain⟨e,z2,z3⟩:=y f;have z4:1<=u*q:=e.ho
    grind [AG]
   .have e:=w f;exact⟨⟨i+1,u⟩,⟨c,by rw[e];exact b,z,by rw[e];exact v⟩,⟨⟨rfl,rfl,rfl,⟨rfl,rfl,AG⟩,rfl,F,⟨⟩⟩,bQ,bQ,bQ,⟨⟩⟩,by show l.length-(i+1)<l.length-i;omega⟩
  .have b:(FQ:G Z)=cE n l:=by rw[<-b];exact(X g).symm
   simp_all
 .have m:i=l.length:=by omega
  subst m;rw[AY]at b;have b:FP o=cE n l:=b
  grind
def aAG:aG
 |[.big n a,.sl 2 k f]=>FP (FP (a<=300/\1<=n/\k<=90/\(∀i,i<k->isBig 201 (f i))/\(∀q∈aH k f,2<=q)),fR (cE n (aH k f)).isSome (.ret (.big ((cE n (aH k f)).getD 0) 30000)))
 |_=>FQ
theorem aUo:∀b p r,aAG b=FP (p,r)->p.holds->fL b->∃ms',lO.leVs 0 b ms'/\∃E:Env AA,aJ E CV ms' r.sat:=by
 intro b p r h c e;unfold aAG at h;split at h
 .rename_i n a k f;cases h;obtain⟨l,j,h3,i,g⟩:=c;have d:=bA k f;exact⟨[.big n a,.sl 2 (aH k f).length (iL (aH k f) 201)],⟨bQ,⟨rfl,d.symm,t6 i⟩,⟨⟩⟩,
   aRa n (aH k f) a 201 30000 300 j (aOV (by omega) e.1) l (by omega) (by omega) (by omega) (by omega) g (by omega) (by omega)⟩
 .simp at h
def zC:Ctr AA:=⟨166,aAG,λargs w=>Tryz.call166 args w,gO bT Tryz.func166 aAG aUo⟩
def aNs(A:O)(n:Z)(l:K Z)(a W V:O)(R:G Z):O->MS->G LoopAnn
 |3,_=>FP (.inv PrO (PrOI A n l R) (λs=>⟨49, [(1,.sl 2 l.length (iL l W)),(2,.bp 0 0),(4,.bp 1 0),(6,.bp 2 0),(7,.int .i64 s.i)], [⟨Aa,.one (.big n a)⟩,⟨Aa,.one (.big 0 0)⟩,⟨Aa,.one (.big s.o V)⟩],0⟩) (λs=>l.length-s.i))
 |8,e=>(match e.bx with
  |_::_::⟨_,.one (.big o _)⟩::_=>(match aW 7 e.tm with
   |.int _ i=>FP (.inv PrI (PrII n (l.getD i.toNat 0) o) (λs=>⟨49, [(1,aW 1 e.tm),(2,.bp 0 0),(4,.bp 1 0),(6,.bp 2 0),(7,aW 7 e.tm),(8,.bp 3 0)],
    [⟨Aa,.one (.big n a)⟩,⟨Aa,.one (.big 0 0)⟩,⟨Aa,.one (.big s.o V)⟩,⟨Aa,.one (.big s.x a)⟩],0⟩) (λs=>s.x.toNat))
   |_=>FQ)
  |_=>FQ)
 |_,_=>FQ
theorem aWF(A:O)(n:Z)(l:K Z)(a W V:O)(R:G Z)(b:_)(e:b=λ(i:PrO)=>(PrO.i i:Z))(c:_)(d:c=λ(i:PrO)=>(I (b i))):(fY 1/\(∃i,PrOI A n l R i/\((2=2/\H l=H l/\LeFun (H l) (iL l W) (iL l W))/\0=0/\0=0/\0=0/\0= (b i)/\S)/\aD n n a a/\aD 0 0 0 0/\aD 1 (PrO.o i) 64 V/\S)/\∀(i:PrO),PrOI A n l R i->bif f ((b i) <(H l:Z))then (0<= (b i)/\(b i) <(H l:Z))/\(a<=900000/\W<=900000/\(J l (c i) 0=0->U))/\bif f ((H (aA (P (n%J l (c i) 0))):Z)>0)then aD 0 (AQ R 0) 0 V/\Aa=AU R/\S else (∃i_1,PrII n (J l (c i) 0) (PrO.o i) i_1/\((2=2/\H l=H l/\LeFun (H l) (iL l W) (iL l W))/\0=0/\0=0/\0=0/\(b i) = (b i)/\0=0/\S)/\aD n n a a/\aD 0 0 0 0/\aD (PrO.o i) (PrI.o i_1) V V/\aD n (PrI.x i_1) a a/\S)/\∀(i_1:PrI),PrII n (J l (c i) 0) (PrO.o i) i_1->(0<= (b i)/\(b i) <(H l:Z))/\(a<=900000/\W<=900000/\(J l (c i) 0=0->U))/\bif (H (aA (P (PrI.x i_1%J l (c i) 0))):Z)==0 then (0<= (b i)/\(b i) <(H l:Z))/\(a<=900000/\W<=900000/\(J l (c i) 0=0->U))/\(0<= (b i)/\(b i) <(H l:Z))/\(V<=1000000/\W<=1000000)/\∃j,PrII n (J l (c i) 0) (PrO.o i) j/\(((2=2/\H l=H l/\LeFun (H l) (iL l W) (iL l W))/\0=0/\0=0/\0=0/\(b i) = (b i)/\0=0/\S)/\aD n n a a/\aD 0 0 0 0/\aD (PrI.o i_1*J l (c i) 0) (PrI.o j) (V+W) V/\aD (PrI.x i_1/J l (c i) 0) (PrI.x j) a a/\S)/\I (PrI.x j)<I (PrI.x i_1)else ∃j,PrOI A n l R j/\(((2=2/\H l=H l/\LeFun (H l) (iL l W) (iL l W))/\0=0/\0=0/\0=0/\Q FT ((b i) +1)=(PrO.i j:Z)/\S)/\aD n n a a/\aD 0 0 0 0/\aD (PrI.o i_1) (PrO.o j) V V/\S)/\H l-PrO.i j<H l-PrO.i i else aD (PrO.o i) (AQ R 0) V V/\FU=AU R/\S)=aJ (aK [cO,eB,kZ,eV] (aNs A n l a W V R)) CZ [.big n a,.sl 2 l.length (iL l W)] (AF (.ret (.tup [.big (R.getD 0) V,.bool R.isSome]))):=by subst e d;kernel_rfl
theorem yG{z:Z}:(((aA z.natAbs).length:O):Z)>0↔z≠0:=by
 grind [yF]
theorem aKE{z:Z}:((((aA z.natAbs).length:O):Z)==0)=FU↔z=0:=by
 rw[yF,Z4]
theorem aVi(n:Z)(l:K Z)(a W V A:O)(t:1<=n)(k:n<2^a)(D:a<=A)(hA:A<=300000)(hW:W<=300000)(hV:V<=300000)(p:64<=V)(B:∀q∈l,2<=q)(e:A*l.length<V)(hll:l.length<=1000000) :
  ∃E:Env AA,aJ E CZ [.big n a,.sl 2 l.length (iL l W)] (AF (.ret (.tup [.big ((cE n l).getD 0) V,.bool (cE n l).isSome]))):=by
 refine⟨aK [cO,eB,kZ,eV] (aNs A n l a W V (cE n l)),?_⟩;rw[<-aWF A n l a W V (cE n l) _ rfl _ rfl];refine⟨by omega,⟨⟨0,1⟩,⟨Z9 _,rfl,BN 1,BN 1⟩,⟨⟨rfl,rfl,AG⟩,rfl,rfl,rfl,rfl,⟨⟩⟩,bQ,bQ,⟨rfl,.inl p⟩,⟨⟩⟩,λi I=>?_⟩;obtain⟨i,o⟩:=i;obtain⟨C,b,h,r⟩:=I;dsimp only at C b h r⊢;rw[Z8];refine aI Z4 (λq1=>?_) (λq1=>?_)
 .have c:i<l.length:=by omega
  rw[uG c]at b;have s:=B _ (gP c);generalize l.getD i 0=q at *;have F:Q FT ((i:Z)+1)=((i+1:O):Z):=by rw[aT (by omega) (by omega)];omega
  refine⟨by omega,by omega,aI (decide_eq_true_iff.trans yG) (λd=>?_) (λd=>?_)⟩
  .have b:(FQ:G Z)=cE n l:=by rw[<-b];exact(X d).symm
   grind
  .have d:=BY.1 d;have b:pM n (l.drop (i+1)) (o*lQ n q)=cE n l:=by rw[<-b];exact(Y d).symm
   obtain⟨b1,v⟩:=aPb h r t s k D;have b3:(o*lQ n q).natAbs<2^V:=aGC b1 v (BI (AV A c) e);refine⟨⟨⟨n,o⟩,⟨t,h,rfl⟩,⟨⟨rfl,rfl,AG⟩,rfl,rfl,rfl,rfl,rfl,⟨⟩⟩,bQ,bQ,bQ,bQ,⟨⟩⟩,λj J=>?_⟩;obtain⟨x,u⟩:=j;obtain⟨y,w⟩:=aPa J s;have z:1<=u:=J.ho;dsimp only;refine⟨by omega,by omega,aI aKE (λg=>?_) (λg=>?_)⟩
   .obtain⟨f,z2,z3⟩:=y g;have z4:1<=u*q:=f.ho
    grind [AG]
   .have f:=w g;exact⟨⟨i+1,u⟩,⟨c,by rw[f];exact b,z,by rw[f];exact v⟩,⟨⟨⟨rfl,rfl,AG⟩,rfl,rfl,rfl,F,⟨⟩⟩,bQ,bQ,bQ,⟨⟩⟩,by show l.length-(i+1)<l.length-i;omega⟩
 .have m:i=l.length:=by omega
  subst m;rw[AY]at b;have b:FP o=cE n l:=b
  grind
def aDB:aG
 |[.big n a,.sl 2 k f]=>FP (FP (a<=300/\1<=n/\k<=90/\(∀i,i<k->isBig 201 (f i))/\(∀q∈aH k f,2<=q)),.ret (.tup [.big ((cE n (aH k f)).getD 0) 30000,.bool (cE n (aH k f)).isSome]))
 |_=>FQ
theorem aZl:∀b p r,aDB b=FP (p,r)->p.holds->fL b->∃ms',lO.leVs 0 b ms'/\∃E:Env AA,aJ E CZ ms' r.sat:=by
 intro b p r h c e;unfold aDB at h;split at h
 .rename_i n a k f;cases h;obtain⟨l,j,h3,i,g⟩:=c;have d:=bA k f;exact⟨[.big n a,.sl 2 (aH k f).length (iL (aH k f) 201)],⟨bQ,⟨rfl,d.symm,t6 i⟩,⟨⟩⟩,
   aVi n (aH k f) a 201 30000 300 j (aOV (by omega) e.1) l (by omega) (by omega) (by omega) (by omega) g (by omega) (by omega)⟩
 .simp at h
def aCM:Ctr AA:=⟨101,aDB,λargs w=>Tryz.call101 args w,gO bT Tryz.func101 aDB aZl⟩
def unr(n:O):O->MS->G LoopAnn:=λ_ _=>FP (.unroll n)
theorem aWr(z:Z)(n:O):(fY 2/\(n<=1000000/\64<=1000000)/\bif V (aX z 2>0)then ((0:Z)<=0/\0<(H (aA (P z)):Z))/\bif Q FR (AI (R (AC FR) (J (aA (P z)) (I 0) 0) &&&R (AC FR) 1):Z)==1 then bif kK z 2 then S else U else bif kK z 2 then U else S else bif kK z 2 then U else S)=aJ (aK [gZ,eF,dQ] aC) EN [.big z n] (AF (fR (kK z 2) (.ret (.tup [])))):=by kernel_rfl
def aDq:aG
 |[.big z n]=>FP (FP (n<=1000000),fR (kK z 2) (.ret (.tup [])))
 |_=>FQ
theorem aWI(z:Z)(n:O):(fY 2/\(n<=1000000/\64<=1000000)/\bif V (aX z 2>0)then ((0:Z)<=0/\0<(H (aA (P z)):Z))/\((2:Z)=0->U)/\(T (J (aA (P z)) (I 0) 0) 2==1)=kK z 2 else Aa=kK z 2)=aJ (aK [cO,iW] aC) E5 [.big z n] (AF (.ret (.bool (kK z 2)))):=by kernel_rfl
theorem aRQ(b:N)(l:K Z):(bif (H l:Z)==0 then (!b)=nF b l else (0<=Q FT ((H l:Z)-1)/\Q FT ((H l:Z)-1)<(H l:Z))/\(J l (I (Q FT ((H l:Z)-1))) 0 != 0)=nF b l)=aJ (aK [] aC) E7 [.st [.bool b,.ws l]] (AF (.ret (.bool (nF b l)))):=by kernel_rfl
theorem aNg(b:N)(l:K Z)(a:_)(c:a=(H l:Z)):(bif a ==0 then bif !b then FU=nF b l else bif V (a >0)then (0<=Q FT (a-1)/\Q FT (a-1)< a)/\(J l (I (Q FT (a-1))) 0 != 0)=nF b l else Aa=nF b l else bif V (a >0)then (0<=Q FT (a-1)/\Q FT (a-1)< a)/\(J l (I (Q FT (a-1))) 0 != 0)=nF b l else Aa=nF b l)=aJ (aK [] aC) E6 [.st [.bool b,.ws l]] (AF (.ret (.bool (nF b l)))):=by subst c;kernel_rfl
theorem aWq(k n a b m x y o:Z)(i:N)(c d:O)(f g:O->MV)(r q p l j h e:O):(((0:Z)<=0/\(0:Z)<(↑(6:O):Z))/\I 0<6/\bif V (a=0)then (0<=Q FT ((0:Z)+1)/\Q FT ((0:Z)+1)<(↑(6:O):Z))/\I (Q FT ((0:Z)+1))<6/\bif V (b=0)then (0<=Q FT (Q FT ((0:Z)+1)+1)/\Q FT (Q FT ((0:Z)+1)+1)<(↑(6:O):Z))/\I (Q FT (Q FT ((0:Z)+1)+1))<6/\bif V (m=0)then (0<=Q FT (Q FT (Q FT ((0:Z)+1)+1)+1)/\Q FT (Q FT (Q FT ((0:Z)+1)+1)+1)<(↑(6:O):Z))/\I (Q FT (Q FT (Q FT ((0:Z)+1)+1)+1))<6/\bif V (x=0)then (0<=Q FT (Q FT (Q FT (Q FT ((0:Z)+1)+1)+1)+1)/\Q FT (Q FT (Q FT (Q FT ((0:Z)+1)+1)+1)+1)<(↑(6:O):Z))/\I (Q FT (Q FT (Q FT (Q FT ((0:Z)+1)+1)+1)+1))<6/\bif V (y=0)then (0<=Q FT (Q FT (Q FT (Q FT (Q FT ((0:Z)+1)+1)+1)+1)+1)/\Q FT (Q FT (Q FT (Q FT (Q FT ((0:Z)+1)+1)+1)+1)+1)<(↑(6:O):Z))/\I (Q FT (Q FT (Q FT (Q FT (Q FT ((0:Z)+1)+1)+1)+1)+1))<6/\bif V (o=0)then bif !i then bif dS a b m x y o i then S else U else bif dS a b m x y o i then U else S else bif dS a b m x y o i then U else S else bif dS a b m x y o i then U else S else bif dS a b m x y o i then U else S else bif dS a b m x y o i then U else S else bif dS a b m x y o i then U else S else bif dS a b m x y o i then U else S)=aJ (aK [mT,dQ] (unr 7)) EO [.st [.int .i64 k,.big n e,.sl 1 c f,.sl 2 d g,.st [.big a r,.big b q,.big m p],.st [.big x l,.big y j,.bool i],.big o h]] (AF (fR (dS a b m x y o i) (.ret (.tup [])))):=by kernel_rfl
theorem aRH(k n a b m x y o:Z)(i:N)(c d:O)(f g:O->MV)(r q p l j h e:O):(bif Q FT (Q FT (Q FT (Q FT (Q FT ((H (aA (P a)):Z)+(H (aA (P b)):Z))+(H (aA (P m)):Z))+(H (aA (P x)):Z))+(H (aA (P y)):Z))+(H (aA (P o)):Z))==0 then (!i)=dS a b m x y o i else Aa=dS a b m x y o i)=aJ (aK [] aC) FD [.st [.int .i64 k,.big n e,.sl 1 c f,.sl 2 d g,.st [.big a r,.big b q,.big m p],.st [.big x l,.big y j,.bool i],.big o h]] (AF (.ret (.bool (dS a b m x y o i)))):=by kernel_rfl
theorem qP{b:N}(h:b=Aa):(bif b then U else S):=by rw[h];exact⟨⟩
theorem orT{b:N}(h:b=FU):(bif b then S else U):=by rw[h];exact⟨⟩
theorem rM{z:Z}:kK z 2=FU↔2<z/\z%2=1:=Z4
theorem aHY{z:Z}(h:¬(2<z/\z%2=1)):kK z 2=Aa:=Y1 h
theorem bGm{z:Z}(h:2<z):Q FR ((R (AC FR) ((aA z.natAbs).getD (I 0) 0) &&&R (AC FR) 1).toNat:Z)=z%2:=by
 rw[aMB,kW _ (by omega)];omega
theorem aZa:bE EN aDq:=by
 intro ms p r h a;unfold aDq at h;split at h
 .rename_i z n;cases h;have h1:n<=1000000:=a;refine⟨aK [gZ,eF,dQ] aC,?_⟩;rw[<-aWr z n];refine⟨by omega,by omega,aI (decide_eq_true_iff.trans lD) (λq=>?_) (λq=>qP (aHY λw=>q w.1))⟩;have:=aAl (z:=z) (by omega)
  grind [bGm,rM,aHY]
 .simp at h
def aCL:Ctr AA:=⟨165,aDq,λargs w=>Tryz.call165 args w,aM bT Tryz.func165 aDq aZa⟩
def aDD:aG
 |[.big z n]=>FP (FP (n<=1000000),.ret (.bool (kK z 2)))
 |_=>FQ
theorem aZo:bE E5 aDD:=by
 intro ms p r h a;unfold aDD at h;split at h
 .rename_i z n;cases h;have h1:n<=1000000:=a;refine⟨aK [cO,iW] aC,?_⟩;rw[<-aWI z n];refine⟨by omega,by omega,aI (decide_eq_true_iff.trans lD) (λq=>?_) (λq=>(aHY λw=>q w.1).symm)⟩;have:=aAl (z:=z) (by omega)
  grind [aMB,BK,rM]
 .simp at h
def aCN:Ctr AA:=⟨102,aDD,λargs w=>Tryz.call102 args w,aM bT Tryz.func102 aDD aZo⟩
def m6:aG
 |[.st [.bool b,.ws l]]=>FP (FP (l.length<=1000000),.ret (.bool (nF b l)))
 |_=>FQ
theorem aUF:bE E7 m6:=by
 intro ms p r h a;unfold m6 at h;split at h
 .rename_i b l;cases h;have h1:l.length<=1000000:=a;refine⟨aK [] aC,?_⟩;rw[<-aRQ b l];refine aI beq_iff_eq (λq=>?_) (λq=>?_)
  .grind [nF]
  .have w:Q FT ((l.length:Z)-1)=((l.length-1:O):Z):=by rw[aT (by omega) (by omega)];omega
   rw[w,Z8]
   grind [nF]
 .simp at h
def aS0:Ctr AA:=⟨96,m6,λargs w=>Tryz.call96 args w,aM bT Tryz.func96 m6 aUF⟩
theorem aQ9:bE E6 m6:=by
 intro ms p r h a;unfold m6 at h;split at h
 .rename_i b l;cases h;have h1:l.length<=1000000:=a;refine⟨aK [] aC,?_⟩;rw[<-aNg b l _ rfl];refine aI beq_iff_eq (λq=>?_) (λq=>?_)
  .grind [nF]
  .have w:Q FT ((l.length:Z)-1)=((l.length-1:O):Z):=by rw[aT (by omega) (by omega)];omega
   rw[w,Z8,Y0 (show(l.length:Z)>0 by omega),Z6]
   grind [nF]
 .simp at h
def aGa:Ctr AA:=⟨100,m6,λargs w=>Tryz.call100 args w,aM bT Tryz.func100 m6 aQ9⟩
def aDp:aG
 |[.st [.int .i64 _,.big _ _,.sl 1 _ _,.sl 2 _ _,.st [.big a _,.big b _,.big m _],.st [.big x _,.big y _,.bool i],.big o _]]=>FP (FQ,fR (dS a b m x y o i) (.ret (.tup [])))
 |_=>FQ
theorem aHV{a b m x y o:Z}{i:N}:dS a b m x y o i=FU↔a=0/\b=0/\m=0/\x=0/\y=0/\o=0/\i=Aa:=by
 grind [dS,BL]
theorem uW{a b m x y o:Z}{i:N}(h:¬(a=0/\b=0/\m=0/\x=0/\y=0/\o=0/\i=Aa)):dS a b m x y o i=Aa:=by
 grind [dS,aHV]
theorem aY9:bE EO aDp:=by
 intro ms p r h hp;unfold aDp at h;split at h
 .rename_i k n e c f d g a v b u m t x s y l i o j;cases h;refine⟨aK [mT,dQ] (unr 7),?_⟩;rw[<-aWq k n a b m x y o i c d f g v u t s l j e];refine⟨by decide,by decide,aI Z4 (λq1=>?_) (λq=>qP (uW λw=>q w.1))⟩;refine⟨by decide,by decide,aI Z4 (λq2=>?_) (λq=>qP (uW λw=>q w.2.1))⟩;refine⟨by decide,by decide,aI Z4 (λq3=>?_) (λq=>qP (uW λw=>q w.2.2.1))⟩;refine⟨by decide,by decide,aI Z4 (λq4=>?_) (λq=>qP (uW λw=>q w.2.2.2.1))⟩;refine⟨by decide,by decide,aI Z4 (λq5=>?_) (λq=>qP (uW λw=>q w.2.2.2.2.1))⟩;refine⟨by decide,by decide,aI Z4 (λq6=>?_) (λq=>qP (uW λw=>q w.2.2.2.2.2.1))⟩
  grind [aHV,uW]
 .simp at h
def vP:Ctr AA:=⟨164,aDp,λargs w=>Tryz.call164 args w,aM bT Tryz.func164 aDp aY9⟩
theorem rJ{z:Z}:(aA z.natAbs).length=0↔z=0:=by
 grind [yF]
def aAO:aG
 |[.st [.int .i64 _,.big _ _,.sl 1 _ _,.sl 2 _ _,.st [.big a f,.big b e,.big m w3],.st [.big x d,.big y c,.bool i],.big o w6]]=>FP (FP (f<=1000/\e<=1000/\w3<=1000/\d<=1000/\c<=1000/\w6<=1000),.ret (.bool (dS a b m x y o i)))
 |_=>FQ
theorem aUw:eD FD aAO:=by
 intro ms p r h v w;unfold aAO at h;split at h
 .rename_i k n e c f d g a u b t m s x q y l i o j;cases h;obtain⟨h1,h2,h3,h4,h5,h6⟩:=v;refine⟨aK [] aC,?_⟩;rw[<-aRH k n a b m x y o i c d f g u t s q l j e];obtain⟨⟨_,_,_,_,⟨fa,E,D,_⟩,⟨B,A,_,_⟩,C,_⟩,_⟩:=w;have la:=cU fa (by omega);have ea:=rJ (z:=a);have lb:=cU E (by omega);have eb:=rJ (z:=b);have lm:=cU D (by omega);have em:=rJ (z:=m);have lx:=cU B (by omega);have ex:=rJ (z:=x);have ly:=cU A (by omega);have ey:=rJ (z:=y);have lo:=cU C (by omega);have eo:=rJ (z:=o);generalize (aA a.natAbs).length=la' at *;generalize (aA b.natAbs).length=lb' at *;generalize (aA m.natAbs).length=lm' at *;generalize (aA x.natAbs).length=lx' at *;generalize (aA y.natAbs).length=ly' at *;generalize (aA o.natAbs).length=lo' at *;rw[aT (x:=(la':Z)+lb') (by omega) (by omega),aT (x:=(la':Z)+lb'+lm') (by omega) (by omega),aT (x:=(la':Z)+lb'+lm'+lx') (by omega) (by omega),aT (x:=(la':Z)+lb'+lm'+lx'+ly') (by omega) (by omega),aT (x:=(la':Z)+lb'+lm'+lx'+ly'+lo') (by omega) (by omega)]
  grind [uW,aHV]
 .simp at h
def uB:Ctr AA:=⟨64,aAO,λargs w=>Tryz.call64 args w,aO bT Tryz.func64 aAO aUw⟩
def qT(k n a b m x y o:Z)(i:N)(c:O)(f:O->MV)(base:K Z)(W:O):MV :=
 .st [.int .i64 k,.big n W,.sl 1 c f,.sl 2 base.length (iL base W),.st [.big a W,.big b W,.big m W],.st [.big x W,.big y W,.bool i],.big o W]
theorem tD{k n a b m x y o:Z}{i:N}{c d:O}{f g:O->MV}{s r q p l h e W:O}(C:s<=W)(B:r<=W)(A:q<=W)(z:p<=W)(w:l<=W)(v:h<=W)(u:e<=W)(t:∀j,j<d->isBig W (g j)) :
  lO 0 (.st [.int .i64 k,.big n e,.sl 1 c f,.sl 2 d g,.st [.big a s,.big b r,.big m q],.st [.big x p,.big y l,.bool i],.big o h]) (qT k n a b m x y o i c f (aH d g) W) :=
 ⟨rfl,⟨rfl,.inl u⟩,⟨rfl,rfl,AG⟩,⟨rfl,(bA d g).symm,t6 t⟩,⟨⟨rfl,.inl C⟩,⟨rfl,.inl B⟩,⟨rfl,.inl A⟩,⟨⟩⟩,⟨⟨rfl,.inl z⟩,⟨rfl,.inl w⟩,rfl,⟨⟩⟩,⟨rfl,.inl v⟩,⟨⟩⟩
theorem aLa{d:O}{g:O->MV}{W:O}(a:∀j,j<d->isBig W (g j)):lO 0 (.sl 2 d g) (.sl 2 (aH d g).length (iL (aH d g) W)):=⟨rfl,(bA d g).symm,t6 a⟩
structure kdP (w1 w2 w3 w4 w5 w6 w7 d e:Nat) (g h:Nat->MV):Prop where
 h1:w1<=200
 h2:w2<=200
 h3:w3<=200
 h4:w4<=200
 h5:w5<=200
 h6:w6<=200
 h7:w7<=200
 hg:∀j,j<d->isBig 200 (g j)
 hh:∀j,j<e->isBig 200 (h j)
 he:e<=90
 hd:d<=100000
 h0:∀q∈aH e h,2<=q
theorem bAU(k n a b m x y o:Z)(i:N)(c:O)(f:O->MV)(base q:K Z)(W:O)(e:_)(h:e=(dS a b m x y o i))(d:_)(g:d=(H base)):(bif p6 n then bif V (uR n<65536)then bif (H q:Z)==0 then bif (H base:Z)==0 then bif dS a b m x y o i then bif isB n then bif tU n d (H q) e then S else U else bif tU n d (H q) e then U else S else bif tU n d (H q) e then U else S else bif tU n d (H q) e then U else S else bif tU n d (H q) e then U else S else bif tU n d (H q) e then U else S else bif tU n d (H q) e then U else S)=aJ (aK [aNM,dQ,vP,aNW] aC) EV [qT k n a b m x y o i c f base W,.sl 2 q.length (iL q W)] (AF (fR (tU n base.length q.length (dS a b m x y o i)) (.ret (.tup [])))):=by subst h g;kernel_rfl
def aIH:aG
 |[.st [.int .i64 _,.big n c,.sl 1 _ _,.sl 2 d g,.st [.big a q,.big b p,.big m l],.st [.big x k,.big y j,.bool i],.big o f],.sl 2 e h] =>
  FP (FP (kdP q p l k j f c d e g h),fR (tU n d e (dS a b m x y o i)) (.ret (.tup [])))
 |_=>FQ
theorem bEc:∀u p r,aIH u=FP (p,r)->p.holds->fL u->∃ms',lO.leVs 0 u ms'/\∃E:Env AA,aJ E EV ms' r.sat:=by
 intro u p r t L hf;unfold aIH at t;split at t
 .rename_i k n A c f d g a H b G m F x D y C i o B e h;simp only[Z1,Z2]at t;obtain⟨rfl,rfl⟩:=t;have K:kdP H G F D C B A d e g h:=L;refine⟨[qT k n a b m x y o i c f (aH d g) 200,.sl 2 (aH e h).length (iL (aH e h) 200)],⟨tD K.h1 K.h2 K.h3 K.h4 K.h5 K.h6 K.h7 K.hg,aLa K.hh,⟨⟩⟩,aK [aNM,dQ,vP,aNW] aC,?_⟩;have O:=bA d g;have N:=bA e h;generalize aH d g=base at *;generalize aH e h=q at *;subst O;subst N;rw[<-bAU k n a b m x y o i c f base q 200 _ rfl _ rfl];generalize j:tU n base.length q.length (dS a b m x y o i)=T;unfold tU at j;have s:∀ {z:Bool},z=T->z=Aa->(bif T then U else S):=λQ P=>qP (Q.symm.trans P);cases q1:p6 n with
  |false =>
   refine qP ?_;rw[<-j];have:¬(-9223372036854775808<=n/\n<9223372036854775808):=λh=>by rw[rE.2 h]at q1;cases q1
   by_cases l:n<65536
   .have:isB n=Aa:=if_neg (by omega);rw[this,AP,AP,AP,AP]
   .rw[Y1 l];rfl
  |true =>
  have q1':=rE.1 q1;have M:uR n=n:=by unfold uR;rw[q1];rfl
  rw[M,Z6];refine aI Z4 (λl=>?_) (λl=>s j (by rw[Y1 l];rfl));refine aI beq_iff_eq (λJ=>?_) (λJ=>s j (by rw[Y0 l,Y1 (show ¬q.length=0 by omega)];rfl));refine aI beq_iff_eq (λI=>?_) (λI=>s j (by rw[Y0 l,Y0 (show q.length=0 by omega),Y1 (show ¬base.length=0 by omega)];rfl));rw[Y0 l,Y0 (show q.length=0 by omega),Y0 (show base.length=0 by omega),AB,AB,AB]at j;cases v:dS a b m x y o i with
  |false=>exact s j (by rw[v];rfl)
  |true =>
   cases w:isB n with
   |false=>exact s j (by rw[v,w];rfl)
   |true=>exact orT (j.symm.trans (by rw[v,w];rfl))
 .simp at t
def bCH:Ctr AA:=⟨135,aIH,λargs w=>Tryz.call135 args w,gO bT Tryz.func135 aIH bEc⟩
structure MnI (n:Int) (base q:List Int) (R:Bool) (s:WalkI):Prop where
 hi:s.i<=base.length
 hr:aBF n (base.drop s.i) (q.drop s.i)=R
def aSa(n:Z)(base q:K Z)(W:O)(R:N):O->MS->G LoopAnn
 |7,e=>FP (.inv WalkI (MnI n base q R) (λs=>⟨92, [(1,.sl 2 q.length (iL q W)),(2,.bp 0 0),(4,.bp 1 0),(40,.sl 2 base.length (iL base W)),(41,.int .i64 base.length),(42,.int .i64 s.i)],
   e.bx.take 2,0⟩) (λs=>base.length-s.i))
 |_,_=>FQ
theorem bAS(k n a b m x y o:Z)(i:N)(c:O)(f:O->MV)(base q:K Z)(W:O)(R T:N)(g:_)(s:g=(H base:Z))(d:_)(r:d=λ(i_1:WalkI)=>(I (i_1.1:Z)))(h:_)(p:h=(cE (n-1) (aH (H q) (iL q W))))(e:_)(l:e=(iL base W)):(W<=1000000/\bif kK n 2 then bif dS a b m x y o i then (W<=1000000/\64<=1000000)/\(max W 64+1<=300/\1<=n-1/\H q<=90/\(∀(i:O),i<H q->isBig 201 (iL q W i))/\∀(q_1:Z),q_1∈aH (H q) (iL q W)->2<=q_1)/\bif AU h then (30000<=1000000/\30000<=1000000)/\(30000+30000<=1000000/\W<=1000000)/\bif V (aX (AQ h 0*AQ h 0) n>0)then bif g ==(H q:Z)then (∃i_1,MnI n base q R i_1/\((2=2/\H q=H q/\LeFun (H q) (iL q W) (iL q W))/\0=0/\0=0/\(2=2/\H base=H base/\LeFun (H base) e e)/\g = g/\0=(i_1.1:Z)/\S)/\(k=k/\aD n n W W/\(1=1/\c=c/\LeFun c f f)/\(2=2/\H base=H base/\LeFun (H base) e e)/\(aD a a W W/\aD b b W W/\aD m m W W/\S)/\(aD x x W W/\aD y y W W/\i=i/\S)/\aD o o W W/\S)/\aD (n-1) (n-1) (max W 64+1) (max W 64+1)/\S)/\∀(i_1:WalkI),MnI n base q R i_1->bif V ((i_1.1:Z)< g)then (0<=(i_1.1:Z)/\(i_1.1:Z)< g)/\(W<=1000000/\64<=1000000)/\bif V (aX (J base (d i_1) 0) 1>0)then (W<=1000000/\max W 64+1<=1000000)/\bif V (aX (J base (d i_1) 0) (n-1)<=0)then (0<=(i_1.1:Z)/\(i_1.1:Z)<(H q:Z))/\(max W 64+1<=900000/\W<=900000/\(J q (d i_1) 0=0->U))/\(W<=100000/\max W 64+1<=100000/\W<=100000/\0<=(n-1)/J q (d i_1) 0)/\bif V (0<n)then (W<=1000000/\64<=1000000)/\(max W 64+1<=900000/\W<=900000)/\bif V (gcd (sT (J base (d i_1) 0) ((n-1)/J q (d i_1) 0) n-1) n=1)then (0<=(i_1.1:Z)/\(i_1.1:Z)<(H q:Z))/\(W<=100000/\W<=100000/\W<=100000/\0<=J q (d i_1) 0)/\bif V (0<n)then (W<=1000000/\64<=1000000)/\bif V (sT (sT (J base (d i_1) 0) ((n-1)/J q (d i_1) 0) n) (J q (d i_1) 0) n=1)then ∃j,MnI n base q R j/\(((2=2/\H q=H q/\LeFun (H q) (iL q W) (iL q W))/\0=0/\0=0/\(2=2/\H base=H base/\LeFun (H base) e e)/\g = g/\Q FT ((i_1.1:Z)+1)=(j.1:Z)/\S)/\(k=k/\aD n n W W/\(1=1/\c=c/\LeFun c f f)/\(2=2/\H base=H base/\LeFun (H base) e e)/\(aD a a W W/\aD b b W W/\aD m m W W/\S)/\(aD x x W W/\aD y y W W/\i=i/\S)/\aD o o W W/\S)/\aD (n-1) (n-1) (max W 64+1) (max W 64+1)/\S)/\H base-j.1<H base-i_1.1 else bif T then U else S else bif T then U else S else bif T then U else S else bif T then U else S else bif T then U else S else bif T then U else S else bif T then S else U else bif T then U else S else bif T then U else S else bif T then U else S else bif T then U else S else bif T then U else S)=aJ (aK [aCL,vP,jE,jS,zC,jN,eF,dQ,l9,aNV,vO,mS] (aSa n base q W R)) CY [qT k n a b m x y o i c f base W,.sl 2 q.length (iL q W)] (AF (fR T (.ret (.tup [])))):=by subst s r p l;kernel_rfl
theorem aO5{a e m:Z}(h:0<=e):sT a e m=gX a e.natAbs m:=if_neg (by omega)
theorem uN{a b:Z}:aX a b<=0↔a<=b:=aCZ
theorem aGy(n b p:Z)(c a:K Z):aBF n (b::c) (p::a)=((V (1<b)&&V (b<=n-1))&&((V (gcd (gX b ((n-1)/p).natAbs n-1) n=1)&&V (gX (gX b ((n-1)/p).natAbs n) p.natAbs n=1))&&aBF n c a)):=rfl
theorem mO{k n a b m x y o:Z}{i:N}{c W:O}{f:O->MV}{base:K Z}:(k=k/\aD n n W W/\((1:O)=1/\c=c/\LeFun c f f)/\((2:O)=2/\base.length=base.length/\LeFun base.length (iL base W) (iL base W))/\(aD a a W W/\aD b b W W/\aD m m W W/\S)/\(aD x x W W/\aD y y W W/\i=i/\S)/\aD o o W W/\S) :=
 ⟨rfl,bQ,⟨rfl,rfl,AG⟩,⟨rfl,rfl,AG⟩,⟨bQ,bQ,bQ,⟨⟩⟩,⟨bQ,bQ,rfl,⟨⟩⟩,bQ,⟨⟩⟩
theorem aZH(k n a b m x y o:Z)(i:N)(c:O)(f:O->MV)(base q:FZ Z)(z:q.length<=90)(h:∀p∈q,2<=p)(_hb:base.length<=100000) :
  ∃E:Env AA,aJ E CY [qT k n a b m x y o i c f base 200,.sl 2 q.length (iL q 200)] (AF (fR (yJ n base (dS a b m x y o i) q) (.ret (.tup [])))):=by
 refine⟨aK [aCL,vP,jE,jS,zC,jN,eF,dQ,l9,aNV,vO,mS] (aSa n base q 200 (aBF n base q)),?_⟩;rw[<-bAS k n a b m x y o i c f base q 200 (aBF n base q) (yJ n base (dS a b m x y o i) q) _ rfl _ rfl _ rfl _ rfl];have r:max 200 64+1=201:=rfl;rw[eK,r];refine⟨by omega,?_⟩;generalize d:yJ n base (dS a b m x y o i) q=T;unfold yJ at d;cases u:kK n 2 with
 |false=>rw[u]at d;exact qP d.symm
 |true =>
 cases H:dS a b m x y o i with
 |false=>rw[u,H]at d;exact qP d.symm
 |true =>
 rw[u,H]at d;obtain⟨n2,n1⟩:=rM.1 u;rw[Z6,Z6];refine⟨by omega,⟨by omega,by omega,z,λj _=>lE q (by omega) j,h⟩,?_⟩;cases G:cE (n-1) q with
 |none=>rw[G]at d;exact qP d.symm
 |some F =>
 rw[G]at d;have d:(V (n<F*F)&&(V (base.length=q.length)&&aBF n base q))=T:=d;rw[BD,Z6,BM];refine⟨by omega,by omega,aI (decide_eq_true_iff.trans lD) (λq1=>?_) (λq1=>qP (by rw[<-d,Y1 q1];rfl))⟩;refine aI beq_iff_eq (λK=>?_) (λK=>qP (by rw[<-d,Y0 q1,Y1 (show ¬base.length=q.length by omega)];rfl));have C:base.length=q.length:=by omega
 rw[Y0 q1,Y0 C,AB,AB]at d;rw[<-d];clear d;refine⟨⟨⟨0⟩,⟨Z9 _,rfl⟩,⟨⟨rfl,rfl,AG⟩,rfl,rfl,⟨rfl,rfl,AG⟩,rfl,rfl,⟨⟩⟩,mO,bQ,⟨⟩⟩,λj J=>?_⟩;obtain⟨j⟩:=j;obtain⟨L,g⟩:=J;dsimp only at L g⊢;rw[Z8];refine aI Z4 (λI=>?_) (λI=>?_)
 .have l:j<base.length:=by omega
  rw[uG l,uG (show j<q.length by omega),aGy]at g;have hp:=h _ (gP (show j<q.length by omega));generalize base.getD j 0=B at *;generalize q.getD j 0=p at *;have D:0<=(n-1)/p:=Int.ediv_nonneg (by omega) (by omega);rw[aO5 (a:=B) D,aO5 (e:=p) (by omega)];have M:Q FT ((j:Z)+1)=((j+1:O):Z):=by rw[aT (by omega) (by omega)];omega
  refine⟨by omega,by omega,aI (decide_eq_true_iff.trans lD) (λt=>?_) (λt=>qP (by rw[<-g,Y1 t];rfl))⟩;refine⟨by omega,aI (decide_eq_true_iff.trans uN) (λw=>?_) (λw=>qP (by rw[<-g,Y0 t,Y1 w];rfl))⟩;rw[Y0 t,Y0 w,AB,AB]at g;refine⟨by omega,by omega,⟨by omega,by omega,by omega,D⟩,aOd (Y0 (by omega)) ⟨by omega,by omega,aI Z4 (λs=>?_) (λs=>qP (by rw[<-g,Y1 s];rfl))⟩⟩;refine⟨by omega,by omega,aOd (Y0 (by omega)) ⟨by omega,aI Z4 (λv=>?_) (λv=>qP (by rw[<-g,Y0 s,Y1 v];rfl))⟩⟩;rw[Y0 s,Y0 v,AB,AB]at g;exact⟨⟨j+1⟩,⟨l,g⟩,⟨⟨⟨rfl,rfl,AG⟩,rfl,rfl,⟨rfl,rfl,AG⟩,rfl,M,⟨⟩⟩,mO,bQ,⟨⟩⟩,by show base.length-(j+1)<base.length-j;omega⟩
 .have A:j=base.length:=by omega
  subst A;rw[AY]at g;exact orT g.symm
def aIF:aG
 |[.st [.int .i64 _,.big n c,.sl 1 _ _,.sl 2 d g,.st [.big a q,.big b p,.big m l],.st [.big x k,.big y j,.bool i],.big o f],.sl 2 e h] =>
  FP (FP (kdP q p l k j f c d e g h),fR (yJ n (aH d g) (dS a b m x y o i) (aH e h)) (.ret (.tup [])))
 |_=>FQ
theorem bEa:∀l p r,aIF l=FP (p,r)->p.holds->fL l->∃ms',lO.leVs 0 l ms'/\∃E:Env AA,aJ E CY ms' r.sat:=by
 intro l p r j A hf;unfold aIF at j;split at j
 .rename_i k n q c f d g a z b w m v x u y t i o s e h;simp only[Z1,Z2]at j;obtain⟨rfl,rfl⟩:=j;have K:kdP z w v u t s q d e g h:=A;exact⟨[qT k n a b m x y o i c f (aH d g) 200,.sl 2 (aH e h).length (iL (aH e h) 200)],⟨tD K.h1 K.h2 K.h3 K.h4 K.h5 K.h6 K.h7 K.hg,aLa K.hh,⟨⟩⟩,aZH k n a b m x y o i c f _ _ (by rw[bA];exact K.he) K.h0 (by rw[bA];exact K.hd)⟩
 .simp at j
def bCF:Ctr AA:=⟨136,aIF,λargs w=>Tryz.call136 args w,gO bT Tryz.func136 aIF bEa⟩
def pI(A B M z b a:Z)(c:N):RS:=FL (⟨bI A B M z b a c,rfl⟩:∃r,r=bI A B M z b a c)
theorem wJ(A B M z b a:Z)(c:N):pI A B M z b a c=bI A B M z b a c:=FK (⟨bI A B M z b a c,rfl⟩:∃r,r=bI A B M z b a c)
def aE6:aG
 |[.st [.big A i,.big B j,.big M k],.big z t,.st [.big b n,.big a m,.bool c]] =>
  FP (FP (t<=100000/\i<=200/\j<=200/\k<=200/\n<=200/\m<=200),.ret (bEY (pI A B M z b a c)))
 |_=>FQ
theorem aW4:∀a p r,aE6 a=FP (p,r)->p.holds->∃p' r',aAE a=FP (p',r')/\p'.holds/\∀b w e,r'.holds b w e->r.holds b w e:=by
 intro a p r h c;unfold aE6 at h;split at h
 .rename_i A i B j M k z t px n py m po;simp only[Z1,Z2]at h;obtain⟨rfl,rfl⟩:=h;refine⟨_,_,rfl,c,λb w e h=>?_⟩;rw[wJ];exact h
 .simp at h
def aJE:Ctr AA:=aXt.weaken aE6 aW4
structure PlI (n a b:Int) (q:List Int) (R:Bool) (s:WalkI):Prop where
 hi:s.i<=q.length
 hr:aAv n a b (q.drop s.i)=R
structure BrI (n:Int) (base:List Int) (s:WalkI):Prop where
 hi:s.i<=base.length
 hr:∀j,j<s.i->0<=base.getD j 0/\base.getD j 0<n
def aSb(n A B:Z)(base q:K Z)(W:O)(R:N):O->MS->G LoopAnn
 |7,e=>FP (.inv WalkI (BrI n base) (λs=>⟨112, [(1,.sl 2 q.length (iL q W)),(2,.bp 0 0),(4,.bp 1 0),(43,.sl 2 base.length (iL base W)),(44,.int .i64 base.length),(45,.int .i64 s.i)],
   e.bx.take 3,0⟩) (λs=>base.length-s.i))
 |15,e=>FP (.inv WalkI (PlI n A B q R) (λs=>⟨112, [(1,.sl 2 q.length (iL q W)),(2,.bp 0 0),(4,.bp 1 0),(8,.bp 3 0),(9,.bp 4 0),(89,.sl 2 q.length (iL q W)),(90,.int .i64 q.length),(91,.int .i64 s.i)],
   e.bx.take 5,0⟩) (λs=>q.length-s.i))
 |_,_=>FQ
theorem bAT(k n a b m x y o:Z)(i:N)(c:O)(f:O->MV)(base q:K Z)(W:O)(A B:Z)(R T:N)(l:_)(F:l=(H base:Z))(t:_)(E:t=(J base (I 0) 0))(s:_)(D:s=(J base (I 1) 0))(e:_)(C:e=(iL base W))(d:_)(z:d=(iL q W))(p:_)(w:p=(max W 64+1))(h:_)(v:h=(H q))(g:_)(G:g=(AQ (cE (n+1) (aH h d)) 0-1))(r:_)(u:r=(H q:Z)):(W<=1000000/\bif kK n 2 then bif dS a b m x y o i then (W<=1000000/\64<=1000000)/\(max W 64+1<=300/\1<=n+1/\H q<=90/\(∀(i:O),i<H q->isBig 201 (iL q W i))/\∀(q_1:Z),q_1∈aH h d ->2<=q_1)/\bif AU (cE (n+1) (aH h d))then (30000<=1000000/\64<=1000000)/\(max 30000 64+1<=1000000/\max 30000 64+1<=1000000)/\(max 30000 64+1+(max 30000 64+1)<=1000000/\W<=1000000)/\bif V (aX (g * g) n>0)then bif l ==2 then (∃i_1,BrI n base i_1/\((2=2/\H q=H q/\LeFun h d d)/\0=0/\0=0/\(2=2/\H base=H base/\LeFun (H base) e e)/\l = l/\0=(i_1.1:Z)/\S)/\(k=k/\aD n n W W/\(1=1/\c=c/\LeFun c f f)/\(2=2/\H base=H base/\LeFun (H base) e e)/\(aD a a W W/\aD b b W W/\aD m m W W/\S)/\(aD x x W W/\aD y y W W/\i=i/\S)/\aD o o W W/\S)/\aD (n+1) (n+1) p p/\aD g g (max 30000 64+1) (max 30000 64+1)/\S)/\∀(i_1:WalkI),BrI n base i_1->bif V ((i_1.1:Z)< l)then (0<=(i_1.1:Z)/\(i_1.1:Z)< l)/\bif V (dL (J base (I (i_1.1:Z)) 0)≥0)then (W<=1000000/\W<=1000000)/\bif V (aX (J base (I (i_1.1:Z)) 0) n<0)then ∃j,BrI n base j/\(((2=2/\H q=H q/\LeFun h d d)/\0=0/\0=0/\(2=2/\H base=H base/\LeFun (H base) e e)/\l = l/\Q FT ((i_1.1:Z)+1)=(j.1:Z)/\S)/\(k=k/\aD n n W W/\(1=1/\c=c/\LeFun c f f)/\(2=2/\H base=H base/\LeFun (H base) e e)/\(aD a a W W/\aD b b W W/\aD m m W W/\S)/\(aD x x W W/\aD y y W W/\i=i/\S)/\aD o o W W/\S)/\aD (n+1) (n+1) p p/\aD g g (max 30000 64+1) (max 30000 64+1)/\S)/\H base-j.1<H base-i_1.1 else bif T then U else S else bif T then U else S else ((0:Z)<=0/\0< l)/\((0:Z)<=1/\1< l)/\(W<=1000000/\W<=1000000)/\fY 4/\(64<=1000000/\W<=1000000)/\(W+W<=1000000/\64+W<=1000000)/\(max (W+W) (64+W)+1<=200000/\W<=200000)/\bif gH (J base (I 0) 0*J base (I 0) 0-4*J base (I 1) 0) n==(-1)then (W<=100000/\W<=100000/\max W 64+1<=100000/\W<=100000/\(n=0->U))/\bif V (rK t s (P (n+1)) n=0)then (∃i_2,PlI n A B q R i_2/\((2=2/\H q=H q/\LeFun h d d)/\0=0/\0=0/\0=0/\0=0/\(2=2/\H q=H q/\LeFun h d d)/\r = r/\0=(i_2.1:Z)/\S)/\(k=k/\aD n n W W/\(1=1/\c=c/\LeFun c f f)/\(2=2/\H base=H base/\LeFun (H base) e e)/\(aD a a W W/\aD b b W W/\aD m m W W/\S)/\(aD x x W W/\aD y y W W/\i=i/\S)/\aD o o W W/\S)/\aD (n+1) (n+1) p p/\aD g g (max 30000 64+1) (max 30000 64+1)/\aD t t W W/\aD s s W W/\S)/\∀(i_2:WalkI),PlI n A B q R i_2->bif V ((i_2.1:Z)< r)then (0<=(i_2.1:Z)/\(i_2.1:Z)< r)/\(max W 64+1<=900000/\W<=900000/\(J q (I (i_2.1:Z)) 0=0->U))/\(W<=100000/\W<=100000/\max W 64+1<=100000/\W<=100000/\(n=0->U))/\(W+64<=900000/\W<=900000)/\bif V (gcd (rK t s (P ((n+1)/J q (I (i_2.1:Z)) 0)) n) n=1)then ∃j,PlI n A B q R j/\(((2=2/\H q=H q/\LeFun h d d)/\0=0/\0=0/\0=0/\0=0/\(2=2/\H q=H q/\LeFun h d d)/\r = r/\Q FT ((i_2.1:Z)+1)=(j.1:Z)/\S)/\(k=k/\aD n n W W/\(1=1/\c=c/\LeFun c f f)/\(2=2/\H base=H base/\LeFun (H base) e e)/\(aD a a W W/\aD b b W W/\aD m m W W/\S)/\(aD x x W W/\aD y y W W/\i=i/\S)/\aD o o W W/\S)/\aD (n+1) (n+1) p p/\aD g g (max 30000 64+1) (max 30000 64+1)/\aD t t W W/\aD s s W W/\S)/\H q-j.1<H q-i_2.1 else bif T then U else S else bif T then S else U else bif T then U else S else bif T then U else S else bif T then U else S else bif T then U else S else bif T then U else S else bif T then U else S else bif T then U else S)=aJ (aK [aCL,vP,jE,jR,zC,jS,jN,eF,dQ,dC,gZ,aSy,aNU,mT,l9,vO] (aSb n A B base q W R)) CX [qT k n a b m x y o i c f base W,.sl 2 q.length (iL q W)] (AF (fR T (.ret (.tup [])))):=by subst F E D C z w v G u;kernel_rfl
theorem bAR(k n a b m x y o:Z)(i:N)(c:O)(f:O->MV)(base q:K Z)(W:O)(T:N)(d:_)(j:d=(pI a b m (o/J q (I 0) 0) x y i))(g:_)(h:g=(pI a b m (J q (I 0) 0) (RS.X d) (RS.Y d) (RS.o d))):(bif (H q:Z)==1 then bif (H base:Z)==0 then fY 3/\(W<=1000000/\64<=1000000)/\bif V (aX n 3>0)then fY 6/\(W<=900000/\64<=900000)/\bif V (gcd n 6=1)then ((0:Z)<=0/\0<(H q:Z))/\(W<=100000/\W<=100000)/\bif grB (J q (I 0) 0) n then (W<=1000000/\W<=1000000)/\(W<=1000000/\W+W<=1000000)/\(W<=1000000/\W<=1000000)/\(W<=1000000/\W<=1000000)/\bif V (m=n)then fY 4/\(64<=1000000/\W+(W+W)<=1000000)/\fY 27/\(64<=1000000/\W+W<=1000000)/\(64+(W+(W+W))<=1000000/\64+(W+W)<=1000000)/\(max (64+(W+(W+W))) (64+(W+W))+1<=900000/\W<=900000)/\bif V (gcd (4*(a*(a*a))+27*(b*b)) n=1)then (W<=1000/\W<=1000/\W<=1000/\W<=1000/\W<=1000)/\bif nT a b m x y i then bif !i then bif V (dL o>0)then ((0:Z)<=0/\0<(H q:Z))/\(W<=900000/\W<=900000/\(J q (I 0) 0=0->U))/\bif V (o%J q (I 0) 0=0)then (W<=100000/\W<=200/\W<=200/\W<=200/\W<=200/\W<=200)/\bif RS.e d ==0 then bif !RS.o d then ((0:Z)<=0/\0<(H q:Z))/\(W<=100000/\W<=200/\W<=200/\W<=200/\200<=200/\200<=200)/\bif RS.e g ==0 then bif RS.o g then bif T then S else U else bif T then U else S else bif T then U else S else bif T then U else S else bif T then U else S else bif T then U else S else bif T then U else S else bif T then U else S else bif T then U else S else bif T then U else S else bif T then U else S else bif T then U else S else bif T then U else S else bif T then U else S else bif T then U else S else bif T then U else S)=aJ (aK [eF,gZ,vO,dQ,aSM,jN,mS,jR,aNY,dC,l9,mT,aJE] aC) CW [qT k n a b m x y o i c f base W,.sl 2 q.length (iL q W)] (AF (fR T (.ret (.tup [])))):=by subst j h;kernel_rfl
theorem aKD{l:K Z}(h:l.length=2):∃A B,l=[A,B]:=by
 match l,h with
 |[A,B],_=>exact⟨A,B,rfl⟩
theorem bB7{b:N}{P:Prop}(h:b=FU->P)(hn:¬P):b=Aa:=by
 simp_all
theorem aGM(n a b q:Z)(c:K Z):aAv n a b (q::c)=(V (gcd (rK a b ((n+1)/q).natAbs n) n=1)&&aAv n a b c):=rfl
theorem aZI(k n a b m x y o:Z)(i:Bool)(c:F0)(f:F0->MV)(base q:FZ Z)(M:q.length<=90)(w:∀p∈q,2<=p)(_hb:base.length<=100000) :
  ∃E:Env AA,aJ E CX [qT k n a b m x y o i c f base 200,.sl 2 q.length (iL q 200)] (AF (fR (yN n base (dS a b m x y o i) q) (.ret (.tup [])))):=by
 refine⟨aK [aCL,vP,jE,jR,zC,jS,jN,eF,dQ,dC,gZ,aSy,aNU,mT,l9,vO] (aSb n (base.getD 0 0) (base.getD 1 0) base q 200 (aAv n (base.getD 0 0) (base.getD 1 0) q)),?_⟩;rw[<-bAT k n a b m x y o i c f base q 200 (base.getD 0 0) (base.getD 1 0) (aAv n (base.getD 0 0) (base.getD 1 0) q) (yN n base (dS a b m x y o i) q) _ rfl _ rfl _ rfl _ rfl _ rfl _ rfl _ rfl _ rfl _ rfl];have z:max 200 64+1=201:=rfl;have U:max 30000 64+1=30001:=rfl;rw[eK,z,U];refine⟨by omega,?_⟩;generalize d:yN n base (dS a b m x y o i) q=T;unfold yN at d;cases D:kK n 2 with
 |false=>rw[D]at d;exact qP d.symm
 |true =>
 cases O:dS a b m x y o i with
 |false=>rw[D,O]at d;exact qP d.symm
 |true =>
 rw[D,O]at d;obtain⟨n2,n1⟩:=rM.1 D;rw[Z6,Z6];refine⟨by omega,⟨by omega,by omega,M,λj _=>lE q (by omega) j,w⟩,?_⟩;cases N:cE (n+1) q with
 |none=>rw[N]at d;exact qP d.symm
 |some F =>
 rw[N]at d;have d:(V (n<(F-1)*(F-1))&&aUP n q base)=T:=d;rw[BD,Z6,BM];refine⟨by omega,by omega,by omega,aI (decide_eq_true_iff.trans lD) (λq1=>?_) (λq1=>qP (by rw[<-d,Y1 q1];rfl))⟩;rw[Y0 q1,AB]at d;refine aI beq_iff_eq (λC=>?_) (λC=>qP ?_)
 rotate_left
 .rw[<-d]
  match base,C with
  |[],_=>rfl
  |[_],_=>rfl
  |[_,_],C=>exact W rfl C
  |_::_::_::_,_=>rfl
 obtain⟨A,B,rfl⟩:=aKD (l:=base) (by omega);have d:((V (0<=A)&&V (A<n))&&((V (0<=B)&&V (B<n))&&(V (gH (A*A-4*B) n= -1)&&(V (rK A B (n+1).natAbs n=0)&&aAv n A B q))))=T:=d;have Q:[A,B].getD 0 0=A:=rfl;have P:[A,B].getD 1 0=B:=rfl;have t:T=FU->∀j,j<2->0<=[A,B].getD j 0/\[A,B].getD j 0<n:=by
  grind
 have hlen:([A,B]:FZ Z).length=2:=rfl;refine⟨⟨⟨0⟩,⟨Z9 _,λj v=>W v (CD j)⟩,⟨⟨rfl,rfl,AG⟩,rfl,rfl,⟨rfl,rfl,AG⟩,rfl,rfl,⟨⟩⟩,mO,bQ,bQ,⟨⟩⟩,λj J=>?_⟩;obtain⟨j⟩:=j;obtain⟨v,g⟩:=J;dsimp only at v g⊢;rw[Z8];refine aI Z4 (λK=>?_) (λK=>?_)
 .have e:j<2:=by omega
  have L:FV FT ((j:Z)+1)=((j+1:F0):Z):=by rw[aT (by omega) (by omega)];omega
  refine⟨by omega,aI (decide_eq_true_iff.trans aVD) (λr=>?_) (λr=>qP (bB7 (λh=>(t h j e).1) r))⟩;refine⟨by omega,aI (decide_eq_true_iff.trans aAe) (λu=>?_) (λu=>qP (bB7 (λh=>(t h j e).2) u))⟩;refine⟨⟨j+1⟩,⟨e,λk hk=>?_⟩,⟨⟨⟨rfl,rfl,AG⟩,rfl,rfl,⟨rfl,rfl,AG⟩,rfl,L,⟨⟩⟩,mO,bQ,bQ,⟨⟩⟩,by show 2-(j+1)<2-j;omega⟩
  grind
 .have s:j=2:=by omega
  subst s;have I:=g 0 (by omega);have H:=g 1 (by omega);rw[Q]at I;rw[P]at H;rw[Y0 I.1,Y0 I.2,Y0 H.1,Y0 H.2]at d;simp only[AB]at d;have S:[A,B].getD (F5 0) 0=A:=rfl;have R:[A,B].getD (F5 1) 0=B:=rfl;rw[S,R,Q,P];refine⟨by omega,by omega,by omega,by omega,by omega,by omega,by omega,aI beq_iff_eq (λr=>?_) (λr=>qP (by rw[<-d,Y1 r];rfl))⟩;refine⟨by omega,aI Z4 (λu=>?_) (λu=>qP (by rw[<-d,Y0 r,Y1 u];rfl))⟩;rw[Y0 r,Y0 u,AB,AB]at d;rw[<-d];clear d t;refine⟨⟨⟨0⟩,⟨Z9 _,rfl⟩,⟨⟨rfl,rfl,AG⟩,rfl,rfl,rfl,rfl,⟨rfl,rfl,AG⟩,rfl,rfl,⟨⟩⟩,mO,bQ,bQ,bQ,bQ,⟨⟩⟩,λj J=>?_⟩;obtain⟨j⟩:=j;obtain⟨v,g⟩:=J;dsimp only at v g⊢;rw[Z8];refine aI Z4 (λK=>?_) (λK=>?_)
  .have e:j<q.length:=by omega
   rw[uG e,aGM]at g;have hp:=w _ (gP e);generalize q.getD j 0=p at *;have L:FV FT ((j:Z)+1)=((j+1:F0):Z):=by rw[aT (by omega) (by omega)];omega
   refine⟨by omega,by omega,by omega,by omega,aI Z4 (λG=>?_) (λG=>qP (by rw[<-g,Y1 G];rfl))⟩;rw[Y0 G,AB]at g;exact⟨⟨j+1⟩,⟨e,g⟩,⟨⟨⟨rfl,rfl,AG⟩,rfl,rfl,rfl,rfl,⟨rfl,rfl,AG⟩,rfl,L,⟨⟩⟩,mO,bQ,bQ,bQ,bQ,⟨⟩⟩,by show q.length-(j+1)<q.length-j;omega⟩
  .have s:j=q.length:=by omega
   subst s;rw[AY]at g;exact orT g.symm
def aIG:aG
 |[.st [.int .i64 _,.big n c,.sl 1 _ _,.sl 2 d g,.st [.big a q,.big b p,.big m l],.st [.big x k,.big y j,.bool i],.big o f],.sl 2 e h] =>
  FP (FP (kdP q p l k j f c d e g h),fR (yN n (aH d g) (dS a b m x y o i) (aH e h)) (.ret (.tup [])))
 |_=>FQ
theorem bEb:∀l p r,aIG l=FP (p,r)->p.holds->fL l->∃ms',lO.leVs 0 l ms'/\∃E:Env AA,aJ E CX ms' r.sat:=by
 intro l p r j A hf;unfold aIG at j;split at j
 .rename_i k n q c f d g a z b w m v x u y t i o s e h;simp only[Z1,Z2]at j;obtain⟨rfl,rfl⟩:=j;have K:kdP z w v u t s q d e g h:=A;exact⟨[qT k n a b m x y o i c f (aH d g) 200,.sl 2 (aH e h).length (iL (aH e h) 200)],⟨tD K.h1 K.h2 K.h3 K.h4 K.h5 K.h6 K.h7 K.hg,aLa K.hh,⟨⟩⟩,aZI k n a b m x y o i c f _ _ (by rw[bA];exact K.he) K.h0 (by rw[bA];exact K.hd)⟩
 .simp at j
def bCG:Ctr AA:=⟨137,aIG,λargs w=>Tryz.call137 args w,gO bT Tryz.func137 aIG bEb⟩
theorem aPD{a:Z}:dL a>0↔0<a:=by unfold dL;split<;>(try split)<;>omega
theorem aZG(k n a b m x y o:Z)(i:N)(c:O)(f:O->MV)(base q:K Z)(g:∀p∈q,2<=p) :
  ∃E:Env AA,aJ E CW [qT k n a b m x y o i c f base 200,.sl 2 q.length (iL q 200)] (AF (fR (aBl n base.length a b m x y o i q) (.ret (.tup [])))):=by
 refine⟨aK [eF,gZ,vO,dQ,aSM,jN,mS,jR,aNY,dC,l9,mT,aJE] aC,?_⟩;rw[<-bAR k n a b m x y o i c f base q 200 (aBl n base.length a b m x y o i q) _ rfl _ rfl];rw[wJ,wJ];generalize d:aBl n base.length a b m x y o i q=T;refine aI beq_iff_eq (λq1=>?_) (λq1=>qP ?_)
 rotate_left
 .rw[<-d]
  match q,q1 with
  |[],_=>rfl
  |[_],q1=>exact W rfl q1
  |_::_::_,_=>rfl
 obtain⟨p,rfl⟩:∃p,q=[p]:=by
  match q,q1 with
  |[p],_=>exact⟨p,rfl⟩
  |[],h=>exact W h (by decide)
  |_::_::r,h=>exact W h (by simp;omega)
 have l:[p].getD (I 0) 0=p:=rfl;rw[l];have hp:=g p (List.mem_singleton.2 rfl);have hl:(([p]:K Z).length:Z)=1:=rfl;have d:(V (base.length=0)&&(V (3<n)&&(V (gcd n 6=1)&&(grB p n&&(V (m=n)&&(V (gcd (4*(a*(a*a))+27*(b*b)) n=1) &&
   (nT a b m x y i&&(!i&&(V (0<o)&&(V (o%p=0) &&
    ((V ((bI a b m (o/p) x y i).e=0)&&!(bI a b m (o/p) x y i).o) &&
    (V ((bI a b m p (bI a b m (o/p) x y i).X (bI a b m (o/p) x y i).Y (bI a b m (o/p) x y i).o).e=0) &&
     (bI a b m p (bI a b m (o/p) x y i).X (bI a b m (o/p) x y i).Y (bI a b m (o/p) x y i).o).o))))))))))))=T:=d
 generalize bI a b m (o/p) x y i=P1 at *;generalize bI a b m p P1.X P1.Y P1.o=P2 at *;refine aI beq_iff_eq (λj=>?_) (λj=>qP (by rw[<-d,Y1 (show ¬base.length=0 by omega)];rfl));rw[Y0 (show base.length=0 by omega),AB]at d;refine⟨by omega,by omega,aI (decide_eq_true_iff.trans lD) (λz=>?_) (λz=>qP (by rw[<-d,Y1 z];rfl))⟩;rw[Y0 z,AB]at d;refine⟨by omega,by omega,aI Z4 (λz=>?_) (λz=>qP (by rw[<-d,Y1 z];rfl))⟩;rw[Y0 z,AB]at d;refine⟨by omega,by omega,aI BO (λz=>?_) (λz=>qP (by rw[<-d,AK.2 z];rfl))⟩;rw[z,AB]at d;refine⟨by omega,by omega,by omega,by omega,aI Z4 (λz=>?_) (λz=>qP (by rw[<-d,Y1 z];rfl))⟩;rw[Y0 z,AB]at d;refine⟨by omega,by omega,by omega,by omega,by omega,by omega,aI Z4 (λz=>?_) (λz=>qP (by rw[<-d,Y1 z];rfl))⟩;rw[Y0 z,AB]at d;refine⟨by omega,aI BO (λz=>?_) (λz=>qP (by rw[<-d,AK.2 z];rfl))⟩;rw[z,AB]at d;refine aI BO (λz=>?_) (λz=>qP (by rw[<-d,AK.2 z];rfl));rw[z,AB]at d;refine aI (decide_eq_true_iff.trans aPD) (λz=>?_) (λz=>qP (by rw[<-d,Y1 z];rfl));rw[Y0 z,AB]at d;refine⟨by omega,by omega,aI Z4 (λz=>?_) (λz=>qP (by rw[<-d,Y1 z];rfl))⟩;rw[Y0 z,AB]at d;refine⟨by omega,aI beq_iff_eq (λz=>?_) (λz=>qP (by rw[<-d,Y1 z];rfl))⟩;rw[Y0 z,AB]at d;refine aI BO (λz=>?_) (λz=>qP (by rw[<-d,AK.2 z];rfl));rw[z,AB]at d;refine⟨by omega,by omega,aI beq_iff_eq (λz=>?_) (λz=>qP (by rw[<-d,Y1 z];rfl))⟩;rw[Y0 z,AB]at d;exact aI BO (λz=>orT (d.symm.trans z)) (λz=>qP (d.symm.trans (AK.2 z)))
def aIE:aG
 |[.st [.int .i64 _,.big n c,.sl 1 _ _,.sl 2 d g,.st [.big a q,.big b p,.big m l],.st [.big x k,.big y j,.bool i],.big o f],.sl 2 e h] =>
  FP (FP (kdP q p l k j f c d e g h),fR (aBl n d a b m x y o i (aH e h)) (.ret (.tup [])))
 |_=>FQ
theorem bD9:∀l p r,aIE l=FP (p,r)->p.holds->fL l->∃ms',lO.leVs 0 l ms'/\∃E:Env AA,aJ E CW ms' r.sat:=by
 intro l p r j A hf;unfold aIE at j;split at j
 .rename_i k n q c f d g a z b w m v x u y t i o s e h;simp only[Z1,Z2]at j;obtain⟨rfl,rfl⟩:=j;have K:kdP z w v u t s q d e g h:=A;have:=aZG k n a b m x y o i c f (aH d g) (aH e h) K.h0;rw[bA d g]at this;exact⟨[qT k n a b m x y o i c f (aH d g) 200,.sl 2 (aH e h).length (iL (aH e h) 200)],⟨tD K.h1 K.h2 K.h3 K.h4 K.h5 K.h6 K.h7 K.hg,aLa K.hh,⟨⟩⟩,this⟩
 .simp at j
def bCE:Ctr AA:=⟨138,aIE,λargs w=>Tryz.call138 args w,gO bT Tryz.func138 aIE bD9⟩
def aNu(n:Z)(base q:K Z)(W:O)(R:N):O->MS->G LoopAnn
 |7,e=>FP (.inv WalkI (MnI n base q R) (λs=>⟨96, [(1,.sl 2 q.length (iL q W)),(2,.bp 0 0),(5,.bp 1 0),(6,.bp 2 0),(9,.int .i64 s.i)],
   e.bx.take 3,0⟩) (λs=>base.length-s.i))
 |_,_=>FQ
theorem aWH(k n a b m x y o:Z)(i:N)(c:O)(f:O->MV)(base q:K Z)(W:O)(R T:N)(d:_)(e:d=(cE (n-1) (aH (H q) (iL q W)))):(fY 1/\(W<=1000000/\64<=1000000)/\(max W 64+1<=300/\1<=n-1/\H q<=90/\(∀(i:O),i<H q->isBig 201 (iL q W i))/\∀(q_1:Z),q_1∈aH (H q) (iL q W)->2<=q_1)/\W<=1000000/\bif !kK n 2 then Aa=T else bif !Option.isSome d then Aa=T else (30000<=1000000/\30000<=1000000)/\(30000+30000<=1000000/\W<=1000000)/\bif V (aX (AQ d 0*AQ d 0) n<=0)then Aa=T else bif (H base:Z) != (H q:Z)then Aa=T else (W<=1000/\W<=1000/\W<=1000/\W<=1000/\W<=1000/\W<=1000)/\bif !dS a b m x y o i then Aa=T else (∃i_1,MnI n base q R i_1/\((2=2/\H q=H q/\LeFun (H q) (iL q W) (iL q W))/\0=0/\0=0/\0=0/\0=(i_1.1:Z)/\S)/\(k=k/\aD n n W W/\(1=1/\c=c/\LeFun c f f)/\(2=2/\H base=H base/\LeFun (H base) (iL base W) (iL base W))/\(aD a a W W/\aD b b W W/\aD m m W W/\S)/\(aD x x W W/\aD y y W W/\i=i/\S)/\aD o o W W/\S)/\aD 1 1 64 64/\aD (n-1) (n-1) (max W 64+1) (max W 64+1)/\S)/\∀(i_1:WalkI),MnI n base q R i_1->bif V ((i_1.1:Z)<(H q:Z))then (0<=(i_1.1:Z)/\(i_1.1:Z)<(H base:Z))/\fY 2/\(W<=1000000/\64<=1000000/\max W 64+1<=1000000)/\bif !(V (2<=J base (I (i_1.1:Z)) 0)&&V (J base (I (i_1.1:Z)) 0<=n-1))then Aa=T else (W<=10000/\max W 64+1<=10000/\W<=10000/\0<n)/\(W<=1000000/\64<=1000000)/\bif !decide (gX (J base (I (i_1.1:Z)) 0) (P (n-1)) n=1)then Aa=T else (0<=(i_1.1:Z)/\(i_1.1:Z)<(H q:Z))/\(max W 64+1<=900000/\W<=900000/\(J q (I (i_1.1:Z)) 0=0->U))/\(W<=10000/\max W 64+1<=10000/\W<=10000/\0<n)/\(W<=1000000/\64<=1000000)/\(max W 64+1<=900000/\W<=900000)/\bif !decide (gcd (gX (J base (I (i_1.1:Z)) 0) (P ((n-1)/J q (I (i_1.1:Z)) 0)) n-1) n=1)then Aa=T else ∃j,MnI n base q R j/\(((2=2/\H q=H q/\LeFun (H q) (iL q W) (iL q W))/\0=0/\0=0/\0=0/\Q FT ((i_1.1:Z)+1)=(j.1:Z)/\S)/\(k=k/\aD n n W W/\(1=1/\c=c/\LeFun c f f)/\(2=2/\H base=H base/\LeFun (H base) (iL base W) (iL base W))/\(aD a a W W/\aD b b W W/\aD m m W W/\S)/\(aD x x W W/\aD y y W W/\i=i/\S)/\aD o o W W/\S)/\aD 1 1 64 64/\aD (n-1) (n-1) (max W 64+1) (max W 64+1)/\S)/\H base-j.1<H base-i_1.1 else FU=T)=aJ (aK [cO,k6,aCM,aCN,eV,iW,uB,aCP,vQ,fJ,kZ,vR] (aNu n base q W R)) C8 [qT k n a b m x y o i c f base W,.sl 2 q.length (iL q W)] (AF (.ret (.bool T))):=by subst e;kernel_rfl
def aNv(n A B:Z)(_base q:K Z)(W:O)(R:N):O->MS->G LoopAnn
 |15,e=>FP (.inv WalkI (PlI n A B q R) (λs=>⟨129, [(1,.sl 2 q.length (iL q W)),(2,.bp 0 0),(5,.bp 1 0),(6,.bp 2 0),(11,.bp 6 0),(12,.bp 7 0),(13,.int .i64 s.i)],
   e.bx.take 8,0⟩) (λs=>q.length-s.i))
 |_,_=>FQ
theorem aWJ(k n a b m x y o:Z)(i:N)(c:O)(f:O->MV)(base q:K Z)(W:O)(A B:Z)(R T:N)(l:_)(w:l=(cE (n+1) (aH (H q) (iL q W))))(h:_)(v:h=(J base (I 0) 0))(g:_)(u:g=(J base (I 1) 0))(e:_)(t:e=(AQ l 0-1))(d:_)(s:d=(max W 64+1))(p:_)(r:p=(H base:Z)):(fY 1/\(W<=1000000/\64<=1000000)/\(max W 64+1<=300/\1<=n+1/\H q<=90/\(∀(i:O),i<H q->isBig 201 (iL q W i))/\∀(q_1:Z),q_1∈aH (H q) (iL q W)->2<=q_1)/\W<=1000000/\bif !kK n 2 then Aa=T else bif !Option.isSome l then Aa=T else bif p != 2 then Aa=T else (W<=1000/\W<=1000/\W<=1000/\W<=1000/\W<=1000/\W<=1000)/\bif !dS a b m x y o i then Aa=T else (30000<=1000000/\64<=1000000)/\(W<=1000000/\64<=1000000)/\(max 30000 64+1<=1000000/\max 30000 64+1<=1000000)/\(max 30000 64+1+(max 30000 64+1)<=1000000/\W<=1000000)/\bif V (aX (e * e) n<=0)then Aa=T else ((0:Z)<=0/\0< p)/\(W<=1000000/\0<=1000000/\max W 64+1<=1000000)/\bif !(V (0<=J base (I 0) 0)&&V (J base (I 0) 0<=n-1))then Aa=T else ((0:Z)<=1/\1< p)/\(W<=1000000/\0<=1000000/\max W 64+1<=1000000)/\bif !(V (0<=J base (I 1) 0)&&V (J base (I 1) 0<=n-1))then Aa=T else ((0:Z)<=0/\0< p)/\((0:Z)<=1/\1< p)/\(W<=1000000/\W<=1000000)/\fY 4/\(64<=1000000/\W<=1000000)/\(W+W<=1000000/\64+W<=1000000)/\(max (W+W) (64+W)+1<=200000/\W<=200000)/\bif gH (J base (I 0) 0*J base (I 0) 0-4*J base (I 1) 0) n != (-1)then Aa=T else (W<=100000/\W<=100000/\max W 64+1<=100000/\W<=100000/\(n=0->U))/\bif V ((H (aA (P (rK h g (P (n+1)) n))):Z)>0)then Aa=T else (∃i_1,PlI n A B q R i_1/\((2=2/\H q=H q/\LeFun (H q) (iL q W) (iL q W))/\0=0/\0=0/\0=0/\0=0/\0=0/\0=(i_1.1:Z)/\S)/\(k=k/\aD n n W W/\(1=1/\c=c/\LeFun c f f)/\(2=2/\H base=H base/\LeFun (H base) (iL base W) (iL base W))/\(aD a a W W/\aD b b W W/\aD m m W W/\S)/\(aD x x W W/\aD y y W W/\i=i/\S)/\aD o o W W/\S)/\aD 1 1 64 64/\aD (n+1) (n+1) d d/\aD (AQ l 0) (AQ l 0) 30000 30000/\aD e e (max 30000 64+1) (max 30000 64+1)/\aD (n-1) (n-1) d d/\aD h h W W/\aD g g W W/\S)/\∀(i_1:WalkI),PlI n A B q R i_1->bif V ((i_1.1:Z)<(H q:Z))then (0<=(i_1.1:Z)/\(i_1.1:Z)<(H q:Z))/\(max W 64+1<=900000/\W<=900000/\(J q (I (i_1.1:Z)) 0=0->U))/\(W<=100000/\W<=100000/\max W 64+1<=100000/\W<=100000/\(n=0->U))/\(W+64<=900000/\W<=900000)/\bif !decide (gcd (rK h g (P ((n+1)/J q (I (i_1.1:Z)) 0)) n) n=1)then Aa=T else ∃j,PlI n A B q R j/\(((2=2/\H q=H q/\LeFun (H q) (iL q W) (iL q W))/\0=0/\0=0/\0=0/\0=0/\0=0/\Q FT ((i_1.1:Z)+1)=(j.1:Z)/\S)/\(k=k/\aD n n W W/\(1=1/\c=c/\LeFun c f f)/\(2=2/\H base=H base/\LeFun (H base) (iL base W) (iL base W))/\(aD a a W W/\aD b b W W/\aD m m W W/\S)/\(aD x x W W/\aD y y W W/\i=i/\S)/\aD o o W W/\S)/\aD 1 1 64 64/\aD (n+1) (n+1) d d/\aD (AQ l 0) (AQ l 0) 30000 30000/\aD e e (max 30000 64+1) (max 30000 64+1)/\aD (n-1) (n-1) d d/\aD h h W W/\aD g g W W/\S)/\H q-j.1<H q-i_1.1 else FU=T)=aJ (aK [cO,k6,gL,aCM,aCN,eV,iW,uB,aCP,aJG,aN3,kZ,vR] (aNv n A B base q W R)) C7 [qT k n a b m x y o i c f base W,.sl 2 q.length (iL q W)] (AF (.ret (.bool T))):=by subst w v u t s r;kernel_rfl
theorem kG{b:N}{p A B:Prop}(h:b=FU↔p)(t:p->B)(f:¬p->A):bif !b then A else B:=by
 grind
theorem aGR{n:Z}:∀ {l:K Z} {o F:Z},pM n l o=FP F->∀q∈l,n%q=0
 |[],_,_,_,_,h=>W h List.not_mem_nil
 |p::r,o,F,a,q,h=>by
  unfold pM at a;split at a
  .rename_i b;rcases DC.1 h with rfl|h
   .exact b
   .exact aGR a q h
  .cases a
theorem aZX(a m:Z)(i j:O):gX (gX a i m) j m=gX a (i*j) m:=by
 grind [gX,aZW,Int.pow_mul]
theorem aVd{n p B:Z}(_hn:2<n)(_hp:2<=p)(h:(n-1)%p=0):gX (gX B ((n-1)/p).natAbs n) p.natAbs n=gX B (n-1).natAbs n:=by
 rw[aZX];have e:p*((n-1)/p)=n-1:=by have:=A8 (n-1) p;omega
 rw[<-DE,DR,e]
theorem aVj(k n a b m x y o:Z)(i:N)(c:O)(f:O->MV)(base q:FZ Z)(hn:2<=n)(w:q.length<=90)(g:∀p∈q,2<=p)(_hb:base.length<=100000) :
  ∃E:Env AA,aJ E C8 [qT k n a b m x y o i c f base 200,.sl 2 q.length (iL q 200)] (AF (.ret (.bool (yJ n base (dS a b m x y o i) q)))):=by
 refine⟨aK [cO,k6,aCM,aCN,eV,iW,uB,aCP,vQ,fJ,kZ,vR] (aNu n base q 200 (aBF n base q)),?_⟩;rw[<-aWH k n a b m x y o i c f base q 200 (aBF n base q) (yJ n base (dS a b m x y o i) q) _ rfl];have l:max 200 64+1=201:=rfl;rw[eK,l];refine⟨by omega,by omega,⟨by omega,by omega,w,λj _=>lE q (by omega) j,g⟩,by omega,?_⟩;generalize d:yJ n base (dS a b m x y o i) q=T;unfold yJ at d;cases v:kK n 2 with
 |false=>rw[v]at d;exact d
 |true =>
 obtain⟨I,n1⟩:=rM.1 v;rw[v,AB]at d;rw[AO,Z5];cases u:cE (n-1) q with
 |none=>rw[u,AP]at d;exact d
 |some F =>
 rw[u]at d;have d:(dS a b m x y o i&&(V (n<F*F)&&(V (base.length=q.length)&&aBF n base q)))=T:=d;rw[BD,AO,Z5,BM];refine⟨by omega,by omega,aI (decide_eq_true_iff.trans uN) (λq1=>by rw[<-d,Y1 (show ¬n<F*F by omega),AH,AP]) (λq1=>?_)⟩;rw[Y0 (show n<F*F by omega),AB]at d;refine aI bne_iff_ne (λH=>by rw[<-d,Y1 (show ¬base.length=q.length by omega),AH,AP]) (λH=>?_);have C:base.length=q.length:=by omega
 rw[Y0 C,AB]at d;refine⟨by omega,?_⟩;cases D:dS a b m x y o i with
 |false=>rw[D]at d;exact d
 |true =>
 rw[D,AB]at d;rw[AO,Z5,<-d];clear d;refine⟨⟨⟨0⟩,⟨Z9 _,rfl⟩,⟨⟨rfl,rfl,AG⟩,rfl,rfl,rfl,rfl,⟨⟩⟩,mO,bQ,bQ,⟨⟩⟩,λj J=>?_⟩;obtain⟨j⟩:=j;obtain⟨L,e⟩:=J;dsimp only at L e⊢;rw[Z8];refine aI Z4 (λG=>?_) (λG=>?_)
 .have h:j<base.length:=by omega
  rw[uG h,uG (show j<q.length by omega),aGy]at e;have K:=g _ (gP (show j<q.length by omega));have A:=aGR u _ (gP (show j<q.length by omega));generalize base.getD j 0=B at *;generalize q.getD j 0=p at *;rw[aVd I K A]at e;have M:Q FT ((j:Z)+1)=((j+1:O):Z):=by rw[aT (by omega) (by omega)];omega
  refine⟨by omega,by omega,by omega,kG (p:=1<B/\B<=n-1) (by rw[Z3,Z4,Z4];omega) (λt=>?_) (λt=>?_)⟩
  .rw[Y0 t.1,Y0 t.2,AB,AB]at e;refine⟨by omega,by omega,kG Z4 (λs=>?_) (λs=>by rw[<-e,Y1 s,AP,AH])⟩;rw[Y0 s,Bool.and_true]at e;refine⟨by omega,by omega,by omega,by omega,by omega,kG Z4 (λr=>?_) (λr=>by rw[<-e,Y1 r,AH])⟩;rw[Y0 r,AB]at e;exact⟨⟨j+1⟩,⟨h,e⟩,⟨⟨⟨rfl,rfl,AG⟩,rfl,rfl,rfl,M,⟨⟩⟩,mO,bQ,bQ,⟨⟩⟩,by show base.length-(j+1)<base.length-j;omega⟩
  grind
 .have z:j=base.length:=by omega
  subst z;rw[AY]at e;exact e
def aDC:aG
 |[.st [.int .i64 _,.big n c,.sl 1 _ _,.sl 2 d g,.st [.big a q,.big b p,.big m l],.st [.big x k,.big y j,.bool i],.big o f],.sl 2 e h] =>
  FP (FP (kdP q p l k j f c d e g h/\2<=n),.ret (.bool (yJ n (aH d g) (dS a b m x y o i) (aH e h))))
 |_=>FQ
theorem aZn:∀l p r,aDC l=FP (p,r)->p.holds->fL l->∃ms',lO.leVs 0 l ms'/\∃E:Env AA,aJ E C8 ms' r.sat:=by
 intro l p r j q hf;unfold aDC at j;split at j
 .rename_i k n w7 c f d g a w1 b w2 m w3 x w4 y w5 i o w6 e h;simp only[Z1,Z2]at j;obtain⟨rfl,rfl⟩:=j;obtain⟨K,s⟩:=q;exact⟨[qT k n a b m x y o i c f (aH d g) 200,.sl 2 (aH e h).length (iL (aH e h) 200)],⟨tD K.h1 K.h2 K.h3 K.h4 K.h5 K.h6 K.h7 K.hg,aLa K.hh,⟨⟩⟩,aVj k n a b m x y o i c f _ _ s (by rw[bA];exact K.he) K.h0 (by rw[bA];exact K.hd)⟩
 .simp at j
def aXH:Ctr AA:=⟨65,aDC,λargs w=>Tryz.call65 args w,gO bT Tryz.func65 aDC aZn⟩
theorem aVk(k n a b m x y o:Z)(i:Bool)(c:F0)(f:F0->MV)(base q:FZ Z)(hn:2<=n)(H:q.length<=90)(r:∀p∈q,2<=p)(_hb:base.length<=100000) :
  ∃E:Env AA,aJ E C7 [qT k n a b m x y o i c f base 200,.sl 2 q.length (iL q 200)] (AF (.ret (.bool (yN n base (dS a b m x y o i) q)))):=by
 refine⟨aK [cO,k6,gL,aCM,aCN,eV,iW,uB,aCP,aJG,aN3,kZ,vR] (aNv n (base.getD 0 0) (base.getD 1 0) base q 200 (aAv n (base.getD 0 0) (base.getD 1 0) q)),?_⟩;rw[<-aWJ k n a b m x y o i c f base q 200 (base.getD 0 0) (base.getD 1 0) (aAv n (base.getD 0 0) (base.getD 1 0) q) (yN n base (dS a b m x y o i) q) _ rfl _ rfl _ rfl _ rfl _ rfl _ rfl];have s:max 200 64+1=201:=rfl;have U:max 30000 64+1=30001:=rfl;rw[eK,s,U];refine⟨by omega,by omega,⟨by omega,by omega,H,λj _=>lE q (by omega) j,r⟩,by omega,?_⟩;generalize d:yN n base (dS a b m x y o i) q=T;unfold yN at d;cases G:kK n 2 with
 |false=>rw[G]at d;exact d
 |true =>
 obtain⟨n2,n1⟩:=rM.1 G;rw[G,AB]at d;rw[AO,Z5];cases K:cE (n+1) q with
 |none=>rw[K,AP]at d;exact d
 |some F =>
 rw[K]at d;have d:(dS a b m x y o i&&(V (n<(F-1)*(F-1))&&aUP n q base))=T:=d;rw[BD,AO,Z5,BM];refine aI bne_iff_ne (λv=>?_) (λv=>?_)
 .rw[<-d];have:aUP n q base=Aa:=by
   match base,v with
   |[],_=>rfl
   |[_],_=>rfl
   |[_,_],v=>exact W rfl v
   |_::_::_::_,_=>rfl
  simp_all
 obtain⟨A,B,rfl⟩:=aKD (l:=base) (by omega);refine⟨by omega,?_⟩;cases L:dS a b m x y o i with
 |false=>rw[L]at d;exact d
 |true =>
 rw[L,AB]at d;rw[AO,Z5];refine⟨by omega,by omega,by omega,by omega,aI (decide_eq_true_iff.trans uN) (λq1=>by rw[<-d,Y1 (show ¬n<(F-1)*(F-1) by omega),AH]) (λq1=>?_)⟩;rw[Y0 (show n<(F-1)*(F-1) by omega),AB]at d;have d:((V (0<=A)&&V (A<n))&&((V (0<=B)&&V (B<n))&&(V (gH (A*A-4*B) n= -1)&&(V (rK A B (n+1).natAbs n=0)&&aAv n A B q))))=T:=d;have R:[A,B].getD 0 0=A:=rfl;have Q:[A,B].getD 1 0=B:=rfl;have N:[A,B].getD (F5 0) 0=A:=rfl;have M:[A,B].getD (F5 1) 0=B:=rfl;have hlen:([A,B]:FZ Z).length=2:=rfl;rw[N,M,R,Q];have out:∀ {C:Z},¬(0<=C/\C<n)->(V (0<=C)&&V (C<n))=Aa:=λh=>by
  simp_all
 refine⟨by omega,by omega,kG (p:=0<=A/\A<n) (by rw[Z3,Z4,Z4];omega) (λu=>?_) (λu=>by rw[<-d,out u,AH])⟩;rw[Y0 u.1,Y0 u.2,AB,AB]at d;refine⟨by omega,by omega,kG (p:=0<=B/\B<n) (by rw[Z3,Z4,Z4];omega) (λt=>?_) (λt=>by rw[<-d,out t,AH])⟩;rw[Y0 t.1,Y0 t.2,AB,AB]at d;refine⟨by omega,by omega,by omega,by omega,by omega,by omega,by omega,aI bne_iff_ne (λD=>by rw[<-d,Y1 D,AH]) (λD=>?_)⟩;rw[Y0 (BY.1 D),AB]at d;refine⟨by omega,aI (decide_eq_true_iff.trans yG) (λz=>by rw[<-d,Y1 z,AH]) (λz=>?_)⟩;rw[Y0 (BY.1 z),AB]at d;rw[<-d];clear d;refine⟨⟨⟨0⟩,⟨Z9 _,rfl⟩,⟨⟨rfl,rfl,AG⟩,rfl,rfl,rfl,rfl,rfl,rfl,⟨⟩⟩,mO,bQ,bQ,bQ,bQ,bQ,bQ,bQ,⟨⟩⟩,λj J=>?_⟩;obtain⟨j⟩:=j;obtain⟨P,e⟩:=J;dsimp only at P e⊢;rw[Z8];refine aI Z4 (λO=>?_) (λO=>?_)
 .have g:j<q.length:=by omega
  rw[uG g,aGM]at e;have hp:=r _ (gP g);generalize q.getD j 0=p at *;have S:FV FT ((j:Z)+1)=((j+1:F0):Z):=by rw[aT (by omega) (by omega)];omega
  refine⟨by omega,by omega,by omega,by omega,kG Z4 (λw=>?_) (λw=>by rw[<-e,Y1 w,AH])⟩;rw[Y0 w,AB]at e;exact⟨⟨j+1⟩,⟨g,e⟩,⟨⟨⟨rfl,rfl,AG⟩,rfl,rfl,rfl,rfl,rfl,S,⟨⟩⟩,mO,bQ,bQ,bQ,bQ,bQ,bQ,bQ,⟨⟩⟩,by show q.length-(j+1)<q.length-j;omega⟩
 .have I:j=q.length:=by omega
  subst I;rw[AY]at e;exact e
def aDE:aG
 |[.st [.int .i64 _,.big n c,.sl 1 _ _,.sl 2 d g,.st [.big a q,.big b p,.big m l],.st [.big x k,.big y j,.bool i],.big o f],.sl 2 e h] =>
  FP (FP (kdP q p l k j f c d e g h/\2<=n),.ret (.bool (yN n (aH d g) (dS a b m x y o i) (aH e h))))
 |_=>FQ
theorem aZp:∀l p r,aDE l=FP (p,r)->p.holds->fL l->∃ms',lO.leVs 0 l ms'/\∃E:Env AA,aJ E C7 ms' r.sat:=by
 intro l p r j q hf;unfold aDE at j;split at j
 .rename_i k n w7 c f d g a w1 b w2 m w3 x w4 y w5 i o w6 e h;simp only[Z1,Z2]at j;obtain⟨rfl,rfl⟩:=j;obtain⟨K,s⟩:=q;exact⟨[qT k n a b m x y o i c f (aH d g) 200,.sl 2 (aH e h).length (iL (aH e h) 200)],⟨tD K.h1 K.h2 K.h3 K.h4 K.h5 K.h6 K.h7 K.hg,aLa K.hh,⟨⟩⟩,aVk k n a b m x y o i c f _ _ s (by rw[bA];exact K.he) K.h0 (by rw[bA];exact K.hd)⟩
 .simp at j
def aXI:Ctr AA:=⟨66,aDE,λargs w=>Tryz.call66 args w,gO bT Tryz.func66 aDE aZp⟩
def aBP:aG
 |[.st [.big A i,.big B j,.big M k],.big z t,.st [.big b n,.big a m,.bool c]] =>
  FP (FP (t<=100000/\i<=200/\j<=200/\k<=200/\n<=200/\m<=200),.ret (aVM (pI A B M z b a c)))
 |_=>FQ
theorem aRR:∀a p r,aBP a=FP (p,r)->p.holds->∃p' r',vF a=FP (p',r')/\p'.holds/\∀b w e,r'.holds b w e->r.holds b w e:=by
 intro a p r h c;unfold aBP at h;split at h
 .rename_i A i B j M k z t px n py m po;simp only[Z1,Z2]at h;obtain⟨rfl,rfl⟩:=h;refine⟨_,_,rfl,c,λb w e h=>?_⟩;rw[wJ];exact h
 .simp at h
def aF9:Ctr AA:=aSX.weaken aBP aRR
theorem aWE(k n a b m x y o:Z)(i:N)(c:O)(f:O->MV)(base q:K Z)(W:O)(T:N)(d:_)(j:d=(pI a b m (o/J q (I 0) 0) x y i))(g:_)(h:g=(pI a b m (J q (I 0) 0) (RS.X d) (RS.Y d) (RS.o d))):(fY 3/\(W<=1000000/\64<=1000000)/\bif V (aX n 3<=0)then Aa=T else fY 6/\(W<=900000/\64<=900000)/\bif !decide (gcd n 6=1)then Aa=T else bif (H q:Z) != 1 then Aa=T else bif V ((H base:Z)>0)then Aa=T else ((0:Z)<=0/\0<(H q:Z))/\(W<=100000/\W<=100000)/\bif !grB (J q (I 0) 0) n then Aa=T else (W<=1000000/\W<=1000000)/\bif !decide (m=n)then Aa=T else (W<=1000/\W<=1000/\W<=1000)/\bif !cT a b m then Aa=T else (W<=200/\W<=200/\W<=200)/\bif !qB a b m then Aa=T else (W<=200/\W<=200/\W<=200/\W<=200/\W<=200)/\bif !nT a b m x y i then Aa=T else bif i then Aa=T else bif V (dL o<=0)then Aa=T else ((0:Z)<=0/\0<(H q:Z))/\(W<=900000/\W<=900000/\(J q (I 0) 0=0->U))/\bif V ((H (aA (P (o%J q (I 0) 0))):Z)>0)then Aa=T else ((0:Z)<=0/\0<(H q:Z))/\(W<=900000/\W<=900000/\(J q (I 0) 0=0->U))/\(W<=100000/\W<=200/\W<=200/\W<=200/\W<=200/\W<=200)/\bif RS.e d != 0 then Aa=T else bif RS.o d then Aa=T else ((0:Z)<=0/\0<(H q:Z))/\(W<=100000/\W<=200/\W<=200/\W<=200/\200<=200/\200<=200)/\bif RS.e g ==0 then RS.o g =T else Aa=T)=aJ (aK [iW,cO,vR,aHs,fJ,zE,aHm,aN4,eM,eB,kZ,aF9] aC) C6 [qT k n a b m x y o i c f base W,.sl 2 q.length (iL q W)] (AF (.ret (.bool T))):=by subst j h;kernel_rfl
theorem aQ1{a b m x y:Z}{i:N}(h:nT a b m x y i=FU):cT a b m=FU:=by
 grind [cT,nT]
theorem aVh(k n a b m x y o:Z)(i:N)(c:O)(f:O->MV)(base q:K Z)(l:∀p∈q,2<=p) :
  ∃E:Env AA,aJ E C6 [qT k n a b m x y o i c f base 200,.sl 2 q.length (iL q 200)] (AF (.ret (.bool (aBl n base.length a b m x y o i q)))):=by
 refine⟨aK [iW,cO,vR,aHs,fJ,zE,aHm,aN4,eM,eB,kZ,aF9] aC,?_⟩;rw[<-aWE k n a b m x y o i c f base q 200 (aBl n base.length a b m x y o i q) _ rfl _ rfl];rw[wJ,wJ];generalize d:aBl n base.length a b m x y o i q=T;have g:q.length=1->aBl n base.length a b m x y o i q=(V (base.length=0)&&(V (3<n)&&(V (gcd n 6=1)&&(grB (q.getD 0 0) n&&(V (m=n)&&(qB a b m &&
   (nT a b m x y i&&(!i&&(V (0<o)&&(V (o%q.getD 0 0=0) &&
    ((V ((bI a b m (o/q.getD 0 0) x y i).e=0)&&!(bI a b m (o/q.getD 0 0) x y i).o) &&
    (V ((bI a b m (q.getD 0 0) (bI a b m (o/q.getD 0 0) x y i).X (bI a b m (o/q.getD 0 0) x y i).Y (bI a b m (o/q.getD 0 0) x y i).o).e=0) &&
     (bI a b m (q.getD 0 0) (bI a b m (o/q.getD 0 0) x y i).X (bI a b m (o/q.getD 0 0) x y i).Y (bI a b m (o/q.getD 0 0) x y i).o).o)))))))))))):=λh=>by
  match q,h with
  |[p],_ =>
   show(V (base.length=0)&&(V (3<n)&&(V (gcd n 6=1)&&(grB p n&&(V (m=n)&&(V (gcd (4*(a*(a*a))+27*(b*b)) n=1)&&_))))))=_;by_cases t:m=n
   .subst t;rfl
   simp_all
 have j:q.length≠1->aBl n base.length a b m x y o i q=Aa:=λh=>by
  match q,h with
  |[],_=>rfl
  |[_],h=>exact W rfl h
  |_::_::_,_=>rfl
 have r:q.getD (I 0) 0=q.getD 0 0:=rfl;rw[r];by_cases s:q.length=1
 .rw[g s]at d;have hp:=l _ (gP (show 0<q.length by omega));generalize q.getD 0 0=p at *;clear g j r;generalize bI a b m (o/p) x y i=P1 at *;generalize bI a b m p P1.X P1.Y P1.o=P2 at *;refine⟨by omega,by omega,aI (decide_eq_true_iff.trans uN) (λz=>by rw[<-d,Y1 (show ¬ 3<n by omega),AH,AP]) (λz=>?_)⟩;rw[Y0 (show 3<n by omega),AB]at d;refine⟨by omega,by omega,kG Z4 (λz=>?_) (λz=>by rw[<-d,Y1 z,AH,AP])⟩;rw[Y0 z,AB]at d;refine aI bne_iff_ne (λz=>W (by omega) z) (λ_=>?_);refine aI Z4 (λz=>by rw[<-d,Y1 (show ¬base.length=0 by omega),AH]) (λz=>?_);rw[Y0 (show base.length=0 by omega),AB]at d;refine⟨by omega,by omega,kG BO (λz=>?_) (λz=>by rw[<-d,AK.2 z,AH])⟩;rw[z,AB]at d;refine⟨by omega,kG Z4 (λz=>?_) (λz=>by rw[<-d,Y1 z,AH])⟩;rw[Y0 z,AB]at d;refine⟨by omega,kG BO (λhcv=>?_) (λz=>?_)⟩
  rotate_left
  .grind [nT,aQ1]
  refine⟨by omega,kG BO (λz=>?_) (λz=>by rw[<-d,AK.2 z,AH])⟩;rw[z,AB]at d;refine⟨by omega,kG BO (λz=>?_) (λz=>by rw[<-d,AK.2 z,AH])⟩;rw[z,AB]at d;cases i with
  |true=>exact d
  |false =>
  rw[BH,AB]at d;rw[Z5];refine aI (decide_eq_true_iff.trans (show dL o<=0↔¬ 0<o by have:=aPD (a:=o);omega)) (λz=>by rw[<-d,Y1 z,AH]) (λz=>?_)
  grind [yG,BH]
 .grind
def aDA:aG
 |[.st [.int .i64 _,.big n c,.sl 1 _ _,.sl 2 d g,.st [.big a q,.big b p,.big m l],.st [.big x k,.big y j,.bool i],.big o f],.sl 2 e h] =>
  FP (FP (kdP q p l k j f c d e g h),.ret (.bool (aBl n d a b m x y o i (aH e h))))
 |_=>FQ
theorem aZk:∀l p r,aDA l=FP (p,r)->p.holds->fL l->∃ms',lO.leVs 0 l ms'/\∃E:Env AA,aJ E C6 ms' r.sat:=by
 intro l p r j A hf;unfold aDA at j;split at j
 .rename_i k n q c f d g a z b w m v x u y t i o s e h;simp only[Z1,Z2]at j;obtain⟨rfl,rfl⟩:=j;have K:kdP z w v u t s q d e g h:=A;have:=aVh k n a b m x y o i c f (aH d g) (aH e h) K.h0;rw[bA d g]at this;exact⟨[qT k n a b m x y o i c f (aH d g) 200,.sl 2 (aH e h).length (iL (aH e h) 200)],⟨tD K.h1 K.h2 K.h3 K.h4 K.h5 K.h6 K.h7 K.hg,aLa K.hh,⟨⟩⟩,this⟩
 .simp at j
def aXG:Ctr AA:=⟨67,aDA,λargs w=>Tryz.call67 args w,gO bT Tryz.func67 aDA aZk⟩
def Ctr.conv{P:Program}(c:Ctr P)(spec:aG)(h:∀a p r,spec a=FP (p,r)->p.holds->fL a->∃ms' p',lO.leVs 0 a ms'/\c.spec ms'=FP (p',r)/\p'.holds):Ctr P :=
 ⟨c.f,spec,c.call,λS w a args p r d e g j b=>by
  obtain⟨ms',p',n,m,l⟩:=h a p r d e (RepAll.facts a _ b);have k:Cuts 0 (B8 S) (B8 S):=⟨λ_ h=>h,λ_ h=>h,λi hi=>by omega⟩;exact c.ok S w ms' args p' r m l g j (rI k a ms' _ n b)⟩
def fG(g:N)(l:K Z):Z:=if g then-(wv l)else wv l
structure okN (g:Bool) (l:List Int):Prop where
 wd:Wd l
 len:l.length<=6
 can:nF g l=true
theorem sX{g:N}{l:K Z}(h:okN g l):fN 0 (.st [.bool g,.ws l]) (.big (fG g l) 200):=by
 obtain⟨d,c⟩:=aQd (s:=⟨0,g,l, [], [],0,0,0,0,0,Aa,0⟩) h.wd h.can;refine⟨d,c,?_⟩;have b:=wG h.wd;have a:(fG g l).natAbs=(wv l).natAbs:=by unfold fG;cases g<;>simp
 rw[a];exact Nat.lt_of_lt_of_le b (AN (by omega) (by have:=h.len;omega))
def aLp:aG
 |[.big a n,.st [.bool g,.ws l]]=>FP (FP (n<=1000/\okN g l),.ret (.bool (V (a=fG g l))))
 |_=>FQ
def aJQ:Ctr AA:=fJ.conv aLp λms p r h b hf=>by
 unfold aLp at h;split at h
 .rename_i a n g l;simp only[Z1,Z2]at h;obtain⟨rfl,rfl⟩:=h;obtain⟨h1,c⟩:n<=1000/\okN g l:=b;exact⟨[.big a n,.big (fG g l) 200],_,⟨bQ,sX c,⟨⟩⟩,rfl,by omega,by omega⟩
 .simp at h
structure PaS where
 k:Nat
 q:List Int
structure PaI (ns parts:List Int) (R:Option (List Int)) (s:PaS):Prop where
 hk:s.k<=parts.length
 hr:bZ ns (parts.drop s.k) s.q=R
 hq:s.q.length=s.k
structure PbI (n:Nat) (f:Nat->MV) (N:Int) (s:WalkI):Prop where
 hi:s.i<=n
 hn:∀x,x<s.i->xG (f x)≠N
def aFS(L:K Stp)(i:O)(a parts:K Z)(R:G (K Z)):O->MS->G LoopAnn
 |3,_=>FP (.inv PaS (PaI a parts R) (λs=>⟨61, [(0,.sl 18 L.length (aF L 200)),(1,.int .i64 i),(6,.bs 0 0 s.q.length),(7,.int .i64 s.k)], [⟨Aa,.rows 2 s.q.length (iL s.q 200)⟩],0⟩) (λs=>parts.length-s.k))
 |9,e=>(match aW 8 e.tm,e.bx with
  |.int _ j, [⟨_,.rows _ n f⟩]=>FP (.inv WalkI (PbI n f (L.getD j.toNat aB).n) (λs=>⟨61, [(0,.sl 18 L.length (aF L 200)),(1,.int .i64 i),(6,aW 6 e.tm),(7,aW 7 e.tm),(8,aW 8 e.tm),(9,.int .i64 s.i)],e.bx,0⟩) (λs=>n-s.i))
  |_,_=>FQ)
 |_,_=>FQ
def aUI(R:G (K Z)):MRes:= .br R.isSome (.ret (.tup [.sl 2 (R.getD []).length (iL (R.getD []) 200),.bool FU])) (.ret (.tup [.val (.slice FQ 0 0),.bool Aa]))
theorem aNc(L:K Stp)(i:O)(g parts:K Z)(R:G (K Z))(e:_)(o:e=λ(i_1:PaS)=>(I (PaS.k i_1:Z)))(a:_)(m:a=λ(i_1:PaS)=>(PaS.q i_1))(b:_)(l:b=(i:Z))(c:_)(p:c=(Stp.parts (J L (I b) aB)))(d:_)(r:d=λ(i_1:PaS)=>(J L (I (J c (e i_1) 0)) aB))(f:_)(h:f=(AQ R [])):((∃i_1,PaI g parts R i_1/\((18=18/\H L=H L/\LeFun (H L) (aF L 200) (aF L 200))/\b = b/\(0=0/\0=H (a i_1))/\0=(PaS.k i_1:Z)/\S)/\(0=H (a i_1)/\LeFun 0 (aN []) (iL (a i_1) 200))/\S)/\∀(i_1:PaS),PaI g parts R i_1->(0<= b/\b <(H L:Z))/\bif V ((PaS.k i_1:Z)<(H c :Z))then (0<= b/\b <(H L:Z))/\(0<=(PaS.k i_1:Z)/\(PaS.k i_1:Z)<(H c :Z))/\bif V (J c (e i_1) 0<0)then bif AU R then (AJ FQ 0 0=AJ FQ 0 0/\H f =0)/\Aa=FU/\S else AJ FQ 0 0=AJ FQ 0 0/\Aa=Aa/\S else bif V (J c (e i_1) 0≥ b)then bif AU R then (AJ FQ 0 0=AJ FQ 0 0/\H f =0)/\Aa=FU/\S else AJ FQ 0 0=AJ FQ 0 0/\Aa=Aa/\S else (∃i_2,PbI (H (a i_1)) (iL (a i_1) 200) (Stp.n (d i_1)) i_2/\((18=18/\H L=H L/\LeFun (H L) (aF L 200) (aF L 200))/\b = b/\(0=0/\H (a i_1) =H (a i_1))/\(PaS.k i_1:Z)=(PaS.k i_1:Z)/\J c (e i_1) 0=J c (e i_1) 0/\0=(i_2.1:Z)/\S)/\(H (a i_1) =H (a i_1)/\LeFun (H (a i_1)) (iL (a i_1) 200) (iL (a i_1) 200))/\S)/\∀(i_2:WalkI),PbI (H (a i_1)) (iL (a i_1) 200) (Stp.n (d i_1)) i_2->bif V ((i_2.1:Z)<(H (a i_1) :Z))then (0<=(i_2.1:Z)/\(i_2.1:Z)<(H (a i_1) :Z))/\I (i_2.1:Z)<H (a i_1)/\(0<=J c (e i_1) 0/\J c (e i_1) 0<(H L:Z))/\(200<=1000/\okN (Stp.neg (d i_1)) (Stp.mag (d i_1)))/\bif V (J (a i_1) (I (i_2.1:Z)) 0=fG (Stp.neg (d i_1)) (Stp.mag (d i_1)))then bif AU R then (AJ FQ 0 0=AJ FQ 0 0/\H f =0)/\Aa=FU/\S else AJ FQ 0 0=AJ FQ 0 0/\Aa=Aa/\S else ∃j,PbI (H (a i_1)) (iL (a i_1) 200) (Stp.n (d i_1)) j/\(((18=18/\H L=H L/\LeFun (H L) (aF L 200) (aF L 200))/\b = b/\(0=0/\H (a i_1) =H (a i_1))/\(PaS.k i_1:Z)=(PaS.k i_1:Z)/\J c (e i_1) 0=J c (e i_1) 0/\Q FT ((i_2.1:Z)+1)=(j.1:Z)/\S)/\(H (a i_1) =H (a i_1)/\LeFun (H (a i_1)) (iL (a i_1) 200) (iL (a i_1) 200))/\S)/\H (a i_1)-j.1<H (a i_1)-i_2.1 else (0<=J c (e i_1) 0/\J c (e i_1) 0<(H L:Z))/\(1<=1/\H (a i_1) <=H (a i_1)/\(H (a i_1) +AW (News.rows 2 1 (aN [MV.st [MV.bool (Stp.neg (d i_1)),MV.ws (Stp.mag (d i_1))]])))*32<=140737488355328)/\∃j,PaI g parts R j/\(((18=18/\H L=H L/\LeFun (H L) (aF L 200) (aF L 200))/\b = b/\(0=0/\H (a i_1) +AW (News.rows 2 1 (aN [MV.st [MV.bool (Stp.neg (d i_1)),MV.ws (Stp.mag (d i_1))]]))=H (PaS.q j))/\Q FT ((PaS.k i_1:Z)+1)=(PaS.k j:Z)/\S)/\(H (a i_1) +1=H (PaS.q j)/\LeFun (H (a i_1) +1) (λq=>bif BZ q (H (a i_1))then iL (a i_1) 200 q else aN [MV.st [MV.bool (Stp.neg (d i_1)),MV.ws (Stp.mag (d i_1))]] (q-H (a i_1))) (iL (PaS.q j) 200))/\S)/\H parts-PaS.k j<H parts-PaS.k i_1 else H (a i_1) <=H (a i_1)/\bif AU R then (2=2/\H (a i_1) =H f/\LeFun (H (a i_1)) (iL (a i_1) 200) (iL f 200))/\FU=FU/\S else U/\FU=Aa/\S)=aJ (aK [aJQ] (aFS L i g parts R)) DA [.sl 18 L.length (aF L 200),.int .i64 i] (AF (aUI R)):=by subst o m l p r h;kernel_rfl
theorem aUG{R:G (K Z)}(h:R=FQ):bif R.isSome then ((AJ FQ 0 0=AJ FQ 0 0/\(R.getD []).length=0)/\Aa=FU/\S)else (AJ FQ 0 0=AJ FQ 0 0/\Aa=Aa/\S):=by
 simp_all
theorem pK(a:K Z)(j:Z)(r q:K Z):bZ a (j::r) q=g (V (0<=j)&&(V (j<a.length)&&!(q.elem (a.getD j.toNat 0)))) (bZ a r (q++[a.getD j.toNat 0])) FQ:=rfl
theorem aBx(l:K Z){m:MV}{z:Z}(h:fN 0 m (.big z 200)):LeFun (l.length+1) (λq=>bif BZ q l.length then iL l 200 q else aN [m] (q-l.length)) (iL (l++[z]) 200):=by
 refine CI λq hq=>?_;show fN 0 (bif BZ q l.length then iL l 200 q else aN [m] (q-l.length)) (.big ((l++[z]).getD q 0) 200);by_cases a:q<l.length
 .have:BZ q l.length=FU:=by simpa [CT]using a
  rw[this,Z6];have e:(l++[z]).getD q 0=l.getD q 0:=by rw[CE,CE,List.getElem?_append_left a]
  rw[e];exact⟨rfl,.inl (Z0 _)⟩
 .have:BZ q l.length=Aa:=by
   grind [BZ,CT]
  rw[this,Z5];have e:q-l.length=0:=by omega
  have b:(l++[z]).getD q 0=z:=by
   simp_all
  rw[e,b];exact h
def nums(L:K Stp):K Z:=L.map Stp.n
theorem aGI{L:K Stp}{i j:O}(hi:i<=L.length)(h:j<i):(nums (L.take i)).getD j 0=(L.getD j aB).n:=by
 grind [nums]
theorem aKS{L:K Stp}{i:O}(hi:i<=L.length):(nums (L.take i)).length=i:=by
 simp[nums];omega
theorem aMP(L:FZ Stp)(i:F0)(T:i<L.length)(_hL:L.length<=1000000)(d:∀j,j<L.length->okS (L.getD j aB))(U:∀j,j<i->(L.getD j aB).can=FU) :
  ∃E:Env AA,aJ E DA [.sl 18 L.length (aF L 200),.int .i64 i] (AF (aUI (bZ (nums (L.take i)) (L.getD i aB).parts []))):=by
 refine⟨aK [aJQ] (aFS L i (nums (L.take i)) (L.getD i aB).parts (bZ (nums (L.take i)) (L.getD i aB).parts [])),?_⟩;rw[<-aNc L i (nums (L.take i)) (L.getD i aB).parts (bZ (nums (L.take i)) (L.getD i aB).parts []) _ rfl _ rfl _ rfl _ rfl _ rfl _ rfl];rw[Z8];have hnl:=aKS (L:=L) (i:=i) (by omega);have hpl:=(d i T).parts;have y:∀j,j<i->(nums (L.take i)).getD j 0=(L.getD j aB).n:=λj h=>aGI (by omega) h;generalize nums (L.take i)=l at *;generalize (L.getD i aB).parts=P at *;refine⟨⟨⟨0, []⟩,⟨Z9 _,rfl,rfl⟩,⟨⟨rfl,rfl,AG⟩,rfl,⟨rfl,rfl⟩,rfl,⟨⟩⟩,⟨rfl,CI λ_ h=>W h (CD _)⟩,⟨⟩⟩,λs J=>?_⟩;obtain⟨k,q⟩:=s;obtain⟨S,a,G⟩:=J;dsimp only at S a G⊢;rw[Z8];generalize hR:bZ l P []=R at *;refine⟨by omega,aI Z4 (λq1=>?_) (λq1=>?_)⟩
 .have e:k<P.length:=by omega
  rw[uG e,pK]at a;generalize P.getD k 0=j at *;refine⟨by omega,by omega,aI Z4 (λM=>aUG ?_) (λM=>aI Z4 (λK=>aUG ?_) (λK=>?_))⟩
  .grind
  .grind
  obtain⟨u,rfl⟩:∃u:F0,j=u:=⟨j.toNat,by omega⟩;rw[Z8]at a⊢;rw[Y0 (show(0:Z)<=u by omega),Y0 (show(u:Z)<(l.length:Z) by omega),y u (by omega),AB,AB]at a;have F:=d u (by omega);have B:=U u (by omega);have H:okN (L.getD u aB).neg (L.getD u aB).mag:=⟨F.wd,F.len,B⟩;have N:fG (L.getD u aB).neg (L.getD u aB).mag=(L.getD u aB).n:=rfl;have f:=sX H;rw[N]at f⊢;generalize (L.getD u aB).n=z at *;generalize (L.getD u aB).neg=g at *;generalize (L.getD u aB).mag=mg at *;refine⟨⟨⟨0⟩,⟨Z9 _,λx c=>W c (CD x)⟩,⟨⟨rfl,rfl,AG⟩,rfl,⟨rfl,rfl⟩,rfl,rfl,rfl,⟨⟩⟩,⟨rfl,AG⟩,⟨⟩⟩,λt J=>?_⟩;obtain⟨t⟩:=t;obtain⟨O,c⟩:=J;dsimp only at O c⊢;rw[Z8];refine aI Z4 (λI=>?_) (λI=>?_)
  .have m:FV FT ((t:Z)+1)=((t+1:F0):Z):=by rw[aT (by omega) (by omega)];omega
   refine⟨by omega,by omega,by omega,⟨by omega,H⟩,aI Z4 (λD=>aUG ?_) (λD=>?_)⟩
   .grind
   .refine⟨⟨t+1⟩,⟨by show t+1<=_;omega,λx (p:x<t+1)=>?_⟩,⟨⟨⟨rfl,rfl,AG⟩,rfl,⟨rfl,rfl⟩,rfl,rfl,m,⟨⟩⟩,⟨rfl,AG⟩,⟨⟩⟩,by show q.length-(t+1)<q.length-t;omega⟩;by_cases o:x<t
    .exact c x o
    .have:x=t:=by omega
     subst this;exact D
  .have v:t=q.length:=by omega
   subst v;have:q.elem z=Aa:=by
    rw[List.elem_eq_contains,AK,Ne,List.contains_iff_mem];intro Q;obtain⟨x,r,p⟩:=CL.1 Q;refine c x r ?_;show q.getD x 0=z
    grind
   rw[this]at a;have a:bZ l (P.drop (k+1)) (q++[z])=R:=a;have m:FV FT ((k:Z)+1)=((k+1:F0):Z):=by rw[aT (by omega) (by omega)];omega
   have w:AW (News.rows 2 1 (aN [MV.st [MV.bool g,MV.ws mg]]))=1:=rfl;rw[w];have b:(q++[z]).length=q.length+1:=by simp
   have C:=aBx q f;refine⟨by omega,⟨Z0 _,Z0 _,by omega⟩,⟨k+1,q++[z]⟩,⟨e,a,by rw[b,G]⟩,⟨⟨⟨rfl,rfl,AG⟩,rfl,⟨rfl,b.symm⟩,m,⟨⟩⟩,⟨b.symm,C⟩,⟨⟩⟩,by show P.length-(k+1)<P.length-k;omega⟩
 .have A:k=P.length:=by omega
  subst A;rw[AY]at a;have a:FP q=R:=a
  grind [AG]
def wU:aG
 |[.sl 18 n f,.int .i64 i]=>FP (FP (0<=i/\i<n/\n<=1000000/\(∀j,j<n->isStp 200 (f j))/\(∀s∈aE n f,okS s)/\(∀s∈(aE n f).take i.toNat,s.can=FU)),
   aUI (bZ (nums ((aE n f).take i.toNat)) ((aE n f).getD i.toNat aB).parts []))
 |_=>FQ
theorem aQ5:∀b p r,wU b=FP (p,r)->p.holds->fL b->∃ms',lO.leVs 0 b ms'/\∃E:Env AA,aJ E DA ms' r.sat:=by
 intro b p r a c hf;unfold wU at a;split at a
 .rename_i n f i;simp only[Z1,Z2]at a;obtain⟨rfl,rfl⟩:=a;obtain⟨h1,h2,h3,k,h,g⟩:=c;obtain⟨i,rfl⟩:∃u:O,i=u:=⟨i.toNat,by omega⟩;rw[Z8]at *;have d:=dG n f;refine⟨[.sl 18 (aE n f).length (aF (aE n f) 200),.int .i64 i],⟨⟨rfl,d.symm,j0 k⟩,rfl,⟨⟩⟩,aMP (aE n f) i (by omega) (by omega) (λj e=>h _ ?_) (λj e=>g _ ?_)⟩
  all_goals grind [List.getElem?_eq_getElem,List.getElem_mem,aE,CL]
 .simp at a
def aF6:Ctr AA:=⟨62,wU,λargs w=>Tryz.call62 args w,gO bT Tryz.func62 wU aQ5⟩
def aE0(z:Z):N×K Z:=if z.natAbs<2^200 then (V (z<0),aA z.natAbs)else (Aa, [])
def aEY(l:K (N×K Z)):O->MV:=λi=>.st [.bool (l.getD i (Aa, [])).1,.ws (l.getD i (Aa, [])).2]
def qR(s:Stp):K (N×K Z):=(s.neg,s.mag)::([s.ca,s.cb,s.cm,s.x,s.y,s.ord]++s.base).map aE0
structure CnI (s:Stp) (w:WalkI):Prop where
 hi:w.i<=7+s.base.length
 hc:0<w.i->s.can=true
def aNq(s:Stp):O->MS->G LoopAnn
 |3,e=>(match aW 3 e.tm with
  |.bs b _ n=>FP (.inv WalkI (CnI s) (λi=>⟨40, [(1,.bp 0 0),(2,.bool Aa),(3,.bs b 0 n),(4,.int .i64 i.i)],aV e.bx b ⟨Aa,.rows 2 n (aEY (qR s))⟩,0⟩) (λi=>7+s.base.length-i.i))
  |_=>FQ)
 |_,_=>FQ
theorem aWB(s:Stp)(T:N)(a:_)(e:a=(Stp.base s))(b:_)(f:b=(News.rows 2 (H a) (iL a 200)))(c:_)(d:c=(Stp.parts s)):((7<=7/\(7+AW b)*32<=140737488355328)/\(∃i,CnI s i/\(0=0/\Aa=Aa/\(0=0/\7+AW b =7+AW b)/\0=(i.1:Z)/\S)/\(Stp.kind s=Stp.kind s/\(Stp.neg s=Stp.neg s/\Stp.mag s=Stp.mag s/\S)/\(1=1/\H c =H c/\LeFun (H c) (bJ c) (bJ c))/\(2=2/\H a =H a/\LeFun (H a) (iL a 200) (iL a 200))/\(aD (Stp.ca s) (Stp.ca s) 200 200/\aD (Stp.cb s) (Stp.cb s) 200 200/\aD (Stp.cm s) (Stp.cm s) 200 200/\S)/\(aD (Stp.x s) (Stp.x s) 200 200/\aD (Stp.y s) (Stp.y s) 200 200/\Stp.inf s=Stp.inf s/\S)/\aD (Stp.ord s) (Stp.ord s) 200 200/\S)/\(7+H a =7+AW b/\LeFun (7+H a) (λq=>bif BZ q 7 then aN [MV.st [MV.bool (Stp.neg s),MV.ws (Stp.mag s)],MV.big (Stp.ca s) 200,MV.big (Stp.cb s) 200,MV.big (Stp.cm s) 200,MV.big (Stp.x s) 200,MV.big (Stp.y s) 200,MV.big (Stp.ord s) 200] q else iL a 200 (q-7)) (aEY (qR s)))/\S)/\∀(i:WalkI),CnI s i->bif V ((i.1:Z)<(↑(7+AW b):Z))then (0<=(i.1:Z)/\(i.1:Z)<(↑(7+AW b):Z))/\I (i.1:Z)<7+AW b/\H (AE (J (qR s) (I (i.1:Z)) (Aa, [])))<=1000000/\bif !nF (AD (J (qR s) (I (i.1:Z)) (Aa, []))) (AE (J (qR s) (I (i.1:Z)) (Aa, [])))then Aa=T else ∃j,CnI s j/\((0=0/\Aa=Aa/\(0=0/\7+AW b =7+AW b)/\Q FT ((i.1:Z)+1)=(j.1:Z)/\S)/\(Stp.kind s=Stp.kind s/\(Stp.neg s=Stp.neg s/\Stp.mag s=Stp.mag s/\S)/\(1=1/\H c =H c/\LeFun (H c) (bJ c) (bJ c))/\(2=2/\H a =H a/\LeFun (H a) (iL a 200) (iL a 200))/\(aD (Stp.ca s) (Stp.ca s) 200 200/\aD (Stp.cb s) (Stp.cb s) 200 200/\aD (Stp.cm s) (Stp.cm s) 200 200/\S)/\(aD (Stp.x s) (Stp.x s) 200 200/\aD (Stp.y s) (Stp.y s) 200 200/\Stp.inf s=Stp.inf s/\S)/\aD (Stp.ord s) (Stp.ord s) 200 200/\S)/\(7+AW b =7+AW b/\LeFun (7+AW b) (aEY (qR s)) (aEY (qR s)))/\S)/\7+H a-j.1<7+H a-i.1 else FU=T)=aJ (aK [aGa] (aNq s)) C9 [m8 s 200] (AF (.ret (.bool T))):=by subst e f d;kernel_rfl
theorem aLc(z:Z):(aE0 z).2.length<=7:=by
 unfold aE0;split
 .rename_i h;have:=bS h;omega
 simp
theorem oV(z:Z):nF (V (z<0)) (aA z.natAbs)=FU:=by
 unfold nF;by_cases h:aA z.natAbs=[]
 .grind [cA]
 .have a:(((aA z.natAbs).length:Z)==0)=Aa:=by
   simp_all
  rw[a,Z5,bne_iff_ne];have h2:=aED _ h
  grind
theorem aLb(z:Z):nF (aE0 z).1 (aE0 z).2=FU:=by
 unfold aE0;split
 .exact oV z
 .rfl
theorem aGT(s:Stp):(qR s).getD 0 (Aa, [])=(s.neg,s.mag):=rfl
theorem aEZ(s:Stp){i:O}(h:i+1<7+s.base.length):∃z,(qR s).getD (i+1) (Aa, [])=aE0 z/\([s.ca,s.cb,s.cm,s.x,s.y,s.ord]++s.base).getD i 0=z:=by
 refine⟨_,?_,rfl⟩;show(([s.ca,s.cb,s.cm,s.x,s.y,s.ord]++s.base).map aE0).getD i (Aa, [])=_
 grind
theorem aZZ{z:Z}(c:Ctx)(w:L)(a:K F)(h:RepC c w (.big z 200) a):RepC c w (.st [.bool (aE0 z).1,.ws (aE0 z).2]) a:=by
 obtain⟨s,rfl,d,b⟩:=h;have e:aE0 z=(V (z<0),aA z.natAbs):=if_pos d;rw[e];exact⟨[.bool (V (z<0))], [s],rfl,rfl, [s], [],rfl,⟨s,rfl,b⟩,rfl⟩
theorem aPe(s:Stp):LeFun (7+s.base.length) (λq=>bif BZ q 7 then aN [.st [.bool s.neg,.ws s.mag],.big s.ca 200,.big s.cb 200,.big s.cm 200,.big s.x 200,.big s.y 200,.big s.ord 200] q else iL s.base 200 (q-7)) (aEY (qR s)):=by
 refine⟨λi a c w b r=>?_⟩;show RepC c w (.st [.bool ((qR s).getD i (Aa, [])).1,.ws ((qR s).getD i (Aa, [])).2]) b
 match i,a,r with
 |0,_,r=>exact r
 |j+1,a,r =>
  obtain⟨z,e,d⟩:=aEZ s a;rw[e];refine aZZ c w b ?_;rw[<-d]
  match j,a,r with
  |0,_,r=>exact r
  |1,_,r=>exact r
  |2,_,r=>exact r
  |3,_,r=>exact r
  |4,_,r=>exact r
  |5,_,r=>exact r
  |k+6,_,r=>exact r
theorem aVf(s:Stp)(h:okS s):∃E:Env AA,aJ E C9 [m8 s 200] (AF (.ret (.bool s.can))):=by
 refine⟨aK [aGa] (aNq s),?_⟩;rw[<-aWB s s.can _ rfl _ rfl _ rfl];have g:AW (News.rows 2 s.base.length (iL s.base 200))=s.base.length:=rfl;rw[g];have hb:=h.base;have hm:=h.len;refine⟨⟨Z0 _,by omega⟩,⟨⟨0⟩,⟨Z9 _,λh=>W h (Nat.lt_irrefl 0)⟩,⟨rfl,rfl,⟨rfl,rfl⟩,rfl,⟨⟩⟩,⟨rfl,⟨rfl,rfl,⟨⟩⟩,⟨rfl,rfl,AG⟩,⟨rfl,rfl,AG⟩,⟨bQ,bQ,bQ,⟨⟩⟩,⟨bQ,bQ,rfl,⟨⟩⟩,bQ,⟨⟩⟩,⟨rfl,aPe s⟩,⟨⟩⟩,λi I=>?_⟩;obtain⟨i⟩:=i;obtain⟨e,d⟩:=I;dsimp only at e d⊢;rw[Z8];refine aI Z4 (λq1=>?_) (λq1=>?_)
 .have a:i<7+s.base.length:=by omega
  have f:Q FT ((i:Z)+1)=((i+1:O):Z):=by rw[aT (by omega) (by omega)];omega
  have c:s.can=FU->∃j,CnI s j/\(((0:O)=0/\Aa=Aa/\((0:O)=0/\7+s.base.length=7+s.base.length)/\Q FT ((i:Z)+1)=(j.i:Z)/\S)/\(s.kind=s.kind/\(s.neg=s.neg/\s.mag=s.mag/\S)/\((1:O)=1/\s.parts.length=s.parts.length/\LeFun s.parts.length (bJ s.parts) (bJ s.parts))/\((2:O)=2/\s.base.length=s.base.length/\LeFun s.base.length (iL s.base 200) (iL s.base 200))/\(aD s.ca s.ca 200 200/\aD s.cb s.cb 200 200/\aD s.cm s.cm 200 200/\S)/\(aD s.x s.x 200 200/\aD s.y s.y 200 200/\s.inf=s.inf/\S)/\aD s.ord s.ord 200 200/\S)/\(7+s.base.length=7+s.base.length/\LeFun (7+s.base.length) (aEY (qR s)) (aEY (qR s)))/\S)/\7+s.base.length-j.i<7+s.base.length-i:=λb =>
   ⟨⟨i+1⟩,⟨a,λ_=>b⟩,⟨⟨rfl,rfl,⟨rfl,rfl⟩,f,⟨⟩⟩,⟨rfl,⟨rfl,rfl,⟨⟩⟩,⟨rfl,rfl,AG⟩,⟨rfl,rfl,AG⟩,⟨bQ,bQ,bQ,⟨⟩⟩,⟨bQ,bQ,rfl,⟨⟩⟩,bQ,⟨⟩⟩,⟨rfl,AG⟩,⟨⟩⟩,by show 7+s.base.length-(i+1)<7+s.base.length-i;omega⟩
  refine⟨by omega,by omega,?_⟩
  match i,a,d,c with
  |0,_,_,c =>
   rw[aGT];refine⟨by show s.mag.length<=_;omega,kG BO (λz=>c z) (λz=>(AK.2 z).symm)⟩
  |i+1,a,d,c =>
   grind [aEZ,aLc,aLb]
 grind
structure rawS (m:MV) (P:Stp->Prop):Prop where
 h:∃s,m=m8 s 200/\okS s/\P s
def bGk(_:Stp):Prop:=True
def aDx:aG
 |[.st [.int .i64 k,.st [.bool g,.ws l],.sl 1 c f,.sl 2 d h,.st [.big a p,.big b n,.big m w3],.st [.big x j,.big y e,.bool i],.big o w6]] =>
  FP (FP (rawS (.st [.int .i64 k,.st [.bool g,.ws l],.sl 1 c f,.sl 2 d h,.st [.big a p,.big b n,.big m w3],.st [.big x j,.big y e,.bool i],.big o w6]) bGk),.ret (.bool (nF g l)))
 |_=>FQ
theorem aZh:bE C9 aDx:=by
 intro ms p r a b;unfold aDx at a;split at a
 .simp only[Z1,Z2]at a;obtain⟨rfl,rfl⟩:=a;obtain⟨⟨s,e,ok,_⟩⟩:=b;unfold m8 at e;cases e;exact aVf s ok
 .simp at a
def aN1:Ctr AA:=⟨63,aDx,λargs w=>Tryz.call63 args w,aM bT Tryz.func63 aDx aZh⟩
end
end Go.Proofs.YtkejceafemeifaaGreatDoor
