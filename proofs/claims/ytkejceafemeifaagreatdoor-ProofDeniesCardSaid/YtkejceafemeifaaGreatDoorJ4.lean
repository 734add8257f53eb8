/-
  Contracts of functions: algoristref07.parts, canonical.
-/
import Derived.Test.YtkejceafemeifaaGreatDoorJ3
import Derived.Test.YtkejceafemeifaaGreatDoorJ2
import Derived.Tactics
import Derived.Tactics2
import Derived.Defers
import Derived.Recover
import Derived.Laws.Pointers

namespace Go.Proofs.YtkejceafemeifaaGreatDoor
open Go Go.RowKit
open Go.IntKind (wrap i64 i32 i16 i8 u64 u32 u16 u8)
open Int (toNat natAbs)
open List (length take drop getD set replicate)
open BitVec (ofInt)
open Int (gcd tmod tdiv fdiv)
open Go.Proofs.Tryz renaming prog->AA,f116->BT,f194->CU,f166->CV,f138->CW,f137->CX,f136->CY,f101->CZ,results203->C3,f67->C6,f66->C7,f65->C8,f63->C9,f62->DA,ntmps203->DB,func203->DG,func116->DH,f204->D0,f203->D1,f201->D2,f196->D3,f195->D4,f193->D5,f192->D6,f191->D7,f190->D8,f189->D9,f188->EA,f187->EB,f186->EC,f185->ED,f175->EE,f174->EF,f173->EG,f172->EH,f171->EI,f170->EJ,f169->EK,f168->EL,f167->EM,f165->EN,f164->EO,f144->EP,f143->EQ,f142->ER,f141->ES,f140->ET,f139->EU,f135->EV,f119->EW,f118->EX,f109->EY,f108->EZ,f107->E0,f106->E1,f105->E2,f104->E3,f103->E4,f102->E5,f100->E6,f96->E8,f95->E9,f81->FA,f77->FB,f76->FC,f74->FD,f64->FE,f56->FF,f53->FG,f52->FH,f51->FI,f49->FJ,f38->FK
open Bool renaming true_and->AB,false_and->AH,eq_false_iff->AK,not_true->AO,and_false->AP,cond_decide->AS,eq_iff_iff->BB,not_false->BH,not_eq_true'->BL,or_eq_true->C5
open Go.IntKind renaming bits->AC
open Prod renaming fst->AD,snd->AE
open MRes renaming sat->AF,holds->DY
open LeFun renaming refl->AG,of_le->CI
open BitVec renaming toNat->AI
open Go.Value renaming slice->AJ,pointer->A6,iface->DF
open Int renaming natAbs_natCast->AL,emod_lt_of_pos->AM,emod_nonneg->AT,mul_assoc->A0,add_mul_emod_self_left->A2,one_mul->A5,emod_add_mul_ediv->A8,sub_emod->BF,mul_emod->BG,tmod_lt_of_pos->BJ,tmod_eq_emod_of_nonneg->BK,le_refl->BN,dvd_mul_of_dvd_right->BP,eq_ofNat_of_zero_le->BQ,emod_eq_zero_of_dvd->BR,mul_le_mul->BW,emod_emod_of_dvd->BX,emod_def->B7,mul_neg->CB,pow_succ->CJ,dvd_refl->CK,natAbs_neg->DD,natAbs_mul->DE,zero_emod->DJ,zero_mul->DM,pow_zero->DN,neg_tmod->DO,mul_zero->DP,mul_comm->DR,le_trans->DS,le_of_lt->DT,pow_add->DZ
open Nat renaming pow_le_pow_right->AN,div_div_eq_div_mul->AR,mul_le_mul_left->AV,pow_zero->AX,pow_succ->AZ,pow_mod->A4,eq_of_beq_eq_true->A7,mod_eq_of_lt->A9,div_eq_of_lt->BA,mul_comm->BE,lt_of_le_of_lt->BI,mod_lt->BS,pow_mul->BU,div_one->BV,blt->BZ,pow_succ'->B1,mul_assoc->B2,dvd_trans->B3,one_le_two_pow->B5,strongRecOn->CC,not_lt_zero->CD,lt_or_ge->CF,le_trans->CG,add_zero->CH,one_pow->CM,one_mul->CN,mul_one->CO,mul_le_mul_right->CP,Coprime->CQ,eq_zero_or_pos->CS,blt_eq->CT,gcd_dvd_right->C0,gcd_dvd_left->C4,le_of_dvd->DI,zero_add->DK,gcd_comm->DL,pow_two->DU,pow_one->DV,pow_add->DW,mul_mod->DX,gcd->FO,beq->FP
open Option renaming getD->AQ,isSome->AU,isSome_some->BD,getD_some->BM
open News renaming len->AW
open List renaming drop_length->AY,length_pos_iff->B0,ext_getElem->CA,getD_eq_getElem?_getD->CE,mem_iff_getElem->CL,range->CR,mem_cons->DC
open _root_.Array renaming getD_eq_getD_getElem?->A1,replicate->C2
open Nat.Coprime renaming dvd_of_dvd_mul_left->A3,pow_right->E7
open Iff renaming rfl->BO
open Classical renaming not_not->BY,choose_spec->FL,choose->FM,byContradiction->FN
open Go.Deferred renaming ofValue->B4
open List.cons renaming injEq->B6
open Ctx renaming args->B8,res->C1
open Go.Act renaming eval->B9
open _root_ renaming Int->Z,True->S,False->U,Nat->O,Bool->N,List->K,Option->G,if_neg->X,absurd->W,cond->g,if_pos->Y,Array->FZ,List->F0,Nat->F1,False->F2,Int->F3
open Decidable renaming decide->V,decide->f,decide->FX
open List renaming length->H,getD->J
open Int renaming natAbs->Q,toNat->I,tmod->T,tdiv->D,tdiv->F4,toNat->F6
open Go.IntKind renaming wrap->P,u32->Aa,i64->FU,wrap->FW,u64->F5
open BitVec renaming ofInt->R
open Go renaming World->L,Value->F,TypeId->FY
open Option renaming some->FQ,none->FR
open Bool renaming false->FT,true->FV
noncomputable section
def aIk:aF
 |[.big a n]=>FQ (FQ (n<=1000000),.ret (.bool (V (a%2=1))))
 |_=>FR
theorem bAh(a:Z)(n:O):(bif V ((H (aA (Q a)):Z)>0)then ((0:Z)<=0/\0<(H (aA (Q a)):Z))/\(P Aa (AI (R (AC Aa) (J (aA (Q a)) (I 0) 0) &&&R (AC Aa) 1):Z)==1)=V (a%2=1)else FT=V (a%2=1))=aJ (aM [] aC) ED [.big a n] (AF (.ret (.bool (V (a%2=1))))):=by kernel_rfl
def aIi:aF
 |[.big a n,.big b m]=>FQ (FQ (n<=900000/\m<=900000/\b≠0),.ret (.big (a/b) n))
 |_=>FR
theorem bAe(a b:Z)(n m:O):((n<=900000/\m<=900000/\(b=0->U))/\a/b=a/b/\(n<=n\/Q (a/b)<2^n))=aJ (aM [g6] aC) D2 [.big a n,.big b m] (AF (.ret (.big (a/b) n))):=by kernel_rfl
def v2f:O->O->O
 |0,_=>0
 |f+1,n=>if n%2=0 then v2f f (n/2)+1 else 0
def v2(n:O):O:=v2f n n
theorem aZW:∀(f g n:O),n<=f->n<=g->n≠0->v2f f n=v2f g n:=by
 intro f
 induction f with
 |zero=>intro g n h _ a;omega
 |succ f ih =>
  intro g n h hg a;obtain⟨k,rfl⟩:∃k,g=k+1:=⟨g-1,by omega⟩;simp only[v2f]
  grind
theorem bEE(f n:O)(h:n<=f)(a:n≠0):v2f f n=v2f n n:=aZW f n n h (Z0 _) a
def aIj:aF
 |[.big a n,.int .u32 m]=>FQ (FQ (n<=1000000/\(m=4\/m=8)),.ret (.int .u32 (a%m)))
 |_=>FR
theorem bAf(a m:Z)(n:O)(b:_)(c:b=(J (aA (Q a)) (I 0) 0)):(bif (H (aA (Q a)):Z)==0 then 0=a%m else ((0:Z)<=0/\0<(H (aA (Q a)):Z))/\(m=0->U)/\bif V (a<0)then bif V (T b m>0)then P Aa (m-T b m)=a%m else T b m=a%m else T b m=a%m)=aJ (aM [] aC) EB [.big a n,.int .u32 m] (AF (.ret (.int .u32 (a%m)))):=by subst c;kernel_rfl
theorem aYd(n:O):(P Aa ((R (AC Aa) ((aA n).getD 0 0) &&&R (AC Aa) 1).toNat:Z)==1)=V (n%2=1):=by
 rw[oJ,AX,BV,kA _ (BS _ (by omega))]
 grind
theorem bDu:bC ED aIk:=by
 intro ms p r h hp;unfold aIk at h;split at h
 .rename_i a n;cases h;refine⟨aM [] aC,?_⟩;rw[<-bAh a n,mA,show I (0:Z)=0 from rfl,aYd,AS]
  grind [aA,bY,B0]
 .simp at h
def aHg:Ctr AA:=⟨185,aIk,λargs w=>Tryz.call185 args w,aN bR Tryz.func185 aIk bDu⟩
theorem bDr:bC D2 aIi:=by
 intro ms p r h c;unfold aIi at h;split at h
 .rename_i a n b m;cases h;obtain⟨hn,hm,hb⟩:=c;refine⟨aM [g6] aC,?_⟩;rw[<-bAe a b n m];omega
 .simp at h
def aSn:Ctr AA:=⟨201,aIi,λargs w=>Tryz.call201 args w,aN bR Tryz.func201 aIi bDr⟩
theorem bDs:dR EB aIj:=by
 intro ms p r h b hf;unfold aIj at h;split at h
 .rename_i a n m;cases h;obtain⟨hn,hm⟩:=b;refine⟨aM [] aC,?_⟩;rw[<-bAf a m n _ rfl,kN,show I (0:Z)=0 from rfl,oJ,AX,BV]
  grind [T,aA,bY,B0,aS9]
 .simp at h
def aSo:Ctr AA:=⟨187,aIj,λargs w=>Tryz.call187 args w,aP bR Tryz.func187 aIj bDs⟩
theorem aDv{n:O}(h:n≠0)(a:n%2=0):v2 n=v2 (n/2)+1:=by
 obtain⟨m,rfl⟩:∃m,n=m+1:=⟨n-1,by omega⟩;show v2f (m+1) (m+1)=_;rw[v2f,Y a,bEE _ _ (by omega) (by omega)];rfl
theorem aE8{n:O}(h2:n%2=1):v2 n=0:=by
 obtain⟨m,rfl⟩:∃m,n=m+1:=⟨n-1,by omega⟩;show v2f (m+1) (m+1)=_;rw[v2f,X (by omega)]
def aCT:aF
 |[.big a n]=>FQ (FQ (n<=900000/\a≠0),.ret (.tup [.big (a/2^v2 a.natAbs) n,.int .i64 (v2 a.natAbs)]))
 |_=>FR
structure TwS where
 k:Nat
 x:Int
def TwI(a:Z)(s:TwS):Prop:=s.x≠0/\a=s.x*2^s.k
def aNc(a:Z)(n:O):O->MS->G LoopAnn
 |2,_=>FQ (.inv TwS (TwI a) (λs=>⟨15, [(1,.bp 0 0),(2,.bp 1 0),(4,.int .i64 s.k)], [⟨FT,.one (.big s.x n)⟩,⟨FT,.one (.big 0 0)⟩],0⟩) (λs=>s.x.natAbs))
 |_,_=>FR
theorem aVX(a:Z)(n:O):((∃i,((TwS.x i=0->U)/\a=TwS.x i*2^TwS.k i)/\(0=0/\0=0/\0=(TwS.k i:Z)/\S)/\aB a (TwS.x i) n n/\aB 0 0 0 0/\S)/\∀(i:TwS),(TwS.x i=0->U)/\a=TwS.x i*2^TwS.k i->n<=1000000/\bif !decide (TwS.x i%2=1)then fP 2/\(n<=900000/\64<=900000/\((2:Z)=0->U))/\∃j,((TwS.x j=0->U)/\a=TwS.x j*2^TwS.k j)/\((0=0/\0=0/\P FU ((TwS.k i:Z)+1)=(TwS.k j:Z)/\S)/\aB (TwS.x i/2) (TwS.x j) n n/\aB 0 0 0 0/\S)/\Q (TwS.x j)<Q (TwS.x i)else aB (TwS.x i) (a/2^v2 (Q a)) n n/\(TwS.k i:Z)=(v2 (Q a):Z)/\S)=aJ (aM [aHg,aFM,aSn] (aNc a n)) EC [.big a n] (AF (.ret (.tup [.big (a/2^v2 a.natAbs) n,.int .i64 (v2 a.natAbs)]))):=by kernel_rfl
theorem bED{n:O}:∀k x:O,x≠0->n=x*2^k->v2 n=v2 x+k:=by
 intro k
 induction k generalizing n with
 |zero=>intro x _ h;rw[h,AX,CO,CH]
 |succ k ih =>
  intro x hx h;have a:x*2≠0:=by omega
  have b:n=x*2*2^k:=by rw[h,AZ,B2,BE 2]
  rw[ih (x*2) a b,aDv a (by omega),Nat.mul_div_cancel _ (by omega)];omega
theorem aYH:dR EC aCT:=by
 intro ms p r h i j;unfold aCT at h;split at h
 .rename_i a n;cases h;obtain⟨hn,l⟩:=i;have hb:a.natAbs<2^n:=j.1;refine⟨aM [aHg,aFM,aSn] (aNc a n),?_⟩;rw[<-aVX a n];refine⟨⟨⟨0,a⟩,⟨l,by simp⟩,(by and_intros<;>first|exact⟨⟩|rfl|omega),⟨rfl,.inl (Z0 _)⟩,⟨rfl,.inl (Z0 _)⟩,⟨⟩⟩,?_⟩
  rintro⟨k,x⟩ ⟨d,b⟩
  have d:x≠0:=d;have b:a=x*2^k:=b;have c:a.natAbs=x.natAbs*2^k:=by rw[b,DE,Int.natAbs_pow];rfl
  have hkn:k<=n:=by
   rcases CF n k with q|q
   .have f:2^n<=2^k:=AN (by omega) (by omega);have m:1*2^k<=x.natAbs*2^k:=CP _ (by omega);omega
   .exact q
  have hxb:x.natAbs<2^n:=by
   have f:1<=2^k:=B5;have m:x.natAbs*1<=x.natAbs*2^k:=AV _ f;omega
  refine⟨by omega,?_⟩;dsimp only;by_cases e:x%2=1
  .rw[Y0 e];have hv:v2 a.natAbs=k:=by rw[bED k x.natAbs (by omega) c,aE8 (by omega),DK]
   grind [Int.mul_ediv_cancel,Int.pow_pos,AO]
  .rw[Y1 e];have g:P FU ((k:Z)+1)=((k+1:O):Z):=by rw[aT (by omega) (by omega)];omega
   rw[BH,Z6];refine⟨by omega,by omega,⟨k+1,x/2⟩,⟨by show x/2≠0;omega,?_⟩,⟨⟨rfl,rfl,g,⟨⟩⟩,⟨rfl,.inl (Z0 _)⟩,⟨rfl,.inl (Z0 _)⟩,⟨⟩⟩,by show(x/2).natAbs<x.natAbs;omega⟩;show a=x/2*2^(k+1);rw[b,CJ,DR (2^k) 2,<-A0]
   congr 1;omega
 .simp at h
def aNG:Ctr AA:=⟨186,aCT,λargs w=>Tryz.call186 args w,aP bR Tryz.func186 aCT aYH⟩
def iZ(a:Z):Z:=if a%8=1\/a%8=7 then 1 else if a%8=3\/a%8=5 then-1 else 0
def rsg(a n:O):Z:=if a%4=3/\n%4=3 then-1 else 1
def aKj:O->O->O->Z
 |0,_,_=>0
 |f+1,a,n=>if a=0 then (if n=1 then 1 else 0)else if a%2=0 then iZ n*aKj f (a/2) n else rsg a n*aKj f (n%a) a
def jac(a n:O):Z:=aKj (a+1) a n
theorem aKk:∀(f g a n:O),a<f->a<g->aKj f a n=aKj g a n:=by
 intro f
 induction f with
 |zero=>intro g a n h;omega
 |succ f ih =>
  intro g a n h hg;obtain⟨k,rfl⟩:∃k,g=k+1:=⟨g-1,by omega⟩
  grind [aKj,BS]
theorem aEb(n:O):jac 0 n=if n=1 then 1 else 0:=rfl
theorem aEa{a n:O}(h:a≠0)(h2:a%2=0):jac a n=iZ n*jac (a/2) n:=by
 grind [jac,aKj,aKk]
theorem aHG{a n:O}(h2:a%2=1):jac a n=rsg a n*jac (n%a) a:=by
 grind [BS,jac,aKj,aKk]
def krf(a:Z):O->O->Z
 |0,_=>0
 |f+1,n=>if n%2=0 then iZ a*krf a f (n/2)else jac (a%n).toNat n
def kr(a:Z)(n:O):Z:=krf a n n
theorem aX9(a:Z):∀(f g n:O),n<=f->n<=g->n≠0->krf a f n=krf a g n:=by
 intro f
 induction f with
 |zero=>intro g n h _ b;omega
 |succ f ih =>
  intro g n h hg b;obtain⟨k,rfl⟩:∃k,g=k+1:=⟨g-1,by omega⟩;simp only[krf]
  grind
theorem aCz{a:Z}{n:O}(h:n≠0)(b:n%2=0):kr a n=iZ a*kr a (n/2):=by
 obtain⟨m,rfl⟩:∃m,n=m+1:=⟨n-1,by omega⟩;show krf a (m+1) (m+1)=_;rw[krf,Y b,aX9 a m _ _ (by omega) (Z0 _) (by omega)];rfl
theorem aMp{a:Z}{n:O}(h2:n%2=1):kr a n=jac (a%n).toNat n:=by
 obtain⟨m,rfl⟩:∃m,n=m+1:=⟨n-1,by omega⟩;show krf a (m+1) (m+1)=_;rw[krf,X (by omega)]
def gA(a n:Z):Z:=if n=0 then (if a.natAbs=1 then 1 else 0)else (if n<0/\a<0 then-1 else 1)*kr a n.natAbs
def aIb:aF
 |[.big a n,.big b m]=>FQ (FQ (n<=200000/\m<=200000),.ret (.int .i64 (gA a b)))
 |_=>FR
structure KrS where
 k:Int
 a:Nat
 n:Nat
structure KrI (r:Int) (N:Nat) (s:KrS):Prop where
 odd:s.n%2=1
 k:s.k=1\/s.k= -1
 val:s.k*jac s.a s.n=r
 ba:s.a<2^N
 bn:s.n<2^N
def aRM(r:Z)(N:O):O->MS->G LoopAnn
 |16,_=>FQ (.inv KrS (KrI r N) (λs=>⟨79, [(2,.bp 0 0),(3,.bp 1 0),(5,.int .i64 s.k)], [⟨FT,.one (.big s.a N)⟩,⟨FT,.one (.big s.n N)⟩],0⟩) (λs=>s.a))
 |_,_=>FR
structure KcS where
 k:Int
 n:Int
structure Kc12 (a r:Int) (m:Nat) (s:KcS):Prop where
 k:s.k=1\/s.k= -1
 pos:0<s.n
 bn:s.n.natAbs<2^m
 odd:a%2=1\/s.n%2=1
 val:s.k*kr a s.n.natAbs=r
structure Kc15 (a r:Int) (m:Nat) (s:KcS):Prop where
 k:s.k=1\/s.k= -1
 pos:0<s.n
 bn:s.n.natAbs<2^m
 odd:s.n%2=1
 val:s.k*kr a s.n.natAbs=r
def krS(a:Z)(n m:O)(k b:Z):MS:=⟨79, [(2,.bp 0 0),(3,.bp 1 0),(5,.int .i64 k)], [⟨FT,.one (.big a n)⟩,⟨FT,.one (.big b m)⟩],0⟩
def aTw(a b:Z)(n m:O):O->MS->G CutAnn
 |12,_=>FQ (.mk KcS (Kc12 a (gA a b) m) (λs=>krS a n m s.k s.n))
 |15,_=>FQ (.mk KcS (Kc15 a (gA a b) m) (λs=>krS a n m s.k s.n))
 |_,_=>FR
def aJY(Γ:K (Ctr AA))(ann:O->MS->G LoopAnn)(cut:O->MS->G CutAnn):Env AA:=⟨Γ, [],39,ann,λ_=> [],cut⟩
theorem aZ7(a b:Z)(n m:O)(c:_)(d:c=(gA a b)):(bif c9 b==0 then n<=1000000/\n<=1000000/\bif V ((Q a:Z)=1)then 1=gA a b else 0=gA a b else n<=1000000/\bif !decide (a%2=1)then m<=1000000/\bif !decide (b%2=1)then 0=gA a b else (bif V (b<0)then bif V (a<0)then m<=1000000/\∃i,Kc12 a c m i/\(0=0/\0=0/\(-1)=KcS.k i/\S)/\aB a a n n/\aB (-b) (KcS.n i) m m/\S else m<=1000000/\∃i,Kc12 a c m i/\(0=0/\0=0/\1=KcS.k i/\S)/\aB a a n n/\aB (-b) (KcS.n i) m m/\S else ∃i,Kc12 a c m i/\(0=0/\0=0/\1=KcS.k i/\S)/\aB a a n n/\aB b (KcS.n i) m m/\S)/\∀(i:KcS),Kc12 a c m i->(m<=900000/\(KcS.n i=0->U))/\(((2:Z)=0->U)/\bif T (v2 (Q (KcS.n i)):Z) 2==1 then (n<=1000000/\((8:Z)=4\/(8:Z)=8))/\(0<=a%8/\a%8<(↑(8:O):Z))/\∃i_1,Kc15 a c m i_1/\(0=0/\0=0/\P FU (KcS.k i*J (jJ 3) (I (a%8)) 0)=KcS.k i_1/\S)/\aB a a n n/\aB (KcS.n i/2^v2 (Q (KcS.n i))) (KcS.n i_1) m m/\S else ∃i_1,Kc15 a c m i_1/\(0=0/\0=0/\KcS.k i=KcS.k i_1/\S)/\aB a a n n/\aB (KcS.n i/2^v2 (Q (KcS.n i))) (KcS.n i_1) m m/\S)/\∀(i:KcS),Kc15 a c m i->(n<=900000/\m<=900000/\(KcS.n i=0->U))/\(∃i_1,KrI c m i_1/\(0=0/\0=0/\KcS.k i=KrS.k i_1/\S)/\aB (a%KcS.n i) (KrS.a i_1:Z) m m/\aB (KcS.n i) (KrS.n i_1:Z) m m/\S)/\∀(i:KrS),KrI c m i->bif V (c9 (KrS.a i:Z)>0)then (m<=900000/\((KrS.a i:Z)=0->U))/\((2:Z)=0->U)/\bif T (v2 (Q (KrS.a i:Z)):Z) 2==1 then (m<=1000000/\((8:Z)=4\/(8:Z)=8))/\(0<=(KrS.n i:Z)%8/\(KrS.n i:Z)%8<(↑(8:O):Z))/\(m<=1000000/\((4:Z)=4\/(4:Z)=8))/\bif (KrS.a i:Z)/2^v2 (Q (KrS.a i:Z))%4==3 then (m<=1000000/\((4:Z)=4\/(4:Z)=8))/\bif (KrS.n i:Z)%4==3 then (m<=900000/\m<=900000/\((KrS.a i:Z)/2^v2 (Q (KrS.a i:Z))=0->U))/\∃j,KrI c m j/\((0=0/\0=0/\P FU (0-P FU (KrS.k i*J (jJ 3) (I ((KrS.n i:Z)%8)) 0))=KrS.k j/\S)/\aB ((KrS.n i:Z)%((KrS.a i:Z)/2^v2 (Q (KrS.a i:Z)))) (KrS.a j:Z) m m/\aB ((KrS.a i:Z)/2^v2 (Q (KrS.a i:Z))) (KrS.n j:Z) m m/\S)/\KrS.a j<KrS.a i else (m<=900000/\m<=900000/\((KrS.a i:Z)/2^v2 (Q (KrS.a i:Z))=0->U))/\∃j,KrI c m j/\((0=0/\0=0/\P FU (KrS.k i*J (jJ 3) (I ((KrS.n i:Z)%8)) 0)=KrS.k j/\S)/\aB ((KrS.n i:Z)%((KrS.a i:Z)/2^v2 (Q (KrS.a i:Z)))) (KrS.a j:Z) m m/\aB ((KrS.a i:Z)/2^v2 (Q (KrS.a i:Z))) (KrS.n j:Z) m m/\S)/\KrS.a j<KrS.a i else (m<=900000/\m<=900000/\((KrS.a i:Z)/2^v2 (Q (KrS.a i:Z))=0->U))/\∃j,KrI c m j/\((0=0/\0=0/\P FU (KrS.k i*J (jJ 3) (I ((KrS.n i:Z)%8)) 0)=KrS.k j/\S)/\aB ((KrS.n i:Z)%((KrS.a i:Z)/2^v2 (Q (KrS.a i:Z)))) (KrS.a j:Z) m m/\aB ((KrS.a i:Z)/2^v2 (Q (KrS.a i:Z))) (KrS.n j:Z) m m/\S)/\KrS.a j<KrS.a i else (m<=1000000/\((4:Z)=4\/(4:Z)=8))/\bif (KrS.a i:Z)/2^v2 (Q (KrS.a i:Z))%4==3 then (m<=1000000/\((4:Z)=4\/(4:Z)=8))/\bif (KrS.n i:Z)%4==3 then (m<=900000/\m<=900000/\((KrS.a i:Z)/2^v2 (Q (KrS.a i:Z))=0->U))/\∃j,KrI c m j/\((0=0/\0=0/\P FU (0-KrS.k i)=KrS.k j/\S)/\aB ((KrS.n i:Z)%((KrS.a i:Z)/2^v2 (Q (KrS.a i:Z)))) (KrS.a j:Z) m m/\aB ((KrS.a i:Z)/2^v2 (Q (KrS.a i:Z))) (KrS.n j:Z) m m/\S)/\KrS.a j<KrS.a i else (m<=900000/\m<=900000/\((KrS.a i:Z)/2^v2 (Q (KrS.a i:Z))=0->U))/\∃j,KrI c m j/\((0=0/\0=0/\KrS.k i=KrS.k j/\S)/\aB ((KrS.n i:Z)%((KrS.a i:Z)/2^v2 (Q (KrS.a i:Z)))) (KrS.a j:Z) m m/\aB ((KrS.a i:Z)/2^v2 (Q (KrS.a i:Z))) (KrS.n j:Z) m m/\S)/\KrS.a j<KrS.a i else (m<=900000/\m<=900000/\((KrS.a i:Z)/2^v2 (Q (KrS.a i:Z))=0->U))/\∃j,KrI c m j/\((0=0/\0=0/\KrS.k i=KrS.k j/\S)/\aB ((KrS.n i:Z)%((KrS.a i:Z)/2^v2 (Q (KrS.a i:Z)))) (KrS.a j:Z) m m/\aB ((KrS.a i:Z)/2^v2 (Q (KrS.a i:Z))) (KrS.n j:Z) m m/\S)/\KrS.a j<KrS.a i else m<=1000000/\bif !decide ((KrS.n i:Z)=1)then 0=gA a b else KrS.k i=gA a b else (bif V (b<0)then bif V (a<0)then m<=1000000/\∃i,Kc12 a c m i/\(0=0/\0=0/\(-1)=KcS.k i/\S)/\aB a a n n/\aB (-b) (KcS.n i) m m/\S else m<=1000000/\∃i,Kc12 a c m i/\(0=0/\0=0/\1=KcS.k i/\S)/\aB a a n n/\aB (-b) (KcS.n i) m m/\S else ∃i,Kc12 a c m i/\(0=0/\0=0/\1=KcS.k i/\S)/\aB a a n n/\aB b (KcS.n i) m m/\S)/\∀(i:KcS),Kc12 a c m i->(m<=900000/\(KcS.n i=0->U))/\(((2:Z)=0->U)/\bif T (v2 (Q (KcS.n i)):Z) 2==1 then (n<=1000000/\((8:Z)=4\/(8:Z)=8))/\(0<=a%8/\a%8<(↑(8:O):Z))/\∃i_1,Kc15 a c m i_1/\(0=0/\0=0/\P FU (KcS.k i*J (jJ 3) (I (a%8)) 0)=KcS.k i_1/\S)/\aB a a n n/\aB (KcS.n i/2^v2 (Q (KcS.n i))) (KcS.n i_1) m m/\S else ∃i_1,Kc15 a c m i_1/\(0=0/\0=0/\KcS.k i=KcS.k i_1/\S)/\aB a a n n/\aB (KcS.n i/2^v2 (Q (KcS.n i))) (KcS.n i_1) m m/\S)/\∀(i:KcS),Kc15 a c m i->(n<=900000/\m<=900000/\(KcS.n i=0->U))/\(∃i_1,KrI c m i_1/\(0=0/\0=0/\KcS.k i=KrS.k i_1/\S)/\aB (a%KcS.n i) (KrS.a i_1:Z) m m/\aB (KcS.n i) (KrS.n i_1:Z) m m/\S)/\∀(i:KrS),KrI c m i->bif V (c9 (KrS.a i:Z)>0)then (m<=900000/\((KrS.a i:Z)=0->U))/\((2:Z)=0->U)/\bif T (v2 (Q (KrS.a i:Z)):Z) 2==1 then (m<=1000000/\((8:Z)=4\/(8:Z)=8))/\(0<=(KrS.n i:Z)%8/\(KrS.n i:Z)%8<(↑(8:O):Z))/\(m<=1000000/\((4:Z)=4\/(4:Z)=8))/\bif (KrS.a i:Z)/2^v2 (Q (KrS.a i:Z))%4==3 then (m<=1000000/\((4:Z)=4\/(4:Z)=8))/\bif (KrS.n i:Z)%4==3 then (m<=900000/\m<=900000/\((KrS.a i:Z)/2^v2 (Q (KrS.a i:Z))=0->U))/\∃j,KrI c m j/\((0=0/\0=0/\P FU (0-P FU (KrS.k i*J (jJ 3) (I ((KrS.n i:Z)%8)) 0))=KrS.k j/\S)/\aB ((KrS.n i:Z)%((KrS.a i:Z)/2^v2 (Q (KrS.a i:Z)))) (KrS.a j:Z) m m/\aB ((KrS.a i:Z)/2^v2 (Q (KrS.a i:Z))) (KrS.n j:Z) m m/\S)/\KrS.a j<KrS.a i else (m<=900000/\m<=900000/\((KrS.a i:Z)/2^v2 (Q (KrS.a i:Z))=0->U))/\∃j,KrI c m j/\((0=0/\0=0/\P FU (KrS.k i*J (jJ 3) (I ((KrS.n i:Z)%8)) 0)=KrS.k j/\S)/\aB ((KrS.n i:Z)%((KrS.a i:Z)/2^v2 (Q (KrS.a i:Z)))) (KrS.a j:Z) m m/\aB ((KrS.a i:Z)/2^v2 (Q (KrS.a i:Z))) (KrS.n j:Z) m m/\S)/\KrS.a j<KrS.a i else (m<=900000/\m<=900000/\((KrS.a i:Z)/2^v2 (Q (KrS.a i:Z))=0->U))/\∃j,KrI c m j/\((0=0/\0=0/\P FU (KrS.k i*J (jJ 3) (I ((KrS.n i:Z)%8)) 0)=KrS.k j/\S)/\aB ((KrS.n i:Z)%((KrS.a i:Z)/2^v2 (Q (KrS.a i:Z)))) (KrS.a j:Z) m m/\aB ((KrS.a i:Z)/2^v2 (Q (KrS.a i:Z))) (KrS.n j:Z) m m/\S)/\KrS.a j<KrS.a i else (m<=1000000/\((4:Z)=4\/(4:Z)=8))/\bif (KrS.a i:Z)/2^v2 (Q (KrS.a i:Z))%4==3 then (m<=1000000/\((4:Z)=4\/(4:Z)=8))/\bif (KrS.n i:Z)%4==3 then (m<=900000/\m<=900000/\((KrS.a i:Z)/2^v2 (Q (KrS.a i:Z))=0->U))/\∃j,KrI c m j/\((0=0/\0=0/\P FU (0-KrS.k i)=KrS.k j/\S)/\aB ((KrS.n i:Z)%((KrS.a i:Z)/2^v2 (Q (KrS.a i:Z)))) (KrS.a j:Z) m m/\aB ((KrS.a i:Z)/2^v2 (Q (KrS.a i:Z))) (KrS.n j:Z) m m/\S)/\KrS.a j<KrS.a i else (m<=900000/\m<=900000/\((KrS.a i:Z)/2^v2 (Q (KrS.a i:Z))=0->U))/\∃j,KrI c m j/\((0=0/\0=0/\KrS.k i=KrS.k j/\S)/\aB ((KrS.n i:Z)%((KrS.a i:Z)/2^v2 (Q (KrS.a i:Z)))) (KrS.a j:Z) m m/\aB ((KrS.a i:Z)/2^v2 (Q (KrS.a i:Z))) (KrS.n j:Z) m m/\S)/\KrS.a j<KrS.a i else (m<=900000/\m<=900000/\((KrS.a i:Z)/2^v2 (Q (KrS.a i:Z))=0->U))/\∃j,KrI c m j/\((0=0/\0=0/\KrS.k i=KrS.k j/\S)/\aB ((KrS.n i:Z)%((KrS.a i:Z)/2^v2 (Q (KrS.a i:Z)))) (KrS.a j:Z) m m/\aB ((KrS.a i:Z)/2^v2 (Q (KrS.a i:Z))) (KrS.n j:Z) m m/\S)/\KrS.a j<KrS.a i else m<=1000000/\bif !decide ((KrS.n i:Z)=1)then 0=gA a b else KrS.k i=gA a b)=aJ (aJY [cQ,aBz,aAP,aHg,aBA,aNG,aSo,mN] (aRM (gA a b) m) (aTw a b n m)) EK [.big a n,.big b m] (AF (.ret (.int .i64 (gA a b)))):=by subst d;kernel_rfl
theorem aPS{n:O}(h:n≠0):n=n/2^v2 n*2^v2 n/\n/2^v2 n%2=1:=by
 induction n using Nat.strongRecOn with
 |ind n ih =>
  by_cases h2:n%2=0
  .grind [aDv,AZ,BE,v2,AR,B2]
  grind [aE8]
theorem oR{q:Z}(h:q%2=1):iZ q=1\/iZ q= -1:=by
 unfold iZ;omega
theorem wD{q:Z}(h:¬q%2=1):iZ q=0:=by
 unfold iZ;omega
theorem aD5(a:Z):(jJ 3).getD (a%8).toNat 0=iZ a:=by
 have h1:0<=a%8/\a%8<8:=by omega
 unfold iZ;generalize a%8=r at *;rcases(show r=0\/r=1\/r=2\/r=3\/r=4\/r=5\/r=6\/r=7 by omega)with h|h|h|h|h|h|h|h<;>subst h<;>decide
theorem aVk{x:Z}(h:x=1\/x= -1):x*x=1:=by rcases h with h|h<;>rw[h]<;>rfl
def tsg(c:O)(x:Z):Z:=if c%2=1 then x else 1
theorem aLA{c:O}{x:Z}(h:x=1\/x= -1):tsg (c+1) x=x*tsg c x:=by
 unfold tsg
 grind
theorem bCQ{x q:O}(a:x≠0)(hq:q%2=1):jac x q=tsg (v2 x) (iZ q)*jac (x/2^v2 x) q:=by
 induction x using Nat.strongRecOn with
 |ind x ih =>
  by_cases b:x%2=0
  .rw[aEa a b,ih (x/2) (by omega) (by omega),aDv a b,AZ,BE (2^v2 (x/2)) 2,<-AR,aLA (oR (by omega)),A0]
  .rw[aE8 (by omega),AX,BV];show _=1*_;rw[A5]
theorem bF8{a:Z}{b:O}(c:b≠0)(ho:a%2=1\/b%2=1):kr a b=tsg (v2 b) (iZ a)*kr a (b/2^v2 b):=by
 induction b using Nat.strongRecOn with
 |ind x ih =>
  by_cases e:x%2=0
  .have d:a%2=1:=by omega
   rw[aCz c e,ih (x/2) (by omega) (by omega) (.inl d),aDv c e,AZ,BE (2^v2 (x/2)) 2,<-AR,aLA (oR d),A0]
  .rw[aE8 (by omega),AX,BV];show _=1*_;rw[A5]
theorem tm2(c:O):(T (c:Z) 2==1)=V (c%2=1):=by
 grind
theorem aW5(x:O):((x:Z)%4==3)=V (x%4=3):=by
 grind
theorem vY{x y:Z}(h:x=1\/x= -1)(k:y=1\/y= -1):x*y=1\/x*y= -1:=by
 grind
theorem aOa{z:Z}(h:0<z):z/2^v2 z.natAbs=((z.natAbs/2^v2 z.natAbs:O):Z):=by
 grind
theorem aX7{p q:N}{M R T:Prop}(h0:M)(hR:p=FV->q=FV->R)(hT:p=FT\/q=FT->T):bif p then M/\bif q then R else T else T:=by
 simp_all
theorem iV{r e k':Z}{m x q y:O}(b:m<=900000)(c:y%2=1)(hyx:y<=x)(hxm:x<2^m)(f:e=k')(d:k'=1\/k'= -1)(hv:k'*jac (q%y) y=r) :
  (m<=(900000:O)/\m<=(900000:O)/\((y:Z)=(0:Z)->U))/\∃j,KrI r m j/\(((0:O)=(0:O)/\(0:O)=(0:O)/\e=KrS.k j/\S)/\
   ((q:Z)%(y:Z)=(KrS.a j:Z)/\(m<=m\/Q ((q:Z)%(y:Z))<(2:O)^m))/\((y:Z)=(KrS.n j:Z)/\(m<=m\/Q (y:Z)<(2:O)^m))/\S)/\KrS.a j<x:=by
 have hlt:=BS q (show y>0 by omega);exact⟨⟨b,b,by omega⟩,⟨k',q%y,y⟩,⟨c,d,hv,by show q%y<_;omega,by show y<_;omega⟩,⟨⟨rfl,rfl,f,⟨⟩⟩,⟨by show _=((q%y:O):Z);omega,.inl (Z0 _)⟩,⟨rfl,.inl (Z0 _)⟩,⟨⟩⟩,by show q%y<x;omega⟩
theorem bDj:dR EK aIb:=by
 intro ms p r h S O;unfold aIb at h;split at h
 .rename_i a n b m;cases h;obtain⟨hn,hm⟩:=S;have ha:a.natAbs<2^n:=O.1;have T:b.natAbs<2^m:=O.2.1;refine⟨aJY [cQ,aBz,aAP,aHg,aBA,aNG,aSo,mN] (aRM (gA a b) m) (aTw a b n m),?_⟩;rw[<-aZ7 a b n m _ rfl];by_cases K:b=0
  .grind [c9,gA]
  have V:(c9 b==0)=FT:=by
   unfold c9
   grind
  have hkro:gA a b=(if b<0/\a<0 then-1 else 1)*kr a b.natAbs:=by unfold gA;rw[X K]
  generalize hr:gA a b=r at *;rw[V,Z5];refine⟨by omega,?_⟩;refine aX7 (by omega) (λF P=>?_) (λo=>?_)
  .grind [aCz,wD]
  have o:a%2=1\/b%2=1:=by simpa using o
  refine⟨?_,?_⟩
  .rw[AS];split
   .rw[AS];split
    .refine⟨by omega,⟨-1,-b⟩,⟨.inr rfl,by show 0< -b;omega,by show(-b).natAbs<_;omega,by show a%2=1\/ -b%2=1;omega,?_⟩,⟨rfl,rfl,rfl,⟨⟩⟩,⟨rfl,.inl (Z0 _)⟩,⟨rfl,.inl (Z0 _)⟩,⟨⟩⟩
     simp_all
    .refine⟨by omega,⟨1,-b⟩,⟨.inl rfl,by show 0< -b;omega,by show(-b).natAbs<_;omega,by show a%2=1\/ -b%2=1;omega,?_⟩,⟨rfl,rfl,rfl,⟨⟩⟩,⟨rfl,.inl (Z0 _)⟩,⟨rfl,.inl (Z0 _)⟩,⟨⟩⟩
     simp_all
   .refine⟨⟨1,b⟩,⟨.inl rfl,by show 0<b;omega,T,o,?_⟩,⟨rfl,rfl,rfl,⟨⟩⟩,⟨rfl,.inl (Z0 _)⟩,⟨rfl,.inl (Z0 _)⟩,⟨⟩⟩
    simp_all
  rintro⟨k,c⟩ f
  have j:k=1\/k= -1:=f.k;have d:0<c:=f.pos;have l:c.natAbs<2^m:=f.bn;have G:a%2=1\/c%2=1:=f.odd;have hv:k*kr a c.natAbs=r:=f.val;clear f;dsimp only;rw[tm2,aOa d,aD5];have B:c.natAbs≠0:=by omega
  have D:v2 c.natAbs%2=1->a%2=1:=λh=>by
   grind [aE8]
  obtain⟨M,s2⟩:=aPS B;rw[bF8 B (by omega)]at hv;generalize v2 c.natAbs=v at *;generalize c.natAbs/2^v=y at *;have H:y<2^m:=by
   have F:1<=2^v:=B5;have P:y*1<=y*2^v:=AV _ F;omega
  refine⟨by omega,⟨by omega,?_⟩,?_⟩
  .rw[AS];split
   .rename_i u;have L:=D u;have E:=vY j (oR L);have t:FW FU (k*iZ a)=k*iZ a:=by rcases E with h|h<;>rw[h]<;>rfl
    refine⟨⟨by omega,.inr rfl⟩,by omega,⟨k*iZ a,y⟩,⟨E,by show(0:Z)<y;omega,by show(y:Z).natAbs<_;omega,by show(y:Z)%2=1;omega,?_⟩,⟨rfl,rfl,t,⟨⟩⟩,⟨rfl,.inl (Z0 _)⟩,⟨rfl,.inl (Z0 _)⟩,⟨⟩⟩
    grind [iZ,kr,tsg,AL,A0]
   .rename_i u;refine⟨⟨k,y⟩,⟨j,by show(0:Z)<y;omega,by show(y:Z).natAbs<_;omega,by show(y:Z)%2=1;omega,?_⟩,⟨rfl,rfl,rfl,⟨⟩⟩,⟨rfl,.inl (Z0 _)⟩,⟨rfl,.inl (Z0 _)⟩,⟨⟩⟩
    grind [kr,tsg,AL]
  clear hv j M s2 H D G l d B
  rintro⟨k,c⟩ f
  have j:k=1\/k= -1:=f.k;have d:0<c:=f.pos;have l:c.natAbs<2^m:=f.bn;have G:c%2=1:=f.odd;have hv:k*kr a c.natAbs=r:=f.val;clear f;dsimp only;obtain⟨q,rfl⟩:=BQ (DT d);rw[AL]at l hv;have J:=AT a (show(q:Z)≠0 by omega);have I:=AM a d;refine⟨by omega,⟨⟨k,(a%q).toNat,q⟩,⟨by show q%2=1;omega,j,?_,by show(a%q).toNat<_;omega,l⟩,⟨rfl,rfl,rfl,⟨⟩⟩,⟨by show a%q=((a%q).toNat:Z);omega,.inl (Z0 _)⟩,⟨rfl,.inl (Z0 _)⟩,⟨⟩⟩,?_⟩
  .grind [jac,aMp]
  clear hv j G J I l d
  rintro⟨k,x,q⟩ C
  have R:q%2=1:=C.odd;have j:k=1\/k= -1:=C.k;have hv:k*jac x q=r:=C.val;have i:x<2^m:=C.ba;have hqm:q<2^m:=C.bn;clear C;dsimp only;by_cases N:x=0
  .grind [c9,aEb]
  have U:FX (c9 (x:Z)>0)=FV:=by rw[aDr (by omega)];rfl
  have Q:=aOa (z:=(x:Z)) (by omega);rw[AL]at Q;rw[U,Z6];rw[AL,Q,tm2,aD5,aW5,aW5];obtain⟨M,s2⟩:=aPS N;rw[bCQ N R]at hv;generalize v2 x=v at *;generalize x/2^v=y at *;have g:y<=x:=by
   have F:1<=2^v:=B5;have P:y*1<=y*2^v:=AV _ F;omega
  rw[aHG s2]at hv;have E:=oR (q:=(q:Z)) (by omega);have t:∀ {z:Z},z=1\/z= -1->FW FU z=z:=λh=>by rcases h with h|h<;>rw[h]<;>rfl
  have e:=vY j E;have s:∀ {z:Z},z=1\/z= -1->(0-z=1\/0-z= -1):=λh=>by rcases h with h|h<;>rw[h]<;>decide
  refine⟨by omega,by omega,?_⟩;by_cases u:v%2=1
  .rw[Y0 u,Z6];unfold tsg at hv;rw[Y u]at hv;refine⟨⟨by omega,.inr rfl⟩,by omega,⟨by omega,.inl rfl⟩,?_⟩;by_cases A:y%4=3
   .rw[Y0 A,Z6];refine⟨⟨by omega,.inl rfl⟩,?_⟩;by_cases w:q%4=3
    .rw[Y0 w,Z6];unfold rsg at hv;rw[Y ⟨A,w⟩]at hv;exact iV (by omega) s2 g i (by rw[t e,t (s e)]) (s e) (by rw[<-hv];grind)
    .rw[Y1 w,Z5];unfold rsg at hv;rw[X (by omega)]at hv;exact iV (by omega) s2 g i (t e) e (by rw[<-hv];grind)
   .rw[Y1 A,Z5];unfold rsg at hv;rw[X (by omega)]at hv;exact iV (by omega) s2 g i (t e) e (by rw[<-hv];grind)
  .rw[Y1 u,Z5];unfold tsg at hv;rw[X u,A5]at hv;refine⟨⟨by omega,.inl rfl⟩,?_⟩;by_cases A:y%4=3
   .rw[Y0 A,Z6];refine⟨⟨by omega,.inl rfl⟩,?_⟩;by_cases w:q%4=3
    .rw[Y0 w,Z6];unfold rsg at hv;rw[Y ⟨A,w⟩]at hv;exact iV (by omega) s2 g i (t (s j)) (s j) (by rw[<-hv];grind)
    .rw[Y1 w,Z5];unfold rsg at hv;rw[X (by omega),A5]at hv;exact iV (by omega) s2 g i rfl j hv
   .rw[Y1 A,Z5];unfold rsg at hv;rw[X (by omega),A5]at hv;exact iV (by omega) s2 g i rfl j hv
 .simp at h
def aSi:Ctr AA:=⟨169,aIb,λargs w=>Tryz.call169 args w,aP bR Tryz.func169 aIb bDj⟩
def aCP:aF
 |[.big a n,.big b m]=>FQ (FQ (n<=200000/\m<=200000),.br (V (0<b)) (.br (V (gcd a b=1)) (.ret (.tup [.big (bQ a b) m,.int .i64 0])) (.ret (.tup [.big 0 0,.int .i64 4]))) (.ret (.tup [.big 0 0,.int .i64 1])))
 |_=>FR
theorem aVT(a b:Z)(n m:O):(bif V (c9 b<1)then bif V (0<b)then bif V (gcd a b=1)then aB 0 (bQ a b) 0 m/\(1:Z)=0/\S else aB 0 0 0 0/\(1:Z)=4/\S else aB 0 0 0 0/\(1:Z)=1/\S else (n<=900000/\m<=900000/\(b=0->U))/\(m<=300000/\m<=300000/\(b=0->U))/\m<=1000000/\bif !decide ((gcd (a%b) b:Z)=1)then bif V (0<b)then bif V (gcd a b=1)then aB 0 (bQ a b) 0 m/\(4:Z)=0/\S else aB 0 0 0 0/\(4:Z)=4/\S else aB 0 0 0 0/\(4:Z)=1/\S else (m<=900000/\m<=900000/\(b=0->U))/\bif V (0<b)then bif V (gcd a b=1)then aB (sV (a%b) b%b) (bQ a b) m m/\(0:Z)=0/\S else aB (sV (a%b) b%b) 0 m 0/\(0:Z)=4/\S else aB (sV (a%b) b%b) 0 m 0/\(0:Z)=1/\S)=aJ (aM [mN,cQ,aCh,aAP] aC) EX [.big a n,.big b m] (AF (.br (V (0<b)) (.br (V (gcd a b=1)) (.ret (.tup [.big (bQ a b) m,.int .i64 0])) (.ret (.tup [.big 0 0,.int .i64 4]))) (.ret (.tup [.big 0 0,.int .i64 1])))):=by kernel_rfl
theorem aPB{b:Z}:V (c9 b<1)=!decide (0<b):=by
 grind [c9]
theorem aYD:dR EX aCP:=by
 intro ms p r h c hf;unfold aCP at h;split at h
 .rename_i a n b m;cases h;obtain⟨hn,hm⟩:=c;refine⟨aM [mN,cQ,aCh,aAP] aC,?_⟩;rw[<-aVT a b n m,aPB];by_cases e:0<b
  .rw[Y0 e,yW];refine⟨by omega,by omega,by omega,?_⟩;by_cases d:gcd a b=1
   .have f:V ((gcd a b:Z)=1)=FV:=Y0 (by omega);rw[f,Y0 d];exact⟨by omega,⟨rfl,.inl (Z0 _)⟩,(by and_intros<;>first|exact⟨⟩|rfl|omega)⟩
   grind
  grind
 .simp at h
def aNE:Ctr AA:=⟨118,aCP,λargs w=>Tryz.call118 args w,aP bR Tryz.func118 aCP aYD⟩
def fQ(a:Z)(e:O)(m:Z):Z:=a^e%m
def aCS:aF
 |[.big a n,.big b k,.ref (.big m l)]=>FQ (FQ (n<=200000/\k<=200000/\l<=200000/\0<m),.ret (.big (a*b%m) l))
 |_=>FR
theorem aVW(a b m:Z)(n k l:O):((n<=1000000/\k<=1000000)/\(n+k<=900000/\l<=900000/\(m=0->U))/\a*b%m=a*b%m/\(l<=l\/Q (a*b%m)<2^l))=aJ (aM [i9,mN] aC) EW [.big a n,.big b k,.ref (.big m l)] (AF (.ret (.big (a*b%m) l))):=by kernel_rfl
theorem aYG:bC EW aCS:=by
 intro ms p r h c;unfold aCS at h;split at h
 .rename_i a n b k m l;cases h;obtain⟨h1,h2,h3,h4⟩:=c;refine⟨aM [i9,mN] aC,?_⟩;rw[<-aVW a b m n k l];omega
 .simp at h
def aNF:Ctr AA:=⟨119,aCS,λargs w=>Tryz.call119 args w,aN bR Tryz.func119 aCS aYG⟩
def rR(a e m:Z):Z:=if e<0 then fQ (bQ a m) e.natAbs m else fQ a e.natAbs m
def aIm:aF
 |[.big a n,.big e k,.big m l]=>FQ (FQ (n<=100000/\k<=100000/\l<=100000),.br (V (0<m)) (.br (V (e<0)&&!decide (gcd a m=1)) (.ret (.tup [.big 0 0,.int .i64 4])) (.ret (.tup [.big (rR a e m) l,.int .i64 0]))) (.ret (.tup [.big 0 0,.int .i64 1])))
 |_=>FR
structure PwC where
 a:Int
 e:Int
structure PwCI (a e m:Int) (k:Nat) (s:PwC):Prop where
 e0:0<=s.e
 ek:s.e.natAbs<2^k
 m0:0<m
 g:e<0->gcd a m=1
 v:fQ s.a s.e.natAbs m=rR a e m
structure PwS where
 i:Nat
 x:Int
 y:Int
structure PwI (a:Int) (e:Nat) (m:Int) (s:PwS):Prop where
 i:s.i<=bl e
 x:s.x=fQ a (e%2^s.i) m
 y:s.y=fQ a (2^s.i) m
def pwS(a e m:Z)(n k l:O)(r:Z×O)(s:PwS):MS:=⟨66, [(4,.bp 1 0),(5,.bp 2 0),(6,.bp 3 0),(10,.fn 119 [.bp 2 0]),(11,.bp 4 0),(12,.bp 5 0),(41,.int .i64 (bl e.natAbs)),(42,.int .i64 s.i)],
 [⟨FT,.one (.big a n)⟩,⟨FT,.one (.big e k)⟩,⟨FT,.one (.big m l)⟩,⟨FT,.one (.big r.1 r.2)⟩,⟨FT,.one (.big s.x l)⟩,⟨FT,.one (.big s.y l)⟩],0⟩
def aRO(m:Z)(n k l:O):O->MS->G LoopAnn
 |11,s=>(match s.bx with
  |⟨_,.one (.big a _)⟩::⟨_,.one (.big e _)⟩::_=>FQ (.inv PwS (PwI a e.natAbs m) (pwS a e m n k l (0,0)) (λs=>bl e.natAbs-s.i))
  |_=>FR)
 |_,_=>FR
def aTx(a e m:Z)(n k l:O):O->MS->G CutAnn
 |8,_=>FQ (.mk PwC (PwCI a e m k) (λs=>⟨66, [(3,.bp 0 0),(4,.bp 1 0),(5,.bp 2 0),(6,.bp 3 0)], [⟨FT,.one (.big s.a n)⟩,⟨FT,.one (.big s.e k)⟩,⟨FT,.one (.big m l)⟩,⟨FT,.one (.big 0 0)⟩],0⟩))
 |_,_=>FR
theorem bAj(a e m:Z)(n k l:O)(b:_)(c:b=λ(i:PwC)=>(Q (PwC.e i))):(bif V (c9 m<1)then bif V (0<m)then bif V (e<0)&&!decide (gcd a m=1)then aB 0 0 0 0/\(1:Z)=4/\S else aB 0 (rR a e m) 0 l/\(1:Z)=0/\S else aB 0 0 0 0/\(1:Z)=1/\S else (bif V (e<0)then (n<=200000/\l<=200000)/\bif V (0<m)then bif V (gcd a m=1)then k<=1000000/\∃i,PwCI a e m k i/\(0=0/\0=0/\0=0/\0=0/\S)/\aB (bQ a m) (PwC.a i) l (max n l)/\aB (-e) (PwC.e i) k k/\aB m m l l/\aB 0 0 0 0/\S else bif V (0<m)then bif V (e<0)&&!decide (gcd a m=1)then aB 0 0 0 0/\(4:Z)=4/\S else aB 0 (rR a e m) 0 l/\(4:Z)=0/\S else aB 0 0 0 0/\(4:Z)=1/\S else bif V (0<m)then bif V (e<0)&&!decide (gcd a m=1)then aB 0 0 0 0/\(1:Z)=4/\S else aB 0 (rR a e m) 0 l/\(1:Z)=0/\S else aB 0 0 0 0/\(1:Z)=1/\S else ∃i,PwCI a e m k i/\(0=0/\0=0/\0=0/\0=0/\S)/\aB a (PwC.a i) n (max n l)/\aB e (PwC.e i) k k/\aB m m l l/\aB 0 0 0 0/\S)/\∀(i:PwC),PwCI a e m k i->fP 1/\(64<=900000/\l<=900000/\(m=0->U))/\(max n l<=900000/\l<=900000/\(m=0->U))/\k<=1000000/\(∃i_1,PwI (PwC.a i) (b i) m i_1/\(0=0/\0=0/\0=0/\(0=0/\S)/\0=0/\0=0/\(bl (b i) :Z)=(bl (b i) :Z)/\0=(PwS.i i_1:Z)/\S)/\aB (PwC.a i) (PwC.a i) (max n l) (max n l)/\aB (PwC.e i) (PwC.e i) k k/\aB m m l l/\aB 0 0 0 0/\aB (1%m) (PwS.x i_1) l l/\aB (PwC.a i%m) (PwS.y i_1) l l/\S)/\∀(i_1:PwS),PwI (PwC.a i) (b i) m i_1->bif V ((PwS.i i_1:Z)<(bl (b i) :Z))then ((32:Z)=0->U)/\(0<=P FU (D (PwS.i i_1:Z) 32)/\P FU (D (PwS.i i_1:Z) 32)<(H (aA (b i)):Z))/\((32:Z)=0->U)/\0<=T (PwS.i i_1:Z) 32/\bif P Aa (AI (R (AC Aa) (fdiv (J (aA (b i)) (I (P FU (D (PwS.i i_1:Z) 32))) 0) ((2:Z)^min (I (T (PwS.i i_1:Z) 32)) (AC Aa))) &&&R (AC Aa) 1):Z)==1 then (l<=200000/\l<=200000/\l<=200000/\0<m)/\(l<=200000/\l<=200000/\l<=200000/\0<m)/\∃j,PwI (PwC.a i) (b i) m j/\((0=0/\0=0/\0=0/\(0=0/\S)/\0=0/\0=0/\(bl (b i) :Z)=(bl (b i) :Z)/\P FU ((PwS.i i_1:Z)+1)=(PwS.i j:Z)/\S)/\aB (PwC.a i) (PwC.a i) (max n l) (max n l)/\aB (PwC.e i) (PwC.e i) k k/\aB m m l l/\aB 0 0 0 0/\aB (PwS.x i_1*PwS.y i_1%m) (PwS.x j) l l/\aB (PwS.y i_1*PwS.y i_1%m) (PwS.y j) l l/\S)/\bl (b i)-PwS.i j<bl (b i)-PwS.i i_1 else (l<=200000/\l<=200000/\l<=200000/\0<m)/\∃j,PwI (PwC.a i) (b i) m j/\((0=0/\0=0/\0=0/\(0=0/\S)/\0=0/\0=0/\(bl (b i) :Z)=(bl (b i) :Z)/\P FU ((PwS.i i_1:Z)+1)=(PwS.i j:Z)/\S)/\aB (PwC.a i) (PwC.a i) (max n l) (max n l)/\aB (PwC.e i) (PwC.e i) k k/\aB m m l l/\aB 0 0 0 0/\aB (PwS.x i_1) (PwS.x j) l l/\aB (PwS.y i_1*PwS.y i_1%m) (PwS.y j) l l/\S)/\bl (b i)-PwS.i j<bl (b i)-PwS.i i_1 else bif V (0<m)then bif V (e<0)&&!decide (gcd a m=1)then aB (PwS.x i_1) 0 l 0/\(0:Z)=4/\S else aB (PwS.x i_1) (rR a e m) l l/\(0:Z)=0/\S else aB (PwS.x i_1) 0 l 0/\(0:Z)=1/\S)=aJ (aJY [cQ,aNE,aBA,aNF,aFM,mN,tC] (aRO m (max n l) k l) (aTx a e m (max n l) k l)) FB [.big a n,.big e k,.big m l] (AF (.br (V (0<m)) (.br (V (e<0)&&!decide (gcd a m=1)) (.ret (.tup [.big 0 0,.int .i64 4])) (.ret (.tup [.big (rR a e m) l,.int .i64 0]))) (.ret (.tup [.big 0 0,.int .i64 1])))):=by subst c;kernel_rfl
theorem aAc(a m:Z):fQ a 0 m=1%m:=by unfold fQ;rw[DN]
theorem aH1(a m:Z):fQ a 1 m=a%m:=by unfold fQ;rw[CJ,DN,A5]
theorem aAb(a m:Z)(i j:O):fQ a i m*fQ a j m%m=fQ a (i+j) m:=by
 grind [fQ,BG,DZ]
theorem PwI.init(a:Z)(e:O)(m:Z):PwI a e m ⟨0,1%m,a%m⟩ :=
 ⟨Z9 _,by show 1%m=fQ a (e%2^0) m;rw[AX,Nat.mod_one,aAc],by show a%m=fQ a (2^0) m;rw[AX,aH1]⟩
theorem PwI.step{a:Z}{e:O}{m:Z}{i:O}{x y:Z}(h:PwI a e m ⟨i,x,y⟩)(d:i<bl e) :
  (V (e/2^i%2=1)=FV->PwI a e m ⟨i+1,x*y%m,y*y%m⟩)/\(V (e/2^i%2=1)=FT->PwI a e m ⟨i+1,x,y*y%m⟩):=by
 have hx:x=fQ a (e%2^i) m:=h.x;have f:y=fQ a (2^i) m:=h.y;have b:y*y%m=fQ a (2^(i+1)) m:=by rw[f,aAb,AZ,Nat.mul_two]
 have hs:e%2^(i+1)=e%2^i+2^i*(e/2^i%2):=Nat.mod_pow_succ;refine⟨λc=>⟨d,?_,b⟩,λc=>⟨d,?_,b⟩⟩
 .have c:=of_decide_eq_true c;show x*y%m=fQ a (e%2^(i+1)) m
  simp_all [CO,aAb]
 .simp_all
theorem PwI.fin{a:Z}{e:O}{m:Z}{i:O}{x y:Z}(h:PwI a e m ⟨i,x,y⟩)(hi:¬i<bl e):x=fQ a e m:=by
 have h1:i<=bl e:=h.i;have hx:x=fQ a (e%2^i) m:=h.x
 grind [bl,A9,kC]
theorem bDw:dR FB aIm:=by
 intro ms p r h s t;unfold aIm at h;split at h
 .rename_i a n e k m l;cases h;obtain⟨hn,hk,hl⟩:=s;have u:e.natAbs<2^k:=t.2.1;refine⟨aJY [cQ,aNE,aBA,aNF,aFM,mN,tC] (aRO m (max n l) k l) (aTx a e m (max n l) k l),?_⟩;rw[<-bAj a e m n k l _ rfl,aPB];by_cases j:0<m
  .rw[Y0 j,AO,Z5];refine⟨?_,?_⟩
   .by_cases b:e<0
    .rw[Y0 b,Z6,Z6];refine⟨by omega,?_⟩;by_cases d:gcd a m=1
     .rw[Y0 d,Z6];refine⟨by omega,⟨bQ a m,-e⟩,⟨by show 0<= -e;omega,by show(-e).natAbs<_;omega,j,λ_=>d,?_⟩,?_⟩
      all_goals grind [fQ,bQ,rR,DD,Nat.le_max_right]
     grind
    .rw[Y1 b,Z5];refine⟨⟨a,e⟩,⟨by show 0<=e;omega,u,j,λh=>W h b,?_⟩,?_⟩
     all_goals grind [fQ,rR,Nat.le_max_left]
   .rintro⟨A,E⟩ c
    have hE0:0<=E:=c.e0;have o:E.natAbs<2^k:=c.ek;have d:=c.g;have hv:fQ A E.natAbs m=rR a e m:=c.v;have hbr:(V (e<0)&&!decide (gcd a m=1))=FT:=by
     simp_all
    clear c d;dsimp only;generalize hN:E.natAbs=N at *;have hbl:bl N<=k:=dA o;refine⟨by omega,by omega,by omega,by omega,⟨⟨0,1%m,A%m⟩,PwI.init A N m,?_⟩,?_⟩
    .grind
    rintro⟨i,x,y⟩ q
    dsimp only;rw[AS];split
    .rename_i f;have f:i<bl N:=by omega
     have C:D (i:Z) 32=((i/32:O):Z):=rfl;have B:T (i:Z) 32=((i%32:O):Z):=rfl;have z:P FU ((i/32:O):Z)=((i/32:O):Z):=aT (by omega) (by omega);have w:P FU ((i:Z)+1)=((i+1:O):Z):=by rw[aT (by omega) (by omega)];omega
     have hidx:=nQ f;rw[C,B,z,w,Z8,Z8,s8];refine⟨by omega,by omega,by omega,by omega,?_⟩;obtain⟨st1,st2⟩:=q.step f
     grind
    .rename_i f;have:=q.fin (by omega)
     grind
  grind
 .simp at h
def aSp:Ctr AA:=⟨77,aIm,λargs w=>Tryz.call77 args w,aP bR Tryz.func77 aIm bDw⟩
abbrev cvM(A B M:Z)(i j k:O):MV:= .st [.big A i,.big B j,.big M k]
abbrev pH(X Y:Z)(o:N)(i j:O):MV:= .st [.big X i,.big Y j,.bool o]
theorem bEU(z:Z):(fP z/\z=z/\(64<=64\/Q z<2^64))=aJ (aM [gQ] aC) D9 [.int .i64 z] (AF (.ret (.big z 64))):=by kernel_rfl
theorem bGz:bC D9 m7:=by
 intro ms p r h a;unfold m7 at h;split at h
 .rename_i z;cases h;refine⟨aM [gQ] aC,?_⟩;rw[<-bEU z];exact⟨a,rfl,.inl (Z0 _)⟩
 .simp at h
def aNN:Ctr AA:=⟨189,m7,λargs w=>Tryz.call189 args w,aN bR Tryz.func189 m7 bGz⟩
def aPj:aF
 |[.st [.big _ _,.big _ _,.big M k],.big a n]=>FQ (FQ (k<=1000/\n<=1000),.ret (.bool (V (0<=a/\a<M))))
 |_=>FR
theorem bES(A B M a:Z)(i j k n:O):(bif V (c9 a≥0)then (n<=1000000/\k<=1000000)/\V (aX a M<0)=V (0<=a/\a<M)else FT=V (0<=a/\a<M))=aJ (aM [cQ,dT] aC) D8 [cvM A B M i j k,.big a n] (AF (.ret (.bool (V (0<=a/\a<M))))):=by kernel_rfl
theorem yZ{a b:Z}:aX a b<0↔a<b:=by unfold aX;split<;>(try split)<;>omega
theorem aVg{a:Z}:0<=c9 a↔0<=a:=by unfold c9;split<;>(try split)<;>omega
theorem bGx:bC D8 aPj:=by
 intro ms p r h b;unfold aPj at h;split at h
 .rename_i A i B j M k a n;cases h;obtain⟨h1,h2⟩:=b;refine⟨aM [cQ,dT] aC,?_⟩;rw[<-bES A B M a i j k n,AS]
  grind [aVg,yZ]
 .simp at h
def bBo:Ctr AA:=⟨190,aPj,λargs w=>Tryz.call190 args w,aN bR Tryz.func190 aPj bGx⟩
def aIE:aF
 |[.st [.big _ _,.big _ _,.big M k],.big a n]=>FQ (FQ (k<=1000/\n<=5000/\0<M),.ret (.big (a%M) k))
 |_=>FR
theorem bAB(A B M a:Z)(i j k n:O):((n<=900000/\k<=900000/\0<M)/\a%M=a%M/\(k<=k\/Q (a%M)<2^k))=aJ (aM [aSm] aC) D6 [cvM A B M i j k,.big a n] (AF (.ret (.big (a%M) k))):=by kernel_rfl
theorem bDN:bC D6 aIE:=by
 intro ms p r h b;unfold aIE at h;split at h
 .rename_i A i B j M k a n;cases h;obtain⟨h1,h2,h3⟩:=b;refine⟨aM [aSm] aC,?_⟩;rw[<-bAB A B M a i j k n];omega
 .simp at h
def tD:Ctr AA:=⟨192,aIE,λargs w=>Tryz.call192 args w,aN bR Tryz.func192 aIE bDN⟩
def aAn:aF
 |[.st [.big _ _,.big _ _,.big M k],.big a n,.big b m]=>FQ (FQ (k<=1000/\n<=2000/\m<=2000/\0<M),.ret (.big (a*b%M) k))
 |_=>FR
theorem aRs(A B M a b:Z)(i j k n m:O):((n<=1000000/\m<=1000000)/\(k<=1000/\n+m<=5000/\0<M)/\a*b%M=a*b%M/\(k<=k\/Q (a*b%M)<2^k))=aJ (aM [tD,i9] aC) D7 [cvM A B M i j k,.big a n,.big b m] (AF (.ret (.big (a*b%M) k))):=by kernel_rfl
theorem aUf:bC D7 aAn:=by
 intro ms p r h c;unfold aAn at h;split at h
 .rename_i A i B j M k a n b m;cases h;obtain⟨h1,h2,h3,h4⟩:=c;refine⟨aM [tD,i9] aC,?_⟩;rw[<-aRs A B M a b i j k n m];omega
 .simp at h
def yE:Ctr AA:=⟨191,aAn,λargs w=>Tryz.call191 args w,aN bR Tryz.func191 aAn aUf⟩
def aIG:aF
 |[.st [.big _ _,.big _ _,.big M k],.st [.big X n,.big Y m,.bool o]]=>FQ (FQ (k<=1000/\m<=2000/\0<M),.br o (.ret (.st [.big X n,.big Y m,.bool FV])) (.ret (.st [.big X n,.big (-Y%M) k,.bool FT])))
 |_=>FR
theorem bAD(A B M X Y:Z)(o:N)(i j k n m:O):(bif !o then m<=1000000/\(k<=1000/\m<=5000/\0<M)/\bif o then aB X X n n/\aB (-Y%M) Y k m/\o=FV/\S else aB X X n n/\aB (-Y%M) (-Y%M) k k/\o=FT/\S else bif o then aB X X n n/\aB Y Y m m/\o=FV/\S else aB X X n n/\aB Y (-Y%M) m k/\o=FT/\S)=aJ (aM [tD,aBA] aC) D5 [cvM A B M i j k,pH X Y o n m] (AF (.br o (.ret (.st [.big X n,.big Y m,.bool FV])) (.ret (.st [.big X n,.big (-Y%M) k,.bool FT])))):=by kernel_rfl
def aIC:aF
 |[.st [.big _ _,.big _ _,.big M k],.big a n]=>FQ (FQ (k<=1000/\n<=5000/\0<M),.br (V (gcd a M=1)) (.ret (.big (bQ a M) k)) (.pan (.iface 215 (.big (gcd a M) k))))
 |_=>FR
theorem bAz(A B M a:Z)(i j k n:O):((n<=200000/\k<=200000/\0<M)/\bif V (gcd a M=1)then bif V (gcd a M=1)then bQ a M=bQ a M/\(k<=k\/Q (bQ a M)<2^k)else U else (n<=900000/\k<=900000)/\bif V (gcd a M=1)then U else (gcd a M:Z)=(gcd a M:Z)/\(max n k<=k\/Q (gcd a M:Z)<2^k))=aJ (aM [aSl,aHe] aC) D0 [cvM A B M i j k,.big a n] (AF (.br (V (gcd a M=1)) (.ret (.big (bQ a M) k)) (.pan (.iface 215 (.big (gcd a M) k))))):=by kernel_rfl
theorem bDP:bC D5 aIG:=by
 intro ms p r h a;unfold aIG at h;split at h
 .rename_i A i B j M k X n Y m o;cases h;obtain⟨h1,h2,h3⟩:=a;refine⟨aM [tD,aBA] aC,?_⟩;rw[<-bAD A B M X Y o i j k n m]
  grind
 .simp at h
def aSB:Ctr AA:=⟨193,aIG,λargs w=>Tryz.call193 args w,aN bR Tryz.func193 aIG bDP⟩
theorem yV{a M:Z}{k:O}(hM:0<M)(hk:M.natAbs<2^k):gcd a M<2^k:=by
 have:=DI (by omega) (Int.gcd_dvd_natAbs_right a M);omega
theorem bDM:dR D0 aIC:=by
 intro ms p r h c d;unfold aIC at h;split at h
 .rename_i A i B j M k a n;cases h;obtain⟨h1,h2,b⟩:=c;have e:M.natAbs<2^k:=d.1.2.2.1;refine⟨aM [aSl,aHe] aC,?_⟩;rw[<-bAz A B M a i j k n];refine⟨⟨by omega,by omega,b⟩,?_⟩;cases V (gcd a M=1)with
  |true=>exact⟨rfl,.inl (Z0 _)⟩
  |false=>exact⟨by omega,rfl,.inr (by have:=yV (a:=a) b e;simpa using this)⟩
 .simp at h
def aSz:Ctr AA:=⟨204,aIC,λargs w=>Tryz.call204 args w,aP bR Tryz.func204 aIC bDM⟩
def inB(a M:Z):N:=decide (0<=a/\a<M)
def cI(A B M:Z):N:=!(V (M<=3))&&!(V (M%2=0))&&inB A M&&inB B M
def m5(A B M X Y:Z)(o:N):N :=
 cI A B M&&g o (V (X=0)&&V (Y=0)) (inB X M&&inB Y M&&V (Y*Y%M=((X*X%M+A)*X%M+B)%M))
def aPl:aF
 |[.st [.big A i,.big B j,.big M k],.st [.big X n,.big Y m,.bool o]]=>FQ (FQ (i<=1000/\j<=1000/\k<=1000/\n<=1000/\m<=1000),.ret (.bool (m5 A B M X Y o)))
 |_=>FR
theorem bEV(A B M X Y:Z)(o:N)(i j k n m:O):(fP 3/\(k<=1000000/\64<=1000000)/\bif V (aX M 3<=0)then FT=m5 A B M X Y o else ((0:Z)<=0/\0<(H (aA (Q M)):Z))/\bif P Aa (AI (R (AC Aa) (J (aA (Q M)) (I 0) 0) &&&R (AC Aa) 1):Z)==0 then FT=m5 A B M X Y o else (k<=1000/\i<=1000)/\bif !decide (0<=A/\A<M)then FT=m5 A B M X Y o else (k<=1000/\j<=1000)/\bif !decide (0<=B/\B<M)then FT=m5 A B M X Y o else bif o then bif c9 X==0 then (c9 Y==0)=m5 A B M X Y o else FT=m5 A B M X Y o else (k<=1000/\n<=1000)/\bif !decide (0<=X/\X<M)then FT=m5 A B M X Y o else (k<=1000/\m<=1000)/\bif !decide (0<=Y/\Y<M)then FT=m5 A B M X Y o else (k<=1000/\n<=2000/\n<=2000/\0<M)/\(k<=1000000/\i<=1000000)/\(k<=1000/\max k i+1<=2000/\n<=2000/\0<M)/\(k<=1000000/\j<=1000000)/\(k<=1000/\m<=2000/\m<=2000/\0<M)/\(k<=1000/\max k j+1<=5000/\0<M)/\(k<=1000000/\k<=1000000)/\(aX (Y*Y%M) (((X*X%M+A)*X%M+B)%M)==0)=m5 A B M X Y o)=aJ (aM [aNN,dT,bBo,yE,tD,jC,cQ] aC) EG [cvM A B M i j k,pH X Y o n m] (AF (.ret (.bool (m5 A B M X Y o)))):=by kernel_rfl
theorem bHj{x:Z}(h:0<=x/\x<4294967296):u32.wrap (↑(R (AC Aa) x &&&R (AC Aa) 1).toNat)=x%2:=by
 rw[lG,BitVec.toNat_and];have e1:(R (AC Aa) x).toNat=x.toNat:=by
  rw[BitVec.toNat_ofInt];show(x%4294967296).toNat=_;omega
 grind
theorem aCx{a b:Z}:aX a b<=0↔a<=b:=by unfold aX;split<;>(try split)<;>omega
theorem uU{a:Z}:c9 a=0↔a=0:=by unfold c9;split<;>(try split)<;>omega
theorem aG9{a b:Z}{c:Prop}[Decidable c](h:a=b↔c):(a==b)=decide c:=by
 grind
theorem bF9(k:O):(aA k).getD 0 0=((k%4294967296:O):Z):=by
 grind [bM,gL]
theorem bGA:bC EG aPl:=by
 intro ms p r h f;unfold aPl at h;split at h
 .rename_i A i B j M k X n Y m o;cases h;obtain⟨h1,h2,h3,h4,h5⟩:=f;refine⟨aM [aNN,dT,bBo,yE,tD,jC,cQ] aC,?_⟩;rw[<-bEV A B M X Y o i j k n m];refine⟨by omega,by omega,?_⟩;unfold m5 cI;by_cases b:M<=3
  .grind [aCx]
  .rw[Y1 (λh=>b (aCx.1 h)),Y1 b,Z5];have d:=aO M.natAbs;have g:=bF9 M.natAbs;have a:aA M.natAbs≠ []:=λe=>by have:=bY.1 e;omega
   have hl:0<(aA M.natAbs).length:=B0.2 a;refine⟨by omega,?_⟩;rw[show I 0=0 from rfl,bHj (d.getD 0),aG9 (c:=M%2=0) (by rw[g];omega)]
   grind [inB,uU,fS]
 .simp at h
def aNO:Ctr AA:=⟨173,aPl,λargs w=>Tryz.call173 args w,aN bR Tryz.func173 aPl bGA⟩
def pK(b d a c:Z):Z:=cond (V (b=a)) (d+c) (a-b)
def slN(A a d c b:Z):Z:=cond (V (a=c)) (3*(a*a)+A) (b-d)
def fH(A M d c b a:Z):Z:=slN A d c b a*bQ (pK d c b a) M%M
def mW(A M b d a c:Z):Z:=(fH A M b d a c*fH A M b d a c-(b+a))%M
def uW(A M b a d c:Z):Z:=(fH A M b a d c*(b-mW A M b a d c)-a)%M
def nH(M d c b a:Z):N:=decide (d=b)&&V ((c+a)%M=0)
def bBR(T:FY)(A M d c:Z)(f:N)(b a:Z)(e:N)(k n m n' m':O):MRes :=
 .br f (.ret (pH b a e n' m')) (.br e (.ret (pH d c FT n m)) (.br (nH M d c b a) (.ret (pH 0 0 FV 0 0))
  (.br (V (gcd (pK d c b a) M=1)) (.ret (pH (mW A M d c b a) (uW A M d c b a) FT k k)) (.pan (.iface T (.big (gcd (pK d c b a) M) k))))))
def aIv:aF
 |[.st [.big A i,.big _ _,.big M k],.st [.big e n,.big d m,.bool f],.st [.big b n',.big a m',.bool c]] =>
  FQ (FQ (i<=200/\k<=200/\n<=200/\m<=200/\n'<=200/\m'<=200/\0<M),bBR 215 A M e d f b a c k n m n' m')
 |_=>FR
theorem bAt(A B M a c b d:Z)(o f:N)(i j k n m n' m':O)(p:_)(C:p=(pK a c b d))(g:_)(z:g=(b-a))(e:_)(y:e=(c+d))(l:_)(x:l=(d-c))(s:_)(D:s=(a-(l *bQ g M%M*(l *bQ g M%M)-(a+b))%M))(r:_)(w:r=(mW A M a c b d))(q:_)(v:q=(uW A M a c b d))(h:_)(u:h=(a*a))(t:_)(E:t=(a-((3* h +A)*bQ e M%M*((3* h +A)*bQ e M%M)-(a+b))%M)):(bif o then bif o then aB b b n' n'/\aB d d m' m'/\f=f/\S else bif f then aB b a n' n/\aB d c m' m/\f=FT/\S else bif nH M a c b d then aB b 0 n' 0/\aB d 0 m' 0/\f=FV/\S else bif V (gcd p M=1)then aB b r n' k/\aB d q m' k/\f=FT/\S else U else bif f then bif o then aB a b n n'/\aB c d m m'/\o=f/\S else bif f then aB a a n n/\aB c c m m/\o=FT/\S else bif nH M a c b d then aB a 0 n 0/\aB c 0 m 0/\o=FV/\S else bif V (gcd p M=1)then aB a r n k/\aB c q m k/\o=FT/\S else U else (n<=1000000/\n'<=1000000)/\bif aX a b != 0 then (m'<=1000000/\m<=1000000)/\(n'<=1000000/\n<=1000000)/\(k<=1000/\max n' n+1<=5000/\0<M)/\bif V (gcd g M=1)then (k<=1000/\max m' m+1<=2000/\k<=2000/\0<M)/\(k<=1000000/\k<=1000000)/\(n<=1000000/\n'<=1000000)/\(k+k<=1000000/\max n n'+1<=1000000)/\(k<=1000/\max (k+k) (max n n'+1)+1<=5000/\0<M)/\(n<=1000000/\k<=1000000)/\(k<=1000000/\max n k+1<=1000000)/\(k+(max n k+1)<=1000000/\m<=1000000)/\(k<=1000/\max (k+(max n k+1)) m+1<=5000/\0<M)/\bif o then aB ((l *bQ g M%M*(l *bQ g M%M)-(a+b))%M) b k n'/\aB ((l *bQ g M%M* s-c)%M) d k m'/\FT=f/\S else bif f then aB ((l *bQ g M%M*(l *bQ g M%M)-(a+b))%M) a k n/\aB ((l *bQ g M%M* s-c)%M) c k m/\FT=FT/\S else bif nH M a c b d then aB ((l *bQ g M%M*(l *bQ g M%M)-(a+b))%M) 0 k 0/\aB ((l *bQ g M%M* s-c)%M) 0 k 0/\FT=FV/\S else bif V (gcd p M=1)then aB ((l *bQ g M%M*(l *bQ g M%M)-(a+b))%M) r k k/\aB ((l *bQ g M%M* s-c)%M) q k k/\FT=FT/\S else U else bif o then U else bif f then U else bif nH M a c b d then U else bif V (gcd p M=1)then U else (gcd g M:Z)=(gcd p M:Z)/\(k<=k\/Q (gcd g M:Z)<2^k)else (m<=1000000/\m'<=1000000)/\(k<=1000/\max m m'+1<=5000/\0<M)/\bif c9 (e %M)==0 then bif o then aB 0 b 0 n'/\aB 0 d 0 m'/\FV=f/\S else bif f then aB 0 a 0 n/\aB 0 c 0 m/\FV=FT/\S else bif nH M a c b d then aB 0 0 0 0/\aB 0 0 0 0/\FV=FV/\S else bif V (gcd p M=1)then aB 0 r 0 k/\aB 0 q 0 k/\FV=FT/\S else U else fP 3/\(n<=1000000/\n<=1000000)/\(64<=1000000/\n+n<=1000000)/\(64+(n+n)<=1000000/\i<=1000000)/\(m<=1000000/\m'<=1000000)/\(k<=1000/\max m m'+1<=5000/\0<M)/\bif V (gcd e M=1)then (k<=1000/\max (64+(n+n)) i+1<=2000/\k<=2000/\0<M)/\(k<=1000000/\k<=1000000)/\(n<=1000000/\n'<=1000000)/\(k+k<=1000000/\max n n'+1<=1000000)/\(k<=1000/\max (k+k) (max n n'+1)+1<=5000/\0<M)/\(n<=1000000/\k<=1000000)/\(k<=1000000/\max n k+1<=1000000)/\(k+(max n k+1)<=1000000/\m<=1000000)/\(k<=1000/\max (k+(max n k+1)) m+1<=5000/\0<M)/\bif o then aB (((3* h +A)*bQ e M%M*((3* h +A)*bQ e M%M)-(a+b))%M) b k n'/\aB (((3* h +A)*bQ e M%M* t-c)%M) d k m'/\FT=f/\S else bif f then aB (((3* h +A)*bQ e M%M*((3* h +A)*bQ e M%M)-(a+b))%M) a k n/\aB (((3* h +A)*bQ e M%M* t-c)%M) c k m/\FT=FT/\S else bif nH M a c b d then aB (((3* h +A)*bQ e M%M*((3* h +A)*bQ e M%M)-(a+b))%M) 0 k 0/\aB (((3* h +A)*bQ e M%M* t-c)%M) 0 k 0/\FT=FV/\S else bif V (gcd p M=1)then aB (((3* h +A)*bQ e M%M*((3* h +A)*bQ e M%M)-(a+b))%M) r k k/\aB (((3* h +A)*bQ e M%M* t-c)%M) q k k/\FT=FT/\S else U else bif o then U else bif f then U else bif nH M a c b d then U else bif V (gcd p M=1)then U else (gcd e M:Z)=(gcd p M:Z)/\(k<=k\/Q (gcd e M:Z)<2^k))=aJ (aM [aNN,dT,yE,tD,aSz,jC,jD,i9,cQ] aC) D3 [cvM A B M i j k,pH a c o n m,pH b d f n' m'] (AF (bBR 215 A M a c o b d f k n m n' m')):=by subst C z y x D w v u E;kernel_rfl
theorem bDG:dR D3 aIv:=by
 intro ms p r h x hf;unfold aIv at h;split at h
 .rename_i A i B j M k b n c m t f n' d m' s;cases h;obtain⟨h1,h2,h3,h4,h5,h6,l⟩:=x;refine⟨aM [aNN,dT,yE,tD,aSz,jC,jD,i9,cQ] aC,?_⟩;rw[<-bAt A B M b c f d t s i j k n m n' m' _ rfl _ rfl _ rfl _ rfl _ rfl _ rfl _ rfl _ rfl _ rfl];cases t with
  |true=>exact⟨⟨rfl,.inl (Z0 _)⟩,⟨rfl,.inl (Z0 _)⟩,rfl,⟨⟩⟩
  |false =>
   cases s with
   |true=>exact⟨⟨rfl,.inl (Z0 _)⟩,⟨rfl,.inl (Z0 _)⟩,rfl,⟨⟩⟩
   |false =>
    simp only[Z5];refine⟨by omega,?_⟩;by_cases e:b=f
    .have u:(aX b f != 0)=FT:=by rw[fS.2 e];rfl
     have g:pK b c f d=c+d:=by unfold pK;rw[Y0 e];rfl
     have o:slN A b c f d=3*(b*b)+A:=by unfold slN;rw[Y0 e];rfl
     have w:nH M b c f d=V ((c+d)%M=0):=by unfold nH;rw[Y0 e,AB]
     have q:mW A M b c f d=((3*(b*b)+A)*bQ (c+d) M%M*((3*(b*b)+A)*bQ (c+d) M%M)-(b+f))%M:=by unfold mW fH;rw[g,o]
     have v:uW A M b c f d=((3*(b*b)+A)*bQ (c+d) M%M*(b-mW A M b c f d)-c)%M:=by unfold uW fH;rw[g,o]
     rw[q]at v;simp only[u,Z5,aG9 (uU (a:=(c+d)%M)),w,g,q,v];refine⟨by omega,⟨by omega,by omega,l⟩,?_⟩;cases V ((c+d)%M=0)with
     |true=>exact⟨⟨by first|exact⟨⟩|rfl,.inl (Z0 _)⟩,⟨by first|exact⟨⟩|rfl,.inl (Z0 _)⟩,by first|exact⟨⟩|rfl,⟨⟩⟩
     |false =>
      simp only[Z5];refine⟨by omega,by omega,by omega,by omega,by omega,⟨by omega,by omega,l⟩,?_⟩;cases V (gcd (c+d) M=1)with
      |true =>
       simp only[Z6];exact⟨⟨by omega,by omega,by omega,l⟩,by omega,by omega,by omega,⟨by omega,by omega,l⟩,by omega,by omega,by omega,⟨by omega,by omega,l⟩,⟨by first|exact⟨⟩|rfl,.inl (Z0 _)⟩,⟨by first|exact⟨⟩|rfl,.inl (Z0 _)⟩,by first|exact⟨⟩|rfl,⟨⟩⟩
      |false=>exact⟨by first|exact⟨⟩|rfl,.inl (Z0 _)⟩
    .have u:(aX b f != 0)=FV:=by
      grind [aX,fS]
     have g:pK b c f d=f-b:=by unfold pK;rw[Y1 e];rfl
     have o:slN A b c f d=d-c:=by unfold slN;rw[Y1 e];rfl
     have w:nH M b c f d=FT:=by unfold nH;rw[Y1 e,AH]
     have q:mW A M b c f d=((d-c)*bQ (f-b) M%M*((d-c)*bQ (f-b) M%M)-(b+f))%M:=by unfold mW fH;rw[g,o]
     grind [uW,bQ,mW,fH,gcd]
 .simp at h
def aSu:Ctr AA:=⟨196,aIv,λargs w=>Tryz.call196 args w,aP bR Tryz.func196 aIv bDG⟩
theorem aLQ(p q r:Addr)(w:L) :
  CallsD AA 203 #[.pointer (FQ p),.pointer (FQ q),.pointer (FQ r)] .returning w λe u' w'=>e= .returned (.tuple #[])/\u'= .returning/\w'=w:=by
 refine callsD_of_wpS DG rfl λc₀ cs a=>?_;apply wpS_seq
 apply wpS_region
 simp[wpOpsS,go_sem,recoverD,a,DB,Exit.thenS];apply wpS_seq
 apply wpS_region
 simp[wpOpsS,go_sem,Exit.thenS];refine wpS_cond (t:=false) (by simp[B9,C2]) ?_;simp only[Bool.false_eq_true,if_false];refine wpS_of_wp (wp_skip ?_);cases c₀
 simp_all [bodyPostS,results,C3]
theorem aML(v:F)(w:L):(Instr.typeAssert (.iface 215 v) 20 215 FV).run AA w= .ok (.tuple #[v,.bool FV]) w:=by kernel_rfl
def aLy:K Box:=[⟨FT,.one (pH 0 0 FT 0 0)⟩,⟨FT,.one (.big 0 0)⟩,⟨FT,.one (.int .i64 0)⟩]
def xX(d:Z)(n:O):K Box:=[⟨FT,.one (pH 0 0 FT 0 0)⟩,⟨FT,.one (.big d n)⟩,⟨FT,.one (.int .i64 6)⟩,⟨FT,.one (.big d n)⟩]
def yI(d:Z)(n:O):MS:=⟨20, [(3,.iface 215 (.big d n)),(0,.bp 0 0),(1,.bp 1 0),(2,.bp 2 0)],aLy,3⟩
def oX:Code->Code
 |.seq _ b=>b
 |c=>c
def aXz:Code->Code
 |.cond _ a _=>a
 |c=>c
def tJ(f:Func):Code:=f.body.getD .skip
theorem aGG{c:Ctx}{w:L}{t:FY}{m:MV}{v:F}(h:Rep c w (.iface t m) v):∃u,v= .iface t u:=by
 obtain⟨cs,u,hv,hrep,hu⟩:=cB h rfl (by simp) rfl
 simp_all
theorem aFu{c:Ctx}{w:L}{t:FY}{d:Z}{n:O}{v:F}(h:Rep c w (.iface t (.big d n)) v):∃b,v= .iface t (.agg b)/\Rep1 c w (.big d n) (.agg b):=by
 obtain⟨b,u,hv,a,e⟩:=cB h rfl (by simp) rfl;simp only[B6,and_true]at hv;have e:u= .agg b.toArray:=e;subst e;exact⟨_,hv,(eB rfl).2 ⟨_,rfl,by simpa using a⟩⟩
def bFZ(l:K Box):Ex->MS->Prop
 |.normal,s=>s.bx=l
 |_,_=>U
def vF:Code->K Oper
 |.region _ ops _=>ops.toList
 |.seq a _=>vF a
 |_=> []
def aHp(d:Z)(n:O):MS:=⟨20, [(11,.tup [.big d n,.bool FV]),(10,.iface 215 (.big d n)),(8,.bool FV),(7,.iface 215 (.big d n)),(3,.iface 215 (.big d n)),(0,.bp 0 0),(1,.bp 1 0),(2,.bp 2 0)],aLy,3⟩
noncomputable def tI:Code:=aXz (oX (oX (tJ D1)))
def aLP(d:Z)(n:O)(s':MS):Prop:=cJ (aM [] aC) (λ_=>U) (oX tI) s' (bFZ (xX d n))
theorem aSM(d:Z)(n:O):(xX d n=xX d n)=iA (aM [] aC) (vF tI) (λ_=>U) ((vF tI).drop 2) (aHp d n) (aLP d n):=by kernel_rfl
set_option maxRecDepth 100000 in
theorem aJM(d:Z)(n:O){S:O->Prop}{w0:Base}{c:Ctx}{a:Act}{w:L}(h:St S w0 (yI d n) c a w){Q:Exit->Act->L->Prop}(B:∀s' c' a' w',s'.bx=xX d n->St S w0 s' c' a' w'->Q .normal a' w'):(oX (tJ D1)).wp AA Q a w:=by
 refine wp_seq (wp_region_list ?_);refine eG (E:=aM [] aC) (m:= .iface 215 (.big d n)) (p:=none) rfl rfl trivial h rfl λj q=>?_;have C:bG 7 ((yI d n).putO (FQ 7) (MV.iface 215 (MV.big d n))).tm= .iface 215 (.big d n):=rfl;obtain⟨u,hv⟩:=aGG (C ▸ q.tm 7);refine sO (v:= .bool FV) rfl ?_ λI F=>?_
 .simp[execOp,B9,hv,go_sem]
 have g:=q.put (t:=8) (m:= .bool FV) (v:= .bool FV) (show 8<20 by decide) (fB _);rw[<-show I=j.put (FQ 8) (.bool FV) from F]at g;refine wpList_nil ?_;refine wp_cond_true (gP (g.tm 8)) ?_;refine wp_seq (wp_region_list ?_);refine eG (E:=aM [] aC) (m:= .iface 215 (.big d n)) (p:=none) rfl rfl trivial g rfl λH o=>?_;obtain⟨i,A,x⟩:=aFu (show Rep c w (.iface 215 (.big d n)) _ from o.tm 10);refine sO (v:= .tuple #[.agg i,.bool FV]) rfl ?_ λr D=>?_
 .simp[execOp,B9,A,aML]
 have l:=o.put (t:=11) (m:= .tup [.big d n,.bool FV]) (v:= .tuple #[.agg i,.bool FV]) (show 11<20 by decide) ⟨_,rfl,_,_,rfl,x,_,_,rfl,rfl,rfl⟩;rw[<-show r=H.put (FQ 11) (.tuple #[.agg i,.bool FV]) from D]at l;have z:iA (aM [] aC) (vF tI) (λ_=>U) ((vF tI).drop 2) (aHp d n) (aLP d n):=by rw[<-aSM d n]
 refine fU (E:=aM [] aC) (Kp:=λ_=>U) (λ_ _ _ _ b=>b.elim) _ (aHp d n) (aLP d n) c r w z l λs' c' a' w' b y _=>?_
 .refine bK bR _ s' _ c' a' w' Q b y (λe s2 G j s f k=>?_) (λ_ _ _ _ b=>b.elim);cases e with
  |normal=>exact B s2 G j s f k
  |_=>exact f.elim
set_option maxRecDepth 100000 in
theorem aP8{S:O->Prop}{w0:Base}{c:Ctx}{w:L}(m:Mem S w0 aLy c w)(j:∀i,i<3->c.live i){d:Z}{n:O}{v:F}(hv:Rep1 c w (.iface 215 (.big d n)) v) :
  CallsD AA 203 #[.pointer (FQ ⟨c.β 0,0,FR⟩),.pointer (FQ ⟨c.β 1,0,FR⟩),.pointer (FQ ⟨c.β 2,0,FR⟩)] (.panicking [{ v,recovered:=false }]) w λe u' w' =>
   e= .returned (.tuple #[])/\u'= .panicking [{ v,recovered:=true }]/\∃c',Mem S ⟨w0.w,w0.X,λi b z=>i<3/\b=c.β i/\z=c.sz i, []⟩ (xX d n) c' w':=by
 refine callsD_of_wpS DG rfl λc₀ cs k=>?_;refine wpS_seq (wpS_region ?_);obtain⟨u,rfl⟩:=aGG (show Rep c w _ v from hv);simp[wpOpsS,go_sem,recoverD,k,DB,Exit.thenS];have f:∀i,i<3->Rep c w (.bp i 0) (.pointer (FQ ⟨c.β i,0,FR⟩)):=λi l=>bA rfl (by simp) rfl ⟨j i l,rfl⟩;have a:∀T:FZ F,T=#[A6 (FQ { block:=c.β 0,off:=0 }),A6 (FQ { block:=c.β 1,off:=0 }),A6 (FQ { block:=c.β 2,off:=0 })]++((C2 17 undef).setIfInBounds 3 (DF 215 u)).setIfInBounds 0 (DF 215 u)->
   St S ⟨w0.w,w0.X,λi b z=>i<3/\b=c.β i/\z=c.sz i, []⟩ (yI d n) c { tmps:=T,defers:=[] } w:=by
  intro T a;have r:T.getD 0 undef= .pointer (FQ ⟨c.β 0,0,FR⟩):=by rw[a];simp[A1]
  have q:T.getD 1 undef= .pointer (FQ ⟨c.β 1,0,FR⟩):=by rw[a];simp[A1]
  have p:T.getD 2 undef= .pointer (FQ ⟨c.β 2,0,FR⟩):=by rw[a];simp[A1]
  have o:T.getD 3 undef= .iface 215 u:=by rw[a];simp[A1]
  refine⟨m.rebase _ _ (λi b z h=>⟨j i h.1,h.2.1.symm,h.2.2.symm⟩),λt=>?_,by rw[a];simp[yI],rfl,λi b z h=>(show qP 3 i=FV from rQ (by decide) h.1)⟩;show Rep c w (bG t (yI d n).tm) (T.getD t undef)
  match t with
  |0=>rw[r];exact f 0 (by decide)
  |1=>rw[q];exact f 1 (by decide)
  |2=>rw[p];exact f 2 (by decide)
  |3=>rw[o];exact hv
  |t+4=>exact⟨⟩
 refine wpS_of_wp (aJM d n (a _ rfl) ?_);intro s' c' a' w' hs' g;refine⟨g.defers,.panicking [{ v:= .iface 215 u,recovered:=true }],rfl,.tuple #[],?_,rfl,rfl,c',?_⟩
 .simp[results,C3]
 .have:=g.mem
  simp_all
def tY:MRes->G MRes
 |.ret m=>(match m with
  |.st [.big X n,.big Y m,.bool o]=>FQ (.ret (.tup [pH X Y o n m,.big 0 0,.int .i64 0]))
  |_=>FR)
 |.pan m=>(match m with
  |.iface t (.big d n)=>g (t.beq 215) (FQ (.ret (.tup [pH 0 0 FT 0 0,.big d n,.int .i64 6]))) FR
  |_=>FR)
 |.br b x y=>(match tY x,tY y with
  |some x',FQ y'=>FQ (.br b x' y')
  |_,_=>FR)
theorem kO{c:Ctx}{w:L}{e:Ending}:∀(r r':MRes),tY r=FQ r'->r.holds c w e->
  (∃X Y o n m v,e= .returned v/\Rep c w (pH X Y o n m) v/\∀c' w' v',Rep c' w' (.tup [pH X Y o n m,.big 0 0,.int .i64 0]) v'->r'.holds c' w' (.returned v'))\/
  (∃d n v,e= .panicked [{ v,recovered:=false }]/\Rep1 c w (.iface 215 (.big d n)) v/\∀c' w' v',Rep c' w' (.tup [pH 0 0 FT 0 0,.big d n,.int .i64 6]) v'->r'.holds c' w' (.returned v'))
 |.ret m,r',h,a=>by
  simp only[tY]at h;split at h
  .rename_i X n Y m o;simp only[Z1]at h;subst h;cases e<;>first|exact a.elim|skip
   rename_i v;exact .inl ⟨X,Y,o,n,m,v,rfl,a,λ_ _ _ h=>h⟩
  .simp at h
 |.pan m,r',h,a=>by
  simp only[tY]at h;split at h
  .rename_i t d n;cases j:t.beq 215 with
   |false=>rw[j]at h;simp at h
   |true =>
    rw[j,Z6]at h;simp only[Nat.beq_eq]at j;subst j;simp only[Z1]at h;subst h;cases e<;>first|exact a.elim|skip
    obtain⟨v,rfl,p⟩:=a;exact .inr ⟨d,n,v,rfl,p,λ_ _ _ h=>h⟩
  .simp at h
 |.br b x y,r',h,a=>by
  simp only[tY]at h;split at h
  .rename_i x' y' l k;simp only[Z1]at h;subst h;simp only[DY]at a;cases b with
   |true =>
    rcases kO x x' l a with ⟨X,Y,o,n,m,v,i,g,f⟩|⟨d,n,v,i,g,f⟩
    .exact .inl ⟨X,Y,o,n,m,v,i,g,f⟩
    .exact .inr ⟨d,n,v,i,g,f⟩
   |false =>
    rcases kO y y' k a with ⟨X,Y,o,n,m,v,i,g,f⟩|⟨d,n,v,i,g,f⟩
    .exact .inl ⟨X,Y,o,n,m,v,i,g,f⟩
    .exact .inr ⟨d,n,v,i,g,f⟩
  .simp at h
def aCp:Code->Code
 |.seq a _=>a
 |c=>c
def aOb(t:MS):Ex->MS->Prop
 |.normal,s=>s=t
 |_,_=>U
def aLz(f:O)(caps:K MV):MS:=⟨9, [(4,.bp 2 0),(3,.bp 1 0),(2,.bp 0 0),(0,.fn f caps)],aLy,0⟩
theorem aZQ(f:O)(caps:K MV):(aLz f caps=aLz f caps)=cJ (aM [] aC) (λ_=>U) (aCp (tJ CU)) ⟨9,dZ 0 [.fn f caps], [],0⟩ (aOb (aLz f caps)):=by kernel_rfl
def aVy(f:O)(caps:K MV)(X Y:Z)(o:N)(n m:O):MS:=⟨9, [(7,pH X Y o n m),(6,.fn f caps),(5,.fn 203 [.bp 0 0,.bp 1 0,.bp 2 0]),(4,.bp 2 0),(3,.bp 1 0),(2,.bp 0 0),(0,.fn f caps)],aLy,0⟩
def aGU(f:O)(caps:K MV)(X Y:Z)(o:N)(n m:O):MS:=⟨9, [(8,.big 0 0),(7,pH X Y o n m),(6,.fn f caps),(5,.fn 203 [.bp 0 0,.bp 1 0,.bp 2 0]),(4,.bp 2 0),(3,.bp 1 0),(2,.bp 0 0),(0,.fn f caps)], [⟨FT,.one (pH X Y o n m)⟩,⟨FT,.one (.big 0 0)⟩,⟨FT,.one (.int .i64 0)⟩],0⟩
def aI9:K Oper:=vF (oX (oX (tJ CU)))
theorem aZR(f:O)(caps:K MV)(X Y:Z)(o:N)(n m:O):(aGU f caps X Y o n m=aGU f caps X Y o n m)=iA (aM [] aC) aI9 (λ_=>U) (aI9.drop 2) (aVy f caps X Y o n m) (λs'=>s'=aGU f caps X Y o n m):=by kernel_rfl
theorem aZS(f:O)(caps:K MV)(X Y:Z)(o:N)(n m:O):iU AA (aGU f caps X Y o n m) Tryz.f194.results.toList=FQ (FR, [pH X Y o n m,.big 0 0,.int .i64 0]):=by kernel_rfl
theorem aVz(d:Z)(n:O):iU AA ⟨9, [(2,.bp 0 0),(3,.bp 1 0),(4,.bp 2 0)],xX d n,3⟩ Tryz.f194.results.toList=FQ (FR, [pH 0 0 FT 0 0,.big d n,.int .i64 6]):=by kernel_rfl
set_option maxRecDepth 100000 in
theorem bEB(k:Ctr AA)(caps:F0 MV)(p:OProp)(r r':MRes)(hs:k.spec caps=FQ (p,r))(hp:p.holds)(hm:tY r=FQ r')(hcl:mQ FV caps=FV)(S:F1->Prop)(w:World)(args:FZ Value)(hS:∀b,S b->b<w.heap.size)(hG:GW S w)(ha:RepAll (B8 S) w [.fn k.f caps] args.toList):Calls AA 194 args w λe w'=>Ext w w'/\r'.holds (C1 S) w' e:=by
 have R:=St.start (n:=9) hS hG ha (by simp);have he1:cJ (aM [] aC) (λ_=>F2) (aCp (tJ CU)) ⟨9,dZ 0 [.fn k.f caps], [],0⟩ (aOb (aLz k.f caps)):=by rw[<-aZQ k.f caps]
 refine calls_of_wp_defers Tryz.func194 rfl ?_;refine wp_seq (bK bR _ _ _ _ _ w _ he1 R (λe s' g a1 I j Q=>?_) (λ_ _ _ _ j=>j.elim));cases e with
 |exit _=>exact j.elim
 |ret=>exact j.elim
 |normal =>
 have j:s'=aLz k.f caps:=j;subst j;refine wp_seq (wp_region_list ?_);refine eG (E:=aM [] aC) (m:= .fn 203 [.bp 0 0,.bp 1 0,.bp 2 0]) (p:=none) rfl rfl trivial Q rfl λa2 q=>?_;obtain⟨cs,L,hcs,_⟩:=cB (show Rep g I (.fn 203 [.bp 0 0,.bp 1 0,.bp 2 0]) (a2.tmps.getD 5 undef) from q.tm 5) rfl (by simp) rfl;simp only[B6,and_true]at L;obtain⟨_,_,rfl,⟨hl0,rfl⟩,_,_,rfl,⟨hl1,rfl⟩,_,_,rfl,⟨hl2,rfl⟩,rfl⟩:=hcs
 let d:Deferred:={ target:= .fn (.func 203) #[A6 (FQ ⟨g.β 0,0,FR⟩),A6 (FQ ⟨g.β 1,0,FR⟩),A6 (FQ ⟨g.β 2,0,FR⟩)],args:=#[] }
 refine aAI (d:=d) rfl rfl ?_ ?_
 .simp[execOp,resolve,B4,B9,L,d]
 have C:=q.defer [d];rw[q.defers];generalize ({ a2 with defers:=[d] }:Act)=a3 at C⊢;refine wpList_nil ?_;refine wp_seq (wp_region_list ?_);refine eG (E:=aM [] aC) (m:= .fn k.f caps) (p:=none) rfl rfl trivial C rfl λJ a=>?_;obtain⟨A,K,T,hag⟩:=cB (show Rep g I (.fn k.f caps) (J.tmps.getD 6 undef) from a.tm 6) rfl (by simp) rfl;simp only[B6,and_true]at K;have U:=aGH _ _ (RepCs.clean (c:=g) (c':=B8 g.S) (r:=true) (λb D=>D) (λ_ b D=>D.elim) caps A hcl T) hag;have hC:=k.ok g.S I caps A.toArray p r hs hp a.mem.Slt a.mem.gw (by simpa using U);refine aAJ (f:=k.f) (args:=A.toArray) rfl ?_ hC ?_ ?_ ?_
 .have:=k.call A.toArray I;simp[execOp,resolve,B4,B9,K,invoke,this]
 .rintro v V ⟨x,hh⟩
  rcases kO r r' hm hh with ⟨X,Y,o,n,m,v',y,Z,u⟩|⟨d',n,v',y,_⟩
  .simp only[Ending.returned.injEq]at y;subst y;obtain⟨H,N⟩:=a.mem.grow x;have O:=(a.keepTm (s':=_) N H rfl rfl rfl).put (t:=7) (v:=v) (show 7<9 by decide) (aAd Z (λb D=>D));have he2:iA (aM [] aC) aI9 (λ_=>F2) (aI9.drop 2) (aVy k.f caps X Y o n m) (λs'=>s'=aGU k.f caps X Y o n m):=by rw[<-aZR k.f caps X Y o n m]
   refine fU (E:=aM [] aC) (Kp:=λ_=>F2) (λ_ _ _ _ j=>j.elim) _ (aVy k.f caps X Y o n m) (λs'=>s'=aGU k.f caps X Y o n m) g _ V he2 O λs' c3 a5 w3 j l _=>?_;subst j;refine wp_ret ?_;show Leaves _ _ _ _ a5.defers _ _;rw[l.defers];refine leaves_cons (f:=203) (args:=#[.pointer (FQ ⟨g.β 0,0,FR⟩),.pointer (FQ ⟨g.β 1,0,FR⟩),.pointer (FQ ⟨g.β 2,0,FR⟩)]) (by simp) (by simp[go_sem]) ?_;refine(aLQ _ _ _ _).mono ?_
   rintro e u' w'' ⟨rfl,rfl,rfl⟩
   obtain⟨W,F,s⟩:=l.results (P:=AA) (aZS k.f caps X Y o n m);exact⟨W,F,l.mem.ext.free (λ_ h=>h),u _ _ _ s⟩
  .simp at y
 .rintro chain V ⟨x,hh⟩
  rcases kO r r' hm hh with ⟨X,Y,o,n,m,v',y,_⟩|⟨d',n,v,y,Z,u⟩
  .simp at y
  .simp only[Ending.panicked.injEq]at y;subst y;obtain⟨H,N⟩:=a.mem.grow x;show Leaves _ _ _ _ J.defers _ _;rw[a.defers];refine leaves_cons (f:=203) (args:=#[.pointer (FQ ⟨g.β 0,0,FR⟩),.pointer (FQ ⟨g.β 1,0,FR⟩),.pointer (FQ ⟨g.β 2,0,FR⟩)]) (by simp) (by simp[go_sem]) ?_;refine(aP8 H (λi hi=>?_) (d:=d') (n:=n) (v:=v) ?_).mono ?_
   .grind
   .exact aAd (show Rep (C1 g.S) V (.iface 215 (.big d' n)) v from Z) (λb D=>D)
   rintro e u' w'' ⟨rfl,rfl,c',M⟩
   have G:∀t i,i<3->Rep g I (.bp i 0) (J.tmps.getD t undef)->Rep c' w'' (.bp i 0) (J.tmps.getD t undef):=by
    intro t i hi h;obtain⟨_,h2⟩:=kR h;obtain⟨q1,q2,_⟩:=M.pin i _ _ ⟨hi,rfl,rfl⟩;rw[h2,<-q2];exact bA rfl (by simp) rfl ⟨q1,rfl⟩
   have B:St S ⟨w,λ_=>F2,λi b z=>i<3/\b=g.β i/\z=g.sz i, []⟩ ⟨9, [(2,.bp 0 0),(3,.bp 1 0),(4,.bp 2 0)],xX d' n,3⟩ c' { J with defers:=[] } w'':=by
    refine⟨M,λt=>?_,a.size,rfl,λi b z h=>(show qP 3 i=FV from rQ (by decide) h.1)⟩
    match t with
    |0=>exact⟨⟩
    |1=>exact⟨⟩
    |2=>exact G 2 0 (by decide) (a.tm 2)
    |3=>exact G 3 1 (by decide) (a.tm 3)
    |4=>exact G 4 2 (by decide) (a.tm 4)
    |t+5=>exact⟨⟩
   obtain⟨W,F,s⟩:=B.results (P:=AA) (aVz d' n);exact⟨W,F,B.mem.ext.free (λ_ h=>h),u _ _ _ s⟩
 .grind [kO]
inductive TR where
 |pt (X Y:Int) (o:Bool)
 |dv (d:Int)
def aQ(A M d c:Z)(f:N)(b a:Z)(e:N):TR :=
 g f (.pt b a e) (g e (.pt d c FT) (g (nH M d c b a) (.pt 0 0 FV)
  (g (V (gcd (pK d c b a) M=1)) (.pt (mW A M d c b a) (uW A M d c b a) FT) (.dv (gcd (pK d c b a) M)))))
def TR.X:TR->Z
 |.pt x _ _=>x
 |.dv _=>0
def TR.Y:TR->Z
 |.pt _ y _=>y
 |.dv _=>0
def TR.o:TR->N
 |.pt _ _ o=>o
 |.dv _=>FT
def TR.d:TR->Z
 |.pt _ _ _=>0
 |.dv d=>d
def TR.ok:TR->N
 |.pt _ _ _=>FV
 |.dv _=>FT
def fT(A M:Z):TR->TR->TR
 |.pt a b c,.pt x y z=>aQ A M a b c x y z
 |.dv d,_=>.dv d
 |.pt _ _ _,.dv d=>.dv d
def cD(A M:Z)(p:TR)(n:O):TR :=
 if n=0 then .pt 0 0 FV else
  let a:=cD A M p (n/2)
  g (V (n%2=1)) (fT A M (fT A M a a) p) (fT A M a a)
termination_by n
decreasing_by omega
def trM(T:FY)(k:O)(r:TR):MRes:= .br r.ok (.ret (pH r.X r.Y r.o k k)) (.pan (.iface T (.big r.d k)))
theorem bBv(c:Ctx):Cuts 0 c c:=⟨λ_ h=>h,λ_ h=>h,λi hi=>by omega⟩
theorem yY{c:Ctx}{w:L}{e:Ending}{X Y:Z}{o:N}{n m n' m':O}(h:(MRes.ret (pH X Y o n m)).holds c w e)(a:n<=n')(b:m<=m'):(MRes.ret (pH X Y o n' m')).holds c w e:=by
 cases e<;>first|exact h.elim|skip
 exact xI (bBv c) (m:=pH X Y o n m) (m':=pH X Y o n' m') ⟨⟨rfl,.inl a⟩,⟨rfl,.inl b⟩,rfl,trivial⟩ h
theorem aTv{c:Ctx}{w:L}{e:Ending}{T:FY}{d:Z}{n n':O}(h:(MRes.pan (.iface T (.big d n))).holds c w e)(hn:n<=n'):(MRes.pan (.iface T (.big d n'))).holds c w e:=by
 cases e<;>first|exact h.elim|skip
 obtain⟨v,b,a⟩:=h;refine⟨v,b,?_⟩;have:=xI (bBv c) (m:= .iface T (.big d n)) (m':= .iface T (.big d n')) (by
  show eV 0 (.iface T (.big d n)) (.iface T (.big d n'))
  simp_all [eV,MV.isAgg]) (show Rep c w (.iface T (.big d n)) v from a)
 exact this
def aIw:aF
 |[.st [.big A i,.big _ _,.big M k],.st [.big e n,.big d m,.bool f],.st [.big b n',.big a m',.bool c]] =>
  FQ (FQ (i<=200/\k<=200/\n<=200/\m<=200/\n'<=200/\m'<=200/\0<M),trM 215 200 (aQ A M e d f b a c))
 |_=>FR
theorem bA0:∀l p r,aIw l=FQ (p,r)->p.holds->∃p' r',aSu.spec l=FQ (p',r')/\p'.holds/\∀o w e,r'.holds o w e->r.holds o w e:=by
 intro l p r h C;unfold aIw at h;split at h
 .rename_i A i B j M k g n f m s d n' c m' q;simp only[Z1,Z2]at h;obtain⟨rfl,rfl⟩:=h;obtain⟨E,b,z,y,x,v,D⟩:i<=200/\k<=200/\n<=200/\m<=200/\n'<=200/\m'<=200/\0<M:=C;refine⟨_,_,rfl,⟨E,b,z,y,x,v,D⟩,λo w e h=>?_⟩;unfold bBR at h;unfold trM;generalize a:aQ A M g f s d c q=R;unfold aQ at a;simp only[DY]at h⊢;cases s with
  |true=>rw[Z6]at a h;subst a;exact yY h x v
  |false =>
   rw[Z5]at h a;cases q with
   |true=>rw[Z6]at a h;subst a;exact yY h z y
   |false =>
    rw[Z5]at h a;cases t:nH M g f d c with
    |true=>rw[t,Z6]at a h;subst a;exact yY h (Z9 _) (Z9 _)
    |false =>
     rw[t,Z5]at h a;cases u:V (gcd (pK g f d c) M=1)with
     |true=>rw[u,Z6]at a h;subst a;exact yY h b b
     |false=>rw[u,Z5]at a h;subst a;exact aTv h b
 .simp at h
def aNJ:Ctr AA:=aSu.weaken aIw bA0
abbrev TmI:=Nat×Z×Z×N
def tmS(z A B M b a:Z)(c:N)(t i j k n m:O)(q:TmI):MS :=
 ⟨34, [(0,.ref (.big z t)),(1,.ref (cvM A B M i j k)),(2,.ref (pH b a c n m)),(3,.bp 0 0),(4,.bp 1 0),(5,.int .i64 ((q.1:Z)-1))],
  [⟨FT,.one (pH 0 0 FT 0 0)⟩,⟨FT,.one (pH q.2.1 q.2.2.1 q.2.2.2 200 200)⟩],0⟩
def aJs(z A B M b a:Z)(c:N)(t i j k n m:O):O->MS->G LoopAnn
 |3,_=>FQ (.inv TmI (λq=>q.1<=bl z.natAbs/\cD A M (.pt b a c) (z.natAbs/2^q.1)= .pt q.2.1 q.2.2.1 q.2.2.2) (tmS z A B M b a c t i j k n m) (λq=>q.1))
 |_,_=>FR
def aAx:aF
 |[.ref (.big z t),.ref (.st [.big A i,.big _ _,.big M k]),.ref (.st [.big b n,.big a m,.bool c])] =>
  FQ (FQ (t<=100000/\i<=200/\k<=200/\n<=200/\m<=200/\0<M),trM 215 200 (cD A M (.pt b a c) z.natAbs))
 |_=>FR
theorem aRD(z A B M b a:Z)(c:N)(t i j k n m:O)(g:_)(r:g=(cD A M (TR.pt b a c) (Q z)))(e:_)(q:e=λ(i_1:TmI)=>(AE (AE i_1)))(h:_)(p:h=λ(i_1:TmI)=>(AD (AE i_1)))(f:_)(u:f=λ(i_1:TmI)=>(aQ A M (h i_1) (AD (e i_1)) (AE (e i_1)) (h i_1) (AD (e i_1)) (AE (e i_1))))(l:_)(s:l=λ(i_1:TmI)=>(aQ A M (TR.X (f i_1)) (TR.Y (f i_1)) (TR.o (f i_1)) b a c)):(t<=1000000/\(∃i_1,(AD i_1<=bl (Q z)/\cD A M (TR.pt b a c) (Q z/2^AD i_1)=TR.pt (h i_1) (AD (e i_1)) (AE (e i_1)))/\(aB z z t t/\(aB A A i i/\aB B B j j/\aB M M k k/\S)/\(aB b b n n/\aB a a m m/\c=c/\S)/\0=0/\0=0/\P FU ((bl (Q z):Z)-1)=(↑(AD i_1):Z)-1/\S)/\(aB 0 0 0 0/\aB 0 0 0 0/\FT=FT/\S)/\(aB 0 (h i_1) 0 200/\aB 0 (AD (e i_1)) 0 200/\FV=AE (e i_1)/\S)/\S)/\∀(i_1:TmI),AD i_1<=bl (Q z)/\cD A M (TR.pt b a c) (Q z/2^AD i_1)=TR.pt (h i_1) (AD (e i_1)) (AE (e i_1))->bif V ((↑(AD i_1):Z)-1≥0)then (i<=200/\k<=200/\200<=200/\200<=200/\200<=200/\200<=200/\0<M)/\bif TR.ok (f i_1)then ((32:Z)=0->U)/\(0<=P FU (D ((↑(AD i_1):Z)-1) 32)/\P FU (D ((↑(AD i_1):Z)-1) 32)<(H (aA (Q z)):Z))/\((32:Z)=0->U)/\0<=T ((↑(AD i_1):Z)-1) 32/\bif P Aa (AI (R (AC Aa) (fdiv (J (aA (Q z)) (I (P FU (D ((↑(AD i_1):Z)-1) 32))) 0) ((2:Z)^min (I (T ((↑(AD i_1):Z)-1) 32)) (AC Aa))) &&&R (AC Aa) 1):Z)==1 then (i<=200/\k<=200/\200<=200/\200<=200/\n<=200/\m<=200/\0<M)/\bif TR.ok (l i_1)then ∃j_1,(AD j_1<=bl (Q z)/\cD A M (TR.pt b a c) (Q z/2^AD j_1)=TR.pt (AD (AE j_1)) (AD (AE (AE j_1))) (AE (AE (AE j_1))))/\((aB z z t t/\(aB A A i i/\aB B B j j/\aB M M k k/\S)/\(aB b b n n/\aB a a m m/\c=c/\S)/\0=0/\0=0/\P FU ((↑(AD i_1):Z)-1-1)=(↑(AD j_1):Z)-1/\S)/\(aB 0 0 0 0/\aB 0 0 0 0/\FT=FT/\S)/\(aB (TR.X (l i_1)) (AD (AE j_1)) 200 200/\aB (TR.Y (l i_1)) (AD (AE (AE j_1))) 200 200/\TR.o (l i_1) =AE (AE (AE j_1))/\S)/\S)/\AD j_1<AD i_1 else bif TR.ok g then U else TR.d (l i_1) =TR.d g/\(200<=200\/Q (TR.d (l i_1))<2^200)else ∃j_1,(AD j_1<=bl (Q z)/\cD A M (TR.pt b a c) (Q z/2^AD j_1)=TR.pt (AD (AE j_1)) (AD (AE (AE j_1))) (AE (AE (AE j_1))))/\((aB z z t t/\(aB A A i i/\aB B B j j/\aB M M k k/\S)/\(aB b b n n/\aB a a m m/\c=c/\S)/\0=0/\0=0/\P FU ((↑(AD i_1):Z)-1-1)=(↑(AD j_1):Z)-1/\S)/\(aB 0 0 0 0/\aB 0 0 0 0/\FT=FT/\S)/\(aB (TR.X (f i_1)) (AD (AE j_1)) 200 200/\aB (TR.Y (f i_1)) (AD (AE (AE j_1))) 200 200/\TR.o (f i_1) =AE (AE (AE j_1))/\S)/\S)/\AD j_1<AD i_1 else bif TR.ok g then U else TR.d (f i_1) =TR.d g/\(200<=200\/Q (TR.d (f i_1))<2^200)else bif TR.ok g then aB (h i_1) (TR.X g) 200 200/\aB (AD (e i_1)) (TR.Y g) 200 200/\AE (e i_1) =TR.o g/\S else U)=aJ (aM [aNJ,tC] (aJs z A B M b a c t i j k n m)) D4 [.ref (.big z t),.ref (cvM A B M i j k),.ref (pH b a c n m)] (AF (trM 215 200 (cD A M (.pt b a c) z.natAbs))):=by subst r q p u s;kernel_rfl
theorem qM(A M:Z)(p:TR):cD A M p 0= .pt 0 0 FV:=by rw[cD];simp
theorem t7{A M:Z}{p:TR}{n:O}(h:n≠0):cD A M p n=g (V (n%2=1)) (fT A M (fT A M (cD A M p (n/2)) (cD A M p (n/2))) p) (fT A M (cD A M p (n/2)) (cD A M p (n/2))):=by
 rw[cD];simp[h]
theorem aYk{A M:Z}{p:TR}{n:O}{d:Z}(h:cD A M p (n/2)= .dv d):cD A M p n= .dv d:=by
 have a:n≠0:=by intro e;subst e;rw[qM]at h;simp at h
 rw[t7 a,h];cases V (n%2=1)<;>rfl
theorem t6{A M:Z}{p:TR}{n:O}{d:Z}:∀(k:O),cD A M p (n/2^k)= .dv d->cD A M p n= .dv d
 |0,h=>by simpa using h
 |k+1,h=>t6 k (aYk (by rw[AR,<-AZ];exact h))
theorem aUq:dR D4 aAx:=by
 intro ms p r h O P;unfold aAx at h;split at h
 .rename_i z t A i B j M k g n f m l;cases h;obtain⟨h0,K,J,S,R,I⟩:=O;refine⟨aM [aNJ,tC] (aJs z A B M g f l t i j k n m),?_⟩;rw[<-aRD z A B M g f l t i j k n m _ rfl _ rfl _ rfl _ rfl _ rfl];have F:z.natAbs<2^t:=P.1;have C:bl z.natAbs<=t:=dA F;have x:=kC z.natAbs;have y:=mC z.natAbs;generalize hN:z.natAbs=N at F C x y⊢;refine⟨by omega,⟨(bl N,0,0,FV),?_⟩,?_⟩
  .grind [cD,bl,BA,qM,aT]
  .rintro⟨b,X,Y,o⟩ ⟨s,a⟩
   have s:b<=bl N:=s;have a:cD A M (.pt g f l) (N/2^b)= .pt X Y o:=a;dsimp only;rw[AS];split
   .rename_i Q;obtain⟨c,rfl⟩:∃c,b=c+1:=⟨b-1,by omega⟩;have e1:((c+1:F1):F3)-1=(c:F1):=by omega
    have Z:F4 (c:F3) 32=((c/32:F1):F3):=rfl;have W:tmod (c:F3) 32=((c%32:F1):F3):=rfl;have V:FW FU ((c/32:F1):F3)=((c/32:F1):F3):=aT (by omega) (by omega);have U:FW FU ((c:F1)-1:F3)=(c:F1)-1:=aT (by omega) (by omega);have e6:(2:F1)^c<=N:=by
     have u:N≠0:=by intro e;subst e;rw[qX]at s;omega
     exact CG (AN (by omega) (by omega)) (wL u)
    have u:N/2^c≠0:=by
     simp_all
    have T:N/2^c/2=N/2^(c+1):=by rw[AR,<-AZ]
    have q:cD A M (.pt g f l) (N/2^c)=cond (FX (N/2^c%2=1)) (fT A M (aQ A M X Y o X Y o) (.pt g f l)) (aQ A M X Y o X Y o):=by
     rw[t7 u,T,a];rfl
    have hidx:c/32<(aA N).length:=by
     rcases CF (c/32) (aA N).length with h|h
     .exact h
     .exfalso;have h8:4294967296^(aA N).length<=2^c:=by
       rw[iX];exact AN (by omega) (by omega)
      omega
    have v:=s8 N c;simp only[e1,Z,W,V,U,Z8,v];refine⟨⟨K,J,by omega,by omega,by omega,by omega,I⟩,?_⟩;cases H:aQ A M X Y o X Y o with
    |dv d =>
     simp only[TR.ok,TR.d,Z5];have hmN:cD A M (.pt g f l) N= .dv d:=t6 c (by rw[q,H];cases FX (N/2^c%2=1)<;>rfl)
     simp_all
    |pt X2 Y2 w =>
     simp only[TR.ok,TR.X,TR.Y,TR.o,Z6];refine⟨by omega,by omega,by omega,by omega,?_⟩;rw[H]at q;cases G:FX (N/2^c%2=1)with
     |false =>
      rw[G,Z5]at q;rw[Z5];refine⟨(c,X2,Y2,w),⟨by dsimp only;omega,q⟩,?_,by dsimp only;omega⟩
      grind
     |true =>
      rw[G,Z6]at q;rw[Z6];refine⟨⟨K,J,by omega,by omega,S,R,I⟩,?_⟩;have q:cD A M (.pt g f l) (N/2^c)=aQ A M X2 Y2 w g f l:=q;cases E:aQ A M X2 Y2 w g f l with
      |dv d =>
       grind [TR.d,cD,t6]
      |pt X3 Y3 L =>
       rw[Z6];refine⟨(c,X3,Y3,L),⟨by dsimp only;omega,q.trans E⟩,?_,by dsimp only;omega⟩
       grind
   .rename_i Q;have D:b=0:=by omega
    subst D;have a:cD A M (.pt g f l) N= .pt X Y o:=by simpa using a
    rw[a];exact⟨⟨rfl,.inl (Z0 _)⟩,⟨rfl,.inl (Z0 _)⟩,rfl,⟨⟩⟩
 .simp at h
def aSI:Ctr AA:=⟨195,aAx,λargs w=>Tryz.call195 args w,aP bR Tryz.func195 aAx aUq⟩
def bGT:K (Ctr AA):=[aSI]
def bBI:aF
 |[.fn f caps]=>(match vJ f bGT with
  |some k=>(match k.spec caps with
   |some (p,r)=>(match tY r with
    |some r'=>g (mQ FV caps) (FQ (p,r')) FR
    |none=>FR)
   |none=>FR)
  |none=>FR)
 |_=>FR
def bBu:Ctr AA:=⟨194,bBI,λargs w=>Tryz.call194 args w,λS w ms args p r a h l m j=>by
 unfold bBI at a;split at a
 .rename_i f caps;split at a
  .rename_i k i;have c:=aA3 i;subst c;split at a
   .rename_i g e o;split at a
    .rename_i d n;cases b:mQ FV caps with
     |false=>rw[b]at a;simp at a
     |true =>
      rw[b,Z6]at a;simp only[Z1,Z2]at a;obtain⟨rfl,rfl⟩:=a;exact bEB k caps g e d o h n b S w args l m j
    .simp at a
   .simp at a
  .simp at a
 .simp at a⟩
structure RS where
 X:Int
 Y:Int
 o:Bool
 d:Int
 e:Int
def TR.rs(r:TR):RS:=⟨r.X,r.Y,r.o,r.d,g r.ok 0 6⟩
def RS.arg:RS:=⟨0,0,FT,0,1⟩
def aFr(M Y:Z)(o:N):Z:=cond o Y (-Y%M)
def bE(A B M z c a:Z)(b:N):RS:=cond (m5 A B M c a b) (cD A M (.pt c (g (V (z<0)) (aFr M a b) a) b) z.natAbs).rs .arg
def bEo(r:RS):MV:= .tup [pH r.X r.Y r.o 200 200,.big r.d 200,.int .i64 r.e]
theorem aOT{A B M X Y:Z}{o:N}(h:m5 A B M X Y o=FV):3<M:=by
 unfold m5 cI at h;simp only[Z3,BL,decide_eq_false_iff_not]at h;omega
def aAg:aF
 |[.st [.big A i,.big B j,.big M k],.big z t,.st [.big b n,.big a m,.bool c]] =>
  FQ (FQ (t<=100000/\i<=200/\j<=200/\k<=200/\n<=200/\m<=200),.ret (bEo (bE A B M z b a c)))
 |_=>FR
theorem aVI(A B M z c b:Z)(l:N)(t i j k n m:O)(a:_)(s:a=(bE A B M z c b l))(h:_)(r:h=(cD A M (TR.pt c (-b%M) FT) (Q z)))(g:_)(q:g=(cD A M (TR.pt c b FV) (Q z)))(f:_)(p:f=(cD A M (TR.pt c b l) (Q z))):((i<=1000/\j<=1000/\k<=1000/\n<=1000/\m<=1000)/\bif !m5 A B M c b l then (aB 0 (RS.X a) 0 200/\aB 0 (RS.Y a) 0 200/\FT=RS.o a/\S)/\aB 0 (RS.d a) 0 200/\1=RS.e a/\S else bif V (z<0)then (k<=1000/\m<=2000/\0<M)/\bif l then (t<=100000/\i<=200/\k<=200/\n<=200/\m<=200/\0<M)/\bif TR.ok g then (aB (TR.X g) (RS.X a) 200 200/\aB (TR.Y g) (RS.Y a) 200 200/\TR.o g =RS.o a/\S)/\aB 0 (RS.d a) 0 200/\0=RS.e a/\S else (aB 0 (RS.X a) 0 200/\aB 0 (RS.Y a) 0 200/\FT=RS.o a/\S)/\aB (TR.d g) (RS.d a) 200 200/\6=RS.e a/\S else (t<=100000/\i<=200/\k<=200/\n<=200/\k<=200/\0<M)/\bif TR.ok h then (aB (TR.X h) (RS.X a) 200 200/\aB (TR.Y h) (RS.Y a) 200 200/\TR.o h =RS.o a/\S)/\aB 0 (RS.d a) 0 200/\0=RS.e a/\S else (aB 0 (RS.X a) 0 200/\aB 0 (RS.Y a) 0 200/\FT=RS.o a/\S)/\aB (TR.d h) (RS.d a) 200 200/\6=RS.e a/\S else (t<=100000/\i<=200/\k<=200/\n<=200/\m<=200/\0<M)/\bif TR.ok f then (aB (TR.X f) (RS.X a) 200 200/\aB (TR.Y f) (RS.Y a) 200 200/\TR.o f =RS.o a/\S)/\aB 0 (RS.d a) 0 200/\0=RS.e a/\S else (aB 0 (RS.X a) 0 200/\aB 0 (RS.Y a) 0 200/\FT=RS.o a/\S)/\aB (TR.d f) (RS.d a) 200 200/\6=RS.e a/\S)=aJ (aM [aNO,aSB,bBu] aC) EF [cvM A B M i j k,.big z t,pH c b l n m] (AF (.ret (bEo (bE A B M z c b l)))):=by subst s r q p;kernel_rfl
theorem aZF{r:TR}{R:RS}(h:R=r.rs){P Q:Prop}(b:r.ok=FV->(r.X=R.X/\r.Y=R.Y/\r.o=R.o/\(0:Z)=R.d/\(0:Z)=R.e)->P)(a:r.ok=FT->((0:Z)=R.X/\(0:Z)=R.Y/\FT=R.o/\r.d=R.d/\(6:Z)=R.e)->Q):bif r.ok then P else Q:=by
 subst h;cases r with
 |pt X Y o=>exact b rfl ⟨rfl,rfl,rfl,rfl,rfl⟩
 |dv d=>exact a rfl ⟨rfl,rfl,rfl,rfl,rfl⟩
theorem aYw:bC EF aAg:=by
 intro ms p r h v;unfold aAg at h;split at h
 .rename_i A i B j M k z t b n q m e;cases h;obtain⟨h1,h2,h3,h4,h5,h6⟩:=v;refine⟨aM [aNO,aSB,bBu] aC,?_⟩;rw[<-aVI A B M z b q e t i j k n m _ rfl _ rfl _ rfl _ rfl];refine⟨by omega,?_⟩;generalize a:bE A B M z b q e=R;unfold bE at a;cases s:m5 A B M b q e with
  |false =>
   rw[s,Z5]at a;subst a;exact⟨⟨⟨rfl,.inl (by omega)⟩,⟨rfl,.inl (by omega)⟩,rfl,⟨⟩⟩,⟨rfl,.inl (by omega)⟩,rfl,⟨⟩⟩
  |true =>
   rw[s,Z6]at a;have hM:=aOT s;have fin:∀ {y:Z} {c:N},R=(cD A M (.pt b y c) z.natAbs).rs->_:=λ{y c} h=>aZF h
    (λ_ ⟨q1,o,l,g,f⟩=>(⟨⟨⟨q1,.inl (Z0 200)⟩,⟨o,.inl (Z0 200)⟩,l,⟨⟩⟩,⟨g,.inl (Z9 200)⟩,f,⟨⟩⟩:((_/\(_\/Q (cD A M (.pt b y c) z.natAbs).X<2^200))/\(_/\(_\/Q (cD A M (.pt b y c) z.natAbs).Y<2^200))/\_/\S)/\(_/\(_\/Q (0:Z)<2^200))/\_/\S))
    (λ_ ⟨q1,o,l,g,f⟩=>(⟨⟨⟨q1,.inl (Z9 200)⟩,⟨o,.inl (Z9 200)⟩,l,⟨⟩⟩,⟨g,.inl (Z0 200)⟩,f,⟨⟩⟩:((_/\(_\/Q (0:Z)<2^200))/\(_/\(_\/Q (0:Z)<2^200))/\_/\S)/\(_/\(_\/Q (cD A M (.pt b y c) z.natAbs).d<2^200))/\_/\S))
   cases u:V (z<0)with
   |false =>
    rw[u,Z5]at a;exact⟨by omega,fin a.symm⟩
   |true =>
    rw[u,Z6]at a;refine⟨by omega,?_⟩;cases e with
    |true=>exact⟨by omega,fin a.symm⟩
    |false=>exact⟨by omega,fin a.symm⟩
 .simp at h
def aW8:Ctr AA:=⟨174,aAg,λargs w=>Tryz.call174 args w,aN bR Tryz.func174 aAg aYw⟩
def kH(m a x y:Z):Z:=(y*y-x*x*x-a*x)%m
def aCH:aF
 |[.int .i64 m,.int .i64 a,.int .i64 x,.int .i64 y]=>FQ (FQ (1<=m/\m<=100000/\0<=a/\a<=100000/\0<=x/\x<=100000/\0<=y/\y<=100000),.ret (cvM a (kH m a x y) m 64 64 64))
 |_=>FR
theorem aVG(m a x y:Z)(b:_)(c:b=(T (P FU (T (P FU (P FU (P FU (y*y)-P FU (T (P FU (x*x)) m*x))-P FU (a*x))) m+m)) m)):((m=0->U)/\(m=0->U)/\(m=0->U)/\fP a/\fP b/\fP m/\aB a a 64 64/\aB b (kH m a x y) 64 64/\aB m m 64 64/\S)=aJ (aM [cF] aC) FI [.int .i64 m,.int .i64 a,.int .i64 x,.int .i64 y] (AF (.ret (cvM a (kH m a x y) m 64 64 64))):=by subst c;kernel_rfl
def aBl(A B M x:Z):Z:=(x*(x*x)+A*x+B)%M
def aCI:aF
 |[.st [.big A i,.big B j,.big M k],.big x n]=>FQ (FQ (i<=200/\j<=200/\k<=200/\n<=200/\0<M),.ret (.big (aBl A B M x) k))
 |_=>FR
theorem aVH(A B M x:Z)(i j k n:O):((n<=1000000/\n<=1000000)/\(n<=1000000/\n+n<=1000000)/\(i<=1000000/\n<=1000000)/\(n+(n+n)<=1000000/\i+n<=1000000)/\(max (n+(n+n)) (i+n)+1<=1000000/\j<=1000000)/\(max (max (n+(n+n)) (i+n)+1) j+1<=900000/\k<=900000/\(M=0->U))/\(x*(x*x)+A*x+B)%M=aBl A B M x/\(k<=k\/Q ((x*(x*x)+A*x+B)%M)<2^k))=aJ (aM [eI,gE,dM] aC) ER [cvM A B M i j k,.big x n] (AF (.ret (.big (aBl A B M x) k))):=by kernel_rfl
def pE(A B M:Z):N:=decide (gcd (4*(A*(A*A))+27*(B*B)) M=1)
def aH7:aF
 |[.st [.big A i,.big B j,.big M k]]=>FQ (FQ (i<=200/\j<=200/\k<=200),.ret (.bool (pE A B M)))
 |_=>FR
theorem aZX(A B M:Z)(i j k:O):(fP 4/\(i<=1000000/\i<=1000000)/\(i<=1000000/\i+i<=1000000)/\(64<=1000000/\i+(i+i)<=1000000)/\fP 27/\(j<=1000000/\j<=1000000)/\(64<=1000000/\j+j<=1000000)/\(64+(i+(i+i))<=1000000/\64+(j+j)<=1000000)/\(max (64+(i+(i+i))) (64+(j+j))+1<=900000/\k<=900000)/\fP 1/\(max (max (64+(i+(i+i))) (64+(j+j))+1) k<=1000000/\64<=1000000)/\V ((gcd (4*(A*(A*A))+27*(B*B)) M:Z)=1)=pE A B M)=aJ (aM [cF,eI,gE,aAQ,eW] aC) FH [cvM A B M i j k] (AF (.ret (.bool (pE A B M)))):=by kernel_rfl
abbrev aVr(r:RS):MV:= .st [pH r.X r.Y r.o 200 200,.big r.d 200,.int .i64 r.e]
def uQ:aF
 |[.st [.big A i,.big B j,.big M k],.big z t,.st [.big b n,.big a m,.bool c]] =>
  FQ (FQ (t<=100000/\i<=200/\j<=200/\k<=200/\n<=200/\m<=200),.ret (aVr (bE A B M z b a c)))
 |_=>FR
theorem aVx(u m:Z)(a:0<m):T (T u m+m) m=u%m:=by
 have h1:=BJ u a;have h2: -m<T u m:=by
  have:=BJ (-u) a;rw[DO]at this;omega
 rw[BK (by omega),Int.tmod_def];rw[show u-m*u.tdiv m+m=u+m*(1-u.tdiv m) by rw[Int.mul_sub];omega,A2]
theorem aQe(m a x y:Z):(y*y-x*x%m*x-a*x)%m=kH m a x y:=by
 unfold kH;rw[BF,BF (y*y),BG (x*x%m),Int.emod_emod,<-BG,<-BF (y*y),<-BF]
theorem aYu:bC FI aCH:=by
 intro ms p r h j;unfold aCH at h;split at h
 .rename_i m a x y;cases h;obtain⟨h1,h2,l,k,c,b,g,f⟩:=j;refine⟨aM [cF] aC,?_⟩;rw[<-aVG m a x y _ rfl];have mul2:∀ {u v:Z},0<=u->u<=100000->0<=v->v<=100000->0<=u*v/\u*v<=10000000000:=λi e hv d=>⟨Int.mul_nonneg i hv,DS (BW e d hv (by omega)) (by decide)⟩;have C:=mul2 c b c b;have a2:=mul2 g f g f;have a3:=mul2 l k c b;have A:T (x*x) m=x*x%m:=BK C.1;have B:0<=x*x%m:=AT _ (by omega);have a5:x*x%m<m:=AM _ (by omega);have a6:=mul2 B (by omega) c b;have z:P FU (x*x)=x*x:=aT (by omega) (by omega);have w:P FU (y*y)=y*y:=aT (by omega) (by omega);have t:P FU (a*x)=a*x:=aT (by omega) (by omega);have s:P FU (x*x%m*x)=x*x%m*x:=aT (by omega) (by omega);have q:P FU (y*y-x*x%m*x)=y*y-x*x%m*x:=aT (by omega) (by omega);have o:P FU (y*y-x*x%m*x-a*x)=y*y-x*x%m*x-a*x:=aT (by omega) (by omega);have b1:=BJ (y*y-x*x%m*x-a*x) (show 0<m by omega);have b2: -m<T (y*y-x*x%m*x-a*x) m:=by
   have:=BJ (-(y*y-x*x%m*x-a*x)) (show 0<m by omega);rw[DO]at this;omega
  have n:P FU (T (y*y-x*x%m*x-a*x) m+m)=T (y*y-x*x%m*x-a*x) m+m:=aT (by omega) (by omega);simp only[z,A,w,t,s,q,o,n,aVx _ m (show 0<m by omega),aQe];have c1:0<=kH m a x y:=AT _ (by omega);have c2:kH m a x y<m:=AM _ (by omega);exact⟨by omega,by omega,by omega,by omega,by omega,by omega,⟨by first|exact⟨⟩|rfl,.inl (Z0 _)⟩,⟨by first|exact⟨⟩|rfl,.inl (Z0 _)⟩,⟨by first|exact⟨⟩|rfl,.inl (Z0 _)⟩,by first|exact⟨⟩|rfl⟩
 .simp at h
def aNy:Ctr AA:=⟨51,aCH,λargs w=>Tryz.call51 args w,aN bR Tryz.func51 aCH aYu⟩
theorem aYv:bC ER aCI:=by
 intro ms p r h a;unfold aCI at h;split at h
 .rename_i A i B j M k x n;cases h;obtain⟨h1,h2,h3,h4,h5⟩:=a;refine⟨aM [eI,gE,dM] aC,?_⟩;rw[<-aVH A B M x i j k n];exact⟨by omega,by omega,by omega,by omega,by omega,by omega,rfl,.inl (Z0 _)⟩
 .simp at h
def aNz:Ctr AA:=⟨142,aCI,λargs w=>Tryz.call142 args w,aN bR Tryz.func142 aCI aYv⟩
theorem bC9:bC FH aH7:=by
 intro ms p r h a;unfold aH7 at h;split at h
 .rename_i A i B j M k;cases h;obtain⟨h1,h2,h3⟩:=a;refine⟨aM [cF,eI,gE,aAQ,eW] aC,?_⟩;rw[<-aZX A B M i j k];refine⟨by omega,by omega,by omega,by omega,by omega,by omega,by omega,by omega,by omega,by omega,by omega,?_⟩;unfold pE;exact decide_eq_decide.2 (by omega)
 .simp at h
def aHb:Ctr AA:=⟨52,aH7,λargs w=>Tryz.call52 args w,aN bR Tryz.func52 aH7 bC9⟩
structure Pri (p:Nat):Prop where
 lt:1<p
 dv:∀d,d ∣ p->d=1\/d=p
theorem Pri.cop{p a:O}(h:Pri p)(ha:¬p ∣ a):FO p a=1:=by
 rcases h.dv _ (C4 p a)with e|e
 all_goals grind [C0]
theorem Pri.mul{p a b:O}(h:Pri p)(c:p ∣ a*b):p ∣ a\/p ∣ b:=by
 by_cases q:p ∣ a
 .exact .inl q
 .exact .inr (A3 (h.cop q) c)
theorem aOO{n:O}(b:1<n)(h:¬Pri n):∃d,1<d/\d ∣ n/\d*d<=n:=by
 have:¬ ∀d,d ∣ n->d=1\/d=n:=λw=>h ⟨b,w⟩;obtain⟨d,w⟩:=Classical.not_forall.1 this;obtain⟨⟨e,a⟩,hne⟩:=Classical.not_imp.1 w;have d0:d≠0:=λq=>by rw[q,Nat.zero_mul]at a;omega
 have e0:e≠0:=λq=>by rw[q,Nat.mul_zero]at a;omega
 have e1:e≠1:=λq=>by rw[q,CO]at a;omega
 rcases Nat.le_total d e with q|q
 .exact⟨d,by omega,⟨e,a⟩,by rw[a];exact AV _ q⟩
 .exact⟨e,by omega,⟨d,by rw[BE];exact a⟩,by rw[a];exact CP _ q⟩
theorem kJ:∀(f n:O),n<=f->1<n->∃p,Pri p/\p ∣ n
 |0,n,h,a=>by omega
 |f+1,n,h,a=>by
  by_cases q:Pri n
  .exact⟨n,q,Nat.dvd_refl n⟩
  .obtain⟨d,d1,d2,d3⟩:=aOO a q;have hlt:d<n:=by
    have:d*2<=d*d:=AV _ d1;omega
   obtain⟨p,b,c⟩:=kJ f d (by omega) d1;exact⟨p,b,B3 c d2⟩
theorem qK{n:O}(e:1<n)(h:¬Pri n):∃p,Pri p/\p ∣ n/\p*p<=n:=by
 obtain⟨d,d1,d2,d3⟩:=aOO e h;obtain⟨p,c,b⟩:=kJ d d (Z0 d) d1;have a:=DI (by omega) b;exact⟨p,c,B3 b d2,CG (Nat.mul_le_mul a a) d3⟩
theorem aHY{p a M:O}(h:a^M%p=1%p)(k r:O):a^(M*k+r)%p=a^r%p:=by
 rw[DW,BU,DX,A4 (a^M),h,<-A4,CM,<-DX,CN]
theorem aO0{p a:O}(M K:O):a^M%p=1%p->a^K%p=1%p->a^FO M K%p=1%p:=by
 induction M,K using Nat.gcd.induction with
 |H0 n=>intro _ h;rw[Nat.gcd_zero_left];exact h
 |H1 m n _ ih =>
  grind [Nat.gcd_rec,aHY,Nat.div_add_mod]
theorem part{q c:O}(b:Pri q):∀(e g:O),g ∣ q^(e+1)*c->¬q^(e+1) ∣ g->g ∣ q^e*c:=by
 intro e
 induction e with
 |zero =>
  intro g h d;by_cases a:q ∣ g
  .simp_all
  .rw[DK,DV]at h;rw[AX,CN];exact A3 (by rw[CQ,DL];exact b.cop a) h
 |succ e ih =>
  intro g h d;by_cases a:q ∣ g
  .obtain⟨g',rfl⟩:=a;have i:q^(e+1+1)*c=q*(q^(e+1)*c):=by rw[B1 (m:=q) (n:=e+1),B2]
   rw[i]at h;have q0:0<q:=by have:=b.lt;omega
   grind [Nat.dvd_of_mul_dvd_mul_left,B1,Nat.mul_dvd_mul_left,B2]
  .have f:CQ g (q^(e+1+1)):=E7 _ (by rw[CQ,DL];exact b.cop a);exact B3 (A3 f h) (Nat.dvd_mul_left ..)
theorem aKR{p a q e c K:O}(b:Pri q)(g:a^(q^(e+1)*c)%p=1%p)(h:a^K%p=1%p)(hn:a^(q^e*c)%p≠1%p):q^(e+1) ∣ K:=by
 refine FN λd=>?_;have f:=aO0 _ _ g h;obtain⟨t,ht⟩:=part b e _ (C4 (q^(e+1)*c) K) (λw=>d (B3 w (C0 ..)));have:=aHY f t 0
 simp_all
theorem aD7:∀(k x n:O),x<n->rH k x n=FV->∃j,j<k/\x^2^j%n=n-1
 |0,x,n,_,h=>by simp[rH]at h
 |k+1,x,n,a,h=>by
  rw[rH]at h;rcases C5 _ _ ▸ h with h|h
  .exact⟨0,by omega,by rw[AX,DV,A9 a];exact A7 h⟩
  .obtain⟨j,hj,he⟩:=aD7 k (x*x%n) n (BS _ (by omega)) h;refine⟨j+1,by omega,?_⟩
   grind [A4,B1,BU,DU]
theorem wU{n b:O}(h1:2<n)(h2:n<2^128)(a:aW n b=FV)(hb:b%n≠0):b^(n-1)%n=1:=by
 have T:=aE6 (n:=n-1) (by omega) (by omega);unfold aW at a;have c:FP (b%n) 0=FT:=by
  grind [FP,A7]
 rw[c,Z5,aEw 128 1 (b%n) _ n (by omega) (BI (Nat.div_le_self ..) (by omega)),CN,<-A4]at a;generalize hS:tz (n-1)=s at *;obtain⟨d,f⟩:=Nat.dvd_of_mod_eq_zero T.m;have l:(n-1)/2^s=d:=by rw[f];exact Nat.mul_div_cancel_left d (Nat.two_pow_pos s)
 rw[l]at a;have g:b^(n-1)=(b^d)^2^s:=by rw[f,BE,BU]
 rcases C5 _ _ ▸ a with q|q
 .have q:=A7 q;rw[g,A4,q,CM];exact A9 (by omega)
 .obtain⟨j,hj,e⟩:=aD7 s (b^d%n) n (BS _ (by omega)) q;rw[<-A4]at e;have i:2^s=2^j*(2*2^(s-1-j)):=by
   rw[<-B1,<-DW]
   congr 1
   omega
  have h:(n-1)*(n-1)%n=1:=by
   have:(n-1)*(n-1)=n*(n-2)+1:=by
    obtain⟨k,rfl⟩:∃k,n=k+2:=⟨n-2,by omega⟩
    grind
   rw[this,Nat.mul_add_mod];exact A9 (by omega)
  rw[g,i,BU,A4,e,BU,DU,A4,h,CM];exact A9 (by omega)
theorem aJu{n b:O}:∀l:K O,sZ n l=FV->b∈l->aW n b=FV
 |[],_,h=>by simp at h
 |p::r,h,hb=>by
  rw[sZ,Z3]at h;rcases DC.1 hb with rfl|hb
  .exact h.1
  .exact aJu r h.2 hb
structure PnOk (n:Nat):Prop where
 lt:1<n
 nd:∀b∈bD,¬b ∣ n
 st:∀b∈bD,aW n b=true
theorem aOr{n:O}:∀l:K O,rI n l=FV->n∈l\/((∀b∈l,¬b ∣ n)/\1<n/\sZ n bD=FV)
 |[],h=>by
  grind [rI,CT]
 |p::r,h=>by
  by_cases q:n%p=0
  .grind [aHZ,A7,List.mem_cons_self]
  .rw[aKZ q]at h;rcases aOr r h with w|⟨w1,w2⟩
   all_goals grind [List.mem_cons_of_mem,Nat.mod_eq_zero_of_dvd]
theorem aX5{n:O}(h:gW n=FV):n∈bD\/PnOk n:=by
 rcases aOr bD h with w|⟨d,c,a⟩
 .exact .inl w
 .exact .inr ⟨c,d,λb e=>aJu _ a e⟩
theorem bCL{a b:Z}:aX a b=0↔a=b:=by
 unfold aX;split<;>(try split)<;>omega
theorem aNx{a:Z}{p:Prop}[Decidable p](h:a=0↔p):(a==0)=decide p:=by
 rw[BB,beq_iff_eq,Z4];exact h
theorem bGQ{a:Z}:c9 a=0↔a=0:=by
 unfold c9;split<;>(try split)<;>omega
theorem aV8 :(fP 1/\(1:Z)=1/\(64<=64\/Q 1<2^64))=aJ (aM [gQ] aC) FD [] (AF (.ret (.big 1 64))):=by kernel_rfl
def aC3:aF
 |[]=>FQ (FR,.ret (.big 1 64))
 |_=>FR
theorem aYS:bC FD aC3:=by
 intro ms p r h hp;unfold aC3 at h;split at h
 .simp only[Z1,Z2]at h;obtain⟨rfl,rfl⟩:=h;refine⟨aM [gQ] aC,?_⟩;rw[<-aV8];exact⟨⟨by decide,by decide⟩,rfl,.inl (Z0 _)⟩
 .simp at h
def iR:Ctr AA:=⟨74,aC3,λargs w=>Tryz.call74 args w,aN bR Tryz.func74 aC3 aYS⟩
def aAm:aF
 |[.big a _]=>FQ (FR,.ret (.bool (V (a=0))))
 |_=>FR
theorem aRq(a:Z)(n:O):((c9 a==0)=V (a=0))=aJ (aM [cQ] aC) EJ [.big a n] (AF (.ret (.bool (V (a=0))))):=by kernel_rfl
theorem aUe:bC EJ aAm:=by
 intro ms p r h hp;unfold aAm at h;split at h
 .rename_i a n;cases h;refine⟨aM [cQ] aC,?_⟩;rw[<-aRq a n];exact aNx bGQ
 .simp at h
def l5:Ctr AA:=⟨170,aAm,λargs w=>Tryz.call170 args w,aN bR Tryz.func170 aAm aUe⟩
def aAk:aF
 |[.big a n,.big b m]=>FQ (FQ (n<=1000000/\m<=1000000),.ret (.bool (V (a=b))))
 |_=>FR
theorem aRo(a b:Z)(n m:O):((n<=1000000/\m<=1000000)/\(aX a b==0)=V (a=b))=aJ (aM [dT] aC) FK [.big a n,.big b m] (AF (.ret (.bool (V (a=b))))):=by kernel_rfl
theorem aUc:bC FK aAk:=by
 intro ms p r h c;unfold aAk at h;split at h
 .rename_i a n b m;cases h;obtain⟨e,d⟩:=c;refine⟨aM [dT] aC,?_⟩;rw[<-aRo a b n m];exact⟨⟨e,d⟩,aNx bCL⟩
 .simp at h
def lZ:Ctr AA:=⟨38,aAk,λargs w=>Tryz.call38 args w,aN bR Tryz.func38 aAk aUc⟩
def aCY:aF
 |[.big a n,.big b m]=>FQ (FQ (n<=900000/\m<=900000),.ret (.bool (V (gcd a b=1))))
 |_=>FR
theorem aV2(a b:Z)(n m:O):((n<=900000/\m<=900000)/\(max n m<=1000000/\64<=1000000)/\V ((gcd a b:Z)=1)=V (gcd a b=1))=aJ (aM [aHe,iR,lZ] aC) EL [.big a n,.big b m] (AF (.ret (.bool (V (gcd a b=1))))):=by kernel_rfl
theorem aYM:bC EL aCY:=by
 intro ms p r h c;unfold aCY at h;split at h
 .rename_i a n b m;cases h;obtain⟨e,d⟩:=c;refine⟨aM [aHe,iR,lZ] aC,?_⟩;rw[<-aV2 a b n m];refine⟨⟨e,d⟩,by omega,?_⟩;rw[BB,Z4,Z4];omega
 .simp at h
def u7:Ctr AA:=⟨168,aCY,λargs w=>Tryz.call168 args w,aN bR Tryz.func168 aCY aYM⟩
def aC0:aF
 |[.big a n,.big b m]=>FQ (FQ (n<=900000/\m<=900000/\b≠0),.ret (.tup [.big (a/b) n,.big (a%b) m]))
 |_=>FR
theorem aV4(a b:Z)(n m:O):((n<=900000/\m<=900000/\(b=0->U))/\aB (a/b) (a/b) n n/\aB (a%b) (a%b) m m/\S)=aJ (aM [g6] aC) FC [.big a n,.big b m] (AF (.ret (.tup [.big (a/b) n,.big (a%b) m]))):=by kernel_rfl
theorem aYO:bC FC aC0:=by
 intro ms p r h c;unfold aC0 at h;split at h
 .rename_i a n b m;cases h;obtain⟨h1,h2,h3⟩:=c;refine⟨aM [g6] aC,?_⟩;rw[<-aV4 a b n m];first|done|(and_intros<;>first|exact⟨⟩|rfl|exact .inl (Z0 _)|omega)
 .simp at h
def lI:Ctr AA:=⟨76,aC0,λargs w=>Tryz.call76 args w,aN bR Tryz.func76 aC0 aYO⟩
def aAj:aF
 |[.big a n,.big b m]=>FQ (FQ (n<=900000/\m<=900000/\b≠0),.ret (.big (a%b) m))
 |_=>FR
theorem aRn(a b:Z)(n m:O):((n<=900000/\m<=900000/\(b=0->U))/\a%b=a%b/\(m<=m\/Q (a%b)<2^m))=aJ (aM [lI] aC) EA [.big a n,.big b m] (AF (.ret (.big (a%b) m))):=by kernel_rfl
theorem aUb:bC EA aAj:=by
 intro ms p r h c;unfold aAj at h;split at h
 .rename_i a n b m;cases h;obtain⟨h1,h2,h3⟩:=c;refine⟨aM [lI] aC,?_⟩;rw[<-aRn a b n m];first|done|(and_intros<;>first|exact⟨⟩|rfl|exact .inl (Z0 _)|omega)
 .simp at h
def aJA:Ctr AA:=⟨188,aAj,λargs w=>Tryz.call188 args w,aN bR Tryz.func188 aAj aUb⟩
def eN:MV:= .iface 128 (.st [])
def fF(b:N)(r:MRes):MRes:= .br b r (.pan eN)
theorem aRp(b:N):(bif !b then bif b then U else S else bif b then S else U)=aJ (aM [] aC) E9 [.bool b] (AF (fF b (.ret (.tup [])))):=by kernel_rfl
def aAl:aF
 |[.bool b]=>FQ (FR,fF b (.ret (.tup [])))
 |_=>FR
theorem aUd:bC E9 aAl:=by
 intro ms p r h hp;unfold aAl at h;split at h
 .rename_i b;cases h;refine⟨aM [] aC,?_⟩;rw[<-aRp b];cases b<;>exact⟨⟩
 .simp at h
def dC:Ctr AA:=⟨95,aAl,λargs w=>Tryz.call95 args w,aN bR Tryz.func95 aAl aUd⟩
theorem aV9(a e m:Z)(n k l:O):((n<=100000/\k<=100000/\l<=100000)/\bif V (0<m)then bif V (e<0)&&!decide (gcd a m=1)then bif V (0<m)then U else S else bif V (0<m)then rR a e m=rR a e m/\(l<=l\/Q (rR a e m)<2^l)else U else bif V (0<m)then U else S)=aJ (aM [aSp,dC] aC) EM [.big a n,.big e k,.big m l] (AF (fF (V (0<m)) (.ret (.big (rR a e m) l)))):=by kernel_rfl
def aC4:aF
 |[.big a n,.big e k,.big m l]=>FQ (FQ (n<=100000/\k<=100000/\l<=100000/\0<=e),fF (V (0<m)) (.ret (.big (rR a e m) l)))
 |_=>FR
theorem aYT:bC EM aC4:=by
 intro ms p r h c;unfold aC4 at h;split at h
 .rename_i a n e k m l;cases h;obtain⟨g,f,d,h4⟩:=c;refine⟨aM [aSp,dC] aC,?_⟩;rw[<-aV9 a e m n k l];refine⟨⟨g,f,d⟩,?_⟩;rw[Y1 (show ¬e<0 by omega),AH,Z5];by_cases b:0<m
  .rw[Y0 b];exact⟨rfl,.inl (Z0 _)⟩
  .rw[Y1 b];exact⟨⟩
 .simp at h
def aNL:Ctr AA:=⟨167,aC4,λargs w=>Tryz.call167 args w,aN bR Tryz.func167 aC4 aYT⟩
theorem bAy(q n:Z)(k l:O)(b:N)(a:_)(c:a=(max (max k 64+1+(max k 64+1)) l+1)):((k<=1000000/\64<=1000000)/\(max k 64+1<=1000000/\max k 64+1<=1000000)/\(max k 64+1+(max k 64+1)<=1000000/\l<=1000000)/\fP 4/\(64<=1000000/\k<=1000000)/\(max (max k 64+1+(max k 64+1)) l+1<=1000000/\64+k<=1000000)/\bif V (c9 ((q+1)*(q+1)-n-4*q)>0)then (max a (64+k)+1<=1000000/\max a (64+k)+1<=1000000)/\fP 16/\(k<=1000000/\l<=1000000)/\(64<=1000000/\k+l<=1000000)/\(max a (64+k)+1+(max a (64+k)+1)<=1000000/\64+(k+l)<=1000000)/\bif V (aX (((q+1)*(q+1)-n-4*q)*((q+1)*(q+1)-n-4*q)) (16*(q*n))>0)then bif b then S else U else bif b then U else S else bif b then U else S)=aJ (aM [gQ,jC,jD,i9,cQ,dT,iR,dC] aC) EH [.big q k,.big n l] (AF (fF b (.ret (.tup [])))):=by subst c;kernel_rfl
def grB(q n:Z):N:=decide (0<(q+1)*(q+1)-n-4*q)&&V (16*(q*n)<((q+1)*(q+1)-n-4*q)*((q+1)*(q+1)-n-4*q))
def aIB:aF
 |[.big q k,.big n l]=>FQ (FQ (k<=100000/\l<=100000),fF (grB q n) (.ret (.tup [])))
 |_=>FR
theorem bDL:bC EH aIB:=by
 intro ms p r h a;unfold aIB at h;split at h
 .rename_i q k n l;cases h;obtain⟨h1,h2⟩:=a;refine⟨aM [gQ,jC,jD,i9,cQ,dT,iR,dC] aC,?_⟩;rw[<-bAy q n k l (grB q n) _ rfl];unfold grB;generalize (q+1)*(q+1)-n-4*q=d;generalize d*d=dd;generalize 16*(q*n)=e;refine⟨by omega,by omega,by omega,by omega,by omega,by omega,aH (p:=0<d) (by rw[Z4];unfold c9;split<;>(try split)<;>omega) (λw=>?_) (λw=>?_)⟩
  .rw[Y0 w,AB];refine⟨by omega,by omega,by omega,by omega,by omega,aH (p:=e<dd) (by rw[Z4];unfold aX;split<;>(try split)<;>omega) (λw=>?_) (λw=>?_)⟩
   .rw[Y0 w];exact⟨⟩
   .rw[Y1 w];exact⟨⟩
  .rw[Y1 w,AH];exact⟨⟩
 .simp at h
def aSy:Ctr AA:=⟨172,aIB,λargs w=>Tryz.call172 args w,aN bR Tryz.func172 aIB bDL⟩
def aL(p q:Z):O->Z
 |0=>0
 |1=>1
 |k+2=>p*aL p q (k+1)-q*aL p q k
theorem aCB(p q:Z)(m:O):∀k,aL p q (m+k+1)=aL p q (m+1)*aL p q (k+1)-q*(aL p q m*aL p q k)/\aL p q (m+k+2)=aL p q (m+1)*aL p q (k+2)-q*(aL p q m*aL p q (k+1))
 |0=>by
  refine⟨?_,?_⟩
  .show aL p q (m+1)=aL p q (m+1)*1-q*(aL p q m*0)
   grind
  .show p*aL p q (m+1)-q*aL p q m=aL p q (m+1)*(p*1-q*0)-q*(aL p q m*1)
   grind
 |k+1=>by
  obtain⟨b,a⟩:=aCB p q m k;refine⟨a,?_⟩;show p*aL p q (m+k+2)-q*aL p q (m+k+1)=aL p q (m+1)*(p*aL p q (k+2)-q*aL p q (k+1))-q*(aL p q m*(p*aL p q (k+1)-q*aL p q k));rw[b,a]
  grind
theorem aHK(p q:Z)(m:O):aL p q (2*m+1)=aL p q (m+1)*aL p q (m+1)-q*(aL p q m*aL p q m):=by
 rw[show 2*m+1=m+m+1 by omega];exact(aCB p q m m).1
theorem aYe(p q:Z)(m:O):aL p q (2*m+2)=aL p q (m+1)*(2*aL p q (m+2)-p*aL p q (m+1)):=by
 rw[show 2*m+2=m+m+2 by omega,(aCB p q m m).2];show aL p q (m+1)*aL p q (m+2)-q*(aL p q m*aL p q (m+1))=aL p q (m+1)*(2*(p*aL p q (m+1)-q*aL p q m)-p*aL p q (m+1));have:aL p q (m+2)=p*aL p q (m+1)-q*aL p q m:=rfl;rw[this]
 grind
theorem zP(p q:Z):∀m:O,aL p q (2*m)=aL p q m*(2*aL p q (m+1)-p*aL p q m)
 |0=>by
  show(0:Z)=0*_;rw[DM]
 |m+1=>aYe p q m
def jF(p q n:Z)(m:O):Z×Z:=if m=0 then (1,0)else (aL p q (m+1)%n,aL p q m%n)
def pU(p q:Z)(k:O)(n:Z):Z:=(jF p q n k).2
theorem zN(p q n:Z)(k:O):pU p q k n=aL p q k%n:=by
 unfold pU jF;split
 .rename_i h;subst h;exact(DJ n).symm
 .rfl
theorem aOz(p q n:Z)(m:O):∃s t,(jF p q n m).1=aL p q (m+1)+n*s/\(jF p q n m).2=aL p q m+n*t:=by
 unfold jF;split
 .rename_i h;subst h;exact⟨0,0,by show(1:Z)=1+n*0;omega,by show(0:Z)=0+n*0;omega⟩
 .refine⟨- (aL p q (m+1)/n),-(aL p q m/n),?_,?_⟩
  all_goals grind [B7,aL,CB]
theorem aQH{p q n:Z}{m:O}(h:0<m):jF p q n (m+m)=(((jF p q n m).1*(jF p q n m).1-q*((jF p q n m).2*(jF p q n m).2))%n,(jF p q n m).2*((jF p q n m).1+(jF p q n m).1-p*(jF p q n m).2)%n):=by
 obtain⟨s,t,c,b⟩:=aOz p q n m;rw[c,b];have a:jF p q n (m+m)=(aL p q (m+m+1)%n,aL p q (m+m)%n):=if_neg (by omega);rw[a,show m+m=2*m by omega,aHK,zP];generalize aL p q (m+1)=U;generalize aL p q m=V;have x1:(U+n*s)*(U+n*s)-q*((V+n*t)*(V+n*t))=(U*U-q*(V*V))+n*(2*U*s+n*s*s-q*(2*V*t+n*t*t)):=by grind
 have x2:(V+n*t)*(U+n*s+(U+n*s)-p*(V+n*t))=V*(2*U-p*V)+n*(V*(2*s-p*t)+t*(2*U+2*n*s-p*V-p*n*t)):=by grind
 simp_all
theorem aTD{p q n:Z}{m:O}:jF p q n (m+m+1)=((p*((jF p q n m).1*(jF p q n m).1-q*((jF p q n m).2*(jF p q n m).2))-q*((jF p q n m).2*((jF p q n m).1+(jF p q n m).1-p*(jF p q n m).2)))%n,((jF p q n m).1*(jF p q n m).1-q*((jF p q n m).2*(jF p q n m).2))%n):=by
 obtain⟨s,t,f,e⟩:=aOz p q n m;rw[f,e];have d:jF p q n (m+m+1)=(aL p q (m+m+1+1)%n,aL p q (m+m+1)%n):=if_neg (by omega);have c:aL p q (2*m+1+1)=p*aL p q (2*m+1)-q*aL p q (2*m):=rfl;rw[d,show m+m=2*m by omega,c,aHK,zP];generalize aL p q (m+1)=U;generalize aL p q m=V;have b:(U+n*s)*(U+n*s)-q*((V+n*t)*(V+n*t))=(U*U-q*(V*V))+n*(2*U*s+n*s*s-q*(2*V*t+n*t*t)):=by grind
 have a:(V+n*t)*(U+n*s+(U+n*s)-p*(V+n*t))=V*(2*U-p*V)+n*(V*(2*s-p*t)+t*(2*U+2*n*s-p*V-p*n*t)):=by grind
 rw[b,a,A2];generalize 2*U*s+n*s*s-q*(2*V*t+n*t*t)=A;generalize V*(2*s-p*t)+t*(2*U+2*n*s-p*V-p*n*t)=B;have x3:p*(U*U-q*(V*V)+n*A)-q*(V*(2*U-p*V)+n*B)=(p*(U*U-q*(V*V))-q*(V*(2*U-p*V)))+n*(p*A-q*B):=by grind
 simp_all
def aNf(W L:O)(F:O->Z×Z):O->MS->G LoopAnn
 |3,e=>FQ (.inv WalkI (λi=>i.i<=L) (λi=>⟨67, [(4,.bp 0 0),(5,.bp 1 0),(6,.bp 2 0),(7,.bp 3 0),(8,.bp 4 0),(9,.bp 5 0),(10,.bp 6 0),(11,.int .i64 ((i.i:Z)-1))],
   aU (aU e.bx 5 ⟨FT,.one (.big (F i.i).1 W)⟩) 6 ⟨FT,.one (.big (F i.i).2 W)⟩,0⟩) (λi=>i.i))
 |_,_=>FR
theorem aV5(p q k n:Z)(a b c d:O)(r:Z)(w:O)(F:O->Z×Z)(W L:O)(f:_)(h:f=λ(i:WalkI)=>((F (i.1)).1*(F (i.1)).1-q*((F (i.1)).2*(F (i.1)).2)))(e:_)(g:e=(max (max W W+1) (a+W)+1)):(c<=1000000/\(∃i:WalkI,i.1<=L/\(0=0/\0=0/\0=0/\0=0/\0=0/\0=0/\0=0/\P FU ((bl (Q k):Z)-1)=(i.1:Z)-1/\S)/\aB p p a a/\aB q q b b/\aB k k c c/\aB n n d d/\aB 0 0 0 0/\aB 1 ((F (i.1)).1) 64 W/\aB 0 ((F (i.1)).2) 0 W/\S)/\∀(i:WalkI),i.1<=L->bif V ((i.1:Z)-1≥0)then (W<=1000000/\W<=1000000)/\(a<=1000000/\W<=1000000)/\(max W W+1<=1000000/\a+W<=1000000)/\(W<=1000000/\W<=1000000)/\(W<=1000000/\W<=1000000)/\(b<=1000000/\W+W<=1000000)/\(W+W<=1000000/\b+(W+W)<=1000000)/\(W<=1000000/\max (max W W+1) (a+W)+1<=1000000)/\((32:Z)=0->U)/\(0<=P FU (D ((i.1:Z)-1) 32)/\P FU (D ((i.1:Z)-1) 32)<(H (aA (Q k)):Z))/\((32:Z)=0->U)/\0<=T ((i.1:Z)-1) 32/\bif P Aa (AI (R (AC Aa) (fdiv (J (aA (Q k)) (I (P FU (D ((i.1:Z)-1) 32))) 0) ((2:Z)^min (I (T ((i.1:Z)-1) 32)) (AC Aa))) &&&R (AC Aa) 1):Z)==1 then (a<=1000000/\max (W+W) (b+(W+W))+1<=1000000)/\(b<=1000000/\W+ e <=1000000)/\(a+(max (W+W) (b+(W+W))+1)<=1000000/\b+(W+ e)<=1000000)/\(max (a+(max (W+W) (b+(W+W))+1)) (b+(W+ e))+1<=900000/\d<=900000/\(n=0->U))/\(max (W+W) (b+(W+W))+1<=900000/\d<=900000/\(n=0->U))/\∃j:WalkI,j.1<=L/\((0=0/\0=0/\0=0/\0=0/\0=0/\0=0/\0=0/\P FU ((i.1:Z)-1-1)=(j.1:Z)-1/\S)/\aB p p a a/\aB q q b b/\aB k k c c/\aB n n d d/\aB 0 0 0 0/\aB ((p* (f i)-q*((F (i.1)).2*((F (i.1)).1+(F (i.1)).1-p*(F (i.1)).2)))%n) ((F (j.1)).1) d W/\aB ((f i) %n) ((F (j.1)).2) d W/\S)/\j.1<i.1 else (max (W+W) (b+(W+W))+1<=900000/\d<=900000/\(n=0->U))/\(W+ e <=900000/\d<=900000/\(n=0->U))/\∃j:WalkI,j.1<=L/\((0=0/\0=0/\0=0/\0=0/\0=0/\0=0/\0=0/\P FU ((i.1:Z)-1-1)=(j.1:Z)-1/\S)/\aB p p a a/\aB q q b b/\aB k k c c/\aB n n d d/\aB 0 0 0 0/\aB ((f i) %n) ((F (j.1)).1) d W/\aB ((F (i.1)).2*((F (i.1)).1+(F (i.1)).1-p*(F (i.1)).2)%n) ((F (j.1)).2) d W/\S)/\j.1<i.1 else (F (i.1)).2=r/\(W<=w\/Q ((F (i.1)).2)<2^w))=aJ (aM [gQ,jC,jD,i9,tC,iR,aJA] (aNf W L F)) EI [.big p a,.big q b,.big k c,.big n d] (AF (.ret (.big r w))):=by subst h g;kernel_rfl
def pJ:aF
 |[.big p a,.big q b,.big k c,.big n d]=>FQ (FQ (a<=100000/\b<=100000/\c<=100000/\d<=100000/\n≠0),.ret (.big (pU p q k.natAbs n) (d+64)))
 |_=>FR
theorem aYP:dR EI pJ:=by
 intro ms pr r h u v;unfold pJ at h;split at h
 .rename_i p a q b k c n d;cases h;obtain⟨h1,h2,h3,h4,h5⟩:=u;have g:k.natAbs<2^c:=v.2.2.1;have hbl:bl k.natAbs<=c:=dA g;refine⟨aM [gQ,jC,jD,i9,tC,iR,aJA] (aNf (d+64) (bl k.natAbs) λi=>jF p q n (k.natAbs/2^i)),?_⟩;rw[<-aV5 p q k n a b c d (pU p q k.natAbs n) (d+64) (λi=>jF p q n (k.natAbs/2^i)) (d+64) (bl k.natAbs) _ rfl _ rfl];generalize hK:k.natAbs=K at *;have o:K/2^bl K=0:=BA (kC K);have w:P FU ((bl K:Z)-1)=(bl K:Z)-1:=aT (by omega) (by omega);have t:max (d+64) (d+64)=d+64:=Nat.max_self _;rw[w,t];refine⟨by omega,⟨⟨bl K⟩,Z0 _,⟨rfl,rfl,rfl,rfl,rfl,rfl,rfl,rfl,⟨⟩⟩,bL,bL,bL,bL,bL,⟨?_,.inl (by omega)⟩,⟨?_,.inl (by omega)⟩,⟨⟩⟩,λi l=>?_⟩
  .rw[o];rfl
  .rw[o];rfl
  obtain⟨i⟩:=i;have l:i<=bl K:=l;dsimp only;refine aH Z4 (λq1=>?_) (λq1=>?_)
  .have x:(i:Z)-1=((i-1:O):Z):=by omega
   have hix:=nQ (N:=K) (c:=i-1) (by omega);rw[x,ixE (by omega),imE,Z8,Z8,aCg];have m:P FU (((i-1:O):Z)-1)=((i-1:O):Z)-1:=aT (by omega) (by omega);have e:=aHV (M:=K) (k:=i) (by omega);refine⟨by omega,by omega,by omega,by omega,by omega,by omega,by omega,by omega,by omega,by omega,by omega,by omega,aH beq_iff_eq (λs=>?_) (λs=>?_)⟩
   .have f:K/2^(i-1)%2=1:=by omega
    rw[f]at e;refine⟨by omega,by omega,by omega,by omega,by omega,⟨i-1⟩,by show i-1<=bl K;omega,⟨⟨rfl,rfl,rfl,rfl,rfl,rfl,rfl,m,⟨⟩⟩,bL,bL,bL,bL,bL,⟨?_,.inl (by omega)⟩,⟨?_,.inl (by omega)⟩,⟨⟩⟩,by show i-1<i;omega⟩
    all_goals grind [jF,aTD]
   .have f:K/2^(i-1)%2=0:=by omega
    rw[f,CH]at e;have hm:0<K/2^i:=by
     rcases CS (K/2^i)with z|z
     .exfalso;rw[z]at e;have:K<2^(i-1):=by
       simp_all
      have:=dA this;omega
     .exact z
    refine⟨by omega,by omega,⟨i-1⟩,by show i-1<=bl K;omega,⟨⟨rfl,rfl,rfl,rfl,rfl,rfl,rfl,m,⟨⟩⟩,bL,bL,bL,bL,bL,⟨?_,.inl (by omega)⟩,⟨?_,.inl (by omega)⟩,⟨⟩⟩,by show i-1<i;omega⟩
    all_goals grind [jF,aQH]
  .have j:i=0:=by omega
   subst j;rw[AX,BV];exact⟨rfl,.inl (Z0 _)⟩
 .simp at h
def aNK:Ctr AA:=⟨171,pJ,λargs w=>Tryz.call171 args w,aP bR Tryz.func171 pJ aYP⟩
def aDb:aF
 |[.big a n,.big b m]=>FQ (FQ (n<=900000/\m<=900000),.ret (.bool (V (gcd a b=1))))
 |_=>FR
theorem aWh(a b:Z)(n m:O):((n<=900000/\m<=900000)/\fP 1/\(max n m<=1000000/\64<=1000000)/\V ((gcd a b:Z)=1)=V (gcd a b=1))=aJ (aM [aAQ,cF,eW] aC) E3 [.big a n,.big b m] (AF (.ret (.bool (V (gcd a b=1))))):=by kernel_rfl
theorem aY0:bC E3 aDb:=by
 intro ms p r h c;unfold aDb at h;split at h
 .rename_i a n b m;cases h;obtain⟨e,d⟩:=c;refine⟨aM [aAQ,cF,eW] aC,?_⟩;rw[<-aWh a b n m];refine⟨⟨e,d⟩,by omega,by omega,?_⟩;rw[BB,Z4,Z4];omega
 .simp at h
def vB:Ctr AA:=⟨104,aDb,λargs w=>Tryz.call104 args w,aN bR Tryz.func104 aDb aY0⟩
def aDi:aF
 |[.big a n,.big b m,.big c l]=>FQ (FQ (n<=1000000/\m<=1000000/\l<=1000000),.ret (.bool (V (b<=a)&&V (a<=c))))
 |_=>FR
theorem aWp(a b c:Z)(n m l:O):((n<=1000000/\m<=1000000)/\bif V (aX a b≥0)then (n<=1000000/\l<=1000000)/\V (aX a c<=0)=(V (b<=a)&&V (a<=c))else FT=(V (b<=a)&&V (a<=c)))=aJ (aM [iF] aC) E4 [.big a n,.big b m,.big c l] (AF (.ret (.bool (V (b<=a)&&V (a<=c))))):=by kernel_rfl
theorem aY8:bC E4 aDi:=by
 intro ms p r h e;unfold aDi at h;split at h
 .rename_i a n b m c l;cases h;obtain⟨d,g,f⟩:=e;refine⟨aM [iF] aC,?_⟩;rw[<-aWp a b c n m l];refine⟨⟨d,g⟩,aH (p:=b<=a) (by rw[Z4];unfold aX;split<;>(try split)<;>omega) (λw=>⟨⟨d,f⟩,?_⟩) (λw=>?_)⟩
  .rw[Y0 w,AB,BB,Z4,Z4];unfold aX;split<;>(try split)<;>omega
  .rw[Y1 w,AH]
 .simp at h
def aCn:Ctr AA:=⟨103,aDi,λargs w=>Tryz.call103 args w,aN bR Tryz.func103 aDi aY8⟩
theorem bAG(q n:Z)(k l:O)(b:N)(a:_)(c:a=(max (max k 64+1+(max k 64+1)) l+1)):(fP 1/\(k<=1000000/\64<=1000000)/\(max k 64+1<=1000000/\max k 64+1<=1000000)/\(max k 64+1+(max k 64+1)<=1000000/\l<=1000000)/\fP 4/\(64<=1000000/\k<=1000000)/\(max (max k 64+1+(max k 64+1)) l+1<=1000000/\64+k<=1000000)/\bif V (c9 ((q+1)*(q+1)-n-4*q)>0)then (max a (64+k)+1<=1000000/\max a (64+k)+1<=1000000)/\fP 16/\(k<=1000000/\l<=1000000)/\(64<=1000000/\k+l<=1000000)/\(max a (64+k)+1+(max a (64+k)+1)<=1000000/\64+(k+l)<=1000000)/\V (aX (((q+1)*(q+1)-n-4*q)*((q+1)*(q+1)-n-4*q)) (16*(q*n))>0)=b else FT=b)=aJ (aM [cF,gE,kF,eI,eC,iF] aC) FF [.big q k,.big n l] (AF (.ret (.bool b))):=by subst c;kernel_rfl
def aIJ:aF
 |[.big q k,.big n l]=>FQ (FQ (k<=100000/\l<=100000),.ret (.bool (grB q n)))
 |_=>FR
theorem bDS:bC FF aIJ:=by
 intro ms p r h a;unfold aIJ at h;split at h
 .rename_i q k n l;cases h;obtain⟨h1,h2⟩:=a;refine⟨aM [cF,gE,kF,eI,eC,iF] aC,?_⟩;rw[<-bAG q n k l (grB q n) _ rfl];unfold grB;generalize (q+1)*(q+1)-n-4*q=d;generalize d*d=dd;generalize 16*(q*n)=e;refine⟨by omega,by omega,by omega,by omega,by omega,by omega,by omega,aH (p:=0<d) (by rw[Z4];unfold c9;split<;>(try split)<;>omega) (λw=>?_) (λw=>?_)⟩
  .rw[Y0 w,AB];refine⟨by omega,by omega,by omega,by omega,by omega,?_⟩;rw[BB,Z4,Z4];unfold aX;split<;>(try split)<;>omega
  .rw[Y1 w,AH]
 .simp at h
def aHl:Ctr AA:=⟨56,aIJ,λargs w=>Tryz.call56 args w,aN bR Tryz.func56 aIJ bDS⟩
theorem aR8(a b:Z):(a==b)=V (a=b):=by
 rfl
theorem aPA{b:Z}:V (c9 b<0)=V (b<0):=by
 grind [c9]
def aC6:aF
 |[.big a n,.int .i64 i]=>FQ (FQ (n<=1000000/\0<=i/\i.toNat<bl a.natAbs),.ret (.bool (V (a.natAbs/2^i.toNat%2=1))))
 |_=>FR
theorem aWc(a:Z)(i n:O):(((32:Z)=0->U)/\(0<=P FU (D (i:Z) 32)/\P FU (D (i:Z) 32)<(H (aA (Q a)):Z))/\((32:Z)=0->U)/\0<=P F5 (T (i:Z) 32)/\(P Aa (AI (R (AC Aa) (fdiv (J (aA (Q a)) (I (P FU (D (i:Z) 32))) 0) ((2:Z)^min (I (P F5 (T (i:Z) 32))) (AC Aa))) &&&R (AC Aa) 1):Z)==1)=V (Q a/2^i%2=1))=aJ (aM [] aC) FA [.big a n,.int .i64 i] (AF (.ret (.bool (V (a.natAbs/2^i%2=1))))):=by kernel_rfl
theorem aYV:dR FA aC6:=by
 intro ms p r h c d;unfold aC6 at h;split at h
 .rename_i a n i0;cases h;obtain⟨h1,f,b⟩:=c;have e:a.natAbs<2^n:=d.1;obtain⟨i,rfl⟩:=BQ f;rw[Z8]at b;have hbl:=dA e;refine⟨aM [] aC,?_⟩;rw[show((i:Z)).toNat=i from rfl,<-aWc a i n];have l:D (i:Z) 32=((i/32:O):Z):=rfl;have k:T (i:Z) 32=((i%32:O):Z):=rfl;have j:P FU ((i/32:O):Z)=((i/32:O):Z):=aT (by omega) (by omega);have g:P F5 ((i%32:O):Z)=((i%32:O):Z):=hH (by omega);have hidx:=nQ b;rw[l,k,j,g,Z8,Z8,s8]
  grind
 .simp at h
def aNP:Ctr AA:=⟨81,aC6,λargs w=>Tryz.call81 args w,aP bR Tryz.func81 aC6 aYV⟩
def v8:aF
 |[.big a n,.big e k,.big m l]=>FQ (FQ (n<=10000/\k<=10000/\l<=10000/\0<m),.ret (.big (fQ a e.natAbs m) l))
 |_=>FR
structure R3pS where
 q:Nat
 x:Int
structure R3pI (a:Int) (e:Nat) (m:Int) (s:R3pS):Prop where
 q:s.q<=bl e
 x:s.x=fQ a (e/2^s.q) m
def aFz(a e m:Z)(n k l:O):O->MS->G LoopAnn
 |3,_=>FQ (.inv R3pS (R3pI a e.natAbs m) (λs=>⟨33, [(3,.bp 0 0),(4,.bp 1 0),(5,.bp 2 0),(6,.bp 3 0),(7,.bp 4 0),(8,.int .i64 ((s.q:Z)-1))], [⟨FT,.one (.big a n)⟩,⟨FT,.one (.big e k)⟩,⟨FT,.one (.big m l)⟩,⟨FT,.one (.big 0 0)⟩,⟨FT,.one (.big s.x l)⟩],0⟩) (λs=>s.q))
 |_,_=>FR
theorem aM1(a e m:Z)(n k l:O):(fP 1/\(64<=900000/\l<=900000/\(m=0->U))/\k<=1000000/\(∃i,R3pI a (Q e) m i/\(0=0/\0=0/\0=0/\0=0/\0=0/\P FU ((bl (Q e):Z)-1)=(R3pS.q i:Z)-1/\S)/\aB a a n n/\aB e e k k/\aB m m l l/\aB 0 0 0 0/\aB (1%m) (R3pS.x i) l l/\S)/\∀(i:R3pS),R3pI a (Q e) m i->bif V ((R3pS.q i:Z)-1≥0)then (l<=1000000/\l<=1000000)/\(l+l<=900000/\l<=900000/\(m=0->U))/\(k<=1000000/\0<=(R3pS.q i:Z)-1/\I ((R3pS.q i:Z)-1)<bl (Q e))/\bif V (Q e/2^I ((R3pS.q i:Z)-1)%2=1)then (l<=1000000/\n<=1000000)/\(l+n<=900000/\l<=900000/\(m=0->U))/\∃j,R3pI a (Q e) m j/\((0=0/\0=0/\0=0/\0=0/\0=0/\P FU ((R3pS.q i:Z)-1-1)=(R3pS.q j:Z)-1/\S)/\aB a a n n/\aB e e k k/\aB m m l l/\aB 0 0 0 0/\aB (R3pS.x i*R3pS.x i%m*a%m) (R3pS.x j) l l/\S)/\R3pS.q j<R3pS.q i else ∃j,R3pI a (Q e) m j/\((0=0/\0=0/\0=0/\0=0/\0=0/\P FU ((R3pS.q i:Z)-1-1)=(R3pS.q j:Z)-1/\S)/\aB a a n n/\aB e e k k/\aB m m l l/\aB 0 0 0 0/\aB (R3pS.x i*R3pS.x i%m) (R3pS.x j) l l/\S)/\R3pS.q j<R3pS.q i else R3pS.x i=fQ a (Q e) m/\(l<=l\/Q (R3pS.x i)<2^l))=aJ (aM [cF,dM,oW,eI,aNP] (aFz a e m n k l)) FJ [.big a n,.big e k,.big m l] (AF (.ret (.big (fQ a e.natAbs m) l))):=by kernel_rfl
theorem aUS(a m:Z)(q:O):fQ a q m*fQ a q m%m=fQ a (2*q) m:=by rw[aAb,Nat.two_mul]
theorem aZA(a m:Z)(q:O):fQ a q m*fQ a q m%m*a%m=fQ a (2*q+1) m:=by
 grind [aUS,fQ,CJ,BG,BX,CK]
theorem aQV:dR FJ v8:=by
 intro ms p r h f g;unfold v8 at h;split at h
 .rename_i a n e k m l;cases h;obtain⟨h1,h2,h3,hm⟩:=f;have i:e.natAbs<2^k:=g.2.1;refine⟨aM [cF,dM,oW,eI,aNP] (aFz a e m n k l),?_⟩;rw[<-aM1 a e m n k l];generalize hN:e.natAbs=N at *;have hbl:bl N<=k:=dA i;have e0:P FU ((bl N:Z)-1)=(bl N:Z)-1:=aT (by omega) (by omega);refine⟨by omega,by omega,by omega,⟨⟨bl N,1%m⟩,⟨Z0 _,?_⟩,?_⟩,?_⟩
  .grind [fQ,bl,BA,kC,aAc]
  .grind
  rintro⟨q,x⟩ b
  have hq:q<=bl N:=b.q;have hx:x=fQ a (N/2^q) m:=b.x;clear b;dsimp only;rw[AS];split
  .rename_i hc;obtain⟨c,rfl⟩:∃c,q=c+1:=⟨q-1,by omega⟩;have o:((c+1:O):Z)-1=(c:O):=by omega
   have j:P FU ((c:O)-1:Z)=(c:O)-1:=aT (by omega) (by omega);have e7:N/2^c=2*(N/2^(c+1))+N/2^c%2:=by
    rw[AZ,<-AR];omega
   rw[o,j,Z8];refine⟨by omega,by omega,by omega,?_⟩;by_cases d:N/2^c%2=1
   .rw[Y0 d,Z6];refine⟨by omega,by omega,⟨c,x*x%m*a%m⟩,⟨by show c<=bl N;omega,?_⟩,?_,by show c<c+1;omega⟩
    all_goals grind [fQ,aZA]
   .rw[Y1 d,Z5];refine⟨⟨c,x*x%m⟩,⟨by show c<=bl N;omega,?_⟩,?_,by show c<c+1;omega⟩
    all_goals grind [fQ,aUS]
  grind
 .simp at h
def vA:Ctr AA:=⟨49,v8,λargs w=>Tryz.call49 args w,aP bR Tryz.func49 v8 aQV⟩
theorem aZz(a m:Z)(e:O):fQ (a%m) e m=fQ a e m:=by
 induction e with
 |zero=>rw[aAc,aAc]
 |succ e ih =>
  rw[<-aAb,<-aAb,ih,aH1,aH1,BX _ (CK m)]
def aDp:aF
 |[.big a n,.int .i64 m]=>FQ (FQ (n<=900000/\0<m/\m<=4611686018427387904),.ret (.int .i64 (a%m)))
 |_=>FR
theorem aWD(a m:Z)(n:O):(fP m/\(n<=900000/\64<=900000/\(m=0->U))/\Q (a%m)<9223372036854775808/\a%m=a%m)=aJ (aM [cF,dM,aHm] aC) EU [.big a n,.int .i64 m] (AF (.ret (.int .i64 (a%m)))):=by kernel_rfl
theorem aZl:bC EU aDp:=by
 intro ms p r h b;unfold aDp at h;split at h
 .rename_i a n m;cases h;obtain⟨h1,c,h3⟩:=b;have hm0:=AT a (show m≠0 by omega);have hm1:=AM a c;refine⟨aM [cF,dM,aHm] aC,?_⟩;rw[<-aWD a m n];omega
 .simp at h
def aCo:Ctr AA:=⟨139,aDp,λargs w=>Tryz.call139 args w,aN bR Tryz.func139 aDp aZl⟩
def aC7:aF
 |[.big a n]=>FQ (FQ (n<=900000),.ret (.int .i64 (iZ a)))
 |_=>FR
theorem aWd(a:Z)(n:O):((n<=900000/\(0:Z)<8/\(8:Z)<=4611686018427387904)/\((2:Z)=0->U)/\bif T (a%8) 2==0 then 0=iZ a else bif a%8==3 then (-1)=iZ a else bif a%8==5 then (-1)=iZ a else 1=iZ a)=aJ (aM [aCo] aC) ET [.big a n] (AF (.ret (.int .i64 (iZ a)))):=by kernel_rfl
theorem aYW:bC ET aC7:=by
 intro ms p r h b;unfold aC7 at h;split at h
 .rename_i a n;cases h;have h1:n<=900000:=b;refine⟨aM [aCo] aC,?_⟩;rw[<-aWd a n]
  grind [iZ]
 .simp at h
def aNQ:Ctr AA:=⟨140,aC7,λargs w=>Tryz.call140 args w,aN bR Tryz.func140 aC7 aYW⟩
structure KnI (a r:Int) (m:Nat) (s:KcS):Prop where
 k:s.k=1\/s.k= -1
 pos:0<s.n
 bn:s.n.natAbs<2^m
 val:s.k*kr a s.n.natAbs=r
structure KbI (a b:Int) (s:KcS):Prop where
 k:s.k=if b<0/\a<0 then-1 else 1
 n:s.n=b
structure KrJ (r:Int) (N:Nat) (A Q:Int) (s:KrS):Prop where
 i:KrI r N s
 a:(s.a:Int)<=A
 n:(s.n:Int)=Q
 ne:s.a≠0
def rkS(m:O)(s:KrS):MS:=⟨72, [(2,.bp 0 0),(3,.bp 1 0),(5,.int .i64 s.k)], [⟨FT,.one (.big s.a m)⟩,⟨FT,.one (.big s.n m)⟩],0⟩
def rkC(a:Z)(n m:O)(s:KcS):MS:=⟨72, [(2,.bp 0 0),(3,.bp 1 0),(5,.int .i64 s.k)], [⟨FT,.one (.big a n)⟩,⟨FT,.one (.big s.n m)⟩],0⟩
def aJm(a r:Z)(n m:O):O->MS->G LoopAnn
 |9,_=>FQ (.inv KcS (KnI a r m) (rkC a n m) (λs=>s.n.natAbs))
 |15,_=>FQ (.inv KrS (KrI r m) (rkS m) (λs=>s.a))
 |16,s=>(match s.bx with
  |⟨_,.one (.big A _)⟩::⟨_,.one (.big Q _)⟩::_=>FQ (.inv KrS (KrJ r m A Q) (rkS m) (λs=>s.a))
  |_=>FR)
 |_,_=>FR
def aKl(a b:Z)(n m:O):O->MS->G CutAnn
 |8,_=>FQ (.mk KcS (KbI a b) (rkC a n m))
 |_,_=>FR
theorem aRt(a b:Z)(n m:O)(c:_)(f:c=λ(i_1:KrS)=>(KrS.a i_1:Z))(d:_)(e:d=(gA a b)):(bif c9 b==0 then n<=1000000/\fP 1/\(n<=1000000/\64<=1000000)/\bif V ((Q a:Z)=1)then 1=gA a b else 0=gA a b else (bif V (c9 b<0)then bif V (c9 a<0)then ∃i,KbI a b i/\(0=0/\0=0/\(-1)=KcS.k i/\S)/\aB a a n n/\aB b (KcS.n i) m m/\S else ∃i,KbI a b i/\(0=0/\0=0/\1=KcS.k i/\S)/\aB a a n n/\aB b (KcS.n i) m m/\S else ∃i,KbI a b i/\(0=0/\0=0/\1=KcS.k i/\S)/\aB a a n n/\aB b (KcS.n i) m m/\S)/\∀(i:KcS),KbI a b i->m<=1000000/\(∃i_1,KnI a d m i_1/\(0=0/\0=0/\KcS.k i=KcS.k i_1/\S)/\aB a a n n/\aB (Q (KcS.n i):Z) (KcS.n i_1) m m/\S)/\∀(i:KcS),KnI a d m i->(m<=900000/\(0:Z)<2/\(2:Z)<=4611686018427387904)/\bif KcS.n i%2==0 then n<=900000/\fP 2/\(m<=900000/\64<=900000/\((2:Z)=0->U))/\bif P FU (KcS.k i*iZ a)==0 then 0=gA a b else ∃j,KnI a d m j/\((0=0/\0=0/\P FU (KcS.k i*iZ a)=KcS.k j/\S)/\aB a a n n/\aB (KcS.n i/2) (KcS.n j) m m/\S)/\Q (KcS.n j)<Q (KcS.n i)else (n<=900000/\m<=900000/\(KcS.n i=0->U))/\(∃i_1,KrI d m i_1/\(0=0/\0=0/\KcS.k i=KrS.k i_1/\S)/\aB (a%KcS.n i) (c i_1) m m/\aB (KcS.n i) (KrS.n i_1:Z) m m/\S)/\∀(i:KrS),KrI d m i->bif c9 (KrS.a i:Z) != 0 then (∃i_1,KrJ d m (KrS.a i:Z) (KrS.n i:Z) i_1/\(0=0/\0=0/\KrS.k i=KrS.k i_1/\S)/\aB (KrS.a i:Z) (c i_1) m m/\aB (KrS.n i:Z) (KrS.n i_1:Z) m m/\S)/\∀(i_1:KrS),KrJ d m (KrS.a i:Z) (KrS.n i:Z) i_1->(m<=900000/\(0:Z)<2/\(2:Z)<=4611686018427387904)/\bif (c i_1) %2==0 then fP 2/\(m<=900000/\64<=900000/\((2:Z)=0->U))/\m<=900000/\∃j,KrJ d m (KrS.a i:Z) (KrS.n i:Z) j/\((0=0/\0=0/\P FU (KrS.k i_1*iZ (KrS.n i_1:Z))=KrS.k j/\S)/\aB ((c i_1) /2) (KrS.a j:Z) m m/\aB (KrS.n i_1:Z) (KrS.n j:Z) m m/\S)/\KrS.a j<KrS.a i_1 else (m<=900000/\(0:Z)<4/\(4:Z)<=4611686018427387904)/\bif (c i_1) %4==3 then (m<=900000/\(0:Z)<4/\(4:Z)<=4611686018427387904)/\bif (KrS.n i_1:Z)%4==3 then (m<=900000/\m<=900000/\((c i_1) =0->U))/\∃j,KrI d m j/\((0=0/\0=0/\P FU (0-KrS.k i_1)=KrS.k j/\S)/\aB ((KrS.n i_1:Z)% (c i_1)) (KrS.a j:Z) m m/\aB (c i_1) (KrS.n j:Z) m m/\S)/\KrS.a j<KrS.a i else (m<=900000/\m<=900000/\((c i_1) =0->U))/\∃j,KrI d m j/\((0=0/\0=0/\KrS.k i_1=KrS.k j/\S)/\aB ((KrS.n i_1:Z)% (c i_1)) (KrS.a j:Z) m m/\aB (c i_1) (KrS.n j:Z) m m/\S)/\KrS.a j<KrS.a i else (m<=900000/\m<=900000/\((c i_1) =0->U))/\∃j,KrI d m j/\((0=0/\0=0/\KrS.k i_1=KrS.k j/\S)/\aB ((KrS.n i_1:Z)% (c i_1)) (KrS.a j:Z) m m/\aB (c i_1) (KrS.n j:Z) m m/\S)/\KrS.a j<KrS.a i else fP 1/\(m<=1000000/\64<=1000000)/\bif !decide ((KrS.n i:Z)=1)then 0=gA a b else KrS.k i=gA a b)=aJ (aJY [eC,tG,cF,eW,aCo,aNQ,kD,dM] (aJm a (gA a b) n m) (aKl a b n m)) E2 [.big a n,.big b m] (AF (.ret (.int .i64 (gA a b)))):=by subst f e;kernel_rfl
def aAo:aF
 |[.big a n,.big b m]=>FQ (FQ (n<=200000/\m<=200000),.ret (.int .i64 (gA a b)))
 |_=>FR
theorem aUg:dR E2 aAo:=by
 intro ms p r h S G;unfold aAo at h;split at h
 .rename_i a n b m;cases h;obtain⟨hn,hm⟩:=S;have T:a.natAbs<2^n:=G.1;have N:b.natAbs<2^m:=G.2.1;refine⟨aJY [eC,tG,cF,eW,aCo,aNQ,kD,dM] (aJm a (gA a b) n m) (aKl a b n m),?_⟩;rw[<-aRt a b n m _ rfl _ rfl];by_cases C:b=0
  .grind [c9,gA]
  have P:(c9 b==0)=FT:=by
   unfold c9
   grind
  have j:gA a b=(if b<0/\a<0 then-1 else 1)*kr a b.natAbs:=by unfold gA;rw[X C]
  generalize R:gA a b=r at *;rw[P,Z5];refine⟨?_,?_⟩
  .rw[aPA,aPA];by_cases q1:b<0
   .rw[Y0 q1,Z6];by_cases D:a<0
    .rw[Y0 D,Z6];exact⟨⟨-1,b⟩,⟨by show(-1:Z)=_;rw[Y ⟨q1,D⟩],rfl⟩,⟨rfl,rfl,rfl,⟨⟩⟩,⟨rfl,.inl (Z0 _)⟩,⟨rfl,.inl (Z0 _)⟩,⟨⟩⟩
    .rw[Y1 D,Z5];exact⟨⟨1,b⟩,⟨by show(1:Z)=_;rw[X (by omega)],rfl⟩,⟨rfl,rfl,rfl,⟨⟩⟩,⟨rfl,.inl (Z0 _)⟩,⟨rfl,.inl (Z0 _)⟩,⟨⟩⟩
   .rw[Y1 q1,Z5];exact⟨⟨1,b⟩,⟨by show(1:Z)=_;rw[X (by omega)],rfl⟩,⟨rfl,rfl,rfl,⟨⟩⟩,⟨rfl,.inl (Z0 _)⟩,⟨rfl,.inl (Z0 _)⟩,⟨⟩⟩
  rintro⟨k,c⟩ f
  have A:k=if b<0/\a<0 then-1 else 1:=f.k;have B:c=b:=f.n;clear f;dsimp only;rw[B];have d:k=1\/k= -1:=by
   omega
  rw[<-A]at j;refine⟨by omega,⟨⟨k,b.natAbs⟩,⟨d,by show(0:Z)<(b.natAbs:Z);omega,by show((b.natAbs:Z)).natAbs<_;rw[AL];exact N,?_⟩,⟨rfl,rfl,rfl,⟨⟩⟩,⟨rfl,.inl (Z0 _)⟩,⟨rfl,.inl (Z0 _)⟩,⟨⟩⟩,?_⟩
  .simp_all
  clear d A j P C N B R T G
  rintro⟨k,c⟩ f
  have d:k=1\/k= -1:=f.k;have e:0<c:=f.pos;have l:c.natAbs<2^m:=f.bn;have hv:k*kr a c.natAbs=r:=f.val;clear f;dsimp only;obtain⟨q,rfl⟩:=BQ (DT e);rw[AL]at l hv;have E:∀ {z:Z},z=1\/z= -1->FW FU z=z:=λh=>by rcases h with h|h<;>rw[h]<;>rfl
  have w:∀ {z:Z},z=1\/z= -1->(0-z=1\/0-z= -1):=λh=>by rcases h with h|h<;>rw[h]<;>decide
  refine⟨by omega,?_⟩;rw[aR8];by_cases u:(q:Z)%2=0
  .rw[Y0 u,Z6];rw[aCz (by omega) (by omega),<-A0]at hv;refine⟨by omega,by omega,by omega,?_⟩;by_cases F:a%2=1
   .have o:=vY d (oR F);rw[E o,show(k*iZ a==0)=FT by rcases o with h|h<;>rw[h]<;>rfl,Z5];refine⟨⟨k*iZ a,((q/2:F1):Z)⟩,⟨o,by show(0:Z)<((q/2:F1):Z);omega,by show(((q/2:F1):Z)).natAbs<_;omega,?_⟩,⟨⟨rfl,rfl,rfl,⟨⟩⟩,⟨rfl,.inl (Z0 _)⟩,⟨by show(q:Z)/2=((q/2:F1):Z);omega,.inl (Z0 _)⟩,⟨⟩⟩,by show(((q/2:F1):Z)).natAbs<((q:Z)).natAbs;omega⟩
    grind [iZ,kr,AL]
   .rw[wD F,DP,DM]at hv;rw[wD F,DP];exact hv
  .rw[Y1 u,Z5];have L:=AT a (show(q:Z)≠0 by omega);have K:=AM a e;refine⟨by omega,⟨⟨k,(a%q).toNat,q⟩,⟨by show q%2=1;omega,d,?_,by show(a%q).toNat<_;omega,l⟩,⟨rfl,rfl,rfl,⟨⟩⟩,⟨by show a%q=((a%q).toNat:Z);omega,.inl (Z0 _)⟩,⟨rfl,.inl (Z0 _)⟩,⟨⟩⟩,?_⟩
   .grind [jac,aMp]
   clear hv d L K l e u
   rintro⟨k,x,q⟩ t
   have M:q%2=1:=t.odd;have d:k=1\/k= -1:=t.k;have hv:k*jac x q=r:=t.val;have g:x<2^m:=t.ba;have v:q<2^m:=t.bn;clear t;dsimp only;by_cases Q:x=0
   .grind [c9,aEb]
   have O:(c9 (x:Z) != 0)=FV:=by rw[aDr (by omega)];rfl
   rw[O,Z6];refine⟨⟨⟨k,x,q⟩,⟨⟨M,d,hv,g,v⟩,BN _,rfl,Q⟩,⟨rfl,rfl,rfl,⟨⟩⟩,⟨rfl,.inl (Z0 _)⟩,⟨rfl,.inl (Z0 _)⟩,⟨⟩⟩,?_⟩;clear hv d O
   rintro⟨k,y,q'⟩ s
   have hya:(y:Z)<=x:=s.a;have hqq:(q':Z)=q:=s.n;have J:y≠0:=s.ne;have d:k=1\/k= -1:=s.i.k;have hv:k*jac y q'=r:=s.i.val;clear s;obtain rfl:q'=q:=by omega
   dsimp only;refine⟨by omega,?_⟩;rw[aR8];by_cases u:(y:Z)%2=0
   .rw[Y0 u,Z6];rw[aEa J (by omega),<-A0]at hv;have o:=vY d (oR (q:=(q':Z)) (by omega));exact⟨by omega,by omega,by omega,⟨k*iZ q',y/2,q'⟩,⟨⟨M,o,hv,by show y/2<_;omega,v⟩,by show((y/2:F1):Z)<=x;omega,rfl,by show y/2≠0;omega⟩,⟨⟨rfl,rfl,E o,⟨⟩⟩,⟨by show(y:Z)/2=((y/2:F1):Z);omega,.inl (Z0 _)⟩,⟨rfl,.inl (Z0 _)⟩,⟨⟩⟩,by show y/2<y;omega⟩
   .rw[Y1 u,Z5];rw[aHG (by omega)]at hv;refine⟨by omega,?_⟩;rw[aW5,aW5];unfold rsg at hv;by_cases I:y%4=3
    .rw[Y0 I,Z6];refine⟨by omega,?_⟩;by_cases H:q'%4=3
     .rw[Y0 H,Z6];rw[Y ⟨I,H⟩]at hv;exact iV (by omega) (by omega) (by omega) g (E (w d)) (w d) (by rw[<-hv];grind)
     .rw[Y1 H,Z5];rw[X (by omega),A5]at hv;exact iV (by omega) (by omega) (by omega) g rfl d hv
    .rw[Y1 I,Z5];rw[X (by omega),A5]at hv;exact iV (by omega) (by omega) (by omega) g rfl d hv
 .simp at h
def aJB:Ctr AA:=⟨105,aAo,λargs w=>Tryz.call105 args w,aP bR Tryz.func105 aAo aUg⟩
theorem dv2{M a b c d:Z}(f:M ∣ a)(e:M ∣ b):M ∣ c*a+d*b:=Int.dvd_add (BP f) (BP e)
theorem aB1{M u D G:Z}(a:M ∣ u*D-1)(h:M ∣ D*G):M ∣ G:=by
 have e:G=u*(D*G)+(-G)*(u*D-1):=by grind
 rw[e];exact dv2 h a
theorem bHf{M A B b c a d u s:Z}(j:M ∣ c*c-(b*b*b+A*b+B))(i:M ∣ d*d-(a*a*a+A*a+B))(f:M ∣ u*(a-b)-1)(h:M ∣ s-(d-c)*u) :
  M ∣ a*a+a*b+b*b+A-s*s*(a-b)-2*s*c:=by
 have g:M ∣ s*(a-b)-(d-c):=by
  have e:s*(a-b)-(d-c)=(a-b)*(s-(d-c)*u)+(d-c)*(u*(a-b)-1):=by grind
  rw[e];exact dv2 h f
 refine aB1 f ?_;have e:(a-b)*(a*a+a*b+b*b+A-s*s*(a-b)-2*s*c)=1*(1*(c*c-(b*b*b+A*b+B))+(-1)*(d*d-(a*a*a+A*a+B)))+(-(2*d+(s*(a-b)-(d-c))))*(s*(a-b)-(d-c)):=by grind
 rw[e];exact dv2 (dv2 j i) g
theorem bHe{M A B a b c u s:Z}(j:M ∣ b*b-(a*a*a+A*a+B))(i:M ∣ c*c-(a*a*a+A*a+B))(d:M ∣ u*(b+c)-1)(g:M ∣ s-(3*(a*a)+A)*u) :
  M ∣ a*a+a*a+a*a+A-s*s*(a-a)-2*s*b:=by
 have f:M ∣ s*(b+c)-(3*(a*a)+A):=by
  have e:s*(b+c)-(3*(a*a)+A)=(b+c)*(s-(3*(a*a)+A)*u)+(3*(a*a)+A)*(u*(b+c)-1):=by grind
  rw[e];exact dv2 g d
 have h:M ∣ b-c:=by
  refine aB1 d ?_;have e:(b+c)*(b-c)=1*(b*b-(a*a*a+A*a+B))+(-1)*(c*c-(a*a*a+A*a+B)):=by grind
  rw[e];exact dv2 j i
 have e:a*a+a*a+a*a+A-s*s*(a-a)-2*s*b=(-1)*(s*(b+c)-(3*(a*a)+A))+(-s)*(b-c):=by grind
 rw[e];exact dv2 f h
theorem bGS{M A B a c b s x y:Z}(h:M ∣ c*c-(a*a*a+A*a+B))(g:M ∣ b*b+b*a+a*a+A-s*s*(b-a)-2*s*c)(f:M ∣ x-(s*s-(a+b)))(d:M ∣ y-(s*(a-x)-c)):M ∣ y*y-(x*x*x+A*x+B):=by
 have e:y*y-(x*x*x+A*x+B)=1*(1*(1*(c*c-(a*a*a+A*a+B))+(-(x-a))*(b*b+b*a+a*a+A-s*s*(b-a)-2*s*c))+(-((x-a)*(x-b)))*(x-(s*s-(a+b))))+((y-(s*(a-x)-c))-2*(s*(x-a)+c))*(y-(s*(a-x)-c)):=by grind
 rw[e];exact dv2 (dv2 (dv2 h g) f) d
theorem jI(a M:Z):M ∣ a%M-a:=by
 have:=A8 a M;exact⟨-(a/M),by rw[CB];omega⟩
theorem aQg(a M:Z):M ∣ a-a%M:=by
 have:=A8 a M;exact⟨a/M,by omega⟩
theorem aHF{a M:Z}:inB a M=FV↔0<=a/\a<M:=by unfold inB;exact Z4
theorem j0{a b M:Z}:a%M=b%M↔M ∣ a-b:=Int.emod_eq_emod_iff_emod_sub_eq_zero.trans ⟨Int.dvd_of_emod_eq_zero,BR⟩
structure OnP (A B M X Y:Int):Prop where
 x0:0<=X
 x1:X<M
 y0:0<=Y
 y1:Y<M
 eq:M ∣ Y*Y-(X*X*X+A*X+B)
theorem aLa(A B M X:Z):((X*X%M+A)*X%M+B)%M=(X*X*X+A*X+B)%M:=by
 rw[Int.emod_add_emod,j0];have e:(X*X%M+A)*X+B-(X*X*X+A*X+B)=X*(X*X%M-X*X):=by grind
 simp_all [BP,jI]
theorem oM{A B M X Y:Z}:m5 A B M X Y FT=FV↔cI A B M=FV/\OnP A B M X Y:=by
 unfold m5;rw[Z5,Z3,Z3,Z3,aHF,aHF,Z4,aLa,j0];constructor
 .rintro⟨h,⟨⟨e,d⟩,c,b⟩,a⟩;exact⟨h,e,d,c,b,a⟩
 .rintro⟨h,e,d,c,b,a⟩;exact⟨h,⟨⟨e,d⟩,c,b⟩,a⟩
theorem aMB{A B M X Y:Z}:m5 A B M X Y FV=FV↔cI A B M=FV/\X=0/\Y=0:=by
 grind [m5]
theorem aKQ{A B M X Y:Z}{o:N}(h:m5 A B M X Y o=FV):cI A B M=FV:=by
 grind [m5]
theorem w9{A B M:Z}:cI A B M=FV↔3<M/\M%2≠0/\(0<=A/\A<M)/\0<=B/\B<M:=by
 grind [cI,BL,aHF]
def TR.fine(A B M:Z):TR->Prop
 |.pt X Y o=>m5 A B M X Y o=FV
 |.dv d=>M%d=0/\1<d/\d<M
theorem aXV{D M:Z}(hM:1<M)(h1:gcd D M≠1)(hD:¬M ∣ D):M%(gcd D M:Z)=0/\1<(gcd D M:Z)/\(gcd D M:Z)<M:=by
 have a:(gcd D M:Z) ∣ M:=Int.gcd_dvd_right ..;have hd2:(gcd D M:Z) ∣ D:=Int.gcd_dvd_left ..;have hle:=Int.le_of_dvd (by omega) a
 grind [gcd,Int.gcd_eq_zero_iff,BR]
theorem aR2{A B M a d b f:Z}{k j:N}(l:m5 A B M a d k=FV)(m:m5 A B M b f j=FV):(aQ A M a d k b f j).fine A B M:=by
 have i:=aKQ l;obtain⟨hM,_⟩:=w9.1 i;unfold aQ;cases k with
 |true=>exact m
 |false =>
  rw[Z5];cases j with
  |true=>exact l
  |false =>
   rw[Z5];obtain⟨_,p0,p1,p2,p3,o⟩:=oM.1 l;obtain⟨_,q0,q1,q2,q3,q4⟩:=oM.1 m;cases ho:nH M a d b f with
   |true=>exact aMB.2 ⟨i,rfl,rfl⟩
   |false =>
    rw[Z5];by_cases g:gcd (pK a d b f) M=1
    .rw[Y0 g,Z6];obtain⟨m1,m2,m3⟩:=aBe (by omega) g;have q:M ∣ mW A M a d b f-(fH A M a d b f*fH A M a d b f-(a+b)):=jI _ _;have p:M ∣ uW A M a d b f-(fH A M a d b f*(a-mW A M a d b f)-d):=jI _ _;have hs:M ∣ fH A M a d b f-slN A a d b f*bQ (pK a d b f) M:=jI _ _;have r:M ∣ b*b+b*a+a*a+A-fH A M a d b f*fH A M a d b f*(b-a)-2*fH A M a d b f*d:=by
      grind [pK,slN,bHe,bHf]
     exact oM.2 ⟨i,AT _ (by omega),AM _ (by omega),AT _ (by omega),AM _ (by omega),bGS o r q p⟩
    .rw[Y1 g,Z5];refine aXV (by omega) g λn=>?_;by_cases e:a=b
     .grind [pK,nH,BR]
     .have s:pK a d b f=b-a:=by unfold pK;simp[e]
      rw[s]at n;obtain⟨c,i⟩:=n;have:c=0:=by
       rcases Int.lt_trichotomy c 0 with h|h|h
       .have:M*c<=M*(-1):=Z7 (by omega) (by omega);omega
       .exact h
       .have:M*1<=M*c:=Z7 (by omega) (by omega);omega
      subst this;omega
theorem bC2{A B M X Y:Z}{o:N}(h:m5 A B M X Y o=FV):m5 A B M X (aFr M Y o) o=FV:=by
 cases o with
 |true=>exact h
 |false =>
  obtain⟨a,d,c,p2,p3,b⟩:=oM.1 h;obtain⟨hM,_⟩:=w9.1 a;refine oM.2 ⟨a,d,c,AT _ (by omega),AM _ (by omega),?_⟩;have f:M ∣ -Y%M - -Y:=jI _ _;show M ∣ (-Y%M)*(-Y%M)-_;have e:(-Y%M)*(-Y%M)-(X*X*X+A*X+B)=1*(Y*Y-(X*X*X+A*X+B))+((-Y%M)-Y)*(-Y%M - -Y):=by grind
  rw[e];exact dv2 b f
theorem aS2{m a x y:Z}(h:3<m)(g:m%2≠0)(j:0<=a)(d:a<m)(f:0<=x)(c:x<m)(e:0<=y)(b:y<m):m5 a (kH m a x y) m x y FT=FV:=by
 have i:cI a (kH m a x y) m=FV:=w9.2 ⟨h,g,⟨j,d⟩,AT _ (by omega),AM _ (by omega)⟩;refine oM.2 ⟨i,f,c,e,b,?_⟩
 grind [kH,aQg]
def aIN:aF
 |[.big a n,.big m k]=>FQ (FQ (n<=200000/\k<=200000/\0<m/\gcd a m=1),.ret (.tup [.big (bQ a m) k,.int .i64 0]))
 |_=>FR
theorem bAO(a m:Z)(n k:O):(bif V (c9 m<=0)then aB 0 (bQ a m) 0 k/\(1:Z)=0/\S else (n<=900000/\k<=900000/\(m=0->U))/\(k<=300000/\k<=300000)/\bif V (m=0)then fP 1/\(k<=1000000/\64<=1000000)/\bif !decide ((Q (a%m):Z)=1)then aB 0 (bQ a m) 0 k/\(4:Z)=0/\S else (64<=900000/\k<=900000/\(m=0->U))/\aB (c9 (a%m)%m) (bQ a m) k k/\(0:Z)=0/\S else fP 1/\(k<=1000000/\64<=1000000)/\bif !decide ((gcd (a%m) m:Z)=1)then aB 0 (bQ a m) 0 k/\(4:Z)=0/\S else (k<=900000/\k<=900000/\(m=0->U))/\aB (sV (a%m) m%m) (bQ a m) k k/\(0:Z)=0/\S)=aJ (aM [eC,dM,aSD,cF,eW] aC) EE [.big a n,.big m k] (AF (.ret (.tup [.big (bQ a m) k,.int .i64 0]))):=by kernel_rfl
theorem bD0:bC EE aIN:=by
 intro ms p r h c;unfold aIN at h;split at h
 .rename_i a n m k;cases h;obtain⟨h1,h2,h3,d⟩:=c;refine⟨aM [eC,dM,aSD,cF,eW] aC,?_⟩;rw[<-bAO a m n k];have b:¬c9 m<=0:=by unfold c9;rw[X (by omega),X (by omega)];omega
  rw[Y1 b,Z5,Y1 (show ¬m=0 by omega),Z5,yW,d];exact⟨by omega,by omega,by omega,by omega,by omega,⟨rfl,.inl (Z0 _)⟩,rfl,⟨⟩⟩
 .simp at h
def aSF:Ctr AA:=⟨175,aIN,λargs w=>Tryz.call175 args w,aN bR Tryz.func175 aIN bD0⟩
def aAv:aF
 |[.st [.big A i,.big B j,.big M k]]=>FQ (FQ (i<=1000/\j<=1000/\k<=1000),.ret (.bool (cI A B M)))
 |_=>FR
def aPq:aF
 |[.big a n,.big m k]=>FQ (FQ (n<=1000/\k<=1000),.ret (.bool (inB a m)))
 |_=>FR
theorem bEZ(a m:Z)(n k:O):(bif V (c9 a≥0)then (n<=1000000/\k<=1000000)/\V (aX a m<0)=inB a m else FT=inB a m)=aJ (aM [eC,iF] aC) ES [.big a n,.big m k] (AF (.ret (.bool (inB a m)))):=by kernel_rfl
theorem aIW{a:Z}:c9 a<0↔a<0:=by unfold c9;split<;>(try split)<;>omega
theorem bGE:bC ES aPq:=by
 intro ms p r h b;unfold aPq at h;split at h
 .rename_i a n m k;cases h;obtain⟨h1,h2⟩:=b;refine⟨aM [eC,iF] aC,?_⟩;rw[<-bEZ a m n k]
  grind [inB,c9,aIW,yZ]
 .simp at h
def aNX:Ctr AA:=⟨141,aPq,λargs w=>Tryz.call141 args w,aN bR Tryz.func141 aPq bGE⟩
theorem aRB(A B M:Z)(i j k:O):(fP 3/\(k<=1000000/\64<=1000000)/\bif V (aX M 3<=0)then FT=cI A B M else fP 2/\(k<=900000/\64<=900000/\((2:Z)=0->U))/\bif c9 (M%2)==0 then FT=cI A B M else (i<=1000/\k<=1000)/\bif inB A M then (j<=1000/\k<=1000)/\inB B M=cI A B M else FT=cI A B M)=aJ (aM [cF,iF,dM,eC,aNX] aC) E0 [cvM A B M i j k] (AF (.ret (.bool (cI A B M)))):=by kernel_rfl
theorem aUo:bC E0 aAv:=by
 intro ms p r h a;unfold aAv at h;split at h
 .rename_i A i B j M k;cases h;obtain⟨h1,h2,h3⟩:=a;refine⟨aM [cF,iF,dM,eC,aNX] aC,?_⟩;rw[<-aRB A B M i j k]
  grind [cI,aCx,uU,inB]
 .simp at h
def yF:Ctr AA:=⟨107,aAv,λargs w=>Tryz.call107 args w,aN bR Tryz.func107 aAv aUo⟩
def aPo:aF
 |[.st [.big A i,.big B j,.big M k],.st [.big X n,.big Y m,.bool o]]=>FQ (FQ (i<=200/\j<=200/\k<=200/\n<=200/\m<=200),.ret (.bool (m5 A B M X Y o)))
 |_=>FR
theorem bEY(A B M X Y:Z)(o:N)(i j k n m:O):((i<=1000/\j<=1000/\k<=1000)/\bif !cI A B M then FT=m5 A B M X Y o else bif o then bif c9 X==0 then (c9 Y==0)=m5 A B M X Y o else FT=m5 A B M X Y o else (n<=1000/\k<=1000)/\bif inB X M then (m<=1000/\k<=1000)/\bif inB Y M then (m<=1000000/\m<=1000000)/\(m+m<=900000/\k<=900000/\(M=0->U))/\(i<=200/\j<=200/\k<=200/\n<=200/\0<M)/\(k<=1000000/\k<=1000000)/\V (Y*Y%M=aBl A B M X)=m5 A B M X Y o else FT=m5 A B M X Y o else FT=m5 A B M X Y o)=aJ (aM [yF,eC,aNX,eI,dM,aNz,eW] aC) EZ [cvM A B M i j k,pH X Y o n m] (AF (.ret (.bool (m5 A B M X Y o)))):=by kernel_rfl
theorem aRa(A B M X:Z):aBl A B M X=((X*X%M+A)*X%M+B)%M:=by
 grind [aLa,aBl,A0]
theorem bGD:bC EZ aPo:=by
 intro ms p r h a;unfold aPo at h;split at h
 .rename_i A i B j M k X n Y m o;cases h;obtain⟨h1,h2,h3,h4,h5⟩:=a;refine⟨aM [yF,eC,aNX,eI,dM,aNz,eW] aC,?_⟩;rw[<-bEY A B M X Y o i j k n m]
  grind [m5,cI,BL,AO,uU,inB,aRa]
 .simp at h
def aNU:Ctr AA:=⟨108,aPo,λargs w=>Tryz.call108 args w,aN bR Tryz.func108 aPo bGD⟩
def aAs:aF
 |[.st [.big _ i,.big _ j,.big M k],.st [.big X n,.big Y m,.bool o]]=>FQ (FQ (i<=200/\j<=200/\k<=200/\n<=200/\m<=200/\0<M),.ret (pH X (aFr M Y o) o 200 200))
 |_=>FR
theorem aRx(A B M X Y:Z)(o:N)(i j k n m:O):(bif o then aB X X n 200/\aB Y (aFr M Y o) m 200/\o=o/\S else m<=1000000/\(m<=900000/\k<=900000/\(M=0->U))/\aB X X n 200/\aB (-Y%M) (aFr M Y o) k 200/\FT=o/\S)=aJ (aM [tH,dM] aC) EQ [cvM A B M i j k,pH X Y o n m] (AF (.ret (pH X (aFr M Y o) o 200 200))):=by kernel_rfl
theorem aUk:bC EQ aAs:=by
 intro ms p r h a;unfold aAs at h;split at h
 .rename_i A i B j M k X n Y m o;cases h;obtain⟨h1,h2,h3,h4,h5,h6⟩:=a;refine⟨aM [tH,dM] aC,?_⟩;rw[<-aRx A B M X Y o i j k n m];cases o with
  |true=>exact⟨⟨rfl,.inl (by omega)⟩,⟨rfl,.inl (by omega)⟩,rfl,⟨⟩⟩
  |false=>exact⟨by omega,by omega,⟨rfl,.inl (by omega)⟩,⟨rfl,.inl (by omega)⟩,rfl,⟨⟩⟩
 .simp at h
def aJG:Ctr AA:=⟨143,aAs,λargs w=>Tryz.call143 args w,aN bR Tryz.func143 aAs aUk⟩
def aAr:aF
 |[.st [.big A i,.big _ j,.big M k],.st [.big e n,.big d m,.bool f],.st [.big b n',.big a m',.bool c]] =>
  FQ (FQ (i<=200/\j<=200/\k<=200/\n<=200/\m<=200/\n'<=200/\m'<=200/\0<M),.ret (aVr (aQ A M e d f b a c).rs))
 |_=>FR
theorem aRw(A B M b c f e:Z)(h g:N)(i j k n m n' m':O)(a:_)(l:a=(aQ A M b c h f e g)):(bif h then (aB f (TR.X a) n' 200/\aB e (TR.Y a) m' 200/\g=TR.o a/\S)/\aB 0 (TR.d a) 0 200/\(0=bif TR.ok a then (0:Z)else (6:Z))/\S else bif g then (aB b (TR.X a) n 200/\aB c (TR.Y a) m 200/\h=TR.o a/\S)/\aB 0 (TR.d a) 0 200/\(0=bif TR.ok a then (0:Z)else (6:Z))/\S else (n'<=1000000/\n<=1000000)/\(m'<=1000000/\m<=1000000)/\(n<=1000000/\n'<=1000000)/\bif V (b=f)then (m<=1000000/\m'<=1000000)/\(max m m'+1<=900000/\k<=900000/\(M=0->U))/\bif c9 ((c+e)%M)==0 then (aB 0 (TR.X a) 0 200/\aB 0 (TR.Y a) 0 200/\FV=TR.o a/\S)/\aB 0 (TR.d a) 0 200/\(0=bif TR.ok a then (0:Z)else (6:Z))/\S else fP 3/\(n<=1000000/\n<=1000000)/\(64<=1000000/\n+n<=1000000)/\(64+(n+n)<=1000000/\i<=1000000)/\(max m m'+1<=900000/\k<=900000)/\fP 1/\(max (max m m'+1) k<=1000000/\64<=1000000)/\bif !decide ((gcd (c+e) M:Z)=1)then (aB 0 (TR.X a) 0 200/\aB 0 (TR.Y a) 0 200/\FT=TR.o a/\S)/\aB (gcd (c+e) M:Z) (TR.d a) (max (max m m'+1) k) 200/\(6=bif TR.ok a then (0:Z)else (6:Z))/\S else (max m m'+1<=200000/\k<=200000/\0<M/\gcd (c+e) M=1)/\(max (64+(n+n)) i+1<=1000000/\k<=1000000)/\(max (64+(n+n)) i+1+k<=1000000/\max (64+(n+n)) i+1+k<=1000000)/\(n<=1000000/\n'<=1000000)/\(max (64+(n+n)) i+1+k+(max (64+(n+n)) i+1+k)<=1000000/\max n n'+1<=1000000)/\(max (max (64+(n+n)) i+1+k+(max (64+(n+n)) i+1+k)) (max n n'+1)+1<=900000/\k<=900000/\(M=0->U))/\(n<=1000000/\k<=1000000)/\(max (64+(n+n)) i+1+k<=1000000/\max n k+1<=1000000)/\(max (64+(n+n)) i+1+k+(max n k+1)<=1000000/\m<=1000000)/\(max (max (64+(n+n)) i+1+k+(max n k+1)) m+1<=900000/\k<=900000/\(M=0->U))/\(aB (((3*(b*b)+A)*bQ (c+e) M*((3*(b*b)+A)*bQ (c+e) M)-(b+f))%M) (TR.X a) k 200/\aB (((3*(b*b)+A)*bQ (c+e) M*(b-((3*(b*b)+A)*bQ (c+e) M*((3*(b*b)+A)*bQ (c+e) M)-(b+f))%M)-c)%M) (TR.Y a) k 200/\FT=TR.o a/\S)/\aB 0 (TR.d a) 0 200/\(0=bif TR.ok a then (0:Z)else (6:Z))/\S else (max n' n+1<=900000/\k<=900000)/\fP 1/\(max (max n' n+1) k<=1000000/\64<=1000000)/\bif !decide ((gcd (f-b) M:Z)=1)then (aB 0 (TR.X a) 0 200/\aB 0 (TR.Y a) 0 200/\FT=TR.o a/\S)/\aB (gcd (f-b) M:Z) (TR.d a) (max (max n' n+1) k) 200/\(6=bif TR.ok a then (0:Z)else (6:Z))/\S else (max n' n+1<=200000/\k<=200000/\0<M/\gcd (f-b) M=1)/\(max m' m+1<=1000000/\k<=1000000)/\(max m' m+1+k<=1000000/\max m' m+1+k<=1000000)/\(n<=1000000/\n'<=1000000)/\(max m' m+1+k+(max m' m+1+k)<=1000000/\max n n'+1<=1000000)/\(max (max m' m+1+k+(max m' m+1+k)) (max n n'+1)+1<=900000/\k<=900000/\(M=0->U))/\(n<=1000000/\k<=1000000)/\(max m' m+1+k<=1000000/\max n k+1<=1000000)/\(max m' m+1+k+(max n k+1)<=1000000/\m<=1000000)/\(max (max m' m+1+k+(max n k+1)) m+1<=900000/\k<=900000/\(M=0->U))/\(aB (((e-c)*bQ (f-b) M*((e-c)*bQ (f-b) M)-(b+f))%M) (TR.X a) k 200/\aB (((e-c)*bQ (f-b) M*(b-((e-c)*bQ (f-b) M*((e-c)*bQ (f-b) M)-(b+f))%M)-c)%M) (TR.Y a) k 200/\FT=TR.o a/\S)/\aB 0 (TR.d a) 0 200/\(0=bif TR.ok a then (0:Z)else (6:Z))/\S)=aJ (aM [kF,eW,gE,eC,dM,eI,cF,aAQ,aSF] aC) EP [cvM A B M i j k,pH b c h n m,pH f e g n' m'] (AF (.ret (aVr (aQ A M b c h f e g).rs))):=by subst l;kernel_rfl
theorem aI1(s u M:Z):(s%M*(s%M)-u)%M=(s*s-u)%M:=by
 simp_all [BF,BG]
theorem aOx(s u v M:Z):(s%M*u-v)%M=(s*u-v)%M:=by
 simp_all [BF,BG,BX,CK]
theorem aUj:dR EP aAr:=by
 intro ms p r h J L;unfold aAr at h;split at h
 .rename_i A i B j M k q n l m D t n' g m' C;cases h;obtain⟨z,I,v,G,P,O,N,F⟩:=J;refine⟨aM [kF,eW,gE,eC,dM,eI,cF,aAQ,aSF] aC,?_⟩;rw[<-aRw A B M q l t g D C i j k n m n' m' _ rfl];generalize f:aQ A M q l D t g C=R;unfold aQ at f;have w:∀ {X Y X' Y':Z} {o:Bool} {a b:F1},TR.pt X' Y' o=R->X=X'->Y=Y'->a<=200->b<=200->((X=R.X/\(a<=200\/X.natAbs<2^200))/\(Y=R.Y/\(b<=200\/Y.natAbs<2^200))/\o=R.o/\S)/\((0:Z)=R.d/\(0<=200\/Q 0<2^200))/\((0:Z)=bif R.ok then 0 else 6)/\S:=by
   rintro X Y X' Y' o a b rfl z I v G
   exact⟨⟨⟨z,.inl v⟩,⟨I,.inl G⟩,rfl,⟨⟩⟩,⟨rfl,.inl (Z9 _)⟩,rfl,⟨⟩⟩
  have dv:∀ {d:Z} {a:F1},TR.dv d=R->a<=200\/d.natAbs<2^200->(((0:Z)=R.X/\(0<=200\/Q 0<2^200))/\((0:Z)=R.Y/\(0<=200\/Q 0<2^200))/\FT=R.o/\S)/\(d=R.d/\(a<=200\/d.natAbs<2^200))/\((6:Z)=bif R.ok then 0 else 6)/\S:=by
   rintro d a rfl z
   exact⟨⟨⟨rfl,.inl (Z9 _)⟩,⟨rfl,.inl (Z9 _)⟩,rfl,⟨⟩⟩,⟨rfl,z⟩,rfl,⟨⟩⟩
  have K:M.natAbs<2^k:=L.1.2.2.1;have H:∀(d:Z) (a:F1),a<=200\/(gcd d M:Z).natAbs<2^200:=λd a=>.inr (by
   have:=yV (a:=d) F K;have:=AN (n:=2) (by omega) v;omega)
  cases D with
  |true=>rw[Z6]at f;exact w f rfl rfl O N
  |false =>
   rw[Z5]at f;rw[Z5];cases C with
   |true=>rw[Z6]at f;exact w f rfl rfl G P
   |false =>
    rw[Z5]at f;rw[Z5];refine⟨by omega,by omega,by omega,?_⟩;by_cases e:q=t
    .have u:pK q l t g=l+g:=by unfold pK;rw[Y0 e];rfl
     have x:slN A q l t g=3*(q*q)+A:=by unfold slN;rw[Y0 e];rfl
     have E:nH M q l t g=V ((l+g)%M=0):=by unfold nH;rw[Y0 e,AB]
     rw[E,u]at f;rw[Y0 e,Z6];refine⟨by omega,by omega,?_⟩;rw[aG9 (c:=(l+g)%M=0) uU];by_cases y:(l+g)%M=0
     .rw[Y0 y,Z6]at f;rw[Y0 y,Z6];exact w f rfl rfl (Z9 _) (Z9 _)
     .rw[Y1 y,Z5]at f;rw[Y1 y,Z5];refine⟨by omega,by omega,by omega,by omega,by omega,by omega,by omega,?_⟩;by_cases s:gcd (l+g) M=1
      .rw[Y0 s,Z6]at f;rw[Y0 (show(gcd (l+g) M:Z)=1 by omega),AO,Z5];refine⟨⟨by omega,by omega,F,s⟩,by omega,by omega,by omega,by omega,by omega,by omega,by omega,by omega,by omega,w f ?_ ?_ v v⟩
       .unfold mW fH;rw[u,x,aI1]
       .unfold uW mW fH;rw[u,x,aI1,aOx]
      .rw[Y1 s,Z5]at f;rw[Y1 (show ¬(gcd (l+g) M:Z)=1 by omega),BH,Z6];exact dv f (H _ _)
    .have u:pK q l t g=t-q:=by unfold pK;rw[Y1 e];rfl
     have x:slN A q l t g=g-l:=by unfold slN;rw[Y1 e];rfl
     have E:nH M q l t g=FT:=by unfold nH;rw[Y1 e,AH]
     rw[E,u,Z5]at f;rw[Y1 e,Z5];refine⟨by omega,by omega,by omega,?_⟩;by_cases s:gcd (t-q) M=1
     .rw[Y0 s,Z6]at f;rw[Y0 (show(gcd (t-q) M:Z)=1 by omega),AO,Z5];refine⟨⟨by omega,by omega,F,s⟩,by omega,by omega,by omega,by omega,by omega,by omega,by omega,by omega,by omega,w f ?_ ?_ v v⟩
      .unfold mW fH;rw[u,x,aI1]
      .unfold uW mW fH;rw[u,x,aI1,aOx]
     .rw[Y1 s,Z5]at f;rw[Y1 (show ¬(gcd (t-q) M:Z)=1 by omega),BH,Z6];exact dv f (H _ _)
 .simp at h
def aJF:Ctr AA:=⟨144,aAr,λargs w=>Tryz.call144 args w,aP bR Tryz.func144 aAr aUj⟩
def wI(z M a:Z)(b:N):Z:=cond (V (z<0)) (aFr M a b) a
def bHF(z A B M c b:Z)(a:N)(t i j k:O):MS :=
 ⟨64, [(3,.bp 0 0),(4,.bp 1 0),(5,.bp 2 0),(6,.bp 3 0)],
  [⟨FT,.one (cvM A B M i j k)⟩,⟨FT,.one (.big z.natAbs t)⟩,⟨FT,.one (pH c (wI z M b a) a 200 200)⟩,⟨FT,.one (.st [pH 0 0 FT 0 0,.big 0 0,.int .i64 0])⟩],0⟩
def rtS(z A B M c b:Z)(a:N)(t i j k:O)(q:TmI):MS :=
 ⟨64, [(3,.bp 0 0),(4,.bp 1 0),(5,.bp 2 0),(6,.bp 3 0),(7,.bp 4 0),(8,.int .i64 ((q.1:Z)-1))],
  [⟨FT,.one (cvM A B M i j k)⟩,⟨FT,.one (.big z.natAbs t)⟩,⟨FT,.one (pH c (wI z M b a) a 200 200)⟩,⟨FT,.one (.st [pH 0 0 FT 0 0,.big 0 0,.int .i64 0])⟩,
   ⟨FT,.one (.st [pH q.2.1 q.2.2.1 q.2.2.2 200 200,.big 0 200,.int .i64 0])⟩],0⟩
def bBH(z A B M b a:Z)(c:N)(t i j k:O):O->MS->G CutAnn
 |6,_=>FQ (.mk N (λu=>u=FV/\0<M) (λ_=>bHF z A B M b a c t i j k))
 |_,_=>FR
def aJq(z A B M c b:Z)(a:N)(t i j k:O):O->MS->G LoopAnn
 |8,_=>FQ (.inv TmI (λq=>q.1<=bl z.natAbs/\cD A M (.pt c (wI z M b a) a) (z.natAbs/2^q.1)= .pt q.2.1 q.2.2.1 q.2.2.2) (rtS z A B M c b a t i j k) (λq=>q.1))
 |_,_=>FR
theorem aRA(A B M z c q:Z)(b:N)(t i j k n m:O)(a:_)(C:a=(bE A B M z c q b))(g:_)(x:g=(wI z M q b))(l:_)(w:l=λ(i_2:TmI)=>(AE (AE i_2)))(h:_)(v:h=(Q z:Z))(s:_)(u:s=λ(i_2:TmI)=>(AD (AE i_2)))(f:_)(E:f=λ(i_2:TmI)=>(aQ A M (s i_2) (AD (l i_2)) (AE (l i_2)) (s i_2) (AD (l i_2)) (AE (l i_2))))(p:_)(D:p=λ(i_2:TmI)=>(aQ A M (TR.X (f i_2)) (TR.Y (f i_2)) (TR.o (f i_2)) c g b))(r:_)(y:r=λ(i_2:TmI)=>(bif TR.ok (f i_2)then (0:Z)else (6:Z))):((i<=200/\j<=200/\k<=200/\n<=200/\m<=200)/\bif !m5 A B M c q b then (aB 0 (RS.X a) 0 200/\aB 0 (RS.Y a) 0 200/\FT=RS.o a/\S)/\aB 0 (RS.d a) 0 200/\1=RS.e a/\S else (bif V (c9 z<0)then (i<=200/\j<=200/\k<=200/\n<=200/\m<=200/\0<M)/\t<=1000000/\∃i_1,(i_1=FV/\0<M)/\(0=0/\0=0/\0=0/\0=0/\S)/\(aB A A i i/\aB B B j j/\aB M M k k/\S)/\aB (-z) h t t/\(aB c c 200 200/\aB (aFr M q b) g 200 200/\b=b/\S)/\((aB 0 0 0 0/\aB 0 0 0 0/\FT=FT/\S)/\aB 0 0 0 0/\(0:Z)=0/\S)/\S else ∃i_1,(i_1=FV/\0<M)/\(0=0/\0=0/\0=0/\0=0/\S)/\(aB A A i i/\aB B B j j/\aB M M k k/\S)/\aB z h t t/\(aB c c n 200/\aB q g m 200/\b=b/\S)/\((aB 0 0 0 0/\aB 0 0 0 0/\FT=FT/\S)/\aB 0 0 0 0/\(0:Z)=0/\S)/\S)/\∀(i_1:N),i_1=FV/\0<M->t<=1000000/\(∃i_2,(AD i_2<=bl (Q z)/\cD A M (TR.pt c g b) (Q z/2^AD i_2)=TR.pt (s i_2) (AD (l i_2)) (AE (l i_2)))/\(0=0/\0=0/\0=0/\0=0/\0=0/\P FU ((bl (Q h):Z)-1)=(↑(AD i_2):Z)-1/\S)/\(aB A A i i/\aB B B j j/\aB M M k k/\S)/\aB h h t t/\(aB c c 200 200/\aB g g 200 200/\b=b/\S)/\((aB 0 0 0 0/\aB 0 0 0 0/\FT=FT/\S)/\aB 0 0 0 0/\(0:Z)=0/\S)/\((aB 0 (s i_2) 0 200/\aB 0 (AD (l i_2)) 0 200/\FV=AE (l i_2)/\S)/\aB 0 0 0 200/\(0:Z)=0/\S)/\S)/\∀(i_2:TmI),AD i_2<=bl (Q z)/\cD A M (TR.pt c g b) (Q z/2^AD i_2)=TR.pt (s i_2) (AD (l i_2)) (AE (l i_2))->bif V ((↑(AD i_2):Z)-1≥0)then (i<=200/\j<=200/\k<=200/\200<=200/\200<=200/\200<=200/\200<=200/\0<M)/\bif (r i_2) ==0 then ((32:Z)=0->U)/\(0<=P FU (F4 ((↑(AD i_2):Z)-1) 32)/\P FU (F4 ((↑(AD i_2):Z)-1) 32)<(H (aA (Q h)):Z))/\((32:Z)=0->U)/\0<=P F5 (T ((↑(AD i_2):Z)-1) 32)/\bif P Aa (AI (R (AC Aa) (fdiv (J (aA (Q h)) (I (P FU (F4 ((↑(AD i_2):Z)-1) 32))) 0) ((2:Z)^min (I (P F5 (T ((↑(AD i_2):Z)-1) 32))) (AC Aa))) &&&R (AC Aa) 1):Z)==1 then (i<=200/\j<=200/\k<=200/\200<=200/\200<=200/\200<=200/\200<=200/\0<M)/\bif (bif TR.ok (p i_2)then (0:Z)else (6:Z)) != 0 then (aB (TR.X (p i_2)) (RS.X a) 200 200/\aB (TR.Y (p i_2)) (RS.Y a) 200 200/\TR.o (p i_2) =RS.o a/\S)/\aB (TR.d (p i_2)) (RS.d a) 200 200/\(bif TR.ok (p i_2)then (0:Z)else (6:Z))=RS.e a/\S else ∃j_1,(AD j_1<=bl (Q z)/\cD A M (TR.pt c g b) (Q z/2^AD j_1)=TR.pt (AD (AE j_1)) (AD (AE (AE j_1))) (AE (AE (AE j_1))))/\((0=0/\0=0/\0=0/\0=0/\0=0/\P FU ((↑(AD i_2):Z)-1-1)=(↑(AD j_1):Z)-1/\S)/\(aB A A i i/\aB B B j j/\aB M M k k/\S)/\aB h h t t/\(aB c c 200 200/\aB g g 200 200/\b=b/\S)/\((aB 0 0 0 0/\aB 0 0 0 0/\FT=FT/\S)/\aB 0 0 0 0/\(0:Z)=0/\S)/\((aB (TR.X (p i_2)) (AD (AE j_1)) 200 200/\aB (TR.Y (p i_2)) (AD (AE (AE j_1))) 200 200/\TR.o (p i_2) =AE (AE (AE j_1))/\S)/\aB (TR.d (p i_2)) 0 200 200/\(bif TR.ok (p i_2)then (0:Z)else (6:Z))=0/\S)/\S)/\AD j_1<AD i_2 else bif (r i_2) != 0 then (aB (TR.X (f i_2)) (RS.X a) 200 200/\aB (TR.Y (f i_2)) (RS.Y a) 200 200/\TR.o (f i_2) =RS.o a/\S)/\aB (TR.d (f i_2)) (RS.d a) 200 200/\(r i_2) =RS.e a/\S else ∃j_1,(AD j_1<=bl (Q z)/\cD A M (TR.pt c g b) (Q z/2^AD j_1)=TR.pt (AD (AE j_1)) (AD (AE (AE j_1))) (AE (AE (AE j_1))))/\((0=0/\0=0/\0=0/\0=0/\0=0/\P FU ((↑(AD i_2):Z)-1-1)=(↑(AD j_1):Z)-1/\S)/\(aB A A i i/\aB B B j j/\aB M M k k/\S)/\aB h h t t/\(aB c c 200 200/\aB g g 200 200/\b=b/\S)/\((aB 0 0 0 0/\aB 0 0 0 0/\FT=FT/\S)/\aB 0 0 0 0/\(0:Z)=0/\S)/\((aB (TR.X (f i_2)) (AD (AE j_1)) 200 200/\aB (TR.Y (f i_2)) (AD (AE (AE j_1))) 200 200/\TR.o (f i_2) =AE (AE (AE j_1))/\S)/\aB (TR.d (f i_2)) 0 200 200/\(r i_2) =0/\S)/\S)/\AD j_1<AD i_2 else bif (r i_2) != 0 then (aB (TR.X (f i_2)) (RS.X a) 200 200/\aB (TR.Y (f i_2)) (RS.Y a) 200 200/\TR.o (f i_2) =RS.o a/\S)/\aB (TR.d (f i_2)) (RS.d a) 200 200/\(r i_2) =RS.e a/\S else ∃j_1,(AD j_1<=bl (Q z)/\cD A M (TR.pt c g b) (Q z/2^AD j_1)=TR.pt (AD (AE j_1)) (AD (AE (AE j_1))) (AE (AE (AE j_1))))/\((0=0/\0=0/\0=0/\0=0/\0=0/\P FU ((↑(AD i_2):Z)-1-1)=(↑(AD j_1):Z)-1/\S)/\(aB A A i i/\aB B B j j/\aB M M k k/\S)/\aB h h t t/\(aB c c 200 200/\aB g g 200 200/\b=b/\S)/\((aB 0 0 0 0/\aB 0 0 0 0/\FT=FT/\S)/\aB 0 0 0 0/\(0:Z)=0/\S)/\((aB (TR.X (f i_2)) (AD (AE j_1)) 200 200/\aB (TR.Y (f i_2)) (AD (AE (AE j_1))) 200 200/\TR.o (f i_2) =AE (AE (AE j_1))/\S)/\aB (TR.d (f i_2)) 0 200 200/\(r i_2) =0/\S)/\S)/\AD j_1<AD i_2 else (aB (s i_2) (RS.X a) 200 200/\aB (AD (l i_2)) (RS.Y a) 200 200/\AE (l i_2) =RS.o a/\S)/\aB 0 (RS.d a) 200 200/\0=RS.e a/\S)=aJ (aJY [aNU,eC,aJG,tH,oW,aJF] (aJq z A B M c q b t i j k) (bBH z A B M c q b t i j k)) EY [cvM A B M i j k,.big z t,pH c q b n m] (AF (.ret (aVr (bE A B M z c q b)))):=by subst C x w v u E D y;kernel_rfl
theorem b00:((0:Z)==0)=FV:=rfl
theorem b60:((6:Z)==0)=FT:=rfl
theorem n00:((0:Z) != 0)=FT:=rfl
theorem n60:((6:Z) != 0)=FV:=rfl
theorem aUn:dR EY uQ:=by
 intro ms p r h S T;unfold uQ at h;split at h
 .rename_i A i B j M k z t f n v m a;cases h;obtain⟨h1,h2,h3,h4,h5,h6⟩:=S;refine⟨aJY [aNU,eC,aJG,tH,oW,aJF] (aJq z A B M f v a t i j k) (bBH z A B M f v a t i j k),?_⟩;rw[<-aRA A B M z f v a t i j k n m _ rfl _ rfl _ rfl _ rfl _ rfl _ rfl _ rfl _ rfl];have K:z.natAbs<2^t:=T.2.1;refine⟨by omega,?_⟩;generalize g:bE A B M z f v a=R;unfold bE at g;cases F:m5 A B M f v a with
  |false =>
   rw[F,Z5]at g;subst g;exact⟨⟨⟨rfl,.inl (by omega)⟩,⟨rfl,.inl (by omega)⟩,rfl,⟨⟩⟩,⟨rfl,.inl (by omega)⟩,rfl,⟨⟩⟩
  |true =>
   rw[F,Z6]at g;have hM:=aOT F;rw[AO,Z5];refine⟨?_,?_⟩
   .by_cases L:z<0
    .rw[Y0 (aIW.2 L),Z6];refine⟨by omega,by omega,FV,⟨rfl,by omega⟩,?_⟩
     grind [aFr,wI]
    .rw[Y1 (λh=>L (aIW.1 h)),Z5];refine⟨FV,⟨rfl,by omega⟩,?_⟩
     grind [wI]
   .rintro u ⟨_,hM0⟩
    have I:bl z.natAbs<=t:=dA K;have G:=kC z.natAbs;have H:=mC z.natAbs;have g:(cD A M (.pt f (wI z M v a) a) z.natAbs).rs=R:=g;simp only[AL];generalize z.natAbs=N at K I G H g⊢;generalize wI z M v a=q at g⊢;refine⟨by omega,⟨(bl N,0,0,FV),?_⟩,?_⟩
    .grind [cD,bl,BA,qM,aT]
    .rintro⟨b,X,Y,o⟩ ⟨w,l⟩
     have w:b<=bl N:=w;have l:cD A M (.pt f q a) (N/2^b)= .pt X Y o:=l;dsimp only;rw[AS];split
     .rename_i U;obtain⟨c,rfl⟩:∃c,b=c+1:=⟨b-1,by omega⟩;have e1:((c+1:F1):F3)-1=(c:F1):=by omega
      have e2:F4 (c:F3) 32=((c/32:F1):F3):=rfl;have e3:tmod (c:F3) 32=((c%32:F1):F3):=rfl;have e4:FW FU ((c/32:F1):F3)=((c/32:F1):F3):=aT (by omega) (by omega);have Z:FW FU ((c:F1)-1:F3)=(c:F1)-1:=aT (by omega) (by omega);have V:FW F5 ((c%32:F1):F3)=((c%32:F1):F3):=by rw[lH];omega
      have e6:(2:F1)^c<=N:=by
       have x:N≠0:=by intro e;subst e;rw[qX]at w;omega
       exact CG (AN (by omega) (by omega)) (wL x)
      have x:N/2^c≠0:=by
       simp_all
      have W:N/2^c/2=N/2^(c+1):=by rw[AR,<-AZ]
      have s:cD A M (.pt f q a) (N/2^c)=cond (FX (N/2^c%2=1)) (fT A M (aQ A M X Y o X Y o) (.pt f q a)) (aQ A M X Y o X Y o):=by
       rw[t7 x,W,l];rfl
      have hidx:c/32<(aA N).length:=by
       rcases CF (c/32) (aA N).length with h|h
       .exact h
       .exfalso;have h8:4294967296^(aA N).length<=2^c:=by
         rw[iX];exact AN (by omega) (by omega)
        omega
      have D:=s8 N c;simp only[e1,e2,e3,e4,Z,V,Z8,D];refine⟨by omega,?_⟩;cases P:aQ A M X Y o X Y o with
      |dv d =>
       simp only[TR.ok,TR.X,TR.Y,TR.o,TR.d,Z5,b60,n60,Z6];have y:cD A M (.pt f q a) N= .dv d:=t6 c (by rw[s,P];cases FX (N/2^c%2=1)<;>rfl);rw[y]at g;subst g;exact⟨⟨⟨rfl,.inl (Z0 _)⟩,⟨rfl,.inl (Z0 _)⟩,rfl,⟨⟩⟩,⟨rfl,.inl (Z0 _)⟩,rfl,⟨⟩⟩
      |pt X2 Y2 E =>
       simp only[TR.ok,TR.X,TR.Y,TR.o,TR.d,Z6,b00,n00,Z5];refine⟨by omega,by omega,by omega,by omega,?_⟩;rw[P]at s;cases O:FX (N/2^c%2=1)with
       |false =>
        rw[O,Z5]at s;rw[Z5];refine⟨(c,X2,Y2,E),⟨by dsimp only;omega,s⟩,?_,by dsimp only;omega⟩
        grind
       |true =>
        rw[O,Z6]at s;rw[Z6];refine⟨by omega,?_⟩;have s:cD A M (.pt f q a) (N/2^c)=aQ A M X2 Y2 E f q a:=s;cases C:aQ A M X2 Y2 E f q a with
        |dv d =>
         simp only[Z5,n60,Z6];have y:cD A M (.pt f q a) N= .dv d:=t6 c (by rw[s,C]);rw[y]at g;subst g;exact⟨⟨⟨rfl,.inl (Z0 _)⟩,⟨rfl,.inl (Z0 _)⟩,rfl,⟨⟩⟩,⟨rfl,.inl (Z0 _)⟩,rfl,⟨⟩⟩
        |pt X3 Y3 Q =>
         simp only[Z6,n00,Z5];refine⟨(c,X3,Y3,Q),⟨by dsimp only;omega,s.trans C⟩,?_,by dsimp only;omega⟩
         grind
     .rename_i U;have J:b=0:=by omega
      subst J;have l:cD A M (.pt f q a) N= .pt X Y o:=by simpa using l
      rw[l]at g;subst g;exact⟨⟨⟨rfl,.inl (Z0 _)⟩,⟨rfl,.inl (Z0 _)⟩,rfl,⟨⟩⟩,⟨rfl,.inl (Z0 _)⟩,rfl,⟨⟩⟩
 .simp at h
def aSH:Ctr AA:=⟨109,uQ,λargs w=>Tryz.call109 args w,aP bR Tryz.func109 uQ aUn⟩
def bI(l:K Z):O->MV:=λi=>.int .i64 (l.getD i 0)
def mvI:MV->Z
 |.int _ z=>z
 |_=>0
def iH(n:O)(f:O->MV):K Z:=(CR n).map λi=>mvI (f i)
theorem gX(l:K Z):iH l.length (bI l)=l:=by
 refine CA (by simp[iH]) λi h1 a=>?_;simp[iH,bI,mvI,a]
def pA(z:Z):N:=decide (-9223372036854775808<=z)&&V (z<9223372036854775808)
def tV(z:Z):Z:=cond (pA z) z 0
theorem qF{z:Z}:pA z=FV↔ -9223372036854775808<=z/\z<9223372036854775808:=by
 grind [pA]
theorem zJ{z v:Z}{b:N}(h: -9223372036854775808<=z/\z<9223372036854775808)(hv:v=z)(hb:b=FV):v=tV z/\b=pA z:=by
 grind [qF,tV]
theorem aBb{z:Z}(h:¬(-9223372036854775808<=z/\z<9223372036854775808)):0=tV z/\FT=pA z:=by
 grind [pA,qF,tV]
theorem bBA{x:Z}(h:9223372036854775808<=x)(k:x<18446744073709551616):P FU x=x-18446744073709551616:=by
 show(if (FV&&V (x%18446744073709551616≥9223372036854775808))=FV then x%18446744073709551616-18446744073709551616 else x%18446744073709551616)=_
 grind
def aBn:aF
 |[.big z _]=>FQ (FR,.ret (.tup [.int .i64 (tV z),.bool (pA z)]))
 |_=>FR
noncomputable def aTG:Code:=bB3 (aFY 3 (aBy BT))
def lwT(z:Z)(n:O):MS:=⟨38, [(1,.bp 0 0),(4,.bp 1 0)], [⟨FT,.one (.big z n)⟩,⟨FT,.one (.int .u64 0)⟩],0⟩
theorem aVM(z:Z)(n:O)(v:Z)(b:N):(bif V ((H (aA (Q z)):Z)>2)then 0=v/\FT=b/\S else U)=aJ (aM [] aC) BT [.big z n] (AF (.ret (.tup [.int .i64 v,.bool b]))):=by kernel_rfl
def aOC:K Oper:=bBk (aFY 3 (aBy BT))
theorem aVN(z:Z)(n:O):(bif V ((↑(H (aA (Q z))):Z)>2)then U else ((0:O)=0/\(0:O)=0/\S)/\aB z z n n/\(0:Z)=0/\S)=qD (aM [] aC) (λ_=>U) 3 (aBy BT) ⟨38,dZ 0 [.big z n], [],0⟩ (λs=>xH s (lwT z n)):=by kernel_rfl
theorem aVO(v x:Z):((0:Z)<=32/\S/\aB 0 0 0 0/\P F5 (↑(AI (R (AC F5) (P F5 (v*2^min (I (32:Z)) (AC F5))) |||ofInt (AC F5) (P F5 x))):Z)=vst v x/\S)=iA (aM [] aC) aOC (λ_=>U) aOC (zI 38 v [(4,.bp 1 0),(6,.int .u32 x)]) (λs'=>xH s' (zI 38 (vst v x) [])):=by kernel_rfl
theorem aVP(z V:Z)(n:O)(v:Z)(b:N):(bif f (z<0)then bif P FU ((0:Z)-P FU V) != 0 then bif !decide (z<0)==f (P FU ((0:Z)-P FU V)<0)then (0:Z)=v/\FT=b else P FU ((0:Z)-P FU V)=v/\FV=b else P FU ((0:Z)-P FU V)=v/\FV=b else bif P FU V != 0 then bif !decide (z<0)==f (P FU V<0)then (0:Z)=v/\FT=b else P FU V=v/\FV=b else P FU V=v/\FV=b)=cJ (aM [] aC) (λ_=>U) aTG (aB9 38 z V n) (aD8 λs=>kX 0 (bG 2 s.tm) (.int .i64 v)/\kX 0 (bG 3 s.tm) (.bool b)):=by kernel_rfl
def aMN:aF
 |[.big z _]=>FQ (FQ (18446744073709551616<=z.natAbs),.ret (.tup [.int .i64 0,.bool FT]))
 |_=>FR
theorem bDm:bC BT aMN:=by
 intro ms p r h a;unfold aMN at h;split at h
 .rename_i z n;cases h;refine⟨aM [] aC,?_⟩;rw[<-aVM z n];have h2:=zD z.natAbs;have a:18446744073709551616<=z.natAbs:=a
  grind
 .simp at h
theorem aTH(v x:Z):iA (aM [] aC) aOC (λ_=>U) aOC (zI 38 v [(4,.bp 1 0),(6,.int .u32 x)]) (λs'=>xH s' (zI 38 (vst v x) [])):=by
 rw[<-aVO v x];exact⟨by decide,⟨⟩,⟨rfl,.inl (Z0 _)⟩,rfl,⟨⟩⟩
set_option maxRecDepth 100000 in
set_option maxHeartbeats 2000000 in
theorem bCU(z:Z)(n:O)(v:Z)(b:N)(o:(aA z.natAbs).length<=2)(y:cJ (aM [] aC) (λ_=>U) aTG (aB9 38 z (wv (aA z.natAbs)) n) (aD8 λs=>kX 0 (bG 2 s.tm) (.int .i64 v)/\kX 0 (bG 3 s.tm) (.bool b)))(S:O->Prop)(w:L)(args:FZ F)(u:∀b,S b->b<w.heap.size)(x:GW S w)(t:RepAll (B8 S) w [.big z n] args.toList) :
  Calls AA 116 args w λe w'=>Ext w w'/\(MRes.ret (.tup [.int .i64 v,.bool b])).holds (C1 S) w' e:=by
 have g:=St.start (n:=38) u x t (by simp);have i:qD (aM [] aC) (λ_=>U) 3 (aBy BT) ⟨38,dZ 0 [.big z n], [],0⟩ (λs=>xH s (lwT z n)):=by
  rw[<-aVN z n,Y1 (by omega),Z5]
  grind
 refine(callsIn_wide (n:=3)).1 ?_;refine callsIn_of_wp_marks DH rfl trivial ?_ rfl;refine wpIn_wide.2 ?_;refine oE bR 3 _ _ _ _ _ w _ i g λs1 c1 a1 j q f=>?_;obtain⟨c2,d⟩:=f.le q;refine wp_seq (wp_seq (wp_region_list ?_));refine eG (E:=aM [] aC) (m:= .bp 0 1) (p:=none) rfl rfl trivial d rfl λa3 c=>?_;refine eG (E:=aM [] aC) (m:= .ws (aA z.natAbs)) (p:=none) rfl rfl trivial c rfl λC a=>?_;refine aSa (n:=38) (z:=z) (m:=n) a rfl rfl rfl (by decide) o (aO _) aTH y rfl rfl ?_ rfl rfl (λ_ _=>rfl) rfl rfl (λ_ _ h=>h) (λ_ _ h=>h) (λa' w' D B A l k r=>?_)
 .have:=Tryz.call111 #[C.tmps.getD 13 undef] j;simp[execOp,resolve,B4,B9,invoke]
 show LeavesInM _ _ _ _ a'.tmps _ a'.defers _ w';rw[B];refine⟨by simp,.inl ⟨D,_,rfl,run_takeDeferred A,.tuple #[.int .i64 v,.bool b],?_,r,_,rfl,_,_,rfl,rfl,_,_,rfl,rfl,rfl⟩⟩;rw[jY];simp[aH3,l,k,Tryz.results116]
theorem aYc(z:Z)(n:O)(hz2:z.natAbs<18446744073709551616):cJ (aM [] aC) (λ_=>U) aTG (aB9 38 z (z.natAbs:Z) n) (aD8 λs=>kX 0 (bG 2 s.tm) (.int .i64 (tV z))/\kX 0 (bG 3 s.tm) (.bool (pA z))):=by
 rw[<-aVP];by_cases c:z<0
 .rw[Y0 c,Z6];by_cases h:z.natAbs<9223372036854775808
  .have a:P FU (z.natAbs:Z)=z.natAbs:=aT (by omega) (by omega);have g:P FU (0-(z.natAbs:Z))=z:=by rw[aT (by omega) (by omega)];omega
   rw[a,g,Y0 c];obtain⟨e,d⟩:=zJ (z:=z) (v:=z) (b:=true) (by omega) rfl rfl
   grind
  .have a:P FU (z.natAbs:Z)=(z.natAbs:Z)-18446744073709551616:=bBA (by omega) (by omega);rw[a];by_cases h7:z.natAbs=9223372036854775808
   .have f:z= -9223372036854775808:=by omega
    subst f;obtain⟨e,d⟩:=zJ (z:= -9223372036854775808) (v:= -9223372036854775808) (b:=true) (by omega) rfl rfl;exact⟨e,d⟩
   grind [aT,aBb]
 .rw[Y1 c,Z5];by_cases h:z.natAbs<9223372036854775808
  .have a:P FU (z.natAbs:Z)=z:=by rw[aT (by omega) (by omega)];omega
   rw[a,Y1 c];obtain⟨e,d⟩:=zJ (z:=z) (v:=z) (b:=true) (by omega) rfl rfl
   grind
  grind [bBA,aBb]
set_option maxRecDepth 100000 in
def aNC:Ctr AA:=⟨116,aBn,λargs w=>Tryz.call116 args w,λS w ms args p r a hp c d b=>by
 unfold aBn at a;split at a
 .rename_i z n;simp only[Z1,Z2]at a;obtain⟨rfl,rfl⟩:=a;have h:=zD z.natAbs;by_cases q:z.natAbs<18446744073709551616
  .have e:=aYc z n q;rw[<-iN z.natAbs]at e;exact bCU z n (tV z) (pA z) (h.2 q) e S w args c d b
  .obtain⟨g,f⟩:=aBb (z:=z) (by omega);rw[<-g,<-f];exact aN bR DH aMN bDm S w [.big z n] args (FQ (18446744073709551616<=z.natAbs)) _ rfl (show 18446744073709551616<=z.natAbs by omega) c d b
 .simp at a⟩
theorem aWu(z:Z)(n:O)(v:Z)(b:N):((∀(x:Z),x∈aA (Q z)->0<=x/\x<4294967296)/\(∀(x:Z),x∈aA (Q z)->0<=x/\x<4294967296)/\(0:Z)<=32/\bif V ((H (aA (Q z)):Z)>2)then 0=v/\FT=b/\S else bif V (P F5 (AI (R (AC F5) (cE (aA (Q z)) 0) |||ofInt (AC F5) (P F5 (cE (aA (Q z)) 1*2^min (I 32) (AC F5)))):Z)>9223372036854775808)then 0=v/\FT=b/\S else bif P F5 (AI (R (AC F5) (cE (aA (Q z)) 0) |||ofInt (AC F5) (P F5 (cE (aA (Q z)) 1*2^min (I 32) (AC F5)))):Z)==9223372036854775808 then bif !decide (z<0)then 0=v/\FT=b/\S else bif V (z<0)then P FU (0-P FU (P F5 (AI (R (AC F5) (cE (aA (Q z)) 0) |||ofInt (AC F5) (P F5 (cE (aA (Q z)) 1*2^min (I 32) (AC F5)))):Z)))=v/\FV=b/\S else P FU (P F5 (AI (R (AC F5) (cE (aA (Q z)) 0) |||ofInt (AC F5) (P F5 (cE (aA (Q z)) 1*2^min (I 32) (AC F5)))):Z))=v/\FV=b/\S else bif V (z<0)then P FU (0-P FU (P F5 (AI (R (AC F5) (cE (aA (Q z)) 0) |||ofInt (AC F5) (P F5 (cE (aA (Q z)) 1*2^min (I 32) (AC F5)))):Z)))=v/\FV=b/\S else P FU (P F5 (AI (R (AC F5) (cE (aA (Q z)) 0) |||ofInt (AC F5) (P F5 (cE (aA (Q z)) 1*2^min (I 32) (AC F5)))):Z))=v/\FV=b/\S)=aJ (aM [fO] aC) FG [.big z n] (AF (.ret (.tup [.int .i64 v,.bool b]))):=by kernel_rfl
theorem aZc:bC FG aBn:=by
 intro ms p r h hp;unfold aBn at h;split at h
 .rename_i z n;cases h;refine⟨aM [fO] aC,?_⟩;rw[<-aWu z n,p32];have a:=aO z.natAbs;refine⟨a,a,by omega,?_⟩;have k:=zD z.natAbs;by_cases i:(aA z.natAbs).length<=2
  .have hz2:=k.1 i;have e:=wv2 i;rw[x6]at e;have w0:=sK a 0;have c:=sK a 1;have o:u64.wrap (↑(R (AC F5) (cE (aA z.natAbs) 0) |||ofInt (AC F5) (u64.wrap (cE (aA z.natAbs) 1*4294967296))).toNat)=(z.natAbs:Z):=by
    rw[BitVec.or_comm,aGv c w0,e]
   rw[o,Y1 (show ¬(((aA z.natAbs).length:O):Z)>2 by omega),Z5];refine aH Z4 (λq=>?_) (λq=>aH beq_iff_eq (λj=>?_) (λj=>?_))
   .grind [aBb]
   .by_cases hz:z<0
    .have d:z= -9223372036854775808:=by omega
     subst d;obtain⟨g,f⟩:=zJ (z:= -9223372036854775808) (v:= -9223372036854775808) (b:=true) (by omega) rfl rfl;exact⟨g,f,⟨⟩⟩
    grind [aBb]
   .have c:P FU (z.natAbs:Z)=z.natAbs:=aT (by omega) (by omega);rw[c];obtain⟨g,f⟩:=zJ (z:=z) (v:=z) (b:=true) (by omega) rfl rfl
    grind [aT]
  grind [aA,aBb]
 .simp at h
def aXn:Ctr AA:=⟨53,aBn,λargs w=>Tryz.call53 args w,aN bR Tryz.func53 aBn aZc⟩
def cH(p q n:Z)(m:O):Z×Z:=if m=0 then (1,0)else ((aL p q (m+1)-p*aL p q m)%n,aL p q m%n)
theorem aZH(p q n:Z)(m:O):(cH p q n m).2=pU p q m n:=by
 rw[zN];unfold cH;split
 .rename_i h;subst h;exact(DJ n).symm
 .rfl
theorem aZG(p q n:Z)(m:O):∃s t,(cH p q n m).1=aL p q (m+1)-p*aL p q m+n*s/\(cH p q n m).2=aL p q m+n*t:=by
 unfold cH;split
 .rename_i h;subst h;exact⟨0,0,by show(1:Z)=1-p*0+n*0;grind,by show(0:Z)=0+n*0;omega⟩
 .refine⟨- ((aL p q (m+1)-p*aL p q m)/n),-(aL p q m/n),?_,?_⟩
  .have:=B7 (aL p q (m+1)-p*aL p q m) n
   grind
  grind [B7,aL,CB]
theorem aLb{p q n:Z}{m:O}:∃s t,((cH p q n m).1*(cH p q n m).1-q*((cH p q n m).2*(cH p q n m).2))%n=(aL p q (m+m+1)-p*aL p q (m+m))%n/\
  ((cH p q n m).1*(cH p q n m).2+(cH p q n m).1*(cH p q n m).2+p*((cH p q n m).2*(cH p q n m).2))%n=aL p q (m+m)%n/\
  ((cH p q n m).1*(cH p q n m).1-q*((cH p q n m).2*(cH p q n m).2))%n=aL p q (m+m+1)-p*aL p q (m+m)+n*s/\
  ((cH p q n m).1*(cH p q n m).2+(cH p q n m).1*(cH p q n m).2+p*((cH p q n m).2*(cH p q n m).2))%n=aL p q (m+m)+n*t:=by
 obtain⟨s,t,e,d⟩:=aZG p q n m;have a:∀z:Z,∃s,z%n=z+n*s:=λz=>⟨- (z/n),by rw[CB];exact B7 z n⟩;have c:((cH p q n m).1*(cH p q n m).1-q*((cH p q n m).2*(cH p q n m).2))%n=(aL p q (m+m+1)-p*aL p q (m+m))%n:=by
  rw[e,d,show m+m=2*m by omega,aHK,zP];generalize aL p q (m+1)=U;generalize aL p q m=V;have h:(U-p*V+n*s)*(U-p*V+n*s)-q*((V+n*t)*(V+n*t))=(U*U-q*(V*V)-p*(V*(2*U-p*V)))+n*(2*(U-p*V)*s+n*s*s-q*(2*V*t+n*t*t)):=by grind
  simp_all
 have b:((cH p q n m).1*(cH p q n m).2+(cH p q n m).1*(cH p q n m).2+p*((cH p q n m).2*(cH p q n m).2))%n=aL p q (m+m)%n:=by
  rw[e,d,show m+m=2*m by omega,zP];generalize aL p q (m+1)=U;generalize aL p q m=V;have h:(U-p*V+n*s)*(V+n*t)+(U-p*V+n*s)*(V+n*t)+p*((V+n*t)*(V+n*t))=V*(2*U-p*V)+n*(2*((U-p*V)*t+s*V+n*s*t)+p*(2*V*t+n*t*t)):=by grind
  simp_all
 obtain⟨s2,g⟩:=a (aL p q (m+m+1)-p*aL p q (m+m));obtain⟨i,f⟩:=a (aL p q (m+m));exact⟨s2,i,c,b,c.trans g,b.trans f⟩
theorem aRb{p q n:Z}{m:O}(h:0<m):cH p q n (m+m)=(((cH p q n m).1*(cH p q n m).1-q*((cH p q n m).2*(cH p q n m).2))%n,((cH p q n m).1*(cH p q n m).2+(cH p q n m).1*(cH p q n m).2+p*((cH p q n m).2*(cH p q n m).2))%n):=by
 obtain⟨s,t,b,a,_⟩:=aLb (p:=p) (q:=q) (n:=n) (m:=m);rw[b,a];exact X (by omega)
theorem aU7{p q n:Z}{m:O}:cH p q n (m+m+1)=(-(q*(((cH p q n m).1*(cH p q n m).2+(cH p q n m).1*(cH p q n m).2+p*((cH p q n m).2*(cH p q n m).2))%n))%n,
  (((cH p q n m).1*(cH p q n m).1-q*((cH p q n m).2*(cH p q n m).2))%n+p*(((cH p q n m).1*(cH p q n m).2+(cH p q n m).1*(cH p q n m).2+p*((cH p q n m).2*(cH p q n m).2))%n))%n):=by
 obtain⟨s,t,_,_,d,c⟩:=aLb (p:=p) (q:=q) (n:=n) (m:=m);rw[d,c];have e:cH p q n (m+m+1)=((aL p q (m+m+1+1)-p*aL p q (m+m+1))%n,aL p q (m+m+1)%n):=if_neg (by omega);have f:aL p q (m+m+1+1)=p*aL p q (m+m+1)-q*aL p q (m+m):=rfl;rw[e,f];generalize aL p q (m+m+1)=U;generalize aL p q (m+m)=V;have b: -(q*(V+n*t))=p*U-q*V-p*U+n*(- (q*t)):=by grind
 have a:U-p*V+n*s+p*(V+n*t)=U+n*(s+p*t):=by grind
 rw[b,a,A2,A2]
def aNk(W L:O)(F:O->Z×Z):O->MS->G LoopAnn
 |4,e=>FQ (.inv WalkI (λi=>i.i<=L) (λi=>⟨75, [(4,.bp 0 0),(5,.bp 1 0),(6,.bp 2 0),(7,.bp 3 0),(8,.bp 4 0),(9,.bp 5 0),(10,.bp 6 0),(11,.int .i64 ((i.i:Z)-1))],
   aU (aU e.bx 5 ⟨FT,.one (.big (F i.i).1 W)⟩) 6 ⟨FT,.one (.big (F i.i).2 W)⟩,0⟩) (λi=>i.i))
 |_,_=>FR
theorem aWk(p q k n:Z)(a b c d:O)(r:Z)(w:O)(F:O->Z×Z)(W L:O)(e:_)(h:e=λ(i:WalkI)=>((F (i.1)).1*(F (i.1)).2+(F (i.1)).1*(F (i.1)).2+p*((F (i.1)).2*(F (i.1)).2)))(f:_)(g:f=λ(i:WalkI)=>((F (i.1)).1*(F (i.1)).1-q*((F (i.1)).2*(F (i.1)).2))):(fP 1/\c<=1000000/\(∃i:WalkI,i.1<=L/\(0=0/\0=0/\0=0/\0=0/\0=0/\0=0/\0=0/\P FU ((bl (Q k):Z)-1)=(i.1:Z)-1/\S)/\aB p p a a/\aB q q b b/\aB k k c c/\aB n n d d/\aB 0 0 0 0/\aB 1 ((F (i.1)).1) 64 W/\aB 0 ((F (i.1)).2) 0 W/\S)/\∀(i:WalkI),i.1<=L->bif V ((i.1:Z)-1≥0)then (W<=1000000/\W<=1000000)/\(W<=1000000/\W<=1000000)/\(W<=1000000/\W<=1000000)/\(b<=1000000/\W+W<=1000000)/\(W+W<=1000000/\b+(W+W)<=1000000)/\(max (W+W) (b+(W+W))+1<=900000/\d<=900000/\(n=0->U))/\(W+W<=1000000/\W+W<=1000000)/\(a<=1000000/\W+W<=1000000)/\(max (W+W) (W+W)+1<=1000000/\a+(W+W)<=1000000)/\(max (max (W+W) (W+W)+1) (a+(W+W))+1<=900000/\d<=900000/\(n=0->U))/\((32:Z)=0->U)/\(0<=P FU (D ((i.1:Z)-1) 32)/\P FU (D ((i.1:Z)-1) 32)<(H (aA (Q k)):Z))/\((32:Z)=0->U)/\0<=P F5 (T ((i.1:Z)-1) 32)/\bif P Aa (AI (R (AC Aa) (fdiv (J (aA (Q k)) (I (P FU (D ((i.1:Z)-1) 32))) 0) ((2:Z)^min (I (P F5 (T ((i.1:Z)-1) 32))) (AC Aa))) &&&R (AC Aa) 1):Z)==1 then (a<=1000000/\d<=1000000)/\(d<=1000000/\a+d<=1000000)/\(max d (a+d)+1<=900000/\d<=900000/\(n=0->U))/\(b<=1000000/\d<=1000000)/\b+d<=1000000/\(b+d<=900000/\d<=900000/\(n=0->U))/\∃j:WalkI,j.1<=L/\((0=0/\0=0/\0=0/\0=0/\0=0/\0=0/\0=0/\P FU ((i.1:Z)-1-1)=(j.1:Z)-1/\S)/\aB p p a a/\aB q q b b/\aB k k c c/\aB n n d d/\aB 0 0 0 0/\aB (-(q*((e i) %n))%n) ((F (j.1)).1) d W/\aB (((f i) %n+p*((e i) %n))%n) ((F (j.1)).2) d W/\S)/\j.1<i.1 else ∃j:WalkI,j.1<=L/\((0=0/\0=0/\0=0/\0=0/\0=0/\0=0/\0=0/\P FU ((i.1:Z)-1-1)=(j.1:Z)-1/\S)/\aB p p a a/\aB q q b b/\aB k k c c/\aB n n d d/\aB 0 0 0 0/\aB ((f i) %n) ((F (j.1)).1) d W/\aB ((e i) %n) ((F (j.1)).2) d W/\S)/\j.1<i.1 else (F (i.1)).2=r/\(W<=w\/Q ((F (i.1)).2)<2^w))=aJ (aM [cF,gE,kF,eI,oW,tH,dM] (aNk W L F)) E1 [.big p a,.big q b,.big k c,.big n d] (AF (.ret (.big r w))):=by subst h g;kernel_rfl
theorem aY3:dR E1 pJ:=by
 intro ms pr r h o s;unfold pJ at h;split at h
 .rename_i p a q b k c n d;cases h;obtain⟨h1,h2,h3,h4,h5⟩:=o;have g:k.natAbs<2^c:=s.2.2.1;have hbl:bl k.natAbs<=c:=dA g;refine⟨aM [cF,gE,kF,eI,oW,tH,dM] (aNk (d+64) (bl k.natAbs) λi=>cH p q n (k.natAbs/2^i)),?_⟩;rw[<-aWk p q k n a b c d (pU p q k.natAbs n) (d+64) (λi=>cH p q n (k.natAbs/2^i)) (d+64) (bl k.natAbs) _ rfl _ rfl];generalize hK:k.natAbs=K at *;have e0:K/2^bl K=0:=BA (kC K);have t:P FU ((bl K:Z)-1)=(bl K:Z)-1:=aT (by omega) (by omega);rw[t];refine⟨by omega,by omega,⟨⟨bl K⟩,Z0 _,⟨rfl,rfl,rfl,rfl,rfl,rfl,rfl,rfl,⟨⟩⟩,bL,bL,bL,bL,bL,⟨?_,.inl (by omega)⟩,⟨?_,.inl (by omega)⟩,⟨⟩⟩,λi j=>?_⟩
  .grind [cH,bl]
  .grind [cH,bl]
  obtain⟨i⟩:=i;have j:i<=bl K:=j;dsimp only;refine aH Z4 (λq1=>?_) (λq1=>?_)
  .have v:(i:Z)-1=((i-1:O):Z):=by omega
   have hix:=nQ (N:=K) (c:=i-1) (by omega);have u:P F5 (((i-1)%32:O):Z)=(((i-1)%32:O):Z):=hH (by omega);rw[v,ixE (by omega),imE,u,Z8,Z8,aCg];have l:P FU (((i-1:O):Z)-1)=((i-1:O):Z)-1:=aT (by omega) (by omega);have e:=aHV (M:=K) (k:=i) (by omega);refine⟨by omega,by omega,by omega,by omega,by omega,by omega,by omega,by omega,by omega,by omega,by omega,by omega,by omega,by omega,aH beq_iff_eq (λm=>?_) (λm=>?_)⟩
   .have f:K/2^(i-1)%2=1:=by omega
    rw[f]at e;refine⟨by omega,by omega,by omega,by omega,by omega,by omega,⟨i-1⟩,by show i-1<=bl K;omega,⟨⟨rfl,rfl,rfl,rfl,rfl,rfl,rfl,l,⟨⟩⟩,bL,bL,bL,bL,bL,⟨?_,.inl (by omega)⟩,⟨?_,.inl (by omega)⟩,⟨⟩⟩,by show i-1<i;omega⟩
    all_goals grind [cH,aU7]
   .have f:K/2^(i-1)%2=0:=by omega
    rw[f,CH]at e;have hm:0<K/2^i:=by
     rcases CS (K/2^i)with z|z
     .exfalso;rw[z]at e;have:K<2^(i-1):=by
       simp_all
      have:=dA this;omega
     .exact z
    refine⟨⟨i-1⟩,by show i-1<=bl K;omega,⟨⟨rfl,rfl,rfl,rfl,rfl,rfl,rfl,l,⟨⟩⟩,bL,bL,bL,bL,bL,⟨?_,.inl (by omega)⟩,⟨?_,.inl (by omega)⟩,⟨⟩⟩,by show i-1<i;omega⟩
    all_goals grind [cH,aRb]
  grind [aZH]
 .simp at h
def aNT:Ctr AA:=⟨106,pJ,λargs w=>Tryz.call106 args w,aP bR Tryz.func106 pJ aY3⟩
theorem gH{P:Program}(d:P.follows .mixedOrders=FV){f:FuncId}{g:Func}(n:P.funcs[f]? =FQ g)(spec:aF)(c:∀a p r,spec a=FQ (p,r)->p.holds->e9 a->∃ms',kX.leVs 0 a ms'/\∃E:Env P,aJ E g ms' r.sat)(S:O->Prop)(w:L)(a:K MV)(args:FZ F)(p:OProp)(r:MRes)(k:spec a=FQ (p,r))(l:p.holds)(o:∀b,S b->b<w.heap.size)(q:GW S w)(i:RepAll (B8 S) w a args.toList):Calls P f args w λe w'=>Ext w w'/\r.holds (C1 S) w' e :=
 tO d n (λm=>FQ (FQ (∃ms',kX.leVs 0 m ms'/\∃E:Env P,aJ E g ms' r.sat),r)) (λm p2 r2 j h=>by
  simp only[Z1,Z2]at j;obtain⟨rfl,rfl⟩:=j;exact h) S w a args _ r rfl (c a p r k l (RepAll.facts a _ i)) o q i
def wK:MV->Z
 |.big z _=>z
 |_=>0
structure isBig (W:Nat) (m:MV):Prop where
 h:∃z n,m= .big z n/\n<=W
def iL(l:K Z)(W:O):O->MV:=λi=>.big (l.getD i 0) W
def aI(n:O)(f:O->MV):K Z:=(CR n).map λi=>wK (f i)
theorem aZ(n:O)(f:O->MV):(aI n f).length=n:=by simp[aI]
theorem dW(l:K Z)(W:O):aI l.length (iL l W)=l:=by
 refine CA (by simp[aI]) λi h1 a=>?_;simp[aI,iL,wK,a]
theorem aLO{n i:O}{f:O->MV}(h:i<n):(aI n f).getD i 0=wK (f i):=by simp[aI,h]
theorem kL(l:K Z){V W:O}(h:V<=W)(i:O):isBig W (iL l V i):=⟨_,V,rfl,h⟩
theorem y6{z:Z}{n W:O}(h:n<=W):isBig W (.big z n):=⟨z,n,rfl,h⟩
theorem s9{n:O}{f:O->MV}{W:O}(h:∀i,i<n->isBig W (f i)):LeFun n f (iL (aI n f) W):=CI λi b=>by
 obtain⟨z,a,e,c⟩:=(h i b).h;show eV 0 (f i) (.big ((aI n f).getD i 0) W);rw[aLO b,e];exact⟨rfl,.inl c⟩
structure Stp where
 kind:Int
 neg:Bool
 mag:List Int
 parts:List Int
 base:List Int
 ca:Int
 cb:Int
 cm:Int
 x:Int
 y:Int
 inf:Bool
 ord:Int
def Stp.n(s:Stp):Z:=if s.neg then-(wv s.mag)else wv s.mag
def mO(neg:N)(l:K Z):N:=cond ((l.length:Z)==0) (!neg) (l.getD (l.length-1) 0 != 0)
def Stp.can(s:Stp):N:=mO s.neg s.mag
def aD:Stp:=⟨0,FT, [], [], [],0,0,0,0,0,FT,0⟩
def dE(a b m x y o:Z)(i:N):N:=decide (a=0)&&(V (b=0)&&(V (m=0)&&(V (x=0)&&(V (y=0)&&(V (o=0)&&!i)))))
def noC(s:Stp):N:=dE s.ca s.cb s.cm s.x s.y s.ord s.inf
def b9(a:K Z):K Z->K Z->G (K Z)
 |[],q=>FQ q
 |i::r,q=>g (V (0<=i)&&(V (i<a.length)&&!(q.elem (a.getD i.toNat 0)))) (b9 a r (q++[a.getD i.toNat 0])) FR
def aFt:O->Z->Z->Z
 |0,_,_=>1
 |f+1,x,q=>if x%q=0 then q*aFt f (x/q) q else 1
def j8(x q:Z):Z:=aFt x.toNat x q
def mH(n:Z):K Z->Z->G Z
 |[],o=>FQ o
 |q::r,o=>if n%q=0 then mH n r (o*j8 n q)else FR
def b8(n:Z)(l:K Z):G Z:=mH n l 1
def sG(n:Z)(bl a:O)(b:N):N:=decide (n<65536)&&(V (a=0)&&(V (bl=0)&&(b&&isB n)))
def xN(n:Z):K Z->K Z->N
 |b::c,q::a=>(V (1<b)&&V (b<=n-1))&&((V (gcd (fQ b ((n-1)/q).natAbs n-1) n=1)&&V (fQ (fQ b ((n-1)/q).natAbs n) q.natAbs n=1))&&xN n c a)
 |_,_=>FV
def tZ(n:Z)(base:K Z)(a:N)(q:K Z):N:=fY n 2&&(a&&(match b8 (n-1) q with
 |none=>FT
 |some f=>decide (n<f*f)&&(V (base.length=q.length)&&xN n base q)))
def wH(n a b:Z):K Z->N
 |[]=>FV
 |q::c=>decide (gcd (pU a b ((n+1)/q).natAbs n) n=1)&&wH n a b c
def aQ2(n:Z)(q:K Z):K Z->N
 |[a,b]=>(V (0<=a)&&V (a<n))&&((V (0<=b)&&V (b<n))&&(V (gA (a*a-4*b) n= -1)&&(V (pU a b (n+1).natAbs n=0)&&wH n a b q)))
 |_=>FT
def uE(n:Z)(base:K Z)(a:N)(q:K Z):N:=fY n 2&&(a&&(match b8 (n+1) q with
 |none=>FT
 |some f=>decide (n<(f-1)*(f-1))&&aQ2 n q base))
def wZ(n:Z)(bl:O)(a b m x y o:Z)(i:N)(q:K Z):N:=match q with
 |[p]=>decide (bl=0)&&(V (3<n)&&(V (gcd n 6=1)&&(grB p n&&(V (m=n)&&(V (gcd (4*(a*(a*a))+27*(b*b)) n=1) &&
   (m5 a b m x y i&&(!i&&(V (0<o)&&(V (o%p=0) &&
    ((V ((bE a b m (o/p) x y i).e=0)&&!(bE a b m (o/p) x y i).o) &&
    (V ((bE a b m p (bE a b m (o/p) x y i).X (bE a b m (o/p) x y i).Y (bE a b m (o/p) x y i).o).e=0) &&
     (bE a b m p (bE a b m (o/p) x y i).X (bE a b m (o/p) x y i).Y (bE a b m (o/p) x y i).o).o)))))))))))
 |_=>FT
def aZN(s:Stp)(q:K Z):N:=sG s.n s.base.length q.length (noC s)
def aTO(s:Stp)(q:K Z):N:=tZ s.n s.base (noC s) q
def aUz(s:Stp)(q:K Z):N:=uE s.n s.base (noC s) q
def aSX(s:Stp)(q:K Z):N:=wZ s.n s.base.length s.ca s.cb s.cm s.x s.y s.ord s.inf q
def aKn(s:Stp)(q:K Z):N :=
 g (s.kind==1) (aZN s q) (g (s.kind==2) (aTO s q) (g (s.kind==3) (aUz s q) (g (s.kind==4) (aSX s q) FT)))
def cA(a:K Z)(s:Stp):N:=s.can&&(V (1<s.n)&&(match b9 a s.parts []with
 |none=>FT
 |some q=>aKn s q))
def sW(a:K Z):K Stp->O->G O
 |[],_=>FR
 |s::r,i=>g (cA a s) (sW (a++[s.n]) r (i+1)) (FQ i)
def aFW(l:K Stp):Z:=match sW [] l 0 with
 |some i=>i
 |none=>0
def chkE(l:K Stp):Z:=match sW [] l 0 with
 |some _=>70
 |none=>g (l.length.beq 0) 70 0
def sB(s:Stp)(W:O):MV:= .st [.int .i64 s.kind,.st [.bool s.neg,.ws s.mag],.sl 1 s.parts.length (bI s.parts),.sl 2 s.base.length (iL s.base W),.st [.big s.ca W,.big s.cb W,.big s.cm W],.st [.big s.x W,.big s.y W,.bool s.inf],.big s.ord W]
def aZM(s:Stp)(W:O):MV:= .st [.int .i64 s.kind,.big s.n W,.sl 1 s.parts.length (bI s.parts),.sl 2 s.base.length (iL s.base W),.st [.big s.ca W,.big s.cb W,.big s.cm W],.st [.big s.x W,.big s.y W,.bool s.inf],.big s.ord W]
def aG(l:K Stp)(W:O):O->MV:=λi=>sB (l.getD i aD) W
def bGe:MV->N
 |.big z _=>decide (z<0)
 |.st l=>(match l with
  |[x,_]=>(match x with
   |.bool b=>b
   |_=>FT)
  |_=>FT)
 |_=>FT
def bGa:MV->K Z
 |.big z _=>aA z.natAbs
 |.st l=>(match l with
  |[_,y]=>(match y with
   |.ws w=>w
   |_=> [])
  |_=> [])
 |_=> []
def aD9:MV->K Z
 |.sl _ n f=>iH n f
 |_=> []
def aDD:MV->K Z
 |.sl _ n f=>aI n f
 |_=> []
def bEf:MV->Z×Z×N
 |.st l=>(match l with
  |[x,y,o]=>(wK x,wK y,(match o with
   |.bool b=>b
   |_=>FT))
  |_=>(0,0,FT))
 |_=>(0,0,FT)
def bCq:MV->Z×Z×Z
 |.st l=>(match l with
  |[x,y,z]=>(wK x,wK y,wK z)
  |_=>(0,0,0))
 |_=>(0,0,0)
def bGg:MV->Z
 |.int _ z=>z
 |_=>0
def pM:MV->Stp
 |.st l=>(match l with
  |[k,n,p,b,c,a,o]=>⟨bGg k,bGe n,bGa n,aD9 p,aDD b,(bCq c).1,(bCq c).2.1,(bCq c).2.2,(bEf a).1,(bEf a).2.1,(bEf a).2.2,wK o⟩
  |_=>aD)
 |_=>aD
structure isStp (W:Nat) (m:MV):Prop where
 h:∀(c:Ctx) (w:World) (cs:List Value),RepC c w m cs->RepC c w (sB (pM m) W) cs
def aE(n:O)(f:O->MV):K Stp:=(CR n).map λi=>pM (f i)
theorem dF(n:O)(f:O->MV):(aE n f).length=n:=by simp[aE]
theorem aMX{n i:O}{f:O->MV}(h:i<n):(aE n f).getD i aD=pM (f i):=by simp[aE,h]
theorem aDu(s:Stp)(W:O):pM (sB s W)=s:=by
 show(⟨s.kind,s.neg,s.mag,iH s.parts.length (bI s.parts),aI s.base.length (iL s.base W),s.ca,s.cb,s.cm,s.x,s.y,s.inf,s.ord⟩:Stp)=s;rw[gX,dW]
theorem pO(l:K Stp)(W:O):aE l.length (aG l W)=l:=by
 refine CA (by simp[aE]) λi h1 a=>?_;simp[aE,aG,a,aDu]
theorem y8(s:Stp)(W:O):isStp W (sB s W):=⟨λc w cs h=>by rw[aDu];exact h⟩
theorem jK{n:O}{f:O->MV}{W:O}(h:∀i,i<n->isStp W (f i)):LeFun n f (aG (aE n f) W):=⟨λi a c w b r=>by
 show RepC c w (sB ((aE n f).getD i aD) W) b;rw[aMX a];exact(h i a).h c w b r⟩
structure okS (s:Stp):Prop where
 wd:Wd s.mag
 len:s.mag.length<=6
 parts:s.parts.length<=90
 base:s.base.length<=1000
theorem aFT{s:Stp}(f:Wd s.mag)(d:s.can=FV):s.neg=V (s.n<0)/\s.mag=aA s.n.natAbs:=by
 unfold Stp.can mO at d;have h0:=aY f;cases c:s.mag with
 |nil =>
  rw[c]at d;have g:s.neg=FT:=by
   simp_all
  have e:s.n=0:=by unfold Stp.n;rw[g,c];rfl
  rw[g,e];exact⟨rfl,bM.symm⟩
 |cons a r =>
  have i:((s.mag.length:Z)==0)=FT:=by rw[c];simp;omega
  rw[i,Z5]at d;have hne:s.mag≠ []:=by rw[c];simp
  have b:s.mag.getD (s.mag.length-1) 0≠0:=by simpa using d
  have hlm:aA (wv s.mag).toNat=s.mag:=zH f λh e=>b (by
   grind)
  grind [wv,Int.lt_or_eq_of_le,bM,Stp.n,DD]
theorem aCr{x q:Z}(hx:1<=x)(a:2<=q)(h:x%q=0):1<=x/q/\x/q<x/\q*(x/q)=x:=by
 have e:q*(x/q)=x:=by have:=A8 x q;omega
 have b:0<x/q:=by
  rcases Int.lt_or_le 0 (x/q)with z|z
  .exact z
  .have:=Z7 z (show 0<=q by omega);omega
 refine⟨b,?_,e⟩;have:=Int.mul_le_mul_of_nonneg_right a (show 0<=x/q by omega);rw[e]at this;omega
theorem aKX:∀(f g:O) (x q:Z),1<=x->2<=q->x<=f->x<=g->aFt f x q=aFt g x q
 |0,_,x,_,a,_,hf,_=>by omega
 |_,0,x,_,a,_,_,hg=>by omega
 |f+1,g+1,x,q,a,b,hf,hg=>by
  unfold aFt;split
  .rename_i h;obtain⟨c,h2,_⟩:=aCr a b h;rw[aKX f g (x/q) q c b (by omega) (by omega)]
  .rfl
theorem zW{x q:Z}(a:1<=x)(b:2<=q)(h:x%q=0):j8 x q=q*j8 (x/q) q:=by
 obtain⟨h1,h2,_⟩:=aCr a b h;unfold j8;obtain⟨k,hk⟩:∃k,x.toNat=k+1:=⟨x.toNat-1,by omega⟩
 grind [aFt,aKX]
theorem aHX{x q:Z}(h:x%q≠0):j8 x q=1:=by
 unfold j8;cases x.toNat with
 |zero=>rfl
 |succ k=>show(if x%q=0 then q*aFt k (x/q) q else 1)=1;rw[X h]
theorem aOX:∀(f:O) (x q:Z),1<=x->2<=q->1<=aFt f x q/\aFt f x q<=x
 |0,x,_,c,_=>⟨BN 1,c⟩
 |f+1,x,q,c,d=>by
  unfold aFt;split
  .rename_i h;obtain⟨j,h2,i⟩:=aCr c d h;obtain⟨g,e⟩:=aOX f (x/q) q j d;have a:=Z7 e (show 0<=q by omega);have b:=Z7 g (show 0<=q by omega);rw[i]at a;omega
  omega
theorem aOZ{x q:Z}(a:1<=x)(b:2<=q):1<=j8 x q/\j8 x q<=x:=aOX _ x q a b
theorem aP5{o v n:Z}{k a A:O}(g:1<=o)(b:o<=2^(A*k))(c:1<=v)(h2:v<=n)(h3:n<2^a)(d:a<=A):1<=o*v/\o*v<=2^(A*(k+1)):=by
 have e:(2:Z)^(A*(k+1))=2^(A*k)*2^A:=by rw[<-DZ];rfl
 have f:v<=2^A:=by
  have:(2:Z)^a<=2^A:=by
   have:=AN (show 0<2 by omega) d
   exact_mod_cast this
  omega
 rw[e];refine⟨?_,BW b f (by omega) (DS (by omega) b)⟩;have:=BW g c (by omega) (show 0<=o by omega);omega
theorem aGo{o:Z}{k A V:O}(h0:1<=o)(h1:o<=2^(A*k))(a:A*k<V):o.natAbs<2^V:=by
 have b:o.natAbs<=2^(A*k):=by
  grind
 exact BI b (Nat.pow_lt_pow_right (by omega) a)
theorem aOK{n:Z}{a:O}(h0:0<=n)(h:n.natAbs<2^a):n<2^a:=by
 grind
structure PrO where
 i:Nat
 o:Int
structure PrOI (A:Nat) (n:Int) (l:List Int) (R:Option Int) (s:PrO):Prop where
 hi:s.i<=l.length
 hr:mH n (l.drop s.i) s.o=R
 o0:1<=s.o
 o1:s.o<=2^(A*s.i)
structure PrI where
 x:Int
 o:Int
structure PrII (n q p:Int) (s:PrI):Prop where
 hx:1<=s.x
 ho:1<=s.o
 he:s.o*j8 s.x q=p*j8 n q
def aJl(A:O)(n:Z)(l:K Z)(a W V:O)(R:G Z):O->MS->G LoopAnn
 |3,_=>FQ (.inv PrO (PrOI A n l R) (λs=>⟨39, [(2,.bp 0 0),(4,.bp 1 0),(5,.bp 2 0),(11,.sl 2 l.length (iL l W)),(12,.int .i64 l.length),(13,.int .i64 s.i)], [⟨FT,.one (.big n a)⟩,⟨FT,.one (.big 0 0)⟩,⟨FT,.one (.big s.o V)⟩],0⟩) (λs=>l.length-s.i))
 |7,e=>(match e.bx with
  |_::_::⟨_,.one (.big o _)⟩::⟨_,.one (.big q _)⟩::_=>FQ (.inv PrI (PrII n q o) (λs=>⟨39, [(2,.bp 0 0),(4,.bp 1 0),(5,.bp 2 0),(7,.bp 3 0),(8,.bp 4 0),(9,.bp 5 0),(11,bG 11 e.tm),(12,bG 12 e.tm),(13,bG 13 e.tm)],
    [⟨FT,.one (.big n a)⟩,⟨FT,.one (.big 0 0)⟩,⟨FT,.one (.big s.o V)⟩,⟨FT,.one (.big q W)⟩,⟨FT,.one (.big (s.x/q) a)⟩,⟨FT,.one (.big (s.x%q) W)⟩],0⟩) (λs=>s.x.toNat))
  |_=>FR)
 |_,_=>FR
theorem aRm(A:O)(n:Z)(l:K Z)(a W V:O)(R:G Z)(b:_)(e:b=λ(i:PrO)=>(I (PrO.i i:Z)))(c:_)(d:c=(H l:Z)):((∃i,PrOI A n l R i/\(0=0/\0=0/\0=0/\(2=2/\H l=H l/\LeFun (H l) (iL l W) (iL l W))/\c = c/\0=(PrO.i i:Z)/\S)/\aB n n a a/\aB 0 0 0 0/\aB 1 (PrO.o i) 64 V/\S)/\∀(i:PrO),PrOI A n l R i->bif f ((PrO.i i:Z)< c)then (0<=(PrO.i i:Z)/\(PrO.i i:Z)< c)/\(a<=900000/\W<=900000/\(J l (b i) 0=0->U))/\bif f (n%J l (b i) 0=0)then (∃i_1,PrII n (J l (b i) 0) (PrO.o i) i_1/\(0=0/\0=0/\0=0/\0=0/\0=0/\0=0/\(2=2/\H l=H l/\LeFun (H l) (iL l W) (iL l W))/\c = c/\(PrO.i i:Z)=(PrO.i i:Z)/\S)/\aB n n a a/\aB 0 0 0 0/\aB (PrO.o i) (PrI.o i_1) V V/\aB (J l (b i) 0) (J l (b i) 0) W W/\aB (n/J l (b i) 0) (PrI.x i_1/J l (b i) 0) a a/\aB (n%J l (b i) 0) (PrI.x i_1%J l (b i) 0) W W/\S)/\∀(i_1:PrI),PrII n (J l (b i) 0) (PrO.o i) i_1->bif f (PrI.x i_1%J l (b i) 0=0)then (V<=1000000/\W<=1000000)/\(a<=900000/\W<=900000/\(J l (b i) 0=0->U))/\∃j,PrII n (J l (b i) 0) (PrO.o i) j/\((0=0/\0=0/\0=0/\0=0/\0=0/\0=0/\(2=2/\H l=H l/\LeFun (H l) (iL l W) (iL l W))/\c = c/\(PrO.i i:Z)=(PrO.i i:Z)/\S)/\aB n n a a/\aB 0 0 0 0/\aB (PrI.o i_1*J l (b i) 0) (PrI.o j) (V+W) V/\aB (J l (b i) 0) (J l (b i) 0) W W/\aB (PrI.x i_1/J l (b i) 0/J l (b i) 0) (PrI.x j/J l (b i) 0) a a/\aB (PrI.x i_1/J l (b i) 0%J l (b i) 0) (PrI.x j%J l (b i) 0) W W/\S)/\I (PrI.x j)<I (PrI.x i_1)else ∃j,PrOI A n l R j/\((0=0/\0=0/\0=0/\(2=2/\H l=H l/\LeFun (H l) (iL l W) (iL l W))/\c = c/\P FU ((PrO.i i:Z)+1)=(PrO.i j:Z)/\S)/\aB n n a a/\aB 0 0 0 0/\aB (PrI.o i_1) (PrO.o j) V V/\S)/\H l-PrO.i j<H l-PrO.i i else bif AU R then U else S else bif AU R then PrO.o i=AQ R 0/\(V<=V\/Q (PrO.o i)<2^V)else U)=aJ (aM [iR,l5,lI,dC,i9] (aJl A n l a W V R)) CV [.big n a,.sl 2 l.length (iL l W)] (AF (fF R.isSome (.ret (.big (R.getD 0) V)))):=by subst e d;kernel_rfl
theorem tK{l:K Z}{i:O}(h:i<l.length):l.drop i=l.getD i 0::l.drop (i+1):=by
 simp_all
theorem gI{l:K Z}{i:O}(h:i<l.length):l.getD i 0∈l:=by
 simp_all
theorem aO5{n q p x o:Z}(I:PrII n q p ⟨x,o⟩)(a:2<=q):(x%q=0->PrII n q p ⟨x/q,o*q⟩/\(x/q).toNat<x.toNat/\o*q<=p*j8 n q)/\(x%q≠0->o=p*j8 n q):=by
 have c:1<=x:=I.hx;have f:1<=o:=I.ho;have d:o*j8 x q=p*j8 n q:=I.he;refine⟨λh=>?_,λh=>?_⟩
 .obtain⟨e,h2,h3⟩:=aCr c a h;rw[zW c a h,<-A0]at d;have b:1<=o*q:=by
   have:=BW f a (by omega) (show 0<=o by omega);omega
  refine⟨⟨e,b,d⟩,by omega,?_⟩;have:=Z7 (aOZ e a).1 (show 0<=o*q by omega);omega
 grind [aHX]
theorem aO6{n q p:Z}{k a A:O}(h:1<=p)(g:p<=2^(A*k))(d:1<=n)(c:2<=q)(f:n<2^a)(e:a<=A):1<=p*j8 n q/\p*j8 n q<=2^(A*(k+1)):=by
 obtain⟨b,v2⟩:=aOZ d c;exact aP5 h g b v2 f e
theorem aQ1(n:Z)(l:K Z)(a W V A:O)(t:1<=n)(k:n<2^a)(D:a<=A)(hA:A<=300000)(hW:W<=300000)(hV:V<=300000)(p:64<=V)(B:∀q∈l,2<=q)(d:A*l.length<V)(hll:l.length<=1000000) :
  ∃E:Env AA,aJ E CV [.big n a,.sl 2 l.length (iL l W)] (AF (fF (b8 n l).isSome (.ret (.big ((b8 n l).getD 0) V)))):=by
 refine⟨aM [iR,l5,lI,dC,i9] (aJl A n l a W V (b8 n l)),?_⟩;rw[<-aRm A n l a W V (b8 n l) _ rfl _ rfl];refine⟨⟨⟨0,1⟩,⟨Z9 _,rfl,BN 1,BN 1⟩,⟨rfl,rfl,rfl,⟨rfl,rfl,AG⟩,rfl,rfl,⟨⟩⟩,bL,bL,⟨rfl,.inl p⟩,⟨⟩⟩,λi I=>?_⟩;obtain⟨i,o⟩:=i;obtain⟨C,b,h,r⟩:=I;dsimp only at C b h r⊢;rw[Z8];refine aH Z4 (λq1=>?_) (λq1=>?_)
 .have c:i<l.length:=by omega
  rw[tK c]at b;have s:=B _ (gI c);generalize l.getD i 0=q at *;have F:P FU ((i:Z)+1)=((i+1:O):Z):=by rw[aT (by omega) (by omega)];omega
  refine⟨by omega,by omega,aH Z4 (λg=>?_) (λg=>?_)⟩
  .have b:mH n (l.drop (i+1)) (o*j8 n q)=b8 n l:=by rw[<-b];exact(Y g).symm
   obtain⟨b1,v⟩:=aO6 h r t s k D;have b3:(o*j8 n q).natAbs<2^V:=aGo b1 v (BI (AV A c) d);refine⟨⟨⟨n,o⟩,⟨t,h,rfl⟩,⟨rfl,rfl,rfl,rfl,rfl,rfl,⟨rfl,rfl,AG⟩,rfl,rfl,⟨⟩⟩,bL,bL,bL,bL,bL,bL,⟨⟩⟩,λj J=>?_⟩;obtain⟨x,u⟩:=j;obtain⟨y,w⟩:=aO5 J s;have z:1<=u:=J.ho;dsimp only;refine aH Z4 (λf=>?_) (λf=>?_)
   .obtain⟨e,z2,z3⟩:=y f;have z4:1<=u*q:=e.ho
    grind [AG]
   .have e:=w f;exact⟨⟨i+1,u⟩,⟨c,by rw[e];exact b,z,by rw[e];exact v⟩,⟨⟨rfl,rfl,rfl,⟨rfl,rfl,AG⟩,rfl,F,⟨⟩⟩,bL,bL,bL,⟨⟩⟩,by show l.length-(i+1)<l.length-i;omega⟩
  .have b:(FR:G Z)=b8 n l:=by rw[<-b];exact(X g).symm
   simp_all
 .have m:i=l.length:=by omega
  subst m;rw[AY]at b;have b:FQ o=b8 n l:=b
  grind
def aAi:aF
 |[.big n a,.sl 2 k f]=>FQ (FQ (a<=300/\1<=n/\k<=90/\(∀i,i<k->isBig 201 (f i))/\(∀q∈aI k f,2<=q)),fF (b8 n (aI k f)).isSome (.ret (.big ((b8 n (aI k f)).getD 0) 30000)))
 |_=>FR
theorem aUa:∀b p r,aAi b=FQ (p,r)->p.holds->e9 b->∃ms',kX.leVs 0 b ms'/\∃E:Env AA,aJ E CV ms' r.sat:=by
 intro b p r h c e;unfold aAi at h;split at h
 .rename_i n a k f;cases h;obtain⟨l,j,h3,i,g⟩:=c;have d:=aZ k f;exact⟨[.big n a,.sl 2 (aI k f).length (iL (aI k f) 201)],⟨bL,⟨rfl,d.symm,s9 i⟩,⟨⟩⟩,
   aQ1 n (aI k f) a 201 30000 300 j (aOK (by omega) e.1) l (by omega) (by omega) (by omega) (by omega) g (by omega) (by omega)⟩
 .simp at h
def yD:Ctr AA:=⟨166,aAi,λargs w=>Tryz.call166 args w,gH bR Tryz.func166 aAi aUa⟩
def aNj(A:O)(n:Z)(l:K Z)(a W V:O)(R:G Z):O->MS->G LoopAnn
 |3,_=>FQ (.inv PrO (PrOI A n l R) (λs=>⟨49, [(1,.sl 2 l.length (iL l W)),(2,.bp 0 0),(4,.bp 1 0),(6,.bp 2 0),(7,.int .i64 s.i)], [⟨FT,.one (.big n a)⟩,⟨FT,.one (.big 0 0)⟩,⟨FT,.one (.big s.o V)⟩],0⟩) (λs=>l.length-s.i))
 |8,e=>(match e.bx with
  |_::_::⟨_,.one (.big o _)⟩::_=>(match bG 7 e.tm with
   |.int _ i=>FQ (.inv PrI (PrII n (l.getD i.toNat 0) o) (λs=>⟨49, [(1,bG 1 e.tm),(2,.bp 0 0),(4,.bp 1 0),(6,.bp 2 0),(7,bG 7 e.tm),(8,.bp 3 0)],
    [⟨FT,.one (.big n a)⟩,⟨FT,.one (.big 0 0)⟩,⟨FT,.one (.big s.o V)⟩,⟨FT,.one (.big s.x a)⟩],0⟩) (λs=>s.x.toNat))
   |_=>FR)
  |_=>FR)
 |_,_=>FR
theorem aWj(A:O)(n:Z)(l:K Z)(a W V:O)(R:G Z)(b:_)(e:b=λ(i:PrO)=>(PrO.i i:Z))(c:_)(d:c=λ(i:PrO)=>(I (b i))):(fP 1/\(∃i,PrOI A n l R i/\((2=2/\H l=H l/\LeFun (H l) (iL l W) (iL l W))/\0=0/\0=0/\0=0/\0= (b i)/\S)/\aB n n a a/\aB 0 0 0 0/\aB 1 (PrO.o i) 64 V/\S)/\∀(i:PrO),PrOI A n l R i->bif f ((b i) <(H l:Z))then (0<= (b i)/\(b i) <(H l:Z))/\(a<=900000/\W<=900000/\(J l (c i) 0=0->U))/\bif f ((H (aA (Q (n%J l (c i) 0))):Z)>0)then aB 0 (AQ R 0) 0 V/\FT=AU R/\S else (∃i_1,PrII n (J l (c i) 0) (PrO.o i) i_1/\((2=2/\H l=H l/\LeFun (H l) (iL l W) (iL l W))/\0=0/\0=0/\0=0/\(b i) = (b i)/\0=0/\S)/\aB n n a a/\aB 0 0 0 0/\aB (PrO.o i) (PrI.o i_1) V V/\aB n (PrI.x i_1) a a/\S)/\∀(i_1:PrI),PrII n (J l (c i) 0) (PrO.o i) i_1->(0<= (b i)/\(b i) <(H l:Z))/\(a<=900000/\W<=900000/\(J l (c i) 0=0->U))/\bif (H (aA (Q (PrI.x i_1%J l (c i) 0))):Z)==0 then (0<= (b i)/\(b i) <(H l:Z))/\(a<=900000/\W<=900000/\(J l (c i) 0=0->U))/\(0<= (b i)/\(b i) <(H l:Z))/\(V<=1000000/\W<=1000000)/\∃j,PrII n (J l (c i) 0) (PrO.o i) j/\(((2=2/\H l=H l/\LeFun (H l) (iL l W) (iL l W))/\0=0/\0=0/\0=0/\(b i) = (b i)/\0=0/\S)/\aB n n a a/\aB 0 0 0 0/\aB (PrI.o i_1*J l (c i) 0) (PrI.o j) (V+W) V/\aB (PrI.x i_1/J l (c i) 0) (PrI.x j) a a/\S)/\I (PrI.x j)<I (PrI.x i_1)else ∃j,PrOI A n l R j/\(((2=2/\H l=H l/\LeFun (H l) (iL l W) (iL l W))/\0=0/\0=0/\0=0/\P FU ((b i) +1)=(PrO.i j:Z)/\S)/\aB n n a a/\aB 0 0 0 0/\aB (PrI.o i_1) (PrO.o j) V V/\S)/\H l-PrO.i j<H l-PrO.i i else aB (PrO.o i) (AQ R 0) V V/\FV=AU R/\S)=aJ (aM [cF,dM,kD,eI] (aNj A n l a W V R)) CZ [.big n a,.sl 2 l.length (iL l W)] (AF (.ret (.tup [.big (R.getD 0) V,.bool R.isSome]))):=by subst e d;kernel_rfl
theorem xK{z:Z}:(((aA z.natAbs).length:O):Z)>0↔z≠0:=by
 grind [xJ]
theorem aKw{z:Z}:((((aA z.natAbs).length:O):Z)==0)=FV↔z=0:=by
 rw[xJ,Z4]
theorem aUW(n:Z)(l:K Z)(a W V A:O)(t:1<=n)(k:n<2^a)(D:a<=A)(hA:A<=300000)(hW:W<=300000)(hV:V<=300000)(p:64<=V)(B:∀q∈l,2<=q)(e:A*l.length<V)(hll:l.length<=1000000) :
  ∃E:Env AA,aJ E CZ [.big n a,.sl 2 l.length (iL l W)] (AF (.ret (.tup [.big ((b8 n l).getD 0) V,.bool (b8 n l).isSome]))):=by
 refine⟨aM [cF,dM,kD,eI] (aNj A n l a W V (b8 n l)),?_⟩;rw[<-aWj A n l a W V (b8 n l) _ rfl _ rfl];refine⟨by omega,⟨⟨0,1⟩,⟨Z9 _,rfl,BN 1,BN 1⟩,⟨⟨rfl,rfl,AG⟩,rfl,rfl,rfl,rfl,⟨⟩⟩,bL,bL,⟨rfl,.inl p⟩,⟨⟩⟩,λi I=>?_⟩;obtain⟨i,o⟩:=i;obtain⟨C,b,h,r⟩:=I;dsimp only at C b h r⊢;rw[Z8];refine aH Z4 (λq1=>?_) (λq1=>?_)
 .have c:i<l.length:=by omega
  rw[tK c]at b;have s:=B _ (gI c);generalize l.getD i 0=q at *;have F:P FU ((i:Z)+1)=((i+1:O):Z):=by rw[aT (by omega) (by omega)];omega
  refine⟨by omega,by omega,aH (decide_eq_true_iff.trans xK) (λd=>?_) (λd=>?_)⟩
  .have b:(FR:G Z)=b8 n l:=by rw[<-b];exact(X d).symm
   grind
  .have d:=BY.1 d;have b:mH n (l.drop (i+1)) (o*j8 n q)=b8 n l:=by rw[<-b];exact(Y d).symm
   obtain⟨b1,v⟩:=aO6 h r t s k D;have b3:(o*j8 n q).natAbs<2^V:=aGo b1 v (BI (AV A c) e);refine⟨⟨⟨n,o⟩,⟨t,h,rfl⟩,⟨⟨rfl,rfl,AG⟩,rfl,rfl,rfl,rfl,rfl,⟨⟩⟩,bL,bL,bL,bL,⟨⟩⟩,λj J=>?_⟩;obtain⟨x,u⟩:=j;obtain⟨y,w⟩:=aO5 J s;have z:1<=u:=J.ho;dsimp only;refine⟨by omega,by omega,aH aKw (λg=>?_) (λg=>?_)⟩
   .obtain⟨f,z2,z3⟩:=y g;have z4:1<=u*q:=f.ho
    grind [AG]
   .have f:=w g;exact⟨⟨i+1,u⟩,⟨c,by rw[f];exact b,z,by rw[f];exact v⟩,⟨⟨⟨rfl,rfl,AG⟩,rfl,rfl,rfl,F,⟨⟩⟩,bL,bL,bL,⟨⟩⟩,by show l.length-(i+1)<l.length-i;omega⟩
 .have m:i=l.length:=by omega
  subst m;rw[AY]at b;have b:FQ o=b8 n l:=b
  grind
def aDd:aF
 |[.big n a,.sl 2 k f]=>FQ (FQ (a<=300/\1<=n/\k<=90/\(∀i,i<k->isBig 201 (f i))/\(∀q∈aI k f,2<=q)),.ret (.tup [.big ((b8 n (aI k f)).getD 0) 30000,.bool (b8 n (aI k f)).isSome]))
 |_=>FR
theorem aY2:∀b p r,aDd b=FQ (p,r)->p.holds->e9 b->∃ms',kX.leVs 0 b ms'/\∃E:Env AA,aJ E CZ ms' r.sat:=by
 intro b p r h c e;unfold aDd at h;split at h
 .rename_i n a k f;cases h;obtain⟨l,j,h3,i,g⟩:=c;have d:=aZ k f;exact⟨[.big n a,.sl 2 (aI k f).length (iL (aI k f) 201)],⟨bL,⟨rfl,d.symm,s9 i⟩,⟨⟩⟩,
   aUW n (aI k f) a 201 30000 300 j (aOK (by omega) e.1) l (by omega) (by omega) (by omega) (by omega) g (by omega) (by omega)⟩
 .simp at h
def aCk:Ctr AA:=⟨101,aDd,λargs w=>Tryz.call101 args w,gH bR Tryz.func101 aDd aY2⟩
def unr(n:O):O->MS->G LoopAnn:=λ_ _=>FQ (.unroll n)
theorem aV7(z:Z)(n:O):(fP 2/\(n<=1000000/\64<=1000000)/\bif V (aX z 2>0)then ((0:Z)<=0/\0<(H (aA (Q z)):Z))/\bif P Aa (AI (R (AC Aa) (J (aA (Q z)) (I 0) 0) &&&R (AC Aa) 1):Z)==1 then bif fY z 2 then S else U else bif fY z 2 then U else S else bif fY z 2 then U else S)=aJ (aM [gQ,dT,dC] aC) EN [.big z n] (AF (fF (fY z 2) (.ret (.tup [])))):=by kernel_rfl
def aC2:aF
 |[.big z n]=>FQ (FQ (n<=1000000),fF (fY z 2) (.ret (.tup [])))
 |_=>FR
theorem aWm(z:Z)(n:O):(fP 2/\(n<=1000000/\64<=1000000)/\bif V (aX z 2>0)then ((0:Z)<=0/\0<(H (aA (Q z)):Z))/\((2:Z)=0->U)/\(T (J (aA (Q z)) (I 0) 0) 2==1)=fY z 2 else FT=fY z 2)=aJ (aM [cF,iF] aC) E5 [.big z n] (AF (.ret (.bool (fY z 2)))):=by kernel_rfl
theorem aRE(b:N)(l:K Z):(bif (H l:Z)==0 then (!b)=mO b l else (0<=P FU ((H l:Z)-1)/\P FU ((H l:Z)-1)<(H l:Z))/\(J l (I (P FU ((H l:Z)-1))) 0 != 0)=mO b l)=aJ (aM [] aC) E8 [.st [.bool b,.ws l]] (AF (.ret (.bool (mO b l)))):=by kernel_rfl
theorem aM6(b:N)(l:K Z)(a:_)(c:a=(H l:Z)):(bif a ==0 then bif !b then FV=mO b l else bif V (a >0)then (0<=P FU (a-1)/\P FU (a-1)< a)/\(J l (I (P FU (a-1))) 0 != 0)=mO b l else FT=mO b l else bif V (a >0)then (0<=P FU (a-1)/\P FU (a-1)< a)/\(J l (I (P FU (a-1))) 0 != 0)=mO b l else FT=mO b l)=aJ (aM [] aC) E6 [.st [.bool b,.ws l]] (AF (.ret (.bool (mO b l)))):=by subst c;kernel_rfl
theorem aV6(k n a b m x y o:Z)(i:N)(c d:O)(f g:O->MV)(r q p l j h e:O):(((0:Z)<=0/\(0:Z)<(↑(6:O):Z))/\I 0<6/\bif V (a=0)then (0<=P FU ((0:Z)+1)/\P FU ((0:Z)+1)<(↑(6:O):Z))/\I (P FU ((0:Z)+1))<6/\bif V (b=0)then (0<=P FU (P FU ((0:Z)+1)+1)/\P FU (P FU ((0:Z)+1)+1)<(↑(6:O):Z))/\I (P FU (P FU ((0:Z)+1)+1))<6/\bif V (m=0)then (0<=P FU (P FU (P FU ((0:Z)+1)+1)+1)/\P FU (P FU (P FU ((0:Z)+1)+1)+1)<(↑(6:O):Z))/\I (P FU (P FU (P FU ((0:Z)+1)+1)+1))<6/\bif V (x=0)then (0<=P FU (P FU (P FU (P FU ((0:Z)+1)+1)+1)+1)/\P FU (P FU (P FU (P FU ((0:Z)+1)+1)+1)+1)<(↑(6:O):Z))/\I (P FU (P FU (P FU (P FU ((0:Z)+1)+1)+1)+1))<6/\bif V (y=0)then (0<=P FU (P FU (P FU (P FU (P FU ((0:Z)+1)+1)+1)+1)+1)/\P FU (P FU (P FU (P FU (P FU ((0:Z)+1)+1)+1)+1)+1)<(↑(6:O):Z))/\I (P FU (P FU (P FU (P FU (P FU ((0:Z)+1)+1)+1)+1)+1))<6/\bif V (o=0)then bif !i then bif dE a b m x y o i then S else U else bif dE a b m x y o i then U else S else bif dE a b m x y o i then U else S else bif dE a b m x y o i then U else S else bif dE a b m x y o i then U else S else bif dE a b m x y o i then U else S else bif dE a b m x y o i then U else S else bif dE a b m x y o i then U else S)=aJ (aM [l5,dC] (unr 7)) EO [.st [.int .i64 k,.big n e,.sl 1 c f,.sl 2 d g,.st [.big a r,.big b q,.big m p],.st [.big x l,.big y j,.bool i],.big o h]] (AF (fF (dE a b m x y o i) (.ret (.tup [])))):=by kernel_rfl
theorem aRv(k n a b m x y o:Z)(i:N)(c d:O)(f g:O->MV)(r q p l j h e:O):(bif P FU (P FU (P FU (P FU (P FU ((H (aA (Q a)):Z)+(H (aA (Q b)):Z))+(H (aA (Q m)):Z))+(H (aA (Q x)):Z))+(H (aA (Q y)):Z))+(H (aA (Q o)):Z))==0 then (!i)=dE a b m x y o i else FT=dE a b m x y o i)=aJ (aM [] aC) FE [.st [.int .i64 k,.big n e,.sl 1 c f,.sl 2 d g,.st [.big a r,.big b q,.big m p],.st [.big x l,.big y j,.bool i],.big o h]] (AF (.ret (.bool (dE a b m x y o i)))):=by kernel_rfl
theorem pV{b:N}(h:b=FT):(bif b then U else S):=by rw[h];exact⟨⟩
theorem orT{b:N}(h:b=FV):(bif b then S else U):=by rw[h];exact⟨⟩
theorem qN{z:Z}:fY z 2=FV↔2<z/\z%2=1:=Z4
theorem aHS{z:Z}(h:¬(2<z/\z%2=1)):fY z 2=FT:=Y1 h
theorem bFz{z:Z}(h:2<z):P Aa ((R (AC Aa) ((aA z.natAbs).getD (I 0) 0) &&&R (AC Aa) 1).toNat:Z)=z%2:=by
 rw[aMs,kA _ (by omega)];omega
theorem aYR:bC EN aC2:=by
 intro ms p r h a;unfold aC2 at h;split at h
 .rename_i z n;cases h;have h1:n<=1000000:=a;refine⟨aM [gQ,dT,dC] aC,?_⟩;rw[<-aV7 z n];refine⟨by omega,by omega,aH (decide_eq_true_iff.trans kK) (λq=>?_) (λq=>pV (aHS λw=>q w.1))⟩;have:=zG (z:=z) (by omega)
  grind [bFz,qN,aHS]
 .simp at h
def aCj:Ctr AA:=⟨165,aC2,λargs w=>Tryz.call165 args w,aN bR Tryz.func165 aC2 aYR⟩
def aDf:aF
 |[.big z n]=>FQ (FQ (n<=1000000),.ret (.bool (fY z 2)))
 |_=>FR
theorem aY5:bC E5 aDf:=by
 intro ms p r h a;unfold aDf at h;split at h
 .rename_i z n;cases h;have h1:n<=1000000:=a;refine⟨aM [cF,iF] aC,?_⟩;rw[<-aWm z n];refine⟨by omega,by omega,aH (decide_eq_true_iff.trans kK) (λq=>?_) (λq=>(aHS λw=>q w.1).symm)⟩;have:=zG (z:=z) (by omega)
  grind [aMs,BK,qN]
 .simp at h
def aCl:Ctr AA:=⟨102,aDf,λargs w=>Tryz.call102 args w,aN bR Tryz.func102 aDf aY5⟩
def mJ:aF
 |[.st [.bool b,.ws l]]=>FQ (FQ (l.length<=1000000),.ret (.bool (mO b l)))
 |_=>FR
theorem aUr:bC E8 mJ:=by
 intro ms p r h a;unfold mJ at h;split at h
 .rename_i b l;cases h;have h1:l.length<=1000000:=a;refine⟨aM [] aC,?_⟩;rw[<-aRE b l];refine aH beq_iff_eq (λq=>?_) (λq=>?_)
  .grind [mO]
  .have w:P FU ((l.length:Z)-1)=((l.length-1:O):Z):=by rw[aT (by omega) (by omega)];omega
   rw[w,Z8]
   grind [mO]
 .simp at h
def aSK:Ctr AA:=⟨96,mJ,λargs w=>Tryz.call96 args w,aN bR Tryz.func96 mJ aUr⟩
theorem aQ0:bC E6 mJ:=by
 intro ms p r h a;unfold mJ at h;split at h
 .rename_i b l;cases h;have h1:l.length<=1000000:=a;refine⟨aM [] aC,?_⟩;rw[<-aM6 b l _ rfl];refine aH beq_iff_eq (λq=>?_) (λq=>?_)
  .grind [mO]
  .have w:P FU ((l.length:Z)-1)=((l.length-1:O):Z):=by rw[aT (by omega) (by omega)];omega
   rw[w,Z8,Y0 (show(l.length:Z)>0 by omega),Z6]
   grind [mO]
 .simp at h
def aFS:Ctr AA:=⟨100,mJ,λargs w=>Tryz.call100 args w,aN bR Tryz.func100 mJ aQ0⟩
def aC1:aF
 |[.st [.int .i64 _,.big _ _,.sl 1 _ _,.sl 2 _ _,.st [.big a _,.big b _,.big m _],.st [.big x _,.big y _,.bool i],.big o _]]=>FQ (FR,fF (dE a b m x y o i) (.ret (.tup [])))
 |_=>FR
theorem aHQ{a b m x y o:Z}{i:N}:dE a b m x y o i=FV↔a=0/\b=0/\m=0/\x=0/\y=0/\o=0/\i=FT:=by
 grind [dE,BL]
theorem t8{a b m x y o:Z}{i:N}(h:¬(a=0/\b=0/\m=0/\x=0/\y=0/\o=0/\i=FT)):dE a b m x y o i=FT:=by
 grind [dE,aHQ]
theorem aYQ:bC EO aC1:=by
 intro ms p r h hp;unfold aC1 at h;split at h
 .rename_i k n e c f d g a v b u m t x s y l i o j;cases h;refine⟨aM [l5,dC] (unr 7),?_⟩;rw[<-aV6 k n a b m x y o i c d f g v u t s l j e];refine⟨by decide,by decide,aH Z4 (λq1=>?_) (λq=>pV (t8 λw=>q w.1))⟩;refine⟨by decide,by decide,aH Z4 (λq2=>?_) (λq=>pV (t8 λw=>q w.2.1))⟩;refine⟨by decide,by decide,aH Z4 (λq3=>?_) (λq=>pV (t8 λw=>q w.2.2.1))⟩;refine⟨by decide,by decide,aH Z4 (λq4=>?_) (λq=>pV (t8 λw=>q w.2.2.2.1))⟩;refine⟨by decide,by decide,aH Z4 (λq5=>?_) (λq=>pV (t8 λw=>q w.2.2.2.2.1))⟩;refine⟨by decide,by decide,aH Z4 (λq6=>?_) (λq=>pV (t8 λw=>q w.2.2.2.2.2.1))⟩
  grind [aHQ,t8]
 .simp at h
def u9:Ctr AA:=⟨164,aC1,λargs w=>Tryz.call164 args w,aN bR Tryz.func164 aC1 aYQ⟩
theorem qL{z:Z}:(aA z.natAbs).length=0↔z=0:=by
 grind [xJ]
def aAq:aF
 |[.st [.int .i64 _,.big _ _,.sl 1 _ _,.sl 2 _ _,.st [.big a f,.big b e,.big m w3],.st [.big x d,.big y c,.bool i],.big o w6]]=>FQ (FQ (f<=1000/\e<=1000/\w3<=1000/\d<=1000/\c<=1000/\w6<=1000),.ret (.bool (dE a b m x y o i)))
 |_=>FR
theorem aUi:dR FE aAq:=by
 intro ms p r h v w;unfold aAq at h;split at h
 .rename_i k n e c f d g a u b t m s x q y l i o j;cases h;obtain⟨h1,h2,h3,h4,h5,h6⟩:=v;refine⟨aM [] aC,?_⟩;rw[<-aRv k n a b m x y o i c d f g u t s q l j e];obtain⟨⟨_,_,_,_,⟨fa,E,D,_⟩,⟨B,A,_,_⟩,C,_⟩,_⟩:=w;have la:=cK fa (by omega);have ea:=qL (z:=a);have lb:=cK E (by omega);have eb:=qL (z:=b);have lm:=cK D (by omega);have em:=qL (z:=m);have lx:=cK B (by omega);have ex:=qL (z:=x);have ly:=cK A (by omega);have ey:=qL (z:=y);have lo:=cK C (by omega);have eo:=qL (z:=o);generalize (aA a.natAbs).length=la' at *;generalize (aA b.natAbs).length=lb' at *;generalize (aA m.natAbs).length=lm' at *;generalize (aA x.natAbs).length=lx' at *;generalize (aA y.natAbs).length=ly' at *;generalize (aA o.natAbs).length=lo' at *;rw[aT (x:=(la':Z)+lb') (by omega) (by omega),aT (x:=(la':Z)+lb'+lm') (by omega) (by omega),aT (x:=(la':Z)+lb'+lm'+lx') (by omega) (by omega),aT (x:=(la':Z)+lb'+lm'+lx'+ly') (by omega) (by omega),aT (x:=(la':Z)+lb'+lm'+lx'+ly'+lo') (by omega) (by omega)]
  grind [t8,aHQ]
 .simp at h
def tF:Ctr AA:=⟨64,aAq,λargs w=>Tryz.call64 args w,aP bR Tryz.func64 aAq aUi⟩
def pY(k n a b m x y o:Z)(i:N)(c:O)(f:O->MV)(base:K Z)(W:O):MV :=
 .st [.int .i64 k,.big n W,.sl 1 c f,.sl 2 base.length (iL base W),.st [.big a W,.big b W,.big m W],.st [.big x W,.big y W,.bool i],.big o W]
theorem sC{k n a b m x y o:Z}{i:N}{c d:O}{f g:O->MV}{s r q p l h e W:O}(C:s<=W)(B:r<=W)(A:q<=W)(z:p<=W)(w:l<=W)(v:h<=W)(u:e<=W)(t:∀j,j<d->isBig W (g j)) :
  kX 0 (.st [.int .i64 k,.big n e,.sl 1 c f,.sl 2 d g,.st [.big a s,.big b r,.big m q],.st [.big x p,.big y l,.bool i],.big o h]) (pY k n a b m x y o i c f (aI d g) W) :=
 ⟨rfl,⟨rfl,.inl u⟩,⟨rfl,rfl,AG⟩,⟨rfl,(aZ d g).symm,s9 t⟩,⟨⟨rfl,.inl C⟩,⟨rfl,.inl B⟩,⟨rfl,.inl A⟩,⟨⟩⟩,⟨⟨rfl,.inl z⟩,⟨rfl,.inl w⟩,rfl,⟨⟩⟩,⟨rfl,.inl v⟩,⟨⟩⟩
theorem aK4{d:O}{g:O->MV}{W:O}(a:∀j,j<d->isBig W (g j)):kX 0 (.sl 2 d g) (.sl 2 (aI d g).length (iL (aI d g) W)):=⟨rfl,(aZ d g).symm,s9 a⟩
structure kdP (w1 w2 w3 w4 w5 w6 w7 d e:Nat) (g h:Nat->MV):Prop where
 h1:w1<=200
 h2:w2<=200
 h3:w3<=200
 h4:w4<=200
 h5:w5<=200
 h6:w6<=200
 h7:w7<=200
 hg:∀j,j<d->isBig 200 (g j)
 hh:∀j,j<e->isBig 200 (h j)
 he:e<=90
 hd:d<=100000
 h0:∀q∈aI e h,2<=q
theorem bAx(k n a b m x y o:Z)(i:N)(c:O)(f:O->MV)(base q:K Z)(W:O)(e:_)(h:e=(dE a b m x y o i))(d:_)(g:d=(H base)):(bif pA n then bif V (tV n<65536)then bif (H q:Z)==0 then bif (H base:Z)==0 then bif dE a b m x y o i then bif isB n then bif sG n d (H q) e then S else U else bif sG n d (H q) e then U else S else bif sG n d (H q) e then U else S else bif sG n d (H q) e then U else S else bif sG n d (H q) e then U else S else bif sG n d (H q) e then U else S else bif sG n d (H q) e then U else S)=aJ (aM [aNC,dC,u9,aNM] aC) EV [pY k n a b m x y o i c f base W,.sl 2 q.length (iL q W)] (AF (fF (sG n base.length q.length (dE a b m x y o i)) (.ret (.tup [])))):=by subst h g;kernel_rfl
def aIA:aF
 |[.st [.int .i64 _,.big n c,.sl 1 _ _,.sl 2 d g,.st [.big a q,.big b p,.big m l],.st [.big x k,.big y j,.bool i],.big o f],.sl 2 e h] =>
  FQ (FQ (kdP q p l k j f c d e g h),fF (sG n d e (dE a b m x y o i)) (.ret (.tup [])))
 |_=>FR
theorem bDK:∀u p r,aIA u=FQ (p,r)->p.holds->e9 u->∃ms',kX.leVs 0 u ms'/\∃E:Env AA,aJ E EV ms' r.sat:=by
 intro u p r t L hf;unfold aIA at t;split at t
 .rename_i k n A c f d g a H b G m F x D y C i o B e h;simp only[Z1,Z2]at t;obtain⟨rfl,rfl⟩:=t;have K:kdP H G F D C B A d e g h:=L;refine⟨[pY k n a b m x y o i c f (aI d g) 200,.sl 2 (aI e h).length (iL (aI e h) 200)],⟨sC K.h1 K.h2 K.h3 K.h4 K.h5 K.h6 K.h7 K.hg,aK4 K.hh,⟨⟩⟩,aM [aNC,dC,u9,aNM] aC,?_⟩;have O:=aZ d g;have N:=aZ e h;generalize aI d g=base at *;generalize aI e h=q at *;subst O;subst N;rw[<-bAx k n a b m x y o i c f base q 200 _ rfl _ rfl];generalize j:sG n base.length q.length (dE a b m x y o i)=T;unfold sG at j;have s:∀ {z:Bool},z=T->z=FT->(bif T then U else S):=λQ P=>pV (Q.symm.trans P);cases q1:pA n with
  |false =>
   refine pV ?_;rw[<-j];have:¬(-9223372036854775808<=n/\n<9223372036854775808):=λh=>by rw[qF.2 h]at q1;cases q1
   by_cases l:n<65536
   .have:isB n=FT:=if_neg (by omega);rw[this,AP,AP,AP,AP]
   .rw[Y1 l];rfl
  |true =>
  have q1':=qF.1 q1;have M:tV n=n:=by unfold tV;rw[q1];rfl
  rw[M,Z6];refine aH Z4 (λl=>?_) (λl=>s j (by rw[Y1 l];rfl));refine aH beq_iff_eq (λJ=>?_) (λJ=>s j (by rw[Y0 l,Y1 (show ¬q.length=0 by omega)];rfl));refine aH beq_iff_eq (λI=>?_) (λI=>s j (by rw[Y0 l,Y0 (show q.length=0 by omega),Y1 (show ¬base.length=0 by omega)];rfl));rw[Y0 l,Y0 (show q.length=0 by omega),Y0 (show base.length=0 by omega),AB,AB,AB]at j;cases v:dE a b m x y o i with
  |false=>exact s j (by rw[v];rfl)
  |true =>
   cases w:isB n with
   |false=>exact s j (by rw[v,w];rfl)
   |true=>exact orT (j.symm.trans (by rw[v,w];rfl))
 .simp at t
def bCd:Ctr AA:=⟨135,aIA,λargs w=>Tryz.call135 args w,gH bR Tryz.func135 aIA bDK⟩
structure MnI (n:Int) (base q:List Int) (R:Bool) (s:WalkI):Prop where
 hi:s.i<=base.length
 hr:xN n (base.drop s.i) (q.drop s.i)=R
def aRV(n:Z)(base q:K Z)(W:O)(R:N):O->MS->G LoopAnn
 |7,e=>FQ (.inv WalkI (MnI n base q R) (λs=>⟨92, [(1,.sl 2 q.length (iL q W)),(2,.bp 0 0),(4,.bp 1 0),(40,.sl 2 base.length (iL base W)),(41,.int .i64 base.length),(42,.int .i64 s.i)],
   e.bx.take 2,0⟩) (λs=>base.length-s.i))
 |_,_=>FR
theorem bAv(k n a b m x y o:Z)(i:N)(c:O)(f:O->MV)(base q:K Z)(W:O)(R T:N)(g:_)(s:g=(H base:Z))(d:_)(r:d=λ(i_1:WalkI)=>(I (i_1.1:Z)))(h:_)(p:h=(b8 (n-1) (aI (H q) (iL q W))))(e:_)(l:e=(iL base W)):(W<=1000000/\bif fY n 2 then bif dE a b m x y o i then (W<=1000000/\64<=1000000)/\(max W 64+1<=300/\1<=n-1/\H q<=90/\(∀(i:O),i<H q->isBig 201 (iL q W i))/\∀(q_1:Z),q_1∈aI (H q) (iL q W)->2<=q_1)/\bif AU h then (30000<=1000000/\30000<=1000000)/\(30000+30000<=1000000/\W<=1000000)/\bif V (aX (AQ h 0*AQ h 0) n>0)then bif g ==(H q:Z)then (∃i_1,MnI n base q R i_1/\((2=2/\H q=H q/\LeFun (H q) (iL q W) (iL q W))/\0=0/\0=0/\(2=2/\H base=H base/\LeFun (H base) e e)/\g = g/\0=(i_1.1:Z)/\S)/\(k=k/\aB n n W W/\(1=1/\c=c/\LeFun c f f)/\(2=2/\H base=H base/\LeFun (H base) e e)/\(aB a a W W/\aB b b W W/\aB m m W W/\S)/\(aB x x W W/\aB y y W W/\i=i/\S)/\aB o o W W/\S)/\aB (n-1) (n-1) (max W 64+1) (max W 64+1)/\S)/\∀(i_1:WalkI),MnI n base q R i_1->bif V ((i_1.1:Z)< g)then (0<=(i_1.1:Z)/\(i_1.1:Z)< g)/\(W<=1000000/\64<=1000000)/\bif V (aX (J base (d i_1) 0) 1>0)then (W<=1000000/\max W 64+1<=1000000)/\bif V (aX (J base (d i_1) 0) (n-1)<=0)then (0<=(i_1.1:Z)/\(i_1.1:Z)<(H q:Z))/\(max W 64+1<=900000/\W<=900000/\(J q (d i_1) 0=0->U))/\(W<=100000/\max W 64+1<=100000/\W<=100000/\0<=(n-1)/J q (d i_1) 0)/\bif V (0<n)then (W<=1000000/\64<=1000000)/\(max W 64+1<=900000/\W<=900000)/\bif V (gcd (rR (J base (d i_1) 0) ((n-1)/J q (d i_1) 0) n-1) n=1)then (0<=(i_1.1:Z)/\(i_1.1:Z)<(H q:Z))/\(W<=100000/\W<=100000/\W<=100000/\0<=J q (d i_1) 0)/\bif V (0<n)then (W<=1000000/\64<=1000000)/\bif V (rR (rR (J base (d i_1) 0) ((n-1)/J q (d i_1) 0) n) (J q (d i_1) 0) n=1)then ∃j,MnI n base q R j/\(((2=2/\H q=H q/\LeFun (H q) (iL q W) (iL q W))/\0=0/\0=0/\(2=2/\H base=H base/\LeFun (H base) e e)/\g = g/\P FU ((i_1.1:Z)+1)=(j.1:Z)/\S)/\(k=k/\aB n n W W/\(1=1/\c=c/\LeFun c f f)/\(2=2/\H base=H base/\LeFun (H base) e e)/\(aB a a W W/\aB b b W W/\aB m m W W/\S)/\(aB x x W W/\aB y y W W/\i=i/\S)/\aB o o W W/\S)/\aB (n-1) (n-1) (max W 64+1) (max W 64+1)/\S)/\H base-j.1<H base-i_1.1 else bif T then U else S else bif T then U else S else bif T then U else S else bif T then U else S else bif T then U else S else bif T then U else S else bif T then S else U else bif T then U else S else bif T then U else S else bif T then U else S else bif T then U else S else bif T then U else S)=aJ (aM [aCj,u9,iR,jD,yD,i9,dT,dC,lI,aNL,u7,lZ] (aRV n base q W R)) CY [pY k n a b m x y o i c f base W,.sl 2 q.length (iL q W)] (AF (fF T (.ret (.tup [])))):=by subst s r p l;kernel_rfl
theorem aOY{a e m:Z}(h:0<=e):rR a e m=fQ a e.natAbs m:=if_neg (by omega)
theorem tR{a b:Z}:aX a b<=0↔a<=b:=aCx
theorem aGl(n b p:Z)(c a:K Z):xN n (b::c) (p::a)=((V (1<b)&&V (b<=n-1))&&((V (gcd (fQ b ((n-1)/p).natAbs n-1) n=1)&&V (fQ (fQ b ((n-1)/p).natAbs n) p.natAbs n=1))&&xN n c a)):=rfl
theorem lW{k n a b m x y o:Z}{i:N}{c W:O}{f:O->MV}{base:K Z}:(k=k/\aB n n W W/\((1:O)=1/\c=c/\LeFun c f f)/\((2:O)=2/\base.length=base.length/\LeFun base.length (iL base W) (iL base W))/\(aB a a W W/\aB b b W W/\aB m m W W/\S)/\(aB x x W W/\aB y y W W/\i=i/\S)/\aB o o W W/\S) :=
 ⟨rfl,bL,⟨rfl,rfl,AG⟩,⟨rfl,rfl,AG⟩,⟨bL,bL,bL,⟨⟩⟩,⟨bL,bL,rfl,⟨⟩⟩,bL,⟨⟩⟩
theorem aZo(k n a b m x y o:Z)(i:N)(c:O)(f:O->MV)(base q:F0 Z)(z:q.length<=90)(h:∀p∈q,2<=p)(_hb:base.length<=100000) :
  ∃E:Env AA,aJ E CY [pY k n a b m x y o i c f base 200,.sl 2 q.length (iL q 200)] (AF (fF (tZ n base (dE a b m x y o i) q) (.ret (.tup [])))):=by
 refine⟨aM [aCj,u9,iR,jD,yD,i9,dT,dC,lI,aNL,u7,lZ] (aRV n base q 200 (xN n base q)),?_⟩;rw[<-bAv k n a b m x y o i c f base q 200 (xN n base q) (tZ n base (dE a b m x y o i) q) _ rfl _ rfl _ rfl _ rfl];have r:max 200 64+1=201:=rfl;rw[dW,r];refine⟨by omega,?_⟩;generalize d:tZ n base (dE a b m x y o i) q=T;unfold tZ at d;cases u:fY n 2 with
 |false=>rw[u]at d;exact pV d.symm
 |true =>
 cases H:dE a b m x y o i with
 |false=>rw[u,H]at d;exact pV d.symm
 |true =>
 rw[u,H]at d;obtain⟨n2,n1⟩:=qN.1 u;rw[Z6,Z6];refine⟨by omega,⟨by omega,by omega,z,λj _=>kL q (by omega) j,h⟩,?_⟩;cases G:b8 (n-1) q with
 |none=>rw[G]at d;exact pV d.symm
 |some F =>
 rw[G]at d;have d:(V (n<F*F)&&(V (base.length=q.length)&&xN n base q))=T:=d;rw[BD,Z6,BM];refine⟨by omega,by omega,aH (decide_eq_true_iff.trans kK) (λq1=>?_) (λq1=>pV (by rw[<-d,Y1 q1];rfl))⟩;refine aH beq_iff_eq (λK=>?_) (λK=>pV (by rw[<-d,Y0 q1,Y1 (show ¬base.length=q.length by omega)];rfl));have C:base.length=q.length:=by omega
 rw[Y0 q1,Y0 C,AB,AB]at d;rw[<-d];clear d;refine⟨⟨⟨0⟩,⟨Z9 _,rfl⟩,⟨⟨rfl,rfl,AG⟩,rfl,rfl,⟨rfl,rfl,AG⟩,rfl,rfl,⟨⟩⟩,lW,bL,⟨⟩⟩,λj J=>?_⟩;obtain⟨j⟩:=j;obtain⟨L,g⟩:=J;dsimp only at L g⊢;rw[Z8];refine aH Z4 (λI=>?_) (λI=>?_)
 .have l:j<base.length:=by omega
  rw[tK l,tK (show j<q.length by omega),aGl]at g;have hp:=h _ (gI (show j<q.length by omega));generalize base.getD j 0=B at *;generalize q.getD j 0=p at *;have D:0<=(n-1)/p:=Int.ediv_nonneg (by omega) (by omega);rw[aOY (a:=B) D,aOY (e:=p) (by omega)];have M:P FU ((j:Z)+1)=((j+1:O):Z):=by rw[aT (by omega) (by omega)];omega
  refine⟨by omega,by omega,aH (decide_eq_true_iff.trans kK) (λt=>?_) (λt=>pV (by rw[<-g,Y1 t];rfl))⟩;refine⟨by omega,aH (decide_eq_true_iff.trans tR) (λw=>?_) (λw=>pV (by rw[<-g,Y0 t,Y1 w];rfl))⟩;rw[Y0 t,Y0 w,AB,AB]at g;refine⟨by omega,by omega,⟨by omega,by omega,by omega,D⟩,aN4 (Y0 (by omega)) ⟨by omega,by omega,aH Z4 (λs=>?_) (λs=>pV (by rw[<-g,Y1 s];rfl))⟩⟩;refine⟨by omega,by omega,aN4 (Y0 (by omega)) ⟨by omega,aH Z4 (λv=>?_) (λv=>pV (by rw[<-g,Y0 s,Y1 v];rfl))⟩⟩;rw[Y0 s,Y0 v,AB,AB]at g;exact⟨⟨j+1⟩,⟨l,g⟩,⟨⟨⟨rfl,rfl,AG⟩,rfl,rfl,⟨rfl,rfl,AG⟩,rfl,M,⟨⟩⟩,lW,bL,⟨⟩⟩,by show base.length-(j+1)<base.length-j;omega⟩
 .have A:j=base.length:=by omega
  subst A;rw[AY]at g;exact orT g.symm
def aIy:aF
 |[.st [.int .i64 _,.big n c,.sl 1 _ _,.sl 2 d g,.st [.big a q,.big b p,.big m l],.st [.big x k,.big y j,.bool i],.big o f],.sl 2 e h] =>
  FQ (FQ (kdP q p l k j f c d e g h),fF (tZ n (aI d g) (dE a b m x y o i) (aI e h)) (.ret (.tup [])))
 |_=>FR
theorem bDI:∀l p r,aIy l=FQ (p,r)->p.holds->e9 l->∃ms',kX.leVs 0 l ms'/\∃E:Env AA,aJ E CY ms' r.sat:=by
 intro l p r j A hf;unfold aIy at j;split at j
 .rename_i k n q c f d g a z b w m v x u y t i o s e h;simp only[Z1,Z2]at j;obtain⟨rfl,rfl⟩:=j;have K:kdP z w v u t s q d e g h:=A;exact⟨[pY k n a b m x y o i c f (aI d g) 200,.sl 2 (aI e h).length (iL (aI e h) 200)],⟨sC K.h1 K.h2 K.h3 K.h4 K.h5 K.h6 K.h7 K.hg,aK4 K.hh,⟨⟩⟩,aZo k n a b m x y o i c f _ _ (by rw[aZ];exact K.he) K.h0 (by rw[aZ];exact K.hd)⟩
 .simp at j
def bCb:Ctr AA:=⟨136,aIy,λargs w=>Tryz.call136 args w,gH bR Tryz.func136 aIy bDI⟩
def oL(A B M z b a:Z)(c:N):RS:=FM (⟨bE A B M z b a c,rfl⟩:∃r,r=bE A B M z b a c)
theorem vW(A B M z b a:Z)(c:N):oL A B M z b a c=bE A B M z b a c:=FL (⟨bE A B M z b a c,rfl⟩:∃r,r=bE A B M z b a c)
def aEP:aF
 |[.st [.big A i,.big B j,.big M k],.big z t,.st [.big b n,.big a m,.bool c]] =>
  FQ (FQ (t<=100000/\i<=200/\j<=200/\k<=200/\n<=200/\m<=200),.ret (bEo (oL A B M z b a c)))
 |_=>FR
theorem aWI:∀a p r,aEP a=FQ (p,r)->p.holds->∃p' r',aAg a=FQ (p',r')/\p'.holds/\∀b w e,r'.holds b w e->r.holds b w e:=by
 intro a p r h c;unfold aEP at h;split at h
 .rename_i A i B j M k z t px n py m po;simp only[Z1,Z2]at h;obtain⟨rfl,rfl⟩:=h;refine⟨_,_,rfl,c,λb w e h=>?_⟩;rw[vW];exact h
 .simp at h
def aJz:Ctr AA:=aW8.weaken aEP aWI
structure PlI (n a b:Int) (q:List Int) (R:Bool) (s:WalkI):Prop where
 hi:s.i<=q.length
 hr:wH n a b (q.drop s.i)=R
structure BrI (n:Int) (base:List Int) (s:WalkI):Prop where
 hi:s.i<=base.length
 hr:∀j,j<s.i->0<=base.getD j 0/\base.getD j 0<n
def aRW(n A B:Z)(base q:K Z)(W:O)(R:N):O->MS->G LoopAnn
 |7,e=>FQ (.inv WalkI (BrI n base) (λs=>⟨112, [(1,.sl 2 q.length (iL q W)),(2,.bp 0 0),(4,.bp 1 0),(43,.sl 2 base.length (iL base W)),(44,.int .i64 base.length),(45,.int .i64 s.i)],
   e.bx.take 3,0⟩) (λs=>base.length-s.i))
 |15,e=>FQ (.inv WalkI (PlI n A B q R) (λs=>⟨112, [(1,.sl 2 q.length (iL q W)),(2,.bp 0 0),(4,.bp 1 0),(8,.bp 3 0),(9,.bp 4 0),(89,.sl 2 q.length (iL q W)),(90,.int .i64 q.length),(91,.int .i64 s.i)],
   e.bx.take 5,0⟩) (λs=>q.length-s.i))
 |_,_=>FR
theorem bAw(k n a b m x y o:Z)(i:N)(c:O)(f:O->MV)(base q:K Z)(W:O)(A B:Z)(R T:N)(l:_)(F:l=(H base:Z))(t:_)(E:t=(J base (I 0) 0))(s:_)(D:s=(J base (I 1) 0))(e:_)(C:e=(iL base W))(d:_)(z:d=(iL q W))(p:_)(w:p=(max W 64+1))(h:_)(v:h=(H q))(g:_)(G:g=(AQ (b8 (n+1) (aI h d)) 0-1))(r:_)(u:r=(H q:Z)):(W<=1000000/\bif fY n 2 then bif dE a b m x y o i then (W<=1000000/\64<=1000000)/\(max W 64+1<=300/\1<=n+1/\H q<=90/\(∀(i:O),i<H q->isBig 201 (iL q W i))/\∀(q_1:Z),q_1∈aI h d ->2<=q_1)/\bif AU (b8 (n+1) (aI h d))then (30000<=1000000/\64<=1000000)/\(max 30000 64+1<=1000000/\max 30000 64+1<=1000000)/\(max 30000 64+1+(max 30000 64+1)<=1000000/\W<=1000000)/\bif V (aX (g * g) n>0)then bif l ==2 then (∃i_1,BrI n base i_1/\((2=2/\H q=H q/\LeFun h d d)/\0=0/\0=0/\(2=2/\H base=H base/\LeFun (H base) e e)/\l = l/\0=(i_1.1:Z)/\S)/\(k=k/\aB n n W W/\(1=1/\c=c/\LeFun c f f)/\(2=2/\H base=H base/\LeFun (H base) e e)/\(aB a a W W/\aB b b W W/\aB m m W W/\S)/\(aB x x W W/\aB y y W W/\i=i/\S)/\aB o o W W/\S)/\aB (n+1) (n+1) p p/\aB g g (max 30000 64+1) (max 30000 64+1)/\S)/\∀(i_1:WalkI),BrI n base i_1->bif V ((i_1.1:Z)< l)then (0<=(i_1.1:Z)/\(i_1.1:Z)< l)/\bif V (c9 (J base (I (i_1.1:Z)) 0)≥0)then (W<=1000000/\W<=1000000)/\bif V (aX (J base (I (i_1.1:Z)) 0) n<0)then ∃j,BrI n base j/\(((2=2/\H q=H q/\LeFun h d d)/\0=0/\0=0/\(2=2/\H base=H base/\LeFun (H base) e e)/\l = l/\P FU ((i_1.1:Z)+1)=(j.1:Z)/\S)/\(k=k/\aB n n W W/\(1=1/\c=c/\LeFun c f f)/\(2=2/\H base=H base/\LeFun (H base) e e)/\(aB a a W W/\aB b b W W/\aB m m W W/\S)/\(aB x x W W/\aB y y W W/\i=i/\S)/\aB o o W W/\S)/\aB (n+1) (n+1) p p/\aB g g (max 30000 64+1) (max 30000 64+1)/\S)/\H base-j.1<H base-i_1.1 else bif T then U else S else bif T then U else S else ((0:Z)<=0/\0< l)/\((0:Z)<=1/\1< l)/\(W<=1000000/\W<=1000000)/\fP 4/\(64<=1000000/\W<=1000000)/\(W+W<=1000000/\64+W<=1000000)/\(max (W+W) (64+W)+1<=200000/\W<=200000)/\bif gA (J base (I 0) 0*J base (I 0) 0-4*J base (I 1) 0) n==(-1)then (W<=100000/\W<=100000/\max W 64+1<=100000/\W<=100000/\(n=0->U))/\bif V (pU t s (Q (n+1)) n=0)then (∃i_2,PlI n A B q R i_2/\((2=2/\H q=H q/\LeFun h d d)/\0=0/\0=0/\0=0/\0=0/\(2=2/\H q=H q/\LeFun h d d)/\r = r/\0=(i_2.1:Z)/\S)/\(k=k/\aB n n W W/\(1=1/\c=c/\LeFun c f f)/\(2=2/\H base=H base/\LeFun (H base) e e)/\(aB a a W W/\aB b b W W/\aB m m W W/\S)/\(aB x x W W/\aB y y W W/\i=i/\S)/\aB o o W W/\S)/\aB (n+1) (n+1) p p/\aB g g (max 30000 64+1) (max 30000 64+1)/\aB t t W W/\aB s s W W/\S)/\∀(i_2:WalkI),PlI n A B q R i_2->bif V ((i_2.1:Z)< r)then (0<=(i_2.1:Z)/\(i_2.1:Z)< r)/\(max W 64+1<=900000/\W<=900000/\(J q (I (i_2.1:Z)) 0=0->U))/\(W<=100000/\W<=100000/\max W 64+1<=100000/\W<=100000/\(n=0->U))/\(W+64<=900000/\W<=900000)/\bif V (gcd (pU t s (Q ((n+1)/J q (I (i_2.1:Z)) 0)) n) n=1)then ∃j,PlI n A B q R j/\(((2=2/\H q=H q/\LeFun h d d)/\0=0/\0=0/\0=0/\0=0/\(2=2/\H q=H q/\LeFun h d d)/\r = r/\P FU ((i_2.1:Z)+1)=(j.1:Z)/\S)/\(k=k/\aB n n W W/\(1=1/\c=c/\LeFun c f f)/\(2=2/\H base=H base/\LeFun (H base) e e)/\(aB a a W W/\aB b b W W/\aB m m W W/\S)/\(aB x x W W/\aB y y W W/\i=i/\S)/\aB o o W W/\S)/\aB (n+1) (n+1) p p/\aB g g (max 30000 64+1) (max 30000 64+1)/\aB t t W W/\aB s s W W/\S)/\H q-j.1<H q-i_2.1 else bif T then U else S else bif T then S else U else bif T then U else S else bif T then U else S else bif T then U else S else bif T then U else S else bif T then U else S else bif T then U else S else bif T then U else S)=aJ (aM [aCj,u9,iR,jC,yD,jD,i9,dT,dC,cQ,gQ,aSi,aNK,l5,lI,u7] (aRW n A B base q W R)) CX [pY k n a b m x y o i c f base W,.sl 2 q.length (iL q W)] (AF (fF T (.ret (.tup [])))):=by subst F E D C z w v G u;kernel_rfl
theorem bAu(k n a b m x y o:Z)(i:N)(c:O)(f:O->MV)(base q:K Z)(W:O)(T:N)(d:_)(j:d=(oL a b m (o/J q (I 0) 0) x y i))(g:_)(h:g=(oL a b m (J q (I 0) 0) (RS.X d) (RS.Y d) (RS.o d))):(bif (H q:Z)==1 then bif (H base:Z)==0 then fP 3/\(W<=1000000/\64<=1000000)/\bif V (aX n 3>0)then fP 6/\(W<=900000/\64<=900000)/\bif V (gcd n 6=1)then ((0:Z)<=0/\0<(H q:Z))/\(W<=100000/\W<=100000)/\bif grB (J q (I 0) 0) n then (W<=1000000/\W<=1000000)/\(W<=1000000/\W+W<=1000000)/\(W<=1000000/\W<=1000000)/\(W<=1000000/\W<=1000000)/\bif V (m=n)then fP 4/\(64<=1000000/\W+(W+W)<=1000000)/\fP 27/\(64<=1000000/\W+W<=1000000)/\(64+(W+(W+W))<=1000000/\64+(W+W)<=1000000)/\(max (64+(W+(W+W))) (64+(W+W))+1<=900000/\W<=900000)/\bif V (gcd (4*(a*(a*a))+27*(b*b)) n=1)then (W<=1000/\W<=1000/\W<=1000/\W<=1000/\W<=1000)/\bif m5 a b m x y i then bif !i then bif V (c9 o>0)then ((0:Z)<=0/\0<(H q:Z))/\(W<=900000/\W<=900000/\(J q (I 0) 0=0->U))/\bif V (o%J q (I 0) 0=0)then (W<=100000/\W<=200/\W<=200/\W<=200/\W<=200/\W<=200)/\bif RS.e d ==0 then bif !RS.o d then ((0:Z)<=0/\0<(H q:Z))/\(W<=100000/\W<=200/\W<=200/\W<=200/\200<=200/\200<=200)/\bif RS.e g ==0 then bif RS.o g then bif T then S else U else bif T then U else S else bif T then U else S else bif T then U else S else bif T then U else S else bif T then U else S else bif T then U else S else bif T then U else S else bif T then U else S else bif T then U else S else bif T then U else S else bif T then U else S else bif T then U else S else bif T then U else S else bif T then U else S else bif T then U else S)=aJ (aM [dT,gQ,u7,dC,aSy,i9,lZ,jC,aNO,cQ,lI,l5,aJz] aC) CW [pY k n a b m x y o i c f base W,.sl 2 q.length (iL q W)] (AF (fF T (.ret (.tup [])))):=by subst j h;kernel_rfl
theorem aKv{l:K Z}(h:l.length=2):∃A B,l=[A,B]:=by
 match l,h with
 |[A,B],_=>exact⟨A,B,rfl⟩
theorem bBD{b:N}{P:Prop}(h:b=FV->P)(hn:¬P):b=FT:=by
 simp_all
theorem aGA(n a b q:Z)(c:K Z):wH n a b (q::c)=(V (gcd (pU a b ((n+1)/q).natAbs n) n=1)&&wH n a b c):=rfl
theorem aZp(k n a b m x y o:Z)(i:Bool)(c:F1)(f:F1->MV)(base q:F0 Z)(M:q.length<=90)(w:∀p∈q,2<=p)(_hb:base.length<=100000) :
  ∃E:Env AA,aJ E CX [pY k n a b m x y o i c f base 200,.sl 2 q.length (iL q 200)] (AF (fF (uE n base (dE a b m x y o i) q) (.ret (.tup [])))):=by
 refine⟨aM [aCj,u9,iR,jC,yD,jD,i9,dT,dC,cQ,gQ,aSi,aNK,l5,lI,u7] (aRW n (base.getD 0 0) (base.getD 1 0) base q 200 (wH n (base.getD 0 0) (base.getD 1 0) q)),?_⟩;rw[<-bAw k n a b m x y o i c f base q 200 (base.getD 0 0) (base.getD 1 0) (wH n (base.getD 0 0) (base.getD 1 0) q) (uE n base (dE a b m x y o i) q) _ rfl _ rfl _ rfl _ rfl _ rfl _ rfl _ rfl _ rfl _ rfl];have z:max 200 64+1=201:=rfl;have U:max 30000 64+1=30001:=rfl;rw[dW,z,U];refine⟨by omega,?_⟩;generalize d:uE n base (dE a b m x y o i) q=T;unfold uE at d;cases D:fY n 2 with
 |false=>rw[D]at d;exact pV d.symm
 |true =>
 cases O:dE a b m x y o i with
 |false=>rw[D,O]at d;exact pV d.symm
 |true =>
 rw[D,O]at d;obtain⟨n2,n1⟩:=qN.1 D;rw[Z6,Z6];refine⟨by omega,⟨by omega,by omega,M,λj _=>kL q (by omega) j,w⟩,?_⟩;cases N:b8 (n+1) q with
 |none=>rw[N]at d;exact pV d.symm
 |some F =>
 rw[N]at d;have d:(V (n<(F-1)*(F-1))&&aQ2 n q base)=T:=d;rw[BD,Z6,BM];refine⟨by omega,by omega,by omega,aH (decide_eq_true_iff.trans kK) (λq1=>?_) (λq1=>pV (by rw[<-d,Y1 q1];rfl))⟩;rw[Y0 q1,AB]at d;refine aH beq_iff_eq (λC=>?_) (λC=>pV ?_)
 rotate_left
 .rw[<-d]
  match base,C with
  |[],_=>rfl
  |[_],_=>rfl
  |[_,_],C=>exact W rfl C
  |_::_::_::_,_=>rfl
 obtain⟨A,B,rfl⟩:=aKv (l:=base) (by omega);have d:((V (0<=A)&&V (A<n))&&((V (0<=B)&&V (B<n))&&(V (gA (A*A-4*B) n= -1)&&(V (pU A B (n+1).natAbs n=0)&&wH n A B q))))=T:=d;have Q:[A,B].getD 0 0=A:=rfl;have P:[A,B].getD 1 0=B:=rfl;have t:T=FV->∀j,j<2->0<=[A,B].getD j 0/\[A,B].getD j 0<n:=by
  grind
 have hlen:([A,B]:F0 Z).length=2:=rfl;refine⟨⟨⟨0⟩,⟨Z9 _,λj v=>W v (CD j)⟩,⟨⟨rfl,rfl,AG⟩,rfl,rfl,⟨rfl,rfl,AG⟩,rfl,rfl,⟨⟩⟩,lW,bL,bL,⟨⟩⟩,λj J=>?_⟩;obtain⟨j⟩:=j;obtain⟨v,g⟩:=J;dsimp only at v g⊢;rw[Z8];refine aH Z4 (λK=>?_) (λK=>?_)
 .have e:j<2:=by omega
  have L:FW FU ((j:Z)+1)=((j+1:F1):Z):=by rw[aT (by omega) (by omega)];omega
  refine⟨by omega,aH (decide_eq_true_iff.trans aVg) (λr=>?_) (λr=>pV (bBD (λh=>(t h j e).1) r))⟩;refine⟨by omega,aH (decide_eq_true_iff.trans yZ) (λu=>?_) (λu=>pV (bBD (λh=>(t h j e).2) u))⟩;refine⟨⟨j+1⟩,⟨e,λk hk=>?_⟩,⟨⟨⟨rfl,rfl,AG⟩,rfl,rfl,⟨rfl,rfl,AG⟩,rfl,L,⟨⟩⟩,lW,bL,bL,⟨⟩⟩,by show 2-(j+1)<2-j;omega⟩
  grind
 .have s:j=2:=by omega
  subst s;have I:=g 0 (by omega);have H:=g 1 (by omega);rw[Q]at I;rw[P]at H;rw[Y0 I.1,Y0 I.2,Y0 H.1,Y0 H.2]at d;simp only[AB]at d;have S:[A,B].getD (F6 0) 0=A:=rfl;have R:[A,B].getD (F6 1) 0=B:=rfl;rw[S,R,Q,P];refine⟨by omega,by omega,by omega,by omega,by omega,by omega,by omega,aH beq_iff_eq (λr=>?_) (λr=>pV (by rw[<-d,Y1 r];rfl))⟩;refine⟨by omega,aH Z4 (λu=>?_) (λu=>pV (by rw[<-d,Y0 r,Y1 u];rfl))⟩;rw[Y0 r,Y0 u,AB,AB]at d;rw[<-d];clear d t;refine⟨⟨⟨0⟩,⟨Z9 _,rfl⟩,⟨⟨rfl,rfl,AG⟩,rfl,rfl,rfl,rfl,⟨rfl,rfl,AG⟩,rfl,rfl,⟨⟩⟩,lW,bL,bL,bL,bL,⟨⟩⟩,λj J=>?_⟩;obtain⟨j⟩:=j;obtain⟨v,g⟩:=J;dsimp only at v g⊢;rw[Z8];refine aH Z4 (λK=>?_) (λK=>?_)
  .have e:j<q.length:=by omega
   rw[tK e,aGA]at g;have hp:=w _ (gI e);generalize q.getD j 0=p at *;have L:FW FU ((j:Z)+1)=((j+1:F1):Z):=by rw[aT (by omega) (by omega)];omega
   refine⟨by omega,by omega,by omega,by omega,aH Z4 (λG=>?_) (λG=>pV (by rw[<-g,Y1 G];rfl))⟩;rw[Y0 G,AB]at g;exact⟨⟨j+1⟩,⟨e,g⟩,⟨⟨⟨rfl,rfl,AG⟩,rfl,rfl,rfl,rfl,⟨rfl,rfl,AG⟩,rfl,L,⟨⟩⟩,lW,bL,bL,bL,bL,⟨⟩⟩,by show q.length-(j+1)<q.length-j;omega⟩
  .have s:j=q.length:=by omega
   subst s;rw[AY]at g;exact orT g.symm
def aIz:aF
 |[.st [.int .i64 _,.big n c,.sl 1 _ _,.sl 2 d g,.st [.big a q,.big b p,.big m l],.st [.big x k,.big y j,.bool i],.big o f],.sl 2 e h] =>
  FQ (FQ (kdP q p l k j f c d e g h),fF (uE n (aI d g) (dE a b m x y o i) (aI e h)) (.ret (.tup [])))
 |_=>FR
theorem bDJ:∀l p r,aIz l=FQ (p,r)->p.holds->e9 l->∃ms',kX.leVs 0 l ms'/\∃E:Env AA,aJ E CX ms' r.sat:=by
 intro l p r j A hf;unfold aIz at j;split at j
 .rename_i k n q c f d g a z b w m v x u y t i o s e h;simp only[Z1,Z2]at j;obtain⟨rfl,rfl⟩:=j;have K:kdP z w v u t s q d e g h:=A;exact⟨[pY k n a b m x y o i c f (aI d g) 200,.sl 2 (aI e h).length (iL (aI e h) 200)],⟨sC K.h1 K.h2 K.h3 K.h4 K.h5 K.h6 K.h7 K.hg,aK4 K.hh,⟨⟩⟩,aZp k n a b m x y o i c f _ _ (by rw[aZ];exact K.he) K.h0 (by rw[aZ];exact K.hd)⟩
 .simp at j
def bCc:Ctr AA:=⟨137,aIz,λargs w=>Tryz.call137 args w,gH bR Tryz.func137 aIz bDJ⟩
theorem aPz{a:Z}:c9 a>0↔0<a:=by unfold c9;split<;>(try split)<;>omega
theorem aZn(k n a b m x y o:Z)(i:N)(c:O)(f:O->MV)(base q:K Z)(g:∀p∈q,2<=p) :
  ∃E:Env AA,aJ E CW [pY k n a b m x y o i c f base 200,.sl 2 q.length (iL q 200)] (AF (fF (wZ n base.length a b m x y o i q) (.ret (.tup [])))):=by
 refine⟨aM [dT,gQ,u7,dC,aSy,i9,lZ,jC,aNO,cQ,lI,l5,aJz] aC,?_⟩;rw[<-bAu k n a b m x y o i c f base q 200 (wZ n base.length a b m x y o i q) _ rfl _ rfl];rw[vW,vW];generalize d:wZ n base.length a b m x y o i q=T;refine aH beq_iff_eq (λq1=>?_) (λq1=>pV ?_)
 rotate_left
 .rw[<-d]
  match q,q1 with
  |[],_=>rfl
  |[_],q1=>exact W rfl q1
  |_::_::_,_=>rfl
 obtain⟨p,rfl⟩:∃p,q=[p]:=by
  match q,q1 with
  |[p],_=>exact⟨p,rfl⟩
  |[],h=>exact W h (by decide)
  |_::_::r,h=>exact W h (by simp;omega)
 have l:[p].getD (I 0) 0=p:=rfl;rw[l];have hp:=g p (List.mem_singleton.2 rfl);have hl:(([p]:K Z).length:Z)=1:=rfl;have d:(V (base.length=0)&&(V (3<n)&&(V (gcd n 6=1)&&(grB p n&&(V (m=n)&&(V (gcd (4*(a*(a*a))+27*(b*b)) n=1) &&
   (m5 a b m x y i&&(!i&&(V (0<o)&&(V (o%p=0) &&
    ((V ((bE a b m (o/p) x y i).e=0)&&!(bE a b m (o/p) x y i).o) &&
    (V ((bE a b m p (bE a b m (o/p) x y i).X (bE a b m (o/p) x y i).Y (bE a b m (o/p) x y i).o).e=0) &&
     (bE a b m p (bE a b m (o/p) x y i).X (bE a b m (o/p) x y i).Y (bE a b m (o/p) x y i).o).o))))))))))))=T:=d
 generalize bE a b m (o/p) x y i=P1 at *;generalize bE a b m p P1.X P1.Y P1.o=P2 at *;refine aH beq_iff_eq (λj=>?_) (λj=>pV (by rw[<-d,Y1 (show ¬base.length=0 by omega)];rfl));rw[Y0 (show base.length=0 by omega),AB]at d;refine⟨by omega,by omega,aH (decide_eq_true_iff.trans kK) (λz=>?_) (λz=>pV (by rw[<-d,Y1 z];rfl))⟩;rw[Y0 z,AB]at d;refine⟨by omega,by omega,aH Z4 (λz=>?_) (λz=>pV (by rw[<-d,Y1 z];rfl))⟩;rw[Y0 z,AB]at d;refine⟨by omega,by omega,aH BO (λz=>?_) (λz=>pV (by rw[<-d,AK.2 z];rfl))⟩;rw[z,AB]at d;refine⟨by omega,by omega,by omega,by omega,aH Z4 (λz=>?_) (λz=>pV (by rw[<-d,Y1 z];rfl))⟩;rw[Y0 z,AB]at d;refine⟨by omega,by omega,by omega,by omega,by omega,by omega,aH Z4 (λz=>?_) (λz=>pV (by rw[<-d,Y1 z];rfl))⟩;rw[Y0 z,AB]at d;refine⟨by omega,aH BO (λz=>?_) (λz=>pV (by rw[<-d,AK.2 z];rfl))⟩;rw[z,AB]at d;refine aH BO (λz=>?_) (λz=>pV (by rw[<-d,AK.2 z];rfl));rw[z,AB]at d;refine aH (decide_eq_true_iff.trans aPz) (λz=>?_) (λz=>pV (by rw[<-d,Y1 z];rfl));rw[Y0 z,AB]at d;refine⟨by omega,by omega,aH Z4 (λz=>?_) (λz=>pV (by rw[<-d,Y1 z];rfl))⟩;rw[Y0 z,AB]at d;refine⟨by omega,aH beq_iff_eq (λz=>?_) (λz=>pV (by rw[<-d,Y1 z];rfl))⟩;rw[Y0 z,AB]at d;refine aH BO (λz=>?_) (λz=>pV (by rw[<-d,AK.2 z];rfl));rw[z,AB]at d;refine⟨by omega,by omega,aH beq_iff_eq (λz=>?_) (λz=>pV (by rw[<-d,Y1 z];rfl))⟩;rw[Y0 z,AB]at d;exact aH BO (λz=>orT (d.symm.trans z)) (λz=>pV (d.symm.trans (AK.2 z)))
def aIx:aF
 |[.st [.int .i64 _,.big n c,.sl 1 _ _,.sl 2 d g,.st [.big a q,.big b p,.big m l],.st [.big x k,.big y j,.bool i],.big o f],.sl 2 e h] =>
  FQ (FQ (kdP q p l k j f c d e g h),fF (wZ n d a b m x y o i (aI e h)) (.ret (.tup [])))
 |_=>FR
theorem bDH:∀l p r,aIx l=FQ (p,r)->p.holds->e9 l->∃ms',kX.leVs 0 l ms'/\∃E:Env AA,aJ E CW ms' r.sat:=by
 intro l p r j A hf;unfold aIx at j;split at j
 .rename_i k n q c f d g a z b w m v x u y t i o s e h;simp only[Z1,Z2]at j;obtain⟨rfl,rfl⟩:=j;have K:kdP z w v u t s q d e g h:=A;have:=aZn k n a b m x y o i c f (aI d g) (aI e h) K.h0;rw[aZ d g]at this;exact⟨[pY k n a b m x y o i c f (aI d g) 200,.sl 2 (aI e h).length (iL (aI e h) 200)],⟨sC K.h1 K.h2 K.h3 K.h4 K.h5 K.h6 K.h7 K.hg,aK4 K.hh,⟨⟩⟩,this⟩
 .simp at j
def bCa:Ctr AA:=⟨138,aIx,λargs w=>Tryz.call138 args w,gH bR Tryz.func138 aIx bDH⟩
def aNl(n:Z)(base q:K Z)(W:O)(R:N):O->MS->G LoopAnn
 |7,e=>FQ (.inv WalkI (MnI n base q R) (λs=>⟨96, [(1,.sl 2 q.length (iL q W)),(2,.bp 0 0),(5,.bp 1 0),(6,.bp 2 0),(9,.int .i64 s.i)],
   e.bx.take 3,0⟩) (λs=>base.length-s.i))
 |_,_=>FR
theorem aWl(k n a b m x y o:Z)(i:N)(c:O)(f:O->MV)(base q:K Z)(W:O)(R T:N)(d:_)(e:d=(b8 (n-1) (aI (H q) (iL q W)))):(fP 1/\(W<=1000000/\64<=1000000)/\(max W 64+1<=300/\1<=n-1/\H q<=90/\(∀(i:O),i<H q->isBig 201 (iL q W i))/\∀(q_1:Z),q_1∈aI (H q) (iL q W)->2<=q_1)/\W<=1000000/\bif !fY n 2 then FT=T else bif !Option.isSome d then FT=T else (30000<=1000000/\30000<=1000000)/\(30000+30000<=1000000/\W<=1000000)/\bif V (aX (AQ d 0*AQ d 0) n<=0)then FT=T else bif (H base:Z) != (H q:Z)then FT=T else (W<=1000/\W<=1000/\W<=1000/\W<=1000/\W<=1000/\W<=1000)/\bif !dE a b m x y o i then FT=T else (∃i_1,MnI n base q R i_1/\((2=2/\H q=H q/\LeFun (H q) (iL q W) (iL q W))/\0=0/\0=0/\0=0/\0=(i_1.1:Z)/\S)/\(k=k/\aB n n W W/\(1=1/\c=c/\LeFun c f f)/\(2=2/\H base=H base/\LeFun (H base) (iL base W) (iL base W))/\(aB a a W W/\aB b b W W/\aB m m W W/\S)/\(aB x x W W/\aB y y W W/\i=i/\S)/\aB o o W W/\S)/\aB 1 1 64 64/\aB (n-1) (n-1) (max W 64+1) (max W 64+1)/\S)/\∀(i_1:WalkI),MnI n base q R i_1->bif V ((i_1.1:Z)<(H q:Z))then (0<=(i_1.1:Z)/\(i_1.1:Z)<(H base:Z))/\fP 2/\(W<=1000000/\64<=1000000/\max W 64+1<=1000000)/\bif !(V (2<=J base (I (i_1.1:Z)) 0)&&V (J base (I (i_1.1:Z)) 0<=n-1))then FT=T else (W<=10000/\max W 64+1<=10000/\W<=10000/\0<n)/\(W<=1000000/\64<=1000000)/\bif !decide (fQ (J base (I (i_1.1:Z)) 0) (Q (n-1)) n=1)then FT=T else (0<=(i_1.1:Z)/\(i_1.1:Z)<(H q:Z))/\(max W 64+1<=900000/\W<=900000/\(J q (I (i_1.1:Z)) 0=0->U))/\(W<=10000/\max W 64+1<=10000/\W<=10000/\0<n)/\(W<=1000000/\64<=1000000)/\(max W 64+1<=900000/\W<=900000)/\bif !decide (gcd (fQ (J base (I (i_1.1:Z)) 0) (Q ((n-1)/J q (I (i_1.1:Z)) 0)) n-1) n=1)then FT=T else ∃j,MnI n base q R j/\(((2=2/\H q=H q/\LeFun (H q) (iL q W) (iL q W))/\0=0/\0=0/\0=0/\P FU ((i_1.1:Z)+1)=(j.1:Z)/\S)/\(k=k/\aB n n W W/\(1=1/\c=c/\LeFun c f f)/\(2=2/\H base=H base/\LeFun (H base) (iL base W) (iL base W))/\(aB a a W W/\aB b b W W/\aB m m W W/\S)/\(aB x x W W/\aB y y W W/\i=i/\S)/\aB o o W W/\S)/\aB 1 1 64 64/\aB (n-1) (n-1) (max W 64+1) (max W 64+1)/\S)/\H base-j.1<H base-i_1.1 else FV=T)=aJ (aM [cF,kF,aCk,aCl,eI,iF,tF,aCn,vA,eW,kD,vB] (aNl n base q W R)) C8 [pY k n a b m x y o i c f base W,.sl 2 q.length (iL q W)] (AF (.ret (.bool T))):=by subst e;kernel_rfl
def aNm(n A B:Z)(_base q:K Z)(W:O)(R:N):O->MS->G LoopAnn
 |15,e=>FQ (.inv WalkI (PlI n A B q R) (λs=>⟨129, [(1,.sl 2 q.length (iL q W)),(2,.bp 0 0),(5,.bp 1 0),(6,.bp 2 0),(11,.bp 6 0),(12,.bp 7 0),(13,.int .i64 s.i)],
   e.bx.take 8,0⟩) (λs=>q.length-s.i))
 |_,_=>FR
theorem aWn(k n a b m x y o:Z)(i:N)(c:O)(f:O->MV)(base q:K Z)(W:O)(A B:Z)(R T:N)(l:_)(w:l=(b8 (n+1) (aI (H q) (iL q W))))(h:_)(v:h=(J base (I 0) 0))(g:_)(u:g=(J base (I 1) 0))(e:_)(t:e=(AQ l 0-1))(d:_)(s:d=(max W 64+1))(p:_)(r:p=(H base:Z)):(fP 1/\(W<=1000000/\64<=1000000)/\(max W 64+1<=300/\1<=n+1/\H q<=90/\(∀(i:O),i<H q->isBig 201 (iL q W i))/\∀(q_1:Z),q_1∈aI (H q) (iL q W)->2<=q_1)/\W<=1000000/\bif !fY n 2 then FT=T else bif !Option.isSome l then FT=T else bif p != 2 then FT=T else (W<=1000/\W<=1000/\W<=1000/\W<=1000/\W<=1000/\W<=1000)/\bif !dE a b m x y o i then FT=T else (30000<=1000000/\64<=1000000)/\(W<=1000000/\64<=1000000)/\(max 30000 64+1<=1000000/\max 30000 64+1<=1000000)/\(max 30000 64+1+(max 30000 64+1)<=1000000/\W<=1000000)/\bif V (aX (e * e) n<=0)then FT=T else ((0:Z)<=0/\0< p)/\(W<=1000000/\0<=1000000/\max W 64+1<=1000000)/\bif !(V (0<=J base (I 0) 0)&&V (J base (I 0) 0<=n-1))then FT=T else ((0:Z)<=1/\1< p)/\(W<=1000000/\0<=1000000/\max W 64+1<=1000000)/\bif !(V (0<=J base (I 1) 0)&&V (J base (I 1) 0<=n-1))then FT=T else ((0:Z)<=0/\0< p)/\((0:Z)<=1/\1< p)/\(W<=1000000/\W<=1000000)/\fP 4/\(64<=1000000/\W<=1000000)/\(W+W<=1000000/\64+W<=1000000)/\(max (W+W) (64+W)+1<=200000/\W<=200000)/\bif gA (J base (I 0) 0*J base (I 0) 0-4*J base (I 1) 0) n != (-1)then FT=T else (W<=100000/\W<=100000/\max W 64+1<=100000/\W<=100000/\(n=0->U))/\bif V ((H (aA (Q (pU h g (Q (n+1)) n))):Z)>0)then FT=T else (∃i_1,PlI n A B q R i_1/\((2=2/\H q=H q/\LeFun (H q) (iL q W) (iL q W))/\0=0/\0=0/\0=0/\0=0/\0=0/\0=(i_1.1:Z)/\S)/\(k=k/\aB n n W W/\(1=1/\c=c/\LeFun c f f)/\(2=2/\H base=H base/\LeFun (H base) (iL base W) (iL base W))/\(aB a a W W/\aB b b W W/\aB m m W W/\S)/\(aB x x W W/\aB y y W W/\i=i/\S)/\aB o o W W/\S)/\aB 1 1 64 64/\aB (n+1) (n+1) d d/\aB (AQ l 0) (AQ l 0) 30000 30000/\aB e e (max 30000 64+1) (max 30000 64+1)/\aB (n-1) (n-1) d d/\aB h h W W/\aB g g W W/\S)/\∀(i_1:WalkI),PlI n A B q R i_1->bif V ((i_1.1:Z)<(H q:Z))then (0<=(i_1.1:Z)/\(i_1.1:Z)<(H q:Z))/\(max W 64+1<=900000/\W<=900000/\(J q (I (i_1.1:Z)) 0=0->U))/\(W<=100000/\W<=100000/\max W 64+1<=100000/\W<=100000/\(n=0->U))/\(W+64<=900000/\W<=900000)/\bif !decide (gcd (pU h g (Q ((n+1)/J q (I (i_1.1:Z)) 0)) n) n=1)then FT=T else ∃j,PlI n A B q R j/\(((2=2/\H q=H q/\LeFun (H q) (iL q W) (iL q W))/\0=0/\0=0/\0=0/\0=0/\0=0/\P FU ((i_1.1:Z)+1)=(j.1:Z)/\S)/\(k=k/\aB n n W W/\(1=1/\c=c/\LeFun c f f)/\(2=2/\H base=H base/\LeFun (H base) (iL base W) (iL base W))/\(aB a a W W/\aB b b W W/\aB m m W W/\S)/\(aB x x W W/\aB y y W W/\i=i/\S)/\aB o o W W/\S)/\aB 1 1 64 64/\aB (n+1) (n+1) d d/\aB (AQ l 0) (AQ l 0) 30000 30000/\aB e e (max 30000 64+1) (max 30000 64+1)/\aB (n-1) (n-1) d d/\aB h h W W/\aB g g W W/\S)/\H q-j.1<H q-i_1.1 else FV=T)=aJ (aM [cF,kF,gE,aCk,aCl,eI,iF,tF,aCn,aJB,aNT,kD,vB] (aNm n A B base q W R)) C7 [pY k n a b m x y o i c f base W,.sl 2 q.length (iL q W)] (AF (.ret (.bool T))):=by subst w v u t s r;kernel_rfl
theorem jU{b:N}{p A B:Prop}(h:b=FV↔p)(t:p->B)(f:¬p->A):bif !b then A else B:=by
 grind
theorem aBh{n:Z}:∀ {l:K Z} {o F:Z},mH n l o=FQ F->∀q∈l,n%q=0
 |[],_,_,_,_,h=>W h List.not_mem_nil
 |p::r,o,F,a,q,h=>by
  unfold mH at a;split at a
  .rename_i b;rcases DC.1 h with rfl|h
   .exact b
   .exact aBh a q h
  .cases a
theorem aO8(a m:Z)(i j:O):fQ (fQ a i m) j m=fQ a (i*j) m:=by
 grind [fQ,aZz,Int.pow_mul]
theorem aUR{n p B:Z}(_hn:2<n)(_hp:2<=p)(h:(n-1)%p=0):fQ (fQ B ((n-1)/p).natAbs n) p.natAbs n=fQ B (n-1).natAbs n:=by
 rw[aO8];have e:p*((n-1)/p)=n-1:=by have:=A8 (n-1) p;omega
 rw[<-DE,DR,e]
theorem aUX(k n a b m x y o:Z)(i:N)(c:O)(f:O->MV)(base q:F0 Z)(hn:2<=n)(w:q.length<=90)(g:∀p∈q,2<=p)(_hb:base.length<=100000) :
  ∃E:Env AA,aJ E C8 [pY k n a b m x y o i c f base 200,.sl 2 q.length (iL q 200)] (AF (.ret (.bool (tZ n base (dE a b m x y o i) q)))):=by
 refine⟨aM [cF,kF,aCk,aCl,eI,iF,tF,aCn,vA,eW,kD,vB] (aNl n base q 200 (xN n base q)),?_⟩;rw[<-aWl k n a b m x y o i c f base q 200 (xN n base q) (tZ n base (dE a b m x y o i) q) _ rfl];have l:max 200 64+1=201:=rfl;rw[dW,l];refine⟨by omega,by omega,⟨by omega,by omega,w,λj _=>kL q (by omega) j,g⟩,by omega,?_⟩;generalize d:tZ n base (dE a b m x y o i) q=T;unfold tZ at d;cases v:fY n 2 with
 |false=>rw[v]at d;exact d
 |true =>
 obtain⟨I,n1⟩:=qN.1 v;rw[v,AB]at d;rw[AO,Z5];cases u:b8 (n-1) q with
 |none=>rw[u,AP]at d;exact d
 |some F =>
 rw[u]at d;have d:(dE a b m x y o i&&(V (n<F*F)&&(V (base.length=q.length)&&xN n base q)))=T:=d;rw[BD,AO,Z5,BM];refine⟨by omega,by omega,aH (decide_eq_true_iff.trans tR) (λq1=>by rw[<-d,Y1 (show ¬n<F*F by omega),AH,AP]) (λq1=>?_)⟩;rw[Y0 (show n<F*F by omega),AB]at d;refine aH bne_iff_ne (λH=>by rw[<-d,Y1 (show ¬base.length=q.length by omega),AH,AP]) (λH=>?_);have C:base.length=q.length:=by omega
 rw[Y0 C,AB]at d;refine⟨by omega,?_⟩;cases D:dE a b m x y o i with
 |false=>rw[D]at d;exact d
 |true =>
 rw[D,AB]at d;rw[AO,Z5,<-d];clear d;refine⟨⟨⟨0⟩,⟨Z9 _,rfl⟩,⟨⟨rfl,rfl,AG⟩,rfl,rfl,rfl,rfl,⟨⟩⟩,lW,bL,bL,⟨⟩⟩,λj J=>?_⟩;obtain⟨j⟩:=j;obtain⟨L,e⟩:=J;dsimp only at L e⊢;rw[Z8];refine aH Z4 (λG=>?_) (λG=>?_)
 .have h:j<base.length:=by omega
  rw[tK h,tK (show j<q.length by omega),aGl]at e;have K:=g _ (gI (show j<q.length by omega));have A:=aBh u _ (gI (show j<q.length by omega));generalize base.getD j 0=B at *;generalize q.getD j 0=p at *;rw[aUR I K A]at e;have M:P FU ((j:Z)+1)=((j+1:O):Z):=by rw[aT (by omega) (by omega)];omega
  refine⟨by omega,by omega,by omega,jU (p:=1<B/\B<=n-1) (by rw[Z3,Z4,Z4];omega) (λt=>?_) (λt=>?_)⟩
  .rw[Y0 t.1,Y0 t.2,AB,AB]at e;refine⟨by omega,by omega,jU Z4 (λs=>?_) (λs=>by rw[<-e,Y1 s,AP,AH])⟩;rw[Y0 s,Bool.and_true]at e;refine⟨by omega,by omega,by omega,by omega,by omega,jU Z4 (λr=>?_) (λr=>by rw[<-e,Y1 r,AH])⟩;rw[Y0 r,AB]at e;exact⟨⟨j+1⟩,⟨h,e⟩,⟨⟨⟨rfl,rfl,AG⟩,rfl,rfl,rfl,M,⟨⟩⟩,lW,bL,bL,⟨⟩⟩,by show base.length-(j+1)<base.length-j;omega⟩
  grind
 .have z:j=base.length:=by omega
  subst z;rw[AY]at e;exact e
def aDe:aF
 |[.st [.int .i64 _,.big n c,.sl 1 _ _,.sl 2 d g,.st [.big a q,.big b p,.big m l],.st [.big x k,.big y j,.bool i],.big o f],.sl 2 e h] =>
  FQ (FQ (kdP q p l k j f c d e g h/\2<=n),.ret (.bool (tZ n (aI d g) (dE a b m x y o i) (aI e h))))
 |_=>FR
theorem aY4:∀l p r,aDe l=FQ (p,r)->p.holds->e9 l->∃ms',kX.leVs 0 l ms'/\∃E:Env AA,aJ E C8 ms' r.sat:=by
 intro l p r j q hf;unfold aDe at j;split at j
 .rename_i k n w7 c f d g a w1 b w2 m w3 x w4 y w5 i o w6 e h;simp only[Z1,Z2]at j;obtain⟨rfl,rfl⟩:=j;obtain⟨K,s⟩:=q;exact⟨[pY k n a b m x y o i c f (aI d g) 200,.sl 2 (aI e h).length (iL (aI e h) 200)],⟨sC K.h1 K.h2 K.h3 K.h4 K.h5 K.h6 K.h7 K.hg,aK4 K.hh,⟨⟩⟩,aUX k n a b m x y o i c f _ _ s (by rw[aZ];exact K.he) K.h0 (by rw[aZ];exact K.hd)⟩
 .simp at j
def aXl:Ctr AA:=⟨65,aDe,λargs w=>Tryz.call65 args w,gH bR Tryz.func65 aDe aY4⟩
theorem aUY(k n a b m x y o:Z)(i:Bool)(c:F1)(f:F1->MV)(base q:F0 Z)(hn:2<=n)(H:q.length<=90)(r:∀p∈q,2<=p)(_hb:base.length<=100000) :
  ∃E:Env AA,aJ E C7 [pY k n a b m x y o i c f base 200,.sl 2 q.length (iL q 200)] (AF (.ret (.bool (uE n base (dE a b m x y o i) q)))):=by
 refine⟨aM [cF,kF,gE,aCk,aCl,eI,iF,tF,aCn,aJB,aNT,kD,vB] (aNm n (base.getD 0 0) (base.getD 1 0) base q 200 (wH n (base.getD 0 0) (base.getD 1 0) q)),?_⟩;rw[<-aWn k n a b m x y o i c f base q 200 (base.getD 0 0) (base.getD 1 0) (wH n (base.getD 0 0) (base.getD 1 0) q) (uE n base (dE a b m x y o i) q) _ rfl _ rfl _ rfl _ rfl _ rfl _ rfl];have s:max 200 64+1=201:=rfl;have U:max 30000 64+1=30001:=rfl;rw[dW,s,U];refine⟨by omega,by omega,⟨by omega,by omega,H,λj _=>kL q (by omega) j,r⟩,by omega,?_⟩;generalize d:uE n base (dE a b m x y o i) q=T;unfold uE at d;cases G:fY n 2 with
 |false=>rw[G]at d;exact d
 |true =>
 obtain⟨n2,n1⟩:=qN.1 G;rw[G,AB]at d;rw[AO,Z5];cases K:b8 (n+1) q with
 |none=>rw[K,AP]at d;exact d
 |some F =>
 rw[K]at d;have d:(dE a b m x y o i&&(V (n<(F-1)*(F-1))&&aQ2 n q base))=T:=d;rw[BD,AO,Z5,BM];refine aH bne_iff_ne (λv=>?_) (λv=>?_)
 .rw[<-d];have:aQ2 n q base=FT:=by
   match base,v with
   |[],_=>rfl
   |[_],_=>rfl
   |[_,_],v=>exact W rfl v
   |_::_::_::_,_=>rfl
  simp_all
 obtain⟨A,B,rfl⟩:=aKv (l:=base) (by omega);refine⟨by omega,?_⟩;cases L:dE a b m x y o i with
 |false=>rw[L]at d;exact d
 |true =>
 rw[L,AB]at d;rw[AO,Z5];refine⟨by omega,by omega,by omega,by omega,aH (decide_eq_true_iff.trans tR) (λq1=>by rw[<-d,Y1 (show ¬n<(F-1)*(F-1) by omega),AH]) (λq1=>?_)⟩;rw[Y0 (show n<(F-1)*(F-1) by omega),AB]at d;have d:((V (0<=A)&&V (A<n))&&((V (0<=B)&&V (B<n))&&(V (gA (A*A-4*B) n= -1)&&(V (pU A B (n+1).natAbs n=0)&&wH n A B q))))=T:=d;have R:[A,B].getD 0 0=A:=rfl;have Q:[A,B].getD 1 0=B:=rfl;have N:[A,B].getD (F6 0) 0=A:=rfl;have M:[A,B].getD (F6 1) 0=B:=rfl;have hlen:([A,B]:F0 Z).length=2:=rfl;rw[N,M,R,Q];have out:∀ {C:Z},¬(0<=C/\C<n)->(V (0<=C)&&V (C<n))=FT:=λh=>by
  simp_all
 refine⟨by omega,by omega,jU (p:=0<=A/\A<n) (by rw[Z3,Z4,Z4];omega) (λu=>?_) (λu=>by rw[<-d,out u,AH])⟩;rw[Y0 u.1,Y0 u.2,AB,AB]at d;refine⟨by omega,by omega,jU (p:=0<=B/\B<n) (by rw[Z3,Z4,Z4];omega) (λt=>?_) (λt=>by rw[<-d,out t,AH])⟩;rw[Y0 t.1,Y0 t.2,AB,AB]at d;refine⟨by omega,by omega,by omega,by omega,by omega,by omega,by omega,aH bne_iff_ne (λD=>by rw[<-d,Y1 D,AH]) (λD=>?_)⟩;rw[Y0 (BY.1 D),AB]at d;refine⟨by omega,aH (decide_eq_true_iff.trans xK) (λz=>by rw[<-d,Y1 z,AH]) (λz=>?_)⟩;rw[Y0 (BY.1 z),AB]at d;rw[<-d];clear d;refine⟨⟨⟨0⟩,⟨Z9 _,rfl⟩,⟨⟨rfl,rfl,AG⟩,rfl,rfl,rfl,rfl,rfl,rfl,⟨⟩⟩,lW,bL,bL,bL,bL,bL,bL,bL,⟨⟩⟩,λj J=>?_⟩;obtain⟨j⟩:=j;obtain⟨P,e⟩:=J;dsimp only at P e⊢;rw[Z8];refine aH Z4 (λO=>?_) (λO=>?_)
 .have g:j<q.length:=by omega
  rw[tK g,aGA]at e;have hp:=r _ (gI g);generalize q.getD j 0=p at *;have S:FW FU ((j:Z)+1)=((j+1:F1):Z):=by rw[aT (by omega) (by omega)];omega
  refine⟨by omega,by omega,by omega,by omega,jU Z4 (λw=>?_) (λw=>by rw[<-e,Y1 w,AH])⟩;rw[Y0 w,AB]at e;exact⟨⟨j+1⟩,⟨g,e⟩,⟨⟨⟨rfl,rfl,AG⟩,rfl,rfl,rfl,rfl,rfl,S,⟨⟩⟩,lW,bL,bL,bL,bL,bL,bL,bL,⟨⟩⟩,by show q.length-(j+1)<q.length-j;omega⟩
 .have I:j=q.length:=by omega
  subst I;rw[AY]at e;exact e
def aDg:aF
 |[.st [.int .i64 _,.big n c,.sl 1 _ _,.sl 2 d g,.st [.big a q,.big b p,.big m l],.st [.big x k,.big y j,.bool i],.big o f],.sl 2 e h] =>
  FQ (FQ (kdP q p l k j f c d e g h/\2<=n),.ret (.bool (uE n (aI d g) (dE a b m x y o i) (aI e h))))
 |_=>FR
theorem aY6:∀l p r,aDg l=FQ (p,r)->p.holds->e9 l->∃ms',kX.leVs 0 l ms'/\∃E:Env AA,aJ E C7 ms' r.sat:=by
 intro l p r j q hf;unfold aDg at j;split at j
 .rename_i k n w7 c f d g a w1 b w2 m w3 x w4 y w5 i o w6 e h;simp only[Z1,Z2]at j;obtain⟨rfl,rfl⟩:=j;obtain⟨K,s⟩:=q;exact⟨[pY k n a b m x y o i c f (aI d g) 200,.sl 2 (aI e h).length (iL (aI e h) 200)],⟨sC K.h1 K.h2 K.h3 K.h4 K.h5 K.h6 K.h7 K.hg,aK4 K.hh,⟨⟩⟩,aUY k n a b m x y o i c f _ _ s (by rw[aZ];exact K.he) K.h0 (by rw[aZ];exact K.hd)⟩
 .simp at j
def aXm:Ctr AA:=⟨66,aDg,λargs w=>Tryz.call66 args w,gH bR Tryz.func66 aDg aY6⟩
def aBo:aF
 |[.st [.big A i,.big B j,.big M k],.big z t,.st [.big b n,.big a m,.bool c]] =>
  FQ (FQ (t<=100000/\i<=200/\j<=200/\k<=200/\n<=200/\m<=200),.ret (aVr (oL A B M z b a c)))
 |_=>FR
theorem aRF:∀a p r,aBo a=FQ (p,r)->p.holds->∃p' r',uQ a=FQ (p',r')/\p'.holds/\∀b w e,r'.holds b w e->r.holds b w e:=by
 intro a p r h c;unfold aBo at h;split at h
 .rename_i A i B j M k z t px n py m po;simp only[Z1,Z2]at h;obtain⟨rfl,rfl⟩:=h;refine⟨_,_,rfl,c,λb w e h=>?_⟩;rw[vW];exact h
 .simp at h
def aFR:Ctr AA:=aSH.weaken aBo aRF
theorem aWi(k n a b m x y o:Z)(i:N)(c:O)(f:O->MV)(base q:K Z)(W:O)(T:N)(d:_)(j:d=(oL a b m (o/J q (I 0) 0) x y i))(g:_)(h:g=(oL a b m (J q (I 0) 0) (RS.X d) (RS.Y d) (RS.o d))):(fP 3/\(W<=1000000/\64<=1000000)/\bif V (aX n 3<=0)then FT=T else fP 6/\(W<=900000/\64<=900000)/\bif !decide (gcd n 6=1)then FT=T else bif (H q:Z) != 1 then FT=T else bif V ((H base:Z)>0)then FT=T else ((0:Z)<=0/\0<(H q:Z))/\(W<=100000/\W<=100000)/\bif !grB (J q (I 0) 0) n then FT=T else (W<=1000000/\W<=1000000)/\bif !decide (m=n)then FT=T else (W<=1000/\W<=1000/\W<=1000)/\bif !cI a b m then FT=T else (W<=200/\W<=200/\W<=200)/\bif !pE a b m then FT=T else (W<=200/\W<=200/\W<=200/\W<=200/\W<=200)/\bif !m5 a b m x y i then FT=T else bif i then FT=T else bif V (c9 o<=0)then FT=T else ((0:Z)<=0/\0<(H q:Z))/\(W<=900000/\W<=900000/\(J q (I 0) 0=0->U))/\bif V ((H (aA (Q (o%J q (I 0) 0))):Z)>0)then FT=T else ((0:Z)<=0/\0<(H q:Z))/\(W<=900000/\W<=900000/\(J q (I 0) 0=0->U))/\(W<=100000/\W<=200/\W<=200/\W<=200/\W<=200/\W<=200)/\bif RS.e d != 0 then FT=T else bif RS.o d then FT=T else ((0:Z)<=0/\0<(H q:Z))/\(W<=100000/\W<=200/\W<=200/\W<=200/\200<=200/\200<=200)/\bif RS.e g ==0 then RS.o g =T else FT=T)=aJ (aM [iF,cF,vB,aHl,eW,yF,aHb,aNU,eC,dM,kD,aFR] aC) C6 [pY k n a b m x y o i c f base W,.sl 2 q.length (iL q W)] (AF (.ret (.bool T))):=by subst j h;kernel_rfl
theorem aQT{a b m x y:Z}{i:N}(h:m5 a b m x y i=FV):cI a b m=FV:=by
 grind [cI,m5]
theorem aUV(k n a b m x y o:Z)(i:N)(c:O)(f:O->MV)(base q:K Z)(l:∀p∈q,2<=p) :
  ∃E:Env AA,aJ E C6 [pY k n a b m x y o i c f base 200,.sl 2 q.length (iL q 200)] (AF (.ret (.bool (wZ n base.length a b m x y o i q)))):=by
 refine⟨aM [iF,cF,vB,aHl,eW,yF,aHb,aNU,eC,dM,kD,aFR] aC,?_⟩;rw[<-aWi k n a b m x y o i c f base q 200 (wZ n base.length a b m x y o i q) _ rfl _ rfl];rw[vW,vW];generalize d:wZ n base.length a b m x y o i q=T;have g:q.length=1->wZ n base.length a b m x y o i q=(V (base.length=0)&&(V (3<n)&&(V (gcd n 6=1)&&(grB (q.getD 0 0) n&&(V (m=n)&&(pE a b m &&
   (m5 a b m x y i&&(!i&&(V (0<o)&&(V (o%q.getD 0 0=0) &&
    ((V ((bE a b m (o/q.getD 0 0) x y i).e=0)&&!(bE a b m (o/q.getD 0 0) x y i).o) &&
    (V ((bE a b m (q.getD 0 0) (bE a b m (o/q.getD 0 0) x y i).X (bE a b m (o/q.getD 0 0) x y i).Y (bE a b m (o/q.getD 0 0) x y i).o).e=0) &&
     (bE a b m (q.getD 0 0) (bE a b m (o/q.getD 0 0) x y i).X (bE a b m (o/q.getD 0 0) x y i).Y (bE a b m (o/q.getD 0 0) x y i).o).o)))))))))))):=λh=>by
  match q,h with
  |[p],_ =>
   show(V (base.length=0)&&(V (3<n)&&(V (gcd n 6=1)&&(grB p n&&(V (m=n)&&(V (gcd (4*(a*(a*a))+27*(b*b)) n=1)&&_))))))=_;by_cases t:m=n
   .subst t;rfl
   simp_all
 have j:q.length≠1->wZ n base.length a b m x y o i q=FT:=λh=>by
  match q,h with
  |[],_=>rfl
  |[_],h=>exact W rfl h
  |_::_::_,_=>rfl
 have r:q.getD (I 0) 0=q.getD 0 0:=rfl;rw[r];by_cases s:q.length=1
 .rw[g s]at d;have hp:=l _ (gI (show 0<q.length by omega));generalize q.getD 0 0=p at *;clear g j r;generalize bE a b m (o/p) x y i=P1 at *;generalize bE a b m p P1.X P1.Y P1.o=P2 at *;refine⟨by omega,by omega,aH (decide_eq_true_iff.trans tR) (λz=>by rw[<-d,Y1 (show ¬ 3<n by omega),AH,AP]) (λz=>?_)⟩;rw[Y0 (show 3<n by omega),AB]at d;refine⟨by omega,by omega,jU Z4 (λz=>?_) (λz=>by rw[<-d,Y1 z,AH,AP])⟩;rw[Y0 z,AB]at d;refine aH bne_iff_ne (λz=>W (by omega) z) (λ_=>?_);refine aH Z4 (λz=>by rw[<-d,Y1 (show ¬base.length=0 by omega),AH]) (λz=>?_);rw[Y0 (show base.length=0 by omega),AB]at d;refine⟨by omega,by omega,jU BO (λz=>?_) (λz=>by rw[<-d,AK.2 z,AH])⟩;rw[z,AB]at d;refine⟨by omega,jU Z4 (λz=>?_) (λz=>by rw[<-d,Y1 z,AH])⟩;rw[Y0 z,AB]at d;refine⟨by omega,jU BO (λhcv=>?_) (λz=>?_)⟩
  rotate_left
  .grind [m5,aQT]
  refine⟨by omega,jU BO (λz=>?_) (λz=>by rw[<-d,AK.2 z,AH])⟩;rw[z,AB]at d;refine⟨by omega,jU BO (λz=>?_) (λz=>by rw[<-d,AK.2 z,AH])⟩;rw[z,AB]at d;cases i with
  |true=>exact d
  |false =>
  rw[BH,AB]at d;rw[Z5];refine aH (decide_eq_true_iff.trans (show c9 o<=0↔¬ 0<o by have:=aPz (a:=o);omega)) (λz=>by rw[<-d,Y1 z,AH]) (λz=>?_)
  grind [xK,BH]
 .grind
def aDc:aF
 |[.st [.int .i64 _,.big n c,.sl 1 _ _,.sl 2 d g,.st [.big a q,.big b p,.big m l],.st [.big x k,.big y j,.bool i],.big o f],.sl 2 e h] =>
  FQ (FQ (kdP q p l k j f c d e g h),.ret (.bool (wZ n d a b m x y o i (aI e h))))
 |_=>FR
theorem aY1:∀l p r,aDc l=FQ (p,r)->p.holds->e9 l->∃ms',kX.leVs 0 l ms'/\∃E:Env AA,aJ E C6 ms' r.sat:=by
 intro l p r j A hf;unfold aDc at j;split at j
 .rename_i k n q c f d g a z b w m v x u y t i o s e h;simp only[Z1,Z2]at j;obtain⟨rfl,rfl⟩:=j;have K:kdP z w v u t s q d e g h:=A;have:=aUV k n a b m x y o i c f (aI d g) (aI e h) K.h0;rw[aZ d g]at this;exact⟨[pY k n a b m x y o i c f (aI d g) 200,.sl 2 (aI e h).length (iL (aI e h) 200)],⟨sC K.h1 K.h2 K.h3 K.h4 K.h5 K.h6 K.h7 K.hg,aK4 K.hh,⟨⟩⟩,this⟩
 .simp at j
def aXk:Ctr AA:=⟨67,aDc,λargs w=>Tryz.call67 args w,gH bR Tryz.func67 aDc aY1⟩
def Ctr.conv{P:Program}(c:Ctr P)(spec:aF)(h:∀a p r,spec a=FQ (p,r)->p.holds->e9 a->∃ms' p',kX.leVs 0 a ms'/\c.spec ms'=FQ (p',r)/\p'.holds):Ctr P :=
 ⟨c.f,spec,c.call,λS w a args p r d e g j b=>by
  obtain⟨ms',p',n,m,l⟩:=h a p r d e (RepAll.facts a _ b);have k:Cuts 0 (B8 S) (B8 S):=⟨λ_ h=>h,λ_ h=>h,λi hi=>by omega⟩;exact c.ok S w ms' args p' r m l g j (qJ k a ms' _ n b)⟩
def cV(g:N)(l:K Z):Z:=if g then-(wv l)else wv l
structure okN (g:Bool) (l:List Int):Prop where
 wd:Wd l
 len:l.length<=6
 can:mO g l=true
theorem rT{g:N}{l:K Z}(h:okN g l):eV 0 (.st [.bool g,.ws l]) (.big (cV g l) 200):=by
 obtain⟨d,c⟩:=aFT (s:=⟨0,g,l, [], [],0,0,0,0,0,FT,0⟩) h.wd h.can;refine⟨d,c,?_⟩;have b:=vT h.wd;have a:(cV g l).natAbs=(wv l).natAbs:=by unfold cV;cases g<;>simp
 rw[a];exact Nat.lt_of_lt_of_le b (AN (by omega) (by have:=h.len;omega))
def aLj:aF
 |[.big a n,.st [.bool g,.ws l]]=>FQ (FQ (n<=1000/\okN g l),.ret (.bool (V (a=cV g l))))
 |_=>FR
def aJL:Ctr AA:=eW.conv aLj λms p r h b hf=>by
 unfold aLj at h;split at h
 .rename_i a n g l;simp only[Z1,Z2]at h;obtain⟨rfl,rfl⟩:=h;obtain⟨h1,c⟩:n<=1000/\okN g l:=b;exact⟨[.big a n,.big (cV g l) 200],_,⟨bL,rT c,⟨⟩⟩,rfl,by omega,by omega⟩
 .simp at h
structure PaS where
 k:Nat
 q:List Int
structure PaI (ns parts:List Int) (R:Option (List Int)) (s:PaS):Prop where
 hk:s.k<=parts.length
 hr:b9 ns (parts.drop s.k) s.q=R
 hq:s.q.length=s.k
structure PbI (n:Nat) (f:Nat->MV) (N:Int) (s:WalkI):Prop where
 hi:s.i<=n
 hn:∀x,x<s.i->wK (f x)≠N
def aFA(L:K Stp)(i:O)(a parts:K Z)(R:G (K Z)):O->MS->G LoopAnn
 |3,_=>FQ (.inv PaS (PaI a parts R) (λs=>⟨61, [(0,.sl 18 L.length (aG L 200)),(1,.int .i64 i),(6,.bs 0 0 s.q.length),(7,.int .i64 s.k)], [⟨FT,.rows 2 s.q.length (iL s.q 200)⟩],0⟩) (λs=>parts.length-s.k))
 |9,e=>(match bG 8 e.tm,e.bx with
  |.int _ j, [⟨_,.rows _ n f⟩]=>FQ (.inv WalkI (PbI n f (L.getD j.toNat aD).n) (λs=>⟨61, [(0,.sl 18 L.length (aG L 200)),(1,.int .i64 i),(6,bG 6 e.tm),(7,bG 7 e.tm),(8,bG 8 e.tm),(9,.int .i64 s.i)],e.bx,0⟩) (λs=>n-s.i))
  |_,_=>FR)
 |_,_=>FR
def aUt(R:G (K Z)):MRes:= .br R.isSome (.ret (.tup [.sl 2 (R.getD []).length (iL (R.getD []) 200),.bool FV])) (.ret (.tup [.val (.slice FR 0 0),.bool FT]))
theorem aM2(L:K Stp)(i:O)(g parts:K Z)(R:G (K Z))(e:_)(o:e=λ(i_1:PaS)=>(I (PaS.k i_1:Z)))(a:_)(m:a=λ(i_1:PaS)=>(PaS.q i_1))(b:_)(l:b=(i:Z))(c:_)(p:c=(Stp.parts (J L (I b) aD)))(d:_)(r:d=λ(i_1:PaS)=>(J L (I (J c (e i_1) 0)) aD))(f:_)(h:f=(AQ R [])):((∃i_1,PaI g parts R i_1/\((18=18/\H L=H L/\LeFun (H L) (aG L 200) (aG L 200))/\b = b/\(0=0/\0=H (a i_1))/\0=(PaS.k i_1:Z)/\S)/\(0=H (a i_1)/\LeFun 0 (aV []) (iL (a i_1) 200))/\S)/\∀(i_1:PaS),PaI g parts R i_1->(0<= b/\b <(H L:Z))/\bif V ((PaS.k i_1:Z)<(H c :Z))then (0<= b/\b <(H L:Z))/\(0<=(PaS.k i_1:Z)/\(PaS.k i_1:Z)<(H c :Z))/\bif V (J c (e i_1) 0<0)then bif AU R then (AJ FR 0 0=AJ FR 0 0/\H f =0)/\FT=FV/\S else AJ FR 0 0=AJ FR 0 0/\FT=FT/\S else bif V (J c (e i_1) 0≥ b)then bif AU R then (AJ FR 0 0=AJ FR 0 0/\H f =0)/\FT=FV/\S else AJ FR 0 0=AJ FR 0 0/\FT=FT/\S else (∃i_2,PbI (H (a i_1)) (iL (a i_1) 200) (Stp.n (d i_1)) i_2/\((18=18/\H L=H L/\LeFun (H L) (aG L 200) (aG L 200))/\b = b/\(0=0/\H (a i_1) =H (a i_1))/\(PaS.k i_1:Z)=(PaS.k i_1:Z)/\J c (e i_1) 0=J c (e i_1) 0/\0=(i_2.1:Z)/\S)/\(H (a i_1) =H (a i_1)/\LeFun (H (a i_1)) (iL (a i_1) 200) (iL (a i_1) 200))/\S)/\∀(i_2:WalkI),PbI (H (a i_1)) (iL (a i_1) 200) (Stp.n (d i_1)) i_2->bif V ((i_2.1:Z)<(H (a i_1) :Z))then (0<=(i_2.1:Z)/\(i_2.1:Z)<(H (a i_1) :Z))/\I (i_2.1:Z)<H (a i_1)/\(0<=J c (e i_1) 0/\J c (e i_1) 0<(H L:Z))/\(200<=1000/\okN (Stp.neg (d i_1)) (Stp.mag (d i_1)))/\bif V (J (a i_1) (I (i_2.1:Z)) 0=cV (Stp.neg (d i_1)) (Stp.mag (d i_1)))then bif AU R then (AJ FR 0 0=AJ FR 0 0/\H f =0)/\FT=FV/\S else AJ FR 0 0=AJ FR 0 0/\FT=FT/\S else ∃j,PbI (H (a i_1)) (iL (a i_1) 200) (Stp.n (d i_1)) j/\(((18=18/\H L=H L/\LeFun (H L) (aG L 200) (aG L 200))/\b = b/\(0=0/\H (a i_1) =H (a i_1))/\(PaS.k i_1:Z)=(PaS.k i_1:Z)/\J c (e i_1) 0=J c (e i_1) 0/\P FU ((i_2.1:Z)+1)=(j.1:Z)/\S)/\(H (a i_1) =H (a i_1)/\LeFun (H (a i_1)) (iL (a i_1) 200) (iL (a i_1) 200))/\S)/\H (a i_1)-j.1<H (a i_1)-i_2.1 else (0<=J c (e i_1) 0/\J c (e i_1) 0<(H L:Z))/\(1<=1/\H (a i_1) <=H (a i_1)/\(H (a i_1) +AW (News.rows 2 1 (aV [MV.st [MV.bool (Stp.neg (d i_1)),MV.ws (Stp.mag (d i_1))]])))*32<=140737488355328)/\∃j,PaI g parts R j/\(((18=18/\H L=H L/\LeFun (H L) (aG L 200) (aG L 200))/\b = b/\(0=0/\H (a i_1) +AW (News.rows 2 1 (aV [MV.st [MV.bool (Stp.neg (d i_1)),MV.ws (Stp.mag (d i_1))]]))=H (PaS.q j))/\P FU ((PaS.k i_1:Z)+1)=(PaS.k j:Z)/\S)/\(H (a i_1) +1=H (PaS.q j)/\LeFun (H (a i_1) +1) (λq=>bif BZ q (H (a i_1))then iL (a i_1) 200 q else aV [MV.st [MV.bool (Stp.neg (d i_1)),MV.ws (Stp.mag (d i_1))]] (q-H (a i_1))) (iL (PaS.q j) 200))/\S)/\H parts-PaS.k j<H parts-PaS.k i_1 else H (a i_1) <=H (a i_1)/\bif AU R then (2=2/\H (a i_1) =H f/\LeFun (H (a i_1)) (iL (a i_1) 200) (iL f 200))/\FV=FV/\S else U/\FV=FT/\S)=aJ (aM [aJL] (aFA L i g parts R)) DA [.sl 18 L.length (aG L 200),.int .i64 i] (AF (aUt R)):=by subst o m l p r h;kernel_rfl
theorem aUs{R:G (K Z)}(h:R=FR):bif R.isSome then ((AJ FR 0 0=AJ FR 0 0/\(R.getD []).length=0)/\FT=FV/\S)else (AJ FR 0 0=AJ FR 0 0/\FT=FT/\S):=by
 simp_all
theorem oN(a:K Z)(j:Z)(r q:K Z):b9 a (j::r) q=g (V (0<=j)&&(V (j<a.length)&&!(q.elem (a.getD j.toNat 0)))) (b9 a r (q++[a.getD j.toNat 0])) FR:=rfl
theorem aA7(l:K Z){m:MV}{z:Z}(h:eV 0 m (.big z 200)):LeFun (l.length+1) (λq=>bif BZ q l.length then iL l 200 q else aV [m] (q-l.length)) (iL (l++[z]) 200):=by
 refine CI λq hq=>?_;show eV 0 (bif BZ q l.length then iL l 200 q else aV [m] (q-l.length)) (.big ((l++[z]).getD q 0) 200);by_cases a:q<l.length
 .have:BZ q l.length=FV:=by simpa [CT]using a
  rw[this,Z6];have e:(l++[z]).getD q 0=l.getD q 0:=by rw[CE,CE,List.getElem?_append_left a]
  rw[e];exact⟨rfl,.inl (Z0 _)⟩
 .have:BZ q l.length=FT:=by
   grind [BZ,CT]
  rw[this,Z5];have e:q-l.length=0:=by omega
  have b:(l++[z]).getD q 0=z:=by
   simp_all
  rw[e,b];exact h
def nums(L:K Stp):K Z:=L.map Stp.n
theorem aGu{L:K Stp}{i j:O}(hi:i<=L.length)(h:j<i):(nums (L.take i)).getD j 0=(L.getD j aD).n:=by
 grind [nums]
theorem aKL{L:K Stp}{i:O}(hi:i<=L.length):(nums (L.take i)).length=i:=by
 simp[nums];omega
theorem aMG(L:F0 Stp)(i:F1)(T:i<L.length)(_hL:L.length<=1000000)(d:∀j,j<L.length->okS (L.getD j aD))(U:∀j,j<i->(L.getD j aD).can=FV) :
  ∃E:Env AA,aJ E DA [.sl 18 L.length (aG L 200),.int .i64 i] (AF (aUt (b9 (nums (L.take i)) (L.getD i aD).parts []))):=by
 refine⟨aM [aJL] (aFA L i (nums (L.take i)) (L.getD i aD).parts (b9 (nums (L.take i)) (L.getD i aD).parts [])),?_⟩;rw[<-aM2 L i (nums (L.take i)) (L.getD i aD).parts (b9 (nums (L.take i)) (L.getD i aD).parts []) _ rfl _ rfl _ rfl _ rfl _ rfl _ rfl];rw[Z8];have hnl:=aKL (L:=L) (i:=i) (by omega);have hpl:=(d i T).parts;have y:∀j,j<i->(nums (L.take i)).getD j 0=(L.getD j aD).n:=λj h=>aGu (by omega) h;generalize nums (L.take i)=l at *;generalize (L.getD i aD).parts=P at *;refine⟨⟨⟨0, []⟩,⟨Z9 _,rfl,rfl⟩,⟨⟨rfl,rfl,AG⟩,rfl,⟨rfl,rfl⟩,rfl,⟨⟩⟩,⟨rfl,CI λ_ h=>W h (CD _)⟩,⟨⟩⟩,λs J=>?_⟩;obtain⟨k,q⟩:=s;obtain⟨S,a,G⟩:=J;dsimp only at S a G⊢;rw[Z8];generalize hR:b9 l P []=R at *;refine⟨by omega,aH Z4 (λq1=>?_) (λq1=>?_)⟩
 .have e:k<P.length:=by omega
  rw[tK e,oN]at a;generalize P.getD k 0=j at *;refine⟨by omega,by omega,aH Z4 (λM=>aUs ?_) (λM=>aH Z4 (λK=>aUs ?_) (λK=>?_))⟩
  .grind
  .grind
  obtain⟨u,rfl⟩:∃u:F1,j=u:=⟨j.toNat,by omega⟩;rw[Z8]at a⊢;rw[Y0 (show(0:Z)<=u by omega),Y0 (show(u:Z)<(l.length:Z) by omega),y u (by omega),AB,AB]at a;have F:=d u (by omega);have B:=U u (by omega);have H:okN (L.getD u aD).neg (L.getD u aD).mag:=⟨F.wd,F.len,B⟩;have N:cV (L.getD u aD).neg (L.getD u aD).mag=(L.getD u aD).n:=rfl;have f:=rT H;rw[N]at f⊢;generalize (L.getD u aD).n=z at *;generalize (L.getD u aD).neg=g at *;generalize (L.getD u aD).mag=mg at *;refine⟨⟨⟨0⟩,⟨Z9 _,λx c=>W c (CD x)⟩,⟨⟨rfl,rfl,AG⟩,rfl,⟨rfl,rfl⟩,rfl,rfl,rfl,⟨⟩⟩,⟨rfl,AG⟩,⟨⟩⟩,λt J=>?_⟩;obtain⟨t⟩:=t;obtain⟨O,c⟩:=J;dsimp only at O c⊢;rw[Z8];refine aH Z4 (λI=>?_) (λI=>?_)
  .have m:FW FU ((t:Z)+1)=((t+1:F1):Z):=by rw[aT (by omega) (by omega)];omega
   refine⟨by omega,by omega,by omega,⟨by omega,H⟩,aH Z4 (λD=>aUs ?_) (λD=>?_)⟩
   .grind
   .refine⟨⟨t+1⟩,⟨by show t+1<=_;omega,λx (p:x<t+1)=>?_⟩,⟨⟨⟨rfl,rfl,AG⟩,rfl,⟨rfl,rfl⟩,rfl,rfl,m,⟨⟩⟩,⟨rfl,AG⟩,⟨⟩⟩,by show q.length-(t+1)<q.length-t;omega⟩;by_cases o:x<t
    .exact c x o
    .have:x=t:=by omega
     subst this;exact D
  .have v:t=q.length:=by omega
   subst v;have:q.elem z=FT:=by
    rw[List.elem_eq_contains,AK,Ne,List.contains_iff_mem];intro Q;obtain⟨x,r,p⟩:=CL.1 Q;refine c x r ?_;show q.getD x 0=z
    grind
   rw[this]at a;have a:b9 l (P.drop (k+1)) (q++[z])=R:=a;have m:FW FU ((k:Z)+1)=((k+1:F1):Z):=by rw[aT (by omega) (by omega)];omega
   have w:AW (News.rows 2 1 (aV [MV.st [MV.bool g,MV.ws mg]]))=1:=rfl;rw[w];have b:(q++[z]).length=q.length+1:=by simp
   have C:=aA7 q f;refine⟨by omega,⟨Z0 _,Z0 _,by omega⟩,⟨k+1,q++[z]⟩,⟨e,a,by rw[b,G]⟩,⟨⟨⟨rfl,rfl,AG⟩,rfl,⟨rfl,b.symm⟩,m,⟨⟩⟩,⟨b.symm,C⟩,⟨⟩⟩,by show P.length-(k+1)<P.length-k;omega⟩
 .have A:k=P.length:=by omega
  subst A;rw[AY]at a;have a:FQ q=R:=a
  grind [AG]
def wA:aF
 |[.sl 18 n f,.int .i64 i]=>FQ (FQ (0<=i/\i<n/\n<=1000000/\(∀j,j<n->isStp 200 (f j))/\(∀s∈aE n f,okS s)/\(∀s∈(aE n f).take i.toNat,s.can=FV)),
   aUt (b9 (nums ((aE n f).take i.toNat)) ((aE n f).getD i.toNat aD).parts []))
 |_=>FR
theorem aQW:∀b p r,wA b=FQ (p,r)->p.holds->e9 b->∃ms',kX.leVs 0 b ms'/\∃E:Env AA,aJ E DA ms' r.sat:=by
 intro b p r a c hf;unfold wA at a;split at a
 .rename_i n f i;simp only[Z1,Z2]at a;obtain⟨rfl,rfl⟩:=a;obtain⟨h1,h2,h3,k,h,g⟩:=c;obtain⟨i,rfl⟩:∃u:O,i=u:=⟨i.toNat,by omega⟩;rw[Z8]at *;have d:=dF n f;refine⟨[.sl 18 (aE n f).length (aG (aE n f) 200),.int .i64 i],⟨⟨rfl,d.symm,jK k⟩,rfl,⟨⟩⟩,aMG (aE n f) i (by omega) (by omega) (λj e=>h _ ?_) (λj e=>g _ ?_)⟩
  all_goals grind [List.getElem?_eq_getElem,List.getElem_mem,aE,CL]
 .simp at a
def aFO:Ctr AA:=⟨62,wA,λargs w=>Tryz.call62 args w,gH bR Tryz.func62 wA aQW⟩
def aEJ(z:Z):N×K Z:=if z.natAbs<2^200 then (V (z<0),aA z.natAbs)else (FT, [])
def aEH(l:K (N×K Z)):O->MV:=λi=>.st [.bool (l.getD i (FT, [])).1,.ws (l.getD i (FT, [])).2]
def pW(s:Stp):K (N×K Z):=(s.neg,s.mag)::([s.ca,s.cb,s.cm,s.x,s.y,s.ord]++s.base).map aEJ
structure CnI (s:Stp) (w:WalkI):Prop where
 hi:w.i<=7+s.base.length
 hc:0<w.i->s.can=true
def aNh(s:Stp):O->MS->G LoopAnn
 |3,e=>(match bG 3 e.tm with
  |.bs b _ n=>FQ (.inv WalkI (CnI s) (λi=>⟨40, [(1,.bp 0 0),(2,.bool FT),(3,.bs b 0 n),(4,.int .i64 i.i)],aU e.bx b ⟨FT,.rows 2 n (aEH (pW s))⟩,0⟩) (λi=>7+s.base.length-i.i))
  |_=>FR)
 |_,_=>FR
theorem aWf(s:Stp)(T:N)(a:_)(e:a=(Stp.base s))(b:_)(f:b=(News.rows 2 (H a) (iL a 200)))(c:_)(d:c=(Stp.parts s)):((7<=7/\(7+AW b)*32<=140737488355328)/\(∃i,CnI s i/\(0=0/\FT=FT/\(0=0/\7+AW b =7+AW b)/\0=(i.1:Z)/\S)/\(Stp.kind s=Stp.kind s/\(Stp.neg s=Stp.neg s/\Stp.mag s=Stp.mag s/\S)/\(1=1/\H c =H c/\LeFun (H c) (bI c) (bI c))/\(2=2/\H a =H a/\LeFun (H a) (iL a 200) (iL a 200))/\(aB (Stp.ca s) (Stp.ca s) 200 200/\aB (Stp.cb s) (Stp.cb s) 200 200/\aB (Stp.cm s) (Stp.cm s) 200 200/\S)/\(aB (Stp.x s) (Stp.x s) 200 200/\aB (Stp.y s) (Stp.y s) 200 200/\Stp.inf s=Stp.inf s/\S)/\aB (Stp.ord s) (Stp.ord s) 200 200/\S)/\(7+H a =7+AW b/\LeFun (7+H a) (λq=>bif BZ q 7 then aV [MV.st [MV.bool (Stp.neg s),MV.ws (Stp.mag s)],MV.big (Stp.ca s) 200,MV.big (Stp.cb s) 200,MV.big (Stp.cm s) 200,MV.big (Stp.x s) 200,MV.big (Stp.y s) 200,MV.big (Stp.ord s) 200] q else iL a 200 (q-7)) (aEH (pW s)))/\S)/\∀(i:WalkI),CnI s i->bif V ((i.1:Z)<(↑(7+AW b):Z))then (0<=(i.1:Z)/\(i.1:Z)<(↑(7+AW b):Z))/\I (i.1:Z)<7+AW b/\H (AE (J (pW s) (I (i.1:Z)) (FT, [])))<=1000000/\bif !mO (AD (J (pW s) (I (i.1:Z)) (FT, []))) (AE (J (pW s) (I (i.1:Z)) (FT, [])))then FT=T else ∃j,CnI s j/\((0=0/\FT=FT/\(0=0/\7+AW b =7+AW b)/\P FU ((i.1:Z)+1)=(j.1:Z)/\S)/\(Stp.kind s=Stp.kind s/\(Stp.neg s=Stp.neg s/\Stp.mag s=Stp.mag s/\S)/\(1=1/\H c =H c/\LeFun (H c) (bI c) (bI c))/\(2=2/\H a =H a/\LeFun (H a) (iL a 200) (iL a 200))/\(aB (Stp.ca s) (Stp.ca s) 200 200/\aB (Stp.cb s) (Stp.cb s) 200 200/\aB (Stp.cm s) (Stp.cm s) 200 200/\S)/\(aB (Stp.x s) (Stp.x s) 200 200/\aB (Stp.y s) (Stp.y s) 200 200/\Stp.inf s=Stp.inf s/\S)/\aB (Stp.ord s) (Stp.ord s) 200 200/\S)/\(7+AW b =7+AW b/\LeFun (7+AW b) (aEH (pW s)) (aEH (pW s)))/\S)/\7+H a-j.1<7+H a-i.1 else FV=T)=aJ (aM [aFS] (aNh s)) C9 [sB s 200] (AF (.ret (.bool T))):=by subst e f d;kernel_rfl
theorem aK6(z:Z):(aEJ z).2.length<=7:=by
 unfold aEJ;split
 .rename_i h;have:=bP h;omega
 simp
theorem n8(z:Z):mO (V (z<0)) (aA z.natAbs)=FV:=by
 unfold mO;by_cases h:aA z.natAbs=[]
 .grind [bY]
 .have a:(((aA z.natAbs).length:Z)==0)=FT:=by
   simp_all
  rw[a,Z5,bne_iff_ne];have h2:=aEg _ h
  grind
theorem aK5(z:Z):mO (aEJ z).1 (aEJ z).2=FV:=by
 unfold aEJ;split
 .exact n8 z
 .rfl
theorem aGF(s:Stp):(pW s).getD 0 (FT, [])=(s.neg,s.mag):=rfl
theorem aEI(s:Stp){i:O}(h:i+1<7+s.base.length):∃z,(pW s).getD (i+1) (FT, [])=aEJ z/\([s.ca,s.cb,s.cm,s.x,s.y,s.ord]++s.base).getD i 0=z:=by
 refine⟨_,?_,rfl⟩;show(([s.ca,s.cb,s.cm,s.x,s.y,s.ord]++s.base).map aEJ).getD i (FT, [])=_
 grind
theorem aZB{z:Z}(c:Ctx)(w:L)(a:K F)(h:RepC c w (.big z 200) a):RepC c w (.st [.bool (aEJ z).1,.ws (aEJ z).2]) a:=by
 obtain⟨s,rfl,d,b⟩:=h;have e:aEJ z=(V (z<0),aA z.natAbs):=if_pos d;rw[e];exact⟨[.bool (V (z<0))], [s],rfl,rfl, [s], [],rfl,⟨s,rfl,b⟩,rfl⟩
theorem aO9(s:Stp):LeFun (7+s.base.length) (λq=>bif BZ q 7 then aV [.st [.bool s.neg,.ws s.mag],.big s.ca 200,.big s.cb 200,.big s.cm 200,.big s.x 200,.big s.y 200,.big s.ord 200] q else iL s.base 200 (q-7)) (aEH (pW s)):=by
 refine⟨λi a c w b r=>?_⟩;show RepC c w (.st [.bool ((pW s).getD i (FT, [])).1,.ws ((pW s).getD i (FT, [])).2]) b
 match i,a,r with
 |0,_,r=>exact r
 |j+1,a,r =>
  obtain⟨z,e,d⟩:=aEI s a;rw[e];refine aZB c w b ?_;rw[<-d]
  match j,a,r with
  |0,_,r=>exact r
  |1,_,r=>exact r
  |2,_,r=>exact r
  |3,_,r=>exact r
  |4,_,r=>exact r
  |5,_,r=>exact r
  |k+6,_,r=>exact r
theorem aUT(s:Stp)(h:okS s):∃E:Env AA,aJ E C9 [sB s 200] (AF (.ret (.bool s.can))):=by
 refine⟨aM [aFS] (aNh s),?_⟩;rw[<-aWf s s.can _ rfl _ rfl _ rfl];have g:AW (News.rows 2 s.base.length (iL s.base 200))=s.base.length:=rfl;rw[g];have hb:=h.base;have hm:=h.len;refine⟨⟨Z0 _,by omega⟩,⟨⟨0⟩,⟨Z9 _,λh=>W h (Nat.lt_irrefl 0)⟩,⟨rfl,rfl,⟨rfl,rfl⟩,rfl,⟨⟩⟩,⟨rfl,⟨rfl,rfl,⟨⟩⟩,⟨rfl,rfl,AG⟩,⟨rfl,rfl,AG⟩,⟨bL,bL,bL,⟨⟩⟩,⟨bL,bL,rfl,⟨⟩⟩,bL,⟨⟩⟩,⟨rfl,aO9 s⟩,⟨⟩⟩,λi I=>?_⟩;obtain⟨i⟩:=i;obtain⟨e,d⟩:=I;dsimp only at e d⊢;rw[Z8];refine aH Z4 (λq1=>?_) (λq1=>?_)
 .have a:i<7+s.base.length:=by omega
  have f:P FU ((i:Z)+1)=((i+1:O):Z):=by rw[aT (by omega) (by omega)];omega
  have c:s.can=FV->∃j,CnI s j/\(((0:O)=0/\FT=FT/\((0:O)=0/\7+s.base.length=7+s.base.length)/\P FU ((i:Z)+1)=(j.i:Z)/\S)/\(s.kind=s.kind/\(s.neg=s.neg/\s.mag=s.mag/\S)/\((1:O)=1/\s.parts.length=s.parts.length/\LeFun s.parts.length (bI s.parts) (bI s.parts))/\((2:O)=2/\s.base.length=s.base.length/\LeFun s.base.length (iL s.base 200) (iL s.base 200))/\(aB s.ca s.ca 200 200/\aB s.cb s.cb 200 200/\aB s.cm s.cm 200 200/\S)/\(aB s.x s.x 200 200/\aB s.y s.y 200 200/\s.inf=s.inf/\S)/\aB s.ord s.ord 200 200/\S)/\(7+s.base.length=7+s.base.length/\LeFun (7+s.base.length) (aEH (pW s)) (aEH (pW s)))/\S)/\7+s.base.length-j.i<7+s.base.length-i:=λb =>
   ⟨⟨i+1⟩,⟨a,λ_=>b⟩,⟨⟨rfl,rfl,⟨rfl,rfl⟩,f,⟨⟩⟩,⟨rfl,⟨rfl,rfl,⟨⟩⟩,⟨rfl,rfl,AG⟩,⟨rfl,rfl,AG⟩,⟨bL,bL,bL,⟨⟩⟩,⟨bL,bL,rfl,⟨⟩⟩,bL,⟨⟩⟩,⟨rfl,AG⟩,⟨⟩⟩,by show 7+s.base.length-(i+1)<7+s.base.length-i;omega⟩
  refine⟨by omega,by omega,?_⟩
  match i,a,d,c with
  |0,_,_,c =>
   rw[aGF];refine⟨by show s.mag.length<=_;omega,jU BO (λz=>c z) (λz=>(AK.2 z).symm)⟩
  |i+1,a,d,c =>
   grind [aEI,aK6,aK5]
 grind
structure rawS (m:MV) (P:Stp->Prop):Prop where
 h:∃s,m=sB s 200/\okS s/\P s
def bFy(_:Stp):Prop:=True
def aC9:aF
 |[.st [.int .i64 k,.st [.bool g,.ws l],.sl 1 c f,.sl 2 d h,.st [.big a p,.big b n,.big m w3],.st [.big x j,.big y e,.bool i],.big o w6]] =>
  FQ (FQ (rawS (.st [.int .i64 k,.st [.bool g,.ws l],.sl 1 c f,.sl 2 d h,.st [.big a p,.big b n,.big m w3],.st [.big x j,.big y e,.bool i],.big o w6]) bFy),.ret (.bool (mO g l)))
 |_=>FR
theorem aYY:bC C9 aC9:=by
 intro ms p r a b;unfold aC9 at a;split at a
 .simp only[Z1,Z2]at a;obtain⟨rfl,rfl⟩:=a;obtain⟨⟨s,e,ok,_⟩⟩:=b;unfold sB at e;cases e;exact aUT s ok
 .simp at a
def aNR:Ctr AA:=⟨63,aC9,λargs w=>Tryz.call63 args w,aN bR Tryz.func63 aC9 aYY⟩
end
end Go.Proofs.YtkejceafemeifaaGreatDoor
