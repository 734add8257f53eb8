/-
  Contracts of functions: algoristref07.parts, canonical.
-/
import Derived.Test.YtkejceafemeifaaGreatDoorS3
import Derived.Test.YtkejceafemeifaaGreatDoorS2
import Derived.Tactics
import Derived.Tactics2
import Derived.Defers
import Derived.Recover
import Derived.Laws.Pointers

namespace Go.Proofs.YtkejceafemeifaaGreatDoor
set_option linter.defProp false
set_option linter.unusedVariables false
set_option linter.unusedSimpArgs false
open Go Go.RowKit
open Go.IntKind (wrap i64 i32 i16 i8 u64 u32 u16 u8)
open Int (toNat natAbs)
open List (length take drop getD set replicate)
open BitVec (ofInt)
open Int (gcd tmod tdiv fdiv)
open Go.Proofs.Tryz renaming prog->AA,f116->BV,f194->CV,f166->CW,f138->CX,f137->CY,f136->CZ,f101->C0,results203->C4,f67->C7,f66->C8,f65->C9,f63->DA,f62->DB,ntmps203->DC,func203->DH,func116->DI,f204->D1,f203->D2,f201->D3,f196->D4,f195->D5,f193->D6,f192->D7,f191->D8,f190->D9,f189->EA,f188->EB,f187->EC,f186->ED,f185->EE,f175->EF,f174->EG,f173->EH,f172->EI,f171->EJ,f170->EK,f169->EL,f168->EM,f167->EN,f165->EO,f164->EP,f144->EQ,f143->ER,f142->ES,f141->ET,f140->EU,f139->EV,f135->EW,f119->EX,f118->EY,f109->EZ,f108->E0,f107->E1,f106->E2,f105->E3,f104->E4,f103->E5,f102->E6,f100->E7,f96->E9,f95->FA,f81->FB,f77->FC,f76->FD,f74->FE,f64->FF,f56->FG,f53->FH,f52->FI,f51->FJ,f49->FK,f38->FL
open Bool renaming true_and->AB,false_and->AH,eq_false_iff->AK,not_true->AO,cond_decide->AR,and_false->A1,eq_iff_iff->BD,not_false->BK,not_eq_true'->BO,or_eq_true->C6
open Go.IntKind renaming bits->AC
open Prod renaming fst->AD,snd->AE
open cj renaming sat->AF,holds->DZ
open ak renaming refl->AG,of_le->CJ
open BitVec renaming toNat->AI
open Go.Value renaming slice->AJ,pointer->A7,iface->DG
open Int renaming natAbs_natCast->AL,emod_lt_of_pos->AM,emod_nonneg->AS,mul_assoc->AZ,add_mul_emod_self_left->A2,one_mul->A5,emod_add_mul_ediv->A9,sub_emod->BH,mul_emod->BI,tmod_lt_of_pos->BM,tmod_eq_emod_of_nonneg->BN,le_refl->BP,dvd_mul_of_dvd_right->BR,eq_ofNat_of_zero_le->BS,emod_eq_zero_of_dvd->BT,mul_le_mul->BY,emod_emod_of_dvd->BZ,emod_def->B8,mul_neg->CC,pow_succ->CK,dvd_refl->CL,natAbs_neg->DE,natAbs_mul->DF,zero_emod->DK,zero_mul->DN,pow_zero->DO,neg_tmod->DP,mul_zero->DR,mul_comm->DS,le_trans->DT,le_of_lt->DU,pow_add->D0
open Nat renaming pow_le_pow_right->AN,div_div_eq_div_mul->AQ,mul_le_mul_left->AU,pow_zero->AW,pow_succ->AY,pow_mod->A4,eq_of_beq_eq_true->A8,mod_eq_of_lt->BA,div_eq_of_lt->BB,mul_comm->BG,lt_of_le_of_lt->BL,mod_lt->BU,pow_mul->BW,div_one->BX,blt->B1,pow_succ'->B2,mul_assoc->B3,dvd_trans->B4,one_le_two_pow->B6,strongRecOn->CD,not_lt_zero->CE,lt_or_ge->CG,le_trans->CH,add_zero->CI,one_pow->CN,one_mul->CO,mul_one->CP,mul_le_mul_right->CQ,Coprime->CR,eq_zero_or_pos->CT,blt_eq->CU,gcd_dvd_right->C1,gcd_dvd_left->C5,le_of_dvd->DJ,zero_add->DL,gcd_comm->DM,pow_two->DV,pow_one->DW,pow_add->DX,mul_mod->DY,gcd->FP,beq->FQ
open Option renaming getD->AP,isSome->AT,getD_some->A6,isSome_some->BF
open bh renaming len->AV
open List renaming drop_length->AX,length_pos_iff->BE,getD_eq_getElem?_getD->BJ,ext_getElem->CB,getElem?_eq_getElem->CF,mem_iff_getElem->CM,range->CS,mem_cons->DD
open _root_.Array renaming getD_eq_getD_getElem?->A0,replicate->C3
open Nat.Coprime renaming dvd_of_dvd_mul_left->A3,pow_right->E8
open Iff renaming rfl->BQ
open Classical renaming not_not->B0,choose_spec->FM,choose->FN,byContradiction->FO
open Go.Deferred renaming ofValue->B5
open List.cons renaming injEq->B7
open Ctx renaming args->B9,res->C2
open Go.Act renaming eval->CA
open _root_ renaming Int->Z,True->Q,Nat->U,False->J,Bool->N,List->P,Option->G,if_neg->X,absurd->W,cond->g,if_pos->Y,Array->F0,List->F1,Nat->F2,False->F3,Int->F4
open Decidable renaming decide->V,decide->f,decide->FY
open List renaming length->H,getD->K
open Int renaming natAbs->S,toNat->I,tmod->T,tdiv->D,tdiv->F5,toNat->F7
open Go.IntKind renaming wrap->O,u32->FT,i64->FV,wrap->FX,u64->F6
open BitVec renaming ofInt->R
open Go renaming World->L,Value->F,TypeId->FZ
open Option renaming some->FR,none->Do
open Bool renaming false->FU,true->FW
noncomputable section
def En:aG
 |[.aa a n]=>FR (FR (n<=1000000),.ret (.bool (V (a%2=1))))
 |_=>Do
def ahs(a:Z)(n:U):(bif V ((H (aA (S a)):Z)>0)then ((0:Z)<=0/\0<(H (aA (S a)):Z))/\(O FT (AI (R (AC FT) (K (aA (S a)) (I 0) 0) &&&R (AC FT) 1):Z)==1)=V (a%2=1)else FU=V (a%2=1))=aI (aK [] aC) EE [.aa a n] (AF (.ret (.bool (V (a%2=1))))):=by kernel_rfl
def El:aG
 |[.aa a n,.aa b m]=>FR (FR (n<=900000/\m<=900000/\b≠0),.ret (.aa (a/b) n))
 |_=>Do
def ahp(a b:Z)(n m:U):((n<=900000/\m<=900000/\(b=0->J))/\a/b=a/b/\(n<=n\/S (a/b)<2^n))=aI (aK [kI] aC) D3 [.aa a n,.aa b m] (AF (.ret (.aa (a/b) n))):=by kernel_rfl
def k0:U->U->U
 |0,_=>0
 |f+1,n=>if n%2=0 then k0 f (n/2)+1 else 0
def v2(n:U):U:=k0 n n
def age:∀(f g n:U),n<=f->n<=g->n≠0->k0 f n=k0 g n:=by
 intro f
 induction f with
 |zero=>intro g n h _ a;omega
 |succ f ih =>
  intro g n h hg a;obtain⟨k,rfl⟩:∃k,g=k+1:=⟨g-1,by omega⟩;simp only[k0]
  grind
def aj0(f n:U)(h:n<=f:=by omega)(a:n≠0:=by omega):k0 f n=k0 n n:=age f n n h (Z0 _) a
def Em:aG
 |[.aa a n,.int .u32 m]=>FR (FR (n<=1000000/\(m=4\/m=8)),.ret (.int .u32 (a%m)))
 |_=>Do
def ahq(a m:Z)(n:U)(b:_)(c:b=(K (aA (S a)) (I 0) 0)):(bif (H (aA (S a)):Z)==0 then 0=a%m else ((0:Z)<=0/\0<(H (aA (S a)):Z))/\(m=0->J)/\bif V (a<0)then bif V (T b m>0)then O FT (m-T b m)=a%m else T b m=a%m else T b m=a%m)=aI (aK [] aC) EC [.aa a n,.int .u32 m] (AF (.ret (.int .u32 (a%m)))):=by subst c;kernel_rfl
def afm(n:U):(O FT ((R (AC FT) ((aA n).getD 0 0) &&&R (AC FT) 1).toNat:Z)==1)=V (n%2=1):=by
 rw[pI,AW,BX,kU _ (BU _ (by omega))]
 grind
def ajH:bC EE En:=by
 intro ms p r h hp;unfold En at h;split at h
 .rename_i a n;cases h;refine⟨aK [] aC,?_⟩;rw[<-ahs a n,mY,show I (0:Z)=0 from rfl,afm,AR]
  grind [aA,bW,BE]
 .simp at h
def Dq:ah AA:=⟨185,En,λargs w=>Tryz.call185 args w,aO bQ Tryz.func185 En ajH⟩
def ajE:bC D3 El:=by
 intro ms p r h c;unfold El at h;split at h
 .rename_i a n b m;cases h;obtain⟨hn,hm,hb⟩:=c;refine⟨aK [kI] aC,?_⟩;rw[<-ahp a b n m];omega
 .simp at h
def Si:ah AA:=⟨201,El,λargs w=>Tryz.call201 args w,aO bQ Tryz.func201 El ajE⟩
def ajF:dL EC Em:=by
 intro ms p r h b hf;unfold Em at h;split at h
 .rename_i a n m;cases h;obtain⟨hn,hm⟩:=b;refine⟨aK [] aC,?_⟩;rw[<-ahq a m n _ rfl,lC,show I (0:Z)=0 from rfl,pI,AW,BX]
  grind [T,aA,bW,BE,w?]
 .simp at h
def Sj:ah AA:=⟨187,Em,λargs w=>Tryz.call187 args w,aP bQ Tryz.func187 Em ajF⟩
theorem De{n:U}(h:n≠0)(a:n%2=0):v2 n=v2 (n/2)+1:=by
 obtain⟨m,rfl⟩:∃m,n=m+1:=⟨n-1,by omega⟩;show k0 (m+1) (m+1)=_;rw[k0,Y a,aj0 _ _];rfl
theorem vk{n:U}(h2:n%2=1):v2 n=0:=by
 obtain⟨m,rfl⟩:∃m,n=m+1:=⟨n-1,by omega⟩;show k0 (m+1) (m+1)=_;rw[k0,X (by omega)]
def Be:aG
 |[.aa a n]=>FR (FR (n<=900000/\a≠0),.ret (.tup [.aa (a/2^v2 a.natAbs) n,.int .i64 (v2 a.natAbs)]))
 |_=>Do
structure e! where
 k:Nat
 x:Int
def Wk(a:Z)(s:e!):Prop:=s.x≠0/\a=s.x*2^s.k
def Qk(a:Z)(n:U):U->MS->G bt
 |2,_=>FR (.inv e! (Wk a) (λs=>⟨15, [(1,.bp 0 0),(2,.bp 1 0),(4,.int .i64 s.k)], [⟨FU,.one (.aa s.x n)⟩,⟨FU,.one (.aa 0 0)⟩],0⟩) (λs=>s.x.natAbs))
 |_,_=>Do
def acC(a:Z)(n:U):((∃i,((e!.x i=0->J)/\a=e!.x i*2^e!.k i)/\(0=0/\0=0/\0=(e!.k i:Z)/\Q)/\aD a (e!.x i) n n/\aD 0 0 0 0/\Q)/\∀(i:e!),(e!.x i=0->J)/\a=e!.x i*2^e!.k i->n<=1000000/\bif !decide (e!.x i%2=1)then fX 2/\(n<=900000/\64<=900000/\((2:Z)=0->J))/\∃j,((e!.x j=0->J)/\a=e!.x j*2^e!.k j)/\((0=0/\0=0/\O FV ((e!.k i:Z)+1)=(e!.k j:Z)/\Q)/\aD (e!.x i/2) (e!.x j) n n/\aD 0 0 0 0/\Q)/\S (e!.x j)<S (e!.x i)else aD (e!.x i) (a/2^v2 (S a)) n n/\(e!.k i:Z)=(v2 (S a):Z)/\Q)=aI (aK [Dq,sr,Si] (Qk a n)) ED [.aa a n] (AF (.ret (.tup [.aa (a/2^v2 a.natAbs) n,.int .i64 (v2 a.natAbs)]))):=by kernel_rfl
def ajZ{n:U}:∀k x:U,x≠0->n=x*2^k->v2 n=v2 x+k:=by
 intro k
 induction k generalizing n with
 |zero=>intro x _ h;rw[h,AW,CP,CI]
 |succ k ih =>
  intro x hx h;have a:x*2≠0:=by omega
  have b:n=x*2*2^k:=by rw[h,AY,B3,BG 2]
  rw[ih (x*2) a b,De a (by omega),Nat.mul_div_cancel _ (by omega)];omega
def aeX:dL ED Be:=by
 intro ms p r h i j;unfold Be at h;split at h
 .rename_i a n;cases h;obtain⟨hn,l⟩:=i;have hb:a.natAbs<2^n:=j.1;refine⟨aK [Dq,sr,Si] (Qk a n),?_⟩;rw[<-acC a n];refine⟨⟨⟨0,a⟩,⟨l,by simp⟩,(by and_intros<;>first|exact⟨⟩|rfl|omega),⟨rfl,.inl (Z0 _)⟩,⟨rfl,.inl (Z0 _)⟩,⟨⟩⟩,?_⟩
  rintro⟨k,x⟩ ⟨d,b⟩
  have d:x≠0:=d;have b:a=x*2^k:=b;have c:a.natAbs=x.natAbs*2^k:=by rw[b,DF,Int.natAbs_pow];rfl
  have arC:k<=n:=by
   rcases CG n k with q|q
   .have f:2^n<=2^k:=AN (by omega) (by omega);have m:1*2^k<=x.natAbs*2^k:=CQ _ (by omega);omega
   .exact q
  have asi:x.natAbs<2^n:=by
   have f:1<=2^k:=B6;have m:x.natAbs*1<=x.natAbs*2^k:=AU _ f;omega
  refine⟨by omega,?_⟩;dsimp only;by_cases e:x%2=1
  .rw[Y0 e];have hv:v2 a.natAbs=k:=by rw[ajZ k x.natAbs (by omega) c,vk (by omega),DL]
   grind [Int.mul_ediv_cancel,Int.pow_pos,AO]
  .rw[Y1 e];have g:O FV ((k:Z)+1)=((k+1:U):Z):=by rw[aV (by omega) (by omega)];omega
   rw[BK,Z6];refine⟨by omega,by omega,⟨k+1,x/2⟩,⟨by show x/2≠0;omega,?_⟩,⟨⟨rfl,rfl,g,⟨⟩⟩,⟨rfl,.inl (Z0 _)⟩,⟨rfl,.inl (Z0 _)⟩,⟨⟩⟩,by show(x/2).natAbs<x.natAbs;omega⟩;show a=x/2*2^(k+1);rw[b,CK,DS (2^k) 2,<-AZ]
   congr 1;omega
 .simp at h
def Q?:ah AA:=⟨186,Be,λargs w=>Tryz.call186 args w,aP bQ Tryz.func186 Be aeX⟩
def jK(a:Z):Z:=if a%8=1\/a%8=7 then 1 else if a%8=3\/a%8=5 then-1 else 0
def km(a n:U):Z:=if a%4=3/\n%4=3 then-1 else 1
def ot:U->U->U->Z
 |0,_,_=>0
 |f+1,a,n=>if a=0 then (if n=1 then 1 else 0)else if a%2=0 then jK n*ot f (a/2) n else km a n*ot f (n%a) a
def gi(a n:U):Z:=ot (a+1) a n
theorem O?:∀(f g a n:U),a<f->a<g->ot f a n=ot g a n:=by
 intro f
 induction f with
 |zero=>intro g a n h;omega
 |succ f ih =>
  intro g a n h hg;obtain⟨k,rfl⟩:∃k,g=k+1:=⟨g-1,by omega⟩
  grind [ot,BU]
theorem Iw(n:U):gi 0 n=if n=1 then 1 else 0:=rfl
def IF{a n:U}(h:a≠0)(h2:a%2=0:=by omega):gi a n=jK n*gi (a/2) n:=by
 grind [gi,ot,O?]
def Js{a n:U}(h2:a%2=1:=by omega):gi a n=km a n*gi (n%a) a:=by
 grind [BU,gi,ot,O?]
def nq(a:Z):U->U->Z
 |0,_=>0
 |f+1,n=>if n%2=0 then jK a*nq a f (n/2)else gi (a%n).toNat n
def kr(a:Z)(n:U):Z:=nq a n n
def ad4(a:Z):∀(f g n:U),n<=f->n<=g->n≠0->nq a f n=nq a g n:=by
 intro f
 induction f with
 |zero=>intro g n h _ b;omega
 |succ f ih =>
  intro g n h hg b;obtain⟨k,rfl⟩:∃k,g=k+1:=⟨g-1,by omega⟩;simp only[nq]
  grind
theorem Cj{a:Z}{n:U}(h:n≠0)(b:n%2=0):kr a n=jK a*kr a (n/2):=by
 obtain⟨m,rfl⟩:∃m,n=m+1:=⟨n-1,by omega⟩;show nq a (m+1) (m+1)=_;rw[nq,Y b,ad4 a m _ _ (by omega) (Z0 _) (by omega)];rfl
theorem JV{a:Z}{n:U}(h2:n%2=1):kr a n=gi (a%n).toNat n:=by
 obtain⟨m,rfl⟩:∃m,n=m+1:=⟨n-1,by omega⟩;show nq a (m+1) (m+1)=_;rw[nq,X (by omega)]
def gM(a n:Z):Z:=if n=0 then (if a.natAbs=1 then 1 else 0)else (if n<0/\a<0 then-1 else 1)*kr a n.natAbs
def Eg:aG
 |[.aa a n,.aa b m]=>FR (FR (n<=200000/\m<=200000),.ret (.int .i64 (gM a b)))
 |_=>Do
structure ag where
 k:Int
 a:Nat
 n:Nat
structure ek (r:Int) (N:Nat) (s:ag):Prop where
 rj:s.n%2=1
 k:s.k=1\/s.k= -1
 val:s.k*gi s.a s.n=r
 ba:s.a<2^N
 bn:s.n<2^N
def SG(r:Z)(N:U):U->MS->G bt
 |16,_=>FR (.inv ag (ek r N) (λs=>⟨79, [(2,.bp 0 0),(3,.bp 1 0),(5,.int .i64 s.k)], [⟨FU,.one (.aa s.a N)⟩,⟨FU,.one (.aa s.n N)⟩],0⟩) (λs=>s.a))
 |_,_=>Do
structure bk where
 k:Int
 n:Int
structure mm (a r:Int) (m:Nat) (s:bk):Prop where
 k:s.k=1\/s.k= -1
 pos:0<s.n
 bn:s.n.natAbs<2^m
 rj:a%2=1\/s.n%2=1
 val:s.k*kr a s.n.natAbs=r
structure p! (a r:Int) (m:Nat) (s:bk):Prop where
 k:s.k=1\/s.k= -1
 pos:0<s.n
 bn:s.n.natAbs<2^m
 rj:s.n%2=1
 val:s.k*kr a s.n.natAbs=r
def VJ(a:Z)(n m:U)(k b:Z):MS:=⟨79, [(2,.bp 0 0),(3,.bp 1 0),(5,.int .i64 k)], [⟨FU,.one (.aa a n)⟩,⟨FU,.one (.aa b m)⟩],0⟩
def Tf(a b:Z)(n m:U):U->MS->G h!
 |12,_=>FR (.mk bk (mm a (gM a b) m) (λs=>VJ a n m s.k s.n))
 |15,_=>FR (.mk bk (p! a (gM a b) m) (λs=>VJ a n m s.k s.n))
 |_,_=>Do
def ov(Γ:P (ah AA))(fv:U->MS->G bt)(cut:U->MS->G h!):Env AA:=⟨Γ, [],39,fv,λ_=> [],cut⟩
def ahk(a b:Z)(n m:U)(c:_)(d:c=(gM a b)):(bif dK b==0 then n<=1000000/\n<=1000000/\bif V ((S a:Z)=1)then 1=gM a b else 0=gM a b else n<=1000000/\bif !decide (a%2=1)then m<=1000000/\bif !decide (b%2=1)then 0=gM a b else (bif V (b<0)then bif V (a<0)then m<=1000000/\∃i,mm a c m i/\(0=0/\0=0/\(-1)=bk.k i/\Q)/\aD a a n n/\aD (-b) (bk.n i) m m/\Q else m<=1000000/\∃i,mm a c m i/\(0=0/\0=0/\1=bk.k i/\Q)/\aD a a n n/\aD (-b) (bk.n i) m m/\Q else ∃i,mm a c m i/\(0=0/\0=0/\1=bk.k i/\Q)/\aD a a n n/\aD b (bk.n i) m m/\Q)/\∀(i:bk),mm a c m i->(m<=900000/\(bk.n i=0->J))/\(((2:Z)=0->J)/\bif T (v2 (S (bk.n i)):Z) 2==1 then (n<=1000000/\((8:Z)=4\/(8:Z)=8))/\(0<=a%8/\a%8<(↑(8:U):Z))/\∃ae,p! a c m ae/\(0=0/\0=0/\O FV (bk.k i*K (iS 3) (I (a%8)) 0)=bk.k ae/\Q)/\aD a a n n/\aD (bk.n i/2^v2 (S (bk.n i))) (bk.n ae) m m/\Q else ∃ae,p! a c m ae/\(0=0/\0=0/\bk.k i=bk.k ae/\Q)/\aD a a n n/\aD (bk.n i/2^v2 (S (bk.n i))) (bk.n ae) m m/\Q)/\∀(i:bk),p! a c m i->(n<=900000/\m<=900000/\(bk.n i=0->J))/\(∃ae,ek c m ae/\(0=0/\0=0/\bk.k i=ag.k ae/\Q)/\aD (a%bk.n i) (ag.a ae:Z) m m/\aD (bk.n i) (ag.n ae:Z) m m/\Q)/\∀(i:ag),ek c m i->bif V (dK (ag.a i:Z)>0)then (m<=900000/\((ag.a i:Z)=0->J))/\((2:Z)=0->J)/\bif T (v2 (S (ag.a i:Z)):Z) 2==1 then (m<=1000000/\((8:Z)=4\/(8:Z)=8))/\(0<=(ag.n i:Z)%8/\(ag.n i:Z)%8<(↑(8:U):Z))/\(m<=1000000/\((4:Z)=4\/(4:Z)=8))/\bif (ag.a i:Z)/2^v2 (S (ag.a i:Z))%4==3 then (m<=1000000/\((4:Z)=4\/(4:Z)=8))/\bif (ag.n i:Z)%4==3 then (m<=900000/\m<=900000/\((ag.a i:Z)/2^v2 (S (ag.a i:Z))=0->J))/\∃j,ek c m j/\((0=0/\0=0/\O FV (0-O FV (ag.k i*K (iS 3) (I ((ag.n i:Z)%8)) 0))=ag.k j/\Q)/\aD ((ag.n i:Z)%((ag.a i:Z)/2^v2 (S (ag.a i:Z)))) (ag.a j:Z) m m/\aD ((ag.a i:Z)/2^v2 (S (ag.a i:Z))) (ag.n j:Z) m m/\Q)/\ag.a j<ag.a i else (m<=900000/\m<=900000/\((ag.a i:Z)/2^v2 (S (ag.a i:Z))=0->J))/\∃j,ek c m j/\((0=0/\0=0/\O FV (ag.k i*K (iS 3) (I ((ag.n i:Z)%8)) 0)=ag.k j/\Q)/\aD ((ag.n i:Z)%((ag.a i:Z)/2^v2 (S (ag.a i:Z)))) (ag.a j:Z) m m/\aD ((ag.a i:Z)/2^v2 (S (ag.a i:Z))) (ag.n j:Z) m m/\Q)/\ag.a j<ag.a i else (m<=900000/\m<=900000/\((ag.a i:Z)/2^v2 (S (ag.a i:Z))=0->J))/\∃j,ek c m j/\((0=0/\0=0/\O FV (ag.k i*K (iS 3) (I ((ag.n i:Z)%8)) 0)=ag.k j/\Q)/\aD ((ag.n i:Z)%((ag.a i:Z)/2^v2 (S (ag.a i:Z)))) (ag.a j:Z) m m/\aD ((ag.a i:Z)/2^v2 (S (ag.a i:Z))) (ag.n j:Z) m m/\Q)/\ag.a j<ag.a i else (m<=1000000/\((4:Z)=4\/(4:Z)=8))/\bif (ag.a i:Z)/2^v2 (S (ag.a i:Z))%4==3 then (m<=1000000/\((4:Z)=4\/(4:Z)=8))/\bif (ag.n i:Z)%4==3 then (m<=900000/\m<=900000/\((ag.a i:Z)/2^v2 (S (ag.a i:Z))=0->J))/\∃j,ek c m j/\((0=0/\0=0/\O FV (0-ag.k i)=ag.k j/\Q)/\aD ((ag.n i:Z)%((ag.a i:Z)/2^v2 (S (ag.a i:Z)))) (ag.a j:Z) m m/\aD ((ag.a i:Z)/2^v2 (S (ag.a i:Z))) (ag.n j:Z) m m/\Q)/\ag.a j<ag.a i else (m<=900000/\m<=900000/\((ag.a i:Z)/2^v2 (S (ag.a i:Z))=0->J))/\∃j,ek c m j/\((0=0/\0=0/\ag.k i=ag.k j/\Q)/\aD ((ag.n i:Z)%((ag.a i:Z)/2^v2 (S (ag.a i:Z)))) (ag.a j:Z) m m/\aD ((ag.a i:Z)/2^v2 (S (ag.a i:Z))) (ag.n j:Z) m m/\Q)/\ag.a j<ag.a i else (m<=900000/\m<=900000/\((ag.a i:Z)/2^v2 (S (ag.a i:Z))=0->J))/\∃j,ek c m j/\((0=0/\0=0/\ag.k i=ag.k j/\Q)/\aD ((ag.n i:Z)%((ag.a i:Z)/2^v2 (S (ag.a i:Z)))) (ag.a j:Z) m m/\aD ((ag.a i:Z)/2^v2 (S (ag.a i:Z))) (ag.n j:Z) m m/\Q)/\ag.a j<ag.a i else m<=1000000/\bif !decide ((ag.n i:Z)=1)then 0=gM a b else ag.k i=gM a b else (bif V (b<0)then bif V (a<0)then m<=1000000/\∃i,mm a c m i/\(0=0/\0=0/\(-1)=bk.k i/\Q)/\aD a a n n/\aD (-b) (bk.n i) m m/\Q else m<=1000000/\∃i,mm a c m i/\(0=0/\0=0/\1=bk.k i/\Q)/\aD a a n n/\aD (-b) (bk.n i) m m/\Q else ∃i,mm a c m i/\(0=0/\0=0/\1=bk.k i/\Q)/\aD a a n n/\aD b (bk.n i) m m/\Q)/\∀(i:bk),mm a c m i->(m<=900000/\(bk.n i=0->J))/\(((2:Z)=0->J)/\bif T (v2 (S (bk.n i)):Z) 2==1 then (n<=1000000/\((8:Z)=4\/(8:Z)=8))/\(0<=a%8/\a%8<(↑(8:U):Z))/\∃ae,p! a c m ae/\(0=0/\0=0/\O FV (bk.k i*K (iS 3) (I (a%8)) 0)=bk.k ae/\Q)/\aD a a n n/\aD (bk.n i/2^v2 (S (bk.n i))) (bk.n ae) m m/\Q else ∃ae,p! a c m ae/\(0=0/\0=0/\bk.k i=bk.k ae/\Q)/\aD a a n n/\aD (bk.n i/2^v2 (S (bk.n i))) (bk.n ae) m m/\Q)/\∀(i:bk),p! a c m i->(n<=900000/\m<=900000/\(bk.n i=0->J))/\(∃ae,ek c m ae/\(0=0/\0=0/\bk.k i=ag.k ae/\Q)/\aD (a%bk.n i) (ag.a ae:Z) m m/\aD (bk.n i) (ag.n ae:Z) m m/\Q)/\∀(i:ag),ek c m i->bif V (dK (ag.a i:Z)>0)then (m<=900000/\((ag.a i:Z)=0->J))/\((2:Z)=0->J)/\bif T (v2 (S (ag.a i:Z)):Z) 2==1 then (m<=1000000/\((8:Z)=4\/(8:Z)=8))/\(0<=(ag.n i:Z)%8/\(ag.n i:Z)%8<(↑(8:U):Z))/\(m<=1000000/\((4:Z)=4\/(4:Z)=8))/\bif (ag.a i:Z)/2^v2 (S (ag.a i:Z))%4==3 then (m<=1000000/\((4:Z)=4\/(4:Z)=8))/\bif (ag.n i:Z)%4==3 then (m<=900000/\m<=900000/\((ag.a i:Z)/2^v2 (S (ag.a i:Z))=0->J))/\∃j,ek c m j/\((0=0/\0=0/\O FV (0-O FV (ag.k i*K (iS 3) (I ((ag.n i:Z)%8)) 0))=ag.k j/\Q)/\aD ((ag.n i:Z)%((ag.a i:Z)/2^v2 (S (ag.a i:Z)))) (ag.a j:Z) m m/\aD ((ag.a i:Z)/2^v2 (S (ag.a i:Z))) (ag.n j:Z) m m/\Q)/\ag.a j<ag.a i else (m<=900000/\m<=900000/\((ag.a i:Z)/2^v2 (S (ag.a i:Z))=0->J))/\∃j,ek c m j/\((0=0/\0=0/\O FV (ag.k i*K (iS 3) (I ((ag.n i:Z)%8)) 0)=ag.k j/\Q)/\aD ((ag.n i:Z)%((ag.a i:Z)/2^v2 (S (ag.a i:Z)))) (ag.a j:Z) m m/\aD ((ag.a i:Z)/2^v2 (S (ag.a i:Z))) (ag.n j:Z) m m/\Q)/\ag.a j<ag.a i else (m<=900000/\m<=900000/\((ag.a i:Z)/2^v2 (S (ag.a i:Z))=0->J))/\∃j,ek c m j/\((0=0/\0=0/\O FV (ag.k i*K (iS 3) (I ((ag.n i:Z)%8)) 0)=ag.k j/\Q)/\aD ((ag.n i:Z)%((ag.a i:Z)/2^v2 (S (ag.a i:Z)))) (ag.a j:Z) m m/\aD ((ag.a i:Z)/2^v2 (S (ag.a i:Z))) (ag.n j:Z) m m/\Q)/\ag.a j<ag.a i else (m<=1000000/\((4:Z)=4\/(4:Z)=8))/\bif (ag.a i:Z)/2^v2 (S (ag.a i:Z))%4==3 then (m<=1000000/\((4:Z)=4\/(4:Z)=8))/\bif (ag.n i:Z)%4==3 then (m<=900000/\m<=900000/\((ag.a i:Z)/2^v2 (S (ag.a i:Z))=0->J))/\∃j,ek c m j/\((0=0/\0=0/\O FV (0-ag.k i)=ag.k j/\Q)/\aD ((ag.n i:Z)%((ag.a i:Z)/2^v2 (S (ag.a i:Z)))) (ag.a j:Z) m m/\aD ((ag.a i:Z)/2^v2 (S (ag.a i:Z))) (ag.n j:Z) m m/\Q)/\ag.a j<ag.a i else (m<=900000/\m<=900000/\((ag.a i:Z)/2^v2 (S (ag.a i:Z))=0->J))/\∃j,ek c m j/\((0=0/\0=0/\ag.k i=ag.k j/\Q)/\aD ((ag.n i:Z)%((ag.a i:Z)/2^v2 (S (ag.a i:Z)))) (ag.a j:Z) m m/\aD ((ag.a i:Z)/2^v2 (S (ag.a i:Z))) (ag.n j:Z) m m/\Q)/\ag.a j<ag.a i else (m<=900000/\m<=900000/\((ag.a i:Z)/2^v2 (S (ag.a i:Z))=0->J))/\∃j,ek c m j/\((0=0/\0=0/\ag.k i=ag.k j/\Q)/\aD ((ag.n i:Z)%((ag.a i:Z)/2^v2 (S (ag.a i:Z)))) (ag.a j:Z) m m/\aD ((ag.a i:Z)/2^v2 (S (ag.a i:Z))) (ag.n j:Z) m m/\Q)/\ag.a j<ag.a i else m<=1000000/\bif !decide ((ag.n i:Z)=1)then 0=gM a b else ag.k i=gM a b)=aI (ov [dJ,og,r8,Dq,oh,Q?,Sj,nC] (SG (gM a b) m) (Tf a b n m)) EL [.aa a n,.aa b m] (AF (.ret (.int .i64 (gM a b)))):=by subst d;kernel_rfl
def Sa{n:U}(h:n≠0):n=n/2^v2 n*2^v2 n/\n/2^v2 n%2=1:=by
 induction n using Nat.strongRecOn with
 |ind n ih =>
  by_cases h2:n%2=0
  .grind [De,AY,BG,v2,AQ,B3]
  grind [vk]
def pQ{q:Z}(h:q%2=1:=by omega):jK q=1\/jK q= -1:=by
 unfold jK;omega
theorem xK{q:Z}(h:¬q%2=1):jK q=0:=by
 unfold jK;omega
def MX(a:Z):(iS 3).getD (a%8).toNat 0=jK a:=by
 have h1:0<=a%8/\a%8<8:=by omega
 unfold jK;generalize a%8=r at *;rcases(show r=0\/r=1\/r=2\/r=3\/r=4\/r=5\/r=6\/r=7 by omega)with h|h|h|h|h|h|h|h<;>subst h<;>decide
def Tr{x:Z}(h:x=1\/x= -1):x*x=1:=by rcases h with h|h<;>rw[h]<;>rfl
def ns(c:U)(x:Z):Z:=if c%2=1 then x else 1
def Ps{c:U}{x:Z}(h:x=1\/x= -1):ns (c+1) x=x*ns c x:=by
 unfold ns
 grind
def aim{x q:U}(a:x≠0)(hq:q%2=1):gi x q=ns (v2 x) (jK q)*gi (x/2^v2 x) q:=by
 induction x using Nat.strongRecOn with
 |ind x ih =>
  by_cases b:x%2=0
  .rw[IF a b,ih (x/2) (by omega) (by omega),De a b,AY,BG (2^v2 (x/2)) 2,<-AQ,Ps (pQ),AZ]
  .rw[vk (by omega),AW,BX];show _=1*_;rw[A5]
def alL{a:Z}{b:U}(c:b≠0)(ho:a%2=1\/b%2=1:=by omega):kr a b=ns (v2 b) (jK a)*kr a (b/2^v2 b):=by
 induction b using Nat.strongRecOn with
 |ind x ih =>
  by_cases e:x%2=0
  .have d:a%2=1:=by omega
   rw[Cj c e,ih (x/2) (by omega) (by omega) (.inl d),De c e,AY,BG (2^v2 (x/2)) 2,<-AQ,Ps (pQ d),AZ]
  .rw[vk (by omega),AW,BX];show _=1*_;rw[A5]
def V8(c:U):(T (c:Z) 2==1)=V (c%2=1):=by
 grind
def G3(x:U):((x:Z)%4==3)=V (x%4=3):=by
 grind
def wZ{x y:Z}(h:x=1\/x= -1)(k:y=1\/y= -1):x*y=1\/x*y= -1:=by
 grind
def QP{z:Z}(h:0<z:=by omega):z/2^v2 z.natAbs=((z.natAbs/2^v2 z.natAbs:U):Z):=by
 grind
def ad3{p q:N}{M R T:Prop}(h0:M)(hR:p=FW->q=FW->R)(hT:p=FU\/q=FU->T):bif p then M/\bif q then R else T else T:=by
 simp_all
def jG{r e k':Z}{m x q y:U}(b:m<=900000)(c:y%2=1)(asp:y<=x)(asj:x<2^m)(f:e=k')(d:k'=1\/k'= -1)(hv:k'*gi (q%y) y=r) :
  (m<=(900000:U)/\m<=(900000:U)/\((y:Z)=(0:Z)->J))/\∃j,ek r m j/\(((0:U)=(0:U)/\(0:U)=(0:U)/\e=ag.k j/\Q)/\
   ((q:Z)%(y:Z)=(ag.a j:Z)/\(m<=m\/S ((q:Z)%(y:Z))<(2:U)^m))/\((y:Z)=(ag.n j:Z)/\(m<=m\/S (y:Z)<(2:U)^m))/\Q)/\ag.a j<x:=by
 have de:=BU q (show y>0 by omega);exact⟨⟨b,b,by omega⟩,⟨k',q%y,y⟩,⟨c,d,hv,by show q%y<_;omega,by show y<_;omega⟩,⟨⟨rfl,rfl,f,⟨⟩⟩,⟨by show _=((q%y:U):Z);omega,.inl (Z0 _)⟩,⟨rfl,.inl (Z0 _)⟩,⟨⟩⟩,by show q%y<x;omega⟩
def ajy:dL EL Eg:=by
 intro ms p r h S O;unfold Eg at h;split at h
 .rename_i a n b m;cases h;obtain⟨hn,hm⟩:=S;have ha:a.natAbs<2^n:=O.1;have T:b.natAbs<2^m:=O.2.1;refine⟨ov [dJ,og,r8,Dq,oh,Q?,Sj,nC] (SG (gM a b) m) (Tf a b n m),?_⟩;rw[<-ahk a b n m _ rfl];by_cases K:b=0
  .grind [dK,gM]
  have V:(dK b==0)=FU:=by
   unfold dK
   grind
  have arD:gM a b=(if b<0/\a<0 then-1 else 1)*kr a b.natAbs:=by unfold gM;rw[X K]
  generalize hr:gM a b=r at *;rw[V,Z5];refine⟨by omega,?_⟩;refine ad3 (by omega) (λF P=>?_) (λo=>?_)
  .grind [Cj,xK]
  have o:a%2=1\/b%2=1:=by simpa using o
  refine⟨?_,?_⟩
  .rw[AR];split
   .rw[AR];split
    .refine⟨by omega,⟨-1,-b⟩,⟨.inr rfl,by show 0< -b;omega,by show(-b).natAbs<_;omega,by show a%2=1\/ -b%2=1;omega,?_⟩,⟨rfl,rfl,rfl,⟨⟩⟩,⟨rfl,.inl (Z0 _)⟩,⟨rfl,.inl (Z0 _)⟩,⟨⟩⟩
     simp_all
    .refine⟨by omega,⟨1,-b⟩,⟨.inl rfl,by show 0< -b;omega,by show(-b).natAbs<_;omega,by show a%2=1\/ -b%2=1;omega,?_⟩,⟨rfl,rfl,rfl,⟨⟩⟩,⟨rfl,.inl (Z0 _)⟩,⟨rfl,.inl (Z0 _)⟩,⟨⟩⟩
     simp_all
   .refine⟨⟨1,b⟩,⟨.inl rfl,by show 0<b;omega,T,o,?_⟩,⟨rfl,rfl,rfl,⟨⟩⟩,⟨rfl,.inl (Z0 _)⟩,⟨rfl,.inl (Z0 _)⟩,⟨⟩⟩
    simp_all
  rintro⟨k,c⟩ f
  have j:k=1\/k= -1:=f.k;have d:0<c:=f.pos;have l:c.natAbs<2^m:=f.bn;have G:a%2=1\/c%2=1:=f.rj;have hv:k*kr a c.natAbs=r:=f.val;clear f;dsimp only;rw[V8,QP d,MX];have B:c.natAbs≠0:=by omega
  have D:v2 c.natAbs%2=1->a%2=1:=λh=>by
   grind [vk]
  obtain⟨M,s2⟩:=Sa B;rw[alL B]at hv;generalize v2 c.natAbs=v at *;generalize c.natAbs/2^v=y at *;have H:y<2^m:=by
   have F:1<=2^v:=B6;have P:y*1<=y*2^v:=AU _ F;omega
  refine⟨by omega,⟨by omega,?_⟩,?_⟩
  .rw[AR];split
   .rename_i u;have L:=D u;have E:=wZ j (pQ L);have t:FX FV (k*jK a)=k*jK a:=by rcases E with h|h<;>rw[h]<;>rfl
    refine⟨⟨by omega,.inr rfl⟩,by omega,⟨k*jK a,y⟩,⟨E,by show(0:Z)<y;omega,by show(y:Z).natAbs<_;omega,by show(y:Z)%2=1;omega,?_⟩,⟨rfl,rfl,t,⟨⟩⟩,⟨rfl,.inl (Z0 _)⟩,⟨rfl,.inl (Z0 _)⟩,⟨⟩⟩
    grind [jK,kr,ns,AL,AZ]
   .rename_i u;refine⟨⟨k,y⟩,⟨j,by show(0:Z)<y;omega,by show(y:Z).natAbs<_;omega,by show(y:Z)%2=1;omega,?_⟩,⟨rfl,rfl,rfl,⟨⟩⟩,⟨rfl,.inl (Z0 _)⟩,⟨rfl,.inl (Z0 _)⟩,⟨⟩⟩
    grind [kr,ns,AL]
  clear hv j M s2 H D G l d B
  rintro⟨k,c⟩ f
  have j:k=1\/k= -1:=f.k;have d:0<c:=f.pos;have l:c.natAbs<2^m:=f.bn;have G:c%2=1:=f.rj;have hv:k*kr a c.natAbs=r:=f.val;clear f;dsimp only;obtain⟨q,rfl⟩:=BS (DU d);rw[AL]at l hv;have J:=AS a (show(q:Z)≠0 by omega);have I:=AM a d;refine⟨by omega,⟨⟨k,(a%q).toNat,q⟩,⟨by show q%2=1;omega,j,?_,by show(a%q).toNat<_;omega,l⟩,⟨rfl,rfl,rfl,⟨⟩⟩,⟨by show a%q=((a%q).toNat:Z);omega,.inl (Z0 _)⟩,⟨rfl,.inl (Z0 _)⟩,⟨⟩⟩,?_⟩
  .grind [gi,JV]
  clear hv j G J I l d
  rintro⟨k,x,q⟩ C
  have R:q%2=1:=C.rj;have j:k=1\/k= -1:=C.k;have hv:k*gi x q=r:=C.val;have i:x<2^m:=C.ba;have ar0:q<2^m:=C.bn;clear C;dsimp only;by_cases N:x=0
  .grind [dK,Iw]
  have U:FY (dK (x:Z)>0)=FW:=by rw[Db];rfl
  have Q:=QP (z:=(x:Z));rw[AL]at Q;rw[U,Z6];rw[AL,Q,V8,MX,G3,G3];obtain⟨M,s2⟩:=Sa N;rw[aim N R]at hv;generalize v2 x=v at *;generalize x/2^v=y at *;have g:y<=x:=by
   have F:1<=2^v:=B6;have P:y*1<=y*2^v:=AU _ F;omega
  rw[Js s2]at hv;have E:=pQ (q:=(q:Z));have t:∀ {z:Z},z=1\/z= -1->FX FV z=z:=λh=>by rcases h with h|h<;>rw[h]<;>rfl
  have e:=wZ j E;have s:∀ {z:Z},z=1\/z= -1->(0-z=1\/0-z= -1):=λh=>by rcases h with h|h<;>rw[h]<;>decide
  refine⟨by omega,by omega,?_⟩;by_cases u:v%2=1
  .rw[Y0 u,Z6];unfold ns at hv;rw[Y u]at hv;refine⟨⟨by omega,.inr rfl⟩,by omega,⟨by omega,.inl rfl⟩,?_⟩;by_cases A:y%4=3
   .rw[Y0 A,Z6];refine⟨⟨by omega,.inl rfl⟩,?_⟩;by_cases w:q%4=3
    .rw[Y0 w,Z6];unfold km at hv;rw[Y ⟨A,w⟩]at hv;exact jG (by omega) s2 g i (by rw[t e,t (s e)]) (s e) (by rw[<-hv];grind)
    .rw[Y1 w,Z5];unfold km at hv;rw[X (by omega)]at hv;exact jG (by omega) s2 g i (t e) e (by rw[<-hv];grind)
   .rw[Y1 A,Z5];unfold km at hv;rw[X (by omega)]at hv;exact jG (by omega) s2 g i (t e) e (by rw[<-hv];grind)
  .rw[Y1 u,Z5];unfold ns at hv;rw[X u,A5]at hv;refine⟨⟨by omega,.inl rfl⟩,?_⟩;by_cases A:y%4=3
   .rw[Y0 A,Z6];refine⟨⟨by omega,.inl rfl⟩,?_⟩;by_cases w:q%4=3
    .rw[Y0 w,Z6];unfold km at hv;rw[Y ⟨A,w⟩]at hv;exact jG (by omega) s2 g i (t (s j)) (s j) (by rw[<-hv];grind)
    .rw[Y1 w,Z5];unfold km at hv;rw[X (by omega),A5]at hv;exact jG (by omega) s2 g i rfl j hv
   .rw[Y1 A,Z5];unfold km at hv;rw[X (by omega),A5]at hv;exact jG (by omega) s2 g i rfl j hv
 .simp at h
def Sf:ah AA:=⟨169,Eg,λargs w=>Tryz.call169 args w,aP bQ Tryz.func169 Eg ajy⟩
def Ba:aG
 |[.aa a n,.aa b m]=>FR (FR (n<=200000/\m<=200000),.br (V (0<b)) (.br (V (gcd a b=1)) (.ret (.tup [.aa (bS a b) m,.int .i64 0])) (.ret (.tup [.aa 0 0,.int .i64 4]))) (.ret (.tup [.aa 0 0,.int .i64 1])))
 |_=>Do
def acy(a b:Z)(n m:U):(bif V (dK b<1)then bif V (0<b)then bif V (gcd a b=1)then aD 0 (bS a b) 0 m/\(1:Z)=0/\Q else aD 0 0 0 0/\(1:Z)=4/\Q else aD 0 0 0 0/\(1:Z)=1/\Q else (n<=900000/\m<=900000/\(b=0->J))/\(m<=300000/\m<=300000/\(b=0->J))/\m<=1000000/\bif !decide ((gcd (a%b) b:Z)=1)then bif V (0<b)then bif V (gcd a b=1)then aD 0 (bS a b) 0 m/\(4:Z)=0/\Q else aD 0 0 0 0/\(4:Z)=4/\Q else aD 0 0 0 0/\(4:Z)=1/\Q else (m<=900000/\m<=900000/\(b=0->J))/\bif V (0<b)then bif V (gcd a b=1)then aD (tN (a%b) b%b) (bS a b) m m/\(0:Z)=0/\Q else aD (tN (a%b) b%b) 0 m 0/\(0:Z)=4/\Q else aD (tN (a%b) b%b) 0 m 0/\(0:Z)=1/\Q)=aI (aK [nC,dJ,Al,r8] aC) EY [.aa a n,.aa b m] (AF (.br (V (0<b)) (.br (V (gcd a b=1)) (.ret (.tup [.aa (bS a b) m,.int .i64 0])) (.ret (.tup [.aa 0 0,.int .i64 4]))) (.ret (.tup [.aa 0 0,.int .i64 1])))):=by kernel_rfl
def Ru{b:Z}:V (dK b<1)=!decide (0<b):=by
 grind [dK]
def afH:dL EY Ba:=by
 intro ms p r h c hf;unfold Ba at h;split at h
 .rename_i a n b m;cases h;obtain⟨hn,hm⟩:=c;refine⟨aK [nC,dJ,Al,r8] aC,?_⟩;rw[<-acy a b n m,Ru];by_cases e:0<b
  .rw[Y0 e,va];refine⟨by omega,by omega,by omega,?_⟩;by_cases d:gcd a b=1
   .have f:V ((gcd a b:Z)=1)=FW:=Y0 (by omega);rw[f,Y0 d];exact⟨by omega,⟨rfl,.inl (Z0 _)⟩,(by and_intros<;>first|exact⟨⟩|rfl|omega)⟩
   grind
  grind
 .simp at h
def Qi:ah AA:=⟨118,Ba,λargs w=>Tryz.call118 args w,aP bQ Tryz.func118 Ba afH⟩
def fY(a:Z)(e:U)(m:Z):Z:=a^e%m
def Bd:aG
 |[.aa a n,.aa b k,.ref (.aa m l)]=>FR (FR (n<=200000/\k<=200000/\l<=200000/\0<m),.ret (.aa (a*b%m) l))
 |_=>Do
def acB(a b m:Z)(n k l:U):((n<=1000000/\k<=1000000)/\(n+k<=900000/\l<=900000/\(m=0->J))/\a*b%m=a*b%m/\(l<=l\/S (a*b%m)<2^l))=aI (aK [kJ,nC] aC) EX [.aa a n,.aa b k,.ref (.aa m l)] (AF (.ret (.aa (a*b%m) l))):=by kernel_rfl
def aeW:bC EX Bd:=by
 intro ms p r h c;unfold Bd at h;split at h
 .rename_i a n b k m l;cases h;obtain⟨h1,h2,h3,h4⟩:=c;refine⟨aK [kJ,nC] aC,?_⟩;rw[<-acB a b m n k l];omega
 .simp at h
def Qj:ah AA:=⟨119,Bd,λargs w=>Tryz.call119 args w,aO bQ Tryz.func119 Bd aeW⟩
def sU(a e m:Z):Z:=if e<0 then fY (bS a m) e.natAbs m else fY a e.natAbs m
def Ep:aG
 |[.aa a n,.aa e k,.aa m l]=>FR (FR (n<=100000/\k<=100000/\l<=100000),.br (V (0<m)) (.br (V (e<0)&&!decide (gcd a m=1)) (.ret (.tup [.aa 0 0,.int .i64 4])) (.ret (.tup [.aa (sU a e m) l,.int .i64 0]))) (.ret (.tup [.aa 0 0,.int .i64 1])))
 |_=>Do
structure eh where
 a:Int
 e:Int
structure yy (a e m:Int) (k:Nat) (s:eh):Prop where
 e0:0<=s.e
 anp:s.e.natAbs<2^k
 m0:0<m
 g:e<0->gcd a m=1
 v:fY s.a s.e.natAbs m=sU a e m
structure c7 where
 i:Nat
 x:Int
 y:Int
structure jc (a:Int) (e:Nat) (m:Int) (s:c7):Prop where
 i:s.i<=bl e
 x:s.x=fY a (e%2^s.i) m
 y:s.y=fY a (2^s.i) m
def apA(a e m:Z)(n k l:U)(r:Z×U)(s:c7):MS:=⟨66, [(4,.bp 1 0),(5,.bp 2 0),(6,.bp 3 0),(10,.fn 119 [.bp 2 0]),(11,.bp 4 0),(12,.bp 5 0),(41,.int .i64 (bl e.natAbs)),(42,.int .i64 s.i)],
 [⟨FU,.one (.aa a n)⟩,⟨FU,.one (.aa e k)⟩,⟨FU,.one (.aa m l)⟩,⟨FU,.one (.aa r.1 r.2)⟩,⟨FU,.one (.aa s.x l)⟩,⟨FU,.one (.aa s.y l)⟩],0⟩
def SI(m:Z)(n k l:U):U->MS->G bt
 |11,s=>(match s.bx with
  |⟨_,.one (.aa a _)⟩::⟨_,.one (.aa e _)⟩::_=>FR (.inv c7 (jc a e.natAbs m) (apA a e m n k l (0,0)) (λs=>bl e.natAbs-s.i))
  |_=>Do)
 |_,_=>Do
def Tg(a e m:Z)(n k l:U):U->MS->G h!
 |8,_=>FR (.mk eh (yy a e m k) (λs=>⟨66, [(3,.bp 0 0),(4,.bp 1 0),(5,.bp 2 0),(6,.bp 3 0)], [⟨FU,.one (.aa s.a n)⟩,⟨FU,.one (.aa s.e k)⟩,⟨FU,.one (.aa m l)⟩,⟨FU,.one (.aa 0 0)⟩],0⟩))
 |_,_=>Do
def ahu(a e m:Z)(n k l:U)(b:_)(c:b=λ(i:eh)=>(S (eh.e i))):(bif V (dK m<1)then bif V (0<m)then bif V (e<0)&&!decide (gcd a m=1)then aD 0 0 0 0/\(1:Z)=4/\Q else aD 0 (sU a e m) 0 l/\(1:Z)=0/\Q else aD 0 0 0 0/\(1:Z)=1/\Q else (bif V (e<0)then (n<=200000/\l<=200000)/\bif V (0<m)then bif V (gcd a m=1)then k<=1000000/\∃i,yy a e m k i/\(0=0/\0=0/\0=0/\0=0/\Q)/\aD (bS a m) (eh.a i) l (max n l)/\aD (-e) (eh.e i) k k/\aD m m l l/\aD 0 0 0 0/\Q else bif V (0<m)then bif V (e<0)&&!decide (gcd a m=1)then aD 0 0 0 0/\(4:Z)=4/\Q else aD 0 (sU a e m) 0 l/\(4:Z)=0/\Q else aD 0 0 0 0/\(4:Z)=1/\Q else bif V (0<m)then bif V (e<0)&&!decide (gcd a m=1)then aD 0 0 0 0/\(1:Z)=4/\Q else aD 0 (sU a e m) 0 l/\(1:Z)=0/\Q else aD 0 0 0 0/\(1:Z)=1/\Q else ∃i,yy a e m k i/\(0=0/\0=0/\0=0/\0=0/\Q)/\aD a (eh.a i) n (max n l)/\aD e (eh.e i) k k/\aD m m l l/\aD 0 0 0 0/\Q)/\∀(i:eh),yy a e m k i->fX 1/\(64<=900000/\l<=900000/\(m=0->J))/\(max n l<=900000/\l<=900000/\(m=0->J))/\k<=1000000/\(∃ae,jc (eh.a i) (b i) m ae/\(0=0/\0=0/\0=0/\(0=0/\Q)/\0=0/\0=0/\(bl (b i) :Z)=(bl (b i) :Z)/\0=(c7.i ae:Z)/\Q)/\aD (eh.a i) (eh.a i) (max n l) (max n l)/\aD (eh.e i) (eh.e i) k k/\aD m m l l/\aD 0 0 0 0/\aD (1%m) (c7.x ae) l l/\aD (eh.a i%m) (c7.y ae) l l/\Q)/\∀(ae:c7),jc (eh.a i) (b i) m ae->bif V ((c7.i ae:Z)<(bl (b i) :Z))then ((32:Z)=0->J)/\(0<=O FV (D (c7.i ae:Z) 32)/\O FV (D (c7.i ae:Z) 32)<(H (aA (b i)):Z))/\((32:Z)=0->J)/\0<=T (c7.i ae:Z) 32/\bif O FT (AI (R (AC FT) (fdiv (K (aA (b i)) (I (O FV (D (c7.i ae:Z) 32))) 0) ((2:Z)^min (I (T (c7.i ae:Z) 32)) (AC FT))) &&&R (AC FT) 1):Z)==1 then (l<=200000/\l<=200000/\l<=200000/\0<m)/\(l<=200000/\l<=200000/\l<=200000/\0<m)/\∃j,jc (eh.a i) (b i) m j/\((0=0/\0=0/\0=0/\(0=0/\Q)/\0=0/\0=0/\(bl (b i) :Z)=(bl (b i) :Z)/\O FV ((c7.i ae:Z)+1)=(c7.i j:Z)/\Q)/\aD (eh.a i) (eh.a i) (max n l) (max n l)/\aD (eh.e i) (eh.e i) k k/\aD m m l l/\aD 0 0 0 0/\aD (c7.x ae*c7.y ae%m) (c7.x j) l l/\aD (c7.y ae*c7.y ae%m) (c7.y j) l l/\Q)/\bl (b i)-c7.i j<bl (b i)-c7.i ae else (l<=200000/\l<=200000/\l<=200000/\0<m)/\∃j,jc (eh.a i) (b i) m j/\((0=0/\0=0/\0=0/\(0=0/\Q)/\0=0/\0=0/\(bl (b i) :Z)=(bl (b i) :Z)/\O FV ((c7.i ae:Z)+1)=(c7.i j:Z)/\Q)/\aD (eh.a i) (eh.a i) (max n l) (max n l)/\aD (eh.e i) (eh.e i) k k/\aD m m l l/\aD 0 0 0 0/\aD (c7.x ae) (c7.x j) l l/\aD (c7.y ae*c7.y ae%m) (c7.y j) l l/\Q)/\bl (b i)-c7.i j<bl (b i)-c7.i ae else bif V (0<m)then bif V (e<0)&&!decide (gcd a m=1)then aD (c7.x ae) 0 l 0/\(0:Z)=4/\Q else aD (c7.x ae) (sU a e m) l l/\(0:Z)=0/\Q else aD (c7.x ae) 0 l 0/\(0:Z)=1/\Q)=aI (ov [dJ,Qi,oh,Qj,sr,nC,sd] (SI m (max n l) k l) (Tg a e m (max n l) k l)) FC [.aa a n,.aa e k,.aa m l] (AF (.br (V (0<m)) (.br (V (e<0)&&!decide (gcd a m=1)) (.ret (.tup [.aa 0 0,.int .i64 4])) (.ret (.tup [.aa (sU a e m) l,.int .i64 0]))) (.ret (.tup [.aa 0 0,.int .i64 1])))):=by subst c;kernel_rfl
theorem zo(a m:Z):fY a 0 m=1%m:=by unfold fY;rw[DO]
def Jn(a m:Z):fY a 1 m=a%m:=by unfold fY;rw[CK,DO,A5]
def ux(a m:Z)(i j:U):fY a i m*fY a j m%m=fY a (i+j) m:=by
 grind [fY,BI,D0]
def jc.init(a:Z)(e:U)(m:Z):jc a e m ⟨0,1%m,a%m⟩ :=
 ⟨Z9 _,by show 1%m=fY a (e%2^0) m;rw[AW,Nat.mod_one,zo],by show a%m=fY a (2^0) m;rw[AW,Jn]⟩
def jc.step{a:Z}{e:U}{m:Z}{i:U}{x y:Z}(h:jc a e m ⟨i,x,y⟩)(d:i<bl e) :
  (V (e/2^i%2=1)=FW->jc a e m ⟨i+1,x*y%m,y*y%m⟩)/\(V (e/2^i%2=1)=FU->jc a e m ⟨i+1,x,y*y%m⟩):=by
 have hx:x=fY a (e%2^i) m:=h.x;have f:y=fY a (2^i) m:=h.y;have b:y*y%m=fY a (2^(i+1)) m:=by rw[f,ux,AY,Nat.mul_two]
 have hs:e%2^(i+1)=e%2^i+2^i*(e/2^i%2):=Nat.mod_pow_succ;refine⟨λc=>⟨d,?_,b⟩,λc=>⟨d,?_,b⟩⟩
 .have c:=of_decide_eq_true c;show x*y%m=fY a (e%2^(i+1)) m
  simp_all [CP,ux]
 .simp_all
def jc.fin{a:Z}{e:U}{m:Z}{i:U}{x y:Z}(h:jc a e m ⟨i,x,y⟩)(hi:¬i<bl e):x=fY a e m:=by
 have h1:i<=bl e:=h.i;have hx:x=fY a (e%2^i) m:=h.x
 grind [bl,BA,oW]
def aiW:dL FC Ep:=by
 intro ms p r h s t;unfold Ep at h;split at h
 .rename_i a n e k m l;cases h;obtain⟨hn,hk,hl⟩:=s;have u:e.natAbs<2^k:=t.2.1;refine⟨ov [dJ,Qi,oh,Qj,sr,nC,sd] (SI m (max n l) k l) (Tg a e m (max n l) k l),?_⟩;rw[<-ahu a e m n k l _ rfl,Ru];by_cases j:0<m
  .rw[Y0 j,AO,Z5];refine⟨?_,?_⟩
   .by_cases b:e<0
    .rw[Y0 b,Z6,Z6];refine⟨by omega,?_⟩;by_cases d:gcd a m=1
     .rw[Y0 d,Z6];refine⟨by omega,⟨bS a m,-e⟩,⟨by show 0<= -e;omega,by show(-e).natAbs<_;omega,j,λ_=>d,?_⟩,?_⟩
      all_goals grind [fY,bS,sU,DE,Nat.le_max_right]
     grind
    .rw[Y1 b,Z5];refine⟨⟨a,e⟩,⟨by show 0<=e;omega,u,j,λh=>W h b,?_⟩,?_⟩
     all_goals grind [fY,sU,Nat.le_max_left]
   .rintro⟨A,E⟩ c
    have aqM:0<=E:=c.e0;have o:E.natAbs<2^k:=c.anp;have d:=c.g;have hv:fY A E.natAbs m=sU a e m:=c.v;have aqY:(V (e<0)&&!decide (gcd a m=1))=FU:=by
     simp_all
    clear c d;dsimp only;generalize hN:E.natAbs=N at *;have pc:bl N<=k:=fQ o;refine⟨by omega,by omega,by omega,by omega,⟨⟨0,1%m,A%m⟩,jc.init A N m,?_⟩,?_⟩
    .grind
    rintro⟨i,x,y⟩ q
    dsimp only;rw[AR];split
    .rename_i f;have f:i<bl N:=by omega
     have C:D (i:Z) 32=((i/32:U):Z):=rfl;have B:T (i:Z) 32=((i%32:U):Z):=rfl;have z:O FV ((i/32:U):Z)=((i/32:U):Z):=aV (by omega) (by omega);have w:O FV ((i:Z)+1)=((i+1:U):Z):=by rw[aV (by omega) (by omega)];omega
     have Le:=wR f;rw[C,B,z,w,Z8,Z8,tZ];refine⟨by omega,by omega,by omega,by omega,?_⟩;obtain⟨asT,asU⟩:=q.step f
     grind
    .rename_i f;have:=q.fin (by omega)
     grind
  grind
 .simp at h
def Sk:ah AA:=⟨77,Ep,λargs w=>Tryz.call77 args w,aP bQ Tryz.func77 Ep aiW⟩
abbrev fo(A B M:Z)(i j k:U):MV:= .st [.aa A i,.aa B j,.aa M k]
abbrev qD(X Y:Z)(o:N)(i j:U):MV:= .st [.aa X i,.aa Y j,.bool o]
def alg(z:Z):(fX z/\z=z/\(64<=64\/S z<2^64))=aI (aK [iK] aC) EA [.int .i64 z] (AF (.ret (.aa z 64))):=by kernel_rfl
def amD:bC EA nT:=by
 intro ms p r h a;unfold nT at h;split at h
 .rename_i z;cases h;refine⟨aK [iK] aC,?_⟩;rw[<-alg z];exact⟨a,rfl,.inl (Z0 _)⟩
 .simp at h
def Gd:ah AA:=⟨189,nT,λargs w=>Tryz.call189 args w,aO bQ Tryz.func189 nT amD⟩
def Gr:aG
 |[.st [.aa _ _,.aa _ _,.aa M k],.aa a n]=>FR (FR (k<=1000/\n<=1000),.ret (.bool (V (0<=a/\a<M))))
 |_=>Do
def ale(A B M a:Z)(i j k n:U):(bif V (dK a≥0)then (n<=1000000/\k<=1000000)/\V (aY a M<0)=V (0<=a/\a<M)else FU=V (0<=a/\a<M))=aI (aK [dJ,eZ] aC) D9 [fo A B M i j k,.aa a n] (AF (.ret (.bool (V (0<=a/\a<M))))):=by kernel_rfl
theorem zy{a b:Z}:aY a b<0↔a<b:=by unfold aY;split<;>(try split)<;>omega
theorem Tm{a:Z}:0<=dK a↔0<=a:=by unfold dK;split<;>(try split)<;>omega
def amB:bC D9 Gr:=by
 intro ms p r h b;unfold Gr at h;split at h
 .rename_i A i B j M k a n;cases h;obtain⟨h1,h2⟩:=b;refine⟨aK [dJ,eZ] aC,?_⟩;rw[<-ale A B M a i j k n,AR]
  grind [Tm,zy]
 .simp at h
def Um:ah AA:=⟨190,Gr,λargs w=>Tryz.call190 args w,aO bQ Tryz.func190 Gr amB⟩
def Fi:aG
 |[.st [.aa _ _,.aa _ _,.aa M k],.aa a n]=>FR (FR (k<=1000/\n<=5000/\0<M),.ret (.aa (a%M) k))
 |_=>Do
def agW(A B M a:Z)(i j k n:U):((n<=900000/\k<=900000/\0<M)/\a%M=a%M/\(k<=k\/S (a%M)<2^k))=aI (aK [Sh] aC) D7 [fo A B M i j k,.aa a n] (AF (.ret (.aa (a%M) k))):=by kernel_rfl
def ajd:bC D7 Fi:=by
 intro ms p r h b;unfold Fi at h;split at h
 .rename_i A i B j M k a n;cases h;obtain⟨h1,h2,h3⟩:=b;refine⟨aK [Sh] aC,?_⟩;rw[<-agW A B M a i j k n];omega
 .simp at h
def uB:ah AA:=⟨192,Fi,λargs w=>Tryz.call192 args w,aO bQ Tryz.func192 Fi ajd⟩
def zd:aG
 |[.st [.aa _ _,.aa _ _,.aa M k],.aa a n,.aa b m]=>FR (FR (k<=1000/\n<=2000/\m<=2000/\0<M),.ret (.aa (a*b%M) k))
 |_=>Do
def Zc(A B M a b:Z)(i j k n m:U):((n<=1000000/\m<=1000000)/\(k<=1000/\n+m<=5000/\0<M)/\a*b%M=a*b%M/\(k<=k\/S (a*b%M)<2^k))=aI (aK [uB,kJ] aC) D8 [fo A B M i j k,.aa a n,.aa b m] (AF (.ret (.aa (a*b%M) k))):=by kernel_rfl
def aa6:bC D8 zd:=by
 intro ms p r h c;unfold zd at h;split at h
 .rename_i A i B j M k a n b m;cases h;obtain⟨h1,h2,h3,h4⟩:=c;refine⟨aK [uB,kJ] aC,?_⟩;rw[<-Zc A B M a b i j k n m];omega
 .simp at h
def zr:ah AA:=⟨191,zd,λargs w=>Tryz.call191 args w,aO bQ Tryz.func191 zd aa6⟩
def Fk:aG
 |[.st [.aa _ _,.aa _ _,.aa M k],.st [.aa X n,.aa Y m,.bool o]]=>FR (FR (k<=1000/\m<=2000/\0<M),.br o (.ret (.st [.aa X n,.aa Y m,.bool FW])) (.ret (.st [.aa X n,.aa (-Y%M) k,.bool FU])))
 |_=>Do
def agY(A B M X Y:Z)(o:N)(i j k n m:U):(bif !o then m<=1000000/\(k<=1000/\m<=5000/\0<M)/\bif o then aD X X n n/\aD (-Y%M) Y k m/\o=FW/\Q else aD X X n n/\aD (-Y%M) (-Y%M) k k/\o=FU/\Q else bif o then aD X X n n/\aD Y Y m m/\o=FW/\Q else aD X X n n/\aD Y (-Y%M) m k/\o=FU/\Q)=aI (aK [uB,oh] aC) D6 [fo A B M i j k,qD X Y o n m] (AF (.br o (.ret (.st [.aa X n,.aa Y m,.bool FW])) (.ret (.st [.aa X n,.aa (-Y%M) k,.bool FU])))):=by kernel_rfl
def Fg:aG
 |[.st [.aa _ _,.aa _ _,.aa M k],.aa a n]=>FR (FR (k<=1000/\n<=5000/\0<M),.br (V (gcd a M=1)) (.ret (.aa (bS a M) k)) (.ck (.iface 215 (.aa (gcd a M) k))))
 |_=>Do
def agU(A B M a:Z)(i j k n:U):((n<=200000/\k<=200000/\0<M)/\bif V (gcd a M=1)then bif V (gcd a M=1)then bS a M=bS a M/\(k<=k\/S (bS a M)<2^k)else J else (n<=900000/\k<=900000)/\bif V (gcd a M=1)then J else (gcd a M:Z)=(gcd a M:Z)/\(max n k<=k\/S (gcd a M:Z)<2^k))=aI (aK [Sg,Dn] aC) D1 [fo A B M i j k,.aa a n] (AF (.br (V (gcd a M=1)) (.ret (.aa (bS a M) k)) (.ck (.iface 215 (.aa (gcd a M) k))))):=by kernel_rfl
def ajf:bC D6 Fk:=by
 intro ms p r h a;unfold Fk at h;split at h
 .rename_i A i B j M k X n Y m o;cases h;obtain⟨h1,h2,h3⟩:=a;refine⟨aK [uB,oh] aC,?_⟩;rw[<-agY A B M X Y o i j k n m]
  grind
 .simp at h
def SX:ah AA:=⟨193,Fk,λargs w=>Tryz.call193 args w,aO bQ Tryz.func193 Fk ajf⟩
def Mi{a M:Z}{k:U}(hM:0<M)(hk:M.natAbs<2^k):gcd a M<2^k:=by
 have:=DJ (by omega) (Int.gcd_dvd_natAbs_right a M);omega
def ajc:dL D1 Fg:=by
 intro ms p r h c d;unfold Fg at h;split at h
 .rename_i A i B j M k a n;cases h;obtain⟨h1,h2,b⟩:=c;have e:M.natAbs<2^k:=d.1.2.2.1;refine⟨aK [Sg,Dn] aC,?_⟩;rw[<-agU A B M a i j k n];refine⟨⟨by omega,by omega,b⟩,?_⟩;cases V (gcd a M=1)with
  |true=>exact⟨rfl,.inl (Z0 _)⟩
  |false=>exact⟨by omega,rfl,.inr (by have:=Mi (a:=a) b e;simpa using this)⟩
 .simp at h
def SV:ah AA:=⟨204,Fg,λargs w=>Tryz.call204 args w,aP bQ Tryz.func204 Fg ajc⟩
def dz(a M:Z):N:=decide (0<=a/\a<M)
def cS(A B M:Z):N:=!(V (M<=3))&&!(V (M%2=0))&&dz A M&&dz B M
def nR(A B M X Y:Z)(o:N):N :=
 cS A B M&&g o (V (X=0)&&V (Y=0)) (dz X M&&dz Y M&&V (Y*Y%M=((X*X%M+A)*X%M+B)%M))
def Gt:aG
 |[.st [.aa A i,.aa B j,.aa M k],.st [.aa X n,.aa Y m,.bool o]]=>FR (FR (i<=1000/\j<=1000/\k<=1000/\n<=1000/\m<=1000),.ret (.bool (nR A B M X Y o)))
 |_=>Do
def alh(A B M X Y:Z)(o:N)(i j k n m:U):(fX 3/\(k<=1000000/\64<=1000000)/\bif V (aY M 3<=0)then FU=nR A B M X Y o else ((0:Z)<=0/\0<(H (aA (S M)):Z))/\bif O FT (AI (R (AC FT) (K (aA (S M)) (I 0) 0) &&&R (AC FT) 1):Z)==0 then FU=nR A B M X Y o else (k<=1000/\i<=1000)/\bif !decide (0<=A/\A<M)then FU=nR A B M X Y o else (k<=1000/\j<=1000)/\bif !decide (0<=B/\B<M)then FU=nR A B M X Y o else bif o then bif dK X==0 then (dK Y==0)=nR A B M X Y o else FU=nR A B M X Y o else (k<=1000/\n<=1000)/\bif !decide (0<=X/\X<M)then FU=nR A B M X Y o else (k<=1000/\m<=1000)/\bif !decide (0<=Y/\Y<M)then FU=nR A B M X Y o else (k<=1000/\n<=2000/\n<=2000/\0<M)/\(k<=1000000/\i<=1000000)/\(k<=1000/\max k i+1<=2000/\n<=2000/\0<M)/\(k<=1000000/\j<=1000000)/\(k<=1000/\m<=2000/\m<=2000/\0<M)/\(k<=1000/\max k j+1<=5000/\0<M)/\(k<=1000000/\k<=1000000)/\(aY (Y*Y%M) (((X*X%M+A)*X%M+B)%M)==0)=nR A B M X Y o)=aI (aK [Gd,eZ,Um,zr,uB,jP,dJ] aC) EH [fo A B M i j k,qD X Y o n m] (AF (.ret (.bool (nR A B M X Y o)))):=by kernel_rfl
def amd{x:Z}(h:0<=x/\x<4294967296):u32.wrap (↑(R (AC FT) x &&&R (AC FT) 1).toNat)=x%2:=by
 rw[lO,BitVec.toNat_and];have e1:(R (AC FT) x).toNat=x.toNat:=by
  rw[BitVec.toNat_ofInt];show(x%4294967296).toNat=_;omega
 grind
theorem Ch{a b:Z}:aY a b<=0↔a<=b:=by unfold aY;split<;>(try split)<;>omega
theorem vQ{a:Z}:dK a=0↔a=0:=by unfold dK;split<;>(try split)<;>omega
def Jg{a b:Z}{c:Prop}[Decidable c](h:a=b↔c):(a==b)=decide c:=by
 grind
def alM(k:U):(aA k).getD 0 0=((k%4294967296:U):Z):=by
 grind [bN,f8]
def amE:bC EH Gt:=by
 intro ms p r h f;unfold Gt at h;split at h
 .rename_i A i B j M k X n Y m o;cases h;obtain⟨h1,h2,h3,h4,h5⟩:=f;refine⟨aK [Gd,eZ,Um,zr,uB,jP,dJ] aC,?_⟩;rw[<-alh A B M X Y o i j k n m];refine⟨by omega,by omega,?_⟩;unfold nR cS;by_cases b:M<=3
  .grind [Ch]
  .rw[Y1 (λh=>b (Ch.1 h)),Y1 b,Z5];have d:=aM M.natAbs;have g:=alM M.natAbs;have a:aA M.natAbs≠ []:=λe=>by have:=bW.1 e;omega
   have hl:0<(aA M.natAbs).length:=BE.2 a;refine⟨by omega,?_⟩;rw[show I 0=0 from rfl,amd (d.getD 0),Jg (c:=M%2=0) (by rw[g];omega)]
   grind [dz,vQ,kN]
 .simp at h
def Ge:ah AA:=⟨173,Gt,λargs w=>Tryz.call173 args w,aO bQ Tryz.func173 Gt amE⟩
def qG(b d a c:Z):Z:=cond (V (b=a)) (d+c) (a-b)
def ga(A a d c b:Z):Z:=cond (V (a=c)) (3*(a*a)+A) (b-d)
def fO(A M d c b a:Z):Z:=ga A d c b a*bS (qG d c b a) M%M
def nL(A M b d a c:Z):Z:=(fO A M b d a c*fO A M b d a c-(b+a))%M
def vR(A M b a d c:Z):Z:=(fO A M b a d c*(b-nL A M b a d c)-a)%M
def oF(M d c b a:Z):N:=decide (d=b)&&V ((c+a)%M=0)
def Kv(T:FZ)(A M d c:Z)(f:N)(b a:Z)(e:N)(k n m n' m':U):cj :=
 .br f (.ret (qD b a e n' m')) (.br e (.ret (qD d c FU n m)) (.br (oF M d c b a) (.ret (qD 0 0 FW 0 0))
  (.br (V (gcd (qG d c b a) M=1)) (.ret (qD (nL A M d c b a) (vR A M d c b a) FU k k)) (.ck (.iface T (.aa (gcd (qG d c b a) M) k))))))
def Dz:aG
 |[.st [.aa A i,.aa _ _,.aa M k],.st [.aa e n,.aa d m,.bool f],.st [.aa b n',.aa a m',.bool c]] =>
  FR (FR (i<=200/\k<=200/\n<=200/\m<=200/\n'<=200/\m'<=200/\0<M),Kv 215 A M e d f b a c k n m n' m')
 |_=>Do
def ahE(A B M a c b d:Z)(o f:N)(i j k n m n' m':U)(p:_)(C:p=(qG a c b d))(g:_)(z:g=(b-a))(e:_)(y:e=(c+d))(l:_)(x:l=(d-c))(s:_)(D:s=(a-(l *bS g M%M*(l *bS g M%M)-(a+b))%M))(r:_)(w:r=(nL A M a c b d))(q:_)(v:q=(vR A M a c b d))(h:_)(u:h=(a*a))(t:_)(E:t=(a-((3* h +A)*bS e M%M*((3* h +A)*bS e M%M)-(a+b))%M)):(bif o then bif o then aD b b n' n'/\aD d d m' m'/\f=f/\Q else bif f then aD b a n' n/\aD d c m' m/\f=FU/\Q else bif oF M a c b d then aD b 0 n' 0/\aD d 0 m' 0/\f=FW/\Q else bif V (gcd p M=1)then aD b r n' k/\aD d q m' k/\f=FU/\Q else J else bif f then bif o then aD a b n n'/\aD c d m m'/\o=f/\Q else bif f then aD a a n n/\aD c c m m/\o=FU/\Q else bif oF M a c b d then aD a 0 n 0/\aD c 0 m 0/\o=FW/\Q else bif V (gcd p M=1)then aD a r n k/\aD c q m k/\o=FU/\Q else J else (n<=1000000/\n'<=1000000)/\bif aY a b != 0 then (m'<=1000000/\m<=1000000)/\(n'<=1000000/\n<=1000000)/\(k<=1000/\max n' n+1<=5000/\0<M)/\bif V (gcd g M=1)then (k<=1000/\max m' m+1<=2000/\k<=2000/\0<M)/\(k<=1000000/\k<=1000000)/\(n<=1000000/\n'<=1000000)/\(k+k<=1000000/\max n n'+1<=1000000)/\(k<=1000/\max (k+k) (max n n'+1)+1<=5000/\0<M)/\(n<=1000000/\k<=1000000)/\(k<=1000000/\max n k+1<=1000000)/\(k+(max n k+1)<=1000000/\m<=1000000)/\(k<=1000/\max (k+(max n k+1)) m+1<=5000/\0<M)/\bif o then aD ((l *bS g M%M*(l *bS g M%M)-(a+b))%M) b k n'/\aD ((l *bS g M%M* s-c)%M) d k m'/\FU=f/\Q else bif f then aD ((l *bS g M%M*(l *bS g M%M)-(a+b))%M) a k n/\aD ((l *bS g M%M* s-c)%M) c k m/\FU=FU/\Q else bif oF M a c b d then aD ((l *bS g M%M*(l *bS g M%M)-(a+b))%M) 0 k 0/\aD ((l *bS g M%M* s-c)%M) 0 k 0/\FU=FW/\Q else bif V (gcd p M=1)then aD ((l *bS g M%M*(l *bS g M%M)-(a+b))%M) r k k/\aD ((l *bS g M%M* s-c)%M) q k k/\FU=FU/\Q else J else bif o then J else bif f then J else bif oF M a c b d then J else bif V (gcd p M=1)then J else (gcd g M:Z)=(gcd p M:Z)/\(k<=k\/S (gcd g M:Z)<2^k)else (m<=1000000/\m'<=1000000)/\(k<=1000/\max m m'+1<=5000/\0<M)/\bif dK (e %M)==0 then bif o then aD 0 b 0 n'/\aD 0 d 0 m'/\FW=f/\Q else bif f then aD 0 a 0 n/\aD 0 c 0 m/\FW=FU/\Q else bif oF M a c b d then aD 0 0 0 0/\aD 0 0 0 0/\FW=FW/\Q else bif V (gcd p M=1)then aD 0 r 0 k/\aD 0 q 0 k/\FW=FU/\Q else J else fX 3/\(n<=1000000/\n<=1000000)/\(64<=1000000/\n+n<=1000000)/\(64+(n+n)<=1000000/\i<=1000000)/\(m<=1000000/\m'<=1000000)/\(k<=1000/\max m m'+1<=5000/\0<M)/\bif V (gcd e M=1)then (k<=1000/\max (64+(n+n)) i+1<=2000/\k<=2000/\0<M)/\(k<=1000000/\k<=1000000)/\(n<=1000000/\n'<=1000000)/\(k+k<=1000000/\max n n'+1<=1000000)/\(k<=1000/\max (k+k) (max n n'+1)+1<=5000/\0<M)/\(n<=1000000/\k<=1000000)/\(k<=1000000/\max n k+1<=1000000)/\(k+(max n k+1)<=1000000/\m<=1000000)/\(k<=1000/\max (k+(max n k+1)) m+1<=5000/\0<M)/\bif o then aD (((3* h +A)*bS e M%M*((3* h +A)*bS e M%M)-(a+b))%M) b k n'/\aD (((3* h +A)*bS e M%M* t-c)%M) d k m'/\FU=f/\Q else bif f then aD (((3* h +A)*bS e M%M*((3* h +A)*bS e M%M)-(a+b))%M) a k n/\aD (((3* h +A)*bS e M%M* t-c)%M) c k m/\FU=FU/\Q else bif oF M a c b d then aD (((3* h +A)*bS e M%M*((3* h +A)*bS e M%M)-(a+b))%M) 0 k 0/\aD (((3* h +A)*bS e M%M* t-c)%M) 0 k 0/\FU=FW/\Q else bif V (gcd p M=1)then aD (((3* h +A)*bS e M%M*((3* h +A)*bS e M%M)-(a+b))%M) r k k/\aD (((3* h +A)*bS e M%M* t-c)%M) q k k/\FU=FU/\Q else J else bif o then J else bif f then J else bif oF M a c b d then J else bif V (gcd p M=1)then J else (gcd e M:Z)=(gcd p M:Z)/\(k<=k\/S (gcd e M:Z)<2^k))=aI (aK [Gd,eZ,zr,uB,SV,jP,kW,kJ,dJ] aC) D4 [fo A B M i j k,qD a c o n m,qD b d f n' m'] (AF (Kv 215 A M a c o b d f k n m n' m')):=by subst C z y x D w v u E;kernel_rfl
def ai6:dL D4 Dz:=by
 intro ms p r h x hf;unfold Dz at h;split at h
 .rename_i A i B j M k b n c m t f n' d m' s;cases h;obtain⟨h1,h2,h3,h4,h5,h6,l⟩:=x;refine⟨aK [Gd,eZ,zr,uB,SV,jP,kW,kJ,dJ] aC,?_⟩;rw[<-ahE A B M b c f d t s i j k n m n' m' _ rfl _ rfl _ rfl _ rfl _ rfl _ rfl _ rfl _ rfl _ rfl];cases t with
  |true=>exact⟨⟨rfl,.inl (Z0 _)⟩,⟨rfl,.inl (Z0 _)⟩,rfl,⟨⟩⟩
  |false =>
   cases s with
   |true=>exact⟨⟨rfl,.inl (Z0 _)⟩,⟨rfl,.inl (Z0 _)⟩,rfl,⟨⟩⟩
   |false =>
    simp only[Z5];refine⟨by omega,?_⟩;by_cases e:b=f
    .have u:(aY b f != 0)=FU:=by rw[kN.2 e];rfl
     have g:qG b c f d=c+d:=by unfold qG;rw[Y0 e];rfl
     have o:ga A b c f d=3*(b*b)+A:=by unfold ga;rw[Y0 e];rfl
     have w:oF M b c f d=V ((c+d)%M=0):=by unfold oF;rw[Y0 e,AB]
     have q:nL A M b c f d=((3*(b*b)+A)*bS (c+d) M%M*((3*(b*b)+A)*bS (c+d) M%M)-(b+f))%M:=by unfold nL fO;rw[g,o]
     have v:vR A M b c f d=((3*(b*b)+A)*bS (c+d) M%M*(b-nL A M b c f d)-c)%M:=by unfold vR fO;rw[g,o]
     rw[q]at v;simp only[u,Z5,Jg (vQ (a:=(c+d)%M)),w,g,q,v];refine⟨by omega,⟨by omega,by omega,l⟩,?_⟩;cases V ((c+d)%M=0)with
     |true=>exact⟨⟨by first|exact⟨⟩|rfl,.inl (Z0 _)⟩,⟨by first|exact⟨⟩|rfl,.inl (Z0 _)⟩,by first|exact⟨⟩|rfl,⟨⟩⟩
     |false =>
      simp only[Z5];refine⟨by omega,by omega,by omega,by omega,by omega,⟨by omega,by omega,l⟩,?_⟩;cases V (gcd (c+d) M=1)with
      |true =>
       simp only[Z6];exact⟨⟨by omega,by omega,by omega,l⟩,by omega,by omega,by omega,⟨by omega,by omega,l⟩,by omega,by omega,by omega,⟨by omega,by omega,l⟩,⟨by first|exact⟨⟩|rfl,.inl (Z0 _)⟩,⟨by first|exact⟨⟩|rfl,.inl (Z0 _)⟩,by first|exact⟨⟩|rfl,⟨⟩⟩
      |false=>exact⟨by first|exact⟨⟩|rfl,.inl (Z0 _)⟩
    .have u:(aY b f != 0)=FW:=by
      grind [aY,kN]
     have g:qG b c f d=f-b:=by unfold qG;rw[Y1 e];rfl
     have o:ga A b c f d=d-c:=by unfold ga;rw[Y1 e];rfl
     have w:oF M b c f d=FU:=by unfold oF;rw[Y1 e,AH]
     have q:nL A M b c f d=((d-c)*bS (f-b) M%M*((d-c)*bS (f-b) M%M)-(b+f))%M:=by unfold nL fO;rw[g,o]
     grind [vR,bS,nL,fO,gcd]
 .simp at h
def SS:ah AA:=⟨196,Dz,λargs w=>Tryz.call196 args w,aP bQ Tryz.func196 Dz ai6⟩
def XK(p q r:Addr)(w:L) :
  CallsD AA 203 #[.pointer (FR p),.pointer (FR q),.pointer (FR r)] .returning w λe u' w'=>e= .returned (.tuple #[])/\u'= .returning/\w'=w:=by
 refine callsD_of_wpS DH rfl λc₀ cs a=>?_;apply wpS_seq
 apply wpS_region
 simp[wpOpsS,go_sem,recoverD,a,DC,Exit.thenS];apply wpS_seq
 apply wpS_region
 simp[wpOpsS,go_sem,Exit.thenS];refine wpS_cond (t:=false) (by simp[CA,C3]) ?_;simp only[Bool.false_eq_true,if_false];refine wpS_of_wp (wp_skip ?_);cases c₀
 simp_all [bodyPostS,results,C4]
def X!(v:F)(w:L):(Instr.typeAssert (.iface 215 v) 20 215 FW).run AA w= .ok (.tuple #[v,.bool FW]) w:=by kernel_rfl
def wc:P aq:=[⟨FU,.one (qD 0 0 FU 0 0)⟩,⟨FU,.one (.aa 0 0)⟩,⟨FU,.one (.int .i64 0)⟩]
def zD(d:Z)(n:U):P aq:=[⟨FU,.one (qD 0 0 FU 0 0)⟩,⟨FU,.one (.aa d n)⟩,⟨FU,.one (.int .i64 6)⟩,⟨FU,.one (.aa d n)⟩]
def u?(d:Z)(n:U):MS:=⟨20, [(3,.iface 215 (.aa d n)),(0,.bp 0 0),(1,.bp 1 0),(2,.bp 2 0)],wc,3⟩
def aX:Code->Code
 |.seq _ b=>b
 |c=>c
def aeG:Code->Code
 |.cond _ a _=>a
 |c=>c
def qO(f:Func):Code:=f.body.getD .skip
def Oj{c:Ctx}{w:L}{t:FZ}{m:MV}{v:F}(h:af c w (.iface t m) v):∃u,v= .iface t u:=by
 obtain⟨cs,u,hv,tq,hu⟩:=b8 h rfl (by simp) rfl
 simp_all
def WH{c:Ctx}{w:L}{t:FZ}{d:Z}{n:U}{v:F}(h:af c w (.iface t (.aa d n)) v):∃b,v= .iface t (.agg b)/\cf c w (.aa d n) (.agg b):=by
 obtain⟨b,u,hv,a,e⟩:=b8 h rfl (by simp) rfl;simp only[B7,and_true]at hv;have e:u= .agg b.toArray:=e;subst e;exact⟨_,hv,(eM rfl).2 ⟨_,rfl,by simpa using a⟩⟩
def alG(l:P aq):Ex->MS->Prop
 |.normal,s=>s.bx=l
 |_,_=>J
def wC:Code->P Oper
 |.region _ ops _=>ops.toList
 |.seq a _=>wC a
 |_=> []
def Jj(d:Z)(n:U):MS:=⟨20, [(11,.tup [.aa d n,.bool FW]),(10,.iface 215 (.aa d n)),(8,.bool FW),(7,.iface 215 (.aa d n)),(3,.iface 215 (.aa d n)),(0,.bp 0 0),(1,.bp 1 0),(2,.bp 2 0)],wc,3⟩
noncomputable def uE:Code:=aeG (aX (aX (qO D2)))
def JX(d:Z)(n:U)(s':MS):Prop:=aZ (aK [] aC) (λ_=>J) (aX uE) s' (alG (zD d n))
def aa3(d:Z)(n:U):(zD d n=zD d n)=cV (aK [] aC) (wC uE) (λ_=>J) ((wC uE).drop 2) (Jj d n) (JX d n):=by kernel_rfl
set_option maxRecDepth 100000 in
def Xa(d:Z)(n:U){S:U->Prop}{w0:bw}{c:Ctx}{a:Act}{w:L}(h:St S w0 (u? d n) c a w){Q:Exit->Act->L->Prop}(B:∀s' c' a' w',s'.bx=zD d n->St S w0 s' c' a' w'->Q .normal a' w'):(aX (qO D2)).wp AA Q a w:=by
 refine wp_seq (wp_region_list ?_);refine eG (E:=aK [] aC) (m:= .iface 215 (.aa d n)) (p:=none) rfl rfl trivial h rfl λj q=>?_;have C:bD 7 ((u? d n).b? (FR 7) (MV.iface 215 (MV.aa d n))).tm= .iface 215 (.aa d n):=rfl;obtain⟨u,hv⟩:=Oj (C ▸ q.tm 7);refine pR (v:= .bool FW) rfl ?_ λI F=>?_
 .simp[execOp,CA,hv,go_sem]
 have g:=q.put (t:=8) (m:= .bool FW) (v:= .bool FW) (show 8<20 by decide) (eU _);rw[<-show I=j.put (FR 8) (.bool FW) from F]at g;refine wpList_nil ?_;refine wp_cond_true (gF (g.tm 8)) ?_;refine wp_seq (wp_region_list ?_);refine eG (E:=aK [] aC) (m:= .iface 215 (.aa d n)) (p:=none) rfl rfl trivial g rfl λH o=>?_;obtain⟨i,A,x⟩:=WH (show af c w (.iface 215 (.aa d n)) _ from o.tm 10);refine pR (v:= .tuple #[.agg i,.bool FW]) rfl ?_ λr D=>?_
 .simp[execOp,CA,A,X!]
 have l:=o.put (t:=11) (m:= .tup [.aa d n,.bool FW]) (v:= .tuple #[.agg i,.bool FW]) (show 11<20 by decide) ⟨_,rfl,_,_,rfl,x,_,_,rfl,rfl,rfl⟩;rw[<-show r=H.put (FR 11) (.tuple #[.agg i,.bool FW]) from D]at l;have z:cV (aK [] aC) (wC uE) (λ_=>J) ((wC uE).drop 2) (Jj d n) (JX d n):=by rw[<-aa3 d n]
 refine cH (E:=aK [] aC) (Kp:=λ_=>J) (λ_ _ _ _ b=>b.elim) _ (Jj d n) (JX d n) c r w z l λs' c' a' w' b y _=>?_
 .refine bJ bQ _ s' _ c' a' w' Q b y (λe s2 G j s f k=>?_) (λ_ _ _ _ b=>b.elim);cases e with
  |normal=>exact B s2 G j s f k
  |_=>exact f.elim
set_option maxRecDepth 100000 in
def Yu{S:U->Prop}{w0:bw}{c:Ctx}{w:L}(m:Mem S w0 wc c w)(j:∀i,i<3->c.live i){d:Z}{n:U}{v:F}(hv:cf c w (.iface 215 (.aa d n)) v) :
  CallsD AA 203 #[.pointer (FR ⟨c.β 0,0,Do⟩),.pointer (FR ⟨c.β 1,0,Do⟩),.pointer (FR ⟨c.β 2,0,Do⟩)] (.panicking [{ v,recovered:=false }]) w λe u' w' =>
   e= .returned (.tuple #[])/\u'= .panicking [{ v,recovered:=true }]/\∃c',Mem S ⟨w0.w,w0.X,λi b z=>i<3/\b=c.β i/\z=c.sz i, []⟩ (zD d n) c' w':=by
 refine callsD_of_wpS DH rfl λc₀ cs k=>?_;refine wpS_seq (wpS_region ?_);obtain⟨u,rfl⟩:=Oj (show af c w _ v from hv);simp[wpOpsS,go_sem,recoverD,k,DC,Exit.thenS];have f:∀i,i<3->af c w (.bp i 0) (.pointer (FR ⟨c.β i,0,Do⟩)):=λi l=>aT rfl (by simp) rfl ⟨j i l,rfl⟩;have a:∀T:F0 F,T=#[A7 (FR { block:=c.β 0,off:=0 }),A7 (FR { block:=c.β 1,off:=0 }),A7 (FR { block:=c.β 2,off:=0 })]++((C3 17 undef).setIfInBounds 3 (DG 215 u)).setIfInBounds 0 (DG 215 u)->
   St S ⟨w0.w,w0.X,λi b z=>i<3/\b=c.β i/\z=c.sz i, []⟩ (u? d n) c { tmps:=T,defers:=[] } w:=by
  intro T a;have r:T.getD 0 undef= .pointer (FR ⟨c.β 0,0,Do⟩):=by rw[a];simp[A0]
  have q:T.getD 1 undef= .pointer (FR ⟨c.β 1,0,Do⟩):=by rw[a];simp[A0]
  have p:T.getD 2 undef= .pointer (FR ⟨c.β 2,0,Do⟩):=by rw[a];simp[A0]
  have o:T.getD 3 undef= .iface 215 u:=by rw[a];simp[A0]
  refine⟨m.yd _ _ (λi b z h=>⟨j i h.1,h.2.1.symm,h.2.2.symm⟩),λt=>?_,by rw[a];simp[u?],rfl,λi b z h=>(show nH 3 i=FW from jI (by decide) h.1)⟩;show af c w (bD t (u? d n).tm) (T.getD t undef)
  match t with
  |0=>rw[r];exact f 0 (by decide)
  |1=>rw[q];exact f 1 (by decide)
  |2=>rw[p];exact f 2 (by decide)
  |3=>rw[o];exact hv
  |t+4=>exact⟨⟩
 refine wpS_of_wp (Xa d n (a _ rfl) ?_);intro s' c' a' w' Lu g;refine⟨g.defers,.panicking [{ v:= .iface 215 u,recovered:=true }],rfl,.tuple #[],?_,rfl,rfl,c',?_⟩
 .simp[results,C4]
 .have:=g.mem
  simp_all
def uV:cj->G cj
 |.ret m=>(match m with
  |.st [.aa X n,.aa Y m,.bool o]=>FR (.ret (.tup [qD X Y o n m,.aa 0 0,.int .i64 0]))
  |_=>Do)
 |.ck m=>(match m with
  |.iface t (.aa d n)=>g (t.beq 215) (FR (.ret (.tup [qD 0 0 FU 0 0,.aa d n,.int .i64 6]))) Do
  |_=>Do)
 |.br b x y=>(match uV x,uV y with
  |some x',FR y'=>FR (.br b x' y')
  |_,_=>Do)
theorem lE{c:Ctx}{w:L}{e:Ending}:∀(r r':cj),uV r=FR r'->r.holds c w e->
  (∃X Y o n m v,e= .returned v/\af c w (qD X Y o n m) v/\∀c' w' v',af c' w' (.tup [qD X Y o n m,.aa 0 0,.int .i64 0]) v'->r'.holds c' w' (.returned v'))\/
  (∃d n v,e= .panicked [{ v,recovered:=false }]/\cf c w (.iface 215 (.aa d n)) v/\∀c' w' v',af c' w' (.tup [qD 0 0 FU 0 0,.aa d n,.int .i64 6]) v'->r'.holds c' w' (.returned v'))
 |.ret m,r',h,a=>by
  simp only[uV]at h;split at h
  .rename_i X n Y m o;simp only[Z1]at h;subst h;cases e<;>first|exact a.elim|skip
   rename_i v;exact .inl ⟨X,Y,o,n,m,v,rfl,a,λ_ _ _ h=>h⟩
  .simp at h
 |.ck m,r',h,a=>by
  simp only[uV]at h;split at h
  .rename_i t d n;cases j:t.beq 215 with
   |false=>rw[j]at h;simp at h
   |true =>
    rw[j,Z6]at h;simp only[Nat.beq_eq]at j;subst j;simp only[Z1]at h;subst h;cases e<;>first|exact a.elim|skip
    obtain⟨v,rfl,p⟩:=a;exact .inr ⟨d,n,v,rfl,p,λ_ _ _ h=>h⟩
  .simp at h
 |.br b x y,r',h,a=>by
  simp only[uV]at h;split at h
  .rename_i x' y' l k;simp only[Z1]at h;subst h;simp only[DZ]at a;cases b with
   |true =>
    rcases lE x x' l a with ⟨X,Y,o,n,m,v,i,g,f⟩|⟨d,n,v,i,g,f⟩
    .exact .inl ⟨X,Y,o,n,m,v,i,g,f⟩
    .exact .inr ⟨d,n,v,i,g,f⟩
   |false =>
    rcases lE y y' k a with ⟨X,Y,o,n,m,v,i,g,f⟩|⟨d,n,v,i,g,f⟩
    .exact .inl ⟨X,Y,o,n,m,v,i,g,f⟩
    .exact .inr ⟨d,n,v,i,g,f⟩
  .simp at h
def cN:Code->Code
 |.seq a _=>a
 |c=>c
def F?(t:MS):Ex->MS->Prop
 |.normal,s=>s=t
 |_,_=>J
def we(f:U)(au:P MV):MS:=⟨9, [(4,.bp 2 0),(3,.bp 1 0),(2,.bp 0 0),(0,.fn f au)],wc,0⟩
def aga(f:U)(au:P MV):(we f au=we f au)=aZ (aK [] aC) (λ_=>J) (cN (qO CV)) ⟨9,dQ 0 [.fn f au], [],0⟩ (F? (we f au)):=by kernel_rfl
def Km(f:U)(au:P MV)(X Y:Z)(o:N)(n m:U):MS:=⟨9, [(7,qD X Y o n m),(6,.fn f au),(5,.fn 203 [.bp 0 0,.bp 1 0,.bp 2 0]),(4,.bp 2 0),(3,.bp 1 0),(2,.bp 0 0),(0,.fn f au)],wc,0⟩
def sx(f:U)(au:P MV)(X Y:Z)(o:N)(n m:U):MS:=⟨9, [(8,.aa 0 0),(7,qD X Y o n m),(6,.fn f au),(5,.fn 203 [.bp 0 0,.bp 1 0,.bp 2 0]),(4,.bp 2 0),(3,.bp 1 0),(2,.bp 0 0),(0,.fn f au)], [⟨FU,.one (qD X Y o n m)⟩,⟨FU,.one (.aa 0 0)⟩,⟨FU,.one (.int .i64 0)⟩],0⟩
def Fb:P Oper:=wC (aX (aX (qO CV)))
def agb(f:U)(au:P MV)(X Y:Z)(o:N)(n m:U):(sx f au X Y o n m=sx f au X Y o n m)=cV (aK [] aC) Fb (λ_=>J) (Fb.drop 2) (Km f au X Y o n m) (λs'=>s'=sx f au X Y o n m):=by kernel_rfl
def agc(f:U)(au:P MV)(X Y:Z)(o:N)(n m:U):jF AA (sx f au X Y o n m) Tryz.f194.results.toList=FR (Do, [qD X Y o n m,.aa 0 0,.int .i64 0]):=by kernel_rfl
def acY(d:Z)(n:U):jF AA ⟨9, [(2,.bp 0 0),(3,.bp 1 0),(4,.bp 2 0)],zD d n,3⟩ Tryz.f194.results.toList=FR (Do, [qD 0 0 FU 0 0,.aa d n,.int .i64 6]):=by kernel_rfl
set_option maxRecDepth 100000 in
def ajW(k:ah AA)(au:F1 MV)(p:bq)(r r':cj)(hs:k.spec au=FR (p,r))(hp:p.holds)(hm:uV r=FR r')(K8:nE FW au=FW)(S:F2->Prop)(w:World)(args:F0 Value)(hS:∀b,S b->b<w.heap.size)(hG:GW S w)(ha:cr (B9 S) w [.fn k.f au] args.toList):Calls AA 194 args w λe w'=>Ext w w'/\r'.holds (C2 S) w' e:=by
 have R:=St.start (n:=9) hS hG ha (by simp);have Hr:aZ (aK [] aC) (λ_=>F3) (cN (qO CV)) ⟨9,dQ 0 [.fn k.f au], [],0⟩ (F? (we k.f au)):=by rw[<-aga k.f au]
 refine calls_of_wp_defers Tryz.func194 rfl ?_;refine wp_seq (bJ bQ _ _ _ _ _ w _ Hr R (λe s' g a1 I j Q=>?_) (λ_ _ _ _ j=>j.elim));cases e with
 |exit _=>exact j.elim
 |ret=>exact j.elim
 |normal =>
 have j:s'=we k.f au:=j;subst j;refine wp_seq (wp_region_list ?_);refine eG (E:=aK [] aC) (m:= .fn 203 [.bp 0 0,.bp 1 0,.bp 2 0]) (p:=none) rfl rfl trivial Q rfl λa2 q=>?_;obtain⟨cs,L,qy,_⟩:=b8 (show af g I (.fn 203 [.bp 0 0,.bp 1 0,.bp 2 0]) (a2.tmps.getD 5 undef) from q.tm 5) rfl (by simp) rfl;simp only[B7,and_true]at L;obtain⟨_,_,rfl,⟨Vg,rfl⟩,_,_,rfl,⟨Lh,rfl⟩,_,_,rfl,⟨Hv,rfl⟩,rfl⟩:=qy
 let d:Deferred:={ target:= .fn (.func 203) #[A7 (FR ⟨g.β 0,0,Do⟩),A7 (FR ⟨g.β 1,0,Do⟩),A7 (FR ⟨g.β 2,0,Do⟩)],args:=#[] }
 refine Ml (d:=d) rfl rfl ?_ ?_
 .simp[execOp,resolve,B5,CA,L,d]
 have C:=q.defer [d];rw[q.defers];generalize ({ a2 with defers:=[d] }:Act)=a3 at C⊢;refine wpList_nil ?_;refine wp_seq (wp_region_list ?_);refine eG (E:=aK [] aC) (m:= .fn k.f au) (p:=none) rfl rfl trivial C rfl λJ a=>?_;obtain⟨A,K,T,an1⟩:=b8 (show af g I (.fn k.f au) (J.tmps.getD 6 undef) from a.tm 6) rfl (by simp) rfl;simp only[B7,and_true]at K;have U:=Ok _ _ (cg.clean (c:=g) (c':=B9 g.S) (r:=true) (λb D=>D) (λ_ b D=>D.elim) au A K8 T) an1;have hC:=k.ok g.S I au A.toArray p r hs hp a.mem.fh a.mem.gw (by simpa using U);refine tK (f:=k.f) (args:=A.toArray) rfl ?_ hC ?_ ?_ ?_
 .have:=k.call A.toArray I;simp[execOp,resolve,B5,CA,K,invoke,this]
 .rintro v V ⟨x,hh⟩
  rcases lE r r' hm hh with ⟨X,Y,o,n,m,v',y,Z,u⟩|⟨d',n,v',y,_⟩
  .simp only[Ending.returned.injEq]at y;subst y;obtain⟨H,N⟩:=a.mem.grow x;have O:=(a.iw (s':=_) N H rfl rfl rfl).put (t:=7) (v:=v) (show 7<9 by decide) (zq Z (λb D=>D));have aog:cV (aK [] aC) Fb (λ_=>F3) (Fb.drop 2) (Km k.f au X Y o n m) (λs'=>s'=sx k.f au X Y o n m):=by rw[<-agb k.f au X Y o n m]
   refine cH (E:=aK [] aC) (Kp:=λ_=>F3) (λ_ _ _ _ j=>j.elim) _ (Km k.f au X Y o n m) (λs'=>s'=sx k.f au X Y o n m) g _ V aog O λs' c3 a5 w3 j l _=>?_;subst j;refine wp_ret ?_;show Leaves _ _ _ _ a5.defers _ _;rw[l.defers];refine leaves_cons (f:=203) (args:=#[.pointer (FR ⟨g.β 0,0,Do⟩),.pointer (FR ⟨g.β 1,0,Do⟩),.pointer (FR ⟨g.β 2,0,Do⟩)]) (by simp) (by simp[go_sem]) ?_;refine(XK _ _ _ _).mono ?_
   rintro e u' iq ⟨rfl,rfl,rfl⟩
   obtain⟨W,F,s⟩:=l.results (P:=AA) (agc k.f au X Y o n m);exact⟨W,F,l.mem.ext.free (λ_ h=>h),u _ _ _ s⟩
  .simp at y
 .rintro chain V ⟨x,hh⟩
  rcases lE r r' hm hh with ⟨X,Y,o,n,m,v',y,_⟩|⟨d',n,v,y,Z,u⟩
  .simp at y
  .simp only[Ending.panicked.injEq]at y;subst y;obtain⟨H,N⟩:=a.mem.grow x;show Leaves _ _ _ _ J.defers _ _;rw[a.defers];refine leaves_cons (f:=203) (args:=#[.pointer (FR ⟨g.β 0,0,Do⟩),.pointer (FR ⟨g.β 1,0,Do⟩),.pointer (FR ⟨g.β 2,0,Do⟩)]) (by simp) (by simp[go_sem]) ?_;refine(Yu H (λi hi=>?_) (d:=d') (n:=n) (v:=v) ?_).mono ?_
   .grind
   .exact zq (show af (C2 g.S) V (.iface 215 (.aa d' n)) v from Z) (λb D=>D)
   rintro e u' iq ⟨rfl,rfl,c',M⟩
   have G:∀t i,i<3->af g I (.bp i 0) (J.tmps.getD t undef)->af c' iq (.bp i 0) (J.tmps.getD t undef):=by
    intro t i hi h;obtain⟨_,h2⟩:=eN h;obtain⟨q1,q2,_⟩:=M.b4 i _ _ ⟨hi,rfl,rfl⟩;rw[h2,<-q2];exact aT rfl (by simp) rfl ⟨q1,rfl⟩
   have B:St S ⟨w,λ_=>F3,λi b z=>i<3/\b=g.β i/\z=g.sz i, []⟩ ⟨9, [(2,.bp 0 0),(3,.bp 1 0),(4,.bp 2 0)],zD d' n,3⟩ c' { J with defers:=[] } iq:=by
    refine⟨M,λt=>?_,a.size,rfl,λi b z h=>(show nH 3 i=FW from jI (by decide) h.1)⟩
    match t with
    |0=>exact⟨⟩
    |1=>exact⟨⟩
    |2=>exact G 2 0 (by decide) (a.tm 2)
    |3=>exact G 3 1 (by decide) (a.tm 3)
    |4=>exact G 4 2 (by decide) (a.tm 4)
    |t+5=>exact⟨⟩
   obtain⟨W,F,s⟩:=B.results (P:=AA) (acY d' n);exact⟨W,F,B.mem.ext.free (λ_ h=>h),u _ _ _ s⟩
 .grind [lE]
inductive TR where
 |pt (X Y:Int) (o:Bool)
 |dv (d:Int)
def aQ(A M d c:Z)(f:N)(b a:Z)(e:N):TR :=
 g f (.pt b a e) (g e (.pt d c FU) (g (oF M d c b a) (.pt 0 0 FW)
  (g (V (gcd (qG d c b a) M=1)) (.pt (nL A M d c b a) (vR A M d c b a) FU) (.dv (gcd (qG d c b a) M)))))
def TR.X:TR->Z
 |.pt x _ _=>x
 |.dv _=>0
def TR.Y:TR->Z
 |.pt _ y _=>y
 |.dv _=>0
def TR.o:TR->N
 |.pt _ _ o=>o
 |.dv _=>FU
def TR.d:TR->Z
 |.pt _ _ _=>0
 |.dv d=>d
def TR.ok:TR->N
 |.pt _ _ _=>FW
 |.dv _=>FU
def gC(A M:Z):TR->TR->TR
 |.pt a b c,.pt x y z=>aQ A M a b c x y z
 |.dv d,_=>.dv d
 |.pt _ _ _,.dv d=>.dv d
def cL(A M:Z)(p:TR)(n:U):TR :=
 if n=0 then .pt 0 0 FW else
  let a:=cL A M p (n/2)
  g (V (n%2=1)) (gC A M (gC A M a a) p) (gC A M a a)
termination_by n
decreasing_by omega
def HP(T:FZ)(k:U)(r:TR):cj:= .br r.ok (.ret (qD r.X r.Y r.o k k)) (.ck (.iface T (.aa r.d k)))
def TO(c:Ctx):ft 0 c c:=⟨λ_ h=>h,λ_ h=>h,λi hi=>by omega⟩
def zx{c:Ctx}{w:L}{e:Ending}{X Y:Z}{o:N}{n m n' m':U}(h:(cj.ret (qD X Y o n m)).holds c w e)(a:n<=n')(b:m<=m'):(cj.ret (qD X Y o n' m')).holds c w e:=by
 cases e<;>first|exact h.elim|skip
 exact yP (TO c) (m:=qD X Y o n m) (m':=qD X Y o n' m') ⟨⟨rfl,.inl a⟩,⟨rfl,.inl b⟩,rfl,trivial⟩ h
def abw{c:Ctx}{w:L}{e:Ending}{T:FZ}{d:Z}{n n':U}(h:(cj.ck (.iface T (.aa d n))).holds c w e)(hn:n<=n'):(cj.ck (.iface T (.aa d n'))).holds c w e:=by
 cases e<;>first|exact h.elim|skip
 obtain⟨v,b,a⟩:=h;refine⟨v,b,?_⟩;have:=yP (TO c) (m:= .iface T (.aa d n)) (m':= .iface T (.aa d n')) (by
  show eI 0 (.iface T (.aa d n)) (.iface T (.aa d n'))
  simp_all [eI,MV.isAgg]) (show af c w (.iface T (.aa d n)) v from a)
 exact this
def Jk:aG
 |[.st [.aa A i,.aa _ _,.aa M k],.st [.aa e n,.aa d m,.bool f],.st [.aa b n',.aa a m',.bool c]] =>
  FR (FR (i<=200/\k<=200/\n<=200/\m<=200/\n'<=200/\m'<=200/\0<M),HP 215 200 (aQ A M e d f b a c))
 |_=>Do
def agL:∀l p r,Jk l=FR (p,r)->p.holds->∃p' r',SS.spec l=FR (p',r')/\p'.holds/\∀o w e,r'.holds o w e->r.holds o w e:=by
 intro l p r h C;unfold Jk at h;split at h
 .rename_i A i B j M k g n f m s d n' c m' q;simp only[Z1,Z2]at h;obtain⟨rfl,rfl⟩:=h;obtain⟨E,b,z,y,x,v,D⟩:i<=200/\k<=200/\n<=200/\m<=200/\n'<=200/\m'<=200/\0<M:=C;refine⟨_,_,rfl,⟨E,b,z,y,x,v,D⟩,λo w e h=>?_⟩;unfold Kv at h;unfold HP;generalize a:aQ A M g f s d c q=R;unfold aQ at a;simp only[DZ]at h⊢;cases s with
  |true=>rw[Z6]at a h;subst a;exact zx h x v
  |false =>
   rw[Z5]at h a;cases q with
   |true=>rw[Z6]at a h;subst a;exact zx h z y
   |false =>
    rw[Z5]at h a;cases t:oF M g f d c with
    |true=>rw[t,Z6]at a h;subst a;exact zx h (Z9 _) (Z9 _)
    |false =>
     rw[t,Z5]at h a;cases u:V (gcd (qG g f d c) M=1)with
     |true=>rw[u,Z6]at a h;subst a;exact zx h b b
     |false=>rw[u,Z5]at a h;subst a;exact abw h b
 .simp at h
def Rb:ah AA:=SS.weaken Jk agL
abbrev iu:=Nat×Z×Z×N
def apU(z A B M b a:Z)(c:N)(t i j k n m:U)(q:iu):MS :=
 ⟨34, [(0,.ref (.aa z t)),(1,.ref (fo A B M i j k)),(2,.ref (qD b a c n m)),(3,.bp 0 0),(4,.bp 1 0),(5,.int .i64 ((q.1:Z)-1))],
  [⟨FU,.one (qD 0 0 FU 0 0)⟩,⟨FU,.one (qD q.2.1 q.2.2.1 q.2.2.2 200 200)⟩],0⟩
def OQ(z A B M b a:Z)(c:N)(t i j k n m:U):U->MS->G bt
 |3,_=>FR (.inv iu (λq=>q.1<=bl z.natAbs/\cL A M (.pt b a c) (z.natAbs/2^q.1)= .pt q.2.1 q.2.2.1 q.2.2.2) (apU z A B M b a c t i j k n m) (λq=>q.1))
 |_,_=>Do
def Ad:aG
 |[.ref (.aa z t),.ref (.st [.aa A i,.aa _ _,.aa M k]),.ref (.st [.aa b n,.aa a m,.bool c])] =>
  FR (FR (t<=100000/\i<=200/\k<=200/\n<=200/\m<=200/\0<M),HP 215 200 (cL A M (.pt b a c) z.natAbs))
 |_=>Do
def aat(z A B M b a:Z)(c:N)(t i j k n m:U)(g:_)(r:g=(cL A M (TR.pt b a c) (S z)))(e:_)(q:e=λ(ae:iu)=>(AE (AE ae)))(h:_)(p:h=λ(ae:iu)=>(AD (AE ae)))(f:_)(u:f=λ(ae:iu)=>(aQ A M (h ae) (AD (e ae)) (AE (e ae)) (h ae) (AD (e ae)) (AE (e ae))))(l:_)(s:l=λ(ae:iu)=>(aQ A M (TR.X (f ae)) (TR.Y (f ae)) (TR.o (f ae)) b a c)):(t<=1000000/\(∃ae,(AD ae<=bl (S z)/\cL A M (TR.pt b a c) (S z/2^AD ae)=TR.pt (h ae) (AD (e ae)) (AE (e ae)))/\(aD z z t t/\(aD A A i i/\aD B B j j/\aD M M k k/\Q)/\(aD b b n n/\aD a a m m/\c=c/\Q)/\0=0/\0=0/\O FV ((bl (S z):Z)-1)=(↑(AD ae):Z)-1/\Q)/\(aD 0 0 0 0/\aD 0 0 0 0/\FU=FU/\Q)/\(aD 0 (h ae) 0 200/\aD 0 (AD (e ae)) 0 200/\FW=AE (e ae)/\Q)/\Q)/\∀(ae:iu),AD ae<=bl (S z)/\cL A M (TR.pt b a c) (S z/2^AD ae)=TR.pt (h ae) (AD (e ae)) (AE (e ae))->bif V ((↑(AD ae):Z)-1≥0)then (i<=200/\k<=200/\200<=200/\200<=200/\200<=200/\200<=200/\0<M)/\bif TR.ok (f ae)then ((32:Z)=0->J)/\(0<=O FV (D ((↑(AD ae):Z)-1) 32)/\O FV (D ((↑(AD ae):Z)-1) 32)<(H (aA (S z)):Z))/\((32:Z)=0->J)/\0<=T ((↑(AD ae):Z)-1) 32/\bif O FT (AI (R (AC FT) (fdiv (K (aA (S z)) (I (O FV (D ((↑(AD ae):Z)-1) 32))) 0) ((2:Z)^min (I (T ((↑(AD ae):Z)-1) 32)) (AC FT))) &&&R (AC FT) 1):Z)==1 then (i<=200/\k<=200/\200<=200/\200<=200/\n<=200/\m<=200/\0<M)/\bif TR.ok (l ae)then ∃cp,(AD cp<=bl (S z)/\cL A M (TR.pt b a c) (S z/2^AD cp)=TR.pt (AD (AE cp)) (AD (AE (AE cp))) (AE (AE (AE cp))))/\((aD z z t t/\(aD A A i i/\aD B B j j/\aD M M k k/\Q)/\(aD b b n n/\aD a a m m/\c=c/\Q)/\0=0/\0=0/\O FV ((↑(AD ae):Z)-1-1)=(↑(AD cp):Z)-1/\Q)/\(aD 0 0 0 0/\aD 0 0 0 0/\FU=FU/\Q)/\(aD (TR.X (l ae)) (AD (AE cp)) 200 200/\aD (TR.Y (l ae)) (AD (AE (AE cp))) 200 200/\TR.o (l ae) =AE (AE (AE cp))/\Q)/\Q)/\AD cp<AD ae else bif TR.ok g then J else TR.d (l ae) =TR.d g/\(200<=200\/S (TR.d (l ae))<2^200)else ∃cp,(AD cp<=bl (S z)/\cL A M (TR.pt b a c) (S z/2^AD cp)=TR.pt (AD (AE cp)) (AD (AE (AE cp))) (AE (AE (AE cp))))/\((aD z z t t/\(aD A A i i/\aD B B j j/\aD M M k k/\Q)/\(aD b b n n/\aD a a m m/\c=c/\Q)/\0=0/\0=0/\O FV ((↑(AD ae):Z)-1-1)=(↑(AD cp):Z)-1/\Q)/\(aD 0 0 0 0/\aD 0 0 0 0/\FU=FU/\Q)/\(aD (TR.X (f ae)) (AD (AE cp)) 200 200/\aD (TR.Y (f ae)) (AD (AE (AE cp))) 200 200/\TR.o (f ae) =AE (AE (AE cp))/\Q)/\Q)/\AD cp<AD ae else bif TR.ok g then J else TR.d (f ae) =TR.d g/\(200<=200\/S (TR.d (f ae))<2^200)else bif TR.ok g then aD (h ae) (TR.X g) 200 200/\aD (AD (e ae)) (TR.Y g) 200 200/\AE (e ae) =TR.o g/\Q else J)=aI (aK [Rb,sd] (OQ z A B M b a c t i j k n m)) D5 [.ref (.aa z t),.ref (fo A B M i j k),.ref (qD b a c n m)] (AF (HP 215 200 (cL A M (.pt b a c) z.natAbs))):=by subst r q p u s;kernel_rfl
theorem rK(A M:Z)(p:TR):cL A M p 0= .pt 0 0 FW:=by rw[cL];simp
def uZ{A M:Z}{p:TR}{n:U}(h:n≠0):cL A M p n=g (V (n%2=1)) (gC A M (gC A M (cL A M p (n/2)) (cL A M p (n/2))) p) (gC A M (cL A M p (n/2)) (cL A M p (n/2))):=by
 rw[cL];simp[h]
def aft{A M:Z}{p:TR}{n:U}{d:Z}(h:cL A M p (n/2)= .dv d):cL A M p n= .dv d:=by
 have a:n≠0:=by intro e;subst e;rw[rK]at h;simp at h
 rw[uZ a,h];cases V (n%2=1)<;>rfl
theorem uY{A M:Z}{p:TR}{n:U}{d:Z}:∀(k:U),cL A M p (n/2^k)= .dv d->cL A M p n= .dv d
 |0,h=>by simpa using h
 |k+1,h=>uY k (aft (by rw[AQ,<-AY];exact h))
def ab1:dL D5 Ad:=by
 intro ms p r h O P;unfold Ad at h;split at h
 .rename_i z t A i B j M k g n f m l;cases h;obtain⟨h0,K,J,S,R,I⟩:=O;refine⟨aK [Rb,sd] (OQ z A B M g f l t i j k n m),?_⟩;rw[<-aat z A B M g f l t i j k n m _ rfl _ rfl _ rfl _ rfl _ rfl];have F:z.natAbs<2^t:=P.1;have C:bl z.natAbs<=t:=fQ F;have x:=oW z.natAbs;have y:=m4 z.natAbs;generalize hN:z.natAbs=N at F C x y⊢;refine⟨by omega,⟨(bl N,0,0,FW),?_⟩,?_⟩
  .grind [cL,bl,BB,rK,aV]
  .rintro⟨b,X,Y,o⟩ ⟨s,a⟩
   have s:b<=bl N:=s;have a:cL A M (.pt g f l) (N/2^b)= .pt X Y o:=a;dsimp only;rw[AR];split
   .rename_i Q;obtain⟨c,rfl⟩:∃c,b=c+1:=⟨b-1,by omega⟩;have e1:((c+1:F2):F4)-1=(c:F2):=by omega
    have Z:F5 (c:F4) 32=((c/32:F2):F4):=rfl;have W:tmod (c:F4) 32=((c%32:F2):F4):=rfl;have V:FX FV ((c/32:F2):F4)=((c/32:F2):F4):=aV (by omega) (by omega);have U:FX FV ((c:F2)-1:F4)=(c:F2)-1:=aV (by omega) (by omega);have e6:(2:F2)^c<=N:=by
     have u:N≠0:=by intro e;subst e;rw[vX]at s;omega
     exact CH (AN (by omega) (by omega)) (zU u)
    have u:N/2^c≠0:=by
     simp_all
    have T:N/2^c/2=N/2^(c+1):=by rw[AQ,<-AY]
    have q:cL A M (.pt g f l) (N/2^c)=cond (FY (N/2^c%2=1)) (gC A M (aQ A M X Y o X Y o) (.pt g f l)) (aQ A M X Y o X Y o):=by
     rw[uZ u,T,a];rfl
    have Le:c/32<(aA N).length:=by
     rcases CG (c/32) (aA N).length with h|h
     .exact h
     .exfalso;have h8:4294967296^(aA N).length<=2^c:=by
       rw[jJ];exact AN (by omega) (by omega)
      omega
    have v:=tZ N c;simp only[e1,Z,W,V,U,Z8,v];refine⟨⟨K,J,by omega,by omega,by omega,by omega,I⟩,?_⟩;cases H:aQ A M X Y o X Y o with
    |dv d =>
     simp only[TR.ok,TR.d,Z5];have arM:cL A M (.pt g f l) N= .dv d:=uY c (by rw[q,H];cases FY (N/2^c%2=1)<;>rfl)
     simp_all
    |pt X2 Y2 w =>
     simp only[TR.ok,TR.X,TR.Y,TR.o,Z6];refine⟨by omega,by omega,by omega,by omega,?_⟩;rw[H]at q;cases G:FY (N/2^c%2=1)with
     |false =>
      rw[G,Z5]at q;rw[Z5];refine⟨(c,X2,Y2,w),⟨by dsimp only;omega,q⟩,?_,by dsimp only;omega⟩
      grind
     |true =>
      rw[G,Z6]at q;rw[Z6];refine⟨⟨K,J,by omega,by omega,S,R,I⟩,?_⟩;have q:cL A M (.pt g f l) (N/2^c)=aQ A M X2 Y2 w g f l:=q;cases E:aQ A M X2 Y2 w g f l with
      |dv d =>
       grind [TR.d,cL,uY]
      |pt X3 Y3 L =>
       rw[Z6];refine⟨(c,X3,Y3,L),⟨by dsimp only;omega,q.trans E⟩,?_,by dsimp only;omega⟩
       grind
   .rename_i Q;have D:b=0:=by omega
    subst D;have a:cL A M (.pt g f l) N= .pt X Y o:=by simpa using a
    rw[a];exact⟨⟨rfl,.inl (Z0 _)⟩,⟨rfl,.inl (Z0 _)⟩,rfl,⟨⟩⟩
 .simp at h
def aa1:ah AA:=⟨195,Ad,λargs w=>Tryz.call195 args w,aP bQ Tryz.func195 Ad ab1⟩
def amk:P (ah AA):=[aa1]
def T1:aG
 |[.fn f au]=>(match wG f amk with
  |some k=>(match k.spec au with
   |some (p,r)=>(match uV r with
    |some r'=>g (nE FW au) (FR (p,r')) Do
    |none=>Do)
   |none=>Do)
  |none=>Do)
 |_=>Do
def TN:ah AA:=⟨194,T1,λargs w=>Tryz.call194 args w,λS w ms args p r a h l m j=>by
 unfold T1 at a;split at a
 .rename_i f au;split at a
  .rename_i k i;have c:=Ig i;subst c;split at a
   .rename_i g e o;split at a
    .rename_i d n;cases b:nE FW au with
     |false=>rw[b]at a;simp at a
     |true =>
      rw[b,Z6]at a;simp only[Z1,Z2]at a;obtain⟨rfl,rfl⟩:=a;exact ajW k au g e d o h n b S w args l m j
    .simp at a
   .simp at a
  .simp at a
 .simp at a⟩
structure RS where
 X:Int
 Y:Int
 o:Bool
 d:Int
 e:Int
def TR.rs(r:TR):RS:=⟨r.X,r.Y,r.o,r.d,g r.ok 0 6⟩
def RS.arg:RS:=⟨0,0,FU,0,1⟩
def lh(M Y:Z)(o:N):Z:=cond o Y (-Y%M)
def bH(A B M z c a:Z)(b:N):RS:=cond (nR A B M c a b) (cL A M (.pt c (g (V (z<0)) (lh M a b) a) b) z.natAbs).rs .arg
def KL(r:RS):MV:= .tup [qD r.X r.Y r.o 200 200,.aa r.d 200,.int .i64 r.e]
def RR{A B M X Y:Z}{o:N}(h:nR A B M X Y o=FW):3<M:=by
 unfold nR cS at h;simp only[Z3,BO,decide_eq_false_iff_not]at h;omega
def uz:aG
 |[.st [.aa A i,.aa B j,.aa M k],.aa z t,.st [.aa b n,.aa a m,.bool c]] =>
  FR (FR (t<=100000/\i<=200/\j<=200/\k<=200/\n<=200/\m<=200),.ret (KL (bH A B M z b a c)))
 |_=>Do
def ac3(A B M z c b:Z)(l:N)(t i j k n m:U)(a:_)(s:a=(bH A B M z c b l))(h:_)(r:h=(cL A M (TR.pt c (-b%M) FU) (S z)))(g:_)(q:g=(cL A M (TR.pt c b FW) (S z)))(f:_)(p:f=(cL A M (TR.pt c b l) (S z))):((i<=1000/\j<=1000/\k<=1000/\n<=1000/\m<=1000)/\bif !nR A B M c b l then (aD 0 (RS.X a) 0 200/\aD 0 (RS.Y a) 0 200/\FU=RS.o a/\Q)/\aD 0 (RS.d a) 0 200/\1=RS.e a/\Q else bif V (z<0)then (k<=1000/\m<=2000/\0<M)/\bif l then (t<=100000/\i<=200/\k<=200/\n<=200/\m<=200/\0<M)/\bif TR.ok g then (aD (TR.X g) (RS.X a) 200 200/\aD (TR.Y g) (RS.Y a) 200 200/\TR.o g =RS.o a/\Q)/\aD 0 (RS.d a) 0 200/\0=RS.e a/\Q else (aD 0 (RS.X a) 0 200/\aD 0 (RS.Y a) 0 200/\FU=RS.o a/\Q)/\aD (TR.d g) (RS.d a) 200 200/\6=RS.e a/\Q else (t<=100000/\i<=200/\k<=200/\n<=200/\k<=200/\0<M)/\bif TR.ok h then (aD (TR.X h) (RS.X a) 200 200/\aD (TR.Y h) (RS.Y a) 200 200/\TR.o h =RS.o a/\Q)/\aD 0 (RS.d a) 0 200/\0=RS.e a/\Q else (aD 0 (RS.X a) 0 200/\aD 0 (RS.Y a) 0 200/\FU=RS.o a/\Q)/\aD (TR.d h) (RS.d a) 200 200/\6=RS.e a/\Q else (t<=100000/\i<=200/\k<=200/\n<=200/\m<=200/\0<M)/\bif TR.ok f then (aD (TR.X f) (RS.X a) 200 200/\aD (TR.Y f) (RS.Y a) 200 200/\TR.o f =RS.o a/\Q)/\aD 0 (RS.d a) 0 200/\0=RS.e a/\Q else (aD 0 (RS.X a) 0 200/\aD 0 (RS.Y a) 0 200/\FU=RS.o a/\Q)/\aD (TR.d f) (RS.d a) 200 200/\6=RS.e a/\Q)=aI (aK [Ge,SX,TN] aC) EG [fo A B M i j k,.aa z t,qD c b l n m] (AF (.ret (KL (bH A B M z c b l)))):=by subst s r q p;kernel_rfl
def af0{r:TR}{R:RS}(h:R=r.rs){P Q:Prop}(b:r.ok=FW->(r.X=R.X/\r.Y=R.Y/\r.o=R.o/\(0:Z)=R.d/\(0:Z)=R.e)->P)(a:r.ok=FU->((0:Z)=R.X/\(0:Z)=R.Y/\FU=R.o/\r.d=R.d/\(6:Z)=R.e)->Q):bif r.ok then P else Q:=by
 subst h;cases r with
 |pt X Y o=>exact b rfl ⟨rfl,rfl,rfl,rfl,rfl⟩
 |dv d=>exact a rfl ⟨rfl,rfl,rfl,rfl,rfl⟩
def afB:bC EG uz:=by
 intro ms p r h v;unfold uz at h;split at h
 .rename_i A i B j M k z t b n q m e;cases h;obtain⟨h1,h2,h3,h4,h5,h6⟩:=v;refine⟨aK [Ge,SX,TN] aC,?_⟩;rw[<-ac3 A B M z b q e t i j k n m _ rfl _ rfl _ rfl _ rfl];refine⟨by omega,?_⟩;generalize a:bH A B M z b q e=R;unfold bH at a;cases s:nR A B M b q e with
  |false =>
   rw[s,Z5]at a;subst a;exact⟨⟨⟨rfl,.inl (by omega)⟩,⟨rfl,.inl (by omega)⟩,rfl,⟨⟩⟩,⟨rfl,.inl (by omega)⟩,rfl,⟨⟩⟩
  |true =>
   rw[s,Z6]at a;have hM:=RR s;have fin:∀ {y:Z} {c:N},R=(cL A M (.pt b y c) z.natAbs).rs->_:=λ{y c} h=>af0 h
    (λ_ ⟨q1,o,l,g,f⟩=>(⟨⟨⟨q1,.inl (Z0 200)⟩,⟨o,.inl (Z0 200)⟩,l,⟨⟩⟩,⟨g,.inl (Z9 200)⟩,f,⟨⟩⟩:((_/\(_\/S (cL A M (.pt b y c) z.natAbs).X<2^200))/\(_/\(_\/S (cL A M (.pt b y c) z.natAbs).Y<2^200))/\_/\Q)/\(_/\(_\/S (0:Z)<2^200))/\_/\Q))
    (λ_ ⟨q1,o,l,g,f⟩=>(⟨⟨⟨q1,.inl (Z9 200)⟩,⟨o,.inl (Z9 200)⟩,l,⟨⟩⟩,⟨g,.inl (Z0 200)⟩,f,⟨⟩⟩:((_/\(_\/S (0:Z)<2^200))/\(_/\(_\/S (0:Z)<2^200))/\_/\Q)/\(_/\(_\/S (cL A M (.pt b y c) z.natAbs).d<2^200))/\_/\Q))
   cases u:V (z<0)with
   |false =>
    rw[u,Z5]at a;exact⟨by omega,fin a.symm⟩
   |true =>
    rw[u,Z6]at a;refine⟨by omega,?_⟩;cases e with
    |true=>exact⟨by omega,fin a.symm⟩
    |false=>exact⟨by omega,fin a.symm⟩
 .simp at h
def adt:ah AA:=⟨174,uz,λargs w=>Tryz.call174 args w,aO bQ Tryz.func174 uz afB⟩
def k6(m a x y:Z):Z:=(y*y-x*x*x-a*x)%m
def Cs:aG
 |[.int .i64 m,.int .i64 a,.int .i64 x,.int .i64 y]=>FR (FR (1<=m/\m<=100000/\0<=a/\a<=100000/\0<=x/\x<=100000/\0<=y/\y<=100000),.ret (fo a (k6 m a x y) m 64 64 64))
 |_=>Do
def ac1(m a x y:Z)(b:_)(c:b=(T (O FV (T (O FV (O FV (O FV (y*y)-O FV (T (O FV (x*x)) m*x))-O FV (a*x))) m+m)) m)):((m=0->J)/\(m=0->J)/\(m=0->J)/\fX a/\fX b/\fX m/\aD a a 64 64/\aD b (k6 m a x y) 64 64/\aD m m 64 64/\Q)=aI (aK [cC] aC) FJ [.int .i64 m,.int .i64 a,.int .i64 x,.int .i64 y] (AF (.ret (fo a (k6 m a x y) m 64 64 64))):=by subst c;kernel_rfl
def ry(A B M x:Z):Z:=(x*(x*x)+A*x+B)%M
def Ct:aG
 |[.st [.aa A i,.aa B j,.aa M k],.aa x n]=>FR (FR (i<=200/\j<=200/\k<=200/\n<=200/\0<M),.ret (.aa (ry A B M x) k))
 |_=>Do
def ac2(A B M x:Z)(i j k n:U):((n<=1000000/\n<=1000000)/\(n<=1000000/\n+n<=1000000)/\(i<=1000000/\n<=1000000)/\(n+(n+n)<=1000000/\i+n<=1000000)/\(max (n+(n+n)) (i+n)+1<=1000000/\j<=1000000)/\(max (max (n+(n+n)) (i+n)+1) j+1<=900000/\k<=900000/\(M=0->J))/\(x*(x*x)+A*x+B)%M=ry A B M x/\(k<=k\/S ((x*(x*x)+A*x+B)%M)<2^k))=aI (aK [e9,fZ,eC] aC) ES [fo A B M i j k,.aa x n] (AF (.ret (.aa (ry A B M x) k))):=by kernel_rfl
def qA(A B M:Z):N:=decide (gcd (4*(A*(A*A))+27*(B*B)) M=1)
def Ed:aG
 |[.st [.aa A i,.aa B j,.aa M k]]=>FR (FR (i<=200/\j<=200/\k<=200),.ret (.bool (qA A B M)))
 |_=>Do
def agf(A B M:Z)(i j k:U):(fX 4/\(i<=1000000/\i<=1000000)/\(i<=1000000/\i+i<=1000000)/\(64<=1000000/\i+(i+i)<=1000000)/\fX 27/\(j<=1000000/\j<=1000000)/\(64<=1000000/\j+j<=1000000)/\(64+(i+(i+i))<=1000000/\64+(j+j)<=1000000)/\(max (64+(i+(i+i))) (64+(j+j))+1<=900000/\k<=900000)/\fX 1/\(max (max (64+(i+(i+i))) (64+(j+j))+1) k<=1000000/\64<=1000000)/\V ((gcd (4*(A*(A*A))+27*(B*B)) M:Z)=1)=qA A B M)=aI (aK [cC,e9,fZ,r9,fF] aC) FI [fo A B M i j k] (AF (.ret (.bool (qA A B M)))):=by kernel_rfl
abbrev xg(r:RS):MV:= .st [qD r.X r.Y r.o 200 200,.aa r.d 200,.int .i64 r.e]
def vM:aG
 |[.st [.aa A i,.aa B j,.aa M k],.aa z t,.st [.aa b n,.aa a m,.bool c]] =>
  FR (FR (t<=100000/\i<=200/\j<=200/\k<=200/\n<=200/\m<=200),.ret (xg (bH A B M z b a c)))
 |_=>Do
def acX(u m:Z)(a:0<m):T (T u m+m) m=u%m:=by
 have h1:=BM u a;have h2: -m<T u m:=by
  have:=BM (-u) a;rw[DP]at this;omega
 rw[BN (by omega),Int.tmod_def];rw[show u-m*u.tdiv m+m=u+m*(1-u.tdiv m) by rw[Int.mul_sub];omega,A2]
def YF(m a x y:Z):(y*y-x*x%m*x-a*x)%m=k6 m a x y:=by
 unfold k6;rw[BH,BH (y*y),BI (x*x%m),Int.emod_emod,<-BI,<-BH (y*y),<-BH]
def afz:bC FJ Cs:=by
 intro ms p r h j;unfold Cs at h;split at h
 .rename_i m a x y;cases h;obtain⟨h1,h2,l,k,c,b,g,f⟩:=j;refine⟨aK [cC] aC,?_⟩;rw[<-ac1 m a x y _ rfl];have HI:∀ {u v:Z},0<=u->u<=100000->0<=v->v<=100000->0<=u*v/\u*v<=10000000000:=λi e hv d=>⟨Int.mul_nonneg i hv,DT (BY e d hv (by omega)) (by decide)⟩;have C:=HI c b c b;have a2:=HI g f g f;have a3:=HI l k c b;have A:T (x*x) m=x*x%m:=BN C.1;have B:0<=x*x%m:=AS _ (by omega);have a5:x*x%m<m:=AM _ (by omega);have a6:=HI B (by omega) c b;have z:O FV (x*x)=x*x:=aV (by omega) (by omega);have w:O FV (y*y)=y*y:=aV (by omega) (by omega);have t:O FV (a*x)=a*x:=aV (by omega) (by omega);have s:O FV (x*x%m*x)=x*x%m*x:=aV (by omega) (by omega);have q:O FV (y*y-x*x%m*x)=y*y-x*x%m*x:=aV (by omega) (by omega);have o:O FV (y*y-x*x%m*x-a*x)=y*y-x*x%m*x-a*x:=aV (by omega) (by omega);have b1:=BM (y*y-x*x%m*x-a*x) (show 0<m by omega);have b2: -m<T (y*y-x*x%m*x-a*x) m:=by
   have:=BM (-(y*y-x*x%m*x-a*x)) (show 0<m by omega);rw[DP]at this;omega
  have n:O FV (T (y*y-x*x%m*x-a*x) m+m)=T (y*y-x*x%m*x-a*x) m+m:=aV (by omega) (by omega);simp only[z,A,w,t,s,q,o,n,acX _ m (show 0<m by omega),YF];have c1:0<=k6 m a x y:=AS _ (by omega);have c2:k6 m a x y<m:=AM _ (by omega);exact⟨by omega,by omega,by omega,by omega,by omega,by omega,⟨by first|exact⟨⟩|rfl,.inl (Z0 _)⟩,⟨by first|exact⟨⟩|rfl,.inl (Z0 _)⟩,⟨by first|exact⟨⟩|rfl,.inl (Z0 _)⟩,by first|exact⟨⟩|rfl⟩
 .simp at h
def Qd:ah AA:=⟨51,Cs,λargs w=>Tryz.call51 args w,aO bQ Tryz.func51 Cs afz⟩
def afA:bC ES Ct:=by
 intro ms p r h a;unfold Ct at h;split at h
 .rename_i A i B j M k x n;cases h;obtain⟨h1,h2,h3,h4,h5⟩:=a;refine⟨aK [e9,fZ,eC] aC,?_⟩;rw[<-ac2 A B M x i j k n];exact⟨by omega,by omega,by omega,by omega,by omega,by omega,rfl,.inl (Z0 _)⟩
 .simp at h
def Qe:ah AA:=⟨142,Ct,λargs w=>Tryz.call142 args w,aO bQ Tryz.func142 Ct afA⟩
def ajn:bC FI Ed:=by
 intro ms p r h a;unfold Ed at h;split at h
 .rename_i A i B j M k;cases h;obtain⟨h1,h2,h3⟩:=a;refine⟨aK [cC,e9,fZ,r9,fF] aC,?_⟩;rw[<-agf A B M i j k];refine⟨by omega,by omega,by omega,by omega,by omega,by omega,by omega,by omega,by omega,by omega,by omega,?_⟩;unfold qA;exact decide_eq_decide.2 (by omega)
 .simp at h
def Dl:ah AA:=⟨52,Ed,λargs w=>Tryz.call52 args w,aO bQ Tryz.func52 Ed ajn⟩
structure aw (p:Nat):Prop where
 lt:1<p
 dv:∀d,d ∣ p->d=1\/d=p
def aw.nh{p a:U}(h:aw p)(ha:¬p ∣ a):FP p a=1:=by
 rcases h.dv _ (C5 p a)with e|e
 all_goals grind [C1]
def aw.mul{p a b:U}(h:aw p)(c:p ∣ a*b):p ∣ a\/p ∣ b:=by
 by_cases q:p ∣ a
 .exact .inl q
 .exact .inr (A3 (h.nh q) c)
def RM{n:U}(b:1<n)(h:¬aw n):∃d,1<d/\d ∣ n/\d*d<=n:=by
 have:¬ ∀d,d ∣ n->d=1\/d=n:=λw=>h ⟨b,w⟩;obtain⟨d,w⟩:=Classical.not_forall.1 this;obtain⟨⟨e,a⟩,ig⟩:=Classical.not_imp.1 w;have d0:d≠0:=λq=>by rw[q,Nat.zero_mul]at a;omega
 have e0:e≠0:=λq=>by rw[q,Nat.mul_zero]at a;omega
 have e1:e≠1:=λq=>by rw[q,CP]at a;omega
 rcases Nat.le_total d e with q|q
 .exact⟨d,by omega,⟨e,a⟩,by rw[a];exact AU _ q⟩
 .exact⟨e,by omega,⟨d,by rw[BG];exact a⟩,by rw[a];exact CQ _ q⟩
def oC:∀(f n:U),n<=f->1<n->∃p,aw p/\p ∣ n
 |0,n,h,a=>by omega
 |f+1,n,h,a=>by
  by_cases q:aw n
  .exact⟨n,q,Nat.dvd_refl n⟩
  .obtain⟨d,d1,d2,d3⟩:=RM a q;have de:d<n:=by
    have:d*2<=d*d:=AU _ d1;omega
   obtain⟨p,b,c⟩:=oC f d (by omega) d1;exact⟨p,b,B4 c d2⟩
def rI{n:U}(e:1<n)(h:¬aw n):∃p,aw p/\p ∣ n/\p*p<=n:=by
 obtain⟨d,d1,d2,d3⟩:=RM e h;obtain⟨p,c,b⟩:=oC d d (Z0 d) d1;have a:=DJ (by omega) b;exact⟨p,c,B4 b d2,CH (Nat.mul_le_mul a a) d3⟩
theorem RY{p a M:U}(h:a^M%p=1%p)(k r:U):a^(M*k+r)%p=a^r%p:=by
 rw[DX,BW,DY,A4 (a^M),h,<-A4,CN,<-DY,CO]
def agC{p a:U}(M K:U):a^M%p=1%p->a^K%p=1%p->a^FP M K%p=1%p:=by
 induction M,K using Nat.gcd.induction with
 |H0 n=>intro _ h;rw[Nat.gcd_zero_left];exact h
 |H1 m n _ ih =>
  grind [Nat.gcd_rec,RY,Nat.div_add_mod]
def part{q c:U}(b:aw q):∀(e g:U),g ∣ q^(e+1)*c->¬q^(e+1) ∣ g->g ∣ q^e*c:=by
 intro e
 induction e with
 |zero =>
  intro g h d;by_cases a:q ∣ g
  .simp_all
  .rw[DL,DW]at h;rw[AW,CO];exact A3 (by rw[CR,DM];exact b.nh a) h
 |succ e ih =>
  intro g h d;by_cases a:q ∣ g
  .obtain⟨g',rfl⟩:=a;have i:q^(e+1+1)*c=q*(q^(e+1)*c):=by rw[B2 (m:=q) (n:=e+1),B3]
   rw[i]at h;have q0:0<q:=by have:=b.lt;omega
   grind [Nat.dvd_of_mul_dvd_mul_left,B2,Nat.mul_dvd_mul_left,B3]
  .have f:CR g (q^(e+1+1)):=E8 _ (by rw[CR,DM];exact b.nh a);exact B4 (A3 f h) (Nat.dvd_mul_left ..)
def P5{p a q e c K:U}(b:aw q)(g:a^(q^(e+1)*c)%p=1%p)(h:a^K%p=1%p)(hn:a^(q^e*c)%p≠1%p):q^(e+1) ∣ K:=by
 refine FO λd=>?_;have f:=agC _ _ g h;obtain⟨t,ht⟩:=part b e _ (C5 (q^(e+1)*c) K) (λw=>d (B4 w (C1 ..)));have:=RY f t 0
 simp_all
def O6:∀(k x n:U),x<n->xN k x n=FW->∃j,j<k/\x^2^j%n=n-1
 |0,x,n,_,h=>by simp[xN]at h
 |k+1,x,n,a,h=>by
  rw[xN]at h;rcases C6 _ _ ▸ h with h|h
  .exact⟨0,by omega,by rw[AW,DW,BA a];exact A8 h⟩
  .obtain⟨j,hj,he⟩:=O6 k (x*x%n) n (BU _ (by omega)) h;refine⟨j+1,by omega,?_⟩
   grind [A4,B2,BW,DV]
def WJ{n b:U}(h1:2<n)(h2:n<2^128)(a:cP n b=FW)(hb:b%n≠0):b^(n-1)%n=1:=by
 have T:=Ko (n:=n-1);unfold cP at a;have c:FQ (b%n) 0=FU:=by
  grind [FQ,A8]
 rw[c,Z5,E! 128 1 (b%n) _ n (by omega) (BL (Nat.div_le_self ..) (by omega)),CO,<-A4]at a;generalize hS:tz (n-1)=s at *;obtain⟨d,f⟩:=Nat.dvd_of_mod_eq_zero T.m;have l:(n-1)/2^s=d:=by rw[f];exact Nat.mul_div_cancel_left d (Nat.two_pow_pos s)
 rw[l]at a;have g:b^(n-1)=(b^d)^2^s:=by rw[f,BG,BW]
 rcases C6 _ _ ▸ a with q|q
 .have q:=A8 q;rw[g,A4,q,CN];exact BA (by omega)
 .obtain⟨j,hj,e⟩:=O6 s (b^d%n) n (BU _ (by omega)) q;rw[<-A4]at e;have i:2^s=2^j*(2*2^(s-1-j)):=by
   rw[<-B2,<-DX]
   congr 1
   omega
  have h:(n-1)*(n-1)%n=1:=by
   have:(n-1)*(n-1)=n*(n-2)+1:=by
    obtain⟨k,rfl⟩:∃k,n=k+2:=⟨n-2,by omega⟩
    grind
   rw[this,Nat.mul_add_mod];exact BA (by omega)
  rw[g,i,BW,A4,e,BW,DV,A4,h,CN];exact BA (by omega)
def OR{n b:U}:∀l:P U,tV n l=FW->b∈l->cP n b=FW
 |[],_,h=>by simp at h
 |p::r,h,hb=>by
  rw[tV,Z3]at h;rcases DD.1 hb with rfl|hb
  .exact h.1
  .exact OR r h.2 hb
structure Wi (n:Nat):Prop where
 lt:1<n
 nd:∀b∈bG,¬b ∣ n
 st:∀b∈bG,cP n b=true
def Q8{n:U}:∀l:P U,sN n l=FW->n∈l\/((∀b∈l,¬b ∣ n)/\1<n/\tV n bG=FW)
 |[],h=>by
  grind [sN,CU]
 |p::r,h=>by
  by_cases q:n%p=0
  .grind [Ea,A8,List.mem_cons_self]
  .rw[wj q]at h;rcases Q8 r h with w|⟨w1,w2⟩
   all_goals grind [List.mem_cons_of_mem,Nat.mod_eq_zero_of_dvd]
def ad0{n:U}(h:gX n=FW):n∈bG\/Wi n:=by
 rcases Q8 bG h with w|⟨d,c,a⟩
 .exact .inl w
 .exact .inr ⟨c,d,λb e=>OR _ a e⟩
def aie{a b:Z}:aY a b=0↔a=b:=by
 unfold aY;split<;>(try split)<;>omega
def Qb{a:Z}{p:Prop}[Decidable p](h:a=0↔p):(a==0)=decide p:=by
 rw[BD,beq_iff_eq,Z4];exact h
def amS{a:Z}:dK a=0↔a=0:=by
 unfold dK;split<;>(try split)<;>omega
def acN :(fX 1/\(1:Z)=1/\(64<=64\/S 1<2^64))=aI (aK [iK] aC) FE [] (AF (.ret (.aa 1 64))):=by kernel_rfl
def Bo:aG
 |[]=>FR (Do,.ret (.aa 1 64))
 |_=>Do
def ae8:bC FE Bo:=by
 intro ms p r h hp;unfold Bo at h;split at h
 .simp only[Z1,Z2]at h;obtain⟨rfl,rfl⟩:=h;refine⟨aK [iK] aC,?_⟩;rw[<-acN];exact⟨⟨by decide,by decide⟩,rfl,.inl (Z0 _)⟩
 .simp at h
def jC:ah AA:=⟨74,Bo,λargs w=>Tryz.call74 args w,aO bQ Tryz.func74 Bo ae8⟩
def zc:aG
 |[.aa a _]=>FR (Do,.ret (.bool (V (a=0))))
 |_=>Do
def Za(a:Z)(n:U):((dK a==0)=V (a=0))=aI (aK [dJ] aC) EK [.aa a n] (AF (.ret (.bool (V (a=0))))):=by kernel_rfl
def abu:bC EK zc:=by
 intro ms p r h hp;unfold zc at h;split at h
 .rename_i a n;cases h;refine⟨aK [dJ] aC,?_⟩;rw[<-Za a n];exact Qb amS
 .simp at h
def mT:ah AA:=⟨170,zc,λargs w=>Tryz.call170 args w,aO bQ Tryz.func170 zc abu⟩
def y!:aG
 |[.aa a n,.aa b m]=>FR (FR (n<=1000000/\m<=1000000),.ret (.bool (V (a=b))))
 |_=>Do
def Y?(a b:Z)(n m:U):((n<=1000000/\m<=1000000)/\(aY a b==0)=V (a=b))=aI (aK [eZ] aC) FL [.aa a n,.aa b m] (AF (.ret (.bool (V (a=b))))):=by kernel_rfl
def abr:bC FL y!:=by
 intro ms p r h c;unfold y! at h;split at h
 .rename_i a n b m;cases h;obtain⟨e,d⟩:=c;refine⟨aK [eZ] aC,?_⟩;rw[<-Y? a b n m];exact⟨⟨e,d⟩,Qb aie⟩
 .simp at h
def mS:ah AA:=⟨38,y!,λargs w=>Tryz.call38 args w,aO bQ Tryz.func38 y! abr⟩
def Bj:aG
 |[.aa a n,.aa b m]=>FR (FR (n<=900000/\m<=900000),.ret (.bool (V (gcd a b=1))))
 |_=>Do
def acH(a b:Z)(n m:U):((n<=900000/\m<=900000)/\(max n m<=1000000/\64<=1000000)/\V ((gcd a b:Z)=1)=V (gcd a b=1))=aI (aK [Dn,jC,mS] aC) EM [.aa a n,.aa b m] (AF (.ret (.bool (V (gcd a b=1))))):=by kernel_rfl
def ae2:bC EM Bj:=by
 intro ms p r h c;unfold Bj at h;split at h
 .rename_i a n b m;cases h;obtain⟨e,d⟩:=c;refine⟨aK [Dn,jC,mS] aC,?_⟩;rw[<-acH a b n m];refine⟨⟨e,d⟩,by omega,?_⟩;rw[BD,Z4,Z4];omega
 .simp at h
def vY:ah AA:=⟨168,Bj,λargs w=>Tryz.call168 args w,aO bQ Tryz.func168 Bj ae2⟩
def Bl:aG
 |[.aa a n,.aa b m]=>FR (FR (n<=900000/\m<=900000/\b≠0),.ret (.tup [.aa (a/b) n,.aa (a%b) m]))
 |_=>Do
def acJ(a b:Z)(n m:U):((n<=900000/\m<=900000/\(b=0->J))/\aD (a/b) (a/b) n n/\aD (a%b) (a%b) m m/\Q)=aI (aK [kI] aC) FD [.aa a n,.aa b m] (AF (.ret (.tup [.aa (a/b) n,.aa (a%b) m]))):=by kernel_rfl
def ae4:bC FD Bl:=by
 intro ms p r h c;unfold Bl at h;split at h
 .rename_i a n b m;cases h;obtain⟨h1,h2,h3⟩:=c;refine⟨aK [kI] aC,?_⟩;rw[<-acJ a b n m];first|done|(and_intros<;>first|exact⟨⟩|rfl|exact .inl (Z0 _)|omega)
 .simp at h
def mC:ah AA:=⟨76,Bl,λargs w=>Tryz.call76 args w,aO bQ Tryz.func76 Bl ae4⟩
def y?:aG
 |[.aa a n,.aa b m]=>FR (FR (n<=900000/\m<=900000/\b≠0),.ret (.aa (a%b) m))
 |_=>Do
def Y9(a b:Z)(n m:U):((n<=900000/\m<=900000/\(b=0->J))/\a%b=a%b/\(m<=m\/S (a%b)<2^m))=aI (aK [mC] aC) EB [.aa a n,.aa b m] (AF (.ret (.aa (a%b) m))):=by kernel_rfl
def abq:bC EB y?:=by
 intro ms p r h c;unfold y? at h;split at h
 .rename_i a n b m;cases h;obtain⟨h1,h2,h3⟩:=c;refine⟨aK [mC] aC,?_⟩;rw[<-Y9 a b n m];first|done|(and_intros<;>first|exact⟨⟩|rfl|exact .inl (Z0 _)|omega)
 .simp at h
def OC:ah AA:=⟨188,y?,λargs w=>Tryz.call188 args w,aO bQ Tryz.func188 y? abq⟩
def fC:MV:= .iface 128 (.st [])
def fM(b:N)(r:cj):cj:= .br b r (.ck fC)
def Y!(b:N):(bif !b then bif b then J else Q else bif b then Q else J)=aI (aK [] aC) FA [.bool b] (AF (fM b (.ret (.tup [])))):=by kernel_rfl
def za:aG
 |[.bool b]=>FR (Do,fM b (.ret (.tup [])))
 |_=>Do
def abt:bC FA za:=by
 intro ms p r h hp;unfold za at h;split at h
 .rename_i b;cases h;refine⟨aK [] aC,?_⟩;rw[<-Y! b];cases b<;>exact⟨⟩
 .simp at h
def dM:ah AA:=⟨95,za,λargs w=>Tryz.call95 args w,aO bQ Tryz.func95 za abt⟩
def acO(a e m:Z)(n k l:U):((n<=100000/\k<=100000/\l<=100000)/\bif V (0<m)then bif V (e<0)&&!decide (gcd a m=1)then bif V (0<m)then J else Q else bif V (0<m)then sU a e m=sU a e m/\(l<=l\/S (sU a e m)<2^l)else J else bif V (0<m)then J else Q)=aI (aK [Sk,dM] aC) EN [.aa a n,.aa e k,.aa m l] (AF (fM (V (0<m)) (.ret (.aa (sU a e m) l)))):=by kernel_rfl
def Bp:aG
 |[.aa a n,.aa e k,.aa m l]=>FR (FR (n<=100000/\k<=100000/\l<=100000/\0<=e),fM (V (0<m)) (.ret (.aa (sU a e m) l)))
 |_=>Do
def ae9:bC EN Bp:=by
 intro ms p r h c;unfold Bp at h;split at h
 .rename_i a n e k m l;cases h;obtain⟨g,f,d,h4⟩:=c;refine⟨aK [Sk,dM] aC,?_⟩;rw[<-acO a e m n k l];refine⟨⟨g,f,d⟩,?_⟩;rw[Y1 (show ¬e<0 by omega),AH,Z5];by_cases b:0<m
  .rw[Y0 b];exact⟨rfl,.inl (Z0 _)⟩
  .rw[Y1 b];exact⟨⟩
 .simp at h
def Rd:ah AA:=⟨167,Bp,λargs w=>Tryz.call167 args w,aO bQ Tryz.func167 Bp ae9⟩
def agT(q n:Z)(k l:U)(b:N)(a:_)(c:a=(max (max k 64+1+(max k 64+1)) l+1)):((k<=1000000/\64<=1000000)/\(max k 64+1<=1000000/\max k 64+1<=1000000)/\(max k 64+1+(max k 64+1)<=1000000/\l<=1000000)/\fX 4/\(64<=1000000/\k<=1000000)/\(max (max k 64+1+(max k 64+1)) l+1<=1000000/\64+k<=1000000)/\bif V (dK ((q+1)*(q+1)-n-4*q)>0)then (max a (64+k)+1<=1000000/\max a (64+k)+1<=1000000)/\fX 16/\(k<=1000000/\l<=1000000)/\(64<=1000000/\k+l<=1000000)/\(max a (64+k)+1+(max a (64+k)+1)<=1000000/\64+(k+l)<=1000000)/\bif V (aY (((q+1)*(q+1)-n-4*q)*((q+1)*(q+1)-n-4*q)) (16*(q*n))>0)then bif b then Q else J else bif b then J else Q else bif b then J else Q)=aI (aK [iK,jP,kW,kJ,dJ,eZ,jC,dM] aC) EI [.aa q k,.aa n l] (AF (fM b (.ret (.tup [])))):=by subst c;kernel_rfl
def gh(q n:Z):N:=decide (0<(q+1)*(q+1)-n-4*q)&&V (16*(q*n)<((q+1)*(q+1)-n-4*q)*((q+1)*(q+1)-n-4*q))
def Ff:aG
 |[.aa q k,.aa n l]=>FR (FR (k<=100000/\l<=100000),fM (gh q n) (.ret (.tup [])))
 |_=>Do
def ajb:bC EI Ff:=by
 intro ms p r h a;unfold Ff at h;split at h
 .rename_i q k n l;cases h;obtain⟨h1,h2⟩:=a;refine⟨aK [iK,jP,kW,kJ,dJ,eZ,jC,dM] aC,?_⟩;rw[<-agT q n k l (gh q n) _ rfl];unfold gh;generalize (q+1)*(q+1)-n-4*q=d;generalize d*d=dd;generalize 16*(q*n)=e;refine⟨by omega,by omega,by omega,by omega,by omega,by omega,aJ (p:=0<d) (by rw[Z4];unfold dK;split<;>(try split)<;>omega) (λw=>?_) (λw=>?_)⟩
  .rw[Y0 w,AB];refine⟨by omega,by omega,by omega,by omega,by omega,aJ (p:=e<dd) (by rw[Z4];unfold aY;split<;>(try split)<;>omega) (λw=>?_) (λw=>?_)⟩
   .rw[Y0 w];exact⟨⟩
   .rw[Y1 w];exact⟨⟩
  .rw[Y1 w,AH];exact⟨⟩
 .simp at h
def SU:ah AA:=⟨172,Ff,λargs w=>Tryz.call172 args w,aO bQ Tryz.func172 Ff ajb⟩
def aN(p q:Z):U->Z
 |0=>0
 |1=>1
 |k+2=>p*aN p q (k+1)-q*aN p q k
def Cl(p q:Z)(m:U):∀k,aN p q (m+k+1)=aN p q (m+1)*aN p q (k+1)-q*(aN p q m*aN p q k)/\aN p q (m+k+2)=aN p q (m+1)*aN p q (k+2)-q*(aN p q m*aN p q (k+1))
 |0=>by
  refine⟨?_,?_⟩
  .show aN p q (m+1)=aN p q (m+1)*1-q*(aN p q m*0)
   grind
  .show p*aN p q (m+1)-q*aN p q m=aN p q (m+1)*(p*1-q*0)-q*(aN p q m*1)
   grind
 |k+1=>by
  obtain⟨b,a⟩:=Cl p q m k;refine⟨a,?_⟩;show p*aN p q (m+k+2)-q*aN p q (m+k+1)=aN p q (m+1)*(p*aN p q (k+2)-q*aN p q (k+1))-q*(aN p q m*(p*aN p q (k+1)-q*aN p q k));rw[b,a]
  grind
def Ju(p q:Z)(m:U):aN p q (2*m+1)=aN p q (m+1)*aN p q (m+1)-q*(aN p q m*aN p q m):=by
 rw[show 2*m+1=m+m+1 by omega];exact(Cl p q m m).1
def afn(p q:Z)(m:U):aN p q (2*m+2)=aN p q (m+1)*(2*aN p q (m+2)-p*aN p q (m+1)):=by
 rw[show 2*m+2=m+m+2 by omega,(Cl p q m m).2];show aN p q (m+1)*aN p q (m+2)-q*(aN p q m*aN p q (m+1))=aN p q (m+1)*(2*(p*aN p q (m+1)-q*aN p q m)-p*aN p q (m+1));have:aN p q (m+2)=p*aN p q (m+1)-q*aN p q m:=rfl;rw[this]
 grind
def zj(p q:Z):∀m:U,aN p q (2*m)=aN p q m*(2*aN p q (m+1)-p*aN p q m)
 |0=>by
  show(0:Z)=0*_;rw[DN]
 |m+1=>afn p q m
def jR(p q n:Z)(m:U):Z×Z:=if m=0 then (1,0)else (aN p q (m+1)%n,aN p q m%n)
def qQ(p q:Z)(k:U)(n:Z):Z:=(jR p q n k).2
def uv(p q n:Z)(k:U):qQ p q k n=aN p q k%n:=by
 unfold qQ jR;split
 .rename_i h;subst h;exact(DK n).symm
 .rfl
def QI(p q n:Z)(m:U):∃s t,(jR p q n m).1=aN p q (m+1)+n*s/\(jR p q n m).2=aN p q m+n*t:=by
 unfold jR;split
 .rename_i h;subst h;exact⟨0,0,by show(1:Z)=1+n*0;omega,by show(0:Z)=0+n*0;omega⟩
 .refine⟨- (aN p q (m+1)/n),-(aN p q m/n),?_,?_⟩
  all_goals grind [B8,aN,CC]
theorem ZK{p q n:Z}{m:F2}(h:0<m):jR p q n (m+m)=(((jR p q n m).1*(jR p q n m).1-q*((jR p q n m).2*(jR p q n m).2))%n,(jR p q n m).2*((jR p q n m).1+(jR p q n m).1-p*(jR p q n m).2)%n):=by
 obtain⟨s,t,c,b⟩:=QI p q n m;rw[c,b];have a:jR p q n (m+m)=(aN p q (m+m+1)%n,aN p q (m+m)%n):=if_neg (by omega);rw[a,show m+m=2*m by omega,Ju,zj];generalize aN p q (m+1)=U;generalize aN p q m=V;have x1:(U+n*s)*(U+n*s)-q*((V+n*t)*(V+n*t))=(U*U-q*(V*V))+n*(2*U*s+n*s*s-q*(2*V*t+n*t*t)):=by grind
 have x2:(V+n*t)*(U+n*s+(U+n*s)-p*(V+n*t))=V*(2*U-p*V)+n*(V*(2*s-p*t)+t*(2*U+2*n*s-p*V-p*n*t)):=by grind
 simp_all
theorem abA{p q n:Z}{m:F2}:jR p q n (m+m+1)=((p*((jR p q n m).1*(jR p q n m).1-q*((jR p q n m).2*(jR p q n m).2))-q*((jR p q n m).2*((jR p q n m).1+(jR p q n m).1-p*(jR p q n m).2)))%n,((jR p q n m).1*(jR p q n m).1-q*((jR p q n m).2*(jR p q n m).2))%n):=by
 obtain⟨s,t,f,e⟩:=QI p q n m;rw[f,e];have d:jR p q n (m+m+1)=(aN p q (m+m+1+1)%n,aN p q (m+m+1)%n):=if_neg (by omega);have c:aN p q (2*m+1+1)=p*aN p q (2*m+1)-q*aN p q (2*m):=rfl;rw[d,show m+m=2*m by omega,c,Ju,zj];generalize aN p q (m+1)=U;generalize aN p q m=V;have b:(U+n*s)*(U+n*s)-q*((V+n*t)*(V+n*t))=(U*U-q*(V*V))+n*(2*U*s+n*s*s-q*(2*V*t+n*t*t)):=by grind
 have a:(V+n*t)*(U+n*s+(U+n*s)-p*(V+n*t))=V*(2*U-p*V)+n*(V*(2*s-p*t)+t*(2*U+2*n*s-p*V-p*n*t)):=by grind
 rw[b,a,A2];generalize 2*U*s+n*s*s-q*(2*V*t+n*t*t)=A;generalize V*(2*s-p*t)+t*(2*U+2*n*s-p*V-p*n*t)=B;have x3:p*(U*U-q*(V*V)+n*A)-q*(V*(2*U-p*V)+n*B)=(p*(U*U-q*(V*V))-q*(V*(2*U-p*V)))+n*(p*A-q*B):=by grind
 simp_all
def Qn(W L:U)(F:U->Z×Z):U->MS->G bt
 |3,e=>FR (.inv cl (λi=>i.i<=L) (λi=>⟨67, [(4,.bp 0 0),(5,.bp 1 0),(6,.bp 2 0),(7,.bp 3 0),(8,.bp 4 0),(9,.bp 5 0),(10,.bp 6 0),(11,.int .i64 ((i.i:Z)-1))],
   aW (aW e.bx 5 ⟨FU,.one (.aa (F i.i).1 W)⟩) 6 ⟨FU,.one (.aa (F i.i).2 W)⟩,0⟩) (λi=>i.i))
 |_,_=>Do
def acK(p q k n:Z)(a b c d:U)(r:Z)(w:U)(F:U->Z×Z)(W L:U)(f:_)(h:f=λ(i:cl)=>((F (i.1)).1*(F (i.1)).1-q*((F (i.1)).2*(F (i.1)).2)))(e:_)(g:e=(max (max W W+1) (a+W)+1)):(c<=1000000/\(∃i:cl,i.1<=L/\(0=0/\0=0/\0=0/\0=0/\0=0/\0=0/\0=0/\O FV ((bl (S k):Z)-1)=(i.1:Z)-1/\Q)/\aD p p a a/\aD q q b b/\aD k k c c/\aD n n d d/\aD 0 0 0 0/\aD 1 ((F (i.1)).1) 64 W/\aD 0 ((F (i.1)).2) 0 W/\Q)/\∀(i:cl),i.1<=L->bif V ((i.1:Z)-1≥0)then (W<=1000000/\W<=1000000)/\(a<=1000000/\W<=1000000)/\(max W W+1<=1000000/\a+W<=1000000)/\(W<=1000000/\W<=1000000)/\(W<=1000000/\W<=1000000)/\(b<=1000000/\W+W<=1000000)/\(W+W<=1000000/\b+(W+W)<=1000000)/\(W<=1000000/\max (max W W+1) (a+W)+1<=1000000)/\((32:Z)=0->J)/\(0<=O FV (D ((i.1:Z)-1) 32)/\O FV (D ((i.1:Z)-1) 32)<(H (aA (S k)):Z))/\((32:Z)=0->J)/\0<=T ((i.1:Z)-1) 32/\bif O FT (AI (R (AC FT) (fdiv (K (aA (S k)) (I (O FV (D ((i.1:Z)-1) 32))) 0) ((2:Z)^min (I (T ((i.1:Z)-1) 32)) (AC FT))) &&&R (AC FT) 1):Z)==1 then (a<=1000000/\max (W+W) (b+(W+W))+1<=1000000)/\(b<=1000000/\W+ e <=1000000)/\(a+(max (W+W) (b+(W+W))+1)<=1000000/\b+(W+ e)<=1000000)/\(max (a+(max (W+W) (b+(W+W))+1)) (b+(W+ e))+1<=900000/\d<=900000/\(n=0->J))/\(max (W+W) (b+(W+W))+1<=900000/\d<=900000/\(n=0->J))/\∃j:cl,j.1<=L/\((0=0/\0=0/\0=0/\0=0/\0=0/\0=0/\0=0/\O FV ((i.1:Z)-1-1)=(j.1:Z)-1/\Q)/\aD p p a a/\aD q q b b/\aD k k c c/\aD n n d d/\aD 0 0 0 0/\aD ((p* (f i)-q*((F (i.1)).2*((F (i.1)).1+(F (i.1)).1-p*(F (i.1)).2)))%n) ((F (j.1)).1) d W/\aD ((f i) %n) ((F (j.1)).2) d W/\Q)/\j.1<i.1 else (max (W+W) (b+(W+W))+1<=900000/\d<=900000/\(n=0->J))/\(W+ e <=900000/\d<=900000/\(n=0->J))/\∃j:cl,j.1<=L/\((0=0/\0=0/\0=0/\0=0/\0=0/\0=0/\0=0/\O FV ((i.1:Z)-1-1)=(j.1:Z)-1/\Q)/\aD p p a a/\aD q q b b/\aD k k c c/\aD n n d d/\aD 0 0 0 0/\aD ((f i) %n) ((F (j.1)).1) d W/\aD ((F (i.1)).2*((F (i.1)).1+(F (i.1)).1-p*(F (i.1)).2)%n) ((F (j.1)).2) d W/\Q)/\j.1<i.1 else (F (i.1)).2=r/\(W<=w\/S ((F (i.1)).2)<2^w))=aI (aK [iK,jP,kW,kJ,sd,jC,OC] (Qn W L F)) EJ [.aa p a,.aa q b,.aa k c,.aa n d] (AF (.ret (.aa r w))):=by subst h g;kernel_rfl
def qF:aG
 |[.aa p a,.aa q b,.aa k c,.aa n d]=>FR (FR (a<=100000/\b<=100000/\c<=100000/\d<=100000/\n≠0),.ret (.aa (qQ p q k.natAbs n) (d+64)))
 |_=>Do
def ae5:dL EJ qF:=by
 intro ms pr r h u v;unfold qF at h;split at h
 .rename_i p a q b k c n d;cases h;obtain⟨h1,h2,h3,h4,h5⟩:=u;have g:k.natAbs<2^c:=v.2.2.1;have pc:bl k.natAbs<=c:=fQ g;refine⟨aK [iK,jP,kW,kJ,sd,jC,OC] (Qn (d+64) (bl k.natAbs) λi=>jR p q n (k.natAbs/2^i)),?_⟩;rw[<-acK p q k n a b c d (qQ p q k.natAbs n) (d+64) (λi=>jR p q n (k.natAbs/2^i)) (d+64) (bl k.natAbs) _ rfl _ rfl];generalize hK:k.natAbs=K at *;have o:K/2^bl K=0:=BB (oW K);have w:O FV ((bl K:Z)-1)=(bl K:Z)-1:=aV (by omega) (by omega);have t:max (d+64) (d+64)=d+64:=Nat.max_self _;rw[w,t];refine⟨by omega,⟨⟨bl K⟩,Z0 _,⟨rfl,rfl,rfl,rfl,rfl,rfl,rfl,rfl,⟨⟩⟩,cB,cB,cB,cB,cB,⟨?_,.inl (by omega)⟩,⟨?_,.inl (by omega)⟩,⟨⟩⟩,λi l=>?_⟩
  .rw[o];rfl
  .rw[o];rfl
  obtain⟨i⟩:=i;have l:i<=bl K:=l;dsimp only;refine aJ Z4 (λq1=>?_) (λq1=>?_)
  .have x:(i:Z)-1=((i-1:U):Z):=by omega
   have aon:=wR (N:=K) (c:=i-1);rw[x,VG,VD,Z8,Z8,Qc];have m:O FV (((i-1:U):Z)-1)=((i-1:U):Z)-1:=aV (by omega) (by omega);have e:=TB (M:=K) (k:=i);refine⟨by omega,by omega,by omega,by omega,by omega,by omega,by omega,by omega,by omega,by omega,by omega,by omega,aJ beq_iff_eq (λs=>?_) (λs=>?_)⟩
   .have f:K/2^(i-1)%2=1:=by omega
    rw[f]at e;refine⟨by omega,by omega,by omega,by omega,by omega,⟨i-1⟩,by show i-1<=bl K;omega,⟨⟨rfl,rfl,rfl,rfl,rfl,rfl,rfl,m,⟨⟩⟩,cB,cB,cB,cB,cB,⟨?_,.inl (by omega)⟩,⟨?_,.inl (by omega)⟩,⟨⟩⟩,by show i-1<i;omega⟩
    all_goals grind [jR,abA]
   .have f:K/2^(i-1)%2=0:=by omega
    rw[f,CI]at e;have hm:0<K/2^i:=by
     rcases CT (K/2^i)with z|z
     .exfalso;rw[z]at e;have:K<2^(i-1):=by
       simp_all
      have:=fQ this;omega
     .exact z
    refine⟨by omega,by omega,⟨i-1⟩,by show i-1<=bl K;omega,⟨⟨rfl,rfl,rfl,rfl,rfl,rfl,rfl,m,⟨⟩⟩,cB,cB,cB,cB,cB,⟨?_,.inl (by omega)⟩,⟨?_,.inl (by omega)⟩,⟨⟩⟩,by show i-1<i;omega⟩
    all_goals grind [jR,ZK]
  .have j:i=0:=by omega
   subst j;rw[AW,BX];exact⟨rfl,.inl (Z0 _)⟩
 .simp at h
def Rc:ah AA:=⟨171,qF,λargs w=>Tryz.call171 args w,aP bQ Tryz.func171 qF ae5⟩
def By:aG
 |[.aa a n,.aa b m]=>FR (FR (n<=900000/\m<=900000),.ret (.bool (V (gcd a b=1))))
 |_=>Do
def ack(a b:Z)(n m:U):((n<=900000/\m<=900000)/\fX 1/\(max n m<=1000000/\64<=1000000)/\V ((gcd a b:Z)=1)=V (gcd a b=1))=aI (aK [r9,cC,fF] aC) E4 [.aa a n,.aa b m] (AF (.ret (.bool (V (gcd a b=1))))):=by kernel_rfl
def afg:bC E4 By:=by
 intro ms p r h c;unfold By at h;split at h
 .rename_i a n b m;cases h;obtain⟨e,d⟩:=c;refine⟨aK [r9,cC,fF] aC,?_⟩;rw[<-ack a b n m];refine⟨⟨e,d⟩,by omega,by omega,?_⟩;rw[BD,Z4,Z4];omega
 .simp at h
def v6:ah AA:=⟨104,By,λargs w=>Tryz.call104 args w,aO bQ Tryz.func104 By afg⟩
def Aw:aG
 |[.aa a n,.aa b m,.aa c l]=>FR (FR (n<=1000000/\m<=1000000/\l<=1000000),.ret (.bool (V (b<=a)&&V (a<=c))))
 |_=>Do
def adz(a b c:Z)(n m l:U):((n<=1000000/\m<=1000000)/\bif V (aY a b≥0)then (n<=1000000/\l<=1000000)/\V (aY a c<=0)=(V (b<=a)&&V (a<=c))else FU=(V (b<=a)&&V (a<=c)))=aI (aK [iQ] aC) E5 [.aa a n,.aa b m,.aa c l] (AF (.ret (.bool (V (b<=a)&&V (a<=c))))):=by kernel_rfl
def aeO:bC E5 Aw:=by
 intro ms p r h e;unfold Aw at h;split at h
 .rename_i a n b m c l;cases h;obtain⟨d,g,f⟩:=e;refine⟨aK [iQ] aC,?_⟩;rw[<-adz a b c n m l];refine⟨⟨d,g⟩,aJ (p:=b<=a) (by rw[Z4];unfold aY;split<;>(try split)<;>omega) (λw=>⟨⟨d,f⟩,?_⟩) (λw=>?_)⟩
  .rw[Y0 w,AB,BD,Z4,Z4];unfold aY;split<;>(try split)<;>omega
  .rw[Y1 w,AH]
 .simp at h
def B?:ah AA:=⟨103,Aw,λargs w=>Tryz.call103 args w,aO bQ Tryz.func103 Aw aeO⟩
def ag1(q n:Z)(k l:U)(b:N)(a:_)(c:a=(max (max k 64+1+(max k 64+1)) l+1)):(fX 1/\(k<=1000000/\64<=1000000)/\(max k 64+1<=1000000/\max k 64+1<=1000000)/\(max k 64+1+(max k 64+1)<=1000000/\l<=1000000)/\fX 4/\(64<=1000000/\k<=1000000)/\(max (max k 64+1+(max k 64+1)) l+1<=1000000/\64+k<=1000000)/\bif V (dK ((q+1)*(q+1)-n-4*q)>0)then (max a (64+k)+1<=1000000/\max a (64+k)+1<=1000000)/\fX 16/\(k<=1000000/\l<=1000000)/\(64<=1000000/\k+l<=1000000)/\(max a (64+k)+1+(max a (64+k)+1)<=1000000/\64+(k+l)<=1000000)/\V (aY (((q+1)*(q+1)-n-4*q)*((q+1)*(q+1)-n-4*q)) (16*(q*n))>0)=b else FU=b)=aI (aK [cC,fZ,kY,e9,eO,iQ] aC) FG [.aa q k,.aa n l] (AF (.ret (.bool b))):=by subst c;kernel_rfl
def Fo:aG
 |[.aa q k,.aa n l]=>FR (FR (k<=100000/\l<=100000),.ret (.bool (gh q n)))
 |_=>Do
def aji:bC FG Fo:=by
 intro ms p r h a;unfold Fo at h;split at h
 .rename_i q k n l;cases h;obtain⟨h1,h2⟩:=a;refine⟨aK [cC,fZ,kY,e9,eO,iQ] aC,?_⟩;rw[<-ag1 q n k l (gh q n) _ rfl];unfold gh;generalize (q+1)*(q+1)-n-4*q=d;generalize d*d=dd;generalize 16*(q*n)=e;refine⟨by omega,by omega,by omega,by omega,by omega,by omega,by omega,aJ (p:=0<d) (by rw[Z4];unfold dK;split<;>(try split)<;>omega) (λw=>?_) (λw=>?_)⟩
  .rw[Y0 w,AB];refine⟨by omega,by omega,by omega,by omega,by omega,?_⟩;rw[BD,Z4,Z4];unfold aY;split<;>(try split)<;>omega
  .rw[Y1 w,AH]
 .simp at h
def Dr:ah AA:=⟨56,Fo,λargs w=>Tryz.call56 args w,aO bQ Tryz.func56 Fo aji⟩
def SB(a b:Z):(a==b)=V (a=b):=by
 rfl
def Rt{b:Z}:V (dK b<0)=V (b<0):=by
 grind [dK]
def Bt:aG
 |[.aa a n,.int .i64 i]=>FR (FR (n<=1000000/\0<=i/\i.toNat<bl a.natAbs),.ret (.bool (V (a.natAbs/2^i.toNat%2=1))))
 |_=>Do
def acR(a:Z)(i n:U):(((32:Z)=0->J)/\(0<=O FV (D (i:Z) 32)/\O FV (D (i:Z) 32)<(H (aA (S a)):Z))/\((32:Z)=0->J)/\0<=O F6 (T (i:Z) 32)/\(O FT (AI (R (AC FT) (fdiv (K (aA (S a)) (I (O FV (D (i:Z) 32))) 0) ((2:Z)^min (I (O F6 (T (i:Z) 32))) (AC FT))) &&&R (AC FT) 1):Z)==1)=V (S a/2^i%2=1))=aI (aK [] aC) FB [.aa a n,.int .i64 i] (AF (.ret (.bool (V (a.natAbs/2^i%2=1))))):=by kernel_rfl
def afb:dL FB Bt:=by
 intro ms p r h c d;unfold Bt at h;split at h
 .rename_i a n i0;cases h;obtain⟨h1,f,b⟩:=c;have e:a.natAbs<2^n:=d.1;obtain⟨i,rfl⟩:=BS f;rw[Z8]at b;have pc:=fQ e;refine⟨aK [] aC,?_⟩;rw[show((i:Z)).toNat=i from rfl,<-acR a i n];have l:D (i:Z) 32=((i/32:U):Z):=rfl;have k:T (i:Z) 32=((i%32:U):Z):=rfl;have j:O FV ((i/32:U):Z)=((i/32:U):Z):=aV (by omega) (by omega);have g:O F6 ((i%32:U):Z)=((i%32:U):Z):=gI (by omega);have Le:=wR b;rw[l,k,j,g,Z8,Z8,tZ]
  grind
 .simp at h
def Re:ah AA:=⟨81,Bt,λargs w=>Tryz.call81 args w,aP bQ Tryz.func81 Bt afb⟩
def xF:aG
 |[.aa a n,.aa e k,.aa m l]=>FR (FR (n<=10000/\k<=10000/\l<=10000/\0<m),.ret (.aa (fY a e.natAbs m) l))
 |_=>Do
structure en where
 q:Nat
 x:Int
structure um (a:Int) (e:Nat) (m:Int) (s:en):Prop where
 q:s.q<=bl e
 x:s.x=fY a (e/2^s.q) m
def NR(a e m:Z)(n k l:U):U->MS->G bt
 |3,_=>FR (.inv en (um a e.natAbs m) (λs=>⟨33, [(3,.bp 0 0),(4,.bp 1 0),(5,.bp 2 0),(6,.bp 3 0),(7,.bp 4 0),(8,.int .i64 ((s.q:Z)-1))], [⟨FU,.one (.aa a n)⟩,⟨FU,.one (.aa e k)⟩,⟨FU,.one (.aa m l)⟩,⟨FU,.one (.aa 0 0)⟩,⟨FU,.one (.aa s.x l)⟩],0⟩) (λs=>s.q))
 |_,_=>Do
def Yh(a e m:Z)(n k l:U):(fX 1/\(64<=900000/\l<=900000/\(m=0->J))/\k<=1000000/\(∃i,um a (S e) m i/\(0=0/\0=0/\0=0/\0=0/\0=0/\O FV ((bl (S e):Z)-1)=(en.q i:Z)-1/\Q)/\aD a a n n/\aD e e k k/\aD m m l l/\aD 0 0 0 0/\aD (1%m) (en.x i) l l/\Q)/\∀(i:en),um a (S e) m i->bif V ((en.q i:Z)-1≥0)then (l<=1000000/\l<=1000000)/\(l+l<=900000/\l<=900000/\(m=0->J))/\(k<=1000000/\0<=(en.q i:Z)-1/\I ((en.q i:Z)-1)<bl (S e))/\bif V (S e/2^I ((en.q i:Z)-1)%2=1)then (l<=1000000/\n<=1000000)/\(l+n<=900000/\l<=900000/\(m=0->J))/\∃j,um a (S e) m j/\((0=0/\0=0/\0=0/\0=0/\0=0/\O FV ((en.q i:Z)-1-1)=(en.q j:Z)-1/\Q)/\aD a a n n/\aD e e k k/\aD m m l l/\aD 0 0 0 0/\aD (en.x i*en.x i%m*a%m) (en.x j) l l/\Q)/\en.q j<en.q i else ∃j,um a (S e) m j/\((0=0/\0=0/\0=0/\0=0/\0=0/\O FV ((en.q i:Z)-1-1)=(en.q j:Z)-1/\Q)/\aD a a n n/\aD e e k k/\aD m m l l/\aD 0 0 0 0/\aD (en.x i*en.x i%m) (en.x j) l l/\Q)/\en.q j<en.q i else en.x i=fY a (S e) m/\(l<=l\/S (en.x i)<2^l))=aI (aK [cC,eC,pW,e9,Re] (NR a e m n k l)) FK [.aa a n,.aa e k,.aa m l] (AF (.ret (.aa (fY a e.natAbs m) l))):=by kernel_rfl
theorem Ts(a m:Z)(q:U):fY a q m*fY a q m%m=fY a (2*q) m:=by rw[ux,Nat.two_mul]
theorem agH(a m:Z)(q:U):fY a q m*fY a q m%m*a%m=fY a (2*q+1) m:=by
 grind [Ts,fY,CK,BI,BZ,CL]
def ZY:dL FK xF:=by
 intro ms p r h f g;unfold xF at h;split at h
 .rename_i a n e k m l;cases h;obtain⟨h1,h2,h3,hm⟩:=f;have i:e.natAbs<2^k:=g.2.1;refine⟨aK [cC,eC,pW,e9,Re] (NR a e m n k l),?_⟩;rw[<-Yh a e m n k l];generalize hN:e.natAbs=N at *;have pc:bl N<=k:=fQ i;have e0:O FV ((bl N:Z)-1)=(bl N:Z)-1:=aV (by omega) (by omega);refine⟨by omega,by omega,by omega,⟨⟨bl N,1%m⟩,⟨Z0 _,?_⟩,?_⟩,?_⟩
  .grind [fY,bl,BB,oW,zo]
  .grind
  rintro⟨q,x⟩ b
  have hq:q<=bl N:=b.q;have hx:x=fY a (N/2^q) m:=b.x;clear b;dsimp only;rw[AR];split
  .rename_i hc;obtain⟨c,rfl⟩:∃c,q=c+1:=⟨q-1,by omega⟩;have o:((c+1:U):Z)-1=(c:U):=by omega
   have j:O FV ((c:U)-1:Z)=(c:U)-1:=aV (by omega) (by omega);have e7:N/2^c=2*(N/2^(c+1))+N/2^c%2:=by
    rw[AY,<-AQ];omega
   rw[o,j,Z8];refine⟨by omega,by omega,by omega,?_⟩;by_cases d:N/2^c%2=1
   .rw[Y0 d,Z6];refine⟨by omega,by omega,⟨c,x*x%m*a%m⟩,⟨by show c<=bl N;omega,?_⟩,?_,by show c<c+1;omega⟩
    all_goals grind [fY,agH]
   .rw[Y1 d,Z5];refine⟨⟨c,x*x%m⟩,⟨by show c<=bl N;omega,?_⟩,?_,by show c<c+1;omega⟩
    all_goals grind [fY,Ts]
  grind
 .simp at h
def v5:ah AA:=⟨49,xF,λargs w=>Tryz.call49 args w,aP bQ Tryz.func49 xF ZY⟩
theorem agG(a m:Z)(e:U):fY (a%m) e m=fY a e m:=by
 induction e with
 |zero=>rw[zo,zo]
 |succ e ih =>
  rw[<-ux,<-ux,ih,Jn,Jn,BZ _ (CL m)]
def C?:aG
 |[.aa a n,.int .i64 m]=>FR (FR (n<=900000/\0<m/\m<=4611686018427387904),.ret (.int .i64 (a%m)))
 |_=>Do
def adP(a m:Z)(n:U):(fX m/\(n<=900000/\64<=900000/\(m=0->J))/\S (a%m)<9223372036854775808/\a%m=a%m)=aI (aK [cC,eC,Ds] aC) EV [.aa a n,.int .i64 m] (AF (.ret (.int .i64 (a%m)))):=by kernel_rfl
def ags:bC EV C?:=by
 intro ms p r h b;unfold C? at h;split at h
 .rename_i a n m;cases h;obtain⟨h1,c,h3⟩:=b;have Ll:=AS a (show m≠0 by omega);have pe:=AM a c;refine⟨aK [cC,eC,Ds] aC,?_⟩;rw[<-adP a m n];omega
 .simp at h
def Ca:ah AA:=⟨139,C?,λargs w=>Tryz.call139 args w,aO bQ Tryz.func139 C? ags⟩
def Bu:aG
 |[.aa a n]=>FR (FR (n<=900000),.ret (.int .i64 (jK a)))
 |_=>Do
def acS(a:Z)(n:U):((n<=900000/\(0:Z)<8/\(8:Z)<=4611686018427387904)/\((2:Z)=0->J)/\bif T (a%8) 2==0 then 0=jK a else bif a%8==3 then (-1)=jK a else bif a%8==5 then (-1)=jK a else 1=jK a)=aI (aK [Ca] aC) EU [.aa a n] (AF (.ret (.int .i64 (jK a)))):=by kernel_rfl
def afc:bC EU Bu:=by
 intro ms p r h b;unfold Bu at h;split at h
 .rename_i a n;cases h;have h1:n<=900000:=b;refine⟨aK [Ca] aC,?_⟩;rw[<-acS a n]
  grind [jK]
 .simp at h
def Rf:ah AA:=⟨140,Bu,λargs w=>Tryz.call140 args w,aO bQ Tryz.func140 Bu afc⟩
structure ym (a r:Int) (m:Nat) (s:bk):Prop where
 k:s.k=1\/s.k= -1
 pos:0<s.n
 bn:s.n.natAbs<2^m
 val:s.k*kr a s.n.natAbs=r
structure uh (a b:Int) (s:bk):Prop where
 k:s.k=if b<0/\a<0 then-1 else 1
 n:s.n=b
structure yn (r:Int) (N:Nat) (A Q:Int) (s:ag):Prop where
 i:ek r N s
 a:(s.a:Int)<=A
 n:(s.n:Int)=Q
 ne:s.a≠0
def V3(m:U)(s:ag):MS:=⟨72, [(2,.bp 0 0),(3,.bp 1 0),(5,.int .i64 s.k)], [⟨FU,.one (.aa s.a m)⟩,⟨FU,.one (.aa s.n m)⟩],0⟩
def V2(a:Z)(n m:U)(s:bk):MS:=⟨72, [(2,.bp 0 0),(3,.bp 1 0),(5,.int .i64 s.k)], [⟨FU,.one (.aa a n)⟩,⟨FU,.one (.aa s.n m)⟩],0⟩
def OL(a r:Z)(n m:U):U->MS->G bt
 |9,_=>FR (.inv bk (ym a r m) (V2 a n m) (λs=>s.n.natAbs))
 |15,_=>FR (.inv ag (ek r m) (V3 m) (λs=>s.a))
 |16,s=>(match s.bx with
  |⟨_,.one (.aa A _)⟩::⟨_,.one (.aa Q _)⟩::_=>FR (.inv ag (yn r m A Q) (V3 m) (λs=>s.a))
  |_=>Do)
 |_,_=>Do
def O!(a b:Z)(n m:U):U->MS->G h!
 |8,_=>FR (.mk bk (uh a b) (V2 a n m))
 |_,_=>Do
def aaj(a b:Z)(n m:U)(c:_)(f:c=λ(ae:ag)=>(ag.a ae:Z))(d:_)(e:d=(gM a b)):(bif dK b==0 then n<=1000000/\fX 1/\(n<=1000000/\64<=1000000)/\bif V ((S a:Z)=1)then 1=gM a b else 0=gM a b else (bif V (dK b<0)then bif V (dK a<0)then ∃i,uh a b i/\(0=0/\0=0/\(-1)=bk.k i/\Q)/\aD a a n n/\aD b (bk.n i) m m/\Q else ∃i,uh a b i/\(0=0/\0=0/\1=bk.k i/\Q)/\aD a a n n/\aD b (bk.n i) m m/\Q else ∃i,uh a b i/\(0=0/\0=0/\1=bk.k i/\Q)/\aD a a n n/\aD b (bk.n i) m m/\Q)/\∀(i:bk),uh a b i->m<=1000000/\(∃ae,ym a d m ae/\(0=0/\0=0/\bk.k i=bk.k ae/\Q)/\aD a a n n/\aD (S (bk.n i):Z) (bk.n ae) m m/\Q)/\∀(i:bk),ym a d m i->(m<=900000/\(0:Z)<2/\(2:Z)<=4611686018427387904)/\bif bk.n i%2==0 then n<=900000/\fX 2/\(m<=900000/\64<=900000/\((2:Z)=0->J))/\bif O FV (bk.k i*jK a)==0 then 0=gM a b else ∃j,ym a d m j/\((0=0/\0=0/\O FV (bk.k i*jK a)=bk.k j/\Q)/\aD a a n n/\aD (bk.n i/2) (bk.n j) m m/\Q)/\S (bk.n j)<S (bk.n i)else (n<=900000/\m<=900000/\(bk.n i=0->J))/\(∃ae,ek d m ae/\(0=0/\0=0/\bk.k i=ag.k ae/\Q)/\aD (a%bk.n i) (c ae) m m/\aD (bk.n i) (ag.n ae:Z) m m/\Q)/\∀(i:ag),ek d m i->bif dK (ag.a i:Z) != 0 then (∃ae,yn d m (ag.a i:Z) (ag.n i:Z) ae/\(0=0/\0=0/\ag.k i=ag.k ae/\Q)/\aD (ag.a i:Z) (c ae) m m/\aD (ag.n i:Z) (ag.n ae:Z) m m/\Q)/\∀(ae:ag),yn d m (ag.a i:Z) (ag.n i:Z) ae->(m<=900000/\(0:Z)<2/\(2:Z)<=4611686018427387904)/\bif (c ae) %2==0 then fX 2/\(m<=900000/\64<=900000/\((2:Z)=0->J))/\m<=900000/\∃j,yn d m (ag.a i:Z) (ag.n i:Z) j/\((0=0/\0=0/\O FV (ag.k ae*jK (ag.n ae:Z))=ag.k j/\Q)/\aD ((c ae) /2) (ag.a j:Z) m m/\aD (ag.n ae:Z) (ag.n j:Z) m m/\Q)/\ag.a j<ag.a ae else (m<=900000/\(0:Z)<4/\(4:Z)<=4611686018427387904)/\bif (c ae) %4==3 then (m<=900000/\(0:Z)<4/\(4:Z)<=4611686018427387904)/\bif (ag.n ae:Z)%4==3 then (m<=900000/\m<=900000/\((c ae) =0->J))/\∃j,ek d m j/\((0=0/\0=0/\O FV (0-ag.k ae)=ag.k j/\Q)/\aD ((ag.n ae:Z)% (c ae)) (ag.a j:Z) m m/\aD (c ae) (ag.n j:Z) m m/\Q)/\ag.a j<ag.a i else (m<=900000/\m<=900000/\((c ae) =0->J))/\∃j,ek d m j/\((0=0/\0=0/\ag.k ae=ag.k j/\Q)/\aD ((ag.n ae:Z)% (c ae)) (ag.a j:Z) m m/\aD (c ae) (ag.n j:Z) m m/\Q)/\ag.a j<ag.a i else (m<=900000/\m<=900000/\((c ae) =0->J))/\∃j,ek d m j/\((0=0/\0=0/\ag.k ae=ag.k j/\Q)/\aD ((ag.n ae:Z)% (c ae)) (ag.a j:Z) m m/\aD (c ae) (ag.n j:Z) m m/\Q)/\ag.a j<ag.a i else fX 1/\(m<=1000000/\64<=1000000)/\bif !decide ((ag.n i:Z)=1)then 0=gM a b else ag.k i=gM a b)=aI (ov [eO,uD,cC,fF,Ca,Rf,kX,eC] (OL a (gM a b) n m) (O! a b n m)) E3 [.aa a n,.aa b m] (AF (.ret (.int .i64 (gM a b)))):=by subst f e;kernel_rfl
def ze:aG
 |[.aa a n,.aa b m]=>FR (FR (n<=200000/\m<=200000),.ret (.int .i64 (gM a b)))
 |_=>Do
def aa7:dL E3 ze:=by
 intro ms p r h S G;unfold ze at h;split at h
 .rename_i a n b m;cases h;obtain⟨hn,hm⟩:=S;have T:a.natAbs<2^n:=G.1;have N:b.natAbs<2^m:=G.2.1;refine⟨ov [eO,uD,cC,fF,Ca,Rf,kX,eC] (OL a (gM a b) n m) (O! a b n m),?_⟩;rw[<-aaj a b n m _ rfl _ rfl];by_cases C:b=0
  .grind [dK,gM]
  have P:(dK b==0)=FU:=by
   unfold dK
   grind
  have j:gM a b=(if b<0/\a<0 then-1 else 1)*kr a b.natAbs:=by unfold gM;rw[X C]
  generalize R:gM a b=r at *;rw[P,Z5];refine⟨?_,?_⟩
  .rw[Rt,Rt];by_cases q1:b<0
   .rw[Y0 q1,Z6];by_cases D:a<0
    .rw[Y0 D,Z6];exact⟨⟨-1,b⟩,⟨by show(-1:Z)=_;rw[Y ⟨q1,D⟩],rfl⟩,⟨rfl,rfl,rfl,⟨⟩⟩,⟨rfl,.inl (Z0 _)⟩,⟨rfl,.inl (Z0 _)⟩,⟨⟩⟩
    .rw[Y1 D,Z5];exact⟨⟨1,b⟩,⟨by show(1:Z)=_;rw[X (by omega)],rfl⟩,⟨rfl,rfl,rfl,⟨⟩⟩,⟨rfl,.inl (Z0 _)⟩,⟨rfl,.inl (Z0 _)⟩,⟨⟩⟩
   .rw[Y1 q1,Z5];exact⟨⟨1,b⟩,⟨by show(1:Z)=_;rw[X (by omega)],rfl⟩,⟨rfl,rfl,rfl,⟨⟩⟩,⟨rfl,.inl (Z0 _)⟩,⟨rfl,.inl (Z0 _)⟩,⟨⟩⟩
  rintro⟨k,c⟩ f
  have A:k=if b<0/\a<0 then-1 else 1:=f.k;have B:c=b:=f.n;clear f;dsimp only;rw[B];have d:k=1\/k= -1:=by
   omega
  rw[<-A]at j;refine⟨by omega,⟨⟨k,b.natAbs⟩,⟨d,by show(0:Z)<(b.natAbs:Z);omega,by show((b.natAbs:Z)).natAbs<_;rw[AL];exact N,?_⟩,⟨rfl,rfl,rfl,⟨⟩⟩,⟨rfl,.inl (Z0 _)⟩,⟨rfl,.inl (Z0 _)⟩,⟨⟩⟩,?_⟩
  .simp_all
  clear d A j P C N B R T G
  rintro⟨k,c⟩ f
  have d:k=1\/k= -1:=f.k;have e:0<c:=f.pos;have l:c.natAbs<2^m:=f.bn;have hv:k*kr a c.natAbs=r:=f.val;clear f;dsimp only;obtain⟨q,rfl⟩:=BS (DU e);rw[AL]at l hv;have E:∀ {z:Z},z=1\/z= -1->FX FV z=z:=λh=>by rcases h with h|h<;>rw[h]<;>rfl
  have w:∀ {z:Z},z=1\/z= -1->(0-z=1\/0-z= -1):=λh=>by rcases h with h|h<;>rw[h]<;>decide
  refine⟨by omega,?_⟩;rw[SB];by_cases u:(q:Z)%2=0
  .rw[Y0 u,Z6];rw[Cj (by omega) (by omega),<-AZ]at hv;refine⟨by omega,by omega,by omega,?_⟩;by_cases F:a%2=1
   .have o:=wZ d (pQ F);rw[E o,show(k*jK a==0)=FU by rcases o with h|h<;>rw[h]<;>rfl,Z5];refine⟨⟨k*jK a,((q/2:U):Z)⟩,⟨o,by show(0:Z)<((q/2:U):Z);omega,by show(((q/2:U):Z)).natAbs<_;omega,?_⟩,⟨⟨rfl,rfl,rfl,⟨⟩⟩,⟨rfl,.inl (Z0 _)⟩,⟨by show(q:Z)/2=((q/2:U):Z);omega,.inl (Z0 _)⟩,⟨⟩⟩,by show(((q/2:U):Z)).natAbs<((q:Z)).natAbs;omega⟩
    grind [jK,kr,AL]
   .rw[xK F,DR,DN]at hv;rw[xK F,DR];exact hv
  .rw[Y1 u,Z5];have L:=AS a (show(q:Z)≠0 by omega);have K:=AM a e;refine⟨by omega,⟨⟨k,(a%q).toNat,q⟩,⟨by show q%2=1;omega,d,?_,by show(a%q).toNat<_;omega,l⟩,⟨rfl,rfl,rfl,⟨⟩⟩,⟨by show a%q=((a%q).toNat:Z);omega,.inl (Z0 _)⟩,⟨rfl,.inl (Z0 _)⟩,⟨⟩⟩,?_⟩
   .grind [gi,JV]
   clear hv d L K l e u
   rintro⟨k,x,q⟩ t
   have M:q%2=1:=t.rj;have d:k=1\/k= -1:=t.k;have hv:k*gi x q=r:=t.val;have g:x<2^m:=t.ba;have v:q<2^m:=t.bn;clear t;dsimp only;by_cases Q:x=0
   .grind [dK,Iw]
   have O:(dK (x:Z) != 0)=FW:=by rw[Db];rfl
   rw[O,Z6];refine⟨⟨⟨k,x,q⟩,⟨⟨M,d,hv,g,v⟩,BP _,rfl,Q⟩,⟨rfl,rfl,rfl,⟨⟩⟩,⟨rfl,.inl (Z0 _)⟩,⟨rfl,.inl (Z0 _)⟩,⟨⟩⟩,?_⟩;clear hv d O
   rintro⟨k,y,q'⟩ s
   have aso:(y:Z)<=x:=s.a;have ar2:(q':Z)=q:=s.n;have J:y≠0:=s.ne;have d:k=1\/k= -1:=s.i.k;have hv:k*gi y q'=r:=s.i.val;clear s;obtain rfl:q'=q:=by omega
   dsimp only;refine⟨by omega,?_⟩;rw[SB];by_cases u:(y:Z)%2=0
   .rw[Y0 u,Z6];rw[IF J,<-AZ]at hv;have o:=wZ d (pQ (q:=(q':Z)));exact⟨by omega,by omega,by omega,⟨k*jK q',y/2,q'⟩,⟨⟨M,o,hv,by show y/2<_;omega,v⟩,by show((y/2:U):Z)<=x;omega,rfl,by show y/2≠0;omega⟩,⟨⟨rfl,rfl,E o,⟨⟩⟩,⟨by show(y:Z)/2=((y/2:U):Z);omega,.inl (Z0 _)⟩,⟨rfl,.inl (Z0 _)⟩,⟨⟩⟩,by show y/2<y;omega⟩
   .rw[Y1 u,Z5];rw[Js]at hv;refine⟨by omega,?_⟩;rw[G3,G3];unfold km at hv;by_cases I:y%4=3
    .rw[Y0 I,Z6];refine⟨by omega,?_⟩;by_cases H:q'%4=3
     .rw[Y0 H,Z6];rw[Y ⟨I,H⟩]at hv;exact jG (by omega) (by omega) (by omega) g (E (w d)) (w d) (by rw[<-hv];grind)
     .rw[Y1 H,Z5];rw[X (by omega),A5]at hv;exact jG (by omega) (by omega) (by omega) g rfl d hv
    .rw[Y1 I,Z5];rw[X (by omega),A5]at hv;exact jG (by omega) (by omega) (by omega) g rfl d hv
 .simp at h
def OD:ah AA:=⟨105,ze,λargs w=>Tryz.call105 args w,aP bQ Tryz.func105 ze aa7⟩
def kg{M a b c d:Z}(f:M ∣ a)(e:M ∣ b):M ∣ c*a+d*b:=Int.dvd_add (BR f) (BR e)
def Mx{M u D G:Z}(a:M ∣ u*D-1)(h:M ∣ D*G):M ∣ G:=by
 have e:G=u*(D*G)+(-G)*(u*D-1):=by grind
 rw[e];exact kg h a
theorem amw{M A B b c a d u s:Z}(j:M ∣ c*c-(b*b*b+A*b+B))(i:M ∣ d*d-(a*a*a+A*a+B))(f:M ∣ u*(a-b)-1)(h:M ∣ s-(d-c)*u) :
  M ∣ a*a+a*b+b*b+A-s*s*(a-b)-2*s*c:=by
 have g:M ∣ s*(a-b)-(d-c):=by
  have e:s*(a-b)-(d-c)=(a-b)*(s-(d-c)*u)+(d-c)*(u*(a-b)-1):=by grind
  rw[e];exact kg h f
 refine Mx f ?_;have e:(a-b)*(a*a+a*b+b*b+A-s*s*(a-b)-2*s*c)=1*(1*(c*c-(b*b*b+A*b+B))+(-1)*(d*d-(a*a*a+A*a+B)))+(-(2*d+(s*(a-b)-(d-c))))*(s*(a-b)-(d-c)):=by grind
 rw[e];exact kg (kg j i) g
theorem amv{M A B a b c u s:Z}(j:M ∣ b*b-(a*a*a+A*a+B))(i:M ∣ c*c-(a*a*a+A*a+B))(d:M ∣ u*(b+c)-1)(g:M ∣ s-(3*(a*a)+A)*u) :
  M ∣ a*a+a*a+a*a+A-s*s*(a-a)-2*s*b:=by
 have f:M ∣ s*(b+c)-(3*(a*a)+A):=by
  have e:s*(b+c)-(3*(a*a)+A)=(b+c)*(s-(3*(a*a)+A)*u)+(3*(a*a)+A)*(u*(b+c)-1):=by grind
  rw[e];exact kg g d
 have h:M ∣ b-c:=by
  refine Mx d ?_;have e:(b+c)*(b-c)=1*(b*b-(a*a*a+A*a+B))+(-1)*(c*c-(a*a*a+A*a+B)):=by grind
  rw[e];exact kg j i
 have e:a*a+a*a+a*a+A-s*s*(a-a)-2*s*b=(-1)*(s*(b+c)-(3*(a*a)+A))+(-s)*(b-c):=by grind
 rw[e];exact kg f h
def amT{M A B a c b s x y:Z}(h:M ∣ c*c-(a*a*a+A*a+B))(g:M ∣ b*b+b*a+a*a+A-s*s*(b-a)-2*s*c)(f:M ∣ x-(s*s-(a+b)))(d:M ∣ y-(s*(a-x)-c)):M ∣ y*y-(x*x*x+A*x+B):=by
 have e:y*y-(x*x*x+A*x+B)=1*(1*(1*(c*c-(a*a*a+A*a+B))+(-(x-a))*(b*b+b*a+a*a+A-s*s*(b-a)-2*s*c))+(-((x-a)*(x-b)))*(x-(s*s-(a+b))))+((y-(s*(a-x)-c))-2*(s*(x-a)+c))*(y-(s*(a-x)-c)):=by grind
 rw[e];exact kg (kg (kg h g) f) d
theorem jT(a M:Z):M ∣ a%M-a:=by
 have:=A9 a M;exact⟨-(a/M),by rw[CC];omega⟩
theorem YG(a M:Z):M ∣ a-a%M:=by
 have:=A9 a M;exact⟨a/M,by omega⟩
theorem Jr{a M:Z}:dz a M=FW↔0<=a/\a<M:=by unfold dz;exact Z4
theorem kL{a b M:Z}:a%M=b%M↔M ∣ a-b:=Int.emod_eq_emod_iff_emod_sub_eq_zero.trans ⟨Int.dvd_of_emod_eq_zero,BT⟩
structure gr (A B M X Y:Int):Prop where
 x0:0<=X
 x1:X<M
 y0:0<=Y
 y1:Y<M
 eq:M ∣ Y*Y-(X*X*X+A*X+B)
theorem Px(A B M X:Z):((X*X%M+A)*X%M+B)%M=(X*X*X+A*X+B)%M:=by
 rw[Int.emod_add_emod,kL];have e:(X*X%M+A)*X+B-(X*X*X+A*X+B)=X*(X*X%M-X*X):=by grind
 simp_all [BR,jT]
def pL{A B M X Y:Z}:nR A B M X Y FU=FW↔cS A B M=FW/\gr A B M X Y:=by
 unfold nR;rw[Z5,Z3,Z3,Z3,Jr,Jr,Z4,Px,kL];constructor
 .rintro⟨h,⟨⟨e,d⟩,c,b⟩,a⟩;exact⟨h,e,d,c,b,a⟩
 .rintro⟨h,e,d,c,b,a⟩;exact⟨h,⟨⟨e,d⟩,c,b⟩,a⟩
def J2{A B M X Y:Z}:nR A B M X Y FW=FW↔cS A B M=FW/\X=0/\Y=0:=by
 grind [nR]
def P4{A B M X Y:Z}{o:N}(h:nR A B M X Y o=FW):cS A B M=FW:=by
 grind [nR]
def yG{A B M:Z}:cS A B M=FW↔3<M/\M%2≠0/\(0<=A/\A<M)/\0<=B/\B<M:=by
 grind [cS,BO,Jr]
def TR.ic(A B M:Z):TR->Prop
 |.pt X Y o=>nR A B M X Y o=FW
 |.dv d=>M%d=0/\1<d/\d<M
def aeh{D M:Z}(hM:1<M)(h1:gcd D M≠1)(anP:¬M ∣ D):M%(gcd D M:Z)=0/\1<(gcd D M:Z)/\(gcd D M:Z)<M:=by
 have a:(gcd D M:Z) ∣ M:=Int.gcd_dvd_right ..;have U9:(gcd D M:Z) ∣ D:=Int.gcd_dvd_left ..;have hle:=Int.le_of_dvd (by omega) a
 grind [gcd,Int.gcd_eq_zero_iff,BT]
def aaa{A B M a d b f:Z}{k j:N}(l:nR A B M a d k=FW)(m:nR A B M b f j=FW):(aQ A M a d k b f j).ic A B M:=by
 have i:=P4 l;obtain⟨hM,_⟩:=yG.1 i;unfold aQ;cases k with
 |true=>exact m
 |false =>
  rw[Z5];cases j with
  |true=>exact l
  |false =>
   rw[Z5];obtain⟨_,p0,p1,p2,p3,o⟩:=pL.1 l;obtain⟨_,q0,q1,q2,q3,q4⟩:=pL.1 m;cases ho:oF M a d b f with
   |true=>exact J2.2 ⟨i,rfl,rfl⟩
   |false =>
    rw[Z5];by_cases g:gcd (qG a d b f) M=1
    .rw[Y0 g,Z6];obtain⟨m1,m2,apk⟩:=H4 (by omega) g;have q:M ∣ nL A M a d b f-(fO A M a d b f*fO A M a d b f-(a+b)):=jT _ _;have p:M ∣ vR A M a d b f-(fO A M a d b f*(a-nL A M a d b f)-d):=jT _ _;have hs:M ∣ fO A M a d b f-ga A a d b f*bS (qG a d b f) M:=jT _ _;have r:M ∣ b*b+b*a+a*a+A-fO A M a d b f*fO A M a d b f*(b-a)-2*fO A M a d b f*d:=by
      grind [qG,ga,amv,amw]
     exact pL.2 ⟨i,AS _ (by omega),AM _ (by omega),AS _ (by omega),AM _ (by omega),amT o r q p⟩
    .rw[Y1 g,Z5];refine aeh (by omega) g λn=>?_;by_cases e:a=b
     .grind [qG,oF,BT]
     .have s:qG a d b f=b-a:=by unfold qG;simp[e]
      rw[s]at n;obtain⟨c,i⟩:=n;have:c=0:=by
       rcases Int.lt_trichotomy c 0 with h|h|h
       .have:M*c<=M*(-1):=Z7;omega
       .exact h
       .have:M*1<=M*c:=Z7;omega
      subst this;omega
def ah0{A B M X Y:Z}{o:N}(h:nR A B M X Y o=FW):nR A B M X (lh M Y o) o=FW:=by
 cases o with
 |true=>exact h
 |false =>
  obtain⟨a,d,c,p2,p3,b⟩:=pL.1 h;obtain⟨hM,_⟩:=yG.1 a;refine pL.2 ⟨a,d,c,AS _ (by omega),AM _ (by omega),?_⟩;have f:M ∣ -Y%M - -Y:=jT _ _;show M ∣ (-Y%M)*(-Y%M)-_;have e:(-Y%M)*(-Y%M)-(X*X*X+A*X+B)=1*(Y*Y-(X*X*X+A*X+B))+((-Y%M)-Y)*(-Y%M - -Y):=by grind
  rw[e];exact kg b f
def aaO{m a x y:Z}(h:3<m:=by omega)(g:m%2≠0:=by omega)(j:0<=a:=by omega)(d:a<m:=by omega)(f:0<=x:=by omega)(c:x<m:=by omega)(e:0<=y:=by omega)(b:y<m:=by omega):nR a (k6 m a x y) m x y FU=FW:=by
 have i:cS a (k6 m a x y) m=FW:=yG.2 ⟨h,g,⟨j,d⟩,AS _ (by omega),AM _ (by omega)⟩;refine pL.2 ⟨i,f,c,e,b,?_⟩
 grind [k6,YG]
def Fq:aG
 |[.aa a n,.aa m k]=>FR (FR (n<=200000/\k<=200000/\0<m/\gcd a m=1),.ret (.tup [.aa (bS a m) k,.int .i64 0]))
 |_=>Do
def ag8(a m:Z)(n k:U):(bif V (dK m<=0)then aD 0 (bS a m) 0 k/\(1:Z)=0/\Q else (n<=900000/\k<=900000/\(m=0->J))/\(k<=300000/\k<=300000)/\bif V (m=0)then fX 1/\(k<=1000000/\64<=1000000)/\bif !decide ((S (a%m):Z)=1)then aD 0 (bS a m) 0 k/\(4:Z)=0/\Q else (64<=900000/\k<=900000/\(m=0->J))/\aD (dK (a%m)%m) (bS a m) k k/\(0:Z)=0/\Q else fX 1/\(k<=1000000/\64<=1000000)/\bif !decide ((gcd (a%m) m:Z)=1)then aD 0 (bS a m) 0 k/\(4:Z)=0/\Q else (k<=900000/\k<=900000/\(m=0->J))/\aD (tN (a%m) m%m) (bS a m) k k/\(0:Z)=0/\Q)=aI (aK [eO,eC,S4,cC,fF] aC) EF [.aa a n,.aa m k] (AF (.ret (.tup [.aa (bS a m) k,.int .i64 0]))):=by kernel_rfl
def aiP:bC EF Fq:=by
 intro ms p r h c;unfold Fq at h;split at h
 .rename_i a n m k;cases h;obtain⟨h1,h2,h3,d⟩:=c;refine⟨aK [eO,eC,S4,cC,fF] aC,?_⟩;rw[<-ag8 a m n k];have b:¬dK m<=0:=by unfold dK;rw[X (by omega),X (by omega)];omega
  rw[Y1 b,Z5,Y1 (show ¬m=0 by omega),Z5,va,d];exact⟨by omega,by omega,by omega,by omega,by omega,⟨rfl,.inl (Z0 _)⟩,rfl,⟨⟩⟩
 .simp at h
def S5:ah AA:=⟨175,Fq,λargs w=>Tryz.call175 args w,aO bQ Tryz.func175 Fq aiP⟩
def Ab:aG
 |[.st [.aa A i,.aa B j,.aa M k]]=>FR (FR (i<=1000/\j<=1000/\k<=1000),.ret (.bool (cS A B M)))
 |_=>Do
def Gx:aG
 |[.aa a n,.aa m k]=>FR (FR (n<=1000/\k<=1000),.ret (.bool (dz a m)))
 |_=>Do
def alm(a m:Z)(n k:U):(bif V (dK a≥0)then (n<=1000000/\k<=1000000)/\V (aY a m<0)=dz a m else FU=dz a m)=aI (aK [eO,iQ] aC) ET [.aa a n,.aa m k] (AF (.ret (.bool (dz a m)))):=by kernel_rfl
theorem JM{a:Z}:dK a<0↔a<0:=by unfold dK;split<;>(try split)<;>omega
def amI:bC ET Gx:=by
 intro ms p r h b;unfold Gx at h;split at h
 .rename_i a n m k;cases h;obtain⟨h1,h2⟩:=b;refine⟨aK [eO,iQ] aC,?_⟩;rw[<-alm a m n k]
  grind [dz,dK,JM,zy]
 .simp at h
def Gg:ah AA:=⟨141,Gx,λargs w=>Tryz.call141 args w,aO bQ Tryz.func141 Gx amI⟩
def aar(A B M:Z)(i j k:U):(fX 3/\(k<=1000000/\64<=1000000)/\bif V (aY M 3<=0)then FU=cS A B M else fX 2/\(k<=900000/\64<=900000/\((2:Z)=0->J))/\bif dK (M%2)==0 then FU=cS A B M else (i<=1000/\k<=1000)/\bif dz A M then (j<=1000/\k<=1000)/\dz B M=cS A B M else FU=cS A B M)=aI (aK [cC,iQ,eC,eO,Gg] aC) E1 [fo A B M i j k] (AF (.ret (.bool (cS A B M)))):=by kernel_rfl
def abZ:bC E1 Ab:=by
 intro ms p r h a;unfold Ab at h;split at h
 .rename_i A i B j M k;cases h;obtain⟨h1,h2,h3⟩:=a;refine⟨aK [cC,iQ,eC,eO,Gg] aC,?_⟩;rw[<-aar A B M i j k]
  grind [cS,Ch,vQ,dz]
 .simp at h
def zs:ah AA:=⟨107,Ab,λargs w=>Tryz.call107 args w,aO bQ Tryz.func107 Ab abZ⟩
def Gw:aG
 |[.st [.aa A i,.aa B j,.aa M k],.st [.aa X n,.aa Y m,.bool o]]=>FR (FR (i<=200/\j<=200/\k<=200/\n<=200/\m<=200),.ret (.bool (nR A B M X Y o)))
 |_=>Do
def alk(A B M X Y:Z)(o:N)(i j k n m:U):((i<=1000/\j<=1000/\k<=1000)/\bif !cS A B M then FU=nR A B M X Y o else bif o then bif dK X==0 then (dK Y==0)=nR A B M X Y o else FU=nR A B M X Y o else (n<=1000/\k<=1000)/\bif dz X M then (m<=1000/\k<=1000)/\bif dz Y M then (m<=1000000/\m<=1000000)/\(m+m<=900000/\k<=900000/\(M=0->J))/\(i<=200/\j<=200/\k<=200/\n<=200/\0<M)/\(k<=1000000/\k<=1000000)/\V (Y*Y%M=ry A B M X)=nR A B M X Y o else FU=nR A B M X Y o else FU=nR A B M X Y o)=aI (aK [zs,eO,Gg,e9,eC,Qe,fF] aC) E0 [fo A B M i j k,qD X Y o n m] (AF (.ret (.bool (nR A B M X Y o)))):=by kernel_rfl
theorem Zp(A B M X:Z):ry A B M X=((X*X%M+A)*X%M+B)%M:=by
 grind [Px,ry,AZ]
def amH:bC E0 Gw:=by
 intro ms p r h a;unfold Gw at h;split at h
 .rename_i A i B j M k X n Y m o;cases h;obtain⟨h1,h2,h3,h4,h5⟩:=a;refine⟨aK [zs,eO,Gg,e9,eC,Qe,fF] aC,?_⟩;rw[<-alk A B M X Y o i j k n m]
  grind [nR,cS,BO,AO,vQ,dz,Zp]
 .simp at h
def Gf:ah AA:=⟨108,Gw,λargs w=>Tryz.call108 args w,aO bQ Tryz.func108 Gw amH⟩
def z8:aG
 |[.st [.aa _ i,.aa _ j,.aa M k],.st [.aa X n,.aa Y m,.bool o]]=>FR (FR (i<=200/\j<=200/\k<=200/\n<=200/\m<=200/\0<M),.ret (qD X (lh M Y o) o 200 200))
 |_=>Do
def aan(A B M X Y:Z)(o:N)(i j k n m:U):(bif o then aD X X n 200/\aD Y (lh M Y o) m 200/\o=o/\Q else m<=1000000/\(m<=900000/\k<=900000/\(M=0->J))/\aD X X n 200/\aD (-Y%M) (lh M Y o) k 200/\FU=o/\Q)=aI (aK [rX,eC] aC) ER [fo A B M i j k,qD X Y o n m] (AF (.ret (qD X (lh M Y o) o 200 200))):=by kernel_rfl
def abb:bC ER z8:=by
 intro ms p r h a;unfold z8 at h;split at h
 .rename_i A i B j M k X n Y m o;cases h;obtain⟨h1,h2,h3,h4,h5,h6⟩:=a;refine⟨aK [rX,eC] aC,?_⟩;rw[<-aan A B M X Y o i j k n m];cases o with
  |true=>exact⟨⟨rfl,.inl (by omega)⟩,⟨rfl,.inl (by omega)⟩,rfl,⟨⟩⟩
  |false=>exact⟨by omega,by omega,⟨rfl,.inl (by omega)⟩,⟨rfl,.inl (by omega)⟩,rfl,⟨⟩⟩
 .simp at h
def OI:ah AA:=⟨143,z8,λargs w=>Tryz.call143 args w,aO bQ Tryz.func143 z8 abb⟩
def z7:aG
 |[.st [.aa A i,.aa _ j,.aa M k],.st [.aa e n,.aa d m,.bool f],.st [.aa b n',.aa a m',.bool c]] =>
  FR (FR (i<=200/\j<=200/\k<=200/\n<=200/\m<=200/\n'<=200/\m'<=200/\0<M),.ret (xg (aQ A M e d f b a c).rs))
 |_=>Do
def aam(A B M b c f e:Z)(h g:N)(i j k n m n' m':U)(a:_)(l:a=(aQ A M b c h f e g)):(bif h then (aD f (TR.X a) n' 200/\aD e (TR.Y a) m' 200/\g=TR.o a/\Q)/\aD 0 (TR.d a) 0 200/\(0=bif TR.ok a then (0:Z)else (6:Z))/\Q else bif g then (aD b (TR.X a) n 200/\aD c (TR.Y a) m 200/\h=TR.o a/\Q)/\aD 0 (TR.d a) 0 200/\(0=bif TR.ok a then (0:Z)else (6:Z))/\Q else (n'<=1000000/\n<=1000000)/\(m'<=1000000/\m<=1000000)/\(n<=1000000/\n'<=1000000)/\bif V (b=f)then (m<=1000000/\m'<=1000000)/\(max m m'+1<=900000/\k<=900000/\(M=0->J))/\bif dK ((c+e)%M)==0 then (aD 0 (TR.X a) 0 200/\aD 0 (TR.Y a) 0 200/\FW=TR.o a/\Q)/\aD 0 (TR.d a) 0 200/\(0=bif TR.ok a then (0:Z)else (6:Z))/\Q else fX 3/\(n<=1000000/\n<=1000000)/\(64<=1000000/\n+n<=1000000)/\(64+(n+n)<=1000000/\i<=1000000)/\(max m m'+1<=900000/\k<=900000)/\fX 1/\(max (max m m'+1) k<=1000000/\64<=1000000)/\bif !decide ((gcd (c+e) M:Z)=1)then (aD 0 (TR.X a) 0 200/\aD 0 (TR.Y a) 0 200/\FU=TR.o a/\Q)/\aD (gcd (c+e) M:Z) (TR.d a) (max (max m m'+1) k) 200/\(6=bif TR.ok a then (0:Z)else (6:Z))/\Q else (max m m'+1<=200000/\k<=200000/\0<M/\gcd (c+e) M=1)/\(max (64+(n+n)) i+1<=1000000/\k<=1000000)/\(max (64+(n+n)) i+1+k<=1000000/\max (64+(n+n)) i+1+k<=1000000)/\(n<=1000000/\n'<=1000000)/\(max (64+(n+n)) i+1+k+(max (64+(n+n)) i+1+k)<=1000000/\max n n'+1<=1000000)/\(max (max (64+(n+n)) i+1+k+(max (64+(n+n)) i+1+k)) (max n n'+1)+1<=900000/\k<=900000/\(M=0->J))/\(n<=1000000/\k<=1000000)/\(max (64+(n+n)) i+1+k<=1000000/\max n k+1<=1000000)/\(max (64+(n+n)) i+1+k+(max n k+1)<=1000000/\m<=1000000)/\(max (max (64+(n+n)) i+1+k+(max n k+1)) m+1<=900000/\k<=900000/\(M=0->J))/\(aD (((3*(b*b)+A)*bS (c+e) M*((3*(b*b)+A)*bS (c+e) M)-(b+f))%M) (TR.X a) k 200/\aD (((3*(b*b)+A)*bS (c+e) M*(b-((3*(b*b)+A)*bS (c+e) M*((3*(b*b)+A)*bS (c+e) M)-(b+f))%M)-c)%M) (TR.Y a) k 200/\FU=TR.o a/\Q)/\aD 0 (TR.d a) 0 200/\(0=bif TR.ok a then (0:Z)else (6:Z))/\Q else (max n' n+1<=900000/\k<=900000)/\fX 1/\(max (max n' n+1) k<=1000000/\64<=1000000)/\bif !decide ((gcd (f-b) M:Z)=1)then (aD 0 (TR.X a) 0 200/\aD 0 (TR.Y a) 0 200/\FU=TR.o a/\Q)/\aD (gcd (f-b) M:Z) (TR.d a) (max (max n' n+1) k) 200/\(6=bif TR.ok a then (0:Z)else (6:Z))/\Q else (max n' n+1<=200000/\k<=200000/\0<M/\gcd (f-b) M=1)/\(max m' m+1<=1000000/\k<=1000000)/\(max m' m+1+k<=1000000/\max m' m+1+k<=1000000)/\(n<=1000000/\n'<=1000000)/\(max m' m+1+k+(max m' m+1+k)<=1000000/\max n n'+1<=1000000)/\(max (max m' m+1+k+(max m' m+1+k)) (max n n'+1)+1<=900000/\k<=900000/\(M=0->J))/\(n<=1000000/\k<=1000000)/\(max m' m+1+k<=1000000/\max n k+1<=1000000)/\(max m' m+1+k+(max n k+1)<=1000000/\m<=1000000)/\(max (max m' m+1+k+(max n k+1)) m+1<=900000/\k<=900000/\(M=0->J))/\(aD (((e-c)*bS (f-b) M*((e-c)*bS (f-b) M)-(b+f))%M) (TR.X a) k 200/\aD (((e-c)*bS (f-b) M*(b-((e-c)*bS (f-b) M*((e-c)*bS (f-b) M)-(b+f))%M)-c)%M) (TR.Y a) k 200/\FU=TR.o a/\Q)/\aD 0 (TR.d a) 0 200/\(0=bif TR.ok a then (0:Z)else (6:Z))/\Q)=aI (aK [kY,fF,fZ,eO,eC,e9,cC,r9,S5] aC) EQ [fo A B M i j k,qD b c h n m,qD f e g n' m'] (AF (.ret (xg (aQ A M b c h f e g).rs))):=by subst l;kernel_rfl
def Fw(s u M:Z):(s%M*(s%M)-u)%M=(s*s-u)%M:=by
 simp_all [BH,BI]
def QG(s u v M:Z):(s%M*u-v)%M=(s*u-v)%M:=by
 simp_all [BH,BI,BZ,CL]
def aba:dL EQ z7:=by
 intro ms p r h J L;unfold z7 at h;split at h
 .rename_i A i B j M k q n l m D t n' g m' C;cases h;obtain⟨z,I,v,G,P,O,N,F⟩:=J;refine⟨aK [kY,fF,fZ,eO,eC,e9,cC,r9,S5] aC,?_⟩;rw[<-aam A B M q l t g D C i j k n m n' m' _ rfl];generalize f:aQ A M q l D t g C=R;unfold aQ at f;have w:∀ {X Y X' Y':Z} {o:Bool} {a b:U},TR.pt X' Y' o=R->X=X'->Y=Y'->a<=200->b<=200->((X=R.X/\(a<=200\/X.natAbs<2^200))/\(Y=R.Y/\(b<=200\/Y.natAbs<2^200))/\o=R.o/\Q)/\((0:Z)=R.d/\(0<=200\/S 0<2^200))/\((0:Z)=bif R.ok then 0 else 6)/\Q:=by
   rintro X Y X' Y' o a b rfl z I v G
   exact⟨⟨⟨z,.inl v⟩,⟨I,.inl G⟩,rfl,⟨⟩⟩,⟨rfl,.inl (Z9 _)⟩,rfl,⟨⟩⟩
  have dv:∀ {d:Z} {a:U},TR.dv d=R->a<=200\/d.natAbs<2^200->(((0:Z)=R.X/\(0<=200\/S 0<2^200))/\((0:Z)=R.Y/\(0<=200\/S 0<2^200))/\FU=R.o/\Q)/\(d=R.d/\(a<=200\/d.natAbs<2^200))/\((6:Z)=bif R.ok then 0 else 6)/\Q:=by
   rintro d a rfl z
   exact⟨⟨⟨rfl,.inl (Z9 _)⟩,⟨rfl,.inl (Z9 _)⟩,rfl,⟨⟩⟩,⟨rfl,z⟩,rfl,⟨⟩⟩
  have K:M.natAbs<2^k:=L.1.2.2.1;have H:∀(d:Z) (a:U),a<=200\/(gcd d M:Z).natAbs<2^200:=λd a=>.inr (by
   have:=Mi (a:=d) F K;have:=AN (n:=2) (by omega) v;omega)
  cases D with
  |true=>rw[Z6]at f;exact w f rfl rfl O N
  |false =>
   rw[Z5]at f;rw[Z5];cases C with
   |true=>rw[Z6]at f;exact w f rfl rfl G P
   |false =>
    rw[Z5]at f;rw[Z5];refine⟨by omega,by omega,by omega,?_⟩;by_cases e:q=t
    .have u:qG q l t g=l+g:=by unfold qG;rw[Y0 e];rfl
     have x:ga A q l t g=3*(q*q)+A:=by unfold ga;rw[Y0 e];rfl
     have E:oF M q l t g=V ((l+g)%M=0):=by unfold oF;rw[Y0 e,AB]
     rw[E,u]at f;rw[Y0 e,Z6];refine⟨by omega,by omega,?_⟩;rw[Jg (c:=(l+g)%M=0) vQ];by_cases y:(l+g)%M=0
     .rw[Y0 y,Z6]at f;rw[Y0 y,Z6];exact w f rfl rfl (Z9 _) (Z9 _)
     .rw[Y1 y,Z5]at f;rw[Y1 y,Z5];refine⟨by omega,by omega,by omega,by omega,by omega,by omega,by omega,?_⟩;by_cases s:gcd (l+g) M=1
      .rw[Y0 s,Z6]at f;rw[Y0 (show(gcd (l+g) M:Z)=1 by omega),AO,Z5];refine⟨⟨by omega,by omega,F,s⟩,by omega,by omega,by omega,by omega,by omega,by omega,by omega,by omega,by omega,w f ?_ ?_ v v⟩
       .unfold nL fO;rw[u,x,Fw]
       .unfold vR nL fO;rw[u,x,Fw,QG]
      .rw[Y1 s,Z5]at f;rw[Y1 (show ¬(gcd (l+g) M:Z)=1 by omega),BK,Z6];exact dv f (H _ _)
    .have u:qG q l t g=t-q:=by unfold qG;rw[Y1 e];rfl
     have x:ga A q l t g=g-l:=by unfold ga;rw[Y1 e];rfl
     have E:oF M q l t g=FU:=by unfold oF;rw[Y1 e,AH]
     rw[E,u,Z5]at f;rw[Y1 e,Z5];refine⟨by omega,by omega,by omega,?_⟩;by_cases s:gcd (t-q) M=1
     .rw[Y0 s,Z6]at f;rw[Y0 (show(gcd (t-q) M:Z)=1 by omega),AO,Z5];refine⟨⟨by omega,by omega,F,s⟩,by omega,by omega,by omega,by omega,by omega,by omega,by omega,by omega,by omega,w f ?_ ?_ v v⟩
      .unfold nL fO;rw[u,x,Fw]
      .unfold vR nL fO;rw[u,x,Fw,QG]
     .rw[Y1 s,Z5]at f;rw[Y1 (show ¬(gcd (t-q) M:Z)=1 by omega),BK,Z6];exact dv f (H _ _)
 .simp at h
def OH:ah AA:=⟨144,z7,λargs w=>Tryz.call144 args w,aP bQ Tryz.func144 z7 aba⟩
def xR(z M a:Z)(b:N):Z:=cond (V (z<0)) (lh M a b) a
def am2(z A B M c b:Z)(a:N)(t i j k:U):MS :=
 ⟨64, [(3,.bp 0 0),(4,.bp 1 0),(5,.bp 2 0),(6,.bp 3 0)],
  [⟨FU,.one (fo A B M i j k)⟩,⟨FU,.one (.aa z.natAbs t)⟩,⟨FU,.one (qD c (xR z M b a) a 200 200)⟩,⟨FU,.one (.st [qD 0 0 FU 0 0,.aa 0 0,.int .i64 0])⟩],0⟩
def apL(z A B M c b:Z)(a:N)(t i j k:U)(q:iu):MS :=
 ⟨64, [(3,.bp 0 0),(4,.bp 1 0),(5,.bp 2 0),(6,.bp 3 0),(7,.bp 4 0),(8,.int .i64 ((q.1:Z)-1))],
  [⟨FU,.one (fo A B M i j k)⟩,⟨FU,.one (.aa z.natAbs t)⟩,⟨FU,.one (qD c (xR z M b a) a 200 200)⟩,⟨FU,.one (.st [qD 0 0 FU 0 0,.aa 0 0,.int .i64 0])⟩,
   ⟨FU,.one (.st [qD q.2.1 q.2.2.1 q.2.2.2 200 200,.aa 0 200,.int .i64 0])⟩],0⟩
def T0(z A B M b a:Z)(c:N)(t i j k:U):U->MS->G h!
 |6,_=>FR (.mk N (λu=>u=FW/\0<M) (λ_=>am2 z A B M b a c t i j k))
 |_,_=>Do
def OO(z A B M c b:Z)(a:N)(t i j k:U):U->MS->G bt
 |8,_=>FR (.inv iu (λq=>q.1<=bl z.natAbs/\cL A M (.pt c (xR z M b a) a) (z.natAbs/2^q.1)= .pt q.2.1 q.2.2.1 q.2.2.2) (apL z A B M c b a t i j k) (λq=>q.1))
 |_,_=>Do
def aaq(A B M z c q:Z)(b:N)(t i j k n m:U)(a:_)(C:a=(bH A B M z c q b))(g:_)(x:g=(xR z M q b))(l:_)(w:l=λ(al:iu)=>(AE (AE al)))(h:_)(v:h=(S z:Z))(s:_)(u:s=λ(al:iu)=>(AD (AE al)))(f:_)(E:f=λ(al:iu)=>(aQ A M (s al) (AD (l al)) (AE (l al)) (s al) (AD (l al)) (AE (l al))))(p:_)(D:p=λ(al:iu)=>(aQ A M (TR.X (f al)) (TR.Y (f al)) (TR.o (f al)) c g b))(r:_)(y:r=λ(al:iu)=>(bif TR.ok (f al)then (0:Z)else (6:Z))):((i<=200/\j<=200/\k<=200/\n<=200/\m<=200)/\bif !nR A B M c q b then (aD 0 (RS.X a) 0 200/\aD 0 (RS.Y a) 0 200/\FU=RS.o a/\Q)/\aD 0 (RS.d a) 0 200/\1=RS.e a/\Q else (bif V (dK z<0)then (i<=200/\j<=200/\k<=200/\n<=200/\m<=200/\0<M)/\t<=1000000/\∃ae,(ae=FW/\0<M)/\(0=0/\0=0/\0=0/\0=0/\Q)/\(aD A A i i/\aD B B j j/\aD M M k k/\Q)/\aD (-z) h t t/\(aD c c 200 200/\aD (lh M q b) g 200 200/\b=b/\Q)/\((aD 0 0 0 0/\aD 0 0 0 0/\FU=FU/\Q)/\aD 0 0 0 0/\(0:Z)=0/\Q)/\Q else ∃ae,(ae=FW/\0<M)/\(0=0/\0=0/\0=0/\0=0/\Q)/\(aD A A i i/\aD B B j j/\aD M M k k/\Q)/\aD z h t t/\(aD c c n 200/\aD q g m 200/\b=b/\Q)/\((aD 0 0 0 0/\aD 0 0 0 0/\FU=FU/\Q)/\aD 0 0 0 0/\(0:Z)=0/\Q)/\Q)/\∀(ae:N),ae=FW/\0<M->t<=1000000/\(∃al,(AD al<=bl (S z)/\cL A M (TR.pt c g b) (S z/2^AD al)=TR.pt (s al) (AD (l al)) (AE (l al)))/\(0=0/\0=0/\0=0/\0=0/\0=0/\O FV ((bl (S h):Z)-1)=(↑(AD al):Z)-1/\Q)/\(aD A A i i/\aD B B j j/\aD M M k k/\Q)/\aD h h t t/\(aD c c 200 200/\aD g g 200 200/\b=b/\Q)/\((aD 0 0 0 0/\aD 0 0 0 0/\FU=FU/\Q)/\aD 0 0 0 0/\(0:Z)=0/\Q)/\((aD 0 (s al) 0 200/\aD 0 (AD (l al)) 0 200/\FW=AE (l al)/\Q)/\aD 0 0 0 200/\(0:Z)=0/\Q)/\Q)/\∀(al:iu),AD al<=bl (S z)/\cL A M (TR.pt c g b) (S z/2^AD al)=TR.pt (s al) (AD (l al)) (AE (l al))->bif V ((↑(AD al):Z)-1≥0)then (i<=200/\j<=200/\k<=200/\200<=200/\200<=200/\200<=200/\200<=200/\0<M)/\bif (r al) ==0 then ((32:Z)=0->J)/\(0<=O FV (F5 ((↑(AD al):Z)-1) 32)/\O FV (F5 ((↑(AD al):Z)-1) 32)<(H (aA (S h)):Z))/\((32:Z)=0->J)/\0<=O F6 (T ((↑(AD al):Z)-1) 32)/\bif O FT (AI (R (AC FT) (fdiv (K (aA (S h)) (I (O FV (F5 ((↑(AD al):Z)-1) 32))) 0) ((2:Z)^min (I (O F6 (T ((↑(AD al):Z)-1) 32))) (AC FT))) &&&R (AC FT) 1):Z)==1 then (i<=200/\j<=200/\k<=200/\200<=200/\200<=200/\200<=200/\200<=200/\0<M)/\bif (bif TR.ok (p al)then (0:Z)else (6:Z)) != 0 then (aD (TR.X (p al)) (RS.X a) 200 200/\aD (TR.Y (p al)) (RS.Y a) 200 200/\TR.o (p al) =RS.o a/\Q)/\aD (TR.d (p al)) (RS.d a) 200 200/\(bif TR.ok (p al)then (0:Z)else (6:Z))=RS.e a/\Q else ∃cp,(AD cp<=bl (S z)/\cL A M (TR.pt c g b) (S z/2^AD cp)=TR.pt (AD (AE cp)) (AD (AE (AE cp))) (AE (AE (AE cp))))/\((0=0/\0=0/\0=0/\0=0/\0=0/\O FV ((↑(AD al):Z)-1-1)=(↑(AD cp):Z)-1/\Q)/\(aD A A i i/\aD B B j j/\aD M M k k/\Q)/\aD h h t t/\(aD c c 200 200/\aD g g 200 200/\b=b/\Q)/\((aD 0 0 0 0/\aD 0 0 0 0/\FU=FU/\Q)/\aD 0 0 0 0/\(0:Z)=0/\Q)/\((aD (TR.X (p al)) (AD (AE cp)) 200 200/\aD (TR.Y (p al)) (AD (AE (AE cp))) 200 200/\TR.o (p al) =AE (AE (AE cp))/\Q)/\aD (TR.d (p al)) 0 200 200/\(bif TR.ok (p al)then (0:Z)else (6:Z))=0/\Q)/\Q)/\AD cp<AD al else bif (r al) != 0 then (aD (TR.X (f al)) (RS.X a) 200 200/\aD (TR.Y (f al)) (RS.Y a) 200 200/\TR.o (f al) =RS.o a/\Q)/\aD (TR.d (f al)) (RS.d a) 200 200/\(r al) =RS.e a/\Q else ∃cp,(AD cp<=bl (S z)/\cL A M (TR.pt c g b) (S z/2^AD cp)=TR.pt (AD (AE cp)) (AD (AE (AE cp))) (AE (AE (AE cp))))/\((0=0/\0=0/\0=0/\0=0/\0=0/\O FV ((↑(AD al):Z)-1-1)=(↑(AD cp):Z)-1/\Q)/\(aD A A i i/\aD B B j j/\aD M M k k/\Q)/\aD h h t t/\(aD c c 200 200/\aD g g 200 200/\b=b/\Q)/\((aD 0 0 0 0/\aD 0 0 0 0/\FU=FU/\Q)/\aD 0 0 0 0/\(0:Z)=0/\Q)/\((aD (TR.X (f al)) (AD (AE cp)) 200 200/\aD (TR.Y (f al)) (AD (AE (AE cp))) 200 200/\TR.o (f al) =AE (AE (AE cp))/\Q)/\aD (TR.d (f al)) 0 200 200/\(r al) =0/\Q)/\Q)/\AD cp<AD al else bif (r al) != 0 then (aD (TR.X (f al)) (RS.X a) 200 200/\aD (TR.Y (f al)) (RS.Y a) 200 200/\TR.o (f al) =RS.o a/\Q)/\aD (TR.d (f al)) (RS.d a) 200 200/\(r al) =RS.e a/\Q else ∃cp,(AD cp<=bl (S z)/\cL A M (TR.pt c g b) (S z/2^AD cp)=TR.pt (AD (AE cp)) (AD (AE (AE cp))) (AE (AE (AE cp))))/\((0=0/\0=0/\0=0/\0=0/\0=0/\O FV ((↑(AD al):Z)-1-1)=(↑(AD cp):Z)-1/\Q)/\(aD A A i i/\aD B B j j/\aD M M k k/\Q)/\aD h h t t/\(aD c c 200 200/\aD g g 200 200/\b=b/\Q)/\((aD 0 0 0 0/\aD 0 0 0 0/\FU=FU/\Q)/\aD 0 0 0 0/\(0:Z)=0/\Q)/\((aD (TR.X (f al)) (AD (AE cp)) 200 200/\aD (TR.Y (f al)) (AD (AE (AE cp))) 200 200/\TR.o (f al) =AE (AE (AE cp))/\Q)/\aD (TR.d (f al)) 0 200 200/\(r al) =0/\Q)/\Q)/\AD cp<AD al else (aD (s al) (RS.X a) 200 200/\aD (AD (l al)) (RS.Y a) 200 200/\AE (l al) =RS.o a/\Q)/\aD 0 (RS.d a) 200 200/\0=RS.e a/\Q)=aI (ov [Gf,eO,OI,rX,pW,OH] (OO z A B M c q b t i j k) (T0 z A B M c q b t i j k)) EZ [fo A B M i j k,.aa z t,qD c q b n m] (AF (.ret (xg (bH A B M z c q b)))):=by subst C x w v u E D y;kernel_rfl
def afJ:((0:Z)==0)=FW:=rfl
def afL:((6:Z)==0)=FU:=rfl
def VR:((0:Z) != 0)=FU:=rfl
def VS:((6:Z) != 0)=FW:=rfl
def abf:dL EZ vM:=by
 intro ms p r h S T;unfold vM at h;split at h
 .rename_i A i B j M k z t f n v m a;cases h;obtain⟨h1,h2,h3,h4,h5,h6⟩:=S;refine⟨ov [Gf,eO,OI,rX,pW,OH] (OO z A B M f v a t i j k) (T0 z A B M f v a t i j k),?_⟩;rw[<-aaq A B M z f v a t i j k n m _ rfl _ rfl _ rfl _ rfl _ rfl _ rfl _ rfl _ rfl];have K:z.natAbs<2^t:=T.2.1;refine⟨by omega,?_⟩;generalize g:bH A B M z f v a=R;unfold bH at g;cases F:nR A B M f v a with
  |false =>
   rw[F,Z5]at g;subst g;exact⟨⟨⟨rfl,.inl (by omega)⟩,⟨rfl,.inl (by omega)⟩,rfl,⟨⟩⟩,⟨rfl,.inl (by omega)⟩,rfl,⟨⟩⟩
  |true =>
   rw[F,Z6]at g;have hM:=RR F;rw[AO,Z5];refine⟨?_,?_⟩
   .by_cases L:z<0
    .rw[Y0 (JM.2 L),Z6];refine⟨by omega,by omega,FW,⟨rfl,by omega⟩,?_⟩
     grind [lh,xR]
    .rw[Y1 (λh=>L (JM.1 h)),Z5];refine⟨FW,⟨rfl,by omega⟩,?_⟩
     grind [xR]
   .rintro u ⟨_,aqO⟩
    have I:bl z.natAbs<=t:=fQ K;have G:=oW z.natAbs;have H:=m4 z.natAbs;have g:(cL A M (.pt f (xR z M v a) a) z.natAbs).rs=R:=g;simp only[AL];generalize z.natAbs=N at K I G H g⊢;generalize xR z M v a=q at g⊢;refine⟨by omega,⟨(bl N,0,0,FW),?_⟩,?_⟩
    .grind [cL,bl,BB,rK,aV]
    .rintro⟨b,X,Y,o⟩ ⟨w,l⟩
     have w:b<=bl N:=w;have l:cL A M (.pt f q a) (N/2^b)= .pt X Y o:=l;dsimp only;rw[AR];split
     .rename_i U;obtain⟨c,rfl⟩:∃c,b=c+1:=⟨b-1,by omega⟩;have e1:((c+1:F2):F4)-1=(c:F2):=by omega
      have e2:F5 (c:F4) 32=((c/32:F2):F4):=rfl;have e3:tmod (c:F4) 32=((c%32:F2):F4):=rfl;have e4:FX FV ((c/32:F2):F4)=((c/32:F2):F4):=aV (by omega) (by omega);have Z:FX FV ((c:F2)-1:F4)=(c:F2)-1:=aV (by omega) (by omega);have V:FX F6 ((c%32:F2):F4)=((c%32:F2):F4):=by rw[oJ];omega
      have e6:(2:F2)^c<=N:=by
       have x:N≠0:=by intro e;subst e;rw[vX]at w;omega
       exact CH (AN (by omega) (by omega)) (zU x)
      have x:N/2^c≠0:=by
       simp_all
      have W:N/2^c/2=N/2^(c+1):=by rw[AQ,<-AY]
      have s:cL A M (.pt f q a) (N/2^c)=cond (FY (N/2^c%2=1)) (gC A M (aQ A M X Y o X Y o) (.pt f q a)) (aQ A M X Y o X Y o):=by
       rw[uZ x,W,l];rfl
      have Le:c/32<(aA N).length:=by
       rcases CG (c/32) (aA N).length with h|h
       .exact h
       .exfalso;have h8:4294967296^(aA N).length<=2^c:=by
         rw[jJ];exact AN (by omega) (by omega)
        omega
      have D:=tZ N c;simp only[e1,e2,e3,e4,Z,V,Z8,D];refine⟨by omega,?_⟩;cases P:aQ A M X Y o X Y o with
      |dv d =>
       simp only[TR.ok,TR.X,TR.Y,TR.o,TR.d,Z5,afL,VS,Z6];have y:cL A M (.pt f q a) N= .dv d:=uY c (by rw[s,P];cases FY (N/2^c%2=1)<;>rfl);rw[y]at g;subst g;exact⟨⟨⟨rfl,.inl (Z0 _)⟩,⟨rfl,.inl (Z0 _)⟩,rfl,⟨⟩⟩,⟨rfl,.inl (Z0 _)⟩,rfl,⟨⟩⟩
      |pt X2 Y2 E =>
       simp only[TR.ok,TR.X,TR.Y,TR.o,TR.d,Z6,afJ,VR,Z5];refine⟨by omega,by omega,by omega,by omega,?_⟩;rw[P]at s;cases O:FY (N/2^c%2=1)with
       |false =>
        rw[O,Z5]at s;rw[Z5];refine⟨(c,X2,Y2,E),⟨by dsimp only;omega,s⟩,?_,by dsimp only;omega⟩
        grind
       |true =>
        rw[O,Z6]at s;rw[Z6];refine⟨by omega,?_⟩;have s:cL A M (.pt f q a) (N/2^c)=aQ A M X2 Y2 E f q a:=s;cases C:aQ A M X2 Y2 E f q a with
        |dv d =>
         simp only[Z5,VS,Z6];have y:cL A M (.pt f q a) N= .dv d:=uY c (by rw[s,C]);rw[y]at g;subst g;exact⟨⟨⟨rfl,.inl (Z0 _)⟩,⟨rfl,.inl (Z0 _)⟩,rfl,⟨⟩⟩,⟨rfl,.inl (Z0 _)⟩,rfl,⟨⟩⟩
        |pt X3 Y3 Q =>
         simp only[Z6,VR,Z5];refine⟨(c,X3,Y3,Q),⟨by dsimp only;omega,s.trans C⟩,?_,by dsimp only;omega⟩
         grind
     .rename_i U;have J:b=0:=by omega
      subst J;have l:cL A M (.pt f q a) N= .pt X Y o:=by simpa using l
      rw[l]at g;subst g;exact⟨⟨⟨rfl,.inl (Z0 _)⟩,⟨rfl,.inl (Z0 _)⟩,rfl,⟨⟩⟩,⟨rfl,.inl (Z0 _)⟩,rfl,⟨⟩⟩
 .simp at h
def aa0:ah AA:=⟨109,vM,λargs w=>Tryz.call109 args w,aP bQ Tryz.func109 vM abf⟩
def bI(l:P Z):U->MV:=λi=>.int .i64 (l.getD i 0)
def VQ:MV->Z
 |.int _ z=>z
 |_=>0
def iT(n:U)(f:U->MV):P Z:=(CS n).map λi=>VQ (f i)
theorem hH(l:P Z):iT l.length (bI l)=l:=by
 refine CB (by simp[iT]) λi h1 a=>?_;simp[iT,bI,VQ,a]
def p6(z:Z):N:=decide (-9223372036854775808<=z)&&V (z<9223372036854775808)
def xO(z:Z):Z:=cond (p6 z) z 0
theorem uK{z:Z}:p6 z=FW↔ -9223372036854775808<=z/\z<9223372036854775808:=by
 grind [p6]
def uu{z v:Z}{b:N}(h: -9223372036854775808<=z/\z<9223372036854775808)(hv:v=z)(hb:b=FW):v=xO z/\b=p6 z:=by
 grind [uK,xO]
theorem sb{z:Z}(h:¬(-9223372036854775808<=z/\z<9223372036854775808)):0=xO z/\FU=p6 z:=by
 grind [p6,uK,xO]
theorem TS{x:Z}(h:9223372036854775808<=x)(k:x<18446744073709551616):O FV x=x-18446744073709551616:=by
 show(if (FW&&V (x%18446744073709551616≥9223372036854775808))=FW then x%18446744073709551616-18446744073709551616 else x%18446744073709551616)=_
 grind
def rz:aG
 |[.aa z _]=>FR (Do,.ret (.tup [.int .i64 (xO z),.bool (p6 z)]))
 |_=>Do
noncomputable def Kc:Code:=Ku (sk 3 (oe BV))
def VK(z:Z)(n:U):MS:=⟨38, [(1,.bp 0 0),(4,.bp 1 0)], [⟨FU,.one (.aa z n)⟩,⟨FU,.one (.int .u64 0)⟩],0⟩
def ac7(z:Z)(n:U)(v:Z)(b:N):(bif V ((H (aA (S z)):Z)>2)then 0=v/\FU=b/\Q else J)=aI (aK [] aC) BV [.aa z n] (AF (.ret (.tup [.int .i64 v,.bool b]))):=by kernel_rfl
def Fy:P Oper:=Ui (sk 3 (oe BV))
def ac8(z:Z)(n:U):(bif V ((↑(H (aA (S z))):Z)>2)then J else ((0:U)=0/\(0:U)=0/\Q)/\aD z z n n/\(0:Z)=0/\Q)=rB (aK [] aC) (λ_=>J) 3 (oe BV) ⟨38,dQ 0 [.aa z n], [],0⟩ (λs=>yO s (VK z n)):=by kernel_rfl
def acu(v x:Z):((0:Z)<=32/\Q/\aD 0 0 0 0/\O F6 (↑(AI (R (AC F6) (O F6 (v*2^min (I (32:Z)) (AC F6))) |||ofInt (AC F6) (O F6 x))):Z)=gk v x/\Q)=cV (aK [] aC) Fy (λ_=>J) Fy (je 38 v [(4,.bp 1 0),(6,.int .u32 x)]) (λs'=>yO s' (je 38 (gk v x) [])):=by kernel_rfl
def acv(z V:Z)(n:U)(v:Z)(b:N):(bif f (z<0)then bif O FV ((0:Z)-O FV V) != 0 then bif !decide (z<0)==f (O FV ((0:Z)-O FV V)<0)then (0:Z)=v/\FU=b else O FV ((0:Z)-O FV V)=v/\FW=b else O FV ((0:Z)-O FV V)=v/\FW=b else bif O FV V != 0 then bif !decide (z<0)==f (O FV V<0)then (0:Z)=v/\FU=b else O FV V=v/\FW=b else O FV V=v/\FW=b)=aZ (aK [] aC) (λ_=>J) Kc (kc 38 z V n) (qj λs=>lB 0 (bD 2 s.tm) (.int .i64 v)/\lB 0 (bD 3 s.tm) (.bool b)):=by kernel_rfl
def J7:aG
 |[.aa z _]=>FR (FR (18446744073709551616<=z.natAbs),.ret (.tup [.int .i64 0,.bool FU]))
 |_=>Do
def ajA:bC BV J7:=by
 intro ms p r h a;unfold J7 at h;split at h
 .rename_i z n;cases h;refine⟨aK [] aC,?_⟩;rw[<-ac7 z n];have h2:=uR z.natAbs;have a:18446744073709551616<=z.natAbs:=a
  grind
 .simp at h
def abD(v x:Z):cV (aK [] aC) Fy (λ_=>J) Fy (je 38 v [(4,.bp 1 0),(6,.int .u32 x)]) (λs'=>yO s' (je 38 (gk v x) [])):=by
 rw[<-acu v x];exact⟨by decide,⟨⟩,⟨rfl,.inl (Z0 _)⟩,rfl,⟨⟩⟩
set_option maxRecDepth 100000 in
set_option maxHeartbeats 2000000 in
def ahS(z:Z)(n:U)(v:Z)(b:N)(o:(aA z.natAbs).length<=2)(y:aZ (aK [] aC) (λ_=>J) Kc (kc 38 z (wv (aA z.natAbs)) n) (qj λs=>lB 0 (bD 2 s.tm) (.int .i64 v)/\lB 0 (bD 3 s.tm) (.bool b)))(S:U->Prop)(w:L)(args:F0 F)(u:∀b,S b->b<w.heap.size)(x:GW S w)(t:cr (B9 S) w [.aa z n] args.toList) :
  Calls AA 116 args w λe w'=>Ext w w'/\(cj.ret (.tup [.int .i64 v,.bool b])).holds (C2 S) w' e:=by
 have g:=St.start (n:=38) u x t (by simp);have i:rB (aK [] aC) (λ_=>J) 3 (oe BV) ⟨38,dQ 0 [.aa z n], [],0⟩ (λs=>yO s (VK z n)):=by
  rw[<-ac8 z n,Y1 (by omega),Z5]
  grind
 refine(callsIn_wide (n:=3)).1 ?_;refine callsIn_of_wp_marks DI rfl trivial ?_ rfl;refine wpIn_wide.2 ?_;refine pC bQ 3 _ _ _ _ _ w _ i g λs1 c1 a1 j q f=>?_;obtain⟨c2,d⟩:=f.le q;refine wp_seq (wp_seq (wp_region_list ?_));refine eG (E:=aK [] aC) (m:= .bp 0 1) (p:=none) rfl rfl trivial d rfl λa3 c=>?_;refine eG (E:=aK [] aC) (m:= .ws (aA z.natAbs)) (p:=none) rfl rfl trivial c rfl λC a=>?_;refine SC (n:=38) (z:=z) (m:=n) a rfl rfl rfl (by decide) o (aM _) abD y rfl rfl ?_ rfl rfl (λ_ _=>rfl) rfl rfl (λ_ _ h=>h) (λ_ _ h=>h) (λa' w' D B A l k r=>?_)
 .have:=Tryz.call111 #[C.tmps.getD 13 undef] j;simp[execOp,resolve,B5,CA,invoke]
 show LeavesInM _ _ _ _ a'.tmps _ a'.defers _ w';rw[B];refine⟨by simp,.inl ⟨D,_,rfl,run_takeDeferred A,.tuple #[.int .i64 v,.bool b],?_,r,_,rfl,_,_,rfl,rfl,_,_,rfl,rfl,rfl⟩⟩;rw[kG];simp[nc,l,k,Tryz.results116]
def afl(z:Z)(n:U)(apa:z.natAbs<18446744073709551616):aZ (aK [] aC) (λ_=>J) Kc (kc 38 z (z.natAbs:Z) n) (qj λs=>lB 0 (bD 2 s.tm) (.int .i64 (xO z))/\lB 0 (bD 3 s.tm) (.bool (p6 z))):=by
 rw[<-acv];by_cases c:z<0
 .rw[Y0 c,Z6];by_cases h:z.natAbs<9223372036854775808
  .have a:O FV (z.natAbs:Z)=z.natAbs:=aV (by omega) (by omega);have g:O FV (0-(z.natAbs:Z))=z:=by rw[aV (by omega) (by omega)];omega
   rw[a,g,Y0 c];obtain⟨e,d⟩:=uu (z:=z) (v:=z) (b:=true) (by omega) rfl rfl
   grind
  .have a:O FV (z.natAbs:Z)=(z.natAbs:Z)-18446744073709551616:=TS (by omega) (by omega);rw[a];by_cases h7:z.natAbs=9223372036854775808
   .have f:z= -9223372036854775808:=by omega
    subst f;obtain⟨e,d⟩:=uu (z:= -9223372036854775808) (v:= -9223372036854775808) (b:=true) (by omega) rfl rfl;exact⟨e,d⟩
   grind [aV,sb]
 .rw[Y1 c,Z5];by_cases h:z.natAbs<9223372036854775808
  .have a:O FV (z.natAbs:Z)=z:=by rw[aV (by omega) (by omega)];omega
   rw[a,Y1 c];obtain⟨e,d⟩:=uu (z:=z) (v:=z) (b:=true) (by omega) rfl rfl
   grind
  grind [TS,sb]
set_option maxRecDepth 100000 in
def Qh:ah AA:=⟨116,rz,λargs w=>Tryz.call116 args w,λS w ms args p r a hp c d b=>by
 unfold rz at a;split at a
 .rename_i z n;simp only[Z1,Z2]at a;obtain⟨rfl,rfl⟩:=a;have h:=uR z.natAbs;by_cases q:z.natAbs<18446744073709551616
  .have e:=afl z n q;rw[<-iE z.natAbs]at e;exact ahS z n (xO z) (p6 z) (h.2 q) e S w args c d b
  .obtain⟨g,f⟩:=sb (z:=z) (by omega);rw[<-g,<-f];exact aO bQ DI J7 ajA S w [.aa z n] args (FR (18446744073709551616<=z.natAbs)) _ rfl (show 18446744073709551616<=z.natAbs by omega) c d b
 .simp at a⟩
def adG(z:Z)(n:U)(v:Z)(b:N):((∀(x:Z),x∈aA (S z)->0<=x/\x<4294967296)/\(∀(x:Z),x∈aA (S z)->0<=x/\x<4294967296)/\(0:Z)<=32/\bif V ((H (aA (S z)):Z)>2)then 0=v/\FU=b/\Q else bif V (O F6 (AI (R (AC F6) (cM (aA (S z)) 0) |||ofInt (AC F6) (O F6 (cM (aA (S z)) 1*2^min (I 32) (AC F6)))):Z)>9223372036854775808)then 0=v/\FU=b/\Q else bif O F6 (AI (R (AC F6) (cM (aA (S z)) 0) |||ofInt (AC F6) (O F6 (cM (aA (S z)) 1*2^min (I 32) (AC F6)))):Z)==9223372036854775808 then bif !decide (z<0)then 0=v/\FU=b/\Q else bif V (z<0)then O FV (0-O FV (O F6 (AI (R (AC F6) (cM (aA (S z)) 0) |||ofInt (AC F6) (O F6 (cM (aA (S z)) 1*2^min (I 32) (AC F6)))):Z)))=v/\FW=b/\Q else O FV (O F6 (AI (R (AC F6) (cM (aA (S z)) 0) |||ofInt (AC F6) (O F6 (cM (aA (S z)) 1*2^min (I 32) (AC F6)))):Z))=v/\FW=b/\Q else bif V (z<0)then O FV (0-O FV (O F6 (AI (R (AC F6) (cM (aA (S z)) 0) |||ofInt (AC F6) (O F6 (cM (aA (S z)) 1*2^min (I 32) (AC F6)))):Z)))=v/\FW=b/\Q else O FV (O F6 (AI (R (AC F6) (cM (aA (S z)) 0) |||ofInt (AC F6) (O F6 (cM (aA (S z)) 1*2^min (I 32) (AC F6)))):Z))=v/\FW=b/\Q)=aI (aK [fG] aC) FH [.aa z n] (AF (.ret (.tup [.int .i64 v,.bool b]))):=by kernel_rfl
def agj:bC FH rz:=by
 intro ms p r h hp;unfold rz at h;split at h
 .rename_i z n;cases h;refine⟨aK [fG] aC,?_⟩;rw[<-adG z n,gj];have a:=aM z.natAbs;refine⟨a,a,by omega,?_⟩;have k:=uR z.natAbs;by_cases i:(aA z.natAbs).length<=2
  .have apa:=k.1 i;have e:=HR i;rw[zH]at e;have w0:=tI a 0;have c:=tI a 1;have o:u64.wrap (↑(R (AC F6) (cM (aA z.natAbs) 0) |||ofInt (AC F6) (u64.wrap (cM (aA z.natAbs) 1*4294967296))).toNat)=(z.natAbs:Z):=by
    rw[BitVec.or_comm,si c w0,e]
   rw[o,Y1 (show ¬(((aA z.natAbs).length:U):Z)>2 by omega),Z5];refine aJ Z4 (λq=>?_) (λq=>aJ beq_iff_eq (λj=>?_) (λj=>?_))
   .grind [sb]
   .by_cases hz:z<0
    .have d:z= -9223372036854775808:=by omega
     subst d;obtain⟨g,f⟩:=uu (z:= -9223372036854775808) (v:= -9223372036854775808) (b:=true) (by omega) rfl rfl;exact⟨g,f,⟨⟩⟩
    grind [sb]
   .have c:O FV (z.natAbs:Z)=z.natAbs:=aV (by omega) (by omega);rw[c];obtain⟨g,f⟩:=uu (z:=z) (v:=z) (b:=true) (by omega) rfl rfl
    grind [aV]
  grind [aA,sb]
 .simp at h
def aep:ah AA:=⟨53,rz,λargs w=>Tryz.call53 args w,aO bQ Tryz.func53 rz agj⟩
def cQ(p q n:Z)(m:U):Z×Z:=if m=0 then (1,0)else ((aN p q (m+1)-p*aN p q m)%n,aN p q m%n)
theorem af2(p q n:Z)(m:U):(cQ p q n m).2=qQ p q m n:=by
 rw[uv];unfold cQ;split
 .rename_i h;subst h;exact(DK n).symm
 .rfl
def af1(p q n:Z)(m:U):∃s t,(cQ p q n m).1=aN p q (m+1)-p*aN p q m+n*s/\(cQ p q n m).2=aN p q m+n*t:=by
 unfold cQ;split
 .rename_i h;subst h;exact⟨0,0,by show(1:Z)=1-p*0+n*0;grind,by show(0:Z)=0+n*0;omega⟩
 .refine⟨- ((aN p q (m+1)-p*aN p q m)/n),-(aN p q m/n),?_,?_⟩
  .have:=B8 (aN p q (m+1)-p*aN p q m) n
   grind
  grind [B8,aN,CC]
def Py{p q n:Z}{m:F2}:∃s t,((cQ p q n m).1*(cQ p q n m).1-q*((cQ p q n m).2*(cQ p q n m).2))%n=(aN p q (m+m+1)-p*aN p q (m+m))%n/\
  ((cQ p q n m).1*(cQ p q n m).2+(cQ p q n m).1*(cQ p q n m).2+p*((cQ p q n m).2*(cQ p q n m).2))%n=aN p q (m+m)%n/\
  ((cQ p q n m).1*(cQ p q n m).1-q*((cQ p q n m).2*(cQ p q n m).2))%n=aN p q (m+m+1)-p*aN p q (m+m)+n*s/\
  ((cQ p q n m).1*(cQ p q n m).2+(cQ p q n m).1*(cQ p q n m).2+p*((cQ p q n m).2*(cQ p q n m).2))%n=aN p q (m+m)+n*t:=by
 obtain⟨s,t,e,d⟩:=af1 p q n m;have a:∀z:Z,∃s,z%n=z+n*s:=λz=>⟨- (z/n),by rw[CC];exact B8 z n⟩;have c:((cQ p q n m).1*(cQ p q n m).1-q*((cQ p q n m).2*(cQ p q n m).2))%n=(aN p q (m+m+1)-p*aN p q (m+m))%n:=by
  rw[e,d,show m+m=2*m by omega,Ju,zj];generalize aN p q (m+1)=U;generalize aN p q m=V;have h:(U-p*V+n*s)*(U-p*V+n*s)-q*((V+n*t)*(V+n*t))=(U*U-q*(V*V)-p*(V*(2*U-p*V)))+n*(2*(U-p*V)*s+n*s*s-q*(2*V*t+n*t*t)):=by grind
  simp_all
 have b:((cQ p q n m).1*(cQ p q n m).2+(cQ p q n m).1*(cQ p q n m).2+p*((cQ p q n m).2*(cQ p q n m).2))%n=aN p q (m+m)%n:=by
  rw[e,d,show m+m=2*m by omega,zj];generalize aN p q (m+1)=U;generalize aN p q m=V;have h:(U-p*V+n*s)*(V+n*t)+(U-p*V+n*s)*(V+n*t)+p*((V+n*t)*(V+n*t))=V*(2*U-p*V)+n*(2*((U-p*V)*t+s*V+n*s*t)+p*(2*V*t+n*t*t)):=by grind
  simp_all
 obtain⟨s2,g⟩:=a (aN p q (m+m+1)-p*aN p q (m+m));obtain⟨i,f⟩:=a (aN p q (m+m));exact⟨s2,i,c,b,c.trans g,b.trans f⟩
theorem Zq{p q n:Z}{m:U}(h:0<m):cQ p q n (m+m)=(((cQ p q n m).1*(cQ p q n m).1-q*((cQ p q n m).2*(cQ p q n m).2))%n,((cQ p q n m).1*(cQ p q n m).2+(cQ p q n m).1*(cQ p q n m).2+p*((cQ p q n m).2*(cQ p q n m).2))%n):=by
 obtain⟨s,t,b,a,_⟩:=Py (p:=p) (q:=q) (n:=n) (m:=m);rw[b,a];exact X (by omega)
theorem abW{p q n:Z}{m:F2}:cQ p q n (m+m+1)=(-(q*(((cQ p q n m).1*(cQ p q n m).2+(cQ p q n m).1*(cQ p q n m).2+p*((cQ p q n m).2*(cQ p q n m).2))%n))%n,
  (((cQ p q n m).1*(cQ p q n m).1-q*((cQ p q n m).2*(cQ p q n m).2))%n+p*(((cQ p q n m).1*(cQ p q n m).2+(cQ p q n m).1*(cQ p q n m).2+p*((cQ p q n m).2*(cQ p q n m).2))%n))%n):=by
 obtain⟨s,t,_,_,d,c⟩:=Py (p:=p) (q:=q) (n:=n) (m:=m);rw[d,c];have e:cQ p q n (m+m+1)=((aN p q (m+m+1+1)-p*aN p q (m+m+1))%n,aN p q (m+m+1)%n):=if_neg (by omega);have f:aN p q (m+m+1+1)=p*aN p q (m+m+1)-q*aN p q (m+m):=rfl;rw[e,f];generalize aN p q (m+m+1)=U;generalize aN p q (m+m)=V;have b: -(q*(V+n*t))=p*U-q*V-p*U+n*(- (q*t)):=by grind
 have a:U-p*V+n*s+p*(V+n*t)=U+n*(s+p*t):=by grind
 rw[b,a,A2,A2]
def Qs(W L:U)(F:U->Z×Z):U->MS->G bt
 |4,e=>FR (.inv cl (λi=>i.i<=L) (λi=>⟨75, [(4,.bp 0 0),(5,.bp 1 0),(6,.bp 2 0),(7,.bp 3 0),(8,.bp 4 0),(9,.bp 5 0),(10,.bp 6 0),(11,.int .i64 ((i.i:Z)-1))],
   aW (aW e.bx 5 ⟨FU,.one (.aa (F i.i).1 W)⟩) 6 ⟨FU,.one (.aa (F i.i).2 W)⟩,0⟩) (λi=>i.i))
 |_,_=>Do
def aco(p q k n:Z)(a b c d:U)(r:Z)(w:U)(F:U->Z×Z)(W L:U)(e:_)(h:e=λ(i:cl)=>((F (i.1)).1*(F (i.1)).2+(F (i.1)).1*(F (i.1)).2+p*((F (i.1)).2*(F (i.1)).2)))(f:_)(g:f=λ(i:cl)=>((F (i.1)).1*(F (i.1)).1-q*((F (i.1)).2*(F (i.1)).2))):(fX 1/\c<=1000000/\(∃i:cl,i.1<=L/\(0=0/\0=0/\0=0/\0=0/\0=0/\0=0/\0=0/\O FV ((bl (S k):Z)-1)=(i.1:Z)-1/\Q)/\aD p p a a/\aD q q b b/\aD k k c c/\aD n n d d/\aD 0 0 0 0/\aD 1 ((F (i.1)).1) 64 W/\aD 0 ((F (i.1)).2) 0 W/\Q)/\∀(i:cl),i.1<=L->bif V ((i.1:Z)-1≥0)then (W<=1000000/\W<=1000000)/\(W<=1000000/\W<=1000000)/\(W<=1000000/\W<=1000000)/\(b<=1000000/\W+W<=1000000)/\(W+W<=1000000/\b+(W+W)<=1000000)/\(max (W+W) (b+(W+W))+1<=900000/\d<=900000/\(n=0->J))/\(W+W<=1000000/\W+W<=1000000)/\(a<=1000000/\W+W<=1000000)/\(max (W+W) (W+W)+1<=1000000/\a+(W+W)<=1000000)/\(max (max (W+W) (W+W)+1) (a+(W+W))+1<=900000/\d<=900000/\(n=0->J))/\((32:Z)=0->J)/\(0<=O FV (D ((i.1:Z)-1) 32)/\O FV (D ((i.1:Z)-1) 32)<(H (aA (S k)):Z))/\((32:Z)=0->J)/\0<=O F6 (T ((i.1:Z)-1) 32)/\bif O FT (AI (R (AC FT) (fdiv (K (aA (S k)) (I (O FV (D ((i.1:Z)-1) 32))) 0) ((2:Z)^min (I (O F6 (T ((i.1:Z)-1) 32))) (AC FT))) &&&R (AC FT) 1):Z)==1 then (a<=1000000/\d<=1000000)/\(d<=1000000/\a+d<=1000000)/\(max d (a+d)+1<=900000/\d<=900000/\(n=0->J))/\(b<=1000000/\d<=1000000)/\b+d<=1000000/\(b+d<=900000/\d<=900000/\(n=0->J))/\∃j:cl,j.1<=L/\((0=0/\0=0/\0=0/\0=0/\0=0/\0=0/\0=0/\O FV ((i.1:Z)-1-1)=(j.1:Z)-1/\Q)/\aD p p a a/\aD q q b b/\aD k k c c/\aD n n d d/\aD 0 0 0 0/\aD (-(q*((e i) %n))%n) ((F (j.1)).1) d W/\aD (((f i) %n+p*((e i) %n))%n) ((F (j.1)).2) d W/\Q)/\j.1<i.1 else ∃j:cl,j.1<=L/\((0=0/\0=0/\0=0/\0=0/\0=0/\0=0/\0=0/\O FV ((i.1:Z)-1-1)=(j.1:Z)-1/\Q)/\aD p p a a/\aD q q b b/\aD k k c c/\aD n n d d/\aD 0 0 0 0/\aD ((f i) %n) ((F (j.1)).1) d W/\aD ((e i) %n) ((F (j.1)).2) d W/\Q)/\j.1<i.1 else (F (i.1)).2=r/\(W<=w\/S ((F (i.1)).2)<2^w))=aI (aK [cC,fZ,kY,e9,pW,rX,eC] (Qs W L F)) E2 [.aa p a,.aa q b,.aa k c,.aa n d] (AF (.ret (.aa r w))):=by subst h g;kernel_rfl
def afj:dL E2 qF:=by
 intro ms pr r h o s;unfold qF at h;split at h
 .rename_i p a q b k c n d;cases h;obtain⟨h1,h2,h3,h4,h5⟩:=o;have g:k.natAbs<2^c:=s.2.2.1;have pc:bl k.natAbs<=c:=fQ g;refine⟨aK [cC,fZ,kY,e9,pW,rX,eC] (Qs (d+64) (bl k.natAbs) λi=>cQ p q n (k.natAbs/2^i)),?_⟩;rw[<-aco p q k n a b c d (qQ p q k.natAbs n) (d+64) (λi=>cQ p q n (k.natAbs/2^i)) (d+64) (bl k.natAbs) _ rfl _ rfl];generalize hK:k.natAbs=K at *;have e0:K/2^bl K=0:=BB (oW K);have t:O FV ((bl K:Z)-1)=(bl K:Z)-1:=aV (by omega) (by omega);rw[t];refine⟨by omega,by omega,⟨⟨bl K⟩,Z0 _,⟨rfl,rfl,rfl,rfl,rfl,rfl,rfl,rfl,⟨⟩⟩,cB,cB,cB,cB,cB,⟨?_,.inl (by omega)⟩,⟨?_,.inl (by omega)⟩,⟨⟩⟩,λi j=>?_⟩
  .grind [cQ,bl]
  .grind [cQ,bl]
  obtain⟨i⟩:=i;have j:i<=bl K:=j;dsimp only;refine aJ Z4 (λq1=>?_) (λq1=>?_)
  .have v:(i:Z)-1=((i-1:U):Z):=by omega
   have aon:=wR (N:=K) (c:=i-1);have u:O F6 (((i-1)%32:U):Z)=(((i-1)%32:U):Z):=gI (by omega);rw[v,VG,VD,u,Z8,Z8,Qc];have l:O FV (((i-1:U):Z)-1)=((i-1:U):Z)-1:=aV (by omega) (by omega);have e:=TB (M:=K) (k:=i);refine⟨by omega,by omega,by omega,by omega,by omega,by omega,by omega,by omega,by omega,by omega,by omega,by omega,by omega,by omega,aJ beq_iff_eq (λm=>?_) (λm=>?_)⟩
   .have f:K/2^(i-1)%2=1:=by omega
    rw[f]at e;refine⟨by omega,by omega,by omega,by omega,by omega,by omega,⟨i-1⟩,by show i-1<=bl K;omega,⟨⟨rfl,rfl,rfl,rfl,rfl,rfl,rfl,l,⟨⟩⟩,cB,cB,cB,cB,cB,⟨?_,.inl (by omega)⟩,⟨?_,.inl (by omega)⟩,⟨⟩⟩,by show i-1<i;omega⟩
    all_goals grind [cQ,abW]
   .have f:K/2^(i-1)%2=0:=by omega
    rw[f,CI]at e;have hm:0<K/2^i:=by
     rcases CT (K/2^i)with z|z
     .exfalso;rw[z]at e;have:K<2^(i-1):=by
       simp_all
      have:=fQ this;omega
     .exact z
    refine⟨⟨i-1⟩,by show i-1<=bl K;omega,⟨⟨rfl,rfl,rfl,rfl,rfl,rfl,rfl,l,⟨⟩⟩,cB,cB,cB,cB,cB,⟨?_,.inl (by omega)⟩,⟨?_,.inl (by omega)⟩,⟨⟩⟩,by show i-1<i;omega⟩
    all_goals grind [cQ,Zq]
  grind [af2]
 .simp at h
def Ri:ah AA:=⟨106,qF,λargs w=>Tryz.call106 args w,aP bQ Tryz.func106 qF afj⟩
def gR{P:Program}(d:P.follows .mixedOrders=FW){f:FuncId}{g:Func}(n:P.funcs[f]? =FR g)(spec:aG)(c:∀a p r,spec a=FR (p,r)->p.holds->fR a->∃bf,lB.di 0 a bf/\∃E:Env P,aI E g bf r.sat)(S:U->Prop)(w:L)(a:F1 MV)(args:F0 F)(p:bq)(r:cj)(k:spec a=FR (p,r))(l:p.holds)(o:∀b,S b->b<w.heap.size)(q:GW S w)(i:cr (B9 S) w a args.toList):Calls P f args w λe w'=>Ext w w'/\r.holds (C2 S) w' e :=
 uL d n (λm=>FR (FR (∃bf,lB.di 0 m bf/\∃E:Env P,aI E g bf r.sat),r)) (λm p2 r2 j h=>by
  simp only[Z1,Z2]at j;obtain⟨rfl,rfl⟩:=j;exact h) S w a args _ r rfl (c a p r k l (cr.facts a _ i)) o q i
def xT:MV->Z
 |.aa z _=>z
 |_=>0
structure dq (W:Nat) (m:MV):Prop where
 h:∃z n,m= .aa z n/\n<=W
def iL(l:P Z)(W:U):U->MV:=λi=>.aa (l.getD i 0) W
def aH(n:U)(f:U->MV):P Z:=(CS n).map λi=>xT (f i)
theorem bB(n:U)(f:U->MV):(aH n f).length=n:=by simp[aH]
def eJ(l:P Z)(W:U):aH l.length (iL l W)=l:=by
 refine CB (by simp[aH]) λi h1 a=>?_;simp[aH,iL,xT,a]
def XJ{n i:U}{f:U->MV}(h:i<n):(aH n f).getD i 0=xT (f i):=by simp[aH,h]
def k9(l:P Z){V W:U}(h:V<=W)(i:U):dq W (iL l V i):=⟨_,V,rfl,h⟩
def zz{z:Z}{n W:U}(h:n<=W):dq W (.aa z n):=⟨z,n,rfl,h⟩
def t7{n:U}{f:U->MV}{W:U}(h:∀i,i<n->dq W (f i)):ak n f (iL (aH n f) W):=CJ λi b=>by
 obtain⟨z,a,e,c⟩:=(h i b).h;show eI 0 (f i) (.aa ((aH n f).getD i 0) W);rw[XJ b,e];exact⟨rfl,.inl c⟩
structure ab where
 kind:Int
 neg:Bool
 ai:List Int
 parts:List Int
 base:List Int
 ca:Int
 cb:Int
 cm:Int
 x:Int
 y:Int
 inf:Bool
 ord:Int
def ab.n(s:ab):Z:=if s.neg then-(wv s.ai)else wv s.ai
def nD(neg:N)(l:P Z):N:=cond ((l.length:Z)==0) (!neg) (l.getD (l.length-1) 0 != 0)
def ab.can(s:ab):N:=nD s.neg s.ai
def aB:ab:=⟨0,FU, [], [], [],0,0,0,0,0,FU,0⟩
def dT(a b m x y o:Z)(i:N):N:=decide (a=0)&&(V (b=0)&&(V (m=0)&&(V (x=0)&&(V (y=0)&&(V (o=0)&&!i)))))
def kx(s:ab):N:=dT s.ca s.cb s.cm s.x s.y s.ord s.inf
def cD(a:P Z):P Z->P Z->G (P Z)
 |[],q=>FR q
 |i::r,q=>g (V (0<=i)&&(V (i<a.length)&&!(q.elem (a.getD i.toNat 0)))) (cD a r (q++[a.getD i.toNat 0])) Do
def lj:U->Z->Z->Z
 |0,_,_=>1
 |f+1,x,q=>if x%q=0 then q*lj f (x/q) q else 1
def kR(x q:Z):Z:=lj x.toNat x q
def m7(n:Z):P Z->Z->G Z
 |[],o=>FR o
 |q::r,o=>if n%q=0 then m7 n r (o*kR n q)else Do
def cA(n:Z)(l:P Z):G Z:=m7 n l 1
def tS(n:Z)(bl a:U)(b:N):N:=decide (n<65536)&&(V (a=0)&&(V (bl=0)&&(b&&ep n)))
def yU(n:Z):P Z->P Z->N
 |b::c,q::a=>(V (1<b)&&V (b<=n-1))&&((V (gcd (fY b ((n-1)/q).natAbs n-1) n=1)&&V (fY (fY b ((n-1)/q).natAbs n) q.natAbs n=1))&&yU n c a)
 |_,_=>FW
def uW(n:Z)(base:P Z)(a:N)(q:P Z):N:=jS n 2&&(a&&(match cA (n-1) q with
 |none=>FU
 |some f=>decide (n<f*f)&&(V (base.length=q.length)&&yU n base q)))
def xP(n a b:Z):P Z->N
 |[]=>FW
 |q::c=>decide (gcd (qQ a b ((n+1)/q).natAbs n) n=1)&&xP n a b c
def s?(n:Z)(q:P Z):P Z->N
 |[a,b]=>(V (0<=a)&&V (a<n))&&((V (0<=b)&&V (b<n))&&(V (gM (a*a-4*b) n= -1)&&(V (qQ a b (n+1).natAbs n=0)&&xP n a b q)))
 |_=>FU
def vA(n:Z)(base:P Z)(a:N)(q:P Z):N:=jS n 2&&(a&&(match cA (n+1) q with
 |none=>FU
 |some f=>decide (n<(f-1)*(f-1))&&s? n q base))
def yF(n:Z)(bl:U)(a b m x y o:Z)(i:N)(q:P Z):N:=match q with
 |[p]=>decide (bl=0)&&(V (3<n)&&(V (gcd n 6=1)&&(gh p n&&(V (m=n)&&(V (gcd (4*(a*(a*a))+27*(b*b)) n=1) &&
   (nR a b m x y i&&(!i&&(V (0<o)&&(V (o%p=0) &&
    ((V ((bH a b m (o/p) x y i).e=0)&&!(bH a b m (o/p) x y i).o) &&
    (V ((bH a b m p (bH a b m (o/p) x y i).X (bH a b m (o/p) x y i).Y (bH a b m (o/p) x y i).o).e=0) &&
     (bH a b m p (bH a b m (o/p) x y i).X (bH a b m (o/p) x y i).Y (bH a b m (o/p) x y i).o).o)))))))))))
 |_=>FU
def Hf(s:ab)(q:P Z):N:=tS s.n s.base.length q.length (kx s)
def xc(s:ab)(q:P Z):N:=uW s.n s.base (kx s) q
def xe(s:ab)(q:P Z):N:=vA s.n s.base (kx s) q
def wy(s:ab)(q:P Z):N:=yF s.n s.base.length s.ca s.cb s.cm s.x s.y s.ord s.inf q
def vz(s:ab)(q:P Z):N :=
 g (s.kind==1) (Hf s q) (g (s.kind==2) (xc s q) (g (s.kind==3) (xe s q) (g (s.kind==4) (wy s q) FU)))
def cE(a:P Z)(s:ab):N:=s.can&&(V (1<s.n)&&(match cD a s.parts []with
 |none=>FU
 |some q=>vz s q))
def tR(a:P Z):P ab->U->G U
 |[],_=>Do
 |s::r,i=>g (cE a s) (tR (a++[s.n]) r (i+1)) (FR i)
def my(l:P ab):Z:=match tR [] l 0 with
 |some i=>i
 |none=>0
def fw(l:P ab):Z:=match tR [] l 0 with
 |some _=>70
 |none=>g (l.length.beq 0) 70 0
def jV(s:ab)(W:U):MV:= .st [.int .i64 s.kind,.st [.bool s.neg,.ws s.ai],.sl 1 s.parts.length (bI s.parts),.sl 2 s.base.length (iL s.base W),.st [.aa s.ca W,.aa s.cb W,.aa s.cm W],.st [.aa s.x W,.aa s.y W,.bool s.inf],.aa s.ord W]
def He(s:ab)(W:U):MV:= .st [.int .i64 s.kind,.aa s.n W,.sl 1 s.parts.length (bI s.parts),.sl 2 s.base.length (iL s.base W),.st [.aa s.ca W,.aa s.cb W,.aa s.cm W],.st [.aa s.x W,.aa s.y W,.bool s.inf],.aa s.ord W]
def aF(l:P ab)(W:U):U->MV:=λi=>jV (l.getD i aB) W
def alS:MV->N
 |.aa z _=>decide (z<0)
 |.st l=>(match l with
  |[x,_]=>(match x with
   |.bool b=>b
   |_=>FU)
  |_=>FU)
 |_=>FU
def alP:MV->P Z
 |.aa z _=>aA z.natAbs
 |.st l=>(match l with
  |[_,y]=>(match y with
   |.ws w=>w
   |_=> [])
  |_=> [])
 |_=> []
def qk:MV->P Z
 |.sl _ n f=>iT n f
 |_=> []
def qm:MV->P Z
 |.sl _ n f=>aH n f
 |_=> []
def KK:MV->Z×Z×N
 |.st l=>(match l with
  |[x,y,o]=>(xT x,xT y,(match o with
   |.bool b=>b
   |_=>FU))
  |_=>(0,0,FU))
 |_=>(0,0,FU)
def KD:MV->Z×Z×Z
 |.st l=>(match l with
  |[x,y,z]=>(xT x,xT y,xT z)
  |_=>(0,0,0))
 |_=>(0,0,0)
def alr:MV->Z
 |.int _ z=>z
 |_=>0
def qI:MV->ab
 |.st l=>(match l with
  |[k,n,p,b,c,a,o]=>⟨alr k,alS n,alP n,qk p,qm b,(KD c).1,(KD c).2.1,(KD c).2.2,(KK a).1,(KK a).2.1,(KK a).2.2,xT o⟩
  |_=>aB)
 |_=>aB
structure kv (W:Nat) (m:MV):Prop where
 h:∀(c:Ctx) (w:World) (cs:List Value),aj c w m cs->aj c w (jV (qI m) W) cs
def aE(n:U)(f:U->MV):P ab:=(CS n).map λi=>qI (f i)
def dD(n:U)(f:U->MV):(aE n f).length=n:=by simp[aE]
def Yf{n i:U}{f:U->MV}(h:i<n):(aE n f).getD i aB=qI (f i):=by simp[aE,h]
theorem Dd(s:ab)(W:U):qI (jV s W)=s:=by
 show(⟨s.kind,s.neg,s.ai,iT s.parts.length (bI s.parts),aH s.base.length (iL s.base W),s.ca,s.cb,s.cm,s.x,s.y,s.inf,s.ord⟩:ab)=s;rw[hH,eJ]
def j8(l:P ab)(W:U):aE l.length (aF l W)=l:=by
 refine CB (by simp[aE]) λi h1 a=>?_;simp[aE,aF,a,Dd]
def vb(s:ab)(W:U):kv W (jV s W):=⟨λc w cs h=>by rw[Dd];exact h⟩
def jW{n:U}{f:U->MV}{W:U}(h:∀i,i<n->kv W (f i)):ak n f (aF (aE n f) W):=⟨λi a c w b r=>by
 show aj c w (jV ((aE n f).getD i aB) W) b;rw[Yf a];exact(h i a).h c w b r⟩
structure ff (s:ab):Prop where
 wd:Wd s.ai
 len:s.ai.length<=6
 parts:s.parts.length<=90
 base:s.base.length<=1000
def Yt{s:ab}(j:Wd s.ai)(d:s.can=FW):s.neg=V (s.n<0)/\s.ai=aA s.n.natAbs:=by
 unfold ab.can nD at d;have m:=bA j;cases f:s.ai with
 |nil =>
  rw[f]at d;have l:s.neg=FU:=by
   cases h:s.neg with
   |false=>rfl
   |true=>rw[h]at d;exact W d (by decide)
  have e:s.n=0:=by unfold ab.n;rw[l,f];rfl
  rw[l,e];exact⟨rfl,bN.symm⟩
 |cons a r =>
  have g:((s.ai.length:Z)==0)=FU:=by rw[f];simp;omega
  rw[g,Z5]at d;have i:s.ai≠ []:=by rw[f];simp
  have c:s.ai.getD (s.ai.length-1) 0≠0:=by simpa using d
  have b:aA (wv s.ai).toNat=s.ai:=zi j λh e=>c (by
   have g:s.ai.length-1<s.ai.length:=by have:=BE.2 h;omega
   rw[List.getLast_eq_getElem]at e;rw[BJ,CF g,A6];exact e)
  have ku:0<wv s.ai:=by
   rcases Int.lt_or_eq_of_le m with q|q
   .exact q
   .rw[<-q]at b;rw[show(0:Z).toNat=0 from rfl,bN]at b;exact W b.symm i
  rw[<-f];cases k:s.neg with
  |true =>
   have e:s.n= -(wv s.ai):=by unfold ab.n;rw[k];rfl
   rw[e,DE];refine⟨(Y0 (by omega)).symm,?_⟩;rw[show(wv s.ai).natAbs=(wv s.ai).toNat by omega];exact b.symm
  |false =>
   have e:s.n=wv s.ai:=by unfold ab.n;rw[k];rfl
   rw[e];refine⟨(Y1 (by omega)).symm,?_⟩;rw[show(wv s.ai).natAbs=(wv s.ai).toNat by omega];exact b.symm
def Cc{x q:Z}(hx:1<=x)(a:2<=q)(h:x%q=0):1<=x/q/\x/q<x/\q*(x/q)=x:=by
 have e:q*(x/q)=x:=by have:=A9 x q;omega
 have b:0<x/q:=by
  rcases Int.lt_or_le 0 (x/q)with z|z
  .exact z
  .have:=Z7 z (show 0<=q by omega);omega
 refine⟨b,?_,e⟩;have:=Int.mul_le_mul_of_nonneg_right a (show 0<=x/q by omega);rw[e]at this;omega
theorem P9:∀(f g:U) (x q:Z),1<=x->2<=q->x<=f->x<=g->lj f x q=lj g x q
 |0,_,x,_,a,_,hf,_=>by omega
 |_,0,x,_,a,_,_,hg=>by omega
 |f+1,g+1,x,q,a,b,hf,hg=>by
  unfold lj;split
  .rename_i h;obtain⟨c,h2,_⟩:=Cc a b h;rw[P9 f g (x/q) q c b (by omega) (by omega)]
  .rfl
def zl{x q:Z}(a:1<=x)(b:2<=q)(h:x%q=0):kR x q=q*kR (x/q) q:=by
 obtain⟨h1,h2,_⟩:=Cc a b h;unfold kR;obtain⟨k,hk⟩:∃k,x.toNat=k+1:=⟨x.toNat-1,by omega⟩
 grind [lj,P9]
theorem Jl{x q:Z}(h:x%q≠0):kR x q=1:=by
 unfold kR;cases x.toNat with
 |zero=>rfl
 |succ k=>show(if x%q=0 then q*lj k (x/q) q else 1)=1;rw[X h]
def RV:∀(f:U) (x q:Z),1<=x->2<=q->1<=lj f x q/\lj f x q<=x
 |0,x,_,c,_=>⟨BP 1,c⟩
 |f+1,x,q,c,d=>by
  unfold lj;split
  .rename_i h;obtain⟨j,h2,i⟩:=Cc c d h;obtain⟨g,e⟩:=RV f (x/q) q j d;have a:=Z7 e (show 0<=q by omega);have b:=Z7 g (show 0<=q by omega);rw[i]at a;omega
  omega
def RX{x q:Z}(a:1<=x)(b:2<=q):1<=kR x q/\kR x q<=x:=RV _ x q a b
def YX{o v n:Z}{k a A:U}(g:1<=o)(b:o<=2^(A*k))(c:1<=v)(h2:v<=n)(h3:n<2^a)(d:a<=A):1<=o*v/\o*v<=2^(A*(k+1)):=by
 have e:(2:Z)^(A*(k+1))=2^(A*k)*2^A:=by rw[<-D0];rfl
 have f:v<=2^A:=by
  have:(2:Z)^a<=2^A:=by
   have:=AN (show 0<2 by omega) d
   exact_mod_cast this
  omega
 rw[e];refine⟨?_,BY b f (by omega) (DT (by omega) b)⟩;have:=BY g c (by omega) (show 0<=o by omega);omega
def Nk{o:Z}{k A V:U}(h0:1<=o)(h1:o<=2^(A*k))(a:A*k<V):o.natAbs<2^V:=by
 have b:o.natAbs<=2^(A*k):=by
  grind
 exact BL b (Nat.pow_lt_pow_right (by omega) a)
def RK{n:Z}{a:U}(h0:0<=n)(h:n.natAbs<2^a):n<2^a:=by
 grind
structure cy where
 i:Nat
 o:Int
structure nU (A:Nat) (n:Int) (l:List Int) (R:Option Int) (s:cy):Prop where
 hi:s.i<=l.length
 hr:m7 n (l.drop s.i) s.o=R
 o0:1<=s.o
 o1:s.o<=2^(A*s.i)
structure d? where
 x:Int
 o:Int
structure k! (n q p:Int) (s:d?):Prop where
 hx:1<=s.x
 ho:1<=s.o
 he:s.o*kR s.x q=p*kR n q
def OK(A:U)(n:Z)(l:P Z)(a W V:U)(R:G Z):U->MS->G bt
 |3,_=>FR (.inv cy (nU A n l R) (λs=>⟨39, [(2,.bp 0 0),(4,.bp 1 0),(5,.bp 2 0),(11,.sl 2 l.length (iL l W)),(12,.int .i64 l.length),(13,.int .i64 s.i)], [⟨FU,.one (.aa n a)⟩,⟨FU,.one (.aa 0 0)⟩,⟨FU,.one (.aa s.o V)⟩],0⟩) (λs=>l.length-s.i))
 |7,e=>(match e.bx with
  |_::_::⟨_,.one (.aa o _)⟩::⟨_,.one (.aa q _)⟩::_=>FR (.inv d? (k! n q o) (λs=>⟨39, [(2,.bp 0 0),(4,.bp 1 0),(5,.bp 2 0),(7,.bp 3 0),(8,.bp 4 0),(9,.bp 5 0),(11,bD 11 e.tm),(12,bD 12 e.tm),(13,bD 13 e.tm)],
    [⟨FU,.one (.aa n a)⟩,⟨FU,.one (.aa 0 0)⟩,⟨FU,.one (.aa s.o V)⟩,⟨FU,.one (.aa q W)⟩,⟨FU,.one (.aa (s.x/q) a)⟩,⟨FU,.one (.aa (s.x%q) W)⟩],0⟩) (λs=>s.x.toNat))
  |_=>Do)
 |_,_=>Do
def Y8(A:U)(n:Z)(l:P Z)(a W V:U)(R:G Z)(b:_)(e:b=λ(i:cy)=>(I (cy.i i:Z)))(c:_)(d:c=(H l:Z)):((∃i,nU A n l R i/\(0=0/\0=0/\0=0/\(2=2/\H l=H l/\ak (H l) (iL l W) (iL l W))/\c = c/\0=(cy.i i:Z)/\Q)/\aD n n a a/\aD 0 0 0 0/\aD 1 (cy.o i) 64 V/\Q)/\∀(i:cy),nU A n l R i->bif f ((cy.i i:Z)< c)then (0<=(cy.i i:Z)/\(cy.i i:Z)< c)/\(a<=900000/\W<=900000/\(K l (b i) 0=0->J))/\bif f (n%K l (b i) 0=0)then (∃ae,k! n (K l (b i) 0) (cy.o i) ae/\(0=0/\0=0/\0=0/\0=0/\0=0/\0=0/\(2=2/\H l=H l/\ak (H l) (iL l W) (iL l W))/\c = c/\(cy.i i:Z)=(cy.i i:Z)/\Q)/\aD n n a a/\aD 0 0 0 0/\aD (cy.o i) (d?.o ae) V V/\aD (K l (b i) 0) (K l (b i) 0) W W/\aD (n/K l (b i) 0) (d?.x ae/K l (b i) 0) a a/\aD (n%K l (b i) 0) (d?.x ae%K l (b i) 0) W W/\Q)/\∀(ae:d?),k! n (K l (b i) 0) (cy.o i) ae->bif f (d?.x ae%K l (b i) 0=0)then (V<=1000000/\W<=1000000)/\(a<=900000/\W<=900000/\(K l (b i) 0=0->J))/\∃j,k! n (K l (b i) 0) (cy.o i) j/\((0=0/\0=0/\0=0/\0=0/\0=0/\0=0/\(2=2/\H l=H l/\ak (H l) (iL l W) (iL l W))/\c = c/\(cy.i i:Z)=(cy.i i:Z)/\Q)/\aD n n a a/\aD 0 0 0 0/\aD (d?.o ae*K l (b i) 0) (d?.o j) (V+W) V/\aD (K l (b i) 0) (K l (b i) 0) W W/\aD (d?.x ae/K l (b i) 0/K l (b i) 0) (d?.x j/K l (b i) 0) a a/\aD (d?.x ae/K l (b i) 0%K l (b i) 0) (d?.x j%K l (b i) 0) W W/\Q)/\I (d?.x j)<I (d?.x ae)else ∃j,nU A n l R j/\((0=0/\0=0/\0=0/\(2=2/\H l=H l/\ak (H l) (iL l W) (iL l W))/\c = c/\O FV ((cy.i i:Z)+1)=(cy.i j:Z)/\Q)/\aD n n a a/\aD 0 0 0 0/\aD (d?.o ae) (cy.o j) V V/\Q)/\H l-cy.i j<H l-cy.i i else bif AT R then J else Q else bif AT R then cy.o i=AP R 0/\(V<=V\/S (cy.o i)<2^V)else J)=aI (aK [jC,mT,mC,dM,kJ] (OK A n l a W V R)) CW [.aa n a,.sl 2 l.length (iL l W)] (AF (fM R.isSome (.ret (.aa (R.getD 0) V)))):=by subst e d;kernel_rfl
def uF{l:P Z}{i:U}(h:i<l.length):l.drop i=l.getD i 0::l.drop (i+1):=by
 simp_all
def gS{l:P Z}{i:U}(h:i<l.length:=by omega):l.getD i 0∈l:=by
 simp_all
def R0{n q p x o:Z}(I:k! n q p ⟨x,o⟩)(a:2<=q):(x%q=0->k! n q p ⟨x/q,o*q⟩/\(x/q).toNat<x.toNat/\o*q<=p*kR n q)/\(x%q≠0->o=p*kR n q):=by
 have c:1<=x:=I.hx;have f:1<=o:=I.ho;have d:o*kR x q=p*kR n q:=I.he;refine⟨λh=>?_,λh=>?_⟩
 .obtain⟨e,h2,h3⟩:=Cc c a h;rw[zl c a h,<-AZ]at d;have b:1<=o*q:=by
   have:=BY f a (by omega) (show 0<=o by omega);omega
  refine⟨⟨e,b,d⟩,by omega,?_⟩;have:=Z7 (RX e a).1 (show 0<=o*q by omega);omega
 grind [Jl]
def R1{n q p:Z}{k a A:U}(h:1<=p)(g:p<=2^(A*k))(d:1<=n)(c:2<=q)(f:n<2^a)(e:a<=A):1<=p*kR n q/\p*kR n q<=2^(A*(k+1)):=by
 obtain⟨b,v2⟩:=RX d c;exact YX h g b v2 f e
def Zh(n:Z)(l:P Z)(a W V A:U)(t:1<=n)(k:n<2^a)(D:a<=A)(hA:A<=300000)(hW:W<=300000)(hV:V<=300000)(p:64<=V)(B:∀q∈l,2<=q)(d:A*l.length<V:=by omega)(Vi:l.length<=1000000:=by omega) :
  ∃E:Env AA,aI E CW [.aa n a,.sl 2 l.length (iL l W)] (AF (fM (cA n l).isSome (.ret (.aa ((cA n l).getD 0) V)))):=by
 refine⟨aK [jC,mT,mC,dM,kJ] (OK A n l a W V (cA n l)),?_⟩;rw[<-Y8 A n l a W V (cA n l) _ rfl _ rfl];refine⟨⟨⟨0,1⟩,⟨Z9 _,rfl,BP 1,BP 1⟩,⟨rfl,rfl,rfl,⟨rfl,rfl,AG⟩,rfl,rfl,⟨⟩⟩,cB,cB,⟨rfl,.inl p⟩,⟨⟩⟩,λi I=>?_⟩;obtain⟨i,o⟩:=i;obtain⟨C,b,h,r⟩:=I;dsimp only at C b h r⊢;rw[Z8];refine aJ Z4 (λq1=>?_) (λq1=>?_)
 .have c:i<l.length:=by omega
  rw[uF c]at b;have s:=B _ (gS c);generalize l.getD i 0=q at *;have F:O FV ((i:Z)+1)=((i+1:U):Z):=by rw[aV (by omega) (by omega)];omega
  refine⟨by omega,by omega,aJ Z4 (λg=>?_) (λg=>?_)⟩
  .have b:m7 n (l.drop (i+1)) (o*kR n q)=cA n l:=by rw[<-b];exact(Y g).symm
   obtain⟨b1,v⟩:=R1 h r t s k D;have b3:(o*kR n q).natAbs<2^V:=Nk b1 v (BL (AU A c) d);refine⟨⟨⟨n,o⟩,⟨t,h,rfl⟩,⟨rfl,rfl,rfl,rfl,rfl,rfl,⟨rfl,rfl,AG⟩,rfl,rfl,⟨⟩⟩,cB,cB,cB,cB,cB,cB,⟨⟩⟩,λj J=>?_⟩;obtain⟨x,u⟩:=j;obtain⟨y,w⟩:=R0 J s;have z:1<=u:=J.ho;dsimp only;refine aJ Z4 (λf=>?_) (λf=>?_)
   .obtain⟨e,z2,z3⟩:=y f;have z4:1<=u*q:=e.ho
    grind [AG]
   .have e:=w f;exact⟨⟨i+1,u⟩,⟨c,by rw[e];exact b,z,by rw[e];exact v⟩,⟨⟨rfl,rfl,rfl,⟨rfl,rfl,AG⟩,rfl,F,⟨⟩⟩,cB,cB,cB,⟨⟩⟩,by show l.length-(i+1)<l.length-i;omega⟩
  .have b:(Do:G Z)=cA n l:=by rw[<-b];exact(X g).symm
   simp_all
 .have m:i=l.length:=by omega
  subst m;rw[AX]at b;have b:FR o=cA n l:=b
  grind
def y7:aG
 |[.aa n a,.sl 2 k f]=>FR (FR (a<=300/\1<=n/\k<=90/\(∀i,i<k->dq 201 (f i))/\(∀q∈aH k f,2<=q)),fM (cA n (aH k f)).isSome (.ret (.aa ((cA n (aH k f)).getD 0) 30000)))
 |_=>Do
def abp:∀b p r,y7 b=FR (p,r)->p.holds->fR b->∃bf,lB.di 0 b bf/\∃E:Env AA,aI E CW bf r.sat:=by
 intro b p r h c e;unfold y7 at h;split at h
 .rename_i n a k f;cases h;obtain⟨l,j,h3,i,g⟩:=c;have d:=bB k f;exact⟨[.aa n a,.sl 2 (aH k f).length (iL (aH k f) 201)],⟨cB,⟨rfl,d.symm,t7 i⟩,⟨⟩⟩,
   Zh n (aH k f) a 201 30000 300 j (RK (by omega) e.1) l (by omega) (by omega) (by omega) (by omega) g⟩
 .simp at h
def zZ:ah AA:=⟨166,y7,λargs w=>Tryz.call166 args w,gR bQ Tryz.func166 y7 abp⟩
def Qr(A:U)(n:Z)(l:P Z)(a W V:U)(R:G Z):U->MS->G bt
 |3,_=>FR (.inv cy (nU A n l R) (λs=>⟨49, [(1,.sl 2 l.length (iL l W)),(2,.bp 0 0),(4,.bp 1 0),(6,.bp 2 0),(7,.int .i64 s.i)], [⟨FU,.one (.aa n a)⟩,⟨FU,.one (.aa 0 0)⟩,⟨FU,.one (.aa s.o V)⟩],0⟩) (λs=>l.length-s.i))
 |8,e=>(match e.bx with
  |_::_::⟨_,.one (.aa o _)⟩::_=>(match bD 7 e.tm with
   |.int _ i=>FR (.inv d? (k! n (l.getD i.toNat 0) o) (λs=>⟨49, [(1,bD 1 e.tm),(2,.bp 0 0),(4,.bp 1 0),(6,.bp 2 0),(7,bD 7 e.tm),(8,.bp 3 0)],
    [⟨FU,.one (.aa n a)⟩,⟨FU,.one (.aa 0 0)⟩,⟨FU,.one (.aa s.o V)⟩,⟨FU,.one (.aa s.x a)⟩],0⟩) (λs=>s.x.toNat))
   |_=>Do)
  |_=>Do)
 |_,_=>Do
def acn(A:U)(n:Z)(l:P Z)(a W V:U)(R:G Z)(b:_)(e:b=λ(i:cy)=>(cy.i i:Z))(c:_)(d:c=λ(i:cy)=>(I (b i))):(fX 1/\(∃i,nU A n l R i/\((2=2/\H l=H l/\ak (H l) (iL l W) (iL l W))/\0=0/\0=0/\0=0/\0= (b i)/\Q)/\aD n n a a/\aD 0 0 0 0/\aD 1 (cy.o i) 64 V/\Q)/\∀(i:cy),nU A n l R i->bif f ((b i) <(H l:Z))then (0<= (b i)/\(b i) <(H l:Z))/\(a<=900000/\W<=900000/\(K l (c i) 0=0->J))/\bif f ((H (aA (S (n%K l (c i) 0))):Z)>0)then aD 0 (AP R 0) 0 V/\FU=AT R/\Q else (∃ae,k! n (K l (c i) 0) (cy.o i) ae/\((2=2/\H l=H l/\ak (H l) (iL l W) (iL l W))/\0=0/\0=0/\0=0/\(b i) = (b i)/\0=0/\Q)/\aD n n a a/\aD 0 0 0 0/\aD (cy.o i) (d?.o ae) V V/\aD n (d?.x ae) a a/\Q)/\∀(ae:d?),k! n (K l (c i) 0) (cy.o i) ae->(0<= (b i)/\(b i) <(H l:Z))/\(a<=900000/\W<=900000/\(K l (c i) 0=0->J))/\bif (H (aA (S (d?.x ae%K l (c i) 0))):Z)==0 then (0<= (b i)/\(b i) <(H l:Z))/\(a<=900000/\W<=900000/\(K l (c i) 0=0->J))/\(0<= (b i)/\(b i) <(H l:Z))/\(V<=1000000/\W<=1000000)/\∃j,k! n (K l (c i) 0) (cy.o i) j/\(((2=2/\H l=H l/\ak (H l) (iL l W) (iL l W))/\0=0/\0=0/\0=0/\(b i) = (b i)/\0=0/\Q)/\aD n n a a/\aD 0 0 0 0/\aD (d?.o ae*K l (c i) 0) (d?.o j) (V+W) V/\aD (d?.x ae/K l (c i) 0) (d?.x j) a a/\Q)/\I (d?.x j)<I (d?.x ae)else ∃j,nU A n l R j/\(((2=2/\H l=H l/\ak (H l) (iL l W) (iL l W))/\0=0/\0=0/\0=0/\O FV ((b i) +1)=(cy.i j:Z)/\Q)/\aD n n a a/\aD 0 0 0 0/\aD (d?.o ae) (cy.o j) V V/\Q)/\H l-cy.i j<H l-cy.i i else aD (cy.o i) (AP R 0) V V/\FW=AT R/\Q)=aI (aK [cC,eC,kX,e9] (Qr A n l a W V R)) C0 [.aa n a,.sl 2 l.length (iL l W)] (AF (.ret (.tup [.aa (R.getD 0) V,.bool R.isSome]))):=by subst e d;kernel_rfl
theorem yR{z:Z}:(((aA z.natAbs).length:U):Z)>0↔z≠0:=by
 grind [yQ]
def W6{z:Z}:((((aA z.natAbs).length:U):Z)==0)=FW↔z=0:=by
 rw[yQ,Z4]
def abO(n:Z)(l:P Z)(a W V A:U)(t:1<=n)(k:n<2^a)(D:a<=A)(hA:A<=300000)(hW:W<=300000)(hV:V<=300000)(p:64<=V)(B:∀q∈l,2<=q)(e:A*l.length<V:=by omega)(Vi:l.length<=1000000:=by omega) :
  ∃E:Env AA,aI E C0 [.aa n a,.sl 2 l.length (iL l W)] (AF (.ret (.tup [.aa ((cA n l).getD 0) V,.bool (cA n l).isSome]))):=by
 refine⟨aK [cC,eC,kX,e9] (Qr A n l a W V (cA n l)),?_⟩;rw[<-acn A n l a W V (cA n l) _ rfl _ rfl];refine⟨by omega,⟨⟨0,1⟩,⟨Z9 _,rfl,BP 1,BP 1⟩,⟨⟨rfl,rfl,AG⟩,rfl,rfl,rfl,rfl,⟨⟩⟩,cB,cB,⟨rfl,.inl p⟩,⟨⟩⟩,λi I=>?_⟩;obtain⟨i,o⟩:=i;obtain⟨C,b,h,r⟩:=I;dsimp only at C b h r⊢;rw[Z8];refine aJ Z4 (λq1=>?_) (λq1=>?_)
 .have c:i<l.length:=by omega
  rw[uF c]at b;have s:=B _ (gS c);generalize l.getD i 0=q at *;have F:O FV ((i:Z)+1)=((i+1:U):Z):=by rw[aV (by omega) (by omega)];omega
  refine⟨by omega,by omega,aJ (decide_eq_true_iff.trans yR) (λd=>?_) (λd=>?_)⟩
  .have b:(Do:G Z)=cA n l:=by rw[<-b];exact(X d).symm
   grind
  .have d:=B0.1 d;have b:m7 n (l.drop (i+1)) (o*kR n q)=cA n l:=by rw[<-b];exact(Y d).symm
   obtain⟨b1,v⟩:=R1 h r t s k D;have b3:(o*kR n q).natAbs<2^V:=Nk b1 v (BL (AU A c) e);refine⟨⟨⟨n,o⟩,⟨t,h,rfl⟩,⟨⟨rfl,rfl,AG⟩,rfl,rfl,rfl,rfl,rfl,⟨⟩⟩,cB,cB,cB,cB,⟨⟩⟩,λj J=>?_⟩;obtain⟨x,u⟩:=j;obtain⟨y,w⟩:=R0 J s;have z:1<=u:=J.ho;dsimp only;refine⟨by omega,by omega,aJ W6 (λg=>?_) (λg=>?_)⟩
   .obtain⟨f,z2,z3⟩:=y g;have z4:1<=u*q:=f.ho
    grind [AG]
   .have f:=w g;exact⟨⟨i+1,u⟩,⟨c,by rw[f];exact b,z,by rw[f];exact v⟩,⟨⟨⟨rfl,rfl,AG⟩,rfl,rfl,rfl,F,⟨⟩⟩,cB,cB,cB,⟨⟩⟩,by show l.length-(i+1)<l.length-i;omega⟩
 .have m:i=l.length:=by omega
  subst m;rw[AX]at b;have b:FR o=cA n l:=b
  grind
def B':aG
 |[.aa n a,.sl 2 k f]=>FR (FR (a<=300/\1<=n/\k<=90/\(∀i,i<k->dq 201 (f i))/\(∀q∈aH k f,2<=q)),.ret (.tup [.aa ((cA n (aH k f)).getD 0) 30000,.bool (cA n (aH k f)).isSome]))
 |_=>Do
def afi:∀b p r,B' b=FR (p,r)->p.holds->fR b->∃bf,lB.di 0 b bf/\∃E:Env AA,aI E C0 bf r.sat:=by
 intro b p r h c e;unfold B' at h;split at h
 .rename_i n a k f;cases h;obtain⟨l,j,h3,i,g⟩:=c;have d:=bB k f;exact⟨[.aa n a,.sl 2 (aH k f).length (iL (aH k f) 201)],⟨cB,⟨rfl,d.symm,t7 i⟩,⟨⟩⟩,
   abO n (aH k f) a 201 30000 300 j (RK (by omega) e.1) l (by omega) (by omega) (by omega) (by omega) g⟩
 .simp at h
def Ao:ah AA:=⟨101,B',λargs w=>Tryz.call101 args w,gR bQ Tryz.func101 B' afi⟩
def V9(n:U):U->MS->G bt:=λ_ _=>FR (.pq n)
def acM(z:Z)(n:U):(fX 2/\(n<=1000000/\64<=1000000)/\bif V (aY z 2>0)then ((0:Z)<=0/\0<(H (aA (S z)):Z))/\bif O FT (AI (R (AC FT) (K (aA (S z)) (I 0) 0) &&&R (AC FT) 1):Z)==1 then bif jS z 2 then Q else J else bif jS z 2 then J else Q else bif jS z 2 then J else Q)=aI (aK [iK,eZ,dM] aC) EO [.aa z n] (AF (fM (jS z 2) (.ret (.tup [])))):=by kernel_rfl
def Bn:aG
 |[.aa z n]=>FR (FR (n<=1000000),fM (jS z 2) (.ret (.tup [])))
 |_=>Do
def acq(z:Z)(n:U):(fX 2/\(n<=1000000/\64<=1000000)/\bif V (aY z 2>0)then ((0:Z)<=0/\0<(H (aA (S z)):Z))/\((2:Z)=0->J)/\(T (K (aA (S z)) (I 0) 0) 2==1)=jS z 2 else FU=jS z 2)=aI (aK [cC,iQ] aC) E6 [.aa z n] (AF (.ret (.bool (jS z 2)))):=by kernel_rfl
def aau(b:N)(l:P Z):(bif (H l:Z)==0 then (!b)=nD b l else (0<=O FV ((H l:Z)-1)/\O FV ((H l:Z)-1)<(H l:Z))/\(K l (I (O FV ((H l:Z)-1))) 0 != 0)=nD b l)=aI (aK [] aC) E9 [.st [.bool b,.ws l]] (AF (.ret (.bool (nD b l)))):=by kernel_rfl
def XY(b:N)(l:P Z)(a:_)(c:a=(H l:Z)):(bif a ==0 then bif !b then FW=nD b l else bif V (a >0)then (0<=O FV (a-1)/\O FV (a-1)< a)/\(K l (I (O FV (a-1))) 0 != 0)=nD b l else FU=nD b l else bif V (a >0)then (0<=O FV (a-1)/\O FV (a-1)< a)/\(K l (I (O FV (a-1))) 0 != 0)=nD b l else FU=nD b l)=aI (aK [] aC) E7 [.st [.bool b,.ws l]] (AF (.ret (.bool (nD b l)))):=by subst c;kernel_rfl
def acL(k n a b m x y o:Z)(i:N)(c d:U)(f g:U->MV)(r q p l j h e:U):(((0:Z)<=0/\(0:Z)<(↑(6:U):Z))/\I 0<6/\bif V (a=0)then (0<=O FV ((0:Z)+1)/\O FV ((0:Z)+1)<(↑(6:U):Z))/\I (O FV ((0:Z)+1))<6/\bif V (b=0)then (0<=O FV (O FV ((0:Z)+1)+1)/\O FV (O FV ((0:Z)+1)+1)<(↑(6:U):Z))/\I (O FV (O FV ((0:Z)+1)+1))<6/\bif V (m=0)then (0<=O FV (O FV (O FV ((0:Z)+1)+1)+1)/\O FV (O FV (O FV ((0:Z)+1)+1)+1)<(↑(6:U):Z))/\I (O FV (O FV (O FV ((0:Z)+1)+1)+1))<6/\bif V (x=0)then (0<=O FV (O FV (O FV (O FV ((0:Z)+1)+1)+1)+1)/\O FV (O FV (O FV (O FV ((0:Z)+1)+1)+1)+1)<(↑(6:U):Z))/\I (O FV (O FV (O FV (O FV ((0:Z)+1)+1)+1)+1))<6/\bif V (y=0)then (0<=O FV (O FV (O FV (O FV (O FV ((0:Z)+1)+1)+1)+1)+1)/\O FV (O FV (O FV (O FV (O FV ((0:Z)+1)+1)+1)+1)+1)<(↑(6:U):Z))/\I (O FV (O FV (O FV (O FV (O FV ((0:Z)+1)+1)+1)+1)+1))<6/\bif V (o=0)then bif !i then bif dT a b m x y o i then Q else J else bif dT a b m x y o i then J else Q else bif dT a b m x y o i then J else Q else bif dT a b m x y o i then J else Q else bif dT a b m x y o i then J else Q else bif dT a b m x y o i then J else Q else bif dT a b m x y o i then J else Q else bif dT a b m x y o i then J else Q)=aI (aK [mT,dM] (V9 7)) EP [.st [.int .i64 k,.aa n e,.sl 1 c f,.sl 2 d g,.st [.aa a r,.aa b q,.aa m p],.st [.aa x l,.aa y j,.bool i],.aa o h]] (AF (fM (dT a b m x y o i) (.ret (.tup [])))):=by kernel_rfl
def aal(k n a b m x y o:Z)(i:N)(c d:U)(f g:U->MV)(r q p l j h e:U):(bif O FV (O FV (O FV (O FV (O FV ((H (aA (S a)):Z)+(H (aA (S b)):Z))+(H (aA (S m)):Z))+(H (aA (S x)):Z))+(H (aA (S y)):Z))+(H (aA (S o)):Z))==0 then (!i)=dT a b m x y o i else FU=dT a b m x y o i)=aI (aK [] aC) FF [.st [.int .i64 k,.aa n e,.sl 1 c f,.sl 2 d g,.st [.aa a r,.aa b q,.aa m p],.st [.aa x l,.aa y j,.bool i],.aa o h]] (AF (.ret (.bool (dT a b m x y o i)))):=by kernel_rfl
def rM{b:N}(h:b=FU):(bif b then J else Q):=by rw[h];exact⟨⟩
def LF{b:N}(h:b=FW):(bif b then Q else J):=by rw[h];exact⟨⟩
theorem rL{z:Z}:jS z 2=FW↔2<z/\z%2=1:=Z4
theorem JB{z:Z}(h:¬(2<z/\z%2=1)):jS z 2=FU:=Y1 h
theorem UD{z:Z}(h:2<z):O FT ((R (AC FT) ((aA z.natAbs).getD (I 0) 0) &&&R (AC FT) 1).toNat:Z)=z%2:=by
 rw[JO,kU _];omega
def ae7:bC EO Bn:=by
 intro ms p r h a;unfold Bn at h;split at h
 .rename_i z n;cases h;have h1:n<=1000000:=a;refine⟨aK [iK,eZ,dM] aC,?_⟩;rw[<-acM z n];refine⟨by omega,by omega,aJ (decide_eq_true_iff.trans k8) (λq=>?_) (λq=>rM (JB λw=>q w.1))⟩;have:=zh (z:=z)
  grind [UD,rL,JB]
 .simp at h
def An:ah AA:=⟨165,Bn,λargs w=>Tryz.call165 args w,aO bQ Tryz.func165 Bn ae7⟩
def As:aG
 |[.aa z n]=>FR (FR (n<=1000000),.ret (.bool (jS z 2)))
 |_=>Do
def aeL:bC E6 As:=by
 intro ms p r h a;unfold As at h;split at h
 .rename_i z n;cases h;have h1:n<=1000000:=a;refine⟨aK [cC,iQ] aC,?_⟩;rw[<-acq z n];refine⟨by omega,by omega,aJ (decide_eq_true_iff.trans k8) (λq=>?_) (λq=>(JB λw=>q w.1).symm)⟩;have:=zh (z:=z)
  grind [JO,BN,rL]
 .simp at h
def Ap:ah AA:=⟨102,As,λargs w=>Tryz.call102 args w,aO bQ Tryz.func102 As aeL⟩
def m9:aG
 |[.st [.bool b,.ws l]]=>FR (FR (l.length<=1000000),.ret (.bool (nD b l)))
 |_=>Do
def ab2:bC E9 m9:=by
 intro ms p r h a;unfold m9 at h;split at h
 .rename_i b l;cases h;have h1:l.length<=1000000:=a;refine⟨aK [] aC,?_⟩;rw[<-aau b l];refine aJ beq_iff_eq (λq=>?_) (λq=>?_)
  .grind [nD]
  .have w:O FV ((l.length:Z)-1)=((l.length-1:U):Z):=by rw[aV (by omega) (by omega)];omega
   rw[w,Z8]
   grind [nD]
 .simp at h
def aa2:ah AA:=⟨96,m9,λargs w=>Tryz.call96 args w,aO bQ Tryz.func96 m9 ab2⟩
def Zg:bC E7 m9:=by
 intro ms p r h a;unfold m9 at h;split at h
 .rename_i b l;cases h;have h1:l.length<=1000000:=a;refine⟨aK [] aC,?_⟩;rw[<-XY b l _ rfl];refine aJ beq_iff_eq (λq=>?_) (λq=>?_)
  .grind [nD]
  .have w:O FV ((l.length:Z)-1)=((l.length-1:U):Z):=by rw[aV (by omega) (by omega)];omega
   rw[w,Z8,Y0 (show(l.length:Z)>0 by omega),Z6]
   grind [nD]
 .simp at h
def Nt:ah AA:=⟨100,m9,λargs w=>Tryz.call100 args w,aO bQ Tryz.func100 m9 Zg⟩
def Bm:aG
 |[.st [.int .i64 _,.aa _ _,.sl 1 _ _,.sl 2 _ _,.st [.aa a _,.aa b _,.aa m _],.st [.aa x _,.aa y _,.bool i],.aa o _]]=>FR (Do,fM (dT a b m x y o i) (.ret (.tup [])))
 |_=>Do
theorem Jz{a b m x y o:Z}{i:N}:dT a b m x y o i=FW↔a=0/\b=0/\m=0/\x=0/\y=0/\o=0/\i=FU:=by
 grind [dT,BO]
theorem u5{a b m x y o:Z}{i:N}(h:¬(a=0/\b=0/\m=0/\x=0/\y=0/\o=0/\i=FU)):dT a b m x y o i=FU:=by
 grind [dT,Jz]
def ae6:bC EP Bm:=by
 intro ms p r h hp;unfold Bm at h;split at h
 .rename_i k n e c f d g a v b u m t x s y l i o j;cases h;refine⟨aK [mT,dM] (V9 7),?_⟩;rw[<-acL k n a b m x y o i c d f g v u t s l j e];refine⟨by decide,by decide,aJ Z4 (λq1=>?_) (λq=>rM (u5 λw=>q w.1))⟩;refine⟨by decide,by decide,aJ Z4 (λq2=>?_) (λq=>rM (u5 λw=>q w.2.1))⟩;refine⟨by decide,by decide,aJ Z4 (λq3=>?_) (λq=>rM (u5 λw=>q w.2.2.1))⟩;refine⟨by decide,by decide,aJ Z4 (λq4=>?_) (λq=>rM (u5 λw=>q w.2.2.2.1))⟩;refine⟨by decide,by decide,aJ Z4 (λq5=>?_) (λq=>rM (u5 λw=>q w.2.2.2.2.1))⟩;refine⟨by decide,by decide,aJ Z4 (λasH=>?_) (λq=>rM (u5 λw=>q w.2.2.2.2.2.1))⟩
  grind [Jz,u5]
 .simp at h
def vZ:ah AA:=⟨164,Bm,λargs w=>Tryz.call164 args w,aO bQ Tryz.func164 Bm ae6⟩
def rJ{z:Z}:(aA z.natAbs).length=0↔z=0:=by
 grind [yQ]
def z5:aG
 |[.st [.int .i64 _,.aa _ _,.sl 1 _ _,.sl 2 _ _,.st [.aa a f,.aa b e,.aa m w3],.st [.aa x d,.aa y c,.bool i],.aa o w6]]=>FR (FR (f<=1000/\e<=1000/\w3<=1000/\d<=1000/\c<=1000/\w6<=1000),.ret (.bool (dT a b m x y o i)))
 |_=>Do
def aa9:dL FF z5:=by
 intro ms p r h v w;unfold z5 at h;split at h
 .rename_i k n e c f d g a u b t m s x q y l i o j;cases h;obtain⟨h1,h2,h3,h4,h5,h6⟩:=v;refine⟨aK [] aC,?_⟩;rw[<-aal k n a b m x y o i c d f g u t s q l j e];obtain⟨⟨_,_,_,_,⟨fa,E,D,_⟩,⟨B,A,_,_⟩,C,_⟩,_⟩:=w;have la:=cT fa;have ea:=rJ (z:=a);have lb:=cT E;have eb:=rJ (z:=b);have lm:=cT D;have em:=rJ (z:=m);have asz:=cT B;have ex:=rJ (z:=x);have asA:=cT A;have anu:=rJ (z:=y);have lo:=cT C;have eo:=rJ (z:=o);generalize (aA a.natAbs).length=xQ at *;generalize (aA b.natAbs).length=hJ at *;generalize (aA m.natAbs).length=HF at *;generalize (aA x.natAbs).length=LB at *;generalize (aA y.natAbs).length=VM at *;generalize (aA o.natAbs).length=api at *;rw[aV (x:=(xQ:Z)+hJ) (by omega) (by omega),aV (x:=(xQ:Z)+hJ+HF) (by omega) (by omega),aV (x:=(xQ:Z)+hJ+HF+LB) (by omega) (by omega),aV (x:=(xQ:Z)+hJ+HF+LB+VM) (by omega) (by omega),aV (x:=(xQ:Z)+hJ+HF+LB+VM+api) (by omega) (by omega)]
  grind [u5,Jz]
 .simp at h
def uC:ah AA:=⟨64,z5,λargs w=>Tryz.call64 args w,aP bQ Tryz.func64 z5 aa9⟩
def qU(k n a b m x y o:Z)(i:N)(c:U)(f:U->MV)(base:P Z)(W:U):MV :=
 .st [.int .i64 k,.aa n W,.sl 1 c f,.sl 2 base.length (iL base W),.st [.aa a W,.aa b W,.aa m W],.st [.aa x W,.aa y W,.bool i],.aa o W]
def tC{k n a b m x y o:Z}{i:N}{c d:U}{f g:U->MV}{s r q p l h e W:U}(C:s<=W)(B:r<=W)(A:q<=W)(z:p<=W)(w:l<=W)(v:h<=W)(u:e<=W)(t:∀j,j<d->dq W (g j)) :
  lB 0 (.st [.int .i64 k,.aa n e,.sl 1 c f,.sl 2 d g,.st [.aa a s,.aa b r,.aa m q],.st [.aa x p,.aa y l,.bool i],.aa o h]) (qU k n a b m x y o i c f (aH d g) W) :=
 ⟨rfl,⟨rfl,.inl u⟩,⟨rfl,rfl,AG⟩,⟨rfl,(bB d g).symm,t7 t⟩,⟨⟨rfl,.inl C⟩,⟨rfl,.inl B⟩,⟨rfl,.inl A⟩,⟨⟩⟩,⟨⟨rfl,.inl z⟩,⟨rfl,.inl w⟩,rfl,⟨⟩⟩,⟨rfl,.inl v⟩,⟨⟩⟩
def o4{d:U}{g:U->MV}{W:U}(a:∀j,j<d->dq W (g j)):lB 0 (.sl 2 d g) (.sl 2 (aH d g).length (iL (aH d g) W)):=⟨rfl,(bB d g).symm,t7 a⟩
structure gy (w1 w2 w3 w4 w5 w6 w7 d e:Nat) (g h:Nat->MV):Prop where
 h1:w1<=200
 h2:w2<=200
 h3:w3<=200
 h4:w4<=200
 h5:w5<=200
 h6:w6<=200
 h7:w7<=200
 hg:∀j,j<d->dq 200 (g j)
 hh:∀j,j<e->dq 200 (h j)
 he:e<=90
 hd:d<=100000
 h0:∀q∈aH e h,2<=q
def agS(k n a b m x y o:Z)(i:N)(c:U)(f:U->MV)(base q:P Z)(W:U)(e:_)(h:e=(dT a b m x y o i))(d:_)(g:d=(H base)):(bif p6 n then bif V (xO n<65536)then bif (H q:Z)==0 then bif (H base:Z)==0 then bif dT a b m x y o i then n<4294967296/\bif ep n then bif tS n d (H q) e then Q else J else bif tS n d (H q) e then J else Q else bif tS n d (H q) e then J else Q else bif tS n d (H q) e then J else Q else bif tS n d (H q) e then J else Q else bif tS n d (H q) e then J else Q else bif tS n d (H q) e then J else Q)=aI (aK [Qh,dM,vZ,Gc] aC) EW [qU k n a b m x y o i c f base W,.sl 2 q.length (iL q W)] (AF (fM (tS n base.length q.length (dT a b m x y o i)) (.ret (.tup [])))):=by subst h g;kernel_rfl
def Fe:aG
 |[.st [.int .i64 _,.aa n c,.sl 1 _ _,.sl 2 d g,.st [.aa a q,.aa b p,.aa m l],.st [.aa x k,.aa y j,.bool i],.aa o f],.sl 2 e h] =>
  FR (FR (gy q p l k j f c d e g h),fM (tS n d e (dT a b m x y o i)) (.ret (.tup [])))
 |_=>Do
def aja:∀l p r,Fe l=FR (p,r)->p.holds->fR l->∃bf,lB.di 0 l bf/\∃E:Env AA,aI E EW bf r.sat:=by
 intro l p r j B hf;unfold Fe at j;split at j
 .rename_i k n s c f d g a A b z m w x v y u i o t e h;simp only[Z1,Z2]at j;obtain⟨rfl,rfl⟩:=j;have K:gy A z w v u t s d e g h:=B;refine⟨[qU k n a b m x y o i c f (aH d g) 200,.sl 2 (aH e h).length (iL (aH e h) 200)],⟨tC K.h1 K.h2 K.h3 K.h4 K.h5 K.h6 K.h7 K.hg,o4 K.hh,⟨⟩⟩,aK [Qh,dM,vZ,Gc] aC,?_⟩;have D:=bB d g;have C:=bB e h;generalize aH d g=base at *;generalize aH e h=q at *;subst D;subst C;rw[<-agS k n a b m x y o i c f base q 200 _ rfl _ rfl]
  grind [tS,dT,p6,uK,ep,LK,xO]
 .simp at j
def aix:ah AA:=⟨135,Fe,λargs w=>Tryz.call135 args w,gR bQ Tryz.func135 Fe aja⟩
structure nv (n:Int) (base q:List Int) (R:Bool) (s:cl):Prop where
 hi:s.i<=base.length
 hr:yU n (base.drop s.i) (q.drop s.i)=R
def Sq(n:Z)(base q:P Z)(W:U)(R:N):U->MS->G bt
 |7,e=>FR (.inv cl (nv n base q R) (λs=>⟨92, [(1,.sl 2 q.length (iL q W)),(2,.bp 0 0),(4,.bp 1 0),(40,.sl 2 base.length (iL base W)),(41,.int .i64 base.length),(42,.int .i64 s.i)],
   e.bx.take 2,0⟩) (λs=>base.length-s.i))
 |_,_=>Do
def ahG(k n a b m x y o:Z)(i:N)(c:U)(f:U->MV)(base q:P Z)(W:U)(R T:N)(g:_)(s:g=(H base:Z))(d:_)(r:d=λ(ae:cl)=>(I (ae.1:Z)))(h:_)(p:h=(cA (n-1) (aH (H q) (iL q W))))(e:_)(l:e=(iL base W)):(W<=1000000/\bif jS n 2 then bif dT a b m x y o i then (W<=1000000/\64<=1000000)/\(max W 64+1<=300/\1<=n-1/\H q<=90/\(∀(i:U),i<H q->dq 201 (iL q W i))/\∀(kz:Z),kz∈aH (H q) (iL q W)->2<=kz)/\bif AT h then (30000<=1000000/\30000<=1000000)/\(30000+30000<=1000000/\W<=1000000)/\bif V (aY (AP h 0*AP h 0) n>0)then bif g ==(H q:Z)then (∃ae,nv n base q R ae/\((2=2/\H q=H q/\ak (H q) (iL q W) (iL q W))/\0=0/\0=0/\(2=2/\H base=H base/\ak (H base) e e)/\g = g/\0=(ae.1:Z)/\Q)/\(k=k/\aD n n W W/\(1=1/\c=c/\ak c f f)/\(2=2/\H base=H base/\ak (H base) e e)/\(aD a a W W/\aD b b W W/\aD m m W W/\Q)/\(aD x x W W/\aD y y W W/\i=i/\Q)/\aD o o W W/\Q)/\aD (n-1) (n-1) (max W 64+1) (max W 64+1)/\Q)/\∀(ae:cl),nv n base q R ae->bif V ((ae.1:Z)< g)then (0<=(ae.1:Z)/\(ae.1:Z)< g)/\(W<=1000000/\64<=1000000)/\bif V (aY (K base (d ae) 0) 1>0)then (W<=1000000/\max W 64+1<=1000000)/\bif V (aY (K base (d ae) 0) (n-1)<=0)then (0<=(ae.1:Z)/\(ae.1:Z)<(H q:Z))/\(max W 64+1<=900000/\W<=900000/\(K q (d ae) 0=0->J))/\(W<=100000/\max W 64+1<=100000/\W<=100000/\0<=(n-1)/K q (d ae) 0)/\bif V (0<n)then (W<=1000000/\64<=1000000)/\(max W 64+1<=900000/\W<=900000)/\bif V (gcd (sU (K base (d ae) 0) ((n-1)/K q (d ae) 0) n-1) n=1)then (0<=(ae.1:Z)/\(ae.1:Z)<(H q:Z))/\(W<=100000/\W<=100000/\W<=100000/\0<=K q (d ae) 0)/\bif V (0<n)then (W<=1000000/\64<=1000000)/\bif V (sU (sU (K base (d ae) 0) ((n-1)/K q (d ae) 0) n) (K q (d ae) 0) n=1)then ∃j,nv n base q R j/\(((2=2/\H q=H q/\ak (H q) (iL q W) (iL q W))/\0=0/\0=0/\(2=2/\H base=H base/\ak (H base) e e)/\g = g/\O FV ((ae.1:Z)+1)=(j.1:Z)/\Q)/\(k=k/\aD n n W W/\(1=1/\c=c/\ak c f f)/\(2=2/\H base=H base/\ak (H base) e e)/\(aD a a W W/\aD b b W W/\aD m m W W/\Q)/\(aD x x W W/\aD y y W W/\i=i/\Q)/\aD o o W W/\Q)/\aD (n-1) (n-1) (max W 64+1) (max W 64+1)/\Q)/\H base-j.1<H base-ae.1 else bif T then J else Q else bif T then J else Q else bif T then J else Q else bif T then J else Q else bif T then J else Q else bif T then J else Q else bif T then Q else J else bif T then J else Q else bif T then J else Q else bif T then J else Q else bif T then J else Q else bif T then J else Q)=aI (aK [An,vZ,jC,kW,zZ,kJ,eZ,dM,mC,Rd,vY,mS] (Sq n base q W R)) CZ [qU k n a b m x y o i c f base W,.sl 2 q.length (iL q W)] (AF (fM T (.ret (.tup [])))):=by subst s r p l;kernel_rfl
def RW{a e m:Z}(h:0<=e:=by omega):sU a e m=fY a e.natAbs m:=if_neg (by omega)
def uO{a b:Z}:aY a b<=0↔a<=b:=Ch
def NO(n b p:Z)(c a:P Z):yU n (b::c) (p::a)=((V (1<b)&&V (b<=n-1))&&((V (gcd (fY b ((n-1)/p).natAbs n-1) n=1)&&V (fY (fY b ((n-1)/p).natAbs n) p.natAbs n=1))&&yU n c a)):=rfl
def mQ{k n a b m x y o:Z}{i:N}{c W:U}{f:U->MV}{base:P Z}:(k=k/\aD n n W W/\((1:U)=1/\c=c/\ak c f f)/\((2:U)=2/\base.length=base.length/\ak base.length (iL base W) (iL base W))/\(aD a a W W/\aD b b W W/\aD m m W W/\Q)/\(aD x x W W/\aD y y W W/\i=i/\Q)/\aD o o W W/\Q) :=
 ⟨rfl,cB,⟨rfl,rfl,AG⟩,⟨rfl,rfl,AG⟩,⟨cB,cB,cB,⟨⟩⟩,⟨cB,cB,rfl,⟨⟩⟩,cB,⟨⟩⟩
def agv(k n a b m x y o:Z)(i:N)(c:U)(f:U->MV)(base q:P Z)(z:q.length<=90)(h:∀p∈q,2<=p)(_hb:base.length<=100000) :
  ∃E:Env AA,aI E CZ [qU k n a b m x y o i c f base 200,.sl 2 q.length (iL q 200)] (AF (fM (uW n base (dT a b m x y o i) q) (.ret (.tup [])))):=by
 refine⟨aK [An,vZ,jC,kW,zZ,kJ,eZ,dM,mC,Rd,vY,mS] (Sq n base q 200 (yU n base q)),?_⟩;rw[<-ahG k n a b m x y o i c f base q 200 (yU n base q) (uW n base (dT a b m x y o i) q) _ rfl _ rfl _ rfl _ rfl];have r:max 200 64+1=201:=rfl;rw[eJ,r];refine⟨by omega,?_⟩;generalize d:uW n base (dT a b m x y o i) q=T;unfold uW at d;cases u:jS n 2 with
 |false=>rw[u]at d;exact rM d.symm
 |true =>
 cases H:dT a b m x y o i with
 |false=>rw[u,H]at d;exact rM d.symm
 |true =>
 rw[u,H]at d;obtain⟨n2,n1⟩:=rL.1 u;rw[Z6,Z6];refine⟨by omega,⟨by omega,by omega,z,λj _=>k9 q (by omega) j,h⟩,?_⟩;cases G:cA (n-1) q with
 |none=>rw[G]at d;exact rM d.symm
 |some F =>
 rw[G]at d;have d:(V (n<F*F)&&(V (base.length=q.length)&&yU n base q))=T:=d;rw[BF,Z6,A6];refine⟨by omega,by omega,aJ (decide_eq_true_iff.trans k8) (λq1=>?_) (λq1=>rM (by rw[<-d,Y1 q1];rfl))⟩;refine aJ beq_iff_eq (λK=>?_) (λK=>rM (by rw[<-d,Y0 q1,Y1 (show ¬base.length=q.length by omega)];rfl));have C:base.length=q.length:=by omega
 rw[Y0 q1,Y0 C,AB,AB]at d;rw[<-d];clear d;refine⟨⟨⟨0⟩,⟨Z9 _,rfl⟩,⟨⟨rfl,rfl,AG⟩,rfl,rfl,⟨rfl,rfl,AG⟩,rfl,rfl,⟨⟩⟩,mQ,cB,⟨⟩⟩,λj J=>?_⟩;obtain⟨j⟩:=j;obtain⟨L,g⟩:=J;dsimp only at L g⊢;rw[Z8];refine aJ Z4 (λI=>?_) (λI=>?_)
 .have l:j<base.length:=by omega
  rw[uF l,uF (show j<q.length by omega),NO]at g;have hp:=h _ (gS (show j<q.length by omega));generalize base.getD j 0=B at *;generalize q.getD j 0=p at *;have D:0<=(n-1)/p:=Int.ediv_nonneg (by omega) (by omega);rw[RW (a:=B) D,RW (e:=p)];have M:O FV ((j:Z)+1)=((j+1:U):Z):=by rw[aV (by omega) (by omega)];omega
  refine⟨by omega,by omega,aJ (decide_eq_true_iff.trans k8) (λt=>?_) (λt=>rM (by rw[<-g,Y1 t];rfl))⟩;refine⟨by omega,aJ (decide_eq_true_iff.trans uO) (λw=>?_) (λw=>rM (by rw[<-g,Y0 t,Y1 w];rfl))⟩;rw[Y0 t,Y0 w,AB,AB]at g;refine⟨by omega,by omega,⟨by omega,by omega,by omega,D⟩,v! (Y0 (by omega)) ⟨by omega,by omega,aJ Z4 (λs=>?_) (λs=>rM (by rw[<-g,Y1 s];rfl))⟩⟩;refine⟨by omega,by omega,v! (Y0 (by omega)) ⟨by omega,aJ Z4 (λv=>?_) (λv=>rM (by rw[<-g,Y0 s,Y1 v];rfl))⟩⟩;rw[Y0 s,Y0 v,AB,AB]at g;exact⟨⟨j+1⟩,⟨l,g⟩,⟨⟨⟨rfl,rfl,AG⟩,rfl,rfl,⟨rfl,rfl,AG⟩,rfl,M,⟨⟩⟩,mQ,cB,⟨⟩⟩,by show base.length-(j+1)<base.length-j;omega⟩
 .have A:j=base.length:=by omega
  subst A;rw[AX]at g;exact LF g.symm
def D?:aG
 |[.st [.int .i64 _,.aa n c,.sl 1 _ _,.sl 2 d g,.st [.aa a q,.aa b p,.aa m l],.st [.aa x k,.aa y j,.bool i],.aa o f],.sl 2 e h] =>
  FR (FR (gy q p l k j f c d e g h),fM (uW n (aH d g) (dT a b m x y o i) (aH e h)) (.ret (.tup [])))
 |_=>Do
def ai8:∀l p r,D? l=FR (p,r)->p.holds->fR l->∃bf,lB.di 0 l bf/\∃E:Env AA,aI E CZ bf r.sat:=by
 intro l p r j A hf;unfold D? at j;split at j
 .rename_i k n q c f d g a z b w m v x u y t i o s e h;simp only[Z1,Z2]at j;obtain⟨rfl,rfl⟩:=j;have K:gy z w v u t s q d e g h:=A;exact⟨[qU k n a b m x y o i c f (aH d g) 200,.sl 2 (aH e h).length (iL (aH e h) 200)],⟨tC K.h1 K.h2 K.h3 K.h4 K.h5 K.h6 K.h7 K.hg,o4 K.hh,⟨⟩⟩,agv k n a b m x y o i c f _ _ (by rw[bB];exact K.he) K.h0 (by rw[bB];exact K.hd)⟩
 .simp at j
def aiv:ah AA:=⟨136,D?,λargs w=>Tryz.call136 args w,gR bQ Tryz.func136 D? ai8⟩
def pK(A B M z b a:Z)(c:N):RS:=FN (⟨bH A B M z b a c,rfl⟩:∃r,r=bH A B M z b a c)
def wW(A B M z b a:Z)(c:N):pK A B M z b a c=bH A B M z b a c:=FM (⟨bH A B M z b a c,rfl⟩:∃r,r=bH A B M z b a c)
def IT:aG
 |[.st [.aa A i,.aa B j,.aa M k],.aa z t,.st [.aa b n,.aa a m,.bool c]] =>
  FR (FR (t<=100000/\i<=200/\j<=200/\k<=200/\n<=200/\m<=200),.ret (KL (pK A B M z b a c)))
 |_=>Do
def adU:∀a p r,IT a=FR (p,r)->p.holds->∃p' r',uz a=FR (p',r')/\p'.holds/\∀b w e,r'.holds b w e->r.holds b w e:=by
 intro a p r h c;unfold IT at h;split at h
 .rename_i A i B j M k z t apB n apC m apz;simp only[Z1,Z2]at h;obtain⟨rfl,rfl⟩:=h;refine⟨_,_,rfl,c,λb w e h=>?_⟩;rw[wW];exact h
 .simp at h
def OB:ah AA:=adt.weaken IT adU
structure nz (n a b:Int) (q:List Int) (R:Bool) (s:cl):Prop where
 hi:s.i<=q.length
 hr:xP n a b (q.drop s.i)=R
structure yi (n:Int) (base:List Int) (s:cl):Prop where
 hi:s.i<=base.length
 hr:∀j,j<s.i->0<=base.getD j 0/\base.getD j 0<n
def Sr(n A B:Z)(base q:P Z)(W:U)(R:N):U->MS->G bt
 |7,e=>FR (.inv cl (yi n base) (λs=>⟨112, [(1,.sl 2 q.length (iL q W)),(2,.bp 0 0),(4,.bp 1 0),(43,.sl 2 base.length (iL base W)),(44,.int .i64 base.length),(45,.int .i64 s.i)],
   e.bx.take 3,0⟩) (λs=>base.length-s.i))
 |15,e=>FR (.inv cl (nz n A B q R) (λs=>⟨112, [(1,.sl 2 q.length (iL q W)),(2,.bp 0 0),(4,.bp 1 0),(8,.bp 3 0),(9,.bp 4 0),(89,.sl 2 q.length (iL q W)),(90,.int .i64 q.length),(91,.int .i64 s.i)],
   e.bx.take 5,0⟩) (λs=>q.length-s.i))
 |_,_=>Do
def agR(k n a b m x y o:Z)(i:N)(c:U)(f:U->MV)(base q:P Z)(W:U)(A B:Z)(R T:N)(l:_)(F:l=(H base:Z))(t:_)(E:t=(K base (I 0) 0))(s:_)(D:s=(K base (I 1) 0))(e:_)(C:e=(iL base W))(d:_)(z:d=(iL q W))(p:_)(w:p=(max W 64+1))(h:_)(v:h=(H q))(g:_)(G:g=(AP (cA (n+1) (aH h d)) 0-1))(r:_)(u:r=(H q:Z)):(W<=1000000/\bif jS n 2 then bif dT a b m x y o i then (W<=1000000/\64<=1000000)/\(max W 64+1<=300/\1<=n+1/\H q<=90/\(∀(i:U),i<H q->dq 201 (iL q W i))/\∀(kz:Z),kz∈aH h d ->2<=kz)/\bif AT (cA (n+1) (aH h d))then (30000<=1000000/\64<=1000000)/\(max 30000 64+1<=1000000/\max 30000 64+1<=1000000)/\(max 30000 64+1+(max 30000 64+1)<=1000000/\W<=1000000)/\bif V (aY (g * g) n>0)then bif l ==2 then (∃ae,yi n base ae/\((2=2/\H q=H q/\ak h d d)/\0=0/\0=0/\(2=2/\H base=H base/\ak (H base) e e)/\l = l/\0=(ae.1:Z)/\Q)/\(k=k/\aD n n W W/\(1=1/\c=c/\ak c f f)/\(2=2/\H base=H base/\ak (H base) e e)/\(aD a a W W/\aD b b W W/\aD m m W W/\Q)/\(aD x x W W/\aD y y W W/\i=i/\Q)/\aD o o W W/\Q)/\aD (n+1) (n+1) p p/\aD g g (max 30000 64+1) (max 30000 64+1)/\Q)/\∀(ae:cl),yi n base ae->bif V ((ae.1:Z)< l)then (0<=(ae.1:Z)/\(ae.1:Z)< l)/\bif V (dK (K base (I (ae.1:Z)) 0)≥0)then (W<=1000000/\W<=1000000)/\bif V (aY (K base (I (ae.1:Z)) 0) n<0)then ∃j,yi n base j/\(((2=2/\H q=H q/\ak h d d)/\0=0/\0=0/\(2=2/\H base=H base/\ak (H base) e e)/\l = l/\O FV ((ae.1:Z)+1)=(j.1:Z)/\Q)/\(k=k/\aD n n W W/\(1=1/\c=c/\ak c f f)/\(2=2/\H base=H base/\ak (H base) e e)/\(aD a a W W/\aD b b W W/\aD m m W W/\Q)/\(aD x x W W/\aD y y W W/\i=i/\Q)/\aD o o W W/\Q)/\aD (n+1) (n+1) p p/\aD g g (max 30000 64+1) (max 30000 64+1)/\Q)/\H base-j.1<H base-ae.1 else bif T then J else Q else bif T then J else Q else ((0:Z)<=0/\0< l)/\((0:Z)<=1/\1< l)/\(W<=1000000/\W<=1000000)/\fX 4/\(64<=1000000/\W<=1000000)/\(W+W<=1000000/\64+W<=1000000)/\(max (W+W) (64+W)+1<=200000/\W<=200000)/\bif gM (K base (I 0) 0*K base (I 0) 0-4*K base (I 1) 0) n==(-1)then (W<=100000/\W<=100000/\max W 64+1<=100000/\W<=100000/\(n=0->J))/\bif V (qQ t s (S (n+1)) n=0)then (∃al,nz n A B q R al/\((2=2/\H q=H q/\ak h d d)/\0=0/\0=0/\0=0/\0=0/\(2=2/\H q=H q/\ak h d d)/\r = r/\0=(al.1:Z)/\Q)/\(k=k/\aD n n W W/\(1=1/\c=c/\ak c f f)/\(2=2/\H base=H base/\ak (H base) e e)/\(aD a a W W/\aD b b W W/\aD m m W W/\Q)/\(aD x x W W/\aD y y W W/\i=i/\Q)/\aD o o W W/\Q)/\aD (n+1) (n+1) p p/\aD g g (max 30000 64+1) (max 30000 64+1)/\aD t t W W/\aD s s W W/\Q)/\∀(al:cl),nz n A B q R al->bif V ((al.1:Z)< r)then (0<=(al.1:Z)/\(al.1:Z)< r)/\(max W 64+1<=900000/\W<=900000/\(K q (I (al.1:Z)) 0=0->J))/\(W<=100000/\W<=100000/\max W 64+1<=100000/\W<=100000/\(n=0->J))/\(W+64<=900000/\W<=900000)/\bif V (gcd (qQ t s (S ((n+1)/K q (I (al.1:Z)) 0)) n) n=1)then ∃j,nz n A B q R j/\(((2=2/\H q=H q/\ak h d d)/\0=0/\0=0/\0=0/\0=0/\(2=2/\H q=H q/\ak h d d)/\r = r/\O FV ((al.1:Z)+1)=(j.1:Z)/\Q)/\(k=k/\aD n n W W/\(1=1/\c=c/\ak c f f)/\(2=2/\H base=H base/\ak (H base) e e)/\(aD a a W W/\aD b b W W/\aD m m W W/\Q)/\(aD x x W W/\aD y y W W/\i=i/\Q)/\aD o o W W/\Q)/\aD (n+1) (n+1) p p/\aD g g (max 30000 64+1) (max 30000 64+1)/\aD t t W W/\aD s s W W/\Q)/\H q-j.1<H q-al.1 else bif T then J else Q else bif T then Q else J else bif T then J else Q else bif T then J else Q else bif T then J else Q else bif T then J else Q else bif T then J else Q else bif T then J else Q else bif T then J else Q)=aI (aK [An,vZ,jC,jP,zZ,kW,kJ,eZ,dM,dJ,iK,Sf,Rc,mT,mC,vY] (Sr n A B base q W R)) CY [qU k n a b m x y o i c f base W,.sl 2 q.length (iL q W)] (AF (fM T (.ret (.tup [])))):=by subst F E D C z w v G u;kernel_rfl
def ahF(k n a b m x y o:Z)(i:N)(c:U)(f:U->MV)(base q:P Z)(W:U)(T:N)(d:_)(j:d=(pK a b m (o/K q (I 0) 0) x y i))(g:_)(h:g=(pK a b m (K q (I 0) 0) (RS.X d) (RS.Y d) (RS.o d))):(bif (H q:Z)==1 then bif (H base:Z)==0 then fX 3/\(W<=1000000/\64<=1000000)/\bif V (aY n 3>0)then fX 6/\(W<=900000/\64<=900000)/\bif V (gcd n 6=1)then ((0:Z)<=0/\0<(H q:Z))/\(W<=100000/\W<=100000)/\bif gh (K q (I 0) 0) n then (W<=1000000/\W<=1000000)/\(W<=1000000/\W+W<=1000000)/\(W<=1000000/\W<=1000000)/\(W<=1000000/\W<=1000000)/\bif V (m=n)then fX 4/\(64<=1000000/\W+(W+W)<=1000000)/\fX 27/\(64<=1000000/\W+W<=1000000)/\(64+(W+(W+W))<=1000000/\64+(W+W)<=1000000)/\(max (64+(W+(W+W))) (64+(W+W))+1<=900000/\W<=900000)/\bif V (gcd (4*(a*(a*a))+27*(b*b)) n=1)then (W<=1000/\W<=1000/\W<=1000/\W<=1000/\W<=1000)/\bif nR a b m x y i then bif !i then bif V (dK o>0)then ((0:Z)<=0/\0<(H q:Z))/\(W<=900000/\W<=900000/\(K q (I 0) 0=0->J))/\bif V (o%K q (I 0) 0=0)then (W<=100000/\W<=200/\W<=200/\W<=200/\W<=200/\W<=200)/\bif RS.e d ==0 then bif !RS.o d then ((0:Z)<=0/\0<(H q:Z))/\(W<=100000/\W<=200/\W<=200/\W<=200/\200<=200/\200<=200)/\bif RS.e g ==0 then bif RS.o g then bif T then Q else J else bif T then J else Q else bif T then J else Q else bif T then J else Q else bif T then J else Q else bif T then J else Q else bif T then J else Q else bif T then J else Q else bif T then J else Q else bif T then J else Q else bif T then J else Q else bif T then J else Q else bif T then J else Q else bif T then J else Q else bif T then J else Q else bif T then J else Q)=aI (aK [eZ,iK,vY,dM,SU,kJ,mS,jP,Ge,dJ,mC,mT,OB] aC) CX [qU k n a b m x y o i c f base W,.sl 2 q.length (iL q W)] (AF (fM T (.ret (.tup [])))):=by subst j h;kernel_rfl
def OX{l:P Z}(h:l.length=2:=by omega):∃A B,l=[A,B]:=by
 match l,h with
 |[A,B],_=>exact⟨A,B,rfl⟩
def TV{b:N}{P:Prop}(h:b=FW->P)(hn:¬P):b=FU:=by
 simp_all
def Oe(n a b q:Z)(c:P Z):xP n a b (q::c)=(V (gcd (qQ a b ((n+1)/q).natAbs n) n=1)&&xP n a b c):=rfl
def agw(k n a b m x y o:Z)(i:Bool)(c:F2)(f:F2->MV)(base q:F1 Z)(M:q.length<=90)(w:∀p∈q,2<=p)(_hb:base.length<=100000) :
  ∃E:Env AA,aI E CY [qU k n a b m x y o i c f base 200,.sl 2 q.length (iL q 200)] (AF (fM (vA n base (dT a b m x y o i) q) (.ret (.tup [])))):=by
 refine⟨aK [An,vZ,jC,jP,zZ,kW,kJ,eZ,dM,dJ,iK,Sf,Rc,mT,mC,vY] (Sr n (base.getD 0 0) (base.getD 1 0) base q 200 (xP n (base.getD 0 0) (base.getD 1 0) q)),?_⟩;rw[<-agR k n a b m x y o i c f base q 200 (base.getD 0 0) (base.getD 1 0) (xP n (base.getD 0 0) (base.getD 1 0) q) (vA n base (dT a b m x y o i) q) _ rfl _ rfl _ rfl _ rfl _ rfl _ rfl _ rfl _ rfl _ rfl];have z:max 200 64+1=201:=rfl;have U:max 30000 64+1=30001:=rfl;rw[eJ,z,U];refine⟨by omega,?_⟩;generalize d:vA n base (dT a b m x y o i) q=T;unfold vA at d;cases D:jS n 2 with
 |false=>rw[D]at d;exact rM d.symm
 |true =>
 cases O:dT a b m x y o i with
 |false=>rw[D,O]at d;exact rM d.symm
 |true =>
 rw[D,O]at d;obtain⟨n2,n1⟩:=rL.1 D;rw[Z6,Z6];refine⟨by omega,⟨by omega,by omega,M,λj _=>k9 q (by omega) j,w⟩,?_⟩;cases N:cA (n+1) q with
 |none=>rw[N]at d;exact rM d.symm
 |some F =>
 rw[N]at d;have d:(V (n<(F-1)*(F-1))&&s? n q base)=T:=d;rw[BF,Z6,A6];refine⟨by omega,by omega,by omega,aJ (decide_eq_true_iff.trans k8) (λq1=>?_) (λq1=>rM (by rw[<-d,Y1 q1];rfl))⟩;rw[Y0 q1,AB]at d;refine aJ beq_iff_eq (λC=>?_) (λC=>rM ?_)
 rotate_left
 .rw[<-d]
  match base,C with
  |[],_=>rfl
  |[_],_=>rfl
  |[_,_],C=>exact W rfl C
  |_::_::_::_,_=>rfl
 obtain⟨A,B,rfl⟩:=OX (l:=base);have d:((V (0<=A)&&V (A<n))&&((V (0<=B)&&V (B<n))&&(V (gM (A*A-4*B) n= -1)&&(V (qQ A B (n+1).natAbs n=0)&&xP n A B q))))=T:=d;have Q:[A,B].getD 0 0=A:=rfl;have P:[A,B].getD 1 0=B:=rfl;have t:T=FW->∀j,j<2->0<=[A,B].getD j 0/\[A,B].getD j 0<n:=by
  grind
 have hlen:([A,B]:F1 Z).length=2:=rfl;refine⟨⟨⟨0⟩,⟨Z9 _,λj v=>W v (CE j)⟩,⟨⟨rfl,rfl,AG⟩,rfl,rfl,⟨rfl,rfl,AG⟩,rfl,rfl,⟨⟩⟩,mQ,cB,cB,⟨⟩⟩,λj J=>?_⟩;obtain⟨j⟩:=j;obtain⟨v,g⟩:=J;dsimp only at v g⊢;rw[Z8];refine aJ Z4 (λK=>?_) (λK=>?_)
 .have e:j<2:=by omega
  have L:FX FV ((j:Z)+1)=((j+1:F2):Z):=by rw[aV (by omega) (by omega)];omega
  refine⟨by omega,aJ (decide_eq_true_iff.trans Tm) (λr=>?_) (λr=>rM (TV (λh=>(t h j e).1) r))⟩;refine⟨by omega,aJ (decide_eq_true_iff.trans zy) (λu=>?_) (λu=>rM (TV (λh=>(t h j e).2) u))⟩;refine⟨⟨j+1⟩,⟨e,λk hk=>?_⟩,⟨⟨⟨rfl,rfl,AG⟩,rfl,rfl,⟨rfl,rfl,AG⟩,rfl,L,⟨⟩⟩,mQ,cB,cB,⟨⟩⟩,by show 2-(j+1)<2-j;omega⟩
  grind
 .have s:j=2:=by omega
  subst s;have I:=g 0 (by omega);have H:=g 1 (by omega);rw[Q]at I;rw[P]at H;rw[Y0 I.1,Y0 I.2,Y0 H.1,Y0 H.2]at d;simp only[AB]at d;have S:[A,B].getD (F7 0) 0=A:=rfl;have R:[A,B].getD (F7 1) 0=B:=rfl;rw[S,R,Q,P];refine⟨by omega,by omega,by omega,by omega,by omega,by omega,by omega,aJ beq_iff_eq (λr=>?_) (λr=>rM (by rw[<-d,Y1 r];rfl))⟩;refine⟨by omega,aJ Z4 (λu=>?_) (λu=>rM (by rw[<-d,Y0 r,Y1 u];rfl))⟩;rw[Y0 r,Y0 u,AB,AB]at d;rw[<-d];clear d t;refine⟨⟨⟨0⟩,⟨Z9 _,rfl⟩,⟨⟨rfl,rfl,AG⟩,rfl,rfl,rfl,rfl,⟨rfl,rfl,AG⟩,rfl,rfl,⟨⟩⟩,mQ,cB,cB,cB,cB,⟨⟩⟩,λj J=>?_⟩;obtain⟨j⟩:=j;obtain⟨v,g⟩:=J;dsimp only at v g⊢;rw[Z8];refine aJ Z4 (λK=>?_) (λK=>?_)
  .have e:j<q.length:=by omega
   rw[uF e,Oe]at g;have hp:=w _ (gS e);generalize q.getD j 0=p at *;have L:FX FV ((j:Z)+1)=((j+1:F2):Z):=by rw[aV (by omega) (by omega)];omega
   refine⟨by omega,by omega,by omega,by omega,aJ Z4 (λG=>?_) (λG=>rM (by rw[<-g,Y1 G];rfl))⟩;rw[Y0 G,AB]at g;exact⟨⟨j+1⟩,⟨e,g⟩,⟨⟨⟨rfl,rfl,AG⟩,rfl,rfl,rfl,rfl,⟨rfl,rfl,AG⟩,rfl,L,⟨⟩⟩,mQ,cB,cB,cB,cB,⟨⟩⟩,by show q.length-(j+1)<q.length-j;omega⟩
  .have s:j=q.length:=by omega
   subst s;rw[AX]at g;exact LF g.symm
def D!:aG
 |[.st [.int .i64 _,.aa n c,.sl 1 _ _,.sl 2 d g,.st [.aa a q,.aa b p,.aa m l],.st [.aa x k,.aa y j,.bool i],.aa o f],.sl 2 e h] =>
  FR (FR (gy q p l k j f c d e g h),fM (vA n (aH d g) (dT a b m x y o i) (aH e h)) (.ret (.tup [])))
 |_=>Do
def ai9:∀l p r,D! l=FR (p,r)->p.holds->fR l->∃bf,lB.di 0 l bf/\∃E:Env AA,aI E CY bf r.sat:=by
 intro l p r j A hf;unfold D! at j;split at j
 .rename_i k n q c f d g a z b w m v x u y t i o s e h;simp only[Z1,Z2]at j;obtain⟨rfl,rfl⟩:=j;have K:gy z w v u t s q d e g h:=A;exact⟨[qU k n a b m x y o i c f (aH d g) 200,.sl 2 (aH e h).length (iL (aH e h) 200)],⟨tC K.h1 K.h2 K.h3 K.h4 K.h5 K.h6 K.h7 K.hg,o4 K.hh,⟨⟩⟩,agw k n a b m x y o i c f _ _ (by rw[bB];exact K.he) K.h0 (by rw[bB];exact K.hd)⟩
 .simp at j
def aiw:ah AA:=⟨137,D!,λargs w=>Tryz.call137 args w,gR bQ Tryz.func137 D! ai9⟩
def Rs{a:Z}:dK a>0↔0<a:=by unfold dK;split<;>(try split)<;>omega
def agu(k n a b m x y o:Z)(i:N)(c:U)(f:U->MV)(base q:P Z)(g:∀p∈q,2<=p) :
  ∃E:Env AA,aI E CX [qU k n a b m x y o i c f base 200,.sl 2 q.length (iL q 200)] (AF (fM (yF n base.length a b m x y o i q) (.ret (.tup [])))):=by
 refine⟨aK [eZ,iK,vY,dM,SU,kJ,mS,jP,Ge,dJ,mC,mT,OB] aC,?_⟩;rw[<-ahF k n a b m x y o i c f base q 200 (yF n base.length a b m x y o i q) _ rfl _ rfl];rw[wW,wW];generalize d:yF n base.length a b m x y o i q=T;refine aJ beq_iff_eq (λq1=>?_) (λq1=>rM ?_)
 rotate_left
 .rw[<-d]
  match q,q1 with
  |[],_=>rfl
  |[_],q1=>exact W rfl q1
  |_::_::_,_=>rfl
 obtain⟨p,rfl⟩:∃p,q=[p]:=by
  match q,q1 with
  |[p],_=>exact⟨p,rfl⟩
  |[],h=>exact W h (by decide)
  |_::_::r,h=>exact W h (by simp;omega)
 have l:[p].getD (I 0) 0=p:=rfl;rw[l];have hp:=g p (List.mem_singleton.2 rfl);have hl:(([p]:P Z).length:Z)=1:=rfl;have d:(V (base.length=0)&&(V (3<n)&&(V (gcd n 6=1)&&(gh p n&&(V (m=n)&&(V (gcd (4*(a*(a*a))+27*(b*b)) n=1) &&
   (nR a b m x y i&&(!i&&(V (0<o)&&(V (o%p=0) &&
    ((V ((bH a b m (o/p) x y i).e=0)&&!(bH a b m (o/p) x y i).o) &&
    (V ((bH a b m p (bH a b m (o/p) x y i).X (bH a b m (o/p) x y i).Y (bH a b m (o/p) x y i).o).e=0) &&
     (bH a b m p (bH a b m (o/p) x y i).X (bH a b m (o/p) x y i).Y (bH a b m (o/p) x y i).o).o))))))))))))=T:=d
 generalize bH a b m (o/p) x y i=P1 at *;generalize bH a b m p P1.X P1.Y P1.o=P2 at *;refine aJ beq_iff_eq (λj=>?_) (λj=>rM (by rw[<-d,Y1 (show ¬base.length=0 by omega)];rfl));rw[Y0 (show base.length=0 by omega),AB]at d;refine⟨by omega,by omega,aJ (decide_eq_true_iff.trans k8) (λz=>?_) (λz=>rM (by rw[<-d,Y1 z];rfl))⟩;rw[Y0 z,AB]at d;refine⟨by omega,by omega,aJ Z4 (λz=>?_) (λz=>rM (by rw[<-d,Y1 z];rfl))⟩;rw[Y0 z,AB]at d;refine⟨by omega,by omega,aJ BQ (λz=>?_) (λz=>rM (by rw[<-d,AK.2 z];rfl))⟩;rw[z,AB]at d;refine⟨by omega,by omega,by omega,by omega,aJ Z4 (λz=>?_) (λz=>rM (by rw[<-d,Y1 z];rfl))⟩;rw[Y0 z,AB]at d;refine⟨by omega,by omega,by omega,by omega,by omega,by omega,aJ Z4 (λz=>?_) (λz=>rM (by rw[<-d,Y1 z];rfl))⟩;rw[Y0 z,AB]at d;refine⟨by omega,aJ BQ (λz=>?_) (λz=>rM (by rw[<-d,AK.2 z];rfl))⟩;rw[z,AB]at d;refine aJ BQ (λz=>?_) (λz=>rM (by rw[<-d,AK.2 z];rfl));rw[z,AB]at d;refine aJ (decide_eq_true_iff.trans Rs) (λz=>?_) (λz=>rM (by rw[<-d,Y1 z];rfl));rw[Y0 z,AB]at d;refine⟨by omega,by omega,aJ Z4 (λz=>?_) (λz=>rM (by rw[<-d,Y1 z];rfl))⟩;rw[Y0 z,AB]at d;refine⟨by omega,aJ beq_iff_eq (λz=>?_) (λz=>rM (by rw[<-d,Y1 z];rfl))⟩;rw[Y0 z,AB]at d;refine aJ BQ (λz=>?_) (λz=>rM (by rw[<-d,AK.2 z];rfl));rw[z,AB]at d;refine⟨by omega,by omega,aJ beq_iff_eq (λz=>?_) (λz=>rM (by rw[<-d,Y1 z];rfl))⟩;rw[Y0 z,AB]at d;exact aJ BQ (λz=>LF (d.symm.trans z)) (λz=>rM (d.symm.trans (AK.2 z)))
def D':aG
 |[.st [.int .i64 _,.aa n c,.sl 1 _ _,.sl 2 d g,.st [.aa a q,.aa b p,.aa m l],.st [.aa x k,.aa y j,.bool i],.aa o f],.sl 2 e h] =>
  FR (FR (gy q p l k j f c d e g h),fM (yF n d a b m x y o i (aH e h)) (.ret (.tup [])))
 |_=>Do
def ai7:∀l p r,D' l=FR (p,r)->p.holds->fR l->∃bf,lB.di 0 l bf/\∃E:Env AA,aI E CX bf r.sat:=by
 intro l p r j A hf;unfold D' at j;split at j
 .rename_i k n q c f d g a z b w m v x u y t i o s e h;simp only[Z1,Z2]at j;obtain⟨rfl,rfl⟩:=j;have K:gy z w v u t s q d e g h:=A;have:=agu k n a b m x y o i c f (aH d g) (aH e h) K.h0;rw[bB d g]at this;exact⟨[qU k n a b m x y o i c f (aH d g) 200,.sl 2 (aH e h).length (iL (aH e h) 200)],⟨tC K.h1 K.h2 K.h3 K.h4 K.h5 K.h6 K.h7 K.hg,o4 K.hh,⟨⟩⟩,this⟩
 .simp at j
def aiu:ah AA:=⟨138,D',λargs w=>Tryz.call138 args w,gR bQ Tryz.func138 D' ai7⟩
def Qt(n:Z)(base q:P Z)(W:U)(R:N):U->MS->G bt
 |7,e=>FR (.inv cl (nv n base q R) (λs=>⟨96, [(1,.sl 2 q.length (iL q W)),(2,.bp 0 0),(5,.bp 1 0),(6,.bp 2 0),(9,.int .i64 s.i)],
   e.bx.take 3,0⟩) (λs=>base.length-s.i))
 |_,_=>Do
def acp(k n a b m x y o:Z)(i:N)(c:U)(f:U->MV)(base q:P Z)(W:U)(R T:N)(d:_)(e:d=(cA (n-1) (aH (H q) (iL q W)))):(fX 1/\(W<=1000000/\64<=1000000)/\(max W 64+1<=300/\1<=n-1/\H q<=90/\(∀(i:U),i<H q->dq 201 (iL q W i))/\∀(kz:Z),kz∈aH (H q) (iL q W)->2<=kz)/\W<=1000000/\bif !jS n 2 then FU=T else bif !Option.isSome d then FU=T else (30000<=1000000/\30000<=1000000)/\(30000+30000<=1000000/\W<=1000000)/\bif V (aY (AP d 0*AP d 0) n<=0)then FU=T else bif (H base:Z) != (H q:Z)then FU=T else (W<=1000/\W<=1000/\W<=1000/\W<=1000/\W<=1000/\W<=1000)/\bif !dT a b m x y o i then FU=T else (∃ae,nv n base q R ae/\((2=2/\H q=H q/\ak (H q) (iL q W) (iL q W))/\0=0/\0=0/\0=0/\0=(ae.1:Z)/\Q)/\(k=k/\aD n n W W/\(1=1/\c=c/\ak c f f)/\(2=2/\H base=H base/\ak (H base) (iL base W) (iL base W))/\(aD a a W W/\aD b b W W/\aD m m W W/\Q)/\(aD x x W W/\aD y y W W/\i=i/\Q)/\aD o o W W/\Q)/\aD 1 1 64 64/\aD (n-1) (n-1) (max W 64+1) (max W 64+1)/\Q)/\∀(ae:cl),nv n base q R ae->bif V ((ae.1:Z)<(H q:Z))then (0<=(ae.1:Z)/\(ae.1:Z)<(H base:Z))/\fX 2/\(W<=1000000/\64<=1000000/\max W 64+1<=1000000)/\bif !(V (2<=K base (I (ae.1:Z)) 0)&&V (K base (I (ae.1:Z)) 0<=n-1))then FU=T else (W<=10000/\max W 64+1<=10000/\W<=10000/\0<n)/\(W<=1000000/\64<=1000000)/\bif !decide (fY (K base (I (ae.1:Z)) 0) (S (n-1)) n=1)then FU=T else (0<=(ae.1:Z)/\(ae.1:Z)<(H q:Z))/\(max W 64+1<=900000/\W<=900000/\(K q (I (ae.1:Z)) 0=0->J))/\(W<=10000/\max W 64+1<=10000/\W<=10000/\0<n)/\(W<=1000000/\64<=1000000)/\(max W 64+1<=900000/\W<=900000)/\bif !decide (gcd (fY (K base (I (ae.1:Z)) 0) (S ((n-1)/K q (I (ae.1:Z)) 0)) n-1) n=1)then FU=T else ∃j,nv n base q R j/\(((2=2/\H q=H q/\ak (H q) (iL q W) (iL q W))/\0=0/\0=0/\0=0/\O FV ((ae.1:Z)+1)=(j.1:Z)/\Q)/\(k=k/\aD n n W W/\(1=1/\c=c/\ak c f f)/\(2=2/\H base=H base/\ak (H base) (iL base W) (iL base W))/\(aD a a W W/\aD b b W W/\aD m m W W/\Q)/\(aD x x W W/\aD y y W W/\i=i/\Q)/\aD o o W W/\Q)/\aD 1 1 64 64/\aD (n-1) (n-1) (max W 64+1) (max W 64+1)/\Q)/\H base-j.1<H base-ae.1 else FW=T)=aI (aK [cC,kY,Ao,Ap,e9,iQ,uC,B?,v5,fF,kX,v6] (Qt n base q W R)) C9 [qU k n a b m x y o i c f base W,.sl 2 q.length (iL q W)] (AF (.ret (.bool T))):=by subst e;kernel_rfl
def Qu(n A B:Z)(_base q:P Z)(W:U)(R:N):U->MS->G bt
 |15,e=>FR (.inv cl (nz n A B q R) (λs=>⟨129, [(1,.sl 2 q.length (iL q W)),(2,.bp 0 0),(5,.bp 1 0),(6,.bp 2 0),(11,.bp 6 0),(12,.bp 7 0),(13,.int .i64 s.i)],
   e.bx.take 8,0⟩) (λs=>q.length-s.i))
 |_,_=>Do
def acr(k n a b m x y o:Z)(i:N)(c:U)(f:U->MV)(base q:P Z)(W:U)(A B:Z)(R T:N)(l:_)(w:l=(cA (n+1) (aH (H q) (iL q W))))(h:_)(v:h=(K base (I 0) 0))(g:_)(u:g=(K base (I 1) 0))(e:_)(t:e=(AP l 0-1))(d:_)(s:d=(max W 64+1))(p:_)(r:p=(H base:Z)):(fX 1/\(W<=1000000/\64<=1000000)/\(max W 64+1<=300/\1<=n+1/\H q<=90/\(∀(i:U),i<H q->dq 201 (iL q W i))/\∀(kz:Z),kz∈aH (H q) (iL q W)->2<=kz)/\W<=1000000/\bif !jS n 2 then FU=T else bif !Option.isSome l then FU=T else bif p != 2 then FU=T else (W<=1000/\W<=1000/\W<=1000/\W<=1000/\W<=1000/\W<=1000)/\bif !dT a b m x y o i then FU=T else (30000<=1000000/\64<=1000000)/\(W<=1000000/\64<=1000000)/\(max 30000 64+1<=1000000/\max 30000 64+1<=1000000)/\(max 30000 64+1+(max 30000 64+1)<=1000000/\W<=1000000)/\bif V (aY (e * e) n<=0)then FU=T else ((0:Z)<=0/\0< p)/\(W<=1000000/\0<=1000000/\max W 64+1<=1000000)/\bif !(V (0<=K base (I 0) 0)&&V (K base (I 0) 0<=n-1))then FU=T else ((0:Z)<=1/\1< p)/\(W<=1000000/\0<=1000000/\max W 64+1<=1000000)/\bif !(V (0<=K base (I 1) 0)&&V (K base (I 1) 0<=n-1))then FU=T else ((0:Z)<=0/\0< p)/\((0:Z)<=1/\1< p)/\(W<=1000000/\W<=1000000)/\fX 4/\(64<=1000000/\W<=1000000)/\(W+W<=1000000/\64+W<=1000000)/\(max (W+W) (64+W)+1<=200000/\W<=200000)/\bif gM (K base (I 0) 0*K base (I 0) 0-4*K base (I 1) 0) n != (-1)then FU=T else (W<=100000/\W<=100000/\max W 64+1<=100000/\W<=100000/\(n=0->J))/\bif V ((H (aA (S (qQ h g (S (n+1)) n))):Z)>0)then FU=T else (∃ae,nz n A B q R ae/\((2=2/\H q=H q/\ak (H q) (iL q W) (iL q W))/\0=0/\0=0/\0=0/\0=0/\0=0/\0=(ae.1:Z)/\Q)/\(k=k/\aD n n W W/\(1=1/\c=c/\ak c f f)/\(2=2/\H base=H base/\ak (H base) (iL base W) (iL base W))/\(aD a a W W/\aD b b W W/\aD m m W W/\Q)/\(aD x x W W/\aD y y W W/\i=i/\Q)/\aD o o W W/\Q)/\aD 1 1 64 64/\aD (n+1) (n+1) d d/\aD (AP l 0) (AP l 0) 30000 30000/\aD e e (max 30000 64+1) (max 30000 64+1)/\aD (n-1) (n-1) d d/\aD h h W W/\aD g g W W/\Q)/\∀(ae:cl),nz n A B q R ae->bif V ((ae.1:Z)<(H q:Z))then (0<=(ae.1:Z)/\(ae.1:Z)<(H q:Z))/\(max W 64+1<=900000/\W<=900000/\(K q (I (ae.1:Z)) 0=0->J))/\(W<=100000/\W<=100000/\max W 64+1<=100000/\W<=100000/\(n=0->J))/\(W+64<=900000/\W<=900000)/\bif !decide (gcd (qQ h g (S ((n+1)/K q (I (ae.1:Z)) 0)) n) n=1)then FU=T else ∃j,nz n A B q R j/\(((2=2/\H q=H q/\ak (H q) (iL q W) (iL q W))/\0=0/\0=0/\0=0/\0=0/\0=0/\O FV ((ae.1:Z)+1)=(j.1:Z)/\Q)/\(k=k/\aD n n W W/\(1=1/\c=c/\ak c f f)/\(2=2/\H base=H base/\ak (H base) (iL base W) (iL base W))/\(aD a a W W/\aD b b W W/\aD m m W W/\Q)/\(aD x x W W/\aD y y W W/\i=i/\Q)/\aD o o W W/\Q)/\aD 1 1 64 64/\aD (n+1) (n+1) d d/\aD (AP l 0) (AP l 0) 30000 30000/\aD e e (max 30000 64+1) (max 30000 64+1)/\aD (n-1) (n-1) d d/\aD h h W W/\aD g g W W/\Q)/\H q-j.1<H q-ae.1 else FW=T)=aI (aK [cC,kY,fZ,Ao,Ap,e9,iQ,uC,B?,OD,Ri,kX,v6] (Qu n A B base q W R)) C8 [qU k n a b m x y o i c f base W,.sl 2 q.length (iL q W)] (AF (.ret (.bool T))):=by subst w v u t s r;kernel_rfl
def kB{b:N}{p A B:Prop}(h:b=FW↔p)(t:p->B)(f:¬p->A):bif !b then A else B:=by
 grind
def H6{n:Z}:∀ {l:P Z} {o F:Z},m7 n l o=FR F->∀q∈l,n%q=0
 |[],_,_,_,_,h=>W h List.not_mem_nil
 |p::r,o,F,a,q,h=>by
  unfold m7 at a;split at a
  .rename_i b;rcases DD.1 h with rfl|h
   .exact b
   .exact H6 a q h
  .cases a
def RA(a m:Z)(i j:U):fY (fY a i m) j m=fY a (i*j) m:=by
 grind [fY,agG,Int.pow_mul]
def abK{n p B:Z}(_hn:2<n)(_hp:2<=p)(h:(n-1)%p=0):fY (fY B ((n-1)/p).natAbs n) p.natAbs n=fY B (n-1).natAbs n:=by
 rw[RA];have e:p*((n-1)/p)=n-1:=by have:=A9 (n-1) p;omega
 rw[<-DF,DS,e]
def abP(k n a b m x y o:Z)(i:N)(c:U)(f:U->MV)(base q:P Z)(hn:2<=n)(w:q.length<=90)(g:∀p∈q,2<=p)(_hb:base.length<=100000) :
  ∃E:Env AA,aI E C9 [qU k n a b m x y o i c f base 200,.sl 2 q.length (iL q 200)] (AF (.ret (.bool (uW n base (dT a b m x y o i) q)))):=by
 refine⟨aK [cC,kY,Ao,Ap,e9,iQ,uC,B?,v5,fF,kX,v6] (Qt n base q 200 (yU n base q)),?_⟩;rw[<-acp k n a b m x y o i c f base q 200 (yU n base q) (uW n base (dT a b m x y o i) q) _ rfl];have l:max 200 64+1=201:=rfl;rw[eJ,l];refine⟨by omega,by omega,⟨by omega,by omega,w,λj _=>k9 q (by omega) j,g⟩,by omega,?_⟩;generalize d:uW n base (dT a b m x y o i) q=T;unfold uW at d;cases v:jS n 2 with
 |false=>rw[v]at d;exact d
 |true =>
 obtain⟨I,n1⟩:=rL.1 v;rw[v,AB]at d;rw[AO,Z5];cases u:cA (n-1) q with
 |none=>rw[u,A1]at d;exact d
 |some F =>
 rw[u]at d;have d:(dT a b m x y o i&&(V (n<F*F)&&(V (base.length=q.length)&&yU n base q)))=T:=d;rw[BF,AO,Z5,A6];refine⟨by omega,by omega,aJ (decide_eq_true_iff.trans uO) (λq1=>by rw[<-d,Y1 (show ¬n<F*F by omega),AH,A1]) (λq1=>?_)⟩;rw[Y0 (show n<F*F by omega),AB]at d;refine aJ bne_iff_ne (λH=>by rw[<-d,Y1 (show ¬base.length=q.length by omega),AH,A1]) (λH=>?_);have C:base.length=q.length:=by omega
 rw[Y0 C,AB]at d;refine⟨by omega,?_⟩;cases D:dT a b m x y o i with
 |false=>rw[D]at d;exact d
 |true =>
 rw[D,AB]at d;rw[AO,Z5,<-d];clear d;refine⟨⟨⟨0⟩,⟨Z9 _,rfl⟩,⟨⟨rfl,rfl,AG⟩,rfl,rfl,rfl,rfl,⟨⟩⟩,mQ,cB,cB,⟨⟩⟩,λj J=>?_⟩;obtain⟨j⟩:=j;obtain⟨L,e⟩:=J;dsimp only at L e⊢;rw[Z8];refine aJ Z4 (λG=>?_) (λG=>?_)
 .have h:j<base.length:=by omega
  rw[uF h,uF (show j<q.length by omega),NO]at e;have K:=g _ (gS (show j<q.length by omega));have A:=H6 u _ (gS (show j<q.length by omega));generalize base.getD j 0=B at *;generalize q.getD j 0=p at *;rw[abK I K A]at e;have M:O FV ((j:Z)+1)=((j+1:U):Z):=by rw[aV (by omega) (by omega)];omega
  refine⟨by omega,by omega,by omega,kB (p:=1<B/\B<=n-1) (by rw[Z3,Z4,Z4];omega) (λt=>?_) (λt=>?_)⟩
  .rw[Y0 t.1,Y0 t.2,AB,AB]at e;refine⟨by omega,by omega,kB Z4 (λs=>?_) (λs=>by rw[<-e,Y1 s,A1,AH])⟩;rw[Y0 s,Bool.and_true]at e;refine⟨by omega,by omega,by omega,by omega,by omega,kB Z4 (λr=>?_) (λr=>by rw[<-e,Y1 r,AH])⟩;rw[Y0 r,AB]at e;exact⟨⟨j+1⟩,⟨h,e⟩,⟨⟨⟨rfl,rfl,AG⟩,rfl,rfl,rfl,M,⟨⟩⟩,mQ,cB,cB,⟨⟩⟩,by show base.length-(j+1)<base.length-j;omega⟩
  grind
 .have z:j=base.length:=by omega
  subst z;rw[AX]at e;exact e
def Ar:aG
 |[.st [.int .i64 _,.aa n c,.sl 1 _ _,.sl 2 d g,.st [.aa a q,.aa b p,.aa m l],.st [.aa x k,.aa y j,.bool i],.aa o f],.sl 2 e h] =>
  FR (FR (gy q p l k j f c d e g h/\2<=n),.ret (.bool (uW n (aH d g) (dT a b m x y o i) (aH e h))))
 |_=>Do
def aeK:∀l p r,Ar l=FR (p,r)->p.holds->fR l->∃bf,lB.di 0 l bf/\∃E:Env AA,aI E C9 bf r.sat:=by
 intro l p r j q hf;unfold Ar at j;split at j
 .rename_i k n w7 c f d g a w1 b w2 m w3 x w4 y w5 i o w6 e h;simp only[Z1,Z2]at j;obtain⟨rfl,rfl⟩:=j;obtain⟨K,s⟩:=q;exact⟨[qU k n a b m x y o i c f (aH d g) 200,.sl 2 (aH e h).length (iL (aH e h) 200)],⟨tC K.h1 K.h2 K.h3 K.h4 K.h5 K.h6 K.h7 K.hg,o4 K.hh,⟨⟩⟩,abP k n a b m x y o i c f _ _ s (by rw[bB];exact K.he) K.h0 (by rw[bB];exact K.hd)⟩
 .simp at j
def adk:ah AA:=⟨65,Ar,λargs w=>Tryz.call65 args w,gR bQ Tryz.func65 Ar aeK⟩
def abQ(k n a b m x y o:Z)(i:Bool)(c:F2)(f:F2->MV)(base q:F1 Z)(hn:2<=n)(H:q.length<=90)(r:∀p∈q,2<=p)(_hb:base.length<=100000) :
  ∃E:Env AA,aI E C8 [qU k n a b m x y o i c f base 200,.sl 2 q.length (iL q 200)] (AF (.ret (.bool (vA n base (dT a b m x y o i) q)))):=by
 refine⟨aK [cC,kY,fZ,Ao,Ap,e9,iQ,uC,B?,OD,Ri,kX,v6] (Qu n (base.getD 0 0) (base.getD 1 0) base q 200 (xP n (base.getD 0 0) (base.getD 1 0) q)),?_⟩;rw[<-acr k n a b m x y o i c f base q 200 (base.getD 0 0) (base.getD 1 0) (xP n (base.getD 0 0) (base.getD 1 0) q) (vA n base (dT a b m x y o i) q) _ rfl _ rfl _ rfl _ rfl _ rfl _ rfl];have s:max 200 64+1=201:=rfl;have U:max 30000 64+1=30001:=rfl;rw[eJ,s,U];refine⟨by omega,by omega,⟨by omega,by omega,H,λj _=>k9 q (by omega) j,r⟩,by omega,?_⟩;generalize d:vA n base (dT a b m x y o i) q=T;unfold vA at d;cases G:jS n 2 with
 |false=>rw[G]at d;exact d
 |true =>
 obtain⟨n2,n1⟩:=rL.1 G;rw[G,AB]at d;rw[AO,Z5];cases K:cA (n+1) q with
 |none=>rw[K,A1]at d;exact d
 |some F =>
 rw[K]at d;have d:(dT a b m x y o i&&(V (n<(F-1)*(F-1))&&s? n q base))=T:=d;rw[BF,AO,Z5,A6];refine aJ bne_iff_ne (λv=>?_) (λv=>?_)
 .rw[<-d];have:s? n q base=FU:=by
   match base,v with
   |[],_=>rfl
   |[_],_=>rfl
   |[_,_],v=>exact W rfl v
   |_::_::_::_,_=>rfl
  simp_all
 obtain⟨A,B,rfl⟩:=OX (l:=base);refine⟨by omega,?_⟩;cases L:dT a b m x y o i with
 |false=>rw[L]at d;exact d
 |true =>
 rw[L,AB]at d;rw[AO,Z5];refine⟨by omega,by omega,by omega,by omega,aJ (decide_eq_true_iff.trans uO) (λq1=>by rw[<-d,Y1 (show ¬n<(F-1)*(F-1) by omega),AH]) (λq1=>?_)⟩;rw[Y0 (show n<(F-1)*(F-1) by omega),AB]at d;have d:((V (0<=A)&&V (A<n))&&((V (0<=B)&&V (B<n))&&(V (gM (A*A-4*B) n= -1)&&(V (qQ A B (n+1).natAbs n=0)&&xP n A B q))))=T:=d;have R:[A,B].getD 0 0=A:=rfl;have Q:[A,B].getD 1 0=B:=rfl;have N:[A,B].getD (F7 0) 0=A:=rfl;have M:[A,B].getD (F7 1) 0=B:=rfl;have hlen:([A,B]:F1 Z).length=2:=rfl;rw[N,M,R,Q];have out:∀ {C:Z},¬(0<=C/\C<n)->(V (0<=C)&&V (C<n))=FU:=λh=>by
  simp_all
 refine⟨by omega,by omega,kB (p:=0<=A/\A<n) (by rw[Z3,Z4,Z4];omega) (λu=>?_) (λu=>by rw[<-d,out u,AH])⟩;rw[Y0 u.1,Y0 u.2,AB,AB]at d;refine⟨by omega,by omega,kB (p:=0<=B/\B<n) (by rw[Z3,Z4,Z4];omega) (λt=>?_) (λt=>by rw[<-d,out t,AH])⟩;rw[Y0 t.1,Y0 t.2,AB,AB]at d;refine⟨by omega,by omega,by omega,by omega,by omega,by omega,by omega,aJ bne_iff_ne (λD=>by rw[<-d,Y1 D,AH]) (λD=>?_)⟩;rw[Y0 (B0.1 D),AB]at d;refine⟨by omega,aJ (decide_eq_true_iff.trans yR) (λz=>by rw[<-d,Y1 z,AH]) (λz=>?_)⟩;rw[Y0 (B0.1 z),AB]at d;rw[<-d];clear d;refine⟨⟨⟨0⟩,⟨Z9 _,rfl⟩,⟨⟨rfl,rfl,AG⟩,rfl,rfl,rfl,rfl,rfl,rfl,⟨⟩⟩,mQ,cB,cB,cB,cB,cB,cB,cB,⟨⟩⟩,λj J=>?_⟩;obtain⟨j⟩:=j;obtain⟨P,e⟩:=J;dsimp only at P e⊢;rw[Z8];refine aJ Z4 (λO=>?_) (λO=>?_)
 .have g:j<q.length:=by omega
  rw[uF g,Oe]at e;have hp:=r _ (gS g);generalize q.getD j 0=p at *;have S:FX FV ((j:Z)+1)=((j+1:F2):Z):=by rw[aV (by omega) (by omega)];omega
  refine⟨by omega,by omega,by omega,by omega,kB Z4 (λw=>?_) (λw=>by rw[<-e,Y1 w,AH])⟩;rw[Y0 w,AB]at e;exact⟨⟨j+1⟩,⟨g,e⟩,⟨⟨⟨rfl,rfl,AG⟩,rfl,rfl,rfl,rfl,rfl,S,⟨⟩⟩,mQ,cB,cB,cB,cB,cB,cB,cB,⟨⟩⟩,by show q.length-(j+1)<q.length-j;omega⟩
 .have I:j=q.length:=by omega
  subst I;rw[AX]at e;exact e
def Au:aG
 |[.st [.int .i64 _,.aa n c,.sl 1 _ _,.sl 2 d g,.st [.aa a q,.aa b p,.aa m l],.st [.aa x k,.aa y j,.bool i],.aa o f],.sl 2 e h] =>
  FR (FR (gy q p l k j f c d e g h/\2<=n),.ret (.bool (vA n (aH d g) (dT a b m x y o i) (aH e h))))
 |_=>Do
def aeM:∀l p r,Au l=FR (p,r)->p.holds->fR l->∃bf,lB.di 0 l bf/\∃E:Env AA,aI E C8 bf r.sat:=by
 intro l p r j q hf;unfold Au at j;split at j
 .rename_i k n w7 c f d g a w1 b w2 m w3 x w4 y w5 i o w6 e h;simp only[Z1,Z2]at j;obtain⟨rfl,rfl⟩:=j;obtain⟨K,s⟩:=q;exact⟨[qU k n a b m x y o i c f (aH d g) 200,.sl 2 (aH e h).length (iL (aH e h) 200)],⟨tC K.h1 K.h2 K.h3 K.h4 K.h5 K.h6 K.h7 K.hg,o4 K.hh,⟨⟩⟩,abQ k n a b m x y o i c f _ _ s (by rw[bB];exact K.he) K.h0 (by rw[bB];exact K.hd)⟩
 .simp at j
def aeo:ah AA:=⟨66,Au,λargs w=>Tryz.call66 args w,gR bQ Tryz.func66 Au aeM⟩
def Ir:aG
 |[.st [.aa A i,.aa B j,.aa M k],.aa z t,.st [.aa b n,.aa a m,.bool c]] =>
  FR (FR (t<=100000/\i<=200/\j<=200/\k<=200/\n<=200/\m<=200),.ret (xg (pK A B M z b a c)))
 |_=>Do
def aav:∀a p r,Ir a=FR (p,r)->p.holds->∃p' r',vM a=FR (p',r')/\p'.holds/\∀b w e,r'.holds b w e->r.holds b w e:=by
 intro a p r h c;unfold Ir at h;split at h
 .rename_i A i B j M k z t apB n apC m apz;simp only[Z1,Z2]at h;obtain⟨rfl,rfl⟩:=h;refine⟨_,_,rfl,c,λb w e h=>?_⟩;rw[wW];exact h
 .simp at h
def N!:ah AA:=aa0.weaken Ir aav
def acm(k n a b m x y o:Z)(i:N)(c:U)(f:U->MV)(base q:P Z)(W:U)(T:N)(d:_)(j:d=(pK a b m (o/K q (I 0) 0) x y i))(g:_)(h:g=(pK a b m (K q (I 0) 0) (RS.X d) (RS.Y d) (RS.o d))):(fX 3/\(W<=1000000/\64<=1000000)/\bif V (aY n 3<=0)then FU=T else fX 6/\(W<=900000/\64<=900000)/\bif !decide (gcd n 6=1)then FU=T else bif (H q:Z) != 1 then FU=T else bif V ((H base:Z)>0)then FU=T else ((0:Z)<=0/\0<(H q:Z))/\(W<=100000/\W<=100000)/\bif !gh (K q (I 0) 0) n then FU=T else (W<=1000000/\W<=1000000)/\bif !decide (m=n)then FU=T else (W<=1000/\W<=1000/\W<=1000)/\bif !cS a b m then FU=T else (W<=200/\W<=200/\W<=200)/\bif !qA a b m then FU=T else (W<=200/\W<=200/\W<=200/\W<=200/\W<=200)/\bif !nR a b m x y i then FU=T else bif i then FU=T else bif V (dK o<=0)then FU=T else ((0:Z)<=0/\0<(H q:Z))/\(W<=900000/\W<=900000/\(K q (I 0) 0=0->J))/\bif V ((H (aA (S (o%K q (I 0) 0))):Z)>0)then FU=T else ((0:Z)<=0/\0<(H q:Z))/\(W<=900000/\W<=900000/\(K q (I 0) 0=0->J))/\(W<=100000/\W<=200/\W<=200/\W<=200/\W<=200/\W<=200)/\bif RS.e d != 0 then FU=T else bif RS.o d then FU=T else ((0:Z)<=0/\0<(H q:Z))/\(W<=100000/\W<=200/\W<=200/\W<=200/\200<=200/\200<=200)/\bif RS.e g ==0 then RS.o g =T else FU=T)=aI (aK [iQ,cC,v6,Dr,fF,zs,Dl,Gf,eO,eC,kX,N!] aC) C7 [qU k n a b m x y o i c f base W,.sl 2 q.length (iL q W)] (AF (.ret (.bool T))):=by subst j h;kernel_rfl
theorem ZV{a b m x y:Z}{i:N}(h:nR a b m x y i=FW):cS a b m=FW:=by
 grind [cS,nR]
def abN(k n a b m x y o:Z)(i:N)(c:U)(f:U->MV)(base q:P Z)(l:∀p∈q,2<=p) :
  ∃E:Env AA,aI E C7 [qU k n a b m x y o i c f base 200,.sl 2 q.length (iL q 200)] (AF (.ret (.bool (yF n base.length a b m x y o i q)))):=by
 refine⟨aK [iQ,cC,v6,Dr,fF,zs,Dl,Gf,eO,eC,kX,N!] aC,?_⟩;rw[<-acm k n a b m x y o i c f base q 200 (yF n base.length a b m x y o i q) _ rfl _ rfl];rw[wW,wW];generalize d:yF n base.length a b m x y o i q=T;have g:q.length=1->yF n base.length a b m x y o i q=(V (base.length=0)&&(V (3<n)&&(V (gcd n 6=1)&&(gh (q.getD 0 0) n&&(V (m=n)&&(qA a b m &&
   (nR a b m x y i&&(!i&&(V (0<o)&&(V (o%q.getD 0 0=0) &&
    ((V ((bH a b m (o/q.getD 0 0) x y i).e=0)&&!(bH a b m (o/q.getD 0 0) x y i).o) &&
    (V ((bH a b m (q.getD 0 0) (bH a b m (o/q.getD 0 0) x y i).X (bH a b m (o/q.getD 0 0) x y i).Y (bH a b m (o/q.getD 0 0) x y i).o).e=0) &&
     (bH a b m (q.getD 0 0) (bH a b m (o/q.getD 0 0) x y i).X (bH a b m (o/q.getD 0 0) x y i).Y (bH a b m (o/q.getD 0 0) x y i).o).o)))))))))))):=λh=>by
  match q,h with
  |[p],_ =>
   show(V (base.length=0)&&(V (3<n)&&(V (gcd n 6=1)&&(gh p n&&(V (m=n)&&(V (gcd (4*(a*(a*a))+27*(b*b)) n=1)&&_))))))=_;by_cases t:m=n
   .subst t;rfl
   simp_all
 have j:q.length≠1->yF n base.length a b m x y o i q=FU:=λh=>by
  match q,h with
  |[],_=>rfl
  |[_],h=>exact W rfl h
  |_::_::_,_=>rfl
 have r:q.getD (I 0) 0=q.getD 0 0:=rfl;rw[r];by_cases s:q.length=1
 .rw[g s]at d;have hp:=l _ (gS (show 0<q.length by omega));generalize q.getD 0 0=p at *;clear g j r;generalize bH a b m (o/p) x y i=P1 at *;generalize bH a b m p P1.X P1.Y P1.o=P2 at *;refine⟨by omega,by omega,aJ (decide_eq_true_iff.trans uO) (λz=>by rw[<-d,Y1 (show ¬ 3<n by omega),AH,A1]) (λz=>?_)⟩;rw[Y0 (show 3<n by omega),AB]at d;refine⟨by omega,by omega,kB Z4 (λz=>?_) (λz=>by rw[<-d,Y1 z,AH,A1])⟩;rw[Y0 z,AB]at d;refine aJ bne_iff_ne (λz=>W (by omega) z) (λ_=>?_);refine aJ Z4 (λz=>by rw[<-d,Y1 (show ¬base.length=0 by omega),AH]) (λz=>?_);rw[Y0 (show base.length=0 by omega),AB]at d;refine⟨by omega,by omega,kB BQ (λz=>?_) (λz=>by rw[<-d,AK.2 z,AH])⟩;rw[z,AB]at d;refine⟨by omega,kB Z4 (λz=>?_) (λz=>by rw[<-d,Y1 z,AH])⟩;rw[Y0 z,AB]at d;refine⟨by omega,kB BQ (λaq3=>?_) (λz=>?_)⟩
  rotate_left
  .grind [nR,ZV]
  refine⟨by omega,kB BQ (λz=>?_) (λz=>by rw[<-d,AK.2 z,AH])⟩;rw[z,AB]at d;refine⟨by omega,kB BQ (λz=>?_) (λz=>by rw[<-d,AK.2 z,AH])⟩;rw[z,AB]at d;cases i with
  |true=>exact d
  |false =>
  rw[BK,AB]at d;rw[Z5];refine aJ (decide_eq_true_iff.trans (show dK o<=0↔¬ 0<o by have:=Rs (a:=o);omega)) (λz=>by rw[<-d,Y1 z,AH]) (λz=>?_)
  grind [yR,BK]
 .grind
def Bz:aG
 |[.st [.int .i64 _,.aa n c,.sl 1 _ _,.sl 2 d g,.st [.aa a q,.aa b p,.aa m l],.st [.aa x k,.aa y j,.bool i],.aa o f],.sl 2 e h] =>
  FR (FR (gy q p l k j f c d e g h),.ret (.bool (yF n d a b m x y o i (aH e h))))
 |_=>Do
def afh:∀l p r,Bz l=FR (p,r)->p.holds->fR l->∃bf,lB.di 0 l bf/\∃E:Env AA,aI E C7 bf r.sat:=by
 intro l p r j A hf;unfold Bz at j;split at j
 .rename_i k n q c f d g a z b w m v x u y t i o s e h;simp only[Z1,Z2]at j;obtain⟨rfl,rfl⟩:=j;have K:gy z w v u t s q d e g h:=A;have:=abN k n a b m x y o i c f (aH d g) (aH e h) K.h0;rw[bB d g]at this;exact⟨[qU k n a b m x y o i c f (aH d g) 200,.sl 2 (aH e h).length (iL (aH e h) 200)],⟨tC K.h1 K.h2 K.h3 K.h4 K.h5 K.h6 K.h7 K.hg,o4 K.hh,⟨⟩⟩,this⟩
 .simp at j
def adj:ah AA:=⟨67,Bz,λargs w=>Tryz.call67 args w,gR bQ Tryz.func67 Bz afh⟩
def ah.conv{P:Program}(c:ah P)(spec:aG)(h:∀a p r,spec a=FR (p,r)->p.holds->fR a->∃bf p',lB.di 0 a bf/\c.spec bf=FR (p',r)/\p'.holds):ah P :=
 ⟨c.f,spec,c.call,λS w a args p r d e g j b=>by
  obtain⟨bf,p',n,m,l⟩:=h a p r d e (cr.facts a _ b);have k:ft 0 (B9 S) (B9 S):=⟨λ_ h=>h,λ_ h=>h,λi hi=>by omega⟩;exact c.ok S w bf args p' r m l g j (pH k a bf _ n b)⟩
def eE(g:N)(l:P Z):Z:=if g then-(wv l)else wv l
structure dj (g:Bool) (l:List Int):Prop where
 wd:Wd l
 len:l.length<=6
 can:nD g l=true
def qS{g:N}{l:P Z}(h:dj g l):eI 0 (.st [.bool g,.ws l]) (.aa (eE g l) 200):=by
 obtain⟨d,c⟩:=Yt (s:=⟨0,g,l, [], [],0,0,0,0,0,FU,0⟩) h.wd h.can;refine⟨d,c,?_⟩;have b:=wQ h.wd;have a:(eE g l).natAbs=(wv l).natAbs:=by unfold eE;cases g<;>simp
 rw[a];exact Nat.lt_of_lt_of_le b (AN (by omega) (by have:=h.len;omega))
def PD:aG
 |[.aa a n,.st [.bool g,.ws l]]=>FR (FR (n<=1000/\dj g l),.ret (.bool (V (a=eE g l))))
 |_=>Do
def Pf:ah AA:=fF.conv PD λms p r h b hf=>by
 unfold PD at h;split at h
 .rename_i a n g l;simp only[Z1,Z2]at h;obtain⟨rfl,rfl⟩:=h;obtain⟨h1,c⟩:n<=1000/\dj g l:=b;exact⟨[.aa a n,.aa (eE g l) 200],_,⟨cB,qS c,⟨⟩⟩,rfl,by omega,by omega⟩
 .simp at h
structure az where
 k:Nat
 q:List Int
structure ny (apu parts:List Int) (R:Option (List Int)) (s:az):Prop where
 hk:s.k<=parts.length
 hr:cD apu (parts.drop s.k) s.q=R
 hq:s.q.length=s.k
structure ys (n:Nat) (f:Nat->MV) (N:Int) (s:cl):Prop where
 hi:s.i<=n
 hn:∀x,x<s.i->xT (f x)≠N
def NS(L:P ab)(i:U)(a parts:P Z)(R:G (P Z)):U->MS->G bt
 |3,_=>FR (.inv az (ny a parts R) (λs=>⟨61, [(0,.sl 18 L.length (aF L 200)),(1,.int .i64 i),(6,.bs 0 0 s.q.length),(7,.int .i64 s.k)], [⟨FU,.rows 2 s.q.length (iL s.q 200)⟩],0⟩) (λs=>parts.length-s.k))
 |9,e=>(match bD 8 e.tm,e.bx with
  |.int _ j, [⟨_,.rows _ n f⟩]=>FR (.inv cl (ys n f (L.getD j.toNat aB).n) (λs=>⟨61, [(0,.sl 18 L.length (aF L 200)),(1,.int .i64 i),(6,bD 6 e.tm),(7,bD 7 e.tm),(8,bD 8 e.tm),(9,.int .i64 s.i)],e.bx,0⟩) (λs=>n-s.i))
  |_,_=>Do)
 |_,_=>Do
def Kh(R:G (P Z)):cj:= .br R.isSome (.ret (.tup [.sl 2 (R.getD []).length (iL (R.getD []) 200),.bool FW])) (.ret (.tup [.val (.slice Do 0 0),.bool FU]))
def Yi(L:P ab)(i:U)(g parts:P Z)(R:G (P Z))(e:_)(o:e=λ(ae:az)=>(I (az.k ae:Z)))(a:_)(m:a=λ(ae:az)=>(az.q ae))(b:_)(l:b=(i:Z))(c:_)(p:c=(ab.parts (K L (I b) aB)))(d:_)(r:d=λ(ae:az)=>(K L (I (K c (e ae) 0)) aB))(f:_)(h:f=(AP R [])):((∃ae,ny g parts R ae/\((18=18/\H L=H L/\ak (H L) (aF L 200) (aF L 200))/\b = b/\(0=0/\0=H (a ae))/\0=(az.k ae:Z)/\Q)/\(0=H (a ae)/\ak 0 (aU []) (iL (a ae) 200))/\Q)/\∀(ae:az),ny g parts R ae->(0<= b/\b <(H L:Z))/\bif V ((az.k ae:Z)<(H c :Z))then (0<= b/\b <(H L:Z))/\(0<=(az.k ae:Z)/\(az.k ae:Z)<(H c :Z))/\bif V (K c (e ae) 0<0)then bif AT R then (AJ Do 0 0=AJ Do 0 0/\H f =0)/\FU=FW/\Q else AJ Do 0 0=AJ Do 0 0/\FU=FU/\Q else bif V (K c (e ae) 0≥ b)then bif AT R then (AJ Do 0 0=AJ Do 0 0/\H f =0)/\FU=FW/\Q else AJ Do 0 0=AJ Do 0 0/\FU=FU/\Q else (∃al,ys (H (a ae)) (iL (a ae) 200) (ab.n (d ae)) al/\((18=18/\H L=H L/\ak (H L) (aF L 200) (aF L 200))/\b = b/\(0=0/\H (a ae) =H (a ae))/\(az.k ae:Z)=(az.k ae:Z)/\K c (e ae) 0=K c (e ae) 0/\0=(al.1:Z)/\Q)/\(H (a ae) =H (a ae)/\ak (H (a ae)) (iL (a ae) 200) (iL (a ae) 200))/\Q)/\∀(al:cl),ys (H (a ae)) (iL (a ae) 200) (ab.n (d ae)) al->bif V ((al.1:Z)<(H (a ae) :Z))then (0<=(al.1:Z)/\(al.1:Z)<(H (a ae) :Z))/\I (al.1:Z)<H (a ae)/\(0<=K c (e ae) 0/\K c (e ae) 0<(H L:Z))/\(200<=1000/\dj (ab.neg (d ae)) (ab.ai (d ae)))/\bif V (K (a ae) (I (al.1:Z)) 0=eE (ab.neg (d ae)) (ab.ai (d ae)))then bif AT R then (AJ Do 0 0=AJ Do 0 0/\H f =0)/\FU=FW/\Q else AJ Do 0 0=AJ Do 0 0/\FU=FU/\Q else ∃j,ys (H (a ae)) (iL (a ae) 200) (ab.n (d ae)) j/\(((18=18/\H L=H L/\ak (H L) (aF L 200) (aF L 200))/\b = b/\(0=0/\H (a ae) =H (a ae))/\(az.k ae:Z)=(az.k ae:Z)/\K c (e ae) 0=K c (e ae) 0/\O FV ((al.1:Z)+1)=(j.1:Z)/\Q)/\(H (a ae) =H (a ae)/\ak (H (a ae)) (iL (a ae) 200) (iL (a ae) 200))/\Q)/\H (a ae)-j.1<H (a ae)-al.1 else (0<=K c (e ae) 0/\K c (e ae) 0<(H L:Z))/\(1<=1/\H (a ae) <=H (a ae)/\(H (a ae) +AV (bh.rows 2 1 (aU [MV.st [MV.bool (ab.neg (d ae)),MV.ws (ab.ai (d ae))]])))*32<=140737488355328)/\∃j,ny g parts R j/\(((18=18/\H L=H L/\ak (H L) (aF L 200) (aF L 200))/\b = b/\(0=0/\H (a ae) +AV (bh.rows 2 1 (aU [MV.st [MV.bool (ab.neg (d ae)),MV.ws (ab.ai (d ae))]]))=H (az.q j))/\O FV ((az.k ae:Z)+1)=(az.k j:Z)/\Q)/\(H (a ae) +1=H (az.q j)/\ak (H (a ae) +1) (λq=>bif B1 q (H (a ae))then iL (a ae) 200 q else aU [MV.st [MV.bool (ab.neg (d ae)),MV.ws (ab.ai (d ae))]] (q-H (a ae))) (iL (az.q j) 200))/\Q)/\H parts-az.k j<H parts-az.k ae else H (a ae) <=H (a ae)/\bif AT R then (2=2/\H (a ae) =H f/\ak (H (a ae)) (iL (a ae) 200) (iL f 200))/\FW=FW/\Q else J/\FW=FU/\Q)=aI (aK [Pf] (NS L i g parts R)) DB [.sl 18 L.length (aF L 200),.int .i64 i] (AF (Kh R)):=by subst o m l p r h;kernel_rfl
def Kg{R:G (P Z)}(h:R=Do):bif R.isSome then ((AJ Do 0 0=AJ Do 0 0/\(R.getD []).length=0)/\FU=FW/\Q)else (AJ Do 0 0=AJ Do 0 0/\FU=FU/\Q):=by
 simp_all
def pM(a:P Z)(j:Z)(r q:P Z):cD a (j::r) q=g (V (0<=j)&&(V (j<a.length)&&!(q.elem (a.getD j.toNat 0)))) (cD a r (q++[a.getD j.toNat 0])) Do:=rfl
def Ik(l:P Z){m:MV}{z:Z}(h:eI 0 m (.aa z 200)):ak (l.length+1) (λq=>bif B1 q l.length then iL l 200 q else aU [m] (q-l.length)) (iL (l++[z]) 200):=by
 refine CJ λq hq=>?_;show eI 0 (bif B1 q l.length then iL l 200 q else aU [m] (q-l.length)) (.aa ((l++[z]).getD q 0) 200);by_cases a:q<l.length
 .have:B1 q l.length=FW:=by simpa [CU]using a
  rw[this,Z6];have e:(l++[z]).getD q 0=l.getD q 0:=by rw[BJ,BJ,List.getElem?_append_left a]
  rw[e];exact⟨rfl,.inl (Z0 _)⟩
 .have:B1 q l.length=FU:=by
   grind [B1,CU]
  rw[this,Z5];have e:q-l.length=0:=by omega
  have b:(l++[z]).getD q 0=z:=by
   simp_all
  rw[e,b];exact h
def bj(L:P ab):P Z:=L.map ab.n
def Nq{L:P ab}{i j:U}(hi:i<=L.length)(h:j<i):(bj (L.take i)).getD j 0=(L.getD j aB).n:=by
 grind [bj]
def PY{L:P ab}{i:U}(hi:i<=L.length:=by omega):(bj (L.take i)).length=i:=by
 simp[bj];omega
def X8(L:F1 ab)(i:F2)(T:i<L.length)(_hL:L.length<=1000000)(d:∀j,j<L.length->ff (L.getD j aB))(U:∀j,j<i->(L.getD j aB).can=FW) :
  ∃E:Env AA,aI E DB [.sl 18 L.length (aF L 200),.int .i64 i] (AF (Kh (cD (bj (L.take i)) (L.getD i aB).parts []))):=by
 refine⟨aK [Pf] (NS L i (bj (L.take i)) (L.getD i aB).parts (cD (bj (L.take i)) (L.getD i aB).parts [])),?_⟩;rw[<-Yi L i (bj (L.take i)) (L.getD i aB).parts (cD (bj (L.take i)) (L.getD i aB).parts []) _ rfl _ rfl _ rfl _ rfl _ rfl _ rfl];rw[Z8];have Hx:=PY (L:=L) (i:=i);have xw:=(d i T).parts;have y:∀j,j<i->(bj (L.take i)).getD j 0=(L.getD j aB).n:=λj h=>Nq (by omega) h;generalize bj (L.take i)=l at *;generalize (L.getD i aB).parts=P at *;refine⟨⟨⟨0, []⟩,⟨Z9 _,rfl,rfl⟩,⟨⟨rfl,rfl,AG⟩,rfl,⟨rfl,rfl⟩,rfl,⟨⟩⟩,⟨rfl,CJ λ_ h=>W h (CE _)⟩,⟨⟩⟩,λs J=>?_⟩;obtain⟨k,q⟩:=s;obtain⟨S,a,G⟩:=J;dsimp only at S a G⊢;rw[Z8];generalize hR:cD l P []=R at *;refine⟨by omega,aJ Z4 (λq1=>?_) (λq1=>?_)⟩
 .have e:k<P.length:=by omega
  rw[uF e,pM]at a;generalize P.getD k 0=j at *;refine⟨by omega,by omega,aJ Z4 (λM=>Kg ?_) (λM=>aJ Z4 (λK=>Kg ?_) (λK=>?_))⟩
  .grind
  .grind
  obtain⟨u,rfl⟩:∃u:F2,j=u:=⟨j.toNat,by omega⟩;rw[Z8]at a⊢;rw[Y0 (show(0:Z)<=u by omega),Y0 (show(u:Z)<(l.length:Z) by omega),y u (by omega),AB,AB]at a;have F:=d u (by omega);have B:=U u (by omega);have H:dj (L.getD u aB).neg (L.getD u aB).ai:=⟨F.wd,F.len,B⟩;have N:eE (L.getD u aB).neg (L.getD u aB).ai=(L.getD u aB).n:=rfl;have f:=qS H;rw[N]at f⊢;generalize (L.getD u aB).n=z at *;generalize (L.getD u aB).neg=g at *;generalize (L.getD u aB).ai=mg at *;refine⟨⟨⟨0⟩,⟨Z9 _,λx c=>W c (CE x)⟩,⟨⟨rfl,rfl,AG⟩,rfl,⟨rfl,rfl⟩,rfl,rfl,rfl,⟨⟩⟩,⟨rfl,AG⟩,⟨⟩⟩,λt J=>?_⟩;obtain⟨t⟩:=t;obtain⟨O,c⟩:=J;dsimp only at O c⊢;rw[Z8];refine aJ Z4 (λI=>?_) (λI=>?_)
  .have m:FX FV ((t:Z)+1)=((t+1:F2):Z):=by rw[aV (by omega) (by omega)];omega
   refine⟨by omega,by omega,by omega,⟨by omega,H⟩,aJ Z4 (λD=>Kg ?_) (λD=>?_)⟩
   .grind
   .refine⟨⟨t+1⟩,⟨by show t+1<=_;omega,λx (p:x<t+1)=>?_⟩,⟨⟨⟨rfl,rfl,AG⟩,rfl,⟨rfl,rfl⟩,rfl,rfl,m,⟨⟩⟩,⟨rfl,AG⟩,⟨⟩⟩,by show q.length-(t+1)<q.length-t;omega⟩;by_cases o:x<t
    .exact c x o
    .have:x=t:=by omega
     subst this;exact D
  .have v:t=q.length:=by omega
   subst v;have:q.elem z=FU:=by
    rw[List.elem_eq_contains,AK,Ne,List.contains_iff_mem];intro Q;obtain⟨x,r,p⟩:=CM.1 Q;refine c x r ?_;show q.getD x 0=z
    grind
   rw[this]at a;have a:cD l (P.drop (k+1)) (q++[z])=R:=a;have m:FX FV ((k:Z)+1)=((k+1:F2):Z):=by rw[aV (by omega) (by omega)];omega
   have w:AV (bh.rows 2 1 (aU [MV.st [MV.bool g,MV.ws mg]]))=1:=rfl;rw[w];have b:(q++[z]).length=q.length+1:=by simp
   have C:=Ik q f;refine⟨by omega,⟨Z0 _,Z0 _,by omega⟩,⟨k+1,q++[z]⟩,⟨e,a,by rw[b,G]⟩,⟨⟨⟨rfl,rfl,AG⟩,rfl,⟨rfl,b.symm⟩,m,⟨⟩⟩,⟨b.symm,C⟩,⟨⟩⟩,by show P.length-(k+1)<P.length-k;omega⟩
 .have A:k=P.length:=by omega
  subst A;rw[AX]at a;have a:FR q=R:=a
  grind [AG]
def xG:aG
 |[.sl 18 n f,.int .i64 i]=>FR (FR (0<=i/\i<n/\n<=1000000/\(∀j,j<n->kv 200 (f j))/\(∀s∈aE n f,ff s)/\(∀s∈(aE n f).take i.toNat,s.can=FW)),
   Kh (cD (bj ((aE n f).take i.toNat)) ((aE n f).getD i.toNat aB).parts []))
 |_=>Do
def ZZ:∀b p r,xG b=FR (p,r)->p.holds->fR b->∃bf,lB.di 0 b bf/\∃E:Env AA,aI E DB bf r.sat:=by
 intro b p r a c hf;unfold xG at a;split at a
 .rename_i n f i;simp only[Z1,Z2]at a;obtain⟨rfl,rfl⟩:=a;obtain⟨h1,h2,h3,k,h,g⟩:=c;obtain⟨i,rfl⟩:∃u:U,i=u:=⟨i.toNat,by omega⟩;rw[Z8]at *;have d:=dD n f;refine⟨[.sl 18 (aE n f).length (aF (aE n f) 200),.int .i64 i],⟨⟨rfl,d.symm,jW k⟩,rfl,⟨⟩⟩,X8 (aE n f) i (by omega) (by omega) (λj e=>h _ ?_) (λj e=>g _ ?_)⟩
  all_goals grind [CF,List.getElem_mem,aE,CM]
 .simp at a
def N8:ah AA:=⟨62,xG,λargs w=>Tryz.call62 args w,gR bQ Tryz.func62 xG ZZ⟩
def kq(z:Z):N×P Z:=if z.natAbs<2^200 then (V (z<0),aA z.natAbs)else (FU, [])
def kp(l:P (N×P Z)):U->MV:=λi=>.st [.bool (l.getD i (FU, [])).1,.ws (l.getD i (FU, [])).2]
def qR(s:ab):P (N×P Z):=(s.neg,s.ai)::([s.ca,s.cb,s.cm,s.x,s.y,s.ord]++s.base).map kq
structure ml (s:ab) (w:cl):Prop where
 hi:w.i<=7+s.base.length
 hc:0<w.i->s.can=true
def Qp(s:ab):U->MS->G bt
 |3,e=>(match bD 3 e.tm with
  |.bs b _ n=>FR (.inv cl (ml s) (λi=>⟨40, [(1,.bp 0 0),(2,.bool FU),(3,.bs b 0 n),(4,.int .i64 i.i)],aW e.bx b ⟨FU,.rows 2 n (kp (qR s))⟩,0⟩) (λi=>7+s.base.length-i.i))
  |_=>Do)
 |_,_=>Do
def aci(s:ab)(T:N)(a:_)(e:a=(ab.base s))(b:_)(f:b=(bh.rows 2 (H a) (iL a 200)))(c:_)(d:c=(ab.parts s)):((7<=7/\(7+AV b)*32<=140737488355328)/\(∃i,ml s i/\(0=0/\FU=FU/\(0=0/\7+AV b =7+AV b)/\0=(i.1:Z)/\Q)/\(ab.kind s=ab.kind s/\(ab.neg s=ab.neg s/\ab.ai s=ab.ai s/\Q)/\(1=1/\H c =H c/\ak (H c) (bI c) (bI c))/\(2=2/\H a =H a/\ak (H a) (iL a 200) (iL a 200))/\(aD (ab.ca s) (ab.ca s) 200 200/\aD (ab.cb s) (ab.cb s) 200 200/\aD (ab.cm s) (ab.cm s) 200 200/\Q)/\(aD (ab.x s) (ab.x s) 200 200/\aD (ab.y s) (ab.y s) 200 200/\ab.inf s=ab.inf s/\Q)/\aD (ab.ord s) (ab.ord s) 200 200/\Q)/\(7+H a =7+AV b/\ak (7+H a) (λq=>bif B1 q 7 then aU [MV.st [MV.bool (ab.neg s),MV.ws (ab.ai s)],MV.aa (ab.ca s) 200,MV.aa (ab.cb s) 200,MV.aa (ab.cm s) 200,MV.aa (ab.x s) 200,MV.aa (ab.y s) 200,MV.aa (ab.ord s) 200] q else iL a 200 (q-7)) (kp (qR s)))/\Q)/\∀(i:cl),ml s i->bif V ((i.1:Z)<(↑(7+AV b):Z))then (0<=(i.1:Z)/\(i.1:Z)<(↑(7+AV b):Z))/\I (i.1:Z)<7+AV b/\H (AE (K (qR s) (I (i.1:Z)) (FU, [])))<=1000000/\bif !nD (AD (K (qR s) (I (i.1:Z)) (FU, []))) (AE (K (qR s) (I (i.1:Z)) (FU, [])))then FU=T else ∃j,ml s j/\((0=0/\FU=FU/\(0=0/\7+AV b =7+AV b)/\O FV ((i.1:Z)+1)=(j.1:Z)/\Q)/\(ab.kind s=ab.kind s/\(ab.neg s=ab.neg s/\ab.ai s=ab.ai s/\Q)/\(1=1/\H c =H c/\ak (H c) (bI c) (bI c))/\(2=2/\H a =H a/\ak (H a) (iL a 200) (iL a 200))/\(aD (ab.ca s) (ab.ca s) 200 200/\aD (ab.cb s) (ab.cb s) 200 200/\aD (ab.cm s) (ab.cm s) 200 200/\Q)/\(aD (ab.x s) (ab.x s) 200 200/\aD (ab.y s) (ab.y s) 200 200/\ab.inf s=ab.inf s/\Q)/\aD (ab.ord s) (ab.ord s) 200 200/\Q)/\(7+AV b =7+AV b/\ak (7+AV b) (kp (qR s)) (kp (qR s)))/\Q)/\7+H a-j.1<7+H a-i.1 else FW=T)=aI (aK [Nt] (Qp s)) DA [jV s 200] (AF (.ret (.bool T))):=by subst e f d;kernel_rfl
theorem Pv(z:Z):(kq z).2.length<=7:=by
 unfold kq;split
 .rename_i h;have:=bR h;omega
 simp
def oY(z:Z):nD (V (z<0)) (aA z.natAbs)=FW:=by
 unfold nD;by_cases h:aA z.natAbs=[]
 .grind [bW]
 .have a:(((aA z.natAbs).length:Z)==0)=FU:=by
   simp_all
  rw[a,Z5,bne_iff_ne];have h2:=ML _ h
  grind
theorem Pu(z:Z):nD (kq z).1 (kq z).2=FW:=by
 unfold kq;split
 .exact oY z
 .rfl
def Oi(s:ab):(qR s).getD 0 (FU, [])=(s.neg,s.ai):=rfl
theorem I4(s:ab){i:U}(h:i+1<7+s.base.length):∃z,(qR s).getD (i+1) (FU, [])=kq z/\([s.ca,s.cb,s.cm,s.x,s.y,s.ord]++s.base).getD i 0=z:=by
 refine⟨_,?_,rfl⟩;show(([s.ca,s.cb,s.cm,s.x,s.y,s.ord]++s.base).map kq).getD i (FU, [])=_
 grind
def agI{z:Z}(c:Ctx)(w:L)(a:P F)(h:aj c w (.aa z 200) a):aj c w (.st [.bool (kq z).1,.ws (kq z).2]) a:=by
 obtain⟨s,rfl,d,b⟩:=h;have e:kq z=(V (z<0),aA z.natAbs):=if_pos d;rw[e];exact⟨[.bool (V (z<0))], [s],rfl,rfl, [s], [],rfl,⟨s,rfl,b⟩,rfl⟩
def RB(s:ab):ak (7+s.base.length) (λq=>bif B1 q 7 then aU [.st [.bool s.neg,.ws s.ai],.aa s.ca 200,.aa s.cb 200,.aa s.cm 200,.aa s.x 200,.aa s.y 200,.aa s.ord 200] q else iL s.base 200 (q-7)) (kp (qR s)):=by
 refine⟨λi a c w b r=>?_⟩;show aj c w (.st [.bool ((qR s).getD i (FU, [])).1,.ws ((qR s).getD i (FU, [])).2]) b
 match i,a,r with
 |0,_,r=>exact r
 |j+1,a,r =>
  obtain⟨z,e,d⟩:=I4 s a;rw[e];refine agI c w b ?_;rw[<-d]
  match j,a,r with
  |0,_,r=>exact r
  |1,_,r=>exact r
  |2,_,r=>exact r
  |3,_,r=>exact r
  |4,_,r=>exact r
  |5,_,r=>exact r
  |k+6,_,r=>exact r
def abL(s:ab)(h:ff s):∃E:Env AA,aI E DA [jV s 200] (AF (.ret (.bool s.can))):=by
 refine⟨aK [Nt] (Qp s),?_⟩;rw[<-aci s s.can _ rfl _ rfl _ rfl];have g:AV (bh.rows 2 s.base.length (iL s.base 200))=s.base.length:=rfl;rw[g];have hb:=h.base;have hm:=h.len;refine⟨⟨Z0 _,by omega⟩,⟨⟨0⟩,⟨Z9 _,λh=>W h (Nat.lt_irrefl 0)⟩,⟨rfl,rfl,⟨rfl,rfl⟩,rfl,⟨⟩⟩,⟨rfl,⟨rfl,rfl,⟨⟩⟩,⟨rfl,rfl,AG⟩,⟨rfl,rfl,AG⟩,⟨cB,cB,cB,⟨⟩⟩,⟨cB,cB,rfl,⟨⟩⟩,cB,⟨⟩⟩,⟨rfl,RB s⟩,⟨⟩⟩,λi I=>?_⟩;obtain⟨i⟩:=i;obtain⟨e,d⟩:=I;dsimp only at e d⊢;rw[Z8];refine aJ Z4 (λq1=>?_) (λq1=>?_)
 .have a:i<7+s.base.length:=by omega
  have f:O FV ((i:Z)+1)=((i+1:U):Z):=by rw[aV (by omega) (by omega)];omega
  have c:s.can=FW->∃j,ml s j/\(((0:U)=0/\FU=FU/\((0:U)=0/\7+s.base.length=7+s.base.length)/\O FV ((i:Z)+1)=(j.i:Z)/\Q)/\(s.kind=s.kind/\(s.neg=s.neg/\s.ai=s.ai/\Q)/\((1:U)=1/\s.parts.length=s.parts.length/\ak s.parts.length (bI s.parts) (bI s.parts))/\((2:U)=2/\s.base.length=s.base.length/\ak s.base.length (iL s.base 200) (iL s.base 200))/\(aD s.ca s.ca 200 200/\aD s.cb s.cb 200 200/\aD s.cm s.cm 200 200/\Q)/\(aD s.x s.x 200 200/\aD s.y s.y 200 200/\s.inf=s.inf/\Q)/\aD s.ord s.ord 200 200/\Q)/\(7+s.base.length=7+s.base.length/\ak (7+s.base.length) (kp (qR s)) (kp (qR s)))/\Q)/\7+s.base.length-j.i<7+s.base.length-i:=λb =>
   ⟨⟨i+1⟩,⟨a,λ_=>b⟩,⟨⟨rfl,rfl,⟨rfl,rfl⟩,f,⟨⟩⟩,⟨rfl,⟨rfl,rfl,⟨⟩⟩,⟨rfl,rfl,AG⟩,⟨rfl,rfl,AG⟩,⟨cB,cB,cB,⟨⟩⟩,⟨cB,cB,rfl,⟨⟩⟩,cB,⟨⟩⟩,⟨rfl,AG⟩,⟨⟩⟩,by show 7+s.base.length-(i+1)<7+s.base.length-i;omega⟩
  refine⟨by omega,by omega,?_⟩
  match i,a,d,c with
  |0,_,_,c =>
   rw[Oi];refine⟨by show s.ai.length<=_;omega,kB BQ (λz=>c z) (λz=>(AK.2 z).symm)⟩
  |i+1,a,d,c =>
   grind [I4,Pv,Pu]
 grind
structure il (m:MV) (P:ab->Prop):Prop where
 h:∃s,m=jV s 200/\ff s/\P s
def UB(_:ab):Prop:=True
def Bw:aG
 |[.st [.int .i64 k,.st [.bool g,.ws l],.sl 1 c f,.sl 2 d h,.st [.aa a p,.aa b n,.aa m w3],.st [.aa x j,.aa y e,.bool i],.aa o w6]] =>
  FR (FR (il (.st [.int .i64 k,.st [.bool g,.ws l],.sl 1 c f,.sl 2 d h,.st [.aa a p,.aa b n,.aa m w3],.st [.aa x j,.aa y e,.bool i],.aa o w6]) UB),.ret (.bool (nD g l)))
 |_=>Do
def afe:bC DA Bw:=by
 intro ms p r a b;unfold Bw at a;split at a
 .simp only[Z1,Z2]at a;obtain⟨rfl,rfl⟩:=a;obtain⟨⟨s,e,ok,_⟩⟩:=b;unfold jV at e;cases e;exact abL s ok
 .simp at a
def Rg:ah AA:=⟨63,Bw,λargs w=>Tryz.call63 args w,aO bQ Tryz.func63 Bw afe⟩
end
end Go.Proofs.YtkejceafemeifaaGreatDoor
