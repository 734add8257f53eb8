/-
  Contract of the method Curve of algoristref07.Steps.
-/
import Derived.Test.YtkejceafemeifaaGreatDoorT4
import Derived.Test.YtkejceafemeifaaGreatDoorT2
import Derived.Test.YtkejceafemeifaaGreatDoorT3
import Derived.Shelf.Spec.SlicesGrow
import Derived.Tactics
import Derived.Tactics2
import Derived.Defers
import Derived.Recover
import Derived.Laws.Pointers

namespace Go.Proofs.YtkejceafemeifaaGreatDoor
open Go Go.RowKit
open Go.IntKind (wrap i64 i32 i16 i8 u64 u32 u16 u8)
open Int (toNat natAbs)
open List (length take drop getD set replicate)
open BitVec (ofInt)
open Int (gcd tmod tdiv fdiv)
open Int renaming dvd_mul_of_dvd_right->AA,dvd_add->AC,emod_eq_emod_iff_emod_sub_eq_zero->AK,natCast_emod->AP,natCast_mul->AQ,emod_eq_zero_of_dvd->AW,dvd_mul_of_dvd_left->A2,emod_eq_of_lt->A3,natAbs_natCast->A5,dvd_of_emod_eq_zero->A8,pow_succ->BG,natCast_ediv->BI,mul_comm->BK,tdiv_eq_ediv_of_nonneg->BM,emod_nonneg->BS,emod_lt_of_pos->BV,mul_one->BW,natAbs_dvd_natAbs->BZ,mul_assoc->B4,mul_add->B8,dvd_sub->B9,natCast_add->CB,mul_sub->CK,natCast_dvd_natCast->CS,natCast_pow->CX,one_mul->C3,emod_emod_of_dvd->C4,le_of_dvd->C8,sub_add_cancel->C9,pow_zero->DF,mul_zero->DG,mul_neg->DS,tmod_eq_emod_of_nonneg->D0,add_mul_emod_self_left->D1,sub_self->D7,mul_emod->D8,gcd_comm->D9,dvd_zero->EA,dvd_refl->EB,lt_trichotomy->EV,natCast_one->E9,natAbs_mul->FA,zero_mul->FO,emod_def->FP,add_comm->FQ
open Go.Proofs.Tryz renaming prog->AB,f61->ED,f25->EE,f134->EQ,results93->E0,f55->E1,f54->E2,f37->E3,f34->E4,f14->E5,ntmps93->FB,f9->FC,func93->FG,func25->FH,f99->FY,f98->FZ,f97->F0,f94->F1,f48->F2,f33->F3,f31->F4,f28->F5,f27->F6,f26->F7,f22->F8,f21->F9,f20->GA
open List renaming getD_eq_getElem?_getD->AD,mem_cons_of_mem->AF,mem_cons_self->AJ,all_eq_true->A4,map_cons->A9,mem_singleton->BB,getElem?_append_left->BD,take_succ_eq_append_getElem->BE,length_cons->BH,append_assoc->BL,mem_map->BN,getElem?_eq_getElem->BO,nodup_cons->BQ,mem_append->BR,range'->BU,mem_iff_getElem->B3,length_append->CD,mem_cons->CJ,take_length->CN,length_eq_zero_iff->CO,ext_getElem->CP,pairwise_cons->C7,pairwise_map->DA,not_mem_nil->DI,drop_length->DJ,nil_append->DP,length_map->DR,take_of_length_le->D3,map_map->D4,length_pos_of_mem->D5,mem_of_mem_take->EF,range->EL,length_range'->EM,mem_range'_1->EP,length_take->EU,range_succ->EY,append_nil->EZ,mem_range->E8,map_nil->FE,Nodup->FX
open Go.Value renaming slice->AE
open LeFun renaming refl->AG
open News renaming len->AH
open Nat renaming dvd_of_mod_eq_zero->AI,le_of_dvd->AL,log2->AM,blt->AO,mul_le_mul->AR,mod_lt->AU,mul_div_cancel_left->AV,mod_two_eq_zero_or_one->AX,mul_comm->AY,mod_eq_zero_of_dvd->AZ,mul_le_mul_left->A0,le_trans->A6,pow_le_pow_right->A7,lt_or_ge->BF,zero_add->BJ,add_sub_cancel->BT,pow_succ->BX,mul_left_comm->BY,le_add_right->B0,mul_assoc->B1,gcd->B2,le_log2->B5,add_zero->CC,blt_eq->CG,mul_mod->CH,beq->CI,pow_succ'->CL,lt_irrefl->CM,mod_eq_of_lt->CQ,min_eq_right->CR,pow_zero->CU,le_mul_of_pos_left->CV,eq_of_beq_eq_true->CY,one_mul->CZ,mul_one->C0,mul_le_mul_right->C1,log2_lt->C2,add_assoc->C6,succ_mul->DC,mul_zero->DD,gcd_comm->DE,coprime_comm->DK,pow_pos->DL,mul_pos->DM,le_succ->DN,Coprime->DO,strongRecOn->DU,not_lt_zero->DV,min_eq_left->DW,div_lt_self->DX,div_add_mod->DY,beq_eq->DZ,add_mul_mod_self_left->D2,mod->D6,pow_mod->EH,mod_mod->EI,gcd_rec->EJ,div_pos->EK,lt_of_lt_of_le->EN,lt_of_le_of_lt->EO,mul_mod_right->ER,gcd_zero_left->ES,div->ET,lt_succ_self->EW,div_eq_of_lt->EX,mul_add_div->E6,div_le_self->E7,dvd_trans->FD,zero_mul->FI,sub_self->FJ,lt_trans->FK,dvd_refl->FL,add_comm->FM,add->FN,pow_one->FR,pow_mul->Aa,pow_add->FT,mul_add->FU,add_mul->FV,add_mod->FW,pow->GB
open Classical renaming choose_spec->AN,choose->AT,byContradiction->BA
open Bool renaming true_and->AS,false_and->CF,eq_false_iff->DB,or_true->FF
open MRes renaming sat->A1
open Nat.Coprime renaming dvd_of_dvd_mul_left->BP,coprime_dvd_left->C5
open List.Pairwise renaming imp_of_mem->B6,nil->CW
open Go.IntKind renaming bits->B7
open _root_.Array renaming replicate->CA,getD_eq_getD_getElem?->DT
open Go.Builtin renaming zeroCells->CE
open Stp renaming can->CT,n->EG
open Ctx renaming args->DH,res->EC
open _root_ renaming Int->Z,Nat->Y,List->O,True->E,if_pos->U,if_neg->V,Option->C,False->W,absurd->N,Bool->J,Array->R,cond->o,congrArg->r,List->GI,Nat->GJ,Int->GL,absurd->GM,False->GN,True->GR
open List renaming length->D,getD->F,take->P,drop->Q,replicate->l,take->GQ,length->GS
open Int renaming toNat->S,tmod->H,natAbs->u,tdiv->GP
open Go.IntKind renaming wrap->X,i64->GF,u64->GH,wrap->GK
open Decidable renaming decide->G
open Go renaming World->I,Oper->L,Program->M,Value->K
open Option renaming some->GC,none->GD
open Bool renaming true->GE,false->GG
open BitVec renaming ofInt->GO
noncomputable section
def aPu:aG
 |[.st [.bool g,.ws l],.big b n]=>GC (GC (n<=1000/\okN g l),.ret (.int .i64 (aX (fG g l) b)))
 |_=>GD
def aN5:Ctr AB:=iW.conv aPu λms p r h a hf=>by
 unfold aPu at h;split at h
 .rename_i g l b n;simp only[Z1,Z2]at h;obtain⟨rfl,rfl⟩:=h;obtain⟨h1,c⟩:n<=1000/\okN g l:=a;exact⟨[.big (fG g l) 200,.big b n],_,⟨sX c,bQ,⟨⟩⟩,rfl,by omega,by omega⟩
 .simp at h
def aLo:aG
 |[.st [.bool g,.ws l]]=>GC (GC (okN g l),.ret (.tup [.int .i64 (uR (fG g l)),.bool (p6 (fG g l))]))
 |_=>GD
def aJN:Ctr AB:=aXJ.conv aLo λms p r h a hf=>by
 unfold aLo at h;split at h
 .rename_i g l;simp only[Z1,Z2]at h;obtain⟨rfl,rfl⟩:=h;exact⟨[.big (fG g l) 200],_,⟨sX a,⟨⟩⟩,rfl,⟨⟩⟩
 .simp at h
theorem aPM{s:Stp}(h:okS s)(a:s.can=GE):fN 0 (m8 s 200) (bAb s 200) :=
 ⟨rfl,sX ⟨h.wd,h.len,a⟩,⟨rfl,rfl,AG⟩,⟨rfl,rfl,AG⟩,⟨bQ,bQ,bQ,⟨⟩⟩,⟨bQ,bQ,rfl,⟨⟩⟩,bQ,⟨⟩⟩
def aAF(R:Stp->Y->(Y->MV)->MRes):aG
 |[.st [.int .i64 k,.st [.bool g,.ws l],.sl 1 c f,.sl 2 d h,.st [.big a u,.big b t,.big m w3],.st [.big x r,.big y p,.bool i],.big o w6],.sl 2 e q] =>
  GC (GC (rawS (.st [.int .i64 k,.st [.bool g,.ws l],.sl 1 c f,.sl 2 d h,.st [.big a u,.big b t,.big m w3],.st [.big x r,.big y p,.bool i],.big o w6]) (λs=>s.can=GE/\2<=s.n)/\(∀j,j<e->isBig 200 (q j))/\e<=90/\∀z∈aH e q,2<=z),
   R ⟨k,g,l,iY c f,aH d h,a,b,m,x,y,i,o⟩ e q)
 |_=>GD
theorem yC{s:Stp}(ok:okS s){e:Y}{q:Y->MV}(c:∀j,j<e->isBig 200 (q j))(b:e<=90)(a:∀z∈aH e q,2<=z):kdP 200 200 200 200 200 200 200 s.base.length e (iL s.base 200) q :=
 ⟨Z0 _,Z0 _,Z0 _,Z0 _,Z0 _,Z0 _,Z0 _,λj _=>lE _ (Z0 _) j,c,b,by have:=ok.base;omega,a⟩
theorem aFn{c:Ctr AB}{R:Stp->Y->(Y->MV)->MRes}(i:∀s e q,okS s->s.can=GE->2<=s.n->(∀j,j<e->isBig 200 (q j))->e<=90->(∀z∈aH e q,2<=z)->∃p,c.spec [bAb s 200,.sl 2 e q]=GC (p,R s e q)/\p.holds) :
  ∀b p r,aAF R b=GC (p,r)->p.holds->fL b->∃ms' p',lO.leVs 0 b ms'/\c.spec ms'=GC (p',r)/\p'.holds:=by
 intro b p r a h hf;unfold aAF at a;split at a
 .simp only[Z1,Z2]at a;obtain⟨rfl,rfl⟩:=a;obtain⟨⟨s,e,ok,can,g⟩,q1,f,d⟩:=h;unfold m8 at e;cases e;obtain⟨p,l,k⟩:=i s _ _ ok can g q1 f d;rename_i e q;refine⟨[bAb s 200,.sl 2 e q],p,⟨aPM ok can,⟨rfl,rfl,AG⟩,⟨⟩⟩,?_,k⟩;rw[l,iE,eK]
 .simp at a
def aJI:Ctr AB:=aXH.conv (aAF λs e q=>.ret (.bool (aT1 s (aH e q)))) (aFn λs e q ok _ c q1 b a =>
 ⟨GC (kdP 200 200 200 200 200 200 200 s.base.length e (iL s.base 200) q/\2<=s.n),by
  show GC (_,MRes.ret (.bool (yJ s.n (aH s.base.length (iL s.base 200)) (noC s) (aH e q))))=_;rw[eK];rfl,⟨yC ok q1 b a,c⟩⟩)
def aJJ:Ctr AB:=aXI.conv (aAF λs e q=>.ret (.bool (aUO s (aH e q)))) (aFn λs e q ok _ c q1 b a =>
 ⟨GC (kdP 200 200 200 200 200 200 200 s.base.length e (iL s.base 200) q/\2<=s.n),by
  show GC (_,MRes.ret (.bool (yN s.n (aH s.base.length (iL s.base 200)) (noC s) (aH e q))))=_;rw[eK];rfl,⟨yC ok q1 b a,c⟩⟩)
def aJH:Ctr AB:=aXG.conv (aAF λs e q=>.ret (.bool (aTe s (aH e q)))) (aFn λ_ _ _ ok _ _ q1 b a=>⟨_,rfl,yC ok q1 b a⟩)
def aGZ:aG
 |[.st [.int .i64 k,.st [.bool g,.ws l],.sl 1 c f,.sl 2 d h,.st [.big a p,.big b n,.big m w3],.st [.big x j,.big y e,.bool i],.big o w6]] =>
  GC (GC (rawS (.st [.int .i64 k,.st [.bool g,.ws l],.sl 1 c f,.sl 2 d h,.st [.big a p,.big b n,.big m w3],.st [.big x j,.big y e,.bool i],.big o w6]) (λs=>s.can=GE)),.ret (.bool (dS a b m x y o i)))
 |_=>GD
def aF7:Ctr AB:=uB.conv aGZ λms p r a b hf=>by
 unfold aGZ at a;split at a
 .simp only[Z1,Z2]at a;obtain⟨rfl,rfl⟩:=a;obtain⟨⟨s,e,ok,can⟩⟩:=b;unfold m8 at e;cases e;exact⟨[bAb s 200],_,⟨aPM ok can,⟨⟩⟩,rfl,by omega,by omega,by omega,by omega,by omega,by omega⟩
 .simp at a
theorem aNd(L:O Stp)(i:Y)(T:J)(a:_)(q:a=(F L (S (i:Z)) aB))(e:_)(m:e=(fG (Stp.neg a) (Stp.mag a)))(g:_)(l:g=(bZ (nums (P (S (i:Z)) (aE (D L) (aF L 200)))) (Stp.parts (F (aE (D L) (aF L 200)) (S (i:Z)) aB)) []))(b:_)(p:b=(Option.getD g []))(c:_)(k:c=(Stp.base a))(d:_)(h:d=(Stp.parts a))(f:_)(o:f=(MV.st [MV.int GF (Stp.kind a),MV.st [MV.bool (Stp.neg a),MV.ws (Stp.mag a)],MV.sl 1 (D d) (bJ d),MV.sl 2 (D c) (iL c 200),MV.st [MV.big (Stp.ca a) 200,MV.big (Stp.cb a) 200,MV.big (Stp.cm a) 200],MV.st [MV.big (Stp.x a) 200,MV.big (Stp.y a) 200,MV.bool (Stp.inf a)],MV.big (Stp.ord a) 200])):((0<=(i:Z)/\(i:Z)<(D L:Z))/\(0<=(i:Z)/\(i:Z)<(D L:Z)/\D L<=1000000/\(∀(j:Y),j<D L->isStp 200 (aF L 200 j))/\(∀(s:Stp),s∈aE (D L) (aF L 200)->okS s)/\∀(s:Stp),s∈P (S (i:Z)) (aE (D L) (aF L 200))->CT s=GE)/\bif Option.isSome g then rawS f bGk/\bif !nF (Stp.neg a) (Stp.mag a)then GG=T else fY 2/\(64<=1000/\okN (Stp.neg a) (Stp.mag a))/\bif G (aX e 2<0)then GG=T else bif Stp.kind a ==1 then okN (Stp.neg a) (Stp.mag a)/\bif p6 e then bif G (uR e <65536)then (0<=X GH (uR e)/\X GH (uR e)<18446744073709551616)/\bif iI (S (X GH (uR e)))then bif X GF ((D b :Z)+(D c :Z))==0 then (rawS f λs=>CT s=GE)/\dS (Stp.ca a) (Stp.cb a) (Stp.cm a) (Stp.x a) (Stp.y a) (Stp.ord a) (Stp.inf a)=T else GG=T else GG=T else GG=T else GG=T else bif Stp.kind a ==2 then ((rawS f λs=>CT s=GE/\2<=EG s)/\(∀(j:Y),j<D b ->isBig 200 (iL b 200 j))/\D b <=90/\∀(z:Z),z∈aH (D b) (iL b 200)->2<=z)/\aT1 {kind:=Stp.kind a,neg:=Stp.neg a,mag:=Stp.mag a,parts:=iY (D d) (bJ d),base:=aH (D c) (iL c 200),ca:=Stp.ca a,cb:=Stp.cb a,cm:=Stp.cm a,x:=Stp.x a,y:=Stp.y a,inf:=Stp.inf a,ord:=Stp.ord a} (aH (D b) (iL b 200))=T else bif Stp.kind a ==3 then ((rawS f λs=>CT s=GE/\2<=EG s)/\(∀(j:Y),j<D b ->isBig 200 (iL b 200 j))/\D b <=90/\∀(z:Z),z∈aH (D b) (iL b 200)->2<=z)/\aUO {kind:=Stp.kind a,neg:=Stp.neg a,mag:=Stp.mag a,parts:=iY (D d) (bJ d),base:=aH (D c) (iL c 200),ca:=Stp.ca a,cb:=Stp.cb a,cm:=Stp.cm a,x:=Stp.x a,y:=Stp.y a,inf:=Stp.inf a,ord:=Stp.ord a} (aH (D b) (iL b 200))=T else bif Stp.kind a ==4 then ((rawS f λs=>CT s=GE/\2<=EG s)/\(∀(j:Y),j<D b ->isBig 200 (iL b 200 j))/\D b <=90/\∀(z:Z),z∈aH (D b) (iL b 200)->2<=z)/\aTe {kind:=Stp.kind a,neg:=Stp.neg a,mag:=Stp.mag a,parts:=iY (D d) (bJ d),base:=aH (D c) (iL c 200),ca:=Stp.ca a,cb:=Stp.cb a,cm:=Stp.cm a,x:=Stp.x a,y:=Stp.y a,inf:=Stp.inf a,ord:=Stp.ord a} (aH (D b) (iL b 200))=T else GG=T else GG=T)=aJ (aK [aF6,aN1,cO,aN5,aJN,aN9,aF7,aJI,aJJ,aJH] aC) E3 [.sl 18 L.length (aF L 200),.int .i64 i] (A1 (.ret (.bool T))):=by subst q m l p k h o;kernel_rfl
theorem aEP{a:O Z}:∀ {P q R:O Z},bZ a P q=GC R->(∀z∈q,z∈a)->R.length=q.length+P.length/\∀z∈R,z∈a
 |[],q,R,h,hq=>by
  have h:GC q=GC R:=h
  simp_all
 |j::P,q,R,h,hq=>by
  rw[pK]at h;cases b:(G (0<=j)&&(G (j<a.length)&&!(q.elem (a.getD j.toNat 0))))with
  |false=>rw[b]at h;cases h
  |true =>
   rw[b,Z6]at h;simp only[Z3,Z4]at b;have hj:j.toNat<a.length:=by omega
   obtain⟨h1,h2⟩:=aEP h (λz hz=>by
    grind)
   grind
theorem aKJ{L:O Stp}{i:Y}{z:Z}(h:z∈nums (L.take i)):∃j,j<i/\j<L.length/\z=(L.getD j aB).n:=by
 unfold nums at h;obtain⟨s,a,rfl⟩:=BN.1 h;obtain⟨j,b,e⟩:=B3.1 a;have hj2:j<min i L.length:=by simpa using b
 refine⟨j,by omega,by omega,?_⟩
 grind
theorem aLA{a:O Z}{s:Stp}{q:O Z}(h:bZ a s.parts []=GC q):bW a s=(s.can&&(G (1<s.n)&&aKv s q)):=by
 unfold bW;rw[h]
theorem aFf{a:O Z}{s:Stp}(h:bZ a s.parts []=GD):bW a s=GG:=by
 grind [bW]
theorem aMQ(L:O Stp)(i:Y)(I:i<L.length)(J:L.length<=1000000)(o:∀j,j<L.length->okS (L.getD j aB))(hc:∀j,j<i->(L.getD j aB).can=GE/\2<=(L.getD j aB).n) :
  ∃E:Env AB,aJ E E3 [.sl 18 L.length (aF L 200),.int .i64 i] (A1 (.ret (.bool (bW (nums (L.take i)) (L.getD i aB))))):=by
 refine⟨aK [aF6,aN1,cO,aN5,aJN,aN9,aF7,aJI,aJJ,aJH] aC,?_⟩;rw[<-aNd L i (bW (nums (L.take i)) (L.getD i aB)) _ rfl _ rfl _ rfl _ rfl _ rfl _ rfl _ rfl];rw[qJ,Z8];have ok:=o i I;have p:∀z∈nums (L.take i),2<=z:=λz B=>by
  grind [aKJ]
 have f:∀s∈L,okS s:=λs G=>by
  grind [B3,BO]
 have r:∀s∈L.take i,s.can=GE:=λs G=>by
  grind [B3,BO]
 refine⟨by omega,⟨by omega,by omega,J,λj _=>p8 _ 200,f,r⟩,?_⟩;generalize L.getD i aB=s at *;generalize nums (L.take i)=t at *;generalize a:bW t s=T;cases g:bZ t s.parts []with
 |none =>
  rw[aFf g]at a;exact a
 |some q =>
 obtain⟨l,k⟩:=aEP g (λz h=>N h DI);rw[aLA g]at a;rw[Option.isSome_some,Z6,Option.getD_some];have raw:∀ {P:Stp->Prop},P s->rawS (.st [.int .i64 s.kind,.st [.bool s.neg,.ws s.mag],.sl 1 s.parts.length (bJ s.parts),.sl 2 s.base.length (iL s.base 200),.st [.big s.ca 200,.big s.cb 200,.big s.cm 200],.st [.big s.x 200,.big s.y 200,.bool s.inf],.big s.ord 200]) P:=λh=>⟨s,rfl,ok,h⟩;have B:fG s.neg s.mag=s.n:=rfl;rw[B];refine⟨raw ⟨⟩,kG Iff.rfl (λcan=>?_) (λz=>?_)⟩
 rotate_left
 .rw[<-a];have:s.can=GG:=DB.2 z
  simp_all
 have can:s.can=GE:=can;have C:okN s.neg s.mag:=⟨ok.wd,ok.len,can⟩;rw[can,AS]at a;refine⟨by omega,⟨by omega,C⟩,aI (decide_eq_true_iff.trans aAe) (λz=>by rw[<-a,Y1 (show ¬ 1<s.n by omega),CF]) (λz=>?_)⟩;have D:2<=s.n:=by omega
 rw[Y0 (show 1<s.n by omega),AS]at a;unfold aKv at a;rw[eK,eK,iE];have c:∀z∈q,2<=z:=λz h=>p z (k z h);have b:q.length<=90:=by have:=ok.parts;rw[l];simpa using this
 have e:∀j,j<q.length->isBig 200 (iL q 200 j):=λj _=>lE q (Z0 _) j;cases A:s.kind==1 with
 |true =>
  rw[A,Z6]at a;rw[Z6];refine⟨C,?_⟩;have hb:=ok.base;unfold aRt tU at a;cases q1:p6 s.n with
  |false =>
   grind [rE]
  |true =>
  have q1':=rE.1 q1;have H:uR s.n=s.n:=by unfold uR;rw[q1];rfl
  have F:X GH s.n=s.n:=by rw[l8];exact A3 (by omega) (by omega)
  rw[Z6,H,F];refine aI Z4 (λz=>?_) (λz=>by rw[<-a,Y1 z,CF]);rw[Y0 z,AS]at a;have m:isB s.n=iI s.n.toNat:=if_pos ⟨by omega,by omega⟩;have K:X GF ((q.length:Z)+(s.base.length:Z))=((q.length+s.base.length:Y):Z):=by rw[aT (by omega) (by omega)];omega
  rw[K,<-m];refine⟨by omega,aI Iff.rfl (λz=>?_) (λz=>?_)⟩
  .rw[z,Bool.and_true]at a;refine aI beq_iff_eq (λz=>⟨raw can,?_⟩) (λz=>?_)
   .rw[Y0 (show q.length=0 by omega),Y0 (show s.base.length=0 by omega),AS,AS]at a;exact a
   grind
  simp_all
 |false =>
 rw[A,Z5]at a;rw[Z5];have d:rawS _ (λs:Stp=>s.can=GE/\2<=s.n):=raw ⟨can,D⟩;cases w:s.kind==2 with
 |true=>rw[w,Z6]at a;exact⟨⟨d,e,b,c⟩,a⟩
 |false =>
 rw[w,Z5]at a;rw[Z5];cases v:s.kind==3 with
 |true=>rw[v,Z6]at a;exact⟨⟨d,e,b,c⟩,a⟩
 |false =>
 rw[v,Z5]at a;rw[Z5];cases u:s.kind==4 with
 |true=>rw[u,Z6]at a;exact⟨⟨d,e,b,c⟩,a⟩
 |false =>
 rw[u,Z5]at a;rw[Z5];exact a
structure okL (n:Nat) (f:Nat->MV):Prop where
 len:n<=1000000
 stp:∀j,j<n->isStp 200 (f j)
 ok:∀s∈aE n f,okS s
structure okT (L:List Stp):Prop where
 len:L.length<=1000000
 ok:∀s∈L,okS s
theorem okT.at{L:O Stp}(h:okT L):∀j,j<L.length->okS (L.getD j aB):=λj a=>by
 rw[AD,BO a,Option.getD_some];exact h.ok _ (List.getElem_mem a)
theorem okL.T{n:Y}{f:Y->MV}(h:okL n f):okT (aE n f):=⟨by rw[dG];exact h.len,h.ok⟩
theorem sR{L:O Stp}(h:okT L):okL L.length (aF L 200):=⟨h.len,λj _=>p8 _ 200,by rw[qJ];exact h.ok⟩
theorem okL.le{n:Y}{f:Y->MV}(h:okL n f):lO 0 (.sl 18 n f) (.sl 18 (aE n f).length (aF (aE n f) 200)):=⟨rfl,(dG n f).symm,j0 h.stp⟩
structure fineL (L:List Stp) (i:Nat):Prop where
 h:∀j,j<i->(L.getD j aB).can=true/\2<=(L.getD j aB).n
def wV:aG
 |[.sl 18 n f,.int .i64 i]=>GC (GC (0<=i/\i<n/\okL n f/\fineL (aE n f) i.toNat),.ret (.bool (bW (nums ((aE n f).take i.toNat)) ((aE n f).getD i.toNat aB))))
 |_=>GD
theorem aQ6:∀b p r,wV b=GC (p,r)->p.holds->fL b->∃ms',lO.leVs 0 b ms'/\∃E:Env AB,aJ E E3 ms' r.sat:=by
 intro b p r a d hf;unfold wV at a;split at a
 .rename_i n f i;simp only[Z1,Z2]at a;obtain⟨rfl,rfl⟩:=a;obtain⟨h1,h2,c,e⟩:=d;obtain⟨i,rfl⟩:∃u:Y,i=u:=⟨i.toNat,by omega⟩;rw[Z8]at *;have hl:=dG n f;exact⟨[.sl 18 (aE n f).length (aF (aE n f) 200),.int .i64 i],⟨c.le,rfl,⟨⟩⟩,aMQ (aE n f) i (by omega) c.T.len c.T.at e.h⟩
 .simp at a
def vS:Ctr AB:=⟨37,wV,λargs w=>Tryz.call37 args w,gO bT Tryz.func37 wV aQ6⟩
structure ChI (L:List Stp) (R:Option Nat) (s:WalkI):Prop where
 hi:s.i<=L.length
 hr:oX (nums (L.take s.i)) (L.drop s.i) s.i=R
 hf:fineL L s.i
theorem bGM{l:O Stp}{i:Y}(h:i<l.length):l.drop i=l.getD i aB::l.drop (i+1):=by
 simp_all
theorem aQ0{L:O Stp}{i:Y}(h:i<L.length):nums (L.take (i+1))=nums (L.take i)++[(L.getD i aB).n]:=by
 grind [nums,BE]
theorem aBi(a:O Z)(s:Stp)(r:O Stp)(i:Y):oX a (s::r) i=o (bW a s) (oX (a++[s.n]) r (i+1)) (GC i):=rfl
theorem aM5{a:O Z}{s:Stp}(h:bW a s=GE):s.can=GE/\2<=s.n:=by
 grind [bW]
theorem ChI.step{L:O Stp}{R:C Y}{i:Y}(h:ChI L R ⟨i⟩)(c:i<L.length):(bW (nums (L.take i)) (L.getD i aB)=GE->ChI L R ⟨i+1⟩)/\(bW (nums (L.take i)) (L.getD i aB)=GG->R=GC i):=by
 obtain⟨hi,a,d⟩:=h;have a:oX (nums (L.take i)) (L.drop i) i=R:=a;rw[bGM c,aBi]at a;refine⟨λh=>⟨c,?_,⟨λj hj=>?_⟩⟩,λh=>?_⟩
 .grind [aQ0]
 .by_cases b:j<i
  .exact d.h j b
  grind [aM5]
 simp_all
theorem ChI.fin{L:O Stp}{R:C Y}{i:Y}(h:ChI L R ⟨i⟩)(hl:¬i<L.length):i=L.length/\R=GD:=by
 obtain⟨c,b,hf⟩:=h;have c:i<=L.length:=c;have a:i=L.length:=by omega
 subst a;rw[DJ]at b;exact⟨rfl,b.symm⟩
theorem ChI.zero(L:O Stp):ChI L (oX [] L 0) ⟨0⟩:=⟨Z9 _,rfl,⟨λj a=>N a (DV j)⟩⟩
def atR(R:C Y):Z:=((R.getD 0:Y):Z)
def eR(R:C Y)(n:Y):Z:=cond R.isSome 70 (o (n.beq 0) 70 0)
theorem aS6(L:O Stp):oW L=atR (oX [] L 0):=by
 unfold oW atR
 grind
theorem aOc(L:O Stp):chkE L=eR (oX [] L 0) L.length:=by
 unfold chkE eR
 grind
theorem aTa{L:O Stp}(h:chkE L=0):L.length≠0/\fineL L L.length:=by
 rw[aOc]at h;cases c:oX [] L 0 with
 |some k =>
  rw[c]at h;have h:(70:Z)=0:=h;omega
 |none =>
  rw[c]at h;refine⟨λb=>by rw[b]at h;exact N h (by decide),?_⟩;have b:=ChI.zero L;rw[c]at b;have a:∀i,i<=L.length->ChI L GD ⟨i⟩:=λi=>by
   induction i with
   |zero=>exact λ_=>b
   |succ i d =>
    intro hi;obtain⟨s1,s2⟩:=(d (by omega)).step (show i<L.length by omega)
    simp_all
  exact(a L.length (Z0 _)).hf
def wN(L:O Stp)(n:Z):J:=decide (chkE L=0)&&G ((L.getD (L.length-1) aB).n=n)
theorem aKi{L:O Stp}(h:okT L){i j:Y}(c:fineL L i)(b:j<i)(a:j<L.length):okN (L.getD j aB).neg (L.getD j aB).mag :=
 ⟨(h.at j a).wd,(h.at j a).len,(c.h j b).1⟩
section
open Go Go.RowKit Go.Shelf
def aCX:Go.Shelf.Ren:=⟨fun|4=>133|n=>n,fun|22=>41|25=>39|n=>n,λn=>n⟩
theorem gr4:Go.Proofs.Lays8.n4 AB aCX:={
 mixed:=by kernel_rfl
 f4:=⟨Tryz.f133.name,by decide,Tryz.func133.trans (r GC (by kernel_rfl))⟩
 t0:=Tryz.underlying0
 a0:=Tryz.isAgg0
 z0:=Tryz.sizeOf0
 v0:=Tryz.zeroValue0
 t3:=Tryz.underlying3
 a3:=Tryz.isAgg3
 z3:=Tryz.sizeOf3
 v3:=Tryz.zeroValue3
 t4:=Tryz.underlying4
 a4:=Tryz.isAgg4
 z4:=Tryz.sizeOf4
 v4:=Tryz.zeroValue4
 t9:=Tryz.underlying9
 a9:=Tryz.isAgg9
 z9:=Tryz.sizeOf9
 v9:=Tryz.zeroValue9
 t20:=Tryz.underlying20
 a20:=Tryz.isAgg20
 z20:=Tryz.sizeOf20
 v20:=Tryz.zeroValue20
 t22:=Tryz.underlying41
 a22:=Tryz.isAgg41
 z22:=Tryz.sizeOf41
 v22:=Tryz.zeroValue41 }
theorem bDe:(match Tryz.prog.info? 39 with
  |some i=>(match i.zero with
   |some z=>i.size.beq 2&&(i.bytes.ble 64&&z.cells.size.beq 2)
   |none=>GG)
  |none=>GG)=GE:=by kernel_rfl
theorem aYo:∃i z,Tryz.prog.info? 39=GC i/\i.zero=GC z/\i.size=2/\i.bytes<=64/\z.cells.size=2:=by
 grind [bDe,DZ,Nat.ble_eq]
def aMW:O MV->C (OProp×Y×Y×(Y->MV))
 |[.val (.slice GD 0 0),.int .i64 z]=>GC (GC (0<z/\z<=100000),2,0,λ_=>.any)
 |_=>GD
theorem aYi(S:Y->Prop)(w:I)(f:O MV)(args:R K)(p:OProp)(wd n:Y)(g:Y->MV)(c:aMW f=GC (p,wd,n,g))(v:p.holds)(_:∀b,S b->b<w.heap.size)(_:GW S w)(y:RepAll (DH S) w f args.toList):Calls AB 133 args w λe w'=>Ext w w'/\∃b arr ty cap,e= .returned (.slice (GC ⟨b,0,GD⟩) n cap)/\w.heap.size<=b/\
   w'.heap[b]? =GC (.cells arr ty (0,0))/\arr.size=cap*wd/\n<=cap/\gY (DH λx=>S x\/x=b) w' (.rows wd n g) arr:=by
 unfold aMW at c;split at c
 .rename_i z;simp only[Z1,Z2]at c;obtain⟨rfl,rfl,rfl,rfl⟩:=c;obtain⟨h1,h2⟩:0<z/\z<=100000:=v;obtain⟨k,rfl⟩:∃k:Y,z=k:=⟨z.toNat,by omega⟩;obtain⟨m,r1,e1,l,v2,r2,e2,j,B⟩:=y;subst B;have l:m= .slice GD 0 0:=by
   obtain⟨h,_⟩:=(bC rfl (by simp)).1 l
   simpa using h
  have j:v2= .int .i64 k:=by
   have h:[v2]=[.int .i64 (k:Z)]:=(bC rfl (by simp)).1 j
   simpa using h
  have a:args=#[.slice GD 0 0,.int .i64 k]:=by
   grind
  subst a;obtain⟨i,z,q1,s,q3,q,o⟩:=aYo;refine(Any8.slices_Grow_grow gr4 i z q1 s (by omega) GD 0 0 k [] w (Z0 _) (by omega) ?_ (by omega) (by simp) (λ_=>rfl) (λ_ h=>by cases h)).mono ?_
  .have:(0+k)*i.bytes<=100000*64:=AR (by omega) q;omega
  rintro e w' ⟨rfl,rfl⟩
  have hge:=grownCap_ge w (0+k) 0 (aCX.t 25);generalize grownCap w (0+k) 0 (aCX.t 25)=C at *;have d:(([]:O K).toArray++CE z.cells (0+k-0)++CE z.cells (C-(0+k))).size=C*2:=by
   simp[size_zeroCells,o];omega
  generalize ([]:O K).toArray++CE z.cells (0+k-0)++CE z.cells (C-(0+k))=A at *;exact⟨(Ext.drew w).trans (Ext.alloc w.drew _ _),w.heap.size,A,aCX.t 25,C,rfl,Z0 _,heap_alloc_new w.drew _,d,Z9 _,λr u=>N u (DV r)⟩
 .simp at c
def aSw:RCtr AB:=⟨133,aMW,λargs w=>Tryz.call133 args w,aYi⟩
def bHJ(a b:Y)(f g:Y->MV):Y->MV:=aN [.sl 2 a f,.sl 2 b g]
def bBA:Y->MS->C LoopAnn:=λ_ _=>GC (.unroll 3)
theorem bFf(a b:Y)(f g:Y->MV)(c:_)(d:c=(News.rows 2 a f)):(((0:Z)<=0/\(0:Z)<(↑(2:Y):Z))/\bif G (X GF (0+(a:Z))<0)then W else (0<=X GF ((0:Z)+1)/\X GF ((0:Z)+1)<(↑(2:Y):Z))/\bif G (X GF (X GF (0+(a:Z))+(b:Z))<0)then W else (0<X GF (X GF (0+(a:Z))+(b:Z))/\X GF (X GF (0+(a:Z))+(b:Z))<=100000)/\((0:Z)<=0/\(0:Z)<(↑(2:Y):Z))/\(0<=0/\(0+AH c)*32<=140737488355328)/\(0<=X GF ((0:Z)+1)/\X GF ((0:Z)+1)<(↑(2:Y):Z))/\(0+AH c <=0+a/\(0+AH c +AH (News.rows 2 b g))*32<=140737488355328)/\0+AH c +AH (News.rows 2 b g)<=0+AH c +b/\2=2/\0+AH c +AH (News.rows 2 b g)=a+b/\LeFun (0+AH c +AH (News.rows 2 b g)) (λq=>bif AO q (0+AH c)then bif AO q 0 then MV.any else f (q-0)else g (q-(0+AH c))) λq=>bif AO q a then f q else g (q-a))=aJ (aX2 [] [.fr aSw] bBA (λ_ _=>GD)) F1 [.sl 1 2 (bHJ a b f g)] (A1 (.ret (.sl 2 (a+b) (λq=>bif AO q a then f q else g (q-a))))):=by subst d;kernel_rfl
def aPh:aG
 |[.sl 1 2 h]=>(match h 0,h 1 with
  |.sl 2 a f,.sl 2 b g=>GC (GC (0<a/\a<=10000/\b<=10000),.ret (.sl 2 (a+b) (λq=>bif AO q a then f q else g (q-a))))
  |_,_=>GD)
 |_=>GD
theorem bHa:∀j p r,aPh j=GC (p,r)->p.holds->∃ms',lO.leVs 0 j ms'/\∃E:Env AB,aJ E F1 ms' r.sat:=by
 intro j p r d q;unfold aPh at d;split at d
 .rename_i h;split at d
  .rename_i a f b g t s;simp only[Z1,Z2]at d;obtain⟨rfl,rfl⟩:=d;obtain⟨q1,q2,q3⟩:=q;refine⟨[.sl 1 2 (bHJ a b f g)],⟨⟨rfl,rfl,⟨λi l c w k r=>?_⟩⟩,⟨⟩⟩,aX2 [] [.fr aSw] bBA (λ_ _=>GD),?_⟩
   .match i,l with
    |0,_=>rw[t]at r;exact r
    |1,_=>rw[s]at r;exact r
   rw[<-bFf a b f g _ rfl];have v:AH (News.rows 2 a f)=a:=rfl;have u:AH (News.rows 2 b g)=b:=rfl;have o:X GF ((0:Z)+(a:Z))=(a:Z):=by rw[aT (by omega) (by omega)];omega
   have n:X GF ((a:Z)+(b:Z))=(a:Z)+(b:Z):=aT (by omega) (by omega);have m:X GF ((0:Z)+1)=1:=by decide
   rw[v,u,o,n,m,Y1 (show ¬(a:Z)<0 by omega),Y1 (show ¬(a:Z)+(b:Z)<0 by omega),Z5,Z5,BJ];refine⟨by omega,by omega,by omega,by omega,by omega,by omega,by omega,by omega,rfl,rfl,⟨λi l c w k r=>?_⟩⟩;show RepC c w (bif AO i a then f i else g (i-a)) k;have r:RepC c w (bif AO i a then (bif AO i 0 then MV.any else f (i-0))else g (i-a)) k:=r;cases e:AO i a with
   |true=>rw[e]at r;exact r
   |false=>rw[e]at r;exact r
  .simp at d
 .simp at d
def bGq:Ctr AB:=⟨94,aPh,λargs w=>Tryz.call94 args w,uK bT Tryz.func94 aPh bHa⟩
def aGY:aG
 |[.big a n,.st [.bool g,.ws l]]=>GC (GC (n<=1000/\okN g l),.ret (.bool (G (a=fG g l))))
 |_=>GD
def aF5:Ctr AB:=mS.conv aGY λms p r h b hf=>by
 unfold aGY at h;split at h
 .rename_i a n g l;simp only[Z1,Z2]at h;obtain⟨rfl,rfl⟩:=h;obtain⟨h1,c⟩:n<=1000/\okN g l:=b;exact⟨[.big a n,.big (fG g l) 200],_,⟨bQ,sX c,⟨⟩⟩,rfl,by omega,by omega⟩
 .simp at h
theorem bFU(a:Z)(n:Y)(g:J)(l:O Z):((n<=1000/\okN g l)/\G (a=fG g l)=G (a=fG g l))=aJ (aK [aF5] aC) FZ [.big a n,.ref (.st [.bool g,.ws l])] (A1 (.ret (.bool (G (a=fG g l))))):=by kernel_rfl
def aPy:aG
 |[.big a n,.ref (.st [.bool g,.ws l])]=>GC (GC (n<=1000/\okN g l),.ret (.bool (G (a=fG g l))))
 |_=>GD
theorem bHu:bE FZ aPy:=by
 intro ms p r h b;unfold aPy at h;split at h
 .rename_i a n g l;cases h;refine⟨aK [aF5] aC,?_⟩;rw[<-bFU a n g l];exact⟨b,rfl⟩
 .simp at h
def bBV:Ctr AB:=⟨98,aPy,λargs w=>Tryz.call98 args w,aM bT Tryz.func98 aPy bHu⟩
def aCA(z:Z):O Z->Y->Z
 |[],_=> -1
 |a::r,i=>o (G (a=z)) (i:Z) (aCA z r (i+1))
structure IdI (z:Int) (l:List Int) (w:WalkI):Prop where
 hi:w.i<=l.length
 hr:aCA z (l.drop w.i) w.i=aCA z l 0
def bBD(q:O Z)(g:J)(l:O Z):Y->MS->C LoopAnn
 |2,_=>GC (.inv WalkI (IdI (fG g l) q) (λi=>⟨19, [(0,.sl 2 q.length (iL q 200)),(1,.fn 98 [.ref (.st [.bool g,.ws l])]),(7,.int .i64 q.length),(8,.int .i64 i.i)], [],0⟩) (λi=>q.length-i.i))
 |_,_=>GD
theorem bFx(q:O Z)(g:J)(l:O Z):((∃i,IdI (fG g l) q i/\((2=2/\D q=D q/\LeFun (D q) (iL q 200) (iL q 200))/\((g=g/\l=l/\E)/\E)/\(D q:Z)=(D q:Z)/\0=(i.1:Z)/\E)/\E)/\∀(i:WalkI),IdI (fG g l) q i->bif G ((i.1:Z)<(D q:Z))then (0<=(i.1:Z)/\(i.1:Z)<(D q:Z))/\(200<=1000/\okN g l)/\bif G (F q (S (i.1:Z)) 0=fG g l)then (i.1:Z)=aCA (fG g l) q 0 else ∃j,IdI (fG g l) q j/\(((2=2/\D q=D q/\LeFun (D q) (iL q 200) (iL q 200))/\((g=g/\l=l/\E)/\E)/\(D q:Z)=(D q:Z)/\X GF ((i.1:Z)+1)=(j.1:Z)/\E)/\E)/\D q-j.1<D q-i.1 else (-1)=aCA (fG g l) q 0)=aJ (aK [bBV] (bBD q g l)) EQ [.sl 2 q.length (iL q 200),.fn 98 [.ref (.st [.bool g,.ws l])]] (A1 (.ret (.int .i64 (aCA (fG g l) q 0)))):=by kernel_rfl
theorem bDg(q:O Z)(g:J)(l:O Z)(h:okN g l)(hq:q.length<=1000000):∃E:Env AB,aJ E EQ [.sl 2 q.length (iL q 200),.fn 98 [.ref (.st [.bool g,.ws l])]] (A1 (.ret (.int .i64 (aCA (fG g l) q 0)))):=by
 refine⟨aK [bBV] (bBD q g l),?_⟩;rw[<-bFx q g l];refine⟨⟨⟨0⟩,⟨Z9 _,rfl⟩,?_⟩,λi I=>?_⟩
 .grind [AG]
 obtain⟨i⟩:=i;obtain⟨d,a⟩:=I;dsimp only at d a⊢;rw[Z8];refine aI Z4 (λq1=>?_) (λq1=>?_)
 .have b:i<q.length:=by omega
  rw[uG b]at a;have a:o (G (q.getD i 0=fG g l)) (i:Z) (aCA (fG g l) (q.drop (i+1)) (i+1))=_:=a;have e5:X GF ((i:Z)+1)=((i+1:Y):Z):=by rw[aT (by omega) (by omega)];omega
  refine⟨by omega,⟨by omega,h⟩,aI Z4 (λz=>?_) (λz=>?_)⟩
  .simp_all
  .rw[Y1 z]at a;refine⟨⟨i+1⟩,⟨b,a⟩,?_,by show q.length-(i+1)<q.length-i;omega⟩
   grind [AG]
 .have c:i=q.length:=by omega
  subst c;rw[DJ]at a;exact a
def aPn:aG
 |[.sl 2 n f,.fn 98 [.ref (.st [.bool g,.ws l])]]=>GC (GC (okN g l/\n<=1000000/\∀j,j<n->isBig 200 (f j)),.ret (.int .i64 (aCA (fG g l) (aH n f) 0)))
 |_=>GD
theorem bHf:∀a p r,aPn a=GC (p,r)->p.holds->∃ms',lO.leVs 0 a ms'/\∃E:Env AB,aJ E EQ ms' r.sat:=by
 intro a p r h b;unfold aPn at h;split at h
 .rename_i n f g l;cases h;obtain⟨e,d,c⟩:=b;refine⟨[.sl 2 (aH n f).length (iL (aH n f) 200),.fn 98 [.ref (.st [.bool g,.ws l])]],⟨aLa c,⟨⟨rfl,rfl,⟨⟩⟩,⟨⟩⟩,⟨⟩⟩,bDg (aH n f) g l e (by rw[bA];exact d)⟩
 .simp at h
def bBQ:Ctr AB:=⟨134,aPn,λargs w=>Tryz.call134 args w,uK bT Tryz.func134 aPn bHf⟩
theorem aGl(z:Z):∀(l:O Z) (i:Y),G (aCA z l i≥0)=l.elem z
 |[],_=>rfl
 |a::r,i=>by
  unfold aCA;by_cases h:a=z
  .simp_all
  .rw[Y1 h,Z5,aGl z r (i+1)]
   grind
theorem bFh(n:Y)(f:Y->MV)(g:J)(l:O Z):((okN g l/\n<=1000000/\∀(j:Y),j<n->isBig 200 (f j))/\G (aCA (fG g l) (aH n f) 0≥0)=List.elem (fG g l) (aH n f))=aJ (aK [bBQ] aC) F0 [.sl 2 n f,.fn 98 [.ref (.st [.bool g,.ws l])]] (A1 (.ret (.bool ((aH n f).elem (fG g l))))):=by kernel_rfl
def aPj:aG
 |[.sl 2 n f,.fn 98 [.ref (.st [.bool g,.ws l])]]=>GC (GC (okN g l/\n<=1000000/\∀j,j<n->isBig 200 (f j)),.ret (.bool ((aH n f).elem (fG g l))))
 |_=>GD
theorem bHc:bE F0 aPj:=by
 intro ms p r h a;unfold aPj at h;split at h
 .rename_i n f g l;cases h;refine⟨aK [bBQ] aC,?_⟩;rw[<-bFh n f g l];exact⟨a,aGl _ _ _⟩
 .simp at h
def bGr:Ctr AB:=⟨97,aPj,λargs w=>Tryz.call97 args w,aM bT Tryz.func97 aPj bHc⟩
def aMx:Y->MV:=aN [.st [.int .i64 1,.fn 135 []],.st [.int .i64 2,.fn 136 []],.st [.int .i64 3,.fn 137 []],.st [.int .i64 4,.fn 138 []]]
theorem aWa(n:Y):(4<=4/\2=2/\4=n/\LeFun 4 (aN [MV.st [MV.int GF (1:Z),MV.fn 135 []],MV.st [MV.int GF (2:Z),MV.fn 136 []],MV.st [MV.int GF (3:Z),MV.fn 137 []],MV.st [MV.int GF (4:Z),MV.fn 138 []]]) aMx)=aJ (aK [] aC) FY [] (A1 (.ret (.sl 2 n aMx))):=by kernel_rfl
def aDa:aG
 |[]=>GC (GD,.ret (.sl 2 4 aMx))
 |_=>GD
theorem aYT:bE FY aDa:=by
 intro ms p r h hp;unfold aDa at h;split at h
 .simp only[Z1,Z2]at h;obtain⟨rfl,rfl⟩:=h;refine⟨aK [] aC,?_⟩;rw[<-aWa 4];exact⟨Z0 _,rfl,rfl,AG⟩
 .simp at h
def aXv:Ctr AB:=⟨99,aDa,λargs w=>Tryz.call99 args w,aM bT Tryz.func99 aDa aYT⟩
def aXC:Ctr AB:=bCH.conv (aAF λs e q=>fR (aRt s (aH e q)) (.ret (.tup []))) (aFn λs e q ok _ _ q1 b a =>
 ⟨GC (kdP 200 200 200 200 200 200 200 s.base.length e (iL s.base 200) q),by
  show GC (_,fR (tU s.n s.base.length e (noC s)) _)=GC (_,fR (tU s.n s.base.length (aH e q).length (noC s)) _);rw[bA],yC ok q1 b a⟩)
def aXA:Ctr AB:=bCF.conv (aAF λs e q=>fR (aT1 s (aH e q)) (.ret (.tup []))) (aFn λs e q ok _ _ q1 b a =>
 ⟨GC (kdP 200 200 200 200 200 200 200 s.base.length e (iL s.base 200) q),by
  show GC (_,fR (yJ s.n (aH s.base.length (iL s.base 200)) (noC s) (aH e q)) _)=_;rw[eK];rfl,yC ok q1 b a⟩)
def aXB:Ctr AB:=bCG.conv (aAF λs e q=>fR (aUO s (aH e q)) (.ret (.tup []))) (aFn λs e q ok _ _ q1 b a =>
 ⟨GC (kdP 200 200 200 200 200 200 200 s.base.length e (iL s.base 200) q),by
  show GC (_,fR (yN s.n (aH s.base.length (iL s.base 200)) (noC s) (aH e q)) _)=_;rw[eK];rfl,yC ok q1 b a⟩)
def aXz:Ctr AB:=bCE.conv (aAF λs e q=>fR (aTe s (aH e q)) (.ret (.tup []))) (aFn λ_ _ _ ok _ _ q1 b a=>⟨_,rfl,yC ok q1 b a⟩)
def aPl:aG
 |[.st [.bool g,.ws l],.big b n]=>GC (GC (n<=1000/\okN g l),.ret (.int .i64 (aX (fG g l) b)))
 |_=>GD
def aXu:Ctr AB:=eF.conv aPl λms p r h a hf=>by
 unfold aPl at h;split at h
 .rename_i g l b n;simp only[Z1,Z2]at h;obtain⟨rfl,rfl⟩:=h;obtain⟨h1,c⟩:n<=1000/\okN g l:=a;exact⟨[.big (fG g l) 200,.big b n],_,⟨sX c,bQ,⟨⟩⟩,rfl,by omega,by omega⟩
 .simp at h
end
def KeepT(ops:O L)(a a':Act):Prop:=∀t,(∀o∈ops,o.dst≠GC t)->a'.tmps.getD t undef=a.tmps.getD t undef
theorem KeepT.refl(ops:O L)(a:Act):KeepT ops a a:=λ_ _=>rfl
theorem KeepT.put{ops:O L}{a a':Act}(h:KeepT ops a a'){o:L}(c:o∈ops)(v:K):KeepT ops a (a'.put o.dst v):=λt b=>(lJ a' (b o c) v).trans (h t b)
theorem KeepT.defer{ops:O L}{a a':Act}(h:KeepT ops a a')(c:O Deferred):KeepT ops a { a' with defers:=c }:=λt b=>h t b
def aKu(ops:O L)(b:Act)(Q:Exit->Act->I->Prop):Exit->Act->I->Prop
 |.outgrown,a,w=>Q .outgrown a w
 |e,a,w=>Q e a w/\KeepT ops b a
theorem aBz{ops:O L}{a:Act}{Q:Exit->Act->I->Prop}(h:LetsOut Q):LetsOut (aKu ops a Q):=h
theorem aG8{P:M}{ops:O L}{j:Act}{Q:Exit->Act->I->Prop}{o:L}{a:Act}{K K':Act->I->Prop}(c:o∈ops)(b:KeepT ops j a)(g:∀i k,KeepT ops j i->K' i k->K i k):∀r,o.upon P a K' Q r->o.upon P a K (aKu ops j Q) r:=by
 intro r h;cases r with
 |ok n w' =>
  cases n<;>simp only[Oper.upon]at h⊢
  case value x=>exact g _ _ (b.put c _) h
  case skip=>exact g _ _ (b.put c _) h
  case defer x=>exact g _ _ ((b.defer _).put c _) h
  case enter f args =>
   refine Calls.mono h λe w'' d=>?_;cases e with
   |returned x=>exact g _ _ (b.put c _) d
   |panicked ch=>exact⟨d,b⟩
   |outgrown=>exact aBz d
  case row r args=>exact Rows.mono h λx w'' d=>g _ _ (b.put c _) d
 |halt x w' =>
  cases x<;>simp only[Oper.upon]at h⊢
  exact⟨h,b⟩
theorem vL{P:M}{ops:R L}{g:Act}{Q:Exit->Act->I->Prop}:∀(l:O L) (a:Act) (w:I),(∀o∈l,o∈ops.toList)->KeepT ops.toList g a->wpList P ops Q l a w->wpList P ops (aKu ops.toList g Q) l a w
 |[],a,w,_,b,h=>⟨h,b⟩
 |o::l,a,w,e,b,h=>by
  have f:=e o (AJ ..);unfold wpList at h⊢;split
  .rename_i d;rw[U d]at h;exact h.imp (λh=>aG8 f b (λk i j=>vL l k i (λx c=>e x (AF _ c)) j) _ h) λh=>⟨h.1,aBz h.2⟩
  .rename_i d;rw[V d]at h;exact vL l _ w (λx c=>e x (AF _ c)) (b.put f _) h
theorem tL{P:M}{ops:R L}{e:Act}{Q:Exit->Act->I->Prop}:∀(fuel:Y) (listed:R J) (a:Act) (w:I),KeepT ops.toList e a->wpAny P .any ops Q fuel listed a w->wpAny P .any ops (aKu ops.toList e Q) fuel listed a w
 |0,listed,a,w,b,h=>⟨h.1,h.2,b⟩
 |fuel+1,listed,a,w,b,h=>by
  refine⟨λq=>⟨h.1 q,b⟩,λi j=>?_⟩;have h:=h.2 i j;unfold wpOp at h⊢;split
  .rename_i q;rw[q]at h;exact tL fuel _ a w b h
  .rename_i o q;rw[q]at h;dsimp only at h;have d:o∈ops.toList:=by
    rw[Array.mem_toList_iff];exact Array.mem_of_getElem? q
   split
   .rename_i c;rw[U c]at h;exact h.imp (λh=>aG8 d b (λk f g=>tL fuel _ k f g) _ h) λh=>⟨h.1,aBz h.2⟩
   .rename_i c;rw[V c]at h;exact tL fuel _ _ w (b.put d _) h
theorem aVn{P:M}{ops:R L}{draw:J}{Q:Exit->Act->I->Prop}{a:Act}{w:I}(h:aBY P ops draw Q a w):aBY P ops draw (aKu ops.toList a Q) a w:=by
 cases draw with
 |false=>exact vL _ a w (λ_ h=>h) (KeepT.refl _ _) h
 |true=>exact tL _ _ a _ (KeepT.refl _ _) h
theorem yW{P:M}{ops:R L}{Q Q':Exit->Act->I->Prop}(e:∀a w,Q' .normal a w->Q .normal a w)(b:LetsOut Q'->LetsOut Q)(d:∀ch a w,Q' (.panic ch) a w->Q (.panic ch) a w) :
  ∀(l:O L) (a:Act) (w:I),wpList P ops Q' l a w->wpList P ops Q l a w
 |[],a,w,h=>e a w h
 |o::l,a,w,h=>by
  unfold wpList at h⊢;split
  .rename_i c;rw[U c]at h;exact h.imp (λh=>aA3 (λg f=>yW e b d l g f) b d _ h) λh=>⟨h.1,b h.2⟩
  .rename_i c;rw[V c]at h;exact yW e b d l _ w h
theorem wZ{P:M}{ops:R L}{Q Q':Exit->Act->I->Prop}(b:∀a w,Q' .normal a w->Q .normal a w)(c:LetsOut Q'->LetsOut Q)(d:∀ch a w,Q' (.panic ch) a w->Q (.panic ch) a w) :
  ∀(fuel:Y) (listed:R J) (a:Act) (w:I),wpAny P .any ops Q' fuel listed a w->wpAny P .any ops Q fuel listed a w
 |0,listed,a,w,h=>⟨h.1,b _ _ h.2⟩
 |fuel+1,listed,a,w,h=>by
  refine⟨λq=>b _ _ (h.1 q),λi g=>?_⟩;have h:=h.2 i g;unfold wpOp at h⊢;split
  .rename_i q;rw[q]at h;exact wZ b c d fuel _ a w h
  .rename_i o q;rw[q]at h;dsimp only at h;split
   .rename_i e;rw[U e]at h;exact h.imp (λh=>aA3 (λj f=>wZ b c d fuel _ j f) c d _ h) λh=>⟨h.1,c h.2⟩
   .rename_i e;rw[V e]at h;exact wZ b c d fuel _ _ w h
theorem aZ1{P:M}{ops:R L}{draw:J}{Q Q':Exit->Act->I->Prop}(c:∀a w,Q' .normal a w->Q .normal a w)(d:LetsOut Q'->LetsOut Q)(b:∀ch a w,Q' (.panic ch) a w->Q (.panic ch) a w){a:Act}{w:I}(h:aBY P ops draw Q' a w):aBY P ops draw Q a w:=by
 cases draw with
 |false=>exact yW c d b _ a w h
 |true=>exact wZ c d b _ _ a _ h
theorem aEk{P:M}{E:Env P}{Kp:MV->Prop}{lt:O Y}{ops:R L}{draw:J}{S0:Y->Prop}{w0:Base}{Q:Exit->Act->I->Prop}(g:∀m v w' a',Kp m->PanB w0 w'->Rep1 (EC S0) w' m v->a'.defers=w0.df->Q (.panic [{ v,recovered:=false }]) a' w'){s:MS}{K:MS->Prop}{c:Ctx}{a:Act}{w:I}(h:lT E lt ops.toList draw s K Kp)(b:St S0 w0 s c a w)(k:∀s' c' a' w',K s'->St S0 w0 s' c' a' w'->s'.n=s.n->Q .normal a' w'):aBY P ops draw Q a w:=by
 unfold lT at h;split at h
 .exact mJ g h b k
 .rename_i j hj;simp only at h;generalize hx:lL 0 (jQ [] ops.toList)-1=x at h;cases f:(draw&&aEA j x ops.toList)with
  |false=>rw[f]at h;exact h.elim
  |true =>
   rw[f,Z6]at h;simp only[Z3]at f;obtain⟨rfl,e⟩:=f;obtain⟨oj,ox,u,d,e⟩:=aB9 e;have y:mW E (cP j x ops).toList GE s K Kp:=h;have H:=mJ (Q:=rN Q) (λm v w' a' q1 t r p z l=>g m v w' z q1 t r (l.trans p)) y b k;show wpAny P .any ops Q ops.size (CA ops.size GG) a { w with drawn:=w.drawn+1 };have H:wpAny P .any (cP j x ops) (rN Q) (cP j x ops).size (CA (cP j x ops).size GG) a { w with drawn:=w.drawn+1 }:=H;rw[lW]at H;refine aKy (Q:=Q) (Q':=rN Q) e (λ_ _ q=>q) (λ⟨a,w,q⟩=>⟨a,w,q⟩) (λch a w q=>q a rfl) (λch a d v w q=>q a (by cases d<;>rfl)) _ _ _ _ ⟨by simp,λi o _ e=>?_⟩ H;have:(CA ops.size GG).getD i GG=GG:=by
    simp only[DT,Array.getElem?_replicate];split<;>rfl
   simp_all
def eH{P:M}(E:Env P)(Kp:MS->O L->MV->Prop):Code->MS->(Ex->MS->Prop)->Prop
 |.skip,s,K=>K .normal s
 |.label _,s,K=>K .normal s
 |.region id ops draw,s,K=>lT E (E.fzs id) ops.toList draw (s.frz (E.fzs id)) (K .normal) (Kp s ops.toList)
 |.seq a b,s,K=>aOv (E.cut (cW b) s) K (λK'=>eH E Kp a s K') (λs'=>eH E Kp b s' K)
 |.cond c a b,s,K=>(match c with
  |.tmp t=>(match aW t s.tm with
   |.bool x=>Br x (eH E Kp a (s.put t (.bool GE)) K) (eH E Kp b (s.put t (.bool GG)) K)
   |_=>oJ (.cond c .skip .skip))
  |_=>oJ (.cond c .skip .skip))
 |.block id c,s,K=>eH E Kp c s (λe s'=>match e with|.exit j=>o (j.beq id) (K .normal s') (K (.exit j) s')|e=>K e s')
 |.loop c,s,K=>aHC (cW c) (eH E Kp c) (E.ann (cW c) s) s K
 |.exit id,s,K=>K (.exit id) s
 |.ret,s,K=>K .ret s
 |.scope c,s,K=>eH E Kp c s K
 |c,_,_=>oJ c
structure PanS (S0:Nat->Prop) (w0:Base) (Kp:MS->List Oper->MV->Prop) (m:MV) (v:Value) (w':World) (a':Act):Prop where
 h:∃s ops c a w,Kp s ops m/\St S0 w0 s c a w/\KeepT ops a a'
 pan:PanB w0 w'
 rep:Rep1 (EC S0) w' m v
 df:a'.defers=w0.df
def bIp(S0:Y->Prop)(w0:Base)(Kp:MV->Prop)(Q:Exit->Act->I->Prop):Exit->Act->I->Prop
 |.panic ch,a',w'=>∃m v,ch=[{ v,recovered:=false }]/\Kp m/\PanB w0 w'/\Rep1 (EC S0) w' m v/\a'.defers=w0.df
 |.outgrown,_,_=>W
 |e,a',w'=>Q e a' w'
theorem dD{P:Program}(f:P.follows .mixedOrders=GE){E:Env P}{Kp:MS->GI Oper->MV->Prop}{S0:GJ->Prop}{w0:Base} :
  ∀(c:Code) (s:MS) (K:Ex->MS->Prop) (n:Ctx) (a:Act) (w:World) (Q:Exit->Act->World->Prop),eH E Kp c s K->St S0 w0 s n a w->
  (∀e s' c' a' w',K e s'->St S0 w0 s' c' a' w'->Q e.out a' w')->
  (∀m v w' a',PanS S0 w0 Kp m v w' a'->Q (.panic [{ v,recovered:=false }]) a' w')->c.wp P Q a w
 |.skip,s,K,n,a,w,Q,h,k,d,o=>wp_skip (d .normal s n a w h k)
 |.label l,s,K,n,a,w,Q,h,k,d,o=>wp_label (d .normal s n a w h k)
 |.region id ops draw,s,K,n,a,w,Q,h,k,d,o=>by
  have h:lT E (E.fzs id) ops.toList draw (s.frz (E.fzs id)) (K .normal) (Kp s ops.toList):=by simpa only[eH]using h
  have H:=aVn (aEk (Q:=bIp S0 w0 (Kp s ops.toList) Q) (λm v w' a' q1 g L J=>⟨m,v,rfl,q1,g,L,J⟩) h (k.frzs _) (λs' c' a' w' q1 g _=>d .normal s' c' a' w' q1 g));refine aBX f (aZ1 (λ_ _ h=>h.1) (λ⟨_,_,h⟩=>h.elim) (λch a' w' h=>?_) H);obtain⟨⟨m,v,rfl,q1,g,L,J⟩,X⟩:=h;exact o m v w' a' ⟨⟨s,ops.toList,n,a,w,q1,k,X⟩,g,L,J⟩
 |.seq x y,s,K,n,a,w,Q,h,k,d,o=>by
  simp only[eH]at h;generalize E.cut (cW y) s=A at h;unfold aOv at h;split at h
  .refine wp_seq (dD f x s _ n a w _ h k (λe s' c' a' w' q1 g=>?_) (λm v w' a' q1=>o m v w' a' q1));cases e with
   |normal=>exact dD f y s' K c' a' w' Q q1 g d o
   |exit id=>exact d (.exit id) s' c' a' w' q1 g
   |ret=>exact d .ret s' c' a' w' q1 g
  .obtain⟨G,M⟩:=h;refine wp_seq (dD f x s _ n a w _ G k (λe s' c' a' w' q1 g=>?_) (λm v w' a' q1=>o m v w' a' q1));cases e with
   |normal =>
    obtain⟨j,p,r⟩:=q1;obtain⟨N,u⟩:=g.le r;exact dD f y _ K N a' w' Q (M j p) u d o
   |exit id=>exact d (.exit id) s' c' a' w' q1 g
   |ret=>exact d .ret s' c' a' w' q1 g
 |.cond cc x y,s,K,n,a,w,Q,h,k,d,o=>by
  simp only[eH]at h;split at h
  .rename_i t;split at h
   .rename_i b Z;have F:=k.tm t;rw[Z]at F;have V:a.eval (.tmp t)= .bool b:=fI F;unfold Br at h;cases b with
    |true =>
     rw[Z6]at h;exact wp_cond V (dD f x _ K n a w Q h (k.again F) d o)
    |false =>
     rw[Z5]at h;exact wp_cond V (dD f y _ K n a w Q h (k.again F) d o)
   .exact h.elim
  .exact h.elim
 |.block id x,s,K,n,a,w,Q,h,k,d,o=>by
  simp only[eH]at h;refine wp_block (dD f x s _ n a w _ h k (λe s' c' a' w' q1 g=>?_) (λm v w' a' q1=>o m v w' a' q1));cases e with
  |normal=>exact d .normal s' c' a' w' q1 g
  |exit j =>
   simp only[Ex.out,Exit.inBlock];cases p:j.beq id with
   |true =>
    simp only[DZ]at p;rw[if_pos p];have q1:cond (j.beq id) (K .normal s') (K (.exit j) s'):=q1;rw[show j.beq id=GE by simpa using p,Z6]at q1;exact d .normal s' c' a' w' q1 g
   |false =>
    have R:¬j=id:=by intro e;subst e;simp at p
    rw[if_neg R];have q1:cond (j.beq id) (K .normal s') (K (.exit j) s'):=q1;rw[p,Z5]at q1;exact d (.exit j) s' c' a' w' q1 g
  |ret=>exact d .ret s' c' a' w' q1 g
 |.loop x,s,K,n,a,w,Q,h,k,d,o=>by
  simp only[eH]at h;generalize hann:E.ann (cW x) s=A at h;unfold aHC at h;split at h
  .exact h.elim
  .rename_i U;have h:rD (eH E Kp x) U s K:=h;refine wp_loop_ghost (λm a' w'=>∃s' c',rD (eH E Kp x) m s' K/\St S0 w0 s' c' a' w') U ⟨s,n,h,k⟩ ?_
   rintro m a' w' ⟨s',c',G,M⟩
   cases m with
   |zero=>exact G.elim
   |succ m =>
    refine dD f x s' _ c' a' w' _ G M (λe s2 z C B q1 g=>?_) (λm v w' a' q1=>o m v w' a' q1);cases e with
    |normal=>exact⟨m,EW m,s2,z,q1,g⟩
    |exit id=>exact d (.exit id) s2 z C B q1 g
    |ret=>exact d .ret s2 z C B q1 g
  .rename_i ι I T μ;obtain⟨⟨W,hi0,D⟩,q⟩:=h;refine wp_loop_ghost (λm a' w'=>∃i c',I i/\μ i=m/\St S0 w0 (T i) c' a' w') (μ W) (by
    obtain⟨c',hc'⟩:=k.le D
    grind) ?_
   rintro m a' w' ⟨i,c',Y,rfl,O⟩
   refine dD f x (T i) _ c' a' w' _ (q i Y) O (λe s2 z C B q1 g=>?_) (λm v w' a' q1=>o m v w' a' q1);cases e with
   |normal =>
    obtain⟨j,p,r,S⟩:=q1;obtain⟨N,u⟩:=g.le r;exact⟨μ j,S,j,N,p,rfl,u⟩
   |exit id=>exact d (.exit id) s2 z C B q1 g
   |ret=>exact d .ret s2 z C B q1 g
 |.exit id,s,K,n,a,w,Q,h,k,d,o=>wp_exit (d (.exit id) s n a w h k)
 |.ret,s,K,n,a,w,Q,h,k,d,o=>wp_ret (d .ret s n a w h k)
 |.rangeFunc _ _ _ _,s,K,n,a,w,Q,h,k,d,o=>by simp only[eH]at h;exact h.elim
 |.scope x,s,K,n,a,w,Q,h,k,d,o=>wp_scope_straight (dD f x s K n a w _ (by simpa only[eH]using h) k (λe s' c' a' w' q1 g=>by
   cases e with
   |normal=>exact d .normal s' c' a' w' q1 g
   |exit id=>exact d (.exit id) s' c' a' w' q1 g
   |ret=>exact d .ret s' c' a' w' q1 g) (λm v w' a' q1=>o m v w' a' q1))
 |.goto _,s,K,n,a,w,Q,h,k,d,o=>by simp only[eH]at h;exact h.elim
 |.refuse _,s,K,n,a,w,Q,h,k,d,o=>by simp only[eH]at h;exact h.elim
noncomputable def aIc:Code:=aZ (aZ (qO ED))
def bE1(L:O Stp):MS:=⟨112, [(2,.bp 0 0),(0,.sl 18 L.length (aF L 200))], [⟨GG,.one (.bool GG)⟩],1⟩
def rtK(T:J):Ex->MS->Prop
 |.ret,s=>(match aW 2 s.tm with
  |.bp i off=>o (i.beq 0&&off.beq 0) (match aR s.bx 0 with
   |some b=>(match b.c with
    |.one x=>fN 0 x (.bool T)
    |_=>W)
   |none=>W) W
  |_=>W)
 |_,_=>W
def aMF(t:Y)(ops:O L):J:=ops.all λo=>(match o.dst with
 |some u=>!(u.beq t)
 |none=>GE)
theorem aQW{t:Y}{ops:O L}(h:aMF t ops=GE):∀o∈ops,o.dst≠GC t:=λo a e=>by
 have:=A4.1 h o a
 simp_all
def rtP(T:J)(s:MS)(ops:O L)(m:MV):Prop :=
 match aW 2 s.tm with
 |.bp i off=>o (i.beq 0&&(off.beq 0&&aMF 2 ops)) (T=GG/\m=fC) W
 |_=>W
structure OneI (w:WalkI):Prop where
 h:w.i=0
def rtT(L:O Stp)(m:Y)(s:Stp):MS:=⟨112, [(2,.bp 0 0),(3,.bp 1 0),(4,.sl 18 m (aF L 200))], [⟨GG,.one (.bool GG)⟩,⟨GG,.one (m8 s 200)⟩],1⟩
def aVu(L:O Stp)(m:Y)(s:Stp):Y->MS->C CutAnn
 |3,_=>GC (.mk WalkI OneI (λ_=>rtT L m s))
 |_,_=>GD
def rtE(ann:Y->MS->C LoopAnn)(cut:Y->MS->C CutAnn):Env AB :=
 ⟨[bGq,aS0,dQ,jE,aXu,bGr,aXv,aXC,aXA,aXB,aXz], [],39,ann,fun|15=> [3]|999994=> [0]|_=> [],cut⟩
def aNz(L:O Stp)(m:Y)(s:Stp)(a:O Z)(R:C (O Z)):Y->MS->C LoopAnn
 |4,e=>GC (.inv WalkI (CnI s) (λi=>⟨112, [(2,.bp 0 0),(3,.bp 1 0),(4,.sl 18 m (aF L 200)),(48,.sl 2 (7+s.base.length) (aEY (qR s))),(49,.int .i64 (7+s.base.length:Y)),(50,.int .i64 i.i)],e.bx,1⟩) (λi=>7+s.base.length-i.i))
 |11,e=>GC (.inv PaS (PaI a s.parts R) (λp=>⟨112, [(2,.bp 0 0),(3,.bp 1 0),(4,.sl 18 m (aF L 200)),(7,.bs 2 0 p.q.length),(65,.sl 1 s.parts.length (bJ s.parts)),(66,.int .i64 s.parts.length),(67,.int .i64 p.k)],e.bx.take 2++[⟨GG,.rows 2 p.q.length (iL p.q 200)⟩],1⟩) (λp=>s.parts.length-p.k))
 |19,_=>GC (.unroll 5)
 |_,_=>GD
theorem aWO(L:O Stp)(m:Y)(s:Stp)(d:O Z)(R:C (O Z))(T:J)(b:_)(f:b=(aF L (200:Y)))(c:_)(e:c=(X GF ((↑(D L):Z)-1)))(a:_)(g:a=(F L (S c) aB)):((((0:Z)<=X GF ((↑(D L):Z)-1)/\X GF ((↑(D L):Z)-1)<(↑(D L):Z))/\((0:Z)<=X GF ((↑(D L):Z)-1)/\X GF ((↑(D L):Z)-1)<=(↑(D L):Z))/\∃i,OneI i/\((0:Y)=0/\(0:Y)=0/\((18:Y)=18/\S c =m/\LeFun (S c) b b)/\E)/\GG=GG/\(Stp.kind a =Stp.kind s/\(Stp.neg a =Stp.neg s/\Stp.mag a =Stp.mag s/\E)/\((1:Y)=1/\D (Stp.parts a)=D (Stp.parts s)/\LeFun (D (Stp.parts a)) (bJ (Stp.parts a)) (bJ (Stp.parts s)))/\((2:Y)=2/\D (Stp.base a)=D (Stp.base s)/\LeFun (D (Stp.base a)) (iL (Stp.base a) (200:Y)) (iL (Stp.base s) (200:Y)))/\(aD (Stp.ca a) (Stp.ca s) 200 200/\aD (Stp.cb a) (Stp.cb s) 200 200/\aD (Stp.cm a) (Stp.cm s) 200 200/\E)/\(aD (Stp.x a) (Stp.x s) 200 200/\aD (Stp.y a) (Stp.y s) 200 200/\Stp.inf a =Stp.inf s/\E)/\aD (Stp.ord a) (Stp.ord s) 200 200/\E)/\E)/\∀(i:WalkI),OneI i->((0:Y)<7/\(7:Y)<=10000/\D (Stp.base s)<=10000)/\(∃i,CnI s i/\((0:Y)=0/\(0:Y)=0/\((18:Y)=18/\m=m/\LeFun m b b)/\((2:Y)=2/\(7:Y)+D (Stp.base s)=7+D (Stp.base s)/\LeFun ((7:Y)+D (Stp.base s)) (λq=>bif AO q (7:Y)then aN [MV.st [MV.bool (Stp.neg s),MV.ws (Stp.mag s)],MV.big (Stp.ca s) (200:Y),MV.big (Stp.cb s) (200:Y),MV.big (Stp.cm s) (200:Y),MV.big (Stp.x s) (200:Y),MV.big (Stp.y s) (200:Y),MV.big (Stp.ord s) (200:Y)] q else iL (Stp.base s) (200:Y) (q-7)) (aEY (qR s)))/\(↑((7:Y)+D (Stp.base s)):Z)=(↑((7:Y)+D (Stp.base s)):Z)/\(0:Z)=(↑(i.1):Z)/\E)/\GG=GG/\(Stp.kind s=Stp.kind s/\(Stp.neg s=Stp.neg s/\Stp.mag s=Stp.mag s/\E)/\((1:Y)=1/\D (Stp.parts s)=D (Stp.parts s)/\LeFun (D (Stp.parts s)) (bJ (Stp.parts s)) (bJ (Stp.parts s)))/\((2:Y)=2/\D (Stp.base s)=D (Stp.base s)/\LeFun (D (Stp.base s)) (iL (Stp.base s) (200:Y)) (iL (Stp.base s) (200:Y)))/\(aD (Stp.ca s) (Stp.ca s) 200 200/\aD (Stp.cb s) (Stp.cb s) 200 200/\aD (Stp.cm s) (Stp.cm s) 200 200/\E)/\(aD (Stp.x s) (Stp.x s) 200 200/\aD (Stp.y s) (Stp.y s) 200 200/\Stp.inf s=Stp.inf s/\E)/\aD (Stp.ord s) (Stp.ord s) 200 200/\E)/\E)/\∀(i:WalkI),CnI s i->bif G ((↑(i.1):Z)<(↑((7:Y)+D (Stp.base s)):Z))then ((0:Z)<=(↑(i.1):Z)/\(↑(i.1):Z)<(↑((7:Y)+D (Stp.base s)):Z))/\D (Prod.snd (F (qR s) (S (↑(i.1):Z)) (GG, [])))<=1000000/\bif nF (Prod.fst (F (qR s) (S (↑(i.1):Z)) (GG, []))) (Prod.snd (F (qR s) (S (↑(i.1):Z)) (GG, [])))then ∃j,CnI s j/\(((0:Y)=0/\(0:Y)=0/\((18:Y)=18/\m=m/\LeFun m b b)/\((2:Y)=2/\(7:Y)+D (Stp.base s)=7+D (Stp.base s)/\LeFun ((7:Y)+D (Stp.base s)) (aEY (qR s)) (aEY (qR s)))/\(↑((7:Y)+D (Stp.base s)):Z)=(↑((7:Y)+D (Stp.base s)):Z)/\X GF ((↑(i.1):Z)+1)=(↑(j.1):Z)/\E)/\GG=GG/\(Stp.kind s=Stp.kind s/\(Stp.neg s=Stp.neg s/\Stp.mag s=Stp.mag s/\E)/\((1:Y)=1/\D (Stp.parts s)=D (Stp.parts s)/\LeFun (D (Stp.parts s)) (bJ (Stp.parts s)) (bJ (Stp.parts s)))/\((2:Y)=2/\D (Stp.base s)=D (Stp.base s)/\LeFun (D (Stp.base s)) (iL (Stp.base s) (200:Y)) (iL (Stp.base s) (200:Y)))/\(aD (Stp.ca s) (Stp.ca s) 200 200/\aD (Stp.cb s) (Stp.cb s) 200 200/\aD (Stp.cm s) (Stp.cm s) 200 200/\E)/\(aD (Stp.x s) (Stp.x s) 200 200/\aD (Stp.y s) (Stp.y s) 200 200/\Stp.inf s=Stp.inf s/\E)/\aD (Stp.ord s) (Stp.ord s) 200 200/\E)/\E)/\(7:Y)+D (Stp.base s)-j.1<7+D (Stp.base s)-i.1 else T=GG/\fC=fC else ((64:Y)<=1000/\okN (Stp.neg s) (Stp.mag s))/\bif G (aX (fG (Stp.neg s) (Stp.mag s)) (1:Z)>0)then (∃i,PaI d (Stp.parts s) R i/\((0:Y)=0/\(0:Y)=0/\((18:Y)=18/\m=m/\LeFun m b b)/\(AE GD (0:Y) (0:Y)=AE GD (0:Y) (0:Y)/\(0:Y)=0/\D (PaS.q i)=0)/\((1:Y)=1/\D (Stp.parts s)=D (Stp.parts s)/\LeFun (D (Stp.parts s)) (bJ (Stp.parts s)) (bJ (Stp.parts s)))/\(↑(D (Stp.parts s)):Z)=(↑(D (Stp.parts s)):Z)/\(0:Z)=(↑(PaS.k i):Z)/\E)/\GG=GG/\(Stp.kind s=Stp.kind s/\(Stp.neg s=Stp.neg s/\Stp.mag s=Stp.mag s/\E)/\((1:Y)=1/\D (Stp.parts s)=D (Stp.parts s)/\LeFun (D (Stp.parts s)) (bJ (Stp.parts s)) (bJ (Stp.parts s)))/\((2:Y)=2/\D (Stp.base s)=D (Stp.base s)/\LeFun (D (Stp.base s)) (iL (Stp.base s) (200:Y)) (iL (Stp.base s) (200:Y)))/\(aD (Stp.ca s) (Stp.ca s) 200 200/\aD (Stp.cb s) (Stp.cb s) 200 200/\aD (Stp.cm s) (Stp.cm s) 200 200/\E)/\(aD (Stp.x s) (Stp.x s) 200 200/\aD (Stp.y s) (Stp.y s) 200 200/\Stp.inf s=Stp.inf s/\E)/\aD (Stp.ord s) (Stp.ord s) 200 200/\E)/\E)/\∀(i:PaS),PaI d (Stp.parts s) R i->bif G ((↑(PaS.k i):Z)<(↑(D (Stp.parts s)):Z))then ((0:Z)<=(↑(PaS.k i):Z)/\(↑(PaS.k i):Z)<(↑(D (Stp.parts s)):Z))/\bif G ((0:Z)<=F (Stp.parts s) (S (↑(PaS.k i):Z)) (0:Z))then bif G (F (Stp.parts s) (S (↑(PaS.k i):Z)) (0:Z)<(↑m:Z))then ((0:Z)<=F (Stp.parts s) (S (↑(PaS.k i):Z)) (0:Z)/\F (Stp.parts s) (S (↑(PaS.k i):Z)) (0:Z)<(↑m:Z))/\(D (PaS.q i)<=D (PaS.q i)/\okN (Stp.neg (F L (S (F (Stp.parts s) (S (↑(PaS.k i):Z)) (0:Z))) aB)) (Stp.mag (F L (S (F (Stp.parts s) (S (↑(PaS.k i):Z)) (0:Z))) aB))/\D (PaS.q i)<=1000000/\∀(j:Y),j<D (PaS.q i)->isBig (200:Y) (iL (PaS.q i) (200:Y) j))/\bif !List.elem (fG (Stp.neg (F L (S (F (Stp.parts s) (S (↑(PaS.k i):Z)) (0:Z))) aB)) (Stp.mag (F L (S (F (Stp.parts s) (S (↑(PaS.k i):Z)) (0:Z))) aB))) (aH (D (PaS.q i)) (iL (PaS.q i) (200:Y)))then (D (PaS.q i)<=D (PaS.q i)/\(D (PaS.q i)+AH (News.rows (2:Y) (1:Y) (aN [MV.st [MV.bool (Stp.neg (F L (S (F (Stp.parts s) (S (↑(PaS.k i):Z)) (0:Z))) aB)),MV.ws (Stp.mag (F L (S (F (Stp.parts s) (S (↑(PaS.k i):Z)) (0:Z))) aB))]])))*32<=140737488355328)/\∃j,PaI d (Stp.parts s) R j/\(((0:Y)=0/\(0:Y)=0/\((18:Y)=18/\m=m/\LeFun m b b)/\((0:Y)=0/\D (PaS.q i)+AH (News.rows (2:Y) (1:Y) (aN [MV.st [MV.bool (Stp.neg (F L (S (F (Stp.parts s) (S (↑(PaS.k i):Z)) (0:Z))) aB)),MV.ws (Stp.mag (F L (S (F (Stp.parts s) (S (↑(PaS.k i):Z)) (0:Z))) aB))]]))=D (PaS.q j))/\((1:Y)=1/\D (Stp.parts s)=D (Stp.parts s)/\LeFun (D (Stp.parts s)) (bJ (Stp.parts s)) (bJ (Stp.parts s)))/\(↑(D (Stp.parts s)):Z)=(↑(D (Stp.parts s)):Z)/\X GF ((↑(PaS.k i):Z)+1)=(↑(PaS.k j):Z)/\E)/\GG=GG/\(Stp.kind s=Stp.kind s/\(Stp.neg s=Stp.neg s/\Stp.mag s=Stp.mag s/\E)/\((1:Y)=1/\D (Stp.parts s)=D (Stp.parts s)/\LeFun (D (Stp.parts s)) (bJ (Stp.parts s)) (bJ (Stp.parts s)))/\((2:Y)=2/\D (Stp.base s)=D (Stp.base s)/\LeFun (D (Stp.base s)) (iL (Stp.base s) (200:Y)) (iL (Stp.base s) (200:Y)))/\(aD (Stp.ca s) (Stp.ca s) 200 200/\aD (Stp.cb s) (Stp.cb s) 200 200/\aD (Stp.cm s) (Stp.cm s) 200 200/\E)/\(aD (Stp.x s) (Stp.x s) 200 200/\aD (Stp.y s) (Stp.y s) 200 200/\Stp.inf s=Stp.inf s/\E)/\aD (Stp.ord s) (Stp.ord s) 200 200/\E)/\(D (PaS.q i)+1=D (PaS.q j)/\LeFun (D (PaS.q i)+1) (λq=>bif AO q (D (PaS.q i))then iL (PaS.q i) (200:Y) q else aN [MV.st [MV.bool (Stp.neg (F L (S (F (Stp.parts s) (S (↑(PaS.k i):Z)) (0:Z))) aB)),MV.ws (Stp.mag (F L (S (F (Stp.parts s) (S (↑(PaS.k i):Z)) (0:Z))) aB))]] (q-D (PaS.q i))) (iL (PaS.q j) (200:Y)))/\E)/\D (Stp.parts s)-PaS.k j<D (Stp.parts s)-PaS.k i else T=GG/\fC=fC else T=GG/\fC=fC else T=GG/\fC=fC else ((0:Z)<=0/\(0:Z)<(↑(4:Y):Z))/\bif (1:Z)==Stp.kind s then (D (PaS.q i)<=D (PaS.q i)/\(rawS (MV.st [MV.int GF (Stp.kind s),MV.st [MV.bool (Stp.neg s),MV.ws (Stp.mag s)],MV.sl (1:Y) (D (Stp.parts s)) (bJ (Stp.parts s)),MV.sl (2:Y) (D (Stp.base s)) (iL (Stp.base s) (200:Y)),MV.st [MV.big (Stp.ca s) (200:Y),MV.big (Stp.cb s) (200:Y),MV.big (Stp.cm s) (200:Y)],MV.st [MV.big (Stp.x s) (200:Y),MV.big (Stp.y s) (200:Y),MV.bool (Stp.inf s)],MV.big (Stp.ord s) (200:Y)]) λs=>CT s=GE/\(2:Z)<=EG s)/\(∀(j:Y),j<D (PaS.q i)->isBig (200:Y) (iL (PaS.q i) (200:Y) j))/\D (PaS.q i)<=90/\∀(z:Z),z∈aH (D (PaS.q i)) (iL (PaS.q i) (200:Y))->(2:Z)<=z)/\bif aRt {kind:=Stp.kind s,neg:=Stp.neg s,mag:=Stp.mag s,parts:=iY (D (Stp.parts s)) (bJ (Stp.parts s)),base:=aH (D (Stp.base s)) (iL (Stp.base s) (200:Y)),ca:=Stp.ca s,cb:=Stp.cb s,cm:=Stp.cm s,x:=Stp.x s,y:=Stp.y s,inf:=Stp.inf s,ord:=Stp.ord s} (aH (D (PaS.q i)) (iL (PaS.q i) (200:Y)))then GE=T else T=GG/\fC=fC else ((0:Z)<=X GF ((0:Z)+1)/\X GF ((0:Z)+1)<(↑(4:Y):Z))/\bif (2:Z)==Stp.kind s then (D (PaS.q i)<=D (PaS.q i)/\(rawS (MV.st [MV.int GF (Stp.kind s),MV.st [MV.bool (Stp.neg s),MV.ws (Stp.mag s)],MV.sl (1:Y) (D (Stp.parts s)) (bJ (Stp.parts s)),MV.sl (2:Y) (D (Stp.base s)) (iL (Stp.base s) (200:Y)),MV.st [MV.big (Stp.ca s) (200:Y),MV.big (Stp.cb s) (200:Y),MV.big (Stp.cm s) (200:Y)],MV.st [MV.big (Stp.x s) (200:Y),MV.big (Stp.y s) (200:Y),MV.bool (Stp.inf s)],MV.big (Stp.ord s) (200:Y)]) λs=>CT s=GE/\(2:Z)<=EG s)/\(∀(j:Y),j<D (PaS.q i)->isBig (200:Y) (iL (PaS.q i) (200:Y) j))/\D (PaS.q i)<=90/\∀(z:Z),z∈aH (D (PaS.q i)) (iL (PaS.q i) (200:Y))->(2:Z)<=z)/\bif aT1 {kind:=Stp.kind s,neg:=Stp.neg s,mag:=Stp.mag s,parts:=iY (D (Stp.parts s)) (bJ (Stp.parts s)),base:=aH (D (Stp.base s)) (iL (Stp.base s) (200:Y)),ca:=Stp.ca s,cb:=Stp.cb s,cm:=Stp.cm s,x:=Stp.x s,y:=Stp.y s,inf:=Stp.inf s,ord:=Stp.ord s} (aH (D (PaS.q i)) (iL (PaS.q i) (200:Y)))then GE=T else T=GG/\fC=fC else ((0:Z)<=X GF (X GF ((0:Z)+1)+1)/\X GF (X GF ((0:Z)+1)+1)<(↑(4:Y):Z))/\bif (3:Z)==Stp.kind s then (D (PaS.q i)<=D (PaS.q i)/\(rawS (MV.st [MV.int GF (Stp.kind s),MV.st [MV.bool (Stp.neg s),MV.ws (Stp.mag s)],MV.sl (1:Y) (D (Stp.parts s)) (bJ (Stp.parts s)),MV.sl (2:Y) (D (Stp.base s)) (iL (Stp.base s) (200:Y)),MV.st [MV.big (Stp.ca s) (200:Y),MV.big (Stp.cb s) (200:Y),MV.big (Stp.cm s) (200:Y)],MV.st [MV.big (Stp.x s) (200:Y),MV.big (Stp.y s) (200:Y),MV.bool (Stp.inf s)],MV.big (Stp.ord s) (200:Y)]) λs=>CT s=GE/\(2:Z)<=EG s)/\(∀(j:Y),j<D (PaS.q i)->isBig (200:Y) (iL (PaS.q i) (200:Y) j))/\D (PaS.q i)<=90/\∀(z:Z),z∈aH (D (PaS.q i)) (iL (PaS.q i) (200:Y))->(2:Z)<=z)/\bif aUO {kind:=Stp.kind s,neg:=Stp.neg s,mag:=Stp.mag s,parts:=iY (D (Stp.parts s)) (bJ (Stp.parts s)),base:=aH (D (Stp.base s)) (iL (Stp.base s) (200:Y)),ca:=Stp.ca s,cb:=Stp.cb s,cm:=Stp.cm s,x:=Stp.x s,y:=Stp.y s,inf:=Stp.inf s,ord:=Stp.ord s} (aH (D (PaS.q i)) (iL (PaS.q i) (200:Y)))then GE=T else T=GG/\fC=fC else ((0:Z)<=X GF (X GF (X GF ((0:Z)+1)+1)+1)/\X GF (X GF (X GF ((0:Z)+1)+1)+1)<(↑(4:Y):Z))/\bif (4:Z)==Stp.kind s then (D (PaS.q i)<=D (PaS.q i)/\(rawS (MV.st [MV.int GF (Stp.kind s),MV.st [MV.bool (Stp.neg s),MV.ws (Stp.mag s)],MV.sl (1:Y) (D (Stp.parts s)) (bJ (Stp.parts s)),MV.sl (2:Y) (D (Stp.base s)) (iL (Stp.base s) (200:Y)),MV.st [MV.big (Stp.ca s) (200:Y),MV.big (Stp.cb s) (200:Y),MV.big (Stp.cm s) (200:Y)],MV.st [MV.big (Stp.x s) (200:Y),MV.big (Stp.y s) (200:Y),MV.bool (Stp.inf s)],MV.big (Stp.ord s) (200:Y)]) λs=>CT s=GE/\(2:Z)<=EG s)/\(∀(j:Y),j<D (PaS.q i)->isBig (200:Y) (iL (PaS.q i) (200:Y) j))/\D (PaS.q i)<=90/\∀(z:Z),z∈aH (D (PaS.q i)) (iL (PaS.q i) (200:Y))->(2:Z)<=z)/\bif aTe {kind:=Stp.kind s,neg:=Stp.neg s,mag:=Stp.mag s,parts:=iY (D (Stp.parts s)) (bJ (Stp.parts s)),base:=aH (D (Stp.base s)) (iL (Stp.base s) (200:Y)),ca:=Stp.ca s,cb:=Stp.cb s,cm:=Stp.cm s,x:=Stp.x s,y:=Stp.y s,inf:=Stp.inf s,ord:=Stp.ord s} (aH (D (PaS.q i)) (iL (PaS.q i) (200:Y)))then GE=T else T=GG/\fC=fC else GG=T else T=GG/\fC=fC)=eH (rtE (aNz L m s d R) (aVu L m s)) (rtP T) aIc (bE1 L) (rtK T):=by subst f e g;kernel_rfl
theorem aGX(s:Stp):fN 0 (m8 s 200) (m8 s 200) :=
 ⟨rfl,⟨rfl,rfl,⟨⟩⟩,⟨rfl,rfl,AG⟩,⟨rfl,rfl,AG⟩,⟨bQ,bQ,bQ,⟨⟩⟩,⟨bQ,bQ,rfl,⟨⟩⟩,bQ,⟨⟩⟩
theorem pnF{T:J}(h:T=GG):T=GG/\fC=fC:=⟨h,rfl⟩
theorem w0i:X GF ((0:Z)+1)=1:=by decide
theorem w1i:X GF ((1:Z)+1)=2:=by decide
theorem w2i:X GF ((2:Z)+1)=3:=by decide
theorem aVq(L:GI Stp)(m:GJ)(s:Stp)(T:Bool)(H:okT L)(hm:L.length=m+1)(Z:L.getD m aB=s)(hf:fineL L m)(b:bW (nums (L.take m)) s=T) :
  eH (rtE (aNz L m s (nums (L.take m)) (bZ (nums (L.take m)) s.parts [])) (aVu L m s)) (rtP T) aIc (bE1 L) (rtK T):=by
 rw[<-aWO L m s (nums (L.take m)) (bZ (nums (L.take m)) s.parts []) T _ rfl _ rfl _ rfl];have hl:=H.len;have e:GK GF ((L.length:GL)-1)=(m:GL):=by rw[aT (by omega) (by omega)];omega
 rw[e,Z8,Z,w0i,w1i,w2i];have ok:okS s:=Z ▸ H.at m (by omega);have hb:=ok.base;have hpl:=ok.parts;have hnl:=aKS (L:=L) (i:=m) (by omega);have O:∀j,j<m->(nums (L.take m)).getD j 0=(L.getD j aB).n:=λj h=>aGI (by omega) h;have Q:∀z∈nums (L.take m),2<=z:=λz F=>by
  obtain⟨j,h1,_,rfl⟩:=aKJ F;exact(hf.h j h1).2
 have C:∀j,j<m->okN (L.getD j aB).neg (L.getD j aB).mag:=λj h=>aKi H hf h (by omega);generalize nums (L.take m)=E at *;generalize G:bZ E s.parts []=R;have raw:∀ {P:Stp->Prop},P s->rawS (.st [.int .i64 s.kind,.st [.bool s.neg,.ws s.mag],.sl 1 s.parts.length (bJ s.parts),.sl 2 s.base.length (iL s.base 200),.st [.big s.ca 200,.big s.cb 200,.big s.cm 200],.st [.big s.x 200,.big s.y 200,.bool s.inf],.big s.ord 200]) P:=λh=>⟨s,rfl,ok,h⟩;have F:fG s.neg s.mag=s.n:=rfl;rw[F];refine⟨⟨by omega,by omega,⟨0⟩,⟨rfl⟩,⟨rfl,rfl,⟨rfl,rfl,AG⟩,⟨⟩⟩,rfl,aGX s,⟨⟩⟩,λ_ _=>?_⟩;refine⟨by omega,⟨⟨0⟩,⟨Z9 _,λh=>GM h (CM 0)⟩,⟨rfl,rfl,⟨rfl,rfl,AG⟩,⟨rfl,rfl,aPe s⟩,rfl,rfl,⟨⟩⟩,rfl,aGX s,⟨⟩⟩,λi I=>?_⟩;obtain⟨i⟩:=i;obtain⟨hi,v⟩:=I;dsimp only at hi v⊢;rw[Z8];refine aI Z4 (λq1=>?_) (λq1=>?_)
 .have a:i<7+s.base.length:=by omega
  have r:GK GF ((i:GL)+1)=((i+1:GJ):GL):=by rw[aT (by omega) (by omega)];omega
  refine⟨by omega,?_⟩
  match i,a,v,r with
  |0,a,_,r =>
   rw[aGT];have hml:=ok.len;refine⟨by show s.mag.length<=_;omega,aI Iff.rfl (λz=>?_) (λz=>pnF ?_)⟩
   .exact⟨⟨1⟩,⟨a,λ_=>z⟩,⟨⟨rfl,rfl,⟨rfl,rfl,AG⟩,⟨rfl,rfl,AG⟩,rfl,r,⟨⟩⟩,rfl,aGX s,⟨⟩⟩,by show 7+s.base.length-1<7+s.base.length-0;omega⟩
   .have:s.can=GG:=DB.2 z
    grind [bW]
  |i+1,a,v,r =>
   obtain⟨z,e1,_⟩:=aEZ s a;rw[e1];have hl7:=aLc z;refine⟨by omega,aI Iff.rfl (λ_=>?_) (λh=>GM (aLb z) h)⟩;exact⟨⟨i+1+1⟩,⟨a,λ_=>v (Nat.succ_pos i)⟩,⟨⟨rfl,rfl,⟨rfl,rfl,AG⟩,⟨rfl,rfl,AG⟩,rfl,r,⟨⟩⟩,rfl,aGX s,⟨⟩⟩,by show 7+s.base.length-(i+1+1)<7+s.base.length-(i+1);omega⟩
 have can:s.can=GE:=v (by omega);have hN:okN s.neg s.mag:=⟨ok.wd,ok.len,can⟩;refine⟨⟨by omega,hN⟩,aI (decide_eq_true_iff.trans lD) (λn1=>?_) (λz=>pnF ?_)⟩
 rotate_left
 .grind [bW]
 refine⟨⟨⟨0, []⟩,⟨Z9 _,G,rfl⟩,⟨rfl,rfl,⟨rfl,rfl,AG⟩,⟨rfl,rfl,rfl⟩,⟨rfl,rfl,AG⟩,rfl,rfl,⟨⟩⟩,rfl,aGX s,⟨⟩⟩,λp J=>?_⟩;obtain⟨k,q⟩:=p;obtain⟨hk,d,hq⟩:=J;dsimp only at hk d hq⊢;rw[Z8,eK];have f:∀j,j<q.length->isBig 200 (iL q 200 j):=λj _=>lE q (Z0 _) j;have c:R=GD->T=GG:=λh=>by rw[<-b];exact aFf (G.trans h)
 refine aI Z4 (λq1=>?_) (λq1=>?_)
 .have a:k<s.parts.length:=by omega
  rw[uG a,pK]at d;generalize s.parts.getD k 0=j at *;refine⟨by omega,aI Z4 (λq2=>aI Z4 (λq3=>?_) (λq3=>pnF (c ?_))) (λq2=>pnF (c ?_))⟩
  rotate_left
  .simp_all
  .simp_all
  obtain⟨u,rfl⟩:∃u:GJ,j=u:=⟨j.toNat,by omega⟩;rw[Z8]at d⊢;rw[Y0 (show(0:GL)<=u by omega),Y0 (show(u:GL)<(E.length:GL) by omega),O u (by omega),AS,AS]at d;have A:=C u (by omega);have K:fG (L.getD u aB).neg (L.getD u aB).mag=(L.getD u aB).n:=rfl;have w:=sX A;rw[K]at w⊢;generalize (L.getD u aB).n=z at *;generalize (L.getD u aB).neg=g at *;generalize (L.getD u aB).mag=mg at *;refine⟨by omega,⟨Z0 _,A,by omega,f⟩,?_⟩;cases he:q.elem z with
  |true=>rw[he]at d;exact pnF (c d.symm)
  |false =>
   rw[he]at d;have d:bZ E (s.parts.drop (k+1)) (q++[z])=R:=d;have r:GK GF ((k:GL)+1)=((k+1:GJ):GL):=by rw[aT (by omega) (by omega)];omega
   have N:AH (News.rows 2 1 (aN [MV.st [MV.bool g,MV.ws mg]]))=1:=rfl;rw[N,Bool.not_false,Z6];have t:(q++[z]).length=q.length+1:=by simp
   have U:=aBx q w;exact⟨⟨Z0 _,by omega⟩,⟨k+1,q++[z]⟩,⟨a,d,by rw[t,hq]⟩,⟨⟨rfl,rfl,⟨rfl,rfl,AG⟩,⟨rfl,t.symm⟩,⟨rfl,rfl,AG⟩,rfl,r,⟨⟩⟩,rfl,aGX s,⟨t.symm,U⟩,⟨⟩⟩,by show s.parts.length-(k+1)<s.parts.length-k;omega⟩
 have S:k=s.parts.length:=by omega
 subst S;rw[DJ]at d;have d:GC q=R:=d;have hp:bZ E s.parts []=GC q:=G.trans d.symm;obtain⟨hq1,M⟩:=aEP hp (λz h=>GM h DI);rw[aLA hp,can,Y0 n1,AS,AS]at b;unfold aKv at b;rw[eK,iE];have l:∀z∈q,2<=z:=λz h=>Q z (M z h);have o:rawS _ (λs:Stp=>s.can=GE/\2<=s.n):=raw ⟨can,by omega⟩;have fin:∀ {B:Bool},B=T->bif B then GE=T else T=GG/\fC=fC:=λ{B} h=>by
  simp_all
 have D:∀n:GL,(n==s.kind)=(s.kind==n):=λn=>by rw[Bool.eq_iff_iff,beq_iff_eq,beq_iff_eq];exact eq_comm
 rw[D 1,D 2,D 3,D 4];refine⟨by omega,?_⟩;cases Y:s.kind==1 with
 |true=>rw[Y,Z6]at b;exact⟨⟨Z0 _,o,f,by omega,l⟩,fin b⟩
 |false =>
 rw[Y,Z5]at b;rw[Z5];refine⟨by omega,?_⟩;cases X:s.kind==2 with
 |true=>rw[X,Z6]at b;exact⟨⟨Z0 _,o,f,by omega,l⟩,fin b⟩
 |false =>
 rw[X,Z5]at b;rw[Z5];refine⟨by omega,?_⟩;cases W:s.kind==3 with
 |true=>rw[W,Z6]at b;exact⟨⟨Z0 _,o,f,by omega,l⟩,fin b⟩
 |false =>
 rw[W,Z5]at b;rw[Z5];refine⟨by omega,?_⟩;cases V:s.kind==4 with
 |true=>rw[V,Z6]at b;exact⟨⟨Z0 _,o,f,by omega,l⟩,fin b⟩
 |false =>
 rw[V,Z5]at b;rw[Z5];exact b
theorem bES(w:I):(binOp BinOp.eql 20 (.iface 128 (.agg #[])) (.iface 128 (.agg #[]))).run AB w= .ok (.bool GE) w:=by kernel_rfl
theorem bET(w:I):(binOp BinOp.eql 20 .nilIface (.iface 128 (.agg #[]))).run AB w= .ok (.bool GG) w:=by kernel_rfl
set_option maxRecDepth 100000 in
theorem aZ0(p:Addr)(w:I) :
  CallsD AB 93 #[.pointer (GC p)] .returning w λe u' w'=>e= .returned (.tuple #[])/\u'= .returning/\w'=w:=by
 refine callsD_of_wpS FG rfl λc₀ cs a=>?_;apply wpS_seq
 apply wpS_region
 simp[wpOpsS,go_sem,recoverD,a,FB,Exit.thenS,bET];refine wpS_cond (t:=false) (by simp[Act.eval,CA]) ?_;simp only[Bool.false_eq_true,if_false];refine wpS_of_wp (wp_skip ?_);cases c₀
 simp_all [bodyPostS,results,E0]
set_option maxRecDepth 100000 in
theorem bEU(p:Addr)(w:I)(b:K)(f:w.cell? p=GC b)(d:w.frozen? p=GG) :
  CallsD AB 93 #[.pointer (GC p)] (.panicking [{ v:= .iface 128 (.agg #[]),recovered:=false }]) w λe u' a=>e= .returned (.tuple #[])/\u'= .panicking [{ v:= .iface 128 (.agg #[]),recovered:=true }]/\a=w.setCell p (.bool GG):=by
 refine callsD_of_wpS FG rfl λc₀ cs c=>?_;apply wpS_seq
 apply wpS_region
 simp[wpOpsS,go_sem,recoverD,c,FB,bES];refine wpS_cond (t:=true) (by simp[Act.eval,CA]) ?_;simp only[if_true];apply wpS_region
 simp[wpOpsS,go_sem,f,d];cases c₀
 simp_all [bodyPostS,results,E0]
theorem aVw(w:I)(a:Act)(p:Addr)(T:J)(h:a.tmps.getD 2 undef= .pointer (GC p))(b:w.cell? p=GC (.bool T)) :
  (results ED a.tmps).run AB w= .ok (.bool T) w:=by
 have c:a.tmps[2]?.getD undef= .pointer (GC p):=by rw[<-h,DT]
 simp[results,Tryz.results61,c,b,go_sem]
def aVv(L:O Stp):MS:=⟨112, [(2,.bp 0 0),(0,.sl 18 L.length (aF L 200))], [⟨GG,.one (.bool GG)⟩],0⟩
theorem bE2(L:O Stp):(aVv L=aVv L)=bG (aK [] aC) (λ_=>W) (bR (qO ED)) ⟨112,dT 0 [.sl 18 L.length (aF L 200)], [],0⟩ (aOm (aVv L)):=by kernel_rfl
theorem aKe{w w':I}(h:Ext w w')(b:Y)(e:R K)(t:TypeId)(hb:w.heap.size<=b)(d:w'.heap[b]? =GC (.cells e t (0,0)))(v:K):Ext w (w'.setCell ⟨b,0,GD⟩ v):=by
 have f:∀k,k≠b->(w'.setCell ⟨b,0,GD⟩ v).heap[k]? =w'.heap[k]? :=λk c=>heap_setCell_other w' ⟨b,0,GD⟩ k v c;refine⟨h.os,h.output,?_,λk c=>(f k (by omega)).trans (h.block k c),λa g=>?_,h.tape,h.dr⟩
 .have hlt:b<w'.heap.size:=(Array.getElem?_eq_some_iff.1 d).1;have h2:=heap_setCell_same w' b 0 e t v d
  grind
 .have:(w'.setCell ⟨b,0,GD⟩ v).frozen? a=w'.frozen? a:=by
   simp
  rw[this,h.frz a g]
set_option maxRecDepth 100000 in
theorem aVr(L:GI Stp)(m:GJ)(T:Bool)(hL:okT L)(hm:L.length=m+1)(hf:fineL L m)(hT:bW (nums (L.take m)) (L.getD m aB)=T)(S:GJ->Prop)(w:World)(args:Array Value)(hS:∀b,S b->b<w.heap.size)(hG:GW S w)(ha:RepAll (DH S) w [.sl 18 L.length (aF L 200)] args.toList):Calls AB 61 args w λe w'=>Ext w w'/\(MRes.ret (.bool T)).holds (EC S) w' e:=by
 have R:=St.start (n:=112) hS hG ha (by simp);have he1:bG (aK [] aC) (λ_=>GN) (bR (qO ED)) ⟨112,dT 0 [.sl 18 L.length (aF L 200)], [],0⟩ (aOm (aVv L)):=by rw[<-bE2 L]
 refine calls_of_wp_defers Tryz.func61 rfl ?_;refine wp_seq (bD bT _ _ _ _ _ w _ he1 R (λe s' k a1 w1 j Q=>?_) (λ_ _ _ _ j=>j.elim));cases e with
 |exit _=>exact j.elim
 |ret=>exact j.elim
 |normal =>
 have j:s'=aVv L:=j;subst j;refine wp_seq (wp_region_list ?_);refine eT (E:=aK [] aC) (m:= .fn 93 [.bp 0 0]) (p:=none) rfl rfl trivial Q rfl λa2 A=>?_;obtain⟨H,K,hcs,_⟩:=b6 (show Rep k w1 (.fn 93 [.bp 0 0]) (a2.tmps.getD 13 undef) from A.tm 13) rfl (by simp) rfl;simp only[List.cons.injEq,and_true]at K;obtain⟨_,_,rfl,⟨O,rfl⟩,rfl⟩:=hcs
 let d:Deferred:={ target:= .fn (.func 93) #[Value.pointer (GC ⟨k.β 0,0,GD⟩)],args:=#[] }
 refine aA6 (d:=d) rfl rfl ?_ ?_
 .simp[execOp,resolve,Deferred.ofValue,Act.eval,K,d]
 have g:=A.defer [d];rw[A.defers];generalize ({ a2 with defers:=[d] }:Act)=a3 at g⊢;refine wpList_nil ?_;have X:w.heap.size<=k.β 0:=by
  rcases(g.mem.fresh 0 O).1 with h|h
  all_goals simp_all
 have V:∀i b z,(i=0/\b=k.β 0/\z=k.sz 0)->k.live i/\k.β i=b/\k.sz i=z:=λi b z h=>by
  simp_all
 have hsz:0<(k.sz 0).n:=by
  obtain⟨arr,ty,q1,q2,q3,q4⟩:=g.mem.box 0 ⟨GG,.one (.bool GG)⟩ O rfl;obtain⟨H,B,G⟩:=q4;have B:H=[.bool GG]:=B;have h3:=G 0 (.bool GG) (by rw[B];rfl)
  grind
 have P:St S ⟨w,λ_=>GN,λi b z=>i=0/\b=k.β 0/\z=k.sz 0, [d]⟩ (bE1 L) k a3 w1:=by
  refine⟨g.mem.rebase _ _ V,λt=>?_,g.size,g.defers,λi b z h=>(show qQ 1 i=GE from oE (by decide) (by omega))⟩
  match t with
  |0=>exact g.tm 0
  |1=>exact⟨⟩
  |2=>exact g.tm 2
  |t+3=>exact⟨⟩
 have hev:=aVq L m _ T hL hm rfl hf hT;show aIc.wp AB _ a3 w1;refine dD bT aIc _ _ k a3 w1 _ hev P (λe s' c2 I F j q=>?_) (λmv v F I W=>?_)
 .cases e with
  |normal=>exact j.elim
  |exit _=>exact j.elim
  |ret =>
  have j:(match aW 2 s'.tm with
   |.bp i off=>cond (i.beq 0&&off.beq 0) (match aR s'.bx 0 with
    |some b=>(match b.c with
     |.one x=>fN 0 x (.bool T)
     |_=>GN)
    |none=>GN) GN
   |_=>GN):=j
  have J:=q.tm 2;obtain⟨p1,p2,p3⟩:=q.mem.pin 0 _ _ ⟨rfl,rfl,rfl⟩;split at j
  .rename_i i off y;cases l:(i.beq 0&&off.beq 0)with
   |false=>rw[l]at j;exact j.elim
   |true =>
   rw[l,Z6]at j;simp only[Z3,DZ]at l;obtain⟨rfl,rfl⟩:=l;rw[y]at J;obtain⟨_,C⟩:=kL J;split at j
   .rename_i b hb;split at j
    .rename_i x hx;obtain⟨arr,ty,q1,q2,q3,q4⟩:=q.mem.box 0 b p1 hb;rw[hx]at q4;obtain⟨H,B,G⟩:=q4;have q5:H=[.bool T]:=oB x (.bool T) 0 c2 c2 _ ⟨λ_ h=>h,λ_ h=>h,λi hi=>by omega⟩ j B;have o:F.cell? ⟨k.β 0,0,GD⟩=GC (.bool T):=by
      rw[<-p2];simp only[World.cell?,q1]
      grind
     show Leaves _ _ _ _ I.defers _ _;rw[q.defers];refine leaves_cons (f:=93) (args:=#[.pointer (GC ⟨k.β 0,0,GD⟩)]) (by simp) (by simp[go_sem]) ?_;refine(aZ0 _ _).mono ?_
     rintro e u' w'' ⟨rfl,rfl,rfl⟩
     exact⟨.bool T,aVw w'' I _ T (by rw[C,p2]) o,q.mem.ext.free (λ_ h=>h),eJ _⟩
    .exact j.elim
   .exact j.elim
  .exact j.elim
 .obtain⟨⟨s,ops,c,a,w3,r,M,D⟩,N,U,hdf⟩:=W;obtain⟨p1,p2,p3⟩:=M.mem.pin 0 _ _ ⟨rfl,rfl,rfl⟩;unfold rtP at r;split at r
  .rename_i i off y;cases l:(i.beq 0&&(off.beq 0&&aMF 2 ops))with
   |false=>rw[l]at r;exact r.elim
   |true =>
   rw[l,Z6]at r;simp only[Z3,DZ]at l;obtain⟨rfl,rfl,Z⟩:=l;obtain⟨rfl,rfl⟩:=r;have J:=M.tm 2;rw[y]at J;obtain⟨_,C⟩:=kL J;have ht4:I.tmps.getD 2 undef= .pointer (GC ⟨k.β 0,0,GD⟩):=by
    rw[D 2 (aQW Z),C,p2]
   obtain⟨arr,ty,q1,q2⟩:=N.pin 0 _ _ ⟨rfl,rfl,rfl⟩;have q2:arr.size=(k.sz 0).n:=q2;have o : F.cell? ⟨k.β 0, 0, GD⟩ = GC (arr[0]'(by omega)) := by
    simp only[World.cell?,q1];simp
   have hfr:=frozen_of_row F (k.β 0) 0 arr ty q1;have hv:v= .iface 128 (.agg #[]):=by
    obtain⟨H,u,B,G,h3⟩:=(bC rfl (by simp[fC])).1 U;have G:H=[]:=G;subst G;simp only[List.cons.injEq,and_true]at B;rw[B,h3];rfl
   subst hv;show Leaves _ _ _ _ I.defers _ _;rw[hdf];refine leaves_cons (f:=93) (args:=#[.pointer (GC ⟨k.β 0,0,GD⟩)]) (by simp) (by simp[go_sem]) ?_;refine(bEU _ _ _ o hfr).mono ?_
   rintro e u' w'' ⟨rfl,rfl,rfl⟩
   have Y:Ext w F:=N.ext.free (λ_ h=>h);exact⟨.bool GG,aVw _ I _ GG ht4 (World.cell?_setCell_same' F _ _ (by rw[o];rfl)),aKe Y _ arr ty X q1 _,eJ _⟩
  .exact r.elim
def aIT:aG
 |[.sl 18 n f]=>GC (GC (0<n/\okL n f/\fineL (aE n f) (n-1)),.ret (.bool (bW (nums ((aE n f).take (n-1))) ((aE n f).getD (n-1) aB))))
 |_=>GD
theorem aMS(S:Y->Prop)(w:I)(c:O MV)(args:R K)(p:OProp)(r:MRes)(a:aIT c=GC (p,r))(g:p.holds)(l:∀b,S b->b<w.heap.size)(m:GW S w)(j:RepAll (DH S) w c args.toList):Calls AB 61 args w λe w'=>Ext w w'/\r.holds (EC S) w' e:=by
 unfold aIT at a;split at a
 .rename_i n f;simp only[Z1,Z2]at a;obtain⟨rfl,rfl⟩:=a;obtain⟨h0,d,o⟩:0<n/\okL n f/\fineL (aE n f) (n-1):=g;have k:Cuts 0 (DH S) (DH S):=⟨λ_ h=>h,λ_ h=>h,λi hi=>by omega⟩;exact aVr (aE n f) (n-1) _ d.T (by rw[dG];omega) o rfl S w args l m (rI k _ _ _ (show lO.leVs 0 [.sl 18 n f] [.sl 18 (aE n f).length (aF (aE n f) 200)] from ⟨d.le,⟨⟩⟩) j)
 .simp at a
def aN6:Ctr AB:=⟨61,aIT,λargs w=>Tryz.call61 args w,aMS⟩
theorem aFi{L:O Stp}{k:Y}(h:k<=L.length):aE k (aF L 200)=L.take k:=by
 refine CP (by simp[aE];omega) λi h1 h2=>?_
 grind [aE,aF,tC]
theorem aUd{L:O Stp}(h:okT L){k:Y}(b:k<=L.length):okL k (aF L 200):=by
 have:=h.len;refine⟨by omega,λj _=>p8 _ 200,λs a=>?_⟩;rw[aFi b]at a;exact h.ok s (EF a)
theorem aMt{L:O Stp}{i k:Y}(h:fineL L i)(hk:i<=k):fineL (L.take k) i:=⟨λj a=>by
 have:(L.take k).getD j aB=L.getD j aB:=by
  grind
 rw[this];exact h.h j a⟩
def aNn(L:O Stp)(R:C Y):Y->MS->C LoopAnn
 |2,e=>GC (.inv WalkI (ChI L R) (λi=>⟨21, [(0,.sl 18 L.length (aF L 200)),(6,.int .i64 L.length),(7,.int .i64 i.i)],e.bx,0⟩) (λi=>L.length-i.i))
 |_,_=>GD
theorem aWl(L:O Stp)(R:C Y)(x y:Z)(a:_)(d:a=λ(i:WalkI)=>(X GF ((i.1:Z)+1)))(b:_)(c:b=(D L:Z)):((∃i,ChI L R i/\((18=18/\D L=D L/\LeFun (D L) (aF L 200) (aF L 200))/\b = b/\0=(i.1:Z)/\E)/\E)/\∀(i:WalkI),ChI L R i->bif G ((i.1:Z)< b)then (0<=X GF ((i.1:Z)+1)/\X GF ((i.1:Z)+1)<= b)/\(0<S (a i)/\okL (S (a i)) (aF L 200)/\fineL (aE (S (a i)) (aF L 200)) (S (a i)-1))/\bif !bW (nums (P (S (a i)-1) (aE (S (a i)) (aF L 200)))) (F (aE (S (a i)) (aF L 200)) (S (a i)-1) aB)then (i.1:Z)=x/\70=y/\E else ∃j,ChI L R j/\(((18=18/\D L=D L/\LeFun (D L) (aF L 200) (aF L 200))/\b = b/\X GF ((i.1:Z)+1)=(j.1:Z)/\E)/\E)/\D L-j.1<D L-i.1 else bif b ==0 then 0=x/\70=y/\E else 0=x/\0=y/\E)=aJ (aK [aN6] (aNn L R)) E4 [.sl 18 L.length (aF L 200)] (A1 (.ret (.tup [.int .i64 x,.int .i64 y]))):=by subst d c;kernel_rfl
theorem aRv{L:O Stp}{i k:Y}(h:i<k):(L.take k).getD i aB=L.getD i aB:=by
 simp_all
theorem aUK(L:O Stp)(h:okT L):∃E:Env AB,aJ E E4 [.sl 18 L.length (aF L 200)] (A1 (.ret (.tup [.int .i64 (oW L),.int .i64 (chkE L)]))):=by
 refine⟨aK [aN6] (aNn L (oX [] L 0)),?_⟩;rw[<-aWl L (oX [] L 0) (oW L) (chkE L) _ rfl _ rfl];rw[aS6,aOc];have d:=ChI.zero L;generalize oX [] L 0=R at *;have hl:=h.len;refine⟨⟨⟨0⟩,d,⟨⟨rfl,rfl,AG⟩,rfl,rfl,⟨⟩⟩,⟨⟩⟩,λi I=>?_⟩;obtain⟨i⟩:=i;dsimp only;refine aI Z4 (λq1=>?_) (λq1=>?_)
 .have a:i<L.length:=by omega
  obtain⟨s1,s2⟩:=I.step a;have f:X GF ((i:Z)+1)=((i+1:Y):Z):=by rw[aT (by omega) (by omega)];omega
  rw[f,Z8,aFi (show i+1<=L.length from a),BT,aRv (EW i),List.take_take,DW (DN i)];refine⟨by omega,⟨by omega,aUd h a,aMt I.hf (DN i)⟩,kG Iff.rfl (λz=>?_) (λz=>?_)⟩
  .grind [AG]
  .rw[s2 (DB.2 z)];exact⟨rfl,rfl,⟨⟩⟩
 .obtain⟨e,c⟩:=I.fin (by omega);rw[c];refine aI beq_iff_eq (λz=>?_) (λz=>?_)
  .have:L.length=0:=by omega
   rw[this];exact⟨rfl,rfl,⟨⟩⟩
  .obtain⟨k,b⟩:∃k,L.length=k+1:=⟨L.length-1,by omega⟩;rw[b];exact⟨rfl,rfl,⟨⟩⟩
def aDl:aG
 |[.sl 18 n f]=>GC (GC (okL n f),.ret (.tup [.int .i64 (oW (aE n f)),.int .i64 (chkE (aE n f))]))
 |_=>GD
theorem aY4:∀b p r,aDl b=GC (p,r)->p.holds->fL b->∃ms',lO.leVs 0 b ms'/\∃E:Env AB,aJ E E4 ms' r.sat:=by
 intro b p r a c hf;unfold aDl at a;split at a
 .rename_i n f;simp only[Z1,Z2]at a;obtain⟨rfl,rfl⟩:=a;have h:okL n f:=c;exact⟨[.sl 18 (aE n f).length (aF (aE n f) 200)],⟨h.le,⟨⟩⟩,aUK (aE n f) h.T⟩
 .simp at a
def y9:Ctr AB:=⟨34,aDl,λargs w=>Tryz.call34 args w,gO bT Tryz.func34 aDl aY4⟩
def aE8:aG
 |[.st [.bool g,.ws l],.big a n]=>GC (GC (n<=1000/\okN g l),.ret (.bool (G (fG g l=a))))
 |_=>GD
def aD4:Ctr AB:=mS.conv aE8 λms p r h b hf=>by
 unfold aE8 at h;split at h
 .rename_i g l a n;simp only[Z1,Z2]at h;obtain⟨rfl,rfl⟩:=h;obtain⟨h1,c⟩:n<=1000/\okN g l:=b;exact⟨[.big (fG g l) 200,.big a n],_,⟨sX c,bQ,⟨⟩⟩,rfl,by omega,by omega⟩
 .simp at h
theorem aWu(L:O Stp)(n:Z)(w:Y)(T:J)(a:_)(b:a=(F L (S (X GF ((D L:Z)-1))) aB)):(okL (D L) (aF L 200)/\bif chkE (aE (D L) (aF L 200))==0 then (0<=X GF ((D L:Z)-1)/\X GF ((D L:Z)-1)<(D L:Z))/\(w<=1000/\okN (Stp.neg a) (Stp.mag a))/\G (fG (Stp.neg a) (Stp.mag a)=n)=T else GG=T)=aJ (aK [y9,aD4] aC) E5 [.sl 18 L.length (aF L 200),.big n w] (A1 (.ret (.bool T))):=by subst b;kernel_rfl
theorem aUL(L:O Stp)(n:Z)(w:Y)(h:okT L)(a:w<=1000):∃E:Env AB,aJ E E5 [.sl 18 L.length (aF L 200),.big n w] (A1 (.ret (.bool (wN L n)))):=by
 refine⟨aK [y9,aD4] aC,?_⟩;rw[<-aWu L n w (wN L n) _ rfl];rw[qJ];have hl:=h.len;unfold wN;refine⟨sR h,aI beq_iff_eq (λz=>?_) (λz=>by rw[Y1 z,CF])⟩;obtain⟨h0,b⟩:=aTa z;have e:X GF ((L.length:Z)-1)=((L.length-1:Y):Z):=by rw[aT (by omega) (by omega)];omega
 rw[e,Z8,Y0 z,AS];exact⟨by omega,⟨a,aKi h b (by omega) (by omega)⟩,rfl⟩
def aDt:aG
 |[.sl 18 n f,.big z w]=>GC (GC (okL n f/\w<=1000),.ret (.bool (wN (aE n f) z)))
 |_=>GD
theorem aZd:∀b p r,aDt b=GC (p,r)->p.holds->fL b->∃ms',lO.leVs 0 b ms'/\∃E:Env AB,aJ E E5 ms' r.sat:=by
 intro b p r a d hf;unfold aDt at a;split at a
 .rename_i n f z w;simp only[Z1,Z2]at a;obtain⟨rfl,rfl⟩:=a;obtain⟨h,c⟩:=d;exact⟨[.sl 18 (aE n f).length (aF (aE n f) 200),.big z w],⟨h.le,bQ,⟨⟩⟩,aUL (aE n f) z w h.T c⟩
 .simp at a
def aXE:Ctr AB:=⟨14,aDt,λargs w=>Tryz.call14 args w,gO bT Tryz.func14 aDt aZd⟩
def aJ3(z b:Z):J:=decide (2<z)&&(G (z%2=0) ||(G (aJa z b=0)&&!aI9 z b))
theorem aWn(z b:Z)(n:Y):(fY 2/\(n<=1000000/\64<=1000000)/\bif G (aX z 2<=0)then GG=aJ3 z b else (n<=128/\(-9223372036854775808)<=b/\b<=9223372036854775807)/\((0:Z)<=0/\0<(D (aA (u z)):Z))/\bif X u32 (BitVec.toNat (GO (B7 u32) (F (aA (u z)) (S 0) 0) &&&GO (B7 u32) 1):Z)==0 then GE=aJ3 z b else bif aJa z b==0 then (!aI9 z b)=aJ3 z b else GG=aJ3 z b)=aJ (aK [gZ,eF,aSR] aC) F4 [.big z n,.int .i64 b] (A1 (.ret (.bool (aJ3 z b)))):=by kernel_rfl
theorem aWf(z:Z)(n:Y):(bif isE z != 0 then AE GD 0 0=AE GD 0 0/\(6:Z)=6/\E else bif !isB z then AE GD 0 0=AE GD 0 0/\(6:Z)=6/\E else W)=aJ (aK [aNW] aC) F8 [.big z n] (A1 (.ret (.tup [.val (.slice GD 0 0),.int .i64 6]))):=by kernel_rfl
theorem bFW(n:Y):(fY 2/\(1:Z)=1/\aD 2 2 64 n/\AE GD 0 0=AE GD 0 0/\AE GD 0 0=AE GD 0 0/\(aD 0 0 0 0/\aD 0 0 0 0/\aD 0 0 0 0/\E)/\(aD 0 0 0 0/\aD 0 0 0 0/\GG=GG/\E)/\aD 0 0 0 0/\E)=aJ (aK [cO] aC) F3 [] (A1 (.ret (.st [.int .i64 1,.big 2 n,.val (.slice GD 0 0),.val (.slice GD 0 0),.st [.big 0 0,.big 0 0,.big 0 0],.st [.big 0 0,.big 0 0,.bool GG],.big 0 0]))):=by kernel_rfl
def aDn:aG
 |[.big z n,.int .i64 b]=>GC (GC (n<=128/\-9223372036854775808<=b/\b<=9223372036854775807),.ret (.bool (aJ3 z b)))
 |_=>GD
theorem aY6:bE F4 aDn:=by
 intro ms p r h d;unfold aDn at h;split at h
 .rename_i z n b;cases h;obtain⟨g,f,e⟩:=d;refine⟨aK [gZ,eF,aSR] aC,?_⟩;rw[<-aWn z b n];unfold aJ3;refine⟨by omega,by omega,aI (decide_eq_true_iff.trans uN) (λq=>by rw[Y1 (show ¬ 2<z by omega),CF]) (λq=>?_)⟩;have q:2<z:=by omega
  have:=aAl (z:=z) (by omega);rw[bGm q,Y0 q,AS];refine⟨⟨g,f,e⟩,by omega,aI beq_iff_eq (λc=>by rw[Y0 c,Bool.true_or]) (λc=>?_)⟩;rw[Y1 c,Bool.false_or];exact aI beq_iff_eq (λa=>by rw[Y0 a,AS]) (λa=>by rw[Y1 a,CF])
 .simp at h
def aXD:Ctr AB:=⟨31,aDn,λargs w=>Tryz.call31 args w,aM bT Tryz.func31 aDn aY6⟩
def aDf:aG
 |[.big z _]=>GC (GC (isE z≠0\/isB z=GG),.ret (.tup [.val (.slice GD 0 0),.int .i64 6]))
 |_=>GD
theorem aYY:bE F8 aDf:=by
 intro ms p r h a;unfold aDf at h;split at h
 .rename_i z n;cases h;have a:isE z≠0\/isB z=GG:=a;refine⟨aK [aNW] aC,?_⟩;rw[<-aWf z n];refine aI bne_iff_ne (λq=>⟨rfl,rfl,⟨⟩⟩) (λq=>?_);rw[a.resolve_left q];exact⟨rfl,rfl,⟨⟩⟩
 .simp at h
def aXx:Ctr AB:=⟨22,aDf,λargs w=>Tryz.call22 args w,aM bT Tryz.func22 aDf aYY⟩
def bE6:MV:= .st [.int .i64 1,.big 2 64,.val (.slice GD 0 0),.val (.slice GD 0 0),.st [.big 0 0,.big 0 0,.big 0 0],.st [.big 0 0,.big 0 0,.bool GG],.big 0 0]
def aPA:aG
 |[]=>GC (GD,.ret bE6)
 |_=>GD
theorem bHw:bE F3 aPA:=by
 intro ms p r h hp;unfold aPA at h;split at h
 .simp only[Z1,Z2]at h;obtain⟨rfl,rfl⟩:=h;refine⟨aK [cO] aC,?_⟩;unfold bE6;rw[<-bFW 64];exact⟨by omega,rfl,bQ,rfl,rfl,⟨bQ,bQ,bQ,⟨⟩⟩,⟨bQ,bQ,rfl,⟨⟩⟩,bQ,⟨⟩⟩
 .simp at h
def bGw:Ctr AB:=⟨33,aPA,λargs w=>Tryz.call33 args w,aM bT Tryz.func33 aPA bHw⟩
structure isInts (m:MV):Prop where
 h:∀(c:Ctx) (w:World) (cs:List Value),RepC c w m cs->RepC c w (.sl 1 (aEw m).length (bJ (aEw m))) cs
structure isBigs (m:MV):Prop where
 h:∀(c:Ctx) (w:World) (cs:List Value),RepC c w m cs->RepC c w (.sl 2 (aD0 m).length (iL (aD0 m) 200)) cs
theorem sN:isInts (.val (.slice GD 0 0)):=⟨λc w cs r=>by
 obtain⟨rfl,_⟩:=r;exact⟨GD,0,rfl,Z0 _,λh=>N h (CM 0)⟩⟩
theorem lV:isBigs (.val (.slice GD 0 0)):=⟨λc w cs r=>by
 obtain⟨rfl,_⟩:=r;exact⟨GD,0,rfl,Z0 _,λh=>N h (CM 0)⟩⟩
theorem rH{n:Y}{f:Y->MV}(h:∀i,i<n->isBig 200 (f i)):isBigs (.sl 2 n f):=⟨λc w j r=>by
 obtain⟨a,cap,u,t,s⟩:=r;have e:aD0 (.sl 2 n f)=aH n f:=rfl;rw[e];refine⟨a,cap,by rw[bA];exact u,by rw[bA];exact t,λd=>?_⟩;rw[bA]at d⊢;obtain⟨b,off,q,p,o⟩:=s d;refine⟨b,off,q,p,λi g=>?_⟩;obtain⟨j,m,l,k⟩:=o i g;exact⟨j,m,(t6 h).h i g _ _ _ l,k⟩⟩
theorem aQK{n:Y}{f:Y->MV}(h:∀i,i<n->f i=bJ (iY n f) i):isInts (.sl 1 n f):=⟨λc w k r=>by
 obtain⟨a,cap,v,u,t⟩:=r;have e:aEw (.sl 1 n f)=iY n f:=rfl;rw[e];have d:(iY n f).length=n:=by simp[iY]
 refine⟨a,cap,by rw[d];exact v,by rw[d];exact u,λg=>?_⟩;rw[d]at g⊢;obtain⟨b,off,s,q,p⟩:=t g;refine⟨b,off,s,q,λi j=>?_⟩;obtain⟨k,o,m,l⟩:=p i j;exact⟨k,o,by rw[<-h i j];exact m,l⟩⟩
inductive Says (c:Ctx) (w:World):List MV->List MV->Prop where
 |nil:Says c w [] []
 |cons {m m':MV} {l l':List MV} (h:∀vs,RepC c w m vs->RepC c w m' vs) (t:Says c w l l'):Says c w (m::l) (m'::l')
theorem vM{c:Ctx}{w:I}:∀ {l l':O MV} {a:O K},Says c w l l'->RepCs c w l a->RepCs c w l' a
 |[], [],_,.nil,h=>h
 |_::_,_::_,_,.cons f d,⟨x,y,e,q1,b⟩=>⟨x,y,e,f x q1,vM d b⟩
theorem oR{c:Ctx}{w:I}{z:Z}{n:Y}(h:n<=200):∀a,RepC c w (.big z n) a->RepC c w (.big z 200) a:=λ_ ⟨s,e,d,b⟩=>⟨s,e,EN d (A7 (by omega) h),b⟩
theorem aGn{k n a b m x y o:Z}{i:J}{P B:MV}{l j g f e p t:Y}(F:l<=200)(u:j<=200)(q:g<=200)(E:f<=200)(D:e<=200)(C:p<=200)(z:isInts P)(A:isBigs B) :
  isStp 200 (.st [.int .i64 k,.big n t,P,B,.st [.big a l,.big b j,.big m g],.st [.big x f,.big y e,.bool i],.big o p]):=⟨λc w v r=>by
 have r:RepCs c w [.int .i64 k,.big n t,P,B,.st [.big a l,.big b j,.big m g],.st [.big x f,.big y e,.bool i],.big o p] v:=r;show RepCs c w [.int .i64 k,.st [.bool (G (n<0)),.ws (aA n.natAbs)],.sl 1 (aEw P).length (bJ (aEw P)),.sl 2 (aD0 B).length (iL (aD0 B) 200),.st [.big a 200,.big b 200,.big m 200],.st [.big x 200,.big y 200,.bool i],.big o 200] v;refine vM (.cons (λ_ h=>h) (.cons (λd h=>?_) (.cons (λd h=>z.h c w d h) (.cons (λd h=>A.h c w d h) (.cons (λd h=>?_) (.cons (λd h=>?_) (.cons (oR C) .nil))))))) r
 .obtain⟨s,rfl,u,q⟩:=h;exact⟨[.bool (G (n<0))], [s],rfl,rfl, [s], [],rfl,⟨s,rfl,q⟩,rfl⟩
 .have h:RepCs c w [.big a l,.big b j,.big m g] d:=h;exact vM (.cons (oR F) (.cons (oR u) (.cons (oR q) .nil))) h
 .have h:RepCs c w [.big x f,.big y e,.bool i] d:=h;exact vM (.cons (oR E) (.cons (oR D) (.cons (λ_ h=>h) .nil))) h⟩
def aLn:aG
 |[.sl 18 n f]=>GC (GC (okL n f),.ret (.tup [.int .i64 (oW (aE n f)),.int .i64 (chkE (aE n f))]))
 |[.val (.slice GD 0 0)]=>GC (GD,.ret (.tup [.int .i64 0,.int .i64 70]))
 |_=>GD
def aSL:Ctr AB:=y9.conv aLn λms p r h b hf=>by
 unfold aLn at h;split at h
 .rename_i n f;simp only[Z1,Z2]at h;obtain⟨rfl,rfl⟩:=h;exact⟨[.sl 18 n f],_,⟨⟨rfl,rfl,AG⟩,⟨⟩⟩,rfl,b⟩
 .simp only[Z1,Z2]at h;obtain⟨rfl,rfl⟩:=h;exact⟨[.sl 18 0 (λ_=>.any)],GC (okL 0 λ_=>.any),⟨⟨rfl,rfl⟩,⟨⟩⟩,rfl,Z9 _,λj c=>N c (DV j),λs a=>N a DI⟩
 .simp at h
def xmE:Env AB:=⟨[bGw,cO,aSL,aXx,aXE,aXD], [],39,aC,fun|999994=> [0]|_=> [],λ_ _=>GD⟩
theorem bAv(T:J):(fY 65537/\fY 3/\fY 7/\fY 1/\fY 3/\fY 7/\fY 9/\fY 8/\okL 2 (aN [MV.st [MV.int GF (1:Z),MV.big 2 64,MV.val (AE GD 0 0),MV.val (AE GD 0 0),MV.st [MV.big 0 0,MV.big 0 0,MV.big 0 0],MV.st [MV.big 0 0,MV.big 0 0,MV.bool GG],MV.big 0 0],MV.st [MV.int GF (2:Z),MV.big 65537 64,MV.sl 1 1 λi=>MV.int GF (F [(0:Z)] i 0),MV.sl 2 1 (aN [MV.big 3 64]),MV.st [MV.big 0 0,MV.big 0 0,MV.big 0 0],MV.st [MV.big 0 0,MV.big 0 0,MV.bool GG],MV.big 0 0]])/\okL 2 (aN [MV.st [MV.int GF (1:Z),MV.big 2 64,MV.val (AE GD 0 0),MV.val (AE GD 0 0),MV.st [MV.big 0 0,MV.big 0 0,MV.big 0 0],MV.st [MV.big 0 0,MV.big 0 0,MV.bool GG],MV.big 0 0],MV.st [MV.int GF (3:Z),MV.big 7 64,MV.sl 1 1 λi=>MV.int GF (F [(0:Z)] i 0),MV.sl 2 2 (aN [MV.big 1 64,MV.big 3 64]),MV.st [MV.big 0 0,MV.big 0 0,MV.big 0 0],MV.st [MV.big 0 0,MV.big 0 0,MV.bool GG],MV.big 0 0]])/\okL 1 (aN [MV.st [MV.int GF (1:Z),MV.big 7 64,MV.val (AE GD 0 0),MV.val (AE GD 0 0),MV.st [MV.big 0 0,MV.big 0 0,MV.big 0 0],MV.st [MV.big 0 0,MV.big 0 0,MV.bool GG],MV.big 0 0]])/\okL 2 (aN [MV.st [MV.int GF (1:Z),MV.big 2 64,MV.val (AE GD 0 0),MV.val (AE GD 0 0),MV.st [MV.big 0 0,MV.big 0 0,MV.big 0 0],MV.st [MV.big 0 0,MV.big 0 0,MV.bool GG],MV.big 0 0],MV.st [MV.int GF (2:Z),MV.big 9 64,MV.sl 1 1 λi=>MV.int GF (F [(0:Z)] i 0),MV.sl 2 1 (aN [MV.big 8 64]),MV.st [MV.big 0 0,MV.big 0 0,MV.big 0 0],MV.st [MV.big 0 0,MV.big 0 0,MV.bool GG],MV.big 0 0]])/\fY 9/\((isE 9=0->W)\/isB 9=GG)/\fY 101/\fY 100/\fY 101/\fY 1/\fY 2/\okL 2 (aN [MV.st [MV.int GF (1:Z),MV.big 2 64,MV.val (AE GD 0 0),MV.val (AE GD 0 0),MV.st [MV.big 0 0,MV.big 0 0,MV.big 0 0],MV.st [MV.big 0 0,MV.big 0 0,MV.bool GG],MV.big 0 0],MV.st [MV.int GF (4:Z),MV.big 101 64,MV.sl 1 1 λi=>MV.int GF (F [(0:Z)] i 0),MV.val (AE GD 0 0),MV.st [MV.big 100 64,MV.big 0 0,MV.big 101 64],MV.st [MV.big 1 64,MV.big 0 0,MV.bool GG],MV.big 2 64]])/\fY 65537/\(okL 2 (aN [MV.st [MV.int GF (1:Z),MV.big 2 64,MV.val (AE GD 0 0),MV.val (AE GD 0 0),MV.st [MV.big 0 0,MV.big 0 0,MV.big 0 0],MV.st [MV.big 0 0,MV.big 0 0,MV.bool GG],MV.big 0 0],MV.st [MV.int GF (2:Z),MV.big 65537 64,MV.sl 1 1 λi=>MV.int GF (F [(0:Z)] i 0),MV.sl 2 1 (aN [MV.big 3 64]),MV.st [MV.big 0 0,MV.big 0 0,MV.big 0 0],MV.st [MV.big 0 0,MV.big 0 0,MV.bool GG],MV.big 0 0]])/\64<=1000)/\fY 2/\(okL 2 (aN [MV.st [MV.int GF (1:Z),MV.big 2 64,MV.val (AE GD 0 0),MV.val (AE GD 0 0),MV.st [MV.big 0 0,MV.big 0 0,MV.big 0 0],MV.st [MV.big 0 0,MV.big 0 0,MV.bool GG],MV.big 0 0],MV.st [MV.int GF (2:Z),MV.big 65537 64,MV.sl 1 1 λi=>MV.int GF (F [(0:Z)] i 0),MV.sl 2 1 (aN [MV.big 3 64]),MV.st [MV.big 0 0,MV.big 0 0,MV.big 0 0],MV.st [MV.big 0 0,MV.big 0 0,MV.bool GG],MV.big 0 0]])/\64<=1000)/\((0:Z)<=1/\(1:Z)<=(↑(2:Y):Z))/\fY 65537/\((okL (2-S 1) λi=>aN [MV.st [MV.int GF (1:Z),MV.big 2 64,MV.val (AE GD 0 0),MV.val (AE GD 0 0),MV.st [MV.big 0 0,MV.big 0 0,MV.big 0 0],MV.st [MV.big 0 0,MV.big 0 0,MV.bool GG],MV.big 0 0],MV.st [MV.int GF (2:Z),MV.big 65537 64,MV.sl 1 1 λi=>MV.int GF (F [(0:Z)] i 0),MV.sl 2 1 (aN [MV.big 3 64]),MV.st [MV.big 0 0,MV.big 0 0,MV.big 0 0],MV.st [MV.big 0 0,MV.big 0 0,MV.bool GG],MV.big 0 0]] (S 1+i))/\64<=1000)/\fY 9/\(64<=128/\(-9223372036854775808:Z)<=2/\(2:Z)<=9223372036854775807)/\fY 7/\(64<=128/\(-9223372036854775808:Z)<=2/\(2:Z)<=9223372036854775807)/\fY 2/\(64<=128/\(-9223372036854775808:Z)<=3/\(3:Z)<=9223372036854775807)/\(!aJ3 2 3)=T)=aJ xmE FC [] (A1 (.ret (.bool T))):=by kernel_rfl
structure isOk (m:MV):Prop where
 stp:isStp 200 m
 ok:okS (m7 m)
theorem jZ{k n a b m x y o:Z}{i:J}{P B:MV}{h g f e d c j:Y}(A:h<=200)(z:g<=200)(w:f<=200)(v:e<=200)(u:d<=200)(t:c<=200)(r:isInts P)(s:isBigs B)(p:n.natAbs<2^160)(l:(aEw P).length<=90)(q:(aD0 B).length<=1000) :
  isOk (.st [.int .i64 k,.big n j,P,B,.st [.big a h,.big b g,.big m f],.st [.big x e,.big y d,.bool i],.big o c]) :=
 ⟨aGn A z w v u t r s,⟨aQ _,by
  have:=bS p;show(aA n.natAbs).length<=6;omega,l,q⟩⟩
theorem aMI{n:Y}{f:Y->MV}(b:n<=1000000)(h:∀i,i<n->isOk (f i)):okL n f:=⟨b,λj c=>(h j c).stp,λs a=>by
 unfold aE at a;obtain⟨i,d,rfl⟩:=BN.1 a;exact(h i (E8.1 d)).ok⟩
theorem aC3{b a:MV}(e:isOk b)(d:isOk a):okL 2 (aN [b,a]):=aMI (by omega) λi c=>by
 match i,c with
 |0,_=>exact e
 |1,_=>exact d
theorem aYK{a:MV}(c:isOk a):okL 1 (aN [a]):=aMI (by omega) λi b=>by
 match i,b with
 |0,_=>exact c
theorem pF(z:Z):isInts (.sl 1 1 λi=>.int .i64 ([z].getD i 0)):=aQK λi a=>by
 match i,a with
 |0,_=>rfl
theorem bDM:aJ xmE FC [] (A1 (.ret (.bool GE))):=by
 rw[<-bAv GE];have a:(0:Y)<=200:=by omega
 have b:(64:Y)<=200:=by omega
 have two:isOk bE6:=jZ a a a a a a sN lV (by decide) (Z9 _) (Z9 _);have e:isOk (.st [.int .i64 2,.big 65537 64,.sl 1 1 (λi=>.int .i64 ([(0:Z)].getD i 0)),.sl 2 1 (aN [.big 3 64]),.st [.big 0 0,.big 0 0,.big 0 0],.st [.big 0 0,.big 0 0,.bool GG],.big 0 0]) :=
  jZ a a a a a a (pF 0) (rH λi c=>by
   match i,c with
   |0,_=>exact aAf b) (by decide) (show 1<=90 by omega) (show 1<=1000 by omega)
 have d:=aC3 two e;refine⟨by omega,by omega,by omega,by omega,by omega,by omega,by omega,by omega,d,aC3 two (jZ a a a a a a (pF 0) (rH λi c=>?_) (by decide) (show 1<=90 by omega) (show 2<=1000 by omega)),
  aYK (jZ a a a a a a sN lV (by decide) (Z9 _) (Z9 _)),aC3 two (jZ a a a a a a (pF 0) (rH λi c=>?_) (by decide) (show 1<=90 by omega) (show 1<=1000 by omega)),by omega,.inr (by decide),by omega,by omega,by omega,by omega,by omega,
  aC3 two (jZ b a b b a b (pF 0) lV (by decide) (show 1<=90 by omega) (Z9 _)),by omega,⟨d,by omega⟩,by omega,⟨d,by omega⟩,by omega,by omega,⟨aMI (by decide) λi c=>?_,by omega⟩,by omega,by omega,by omega,by omega,by omega,by omega,by decide⟩
 .match i,c with
  |0,_=>exact aAf b
  |1,_=>exact aAf b
 .match i,c with
  |0,_=>exact aAf b
 .match i,c with
  |0,_=>exact e
def aIj:aG
 |[]=>GC (GD,.ret (.bool GE))
 |_=>GD
theorem bER:bE FC aIj:=by
 intro ms p r h hp;unfold aIj at h;split at h
 .simp only[Z1,Z2]at h;obtain⟨rfl,rfl⟩:=h;exact⟨xmE,bDM⟩
 .simp at h
def bCy:Ctr AB:=⟨9,aIj,λargs w=>Tryz.call9 args w,aM bT Tryz.func9 aIj bER⟩
theorem aWA(n:Z)(b:_)(d:b=(X GH (BitVec.toNat (GO (B7 GH) n &&&GO (B7 GH) 4294967295):Z)))(a:_)(c:a=(fdiv n ((2:Z)^min (S 32) (B7 GH)))):((0:Z)<=32/\fY (X GF a)/\fY 4294967296/\(64<=1000000/\64<=1000000)/\fY (X GF b)/\(64+64<=1000000/\64<=1000000)/\X GF a *4294967296+X GF b =n/\(max (64+64) 64+1<=64\/u (X GF a *4294967296+X GF b)<2^64))=aJ (aK [cO,eV,gL] aC) GA [.int .u64 n] (A1 (.ret (.big n 64))):=by subst d c;kernel_rfl
def aDw:aG
 |[.int .u64 n]=>GC (GC (0<=n/\n<18446744073709551616),.ret (.big n 64))
 |_=>GD
def nR:Y->Y->Y
 |0,n=>n
 |f+1,n=>o (iI n) n (nR f (n+1))
structure NxI (n m:Nat) (s:WalkI):Prop where
 h1:n<=s.i
 h2:s.i<=m
def aJs(n m:Y):Y->MS->C LoopAnn
 |1,_=>GC (.inv WalkI (NxI n m) (λs=>⟨9, [(0,.int .u64 s.i)], [],0⟩) (λs=>m-s.i))
 |_,_=>GD
theorem aRG(n m:Y):((∃i:WalkI,NxI n m i/\((n:Z)=(i.1:Z)/\E)/\E)/\∀(i:WalkI),NxI n m i->(0<=(i.1:Z)/\(i.1:Z)<18446744073709551616)/\bif !iI (S (i.1:Z))then ∃j:WalkI,NxI n m j/\((X GH ((i.1:Z)+1)=(j.1:Z)/\E)/\E)/\m-j.1<m-i.1 else (i.1:Z)=(m:Z))=aJ (aK [aN9] (aJs n m)) F9 [.int .u64 n] (A1 (.ret (.int .u64 m))):=by kernel_rfl
theorem aZg:bE GA aDw:=by
 intro ms p r h a;unfold aDw at h;split at h
 .rename_i n;cases h;obtain⟨c,b⟩:=a;refine⟨aK [cO,eV,gL] aC,?_⟩;rw[<-aWA n _ rfl _ rfl];rw[qZ c b];have f:(2:Z)^min (S 32) (B7 GH)=4294967296:=by decide
  rw[f,fd (by omega)];have e:X GF (n/4294967296)=n/4294967296:=aT (by omega) (by omega);have d:X GF (n%4294967296)=n%4294967296:=aT (by omega) (by omega);rw[e,d];exact⟨by omega,by omega,by omega,by omega,by omega,by omega,by omega,.inr (by omega)⟩
 .simp at h
def mA:Ctr AB:=⟨20,aDw,λargs w=>Tryz.call20 args w,aM bT Tryz.func20 aDw aZg⟩
def gF(n:Y):Y:=AT (⟨nR 100000 n,rfl⟩:∃r,r=nR 100000 n)
theorem aO1(n:Y):gF n=nR 100000 n:=AN (⟨nR 100000 n,rfl⟩:∃r,r=nR 100000 n)
def aAN:aG
 |[.int .u64 n]=>GC (GC (0<=n/\n<1099511627776/\iI (gF n.toNat)=GE),.ret (.int .u64 (gF n.toNat)))
 |_=>GD
theorem aEL:∀(f n:Y),n<=nR f n
 |0,n=>Z0 n
 |f+1,n=>by
  unfold nR;cases iI n with
  |true=>exact Z0 n
  |false=>exact A6 (DN n) (aEL f (n+1))
theorem aKN:∀(f n:Y),nR f n<=n+f
 |0,n=>Z0 n
 |f+1,n=>by
  unfold nR;cases iI n with
  |true=>exact B0 n _
  |false=>have:=aKN f (n+1);simp only[Z5];omega
theorem aGE:∀(f n k:Y),n<=k->k<nR f n->iI k=GG
 |0,n,k,h1,a=>by have a:k<n:=a;omega
 |f+1,n,k,h1,a=>by
  unfold nR at a;cases b:iI n with
  |true=>rw[b,Z6]at a;omega
  |false =>
   rw[b,Z5]at a;by_cases c:k=n
   .subst c;exact b
   .exact aGE f (n+1) k (by omega) a
theorem aUv:bE F9 aAN:=by
 intro ms p r h e;unfold aAN at h;split at h
 .rename_i b;cases h;obtain⟨h1,h2,f⟩:=e;obtain⟨n,rfl⟩:∃n:Y,b=n:=⟨b.toNat,by omega⟩;rw[Z8]at *;rw[aO1]at *;have j:=aEL 100000 n;have g2:=aKN 100000 n;have g:=aGE 100000 n;generalize nR 100000 n=m at *;refine⟨aK [aN9] (aJs n m),?_⟩;rw[<-aRG n m];refine⟨⟨⟨n⟩,⟨Z0 n,j⟩,⟨rfl,⟨⟩⟩,⟨⟩⟩,λi I=>?_⟩;obtain⟨i⟩:=i;obtain⟨c,d⟩:=I;dsimp only at c d⊢;rw[Z8];refine⟨by omega,?_⟩;by_cases a:i=m
  .subst a;rw[f];rfl
  .rw[g i c (by omega)];have k:X GH ((i:Z)+1)=((i+1:Y):Z):=by rw[l8];omega
   exact⟨⟨i+1⟩,⟨by show n<=i+1;omega,by show i+1<=m;omega⟩,⟨⟨k,⟨⟩⟩,⟨⟩⟩,by show m-(i+1)<m-i;omega⟩
 .simp at h
def aSS:Ctr AB:=⟨21,aAN,λargs w=>Tryz.call21 args w,aM bT Tryz.func21 aAN aUv⟩
def yR:Y->Y->Y->Y
 |0,_,x=>x
 |f+1,d,x=>if x%d=0 then yR f d (x/d)else x
def jB(d x:Y):Y:=yR x d x
def fO:Y->Y->Y->O Z
 |0,_,_=> []
 |f+1,n,d=>if d*d<=n then (if n%d=0 then (d:Z)::fO f (jB d n) (d+1)else fO f n (d+1))else (if 1<n then [(n:Z)]else [])
def iF(n:Y):O Z:=fO (n+1) n 2
theorem aFg:∀(f g d x:Y),1<=x->2<=d->x<=f->x<=g->yR f d x=yR g d x
 |0,_,_,x,h,_,h1,_=>by omega
 |_,0,_,x,h,_,_,h2=>by omega
 |f+1,g+1,d,x,h,c,h1,h2=>by
  unfold yR;split
  .rename_i b;have hlt:x/d<x:=DX (by omega) (by omega);have a:1<=x/d:=EK (AL (by omega) (AI b)) (by omega);exact aFg f g d (x/d) a c (by omega) (by omega)
  .rfl
theorem aBR{d x:Y}(h:1<=x)(hd:2<=d)(c:x%d=0):jB d x=jB d (x/d)/\1<=x/d/\x/d<x:=by
 have b:x/d<x:=DX (by omega) (by omega);have a:1<=x/d:=EK (AL (by omega) (AI c)) (by omega);refine⟨?_,a,b⟩;unfold jB;obtain⟨k,rfl⟩:∃k,x=k+1:=⟨x-1,by omega⟩
 grind [yR,aFg]
theorem aA0{d x:Y}(h:1<=x)(hx:x%d≠0):jB d x=x:=by
 unfold jB;obtain⟨k,rfl⟩:∃k,x=k+1:=⟨x-1,by omega⟩
 all_goals grind [yR]
structure PgS where
 n:Nat
 d:Nat
 out:List Int
structure PgI (n0:Nat) (R:List Int) (s:PgS):Prop where
 n1:1<=s.n
 n2:s.n<=n0
 d1:2<=s.d
 d2:(s.d-1)*(s.d-1)<=n0
 hr:s.out++fO (n0+3-s.d) s.n s.d=R
 hl:s.out.length<=s.d
structure StrI (d n1:Nat) (s:WalkI):Prop where
 h1:1<=s.i
 h2:s.i<=n1
 h3:jB d s.i=jB d n1
def aNw(a:Y)(R:O Z):Y->MS->C LoopAnn
 |3,_=>GC (.inv PgS (PgI a R) (λs=>⟨35, [(0,.int .u64 s.n),(3,.bs 0 0 s.out.length),(4,.int .u64 s.d)], [⟨GG,.arr .u64 s.out⟩],0⟩) (λs=>a+3-s.d))
 |7,e=>(match aW 4 e.tm,aW 0 e.tm with
  |.int _ d,.int _ b=>GC (.inv WalkI (StrI d.toNat b.toNat) (λs=>⟨35, [(0,.int .u64 s.i),(3,aW 3 e.tm),(4,aW 4 e.tm)],e.bx,0⟩) (λs=>s.i))
  |_,_=>GD)
 |_,_=>GD
theorem aWK(n:Y)(R:O Z)(a:_)(m:a=λ(i:PgS)=>(PgS.d i:Z))(b:_)(l:b=λ(i:PgS)=>(PgS.out i))(e:_)(k:e=λ(i:PgS)=>(News.ints GH (P 1 (Q 0 [(a i)]))))(c:_)(g:c=λ(i:PgS)=>(PgS.n i:Z))(f:_)(h:f=λ(i:PgS)=>(D (b i) +AH (News.ints GH (P 1 (Q 0 [(c i)]))))):((∃i,PgI n R i/\((n:Z)= (c i)/\(0=0/\0=D (b i))/\2= (a i)/\E)/\[]=PgS.out i/\E)/\∀(i:PgS),PgI n R i->bif G (X GH ((a i) * (a i))<= (c i))then ((a i) =0->W)/\bif H (c i) (a i) ==0 then (0+1<=1/\D (b i) <=D (b i)/\(D (b i) +AH (e i))*8<=140737488355328)/\(∃i_1,StrI (S (a i)) (S (c i)) i_1/\((c i) =(i_1.1:Z)/\(0=0/\D (b i) +AH (e i) =D (b i) +AH (e i))/\(a i) = (a i)/\E)/\P (D (b i)) (b i) ++P 1 (Q 0 [(a i)])=P (D (b i)) (b i) ++P 1 (Q 0 [(a i)])/\[(a i)]=[(a i)]/\E)/\∀(i_1:WalkI),StrI (S (a i)) (S (c i)) i_1->((a i) =0->W)/\bif H (i_1.1:Z) (a i) ==0 then ((a i) =0->W)/\∃j,StrI (S (a i)) (S (c i)) j/\((X GH (GP (i_1.1:Z) (a i))=(j.1:Z)/\(0=0/\D (b i) +AH (e i) =D (b i) +AH (e i))/\(a i) = (a i)/\E)/\P (D (b i)) (b i) ++P 1 (Q 0 [(a i)])=P (D (b i)) (b i) ++P 1 (Q 0 [(a i)])/\[(a i)]=[(a i)]/\E)/\j.1<i_1.1 else ∃j,PgI n R j/\(((i_1.1:Z)=(PgS.n j:Z)/\(0=0/\D (b i) +AH (e i) =D (PgS.out j))/\X GH ((a i) +1)=(PgS.d j:Z)/\E)/\P (D (b i)) (b i) ++P 1 (Q 0 [(a i)])=PgS.out j/\E)/\n+3-PgS.d j<n+3-PgS.d i else (∃i_1,StrI (S (a i)) (S (c i)) i_1/\((c i) =(i_1.1:Z)/\(0=0/\D (b i) =D (b i))/\(a i) = (a i)/\E)/\PgS.out i=PgS.out i/\E)/\∀(i_1:WalkI),StrI (S (a i)) (S (c i)) i_1->((a i) =0->W)/\bif H (i_1.1:Z) (a i) ==0 then ((a i) =0->W)/\∃j,StrI (S (a i)) (S (c i)) j/\((X GH (GP (i_1.1:Z) (a i))=(j.1:Z)/\(0=0/\D (b i) =D (b i))/\(a i) = (a i)/\E)/\PgS.out i=PgS.out i/\E)/\j.1<i_1.1 else ∃j,PgI n R j/\(((i_1.1:Z)=(PgS.n j:Z)/\(0=0/\D (b i) =D (PgS.out j))/\X GH ((a i) +1)=(PgS.d j:Z)/\E)/\PgS.out i=PgS.out j/\E)/\n+3-PgS.d j<n+3-PgS.d i else bif G ((c i) >1)then (0+1<=1/\D (b i) <=D (b i)/\(f i) *8<=140737488355328)/\0+ (f i) <=D (P (D (b i)) (b i) ++P 1 (Q 0 [(c i)]))/\1=1/\D (b i) +AH (News.ints GH (P 1 (Q 0 [(c i)])))=D R/\LeFun (f i) (λj=>MV.int GH (F (P (D (b i)) (b i) ++P 1 (Q 0 [(c i)])) (0+j) 0)) λj=>MV.int GH (F R j 0)else 0+D (b i) <=D (b i)/\1=1/\D (b i) =D R/\LeFun (D (b i)) (λj=>MV.int GH (F (b i) (0+j) 0)) λj=>MV.int GH (F R j 0))=aJ (aK [] (aNw n R)) E1 [.int .u64 n] (A1 (.ret (.sl 1 R.length (λj=>.int .u64 (R.getD j 0))))):=by subst m l k g h;kernel_rfl
theorem aVQ(a b:Y):(H (a:Z) (b:Z)==0)=G (a%b=0):=by
 grind
theorem xF{a:Y}(h:a<18446744073709551616):X GH (a:Z)=a:=by rw[l8];omega
theorem aVl(n:Y)(M:1<=n)(h2:n<4611686018427387904):∃E:Env AB,aJ E E1 [.int .u64 n] (A1 (.ret (.sl 1 (iF n).length (λj=>.int .u64 ((iF n).getD j 0))))):=by
 refine⟨aK [] (aNw n (iF n)),?_⟩;rw[<-aWK n (iF n) _ rfl _ rfl _ rfl _ rfl _ rfl];have N:PgI n (iF n) ⟨n,2, []⟩:=⟨M,Z0 n,Z0 2,by show 1*1<=n;omega,rfl,Z9 _⟩;generalize iF n=R at *;refine⟨⟨_,N,⟨rfl,⟨rfl,rfl⟩,rfl,⟨⟩⟩,rfl,⟨⟩⟩,λs I=>?_⟩;obtain⟨x,d,out⟩:=s;obtain⟨m,H,d1,d2,b,L⟩:=I;dsimp only at m H d1 d2 b L⊢;have F:d<=2147483648:=by
  rcases BF 2147483648 d with q|q
  .have:=AR (show 2147483648<=d-1 by omega) (show 2147483648<=d-1 by omega);omega
  .exact q
 have hdd:d*d<=4611686018427387904:=AR F F;have P:X GH ((d:Z)*(d:Z))=((d*d:Y):Z):=by rw[<-AQ];exact xF (by omega)
 have O:X GH ((d:Z)+1)=((d+1:Y):Z):=xF (a:=d+1) (by omega);have G:GQ out.length out=out:=CN;have D:∀y:Z,GQ 1 (drop 0 [y])=[y]:=λ_=>rfl;have C:∀y:Z,AH (News.ints GH [y])=1:=λ_=>rfl;rw[P,O,G,D,D,C,C,aVQ];refine aI (p:=d*d<=x) (by rw[Z4];omega) (λq1=>?_) (λq1=>?_)
 .have B:d<=x:=A6 (CV d (by omega)) q1;obtain⟨f,z⟩:∃f,n+3-d=f+1:=⟨n+2-d,by omega⟩;rw[z]at b;have b:out++(if d*d<=x then (if x%d=0 then (d:Z)::fO f (jB d x) (d+1)else fO f x (d+1))else (if 1<x then [(x:Z)]else []))=R:=b;rw[U q1]at b;have hff:n+3-(d+1)=f:=by omega
  refine⟨by omega,aI (p:=x%d=0) Z4 (λh=>?_) (λh=>?_)⟩
  .rw[U h]at b;have e:(out++[(d:Z)]).length=out.length+1:=by simp
   refine⟨⟨by omega,Z0 _,by omega⟩,⟨⟨x⟩,⟨m,Z0 x,rfl⟩,⟨rfl,⟨rfl,rfl⟩,rfl,⟨⟩⟩,rfl,rfl,⟨⟩⟩,λt J=>?_⟩;obtain⟨t⟩:=t;obtain⟨g,l,k⟩:=J;dsimp only at g l k⊢;rw[Z8]at l;rw[Z8,Z8]at k;rw[aVQ];refine⟨by omega,aI (p:=t%d=0) Z4 (λi=>?_) (λi=>?_)⟩
   .obtain⟨v,u,o⟩:=aBR g d1 i;have A:X GH (GP (t:Z) (d:Z))=((t/d:Y):Z):=by
     rw[BM (by omega),<-BI];exact xF (by omega)
    exact⟨by omega,⟨t/d⟩,⟨u,by show t/d<=x;omega,v.symm.trans k⟩,⟨⟨A,⟨rfl,rfl⟩,rfl,⟨⟩⟩,rfl,rfl,⟨⟩⟩,o⟩
   .have K:=aA0 g i;refine⟨⟨t,d+1,out++[(d:Z)]⟩,⟨g,by show t<=n;omega,by show 2<=d+1;omega,by show(d+1-1)*(d+1-1)<=n;rw[BT];omega,?_,by show(out++[(d:Z)]).length<=d+1;omega⟩,⟨⟨rfl,⟨rfl,e.symm⟩,rfl,⟨⟩⟩,rfl,⟨⟩⟩,by show n+3-(d+1)<n+3-d;omega⟩
    simp_all
  .rw[V h]at b;refine⟨⟨⟨x⟩,⟨m,Z0 x,rfl⟩,⟨rfl,⟨rfl,rfl⟩,rfl,⟨⟩⟩,rfl,⟨⟩⟩,λt J=>?_⟩;obtain⟨t⟩:=t;obtain⟨g,l,k⟩:=J;dsimp only at g l k⊢;rw[Z8]at l;rw[Z8,Z8]at k;rw[aVQ];refine⟨by omega,aI (p:=t%d=0) Z4 (λi=>?_) (λi=>?_)⟩
   .obtain⟨v,u,o⟩:=aBR g d1 i;have A:X GH (GP (t:Z) (d:Z))=((t/d:Y):Z):=by
     rw[BM (by omega),<-BI];exact xF (by omega)
    exact⟨by omega,⟨t/d⟩,⟨u,by show t/d<=x;omega,v.symm.trans k⟩,⟨⟨A,⟨rfl,rfl⟩,rfl,⟨⟩⟩,rfl,⟨⟩⟩,o⟩
   .have K:=aA0 g i;have hs2:=aA0 m h;refine⟨⟨t,d+1,out⟩,⟨g,by show t<=n;omega,by show 2<=d+1;omega,by show(d+1-1)*(d+1-1)<=n;rw[BT];omega,?_,by show out.length<=d+1;omega⟩,⟨⟨rfl,⟨rfl,rfl⟩,rfl,⟨⟩⟩,rfl,⟨⟩⟩,by show n+3-(d+1)<n+3-d;omega⟩
    simp_all
 .have B:d<=n+1:=by
   rcases BF (n+1) d with q|q
   .have:(d-1)*1<=(d-1)*(d-1):=A0 _ (by omega);omega
   .exact q
  obtain⟨f,z⟩:∃f,n+3-d=f+1:=⟨n+2-d,by omega⟩;rw[z]at b;have b:out++(if d*d<=x then (if x%d=0 then (d:Z)::fO f (jB d x) (d+1)else fO f x (d+1))else (if 1<x then [(x:Z)]else []))=R:=b;rw[V q1]at b;refine aI (p:=1<x) (by rw[Z4];omega) (λh=>?_) (λh=>?_)
  .rw[U h]at b;subst b;have e:(out++[(x:Z)]).length=out.length+1:=by simp
   refine⟨⟨by omega,Z0 _,by omega⟩,by omega,rfl,e.symm,⟨λj _ c w Q r=>?_⟩⟩
   simp_all
  .rw[V h,EZ]at b;subst b;refine⟨by omega,rfl,rfl,⟨λj _ c w Q r=>?_⟩⟩
   all_goals simp_all
def aL(n:Y):O Z:=AT (⟨iF n,rfl⟩:∃r,r=iF n)
theorem gI(n:Y):aL n=iF n:=AN (⟨iF n,rfl⟩:∃r,r=iF n)
def aDF:aG
 |[.int .u64 n]=>GC (GC (1<=n/\n<4611686018427387904),.ret (.sl 1 (aL n.toNat).length (λj=>.int .u64 ((aL n.toNat).getD j 0))))
 |_=>GD
theorem aZq:bE E1 aDF:=by
 intro ms p r h b;unfold aDF at h;split at h
 .rename_i a;cases h;obtain⟨h1,h2⟩:=b;obtain⟨n,rfl⟩:∃n:Y,a=n:=⟨a.toNat,by omega⟩;rw[Z8,gI];exact aVl n (by omega) (by omega)
 .simp at h
def aCO:Ctr AB:=⟨55,aDF,λargs w=>Tryz.call55 args w,aM bT Tryz.func55 aDF aZq⟩
theorem Given.leRows{X:Y->Prop}{c:Ctx}{w:I}{x:BC}{wd n:Y}{g e:Y->MV}(h:Given X c w [x,.rows wd n g])(p:LeFun n g e):Given X c w [x,.rows wd n e]:=by
 refine⟨h.lt,h.WS,h.hW,h.X,h.inj,λi b=>h.ind i b,λi bc b a=>?_⟩
 match i,a with
 |0,a=>exact h.box 0 bc b a
 |1,a =>
  simp only[aR,Z1]at a;subst a;obtain⟨arr,ty,q1,o,m,l⟩:=h.box 1 _ b rfl;refine⟨arr,ty,q1,o,m,λr d=>?_⟩;obtain⟨q,k,j,f⟩:=l r d;exact⟨q,k,p.h r d _ _ _ j,f⟩
theorem oK{P:M}(e:P.follows .mixedOrders=GE){f:FuncId}{i:Func}(u:P.funcs[f]? =GC i){wd:Y}(spec:O MV->Y->(Y->MV)->C (OProp×Y×(Y->MV)×MV))(a:∀b n g p n' g' m,spec b n g=GC (p,n',g',m)->p.holds->∃h,LeFun n g h/\∃E:Env P,nP E i wd b n h n' g' m):POk P f wd spec:=by
 intro X c w n n' g g' b args p m s t j x k l v;obtain⟨h,z,y⟩:=a b n g p n' g' m s t;exact bC0 e u (λd o q=>GC (GC (∃E:Env P,nP E i wd d o q n' g' m),n',g',m)) (λd o q p2 n3 g4 m2 q1 r=>by
  simp only[Z1,Z2]at q1;obtain⟨rfl,rfl,rfl,rfl⟩:=q1;exact r) X c w n n' h g' b args _ m rfl y j (x.leRows z) k l v
def b8(z:Z):Stp:=⟨1,G (z<0),aA z.natAbs, [], [],0,0,0,0,0,GG,0⟩
def aJ6(Γ:O (Ctr AB))(Δ:O (Mu AB))(fz:Y->O Y)(ann:Y->MS->C LoopAnn):Env AB:=⟨Γ,Δ,39,ann,fz,λ_ _=>GD⟩
def fzP:Y->O Y
 |2=> [1000000]
 |_=> []
theorem aRD(L:O Stp)(z:Z)(a:_)(b:a=(News.rows 18 1 (aN [MV.st [MV.int GF (1:Z),MV.big z 64,MV.val (AE GD 0 0),MV.val (AE GD 0 0),MV.st [MV.big 0 0,MV.big 0 0,MV.big 0 0],MV.st [MV.big 0 0,MV.big 0 0,MV.bool GG],MV.big 0 0]]))):(bif G (z<65536)then (0<=z/\z<18446744073709551616)/\(D L<=D L/\(D L+AH a)*288<=140737488355328)/\((0=0/\D L+AH a =D (L++[b8 z]))/\E)/\(D (L++[b8 z])<=D L+1/\LeFun (D (L++[b8 z])) (λq=>bif AO q (D L)then aF L 200 q else aN [MV.st [MV.int GF (1:Z),MV.big z 64,MV.val (AE GD 0 0),MV.val (AE GD 0 0),MV.st [MV.big 0 0,MV.big 0 0,MV.big 0 0],MV.st [MV.big 0 0,MV.big 0 0,MV.bool GG],MV.big 0 0]] (q-D L)) (aF (L++[b8 z]) 200))/\X GF ((↑(D L+AH a):Z)-1)=(D L:Z)else W)=nP (aJ6 [mA] [] fzP aC) EE 18 [.int .u64 z] L.length (aF L 200) (L++[b8 z]).length (aF (L++[b8 z]) 200) (.int .i64 L.length):=by subst b;kernel_rfl
theorem aLk(L:O Stp){m:MV}{s:Stp}(h:isStp 200 m)(f:m7 m=s):LeFun (L++[s]).length (λq=>bif AO q L.length then aF L 200 q else aN [m] (q-L.length)) (aF (L++[s]) 200):=by
 refine⟨λq g c w d r=>?_⟩;have r:RepC c w (bif AO q L.length then aF L 200 q else aN [m] (q-L.length)) d:=r;show RepC c w (m8 ((L++[s]).getD q aB) 200) d;by_cases a:q<L.length
 .have e:AO q L.length=GE:=by simpa [CG]using a
  rw[e,Z6]at r;have b:(L++[s]).getD q aB=L.getD q aB:=by rw[AD,AD,BD a]
  rw[b];exact r
 .have e:AO q L.length=GG:=by
   cases i:AO q L.length with
   |false=>rfl
   |true=>exact N (CG ▸ i) a
  rw[e,Z5]at r;have hq2:q<L.length+1:=by simpa using g
  have j:q-L.length=0:=by omega
  have b:(L++[s]).getD q aB=s:=by
   have:q=L.length:=by omega
   simp[AD,this]
  rw[j]at r;rw[b,<-f];exact h.h c w d r
theorem aOH{L:O Stp}{s:Stp}:(L++[s]).length=L.length+1:=by simp
def aBU(z:Z):MV:= .st [.int .i64 1,.big z 64,.val (.slice GD 0 0),.val (.slice GD 0 0),.st [.big 0 0,.big 0 0,.big 0 0],.st [.big 0 0,.big 0 0,.bool GG],.big 0 0]
theorem aPR(z:Z):isStp 200 (aBU z):=aGn (by omega) (by omega) (by omega) (by omega) (by omega) (by omega) sN lV
theorem aGS(L:O Stp)(z:Z)(e:0<=z)(d:z<65536)(hL:L.length<=1000000):∃E:Env AB,nP E EE 18 [.int .u64 z] L.length (aF L 200) (L++[b8 z]).length (aF (L++[b8 z]) 200) (.int .i64 L.length):=by
 refine⟨aJ6 [mA] [] fzP aC,?_⟩;rw[<-aRD L z _ rfl];have b:AH (News.rows 18 1 (aN [aBU z]))=1:=rfl;have a:=aLk L (s:=b8 z) (aPR z) rfl;have c:=aOH (L:=L) (s:=b8 z);unfold aBU at b a;rw[b];have f:X GF (((L.length+1:Y):Z)-1)=(L.length:Z):=by rw[aT (by omega) (by omega)];omega
 exact aOd (Y0 d) ⟨⟨e,by omega⟩,⟨Z0 _,by omega⟩,⟨⟨rfl,c.symm⟩,⟨⟩⟩,⟨by omega,a⟩,f⟩
structure AdS where
 k:Nat
structure AdI (q:List Int) (s:AdS):Prop where
 hk:s.k<=q.length
def fzA:Y->O Y
 |7=> [2]
 |_=> []
theorem aYL{z:Z}(h1:0<=z)(h2:z<65536):okS (b8 z):=⟨aQ _,by
 have:=bS (n:=z.natAbs) (b:=64) (by omega);show(aA z.natAbs).length<=6;omega,Z9 _,Z9 _⟩
theorem aRs{L:O Stp}{n:Y}(h:L.length=n):aE n (aF L 200)=L:=by subst h;exact qJ L 200
def plP(n k:Y):Z:=((1+k%(n-1):Y):Z)
def plQ(n k:Y):Z:=(((1+k/7)%n:Y):Z)
def fS(n k:Y)(idx:O Z):Stp:=⟨3,GG,aA n,idx, [plP n k,plQ n k],0,0,0,0,0,GG,0⟩
structure PuS where
 k:Nat
 ex:List Stp
 b:List Int
structure PuI (fr K:Nat) (s:PuS):Prop where
 h1:fr<=s.k
 h2:s.k<=K
def puT(n:Y)(M:O Stp)(idx:O Z)(s:PuS):MS:=⟨65, [(0,.bp 0 0),(1,.int .u64 n),(7,.bp 2 0),(8,.int .u64 s.k)],
 [⟨GG,.one (.st [.bs 1 0 M.length])⟩,⟨GG,.rows 18 (M.length+s.ex.length) (aF (M++s.ex) 200)⟩,
 ⟨GG,.one (.st [.int .i64 3,.big n 64,  .sl 1 idx.length (bJ idx),.sl 2 s.b.length (iL s.b 200),.st [.big 0 0,.big 0 0,.big 0 0],.st [.big 0 0,.big 0 0,.bool GG],.big 0 0])⟩],1⟩
def aNp(n a K:Y)(M:O Stp)(idx:O Z):Y->MS->C LoopAnn
 |4,_=>GC (.inv PuS (PuI a K) (puT n M idx) (λs=>K+1-s.k))
 |_,_=>GD
def fzU:Y->O Y
 |6=> [1000000]
 |999994=> [0]
 |_=> []
structure CuI (n:Nat) (k:Int) (s:PuS):Prop where
 hk:k=(s.k:Int)
 hb:s.b=[plP n s.k,plQ n s.k]
def bGH(n:Y)(M:O Stp)(idx:O Z):Y->MS->C CutAnn
 |5,e=>(match aW 8 e.tm with
  |.int _ k=>GC (.mk PuS (CuI n k) (puT n M idx))
  |_=>GD)
 |_,_=>GD
def aTn(Γ:O (Ctr AB))(Δ:O (Mu AB))(fz:Y->O Y)(ann:Y->MS->C LoopAnn)(cut:Y->MS->C CutAnn):Env AB:=⟨Γ,Δ,39,ann,fz,cut⟩
def aBb(M ex:O Stp)(v:MV):Y->MV:=λq=>bif AO q M.length then aF (M++ex) 200 q else aN [v] (q-M.length)
theorem aHi{M ex:O Stp}{v:MV}{q:Y}(h:q<M.length):aBb M ex v q=m8 (M.getD q aB) 200:=by
 have e:AO q M.length=GE:=by simpa [CG]using h
 unfold aBb;rw[e,Z6];show m8 ((M++ex).getD q aB) 200=_;rw[AD,AD,BD h]
theorem aHg{M ex:O Stp}{v:MV}:aBb M ex v M.length=v:=by
 have e:AO M.length M.length=GG:=by
  cases a:AO M.length M.length with
  |false=>rfl
  |true=>exact N (CG ▸ a) (CM _)
 unfold aBb;rw[e,Z5,FJ];rfl
theorem aBS(M ex:O Stp)(v:MV):aE (M.length+1) (aBb M ex v)=M++[m7 v]:=by
 refine CP (by simp[aE]) λi b h2=>?_;have hi:i<M.length+1:=by simpa [aE]using b
 have e:(aE (M.length+1) (aBb M ex v))[i]=m7 (aBb M ex v i):=by simp[aE]
 rw[e];by_cases a:i<M.length
 .rw[aHi a,tC,List.getElem_append_left a];simp[AD,a]
 .have:i=M.length:=by omega
  subst this;rw[aHg];simp
theorem aYJ{M ex:O Stp}{v:MV}(b:okT M)(hv:isOk v)(a:M.length+1<=1000000):okL (M.length+1) (aBb M ex v):=by
 refine⟨a,λj hj=>?_,λs hs=>?_⟩
 .by_cases h:j<M.length
  .rw[aHi h];exact p8 _ 200
  .have:j=M.length:=by omega
   subst this;rw[aHg];exact hv.stp
 .rw[aBS]at hs;rcases BR.1 hs with hs|hs
  .exact b.ok s hs
  .rw[BB.1 hs];exact hv.ok
theorem aHh{M ex:O Stp}{v:MV}(hv:isStp 200 v){s:Stp}(b:m7 v=s):LeFun (M.length+1) (aBb M ex v) (aF (M++[s]) 200):=by
 have h:=aBS M ex v;have a:=j0 (n:=M.length+1) (f:=aBb M ex v) (W:=200) (λj hj=>by
  by_cases h:j<M.length
  .rw[aHi h];exact p8 _ 200
  .have:j=M.length:=by omega
   subst this;rw[aHg];exact hv)
 rw[h,b]at a;exact a
theorem aKo(l:O Z):isInts (.sl 1 l.length (bJ l)):=⟨λc w a r=>by
 show RepC c w (.sl 1 (iY l.length (bJ l)).length (bJ (iY l.length (bJ l)))) a;rw[iE];exact r⟩
def plV(n:Y)(idx b:O Z):MV:= .st [.int .i64 3,.big n 64,.sl 1 idx.length (bJ idx),.sl 2 b.length (iL b 200),.st [.big 0 0,.big 0 0,.big 0 0],.st [.big 0 0,.big 0 0,.bool GG],.big 0 0]
theorem bEE{n:Y}{idx b:O Z}(a:n<2^160)(c:idx.length<=90)(d:b.length<=1000):isOk (plV n idx b) :=
 jZ (by omega) (by omega) (by omega) (by omega) (by omega) (by omega) (aKo idx) (rH λi _=>lE b (Z0 _) i) (by simpa using a) (by
  show(iY idx.length (bJ idx)).length<=90;rw[iE];exact c) (by
  show(aH b.length (iL b 200)).length<=1000;rw[eK];exact d)
theorem aZL(n k:Y)(idx:O Z):m7 (plV n idx [plP n k,plQ n k])=fS n k idx:=by
 show(⟨3,G ((n:Z)<0),aA (n:Z).natAbs,iY idx.length (bJ idx),aH 2 (iL [plP n k,plQ n k] 200),0,0,0,0,0,GG,0⟩:Stp)=_;rw[iE,show aH 2 (iL [plP n k,plQ n k] 200)=[plP n k,plQ n k] from eK [plP n k,plQ n k] 200,Y1 (show ¬(n:Z)<0 by omega)];rfl
theorem aFl(M:O Stp)(s:Stp):(M++[s]).getD M.length aB=s:=by simp[AD]
def srF(t:Y->J):Y->Y->Y
 |0,k=>k
 |f+1,k=>o (t k) k (srF t f (k+1))
theorem aI8(t:Y->J):∀(f k:Y),k<=srF t f k
 |0,k=>Z0 k
 |f+1,k=>by
  unfold srF;cases t k with
  |true=>exact Z0 k
  |false=>exact A6 (DN k) (aI8 t f (k+1))
theorem aM3(t:Y->J):∀(f k:Y),srF t f k<=k+f
 |0,k=>Z0 k
 |f+1,k=>by
  unfold srF;cases t k with
  |true=>exact B0 k _
  |false=>have:=aM3 t f (k+1);simp only[Z5];omega
theorem aDR(t:Y->J):∀(f k j:Y),k<=j->j<srF t f k->t j=GG
 |0,k,j,h1,a=>by have a:j<k:=a;omega
 |f+1,k,j,h1,a=>by
  unfold srF at a;cases b:t k with
  |true=>rw[b,Z6]at a;omega
  |false =>
   rw[b,Z5]at a;by_cases c:j=k
   .subst c;exact b
   .exact aDR t f (k+1) j (by omega) a
theorem aAZ(t:Y->J):∀(f k j:Y),k<=j->j<k+f->t j=GE->t (srF t f k)=GE
 |0,k,j,h1,h2,_=>by omega
 |f+1,k,j,h1,h2,a=>by
  unfold srF;cases b:t k with
  |true=>exact b
  |false =>
   have:j≠k:=λe=>by subst e;rw[b]at a;cases a
   exact aAZ t f (k+1) j (by omega) (by omega) a
theorem aJc{z:Z}(h:2<=z):(b8 z).can=GE/\2<=(b8 z).n:=by
 refine⟨oV z,?_⟩;have e:(b8 z).n=z:=by
  show(if G (z<0)=GE then-(wv (aA z.natAbs))else wv (aA z.natAbs))=z;rw[Y1 (show ¬z<0 by omega),V (by decide),iK];omega
 rw[e];exact h
theorem tF:∀(f d x:Y),1<=x->2<=d->x<=f->∃k,x=d^k*jB d x/\¬d ∣ jB d x/\1<=jB d x/\(x%d=0->1<=k)
 |0,d,x,h,_,h1=>by omega
 |f+1,d,x,h,b,h1=>by
  by_cases a:x%d=0
  .obtain⟨g,c,k3⟩:=aBR h b a;obtain⟨k,e,j,i,_⟩:=tF f d (x/d) c b (by omega);rw[g];refine⟨k+1,?_,j,i,λ_=>by omega⟩
   grind [Nat.mul_div_cancel',AI,CL,B1]
  .rw[aA0 h a];exact⟨0,by rw[CU,CZ],λq=>a (AZ q),h,λq=>N q a⟩
theorem Pri.pow{p d k:Y}(h:Pri p)(a:p ∣ d^k):p ∣ d:=by
 induction k with
 |zero=>rw[CU]at a;have:=AL (by omega) a;have:=h.lt;omega
 |succ k ih =>
  rw[BX]at a;rcases h.mul a with q|q
  all_goals omega
theorem Pri.eq_of_dvd{p q:Y}(b:Pri p)(a:Pri q)(h:p ∣ q):p=q:=by
 rcases a.dv p h with e|e
 .have:=b.lt;omega
 .exact e
structure PrList (n d:Nat) (l:List Int):Prop where
 mem:∀x∈l,∃p:Nat,x=p/\Pri p/\p ∣ n/\d<=p
 pw:l.Pairwise (·<·)
 all:∀p,Pri p->p ∣ n->(p:Int)∈l
theorem pL:∀(f n d:Y),1<=n->2<=d->n+3<=f+d->(∀p,Pri p->p ∣ n->d<=p)->PrList n d (fO f n d)
 |0,n,d,o,B,hf,j=>by
  have h:n=1:=by
   rcases BF 1 n with q|q
   .obtain⟨p,b,a⟩:=sJ n n (Z0 n) q;have:=j p b a;have:=AL (by omega) a;omega
   .omega
  subst h;exact⟨λx c=>by simp[fO]at c,CW,λp b a=>by have:=AL (by omega) a;have:=b.lt;omega⟩
 |f+1,n,d,o,B,hf,j=>by
  unfold fO;by_cases q1:d*d<=n
  .rw[U q1];have hdn:d<=n:=A6 (CV d (by omega)) q1;by_cases g:n%d=0
   .rw[U g];have v:=AI g;have y:Pri d:=by
     obtain⟨p,b,i⟩:=sJ d d (Z0 d) (by omega);have h:=j p b (FD i v);have h2:=AL (by omega) i
     grind
    obtain⟨k,e,hnd,h,_⟩:=tF n d n o B (Z0 n);generalize jB d n=m at *;have t:m ∣ n:=⟨d^k,by rw[AY];exact e⟩;have u:=AL (by omega) t;obtain⟨A,l,z⟩:=pL f m (d+1) h (by omega) (by omega) λp b r=>by
     grind
    refine⟨λx c=>?_,C7.2 ⟨λx c=>?_,l⟩,λp b a=>?_⟩
    .grind
    .grind
    .rw[e]at a;rcases b.mul a with w|w
     .rw[b.eq_of_dvd y (b.pow w)];simp
     simp_all
   .rw[V g];obtain⟨A,l,z⟩:=pL f n (d+1) o (by omega) (by omega) λp b r=>by
     grind [BF,AZ]
    exact⟨λx c=>by obtain⟨p,E,D,C,r4⟩:=A x c;exact⟨p,E,D,C,by omega⟩,l,z⟩
  .rw[V q1];by_cases g:1<n
   .rw[U g];have s:Pri n:=by
     refine BA λw=>?_;obtain⟨p,b,a,u⟩:=wF g w;have h:=j p b a;have:=AR h h;omega
    refine⟨λx c=>?_,C7.2 ⟨λx c=>by simp at c,CW⟩,λp b a=>by rw[b.eq_of_dvd s a];exact AJ ..⟩
    grind [BB,FL]
   .rw[V g];exact⟨λx c=>by simp at c,CW,λp b a=>by have:=AL (by omega) a;have:=b.lt;omega⟩
theorem gW{n:Y}(h:1<=n):PrList n 2 (iF n):=pL (n+1) n 2 h (Z0 2) (by omega) λp a _=>a.lt
theorem aES{a q:Y}(b:Pri q)(k:¬q ∣ a)(g:1<=a):∀(f m:Y),m<=f->1<=m->lQ ((a*m:Y):Z) q=lQ (m:Z) q
 |0,m,h,c=>by omega
 |f+1,m,h,c=>by
  have l:=b.lt;have am:1<=a*m:=DM g c;by_cases j:m%q=0
  .obtain⟨t,rfl⟩:=AI j;have t0:t≠0:=λe=>by rw[e,DD]at c;omega
   have i:1<=t:=by omega
   have hlt:t<q*t:=by
    have:=C1 t l;omega
   have d:((a*(q*t):Y):Z)%(q:Z)=0:=by rw[<-AP];rw[BY];simp
   have p:((q*t:Y):Z)%(q:Z)=0:=by rw[<-AP];simp
   rw[aAw (by omega) (by omega) d,aAw (by omega) (by omega) p];have o:((a*(q*t):Y):Z)/(q:Z)=((a*t:Y):Z):=by
    grind [BI,BY,AV]
   have n:((q*t:Y):Z)/(q:Z)=(t:Z):=by
    grind [BI,AV]
   rw[o,n,aES b k g f t (by omega) i]
  .have d:((a*m:Y):Z)%(q:Z)≠0:=by
    rw[<-AP];intro w;rcases b.mul (AI (show a*m%q=0 by omega))with z|z
    all_goals omega
   grind [AP,aH5]
theorem aBI{d m:Y}(e:2<=d)(c:¬d ∣ m)(a:1<=m):∀k:Y,lQ ((d^k*m:Y):Z) d=((d^k:Y):Z)
 |0=>by
  grind [AP,AI,aH5]
 |k+1=>by
  have h1:1<=d^(k+1)*m:=DM (DL (by omega)) a;have b:d^(k+1)*m=d*(d^k*m):=by rw[CL,B1]
  have g:((d^(k+1)*m:Y):Z)%(d:Z)=0:=by rw[<-AP,b];simp
  have f:((d^(k+1)*m:Y):Z)/(d:Z)=((d^k*m:Y):Z):=by rw[<-BI,b,AV _ (by omega)]
  rw[aAw (by omega) (by omega) g,f,aBI e c a k,CL,AQ]
theorem aCi{a m:Y}(d:1<=a)(b:1<=m):∀(l:O Z) (o:Z),(∀x∈l,∃p:Y,x=p/\Pri p/\p ∣ m/\¬p ∣ a)->pM ((a*m:Y):Z) l o=pM (m:Z) l o
 |[],_,_=>rfl
 |x::r,o,h=>by
  obtain⟨p,rfl,f,c,g⟩:=h x (AJ ..);have j:((a*m:Y):Z)%(p:Z)=0:=by rw[<-AP,AZ (FD c (Nat.dvd_mul_left m a))];rfl
  have i:((m:Y):Z)%(p:Z)=0:=by rw[<-AP,AZ c];rfl
  show(if ((a*m:Y):Z)%(p:Z)=0 then pM ((a*m:Y):Z) r (o*lQ ((a*m:Y):Z) p)else GD)=(if ((m:Y):Z)%(p:Z)=0 then pM (m:Z) r (o*lQ (m:Z) p)else GD);rw[U j,U i,aES f g d m m (Z0 m) b];exact aCi d b r _ λx e=>h x (AF _ e)
theorem sV:∀(f n d:Y) (o:Z),1<=n->2<=d->n+3<=f+d->(∀p,Pri p->p ∣ n->d<=p)->pM (n:Z) (fO f n d) o=GC (o*n)
 |0,n,d,o,j,l,B,t=>by
  have b:n=1:=by
   rcases BF 1 n with q|q
   .obtain⟨p,s,g⟩:=sJ n n (Z0 n) q;have:=t p s g;have:=AL (by omega) g;omega
   .omega
  subst b;show GC o=GC (o*((1:Y):Z));simp
 |f+1,n,d,o,j,l,B,t=>by
  have a:=pL (f+1) n d j l B t;unfold fO at a⊢;by_cases q1:d*d<=n
  .rw[U q1]at a⊢;have hdn:d<=n:=A6 (CV d (by omega)) q1;by_cases c:n%d=0
   .rw[U c]at a⊢;have hdv:=AI c;obtain⟨k,e,y,b,_⟩:=tF n d n j l (Z0 n);have i:Pri d:=by
     obtain⟨p,w1,w2,w3,_⟩:=a.mem (d:Z) (AJ ..)
     grind
    generalize jB d n=m at *;have z:m ∣ n:=⟨d^k,by rw[AY];exact e⟩;have hle:=AL (by omega) z;have h:∀p,Pri p->p ∣ m->d+1<=p:=λp s v=>by
     grind
    have hin:=sV f m (d+1) (o*((d^k:Y):Z)) b (by omega) (by omega) h;have A:=pL f m (d+1) b (by omega) (by omega) h;have u:(n:Z)%(d:Z)=0:=by rw[<-AP,c];rfl
    show(if (n:Z)%(d:Z)=0 then pM (n:Z) (fO f m (d+1)) (o*lQ (n:Z) d)else GD)=_;rw[U u];have F:lQ (n:Z) d=((d^k:Y):Z):=by rw[e];exact aBI l y b k
    rw[F];have e3:pM (n:Z) (fO f m (d+1)) (o*((d^k:Y):Z))=pM (m:Z) (fO f m (d+1)) (o*((d^k:Y):Z)):=by
     rw[e];exact aCi (DL (by omega)) b _ _ λx E=>by
      obtain⟨p,D,r,C,r4⟩:=A.mem x E;exact⟨p,D,r,C,λw=>by have:=i.lt;have:=r.eq_of_dvd i (r.pow w);omega⟩
    grind [B4,AQ]
   .rw[V c];exact sV f n (d+1) o j (by omega) (by omega) λp s v=>by
     grind [BF,AZ]
  .rw[V q1]at a⊢;by_cases c:1<n
   .rw[U c];have u:(n:Z)%(n:Z)=0:=Int.emod_self;show(if (n:Z)%(n:Z)=0 then GC (o*lQ (n:Z) n)else GD)=_;rw[U u];have:=aBI (d:=n) (m:=1) (by omega) (λw=>by have:=AL (by omega) w;omega) (by omega) 1
    simp_all
   .rw[V c];have b:n=1:=by omega
    subst b;show GC o=GC (o*((1:Y):Z));simp
theorem aK9{n:Y}(h:1<=n):cE (n:Z) (iF n)=GC (n:Z):=by
 have:=sV (n+1) n 2 1 h (Z0 2) (by omega) λp a _=>a.lt;rw[C3]at this;exact this
def wtL:O Z->Y
 |[]=>0
 |q::r=>AM q.toNat+wtL r
theorem aA2{n:Y}(h:1<=n):2^AM n<=n:=Nat.log2_self_le (by omega)
theorem yO:∀(f n d:Y),1<=n->2<=d->2^wtL (fO f n d)<=n
 |0,n,d,b,g=>b
 |f+1,n,d,b,g=>by
  unfold fO;by_cases q1:d*d<=n
  .rw[U q1];by_cases a:n%d=0
   .rw[U a];obtain⟨k,e,hnd,j,c⟩:=tF n d n b g (Z0 n);have c:=c a;have h:=yO f (jB d n) (d+1) j (by omega);show 2^(AM (d:Z).toNat+wtL (fO f (jB d n) (d+1)))<=n;rw[Z8,FT];have i:d<=d^k:=by
     have:=A7 (show 0<d by omega) c
     grind
    have:=AR (A6 (aA2 (show 1<=d by omega)) i) h;omega
   .rw[V a];exact yO f n (d+1) b (by omega)
  .rw[V q1];by_cases a:1<n
   .rw[U a];show 2^(AM (n:Z).toNat+0)<=n;rw[Z8];exact aA2 b
   .rw[V a];exact b
theorem oP{n:Y}(h:1<=n):wtL (iF n)<=AM n:=by
 have:=yO (n+1) n 2 h (Z0 2);exact(B5 (by omega)).2 this
theorem sQ:∀(l:O Z),(∀x∈l,2<=x)->l.length<=wtL l
 |[],_=>Z0 0
 |x::r,h=>by
  have h1:=h x (AJ ..);have h2:=sQ r λy a=>h y (AF _ a);have h3:1<=AM x.toNat:=(B5 (by omega)).2 (by omega)
  grind [AM,wtL]
theorem aCh:∀(l l':O Y),l.Nodup->(∀x∈l,x∈l')->l'.length<=l.length->l.Perm l'
 |[],l',_,_,h=>by
  have:l'=[]:=CO.1 (by simpa using h);rw[this]
 |x::t,l',f,d,h=>by
  have b:x∈l':=d x (AJ ..);have a:=BQ.1 f;have hl:=List.length_erase_of_mem b;have g:t.Perm (l'.erase x):=aCh t (l'.erase x) a.2 (λy c=>(List.mem_erase_of_ne (λe:y=x=>a.1 (e ▸ c))).2 (d y (AF _ c))) (by
   have:=D5 b;rw[BH]at h;omega)
  exact(g.cons x).trans (List.perm_cons_erase b).symm
theorem aAr{f:Y->Y}:∀(l:O Y),l.Nodup->(∀x∈l,∀y∈l,f x=f y->x=y)->(l.map f).Nodup
 |[],_,_=>List.nodup_nil
 |x::t,d,e=>by
  have c:=BQ.1 d;rw[A9,BQ];refine⟨λhm=>?_,aAr t c.2 λa h b g=>e a (AF _ h) b (AF _ g)⟩
  grind
theorem aFK{f:Y->Y}{l:O Y}(c:l.Nodup)(d:∀x∈l,f x∈l)(g:∀x∈l,∀y∈l,f x=f y->x=y):(l.map f).Perm l :=
 aCh _ _ (aAr l c g) (λy a=>by obtain⟨x,b,e⟩:=BN.1 a;exact e ▸ d x b) (by simp)
def bM:O Z->Z
 |[]=>1
 |x::r=>x*bM r
theorem yI{l l':O Z}(h:l.Perm l'):bM l=bM l':=by
 induction h with
 |nil=>rfl
 |cons x _ ih=>simp only[bM,ih]
 |swap x y l=>simp only[bM];rw[<-B4,<-B4,BK y x]
 |trans _ _ h1 h2=>exact h1.trans h2
theorem jJ(f g:Y->Z):∀l:O Y,bM (l.map λk=>f k*g k)=bM (l.map f)*bM (l.map g)
 |[]=>rfl
 |x::r=>by
  simp_all [A9,bM,jJ,B4,Int.mul_left_comm]
theorem aEF(f:Y->Z):∀l:O Y,(∀k∈l,f k=1\/f k= -1)->bM (l.map f)=1\/bM (l.map f)= -1
 |[],_=>.inl rfl
 |x::r,h=>by
  simp only[A9,bM];exact wL (h x (AJ ..)) (aEF f r λk a=>h k (AF _ a))
theorem m4{f g:Y->Z}{l:O Y}(h:∀k∈l,f k=g k):l.map f=l.map g:=List.map_congr_left h
def gQ(n:Y):O Y:=BU 1 (n/2)
theorem i7{n k:Y}:k∈gQ n↔1<=k/\k<=n/2:=by
 unfold gQ
 grind
theorem aME(n:Y):(gQ n).Nodup:=List.nodup_range'
def gs(n:Y)(x:Z):Z:=if x%n<=n/2 then 1 else-1
def gp(n:Y)(x:Z):Y:=if x%n<=n/2 then (x%n).toNat else (n-x%n).toNat
theorem aKj(n:Y)(x:Z):gs n x=1\/gs n x= -1:=by
 grind [gs]
theorem aTG(n:Y)(x:Z):gs n (x%n)=gs n x:=by
 grind [gs,C4,EB]
theorem yB{n:Y}(hn:n%2=1){x:Z}(a:¬(n:Z) ∣ x):(n:Z) ∣ x-gs n x*gp n x/\1<=gp n x/\gp n x<=n/2:=by
 have h0:=BS x (show(n:Z)≠0 by omega);have h1:=BV x (show(0:Z)<n by omega);have h2:x%n≠0:=λe=>a (A8 e);have hd:=FP x n;unfold gs gp;split
 .refine⟨⟨x/n,?_⟩,by omega,by omega⟩;omega
 .refine⟨⟨x/n+1,?_⟩,by omega,by omega⟩
  grind
theorem bC2{n:Y}(hn:n%2=1){x s:Z}{p:Y}(a:s=1\/s= -1)(h1:1<=p)(h2:p<=n/2)(b:(n:Z) ∣ x-s*p):gs n x=s/\gp n x=p:=by
 obtain⟨c,hc⟩:=b;rcases a with rfl|rfl
 .have e:x%n=p:=by
   rw[show x=p+n*c by omega,D1,A3 (by omega) (by omega)]
  grind [gs,gp]
 .have e:x%n=n-p:=by
   rw[show x=(n-p)+n*(c-1) by rw[CK];omega,D1,A3 (by omega) (by omega)]
  grind [gs,gp]
theorem lH{n:Y}{a:Z}(b:gcd a n=1){k:Z}(h:(n:Z) ∣ a*k):(n:Z) ∣ k:=by
 have d:n ∣ a.natAbs*k.natAbs:=by
  have:=BZ.2 h
  grind [FA,A5]
 have c:DO n a.natAbs:=by
  rw[DK];exact b
 have h3:=BP c d
 grind [BZ,A5]
theorem i9{n:Y}{k:Y}(h1:1<=k)(h2:k<n):¬(n:Z) ∣ (k:Z):=λh=>by
 have:=AL (by omega) (CS.1 h);omega
theorem lY{n:Y}{a:Z}(hg:gcd a n=1){k:Y}(hk:k∈gQ n):¬(n:Z) ∣ a*k:=λh=>by
 grind [i7,i9,lH]
theorem aHF{n:Y}(i:n%2=1){a:Z}(b:gcd a n=1):((gQ n).map λk:Y=>gp n (a*k)).Perm (gQ n):=by
 refine aFK (aME n) (λk hk=>?_) λx g y f e=>?_
 .simp_all [yB,lY,i7]
 .obtain⟨⟨c,j⟩,_,_⟩:=yB i (lY b g);obtain⟨⟨d,l⟩,_,_⟩:=yB i (lY b f);rw[e]at j;obtain⟨x1,x2⟩:=i7.1 g;obtain⟨y1,y2⟩:=i7.1 f;generalize gp n (a*y)=p at *;have key:(n:Z) ∣ (x:Z)-y\/(n:Z) ∣ (x:Z)+y:=by
   rcases aKj n (a*x)with h|h<;>rcases aKj n (a*y)with k|k<;>rw[h]at j<;>rw[k]at l
   .exact .inl (lH b ⟨c-d,by rw[CK,CK];omega⟩)
   .exact .inr (lH b ⟨c+d,by rw[B8,B8];omega⟩)
   .exact .inr (lH b ⟨c+d,by rw[B8,B8];omega⟩)
   .exact .inl (lH b ⟨c-d,by rw[CK,CK];omega⟩)
  rcases key with ⟨z,hz⟩|h
  .have hz0:z=0:=by
    rcases EV z 0 with q|q|q
    .have:(n:Z)*z<=n*(-1):=Z7 (by omega) (by omega);omega
    .exact q
    .have:(n:Z)*1<=n*z:=Z7 (by omega) (by omega);omega
   grind
  .exact N (show(n:Z) ∣ ((x+y:Y):Z) by rwa [CB]) (i9 (by omega) (by omega))
def gsy(n:Y)(a:Z):Z:=bM ((gQ n).map λk:Y=>gs n (a*k))
theorem aMw(n:Y)(a:Z):gsy n a=1\/gsy n a= -1:=aEF _ _ λ_ _=>aKj _ _
theorem aYj(n:Y)(a:Z):gsy n (a%n)=gsy n a:=by
 unfold gsy;rw[m4 (λk _=>?_)];rw[<-aTG,<-aTG n (a*k)]
 grind [D8,C4,EB]
theorem aYk{n:Y}(e:n%2=1){a b:Z}(l:gcd a n=1)(f:gcd b n=1):gsy n (a*b)=gsy n a*gsy n b:=by
 have m:gsy n (a*b)=bM ((gQ n).map λk:Y=>gs n (a*(gp n (b*k):Y))*gs n (b*k)):=by
  unfold gsy;rw[m4 (λk j=>?_)];obtain⟨⟨c,hc⟩,i,h⟩:=yB e (lY f j);obtain⟨⟨d,hd⟩,q1,g⟩:=yB e (lY l (i7.2 ⟨i,h⟩));refine(bC2 e (wL (aKj _ _) (aKj _ _)) q1 g ⟨a*c+gs n (b*k)*d,?_⟩).1
  grind
 rw[m,jJ]
 congr 1
 unfold gsy;have:=yI ((aHF e f).map λk:Y=>gs n (a*k));rw[D4]at this;exact this
def pm(c:Y):Z:=if c%2=0 then 1 else-1
theorem aER(a b:Y):pm (a+b)=pm a*pm b:=by
 unfold pm;rw[FW];rcases AX a with h|h<;>rcases AX b with k|k<;>rw[h,k]<;>decide
theorem aO3(a:Y):pm (a+1)= -pm a:=by
 rw[aER,show pm 1= -1 from rfl,DS,BW]
theorem bHx(a:Y):pm a=1\/pm a= -1:=by
 unfold pm;split
 .exact .inl rfl
 .exact .inr rfl
theorem aUU{a b:Y}(h:a%2=b%2):pm a=pm b:=by unfold pm;rw[h]
theorem aAp:∀l r:O Z,bM (l++r)=bM l*bM r
 |[],r=>by rw[DP,bM,C3]
 |x::l,r=>by rw[List.cons_append,bM,bM,aAp l r,B4]
theorem aMC(f:Y->Z)(m:Y):bM ((BU 1 (m+1)).map f)=bM ((BU 1 m).map f)*f (m+1):=by
 rw[List.range'_concat,List.map_append,aAp];simp only[A9,FE,bM,BW,CZ];rw[FM 1 m]
theorem uS(n x:Y)(b:0<n):∀m:Y,bM ((BU 1 m).map λj=>if n*j<=x then (-1:Z)else 1)=pm (min m (x/n))
 |0=>by rw[Nat.zero_min];rfl
 |m+1=>by
  rw[aMC,uS n x b m];have h:n*(m+1)<=x↔m+1<=x/n:=by rw[Nat.le_div_iff_mul_le b,AY]
  by_cases a:m+1<=x/n
  .rw[U (h.2 a),DW a,DW (by omega),aO3,DS,BW]
  .rw[V (λe=>a (h.1 e)),CR (by omega),CR (by omega),BW]
theorem aEG(f:Y->Y->Z)(l':O Y):∀l:O Y,bM (l.map λk=>bM (l'.map λj=>f k j))=bM (l'.map λj=>bM (l.map λk=>f k j))
 |[]=>by
  simp only[FE,bM]
  induction l' with
  |nil=>rfl
  |cons x r ih=>rw[A9,bM,<-ih];rfl
 |x::r=>by
  rw[A9,bM,aEG f l' r,<-jJ];rfl
theorem qA(c:Y):∀l:O Y,bM (l.map λ_=>pm c)=pm (l.length*c)
 |[]=>by simp[bM,pm]
 |x::r=>by
  rw[A9,bM,qA c r,BH,DC,aER,BK]
theorem aEu(n:Y):(gQ n).length=n/2:=EM
theorem aYl{n:Y}(hn:n%2=1):gsy n 2=jL n:=by
 have c:gsy n 2=bM ((BU 1 (n/2)).map λj=>(if 2*j<=n/2 then (-1:Z)else 1)*pm 1):=by
  unfold gsy gQ;rw[m4 (λk a=>?_)];obtain⟨k1,k2⟩:=i7.1 a;unfold gs;rw[A3 (by omega) (by omega)];by_cases h:2*k<=n/2
  .rw[U (by omega),U h];rfl
  .rw[V (by omega),V h];rfl
 rw[c,jJ,uS 2 (n/2) (by omega),qA,EM,CR (by omega),<-aER,C0];unfold pm jL;have b:n%8=1\/n%8=3\/n%8=5\/n%8=7:=by omega
 rcases b with h|h|h|h
 .rw[U (by omega),U (by omega)]
 .rw[V (by omega),V (by omega),U (by omega)]
 .rw[V (by omega),V (by omega),U (by omega)]
 .rw[U (by omega),U (by omega)]
theorem aGk{n m:Y}(b:n%2=1)(e:m%2=1)(h:B2 m n=1):gsy n m=bM ((gQ n).map λk=>pm (m*k/n)):=by
 have a:gcd m n=1:=h;have j:bM ((gQ n).map λk=>pm (m*k/n))=bM ((gQ n).map λk:Y=>gs n (m*k)*(pm k*pm (gp n (m*k)))):=by
  rw[m4 (λk g=>?_)];have i:=yB b (lY a g);obtain⟨_,p1,p2⟩:=i;have q:(m:Z)*k%n=((m*k%n:Y):Z):=by rw[<-AQ];rfl
  have hdm:=DY (m*k) n;have hlt:=AU (m*k) (show n>0 by omega);have par:(m*k)%2=k%2:=by rw[CH,e,CZ,EI]
  have par2:(n*(m*k/n))%2=(m*k/n)%2:=by rw[CH,b,CZ,EI]
  unfold gs gp;rw[q];generalize m*k%n=r at *;generalize m*k/n=f at *;generalize n*f=u at *;split
  .rw[C3,<-aER];apply aUU
   omega
  .rw[<-aER,Int.neg_mul,C3,<-aO3];apply aUU
   omega
 rw[j,jJ,jJ];have d:=yI ((aHF b a).map λk=>pm k);rw[D4]at d;have c:bM ((gQ n).map λk:Y=>pm (gp n (m*k)))=bM ((gQ n).map λk=>pm k):=d;rw[c,aVH (aEF _ _ λk _=>bHx k),BW];rfl
theorem aEq{n m k:Y}(hm:m%2=1)(a:0<n)(hk:k<=n/2):pm (m*k/n)=bM ((gQ m).map λj=>if n*j<=m*k then (-1:Z)else 1):=by
 unfold gQ;rw[uS n (m*k) a]
 congr 1
 rw[CR];have b:m*k<n*(m/2+1):=by
  have h2:m*(2*k)<=m*n:=A0 _ (by omega);have h3:n*(2*(m/2+1))=n*(m+1):=by congr 1;omega
  have h4:m*(2*k)=2*(m*k):=BY _ _ _;have h5:n*(2*(m/2+1))=2*(n*(m/2+1)):=BY _ _ _;have h6:n*(m+1)=m*n+n:=by rw[FU,C0,AY]
  omega
 have:=(Nat.div_lt_iff_lt_mul a (x:=m*k) (y:=m/2+1)).2 (by rw[AY (m/2+1)];exact b);omega
theorem aQI{n m:Y}(b:n%2=1)(c:m%2=1)(d:B2 m n=1):gsy n m*gsy m n=rsg m n:=by
 have o:gsy n m=bM ((gQ n).map λk=>bM ((gQ m).map λj=>if n*j<=m*k then (-1:Z)else 1)):=by
  rw[aGk b c d];exact r bM (m4 λk a=>aEq c (by omega) (i7.1 a).2)
 have l:gsy m n=bM ((gQ n).map λk=>bM ((gQ m).map λj=>if m*k<=n*j then (-1:Z)else 1)):=by
  rw[aGk c b (by rw[DE];exact d),aEG];exact r bM (m4 λk a=>aEq b (by omega) (i7.1 a).2)
 have i:gsy n m*gsy m n=bM ((gQ n).map λ_=>pm (m/2)):=by
  rw[o,l,<-jJ];refine r bM (m4 λk a=>?_);rw[<-jJ];have:bM ((gQ m).map λ_=>pm 1)=pm (m/2):=by rw[qA,aEu,C0]
  rw[<-this];refine r bM (m4 λj hj=>?_);obtain⟨k1,k2⟩:=i7.1 a;have hne:m*k≠n*j:=λe=>by
   have g:n ∣ m*k:=⟨j,e⟩;have f:=BP (show DO n m by rw[DK];exact d) g;have:=AL (by omega) f;omega
  by_cases h:n*j<=m*k
  .rw[U h,V (by omega)];rfl
  .rw[V h,U (by omega)];rfl
 rw[i,qA,aEu];unfold pm rsg;by_cases h:m%4=3/\n%4=3
 .rw[U h,V];rw[CH,show n/2%2=1 by omega,show m/2%2=1 by omega];decide
 .rw[V h,U];rcases AX (n/2)with q|q
  .rw[CH,q,FI]
  .have:m/2%2=0:=by omega
   rw[CH,this,DD]
def tV(n:Y)(a:Z):Z:=if gcd a n=1 then gsy n a else 0
theorem aCR(n:Y)(a:Z):tV n (a%n)=tV n a:=by
 unfold tV;rw[aYj,aAb]
theorem nZ{a b:Z}{n:Y}:gcd (a*b) n=1↔gcd a n=1/\gcd b n=1:=by
 show B2 (a*b).natAbs n=1↔B2 a.natAbs n=1/\B2 b.natAbs n=1;rw[FA];constructor
 .intro h;exact⟨C5 ⟨_,rfl⟩ h,C5 ⟨_,AY _ _⟩ h⟩
 .rintro⟨h,k⟩
  exact Nat.Coprime.mul_left h k
theorem aYh(n:Y):B2 n 2=1↔n%2=1:=by
 rw[DE,EJ];rcases AX n with h|h<;>rw[h]<;>decide
theorem bAh{n:Y}(h:n%2=1):gcd 2 n=1:=by
 show B2 2 n=1;rw[DE];exact(aYh n).2 h
theorem dR{n:Y}{a:Z}:tV n a=0↔¬gcd a n=1:=by
 unfold tV;by_cases h:gcd a n=1
 .rw[U h];have:=aMw n a;constructor
  .intro e;omega
  .intro e;exact N h e
 .rw[V h];exact⟨λ_=>h,λ_=>rfl⟩
theorem aHy{n:Y}(e:n%2=1)(a b:Z):tV n (a*b)=tV n a*tV n b:=by
 by_cases d:gcd a n=1
 .by_cases c:gcd b n=1
  .unfold tV;rw[U d,U c,U (nZ.2 ⟨d,c⟩),aYk e d c]
  .rw[dR.2 c,DG,dR];exact λh=>c (nZ.1 h).2
 .rw[dR.2 d,FO,dR];exact λh=>d (nZ.1 h).1
theorem aXL{n:Y}(a:n%2=1):tV n 2=jL n:=by
 unfold tV;rw[U (bAh a),aYl a]
theorem aQj{n m:Y}(c:n%2=1)(d:m%2=1):tV n m=rsg m n*tV m n:=by
 by_cases h:B2 m n=1
 .have b:gcd (m:Z) n=1:=h;have a:gcd (n:Z) m=1:=by rw[D9];exact h
  unfold tV;rw[U b,U a,<-aQI c d h,B4,aVH (aMw m n),BW]
 .have b:¬gcd (m:Z) n=1:=h;have a:¬gcd (n:Z) m=1:=by rw[D9];exact h
  rw[dR.2 b,dR.2 a,DG]
theorem aJU(n:Y):tV n 0=if n=1 then 1 else 0:=by
 by_cases h:n=1
 .subst h;decide
 .rw[V h,dR];show ¬B2 0 n=1;rw[ES];exact h
theorem aYs:∀(a n:Y),n%2=1->jac a n=tV n a:=by
 intro a
 induction a using Nat.strongRecOn with
 |ind a ih =>
  intro n b;by_cases d:a=0
  .subst d;rw[aEz];exact(aJU n).symm
  by_cases e:a%2=0
  .rw[aEy d e,ih (a/2) (by omega) n b,<-aXL b,<-aHy b]
   congr 1;omega
  .have c:a%2=1:=by omega
   rw[aHJ c,ih (n%a) (AU _ (by omega)) a c,aQj b c]
   congr 1
   rw[<-aCR a n];rfl
theorem aJV{n:Y}{a b:Z}(h:a%n=b%n):tV n a=tV n b:=by rw[<-aCR,h,aCR]
theorem aTO{a:Z}{n:Y}(b:n%2=1):kr a n=tV n a:=by
 have h0:=BS a (show(n:Z)≠0 by omega);rw[aMy b,aYs _ _ b,<-aCR n a]
 congr 1;omega
theorem bGX{n:Y}(d:n≠0)(a:Z):kr a n=0\/kr a n=1\/kr a n= -1:=by
 induction n using Nat.strongRecOn with
 |ind n b =>
  by_cases c:n%2=0
  .rw[aC0 d c];by_cases h:a%2=1
   .rcases pP h with q|q<;>rcases b (n/2) (by omega) (by omega)with r|r|r<;>rw[q,r]<;>decide
   .rw[wY h,FO];exact .inl rfl
  .rw[aTO (by omega)];unfold tV;split
   .exact .inr (aMw n a)
   .exact .inl rfl
theorem aHK(a n:Z):gH a n=0\/gH a n=1\/gH a n= -1:=by
 unfold gH;split
 .split
  .exact .inr (.inl rfl)
  .exact .inl rfl
 .rcases bGX (n:=n.natAbs) (by omega) a with h|h|h<;>rw[h]<;>split<;>decide
theorem gV{p:Y}(h:eC p=GE):1<p/\∀d,d ∣ p->d=1\/d=p:=by
 obtain⟨g,c⟩:=aEV.1 h;refine⟨g,λd f=>?_⟩;obtain⟨e,a⟩:=f;by_cases j:d=1
 .exact .inl j
 by_cases i:e=1
 .right;rw[a,i,C0]
 exfalso;have d0:d≠0:=λq=>by rw[q,FI]at a;omega
 have e0:e≠0:=λq=>by rw[q,DD]at a;omega
 rcases Nat.le_total d e with q|q
 .have b:d*d<=p:=by rw[a];exact A0 _ q
  exact c d (by omega) b (by rw[a];exact ER d e)
 .have b:e*e<=p:=by rw[a];exact C1 _ q
  exact c e (by omega) b (by rw[a];exact Nat.mul_mod_left d e)
theorem f8{p:Y}(h:eC p=GE){a:Z}(c:¬(p:Z) ∣ a):gcd a p=1:=by
 have b:gcd a p ∣ p:=Nat.gcd_dvd_right a.natAbs p;rcases(gV h).2 _ b with e|e
 .exact e
 .have d:gcd a p ∣ a.natAbs:=Nat.gcd_dvd_left a.natAbs p;rw[e]at d;exact N (BZ.1 (by rwa [A5])) c
theorem aEW{p:Y}(h:eC p=GE){a:Z}(c:(p:Z) ∣ a):¬gcd a p=1:=λe=>by
 have h1:=(gV h).1;have b:p ∣ gcd a p:=Nat.dvd_gcd (by have:=BZ.2 c;rwa [A5]at this) (FL p);rw[e]at b;have:=AL (by omega) b;omega
theorem aCb(a:Z)(f:Y->Z):∀l:O Y,bM (l.map λk=>a*f k)=a^l.length*bM (l.map f)
 |[]=>by simp[bM]
 |x::r=>by
  simp only[A9,bM,aCb a f r,BH,BG]
  grind
theorem aGw{n:Z}(f g:Y->Z):∀l:O Y,(∀k∈l,n ∣ f k-g k)->n ∣ bM (l.map f)-bM (l.map g)
 |[],_=>⟨0,by simp[bM]⟩
 |x::r,h=>by
  obtain⟨c,hc⟩:=h x (AJ ..);obtain⟨d,hd⟩:=aGw f g r λk a=>h k (AF _ a);refine⟨c*bM (r.map f)+g x*d,?_⟩;simp only[A9,bM];have e:f x=g x+n*c:=by omega
  have b:bM (r.map f)=bM (r.map g)+n*d:=by omega
  rw[e,b]
  grind
theorem aGv{n:Y}(f:Y->Z):∀l:O Y,(∀k∈l,gcd (f k) n=1)->gcd (bM (l.map f)) n=1
 |[],_=>by
  show B2 1 n=1;exact Nat.gcd_one_left n
 |x::r,h=>by
  rw[A9,bM];exact nZ.2 ⟨h x (AJ ..),aGv f r λk a=>h k (AF _ a)⟩
theorem bGT{p:Y}(f:eC p=GE)(i:p%2=1){a:Z}(l:¬(p:Z) ∣ a):(p:Z) ∣ a^(p/2)-gsy p a:=by
 have j:=f8 f l;have h:=aGw (n:=(p:Z)) (λk:Y=>a*(k:Z)) (λk:Y=>gs p (a*k)*(gp p (a*k):Y)) (gQ p) λk e=>(yB i (lY j e)).1;rw[aCb,jJ,aEu]at h;have b:=yI ((aHF i j).map λk:Y=>(k:Z));rw[D4]at b;have d:bM ((gQ p).map λk:Y=>((gp p (a*k):Y):Z))=bM ((gQ p).map λk:Y=>(k:Z)):=b;rw[d]at h;have g:=aGv (n:=p) (λk:Y=>(k:Z)) (gQ p) λk e=>f8 f (i9 (i7.1 e).1 (by have:=(i7.1 e).2;have:=(gV f).1;omega));refine lH g ?_;obtain⟨c,g⟩:=h;refine⟨c,?_⟩;rw[<-g];show _*_=_-gsy p a*_
 grind
theorem aTp{p:Y}(b:eC p=GE)(e:p%2=1)(a:Z):a^(p/2)%p=tV p a%p:=by
 by_cases d:(p:Z) ∣ a
 .rw[dR.2 (aEW b d),Int.zero_emod];have h1:=(gV b).1;obtain⟨c,f⟩:∃c,p/2=c+1:=⟨p/2-1,by omega⟩;rw[f,BG];exact AW (Int.dvd_trans d ⟨a^c,BK _ _⟩)
 .unfold tV;rw[U (f8 b d)];exact AK.2 (AW (bGT b e d))
theorem aAh(a:Z){p:Y}(b:p%2=1):gH a p=tV p a:=by
 unfold gH;rw[V (by omega),V (by omega),C3,A5,aTO b]
def fD(w:Z)(a b:Z×Z):Z×Z:=(a.1*b.1+w*(a.2*b.2),a.1*b.2+a.2*b.1)
def zp(t w:Z):Y->Z×Z
 |0=>(1,0)
 |e+1=>fD w (zp t w e) (t,1)
theorem sH(w:Z)(a b c:Z×Z):fD w (fD w a b) c=fD w a (fD w b c):=by
 grind [fD,Prod.ext]
theorem aXb(t w:Z):zp t w 1=(t,1):=by
 show fD w (1,0) (t,1)=_
 grind [fD,Prod.ext]
def ch:Y->Y->Y
 |_,0=>1
 |0,_+1=>0
 |n+1,k+1=>ch n k+ch n (k+1)
theorem vU:∀n k:Y,(k+1)*ch (n+1) (k+1)=(n+1)*ch n k
 |0,0=>rfl
 |0,k+1=>by simp[ch]
 |n+1,0=>by
  have h:=vU n 0;simp only[ch]at h⊢;omega
 |n+1,k+1=>by
  have h1:=vU n k;have h2:=vU n (k+1)
  grind [ch]
theorem aHx:∀n k:Y,n<k->ch n k=0
 |0,k+1,_=>rfl
 |n+1,k+1,h=>by
  show ch n k+ch n (k+1)=0;rw[aHx n k (by omega),aHx n (k+1) (by omega)]
theorem aOb:∀n:Y,ch n n=1
 |0=>rfl
 |n+1=>by
  simp_all [ch,aOb,aHx]
theorem aS5{p:Y}(a:eC p=GE){k:Y}(e:0<k)(d:k<p):p ∣ ch p k:=by
 obtain⟨j,rfl⟩:∃j,k=j+1:=⟨k-1,by omega⟩;obtain⟨n,rfl⟩:∃n,p=n+1:=⟨p-1,by omega⟩;have c:=vU n j;have b:gcd ((j+1:Y):Z) (n+1:Y)=1:=f8 a (i9 e d);exact BP (DK.1 b) ⟨ch n j,c⟩
def fV(g:Y->Z):Y->Z
 |0=>0
 |n+1=>fV g n+g n
theorem qI(g:Y->Z):∀n,fV g (n+1)=g 0+fV (λi=>g (i+1)) n
 |0=>by simp[fV]
 |n+1=>by
  show fV g (n+1)+g (n+1)=g 0+(fV (λi=>g (i+1)) n+g (n+1));rw[qI g n,Int.add_assoc]
theorem aG2(f g:Y->Z):∀n,fV (λi=>f i+g i) n=fV f n+fV g n
 |0=>rfl
 |n+1=>by simp only[fV,aG2 f g n];omega
theorem aG4(c:Z)(f:Y->Z):∀n,fV (λi=>c*f i) n=c*fV f n
 |0=>by simp[fV]
 |n+1=>by simp only[fV,aG4 c f n,B8]
theorem yT{f g:Y->Z}:∀n,(∀i,i<n->f i=g i)->fV f n=fV g n
 |0,_=>rfl
 |n+1,h=>by
  simp only[fV];rw[yT n λi hi=>h i (by omega),h n (by omega)]
theorem aG3{p:Z}{f:Y->Z}:∀n,(∀i,i<n->p ∣ f i)->p ∣ fV f n
 |0,_=>⟨0,by simp[fV]⟩
 |n+1,h=>AC (aG3 n λi hi=>h i (by omega)) (h n (by omega))
def bin(t:Z):Y->(Y->Z)->Z
 |0,f=>f 0
 |n+1,f=>t*bin t n f+bin t n (λi=>f (i+1))
theorem aCH(t:Z):∀(n:Y) (f:Y->Z),bin t n f=fV (λi=>ch n i*t^(n-i)*f i) (n+1)
 |0,f=>by simp[bin,fV,ch]
 |n+1,f=>by
  show t*bin t n f+bin t n (λi=>f (i+1))=_;rw[aCH t n f,aCH t n λi=>f (i+1),qI _ (n+1),qI _ n];have e1:fV (λi=>((ch (n+1) (i+1):Y):Z)*t^(n+1-(i+1))*f (i+1)) (n+1) =
    fV (λi=>(ch n i:Z)*t^(n-i)*f (i+1)) (n+1)+fV (λi=>(ch n (i+1):Z)*t^(n-i)*f (i+1)) (n+1):=by
   rw[<-aG2];refine yT _ λi _=>?_;have e:ch (n+1) (i+1)=ch n i+ch n (i+1):=rfl;rw[e,CB,show n+1-(i+1)=n-i by omega]
   grind
  have e2:fV (λi=>(ch n (i+1):Z)*t^(n-i)*f (i+1)) (n+1)=t*fV (λi=>(ch n (i+1):Z)*t^(n-(i+1))*f (i+1)) n:=by
   rw[<-aG4];simp only[fV];rw[aHx n (n+1) (by omega)];have a:fV (λi=>(ch n (i+1):Z)*t^(n-i)*f (i+1)) n=fV (λi=>t*((ch n (i+1):Z)*t^(n-(i+1))*f (i+1))) n:=by
    refine yT n λi hi=>?_;rw[show n-i=(n-(i+1))+1 by omega,BG]
    grind
   rw[a];simp
  grind [ch,BG]
def rt(w:Z)(i:Y):Z×Z:=if i%2=0 then (w^(i/2),0)else (0,w^(i/2))
theorem aZ5(w:Z)(i:Y):rt w (i+1)=(w*(rt w i).2,(rt w i).1):=by
 unfold rt;rcases AX i with h|h
 .grind
 .rw[U (by omega),V (by omega),show(i+1)/2=i/2+1 by omega,BG]
  grind
theorem aLV(t w:Z):∀n j:Y,bin t n (λi=>(rt w (i+j)).1)=(fD w (zp t w n) (rt w j)).1/\bin t n (λi=>(rt w (i+j)).2)=(fD w (zp t w n) (rt w j)).2
 |0,j=>by
  show(rt w (0+j)).1=_/\(rt w (0+j)).2=_
  grind [fD,zp]
 |n+1,j=>by
  obtain⟨h1,h2⟩:=aLV t w n j;obtain⟨h3,h4⟩:=aLV t w n (j+1)
  grind [bin,rt,aZ5,fD,zp]
theorem aLC{p:Y}(h:0<p)(f:Y->Z)(hf:∀i,0<i->i<p->(p:Z) ∣ f i):(p:Z) ∣ fV f (p+1)-(f 0+f p):=by
 obtain⟨m,rfl⟩:∃m,p=m+1:=⟨p-1,by omega⟩
 grind [fV,qI,aG3]
theorem aXK(n:Y):ch n 0=1:=by cases n<;>rfl
theorem bBx{p:Y}(h:eC p=GE)(ho:p%2=1)(t w:Z):(p:Z) ∣ (zp t w p).1-t^p/\(p:Z) ∣ (zp t w p).2-w^(p/2):=by
 obtain⟨e,d⟩:=aLV t w p 0;have g:rt w 0=(1,0):=by unfold rt;rw[U rfl,show 0/2=0 from rfl,DF]
 have ep:rt w p=(0,w^(p/2)):=by unfold rt;rw[V (by omega)]
 have l:(fD w (zp t w p) (rt w 0)).1=(zp t w p).1:=by rw[g];unfold fD;dsimp only;simp
 have k:(fD w (zp t w p) (rt w 0)).2=(zp t w p).2:=by rw[g];unfold fD;dsimp only;simp
 have c:∀(f:Y->Z) i,0<i->i<p->(p:Z) ∣ ch p i*t^(p-i)*f i:=λf i j b =>
  A2 (A2 (CS.2 (aS5 h j b)))
 have a:0<p:=by omega
 rw[aCH,l]at e;rw[aCH,k]at d;rw[<-e,<-d];refine⟨?_,?_⟩
 .have:=aLC a (λi=>ch p i*t^(p-i)*(rt w (i+0)).1) (c _)
  grind [aXK,E9]
 .have:=aLC a (λi=>ch p i*t^(p-i)*(rt w (i+0)).2) (c _)
  grind [aOb,E9]
theorem aTz{p:Y}(a:eC p=GE)(b:p%2=1)(t:Z):(p:Z) ∣ t^p-t:=by
 have e:t^p=t^(p/2)*t^(p/2)*t:=by
  rw[<-Int.pow_add,<-BG]
  congr 1
  omega
 obtain⟨c,hc⟩:=A8 (AK.1 (aTp a b t));have g:t^(p/2)=tV p t+p*c:=by omega
 rw[e,g];by_cases f:(p:Z) ∣ t
 .obtain⟨d,rfl⟩:=f;exact⟨(tV p (↑p*d)+p*c)*(tV p (↑p*d)+p*c)*d-d,by grind⟩
 .have h:tV p t≠0:=λq=>dR.1 q (f8 a f);have h2:=aHK t p;rw[aAh t b]at h2;rcases h2 with h2|h2|h2
  .exact N h2 h
  .rw[h2];exact⟨t*(2*c+p*c*c),by grind⟩
  .rw[h2];exact⟨t*(-2*c+p*c*c),by grind⟩
theorem jA{p:Y}(h:Pri p):eC p=GE:=aEV.2 ⟨h.lt,λd b hdd a=>by
 rcases h.dv d (AI a)with e|e
 .omega
 .subst e;have:=A0 d b;omega⟩
theorem aMN{p:Y}(h:eC p=GE):Pri p:=⟨(gV h).1,(gV h).2⟩
def evC(c:Z):O Z->Z->Z
 |[],_=>c
 |a::l,x=>a+x*evC c l x
theorem aOr(k:Z):∀(l:O Z) (c r:Z),∃q:O Z,q.length=l.length/\∀x,evC k (c::l) x-evC k (c::l) r=(x-r)*evC k q x
 |[],c,r=>⟨[],rfl,λx=>by simp only[evC];grind⟩
 |d::l,c,r=>by
  obtain⟨q,a,h⟩:=aOr k l d r;refine⟨evC k (d::l) r::q,by simp[a],λx=>?_⟩
  grind [evC]
theorem aBn{p:Y}(s:eC p=GE){k:Z}(u:¬(p:Z) ∣ k):∀(n:Y) (l rs:O Z),l.length=n->rs.Pairwise (λa b=>¬(p:Z) ∣ a-b)->(∀r∈rs,(p:Z) ∣ evC k l r)->rs.length<=n:=by
 intro n
 induction n with
 |zero =>
  intro l rs d _ g;have:l=[]:=CO.1 d;subst this;cases rs with
  |nil=>exact Z0 _
  |cons r t=>exact N (g r (AJ ..)) u
 |succ n m =>
  intro l rs d v g
  match l,d with
  |c::l,d =>
   cases rs with
   |nil=>exact Z9 _
   |cons r t =>
    obtain⟨q,o,h⟩:=aOr k l c r;have f:=C7.1 v;have:=m q t (by rw[o];simpa using d) f.2 λx i=>by
     have j:=B9 (g x (AF _ i)) (g r (AJ ..));rw[h x]at j;refine lH (f8 s λe=>f.1 x i ?_) j;obtain⟨z,hz⟩:=e;exact⟨-z,by rw[DS];omega⟩
    simp_all
theorem aOu:∀(j:Y) (x:Z),evC 1 (l j 0) x=x^j
 |0,x=>by rw[DF];rfl
 |j+1,x=>by
  simp_all [evC,l,aOu,BG,Int.zero_add,BK]
theorem aCm{p a n:Y}(h:n<=p):((BU a n).map λj:Y=>(j:Z)).Pairwise (λx y=>¬(p:Z) ∣ x-y):=by
 rw[DA];refine B6 (R:=λx y=>x<y) (λ{x y} c b hxy d=>?_) List.pairwise_lt_range';rw[EP]at c b;obtain⟨z,hz⟩:=d;have e:(y:Z)-x=p*(-z):=by rw[DS];omega
 have h2:=C8 (show 0<(y:Z)-x by omega) ⟨-z,e⟩;omega
theorem aF1{p k:Y}(d:eC p=GE)(k1:1<=k)(k2:k<p-1):∃b:Y,2<=b/\b<=p-1/\¬(p:Z) ∣ (b:Z)^k-1:=by
 refine BA λhn=>?_;have a:∀b:Y,1<=b->b<=p-1->(p:Z) ∣ (b:Z)^k-1:=λb b1 b2=>by
  by_cases c:b=1
  .simp_all [Int.one_pow]
  grind
 have h1:=(gV d).1;have:=aBn d (k:=1) (λf=>by have:=C8 (by decide) f;omega) k (-1::l (k-1) 0) ((BU 1 (p-1)).map λj:Y=>(j:Z)) (by simp;omega) (aCm (by omega)) (λr e=>by
  obtain⟨b,c,rfl⟩:=BN.1 e;rw[EP]at c;have:=a b c.1 (by omega);show(p:Z) ∣ -1+(b:Z)*evC 1 (l (k-1) 0) b;rw[aOu,<-Int.pow_succ',show k-1+1=k by omega]
  grind)
 simp at this;omega
theorem aOy{p:Y}(a:eC p=GE)(c:p%2=1){t:Z}(b:¬(p:Z) ∣ t):(p:Z) ∣ t^(p-1)-1:=by
 have h1:=(gV a).1;have h:=aTz a c t;have e:t^p-t=t*(t^(p-1)-1):=by
  have:t^p=t^(p-1)*t:=by rw[<-BG];congr 1;omega
  rw[this];grind
 rw[e]at h;exact lH (f8 a b) h
theorem aBv(w:Z)(a b:Z×Z):fD w a b=fD w b a:=by
 grind [fD,Prod.ext]
def qY(w:Z)(x:Z×Z):Y->Z×Z
 |0=>(1,0)
 |e+1=>fD w (qY w x e) x
theorem aNj(t w:Z):∀e,qY w (t,1) e=zp t w e
 |0=>rfl
 |e+1=>by show fD w (qY w (t,1) e) (t,1)=fD w (zp t w e) (t,1);rw[aNj t w e]
theorem aEr(w:Z)(a:Z×Z):fD w a (1,0)=a:=by
 grind [fD,Prod.ext]
theorem aUg(w:Z)(a:Z×Z):fD w (1,0) a=a:=by rw[aBv,aEr]
theorem aJl(w:Z)(x:Z×Z)(i:Y):∀j,qY w x (i+j)=fD w (qY w x i) (qY w x j)
 |0=>by show qY w x i=fD w (qY w x i) (1,0);rw[aEr]
 |j+1=>by
  show fD w (qY w x (i+j)) x=fD w (qY w x i) (fD w (qY w x j) x);rw[aJl w x i j,sH]
theorem qL(w:Z)(x:Z×Z)(i:Y):∀j,qY w x (i*j)=qY w (qY w x i) j
 |0=>rfl
 |j+1=>by
  rw[Nat.mul_succ,aJl,qL w x i j];rfl
theorem aDU(w:Z)(x y:Z×Z):∀e,qY w (fD w x y) e=fD w (qY w x e) (qY w y e)
 |0=>by show(1,0)=fD w (1,0) (1,0);rw[aEr]
 |e+1=>by
  show fD w (qY w (fD w x y) e) (fD w x y)=fD w (fD w (qY w x e) x) (fD w (qY w y e) y);rw[aDU w x y e,sH,sH]
  grind [sH,aBv,qY]
def znm(w:Z)(x:Z×Z):Z:=x.1*x.1-w*(x.2*x.2)
theorem bBw(w:Z)(x y:Z×Z):znm w (fD w x y)=znm w x*znm w y:=by
 unfold znm fD;dsimp only
 grind
def ReP(p:Y)(x:Z×Z):Prop:=(p:Z) ∣ x.2
def UnP(p:Y)(w:Z)(x:Z×Z):Prop:=¬(p:Z) ∣ znm w x
theorem rQ{p:Y}(d:eC p=GE){a b:Z}(h:(p:Z) ∣ a*b):(p:Z) ∣ a\/(p:Z) ∣ b:=by
 by_cases c:(p:Z) ∣ a
 .exact .inl c
 .exact .inr (lH (f8 d c) h)
theorem aVX{p:Y}{w:Z}(c:eC p=GE){x y:Z×Z}(b:UnP p w x)(a:UnP p w y):UnP p w (fD w x y):=λh=>by
 rw[bBw]at h;rcases rQ c h with q|q
 .exact b q
 .exact a q
theorem aVY{p:Y}{w:Z}(a:eC p=GE):UnP p w (1,0):=λh=>by
 have h:(p:Z) ∣ 1*1-w*(0*0):=h;rw[DG,DG]at h;have:=C8 (by decide) h;have:=(gV a).1;omega
theorem aBW{p:Y}{w:Z}(a:eC p=GE){x:Z×Z}(b:UnP p w x):∀e,UnP p w (qY w x e)
 |0=>aVY a
 |e+1=>aVX a (aBW a b e) b
theorem aMR{p:Y}{w:Z}{x y:Z×Z}(b:ReP p x)(a:ReP p y):ReP p (fD w x y) :=
 AC (AA a) (A2 b)
theorem u5{p:Y}{w:Z}{x:Z×Z}(a:ReP p x):∀e,ReP p (qY w x e)
 |0=>⟨0,by show(0:Z)=p*0;omega⟩
 |e+1=>aMR (u5 a e) a
theorem aBK{p:Y}{w:Z}(d:eC p=GE){x y:Z×Z}(a:ReP p x)(b:UnP p w x)(h:ReP p (fD w x y)):ReP p y:=by
 have e:(p:Z) ∣ x.1*y.2:=by
  have h:(p:Z) ∣ x.1*y.2+x.2*y.1:=h;have:=B9 h (A2 (c:=y.1) a)
  simp_all
 rcases rQ d e with q|q
 .exact N (B9 (A2 q) (AA (A2 a))) b
 .exact q
theorem bEW{p:Y}{w:Z}(a:eC p=GE){x:Z×Z}(c:UnP p w x){M:Y}(h:ReP p (qY w x M))(k r:Y)(b:ReP p (qY w x (M*k+r))):ReP p (qY w x r):=by
 rw[aJl,qL]at b;exact aBK a (u5 h k) (aBW a (aBW a c M) k) b
theorem bEV{p:Y}{w:Z}(hp:eC p=GE){x:Z×Z}(ux:UnP p w x)(M K:Y):ReP p (qY w x M)->ReP p (qY w x K)->ReP p (qY w x (B2 M K)):=by
 induction M,K using Nat.gcd.induction with
 |H0 n=>intro _ h;rw[ES];exact h
 |H1 m n _ ih =>
  grind [EJ,bEW,DY]
theorem aOs(c d:Z):∀(l m:O Z),m.length<l.length->∃l',l'.length=l.length/\∀x,evC c l x+evC d m x=evC c l' x
 |a::l, [],_=>⟨(a+d)::l,by simp,λx=>by show a+x*evC c l x+d=a+d+x*evC c l x;omega⟩
 |a::l,b::m,h=>by
  obtain⟨l',e,h2⟩:=aOs c d l m (by simpa using h);refine⟨(a+b)::l',by simp[e],λx=>?_⟩
  grind [evC,B8]
 |[], [],h=>by simp at h
 |[],_::_,h=>by simp at h
theorem aOq(c d:Z):∀(l m:O Z),m.length=l.length->∃l',l'.length=l.length/\∀x,evC c l x+evC d m x=evC (c+d) l' x
 |[], [],_=>⟨[],rfl,λx=>rfl⟩
 |a::l,b::m,h=>by
  obtain⟨l',e,h2⟩:=aOq c d l m (by simpa using h);refine⟨(a+b)::l',by simp[e],λx=>?_⟩
  grind [evC,B8]
 |[],_::_,h=>by simp at h
 |_::_, [],h=>by simp at h
theorem aOt(c w:Z):∀l:O Z,∃l',l'.length=l.length/\∀x,w*evC c l x=evC (w*c) l' x
 |[]=>⟨[],rfl,λx=>rfl⟩
 |a::l=>by
  obtain⟨l',b,h2⟩:=aOt c w l;refine⟨(w*a)::l',by simp[b],λx=>?_⟩
  grind [evC]
theorem aPZ(w:Z):∀m:Y,(∃l:O Z,l.length=m+1/\∀t,(zp t w (m+1)).1=evC 1 l t)/\(∃l:O Z,l.length=m/\∀t,(zp t w (m+1)).2=evC ((m+1:Y):Z) l t)
 |0=>⟨⟨[0],rfl,λt=>by rw[aXb];show t=0+t*1;omega⟩,[],rfl,λt=>by rw[aXb];rfl⟩
 |m+1=>by
  obtain⟨⟨l,b,h2⟩,d,a,h4⟩:=aPZ w m;have e1:∀t,(zp t w (m+1+1)).1=(zp t w (m+1)).1*t+w*((zp t w (m+1)).2*1):=λt=>rfl;have e2:∀t,(zp t w (m+1+1)).2=(zp t w (m+1)).1*1+(zp t w (m+1)).2*t:=λt=>rfl;obtain⟨d',c,h6⟩:=aOt ((m+1:Y):Z) w d;obtain⟨l',h7,h8⟩:=aOs 1 (w*((m+1:Y):Z)) (0::l) d' (by rw[c,a,BH,b];omega);obtain⟨d2,h9,h10⟩:=aOq 1 ((m+1:Y):Z) l (0::d) (by simp[b,a])
  grind [BH,evC]
theorem bBy{p:Y}(c:eC p=GE)(w:Z){m:Y}(b:1<=m)(a:m<p):∃t:Y,¬ReP p (zp t w m):=by
 refine BA λd=>?_;have hall:∀t:Y,(p:Z) ∣ (zp t w m).2:=λt=>BA λh=>d ⟨t,h⟩;obtain⟨j,rfl⟩:∃j,m=j+1:=⟨m-1,by omega⟩;obtain⟨_,l,e,h2⟩:=aPZ w j;have:=aBn c (k:=((j+1:Y):Z)) (i9 b a) j l ((BU 0 p).map λi:Y=>(i:Z)) e (aCm (Z0 p)) (λr hr=>by
  grind)
 simp at this;omega
theorem bDs{p:Y}(a:eC p=GE)(ho:p%2=1):∃w:Z,tV p w= -1:=by
 have h1:=(gV a).1;obtain⟨b,b1,b2,b3⟩:=aF1 a (k:=p/2) (by omega) (by omega);have h2:=aHK b p
 grind [aAh,aTp,f8,i9,dR,A8,AK]
theorem aXc{p:Y}(a:eC p=GE)(b:p%2=1){w:Z}(c:tV p w= -1)(t:Z):ReP p (qY w (t,1) (p+1)):=by
 rw[aNj];obtain⟨⟨h,h1⟩,g,h2⟩:=bBx a b t w;obtain⟨f,h3⟩:=aTz a b t;obtain⟨e,d⟩:=A8 (AK.1 (aTp a b w));rw[c]at d;show(p:Z) ∣ (zp t w p).1*1+(zp t w p).2*t;refine⟨h+f+(g+e)*t,?_⟩
 grind
theorem bIC{p:Y}(_hp:eC p=GE)(b:p%2=1){w:Z}(a:tV p w= -1)(t:Z):UnP p w (t,1):=λh=>by
 have h:(p:Z) ∣ t*t-w*(1*1):=h;rw[BW,BW]at h;have e:tV p (t*t)=tV p w:=aJV (AK.2 (AW h));rw[aHy b,a]at e;have h2:=aHK t p
 grind [aAh]
theorem aK7{q:Y}(a:Pri q):∀(f n:Y),n<=f->1<=n->q ∣ n->∃e c,n=q^(e+1)*c/\¬q ∣ c
 |0,n,h,d,_=>by omega
 |f+1,n,h,d,g=>by
  obtain⟨m,rfl⟩:=g;have j:=a.lt;have m0:m≠0:=λe=>by rw[e,DD]at d;omega
  by_cases b:q ∣ m
  .have hlt:m<q*m:=by
    have:=C1 m j;omega
   obtain⟨e,c,h3,i⟩:=aK7 a f m (by omega) (by omega) b;refine⟨e+1,c,?_,i⟩
   grind
  .exact⟨0,m,by rw[BJ,FR],b⟩
theorem aUh{p:Y}(f:eC p=GE)(x:p%2=1){w:Z}(u:tV p w= -1){q:Y}(l:Pri q)(D:q ∣ p+1) :
  ∃y,UnP p w y/\ReP p (qY w y (p+1))/\¬ReP p (qY w y ((p+1)/q))/\∀r,Pri r->r ∣ p+1->r≠q->ReP p (qY w y ((p+1)/r)):=by
 have h1:=(gV f).1;have B:=l.lt;obtain⟨e,c,m,A⟩:=aK7 l (p+1) (p+1) (Z0 _) (by omega) D;have i:0<q^e:=DL (by omega);have G:0<c:=Nat.pos_of_ne_zero λz=>A (z ▸ Nat.dvd_zero q);have g:(p+1)/q=q^e*c:=by
  grind [CL,B1,AV]
 have o:(p+1)/q<p:=by
  have:(p+1)/q<=(p+1)/2:=Nat.div_le_div_left B (by omega);omega
 have s:1<=(p+1)/q:=by rw[g];exact DM i G
 obtain⟨t,C⟩:=bBy f w s o;rw[<-aNj]at C;have v:=bIC f x u t;have a:=aXc f x u t;refine⟨qY w (t,1) c,aBW f v c,by rw[<-qL,AY,qL];exact u5 a c,λh=>?_,λr j b hne=>?_⟩
 .rw[<-qL]at h;have hg:=bEV f v _ _ a h;have e2:B2 (p+1) (c*((p+1)/q))=(p+1)/q:=by
   rw[g,m];have I:q^(e+1)*c=(q^e*c)*q:=by rw[BX,B1,AY q c,B1]
   have H:c*(q^e*c)=(q^e*c)*c:=AY _ _;rw[I,H,Nat.gcd_mul_left,l.cop A,C0]
  simp_all
 .have n:r ∣ c:=by
   rw[m]at b;rcases j.mul b with z|z
   .rcases l.dv r (by
     clear b;have:∀k,r ∣ q^k->r ∣ q:=λk=>by
      induction k with
      |zero=>intro z;rw[CU]at z;have:=AL (by omega) z;have:=j.lt;omega
      |succ k ih =>
       intro z;rw[BX]at z;rcases j.mul z with y|y
       all_goals omega
     grind)with y|y
    all_goals simp_all
   .exact z
  obtain⟨d,rfl⟩:=n;have r2:=j.lt;have F:(p+1)/r=q^(e+1)*d:=by rw[m,BY,AV _ (by omega)]
  have E:r*d*((p+1)/r)=(p+1)*d:=by rw[F,m];grind
  rw[<-qL,E,qL];exact u5 a d
theorem aFW{p:Y}(b:eC p=GE)(m:p%2=1){w:Z}(k:tV p w= -1):∀l:O Y,l.Nodup->(∀q∈l,Pri q/\q ∣ p+1)->
  ∃g,UnP p w g/\ReP p (qY w g (p+1))/\(∀q∈l,¬ReP p (qY w g ((p+1)/q)))/\∀r,Pri r->r ∣ p+1->r ∉ l->ReP p (qY w g ((p+1)/r))
 |[],_,_=>⟨(1,0),aVY b,u5 ⟨0,by show(0:Z)=p*0;omega⟩ _,λq d=>by simp at d,λr _ _ _=>u5 ⟨0,by show(0:Z)=p*0;omega⟩ _⟩
 |q::l,f,h=>by
  rw[BQ]at f;obtain⟨g,o,z,x,v⟩:=aFW b m k l f.2 λr hr=>h r (AF _ hr);obtain⟨d,n⟩:=h q (AJ ..);obtain⟨y,j,u,t,s⟩:=aUh b m k d n;refine⟨fD w g y,aVX b o j,by rw[aDU];exact aMR z u,λr hr a=>?_,λr hr c hrn=>?_⟩
  .rw[aDU]at a;rcases CJ.1 hr with rfl|hr
   .exact t (aBK b (v r d n f.1) (aBW b o _) a)
   .obtain⟨i,c⟩:=h r (AF _ hr);rw[aBv]at a;exact x r hr (aBK b (s r i c λe=>f.1 (e ▸ hr)) (aBW b j _) a)
  grind [aDU,aMR]
def yK(n:Y)(idx base:O Z):Stp:=⟨2,GG,aA n,idx,base,0,0,0,0,0,GG,0⟩
def hZ(n:Y)(q:Z):Y:=AT (⟨srF (λb=>decide (gX (b:Z) (((n:Z)-1)/q).natAbs n≠1)) 1152921504606846976 2,rfl⟩:∃r,r=srF (λb=>decide (gX (b:Z) (((n:Z)-1)/q).natAbs n≠1)) 1152921504606846976 2)
theorem aXp(n:Y)(q:Z):hZ n q=srF (λb=>decide (gX (b:Z) (((n:Z)-1)/q).natAbs n≠1)) 1152921504606846976 2:=AN (⟨srF (λb=>decide (gX (b:Z) (((n:Z)-1)/q).natAbs n≠1)) 1152921504606846976 2,rfl⟩:∃r,r=srF (λb=>decide (gX (b:Z) (((n:Z)-1)/q).natAbs n≠1)) 1152921504606846976 2)
def qM(pr:O Stp->Z->O Stp):O Stp->O Z->O Stp
 |L, []=>L
 |L,q::r=>qM pr (pr L q) r
def ixG(pr:O Stp->Z->O Stp):O Stp->O Z->O Z
 |_, []=> []
 |L,q::r=>(((pr L q).length:Z)-1)::ixG pr (pr L q) r
def aFI(pr:O Stp->Z->O Stp)(L:O Stp)(n:Y):O Stp :=
 qM pr L (aL (n-1))++[yK n (ixG pr L (aL (n-1))) ((aL (n-1)).map λq=>(hZ n q:Z))]
def fF:Y->O Stp->Z->O Stp
 |0,L,z=>L++[b8 z]
 |f+1,L,z=>if z<65536 then L++[b8 z]else aFI (fF f) L z.toNat
theorem aFU(pr:O Stp->Z->O Stp):∀(l:O Z) (L:O Stp) (x:Z),qM pr L (l++[x])=pr (qM pr L l) x
 |[],_,_=>rfl
 |q::r,L,x=>by show qM pr (pr L q) (r++[x])=pr (qM pr (pr L q) r) x;exact aFU pr r _ x
theorem aKq(pr:O Stp->Z->O Stp):∀(l:O Z) (L:O Stp) (x:Z),ixG pr L (l++[x])=ixG pr L l++[((pr (qM pr L l) x).length:Z)-1]
 |[],_,_=>rfl
 |q::r,L,x=>by show _::ixG pr (pr L q) (r++[x])=_::(ixG pr (pr L q) r++_);rw[aKq pr r];rfl
theorem aOE(pr:O Stp->Z->O Stp):∀(l:O Z) (L:O Stp),(ixG pr L l).length=l.length
 |[],_=>rfl
 |q::r,L=>by show(ixG pr (pr L q) r).length+1=r.length+1;rw[aOE pr r]
structure ProvOk (L R:List Stp) (w:Nat) (z:Int):Prop where
 pre:∃T,R=L++T
 lo:L.length+1<=R.length
 hi:R.length+1<=L.length+2*w
 ok:(∀s∈L,okS s)->∀s∈R,okS s
 fine:(∀s∈L,s.can=true/\2<=s.n)->∀s∈R,s.can=true/\2<=s.n
 last:(R.getD (R.length-1) aB).n=z
 mag:(R.getD (R.length-1) aB).neg=false/\(R.getD (R.length-1) aB).mag=aA z.toNat
structure AddOk (L R:List Stp) (w:Nat) (q I:List Int):Prop where
 pre:∃T,R=L++T
 hi:R.length+q.length<=L.length+2*w
 ok:(∀s∈L,okS s)->∀s∈R,okS s
 fine:(∀s∈L,s.can=true/\2<=s.n)->∀s∈R,s.can=true/\2<=s.n
 len:I.length=q.length
 at_:∀k,k<q.length->0<=I.getD k 0/\I.getD k 0<R.length/\(R.getD (I.getD k 0).toNat aB).n=q.getD k 0/\(R.getD (I.getD k 0).toNat aB).neg=false/\(R.getD (I.getD k 0).toNat aB).mag=aA (q.getD k 0).toNat
theorem vN(pr:O Stp->Z->O Stp):∀(q:O Z) (L:O Stp),(∀x∈q,∀L,ProvOk L (pr L x) (AM x.toNat) x)->AddOk L (qM pr L q) (wtL q) q (ixG pr L q)
 |[],L,_=>⟨⟨[],by simp[qM]⟩,by simp[qM,wtL],λh=>h,λh=>h,rfl,λk a=>by simp at a⟩
 |x::r,L,h=>by
  have P:=h x (AJ ..) L;have A:=vN pr r (pr L x) λy d=>h y (AF _ d);show AddOk L (qM pr (pr L x) r) (AM x.toNat+wtL r) (x::r) ((((pr L x).length:Z)-1)::ixG pr (pr L x) r);obtain⟨T,e⟩:=P.pre;obtain⟨U,c⟩:=A.pre;have hlen:(pr L x).length<=(qM pr (pr L x) r).length:=by rw[c,CD];omega
  refine⟨⟨T++U,by rw[c,e,BL]⟩,?_,λb=>A.ok (P.ok b),λb=>A.fine (P.fine b),by rw[BH,BH,A.len],λk a=>?_⟩
  .have:=A.hi;have:=P.hi
   grind
  .cases k with
   |zero =>
    have hl:=P.lo;show 0<=((pr L x).length:Z)-1/\((pr L x).length:Z)-1<((qM pr (pr L x) r).length:Z)/\_;have g:(((pr L x).length:Z)-1).toNat=(pr L x).length-1:=by omega
    have f:(qM pr (pr L x) r).getD ((pr L x).length-1) aB=(pr L x).getD ((pr L x).length-1) aB:=by
     grind
    refine⟨by omega,by omega,?_⟩;show(F _ ((((pr L x).length:Z)-1)).toNat aB).n=x/\(F _ ((((pr L x).length:Z)-1)).toNat aB).neg=GG/\(F _ ((((pr L x).length:Z)-1)).toNat aB).mag=aA x.toNat;rw[g,f];exact⟨P.last,P.mag.1,P.mag.2⟩
   |succ k=>exact A.at_ k (by simpa using a)
theorem aVN{z:Z}(h:0<=z):(b8 z).n=z:=by
 show(if G (z<0)=GE then-(wv (aA z.natAbs))else wv (aA z.natAbs))=z
 grind [iK]
theorem aGz(n:Y)(i b:O Z):(yK n i b).n=n:=by
 show(if GG=GE then-(wv (aA n))else wv (aA n))=(n:Z);rw[V (by decide),iK]
theorem oL(L:O Stp)(s:Stp):(L++[s]).getD ((L++[s]).length-1) aB=s:=by
 simp
theorem aVO(L:O Stp){z:Z}(h:2<=z)(h2:z<65536):ProvOk L (L++[b8 z]) (AM z.toNat) z:=by
 have hl:1<=AM z.toNat:=(B5 (by omega)).2 (by omega);refine⟨⟨_,rfl⟩,by simp,by simp;omega,λb s a=>?_,λb s a=>?_,by rw[oL];exact aVN (by omega),by rw[oL];exact⟨Y1 (by omega),by show aA z.natAbs=_;congr 1;omega⟩⟩
 all_goals grind [BB,aYL,aJc]
theorem rP{n:Y}(hn:3<=n)(ho:n%2=1):∀x∈aL (n-1),Pri x.toNat/\2<=x/\2*x<=max 4 (n-1:Y):=λx a=>by
 rw[gI]at a;obtain⟨p,rfl,c,b,h3⟩:=(gW (show 1<=n-1 by omega)).mem x a;rw[Z8];refine⟨c,by omega,?_⟩;by_cases d:p=2
 .omega
 .have g:DO p 2:=by
   rw[DO,DE];rcases AX p with q|q
   .exact N ((c.dv 2 (AI q)).resolve_left (by omega)).symm d
   .rw[EJ,q];decide
  have f:p ∣ (n-1)/2:=by
   have e:n-1=2*((n-1)/2):=by omega
   rw[e]at b;exact g.dvd_of_dvd_mul_left b
  have:=AL (by omega) f;omega
theorem aKK{pr:O Stp->Z->O Stp}(L:O Stp){n:Y}(hn5:3<=n)(hn2:n<1099511627776)(r:n%2=1)(h:∀x∈aL (n-1),∀L,ProvOk L (pr L x) (AM x.toNat) x){w:Y}(k:AM n<=w)(w2:2<=w):ProvOk L (aFI pr L n) w n:=by
 have t:3<=n:=by omega
 have A:=vN pr (aL (n-1)) L h;have i:=rP t r;have o:=oP (show 1<=n-1 by omega);rw[<-gI]at o;have hlen:=sQ (aL (n-1)) λx m=>(i x m).2.1;have a:AM (n-1)<=AM n:=(B5 (by omega)).2 (A6 (aA2 (by omega)) (by omega));have h40:AM n<40:=(C2 (by omega)).2 hn2;have g:1<=(aL (n-1)).length:=by
  rw[gI];have:=(gW (show 1<=n-1 by omega)).all 2 ⟨by omega,λd c=>by have:=AL (by omega) c;have:d≠0:=(λe=>by rw[e]at c;simp at c);omega⟩ (AI (by omega))
  grind
 obtain⟨T,j⟩:=A.pre;have hsz:(qM pr L (aL (n-1))).length=L.length+T.length:=by rw[j,CD]
 have hhi:=A.hi;have hcase:2<=(aL (n-1)).length\/wtL (aL (n-1))+1<=w:=by
  by_cases l:n=3
  .subst l;have:AM (3-1)=1:=by decide
   exact .inr (by omega)
  rcases BF (aL (n-1)).length 2 with q|q
  .right
   match p:aL (n-1),q,g with
   |[x],_,_ =>
    have h1:=i x (by rw[p];exact AJ ..);show AM x.toNat+0+1<=_;refine A6 ((B5 (by omega)).2 ?_) (A6 a k)
    grind [aA2,BX]
  .exact .inl q
 unfold aFI;refine⟨⟨T++[_],by rw[j,BL]⟩,by simp;omega,by simp;omega,λf s hs=>?_,λf s hs=>?_,by rw[oL];exact aGz n _ _,by rw[oL];exact⟨rfl,rfl⟩⟩
 .rcases BR.1 hs with hs|hs
  .exact A.ok f s hs
  .rw[BB.1 hs];refine⟨aQ _,?_,?_,?_⟩
   .have:=bS (n:=n) (b:=64) (by omega);show(aA n).length<=6;omega
   .show(ixG pr L (aL (n-1))).length<=90;rw[aOE];omega
   .show(List.map _ (aL (n-1))).length<=1000
    grind
 .rcases BR.1 hs with hs|hs
  .exact A.fine f s hs
  .rw[BB.1 hs,aGz];exact⟨oV (n:Z),by omega⟩
structure Fits (f:Nat) (z:Int):Prop where
 pr:Pri z.toNat
 two:2<=z
 lt:z<65536*2^f
theorem aYE{pr:O Stp->Z->O Stp}(L:O Stp){n:Y}(hn5:5<=n)(hn2:n<1099511627776)(a:n%2=1)(h:∀x∈aL (n-1),∀L,ProvOk L (pr L x) (AM x.toNat) x):ProvOk L (aFI pr L n) (AM n) n :=
 aKK L (by omega) hn2 a h (Z0 _) ((B5 (by omega)).2 (by omega))
theorem v6{f n:Y}(c:3<=n)(b:n%2=1)(hf:n<65536*2^(f+1)):∀x∈aL (n-1),Fits f x:=λx a=>by
 obtain⟨e,d,h3⟩:=rP c b x a;refine⟨e,d,?_⟩
 grind
theorem kC{n:Y}(h:Pri n)(h3:3<=n):n%2=1:=by
 rcases AX n with q|q
 .rcases h.dv 2 (AI q)with e|e<;>omega
 .exact q
theorem pN:∀(f:Y) (L:O Stp) (z:Z),f<=20->Fits f z->ProvOk L (fF f L z) (AM z.toNat) z
 |0,L,z,_,h=>aVO L h.two (by have:=h.lt;omega)
 |f+1,L,z,d,h=>by
  unfold fF;split
  .rename_i a;exact aVO L h.two a
  .rename_i a;have e:((z.toNat:Y):Z)=z:=by have:=h.two;omega
   have g:=h.lt;have i:(65536*2^(f+1):Z)=((65536*2^(f+1):Y):Z):=by rw[AQ,CX];rfl
   rw[i]at g;have h3:65536*2^(f+1)<=65536*2^20:=A0 _ (A7 (by omega) d);have b:=kC h.pr (by omega);have:=aYE L (pr:=fF f) (n:=z.toNat) (by omega) (by omega) b λx c L=>pN f L x (by omega) (v6 (by omega) b (by omega) x c)
   grind
def jP(f:Y)(L:O Stp)(z:Z):O Stp:=AT (⟨fF f L z,rfl⟩:∃r,r=fF f L z)
theorem rR(f:Y)(L:O Stp)(z:Z):jP f L z=fF f L z:=AN (⟨fF f L z,rfl⟩:∃r,r=fF f L z)
def jV(f:Y)(L:O Stp)(q:O Z):O Stp:=AT (⟨qM (fF f) L q,rfl⟩:∃r,r=qM (fF f) L q)
theorem pU(f:Y)(L:O Stp)(q:O Z):jV f L q=qM (fF f) L q:=AN (⟨qM (fF f) L q,rfl⟩:∃r,r=qM (fF f) L q)
def ixH(f:Y)(L:O Stp)(q:O Z):O Z:=AT (⟨ixG (fF f) L q,rfl⟩:∃r,r=ixG (fF f) L q)
theorem aBy(f:Y)(L:O Stp)(q:O Z):ixH f L q=ixG (fF f) L q:=AN (⟨ixG (fF f) L q,rfl⟩:∃r,r=ixG (fF f) L q)
def nJ(f:Y)(L:O Stp)(n:Y):O Stp:=AT (⟨aFI (fF f) L n,rfl⟩:∃r,r=aFI (fF f) L n)
theorem aHR(f:Y)(L:O Stp)(n:Y):nJ f L n=aFI (fF f) L n:=AN (⟨aFI (fF f) L n,rfl⟩:∃r,r=aFI (fF f) L n)
structure provP (f m:Nat) (g:Nat->MV) (z:Int):Prop where
 fits:Fits f z
 f20:f<=20
 ok:okL m g
 len:m+2*AM z.toNat<=900000
def mN(f:Y):O MV->Y->(Y->MV)->C (OProp×Y×(Y->MV)×MV)
 |[.int .u64 z],m,g=>GC (GC (provP f m g z),(jP f (aE m g) z).length,aF (jP f (aE m g) z) 200,.int .i64 (((jP f (aE m g) z).length:Z)-1))
 |_,_,_=>GD
structure addP (f m:Nat) (g:Nat->MV) (z:Int):Prop where
 z1:1<=z
 z2:z<4611686018427387904
 fits:∀x∈aL z.toNat,Fits f x
 f20:f<=20
 ok:okL m g
 len:m+2*wtL (aL z.toNat)<=900000
def u9(f:Y):O MV->Y->(Y->MV)->C (OProp×Y×(Y->MV)×MV)
 |[.int .u64 z],m,g=>GC (GC (addP f m g z),(jV f (aE m g) (aL z.toNat)).length,aF (jV f (aE m g) (aL z.toNat)) 200,.sl 1 (aL z.toNat).length (bJ (ixH f (aE m g) (aL z.toNat))))
 |_,_,_=>GD
def aHS(f:Y)(h:POk AB 25 18 (mN f)):PCtr AB:=⟨25,18,mN f,λargs w=>Tryz.call25 args w,h⟩
def aOR(f:Y)(h:POk AB 48 18 (u9 f)):PCtr AB:=⟨48,18,u9 f,λargs w=>Tryz.call48 args w,h⟩
def bBz(q:O Z)(R:Y->O Stp)(X:Y->O Z):Y->MS->C LoopAnn
 |4,_=>GC (.inv AdS (AdI q) (λs=>⟨27, [(0,.bp 0 0),(5,.sl 1 q.length (λj=>.int .u64 (q.getD j 0))),(6,.bs 2 0 s.k),(7,.int .i64 s.k)],
   [⟨GG,.one (.st [.bs 1 0 (R s.k).length])⟩,⟨GG,.rows 18 (R s.k).length (aF (R s.k) 200)⟩,⟨GG,.arr .i64 (X s.k)⟩],1⟩) (λs=>q.length-s.k))
 |_,_=>GD
theorem bFe(f:Y)(h:POk AB 25 18 (mN f))(L:O Stp)(z:Z)(R:Y->O Stp)(X:Y->O Z)(a:_)(l:a=(aL (S z)))(c:_)(g:c=(D a))(b:_)(e:b=λ(i:AdS)=>(R (AdS.k i)))(d:_)(m:d=λ(i:AdS)=>(jP f (aE (D (b i)) (aF (b i) 200)) (F a (S (AdS.k i:Z)) 0))):((1<=z/\z<4611686018427387904)/\(∃i,AdI a i/\(0=0/\(1=1/\D a =D a/\LeFun c (λj=>MV.int GH (F a j 0)) λj=>MV.int GH (F a j 0))/\(0=0/\0=AdS.k i)/\0=(AdS.k i:Z)/\E)/\((0=0/\D L=D (b i))/\E)/\(D L=D (b i)/\LeFun (D L) (aF L 200) (aF (b i) 200))/\[]=X (AdS.k i)/\E)/\∀(i:AdS),AdI a i->bif G ((AdS.k i:Z)<(D a :Z))then (0<=(AdS.k i:Z)/\(AdS.k i:Z)<(D a :Z))/\(D (b i) <=D (b i)/\provP f (D (b i)) (aF (b i) 200) (F a (S (AdS.k i:Z)) 0))/\(0+1<=1/\AdS.k i<=D (X (AdS.k i))/\(AdS.k i+AH (News.ints GF (P 1 (Q 0 [(D (d i) :Z)-1]))))*8<=140737488355328)/\∃j,AdI a j/\((0=0/\(1=1/\D a =D a/\LeFun c (λj=>MV.int GH (F a j 0)) λj=>MV.int GH (F a j 0))/\(0=0/\AdS.k i+AH (News.ints GF (P 1 (Q 0 [(D (d i) :Z)-1])))=AdS.k j)/\GK GF ((AdS.k i:Z)+1)=(AdS.k j:Z)/\E)/\((0=0/\D (d i) =D (R (AdS.k j)))/\E)/\(D (d i) =D (R (AdS.k j))/\LeFun (D (d i)) (aF (d i) 200) (aF (R (AdS.k j)) 200))/\P (AdS.k i) (X (AdS.k i))++P 1 (Q 0 [(D (d i) :Z)-1])=X (AdS.k j)/\E)/\D a-AdS.k j<D a-AdS.k i else 0+AdS.k i<=D (X (AdS.k i))/\((0=0/\D (b i) =D (R c))/\E)/\(D (R c)<=D (b i)/\LeFun (D (R c)) (aF (b i) 200) (aF (R c) 200))/\1=1/\AdS.k i=D a/\LeFun (AdS.k i) (λj=>MV.int GF (F (X (AdS.k i)) (0+j) 0)) (bJ (X c)))=nP (aJ6 [aCO] [.pt (aHS f h)] fzA (bBz (aL z.toNat) R X)) F2 18 [.int .u64 z] L.length (aF L 200) (R (aL z.toNat).length).length (aF (R (aL z.toNat).length) 200) (.sl 1 (aL z.toNat).length (bJ (X (aL z.toNat).length))):=by subst l g e m;kernel_rfl
theorem aW9:∀(q:O Z) (k:Y),k<q.length->wtL (q.take k)+AM (q.getD k 0).toNat<=wtL q
 |[],k,h=>by simp at h
 |x::r,0,_=>by show 0+AM x.toNat<=AM x.toNat+wtL r;omega
 |x::r,k+1,h=>by
  show AM x.toNat+wtL (r.take k)+AM (r.getD k 0).toNat<=AM x.toNat+wtL r;have:=aW9 r k (by simpa using h);omega
theorem aLS{f:Y}(f20:f<=20){q:O Z}(hq:∀x∈q,Fits f x)(L:O Stp)(k:Y):AddOk L (jV f L (q.take k)) (wtL (q.take k)) (q.take k) (ixH f L (q.take k)):=by
 grind [pU,aBy,vN,pN,EF]
theorem bCn(f:Y)(h:POk AB 25 18 (mN f))(L:O Stp)(z:Z)(K:1<=z)(J:z<4611686018427387904)(e:f<=20)(H:okT L)(g:∀x∈aL z.toNat,Fits f x)(hl:L.length+2*wtL (aL z.toNat)<=900000) :
  ∃E:Env AB,nP E F2 18 [.int .u64 z] L.length (aF L 200) (jV f L (aL z.toNat)).length (aF (jV f L (aL z.toNat)) 200) (.sl 1 (aL z.toNat).length (bJ (ixH f L (aL z.toNat)))):=by
 have D:=aLS e g L;have b:jV f L ((aL z.toNat).take 0)=L:=by rw[pU];rfl
 have t:ixH f L ((aL z.toNat).take 0)=[]:=by rw[aBy];rfl
 have u:∀k,k<(aL z.toNat).length->jV f L ((aL z.toNat).take (k+1))=jP f (jV f L ((aL z.toNat).take k)) ((aL z.toNat).getD k 0):=λk l=>by
  grind [pU,rR,BE,aFU]
 have p:∀k,k<(aL z.toNat).length->ixH f L ((aL z.toNat).take (k+1))=ixH f L ((aL z.toNat).take k)++[((jV f L ((aL z.toNat).take (k+1))).length:Z)-1]:=λk l=>by
  grind [pU,aBy,rR,BE,aKq]
 have eR:jV f L (aL z.toNat)=jV f L ((aL z.toNat).take (aL z.toNat).length):=by rw[CN]
 have eX:ixH f L (aL z.toNat)=ixH f L ((aL z.toNat).take (aL z.toNat).length):=by rw[CN]
 rw[eR,eX];generalize G:(λk=>jV f L ((aL z.toNat).take k))=R;generalize F:(λk=>ixH f L ((aL z.toNat).take k))=X;have cR:∀k,jV f L ((aL z.toNat).take k)=R k:=λk=>congrFun G k;have cX:∀k,ixH f L ((aL z.toNat).take k)=X k:=λk=>congrFun F k;simp only[cR,cX]at *;refine⟨aJ6 [aCO] [.pt (aHS f h)] fzA (bBz (aL z.toNat) R X),?_⟩;rw[<-bFe f h L z R X _ rfl _ rfl _ rfl _ rfl];generalize aL z.toNat=q at *;refine⟨⟨K,J⟩,⟨⟨0⟩,⟨Z9 _⟩,⟨rfl,⟨rfl,rfl,AG⟩,⟨rfl,rfl⟩,rfl,⟨⟩⟩,⟨⟨rfl,by rw[b]⟩,⟨⟩⟩,⟨by rw[b],by rw[b];exact AG⟩,t.symm,⟨⟩⟩,λs I=>?_⟩;obtain⟨k⟩:=s;obtain⟨l⟩:=I;dsimp only at l⊢;rw[Z8];have A:=D k;have d:(X k).length=k:=by rw[A.len,EU];omega
 have C:P k (X k)=X k:=D3 (by rw[d];exact Z0 k);have B:∀y:Z,P 1 (Q 0 [y])=[y]:=λ_=>rfl;have v:∀y:Z,AH (News.ints GF [y])=1:=λ_=>rfl;rw[C,B,v,d,qJ];refine aI Z4 (λq1=>?_) (λq1=>?_)
 .have a:k<q.length:=by omega
  have M:GK GF ((k:Z)+1)=((k+1:Y):Z):=by
   have m:=sQ q λx i=>(g x i).two;rw[aT (by omega) (by omega)];omega
  have hw:=aW9 q k a;have hhi:=A.hi;have n:okT (R k):=⟨by omega,A.ok H.ok⟩;rw[<-u k a];have m:=sQ q λx i=>(g x i).two;refine⟨by omega,⟨Z0 _,g _ (gP a),e,sR n,by omega⟩,⟨by omega,Z0 _,by omega⟩,⟨k+1⟩,⟨a⟩,⟨⟨rfl,⟨rfl,rfl,AG⟩,⟨rfl,rfl⟩,M,⟨⟩⟩,⟨⟨rfl,rfl⟩,⟨⟩⟩,⟨rfl,AG⟩,(p k a).symm,⟨⟩⟩,by show q.length-(k+1)<q.length-k;omega⟩
 .have o:k=q.length:=by omega
  subst o;refine⟨by omega,⟨⟨rfl,rfl⟩,⟨⟩⟩,⟨Z0 _,AG⟩,rfl,rfl,⟨λj _ c w N r=>?_⟩⟩;have r:RepC c w (.int .i64 ((X q.length).getD (0+j) 0)) N:=r;rw[BJ]at r;exact r
theorem aHd(f:Y)(h:POk AB 25 18 (mN f)):POk AB 48 18 (u9 f):=oK bT Tryz.func48 (u9 f) λms n g p n' g' m a c=>by
 unfold u9 at a;split at a
 .rename_i z;simp only[Z1,Z2]at a;obtain⟨rfl,rfl,rfl,rfl⟩:=a;obtain⟨k,j,i,e,b,h6⟩:addP f n g z:=c;have d:=dG n g;have:=bCn f h (aE n g) z k j e b.T i (by omega);rw[d]at this;exact⟨aF (aE n g) 200,j0 b.stp,this⟩
 .simp at a
structure MiS where
 k:Nat
structure MiI (q:List Int) (s:MiS):Prop where
 hk:s.k<=q.length
structure MjS where
 b:Nat
structure MjI (B:Nat) (s:MjS):Prop where
 h2:2<=s.b
 hB:s.b<=B
def miT(n:Y)(k:Y):O (Y×MV):=[(0,.bp 0 0),(1,.int .u64 n),(5,.bp 2 0),(6,.bp 3 0),(7,.int .i64 k)]
def miB(n:Y)(M:O Stp)(idx bas:O Z)(k:Y):O Box:=[⟨GG,.one (.st [.bs 1 0 M.length])⟩,⟨GG,.rows 18 M.length (aF M 200)⟩,
 ⟨GG,.one (.st [.int .i64 2,.big n 64,.sl 1 idx.length (bJ idx),.bs 4 0 k,.st [.big 0 0,.big 0 0,.big 0 0],.st [.big 0 0,.big 0 0,.bool GG],.big 0 0])⟩,
 ⟨GG,.one (.big ((n:Z)-1) 64)⟩,⟨GG,.rows 2 k (iL (bas.take k) 200)⟩]
def bBE(n:Y)(M:O Stp)(q idx bas:O Z):Y->MS->C LoopAnn
 |4,_=>GC (.inv MiS (MiI q) (λs=>⟨74,miT n s.k,miB n M idx bas s.k,1⟩) (λs=>q.length-s.k))
 |8,e=>(match aW 7 e.tm with
  |.int _ k=>GC (.inv MjS (MjI (bas.getD k.toNat 0).toNat) (λs=>⟨74,miT n k.toNat++[(8,.bp 5 0),(9,.bp 6 0)],miB n M idx bas k.toNat++[⟨GG,.one (.big (q.getD k.toNat 0) 200)⟩,⟨GG,.one (.big s.b 64)⟩],1⟩) (λs=>(bas.getD k.toNat 0).toNat-s.b))
  |_=>GD)
 |_,_=>GD
def fzM:Y->O Y
 |11=> [4,1000000]
 |999994=> [0]
 |_=> []
theorem bFy(f:Y)(h:POk AB 48 18 (u9 f))(L:O Stp)(n:Y)(q idx bas:O Z)(M R:O Stp)(a:_)(p:a=(n:Z))(l:_)(t:l=λ(i:MiS)=>(News.rows 18 1 (aN [MV.st [MV.int GF (2:Z),MV.big a 64,MV.sl 1 (D idx) (bJ idx),MV.sl 2 (MiS.k i) (iL (P (MiS.k i) bas) 200),MV.st [MV.big 0 0,MV.big 0 0,MV.big 0 0],MV.st [MV.big 0 0,MV.big 0 0,MV.bool GG],MV.big 0 0]])))(g:_)(r:g=(aL (S (X GH (a-1)))))(c:_)(o:c=λ(i:MiS)=>(MiS.k i:Z))(d:_)(s:d=λ(i:MiS)=>(S (c i)))(e:_)(m:e=(jV f (aE (D L) (aF L 200)) g)):((0<= a/\a <18446744073709551616)/\(D L<=D L/\addP f (D L) (aF L 200) (X GH (a-1)))/\(0<=X GH (a-1)/\X GH (a-1)<18446744073709551616)/\(∃i,MiI q i/\(0=0/\a = a/\0=0/\0=0/\0= (c i)/\E)/\((0=0/\D e =D M)/\E)/\(D e =D M/\LeFun (D e) (aF e 200) (aF M 200))/\((2:Z)=2/\aD a a 64 64/\(1=1/\D g =D idx/\LeFun (D g) (bJ (ixH f (aE (D L) (aF L 200)) g)) (bJ idx))/\(AE GD 0 0=AE GD 0 0/\0=0/\MiS.k i=0)/\(aD 0 0 0 0/\aD 0 0 0 0/\aD 0 0 0 0/\E)/\(aD 0 0 0 0/\aD 0 0 0 0/\GG=GG/\E)/\aD 0 0 0 0/\E)/\aD (X GH (a-1)) (a-1) 64 64/\E)/\∀(i:MiS),MiI q i->bif G ((c i) <(D idx:Z))then (0<= (c i)/\(c i) <(D idx:Z))/\(0<=F idx (d i) 0/\F idx (d i) 0<(D M:Z))/\S (F idx (d i) 0)<D M/\fY 2/\(∃i_1,MjI (S (F bas (d i) 0)) i_1/\(0=0/\a = a/\0=0/\0=0/\(c i) =(S (c i) :Z)/\0=0/\0=0/\E)/\((0=0/\D M=D M)/\E)/\(D M=D M/\LeFun (D M) (aF M 200) (aF M 200))/\((2:Z)=2/\aD a a 64 64/\(1=1/\D idx=D idx/\LeFun (D idx) (bJ idx) (bJ idx))/\(0=0/\MiS.k i=S (c i))/\(aD 0 0 0 0/\aD 0 0 0 0/\aD 0 0 0 0/\E)/\(aD 0 0 0 0/\aD 0 0 0 0/\GG=GG/\E)/\aD 0 0 0 0/\E)/\aD (a-1) (a-1) 64 64/\(MiS.k i=S (c i)/\LeFun (MiS.k i) (iL (P (MiS.k i) bas) 200) (iL (P (d i) bas) 200))/\(Stp.neg (F M (S (F idx (d i) 0)) aB)=G (F q (d i) 0<0)/\Stp.mag (F M (S (F idx (d i) 0)) aB)=aA (u (F q (d i) 0))/\u (F q (d i) 0)<2^200)/\aD 2 (MjS.b i_1:Z) 64 64/\E)/\∀(i_1:MjS),MjI (S (F bas (d i) 0)) i_1->(64<=900000/\200<=900000/\(F q (d i) 0=0->W))/\(64<=10000/\64<=10000/\64<=10000/\0< a)/\fY 1/\(64<=1000000/\64<=1000000)/\bif G (gX (MjS.b i_1:Z) (u ((a-1)/F q (d i) 0)) a =1)then fY 1/\(64<=1000000/\64<=1000000)/\∃j,MjI (S (F bas (d i) 0)) j/\((0=0/\a = a/\0=0/\0=0/\(S (c i) :Z)=(S (c i) :Z)/\0=0/\0=0/\E)/\((0=0/\D M=D M)/\E)/\(D M=D M/\LeFun (D M) (aF M 200) (aF M 200))/\((2:Z)=2/\aD a a 64 64/\(1=1/\D idx=D idx/\LeFun (D idx) (bJ idx) (bJ idx))/\(0=0/\S (c i) =S (c i))/\(aD 0 0 0 0/\aD 0 0 0 0/\aD 0 0 0 0/\E)/\(aD 0 0 0 0/\aD 0 0 0 0/\GG=GG/\E)/\aD 0 0 0 0/\E)/\aD (a-1) (a-1) 64 64/\(S (c i) =S (c i)/\LeFun (d i) (iL (P (d i) bas) 200) (iL (P (d i) bas) 200))/\aD (F q (d i) 0) (F q (d i) 0) 200 200/\aD ((MjS.b i_1:Z)+1) (MjS.b j:Z) (max 64 64+1) 64/\E)/\S (F bas (d i) 0)-MjS.b j<S (F bas (d i) 0)-MjS.b i_1 else (S (c i) <=S (c i)/\(S (c i) +AH (News.rows 2 1 (aN [MV.big (MjS.b i_1:Z) 64])))*32<=140737488355328)/\∃j,MiI q j/\((0=0/\a = a/\0=0/\0=0/\X GF ((S (c i) :Z)+1)=(MiS.k j:Z)/\E)/\((0=0/\D M=D M)/\E)/\(D M=D M/\LeFun (D M) (aF M 200) (aF M 200))/\((2:Z)=2/\aD a a 64 64/\(1=1/\D idx=D idx/\LeFun (D idx) (bJ idx) (bJ idx))/\(0=0/\S (c i) +AH (News.rows 2 1 (aN [MV.big (MjS.b i_1:Z) 64]))=MiS.k j)/\(aD 0 0 0 0/\aD 0 0 0 0/\aD 0 0 0 0/\E)/\(aD 0 0 0 0/\aD 0 0 0 0/\GG=GG/\E)/\aD 0 0 0 0/\E)/\aD (a-1) (a-1) 64 64/\(S (c i) +1=MiS.k j/\LeFun (S (c i) +1) (λq=>bif AO q (d i)then iL (P (d i) bas) 200 q else aN [MV.big (MjS.b i_1:Z) 64] (q-S (c i))) (iL (P (MiS.k j) bas) 200))/\E)/\D q-MiS.k j<D q-MiS.k i else MiS.k i<=MiS.k i/\(D M<=D M/\(D M+AH (l i))*288<=140737488355328)/\((0=0/\D M+AH (l i) =D R)/\E)/\(D R<=D M+1/\LeFun (D R) (λq=>bif AO q (D M)then aF M 200 q else aN [MV.st [MV.int GF (2:Z),MV.big a 64,MV.sl 1 (D idx) (bJ idx),MV.sl 2 (MiS.k i) (iL (P (MiS.k i) bas) 200),MV.st [MV.big 0 0,MV.big 0 0,MV.big 0 0],MV.st [MV.big 0 0,MV.big 0 0,MV.bool GG],MV.big 0 0]] (q-D M)) (aF R 200))/\X GF ((↑(D M+AH (l i)):Z)-1)=(D R:Z)-1)=nP (aJ6 [mA,cO,kZ,vQ,fJ,gL] [.pt (aOR f h)] fzM (bBE n M q idx bas)) F7 18 [.int .u64 n] L.length (aF L 200) R.length (aF R 200) (.int .i64 ((R.length:Z)-1)):=by subst p t r o s m;kernel_rfl
structure BasOk (n:Nat) (q:Int):Prop where
 lo:2<=hZ n q
 hi:hZ n q<=n-1
 yes:gX (hZ n q:Int) (((n:Int)-1)/q).natAbs n≠1
 no:∀j,2<=j->j<hZ n q->gX (j:Int) (((n:Int)-1)/q).natAbs n=1
theorem aCl{n k:Y}(h:1<n)(b:Z):gX b k n=1↔(n:Z) ∣ b^k-1:=by
 unfold gX;constructor
 .intro e;refine A8 ?_;rw[<-AK,e,A3 (by omega) (by omega)]
 .intro e;have:=AK.2 (AW e);rw[this,A3 (by omega) (by omega)]
theorem aSn{n:Y}(f:Pri n)(hn:3<=n)(hn2:n<1152921504606846976){q:Z}(d:Pri q.toNat)(g:q.toNat ∣ n-1):BasOk n q:=by
 have h:=d.lt;obtain⟨p,rfl⟩:∃p:Y,q=p:=⟨q.toNat,by omega⟩;rw[Z8]at d g h;have a:=jA f;have r:(((n:Z)-1)/(p:Z)).natAbs=(n-1)/p:=by
  grind
 have c:=AL (by omega) g;obtain⟨b,b1,b2,s⟩:=aF1 a (k:=(n-1)/p) (EK c (by omega)) (DX (by omega) h);have m:gX (b:Z) (((n:Z)-1)/(p:Z)).natAbs n≠1:=λe=>s (by rw[r]at e;exact(aCl f.lt _).1 e);have l:=aI8 (λb=>decide (gX (b:Z) (((n:Z)-1)/(p:Z)).natAbs n≠1)) 1152921504606846976 2;have o:=aDR (λb=>decide (gX (b:Z) (((n:Z)-1)/(p:Z)).natAbs n≠1)) 1152921504606846976 2;have i:=aAZ (λb=>decide (gX (b:Z) (((n:Z)-1)/(p:Z)).natAbs n≠1)) 1152921504606846976 2 b b1 (by omega) (Y0 m);rw[<-aXp]at l o i;refine⟨l,?_,of_decide_eq_true i,λj j1 j2=>?_⟩
 all_goals grind
theorem aQH{α:Type}(l:O Z)(f:Z->α)(d:α){k:Y}(h:k<l.length):(l.map f).getD k d=f (l.getD k 0):=by
 simp_all
structure minP (f m:Nat) (g:Nat->MV) (n:Int):Prop where
 pr:Pri n.toNat
 n5:3<=n
 n6:n<1099511627776
 lt:n.toNat<65536*2^(f+1)
 f20:f<=20
 ok:okL m g
 len:m+2*AM n.toNat<=900000
theorem bDn(f:GJ)(h:POk AB 48 18 (u9 f))(L:GI Stp)(n:GJ)(hp:Pri n)(n5:3<=n)(U:n<1099511627776)(N:n<65536*2^(f+1))(r:f<=20)(W:okT L)(hl:L.length+2*AM n<=900000) :
  ∃E:Env AB,nP E F7 18 [.int .u64 n] L.length (aF L 200) (nJ f L n).length (aF (nJ f L n) 200) (.int .i64 (((nJ f L n).length:GL)-1)):=by
 have F:=kC hp (by omega);have c:=v6 (by omega) F N;have hw:=oP (show 1<=n-1 by omega);have hlog:AM (n-1)<=AM n:=(B5 (by omega)).2 (A6 (aA2 (by omega)) (by omega));rw[<-gI]at hw;have u:∀x∈aL (n-1),BasOk n x:=λx d=>by
  have h1:=(rP (by omega) F x d).1;rw[gI]at d;obtain⟨p,rfl,h2,h3,_⟩:=(gW (show 1<=n-1 by omega)).mem x d
  grind [aSn,Z8]
 have A:=vN (fF f) (aL (n-1)) L λx d L=>pN f L x r (c x d);rw[<-pU,<-aBy]at A;have T:nJ f L n=jV f L (aL (n-1))++[yK n (ixH f L (aL (n-1))) ((aL (n-1)).map λq=>(hZ n q:GL))]:=by rw[aHR,pU,aBy];rfl
 generalize hM:jV f L (aL (n-1))=M at *;generalize t:ixH f L (aL (n-1))=idx at *;generalize hR:nJ f L n=R at *;refine⟨aJ6 [mA,cO,kZ,vQ,fJ,gL] [.pt (aOR f h)] fzM (bBE n M (aL (n-1)) idx ((aL (n-1)).map λq=>(hZ n q:GL))),?_⟩;rw[<-bFy f h L n (aL (n-1)) idx ((aL (n-1)).map λq=>(hZ n q:GL)) M R _ rfl _ rfl _ rfl _ rfl _ rfl _ rfl];have e2:GK GH ((n:GL)-1)=((n-1:GJ):GL):=by rw[show(n:GL)-1=((n-1:GJ):GL) by omega];exact xF (by omega)
 rw[e2,Z8,qJ,hM,t];have hhi:=A.hi;have okM:okT M:=⟨by omega,A.ok W.ok⟩;have l:idx.length=(aL (n-1)).length:=A.len;generalize D:aL (n-1)=q at *;have o:(q.map λq=>(hZ n q:GL)).length=q.length:=DR ..;have S:∀k,k<q.length->(q.map λq=>(hZ n q:GL)).getD k 0=(hZ n (q.getD k 0):GL):=λk G=>aQH q _ 0 G;generalize hbb:(q.map λq=>(hZ n q:GL))=bas at *;have hq9:=sQ q λx d=>(c x d).two;have h40:AM n<40:=(C2 (by omega)).2 U;have y:aD 0 0 0 0/\aD 0 0 0 0/\aD 0 0 0 0/\GR:=⟨bQ,bQ,bQ,⟨⟩⟩;have v:aD 0 0 0 0/\aD 0 0 0 0/\GG=GG/\GR:=⟨bQ,bQ,rfl,⟨⟩⟩;refine⟨by omega,⟨Z0 _,by omega,by omega,by rw[Z8,D];exact c,r,sR W,by rw[Z8,D];omega⟩,by omega,⟨⟨0⟩,⟨Z9 _⟩,⟨rfl,rfl,rfl,rfl,rfl,⟨⟩⟩,⟨⟨rfl,rfl⟩,⟨⟩⟩,⟨rfl,AG⟩,⟨rfl,bQ,⟨rfl,l.symm,by rw[<-l];exact AG⟩,⟨rfl,rfl,rfl⟩,y,v,bQ,⟨⟩⟩,⟨by omega,.inl (Z0 _)⟩,⟨⟩⟩,λs I=>?_⟩;obtain⟨k⟩:=s;obtain⟨G⟩:=I;dsimp only at G⊢;rw[Z8];refine aI Z4 (λq1=>?_) (λq1=>?_)
 .have a:k<q.length:=by omega
  obtain⟨i1,i2,i3,Z,Y⟩:=A.at_ k a;have d:=c _ (gP a);have B:=u _ (gP a);rw[S k a,Z8];generalize H:q.getD k 0=x at *;have hx2:=d.two;have hxs:=(rP (by omega) F x (by rw[D,<-H];exact gP a)).2.2;have ex:x.natAbs=x.toNat:=by omega
  have g:x.natAbs<2^200:=EN (show x.natAbs<2^64 by omega) (A7 (by omega) (by omega));have e5:GK GF ((k:GL)+1)=((k+1:GJ):GL):=by rw[aT (by omega) (by omega)];omega
  refine⟨by omega,⟨i1,i2⟩,by omega,by omega,⟨⟨2⟩,⟨Z0 2,B.lo⟩,⟨rfl,rfl,rfl,rfl,rfl,rfl,rfl,⟨⟩⟩,⟨⟨rfl,rfl⟩,⟨⟩⟩,⟨rfl,AG⟩,⟨rfl,bQ,⟨rfl,rfl,AG⟩,⟨rfl,rfl⟩,y,v,bQ,⟨⟩⟩,bQ,⟨rfl,AG⟩,⟨by rw[Z];exact(Y1 (by omega)).symm,by rw[Y,ex],g⟩,bQ,⟨⟩⟩,λj J=>?_⟩;obtain⟨b⟩:=j;obtain⟨V,X⟩:=J;dsimp only at V X⊢;have hBn:=B.hi;refine⟨⟨by omega,by omega,λe=>by omega⟩,by omega,by omega,by omega,aI Z4 (λC=>?_) (λC=>?_)⟩
  .have hne:b≠hZ n x:=λe=>B.yes (e ▸ C);exact⟨by omega,by omega,⟨b+1⟩,⟨by show 2<=b+1;omega,by show b+1<=hZ n x;omega⟩,⟨⟨rfl,rfl,rfl,rfl,rfl,rfl,rfl,⟨⟩⟩,⟨⟨rfl,rfl⟩,⟨⟩⟩,⟨rfl,AG⟩,⟨rfl,bQ,⟨rfl,rfl,AG⟩,⟨rfl,rfl⟩,y,v,bQ,⟨⟩⟩,bQ,⟨rfl,AG⟩,bQ,⟨by show(b:GL)+1=((b+1:GJ):GL);omega,.inr (by omega)⟩,⟨⟩⟩,by show hZ n x-(b+1)<hZ n x-b;omega⟩
  .have hbe:b=hZ n x:=by
    rcases BF b (hZ n x)with w|w
    .exact GM (B.no b V w) C
    .omega
   have P:LeFun (k+1) (λq=>bif AO q k then iL (GQ k bas) 200 q else aN [MV.big (b:GL) 64] (q-k)) (iL (GQ (k+1) bas) 200):=by
    have hkl:(GQ k bas).length=k:=by rw[EU];omega
    have:=aBx (GQ k bas) (m:= .big (b:GL) 64) (z:=(b:GL)) ⟨rfl,.inl (by omega)⟩
    grind [GQ,BE,BO]
   exact⟨⟨Z0 _,by show(k+1)*32<=_;omega⟩,⟨k+1⟩,⟨a⟩,⟨⟨rfl,rfl,rfl,rfl,e5,⟨⟩⟩,⟨⟨rfl,rfl⟩,⟨⟩⟩,⟨rfl,AG⟩,⟨rfl,bQ,⟨rfl,rfl,AG⟩,⟨rfl,rfl⟩,y,v,bQ,⟨⟩⟩,bQ,⟨rfl,P⟩,⟨⟩⟩,by show q.length-(k+1)<q.length-k;omega⟩
 .have Q:k=q.length:=by omega
  subst Q;have hv:isOk (.st [.int .i64 2,.big n 64,.sl 1 idx.length (bJ idx),.sl 2 q.length (iL (bas.take q.length) 200),.st [.big 0 0,.big 0 0,.big 0 0],.st [.big 0 0,.big 0 0,.bool GG],.big 0 0]) :=
   jZ (by omega) (by omega) (by omega) (by omega) (by omega) (by omega) (aKo idx) (rH λi _=>lE _ (Z0 _) i) (by rw[A5];exact FK U (by decide)) (by
    show(iY idx.length (bJ idx)).length<=90
    grind [iE,aH,iL,bA]) (by
    show(aH q.length (iL (bas.take q.length) 200)).length<=1000;rw[bA];omega)
  have K:m7 (.st [.int .i64 2,.big n 64,.sl 1 idx.length (bJ idx),.sl 2 q.length (iL (bas.take q.length) 200),.st [.big 0 0,.big 0 0,.big 0 0],.st [.big 0 0,.big 0 0,.bool GG],.big 0 0])=yK n idx bas:=by
   have e1:GQ q.length bas=bas:=by rw[<-o];exact CN
   rw[e1,<-o];show(⟨2,decide ((n:GL)<0),aA (n:GL).natAbs,iY idx.length (bJ idx),aH bas.length (iL bas 200),0,0,0,0,0,GG,0⟩:Stp)=_;rw[iE,eK,Y1 (show ¬(n:GL)<0 by omega)];rfl
  have O:=aHh (M:=M) (ex:=[]) hv.stp K;have hlen:R.length=M.length+1:=by rw[T];simp
  have e7:∀m:MV,AH (News.rows 18 1 (aN [m]))=1:=λ_=>rfl;unfold aBb at O
  grind [aT]
def aE7(f:Y):O MV->Y->(Y->MV)->C (OProp×Y×(Y->MV)×MV)
 |[.int .u64 n],m,g=>GC (GC (minP f m g n),(nJ f (aE m g) n.toNat).length,aF (nJ f (aE m g) n.toNat) 200,.int .i64 (((nJ f (aE m g) n.toNat).length:Z)-1))
 |_,_,_=>GD
theorem aOQ(f:Y)(h:POk AB 48 18 (u9 f)):POk AB 26 18 (aE7 f):=oK bT Tryz.func26 (aE7 f) λms m g p n' g' v a d=>by
 unfold aE7 at a;split at a
 .rename_i b;simp only[Z1,Z2]at a;obtain⟨rfl,rfl,rfl,rfl⟩:=a;have H:minP f m g b:=d;obtain⟨n,rfl⟩:∃n:Y,b=n:=⟨b.toNat,by have:=H.n5;omega⟩;obtain⟨k,h2,h3,j,i,c,h7⟩:=H;rw[Z8]at *;have e:=dG m g;have:=bDn f h (aE m g) n k (by omega) (by omega) j i c.T (by omega);rw[e]at this;exact⟨aF (aE m g) 200,j0 c.stp,this⟩
 .simp at a
def aT3(f:Y)(h:POk AB 26 18 (aE7 f)):PCtr AB:=⟨26,18,aE7 f,λargs w=>Tryz.call26 args w,h⟩
theorem aWx(f:Y)(h:POk AB 26 18 (aE7 f))(L R:O Stp)(z:Z)(b:_)(d:b=(News.rows 18 1 (aN [MV.st [MV.int GF (1:Z),MV.big z 64,MV.val (AE GD 0 0),MV.val (AE GD 0 0),MV.st [MV.big 0 0,MV.big 0 0,MV.big 0 0],MV.st [MV.big 0 0,MV.big 0 0,MV.bool GG],MV.big 0 0]])))(a:_)(c:a=(nJ f (aE (D L) (aF L 200)) (S z))):(bif G (z<65536)then (0<=z/\z<18446744073709551616)/\(D L<=D L/\(D L+AH b)*288<=140737488355328)/\((0=0/\D L+AH b =D R)/\E)/\(D R<=D L+1/\LeFun (D R) (λq=>bif AO q (D L)then aF L 200 q else aN [MV.st [MV.int GF (1:Z),MV.big z 64,MV.val (AE GD 0 0),MV.val (AE GD 0 0),MV.st [MV.big 0 0,MV.big 0 0,MV.big 0 0],MV.st [MV.big 0 0,MV.big 0 0,MV.bool GG],MV.big 0 0]] (q-D L)) (aF R 200))/\X GF ((↑(D L+AH b):Z)-1)=(D R:Z)-1 else (D L<=D L/\minP f (D L) (aF L 200) z)/\((0=0/\D a =D R)/\E)/\(D R<=D a/\LeFun (D R) (aF a 200) (aF R 200))/\(D a :Z)-1=(D R:Z)-1)=nP (aJ6 [mA] [.pt (aT3 f h)] fzP aC) EE 18 [.int .u64 z] L.length (aF L 200) R.length (aF R 200) (.int .i64 ((R.length:Z)-1)):=by subst d c;kernel_rfl
theorem aRg(f:Y)(h:POk AB 26 18 (aE7 f))(L:O Stp)(z:Z)(a:¬z<65536)(b:minP f L.length (aF L 200) z) :
  ∃E:Env AB,nP E EE 18 [.int .u64 z] L.length (aF L 200) (nJ f L z.toNat).length (aF (nJ f L z.toNat) 200) (.int .i64 (((nJ f L z.toNat).length:Z)-1)):=by
 refine⟨aJ6 [mA] [.pt (aT3 f h)] fzP aC,?_⟩;rw[<-aWx f h L (nJ f L z.toNat) z _ rfl _ rfl,qJ];exact aGb (Y1 a) ⟨⟨Z0 _,b⟩,⟨⟨rfl,rfl⟩,⟨⟩⟩,⟨Z0 _,AG⟩,rfl⟩
theorem aPQ(L:O Stp)(z:Z):(((L++[b8 z]).length:Y):Z)-1=(L.length:Z):=by rw[aOH];omega
theorem wM:∀f:Y,POk AB 25 18 (mN f)
 |0=>oK bT FH (mN 0) λk m g p n' g' v a j=>by
  unfold mN at a;split at a
  .rename_i z;simp only[Z1,Z2]at a;obtain⟨rfl,rfl,rfl,rfl⟩:=a;obtain⟨b,_,c,n⟩:provP 0 m g z:=j;have h:=dG m g;have d:=b.lt;have o:=b.two;have e:jP 0 (aE m g) z=aE m g++[b8 z]:=by rw[rR];rfl
   have:=aGS (aE m g) z (by omega) (by omega) (by omega);rw[<-aPQ,h]at this;rw[e];exact⟨aF (aE m g) 200,j0 c.stp,this⟩
  .simp at a
 |f+1=>oK bT FH (mN (f+1)) λk m g p n' g' v a j=>by
  unfold mN at a;split at a
  .rename_i z;simp only[Z1,Z2]at a;obtain⟨rfl,rfl,rfl,rfl⟩:=a;obtain⟨b,l,c,n⟩:provP (f+1) m g z:=j;have h:=dG m g;have o:=b.two;by_cases i:z<65536
   .have e:jP (f+1) (aE m g) z=aE m g++[b8 z]:=by rw[rR];unfold fF;rw[U i]
    have:=aGS (aE m g) z (by omega) (by omega) (by omega);rw[<-aPQ,h]at this;rw[e];exact⟨aF (aE m g) 200,j0 c.stp,this⟩
   .have e:jP (f+1) (aE m g) z=nJ f (aE m g) z.toNat:=by rw[rR,aHR];unfold fF;rw[V i]
    have d:=b.lt;have q:(65536*2^(f+1):Z)=((65536*2^(f+1):Y):Z):=by rw[AQ,CX];rfl
    rw[q]at d;have hb:65536*2^(f+1)<=65536*2^20:=A0 _ (A7 (by omega) l);have:=aRg f (aOQ f (aHd f (wM f))) (aE m g) z i ⟨b.pr,by omega,by omega,by omega,by omega,sR c.T,by omega⟩;rw[h]at this;rw[e];exact⟨aF (aE m g) 200,j0 c.stp,this⟩
  .simp at a
def aXF(f:Y):PCtr AB:=aHS f (wM f)
def bGt(f:Y):PCtr AB:=aT3 f (aOQ f (aHd f (wM f)))
theorem aYc{n b:Y}(a:Pri n)(c:n%2=1)(d:b%n≠0):b^(n-1)%n=1:=by
 have h1:=a.lt;have:=aOy (jA a) c (t:=(b:Z)) λh=>d (AZ (CS.1 h));have e:=AK.2 (AW this);rw[A3 (by omega) (show(1:Z)<n by omega)]at e;have e2:((b^(n-1)%n:Y):Z)=1:=by rw[AP,CX];exact e
 omega
theorem aOB{n:Y}(a:Pri n):∀(k x:Y),x<n->x^2^k%n=1->x=1\/sL k x n=GE
 |0,x,hx,h=>by
  rw[CU,FR,CQ hx]at h;exact .inl h
 |k+1,x,hx,h=>by
  have h1:=a.lt;rw[CL,Aa,Nat.pow_two,EH]at h;rcases aOB a k (x*x%n) (AU _ (by omega)) h with q|q
  .have b:n ∣ (x-1)*(x+1):=by
    cases x with
    |zero=>simp at q
    |succ y =>
     have e:(y+1)*(y+1)=y*(y+1+1)+1:=by grind
     rw[e]at q;have:=Nat.mod_add_div (y*(y+1+1)+1) n;rw[q]at this;exact⟨(y*(y+1+1)+1)/n,by show y*(y+1+1)=n*((y*(y+1+1)+1)/n);omega⟩
   have hx0:x≠0:=λe=>by rw[e]at q;simp at q
   rcases a.mul b with w|w
   .left;rcases Nat.eq_zero_or_pos (x-1)with z|z
    .omega
    .have:=AL z w;omega
   .right;have:=AL (by omega) w;unfold sL;rw[show x=n-1 by omega];simp
  .right;unfold sL;rw[q,FF]
theorem aM7{n:Y}(c:Pri n)(g:n%2=1)(h2:n<2^128)(b:Y):cF n b=GE:=by
 have h1:=c.lt;have T:=aPT (n:=n-1) (by omega) (by omega);unfold cF;cases a:CI (b%n) 0 with
 |true=>rfl
 |false =>
  have h:b%n≠0:=λe=>by rw[e]at a;simp at a
  rw[Z5,aH3 128 1 (b%n) _ n (by omega) (EO (E7 ..) (by omega)),CZ,<-EH];generalize tz (n-1)=s at *;obtain⟨d,f⟩:=AI T.m;have j:(n-1)/2^s=d:=by rw[f];exact AV d (Nat.two_pow_pos s)
  rw[j];have i:(b^d%n)^2^s%n=1:=by
   rw[<-EH,<-Aa,AY,<-f];exact aYc c g h
  rcases aOB c s _ (AU _ (by omega)) i with q|q
  .rw[q];rfl
  .rw[q,FF]
theorem aJA{n:Y}(a:Pri n)(c:n%2=1)(d:n<2^128):∀l,tW n l=GE
 |[]=>rfl
 |b::r=>by rw[tW,aM7 a c d b,aJA a c d r];rfl
theorem aKp{n:Y}(a:Pri n)(d:n<2^128):∀l,(∀b∈l,1<b)->(2∈l\/n%2=1)->sO n l=GE
 |[],_,h=>by
  have g:=a.lt;rw[sO,aJA a (h.elim (λq=>by simp at q) id) d];simp[CG];exact g
 |b::r,c,h=>by
  by_cases q:n%b=0
  .rw[aH7 q];rcases a.dv b (AI q)with e|e
   .have:=c b (AJ ..);omega
   .rw[e];simp
  .rw[aK6 q];refine aKp a d r (λx f=>c x (AF _ f)) ?_;rcases h with h|h
   .rcases CJ.1 h with e|h
    .subst e;right;omega
    .exact .inl h
   .exact .inr h
theorem aEx{n:Y}(a:Pri n)(b:n<2^128):iI n=GE :=
 aKp a b bH (by decide) (.inl (by decide))
theorem aYp{z:Z}(a:Pri z.toNat)(h2:z<18446744073709551616):isB z=GE:=by
 have h1:=a.lt
 grind [isB,aEx]
theorem aBD(w u v:Z):∀m,(qY w (u,v) m).2=v*aY (2*u) (u*u-w*(v*v)) m/\(qY w (u,v) (m+1)).2=v*aY (2*u) (u*u-w*(v*v)) (m+1)
 |0=>⟨by show(0:Z)=v*0;omega,by show(fD w (1,0) (u,v)).2=v*1;unfold fD;dsimp only;omega⟩
 |m+1=>by
  obtain⟨h1,h2⟩:=aBD w u v m
  grind [fD,qY,aY]
theorem aKH{n p q p' q':Z}(f:n ∣ p-p')(e:n ∣ q-q'):∀m,n ∣ aY p q m-aY p' q' m/\n ∣ aY p q (m+1)-aY p' q' (m+1)
 |0=>⟨⟨0,by show(0:Z)-0=_;omega⟩,0,by show(1:Z)-1=_;omega⟩
 |m+1=>by
  obtain⟨h,g⟩:=aKH f e m;refine⟨g,?_⟩;show n ∣ p*aY p q (m+1)-q*aY p q m-(p'*aY p' q' (m+1)-q'*aY p' q' m);obtain⟨a,ha⟩:=f;obtain⟨b,hb⟩:=e;obtain⟨c,hc⟩:=h;obtain⟨d,hd⟩:=g;refine⟨a*aY p q (m+1)+p'*d-b*aY p q m-q'*c,?_⟩
  grind
theorem wI(a n:Z):n ∣ a-a%n:=⟨a/n,by have:=FP a n;omega⟩
structure PlusOk (p P Q:Nat):Prop where
 P1:1<=P
 P2:P<=p-1
 Q1:1<=Q
 Q2:Q<=p-1
 kr:gH ((P:Int)*P-4*Q) p= -1
 whole:rK P Q (p+1) p=0
 part:∀q,Pri q->q ∣ p+1->¬(p:Int) ∣ rK P Q ((p+1)/q) p
theorem aRb{p:Y}(E:Pri p)(G:5<=p):∃P Q,PlusOk p P Q:=by
 have A:=kC E (by omega);have b:=jA E;obtain⟨w,I⟩:=bDs b A;have r:=gW (show 1<=p+1 by omega);obtain⟨g,M,N,s,_⟩:=aFW b A I ((iF (p+1)).map S) (by
  rw[FX,DA];refine B6 (λ{x y} z hy hxy e=>?_) r.pw;obtain⟨a,rfl,_⟩:=r.mem x z;omega) (λq o=>by
  obtain⟨x,z,rfl⟩:=BN.1 o;obtain⟨a,rfl,i,f,_⟩:=r.mem x z;rw[Z8];exact⟨i,f⟩)
 have s:∀q,Pri q->q ∣ p+1->¬ReP p (qY w g ((p+1)/q)):=λq i f=>s q (BN.2 ⟨q,r.all q i f,Z8 q⟩);obtain⟨u,v⟩:=g;have t:Pri 2:=aMN (by decide);have m:2 ∣ p+1:=AI (by omega);have hv:¬(p:Z) ∣ v:=λh=>s 2 t m (u5 (x:=(u,v)) h _);have J:¬(p:Z) ∣ u:=λh=>by
  have hsq:ReP p (qY w (u,v) 2):=by
   show(p:Z) ∣ (fD w (fD w (1,0) (u,v)) (u,v)).2;rw[aUg];exact AC (A2 h) (AA h)
  have key:∀q,Pri q->q ∣ p+1->(p+1)/q%2=0->W:=λq i f l=>by
   obtain⟨k,K⟩:=AI l
   grind [qL,u5]
  by_cases C:(p+1)/2%2=0
  .exact key 2 t m C
  .obtain⟨q,o,F⟩:=sJ ((p+1)/2) ((p+1)/2) (Z0 _) (by omega);have hq2:¬q ∣ 2:=λh=>by
    have:=o.eq_of_dvd t h
    grind [AZ]
   obtain⟨k,K⟩:=F;have e:p+1=q*(2*k):=by
    grind
   refine key q o ⟨2*k,e⟩ ?_
   grind [AV,ER]
 have hn2:¬(p:Z) ∣ 2:=i9 (n:=p) (k:=2) (show 1<=2 by omega) (by omega);have D:¬(p:Z) ∣ 2*u:=λh=>(rQ b h).elim hn2 J;have L:¬(p:Z) ∣ u*u-w*(v*v):=M;have j:∀a:Z,¬(p:Z) ∣ a->1<=a%p/\a%p<=p-1:=λa h=>by
  have i:=BS a (show(p:Z)≠0 by omega);have f:=BV a (show(0:Z)<p by omega);omega
 obtain⟨a1,a2⟩:=j _ D;obtain⟨b1,b2⟩:=j _ L;have eP:(((2*u%p).toNat:Y):Z)=2*u%p:=by omega
 have eQ:((((u*u-w*(v*v))%p).toNat:Y):Z)=(u*u-w*(v*v))%p:=by omega
 have B:=aKH (wI (2*u) p) (wI (u*u-w*(v*v)) p);refine⟨(2*u%p).toNat,((u*u-w*(v*v))%p).toNat,by omega,by omega,by omega,by omega,?_,?_,λq i f h=>?_⟩
 .rw[eP,eQ,aAh _ A];have H:tV p (2*u%p*(2*u%p)-4*((u*u-w*(v*v))%p))=tV p (2*v*(2*v)*w):=by
   refine aJV (AK.2 (AW ?_));obtain⟨c,B⟩:=wI (2*u) p;obtain⟨d,F⟩:=wI (u*u-w*(v*v)) p;have H:2*u%p=2*u-p*c:=by omega
   have O:(u*u-w*(v*v))%p=u*u-w*(v*v)-p*d:=by omega
   rw[H,O];exact⟨-4*u*c+p*(c*c)+4*d,by grind⟩
  have h2v:¬(p:Z) ∣ 2*v:=λh=>(rQ b h).elim hn2 hv;have l:=aHK (2*v) p
  grind [aAh,aHy,f8,dR]
 .rw[eP,eQ,aHO];have i:(p:Z) ∣ v*aY (2*u) (u*u-w*(v*v)) (p+1):=by rw[<-(aBD w u v (p+1)).1];exact N
  have f:=(rQ b i).resolve_left hv;have l:=(B (p+1)).1;refine AW ?_;have:=B9 f l
  grind
 .rw[eP,eQ,aHO]at h;have l:=(B ((p+1)/q)).1;have C:(p:Z) ∣ aY (2*u%p) ((u*u-w*(v*v))%p) ((p+1)/q):=by
   have:=AC h (wI (aY (2*u%p) ((u*u-w*(v*v))%p) ((p+1)/q)) p)
   grind
  have G:=AC l C;rw[C9]at G;refine s q i f ?_;show(p:Z) ∣ (qY w (u,v) ((p+1)/q)).2
  grind [aBD,AA]
theorem aML{n P Q:Y}(h5:5<=n)(P1:1<=P)(P2:P<=n-1)(Q1:1<=Q)(Q2:Q<=n-1)(d:Y):∃k,d<=k/\k<d+14*(n*n)+14*n+14/\1+k%(n-1)=P/\(1+k/7)%n=Q:=by
 obtain⟨s,r,hsr,g⟩:∃s r,P-1=7*s+r/\r<7:=⟨(P-1)/7,(P-1)%7,by omega,by omega⟩;obtain⟨m,rfl⟩:∃m,n=m+1:=⟨n-1,by omega⟩;rw[BT]at *
 let b:=(s+(m-1)*Q+1)%m
 have hi0:b<m:=AU _ (by omega)
 let M:=7*(m+1)*m
 have h:0<M:=DM (by omega) (by omega)
 let t:=d/M+1
 have ht1:d<M*t:=by
  have:=Nat.lt_div_mul_add (a:=d) h
  grind
 have ht2:M*t<=d+M:=by
  have f:=Nat.div_mul_le_self d M
  grind
 obtain⟨c,hc⟩:∃c,s+(m-1)*Q+1=m*c+b:=⟨(s+(m-1)*Q+1)/m,(DY _ _).symm⟩;have j:7*(Q-1)+r+7*(m+1)*(b+m*t)=7*((Q-1)+(m+1)*(b+m*t))+r:=by grind
 refine⟨7*(Q-1)+r+7*(m+1)*(b+m*t),?_,?_,?_,?_⟩
 .grind
 .have e:7*(m+1)*(b+m*t)=7*(m+1)*b+M*t:=by show _=_+7*(m+1)*m*t;grind
  have f:7*(m+1)*b<=7*(m+1)*m:=A0 _ (by omega)
  grind
 ·
  have e:7*(Q-1)+r+7*(m+1)*(b+m*t)+m*(7*c)=(P-1)+m*(7*(Q+b+(m+1)*t)):=by
   obtain⟨Q',rfl⟩:∃Q',Q=Q'+1:=⟨Q-1,by omega⟩;obtain⟨m',rfl⟩:∃m',m=m'+1:=⟨m-1,by omega⟩
   grind
  have f:=congrArg (·%m) e;simp only[D2]at f;rw[f,CQ (by omega)];omega
 .rw[j,E6 (by omega),EX g,CC,show 1+(Q-1+(m+1)*(b+m*t))=Q+(m+1)*(b+m*t) by omega,D2];exact CQ (by omega)
def cI(a:O Z):O Stp->Prop
 |[]=>E
 |s::r=>bW a s=GE/\cI (a++[s.n]) r
theorem aBj:∀(L:O Stp) (a:O Z) (i:Y),oX a L i=GD↔cI a L
 |[],_,_=>by simp[oX,cI]
 |s::r,a,i=>by
  unfold oX cI;cases h:bW a s with
  |true=>rw[Z6,aBj r];simp
  |false=>rw[Z5];simp
theorem wP:∀(L T:O Stp) (a:O Z),cI a (L++T)↔cI a L/\cI (a++nums L) T
 |[],T,a=>by
  show cI a T↔E/\cI (a++[]) T;simp
 |s::r,T,a=>by
  show(bW a s=GE/\cI (a++[s.n]) (r++T))↔(bW a s=GE/\cI (a++[s.n]) r)/\cI (a++(s.n::nums r)) T;rw[wP r T,BL,and_assoc];rfl
theorem l5{L:O Stp}{s:Stp}(h:cI [] L)(a:bW (nums L) s=GE):cI [] (L++[s]):=(wP L [s] []).2 ⟨h,by rw[DP];exact⟨a,trivial⟩⟩
theorem aGL(a:O Z):∀(I q acc:O Z),I.length=q.length->(∀k,k<q.length->0<=I.getD k 0/\I.getD k 0<a.length/\a.getD (I.getD k 0).toNat 0=q.getD k 0)->(acc++q).Nodup->bZ a I acc=GC (acc++q)
 |[], [],acc,_,_,_=>by rw[EZ];rfl
 |[],_::_,_,h,_,_=>by simp at h
 |_::_, [],_,h,_,_=>by simp at h
 |i::I,x::q,acc,g,h,f=>by
  obtain⟨d,c,b⟩:=h 0 (by simp);have d:0<=i:=d;have c:i<a.length:=c;have b:a.getD i.toNat 0=x:=b;rw[pK,b];have e:acc.elem x=GG:=by
   grind
  rw[Y0 d,Y0 c,e];show bZ a I (acc++[x])=_;rw[aGL a I q (acc++[x]) (by simpa using g) (λk j=>h (k+1) (by simpa using j)) (by rw[BL];exact f),BL];rfl
theorem aQZ(L:O Stp):(nums L).length=L.length:=by simp[nums]
theorem aQY{L:O Stp}{j:Y}(h:j<L.length):(nums L).getD j 0=(L.getD j aB).n:=by simp[nums,AD,h]
theorem aGQ{n:Y}(h:1<=n):(aL n).Nodup:=by
 rw[gI];exact(gW h).pw.imp λhxy e=>by omega
theorem aFV{L M:O Stp}{w N:Y}{I:O Z}(b:1<=N)(A:AddOk L M w (aL N) I):bZ (nums M) I []=GC (aL N):=by
 have:=aGL (nums M) I (aL N) [] A.len (λk a=>by
  obtain⟨h1,h2,h3,_⟩:=A.at_ k a
  grind [aQZ,aQY,aGQ]) (by rw[DP];exact aGQ b)
 simp_all
theorem aK8{N:Y}(h:1<=N):cE (N:Z) (aL N)=GC (N:Z):=by rw[gI];exact aK9 h
theorem zG(n:Y):nF GG (aA n)=GE:=oV (n:Z)
theorem aFk(b:O Z){z:Z}(c:Pri z.toNat)(h:z<65536):bW b (b8 z)=GE:=by
 have h1:=c.lt;have a:=aVN (z:=z) (by omega);have d:(b8 z).can=GE:=oV z;unfold bW;rw[d,a,Y0 (show 1<z by omega)];show(GE&&(GE&&(tU (b8 z).n 0 0 (noC (b8 z)))))=GE;rw[a,show noC (b8 z)=GE from rfl]
 grind [tU,aYp]
theorem aCW{n:Y}(b:Pri n){a:Z}(h:¬(n:Z) ∣ a):gcd a n=1:=f8 (jA b) h
theorem aK4(x n:Z):∀m:Y,(x%n)^m%n=x^m%n
 |0=>by rw[DF,DF]
 |m+1=>by rw[BG,BG,D8,aK4 x n m,C4 _ (EB n),<-D8]
theorem aKM{n:Y}(d:Pri n)(e:3<=n):∀q:O Z,(∀x∈q,BasOk n x/\Pri x.toNat/\x.toNat ∣ n-1)->aBF n (q.map λq=>(hZ n q:Z)) q=GE
 |[],_=>rfl
 |x::r,h=>by
  obtain⟨B,a,b⟩:=h x (AJ ..);have f:=a.lt;obtain⟨p,rfl⟩:∃p:Y,x=p:=⟨x.toNat,by omega⟩;rw[Z8]at a b f;obtain⟨k,hk⟩:=b;have g:(((n:Z)-1)/(p:Z)).natAbs=k:=by
   grind [BI,A5,AV]
  have y:=B.yes;have h3:=B.lo;have h4:=B.hi;show((G (1<(hZ n p:Z))&&G ((hZ n p:Z)<=(n:Z)-1))&&((G (gcd (gX (hZ n p:Z) (((n:Z)-1)/(p:Z)).natAbs n-1) n=1)&&G (gX (gX (hZ n p:Z) (((n:Z)-1)/(p:Z)).natAbs n) (p:Z).natAbs n=1))&&aBF n (r.map λq=>(hZ n q:Z)) r))=GE;rw[g]at y⊢;have ho:=kC d (by omega);have hb:¬(n:Z) ∣ (hZ n p:Z):=i9 (by omega) (by omega);have j:gX (gX (hZ n p:Z) k n) (p:Z).natAbs n=1:=by
   rw[A5];have:gX (gX (hZ n p:Z) k n) p n=gX (hZ n p:Z) (n-1) n:=by
    grind [gX,aK4,Int.pow_mul,AY]
   grind [aCl,aOy,jA]
  have i:gcd (gX (hZ n p:Z) k n-1) n=1:=by
   refine aCW d λb=>?_;have l1:0<=gX (hZ n p:Z) k n:=BS _ (by omega);have l2:gX (hZ n p:Z) k n<n:=BV _ (by omega);obtain⟨c,hc⟩:=b;have c0:c=0:=by
    rcases EV c 0 with w|w|w
    .have:(n:Z)*c<=n*(-1):=Z7 (by omega) (by omega);omega
    .exact w
    .have:(n:Z)*1<=n*c:=Z7 (by omega) (by omega);omega
   grind
  rw[j,i,aKM d e r λx a=>h x (AF _ a),Y0 (show 1<(hZ n p:Z) by omega),Y0 (show(hZ n p:Z)<=(n:Z)-1 by omega)];rfl
theorem aKU{n:Y}(ho:n%2=1)(h:3<=n):kK (n:Z) 2=GE:=Y0 ⟨by omega,by omega⟩
theorem aT2{n w:Y}(c:Pri n)(e:3<=n)(hn2:n<1099511627776){L M:O Stp}{I:O Z}(A:AddOk L M w (aL (n-1)) I):bW (nums M) (yK n I ((aL (n-1)).map λq=>(hZ n q:Z)))=GE:=by
 have d:=kC c (by omega);unfold bW;rw[aGz,show(yK n I ((aL (n-1)).map λq=>(hZ n q:Z))).can=GE from zG n,Y0 (show(1:Z)<n by omega),AS,AS];show(match bZ (nums M) I []with|none=>GG|some q=>yJ (yK n I ((aL (n-1)).map λq=>(hZ n q:Z))).n ((aL (n-1)).map λq=>(hZ n q:Z)) GE q)=GE;rw[aFV (by omega) A,aGz];dsimp only;unfold yJ;have f:(n:Z)-1=((n-1:Y):Z):=by omega
 rw[aKU d (by omega),f,aK8 (by omega)];dsimp only;have b:(n:Z)<((n-1:Y):Z)*((n-1:Y):Z):=by
  rw[<-AQ];have:=AR (show 2<=n-1 by omega) (Z0 (n-1));omega
 rw[Y0 b,Y0 (show((aL (n-1)).map λq=>(hZ n q:Z)).length=(aL (n-1)).length from DR ..),aKM c e _ λx a=>by
  have h1:=(rP (by omega) d x a).1;rw[gI]at a;obtain⟨p,rfl,h2,h3,_⟩:=(gW (show 1<=n-1 by omega)).mem x a
  grind [aSn,Z8]]
 rfl
theorem xS{pr:O Stp->Z->O Stp}:∀(q:O Z) (L:O Stp),(∀x∈q,∀L,cI [] L->cI [] (pr L x))->cI [] L->cI [] (qM pr L q)
 |[],_,_,h=>h
 |x::r,L,a,h=>xS r (pr L x) (λy b=>a y (AF _ b)) (a x (AJ ..) L h)
theorem aEJ{f n:Y}(d:Pri n)(e:3<=n)(hn2:n<1099511627776)(b:f<=20)(g:∀x∈aL (n-1),Fits f x){L:O Stp}(a:∀x∈aL (n-1),∀L,cI [] L->cI [] (fF f L x))(h:cI [] L):cI [] (aFI (fF f) L n) :=
 l5 (xS _ L a h) (aT2 d e hn2 (vN (fF f) (aL (n-1)) L λx c L=>pN f L x b (g x c)))
theorem qC:∀(f:Y) (L:O Stp) (z:Z),f<=20->Fits f z->cI [] L->cI [] (fF f L z)
 |0,L,z,_,h,a=>l5 a (aFk _ h.pr (by have:=h.lt;omega))
 |f+1,L,z,g,h,a=>by
  unfold fF;split
  .rename_i b;exact l5 a (aFk _ h.pr b)
  .rename_i b;have i:=h.lt;have j:(65536*2^(f+1):Z)=((65536*2^(f+1):Y):Z):=by rw[AQ,CX];rfl
   rw[j]at i;have h3:65536*2^(f+1)<=65536*2^20:=A0 _ (A7 (by omega) g);have e:=kC h.pr (by omega);have c:=v6 (f:=f) (n:=z.toNat) (by omega) e (by omega);exact aEJ h.pr (by omega) (by omega) (by omega) c (λx d L a=>qC f L x (by omega) (c x d) a) a
theorem aK1{n:Y}(hp:Pri n){a b:Z}:∀q:O Z,(∀x∈q,¬(n:Z) ∣ rK a b (((n:Z)+1)/x).natAbs n)->aAv n a b q=GE
 |[],_=>rfl
 |x::r,h=>by
  show(G (gcd (rK a b (((n:Z)+1)/x).natAbs n) n=1)&&aAv n a b r)=GE
  simp_all [aK1,AF,aCW,AJ]
theorem aUQ{n w P Q k:Y}(c:Pri n)(g:5<=n)(h:PlusOk n P Q)(m:1+k%(n-1)=P)(l:(1+k/7)%n=Q){L M:O Stp}{I:O Z}(A:AddOk L M w (aL (n+1)) I):bW (nums M) (fS n k I)=GE:=by
 have f:=kC c (by omega);have d:(fS n k I).n=(n:Z):=aGz n I [];obtain⟨P1,P2,Q1,Q2,kr,whole,part⟩:=h;unfold bW;rw[d,show(fS n k I).can=GE from zG n,Y0 (show(1:Z)<n by omega),AS,AS];show(match bZ (nums M) I []with|none=>GG|some q=>yN (fS n k I).n [plP n k,plQ n k] GE q)=GE;rw[aFV (by omega) A,d];dsimp only;unfold yN;have j:(n:Z)+1=((n+1:Y):Z):=by omega
 rw[aKU f (by omega),j,aK8 (by omega)];dsimp only;have a:(n:Z)<(((n+1:Y):Z)-1)*(((n+1:Y):Z)-1):=by
  have e:((n+1:Y):Z)-1=(n:Z):=by omega
  rw[e,<-AQ];have:=AR g (Z0 n);omega
 have eP:plP n k=(P:Z):=by unfold plP;rw[m]
 have eQ:plQ n k=(Q:Z):=by unfold plQ;rw[l]
 rw[Y0 a,eP,eQ];show(GE&&(GE&&(GE&&aUP n (aL (n+1)) [(P:Z),(Q:Z)])))=GE;have i:((n:Z)+1).natAbs=n+1:=by omega
 show(GE&&(GE&&(GE&&((G ((0:Z)<=P)&&G ((P:Z)<n))&&((G ((0:Z)<=Q)&&G ((Q:Z)<n))&&(G (gH ((P:Z)*P-4*Q) n= -1)&&(G (rK P Q ((n:Z)+1).natAbs n=0)&&aAv n P Q (aL (n+1)))))))))=GE;rw[i,whole,kr,Y0 (show(0:Z)<=P by omega),Y0 (show(P:Z)<n by omega),Y0 (show(0:Z)<=Q by omega),Y0 (show(Q:Z)<n by omega),aK1 c _ λx b=>by
  rw[gI]at b;obtain⟨p,rfl,h2,h3,_⟩:=(gW (show 1<=n+1 by omega)).mem x b
  grind]
 rfl
theorem bAX(f:Y)(h:POk AB 48 18 (u9 f))(L M:O Stp)(n m K:Y)(idx:O Z)(a:_)(A:a=(n:Z))(d:_)(z:d=(D M:Z))(o:_)(x:o=(aL (S (X GH (a +1)))))(p:_)(B:p=(jV f (aE (D L) (aF L 200)) o))(g:_)(w:g=(D idx))(e:_)(v:e=λ(i_1:PuS)=>(iL (PuS.b i_1) 200))(r:_)(u:r=λ(i:PuS)=>(X GH (1+X GH (GP (PuS.k i:Z) 7))))(c:_)(t:c=(bJ idx))(s:_)(C:s=λ(i_1:PuS)=>(News.rows 18 1 (aN [MV.st [MV.int GF (3:Z),MV.big a 64,MV.sl 1 g c,MV.sl 2 (D (PuS.b i_1)) (e i_1),MV.st [MV.big 0 0,MV.big 0 0,MV.big 0 0],MV.st [MV.big 0 0,MV.big 0 0,MV.bool GG],MV.big 0 0]])))(l:_)(y:l=λ(i_1:PuS)=>(D M+AH (s i_1))):((0<= a/\a <18446744073709551616)/\(D L<=D L/\addP f (D L) (aF L 200) (X GH (a +1)))/\(∃i,PuI m K i/\(0=0/\a = a/\0=0/\(m:Z)=(PuS.k i:Z)/\E)/\((0=0/\D p =D M)/\E)/\(D p =D M+D (PuS.ex i)/\LeFun (D p) (aF p 200) (aF (M++PuS.ex i) 200))/\((3:Z)=3/\aD a a 64 64/\(1=1/\D o =D idx/\LeFun (D o) (bJ (ixH f (aE (D L) (aF L 200)) o)) c)/\(AE GD 0 0=AE GD 0 0/\D (PuS.b i)=0)/\(aD 0 0 0 0/\aD 0 0 0 0/\aD 0 0 0 0/\E)/\(aD 0 0 0 0/\aD 0 0 0 0/\GG=GG/\E)/\aD 0 0 0 0/\E)/\E)/\∀(i:PuS),PuI m K i->((X GH (a-1)=0->W)/\(0<=X GH (1+H (PuS.k i:Z) (X GH (a-1)))/\X GH (1+H (PuS.k i:Z) (X GH (a-1)))<18446744073709551616)/\((7:Z)=0->W)/\(a =0->W)/\(0<=H (r i) a/\H (r i) a <18446744073709551616)/\∃i_1,CuI n (PuS.k i:Z) i_1/\(0=0/\a = a/\0=0/\(PuS.k i:Z)=(PuS.k i_1:Z)/\E)/\((0=0/\D M=D M)/\E)/\(D M+D (PuS.ex i)=D M+D (PuS.ex i_1)/\LeFun (D M+D (PuS.ex i)) (aF (M++PuS.ex i) 200) (aF (M++PuS.ex i_1) 200))/\((3:Z)=3/\aD a a 64 64/\(1=1/\D idx=D idx/\LeFun g c c)/\(2=2/\2=D (PuS.b i_1)/\LeFun 2 (aN [MV.big (X GH (1+H (PuS.k i:Z) (X GH (a-1)))) 64,MV.big (H (r i) a) 64]) (e i_1))/\(aD 0 0 0 0/\aD 0 0 0 0/\aD 0 0 0 0/\E)/\(aD 0 0 0 0/\aD 0 0 0 0/\GG=GG/\E)/\aD 0 0 0 0/\E)/\E)/\∀(i_1:PuS),CuI n (PuS.k i:Z) i_1->(D M<=D M+D (PuS.ex i_1)/\(l i_1) *288<=140737488355328)/\(D M+AH (s i_1) <=D M+1/\0<= d/\d <(↑ (l i_1) :Z)/\(okL (l i_1) λq=>bif AO q (D M)then aF (M++PuS.ex i_1) 200 q else aN [MV.st [MV.int GF (3:Z),MV.big a 64,MV.sl 1 g c,MV.sl 2 (D (PuS.b i_1)) (e i_1),MV.st [MV.big 0 0,MV.big 0 0,MV.big 0 0],MV.st [MV.big 0 0,MV.big 0 0,MV.bool GG],MV.big 0 0]] (q-D M))/\fineL (aE (l i_1) λq=>bif AO q (D M)then aF (M++PuS.ex i_1) 200 q else aN [MV.st [MV.int GF (3:Z),MV.big a 64,MV.sl 1 g c,MV.sl 2 (D (PuS.b i_1)) (e i_1),MV.st [MV.big 0 0,MV.big 0 0,MV.big 0 0],MV.st [MV.big 0 0,MV.big 0 0,MV.bool GG],MV.big 0 0]] (q-D M)) (S d))/\bif bW (nums (P (S d) (aE (l i_1) λq=>bif AO q (D M)then aF (M++PuS.ex i_1) 200 q else aN [MV.st [MV.int GF (3:Z),MV.big a 64,MV.sl 1 g c,MV.sl 2 (D (PuS.b i_1)) (e i_1),MV.st [MV.big 0 0,MV.big 0 0,MV.big 0 0],MV.st [MV.big 0 0,MV.big 0 0,MV.bool GG],MV.big 0 0]] (q-D M)))) (F (aE (l i_1) λq=>bif AO q (D M)then aF (M++PuS.ex i_1) 200 q else aN [MV.st [MV.int GF (3:Z),MV.big a 64,MV.sl 1 g c,MV.sl 2 (D (PuS.b i_1)) (e i_1),MV.st [MV.big 0 0,MV.big 0 0,MV.big 0 0],MV.st [MV.big 0 0,MV.big 0 0,MV.bool GG],MV.big 0 0]] (q-D M)) (S d) aB)then ((0=0/\D M+AH (s i_1) =D (M++[fS n K idx]))/\E)/\(D (M++[fS n K idx])<=D M+1/\LeFun (D (M++[fS n K idx])) (λq=>bif AO q (D M)then aF (M++PuS.ex i_1) 200 q else aN [MV.st [MV.int GF (3:Z),MV.big a 64,MV.sl 1 g c,MV.sl 2 (D (PuS.b i_1)) (e i_1),MV.st [MV.big 0 0,MV.big 0 0,MV.big 0 0],MV.st [MV.big 0 0,MV.big 0 0,MV.bool GG],MV.big 0 0]] (q-D M)) (aF (M++[fS n K idx]) 200))/\d = d else (0<= d/\d <=(↑ (l i_1) :Z))/\∃j,PuI m K j/\((0=0/\a = a/\0=0/\X GH ((PuS.k i_1:Z)+1)=(PuS.k j:Z)/\E)/\((0=0/\S d =D M)/\E)/\(D M+1=D M+D (PuS.ex j)/\LeFun (D M+1) (λq=>bif AO q (D M)then aF (M++PuS.ex i_1) 200 q else aN [MV.st [MV.int GF (3:Z),MV.big a 64,MV.sl 1 g c,MV.sl 2 (D (PuS.b i_1)) (e i_1),MV.st [MV.big 0 0,MV.big 0 0,MV.big 0 0],MV.st [MV.big 0 0,MV.big 0 0,MV.bool GG],MV.big 0 0]] (q-D M)) (aF (M++PuS.ex j) 200))/\((3:Z)=3/\aD a a 64 64/\(1=1/\D idx=D idx/\LeFun g c c)/\(2=2/\D (PuS.b i_1)=D (PuS.b j)/\LeFun (D (PuS.b i_1)) (e i_1) (iL (PuS.b j) 200))/\(aD 0 0 0 0/\aD 0 0 0 0/\aD 0 0 0 0/\E)/\(aD 0 0 0 0/\aD 0 0 0 0/\GG=GG/\E)/\aD 0 0 0 0/\E)/\E)/\K+1-PuS.k j<K+1-PuS.k i)=nP (aTn [mA,vS] [.pt (aOR f h)] fzU (aNp n m K M idx) (bGH n M idx)) F6 18 [.int .u64 n,.int .u64 m] L.length (aF L 200) (M++[fS n K idx]).length (aF (M++[fS n K idx]) 200) (.int .i64 M.length):=by subst A z x B w v u t C y;kernel_rfl
theorem aZM(f:Y)(h:POk AB 48 18 (u9 f))(L M:GI Stp)(n c K:Y)(idx:GI Z)(n3:3<=n)(B:n<1152921504606846976)(r:c<=K)(hK6:K<1152921504606846976)(y:okT L)(G:∀x∈aL (n+1),Fits f x)(t:f<=20)(hl:L.length+2*wtL (aL (n+1))<=900000)(P:M=jV f L (aL (n+1)))(i:idx=ixH f L (aL (n+1)))(A:AddOk L M (wtL (aL (n+1))) (aL (n+1)) idx)(q:idx.length<=90)(H:fineL M M.length)(hy:bW (nums M) (fS n K idx)=GE)(m:∀k,c<=k->k<K->bW (nums M) (fS n k idx)=GG) :
  ∃E:Env AB,nP E F6 18 [.int .u64 n,.int .u64 c] L.length (aF L 200) (M++[fS n K idx]).length (aF (M++[fS n K idx]) 200) (.int .i64 M.length):=by
 refine⟨aTn [mA,vS] [.pt (aOR f h)] fzU (aNp n c K M idx) (bGH n M idx),?_⟩;rw[<-bAX f h L M n c K idx _ rfl _ rfl _ rfl _ rfl _ rfl _ rfl _ rfl _ rfl _ rfl _ rfl];have W:X GH ((n:Z)+1)=((n+1:Y):Z):=xF (a:=n+1) (by omega);have V:X GH ((n:Z)-1)=((n-1:Y):Z):=by rw[show(n:Z)-1=((n-1:Y):Z) by omega];exact xF (by omega)
 rw[W,V,Z8,qJ];have hhi:=A.hi;have okM:okT M:=⟨by omega,A.ok y.ok⟩;have p:(aL (n+1)).length=idx.length:=A.len.symm;rw[<-P,<-i,p];refine⟨by omega,⟨Z0 _,by omega,by omega,by rw[Z8];exact G,t,sR y,by rw[Z8];omega⟩,⟨⟨c, [], []⟩,⟨Z0 c,r⟩,⟨rfl,rfl,rfl,rfl,⟨⟩⟩,⟨⟨rfl,rfl⟩,⟨⟩⟩,⟨rfl,by
  grind [aF,AG]⟩,⟨rfl,bQ,⟨rfl,rfl,AG⟩,⟨rfl,rfl⟩,⟨bQ,bQ,bQ,⟨⟩⟩,⟨bQ,bQ,rfl,⟨⟩⟩,bQ,⟨⟩⟩,⟨⟩⟩,λs I=>?_⟩
 obtain⟨k,ex,b⟩:=s;obtain⟨u,C⟩:=I;dsimp only at u C⊢;have U:X GH ((1:Z)+tmod (k:Z) ((n-1:Y):Z))=plP n k:=by
  rw[D0 (by omega),<-AP];exact xF (a:=1+k%(n-1)) (by have:=AU k (show 0<n-1 by omega);omega)
 have T:X GH (GP (k:Z) 7)=((k/7:Y):Z):=by
  rw[BM (by omega)];exact xF (a:=k/7) (by omega)
 have S:X GH ((1:Z)+((k/7:Y):Z))=((1+k/7:Y):Z):=xF (a:=1+k/7) (by omega);have R:tmod ((1+k/7:Y):Z) (n:Z)=plQ n k:=by
  rfl
 rw[U,T,S,R];have O:0<=plP n k/\plP n k<18446744073709551616:=by
  unfold plP;have:=AU k (show 0<n-1 by omega);omega
 have N:0<=plQ n k/\plQ n k<18446744073709551616:=by
  unfold plQ;have:=AU (1+k/7) (show 0<n by omega);omega
 refine⟨⟨by omega,O,by omega,by omega,N,⟨k,ex, [plP n k,plQ n k]⟩,⟨rfl,rfl⟩,⟨rfl,rfl,rfl,rfl,⟨⟩⟩,⟨⟨rfl,rfl⟩,⟨⟩⟩,⟨rfl,AG⟩,⟨rfl,bQ,⟨rfl,rfl,AG⟩,⟨rfl,rfl,LeFun.of_le λj l=>?_⟩,⟨bQ,bQ,bQ,⟨⟩⟩,⟨bQ,bQ,rfl,⟨⟩⟩,bQ,⟨⟩⟩,⟨⟩⟩,λF J=>?_⟩
 .match j,l with
  |0,_=>exact⟨rfl,.inl (by omega)⟩
  |1,_=>exact⟨rfl,.inl (by omega)⟩
 obtain⟨k',ex',b'⟩:=F;obtain⟨D,v⟩:=J;dsimp only at D v⊢;have o:k'=k:=by omega
 subst o;subst v;have hv:isOk (plV n idx [plP n k',plQ n k']):=bEE (FK B (by decide)) q (show 2<=1000 by omega);have w:=aZL n k' idx;have d:=aBS M ex' (plV n idx [plP n k',plQ n k']);rw[w]at d;have e:=aYJ (ex:=ex') okM hv (by omega);have g:=aHh (M:=M) (ex:=ex') hv.stp w;have z:AH (News.rows 18 1 (aN [plV n idx [plP n k',plQ n k']]))=1:=rfl;unfold aBb plV at d e g;unfold plV at z;rw[z,Z8,d,aFl M,List.take_left' rfl];have hlen:(M++[fS n k' idx]).length=M.length+1:=by simp
 refine⟨by omega,⟨by omega,by omega,by omega,e,?_⟩,?_⟩
 .exact⟨λj l=>by
   have:(M++[fS n k' idx]).getD j aB=M.getD j aB:=by rw[AD,AD,BD l]
   rw[this];exact H.h j l⟩
 by_cases hkK:k'=K
 .simp_all
 .rw[m k' u (by omega),Z5];have Q:X GH ((k':Z)+1)=((k'+1:Y):Z):=xF (a:=k'+1) (by omega);exact⟨by omega,⟨k'+1, [fS n k' idx], [plP n k',plQ n k']⟩,⟨by show c<=k'+1;omega,by show k'+1<=K;omega⟩,⟨⟨rfl,rfl,rfl,Q,⟨⟩⟩,⟨⟨rfl,rfl⟩,⟨⟩⟩,⟨rfl,g⟩,⟨rfl,bQ,⟨rfl,rfl,AG⟩,⟨rfl,rfl,AG⟩,⟨bQ,bQ,bQ,⟨⟩⟩,⟨bQ,bQ,rfl,⟨⟩⟩,bQ,⟨⟩⟩,⟨⟩⟩,by show K+1-(k'+1)<K+1-k';omega⟩
theorem aU2{N:Y}(hN:2<=N)(he:N%2=0):∀x∈aL N,Pri x.toNat/\2<=x/\2*x<=max 4 (N:Y):=λx a=>by
 have:=rP (n:=N+1) (by omega) (by omega) x (by rw[BT];exact a)
 simp_all
theorem aBu{f N:Y}(c:2<=N)(b:N%2=0)(hf:N<65536*2^(f+1)):∀x∈aL N,Fits f x:=λx a=>by
 obtain⟨e,d,h3⟩:=aU2 c b x a;refine⟨e,d,?_⟩
 grind
def aEQ(n a:Y)(M:O Stp)(idx:O Z):Y:=AT (⟨srF (λk=>bW (nums M) (fS n k idx)) 1125899906842624 a,rfl⟩:∃r,r=srF (λk=>bW (nums M) (fS n k idx)) 1125899906842624 a)
theorem aUR(n a:Y)(M:O Stp)(idx:O Z):aEQ n a M idx=srF (λk=>bW (nums M) (fS n k idx)) 1125899906842624 a:=AN (⟨srF (λk=>bW (nums M) (fS n k idx)) 1125899906842624 a,rfl⟩:∃r,r=srF (λk=>bW (nums M) (fS n k idx)) 1125899906842624 a)
def aGN(f:Y)(L:O Stp)(n a:Y):O Stp:=jV f L (aL (n+1))++[fS n (aEQ n a (jV f L (aL (n+1))) (ixH f L (aL (n+1)))) (ixH f L (aL (n+1)))]
def rO(f:Y)(L:O Stp)(n a:Y):O Stp:=AT (⟨aGN f L n a,rfl⟩:∃r,r=aGN f L n a)
theorem aK2(f:Y)(L:O Stp)(n a:Y):rO f L n a=aGN f L n a:=AN (⟨aGN f L n a,rfl⟩:∃r,r=aGN f L n a)
structure plsP (f m:Nat) (g:Nat->MV) (n fr:Int):Prop where
 pr:Pri n.toNat
 n5:5<=n
 n6:n<4194304
 lt:n.toNat+1<65536*2^(f+1)
 f0:0<=fr
 f6:fr<1099511627776
 f20:f<=20
 ok:okL m g
 fine:fineL (aE m g) m
 len:m+2*AM (n.toNat+1)<=900000
def aIK(f:Y):O MV->Y->(Y->MV)->C (OProp×Y×(Y->MV)×MV)
 |[.int .u64 n,.int .u64 a],m,g=>GC (GC (plsP f m g n a),(rO f (aE m g) n.toNat a.toNat).length,aF (rO f (aE m g) n.toNat a.toNat) 200,.int .i64 (((rO f (aE m g) n.toNat a.toNat).length:Z)-1))
 |_,_,_=>GD
theorem aGO{f n:Y}(b:Pri n)(h5:5<=n)(a:n+1<65536*2^(f+1))(f20:f<=20)(L:O Stp):AddOk L (jV f L (aL (n+1))) (wtL (aL (n+1))) (aL (n+1)) (ixH f L (aL (n+1))):=by
 have ho:=kC b (by omega);have hfits:=aBu (f:=f) (show 2<=n+1 by omega) (by omega) a
 grind [pU,aBy,vN,fF,aL,pN]
structure PlusEnds (n fr:Nat) (M:List Stp) (idx:List Int):Prop where
 ge:fr<=aEQ n fr M idx
 le:aEQ n fr M idx<=fr+1125899906842624
 yes:bW (nums M) (fS n (aEQ n fr M idx) idx)=true
 no:∀k,fr<=k->k<aEQ n fr M idx->bW (nums M) (fS n k idx)=false
theorem aGP{n w:Y}(d:Pri n)(c:5<=n)(h6:n<4194304){L M:O Stp}{I:O Z}(A:AddOk L M w (aL (n+1)) I)(b:Y):PlusEnds n b M I:=by
 obtain⟨P,Q,a⟩:=aRb d c;obtain⟨k,l,k2,j,i⟩:=aML c a.P1 a.P2 a.Q1 a.Q2 b;have m:=aUQ d c a j i A;have hsq:n*n<=4194304*4194304:=AR (by omega) (by omega);have h:=aI8 (λk=>bW (nums M) (fS n k I)) 1125899906842624 b;have g:=aM3 (λk=>bW (nums M) (fS n k I)) 1125899906842624 b;have f:=aDR (λk=>bW (nums M) (fS n k I)) 1125899906842624 b;have e:=aAZ (λk=>bW (nums M) (fS n k I)) 1125899906842624 b k l (by omega) m;rw[<-aUR]at h g f e;exact⟨h,g,e,f⟩
theorem aGj{L:O Stp}:fineL L L.length↔∀s∈L,s.can=GE/\2<=s.n:=by
 constructor
 .intro h s b;obtain⟨j,a,rfl⟩:=B3.1 b;have:=h.h j a
  simp_all
 .intro h;refine⟨λj a=>?_⟩
  simp_all
theorem aUT(f:Y)(h:POk AB 48 18 (u9 f)):POk AB 27 18 (aIK f):=oK bT Tryz.func27 (aIK f) λms m g p n' g' v d q=>by
 unfold aIK at d;split at d
 .rename_i j f0;simp only[Z1,Z2]at d;obtain⟨rfl,rfl,rfl,rfl⟩:=d;have H:plsP f m g j f0:=q;obtain⟨n,rfl⟩:∃n:Y,j=n:=⟨j.toNat,by have:=H.n5;omega⟩;obtain⟨c,rfl⟩:∃n:Y,f0=n:=⟨f0.toNat,by have:=H.f0;omega⟩;obtain⟨pr,n5,n6,lt,f0,f6,i,ok,fine,len⟩:=H;rw[Z8]at *;rw[Z8]at *;have k:=dG m g;have b:fineL (aE m g) (aE m g).length:=by rw[k];exact fine
  have ho:=kC pr (by omega);have A:=aGO pr (by omega) lt i (aE m g);have a:=aBu (f:=f) (show 2<=n+1 by omega) (by omega) lt;have o:=oP (show 1<=n+1 by omega);rw[<-gI]at o;have hlen:=sQ (aL (n+1)) λx l=>(a x l).two;have h40:AM (n+1)<40:=(C2 (by omega)).2 (by omega);have E:=aGP pr (by omega) (by omega) A c;have hA:=A.len;have:=aZM f h (aE m g) _ n c _ _ (by omega) (by omega) E.ge (by have:=E.le;omega) ok.T a i (by omega) rfl rfl A (by omega) (aGj.2 (A.fine (aGj.1 b))) E.yes E.no;have e:rO f (aE m g) n c=jV f (aE m g) (aL (n+1))++[fS n (aEQ n c (jV f (aE m g) (aL (n+1))) (ixH f (aE m g) (aL (n+1)))) (ixH f (aE m g) (aL (n+1)))]:=aK2 f (aE m g) n c;rw[<-e,k]at this;have r:((jV f (aE m g) (aL (n+1))).length:Z)=((rO f (aE m g) n c).length:Z)-1:=by rw[e];simp
  rw[r]at this;exact⟨aF (aE m g) 200,j0 ok.stp,this⟩
 .simp at d
def bCI(f:Y):PCtr AB:=⟨27,18,aIK f,λargs w=>Tryz.call27 args w,aUT f (aHd f (wM f))⟩
theorem aL3{a d x:Z}(b:gcd d a=1)(h:a ∣ x*d):a ∣ x :=
 uH (by rw[D9];exact b) (by rwa [BK]at h)
theorem aFc{A m d c b a:Z}(hm:1<m)(h:gcd (qG d c b a) m=1):m ∣ fT A m d c b a*qG d c b a-slN A d c b a:=by
 obtain⟨_,_,f⟩:=aGA (by omega) h;have g:m ∣ fT A m d c b a-slN A d c b a*bU (qG d c b a) m:=jX _ _;have e:fT A m d c b a*qG d c b a-slN A d c b a=qG d c b a*(fT A m d c b a-slN A d c b a*bU (qG d c b a) m)+slN A d c b a*(bU (qG d c b a) m*qG d c b a-1):=by grind
 rw[e];exact dv2 g f
theorem bH7{p B s A b d a c:Z}(h:p ∣ s*(a-b)-(c-d))(g:p ∣ d*d-(b*b*b+A*b+B))(f:p ∣ c*c-(a*a*a+A*a+B)):p ∣ (s*(d+c)-(b*b+b*a+a*a+A))*(a-b):=by
 have e:(s*(d+c)-(b*b+b*a+a*a+A))*(a-b)=(d+c)*(s*(a-b)-(c-d))+(-1)*(d*d-(b*b*b+A*b+B))+(1)*(c*c-(a*a*a+A*a+B)):=by grind
 rw[e];exact AC (AC (AA h) (AA g)) (AA f)
theorem aHf{p i h g A d s2 c a b f:Z}(n:p ∣ i-(d*d-c-a))(m:p ∣ d*(a-c)-(f-h))(l:p ∣ s2*(b-a)-(g-f))(k:p ∣ d*(h+f)-(c*c+c*a+a*a+A))(j:p ∣ s2*(f+g)-(a*a+a*b+b*b+A)):p ∣ (s2-d)*(d*(b-c)+h+g)-(b-c)*(b-i):=by
 have e:(s2-d)*(d*(b-c)+h+g)-(b-c)*(b-i)=(-c+b)*(i-(d*d-c-a))+(s2)*(d*(a-c)-(f-h))+(d)*(s2*(b-a)-(g-f))+(-1)*(d*(h+f)-(c*c+c*a+a*a+A))+(1)*(s2*(f+g)-(a*a+a*b+b*b+A)):=by grind
 rw[e];exact AC (AC (AC (AC (AA n) (AA m)) (AA l)) (AA k)) (AA j)
theorem bBK{p b c f g h d a:Z}(h1:p ∣ b-(a*(h-f)-d))(h2:p ∣ a*(g-h)+d+c)(h3:p ∣ g-f):p ∣ c-b:=by
 have e:c-b=(-1)*(b-(a*(h-f)-d))+(1)*(a*(g-h)+d+c)+(-a)*(g-f):=by grind
 simp_all [AC,AA]
theorem bCr{p a g f h c b d s2:Z}(h1:p ∣ d*(b-h)+g+a)(h2:p ∣ d*(c-h)-(f-g))(h3:p ∣ s2*(b-c)-(a-f)):p ∣ (s2-d)*(b-c)-2*a:=by
 have e:(s2-d)*(b-c)-2*a=(-1)*(d*(b-h)+g+a)+(1)*(d*(c-h)-(f-g))+(1)*(s2*(b-c)-(a-f)):=by grind
 simp_all [AC]
theorem bGg{p b a c d s2:Z}(h:p ∣ s2*(c-d)-(a-b))(g:p ∣ c-d)(f:p ∣ a):p ∣ b+a:=by
 have e:b+a=(1)*(s2*(c-d)-(a-b))+(-s2)*(c-d)+(2)*(a):=by grind
 rw[e];exact AC (AC (AA h) (AA g)) (AA f)
theorem bCq{p f k g i A h j b c d a s2:Z}(t:p ∣ b-f)(s:p ∣ g-k)(r:p ∣ a*(b-c)+i+g)(q:p ∣ a*(d-c)-(h-i))(o:p ∣ a*(i+h)-(c*c+c*d+d*d+A))(n:p ∣ f-(a*a-c-d))(m:p ∣ s2*(b-d)-(g-h))(l:p ∣ j*(k+g)-(f*f+f*b+b*b+A)):p ∣ (2*g)*((s2-a)*(a+j)-(b-c)):=by
 have e:(2*g)*((s2-a)*(a+j)-(b-c))=(a*c+a*b+a*f-s2*c-2*s2*d+s2*b-s2*f+2*h)*(b-f)+(-a*j+s2*j)*(g-k)+(-(a*a)+2*a*s2-d-2*b)*(a*(b-c)+i+g)+(-a*s2+d+2*b)*(a*(d-c)-(h-i))+(a-s2)*(a*(i+h)-(c*c+c*d+d*d+A))+(a*c-a*b-s2*c-2*s2*d+3*s2*b+2*h)*(f-(a*a-c-d))+((a*a)-2*c-d)*(s2*(b-d)-(g-h))+(-a+s2)*(j*(k+g)-(f*f+f*b+b*b+A)):=by grind
 rw[e];exact AC (AC (AC (AC (AC (AC (AC (AA t) (AA s)) (AA r)) (AA q)) (AA o)) (AA n)) (AA m)) (AA l)
theorem bCo{p g f c a d h i b s2:Z}(l:p ∣ i*(a-c)-(g-f))(k:p ∣ f-(b*(d-c)-h))(j:p ∣ (s2-b)*(b*(a-d)+h+g)-(a-d)*(a-c)):p ∣ (a-c)*((s2-b)*(b+i)-(a-d)):=by
 have e:(a-c)*((s2-b)*(b+i)-(a-d))=(-b+s2)*(i*(a-c)-(g-f))+(b-s2)*(f-(b*(d-c)-h))+(1)*((s2-b)*(b*(a-d)+h+g)-(a-d)*(a-c)):=by grind
 rw[e];exact AC (AC (AA l) (AA k)) (AA j)
theorem bCp{p b c a s2 f d:Z}(h1:p ∣ (s2-a)*(a+f)-(b-c))(h2:p ∣ (a-s2)*(s2+d)-(c-b)):p ∣ (s2-a)*(a+f-s2-d):=by
 have e:(s2-a)*(a+f-s2-d)=(1)*((s2-a)*(a+f)-(b-c))+(1)*((a-s2)*(s2+d)-(c-b)):=by grind
 simp_all [AC]
theorem bH5{p X h g b d f i a s2 c:Z}(n:p ∣ X-(b*b-h-d))(m:p ∣ h-(a*a-f-i))(l:p ∣ g-(s2*s2-i-d))(k:p ∣ a+b-s2-c)(j:p ∣ (s2-a)*(a+b)-(d-f)):p ∣ X-(c*c-g-f):=by
 have e:X-(c*c-g-f)=(1)*(X-(b*b-h-d))+(-1)*(h-(a*a-f-i))+(1)*(g-(s2*s2-i-d))+(a-s2+b+c)*(a+b-s2-c)+(2)*((s2-a)*(a+b)-(d-f)):=by grind
 rw[e];exact AC (AC (AC (AC (AA n) (AA m)) (AA l)) (AA k)) (AA j)
theorem bH6{p Y X k j f i m b h l d c a s2 g:Z}(w:p ∣ Y-(b*(f-X)-k))(v:p ∣ X-(b*b-f-h))(u:p ∣ k-(a*(d-f)-m))(t:p ∣ j-(s2*(c-i)-l))(s:p ∣ f-(a*a-d-c))(r:p ∣ i-(s2*s2-c-h))(q:p ∣ a*(c-d)-(l-m))(o:p ∣ a+b-s2-g)(n:p ∣ (s2-a)*(a+b)-(h-d)):p ∣ Y-(g*(i-X)-j):=by
 have e:Y-(g*(i-X)-j)=(1)*(Y-(b*(f-X)-k))+(-b+g)*(X-(b*b-f-h))+(-1)*(k-(a*(d-f)-m))+(1)*(j-(s2*(c-i)-l))+(a+2*b-g)*(f-(a*a-d-c))+(-s2-g)*(i-(s2*s2-c-h))+(1)*(a*(c-d)-(l-m))+(2*(a*a)-a*s2+a*b+(s2*s2)-s2*b-(b*b)-2*d-2*c+h)*(a+b-s2-g)+(a-2*s2-g)*((s2-a)*(a+b)-(h-d)):=by grind
 rw[e];exact AC (AC (AC (AC (AC (AC (AC (AC (AA w) (AA v)) (AA u)) (AA t)) (AA s)) (AA r)) (AA q)) (AA o)) (AA n)
theorem bCs{p f c h s2 b g a d:Z}(l:p ∣ h*(a-b)-(d-f))(k:p ∣ s2*(g-a)-(c-d))(j:p ∣ h-s2)(i:p ∣ b-g):p ∣ f-c:=by
 have e:f-c=(1)*(h*(a-b)-(d-f))+(1)*(s2*(g-a)-(c-d))+(b-a)*(h-s2)+(s2)*(b-g):=by grind
 rw[e];exact AC (AC (AC (AA l) (AA k)) (AA j)) (AA i)
theorem bGh{p c a d b s2 g f:Z}(i:p ∣ (s2-b)*(b*(a-c)+g+f)-(a-c)*(a-d))(h:p ∣ b-s2):p ∣ (a-c)*(a-d):=by
 have e:(a-c)*(a-d)=(-1)*((s2-b)*(b*(a-c)+g+f)-(a-c)*(a-d))+(b*c-b*a-g-f)*(b-s2):=by grind
 rw[e];exact AC (AA i) (AA h)
theorem aSi{p d h f a s2 b i j c g:Z}(o:p ∣ d-(a*(j-b)-h))(n:p ∣ a*(c-j)-(g-h))(m:p ∣ s2*(i-c)-(f-g))(l:p ∣ a-s2)(k:p ∣ i-b):p ∣ d+f:=by
 have e:d+f=(1)*(d-(a*(j-b)-h))+(-1)*(a*(c-j)-(g-h))+(-1)*(s2*(i-c)-(f-g))+(c-b)*(a-s2)+(s2)*(i-b):=by grind
 rw[e];exact AC (AC (AC (AC (AA o) (AA n)) (AA m)) (AA l)) (AA k)
theorem aXo{p A d f c a b s2:Z}(k:p ∣ s2*(c+d)-(a*a+a*b+b*b+A))(j:p ∣ s2*(b-a)-(d-c))(i:p ∣ a-f)(h:p ∣ f-(s2*s2-a-b))(g:p ∣ c):p ∣ 3*(a*a)+A:=by
 have e:3*(a*a)+A=(-1)*(s2*(c+d)-(a*a+a*b+b*b+A))+(-s2)*(s2*(b-a)-(d-c))+(a-b)*(a-f)+(a-b)*(f-(s2*s2-a-b))+(2*s2)*(c):=by grind
 rw[e];exact AC (AC (AC (AC (AA k) (AA j)) (AA i)) (AA h)) (AA g)
theorem aXn{p B A b a:Z}(f:p ∣ b*b-(a*a*a+A*a+B))(d:p ∣ 3*(a*a)+A)(c:p ∣ b):p ∣ 4*(A*(A*A))+27*(B*B):=by
 have e:4*(A*(A*A))+27*(B*B)=(27*A*a-27*B+27*(a*a*a)-27*(b*b))*(b*b-(a*a*a+A*a+B))+(4*(A*A)+15*A*(a*a)+9*(a*a*a*a)-54*a*(b*b))*(3*(a*a)+A)+(108*(a*a*a)*b+27*(b*b*b))*(b):=by grind
 rw[e];exact AC (AC (AA f) (AA d)) (AA c)
theorem bGc{p a g c d f b s2:Z}(j:p ∣ a-(s2*(f-d)-b))(i:p ∣ g-f)(h:p ∣ c+b):p ∣ (-s2)*(d-g)-(a-c):=by
 have e:(-s2)*(d-g)-(a-c)=(-1)*(a-(s2*(f-d)-b))+(s2)*(g-f)+(1)*(c+b):=by grind
 rw[e];exact AC (AC (AA j) (AA i)) (AA h)
theorem bGd{p g d i A h b a c f s2:Z}(o:p ∣ g-(s2*(a-b)-f))(n:p ∣ d-a)(m:p ∣ i+f)(l:p ∣ s2*(f+h)-(a*a+a*c+c*c+A))(k:p ∣ s2*(c-a)-(h-f))(j:p ∣ b-(s2*s2-a-c)):p ∣ (-s2)*(i+g)-(d*d+d*b+b*b+A):=by
 have e:(-s2)*(i+g)-(d*d+d*b+b*b+A)=(-s2)*(g-(s2*(a-b)-f))+(-d-a-b)*(d-a)+(-s2)*(i+f)+(1)*(s2*(f+h)-(a*a+a*c+c*c+A))+(s2)*(s2*(c-a)-(h-f))+(c-b)*(b-(s2*s2-a-c)):=by grind
 rw[e];exact AC (AC (AC (AC (AC (AA o) (AA n)) (AA m)) (AA l)) (AA k)) (AA j)
theorem bGa{p b d a c s2:Z}(h1:p ∣ d-c)(h2:p ∣ a-(s2*s2-c-b)):p ∣ b-((-s2)*(-s2)-d-a):=by
 have e:b-((-s2)*(-s2)-d-a)=(1)*(d-c)+(1)*(a-(s2*s2-c-b)):=by grind
 simp_all [AC]
theorem bGb{p a g c f b d s2:Z}(j:p ∣ g-f)(i:p ∣ c+b)(h:p ∣ s2*(d-f)-(a-b)):p ∣ a-((-s2)*(g-d)-c):=by
 have e:a-((-s2)*(g-d)-c)=(s2)*(g-f)+(1)*(c+b)+(-1)*(s2*(d-f)-(a-b)):=by grind
 rw[e];exact AC (AC (AA j) (AA i)) (AA h)
theorem bBI{p X b a s:Z}(h1:p ∣ X-(s*s-b-a)):p ∣ X-(s*s-a-b):=by
 grind
theorem bBJ{p Y X d b c a s:Z}(h1:p ∣ Y-(s*(d-X)-b))(h2:p ∣ s*(c-d)-(a-b)):p ∣ Y-(s*(c-X)-a):=by
 have e:Y-(s*(c-X)-a)=(1)*(Y-(s*(d-X)-b))+(-1)*(s*(c-d)-(a-b)):=by grind
 simp_all [AC]
theorem bGe{p d c b a s:Z}(h1:p ∣ s*(c-d)-(a-b)):p ∣ s*(d-c)-(b-a):=by
 have e:s*(d-c)-(b-a)=(-1)*(s*(c-d)-(a-b)):=by grind
 simp_all
theorem bGf{p b a d c s A:Z}(h1:p ∣ s*(d+c)-(b*b+b*a+a*a+A)):p ∣ s*(c+d)-(a*a+a*b+b*b+A):=by
 grind
theorem bF9{p b c d g f a s2:Z}(l:p ∣ b-(s2*(f-d)-a))(k:p ∣ g-d)(j:p ∣ c+b)(i:p ∣ g-f)(h:p ∣ c+a):p ∣ 2*a:=by
 have e:2*a=(1)*(b-(s2*(f-d)-a))+(s2)*(g-d)+(-1)*(c+b)+(-s2)*(g-f)+(1)*(c+a):=by grind
 rw[e];exact AC (AC (AC (AC (AA l) (AA k)) (AA j)) (AA i)) (AA h)
theorem bGi{p s t b a d c:Z}(h1:p ∣ s*(a-b)-(c-d))(h2:p ∣ t*(a-b)-(c-d)):p ∣ (s-t)*(a-b):=by
 have e:(s-t)*(a-b)=(1)*(s*(a-b)-(c-d))+(-1)*(t*(a-b)-(c-d)):=by grind
 simp_all [AC]
theorem bGj{p s t b a d c A:Z}(h1:p ∣ s*(d+c)-(b*b+b*a+a*a+A))(h2:p ∣ t*(d+c)-(b*b+b*a+a*a+A)):p ∣ (s-t)*(d+c):=by
 have e:(s-t)*(d+c)=(1)*(s*(d+c)-(b*b+b*a+a*a+A))+(-1)*(t*(d+c)-(b*b+b*a+a*a+A)):=by grind
 simp_all [AC]
structure PrP (p:Int):Prop where
 pos:3<p
 odd:p%2≠0
 gc:∀a:Int,¬p ∣ a->gcd a p=1
theorem PrP.pr{p a b:Z}(h:PrP p)(c:p ∣ a*b)(d:¬p ∣ a):p ∣ b:=aL3 (h.gc a d) (by rwa [BK]at c)
theorem PrP.two{p a:Z}(h:PrP p)(b:p ∣ 2*a):p ∣ a:=h.pr b (λe=>by have:=C8 (by omega) e;have:=h.pos;omega)
theorem iH{p a b:Z}(h:p ∣ a-b):p ∣ b-a:=by rw[<-Int.neg_sub];exact Int.dvd_neg.2 h
theorem nL{p a b:Z}(a0:0<=a)(a1:a<p)(b0:0<=b)(b1:b<p)(h:p ∣ a-b):a=b:=by
 have:=kP.2 h
 simp_all [A3]
theorem aVp{p a e:Z}(a0:0<=a)(a1:a<p)(h:p ∣ a-e):e%p=a:=by
 have:=kP.2 h
 simp_all [A3]
structure Ln (A p x1 y1 x2 y2 s:Int):Prop where
 c:p ∣ s*(x2-x1)-(y2-y1)
 t:p ∣ s*(y1+y2)-(x1*x1+x1*x2+x2*x2+A)
theorem Ln.symm{A p e b d a s:Z}(h:Ln A p e b d a s):Ln A p d a e b s:=⟨bGe h.c,bGf h.t⟩
def Opp(p d b c a:Z):Prop:=p ∣ d-c/\p ∣ b+a
theorem Opp.symm{p d b c a:Z}(h:Opp p d b c a):Opp p c a d b:=⟨iH h.1,by rw[FQ];exact h.2⟩
theorem Ln.uniq{A p g b d a s t:Z}(j:PrP p)(i:¬Opp p g b d a)(h:Ln A p g b d a s)(h':Ln A p g b d a t):p ∣ s-t:=by
 by_cases e:p ∣ d-g
 .have n:¬p ∣ b+a:=λf=>i ⟨iH e,f⟩;exact j.pr (by rw[BK];exact bGj h.t h'.t) n
 .exact j.pr (by rw[BK];exact bGi h.c h'.c) e
theorem aKF{A B p a c d b:Z}(h:PrP p)(m:OnP A B p a c)(l:OnP A B p d b)(o:¬Opp p a c d b) :
  gcd (qG a c d b) p=1/\Ln A p a c d b (fT A p a c d b):=by
 have hp0:=h.pos;by_cases e:a=d
 .have k:qG a c d b=c+b:=by unfold qG;rw[Y0 e];rfl
  have n:slN A a c d b=3*(a*a)+A:=by unfold slN;rw[Y0 e];rfl
  have i:¬p ∣ c+b:=λf=>o ⟨by rw[e,D7];exact EA _,f⟩;have j:gcd (qG a c d b) p=1:=by rw[k];exact h.gc _ i
  have g:=aFc (A:=A) (by omega) j;rw[k,n]at g;subst e;refine⟨j,?_,?_⟩
  .have q:p ∣ (c+b)*(c-b):=by
    have:(c+b)*(c-b)=(c*c-(a*a*a+A*a+B))-(b*b-(a*a*a+A*a+B)):=by grind
    rw[this];exact B9 m.eq l.eq
   have:=h.pr q i
   grind
  grind
 .have k:qG a c d b=d-a:=by unfold qG;rw[Y1 e];rfl
  have n:slN A a c d b=b-c:=by unfold slN;rw[Y1 e];rfl
  have i:¬p ∣ d-a:=λf=>e (nL m.x0 m.x1 l.x0 l.x1 (iH f));have j:gcd (qG a c d b) p=1:=by rw[k];exact h.gc _ i
  have g:=aFc (A:=A) (by omega) j;rw[k,n]at g;exact⟨j,g,h.pr (by rw[BK];exact bH7 g m.eq l.eq) i⟩
theorem aHe{A B p a c b d s X Y:Z}(i:PrP p)(t:OnP A B p a c)(r:OnP A B p b d)(f:¬Opp p a c b d)(o:Ln A p a c b d s)(m:0<=X)(l:X<p)(k:0<=Y)(j:Y<p)(hX:p ∣ X-(s*s-a-b))(hY:p ∣ Y-(s*(a-X)-c)):aP A p a c GG b d GG= .pt X Y GG:=by
 obtain⟨q,g⟩:=aKF i t r f;have hu:=Ln.uniq i f o g;have n:oD p a c b d=GG:=by
  cases h:oD p a c b d with
  |false=>rfl
  |true =>
   unfold oD at h;rw[Z3,Z4,Z4]at h;exact(f ⟨by rw[h.1,D7];exact EA _,A8 h.2⟩).elim
 have eX:nO A p a c b d=X:=by
  unfold nO;refine aVp m l ?_;have e:X-(fT A p a c b d*fT A p a c b d-(a+b))=(X-(s*s-a-b))+(s+fT A p a c b d)*(s-fT A p a c b d):=by grind
  simp_all [AC,AA]
 have eY:vK A p a c b d=Y:=by
  unfold vK;rw[eX];refine aVp k j ?_;have e:Y-(fT A p a c b d*(a-X)-c)=(Y-(s*(a-X)-c))+(a-X)*(s-fT A p a c b d):=by grind
  simp_all [AC,AA]
 unfold aP;rw[Z5,Z5,n,Z5,Y0 q,Z6,eX,eY]
theorem rW{A p d c b a:Z}(hx:d=b)(h:p ∣ c+a):aP A p d c GG b a GG= .pt 0 0 GE:=by
 grind [aP,oD,AW]
theorem xU{A B p a c b d:Z}(g:PrP p)(l:cT A B p=GE)(i:OnP A B p a c)(h:OnP A B p b d)(f:¬Opp p a c b d) :
  ∃s X Y,Ln A p a c b d s/\OnP A B p X Y/\p ∣ X-(s*s-a-b)/\p ∣ Y-(s*(a-X)-c)/\aP A p a c GG b d GG= .pt X Y GG:=by
 have hp0:=g.pos;obtain⟨hg,j⟩:=aKF g i h f;have d1:p ∣ nO A p a c b d-(fT A p a c b d*fT A p a c b d-a-b):=by
  grind [nO,Int.sub_sub,jX]
 have d2:p ∣ vK A p a c b d-(fT A p a c b d*(a-nO A p a c b d)-c):=by
  unfold vK;exact jX _ _
 have e:=aHe g i h f j (BS _ (by omega)) (BV _ (by omega)) (BS _ (by omega)) (BV _ (by omega)) d1 d2;have k:=aSg (pJ.2 ⟨l,i⟩) (pJ.2 ⟨l,h⟩);rw[e]at k;exact⟨_,_,_,j,(pJ.1 k).2,d1,d2,e⟩
theorem aTH{A p j s q r a d i l g s2:Z}(k:PrP p)(n:Ln A p j s q r g)(m:Ln A p q r a d s2)(w:¬Opp p q r a d)(y:p ∣ i-(g*g-j-q))(v:p ∣ l-(g*(j-i)-s))(E:¬p ∣ g-s2) :
  ¬Opp p i l a d/\∀u,Ln A p i l a d u->p ∣ (s2-g)*(g+u)-(a-j):=by
 have H:=aHf y n.c m.c n.t m.t;have o:¬p ∣ s2-g:=λh=>E (iH h);have G:p ∣ a-i->p ∣ g*(a-j)+s+d:=λe=>by
  have:=AC H (AA (b:=a-j) e);rw[C9]at this;exact k.pr this o
 have F:p ∣ a-i->¬p ∣ d:=λe z=>by
  have C:=AC (bCr (G e) n.c m.c) (AA (b:=2) z);rw[C9]at C;have B:=k.pr C o;exact w ⟨iH B,bGg m.c B z⟩
 constructor
 .rintro⟨e,f⟩
  have e':=iH e;have D:=AC (bBK v (G e') e') f;rw[show d-l+(l+d)=2*d by omega]at D;exact F e' (k.two D)
 .intro u x;by_cases e:p ∣ a-i
  .exact k.pr (bCq e (bBK v (G e) e) (G e) n.c n.t y m.c x.t) (λh=>F e (k.two h))
  .exact k.pr (bCo x.c v H) e
theorem aBa{A B p d g b f:Z}(k:PrP p)(m:cT A B p=GE)(j:OnP A B p d g)(i:OnP A B p b f):aP A p d g GG b f GG=aP A p b f GG d g GG:=by
 by_cases a:Opp p d g b f
 .have e:d=b:=nL j.x0 j.x1 i.x0 i.x1 a.1;rw[rW e a.2,rW e.symm a.symm.2]
 .obtain⟨s,X,Y,l,o,dX,dY,e⟩:=xU k m j i a;rw[e,aHe k i j (λh=>a h.symm) l.symm o.x0 o.x1 o.y0 o.y1 (bBI dX) (bBJ dY l.c)]
theorem aP7{A B p g l n m f k:Z}(a:PrP p)(q:cT A B p=GE)(e:OnP A B p g l)(F:OnP A B p n m)(i:OnP A B p f k)(u:¬Opp p g l n m)(s:¬Opp p n m f k) :
  gA A p (aP A p g l GG n m GG) (.pt f k GG)=gA A p (.pt g l GG) (aP A p n m GG f k GG):=by
 obtain⟨C,L,J,d,y,X4,Y4,T⟩:=xU a q e F u;obtain⟨s2,K,I,b,o,X5,Y5,S⟩:=xU a q F i s;have X5':=bBI X5;have Y5':=bBJ Y5 b.c;rw[T,S];show aP A p L J GG f k GG=aP A p g l GG K I GG;by_cases j:p ∣ C-s2
 .by_cases w:g=f
  .subst w;have hy:l=k:=nL e.y0 e.y1 i.y0 i.y1 (bCs d.c b.c j (by rw[D7];exact EA _))
   grind [aBa]
  .have r:¬p ∣ f-g:=λh=>w (nL e.x0 e.x1 i.x0 i.x1 (iH h));have z:¬p ∣ g-f:=λh=>r (iH h);have H:=a.pr (bGh (aHf X4 d.c b.c d.t b.t) j) r;have G:=a.pr (bGh (aHf X5' b.symm.c d.symm.c b.symm.t d.symm.t) (iH j)) z;have b1:=aSi Y4 d.c b.c j H;have U:=aSi Y5' b.symm.c d.symm.c (iH j) G;rw[rW (nL y.x0 y.x1 i.x0 i.x1 (iH H)) b1,rW (nL e.x0 e.x1 o.x0 o.x1 G) (by rw[FQ];exact U)]
 .have v:¬p ∣ s2-C:=λh=>j (iH h);obtain⟨nU,Q⟩:=aTH a d b s X4 Y4 j;obtain⟨nV,P⟩:=aTH a b.symm d.symm (λh=>u h.symm) X5' Y5' v;obtain⟨N,X,Y,O,x,dX,dY,R⟩:=xU a q y i nU;obtain⟨M,_,_,D,_,_,_,_⟩:=xU a q o e nV;have K1:=Q N O;have E:=a.pr (bCp K1 (P M D)) v;rw[R,aBa a q e o];exact(aHe a o e nV D x.x0 x.x1 x.y0 x.y1 (bH5 dX X4 X5 E K1) (bH6 dY dX Y4 Y5 X4 X5 d.c E K1)).symm
theorem aS1{A B p i h g o l k:Z}(r:PrP p)(C:cT A B p=GE)(y:¬p ∣ 4*(A*(A*A))+27*(B*B))(n:OnP A B p i h)(j:OnP A B p g o)(e:OnP A B p l k)(d:Opp p i h g o) :
  gA A p (.pt i h GG) (aP A p g o GG l k GG)= .pt l k GG:=by
 by_cases f:Opp p g o l k
 .have ex:g=l:=nL j.x0 j.x1 e.x0 e.x1 f.1;rw[rW ex f.2];have u:i=g:=nL n.x0 n.x1 j.x0 j.x1 d.1;have D:h=k:=nL n.y0 n.y1 e.y0 e.y1 (by
   have:=B9 d.2 f.2
   grind)
  subst ex;subst u;subst D;rfl
 .obtain⟨s2,q,v,m,x,X5,Y5,E⟩:=xU r C j e f;rw[E];show aP A p i h GG q v GG=_;have s:¬Opp p i h q v:=by
   rintro⟨a,b⟩
   have w:=r.two (bF9 Y5 a b d.1 d.2);have z:p ∣ g-q:=by
    have:=B9 a d.1
    grind
   exact y (aXn j.eq (aXo m.t m.c z X5 w) w)
  exact aHe r n x s ⟨bGc Y5 d.1 d.2,bGd Y5 d.1 d.2 m.t m.c X5⟩ e.x0 e.x1 e.y0 e.y1 (bGa d.1 X5) (bGb d.1 d.2 m.c)
section
structure Gp {T:Type} (on:T->Prop) (add:T->T->T) (z:T) (ng:T->T):Prop where
 on_z:on z
 on_add:∀ {a b},on a->on b->on (add a b)
 on_ng:∀ {a},on a->on (ng a)
 add_z:∀ {a},on a->add a z=a
 comm:∀ {a b},on a->on b->add a b=add b a
 assoc:∀ {a b c},on a->on b->on c->add (add a b) c=add a (add b c)
 inv:∀ {a},on a->add a (ng a)=z
section
variable {T:Type} {on:T->Prop} {add:T->T->T} {z:T} {ng:T->T}
def yQ(add:T->T->T)(z:T):Y->T->T
 |0,_=>z
 |n+1,p=>add (yQ add z n p) p
theorem Gp.z_add(g:Gp on add z ng){a:T}(h:on a):add z a=a:=by rw[g.comm g.on_z h,g.add_z h]
theorem Gp.smul_on(g:Gp on add z ng){p:T}(h:on p):∀n,on (yQ add z n p)
 |0=>g.on_z
 |n+1=>g.on_add (g.smul_on h n) h
theorem Gp.smul_add(g:Gp on add z ng){p:T}(h:on p)(m:Y):∀n,yQ add z (m+n) p=add (yQ add z m p) (yQ add z n p)
 |0=>(g.add_z (g.smul_on h m)).symm
 |n+1=>by
  show add (yQ add z (m+n) p) p=add (yQ add z m p) (add (yQ add z n p) p);rw[g.smul_add h m n,g.assoc (g.smul_on h m) (g.smul_on h n) h]
end
end
section
def TR.on(A B p:Z):TR->Prop
 |.pt X Y o=>nT A B p X Y o=GE
 |.dv _=>W
def TR.ng(p:Z):TR->TR
 |.pt X Y o=>.pt X (aFJ p Y o) o
 |.dv d=>.dv d
theorem TR.on_cases{A B p:Z}{a:TR}(h:a.on A B p):a= .pt 0 0 GE\/∃X Y,a= .pt X Y GG/\OnP A B p X Y:=by
 cases a with
 |dv d=>exact h.elim
 |pt X Y o =>
  cases o with
  |true =>
   obtain⟨_,c,b⟩:=aMJ.1 h;subst c;subst b;exact .inl rfl
  |false=>exact .inr ⟨X,Y,rfl,(pJ.1 h).2⟩
section
variable {A B p:Int}
theorem aDT(a:cT A B p=GE):(TR.pt 0 0 GE).on A B p:=aMJ.2 ⟨a,rfl,rfl⟩
theorem aSh(a:cT A B p=GE){X Y:Z}(h:OnP A B p X Y):(TR.pt X Y GG).on A B p:=pJ.2 ⟨a,h⟩
theorem y6(k:PrP p)(f:cT A B p=GE){a b:TR}(j:a.on A B p)(g:b.on A B p):(gA A p a b).on A B p:=by
 rcases TR.on_cases j with rfl|⟨X,Y,rfl,i⟩
 .cases b with
  |dv d=>exact g.elim
  |pt X' Y' o'=>exact g
 rcases TR.on_cases g with rfl|⟨X',Y',rfl,h⟩
 .exact j
 show(aP A p X Y GG X' Y' GG).on A B p;by_cases c:Opp p X Y X' Y'
 .rw[rW (nL i.x0 i.x1 h.x0 h.x1 c.1) c.2];exact aDT f
 .obtain⟨_,_,_,_,o,_,_,e⟩:=xU k f i h c;rw[e];exact aSh f o
theorem xT(c:PrP p)(d:cT A B p=GE){a b:TR}(f:a.on A B p)(e:b.on A B p):gA A p a b=gA A p b a:=by
 rcases TR.on_cases f with rfl|⟨X,Y,rfl,h⟩<;>rcases TR.on_cases e with rfl|⟨X',Y',rfl,g⟩
 .rfl
 .rfl
 .rfl
 .exact aBa c d h g
theorem oT{a:TR}(b:a.on A B p):gA A p a (.pt 0 0 GE)=a:=by
 rcases TR.on_cases b with rfl|⟨X,Y,rfl,h1⟩<;>rfl
theorem tN{a:TR}(b:a.on A B p):gA A p (.pt 0 0 GE) a=a:=by
 rcases TR.on_cases b with rfl|⟨X,Y,rfl,h1⟩<;>rfl
theorem aP2{a:TR}(b:a.on A B p):gA A p a (a.ng p)= .pt 0 0 GE:=by
 rcases TR.on_cases b with rfl|⟨X,Y,rfl,h1⟩
 .rfl
 .show aP A p X Y GG X (-Y%p) GG=_;refine rW rfl ?_;have:=jX (-Y) p
  rwa [show-Y%p - -Y=Y+ -Y%p by omega]at this
theorem aJy(g:PrP p)(h:cT A B p=GE)(v:¬p ∣ 4*(A*(A*A))+27*(B*B)){a b c:TR}(k:a.on A B p)(i:b.on A B p)(l:c.on A B p) :
  gA A p (gA A p a b) c=gA A p a (gA A p b c):=by
 rcases TR.on_cases k with rfl|⟨u,s,rfl,n⟩
 .rw[tN i,tN (y6 g h i l)]
 rcases TR.on_cases i with rfl|⟨q,o,rfl,j⟩
 .rw[tN l,oT k]
 rcases TR.on_cases l with rfl|⟨t,r,rfl,m⟩
 .rw[oT (y6 g h k i),oT i]
 by_cases f:Opp p u s q o
 .have e:gA A p (.pt u s GG) (.pt q o GG)= .pt 0 0 GE:=rW (nL n.x0 n.x1 j.x0 j.x1 f.1) f.2;rw[e,tN l];exact(aS1 g h v n j m f).symm
 by_cases d:Opp p q o t r
 .have e:gA A p (.pt q o GG) (.pt t r GG)= .pt 0 0 GE:=rW (nL j.x0 j.x1 m.x0 m.x1 d.1) d.2;rw[e,oT k,xT g h (y6 g h k i) l,xT g h k i];exact aS1 g h v m j n d.symm
 exact aP7 g h n j m f d
theorem bGV(c:PrP p)(b:cT A B p=GE)(e:¬p ∣ 4*(A*(A*A))+27*(B*B)):Gp (TR.on A B p) (gA A p) (.pt 0 0 GE) (TR.ng p) where
 on_z:=aDT b
 on_add:=y6 c b
 on_ng:=λ{a} h=>by
  cases a with
  |dv d=>exact h.elim
  |pt X Y o=>exact bDr h
 add_z:=oT
 comm:=xT c b
 assoc:=aJy c b e
 inv:=aP2
theorem aQU(g:Gp (TR.on A B p) (gA A p) (.pt 0 0 GE) (TR.ng p)){a:TR}(d:a.on A B p)(n:Y):cM A p a n=yQ (gA A p) (.pt 0 0 GE) n a:=by
 induction n using Nat.strongRecOn with
 |_ n ih =>
  by_cases c:n=0
  .subst c;rw[rL];rfl
  rw[uV c,ih (n/2) (by omega),<-g.smul_add d];by_cases b:n%2=1
  .rw[Y0 b,Z6];have e:n/2+n/2+1=n:=by omega
   have:yQ (gA A p) (TR.pt 0 0 GE) (n/2+n/2+1) a=gA A p (yQ (gA A p) (TR.pt 0 0 GE) (n/2+n/2) a) a:=rfl;rw[<-this,e]
  .rw[Y1 b,Z5]
   congr 1;omega
end
end
def kU(n v:Y):Y->Y
 |0=>0
 |k+1=>kU n v k+(if k*k%n=v then 1 else 0)
def sZ(a b n x:Y):Y:=(x*x%n*x+a*x+b)%n
def qU(a b n:Y):Y->Y
 |0=>1
 |x+1=>qU a b n x+kU n (sZ a b n x) n
def aBk(a b n:Y):Y:=qU a b n n
theorem zI(n v:Y):∀k,kU n v k<=k
 |0=>Z0 0
 |k+1=>by have:=zI n v k;unfold kU;split<;>omega
theorem aJb(a b n:Y):∀k,qU a b n k<=1+k*n
 |0=>by simp[qU]
 |k+1=>by
  have h1:=aJb a b n k
  grind [zI,sZ,DC,qU]
def l6(n k:Y):O Z:=(EL n).map λv=>((kU n v k:Y):Z)
theorem aFj(n k:Y):(l6 n k).length=n:=by simp[l6]
theorem aBT{n k v:Y}(h:v<n):(l6 n k).getD v 0=(kU n v k:Z):=by simp[l6,AD,h]
theorem aRu{n k:Y}(h:0<n):l6 n (k+1)=(l6 n k).set (k*k%n) ((l6 n k).getD (k*k%n) 0+1):=by
 have a:=AU (k*k) h;rw[aBT a];refine CP (by simp[l6]) λi h1 h2=>?_
 grind [aFj,l6,kU]
structure CtS where
 k:Nat
structure CtI (n:Nat) (s:CtS):Prop where
 hk:s.k<=n
def aNr(a b n:Y):Y->MS->C LoopAnn
 |3,_=>GC (.inv CtS (CtI n) (λs=>⟨54, [(0,.int .i64 a),(1,.int .i64 b),(2,.int .i64 n),(7,.bs 0 0 n),(8,.int .i64 s.k)], [⟨GG,.arr .i64 (l6 n s.k)⟩],0⟩) (λs=>n-s.k))
 |8,_=>GC (.inv CtS (CtI n) (λs=>⟨54, [(0,.int .i64 a),(1,.int .i64 b),(2,.int .i64 n),(7,.bs 0 0 n),(9,.int .i64 (qU a b n s.k)),(10,.int .i64 s.k)], [⟨GG,.arr .i64 (l6 n n)⟩],0⟩) (λs=>n-s.k))
 |_,_=>GD
theorem aWC(a b n:Y)(d:_)(g:d=λ(i:CtS)=>(X GF ((CtS.k i:Z)*(CtS.k i:Z))))(c:_)(f:c=(n:Z))(e:_)(h:e=λ(i:CtS)=>(X GF (X GF (X GF (H (d i) c *(CtS.k i:Z))+X GF ((a:Z)*(CtS.k i:Z)))+(b:Z)))):((0<= c/\c = c/\(↑(8:Y):Z)* c <=140737488355328)/\(∃i,CtI n i/\((a:Z)=(a:Z)/\(b:Z)=(b:Z)/\c = c/\(0=0/\S c =n)/\0=(CtS.k i:Z)/\E)/\l (S c) (0:Z)=l6 n (CtS.k i)/\E)/\∀(i:CtS),CtI n i->bif G ((CtS.k i:Z)< c)then (c =0->W)/\(0<=H (d i) c/\H (d i) c < c)/\0+S (H (d i) c)<D (l6 n (CtS.k i))/\(0<=H (d i) c/\H (d i) c < c)/\0+S (H (d i) c)<D (l6 n (CtS.k i))/\∃j,CtI n j/\(((a:Z)=(a:Z)/\(b:Z)=(b:Z)/\c = c/\(0=0/\n=n)/\X GF ((CtS.k i:Z)+1)=(CtS.k j:Z)/\E)/\set (l6 n (CtS.k i)) (0+S (H (d i) c)) (X GF (F (l6 n (CtS.k i)) (0+S (H (d i) c)) 0+1))=l6 n (CtS.k j)/\E)/\n-CtS.k j<n-CtS.k i else (∃i_1,CtI n i_1/\((a:Z)=(a:Z)/\(b:Z)=(b:Z)/\c = c/\(0=0/\n=n)/\1=(qU a b n (CtS.k i_1):Z)/\0=(CtS.k i_1:Z)/\E)/\l6 n (CtS.k i)=l6 n n/\E)/\∀(i:CtS),CtI n i->bif G ((CtS.k i:Z)< c)then (c =0->W)/\(c =0->W)/\(0<=H (e i) c/\H (e i) c < c)/\0+S (H (e i) c)<D (l6 n n)/\∃j,CtI n j/\(((a:Z)=(a:Z)/\(b:Z)=(b:Z)/\c = c/\(0=0/\n=n)/\X GF ((qU a b n (CtS.k i):Z)+F (l6 n n) (0+S (H (e i) c)) 0)=(qU a b n (CtS.k j):Z)/\X GF ((CtS.k i:Z)+1)=(CtS.k j:Z)/\E)/\l6 n n=l6 n n/\E)/\n-CtS.k j<n-CtS.k i else (qU a b n (CtS.k i):Z)=(aBk a b n:Z))=aJ (aK [] (aNr a b n)) E2 [.int .i64 a,.int .i64 b,.int .i64 n] (A1 (.ret (.int .i64 (aBk a b n)))):=by subst g f h;kernel_rfl
theorem rG{x:Y}(h:x<9223372036854775808):X GF (x:Z)=(x:Z):=aT (by omega) (by omega)
theorem lM(x n:Y):H (x:Z) (n:Z)=((x%n:Y):Z):=by rw[D0 (by omega),AP]
theorem aVg(a b n:Y)(n1:1<=n)(n2:n<=100000)(q:a<=100000)(hb:b<=100000):∃E:Env AB,aJ E E2 [.int .i64 a,.int .i64 b,.int .i64 n] (A1 (.ret (.int .i64 (aBk a b n)))):=by
 refine⟨aK [] (aNr a b n),?_⟩;rw[<-aWC a b n _ rfl _ rfl _ rfl];rw[Z8];refine⟨⟨by omega,rfl,by omega⟩,⟨⟨0⟩,⟨Z9 _⟩,⟨rfl,rfl,rfl,⟨rfl,rfl⟩,rfl,⟨⟩⟩,?_,⟨⟩⟩,λs I=>?_⟩
 .refine CP (by simp[l6]) λi h1 h2=>?_;simp[l6,kU]
 obtain⟨k⟩:=s;obtain⟨o⟩:=I;dsimp only at o⊢;have e:X GF ((k:Z)*(k:Z))=((k*k:Y):Z):=by
  have:=AR (show k<=100000 by omega) (show k<=100000 by omega);rw[<-AQ];exact rG (by omega)
 rw[e,lM,Z8,BJ];have c:=AU (k*k) (show 0<n by omega);refine aI Z4 (λq1=>?_) (λq1=>?_)
 .have g:X GF ((k:Z)+1)=((k+1:Y):Z):=rG (x:=k+1) (by omega);have p:=zI n (k*k%n) k;have f:X GF ((l6 n k).getD (k*k%n) 0+1)=(l6 n k).getD (k*k%n) 0+1:=by
   rw[aBT c];exact rG (x:=kU n (k*k%n) k+1) (by omega)
  rw[aFj];exact⟨by omega,by omega,c,by omega,c,⟨k+1⟩,⟨by show k+1<=n;omega⟩,⟨⟨rfl,rfl,rfl,⟨rfl,rfl⟩,g,⟨⟩⟩,by rw[f];exact(aRu (by omega)).symm,⟨⟩⟩,by show n-(k+1)<n-k;omega⟩
 .have h:k=n:=by omega
  subst h;refine⟨⟨⟨0⟩,⟨Z9 _⟩,⟨rfl,rfl,rfl,⟨rfl,rfl⟩,rfl,rfl,⟨⟩⟩,rfl,⟨⟩⟩,λs I=>?_⟩;obtain⟨x⟩:=s;obtain⟨m⟩:=I;dsimp only at m⊢;clear c e;refine aI Z4 (λl=>?_) (λl=>?_)
  .have b1:=AR (show x<=100000 by omega) (show x<=100000 by omega);have c:=AU (x*x) (show 0<k by omega);have b2:=AR (show x*x%k<=100000 by omega) (show x<=100000 by omega);have b3:=AR q (show x<=100000 by omega);have e:X GF ((x:Z)*(x:Z))=((x*x:Y):Z):=by rw[<-AQ];exact rG (by omega)
   have g:X GF (((x*x%k:Y):Z)*(x:Z))=((x*x%k*x:Y):Z):=by rw[<-AQ];exact rG (by omega)
   have f:X GF ((a:Z)*(x:Z))=((a*x:Y):Z):=by rw[<-AQ];exact rG (by omega)
   have w:X GF (((x*x%k*x:Y):Z)+((a*x:Y):Z))=((x*x%k*x+a*x:Y):Z):=rG (x:=x*x%k*x+a*x) (by omega);have v:X GF (((x*x%k*x+a*x:Y):Z)+(b:Z))=((x*x%k*x+a*x+b:Y):Z):=rG (x:=x*x%k*x+a*x+b) (by omega);have u:X GF ((x:Z)+1)=((x+1:Y):Z):=rG (x:=x+1) (by omega);rw[e,lM,g,f,w,v,lM,Z8,BJ,u,aFj];have j:sZ a b k x<k:=AU _ (by omega);have r:(x*x%k*x+a*x+b)%k=sZ a b k x:=rfl;rw[r,aBT j];have hs:=aJb a b k x;have p:=zI k (sZ a b k x) k;have d:=AR (show x<=100000 by omega) (show k<=100000 by omega);have t:X GF ((qU a b k x:Z)+(kU k (sZ a b k x) k:Z))=((qU a b k (x+1):Y):Z):=rG (x:=qU a b k x+kU k (sZ a b k x) k) (by omega);exact⟨by omega,by omega,by omega,j,⟨x+1⟩,⟨by show x+1<=k;omega⟩,⟨⟨rfl,rfl,rfl,⟨rfl,rfl⟩,t,rfl,⟨⟩⟩,rfl,⟨⟩⟩,by show k-(x+1)<k-x;omega⟩
  .have d:x=k:=by omega
   subst d;rfl
def aTb(a b n:Y):Y:=AT (⟨aBk a b n,rfl⟩:∃r,r=aBk a b n)
theorem vV(a b n:Y):aTb a b n=aBk a b n:=AN (⟨aBk a b n,rfl⟩:∃r,r=aBk a b n)
def aDy:aG
 |[.int .i64 a,.int .i64 b,.int .i64 n]=>GC (GC (0<=a/\a<=100000/\0<=b/\b<=100000/\1<=n/\n<=100000),.ret (.int .i64 (aTb a.toNat b.toNat n.toNat)))
 |_=>GD
theorem aZi:bE E2 aDy:=by
 intro ms p r h c;unfold aDy at h;split at h
 .rename_i a b n;cases h;obtain⟨h1,h2,h3,h4,h5,h6⟩:=c;obtain⟨a,rfl⟩:∃x:Y,a=x:=⟨a.toNat,by omega⟩;obtain⟨b,rfl⟩:∃x:Y,b=x:=⟨b.toNat,by omega⟩;obtain⟨n,rfl⟩:∃x:Y,n=x:=⟨n.toNat,by omega⟩;rw[Z8,Z8,Z8,vV];exact aVg a b n (by omega) (by omega) (by omega) (by omega)
 .simp at h
def aN2:Ctr AB:=⟨54,aDy,λargs w=>Tryz.call54 args w,aM bT Tryz.func54 aDy aZi⟩
section
theorem aK0{α:Type}:∀(l l':O α),l.Nodup->(∀x∈l,x∈l')->l'.length<=l.length->l.Perm l'
 |[],l',_,_,h=>by
  have:l'=[]:=CO.1 (by simpa using h);rw[this]
 |x::t,l',d,c,h=>by
  obtain⟨u,v,rfl⟩:=List.append_of_mem (c x (AJ ..));have a:=BQ.1 d;have e:t.Perm (u++v):=aK0 t (u++v) a.2 (λy b=>by
   have:=c y (AF _ b);simp only[BR,CJ]at this⊢;rcases this with q|q|q
   .exact .inl q
   .exact N (q ▸ b) a.1
   .exact .inr q) (by simp at h⊢;omega)
  exact(e.cons x).trans List.perm_middle.symm
section
variable {T:Type} {on:T->Prop} {add:T->T->T} {z:T} {ng:T->T}
def aAc(add:T->T->T)(z:T):O T->T
 |[]=>z
 |x::r=>add x (aAc add z r)
theorem Gp.gsum_on(g:Gp on add z ng):∀l:O T,(∀x∈l,on x)->on (aAc add z l)
 |[],_=>g.on_z
 |x::r,h=>g.on_add (h x (AJ ..)) (g.gsum_on r λy a=>h y (AF _ a))
theorem Gp.gsum_perm(g:Gp on add z ng){l l':O T}(p:l.Perm l'):(∀x∈l,on x)->aAc add z l=aAc add z l':=by
 induction p with
 |nil=>intro _;rfl
 |cons x _ f=>intro h;show add x _=add x _;rw[f λy a=>h y (AF _ a)]
 |swap x y l =>
  intro h;have b:=h x (by simp);have a:=h y (by simp);have e:=g.gsum_on l λw i=>h w (by simp[i]);show add y (add x (aAc add z l))=add x (add y (aAc add z l));rw[<-g.assoc a b e,g.comm a b,g.assoc b a e]
 |trans p _ d c=>intro h;rw[d h,c λy a=>h y (p.mem_iff.2 a)]
theorem Gp.gsum_map(g:Gp on add z ng){p:T}(a:on p):∀l:O T,(∀x∈l,on x)->aAc add z (l.map (add p))=add (yQ add z l.length p) (aAc add z l)
 |[],_=>(g.add_z g.on_z).symm
 |x::r,h=>by
  have b:=h x (AJ ..);have e:∀y∈r,on y:=λy f=>h y (AF _ f);have d:=g.gsum_on r e;have c:=g.smul_on a r.length;show add (add p x) (aAc add z (r.map (add p)))=add (add (yQ add z r.length p) p) (add x (aAc add z r));rw[g.gsum_map a r e,<-g.assoc (g.on_add a b) c d,<-g.assoc (g.on_add c a) b d]
  congr 1
  rw[g.comm (g.on_add a b) c,g.assoc c a b]
theorem Gp.lagrange(g:Gp on add z ng){l:O T}(q:l.Nodup)(n:∀x,x∈l↔on x){p:T}(b:on p):yQ add z l.length p=z:=by
 have a:∀x∈l,on x:=λx c=>(n x).1 c;have inj:∀x∈l,∀y∈l,add p x=add p y->x=y:=λx c y d e=>by
  have h:add (ng p) (add p x)=add (ng p) (add p y):=by rw[e]
  rw[<-g.assoc (g.on_ng b) b (a x c),<-g.assoc (g.on_ng b) b (a y d),g.comm (g.on_ng b) b,g.inv b,g.z_add (a x c),g.z_add (a y d)]at h;exact h
 have j:(l.map (add p)).Nodup:=by
  rw[FX,DA];exact B6 (λ{x y} c d k e=>k (inj x c y d e)) q
 have f:=aK0 (l.map (add p)) l j (λy d=>by
  obtain⟨x,c,rfl⟩:=BN.1 d;exact(n _).2 (g.on_add b (a x c))) (by simp)
 have h:=g.gsum_perm f λy d=>by
  grind
 rw[g.gsum_map b l a]at h;have i:=g.gsum_on l a;have m:=g.smul_on b l.length;have o:add (add (yQ add z l.length p) (aAc add z l)) (ng (aAc add z l))=add (aAc add z l) (ng (aAc add z l)):=by rw[h]
 rw[g.assoc m i (g.on_ng i),g.inv i,g.add_z m]at o;exact o
end
def aTc(a b n x:Y)(k:Y):O TR:=((EL k).filter λy=>y*y%n==sZ a b n x).map λy:Y=>.pt (x:Z) ((y:Y):Z) GG
def aRl(a b n:Y)(k:Y):O TR:=(EL k).flatMap λx=>aTc a b n x n
def ptL(a b n:Y):O TR:= .pt 0 0 GE::aRl a b n n
theorem aJZ(a b n x:Y):∀k,(aTc a b n x k).length=kU n (sZ a b n x) k
 |0=>rfl
 |k+1=>by
  have:=aJZ a b n x k
  grind [aTc,DR,EY,CD,kU,sZ]
theorem aLj(a b n:Y):∀k,1+(aRl a b n k).length=qU a b n k
 |0=>rfl
 |k+1=>by
  have:=aLj a b n k
  grind [aRl,EY,CD,qU,aJZ]
theorem aPd(a b n:Y):(ptL a b n).length=aBk a b n:=by
 show(aRl a b n n).length+1=qU a b n n;rw[<-aLj];omega
theorem aPf{a b n x y:Y}:y*y%n=sZ a b n x↔(n:Z) ∣ (y:Z)*y-((x:Z)*x*x+a*x+b):=by
 have e:(x*x%n*x+a*x+b)%n=(x*x*x+a*x+b)%n:=by
  grind [FW,CH,EI]
 grind [sZ,kP,AQ,CB,AP]
theorem aH8{a b n:GJ}(c:cT a b n=GE)(t:TR):t∈ptL a b n↔t.on a b n:=by
 unfold ptL;rw[CJ];unfold aRl aTc;simp only[List.mem_flatMap,BN,List.mem_filter,E8,beq_iff_eq];constructor
 .rintro(rfl|⟨x,hx,y,⟨hy,h⟩,rfl⟩)
  .exact aDT c
  .exact aSh c (X:=(x:Z)) (Y:=(y:Z)) ⟨by omega,by omega,by omega,by omega,aPf.1 h⟩
 .intro h;rcases TR.on_cases h with rfl|⟨X,Y,rfl,h'⟩
  .exact .inl rfl
  .obtain⟨x0,x1,y0,y1,he⟩:=h';obtain⟨x,rfl⟩:∃x:GJ,X=x:=⟨X.toNat,by omega⟩;obtain⟨y,rfl⟩:∃y:GJ,Y=y:=⟨Y.toNat,by omega⟩
   grind [aPf]
theorem aRi(a b n:Y):(ptL a b n).Nodup:=by
 grind [ptL,BQ,aRl,aTc,List.nodup_range,List.nodup_range.imp]
theorem aZP{p:Y}(a:Pri p)(h5:5<=p):PrP p:=⟨by omega,by
 intro h;rcases a.dv 2 (AI (by omega))with e|e<;>omega,λ_ b=>f8 (jA a) b⟩
theorem aTh{p a b:Y}(e:Pri p)(j:5<=p)(f:cT a b p=GE)(i:qB a b p=GE){t:TR}(d:t.on a b p):cM a p t (aBk a b p)= .pt 0 0 GE:=by
 have c:¬(p:Z) ∣ 4*((a:Z)*(a*a))+27*((b:Z)*b):=λh=>aEW (jA e) h (of_decide_eq_true i);have g:=bGV (aZP e j) f c;rw[aQU g d,<-aPd];exact g.lagrange (aRi a b p) (aH8 f) d
end
def smF(f:Y->Y)(a:Y):Y->Y
 |0=>0
 |k+1=>smF f a k+f (a+k)
theorem aPK(f:Y->Y)(a i:Y):∀j,smF f a (i+j)=smF f a i+smF f (a+i) j
 |0=>rfl
 |j+1=>by
  show smF f a (i+j)+f (a+(i+j))=smF f a i+(smF f (a+i) j+f (a+i+j));rw[aPK f a i j,C6,C6 a i j]
def smH(f:Y->Y):Y->Y->Y->Y
 |0,a,n=>o (CI n 0) 0 (f a)
 |d+1,a,n=>o (CI n 0) 0 (o (CI n 1) (f a) (FN (smH f d a (ET n 2)) (smH f d (FN a (ET n 2)) (Nat.sub n (ET n 2)))))
theorem aI4(f:Y->Y):∀(d a n:Y),n<=2^d->smH f d a n=smF f a n
 |0,a,n,h=>by
  rw[CU]at h
  match n,h with
  |0,_=>rfl
  |1,_ =>
   show f a=0+f (a+0);rw[BJ,CC]
 |d+1,a,n,h=>by
  unfold smH;cases c:CI n 0 with
  |true=>rw[CY c];rfl
  |false =>
   have n0:n≠0:=λe=>by rw[e]at c;simp at c
   rw[Z5];cases b:CI n 1 with
   |true =>
    rw[CY b];show f a=0+f (a+0);rw[BJ,CC]
   |false =>
    have n1:n≠1:=λe=>by rw[e]at b;simp at b
    rw[Z5];rw[BX]at h;show smH f d a (n/2)+smH f d (a+n/2) (n-n/2)=_;rw[aI4 f d a (n/2) (by omega),aI4 f d (a+n/2) (n-n/2) (by omega),<-aPK]
    congr 1;omega
def aQn(n:Y):Y->Y:=smF (λy=>2048^(y*y%n)) 0
theorem aGd(n v:Y):∀k,∃a b,aQn n k=a*(2048*2048^v)+kU n v k*2048^v+b/\b*2048<=k*2048^v
 |0=>⟨0,0,by simp[aQn,smF,kU],by omega⟩
 |k+1=>by
  obtain⟨a,b,g,c⟩:=aGd n v k;have e:aQn n (k+1)=aQn n k+2048^(k*k%n):=by
   show smF _ 0 k+2048^((0+k)*(0+k)%n)=_;rw[BJ];rfl
  have l:kU n v (k+1)=kU n v k+(if k*k%n=v then 1 else 0):=rfl;have m:(k+1)*2048^v=k*2048^v+2048^v:=DC ..;rw[e,g,m,l];rcases Nat.lt_trichotomy (k*k%n) v with q|q|q
  .rw[V (by omega),CC];refine⟨a,b+2048^(k*k%n),by rw[C6],?_⟩;have d:2048^(k*k%n+1)<=2048^v:=A7 (by omega) q;rw[BX]at d;rw[FV];exact Nat.add_le_add c d
  .rw[U q,q];refine⟨a,b,?_,A6 c (B0 ..)⟩;have h:(kU n v k+1)*2048^v=kU n v k*2048^v+2048^v:=DC ..;rw[h];generalize a*(2048*2048^v)=u;generalize kU n v k*2048^v=w;generalize 2048^v=z;omega
  .obtain⟨j,f⟩:∃j,k*k%n=v+1+j:=⟨k*k%n-(v+1),by omega⟩;rw[V (by omega),CC,f];refine⟨a+2048^j,b,?_,A6 c (B0 ..)⟩;have i:2048^(v+1+j)=2048^j*(2048*2048^v):=by rw[FT,BX,AY,AY (2048^v)]
   rw[i,FV];generalize a*(2048*2048^v)=u;generalize kU n v k*2048^v=w;generalize 2048^j*(2048*2048^v)=z;omega
theorem bCW{n k:Y}(f:k<2048)(v:Y):aQn n k/2048^v%2048=kU n v k:=by
 obtain⟨a,c,g,h2⟩:=aGd n v k;have d:0<2048^v:=DL (by omega);have b:c<2048^v:=by
  have:k*2048^v<2048*2048^v:=Nat.mul_lt_mul_of_pos_right f d;omega
 have hc:=zI n v k;have e:aQn n k=2048^v*(a*2048+kU n v k)+c:=by
  rw[g,FU,AY (2048^v) (kU n v k)];have h:2048^v*(a*2048)=a*(2048*2048^v):=by rw[AY (2048^v),B1]
  rw[h]
 rw[e,E6 d,EX b,CC,FM,Nat.add_mul_mod_self_right];exact CQ (by omega)
def aFd:O Y:=[2,3,5,7,11,13,17,19,23,29,31,37]
def aKO(n:Y):O Y->J
 |[]=>GE
 |d::r=>(CI n d || !(CI (D6 n d) 0))&&aKO n r
theorem aKP{n:Y}:∀l,aKO n l=GE->∀d∈l,n=d\/n%d≠0
 |[],_,d,hd=>by simp at hd
 |e::r,h,d,hd=>by
  rw[aKO,Z3,Bool.or_eq_true,Bool.not_eq_true']at h;rcases CJ.1 hd with rfl|hd
  .rcases h.1 with q|q
   .exact .inl (CY q)
   .right;intro w;have w:D6 n d=0:=w;rw[w]at q;simp at q
  .exact aKP r h.2 d hd
theorem aRq:∀q,q<41->2<=q->q∈aFd\/∃d,d<q/\2<=d/\q%d=0:=by decide +kernel
theorem aRf{q:Y}(a:Pri q)(h:q<41):q∈aFd:=by
 rcases aRq q h a.lt with w|⟨d,d1,d2,d3⟩
 .exact w
 .rcases a.dv d (AI d3)with e|e<;>omega
theorem sU{n:Y}(f:1<n)(h2:n<1681)(h:aKO n aFd=GE):Pri n:=by
 refine BA λw=>?_;obtain⟨p,c,d,hsq⟩:=wF f w;have a:=c.lt;have b:p<41:=by
  rcases BF p 41 with q|q
  .exact q
  .have:=AR q q;omega
 rcases aKP aFd h p (aRf c b)with e|e
 .subst e;have:=A0 n a;omega
 .exact e (AZ d)
def cbN(m a x y:Y):Y:=(y*y+(m-(x*x*x+a*x)%m))%m
theorem aS3{m a x y:Y}(b:0<m):k8 m a x y=(cbN m a x y:Z):=by
 have h:=AU (x*x*x+a*x) b;unfold k8 cbN;rw[AP,kP];have e:(((m-(x*x*x+a*x)%m:Y)):Z)=m-((x:Z)*x*x+a*x)%m:=by
  rw[Int.natCast_sub (by omega),AP];simp[AQ,CB]
 rw[CB,e,AQ];obtain⟨c,d⟩:=jX ((x:Z)*x*x+a*x) m;exact⟨c-1,by rw[CK,<-d];omega⟩
def bCR(p a b:Y):Y:=FN 1 (smH (λx=>D6 (ET (smH (λy=>GB 2048 (D6 (Nat.mul y y) p)) 12 0 p) (GB 2048 (sZ a b p x))) 2048) 12 0 p)
theorem aXS{p:Y}(a b:Y)(h:p<2048):bCR p a b=aBk a b p:=by
 unfold bCR aBk;show 1+smH (λx=>smH (λy=>2048^(y*y%p)) 12 0 p/2048^sZ a b p x%2048) 12 0 p=qU a b p p;rw[aI4 _ 12 0 p (by omega),aI4 _ 12 0 p (by omega)];have e:(λx=>smF (λy=>2048^(y*y%p)) 0 p/2048^sZ a b p x%2048)=λx=>kU p (sZ a b p x) p:=by
  funext x
  exact bCW h _
 rw[e];have:∀k,1+smF (λx=>kU p (sZ a b p x) p) 0 k=qU a b p k:=λk=>by
  induction k with
  |zero=>rfl
  |succ k ih =>
   show 1+(smF _ 0 k+kU p (sZ a b p (0+k)) p)=qU a b p k+_;rw[BJ,<-C6,ih]
 exact this p
def aOz(p a b N:Y):J:=!(CI (D6 (4*(a*(a*a))+27*(b*b)) p) 0)&&(AO 1 N&&(AO N 1681&&(aKO N aFd&&grB N p)))
def aD6(p k:Y):J:=aOz p (k%p) (cbN p (k%p) (k/p%p) (1+k%(p-1))) (bCR p (k%p) (cbN p (k%p) (k/p%p) (1+k%(p-1))))
def hn0:O (Y×Y):=[(7,7),(11,16),(13,12),(17,31),(19,19),(23,29),(29,28),(31,31),(37,50),(41,50),(43,49),(47,53),(53,56),(59,78),(61,68),(67,83),(71,73),(73,75),(79,79),(83,84),(89,95),(97,107),(101,109),(103,111),(107,167),(109,113),(113,120),(127,127),(131,143),(137,141)]
theorem bC3:hn0.all (λq=>aD6 q.1 q.2)=GE:=by decide +kernel
def hn1:O (Y×Y):=[(139,152),(149,154),(151,150),(157,158),(163,163),(167,168),(173,201),(179,196),(181,204),(191,204),(193,206),(197,206),(199,199),(211,211),(223,252),(227,231),(229,231),(233,243),(239,255),(241,263),(251,256),(257,256),(263,270),(269,268),(271,299),(277,285),(281,312),(283,283),(293,304),(307,315)]
theorem bC4:hn1.all (λq=>aD6 q.1 q.2)=GE:=by decide +kernel
def hn2:O (Y×Y):=[(311,310),(313,326),(317,320),(331,331),(337,338),(347,348),(349,358),(353,382),(359,363),(367,379),(373,377),(379,380),(383,395),(389,421),(397,398),(401,419),(409,408),(419,420),(421,425),(431,435),(433,436),(439,441),(443,448),(449,457),(457,469),(461,470),(463,463),(467,489),(479,496),(487,486)]
theorem bC5:hn2.all (λq=>aD6 q.1 q.2)=GE:=by decide +kernel
def hn3:O (Y×Y):=[(491,498),(499,498),(503,510),(509,516),(521,522),(523,587),(541,540),(547,546),(557,571),(563,568),(569,591),(571,571),(577,587),(587,586),(593,605),(599,612),(601,605),(607,608),(613,639),(617,624),(619,628),(631,631),(641,672),(643,652),(647,646),(653,662),(659,669),(661,681),(673,672),(677,700)]
theorem bC6:hn3.all (λq=>aD6 q.1 q.2)=GE:=by decide +kernel
def hn4:O (Y×Y):=[(683,688),(691,691),(701,722),(709,739),(719,720),(727,768),(733,734),(739,738),(743,767),(751,754),(757,767),(761,781),(769,781),(773,777),(787,796),(797,806),(809,826),(811,817),(821,840),(823,823),(827,845),(829,830),(839,853),(853,854),(857,864),(859,861),(863,862),(877,904),(881,883),(883,885)]
theorem bC7:hn4.all (λq=>aD6 q.1 q.2)=GE:=by decide +kernel
def hn5:O (Y×Y):=[(887,894),(907,932),(911,941),(919,930),(929,950),(937,943),(941,946),(947,970),(953,962),(967,968),(971,973),(977,980),(983,987),(991,1007),(997,999),(1009,1036),(1013,1048),(1019,1024),(1021,1038),(1031,1036),(1033,1041),(1039,1063),(1049,1052),(1051,1051),(1061,1074),(1063,1063),(1069,1070),(1087,1105),(1091,1092),(1093,1100)]
theorem bC8:hn5.all (λq=>aD6 q.1 q.2)=GE:=by decide +kernel
def hn6:O (Y×Y):=[(1097,1112),(1103,1130),(1109,1128),(1117,1128),(1123,1124),(1129,1148),(1151,1190),(1153,1160),(1163,1172),(1171,1216),(1181,1190),(1187,1214),(1193,1196),(1201,1216),(1213,1233),(1217,1248),(1223,1243),(1229,1289),(1231,1231),(1237,1246),(1249,1262),(1259,1272),(1277,1276),(1279,1279),(1283,1282),(1289,1295),(1291,1291),(1297,1296),(1301,1300),(1303,1321)]
theorem bC9:hn6.all (λq=>aD6 q.1 q.2)=GE:=by decide +kernel
def hn7:O (Y×Y):=[(1307,1317),(1319,1362),(1321,1335),(1327,1337),(1361,1367),(1367,1370),(1373,1411),(1381,1396),(1399,1410),(1409,1427),(1423,1453),(1427,1433),(1429,1448),(1433,1480),(1439,1512),(1447,1447),(1451,1458),(1453,1483),(1459,1479),(1471,1476),(1481,1503),(1483,1485),(1487,1529),(1489,1526),(1493,1529),(1499,1498),(1511,1510)]
theorem bDa:hn7.all (λq=>aD6 q.1 q.2)=GE:=by decide +kernel
def bDb:O (Y×Y):=hn0++hn1++hn2++hn3++hn4++hn5++hn6++hn7
theorem aYn:∀q∈bDb,aD6 q.1 q.2=GE:=λq a=>by
 unfold bDb at a;simp only[BR]at a;rcases a with ((((((h|h)|h)|h)|h)|h)|h)|h
 .exact A4.1 bC3 q h
 .exact A4.1 bC4 q h
 .exact A4.1 bC5 q h
 .exact A4.1 bC6 q h
 .exact A4.1 bC7 q h
 .exact A4.1 bC8 q h
 .exact A4.1 bC9 q h
 .exact A4.1 bDa q h
theorem aTK:∀p,p<1512->7<=p->(bDb.any λq=>CI q.1 p&&Nat.ble (p-1) q.2&&AO q.2 (p+100))=GE\/∃d,d<38/\2<=d/\p%d=0/\d<p:=by decide +kernel
def rV(n k:Y):Y:=k%n
def cxX(n k:Y):Y:=k/n%n
def cyY(n k:Y):Y:=1+k%(n-1)
def uF(n k:Y):Y:=cbN n (rV n k) (cxX n k) (cyY n k)
def j7(n k:Y):Y:=aTb (rV n k) (uF n k) n
def xW(n k:Y):Z:=(aL (j7 n k)).getD ((aL (j7 n k)).length-1) 0
def nH(n at_:Y)(a b x y o:Y):Stp:=⟨4,GG,aA n, [(at_:Z)], [],a,b,n,x,y,GG,o⟩
def iU(L:O Stp)(n k:Y):O Stp:=L++[b8 (xW n k),nH n L.length (rV n k) (uF n k) (cxX n k) (cyY n k) (j7 n k)]
def pR(L:O Stp)(n k:Y):J:=qB (rV n k) (uF n k) n&&(grB (xW n k) n&&bW (nums (L++[b8 (xW n k)])) (nH n L.length (rV n k) (uF n k) (cxX n k) (cyY n k) (j7 n k)))
structure CvS where
 k:Nat
 ex:List Stp
structure CvI (fr K:Nat) (s:CvS):Prop where
 h1:fr<=s.k
 h2:s.k<=K
def cvT(n:Y)(L:O Stp)(s:CvS):MS:=⟨130, [(0,.bp 0 0),(1,.int .u64 n),(7,.int .i64 n),(8,.int .i64 s.k)],
 [⟨GG,.one (.st [.bs 1 0 L.length])⟩,⟨GG,.rows 18 (L.length+s.ex.length) (aF (L++s.ex) 200)⟩],1⟩
def bBB(n a K:Y)(L:O Stp):Y->MS->C LoopAnn
 |4,_=>GC (.inv CvS (CvI a K) (cvT n L) (λs=>K+1-s.k))
 |_,_=>GD
structure CwI (n:Nat) (k:Int) (s:CvS):Prop where
 hk:k=(s.k:Int)
 hn:qB (rV n s.k) (uF n s.k) n=true
 hg:grB (xW n s.k) n=true
def cwT(n:Y)(L:O Stp)(s:CvS):MS:=⟨130, [(0,.bp 0 0),(1,.int .u64 n),(7,.int .i64 n),(8,.int .i64 s.k),(17,.int .i64 L.length)],
 [⟨GG,.one (.st [.bs 1 0 (L.length+2)])⟩,⟨GG,.rows 18 (L.length+2) (aF (iU L n s.k) 200)⟩],1⟩
def bGG(n:Y)(L:O Stp):Y->MS->C CutAnn
 |16,e=>(match aW 8 e.tm with
  |.int _ k=>GC (.mk CvS (CwI n k) (cwT n L))
  |_=>GD)
 |_,_=>GD
def fzC:Y->O Y
 |14=> [1000000]
 |15=> [1000000]
 |999994=> [0]
 |999993=> [0]
 |_=> []
def zA(n k:Y):Z:=tmod (k:Z) (n:Z)
def zX(n k:Y):Z:=tmod (X GF (GP (k:Z) (n:Z))) (n:Z)
def zY(n k:Y):Z:=wrap GF (1+H (k:Z) (X GF ((n:Z)-1)))
def zB(n k:Y):Z:=k8 (n:Z) (zA n k) (zX n k) (zY n k)
def zO(n k:Y):Y:=aTb (S (zA n k)) (S (zB n k)) (S (n:Z))
def zL(n k:Y):O Z:=aL (S (X GH ((zO n k:Y):Z)))
def zQ(n k:Y):Z:=(zL n k).getD (S (X GF (((zL n k).length:Z)-1))) 0
theorem bFu(L:O Stp)(n g K:Y)(b:_)(p:b=(n:Z))(c:_)(o:c=(D L:Z))(a:_)(m:a=λ(i:CvS)=>(CvS.k i))(d:_)(r:d=λ(i:CvS)=>(News.rows 18 1 (aN [aBU (zQ n (a i))])))(f:_)(l:f=λ(i_1:CvS)=>(aF (iU L n (CvS.k i_1)) 200))(e:_)(h:e=(D L+2)):((b =0->W)/\(∃i,CvI (g%n) K i/\(0=0/\b = b/\X GF b = b/\X GF (H (g:Z) b)=(CvS.k i:Z)/\E)/\((0=0/\D L=D L)/\E)/\(D L=D L+D (CvS.ex i)/\LeFun (D L) (aF L 200) (aF (L++CvS.ex i) 200))/\E)/\∀(i:CvS),CvI (g%n) K i->(b =0->W)/\(b =0->W)/\(X GF (b-1)=0->W)/\(b =0->W)/\(1<= b/\b <=100000/\0<=zA n (a i)/\zA n (a i) <=100000/\0<=zX n (a i)/\zX n (a i) <=100000/\0<=zY n (a i)/\zY n (a i) <=100000)/\(64<=200/\64<=200/\64<=200)/\bif !qB (zA n (a i)) (zB n (a i)) b then ∃j,CvI (g%n) K j/\((0=0/\b = b/\b = b/\X GF ((CvS.k i:Z)+1)=(CvS.k j:Z)/\E)/\((0=0/\D L=D L)/\E)/\(D L+D (CvS.ex i)=D L+D (CvS.ex j)/\LeFun (D L+D (CvS.ex i)) (aF (L++CvS.ex i) 200) (aF (L++CvS.ex j) 200))/\E)/\K+1-CvS.k j<K+1-CvS.k i else u (zB n (a i))<9223372036854775808/\(b =0->W)/\(0<=zA n (a i)/\zA n (a i) <=100000/\0<=zB n (a i)/\zB n (a i) <=100000/\1<= b/\b <=100000)/\(1<=X GH (zO n (a i) :Z)/\X GH (zO n (a i) :Z)<4611686018427387904)/\(0<=X GF ((D (zL n (a i)):Z)-1)/\X GF ((D (zL n (a i)):Z)-1)<(D (zL n (a i)):Z))/\(0<=zQ n (a i)/\zQ n (a i) <18446744073709551616)/\(0<= b/\b <18446744073709551616)/\(64<=100000/\64<=100000)/\bif !grB (zQ n (a i)) b then ∃j,CvI (g%n) K j/\((0=0/\b = b/\b = b/\X GF ((CvS.k i:Z)+1)=(CvS.k j:Z)/\E)/\((0=0/\D L=D L)/\E)/\(D L+D (CvS.ex i)=D L+D (CvS.ex j)/\LeFun (D L+D (CvS.ex i)) (aF (L++CvS.ex i) 200) (aF (L++CvS.ex j) 200))/\E)/\K+1-CvS.k j<K+1-CvS.k i else (0<=zQ n (a i)/\zQ n (a i) <18446744073709551616)/\(D L<=D L+D (CvS.ex i)/\(D L+AH (d i))*288<=140737488355328)/\((0<= b/\b <18446744073709551616)/\fY (zX n (a i))/\fY (zY n (a i))/\fY (zO n (a i) :Z)/\(D L+AH (d i) <=D L+1/\(D L+AH (d i) +AH (News.rows 18 1 (aN [MV.st [MV.int GF (4:Z),MV.big b 64,MV.sl 1 1 λi=>MV.int GF (F [c] i 0),MV.val (AE GD 0 0),MV.st [MV.big (zA n (a i)) 64,MV.big (zB n (a i)) 64,MV.big b 64],MV.st [MV.big (zX n (a i)) 64,MV.big (zY n (a i)) 64,MV.bool GG],MV.big (zO n (a i) :Z) 64]])))*288<=140737488355328)/\∃i_1,CwI n (CvS.k i:Z) i_1/\(0=0/\b = b/\b = b/\(CvS.k i:Z)=(CvS.k i_1:Z)/\c = c/\E)/\((0=0/\D L+AH (d i) +AH (News.rows 18 1 (aN [MV.st [MV.int GF (4:Z),MV.big b 64,MV.sl 1 1 λi=>MV.int GF (F [c] i 0),MV.val (AE GD 0 0),MV.st [MV.big (zA n (a i)) 64,MV.big (zB n (a i)) 64,MV.big b 64],MV.st [MV.big (zX n (a i)) 64,MV.big (zY n (a i)) 64,MV.bool GG],MV.big (zO n (a i) :Z) 64]]))=D L+2)/\E)/\(D L+AH (d i) +1=D L+2/\LeFun (D L+AH (d i) +1) (λq=>bif AO q (D L+AH (d i))then bif AO q (D L)then aF (L++CvS.ex i) 200 q else aN [aBU (zQ n (a i))] (q-D L)else aN [MV.st [MV.int GF (4:Z),MV.big b 64,MV.sl 1 1 λi=>MV.int GF (F [c] i 0),MV.val (AE GD 0 0),MV.st [MV.big (zA n (a i)) 64,MV.big (zB n (a i)) 64,MV.big b 64],MV.st [MV.big (zX n (a i)) 64,MV.big (zY n (a i)) 64,MV.bool GG],MV.big (zO n (a i) :Z) 64]] (q-(D L+AH (d i)))) (f i_1))/\E)/\∀(i_1:CvS),CwI n (CvS.k i:Z) i_1->(D L+2<=D L+2/\0<=X GF (c +1)/\X GF (c +1)<(↑ e :Z)/\okL e (f i_1)/\fineL (aE e (f i_1)) (S (X GF (c +1))))/\bif bW (nums (P (S (X GF (c +1))) (aE e (f i_1)))) (F (aE e (f i_1)) (S (X GF (c +1))) aB)then ((0=0/\D L+2=D (iU L n K))/\E)/\(D (iU L n K)<=D L+2/\LeFun (D (iU L n K)) (f i_1) (aF (iU L n K) 200))/\X GF (c +1)=(D (iU L n K):Z)-1 else (0<= c/\c <=(↑ e :Z))/\∃j,CvI (g%n) K j/\((0=0/\b = b/\b = b/\X GF ((CvS.k i_1:Z)+1)=(CvS.k j:Z)/\E)/\((0=0/\S c =D L)/\E)/\(D L+2=D L+D (CvS.ex j)/\LeFun e (f i_1) (aF (L++CvS.ex j) 200))/\E)/\K+1-CvS.k j<K+1-CvS.k i)=nP (aTn [aNI,aHm,aHt,aN2,aCO,mA,aHs,vS,cO] [] fzC (bBB n (g%n) K L) (bGG n L)) F5 18 [.int .u64 n,.int .u64 g] L.length (aF L 200) (iU L n K).length (aF (iU L n K) 200) (.int .i64 (((iU L n K).length:Z)-1)):=by subst p o m r l h;kernel_rfl
structure RndOk (n k:Nat):Prop where
 a:rV n k<n
 x:cxX n k<n
 y1:1<=cyY n k
 y:cyY n k<n
 b:uF n k<n
 o:2<=j7 n k
 o2:j7 n k<9007199254740992
 q:Pri (xW n k).toNat
 qd:(xW n k).toNat ∣ j7 n k
 cv:cT (rV n k) (uF n k) n=true
 on:nT (rV n k) (uF n k) n (cxX n k) (cyY n k) false=true
 len:1<=(aL (j7 n k)).length
 qle:(xW n k).toNat<=j7 n k
theorem aMU{n:Y}(f:Pri n)(h7:7<=n)(j:n<=2000)(k:Y):RndOk n k:=by
 have ho:=kC f (by omega);have w:rV n k<n:=AU _ (by omega);have o:cxX n k<n:=AU _ (by omega);have l:cyY n k<n:=by have:=AU k (show 0<n-1 by omega);unfold cyY;omega
 have b1:uF n k<n:=AU _ (by omega);have v:k8 n (rV n k) (cxX n k) (cyY n k)=(uF n k:Z):=aS3 (by omega);have on:=aTj (m:=n) (a:=rV n k) (x:=cxX n k) (y:=cyY n k) (by omega) (by omega) (by omega) (by omega) (by omega) (by omega) (by omega) (by omega);rw[v]at on;have d:=aKX on;have s:2<=j7 n k:=by
  unfold j7;rw[vV,<-aPd];have b:=(aH8 d (.pt 0 0 GE)).2 (aDT d);have c:=(aH8 d (.pt (cxX n k) (cyY n k) GG)).2 on
  match hl:ptL (rV n k) (uF n k) n,b,c with
  |[],b,_=>simp at b
  |[z],b,c =>
   rw[BB]at b c;rw[<-b]at c;simp at c
  |_::_::r,_,_=>simp
 have q:j7 n k<9007199254740992:=by
  unfold j7;rw[vV];have:=aJb (rV n k) (uF n k) n n;have h3:=AR j j;unfold aBk;omega
 have P:=gW (show 1<=j7 n k by omega);rw[<-gI]at P;have h:1<=(aL (j7 n k)).length:=by
  obtain⟨p,f,u⟩:=sJ _ (j7 n k) (Z0 _) (by omega);exact D5 (P.all p f u)
 have t:xW n k∈aL (j7 n k):=gP (by omega);obtain⟨p,e,q1,i,_⟩:=P.mem _ t;have g:(xW n k).toNat=p:=by omega
 exact⟨w,o,B0 1 _,l,b1,s,q,by rw[g];exact q1,by rw[g];exact i,d,on,h,by rw[g];exact AL (by omega) i⟩
structure RndEq (n k:Nat):Prop where
 a:zA n k=(rV n k:Int)
 x:zX n k=(cxX n k:Int)
 y:zY n k=(cyY n k:Int)
 b:zB n k=(uF n k:Int)
 o:zO n k=j7 n k
 l:zL n k=aL (j7 n k)
 q:zQ n k=xW n k
theorem bE0{n k:Y}(R:RndOk n k)(h7:7<=n)(h2:n<=2000)(hk:k<1152921504606846976):RndEq n k:=by
 have a:zA n k=(rV n k:Z):=lM k n;have hd:k/n<=k:=E7 k n;have ex:zX n k=(cxX n k:Z):=by
  unfold zX;rw[BM (by omega),<-BI,rG (by omega),lM];rfl
 have b:zY n k=(cyY n k:Z):=by
  unfold zY;rw[show(n:Z)-1=((n-1:Y):Z) by omega,rG (by omega),lM];have:=AU k (show 0<n-1 by omega);exact rG (x:=1+k%(n-1)) (by omega)
 have f:zB n k=(uF n k:Z):=by unfold zB;rw[a,ex,b];exact aS3 (by omega)
 have c:zO n k=j7 n k:=by unfold zO j7;rw[a,f,Z8,Z8,Z8]
 have j:=R.o2;have d:zL n k=aL (j7 n k):=by unfold zL;rw[c,xF (by omega),Z8]
 have hlen:=R.len;have hl2:(aL (j7 n k)).length<=100:=by
  have P:=gW (show 1<=j7 n k by have:=R.o;omega);have i:=oP (show 1<=j7 n k by have:=R.o;omega);rw[<-gI]at P i;have:=sQ (aL (j7 n k)) λx g=>by obtain⟨p,e,_,_,h⟩:=P.mem x g;omega
  have h53:AM (j7 n k)<53:=(C2 (by have:=R.o;omega)).2 j;omega
 refine⟨a,ex,b,f,c,d,?_⟩;unfold zQ xW;rw[d,show((aL (j7 n k)).length:Z)-1=(((aL (j7 n k)).length-1:Y):Z) by omega,rG (by omega),Z8]
theorem bH9{A:O Stp}{f:Y->MV}(i:LeFun A.length f (aF A 200)){v:MV}(hv:isStp 200 v){s:Stp}(g:m7 v=s):LeFun (A.length+1) (λq=>bif AO q A.length then f q else aN [v] (q-A.length)) (aF (A++[s]) 200):=by
 refine⟨λq hq c w a r=>?_⟩;have r:RepC c w (bif AO q A.length then f q else aN [v] (q-A.length)) a:=r;show RepC c w (m8 ((A++[s]).getD q aB) 200) a;by_cases b:q<A.length
 .have e:AO q A.length=GE:=by simpa [CG]using b
  rw[e,Z6]at r;have k:(A++[s]).getD q aB=A.getD q aB:=by rw[AD,AD,BD b]
  rw[k];exact i.h q b c w a r
 .have d:q=A.length:=by omega
  subst d;have e:AO A.length A.length=GG:=by
   cases j:AO A.length A.length with
   |false=>rfl
   |true=>exact N (CG ▸ j) (CM _)
  rw[e,Z5,FJ]at r;rw[aFl A s,<-g];exact hv.h c w a r
theorem aKW{z:Z}(h1:0<=z)(h2:z<18446744073709551616):okS (b8 z):=⟨aQ _,by
 have:=bS (n:=z.natAbs) (b:=64) (by omega);show(aA z.natAbs).length<=6;omega,Z9 _,Z9 _⟩
def aXX(n at_:Y)(a b x y o:Y):MV:=MV.st [MV.int GF (4:Z),MV.big (↑n:Z) (64:Y),MV.sl (1:Y) (1:Y) λi=>MV.int GF (F [(at_:Z)] i (0:Z)),MV.val (AE GD (0:Y) (0:Y)),MV.st [MV.big (a:Z) 64,MV.big (b:Z) 64,MV.big (↑n:Z) (64:Y)],MV.st [MV.big (x:Z) 64,MV.big (y:Z) 64,MV.bool GG],MV.big (o:Z) (64:Y)]
theorem aXY{n at_ a b x y o:Y}(c:n<2^160):isOk (aXX n at_ a b x y o):=jZ (by omega) (by omega) (by omega) (by omega) (by omega) (by omega) (pF _) lV (by simpa using c) (by show 1<=90;omega) (by show 0<=1000;omega)
theorem aTg(n at_ a b x y o:Y):m7 (aXX n at_ a b x y o)=nH n at_ a b x y o:=by
 show(⟨4,G ((n:Z)<0),aA (n:Z).natAbs, [(at_:Z)], [],a,b,n,x,y,GG,o⟩:Stp)=_;rw[Y1 (show ¬(n:Z)<0 by omega)];rfl
theorem zK(L:O Stp)(n k:Y):(iU L n k).length=L.length+2:=by simp[iU]
theorem aQl(L:O Stp)(n k:Y):(iU L n k).take (L.length+1)=L++[b8 (xW n k)]:=by
 unfold iU;rw[List.take_append,D3 (by omega)];simp
theorem aTf(L:O Stp)(n k:Y):(iU L n k).getD (L.length+1) aB=nH n L.length (rV n k) (uF n k) (cxX n k) (cyY n k) (j7 n k):=by simp[iU,AD]
theorem aOg(n at_ a b x y o:Y):(nH n at_ a b x y o).n=n:=by
 show(if GG=GE then-(wv (aA n))else wv (aA n))=(n:Z);rw[V (by decide),iK]
theorem aOh{n at_ a b x y o:Y}(hn:n<18446744073709551616):okS (nH n at_ a b x y o):=⟨aQ _,by
 have:=bS (n:=n) (b:=64) (by omega);show(aA n).length<=6;omega,by show 1<=90;omega,by show 0<=1000;omega⟩
theorem bCT(L:GI Stp)(n a K:GJ)(V:Pri n)(v:7<=n)(l:n<=2000)(r:a%n<=K)(hK:K<1152921504606846976)(X:okT L)(hl:L.length<=900000)(W:fineL L L.length)(t:pR L n K=GE)(hno:∀k,a%n<=k->k<K->pR L n k=GG) :
  ∃E:Env AB,nP E F5 18 [.int .u64 n,.int .u64 a] L.length (aF L 200) (iU L n K).length (aF (iU L n K) 200) (.int .i64 (((iU L n K).length:GL)-1)):=by
 refine⟨aTn [aNI,aHm,aHt,aN2,aCO,mA,aHs,vS,cO] [] fzC (bBB n (a%n) K L) (bGG n L),?_⟩;rw[<-bFu L n a K _ rfl _ rfl _ rfl _ rfl _ rfl _ rfl];have hfm:a%n<n:=AU _ (by omega);have e1:GK GF (n:GL)=(n:GL):=rG (by omega);have e2:GK GF (tmod (a:GL) (n:GL))=((a%n:GJ):GL):=by rw[lM,rG (by omega)]
 have e3:GK GF ((n:GL)-1)≠0:=by rw[show(n:GL)-1=((n-1:GJ):GL) by omega,rG (by omega)];omega
 have Z:GK GF ((L.length:GL)+1)=((L.length+1:GJ):GL):=rG (x:=L.length+1) (by omega);rw[e1,e2,Z,Z8];have w:∀m:MV,AH (News.rows 18 1 (aN [m]))=1:=λ_=>rfl;refine⟨by omega,⟨⟨a%n, []⟩,⟨Z0 _,r⟩,⟨rfl,rfl,rfl,rfl,⟨⟩⟩,⟨⟨rfl,rfl⟩,⟨⟩⟩,⟨rfl,by
  grind [aF,AG]⟩,⟨⟩⟩,λs I=>?_⟩
 obtain⟨k,ex⟩:=s;obtain⟨N,H⟩:=I;dsimp only at N H⊢;have R:=aMU V v l k;obtain⟨q1,G,F,D,C,B,A⟩:=bE0 R v l (by omega);rw[q1,G,F,D,C,B,A,w,w];obtain⟨r1,r2,r3,r4,r5,r6,r7,z,r9,r10,r11,r12,r13⟩:=R;have r8':=z.lt;have y:GK GF ((k:GL)+1)=((k+1:GJ):GL):=rG (x:=k+1) (by omega);rw[y,xF (by omega)];have Y:GK GF (((aL (j7 n k)).length:GL)-1)=(((aL (j7 n k)).length-1:GJ):GL):=by
  have hl2:(aL (j7 n k)).length<=1000:=by
   have P:=gW (show 1<=j7 n k by omega);have U:=oP (show 1<=j7 n k by omega);rw[<-gI]at P U;have:=sQ (aL (j7 n k)) λx T=>by obtain⟨p,e,_,_,h⟩:=P.mem x T;omega
   have h53:AM (j7 n k)<53:=(C2 (by omega)).2 r7;omega
  grind [aL,j7,rG]
 rw[Y];have next:pR L n k=GG->∃j,CvI (a%n) K j/\(((0:GJ)=0/\(↑n:GL)=(↑n:GL)/\(↑n:GL)=(↑n:GL)/\((k+1:GJ):GL)=(↑(CvS.k j):GL)/\GR)/\(((0:GJ)=0/\GS L=GS L)/\GR)/\(GS L+GS ex=GS L+GS (CvS.ex j)/\LeFun (GS L+GS ex) (aF (L++ex) (200:GJ)) (aF (L++CvS.ex j) (200:GJ)))/\GR)/\K+1-CvS.k j<K+1-k:=λc=>by
  have o:k≠K:=λe=>by rw[e,t]at c;exact GM c (by decide)
  exact⟨⟨k+1,ex⟩,⟨by show a%n<=k+1;omega,by show k+1<=K;omega⟩,⟨⟨rfl,rfl,rfl,rfl,⟨⟩⟩,⟨⟨rfl,rfl⟩,⟨⟩⟩,⟨rfl,AG⟩,⟨⟩⟩,by show K+1-(k+1)<K+1-k;omega⟩
 refine⟨by omega,by omega,e3,by omega,by omega,by omega,?_⟩;cases i:qB (rV n k) (uF n k) n with
 |false =>
  exact next (by unfold pR;rw[i];rfl)
 |true =>
 show _/\_;refine⟨by omega,by omega,by omega,by omega,by omega,by omega,by omega,by omega,?_⟩;cases u:grB (xW n k) n with
 |false =>
  grind [pR]
 |true =>
 show _/\_;have hv:isOk (aXX n L.length (rV n k) (uF n k) (cxX n k) (cyY n k) (j7 n k)):=aXY (EO l (by decide));have g:=aHh (M:=L) (ex:=ex) (aPR (xW n k)) (rfl:m7 (aBU (xW n k))=b8 (xW n k));have f:(L++[b8 (xW n k)]).length=L.length+1:=by simp
 rw[<-f]at g;have b:=bH9 g hv.stp (aTg n L.length (rV n k) (uF n k) (cxX n k) (cyY n k) (j7 n k));rw[f,BL]at b;unfold aBb aXX at b;have okC:okT (iU L n k):=⟨by rw[zK];omega,λs hs=>by
  unfold iU at hs;rcases BR.1 hs with hs|hs
  .exact X.ok s hs
  grind [aKW,BB,aOh]⟩
 have okl:=sR okC;rw[zK]at okl;refine⟨by omega,by omega,⟨by omega,by omega,by omega,by omega,⟨Z0 _,by omega⟩,⟨k, []⟩,⟨rfl,i,u⟩,⟨rfl,rfl,rfl,rfl,rfl,⟨⟩⟩,⟨⟨rfl,rfl⟩,⟨⟩⟩,⟨rfl,b⟩,⟨⟩⟩,λs2 J=>?_⟩;obtain⟨k',ex'⟩:=s2;obtain⟨S,Q,O⟩:=J;dsimp only at S Q O⊢;have q:k'=k:=by omega
 subst q;rw[aRs (zK L n k'),aQl,aTf];refine⟨⟨Z0 _,by omega,by omega,okl,⟨λj hj=>?_⟩⟩,?_⟩
 .by_cases d:j<L.length
  .have:(iU L n k').getD j aB=L.getD j aB:=by unfold iU;rw[AD,AD,BD d]
   rw[this];exact W.h j d
  grind [iU,aB,b8,xW,aJc]
 .cases hs:bW (nums (L++[b8 (xW n k')])) (nH n L.length (rV n k') (uF n k') (cxX n k') (cyY n k') (j7 n k'))with
  |true =>
   grind [pR,BF,zK,AG]
  |false =>
   have c:pR L n k'=GG:=by unfold pR;rw[i,u,hs];rfl
   have o:k'≠K:=λe=>by rw[e,t]at c;exact GM c (by decide)
   exact⟨by omega,⟨k'+1, [b8 (xW n k'),nH n L.length (rV n k') (uF n k') (cxX n k') (cyY n k') (j7 n k')]⟩,⟨by show a%n<=k'+1;omega,by show k'+1<=K;omega⟩,⟨⟨rfl,rfl,rfl,y,⟨⟩⟩,⟨⟨rfl,Z8 _⟩,⟨⟩⟩,⟨rfl,AG⟩,⟨⟩⟩,by show K+1-(k'+1)<K+1-k';omega⟩
def aJ1(L:O Stp)(n a:Y):Y:=AT (⟨srF (pR L n) 1125899906842624 (a%n),rfl⟩:∃r,r=srF (pR L n) 1125899906842624 (a%n))
theorem aOe(L:O Stp)(n a:Y):aJ1 L n a=srF (pR L n) 1125899906842624 (a%n):=AN (⟨srF (pR L n) 1125899906842624 (a%n),rfl⟩:∃r,r=srF (pR L n) 1125899906842624 (a%n))
def aEa(L:O Stp)(n a:Y):O Stp:=AT (⟨iU L n (aJ1 L n a),rfl⟩:∃r,r=iU L n (aJ1 L n a))
theorem aOf(L:O Stp)(n a:Y):aEa L n a=iU L n (aJ1 L n a):=AN (⟨iU L n (aJ1 L n a),rfl⟩:∃r,r=iU L n (aJ1 L n a))
structure curP (m:Nat) (g:Nat->MV) (n fr:Int):Prop where
 pr:Pri n.toNat
 n7:7<=n
 n2:n<=2000
 f0:0<=fr
 f6:fr<1099511627776
 ok:okL m g
 fine:fineL (aE m g) m
 len:m<=900000
 yes:∃k,n.toNat-1<=k/\k<1099511627776/\pR (aE m g) n.toNat k=true
def aPk:O MV->Y->(Y->MV)->C (OProp×Y×(Y->MV)×MV)
 |[.int .u64 n,.int .u64 a],m,g=>GC (GC (curP m g n a),(aEa (aE m g) n.toNat a.toNat).length,aF (aEa (aE m g) n.toNat a.toNat) 200,.int .i64 (((aEa (aE m g) n.toNat a.toNat).length:Z)-1))
 |_,_,_=>GD
theorem aXZ:POk AB 28 18 aPk:=oK bT Tryz.func28 aPk λms m g p n' g' v c l=>by
 unfold aPk at c;split at c
 .rename_i d f0;simp only[Z1,Z2]at c;obtain⟨rfl,rfl,rfl,rfl⟩:=c;have H:curP m g d f0:=l;obtain⟨n,rfl⟩:∃n:Y,d=n:=⟨d.toNat,by have:=H.n7;omega⟩;obtain⟨a,rfl⟩:∃n:Y,f0=n:=⟨f0.toNat,by have:=H.f0;omega⟩;obtain⟨pr,n7,n2,f0,f6,ok,fine,len,k,y1,y2,j⟩:=H;rw[Z8]at *;rw[Z8]at *;have e:=dG m g;have b:fineL (aE m g) (aE m g).length:=by rw[e];exact fine
  have hfm:a%n<n:=AU _ (by omega);have i:=aI8 (pR (aE m g) n) 1125899906842624 (a%n);have o:=aM3 (pR (aE m g) n) 1125899906842624 (a%n);have h:=aDR (pR (aE m g) n) 1125899906842624 (a%n);have f:=aAZ (pR (aE m g) n) 1125899906842624 (a%n) k (by omega) (by omega) j;rw[<-aOe]at i o h f;have:=bCT (aE m g) n a (aJ1 (aE m g) n a) pr (by omega) (by omega) i (by omega) ok.T (by omega) b f h;rw[<-aOf,e]at this;exact⟨aF (aE m g) 200,j0 ok.stp,this⟩
 .simp at c
def bGs:PCtr AB:=⟨28,18,aPk,λargs w=>Tryz.call28 args w,aXZ⟩
end
end Go.Proofs.YtkejceafemeifaaGreatDoor
