/-
  For each prime from 7 to 1511 a round of Curve in which the number of points is a prime: checked by the kernel.
-/
import Derived.Test.YtkejceafemeifaaGreatDoorS4
import Derived.Test.YtkejceafemeifaaGreatDoorS2
import Derived.Test.YtkejceafemeifaaGreatDoorS3
import Derived.Shelf.Spec.SlicesGrow
import Derived.Tactics
import Derived.Tactics2
import Derived.Defers
import Derived.Recover
import Derived.Laws.Pointers

namespace Go.Proofs.YtkejceafemeifaaGreatDoor
set_option linter.defProp false
set_option linter.unusedVariables false
set_option linter.unusedSimpArgs false
open Go Go.RowKit
open Go.IntKind (wrap i64 i32 i16 i8 u64 u32 u16 u8)
open Int (toNat natAbs)
open List (length take drop getD set replicate)
open BitVec (ofInt)
open Int (gcd tmod tdiv fdiv)
open Int renaming dvd_mul_of_dvd_right->AA,dvd_add->AB,emod_eq_emod_iff_emod_sub_eq_zero->AJ,natCast_mul->AM,natCast_emod->AO,emod_eq_zero_of_dvd->AT,natAbs_natCast->A1,dvd_mul_of_dvd_left->A2,emod_eq_of_lt->A3,dvd_of_emod_eq_zero->A7,pow_succ->BE,natCast_ediv->BF,mul_comm->BK,emod_nonneg->BT,emod_lt_of_pos->BV,mul_one->BW,natAbs_dvd_natAbs->B0,mul_assoc->B4,mul_add->B8,dvd_sub->B9,natCast_pow->CB,natCast_add->CC,tdiv_eq_ediv_of_nonneg->CF,mul_sub->CJ,natCast_dvd_natCast->CR,mul_zero->CY,one_mul->C4,emod_emod_of_dvd->C5,le_of_dvd->DA,sub_add_cancel->DC,pow_zero->DI,mul_neg->DT,tmod_eq_emod_of_nonneg->D1,add_mul_emod_self_left->D2,sub_self->D7,mul_emod->D8,gcd_comm->D9,dvd_zero->EA,dvd_refl->EB,lt_trichotomy->EV,natCast_one->E8,natAbs_mul->E9,zero_mul->FM,emod_def->FN,add_comm->FO
open Go.Proofs.Tryz renaming prog->AC,f61->ED,f25->EE,f134->EQ,results93->EZ,f55->E0,f54->E1,f37->E2,f34->E3,f14->E4,ntmps93->FA,f9->FB,func93->FF,func25->FG,f99->FX,f98->FY,f97->FZ,f94->F0,f48->F1,f33->F2,f31->F3,f27->F4,f26->F5,f22->F6,f21->F7,f20->F8
open List renaming mem_cons_of_mem->AD,mem_cons_self->AH,getD_eq_getElem?_getD->AI,all_eq_true->A4,map_cons->A8,length_cons->A9,take_succ_eq_append_getElem->BD,mem_singleton->BG,mem_append->BL,mem_map->BM,getElem?_append_left->BO,getElem?_eq_getElem->BP,nodup_cons->BR,length_append->BS,range'->BU,append_assoc->BX,mem_iff_getElem->B3,mem_cons->CI,take_length->CL,length_eq_zero_iff->CM,ext_getElem->CN,nil_append->CV,length_map->CW,pairwise_cons->C9,pairwise_map->DD,not_mem_nil->DK,drop_length->DL,append_nil->DS,map_map->D4,length_pos_of_mem->D5,mem_of_mem_take->EF,range->EM,length_range'->EN,mem_range'_1->EP,length_take->EU,range_succ->EY,mem_range->E7,map_nil->FD,Nodup->FV
open Go.Value renaming slice->AE
open Nat renaming dvd_of_mod_eq_zero->AF,le_of_dvd->AL,log2->AN,blt->AQ,mul_le_mul->AR,mul_div_cancel_left->AS,mod_two_eq_zero_or_one->AU,mul_comm->AW,mod_eq_zero_of_dvd->AX,mul_le_mul_left->AY,le_trans->A5,pow_le_pow_right->A6,mod_lt->BB,zero_add->BH,lt_or_ge->BI,add_sub_cancel->BJ,pow_succ->BN,mul_left_comm->BY,add_zero->BZ,mul_assoc->B1,gcd->B2,le_log2->B5,mul_mod->CG,beq->CH,pow_succ'->CK,mod_eq_of_lt->CO,min_eq_right->CP,le_add_right->CQ,pow_zero->CT,le_mul_of_pos_left->CU,eq_of_beq_eq_true->CZ,one_mul->C1,mul_one->C2,mul_le_mul_right->C3,lt_irrefl->C7,add_assoc->C8,blt_eq->DB,succ_mul->DF,mul_zero->DG,gcd_comm->DH,coprime_comm->DM,pow_pos->DN,mul_pos->DO,le_succ->DP,Coprime->DR,strongRecOn->DV,not_lt_zero->DW,min_eq_left->DX,div_lt_self->DY,div_add_mod->DZ,beq_eq->D0,add_mul_mod_self_left->D3,mod->D6,pow_mod->EH,mod_mod->EI,log2_lt->EJ,gcd_rec->EK,div_pos->EL,lt_of_lt_of_le->EO,mul_mod_right->ER,gcd_zero_left->ES,div->ET,lt_succ_self->EW,div_eq_of_lt->EX,two_pow_pos->E5,mul_add_div->E6,dvd_trans->FC,zero_mul->FH,lt_trans->FI,dvd_refl->FJ,add_comm->FK,add->FL,pow_one->FP,pow_mul->FQ,pow_add->FR,mul_add->Do,add_mul->FT,add_mod->FU,pow->F9
open ak renaming refl->AG
open bh renaming len->AK
open Classical renaming choose_spec->AP,choose->A0,byContradiction->BA
open Bool renaming true_and->AV,false_and->C0,eq_false_iff->DE,or_true->FE
open cj renaming sat->AZ
open Nat.Coprime renaming dvd_of_dvd_mul_left->BQ,coprime_dvd_left->C6,mul_left->FW
open List.Pairwise renaming imp_of_mem->B6,nil->CX
open Go.IntKind renaming bits->B7
open _root_.Array renaming replicate->CA,getElem?_eq_some_iff->CD,getD_eq_getD_getElem?->DU
open Go.Builtin renaming zeroCells->CE
open ab renaming can->CS,n->EG
open Ctx renaming args->DJ,res->EC
open _root_ renaming Int->Z,Nat->Y,List->O,True->E,if_pos->U,if_neg->V,Option->C,False->H,Bool->J,absurd->N,Array->R,cond->o,congrArg->r,List->GG,Nat->GH,Int->GJ,absurd->GK,False->GL
open List renaming length->D,getD->F,take->W,drop->Q,replicate->l,take->GP
open Int renaming toNat->S,tmod->P,natAbs->GM,tdiv->GO
open Go.IntKind renaming wrap->X,i64->GD,u64->GF,wrap->GI
open Decidable renaming decide->G
open Go renaming World->I,Oper->L,Program->M,Value->K
open Option renaming some->GA,none->GB
open Bool renaming true->GC,false->GE
open BitVec renaming ofInt->GN
noncomputable section
def RG:aG
 |[.st [.bool g,.ws l],.aa b n]=>GA (GA (n<=1000/\dj g l),.ret (.int .i64 (aY (eE g l) b)))
 |_=>GB
def Rk:ah AC:=iQ.conv RG λms p r h a hf=>by
 unfold RG at h;split at h
 .rename_i g l b n;simp only[Z1,Z2]at h;obtain⟨rfl,rfl⟩:=h;obtain⟨h1,c⟩:n<=1000/\dj g l:=a;exact⟨[.aa (eE g l) 200,.aa b n],_,⟨qS c,cB,⟨⟩⟩,rfl,by omega,by omega⟩
 .simp at h
def PC:aG
 |[.st [.bool g,.ws l]]=>GA (GA (dj g l),.ret (.tup [.int .i64 (xO (eE g l)),.bool (p6 (eE g l))]))
 |_=>GB
def Pc:ah AC:=aep.conv PC λms p r h a hf=>by
 unfold PC at h;split at h
 .rename_i g l;simp only[Z1,Z2]at h;obtain⟨rfl,rfl⟩:=h;exact⟨[.aa (eE g l) 200],_,⟨qS a,⟨⟩⟩,rfl,⟨⟩⟩
 .simp at h
def R5{s:ab}(h:ff s)(a:s.can=GC):eI 0 (jV s 200) (He s 200) :=
 ⟨rfl,qS ⟨h.wd,h.len,a⟩,⟨rfl,rfl,AG⟩,⟨rfl,rfl,AG⟩,⟨cB,cB,cB,⟨⟩⟩,⟨cB,cB,rfl,⟨⟩⟩,cB,⟨⟩⟩
def mx(R:ab->Y->(Y->MV)->cj):aG
 |[.st [.int .i64 k,.st [.bool g,.ws l],.sl 1 c f,.sl 2 d h,.st [.aa a u,.aa b t,.aa m w3],.st [.aa x r,.aa y p,.bool i],.aa o w6],.sl 2 e q] =>
  GA (GA (il (.st [.int .i64 k,.st [.bool g,.ws l],.sl 1 c f,.sl 2 d h,.st [.aa a u,.aa b t,.aa m w3],.st [.aa x r,.aa y p,.bool i],.aa o w6]) (λs=>s.can=GC/\2<=s.n)/\(∀j,j<e->dq 200 (q j))/\e<=90/\∀z∈aH e q,2<=z),
   R ⟨k,g,l,iT c f,aH d h,a,b,m,x,y,i,o⟩ e q)
 |_=>GB
def yN{s:ab}(ok:ff s){e:Y}{q:Y->MV}(c:∀j,j<e->dq 200 (q j))(b:e<=90)(a:∀z∈aH e q,2<=z):gy 200 200 200 200 200 200 200 s.base.length e (iL s.base 200) q :=
 ⟨Z0 _,Z0 _,Z0 _,Z0 _,Z0 _,Z0 _,Z0 _,λj _=>k9 _ (Z0 _) j,c,b,by have:=ok.base;omega,a⟩
def qp{c:ah AC}{R:ab->Y->(Y->MV)->cj}(i:∀s e q,ff s->s.can=GC->2<=s.n->(∀j,j<e->dq 200 (q j))->e<=90->(∀z∈aH e q,2<=z)->∃p,c.spec [He s 200,.sl 2 e q]=GA (p,R s e q)/\p.holds) :
  ∀b p r,mx R b=GA (p,r)->p.holds->fR b->∃bf p',lB.di 0 b bf/\c.spec bf=GA (p',r)/\p'.holds:=by
 intro b p r a h hf;unfold mx at a;split at a
 .simp only[Z1,Z2]at a;obtain⟨rfl,rfl⟩:=a;obtain⟨⟨s,e,ok,can,g⟩,q1,f,d⟩:=h;unfold jV at e;cases e;obtain⟨p,l,k⟩:=i s _ _ ok can g q1 f d;rename_i e q;refine⟨[He s 200,.sl 2 e q],p,⟨R5 ok can,⟨rfl,rfl,AG⟩,⟨⟩⟩,?_,k⟩;rw[l,hH,eJ]
 .simp at a
def OF:ah AC:=adk.conv (mx λs e q=>.ret (.bool (xc s (aH e q)))) (qp λs e q ok _ c q1 b a =>
 ⟨GA (gy 200 200 200 200 200 200 200 s.base.length e (iL s.base 200) q/\2<=s.n),by
  show GA (_,cj.ret (.bool (uW s.n (aH s.base.length (iL s.base 200)) (kx s) (aH e q))))=_;rw[eJ];rfl,⟨yN ok q1 b a,c⟩⟩)
def OG:ah AC:=aeo.conv (mx λs e q=>.ret (.bool (xe s (aH e q)))) (qp λs e q ok _ c q1 b a =>
 ⟨GA (gy 200 200 200 200 200 200 200 s.base.length e (iL s.base 200) q/\2<=s.n),by
  show GA (_,cj.ret (.bool (vA s.n (aH s.base.length (iL s.base 200)) (kx s) (aH e q))))=_;rw[eJ];rfl,⟨yN ok q1 b a,c⟩⟩)
def OE:ah AC:=adj.conv (mx λs e q=>.ret (.bool (wy s (aH e q)))) (qp λ_ _ _ ok _ _ q1 b a=>⟨_,rfl,yN ok q1 b a⟩)
def On:aG
 |[.st [.int .i64 k,.st [.bool g,.ws l],.sl 1 c f,.sl 2 d h,.st [.aa a p,.aa b n,.aa m w3],.st [.aa x j,.aa y e,.bool i],.aa o w6]] =>
  GA (GA (il (.st [.int .i64 k,.st [.bool g,.ws l],.sl 1 c f,.sl 2 d h,.st [.aa a p,.aa b n,.aa m w3],.st [.aa x j,.aa y e,.bool i],.aa o w6]) (λs=>s.can=GC)),.ret (.bool (dT a b m x y o i)))
 |_=>GB
def N9:ah AC:=uC.conv On λms p r a b hf=>by
 unfold On at a;split at a
 .simp only[Z1,Z2]at a;obtain⟨rfl,rfl⟩:=a;obtain⟨⟨s,e,ok,can⟩⟩:=b;unfold jV at e;cases e;exact⟨[He s 200],_,⟨R5 ok can,⟨⟩⟩,rfl,by omega,by omega,by omega,by omega,by omega,by omega⟩
 .simp at a
def Yj(L:O ab)(i:Y)(T:J)(a:_)(q:a=(F L (S (i:Z)) aB))(e:_)(m:e=(eE (ab.neg a) (ab.ai a)))(g:_)(l:g=(cD (bj (W (S (i:Z)) (aE (D L) (aF L 200)))) (ab.parts (F (aE (D L) (aF L 200)) (S (i:Z)) aB)) []))(b:_)(p:b=(Option.getD g []))(c:_)(k:c=(ab.base a))(d:_)(h:d=(ab.parts a))(f:_)(o:f=(MV.st [MV.int GD (ab.kind a),MV.st [MV.bool (ab.neg a),MV.ws (ab.ai a)],MV.sl 1 (D d) (bI d),MV.sl 2 (D c) (iL c 200),MV.st [MV.aa (ab.ca a) 200,MV.aa (ab.cb a) 200,MV.aa (ab.cm a) 200],MV.st [MV.aa (ab.x a) 200,MV.aa (ab.y a) 200,MV.bool (ab.inf a)],MV.aa (ab.ord a) 200])):((0<=(i:Z)/\(i:Z)<(D L:Z))/\(0<=(i:Z)/\(i:Z)<(D L:Z)/\D L<=1000000/\(∀(j:Y),j<D L->kv 200 (aF L 200 j))/\(∀(s:ab),s∈aE (D L) (aF L 200)->ff s)/\∀(s:ab),s∈W (S (i:Z)) (aE (D L) (aF L 200))->CS s=GC)/\bif Option.isSome g then il f UB/\bif !nD (ab.neg a) (ab.ai a)then GE=T else fX 2/\(64<=1000/\dj (ab.neg a) (ab.ai a))/\bif G (aY e 2<0)then GE=T else bif ab.kind a ==1 then dj (ab.neg a) (ab.ai a)/\bif p6 e then bif G (xO e <65536)then (0<=X GF (xO e)/\X GF (xO e)<18446744073709551616)/\bif gX (S (X GF (xO e)))then bif X GD ((D b :Z)+(D c :Z))==0 then (il f λs=>CS s=GC)/\dT (ab.ca a) (ab.cb a) (ab.cm a) (ab.x a) (ab.y a) (ab.ord a) (ab.inf a)=T else GE=T else GE=T else GE=T else GE=T else bif ab.kind a ==2 then ((il f λs=>CS s=GC/\2<=EG s)/\(∀(j:Y),j<D b ->dq 200 (iL b 200 j))/\D b <=90/\∀(z:Z),z∈aH (D b) (iL b 200)->2<=z)/\xc {kind:=ab.kind a,neg:=ab.neg a,ai:=ab.ai a,parts:=iT (D d) (bI d),base:=aH (D c) (iL c 200),ca:=ab.ca a,cb:=ab.cb a,cm:=ab.cm a,x:=ab.x a,y:=ab.y a,inf:=ab.inf a,ord:=ab.ord a} (aH (D b) (iL b 200))=T else bif ab.kind a ==3 then ((il f λs=>CS s=GC/\2<=EG s)/\(∀(j:Y),j<D b ->dq 200 (iL b 200 j))/\D b <=90/\∀(z:Z),z∈aH (D b) (iL b 200)->2<=z)/\xe {kind:=ab.kind a,neg:=ab.neg a,ai:=ab.ai a,parts:=iT (D d) (bI d),base:=aH (D c) (iL c 200),ca:=ab.ca a,cb:=ab.cb a,cm:=ab.cm a,x:=ab.x a,y:=ab.y a,inf:=ab.inf a,ord:=ab.ord a} (aH (D b) (iL b 200))=T else bif ab.kind a ==4 then ((il f λs=>CS s=GC/\2<=EG s)/\(∀(j:Y),j<D b ->dq 200 (iL b 200 j))/\D b <=90/\∀(z:Z),z∈aH (D b) (iL b 200)->2<=z)/\wy {kind:=ab.kind a,neg:=ab.neg a,ai:=ab.ai a,parts:=iT (D d) (bI d),base:=aH (D c) (iL c 200),ca:=ab.ca a,cb:=ab.cb a,cm:=ab.cm a,x:=ab.x a,y:=ab.y a,inf:=ab.inf a,ord:=ab.ord a} (aH (D b) (iL b 200))=T else GE=T else GE=T)=aI (aK [N8,Rg,cC,Rk,Pc,ss,N9,OF,OG,OE] aC) E2 [.sl 18 L.length (aF L 200),.int .i64 i] (AZ (.ret (.bool T))):=by subst q m l p k h o;kernel_rfl
def IZ{a:O Z}:∀ {P q R:O Z},cD a P q=GA R->(∀z∈q,z∈a)->R.length=q.length+P.length/\∀z∈R,z∈a
 |[],q,R,h,hq=>by
  have h:GA q=GA R:=h
  simp_all
 |j::P,q,R,h,hq=>by
  rw[pM]at h;cases b:(G (0<=j)&&(G (j<a.length)&&!(q.elem (a.getD j.toNat 0))))with
  |false=>rw[b]at h;cases h
  |true =>
   rw[b,Z6]at h;simp only[Z3,Z4]at b;have hj:j.toNat<a.length:=by omega
   obtain⟨h1,h2⟩:=IZ h (λz hz=>by
    grind)
   grind
theorem PO{L:O ab}{i:Y}{z:Z}(h:z∈bj (L.take i)):∃j,j<i/\j<L.length/\z=(L.getD j aB).n:=by
 unfold bj at h;obtain⟨s,a,rfl⟩:=BM.1 h;obtain⟨j,b,e⟩:=B3.1 a;have art:j<min i L.length:=by simpa using b
 refine⟨j,by omega,by omega,?_⟩
 grind
def PM{a:O Z}{s:ab}{q:O Z}(h:cD a s.parts []=GA q):cE a s=(s.can&&(G (1<s.n)&&vz s q)):=by
 unfold cE;rw[h]
def M7{a:O Z}{s:ab}(h:cD a s.parts []=GB):cE a s=GE:=by
 grind [cE]
def X9(L:O ab)(i:Y)(I:i<L.length)(J:L.length<=1000000)(o:∀j,j<L.length->ff (L.getD j aB))(hc:∀j,j<i->(L.getD j aB).can=GC/\2<=(L.getD j aB).n) :
  ∃E:Env AC,aI E E2 [.sl 18 L.length (aF L 200),.int .i64 i] (AZ (.ret (.bool (cE (bj (L.take i)) (L.getD i aB))))):=by
 refine⟨aK [N8,Rg,cC,Rk,Pc,ss,N9,OF,OG,OE] aC,?_⟩;rw[<-Yj L i (cE (bj (L.take i)) (L.getD i aB)) _ rfl _ rfl _ rfl _ rfl _ rfl _ rfl _ rfl];rw[j8,Z8];have ok:=o i I;have p:∀z∈bj (L.take i),2<=z:=λz B=>by
  grind [PO]
 have f:∀s∈L,ff s:=λs G=>by
  grind [B3,BP]
 have r:∀s∈L.take i,s.can=GC:=λs G=>by
  grind [B3,BP]
 refine⟨by omega,⟨by omega,by omega,J,λj _=>vb _ 200,f,r⟩,?_⟩;generalize L.getD i aB=s at *;generalize bj (L.take i)=t at *;generalize a:cE t s=T;cases g:cD t s.parts []with
 |none =>
  rw[M7 g]at a;exact a
 |some q =>
 obtain⟨l,k⟩:=IZ g (λz h=>N h DK);rw[PM g]at a;rw[Option.isSome_some,Z6,Option.getD_some];have raw:∀ {P:ab->Prop},P s->il (.st [.int .i64 s.kind,.st [.bool s.neg,.ws s.ai],.sl 1 s.parts.length (bI s.parts),.sl 2 s.base.length (iL s.base 200),.st [.aa s.ca 200,.aa s.cb 200,.aa s.cm 200],.st [.aa s.x 200,.aa s.y 200,.bool s.inf],.aa s.ord 200]) P:=λh=>⟨s,rfl,ok,h⟩;have B:eE s.neg s.ai=s.n:=rfl;rw[B];refine⟨raw ⟨⟩,kB Iff.rfl (λcan=>?_) (λz=>?_)⟩
 rotate_left
 .rw[<-a];have:s.can=GE:=DE.2 z
  simp_all
 have can:s.can=GC:=can;have C:dj s.neg s.ai:=⟨ok.wd,ok.len,can⟩;rw[can,AV]at a;refine⟨by omega,⟨by omega,C⟩,aJ (decide_eq_true_iff.trans zy) (λz=>by rw[<-a,Y1 (show ¬ 1<s.n by omega),C0]) (λz=>?_)⟩;have D:2<=s.n:=by omega
 rw[Y0 (show 1<s.n by omega),AV]at a;unfold vz at a;rw[eJ,eJ,hH];have c:∀z∈q,2<=z:=λz h=>p z (k z h);have b:q.length<=90:=by have:=ok.parts;rw[l];simpa using this
 have e:∀j,j<q.length->dq 200 (iL q 200 j):=λj _=>k9 q (Z0 _) j;cases A:s.kind==1 with
 |true =>
  rw[A,Z6]at a;rw[Z6];refine⟨C,?_⟩;have hb:=ok.base;unfold Hf tS at a;cases q1:p6 s.n with
  |false =>
   grind [uK]
  |true =>
  have LK:=uK.1 q1;have H:xO s.n=s.n:=by unfold xO;rw[q1];rfl
  have F:X GF s.n=s.n:=by rw[oJ];exact A3 (by omega) (by omega)
  rw[Z6,H,F];refine aJ Z4 (λz=>?_) (λz=>by rw[<-a,Y1 z,C0]);rw[Y0 z,AV]at a;have m:ep s.n=gX s.n.toNat:=if_pos ⟨by omega,by omega⟩;have K:X GD ((q.length:Z)+(s.base.length:Z))=((q.length+s.base.length:Y):Z):=by rw[aV (by omega) (by omega)];omega
  rw[K,<-m];refine⟨by omega,aJ Iff.rfl (λz=>?_) (λz=>?_)⟩
  .rw[z,Bool.and_true]at a;refine aJ beq_iff_eq (λz=>⟨raw can,?_⟩) (λz=>?_)
   .rw[Y0 (show q.length=0 by omega),Y0 (show s.base.length=0 by omega),AV,AV]at a;exact a
   grind
  simp_all
 |false =>
 rw[A,Z5]at a;rw[Z5];have d:il _ (λs:ab=>s.can=GC/\2<=s.n):=raw ⟨can,D⟩;cases w:s.kind==2 with
 |true=>rw[w,Z6]at a;exact⟨⟨d,e,b,c⟩,a⟩
 |false =>
 rw[w,Z5]at a;rw[Z5];cases v:s.kind==3 with
 |true=>rw[v,Z6]at a;exact⟨⟨d,e,b,c⟩,a⟩
 |false =>
 rw[v,Z5]at a;rw[Z5];cases u:s.kind==4 with
 |true=>rw[u,Z6]at a;exact⟨⟨d,e,b,c⟩,a⟩
 |false =>
 rw[u,Z5]at a;rw[Z5];exact a
structure cw (n:Nat) (f:Nat->MV):Prop where
 len:n<=1000000
 jn:∀j,j<n->kv 200 (f j)
 ok:∀s∈aE n f,ff s
structure e8 (L:List ab):Prop where
 len:L.length<=1000000
 ok:∀s∈L,ff s
def e8.at{L:O ab}(h:e8 L):∀j,j<L.length->ff (L.getD j aB):=λj a=>by
 rw[AI,BP a,Option.getD_some];exact h.ok _ (List.getElem_mem a)
def cw.T{n:Y}{f:Y->MV}(h:cw n f):e8 (aE n f):=⟨by rw[dD];exact h.len,h.ok⟩
def oE{L:O ab}(h:e8 L):cw L.length (aF L 200):=⟨h.len,λj _=>vb _ 200,by rw[j8];exact h.ok⟩
def cw.le{n:Y}{f:Y->MV}(h:cw n f):lB 0 (.sl 18 n f) (.sl 18 (aE n f).length (aF (aE n f) 200)):=⟨rfl,(dD n f).symm,jW h.jn⟩
structure fp (L:List ab) (i:Nat):Prop where
 h:∀j,j<i->(L.getD j aB).can=true/\2<=(L.getD j aB).n
def xH:aG
 |[.sl 18 n f,.int .i64 i]=>GA (GA (0<=i/\i<n/\cw n f/\fp (aE n f) i.toNat),.ret (.bool (cE (bj ((aE n f).take i.toNat)) ((aE n f).getD i.toNat aB))))
 |_=>GB
def Z':∀b p r,xH b=GA (p,r)->p.holds->fR b->∃bf,lB.di 0 b bf/\∃E:Env AC,aI E E2 bf r.sat:=by
 intro b p r a d hf;unfold xH at a;split at a
 .rename_i n f i;simp only[Z1,Z2]at a;obtain⟨rfl,rfl⟩:=a;obtain⟨h1,h2,c,e⟩:=d;obtain⟨i,rfl⟩:∃u:Y,i=u:=⟨i.toNat,by omega⟩;rw[Z8]at *;have hl:=dD n f;exact⟨[.sl 18 (aE n f).length (aF (aE n f) 200),.int .i64 i],⟨c.le,rfl,⟨⟩⟩,X9 (aE n f) i (by omega) c.T.len c.T.at e.h⟩
 .simp at a
def v7:ah AC:=⟨37,xH,λargs w=>Tryz.call37 args w,gR bQ Tryz.func37 xH Z'⟩
structure i! (L:List ab) (R:Option Nat) (s:cl):Prop where
 hi:s.i<=L.length
 hr:tR (bj (L.take s.i)) (L.drop s.i) s.i=R
 hf:fp L s.i
def alE{l:O ab}{i:Y}(h:i<l.length):l.drop i=l.getD i aB::l.drop (i+1):=by
 simp_all
theorem ZU{L:O ab}{i:Y}(h:i<L.length):bj (L.take (i+1))=bj (L.take i)++[(L.getD i aB).n]:=by
 grind [bj,BD]
def YC(a:O Z)(s:ab)(r:O ab)(i:Y):tR a (s::r) i=o (cE a s) (tR (a++[s.n]) r (i+1)) (GA i):=rfl
theorem Yd{a:O Z}{s:ab}(h:cE a s=GC):s.can=GC/\2<=s.n:=by
 grind [cE]
def i!.step{L:O ab}{R:C Y}{i:Y}(h:i! L R ⟨i⟩)(c:i<L.length):(cE (bj (L.take i)) (L.getD i aB)=GC->i! L R ⟨i+1⟩)/\(cE (bj (L.take i)) (L.getD i aB)=GE->R=GA i):=by
 obtain⟨hi,a,d⟩:=h;have a:tR (bj (L.take i)) (L.drop i) i=R:=a;rw[alE c,YC]at a;refine⟨λh=>⟨c,?_,⟨λj hj=>?_⟩⟩,λh=>?_⟩
 .grind [ZU]
 .by_cases b:j<i
  .exact d.h j b
  grind [Yd]
 simp_all
def i!.fin{L:O ab}{R:C Y}{i:Y}(h:i! L R ⟨i⟩)(hl:¬i<L.length):i=L.length/\R=GB:=by
 obtain⟨c,b,hf⟩:=h;have c:i<=L.length:=c;have a:i=L.length:=by omega
 subst a;rw[DL]at b;exact⟨rfl,b.symm⟩
def i!.zero(L:O ab):i! L (tR [] L 0) ⟨0⟩:=⟨Z9 _,rfl,⟨λj a=>N a (DW j)⟩⟩
def atR(R:C Y):Z:=((R.getD 0:Y):Z)
def eR(R:C Y)(n:Y):Z:=cond R.isSome 70 (o (n.beq 0) 70 0)
def aaF(L:O ab):my L=atR (tR [] L 0):=by
 unfold my atR
 grind
def Rp(L:O ab):fw L=eR (tR [] L 0) L.length:=by
 unfold fw eR
 grind
def Pk{L:O ab}(h:fw L=0):L.length≠0/\fp L L.length:=by
 rw[Rp]at h;cases c:tR [] L 0 with
 |some k =>
  rw[c]at h;have h:(70:Z)=0:=h;omega
 |none =>
  rw[c]at h;refine⟨λb=>by rw[b]at h;exact N h (by decide),?_⟩;have b:=i!.zero L;rw[c]at b;have a:∀i,i<=L.length->i! L GB ⟨i⟩:=λi=>by
   induction i with
   |zero=>exact λ_=>b
   |succ i d =>
    intro hi;obtain⟨s1,s2⟩:=(d (by omega)).step (show i<L.length by omega)
    simp_all
  exact(a L.length (Z0 _)).hf
def xB(L:O ab)(n:Z):J:=decide (fw L=0)&&G ((L.getD (L.length-1) aB).n=n)
def IC{L:O ab}(h:e8 L){i j:Y}(c:fp L i)(b:j<i:=by omega)(a:j<L.length:=by omega):dj (L.getD j aB).neg (L.getD j aB).ai :=
 ⟨(h.at j a).wd,(h.at j a).len,(c.h j b).1⟩
section
open Go Go.RowKit Go.Shelf
def Cg:Go.Shelf.Ren:=⟨fun|4=>133|n=>n,fun|22=>41|25=>39|n=>n,λn=>n⟩
def anH:Go.Proofs.Lays8.n4 AC Cg:={
 mixed:=by kernel_rfl
 f4:=⟨Tryz.f133.name,by decide,Tryz.func133.trans (r GA (by kernel_rfl))⟩
 t0:=Tryz.underlying0
 a0:=Tryz.isAgg0
 z0:=Tryz.sizeOf0
 v0:=Tryz.zeroValue0
 t3:=Tryz.underlying3
 a3:=Tryz.isAgg3
 z3:=Tryz.sizeOf3
 v3:=Tryz.zeroValue3
 t4:=Tryz.underlying4
 a4:=Tryz.isAgg4
 z4:=Tryz.sizeOf4
 v4:=Tryz.zeroValue4
 t9:=Tryz.underlying9
 a9:=Tryz.isAgg9
 z9:=Tryz.sizeOf9
 v9:=Tryz.zeroValue9
 t20:=Tryz.underlying20
 a20:=Tryz.isAgg20
 z20:=Tryz.sizeOf20
 v20:=Tryz.zeroValue20
 t22:=Tryz.underlying41
 a22:=Tryz.isAgg41
 z22:=Tryz.sizeOf41
 v22:=Tryz.zeroValue41 }
theorem aih:(match Tryz.prog.info? 39 with
  |some i=>(match i.zero with
   |some z=>i.size.beq 2&&(i.bytes.ble 64&&z.cells.size.beq 2)
   |none=>GE)
  |none=>GE)=GC:=by kernel_rfl
def adZ:∃i z,Tryz.prog.info? 39=GA i/\i.zero=GA z/\i.size=2/\i.bytes<=64/\z.cells.size=2:=by
 grind [aih,D0,Nat.ble_eq]
def J6:O MV->C (bq×Y×Y×(Y->MV))
 |[.val (.slice GB 0 0),.int .i64 z]=>GA (GA (0<z/\z<=100000),2,0,λ_=>.any)
 |_=>GB
def aej(S:Y->Prop)(w:I)(f:O MV)(args:R K)(p:bq)(wd n:Y)(g:Y->MV)(c:J6 f=GA (p,wd,n,g))(v:p.holds)(_:∀b,S b->b<w.heap.size)(_:GW S w)(y:cr (DJ S) w f args.toList):Calls AC 133 args w λe w'=>Ext w w'/\∃b arr ty cap,e= .returned (.slice (GA ⟨b,0,GB⟩) n cap)/\w.heap.size<=b/\
   w'.heap[b]? =GA (.cells arr ty (0,0))/\arr.size=cap*wd/\n<=cap/\gJ (DJ λx=>S x\/x=b) w' (.rows wd n g) arr:=by
 unfold J6 at c;split at c
 .rename_i z;simp only[Z1,Z2]at c;obtain⟨rfl,rfl,rfl,rfl⟩:=c;obtain⟨h1,h2⟩:0<z/\z<=100000:=v;obtain⟨k,rfl⟩:∃k:Y,z=k:=⟨z.toNat,by omega⟩;obtain⟨m,r1,e1,l,v2,r2,e2,j,B⟩:=y;subst B;have l:m= .slice GB 0 0:=by
   obtain⟨h,_⟩:=(bE rfl (by simp)).1 l
   simpa using h
  have j:v2= .int .i64 k:=by
   have h:[v2]=[.int .i64 (k:Z)]:=(bE rfl (by simp)).1 j
   simpa using h
  have a:args=#[.slice GB 0 0,.int .i64 k]:=by
   grind
  subst a;obtain⟨i,z,q1,s,q3,q,o⟩:=adZ;refine(Any8.slices_Grow_grow anH i z q1 s (by omega) GB 0 0 k [] w (Z0 _) (by omega) ?_ (by omega) (by simp) (λ_=>rfl) (λ_ h=>by cases h)).mono ?_
  .have:(0+k)*i.bytes<=100000*64:=AR (by omega) q;omega
  rintro e w' ⟨rfl,rfl⟩
  have dy:=grownCap_ge w (0+k) 0 (Cg.t 25);generalize grownCap w (0+k) 0 (Cg.t 25)=C at *;have d:(([]:O K).toArray++CE z.cells (0+k-0)++CE z.cells (C-(0+k))).size=C*2:=by
   simp[size_zeroCells,o];omega
  generalize ([]:O K).toArray++CE z.cells (0+k-0)++CE z.cells (C-(0+k))=A at *;exact⟨(Ext.drew w).trans (Ext.alloc w.drew _ _),w.heap.size,A,Cg.t 25,C,rfl,Z0 _,heap_alloc_new w.drew _,d,Z9 _,λr u=>N u (DW r)⟩
 .simp at c
def Sd:HY AC:=⟨133,J6,λargs w=>Tryz.call133 args w,aej⟩
def UG(a b:Y)(f g:Y->MV):Y->MV:=aU [.sl 2 a f,.sl 2 b g]
def T7:Y->MS->C bt:=λ_ _=>GA (.pq 3)
def aj3(a b:Y)(f g:Y->MV)(c:_)(d:c=(bh.rows 2 a f)):(((0:Z)<=0/\(0:Z)<(↑(2:Y):Z))/\bif G (X GD (0+(a:Z))<0)then H else (0<=X GD ((0:Z)+1)/\X GD ((0:Z)+1)<(↑(2:Y):Z))/\bif G (X GD (X GD (0+(a:Z))+(b:Z))<0)then H else (0<X GD (X GD (0+(a:Z))+(b:Z))/\X GD (X GD (0+(a:Z))+(b:Z))<=100000)/\((0:Z)<=0/\(0:Z)<(↑(2:Y):Z))/\(0<=0/\(0+AK c)*32<=140737488355328)/\(0<=X GD ((0:Z)+1)/\X GD ((0:Z)+1)<(↑(2:Y):Z))/\(0+AK c <=0+a/\(0+AK c +AK (bh.rows 2 b g))*32<=140737488355328)/\0+AK c +AK (bh.rows 2 b g)<=0+AK c +b/\2=2/\0+AK c +AK (bh.rows 2 b g)=a+b/\ak (0+AK c +AK (bh.rows 2 b g)) (λq=>bif AQ q (0+AK c)then bif AQ q 0 then MV.any else f (q-0)else g (q-(0+AK c))) λq=>bif AQ q a then f q else g (q-a))=aI (G6 [] [.fr Sd] T7 (λ_ _=>GB)) F0 [.sl 1 2 (UG a b f g)] (AZ (.ret (.sl 2 (a+b) (λq=>bif AQ q a then f q else g (q-a))))):=by subst d;kernel_rfl
def Gj:aG
 |[.sl 1 2 h]=>(match h 0,h 1 with
  |.sl 2 a f,.sl 2 b g=>GA (GA (0<a/\a<=10000/\b<=10000),.ret (.sl 2 (a+b) (λq=>bif AQ q a then f q else g (q-a))))
  |_,_=>GB)
 |_=>GB
def alu:∀j p r,Gj j=GA (p,r)->p.holds->∃bf,lB.di 0 j bf/\∃E:Env AC,aI E F0 bf r.sat:=by
 intro j p r d q;unfold Gj at d;split at d
 .rename_i h;split at d
  .rename_i a f b g t s;simp only[Z1,Z2]at d;obtain⟨rfl,rfl⟩:=d;obtain⟨q1,q2,q3⟩:=q;refine⟨[.sl 1 2 (UG a b f g)],⟨⟨rfl,rfl,⟨λi l c w k r=>?_⟩⟩,⟨⟩⟩,G6 [] [.fr Sd] T7 (λ_ _=>GB),?_⟩
   .match i,l with
    |0,_=>rw[t]at r;exact r
    |1,_=>rw[s]at r;exact r
   rw[<-aj3 a b f g _ rfl];have v:AK (bh.rows 2 a f)=a:=rfl;have u:AK (bh.rows 2 b g)=b:=rfl;have o:X GD ((0:Z)+(a:Z))=(a:Z):=by rw[aV (by omega) (by omega)];omega
   have n:X GD ((a:Z)+(b:Z))=(a:Z)+(b:Z):=aV (by omega) (by omega);have m:X GD ((0:Z)+1)=1:=by decide
   rw[v,u,o,n,m,Y1 (show ¬(a:Z)<0 by omega),Y1 (show ¬(a:Z)+(b:Z)<0 by omega),Z5,Z5,BH];refine⟨by omega,by omega,by omega,by omega,by omega,by omega,by omega,by omega,rfl,rfl,⟨λi l c w k r=>?_⟩⟩;show aj c w (bif AQ i a then f i else g (i-a)) k;have r:aj c w (bif AQ i a then (bif AQ i 0 then MV.any else f (i-0))else g (i-a)) k:=r;cases e:AQ i a with
   |true=>rw[e]at r;exact r
   |false=>rw[e]at r;exact r
  .simp at d
 .simp at d
def alW:ah AC:=⟨94,Gj,λargs w=>Tryz.call94 args w,uL bQ Tryz.func94 Gj alu⟩
def Om:aG
 |[.aa a n,.st [.bool g,.ws l]]=>GA (GA (n<=1000/\dj g l),.ret (.bool (G (a=eE g l))))
 |_=>GB
def N5:ah AC:=mS.conv Om λms p r h b hf=>by
 unfold Om at h;split at h
 .rename_i a n g l;simp only[Z1,Z2]at h;obtain⟨rfl,rfl⟩:=h;obtain⟨h1,c⟩:n<=1000/\dj g l:=b;exact⟨[.aa a n,.aa (eE g l) 200],_,⟨cB,qS c,⟨⟩⟩,rfl,by omega,by omega⟩
 .simp at h
def akL(a:Z)(n:Y)(g:J)(l:O Z):((n<=1000/\dj g l)/\G (a=eE g l)=G (a=eE g l))=aI (aK [N5] aC) FY [.aa a n,.ref (.st [.bool g,.ws l])] (AZ (.ret (.bool (G (a=eE g l))))):=by kernel_rfl
def GR:aG
 |[.aa a n,.ref (.st [.bool g,.ws l])]=>GA (GA (n<=1000/\dj g l),.ret (.bool (G (a=eE g l))))
 |_=>GB
def amN:bC FY GR:=by
 intro ms p r h b;unfold GR at h;split at h
 .rename_i a n g l;cases h;refine⟨aK [N5] aC,?_⟩;rw[<-akL a n g l];exact⟨b,rfl⟩
 .simp at h
def Uq:ah AC:=⟨98,GR,λargs w=>Tryz.call98 args w,aO bQ Tryz.func98 GR amN⟩
def kb(z:Z):O Z->Y->Z
 |[],_=> -1
 |a::r,i=>o (G (a=z)) (i:Z) (kb z r (i+1))
structure yl (z:Int) (l:List Int) (w:cl):Prop where
 hi:w.i<=l.length
 hr:kb z (l.drop w.i) w.i=kb z l 0
def T'(q:O Z)(g:J)(l:O Z):Y->MS->C bt
 |2,_=>GA (.inv cl (yl (eE g l) q) (λi=>⟨19, [(0,.sl 2 q.length (iL q 200)),(1,.fn 98 [.ref (.st [.bool g,.ws l])]),(7,.int .i64 q.length),(8,.int .i64 i.i)], [],0⟩) (λi=>q.length-i.i))
 |_,_=>GB
def ak9(q:O Z)(g:J)(l:O Z):((∃i,yl (eE g l) q i/\((2=2/\D q=D q/\ak (D q) (iL q 200) (iL q 200))/\((g=g/\l=l/\E)/\E)/\(D q:Z)=(D q:Z)/\0=(i.1:Z)/\E)/\E)/\∀(i:cl),yl (eE g l) q i->bif G ((i.1:Z)<(D q:Z))then (0<=(i.1:Z)/\(i.1:Z)<(D q:Z))/\(200<=1000/\dj g l)/\bif G (F q (S (i.1:Z)) 0=eE g l)then (i.1:Z)=kb (eE g l) q 0 else ∃j,yl (eE g l) q j/\(((2=2/\D q=D q/\ak (D q) (iL q 200) (iL q 200))/\((g=g/\l=l/\E)/\E)/\(D q:Z)=(D q:Z)/\X GD ((i.1:Z)+1)=(j.1:Z)/\E)/\E)/\D q-j.1<D q-i.1 else (-1)=kb (eE g l) q 0)=aI (aK [Uq] (T' q g l)) EQ [.sl 2 q.length (iL q 200),.fn 98 [.ref (.st [.bool g,.ws l])]] (AZ (.ret (.int .i64 (kb (eE g l) q 0)))):=by kernel_rfl
def ail(q:O Z)(g:J)(l:O Z)(h:dj g l)(hq:q.length<=1000000):∃E:Env AC,aI E EQ [.sl 2 q.length (iL q 200),.fn 98 [.ref (.st [.bool g,.ws l])]] (AZ (.ret (.int .i64 (kb (eE g l) q 0)))):=by
 refine⟨aK [Uq] (T' q g l),?_⟩;rw[<-ak9 q g l];refine⟨⟨⟨0⟩,⟨Z9 _,rfl⟩,?_⟩,λi I=>?_⟩
 .grind [AG]
 obtain⟨i⟩:=i;obtain⟨d,a⟩:=I;dsimp only at d a⊢;rw[Z8];refine aJ Z4 (λq1=>?_) (λq1=>?_)
 .have b:i<q.length:=by omega
  rw[uF b]at a;have a:o (G (q.getD i 0=eE g l)) (i:Z) (kb (eE g l) (q.drop (i+1)) (i+1))=_:=a;have e5:X GD ((i:Z)+1)=((i+1:Y):Z):=by rw[aV (by omega) (by omega)];omega
  refine⟨by omega,⟨by omega,h⟩,aJ Z4 (λz=>?_) (λz=>?_)⟩
  .simp_all
  .rw[Y1 z]at a;refine⟨⟨i+1⟩,⟨b,a⟩,?_,by show q.length-(i+1)<q.length-i;omega⟩
   grind [AG]
 .have c:i=q.length:=by omega
  subst c;rw[DL]at a;exact a
def Gq:aG
 |[.sl 2 n f,.fn 98 [.ref (.st [.bool g,.ws l])]]=>GA (GA (dj g l/\n<=1000000/\∀j,j<n->dq 200 (f j)),.ret (.int .i64 (kb (eE g l) (aH n f) 0)))
 |_=>GB
def amx:∀a p r,Gq a=GA (p,r)->p.holds->∃bf,lB.di 0 a bf/\∃E:Env AC,aI E EQ bf r.sat:=by
 intro a p r h b;unfold Gq at h;split at h
 .rename_i n f g l;cases h;obtain⟨e,d,c⟩:=b;refine⟨[.sl 2 (aH n f).length (iL (aH n f) 200),.fn 98 [.ref (.st [.bool g,.ws l])]],⟨o4 c,⟨⟨rfl,rfl,⟨⟩⟩,⟨⟩⟩,⟨⟩⟩,ail (aH n f) g l e (by rw[bB];exact d)⟩
 .simp at h
def Ul:ah AC:=⟨134,Gq,λargs w=>Tryz.call134 args w,uL bQ Tryz.func134 Gq amx⟩
def NC(z:Z):∀(l:O Z) (i:Y),G (kb z l i≥0)=l.elem z
 |[],_=>rfl
 |a::r,i=>by
  unfold kb;by_cases h:a=z
  .simp_all
  .rw[Y1 h,Z5,NC z r (i+1)]
   grind
def akf(n:Y)(f:Y->MV)(g:J)(l:O Z):((dj g l/\n<=1000000/\∀(j:Y),j<n->dq 200 (f j))/\G (kb (eE g l) (aH n f) 0≥0)=List.elem (eE g l) (aH n f))=aI (aK [Ul] aC) FZ [.sl 2 n f,.fn 98 [.ref (.st [.bool g,.ws l])]] (AZ (.ret (.bool ((aH n f).elem (eE g l))))):=by kernel_rfl
def Gl:aG
 |[.sl 2 n f,.fn 98 [.ref (.st [.bool g,.ws l])]]=>GA (GA (dj g l/\n<=1000000/\∀j,j<n->dq 200 (f j)),.ret (.bool ((aH n f).elem (eE g l))))
 |_=>GB
def alw:bC FZ Gl:=by
 intro ms p r h a;unfold Gl at h;split at h
 .rename_i n f g l;cases h;refine⟨aK [Ul] aC,?_⟩;rw[<-akf n f g l];exact⟨a,NC _ _ _⟩
 .simp at h
def alX:ah AC:=⟨97,Gl,λargs w=>Tryz.call97 args w,aO bQ Tryz.func97 Gl alw⟩
def JU:Y->MV:=aU [.st [.int .i64 1,.fn 135 []],.st [.int .i64 2,.fn 136 []],.st [.int .i64 3,.fn 137 []],.st [.int .i64 4,.fn 138 []]]
def acw(n:Y):(4<=4/\2=2/\4=n/\ak 4 (aU [MV.st [MV.int GD (1:Z),MV.fn 135 []],MV.st [MV.int GD (2:Z),MV.fn 136 []],MV.st [MV.int GD (3:Z),MV.fn 137 []],MV.st [MV.int GD (4:Z),MV.fn 138 []]]) JU)=aI (aK [] aC) FX [] (AZ (.ret (.sl 2 n JU))):=by kernel_rfl
def Cx:aG
 |[]=>GA (GB,.ret (.sl 2 4 JU))
 |_=>GB
def afF:bC FX Cx:=by
 intro ms p r h hp;unfold Cx at h;split at h
 .simp only[Z1,Z2]at h;obtain⟨rfl,rfl⟩:=h;refine⟨aK [] aC,?_⟩;rw[<-acw 4];exact⟨Z0 _,rfl,rfl,AG⟩
 .simp at h
def adv:ah AC:=⟨99,Cx,λargs w=>Tryz.call99 args w,aO bQ Tryz.func99 Cx afF⟩
def adf:ah AC:=aix.conv (mx λs e q=>fM (Hf s (aH e q)) (.ret (.tup []))) (qp λs e q ok _ _ q1 b a =>
 ⟨GA (gy 200 200 200 200 200 200 200 s.base.length e (iL s.base 200) q),by
  show GA (_,fM (tS s.n s.base.length e (kx s)) _)=GA (_,fM (tS s.n s.base.length (aH e q).length (kx s)) _);rw[bB],yN ok q1 b a⟩)
def adb:ah AC:=aiv.conv (mx λs e q=>fM (xc s (aH e q)) (.ret (.tup []))) (qp λs e q ok _ _ q1 b a =>
 ⟨GA (gy 200 200 200 200 200 200 200 s.base.length e (iL s.base 200) q),by
  show GA (_,fM (uW s.n (aH s.base.length (iL s.base 200)) (kx s) (aH e q)) _)=_;rw[eJ];rfl,yN ok q1 b a⟩)
def ade:ah AC:=aiw.conv (mx λs e q=>fM (xe s (aH e q)) (.ret (.tup []))) (qp λs e q ok _ _ q1 b a =>
 ⟨GA (gy 200 200 200 200 200 200 200 s.base.length e (iL s.base 200) q),by
  show GA (_,fM (vA s.n (aH s.base.length (iL s.base 200)) (kx s) (aH e q)) _)=_;rw[eJ];rfl,yN ok q1 b a⟩)
def ada:ah AC:=aiu.conv (mx λs e q=>fM (wy s (aH e q)) (.ret (.tup []))) (qp λ_ _ _ ok _ _ q1 b a=>⟨_,rfl,yN ok q1 b a⟩)
def RF:aG
 |[.st [.bool g,.ws l],.aa b n]=>GA (GA (n<=1000/\dj g l),.ret (.int .i64 (aY (eE g l) b)))
 |_=>GB
def adu:ah AC:=eZ.conv RF λms p r h a hf=>by
 unfold RF at h;split at h
 .rename_i g l b n;simp only[Z1,Z2]at h;obtain⟨rfl,rfl⟩:=h;obtain⟨h1,c⟩:n<=1000/\dj g l:=a;exact⟨[.aa (eE g l) 200,.aa b n],_,⟨qS c,cB,⟨⟩⟩,rfl,by omega,by omega⟩
 .simp at h
end
def ia(ops:O L)(a a':Act):Prop:=∀t,(∀o∈ops,o.dst≠GA t)->a'.tmps.getD t undef=a.tmps.getD t undef
def ia.refl(ops:O L)(a:Act):ia ops a a:=λ_ _=>rfl
def ia.put{ops:O L}{a a':Act}(h:ia ops a a'){o:L}(c:o∈ops)(v:K):ia ops a (a'.put o.dst v):=λt b=>(vC a' (b o c) v).trans (h t b)
def ia.defer{ops:O L}{a a':Act}(h:ia ops a a')(c:O Deferred):ia ops a { a' with defers:=c }:=λt b=>h t b
def vy(ops:O L)(b:Act)(Q:Exit->Act->I->Prop):Exit->Act->I->Prop
 |.outgrown,a,w=>Q .outgrown a w
 |e,a,w=>Q e a w/\ia ops b a
def Il{ops:O L}{a:Act}{Q:Exit->Act->I->Prop}(h:LetsOut Q):LetsOut (vy ops a Q):=h
def Ox{P:M}{ops:O L}{j:Act}{Q:Exit->Act->I->Prop}{o:L}{a:Act}{K K':Act->I->Prop}(c:o∈ops)(b:ia ops j a)(g:∀i k,ia ops j i->K' i k->K i k):∀r,o.upon P a K' Q r->o.upon P a K (vy ops j Q) r:=by
 intro r h;cases r with
 |ok n w' =>
  cases n<;>simp only[Oper.upon]at h⊢
  case value x=>exact g _ _ (b.put c _) h
  case skip=>exact g _ _ (b.put c _) h
  case defer x=>exact g _ _ ((b.defer _).put c _) h
  case enter f args =>
   refine Calls.mono h λe iq d=>?_;cases e with
   |returned x=>exact g _ _ (b.put c _) d
   |panicked ch=>exact⟨d,b⟩
   |outgrown=>exact Il d
  case row r args=>exact Rows.mono h λx iq d=>g _ _ (b.put c _) d
 |halt x w' =>
  cases x<;>simp only[Oper.upon]at h⊢
  exact⟨h,b⟩
def vU{P:M}{ops:R L}{g:Act}{Q:Exit->Act->I->Prop}:∀(l:O L) (a:Act) (w:I),(∀o∈l,o∈ops.toList)->ia ops.toList g a->wpList P ops Q l a w->wpList P ops (vy ops.toList g Q) l a w
 |[],a,w,_,b,h=>⟨h,b⟩
 |o::l,a,w,e,b,h=>by
  have f:=e o (AH ..);unfold wpList at h⊢;split
  .rename_i d;rw[U d]at h;exact h.imp (λh=>Ox f b (λk i j=>vU l k i (λx c=>e x (AD _ c)) j) _ h) λh=>⟨h.1,Il h.2⟩
  .rename_i d;rw[V d]at h;exact vU l _ w (λx c=>e x (AD _ c)) (b.put f _) h
def tJ{P:M}{ops:R L}{e:Act}{Q:Exit->Act->I->Prop}:∀(fuel:Y) (listed:R J) (a:Act) (w:I),ia ops.toList e a->wpAny P .any ops Q fuel listed a w->wpAny P .any ops (vy ops.toList e Q) fuel listed a w
 |0,listed,a,w,b,h=>⟨h.1,h.2,b⟩
 |fuel+1,listed,a,w,b,h=>by
  refine⟨λq=>⟨h.1 q,b⟩,λi j=>?_⟩;have h:=h.2 i j;unfold wpOp at h⊢;split
  .rename_i q;rw[q]at h;exact tJ fuel _ a w b h
  .rename_i o q;rw[q]at h;dsimp only at h;have d:o∈ops.toList:=by
    rw[Array.mem_toList_iff];exact Array.mem_of_getElem? q
   split
   .rename_i c;rw[U c]at h;exact h.imp (λh=>Ox d b (λk f g=>tJ fuel _ k f g) _ h) λh=>⟨h.1,Il h.2⟩
   .rename_i c;rw[V c]at h;exact tJ fuel _ _ w (b.put d _) h
def abS{P:M}{ops:R L}{draw:J}{Q:Exit->Act->I->Prop}{a:Act}{w:I}(h:od P ops draw Q a w):od P ops draw (vy ops.toList a Q) a w:=by
 cases draw with
 |false=>exact vU _ a w (λ_ h=>h) (ia.refl _ _) h
 |true=>exact tJ _ _ a _ (ia.refl _ _) h
def zG{P:M}{ops:R L}{Q Q':Exit->Act->I->Prop}(e:∀a w,Q' .normal a w->Q .normal a w)(b:LetsOut Q'->LetsOut Q)(d:∀ch a w,Q' (.panic ch) a w->Q (.panic ch) a w) :
  ∀(l:O L) (a:Act) (w:I),wpList P ops Q' l a w->wpList P ops Q l a w
 |[],a,w,h=>e a w h
 |o::l,a,w,h=>by
  unfold wpList at h⊢;split
  .rename_i c;rw[U c]at h;exact h.imp (λh=>vT (λg f=>zG e b d l g f) b d _ h) λh=>⟨h.1,b h.2⟩
  .rename_i c;rw[V c]at h;exact zG e b d l _ w h
def xL{P:M}{ops:R L}{Q Q':Exit->Act->I->Prop}(b:∀a w,Q' .normal a w->Q .normal a w)(c:LetsOut Q'->LetsOut Q)(d:∀ch a w,Q' (.panic ch) a w->Q (.panic ch) a w) :
  ∀(fuel:Y) (listed:R J) (a:Act) (w:I),wpAny P .any ops Q' fuel listed a w->wpAny P .any ops Q fuel listed a w
 |0,listed,a,w,h=>⟨h.1,b _ _ h.2⟩
 |fuel+1,listed,a,w,h=>by
  refine⟨λq=>b _ _ (h.1 q),λi g=>?_⟩;have h:=h.2 i g;unfold wpOp at h⊢;split
  .rename_i q;rw[q]at h;exact xL b c d fuel _ a w h
  .rename_i o q;rw[q]at h;dsimp only at h;split
   .rename_i e;rw[U e]at h;exact h.imp (λh=>vT (λj f=>xL b c d fuel _ j f) c d _ h) λh=>⟨h.1,c h.2⟩
   .rename_i e;rw[V e]at h;exact xL b c d fuel _ _ w h
def afZ{P:M}{ops:R L}{draw:J}{Q Q':Exit->Act->I->Prop}(c:∀a w,Q' .normal a w->Q .normal a w)(d:LetsOut Q'->LetsOut Q)(b:∀ch a w,Q' (.panic ch) a w->Q (.panic ch) a w){a:Act}{w:I}(h:od P ops draw Q' a w):od P ops draw Q a w:=by
 cases draw with
 |false=>exact zG c d b _ a w h
 |true=>exact xL c d b _ _ a _ h
def Wv{P:M}{E:Env P}{Kp:MV->Prop}{lt:O Y}{ops:R L}{draw:J}{S0:Y->Prop}{w0:bw}{Q:Exit->Act->I->Prop}(g:∀m v w' a',Kp m->jb w0 w'->cf (EC S0) w' m v->a'.defers=w0.df->Q (.panic [{ v,recovered:=false }]) a' w'){s:MS}{K:MS->Prop}{c:Ctx}{a:Act}{w:I}(h:lT E lt ops.toList draw s K Kp)(b:St S0 w0 s c a w)(k:∀s' c' a' w',K s'->St S0 w0 s' c' a' w'->s'.n=s.n->Q .normal a' w'):od P ops draw Q a w:=by
 unfold lT at h;split at h
 .exact mK g h b k
 .rename_i j hj;simp only at h;generalize hx:lJ 0 (jO [] ops.toList)-1=x at h;cases f:(draw&&ve j x ops.toList)with
  |false=>rw[f]at h;exact h.elim
  |true =>
   rw[f,Z6]at h;simp only[Z3]at f;obtain⟨rfl,e⟩:=f;obtain⟨oj,ox,u,d,e⟩:=ME e;have y:mW E (cO j x ops).toList GC s K Kp:=h;have H:=mK (Q:=rN Q) (λm v w' a' q1 t r p z l=>g m v w' z q1 t r (l.trans p)) y b k;show wpAny P .any ops Q ops.size (CA ops.size GE) a { w with drawn:=w.drawn+1 };have H:wpAny P .any (cO j x ops) (rN Q) (cO j x ops).size (CA (cO j x ops).size GE) a { w with drawn:=w.drawn+1 }:=H;rw[lV]at H;refine OT (Q:=Q) (Q':=rN Q) e (λ_ _ q=>q) (λ⟨a,w,q⟩=>⟨a,w,q⟩) (λch a w q=>q a rfl) (λch a d v w q=>q a (by cases d<;>rfl)) _ _ _ _ ⟨by simp,λi o _ e=>?_⟩ H;have:(CA ops.size GE).getD i GE=GE:=by
    simp only[DU,Array.getElem?_replicate];split<;>rfl
   simp_all
def eH{P:M}(E:Env P)(Kp:MS->O L->MV->Prop):Code->MS->(Ex->MS->Prop)->Prop
 |.skip,s,K=>K .normal s
 |.label _,s,K=>K .normal s
 |.region id ops draw,s,K=>lT E (E.kh id) ops.toList draw (s.cz (E.kh id)) (K .normal) (Kp s ops.toList)
 |.seq a b,s,K=>F! (E.cut (cW b) s) K (λK'=>eH E Kp a s K') (λs'=>eH E Kp b s' K)
 |.cond c a b,s,K=>(match c with
  |.tmp t=>(match bD t s.tm with
   |.bool x=>Br x (eH E Kp a (s.put t (.bool GC)) K) (eH E Kp b (s.put t (.bool GE)) K)
   |_=>oL (.cond c .skip .skip))
  |_=>oL (.cond c .skip .skip))
 |.block id c,s,K=>eH E Kp c s (λe s'=>match e with|.exit j=>o (j.beq id) (K .normal s') (K (.exit j) s')|e=>K e s')
 |.loop c,s,K=>Di (cW c) (eH E Kp c) (E.fv (cW c) s) s K
 |.exit id,s,K=>K (.exit id) s
 |.ret,s,K=>K .ret s
 |.scope c,s,K=>eH E Kp c s K
 |c,_,_=>oL c
structure Wg (S0:Nat->Prop) (w0:bw) (Kp:MS->List Oper->MV->Prop) (m:MV) (v:Value) (w':World) (a':Act):Prop where
 h:∃s ops c a w,Kp s ops m/\St S0 w0 s c a w/\ia ops a a'
 ck:jb w0 w'
 rep:cf (EC S0) w' m v
 df:a'.defers=w0.df
def am1(S0:Y->Prop)(w0:bw)(Kp:MV->Prop)(Q:Exit->Act->I->Prop):Exit->Act->I->Prop
 |.panic ch,a',w'=>∃m v,ch=[{ v,recovered:=false }]/\Kp m/\jb w0 w'/\cf (EC S0) w' m v/\a'.defers=w0.df
 |.outgrown,_,_=>H
 |e,a',w'=>Q e a' w'
def dA{P:Program}(f:P.follows .mixedOrders=GC){E:Env P}{Kp:MS->GG Oper->MV->Prop}{S0:GH->Prop}{w0:bw} :
  ∀(c:Code) (s:MS) (K:Ex->MS->Prop) (n:Ctx) (a:Act) (w:World) (Q:Exit->Act->World->Prop),eH E Kp c s K->St S0 w0 s n a w->
  (∀e s' c' a' w',K e s'->St S0 w0 s' c' a' w'->Q e.out a' w')->
  (∀m v w' a',Wg S0 w0 Kp m v w' a'->Q (.panic [{ v,recovered:=false }]) a' w')->c.wp P Q a w
 |.skip,s,K,n,a,w,Q,h,k,d,o=>wp_skip (d .normal s n a w h k)
 |.label l,s,K,n,a,w,Q,h,k,d,o=>wp_label (d .normal s n a w h k)
 |.region id ops draw,s,K,n,a,w,Q,h,k,d,o=>by
  have h:lT E (E.kh id) ops.toList draw (s.cz (E.kh id)) (K .normal) (Kp s ops.toList):=by simpa only[eH]using h
  have H:=abS (Wv (Q:=am1 S0 w0 (Kp s ops.toList) Q) (λm v w' a' q1 g L J=>⟨m,v,rfl,q1,g,L,J⟩) h (k.UO _) (λs' c' a' w' q1 g _=>d .normal s' c' a' w' q1 g));refine Iv f (afZ (λ_ _ h=>h.1) (λ⟨_,_,h⟩=>h.elim) (λch a' w' h=>?_) H);obtain⟨⟨m,v,rfl,q1,g,L,J⟩,X⟩:=h;exact o m v w' a' ⟨⟨s,ops.toList,n,a,w,q1,k,X⟩,g,L,J⟩
 |.seq x y,s,K,n,a,w,Q,h,k,d,o=>by
  simp only[eH]at h;generalize E.cut (cW y) s=A at h;unfold F! at h;split at h
  .refine wp_seq (dA f x s _ n a w _ h k (λe s' c' a' w' q1 g=>?_) (λm v w' a' q1=>o m v w' a' q1));cases e with
   |normal=>exact dA f y s' K c' a' w' Q q1 g d o
   |exit id=>exact d (.exit id) s' c' a' w' q1 g
   |ret=>exact d .ret s' c' a' w' q1 g
  .obtain⟨G,M⟩:=h;refine wp_seq (dA f x s _ n a w _ G k (λe s' c' a' w' q1 g=>?_) (λm v w' a' q1=>o m v w' a' q1));cases e with
   |normal =>
    obtain⟨j,p,r⟩:=q1;obtain⟨N,u⟩:=g.le r;exact dA f y _ K N a' w' Q (M j p) u d o
   |exit id=>exact d (.exit id) s' c' a' w' q1 g
   |ret=>exact d .ret s' c' a' w' q1 g
 |.cond cc x y,s,K,n,a,w,Q,h,k,d,o=>by
  simp only[eH]at h;split at h
  .rename_i t;split at h
   .rename_i b Z;have F:=k.tm t;rw[Z]at F;have V:a.eval (.tmp t)= .bool b:=gF F;unfold Br at h;cases b with
    |true =>
     rw[Z6]at h;exact wp_cond V (dA f x _ K n a w Q h (k.again F) d o)
    |false =>
     rw[Z5]at h;exact wp_cond V (dA f y _ K n a w Q h (k.again F) d o)
   .exact h.elim
  .exact h.elim
 |.block id x,s,K,n,a,w,Q,h,k,d,o=>by
  simp only[eH]at h;refine wp_block (dA f x s _ n a w _ h k (λe s' c' a' w' q1 g=>?_) (λm v w' a' q1=>o m v w' a' q1));cases e with
  |normal=>exact d .normal s' c' a' w' q1 g
  |exit j =>
   simp only[Ex.out,Exit.inBlock];cases p:j.beq id with
   |true =>
    simp only[D0]at p;rw[if_pos p];have q1:cond (j.beq id) (K .normal s') (K (.exit j) s'):=q1;rw[show j.beq id=GC by simpa using p,Z6]at q1;exact d .normal s' c' a' w' q1 g
   |false =>
    have R:¬j=id:=by intro e;subst e;simp at p
    rw[if_neg R];have q1:cond (j.beq id) (K .normal s') (K (.exit j) s'):=q1;rw[p,Z5]at q1;exact d (.exit j) s' c' a' w' q1 g
  |ret=>exact d .ret s' c' a' w' q1 g
 |.loop x,s,K,n,a,w,Q,h,k,d,o=>by
  simp only[eH]at h;generalize an2:E.fv (cW x) s=A at h;unfold Di at h;split at h
  .exact h.elim
  .rename_i U;have h:rC (eH E Kp x) U s K:=h;refine wp_loop_ghost (λm a' w'=>∃s' c',rC (eH E Kp x) m s' K/\St S0 w0 s' c' a' w') U ⟨s,n,h,k⟩ ?_
   rintro m a' w' ⟨s',c',G,M⟩
   cases m with
   |zero=>exact G.elim
   |succ m =>
    refine dA f x s' _ c' a' w' _ G M (λe s2 z C B q1 g=>?_) (λm v w' a' q1=>o m v w' a' q1);cases e with
    |normal=>exact⟨m,EW m,s2,z,q1,g⟩
    |exit id=>exact d (.exit id) s2 z C B q1 g
    |ret=>exact d .ret s2 z C B q1 g
  .rename_i ι I T μ;obtain⟨⟨W,Va,D⟩,q⟩:=h;refine wp_loop_ghost (λm a' w'=>∃i c',I i/\μ i=m/\St S0 w0 (T i) c' a' w') (μ W) (by
    obtain⟨c',xq⟩:=k.le D
    grind) ?_
   rintro m a' w' ⟨i,c',Y,rfl,O⟩
   refine dA f x (T i) _ c' a' w' _ (q i Y) O (λe s2 z C B q1 g=>?_) (λm v w' a' q1=>o m v w' a' q1);cases e with
   |normal =>
    obtain⟨j,p,r,S⟩:=q1;obtain⟨N,u⟩:=g.le r;exact⟨μ j,S,j,N,p,rfl,u⟩
   |exit id=>exact d (.exit id) s2 z C B q1 g
   |ret=>exact d .ret s2 z C B q1 g
 |.exit id,s,K,n,a,w,Q,h,k,d,o=>wp_exit (d (.exit id) s n a w h k)
 |.ret,s,K,n,a,w,Q,h,k,d,o=>wp_ret (d .ret s n a w h k)
 |.rangeFunc _ _ _ _,s,K,n,a,w,Q,h,k,d,o=>by simp only[eH]at h;exact h.elim
 |.scope x,s,K,n,a,w,Q,h,k,d,o=>wp_scope_straight (dA f x s K n a w _ (by simpa only[eH]using h) k (λe s' c' a' w' q1 g=>by
   cases e with
   |normal=>exact d .normal s' c' a' w' q1 g
   |exit id=>exact d (.exit id) s' c' a' w' q1 g
   |ret=>exact d .ret s' c' a' w' q1 g) (λm v w' a' q1=>o m v w' a' q1))
 |.goto _,s,K,n,a,w,Q,h,k,d,o=>by simp only[eH]at h;exact h.elim
 |.refuse _,s,K,n,a,w,Q,h,k,d,o=>by simp only[eH]at h;exact h.elim
noncomputable def Ec:Code:=aX (aX (qO ED))
def KQ(L:O ab):MS:=⟨112, [(2,.bp 0 0),(0,.sl 18 L.length (aF L 200))], [⟨GE,.one (.bool GE)⟩],1⟩
def V5(T:J):Ex->MS->Prop
 |.ret,s=>(match bD 2 s.tm with
  |.bp i off=>o (i.beq 0&&off.beq 0) (match aR s.bx 0 with
   |some b=>(match b.c with
    |.one x=>eI 0 x (.bool T)
    |_=>H)
   |none=>H) H
  |_=>H)
 |_,_=>H
def JQ(t:Y)(ops:O L):J:=ops.all λo=>(match o.dst with
 |some u=>!(u.beq t)
 |none=>GC)
def ZQ{t:Y}{ops:O L}(h:JQ t ops=GC):∀o∈ops,o.dst≠GA t:=λo a e=>by
 have:=A4.1 h o a
 simp_all
def LL(T:J)(s:MS)(ops:O L)(m:MV):Prop :=
 match bD 2 s.tm with
 |.bp i off=>o (i.beq 0&&(off.beq 0&&JQ 2 ops)) (T=GE/\m=fC) H
 |_=>H
structure HW (w:cl):Prop where
 h:w.i=0
def apM(L:O ab)(m:Y)(s:ab):MS:=⟨112, [(2,.bp 0 0),(3,.bp 1 0),(4,.sl 18 m (aF L 200))], [⟨GE,.one (.bool GE)⟩,⟨GE,.one (jV s 200)⟩],1⟩
def Tw(L:O ab)(m:Y)(s:ab):Y->MS->C h!
 |3,_=>GA (.mk cl HW (λ_=>apM L m s))
 |_,_=>GB
def V4(fv:Y->MS->C bt)(cut:Y->MS->C h!):Env AC :=
 ⟨[alW,aa2,dM,jC,adu,alX,adv,adf,adb,ade,ada], [],39,fv,fun|15=> [3]|999994=> [0]|_=> [],cut⟩
def Qy(L:O ab)(m:Y)(s:ab)(a:O Z)(R:C (O Z)):Y->MS->C bt
 |4,e=>GA (.inv cl (ml s) (λi=>⟨112, [(2,.bp 0 0),(3,.bp 1 0),(4,.sl 18 m (aF L 200)),(48,.sl 2 (7+s.base.length) (kp (qR s))),(49,.int .i64 (7+s.base.length:Y)),(50,.int .i64 i.i)],e.bx,1⟩) (λi=>7+s.base.length-i.i))
 |11,e=>GA (.inv az (ny a s.parts R) (λp=>⟨112, [(2,.bp 0 0),(3,.bp 1 0),(4,.sl 18 m (aF L 200)),(7,.bs 2 0 p.q.length),(65,.sl 1 s.parts.length (bI s.parts)),(66,.int .i64 s.parts.length),(67,.int .i64 p.k)],e.bx.take 2++[⟨GE,.rows 2 p.q.length (iL p.q 200)⟩],1⟩) (λp=>s.parts.length-p.k))
 |19,_=>GA (.pq 5)
 |_,_=>GB
def adD(L:O ab)(m:Y)(s:ab)(d:O Z)(R:C (O Z))(T:J)(b:_)(f:b=(aF L (200:Y)))(c:_)(e:c=(X GD ((↑(D L):Z)-1)))(a:_)(g:a=(F L (S c) aB)):((((0:Z)<=X GD ((↑(D L):Z)-1)/\X GD ((↑(D L):Z)-1)<(↑(D L):Z))/\((0:Z)<=X GD ((↑(D L):Z)-1)/\X GD ((↑(D L):Z)-1)<=(↑(D L):Z))/\∃i,HW i/\((0:Y)=0/\(0:Y)=0/\((18:Y)=18/\S c =m/\ak (S c) b b)/\E)/\GE=GE/\(ab.kind a =ab.kind s/\(ab.neg a =ab.neg s/\ab.ai a =ab.ai s/\E)/\((1:Y)=1/\D (ab.parts a)=D (ab.parts s)/\ak (D (ab.parts a)) (bI (ab.parts a)) (bI (ab.parts s)))/\((2:Y)=2/\D (ab.base a)=D (ab.base s)/\ak (D (ab.base a)) (iL (ab.base a) (200:Y)) (iL (ab.base s) (200:Y)))/\(aD (ab.ca a) (ab.ca s) 200 200/\aD (ab.cb a) (ab.cb s) 200 200/\aD (ab.cm a) (ab.cm s) 200 200/\E)/\(aD (ab.x a) (ab.x s) 200 200/\aD (ab.y a) (ab.y s) 200 200/\ab.inf a =ab.inf s/\E)/\aD (ab.ord a) (ab.ord s) 200 200/\E)/\E)/\∀(i:cl),HW i->((0:Y)<7/\(7:Y)<=10000/\D (ab.base s)<=10000)/\(∃i,ml s i/\((0:Y)=0/\(0:Y)=0/\((18:Y)=18/\m=m/\ak m b b)/\((2:Y)=2/\(7:Y)+D (ab.base s)=7+D (ab.base s)/\ak ((7:Y)+D (ab.base s)) (λq=>bif AQ q (7:Y)then aU [MV.st [MV.bool (ab.neg s),MV.ws (ab.ai s)],MV.aa (ab.ca s) (200:Y),MV.aa (ab.cb s) (200:Y),MV.aa (ab.cm s) (200:Y),MV.aa (ab.x s) (200:Y),MV.aa (ab.y s) (200:Y),MV.aa (ab.ord s) (200:Y)] q else iL (ab.base s) (200:Y) (q-7)) (kp (qR s)))/\(↑((7:Y)+D (ab.base s)):Z)=(↑((7:Y)+D (ab.base s)):Z)/\(0:Z)=(↑(i.1):Z)/\E)/\GE=GE/\(ab.kind s=ab.kind s/\(ab.neg s=ab.neg s/\ab.ai s=ab.ai s/\E)/\((1:Y)=1/\D (ab.parts s)=D (ab.parts s)/\ak (D (ab.parts s)) (bI (ab.parts s)) (bI (ab.parts s)))/\((2:Y)=2/\D (ab.base s)=D (ab.base s)/\ak (D (ab.base s)) (iL (ab.base s) (200:Y)) (iL (ab.base s) (200:Y)))/\(aD (ab.ca s) (ab.ca s) 200 200/\aD (ab.cb s) (ab.cb s) 200 200/\aD (ab.cm s) (ab.cm s) 200 200/\E)/\(aD (ab.x s) (ab.x s) 200 200/\aD (ab.y s) (ab.y s) 200 200/\ab.inf s=ab.inf s/\E)/\aD (ab.ord s) (ab.ord s) 200 200/\E)/\E)/\∀(i:cl),ml s i->bif G ((↑(i.1):Z)<(↑((7:Y)+D (ab.base s)):Z))then ((0:Z)<=(↑(i.1):Z)/\(↑(i.1):Z)<(↑((7:Y)+D (ab.base s)):Z))/\D (Prod.snd (F (qR s) (S (↑(i.1):Z)) (GE, [])))<=1000000/\bif nD (Prod.fst (F (qR s) (S (↑(i.1):Z)) (GE, []))) (Prod.snd (F (qR s) (S (↑(i.1):Z)) (GE, [])))then ∃j,ml s j/\(((0:Y)=0/\(0:Y)=0/\((18:Y)=18/\m=m/\ak m b b)/\((2:Y)=2/\(7:Y)+D (ab.base s)=7+D (ab.base s)/\ak ((7:Y)+D (ab.base s)) (kp (qR s)) (kp (qR s)))/\(↑((7:Y)+D (ab.base s)):Z)=(↑((7:Y)+D (ab.base s)):Z)/\X GD ((↑(i.1):Z)+1)=(↑(j.1):Z)/\E)/\GE=GE/\(ab.kind s=ab.kind s/\(ab.neg s=ab.neg s/\ab.ai s=ab.ai s/\E)/\((1:Y)=1/\D (ab.parts s)=D (ab.parts s)/\ak (D (ab.parts s)) (bI (ab.parts s)) (bI (ab.parts s)))/\((2:Y)=2/\D (ab.base s)=D (ab.base s)/\ak (D (ab.base s)) (iL (ab.base s) (200:Y)) (iL (ab.base s) (200:Y)))/\(aD (ab.ca s) (ab.ca s) 200 200/\aD (ab.cb s) (ab.cb s) 200 200/\aD (ab.cm s) (ab.cm s) 200 200/\E)/\(aD (ab.x s) (ab.x s) 200 200/\aD (ab.y s) (ab.y s) 200 200/\ab.inf s=ab.inf s/\E)/\aD (ab.ord s) (ab.ord s) 200 200/\E)/\E)/\(7:Y)+D (ab.base s)-j.1<7+D (ab.base s)-i.1 else T=GE/\fC=fC else ((64:Y)<=1000/\dj (ab.neg s) (ab.ai s))/\bif G (aY (eE (ab.neg s) (ab.ai s)) (1:Z)>0)then (∃i,ny d (ab.parts s) R i/\((0:Y)=0/\(0:Y)=0/\((18:Y)=18/\m=m/\ak m b b)/\(AE GB (0:Y) (0:Y)=AE GB (0:Y) (0:Y)/\(0:Y)=0/\D (az.q i)=0)/\((1:Y)=1/\D (ab.parts s)=D (ab.parts s)/\ak (D (ab.parts s)) (bI (ab.parts s)) (bI (ab.parts s)))/\(↑(D (ab.parts s)):Z)=(↑(D (ab.parts s)):Z)/\(0:Z)=(↑(az.k i):Z)/\E)/\GE=GE/\(ab.kind s=ab.kind s/\(ab.neg s=ab.neg s/\ab.ai s=ab.ai s/\E)/\((1:Y)=1/\D (ab.parts s)=D (ab.parts s)/\ak (D (ab.parts s)) (bI (ab.parts s)) (bI (ab.parts s)))/\((2:Y)=2/\D (ab.base s)=D (ab.base s)/\ak (D (ab.base s)) (iL (ab.base s) (200:Y)) (iL (ab.base s) (200:Y)))/\(aD (ab.ca s) (ab.ca s) 200 200/\aD (ab.cb s) (ab.cb s) 200 200/\aD (ab.cm s) (ab.cm s) 200 200/\E)/\(aD (ab.x s) (ab.x s) 200 200/\aD (ab.y s) (ab.y s) 200 200/\ab.inf s=ab.inf s/\E)/\aD (ab.ord s) (ab.ord s) 200 200/\E)/\E)/\∀(i:az),ny d (ab.parts s) R i->bif G ((↑(az.k i):Z)<(↑(D (ab.parts s)):Z))then ((0:Z)<=(↑(az.k i):Z)/\(↑(az.k i):Z)<(↑(D (ab.parts s)):Z))/\bif G ((0:Z)<=F (ab.parts s) (S (↑(az.k i):Z)) (0:Z))then bif G (F (ab.parts s) (S (↑(az.k i):Z)) (0:Z)<(↑m:Z))then ((0:Z)<=F (ab.parts s) (S (↑(az.k i):Z)) (0:Z)/\F (ab.parts s) (S (↑(az.k i):Z)) (0:Z)<(↑m:Z))/\(D (az.q i)<=D (az.q i)/\dj (ab.neg (F L (S (F (ab.parts s) (S (↑(az.k i):Z)) (0:Z))) aB)) (ab.ai (F L (S (F (ab.parts s) (S (↑(az.k i):Z)) (0:Z))) aB))/\D (az.q i)<=1000000/\∀(j:Y),j<D (az.q i)->dq (200:Y) (iL (az.q i) (200:Y) j))/\bif !List.elem (eE (ab.neg (F L (S (F (ab.parts s) (S (↑(az.k i):Z)) (0:Z))) aB)) (ab.ai (F L (S (F (ab.parts s) (S (↑(az.k i):Z)) (0:Z))) aB))) (aH (D (az.q i)) (iL (az.q i) (200:Y)))then (D (az.q i)<=D (az.q i)/\(D (az.q i)+AK (bh.rows (2:Y) (1:Y) (aU [MV.st [MV.bool (ab.neg (F L (S (F (ab.parts s) (S (↑(az.k i):Z)) (0:Z))) aB)),MV.ws (ab.ai (F L (S (F (ab.parts s) (S (↑(az.k i):Z)) (0:Z))) aB))]])))*32<=140737488355328)/\∃j,ny d (ab.parts s) R j/\(((0:Y)=0/\(0:Y)=0/\((18:Y)=18/\m=m/\ak m b b)/\((0:Y)=0/\D (az.q i)+AK (bh.rows (2:Y) (1:Y) (aU [MV.st [MV.bool (ab.neg (F L (S (F (ab.parts s) (S (↑(az.k i):Z)) (0:Z))) aB)),MV.ws (ab.ai (F L (S (F (ab.parts s) (S (↑(az.k i):Z)) (0:Z))) aB))]]))=D (az.q j))/\((1:Y)=1/\D (ab.parts s)=D (ab.parts s)/\ak (D (ab.parts s)) (bI (ab.parts s)) (bI (ab.parts s)))/\(↑(D (ab.parts s)):Z)=(↑(D (ab.parts s)):Z)/\X GD ((↑(az.k i):Z)+1)=(↑(az.k j):Z)/\E)/\GE=GE/\(ab.kind s=ab.kind s/\(ab.neg s=ab.neg s/\ab.ai s=ab.ai s/\E)/\((1:Y)=1/\D (ab.parts s)=D (ab.parts s)/\ak (D (ab.parts s)) (bI (ab.parts s)) (bI (ab.parts s)))/\((2:Y)=2/\D (ab.base s)=D (ab.base s)/\ak (D (ab.base s)) (iL (ab.base s) (200:Y)) (iL (ab.base s) (200:Y)))/\(aD (ab.ca s) (ab.ca s) 200 200/\aD (ab.cb s) (ab.cb s) 200 200/\aD (ab.cm s) (ab.cm s) 200 200/\E)/\(aD (ab.x s) (ab.x s) 200 200/\aD (ab.y s) (ab.y s) 200 200/\ab.inf s=ab.inf s/\E)/\aD (ab.ord s) (ab.ord s) 200 200/\E)/\(D (az.q i)+1=D (az.q j)/\ak (D (az.q i)+1) (λq=>bif AQ q (D (az.q i))then iL (az.q i) (200:Y) q else aU [MV.st [MV.bool (ab.neg (F L (S (F (ab.parts s) (S (↑(az.k i):Z)) (0:Z))) aB)),MV.ws (ab.ai (F L (S (F (ab.parts s) (S (↑(az.k i):Z)) (0:Z))) aB))]] (q-D (az.q i))) (iL (az.q j) (200:Y)))/\E)/\D (ab.parts s)-az.k j<D (ab.parts s)-az.k i else T=GE/\fC=fC else T=GE/\fC=fC else T=GE/\fC=fC else ((0:Z)<=0/\(0:Z)<(↑(4:Y):Z))/\bif (1:Z)==ab.kind s then (D (az.q i)<=D (az.q i)/\(il (MV.st [MV.int GD (ab.kind s),MV.st [MV.bool (ab.neg s),MV.ws (ab.ai s)],MV.sl (1:Y) (D (ab.parts s)) (bI (ab.parts s)),MV.sl (2:Y) (D (ab.base s)) (iL (ab.base s) (200:Y)),MV.st [MV.aa (ab.ca s) (200:Y),MV.aa (ab.cb s) (200:Y),MV.aa (ab.cm s) (200:Y)],MV.st [MV.aa (ab.x s) (200:Y),MV.aa (ab.y s) (200:Y),MV.bool (ab.inf s)],MV.aa (ab.ord s) (200:Y)]) λs=>CS s=GC/\(2:Z)<=EG s)/\(∀(j:Y),j<D (az.q i)->dq (200:Y) (iL (az.q i) (200:Y) j))/\D (az.q i)<=90/\∀(z:Z),z∈aH (D (az.q i)) (iL (az.q i) (200:Y))->(2:Z)<=z)/\bif Hf {kind:=ab.kind s,neg:=ab.neg s,ai:=ab.ai s,parts:=iT (D (ab.parts s)) (bI (ab.parts s)),base:=aH (D (ab.base s)) (iL (ab.base s) (200:Y)),ca:=ab.ca s,cb:=ab.cb s,cm:=ab.cm s,x:=ab.x s,y:=ab.y s,inf:=ab.inf s,ord:=ab.ord s} (aH (D (az.q i)) (iL (az.q i) (200:Y)))then GC=T else T=GE/\fC=fC else ((0:Z)<=X GD ((0:Z)+1)/\X GD ((0:Z)+1)<(↑(4:Y):Z))/\bif (2:Z)==ab.kind s then (D (az.q i)<=D (az.q i)/\(il (MV.st [MV.int GD (ab.kind s),MV.st [MV.bool (ab.neg s),MV.ws (ab.ai s)],MV.sl (1:Y) (D (ab.parts s)) (bI (ab.parts s)),MV.sl (2:Y) (D (ab.base s)) (iL (ab.base s) (200:Y)),MV.st [MV.aa (ab.ca s) (200:Y),MV.aa (ab.cb s) (200:Y),MV.aa (ab.cm s) (200:Y)],MV.st [MV.aa (ab.x s) (200:Y),MV.aa (ab.y s) (200:Y),MV.bool (ab.inf s)],MV.aa (ab.ord s) (200:Y)]) λs=>CS s=GC/\(2:Z)<=EG s)/\(∀(j:Y),j<D (az.q i)->dq (200:Y) (iL (az.q i) (200:Y) j))/\D (az.q i)<=90/\∀(z:Z),z∈aH (D (az.q i)) (iL (az.q i) (200:Y))->(2:Z)<=z)/\bif xc {kind:=ab.kind s,neg:=ab.neg s,ai:=ab.ai s,parts:=iT (D (ab.parts s)) (bI (ab.parts s)),base:=aH (D (ab.base s)) (iL (ab.base s) (200:Y)),ca:=ab.ca s,cb:=ab.cb s,cm:=ab.cm s,x:=ab.x s,y:=ab.y s,inf:=ab.inf s,ord:=ab.ord s} (aH (D (az.q i)) (iL (az.q i) (200:Y)))then GC=T else T=GE/\fC=fC else ((0:Z)<=X GD (X GD ((0:Z)+1)+1)/\X GD (X GD ((0:Z)+1)+1)<(↑(4:Y):Z))/\bif (3:Z)==ab.kind s then (D (az.q i)<=D (az.q i)/\(il (MV.st [MV.int GD (ab.kind s),MV.st [MV.bool (ab.neg s),MV.ws (ab.ai s)],MV.sl (1:Y) (D (ab.parts s)) (bI (ab.parts s)),MV.sl (2:Y) (D (ab.base s)) (iL (ab.base s) (200:Y)),MV.st [MV.aa (ab.ca s) (200:Y),MV.aa (ab.cb s) (200:Y),MV.aa (ab.cm s) (200:Y)],MV.st [MV.aa (ab.x s) (200:Y),MV.aa (ab.y s) (200:Y),MV.bool (ab.inf s)],MV.aa (ab.ord s) (200:Y)]) λs=>CS s=GC/\(2:Z)<=EG s)/\(∀(j:Y),j<D (az.q i)->dq (200:Y) (iL (az.q i) (200:Y) j))/\D (az.q i)<=90/\∀(z:Z),z∈aH (D (az.q i)) (iL (az.q i) (200:Y))->(2:Z)<=z)/\bif xe {kind:=ab.kind s,neg:=ab.neg s,ai:=ab.ai s,parts:=iT (D (ab.parts s)) (bI (ab.parts s)),base:=aH (D (ab.base s)) (iL (ab.base s) (200:Y)),ca:=ab.ca s,cb:=ab.cb s,cm:=ab.cm s,x:=ab.x s,y:=ab.y s,inf:=ab.inf s,ord:=ab.ord s} (aH (D (az.q i)) (iL (az.q i) (200:Y)))then GC=T else T=GE/\fC=fC else ((0:Z)<=X GD (X GD (X GD ((0:Z)+1)+1)+1)/\X GD (X GD (X GD ((0:Z)+1)+1)+1)<(↑(4:Y):Z))/\bif (4:Z)==ab.kind s then (D (az.q i)<=D (az.q i)/\(il (MV.st [MV.int GD (ab.kind s),MV.st [MV.bool (ab.neg s),MV.ws (ab.ai s)],MV.sl (1:Y) (D (ab.parts s)) (bI (ab.parts s)),MV.sl (2:Y) (D (ab.base s)) (iL (ab.base s) (200:Y)),MV.st [MV.aa (ab.ca s) (200:Y),MV.aa (ab.cb s) (200:Y),MV.aa (ab.cm s) (200:Y)],MV.st [MV.aa (ab.x s) (200:Y),MV.aa (ab.y s) (200:Y),MV.bool (ab.inf s)],MV.aa (ab.ord s) (200:Y)]) λs=>CS s=GC/\(2:Z)<=EG s)/\(∀(j:Y),j<D (az.q i)->dq (200:Y) (iL (az.q i) (200:Y) j))/\D (az.q i)<=90/\∀(z:Z),z∈aH (D (az.q i)) (iL (az.q i) (200:Y))->(2:Z)<=z)/\bif wy {kind:=ab.kind s,neg:=ab.neg s,ai:=ab.ai s,parts:=iT (D (ab.parts s)) (bI (ab.parts s)),base:=aH (D (ab.base s)) (iL (ab.base s) (200:Y)),ca:=ab.ca s,cb:=ab.cb s,cm:=ab.cm s,x:=ab.x s,y:=ab.y s,inf:=ab.inf s,ord:=ab.ord s} (aH (D (az.q i)) (iL (az.q i) (200:Y)))then GC=T else T=GE/\fC=fC else GE=T else T=GE/\fC=fC)=eH (V4 (Qy L m s d R) (Tw L m s)) (LL T) Ec (KQ L) (V5 T):=by subst f e g;kernel_rfl
def sv(s:ab):eI 0 (jV s 200) (jV s 200) :=
 ⟨rfl,⟨rfl,rfl,⟨⟩⟩,⟨rfl,rfl,AG⟩,⟨rfl,rfl,AG⟩,⟨cB,cB,cB,⟨⟩⟩,⟨cB,cB,rfl,⟨⟩⟩,cB,⟨⟩⟩
def ya{T:J}(h:T=GE):T=GE/\fC=fC:=⟨h,rfl⟩
def apW:X GD ((0:Z)+1)=1:=by decide
def apZ:X GD ((1:Z)+1)=2:=by decide
def ap3:X GD ((2:Z)+1)=3:=by decide
def abU(L:GG ab)(m:GH)(s:ab)(T:Bool)(H:e8 L)(hm:L.length=m+1)(Z:L.getD m aB=s)(hf:fp L m)(b:cE (bj (L.take m)) s=T) :
  eH (V4 (Qy L m s (bj (L.take m)) (cD (bj (L.take m)) s.parts [])) (Tw L m s)) (LL T) Ec (KQ L) (V5 T):=by
 rw[<-adD L m s (bj (L.take m)) (cD (bj (L.take m)) s.parts []) T _ rfl _ rfl _ rfl];have hl:=H.len;have e:GI GD ((L.length:GJ)-1)=(m:GJ):=by rw[aV (by omega) (by omega)];omega
 rw[e,Z8,Z,apW,apZ,ap3];have ok:ff s:=Z ▸ H.at m (by omega);have hb:=ok.base;have xw:=ok.parts;have Hx:=PY (L:=L) (i:=m);have O:∀j,j<m->(bj (L.take m)).getD j 0=(L.getD j aB).n:=λj h=>Nq (by omega) h;have Q:∀z∈bj (L.take m),2<=z:=λz F=>by
  obtain⟨j,h1,_,rfl⟩:=PO F;exact(hf.h j h1).2
 have C:∀j,j<m->dj (L.getD j aB).neg (L.getD j aB).ai:=λj h=>IC H hf h;generalize bj (L.take m)=E at *;generalize G:cD E s.parts []=R;have raw:∀ {P:ab->Prop},P s->il (.st [.int .i64 s.kind,.st [.bool s.neg,.ws s.ai],.sl 1 s.parts.length (bI s.parts),.sl 2 s.base.length (iL s.base 200),.st [.aa s.ca 200,.aa s.cb 200,.aa s.cm 200],.st [.aa s.x 200,.aa s.y 200,.bool s.inf],.aa s.ord 200]) P:=λh=>⟨s,rfl,ok,h⟩;have F:eE s.neg s.ai=s.n:=rfl;rw[F];refine⟨⟨by omega,by omega,⟨0⟩,⟨rfl⟩,⟨rfl,rfl,⟨rfl,rfl,AG⟩,⟨⟩⟩,rfl,sv s,⟨⟩⟩,λ_ _=>?_⟩;refine⟨by omega,⟨⟨0⟩,⟨Z9 _,λh=>GK h (C7 0)⟩,⟨rfl,rfl,⟨rfl,rfl,AG⟩,⟨rfl,rfl,RB s⟩,rfl,rfl,⟨⟩⟩,rfl,sv s,⟨⟩⟩,λi I=>?_⟩;obtain⟨i⟩:=i;obtain⟨hi,v⟩:=I;dsimp only at hi v⊢;rw[Z8];refine aJ Z4 (λq1=>?_) (λq1=>?_)
 .have a:i<7+s.base.length:=by omega
  have r:GI GD ((i:GJ)+1)=((i+1:GH):GJ):=by rw[aV (by omega) (by omega)];omega
  refine⟨by omega,?_⟩
  match i,a,v,r with
  |0,a,_,r =>
   rw[Oi];have arN:=ok.len;refine⟨by show s.ai.length<=_;omega,aJ Iff.rfl (λz=>?_) (λz=>ya ?_)⟩
   .exact⟨⟨1⟩,⟨a,λ_=>z⟩,⟨⟨rfl,rfl,⟨rfl,rfl,AG⟩,⟨rfl,rfl,AG⟩,rfl,r,⟨⟩⟩,rfl,sv s,⟨⟩⟩,by show 7+s.base.length-1<7+s.base.length-0;omega⟩
   .have:s.can=GE:=DE.2 z
    grind [cE]
  |i+1,a,v,r =>
   obtain⟨z,e1,_⟩:=I4 s a;rw[e1];have arE:=Pv z;refine⟨by omega,aJ Iff.rfl (λ_=>?_) (λh=>GK (Pu z) h)⟩;exact⟨⟨i+1+1⟩,⟨a,λ_=>v (Nat.succ_pos i)⟩,⟨⟨rfl,rfl,⟨rfl,rfl,AG⟩,⟨rfl,rfl,AG⟩,rfl,r,⟨⟩⟩,rfl,sv s,⟨⟩⟩,by show 7+s.base.length-(i+1+1)<7+s.base.length-(i+1);omega⟩
 have can:s.can=GC:=v (by omega);have hN:dj s.neg s.ai:=⟨ok.wd,ok.len,can⟩;refine⟨⟨by omega,hN⟩,aJ (decide_eq_true_iff.trans k8) (λn1=>?_) (λz=>ya ?_)⟩
 rotate_left
 .grind [cE]
 refine⟨⟨⟨0, []⟩,⟨Z9 _,G,rfl⟩,⟨rfl,rfl,⟨rfl,rfl,AG⟩,⟨rfl,rfl,rfl⟩,⟨rfl,rfl,AG⟩,rfl,rfl,⟨⟩⟩,rfl,sv s,⟨⟩⟩,λp J=>?_⟩;obtain⟨k,q⟩:=p;obtain⟨hk,d,hq⟩:=J;dsimp only at hk d hq⊢;rw[Z8,eJ];have f:∀j,j<q.length->dq 200 (iL q 200 j):=λj _=>k9 q (Z0 _) j;have c:R=GB->T=GE:=λh=>by rw[<-b];exact M7 (G.trans h)
 refine aJ Z4 (λq1=>?_) (λq1=>?_)
 .have a:k<s.parts.length:=by omega
  rw[uF a,pM]at d;generalize s.parts.getD k 0=j at *;refine⟨by omega,aJ Z4 (λq2=>aJ Z4 (λq3=>?_) (λq3=>ya (c ?_))) (λq2=>ya (c ?_))⟩
  rotate_left
  .simp_all
  .simp_all
  obtain⟨u,rfl⟩:∃u:GH,j=u:=⟨j.toNat,by omega⟩;rw[Z8]at d⊢;rw[Y0 (show(0:GJ)<=u by omega),Y0 (show(u:GJ)<(E.length:GJ) by omega),O u (by omega),AV,AV]at d;have A:=C u (by omega);have K:eE (L.getD u aB).neg (L.getD u aB).ai=(L.getD u aB).n:=rfl;have w:=qS A;rw[K]at w⊢;generalize (L.getD u aB).n=z at *;generalize (L.getD u aB).neg=g at *;generalize (L.getD u aB).ai=mg at *;refine⟨by omega,⟨Z0 _,A,by omega,f⟩,?_⟩;cases he:q.elem z with
  |true=>rw[he]at d;exact ya (c d.symm)
  |false =>
   rw[he]at d;have d:cD E (s.parts.drop (k+1)) (q++[z])=R:=d;have r:GI GD ((k:GJ)+1)=((k+1:GH):GJ):=by rw[aV (by omega) (by omega)];omega
   have N:AK (bh.rows 2 1 (aU [MV.st [MV.bool g,MV.ws mg]]))=1:=rfl;rw[N,Bool.not_false,Z6];have t:(q++[z]).length=q.length+1:=by simp
   have U:=Ik q w;exact⟨⟨Z0 _,by omega⟩,⟨k+1,q++[z]⟩,⟨a,d,by rw[t,hq]⟩,⟨⟨rfl,rfl,⟨rfl,rfl,AG⟩,⟨rfl,t.symm⟩,⟨rfl,rfl,AG⟩,rfl,r,⟨⟩⟩,rfl,sv s,⟨t.symm,U⟩,⟨⟩⟩,by show s.parts.length-(k+1)<s.parts.length-k;omega⟩
 have S:k=s.parts.length:=by omega
 subst S;rw[DL]at d;have d:GA q=R:=d;have hp:cD E s.parts []=GA q:=G.trans d.symm;obtain⟨Hz,M⟩:=IZ hp (λz h=>GK h DK);rw[PM hp,can,Y0 n1,AV,AV]at b;unfold vz at b;rw[eJ,hH];have l:∀z∈q,2<=z:=λz h=>Q z (M z h);have o:il _ (λs:ab=>s.can=GC/\2<=s.n):=raw ⟨can,by omega⟩;have fin:∀ {B:Bool},B=T->bif B then GC=T else T=GE/\fC=fC:=λ{B} h=>by
  simp_all
 have D:∀n:GJ,(n==s.kind)=(s.kind==n):=λn=>by rw[Bool.eq_iff_iff,beq_iff_eq,beq_iff_eq];exact eq_comm
 rw[D 1,D 2,D 3,D 4];refine⟨by omega,?_⟩;cases Y:s.kind==1 with
 |true=>rw[Y,Z6]at b;exact⟨⟨Z0 _,o,f,by omega,l⟩,fin b⟩
 |false =>
 rw[Y,Z5]at b;rw[Z5];refine⟨by omega,?_⟩;cases X:s.kind==2 with
 |true=>rw[X,Z6]at b;exact⟨⟨Z0 _,o,f,by omega,l⟩,fin b⟩
 |false =>
 rw[X,Z5]at b;rw[Z5];refine⟨by omega,?_⟩;cases W:s.kind==3 with
 |true=>rw[W,Z6]at b;exact⟨⟨Z0 _,o,f,by omega,l⟩,fin b⟩
 |false =>
 rw[W,Z5]at b;rw[Z5];refine⟨by omega,?_⟩;cases V:s.kind==4 with
 |true=>rw[V,Z6]at b;exact⟨⟨Z0 _,o,f,by omega,l⟩,fin b⟩
 |false =>
 rw[V,Z5]at b;rw[Z5];exact b
def akq(w:I):(binOp BinOp.eql 20 (.iface 128 (.agg #[])) (.iface 128 (.agg #[]))).run AC w= .ok (.bool GC) w:=by kernel_rfl
def akr(w:I):(binOp BinOp.eql 20 .nilIface (.iface 128 (.agg #[]))).run AC w= .ok (.bool GE) w:=by kernel_rfl
set_option maxRecDepth 100000 in
def afY(p:Addr)(w:I) :
  CallsD AC 93 #[.pointer (GA p)] .returning w λe u' w'=>e= .returned (.tuple #[])/\u'= .returning/\w'=w:=by
 refine callsD_of_wpS FF rfl λc₀ cs a=>?_;apply wpS_seq
 apply wpS_region
 simp[wpOpsS,go_sem,recoverD,a,FA,Exit.thenS,akr];refine wpS_cond (t:=false) (by simp[Act.eval,CA]) ?_;simp only[Bool.false_eq_true,if_false];refine wpS_of_wp (wp_skip ?_);cases c₀
 simp_all [bodyPostS,results,EZ]
set_option maxRecDepth 100000 in
def aks(p:Addr)(w:I)(b:K)(f:w.cell? p=GA b)(d:w.frozen? p=GE) :
  CallsD AC 93 #[.pointer (GA p)] (.panicking [{ v:= .iface 128 (.agg #[]),recovered:=false }]) w λe u' a=>e= .returned (.tuple #[])/\u'= .panicking [{ v:= .iface 128 (.agg #[]),recovered:=true }]/\a=w.setCell p (.bool GE):=by
 refine callsD_of_wpS FF rfl λc₀ cs c=>?_;apply wpS_seq
 apply wpS_region
 simp[wpOpsS,go_sem,recoverD,c,FA,akq];refine wpS_cond (t:=true) (by simp[Act.eval,CA]) ?_;simp only[if_true];apply wpS_region
 simp[wpOpsS,go_sem,f,d];cases c₀
 simp_all [bodyPostS,results,EZ]
def Tx(w:I)(a:Act)(p:Addr)(T:J)(h:a.tmps.getD 2 undef= .pointer (GA p))(b:w.cell? p=GA (.bool T)) :
  (results ED a.tmps).run AC w= .ok (.bool T) w:=by
 have c:a.tmps[2]?.getD undef= .pointer (GA p):=by rw[<-h,DU]
 simp[results,Tryz.results61,c,b,go_sem]
def xd(L:O ab):MS:=⟨112, [(2,.bp 0 0),(0,.sl 18 L.length (aF L 200))], [⟨GE,.one (.bool GE)⟩],0⟩
def aky(L:O ab):(xd L=xd L)=aZ (aK [] aC) (λ_=>H) (cN (qO ED)) ⟨112,dQ 0 [.sl 18 L.length (aF L 200)], [],0⟩ (F? (xd L)):=by kernel_rfl
def W?{w w':I}(h:Ext w w')(b:Y)(f:R K)(t:TypeId)(hb:w.heap.size<=b)(e:w'.heap[b]? =GA (.cells f t (0,0)))(v:K):Ext w (w'.setCell ⟨b,0,GB⟩ v):=by
 have d:∀k,k≠b->(w'.setCell ⟨b,0,GB⟩ v).heap[k]? =w'.heap[k]? :=λk c=>heap_setCell_other w' ⟨b,0,GB⟩ k v c;refine⟨h.os,h.output,?_,λk c=>(d k (by omega)).trans (h.block k c),λa g=>?_,h.tape,h.dr⟩
 .have de:b<w'.heap.size:=(CD.1 e).1;have i:=heap_setCell_same w' b 0 f t v e;have:=(CD.1 i).1;omega
 .have:(w'.setCell ⟨b,0,GB⟩ v).frozen? a=w'.frozen? a:=by
   unfold World.frozen?;rw[d a.block (by omega)]
  rw[this,h.cz a g]
set_option maxRecDepth 100000 in
def abV(L:GG ab)(m:GH)(T:Bool)(hL:e8 L)(hm:L.length=m+1)(hf:fp L m)(hT:cE (bj (L.take m)) (L.getD m aB)=T)(S:GH->Prop)(w:World)(args:Array Value)(hS:∀b,S b->b<w.heap.size)(hG:GW S w)(ha:cr (DJ S) w [.sl 18 L.length (aF L 200)] args.toList):Calls AC 61 args w λe w'=>Ext w w'/\(cj.ret (.bool T)).holds (EC S) w' e:=by
 have U:=St.start (n:=112) hS hG ha (by simp);have Hr:aZ (aK [] aC) (λ_=>GL) (cN (qO ED)) ⟨112,dQ 0 [.sl 18 L.length (aF L 200)], [],0⟩ (F? (xd L)):=by rw[<-aky L]
 refine calls_of_wp_defers Tryz.func61 rfl ?_;refine wp_seq (bJ bQ _ _ _ _ _ w _ Hr U (λe s' k a1 w1 j R=>?_) (λ_ _ _ _ j=>j.elim));cases e with
 |exit _=>exact j.elim
 |ret=>exact j.elim
 |normal =>
 have j:s'=xd L:=j;subst j;refine wp_seq (wp_region_list ?_);refine eG (E:=aK [] aC) (m:= .fn 93 [.bp 0 0]) (p:=none) rfl rfl trivial R rfl λa2 A=>?_;obtain⟨I,N,qy,_⟩:=b8 (show af k w1 (.fn 93 [.bp 0 0]) (a2.tmps.getD 13 undef) from A.tm 13) rfl (by simp) rfl;simp only[List.cons.injEq,and_true]at N;obtain⟨_,_,rfl,⟨F,rfl⟩,rfl⟩:=qy
 let d:Deferred:={ target:= .fn (.func 93) #[Value.pointer (GA ⟨k.β 0,0,GB⟩)],args:=#[] }
 refine Ml (d:=d) rfl rfl ?_ ?_
 .simp[execOp,resolve,Deferred.ofValue,Act.eval,N,d]
 have g:=A.defer [d];rw[A.defers];generalize ({ a2 with defers:=[d] }:Act)=a3 at g⊢;refine wpList_nil ?_;have Y:w.heap.size<=k.β 0:=by
  rcases(g.mem.fresh 0 F).1 with h|h
  .exact h
  .exact h.elim
 have W:∀i b z,(i=0/\b=k.β 0/\z=k.sz 0)->k.live i/\k.β i=b/\k.sz i=z:=λi b z h=>by
  obtain⟨rfl,rfl,rfl⟩:=h;exact⟨F,rfl,rfl⟩
 have rb:0<(k.sz 0).n:=by
  obtain⟨arr,ty,q1,K,q3,q4⟩:=g.mem.box 0 ⟨GE,.one (.bool GE)⟩ F rfl;obtain⟨I,B,C⟩:=q4;have B:I=[.bool GE]:=B;have h3:=C 0 (.bool GE) (by rw[B];rfl);rw[<-K];exact(CD.1 h3).1
 have Q:St S ⟨w,λ_=>GL,λi b z=>i=0/\b=k.β 0/\z=k.sz 0, [d]⟩ (KQ L) k a3 w1:=by
  refine⟨g.mem.yd _ _ W,λt=>?_,g.size,g.defers,λi b z h=>(show nH 1 i=GC from jI (by decide) (by omega))⟩
  match t with
  |0=>exact g.tm 0
  |1=>exact⟨⟩
  |2=>exact g.tm 2
  |t+3=>exact⟨⟩
 have aoi:=abU L m _ T hL hm rfl hf hT;show Ec.wp AC _ a3 w1;refine dA bQ Ec _ _ k a3 w1 _ aoi Q (λe s' c2 J H j q=>?_) (λmv v H J X=>?_)
 .cases e with
  |normal=>exact j.elim
  |exit _=>exact j.elim
  |ret =>
  have j:(match bD 2 s'.tm with
   |.bp i off=>cond (i.beq 0&&off.beq 0) (match aR s'.bx 0 with
    |some b=>(match b.c with
     |.one x=>eI 0 x (.bool T)
     |_=>GL)
    |none=>GL) GL
   |_=>GL):=j
  have M:=q.tm 2;obtain⟨p1,p2,p3⟩:=q.mem.b4 0 _ _ ⟨rfl,rfl,rfl⟩;split at j
  .rename_i i off y;cases l:(i.beq 0&&off.beq 0)with
   |false=>rw[l]at j;exact j.elim
   |true =>
   rw[l,Z6]at j;simp only[Z3,D0]at l;obtain⟨rfl,rfl⟩:=l;rw[y]at M;obtain⟨_,D⟩:=eN M;split at j
   .rename_i b hb;split at j
    .rename_i x hx;obtain⟨arr,ty,q1,K,q3,q4⟩:=q.mem.box 0 b p1 hb;rw[hx]at q4;obtain⟨I,B,C⟩:=q4;have q5:I=[.bool T]:=j0 x (.bool T) 0 c2 c2 _ ⟨λ_ h=>h,λ_ h=>h,λi hi=>by omega⟩ j B;have o:H.cell? ⟨k.β 0,0,GB⟩=GA (.bool T):=by
      rw[<-p2];simp only[World.cell?,q1];have:arr[0]? =GA (.bool T):=C 0 _ (by rw[q5];rfl)
      simpa using this
     show Leaves _ _ _ _ J.defers _ _;rw[q.defers];refine leaves_cons (f:=93) (args:=#[.pointer (GA ⟨k.β 0,0,GB⟩)]) (by simp) (by simp[go_sem]) ?_;refine(afY _ _).mono ?_
     rintro e u' iq ⟨rfl,rfl,rfl⟩
     exact⟨.bool T,Tx iq J _ T (by rw[D,p2]) o,q.mem.ext.free (λ_ h=>h),eU _⟩
    .exact j.elim
   .exact j.elim
  .exact j.elim
 .obtain⟨⟨s,ops,c,a,w3,r,O,G⟩,P,V,K9⟩:=X;obtain⟨p1,p2,p3⟩:=O.mem.b4 0 _ _ ⟨rfl,rfl,rfl⟩;unfold LL at r;split at r
  .rename_i i off y;cases l:(i.beq 0&&(off.beq 0&&JQ 2 ops))with
   |false=>rw[l]at r;exact r.elim
   |true =>
   rw[l,Z6]at r;simp only[Z3,D0]at l;obtain⟨rfl,rfl,th⟩:=l;obtain⟨rfl,rfl⟩:=r;have M:=O.tm 2;rw[y]at M;obtain⟨_,D⟩:=eN M;have HA:J.tmps.getD 2 undef= .pointer (GA ⟨k.β 0,0,GB⟩):=by
    rw[G 2 (ZQ th),D,p2]
   obtain⟨arr,ty,q1,K⟩:=P.b4 0 _ _ ⟨rfl,rfl,rfl⟩;have K:arr.size=(k.sz 0).n:=K;have o : H.cell? ⟨k.β 0, 0, GB⟩ = GA (arr[0]'(by omega)) := by
    simp only[World.cell?,q1];simp
   have Ht:=frozen_of_row H (k.β 0) 0 arr ty q1;have hv:v= .iface 128 (.agg #[]):=by
    obtain⟨I,u,B,C,h3⟩:=(bE rfl (by simp[fC])).1 V;have C:I=[]:=C;subst C;simp only[List.cons.injEq,and_true]at B;rw[B,h3];rfl
   subst hv;show Leaves _ _ _ _ J.defers _ _;rw[K9];refine leaves_cons (f:=93) (args:=#[.pointer (GA ⟨k.β 0,0,GB⟩)]) (by simp) (by simp[go_sem]) ?_;refine(aks _ _ _ o Ht).mono ?_
   rintro e u' iq ⟨rfl,rfl,rfl⟩
   have Z:Ext w H:=P.ext.free (λ_ h=>h);exact⟨.bool GE,Tx _ J _ GE HA (World.cell?_setCell_same' H _ _ (by rw[o];rfl)),W? Z _ arr ty Y q1 _,eU _⟩
  .exact r.elim
def JI:aG
 |[.sl 18 n f]=>GA (GA (0<n/\cw n f/\fp (aE n f) (n-1)),.ret (.bool (cE (bj ((aE n f).take (n-1))) ((aE n f).getD (n-1) aB))))
 |_=>GB
def X?(S:Y->Prop)(w:I)(c:O MV)(args:R K)(p:bq)(r:cj)(a:JI c=GA (p,r))(g:p.holds)(l:∀b,S b->b<w.heap.size)(m:GW S w)(j:cr (DJ S) w c args.toList):Calls AC 61 args w λe w'=>Ext w w'/\r.holds (EC S) w' e:=by
 unfold JI at a;split at a
 .rename_i n f;simp only[Z1,Z2]at a;obtain⟨rfl,rfl⟩:=a;obtain⟨h0,d,o⟩:0<n/\cw n f/\fp (aE n f) (n-1):=g;have k:ft 0 (DJ S) (DJ S):=⟨λ_ h=>h,λ_ h=>h,λi hi=>by omega⟩;exact abV (aE n f) (n-1) _ d.T (by rw[dD];omega) o rfl S w args l m (pH k _ _ _ (show lB.di 0 [.sl 18 n f] [.sl 18 (aE n f).length (aF (aE n f) 200)] from ⟨d.le,⟨⟩⟩) j)
 .simp at a
def Rl:ah AC:=⟨61,JI,λargs w=>Tryz.call61 args w,X?⟩
def M'{L:O ab}{k:Y}(h:k<=L.length):aE k (aF L 200)=L.take k:=by
 refine CN (by simp[aE];omega) λi h1 h2=>?_
 grind [aE,aF,Dd]
def abj{L:O ab}(h:e8 L){k:Y}(b:k<=L.length):cw k (aF L 200):=by
 have:=h.len;refine⟨by omega,λj _=>vb _ 200,λs a=>?_⟩;rw[M' b]at a;exact h.ok s (EF a)
def XC{L:O ab}{i k:Y}(h:fp L i)(hk:i<=k):fp (L.take k) i:=⟨λj a=>by
 have:(L.take k).getD j aB=L.getD j aB:=by
  grind
 rw[this];exact h.h j a⟩
def Qm(L:O ab)(R:C Y):Y->MS->C bt
 |2,e=>GA (.inv cl (i! L R) (λi=>⟨21, [(0,.sl 18 L.length (aF L 200)),(6,.int .i64 L.length),(7,.int .i64 i.i)],e.bx,0⟩) (λi=>L.length-i.i))
 |_,_=>GB
def acG(L:O ab)(R:C Y)(x y:Z)(a:_)(d:a=λ(i:cl)=>(X GD ((i.1:Z)+1)))(b:_)(c:b=(D L:Z)):((∃i,i! L R i/\((18=18/\D L=D L/\ak (D L) (aF L 200) (aF L 200))/\b = b/\0=(i.1:Z)/\E)/\E)/\∀(i:cl),i! L R i->bif G ((i.1:Z)< b)then (0<=X GD ((i.1:Z)+1)/\X GD ((i.1:Z)+1)<= b)/\(0<S (a i)/\cw (S (a i)) (aF L 200)/\fp (aE (S (a i)) (aF L 200)) (S (a i)-1))/\bif !cE (bj (W (S (a i)-1) (aE (S (a i)) (aF L 200)))) (F (aE (S (a i)) (aF L 200)) (S (a i)-1) aB)then (i.1:Z)=x/\70=y/\E else ∃j,i! L R j/\(((18=18/\D L=D L/\ak (D L) (aF L 200) (aF L 200))/\b = b/\X GD ((i.1:Z)+1)=(j.1:Z)/\E)/\E)/\D L-j.1<D L-i.1 else bif b ==0 then 0=x/\70=y/\E else 0=x/\0=y/\E)=aI (aK [Rl] (Qm L R)) E3 [.sl 18 L.length (aF L 200)] (AZ (.ret (.tup [.int .i64 x,.int .i64 y]))):=by subst d c;kernel_rfl
def Zz{L:O ab}{i k:Y}(h:i<k):(L.take k).getD i aB=L.getD i aB:=by
 simp_all
def ab3(L:O ab)(h:e8 L):∃E:Env AC,aI E E3 [.sl 18 L.length (aF L 200)] (AZ (.ret (.tup [.int .i64 (my L),.int .i64 (fw L)]))):=by
 refine⟨aK [Rl] (Qm L (tR [] L 0)),?_⟩;rw[<-acG L (tR [] L 0) (my L) (fw L) _ rfl _ rfl];rw[aaF,Rp];have d:=i!.zero L;generalize tR [] L 0=R at *;have hl:=h.len;refine⟨⟨⟨0⟩,d,⟨⟨rfl,rfl,AG⟩,rfl,rfl,⟨⟩⟩,⟨⟩⟩,λi I=>?_⟩;obtain⟨i⟩:=i;dsimp only;refine aJ Z4 (λq1=>?_) (λq1=>?_)
 .have a:i<L.length:=by omega
  obtain⟨s1,s2⟩:=I.step a;have f:X GD ((i:Z)+1)=((i+1:Y):Z):=by rw[aV (by omega) (by omega)];omega
  rw[f,Z8,M' (show i+1<=L.length from a),BJ,Zz (EW i),List.take_take,DX (DP i)];refine⟨by omega,⟨by omega,abj h a,XC I.hf (DP i)⟩,kB Iff.rfl (λz=>?_) (λz=>?_)⟩
  .grind [AG]
  .rw[s2 (DE.2 z)];exact⟨rfl,rfl,⟨⟩⟩
 .obtain⟨e,c⟩:=I.fin (by omega);rw[c];refine aJ beq_iff_eq (λz=>?_) (λz=>?_)
  .have:L.length=0:=by omega
   rw[this];exact⟨rfl,rfl,⟨⟩⟩
  .obtain⟨k,b⟩:∃k,L.length=k+1:=⟨L.length-1,by omega⟩;rw[b];exact⟨rfl,rfl,⟨⟩⟩
def Bi:aG
 |[.sl 18 n f]=>GA (GA (cw n f),.ret (.tup [.int .i64 (my (aE n f)),.int .i64 (fw (aE n f))]))
 |_=>GB
def ae1:∀b p r,Bi b=GA (p,r)->p.holds->fR b->∃bf,lB.di 0 b bf/\∃E:Env AC,aI E E3 bf r.sat:=by
 intro b p r a c hf;unfold Bi at a;split at a
 .rename_i n f;simp only[Z1,Z2]at a;obtain⟨rfl,rfl⟩:=a;have h:cw n f:=c;exact⟨[.sl 18 (aE n f).length (aF (aE n f) 200)],⟨h.le,⟨⟩⟩,ab3 (aE n f) h.T⟩
 .simp at a
def zW:ah AC:=⟨34,Bi,λargs w=>Tryz.call34 args w,gR bQ Tryz.func34 Bi ae1⟩
def M3:aG
 |[.st [.bool g,.ws l],.aa a n]=>GA (GA (n<=1000/\dj g l),.ret (.bool (G (eE g l=a))))
 |_=>GB
def M1:ah AC:=mS.conv M3 λms p r h b hf=>by
 unfold M3 at h;split at h
 .rename_i g l a n;simp only[Z1,Z2]at h;obtain⟨rfl,rfl⟩:=h;obtain⟨h1,c⟩:n<=1000/\dj g l:=b;exact⟨[.aa (eE g l) 200,.aa a n],_,⟨qS c,cB,⟨⟩⟩,rfl,by omega,by omega⟩
 .simp at h
def acP(L:O ab)(n:Z)(w:Y)(T:J)(a:_)(b:a=(F L (S (X GD ((D L:Z)-1))) aB)):(cw (D L) (aF L 200)/\bif fw (aE (D L) (aF L 200))==0 then (0<=X GD ((D L:Z)-1)/\X GD ((D L:Z)-1)<(D L:Z))/\(w<=1000/\dj (ab.neg a) (ab.ai a))/\G (eE (ab.neg a) (ab.ai a)=n)=T else GE=T)=aI (aK [zW,M1] aC) E4 [.sl 18 L.length (aF L 200),.aa n w] (AZ (.ret (.bool T))):=by subst b;kernel_rfl
def ab4(L:O ab)(n:Z)(w:Y)(h:e8 L)(a:w<=1000):∃E:Env AC,aI E E4 [.sl 18 L.length (aF L 200),.aa n w] (AZ (.ret (.bool (xB L n)))):=by
 refine⟨aK [zW,M1] aC,?_⟩;rw[<-acP L n w (xB L n) _ rfl];rw[j8];have hl:=h.len;unfold xB;refine⟨oE h,aJ beq_iff_eq (λz=>?_) (λz=>by rw[Y1 z,C0])⟩;obtain⟨h0,b⟩:=Pk z;have e:X GD ((L.length:Z)-1)=((L.length-1:Y):Z):=by rw[aV (by omega) (by omega)];omega
 rw[e,Z8,Y0 z,AV];exact⟨by omega,⟨a,IC h b⟩,rfl⟩
def Bq:aG
 |[.sl 18 n f,.aa z w]=>GA (GA (cw n f/\w<=1000),.ret (.bool (xB (aE n f) z)))
 |_=>GB
def afa:∀b p r,Bq b=GA (p,r)->p.holds->fR b->∃bf,lB.di 0 b bf/\∃E:Env AC,aI E E4 bf r.sat:=by
 intro b p r a d hf;unfold Bq at a;split at a
 .rename_i n f z w;simp only[Z1,Z2]at a;obtain⟨rfl,rfl⟩:=a;obtain⟨h,c⟩:=d;exact⟨[.sl 18 (aE n f).length (aF (aE n f) 200),.aa z w],⟨h.le,cB,⟨⟩⟩,ab4 (aE n f) z w h.T c⟩
 .simp at a
def adh:ah AC:=⟨14,Bq,λargs w=>Tryz.call14 args w,gR bQ Tryz.func14 Bq afa⟩
def ou(z b:Z):J:=decide (2<z)&&(G (z%2=0) ||(G (o3 z b=0)&&!oz z b))
def acI(z b:Z)(n:Y):(fX 2/\(n<=1000000/\64<=1000000)/\bif G (aY z 2<=0)then GE=ou z b else (n<=128/\(-9223372036854775808)<=b/\b<=9223372036854775807/\z<4294967296)/\((0:Z)<=0/\0<(D (aA (GM z)):Z))/\bif X u32 (BitVec.toNat (GN (B7 u32) (F (aA (GM z)) (S 0) 0) &&&GN (B7 u32) 1):Z)==0 then GC=ou z b else bif o3 z b==0 then (!oz z b)=ou z b else GE=ou z b)=aI (aK [iK,eZ,SZ] aC) F3 [.aa z n,.int .i64 b] (AZ (.ret (.bool (ou z b)))):=by kernel_rfl
def acA(z:Z)(n:Y):(z<4294967296/\bif hD z != 0 then AE GB 0 0=AE GB 0 0/\(6:Z)=6/\E else bif !ep z then AE GB 0 0=AE GB 0 0/\(6:Z)=6/\E else H)=aI (aK [Gc] aC) F6 [.aa z n] (AZ (.ret (.tup [.val (.slice GB 0 0),.int .i64 6]))):=by kernel_rfl
def akN(n:Y):(fX 2/\(1:Z)=1/\aD 2 2 64 n/\AE GB 0 0=AE GB 0 0/\AE GB 0 0=AE GB 0 0/\(aD 0 0 0 0/\aD 0 0 0 0/\aD 0 0 0 0/\E)/\(aD 0 0 0 0/\aD 0 0 0 0/\GE=GE/\E)/\aD 0 0 0 0/\E)=aI (aK [cC] aC) F2 [] (AZ (.ret (.st [.int .i64 1,.aa 2 n,.val (.slice GB 0 0),.val (.slice GB 0 0),.st [.aa 0 0,.aa 0 0,.aa 0 0],.st [.aa 0 0,.aa 0 0,.bool GE],.aa 0 0]))):=by kernel_rfl
def Bk:aG
 |[.aa z n,.int .i64 b]=>GA (GA (n<=128/\-9223372036854775808<=b/\b<=9223372036854775807/\z<4294967296),.ret (.bool (ou z b)))
 |_=>GB
def ae3:bC F3 Bk:=by
 intro ms p r h a;unfold Bk at h;split at h
 .rename_i z n b;cases h;obtain⟨h1,h2,h3,h4⟩:=a;refine⟨aK [iK,eZ,SZ] aC,?_⟩;rw[<-acI z b n];unfold ou;refine⟨by omega,by omega,aJ (decide_eq_true_iff.trans uO) (λq=>by rw[Y1 (show ¬ 2<z by omega),C0]) (λq=>?_)⟩;have q:2<z:=by omega
  have:=zh (z:=z)
  grind [UD]
 .simp at h
def adg:ah AC:=⟨31,Bk,λargs w=>Tryz.call31 args w,aO bQ Tryz.func31 Bk ae3⟩
def Bc:aG
 |[.aa z _]=>GA (GA (z<4294967296/\ep z=GE),.ret (.tup [.val (.slice GB 0 0),.int .i64 6]))
 |_=>GB
def aeV:bC F6 Bc:=by
 intro ms p r h a;unfold Bc at h;split at h
 .rename_i z n;cases h;obtain⟨h1,a⟩:=a;refine⟨aK [Gc] aC,?_⟩;rw[<-acA z n]
  simp_all
 .simp at h
def adx:ah AC:=⟨22,Bc,λargs w=>Tryz.call22 args w,aO bQ Tryz.func22 Bc aeV⟩
def KI:MV:= .st [.int .i64 1,.aa 2 64,.val (.slice GB 0 0),.val (.slice GB 0 0),.st [.aa 0 0,.aa 0 0,.aa 0 0],.st [.aa 0 0,.aa 0 0,.bool GE],.aa 0 0]
def GU:aG
 |[]=>GA (GB,.ret KI)
 |_=>GB
def amP:bC F2 GU:=by
 intro ms p r h hp;unfold GU at h;split at h
 .simp only[Z1,Z2]at h;obtain⟨rfl,rfl⟩:=h;refine⟨aK [cC] aC,?_⟩;unfold KI;rw[<-akN 64]
  grind
 .simp at h
def al2:ah AC:=⟨33,GU,λargs w=>Tryz.call33 args w,aO bQ Tryz.func33 GU amP⟩
structure tu (m:MV):Prop where
 h:∀(c:Ctx) (w:World) (cs:List Value),aj c w m cs->aj c w (.sl 1 (qk m).length (bI (qk m))) cs
structure HD (m:MV):Prop where
 h:∀(c:Ctx) (w:World) (cs:List Value),aj c w m cs->aj c w (.sl 2 (qm m).length (iL (qm m) 200)) cs
def yL:tu (.val (.slice GB 0 0)):=⟨λc w cs r=>by
 obtain⟨rfl,_⟩:=r;exact⟨GB,0,rfl,Z0 _,λh=>N h (C7 0)⟩⟩
def pF:HD (.val (.slice GB 0 0)):=⟨λc w cs r=>by
 obtain⟨rfl,_⟩:=r;exact⟨GB,0,rfl,Z0 _,λh=>N h (C7 0)⟩⟩
def rH{n:Y}{f:Y->MV}(h:∀i,i<n->dq 200 (f i)):HD (.sl 2 n f):=⟨λc w j r=>by
 obtain⟨a,cap,u,t,s⟩:=r;have e:qm (.sl 2 n f)=aH n f:=rfl;rw[e];refine⟨a,cap,by rw[bB];exact u,by rw[bB];exact t,λd=>?_⟩;rw[bB]at d⊢;obtain⟨b,off,q,p,o⟩:=s d;refine⟨b,off,q,p,λi g=>?_⟩;obtain⟨j,m,l,k⟩:=o i g;exact⟨j,m,(t7 h).h i g _ _ _ l,k⟩⟩
def ZD{n:Y}{f:Y->MV}(h:∀i,i<n->f i=bI (iT n f) i):tu (.sl 1 n f):=⟨λc w cs r=>by
 obtain⟨a,cap,g,d,h3⟩:=r;have e:qk (.sl 1 n f)=iT n f:=rfl;rw[e];have b:(iT n f).length=n:=by simp[iT]
 refine⟨a,cap,by rw[b];exact g,by rw[b];exact d,λhl=>?_⟩
 simp_all⟩
inductive yz (c:Ctx) (w:World):List MV->List MV->Prop where
 |nil:yz c w [] []
 |cons {m m':MV} {l l':List MV} (h:∀vs,aj c w m vs->aj c w m' vs) (t:yz c w l l'):yz c w (m::l) (m'::l')
def vV{c:Ctx}{w:I}:∀ {l l':O MV} {a:O K},yz c w l l'->cg c w l a->cg c w l' a
 |[], [],_,.nil,h=>h
 |_::_,_::_,_,.cons f d,⟨x,y,e,q1,b⟩=>⟨x,y,e,f x q1,vV d b⟩
def oS{c:Ctx}{w:I}{z:Z}{n:Y}(h:n<=200):∀a,aj c w (.aa z n) a->aj c w (.aa z 200) a:=λ_ ⟨s,e,d,b⟩=>⟨s,e,EO d (A6 (by omega) h),b⟩
def NF{k n a b m x y o:Z}{i:J}{P B:MV}{l j g f e p t:Y}(F:l<=200)(u:j<=200)(q:g<=200)(E:f<=200)(D:e<=200)(C:p<=200)(z:tu P)(A:HD B) :
  kv 200 (.st [.int .i64 k,.aa n t,P,B,.st [.aa a l,.aa b j,.aa m g],.st [.aa x f,.aa y e,.bool i],.aa o p]):=⟨λc w v r=>by
 have r:cg c w [.int .i64 k,.aa n t,P,B,.st [.aa a l,.aa b j,.aa m g],.st [.aa x f,.aa y e,.bool i],.aa o p] v:=r;show cg c w [.int .i64 k,.st [.bool (G (n<0)),.ws (aA n.natAbs)],.sl 1 (qk P).length (bI (qk P)),.sl 2 (qm B).length (iL (qm B) 200),.st [.aa a 200,.aa b 200,.aa m 200],.st [.aa x 200,.aa y 200,.bool i],.aa o 200] v;refine vV (.cons (λ_ h=>h) (.cons (λd h=>?_) (.cons (λd h=>z.h c w d h) (.cons (λd h=>A.h c w d h) (.cons (λd h=>?_) (.cons (λd h=>?_) (.cons (oS C) .nil))))))) r
 .obtain⟨s,rfl,u,q⟩:=h;exact⟨[.bool (G (n<0))], [s],rfl,rfl, [s], [],rfl,⟨s,rfl,q⟩,rfl⟩
 .have h:cg c w [.aa a l,.aa b j,.aa m g] d:=h;exact vV (.cons (oS F) (.cons (oS u) (.cons (oS q) .nil))) h
 .have h:cg c w [.aa x f,.aa y e,.bool i] d:=h;exact vV (.cons (oS E) (.cons (oS D) (.cons (λ_ h=>h) .nil))) h⟩
def PB:aG
 |[.sl 18 n f]=>GA (GA (cw n f),.ret (.tup [.int .i64 (my (aE n f)),.int .i64 (fw (aE n f))]))
 |[.val (.slice GB 0 0)]=>GA (GB,.ret (.tup [.int .i64 0,.int .i64 70]))
 |_=>GB
def aaY:ah AC:=zW.conv PB λms p r h b hf=>by
 unfold PB at h;split at h
 .rename_i n f;simp only[Z1,Z2]at h;obtain⟨rfl,rfl⟩:=h;exact⟨[.sl 18 n f],_,⟨⟨rfl,rfl,AG⟩,⟨⟩⟩,rfl,b⟩
 .simp only[Z1,Z2]at h;obtain⟨rfl,rfl⟩:=h;exact⟨[.sl 18 0 (λ_=>.any)],GA (cw 0 λ_=>.any),⟨⟨rfl,rfl⟩,⟨⟩⟩,rfl,Z9 _,λj c=>N c (DW j),λs a=>N a DK⟩
 .simp at h
def LQ:Env AC:=⟨[al2,cC,aaY,adx,adh,adg], [],39,aC,fun|999994=> [0]|_=> [],λ_ _=>GB⟩
def ahl(T:J):(fX 65537/\fX 3/\fX 7/\fX 1/\fX 3/\fX 7/\fX 9/\fX 8/\cw 2 (aU [MV.st [MV.int GD (1:Z),MV.aa 2 64,MV.val (AE GB 0 0),MV.val (AE GB 0 0),MV.st [MV.aa 0 0,MV.aa 0 0,MV.aa 0 0],MV.st [MV.aa 0 0,MV.aa 0 0,MV.bool GE],MV.aa 0 0],MV.st [MV.int GD (2:Z),MV.aa 65537 64,MV.sl 1 1 λi=>MV.int GD (F [(0:Z)] i 0),MV.sl 2 1 (aU [MV.aa 3 64]),MV.st [MV.aa 0 0,MV.aa 0 0,MV.aa 0 0],MV.st [MV.aa 0 0,MV.aa 0 0,MV.bool GE],MV.aa 0 0]])/\cw 2 (aU [MV.st [MV.int GD (1:Z),MV.aa 2 64,MV.val (AE GB 0 0),MV.val (AE GB 0 0),MV.st [MV.aa 0 0,MV.aa 0 0,MV.aa 0 0],MV.st [MV.aa 0 0,MV.aa 0 0,MV.bool GE],MV.aa 0 0],MV.st [MV.int GD (3:Z),MV.aa 7 64,MV.sl 1 1 λi=>MV.int GD (F [(0:Z)] i 0),MV.sl 2 2 (aU [MV.aa 1 64,MV.aa 3 64]),MV.st [MV.aa 0 0,MV.aa 0 0,MV.aa 0 0],MV.st [MV.aa 0 0,MV.aa 0 0,MV.bool GE],MV.aa 0 0]])/\cw 1 (aU [MV.st [MV.int GD (1:Z),MV.aa 7 64,MV.val (AE GB 0 0),MV.val (AE GB 0 0),MV.st [MV.aa 0 0,MV.aa 0 0,MV.aa 0 0],MV.st [MV.aa 0 0,MV.aa 0 0,MV.bool GE],MV.aa 0 0]])/\cw 2 (aU [MV.st [MV.int GD (1:Z),MV.aa 2 64,MV.val (AE GB 0 0),MV.val (AE GB 0 0),MV.st [MV.aa 0 0,MV.aa 0 0,MV.aa 0 0],MV.st [MV.aa 0 0,MV.aa 0 0,MV.bool GE],MV.aa 0 0],MV.st [MV.int GD (2:Z),MV.aa 9 64,MV.sl 1 1 λi=>MV.int GD (F [(0:Z)] i 0),MV.sl 2 1 (aU [MV.aa 8 64]),MV.st [MV.aa 0 0,MV.aa 0 0,MV.aa 0 0],MV.st [MV.aa 0 0,MV.aa 0 0,MV.bool GE],MV.aa 0 0]])/\fX 9/\((9:Z)<4294967296/\ep 9=GE)/\fX 101/\fX 100/\fX 101/\fX 1/\fX 2/\cw 2 (aU [MV.st [MV.int GD (1:Z),MV.aa 2 64,MV.val (AE GB 0 0),MV.val (AE GB 0 0),MV.st [MV.aa 0 0,MV.aa 0 0,MV.aa 0 0],MV.st [MV.aa 0 0,MV.aa 0 0,MV.bool GE],MV.aa 0 0],MV.st [MV.int GD (4:Z),MV.aa 101 64,MV.sl 1 1 λi=>MV.int GD (F [(0:Z)] i 0),MV.val (AE GB 0 0),MV.st [MV.aa 100 64,MV.aa 0 0,MV.aa 101 64],MV.st [MV.aa 1 64,MV.aa 0 0,MV.bool GE],MV.aa 2 64]])/\fX 65537/\(cw 2 (aU [MV.st [MV.int GD (1:Z),MV.aa 2 64,MV.val (AE GB 0 0),MV.val (AE GB 0 0),MV.st [MV.aa 0 0,MV.aa 0 0,MV.aa 0 0],MV.st [MV.aa 0 0,MV.aa 0 0,MV.bool GE],MV.aa 0 0],MV.st [MV.int GD (2:Z),MV.aa 65537 64,MV.sl 1 1 λi=>MV.int GD (F [(0:Z)] i 0),MV.sl 2 1 (aU [MV.aa 3 64]),MV.st [MV.aa 0 0,MV.aa 0 0,MV.aa 0 0],MV.st [MV.aa 0 0,MV.aa 0 0,MV.bool GE],MV.aa 0 0]])/\64<=1000)/\fX 2/\(cw 2 (aU [MV.st [MV.int GD (1:Z),MV.aa 2 64,MV.val (AE GB 0 0),MV.val (AE GB 0 0),MV.st [MV.aa 0 0,MV.aa 0 0,MV.aa 0 0],MV.st [MV.aa 0 0,MV.aa 0 0,MV.bool GE],MV.aa 0 0],MV.st [MV.int GD (2:Z),MV.aa 65537 64,MV.sl 1 1 λi=>MV.int GD (F [(0:Z)] i 0),MV.sl 2 1 (aU [MV.aa 3 64]),MV.st [MV.aa 0 0,MV.aa 0 0,MV.aa 0 0],MV.st [MV.aa 0 0,MV.aa 0 0,MV.bool GE],MV.aa 0 0]])/\64<=1000)/\((0:Z)<=1/\(1:Z)<=(↑(2:Y):Z))/\fX 65537/\((cw (2-S 1) λi=>aU [MV.st [MV.int GD (1:Z),MV.aa 2 64,MV.val (AE GB 0 0),MV.val (AE GB 0 0),MV.st [MV.aa 0 0,MV.aa 0 0,MV.aa 0 0],MV.st [MV.aa 0 0,MV.aa 0 0,MV.bool GE],MV.aa 0 0],MV.st [MV.int GD (2:Z),MV.aa 65537 64,MV.sl 1 1 λi=>MV.int GD (F [(0:Z)] i 0),MV.sl 2 1 (aU [MV.aa 3 64]),MV.st [MV.aa 0 0,MV.aa 0 0,MV.aa 0 0],MV.st [MV.aa 0 0,MV.aa 0 0,MV.bool GE],MV.aa 0 0]] (S 1+i))/\64<=1000)/\fX 9/\(64<=128/\(-9223372036854775808:Z)<=2/\(2:Z)<=9223372036854775807/\(9:Z)<4294967296)/\fX 7/\(64<=128/\(-9223372036854775808:Z)<=2/\(2:Z)<=9223372036854775807/\(7:Z)<4294967296)/\fX 2/\(64<=128/\(-9223372036854775808:Z)<=3/\(3:Z)<=9223372036854775807/\(2:Z)<4294967296)/\(!ou 2 3)=T)=aI LQ FB [] (AZ (.ret (.bool T))):=by kernel_rfl
structure isOk (m:MV):Prop where
 jn:kv 200 m
 ok:ff (qI m)
def lA{k n a b m x y o:Z}{i:J}{P B:MV}{h g f e d c j:Y}(A:h<=200)(z:g<=200)(w:f<=200)(v:e<=200)(u:d<=200)(t:c<=200)(r:tu P)(s:HD B)(p:n.natAbs<2^160)(l:(qk P).length<=90)(q:(qm B).length<=1000) :
  isOk (.st [.int .i64 k,.aa n j,P,B,.st [.aa a h,.aa b g,.aa m f],.st [.aa x e,.aa y d,.bool i],.aa o c]) :=
 ⟨NF A z w v u t r s,⟨aM _,by
  have:=bR p;show(aA n.natAbs).length<=6;omega,l,q⟩⟩
def J1{n:Y}{f:Y->MV}(b:n<=1000000)(h:∀i,i<n->isOk (f i)):cw n f:=⟨b,λj c=>(h j c).jn,λs a=>by
 unfold aE at a;obtain⟨i,d,rfl⟩:=BM.1 a;exact(h i (E7.1 d)).ok⟩
def Cq{b a:MV}(e:isOk b)(d:isOk a):cw 2 (aU [b,a]):=J1 (by omega) λi c=>by
 match i,c with
 |0,_=>exact e
 |1,_=>exact d
def afx{a:MV}(c:isOk a):cw 1 (aU [a]):=J1 (by omega) λi b=>by
 match i,b with
 |0,_=>exact c
def pG(z:Z):tu (.sl 1 1 λi=>.int .i64 ([z].getD i 0)):=ZD λi hi=>by
 rfl
theorem ajz:aI LQ FB [] (AZ (.ret (.bool GC))):=by
 rw[<-ahl GC];have a:(0:Y)<=200:=by omega
 have b:(64:Y)<=200:=by omega
 have two:isOk KI:=lA a a a a a a yL pF (by decide) (Z9 _) (Z9 _);have e:isOk (.st [.int .i64 2,.aa 65537 64,.sl 1 1 (λi=>.int .i64 ([(0:Z)].getD i 0)),.sl 2 1 (aU [.aa 3 64]),.st [.aa 0 0,.aa 0 0,.aa 0 0],.st [.aa 0 0,.aa 0 0,.bool GE],.aa 0 0]) :=
  lA a a a a a a (pG 0) (rH λi c=>by
   match i,c with
   |0,_=>exact zz b) (by decide) (show 1<=90 by omega) (show 1<=1000 by omega)
 have d:=Cq two e;refine⟨by omega,by omega,by omega,by omega,by omega,by omega,by omega,by omega,d,Cq two (lA a a a a a a (pG 0) (rH λi c=>?_) (by decide) (show 1<=90 by omega) (show 2<=1000 by omega)),
  afx (lA a a a a a a yL pF (by decide) (Z9 _) (Z9 _)),Cq two (lA a a a a a a (pG 0) (rH λi c=>?_) (by decide) (show 1<=90 by omega) (show 1<=1000 by omega)),by omega,⟨by omega,by decide⟩,by omega,by omega,by omega,by omega,by omega,
  Cq two (lA b a b b a b (pG 0) pF (by decide) (show 1<=90 by omega) (Z9 _)),by omega,⟨d,by omega⟩,by omega,⟨d,by omega⟩,by omega,by omega,⟨J1 (by decide) λi c=>?_,by omega⟩,by omega,by omega,by omega,by omega,by omega,by omega,by decide⟩
 .match i,c with
  |0,_=>exact zz b
  |1,_=>exact zz b
 .match i,c with
  |0,_=>exact zz b
 .match i,c with
  |0,_=>exact e
def Eh:aG
 |[]=>GA (GB,.ret (.bool GC))
 |_=>GB
def akp:bC FB Eh:=by
 intro ms p r h hp
 grind [Eh,Z1,Z2,LQ,ajz]
def aio:ah AC:=⟨9,Eh,λargs w=>Tryz.call9 args w,aO bQ Tryz.func9 Eh akp⟩
def acT(n:Z)(b:_)(d:b=(X GF (BitVec.toNat (GN (B7 GF) n &&&GN (B7 GF) 4294967295):Z)))(a:_)(c:a=(fdiv n ((2:Z)^min (S 32) (B7 GF)))):((0:Z)<=32/\fX (X GD a)/\fX 4294967296/\(64<=1000000/\64<=1000000)/\fX (X GD b)/\(64+64<=1000000/\64<=1000000)/\X GD a *4294967296+X GD b =n/\(max (64+64) 64+1<=64\/GM (X GD a *4294967296+X GD b)<2^64))=aI (aK [cC,e9,fZ] aC) F8 [.int .u64 n] (AZ (.ret (.aa n 64))):=by subst d c;kernel_rfl
def Bv:aG
 |[.int .u64 n]=>GA (GA (0<=n/\n<18446744073709551616),.ret (.aa n 64))
 |_=>GB
def nP:Y->Y->Y
 |0,n=>n
 |f+1,n=>o (gX n) n (nP f (n+1))
structure yr (n m:Nat) (s:cl):Prop where
 h1:n<=s.i
 h2:s.i<=m
def OM(n m:Y):Y->MS->C bt
 |1,_=>GA (.inv cl (yr n m) (λs=>⟨9, [(0,.int .u64 s.i)], [],0⟩) (λs=>m-s.i))
 |_,_=>GB
def aak(n m:Y):((∃i:cl,yr n m i/\((n:Z)=(i.1:Z)/\E)/\E)/\∀(i:cl),yr n m i->(0<=(i.1:Z)/\(i.1:Z)<18446744073709551616)/\bif !gX (S (i.1:Z))then ∃j:cl,yr n m j/\((X GF ((i.1:Z)+1)=(j.1:Z)/\E)/\E)/\m-j.1<m-i.1 else (i.1:Z)=(m:Z))=aI (aK [ss] (OM n m)) F7 [.int .u64 n] (AZ (.ret (.int .u64 m))):=by kernel_rfl
def afd:bC F8 Bv:=by
 intro ms p r h a;unfold Bv at h;split at h
 .rename_i n;cases h;obtain⟨c,b⟩:=a;refine⟨aK [cC,e9,fZ] aC,?_⟩;rw[<-acT n _ rfl _ rfl];rw[zR c b];have f:(2:Z)^min (S 32) (B7 GF)=4294967296:=by decide
  rw[f,fd (by omega)];have e:X GD (n/4294967296)=n/4294967296:=aV (by omega) (by omega);have d:X GD (n%4294967296)=n%4294967296:=aV (by omega) (by omega);rw[e,d];exact⟨by omega,by omega,by omega,by omega,by omega,by omega,by omega,.inr (by omega)⟩
 .simp at h
def mD:ah AC:=⟨20,Bv,λargs w=>Tryz.call20 args w,aO bQ Tryz.func20 Bv afd⟩
def fS(n:Y):Y:=A0 (⟨nP 100000 n,rfl⟩:∃r,r=nP 100000 n)
def RP(n:Y):fS n=nP 100000 n:=AP (⟨nP 100000 n,rfl⟩:∃r,r=nP 100000 n)
def zf:aG
 |[.int .u64 n]=>GA (GA (0<=n/\n<1099511627776/\gX (fS n.toNat)=GC),.ret (.int .u64 (fS n.toNat)))
 |_=>GB
def IY:∀(f n:Y),n<=nP f n
 |0,n=>Z0 n
 |f+1,n=>by
  unfold nP;cases gX n with
  |true=>exact Z0 n
  |false=>exact A5 (DP n) (IY f (n+1))
def PU:∀(f n:Y),nP f n<=n+f
 |0,n=>Z0 n
 |f+1,n=>by
  unfold nP;cases gX n with
  |true=>exact CQ n _
  |false=>have:=PU f (n+1);simp only[Z5];omega
def Nm:∀(f n k:Y),n<=k->k<nP f n->gX k=GE
 |0,n,k,h1,a=>by have a:k<n:=a;omega
 |f+1,n,k,h1,a=>by
  unfold nP at a;cases b:gX n with
  |true=>rw[b,Z6]at a;omega
  |false =>
   rw[b,Z5]at a;by_cases c:k=n
   .subst c;exact b
   .exact Nm f (n+1) k (by omega) a
def aa8:bC F7 zf:=by
 intro ms p r h e;unfold zf at h;split at h
 .rename_i b;cases h;obtain⟨h1,h2,f⟩:=e;obtain⟨n,rfl⟩:∃n:Y,b=n:=⟨b.toNat,by omega⟩;rw[Z8]at *;rw[RP]at *;have j:=IY 100000 n;have g2:=PU 100000 n;have g:=Nm 100000 n;generalize nP 100000 n=m at *;refine⟨aK [ss] (OM n m),?_⟩;rw[<-aak n m];refine⟨⟨⟨n⟩,⟨Z0 n,j⟩,⟨rfl,⟨⟩⟩,⟨⟩⟩,λi I=>?_⟩;obtain⟨i⟩:=i;obtain⟨c,d⟩:=I;dsimp only at c d⊢;rw[Z8];refine⟨by omega,?_⟩;by_cases a:i=m
  .subst a;rw[f];rfl
  .rw[g i c (by omega)];have k:X GF ((i:Z)+1)=((i+1:Y):Z):=by rw[oJ];omega
   exact⟨⟨i+1⟩,⟨by show n<=i+1;omega,by show i+1<=m;omega⟩,⟨⟨k,⟨⟩⟩,⟨⟩⟩,by show m-(i+1)<m-i;omega⟩
 .simp at h
def aaZ:ah AC:=⟨21,zf,λargs w=>Tryz.call21 args w,aO bQ Tryz.func21 zf aa8⟩
def y8:Y->Y->Y->Y
 |0,_,x=>x
 |f+1,d,x=>if x%d=0 then y8 f d (x/d)else x
def i7(d x:Y):Y:=y8 x d x
def fK:Y->Y->Y->O Z
 |0,_,_=> []
 |f+1,n,d=>if d*d<=n then (if n%d=0 then (d:Z)::fK f (i7 d n) (d+1)else fK f n (d+1))else (if 1<n then [(n:Z)]else [])
def hZ(n:Y):O Z:=fK (n+1) n 2
theorem M8:∀(f g d x:Y),1<=x->2<=d->x<=f->x<=g->y8 f d x=y8 g d x
 |0,_,_,x,h,_,h1,_=>by omega
 |_,0,_,x,h,_,_,h2=>by omega
 |f+1,g+1,d,x,h,c,h1,h2=>by
  unfold y8;split
  .rename_i b;have de:x/d<x:=DY (by omega) (by omega);have a:1<=x/d:=EL (AL (by omega) (AF b)) (by omega);exact M8 f g d (x/d) a c (by omega) (by omega)
  .rfl
def Is{d x:Y}(h:1<=x)(hd:2<=d)(c:x%d=0):i7 d x=i7 d (x/d)/\1<=x/d/\x/d<x:=by
 have b:x/d<x:=DY (by omega) (by omega);have a:1<=x/d:=EL (AL (by omega) (AF c)) (by omega);refine⟨?_,a,b⟩;unfold i7;obtain⟨k,rfl⟩:∃k,x=k+1:=⟨x-1,by omega⟩
 grind [y8,M8]
def Ah{d x:Y}(h:1<=x)(hx:x%d≠0):i7 d x=x:=by
 unfold i7;obtain⟨k,rfl⟩:∃k,x=k+1:=⟨x-1,by omega⟩
 all_goals grind [y8]
structure dw where
 n:Nat
 d:Nat
 out:List Int
structure rq (n0:Nat) (R:List Int) (s:dw):Prop where
 n1:1<=s.n
 n2:s.n<=n0
 d1:2<=s.d
 d2:(s.d-1)*(s.d-1)<=n0
 hr:s.out++fK (n0+3-s.d) s.n s.d=R
 hl:s.out.length<=s.d
structure qe (d n1:Nat) (s:cl):Prop where
 h1:1<=s.i
 h2:s.i<=n1
 h3:i7 d s.i=i7 d n1
def Qv(a:Y)(R:O Z):Y->MS->C bt
 |3,_=>GA (.inv dw (rq a R) (λs=>⟨35, [(0,.int .u64 s.n),(3,.bs 0 0 s.out.length),(4,.int .u64 s.d)], [⟨GE,.arr .u64 s.out⟩],0⟩) (λs=>a+3-s.d))
 |7,e=>(match bD 4 e.tm,bD 0 e.tm with
  |.int _ d,.int _ b=>GA (.inv cl (qe d.toNat b.toNat) (λs=>⟨35, [(0,.int .u64 s.i),(3,bD 3 e.tm),(4,bD 4 e.tm)],e.bx,0⟩) (λs=>s.i))
  |_,_=>GB)
 |_,_=>GB
def acs(n:Y)(R:O Z)(a:_)(m:a=λ(i:dw)=>(dw.d i:Z))(b:_)(l:b=λ(i:dw)=>(dw.out i))(e:_)(k:e=λ(i:dw)=>(bh.ints GF (W 1 (Q 0 [(a i)]))))(c:_)(g:c=λ(i:dw)=>(dw.n i:Z))(f:_)(h:f=λ(i:dw)=>(D (b i) +AK (bh.ints GF (W 1 (Q 0 [(c i)]))))):((∃i,rq n R i/\((n:Z)= (c i)/\(0=0/\0=D (b i))/\2= (a i)/\E)/\[]=dw.out i/\E)/\∀(i:dw),rq n R i->bif G (X GF ((a i) * (a i))<= (c i))then ((a i) =0->H)/\bif P (c i) (a i) ==0 then (0+1<=1/\D (b i) <=D (b i)/\(D (b i) +AK (e i))*8<=140737488355328)/\(∃ae,qe (S (a i)) (S (c i)) ae/\((c i) =(ae.1:Z)/\(0=0/\D (b i) +AK (e i) =D (b i) +AK (e i))/\(a i) = (a i)/\E)/\W (D (b i)) (b i) ++W 1 (Q 0 [(a i)])=W (D (b i)) (b i) ++W 1 (Q 0 [(a i)])/\[(a i)]=[(a i)]/\E)/\∀(ae:cl),qe (S (a i)) (S (c i)) ae->((a i) =0->H)/\bif P (ae.1:Z) (a i) ==0 then ((a i) =0->H)/\∃j,qe (S (a i)) (S (c i)) j/\((X GF (GO (ae.1:Z) (a i))=(j.1:Z)/\(0=0/\D (b i) +AK (e i) =D (b i) +AK (e i))/\(a i) = (a i)/\E)/\W (D (b i)) (b i) ++W 1 (Q 0 [(a i)])=W (D (b i)) (b i) ++W 1 (Q 0 [(a i)])/\[(a i)]=[(a i)]/\E)/\j.1<ae.1 else ∃j,rq n R j/\(((ae.1:Z)=(dw.n j:Z)/\(0=0/\D (b i) +AK (e i) =D (dw.out j))/\X GF ((a i) +1)=(dw.d j:Z)/\E)/\W (D (b i)) (b i) ++W 1 (Q 0 [(a i)])=dw.out j/\E)/\n+3-dw.d j<n+3-dw.d i else (∃ae,qe (S (a i)) (S (c i)) ae/\((c i) =(ae.1:Z)/\(0=0/\D (b i) =D (b i))/\(a i) = (a i)/\E)/\dw.out i=dw.out i/\E)/\∀(ae:cl),qe (S (a i)) (S (c i)) ae->((a i) =0->H)/\bif P (ae.1:Z) (a i) ==0 then ((a i) =0->H)/\∃j,qe (S (a i)) (S (c i)) j/\((X GF (GO (ae.1:Z) (a i))=(j.1:Z)/\(0=0/\D (b i) =D (b i))/\(a i) = (a i)/\E)/\dw.out i=dw.out i/\E)/\j.1<ae.1 else ∃j,rq n R j/\(((ae.1:Z)=(dw.n j:Z)/\(0=0/\D (b i) =D (dw.out j))/\X GF ((a i) +1)=(dw.d j:Z)/\E)/\dw.out i=dw.out j/\E)/\n+3-dw.d j<n+3-dw.d i else bif G ((c i) >1)then (0+1<=1/\D (b i) <=D (b i)/\(f i) *8<=140737488355328)/\0+ (f i) <=D (W (D (b i)) (b i) ++W 1 (Q 0 [(c i)]))/\1=1/\D (b i) +AK (bh.ints GF (W 1 (Q 0 [(c i)])))=D R/\ak (f i) (λj=>MV.int GF (F (W (D (b i)) (b i) ++W 1 (Q 0 [(c i)])) (0+j) 0)) λj=>MV.int GF (F R j 0)else 0+D (b i) <=D (b i)/\1=1/\D (b i) =D R/\ak (D (b i)) (λj=>MV.int GF (F (b i) (0+j) 0)) λj=>MV.int GF (F R j 0))=aI (aK [] (Qv n R)) E0 [.int .u64 n] (AZ (.ret (.sl 1 R.length (λj=>.int .u64 (R.getD j 0))))):=by subst m l k g h;kernel_rfl
def Kl(a b:Y):(P (a:Z) (b:Z)==0)=G (a%b=0):=by
 grind
def xS{a:Y}(h:a<18446744073709551616:=by omega):X GF (a:Z)=a:=by rw[oJ];omega
def abR(n:Y)(M:1<=n:=by omega)(h2:n<4611686018427387904:=by omega):∃E:Env AC,aI E E0 [.int .u64 n] (AZ (.ret (.sl 1 (hZ n).length (λj=>.int .u64 ((hZ n).getD j 0))))):=by
 refine⟨aK [] (Qv n (hZ n)),?_⟩;rw[<-acs n (hZ n) _ rfl _ rfl _ rfl _ rfl _ rfl];have N:rq n (hZ n) ⟨n,2, []⟩:=⟨M,Z0 n,Z0 2,by show 1*1<=n;omega,rfl,Z9 _⟩;generalize hZ n=R at *;refine⟨⟨_,N,⟨rfl,⟨rfl,rfl⟩,rfl,⟨⟩⟩,rfl,⟨⟩⟩,λs I=>?_⟩;obtain⟨x,d,out⟩:=s;obtain⟨m,H,d1,d2,b,L⟩:=I;dsimp only at m H d1 d2 b L⊢;have F:d<=2147483648:=by
  rcases BI 2147483648 d with q|q
  .have:=AR (show 2147483648<=d-1 by omega) (show 2147483648<=d-1 by omega);omega
  .exact q
 have q6:d*d<=4611686018427387904:=AR F F;have P:X GF ((d:Z)*(d:Z))=((d*d:Y):Z):=by rw[<-AM];exact xS
 have O:X GF ((d:Z)+1)=((d+1:Y):Z):=xS (a:=d+1);have G:W out.length out=out:=CL;have D:∀y:Z,W 1 (drop 0 [y])=[y]:=λ_=>rfl;have C:∀y:Z,AK (bh.ints GF [y])=1:=λ_=>rfl;rw[P,O,G,D,D,C,C,Kl];refine aJ (p:=d*d<=x) (by rw[Z4];omega) (λq1=>?_) (λq1=>?_)
 .have B:d<=x:=A5 (CU d (by omega)) q1;obtain⟨f,z⟩:∃f,n+3-d=f+1:=⟨n+2-d,by omega⟩;rw[z]at b;have b:out++(if d*d<=x then (if x%d=0 then (d:Z)::fK f (i7 d x) (d+1)else fK f x (d+1))else (if 1<x then [(x:Z)]else []))=R:=b;rw[U q1]at b;have ard:n+3-(d+1)=f:=by omega
  refine⟨by omega,aJ (p:=x%d=0) Z4 (λh=>?_) (λh=>?_)⟩
  .rw[U h]at b;have e:(out++[(d:Z)]).length=out.length+1:=by simp
   refine⟨⟨by omega,Z0 _,by omega⟩,⟨⟨x⟩,⟨m,Z0 x,rfl⟩,⟨rfl,⟨rfl,rfl⟩,rfl,⟨⟩⟩,rfl,rfl,⟨⟩⟩,λt J=>?_⟩;obtain⟨t⟩:=t;obtain⟨g,l,k⟩:=J;dsimp only at g l k⊢;rw[Z8]at l;rw[Z8,Z8]at k;rw[Kl];refine⟨by omega,aJ (p:=t%d=0) Z4 (λi=>?_) (λi=>?_)⟩
   .obtain⟨v,u,o⟩:=Is g d1 i;have A:X GF (GO (t:Z) (d:Z))=((t/d:Y):Z):=by
     rw[CF (by omega),<-BF];exact xS
    exact⟨by omega,⟨t/d⟩,⟨u,by show t/d<=x;omega,v.symm.trans k⟩,⟨⟨A,⟨rfl,rfl⟩,rfl,⟨⟩⟩,rfl,rfl,⟨⟩⟩,o⟩
   .have K:=Ah g i;refine⟨⟨t,d+1,out++[(d:Z)]⟩,⟨g,by show t<=n;omega,by show 2<=d+1;omega,by show(d+1-1)*(d+1-1)<=n;rw[BJ];omega,?_,by show(out++[(d:Z)]).length<=d+1;omega⟩,⟨⟨rfl,⟨rfl,e.symm⟩,rfl,⟨⟩⟩,rfl,⟨⟩⟩,by show n+3-(d+1)<n+3-d;omega⟩
    simp_all
  .rw[V h]at b;refine⟨⟨⟨x⟩,⟨m,Z0 x,rfl⟩,⟨rfl,⟨rfl,rfl⟩,rfl,⟨⟩⟩,rfl,⟨⟩⟩,λt J=>?_⟩;obtain⟨t⟩:=t;obtain⟨g,l,k⟩:=J;dsimp only at g l k⊢;rw[Z8]at l;rw[Z8,Z8]at k;rw[Kl];refine⟨by omega,aJ (p:=t%d=0) Z4 (λi=>?_) (λi=>?_)⟩
   .obtain⟨v,u,o⟩:=Is g d1 i;have A:X GF (GO (t:Z) (d:Z))=((t/d:Y):Z):=by
     rw[CF (by omega),<-BF];exact xS
    exact⟨by omega,⟨t/d⟩,⟨u,by show t/d<=x;omega,v.symm.trans k⟩,⟨⟨A,⟨rfl,rfl⟩,rfl,⟨⟩⟩,rfl,⟨⟩⟩,o⟩
   .have K:=Ah g i;have ar6:=Ah m h;refine⟨⟨t,d+1,out⟩,⟨g,by show t<=n;omega,by show 2<=d+1;omega,by show(d+1-1)*(d+1-1)<=n;rw[BJ];omega,?_,by show out.length<=d+1;omega⟩,⟨⟨rfl,⟨rfl,rfl⟩,rfl,⟨⟩⟩,rfl,⟨⟩⟩,by show n+3-(d+1)<n+3-d;omega⟩
    simp_all
 .have B:d<=n+1:=by
   rcases BI (n+1) d with q|q
   .have:(d-1)*1<=(d-1)*(d-1):=AY _ (by omega);omega
   .exact q
  obtain⟨f,z⟩:∃f,n+3-d=f+1:=⟨n+2-d,by omega⟩;rw[z]at b;have b:out++(if d*d<=x then (if x%d=0 then (d:Z)::fK f (i7 d x) (d+1)else fK f x (d+1))else (if 1<x then [(x:Z)]else []))=R:=b;rw[V q1]at b;refine aJ (p:=1<x) (by rw[Z4];omega) (λh=>?_) (λh=>?_)
  .rw[U h]at b;subst b;have e:(out++[(x:Z)]).length=out.length+1:=by simp
   refine⟨⟨by omega,Z0 _,by omega⟩,by omega,rfl,e.symm,⟨λj _ c w Q r=>?_⟩⟩
   simp_all
  .rw[V h,DS]at b;subst b;refine⟨by omega,rfl,rfl,⟨λj _ c w Q r=>?_⟩⟩
   all_goals simp_all
def aL(n:Y):O Z:=A0 (⟨hZ n,rfl⟩:∃r,r=hZ n)
def fJ(n:Y):aL n=hZ n:=AP (⟨hZ n,rfl⟩:∃r,r=hZ n)
def Av:aG
 |[.int .u64 n]=>GA (GA (1<=n/\n<4611686018427387904),.ret (.sl 1 (aL n.toNat).length (λj=>.int .u64 ((aL n.toNat).getD j 0))))
 |_=>GB
def aeN:bC E0 Av:=by
 intro ms p r h b;unfold Av at h;split at h
 .rename_i a;cases h;obtain⟨h1,h2⟩:=b;obtain⟨n,rfl⟩:∃n:Y,a=n:=⟨a.toNat,by omega⟩;rw[Z8,fJ];exact abR n
 .simp at h
def Aq:ah AC:=⟨55,Av,λargs w=>Tryz.call55 args w,aO bQ Tryz.func55 Av aeN⟩
def p?.apg{X:Y->Prop}{c:Ctx}{w:I}{x:BC}{wd n:Y}{g e:Y->MV}(h:p? X c w [x,.rows wd n g])(p:ak n g e):p? X c w [x,.rows wd n e]:=by
 refine⟨h.lt,h.WS,h.hW,h.X,h.inj,λi b=>h.ind i b,λi bc b a=>?_⟩
 match i,a with
 |0,a=>exact h.box 0 bc b a
 |1,a =>
  simp only[aR,Z1]at a;subst a;obtain⟨arr,ty,q1,o,m,l⟩:=h.box 1 _ b rfl;refine⟨arr,ty,q1,o,m,λr d=>?_⟩;obtain⟨q,k,j,f⟩:=l r d;exact⟨q,k,p.h r d _ _ _ j,f⟩
def oN{P:M}(e:P.follows .mixedOrders=GC){f:FuncId}{i:Func}(u:P.funcs[f]? =GA i){wd:Y}(spec:O MV->Y->(Y->MV)->C (bq×Y×(Y->MV)×MV))(a:∀b n g p n' g' m,spec b n g=GA (p,n',g',m)->p.holds->∃h,ak n g h/\∃E:Env P,nN E i wd b n h n' g' m):fg P f wd spec:=by
 intro X c w n n' g g' b args p m s t j x k l v;obtain⟨h,z,y⟩:=a b n g p n' g' m s t;exact ah3 e u (λd o q=>GA (GA (∃E:Env P,nN E i wd d o q n' g' m),n',g',m)) (λd o q p2 n3 g4 m2 q1 r=>by
  simp only[Z1,Z2]at q1;obtain⟨rfl,rfl,rfl,rfl⟩:=q1;exact r) X c w n n' h g' b args _ m rfl y j (x.apg z) k l v
def bX(z:Z):ab:=⟨1,G (z<0),aA z.natAbs, [], [],0,0,0,0,0,GE,0⟩
def ow(Γ:O (ah AC))(Δ:O (Mu AC))(fz:Y->O Y)(fv:Y->MS->C bt):Env AC:=⟨Γ,Δ,39,fv,fz,λ_ _=>GB⟩
def Ho:Y->O Y
 |2=> [1000000]
 |_=> []
def Zb(L:O ab)(z:Z)(a:_)(b:a=(bh.rows 18 1 (aU [MV.st [MV.int GD (1:Z),MV.aa z 64,MV.val (AE GB 0 0),MV.val (AE GB 0 0),MV.st [MV.aa 0 0,MV.aa 0 0,MV.aa 0 0],MV.st [MV.aa 0 0,MV.aa 0 0,MV.bool GE],MV.aa 0 0]]))):(bif G (z<65536)then (0<=z/\z<18446744073709551616)/\(D L<=D L/\(D L+AK a)*288<=140737488355328)/\((0=0/\D L+AK a =D (L++[bX z]))/\E)/\(D (L++[bX z])<=D L+1/\ak (D (L++[bX z])) (λq=>bif AQ q (D L)then aF L 200 q else aU [MV.st [MV.int GD (1:Z),MV.aa z 64,MV.val (AE GB 0 0),MV.val (AE GB 0 0),MV.st [MV.aa 0 0,MV.aa 0 0,MV.aa 0 0],MV.st [MV.aa 0 0,MV.aa 0 0,MV.bool GE],MV.aa 0 0]] (q-D L)) (aF (L++[bX z]) 200))/\X GD ((↑(D L+AK a):Z)-1)=(D L:Z)else H)=nN (ow [mD] [] Ho aC) EE 18 [.int .u64 z] L.length (aF L 200) (L++[bX z]).length (aF (L++[bX z]) 200) (.int .i64 L.length):=by subst b;kernel_rfl
def Xg(L:O ab){m:MV}{s:ab}(h:kv 200 m)(f:qI m=s):ak (L++[s]).length (λq=>bif AQ q L.length then aF L 200 q else aU [m] (q-L.length)) (aF (L++[s]) 200):=by
 refine⟨λq g c w d r=>?_⟩;have r:aj c w (bif AQ q L.length then aF L 200 q else aU [m] (q-L.length)) d:=r;show aj c w (jV ((L++[s]).getD q aB) 200) d;by_cases a:q<L.length
 .have e:AQ q L.length=GC:=by simpa [DB]using a
  rw[e,Z6]at r;have b:(L++[s]).getD q aB=L.getD q aB:=by rw[AI,AI,BO a]
  rw[b];exact r
 .have e:AQ q L.length=GE:=by
   cases i:AQ q L.length with
   |false=>rfl
   |true=>exact N (DB ▸ i) a
  rw[e,Z5]at r;have aoL:q<L.length+1:=by simpa using g
  have j:q-L.length=0:=by omega
  have b:(L++[s]).getD q aB=s:=by
   have:q=L.length:=by omega
   simp[AI,this]
  rw[j]at r;rw[b,<-f];exact h.h c w d r
def QE{L:O ab}{s:ab}:(L++[s]).length=L.length+1:=by simp
def se(z:Z):MV:= .st [.int .i64 1,.aa z 64,.val (.slice GB 0 0),.val (.slice GB 0 0),.st [.aa 0 0,.aa 0 0,.aa 0 0],.st [.aa 0 0,.aa 0 0,.bool GE],.aa 0 0]
def R9(z:Z):kv 200 (se z):=NF (by omega) (by omega) (by omega) (by omega) (by omega) (by omega) yL pF
def Oh(L:O ab)(z:Z)(e:0<=z:=by omega)(d:z<65536:=by omega)(hL:L.length<=1000000:=by omega):∃E:Env AC,nN E EE 18 [.int .u64 z] L.length (aF L 200) (L++[bX z]).length (aF (L++[bX z]) 200) (.int .i64 L.length):=by
 refine⟨ow [mD] [] Ho aC,?_⟩;rw[<-Zb L z _ rfl];have b:AK (bh.rows 18 1 (aU [se z]))=1:=rfl;have a:=Xg L (s:=bX z) (R9 z) rfl;have c:=QE (L:=L) (s:=bX z);unfold se at b a;rw[b];have f:X GD (((L.length+1:Y):Z)-1)=(L.length:Z):=by rw[aV (by omega) (by omega)];omega
 exact v! (Y0 d) ⟨⟨e,by omega⟩,⟨Z0 _,by omega⟩,⟨⟨rfl,c.symm⟩,⟨⟩⟩,⟨by omega,a⟩,f⟩
structure da where
 k:Nat
structure yh (q:List Int) (s:da):Prop where
 hk:s.k<=q.length
def UP:Y->O Y
 |7=> [2]
 |_=> []
def afy{z:Z}(h1:0<=z)(h2:z<65536):ff (bX z):=⟨aM _,by
 have:=bR (n:=z.natAbs) (b:=64);show(aA z.natAbs).length<=6;omega,Z9 _,Z9 _⟩
def Zx{L:O ab}{n:Y}(h:L.length=n):aE n (aF L 200)=L:=by subst h;exact j8 L 200
def fx(n k:Y):Z:=((1+k%(n-1):Y):Z)
def fy(n k:Y):Z:=(((1+k/7)%n:Y):Z)
def fN(n k:Y)(idx:O Z):ab:=⟨3,GE,aA n,idx, [fx n k,fy n k],0,0,0,0,0,GE,0⟩
structure cn where
 k:Nat
 ex:List ab
 b:List Int
structure yx (fr K:Nat) (s:cn):Prop where
 h1:fr<=s.k
 h2:s.k<=K
def V1(n:Y)(M:O ab)(idx:O Z)(s:cn):MS:=⟨65, [(0,.bp 0 0),(1,.int .u64 n),(7,.bp 2 0),(8,.int .u64 s.k)],
 [⟨GE,.one (.st [.bs 1 0 M.length])⟩,⟨GE,.rows 18 (M.length+s.ex.length) (aF (M++s.ex) 200)⟩,
 ⟨GE,.one (.st [.int .i64 3,.aa n 64,  .sl 1 idx.length (bI idx),.sl 2 s.b.length (iL s.b 200),.st [.aa 0 0,.aa 0 0,.aa 0 0],.st [.aa 0 0,.aa 0 0,.bool GE],.aa 0 0])⟩],1⟩
def Qo(n a K:Y)(M:O ab)(idx:O Z):Y->MS->C bt
 |4,_=>GA (.inv cn (yx a K) (V1 n M idx) (λs=>K+1-s.k))
 |_,_=>GB
def US:Y->O Y
 |6=> [1000000]
 |999994=> [0]
 |_=> []
structure HT (n:Nat) (k:Int) (s:cn):Prop where
 hk:k=(s.k:Int)
 hb:s.b=[fx n s.k,fy n s.k]
def Uw(n:Y)(M:O ab)(idx:O Z):Y->MS->C h!
 |5,e=>(match bD 8 e.tm with
  |.int _ k=>GA (.mk cn (HT n k) (V1 n M idx))
  |_=>GB)
 |_,_=>GB
def wz(Γ:O (ah AC))(Δ:O (Mu AC))(fz:Y->O Y)(fv:Y->MS->C bt)(cut:Y->MS->C h!):Env AC:=⟨Γ,Δ,39,fv,fz,cut⟩
def ju(M ex:O ab)(v:MV):Y->MV:=λq=>bif AQ q M.length then aF (M++ex) 200 q else aU [v] (q-M.length)
def Jf{M ex:O ab}{v:MV}{q:Y}(h:q<M.length):ju M ex v q=jV (M.getD q aB) 200:=by
 have e:AQ q M.length=GC:=by simpa [DB]using h
 unfold ju;rw[e,Z6];show jV ((M++ex).getD q aB) 200=_;rw[AI,AI,BO h]
def Jd{M ex:O ab}{v:MV}:ju M ex v M.length=v:=by
 have e:AQ M.length M.length=GE:=by
  cases a:AQ M.length M.length with
  |false=>rfl
  |true=>exact N (DB ▸ a) (C7 _)
 unfold ju;rw[e,Z5,Nat.sub_self];rfl
def It(M ex:O ab)(v:MV):aE (M.length+1) (ju M ex v)=M++[qI v]:=by
 refine CN (by simp[aE]) λi b h2=>?_;have hi:i<M.length+1:=by simpa [aE]using b
 have e:(aE (M.length+1) (ju M ex v))[i]=qI (ju M ex v i):=by simp[aE]
 rw[e];by_cases a:i<M.length
 .rw[Jf a,Dd,List.getElem_append_left a];simp[AI,a]
 .have:i=M.length:=by omega
  subst this;rw[Jd];simp
def afw{M ex:O ab}{v:MV}(b:e8 M)(hv:isOk v)(a:M.length+1<=1000000:=by omega):cw (M.length+1) (ju M ex v):=by
 refine⟨a,λj hj=>?_,λs hs=>?_⟩
 .by_cases h:j<M.length
  .rw[Jf h];exact vb _ 200
  .have:j=M.length:=by omega
   subst this;rw[Jd];exact hv.jn
 .rw[It]at hs;rcases BL.1 hs with hs|hs
  .exact b.ok s hs
  .rw[BG.1 hs];exact hv.ok
def Je{M ex:O ab}{v:MV}(hv:kv 200 v){s:ab}(b:qI v=s):ak (M.length+1) (ju M ex v) (aF (M++[s]) 200):=by
 have h:=It M ex v;have a:=jW (n:=M.length+1) (f:=ju M ex v) (W:=200) (λj hj=>by
  by_cases h:j<M.length
  .rw[Jf h];exact vb _ 200
  .have:j=M.length:=by omega
   subst this;rw[Jd];exact hv)
 rw[h,b]at a;exact a
def O8(l:O Z):tu (.sl 1 l.length (bI l)):=⟨λc w a r=>by
 show aj c w (.sl 1 (iT l.length (bI l)).length (bI (iT l.length (bI l)))) a;rw[hH];exact r⟩
def rl(n:Y)(idx b:O Z):MV:= .st [.int .i64 3,.aa n 64,.sl 1 idx.length (bI idx),.sl 2 b.length (iL b 200),.st [.aa 0 0,.aa 0 0,.aa 0 0],.st [.aa 0 0,.aa 0 0,.bool GE],.aa 0 0]
def akl{n:Y}{idx b:O Z}(a:n<2^160)(c:idx.length<=90)(d:b.length<=1000):isOk (rl n idx b) :=
 lA (by omega) (by omega) (by omega) (by omega) (by omega) (by omega) (O8 idx) (rH λi _=>k9 b (Z0 _) i) (by simpa using a) (by
  show(iT idx.length (bI idx)).length<=90;rw[hH];exact c) (by
  show(aH b.length (iL b 200)).length<=1000;rw[eJ];exact d)
def agy(n k:Y)(idx:O Z):qI (rl n idx [fx n k,fy n k])=fN n k idx:=by
 show(⟨3,G ((n:Z)<0),aA (n:Z).natAbs,iT idx.length (bI idx),aH 2 (iL [fx n k,fy n k] 200),0,0,0,0,0,GE,0⟩:ab)=_;rw[hH,show aH 2 (iL [fx n k,fy n k] 200)=[fx n k,fy n k] from eJ [fx n k,fy n k] 200,Y1 (show ¬(n:Z)<0 by omega)];rfl
def zC(M:O ab)(s:ab):(M++[s]).getD M.length aB=s:=by simp[AI]
def e?(t:Y->J):Y->Y->Y
 |0,k=>k
 |f+1,k=>o (t k) k (e? t f (k+1))
def Fx(t:Y->J):∀(f k:Y),k<=e? t f k
 |0,k=>Z0 k
 |f+1,k=>by
  unfold e?;cases t k with
  |true=>exact Z0 k
  |false=>exact A5 (DP k) (Fx t f (k+1))
theorem Fa(t:Y->J):∀(f k:Y),e? t f k<=k+f
 |0,k=>Z0 k
 |f+1,k=>by
  unfold e?;cases t k with
  |true=>exact CQ k _
  |false=>have:=Fa t f (k+1);simp only[Z5];omega
def Dc(t:Y->J):∀(f k j:Y),k<=j->j<e? t f k->t j=GE
 |0,k,j,h1,a=>by have a:j<k:=a;omega
 |f+1,k,j,h1,a=>by
  unfold e? at a;cases b:t k with
  |true=>rw[b,Z6]at a;omega
  |false =>
   rw[b,Z5]at a;by_cases c:j=k
   .subst c;exact b
   .exact Dc t f (k+1) j (by omega) a
def vc(t:Y->J):∀(f k j:Y),k<=j->j<k+f->t j=GC->t (e? t f k)=GC
 |0,k,j,h1,h2,_=>by omega
 |f+1,k,j,h1,h2,a=>by
  unfold e?;cases b:t k with
  |true=>exact b
  |false =>
   have:j≠k:=λe=>by subst e;rw[b]at a;cases a
   exact vc t f (k+1) j (by omega) (by omega) a
theorem JF{z:Z}(h:2<=z):(bX z).can=GC/\2<=(bX z).n:=by
 refine⟨oY z,?_⟩;have e:(bX z).n=z:=by
  show(if G (z<0)=GC then-(wv (aA z.natAbs))else wv (aA z.natAbs))=z;rw[Y1 (show ¬z<0 by omega),V (by decide),iE];omega
 rw[e];exact h
def tD:∀(f d x:Y),1<=x->2<=d->x<=f->∃k,x=d^k*i7 d x/\¬d ∣ i7 d x/\1<=i7 d x/\(x%d=0->1<=k)
 |0,d,x,h,_,h1=>by omega
 |f+1,d,x,h,b,h1=>by
  by_cases a:x%d=0
  .obtain⟨g,c,k3⟩:=Is h b a;obtain⟨k,e,j,i,_⟩:=tD f d (x/d) c b (by omega);rw[g];refine⟨k+1,?_,j,i,λ_=>by omega⟩
   grind [Nat.mul_div_cancel',AF,CK,B1]
  .rw[Ah h a];exact⟨0,by rw[CT,C1],λq=>a (AX q),h,λq=>N q a⟩
def aw.pow{p d k:Y}(h:aw p)(a:p ∣ d^k):p ∣ d:=by
 induction k with
 |zero=>rw[CT]at a;have:=AL (by omega) a;have:=h.lt;omega
 |succ k ih =>
  rw[BN]at a;rcases h.mul a with q|q
  all_goals omega
def aw.xn{p q:Y}(b:aw p)(a:aw q)(h:p ∣ q):p=q:=by
 rcases a.dv p h with e|e
 .have:=b.lt;omega
 .exact e
structure L7 (n d:Nat) (l:List Int):Prop where
 mem:∀x∈l,∃p:Nat,x=p/\aw p/\p ∣ n/\d<=p
 pw:l.Pairwise (·<·)
 all:∀p,aw p->p ∣ n->(p:Int)∈l
def pN:∀(f n d:Y),1<=n->2<=d->n+3<=f+d->(∀p,aw p->p ∣ n->d<=p)->L7 n d (fK f n d)
 |0,n,d,o,B,hf,j=>by
  have h:n=1:=by
   rcases BI 1 n with q|q
   .obtain⟨p,b,a⟩:=oC n n (Z0 n) q;have:=j p b a;have:=AL (by omega) a;omega
   .omega
  subst h;exact⟨λx c=>by simp[fK]at c,CX,λp b a=>by have:=AL (by omega) a;have:=b.lt;omega⟩
 |f+1,n,d,o,B,hf,j=>by
  unfold fK;by_cases q1:d*d<=n
  .rw[U q1];have aof:d<=n:=A5 (CU d (by omega)) q1;by_cases g:n%d=0
   .rw[U g];have v:=AF g;have y:aw d:=by
     obtain⟨p,b,i⟩:=oC d d (Z0 d) (by omega);have h:=j p b (FC i v);have h2:=AL (by omega) i
     grind
    obtain⟨k,e,Vp,h,_⟩:=tD n d n o B (Z0 n);generalize i7 d n=m at *;have t:m ∣ n:=⟨d^k,by rw[AW];exact e⟩;have u:=AL (by omega) t;obtain⟨A,l,z⟩:=pN f m (d+1) h (by omega) (by omega) λp b r=>by
     grind
    refine⟨λx c=>?_,C9.2 ⟨λx c=>?_,l⟩,λp b a=>?_⟩
    .grind
    .grind
    .rw[e]at a;rcases b.mul a with w|w
     .rw[b.xn y (b.pow w)];simp
     simp_all
   .rw[V g];obtain⟨A,l,z⟩:=pN f n (d+1) o (by omega) (by omega) λp b r=>by
     grind [BI,AX]
    exact⟨λx c=>by obtain⟨p,E,D,C,r4⟩:=A x c;exact⟨p,E,D,C,by omega⟩,l,z⟩
  .rw[V q1];by_cases g:1<n
   .rw[U g];have s:aw n:=by
     refine BA λw=>?_;obtain⟨p,b,a,u⟩:=rI g w;have h:=j p b a;have:=AR h h;omega
    refine⟨λx c=>?_,C9.2 ⟨λx c=>by simp at c,CX⟩,λp b a=>by rw[b.xn s a];exact AH ..⟩
    grind [BG,FJ]
   .rw[V g];exact⟨λx c=>by simp at c,CX,λp b a=>by have:=AL (by omega) a;have:=b.lt;omega⟩
def fP{n:Y}(h:1<=n):L7 n 2 (hZ n):=pN (n+1) n 2 h (Z0 2) (by omega) λp a _=>a.lt
def Nf{a q:Y}(b:aw q)(k:¬q ∣ a)(g:1<=a):∀(f m:Y),m<=f->1<=m->kR ((a*m:Y):Z) q=kR (m:Z) q
 |0,m,h,c=>by omega
 |f+1,m,h,c=>by
  have l:=b.lt;have am:1<=a*m:=DO g c;by_cases j:m%q=0
  .obtain⟨t,rfl⟩:=AF j;have t0:t≠0:=λe=>by rw[e,DG]at c;omega
   have i:1<=t:=by omega
   have de:t<q*t:=by
    have:=C3 t l;omega
   have d:((a*(q*t):Y):Z)%(q:Z)=0:=by rw[<-AO];rw[BY];simp
   have p:((q*t:Y):Z)%(q:Z)=0:=by rw[<-AO];simp
   rw[zl (by omega) (by omega) d,zl (by omega) (by omega) p];have o:((a*(q*t):Y):Z)/(q:Z)=((a*t:Y):Z):=by
    grind [BF,BY,AS]
   have n:((q*t:Y):Z)/(q:Z)=(t:Z):=by
    grind [BF,AS]
   rw[o,n,Nf b k g f t (by omega) i]
  .have d:((a*m:Y):Z)%(q:Z)≠0:=by
    rw[<-AO];intro w;rcases b.mul (AF (show a*m%q=0 by omega))with z|z
    all_goals omega
   grind [AO,Jl]
def w9{d m:Y}(e:2<=d)(c:¬d ∣ m)(a:1<=m):∀k:Y,kR ((d^k*m:Y):Z) d=((d^k:Y):Z)
 |0=>by
  grind [AO,AF,Jl]
 |k+1=>by
  have h1:1<=d^(k+1)*m:=DO (DN (by omega)) a;have b:d^(k+1)*m=d*(d^k*m):=by rw[CK,B1]
  have g:((d^(k+1)*m:Y):Z)%(d:Z)=0:=by rw[<-AO,b];simp
  have f:((d^(k+1)*m:Y):Z)/(d:Z)=((d^k*m:Y):Z):=by rw[<-BF,b,AS _ (by omega)]
  rw[zl (by omega) (by omega) g,f,w9 e c a k,CK,AM]
def Mn{a m:Y}(d:1<=a)(b:1<=m):∀(l:O Z) (o:Z),(∀x∈l,∃p:Y,x=p/\aw p/\p ∣ m/\¬p ∣ a)->m7 ((a*m:Y):Z) l o=m7 (m:Z) l o
 |[],_,_=>rfl
 |x::r,o,h=>by
  obtain⟨p,rfl,f,c,g⟩:=h x (AH ..);have j:((a*m:Y):Z)%(p:Z)=0:=by rw[<-AO,AX (FC c (Nat.dvd_mul_left m a))];rfl
  have i:((m:Y):Z)%(p:Z)=0:=by rw[<-AO,AX c];rfl
  show(if ((a*m:Y):Z)%(p:Z)=0 then m7 ((a*m:Y):Z) r (o*kR ((a*m:Y):Z) p)else GB)=(if ((m:Y):Z)%(p:Z)=0 then m7 (m:Z) r (o*kR (m:Z) p)else GB);rw[U j,U i,Nf f g d m m (Z0 m) b];exact Mn d b r _ λx e=>h x (AD _ e)
def sV:∀(f n d:Y) (o:Z),1<=n->2<=d->n+3<=f+d->(∀p,aw p->p ∣ n->d<=p)->m7 (n:Z) (fK f n d) o=GA (o*n)
 |0,n,d,o,j,l,B,t=>by
  have b:n=1:=by
   rcases BI 1 n with q|q
   .obtain⟨p,s,g⟩:=oC n n (Z0 n) q;have:=t p s g;have:=AL (by omega) g;omega
   .omega
  subst b;show GA o=GA (o*((1:Y):Z));simp
 |f+1,n,d,o,j,l,B,t=>by
  have a:=pN (f+1) n d j l B t;unfold fK at a⊢;by_cases q1:d*d<=n
  .rw[U q1]at a⊢;have aof:d<=n:=A5 (CU d (by omega)) q1;by_cases c:n%d=0
   .rw[U c]at a⊢;have aq9:=AF c;obtain⟨k,e,y,b,_⟩:=tD n d n j l (Z0 n);have i:aw d:=by
     obtain⟨p,w1,w2,w3,_⟩:=a.mem (d:Z) (AH ..)
     grind
    generalize i7 d n=m at *;have z:m ∣ n:=⟨d^k,by rw[AW];exact e⟩;have hle:=AL (by omega) z;have h:∀p,aw p->p ∣ m->d+1<=p:=λp s v=>by
     grind
    have xr:=sV f m (d+1) (o*((d^k:Y):Z)) b (by omega) (by omega) h;have A:=pN f m (d+1) b (by omega) (by omega) h;have u:(n:Z)%(d:Z)=0:=by rw[<-AO,c];rfl
    show(if (n:Z)%(d:Z)=0 then m7 (n:Z) (fK f m (d+1)) (o*kR (n:Z) d)else GB)=_;rw[U u];have F:kR (n:Z) d=((d^k:Y):Z):=by rw[e];exact w9 l y b k
    rw[F];have e3:m7 (n:Z) (fK f m (d+1)) (o*((d^k:Y):Z))=m7 (m:Z) (fK f m (d+1)) (o*((d^k:Y):Z)):=by
     rw[e];exact Mn (DN (by omega)) b _ _ λx E=>by
      obtain⟨p,D,r,C,r4⟩:=A.mem x E;exact⟨p,D,r,C,λw=>by have:=i.lt;have:=r.xn i (r.pow w);omega⟩
    grind [B4,AM]
   .rw[V c];exact sV f n (d+1) o j (by omega) (by omega) λp s v=>by
     grind [BI,AX]
  .rw[V q1]at a⊢;by_cases c:1<n
   .rw[U c];have u:(n:Z)%(n:Z)=0:=Int.emod_self;show(if (n:Z)%(n:Z)=0 then GA (o*kR (n:Z) n)else GB)=_;rw[U u];have:=w9 (d:=n) (m:=1) (by omega) (λw=>by have:=AL (by omega) w;omega) (by omega) 1
    simp_all
   .rw[V c];have b:n=1:=by omega
    subst b;show GA o=GA (o*((1:Y):Z));simp
def Xe{n:Y}(h:1<=n):cA (n:Z) (hZ n)=GA (n:Z):=by
 have:=sV (n+1) n 2 1 h (Z0 2) (by omega) λp a _=>a.lt;rw[C4]at this;exact this
def fq:O Z->Y
 |[]=>0
 |q::r=>AN q.toNat+fq r
def vd{n:Y}(h:1<=n:=by omega):2^AN n<=n:=Nat.log2_self_le (by omega)
def yX:∀(f n d:Y),1<=n->2<=d->2^fq (fK f n d)<=n
 |0,n,d,b,g=>b
 |f+1,n,d,b,g=>by
  unfold fK;by_cases q1:d*d<=n
  .rw[U q1];by_cases a:n%d=0
   .rw[U a];obtain⟨k,e,Vp,j,c⟩:=tD n d n b g (Z0 n);have c:=c a;have h:=yX f (i7 d n) (d+1) j (by omega);show 2^(AN (d:Z).toNat+fq (fK f (i7 d n) (d+1)))<=n;rw[Z8,FR];have i:d<=d^k:=by
     have:=A6 (show 0<d by omega) c
     grind
    have:=AR (A5 (vd (show 1<=d by omega)) i) h;omega
   .rw[V a];exact yX f n (d+1) b (by omega)
  .rw[V q1];by_cases a:1<n
   .rw[U a];show 2^(AN (n:Z).toNat+0)<=n;rw[Z8];exact vd b
   .rw[V a];exact b
def lY{n:Y}(h:1<=n):fq (hZ n)<=AN n:=by
 have:=yX (n+1) n 2 h (Z0 2);exact(B5 (by omega)).2 this
def qP:∀(l:O Z),(∀x∈l,2<=x)->l.length<=fq l
 |[],_=>Z0 0
 |x::r,h=>by
  have h1:=h x (AH ..);have h2:=qP r λy a=>h y (AD _ a);have h3:1<=AN x.toNat:=(B5 (by omega)).2 (by omega)
  grind [AN,fq]
def u9:∀(l l':O Y),l.Nodup->(∀x∈l,x∈l')->l'.length<=l.length->l.Perm l'
 |[],l',_,_,h=>by
  have:l'=[]:=CM.1 (by simpa using h);rw[this]
 |x::t,l',f,d,h=>by
  have b:x∈l':=d x (AH ..);have a:=BR.1 f;have hl:=List.length_erase_of_mem b;have g:t.Perm (l'.erase x):=u9 t (l'.erase x) a.2 (λy c=>(List.mem_erase_of_ne (λe:y=x=>a.1 (e ▸ c))).2 (d y (AD _ c))) (by
   have:=D5 b;rw[A9]at h;omega)
  exact(g.cons x).trans (List.perm_cons_erase b).symm
def sQ{f:Y->Y}:∀(l:O Y),l.Nodup->(∀x∈l,∀y∈l,f x=f y->x=y)->(l.map f).Nodup
 |[],_,_=>List.nodup_nil
 |x::t,d,e=>by
  have c:=BR.1 d;rw[A8,BR];refine⟨λhm=>?_,sQ t c.2 λa h b g=>e a (AD _ h) b (AD _ g)⟩
  grind
def WD{f:Y->Y}{l:O Y}(c:l.Nodup)(d:∀x∈l,f x∈l)(g:∀x∈l,∀y∈l,f x=f y->x=y):(l.map f).Perm l :=
 u9 _ _ (sQ l c g) (λy a=>by obtain⟨x,b,e⟩:=BM.1 a;exact e ▸ d x b) (by simp)
def bM:O Z->Z
 |[]=>1
 |x::r=>x*bM r
def yT{l l':O Z}(h:l.Perm l'):bM l=bM l':=by
 induction h with
 |nil=>rfl
 |cons x _ ih=>simp only[bM,ih]
 |swap x y l=>simp only[bM];rw[<-B4,<-B4,BK y x]
 |trans _ _ h1 h2=>exact h1.trans h2
def jH(f g:Y->Z):∀l:O Y,bM (l.map λk=>f k*g k)=bM (l.map f)*bM (l.map g)
 |[]=>rfl
 |x::r=>by
  simp_all [A8,bM,jH,B4,Int.mul_left_comm]
def Iy(f:Y->Z):∀l:O Y,(∀k∈l,f k=1\/f k= -1)->bM (l.map f)=1\/bM (l.map f)= -1
 |[],_=>.inl rfl
 |x::r,h=>by
  simp only[A8,bM];exact wZ (h x (AH ..)) (Iy f r λk a=>h k (AD _ a))
def m5{f g:Y->Z}{l:O Y}(h:∀k∈l,f k=g k):l.map f=l.map g:=List.map_congr_left h
def gT(n:Y):O Y:=BU 1 (n/2)
theorem iV{n k:Y}:k∈gT n↔1<=k/\k<=n/2:=by
 unfold gT
 grind
def Xk(n:Y):(gT n).Nodup:=List.nodup_range'
def gs(n:Y)(x:Z):Z:=if x%n<=n/2 then 1 else-1
def gp(n:Y)(x:Z):Y:=if x%n<=n/2 then (x%n).toNat else (n-x%n).toNat
def vx(n:Y)(x:Z):gs n x=1\/gs n x= -1:=by
 grind [gs]
def SM(n:Y)(x:Z):gs n (x%n)=gs n x:=by
 grind [gs,C5,EB]
def yK{n:Y}(hn:n%2=1){x:Z}(a:¬(n:Z) ∣ x):(n:Z) ∣ x-gs n x*gp n x/\1<=gp n x/\gp n x<=n/2:=by
 have h0:=BT x (show(n:Z)≠0 by omega);have h1:=BV x (show(0:Z)<n by omega);have h2:x%n≠0:=λe=>a (A7 e);have hd:=FN x n;unfold gs gp;split
 .refine⟨⟨x/n,?_⟩,by omega,by omega⟩;omega
 .refine⟨⟨x/n+1,?_⟩,by omega,by omega⟩
  grind
def ah4{n:Y}(hn:n%2=1){x s:Z}{p:Y}(a:s=1\/s= -1)(h1:1<=p)(h2:p<=n/2)(b:(n:Z) ∣ x-s*p):gs n x=s/\gp n x=p:=by
 obtain⟨c,hc⟩:=b;rcases a with rfl|rfl
 .have e:x%n=p:=by
   rw[show x=p+n*c by omega,D2,A3 (by omega) (by omega)]
  grind [gs,gp]
 .have e:x%n=n-p:=by
   rw[show x=(n-p)+n*(c-1) by rw[CJ];omega,D2,A3 (by omega) (by omega)]
  grind [gs,gp]
theorem lF{n:Y}{a:Z}(b:gcd a n=1){k:Z}(h:(n:Z) ∣ a*k):(n:Z) ∣ k:=by
 have d:n ∣ a.natAbs*k.natAbs:=by
  have:=B0.2 h
  grind [E9,A1]
 have c:DR n a.natAbs:=by
  rw[DM];exact b
 have h3:=BQ c d
 grind [B0,A1]
theorem iW{n:Y}{k:Y}(h1:1<=k)(h2:k<n):¬(n:Z) ∣ (k:Z):=λh=>by
 have:=AL (by omega) (CR.1 h);omega
def lX{n:Y}{a:Z}(hg:gcd a n=1){k:Y}(hk:k∈gT n):¬(n:Z) ∣ a*k:=λh=>by
 grind [iV,iW,lF]
def Jq{n:Y}(i:n%2=1){a:Z}(b:gcd a n=1):((gT n).map λk:Y=>gp n (a*k)).Perm (gT n):=by
 refine WD (Xk n) (λk hk=>?_) λx g y f e=>?_
 .simp_all [yK,lX,iV]
 .obtain⟨⟨c,j⟩,_,_⟩:=yK i (lX b g);obtain⟨⟨d,l⟩,_,_⟩:=yK i (lX b f);rw[e]at j;obtain⟨x1,x2⟩:=iV.1 g;obtain⟨y1,y2⟩:=iV.1 f;generalize gp n (a*y)=p at *;have key:(n:Z) ∣ (x:Z)-y\/(n:Z) ∣ (x:Z)+y:=by
   rcases vx n (a*x)with h|h<;>rcases vx n (a*y)with k|k<;>rw[h]at j<;>rw[k]at l
   .exact .inl (lF b ⟨c-d,by rw[CJ,CJ];omega⟩)
   .exact .inr (lF b ⟨c+d,by rw[B8,B8];omega⟩)
   .exact .inr (lF b ⟨c+d,by rw[B8,B8];omega⟩)
   .exact .inl (lF b ⟨c-d,by rw[CJ,CJ];omega⟩)
  rcases key with ⟨z,hz⟩|h
  .have asq:z=0:=by
    rcases EV z 0 with q|q|q
    .have:(n:Z)*z<=n*(-1):=Z7;omega
    .exact q
    .have:(n:Z)*1<=n*z:=Z7;omega
   grind
  .exact N (show(n:Z) ∣ ((x+y:Y):Z) by rwa [CC]) (iW (by omega) (by omega))
def ez(n:Y)(a:Z):Z:=bM ((gT n).map λk:Y=>gs n (a*k))
def JT(n:Y)(a:Z):ez n a=1\/ez n a= -1:=Iy _ _ λ_ _=>vx _ _
def aek(n:Y)(a:Z):ez n (a%n)=ez n a:=by
 unfold ez;rw[m5 (λk _=>?_)];rw[<-SM,<-SM n (a*k)]
 grind [D8,C5,EB]
def ael{n:Y}(e:n%2=1){a b:Z}(l:gcd a n=1)(f:gcd b n=1):ez n (a*b)=ez n a*ez n b:=by
 have m:ez n (a*b)=bM ((gT n).map λk:Y=>gs n (a*(gp n (b*k):Y))*gs n (b*k)):=by
  unfold ez;rw[m5 (λk j=>?_)];obtain⟨⟨c,hc⟩,i,h⟩:=yK e (lX f j);obtain⟨⟨d,hd⟩,q1,g⟩:=yK e (lX l (iV.2 ⟨i,h⟩));refine(ah4 e (wZ (vx _ _) (vx _ _)) q1 g ⟨a*c+gs n (b*k)*d,?_⟩).1
  grind
 rw[m,jH]
 congr 1
 unfold ez;have:=yT ((Jq e f).map λk:Y=>gs n (a*k));rw[D4]at this;exact this
def pm(c:Y):Z:=if c%2=0 then 1 else-1
def vq(a b:Y):pm (a+b)=pm a*pm b:=by
 unfold pm;rw[FU];rcases AU a with h|h<;>rcases AU b with k|k<;>rw[h,k]<;>decide
def RU(a:Y):pm (a+1)= -pm a:=by
 rw[vq,show pm 1= -1 from rfl,DT,BW]
def amR(a:Y):pm a=1\/pm a= -1:=by
 unfold pm;split
 .exact .inl rfl
 .exact .inr rfl
def TC{a b:Y}(h:a%2=b%2):pm a=pm b:=by unfold pm;rw[h]
def Mb:∀l r:O Z,bM (l++r)=bM l*bM r
 |[],r=>by rw[CV,bM,C4]
 |x::l,r=>by rw[List.cons_append,bM,bM,Mb l r,B4]
def Xj(f:Y->Z)(m:Y):bM ((BU 1 (m+1)).map f)=bM ((BU 1 m).map f)*f (m+1):=by
 rw[List.range'_concat,List.map_append,Mb];simp only[A8,FD,bM,BW,C1];rw[FK 1 m]
def uT(n x:Y)(b:0<n):∀m:Y,bM ((BU 1 m).map λj=>if n*j<=x then (-1:Z)else 1)=pm (min m (x/n))
 |0=>by rw[Nat.zero_min];rfl
 |m+1=>by
  rw[Xj,uT n x b m];have h:n*(m+1)<=x↔m+1<=x/n:=by rw[Nat.le_div_iff_mul_le b,AW]
  by_cases a:m+1<=x/n
  .rw[U (h.2 a),DX a,DX (by omega),RU,DT,BW]
  .rw[V (λe=>a (h.1 e)),CP (by omega),CP (by omega),BW]
def MN(f:Y->Y->Z)(l':O Y):∀l:O Y,bM (l.map λk=>bM (l'.map λj=>f k j))=bM (l'.map λj=>bM (l.map λk=>f k j))
 |[]=>by
  simp only[FD,bM]
  induction l' with
  |nil=>rfl
  |cons x r ih=>rw[A8,bM,<-ih];rfl
 |x::r=>by
  rw[A8,bM,MN f l' r,<-jH];rfl
def p9(c:Y):∀l:O Y,bM (l.map λ_=>pm c)=pm (l.length*c)
 |[]=>by simp[bM,pm]
 |x::r=>by
  rw[A8,bM,p9 c r,A9,DF,vq,BK]
def IE(n:Y):(gT n).length=n/2:=EN
def aem{n:Y}(hn:n%2=1):ez n 2=jK n:=by
 have c:ez n 2=bM ((BU 1 (n/2)).map λj=>(if 2*j<=n/2 then (-1:Z)else 1)*pm 1):=by
  unfold ez gT;rw[m5 (λk a=>?_)];obtain⟨k1,k2⟩:=iV.1 a;unfold gs;rw[A3 (by omega) (by omega)];by_cases h:2*k<=n/2
  .rw[U (by omega),U h];rfl
  .rw[V (by omega),V h];rfl
 rw[c,jH,uT 2 (n/2) (by omega),p9,EN,CP (by omega),<-vq,C2];unfold pm jK;have b:n%8=1\/n%8=3\/n%8=5\/n%8=7:=by omega
 rcases b with h|h|h|h
 .rw[U (by omega),U (by omega)]
 .rw[V (by omega),V (by omega),U (by omega)]
 .rw[V (by omega),V (by omega),U (by omega)]
 .rw[U (by omega),U (by omega)]
def NB{n m:Y}(b:n%2=1)(e:m%2=1)(h:B2 m n=1):ez n m=bM ((gT n).map λk=>pm (m*k/n)):=by
 have a:gcd m n=1:=h;have j:bM ((gT n).map λk=>pm (m*k/n))=bM ((gT n).map λk:Y=>gs n (m*k)*(pm k*pm (gp n (m*k)))):=by
  rw[m5 (λk g=>?_)];have i:=yK b (lX a g);obtain⟨_,p1,p2⟩:=i;have q:(m:Z)*k%n=((m*k%n:Y):Z):=by rw[<-AM];rfl
  have aq7:=DZ (m*k) n;have de:=BB (m*k) (show n>0 by omega);have par:(m*k)%2=k%2:=by rw[CG,e,C1,EI]
  have asE:(n*(m*k/n))%2=(m*k/n)%2:=by rw[CG,b,C1,EI]
  unfold gs gp;rw[q];generalize m*k%n=r at *;generalize m*k/n=f at *;generalize n*f=u at *;split
  .rw[C4,<-vq];apply TC
   omega
  .rw[<-vq,Int.neg_mul,C4,<-RU];apply TC
   omega
 rw[j,jH,jH];have d:=yT ((Jq b a).map λk=>pm k);rw[D4]at d;have c:bM ((gT n).map λk:Y=>pm (gp n (m*k)))=bM ((gT n).map λk=>pm k):=d;rw[c,Tr (Iy _ _ λk _=>amR k),BW];rfl
def MU{n m k:Y}(hm:m%2=1)(a:0<n)(hk:k<=n/2):pm (m*k/n)=bM ((gT m).map λj=>if n*j<=m*k then (-1:Z)else 1):=by
 unfold gT;rw[uT n (m*k) a]
 congr 1
 rw[CP];have b:m*k<n*(m/2+1):=by
  have h2:m*(2*k)<=m*n:=AY _ (by omega);have h3:n*(2*(m/2+1))=n*(m+1):=by congr 1;omega
  have h4:m*(2*k)=2*(m*k):=BY _ _ _;have h5:n*(2*(m/2+1))=2*(n*(m/2+1)):=BY _ _ _;have h6:n*(m+1)=m*n+n:=by rw[Do,C2,AW]
  omega
 have:=(Nat.div_lt_iff_lt_mul a (x:=m*k) (y:=m/2+1)).2 (by rw[AW (m/2+1)];exact b);omega
def ZB{n m:Y}(b:n%2=1)(c:m%2=1)(d:B2 m n=1):ez n m*ez m n=km m n:=by
 have o:ez n m=bM ((gT n).map λk=>bM ((gT m).map λj=>if n*j<=m*k then (-1:Z)else 1)):=by
  rw[NB b c d];exact r bM (m5 λk a=>MU c (by omega) (iV.1 a).2)
 have l:ez m n=bM ((gT n).map λk=>bM ((gT m).map λj=>if m*k<=n*j then (-1:Z)else 1)):=by
  rw[NB c b (by rw[DH];exact d),MN];exact r bM (m5 λk a=>MU b (by omega) (iV.1 a).2)
 have i:ez n m*ez m n=bM ((gT n).map λ_=>pm (m/2)):=by
  rw[o,l,<-jH];refine r bM (m5 λk a=>?_);rw[<-jH];have:bM ((gT m).map λ_=>pm 1)=pm (m/2):=by rw[p9,IE,C2]
  rw[<-this];refine r bM (m5 λj hj=>?_);obtain⟨k1,k2⟩:=iV.1 a;have ig:m*k≠n*j:=λe=>by
   have g:n ∣ m*k:=⟨j,e⟩;have f:=BQ (show DR n m by rw[DM];exact d) g;have:=AL (by omega) f;omega
  by_cases h:n*j<=m*k
  .rw[U h,V (by omega)];rfl
  .rw[V h,U (by omega)];rfl
 rw[i,p9,IE];unfold pm km;by_cases h:m%4=3/\n%4=3
 .rw[U h,V];rw[CG,show n/2%2=1 by omega,show m/2%2=1 by omega];decide
 .rw[V h,U];rcases AU (n/2)with q|q
  .rw[CG,q,FH]
  .have:m/2%2=0:=by omega
   rw[CG,this,DG]
def tU(n:Y)(a:Z):Z:=if gcd a n=1 then ez n a else 0
def Cb(n:Y)(a:Z):tU n (a%n)=tU n a:=by
 unfold tU;rw[aek,va]
def nZ{a b:Z}{n:Y}:gcd (a*b) n=1↔gcd a n=1/\gcd b n=1:=by
 show B2 (a*b).natAbs n=1↔B2 a.natAbs n=1/\B2 b.natAbs n=1;rw[E9];constructor
 .intro h;exact⟨C6 ⟨_,rfl⟩ h,C6 ⟨_,AW _ _⟩ h⟩
 .rintro⟨h,k⟩
  exact FW h k
def aei(n:Y):B2 n 2=1↔n%2=1:=by
 rw[DH,EK];rcases AU n with h|h<;>rw[h]<;>decide
def agd{n:Y}(h:n%2=1):gcd 2 n=1:=by
 show B2 2 n=1;rw[DH];exact(aei n).2 h
theorem dN{n:Y}{a:Z}:tU n a=0↔¬gcd a n=1:=by
 unfold tU;by_cases h:gcd a n=1
 .rw[U h];have:=JT n a;constructor
  .intro e;omega
  .intro e;exact N h e
 .rw[V h];exact⟨λ_=>h,λ_=>rfl⟩
theorem I'{n:Y}(e:n%2=1)(a b:Z):tU n (a*b)=tU n a*tU n b:=by
 by_cases d:gcd a n=1
 .by_cases c:gcd b n=1
  .unfold tU;rw[U d,U c,U (nZ.2 ⟨d,c⟩),ael e d c]
  .rw[dN.2 c,CY,dN];exact λh=>c (nZ.1 h).2
 .rw[dN.2 d,FM,dN];exact λh=>d (nZ.1 h).1
def aex{n:Y}(a:n%2=1):tU n 2=jK n:=by
 unfold tU;rw[U (agd a),aem a]
def YB{n m:Y}(c:n%2=1)(d:m%2=1):tU n m=km m n*tU m n:=by
 by_cases h:B2 m n=1
 .have b:gcd (m:Z) n=1:=h;have a:gcd (n:Z) m=1:=by rw[D9];exact h
  unfold tU;rw[U b,U a,<-ZB c d h,B4,Tr (JT m n),BW]
 .have b:¬gcd (m:Z) n=1:=h;have a:¬gcd (n:Z) m=1:=by rw[D9];exact h
  rw[dN.2 b,dN.2 a,CY]
def Xb(n:Y):tU n 0=if n=1 then 1 else 0:=by
 by_cases h:n=1
 .subst h;decide
 .rw[V h,dN];show ¬B2 0 n=1;rw[ES];exact h
def ad2:∀(a n:Y),n%2=1->gi a n=tU n a:=by
 intro a
 induction a using Nat.strongRecOn with
 |ind a ih =>
  intro n b;by_cases d:a=0
  .subst d;rw[Iw];exact(Xb n).symm
  by_cases e:a%2=0
  .rw[IF d e,ih (a/2) (by omega) n b,<-aex b,<-I' b]
   congr 1;omega
  .have c:a%2=1:=by omega
   rw[Js c,ih (n%a) (BB _ (by omega)) a c,YB b c]
   congr 1
   rw[<-Cb a n];rfl
def Ph{n:Y}{a b:Z}(h:a%n=b%n):tU n a=tU n b:=by rw[<-Cb,h,Cb]
def Th{a:Z}{n:Y}(b:n%2=1:=by omega):kr a n=tU n a:=by
 have h0:=BT a (show(n:Z)≠0 by omega);rw[JV b,ad2 _ _ b,<-Cb n a]
 congr 1;omega
def alK{n:Y}(d:n≠0)(a:Z):kr a n=0\/kr a n=1\/kr a n= -1:=by
 induction n using Nat.strongRecOn with
 |ind n b =>
  by_cases c:n%2=0
  .rw[Cj d c];by_cases h:a%2=1
   .rcases pQ h with q|q<;>rcases b (n/2) (by omega) (by omega)with r|r|r<;>rw[q,r]<;>decide
   .rw[xK h,FM];exact .inl rfl
  .rw[Th];unfold tU;split
   .exact .inr (JT n a)
   .exact .inl rfl
def Eu(a n:Z):gM a n=0\/gM a n=1\/gM a n= -1:=by
 unfold gM;split
 .split
  .exact .inr (.inl rfl)
  .exact .inl rfl
 .rcases alK (n:=n.natAbs) (by omega) a with h|h|h<;>rw[h]<;>split<;>decide
def gW{p:Y}(h:eD p=GC):1<p/\∀d,d ∣ p->d=1\/d=p:=by
 obtain⟨g,c⟩:=Ng.1 h;refine⟨g,λd f=>?_⟩;obtain⟨e,a⟩:=f;by_cases j:d=1
 .exact .inl j
 by_cases i:e=1
 .right;rw[a,i,C2]
 exfalso;have d0:d≠0:=λq=>by rw[q,FH]at a;omega
 have e0:e≠0:=λq=>by rw[q,DG]at a;omega
 rcases Nat.le_total d e with q|q
 .have b:d*d<=p:=by rw[a];exact AY _ q
  exact c d (by omega) b (by rw[a];exact ER d e)
 .have b:e*e<=p:=by rw[a];exact C3 _ q
  exact c e (by omega) b (by rw[a];exact Nat.mul_mod_left d e)
theorem gA{p:Y}(h:eD p=GC){a:Z}(c:¬(p:Z) ∣ a):gcd a p=1:=by
 have b:gcd a p ∣ p:=Nat.gcd_dvd_right a.natAbs p;rcases(gW h).2 _ b with e|e
 .exact e
 .have d:gcd a p ∣ a.natAbs:=Nat.gcd_dvd_left a.natAbs p;rw[e]at d;exact N (B0.1 (by rwa [A1])) c
def Nh{p:Y}(h:eD p=GC){a:Z}(c:(p:Z) ∣ a):¬gcd a p=1:=λe=>by
 have h1:=(gW h).1;have b:p ∣ gcd a p:=Nat.dvd_gcd (by have:=B0.2 c;rwa [A1]at this) (FJ p);rw[e]at b;have:=AL (by omega) b;omega
def MG(a:Z)(f:Y->Z):∀l:O Y,bM (l.map λk=>a*f k)=a^l.length*bM (l.map f)
 |[]=>by simp[bM]
 |x::r=>by
  simp only[A8,bM,MG a f r,A9,BE]
  grind
def NM{n:Z}(f g:Y->Z):∀l:O Y,(∀k∈l,n ∣ f k-g k)->n ∣ bM (l.map f)-bM (l.map g)
 |[],_=>⟨0,by simp[bM]⟩
 |x::r,h=>by
  obtain⟨c,hc⟩:=h x (AH ..);obtain⟨d,hd⟩:=NM f g r λk a=>h k (AD _ a);refine⟨c*bM (r.map f)+g x*d,?_⟩;simp only[A8,bM];have e:f x=g x+n*c:=by omega
  have b:bM (r.map f)=bM (r.map g)+n*d:=by omega
  rw[e,b]
  grind
def NL{n:Y}(f:Y->Z):∀l:O Y,(∀k∈l,gcd (f k) n=1)->gcd (bM (l.map f)) n=1
 |[],_=>by
  show B2 1 n=1;exact Nat.gcd_one_left n
 |x::r,h=>by
  rw[A8,bM];exact nZ.2 ⟨h x (AH ..),NL f r λk a=>h k (AD _ a)⟩
def alH{p:Y}(f:eD p=GC)(i:p%2=1){a:Z}(l:¬(p:Z) ∣ a):(p:Z) ∣ a^(p/2)-ez p a:=by
 have j:=gA f l;have h:=NM (n:=(p:Z)) (λk:Y=>a*(k:Z)) (λk:Y=>gs p (a*k)*(gp p (a*k):Y)) (gT p) λk e=>(yK i (lX j e)).1;rw[MG,jH,IE]at h;have b:=yT ((Jq i j).map λk:Y=>(k:Z));rw[D4]at b;have d:bM ((gT p).map λk:Y=>((gp p (a*k):Y):Z))=bM ((gT p).map λk:Y=>(k:Z)):=b;rw[d]at h;have g:=NL (n:=p) (λk:Y=>(k:Z)) (gT p) λk e=>gA f (iW (iV.1 e).1 (by have:=(iV.1 e).2;have:=(gW f).1;omega));refine lF g ?_;obtain⟨c,g⟩:=h;refine⟨c,?_⟩;rw[<-g];show _*_=_-ez p a*_
 grind
theorem J9{p:Y}(b:eD p=GC)(e:p%2=1)(a:Z):a^(p/2)%p=tU p a%p:=by
 by_cases d:(p:Z) ∣ a
 .rw[dN.2 (Nh b d),Int.zero_emod];have h1:=(gW b).1;obtain⟨c,f⟩:∃c,p/2=c+1:=⟨p/2-1,by omega⟩;rw[f,BE];exact AT (Int.dvd_trans d ⟨a^c,BK _ _⟩)
 .unfold tU;rw[U (gA b d)];exact AJ.2 (AT (alH b e d))
theorem ur(a:Z){p:Y}(b:p%2=1):gM a p=tU p a:=by
 unfold gM;rw[V (by omega),V (by omega),C4,A1,Th b]
def fD(w:Z)(a b:Z×Z):Z×Z:=(a.1*b.1+w*(a.2*b.2),a.1*b.2+a.2*b.1)
def zp(t w:Z):Y->Z×Z
 |0=>(1,0)
 |e+1=>fD w (zp t w e) (t,1)
theorem sI(w:Z)(a b c:Z×Z):fD w (fD w a b) c=fD w a (fD w b c):=by
 grind [fD,Prod.ext]
def TJ(t w:Z):zp t w 1=(t,1):=by
 show fD w (1,0) (t,1)=_
 grind [fD,Prod.ext]
def ch:Y->Y->Y
 |_,0=>1
 |0,_+1=>0
 |n+1,k+1=>ch n k+ch n (k+1)
def wB:∀n k:Y,(k+1)*ch (n+1) (k+1)=(n+1)*ch n k
 |0,0=>rfl
 |0,k+1=>by simp[ch]
 |n+1,0=>by
  have h:=wB n 0;simp only[ch]at h⊢;omega
 |n+1,k+1=>by
  have h1:=wB n k;have h2:=wB n (k+1)
  grind [ch]
def Dh:∀n k:Y,n<k->ch n k=0
 |0,k+1,_=>rfl
 |n+1,k+1,h=>by
  show ch n k+ch n (k+1)=0;rw[Dh n k (by omega),Dh n (k+1) (by omega)]
theorem Ro:∀n:Y,ch n n=1
 |0=>rfl
 |n+1=>by
  simp_all [ch,Ro,Dh]
def aa4{p:Y}(a:eD p=GC){k:Y}(e:0<k)(d:k<p):p ∣ ch p k:=by
 obtain⟨j,rfl⟩:∃j,k=j+1:=⟨k-1,by omega⟩;obtain⟨n,rfl⟩:∃n,p=n+1:=⟨p-1,by omega⟩;have c:=wB n j;have b:gcd ((j+1:Y):Z) (n+1:Y)=1:=gA a (iW e d);exact BQ (DM.1 b) ⟨ch n j,c⟩
def fU(g:Y->Z):Y->Z
 |0=>0
 |n+1=>fU g n+g n
theorem qJ(g:Y->Z):∀n,fU g (n+1)=g 0+fU (λi=>g (i+1)) n
 |0=>by simp[fU]
 |n+1=>by
  show fU g (n+1)+g (n+1)=g 0+(fU (λi=>g (i+1)) n+g (n+1));rw[qJ g n,Int.add_assoc]
def Oq(f g:Y->Z):∀n,fU (λi=>f i+g i) n=fU f n+fU g n
 |0=>rfl
 |n+1=>by simp only[fU,Oq f g n];omega
def Ou(c:Z)(f:Y->Z):∀n,fU (λi=>c*f i) n=c*fU f n
 |0=>by simp[fU]
 |n+1=>by simp only[fU,Ou c f n,B8]
def y9{f g:Y->Z}:∀n,(∀i,i<n->f i=g i)->fU f n=fU g n
 |0,_=>rfl
 |n+1,h=>by
  simp only[fU];rw[y9 n λi hi=>h i (by omega),h n (by omega)]
theorem Ot{p:Z}{f:Y->Z}:∀n,(∀i,i<n->p ∣ f i)->p ∣ fU f n
 |0,_=>⟨0,by simp[fU]⟩
 |n+1,h=>AB (Ot n λi hi=>h i (by omega)) (h n (by omega))
def bin(t:Z):Y->(Y->Z)->Z
 |0,f=>f 0
 |n+1,f=>t*bin t n f+bin t n (λi=>f (i+1))
def Ak(t:Z):∀(n:Y) (f:Y->Z),bin t n f=fU (λi=>ch n i*t^(n-i)*f i) (n+1)
 |0,f=>by simp[bin,fU,ch]
 |n+1,f=>by
  show t*bin t n f+bin t n (λi=>f (i+1))=_;rw[Ak t n f,Ak t n λi=>f (i+1),qJ _ (n+1),qJ _ n];have e1:fU (λi=>((ch (n+1) (i+1):Y):Z)*t^(n+1-(i+1))*f (i+1)) (n+1) =
    fU (λi=>(ch n i:Z)*t^(n-i)*f (i+1)) (n+1)+fU (λi=>(ch n (i+1):Z)*t^(n-i)*f (i+1)) (n+1):=by
   rw[<-Oq];refine y9 _ λi _=>?_;have e:ch (n+1) (i+1)=ch n i+ch n (i+1):=rfl;rw[e,CC,show n+1-(i+1)=n-i by omega]
   grind
  have e2:fU (λi=>(ch n (i+1):Z)*t^(n-i)*f (i+1)) (n+1)=t*fU (λi=>(ch n (i+1):Z)*t^(n-(i+1))*f (i+1)) n:=by
   rw[<-Ou];simp only[fU];rw[Dh n (n+1) (by omega)];have a:fU (λi=>(ch n (i+1):Z)*t^(n-i)*f (i+1)) n=fU (λi=>t*((ch n (i+1):Z)*t^(n-(i+1))*f (i+1))) n:=by
    refine y9 n λi hi=>?_;rw[show n-i=(n-(i+1))+1 by omega,BE]
    grind
   rw[a];simp
  grind [ch,BE]
def rt(w:Z)(i:Y):Z×Z:=if i%2=0 then (w^(i/2),0)else (0,w^(i/2))
theorem af3(w:Z)(i:Y):rt w (i+1)=(w*(rt w i).2,(rt w i).1):=by
 unfold rt;rcases AU i with h|h
 .grind
 .rw[U (by omega),V (by omega),show(i+1)/2=i/2+1 by omega,BE]
  grind
def JW(t w:Z):∀n j:Y,bin t n (λi=>(rt w (i+j)).1)=(fD w (zp t w n) (rt w j)).1/\bin t n (λi=>(rt w (i+j)).2)=(fD w (zp t w n) (rt w j)).2
 |0,j=>by
  show(rt w (0+j)).1=_/\(rt w (0+j)).2=_
  grind [fD,zp]
 |n+1,j=>by
  obtain⟨h1,h2⟩:=JW t w n j;obtain⟨h3,h4⟩:=JW t w n (j+1)
  grind [bin,rt,af3,fD,zp]
def Pr{p:Y}(h:0<p)(f:Y->Z)(hf:∀i,0<i->i<p->(p:Z) ∣ f i):(p:Z) ∣ fU f (p+1)-(f 0+f p):=by
 obtain⟨m,rfl⟩:∃m,p=m+1:=⟨p-1,by omega⟩
 grind [fU,qJ,Ot]
theorem aes(n:Y):ch n 0=1:=by cases n<;>rfl
def agP{p:Y}(h:eD p=GC)(ho:p%2=1)(t w:Z):(p:Z) ∣ (zp t w p).1-t^p/\(p:Z) ∣ (zp t w p).2-w^(p/2):=by
 obtain⟨e,d⟩:=JW t w p 0;have g:rt w 0=(1,0):=by unfold rt;rw[U rfl,show 0/2=0 from rfl,DI]
 have aqA:rt w p=(0,w^(p/2)):=by unfold rt;rw[V (by omega)]
 have l:(fD w (zp t w p) (rt w 0)).1=(zp t w p).1:=by rw[g];unfold fD;dsimp only;simp
 have k:(fD w (zp t w p) (rt w 0)).2=(zp t w p).2:=by rw[g];unfold fD;dsimp only;simp
 have c:∀(f:Y->Z) i,0<i->i<p->(p:Z) ∣ ch p i*t^(p-i)*f i:=λf i j b =>
  A2 (A2 (CR.2 (aa4 h j b)))
 have a:0<p:=by omega
 rw[Ak,l]at e;rw[Ak,k]at d;rw[<-e,<-d];refine⟨?_,?_⟩
 .have:=Pr a (λi=>ch p i*t^(p-i)*(rt w (i+0)).1) (c _)
  grind [aes,E8]
 .have:=Pr a (λi=>ch p i*t^(p-i)*(rt w (i+0)).2) (c _)
  grind [Ro,E8]
def SK{p:Y}(a:eD p=GC)(b:p%2=1)(t:Z):(p:Z) ∣ t^p-t:=by
 have e:t^p=t^(p/2)*t^(p/2)*t:=by
  rw[<-Int.pow_add,<-BE]
  congr 1
  omega
 obtain⟨c,hc⟩:=A7 (AJ.1 (J9 a b t));have g:t^(p/2)=tU p t+p*c:=by omega
 rw[e,g];by_cases f:(p:Z) ∣ t
 .obtain⟨d,rfl⟩:=f;exact⟨(tU p (↑p*d)+p*c)*(tU p (↑p*d)+p*c)*d-d,by grind⟩
 .have h:tU p t≠0:=λq=>dN.1 q (gA a f);have h2:=Eu t p;rw[ur t b]at h2;rcases h2 with h2|h2|h2
  .exact N h2 h
  .rw[h2];exact⟨t*(2*c+p*c*c),by grind⟩
  .rw[h2];exact⟨t*(-2*c+p*c*c),by grind⟩
def iY{p:Y}(h:aw p):eD p=GC:=Ng.2 ⟨h.lt,λd b q6 a=>by
 rcases h.dv d (AF a)with e|e
 .omega
 .subst e;have:=AY d b;omega⟩
def X7{p:Y}(h:eD p=GC):aw p:=⟨(gW h).1,(gW h).2⟩
def ef(c:Z):O Z->Z->Z
 |[],_=>c
 |a::l,x=>a+x*ef c l x
def QU(k:Z):∀(l:O Z) (c r:Z),∃q:O Z,q.length=l.length/\∀x,ef k (c::l) x-ef k (c::l) r=(x-r)*ef k q x
 |[],c,r=>⟨[],rfl,λx=>by simp only[ef];grind⟩
 |d::l,c,r=>by
  obtain⟨q,a,h⟩:=QU k l d r;refine⟨ef k (d::l) r::q,by simp[a],λx=>?_⟩
  grind [ef]
def Ia{p:Y}(s:eD p=GC){k:Z}(u:¬(p:Z) ∣ k):∀(n:Y) (l rs:O Z),l.length=n->rs.Pairwise (λa b=>¬(p:Z) ∣ a-b)->(∀r∈rs,(p:Z) ∣ ef k l r)->rs.length<=n:=by
 intro n
 induction n with
 |zero =>
  intro l rs d _ g;have:l=[]:=CM.1 d;subst this;cases rs with
  |nil=>exact Z0 _
  |cons r t=>exact N (g r (AH ..)) u
 |succ n m =>
  intro l rs d v g
  match l,d with
  |c::l,d =>
   cases rs with
   |nil=>exact Z9 _
   |cons r t =>
    obtain⟨q,o,h⟩:=QU k l c r;have f:=C9.1 v;have:=m q t (by rw[o];simpa using d) f.2 λx i=>by
     have j:=B9 (g x (AD _ i)) (g r (AH ..));rw[h x]at j;refine lF (gA s λe=>f.1 x i ?_) j;obtain⟨z,hz⟩:=e;exact⟨-z,by rw[DT];omega⟩
    simp_all
def QX:∀(j:Y) (x:Z),ef 1 (l j 0) x=x^j
 |0,x=>by rw[DI];rfl
 |j+1,x=>by
  simp_all [ef,l,QX,BE,Int.zero_add,BK]
def Mq{p a n:Y}(h:n<=p:=by omega):((BU a n).map λj:Y=>(j:Z)).Pairwise (λx y=>¬(p:Z) ∣ x-y):=by
 rw[DD];refine B6 (R:=λx y=>x<y) (λ{x y} c b HC d=>?_) List.pairwise_lt_range';rw[EP]at c b;obtain⟨z,hz⟩:=d;have e:(y:Z)-x=p*(-z):=by rw[DT];omega
 have h2:=DA (show 0<(y:Z)-x by omega) ⟨-z,e⟩;omega
def N3{p k:Y}(d:eD p=GC)(k1:1<=k:=by omega)(k2:k<p-1:=by omega):∃b:Y,2<=b/\b<=p-1/\¬(p:Z) ∣ (b:Z)^k-1:=by
 refine BA λhn=>?_;have a:∀b:Y,1<=b->b<=p-1->(p:Z) ∣ (b:Z)^k-1:=λb b1 b2=>by
  by_cases c:b=1
  .simp_all [Int.one_pow]
  grind
 have h1:=(gW d).1;have:=Ia d (k:=1) (λf=>by have:=DA (by decide) f;omega) k (-1::l (k-1) 0) ((BU 1 (p-1)).map λj:Y=>(j:Z)) (by simp;omega) (Mq) (λr e=>by
  obtain⟨b,c,rfl⟩:=BM.1 e;rw[EP]at c;have:=a b c.1 (by omega);show(p:Z) ∣ -1+(b:Z)*ef 1 (l (k-1) 0) b;rw[QX,<-Int.pow_succ',show k-1+1=k by omega]
  grind)
 simp at this;omega
def QZ{p:Y}(a:eD p=GC)(c:p%2=1){t:Z}(b:¬(p:Z) ∣ t):(p:Z) ∣ t^(p-1)-1:=by
 have h1:=(gW a).1;have h:=SK a c t;have e:t^p-t=t*(t^(p-1)-1):=by
  have:t^p=t^(p-1)*t:=by rw[<-BE];congr 1;omega
  rw[this];grind
 rw[e]at h;exact lF (gA a b) h
theorem Ii(w:Z)(a b:Z×Z):fD w a b=fD w b a:=by
 grind [fD,Prod.ext]
def qY(w:Z)(x:Z×Z):Y->Z×Z
 |0=>(1,0)
 |e+1=>fD w (qY w x e) x
def J0(t w:Z):∀e,qY w (t,1) e=zp t w e
 |0=>rfl
 |e+1=>by show fD w (qY w (t,1) e) (t,1)=fD w (zp t w e) (t,1);rw[J0 t w e]
def ID(w:Z)(a:Z×Z):fD w a (1,0)=a:=by
 grind [fD,Prod.ext]
def abk(w:Z)(a:Z×Z):fD w (1,0) a=a:=by rw[Ii,ID]
def JH(w:Z)(x:Z×Z)(i:Y):∀j,qY w x (i+j)=fD w (qY w x i) (qY w x j)
 |0=>by show qY w x i=fD w (qY w x i) (1,0);rw[ID]
 |j+1=>by
  show fD w (qY w x (i+j)) x=fD w (qY w x i) (fD w (qY w x j) x);rw[JH w x i j,sI]
theorem qM(w:Z)(x:Z×Z)(i:Y):∀j,qY w x (i*j)=qY w (qY w x i) j
 |0=>rfl
 |j+1=>by
  rw[Nat.mul_succ,JH,qM w x i j];rfl
theorem Dg(w:Z)(x y:Z×Z):∀e,qY w (fD w x y) e=fD w (qY w x e) (qY w y e)
 |0=>by show(1,0)=fD w (1,0) (1,0);rw[ID]
 |e+1=>by
  show fD w (qY w (fD w x y) e) (fD w x y)=fD w (fD w (qY w x e) x) (fD w (qY w y e) y);rw[Dg w x y e,sI,sI]
  grind [sI,Ii,qY]
def yg(w:Z)(x:Z×Z):Z:=x.1*x.1-w*(x.2*x.2)
def agO(w:Z)(x y:Z×Z):yg w (fD w x y)=yg w x*yg w y:=by
 unfold yg fD;dsimp only
 grind
def ey(p:Y)(x:Z×Z):Prop:=(p:Z) ∣ x.2
def j?(p:Y)(w:Z)(x:Z×Z):Prop:=¬(p:Z) ∣ yg w x
def rP{p:Y}(d:eD p=GC){a b:Z}(h:(p:Z) ∣ a*b):(p:Z) ∣ a\/(p:Z) ∣ b:=by
 by_cases c:(p:Z) ∣ a
 .exact .inl c
 .exact .inr (lF (gA d c) h)
def TF{p:Y}{w:Z}(c:eD p=GC){x y:Z×Z}(b:j? p w x)(a:j? p w y):j? p w (fD w x y):=λh=>by
 rw[agO]at h;rcases rP c h with q|q
 .exact b q
 .exact a q
def TG{p:Y}{w:Z}(a:eD p=GC):j? p w (1,0):=λh=>by
 have h:(p:Z) ∣ 1*1-w*(0*0):=h;rw[CY,CY]at h;have:=DA (by decide) h;have:=(gW a).1;omega
def sf{p:Y}{w:Z}(a:eD p=GC){x:Z×Z}(b:j? p w x):∀e,j? p w (qY w x e)
 |0=>TG a
 |e+1=>TF a (sf a b e) b
theorem J4{p:Y}{w:Z}{x y:Z×Z}(b:ey p x)(a:ey p y):ey p (fD w x y) :=
 AB (AA a) (A2 b)
theorem vD{p:Y}{w:Z}{x:Z×Z}(a:ey p x):∀e,ey p (qY w x e)
 |0=>⟨0,by show(0:Z)=p*0;omega⟩
 |e+1=>J4 (vD a e) a
def H7{p:Y}{w:Z}(d:eD p=GC){x y:Z×Z}(a:ey p x)(b:j? p w x)(h:ey p (fD w x y)):ey p y:=by
 have e:(p:Z) ∣ x.1*y.2:=by
  have h:(p:Z) ∣ x.1*y.2+x.2*y.1:=h;have:=B9 h (A2 (c:=y.1) a)
  simp_all
 rcases rP d e with q|q
 .exact N (B9 (A2 q) (AA (A2 a))) b
 .exact q
theorem aku{p:Y}{w:Z}(a:eD p=GC){x:Z×Z}(c:j? p w x){M:Y}(h:ey p (qY w x M))(k r:Y)(b:ey p (qY w x (M*k+r))):ey p (qY w x r):=by
 rw[JH,qM]at b;exact H7 a (vD h k) (sf a (sf a c M) k) b
def akt{p:Y}{w:Z}(hp:eD p=GC){x:Z×Z}(asZ:j? p w x)(M K:Y):ey p (qY w x M)->ey p (qY w x K)->ey p (qY w x (B2 M K)):=by
 induction M,K using Nat.gcd.induction with
 |H0 n=>intro _ h;rw[ES];exact h
 |H1 m n _ ih =>
  grind [EK,aku,DZ]
def QV(c d:Z):∀(l m:O Z),m.length<l.length->∃l',l'.length=l.length/\∀x,ef c l x+ef d m x=ef c l' x
 |a::l, [],_=>⟨(a+d)::l,by simp,λx=>by show a+x*ef c l x+d=a+d+x*ef c l x;omega⟩
 |a::l,b::m,h=>by
  obtain⟨l',e,h2⟩:=QV c d l m (by simpa using h);refine⟨(a+b)::l',by simp[e],λx=>?_⟩
  grind [ef,B8]
 |[], [],h=>by simp at h
 |[],_::_,h=>by simp at h
def QT(c d:Z):∀(l m:O Z),m.length=l.length->∃l',l'.length=l.length/\∀x,ef c l x+ef d m x=ef (c+d) l' x
 |[], [],_=>⟨[],rfl,λx=>rfl⟩
 |a::l,b::m,h=>by
  obtain⟨l',e,h2⟩:=QT c d l m (by simpa using h);refine⟨(a+b)::l',by simp[e],λx=>?_⟩
  grind [ef,B8]
 |[],_::_,h=>by simp at h
 |_::_, [],h=>by simp at h
def QW(c w:Z):∀l:O Z,∃l',l'.length=l.length/\∀x,w*ef c l x=ef (w*c) l' x
 |[]=>⟨[],rfl,λx=>rfl⟩
 |a::l=>by
  obtain⟨l',b,h2⟩:=QW c w l;refine⟨(w*a)::l',by simp[b],λx=>?_⟩
  grind [ef]
def Sc(w:Z):∀m:Y,(∃l:O Z,l.length=m+1/\∀t,(zp t w (m+1)).1=ef 1 l t)/\(∃l:O Z,l.length=m/\∀t,(zp t w (m+1)).2=ef ((m+1:Y):Z) l t)
 |0=>⟨⟨[0],rfl,λt=>by rw[TJ];show t=0+t*1;omega⟩,[],rfl,λt=>by rw[TJ];rfl⟩
 |m+1=>by
  obtain⟨⟨l,b,h2⟩,d,a,h4⟩:=Sc w m;have e1:∀t,(zp t w (m+1+1)).1=(zp t w (m+1)).1*t+w*((zp t w (m+1)).2*1):=λt=>rfl;have e2:∀t,(zp t w (m+1+1)).2=(zp t w (m+1)).1*1+(zp t w (m+1)).2*t:=λt=>rfl;obtain⟨d',c,h6⟩:=QW ((m+1:Y):Z) w d;obtain⟨l',h7,h8⟩:=QV 1 (w*((m+1:Y):Z)) (0::l) d' (by rw[c,a,A9,b];omega);obtain⟨d2,h9,aqH⟩:=QT 1 ((m+1:Y):Z) l (0::d) (by simp[b,a])
  grind [A9,ef]
def agQ{p:Y}(c:eD p=GC)(w:Z){m:Y}(b:1<=m)(a:m<p):∃t:Y,¬ey p (zp t w m):=by
 refine BA λd=>?_;have th:∀t:Y,(p:Z) ∣ (zp t w m).2:=λt=>BA λh=>d ⟨t,h⟩;obtain⟨j,rfl⟩:∃j,m=j+1:=⟨m-1,by omega⟩;obtain⟨_,l,e,h2⟩:=Sc w j;have:=Ia c (k:=((j+1:Y):Z)) (iW b a) j l ((BU 0 p).map λi:Y=>(i:Z)) e (Mq (Z0 p)) (λr hr=>by
  grind)
 simp at this;omega
def ajl{p:Y}(a:eD p=GC)(ho:p%2=1):∃w:Z,tU p w= -1:=by
 have h1:=(gW a).1;obtain⟨b,b1,b2,b3⟩:=N3 a (k:=p/2);have h2:=Eu b p
 grind [ur,J9,gA,iW,dN,A7,AJ]
def adn{p:Y}(a:eD p=GC)(b:p%2=1){w:Z}(c:tU p w= -1)(t:Z):ey p (qY w (t,1) (p+1)):=by
 rw[J0];obtain⟨⟨h,h1⟩,g,h2⟩:=agP a b t w;obtain⟨f,h3⟩:=SK a b t;obtain⟨e,d⟩:=A7 (AJ.1 (J9 a b w));rw[c]at d;show(p:Z) ∣ (zp t w p).1*1+(zp t w p).2*t;refine⟨h+f+(g+e)*t,?_⟩
 grind
def am5{p:Y}(_hp:eD p=GC)(b:p%2=1){w:Z}(a:tU p w= -1)(t:Z):j? p w (t,1):=λh=>by
 have h:(p:Z) ∣ t*t-w*(1*1):=h;rw[BW,BW]at h;have e:tU p (t*t)=tU p w:=Ph (AJ.2 (AT h));rw[I' b,a]at e;have h2:=Eu t p
 grind [ur]
def P?{q:Y}(a:aw q):∀(f n:Y),n<=f->1<=n->q ∣ n->∃e c,n=q^(e+1)*c/\¬q ∣ c
 |0,n,h,d,_=>by omega
 |f+1,n,h,d,g=>by
  obtain⟨m,rfl⟩:=g;have j:=a.lt;have m0:m≠0:=λe=>by rw[e,DG]at d;omega
  by_cases b:q ∣ m
  .have de:m<q*m:=by
    have:=C3 m j;omega
   obtain⟨e,c,h3,i⟩:=P? a f m (by omega) (by omega) b;refine⟨e+1,c,?_,i⟩
   grind
  .exact⟨0,m,by rw[BH,FP],b⟩
def abl{p:Y}(f:eD p=GC)(x:p%2=1){w:Z}(u:tU p w= -1){q:Y}(l:aw q)(D:q ∣ p+1) :
  ∃y,j? p w y/\ey p (qY w y (p+1))/\¬ey p (qY w y ((p+1)/q))/\∀r,aw r->r ∣ p+1->r≠q->ey p (qY w y ((p+1)/r)):=by
 have h1:=(gW f).1;have B:=l.lt;obtain⟨e,c,m,A⟩:=P? l (p+1) (p+1) (Z0 _) (by omega) D;have i:0<q^e:=DN (by omega);have G:0<c:=Nat.pos_of_ne_zero λz=>A (z ▸ Nat.dvd_zero q);have g:(p+1)/q=q^e*c:=by
  grind [CK,B1,AS]
 have o:(p+1)/q<p:=by
  have:(p+1)/q<=(p+1)/2:=Nat.div_le_div_left B (by omega);omega
 have s:1<=(p+1)/q:=by rw[g];exact DO i G
 obtain⟨t,C⟩:=agQ f w s o;rw[<-J0]at C;have v:=am5 f x u t;have a:=adn f x u t;refine⟨qY w (t,1) c,sf f v c,by rw[<-qM,AW,qM];exact vD a c,λh=>?_,λr j b ig=>?_⟩
 .rw[<-qM]at h;have hg:=akt f v _ _ a h;have e2:B2 (p+1) (c*((p+1)/q))=(p+1)/q:=by
   rw[g,m];have I:q^(e+1)*c=(q^e*c)*q:=by rw[BN,B1,AW q c,B1]
   have H:c*(q^e*c)=(q^e*c)*c:=AW _ _;rw[I,H,Nat.gcd_mul_left,l.nh A,C2]
  simp_all
 .have n:r ∣ c:=by
   rw[m]at b;rcases j.mul b with z|z
   .rcases l.dv r (by
     clear b;have:∀k,r ∣ q^k->r ∣ q:=λk=>by
      induction k with
      |zero=>intro z;rw[CT]at z;have:=AL (by omega) z;have:=j.lt;omega
      |succ k ih =>
       intro z;rw[BN]at z;rcases j.mul z with y|y
       all_goals omega
     grind)with y|y
    all_goals simp_all
   .exact z
  obtain⟨d,rfl⟩:=n;have r2:=j.lt;have F:(p+1)/r=q^(e+1)*d:=by rw[m,BY,AS _ (by omega)]
  have E:r*d*((p+1)/r)=(p+1)*d:=by rw[F,m];grind
  rw[<-qM,E,qM];exact vD a d
def NX{p:Y}(b:eD p=GC)(m:p%2=1){w:Z}(k:tU p w= -1):∀l:O Y,l.Nodup->(∀q∈l,aw q/\q ∣ p+1)->
  ∃g,j? p w g/\ey p (qY w g (p+1))/\(∀q∈l,¬ey p (qY w g ((p+1)/q)))/\∀r,aw r->r ∣ p+1->r ∉ l->ey p (qY w g ((p+1)/r))
 |[],_,_=>⟨(1,0),TG b,vD ⟨0,by show(0:Z)=p*0;omega⟩ _,λq d=>by simp at d,λr _ _ _=>vD ⟨0,by show(0:Z)=p*0;omega⟩ _⟩
 |q::l,f,h=>by
  rw[BR]at f;obtain⟨g,o,z,x,v⟩:=NX b m k l f.2 λr hr=>h r (AD _ hr);obtain⟨d,n⟩:=h q (AH ..);obtain⟨y,j,u,t,s⟩:=abl b m k d n;refine⟨fD w g y,TF b o j,by rw[Dg];exact J4 z u,λr hr a=>?_,λr hr c ar5=>?_⟩
  .rw[Dg]at a;rcases CI.1 hr with rfl|hr
   .exact t (H7 b (v r d n f.1) (sf b o _) a)
   .obtain⟨i,c⟩:=h r (AD _ hr);rw[Ii]at a;exact x r hr (H7 b (s r i c λe=>f.1 (e ▸ hr)) (sf b j _) a)
  grind [Dg,J4]
def uX(n:Y)(idx base:O Z):ab:=⟨2,GE,aA n,idx,base,0,0,0,0,0,GE,0⟩
def gO(n:Y)(q:Z):Y:=A0 (⟨e? (λb=>decide (fY (b:Z) (((n:Z)-1)/q).natAbs n≠1)) 1152921504606846976 2,rfl⟩:∃r,r=e? (λb=>decide (fY (b:Z) (((n:Z)-1)/q).natAbs n≠1)) 1152921504606846976 2)
theorem Qa(n:Y)(q:Z):gO n q=e? (λb=>decide (fY (b:Z) (((n:Z)-1)/q).natAbs n≠1)) 1152921504606846976 2:=AP (⟨e? (λb=>decide (fY (b:Z) (((n:Z)-1)/q).natAbs n≠1)) 1152921504606846976 2,rfl⟩:∃r,r=e? (λb=>decide (fY (b:Z) (((n:Z)-1)/q).natAbs n≠1)) 1152921504606846976 2)
def pT(pr:O ab->Z->O ab):O ab->O Z->O ab
 |L, []=>L
 |L,q::r=>pT pr (pr L q) r
def gx(pr:O ab->Z->O ab):O ab->O Z->O Z
 |_, []=> []
 |L,q::r=>(((pr L q).length:Z)-1)::gx pr (pr L q) r
def ke(pr:O ab->Z->O ab)(L:O ab)(n:Y):O ab :=
 pT pr L (aL (n-1))++[uX n (gx pr L (aL (n-1))) ((aL (n-1)).map λq=>(gO n q:Z))]
def eK:Y->O ab->Z->O ab
 |0,L,z=>L++[bX z]
 |f+1,L,z=>if z<65536 then L++[bX z]else ke (eK f) L z.toNat
theorem NU(pr:O ab->Z->O ab):∀(l:O Z) (L:O ab) (x:Z),pT pr L (l++[x])=pr (pT pr L l) x
 |[],_,_=>rfl
 |q::r,L,x=>by show pT pr (pr L q) (r++[x])=pr (pT pr (pr L q) r) x;exact NU pr r _ x
theorem O'(pr:O ab->Z->O ab):∀(l:O Z) (L:O ab) (x:Z),gx pr L (l++[x])=gx pr L l++[((pr (pT pr L l) x).length:Z)-1]
 |[],_,_=>rfl
 |q::r,L,x=>by show _::gx pr (pr L q) (r++[x])=_::(gx pr (pr L q) r++_);rw[O' pr r];rfl
def Ci(pr:O ab->Z->O ab):∀(l:O Z) (L:O ab),(gx pr L l).length=l.length
 |[],_=>rfl
 |q::r,L=>by show(gx pr (pr L q) r).length+1=r.length+1;rw[Ci pr r]
structure n? (L R:List ab) (w:Nat) (z:Int):Prop where
 pre:∃T,R=L++T
 lo:L.length+1<=R.length
 hi:R.length+1<=L.length+2*w
 ok:(∀s∈L,ff s)->∀s∈R,ff s
 ic:(∀s∈L,s.can=true/\2<=s.n)->∀s∈R,s.can=true/\2<=s.n
 last:(R.getD (R.length-1) aB).n=z
 ai:(R.getD (R.length-1) aB).neg=false/\(R.getD (R.length-1) aB).ai=aA z.toNat
structure mi (L R:List ab) (w:Nat) (q I:List Int):Prop where
 pre:∃T,R=L++T
 hi:R.length+q.length<=L.length+2*w
 ok:(∀s∈L,ff s)->∀s∈R,ff s
 ic:(∀s∈L,s.can=true/\2<=s.n)->∀s∈R,s.can=true/\2<=s.n
 len:I.length=q.length
 at_:∀k,k<q.length->0<=I.getD k 0/\I.getD k 0<R.length/\(R.getD (I.getD k 0).toNat aB).n=q.getD k 0/\(R.getD (I.getD k 0).toNat aB).neg=false/\(R.getD (I.getD k 0).toNat aB).ai=aA (q.getD k 0).toNat
theorem vW(pr:O ab->Z->O ab):∀(q:O Z) (L:O ab),(∀x∈q,∀L,n? L (pr L x) (AN x.toNat) x)->mi L (pT pr L q) (fq q) q (gx pr L q)
 |[],L,_=>⟨⟨[],by simp[pT]⟩,by simp[pT,fq],λh=>h,λh=>h,rfl,λk a=>by simp at a⟩
 |x::r,L,h=>by
  have P:=h x (AH ..) L;have A:=vW pr r (pr L x) λy d=>h y (AD _ d);show mi L (pT pr (pr L x) r) (AN x.toNat+fq r) (x::r) ((((pr L x).length:Z)-1)::gx pr (pr L x) r);obtain⟨T,e⟩:=P.pre;obtain⟨U,b⟩:=A.pre;have hlen:(pr L x).length<=(pT pr (pr L x) r).length:=by rw[b,BS];omega
  refine⟨⟨T++U,by rw[b,e,BX]⟩,?_,λc=>A.ok (P.ok c),λc=>A.ic (P.ic c),by rw[A9,A9,A.len],λk a=>?_⟩
  .have:=A.hi;have:=P.hi;rw[A9];omega
  .cases k with
   |zero =>
    have hl:=P.lo;show 0<=((pr L x).length:Z)-1/\((pr L x).length:Z)-1<((pT pr (pr L x) r).length:Z)/\_;have g:(((pr L x).length:Z)-1).toNat=(pr L x).length-1:=by omega
    have f:(pT pr (pr L x) r).getD ((pr L x).length-1) aB=(pr L x).getD ((pr L x).length-1) aB:=by
     rw[b,AI,AI,BO (by omega)]
    refine⟨by omega,by omega,?_⟩;show(F _ ((((pr L x).length:Z)-1)).toNat aB).n=x/\(F _ ((((pr L x).length:Z)-1)).toNat aB).neg=GE/\(F _ ((((pr L x).length:Z)-1)).toNat aB).ai=aA x.toNat;rw[g,f];exact⟨P.last,P.ai.1,P.ai.2⟩
   |succ k=>exact A.at_ k (by simpa using a)
def Kk{z:Z}(h:0<=z:=by omega):(bX z).n=z:=by
 show(if G (z<0)=GC then-(wv (aA z.natAbs))else wv (aA z.natAbs))=z;rw[Y1 (show ¬z<0 by omega),V (by decide),iE];omega
def so(n:Y)(i b:O Z):(uX n i b).n=n:=by
 show(if GE=GC then-(wv (aA n))else wv (aA n))=(n:Z);rw[V (by decide),iE]
def oO(L:O ab)(s:ab):(L++[s]).getD ((L++[s]).length-1) aB=s:=by
 rw[BS,List.length_singleton,BJ];exact zC L s
def TE(L:O ab){z:Z}(h:2<=z)(b:z<65536):n? L (L++[bX z]) (AN z.toNat) z:=by
 have hl:1<=AN z.toNat:=(B5 (by omega)).2 (by omega);refine⟨⟨_,rfl⟩,by simp,by simp;omega,λa s hs=>?_,λa s hs=>?_,by rw[oO];exact Kk,by rw[oO];exact⟨Y1 (by omega),by show aA z.natAbs=_;congr 1;omega⟩⟩
 .rcases BL.1 hs with hs|hs
  .exact a s hs
  .rw[BG.1 hs];exact afy (by omega) b
 .rcases BL.1 hs with hs|hs
  .exact a s hs
  .rw[BG.1 hs];exact JF h
def rO{n:Y}(hn:3<=n)(ho:n%2=1):∀x∈aL (n-1),aw x.toNat/\2<=x/\2*x<=max 4 (n-1:Y):=λx a=>by
 rw[fJ]at a;obtain⟨p,rfl,c,b,h3⟩:=(fP (show 1<=n-1 by omega)).mem x a;rw[Z8];refine⟨c,by omega,?_⟩;by_cases d:p=2
 .omega
 .have g:DR p 2:=by
   rw[DR,DH];rcases AU p with q|q
   .exact N ((c.dv 2 (AF q)).resolve_left (by omega)).symm d
   .rw[EK,q];decide
  have f:p ∣ (n-1)/2:=by
   have e:n-1=2*((n-1)/2):=by omega
   rw[e]at b;exact g.dvd_of_dvd_mul_left b
  have:=AL (by omega) f;omega
def PQ{pr:O ab->Z->O ab}(L:O ab){n:Y}(Hw:3<=n)(ej:n<1099511627776)(r:n%2=1)(h:∀x∈aL (n-1),∀L,n? L (pr L x) (AN x.toNat) x){w:Y}(k:AN n<=w)(w2:2<=w):n? L (ke pr L n) w n:=by
 have t:3<=n:=by omega
 have A:=vW pr (aL (n-1)) L h;have i:=rO t r;have o:=lY (show 1<=n-1 by omega);rw[<-fJ]at o;have hlen:=qP (aL (n-1)) λx m=>(i x m).2.1;have a:AN (n-1)<=AN n:=(B5 (by omega)).2 (A5 (vd) (by omega));have K0:AN n<40:=(EJ (by omega)).2 ej;have g:1<=(aL (n-1)).length:=by
  rw[fJ];have:=(fP (show 1<=n-1 by omega)).all 2 ⟨by omega,λd c=>by have:=AL (by omega) c;have:d≠0:=(λe=>by rw[e]at c;simp at c);omega⟩ (AF (by omega));exact D5 this
 obtain⟨T,j⟩:=A.pre;have rb:(pT pr L (aL (n-1))).length=L.length+T.length:=by rw[j,BS]
 have Lc:=A.hi;have U7:2<=(aL (n-1)).length\/fq (aL (n-1))+1<=w:=by
  by_cases l:n=3
  .subst l;have:AN (3-1)=1:=by decide
   exact .inr (by omega)
  rcases BI (aL (n-1)).length 2 with q|q
  .right
   match p:aL (n-1),q,g with
   |[x],_,_ =>
    have h1:=i x (by rw[p];exact AH ..);show AN x.toNat+0+1<=_;refine A5 ((B5 (by omega)).2 ?_) (A5 a k);have:=vd (n:=x.toNat);rw[BZ,BN];omega
  .exact .inl q
 unfold ke;refine⟨⟨T++[_],by rw[j,BX]⟩,by simp;omega,by simp;omega,λf s hs=>?_,λf s hs=>?_,by rw[oO];exact so n _ _,by rw[oO];exact⟨rfl,rfl⟩⟩
 .rcases BL.1 hs with hs|hs
  .exact A.ok f s hs
  .rw[BG.1 hs];refine⟨aM _,?_,?_,?_⟩
   .have:=bR (n:=n) (b:=64);show(aA n).length<=6;omega
   .show(gx pr L (aL (n-1))).length<=90;rw[Ci];omega
   .show(List.map _ (aL (n-1))).length<=1000;rw[CW];omega
 .rcases BL.1 hs with hs|hs
  .exact A.ic f s hs
  .rw[BG.1 hs,so];exact⟨oY (n:Z),by omega⟩
structure Fits (f:Nat) (z:Int):Prop where
 pr:aw z.toNat
 two:2<=z
 lt:z<65536*2^f
def afp{pr:O ab->Z->O ab}(L:O ab){n:Y}(Hw:5<=n)(ej:n<1099511627776)(a:n%2=1)(h:∀x∈aL (n-1),∀L,n? L (pr L x) (AN x.toNat) x):n? L (ke pr L n) (AN n) n :=
 PQ L (by omega) ej a h (Z0 _) ((B5 (by omega)).2 (by omega))
def wH{f n:Y}(c:3<=n)(b:n%2=1)(hf:n<65536*2^(f+1)):∀x∈aL (n-1),Fits f x:=λx a=>by
 obtain⟨g,d,h3⟩:=rO c b x a;refine⟨g,d,?_⟩;have e:(65536*2^(f+1):Y)=2*(65536*2^f):=by rw[BN];omega
 have h:(65536*2^f:Z)=((65536*2^f:Y):Z):=by rw[AM,CB];rfl
 have e3:1<=2^f:=E5 f;rw[h];omega
def j7{n:Y}(h:aw n)(h3:3<=n:=by omega):n%2=1:=by
 rcases AU n with q|q
 .rcases h.dv 2 (AF q)with e|e<;>omega
 .exact q
theorem pP:∀(f:Y) (L:O ab) (z:Z),f<=20->Fits f z->n? L (eK f L z) (AN z.toNat) z
 |0,L,z,_,h=>TE L h.two (by have:=h.lt;omega)
 |f+1,L,z,d,h=>by
  unfold eK;split
  .rename_i a;exact TE L h.two a
  .rename_i a;have e:((z.toNat:Y):Z)=z:=by have:=h.two;omega
   have g:=h.lt;have i:(65536*2^(f+1):Z)=((65536*2^(f+1):Y):Z):=by rw[AM,CB];rfl
   rw[i]at g;have h3:65536*2^(f+1)<=65536*2^20:=AY _ (A6 (by omega) d);have b:=j7 h.pr;have:=afp L (pr:=eK f) (n:=z.toNat) (by omega) (by omega) b λx c L=>pP f L x (by omega) (wH (by omega) b (by omega) x c);rw[e]at this;exact this
def jN(f:Y)(L:O ab)(z:Z):O ab:=A0 (⟨eK f L z,rfl⟩:∃r,r=eK f L z)
theorem pO(f:Y)(L:O ab)(z:Z):jN f L z=eK f L z:=AP (⟨eK f L z,rfl⟩:∃r,r=eK f L z)
def jA(f:Y)(L:O ab)(q:O Z):O ab:=A0 (⟨pT (eK f) L q,rfl⟩:∃r,r=pT (eK f) L q)
theorem nX(f:Y)(L:O ab)(q:O Z):jA f L q=pT (eK f) L q:=AP (⟨pT (eK f) L q,rfl⟩:∃r,r=pT (eK f) L q)
def er(f:Y)(L:O ab)(q:O Z):O Z:=A0 (⟨gx (eK f) L q,rfl⟩:∃r,r=gx (eK f) L q)
theorem yM(f:Y)(L:O ab)(q:O Z):er f L q=gx (eK f) L q:=AP (⟨gx (eK f) L q,rfl⟩:∃r,r=gx (eK f) L q)
def m6(f:Y)(L:O ab)(n:Y):O ab:=A0 (⟨ke (eK f) L n,rfl⟩:∃r,r=ke (eK f) L n)
def Cm(f:Y)(L:O ab)(n:Y):m6 f L n=ke (eK f) L n:=AP (⟨ke (eK f) L n,rfl⟩:∃r,r=ke (eK f) L n)
structure yc (f m:Nat) (g:Nat->MV) (z:Int):Prop where
 fits:Fits f z
 f20:f<=20
 ok:cw m g
 len:m+2*AN z.toNat<=900000
def mO(f:Y):O MV->Y->(Y->MV)->C (bq×Y×(Y->MV)×MV)
 |[.int .u64 z],m,g=>GA (GA (yc f m g z),(jN f (aE m g) z).length,aF (jN f (aE m g) z) 200,.int .i64 (((jN f (aE m g) z).length:Z)-1))
 |_,_,_=>GB
structure tc (f m:Nat) (g:Nat->MV) (z:Int):Prop where
 z1:1<=z
 z2:z<4611686018427387904
 fits:∀x∈aL z.toNat,Fits f x
 f20:f<=20
 ok:cw m g
 len:m+2*fq (aL z.toNat)<=900000
def vG(f:Y):O MV->Y->(Y->MV)->C (bq×Y×(Y->MV)×MV)
 |[.int .u64 z],m,g=>GA (GA (tc f m g z),(jA f (aE m g) (aL z.toNat)).length,aF (jA f (aE m g) (aL z.toNat)) 200,.sl 1 (aL z.toNat).length (bI (er f (aE m g) (aL z.toNat))))
 |_,_,_=>GB
def Jw(f:Y)(h:fg AC 25 18 (mO f)):j2 AC:=⟨25,18,mO f,λargs w=>Tryz.call25 args w,h⟩
def GV(f:Y)(h:fg AC 48 18 (vG f)):j2 AC:=⟨48,18,vG f,λargs w=>Tryz.call48 args w,h⟩
def T6(q:O Z)(R:Y->O ab)(X:Y->O Z):Y->MS->C bt
 |4,_=>GA (.inv da (yh q) (λs=>⟨27, [(0,.bp 0 0),(5,.sl 1 q.length (λj=>.int .u64 (q.getD j 0))),(6,.bs 2 0 s.k),(7,.int .i64 s.k)],
   [⟨GE,.one (.st [.bs 1 0 (R s.k).length])⟩,⟨GE,.rows 18 (R s.k).length (aF (R s.k) 200)⟩,⟨GE,.arr .i64 (X s.k)⟩],1⟩) (λs=>q.length-s.k))
 |_,_=>GB
def aj2(f:Y)(h:fg AC 25 18 (mO f))(L:O ab)(z:Z)(R:Y->O ab)(X:Y->O Z)(a:_)(l:a=(aL (S z)))(c:_)(g:c=(D a))(b:_)(e:b=λ(i:da)=>(R (da.k i)))(d:_)(m:d=λ(i:da)=>(jN f (aE (D (b i)) (aF (b i) 200)) (F a (S (da.k i:Z)) 0))):((1<=z/\z<4611686018427387904)/\(∃i,yh a i/\(0=0/\(1=1/\D a =D a/\ak c (λj=>MV.int GF (F a j 0)) λj=>MV.int GF (F a j 0))/\(0=0/\0=da.k i)/\0=(da.k i:Z)/\E)/\((0=0/\D L=D (b i))/\E)/\(D L=D (b i)/\ak (D L) (aF L 200) (aF (b i) 200))/\[]=X (da.k i)/\E)/\∀(i:da),yh a i->bif G ((da.k i:Z)<(D a :Z))then (0<=(da.k i:Z)/\(da.k i:Z)<(D a :Z))/\(D (b i) <=D (b i)/\yc f (D (b i)) (aF (b i) 200) (F a (S (da.k i:Z)) 0))/\(0+1<=1/\da.k i<=D (X (da.k i))/\(da.k i+AK (bh.ints GD (W 1 (Q 0 [(D (d i) :Z)-1]))))*8<=140737488355328)/\∃j,yh a j/\((0=0/\(1=1/\D a =D a/\ak c (λj=>MV.int GF (F a j 0)) λj=>MV.int GF (F a j 0))/\(0=0/\da.k i+AK (bh.ints GD (W 1 (Q 0 [(D (d i) :Z)-1])))=da.k j)/\GI GD ((da.k i:Z)+1)=(da.k j:Z)/\E)/\((0=0/\D (d i) =D (R (da.k j)))/\E)/\(D (d i) =D (R (da.k j))/\ak (D (d i)) (aF (d i) 200) (aF (R (da.k j)) 200))/\W (da.k i) (X (da.k i))++W 1 (Q 0 [(D (d i) :Z)-1])=X (da.k j)/\E)/\D a-da.k j<D a-da.k i else 0+da.k i<=D (X (da.k i))/\((0=0/\D (b i) =D (R c))/\E)/\(D (R c)<=D (b i)/\ak (D (R c)) (aF (b i) 200) (aF (R c) 200))/\1=1/\da.k i=D a/\ak (da.k i) (λj=>MV.int GD (F (X (da.k i)) (0+j) 0)) (bI (X c)))=nN (ow [Aq] [.pt (Jw f h)] UP (T6 (aL z.toNat) R X)) F1 18 [.int .u64 z] L.length (aF L 200) (R (aL z.toNat).length).length (aF (R (aL z.toNat).length) 200) (.sl 1 (aL z.toNat).length (bI (X (aL z.toNat).length))):=by subst l g e m;kernel_rfl
def TH:∀(q:O Z) (k:Y),k<q.length->fq (q.take k)+AN (q.getD k 0).toNat<=fq q
 |[],k,h=>by simp at h
 |x::r,0,_=>by show 0+AN x.toNat<=AN x.toNat+fq r;omega
 |x::r,k+1,h=>by
  show AN x.toNat+fq (r.take k)+AN (r.getD k 0).toNat<=AN x.toNat+fq r;have:=TH r k (by simpa using h);omega
def XG{f:Y}(f20:f<=20){q:O Z}(hq:∀x∈q,Fits f x)(L:O ab)(k:Y):mi L (jA f L (q.take k)) (fq (q.take k)) (q.take k) (er f L (q.take k)):=by
 grind [nX,yM,vW,pP,EF]
def ahR(f:Y)(h:fg AC 25 18 (mO f))(L:O ab)(z:Z)(K:1<=z)(J:z<4611686018427387904)(e:f<=20)(H:e8 L)(g:∀x∈aL z.toNat,Fits f x)(hl:L.length+2*fq (aL z.toNat)<=900000:=by omega) :
  ∃E:Env AC,nN E F1 18 [.int .u64 z] L.length (aF L 200) (jA f L (aL z.toNat)).length (aF (jA f L (aL z.toNat)) 200) (.sl 1 (aL z.toNat).length (bI (er f L (aL z.toNat)))):=by
 have D:=XG e g L;have b:jA f L ((aL z.toNat).take 0)=L:=by rw[nX];rfl
 have t:er f L ((aL z.toNat).take 0)=[]:=by rw[yM];rfl
 have u:∀k,k<(aL z.toNat).length->jA f L ((aL z.toNat).take (k+1))=jN f (jA f L ((aL z.toNat).take k)) ((aL z.toNat).getD k 0):=λk l=>by
  grind [nX,pO,BD,NU]
 have p:∀k,k<(aL z.toNat).length->er f L ((aL z.toNat).take (k+1))=er f L ((aL z.toNat).take k)++[((jA f L ((aL z.toNat).take (k+1))).length:Z)-1]:=λk l=>by
  grind [nX,yM,pO,BD,O']
 have eR:jA f L (aL z.toNat)=jA f L ((aL z.toNat).take (aL z.toNat).length):=by rw[CL]
 have eX:er f L (aL z.toNat)=er f L ((aL z.toNat).take (aL z.toNat).length):=by rw[CL]
 rw[eR,eX];generalize G:(λk=>jA f L ((aL z.toNat).take k))=R;generalize F:(λk=>er f L ((aL z.toNat).take k))=X;have ana:∀k,jA f L ((aL z.toNat).take k)=R k:=λk=>congrFun G k;have anb:∀k,er f L ((aL z.toNat).take k)=X k:=λk=>congrFun F k;simp only[ana,anb]at *;refine⟨ow [Aq] [.pt (Jw f h)] UP (T6 (aL z.toNat) R X),?_⟩;rw[<-aj2 f h L z R X _ rfl _ rfl _ rfl _ rfl];generalize aL z.toNat=q at *;refine⟨⟨K,J⟩,⟨⟨0⟩,⟨Z9 _⟩,⟨rfl,⟨rfl,rfl,AG⟩,⟨rfl,rfl⟩,rfl,⟨⟩⟩,⟨⟨rfl,by rw[b]⟩,⟨⟩⟩,⟨by rw[b],by rw[b];exact AG⟩,t.symm,⟨⟩⟩,λs I=>?_⟩;obtain⟨k⟩:=s;obtain⟨l⟩:=I;dsimp only at l⊢;rw[Z8];have A:=D k;have d:(X k).length=k:=by rw[A.len,EU];omega
 have C:W k (X k)=X k:=List.take_of_length_le (by rw[d];exact Z0 k);have B:∀y:Z,W 1 (Q 0 [y])=[y]:=λ_=>rfl;have v:∀y:Z,AK (bh.ints GD [y])=1:=λ_=>rfl;rw[C,B,v,d,j8];refine aJ Z4 (λq1=>?_) (λq1=>?_)
 .have a:k<q.length:=by omega
  have M:GI GD ((k:Z)+1)=((k+1:Y):Z):=by
   have m:=qP q λx i=>(g x i).two;rw[aV (by omega) (by omega)];omega
  have hw:=TH q k a;have Lc:=A.hi;have n:e8 (R k):=⟨by omega,A.ok H.ok⟩;rw[<-u k a];have m:=qP q λx i=>(g x i).two;refine⟨by omega,⟨Z0 _,g _ (gS a),e,oE n,by omega⟩,⟨by omega,Z0 _,by omega⟩,⟨k+1⟩,⟨a⟩,⟨⟨rfl,⟨rfl,rfl,AG⟩,⟨rfl,rfl⟩,M,⟨⟩⟩,⟨⟨rfl,rfl⟩,⟨⟩⟩,⟨rfl,AG⟩,(p k a).symm,⟨⟩⟩,by show q.length-(k+1)<q.length-k;omega⟩
 .have o:k=q.length:=by omega
  subst o;refine⟨by omega,⟨⟨rfl,rfl⟩,⟨⟩⟩,⟨Z0 _,AG⟩,rfl,rfl,⟨λj _ c w N r=>?_⟩⟩;have r:aj c w (.int .i64 ((X q.length).getD (0+j) 0)) N:=r;rw[BH]at r;exact r
def Jb(f:Y)(h:fg AC 25 18 (mO f)):fg AC 48 18 (vG f):=oN bQ Tryz.func48 (vG f) λms n g p n' g' m a c=>by
 unfold vG at a;split at a
 .rename_i z;simp only[Z1,Z2]at a;obtain⟨rfl,rfl,rfl,rfl⟩:=a;obtain⟨k,j,i,e,b,h6⟩:tc f n g z:=c;have d:=dD n g;have:=ahR f h (aE n g) z k j e b.T i;rw[d]at this;exact⟨aF (aE n g) 200,jW b.jn,this⟩
 .simp at a
structure eu where
 k:Nat
structure yp (q:List Int) (s:eu):Prop where
 hk:s.k<=q.length
structure j1 where
 b:Nat
structure yq (B:Nat) (s:j1):Prop where
 h2:2<=s.b
 hB:s.b<=B
def VP(n:Y)(k:Y):O (Y×MV):=[(0,.bp 0 0),(1,.int .u64 n),(5,.bp 2 0),(6,.bp 3 0),(7,.int .i64 k)]
def VO(n:Y)(M:O ab)(idx dc:O Z)(k:Y):O aq:=[⟨GE,.one (.st [.bs 1 0 M.length])⟩,⟨GE,.rows 18 M.length (aF M 200)⟩,
 ⟨GE,.one (.st [.int .i64 2,.aa n 64,.sl 1 idx.length (bI idx),.bs 4 0 k,.st [.aa 0 0,.aa 0 0,.aa 0 0],.st [.aa 0 0,.aa 0 0,.bool GE],.aa 0 0])⟩,
 ⟨GE,.one (.aa ((n:Z)-1) 64)⟩,⟨GE,.rows 2 k (iL (dc.take k) 200)⟩]
def T?(n:Y)(M:O ab)(q idx dc:O Z):Y->MS->C bt
 |4,_=>GA (.inv eu (yp q) (λs=>⟨74,VP n s.k,VO n M idx dc s.k,1⟩) (λs=>q.length-s.k))
 |8,e=>(match bD 7 e.tm with
  |.int _ k=>GA (.inv j1 (yq (dc.getD k.toNat 0).toNat) (λs=>⟨74,VP n k.toNat++[(8,.bp 5 0),(9,.bp 6 0)],VO n M idx dc k.toNat++[⟨GE,.one (.aa (q.getD k.toNat 0) 200)⟩,⟨GE,.one (.aa s.b 64)⟩],1⟩) (λs=>(dc.getD k.toNat 0).toNat-s.b))
  |_=>GB)
 |_,_=>GB
def UR:Y->O Y
 |11=> [4,1000000]
 |999994=> [0]
 |_=> []
def ala(f:Y)(h:fg AC 48 18 (vG f))(L:O ab)(n:Y)(q idx dc:O Z)(M R:O ab)(a:_)(p:a=(n:Z))(l:_)(t:l=λ(i:eu)=>(bh.rows 18 1 (aU [MV.st [MV.int GD (2:Z),MV.aa a 64,MV.sl 1 (D idx) (bI idx),MV.sl 2 (eu.k i) (iL (W (eu.k i) dc) 200),MV.st [MV.aa 0 0,MV.aa 0 0,MV.aa 0 0],MV.st [MV.aa 0 0,MV.aa 0 0,MV.bool GE],MV.aa 0 0]])))(g:_)(r:g=(aL (S (X GF (a-1)))))(c:_)(o:c=λ(i:eu)=>(eu.k i:Z))(d:_)(s:d=λ(i:eu)=>(S (c i)))(e:_)(m:e=(jA f (aE (D L) (aF L 200)) g)):((0<= a/\a <18446744073709551616)/\(D L<=D L/\tc f (D L) (aF L 200) (X GF (a-1)))/\(0<=X GF (a-1)/\X GF (a-1)<18446744073709551616)/\(∃i,yp q i/\(0=0/\a = a/\0=0/\0=0/\0= (c i)/\E)/\((0=0/\D e =D M)/\E)/\(D e =D M/\ak (D e) (aF e 200) (aF M 200))/\((2:Z)=2/\aD a a 64 64/\(1=1/\D g =D idx/\ak (D g) (bI (er f (aE (D L) (aF L 200)) g)) (bI idx))/\(AE GB 0 0=AE GB 0 0/\0=0/\eu.k i=0)/\(aD 0 0 0 0/\aD 0 0 0 0/\aD 0 0 0 0/\E)/\(aD 0 0 0 0/\aD 0 0 0 0/\GE=GE/\E)/\aD 0 0 0 0/\E)/\aD (X GF (a-1)) (a-1) 64 64/\E)/\∀(i:eu),yp q i->bif G ((c i) <(D idx:Z))then (0<= (c i)/\(c i) <(D idx:Z))/\(0<=F idx (d i) 0/\F idx (d i) 0<(D M:Z))/\S (F idx (d i) 0)<D M/\fX 2/\(∃ae,yq (S (F dc (d i) 0)) ae/\(0=0/\a = a/\0=0/\0=0/\(c i) =(S (c i) :Z)/\0=0/\0=0/\E)/\((0=0/\D M=D M)/\E)/\(D M=D M/\ak (D M) (aF M 200) (aF M 200))/\((2:Z)=2/\aD a a 64 64/\(1=1/\D idx=D idx/\ak (D idx) (bI idx) (bI idx))/\(0=0/\eu.k i=S (c i))/\(aD 0 0 0 0/\aD 0 0 0 0/\aD 0 0 0 0/\E)/\(aD 0 0 0 0/\aD 0 0 0 0/\GE=GE/\E)/\aD 0 0 0 0/\E)/\aD (a-1) (a-1) 64 64/\(eu.k i=S (c i)/\ak (eu.k i) (iL (W (eu.k i) dc) 200) (iL (W (d i) dc) 200))/\(ab.neg (F M (S (F idx (d i) 0)) aB)=G (F q (d i) 0<0)/\ab.ai (F M (S (F idx (d i) 0)) aB)=aA (GM (F q (d i) 0))/\GM (F q (d i) 0)<2^200)/\aD 2 (j1.b ae:Z) 64 64/\E)/\∀(ae:j1),yq (S (F dc (d i) 0)) ae->(64<=900000/\200<=900000/\(F q (d i) 0=0->H))/\(64<=10000/\64<=10000/\64<=10000/\0< a)/\fX 1/\(64<=1000000/\64<=1000000)/\bif G (fY (j1.b ae:Z) (GM ((a-1)/F q (d i) 0)) a =1)then fX 1/\(64<=1000000/\64<=1000000)/\∃j,yq (S (F dc (d i) 0)) j/\((0=0/\a = a/\0=0/\0=0/\(S (c i) :Z)=(S (c i) :Z)/\0=0/\0=0/\E)/\((0=0/\D M=D M)/\E)/\(D M=D M/\ak (D M) (aF M 200) (aF M 200))/\((2:Z)=2/\aD a a 64 64/\(1=1/\D idx=D idx/\ak (D idx) (bI idx) (bI idx))/\(0=0/\S (c i) =S (c i))/\(aD 0 0 0 0/\aD 0 0 0 0/\aD 0 0 0 0/\E)/\(aD 0 0 0 0/\aD 0 0 0 0/\GE=GE/\E)/\aD 0 0 0 0/\E)/\aD (a-1) (a-1) 64 64/\(S (c i) =S (c i)/\ak (d i) (iL (W (d i) dc) 200) (iL (W (d i) dc) 200))/\aD (F q (d i) 0) (F q (d i) 0) 200 200/\aD ((j1.b ae:Z)+1) (j1.b j:Z) (max 64 64+1) 64/\E)/\S (F dc (d i) 0)-j1.b j<S (F dc (d i) 0)-j1.b ae else (S (c i) <=S (c i)/\(S (c i) +AK (bh.rows 2 1 (aU [MV.aa (j1.b ae:Z) 64])))*32<=140737488355328)/\∃j,yp q j/\((0=0/\a = a/\0=0/\0=0/\X GD ((S (c i) :Z)+1)=(eu.k j:Z)/\E)/\((0=0/\D M=D M)/\E)/\(D M=D M/\ak (D M) (aF M 200) (aF M 200))/\((2:Z)=2/\aD a a 64 64/\(1=1/\D idx=D idx/\ak (D idx) (bI idx) (bI idx))/\(0=0/\S (c i) +AK (bh.rows 2 1 (aU [MV.aa (j1.b ae:Z) 64]))=eu.k j)/\(aD 0 0 0 0/\aD 0 0 0 0/\aD 0 0 0 0/\E)/\(aD 0 0 0 0/\aD 0 0 0 0/\GE=GE/\E)/\aD 0 0 0 0/\E)/\aD (a-1) (a-1) 64 64/\(S (c i) +1=eu.k j/\ak (S (c i) +1) (λq=>bif AQ q (d i)then iL (W (d i) dc) 200 q else aU [MV.aa (j1.b ae:Z) 64] (q-S (c i))) (iL (W (eu.k j) dc) 200))/\E)/\D q-eu.k j<D q-eu.k i else eu.k i<=eu.k i/\(D M<=D M/\(D M+AK (l i))*288<=140737488355328)/\((0=0/\D M+AK (l i) =D R)/\E)/\(D R<=D M+1/\ak (D R) (λq=>bif AQ q (D M)then aF M 200 q else aU [MV.st [MV.int GD (2:Z),MV.aa a 64,MV.sl 1 (D idx) (bI idx),MV.sl 2 (eu.k i) (iL (W (eu.k i) dc) 200),MV.st [MV.aa 0 0,MV.aa 0 0,MV.aa 0 0],MV.st [MV.aa 0 0,MV.aa 0 0,MV.bool GE],MV.aa 0 0]] (q-D M)) (aF R 200))/\X GD ((↑(D M+AK (l i)):Z)-1)=(D R:Z)-1)=nN (ow [mD,cC,kX,v5,fF,fZ] [.pt (GV f h)] UR (T? n M q idx dc)) F5 18 [.int .u64 n] L.length (aF L 200) R.length (aF R 200) (.int .i64 ((R.length:Z)-1)):=by subst p t r o s m;kernel_rfl
structure HS (n:Nat) (q:Int):Prop where
 lo:2<=gO n q
 hi:gO n q<=n-1
 yes:fY (gO n q:Int) (((n:Int)-1)/q).natAbs n≠1
 no:∀j,2<=j->j<gO n q->fY (j:Int) (((n:Int)-1)/q).natAbs n=1
def Mp{n k:Y}(h:1<n)(b:Z):fY b k n=1↔(n:Z) ∣ b^k-1:=by
 unfold fY;constructor
 .intro e;refine A7 ?_;rw[<-AJ,e,A3 (by omega) (by omega)]
 .intro e;have:=AJ.2 (AT e);rw[this,A3 (by omega) (by omega)]
theorem SA{n:Y}(f:aw n)(hn:3<=n)(ej:n<1152921504606846976){q:Z}(d:aw q.toNat)(g:q.toNat ∣ n-1):HS n q:=by
 have h:=d.lt;obtain⟨p,rfl⟩:∃p:Y,q=p:=⟨q.toNat,by omega⟩;rw[Z8]at d g h;have a:=iY f;have r:(((n:Z)-1)/(p:Z)).natAbs=(n-1)/p:=by
  grind
 have c:=AL (by omega) g;obtain⟨b,b1,b2,s⟩:=N3 a (k:=(n-1)/p) (EL c (by omega)) (DY (by omega) h);have m:fY (b:Z) (((n:Z)-1)/(p:Z)).natAbs n≠1:=λe=>s (by rw[r]at e;exact(Mp f.lt _).1 e);have l:=Fx (λb=>decide (fY (b:Z) (((n:Z)-1)/(p:Z)).natAbs n≠1)) 1152921504606846976 2;have o:=Dc (λb=>decide (fY (b:Z) (((n:Z)-1)/(p:Z)).natAbs n≠1)) 1152921504606846976 2;have i:=vc (λb=>decide (fY (b:Z) (((n:Z)-1)/(p:Z)).natAbs n≠1)) 1152921504606846976 2 b b1 (by omega) (Y0 m);rw[<-Qa]at l o i;refine⟨l,?_,of_decide_eq_true i,λj asw asx=>?_⟩
 all_goals grind
def Yr{α:Type}(l:O Z)(f:Z->α)(d:α){k:Y}(h:k<l.length):(l.map f).getD k d=f (l.getD k 0):=by
 simp_all
structure x6 (f m:Nat) (g:Nat->MV) (n:Int):Prop where
 pr:aw n.toNat
 n5:3<=n
 n6:n<1099511627776
 lt:n.toNat<65536*2^(f+1)
 f20:f<=20
 ok:cw m g
 len:m+2*AN n.toNat<=900000
def ahX(f:GH)(h:fg AC 48 18 (vG f))(L:GG ab)(n:GH)(hp:aw n)(n5:3<=n)(U:n<1099511627776)(N:n<65536*2^(f+1))(r:f<=20)(W:e8 L)(hl:L.length+2*AN n<=900000:=by omega) :
  ∃E:Env AC,nN E F5 18 [.int .u64 n] L.length (aF L 200) (m6 f L n).length (aF (m6 f L n) 200) (.int .i64 (((m6 f L n).length:GJ)-1)):=by
 have F:=j7 hp;have c:=wH (by omega) F N;have hw:=lY (show 1<=n-1 by omega);have arI:AN (n-1)<=AN n:=(B5 (by omega)).2 (A5 (vd) (by omega));rw[<-fJ]at hw;have u:∀x∈aL (n-1),HS n x:=λx d=>by
  have h1:=(rO (by omega) F x d).1;rw[fJ]at d;obtain⟨p,rfl,h2,h3,_⟩:=(fP (show 1<=n-1 by omega)).mem x d
  grind [SA,Z8]
 have A:=vW (eK f) (aL (n-1)) L λx d L=>pP f L x r (c x d);rw[<-nX,<-yM]at A;have T:m6 f L n=jA f L (aL (n-1))++[uX n (er f L (aL (n-1))) ((aL (n-1)).map λq=>(gO n q:GJ))]:=by rw[Cm,nX,yM];rfl
 generalize hM:jA f L (aL (n-1))=M at *;generalize t:er f L (aL (n-1))=idx at *;generalize hR:m6 f L n=R at *;refine⟨ow [mD,cC,kX,v5,fF,fZ] [.pt (GV f h)] UR (T? n M (aL (n-1)) idx ((aL (n-1)).map λq=>(gO n q:GJ))),?_⟩;rw[<-ala f h L n (aL (n-1)) idx ((aL (n-1)).map λq=>(gO n q:GJ)) M R _ rfl _ rfl _ rfl _ rfl _ rfl _ rfl];have e2:GI GF ((n:GJ)-1)=((n-1:GH):GJ):=by rw[show(n:GJ)-1=((n-1:GH):GJ) by omega];exact xS
 rw[e2,Z8,j8,hM,t];have Lc:=A.hi;have VU:e8 M:=⟨by omega,A.ok W.ok⟩;have l:idx.length=(aL (n-1)).length:=A.len;generalize D:aL (n-1)=q at *;have o:(q.map λq=>(gO n q:GJ)).length=q.length:=CW ..;have S:∀k,k<q.length->(q.map λq=>(gO n q:GJ)).getD k 0=(gO n (q.getD k 0):GJ):=λk G=>Yr q _ 0 G;generalize K6:(q.map λq=>(gO n q:GJ))=dc at *;have arZ:=qP q λx d=>(c x d).two;have K0:AN n<40:=(EJ (by omega)).2 U;have y:aD 0 0 0 0/\aD 0 0 0 0/\aD 0 0 0 0/\True:=⟨cB,cB,cB,⟨⟩⟩;have v:aD 0 0 0 0/\aD 0 0 0 0/\GE=GE/\True:=⟨cB,cB,rfl,⟨⟩⟩;refine⟨by omega,⟨Z0 _,by omega,by omega,by rw[Z8,D];exact c,r,oE W,by rw[Z8,D];omega⟩,by omega,⟨⟨0⟩,⟨Z9 _⟩,⟨rfl,rfl,rfl,rfl,rfl,⟨⟩⟩,⟨⟨rfl,rfl⟩,⟨⟩⟩,⟨rfl,AG⟩,⟨rfl,cB,⟨rfl,l.symm,by rw[<-l];exact AG⟩,⟨rfl,rfl,rfl⟩,y,v,cB,⟨⟩⟩,⟨by omega,.inl (Z0 _)⟩,⟨⟩⟩,λs I=>?_⟩;obtain⟨k⟩:=s;obtain⟨G⟩:=I;dsimp only at G⊢;rw[Z8];refine aJ Z4 (λq1=>?_) (λq1=>?_)
 .have a:k<q.length:=by omega
  obtain⟨i1,i2,i3,Z,Y⟩:=A.at_ k a;have d:=c _ (gS a);have B:=u _ (gS a);rw[S k a,Z8];generalize H:q.getD k 0=x at *;have ts:=d.two;have asl:=(rO (by omega) F x (by rw[D,<-H];exact gS a)).2.2;have ex:x.natAbs=x.toNat:=by omega
  have g:x.natAbs<2^200:=EO (show x.natAbs<2^64 by omega) (A6 (by omega) (by omega));have e5:GI GD ((k:GJ)+1)=((k+1:GH):GJ):=by rw[aV (by omega) (by omega)];omega
  refine⟨by omega,⟨i1,i2⟩,by omega,by omega,⟨⟨2⟩,⟨Z0 2,B.lo⟩,⟨rfl,rfl,rfl,rfl,rfl,rfl,rfl,⟨⟩⟩,⟨⟨rfl,rfl⟩,⟨⟩⟩,⟨rfl,AG⟩,⟨rfl,cB,⟨rfl,rfl,AG⟩,⟨rfl,rfl⟩,y,v,cB,⟨⟩⟩,cB,⟨rfl,AG⟩,⟨by rw[Z];exact(Y1 (by omega)).symm,by rw[Y,ex],g⟩,cB,⟨⟩⟩,λj J=>?_⟩;obtain⟨b⟩:=j;obtain⟨V,X⟩:=J;dsimp only at V X⊢;have aqL:=B.hi;refine⟨⟨by omega,by omega,λe=>by omega⟩,by omega,by omega,by omega,aJ Z4 (λC=>?_) (λC=>?_)⟩
  .have ig:b≠gO n x:=λe=>B.yes (e ▸ C);exact⟨by omega,by omega,⟨b+1⟩,⟨by show 2<=b+1;omega,by show b+1<=gO n x;omega⟩,⟨⟨rfl,rfl,rfl,rfl,rfl,rfl,rfl,⟨⟩⟩,⟨⟨rfl,rfl⟩,⟨⟩⟩,⟨rfl,AG⟩,⟨rfl,cB,⟨rfl,rfl,AG⟩,⟨rfl,rfl⟩,y,v,cB,⟨⟩⟩,cB,⟨rfl,AG⟩,cB,⟨by show(b:GJ)+1=((b+1:GH):GJ);omega,.inr (by omega)⟩,⟨⟩⟩,by show gO n x-(b+1)<gO n x-b;omega⟩
  .have aqV:b=gO n x:=by
    rcases BI b (gO n x)with w|w
    .exact GK (B.no b V w) C
    .omega
   have P:ak (k+1) (λq=>bif AQ q k then iL (GP k dc) 200 q else aU [MV.aa (b:GJ) 64] (q-k)) (iL (GP (k+1) dc) 200):=by
    have arB:(GP k dc).length=k:=by rw[EU];omega
    have:=Ik (GP k dc) (m:= .aa (b:GJ) 64) (z:=(b:GJ)) ⟨rfl,.inl (by omega)⟩
    grind [GP,BD,BP]
   exact⟨⟨Z0 _,by show(k+1)*32<=_;omega⟩,⟨k+1⟩,⟨a⟩,⟨⟨rfl,rfl,rfl,rfl,e5,⟨⟩⟩,⟨⟨rfl,rfl⟩,⟨⟩⟩,⟨rfl,AG⟩,⟨rfl,cB,⟨rfl,rfl,AG⟩,⟨rfl,rfl⟩,y,v,cB,⟨⟩⟩,cB,⟨rfl,P⟩,⟨⟩⟩,by show q.length-(k+1)<q.length-k;omega⟩
 .have Q:k=q.length:=by omega
  subst Q;have hv:isOk (.st [.int .i64 2,.aa n 64,.sl 1 idx.length (bI idx),.sl 2 q.length (iL (dc.take q.length) 200),.st [.aa 0 0,.aa 0 0,.aa 0 0],.st [.aa 0 0,.aa 0 0,.bool GE],.aa 0 0]) :=
   lA (by omega) (by omega) (by omega) (by omega) (by omega) (by omega) (O8 idx) (rH λi _=>k9 _ (Z0 _) i) (by rw[A1];exact FI U (by decide)) (by
    show(iT idx.length (bI idx)).length<=90
    grind [hH,aH,iL,bB]) (by
    show(aH q.length (iL (dc.take q.length) 200)).length<=1000;rw[bB];omega)
  have K:qI (.st [.int .i64 2,.aa n 64,.sl 1 idx.length (bI idx),.sl 2 q.length (iL (dc.take q.length) 200),.st [.aa 0 0,.aa 0 0,.aa 0 0],.st [.aa 0 0,.aa 0 0,.bool GE],.aa 0 0])=uX n idx dc:=by
   have e1:GP q.length dc=dc:=by rw[<-o];exact CL
   rw[e1,<-o];show(⟨2,decide ((n:GJ)<0),aA (n:GJ).natAbs,iT idx.length (bI idx),aH dc.length (iL dc 200),0,0,0,0,0,GE,0⟩:ab)=_;rw[hH,eJ,Y1 (show ¬(n:GJ)<0 by omega)];rfl
  have O:=Je (M:=M) (ex:=[]) hv.jn K;have hlen:R.length=M.length+1:=by rw[T];simp
  have e7:∀m:MV,AK (bh.rows 18 1 (aU [m]))=1:=λ_=>rfl;unfold ju at O
  grind [aV]
def qo(f:Y):O MV->Y->(Y->MV)->C (bq×Y×(Y->MV)×MV)
 |[.int .u64 n],m,g=>GA (GA (x6 f m g n),(m6 f (aE m g) n.toNat).length,aF (m6 f (aE m g) n.toNat) 200,.int .i64 (((m6 f (aE m g) n.toNat).length:Z)-1))
 |_,_,_=>GB
def QM(f:Y)(h:fg AC 48 18 (vG f)):fg AC 26 18 (qo f):=oN bQ Tryz.func26 (qo f) λms m g p n' g' v a d=>by
 unfold qo at a;split at a
 .rename_i b;simp only[Z1,Z2]at a;obtain⟨rfl,rfl,rfl,rfl⟩:=a;have H:x6 f m g b:=d;obtain⟨n,rfl⟩:∃n:Y,b=n:=⟨b.toNat,by have:=H.n5;omega⟩;obtain⟨k,h2,h3,j,i,c,h7⟩:=H;rw[Z8]at *;have e:=dD m g;have:=ahX f h (aE m g) n k (by omega) (by omega) j i c.T;rw[e]at this;exact⟨aF (aE m g) 200,jW c.jn,this⟩
 .simp at a
def Kd(f:Y)(h:fg AC 26 18 (qo f)):j2 AC:=⟨26,18,qo f,λargs w=>Tryz.call26 args w,h⟩
def acQ(f:Y)(h:fg AC 26 18 (qo f))(L R:O ab)(z:Z)(b:_)(d:b=(bh.rows 18 1 (aU [MV.st [MV.int GD (1:Z),MV.aa z 64,MV.val (AE GB 0 0),MV.val (AE GB 0 0),MV.st [MV.aa 0 0,MV.aa 0 0,MV.aa 0 0],MV.st [MV.aa 0 0,MV.aa 0 0,MV.bool GE],MV.aa 0 0]])))(a:_)(c:a=(m6 f (aE (D L) (aF L 200)) (S z))):(bif G (z<65536)then (0<=z/\z<18446744073709551616)/\(D L<=D L/\(D L+AK b)*288<=140737488355328)/\((0=0/\D L+AK b =D R)/\E)/\(D R<=D L+1/\ak (D R) (λq=>bif AQ q (D L)then aF L 200 q else aU [MV.st [MV.int GD (1:Z),MV.aa z 64,MV.val (AE GB 0 0),MV.val (AE GB 0 0),MV.st [MV.aa 0 0,MV.aa 0 0,MV.aa 0 0],MV.st [MV.aa 0 0,MV.aa 0 0,MV.bool GE],MV.aa 0 0]] (q-D L)) (aF R 200))/\X GD ((↑(D L+AK b):Z)-1)=(D R:Z)-1 else (D L<=D L/\x6 f (D L) (aF L 200) z)/\((0=0/\D a =D R)/\E)/\(D R<=D a/\ak (D R) (aF a 200) (aF R 200))/\(D a :Z)-1=(D R:Z)-1)=nN (ow [mD] [.pt (Kd f h)] Ho aC) EE 18 [.int .u64 z] L.length (aF L 200) R.length (aF R 200) (.int .i64 ((R.length:Z)-1)):=by subst d c;kernel_rfl
def Zn(f:Y)(h:fg AC 26 18 (qo f))(L:O ab)(z:Z)(a:¬z<65536)(b:x6 f L.length (aF L 200) z) :
  ∃E:Env AC,nN E EE 18 [.int .u64 z] L.length (aF L 200) (m6 f L z.toNat).length (aF (m6 f L z.toNat) 200) (.int .i64 (((m6 f L z.toNat).length:Z)-1)):=by
 refine⟨ow [mD] [.pt (Kd f h)] Ho aC,?_⟩;rw[<-acQ f h L (m6 f L z.toNat) z _ rfl _ rfl,j8];exact sj (Y1 a) ⟨⟨Z0 _,b⟩,⟨⟨rfl,rfl⟩,⟨⟩⟩,⟨Z0 _,AG⟩,rfl⟩
def R8(L:O ab)(z:Z):(((L++[bX z]).length:Y):Z)-1=(L.length:Z):=by rw[QE];omega
def xA:∀f:Y,fg AC 25 18 (mO f)
 |0=>oN bQ FG (mO 0) λk m g p n' g' v a j=>by
  unfold mO at a;split at a
  .rename_i z;simp only[Z1,Z2]at a;obtain⟨rfl,rfl,rfl,rfl⟩:=a;obtain⟨b,_,c,n⟩:yc 0 m g z:=j;have h:=dD m g;have d:=b.lt;have o:=b.two;have e:jN 0 (aE m g) z=aE m g++[bX z]:=by rw[pO];rfl
   have:=Oh (aE m g) z;rw[<-R8,h]at this;rw[e];exact⟨aF (aE m g) 200,jW c.jn,this⟩
  .simp at a
 |f+1=>oN bQ FG (mO (f+1)) λk m g p n' g' v a j=>by
  unfold mO at a;split at a
  .rename_i z;simp only[Z1,Z2]at a;obtain⟨rfl,rfl,rfl,rfl⟩:=a;obtain⟨b,l,c,n⟩:yc (f+1) m g z:=j;have h:=dD m g;have o:=b.two;by_cases i:z<65536
   .have e:jN (f+1) (aE m g) z=aE m g++[bX z]:=by rw[pO];unfold eK;rw[U i]
    have:=Oh (aE m g) z;rw[<-R8,h]at this;rw[e];exact⟨aF (aE m g) 200,jW c.jn,this⟩
   .have e:jN (f+1) (aE m g) z=m6 f (aE m g) z.toNat:=by rw[pO,Cm];unfold eK;rw[V i]
    have d:=b.lt;have q:(65536*2^(f+1):Z)=((65536*2^(f+1):Y):Z):=by rw[AM,CB];rfl
    rw[q]at d;have hb:65536*2^(f+1)<=65536*2^20:=AY _ (A6 (by omega) l);have:=Zn f (QM f (Jb f (xA f))) (aE m g) z i ⟨b.pr,by omega,by omega,by omega,by omega,oE c.T,by omega⟩;rw[h]at this;rw[e];exact⟨aF (aE m g) 200,jW c.jn,this⟩
  .simp at a
def adi(f:Y):j2 AC:=Jw f (xA f)
def al0(f:Y):j2 AC:=Kd f (QM f (Jb f (xA f)))
def Q3{n b:Y}(a:aw n)(c:n%2=1)(d:b%n≠0):b^(n-1)%n=1:=by
 have h1:=a.lt;have:=QZ (iY a) c (t:=(b:Z)) λh=>d (AX (CR.1 h));have e:=AJ.2 (AT this);rw[A3 (by omega) (show(1:Z)<n by omega)]at e;have e2:((b^(n-1)%n:Y):Z)=1:=by rw[AO,CB];exact e
 omega
def Q5{n:Y}(a:aw n):∀(k x:Y),x<n->x^2^k%n=1->x=1\/xN k x n=GC
 |0,x,hx,h=>by
  rw[CT,FP,CO hx]at h;exact .inl h
 |k+1,x,hx,h=>by
  have h1:=a.lt;rw[CK,FQ,Nat.pow_two,EH]at h;rcases Q5 a k (x*x%n) (BB _ (by omega)) h with q|q
  .have b:n ∣ (x-1)*(x+1):=by
    cases x with
    |zero=>simp at q
    |succ y =>
     have e:(y+1)*(y+1)=y*(y+1+1)+1:=by grind
     rw[e]at q;have:=Nat.mod_add_div (y*(y+1+1)+1) n;rw[q]at this;exact⟨(y*(y+1+1)+1)/n,by show y*(y+1+1)=n*((y*(y+1+1)+1)/n);omega⟩
   have xz:x≠0:=λe=>by rw[e]at q;simp at q
   rcases a.mul b with w|w
   .left;rcases Nat.eq_zero_or_pos (x-1)with z|z
    .omega
    .have:=AL z w;omega
   .right;have:=AL (by omega) w;unfold xN;rw[show x=n-1 by omega];simp
  .right;unfold xN;rw[q,FE]
def Ye{n:Y}(c:aw n)(g:n%2=1)(h2:n<2^128)(b:Y):cP n b=GC:=by
 have h1:=c.lt;have T:=Ko (n:=n-1);unfold cP;cases a:CH (b%n) 0 with
 |true=>rfl
 |false =>
  have h:b%n≠0:=λe=>by rw[e]at a;simp at a
  rw[Z5,E! 128 1 (b%n) _ n (by omega) (Nat.lt_of_le_of_lt (Nat.div_le_self ..) (by omega)),C1,<-EH];generalize tz (n-1)=s at *;obtain⟨d,f⟩:=AF T.m;have j:(n-1)/2^s=d:=by rw[f];exact AS d (E5 s)
  rw[j];have i:(b^d%n)^2^s%n=1:=by
   rw[<-EH,<-FQ,AW,<-f];exact Q3 c g h
  rcases Q5 c s _ (BB _ (by omega)) i with q|q
  .rw[q];rfl
  .rw[q,FE]
def OS{n:Y}(a:aw n)(c:n%2=1)(d:n<2^128):∀l,tV n l=GC
 |[]=>rfl
 |b::r=>by rw[tV,Ye a c d b,OS a c d r];rfl
def O9{n:Y}(a:aw n)(d:n<2^128):∀l,(∀b∈l,1<b)->(2∈l\/n%2=1)->sN n l=GC
 |[],_,h=>by
  have g:=a.lt;rw[sN,OS a (h.elim (λq=>by simp at q) id) d];simp[DB];exact g
 |b::r,c,h=>by
  by_cases q:n%b=0
  .rw[Ea q];rcases a.dv b (AF q)with e|e
   .have:=c b (AH ..);omega
   .rw[e];simp
  .rw[wj q];refine O9 a d r (λx f=>c x (AD _ f)) ?_;rcases h with h|h
   .rcases CI.1 h with e|h
    .subst e;right;omega
    .exact .inl h
   .exact .inr h
theorem zS{n:Y}(a:aw n)(b:n<2^128):gX n=GC :=
 O9 a b bG (by decide) (.inl (by decide))
def Q6{z:Z}(a:aw z.toNat)(h2:z<18446744073709551616:=by omega):ep z=GC:=by
 have h1:=a.lt
 grind [ep,zS]
theorem Io(w u v:Z):∀m,(qY w (u,v) m).2=v*aN (2*u) (u*u-w*(v*v)) m/\(qY w (u,v) (m+1)).2=v*aN (2*u) (u*u-w*(v*v)) (m+1)
 |0=>⟨by show(0:Z)=v*0;omega,by show(fD w (1,0) (u,v)).2=v*1;unfold fD;dsimp only;omega⟩
 |m+1=>by
  obtain⟨h1,h2⟩:=Io w u v m
  grind [fD,qY,aN]
def PN{n p q p' q':Z}(f:n ∣ p-p')(e:n ∣ q-q'):∀m,n ∣ aN p q m-aN p' q' m/\n ∣ aN p q (m+1)-aN p' q' (m+1)
 |0=>⟨⟨0,by show(0:Z)-0=_;omega⟩,0,by show(1:Z)-1=_;omega⟩
 |m+1=>by
  obtain⟨h,g⟩:=PN f e m;refine⟨g,?_⟩;show n ∣ p*aN p q (m+1)-q*aN p q m-(p'*aN p' q' (m+1)-q'*aN p' q' m);obtain⟨a,ha⟩:=f;obtain⟨b,hb⟩:=e;obtain⟨c,hc⟩:=h;obtain⟨d,hd⟩:=g;refine⟨a*aN p q (m+1)+p'*d-b*aN p q m-q'*c,?_⟩
  grind
def wV(a n:Z):n ∣ a-a%n:=⟨a/n,by have:=FN a n;omega⟩
structure L6 (p P Q:Nat):Prop where
 P1:1<=P
 P2:P<=p-1
 Q1:1<=Q
 Q2:Q<=p-1
 kr:gM ((P:Int)*P-4*Q) p= -1
 whole:qQ P Q (p+1) p=0
 part:∀q,aw q->q ∣ p+1->¬(p:Int) ∣ qQ P Q ((p+1)/q) p
def Zi{p:Y}(E:aw p)(G:5<=p):∃P Q,L6 p P Q:=by
 have A:=j7 E;have b:=iY E;obtain⟨w,I⟩:=ajl b A;have r:=fP (show 1<=p+1 by omega);obtain⟨g,M,N,s,_⟩:=NX b A I ((hZ (p+1)).map S) (by
  rw[FV,DD];refine B6 (λ{x y} z hy HC e=>?_) r.pw;obtain⟨a,rfl,_⟩:=r.mem x z;omega) (λq o=>by
  obtain⟨x,z,rfl⟩:=BM.1 o;obtain⟨a,rfl,i,f,_⟩:=r.mem x z;rw[Z8];exact⟨i,f⟩)
 have s:∀q,aw q->q ∣ p+1->¬ey p (qY w g ((p+1)/q)):=λq i f=>s q (BM.2 ⟨q,r.all q i f,Z8 q⟩);obtain⟨u,v⟩:=g;have t:aw 2:=X7 (by decide);have m:2 ∣ p+1:=AF (by omega);have hv:¬(p:Z) ∣ v:=λh=>s 2 t m (vD (x:=(u,v)) h _);have J:¬(p:Z) ∣ u:=λh=>by
  have Vv:ey p (qY w (u,v) 2):=by
   show(p:Z) ∣ (fD w (fD w (1,0) (u,v)) (u,v)).2;rw[abk];exact AB (A2 h) (AA h)
  have key:∀q,aw q->q ∣ p+1->(p+1)/q%2=0->GL:=λq i f l=>by
   obtain⟨k,K⟩:=AF l
   grind [qM,vD]
  by_cases C:(p+1)/2%2=0
  .exact key 2 t m C
  .obtain⟨q,o,F⟩:=oC ((p+1)/2) ((p+1)/2) (Z0 _) (by omega);have aoL:¬q ∣ 2:=λh=>by
    have:=o.xn t h
    grind [AX]
   obtain⟨k,K⟩:=F;have e:p+1=q*(2*k):=by
    grind
   refine key q o ⟨2*k,e⟩ ?_
   grind [AS,ER]
 have ej:¬(p:Z) ∣ 2:=iW (n:=p) (k:=2) (show 1<=2 by omega) (by omega);have D:¬(p:Z) ∣ 2*u:=λh=>(rP b h).elim ej J;have L:¬(p:Z) ∣ u*u-w*(v*v):=M;have j:∀a:Z,¬(p:Z) ∣ a->1<=a%p/\a%p<=p-1:=λa h=>by
  have i:=BT a (show(p:Z)≠0 by omega);have f:=BV a (show(0:Z)<p by omega);omega
 obtain⟨a1,a2⟩:=j _ D;obtain⟨b1,b2⟩:=j _ L;have eP:(((2*u%p).toNat:Y):Z)=2*u%p:=by omega
 have eQ:((((u*u-w*(v*v))%p).toNat:Y):Z)=(u*u-w*(v*v))%p:=by omega
 have B:=PN (wV (2*u) p) (wV (u*u-w*(v*v)) p);refine⟨(2*u%p).toNat,((u*u-w*(v*v))%p).toNat,by omega,by omega,by omega,by omega,?_,?_,λq i f h=>?_⟩
 .rw[eP,eQ,ur _ A];have H:tU p (2*u%p*(2*u%p)-4*((u*u-w*(v*v))%p))=tU p (2*v*(2*v)*w):=by
   refine Ph (AJ.2 (AT ?_));obtain⟨c,B⟩:=wV (2*u) p;obtain⟨d,F⟩:=wV (u*u-w*(v*v)) p;have H:2*u%p=2*u-p*c:=by omega
   have O:(u*u-w*(v*v))%p=u*u-w*(v*v)-p*d:=by omega
   rw[H,O];exact⟨-4*u*c+p*(c*c)+4*d,by grind⟩
  have aqI:¬(p:Z) ∣ 2*v:=λh=>(rP b h).elim ej hv;have l:=Eu (2*v) p
  grind [ur,I',gA,dN]
 .rw[eP,eQ,uv];have i:(p:Z) ∣ v*aN (2*u) (u*u-w*(v*v)) (p+1):=by rw[<-(Io w u v (p+1)).1];exact N
  have f:=(rP b i).resolve_left hv;have l:=(B (p+1)).1;refine AT ?_;have:=B9 f l
  grind
 .rw[eP,eQ,uv]at h;have l:=(B ((p+1)/q)).1;have C:(p:Z) ∣ aN (2*u%p) ((u*u-w*(v*v))%p) ((p+1)/q):=by
   have:=AB h (wV (aN (2*u%p) ((u*u-w*(v*v))%p) ((p+1)/q)) p)
   grind
  have G:=AB l C;rw[DC]at G;refine s q i f ?_;show(p:Z) ∣ (qY w (u,v) ((p+1)/q)).2
  grind [Io,AA]
def X0{n P Q:Y}(h5:5<=n)(P1:1<=P)(P2:P<=n-1)(Q1:1<=Q)(Q2:Q<=n-1)(d:Y):∃k,d<=k/\k<d+14*(n*n)+14*n+14/\1+k%(n-1)=P/\(1+k/7)%n=Q:=by
 obtain⟨s,r,ar9,g⟩:∃s r,P-1=7*s+r/\r<7:=⟨(P-1)/7,(P-1)%7,by omega,by omega⟩;obtain⟨m,rfl⟩:∃m,n=m+1:=⟨n-1,by omega⟩;rw[BJ]at *
 let b:=(s+(m-1)*Q+1)%m
 have Va:b<m:=BB _ (by omega)
 let M:=7*(m+1)*m
 have h:0<M:=DO (by omega) (by omega)
 let t:=d/M+1
 have xx:d<M*t:=by
  have:=Nat.lt_div_mul_add (a:=d) h
  grind
 have Vx:M*t<=d+M:=by
  have f:=Nat.div_mul_le_self d M
  grind
 obtain⟨c,hc⟩:∃c,s+(m-1)*Q+1=m*c+b:=⟨(s+(m-1)*Q+1)/m,(DZ _ _).symm⟩;have j:7*(Q-1)+r+7*(m+1)*(b+m*t)=7*((Q-1)+(m+1)*(b+m*t))+r:=by grind
 refine⟨7*(Q-1)+r+7*(m+1)*(b+m*t),?_,?_,?_,?_⟩
 .grind
 .have e:7*(m+1)*(b+m*t)=7*(m+1)*b+M*t:=by show _=_+7*(m+1)*m*t;grind
  have f:7*(m+1)*b<=7*(m+1)*m:=AY _ (by omega)
  grind
 ·
  have e:7*(Q-1)+r+7*(m+1)*(b+m*t)+m*(7*c)=(P-1)+m*(7*(Q+b+(m+1)*t)):=by
   obtain⟨Q',rfl⟩:∃Q',Q=Q'+1:=⟨Q-1,by omega⟩;obtain⟨m',rfl⟩:∃m',m=m'+1:=⟨m-1,by omega⟩
   grind
  have f:=congrArg (·%m) e;simp only[D3]at f;rw[f,CO (by omega)];omega
 .rw[j,E6 (by omega),EX g,BZ,show 1+(Q-1+(m+1)*(b+m*t))=Q+(m+1)*(b+m*t) by omega,D3];exact CO (by omega)
def eB(a:O Z):O ab->Prop
 |[]=>E
 |s::r=>cE a s=GC/\eB (a++[s.n]) r
def H!:∀(L:O ab) (a:O Z) (i:Y),tR a L i=GB↔eB a L
 |[],_,_=>by simp[tR,eB]
 |s::r,a,i=>by
  unfold tR eB;cases h:cE a s with
  |true=>rw[Z6,H! r];simp
  |false=>rw[Z5];simp
def Ol:∀(L T:O ab) (a:O Z),eB a (L++T)↔eB a L/\eB (a++bj L) T
 |[],T,a=>by
  show eB a T↔E/\eB (a++[]) T;rw[DS];simp
 |s::r,T,a=>by
  show(cE a s=GC/\eB (a++[s.n]) (r++T))↔(cE a s=GC/\eB (a++[s.n]) r)/\eB (a++(s.n::bj r)) T;rw[Ol r T,BX,and_assoc];rfl
def l5{L:O ab}{s:ab}(h:eB [] L)(a:cE (bj L) s=GC):eB [] (L++[s]):=(Ol L [s] []).2 ⟨h,by rw[CV];exact⟨a,trivial⟩⟩
def Ns(a:O Z):∀(I q acc:O Z),I.length=q.length->(∀k,k<q.length->0<=I.getD k 0/\I.getD k 0<a.length/\a.getD (I.getD k 0).toNat 0=q.getD k 0)->(acc++q).Nodup->cD a I acc=GA (acc++q)
 |[], [],acc,_,_,_=>by rw[DS];rfl
 |[],_::_,_,h,_,_=>by simp at h
 |_::_, [],_,h,_,_=>by simp at h
 |i::I,x::q,acc,j,h,b=>by
  obtain⟨e,d,c⟩:=h 0 (by simp);have e:0<=i:=e;have d:i<a.length:=d;have c:a.getD i.toNat 0=x:=c;rw[pM,c];have f:acc.elem x=GE:=by
   rw[List.elem_eq_mem,decide_eq_false_iff_not];intro g;rw[List.nodup_append]at b;exact b.2.2 x g x (AH ..) rfl
  rw[Y0 e,Y0 d,f];show cD a I (acc++[x])=_;rw[Ns a I q (acc++[x]) (by simpa using j) (λk l=>h (k+1) (by simpa using l)) (by rw[BX];exact b),BX];rfl
def ZT(L:O ab):(bj L).length=L.length:=by simp[bj]
def ZS{L:O ab}{j:Y}(h:j<L.length:=by omega):(bj L).getD j 0=(L.getD j aB).n:=by simp[bj,AI,h]
def Zl{n:Y}(h:1<=n):(aL n).Nodup:=by
 rw[fJ];exact(fP h).pw.imp λHC e=>by omega
def NV{L M:O ab}{w N:Y}{I:O Z}(b:1<=N)(A:mi L M w (aL N) I):cD (bj M) I []=GA (aL N):=by
 have:=Ns (bj M) I (aL N) [] A.len (λk a=>by
  obtain⟨e,d,c,_⟩:=A.at_ k a;exact⟨e,by rw[ZT];exact d,by rw[ZS];exact c⟩) (by rw[CV];exact Zl b)
 rwa [CV]at this
def P!{N:Y}(h:1<=N:=by omega):cA (N:Z) (aL N)=GA (N:Z):=by rw[fJ];exact Xe h
def u4(n:Y):nD GE (aA n)=GC:=oY (n:Z)
def IW(c:O Z){z:Z}(a:aw z.toNat)(h:z<65536:=by omega):cE c (bX z)=GC:=by
 have h1:=a.lt;have b:=Kk (z:=z);have d:(bX z).can=GC:=oY z;unfold cE;rw[d,b,Y0 (show 1<z by omega)];show(GC&&(GC&&(tS (bX z).n 0 0 (kx (bX z)))))=GC;rw[b,show kx (bX z)=GC from rfl];unfold tS;rw[Y0 h,Q6 a];rfl
def Cf{n:Y}(b:aw n){a:Z}(h:¬(n:Z) ∣ a):gcd a n=1:=gA (iY b) h
def P'(x n:Z):∀m:Y,(x%n)^m%n=x^m%n
 |0=>by rw[DI,DI]
 |m+1=>by rw[BE,BE,D8,P' x n m,C5 _ (EB n),<-D8]
def PT{n:Y}(a:aw n)(g:3<=n):∀q:O Z,(∀x∈q,HS n x/\aw x.toNat/\x.toNat ∣ n-1)->yU n (q.map λq=>(gO n q:Z)) q=GC
 |[],_=>rfl
 |x::r,h=>by
  obtain⟨B,b,d⟩:=h x (AH ..);have l:=b.lt;obtain⟨p,rfl⟩:∃p:Y,x=p:=⟨x.toNat,by omega⟩;rw[Z8]at b d l;obtain⟨k,e⟩:=d;have m:(((n:Z)-1)/(p:Z)).natAbs=k:=by
   rw[show(n:Z)-1=((n-1:Y):Z) by omega,<-BF,A1,e,AS _ (by omega)]
  have y:=B.yes;have h3:=B.lo;have h4:=B.hi;show((G (1<(gO n p:Z))&&G ((gO n p:Z)<=(n:Z)-1))&&((G (gcd (fY (gO n p:Z) (((n:Z)-1)/(p:Z)).natAbs n-1) n=1)&&G (fY (fY (gO n p:Z) (((n:Z)-1)/(p:Z)).natAbs n) (p:Z).natAbs n=1))&&yU n (r.map λq=>(gO n q:Z)) r))=GC;rw[m]at y⊢;have f:=j7 a;have j:¬(n:Z) ∣ (gO n p:Z):=iW (by omega) (by omega);have s:fY (fY (gO n p:Z) k n) (p:Z).natAbs n=1:=by
   rw[A1];have:fY (fY (gO n p:Z) k n) p n=fY (gO n p:Z) (n-1) n:=by
    unfold fY;rw[P',<-Int.pow_mul,AW,<-e]
   rw[this];exact(Mp a.lt _).2 (QZ (iY a) f j)
  have o:gcd (fY (gO n p:Z) k n-1) n=1:=by
   refine Cf a λd=>?_;have l1:0<=fY (gO n p:Z) k n:=BT _ (by omega);have l2:fY (gO n p:Z) k n<n:=BV _ (by omega);obtain⟨c,i⟩:=d;have t:c=0:=by
    rcases EV c 0 with w|w|w
    .have:(n:Z)*c<=n*(-1):=Z7;omega
    .exact w
    .have:(n:Z)*1<=n*c:=Z7;omega
   rw[t,CY]at i;exact y (by omega)
  rw[s,o,PT a g r λx b=>h x (AD _ b),Y0 (show 1<(gO n p:Z) by omega),Y0 (show(gO n p:Z)<=(n:Z)-1 by omega)];rfl
def P0{n:Y}(ho:n%2=1)(h:3<=n:=by omega):jS (n:Z) 2=GC:=Y0 ⟨by omega,by omega⟩
def abH{n w:Y}(b:aw n)(g:3<=n)(ej:n<1099511627776){L M:O ab}{I:O Z}(A:mi L M w (aL (n-1)) I):cE (bj M) (uX n I ((aL (n-1)).map λq=>(gO n q:Z)))=GC:=by
 have d:=j7 b;unfold cE;rw[so,show(uX n I ((aL (n-1)).map λq=>(gO n q:Z))).can=GC from u4 n,Y0 (show(1:Z)<n by omega),AV,AV];show(match cD (bj M) I []with|none=>GE|some q=>uW (uX n I ((aL (n-1)).map λq=>(gO n q:Z))).n ((aL (n-1)).map λq=>(gO n q:Z)) GC q)=GC;rw[NV (by omega) A,so];dsimp only;unfold uW;have h:(n:Z)-1=((n-1:Y):Z):=by omega
 rw[P0 d,h,P!];dsimp only;have c:(n:Z)<((n-1:Y):Z)*((n-1:Y):Z):=by
  rw[<-AM];have:=AR (show 2<=n-1 by omega) (Z0 (n-1));omega
 rw[Y0 c,Y0 (show((aL (n-1)).map λq=>(gO n q:Z)).length=(aL (n-1)).length from CW ..),PT b g _ λx a=>by
  have f:=(rO (by omega) d x a).1;rw[fJ]at a;obtain⟨p,rfl,h2,e,_⟩:=(fP (show 1<=n-1 by omega)).mem x a;exact⟨SA b (by omega) (by omega) f (by rw[Z8];exact e),f,by rw[Z8];exact e⟩]
 rfl
def yB{pr:O ab->Z->O ab}:∀(q:O Z) (L:O ab),(∀x∈q,∀L,eB [] L->eB [] (pr L x))->eB [] L->eB [] (pT pr L q)
 |[],_,_,h=>h
 |x::r,L,a,h=>yB r (pr L x) (λy b=>a y (AD _ b)) (a x (AH ..) L h)
def Nb{f n:Y}(d:aw n)(e:3<=n)(ej:n<1099511627776)(b:f<=20)(g:∀x∈aL (n-1),Fits f x){L:O ab}(a:∀x∈aL (n-1),∀L,eB [] L->eB [] (eK f L x))(h:eB [] L):eB [] (ke (eK f) L n) :=
 l5 (yB _ L a h) (abH d e ej (vW (eK f) (aL (n-1)) L λx c L=>pP f L x b (g x c)))
def qC:∀(f:Y) (L:O ab) (z:Z),f<=20->Fits f z->eB [] L->eB [] (eK f L z)
 |0,L,z,_,h,a=>l5 a (IW _ h.pr (by have:=h.lt;omega))
 |f+1,L,z,g,h,a=>by
  unfold eK;split
  .rename_i b;exact l5 a (IW _ h.pr b)
  .rename_i b;have i:=h.lt;have j:(65536*2^(f+1):Z)=((65536*2^(f+1):Y):Z):=by rw[AM,CB];rfl
   rw[j]at i;have h3:65536*2^(f+1)<=65536*2^20:=AY _ (A6 (by omega) g);have e:=j7 h.pr;have c:=wH (f:=f) (n:=z.toNat) (by omega) e (by omega);exact Nb h.pr (by omega) (by omega) (by omega) c (λx d L a=>qC f L x (by omega) (c x d) a) a
def P8{n:Y}(c:aw n){a b:Z}:∀q:O Z,(∀x∈q,¬(n:Z) ∣ qQ a b (((n:Z)+1)/x).natAbs n)->xP n a b q=GC
 |[],_=>rfl
 |x::r,h=>by
  show(G (gcd (qQ a b (((n:Z)+1)/x).natAbs n) n=1)&&xP n a b r)=GC;rw[P8 c r λy d=>h y (AD _ d),Cf c (h x (AH ..))];rfl
def ab6{n w P Q k:Y}(c:aw n)(h:5<=n)(i:L6 n P Q)(s:1+k%(n-1)=P)(r:(1+k/7)%n=Q){L M:O ab}{I:O Z}(A:mi L M w (aL (n+1)) I):cE (bj M) (fN n k I)=GC:=by
 have g:=j7 c;have d:(fN n k I).n=(n:Z):=so n I [];obtain⟨P1,P2,Q1,Q2,kr,whole,part⟩:=i;unfold cE;rw[d,show(fN n k I).can=GC from u4 n,Y0 (show(1:Z)<n by omega),AV,AV];show(match cD (bj M) I []with|none=>GE|some q=>vA (fN n k I).n [fx n k,fy n k] GC q)=GC;rw[NV (by omega) A,d];dsimp only;unfold vA;have f:(n:Z)+1=((n+1:Y):Z):=by omega
 rw[P0 g,f,P!];dsimp only;have a:(n:Z)<(((n+1:Y):Z)-1)*(((n+1:Y):Z)-1):=by
  have e:((n+1:Y):Z)-1=(n:Z):=by omega
  rw[e,<-AM];have:=AR h (Z0 n);omega
 have eP:fx n k=(P:Z):=by unfold fx;rw[s]
 have eQ:fy n k=(Q:Z):=by unfold fy;rw[r]
 rw[Y0 a,eP,eQ];show(GC&&(GC&&(GC&&s? n (aL (n+1)) [(P:Z),(Q:Z)])))=GC;have o:((n:Z)+1).natAbs=n+1:=by omega
 show(GC&&(GC&&(GC&&((G ((0:Z)<=P)&&G ((P:Z)<n))&&((G ((0:Z)<=Q)&&G ((Q:Z)<n))&&(G (gM ((P:Z)*P-4*Q) n= -1)&&(G (qQ P Q ((n:Z)+1).natAbs n=0)&&xP n P Q (aL (n+1)))))))))=GC;rw[o,whole,kr,Y0 (show(0:Z)<=P by omega),Y0 (show(P:Z)<n by omega),Y0 (show(0:Z)<=Q by omega),Y0 (show(Q:Z)<n by omega),P8 c _ λx b=>by
  rw[fJ]at b;obtain⟨p,rfl,l,j,_⟩:=(fP (show 1<=n+1 by omega)).mem x b;have m:(((n:Z)+1)/(p:Z)).natAbs=(n+1)/p:=by rw[f,<-BF,A1]
  rw[m];exact part p l j]
 rfl
def agV(f:Y)(h:fg AC 48 18 (vG f))(L M:O ab)(n m K:Y)(idx:O Z)(a:_)(A:a=(n:Z))(d:_)(z:d=(D M:Z))(o:_)(x:o=(aL (S (X GF (a +1)))))(p:_)(B:p=(jA f (aE (D L) (aF L 200)) o))(g:_)(w:g=(D idx))(e:_)(v:e=λ(ae:cn)=>(iL (cn.b ae) 200))(r:_)(u:r=λ(i:cn)=>(X GF (1+X GF (GO (cn.k i:Z) 7))))(c:_)(t:c=(bI idx))(s:_)(C:s=λ(ae:cn)=>(bh.rows 18 1 (aU [MV.st [MV.int GD (3:Z),MV.aa a 64,MV.sl 1 g c,MV.sl 2 (D (cn.b ae)) (e ae),MV.st [MV.aa 0 0,MV.aa 0 0,MV.aa 0 0],MV.st [MV.aa 0 0,MV.aa 0 0,MV.bool GE],MV.aa 0 0]])))(l:_)(y:l=λ(ae:cn)=>(D M+AK (s ae))):((0<= a/\a <18446744073709551616)/\(D L<=D L/\tc f (D L) (aF L 200) (X GF (a +1)))/\(∃i,yx m K i/\(0=0/\a = a/\0=0/\(m:Z)=(cn.k i:Z)/\E)/\((0=0/\D p =D M)/\E)/\(D p =D M+D (cn.ex i)/\ak (D p) (aF p 200) (aF (M++cn.ex i) 200))/\((3:Z)=3/\aD a a 64 64/\(1=1/\D o =D idx/\ak (D o) (bI (er f (aE (D L) (aF L 200)) o)) c)/\(AE GB 0 0=AE GB 0 0/\D (cn.b i)=0)/\(aD 0 0 0 0/\aD 0 0 0 0/\aD 0 0 0 0/\E)/\(aD 0 0 0 0/\aD 0 0 0 0/\GE=GE/\E)/\aD 0 0 0 0/\E)/\E)/\∀(i:cn),yx m K i->((X GF (a-1)=0->H)/\(0<=X GF (1+P (cn.k i:Z) (X GF (a-1)))/\X GF (1+P (cn.k i:Z) (X GF (a-1)))<18446744073709551616)/\((7:Z)=0->H)/\(a =0->H)/\(0<=P (r i) a/\P (r i) a <18446744073709551616)/\∃ae,HT n (cn.k i:Z) ae/\(0=0/\a = a/\0=0/\(cn.k i:Z)=(cn.k ae:Z)/\E)/\((0=0/\D M=D M)/\E)/\(D M+D (cn.ex i)=D M+D (cn.ex ae)/\ak (D M+D (cn.ex i)) (aF (M++cn.ex i) 200) (aF (M++cn.ex ae) 200))/\((3:Z)=3/\aD a a 64 64/\(1=1/\D idx=D idx/\ak g c c)/\(2=2/\2=D (cn.b ae)/\ak 2 (aU [MV.aa (X GF (1+P (cn.k i:Z) (X GF (a-1)))) 64,MV.aa (P (r i) a) 64]) (e ae))/\(aD 0 0 0 0/\aD 0 0 0 0/\aD 0 0 0 0/\E)/\(aD 0 0 0 0/\aD 0 0 0 0/\GE=GE/\E)/\aD 0 0 0 0/\E)/\E)/\∀(ae:cn),HT n (cn.k i:Z) ae->(D M<=D M+D (cn.ex ae)/\(l ae) *288<=140737488355328)/\(D M+AK (s ae) <=D M+1/\0<= d/\d <(↑ (l ae) :Z)/\(cw (l ae) λq=>bif AQ q (D M)then aF (M++cn.ex ae) 200 q else aU [MV.st [MV.int GD (3:Z),MV.aa a 64,MV.sl 1 g c,MV.sl 2 (D (cn.b ae)) (e ae),MV.st [MV.aa 0 0,MV.aa 0 0,MV.aa 0 0],MV.st [MV.aa 0 0,MV.aa 0 0,MV.bool GE],MV.aa 0 0]] (q-D M))/\fp (aE (l ae) λq=>bif AQ q (D M)then aF (M++cn.ex ae) 200 q else aU [MV.st [MV.int GD (3:Z),MV.aa a 64,MV.sl 1 g c,MV.sl 2 (D (cn.b ae)) (e ae),MV.st [MV.aa 0 0,MV.aa 0 0,MV.aa 0 0],MV.st [MV.aa 0 0,MV.aa 0 0,MV.bool GE],MV.aa 0 0]] (q-D M)) (S d))/\bif cE (bj (W (S d) (aE (l ae) λq=>bif AQ q (D M)then aF (M++cn.ex ae) 200 q else aU [MV.st [MV.int GD (3:Z),MV.aa a 64,MV.sl 1 g c,MV.sl 2 (D (cn.b ae)) (e ae),MV.st [MV.aa 0 0,MV.aa 0 0,MV.aa 0 0],MV.st [MV.aa 0 0,MV.aa 0 0,MV.bool GE],MV.aa 0 0]] (q-D M)))) (F (aE (l ae) λq=>bif AQ q (D M)then aF (M++cn.ex ae) 200 q else aU [MV.st [MV.int GD (3:Z),MV.aa a 64,MV.sl 1 g c,MV.sl 2 (D (cn.b ae)) (e ae),MV.st [MV.aa 0 0,MV.aa 0 0,MV.aa 0 0],MV.st [MV.aa 0 0,MV.aa 0 0,MV.bool GE],MV.aa 0 0]] (q-D M)) (S d) aB)then ((0=0/\D M+AK (s ae) =D (M++[fN n K idx]))/\E)/\(D (M++[fN n K idx])<=D M+1/\ak (D (M++[fN n K idx])) (λq=>bif AQ q (D M)then aF (M++cn.ex ae) 200 q else aU [MV.st [MV.int GD (3:Z),MV.aa a 64,MV.sl 1 g c,MV.sl 2 (D (cn.b ae)) (e ae),MV.st [MV.aa 0 0,MV.aa 0 0,MV.aa 0 0],MV.st [MV.aa 0 0,MV.aa 0 0,MV.bool GE],MV.aa 0 0]] (q-D M)) (aF (M++[fN n K idx]) 200))/\d = d else (0<= d/\d <=(↑ (l ae) :Z))/\∃j,yx m K j/\((0=0/\a = a/\0=0/\X GF ((cn.k ae:Z)+1)=(cn.k j:Z)/\E)/\((0=0/\S d =D M)/\E)/\(D M+1=D M+D (cn.ex j)/\ak (D M+1) (λq=>bif AQ q (D M)then aF (M++cn.ex ae) 200 q else aU [MV.st [MV.int GD (3:Z),MV.aa a 64,MV.sl 1 g c,MV.sl 2 (D (cn.b ae)) (e ae),MV.st [MV.aa 0 0,MV.aa 0 0,MV.aa 0 0],MV.st [MV.aa 0 0,MV.aa 0 0,MV.bool GE],MV.aa 0 0]] (q-D M)) (aF (M++cn.ex j) 200))/\((3:Z)=3/\aD a a 64 64/\(1=1/\D idx=D idx/\ak g c c)/\(2=2/\D (cn.b ae)=D (cn.b j)/\ak (D (cn.b ae)) (e ae) (iL (cn.b j) 200))/\(aD 0 0 0 0/\aD 0 0 0 0/\aD 0 0 0 0/\E)/\(aD 0 0 0 0/\aD 0 0 0 0/\GE=GE/\E)/\aD 0 0 0 0/\E)/\E)/\K+1-cn.k j<K+1-cn.k i)=nN (wz [mD,v7] [.pt (GV f h)] US (Qo n m K M idx) (Uw n M idx)) F4 18 [.int .u64 n,.int .u64 m] L.length (aF L 200) (M++[fN n K idx]).length (aF (M++[fN n K idx]) 200) (.int .i64 M.length):=by subst A z x B w v u t C y;kernel_rfl
def agA(f:Y)(h:fg AC 48 18 (vG f))(L M:GG ab)(n c K:Y)(idx:GG Z)(n3:3<=n)(B:n<1152921504606846976)(r:c<=K)(aqN:K<1152921504606846976)(y:e8 L)(G:∀x∈aL (n+1),Fits f x)(t:f<=20)(hl:L.length+2*fq (aL (n+1))<=900000)(P:M=jA f L (aL (n+1)))(i:idx=er f L (aL (n+1)))(A:mi L M (fq (aL (n+1))) (aL (n+1)) idx)(q:idx.length<=90)(H:fp M M.length)(hy:cE (bj M) (fN n K idx)=GC)(m:∀k,c<=k->k<K->cE (bj M) (fN n k idx)=GE) :
  ∃E:Env AC,nN E F4 18 [.int .u64 n,.int .u64 c] L.length (aF L 200) (M++[fN n K idx]).length (aF (M++[fN n K idx]) 200) (.int .i64 M.length):=by
 refine⟨wz [mD,v7] [.pt (GV f h)] US (Qo n c K M idx) (Uw n M idx),?_⟩;rw[<-agV f h L M n c K idx _ rfl _ rfl _ rfl _ rfl _ rfl _ rfl _ rfl _ rfl _ rfl _ rfl];have W:X GF ((n:Z)+1)=((n+1:Y):Z):=xS (a:=n+1);have V:X GF ((n:Z)-1)=((n-1:Y):Z):=by rw[show(n:Z)-1=((n-1:Y):Z) by omega];exact xS
 rw[W,V,Z8,j8];have Lc:=A.hi;have VU:e8 M:=⟨by omega,A.ok y.ok⟩;have p:(aL (n+1)).length=idx.length:=A.len.symm;rw[<-P,<-i,p];refine⟨by omega,⟨Z0 _,by omega,by omega,by rw[Z8];exact G,t,oE y,by rw[Z8];omega⟩,⟨⟨c, [], []⟩,⟨Z0 c,r⟩,⟨rfl,rfl,rfl,rfl,⟨⟩⟩,⟨⟨rfl,rfl⟩,⟨⟩⟩,⟨rfl,by
  grind [aF,AG]⟩,⟨rfl,cB,⟨rfl,rfl,AG⟩,⟨rfl,rfl⟩,⟨cB,cB,cB,⟨⟩⟩,⟨cB,cB,rfl,⟨⟩⟩,cB,⟨⟩⟩,⟨⟩⟩,λs I=>?_⟩
 obtain⟨k,ex,b⟩:=s;obtain⟨u,C⟩:=I;dsimp only at u C⊢;have U:X GF ((1:Z)+tmod (k:Z) ((n-1:Y):Z))=fx n k:=by
  rw[D1 (by omega),<-AO];exact xS (a:=1+k%(n-1)) (by have:=BB k (show 0<n-1 by omega);omega)
 have T:X GF (GO (k:Z) 7)=((k/7:Y):Z):=by
  rw[CF (by omega)];exact xS (a:=k/7)
 have S:X GF ((1:Z)+((k/7:Y):Z))=((1+k/7:Y):Z):=xS (a:=1+k/7);have R:tmod ((1+k/7:Y):Z) (n:Z)=fy n k:=by
  rfl
 rw[U,T,S,R];have O:0<=fx n k/\fx n k<18446744073709551616:=by
  unfold fx;have:=BB k (show 0<n-1 by omega);omega
 have N:0<=fy n k/\fy n k<18446744073709551616:=by
  unfold fy;have:=BB (1+k/7) (show 0<n by omega);omega
 refine⟨⟨by omega,O,by omega,by omega,N,⟨k,ex, [fx n k,fy n k]⟩,⟨rfl,rfl⟩,⟨rfl,rfl,rfl,rfl,⟨⟩⟩,⟨⟨rfl,rfl⟩,⟨⟩⟩,⟨rfl,AG⟩,⟨rfl,cB,⟨rfl,rfl,AG⟩,⟨rfl,rfl,ak.of_le λj l=>?_⟩,⟨cB,cB,cB,⟨⟩⟩,⟨cB,cB,rfl,⟨⟩⟩,cB,⟨⟩⟩,⟨⟩⟩,λF J=>?_⟩
 .match j,l with
  |0,_=>exact⟨rfl,.inl (by omega)⟩
  |1,_=>exact⟨rfl,.inl (by omega)⟩
 obtain⟨k',Hn,b'⟩:=F;obtain⟨D,v⟩:=J;dsimp only at D v⊢;have o:k'=k:=by omega
 subst o;subst v;have hv:isOk (rl n idx [fx n k',fy n k']):=akl (FI B (by decide)) q (show 2<=1000 by omega);have w:=agy n k' idx;have d:=It M Hn (rl n idx [fx n k',fy n k']);rw[w]at d;have e:=afw (ex:=Hn) VU hv;have g:=Je (M:=M) (ex:=Hn) hv.jn w;have z:AK (bh.rows 18 1 (aU [rl n idx [fx n k',fy n k']]))=1:=rfl;unfold ju rl at d e g;unfold rl at z;rw[z,Z8,d,zC M,List.take_left' rfl];have hlen:(M++[fN n k' idx]).length=M.length+1:=by simp
 refine⟨by omega,⟨by omega,by omega,by omega,e,?_⟩,?_⟩
 .exact⟨λj l=>by
   have:(M++[fN n k' idx]).getD j aB=M.getD j aB:=by rw[AI,AI,BO l]
   rw[this];exact H.h j l⟩
 by_cases arz:k'=K
 .simp_all
 .rw[m k' u (by omega),Z5];have Q:X GF ((k':Z)+1)=((k'+1:Y):Z):=xS (a:=k'+1);exact⟨by omega,⟨k'+1, [fN n k' idx], [fx n k',fy n k']⟩,⟨by show c<=k'+1;omega,by show k'+1<=K;omega⟩,⟨⟨rfl,rfl,rfl,Q,⟨⟩⟩,⟨⟨rfl,rfl⟩,⟨⟩⟩,⟨rfl,g⟩,⟨rfl,cB,⟨rfl,rfl,AG⟩,⟨rfl,rfl,AG⟩,⟨cB,cB,cB,⟨⟩⟩,⟨cB,cB,rfl,⟨⟩⟩,cB,⟨⟩⟩,⟨⟩⟩,by show K+1-(k'+1)<K+1-k';omega⟩
def acd{N:Y}(hN:2<=N)(he:N%2=0):∀x∈aL N,aw x.toNat/\2<=x/\2*x<=max 4 (N:Y):=λx a=>by
 have:=rO (n:=N+1) (by omega) (by omega) x (by rw[BJ];exact a)
 simp_all
def Ih{f N:Y}(c:2<=N)(b:N%2=0)(hf:N<65536*2^(f+1)):∀x∈aL N,Fits f x:=λx a=>by
 obtain⟨e,d,h3⟩:=acd c b x a;refine⟨e,d,?_⟩
 grind
def mw(n a:Y)(M:O ab)(idx:O Z):Y:=A0 (⟨e? (λk=>cE (bj M) (fN n k idx)) 1125899906842624 a,rfl⟩:∃r,r=e? (λk=>cE (bj M) (fN n k idx)) 1125899906842624 a)
def ab7(n a:Y)(M:O ab)(idx:O Z):mw n a M idx=e? (λk=>cE (bj M) (fN n k idx)) 1125899906842624 a:=AP (⟨e? (λk=>cE (bj M) (fN n k idx)) 1125899906842624 a,rfl⟩:∃r,r=e? (λk=>cE (bj M) (fN n k idx)) 1125899906842624 a)
def qq(f:Y)(L:O ab)(n a:Y):O ab:=jA f L (aL (n+1))++[fN n (mw n a (jA f L (aL (n+1))) (er f L (aL (n+1)))) (er f L (aL (n+1)))]
def qB(f:Y)(L:O ab)(n a:Y):O ab:=A0 (⟨qq f L n a,rfl⟩:∃r,r=qq f L n a)
def I1(f:Y)(L:O ab)(n a:Y):qB f L n a=qq f L n a:=AP (⟨qq f L n a,rfl⟩:∃r,r=qq f L n a)
structure LJ (f m:Nat) (g:Nat->MV) (n fr:Int):Prop where
 pr:aw n.toNat
 n5:5<=n
 n6:n<4194304
 lt:n.toNat+1<65536*2^(f+1)
 f0:0<=fr
 f6:fr<1099511627776
 f20:f<=20
 ok:cw m g
 ic:fp (aE m g) m
 len:m+2*AN (n.toNat+1)<=900000
def Fh(f:Y):O MV->Y->(Y->MV)->C (bq×Y×(Y->MV)×MV)
 |[.int .u64 n,.int .u64 a],m,g=>GA (GA (LJ f m g n a),(qB f (aE m g) n.toNat a.toNat).length,aF (qB f (aE m g) n.toNat a.toNat) 200,.int .i64 (((qB f (aE m g) n.toNat a.toNat).length:Z)-1))
 |_,_,_=>GB
def Of{f n:Y}(b:aw n)(h5:5<=n)(a:n+1<65536*2^(f+1))(f20:f<=20)(L:O ab):mi L (jA f L (aL (n+1))) (fq (aL (n+1))) (aL (n+1)) (er f L (aL (n+1))):=by
 have ho:=j7 b;have arh:=Ih (f:=f) (show 2<=n+1 by omega) (by omega) a
 grind [nX,yM,vW,eK,aL,pP]
structure Wh (n fr:Nat) (M:List ab) (idx:List Int):Prop where
 ge:fr<=mw n fr M idx
 le:mw n fr M idx<=fr+1125899906842624
 yes:cE (bj M) (fN n (mw n fr M idx) idx)=true
 no:∀k,fr<=k->k<mw n fr M idx->cE (bj M) (fN n k idx)=false
def Og{n w:Y}(d:aw n)(c:5<=n)(h6:n<4194304){L M:O ab}{I:O Z}(A:mi L M w (aL (n+1)) I)(b:Y):Wh n b M I:=by
 obtain⟨P,Q,a⟩:=Zi d c;obtain⟨k,l,k2,j,i⟩:=X0 c a.P1 a.P2 a.Q1 a.Q2 b;have m:=ab6 d c a j i A;have Vv:n*n<=4194304*4194304:=AR (by omega) (by omega);have h:=Fx (λk=>cE (bj M) (fN n k I)) 1125899906842624 b;have g:=Fa (λk=>cE (bj M) (fN n k I)) 1125899906842624 b;have f:=Dc (λk=>cE (bj M) (fN n k I)) 1125899906842624 b;have e:=vc (λk=>cE (bj M) (fN n k I)) 1125899906842624 b k l (by omega) m;rw[<-ab7]at h g f e;exact⟨h,g,e,f⟩
def NA{L:O ab}:fp L L.length↔∀s∈L,s.can=GC/\2<=s.n:=by
 constructor
 .intro h s b;obtain⟨j,a,rfl⟩:=B3.1 b;have:=h.h j a
  simp_all
 .intro h;refine⟨λj a=>?_⟩
  simp_all
def ab9(f:Y)(h:fg AC 48 18 (vG f)):fg AC 27 18 (Fh f):=oN bQ Tryz.func27 (Fh f) λms m g p n' g' v d q=>by
 unfold Fh at d;split at d
 .rename_i j f0;simp only[Z1,Z2]at d;obtain⟨rfl,rfl,rfl,rfl⟩:=d;have H:LJ f m g j f0:=q;obtain⟨n,rfl⟩:∃n:Y,j=n:=⟨j.toNat,by have:=H.n5;omega⟩;obtain⟨c,rfl⟩:∃n:Y,f0=n:=⟨f0.toNat,by have:=H.f0;omega⟩;obtain⟨pr,n5,n6,lt,f0,f6,i,ok,ic,len⟩:=H;rw[Z8]at *;rw[Z8]at *;have k:=dD m g;have b:fp (aE m g) (aE m g).length:=by rw[k];exact ic
  have ho:=j7 pr;have A:=Of pr (by omega) lt i (aE m g);have a:=Ih (f:=f) (show 2<=n+1 by omega) (by omega) lt;have o:=lY (show 1<=n+1 by omega);rw[<-fJ]at o;have hlen:=qP (aL (n+1)) λx l=>(a x l).two;have K0:AN (n+1)<40:=(EJ (by omega)).2 (by omega);have E:=Og pr (by omega) (by omega) A c;have hA:=A.len;have:=agA f h (aE m g) _ n c _ _ (by omega) (by omega) E.ge (by have:=E.le;omega) ok.T a i (by omega) rfl rfl A (by omega) (NA.2 (A.ic (NA.1 b))) E.yes E.no;have e:qB f (aE m g) n c=jA f (aE m g) (aL (n+1))++[fN n (mw n c (jA f (aE m g) (aL (n+1))) (er f (aE m g) (aL (n+1)))) (er f (aE m g) (aL (n+1)))]:=I1 f (aE m g) n c;rw[<-e,k]at this;have r:((jA f (aE m g) (aL (n+1))).length:Z)=((qB f (aE m g) n c).length:Z)-1:=by rw[e];simp
  rw[r]at this;exact⟨aF (aE m g) 200,jW ok.jn,this⟩
 .simp at d
def aiy(f:Y):j2 AC:=⟨27,18,Fh f,λargs w=>Tryz.call27 args w,ab9 f (Jb f (xA f))⟩
def XP{a d x:Z}(b:gcd d a=1)(h:a ∣ x*d):a ∣ x :=
 uG (by rw[D9];exact b) (by rwa [BK]at h)
def M5{A m d c b a:Z}(hm:1<m)(h:gcd (qG d c b a) m=1):m ∣ fO A m d c b a*qG d c b a-ga A d c b a:=by
 obtain⟨_,_,f⟩:=H4 (by omega) h;have g:m ∣ fO A m d c b a-ga A d c b a*bS (qG d c b a) m:=jT _ _;have e:fO A m d c b a*qG d c b a-ga A d c b a=qG d c b a*(fO A m d c b a-ga A d c b a*bS (qG d c b a) m)+ga A d c b a*(bS (qG d c b a) m*qG d c b a-1):=by grind
 rw[e];exact kg g f
def amc{p B s A b d a c:Z}(h:p ∣ s*(a-b)-(c-d))(g:p ∣ d*d-(b*b*b+A*b+B))(f:p ∣ c*c-(a*a*a+A*a+B)):p ∣ (s*(d+c)-(b*b+b*a+a*a+A))*(a-b):=by
 have e:(s*(d+c)-(b*b+b*a+a*a+A))*(a-b)=(d+c)*(s*(a-b)-(c-d))+(-1)*(d*d-(b*b*b+A*b+B))+(1)*(c*c-(a*a*a+A*a+B)):=by grind
 rw[e];exact AB (AB (AA h) (AA g)) (AA f)
def Jc{p i h g A d s2 c a b f:Z}(n:p ∣ i-(d*d-c-a))(m:p ∣ d*(a-c)-(f-h))(l:p ∣ s2*(b-a)-(g-f))(k:p ∣ d*(h+f)-(c*c+c*a+a*a+A))(j:p ∣ s2*(f+g)-(a*a+a*b+b*b+A)):p ∣ (s2-d)*(d*(b-c)+h+g)-(b-c)*(b-i):=by
 have e:(s2-d)*(d*(b-c)+h+g)-(b-c)*(b-i)=(-c+b)*(i-(d*d-c-a))+(s2)*(d*(a-c)-(f-h))+(d)*(s2*(b-a)-(g-f))+(-1)*(d*(h+f)-(c*c+c*a+a*a+A))+(1)*(s2*(f+g)-(a*a+a*b+b*b+A)):=by grind
 rw[e];exact AB (AB (AB (AB (AA n) (AA m)) (AA l)) (AA k)) (AA j)
def Uf{p b c f g h d a:Z}(h1:p ∣ b-(a*(h-f)-d))(h2:p ∣ a*(g-h)+d+c)(h3:p ∣ g-f):p ∣ c-b:=by
 have e:c-b=(-1)*(b-(a*(h-f)-d))+(1)*(a*(g-h)+d+c)+(-a)*(g-f):=by grind
 simp_all [AB,AA]
def ahK{p a g f h c b d s2:Z}(h1:p ∣ d*(b-h)+g+a)(h2:p ∣ d*(c-h)-(f-g))(h3:p ∣ s2*(b-c)-(a-f)):p ∣ (s2-d)*(b-c)-2*a:=by
 have e:(s2-d)*(b-c)-2*a=(-1)*(d*(b-h)+g+a)+(1)*(d*(c-h)-(f-g))+(1)*(s2*(b-c)-(a-f)):=by grind
 simp_all [AB]
def akJ{p b a c d s2:Z}(h:p ∣ s2*(c-d)-(a-b))(g:p ∣ c-d)(f:p ∣ a):p ∣ b+a:=by
 have e:b+a=(1)*(s2*(c-d)-(a-b))+(-s2)*(c-d)+(2)*(a):=by grind
 rw[e];exact AB (AB (AA h) (AA g)) (AA f)
def ahJ{p f k g i A h j b c d a s2:Z}(t:p ∣ b-f)(s:p ∣ g-k)(r:p ∣ a*(b-c)+i+g)(q:p ∣ a*(d-c)-(h-i))(o:p ∣ a*(i+h)-(c*c+c*d+d*d+A))(n:p ∣ f-(a*a-c-d))(m:p ∣ s2*(b-d)-(g-h))(l:p ∣ j*(k+g)-(f*f+f*b+b*b+A)):p ∣ (2*g)*((s2-a)*(a+j)-(b-c)):=by
 have e:(2*g)*((s2-a)*(a+j)-(b-c))=(a*c+a*b+a*f-s2*c-2*s2*d+s2*b-s2*f+2*h)*(b-f)+(-a*j+s2*j)*(g-k)+(-(a*a)+2*a*s2-d-2*b)*(a*(b-c)+i+g)+(-a*s2+d+2*b)*(a*(d-c)-(h-i))+(a-s2)*(a*(i+h)-(c*c+c*d+d*d+A))+(a*c-a*b-s2*c-2*s2*d+3*s2*b+2*h)*(f-(a*a-c-d))+((a*a)-2*c-d)*(s2*(b-d)-(g-h))+(-a+s2)*(j*(k+g)-(f*f+f*b+b*b+A)):=by grind
 rw[e];exact AB (AB (AB (AB (AB (AB (AB (AA t) (AA s)) (AA r)) (AA q)) (AA o)) (AA n)) (AA m)) (AA l)
def ahH{p g f c a d h i b s2:Z}(l:p ∣ i*(a-c)-(g-f))(k:p ∣ f-(b*(d-c)-h))(j:p ∣ (s2-b)*(b*(a-d)+h+g)-(a-d)*(a-c)):p ∣ (a-c)*((s2-b)*(b+i)-(a-d)):=by
 have e:(a-c)*((s2-b)*(b+i)-(a-d))=(-b+s2)*(i*(a-c)-(g-f))+(b-s2)*(f-(b*(d-c)-h))+(1)*((s2-b)*(b*(a-d)+h+g)-(a-d)*(a-c)):=by grind
 rw[e];exact AB (AB (AA l) (AA k)) (AA j)
def ahI{p b c a s2 f d:Z}(h1:p ∣ (s2-a)*(a+f)-(b-c))(h2:p ∣ (a-s2)*(s2+d)-(c-b)):p ∣ (s2-a)*(a+f-s2-d):=by
 have e:(s2-a)*(a+f-s2-d)=(1)*((s2-a)*(a+f)-(b-c))+(1)*((a-s2)*(s2+d)-(c-b)):=by grind
 simp_all [AB]
def ama{p X h g b d f i a s2 c:Z}(n:p ∣ X-(b*b-h-d))(m:p ∣ h-(a*a-f-i))(l:p ∣ g-(s2*s2-i-d))(k:p ∣ a+b-s2-c)(j:p ∣ (s2-a)*(a+b)-(d-f)):p ∣ X-(c*c-g-f):=by
 have e:X-(c*c-g-f)=(1)*(X-(b*b-h-d))+(-1)*(h-(a*a-f-i))+(1)*(g-(s2*s2-i-d))+(a-s2+b+c)*(a+b-s2-c)+(2)*((s2-a)*(a+b)-(d-f)):=by grind
 rw[e];exact AB (AB (AB (AB (AA n) (AA m)) (AA l)) (AA k)) (AA j)
def amb{p Y X k j f i m b h l d c a s2 g:Z}(w:p ∣ Y-(b*(f-X)-k))(v:p ∣ X-(b*b-f-h))(u:p ∣ k-(a*(d-f)-m))(t:p ∣ j-(s2*(c-i)-l))(s:p ∣ f-(a*a-d-c))(r:p ∣ i-(s2*s2-c-h))(q:p ∣ a*(c-d)-(l-m))(o:p ∣ a+b-s2-g)(n:p ∣ (s2-a)*(a+b)-(h-d)):p ∣ Y-(g*(i-X)-j):=by
 have e:Y-(g*(i-X)-j)=(1)*(Y-(b*(f-X)-k))+(-b+g)*(X-(b*b-f-h))+(-1)*(k-(a*(d-f)-m))+(1)*(j-(s2*(c-i)-l))+(a+2*b-g)*(f-(a*a-d-c))+(-s2-g)*(i-(s2*s2-c-h))+(1)*(a*(c-d)-(l-m))+(2*(a*a)-a*s2+a*b+(s2*s2)-s2*b-(b*b)-2*d-2*c+h)*(a+b-s2-g)+(a-2*s2-g)*((s2-a)*(a+b)-(h-d)):=by grind
 rw[e];exact AB (AB (AB (AB (AB (AB (AB (AB (AA w) (AA v)) (AA u)) (AA t)) (AA s)) (AA r)) (AA q)) (AA o)) (AA n)
def ahL{p f c h s2 b g a d:Z}(l:p ∣ h*(a-b)-(d-f))(k:p ∣ s2*(g-a)-(c-d))(j:p ∣ h-s2)(i:p ∣ b-g):p ∣ f-c:=by
 have e:f-c=(1)*(h*(a-b)-(d-f))+(1)*(s2*(g-a)-(c-d))+(b-a)*(h-s2)+(s2)*(b-g):=by grind
 rw[e];exact AB (AB (AB (AA l) (AA k)) (AA j)) (AA i)
def Us{p c a d b s2 g f:Z}(i:p ∣ (s2-b)*(b*(a-c)+g+f)-(a-c)*(a-d))(h:p ∣ b-s2):p ∣ (a-c)*(a-d):=by
 have e:(a-c)*(a-d)=(-1)*((s2-b)*(b*(a-c)+g+f)-(a-c)*(a-d))+(b*c-b*a-g-f)*(b-s2):=by grind
 rw[e];exact AB (AA i) (AA h)
def Sy{p d h f a s2 b i j c g:Z}(o:p ∣ d-(a*(j-b)-h))(n:p ∣ a*(c-j)-(g-h))(m:p ∣ s2*(i-c)-(f-g))(l:p ∣ a-s2)(k:p ∣ i-b):p ∣ d+f:=by
 have e:d+f=(1)*(d-(a*(j-b)-h))+(-1)*(a*(c-j)-(g-h))+(-1)*(s2*(i-c)-(f-g))+(c-b)*(a-s2)+(s2)*(i-b):=by grind
 rw[e];exact AB (AB (AB (AB (AA o) (AA n)) (AA m)) (AA l)) (AA k)
def adr{p A d f c a b s2:Z}(k:p ∣ s2*(c+d)-(a*a+a*b+b*b+A))(j:p ∣ s2*(b-a)-(d-c))(i:p ∣ a-f)(h:p ∣ f-(s2*s2-a-b))(g:p ∣ c):p ∣ 3*(a*a)+A:=by
 have e:3*(a*a)+A=(-1)*(s2*(c+d)-(a*a+a*b+b*b+A))+(-s2)*(s2*(b-a)-(d-c))+(a-b)*(a-f)+(a-b)*(f-(s2*s2-a-b))+(2*s2)*(c):=by grind
 rw[e];exact AB (AB (AB (AB (AA k) (AA j)) (AA i)) (AA h)) (AA g)
def adq{p B A b a:Z}(f:p ∣ b*b-(a*a*a+A*a+B))(d:p ∣ 3*(a*a)+A)(c:p ∣ b):p ∣ 4*(A*(A*A))+27*(B*B):=by
 have e:4*(A*(A*A))+27*(B*B)=(27*A*a-27*B+27*(a*a*a)-27*(b*b))*(b*b-(a*a*a+A*a+B))+(4*(A*A)+15*A*(a*a)+9*(a*a*a*a)-54*a*(b*b))*(3*(a*a)+A)+(108*(a*a*a)*b+27*(b*b*b))*(b):=by grind
 rw[e];exact AB (AB (AA f) (AA d)) (AA c)
def akF{p a g c d f b s2:Z}(j:p ∣ a-(s2*(f-d)-b))(i:p ∣ g-f)(h:p ∣ c+b):p ∣ (-s2)*(d-g)-(a-c):=by
 have e:(-s2)*(d-g)-(a-c)=(-1)*(a-(s2*(f-d)-b))+(s2)*(g-f)+(1)*(c+b):=by grind
 rw[e];exact AB (AB (AA j) (AA i)) (AA h)
def akG{p g d i A h b a c f s2:Z}(o:p ∣ g-(s2*(a-b)-f))(n:p ∣ d-a)(m:p ∣ i+f)(l:p ∣ s2*(f+h)-(a*a+a*c+c*c+A))(k:p ∣ s2*(c-a)-(h-f))(j:p ∣ b-(s2*s2-a-c)):p ∣ (-s2)*(i+g)-(d*d+d*b+b*b+A):=by
 have e:(-s2)*(i+g)-(d*d+d*b+b*b+A)=(-s2)*(g-(s2*(a-b)-f))+(-d-a-b)*(d-a)+(-s2)*(i+f)+(1)*(s2*(f+h)-(a*a+a*c+c*c+A))+(s2)*(s2*(c-a)-(h-f))+(c-b)*(b-(s2*s2-a-c)):=by grind
 rw[e];exact AB (AB (AB (AB (AB (AA o) (AA n)) (AA m)) (AA l)) (AA k)) (AA j)
def akD{p b d a c s2:Z}(h1:p ∣ d-c)(h2:p ∣ a-(s2*s2-c-b)):p ∣ b-((-s2)*(-s2)-d-a):=by
 have e:b-((-s2)*(-s2)-d-a)=(1)*(d-c)+(1)*(a-(s2*s2-c-b)):=by grind
 simp_all [AB]
def akE{p a g c f b d s2:Z}(j:p ∣ g-f)(i:p ∣ c+b)(h:p ∣ s2*(d-f)-(a-b)):p ∣ a-((-s2)*(g-d)-c):=by
 have e:a-((-s2)*(g-d)-c)=(s2)*(g-f)+(1)*(c+b)+(-1)*(s2*(d-f)-(a-b)):=by grind
 rw[e];exact AB (AB (AA j) (AA i)) (AA h)
def Ud{p X b a s:Z}(h1:p ∣ X-(s*s-b-a)):p ∣ X-(s*s-a-b):=by
 grind
def Ue{p Y X d b c a s:Z}(h1:p ∣ Y-(s*(d-X)-b))(h2:p ∣ s*(c-d)-(a-b)):p ∣ Y-(s*(c-X)-a):=by
 have e:Y-(s*(c-X)-a)=(1)*(Y-(s*(d-X)-b))+(-1)*(s*(c-d)-(a-b)):=by grind
 simp_all [AB]
def akH{p d c b a s:Z}(h1:p ∣ s*(c-d)-(a-b)):p ∣ s*(d-c)-(b-a):=by
 have e:s*(d-c)-(b-a)=(-1)*(s*(c-d)-(a-b)):=by grind
 simp_all
def akI{p b a d c s A:Z}(h1:p ∣ s*(d+c)-(b*b+b*a+a*a+A)):p ∣ s*(c+d)-(a*a+a*b+b*b+A):=by
 grind
def akC{p b c d g f a s2:Z}(l:p ∣ b-(s2*(f-d)-a))(k:p ∣ g-d)(j:p ∣ c+b)(i:p ∣ g-f)(h:p ∣ c+a):p ∣ 2*a:=by
 have e:2*a=(1)*(b-(s2*(f-d)-a))+(s2)*(g-d)+(-1)*(c+b)+(-s2)*(g-f)+(1)*(c+a):=by grind
 rw[e];exact AB (AB (AB (AB (AA l) (AA k)) (AA j)) (AA i)) (AA h)
def akK{p s t b a d c:Z}(h1:p ∣ s*(a-b)-(c-d))(h2:p ∣ t*(a-b)-(c-d)):p ∣ (s-t)*(a-b):=by
 have e:(s-t)*(a-b)=(1)*(s*(a-b)-(c-d))+(-1)*(t*(a-b)-(c-d)):=by grind
 simp_all [AB]
def alT{p s t b a d c A:Z}(h1:p ∣ s*(d+c)-(b*b+b*a+a*a+A))(h2:p ∣ t*(d+c)-(b*b+b*a+a*a+A)):p ∣ (s-t)*(d+c):=by
 have e:(s-t)*(d+c)=(1)*(s*(d+c)-(b*b+b*a+a*a+A))+(-1)*(t*(d+c)-(b*b+b*a+a*a+A)):=by grind
 simp_all [AB]
structure gz (p:Int):Prop where
 pos:3<p
 rj:p%2≠0
 gc:∀a:Int,¬p ∣ a->gcd a p=1
def gz.pr{p a b:Z}(h:gz p)(c:p ∣ a*b)(d:¬p ∣ a):p ∣ b:=XP (h.gc a d) (by rwa [BK]at c)
def gz.two{p a:Z}(h:gz p)(b:p ∣ 2*a):p ∣ a:=h.pr b (λe=>by have:=DA (by omega) e;have:=h.pos;omega)
def iD{p a b:Z}(h:p ∣ a-b):p ∣ b-a:=by rw[<-Int.neg_sub];exact Int.dvd_neg.2 h
def nI{p a b:Z}(a0:0<=a)(a1:a<p)(b0:0<=b)(b1:b<p)(h:p ∣ a-b):a=b:=by
 have:=kL.2 h
 simp_all [A3]
def Tv{p a e:Z}(a0:0<=a)(a1:a<p)(h:p ∣ a-e):e%p=a:=by
 have:=kL.2 h
 simp_all [A3]
structure Ln (A p x1 y1 x2 y2 s:Int):Prop where
 c:p ∣ s*(x2-x1)-(y2-y1)
 t:p ∣ s*(y1+y2)-(x1*x1+x1*x2+x2*x2+A)
def Ln.symm{A p e b d a s:Z}(h:Ln A p e b d a s):Ln A p d a e b s:=⟨akH h.c,akI h.t⟩
def gu(p d b c a:Z):Prop:=p ∣ d-c/\p ∣ b+a
def gu.symm{p d b c a:Z}(h:gu p d b c a):gu p c a d b:=⟨iD h.1,by rw[FO];exact h.2⟩
def Ln.uniq{A p g b d a s t:Z}(j:gz p)(i:¬gu p g b d a)(h:Ln A p g b d a s)(h':Ln A p g b d a t):p ∣ s-t:=by
 by_cases e:p ∣ d-g
 .have n:¬p ∣ b+a:=λf=>i ⟨iD e,f⟩;exact j.pr (by rw[BK];exact alT h.t h'.t) n
 .exact j.pr (by rw[BK];exact akK h.c h'.c) e
def OZ{A B p a c d b:Z}(h:gz p)(m:gr A B p a c)(l:gr A B p d b)(o:¬gu p a c d b) :
  gcd (qG a c d b) p=1/\Ln A p a c d b (fO A p a c d b):=by
 have Vs:=h.pos;by_cases e:a=d
 .have k:qG a c d b=c+b:=by unfold qG;rw[Y0 e];rfl
  have n:ga A a c d b=3*(a*a)+A:=by unfold ga;rw[Y0 e];rfl
  have i:¬p ∣ c+b:=λf=>o ⟨by rw[e,D7];exact EA _,f⟩;have j:gcd (qG a c d b) p=1:=by rw[k];exact h.gc _ i
  have g:=M5 (A:=A) (by omega) j;rw[k,n]at g;subst e;refine⟨j,?_,?_⟩
  .have q:p ∣ (c+b)*(c-b):=by
    have:(c+b)*(c-b)=(c*c-(a*a*a+A*a+B))-(b*b-(a*a*a+A*a+B)):=by grind
    rw[this];exact B9 m.eq l.eq
   have:=h.pr q i
   grind
  grind
 .have k:qG a c d b=d-a:=by unfold qG;rw[Y1 e];rfl
  have n:ga A a c d b=b-c:=by unfold ga;rw[Y1 e];rfl
  have i:¬p ∣ d-a:=λf=>e (nI m.x0 m.x1 l.x0 l.x1 (iD f));have j:gcd (qG a c d b) p=1:=by rw[k];exact h.gc _ i
  have g:=M5 (A:=A) (by omega) j;rw[k,n]at g;exact⟨j,g,h.pr (by rw[BK];exact amc g m.eq l.eq) i⟩
def Dj{A B p a c b d s X Y:Z}(i:gz p)(t:gr A B p a c)(r:gr A B p b d)(f:¬gu p a c b d)(o:Ln A p a c b d s)(m:0<=X)(l:X<p)(k:0<=Y)(j:Y<p)(hX:p ∣ X-(s*s-a-b))(anZ:p ∣ Y-(s*(a-X)-c)):aQ A p a c GE b d GE= .pt X Y GE:=by
 obtain⟨q,g⟩:=OZ i t r f;have hu:=Ln.uniq i f o g;have n:oF p a c b d=GE:=by
  cases h:oF p a c b d with
  |false=>rfl
  |true =>
   unfold oF at h;rw[Z3,Z4,Z4]at h;exact(f ⟨by rw[h.1,D7];exact EA _,A7 h.2⟩).elim
 have eX:nL A p a c b d=X:=by
  unfold nL;refine Tv m l ?_;have e:X-(fO A p a c b d*fO A p a c b d-(a+b))=(X-(s*s-a-b))+(s+fO A p a c b d)*(s-fO A p a c b d):=by grind
  simp_all [AB,AA]
 have eY:vR A p a c b d=Y:=by
  unfold vR;rw[eX];refine Tv k j ?_;have e:Y-(fO A p a c b d*(a-X)-c)=(Y-(s*(a-X)-c))+(a-X)*(s-fO A p a c b d):=by grind
  simp_all [AB,AA]
 unfold aQ;rw[Z5,Z5,n,Z5,Y0 q,Z6,eX,eY]
def rV{A p d c b a:Z}(hx:d=b)(h:p ∣ c+a):aQ A p d c GE b a GE= .pt 0 0 GC:=by
 grind [aQ,oF,AT]
def yD{A B p a c b d:Z}(g:gz p)(l:cS A B p=GC)(i:gr A B p a c)(h:gr A B p b d)(f:¬gu p a c b d) :
  ∃s X Y,Ln A p a c b d s/\gr A B p X Y/\p ∣ X-(s*s-a-b)/\p ∣ Y-(s*(a-X)-c)/\aQ A p a c GE b d GE= .pt X Y GE:=by
 have Vs:=g.pos;obtain⟨hg,j⟩:=OZ g i h f;have d1:p ∣ nL A p a c b d-(fO A p a c b d*fO A p a c b d-a-b):=by
  grind [nL,Int.sub_sub,jT]
 have d2:p ∣ vR A p a c b d-(fO A p a c b d*(a-nL A p a c b d)-c):=by
  unfold vR;exact jT _ _
 have e:=Dj g i h f j (BT _ (by omega)) (BV _ (by omega)) (BT _ (by omega)) (BV _ (by omega)) d1 d2;have k:=aaa (pL.2 ⟨l,i⟩) (pL.2 ⟨l,h⟩);rw[e]at k;exact⟨_,_,_,j,(pL.1 k).2,d1,d2,e⟩
def w!{A p j s q r a d i l g s2:Z}(k:gz p)(n:Ln A p j s q r g)(m:Ln A p q r a d s2)(w:¬gu p q r a d)(y:p ∣ i-(g*g-j-q))(v:p ∣ l-(g*(j-i)-s))(E:¬p ∣ g-s2) :
  ¬gu p i l a d/\∀u,Ln A p i l a d u->p ∣ (s2-g)*(g+u)-(a-j):=by
 have H:=Jc y n.c m.c n.t m.t;have o:¬p ∣ s2-g:=λh=>E (iD h);have G:p ∣ a-i->p ∣ g*(a-j)+s+d:=λe=>by
  have:=AB H (AA (b:=a-j) e);rw[DC]at this;exact k.pr this o
 have F:p ∣ a-i->¬p ∣ d:=λe z=>by
  have C:=AB (ahK (G e) n.c m.c) (AA (b:=2) z);rw[DC]at C;have B:=k.pr C o;exact w ⟨iD B,akJ m.c B z⟩
 constructor
 .rintro⟨e,f⟩
  have e':=iD e;have D:=AB (Uf v (G e') e') f;rw[show d-l+(l+d)=2*d by omega]at D;exact F e' (k.two D)
 .intro u x;by_cases e:p ∣ a-i
  .exact k.pr (ahJ e (Uf v (G e) e) (G e) n.c n.t y m.c x.t) (λh=>F e (k.two h))
  .exact k.pr (ahH x.c v H) e
theorem Ip{A B p d g b f:Z}(k:gz p)(m:cS A B p=GC)(j:gr A B p d g)(i:gr A B p b f):aQ A p d g GE b f GE=aQ A p b f GE d g GE:=by
 by_cases a:gu p d g b f
 .have e:d=b:=nI j.x0 j.x1 i.x0 i.x1 a.1;rw[rV e a.2,rV e.symm a.symm.2]
 .obtain⟨s,X,Y,l,o,dX,dY,e⟩:=yD k m j i a;rw[e,Dj k i j (λh=>a h.symm) l.symm o.x0 o.x1 o.y0 o.y1 (Ud dX) (Ue dY l.c)]
def YV{A B p g l n m f k:Z}(a:gz p)(q:cS A B p=GC)(e:gr A B p g l)(F:gr A B p n m)(i:gr A B p f k)(u:¬gu p g l n m)(s:¬gu p n m f k) :
  gC A p (aQ A p g l GE n m GE) (.pt f k GE)=gC A p (.pt g l GE) (aQ A p n m GE f k GE):=by
 obtain⟨C,L,J,d,y,X4,Y4,T⟩:=yD a q e F u;obtain⟨s2,K,I,b,o,X5,Y5,S⟩:=yD a q F i s;have L?:=Ud X5;have L!:=Ue Y5 b.c;rw[T,S];show aQ A p L J GE f k GE=aQ A p g l GE K I GE;by_cases j:p ∣ C-s2
 .by_cases w:g=f
  .subst w;have hy:l=k:=nI e.y0 e.y1 i.y0 i.y1 (ahL d.c b.c j (by rw[D7];exact EA _))
   grind [Ip]
  .have r:¬p ∣ f-g:=λh=>w (nI e.x0 e.x1 i.x0 i.x1 (iD h));have z:¬p ∣ g-f:=λh=>r (iD h);have H:=a.pr (Us (Jc X4 d.c b.c d.t b.t) j) r;have G:=a.pr (Us (Jc L? b.symm.c d.symm.c b.symm.t d.symm.t) (iD j)) z;have b1:=Sy Y4 d.c b.c j H;have U:=Sy L! b.symm.c d.symm.c (iD j) G;rw[rV (nI y.x0 y.x1 i.x0 i.x1 (iD H)) b1,rV (nI e.x0 e.x1 o.x0 o.x1 G) (by rw[FO];exact U)]
 .have v:¬p ∣ s2-C:=λh=>j (iD h);obtain⟨aps,Q⟩:=w! a d b s X4 Y4 j;obtain⟨nV,P⟩:=w! a b.symm d.symm (λh=>u h.symm) L? L! v;obtain⟨N,X,Y,O,x,dX,dY,R⟩:=yD a q y i aps;obtain⟨M,_,_,D,_,_,_,_⟩:=yD a q o e nV;have K1:=Q N O;have E:=a.pr (ahI K1 (P M D)) v;rw[R,Ip a q e o];exact(Dj a o e nV D x.x0 x.x1 x.y0 x.y1 (ama dX X4 X5 E K1) (amb dY dX Y4 Y5 X4 X5 d.c E K1)).symm
def S8{A B p i h g o l k:Z}(r:gz p)(C:cS A B p=GC)(y:¬p ∣ 4*(A*(A*A))+27*(B*B))(n:gr A B p i h)(j:gr A B p g o)(e:gr A B p l k)(d:gu p i h g o) :
  gC A p (.pt i h GE) (aQ A p g o GE l k GE)= .pt l k GE:=by
 by_cases f:gu p g o l k
 .have ex:g=l:=nI j.x0 j.x1 e.x0 e.x1 f.1;rw[rV ex f.2];have u:i=g:=nI n.x0 n.x1 j.x0 j.x1 d.1;have D:h=k:=nI n.y0 n.y1 e.y0 e.y1 (by
   have:=B9 d.2 f.2
   grind)
  subst ex;subst u;subst D;rfl
 .obtain⟨s2,q,v,m,x,X5,Y5,E⟩:=yD r C j e f;rw[E];show aQ A p i h GE q v GE=_;have s:¬gu p i h q v:=by
   rintro⟨a,b⟩
   have w:=r.two (akC Y5 a b d.1 d.2);have z:p ∣ g-q:=by
    have:=B9 a d.1
    grind
   exact y (adq j.eq (adr m.t m.c z X5 w) w)
  exact Dj r n x s ⟨akF Y5 d.1 d.2,akG Y5 d.1 d.2 m.t m.c X5⟩ e.x0 e.x1 e.y0 e.y1 (akD d.1 X5) (akE d.1 d.2 m.c)
section
structure Gp {T:Type} (on:T->Prop) (add:T->T->T) (z:T) (ng:T->T):Prop where
 x!:on z
 rk:∀ {a b},on a->on b->on (add a b)
 x?:∀ {a},on a->on (ng a)
 xh:∀ {a},on a->add a z=a
 comm:∀ {a b},on a->on b->add a b=add b a
 assoc:∀ {a b c},on a->on b->on c->add (add a b) c=add a (add b c)
 inv:∀ {a},on a->add a (ng a)=z
section
variable {T:Type} {on:T->Prop} {add:T->T->T} {z:T} {ng:T->T}
def yZ(add:T->T->T)(z:T):Y->T->T
 |0,_=>z
 |n+1,p=>add (yZ add z n p) p
def Gp.Wb(g:Gp on add z ng){a:T}(h:on a):add z a=a:=by rw[g.comm g.x! h,g.xh h]
def Gp.ue(g:Gp on add z ng){p:T}(h:on p):∀n,on (yZ add z n p)
 |0=>g.x!
 |n+1=>g.rk (g.ue h n) h
def Gp.smul_add(g:Gp on add z ng){p:T}(h:on p)(m:Y):∀n,yZ add z (m+n) p=add (yZ add z m p) (yZ add z n p)
 |0=>(g.xh (g.ue h m)).symm
 |n+1=>by
  show add (yZ add z (m+n) p) p=add (yZ add z m p) (add (yZ add z n p) p);rw[g.smul_add h m n,g.assoc (g.ue h m) (g.ue h n) h]
end
end
section
def TR.on(A B p:Z):TR->Prop
 |.pt X Y o=>nR A B p X Y o=GC
 |.dv _=>H
def TR.ng(p:Z):TR->TR
 |.pt X Y o=>.pt X (lh p Y o) o
 |.dv d=>.dv d
def TR.ky{A B p:Z}{a:TR}(h:a.on A B p):a= .pt 0 0 GC\/∃X Y,a= .pt X Y GE/\gr A B p X Y:=by
 cases a with
 |dv d=>exact h.elim
 |pt X Y o =>
  cases o with
  |true =>
   obtain⟨_,c,b⟩:=J2.1 h;subst c;subst b;exact .inl rfl
  |false=>exact .inr ⟨X,Y,rfl,(pL.1 h).2⟩
section
variable {A B p:Int}
def Df(a:cS A B p=GC):(TR.pt 0 0 GC).on A B p:=J2.2 ⟨a,rfl,rfl⟩
def Sx(a:cS A B p=GC){X Y:Z}(h:gr A B p X Y):(TR.pt X Y GE).on A B p:=pL.2 ⟨a,h⟩
def zN(k:gz p)(f:cS A B p=GC){a b:TR}(j:a.on A B p)(g:b.on A B p):(gC A p a b).on A B p:=by
 rcases TR.ky j with rfl|⟨X,Y,rfl,i⟩
 .cases b with
  |dv d=>exact g.elim
  |pt X' Y' o'=>exact g
 rcases TR.ky g with rfl|⟨X',Y',rfl,h⟩
 .exact j
 show(aQ A p X Y GE X' Y' GE).on A B p;by_cases c:gu p X Y X' Y'
 .rw[rV (nI i.x0 i.x1 h.x0 h.x1 c.1) c.2];exact Df f
 .obtain⟨_,_,_,_,o,_,_,e⟩:=yD k f i h c;rw[e];exact Sx f o
def yC(c:gz p)(d:cS A B p=GC){a b:TR}(f:a.on A B p)(e:b.on A B p):gC A p a b=gC A p b a:=by
 rcases TR.ky f with rfl|⟨X,Y,rfl,h⟩<;>rcases TR.ky e with rfl|⟨X',Y',rfl,g⟩
 .rfl
 .rfl
 .rfl
 .exact Ip c d h g
def oV{a:TR}(b:a.on A B p):gC A p a (.pt 0 0 GC)=a:=by
 rcases TR.ky b with rfl|⟨X,Y,rfl,h1⟩<;>rfl
def tL{a:TR}(b:a.on A B p):gC A p (.pt 0 0 GC) a=a:=by
 rcases TR.ky b with rfl|⟨X,Y,rfl,h1⟩<;>rfl
def YR{a:TR}(b:a.on A B p):gC A p a (a.ng p)= .pt 0 0 GC:=by
 rcases TR.ky b with rfl|⟨X,Y,rfl,h1⟩
 .rfl
 .show aQ A p X Y GE X (-Y%p) GE=_;refine rV rfl ?_;have:=jT (-Y) p
  rwa [show-Y%p - -Y=Y+ -Y%p by omega]at this
def WZ(g:gz p)(h:cS A B p=GC)(v:¬p ∣ 4*(A*(A*A))+27*(B*B)){a b c:TR}(k:a.on A B p)(i:b.on A B p)(l:c.on A B p) :
  gC A p (gC A p a b) c=gC A p a (gC A p b c):=by
 rcases TR.ky k with rfl|⟨u,s,rfl,n⟩
 .rw[tL i,tL (zN g h i l)]
 rcases TR.ky i with rfl|⟨q,o,rfl,j⟩
 .rw[tL l,oV k]
 rcases TR.ky l with rfl|⟨t,r,rfl,m⟩
 .rw[oV (zN g h k i),oV i]
 by_cases f:gu p u s q o
 .have e:gC A p (.pt u s GE) (.pt q o GE)= .pt 0 0 GC:=rV (nI n.x0 n.x1 j.x0 j.x1 f.1) f.2;rw[e,tL l];exact(S8 g h v n j m f).symm
 by_cases d:gu p q o t r
 .have e:gC A p (.pt q o GE) (.pt t r GE)= .pt 0 0 GC:=rV (nI j.x0 j.x1 m.x0 m.x1 d.1) d.2;rw[e,oV k,yC g h (zN g h k i) l,yC g h k i];exact S8 g h v m j n d.symm
 exact YV g h n j m f d
def alJ(c:gz p)(b:cS A B p=GC)(e:¬p ∣ 4*(A*(A*A))+27*(B*B)):Gp (TR.on A B p) (gC A p) (.pt 0 0 GC) (TR.ng p) where
 x!:=Df b
 rk:=zN c b
 x?:=λ{a} h=>by
  cases a with
  |dv d=>exact h.elim
  |pt X Y o=>exact ah0 h
 xh:=oV
 comm:=yC c b
 assoc:=WZ c b e
 inv:=YR
def ZP(g:Gp (TR.on A B p) (gC A p) (.pt 0 0 GC) (TR.ng p)){a:TR}(d:a.on A B p)(n:Y):cL A p a n=yZ (gC A p) (.pt 0 0 GC) n a:=by
 induction n using Nat.strongRecOn with
 |_ n ih =>
  by_cases c:n=0
  .subst c;rw[rK];rfl
  rw[uZ c,ih (n/2) (by omega),<-g.smul_add d];by_cases b:n%2=1
  .rw[Y0 b,Z6];have e:n/2+n/2+1=n:=by omega
   have:yZ (gC A p) (TR.pt 0 0 GC) (n/2+n/2+1) a=gC A p (yZ (gC A p) (TR.pt 0 0 GC) (n/2+n/2) a) a:=rfl;rw[<-this,e]
  .rw[Y1 b,Z5]
   congr 1;omega
end
end
def kP(n v:Y):Y->Y
 |0=>0
 |k+1=>kP n v k+(if k*k%n=v then 1 else 0)
def sY(a b n x:Y):Y:=(x*x%n*x+a*x+b)%n
def qV(a b n:Y):Y->Y
 |0=>1
 |x+1=>qV a b n x+kP n (sY a b n x) n
def jr(a b n:Y):Y:=qV a b n n
theorem u!(n v:Y):∀k,kP n v k<=k
 |0=>Z0 0
 |k+1=>by have:=u! n v k;unfold kP;split<;>omega
def JD(a b n:Y):∀k,qV a b n k<=1+k*n
 |0=>by simp[qV]
 |k+1=>by
  have h1:=JD a b n k
  grind [u!,sY,DF,qV]
def l6(n k:Y):O Z:=(EM n).map λv=>((kP n v k:Y):Z)
theorem IV(n k:Y):(l6 n k).length=n:=by simp[l6]
def Iu{n k v:Y}(h:v<n):(l6 n k).getD v 0=(kP n v k:Z):=by simp[l6,AI,h]
def Zy{n k:Y}(h:0<n:=by omega):l6 n (k+1)=(l6 n k).set (k*k%n) ((l6 n k).getD (k*k%n) 0+1):=by
 have a:=BB (k*k) h;rw[Iu a];refine CN (by simp[l6]) λi h1 h2=>?_
 grind [IV,l6,kP]
structure db where
 k:Nat
structure nt (n:Nat) (s:db):Prop where
 hk:s.k<=n
def Qq(a b n:Y):Y->MS->C bt
 |3,_=>GA (.inv db (nt n) (λs=>⟨54, [(0,.int .i64 a),(1,.int .i64 b),(2,.int .i64 n),(7,.bs 0 0 n),(8,.int .i64 s.k)], [⟨GE,.arr .i64 (l6 n s.k)⟩],0⟩) (λs=>n-s.k))
 |8,_=>GA (.inv db (nt n) (λs=>⟨54, [(0,.int .i64 a),(1,.int .i64 b),(2,.int .i64 n),(7,.bs 0 0 n),(9,.int .i64 (qV a b n s.k)),(10,.int .i64 s.k)], [⟨GE,.arr .i64 (l6 n n)⟩],0⟩) (λs=>n-s.k))
 |_,_=>GB
def acj(a b n:Y)(d:_)(g:d=λ(i:db)=>(X GD ((db.k i:Z)*(db.k i:Z))))(c:_)(f:c=(n:Z))(e:_)(h:e=λ(i:db)=>(X GD (X GD (X GD (P (d i) c *(db.k i:Z))+X GD ((a:Z)*(db.k i:Z)))+(b:Z)))):((0<= c/\c = c/\(↑(8:Y):Z)* c <=140737488355328)/\(∃i,nt n i/\((a:Z)=(a:Z)/\(b:Z)=(b:Z)/\c = c/\(0=0/\S c =n)/\0=(db.k i:Z)/\E)/\l (S c) (0:Z)=l6 n (db.k i)/\E)/\∀(i:db),nt n i->bif G ((db.k i:Z)< c)then (c =0->H)/\(0<=P (d i) c/\P (d i) c < c)/\0+S (P (d i) c)<D (l6 n (db.k i))/\(0<=P (d i) c/\P (d i) c < c)/\0+S (P (d i) c)<D (l6 n (db.k i))/\∃j,nt n j/\(((a:Z)=(a:Z)/\(b:Z)=(b:Z)/\c = c/\(0=0/\n=n)/\X GD ((db.k i:Z)+1)=(db.k j:Z)/\E)/\set (l6 n (db.k i)) (0+S (P (d i) c)) (X GD (F (l6 n (db.k i)) (0+S (P (d i) c)) 0+1))=l6 n (db.k j)/\E)/\n-db.k j<n-db.k i else (∃ae,nt n ae/\((a:Z)=(a:Z)/\(b:Z)=(b:Z)/\c = c/\(0=0/\n=n)/\1=(qV a b n (db.k ae):Z)/\0=(db.k ae:Z)/\E)/\l6 n (db.k i)=l6 n n/\E)/\∀(i:db),nt n i->bif G ((db.k i:Z)< c)then (c =0->H)/\(c =0->H)/\(0<=P (e i) c/\P (e i) c < c)/\0+S (P (e i) c)<D (l6 n n)/\∃j,nt n j/\(((a:Z)=(a:Z)/\(b:Z)=(b:Z)/\c = c/\(0=0/\n=n)/\X GD ((qV a b n (db.k i):Z)+F (l6 n n) (0+S (P (e i) c)) 0)=(qV a b n (db.k j):Z)/\X GD ((db.k i:Z)+1)=(db.k j:Z)/\E)/\l6 n n=l6 n n/\E)/\n-db.k j<n-db.k i else (qV a b n (db.k i):Z)=(jr a b n:Z))=aI (aK [] (Qq a b n)) E1 [.int .i64 a,.int .i64 b,.int .i64 n] (AZ (.ret (.int .i64 (jr a b n)))):=by subst g f h;kernel_rfl
theorem rE{x:Y}(h:x<9223372036854775808):X GD (x:Z)=(x:Z):=aV (by omega) (by omega)
def lK(x n:Y):P (x:Z) (n:Z)=((x%n:Y):Z):=by rw[D1 (by omega),AO]
def abM(a b n:Y)(n1:1<=n:=by omega)(n2:n<=100000:=by omega)(q:a<=100000:=by omega)(hb:b<=100000:=by omega):∃E:Env AC,aI E E1 [.int .i64 a,.int .i64 b,.int .i64 n] (AZ (.ret (.int .i64 (jr a b n)))):=by
 refine⟨aK [] (Qq a b n),?_⟩;rw[<-acj a b n _ rfl _ rfl _ rfl];rw[Z8];refine⟨⟨by omega,rfl,by omega⟩,⟨⟨0⟩,⟨Z9 _⟩,⟨rfl,rfl,rfl,⟨rfl,rfl⟩,rfl,⟨⟩⟩,?_,⟨⟩⟩,λs I=>?_⟩
 .refine CN (by simp[l6]) λi h1 h2=>?_;simp[l6,kP]
 obtain⟨k⟩:=s;obtain⟨o⟩:=I;dsimp only at o⊢;have e:X GD ((k:Z)*(k:Z))=((k*k:Y):Z):=by
  have:=AR (show k<=100000 by omega) (show k<=100000 by omega);rw[<-AM];exact rE (by omega)
 rw[e,lK,Z8,BH];have c:=BB (k*k) (show 0<n by omega);refine aJ Z4 (λq1=>?_) (λq1=>?_)
 .have g:X GD ((k:Z)+1)=((k+1:Y):Z):=rE (x:=k+1) (by omega);have p:=u! n (k*k%n) k;have f:X GD ((l6 n k).getD (k*k%n) 0+1)=(l6 n k).getD (k*k%n) 0+1:=by
   rw[Iu c];exact rE (x:=kP n (k*k%n) k+1) (by omega)
  rw[IV];exact⟨by omega,by omega,c,by omega,c,⟨k+1⟩,⟨by show k+1<=n;omega⟩,⟨⟨rfl,rfl,rfl,⟨rfl,rfl⟩,g,⟨⟩⟩,by rw[f];exact(Zy).symm,⟨⟩⟩,by show n-(k+1)<n-k;omega⟩
 .have h:k=n:=by omega
  subst h;refine⟨⟨⟨0⟩,⟨Z9 _⟩,⟨rfl,rfl,rfl,⟨rfl,rfl⟩,rfl,rfl,⟨⟩⟩,rfl,⟨⟩⟩,λs I=>?_⟩;obtain⟨x⟩:=s;obtain⟨m⟩:=I;dsimp only at m⊢;clear c e;refine aJ Z4 (λl=>?_) (λl=>?_)
  .have b1:=AR (show x<=100000 by omega) (show x<=100000 by omega);have c:=BB (x*x) (show 0<k by omega);have b2:=AR (show x*x%k<=100000 by omega) (show x<=100000 by omega);have b3:=AR q (show x<=100000 by omega);have e:X GD ((x:Z)*(x:Z))=((x*x:Y):Z):=by rw[<-AM];exact rE (by omega)
   have g:X GD (((x*x%k:Y):Z)*(x:Z))=((x*x%k*x:Y):Z):=by rw[<-AM];exact rE (by omega)
   have f:X GD ((a:Z)*(x:Z))=((a*x:Y):Z):=by rw[<-AM];exact rE (by omega)
   have w:X GD (((x*x%k*x:Y):Z)+((a*x:Y):Z))=((x*x%k*x+a*x:Y):Z):=rE (x:=x*x%k*x+a*x) (by omega);have v:X GD (((x*x%k*x+a*x:Y):Z)+(b:Z))=((x*x%k*x+a*x+b:Y):Z):=rE (x:=x*x%k*x+a*x+b) (by omega);have u:X GD ((x:Z)+1)=((x+1:Y):Z):=rE (x:=x+1) (by omega);rw[e,lK,g,f,w,v,lK,Z8,BH,u,IV];have j:sY a b k x<k:=BB _ (by omega);have r:(x*x%k*x+a*x+b)%k=sY a b k x:=rfl;rw[r,Iu j];have hs:=JD a b k x;have p:=u! k (sY a b k x) k;have d:=AR (show x<=100000 by omega) (show k<=100000 by omega);have t:X GD ((qV a b k x:Z)+(kP k (sY a b k x) k:Z))=((qV a b k (x+1):Y):Z):=rE (x:=qV a b k x+kP k (sY a b k x) k) (by omega);exact⟨by omega,by omega,by omega,j,⟨x+1⟩,⟨by show x+1<=k;omega⟩,⟨⟨rfl,rfl,rfl,⟨rfl,rfl⟩,t,rfl,⟨⟩⟩,rfl,⟨⟩⟩,by show k-(x+1)<k-x;omega⟩
  .have d:x=k:=by omega
   subst d;rfl
def wo(a b n:Y):Y:=A0 (⟨jr a b n,rfl⟩:∃r,r=jr a b n)
def rY(a b n:Y):wo a b n=jr a b n:=AP (⟨jr a b n,rfl⟩:∃r,r=jr a b n)
def Bx:aG
 |[.int .i64 a,.int .i64 b,.int .i64 n]=>GA (GA (0<=a/\a<=100000/\0<=b/\b<=100000/\1<=n/\n<=100000),.ret (.int .i64 (wo a.toNat b.toNat n.toNat)))
 |_=>GB
def aff:bC E1 Bx:=by
 intro ms p r h c;unfold Bx at h;split at h
 .rename_i a b n;cases h;obtain⟨h1,h2,h3,h4,h5,h6⟩:=c;obtain⟨a,rfl⟩:∃x:Y,a=x:=⟨a.toNat,by omega⟩;obtain⟨b,rfl⟩:∃x:Y,b=x:=⟨b.toNat,by omega⟩;obtain⟨n,rfl⟩:∃x:Y,n=x:=⟨n.toNat,by omega⟩;rw[Z8,Z8,Z8,rY];exact abM a b n
 .simp at h
def Rh:ah AC:=⟨54,Bx,λargs w=>Tryz.call54 args w,aO bQ Tryz.func54 Bx aff⟩
section
def P6{α:Type}:∀(l l':O α),l.Nodup->(∀x∈l,x∈l')->l'.length<=l.length->l.Perm l'
 |[],l',_,_,h=>by
  have:l'=[]:=CM.1 (by simpa using h);rw[this]
 |x::t,l',d,c,h=>by
  obtain⟨u,v,rfl⟩:=List.append_of_mem (c x (AH ..));have a:=BR.1 d;have e:t.Perm (u++v):=P6 t (u++v) a.2 (λy b=>by
   have:=c y (AD _ b);simp only[BL,CI]at this⊢;rcases this with q|q|q
   .exact .inl q
   .exact N (q ▸ b) a.1
   .exact .inr q) (by simp at h⊢;omega)
  exact(e.cons x).trans List.perm_middle.symm
section
variable {T:Type} {on:T->Prop} {add:T->T->T} {z:T} {ng:T->T}
def jf(add:T->T->T)(z:T):O T->T
 |[]=>z
 |x::r=>add x (jf add z r)
def Gp.Hp(g:Gp on add z ng):∀l:O T,(∀x∈l,on x)->on (jf add z l)
 |[],_=>g.x!
 |x::r,h=>g.rk (h x (AH ..)) (g.Hp r λy a=>h y (AD _ a))
def Gp.anI(g:Gp on add z ng){l l':O T}(p:l.Perm l'):(∀x∈l,on x)->jf add z l=jf add z l':=by
 induction p with
 |nil=>intro _;rfl
 |cons x _ f=>intro h;show add x _=add x _;rw[f λy a=>h y (AD _ a)]
 |swap x y l =>
  intro h;have b:=h x (by simp);have a:=h y (by simp);have e:=g.Hp l λw i=>h w (by simp[i]);show add y (add x (jf add z l))=add x (add y (jf add z l));rw[<-g.assoc a b e,g.comm a b,g.assoc b a e]
 |trans p _ d c=>intro h;rw[d h,c λy a=>h y (p.mem_iff.2 a)]
def Gp.UT(g:Gp on add z ng){p:T}(a:on p):∀l:O T,(∀x∈l,on x)->jf add z (l.map (add p))=add (yZ add z l.length p) (jf add z l)
 |[],_=>(g.xh g.x!).symm
 |x::r,h=>by
  have b:=h x (AH ..);have e:∀y∈r,on y:=λy f=>h y (AD _ f);have d:=g.Hp r e;have c:=g.ue a r.length;show add (add p x) (jf add z (r.map (add p)))=add (add (yZ add z r.length p) p) (add x (jf add z r));rw[g.UT a r e,<-g.assoc (g.rk a b) c d,<-g.assoc (g.rk c a) b d]
  congr 1
  rw[g.comm (g.rk a b) c,g.assoc c a b]
def Gp.apf(g:Gp on add z ng){l:O T}(q:l.Nodup)(n:∀x,x∈l↔on x){p:T}(b:on p):yZ add z l.length p=z:=by
 have a:∀x∈l,on x:=λx c=>(n x).1 c;have inj:∀x∈l,∀y∈l,add p x=add p y->x=y:=λx c y d e=>by
  have h:add (ng p) (add p x)=add (ng p) (add p y):=by rw[e]
  rw[<-g.assoc (g.x? b) b (a x c),<-g.assoc (g.x? b) b (a y d),g.comm (g.x? b) b,g.inv b,g.Wb (a x c),g.Wb (a y d)]at h;exact h
 have j:(l.map (add p)).Nodup:=by
  rw[FV,DD];exact B6 (λ{x y} c d k e=>k (inj x c y d e)) q
 have f:=P6 (l.map (add p)) l j (λy d=>by
  obtain⟨x,c,rfl⟩:=BM.1 d;exact(n _).2 (g.rk b (a x c))) (by simp)
 have h:=g.anI f λy d=>by
  grind
 rw[g.UT b l a]at h;have i:=g.Hp l a;have m:=g.ue b l.length;have o:add (add (yZ add z l.length p) (jf add z l)) (ng (jf add z l))=add (jf add z l) (ng (jf add z l)):=by rw[h]
 rw[g.assoc m i (g.x? i),g.inv i,g.xh m]at o;exact o
end
def wx(a b n x:Y)(k:Y):O TR:=((EM k).filter λy=>y*y%n==sY a b n x).map λy:Y=>.pt (x:Z) ((y:Y):Z) GE
def ta(a b n:Y)(k:Y):O TR:=(EM k).flatMap λx=>wx a b n x n
def uc(a b n:Y):O TR:= .pt 0 0 GC::ta a b n n
theorem Pm(a b n x:Y):∀k,(wx a b n x k).length=kP n (sY a b n x) k
 |0=>rfl
 |k+1=>by
  have:=Pm a b n x k
  grind [wx,CW,EY,BS,kP,sY]
def Pz(a b n:Y):∀k,1+(ta a b n k).length=qV a b n k
 |0=>rfl
 |k+1=>by
  have:=Pz a b n k
  grind [ta,EY,BS,qV,Pm]
def R2(a b n:Y):(uc a b n).length=jr a b n:=by
 show(ta a b n n).length+1=qV a b n n;rw[<-Pz];omega
theorem RD{a b n x y:Y}:y*y%n=sY a b n x↔(n:Z) ∣ (y:Z)*y-((x:Z)*x*x+a*x+b):=by
 have e:(x*x%n*x+a*x+b)%n=(x*x*x+a*x+b)%n:=by
  grind [FU,CG,EI]
 grind [sY,kL,AM,CC,AO]
def Jm{a b n:GH}(c:cS a b n=GC)(t:TR):t∈uc a b n↔t.on a b n:=by
 unfold uc;rw[CI];unfold ta wx;simp only[List.mem_flatMap,BM,List.mem_filter,E7,beq_iff_eq];constructor
 .rintro(rfl|⟨x,hx,y,⟨hy,h⟩,rfl⟩)
  .exact Df c
  .exact Sx c (X:=(x:Z)) (Y:=(y:Z)) ⟨by omega,by omega,by omega,by omega,RD.1 h⟩
 .intro h;rcases TR.ky h with rfl|⟨X,Y,rfl,h'⟩
  .exact .inl rfl
  .obtain⟨x0,x1,y0,y1,he⟩:=h';obtain⟨x,rfl⟩:∃x:GH,X=x:=⟨X.toNat,by omega⟩;obtain⟨y,rfl⟩:∃y:GH,Y=y:=⟨Y.toNat,by omega⟩
   grind [RD]
def Zo(a b n:Y):(uc a b n).Nodup:=by
 grind [uc,BR,ta,wx,List.nodup_range,List.nodup_range.imp]
def agE{p:Y}(a:aw p)(h5:5<=p):gz p:=⟨by omega,by
 intro h;rcases a.dv 2 (AF (by omega))with e|e<;>omega,λ_ b=>gA (iY a) b⟩
def aaM{p a b:Y}(e:aw p)(j:5<=p)(f:cS a b p=GC)(i:qA a b p=GC){t:TR}(d:t.on a b p):cL a p t (jr a b p)= .pt 0 0 GC:=by
 have c:¬(p:Z) ∣ 4*((a:Z)*(a*a))+27*((b:Z)*b):=λh=>Nh (iY e) h (of_decide_eq_true i);have g:=alJ (agE e j) f c;rw[ZP g d,<-R2];exact g.apf (Zo a b p) (Jm f) d
end
def jm(f:Y->Y)(a:Y):Y->Y
 |0=>0
 |k+1=>jm f a k+f (a+k)
def R3(f:Y->Y)(a i:Y):∀j,jm f a (i+j)=jm f a i+jm f (a+i) j
 |0=>rfl
 |j+1=>by
  show jm f a (i+j)+f (a+(i+j))=jm f a i+(jm f (a+i) j+f (a+i+j));rw[R3 f a i j,C8,C8 a i j]
def me(f:Y->Y):Y->Y->Y->Y
 |0,a,n=>o (CH n 0) 0 (f a)
 |d+1,a,n=>o (CH n 0) 0 (o (CH n 1) (f a) (FL (me f d a (ET n 2)) (me f d (FL a (ET n 2)) (Nat.sub n (ET n 2)))))
def Fv(f:Y->Y):∀(d a n:Y),n<=2^d->me f d a n=jm f a n
 |0,a,n,h=>by
  rw[CT]at h
  match n,h with
  |0,_=>rfl
  |1,_ =>
   show f a=0+f (a+0);rw[BH,BZ]
 |d+1,a,n,h=>by
  unfold me;cases c:CH n 0 with
  |true=>rw[CZ c];rfl
  |false =>
   have n0:n≠0:=λe=>by rw[e]at c;simp at c
   rw[Z5];cases b:CH n 1 with
   |true =>
    rw[CZ b];show f a=0+f (a+0);rw[BH,BZ]
   |false =>
    have n1:n≠1:=λe=>by rw[e]at b;simp at b
    rw[Z5];rw[BN]at h;show me f d a (n/2)+me f d (a+n/2) (n-n/2)=_;rw[Fv f d a (n/2) (by omega),Fv f d (a+n/2) (n-n/2) (by omega),<-R3]
    congr 1;omega
def s6(n:Y):Y->Y:=jm (λy=>2048^(y*y%n)) 0
def Nu(n v:Y):∀k,∃a b,s6 n k=a*(2048*2048^v)+kP n v k*2048^v+b/\b*2048<=k*2048^v
 |0=>⟨0,0,by simp[s6,jm,kP],by omega⟩
 |k+1=>by
  obtain⟨a,b,g,c⟩:=Nu n v k;have e:s6 n (k+1)=s6 n k+2048^(k*k%n):=by
   show jm _ 0 k+2048^((0+k)*(0+k)%n)=_;rw[BH];rfl
  have l:kP n v (k+1)=kP n v k+(if k*k%n=v then 1 else 0):=rfl;have m:(k+1)*2048^v=k*2048^v+2048^v:=DF ..;rw[e,g,m,l];rcases Nat.lt_trichotomy (k*k%n) v with q|q|q
  .rw[V (by omega),BZ];refine⟨a,b+2048^(k*k%n),by rw[C8],?_⟩;have d:2048^(k*k%n+1)<=2048^v:=A6 (by omega) q;rw[BN]at d;rw[FT];exact Nat.add_le_add c d
  .rw[U q,q];refine⟨a,b,?_,A5 c (CQ ..)⟩;have h:(kP n v k+1)*2048^v=kP n v k*2048^v+2048^v:=DF ..;rw[h];generalize a*(2048*2048^v)=u;generalize kP n v k*2048^v=w;generalize 2048^v=z;omega
  .obtain⟨j,f⟩:∃j,k*k%n=v+1+j:=⟨k*k%n-(v+1),by omega⟩;rw[V (by omega),BZ,f];refine⟨a+2048^j,b,?_,A5 c (CQ ..)⟩;have i:2048^(v+1+j)=2048^j*(2048*2048^v):=by rw[FR,BN,AW,AW (2048^v)]
   rw[i,FT];generalize a*(2048*2048^v)=u;generalize kP n v k*2048^v=w;generalize 2048^j*(2048*2048^v)=z;omega
def aiJ{n k:Y}(f:k<2048)(v:Y):s6 n k/2048^v%2048=kP n v k:=by
 obtain⟨a,c,g,h2⟩:=Nu n v k;have d:0<2048^v:=DN (by omega);have b:c<2048^v:=by
  have:k*2048^v<2048*2048^v:=Nat.mul_lt_mul_of_pos_right f d;omega
 have hc:=u! n v k;have e:s6 n k=2048^v*(a*2048+kP n v k)+c:=by
  rw[g,Do,AW (2048^v) (kP n v k)];have h:2048^v*(a*2048)=a*(2048*2048^v):=by rw[AW (2048^v),B1]
  rw[h]
 rw[e,E6 d,EX b,BZ,FK,Nat.add_mul_mod_self_right];exact CO (by omega)
def vj:O Y:=[2,3,5,7,11,13,17,19,23,29,31,37]
def wi(n:Y):O Y->J
 |[]=>GC
 |d::r=>(CH n d || !(CH (D6 n d) 0))&&wi n r
def PV{n:Y}:∀l,wi n l=GC->∀d∈l,n=d\/n%d≠0
 |[],_,d,hd=>by simp at hd
 |e::r,h,d,hd=>by
  rw[wi,Z3,Bool.or_eq_true,Bool.not_eq_true']at h;rcases CI.1 hd with rfl|hd
  .rcases h.1 with q|q
   .exact .inl (CZ q)
   .right;intro w;have w:D6 n d=0:=w;rw[w]at q;simp at q
  .exact PV r h.2 d hd
def Zv:∀q,q<41->2<=q->q∈vj\/∃d,d<q/\2<=d/\q%d=0:=by decide +kernel
def Zm{q:Y}(a:aw q)(h:q<41):q∈vj:=by
 rcases Zv q h a.lt with w|⟨d,d1,d2,d3⟩
 .exact w
 .rcases a.dv d (AF d3)with e|e<;>omega
def oG{n:Y}(f:1<n)(h2:n<1681)(h:wi n vj=GC):aw n:=by
 refine BA λw=>?_;obtain⟨p,c,d,Vv⟩:=rI f w;have a:=c.lt;have b:p<41:=by
  rcases BI p 41 with q|q
  .exact q
  .have:=AR q q;omega
 rcases PV vj h p (Zm c b)with e|e
 .subst e;have:=AY n a;omega
 .exact e (AX d)
def xj(m a x y:Y):Y:=(y*y+(m-(x*x*x+a*x)%m))%m
def S9{m a x y:Y}(b:0<m:=by omega):k6 m a x y=(xj m a x y:Z):=by
 have h:=BB (x*x*x+a*x) b;unfold k6 xj;rw[AO,kL];have e:(((m-(x*x*x+a*x)%m:Y)):Z)=m-((x:Z)*x*x+a*x)%m:=by
  rw[Int.natCast_sub (by omega),AO];simp[AM,CC]
 rw[CC,e,AM];obtain⟨c,d⟩:=jT ((x:Z)*x*x+a*x) m;exact⟨c-1,by rw[CJ,<-d];omega⟩
def KC(p a b:Y):Y:=FL 1 (me (λx=>D6 (ET (me (λy=>F9 2048 (D6 (Nat.mul y y) p)) 12 0 p) (F9 2048 (sY a b p x))) 2048) 12 0 p)
def aeD{p:Y}(a b:Y)(h:p<2048:=by omega):KC p a b=jr a b p:=by
 unfold KC jr;show 1+me (λx=>me (λy=>2048^(y*y%p)) 12 0 p/2048^sY a b p x%2048) 12 0 p=qV a b p p;rw[Fv _ 12 0 p (by omega),Fv _ 12 0 p (by omega)];have e:(λx=>jm (λy=>2048^(y*y%p)) 0 p/2048^sY a b p x%2048)=λx=>kP p (sY a b p x) p:=by
  funext x
  exact aiJ h _
 rw[e];have:∀k,1+jm (λx=>kP p (sY a b p x) p) 0 k=qV a b p k:=λk=>by
  induction k with
  |zero=>rfl
  |succ k ih =>
   show 1+(jm _ 0 k+kP p (sY a b p (0+k)) p)=qV a b p k+_;rw[BH,<-C8,ih]
 exact this p
def Gb(p a b N:Y):J:=!(CH (D6 (4*(a*(a*a))+27*(b*b)) p) 0)&&(AQ 1 N&&(AQ N 1681&&(wi N vj&&gh N p)))
def ko(p k:Y):J:=Gb p (k%p) (xj p (k%p) (k/p%p) (1+k%(p-1))) (KC p (k%p) (xj p (k%p) (k/p%p) (1+k%(p-1))))
def nk:O (Y×Y):=[(7,7),(11,16),(13,12),(17,31),(19,19),(23,29),(29,28),(31,31),(37,50),(41,50),(43,49),(47,53),(53,56),(59,78),(61,68),(67,83),(71,73),(73,75),(79,79),(83,84),(89,95),(97,107),(101,109),(103,111),(107,167),(109,113),(113,120),(127,127),(131,143),(137,141)]
def ah5:nk.all (λq=>ko q.1 q.2)=GC:=by decide +kernel
def tl:O (Y×Y):=[(139,152),(149,154),(151,150),(157,158),(163,163),(167,168),(173,201),(179,196),(181,204),(191,204),(193,206),(197,206),(199,199),(211,211),(223,252),(227,231),(229,231),(233,243),(239,255),(241,263),(251,256),(257,256),(263,270),(269,268),(271,299),(277,285),(281,312),(283,283),(293,304),(307,315)]
def ah6:tl.all (λq=>ko q.1 q.2)=GC:=by decide +kernel
def ej:O (Y×Y):=[(311,310),(313,326),(317,320),(331,331),(337,338),(347,348),(349,358),(353,382),(359,363),(367,379),(373,377),(379,380),(383,395),(389,421),(397,398),(401,419),(409,408),(419,420),(421,425),(431,435),(433,436),(439,441),(443,448),(449,457),(457,469),(461,470),(463,463),(467,489),(479,496),(487,486)]
def ah7:ej.all (λq=>ko q.1 q.2)=GC:=by decide +kernel
def tn:O (Y×Y):=[(491,498),(499,498),(503,510),(509,516),(521,522),(523,587),(541,540),(547,546),(557,571),(563,568),(569,591),(571,571),(577,587),(587,586),(593,605),(599,612),(601,605),(607,608),(613,639),(617,624),(619,628),(631,631),(641,672),(643,652),(647,646),(653,662),(659,669),(661,681),(673,672),(677,700)]
def ah8:tn.all (λq=>ko q.1 q.2)=GC:=by decide +kernel
def kt:O (Y×Y):=[(683,688),(691,691),(701,722),(709,739),(719,720),(727,768),(733,734),(739,738),(743,767),(751,754),(757,767),(761,781),(769,781),(773,777),(787,796),(797,806),(809,826),(811,817),(821,840),(823,823),(827,845),(829,830),(839,853),(853,854),(857,864),(859,861),(863,862),(877,904),(881,883),(883,885)]
def ah9:kt.all (λq=>ko q.1 q.2)=GC:=by decide +kernel
def Hw:O (Y×Y):=[(887,894),(907,932),(911,941),(919,930),(929,950),(937,943),(941,946),(947,970),(953,962),(967,968),(971,973),(977,980),(983,987),(991,1007),(997,999),(1009,1036),(1013,1048),(1019,1024),(1021,1038),(1031,1036),(1033,1041),(1039,1063),(1049,1052),(1051,1051),(1061,1074),(1063,1063),(1069,1070),(1087,1105),(1091,1092),(1093,1100)]
def aia:Hw.all (λq=>ko q.1 q.2)=GC:=by decide +kernel
def Vn:O (Y×Y):=[(1097,1112),(1103,1130),(1109,1128),(1117,1128),(1123,1124),(1129,1148),(1151,1190),(1153,1160),(1163,1172),(1171,1216),(1181,1190),(1187,1214),(1193,1196),(1201,1216),(1213,1233),(1217,1248),(1223,1243),(1229,1289),(1231,1231),(1237,1246),(1249,1262),(1259,1272),(1277,1276),(1279,1279),(1283,1282),(1289,1295),(1291,1291),(1297,1296),(1301,1300),(1303,1321)]
def aib:Vn.all (λq=>ko q.1 q.2)=GC:=by decide +kernel
def Vo:O (Y×Y):=[(1307,1317),(1319,1362),(1321,1335),(1327,1337),(1361,1367),(1367,1370),(1373,1411),(1381,1396),(1399,1410),(1409,1427),(1423,1453),(1427,1433),(1429,1448),(1433,1480),(1439,1512),(1447,1447),(1451,1458),(1453,1483),(1459,1479),(1471,1476),(1481,1503),(1483,1485),(1487,1529),(1489,1526),(1493,1529),(1499,1498),(1511,1510)]
def aic:Vo.all (λq=>ko q.1 q.2)=GC:=by decide +kernel
def Ky:O (Y×Y):=nk++tl++ej++tn++kt++Hw++Vn++Vo
def aen:∀q∈Ky,ko q.1 q.2=GC:=λq a=>by
 unfold Ky at a;simp only[BL]at a;rcases a with ((((((h|h)|h)|h)|h)|h)|h)|h
 .exact A4.1 ah5 q h
 .exact A4.1 ah6 q h
 .exact A4.1 ah7 q h
 .exact A4.1 ah8 q h
 .exact A4.1 ah9 q h
 .exact A4.1 aia q h
 .exact A4.1 aib q h
 .exact A4.1 aic q h
def abv:∀p,p<1512->7<=p->(Ky.any λq=>CH q.1 p&&Nat.ble (p-1) q.2&&AQ q.2 (p+100))=GC\/∃d,d<38/\2<=d/\p%d=0/\d<p:=by decide +kernel
end
end Go.Proofs.YtkejceafemeifaaGreatDoor
