/-
  Arguments of the laws of chapter 07: descriptions of proofs, and changes.
-/
import Derived.Test.YtkejceafemeifaaGreatDoorS5
import Derived.Test.YtkejceafemeifaaGreatDoorS2
import Derived.Test.YtkejceafemeifaaGreatDoorRows
import Derived.Test.YtkejceafemeifaaGreatDoorS3
import Derived.Test.YtkejceafemeifaaGreatDoorCards
import Derived.Test.YtkejceafemeifaaGreatDoorTie
import Derived.Test.YtkejceafemeifaaGreatDoorS4
import Derived.ProofKit
import Derived.OpenShut
import Derived.JoinedCond
import Derived.LaidMore
import Derived.LaidLaws
import Derived.LaidHandle
import Derived.ChangeVars
import Derived.Stop.Joined
import Derived.ChangeSame
import Derived.MakeChecks
import Derived.OrdersHeld

namespace Go.Proofs.YtkejceafemeifaaGreatDoor
set_option linter.defProp false
set_option linter.unusedVariables false
set_option linter.unusedSimpArgs false
open Go Go.RowKit
open Go.IntKind (wrap i64 i32 i16 i8 u64 u32 u16 u8)
open Int (toNat natAbs)
open List (length take drop getD set replicate)
open BitVec (ofInt)
open Int (gcd tmod tdiv fdiv)
open Go.Proofs.Tryz renaming prog->AA,underlying5->B2,f11->B3,f29->C6,f35->DI,underlying4->DX,f10->D8,f4->EE,func35->EH,func29->EI,func11->EJ,call35->EK,call29->EL,f41->E1,f28->E2,f15->E3,f12->E4
open List renaming getD_eq_getElem?_getD->AB,take_of_length_le->AC,mem_cons_self->AD,mem_cons_of_mem->AF,getElem?_eq_getElem->AI,mem_singleton->AJ,mem_append->AU,length_set->AV,not_mem_nil->AX,mem_of_elem_eq_true->A5,length_append->A9,mem_append_right->BB,length_take->BF,take_append_drop->BP,getElem_mem->BQ,mem_append_left->BR,mem_or_eq_of_mem_set->BX,getElem?_append_left->BY,getElem?_map->BZ,mem_cons->B0,length_singleton->CA,mem_range->CD,length_drop->C0,all_eq_true->C1,mapM_cons->C8,length_eq_zero_iff->DD,mem_map->DE,mem_of_mem_take->DJ,mem_of_mem_drop->DK,range->DS,mem_range'_1->DW,mem_flatMap->DY,drop_length->DZ,any_eq_true->D0,nodup_cons->D3,nil_append->D4,mem_filter->D5,length_nil->D6,range'->ES
open ak renaming refl->AE,of_le->DG
open Nat renaming mod_lt->AG,lt_or_ge->AK,not_lt_zero->AL,lt_of_lt_of_le->AP,dvd_of_mod_eq_zero->AR,beq->AW,zero_add->AZ,eq_of_beq_eq_true->A0,le_trans->A1,le_of_dvd->A2,blt->A4,eq_zero_or_pos->BA,mod_eq_of_lt->BG,gcd->BH,blt_eq->BL,mul_div_cancel_left->BM,mul_le_mul->BO,mul_assoc->B1,log2->B6,pow_le_pow_right->CE,mul_le_mul_left->CH,pow_succ'->CK,dvd_trans->CL,mod_mod_of_dvd->CN,lt_or_gt_of_ne->CO,mul_zero->CV,one_dvd->C5,mod_two_eq_zero_or_one->C9,beq_eq->DA,mod_eq_zero_of_dvd->DF,pow_mod->DM,mul_le_mul_right->DN,log2_lt->DO,lt_of_le_of_lt->DV,gcd_one_left->D2,div_add_mod->D9,lt_irrefl->EF,zero_mul->EM,sub_self->EN,pow_zero->EO,pow_succ->EP,mul_succ->EQ,gcd_comm->ER,pow_mul->EV,pow_add->EW,mul_pos->EX,mul_one->EY
open Option renaming bind_eq_some_iff->AH,map_eq_some_iff->AN,bind_eq_bind->CC,pure_def->CY,map_some->CZ,map_none->DU
open Classical renaming byContradiction->AM,choose_spec->A8,choose->BN
open bh renaming len->AO
open Int renaming natAbs_natCast->AQ,natCast_dvd_natCast->A7,dvd_trans->BK,natCast_mul->BS,pow_succ->B8,le_of_dvd->CM,ofNat_dvd_left->CQ,dvd_mul_right->CW,natCast_ediv->C3,dvd_mul_left->C4,tdiv_eq_ediv_of_nonneg->DB,natAbs_mul->DC,pow_zero->DH,dvd_sub->DP,emod_def->ET
open Go.DataW renaming trod->AS,TrodAll->CG,Whole->EG,Trod->EU
open _root_.Array renaming getD->AT,getElem?_eq_some_iff->BE,length_toList->DL,ext'->DR
open Option.some renaming inj->AY
open Go.Region renaming ready->A3,wanted->BW,binds->CJ,noSelect->CX
open MV renaming dm->A6
open Go.Act renaming put->BD,eval->CF
open Ctx renaming res->BI,args->BU
open cj renaming sat->BJ
open aj renaming clean->BT,bu->B4
open Go.Value renaming slice->BV,int->DT,okWide->EA,cells->ED
open Go.IntKind renaming signed->B7,bits->CI,min->CR,max->CS
open Nat.Coprime renaming mul_dvd_of_dvd_of_dvd->B9,pow_right->EZ,mul_left->E0
open Go.World renaming cell?->CB
open List.cons renaming injEq->CP
open Bool renaming not_eq_true'->CT,eq_false_iff->CU,cond_decide->D1,or_eq_true->D7,true_and->EC
open Go renaming mem_ready->C2
open Go.Lit renaming int->C7,wf->EB
open _root_ renaming Nat->Z,Int->Y,List->V,False->D,True->X,if_neg->G,Bool->O,absurd->M,Array->N,if_pos->T,cond->W,Option->o,List->FE,Nat->FF,Int->FG,absurd->FK,Array->FP,False->FR,if_pos->FT
open List renaming length->B,getD->E,take->FC,length->FJ,drop->Do
open Go renaming Value->U,World->R,Oper->r,TypeId->z,Program->FL,TypeId->FM,Value->FN,World->FO,Oper->FQ
open Int renaming toNat->C,tmod->I,natAbs->u,tmod->FI
open Go.IntKind renaming wrap->F,i64->FA,u64->FB,wrap->FH
open Decidable renaming decide->J
open Bool renaming false->E7,true->FD
open Option renaming some->E8,none->E9
noncomputable section
variable{L:FE ab}{Q:Exit->Act->FO->Prop}{S:Z->Prop}{S0:Z->Prop}{S1:Z->Prop}{S2:Z->Prop}{a:Act}{b:Z}{bv:Z->U}{c:Ctx}{fuel:Z}{i:Z}{k:Z}{m:Z}{ops:FP FQ}{p:Z}{pv:Z->U}{q:Z}{s:ab}{v:U}{w:FO}{w0:bw}
def q8(n k:Z):Z:=k%n
def ee(n k:Z):Z:=k/n%n
def dx(n k:Z):Z:=1+k%(n-1)
def tT(n k:Z):Z:=xj n (q8 n k) (ee n k) (dx n k)
def jQ(n k:Z):Z:=wo (q8 n k) (tT n k) n
def xU(n k:Z):Y:=(aL (jQ n k)).getD ((aL (jQ n k)).length-1) 0
def lR(n at_:Z)(a b x y o:Z):ab:=⟨4,E7,aA n, [(at_:Y)], [],a,b,n,x,y,E7,o⟩
def iI(L:V ab)(n k:Z):V ab:=L++[bX (xU n k),lR n L.length (q8 n k) (tT n k) (ee n k) (dx n k) (jQ n k)]
def pU(L:V ab)(n k:Z):O:=qA (q8 n k) (tT n k) n&&(gh (xU n k) n&&cE (bj (L++[bX (xU n k)])) (lR n L.length (q8 n k) (tT n k) (ee n k) (dx n k) (jQ n k)))
structure ct where
 k:Nat
 ex:List ab
structure py (fr K:Nat) (s:ct):Prop where
 h1:fr<=s.k
 h2:s.k<=K
def ani(n:Z)(L:V ab)(s:ct):MS:=⟨130, [(0,.bp 0 0),(1,.int .u64 n),(7,.int .i64 n),(8,.int .i64 s.k)],
 [⟨E7,.one (.st [.bs 1 0 L.length])⟩,⟨E7,.rows 18 (L.length+s.ex.length) (aF (L++s.ex) 200)⟩],1⟩
def T8(n a K:Z)(L:V ab):Z->MS->o bt
 |4,_=>E8 (.inv ct (py a K) (ani n L) (λs=>K+1-s.k))
 |_,_=>E9
structure HU (n:Nat) (k:Int) (s:ct):Prop where
 hk:k=(s.k:Int)
 hn:qA (q8 n s.k) (tT n s.k) n=true
 hg:gh (xU n s.k) n=true
def anj(n:Z)(L:V ab)(s:ct):MS:=⟨130, [(0,.bp 0 0),(1,.int .u64 n),(7,.int .i64 n),(8,.int .i64 s.k),(17,.int .i64 L.length)],
 [⟨E7,.one (.st [.bs 1 0 (L.length+2)])⟩,⟨E7,.rows 18 (L.length+2) (aF (iI L n s.k) 200)⟩],1⟩
def Uv(n:Z)(L:V ab):Z->MS->o h!
 |16,e=>(match bD 8 e.tm with
  |.int _ k=>E8 (.mk ct (HU n k) (anj n L))
  |_=>E9)
 |_,_=>E9
def UQ:Z->V Z
 |14=> [1000000]
 |15=> [1000000]
 |999994=> [0]
 |999993=> [0]
 |_=> []
def zA(n k:Z):Y:=tmod (k:Y) (n:Y)
def zX(n k:Z):Y:=tmod (F FA (tdiv (k:Y) (n:Y))) (n:Y)
def zY(n k:Z):Y:=wrap FA (1+I (k:Y) (F FA ((n:Y)-1)))
def zB(n k:Z):Y:=k6 (n:Y) (zA n k) (zX n k) (zY n k)
def zO(n k:Z):Z:=wo (C (zA n k)) (C (zB n k)) (C (n:Y))
def zL(n k:Z):V Y:=aL (C (F FB ((zO n k:Z):Y)))
def zQ(n k:Z):Y:=(zL n k).getD (C (F FA (((zL n k).length:Y)-1))) 0
def ak6(L:V ab)(n g K:Z)(b:_)(p:b=(n:Y))(c:_)(o:c=(B L:Y))(a:_)(m:a=λ(i:ct)=>(ct.k i))(d:_)(r:d=λ(i:ct)=>(bh.rows 18 1 (aU [se (zQ n (a i))])))(f:_)(l:f=λ(ae:ct)=>(aF (iI L n (ct.k ae)) 200))(e:_)(h:e=(B L+2)):((b =0->D)/\(∃i,py (g%n) K i/\(0=0/\b = b/\F FA b = b/\F FA (I (g:Y) b)=(ct.k i:Y)/\X)/\((0=0/\B L=B L)/\X)/\(B L=B L+B (ct.ex i)/\ak (B L) (aF L 200) (aF (L++ct.ex i) 200))/\X)/\∀(i:ct),py (g%n) K i->(b =0->D)/\(b =0->D)/\(F FA (b-1)=0->D)/\(b =0->D)/\(1<= b/\b <=100000/\0<=zA n (a i)/\zA n (a i) <=100000/\0<=zX n (a i)/\zX n (a i) <=100000/\0<=zY n (a i)/\zY n (a i) <=100000)/\(64<=200/\64<=200/\64<=200)/\bif !qA (zA n (a i)) (zB n (a i)) b then ∃j,py (g%n) K j/\((0=0/\b = b/\b = b/\F FA ((ct.k i:Y)+1)=(ct.k j:Y)/\X)/\((0=0/\B L=B L)/\X)/\(B L+B (ct.ex i)=B L+B (ct.ex j)/\ak (B L+B (ct.ex i)) (aF (L++ct.ex i) 200) (aF (L++ct.ex j) 200))/\X)/\K+1-ct.k j<K+1-ct.k i else u (zB n (a i))<9223372036854775808/\(b =0->D)/\(0<=zA n (a i)/\zA n (a i) <=100000/\0<=zB n (a i)/\zB n (a i) <=100000/\1<= b/\b <=100000)/\(1<=F FB (zO n (a i) :Y)/\F FB (zO n (a i) :Y)<4611686018427387904)/\(0<=F FA ((B (zL n (a i)):Y)-1)/\F FA ((B (zL n (a i)):Y)-1)<(B (zL n (a i)):Y))/\(0<=zQ n (a i)/\zQ n (a i) <18446744073709551616)/\(0<= b/\b <18446744073709551616)/\(64<=100000/\64<=100000)/\bif !gh (zQ n (a i)) b then ∃j,py (g%n) K j/\((0=0/\b = b/\b = b/\F FA ((ct.k i:Y)+1)=(ct.k j:Y)/\X)/\((0=0/\B L=B L)/\X)/\(B L+B (ct.ex i)=B L+B (ct.ex j)/\ak (B L+B (ct.ex i)) (aF (L++ct.ex i) 200) (aF (L++ct.ex j) 200))/\X)/\K+1-ct.k j<K+1-ct.k i else (0<=zQ n (a i)/\zQ n (a i) <18446744073709551616)/\(B L<=B L+B (ct.ex i)/\(B L+AO (d i))*288<=140737488355328)/\((0<= b/\b <18446744073709551616)/\fX (zX n (a i))/\fX (zY n (a i))/\fX (zO n (a i) :Y)/\(B L+AO (d i) <=B L+1/\(B L+AO (d i) +AO (bh.rows 18 1 (aU [MV.st [MV.int FA (4:Y),MV.aa b 64,MV.sl 1 1 λi=>MV.int FA (E [c] i 0),MV.val (BV E9 0 0),MV.st [MV.aa (zA n (a i)) 64,MV.aa (zB n (a i)) 64,MV.aa b 64],MV.st [MV.aa (zX n (a i)) 64,MV.aa (zY n (a i)) 64,MV.bool E7],MV.aa (zO n (a i) :Y) 64]])))*288<=140737488355328)/\∃ae,HU n (ct.k i:Y) ae/\(0=0/\b = b/\b = b/\(ct.k i:Y)=(ct.k ae:Y)/\c = c/\X)/\((0=0/\B L+AO (d i) +AO (bh.rows 18 1 (aU [MV.st [MV.int FA (4:Y),MV.aa b 64,MV.sl 1 1 λi=>MV.int FA (E [c] i 0),MV.val (BV E9 0 0),MV.st [MV.aa (zA n (a i)) 64,MV.aa (zB n (a i)) 64,MV.aa b 64],MV.st [MV.aa (zX n (a i)) 64,MV.aa (zY n (a i)) 64,MV.bool E7],MV.aa (zO n (a i) :Y) 64]]))=B L+2)/\X)/\(B L+AO (d i) +1=B L+2/\ak (B L+AO (d i) +1) (λq=>bif A4 q (B L+AO (d i))then bif A4 q (B L)then aF (L++ct.ex i) 200 q else aU [se (zQ n (a i))] (q-B L)else aU [MV.st [MV.int FA (4:Y),MV.aa b 64,MV.sl 1 1 λi=>MV.int FA (E [c] i 0),MV.val (BV E9 0 0),MV.st [MV.aa (zA n (a i)) 64,MV.aa (zB n (a i)) 64,MV.aa b 64],MV.st [MV.aa (zX n (a i)) 64,MV.aa (zY n (a i)) 64,MV.bool E7],MV.aa (zO n (a i) :Y) 64]] (q-(B L+AO (d i)))) (f ae))/\X)/\∀(ae:ct),HU n (ct.k i:Y) ae->(B L+2<=B L+2/\0<=F FA (c +1)/\F FA (c +1)<(↑ e :Y)/\cw e (f ae)/\fp (aE e (f ae)) (C (F FA (c +1))))/\bif cE (bj (FC (C (F FA (c +1))) (aE e (f ae)))) (E (aE e (f ae)) (C (F FA (c +1))) aB)then ((0=0/\B L+2=B (iI L n K))/\X)/\(B (iI L n K)<=B L+2/\ak (B (iI L n K)) (f ae) (aF (iI L n K) 200))/\F FA (c +1)=(B (iI L n K):Y)-1 else (0<= c/\c <=(↑ e :Y))/\∃j,py (g%n) K j/\((0=0/\b = b/\b = b/\F FA ((ct.k ae:Y)+1)=(ct.k j:Y)/\X)/\((0=0/\C c =B L)/\X)/\(B L+2=B L+B (ct.ex j)/\ak e (f ae) (aF (L++ct.ex j) 200))/\X)/\K+1-ct.k j<K+1-ct.k i)=nN (wz [Qd,Dl,Ds,Rh,Aq,mD,Dr,v7,cC] [] UQ (T8 n (g%n) K L) (Uv n L)) E2 18 [.int .u64 n,.int .u64 g] L.length (aF L 200) (iI L n K).length (aF (iI L n K) 200) (.int .i64 (((iI L n K).length:Y)-1)):=by subst p o m r l h;kernel_rfl
structure L9 (n k:Nat):Prop where
 a:q8 n k<n
 x:ee n k<n
 y1:1<=dx n k
 y:dx n k<n
 b:tT n k<n
 o:2<=jQ n k
 o2:jQ n k<9007199254740992
 q:aw (xU n k).toNat
 asI:(xU n k).toNat ∣ jQ n k
 anh:cS (q8 n k) (tT n k) n=true
 on:nR (q8 n k) (tT n k) n (ee n k) (dx n k) false=true
 len:1<=(aL (jQ n k)).length
 HJ:(xU n k).toNat<=jQ n k
def Eb{n:Z}(f:aw n)(h7:7<=n)(j:n<=2000)(k:Z):L9 n k:=by
 have ho:=j7 f;have w:q8 n k<n:=AG _ (by omega);have o:ee n k<n:=AG _ (by omega);have l:dx n k<n:=by have:=AG k (show 0<n-1 by omega);unfold dx;omega
 have b1:tT n k<n:=AG _ (by omega);have v:k6 n (q8 n k) (ee n k) (dx n k)=(tT n k:Y):=S9;have on:=aaO (m:=n) (a:=q8 n k) (x:=ee n k) (y:=dx n k);rw[v]at on;have d:=P4 on;have s:2<=jQ n k:=by
  unfold jQ;rw[rY,<-R2];have b:=(Jm d (.pt 0 0 FD)).2 (Df d);have c:=(Jm d (.pt (ee n k) (dx n k) E7)).2 on
  match hl:uc (q8 n k) (tT n k) n,b,c with
  |[],b,_=>simp at b
  |[z],b,c =>
   rw[AJ]at b c;rw[<-b]at c;simp at c
  |_::_::r,_,_=>simp
 have q:jQ n k<9007199254740992:=by
  unfold jQ;rw[rY];have:=JD (q8 n k) (tT n k) n n;have h3:=BO j j;unfold jr;omega
 have P:=fP (show 1<=jQ n k by omega);rw[<-fJ]at P;have h:1<=(aL (jQ n k)).length:=by
  obtain⟨p,f,u⟩:=oC _ (jQ n k) (Z0 _) (by omega);exact List.length_pos_of_mem (P.all p f u)
 have t:xU n k∈aL (jQ n k):=gS;obtain⟨p,e,q1,i,_⟩:=P.mem _ t;have g:(xU n k).toNat=p:=by omega
 exact⟨w,o,Nat.le_add_right 1 _,l,b1,s,q,by rw[g];exact q1,by rw[g];exact i,d,on,h,by rw[g];exact A2 (by omega) i⟩
structure Wj (n k:Nat):Prop where
 a:zA n k=(q8 n k:Int)
 x:zX n k=(ee n k:Int)
 y:zY n k=(dx n k:Int)
 b:zB n k=(tT n k:Int)
 o:zO n k=jQ n k
 l:zL n k=aL (jQ n k)
 q:zQ n k=xU n k
def akx{n:Z}(R:L9 n k)(h7:7<=n)(h2:n<=2000)(hk:k<1152921504606846976:=by omega):Wj n k:=by
 have a:zA n k=(q8 n k:Y):=lK k n;have hd:k/n<=k:=Nat.div_le_self k n;have ex:zX n k=(ee n k:Y):=by
  unfold zX;rw[DB (by omega),<-C3,rE (by omega),lK];rfl
 have b:zY n k=(dx n k:Y):=by
  unfold zY;rw[show(n:Y)-1=((n-1:Z):Y) by omega,rE (by omega),lK];have:=AG k (show 0<n-1 by omega);exact rE (x:=1+k%(n-1)) (by omega)
 have f:zB n k=(tT n k:Y):=by unfold zB;rw[a,ex,b];exact S9
 have c:zO n k=jQ n k:=by unfold zO jQ;rw[a,f,Z8,Z8,Z8]
 have j:=R.o2;have d:zL n k=aL (jQ n k):=by unfold zL;rw[c,xS,Z8]
 have hlen:=R.len;have Hv:(aL (jQ n k)).length<=100:=by
  have P:=fP (show 1<=jQ n k by have:=R.o;omega);have i:=lY (show 1<=jQ n k by have:=R.o;omega);rw[<-fJ]at P i;have:=qP (aL (jQ n k)) λx g=>by obtain⟨p,e,_,_,h⟩:=P.mem x g;omega
  have anN:B6 (jQ n k)<53:=(DO (by have:=R.o;omega)).2 j;omega
 refine⟨a,ex,b,f,c,d,?_⟩;unfold zQ xU;rw[d,show((aL (jQ n k)).length:Y)-1=(((aL (jQ n k)).length-1:Z):Y) by omega,rE (by omega),Z8]
def ame{A:V ab}{f:Z->MV}(i:ak A.length f (aF A 200)){v:MV}(hv:kv 200 v)(g:qI v=s):ak (A.length+1) (λq=>bif A4 q A.length then f q else aU [v] (q-A.length)) (aF (A++[s]) 200):=by
 refine⟨λq hq c w a r=>?_⟩;have r:aj c w (bif A4 q A.length then f q else aU [v] (q-A.length)) a:=r;show aj c w (jV ((A++[s]).getD q aB) 200) a;by_cases b:q<A.length
 .have e:A4 q A.length=FD:=by simpa [BL]using b
  rw[e,Z6]at r;have k:(A++[s]).getD q aB=A.getD q aB:=by rw[AB,AB,BY b]
  rw[k];exact i.h q b c w a r
 .have d:q=A.length:=by omega
  subst d;have e:A4 A.length A.length=E7:=by
   cases j:A4 A.length A.length with
   |false=>rfl
   |true=>exact M (BL ▸ j) (EF _)
  rw[e,Z5,EN]at r;rw[zC A s,<-g];exact hv.h c w a r
theorem P3{z:Y}(h1:0<=z)(h2:z<18446744073709551616):ff (bX z):=⟨aM _,by
 have:=bR (n:=z.natAbs) (b:=64);show(aA z.natAbs).length<=6;omega,Z9 _,Z9 _⟩
def G!(n at_:Z)(a b x y o:Z):MV:=MV.st [MV.int FA (4:Y),MV.aa (↑n:Y) (64:Z),MV.sl (1:Z) (1:Z) λi=>MV.int FA (E [(at_:Y)] i (0:Y)),MV.val (BV E9 (0:Z) (0:Z)),MV.st [MV.aa (a:Y) 64,MV.aa (b:Y) 64,MV.aa (↑n:Y) (64:Z)],MV.st [MV.aa (x:Y) 64,MV.aa (y:Y) 64,MV.bool E7],MV.aa (o:Y) (64:Z)]
def aeH{n at_ a x y o:Z}(c:n<2^160):isOk (G! n at_ a b x y o):=lA (by omega) (by omega) (by omega) (by omega) (by omega) (by omega) (pG _) pF (by simpa using c) (by show 1<=90;omega) (by show 0<=1000;omega)
def aaL(n at_ a b x y o:Z):qI (G! n at_ a b x y o)=lR n at_ a b x y o:=by
 show(⟨4,J ((n:Y)<0),aA (n:Y).natAbs, [(at_:Y)], [],a,b,n,x,y,E7,o⟩:ab)=_;rw[Y1 (show ¬(n:Y)<0 by omega)];rfl
theorem zv(L:V ab)(n k:Z):(iI L n k).length=L.length+2:=by simp[iI]
def YE(L:V ab)(n k:Z):(iI L n k).take (L.length+1)=L++[bX (xU n k)]:=by
 unfold iI;rw[List.take_append,AC (by omega)];simp
def aaK(L:V ab)(n k:Z):(iI L n k).getD (L.length+1) aB=lR n L.length (q8 n k) (tT n k) (ee n k) (dx n k) (jQ n k):=by simp[iI,AB]
def Fz(n at_ a b x y o:Z):(lR n at_ a b x y o).n=n:=by
 show(if E7=FD then-(wv (aA n))else wv (aA n))=(n:Y);rw[G (by decide),iE]
theorem QO{n at_ a x y o:Z}(hn:n<18446744073709551616):ff (lR n at_ a b x y o):=⟨aM _,by
 have:=bR (n:=n) (b:=64);show(aA n).length<=6;omega,by show 1<=90;omega,by show 0<=1000;omega⟩
def aiH(L:FE ab)(n a K:FF)(V:aw n)(v:7<=n)(l:n<=2000)(r:a%n<=K)(hK:K<1152921504606846976)(X:e8 L)(hl:L.length<=900000)(W:fp L L.length)(t:pU L n K=FD)(xu:∀k,a%n<=k->k<K->pU L n k=E7) :
  ∃E:Env AA,nN E E2 18 [.int .u64 n,.int .u64 a] L.length (aF L 200) (iI L n K).length (aF (iI L n K) 200) (.int .i64 (((iI L n K).length:FG)-1)):=by
 refine⟨wz [Qd,Dl,Ds,Rh,Aq,mD,Dr,v7,cC] [] UQ (T8 n (a%n) K L) (Uv n L),?_⟩;rw[<-ak6 L n a K _ rfl _ rfl _ rfl _ rfl _ rfl _ rfl];have U?:a%n<n:=AG _ (by omega);have e1:FH FA (n:FG)=(n:FG):=rE (by omega);have e2:FH FA (FI (a:FG) (n:FG))=((a%n:FF):FG):=by rw[lK,rE (by omega)]
 have e3:FH FA ((n:FG)-1)≠0:=by rw[show(n:FG)-1=((n-1:FF):FG) by omega,rE (by omega)];omega
 have Z:FH FA ((L.length:FG)+1)=((L.length+1:FF):FG):=rE (x:=L.length+1) (by omega);rw[e1,e2,Z,Z8];have w:∀m:MV,AO (bh.rows 18 1 (aU [m]))=1:=λ_=>rfl;refine⟨by omega,⟨⟨a%n, []⟩,⟨Z0 _,r⟩,⟨rfl,rfl,rfl,rfl,⟨⟩⟩,⟨⟨rfl,rfl⟩,⟨⟩⟩,⟨rfl,by
  grind [aF,AE]⟩,⟨⟩⟩,λs I=>?_⟩
 obtain⟨k,ex⟩:=s;obtain⟨N,H⟩:=I;dsimp only at N H⊢;have R:=Eb V v l k;obtain⟨q1,G,F,D,C,B,A⟩:=akx R v l;rw[q1,G,F,D,C,B,A,w,w];obtain⟨r1,r2,r3,r4,r5,r6,r7,z,asO,asJ,asK,asL,asM⟩:=R;have asN:=z.lt;have y:FH FA ((k:FG)+1)=((k+1:FF):FG):=rE (x:=k+1) (by omega);rw[y,xS];have Y:FH FA (((aL (jQ n k)).length:FG)-1)=(((aL (jQ n k)).length-1:FF):FG):=by
  have Hv:(aL (jQ n k)).length<=1000:=by
   have P:=fP (show 1<=jQ n k by omega);have U:=lY (show 1<=jQ n k by omega);rw[<-fJ]at P U;have:=qP (aL (jQ n k)) λx T=>by obtain⟨p,e,_,_,h⟩:=P.mem x T;omega
   have anN:B6 (jQ n k)<53:=(DO (by omega)).2 r7;omega
  grind [aL,jQ,rE]
 rw[Y];have next:pU L n k=E7->∃j,py (a%n) K j/\(((0:FF)=0/\(↑n:FG)=(↑n:FG)/\(↑n:FG)=(↑n:FG)/\((k+1:FF):FG)=(↑(ct.k j):FG)/\True)/\(((0:FF)=0/\FJ L=FJ L)/\True)/\(FJ L+FJ ex=FJ L+FJ (ct.ex j)/\ak (FJ L+FJ ex) (aF (L++ex) (200:FF)) (aF (L++ct.ex j) (200:FF)))/\True)/\K+1-ct.k j<K+1-k:=λc=>by
  have o:k≠K:=λe=>by rw[e,t]at c;exact FK c (by decide)
  exact⟨⟨k+1,ex⟩,⟨by show a%n<=k+1;omega,by show k+1<=K;omega⟩,⟨⟨rfl,rfl,rfl,rfl,⟨⟩⟩,⟨⟨rfl,rfl⟩,⟨⟩⟩,⟨rfl,AE⟩,⟨⟩⟩,by show K+1-(k+1)<K+1-k;omega⟩
 refine⟨by omega,by omega,e3,by omega,by omega,by omega,?_⟩;cases i:qA (q8 n k) (tT n k) n with
 |false =>
  exact next (by unfold pU;rw[i];rfl)
 |true =>
 show _/\_;refine⟨by omega,by omega,by omega,by omega,by omega,by omega,by omega,by omega,?_⟩;cases u:gh (xU n k) n with
 |false =>
  grind [pU]
 |true =>
 show _/\_;have hv:isOk (G! n L.length (q8 n k) (tT n k) (ee n k) (dx n k) (jQ n k)):=aeH (DV l (by decide));have g:=Je (M:=L) (ex:=ex) (R9 (xU n k)) (rfl:qI (se (xU n k))=bX (xU n k));have f:(L++[bX (xU n k)]).length=L.length+1:=by simp
 rw[<-f]at g;have b:=ame g hv.jn (aaL n L.length (q8 n k) (tT n k) (ee n k) (dx n k) (jQ n k));rw[f,List.append_assoc]at b;unfold ju G! at b;have x7:e8 (iI L n k):=⟨by rw[zv];omega,λs hs=>by
  unfold iI at hs;rcases AU.1 hs with hs|hs
  .exact X.ok s hs
  grind [P3,AJ,QO]⟩
 have LD:=oE x7;rw[zv]at LD;refine⟨by omega,by omega,⟨by omega,by omega,by omega,by omega,⟨Z0 _,by omega⟩,⟨k, []⟩,⟨rfl,i,u⟩,⟨rfl,rfl,rfl,rfl,rfl,⟨⟩⟩,⟨⟨rfl,rfl⟩,⟨⟩⟩,⟨rfl,b⟩,⟨⟩⟩,λs2 J=>?_⟩;obtain⟨k',Hn⟩:=s2;obtain⟨S,Q,O⟩:=J;dsimp only at S Q O⊢;have q:k'=k:=by omega
 subst q;rw[Zx (zv L n k'),YE,aaK];refine⟨⟨Z0 _,by omega,by omega,LD,⟨λj hj=>?_⟩⟩,?_⟩
 .by_cases d:j<L.length
  .have:(iI L n k').getD j aB=L.getD j aB:=by unfold iI;rw[AB,AB,BY d]
   rw[this];exact W.h j d
  grind [iI,aB,bX,xU,JF]
 .cases hs:cE (bj (L++[bX (xU n k')])) (lR n L.length (q8 n k') (tT n k') (ee n k') (dx n k') (jQ n k'))with
  |true =>
   grind [pU,AK,zv,AE]
  |false =>
   have c:pU L n k'=E7:=by unfold pU;rw[i,u,hs];rfl
   have o:k'≠K:=λe=>by rw[e,t]at c;exact FK c (by decide)
   exact⟨by omega,⟨k'+1, [bX (xU n k'),lR n L.length (q8 n k') (tT n k') (ee n k') (dx n k') (jQ n k')]⟩,⟨by show a%n<=k'+1;omega,by show k'+1<=K;omega⟩,⟨⟨rfl,rfl,rfl,y,⟨⟩⟩,⟨⟨rfl,Z8 _⟩,⟨⟩⟩,⟨rfl,AE⟩,⟨⟩⟩,by show K+1-(k'+1)<K+1-k';omega⟩
def m?(L:V ab)(n a:Z):Z:=BN (⟨e? (pU L n) 1125899906842624 (a%n),rfl⟩:∃r,r=e? (pU L n) 1125899906842624 (a%n))
def QN(L:V ab)(n a:Z):m? L n a=e? (pU L n) 1125899906842624 (a%n):=A8 (⟨e? (pU L n) 1125899906842624 (a%n),rfl⟩:∃r,r=e? (pU L n) 1125899906842624 (a%n))
def ka(L:V ab)(n a:Z):V ab:=BN (⟨iI L n (m? L n a),rfl⟩:∃r,r=iI L n (m? L n a))
def I?(L:V ab)(n a:Z):ka L n a=iI L n (m? L n a):=A8 (⟨iI L n (m? L n a),rfl⟩:∃r,r=iI L n (m? L n a))
structure KX (m:Nat) (g:Nat->MV) (n fr:Int):Prop where
 pr:aw n.toNat
 n7:7<=n
 n2:n<=2000
 f0:0<=fr
 f6:fr<1099511627776
 ok:cw m g
 ic:fp (aE m g) m
 len:m<=900000
 yes:∃k,n.toNat-1<=k/\k<1099511627776/\pU (aE m g) n.toNat k=true
def Gm:V MV->Z->(Z->MV)->o (bq×Z×(Z->MV)×MV)
 |[.int .u64 n,.int .u64 a],m,g=>E8 (E8 (KX m g n a),(ka (aE m g) n.toNat a.toNat).length,aF (ka (aE m g) n.toNat a.toNat) 200,.int .i64 (((ka (aE m g) n.toNat a.toNat).length:Y)-1))
 |_,_,_=>E9
def aeI:fg AA 28 18 Gm:=oN bQ Tryz.func28 Gm λms m g p n' g' v c l=>by
 unfold Gm at c;split at c
 .rename_i d f0;simp only[Z1,Z2]at c;obtain⟨rfl,rfl,rfl,rfl⟩:=c;have H:KX m g d f0:=l;obtain⟨n,rfl⟩:∃n:Z,d=n:=⟨d.toNat,by have:=H.n7;omega⟩;obtain⟨a,rfl⟩:∃n:Z,f0=n:=⟨f0.toNat,by have:=H.f0;omega⟩;obtain⟨pr,n7,n2,f0,f6,ok,ic,len,k,y1,y2,j⟩:=H;rw[Z8]at *;rw[Z8]at *;have e:=dD m g;have b:fp (aE m g) (aE m g).length:=by rw[e];exact ic
  have U?:a%n<n:=AG _ (by omega);have i:=Fx (pU (aE m g) n) 1125899906842624 (a%n);have o:=Fa (pU (aE m g) n) 1125899906842624 (a%n);have h:=Dc (pU (aE m g) n) 1125899906842624 (a%n);have f:=vc (pU (aE m g) n) 1125899906842624 (a%n) k (by omega) (by omega) j;rw[<-QN]at i o h f;have:=aiH (aE m g) n a (m? (aE m g) n a) pr (by omega) (by omega) i (by omega) ok.T (by omega) b f h;rw[<-I?,e]at this;exact⟨aF (aE m g) 200,jW ok.jn,this⟩
 .simp at c
def alZ:j2 AA:=⟨28,18,Gm,λargs w=>Tryz.call28 args w,aeI⟩
def acb{N:Z}(b:aw N):aL N=[(N:Y)]:=by
 have g:=b.lt;have P:=fP (show 1<=N by omega);rw[<-fJ]at P;have a:∀x∈aL N,x=(N:Y):=λx f=>by
  obtain⟨p,rfl,q1,d,_⟩:=P.mem x f;rw[q1.xn b d]
 have c:=P.all N b (Nat.dvd_refl N)
 match hl:aL N,c,a,P.pw with
 |[],c,_,_=>simp at c
 |[x],_,a,_=>rw[a x (AD ..)]
 |x::y::r,_,a,e =>
  have g:=a x (AD ..);have h2:=a y (AF _ (AD ..));have:=(List.pairwise_cons.1 e).1 y (AD ..);omega
def aaD{a N:Z}(h:Gb p a b N=FD):¬p ∣ 4*(a*(a*a))+27*(b*b)/\aw N/\N<1681/\gh N p=FD:=by
 unfold Gb at h;simp only[Z3,CT,BL]at h;obtain⟨d,j,c,i,g⟩:=h;refine⟨λf=>?_,oG j c i,c,g⟩;have e:Nat.mod (4*(a*(a*a))+27*(b*b)) p=0:=DF f;rw[e]at d;simp at d
def ZC{n:Z}(f:aw n)(g:7<=n)(i:n<1512):∃k,n-1<=k/\k<n+100/\ko n k=FD:=by
 rcases abv n i g with h|⟨d,_,d2,d3,d4⟩
 .rw[D0]at h;obtain⟨q,c,h⟩:=h;simp only[Z3,BL]at h;obtain⟨⟨b,a⟩,j⟩:=h;have b:=A0 b;have a:=Nat.le_of_ble_eq_true a;have:=aen q c;rw[b]at this;exact⟨q.2,a,j,this⟩
 .rcases f.dv d (AR d3)with e|e<;>omega
def ZO(A M X Y:FG):cL A M (.pt X Y E7) 1= .pt X Y E7:=by
 rw[uZ (by decide),show 1/2=0 from rfl,rK];rfl
def aaN{n:Z}(d:aw n)(p:7<=n)(s:n<=2000)(o:aw (jQ n k))(j:xU n k=(jQ n k:Y))(c:qA (q8 n k) (tT n k) n=FD)(l:gh (jQ n k) n=FD)(L:V ab) :
  cE (bj (L++[bX (xU n k)])) (lR n L.length (q8 n k) (tT n k) (ee n k) (dx n k) (jQ n k))=FD:=by
 have R:=Eb d p s k;have h1:=o.lt;have h:(bj (L++[bX (xU n k)])).length=L.length+1:=by simp[bj]
 have b:(bj (L++[bX (xU n k)])).getD L.length 0=(jQ n k:Y):=by
  have:(bX (xU n k)).n=(jQ n k:Y):=by rw[j];exact Kk
  simp[bj,AB,this]
 have e:cD (bj (L++[bX (xU n k)])) [(L.length:Y)] []=E8 [(jQ n k:Y)]:=by
  rw[pM,Z8,b,h,Y0 (show(0:Y)<=L.length by omega),Y0 (show(L.length:Y)<((L.length+1:Z):Y) by omega)];rfl
 unfold cE;rw[Fz,show(lR n L.length (q8 n k) (tT n k) (ee n k) (dx n k) (jQ n k)).can=FD from u4 n,Y0 (show(1:Y)<n by omega),EC,EC];show(match cD (bj (L++[bX (xU n k)])) [(L.length:Y)] []with|none=>E7|some q=>yF (lR n L.length (q8 n k) (tT n k) (ee n k) (dx n k) (jQ n k)).n 0 (q8 n k) (tT n k) n (ee n k) (dx n k) (jQ n k) E7 q)=FD;rw[e,Fz];dsimp only;have a:=R.on;have g:bH (q8 n k) (tT n k) n ((jQ n k:Y)/(jQ n k:Y)) (ee n k) (dx n k) E7=⟨ee n k,dx n k,E7,0,0⟩:=by
  rw[Int.ediv_self (by omega)];unfold bH;rw[a,Z6,Y1 (show ¬(1:Y)<0 by omega),Z5,show(1:Y).natAbs=1 from rfl,ZO];rfl
 have f:bH (q8 n k) (tT n k) n (jQ n k:Y) (ee n k) (dx n k) E7=⟨0,0,FD,0,0⟩:=by
  unfold bH;have i:=aaM (t:= .pt (ee n k) (dx n k) E7) d (by omega) R.anh c a;rw[<-rY]at i;rw[a,Z6,Y1 (show ¬(jQ n k:Y)<0 by omega),Z5,AQ];show(cL (q8 n k) n (.pt (ee n k) (dx n k) E7) (jQ n k)).rs=_;rw[show jQ n k=wo (q8 n k) (tT n k) n from rfl,i];rfl
 have r:gcd n 6=1:=by
  rw[Int.gcd_comm];exact Cf d λm=>by
   have:=CM (by decide) m;have:n=7\/n<7:=by omega
   omega
 unfold qA at c;unfold yF;dsimp only;rw[g];dsimp only;rw[f,a,l,of_decide_eq_true c,r,Y0 (show(3:Y)<n by omega),Y0 (show(0:Y)<jQ n k by omega),Int.emod_self,Y0 (rfl:(n:Y)=n)];rfl
def Pn{n:Z}(b:aw n)(g:7<=n)(m:n<1512)(L:V ab):∃k,n-1<=k/\k<1099511627776/\pU L n k=FD:=by
 obtain⟨k,j,k2,a⟩:=ZC b g m;unfold ko at a;rw[aeD _ _,<-rY]at a;have a:Gb n (q8 n k) (tT n k) (jQ n k)=FD:=a;obtain⟨o,i,g3,h⟩:=aaD a;have c:qA (q8 n k) (tT n k) n=FD:=Y0 (Cf b λf=>o (by
  have e:(4*((q8 n k:Y)*((q8 n k:Y)*q8 n k))+27*((tT n k:Y)*tT n k))=((4*(q8 n k*(q8 n k*q8 n k))+27*(tT n k*tT n k):Z):Y):=by simp[Int.natCast_add,BS]
  rw[e]at f;exact A7.1 f))
 have d:xU n k=(jQ n k:Y):=by unfold xU;rw[acb i];rfl
 refine⟨k,j,by omega,?_⟩;have l:=aaN b g (by omega) i d c h L;unfold pU;rw[c,l,d,h];rfl
structure ja (R:List ab) (p:Int):Prop where
 right:eB [] R
 ok:e8 R
 ic:∀s∈R,s.can=true/\2<=s.n
 last:(R.getD (R.length-1) aB).n=p
 pos:1<=R.length
 len:R.length<=200
def ja.anc{R:V ab}{p:Y}(h:ja R p):tR [] R 0=E9:=(H! R [] 0).2 h.right
def ja.fw{R:V ab}{p:Y}(h:ja R p):fw R=0:=by
 unfold Go.Proofs.YtkejceafemeifaaGreatDoor.fw;rw[h.anc];dsimp only;have:R.length.beq 0=E7:=by
  cases a:R.length.beq 0 with
  |true=>have:=A0 a;have:=h.pos;omega
  |false=>rfl
 rw[this];rfl
def ja.asF{R:V ab}{p:Y}(h:ja R p):xB R p=FD:=by
 unfold xB;rw[h.fw,h.last,Y0 (rfl:(0:Y)=0),Y0 (rfl:p=p)];rfl
def ja.LD{R:V ab}{p:Y}(h:ja R p):cw R.length (aF R 200):=oE h.ok
def qg{n:Z}(a:n≠0:=by omega)(h:n<1099511627776:=by omega):B6 n<40:=(DO a).2 h
def QL{R:V ab}{w:Z}{z:Y}(P:n? [] R w z)(hw:w<40)(c:eB [] R):ja R z:=by
 have d:=P.hi;have b:=P.lo;rw[D6]at d b;exact⟨c,⟨by omega,P.ok λs a=>M a AX⟩,P.ic λs a=>M a AX,P.last,by omega,by omega⟩
def ZN{f:Z}{z:Y}(a:f<=20)(h:Fits f z)(hz:z<1099511627776:=by omega):ja (jN f [] z) z:=by
 rw[pO];have:=h.two;exact QL (pP f [] z a h) (qg) (qC f [] z a h trivial)
def abG{f n:Z}(g:aw n)(i:3<=n:=by omega)(d:n<1099511627776:=by omega)(e:n<65536*2^(f+1):=by omega)(a:f<=20:=by omega):ja (m6 f [] n) n:=by
 rw[Cm];have h:=j7 g;have c:=wH (f:=f) (n:=n) (by omega) h e;exact QL (PQ [] i d h (λx b L=>pP f L x a (c x b)) (Nat.le_max_right 2 (B6 n)) (Nat.le_max_left 2 (B6 n))) (by have:=qg (n:=n) (by omega) d;omega) (Nb g i d a c (λx b L j=>qC f L x a (c x b) j) trivial)
def TX(n k:Z)(I:V Y):(fN n k I).n=n:=so n I []
def ZM{f n:Z}(e:aw n)(i:5<=n)(o:n<4194304)(a:n+1<65536*2^(f+1))(c:f<=20)(j:Z):ja (qB f [] n j) n:=by
 have ho:=j7 e;have h:=Ih (f:=f) (show 2<=n+1 by omega) (by omega) a;have A:=Of e i a c [];have E:=Og e i o A j;have k:=lY (show 1<=n+1 by omega);rw[<-fJ]at k;have hlen:=qP (aL (n+1)) λx d=>(h x d).two;have K0:=qg (n:=n+1);have g:=A.hi;rw[D6]at g;have hA:=A.len;rw[I1];unfold qq;have l:eB [] (jA f [] (aL (n+1))):=by
  rw[nX];exact yB _ [] (λx d L m=>qC f L x c (h x d) m) trivial
 refine⟨l5 l E.yes,⟨by simp;omega,λs hs=>?_⟩,λs hs=>?_,by rw[oO];exact TX n _ _,by simp,by simp;omega⟩
 .rcases AU.1 hs with hs|hs
  .exact A.ok (λs hs=>M hs AX) s hs
  .rw[AJ.1 hs];refine⟨aM _,?_,?_,by show 2<=1000;omega⟩
   .have:=bR (n:=n) (b:=64);show(aA n).length<=6;omega
   .show(er f [] (aL (n+1))).length<=90;omega
 .rcases AU.1 hs with hs|hs
  .exact A.ic (λs hs=>M hs AX) s hs
  .rw[AJ.1 hs,TX];exact⟨u4 n,by omega⟩
def O4(n v:Z):∀k,((DS k).filter λy=>y*y%n==v).length=kP n v k
 |0=>rfl
 |k+1=>by
  have:=O4 n v k;rw[List.range_succ,List.filter_append,A9,this];show _=kP n v k+(if k*k%n=v then 1 else 0);by_cases e:k*k%n=v
  .simp[e]
  .simp[e]
def aeE(c:aw p)(v:Z):kP p v p<=2:=by
 have d:=c.lt;rw[<-O4];have:=Ia (iY c) (k:=1) (λb=>by have:=CM (by decide) b;omega) 2 [-(v:Y),0] (((DS p).filter λy=>y*y%p==v).map λy:Z=>(y:Y)) rfl (by
  rw[List.pairwise_map];refine List.Pairwise.imp_of_mem (R:=λx y=>x<y) (λ{x y} hx a HC b=>?_) (List.Pairwise.filter _ List.pairwise_lt_range);have a:=CD.1 (D5.1 a).1;obtain⟨z,hz⟩:=b;have d:(y:Y)-x=p*(-z):=by rw[Int.mul_neg];omega
  have h2:=CM (show 0<(y:Y)-x by omega) ⟨-z,d⟩;omega) (λr f=>by
  obtain⟨y,a,rfl⟩:=DE.1 f;have e:y*y%p=v:=by simpa using (D5.1 a).2
  show(p:Y) ∣ -(v:Y)+y*(0+y*1);have g: -(v:Y)+y*(0+y*1)=(y:Y)*y-((y*y%p:Z):Y):=by rw[e];grind
  rw[g,Int.natCast_emod,BS];exact wV _ _)
 simpa using this
def JE{p:Z}(c:aw p)(a b:Z):∀k,qV a b p k<=1+2*k
 |0=>Z0 1
 |k+1=>by
  have h1:=JE c a b k;have h2:=aeE c (sY a b p k);unfold qV;omega
def abF{n:Z}(c:aw n)(d:7<=n)(i:n<1512)(b:Z):ja (ka [] n b) n:=by
 obtain⟨g,y1,y2,f⟩:=Pn c d i [];have U?:b%n<n:=AG _ (by omega);have a:=vc (pU [] n) 1125899906842624 (b%n) g (by omega) (by omega) f;rw[<-QN]at a;rw[I?];generalize m? [] n b=K at *;have R:=Eb c d (by omega) K;have hq:=R.q.lt;have hle:jQ n K<=1+2*n:=by unfold jQ;rw[rY];exact JE c _ _ n
 have aoM:=R.HJ;unfold pU at a;simp only[Z3]at a;have h:=IW [] R.q (z:=xU n K);have e:iI [] n K=([]++[bX (xU n K)])++[lR n 0 (q8 n K) (tT n K) (ee n K) (dx n K) (jQ n K)]:=rfl;rw[e];refine⟨l5 (l5 trivial h) a.2.2,⟨by simp,λs hs=>?_⟩,λs hs=>?_,by rw[oO];exact Fz n 0 _ _ _ _ _,by simp,by simp⟩
 .rcases AU.1 hs with hs|hs
  .rw[D4,AJ]at hs;rw[hs];exact P3 (by omega) (by omega)
  .rw[AJ.1 hs];exact QO (by omega)
 .rcases AU.1 hs with hs|hs
  .rw[D4,AJ]at hs;rw[hs];exact JF (by omega)
  .rw[AJ.1 hs,Fz];exact⟨u4 n,by omega⟩
def Nn:∀(f n q:Z),n<=q->q<n+f->gX q=FD->gX (nP f n)=FD/\nP f n<=q
 |0,n,q,c,h2,_=>by omega
 |f+1,n,q,c,h2,a=>by
  unfold nP;cases b:gX n with
  |true=>exact⟨b,c⟩
  |false =>
   have:q≠n:=λe=>by rw[e,b]at a;exact M a (by decide)
   exact Nn f (n+1) q (by omega) (by omega) a
section
theorem oQ{α β:Type}{f g:α->o β}:∀(l:V α) (c:V β),l.mapM f=E8 c->(∀a x,f a=E8 x->x∈c->g a=E8 x)->l.mapM g=E8 c
 |[],c,h,_=>h
 |a::l,c,h,e=>by
  simp only[C8,CC,CY,AH,Z1]at h⊢;obtain⟨x,m,d,k,rfl⟩:=h;exact⟨x,e a x m (AD ..),d,oQ l d k λb y j i=>e b y j (AF _ i),rfl⟩
theorem Na{α β:Type}{f g:α->o β}:∀(l:V α) (c:V β),l.mapM f=E8 c->(∀a∈l,∀x,f a=E8 x->x∈c->g a=E8 x)->l.mapM g=E8 c
 |[],c,h,_=>h
 |a::l,c,h,e=>by
  simp only[C8,CC,CY,AH,Z1]at h⊢;obtain⟨x,n,d,m,rfl⟩:=h;exact⟨x,e a (AD ..) x n (AD ..),d,Na l d m λb k y i j=>e b (AF _ k) y i (AF _ j),rfl⟩
theorem Yv{w w':R}(e:∀b,b<w.heap.size->w'.heap[b]? =w.heap[b]?){a:Addr}(h:w.cell? a=E8 v):w'.cell? a=E8 v:=by
 have c:a.block<w.heap.size:=by
  unfold CB at h
  grind
 unfold CB at h⊢;rw[e _ c];exact h
def XM{w w':R}(e:∀b,b<w.heap.size->w'.heap[b]? =w.heap[b]?){base:Z}{a:Addr}{n:Z}{c:V U}(h:w.cells? base a n=E8 c):w'.cells? base a n=E8 c:=by
 unfold World.cells? at h⊢
 grind [oQ,Yv]
section
variable {H:Type} {enc:TypeId×Value->H} {P:Program} {w w':World}
def wb(P:FL)(L:V Z)(t:Z):O:=match P.underlying t with
 |some (.pointer e)=>L.elem e
 |some (.slice e)=>L.elem e&&(0).blt (P.cellsOf e)
 |some (.struct a)=>a.toList.all λf=>L.elem f.type
 |some (.array _ e)=>L.elem e
 |some (.interface _)=>E7
 |some (.map _ e)=>L.elem e
 |_=>FD
def Ow{L:V Z}(D:L.all (wb P L)=FD)(e:∀b,b<w.heap.size->w'.heap[b]? =w.heap[b]?)(j:Z->O)(d:O) :
  ∀(fuel:Z) (t:FM) (v:V U) (x:DataW H×V MemPlace),t∈L->AS enc P w 0 (λ_=>FD) d fuel t v=E8 x->(∀p∈x.2,j p.block=FD)->AS enc P w' 0 j d fuel t v=E8 x
 |0,_,_,_,_,h,_=>by simp[AS]at h
 |fuel+1,t,v,x,J,h,k=>by
  have I:=Ow D e j d fuel;have c:=C1.1 D t J;unfold wb at c;unfold AS at h⊢;have F:∀(a:Addr) (n:Z) (u:FM) (y:DataW H×V MemPlace),u∈L->(w.cells? 0 a n).bind (AS enc P w 0 (λ_=>FD) d fuel u)=E8 y->(∀p∈y.2,j p.block=FD)->(w'.cells? 0 a n).bind (AS enc P w' 0 j d fuel u)=E8 y:=by
   intro a n u y g l K;obtain⟨B,m,s⟩:=AH.1 l;exact AH.2 ⟨B,XM e m,I u B y g s K⟩
  split at h
  case h_21=>simp at h
  case h_6 =>
   rename_i g;rw[g]at c;obtain⟨y,m,rfl⟩:=AN.1 h;exact AN.2 ⟨y,F _ _ _ _ (A5 c) m λp o=>k p (BB _ o),rfl⟩
  case h_8 =>
   rename_i G a len cap g;rw[g]at c;simp only[Z3,BL]at c;have A:=A5 c.1;dsimp only at h⊢;split at h
   .rename_i r;rw[T r];obtain⟨elems,m,h⟩:=AH.1 h;obtain⟨rest,s,rfl⟩:=AN.1 h;rw[T rfl]at s;have z:=c.2;have q1:∀y∈elems,∀p∈y.2,j p.block=FD:=λy l p o=>k p (BB _ (DY.2 ⟨y,BR _ l,o⟩));have q2:∀y∈rest,∀p∈y.2,j p.block=FD:=λy l p o=>k p (BB _ (DY.2 ⟨y,BB _ l,o⟩));refine AH.2 ⟨elems,oQ _ _ m λi y M l=>F _ _ _ _ A M (q1 y l),AN.2 ⟨rest,?_,rfl⟩⟩;by_cases E:rest=[]
    .subst E;have:cap-len=0:=by
      rcases BA (cap-len)with h|h
      .exact h
      .obtain⟨n,hn⟩:=Nat.exists_eq_succ_of_ne_zero (Nat.pos_iff_ne_zero.1 h)
       simp_all [List.range_succ_eq_map,AH]
     grind
    .have q:0<(elems.length+rest.length)*P.cellsOf G:=EX (by have:=List.length_pos_iff.2 E;omega) z;have:j a.block=FD:=k (.cell a.block (a.off+0)) (BR _ (DE.2 ⟨0,CD.2 q,rfl⟩))
     grind [oQ]
   .simp at h
  case h_9 =>
   rename_i fs g;rw[g]at c;split at h
   .grind [AN,Na,A5,C1]
   .simp at h
  case h_10 =>
   rename_i n G g;rw[g]at c;split at h
   .grind [AN,oQ,A5]
   .simp at h
  case h_12 =>
   rename_i g;rw[g]at c;simp at c
  case h_14 =>
   rename_i b g;rw[g]at c;split at h
   .rename_i es clock C;rw[e b (BE.1 C).1,C];dsimp only;split at h
    .rename_i r;rw[T r];obtain⟨entries,m,h⟩:=AH.1 h;have xw:∀y∈entries,∀p∈y.2,j p.block=FD:=by
      grind
     refine AH.2 ⟨entries,oQ _ _ m λf y hf l=>?_,h⟩
     grind [AH,AN,A5]
    .simp at h
   .simp at h
  all_goals
   exact h
def Mk{L:V Z}(m:L.all (wb P L)=FD)(e:∀b,b<w.heap.size->w'.heap[b]? =w.heap[b]?)(g:Z->O) :
  ∀(a:V z) (f:V U) (j:V (DataW H)) (i:V MemPlace),(∀t∈a,t∈L)->CG enc P w 0 (λ_=>FD) FD a f j i->(∀p∈i,g p.block=FD)->CG enc P w' 0 g FD a f j i
 |[], [], [],_,_,h,_=>h
 |t::a,v::f,d::j,i,l,h,c=>by
  obtain⟨p,q,⟨fuel,r⟩,o,rfl⟩:=h;exact⟨p,q,⟨fuel,Ow m e g FD fuel t _ _ (l t (AD ..)) r λp k=>c p (BR _ k)⟩,Mk m e g a f j q (λu n=>l u (AF _ n)) o λp k=>c p (BB _ k),rfl⟩
 |[],_::_,_,_,_,h,_=>h.elim
 |[], [],_::_,_,_,h,_=>h.elim
 |_::_, [],_,_,_,h,_=>h.elim
 |_::_,_::_, [],_,_,h,_=>h.elim
end
end
section
abbrev ph:Z->Prop:=λ_=>D
section
variable {H:Type} {enc:TypeId×Value->H} {P:Program} {w:World} {sp:Nat->Bool} {held:Bool}
def IX{α β:Type}{f:α->o β}:∀(l:V α) (c:V β),l.mapM f=E8 c->∀a∈l,∃x,f a=E8 x
 |[],_,_,a,ha=>by simp at ha
 |b::l,c,h,a,ha=>by
  simp only[C8,CC,CY,AH,Z1]at h;obtain⟨x,g,d,e,rfl⟩:=h;rcases B0.1 ha with rfl|ha
  .exact⟨x,g⟩
  .exact IX l d e a ha
def Mw{t:z}{a:N Field}{b:V U}{x:DataW H×V MemPlace}(d:P.underlying t=E8 (.struct a))(h:AS enc P w 0 sp held fuel t b=E8 x) :
  b.length=P.cellsOf t/\∃KZ,∀f∈a.toList,∃y,AS enc P w 0 sp held KZ f.type ((b.drop f.offset).take (P.cellsOf f.type))=E8 y:=by
 cases fuel with
 |zero=>simp[AS]at h
 |succ fuel =>
  unfold AS at h;rw[d]at h;split at h
  all_goals first|(rename_i j;simp at j;done)|skip
  .rename_i aqD c;simp only[Z1,TypeDesc.struct.injEq]at c;subst c;split at h
   .rename_i g;obtain⟨xs,i,rfl⟩:=AN.1 h;exact⟨g,fuel,IX _ _ i⟩
   .simp at h
  .rename ∀(anD:N Field),E8 (TypeDesc.struct a)=E8 (TypeDesc.struct anD)->D=>e
   exact(e a rfl).elim
def trod_array{t e:z}{n:Z}{a:V U}{x:DataW H×V MemPlace}(c:P.underlying t=E8 (.array n e))(h:AS enc P w 0 sp held fuel t a=E8 x) :
  a.length=P.cellsOf t/\∃KZ,∀i,i<n->∃y,AS enc P w 0 sp held KZ e ((a.drop (i*P.cellsOf e)).take (P.cellsOf e))=E8 y:=by
 cases fuel with
 |zero=>simp[AS]at h
 |succ fuel =>
  unfold AS at h;rw[c]at h;split at h
  all_goals first|(rename_i l;simp at l;done)|skip
  .rename_i n' e' b;simp only[Z1,TypeDesc.array.injEq]at b;obtain⟨rfl,rfl⟩:=b;split at h
   .rename_i g;obtain⟨xs,j,rfl⟩:=AN.1 h;exact⟨g,fuel,λi d=>IX _ _ j i (CD.2 d)⟩
   .simp at h
  .rename ∀(k:Z) (ann:z),E8 (TypeDesc.array n e)=E8 (TypeDesc.array k ann)->D=>f
   exact(f n e rfl).elim
def trod_int{t:z}{k:IntKind}{c:V U}{x:DataW H×V MemPlace}(d:P.underlying t=E8 (.int k))(h:AS enc P w 0 sp held fuel t c=E8 x) :
  ∃n,c=[.int k n]/\(C7 k n).wf=FD:=by
 cases fuel with
 |zero=>simp[AS]at h
 |succ fuel =>
  unfold AS at h;rw[d]at h;split at h
  all_goals first|(rename_i e;simp at e;done)|skip
  .rename_i asy k' n a;simp only[Z1,TypeDesc.int.injEq]at a;subst a;split at h
   .rename_i b;exact⟨n,by rw[b.1],b.2⟩
   .simp at h
  .simp at h
end
end
section
open Go Go.ChangeShapes Go.WideShapes Go.ChangeAt Go.RowKit
def own:ownKnob Tryz.prog.godebug=E9:=by kernel_rfl
def NW{a b:U}{r:V U}(h:v.cells.toList=a::b::r):v= .agg (a::b::r).toArray:=by
 cases v<;>first|(simp[ED]at h;done)|skip
 rename_i c;have:c=(a::b::r).toArray:=by apply DR;simpa [ED]using h
 rw[this]
def YA:Tryz.prog.cellsOf 22=1:=by kernel_rfl
def Yy:Tryz.prog.cellsOf 3=1:=by kernel_rfl
section
variable {H:Type} {enc:TypeId×Value->H} {w:World} {sp:Nat->Bool} {held:Bool}
def ajX{n:Y}(h:(C7 .u16 n).wf=FD):0<=n/\n<=65535:=by simpa [EB,CR,CS,B7,CI]using h
def Zk{P:FL}{f:Func}{s:ChangeSpec}{apart fresh e again:O}{W W':R}{args:N U}{l gs:V (DataW H)}{before pa pv:V MemPlace}(n:EG enc P f.params.toList s.vars apart W args.toList l gs before)(i:∀(b:Z) (sp:Z->O) (A:O),CG enc P W' b sp A f.resultTypes.toList (v.resultList f.resultTypes.size) (s.fn H (l++gs)).results [])(d:∀sp:Z->O,(∀p∈before,sp p.block=FD)->CG enc P W' 0 sp FD f.params.toList args.toList (s.fn H (l++gs)).args pa)(c:∀sp:Z->O,(∀p∈before,sp p.block=FD)->DataW.TrodVars enc P W' sp s.vars (s.fn H (l++gs)).vars pv)(h:before=pa++pv)(z:W.keptBut W' (·∈before))(q:∀a:Addr,a.block<W.heap.size->W'.frozen? a=W.frozen? a)(o:∀(j:Z) (t:FM) (r:U),f.resultTypes[j]? =E8 t->(v.resultList f.resultTypes.size)[j]? =E8 r->EA P W' .any 0 t r) :
  s.post enc P f apart fresh e again W args v W':=by
 have m:∀p∈before,p.block<W.heap.size:=n.lt;have k:∀p∈before,(λb=>decide (b<W.heap.size)) p.block=FD:=λp g=>by simpa using m p g
 refine⟨l,gs,before, [],pa,pv,n,i _ _ _,d _ k,c _ k,World.keptBut_mono (λp g=>⟨g,?_⟩) z,λ_=>?_⟩
 .rw[h,AU]at g;exact Or.inr g
 .obtain⟨_,_,_,_,_,x,y⟩:=n;refine⟨o,_,_,([]++pa)++pv,⟨[]++pa,pv,trodAll_append (d _ (λ_ _=>rfl)) (i _ _ _),c _ (λ_ _=>rfl),rfl,?_,?_⟩,?_⟩
  .intro b off g;have u:MemPlace.cell b off∈before:=by rw[h];simpa using g
   rw[q ⟨b,off,E9⟩ (m _ u)];exact x b off u
  .intro B;have:=y B;rw[h]at this
   simpa using this
  .intro p g _;rw[h]
   simpa using g
set_option maxRecDepth 100000 in
def ZI{j:Func}{s:ChangeSpec}(KW:ah AA)(b:s.vars=[])(d:j.resultTypes=#[4]){L:V Z}(B:L.all (wb AA L)=FD)(o:∀t∈j.params.toList,t∈L){apart fresh c again:O}{W:R}{args:N U}{m gs:V (DataW H)}{before:V MemPlace}(u:EG enc AA j.params.toList s.vars apart W args.toList m gs before)(C:GW ph W)(g:∃i p,KW.spec i=E8 (p,.ret (.bool FD))/\p.holds/\cr (BU ph) W i args.toList)(a:s.fn H (m++gs)={ results:=[.lit (.bool FD)],args:=m }) :
  Calls AA KW.f args W λe W'=>∃v,e= .returned v/\s.post enc AA j apart fresh c again W args v W':=by
 obtain⟨i,p,G,F,E⟩:=g;refine(KW.ok ph W i args p _ G F (λ_ h=>h.elim) C E).mono λe W' ⟨l,k⟩=>?_;obtain⟨v,rfl,z⟩:∃v,e= .returned v/\af (BI ph) W' (.bool FD) v:=by
  cases e with
  |returned v=>exact⟨v,rfl,k⟩
  |panicked _=>exact k.elim
  |outgrown=>exact k.elim
 have hv:v= .bool FD:=gF z;subst hv;refine⟨_,rfl,?_⟩;have r:=u;obtain⟨p,q,D,x,rfl,_,_⟩:=u;rw[b]at x;obtain⟨rfl,rfl⟩:gs=[]/\q=[]:=trodVars_none x;refine Zk (pa:=p) (pv:=[]) r (λ_ _ _=>?_) (λsp n=>?_) (λ_ _=>?_) rfl (l.kept _) l.cz ?_
 .rw[a,d];exact trodAll_cons_mk (shut_bool DX _) trodAll_mk0
 .rw[a];exact Mk B l.block sp _ _ _ _ o D λp A=>n p (BR _ A)
 .rw[a,b];rfl
 .have y:EA AA W' .any 0 4 (.bool FD):=okWide_bool_mk DX FD;exact ok_one d rfl y
end
end
section
open Go Go.ChangeShapes Go.WideShapes Go.ChangeAt Go.RowKit
def IN:Tryz.prog.cellsOf 5=1:=by kernel_rfl
def Pa{W:R}{name:String}{g:Z}{k:IntKind}{tA tE:FM}{l:V Y}{r:N U}{p:V MemPlace}(E:Tryz.prog.underlying tA=E8 (.array l.length tE))(A:Tryz.prog.underlying tE=E8 (.int k))(w:Tryz.prog.cellsOf tE=1)(G:Tryz.prog.globalNamed name=E8 g)(hv:W.var? AA name=E8 r)(d:AS (λ_=>()) AA W 0 (λ_=>FD) E7 fuel tA r.toList=E8 ((.agg (l.map λn=>.lit (.int k n)):DataW Unit),p))(H:0<l.length) :
  g<W.heap.size/\c! W g 0 (l.map (DT k)):=by
 obtain⟨D,m1,rfl,a,o,F,b⟩:=DataW.trod_array E d;rw[w]at b;simp only[Z2]at a;have d:=a.1;rw[DataW.agg.injEq]at d;have key:∀i,i<l.length->W.cell? ⟨g,i,E9⟩=E8 (.int k (l.getD i 0)):=by
  intro i u;have B:=b i u;obtain⟨x,m⟩:∃x,D[i]? =E8 x:=⟨_,AI (by omega)⟩;rw[m]at B;obtain⟨j,C,I,_⟩:=DataW.trod_int A B;have s:x.1= .lit (.int k (l.getD i 0)):=by
   have c:(l.map λn=>(DataW.lit (C7 k n):DataW Unit))[i]? =E8 x.1:=by
    rw[d,BZ,m];rfl
   rw[BZ,AI u]at c;simp only[CZ,Z1]at c;rw[<-c,AB,AI u];rfl
  rw[I]at s;simp only[DataW.lit.injEq,Lit.int.injEq,true_and]at s;subst s;have:=World.var?_cell G hv i;rw[this];rw[EY]at C;have c:(r.toList.drop i)[0]? =E8 (.int k (l.getD i 0)):=by
   have:((r.toList.drop i).take 1)[0]? =E8 (.int k (l.getD i 0)):=by rw[C];rfl
   rw[List.getElem?_take]at this
   simpa using this
  rw[List.getElem?_drop]at c
  simpa using c
 clear b hv F o d a;have z:=key 0 H;obtain⟨arr,ty,f,y⟩:∃arr ty f,W.heap[g]? =E8 (.cells arr ty f):=by
  unfold CB at z;split at z
  .rename_i arr ty f e;exact⟨arr,ty,f,e⟩
  .simp at z
 have w:∀(i:Z) v,W.cell? ⟨g,i,E9⟩=E8 v->arr[i]? =E8 v:=λi v h=>by
  unfold CB at h;rw[show W.heap[(⟨g,i,E9⟩:Addr).block]? =_ from y]at h;exact h
 refine⟨(BE.1 y).1,arr,ty,f,y,λj v hv=>?_⟩;rw[AZ];rw[BZ]at hv;have t:j<l.length:=by
  rcases AK j l.length with q|q
  .exact q
  .rw[List.getElem?_eq_none q]at hv;simp at hv
 have:=w _ _ (key j t);rw[this];rw[AI t]at hv;rw[AB,AI t];exact hv
abbrev v? : List (String × DataW Unit) := [("math/bits.deBruijn64tab", Rows.laid_math_bits_deBruijn64tab), ("algorist/modular.signs", Rows.laid_algorist_modular_signs)]
def amV : Tryz.prog.globalNamed "math/bits.deBruijn64tab" = some 0 := by kernel_rfl
def am4:(Tryz.prog.globals[0]?).map (·.type)=E8 184:=by kernel_rfl
def ZG:(Rows.laid_math_bits_deBruijn64tab:DataW Unit)= .agg ((iS 0).map λn=>.lit (.int .u8 n)):=rfl
def amU : Tryz.prog.globalNamed "algorist/modular.signs" = some 3 := by kernel_rfl
def am3:(Tryz.prog.globals[3]?).map (·.type)=E8 206:=by kernel_rfl
def abx:(Rows.laid_algorist_modular_signs:DataW Unit)= .agg ((iS 3).map λn=>.lit (.int .i64 n)):=rfl
def aaC{g:Z}(h:nj g=FD):g=0\/g=3:=by
 simp[nj]at h;omega
def W!{W:R}(h:laidMetH AA v? W):GW ph W:=by
 rw[MakeChecks.laidMetH_plain _ _ _ (by kernel_rfl)]at h;obtain⟨ps,⟨g0,t0,aqw,f0,p0,q0,d,m,j,f,⟨g1,t1,aqx,f1,p1,q1,c,k,i,e,_,_⟩,_⟩,_,_⟩:=h;obtain rfl:=AY (amV.symm.trans d);obtain rfl:=AY (am4.symm.trans m);obtain rfl:=AY (amU.symm.trans c);obtain rfl:=AY (am3.symm.trans k);rw[ZG]at f;rw[abx]at e;have a:=Pa (l:=iS 0) Tryz.underlying184 B2 IN d j f (by decide);have b:=Pa (l:=iS 3) Tryz.underlying206 Tryz.underlying3 Yy c i e (by decide);intro g n;rcases aaC n with rfl|rfl
 .exact⟨id,a⟩
 .exact⟨id,b⟩
def aaR(os:Os)(args:N U):laidMetH AA v? ((World.doorLaid AA 400 os).forCall (λ_ _=>0) ⟨#[],args, []⟩).memory :=
 laidMetH_of_parts3 (fuel:=8) (laidMet_of_run' 8 (by kernel_rfl) (by kernel_rfl)) (by kernel_rfl) (by kernel_rfl)
def aid{n:Y}(h:(C7 .i64 n).wf=FD): -9223372036854775808<=n/\n<=9223372036854775807:=by simpa [EB,CR,CS,B7,CI]using h
end
def pS:V Z:=[2,3,5,7,11,13,17,19,23,29,31,37,41,43,47,53,59,61,67,71,73,79,83,89]
def uk:Z:=304250263527210
def rp:Z:=23768741896345550770650537601358310
def fk:Z:=67108880
def G0:V Z->Z
 |[]=>1
 |p::r=>p*G0 r
def zu{m:Z}:∀l:V Z,(∀b∈l,BH m b=1)->BH m (G0 l)=1
 |[],_=>Nat.gcd_one_right m
 |p::r,h=>Nat.Coprime.mul_right (h p (AD ..)) (zu r λb a=>h b (AF _ a))
def Td:G0 bG=uk:=by decide +kernel
def Te:G0 pS=rp:=by decide +kernel
def ajm:∀q∈pS,1<q/\∀d,d<q+1->q%d=0->d=1\/d=q:=by decide +kernel
def vp(h:q∈pS):aw q:=by
 obtain⟨c,b⟩:=ajm q h;exact⟨c,λd a=>b d (by have:=A2 (by omega) a;omega) (DF a)⟩
def TP:∀b∈bG,b∈pS:=by decide +kernel
def IB:∀b∈bG,2<=b/\b<=41:=by decide +kernel
def Zw:∀p,p<43->1<p->∃b∈bG,p%b=0:=by decide +kernel
def Yb:∀p,p<90->1<p->∃b∈pS,p%b=0:=by decide +kernel
def T2(n e:Z):Z:=((2^(e/8192)%n)^64%n)^128%n*2^(e%8192)%n
def ako(n x y c d:Z):((2^x%n)^c%n)^d%n*2^y%n=2^(x*c*d+y)%n:=by
 rw[<-DM,<-EV,<-DM,<-EV,Nat.mod_mul_mod,<-EW,B1]
def alF(e:Z):e/8192*64*128+e%8192=e:=by omega
def acZ(n e:Z):T2 n e=2^e%n:=by
 have h:=ako n (e/8192) (e%8192) 64 128;rw[alF]at h;exact h
def x7(n m:Z):O:=!(AW (BH m uk) 1) ||(!(AW (T2 n (n-1)) 1) || !(gX n))
def qN(f:Z->O):Z->Z->O
 |0,a=>f a
 |k+1,a=>qN f k a&&qN f k (a+2^k)
def fW(f:Z->O):∀(k a i:Z),qN f k a=FD->a<=i->i<a+2^k->f i=FD
 |0,a,i,h,h1,b=>by
  obtain rfl:i=a:=by rw[EO]at b;omega
  exact h
 |k+1,a,i,h,h1,b=>by
  rw[qN,Z3]at h;rw[EP]at b;rcases AK i (a+2^k)with q|q
  .exact fW f k a i h.1 h1 q
  .exact fW f k _ i h.2 q (by omega)
def xa(p x:Z):V Z->O
 |[]=>E7
 |a::r=>(AW (a^(p-1)%p) 1&&!(AW (a^x%p) 1)) ||xa p x r
def Kw:Z->Z->Z->Z
 |0,_,_=>0
 |f+1,r,q=>W (AW (r%q) 0) (Kw f (r/q) q+1) 0
def G8:V Z->Z->V (Z×Z)
 |[],r=>W (AW r 1) [] [(r,0)]
 |q::t,r=>W (AW (r%q) 0) ((q,Kw 13 r q-1)::G8 t (r/q^Kw 13 r q)) (G8 t r)
def KJ(q:Z):O:=pS.elem q ||(A4 89 q&&(A4 q 8100&&AW (BH q rp) 1))
def okF(p:Z):V (Z×Z)->Z->O
 |[],D=>AW D (p-1)
 |(q,e)::t,D=>KJ q&&(AW (BH D (q^(e+1))) 1&&(AW ((p-1)%q^(e+1)) 0&&(xa p ((p-1)/q) bG&&okF p t (D*q^(e+1)))))
def LC(p k:Z):O:=!(A4 (p*(1+(k+1)*(p-1))) fk) ||x7 (p*(1+(k+1)*(p-1))) (1+(k+1)*(p-1))
def KB(p:Z):O :=
 W (AW (BH p uk) 1) (W (A4 89 p&&!(AW (BH p rp) 1)) FD (okF p (G8 pS (p-1)) 1&&qN (LC p) (B6 (fk/(p*(p-1)))+1) 0)) FD
def xM(i:Z):O:=KB (43+2*i)
def al6:qN xM 1 0=FD:=by decide +kernel
def al7:qN xM 1 2=FD:=by decide +kernel
def al8:qN xM 2 4=FD:=by decide +kernel
def al9:qN xM 2 8=FD:=by decide +kernel
def aiA:qN xM 2 12=FD:=by decide +kernel
def aiB:qN xM 3 16=FD:=by decide +kernel
def aiC:qN xM 3 24=FD:=by decide +kernel
def aiD:qN xM 4 32=FD:=by decide +kernel
def aiE:qN xM 4 48=FD:=by decide +kernel
def aiF:qN xM 6 64=FD:=by decide +kernel
def aey:qN xM 7 128=FD:=by decide +kernel
def aez:qN xM 8 256=FD:=by decide +kernel
def aeA:qN xM 9 512=FD:=by decide +kernel
def aaG:qN xM 10 1024=FD:=by decide +kernel
def aaH:qN xM 11 2048=FD:=by decide +kernel
def aeB(h:i<4096:=by omega):KB (43+2*i)=FD:=by
 show xM i=FD;rcases AK i 2 with q|q
 .exact fW _ 1 0 i al6 (by omega) q
 rcases AK i 4 with q|q
 .exact fW _ 1 2 i al7 (by omega) q
 rcases AK i 8 with q|q
 .exact fW _ 2 4 i al8 (by omega) q
 rcases AK i 12 with q|q
 .exact fW _ 2 8 i al9 (by omega) q
 rcases AK i 16 with q|q
 .exact fW _ 2 12 i aiA (by omega) q
 rcases AK i 24 with q|q
 .exact fW _ 3 16 i aiB (by omega) q
 rcases AK i 32 with q|q
 .exact fW _ 3 24 i aiC (by omega) q
 rcases AK i 48 with q|q
 .exact fW _ 4 32 i aiD (by omega) q
 rcases AK i 64 with q|q
 .exact fW _ 4 48 i aiE (by omega) q
 rcases AK i 128 with q|q
 .exact fW _ 6 64 i aiF (by omega) q
 rcases AK i 256 with q|q
 .exact fW _ 7 128 i aey (by omega) q
 rcases AK i 512 with q|q
 .exact fW _ 8 256 i aez (by omega) q
 rcases AK i 1024 with q|q
 .exact fW _ 9 512 i aeA (by omega) q
 rcases AK i 2048 with q|q
 .exact fW _ 10 1024 i aaG (by omega) q
 exact fW _ 11 2048 i aaH (by omega) h
def agD(h:KJ q=FD):aw q:=by
 unfold KJ at h;rcases D7 _ _ ▸ h with h|h
 .exact vp (List.elem_iff.1 h)
 .rw[Z3,Z3,BL,BL]at h;obtain⟨h1,h2,e⟩:=h;have e:=A0 e;refine AM λi=>?_;obtain⟨p,g,j,hle⟩:=rI (by omega) i;have d:p<90:=by
   rcases AK p 90 with w|w
   .exact w
   .have:=BO w w;omega
  obtain⟨b,k,c⟩:=Yb p d g.lt;have a:b ∣ q:=CL (AR c) j;have f:b ∣ rp:=by
   rw[<-Te];clear a c
   revert b
   decide +kernel
  have:=Nat.dvd_gcd a f;rw[e]at this;have:=(vp k).lt;have:=A2 (by omega) ‹b ∣ 1›;omega
def Q4{p x:Z}:∀l:V Z,xa p x l=FD->∃a∈l,a^(p-1)%p=1/\a^x%p≠1
 |[],h=>by simp[xa]at h
 |a::r,h=>by
  rw[xa]at h;rcases D7 _ _ ▸ h with h|h
  .rw[Z3]at h;refine⟨a,AD ..,A0 h.1,λw=>?_⟩;have c:=h.2;rw[w]at c;exact M c (by decide)
  .obtain⟨b,d,h⟩:=Q4 r h;exact⟨b,AF _ d,h⟩
def S!{p K:Z}(m:1<p)(o:∀a∈bG,a^K%p=1):∀(l:V (Z×Z)) (D:Z),okF p l D=FD->D ∣ K->p-1 ∣ K
 |[],D,h,d=>by rw[<-A0 h];exact d
 |(q,e)::t,D,h,d=>by
  rw[okF,Z3,Z3,Z3,Z3]at h;obtain⟨w,f,v,u,s⟩:=h;have k:=agD w;have f:BH D (q^(e+1))=1:=A0 f;obtain⟨c,n⟩:=AR (A0 v);obtain⟨a,r,j,i⟩:=Q4 _ u;have g:0<q:=by have:=k.lt;omega
  have x:(p-1)/q=q^e*c:=by
   rw[n,CK,B1];exact BM _ g
  have b:1%p=1:=BG m;have:=P5 (a:=a) (c:=c) (K:=K) k (by rw[<-n,b];exact j) (by rw[b];exact o a r) (by rw[<-x,b];exact i);exact S! m o t _ s (B9 f d this)
def UJ{n:Z}(h:gX n=FD)(G:n<fk):aw n:=by
 rcases ad0 h with w|w
 .exact vp (TP n w)
 refine AM λz=>?_;obtain⟨p,j,k,l⟩:=rI w.lt z;have hN:fk=67108880:=rfl;have arT:43<=p:=by
  rcases AK p 43 with q|q
  .obtain⟨b,e,C⟩:=Zw p q j.lt;exact M (CL (AR C) k) (w.nd b e)
  .exact q
 have arS:p%2=1:=by
  rcases C9 p with q|q
  .exact M (CL (AR q) k) (w.nd 2 (by decide))
  .exact q
 have arU:p<8193:=by
  rcases AK p 8193 with q|q
  .exact q
  .have:=BO q q;omega
 have d:=aeB (i:=(p-43)/2);rw[show 43+2*((p-43)/2)=p by omega]at d;have s:∀b∈bG,BH p b=1:=λb e=>j.nh λq=>by
  have:=A2 (by have:=IB b e;omega) q;have:=IB b e;omega
 have D:BH p uk=1:=by rw[<-Td];exact zu _ s
 unfold KB at d;rw[D]at d;have r:(A4 89 p&&!(AW (BH p rp) 1))=E7:=by
  cases e:A4 89 p with
  |false=>rfl
  |true =>
   rw[BL]at e;have:BH p rp=1:=by
    rw[<-Te];refine zu _ λb c=>j.nh λq=>?_;have F:=A2 (by have:=(vp c).lt;omega) q;have E:∀b∈pS,b<=89:=by decide +kernel
    have:=E b c;omega
   rw[this];rfl
 rw[r]at d;have d:(okF p (G8 pS (p-1)) 1&&qN (LC p) (B6 (fk/(p*(p-1)))+1) 0)=FD:=d;rw[Z3]at d;obtain⟨I,J⟩:=d;have Vt:p<=n:=A2 (by have:=w.lt;omega) k;have g:∀a∈bG,a^(n-1)%n=1:=λa v=>by
  have:=IB a v;exact WJ (by omega) (by have:(2:Z)^128=340282366920938463463374607431768211456:=rfl;omega) (w.st a v) (by rw[BG (by omega)];omega)
 have o:=S! j.lt (λa v=>by rw[<-CN _ k,g a v];exact BG j.lt) _ 1 I (C5 _);obtain⟨m,u⟩:=k;have arO:p<=m:=by
  rw[u]at l;exact Nat.le_of_mul_le_mul_left l (by omega)
 have B:p-1 ∣ m-1:=by
  have L:n-1=(p-1)*m+(m-1):=by
   obtain⟨p',rfl⟩:∃p',p=p'+1:=⟨p-1,by omega⟩;obtain⟨m',rfl⟩:∃m',m=m'+1:=⟨m-1,by omega⟩;rw[u];show(p'+1)*(m'+1)-1=p'*(m'+1)+m';have:(p'+1)*(m'+1)=p'*(m'+1)+m'+1:=by grind
   omega
  rw[L]at o;exact(Nat.dvd_add_right (Nat.dvd_mul_right (p-1) m)).1 o
 obtain⟨t,x⟩:=B;have xx:t≠0:=λq=>by rw[q,CV]at x;omega
 have A:m=1+(t-1+1)*(p-1):=by
  rw[Nat.mul_comm,show t-1+1=t by omega,<-x];omega
 have y:0<p*(p-1):=EX (by omega) (by omega);have H:t-1<0+2^(B6 (fk/(p*(p-1)))+1):=by
  have F:t*(p*(p-1))<=fk:=by
   have:t*(p*(p-1))=p*((p-1)*t):=by grind
   rw[this,<-x];have:p*(m-1)<=p*m:=CH _ (by omega);omega
  have E:t<=fk/(p*(p-1)):=(Nat.le_div_iff_mul_le y).2 F;have h3:=Nat.lt_log2_self (n:=fk/(p*(p-1)));omega
 have f:=fW _ _ 0 (t-1) J (Z9 _) H;unfold LC at f;rw[<-A,<-u]at f;have e:A4 n fk=FD:=by rw[BL];exact G
 rw[e]at f;have f:x7 n m=FD:=f;unfold x7 at f;have K:BH m uk=1:=by
  rw[<-Td];refine zu _ λb c=>?_;rw[ER];exact(vp (TP b c)).nh λq=>w.nd b c (by rw[u];exact CL q (Nat.dvd_mul_left ..))
 rw[K,acZ,g 2 (by decide),h]at f;exact Bool.noConfusion (show E7=FD from f)
def KF:V Z:=[13,13,19,1,17,23,19,23,1,1,17,1,7,13,13,1,7,43,31,19,13,37,1,13,19,7,19,17,13,31,7,7,1,7,29,17,1,1,7,7,37,1,17,13,1,7,17,1,13,67,7,7,1,13,7,1,41,7,1,7,1,19,13,13,1,13,1,29,7,23,13,7,7,17,23,17,13,17,17,19,1,23,7,1,23,13,1,17,7,1,17,61,17,1,17,23,7,41,19,47,47,7,1,1,1,31,17,29,19,23,1,19,19,7,1,47,17,23,1,23,29,19,1,1,17,17,59,7,1,1,7,7,1,7,7,23,1,13,1,1,37,13,1,7,17,19,1,7,1,41,17,23,1,29,7,1,1,13,29,7,19,17,89,19,13,1,29,17,7,19,13,13,1,19,13,23,41,1,7,13,7,17,23,17,13,1,23,19,1,73,17,7,1,7,17,1,13,1,13,83,37,29,13,49,13,37,19,7,1,17,31,7,19,17,7,61,13,13,7,1,19,7,7,29,31,13,19,29,7,49,13,47,61,7,1,71,23,1,7,7,1,13,29,1,13,7,43,37,17,7,1,17,13,19,1,13,7,1,47,7,13,1,1,13,7,23,19,7,1,13,41,29,19,13,1,1,1,37,19,1,19,1,7,43,7,1,29,13,7,13,7,13,7,29,13,17,1,7,49,19,1,31,13,7,13,1,7,41,13,1,1,17,7,23,29,17,29,13,7,1,19,17,13,61,29,1,1,1,17,7,1,1,31,1,1,1,7,17,7,71,1,17,29,7,1,7,19,1,1,17,41,31,41,1,17,29,1,23,19,1,17,7,47,1,19,1,13,1,17,1,13,7,1,1,19,7,23,13,13,7,43,19,1,7,17,47,1,41,29,7,7,19,13,1,7,13,29,31,41,7,13,19,29,23,17,17,17,31,19,13,37,1,17,7,19,61,17,13,1,13,7,29,13,17,1,7,1,53,29,29,37,13,43,13,37,7,89,13,29,7,13,31,7,7,13,1,7,1,7,17,29,17,13,19,1,7,13,13,7,13,1,13,53,41,1,1,1,7,19,17,17,1,7,23,7,13,61,7,1,13,49,7,13,7,13,7,17,1,29,37,7,17,1,23,1,1,1,67,13,23,1,7,19,47,41,43,1,17,1,19,23,19,1,1,7,53,7,53,19,1,7,13,1,1,31,7,7,29,31,13,31,1,7,31,1,1,1,49,17,47,13,13,1,43,1,17,13,1,19,1,7,7,53,13,1,29,41,1,7,13,13,13,1,23,23,29,19,13,19,7,1,31,43,13,47,41,13,7,1,17,13,7,13,7,7,1,43,1,23,29,49,19,7,1,19,7,7,19,1,17,1,1,7,7,19,7,23,17,17,13,49,13,1,7,31,31,31,19,1,29,7,7,23,17,13,43,7,1,43,1,19,1,23,1,7,1,31,13,1,7,23,7,7,13,17,13,13,7,71,7,17,7,1,1,19,1,1,1,17,1,29,19,7,7,23,17,13,19,19,1,17,13,23,1,7,7,17]
def G?:Z->V Z->O
 |_, []=>FD
 |b,d::r=>Nat.ble d 100&&(gX (b+d)&&G? (b+99000) r)
def Pj:∀(l:V Z) (b i:Z),G? b l=FD->i<l.length->∃d,d<=100/\gX (b+99000*i+d)=FD
 |[],_,i,_,h=>M h (AL i)
 |d::r,b,i,h,a=>by
  unfold G? at h;simp only[Z3,Nat.ble_eq]at h
  match i,a with
  |0,_=>exact⟨d,h.1,h.2.1⟩
  |i+1,a =>
   obtain⟨e,f,c⟩:=Pj r (b+99000) i h.2.2 (by simp at a;omega);exact⟨e,f,by rw[show b+99000*(i+1)+e=b+99000+99000*i+e by omega];exact c⟩
def afv:G? 99000 KF=FD:=by decide +kernel
def abi:KF.length=677:=by decide +kernel
def ajV:gX 67108879=FD:=by decide +kernel
def E?:gX 65003=FD:=by decide +kernel
structure L5 (m u:Nat):Prop where
 pn:gX (fS m)=true
 pr:aw (fS m)
 lo:m<=fS m
 hi:fS m<=u
def sR(h:m<=q)(f:q<m+100000)(d:gX q=FD)(e:q<fk):L5 m q:=by
 obtain⟨a,b⟩:=Nn 100000 m q h f d;have c:=IY 100000 m;rw[<-RP]at a b c;exact⟨a,UJ a (DV b e),c,b⟩
def sS(h:m<67108867:=by omega):∃q,q<=67108879/\q<m+100000/\L5 m q:=by
 by_cases hm:67023000<=m
 .exact⟨67108879,Z0 _,by omega,sR (by omega) (by omega) ajV (by unfold fk;omega)⟩
 .obtain⟨d,h1,a⟩:=Pj KF 99000 (m/99000) afv (by rw[abi];omega);exact⟨99000+99000*(m/99000)+d,by omega,by omega,sR (by omega) (by omega) a (by unfold fk;omega)⟩
def VN:Env AA:=wz [aaZ] [.pt (adi 0),.pt (al0 10),.pt (aiy 4),.pt alZ] (fun|999994=> [0]|_=> []) aC (λ_ _=>E9)
def acz(a n i:Y)(k:Z)(g:Z->MV)(b:_)(q:b=(F FB n))(h:_)(p:h=(fS (C (F FB (3+I b 67108864))):Y))(f:_)(o:f=(fS (C (F FB (5+I b 1048576))):Y))(e:_)(m:e=(fS (C (F FB (7+I b 1500))):Y))(c:_)(l:c=(C (F FB i)))(d:_)(j:d=(fS (C (I b 65000)):Y)):(((4:Y)=0->D)/\bif I a 4==0 then ((65000:Y)=0->D)/\(0<=I b 65000/\I b 65000<1099511627776/\gX (fS (C (I b 65000)))=FD)/\yc 0 0 (λx=>MV.any) d/\B (jN 0 (aE 0 λx=>MV.any) d)<=B (jN 0 (aE 0 λx=>MV.any) d)/\18=18/\B (jN 0 (aE 0 λx=>MV.any) d)=k/\ak (B (jN 0 (aE 0 λx=>MV.any) d)) (aF (jN 0 (aE 0 λx=>MV.any) d) 200) g else bif I a 4==1 then ((67108864:Y)=0->D)/\(0<=F FB (3+I b 67108864)/\F FB (3+I b 67108864)<1099511627776/\gX (fS (C (F FB (3+I b 67108864))))=FD)/\x6 10 0 (λx=>MV.any) h/\B (m6 10 (aE 0 λx=>MV.any) (C h))<=B (m6 10 (aE 0 λx=>MV.any) (C h))/\18=18/\B (m6 10 (aE 0 λx=>MV.any) (C h))=k/\ak (B (m6 10 (aE 0 λx=>MV.any) (C h))) (aF (m6 10 (aE 0 λx=>MV.any) (C h)) 200) g else bif I a 4==2 then ((1048576:Y)=0->D)/\(0<=F FB (5+I b 1048576)/\F FB (5+I b 1048576)<1099511627776/\gX (fS (C (F FB (5+I b 1048576))))=FD)/\LJ 4 0 (λx=>MV.any) f (F FB i)/\B (qB 4 (aE 0 λx=>MV.any) (C f) c)<=B (qB 4 (aE 0 λx=>MV.any) (C f) c)/\18=18/\B (qB 4 (aE 0 λx=>MV.any) (C f) c)=k/\ak (B (qB 4 (aE 0 λx=>MV.any) (C f) c)) (aF (qB 4 (aE 0 λx=>MV.any) (C f) c) 200) g else ((1500:Y)=0->D)/\(0<=F FB (7+I b 1500)/\F FB (7+I b 1500)<1099511627776/\gX (fS (C (F FB (7+I b 1500))))=FD)/\KX 0 (λx=>MV.any) e (F FB i)/\B (ka (aE 0 λx=>MV.any) (C e) c)<=B (ka (aE 0 λx=>MV.any) (C e) c)/\18=18/\B (ka (aE 0 λx=>MV.any) (C e) c)=k/\ak (B (ka (aE 0 λx=>MV.any) (C e) c)) (aF (ka (aE 0 λx=>MV.any) (C e) c) 200) g)=aI VN D8 [.st [.int .u8 a,.int .u32 n,.int .u16 i]] (BJ (.ret (.sl 18 k g))):=by subst q p o m l j;kernel_rfl
def ed(a n:Z):Z:=fS (if a%4=0 then n%65000 else if a%4=1 then 3+n%67108864 else if a%4=2 then 5+n%1048576 else 7+n%1500)
def lP(a n b:Z):V ab:=if a%4=0 then jN 0 [] (ed a n:Z)else if a%4=1 then m6 10 [] (ed a n)else if a%4=2 then qB 4 [] (ed a n) b else ka [] (ed a n) b
def ahW(a n g:Z):ja (lP a n g) (ed a n:Z):=by
 unfold lP;split
 .rename_i h;have e:ed a n=fS (n%65000):=by unfold ed;rw[T h]
  have c:=AG n (show 0<65000 by omega);have k:=sR (m:=n%65000) (q:=65003) (by omega) (by omega) E? (by unfold fk;omega);rw[e];have:=k.hi;have k5:=k.pr.lt;exact ZN (f:=0) (by omega) ⟨by rw[Z8];exact k.pr,by omega,by omega⟩
 .split
  .rename_i b h;have e:ed a n=fS (3+n%67108864):=by unfold ed;rw[G b,T h]
   have c:=AG n (show 0<67108864 by omega);obtain⟨q,q1,_,k⟩:=sS (m:=3+n%67108864);rw[e];have j:=k.hi;have i:=k.lo;exact abG (f:=10) k.pr
  .split
   .rename_i b d h;have e:ed a n=fS (5+n%1048576):=by unfold ed;rw[G b,G d,T h]
    have c:=AG n (show 0<1048576 by omega);obtain⟨q,_,q1,k⟩:=sS (m:=5+n%1048576);rw[e];have j:=k.hi;have i:=k.lo;exact ZM (f:=4) k.pr (by omega) (by omega) (by omega) (by omega) g
   .rename_i b d h;have e:ed a n=fS (7+n%1500):=by unfold ed;rw[G b,G d,G h]
    have c:=AG n (show 0<1500 by omega);have l:gX 1511=FD:=zS (oG (by omega) (by omega) (by decide +kernel)) (by decide);have k:=sR (m:=7+n%1500) (q:=1511) (by omega) (by omega) l (by unfold fk;omega);rw[e];have j:=k.hi;have i:=k.lo;exact abF k.pr (by omega) (by omega) g
def Hb:cw 0 (λ_=>.any):=⟨Z9 _,λj b=>M b (AL j),λ_ a=>M a AX⟩
def UA:fp (aE 0 λ_=>.any) 0:=⟨λj a=>M a (AL j)⟩
def abE(a n c:Z)(ha:a<256:=by omega)(hn:n<4294967296:=by omega)(hf:c<65536:=by omega):∃E:Env AA,aI E D8 [.st [.int .u8 a,.int .u32 n,.int .u16 c]] (BJ (.ret (.sl 18 (lP a n c).length (aF (lP a n c) 200)))):=by
 refine⟨VN,?_⟩;rw[<-acz a n c (lP a n c).length (aF (lP a n c) 200) _ rfl _ rfl _ rfl _ rfl _ rfl _ rfl];have u:aE 0 (λ_=>.any)=[]:=rfl;have s:I (a:Y) 4=((a%4:Z):Y):=lK a 4;have f:∀m:Z,I (n:Y) (m:Y)=((n%m:Z):Y):=λm=>lK n m;rw[u,s,xS (show(n:Z)<18446744073709551616 by omega),xS (show c<18446744073709551616 by omega),show I (n:Y) 65000=((n%65000:Z):Y) from f 65000,show I (n:Y) 67108864=((n%67108864:Z):Y) from f 67108864,
  show I (n:Y) 1048576=((n%1048576:Z):Y) from f 1048576,show I (n:Y) 1500=((n%1500:Z):Y) from f 1500]
 have wr:∀m:Z,m<18446744073709551616->F FB (m:Y)=(m:Y):=λm h=>xS h;have r:F FB (3+((n%67108864:Z):Y))=((3+n%67108864:Z):Y):=wr (3+n%67108864) (by omega);have p:F FB (5+((n%1048576:Z):Y))=((5+n%1048576:Z):Y):=wr (5+n%1048576) (by omega);have o:F FB (7+((n%1500:Z):Y))=((7+n%1500:Z):Y):=wr (7+n%1500) (by omega);rw[r,p,o];have m0:=AG n (show 0<65000 by omega);have m1:=AG n (show 0<67108864 by omega);have m2:=AG n (show 0<1048576 by omega);have apk:=AG n (show 0<1500 by omega);refine⟨by omega,aJ beq_iff_eq (λz=>?_) (λz=>aJ beq_iff_eq (λl=>?_) (λl=>aJ beq_iff_eq (λj=>?_) (λj=>?_)))⟩
 .have h:a%4=0:=by omega
  have k:=sR (m:=n%65000) (q:=65003) (by omega) (by omega) E? (by unfold fk;omega);have g:=k.hi;have k5:=k.pr.lt;unfold lP ed;rw[T h,T h];have d:=qg (n:=fS (n%65000));exact⟨by omega,⟨by omega,by omega,by rw[Z8];exact k.pn⟩,⟨⟨by rw[Z8,Z8];exact k.pr,by rw[Z8];omega,by rw[Z8];omega⟩,by omega,Hb,by rw[Z8,Z8];omega⟩,by rw[Z8];exact Z0 _,rfl,by rw[Z8],by rw[Z8];exact AE⟩
 .have b:¬a%4=0:=by omega
  have h:a%4=1:=by omega
  obtain⟨q,q1,_,k⟩:=sS (m:=3+n%67108864);have g:=k.hi;have i:=k.lo;unfold lP ed;rw[G b,T h,G b,T h];simp only[Z8];have d:=qg (n:=fS (3+n%67108864));exact⟨by omega,⟨by omega,by omega,k.pn⟩,⟨by rw[Z8];exact k.pr,by omega,by omega,by rw[Z8];omega,by omega,Hb,by rw[Z8];omega⟩,Z0 _,⟨⟩,⟨⟩,AE⟩
 .have b:¬a%4=0:=by omega
  have e:¬a%4=1:=by omega
  have h:a%4=2:=by omega
  obtain⟨q,_,q1,k⟩:=sS (m:=5+n%1048576);have g:=k.hi;have i:=k.lo;unfold lP ed;rw[G b,G e,T h,G b,G e,T h];simp only[Z8];have d:=qg (n:=fS (5+n%1048576)+1);exact⟨by omega,⟨by omega,by omega,k.pn⟩,⟨by rw[Z8];exact k.pr,by omega,by omega,by rw[Z8];omega,by omega,by omega,by omega,Hb,UA,by rw[Z8];omega⟩,Z0 _,⟨⟩,⟨⟩,AE⟩
 .have b:¬a%4=0:=by omega
  have e:¬a%4=1:=by omega
  have h:¬a%4=2:=by omega
  have t:gX 1511=FD:=zS (oG (by omega) (by omega) (by decide +kernel)) (by decide);have k:=sR (m:=7+n%1500) (q:=1511) (by omega) (by omega) t (by unfold fk;omega);have g:=k.hi;have i:=k.lo;unfold lP ed;rw[G b,G e,G h,G b,G e,G h];simp only[Z8];exact⟨by omega,⟨by omega,by omega,k.pn⟩,⟨by rw[Z8];exact k.pr,by omega,by omega,by omega,by omega,Hb,UA,by omega,by rw[Z8];exact Pn k.pr (by omega) (by omega) []⟩,Z0 _,⟨⟩,⟨⟩,AE⟩
def Bb:aG
 |[.st [.int .u8 a,.int .u32 n,.int .u16 fr]]=>E8 (E8 ((0<=a/\a<=255)/\(0<=n/\n<=4294967295)/\0<=fr/\fr<=65535),.ret (.sl 18 (lP a.toNat n.toNat fr.toNat).length (aF (lP a.toNat n.toNat fr.toNat) 200)))
 |_=>E9
def aeU:bC D8 Bb:=by
 intro ms p r h c;unfold Bb at h;split at h
 .rename_i a n b;cases h;obtain⟨⟨h0,h1⟩,⟨h2,h3⟩,h4,h5⟩:(0<=a/\a<=255)/\(0<=n/\n<=4294967295)/\0<=b/\b<=65535:=c;have:=abE a.toNat n.toNat b.toNat
  grind
 .simp at h
def adw:ah AA:=⟨10,Bb,λargs w=>Tryz.call10 args w,aO bQ Tryz.func10 Bb aeU⟩
def m3(id:Z):Code->o (N r)
 |.region i ops _=>W (i.beq id) (E8 ops) E9
 |.seq a b=>(match m3 id a with
  |some x=>E8 x
  |none=>m3 id b)
 |.cond _ a b=>(match m3 id a with
  |some x=>E8 x
  |none=>m3 id b)
 |.block _ c=>m3 id c
 |.loop c=>m3 id c
 |.scope c=>m3 id c
 |_=>E9
def akv(f:Func)(id:Z):V r:=match f.body with
 |some c=>(match m3 id c with
  |some x=>x.toList
  |none=> [])
 |none=> []
def jU(L:V ab)(pv a:Z->U):Z->MV:=λi =>
 .st [.int .i64 (L.getD i aB).kind,.st [.bool (L.getD i aB).neg,.ws (L.getD i aB).ai],.val (pv i),.val (a i),.st [.aa (L.getD i aB).ca 200,.aa (L.getD i aB).cb 200,.aa (L.getD i aB).cm 200],.st [.aa (L.getD i aB).x 200,.aa (L.getD i aB).y 200,.bool (L.getD i aB).inf],.aa (L.getD i aB).ord 200]
def jL{P:FL}{ops:N r}{Q:Exit->Act->R->Prop}{b:V r}:∀(c:V r) (a:Act) (w:R),wpList P ops (λe a' w'=>match e with|.normal=>wpList P ops Q b a' w'|e=>Q e a' w') c a w->wpList P ops Q (c++b) a w
 |[],_,_,h=>h
 |o::l,a,w,h=>by
  rw[List.cons_append];unfold wpList at h⊢;split
  .rename_i f;rw[T f]at h;exact h.imp (λh=>vT (λg d=>jL l g d) (λh=>h) (λ_ _ _ h=>h) _ h) λh=>⟨h.1,h.2⟩
  simp_all [jL]
def fa{α:Type}{p:α->Prop}{x:α}{l:V α}(b:p x)(a:∀y∈l,p y):∀y∈x::l,p y:=List.forall_mem_cons.2 ⟨b,a⟩
def f0{α:Type}{p:α->Prop}:∀y∈([]:V α),p y:=λ_ h=>M h AX
def sw{c:Ctx}{w:R}{a:Act}:∀(tm:V (Z×MV)),(∀p∈tm,af c w p.2 (a.tmps.getD p.1 undef))->∀t,af c w (bD t tm) (a.tmps.getD t undef)
 |[],_,_=>⟨⟩
 |(u,m)::r,h,t=>by
  have h1:=h (u,m) AD;have h2:=sw r (λp b=>h p (AF _ b)) t
  grind [bD,DA]
def St.re{s:MS}{w:R}(h:St S0 w0 s c a w)(kQ:V (Z×MV))(bx':V aq)(d:Mem S0 w0 bx' c w)(b:∀p∈kQ,af c w p.2 (a.tmps.getD p.1 undef)) :
  St S0 w0 ⟨s.n,kQ,bx',s.np⟩ c a w:=⟨d,sw kQ b,h.size,h.defers,h.np⟩
def Ctx.b1(S:Z->Prop)(b:Z)(z:Sz):Ctx:=⟨λq=>S q\/q=b,λq=>q=b,λi=>i=0,λ_=>b,λ_=>z⟩
def bw.b1(w:R)(b:Z)(z:Sz)(a:V Deferred):bw:=⟨w,λq=>q=b,λi q z'=>i=0/\q=b/\z'=z,a⟩
def dp.apK(w:R)(b:Z)(z:Sz)(a:V Deferred):dp (bw.b1 w b z a) w:=⟨rfl,rfl,Z0 _,λ_ _ _=>rfl,λ_ _=>rfl,rfl,Z0 _⟩
def St.VX{s:MS}{w:R}(h:St S0 w0 s c a w){wd n:Z}{F F':Z->MV}{z:Sz}(x:aR s.bx 0=E8 ⟨E7,.rows wd n F⟩)(o:c.live 0)(r:c.β 0=b)(v:c.sz 0=z)(S1:Z->Prop)(t:∀q,S1 q->c.S q/\q≠b)(G:(∀q,(Ctx.b1 S1 b z).S q->c.S q)->∀arr ty,w.heap[b]? =E8 (.cells arr ty (0,0))->gJ c w (.rows wd n F) arr->gJ (Ctx.b1 S1 b z) w (.rows wd n F') arr)(kQ:V (Z×MV))(C:∀p∈kQ,af (Ctx.b1 S1 b z) w p.2 (a.tmps.getD p.1 undef)) :
  St S1 (bw.b1 w b z w0.df) ⟨s.n,kQ, [⟨E7,.rows wd n F'⟩],1⟩ (Ctx.b1 S1 b z) a w:=by
 have k:=h.mem;have u:c.S b:=k.WS b ((k.hW b).2 ⟨0,_,o,x,rfl,r⟩);have l:∀q,(Ctx.b1 S1 b z).S q->c.S q:=λq hq=>by
  rcases hq with hq|hq
  all_goals simp_all
 refine⟨⟨dp.apK w b z _,λq hq=>⟨k.fh q (t q hq).1,(t q hq).2⟩,⟨k.gw.sub λq hq=>(t q hq).1,λg E e=>(k.gw g E).1 (by rw[show g=b from e];exact u)⟩,λq=>Iff.rfl,λq=>⟨λhq=>⟨0,_,rfl,rfl,rfl,hq.symm⟩,λ⟨i,y,_,_,_,e⟩=>e.symm⟩,λi j f D _=>by rw[show i=0 from f,show j=0 from D],λi f=>⟨.inr rfl,by rw[<-r];exact(k.fresh 0 o).2.1,by rw[show i=0 from f];exact Nat.zero_lt_one⟩,λi y f d=>?_,λi q z' ⟨J,I,H⟩=>⟨J,I.symm,H.symm⟩⟩,sw kQ C,h.size,h.defers,λi q z' e=>?_⟩
 .have f:i=0:=f;subst f;have d:E8 (⟨E7,.rows wd n F'⟩:aq)=E8 y:=d;simp only[Z1]at d;subst d;obtain⟨arr,ty,q1,B,m,A⟩:=k.box 0 _ o x;rw[r]at q1;exact⟨arr,ty,q1,by rw[B,v];rfl,by have m:(c.sz 0).wd=wd:=m;rw[v]at m;exact m,G l arr ty q1 A⟩
 .obtain⟨e,_⟩:=e
  grind [nH,jI]
def St.one{s:MS}{w:R}(h:St S0 w0 s c a w){wd n:Z}{F F':Z->MV}{z:Sz}(y:aR s.bx 0=E8 ⟨E7,.rows wd n F⟩)(t:c.live 0)(u:c.β 0=b)(m:c.sz 0=z)(S1:Z->Prop)(v:∀q,S1 q->c.S q/\q≠b)(x:∀i,i<n->∀d,aj (Ctx.b1 S1 b z).elem w (F i) d->aj (Ctx.b1 S1 b z).elem w (F' i) d)(kQ:V (Z×MV))(o:∀p∈kQ,af (Ctx.b1 S1 b z) w p.2 (a.tmps.getD p.1 undef)) :
  St S1 (bw.b1 w b z w0.df) ⟨s.n,kQ, [⟨E7,.rows wd n F'⟩],1⟩ (Ctx.b1 S1 b z) a w :=
 h.VX y t u m S1 v (λe arr ty _ l i f=>by
  obtain⟨d,k,j,g⟩:=l i f;exact⟨d,k,x i f d (B4 (⟨λq _ r=>e q r,λ_ _ h=>h,λ_ h=>h.elim,λ_ _ _=>rfl,λ_ _ _=>rfl⟩:bg c.elem (Ctx.b1 S1 b z).elem w w) _ _ j),g⟩) kQ o
def Mem.VW{f w:R}{z:Sz}{n:V Deferred}{bx:V aq}(h:Mem S1 (bw.b1 f b z n) bx c w):bg (Ctx.b1 S1 b z) c f w:=by
 have g:∀q,q<f.heap.size->c.W q->q=b:=λq a j=>by
  obtain⟨i,b0,m,_,_,e⟩:=(h.hW q).1 j;rcases(h.fresh i m).1 with k|k
  .have k:f.heap.size<=c.β i:=k;omega
  .rw[<-e];exact k
 refine⟨λq a d=>?_,g,λi l=>?_,λq a d=>h.ext.block q a λe=>d (.inr e),λq a d=>h.ext.block q a d⟩
 .rcases(h.hS q).1 d with k|k
  .exact .inl k
  .exact .inr (g q a k)
 .exact h.b4 i b z ⟨l,rfl,rfl⟩
def eA(v:U)(q:Z):Prop:=∃len cap,v= .slice (E8 ⟨q,0,E9⟩) len cap
def jq(c:Ctx)(w:R)(wd len:Z)(f:Z->MV)(v:U):Prop :=
 ∃a cap,v= .slice a len cap/\len<=cap/\((∃q arr ty,a=E8 ⟨q,0,E9⟩/\w.heap[q]? =E8 (.cells arr ty (0,0))/\arr.size=cap*wd/\gJ c w (.rows wd len f) arr)\/(a=E9/\len=0/\cap=0))
def jq.lt{w:R}{wd len:Z}{f:Z->MV}(h:jq c w wd len f v)(b:eA v q):q<w.heap.size:=by
 obtain⟨a,cap,rfl,_,h⟩:=h;obtain⟨l2,c2,e⟩:=b
 grind
def jq.bu{c':Ctx}{w w':R}(k:bg c.elem c'.elem w w'){wd len:Z}{f:Z->MV}(h:jq c w wd len f v)(j:∀q,eA v q->w'.heap[q]? =w.heap[q]?):jq c' w' wd len f v:=by
 obtain⟨a,cap,rfl,l,h⟩:=h;refine⟨a,cap,rfl,l,h.imp (λ⟨q,arr,ty,b,p,o,n⟩=>⟨q,arr,ty,b,by rw[j q ⟨len,cap,by rw[b]⟩];exact p,o,λi m=>?_⟩) id⟩;obtain⟨r,g,e,d⟩:=n i m;exact⟨r,g,B4 k _ _ e,d⟩
def Nr{w:R}{len wd:Z}{f:Z->MV}(h:aj c w (.bs i 0 len) [v])(o:c.live i->dn c w i ⟨E7,.rows wd len f⟩):jq c w wd len f v/\∀q,eA v q->c.live i/\q=c.β i:=by
 obtain⟨a,cap,e,j,h⟩:=h;simp only[CP,and_true]at e;subst e;rcases h with ⟨g,b,n⟩|⟨g,r,p⟩
 .obtain⟨arr,ty,q1,l,d,k⟩:=o b;have d:(c.sz i).wd=wd:=d;refine⟨⟨a,cap,rfl,j,.inl ⟨_,arr,ty,g,q1,by rw[l,<-n,d,AZ],k⟩⟩,λq ⟨m,s,e⟩=>⟨b,?_⟩⟩
  grind
 .refine⟨⟨a,cap,rfl,j,.inr ⟨g,r,p⟩⟩,λq ⟨m,s,e⟩=>?_⟩
  simp_all
structure gq (w0:Nat) (S:Nat->Prop) (b:Nat) (z:Sz) (L:List ab) (pv bv:Nat->Value) (mP mB:Nat) (w:World):Prop where
 t!:∀j,j<mP->jq (Ctx.b1 S b z) w 1 (L.getD j aB).parts.length (bI (L.getD j aB).parts) (pv j)
 t?:∀j,j<mB->jq (Ctx.b1 S b z) w 2 (L.getD j aB).base.length (iL (L.getD j aB).base 200) (bv j)
 HM:∀j,mP<=j->j<L.length->aj (Ctx.b1 S b z) w (.sl 1 (L.getD j aB).parts.length (bI (L.getD j aB).parts)) [pv j]
 HL:∀j,mB<=j->j<L.length->aj (Ctx.b1 S b z) w (.sl 2 (L.getD j aB).base.length (iL (L.getD j aB).base 200)) [bv j]
 l?:∀j q,j<mP->eA (pv j) q->S q/\w0<=q
 dz:∀j q,j<mB->eA (bv j) q->S q/\w0<=q
 dP:∀j k q,j<k->k<mP->eA (pv j) q->¬eA (pv k) q
 dB:∀j k q,j<k->k<mB->eA (bv j) q->¬eA (bv k) q
 dX:∀j k q,j<mP->k<mB->eA (pv j) q->¬eA (bv k) q
 S0:∀q,S q->q<w.heap.size/\q≠b
def gq.frame{w0:Z}{z:Sz}{L:V ab}{p:Z->U}{mP mB:Z}{w w':R}{s:V Deferred}(h:gq w0 S b z L pv p mP mB w)(e:dp (bw.b1 w b z s) w')(S2:Z->Prop)(o:∀q,S q->S2 q)(m:∀q,S2 q->S q\/w.heap.size<=q)(l:∀q,S2 q->q<w'.heap.size/\q≠b):gq w0 S2 b z L pv p mP mB w':=by
 have k:bg (Ctx.b1 S b z) (Ctx.b1 S2 b z) w w':=⟨λq a f=>f.imp (λf=>(m q f).elim id λh=>by omega) id,λ_ _ h=>h,λi r=>⟨r,rfl,rfl⟩,λq a f=>e.block q a λe=>f (.inr e),λq a f=>e.block q a f⟩;have n:∀q,S q->w'.heap[q]? =w.heap[q]? :=λq a=>e.block q (h.S0 q a).1 (h.S0 q a).2;exact⟨λj g=>(h.t! j g).bu k.elem λq a=>n q (h.l? j q g a).1,λj g=>(h.t? j g).bu k.elem λq a=>n q (h.dz j q g a).1,λj d c=>(h.HM j d c).bu k,λj d c=>(h.HL j d c).bu k,
  λj q d c=>⟨o q (h.l? j q d c).1,(h.l? j q d c).2⟩,λj q d c=>⟨o q (h.dz j q d c).1,(h.dz j q d c).2⟩,h.dP,h.dB,h.dX,l⟩
def tg(n i:Z):V (Z×MV):=[(3,.bs 0 0 n),(4,.int .i64 i)]
def xl(n i:Z):V (Z×MV):=[(3,.bs 0 0 n),(4,.int .i64 i),(14,.bs 0 0 n),(15,.int .i64 i)]
def xm(n i:Z):V (Z×MV):=[(3,.bs 0 0 n),(4,.int .i64 i),(25,.bs 0 0 n),(26,.int .i64 i)]
def nM(L:V ab)(pv a:Z->U):aq:=⟨E7,.rows 18 L.length (jU L pv a)⟩
def kf(L:V ab)(pv a:Z->U)(i:Z):MS:=⟨37,tg L.length i, [nM L pv a],1⟩
noncomputable def ec(id:Z):V r:=akv C6 id
def ak0(L:V ab)(pv a:Z->U)(i:Z)(K:MS->Prop):(((0:Y)<=(↑i:Y)/\(↑i:Y)<(↑(B L):Y))/\C (↑i:Y)<B L/\K { n:=nat_lit 37,tm:=[((21:Z),MV.val (pv (C (↑i:Y)))),((20:Z),MV.br (0:Z) (C (↑i:Y)) ((0:Z)+3)),((19:Z),MV.br (0:Z) (C (↑i:Y)) (0:Z)),((18:Z),MV.int FA (↑i:Y)),((17:Z),MV.bs (0:Z) (0:Z) (B L)),((16:Z),MV.bs (1:Z) (0:Z) (0:Z)),((15:Z),MV.int FA (↑i:Y)),((14:Z),MV.bs (0:Z) (0:Z) (B L)),((3:Z),MV.bs (0:Z) (0:Z) (B L)),((4:Z),MV.int FA (↑i:Y))],bx:=[nM L pv a,{ fz:=false,c:=BC.arr FA [] }],np:=nat_lit 1 })=cV (aK [] aC) (ec 5) (λ_=>D) ((ec 5).take 8) (kf L pv a i) K:=by kernel_rfl
def ak1(L:V ab)(pv a:Z->U)(i len:Z)(g:Z->MV)(K:MS->Prop):(((0:Z)<=0/\((0:Z)+AO (bh.rows (1:Z) len g))*8<=140737488355328)/\K { n:=nat_lit 37,tm:=[((22:Z),MV.bs (1:Z) (0:Z) ((0:Z)+AO (bh.rows (1:Z) len g))),((16:Z),bif A6 (1:Z) (MV.bs (1:Z) (0:Z) (0:Z))then MV.any else MV.bs (1:Z) (0:Z) (0:Z)),((21:Z),bif A6 (1:Z) (MV.sl (1:Z) len g)then MV.any else MV.sl (1:Z) len g),((3:Z),bif A6 (1:Z) (MV.bs (0:Z) (0:Z) (B L))then MV.any else MV.bs (0:Z) (0:Z) (B L)),((4:Z),bif A6 (1:Z) (MV.int FA (↑i:Y))then MV.any else MV.int FA (↑i:Y)),((14:Z),bif A6 (1:Z) (MV.bs (0:Z) (0:Z) (B L))then MV.any else MV.bs (0:Z) (0:Z) (B L)),((15:Z),bif A6 (1:Z) (MV.int FA (↑i:Y))then MV.any else MV.int FA (↑i:Y))],bx:=[bif AW (0:Z) (1:Z)then nM L pv a else nM L pv a,{ fz:=false,c:=BC.rows (1:Z) ((0:Z)+len) λq=>bif A4 q (0:Z)then MV.any else g (q-0) }],np:=nat_lit 1 })=cV (aK [] aC) (ec 5) (λ_=>D) (((ec 5).drop 8).take 1) ⟨37,(16,.bs 1 0 0)::(21,.sl 1 len g)::xl L.length i, [nM L pv a,⟨E7,.rows 1 0 (λ_=>.any)⟩],1⟩ K:=by kernel_rfl
def ak2(L:V ab)(pv d:Z->U)(i:Z)(v:U)(K:MS->Prop)(b:_)(e:b=(C (↑i:Y)))(a:_)(f:a=(E L b aB)):(((0:Y)<=(↑i:Y)/\(↑i:Y)<(↑(B L):Y))/\C (↑i:Y)<B L/\K {n:=nat_lit 37,tm:=((24:Z),MV.br (0:Z) b ((0:Z)+3))::((23:Z),MV.br (0:Z) b (0:Z))::((22:Z),MV.val v)::xl (B L) i,bx:=[{fz:=false,c:=BC.rows (18:Z) (B L) λj=>bif AW j b then MV.st [MV.int FA (ab.kind a),MV.st [MV.bool (ab.neg a),MV.ws (ab.ai a)],MV.val v,MV.val (d b),MV.st [MV.aa (ab.ca a) (200:Z),MV.aa (ab.cb a) (200:Z),MV.aa (ab.cm a) (200:Z)],MV.st [MV.aa (ab.x a) (200:Z),MV.aa (ab.y a) (200:Z),MV.bool (ab.inf a)],MV.aa (ab.ord a) (200:Z)]else jU L pv d j}],np:=nat_lit 1})=cV (aK [] aC) (ec 5) (λ_=>D) (((ec 5).drop 8).drop 1) ⟨37,(22,.val v)::xl L.length i, [nM L pv d],1⟩ K:=by subst e f;kernel_rfl
def ak3(L:V ab)(pv a:Z->U)(i:Z)(K:MS->Prop):(((0:Y)<=(↑i:Y)/\(↑i:Y)<(↑(B L):Y))/\C (↑i:Y)<B L/\K { n:=nat_lit 37,tm:=[((32:Z),MV.val (a (C (↑i:Y)))),((31:Z),MV.br (0:Z) (C (↑i:Y)) ((0:Z)+4)),((30:Z),MV.br (0:Z) (C (↑i:Y)) (0:Z)),((29:Z),MV.int FA (↑i:Y)),((28:Z),MV.bs (0:Z) (0:Z) (B L)),((27:Z),MV.bs (1:Z) (0:Z) (0:Z)),((26:Z),MV.int FA (↑i:Y)),((25:Z),MV.bs (0:Z) (0:Z) (B L)),((3:Z),MV.bs (0:Z) (0:Z) (B L)),((4:Z),MV.int FA (↑i:Y))],bx:=[nM L pv a,{ fz:=false,c:=BC.rows (2:Z) (0:Z) (aU []) }],np:=nat_lit 1 })=cV (aK [] aC) (ec 6) (λ_=>D) ((ec 6).take 8) (kf L pv a i) K:=by kernel_rfl
def ak4(L:V ab)(pv a:Z->U)(i len:Z)(g:Z->MV)(K:MS->Prop):(((0:Z)<=0/\((0:Z)+AO (bh.rows (2:Z) len g))*32<=140737488355328)/\K { n:=nat_lit 37,tm:=[((33:Z),MV.bs (1:Z) (0:Z) ((0:Z)+AO (bh.rows (2:Z) len g))),((27:Z),bif A6 (1:Z) (MV.bs (1:Z) (0:Z) (0:Z))then MV.any else MV.bs (1:Z) (0:Z) (0:Z)),((32:Z),bif A6 (1:Z) (MV.sl (2:Z) len g)then MV.any else MV.sl (2:Z) len g),((3:Z),bif A6 (1:Z) (MV.bs (0:Z) (0:Z) (B L))then MV.any else MV.bs (0:Z) (0:Z) (B L)),((4:Z),bif A6 (1:Z) (MV.int FA (↑i:Y))then MV.any else MV.int FA (↑i:Y)),((25:Z),bif A6 (1:Z) (MV.bs (0:Z) (0:Z) (B L))then MV.any else MV.bs (0:Z) (0:Z) (B L)),((26:Z),bif A6 (1:Z) (MV.int FA (↑i:Y))then MV.any else MV.int FA (↑i:Y))],bx:=[bif AW (0:Z) (1:Z)then nM L pv a else nM L pv a,{ fz:=false,c:=BC.rows (2:Z) ((0:Z)+len) λq=>bif A4 q (0:Z)then MV.any else g (q-0) }],np:=nat_lit 1 })=cV (aK [] aC) (ec 6) (λ_=>D) (((ec 6).drop 8).take 1) ⟨37,(27,.bs 1 0 0)::(32,.sl 2 len g)::xm L.length i, [nM L pv a,⟨E7,.rows 2 0 (λ_=>.any)⟩],1⟩ K:=by kernel_rfl
def ak5(L:V ab)(pv f:Z->U)(i:Z)(v:U)(K:MS->Prop)(b:_)(d:b=(C (↑i:Y)))(a:_)(e:a=(E L b aB)):(((0:Y)<=(↑i:Y)/\(↑i:Y)<(↑(B L):Y))/\C (↑i:Y)<B L/\K {n:=nat_lit 37,tm:=((35:Z),MV.br (0:Z) b ((0:Z)+4))::((34:Z),MV.br (0:Z) b (0:Z))::((33:Z),MV.val v)::xm (B L) i,bx:=[{fz:=false,c:=BC.rows (18:Z) (B L) λj=>bif AW j b then MV.st [MV.int FA (ab.kind a),MV.st [MV.bool (ab.neg a),MV.ws (ab.ai a)],MV.val (pv b),MV.val v,MV.st [MV.aa (ab.ca a) (200:Z),MV.aa (ab.cb a) (200:Z),MV.aa (ab.cm a) (200:Z)],MV.st [MV.aa (ab.x a) (200:Z),MV.aa (ab.y a) (200:Z),MV.bool (ab.inf a)],MV.aa (ab.ord a) (200:Z)]else jU L pv f j}],np:=nat_lit 1})=cV (aK [] aC) (ec 6) (λ_=>D) (((ec 6).drop 8).drop 1) ⟨37,(33,.val v)::xm L.length i, [nM L pv f],1⟩ K:=by subst d e;kernel_rfl
def oK(f:Z->U)(i:Z)(v:U):Z->U:=λq=>W (q.beq i) v (f q)
def dp.Ks{f e d:R}{z:Sz}{c:V Deferred}(h:dp (bw.b1 f b z c) e)(k:dp (bw.b1 e b z c) d):dp (bw.b1 f b z c) d :=
 ⟨k.os.trans h.os,k.output.trans h.output,A1 h.size k.size,λi g a=>(k.block i (AP g h.size) a).trans (h.block i g a),λx a=>(k.cz x (AP a h.size)).trans (h.cz x a),k.tape.trans h.tape,A1 h.dr k.dr⟩
theorem qn{w:R}{n:Z}{z:Sz}(g:c.β 0=b)(e:c.sz 0=z)(h:af c w (.bs 0 0 n) v):af (Ctx.b1 S b z) w (.bs 0 0 n) v:=by
 obtain⟨a,cap,rfl,f,h⟩:=iA h;refine aT rfl (by simp) rfl ⟨a,cap,rfl,f,h.imp (λ⟨i,h2,d⟩=>⟨?_,rfl,?_⟩) id⟩
 .rw[i,g];rfl
 .rw[e]at d;exact d
def gq.tc{w0:Z}{z:Sz}{L:V ab}{e:Z->U}{w:R}(N:gq w0 S b z L pv e i m w)(_hi:i<L.length)(O:jq (Ctx.b1 S b z) w 1 (L.getD i aB).parts.length (bI (L.getD i aB).parts) v)(xr:∀q,eA v q->S q/\w0<=q)(h1:∀j q,j<i->eA (pv j) q->¬eA v q)(h2:∀j q,j<m->eA (e j) q->¬eA v q):gq w0 S b z L (oK pv i v) e (i+1) m w:=by
 have e1:oK pv i v i=v:=by unfold oK;simp
 have d:∀j,j≠i->oK pv i v j=pv j:=λj c=>by
  unfold oK;rw[show j.beq i=E7 from CU.2 λh=>c (by simpa using h)];rfl
 refine⟨λj c=>?_,N.t?,λj h3 g=>by rw[d j (by omega)];exact N.HM j (by omega) g,N.HL,λj q c a=>?_,N.dz,λj k q c f a=>?_,N.dB,λj k q c f a=>?_,N.S0⟩
 .by_cases h:j=i
  .simp_all
  .rw[d j h];exact N.t! j (by omega)
 .by_cases h:j=i
  .simp_all
  .rw[d j h]at a;exact N.l? j q (by omega) a
 .rw[d j (by omega)]at a;by_cases h:k=i
  .grind
  .rw[d k h];exact N.dP j k q c (by omega) a
 .by_cases h:j=i
  .grind
  .rw[d j h]at a;exact N.dX j k q (by omega) f a
def gq.afI{w0:Z}{z:Sz}{L:V ab}{e:Z->U}{w:R}(N:gq w0 S b z L pv e m i w)(_hi:i<L.length)(O:jq (Ctx.b1 S b z) w 2 (L.getD i aB).base.length (iL (L.getD i aB).base 200) v)(xr:∀q,eA v q->S q/\w0<=q)(h1:∀j q,j<m->eA (pv j) q->¬eA v q)(h2:∀j q,j<i->eA (e j) q->¬eA v q):gq w0 S b z L pv (oK e i v) m (i+1) w:=by
 have e1:oK e i v i=v:=by unfold oK;simp
 have d:∀j,j≠i->oK e i v j=e j:=λj c=>by
  unfold oK;rw[show j.beq i=E7 from CU.2 λh=>c (by simpa using h)];rfl
 refine⟨N.t!,λj c=>?_,N.HM,λj h3 g=>by rw[d j (by omega)];exact N.HL j (by omega) g,N.l?,λj q c a=>?_,N.dP,λj k q c f a=>?_,λj k q c f a=>?_,N.S0⟩
 .by_cases h:j=i
  .simp_all
  .rw[d j h];exact N.t? j (by omega)
 .by_cases h:j=i
  .simp_all
  .rw[d j h]at a;exact N.dz j q (by omega) a
 .rw[d j (by omega)]at a;by_cases h:k=i
  .grind
  .rw[d k h];exact N.dB j k q c (by omega) a
 .by_cases h:k=i
  .grind
  .rw[d k h];exact N.dX j k q c (by omega) a
def alz{L:V ab}{b:Z->U}{w:R}:∀j,j<L.length->∀a,aj c w (W (j.beq i) (.st [.int .i64 (L.getD i aB).kind,.st [.bool (L.getD i aB).neg,.ws (L.getD i aB).ai],.val v,.val (b i),.st [.aa (L.getD i aB).ca 200,.aa (L.getD i aB).cb 200,.aa (L.getD i aB).cm 200],.st [.aa (L.getD i aB).x 200,.aa (L.getD i aB).y 200,.bool (L.getD i aB).inf],.aa (L.getD i aB).ord 200]) (jU L pv b j)) a->aj c w (jU L (oK pv i v) b j) a:=λj _ a h=>by
 unfold jU oK;cases d:j.beq i with
 |true =>
  simp_all
 |false =>
  rw[d,Z5]at h;exact h
set_option maxRecDepth 100000 in
def amh{w0:FF}{S1:FF->Prop}{b:FF}{z:Sz}{pv m:FF->FN}{i:FF}{G:FE Deferred}(U:ops.toList=ec 5)(N:gq w0 S1 b z L pv m i i w)(F:i<L.length)(Lz:w0<=w.heap.size)(T:(0+(L.getD i aB).parts.length)*8<=140737488355328)(h:St S1 (bw.b1 w b z G) (kf L pv m i) (Ctx.b1 S1 b z) a w)(hQ:∀v S2 a' w',gq w0 S2 b z L (oK pv i v) m (i+1) i w'->St S2 (bw.b1 w' b z G) (kf L (oK pv i v) m i) (Ctx.b1 S2 b z) a' w'->dp (bw.b1 w b z G) w'->(∀q,S1 q->S2 q)->(∀q,S2 q->S1 q\/w.heap.size<=q)->Q .normal a' w'):wpList AA ops Q ops.toList a w:=by
 rw[show ops.toList=(ec 5).take 8++(ec 5).drop 8 by rw[BP,U]];refine jL _ a w ?_;refine cH (E:=aK [] aC) (Kp:=λ_=>FR) (K:=λs=>∀c' a' w',St S1 (bw.b1 w b z G) s c' a' w'->wpList _ ops Q ((ec 5).drop 8) a' w') (λ_ _ _ _ h=>h.elim) _ (kf L pv m i) _ a w ?_ h (λs' c' a' w' q n _=>q c' a' w' n);rw[U,<-ak0];refine⟨by omega,by rw[Z8];exact F,λc1 X V p=>?_⟩;rw[Z8]at p;have hk:=p.mem.VW;have Z:=dR (show af c1 V (.val (pv i)) (X.tmps.getD 21 undef) from p.tm 21);have Y:=(N.HM i (Z0 _) F).bu hk;have h2:=p.re ((16,.bs 1 0 0)::(21,.sl 1 (L.getD i aB).parts.length (bI (L.getD i aB).parts))::xl L.length i) [nM L pv m,⟨E7,.rows 1 0 λ_=>.any⟩]
  (p.mem.nr (i:=1) (bc:= .arr .i64 []) (bc':= .rows 1 0 λ_=>.any) rfl rfl (λarr _ _ i F=>FK F (AL i)))
  (fa (p.tm 16) (fa (aT rfl (by simp) rfl (by rw[Z.1];exact Y)) (fa (p.tm 3) (fa (p.tm 4) (fa (p.tm 14) (fa (p.tm 15) f0))))))
 rw[show(ec 5).drop 8=((ec 5).drop 8).take 1++((ec 5).drop 8).drop 1 from (BP 1 _).symm];refine jL _ X V ?_;refine cH (E:=aK [] aC) (Kp:=λ_=>FR) (K:=λs=>∀c' a' w',St S1 (bw.b1 w b z G) s c' a' w'->wpList _ ops Q (((ec 5).drop 8).drop 1) a' w') (λ_ _ _ _ h=>h.elim) _ _ _ X V ?_ h2 (λs' c' a' w' q n _=>q c' a' w' n);rw[U];refine cast (ak1 L pv m i _ (bI (L.getD i aB).parts) _) ⟨⟨Z9 _,T⟩,λu A l f=>?_⟩;have g:=f.mem.b4 0 b z ⟨rfl,rfl,rfl⟩;generalize hv:A.tmps.getD 22 undef=v;have R:aj u l (.bs 1 0 (0+(L.getD i aB).parts.length)) [v]:=hv ▸ b8 (show af u l (.bs 1 0 (0+(L.getD i aB).parts.length)) (A.tmps.getD 22 undef) from f.tm 22) rfl (by simp) rfl;obtain⟨O,D⟩:=Nr R (λH=>f.mem.box 1 _ H rfl);rw[AZ]at O R;have d:∀q,eA v q->w.heap.size<=q/\u.S q/\q≠b:=λq c=>by
  obtain⟨H,e⟩:=D q c;have J:q≠b:=λe2=>FK (f.mem.inj 1 0 H g.1 (by rw[g.2.1,<-e,e2])) (by decide);refine⟨?_,f.mem.WS q ((f.mem.hW q).2 ⟨1,_,H,rfl,rfl,e.symm⟩),J⟩;rcases(f.mem.fresh 1 H).1 with k|k
  .rw[e];exact k
  .exact FK (e.trans k) J
 have o:∀q,S1 q\/eA v q->u.S q/\q≠b:=λq c=>c.elim (λc=>⟨(f.mem.hS q).2 (.inl c),(N.S0 q c).2⟩) λc=>(d q c).2;have P:∀t,af u l (.bs 0 0 L.length) (A.tmps.getD t undef)->af (Ctx.b1 (λq=>S1 q\/eA v q) b z) l (.bs 0 0 L.length) (A.tmps.getD t undef):=λt W=>qn g.2.1 g.2.2 W;have M:∀t,af u l (.int .i64 i) (A.tmps.getD t undef)->af (Ctx.b1 (λq=>S1 q\/eA v q) b z) l (.int .i64 i) (A.tmps.getD t undef):=λt W=>by rw[cK W];exact cG _ _
 have K7:v.oneCell'=FD:=by
  obtain⟨x,y,e,_⟩:=O;rw[e];rfl
 have h4:=f.one (F':=jU L pv m) rfl g.1 g.2.1 g.2.2 (λq=>S1 q\/eA v q) o (λ_ _ _ h=>h) ((22,.val v)::xl L.length i)
  (fa (aT rfl (by simp) rfl ⟨by rw[hv],K7⟩) (fa (P 3 (f.tm 3)) (fa (M 4 (f.tm 4)) (fa (P 14 (f.tm 14)) (fa (M 15 (f.tm 15)) f0)))))
 have de:∀q,S1 q\/eA v q->q<l.heap.size/\q≠b:=λq c=>⟨f.mem.fh q (o q c).1,(o q c).2⟩;have N1:=N.frame f.mem.ext (λq=>S1 q\/eA v q) (λq c=>.inl c) (λq c=>c.imp id λc=>(d q c).1) de;have N2:gq w0 (λq=>S1 q\/eA v q) b z L (oK pv i v) m (i+1) i l:=N1.tc F (O.bu (⟨λq _ c=>(show(S1 q\/eA v q)\/q=b from c).elim (λc=>(o q c).1) λc=>f.mem.WS q ((f.mem.hW q).2 ⟨0,_,g.1,rfl,rfl,by rw[g.2.1];exact c.symm⟩),λ_ _ h=>h,λ_ h=>h.elim,λ_ _ _=>rfl,λ_ _ _=>rfl⟩:bg u.elem (Ctx.b1 (λq=>S1 q\/eA v q) b z).elem l l) λ_ _=>rfl)
  (λq c=>⟨.inr c,A1 Lz (d q c).1⟩) (λj q I c B=>by have:=(N.S0 q (N.l? j q I c).1).1;have:=(d q B).1;omega) (λj q I c B=>by have:=(N.S0 q (N.dz j q I c).1).1;have:=(d q B).1;omega)
 refine cH (E:=aK [] aC) (Kp:=λ_=>FR) (K:=λs=>∀c' a' w',St (λq=>S1 q\/eA v q) (bw.b1 l b z G) s c' a' w'->Q .normal a' w') (λ_ _ _ _ h=>h.elim) _ _ _ A l ?_ h4 (λs' c' a' w' q n _=>q c' a' w' n);rw[U];refine cast (ak2 L pv m i v _ _ rfl _ rfl) ⟨by omega,by rw[Z8];exact F,λc3 a3 w3 r=>?_⟩;rw[Z8]at r;have g:=r.mem.b4 0 b z ⟨rfl,rfl,rfl⟩;have C:∀q,S1 q\/eA v q->c3.S q/\q≠b:=λq c=>⟨(r.mem.hS q).2 (.inl c),(o q c).2⟩;have h6:=r.one (F':=jU L (oK pv i v) m) rfl g.1 g.2.1 g.2.2 (λq=>S1 q\/eA v q) C (λj I cs h=>alz j I cs h) (tg L.length i)
  (fa (qn g.2.1 g.2.2 (r.tm 3)) (fa (by rw[cK (r.tm 4)];exact cG _ _) f0))
 exact hQ v _ a3 w3 (N2.frame r.mem.ext _ (λq c=>c) (λq c=>.inl c) λq c=>⟨r.mem.fh q (C q c).1,(C q c).2⟩) h6 (f.mem.ext.Ks r.mem.ext) (λq c=>.inl c) (λq c=>c.imp id λc=>(d q c).1)
def alA{L:V ab}{b:Z->U}{w:R}:∀j,j<L.length->∀a,aj c w (W (j.beq i) (.st [.int .i64 (L.getD i aB).kind,.st [.bool (L.getD i aB).neg,.ws (L.getD i aB).ai],.val (pv i),.val v,.st [.aa (L.getD i aB).ca 200,.aa (L.getD i aB).cb 200,.aa (L.getD i aB).cm 200],.st [.aa (L.getD i aB).x 200,.aa (L.getD i aB).y 200,.bool (L.getD i aB).inf],.aa (L.getD i aB).ord 200]) (jU L pv b j)) a->aj c w (jU L pv (oK b i v) j) a:=λj _ a h=>by
 unfold jU oK;cases d:j.beq i with
 |true =>
  simp_all
 |false =>
  rw[d,Z5]at h;exact h
set_option maxRecDepth 100000 in
def ami{w0:FF}{S1:FF->Prop}{b:FF}{z:Sz}{pv m:FF->FN}{i:FF}{G:FE Deferred}(U:ops.toList=ec 6)(N:gq w0 S1 b z L pv m (i+1) i w)(F:i<L.length)(Lz:w0<=w.heap.size)(T:(0+(L.getD i aB).base.length)*32<=140737488355328)(h:St S1 (bw.b1 w b z G) (kf L pv m i) (Ctx.b1 S1 b z) a w)(hQ:∀v S2 a' w',gq w0 S2 b z L pv (oK m i v) (i+1) (i+1) w'->St S2 (bw.b1 w' b z G) (kf L pv (oK m i v) i) (Ctx.b1 S2 b z) a' w'->dp (bw.b1 w b z G) w'->(∀q,S1 q->S2 q)->(∀q,S2 q->S1 q\/w.heap.size<=q)->Q .normal a' w'):wpList AA ops Q ops.toList a w:=by
 rw[show ops.toList=(ec 6).take 8++(ec 6).drop 8 by rw[BP,U]];refine jL _ a w ?_;refine cH (E:=aK [] aC) (Kp:=λ_=>FR) (K:=λs=>∀c' a' w',St S1 (bw.b1 w b z G) s c' a' w'->wpList _ ops Q ((ec 6).drop 8) a' w') (λ_ _ _ _ h=>h.elim) _ (kf L pv m i) _ a w ?_ h (λs' c' a' w' q n _=>q c' a' w' n);rw[U,<-ak3];refine⟨by omega,by rw[Z8];exact F,λc1 X V p=>?_⟩;rw[Z8]at p;have hk:=p.mem.VW;have Z:=dR (show af c1 V (.val (m i)) (X.tmps.getD 32 undef) from p.tm 32);have Y:=(N.HL i (Z0 _) F).bu hk;have h2:=p.re ((27,.bs 1 0 0)::(32,.sl 2 (L.getD i aB).base.length (iL (L.getD i aB).base 200))::xm L.length i) [nM L pv m,⟨E7,.rows 2 0 λ_=>.any⟩]
  (p.mem.nr (i:=1) (bc:= .rows 2 0 (aU [])) (bc':= .rows 2 0 λ_=>.any) rfl rfl (λarr _ _ i F=>FK F (AL i)))
  (fa (p.tm 27) (fa (aT rfl (by simp) rfl (by rw[Z.1];exact Y)) (fa (p.tm 3) (fa (p.tm 4) (fa (p.tm 25) (fa (p.tm 26) f0))))))
 rw[show(ec 6).drop 8=((ec 6).drop 8).take 1++((ec 6).drop 8).drop 1 from (BP 1 _).symm];refine jL _ X V ?_;refine cH (E:=aK [] aC) (Kp:=λ_=>FR) (K:=λs=>∀c' a' w',St S1 (bw.b1 w b z G) s c' a' w'->wpList _ ops Q (((ec 6).drop 8).drop 1) a' w') (λ_ _ _ _ h=>h.elim) _ _ _ X V ?_ h2 (λs' c' a' w' q n _=>q c' a' w' n);rw[U];refine cast (ak4 L pv m i _ (iL (L.getD i aB).base 200) _) ⟨⟨Z9 _,T⟩,λu A l f=>?_⟩;have g:=f.mem.b4 0 b z ⟨rfl,rfl,rfl⟩;generalize hv:A.tmps.getD 33 undef=v;have R:aj u l (.bs 1 0 (0+(L.getD i aB).base.length)) [v]:=hv ▸ b8 (show af u l (.bs 1 0 (0+(L.getD i aB).base.length)) (A.tmps.getD 33 undef) from f.tm 33) rfl (by simp) rfl;obtain⟨O,D⟩:=Nr R (λH=>f.mem.box 1 _ H rfl);rw[AZ]at O R;have d:∀q,eA v q->w.heap.size<=q/\u.S q/\q≠b:=λq c=>by
  obtain⟨H,e⟩:=D q c;have J:q≠b:=λe2=>FK (f.mem.inj 1 0 H g.1 (by rw[g.2.1,<-e,e2])) (by decide);refine⟨?_,f.mem.WS q ((f.mem.hW q).2 ⟨1,_,H,rfl,rfl,e.symm⟩),J⟩;rcases(f.mem.fresh 1 H).1 with k|k
  .rw[e];exact k
  .exact FK (e.trans k) J
 have o:∀q,S1 q\/eA v q->u.S q/\q≠b:=λq c=>c.elim (λc=>⟨(f.mem.hS q).2 (.inl c),(N.S0 q c).2⟩) λc=>(d q c).2;have P:∀t,af u l (.bs 0 0 L.length) (A.tmps.getD t undef)->af (Ctx.b1 (λq=>S1 q\/eA v q) b z) l (.bs 0 0 L.length) (A.tmps.getD t undef):=λt W=>qn g.2.1 g.2.2 W;have M:∀t,af u l (.int .i64 i) (A.tmps.getD t undef)->af (Ctx.b1 (λq=>S1 q\/eA v q) b z) l (.int .i64 i) (A.tmps.getD t undef):=λt W=>by rw[cK W];exact cG _ _
 have K7:v.oneCell'=FD:=by
  obtain⟨x,y,e,_⟩:=O;rw[e];rfl
 have h4:=f.one (F':=jU L pv m) rfl g.1 g.2.1 g.2.2 (λq=>S1 q\/eA v q) o (λ_ _ _ h=>h) ((33,.val v)::xm L.length i)
  (fa (aT rfl (by simp) rfl ⟨by rw[hv],K7⟩) (fa (P 3 (f.tm 3)) (fa (M 4 (f.tm 4)) (fa (P 25 (f.tm 25)) (fa (M 26 (f.tm 26)) f0)))))
 have de:∀q,S1 q\/eA v q->q<l.heap.size/\q≠b:=λq c=>⟨f.mem.fh q (o q c).1,(o q c).2⟩;have N1:=N.frame f.mem.ext (λq=>S1 q\/eA v q) (λq c=>.inl c) (λq c=>c.imp id λc=>(d q c).1) de;have N2:gq w0 (λq=>S1 q\/eA v q) b z L pv (oK m i v) (i+1) (i+1) l:=N1.afI F (O.bu (⟨λq _ c=>(show(S1 q\/eA v q)\/q=b from c).elim (λc=>(o q c).1) λc=>f.mem.WS q ((f.mem.hW q).2 ⟨0,_,g.1,rfl,rfl,by rw[g.2.1];exact c.symm⟩),λ_ _ h=>h,λ_ h=>h.elim,λ_ _ _=>rfl,λ_ _ _=>rfl⟩:bg u.elem (Ctx.b1 (λq=>S1 q\/eA v q) b z).elem l l) λ_ _=>rfl)
  (λq c=>⟨.inr c,A1 Lz (d q c).1⟩) (λj q I c B=>by have:=(N.S0 q (N.l? j q I c).1).1;have:=(d q B).1;omega) (λj q I c B=>by have:=(N.S0 q (N.dz j q I c).1).1;have:=(d q B).1;omega)
 refine cH (E:=aK [] aC) (Kp:=λ_=>FR) (K:=λs=>∀c' a' w',St (λq=>S1 q\/eA v q) (bw.b1 l b z G) s c' a' w'->Q .normal a' w') (λ_ _ _ _ h=>h.elim) _ _ _ A l ?_ h4 (λs' c' a' w' q n _=>q c' a' w' n);rw[U];refine cast (ak5 L pv m i v _ _ rfl _ rfl) ⟨by omega,by rw[Z8];exact F,λc3 a3 w3 r=>?_⟩;rw[Z8]at r;have g:=r.mem.b4 0 b z ⟨rfl,rfl,rfl⟩;have C:∀q,S1 q\/eA v q->c3.S q/\q≠b:=λq c=>⟨(r.mem.hS q).2 (.inl c),(o q c).2⟩;have h6:=r.one (F':=jU L pv (oK m i v)) rfl g.1 g.2.1 g.2.2 (λq=>S1 q\/eA v q) C (λj I cs h=>alA j I cs h) (tg L.length i)
  (fa (qn g.2.1 g.2.2 (r.tm 3)) (fa (by rw[cK (r.tm 4)];exact cG _ _) f0))
 exact hQ v _ a3 w3 (N2.frame r.mem.ext _ (λq c=>c) (λq c=>.inl c) λq c=>⟨r.mem.fh q (C q c).1,(C q c).2⟩) h6 (f.mem.ext.Ks r.mem.ext) (λq c=>.inl c) (λq c=>c.imp id λc=>(d q c).1)
noncomputable def ni:Code:=qO C6
def aaI:Code->Code
 |.loop c=>c
 |c=>c
def aeF:Code->Code
 |.block _ c=>c
 |c=>c
noncomputable def Hl:Code:=aaI (aeF (aX (cN (aX (aX ni)))))
def ajM(n:Z)(f:Z->MV)(K:Ex->MS->Prop):K .normal ⟨37, [(2,.val (.slice E9 0 0)),(0,.sl 18 n f)], [],0⟩=aZ (aK [] aC) (λ_=>D) (cN ni) ⟨37,dQ 0 [.sl 18 n f], [],0⟩ K:=by kernel_rfl
def ajN(n:Z)(f:Z->MV)(K:Ex->MS->Prop):(((0:Z)<=0/\((0:Z)+AO (bh.rows (18:Z) n f))*288<=140737488355328)/\K Ex.normal { n:=nat_lit 37,tm:=[((3:Z),MV.bs (0:Z) (0:Z) ((0:Z)+AO (bh.rows (18:Z) n f))),((7:Z),MV.bs (0:Z) (0:Z) ((0:Z)+AO (bh.rows (18:Z) n f))),((6:Z),bif A6 (0:Z) (MV.sl (18:Z) n f)then MV.any else MV.sl (18:Z) n f),((5:Z),bif A6 (0:Z) (MV.bs (0:Z) (0:Z) (0:Z))then MV.any else MV.bs (0:Z) (0:Z) (0:Z)),((2:Z),bif A6 (0:Z) (MV.val (BV E9 (0:Z) (0:Z)))then MV.any else MV.val (BV E9 (0:Z) (0:Z))),((0:Z),bif A6 (0:Z) (MV.sl (18:Z) n f)then MV.any else MV.sl (18:Z) n f)],bx:=[{ fz:=false,c:=BC.rows (18:Z) ((0:Z)+n) λq=>bif A4 q (0:Z)then aU [] q else f (q-0) }],np:=nat_lit 0 })=aZ (aK [] aC) (λ_=>D) (cN (aX ni)) ⟨37, [(2,.val (.slice E9 0 0)),(0,.sl 18 n f)], [],0⟩ K:=by kernel_rfl
def ajO(n:Z)(f:Z->MV)(K:Ex->MS->Prop):K .normal ⟨37, [(4,.int .i64 0),(3,.bs 0 0 n)], [⟨E7,.rows 18 n f⟩],0⟩=aZ (aK [] aC) (λ_=>D) (cN (cN (aX (aX ni)))) ⟨37, [(3,.bs 0 0 n)], [⟨E7,.rows 18 n f⟩],0⟩ K:=by kernel_rfl
def ajP(L:V ab)(pv a:Z->U)(i:Z)(K:Ex->MS->Prop):(bif J ((↑i:Y)<(↑(B L):Y))then K Ex.normal { n:=nat_lit 37,tm:=[((11:Z),MV.bool FD),((11:Z),MV.bool (J ((↑i:Y)<(↑(B L):Y)))),((10:Z),MV.int FA (↑(B L):Y)),((9:Z),MV.bs (0:Z) (0:Z) (B L)),((8:Z),MV.int FA (↑i:Y)),((3:Z),MV.bs (0:Z) (0:Z) (B L)),((4:Z),MV.int FA (↑i:Y))],bx:=[nM L pv a],np:=nat_lit 1 } else K (Ex.exit (0:Z)) { n:=nat_lit 37,tm:=[((11:Z),MV.bool E7),((11:Z),MV.bool (J ((↑i:Y)<(↑(B L):Y)))),((10:Z),MV.int FA (↑(B L):Y)),((9:Z),MV.bs (0:Z) (0:Z) (B L)),((8:Z),MV.int FA (↑i:Y)),((3:Z),MV.bs (0:Z) (0:Z) (B L)),((4:Z),MV.int FA (↑i:Y))],bx:=[nM L pv a],np:=nat_lit 1 })=aZ (aK [] aC) (λ_=>D) (cN Hl) (kf L pv a i) K:=by kernel_rfl
def ajQ(L:V ab)(pv a:Z->U)(i:Z)(K:Ex->MS->Prop):K .normal ⟨37, [(4,.int .i64 (i64.wrap (i+1))),(13,.int .i64 (i64.wrap (i+1))),(12,.int .i64 i),(3,.bs 0 0 L.length),(4,.int .i64 i)], [nM L pv a],1⟩=aZ (aK [] aC) (λ_=>D) (aX (aX Hl)) (kf L pv a i) K:=by kernel_rfl
def ajR(L:V ab)(pv a:Z->U)(i:Z)(K:Ex->MS->Prop):K .ret ⟨37, [(2,.bs 0 0 L.length),(36,.bs 0 0 L.length),(3,.bs 0 0 L.length),(4,.int .i64 i)], [nM L pv a],1⟩=aZ (aK [] aC) (λ_=>D) (aX (aX (aX ni))) (kf L pv a i) K:=by kernel_rfl
def apd(S:Z->Prop)(B:bw)(Q:Exit->Act->R->Prop)(e:Ex)(s:MS):Prop:=∀c a w,St S B s c a w->Q e.out a w
def rT{B:bw}{Q:Exit->Act->R->Prop}{E:Env AA}{x:Code}{s:MS}{w:R}(h:aZ E (λ_=>D) x s (apd S B Q))(b:St S B s c a w):x.wp AA Q a w :=
 bJ bQ x s _ c a w Q h b (λ_ _ c' a' w' q h=>q c' a' w' h) (λ_ _ _ _ h=>h.elim)
structure rm (S:Nat->Prop) (w0:World) (b:Nat) (z:Sz) (L:List ab) (pv bv:Nat->Value) (m i:Nat) (S1:Nat->Prop) (a:Act) (w:World):Prop where
 nest:gq w0.heap.size S1 b z L pv bv m m w
 st:St S1 (bw.b1 w b z []) (kf L pv bv i) (Ctx.b1 S1 b z) a w
 ext:Ext w0 w
 hb:w0.heap.size<=b
 sub:∀q,S q->S1 q
 sup:∀q,S1 q->S q\/w0.heap.size<=q
def Ext.b1{w0 w w':R}{z:Sz}{d:V Deferred}(h:Ext w0 w)(hb:w0.heap.size<=b)(k:dp (bw.b1 w b z d) w'):Ext w0 w' :=
 ⟨k.os.trans h.os,k.output.trans h.output,A1 h.size k.size,λi c=>(k.block i (AP c h.size) λe=>by have e:i=b:=e;omega).trans (h.block i c),λx a=>(k.cz x (AP a h.size)).trans (h.cz x a),k.tape.trans h.tape,A1 h.dr k.dr⟩
def rm.next{w0:R}{z:Sz}{L:V ab}{f:Z->U}{i':Z}{a':Act}{w w':R}{tm:V (Z×MV)}(I:rm S w0 b z L pv f m i S1 a w)(h:St S1 (bw.b1 w b z []) ⟨37,tm, [nM L pv f],1⟩ c a' w')(n:bD 3 tm= .bs 0 0 L.length)(l:bD 4 tm= .int .i64 i'):rm S w0 b z L pv f m i' S1 a' w':=by
 have e:=h.mem.b4 0 b z ⟨rfl,rfl,rfl⟩;have g:∀q,S1 q->c.S q/\q≠b:=λq d=>⟨(h.mem.hS q).2 (.inl d),(I.nest.S0 q d).2⟩;have k:af c w' (.bs 0 0 L.length) (a'.tmps.getD 3 undef):=n ▸ h.tm 3;have j:af c w' (.int .i64 i') (a'.tmps.getD 4 undef):=l ▸ h.tm 4;exact⟨I.nest.frame h.mem.ext S1 (λq d=>d) (λq d=>.inl d) λq d=>⟨h.mem.fh q (g q d).1,(g q d).2⟩,
  h.one (F':=jU L pv f) rfl e.1 e.2.1 e.2.2 S1 g (λ_ _ _ h=>h) (tg L.length i') (fa (qn e.2.1 e.2.2 k) (fa (by rw[cK j];exact cG _ _) f0)),I.ext.b1 I.hb h.mem.ext,I.hb,I.sub,I.sup⟩
structure Wc (S:Nat->Prop) (w:World) (L:List ab) (e:Ending) (w':World) (b cap:Nat) (S1:Nat->Prop) (pv bv:Nat->Value):Prop where
 res:e= .returned (.slice (some ⟨b,0,none⟩) L.length cap)
 jx:L.length<=cap
 ext:Ext w w'
 hb:w.heap.size<=b
 nest:gq w.heap.size S1 b ⟨cap*18,18⟩ L pv bv L.length L.length w'
 sub:∀q,S q->S1 q
 sup:∀q,S1 q->S q\/w.heap.size<=q
 box:dn (Ctx.b1 S1 b ⟨cap*18,18⟩) w' 0 (nM L pv bv)
def Zr{w:R}{L:V ab}{j:Z}{f:V U}(h:aj c w (aF L 200 j) f):∃p b,aj c w (jU L (λ_=>p) (λ_=>b) j) f/\aj c w (.sl 1 (L.getD j aB).parts.length (bI (L.getD j aB).parts)) [p]/\aj c w (.sl 2 (L.getD j aB).base.length (iL (L.getD j aB).base 200)) [b]:=by
 obtain⟨l,y1,rfl,r,k,y2,rfl,q,i,y3,rfl,e,g,y4,rfl,d,o⟩:=h;have t:∃v,i=[v]/\v.oneCell'=FD:=by
  obtain⟨a,cap,rfl,_⟩:=e;exact⟨_,rfl,rfl⟩
 have s:∃v,g=[v]/\v.oneCell'=FD:=by
  obtain⟨a,cap,rfl,_⟩:=d;exact⟨_,rfl,rfl⟩
 obtain⟨p,rfl,m⟩:=t;obtain⟨b,rfl,n⟩:=s;exact⟨p,b,⟨l,_,rfl,r,k,_,rfl,q, [p],_,rfl,⟨rfl,m⟩, [b],_,rfl,⟨rfl,n⟩,o⟩,e,d⟩
def Zs{w:R}{L:V ab}{arr:N U}(h:gJ c w (.rows 18 L.length (aF L 200)) arr):∃pv g:Z->U,gJ c w (.rows 18 L.length (jU L pv g)) arr/\
  ∀j,j<L.length->aj c.elem w (.sl 1 (L.getD j aB).parts.length (bI (L.getD j aB).parts)) [pv j]/\aj c.elem w (.sl 2 (L.getD j aB).base.length (iL (L.getD j aB).base 200)) [g j]:=by
 have H:∀j:Z,∃y:U×U,j<L.length->(∃d,d.length=18/\aj c.elem w (jU L (λ_=>y.1) (λ_=>y.2) j) d/\∀(k:Z) v,d[k]? =E8 v->arr[j*18+k]? =E8 v)/\
   aj c.elem w (.sl 1 (L.getD j aB).parts.length (bI (L.getD j aB).parts)) [y.1]/\aj c.elem w (.sl 2 (L.getD j aB).base.length (iL (L.getD j aB).base 200)) [y.2]:=λj=>by
  by_cases a:j<L.length
  .obtain⟨d,o,n,m⟩:=h j a;obtain⟨p,b,l,s2,i⟩:=Zr n;exact⟨(p,b),λ_=>⟨⟨d,o,l,m⟩,s2,i⟩⟩
  .exact⟨(.nilFunc,.nilFunc),λh=>M h a⟩
 obtain⟨f,e⟩:=Classical.axiomOfChoice H;exact⟨λj=>(f j).1,λj=>(f j).2,λj a=>(e j a).1,λj a=>(e j a).2⟩
def aiG(a:Act)(w:R):(results C6 a.tmps).run AA w= .ok (a.tmps.getD 2 undef) w:=by
 simp[results,Tryz.results29]
set_option maxRecDepth 100000 in
def YD{S:FF->Prop}{args:FP FN}(V:e8 L)(h0:0<L.length)(hS:∀b,S b->b<w.heap.size)(hG:GW S w)(ha:cr (BU S) w [.sl 18 L.length (aF L 200)] args.toList) :
  Calls AA 29 args w λe w'=>∃b cap S1 pv f,Wc S w L e w' b cap S1 pv f:=by
 have u:=St.start (n:=37) hS hG ha (by simp);have hlen:=V.len;refine calls_of_wp EI rfl ?_;refine wp_seq (rT (x:=cN ni) (cast (ajM _ _ _) λc1 a1 w1 X=>?_) u);refine wp_seq (rT (x:=cN (aX ni)) (cast (ajN _ _ _) ⟨⟨Z9 _,by show(0+L.length)*288<=_;omega⟩,λc2 a2 w2 A=>?_⟩) X);refine wp_seq (wp_seq (rT (x:=cN (cN (aX (aX ni)))) (cast (ajO L.length (aF L 200) _) λa J r d=>?_) (A.re [(3,.bs 0 0 L.length)] [⟨E7,.rows 18 L.length (aF L 200)⟩] (A.mem.nr (i:=0) (bc':= .rows 18 L.length (aF L 200)) rfl rfl λarr _ h i hi=>h i (by omega)) (fa (by have:=A.tm 3;rw[show bD 3 _=MV.bs 0 0 (0+L.length) from rfl,AZ]at this;exact this) f0))));have Q:af a r (.bs 0 0 L.length) (J.tmps.getD 3 undef):=d.tm 3;obtain⟨a0,cap,e3,jx,hd⟩:=iA Q;obtain⟨s,hn⟩:a.live 0/\0+cap*(a.sz 0).wd=(a.sz 0).n:=hd.elim (λh=>h.2) λh=>FK h.2.1 (by omega);obtain⟨arr,ty,q1,q2,C,q4⟩:=d.mem.box 0 _ s rfl;obtain⟨pv,f,R,E⟩:=Zs q4;have T:a.sz 0=⟨cap*18,18⟩:=by
  have C:(a.sz 0).wd=18:=C;rw[C]at hn;generalize a.sz 0=z at *;obtain⟨n,wd⟩:=z
  simp_all
 have N:a.S (a.β 0):=d.mem.WS _ ((d.mem.hW _).2 ⟨0,_,s,rfl,rfl,rfl⟩);have l:∀q,S q->a.S q/\q≠a.β 0:=λq c=>⟨(d.mem.hS q).2 (.inl c),λe=>d.mem.ma s (e ▸ c)⟩;have D:bg a.elem (Ctx.b1 S (a.β 0) ⟨cap*18,18⟩).elem r r:=⟨λq _ c=>(show S q\/q=a.β 0 from c).elim (λc=>(l q c).1) λe=>by rw[e];exact N,λ_ _ h=>h,λ_ h=>h.elim,λ_ _ _=>rfl,λ_ _ _=>rfl⟩;have W:=d.VX (F':=jU L pv f) rfl s rfl T S l (λ_ d! kn e _ j t=>by
  rw[q1]at e;simp only[Z1,Obj.cells.injEq]at e;obtain⟨cs,r1,r2,r3⟩:=R j t
  grind [B4,tg,qn,cK,af,cG]) (tg L.length 0) (fa (qn rfl T Q) (fa (by rw[cK (show af a r (.int .i64 0) (J.tmps.getD 4 undef) from d.tm 4)];exact cG _ _) f0))
 have hb:w.heap.size<=a.β 0:=(d.mem.fresh 0 s).1.elim id λh=>h.elim;have I0:rm S w (a.β 0) ⟨cap*18,18⟩ L pv f 0 0 S J r:=⟨⟨λj h=>FK h (AL j),λj h=>FK h (AL j),λj _ t=>I8 (B4 D _ _ (E j t).1),λj _ t=>I8 (B4 D _ _ (E j t).2),λj _ h=>FK h (AL j),λj _ h=>FK h (AL j),
  λj k q _ h=>FK h (AL k),λj k q _ h=>FK h (AL k),λj k q h=>FK h (AL j),λq c=>⟨d.mem.fh q (l q c).1,(l q c).2⟩⟩,W,d.mem.ext.plain,hb,λq c=>c,λq c=>.inl c⟩
 generalize a.β 0=b at *;clear W R E D X A d;refine wp_block (wp_loop_ghost (λm a' w'=>∃i S1 pv f,m=L.length-i/\i<=L.length/\rm S w b ⟨cap*18,18⟩ L pv f i i S1 a' w') L.length ⟨0,S,pv,f,rfl,Z9 _,I0⟩ ?_)
 rintro m a4 w4 ⟨i,S1,pv,f,rfl,hi,I⟩
 refine wp_seq (rT (x:=cN Hl) (cast (ajP _ _ _ _ _) (aJ Z4 (λde=>λc5 a5 P G=>?_) (λdy=>λc5 a5 P G=>?_))) I.st)
 .have I5:=I.next G rfl rfl;have g:i<L.length:=by omega
  have VV:=V.at i g;refine wp_seq (wp_block (wp_seq (wp_region_list ?_)));refine amh (by kernel_rfl) I5.nest g I5.ext.size (by have:=VV.parts;omega) I5.st (λv S2 H y N6 p B s1 s2=>?_);refine wp_region_list ?_;refine ami (by kernel_rfl) N6 g (A1 I5.ext.size B.size) (by have:=VV.base;omega) p (λv2 S3 a7 Y N7 h7 e7 apO s4=>?_);have O:=B.Ks e7;have I7:rm S w b ⟨cap*18,18⟩ L (oK pv i v) (oK f i v2) (i+1) i S3 a7 Y:=⟨N7,h7,I5.ext.b1 I5.hb O,I5.hb,λq c=>apO q (s1 q (I5.sub q c)),λq c=>by
   have:=I5.ext.size;have:=B.size;rcases s4 q c with h|h
   .rcases s2 q h with h|h
    .exact I5.sup q h
    omega
   .have F:P.heap.size<=y.heap.size:=B.size;omega⟩
  refine rT (x:=aX (aX Hl)) (cast (ajQ _ _ _ _ _) λc8 a8 w8 F=>?_) I7.st;have e4:FH FA ((i:FG)+1)=((i+1:FF):FG):=by rw[aV (by omega) (by omega)];omega
  rw[e4]at F;exact⟨L.length-(i+1),by omega,i+1,S3,_,_,rfl,g,I7.next F rfl rfl⟩
 .have I5:=I.next G rfl rfl;have K:i=L.length:=by omega
  subst K;refine rT (x:=aX (aX (aX ni))) (cast (ajR _ _ _ _ _) λc6 H y p=>?_) I5.st;have Z:af c6 y (.bs 0 0 L.length) (H.tmps.getD 2 undef):=p.tm 2;have U:=p.mem.b4 0 b _ ⟨rfl,rfl,rfl⟩;have I6:=I5.next p rfl rfl;obtain⟨a1,KU,e1,M,ti⟩:=iA Z;rcases ti with ⟨ti,_,o⟩|ti
  .rw[U.2.1]at ti;rw[U.2.2]at o;have o:0+KU*18=cap*18:=o;obtain rfl:KU=cap:=by omega
   exact⟨p.defers,_,aiG H y,b,KU,S1,pv,f,by rw[e1,ti],M,I6.ext,I6.hb,I6.nest,I6.sub,I6.sup,I6.st.mem.box 0 _ rfl rfl⟩
  omega
def rF(a b:V Y):Y:=if a.length<b.length then-1 else if b.length<a.length then 1 else aY (wv a) (wv b)
def Aa:aG
 |[.ws a,.ws b]=>E8 (E8 (Wd a/\Wd b/\a.length<=1099511627776/\b.length<=1099511627776),.ret (.int .i64 (rF a b)))
 |_=>E9
def aap(a b:V Y):(bif (B a:Y) != (B b:Y)then bif J ((B a:Y)<(B b:Y))then (-1)=rF a b else 1=rF a b else (∃i,(i<=B a/\Do i a=Do i b)/\(a=a/\b=b/\F FA ((B a:Y)-1)=(i:Y)-1/\X)/\X)/\∀(i:Z),i<=B a/\Do i a=Do i b->bif J ((i:Y)-1≥0)then (0<=(i:Y)-1/\(i:Y)-1<(B a:Y))/\(0<=(i:Y)-1/\(i:Y)-1<(B b:Y))/\bif J (E a (C ((i:Y)-1)) 0<E b (C ((i:Y)-1)) 0)then (-1)=rF a b else (0<=(i:Y)-1/\(i:Y)-1<(B a:Y))/\(0<=(i:Y)-1/\(i:Y)-1<(B b:Y))/\bif J (E a (C ((i:Y)-1)) 0>E b (C ((i:Y)-1)) 0)then 1=rF a b else ∃j,(j<=B a/\Do j a=Do j b)/\((a=a/\b=b/\F FA ((i:Y)-1-1)=(j:Y)-1/\X)/\X)/\id j<id i else 0=rF a b)=aI (aK [] (Ai a b)) E1 [.ws a,.ws b] (BJ (.ret (.int .i64 (rF a b)))):=by kernel_rfl
def abe:bC E1 Aa:=by
 intro ms p r h e;unfold Aa at h;split at h
 .rename_i a b;cases h;obtain⟨j,g,la,lb⟩:=e;refine⟨aK [] (Ai a b),?_⟩;rw[<-aap a b];unfold rF;cases hc:((a.length:Y) != (b.length:Y))with
  |true =>
   grind
  |false =>
   rw[Z5];have c:a.length=b.length:=by
    grind
   rw[G (by omega),G (by omega)];refine⟨⟨a.length,⟨Z0 _,by rw[DZ,c,DZ]⟩,⟨rfl,rfl,aV (by omega) (by omega),⟨⟩⟩,⟨⟩⟩,λi ⟨hi,f⟩=>?_⟩;simp only[D1];split
   .rename_i h0;have k:((i:Y)-1).toNat=i-1:=by omega
    rw[k];have d:a.drop (i-1+1)=b.drop (i-1+1):=by rw[show i-1+1=i by omega];exact f
    refine⟨by omega,by omega,?_⟩;split
    .grind [sL,oU]
    .refine⟨by omega,by omega,?_⟩;split
     .rename_i h;exact(sK (oU g j (by omega) (by omega) d.symm h)).symm
     grind [oM,aV]
   .have:i=0:=by omega
    grind [rG]
 .simp at h
def Pg:ah AA:=⟨41,Aa,λargs w=>Tryz.call41 args w,aO bQ Tryz.func41 Aa abe⟩
def Po:∀(k:Z) (x c:Y),bT k (x+4294967296^k*c)=bT k x
 |0,_,_=>rfl
 |k+1,x,c=>by
  simp only[bT];have e:(4294967296:Y)^(k+1)*c=4294967296*(4294967296^k*c):=by rw[B8];grind
  rw[e,show(x+4294967296*(4294967296^k*c))%4294967296=x%4294967296 by omega,show(x+4294967296*(4294967296^k*c))/4294967296=x/4294967296+4294967296^k*c by omega,Po k]
def xJ:aG
 |[.ws a,.ws b]=>E8 (E8 (Wd a/\Wd b/\a.length<=1000000000/\b.length<=a.length),.ret (.ws (bT a.length (wv a-wv b))))
 |_=>E9
def Zf:bC Tryz.f42 xJ:=by
 intro ms p r h k;unfold xJ at h;split at h
 .rename_i a b;cases h;obtain⟨j,g,la,lb⟩:=k;refine⟨aK [fG] (II a b),?_⟩;rw[<-Oz a b _ rfl];refine⟨⟨⟨0, [],0⟩,⟨Z9 _,rfl,Wd.nil,⟨Int.le_refl _,by show(0:Y)<=1;omega⟩,by simp[wv]⟩,(by and_intros<;>first|exact⟨⟩|rfl|omega)⟩,?_⟩
  rintro⟨i,out,c⟩ d
  have hc:0<=c/\c<=1:=d.c0;have m:out.length=i:=d.len;have hi:i<=a.length:=d.hi;have h1:=j.getD i;have h2:=g.getD i;have w:u64.wrap (4294967296+a.getD i 0)=4294967296+a.getD i 0:=gI (by omega);have v:u64.wrap (4294967296+a.getD i 0-b.getD i 0)=4294967296+a.getD i 0-b.getD i 0:=gI (by omega);have u:u64.wrap (4294967296+a.getD i 0-b.getD i 0-c)=4294967296+a.getD i 0-b.getD i 0-c:=gI (by omega);have t:i64.wrap ((i:Y)+1)=((i+1:Z):Y):=by rw[aV (by omega) (by omega)];omega
  have s:fdiv (4294967296+a.getD i 0-b.getD i 0-c) 4294967296=(4294967296+a.getD i 0-b.getD i 0-c)/4294967296:=Int.fdiv_eq_ediv_of_nonneg _ (by omega);have q:FC i out=out:=AC (by omega);have o:u64.wrap (1-(4294967296+a.getD i 0-b.getD i 0-c)/4294967296)=1-(4294967296+a.getD i 0-b.getD i 0-c)/4294967296:=gI (by omega);simp only[lM,w,v,u,t,TW,GX,gj,s,q,o,lO (4294967296+a.getD i 0-b.getD i 0-c),D1,List.drop_zero];split
  .rename_i e;have e:i<a.length:=by omega
   exact⟨j,g,⟨by simp,by omega,by omega⟩,by omega,_,d.step j g e rfl,(by and_intros<;>first|exact⟨⟩|rfl|omega),by show a.length-(i+1)<a.length-i;omega⟩
  .rename_i dy;have n:i=a.length:=by omega
   have f:wv out-4294967296^i*c=wv (a.take i)-wv (b.take i):=d.sum;rw[cI,cI]at f;have:=n8 (l:=out) d.wd;rw[show wv out=(wv a-wv b)+4294967296^i*c by omega,m,Po,n]at this
   simp_all
 .simp at h
def N?:ah AA:=⟨42,xJ,λargs w=>Tryz.call42 args w,aO bQ Tryz.func42 xJ Zf⟩
def iZ(g:O)(l:V Y)(y:Y):Y :=
 W (g==J (y<0)) (sg g (wv (bT (max l.length (aA y.natAbs).length+1) (wv l+wv (aA y.natAbs)))))
  (W (J (rF l (aA y.natAbs)≥0)) (sg g (wv (bT l.length (wv l-wv (aA y.natAbs))))) (sg (J (y<0)) (wv (bT (aA y.natAbs).length (wv (aA y.natAbs)-wv l)))))
def adA(g:O)(l:V Y)(y z:Y)(m w:Z)(a:_)(i:a=(aA (u y)))(d:_)(h:d=(bT (max (B l) (B a)+1) (wv l+wv a)))(c:_)(f:c=(bT (B a) (wv a-wv l)))(b:_)(e:b=(bT (B l) (wv l-wv a))):(bif g==J (y<0)then ((∀(x:Y),x∈l->0<=x/\x<4294967296)/\(∀(x:Y),x∈aA (u y)->0<=x/\x<4294967296)/\B l<=1000000000/\B a <=1000000000)/\((∀(x:Y),x∈bT (max (B l) (B a)+1) (wv l+wv a)->0<=x/\x<4294967296)/\B d <=1000000000)/\sg g (wv d)=z/\(32*B d <=w\/u (sg g (wv d))<2^w)else ((∀(x:Y),x∈l->0<=x/\x<4294967296)/\(∀(x:Y),x∈aA (u y)->0<=x/\x<4294967296)/\B l<=1099511627776/\B a <=1099511627776)/\bif J (rF l a ≥0)then ((∀(x:Y),x∈l->0<=x/\x<4294967296)/\(∀(x:Y),x∈aA (u y)->0<=x/\x<4294967296)/\B l<=1000000000/\B a <=B l)/\((∀(x:Y),x∈bT (B l) (wv l-wv a)->0<=x/\x<4294967296)/\B b <=1000000000)/\sg g (wv b)=z/\(32*B b <=w\/u (sg g (wv b))<2^w)else ((∀(x:Y),x∈aA (u y)->0<=x/\x<4294967296)/\(∀(x:Y),x∈l->0<=x/\x<4294967296)/\B a <=1000000000/\B l<=B a)/\((∀(x:Y),x∈bT (B a) (wv a-wv l)->0<=x/\x<4294967296)/\B c <=1000000000)/\sg (J (y<0)) (wv c)=z/\(32*B c <=w\/u (sg (J (y<0)) (wv c))<2^w))=aI (aK [iM,B!,N?,Pg] aC) E3 [.st [.bool g,.ws l],.aa y m] (BJ (.ret (.aa z w))):=by subst i h f e;kernel_rfl
def Ax:aG
 |[.st [.bool g,.ws l],.aa y m]=>E8 (E8 (Wd l/\l.length<=100/\m<=64),.ret (.aa (iZ g l y) (32*(l.length+3))))
 |_=>E9
def aeP:dL E3 Ax:=by
 intro ms p r h e i;unfold Ax at h;split at h
 .rename_i g l y m;cases h;obtain⟨c,hn,f⟩:=e;have d:y.natAbs<2^m:=i.2.1;refine⟨aK [iM,B!,N?,Pg] aC,?_⟩;rw[<-adA g l y (iZ g l y) m (32*(l.length+3)) _ rfl _ rfl _ rfl _ rfl];have hb:(aA y.natAbs).length<=2:=cJ (AP d (A1 (CE (by omega) f) (show 2^64<=4294967296^2 by decide)));have b:=aM y.natAbs;simp only[iB];unfold iZ;cases (g==J (y<0))with
  |true=>exact⟨⟨c,b,by omega,by omega⟩,⟨gY _ _,by omega⟩,rfl,.inl (by omega)⟩
  |false =>
   rw[Z5,Z5];refine⟨⟨c,b,by omega,by omega⟩,?_⟩;by_cases a:rF l (aA y.natAbs)≥0
   .rw[Y0 a,Z6,Z6];have:(aA y.natAbs).length<=l.length:=by unfold rF at a;split at a<;>omega
    exact⟨⟨c,b,by omega,this⟩,⟨gY _ _,by omega⟩,rfl,.inl (by omega)⟩
   .rw[Y1 a,Z5,Z5];have:l.length<=(aA y.natAbs).length:=by unfold rF at a;split at a<;>(try split at a)<;>omega
    exact⟨⟨b,c,by omega,this⟩,⟨gY _ _,by omega⟩,rfl,.inl (by omega)⟩
 .simp at h
def Rj:ah AA:=⟨15,Ax,λargs w=>Tryz.call15 args w,aP bQ Tryz.func15 Ax aeP⟩
def yS:aG
 |[.aa a n,.int .i64 y]=>E8 (E8 (n<=1000/\-9223372036854775808<=y/\y<=9223372036854775807),.ret (.aa (a+y) (max n 64+1)))
 |_=>E9
def Y6(a y:Y)(n:Z):(fX y/\(n<=1000000/\64<=1000000)/\a+y=a+y/\(max n 64+1<=max n 64+1\/u (a+y)<2^(max n 64+1)))=aI (aK [cC,fZ] aC) DI [.aa a n,.int .i64 y] (BJ (.ret (.aa (a+y) (max n 64+1)))):=by kernel_rfl
def abn:dL DI yS:=by
 intro ms p r h b hf;unfold yS at h;split at h
 .rename_i a n y;cases h;obtain⟨h1,h2,h3⟩:=b;refine⟨aK [cC,fZ] aC,?_⟩;rw[<-Y6 a y n];first|done|(and_intros<;>first|exact⟨⟩|rfl|exact .inl (Z0 _)|omega)
 .simp at h
def Z?:ah AA:=⟨35,yS,λargs w=>EK args w,aP bQ EH yS abn⟩
def y6:aG
 |[.st [.bool g,.ws l],.int .i64 y]=>E8 (E8 (Wd l/\l.length<=100/\-9223372036854775808<=y/\y<=9223372036854775807),.ret (.aa (iZ g l y) (32*(l.length+3))))
 |_=>E9
def Y7(g:O)(l:V Y)(y:Y):(fX y/\((∀(x:Y),x∈l->0<=x/\x<4294967296)/\B l<=100/\64<=64)/\iZ g l y=iZ g l y/\(32*(B l+3)<=32*(B l+3)\/u (iZ g l y)<2^(32*(B l+3))))=aI (aK [cC,Rj] aC) DI [.st [.bool g,.ws l],.int .i64 y] (BJ (.ret (.aa (iZ g l y) (32*(l.length+3))))):=by kernel_rfl
def abo:dL DI y6:=by
 intro ms p r h a hf;unfold y6 at h;split at h
 .rename_i g l y;cases h;obtain⟨b,h2,h3,h4⟩:=a;refine⟨aK [cC,Rj] aC,?_⟩;rw[<-Y7 g l y];first|done|(and_intros<;>first|exact⟨⟩|rfl|exact .inl (Z0 _)|omega|exact b)
 .simp at h
def Z!:ah AA:=⟨35,y6,λargs w=>EK args w,aP bQ EH y6 abo⟩
def ah.or{P:FL}(a b:ah P)(h:b.f=a.f):ah P where
 f:=a.f
 spec:=λc=>match a.spec c with
  |some x=>E8 x
  |none=>b.spec c
 call:=a.call
 ok:=by
  intro S w c args p r d;cases e:a.spec c with
  |some x =>
   rw[e]at d;exact a.ok S w c args p r (by rw[e];exact d)
  |none =>
   rw[e]at d;rw[<-h];exact b.ok S w c args p r d
def ady:ah AA:=Z?.or Z! rfl
noncomputable def nf:Code:=qO B3
noncomputable def Hj:Code:=aX (aX (aX (aX (aX nf))))
noncomputable def g5:Code:=aX (cN Hj)
noncomputable def tf:Code:=aX Hj
def zM(a b y:Y):MV:= .st [.int .u8 a,.int .u8 b,.int .i64 y]
def g!(L:V ab)(pv c:Z->U)(s:ab)(a b y:Y):V aq:=[⟨E7,.one (zM a b y)⟩,nM L pv c,⟨E7,.arr .i64 s.parts⟩,⟨E7,.rows 2 s.base.length (iL s.base 200)⟩]
def ajI(L:V ab)(pv e:Z->U)(s:ab)(b d y:Y)(K:Ex->MS->Prop)(a:_)(f:a=(B L)):(bif (↑ a :Y)==0 then K Ex.ret {n:=nat_lit 190,tm:=[((4:Z),MV.bs (1:Z) (0:Z) a),((13:Z),MV.bs (1:Z) (0:Z) a),((12:Z),MV.bool FD),((12:Z),MV.bool ((↑ a :Y)==0)),((11:Z),MV.int FA (↑ a :Y)),((10:Z),MV.bs (1:Z) (0:Z) a),((3:Z),MV.bp (0:Z) (0:Z)),((5:Z),MV.bs (1:Z) (0:Z) a)],bx:=[{fz:=false,c:=BC.one (zM b d y)},nM L pv e,{fz:=false,c:=BC.arr FA (ab.parts s)},{fz:=false,c:=BC.rows (2:Z) (B (ab.base s)) (iL (ab.base s) (200:Z))}],np:=nat_lit 4} else K Ex.normal {n:=nat_lit 190,tm:=[((12:Z),MV.bool E7),((12:Z),MV.bool ((↑ a :Y)==0)),((11:Z),MV.int FA (↑ a :Y)),((10:Z),MV.bs (1:Z) (0:Z) a),((3:Z),MV.bp (0:Z) (0:Z)),((5:Z),MV.bs (1:Z) (0:Z) a)],bx:=[{fz:=false,c:=BC.one (zM b d y)},nM L pv e,{fz:=false,c:=BC.arr FA (ab.parts s)},{fz:=false,c:=BC.rows (2:Z) (B (ab.base s)) (iL (ab.base s) (200:Z))}],np:=nat_lit 4})=aZ (aK [] aC) (λ_=>D) (cN (aX (aX nf))) ⟨190, [(3,.bp 0 0),(5,.bs 1 0 L.length)],g! L pv e s b d y,4⟩ K:=by subst f;kernel_rfl
def ajJ(L:V ab)(pv d:Z->U)(s:ab)(a b y:Y)(K:Ex->MS->Prop):(((↑(B L):Y)=0->D)/\K Ex.normal { n:=nat_lit 190,tm:=[((6:Z),MV.int FA (I (F FA a) (↑(B L):Y))),((19:Z),MV.int FA (I (F FA a) (↑(B L):Y))),((18:Z),MV.int FA (↑(B L):Y)),((17:Z),MV.bs (1:Z) (0:Z) (B L)),((16:Z),MV.int FA (F FA a)),((15:Z),MV.int u8 a),((14:Z),MV.bp (0:Z) ((0:Z)+0)),((3:Z),MV.bp (0:Z) (0:Z)),((5:Z),MV.bs (1:Z) (0:Z) (B L))],bx:=[{ fz:=false,c:=BC.one (zM a b y) },nM L pv d,{ fz:=false,c:=BC.arr FA (ab.parts s) },{ fz:=false,c:=BC.rows (2:Z) (B (ab.base s)) (iL (ab.base s) (200:Z)) }],np:=nat_lit 4 })=aZ (aK [] aC) (λ_=>D) (cN (aX (aX (aX nf)))) ⟨190, [(3,.bp 0 0),(5,.bs 1 0 L.length)],g! L pv d s a b y,4⟩ K:=by kernel_rfl
def ajK(L:V ab)(pv d:Z->U)(s:ab)(g h y:Y)(i:Z)(K:Ex->MS->Prop)(b:_)(e:b=(C (↑i:Y)))(a:_)(f:a=(E L b aB)):(((0:Y)<=(↑i:Y)/\(↑i:Y)<(↑(B L):Y))/\C (↑i:Y)<B L/\K Ex.normal {n:=nat_lit 190,tm:=[((7:Z),MV.bp (4:Z) (0:Z)),((23:Z),MV.st [MV.int FA (ab.kind a),MV.st [MV.bool (ab.neg a),MV.ws (ab.ai a)],MV.val (pv b),MV.val (d b),MV.st [MV.aa (ab.ca a) (200:Z),MV.aa (ab.cb a) (200:Z),MV.aa (ab.cm a) (200:Z)],MV.st [MV.aa (ab.x a) (200:Z),MV.aa (ab.y a) (200:Z),MV.bool (ab.inf a)],MV.aa (ab.ord a) (200:Z)]),((22:Z),MV.br (1:Z) b (0:Z)),((21:Z),MV.int FA (↑i:Y)),((20:Z),MV.bs (1:Z) (0:Z) (B L)),((3:Z),MV.bp (0:Z) (0:Z)),((5:Z),MV.bs (1:Z) (0:Z) (B L)),((6:Z),MV.int FA (↑i:Y))],bx:=[{fz:=false,c:=BC.one (zM g h y)},nM L pv d,{fz:=false,c:=BC.arr FA (ab.parts s)},{fz:=false,c:=BC.rows (2:Z) (B (ab.base s)) (iL (ab.base s) (200:Z))},{fz:=false,c:=BC.one (MV.st [MV.int FA (ab.kind a),MV.st [MV.bool (ab.neg a),MV.ws (ab.ai a)],MV.val (pv b),MV.val (d b),MV.st [MV.aa (ab.ca a) (200:Z),MV.aa (ab.cb a) (200:Z),MV.aa (ab.cm a) (200:Z)],MV.st [MV.aa (ab.x a) (200:Z),MV.aa (ab.y a) (200:Z),MV.bool (ab.inf a)],MV.aa (ab.ord a) (200:Z)])}],np:=nat_lit 4})=aZ (aK [] aC) (λ_=>D) (cN (aX (aX (aX (aX nf))))) ⟨190, [(3,.bp 0 0),(5,.bs 1 0 L.length),(6,.int .i64 i)],g! L pv d s g h y,4⟩ K:=by subst e f;kernel_rfl
def Hk(L:V ab)(pv a:Z->U)(i:Z):aq:=⟨E7,.one (jU L pv a i)⟩
def ajL(L:V ab)(pv b:Z->U)(s:ab)(d a y:Y)(i:Z)(K:Ex->MS->Prop):(((16:Y)=0->D)/\K Ex.normal { n:=nat_lit 190,tm:=[((26:Z),MV.int u8 (I a (16:Y))),((25:Z),MV.int u8 a),((24:Z),MV.bp (0:Z) ((0:Z)+1)),((3:Z),MV.bp (0:Z) (0:Z)),((5:Z),MV.bs (1:Z) (0:Z) (B L)),((6:Z),MV.int FA (↑i:Y)),((7:Z),MV.bp (4:Z) (0:Z))],bx:=[{ fz:=false,c:=BC.one (zM d a y) },nM L pv b,{ fz:=false,c:=BC.arr FA (ab.parts s) },{ fz:=false,c:=BC.rows (2:Z) (B (ab.base s)) (iL (ab.base s) (200:Z)) },Hk L pv b i],np:=nat_lit 4 })=aZ (aK [] aC) (λ_=>D) (cN (cN Hj)) ⟨190, [(3,.bp 0 0),(5,.bs 1 0 L.length),(6,.int .i64 i),(7,.bp 4 0)],g! L pv b s d a y++[Hk L pv b i],4⟩ K:=by kernel_rfl
def sM(s:ab):MV:= .st [.int .i64 s.kind,.st [.bool s.neg,.ws s.ai],.bs 2 0 s.parts.length,.bs 3 0 s.base.length,.st [.aa s.ca 200,.aa s.cb 200,.aa s.cm 200],.st [.aa s.x 200,.aa s.y 200,.bool s.inf],.aa s.ord 200]
def fm(s:ab)(L:V ab)(pv c:Z->U)(i:Z)(a b y p:Y):MS:=⟨190, [(3,.bp 0 0),(5,.bs 1 0 L.length),(6,.int .i64 i),(7,.bp 4 0),(26,.int .u8 p)],
 g! L pv c s a b y++[⟨E7,.one (sM s)⟩],2⟩
def jh:Env AA:=⟨[ady,cC,rX,e9], [],39,aC,λ_=> [],λ_ _=>E9⟩
def kT(n:Z)(i:Y)(K:Ex->V aq->Prop)(e:Ex)(s:MS):Prop:=cond (s.n.beq 190&&s.np.beq 2) (match bD 7 s.tm with
 |.bp j o=>(match bD 5 s.tm with
  |.bs k f m=>(match bD 6 s.tm with
   |.int q z=>W (j.beq 4&&o.beq 0&&k.beq 1&&f.beq 0&&J (q= .i64)) ((m=n/\z=i)/\K e s.bx) D
   |_=>D)
  |_=>D)
 |_=>D) D
def aj4(s:ab)(L:V ab)(pv d:Z->U)(i:Z)(a b y:Y)(K:Ex->V aq->Prop):(((∀(x:Y),x∈ab.ai s->(0:Y)<=x/\x<4294967296)/\B (ab.ai s)<=100/\(-9223372036854775808:Y)<=y/\y<=9223372036854775807)/\(B L=B L/\(↑i:Y)=(↑i:Y))/\K Ex.normal [{ fz:=false,c:=BC.one (zM a b y) },nM L pv d,{ fz:=false,c:=BC.arr FA (ab.parts s) },{ fz:=false,c:=BC.rows (2:Z) (B (ab.base s)) (iL (ab.base s) (200:Z)) },{ fz:=false,c:=BC.one (MV.st [MV.int FA (ab.kind s),MV.aa (iZ (ab.neg s) (ab.ai s) y) ((32:Z)*(B (ab.ai s)+3)),MV.bs (2:Z) (0:Z) (B (ab.parts s)),MV.bs (3:Z) (0:Z) (B (ab.base s)),MV.st [MV.aa (ab.ca s) (200:Z),MV.aa (ab.cb s) (200:Z),MV.aa (ab.cm s) (200:Z)],MV.st [MV.aa (ab.x s) (200:Z),MV.aa (ab.y s) (200:Z),MV.bool (ab.inf s)],MV.aa (ab.ord s) (200:Z)]) }])=aZ jh (λ_=>D) g5 (fm s L pv d i a b y 0) (kT L.length i K):=by kernel_rfl
def aj5(s:ab)(L:V ab)(pv d:Z->U)(i:Z)(a b y:Y)(K:Ex->V aq->Prop):(((6:Y)=0->D)/\(B L=B L/\(↑i:Y)=(↑i:Y))/\K Ex.normal [{ fz:=false,c:=BC.one (zM a b y) },nM L pv d,{ fz:=false,c:=BC.arr FA (ab.parts s) },{ fz:=false,c:=BC.rows (2:Z) (B (ab.base s)) (iL (ab.base s) (200:Z)) },{ fz:=false,c:=BC.one (MV.st [MV.int FA (I y (6:Y)),MV.st [MV.bool (ab.neg s),MV.ws (ab.ai s)],MV.bs (2:Z) (0:Z) (B (ab.parts s)),MV.bs (3:Z) (0:Z) (B (ab.base s)),MV.st [MV.aa (ab.ca s) (200:Z),MV.aa (ab.cb s) (200:Z),MV.aa (ab.cm s) (200:Z)],MV.st [MV.aa (ab.x s) (200:Z),MV.aa (ab.y s) (200:Z),MV.bool (ab.inf s)],MV.aa (ab.ord s) (200:Z)]) }])=aZ jh (λ_=>D) g5 (fm s L pv d i a b y 1) (kT L.length i K):=by kernel_rfl
def aj6(s:ab)(L:V ab)(pv e:Z->U)(i:Z)(a b y:Y)(K:Ex->V aq->Prop)(d:_)(f:d=(B (ab.parts s)+AO (bh.ints FA (FC (1:Z) (Do (0:Z) [y]))))):(((0:Z)+1<=1/\B (ab.parts s)<=B (ab.parts s)/\d *8<=140737488355328)/\(B L=B L/\(↑i:Y)=(↑i:Y))/\K Ex.normal [bif AW (0:Z) (2:Z)then {fz:=false,c:=BC.one (zM a b y)} else bif A6 (2:Z) (zM a b y)then {fz:=false,c:=BC.one (MV.st [MV.int u8 a,MV.int u8 b,MV.int FA y])} else {fz:=false,c:=BC.one (zM a b y)},bif AW ((0:Z)+1) (2:Z)then nM L pv e else nM L pv e,{fz:=false,c:=BC.arr FA (FC (B (ab.parts s)) (ab.parts s)++FC (1:Z) (Do (0:Z) [y]))},bif AW ((0:Z)+1+1+1) (2:Z)then {fz:=false,c:=BC.rows (2:Z) (B (ab.base s)) (iL (ab.base s) (200:Z))} else {fz:=false,c:=BC.rows (2:Z) (B (ab.base s)) (iL (ab.base s) (200:Z))},{fz:=false,c:=BC.one (MV.st [MV.int FA (ab.kind s),MV.st [MV.bool (ab.neg s),MV.ws (ab.ai s)],MV.bs (2:Z) (0:Z) d,MV.bs (3:Z) (0:Z) (B (ab.base s)),MV.st [MV.aa (ab.ca s) (200:Z),MV.aa (ab.cb s) (200:Z),MV.aa (ab.cm s) (200:Z)],MV.st [MV.aa (ab.x s) (200:Z),MV.aa (ab.y s) (200:Z),MV.bool (ab.inf s)],MV.aa (ab.ord s) (200:Z)])},bif AW ((0:Z)+1+1+1+1+1) (2:Z)then {fz:=false,c:=BC.arr FA [y]} else {fz:=false,c:=BC.arr FA [y]}])=aZ jh (λ_=>D) g5 (fm s L pv e i a b y 2) (kT L.length i K):=by subst f;kernel_rfl
def aj7(s:ab)(L:V ab)(pv d:Z->U)(i:Z)(a b y:Y)(K:Ex->V aq->Prop):(bif J ((↑(B (ab.parts s)):Y)>0)then ((8:Y)=0->D)/\((0:Y)<=0/\(0:Y)<(↑(B (ab.parts s)):Y))/\(0:Z)+C (0:Y)<B (ab.parts s)/\(B L=B L/\(↑i:Y)=(↑i:Y))/\K Ex.normal [{ fz:=false,c:=BC.one (zM a b y) },nM L pv d,{ fz:=false,c:=BC.arr FA (set (ab.parts s) ((0:Z)+C (0:Y)) (I y (8:Y))) },{ fz:=false,c:=BC.rows (2:Z) (B (ab.base s)) (iL (ab.base s) (200:Z)) },{ fz:=false,c:=BC.one (sM s) }]else (B L=B L/\(↑i:Y)=(↑i:Y))/\K Ex.normal [{ fz:=false,c:=BC.one (zM a b y) },nM L pv d,{ fz:=false,c:=BC.arr FA (ab.parts s) },{ fz:=false,c:=BC.rows (2:Z) (B (ab.base s)) (iL (ab.base s) (200:Z)) },{ fz:=false,c:=BC.one (sM s) }])=aZ jh (λ_=>D) g5 (fm s L pv d i a b y 3) (kT L.length i K):=by kernel_rfl
def aj8(s:ab)(L:V ab)(pv f:Z->U)(i:Z)(d e y:Y)(K:Ex->V aq->Prop)(a:_)(b:a=(tdiv (↑(B (ab.parts s)):Y) (2:Y))):(((2:Y)=0->D)/\((0:Y)<=F FA a/\F FA a <=(↑(B (ab.parts s)):Y))/\(B L=B L/\(↑i:Y)=(↑i:Y))/\K Ex.normal [{fz:=false,c:=BC.one (zM d e y)},nM L pv f,{fz:=false,c:=BC.arr FA (ab.parts s)},{fz:=false,c:=BC.rows (2:Z) (B (ab.base s)) (iL (ab.base s) (200:Z))},{fz:=false,c:=BC.one (MV.st [MV.int FA (ab.kind s),MV.st [MV.bool (ab.neg s),MV.ws (ab.ai s)],MV.bs (2:Z) (0:Z) (C (F FA a)),MV.bs (3:Z) (0:Z) (B (ab.base s)),MV.st [MV.aa (ab.ca s) (200:Z),MV.aa (ab.cb s) (200:Z),MV.aa (ab.cm s) (200:Z)],MV.st [MV.aa (ab.x s) (200:Z),MV.aa (ab.y s) (200:Z),MV.bool (ab.inf s)],MV.aa (ab.ord s) (200:Z)])}])=aZ jh (λ_=>D) g5 (fm s L pv f i d e y 4) (kT L.length i K):=by subst b;kernel_rfl
def aj9(s:ab)(L:V ab)(pv f:Z->U)(i:Z)(b d y:Y)(K:Ex->V aq->Prop)(a:_)(g:a=(ab.base s))(e:_)(h:e=(B a +AO (bh.rows (2:Z) (1:Z) (aU [MV.aa y (64:Z)])))):(fX y/\(B a <=B a/\e *32<=140737488355328)/\(B L=B L/\(↑i:Y)=(↑i:Y))/\K Ex.normal [bif AW (0:Z) (3:Z)then {fz:=false,c:=BC.one (zM b d y)} else bif A6 (3:Z) (zM b d y)then {fz:=false,c:=BC.one (MV.st [MV.int u8 b,MV.int u8 d,MV.int FA y])} else {fz:=false,c:=BC.one (zM b d y)},bif AW ((0:Z)+1) (3:Z)then nM L pv f else nM L pv f,bif AW ((0:Z)+1+1) (3:Z)then {fz:=false,c:=BC.arr FA (ab.parts s)} else {fz:=false,c:=BC.arr FA (ab.parts s)},{fz:=false,c:=BC.rows (2:Z) (B a +1) λq=>bif A4 q (B a)then iL a (200:Z) q else aU [MV.aa y (64:Z)] (q-B a)},{fz:=false,c:=BC.one (MV.st [MV.int FA (ab.kind s),MV.st [MV.bool (ab.neg s),MV.ws (ab.ai s)],MV.bs (2:Z) (0:Z) (B (ab.parts s)),MV.bs (3:Z) (0:Z) e,MV.st [MV.aa (ab.ca s) (200:Z),MV.aa (ab.cb s) (200:Z),MV.aa (ab.cm s) (200:Z)],MV.st [MV.aa (ab.x s) (200:Z),MV.aa (ab.y s) (200:Z),MV.bool (ab.inf s)],MV.aa (ab.ord s) (200:Z)])}])=aZ jh (λ_=>D) g5 (fm s L pv f i b d y 5) (kT L.length i K):=by subst g h;kernel_rfl
def aka(s:ab)(L:V ab)(pv e:Z->U)(i:Z)(b d y:Y)(K:Ex->V aq->Prop)(a:_)(f:a=(ab.base s)):(bif J ((↑(B a):Y)>0)then ((0:Y)<=0/\(0:Y)<(↑(B a):Y))/\C (0:Y)<B a/\((200:Z)<=1000/\(-9223372036854775808:Y)<=y/\y<=9223372036854775807)/\((0:Y)<=0/\(0:Y)<(↑(B a):Y))/\C (0:Y)<B a/\(B L=B L/\(↑i:Y)=(↑i:Y))/\K Ex.normal [{fz:=false,c:=BC.one (zM b d y)},nM L pv e,{fz:=false,c:=BC.arr FA (ab.parts s)},{fz:=false,c:=BC.rows (2:Z) (B a) λj=>bif AW j (C (0:Y))then MV.aa (E a (C (0:Y)) (0:Y)+y) (max (200:Z) (64:Z)+1)else iL a (200:Z) j},{fz:=false,c:=BC.one (sM s)}]else (B L=B L/\(↑i:Y)=(↑i:Y))/\K Ex.normal [{fz:=false,c:=BC.one (zM b d y)},nM L pv e,{fz:=false,c:=BC.arr FA (ab.parts s)},{fz:=false,c:=BC.rows (2:Z) (B a) (iL a (200:Z))},{fz:=false,c:=BC.one (sM s)}])=aZ jh (λ_=>D) g5 (fm s L pv e i b d y 6) (kT L.length i K):=by subst f;kernel_rfl
def akb(s:ab)(L:V ab)(pv d:Z->U)(i:Z)(a b y:Y)(K:Ex->V aq->Prop):(((200:Z)<=1000/\(-9223372036854775808:Y)<=y/\y<=9223372036854775807)/\(B L=B L/\(↑i:Y)=(↑i:Y))/\K Ex.normal [{ fz:=false,c:=BC.one (zM a b y) },nM L pv d,{ fz:=false,c:=BC.arr FA (ab.parts s) },{ fz:=false,c:=BC.rows (2:Z) (B (ab.base s)) (iL (ab.base s) (200:Z)) },{ fz:=false,c:=BC.one (MV.st [MV.int FA (ab.kind s),MV.st [MV.bool (ab.neg s),MV.ws (ab.ai s)],MV.bs (2:Z) (0:Z) (B (ab.parts s)),MV.bs (3:Z) (0:Z) (B (ab.base s)),MV.st [MV.aa (ab.ca s+y) (max (200:Z) (64:Z)+1),MV.aa (ab.cb s) (200:Z),MV.aa (ab.cm s) (200:Z)],MV.st [MV.aa (ab.x s) (200:Z),MV.aa (ab.y s) (200:Z),MV.bool (ab.inf s)],MV.aa (ab.ord s) (200:Z)]) }])=aZ jh (λ_=>D) g5 (fm s L pv d i a b y 7) (kT L.length i K):=by kernel_rfl
def akc(s:ab)(L:V ab)(pv d:Z->U)(i:Z)(a b y:Y)(K:Ex->V aq->Prop):(((200:Z)<=1000/\(-9223372036854775808:Y)<=y/\y<=9223372036854775807)/\(B L=B L/\(↑i:Y)=(↑i:Y))/\K Ex.normal [{ fz:=false,c:=BC.one (zM a b y) },nM L pv d,{ fz:=false,c:=BC.arr FA (ab.parts s) },{ fz:=false,c:=BC.rows (2:Z) (B (ab.base s)) (iL (ab.base s) (200:Z)) },{ fz:=false,c:=BC.one (MV.st [MV.int FA (ab.kind s),MV.st [MV.bool (ab.neg s),MV.ws (ab.ai s)],MV.bs (2:Z) (0:Z) (B (ab.parts s)),MV.bs (3:Z) (0:Z) (B (ab.base s)),MV.st [MV.aa (ab.ca s) (200:Z),MV.aa (ab.cb s+y) (max (200:Z) (64:Z)+1),MV.aa (ab.cm s) (200:Z)],MV.st [MV.aa (ab.x s) (200:Z),MV.aa (ab.y s) (200:Z),MV.bool (ab.inf s)],MV.aa (ab.ord s) (200:Z)]) }])=aZ jh (λ_=>D) g5 (fm s L pv d i a b y 8) (kT L.length i K):=by kernel_rfl
def akd(s:ab)(L:V ab)(pv d:Z->U)(i:Z)(a b y:Y)(K:Ex->V aq->Prop):(((200:Z)<=1000/\(-9223372036854775808:Y)<=y/\y<=9223372036854775807)/\(B L=B L/\(↑i:Y)=(↑i:Y))/\K Ex.normal [{ fz:=false,c:=BC.one (zM a b y) },nM L pv d,{ fz:=false,c:=BC.arr FA (ab.parts s) },{ fz:=false,c:=BC.rows (2:Z) (B (ab.base s)) (iL (ab.base s) (200:Z)) },{ fz:=false,c:=BC.one (MV.st [MV.int FA (ab.kind s),MV.st [MV.bool (ab.neg s),MV.ws (ab.ai s)],MV.bs (2:Z) (0:Z) (B (ab.parts s)),MV.bs (3:Z) (0:Z) (B (ab.base s)),MV.st [MV.aa (ab.ca s) (200:Z),MV.aa (ab.cb s) (200:Z),MV.aa (ab.cm s) (200:Z)],MV.st [MV.aa (ab.x s+y) (max (200:Z) (64:Z)+1),MV.aa (ab.y s) (200:Z),MV.bool (ab.inf s)],MV.aa (ab.ord s) (200:Z)]) }])=aZ jh (λ_=>D) g5 (fm s L pv d i a b y 9) (kT L.length i K):=by kernel_rfl
def agi(s:ab)(L:V ab)(pv d:Z->U)(i:Z)(a b y:Y)(K:Ex->V aq->Prop):((200:Z)<=1000000/\(B L=B L/\(↑i:Y)=(↑i:Y))/\K Ex.normal [{ fz:=false,c:=BC.one (zM a b y) },nM L pv d,{ fz:=false,c:=BC.arr FA (ab.parts s) },{ fz:=false,c:=BC.rows (2:Z) (B (ab.base s)) (iL (ab.base s) (200:Z)) },{ fz:=false,c:=BC.one (MV.st [MV.int FA (ab.kind s),MV.st [MV.bool (ab.neg s),MV.ws (ab.ai s)],MV.bs (2:Z) (0:Z) (B (ab.parts s)),MV.bs (3:Z) (0:Z) (B (ab.base s)),MV.st [MV.aa (ab.ca s) (200:Z),MV.aa (ab.cb s) (200:Z),MV.aa (ab.cm s) (200:Z)],MV.st [MV.aa (ab.x s) (200:Z),MV.aa (-ab.y s) (200:Z),MV.bool (ab.inf s)],MV.aa (ab.ord s) (200:Z)]) }])=aZ jh (λ_=>D) g5 (fm s L pv d i a b y 10) (kT L.length i K):=by kernel_rfl
def afM(s:ab)(L:V ab)(pv d:Z->U)(i:Z)(a b y:Y)(K:Ex->V aq->Prop):((B L=B L/\(↑i:Y)=(↑i:Y))/\K Ex.normal [{ fz:=false,c:=BC.one (zM a b y) },nM L pv d,{ fz:=false,c:=BC.arr FA (ab.parts s) },{ fz:=false,c:=BC.rows (2:Z) (B (ab.base s)) (iL (ab.base s) (200:Z)) },{ fz:=false,c:=BC.one (MV.st [MV.int FA (ab.kind s),MV.st [MV.bool (ab.neg s),MV.ws (ab.ai s)],MV.bs (2:Z) (0:Z) (B (ab.parts s)),MV.bs (3:Z) (0:Z) (B (ab.base s)),MV.st [MV.aa (ab.ca s) (200:Z),MV.aa (ab.cb s) (200:Z),MV.aa (ab.cm s) (200:Z)],MV.st [MV.aa (ab.x s) (200:Z),MV.aa (ab.y s) (200:Z),MV.bool !ab.inf s],MV.aa (ab.ord s) (200:Z)]) }])=aZ jh (λ_=>D) g5 (fm s L pv d i a b y 11) (kT L.length i K):=by kernel_rfl
def afN(s:ab)(L:V ab)(pv d:Z->U)(i:Z)(a b y:Y)(K:Ex->V aq->Prop):(((5:Y)=0->D)/\fX (I y (5:Y))/\((200:Z)<=1000000/\(64:Z)<=1000000)/\(B L=B L/\(↑i:Y)=(↑i:Y))/\K Ex.normal [{ fz:=false,c:=BC.one (zM a b y) },nM L pv d,{ fz:=false,c:=BC.arr FA (ab.parts s) },{ fz:=false,c:=BC.rows (2:Z) (B (ab.base s)) (iL (ab.base s) (200:Z)) },{ fz:=false,c:=BC.one (MV.st [MV.int FA (ab.kind s),MV.st [MV.bool (ab.neg s),MV.ws (ab.ai s)],MV.bs (2:Z) (0:Z) (B (ab.parts s)),MV.bs (3:Z) (0:Z) (B (ab.base s)),MV.st [MV.aa (ab.ca s) (200:Z),MV.aa (ab.cb s) (200:Z),MV.aa (ab.cm s) (200:Z)],MV.st [MV.aa (ab.x s) (200:Z),MV.aa (ab.y s) (200:Z),MV.bool (ab.inf s)],MV.aa (ab.ord s*I y (5:Y)) ((200:Z)+64)]) }])=aZ jh (λ_=>D) g5 (fm s L pv d i a b y 12) (kT L.length i K):=by kernel_rfl
def afO(s:ab)(L:V ab)(pv d:Z->U)(i:Z)(a b y:Y)(K:Ex->V aq->Prop):(((200:Z)<=1000/\(-9223372036854775808:Y)<=y/\y<=9223372036854775807)/\(B L=B L/\(↑i:Y)=(↑i:Y))/\K Ex.normal [{ fz:=false,c:=BC.one (zM a b y) },nM L pv d,{ fz:=false,c:=BC.arr FA (ab.parts s) },{ fz:=false,c:=BC.rows (2:Z) (B (ab.base s)) (iL (ab.base s) (200:Z)) },{ fz:=false,c:=BC.one (MV.st [MV.int FA (ab.kind s),MV.st [MV.bool (ab.neg s),MV.ws (ab.ai s)],MV.bs (2:Z) (0:Z) (B (ab.parts s)),MV.bs (3:Z) (0:Z) (B (ab.base s)),MV.st [MV.aa (ab.ca s) (200:Z),MV.aa (ab.cb s) (200:Z),MV.aa (ab.cm s) (200:Z)],MV.st [MV.aa (ab.x s) (200:Z),MV.aa (ab.y s) (200:Z),MV.bool (ab.inf s)],MV.aa (ab.ord s+y) (max (200:Z) (64:Z)+1)]) }])=aZ jh (λ_=>D) g5 (fm s L pv d i a b y 13) (kT L.length i K):=by kernel_rfl
def St.fresh{w:R}{bx:V aq}{β:Z->Z}{sz:Z->Sz}{live:Z->Prop}{n np:Z}{tm:V (Z×MV)}(f:∀i,live i->i<bx.length/\β i<w.heap.size/\¬S1 (β i))(inj:∀i j,live i->live j->β i=β j->i=j)(u:∀q,S1 q->q<w.heap.size)(s:GW (λq=>S1 q\/∃i,live i/\β i=q) w)(d:∀i b,live i->aR bx i=E8 b->dn (cF S1 bx live β sz) w i b)(o:∀p∈tm,af (cF S1 bx live β sz) w p.2 (a.tmps.getD p.1 undef))(r:a.tmps.size=n)(b4:Z->Z->Sz->Prop)(c:∀i b z,b4 i b z->live i/\β i=b/\sz i=z/\nH np i=FD) :
  St S1 ⟨w,λq=>∃i,live i/\β i=q,b4,a.defers⟩ ⟨n,tm,bx,np⟩ (cF S1 bx live β sz) a w :=
 ⟨⟨⟨rfl,rfl,Z0 _,λ_ _ _=>rfl,λ_ _=>rfl,rfl,Z0 _⟩,λq e=>⟨u q e,λ⟨i,m,l⟩=>(f i m).2.2 (l ▸ e)⟩,⟨s.sub λq e=>.inl e,λg t ⟨i,m,l⟩=>(s g t).1 (.inr ⟨i,m,l⟩)⟩,λ_=>Iff.rfl,λ_=>Iff.rfl,inj,λi k=>⟨.inr ⟨i,k,rfl⟩,(f i k).2.1,(f i k).1⟩,d,λi b z h=>⟨(c i b z h).1,(c i b z h).2.1,(c i b z h).2.2.1⟩⟩,
  sw tm o,r,rfl,λi b z h=>(c i b z h).2.2.2⟩
def qL{B:bw}{n:Z}{i:Y}{Q:Exit->Act->R->Prop}{E:Env AA}{x:Code}{s:MS}{w:R}(h:aZ E (λ_=>D) x s (kT n i λe bx=>∀c a w,St S B ⟨190, [(5,.bs 1 0 n),(6,.int .i64 i),(7,.bp 4 0)],bx,2⟩ c a w->Q e.out a w))(p:St S B s c a w):x.wp AA Q a w:=by
 refine bJ bQ x s _ c a w Q h p (λe s' c' a' w' q b=>?_) (λ_ _ _ _ h=>h.elim);unfold kT at q;cases g:(s'.n.beq 190&&s'.np.beq 2)with
 |false=>rw[g]at q;exact q.elim
 |true =>
  rw[g,Z6]at q;simp only[Z3,DA]at g;split at q
  .rename_i j o r;split at q
   .rename_i k f m u;split at q
    .rename_i l z t;cases d:(j.beq 4&&o.beq 0&&k.beq 1&&f.beq 0&&J (l= .i64))with
     |false=>rw[d]at q;exact q.elim
     |true =>
      rw[d,Z6]at q;simp only[Z3,DA,decide_eq_true_eq]at d;obtain⟨⟨⟨⟨rfl,rfl⟩,rfl⟩,rfl⟩,rfl⟩:=d;obtain⟨⟨rfl,rfl⟩,q⟩:=q;have:=b.re [(5,.bs 1 0 m),(6,.int .i64 z),(7,.bp 4 0)] s'.bx b.mem (fa (u ▸ b.tm 5) (fa (t ▸ b.tm 6) (fa (r ▸ b.tm 7) f0)))
      grind
    .exact q.elim
   .exact q.elim
  .exact q.elim
def gB:aq:=⟨E7,.one .any⟩
def aml(s:ab)(L:V ab)(pv a:Z->U)(i:Z)(K:Ex->MS->Prop):(((0:Y)<=(↑i:Y)/\(↑i:Y)<(↑(B L):Y))/\C (↑i:Y)<B L/\K Ex.ret { n:=nat_lit 190,tm:=[((4:Z),MV.bs (1:Z) (0:Z) (B L)),((189:Z),MV.bs (1:Z) (0:Z) (B L)),((188:Z),MV.br (1:Z) (C (↑i:Y)) (0:Z)),((187:Z),MV.st [MV.int FA (ab.kind s),MV.st [MV.bool (ab.neg s),MV.ws (ab.ai s)],MV.sl (1:Z) (B (ab.parts s)) (bI (ab.parts s)),MV.sl (2:Z) (B (ab.base s)) (iL (ab.base s) (200:Z)),MV.st [MV.aa (ab.ca s) (200:Z),MV.aa (ab.cb s) (200:Z),MV.aa (ab.cm s) (200:Z)],MV.st [MV.aa (ab.x s) (200:Z),MV.aa (ab.y s) (200:Z),MV.bool (ab.inf s)],MV.aa (ab.ord s) (200:Z)]),((186:Z),MV.int FA (↑i:Y)),((185:Z),MV.bs (1:Z) (0:Z) (B L)),((5:Z),MV.bs (1:Z) (0:Z) (B L)),((6:Z),MV.int FA (↑i:Y)),((7:Z),MV.bp (4:Z) (0:Z))],bx:=[gB,{ fz:=false,c:=BC.rows (18:Z) (B L) λj=>bif AW j (C (↑i:Y))then MV.st [MV.int FA (ab.kind s),MV.st [MV.bool (ab.neg s),MV.ws (ab.ai s)],MV.sl (1:Z) (B (ab.parts s)) (bI (ab.parts s)),MV.sl (2:Z) (B (ab.base s)) (iL (ab.base s) (200:Z)),MV.st [MV.aa (ab.ca s) (200:Z),MV.aa (ab.cb s) (200:Z),MV.aa (ab.cm s) (200:Z)],MV.st [MV.aa (ab.x s) (200:Z),MV.aa (ab.y s) (200:Z),MV.bool (ab.inf s)],MV.aa (ab.ord s) (200:Z)]else jU L pv a j },gB,gB,{ fz:=false,c:=BC.one (jV s (200:Z)) }],np:=nat_lit 2 })=aZ (aK [] aC) (λ_=>D) tf ⟨190, [(5,.bs 1 0 L.length),(6,.int .i64 i),(7,.bp 4 0)], [gB,nM L pv a,gB,gB,⟨E7,.one (jV s 200)⟩],2⟩ K:=by kernel_rfl
structure LZ (s:ab) (C A O:MV) (P:List Int) (lp lb hJ:Nat) (G:Nat->MV):Prop where
 hC:eI 0 C (.st [.aa s.ca 200,.aa s.cb 200,.aa s.cm 200])
 hA:eI 0 A (.st [.aa s.x 200,.aa s.y 200,.bool s.inf])
 hO:eI 0 O (.aa s.ord 200)
 hP:P.take lp=s.parts
 hp:lp=s.parts.length
 hb:lb=s.base.length
 hle:lb<=hJ
 hB:ak lb G (iL s.base 200)
def ajS{c':Ctx}{w:R}{f:Z}{P l:V Y}(h:aj c w (.bs k 0 f) [v])(p:c.live k->dn c w k ⟨E7,.arr .i64 P⟩)(o:c.live k->¬c'.S (c.β k))(hP:P.take f=l)(i:f=l.length):aj c' w (.sl 1 l.length (bI l)) [v]:=by
 obtain⟨a,cap,e,m,h⟩:=h;subst i;refine⟨a,cap,e,m,λh0=>?_⟩;rcases h with ⟨n,d,_⟩|⟨_,h1,_⟩
 .obtain⟨arr,ty,q1,_,_,g⟩:=p d;refine⟨_,0,n,o d,λj hj=>⟨[.int .i64 (l.getD j 0)],rfl,rfl,arr,ty,_,q1,λr u b=>?_⟩⟩
  match r,b with
  |0,b =>
   simp only[List.getElem?_cons_zero,Z1]at b;rw[<-b,show 0+j*1+0=j by omega];refine g j _ ?_
   grind
  |r+1,b=>simp at b
 .omega
def akB{c':Ctx}{w:R}{lb hJ:Z}{G:Z->MV}{l:V Y}(h:aj c w (.bs k 0 lb) [v])(B:c.live k->dn c w k ⟨E7,.rows 2 hJ G⟩)(z:c.live k->¬c'.S (c.β k))(d:∀q,c'.S q->c.S q)(hle:lb<=hJ)(A:ak lb G (iL l 200))(s:lb=l.length):aj c' w (.sl 2 l.length (iL l 200)) [v]:=by
 obtain⟨a,cap,e,x,h⟩:=h;subst s;refine⟨a,cap,e,x,λh0=>?_⟩;rcases h with ⟨y,b,_⟩|⟨_,h1,_⟩
 .obtain⟨arr,ty,q1,_,_,n⟩:=B b;refine⟨_,0,y,z b,λj t=>?_⟩;obtain⟨f,m,i,g⟩:=n j (by omega);exact⟨f,m,BT (c:=c.elem) (c':=c'.elem) (r:=false) (λq p=>d q p) (λe=>by simp at e) (iL l 200 j) _ rfl (A.h j t c.elem w f i),arr,ty,_,q1,λr u o=>by rw[AZ];exact g r u o⟩
 .omega
def afX{c':Ctx}{w:R}(a:∀q,c'.S q->c.S q){N:MV}{b:V U}(f:N= .st [.bool s.neg,.ws s.ai]\/∃z n,N= .aa z n/\s.neg=J (z<0)/\s.ai=aA z.natAbs)(h:aj c w N b):aj c' w (.st [.bool s.neg,.ws s.ai]) b:=by
 rcases f with rfl|⟨z,n,rfl,i,g⟩
 .exact BT (r:=false) a (λe=>by simp at e) _ _ rfl h
 .obtain⟨x,rfl,_,d⟩:=h;rw[i,g];exact⟨[_], [x],rfl,rfl, [x], [],rfl,⟨x,rfl,d.mono a⟩,rfl⟩
set_option maxRecDepth 100000 in
def dH{S2:FF->Prop}{B:bw}{pv E:FF->FN}{i:FF}{b0:aq}{rest:FE aq}{N C A O:MV}{P:FE FG}{Z lb hJ:FF}{G:FF->MV}(h:St S2 B ⟨190, [(5,.bs 1 0 L.length),(6,.int .i64 i),(7,.bp 4 0)],b0::nM L pv E::⟨E7,.arr .i64 P⟩::⟨E7,.rows 2 hJ G⟩::⟨E7,.one (.st [.int .i64 s.kind,N,.bs 2 0 Z,.bs 3 0 lb,C,A,O])⟩::rest,2⟩ c a w)(hN:∀c':Ctx,(∀q,c'.S q->c.S q)->(∀k,c.live k->k≠1->k≠4->¬c'.S (c.β k))->∀D,aj c w N D->aj c' w (.st [.bool s.neg,.ws s.ai]) D)(F:LZ s C A O P Z lb hJ G)(hi:i<L.length)(hQ:∀c' a' w',St S2 ⟨w,λq=>∃k,(k=1\/k=4)/\c.β k=q,λk q z=>k=1/\q=c.β 1/\z=c.sz 1,a.defers⟩ ⟨190, [(4,.bs 1 0 L.length)], [gB,⟨E7,.rows 18 L.length (λj=>cond (j.beq i) (jV s 200) (jU L pv E j))⟩,gB,gB,gB],2⟩ c' a' w'->c.live 1->c.live 4->Q .ret a' w'):tf.wp AA Q a w:=by
 have d:=h.mem;have J:=(eN (h.tm 7)).1;have K:c.live 1:=by
  obtain⟨a0,cap,_,_,h5⟩:=iA (h.tm 5)
  grind
 have t:∀k b,c.live k->aR (b0::nM L pv E::⟨E7,.arr .i64 P⟩::⟨E7,.rows 2 hJ G⟩::⟨E7,.one (.st [.int .i64 s.kind,N,.bs 2 0 Z,.bs 3 0 lb,C,A,O])⟩::rest) k=E8 b->b.fz=E7->c.W (c.β k):=λk b m p hf=>(d.hW _).2 ⟨k,b,m,p,hf,rfl⟩;have w1:=t 1 _ K rfl rfl;have w4:=t 4 _ J rfl rfl
 let lv:FF->Prop:=λk=>k=1\/k=4
 let bx:FE aq:=[gB,nM L pv E,gB,gB,⟨E7,.one (jV s 200)⟩]
 have g:∀q,(cF S2 bx lv c.β c.sz).S q->c.S q:=λq f=>by
  rcases f with f|⟨k,_,l,_,_,e⟩
  .exact(d.hS q).2 (.inl f)
  .rcases l with rfl|rfl
   .rw[<-e];exact d.WS _ w1
   .rw[<-e];exact d.WS _ w4
 have I:∀q,(cF S2 bx lv c.β c.sz).W q->c.W q:=λq ⟨k,_,l,_,_,e⟩=>by
  grind
 have H:∀k,c.live k->k≠1->k≠4->¬(cF S2 bx lv c.β c.sz).S (c.β k):=λk l h1 h4 f=>by
  rcases f with f|⟨j,_,hj,_,_,e⟩
  .exact d.ma l f
  .rcases hj with rfl|rfl
   .exact h1 (d.inj _ _ K l e).symm
   .exact h4 (d.inj _ _ J l e).symm
 have nn:=St.fresh (S1:=S2) (w:=w) (bx:=bx) (β:=c.β) (sz:=c.sz) (live:=lv) (n:=190) (np:=2) (tm:=[(5,.bs 1 0 L.length),(6,.int .i64 i),(7,.bp 4 0)]) (a:=a)
  (λk l=>by
   rcases l with rfl|rfl
   .exact⟨by show 1<5;omega,(d.fresh 1 K).2.1,d.ma K⟩
   .exact⟨by show 4<5;omega,(d.fresh 4 J).2.1,d.ma J⟩)
  (λx y hx hy e=>d.inj x y (by rcases hx with rfl|rfl<;>assumption) (by rcases hy with rfl|rfl<;>assumption) e)
  (λq f=>d.fh q ((d.hS q).2 (.inl f))) (d.gw.sub λq f=>by
   rcases f with f|⟨k,l,e⟩
   .exact(d.hS q).2 (.inl f)
   .rcases l with rfl|rfl
    .rw[<-e];exact d.WS _ w1
    .rw[<-e];exact d.WS _ w4)
  (λk bb l p=>by
   rcases l with rfl|rfl
   .have p:E8 (nM L pv E)=E8 bb:=p;simp only[Z1]at p;subst p;obtain⟨arr,ty,q1,Y,X,V⟩:=d.box 1 _ K rfl;refine⟨arr,ty,q1,Y,X,λj hj=>?_⟩;obtain⟨D,u,U,M⟩:=V j hj;exact⟨D,u,BT (c:=c.elem) (c':=(cF S2 bx lv c.β c.sz).elem) (r:=false) (λq f=>g q f) (λe=>by simp at e) (jU L pv E j) _ rfl U,M⟩
   .have p:E8 (⟨E7,.one (jV s 200)⟩:aq)=E8 bb:=p;simp only[Z1]at p;subst p;obtain⟨arr,ty,q1,Y,X,D,V,q5⟩:=d.box 4 _ J rfl;refine⟨arr,ty,q1,Y,X,D,?_,q5⟩;obtain⟨T,y1,rfl,u,x2,y2,rfl,U,x3,y3,rfl,M,x4,y4,rfl,r4,x5,y5,rfl,r5,aqc,as1,rfl,r6,aqd,as2,rfl,r7,apJ⟩:=V;have e3:∃v,x3=[v]:=by obtain⟨_,_,e,_⟩:=M;exact⟨_,e⟩
    have e4:∃v,x4=[v]:=by obtain⟨_,_,e,_⟩:=r4;exact⟨_,e⟩
    obtain⟨v3,rfl⟩:=e3;obtain⟨v4,rfl⟩:=e4;have o:ft 0 c (cF S2 bx lv c.β c.sz):=⟨g,I,λi hi=>FK hi (AL i)⟩;exact⟨T,_,rfl,u,x2,_,rfl,hN _ g H _ U, [v3],_,rfl,ajS M (λm=>d.box 2 _ m rfl) (λm=>H 2 m (by omega) (by omega)) F.hP F.hp, [v4],_,rfl,akB r4 (λm=>d.box 3 _ m rfl) (λm=>H 3 m (by omega) (by omega)) g F.hle F.hB F.hb,
     x5,_,rfl,j0 _ _ 0 _ _ _ o F.hC r5,aqc,_,rfl,j0 _ _ 0 _ _ _ o F.hA r6,aqd,_,rfl,j0 _ _ 0 _ _ _ o F.hO r7,apJ⟩)
  (fa (by
   obtain⟨a0,cap,e,m,h5⟩:=iA (show af c w (.bs 1 0 L.length) (a.tmps.getD 5 undef) from h.tm 5);rw[e];exact aT rfl (by simp) rfl ⟨a0,cap,rfl,m,h5.imp (λh=>⟨h.1,.inl rfl,h.2.2⟩) _root_.id⟩) (fa (by rw[cK (show af c w (.int .i64 i) (a.tmps.getD 6 undef) from h.tm 6)];exact cG _ _) (fa (by
   obtain⟨_,e⟩:=eN (show af c w (.bp 4 0) (a.tmps.getD 7 undef) from h.tm 7);rw[e];exact aT rfl (by simp) rfl ⟨.inr rfl,rfl⟩) f0)))
  h.size (λk q z=>k=1/\q=c.β 1/\z=c.sz 1) (λk q z hp=>by
   grind [nH,jI])
 refine rT (x:=tf) (cast (aml s L pv E i _) ⟨by omega,by rw[Z8];exact hi,λc3 a3 w3 R=>?_⟩) nn;rw[Z8]at R;refine hQ c3 a3 w3 (R.re [(4,.bs 1 0 L.length)] _ ?_ (fa (R.tm 4) f0)) K J;exact R.mem.nr (i:=4) (bc:= .one (jV s 200)) (bc':= .one .any) rfl rfl λarr _ ⟨D,h1,h2⟩=>by
  obtain⟨T,y1,rfl,u,_⟩:=h1;have u:T=[.int .i64 s.kind]:=u;subst u;exact⟨[.int .i64 s.kind],⟨_,rfl,rfl⟩,λj v hv=>by
   grind⟩
structure HO (W:Nat) (s:ab):Prop where
 ca:s.ca.natAbs<2^W
 cb:s.cb.natAbs<2^W
 cm:s.cm.natAbs<2^W
 x:s.x.natAbs<2^W
 y:s.y.natAbs<2^W
 ord:s.ord.natAbs<2^W
 base:∀b∈s.base,b.natAbs<2^W
structure te (s:ab):Prop where
 wd:Wd s.ai
 len:s.ai.length<=5
 parts:s.parts.length<=89
 base:s.base.length<=999
 sm:HO 190 s
def nY(s:ab)(p y:Y):ab :=
 if p=0 then { s with neg:=decide (iZ s.neg s.ai y<0),ai:=aA (iZ s.neg s.ai y).natAbs }
 else if p=1 then { s with kind:=tmod y 6 }
 else if p=2 then { s with parts:=s.parts++[y] }
 else if p=3 then { s with parts:=s.parts.set 0 (I y 8) }
 else if p=4 then { s with parts:=s.parts.take (s.parts.length/2) }
 else if p=5 then { s with base:=s.base++[y] }
 else if p=6 then { s with base:=s.base.set 0 (s.base.getD 0 0+y) }
 else if p=7 then { s with ca:=s.ca+y }
 else if p=8 then { s with cb:=s.cb+y }
 else if p=9 then { s with x:=s.x+y }
 else if p=10 then { s with y:= -s.y }
 else if p=11 then { s with inf:=!s.inf }
 else if p=12 then { s with ord:=s.ord*I y 5 }
 else if p=13 then { s with ord:=s.ord+y }
 else { s with ai:=s.ai++[0] }
def aeu{y:FO}{X:Z->Prop}{R:V Deferred}{z:Sz}{L:V ab}{l:Z->U}(h:St S2 ⟨y,X,λk q z'=>k=1/\q=b/\z'=z,R⟩ ⟨190, [(4,.bs 1 0 L.length)], [gB,⟨E7,.rows 18 L.length (λj=>W (j.beq i) (jV s 200) (jU L pv l j))⟩,gB,gB,gB],2⟩ c a w)(O:∀q,S q->S2 q)(N:¬S b)(hi:i<L.length)(J:∀j,j<L.length->j≠i->aj (BI S) w (.sl 1 (L.getD j aB).parts.length (bI (L.getD j aB).parts)) [pv j]/\aj (BI S) w (.sl 2 (L.getD j aB).base.length (iL (L.getD j aB).base 200)) [l j]) :
  af (BI S) w (.sl 18 (L.set i s).length (aF (L.set i s) 200)) (a.tmps.getD 4 undef):=by
 obtain⟨I,H,p3⟩:=h.mem.b4 1 b z ⟨rfl,rfl,rfl⟩;obtain⟨T,cap,e,M,hd⟩:=iA (show af c w (.bs 1 0 L.length) (a.tmps.getD 4 undef) from h.tm 4);rw[e];refine aT rfl (by simp) rfl ⟨T,cap,by rw[AV],by rw[AV];exact M,λ_=>?_⟩;rw[AV];rcases hd with ⟨hd,_⟩|hd
 .obtain⟨arr,ty,q1,q2,q3,G⟩:=h.mem.box 1 _ I rfl;rw[H]at hd q1;refine⟨b,0,hd,N,λj m=>?_⟩;obtain⟨o,F,d,E⟩:=G j m;refine⟨o,F,?_,arr,ty,_,q1,λk v hv=>by rw[AZ];exact E k v hv⟩;have g:∀q,S q->c.S q:=λq K=>(h.mem.hS q).2 (.inl (O q K));by_cases f:j=i
  .subst f;have n:(L.set j s).getD j aB=s:=by simp[AB,m]
   have d:aj c.elem w (W (j.beq j) (jV s 200) (jU L pv l j)) o:=d;rw[show j.beq j=FD by simp,Z6]at d;unfold aF;rw[n];exact BT (c:=c.elem) (c':=(BI S).elem) (r:=false) g (λe=>by simp at e) (jV s 200) _ rfl d
  .have n:(L.set i s).getD j aB=L.getD j aB:=by simp[AB,show ¬i=j from λh=>f h.symm]
   have d:aj c.elem w (W (j.beq i) (jV s 200) (jU L pv l j)) o:=d;rw[show j.beq i=E7 from CU.2 λh=>f (by simpa using h),Z5]at d;have d:=BT (c:=c.elem) (c':=(BI S).elem) (r:=false) g (λe=>by simp at e) (jU L pv l j) _ rfl d;obtain⟨Q,P⟩:=J j m f;unfold aF;rw[n];obtain⟨x,y1,rfl,D,u,y2,rfl,s2,t,y3,rfl,C,p,y4,rfl,B,A⟩:=d;obtain⟨rfl,_⟩:t=[pv j]/\_:=C;obtain⟨rfl,_⟩:p=[l j]/\_:=B;exact⟨x,_,rfl,D,u,_,rfl,s2,_,_,rfl,Q,_,_,rfl,P,A⟩
 .omega
def iy(a b m:Y):eI 0 (.st [.aa a 200,.aa b 200,.aa m 200]) (.st [.aa a 200,.aa b 200,.aa m 200]):=⟨⟨rfl,.inl (Z0 _)⟩,⟨rfl,.inl (Z0 _)⟩,⟨rfl,.inl (Z0 _)⟩,⟨⟩⟩
def ik(a b:Y)(o:O):eI 0 (.st [.aa a 200,.aa b 200,.bool o]) (.st [.aa a 200,.aa b 200,.bool o]):=⟨⟨rfl,.inl (Z0 _)⟩,⟨rfl,.inl (Z0 _)⟩,rfl,⟨⟩⟩
def iz(a:Y):eI 0 (.aa a 200) (.aa a 200):=⟨rfl,.inl (Z0 _)⟩
def fieldsOf{C A O:MV}{P:V Y}{a lb hJ:Z}{G:Z->MV}(g:eI 0 C (.st [.aa s.ca 200,.aa s.cb 200,.aa s.cm 200]))(i:eI 0 A (.st [.aa s.x 200,.aa s.y 200,.bool s.inf]))(f:eI 0 O (.aa s.ord 200))(e:P.take a=s.parts)(c:a=s.parts.length)(d:lb=s.base.length)(b:lb<=hJ)(h:ak lb G (iL s.base 200)):LZ s C A O P a lb hJ G:=⟨g,i,f,e,c,d,b,h⟩
def ie{w:R}{N:MV}(h:N= .st [.bool s.neg,.ws s.ai]\/∃z n,N= .aa z n/\s.neg=J (z<0)/\s.ai=aA z.natAbs):∀c':Ctx,(∀q,c'.S q->c.S q)->(∀k,c.live k->k≠1->k≠4->¬c'.S (c.β k))->∀a,aj c w N a->aj c' w (.st [.bool s.neg,.ws s.ai]) a:=λ_ b _ _ d=>afX b h d
def wg{a y:Y}{n:Z}(h:a.natAbs<2^190)(hy: -9223372036854775808<=y/\y<=9223372036854775807):a+y=a+y/\(n<=200\/(a+y).natAbs<2^200):=by
 omega
def akm:(2:Z)^190=1569275433846670190958947355801916604025588861116008628224:=by decide
def akn:(2:Z)^200=1606938044258990275541962092341162602522202993782792835301376:=by decide
def adX(l:V Y)(y:Y)(n:Z)(c:n<=200:=by omega):ak (l.length+1) (λq=>W (q.blt l.length) (iL l 200 q) (aU [MV.aa y n] (q-l.length))) (iL (l++[y]) 200):=DG λj hj=>by
 cases a:j.blt l.length with
 |true =>
  have b:j<l.length:=by simpa using a
  rw[Z6];unfold iL;rw[show(l++[y]).getD j 0=l.getD j 0 by simp[AB,BY b]];exact⟨rfl,.inl (Z0 _)⟩
 |false =>
  have dy:¬j<l.length:=by intro h;rw[show j.blt l.length=FD by simpa using h]at a;simp at a
  have:j=l.length:=by omega
  subst this;rw[Z5,EN];unfold iL;rw[show(l++[y]).getD l.length 0=y by simp[AB]];exact⟨rfl,.inl c⟩
def adY{l:V Y}{y:Y}{n:Z}(hl:0<l.length)(h:n<=200\/y.natAbs<2^200):ak l.length (λj=>W (j.beq (C 0)) (MV.aa y n) (iL l 200 j)) (iL (l.set 0 y) 200):=DG λj a=>by
 match j,a with
 |0,_ =>
  simp_all [eI,iL,AB]
 |j+1,_ =>
  show eI 0 (iL l 200 (j+1)) (iL (l.set 0 y) 200 (j+1));unfold iL;rw[show(l.set 0 y).getD (j+1) 0=l.getD (j+1) 0 by simp[AB]];exact⟨rfl,.inl (Z0 _)⟩
def af9{y m:Y}(hm:0<m): -m<I y m/\I y m<m:=by
 have h1:=Int.natAbs_tmod y m;have h2:y.natAbs%m.natAbs<m.natAbs:=AG _ (by omega);omega
set_option maxRecDepth 100000 in
set_option maxHeartbeats 1600000 in
def aev{B:bw}{L:V ab}{n:Z->U}{o r y p:Y}{w:R}{Q:Exit->Act->R->Prop}(h:St S2 B (fm s L pv n i o r y p) c a w)(Vs:0<=p)(pf:p<=13)(u:te s)(l: -9223372036854775808<=y/\y<=9223372036854775807)(m:i<L.length)(g:∀tm bx c a w,St S2 B ⟨190,tm,bx,2⟩ c a w->c.live 1->c.live 4->∀c' a' w',St S2 ⟨w,λq=>∃k,(k=1\/k=4)/\c.β k=q,λk q z=>k=1/\q=c.β 1/\z=c.sz 1,a.defers⟩ ⟨190, [(4,.bs 1 0 L.length)], [gB,⟨E7,.rows 18 L.length (λj=>W (j.beq i) (jV (nY s p y) 200) (jU L pv n j))⟩,gB,gB,gB],2⟩ c' a' w'->Q .ret a' w') :
  g5.wp AA (Exit.then (tf.wp AA Q) Q) a w:=by
 have t:=u.sm;have hl:=u.len;have xw:=u.parts;have pc:=u.base;have C:p=0\/p=1\/p=2\/p=3\/p=4\/p=5\/p=6\/p=7\/p=8\/p=9\/p=10\/p=11\/p=12\/p=13:=by omega
 rcases C with rfl|rfl|rfl|rfl|rfl|rfl|rfl|rfl|rfl|rfl|rfl|rfl|rfl|rfl
 .rw[show nY s 0 y={ s with neg:=decide (iZ s.neg s.ai y<0),ai:=aA (iZ s.neg s.ai y).natAbs } from rfl]at g;refine qL (cast (aj4 s L pv n i o r y _) ⟨⟨u.wd,by omega,l.1,l.2⟩,⟨rfl,rfl⟩,λc a w h=>?_⟩) h;exact dH (s:={ s with neg:=decide (iZ s.neg s.ai y<0),ai:=aA (iZ s.neg s.ai y).natAbs }) h (ie (.inr ⟨_,_,rfl,rfl,rfl⟩)) (fieldsOf (iy _ _ _) (ik _ _ _) (iz _) (AC (Z0 _)) rfl rfl (Z0 _) AE) m λc' a' w' f d b=>g _ _ c a w h d b c' a' w' f
 .rw[show nY s 1 y={ s with kind:=tmod y 6 } from rfl]at g;refine qL (cast (aj5 s L pv n i o r y _) ⟨by omega,⟨rfl,rfl⟩,λc a w h=>?_⟩) h;exact dH (s:={ s with kind:=tmod y 6 }) h (ie (.inl rfl)) (fieldsOf (iy _ _ _) (ik _ _ _) (iz _) (AC (Z0 _)) rfl rfl (Z0 _) AE) m λc' a' w' f d b=>g _ _ c a w h d b c' a' w' f
 .rw[show nY s 2 y={ s with parts:=s.parts++[y] } from rfl]at g;refine qL (cast (aj6 s L pv n i o r y _ _ rfl) ⟨⟨Z0 _,Z0 _,by show(s.parts.length+1)*8<=_;omega⟩,⟨rfl,rfl⟩,λc a w h=>?_⟩) h;exact dH (s:={ s with parts:=s.parts++[y] }) h (ie (.inl rfl)) (fieldsOf (iy _ _ _) (ik _ _ _) (iz _) (by rw[AC (Z0 s.parts.length)];exact AC (by simp[AO])) (by simp[AO]) rfl (Z0 _) AE) m λc' a' w' f d b=>g _ _ c a w h d b c' a' w' f
 .rw[show nY s 3 y={ s with parts:=s.parts.set 0 (I y 8) } from rfl]at g;refine qL (cast (aj7 s L pv n i o r y _) (aJ Z4 (λA=>⟨by omega,by omega,by show 0<s.parts.length;omega,⟨rfl,rfl⟩,λc a w h=>?_⟩) (λA=>⟨⟨rfl,rfl⟩,λc a w h=>?_⟩))) h
  .exact dH (s:={ s with parts:=s.parts.set 0 (I y 8) }) h (ie (.inl rfl)) (fieldsOf (iy _ _ _) (ik _ _ _) (iz _) (AC (by rw[AV];exact Z0 _)) (by rw[AV]) rfl (Z0 _) AE) m λc' a' w' f d b=>g _ _ c a w h d b c' a' w' f
  .have e:s.parts=[]:=DD.1 (by omega);exact dH (s:={ s with parts:=s.parts.set 0 (I y 8) }) h (ie (.inl rfl)) (fieldsOf (iy _ _ _) (ik _ _ _) (iz _) (by show s.parts.take s.parts.length=s.parts.set 0 _;rw[e];rfl) (by show s.parts.length=(s.parts.set 0 _).length;rw[AV]) rfl (Z0 _) AE) m λc' a' w' f d b=>g _ _ c a w h d b c' a' w' f
 .rw[show nY s 4 y={ s with parts:=s.parts.take (s.parts.length/2) } from rfl]at g;have e:F FA (tdiv (s.parts.length:Y) 2)=((s.parts.length/2:Z):Y):=by
   grind [tdiv,DB,aV]
  refine qL (cast (aj8 s L pv n i o r y _ _ rfl) ⟨by omega,⟨by rw[e];omega,by rw[e];omega⟩,⟨rfl,rfl⟩,λc a w h=>?_⟩) h;rw[e,Z8]at h;exact dH (s:={ s with parts:=s.parts.take (s.parts.length/2) }) h (ie (.inl rfl)) (fieldsOf (iy _ _ _) (ik _ _ _) (iz _) rfl (by rw[BF];omega) rfl (Z0 _) AE) m λc' a' w' f d b=>g _ _ c a w h d b c' a' w' f
 .rw[show nY s 5 y={ s with base:=s.base++[y] } from rfl]at g;refine qL (cast (aj9 s L pv n i o r y _ _ rfl _ rfl) ⟨l,⟨Z0 _,by show(s.base.length+1)*32<=_;omega⟩,⟨rfl,rfl⟩,λc a w h=>?_⟩) h;exact dH (s:={ s with base:=s.base++[y] }) h (ie (.inl rfl)) (fieldsOf (iy _ _ _) (ik _ _ _) (iz _) (AC (Z0 _)) rfl (by simp[AO]) (Z0 _) (adX s.base y 64)) m λc' a' w' f d b=>g _ _ c a w h d b c' a' w' f
 .rw[show nY s 6 y={ s with base:=s.base.set 0 (s.base.getD 0 0+y) } from rfl]at g;refine qL (cast (aka s L pv n i o r y _ _ rfl) (aJ Z4 (λA=>⟨by omega,by show 0<s.base.length;omega,⟨by omega,l.1,l.2⟩,by omega,by show 0<s.base.length;omega,⟨rfl,rfl⟩,λc a w h=>?_⟩) (λA=>⟨⟨rfl,rfl⟩,λc a w h=>?_⟩))) h
  .have v:0<s.base.length:=by omega
   have D:(s.base.getD 0 0).natAbs<2^190:=t.base _ (by rw[AB,AI v];exact BQ v);exact dH (s:={ s with base:=s.base.set 0 (s.base.getD 0 0+y) }) h (ie (.inl rfl)) (fieldsOf (iy _ _ _) (ik _ _ _) (iz _) (AC (Z0 _)) rfl (by rw[AV]) (Z0 _) (adY v (wg D l).2)) m λc' a' w' f d b=>g _ _ c a w h d b c' a' w' f
  .have e:s.base=[]:=DD.1 (by omega);exact dH (s:={ s with base:=s.base.set 0 (s.base.getD 0 0+y) }) h (ie (.inl rfl)) (fieldsOf (iy _ _ _) (ik _ _ _) (iz _) (AC (Z0 _)) rfl (by show s.base.length=(s.base.set 0 _).length;rw[AV]) (Z0 _) (by show ak _ (iL s.base 200) (iL (s.base.set 0 _) 200);rw[e];exact AE)) m λc' a' w' f d b=>g _ _ c a w h d b c' a' w' f
 .rw[show nY s 7 y={ s with ca:=s.ca+y } from rfl]at g;refine qL (cast (akb s L pv n i o r y _) ⟨⟨by omega,l.1,l.2⟩,⟨rfl,rfl⟩,λc a w h=>?_⟩) h;exact dH (s:={ s with ca:=s.ca+y }) h (ie (.inl rfl)) (fieldsOf ⟨wg t.ca l,⟨rfl,.inl (Z0 _)⟩,⟨rfl,.inl (Z0 _)⟩,⟨⟩⟩ (ik _ _ _) (iz _) (AC (Z0 _)) rfl rfl (Z0 _) AE) m λc' a' w' f d b=>g _ _ c a w h d b c' a' w' f
 .rw[show nY s 8 y={ s with cb:=s.cb+y } from rfl]at g;refine qL (cast (akc s L pv n i o r y _) ⟨⟨by omega,l.1,l.2⟩,⟨rfl,rfl⟩,λc a w h=>?_⟩) h;exact dH (s:={ s with cb:=s.cb+y }) h (ie (.inl rfl)) (fieldsOf ⟨⟨rfl,.inl (Z0 _)⟩,wg t.cb l,⟨rfl,.inl (Z0 _)⟩,⟨⟩⟩ (ik _ _ _) (iz _) (AC (Z0 _)) rfl rfl (Z0 _) AE) m λc' a' w' f d b=>g _ _ c a w h d b c' a' w' f
 .rw[show nY s 9 y={ s with x:=s.x+y } from rfl]at g;refine qL (cast (akd s L pv n i o r y _) ⟨⟨by omega,l.1,l.2⟩,⟨rfl,rfl⟩,λc a w h=>?_⟩) h;exact dH (s:={ s with x:=s.x+y }) h (ie (.inl rfl)) (fieldsOf (iy _ _ _) ⟨wg t.x l,⟨rfl,.inl (Z0 _)⟩,rfl,⟨⟩⟩ (iz _) (AC (Z0 _)) rfl rfl (Z0 _) AE) m λc' a' w' f d b=>g _ _ c a w h d b c' a' w' f
 .rw[show nY s 10 y={ s with y:= -s.y } from rfl]at g;refine qL (cast (agi s L pv n i o r y _) ⟨by omega,⟨rfl,rfl⟩,λc a w h=>?_⟩) h;exact dH (s:={ s with y:= -s.y }) h (ie (.inl rfl)) (fieldsOf (iy _ _ _) (ik _ _ _) (iz _) (AC (Z0 _)) rfl rfl (Z0 _) AE) m λc' a' w' f d b=>g _ _ c a w h d b c' a' w' f
 .rw[show nY s 11 y={ s with inf:=!s.inf } from rfl]at g;refine qL (cast (afM s L pv n i o r y _) ⟨⟨rfl,rfl⟩,λc a w h=>?_⟩) h;exact dH (s:={ s with inf:=!s.inf }) h (ie (.inl rfl)) (fieldsOf (iy _ _ _) (ik _ _ _) (iz _) (AC (Z0 _)) rfl rfl (Z0 _) AE) m λc' a' w' f d b=>g _ _ c a w h d b c' a' w' f
 .rw[show nY s 12 y={ s with ord:=s.ord*I y 5 } from rfl]at g;have t5:=af9 (y:=y) (show(0:Y)<5 by omega);have E:(s.ord*I y 5).natAbs<2^200:=by
   have v:=t.ord;have h2:=akm;have h3:=akn;rw[DC];have h4:s.ord.natAbs*(I y 5).natAbs<=s.ord.natAbs*4:=CH _ (by omega);omega
  refine qL (cast (afN s L pv n i o r y _) ⟨by omega,by omega,by omega,⟨rfl,rfl⟩,λc a w h=>?_⟩) h;exact dH (s:={ s with ord:=s.ord*I y 5 }) h (ie (.inl rfl)) (fieldsOf (iy _ _ _) (ik _ _ _) ⟨rfl,.inr E⟩ (AC (Z0 _)) rfl rfl (Z0 _) AE) m λc' a' w' f d b=>g _ _ c a w h d b c' a' w' f
 .rw[show nY s 13 y={ s with ord:=s.ord+y } from rfl]at g;refine qL (cast (afO s L pv n i o r y _) ⟨⟨by omega,l.1,l.2⟩,⟨rfl,rfl⟩,λc a w h=>?_⟩) h;exact dH (s:={ s with ord:=s.ord+y }) h (ie (.inl rfl)) (fieldsOf (iy _ _ _) (ik _ _ _) (wg t.ord l) (AC (Z0 _)) rfl rfl (Z0 _) AE) m λc' a' w' f d b=>g _ _ c a w h d b c' a' w' f
section
section
variable {P:Program} {ops:Array Oper} {Q:Exit->Act->World->Prop} {S:World->Prop} {t:Nat}
def l9(P:FL)(ops:N r)(Q:Exit->Act->R->Prop)(S:R->Prop)(t:Z):Z->N O->Act->R->Prop
 |0,listed,a,w=>A3 .any ops listed=[]/\Q .normal a w
 |fuel+1,listed,a,w=>(A3 .any ops listed=[]->Q .normal a w)/\
  ∀i∈A3 .any ops listed,wpOp P ops Q i (λa' w'=>(i≠t->S w')/\l9 P ops Q S t fuel (listed.setIfInBounds i FD) a' w') a w
def zF:∀(fuel:Z) (listed:N O) (a:Act) (w:R),l9 P ops Q S t fuel listed a w->wpAny P .any ops Q fuel listed a w
 |0,_,_,_,h=>h
 |fuel+1,_,_,_,h=>⟨h.1,λi b=>wpOp_mono (λa' w' h'=>zF fuel _ a' w' h'.2) (h.2 i b)⟩
def WX{u:FQ}{v:FN}(G:ops[i]? =E8 u)(p:∀(j:Z) (o:FQ) B b,ops[j]? =E8 o->o.op≠ .select B b)(X:∀c a w,Q (.panic c) (a.put u.dst v) w->Q (.panic c) a w)(T:∀listed:FP Bool,listed.getD i FD=E7->t ∉ A3 .any ops listed)(ars:i≠t) :
  ∀(fuel:Z) (listed:FP Bool) (a:Act) (w:FO),
   (∀j r,ops[j]? =E8 r->j≠i->listed.getD j FD=E7->(∀e∈r.after,CJ .any e=FD->e.on≠i)->u.apart ops r=FD)->
   i∈A3 .any ops listed->YieldsIf P ops S u v a->S w->
   l9 P ops Q S t fuel (listed.setIfInBounds i FD) (a.put u.dst v) w->l9 P ops Q S t (fuel+1) listed a w:=by
 intro fuel
 induction fuel with
 |zero =>
  intro listed a w _ l F A H;refine⟨λh=>(by rw[h]at l;cases l),λj z=>?_⟩;by_cases d:j=i
  .subst d;exact F.wpOp G A ⟨λ_=>A,H⟩
  .have:=ready_mono z d;rw[H.1]at this;cases this
 |succ fuel R =>
  intro listed a w f l F A H;refine⟨λh=>(by rw[h]at l;cases l),λj z=>?_⟩;by_cases d:j=i
  .subst d;exact F.wpOp G A ⟨λ_=>A,H⟩
  .have O:=H.2 j (ready_mono z d);obtain⟨q,r,x,E⟩:=C2.1 z;have C:j≠t:=λe=>T listed (C2.1 l).1 (e ▸ z);have D:∀e∈r.after,CJ .any e=FD->e.on≠i:=λe V W heq=>by
    have O:=E e V W;have h0:=(C2.1 l).1
    grind
   have Y:=wpOp_putIf x (f j r x d q D) (λB b=>p i u B b G) (λB b=>p j r B b x) X F O;have g:∀k ok,ops[k]? =E8 ok->k≠i->(listed.setIfInBounds j FD).getD k FD=E7->
     (∀e∈ok.after,CJ .any e=FD->e.on≠i)->u.apart ops ok=FD:=λk ok U M ase J=>by
    refine f k ok U M ?_ J;by_cases N:j=k
    .subst N;exact q
    .simp_all
   refine wpOp_mono (λa' w' I=>⟨λ_=>I.2.1 C,R (listed.setIfInBounds j FD) a' w' g (ready_mono l (Ne.symm d)) I.1 (I.2.1 C) ?_⟩) Y
   grind [Array.setIfInBounds_comm]
def cY{b:r}{listed:N O}{w:R}(e:ops[i]? =E8 b)(j:CX ops=FD)(l:Region.free .any ops listed i=FD)(k:(A3 .any ops listed).contains i=FD)(p:∀c a w,Q (.panic c) (a.put b.dst v) w->Q (.panic c) a w)(g:∀listed:N O,listed.getD i FD=E7->t ∉ A3 .any ops listed)(d:i≠t)(f:YieldsIf P ops S b v a)(o:S w)(h:l9 P ops Q S t fuel (listed.setIfInBounds i FD) (a.put b.dst v) w):l9 P ops Q S t (fuel+1) listed a w :=
 WX e (Region.noSelect_spec j) p g d fuel listed a w (Region.free_spec e l) (by simpa using k) f o h
def eF{rs:V Z}{listed:N O}{w:R}(c:A3 .any ops listed=rs)(b:rs≠ [])(h:∀i∈rs,wpOp P ops Q i (λa' w'=>(i≠t->S w')/\l9 P ops Q S t fuel (listed.setIfInBounds i FD) a' w') a w):l9 P ops Q S t (fuel+1) listed a w :=
 ⟨λd=>M (c ▸ d) b,c ▸ h⟩
def Mz{listed:N O}{w:R}(b:A3 .any ops listed=[])(h:Q .normal a w):∀fuel,l9 P ops Q S t fuel listed a w
 |0=>⟨b,h⟩
 |_+1=>⟨λ_=>h,by rw[b];simp⟩
def gG(he:(match ops[t]? with|some o=>o.after.toList.any λe=>CJ .any e&&e.on.beq i|none=>FD)=FD)(listed:N O)(hl:listed.getD i FD=E7):t ∉ A3 .any ops listed:=λa=>by
 obtain⟨_,o2,h2,th⟩:=C2.1 a
 grind [D0,DA]
theorem agN{E:Env P}{o:r}{s:MS}{w:R}{K:Act->R->Prop}(g:ops[i]? =E8 o)(h:cV E ops.toList (λ_=>D) [o] s (λs'=>∀c a w,St S0 w0 s' c a w->K a w))(f:St S0 w0 s c a w):wpOp P ops Q i K a w:=by
 have:=cH (ops:=ops) (Q:=λe a w=>match e with|.normal=>K a w|e=>Q e a w) (λ_ _ _ _ h=>h.elim) [o] s _ c a w h f (λs' c' a' w' q d _=>q c' a' w' d);unfold wpList at this;unfold wpOp;rw[g];dsimp only;split
 .rename_i b;rw[T b]at this;exact this.imp (λh=>vT (λa1 w1 h=>h) (λh=>h) (λ_ _ _ h=>h) _ h) λh=>⟨h.1,h.2⟩
 .rename_i b;rw[G b]at this;exact this
end
def Tt(f:Func)(id:Z):N r:=match f.body with
 |some c=>(match m3 id c with
  |some x=>x
  |none=>#[])
 |none=>#[]
noncomputable def wO:N r:=Tt B3 39
noncomputable def wL(k:Z):V r:=match aR wO.toList k with
 |some o=> [o]
 |none=> []
def sW(s:ab)(m:U):MV:= .st [.int .i64 s.kind,.st [.bool s.neg,.val m],.bs 2 0 s.parts.length,.bs 3 0 s.base.length,.st [.aa s.ca 200,.aa s.cb 200,.aa s.cm 200],.st [.aa s.x 200,.aa s.y 200,.bool s.inf],.aa s.ord 200]
def wT(s:ab)(n i:Z):V (Z×MV):=[(7,.bp 4 0),(5,.bs 1 0 n),(6,.int .i64 i),(175,.bool s.neg),(179,.ws s.ai)]
def wX(s:ab)(L:V ab)(pv bv:Z->U)(st pt y:Y)(m:U):V aq:=g! L pv bv s st pt y++[⟨E7,.one (sW s m)⟩]
def wS(T:V (Z×MV))(s:ab)(L:V ab)(pv bv:Z->U)(st pt y:Y)(m:U)(X:V aq):MS:=⟨190,T,wX s L pv bv st pt y m++X,5⟩
def wA(l:V Y):aq:=⟨E7,.arr .u32 l⟩
section
variable (s:ab) (L:List ab) (pv bv:Nat->Value) (n i:Nat) (st pt y:Int) (m:Value) (K:MS->Prop)
def amo(T:V (Z×MV)):K (wS ((176,.bs 5 0 0)::T) s L pv bv st pt y m [wA []])=cV (aK [] aC) wO.toList (λ_=>D) (wL 3) (wS T s L pv bv st pt y m []) K:=by kernel_rfl
def akR(T:V (Z×MV))(b:aq):K (wS ((176,.bs 6 0 0)::T) s L pv bv st pt y m [b,wA []])=cV (aK [] aC) wO.toList (λ_=>D) (wL 3) (wS T s L pv bv st pt y m [b]) K:=by kernel_rfl
def amq(T:V (Z×MV)):K (wS ((181,.bs 5 0 1)::T) s L pv bv st pt y m [wA [0]])=cV (aK [] aC) wO.toList (λ_=>D) (wL 8) (wS T s L pv bv st pt y m []) K:=by kernel_rfl
def TK(T:V (Z×MV))(b:aq):K (wS ((181,.bs 6 0 1)::T) s L pv bv st pt y m [b,wA [0]])=cV (aK [] aC) wO.toList (λ_=>D) (wL 8) (wS T s L pv bv st pt y m [b]) K:=by kernel_rfl
def wP(k:Z):Prop:=k*4<=140737488355328
def amp:((0<=0/\wP (0+s.ai.length))/\K (wS ((180,.bs 5 0 (0+s.ai.length))::(176,.any)::wT s n i) s L pv bv st pt y m [wA s.ai]))=cV (aK [] aC) wO.toList (λ_=>D) (wL 7) (wS ((176,.bs 5 0 0)::wT s n i) s L pv bv st pt y m [wA []]) K:=by kernel_rfl
def akS:((0<=0/\wP (0+s.ai.length))/\K (wS ((180,.bs 5 0 (0+s.ai.length))::(181,.bs 6 0 1)::(176,.any)::wT s n i) s L pv bv st pt y m [wA s.ai,wA [0]]))=cV (aK [] aC) wO.toList (λ_=>D) (wL 7) (wS ((181,.bs 6 0 1)::(176,.bs 5 0 0)::wT s n i) s L pv bv st pt y m [wA [],wA [0]]) K:=by kernel_rfl
def akT:((0<=0/\wP (0+s.ai.length))/\K (wS ((180,.bs 6 0 (0+s.ai.length))::(176,.any)::(181,.bs 5 0 1)::wT s n i) s L pv bv st pt y m [wA [0],wA s.ai]))=cV (aK [] aC) wO.toList (λ_=>D) (wL 7) (wS ((176,.bs 6 0 0)::(181,.bs 5 0 1)::wT s n i) s L pv bv st pt y m [wA [0],wA []]) K:=by kernel_rfl
def amr:((0+1<=1/\s.ai.length<=s.ai.length/\wP (s.ai.length+1))/\K (wS ((182,.bs 5 0 (s.ai.length+1))::(180,.any)::(181,.bs 6 0 1)::wT s n i) s L pv bv st pt y m [wA (s.ai.take s.ai.length++[0]),wA [0]]))=cV (aK [] aC) wO.toList (λ_=>D) (wL 9) (wS ((180,.bs 5 0 s.ai.length)::(181,.bs 6 0 1)::wT s n i) s L pv bv st pt y m [wA s.ai,wA [0]]) K:=by kernel_rfl
def akU:((0+1<=1/\s.ai.length<=s.ai.length/\wP (s.ai.length+1))/\K (wS ((182,.bs 6 0 (s.ai.length+1))::(180,.any)::(181,.bs 5 0 1)::wT s n i) s L pv bv st pt y m [wA [0],wA (s.ai.take s.ai.length++[0])]))=cV (aK [] aC) wO.toList (λ_=>D) (wL 9) (wS ((180,.bs 6 0 s.ai.length)::(181,.bs 5 0 1)::wT s n i) s L pv bv st pt y m [wA [0],wA s.ai]) K:=by kernel_rfl
def wN(s:ab)(e:Z):MV:= .st [.bool s.neg,.bs e 0 (s.ai.length+1)]
def akO(e:Z)(b b':aq):K (wS ((183,wN s e)::(182,.bs e 0 (s.ai.length+1))::wT s n i) s L pv bv st pt y m [b,b'])=cV (aK [] aC) wO.toList (λ_=>D) (wL 10) (wS ((182,.bs e 0 (s.ai.length+1))::wT s n i) s L pv bv st pt y m [b,b']) K:=by kernel_rfl
def akP(e:Z)(b b':aq):K (wS ((184,.bp 4 (0+1))::(183,wN s e)::wT s n i) s L pv bv st pt y m [b,b'])=cV (aK [] aC) wO.toList (λ_=>D) (wL 11) (wS ((183,wN s e)::wT s n i) s L pv bv st pt y m [b,b']) K:=by kernel_rfl
def sE(s:ab)(e:Z):MV:= .st [.int .i64 s.kind,wN s e,.bs 2 0 s.parts.length,.bs 3 0 s.base.length,.st [.aa s.ca 200,.aa s.cb 200,.aa s.cm 200],.st [.aa s.x 200,.aa s.y 200,.bool s.inf],.aa s.ord 200]
def akQ(e:Z)(b b':aq):K ⟨190,(184,.bp 4 (0+1))::(183,wN s e)::wT s n i,g! L pv bv s st pt y++⟨E7,.one (sE s e)⟩::[b,b'],5⟩=cV (aK [] aC) wO.toList (λ_=>D) (wL 12) (wS ((184,.bp 4 (0+1))::(183,wN s e)::wT s n i) s L pv bv st pt y m [b,b']) K:=by kernel_rfl
end
def Mem.apQ{w:R}{bx:V aq}(h:Mem S0 w0 bx c w){bc bc':BC}(k:aR bx i=E8 ⟨E7,bc⟩)(d:bc'.wd=bc.wd)(f:∀arr ty,c.live i->w.heap[c.β i]? =E8 (.cells arr ty (0,0))->gJ c w bc arr->gJ c w bc' arr):Mem S0 w0 (aW bx i ⟨E7,bc'⟩) c w:=by
 by_cases v:c.live i
 .have l:=iX k;have e:aR (aW bx i ⟨E7,bc'⟩) i=E8 ⟨E7,bc'⟩:=by rw[bL,T ⟨rfl,l⟩]
  refine⟨h.ext,h.fl,h.gl,h.hS,λb=>(h.hW b).trans ?_,h.inj,λj a=>by rw[bY];exact h.fresh j a,λj b a g=>?_,h.b4⟩
  .grind [bL]
  .by_cases o:i=j
   .subst o;rw[e]at g;obtain rfl:=AY g;obtain⟨arr,ty,q1,u,r,p⟩:=h.box i _ a k;exact⟨arr,ty,q1,u,by rw[r];exact d.symm,f arr ty a q1 p⟩
   .rw[bL,G (λq=>o q.1)]at g;exact h.box j b a g
 .exact h.nr k d λ_ h=>M h v
def ah2{P:FL}{T f off off' a:Z}{w:R}(b:cU P T f (.bp 0 off)= .val E9 (.bp 0 off')):(Instr.fieldAt T (.pointer (E8 ⟨a,off,E9⟩)) f).run P w= .ok (.pointer (E8 ⟨a,off',E9⟩)) w:=by
 obtain⟨u,e,d⟩:=uH (c:=⟨λ_=>D,λ_=>D,λ_=>X,λ_=>a,λ_=>⟨0,0⟩⟩) (w:=w) b (aT rfl (by simp) rfl ⟨⟨⟩,rfl⟩);rw[e,(eN d).2]
def mA{Q:Exit->Act->R->Prop}{s:MS}{w:R}{K:Act->R->Prop}(b:(wL k).length.beq 1=FD)(h:cV (aK [] aC) wO.toList (λ_=>D) (wL k) s (λs'=>∀c a w,St S0 w0 s' c a w->K a w))(hs:St S0 w0 s c a w):wpOp AA wO Q k K a w:=by
 cases d:aR wO.toList k with
 |none=>unfold wL at b;rw[d]at b;exact M b (by decide)
 |some o =>
  grind [wL,agN,bU]
def l8{B:bw}{L:V ab}{st pt y:Y}{m:U}{T:V (Z×MV)}{X:V aq}{w:R}{z:Sz}(u:B.b4 4 b z)(h:St S2 B (wS T s L pv bv st pt y m X) c a w):c! w b 1 [.bool s.neg,m]:=by
 obtain⟨r,q,_⟩:=h.mem.b4 4 b z u;obtain⟨arr,ty,q1,_,_,cs,p,q5⟩:=h.mem.box 4 ⟨E7,.one (sW s m)⟩ r rfl;rw[q]at q1;obtain⟨k,y1,rfl,e,x2,y2,rfl,o,_⟩:=p;have e:k=[.int .i64 s.kind]:=e;subst e;obtain⟨g,y3,rfl,d,f,y4,rfl,l,r5⟩:=o;have d:g=[.bool s.neg]:=d;subst d;obtain⟨rfl,_⟩:f=[m]/\_:=l;exact⟨arr,ty,_,q1,λj v hv=>by
  grind⟩
def ap6 : Oper := ⟨some 173, .fieldAddr 47 (.tmp 7) 1, 0, "law.go:97", #[], none⟩
def ap7 : Oper := ⟨some 174, .fieldAddr 39 (.tmp 173) 0, 0, "law.go:97", #[⟨0, .data⟩], none⟩
def ap8 : Oper := ⟨some 175, .load 4 (.tmp 174), 4, "law.go:97", #[⟨1, .data⟩], none⟩
def ap9 : Oper := ⟨some 177, .fieldAddr 47 (.tmp 7) 1, 0, "law.go:97", #[], none⟩
def aqa : Oper := ⟨some 178, .fieldAddr 39 (.tmp 177) 1, 0, "law.go:97", #[⟨4, .data⟩], none⟩
def aqb : Oper := ⟨some 179, .load 37 (.tmp 178), 37, "law.go:97", #[⟨5, .data⟩], none⟩
def tb:(wO[0]? =E8 ap6/\wO[1]? =E8 ap7/\wO[2]? =E8 ap8)/\wO[4]? =E8 ap9/\wO[5]? =E8 aqa/\wO[6]? =E8 aqb:=⟨⟨by kernel_rfl,by kernel_rfl,by kernel_rfl⟩,by kernel_rfl,by kernel_rfl,by kernel_rfl⟩
def su:CX wO=FD:=by kernel_rfl
def akW:wO.size=13:=by kernel_rfl
def Hh{S:R->Prop}{t T f off off':Z}{d:o Z}{ty:z}{pos:String}{g:N Edge}(c:cU AA T f (.bp 0 off)= .val E9 (.bp 0 off'))(e:a.tmps.getD t undef= .pointer (E8 ⟨b,off,E9⟩)):YieldsIf AA wO S ⟨d,.fieldAddr T (.tmp t) f,ty,pos,g,E9⟩ (.pointer (E8 ⟨b,off',E9⟩)) a :=
 .inl ⟨by simp[BW],λw _=>by
  have:a.eval (.tmp t)= .pointer (E8 ⟨b,off,E9⟩):=e;simp only[execOp,this];simp[ah2 c]⟩
def UH{S:R->Prop}{t T off:Z}{d:o Z}{ty:z}{pos:String}{h:N Edge}(e:dZ AA T=E8 (E7,1))(f:a.tmps.getD t undef= .pointer (E8 ⟨b,off,E9⟩))(g:∀w,S w->c! w b off [v]):YieldsIf AA wO S ⟨d,.load T (.tmp t),ty,pos,h,E9⟩ v a :=
 .inl ⟨by simp[BW],λw c=>by
  have:a.eval (.tmp t)= .pointer (E8 ⟨b,off,E9⟩):=f;simp only[execOp,this];simp[lI e (g w c) rfl (λ_=>rfl),rS]⟩
def wl(a b c d:O)(n:O):N O:=#[FD,FD,FD,a,FD,FD,FD,b,c,d,n,n,E7]
set_option maxRecDepth 100000 in
def T3{B:bw}{L:V ab}{n:Z}{st pt y:Y}{m:U}{w:R}{Q:Exit->Act->R->Prop}{e g:Z}{z:Sz}{b b':aq}(l:B.b4 4 g z)(q:∀c a w,St S2 B ⟨190,(184,.bp 4 (0+1))::(183,wN s e)::wT s n i,g! L pv bv s st pt y++⟨E7,.one (sE s e)⟩::[b,b'],5⟩ c a w->Q .normal a w)(h:St S2 B (wS ((182,.bs e 0 (s.ai.length+1))::wT s n i) s L pv bv st pt y m [b,b']) c a w):l9 AA wO Q (λw=>c! w g 1 [.bool s.neg,m]) 12 3 (wl FD FD FD FD E7) a w:=by
 refine eF (rs:=[10]) (by kernel_rfl) (by simp) λj f=>?_;obtain rfl:j=10:=by simpa using f
 refine mA (k:=10) (by kernel_rfl) (cast (akO s L pv bv n i st pt y m _ e b b') λc1 a1 w1 d=>⟨λ_=>l8 l d,?_⟩) h;refine eF (rs:=[11]) (by kernel_rfl) (by simp) λj f=>?_;obtain rfl:j=11:=by simpa using f
 refine mA (k:=11) (by kernel_rfl) (cast (akP s L pv bv n i st pt y m _ e b b') λc2 a2 w2 o=>⟨λ_=>l8 l o,?_⟩) (d.re ((183,wN s e)::wT s n i) _ d.mem (fa (d.tm 183) (fa (d.tm 7) (fa (d.tm 5) (fa (d.tm 6) (fa (d.tm 175) (fa (d.tm 179) f0)))))));refine eF (rs:=[12]) (by kernel_rfl) (by simp) λj f=>?_;obtain rfl:j=12:=by simpa using f
 refine mA (k:=12) (by kernel_rfl) (cast (akQ s L pv bv n i st pt y m _ e b b') λu v p r=>⟨λh=>M rfl h,?_⟩) o;exact Mz (by kernel_rfl) (q u v p r) 0
set_option maxRecDepth 100000 in
def V?{B:bw}{L:V ab}{n:Z}{st pt y:Y}{m:U}{w:R}{Q:Exit->Act->R->Prop}{f:Z}{z:Sz}(g:B.b4 4 f z)(l:s.ai.length<=5)(r:∀e b b' c a w,St S2 B ⟨190,(184,.bp 4 (0+1))::(183,wN s e)::wT s n i,g! L pv bv s st pt y++⟨E7,.one (sE s e)⟩::[b,b'],5⟩ c a w->5<=e->(c.live e->dn c w e (wA (s.ai++[0])))->Q .normal a w)(h:St S2 B (wS ((180,.bs 5 0 s.ai.length)::(181,.bs 6 0 1)::wT s n i) s L pv bv st pt y m [wA s.ai,wA [0]]) c a w):l9 AA wO Q (λw=>c! w f 1 [.bool s.neg,m]) 12 4 (wl FD FD FD E7 E7) a w:=by
 refine eF (rs:=[9]) (by kernel_rfl) (by simp) λj q=>?_;obtain rfl:j=9:=by simpa using q
 refine mA (k:=9) (by kernel_rfl) (cast (amr s L pv bv n i st pt y m _) ⟨⟨Z0 _,Z0 _,by unfold wP;omega⟩,λc1 a1 w1 d=>⟨λ_=>l8 g d,?_⟩⟩) h;rw[AC (Z0 _)]at d;exact T3 g (λu v p o=>r 5 _ _ u v p o (by omega) λl=>o.mem.box 5 _ l rfl) (d.re ((182,.bs 5 0 (s.ai.length+1))::wT s n i) _ d.mem (fa (d.tm 182) (fa (d.tm 7) (fa (d.tm 5) (fa (d.tm 6) (fa (d.tm 175) (fa (d.tm 179) f0)))))))
set_option maxRecDepth 100000 in
def am6{B:bw}{L:V ab}{n:Z}{st pt y:Y}{m:U}{w:R}{Q:Exit->Act->R->Prop}{f:Z}{z:Sz}(g:B.b4 4 f z)(l:s.ai.length<=5)(r:∀e b b' c a w,St S2 B ⟨190,(184,.bp 4 (0+1))::(183,wN s e)::wT s n i,g! L pv bv s st pt y++⟨E7,.one (sE s e)⟩::[b,b'],5⟩ c a w->5<=e->(c.live e->dn c w e (wA (s.ai++[0])))->Q .normal a w)(h:St S2 B (wS ((180,.bs 6 0 s.ai.length)::(181,.bs 5 0 1)::wT s n i) s L pv bv st pt y m [wA [0],wA s.ai]) c a w):l9 AA wO Q (λw=>c! w f 1 [.bool s.neg,m]) 12 4 (wl FD FD FD E7 E7) a w:=by
 refine eF (rs:=[9]) (by kernel_rfl) (by simp) λj q=>?_;obtain rfl:j=9:=by simpa using q
 refine mA (k:=9) (by kernel_rfl) (cast (akU s L pv bv n i st pt y m _) ⟨⟨Z0 _,Z0 _,by unfold wP;omega⟩,λc1 a1 w1 d=>⟨λ_=>l8 g d,?_⟩⟩) h;rw[AC (Z0 _)]at d;exact T3 g (λu v p o=>r 6 _ _ u v p o (by omega) λl=>o.mem.box 6 _ l rfl) (d.re ((182,.bs 6 0 (s.ai.length+1))::wT s n i) _ d.mem (fa (d.tm 182) (fa (d.tm 7) (fa (d.tm 5) (fa (d.tm 6) (fa (d.tm 175) (fa (d.tm 179) f0)))))))
set_option maxRecDepth 100000 in
def ams{B:bw}{L:V ab}{n:Z}{st pt y:Y}{m:U}{w:R}{Q:Exit->Act->R->Prop}{x:Z}{z:Sz}(g:B.b4 4 x z)(u:s.ai.length<=5)(v:∀e b b' c a w,St S2 B ⟨190,(184,.bp 4 (0+1))::(183,wN s e)::wT s n i,g! L pv bv s st pt y++⟨E7,.one (sE s e)⟩::[b,b'],5⟩ c a w->5<=e->(c.live e->dn c w e (wA (s.ai++[0])))->Q .normal a w)(h:St S2 B (wS (wT s n i) s L pv bv st pt y m []) c a w):l9 AA wO Q (λw=>c! w x 1 [.bool s.neg,m]) 12 7 (wl E7 E7 E7 E7 E7) a w:=by
 have r:wP (0+s.ai.length):=by unfold wP;omega
 have q:0+s.ai.length=s.ai.length:=AZ _;refine eF (rs:=[3,8]) (by kernel_rfl) (by simp) λj f=>?_;have f:j=3\/j=8:=by simpa using f
 rcases f with rfl|rfl
 .refine mA (k:=3) (by kernel_rfl) (cast (amo s L pv bv st pt y m _ _) λo p l d=>⟨λ_=>l8 g d,?_⟩) h;refine eF (rs:=[7,8]) (by kernel_rfl) (by simp) λj f=>?_;have f:j=7\/j=8:=by simpa using f
  rcases f with rfl|rfl
  .refine mA (k:=7) (by kernel_rfl) (cast (amp s L pv bv n i st pt y m _) ⟨⟨Z0 _,r⟩,λo p l d=>⟨λ_=>l8 g d,?_⟩⟩) d;rw[q]at d;refine eF (rs:=[8]) (by kernel_rfl) (by simp) λj f=>?_;obtain rfl:j=8:=by simpa using f
   refine mA (k:=8) (by kernel_rfl) (cast (TK s L pv bv st pt y m _ _ _) λo p l d=>⟨λ_=>l8 g d,?_⟩) d;exact V? g u v (d.re _ _ d.mem (fa (d.tm 180) (fa (d.tm 181) (fa (d.tm 7) (fa (d.tm 5) (fa (d.tm 6) (fa (d.tm 175) (fa (d.tm 179) f0))))))))
  .refine mA (k:=8) (by kernel_rfl) (cast (TK s L pv bv st pt y m _ _ _) λo p l d=>⟨λ_=>l8 g d,?_⟩) d;refine eF (rs:=[7]) (by kernel_rfl) (by simp) λj f=>?_;obtain rfl:j=7:=by simpa using f
   refine mA (k:=7) (by kernel_rfl) (cast (akS s L pv bv n i st pt y m _) ⟨⟨Z0 _,r⟩,λo p l d=>⟨λ_=>l8 g d,?_⟩⟩) d;rw[q]at d;exact V? g u v (d.re _ _ d.mem (fa (d.tm 180) (fa (d.tm 181) (fa (d.tm 7) (fa (d.tm 5) (fa (d.tm 6) (fa (d.tm 175) (fa (d.tm 179) f0))))))))
 .refine mA (k:=8) (by kernel_rfl) (cast (amq s L pv bv st pt y m _ _) λo p l d=>⟨λ_=>l8 g d,?_⟩) h;refine eF (rs:=[3]) (by kernel_rfl) (by simp) λj f=>?_;obtain rfl:j=3:=by simpa using f
  refine mA (k:=3) (by kernel_rfl) (cast (akR s L pv bv st pt y m _ _ _) λo p l d=>⟨λ_=>l8 g d,?_⟩) d;refine eF (rs:=[7]) (by kernel_rfl) (by simp) λj f=>?_;obtain rfl:j=7:=by simpa using f
  refine mA (k:=7) (by kernel_rfl) (cast (akT s L pv bv n i st pt y m _) ⟨⟨Z0 _,r⟩,λo p l d=>⟨λ_=>l8 g d,?_⟩⟩) d;rw[q]at d;exact am6 g u v (d.re _ _ d.mem (fa (d.tm 180) (fa (d.tm 181) (fa (d.tm 7) (fa (d.tm 5) (fa (d.tm 6) (fa (d.tm 175) (fa (d.tm 179) f0))))))))
set_option maxRecDepth 100000 in
def apI{S2:FF->Prop}{B:bw}{pv bv:FF->FN}{i:FF}{st pt y:FG}(ho:ops.toList=wO.toList)(hl:s.ai.length<=5)(hB:∀i b z,B.b4 i b z->i=1)(j:∀ch a d v w,Q (.panic ch) (BD a d v) w->Q (.panic ch) a w)(h:St S2 B (fm s L pv bv i st pt y 14) c a w)(hQ:∀e b b' c a w,St S2 B ⟨190, [(5,.bs 1 0 L.length),(6,.int .i64 i),(7,.bp 4 0)],g! L pv bv s st pt y++⟨E7,.one (sE s e)⟩::[b,b'],2⟩ c a w->5<=e->(c.live e->dn c w e (wA (s.ai++[0])))->Q .normal a w):(Code.region 39 ops FD).wp AA Q a w:=by
 obtain rfl:ops=wO:=DR ho;have J:=(eN (h.tm 7)).1;have e7:=(eN (h.tm 7)).2;obtain⟨arr,ty,q1,_,_,cs,q4,q5⟩:=h.mem.box 4 ⟨E7,.one (sM s)⟩ J rfl;obtain⟨m,hm,o⟩:∃m,arr[2]? =E8 m/\gv c w s.ai m:=by
  obtain⟨G,y1,rfl,u,x2,y2,rfl,I,_⟩:=q4;have u:G=[.int .i64 s.kind]:=u;subst u;obtain⟨F,y3,rfl,r,x4,y4,rfl,H,Z⟩:=I;have r:F=[.bool s.neg]:=r;subst r;obtain⟨m,rfl,C⟩:=H
  simp_all
 have N:m.oneCell'=FD:=by
  obtain⟨x,y,e,_⟩:=o;rw[e];rfl
 have hM:=h.mem.apQ (i:=4) (bc:= .one (sM s)) (bc':= .one (sW s m)) rfl rfl (λd! kn _ e hc=>by
  rw[q1]at e;simp only[Z1,Obj.cells.injEq]at e;obtain⟨rfl,_⟩:=e;obtain⟨cs,h1,h2⟩:=hc;obtain⟨G,y1,rfl,u,x2,y2,rfl,I,r6⟩:=h1;have u:G=[.int .i64 s.kind]:=u;subst u;obtain⟨F,y3,rfl,r,x4,y4,rfl,H,Z⟩:=I;have r:F=[.bool s.neg]:=r;subst r;obtain⟨m',rfl,C⟩:=H;have M:m'=m:=by
   simp_all
  subst M;exact⟨_,⟨_,_,rfl,rfl,_,_,rfl,⟨_,_,rfl,rfl, [m'],_,rfl,⟨rfl,N⟩,Z⟩,r6⟩,h2⟩)
 let B5:bw:=⟨B.w,B.X,λk q z=>B.b4 k q z\/(k=4/\q=c.β 4/\z=c.sz 4),B.df⟩
 have hp:B5.b4 4 (c.β 4) (c.sz 4):= .inr ⟨rfl,rfl,rfl⟩;have R:Mem S2 B5 (wX s L pv bv st pt y m) c w:=hM.yd _ _ λk q z l=>l.elim (hM.b4 k q z) λ⟨e1,e2,e3⟩=>by rw[e1,e2,e3];exact⟨J,rfl,rfl⟩
 have g:St S2 B5 (wS [(7,.bp 4 0),(5,.bs 1 0 L.length),(6,.int .i64 i)] s L pv bv st pt y m []) c a w:=⟨R,sw _ (fa (h.tm 7) (fa (h.tm 5) (fa (h.tm 6) f0))),h.size,h.defers,λk q z l=>by
  rcases l with l|⟨rfl,_⟩
  .rw[hB k q z l];exact(show nH 5 1=FD from jI (by decide) (by omega))
  .exact(show nH 5 4=FD from jI (by decide) (by omega))⟩
 have e:Ext w { w with drawn:=w.drawn+1 }:=⟨rfl,rfl,Z0 _,λ_ _=>rfl,λ_ _=>rfl,rfl,Z9 _⟩;obtain⟨O,D⟩:=g.mem.grow e;have g:=g.iw D O rfl rfl rfl;have o:=(show aj c w (.ws s.ai) [m] from ⟨m,rfl,o⟩).bu D;refine wp_region_any bQ (zF (S:=λw=>c! w (c.β 4) 1 [.bool s.neg,m]) (t:=12) _ _ _ _ ?_);rw[akW];generalize ({ w with drawn:=w.drawn+1 }:FO)=T at *;have A:c! T (c.β 4) 1 [.bool s.neg,m]:=l8 hp g;have E:∀k,af c T (.bp 4 k) (.pointer (E8 ⟨c.β 4,k,E9⟩)):=λk=>aT rfl (by simp) rfl ⟨J,rfl⟩;have Y:=g.b? (t:=some 173) rfl (E 1);have s2:=Y.b? (t:=some 174) rfl (E 1);have W:=s2.b? (t:=some 175) (m:= .bool s.neg) (v:= .bool s.neg) rfl (eU _);have V:=W.b? (t:=some 177) rfl (E 1);have U:=V.b? (t:=some 178) rfl (E 2);have p:=U.b? (t:=some 179) (m:= .ws s.ai) (v:=m) rfl (aT rfl (by simp) rfl o);refine cY (i:=0) tb.1.1 su (by kernel_rfl) (by kernel_rfl) (λ_ _ _ h=>j _ _ _ _ _ h) (gG (by kernel_rfl)) (by decide) (Hh (off':=1) rfl (eN (g.tm 7)).2) A ?_;refine cY (i:=1) tb.1.2.1 su (by kernel_rfl) (by kernel_rfl) (λ_ _ _ h=>j _ _ _ _ _ h) (gG (by kernel_rfl)) (by decide) (Hh (off':=1) rfl (eN (Y.tm 173)).2) A ?_;refine cY (i:=2) tb.1.2.2 su (by kernel_rfl) (by kernel_rfl) (λ_ _ _ h=>j _ _ _ _ _ h) (gG (by kernel_rfl)) (by decide) (UH (v:= .bool s.neg) rfl (eN (s2.tm 174)).2 λw C=>by have:=Da C 0 (.bool s.neg) rfl;exact this) A ?_;refine cY (i:=4) tb.2.1 su (by kernel_rfl) (by kernel_rfl) (λ_ _ _ h=>j _ _ _ _ _ h) (gG (by kernel_rfl)) (by decide) (Hh (off':=1) rfl (eN (W.tm 7)).2) A ?_;refine cY (i:=5) tb.2.2.1 su (by kernel_rfl) (by kernel_rfl) (λ_ _ _ h=>j _ _ _ _ _ h) (gG (by kernel_rfl)) (by decide) (Hh (off':=2) rfl (eN (V.tm 177)).2) A ?_;refine cY (i:=6) tb.2.2.2 su (by kernel_rfl) (by kernel_rfl) (λ_ _ _ h=>j _ _ _ _ _ h) (gG (by kernel_rfl)) (by decide) (UH (v:=m) rfl (eN (U.tm 178)).2 λw C=>by have:=Da C 1 m rfl;exact this) A ?_;refine ams (i:=i) (n:=L.length) hp hl (λe b b' c' a' w' f he hb=>?_) (p.re (wT s L.length i) _ p.mem (fa (p.tm 7) (fa (p.tm 5) (fa (p.tm 6) (fa (p.tm 175) (fa (p.tm 179) f0))))));refine hQ e b b' c' a' w' ⟨⟨⟨f.mem.ext.os,f.mem.ext.output,f.mem.ext.size,f.mem.ext.block,f.mem.ext.cz,f.mem.ext.tape,f.mem.ext.dr⟩,f.mem.fl,f.mem.gl,f.mem.hS,f.mem.hW,f.mem.inj,f.mem.fresh,f.mem.box,λk q z l=>f.mem.b4 k q z (.inl l)⟩,sw _ (fa (f.tm 5) (fa (f.tm 6) (fa (f.tm 7) f0))),f.size,f.defers,λk q z l=>?_⟩ he hb;rw[hB k q z l];exact(show nH 2 1=FD from jI (by decide) (by omega))
end
noncomputable def dO:N r:=Tt B3 7
def ank : Oper := ⟨none, .move (.tmp 0), 0, "", #[], none⟩
def ib(k:Z):r:=(aR dO.toList k).getD ank
def oi:CX dO=FD:=by kernel_rfl
def aiI:dO.size=10:=by kernel_rfl
structure jy (k:Nat) (d:Nat) (op:Op):Prop where
 at_:dO[k]? =some (ib k)
 dst:(ib k).dst=some d
 tx:(ib k).op=op
 gd:(ib k).guard=none
def d0:jy 0 27 (.move (.tmp 5)):=⟨by kernel_rfl,by kernel_rfl,by kernel_rfl,by kernel_rfl⟩
def d1:jy 1 28 (.move (.tmp 6)):=⟨by kernel_rfl,by kernel_rfl,by kernel_rfl,by kernel_rfl⟩
def d2:jy 2 29 (.move (.tmp 6)):=⟨by kernel_rfl,by kernel_rfl,by kernel_rfl,by kernel_rfl⟩
def d3:jy 3 30 (.slice 29 (.tmp 27) E9 (E8 (.tmp 28)) (E8 (.tmp 29))):=⟨by kernel_rfl,by kernel_rfl,by kernel_rfl,by kernel_rfl⟩
def d4:jy 4 31 (.move (.tmp 5)):=⟨by kernel_rfl,by kernel_rfl,by kernel_rfl,by kernel_rfl⟩
def d5:jy 5 32 (.move (.tmp 6)):=⟨by kernel_rfl,by kernel_rfl,by kernel_rfl,by kernel_rfl⟩
def d6:jy 6 33 (.binOp .add 3 (.tmp 32) (.const (.int .i64 1)) 3):=⟨by kernel_rfl,by kernel_rfl,by kernel_rfl,by kernel_rfl⟩
def d7:jy 7 34 (.slice 29 (.tmp 31) (E8 (.tmp 33)) E9 E9):=⟨by kernel_rfl,by kernel_rfl,by kernel_rfl,by kernel_rfl⟩
def d8:jy 8 35 (.call ⟨.builtin .append,#[.tmp 30,.tmp 34],#[29,29]⟩):=⟨by kernel_rfl,by kernel_rfl,by kernel_rfl,by kernel_rfl⟩
def d9:jy 9 4 (.assign (.tmp 35)):=⟨by kernel_rfl,by kernel_rfl,by kernel_rfl,by kernel_rfl⟩
def o6{S:R->Prop}{d:Z}{op:Op}(h:jy k d op)(b:∀w,(execOp a.eval (ib k)).run AA w= .ok (.value v) w):YieldsIf AA dO S (ib k) v a:= .inl ⟨by simp[BW,h.gd],λw _=>b w⟩
def vn{d:Z}{x:Operand}(h:jy k d (.move x))(a:Act)(w:R):(execOp a.eval (ib k)).run AA w= .ok (.value (a.eval x)) w:=by
 simp only[execOp,h.tx];simp
def Sb{d:Z}{t:z}{x:Operand}{c e b:o Operand}(h:jy k d (.slice t x c e b)){w:R}(f:(Instr.sliceAt t (a.eval x) (c.map a.eval) (e.map a.eval) (b.map a.eval)).run AA w= .ok v w):(execOp a.eval (ib k)).run AA w= .ok (.value v) w:=by
 simp only[execOp,h.tx];simp[f]
def amt{w:R}{n:Y}(b:a.tmps.getD 32 undef= .int .i64 n):(execOp a.eval (ib 6)).run AA w= .ok (.value (.int .i64 (i64.wrap (n+1)))) w:=by
 have e:a.eval (.tmp 32)= .int .i64 n:=b;have g:a.eval (.const (.int .i64 1))= .int .i64 1:=rfl;obtain⟨z,d,f⟩:=O1 (P:=AA) (op:= .add) (t:=3) (x:= .int .i64 n) (y:= .int .i64 1) (p:=none) (m:= .int .i64 (i64.wrap (n+1))) rfl trivial (c:=BU λ_=>D) (w:=w) (cG _ _) (cG _ _);rw[cK f]at d;simp only[execOp,d6.tx,e,g];rfl
def qK:Tryz.prog.underlying 29=E8 (.slice 47):=by kernel_rfl
def am7{w:R}{n cap:Z}(g:a.tmps.getD 27 undef= .slice (E8 ⟨b,0,E9⟩) n cap)(f:a.tmps.getD 28 undef= .int .i64 i)(e:a.tmps.getD 29 undef= .int .i64 i)(hi:i<=cap:=by omega):(execOp a.eval (ib 3)).run AA w= .ok (.value (.slice (E8 ⟨b,0,E9⟩) i i)) w:=by
 refine Sb d3 ?_;have k:a.eval (.tmp 27)= .slice (E8 ⟨b,0,E9⟩) n cap:=g;have j:a.eval (.tmp 28)= .int .i64 i:=f;have h:a.eval (.tmp 29)= .int .i64 i:=e;have c:Tryz.prog.underlying 29=E8 (.slice (Tryz.prog.elem 29)):=by rw[lS qK];exact qK
 obtain⟨agg,size,d⟩:∃agg size,dZ AA (Tryz.prog.elem 29)=E8 (agg,size):=⟨FD,18,by rw[lS qK];kernel_rfl⟩;simp only[k,j,h,CZ,DU];rw[run_sliceAt_slice (P:=AA) w 29 _ _ _ _ c,run_slice_hm (P:=AA) w 29 _ n cap c .i64 .i64 i i (by omega) (by omega) (by omega),bK d];simp[Result.andThen,sliced,Addr.add]
def am8{w:R}{n cap:Z}(f:a.tmps.getD 31 undef= .slice (E8 ⟨b,0,E9⟩) n cap)(e:a.tmps.getD 33 undef= .int .i64 ((i+1:Z):Y))(hi:i<n)(hc:n<=cap):(execOp a.eval (ib 7)).run AA w= .ok (.value (.slice (E8 ⟨b,if cap=i+1 then 0 else (i+1)*18,E9⟩) (n-(i+1)) (cap-(i+1)))) w:=by
 refine Sb d7 ?_;have h:a.eval (.tmp 31)= .slice (E8 ⟨b,0,E9⟩) n cap:=f;have g:a.eval (.tmp 33)= .int .i64 ((i+1:Z):Y):=e;have c:Tryz.prog.underlying 29=E8 (.slice (Tryz.prog.elem 29)):=by rw[lS qK];exact qK
 have d:dZ AA (Tryz.prog.elem 29)=E8 (FD,18):=by rw[lS qK];kernel_rfl
 simp only[h,g,CZ,DU];rw[run_sliceAt_slice (P:=AA) w 29 _ _ _ _ c,run_slice_l (P:=AA) w 29 _ n cap c .i64 _ (by omega) (by omega),bK d,Z8];simp only[Result.andThen,sliced];split<;>simp[Addr.add]
def Rz{n j:Z}(hi:i<n)(hj:j<n-1):(if j<i then j else j+1)<n:=by split<;>omega
def zn{t:Z}(h:t<a.tmps.size):(a.put (E8 t) v).tmps.getD t undef=v:=by
 simp[BD,Array.getD_eq_getD_getElem?,h]
def abI{t:Z}:(a.put (E8 t) v).tmps.size=a.tmps.size:=by simp[BD]
def T5(c:Ctx)(L:V ab)(pv d:Z->U)(i:Z)(w w':R)(v:U):Prop :=
 ∃b cap,v= .slice b (L.length-1) cap/\L.length-1<=cap/\(0<L.length-1->∃b',b=E8 ⟨b',0,E9⟩/\(b'=c.β 1\/w.heap.size<=b')/\
  ∀j,j<L.length-1->∃a,aj c.elem w (jU L pv d (if j<i then j else j+1)) a/\a.length=18/\c! w' b' (j*18) a)
def alB{w:R}{n cap:Z}{arr:N U}{ty:FM}(r:a.tmps.getD 30 undef= .slice (E8 ⟨b,0,E9⟩) i i)(E:a.tmps.getD 34 undef= .slice (E8 ⟨b,if cap=i+1 then 0 else (i+1)*18,E9⟩) (n-(i+1)) (cap-(i+1)))(hi:i<n)(hc:n<=cap)(hn:n<=1000000)(D:w.heap[b]? =E8 (.cells arr ty (0,0)))(y:arr.size=cap*18) :
  ∃v w',(execOp a.eval (ib 8)).run AA w= .ok (.value v) w'/\Ext w w'/\∃B td,v= .slice B (n-1) td/\n-1<=td/\(0<n-1->∃b',B=E8 ⟨b',0,E9⟩/\(b'=b\/w.heap.size<=b')/\
   ∀j e,j<n-1->e.length=18->(∀(k:Z) u,e[k]? =E8 u->arr[(if j<i then j else j+1)*18+k]? =E8 u)->c! w' b' (j*18) e):=by
 have A:a.eval (.tmp 30)= .slice (E8 ⟨b,0,E9⟩) i i:=r;have p:a.eval (.tmp 34)= .slice (E8 ⟨b,if cap=i+1 then 0 else (i+1)*18,E9⟩) (n-(i+1)) (cap-(i+1)):=E;obtain⟨c,f,g,x,q⟩:∃c,Tryz.prog.info? 47=E8 c/\c.size=18/\c.bytes<=1000/\∃z,c.zero=E8 z:=by
  have:(Tryz.prog.info? 47).map (λt=>(t.size,t.bytes,t.zero.isSome))=E8 (18,288,FD):=by kernel_rfl
  cases h:Tryz.prog.info? 47 with
  |none=>rw[h]at this;simp at this
  |some c =>
   grind [Z1,Z2,Option.isSome_iff_exists]
 obtain⟨z,q⟩:=q;by_cases d:n-(i+1)=0
 .refine⟨.slice (E8 ⟨b,0,E9⟩) i i,w,?_,Ext.refl w,E8 ⟨b,0,E9⟩,i,by rw[show n-1=i by omega],by omega,λ_=>⟨b,rfl,.inl rfl,λj e C _ s=>⟨arr,ty,_,D,λk u o=>?_⟩⟩⟩
  .simp only[execOp,d8.tx];rw[d]at p;simp[resolve,invoke,builtin,A,p,nJ (P:=AA) w 29 (ib 8).type 47 c qK f _ _ i i _ (Z0 i)]
  grind
 .have m:¬cap=i+1:=by omega
  rw[G m]at p;have aoa:∀j u,arr[j]? =E8 u->w.cell? ⟨b,j,E9⟩=E8 u:=λj u o=>by
   unfold CB
   simp_all
  have l:=run_append_grow (P:=AA) w 29 (ib 8).type 47 c z qK f q ⟨b,0,E9⟩ i i (arr.toList.take (i*18)) (by rw[g,BF,DL,y];have:i*18<=cap*18:=DN _ (by omega);omega)
   (λj u o=>by
    grind [gN])
   ⟨b,(i+1)*18,E9⟩ (n-(i+1)) (cap-(i+1)) ((arr.toList.drop ((i+1)*18)).take ((n-(i+1))*18)) (by rw[g,BF,C0,DL,y];omega)
   (λj u o=>by
    grind [gN,BO]) (by omega) (by omega) (growslice_fits (by omega) (by
    have r:i+(n-(i+1))<=1000000:=by omega
    have:=BO r x;omega))
  have ark:=grownCap_ge w (i+(n-(i+1))) i 47;refine⟨_,_,by
   simp only[execOp,d8.tx];simp[resolve,invoke,builtin,A,p,l];exact⟨rfl,rfl⟩,(Ext.drew w).trans (Ext.alloc w.drew _ _),E8 ⟨w.heap.size,0,E9⟩,_,by rw[show n-1=i+(n-(i+1)) by omega],by omega,λ_=>⟨w.heap.size,rfl,.inr (Z0 _),λj e C K8 s=>⟨_,_,_,dC w.drew _ _,λk u o=>?_⟩⟩⟩
  grind
set_option maxRecDepth 100000 in
set_option maxHeartbeats 4000000 in
def r7{S2:FF->Prop}{B:bw}{pv bv:FF->FN}{i:FF}{f pt y p:FG}(ho:ops.toList=dO.toList)(g:∀ch a d v w,Q (.panic ch) (BD a d v) w->Q (.panic ch) a w)(h:St S2 B (fm s L pv bv i f pt y p) c a w)(J:i<L.length)(H:L.length<=1000000)(hQ:∀a' w' v,a'.tmps.getD 4 undef=v->a'.defers=a.defers->Ext w w'->T5 c L pv bv i w w' v->Q .normal a' w'):(Code.region 7 ops FD).wp AA Q a w:=by
 obtain rfl:ops=dO:=DR ho;obtain⟨a0,cap,Z,z,X⟩:=iA (show af c w (.bs 1 0 L.length) (a.tmps.getD 5 undef) from h.tm 5);obtain⟨T,l1,hz⟩:a0=E8 ⟨c.β 1,0,E9⟩/\c.live 1/\0+cap*(c.sz 1).wd=(c.sz 1).n:=X.elim id λh=>FK h.2.1 (by omega);subst T;have Y:=cK (show af c w (.int .i64 i) (a.tmps.getD 6 undef) from h.tm 6);obtain⟨arr,ty,q1,q2,W,q4⟩:=h.mem.box 1 _ l1 rfl;have hs:arr.size=cap*18:=by
  have W:(c.sz 1).wd=18:=W
  simp_all
 have e:Ext w { w with drawn:=w.drawn+1 }:=⟨rfl,rfl,Z0 _,λ_ _=>rfl,λ_ _=>rfl,rfl,Z9 _⟩;have hh:({ w with drawn:=w.drawn+1 }:FO).heap[c.β 1]? =E8 (.cells arr ty (0,0)):=q1;obtain⟨O,P⟩:=h.mem.grow e;have C:=h.iw P O rfl rfl rfl;refine wp_region_any bQ (zF (S:=λ_=>True) (t:=9) _ _ _ _ ?_);rw[aiI];have N:({ w with drawn:=w.drawn+1 }:FO).heap.size=w.heap.size:=rfl;generalize ({ w with drawn:=w.drawn+1 }:FO)=b at *;have V:∀v:FN,v.oneCell'=FD->af c b (.val v) v:=λv hv=>aT rfl (by simp) rfl ⟨rfl,hv⟩;have x:=C.re [(5,.val (.slice (E8 ⟨c.β 1,0,E9⟩) L.length cap)),(6,.val (.int .i64 i))] _ C.mem (fa (by rw[Z];exact V _ rfl) (fa (by rw[Y];exact V _ rfl) f0));have R:=h.defers;clear C h Z Y X;have ew:i64.wrap ((i:FG)+1)=((i+1:FF):FG):=by rw[aV (by omega) (by omega)];omega
 have E5:=(dR (show af c b (.val (.slice (E8 ⟨c.β 1,0,E9⟩) L.length cap)) (AT _ 5 undef) from x.tm 5)).1;have E6:=(dR (show af c b (.val (.int .i64 i)) (AT _ 6 undef) from x.tm 6)).1;refine cY (i:=0) d0.at_ oi (by kernel_rfl) (by kernel_rfl) (λ_ _ _ h=>g _ _ _ _ _ h) (gG (by kernel_rfl)) (by decide) (o6 d0 (v:= .slice (E8 ⟨c.β 1,0,E9⟩) L.length cap) λw=>(vn d0 _ w).trans (by rw[show CF _ (.tmp 5)=_ from E5])) ⟨⟩ ?_;rw[d0.dst];have f:=x.b? (t:=some 27) rfl (V (.slice (E8 ⟨c.β 1,0,E9⟩) L.length cap) rfl);clear x
 revert f
 generalize BD _ (E8 27) _=a0;intro u;clear E5 E6;have E5:=(dR (show af c b (.val (.slice (E8 ⟨c.β 1,0,E9⟩) L.length cap)) (AT _ 5 undef) from u.tm 5)).1;have E6:=(dR (show af c b (.val (.int .i64 i)) (AT _ 6 undef) from u.tm 6)).1;refine cY (i:=1) d1.at_ oi (by kernel_rfl) (by kernel_rfl) (λ_ _ _ h=>g _ _ _ _ _ h) (gG (by kernel_rfl)) (by decide) (o6 d1 (v:= .int .i64 i) λw=>(vn d1 _ w).trans (by rw[show CF _ (.tmp 6)=_ from E6])) ⟨⟩ ?_;rw[d1.dst];have f:=u.b? (t:=some 28) rfl (V (.int .i64 i) rfl);clear u
 revert f
 generalize BD _ (E8 28) _=a1;intro r;clear E5 E6;have E5:=(dR (show af c b (.val (.slice (E8 ⟨c.β 1,0,E9⟩) L.length cap)) (AT _ 5 undef) from r.tm 5)).1;have E6:=(dR (show af c b (.val (.int .i64 i)) (AT _ 6 undef) from r.tm 6)).1;refine cY (i:=2) d2.at_ oi (by kernel_rfl) (by kernel_rfl) (λ_ _ _ h=>g _ _ _ _ _ h) (gG (by kernel_rfl)) (by decide) (o6 d2 (v:= .int .i64 i) λw=>(vn d2 _ w).trans (by rw[show CF _ (.tmp 6)=_ from E6])) ⟨⟩ ?_;rw[d2.dst];have f:=r.b? (t:=some 29) rfl (V (.int .i64 i) rfl);clear r
 revert f
 generalize BD _ (E8 29) _=a2;intro k;clear E5 E6;have LS:=(dR (show af c b (.val (.slice (E8 ⟨c.β 1,0,E9⟩) L.length cap)) (AT _ 27 undef) from k.tm 27)).1;have LU:=(dR (show af c b (.val (.int .i64 i)) (AT _ 28 undef) from k.tm 28)).1;have LV:=(dR (show af c b (.val (.int .i64 i)) (AT _ 29 undef) from k.tm 29)).1;refine cY (i:=3) d3.at_ oi (by kernel_rfl) (by kernel_rfl) (λ_ _ _ h=>g _ _ _ _ _ h) (gG (by kernel_rfl)) (by decide) (o6 d3 (v:= .slice (E8 ⟨c.β 1,0,E9⟩) i i) λw=>am7 LS LU LV) ⟨⟩ ?_;rw[d3.dst];have f:=k.b? (t:=some 30) rfl (V (.slice (E8 ⟨c.β 1,0,E9⟩) i i) rfl);clear k
 revert f
 generalize BD _ (E8 30) _=a3;intro q;clear LS LU LV;have E5:=(dR (show af c b (.val (.slice (E8 ⟨c.β 1,0,E9⟩) L.length cap)) (AT _ 5 undef) from q.tm 5)).1;have E6:=(dR (show af c b (.val (.int .i64 i)) (AT _ 6 undef) from q.tm 6)).1;refine cY (i:=4) d4.at_ oi (by kernel_rfl) (by kernel_rfl) (λ_ _ _ h=>g _ _ _ _ _ h) (gG (by kernel_rfl)) (by decide) (o6 d4 (v:= .slice (E8 ⟨c.β 1,0,E9⟩) L.length cap) λw=>(vn d4 _ w).trans (by rw[show CF _ (.tmp 5)=_ from E5])) ⟨⟩ ?_;rw[d4.dst];have f:=q.b? (t:=some 31) rfl (V (.slice (E8 ⟨c.β 1,0,E9⟩) L.length cap) rfl);clear q
 revert f
 generalize BD _ (E8 31) _=a4;intro o;clear E5 E6;have E5:=(dR (show af c b (.val (.slice (E8 ⟨c.β 1,0,E9⟩) L.length cap)) (AT _ 5 undef) from o.tm 5)).1;have E6:=(dR (show af c b (.val (.int .i64 i)) (AT _ 6 undef) from o.tm 6)).1;refine cY (i:=5) d5.at_ oi (by kernel_rfl) (by kernel_rfl) (λ_ _ _ h=>g _ _ _ _ _ h) (gG (by kernel_rfl)) (by decide) (o6 d5 (v:= .int .i64 i) λw=>(vn d5 _ w).trans (by rw[show CF _ (.tmp 6)=_ from E6])) ⟨⟩ ?_;rw[d5.dst];have f:=o.b? (t:=some 32) rfl (V (.int .i64 i) rfl);clear o
 revert f
 generalize BD _ (E8 32) _=a5;intro A;clear E5 E6;have LX:=(dR (show af c b (.val (.int .i64 i)) (AT _ 32 undef) from A.tm 32)).1;refine cY (i:=6) d6.at_ oi (by kernel_rfl) (by kernel_rfl) (λ_ _ _ h=>g _ _ _ _ _ h) (gG (by kernel_rfl)) (by decide) (o6 d6 (v:= .int .i64 ((i+1:FF):FG)) λw=>(amt (n:=i) LX).trans (by rw[ew])) ⟨⟩ ?_;rw[d6.dst];have f:=A.b? (t:=some 33) rfl (V (.int .i64 ((i+1:FF):FG)) rfl);clear A
 revert f
 generalize BD _ (E8 33) _=a6;intro m;clear LX;have LW:=(dR (show af c b (.val (.slice (E8 ⟨c.β 1,0,E9⟩) L.length cap)) (AT _ 31 undef) from m.tm 31)).1;have LY:=(dR (show af c b (.val (.int .i64 ((i+1:FF):FG))) (AT _ 33 undef) from m.tm 33)).1;refine cY (i:=7) d7.at_ oi (by kernel_rfl) (by kernel_rfl) (λ_ _ _ h=>g _ _ _ _ _ h) (gG (by kernel_rfl)) (by decide) (o6 d7 (v:= .slice (E8 ⟨c.β 1,if cap=i+1 then 0 else (i+1)*18,E9⟩) (L.length-(i+1)) (cap-(i+1))) λw=>am8 LW LY J z) ⟨⟩ ?_;rw[d7.dst];have f:=m.b? (t:=some 34) rfl (V (.slice (E8 ⟨c.β 1,if cap=i+1 then 0 else (i+1)*18,E9⟩) (L.length-(i+1)) (cap-(i+1))) rfl);clear m
 revert f
 generalize BD _ (E8 34) _=a7;intro l;clear LW LY;have We:=(dR (show af c b (.val (.slice (E8 ⟨c.β 1,0,E9⟩) i i)) (AT _ 30 undef) from l.tm 30)).1;have Wf:=(dR (show af c b (.val (.slice (E8 ⟨c.β 1,if cap=i+1 then 0 else (i+1)*18,E9⟩) (L.length-(i+1)) (cap-(i+1)))) (AT _ 34 undef) from l.tm 34)).1;obtain⟨v,D,G,I,hv⟩:=alB (w:=b) We Wf J z H hh hs;refine eF (rs:=[8]) (by kernel_rfl) (by simp) λj E=>?_;obtain rfl:j=8:=by simpa using E
 have M:∀(K:Act->FO->Prop) a,(execOp a.eval (ib 8)).run AA b= .ok (.value v) D->K (a.put (E8 35) v) D->wpOp AA dO Q 8 K a b:=λK a hr hK=>by
  unfold wpOp;rw[d8.at_];dsimp only;rw[FT (by simp[BW,d8.gd])];refine .inl ?_;unfold Oper.wp;rw[hr,Oper.upon_value,d8.dst];exact hK
 refine M _ _ G ⟨λ_=>⟨⟩,?_⟩;refine eF (rs:=[9]) (by kernel_rfl) (by simp) λj E=>?_;obtain rfl:j=9:=by simpa using E
 unfold wpOp;rw[d9.at_];dsimp only;rw[FT (by simp[BW,d9.gd])];refine .inl ?_;unfold Oper.wp;rw[show ∀ ρ,(execOp ρ (ib 9)).run AA D= .ok (.value (ρ (.tmp 35))) D from fun ρ=>by simp only[execOp,d9.tx];simp,Oper.upon_value,d9.dst];refine⟨λh=>FK rfl h,Mz (by kernel_rfl) ?_ 0⟩;have F:a7.tmps.size=190:=l.size;have U:(a7.put (E8 35) v).tmps.getD 35 undef=v:=zn (by rw[F];decide);have g4:((a7.put (E8 35) v).put (E8 4) ((a7.put (E8 35) v).eval (.tmp 35))).tmps.getD 4 undef=v:=(zn (by rw[abI,F];decide)).trans U;obtain⟨a1,c1,e1,e2,e3⟩:=hv;refine hQ _ D v g4 ?_ (e.trans I) ⟨a1,c1,e1,e2,λh0=>?_⟩
 .show a7.defers=a.defers;rw[l.defers,R]
 .obtain⟨b',f1,f2,f3⟩:=e3 h0;have e0:b.heap.size=w.heap.size:=N;refine⟨b',f1,by rw[<-e0];exact f2,λj E=>?_⟩;obtain⟨cs,r1,r2,r3⟩:=q4 _ (Rz J E)
  grind
section
def gK(L:V ab)(a c y:Y):V ab :=
 if I c 16=15 then L.take (a.toNat%L.length)++L.drop (a.toNat%L.length+1)
 else L.set (a.toNat%L.length) (nY (L.getD (a.toNat%L.length) aB) (I c 16) y)
def t6:U->Z
 |.slice (E8 a) _ _=>a.block
 |_=>0
def Gh:U->Z
 |.slice _ _ c=>c
 |_=>0
def mZ(h:eA v q):t6 v=q:=by
 obtain⟨_,_,rfl⟩:=h;rfl
def RT{X:Z->Prop}{d w':R}{wd len:Z}{f:Z->MV}(h:jq c d wd len f v)(n:∀q,q<d.heap.size->¬X q->w'.heap[q]? =d.heap[q]?)(B:∀q,X q->c.S q)(C:∀q,S q->c.S q)(hv:∀q,eA v q->¬X q/\¬S q) :
  aj (BI S) w' (.sl wd len f) [v]:=by
 obtain⟨a,cap,rfl,z,h⟩:=h;refine⟨a,cap,rfl,z,λh0=>?_⟩;rcases h with ⟨q,arr,ty,p,o,e3,D⟩|⟨_,e,_⟩
 .have g:=hv q ⟨len,cap,by rw[p]⟩;have m:q<d.heap.size:=(BE.1 o).1;refine⟨q,0,p,g.2,λj A=>?_⟩;obtain⟨E,t,s,r⟩:=D j A;exact⟨E,t,B4 (⟨λq _ l=>C q l,λ_ _ h=>h,λ_ h=>h.elim,λq g l=>n q g λx=>l (B q x),λ_ _ h=>(h trivial).elim⟩:bg c.elem (BI S).elem d w') _ _ s,arr,ty,_,by rw[n q m g.1];exact o,λk u y=>by rw[AZ];exact r k u y⟩
 .omega
def S?(a:Act)(w:R):(results B3 a.tmps).run AA w= .ok (a.tmps.getD 4 undef) w:=by
 simp[results,Tryz.results11]
def dp.ext{b:bw}{w0 w':R}(a:Ext w0 b.w)(h:dp b w')(e:∀q,b.X q->w0.heap.size<=q):Ext w0 w' :=
 ⟨h.os.trans a.os,h.output.trans a.output,A1 a.size h.size,λk d=>(h.block k (AP d a.size) λc=>by have:=e k c;omega).trans (a.block k d),λx c=>(h.cz x (AP c a.size)).trans (a.cz x c),h.tape.trans a.tape,A1 a.dr h.dr⟩
def akg(n:Z)(f:Z->MV)(a c y:Y)(K:Ex->MS->Prop):K .normal ⟨190, [(4,.val (.slice E9 0 0)),(3,.bp 0 0),(0,.sl 18 n f),(1,zM a c y)], [⟨E7,.one (zM a c y)⟩],0⟩=aZ (aK [] aC) (λ_=>D) (cN nf) ⟨190,dQ 0 [.sl 18 n f,zM a c y], [],0⟩ K:=by kernel_rfl
structure mj (S:Nat->Prop) (w0 w1:World) (zb:Nat) (L:List ab) (i b cap:Nat) (S1:Nat->Prop) (pv bv:Nat->Value) (w:World):Prop where
 ext:Ext w0 w
 sz:w0.heap.size<=w1.heap.size
 LR:zb<w1.heap.size/\w0.heap.size<=zb
 aql:S1 zb
 sub:∀q,S q->S1 q
 fh:∀q,S q->q<w0.heap.size
 hb:w1.heap.size<=b
 bl:b<w.heap.size
 wl:w1.heap.size<=w.heap.size
 nest:gq w1.heap.size S1 b ⟨cap*18,18⟩ L pv bv L.length L.length w
 hi:i<L.length
def oZ(pv bv:Z->U)(i k:Z):Prop:=k=0\/k=1\/(k=2/\∃q,eA (pv i) q)\/(k=3/\∃q,eA (bv i) q)
def chβ(zb b:Z)(pv bv:Z->U)(i k:Z):Z:=if k=0 then zb else if k=1 then b else if k=2 then t6 (pv i)else t6 (bv i)
def xk(a:Sz)(cap:Z)(pv bv:Z->U)(i k:Z):Sz:=if k=0 then a else if k=1 then ⟨cap*18,18⟩else if k=2 then ⟨Gh (pv i)*1,1⟩else ⟨Gh (bv i)*2,2⟩
def na(zb b:Z)(pv bv:Z->U)(i q:Z):Prop:=∃k,oZ pv bv i k/\chβ zb b pv bv i k=q
def H?{zb:Z}(h:na zb b pv bv i q):q=zb\/q=b\/eA (pv i) q\/eA (bv i) q:=by
 obtain⟨k,d,a⟩:=h;rcases d with rfl|rfl|⟨rfl,p,c⟩|⟨rfl,p,c⟩
 .exact .inl a.symm
 .exact .inr (.inl a.symm)
 .have e:t6 (pv i)=q:=a;rw[mZ c]at e
  simp_all
 .have e:t6 (bv i)=q:=a;rw[mZ c]at e
  simp_all
section
variable {S:Nat->Prop} {w0 w1:World} {zb:Nat} {L:List ab} {i b cap:Nat} {S1:Nat->Prop} {pv bv:Nat->Value} {w:World}
def mj.X1(I:mj S w0 w1 zb L i b cap S1 pv bv w)(h:na zb b pv bv i q):w0.heap.size<=q/\(S1 q\/q=b)/\q<w.heap.size:=by
 have a:=I.LR;have hb:=I.hb;have hs:=I.sz;have hw:=I.wl;rcases H? h with rfl|rfl|h|h
 .exact⟨a.2,.inl I.aql,by omega⟩
 .exact⟨by omega,.inr rfl,I.bl⟩
 .have:=I.nest.l? i q I.hi h;exact⟨by omega,.inl this.1,(I.nest.S0 q this.1).1⟩
 .have:=I.nest.dz i q I.hi h;exact⟨by omega,.inl this.1,(I.nest.S0 q this.1).1⟩
def mj.inj(I:mj S w0 w1 zb L i b cap S1 pv bv w):∀j k,oZ pv bv i j->oZ pv bv i k->chβ zb b pv bv i j=chβ zb b pv bv i k->j=k:=by
 have z1:=I.LR;have hb:=I.hb;have f:∀q,eA (pv i) q->t6 (pv i)=q/\w1.heap.size<=q/\q≠b:=λq c=>by
  have:=I.nest.l? i q I.hi c;exact⟨mZ c,this.2,(I.nest.S0 q this.1).2⟩
 have g:∀q,eA (bv i) q->t6 (bv i)=q/\w1.heap.size<=q/\q≠b:=λq c=>by
  have:=I.nest.dz i q I.hi c;exact⟨mZ c,this.2,(I.nest.S0 q this.1).2⟩
 have t:chβ zb b pv bv i 0=zb:=rfl;have s:chβ zb b pv bv i 1=b:=rfl;have r:chβ zb b pv bv i 2=t6 (pv i):=rfl;have o:chβ zb b pv bv i 3=t6 (bv i):=rfl;intro j k l h e;rcases l with rfl|rfl|⟨rfl,p,d⟩|⟨rfl,p,d⟩<;>rcases h with rfl|rfl|⟨rfl,p',a⟩|⟨rfl,p',a⟩<;>simp only[t,s,r,o]at e<;>first|rfl|(exfalso)
 .omega
 .grind
 .grind
 .omega
 .grind
 .grind
 .grind
 .grind
 .have n:=f _ d;have m:=g _ a;exact I.nest.dX i i p I.hi I.hi d (by rw[show p=p' by omega];exact a)
 .grind
 .grind
 .have n:=g _ d;have m:=f _ a;exact I.nest.dX i i p' I.hi I.hi a (by rw[show p'=p by omega];exact d)
def mj.rest(I:mj S w0 w1 zb L i b cap S1 pv bv w){w':R}(k:∀q,q<w.heap.size->¬na zb b pv bv i q->w'.heap[q]? =w.heap[q]?):∀j,j<L.length->j≠i->
  aj (BI S) w' (.sl 1 (L.getD j aB).parts.length (bI (L.getD j aB).parts)) [pv j]/\aj (BI S) w' (.sl 2 (L.getD j aB).base.length (iL (L.getD j aB).base 200)) [bv j]:=λj c f=>by
 have z1:=I.LR;have hs:=I.sz;have e:∀q,w1.heap.size<=q->¬S q:=λq a h=>by have:=I.fh q h;omega
 refine⟨RT (X:=na zb b pv bv i) (I.nest.t! j c) k (λq a=>(I.X1 a).2.1) (λq a=>.inl (I.sub q a)) λq a=>?_,RT (X:=na zb b pv bv i) (I.nest.t? j c) k (λq a=>(I.X1 a).2.1) (λq a=>.inl (I.sub q a)) λq a=>?_⟩
 .have d:=I.nest.l? j q c a;refine⟨λg=>?_,e q d.2⟩;rcases H? g with rfl|rfl|h|h
  .omega
  .exact(I.nest.S0 _ d.1).2 rfl
  .rcases CO f with h2|h2
   .exact I.nest.dP j i q h2 I.hi a h
   .exact I.nest.dP i j q h2 c h a
  .exact I.nest.dX j i q c I.hi a h
 .have d:=I.nest.dz j q c a;refine⟨λg=>?_,e q d.2⟩;rcases H? g with rfl|rfl|h|h
  .omega
  .exact(I.nest.S0 _ d.1).2 rfl
  .exact I.nest.dX i j q I.hi c h a
  .rcases CO f with h2|h2
   .exact I.nest.dB j i q h2 I.hi a h
   .exact I.nest.dB i j q h2 c h a
def s3(zb b:Z)(pv bv:Z->U)(i:Z)(S1:Z->Prop)(q:Z):Prop:=S1 q/\¬na zb b pv bv i q
def Tb{wd len:Z}{f:Z->MV}(h:jq c w wd len f v)(g:eA v q):∃arr ty,w.heap[q]? =E8 (.cells arr ty (0,0))/\arr.size=Gh v*wd/\gJ c w (.rows wd len f) arr:=by
 obtain⟨a,aqv,rfl,_,h⟩:=h;obtain⟨l2,c2,e⟩:=g;simp only[Value.slice.injEq]at e;rcases h with ⟨q',arr,ty,d,l,k,j⟩|⟨d,_⟩
 .rw[d]at e;simp only[Z1,Addr.mk.injEq]at e;obtain⟨⟨rfl,_⟩,_⟩:=e;exact⟨arr,ty,l,k,j⟩
 simp_all
set_option maxRecDepth 100000 in
def aeq(I:mj S w0 w1 zb L i b cap S1 pv bv w){s t y:Y}{u:Sz}(J:dn (Ctx.b1 S1 b ⟨cap*18,18⟩) w 0 (nM L pv bv))(O:∃arr ty,w.heap[zb]? =E8 (.cells arr ty (0,0))/\arr.size=u.n/\u.wd=0/\arr[0]? =E8 (.int .u8 s)/\arr[1]? =E8 (.int .u8 t)/\arr[2]? =E8 (.int .i64 y))(M:∀g,nj g=FD->¬S1 g/\g≠b/\g<w.heap.size/\c! w g 0 ((iS g).map (DT (vw g))))(T:a.tmps.getD 3 undef= .pointer (E8 ⟨zb,0,E9⟩))(Q:a.tmps.getD 5 undef= .slice (E8 ⟨b,0,E9⟩) L.length cap)(D:L.length<=cap)(H:a.tmps.size=190) :
  St (s3 zb b pv bv i S1) ⟨w,λq=>∃k,oZ pv bv i k/\chβ zb b pv bv i k=q,λk q z=>(oZ pv bv i k/\1<=k)/\chβ zb b pv bv i k=q/\xk u cap pv bv i k=z,a.defers⟩ ⟨190, [(3,.bp 0 0),(5,.bs 1 0 L.length)],g! L pv bv (L.getD i aB) s t y,4⟩
   (cF (s3 zb b pv bv i S1) (g! L pv bv (L.getD i aB) s t y) (oZ pv bv i) (chβ zb b pv bv i) (xk u cap pv bv i)) a w:=by
 have C:∀q,(cF (s3 zb b pv bv i S1) (g! L pv bv (L.getD i aB) s t y) (oZ pv bv i) (chβ zb b pv bv i) (xk u cap pv bv i)).S q->S1 q\/q=b:=λq f=>by
  rcases f with f|⟨k,_,V,_,_,U⟩
  .exact .inl f.1
  .exact(I.X1 ⟨k,V,U⟩).2.1
 refine St.fresh (λk p=>⟨?_,(I.X1 ⟨k,p,rfl⟩).2.2,λh=>h.2 ⟨k,p,rfl⟩⟩) I.inj (λq f=>(I.nest.S0 q f.1).1) (λg K=>⟨λh=>?_,(M g K).2.2⟩) (λk G p d=>?_) (fa (by rw[T];exact aT rfl (by simp) rfl ⟨.inl rfl,rfl⟩) (fa (by
   rw[Q];exact aT rfl (by simp) rfl ⟨_,_,rfl,D,.inl ⟨rfl,.inr (.inl rfl),by show 0+cap*18=cap*18;omega⟩⟩) f0)) H _ (λk q z F=>⟨F.1.1,F.2.1,F.2.2,?_⟩)
 .have R:k<4:=by rcases p with rfl|rfl|⟨rfl,_⟩|⟨rfl,_⟩<;>decide
  exact R
 .have W:=M g K;rcases h with h|h
  .exact W.1 h.1
  .rcases(I.X1 h).2.1 with h|h
   all_goals simp_all
 .rcases p with rfl|rfl|⟨rfl,q,f⟩|⟨rfl,q,f⟩
  .have d:E8 (⟨E7,.one (zM s t y)⟩:aq)=E8 G:=d;obtain rfl:=AY d;obtain⟨arr,ty,q1,o,m,a0,a1,a2⟩:=O;refine⟨arr,ty,q1,o,m, [.int .u8 s,.int .u8 t,.int .i64 y],⟨[_],_,rfl,rfl, [_],_,rfl,rfl, [_],_,rfl,rfl,rfl⟩,λj v hv=>?_⟩
   grind
  .have d:E8 (nM L pv bv)=E8 G:=d;obtain rfl:=AY d;obtain⟨arr,ty,q1,o,m,N⟩:=J;refine⟨arr,ty,q1,o,m,λj A=>?_⟩;obtain⟨B,E,l,x⟩:=N j A;exact⟨B,E,BT (c:=(Ctx.b1 S1 b ⟨cap*18,18⟩).elem) (c':=(cF _ _ _ _ _).elem) (r:=false) C (λe=>by simp at e) (jU L pv bv j) _ rfl l,x⟩
  .have d:E8 (⟨E7,.arr .i64 (L.getD i aB).parts⟩:aq)=E8 G:=d;obtain rfl:=AY d;obtain⟨arr,ty,q1,o,m⟩:=Tb (I.nest.t! i I.hi) f;refine⟨arr,ty,?_,o,rfl,λj n P=>?_⟩
   .show w.heap[t6 (pv i)]? =_;rw[mZ f];exact q1
   .have A:j<(L.getD i aB).parts.length:=(List.getElem?_eq_some_iff.1 P).1;obtain⟨B,E,l,x⟩:=m j A;have l:B=[.int .i64 ((L.getD i aB).parts.getD j 0)]:=l;have:=x 0 _ (by rw[l];rfl)
    simp_all
  .have d:E8 (⟨E7,.rows 2 (L.getD i aB).base.length (iL (L.getD i aB).base 200)⟩:aq)=E8 G:=d;obtain rfl:=AY d;obtain⟨arr,ty,q1,o,m⟩:=Tb (I.nest.t? i I.hi) f;refine⟨arr,ty,?_,o,rfl,λj A=>?_⟩
   .show w.heap[t6 (bv i)]? =_;rw[mZ f];exact q1
   .obtain⟨B,E,l,x⟩:=m j A;exact⟨B,E,BT (c:=(Ctx.b1 S1 b ⟨cap*18,18⟩).elem) (c':=(cF _ _ _ _ _).elem) (r:=false) C (λe=>by simp at e) (iL (L.getD i aB).base 200 j) _ rfl l,x⟩
 .have p:k<4:=by rcases F.1.1 with rfl|rfl|⟨rfl,_⟩|⟨rfl,_⟩<;>decide
  exact jI (by decide) p
end
end
def s5(n:Z)(i p:Y):V (Z×MV):=[(3,.bp 0 0),(5,.bs 1 0 n),(6,.int .i64 i),(7,.bp 4 0),(26,.int .u8 p)]
def amW(t d:Z):O:=[3,5,6,7,26].all λk=>!(t.beq k)&&!(d.beq k)
def zJ{B:bw}{bx:V aq}{n t d:Z}{i p:Y}{v:O}{r A C:Code}{Q:Exit->Act->R->Prop}{w:R}(u:∀K:Ex->MS->Prop,K .normal ⟨190,(t,.bool v)::(d,.bool v)::s5 n i p,bx,2⟩=aZ (aK [] aC) (λ_=>D) r ⟨190,s5 n i p,bx,2⟩ K)(s:amW t d=FD)(h:St S B ⟨190,s5 n i p,bx,2⟩ c a w)(x:∀c a w,St S B ⟨190,s5 n i p,bx,2⟩ c a w->(W v A C).wp AA Q a w):(Code.seq r (.cond (.tmp t) A C)).wp AA Q a w:=by
 have f:=C1.1 s;have ig:∀k,k∈ [3,5,6,7,26]->t≠k/\d≠k:=λk o=>by
  have:=f k o;simp only[Z3,CT]at this;exact⟨λe=>by rw[e]at this;simp at this,λe=>by rw[e]at this;simp at this⟩
 refine wp_seq (rT (cast (u _) λl m j g=>?_) h);have q:af l j (.bool v) (m.tmps.getD t undef):=by
  have:=g.tm t
  grind [bD,Nat.beq_refl]
 have b:∀k,k∈ [3,5,6,7,26]->af l j (bD k (s5 n i p)) (m.tmps.getD k undef):=λk o=>by
  have:=g.tm k
  grind [bD]
 refine wp_cond (t:=v) (gF q) ?_;have:=x l m j (g.re (s5 n i p) bx g.mem (fa (b 3 (by simp)) (fa (b 5 (by simp)) (fa (b 6 (by simp)) (fa (b 7 (by simp)) (fa (b 26 (by simp)) f0))))));cases v<;>exact this
set_option maxRecDepth 100000 in
def al4{B:bw}{L:V ab}{pv p:Z->FN}{x F y:Y}(h:St S2 B (fm s L pv p i x F y 14) c a w)(I:te s)(M:i<L.length)(S:∀i b z,B.b4 i b z->i=1)(m:∀ch a d v w,Q (.panic ch) (BD a d v) w->Q (.panic ch) a w)(o:∀tm bx c a w,St S2 B ⟨190,tm,bx,2⟩ c a w->c.live 1->c.live 4->∀c' a' w',St S2 ⟨w,λq=>∃k,(k=1\/k=4)/\c.β k=q,λk q z=>k=1/\q=c.β 1/\z=c.sz 1,a.defers⟩ ⟨190, [(4,.bs 1 0 L.length)], [gB,⟨E7,.rows 18 L.length (λj=>W (j.beq i) (jV (nY s 14 y) 200) (jU L pv p j))⟩,gB,gB,gB],2⟩ c' a' w'->Q .ret a' w') :
  g5.wp AA (Exit.then (tf.wp AA Q) Q) a w:=by
 refine wp_block ?_;refine zJ (t:=36) (d:=37) (v:=false) (λK=>by kernel_rfl) rfl h λc a w h=>?_;refine zJ (t:=44) (d:=45) (v:=false) (λK=>by kernel_rfl) rfl h λc a w h=>?_;refine zJ (t:=50) (d:=51) (v:=false) (λK=>by kernel_rfl) rfl h λc a w h=>?_;refine zJ (t:=59) (d:=60) (v:=false) (λK=>by kernel_rfl) rfl h λc a w h=>?_;refine zJ (t:=71) (d:=72) (v:=false) (λK=>by kernel_rfl) rfl h λc a w h=>?_;refine zJ (t:=81) (d:=82) (v:=false) (λK=>by kernel_rfl) rfl h λc a w h=>?_;refine zJ (t:=91) (d:=92) (v:=false) (λK=>by kernel_rfl) rfl h λc a w h=>?_;refine zJ (t:=107) (d:=108) (v:=false) (λK=>by kernel_rfl) rfl h λc a w h=>?_;refine zJ (t:=117) (d:=118) (v:=false) (λK=>by kernel_rfl) rfl h λc a w h=>?_;refine zJ (t:=127) (d:=128) (v:=false) (λK=>by kernel_rfl) rfl h λc a w h=>?_;refine zJ (t:=137) (d:=138) (v:=false) (λK=>by kernel_rfl) rfl h λc a w h=>?_;refine zJ (t:=145) (d:=146) (v:=false) (λK=>by kernel_rfl) rfl h λc a w h=>?_;refine zJ (t:=153) (d:=154) (v:=false) (λK=>by kernel_rfl) rfl h λc a w h=>?_;refine zJ (t:=163) (d:=164) (v:=false) (λK=>by kernel_rfl) rfl h λc a w h=>?_;refine zJ (t:=171) (d:=172) (v:=true) (λK=>by kernel_rfl) rfl h λc a w h=>?_;rw[show nY s 14 y={ s with ai:=s.ai++[0] } from rfl]at o;refine apI (by kernel_rfl) I.len S (λch a d v w h=>m ch a d v w h) h λe b b' c a w h he P=>?_;refine dH (s:={ s with ai:=s.ai++[0] }) h (λc' Lw l cs O=>?_) (fieldsOf (iy _ _ _) (ik _ _ _) (iz _) (AC (Z0 _)) rfl rfl (Z0 _) AE) M λc' a' w' T H G=>o _ _ c a w h H G c' a' w' T;obtain⟨u,y1,rfl,D,r,y2,rfl,C,A⟩:=O;refine⟨u,_,rfl,D,r,_,rfl,?_,A⟩;obtain⟨U,cap,rfl,J,N⟩:=C;rcases N with ⟨R,f,_⟩|⟨_,h1,_⟩
 .obtain⟨arr,ty,q1,_,_,E⟩:=P f;refine⟨_,rfl,U,cap,by simp,by simpa using J,λ_=>⟨_,0,R,l e f (by omega) (by omega),arr,ty,_,q1,λj v hv=>?_⟩⟩;rw[BZ]at hv;cases g:(s.ai++[0])[j]? with
  |none=>rw[g]at hv;simp at hv
  |some n =>
   rw[g]at hv;obtain rfl:=AY hv;rw[AZ];exact E j n g
 .omega
set_option maxRecDepth 100000 in
def al5{B:bw}{L:V ab}{e:Z->U}{g j y:Y}{w:R}{Q:Exit->Act->R->Prop}(h:St S2 B (fm s L pv e i g j y 15) c a w)(k:i<L.length)(b:L.length<=1000000)(f:∀ch a d v w,Q (.panic ch) (BD a d v) w->Q (.panic ch) a w)(l:∀c a w,St S2 B (fm s L pv e i g j y 15) c a w->∀a' w' v,a'.tmps.getD 4 undef=v->a'.defers=a.defers->Ext w w'->T5 c L pv e i w w' v->Q .ret a' w'):g5.wp AA (Exit.then (tf.wp AA Q) Q) a w:=by
 refine wp_block ?_;refine zJ (t:=36) (d:=37) (v:=false) (λK=>by kernel_rfl) rfl h λc a w h=>?_;refine zJ (t:=44) (d:=45) (v:=false) (λK=>by kernel_rfl) rfl h λc a w h=>?_;refine zJ (t:=50) (d:=51) (v:=false) (λK=>by kernel_rfl) rfl h λc a w h=>?_;refine zJ (t:=59) (d:=60) (v:=false) (λK=>by kernel_rfl) rfl h λc a w h=>?_;refine zJ (t:=71) (d:=72) (v:=false) (λK=>by kernel_rfl) rfl h λc a w h=>?_;refine zJ (t:=81) (d:=82) (v:=false) (λK=>by kernel_rfl) rfl h λc a w h=>?_;refine zJ (t:=91) (d:=92) (v:=false) (λK=>by kernel_rfl) rfl h λc a w h=>?_;refine zJ (t:=107) (d:=108) (v:=false) (λK=>by kernel_rfl) rfl h λc a w h=>?_;refine zJ (t:=117) (d:=118) (v:=false) (λK=>by kernel_rfl) rfl h λc a w h=>?_;refine zJ (t:=127) (d:=128) (v:=false) (λK=>by kernel_rfl) rfl h λc a w h=>?_;refine zJ (t:=137) (d:=138) (v:=false) (λK=>by kernel_rfl) rfl h λc a w h=>?_;refine zJ (t:=145) (d:=146) (v:=false) (λK=>by kernel_rfl) rfl h λc a w h=>?_;refine zJ (t:=153) (d:=154) (v:=false) (λK=>by kernel_rfl) rfl h λc a w h=>?_;refine zJ (t:=163) (d:=164) (v:=false) (λK=>by kernel_rfl) rfl h λc a w h=>?_;refine zJ (t:=171) (d:=172) (v:=false) (λK=>by kernel_rfl) rfl h λc a w h=>?_;refine wp_seq (r7 (by kernel_rfl) (λch a d v w h=>f ch a d v w h) h k b λa' w' v p o n m=>?_);exact wp_ret (l c a w h a' w' v p o n m)
def Tc{w w':R}{len wd:Z}{f:Z->MV}{m:Ctx}(O:jq m w wd len f v)(g:∀q,eA v q->c.live k/\c.β k=q/\c.sz k=⟨Gh v*wd,wd⟩):aj c w' (.bs k 0 len) [v]:=by
 obtain⟨a,b,rfl,e,h⟩:=O;refine⟨a,b,rfl,e,h.imp (λ⟨q,arr,ty,d,e2,e3,e4⟩=>?_) id⟩;obtain⟨l,j,i⟩:=g q ⟨len,b,by rw[d]⟩;refine⟨by rw[d,j],l,?_⟩;rw[i];show 0+b*wd=b*wd;omega
def aer{B:bw}{w0 C A:R}{o:Sz}{L:V ab}{cap:Z}{d:Z->U}{r s y p:Y}{w:R}(I:mj S w0 C m L i b cap S1 pv d A)(H:B.b4=λk q z=>(oZ pv d i k/\1<=k)/\chβ m b pv d i k=q/\xk o cap pv d i k=z)(h:St S2 B ⟨190, [(3,.bp 0 0),(5,.bs 1 0 L.length),(6,.int .i64 i),(7,.bp 4 0),(26,.int .u8 p)],g! L pv d (L.getD i aB) r s y++[Hk L pv d i],4⟩ c a w) :
  St S2 ⟨B.w,B.X,λk q z=>k=1/\q=b/\z=⟨cap*18,18⟩,B.df⟩ (fm (L.getD i aB) L pv d i r s y p) c a w:=by
 have e:∀k,oZ pv d i k->1<=k->c.live k/\c.β k=chβ m b pv d i k/\c.sz k=xk o cap pv d i k:=λk g f=>h.mem.b4 k _ _ (by rw[H];exact⟨⟨g,f⟩,rfl,rfl⟩);have K:aj c w (.bs 2 0 (L.getD i aB).parts.length) [pv i]:=Tc (I.nest.t! i I.hi) λq j=>by
  obtain⟨g,f,l⟩:=e 2 (.inr (.inr (.inl ⟨rfl,q,j⟩))) (by omega);exact⟨g,by rw[f];exact mZ j,l⟩
 have M:aj c w (.bs 3 0 (L.getD i aB).base.length) [d i]:=Tc (I.nest.t? i I.hi) λq j=>by
  obtain⟨g,f,l⟩:=e 3 (.inr (.inr (.inr ⟨rfl,q,j⟩))) (by omega);exact⟨g,by rw[f];exact mZ j,l⟩
 have J:=h.mem.nr (i:=4) (bc:= .one (jU L pv d i)) (bc':= .one (sM (L.getD i aB))) rfl rfl λarr _ ⟨cs,g,f⟩=>by
  obtain⟨x,y1,rfl,G,v,y2,rfl,s2,u,y3,rfl,F,t,y4,rfl,E,D⟩:=g;obtain⟨rfl,_⟩:u=[pv i]/\_:=F;obtain⟨rfl,_⟩:t=[d i]/\_:=E;exact⟨_,⟨x,_,rfl,G,v,_,rfl,s2,_,_,rfl,K,_,_,rfl,M,D⟩,f⟩
 refine⟨J.yd _ _ λk q z ⟨n,O,N⟩=>?_,h.tm,h.size,h.defers,λk q z ⟨n,_,_⟩=>by rw[n];exact(show nH 2 1=FD from jI (by decide) (by omega))⟩;obtain⟨g,f,l⟩:=e 1 (.inr (.inl rfl)) (Z0 _);rw[n,O,N];exact⟨g,f,l⟩
def ad6{L:V ab}(hi:i<L.length):(L.take i++L.drop (i+1)).length=L.length-1:=by rw[A9,BF,C0];omega
def ad5{L:V ab}{j:Z}(hi:i<L.length)(hj:j<L.length-1):(L.take i++L.drop (i+1)).getD j aB=L.getD (if j<i then j else j+1) aB:=by
 grind
def af5{j:Z}:(if j<i then j else j+1)≠i:=by split<;>omega
set_option maxRecDepth 100000 in
set_option maxHeartbeats 1000000 in
def XN{S:FF->Prop}{o l y:FG}{args:FP FN}(hL:e8 L)(h0:0<L.length)(hc:∀s∈L,te s)(nn:0<=o/\o<=255)(aoK:0<=l)(hy: -9223372036854775808<=y/\y<=9223372036854775807)(hS:∀b,S b->b<w.heap.size)(hG:GW S w)(ha:cr (BU S) w [.sl 18 L.length (aF L 200),zM o l y] args.toList):Calls AA 11 args w λe w'=>Ext w w'/\(cj.ret (.sl 18 (gK L o l y).length (aF (gK L o l y) 200))).holds (BI S) w' e:=by
 have P:=St.start (n:=190) hS hG ha (by simp);have hlen:=hL.len;refine calls_of_wp EJ rfl ?_;refine wp_seq (rT (x:=cN nf) (cast (akg _ _ o l y _) λt a1 w1 h1=>?_) P);refine wp_seq (wp_region_list ?_);refine eG (E:=aK [] aC) (m:= .sl 18 L.length (aF L 200)) (p:=none) rfl rfl trivial h1 rfl λX W=>?_;have H:X.tmps.size=190:=W.size;have t8:cf t w1 (.sl 18 L.length (aF L 200)) (X.tmps.getD 8 undef):=(bF rfl).1 (show af t w1 (.sl 18 L.length (aF L 200)) (X.tmps.getD 8 undef) from W.tm 8);have F:=W.mem;obtain⟨l0,e3⟩:=eN (show af t w1 (.bp 0 0) (X.tmps.getD 3 undef) from W.tm 3);have apb:t.S (t.β 0):=F.WS _ ((F.hW _).2 ⟨0,_,l0,rfl,rfl,rfl⟩);refine tK rfl (f:=29) (args:=#[X.tmps.getD 8 undef]) (by simp[execOp,resolve,Deferred.ofValue,invoke,CF,EL])
  (YD hL h0 (λb hb=>F.fh b hb) F.gw ⟨_, [],rfl,cf.clean (r:=false) (λb hb=>hb) (λe=>by simp at e) rfl t8,rfl⟩) (λv A hC=>?_) (λch A hC=>?_) (λA hC=>?_)
 case refine_2=>obtain⟨_,_,_,_,_,C⟩:=hC;have:=C.res;simp at this
 case refine_3=>obtain⟨_,_,_,_,_,C⟩:=hC;have:=C.res;simp at this
 obtain⟨b,cap,S1,pv,B,C⟩:=hC;obtain rfl:v= .slice (E8 ⟨b,0,E9⟩) L.length cap:=by simpa using C.res
 have g9:(X.put (E8 9) (.slice (E8 ⟨b,0,E9⟩) L.length cap)).tmps.getD 9 undef= .slice (E8 ⟨b,0,E9⟩) L.length cap:=zn (by rw[H];decide);refine pR rfl (v:= .slice (E8 ⟨b,0,E9⟩) L.length cap) (by simp only[execOp,show CF _ (.tmp 9)=_ from g9];simp) λa4 U=>?_;have ao0:a4.tmps.size=190:=by rw[U];simp[BD,H]
 have g3:a4.tmps.getD 3 undef= .pointer (E8 ⟨t.β 0,0,E9⟩):=by rw[U,vC _ (by simp),vC _ (by simp)];exact e3
 have anF:a4.tmps.getD 5 undef= .slice (E8 ⟨b,0,E9⟩) L.length cap:=by rw[U];exact zn (by simp[BD,H])
 have gd:a4.defers=[]:=by rw[U];exact W.defers
 refine wpList_nil ?_;clear U g9
 let i:=o.toNat%L.length
 have G:i<L.length:=AG _ h0;have V:=F.fresh 0 l0;have ash:=F.ext.size;have I:mj S w w1 (t.β 0) L i b cap S1 pv B A:=⟨F.ext.plain.trans C.ext,F.ext.size,⟨V.2.1,V.1.elim id λh=>h.elim⟩,C.sub _ apb,λq u=>C.sub q ((F.hS q).2 (.inl u)),hS,C.hb,by
  obtain⟨arr,ty,q1,_⟩:=C.box;exact(BE.1 q1).1,C.ext.size,C.nest,G⟩
 have UU:∀g,nj g=FD->¬S1 g/\g≠b/\g<A.heap.size/\c! A g 0 ((iS g).map (DT (vw g))):=λg hg=>by
  obtain⟨q1,q2,arr,ty,fr,q3,q4⟩:=F.gw g hg;have:=C.hb;have:=C.ext.size;exact⟨λh=>(C.sup g h).elim q1 λh=>by omega,by omega,by omega,arr,ty,fr,by rw[C.ext.block g q2];exact q3,q4⟩
 have hz:∃arr ty,A.heap[t.β 0]? =E8 (.cells arr ty (0,0))/\arr.size=(t.sz 0).n/\(t.sz 0).wd=0/\arr[0]? =E8 (.int .u8 o)/\arr[1]? =E8 (.int .u8 l)/\arr[2]? =E8 (.int .i64 y):=by
  obtain⟨arr,ty,q1,q2,q3,cs,q4,q5⟩:=F.box 0 _ l0 rfl;obtain⟨x1,y1,rfl,Z,x2,y2,rfl,s2,x3,y3,rfl,Y,s4⟩:=q4;have Z:x1=[.int .u8 o]:=Z;have s2:x2=[.int .u8 l]:=s2;have Y:x3=[.int .i64 y]:=Y;subst Z;subst s2;subst Y;exact⟨arr,ty,by rw[C.ext.block _ V.2.1];exact q1,q2,q3,q5 0 _ rfl,q5 1 _ rfl,q5 2 _ rfl⟩
 have hO:=aeq I C.box hz UU g3 anF C.jx ao0;rw[gd]at hO;clear h1 W F t8 P ha;refine wp_seq (rT (x:=cN (aX (aX nf))) (cast (ajI _ _ _ (L.getD i aB) o l y _ _ rfl) (aJ beq_iff_eq (λz=>FK z (by omega)) λ_ c5 a5 w5 O=>?_)) hO);have anm:FI (FH FA o) (L.length:FG)=(i:FG):=by
  rw[aV (by omega) (by omega)]
  grind
 refine wp_seq (rT (x:=cN (aX (aX (aX nf)))) (cast (ajJ _ _ _ (L.getD i aB) o l y _) ⟨by omega,λc6 a6 w6 T=>?_⟩) (O.re [(3,.bp 0 0),(5,.bs 1 0 L.length)] _ O.mem (fa (O.tm 3) (fa (O.tm 5) f0))));rw[anm]at T;refine wp_seq (rT (x:=cN (aX (aX (aX (aX nf))))) (cast (ajK _ _ _ (L.getD i aB) o l y i _ _ rfl _ rfl) ⟨by omega,by rw[Z8];exact G,λaqu a7 w7 D=>?_⟩) (T.re [(3,.bp 0 0),(5,.bs 1 0 L.length),(6,.int .i64 i)] _ T.mem (fa (T.tm 3) (fa (T.tm 5) (fa (T.tm 6) f0)))));rw[Z8]at D;refine wp_seq (wp_seq (rT (x:=cN (cN Hj)) (cast (ajL _ _ _ (L.getD i aB) o l y i _) ⟨by omega,λc8 a8 w8 N=>?_⟩) (D.re [(3,.bp 0 0),(5,.bs 1 0 L.length),(6,.int .i64 i),(7,.bp 4 0)] (g! L pv B (L.getD i aB) o l y++[Hk L pv B i]) D.mem (fa (D.tm 3) (fa (D.tm 5) (fa (D.tm 6) (fa (D.tm 7) f0)))))));have h9:=aer I rfl (N.re [(3,.bp 0 0),(5,.bs 1 0 L.length),(6,.int .i64 i),(7,.bp 4 0),(26,.int .u8 (FI l 16))] _ N.mem (fa (N.tm 3) (fa (N.tm 5) (fa (N.tm 6) (fa (N.tm 7) (fa (N.tm 26) f0))))));clear O T D N hO hz UU;have M:∀q,(∃k,oZ pv B i k/\chβ (t.β 0) b pv B i k=q)->w.heap.size<=q:=λq u=>(I.X1 u).1;have K5:∀q,S q->s3 (t.β 0) b pv B i S1 q:=λq u=>⟨I.sub q u,λK=>by have:=hS q u;have:=M q K;omega⟩;have hs:te (L.getD i aB):=hc _ (by rw[AB,AI G,Option.getD_some];exact BQ G);have aoH:0<=FI l 16/\FI l 16<16:=by rw[Int.tmod_eq_emod_of_nonneg aoK];omega
 by_cases J:FI l 16=15
 .rw[J]at h9;have eL:gK L o l y=L.take i++L.drop (i+1):=by unfold gK;rw[FT J]
  refine al5 h9 G hlen (λch a d v w h=>by cases d<;>exact h) λc a R h a' w' v e1 e2 e3 U=>?_;have hU:∀q,q<A.heap.size->¬na (t.β 0) b pv B i q->w'.heap[q]? =A.heap[q]? :=λq u K=>(e3.block q (AP u h.mem.ext.size)).trans (h.mem.ext.block q u K);have hr:=I.rest hU;have hE:=(dp.ext (b:=⟨A,_,_, []⟩) I.ext h.mem.ext M).trans e3;refine⟨e2.trans h.defers,_,S? a' w',hE,?_⟩;rw[e1,eL];obtain⟨a0,td,rfl,aoc,aoP⟩:=U;have hn:=ad6 G;refine aT rfl (by simp) rfl ⟨a0,td,by rw[hn],by rw[hn];exact aoc,λQ=>?_⟩;rw[hn]at Q;obtain⟨b',f1,f2,f3⟩:=aoP Q;have jw:¬S b':=λK=>by
   have h3:=hS b' K;have h4:=I.ext.size;have O:=h.mem.ext.size;have O:A.heap.size<=R.heap.size:=O;rcases f2 with f2|f2
   .obtain⟨_,g2,_⟩:=h.mem.b4 1 _ _ ⟨rfl,rfl,rfl⟩;have:=I.hb;have:=I.sz;omega
   .omega
  refine⟨b',0,f1,jw,λj hj=>?_⟩;rw[hn]at hj;obtain⟨cs,r1,r2,r3⟩:=f3 j hj;have Vd:(if j<i then j else j+1)<L.length/\(if j<i then j else j+1)≠i:=⟨Rz G hj,af5⟩;have ano:=ad5 G hj;refine⟨cs,r2,?_,by rw[AZ];exact r3⟩;obtain⟨q1,q2⟩:=hr _ Vd.1 Vd.2;unfold aF;rw[ano];generalize (if j<i then j else j+1)=jj at *;have r4:=B4 (⟨λq _ u=>(h.mem.hS q).2 (.inl (K5 q u)),λ_ _ h=>h,λ_ h=>h.elim,λq u _=>e3.block q u,λ_ _ h=>(h trivial).elim⟩:bg c.elem (BI S).elem R w') _ _ r1;obtain⟨x1,y1,rfl,Z,x2,y2,rfl,s2,x3,y3,rfl,Y,x4,y4,rfl,s4,apP⟩:=r4;obtain⟨rfl,_⟩:x3=[pv jj]/\_:=Y;obtain⟨rfl,_⟩:x4=[B jj]/\_:=s4;exact⟨x1,_,rfl,Z,x2,_,rfl,s2,_,_,rfl,q1,_,_,rfl,q2,apP⟩
 .have eL:gK L o l y=L.set i (nY (L.getD i aB) (FI l 16) y):=by unfold gK;rw[if_neg J]
  have hQ:∀tm bx c a R,St (s3 (t.β 0) b pv B i S1) ⟨A,λq=>∃k,oZ pv B i k/\chβ (t.β 0) b pv B i k=q,λk q z=>k=1/\q=b/\z=⟨cap*18,18⟩, []⟩ ⟨190,tm,bx,2⟩ c a R->c.live 1->c.live 4->∀c' a' w',St (s3 (t.β 0) b pv B i S1) ⟨R,λq=>∃k,(k=1\/k=4)/\c.β k=q,λk q z=>k=1/\q=c.β 1/\z=c.sz 1,a.defers⟩
    ⟨190, [(4,.bs 1 0 L.length)], [gB,⟨E7,.rows 18 L.length (λj=>cond (j.beq i) (jV (nY (L.getD i aB) (FI l 16) y) 200) (jU L pv B j))⟩,gB,gB,gB],2⟩ c' a' w'->
    bodyPost AA B3 (λe w'=>Ext w w'/\(cj.ret (.sl 18 (gK L o l y).length (aF (gK L o l y) 200))).holds (BI S) w' e) .ret a' w':=λtm bx c a R h l1 l4 c' a' w' D=>by
   have nm:∀k,(k=1\/k=4)->A.heap.size<=c.β k\/na (t.β 0) b pv B i (c.β k):=λk hk=>by
    rcases hk with rfl|rfl
    .exact(h.mem.fresh 1 l1).1
    .exact(h.mem.fresh 4 l4).1
   have Hy:∀q,(∃k,(k=1\/k=4)/\c.β k=q)->w.heap.size<=q:=λq ⟨k,hk,e⟩=>by
    have h4:=I.ext.size;rcases nm k hk with h|h
    .omega
    .have:=M _ h;omega
   have hU:∀q,q<A.heap.size->¬na (t.β 0) b pv B i q->w'.heap[q]? =A.heap[q]? :=λq u K=>(D.mem.ext.block q (AP u h.mem.ext.size) λ⟨k,hk,e⟩=>by
    grind).trans (h.mem.ext.block q u K)
   refine⟨D.defers.trans h.defers,_,S? a' w',dp.ext (b:=⟨R,_,_,a.defers⟩) (dp.ext (b:=⟨A,_,_, []⟩) I.ext h.mem.ext M) D.mem.ext Hy,?_⟩;rw[eL];exact aeu D K5 (λK=>by have:=hS _ K;have:=Hy _ ⟨1,.inl rfl,rfl⟩;omega) G (I.rest hU)
  by_cases aoG:FI l 16=14
  .rw[aoG]at h9 hQ;exact al4 h9 hs G (λk q z h=>h.1) (λch a d v w h=>by cases d<;>exact h) hQ
  .exact aev h9 aoH.1 (by omega) hs hy G hQ
def xD:aG
 |[.sl 18 0 f]=>E8 (E9,.ret (.sl 18 0 f))
 |_=>E9
def T!:Z->MS->o bt:=λ_ _=>E8 (.pq 1)
def Yg(f:Z->MV):((0<=0/\(0+AO (bh.rows 18 0 f))*288<=140737488355328)/\0+AO (bh.rows 18 0 f)<=0+0/\18=18/\0+AO (bh.rows 18 0 f)=0/\ak (0+AO (bh.rows 18 0 f)) (λq=>bif A4 q 0 then aU [] q else f (q-0)) f)=aI (aK [] T!) C6 [.sl 18 0 f] (BJ (.ret (.sl 18 0 f))):=by kernel_rfl
def ZX:bC C6 xD:=by
 intro ms p r h hp;unfold xD at h;split at h
 .rename_i f;cases h;refine⟨aK [] T!,?_⟩;rw[<-Yg f];exact⟨⟨Z9 _,by show(0+0)*288<=_;omega⟩,Z0 _,rfl,rfl,⟨λi a=>M a (AL i)⟩⟩
 .simp at h
def H8:ah AA:=⟨29,xD,λargs w=>EL args w,aO bQ EI xD ZX⟩
def afP(f:Z->MV)(a b y:Y):(18=18/\0=0/\ak 0 f f)=aI (aK [H8] aC) B3 [.sl 18 0 f,zM a b y] (BJ (.ret (.sl 18 0 f))):=by kernel_rfl
structure qw (n:Nat) (f:Nat->MV) (st pt y:Int):Prop where
 ok:cw n f
 ch:∀s∈aE n f,te s
 asS:0<=st/\st<=255
 asG:0<=pt
 y0: -9223372036854775808<=y/\y<=9223372036854775807
def Kf:aG
 |[.sl 18 n f,.st [.int .u8 a,.int .u8 b,.int .i64 y]]=>E8 (E8 (qw n f a b y),.ret (.sl 18 (gK (aE n f) a b y).length (aF (gK (aE n f) a b y) 200)))
 |_=>E9
def aew(a b y:Y):gK [] a b y=[]:=by
 unfold gK;split
 .rw[List.take_nil,List.drop_nil];rfl
 .rfl
def J5:aG
 |[.sl 18 0 f,.st [.int .u8 a,.int .u8 b,.int .i64 y]]=>E8 (E8 (0=0*(a+b+y)),.ret (.sl 18 0 f))
 |_=>E9
def ajp:bC B3 J5:=by
 intro ms p r h hp;unfold J5 at h;split at h
 .rename_i f a b y;cases h;refine⟨aK [H8] aC,?_⟩;show aI (aK [H8] aC) B3 [.sl 18 0 f,zM a b y] (BJ (.ret (.sl 18 0 f)));rw[<-afP f a b y];exact⟨rfl,rfl,AE⟩
 .simp at h
def aaE(S:Z->Prop)(w:R)(m:V MV)(args:N U)(p:bq)(r:cj)(j:Kf m=E8 (p,r))(u:p.holds)(q:∀b,S b->b<w.heap.size)(s:GW S w)(o:cr (BU S) w m args.toList):Calls AA 11 args w λe w'=>Ext w w'/\r.holds (BI S) w' e:=by
 unfold Kf at j;split at j
 .rename_i n f d g y;simp only[Z1,Z2]at j;obtain⟨rfl,rfl⟩:=j;obtain⟨t,C,B,A,z⟩:qw n f d g y:=u;have k:ft 0 (BU S) (BU S):=⟨λ_ h=>h,λ_ h=>h,λi hi=>by omega⟩;by_cases D:n=0
  .subst D;have:=aO bQ EJ J5 ajp S w [.sl 18 0 f,.st [.int .u8 d,.int .u8 g,.int .i64 y]] args _ _ rfl (show 0=0*(d+g+y) by omega) q s o;rw[show aE 0 f=[] from rfl,aew];refine this.mono λe w' ⟨q1,l⟩=>⟨q1,?_⟩;cases e with
   |returned v =>
    obtain⟨a,cap,e,x,_⟩:=ru (show af (BI S) w' (.sl 18 0 f) v from l);rw[e];exact aT rfl (by simp) rfl ⟨a,cap,rfl,x,λh=>M h (EF 0)⟩
   |panicked c=>exact l.elim
   |outgrown=>exact l.elim
  .exact XN t.T (by rw[dD];omega) C B A z q s (pH k _ _ _ (show lB.di 0 [.sl 18 n f,zM d g y] [.sl 18 (aE n f).length (aF (aE n f) 200),zM d g y] from ⟨t.le,⟨rfl,rfl,rfl,⟨⟩⟩,⟨⟩⟩) o)
 .simp at j
def alY:ah AA:=⟨11,Kf,λargs w=>Tryz.call11 args w,aaE⟩
structure i? (m:Nat) (s:ab):Prop where
 wd:Wd s.ai
 len:s.ai.length<=2+m
 parts:s.parts.length<=87+m
 base:s.base.length<=990+m
 sm:HO (64+4*m) s
def ahU(h:i? m s)(hm:m<=3):ff s:=⟨h.wd,by have:=h.len;omega,by have:=h.parts;omega,by have:=h.base;omega⟩
def tF{x a:Z}(h:x<2^a)(c:a<=b:=by omega):x<2^b:=AP h (CE (by omega) c)
def alN(h:i? m s)(hm:m<=2):te s :=
 ⟨h.wd,by have:=h.len;omega,by have:=h.parts;omega,by have:=h.base;omega,
  ⟨tF h.sm.ca,tF h.sm.cb,tF h.sm.cm,tF h.sm.x,tF h.sm.y,tF h.sm.ord,λb a=>tF (h.sm.base b a)⟩⟩
def zP{c y:Y}(hc:c.natAbs<2^(64+4*m))(hy: -9223372036854775808<=y/\y<=9223372036854775807):(c+y).natAbs<2^(64+4*(m+1)):=by
 grind
def mul_two{c y:Y}(hc:c.natAbs<2^(64+4*m))(a:y.natAbs<=4):(c*y).natAbs<2^(64+4*(m+1)):=by
 have e:2^(64+4*(m+1))=2^(64+4*m)*16:=by rw[show 64+4*(m+1)=(64+4*m)+4 by omega,EW]
 rw[e,DC];have h1:=CH c.natAbs a;omega
def lL{c:Y}(a:c.natAbs<2^(64+4*m)):c.natAbs<2^(64+4*(m+1)):=tF a
def I!(k K:Z)(v:Y)(g:O)(h:k<=K:=by omega):(sg g (wv (bT k v))).natAbs<4294967296^K:=by
 have a:=fV (gY k v);have h0:=bA (gY k v);rw[iB]at a;have e1:((4294967296^k:Z):Y)=4294967296^k:=Int.natCast_pow ..;have e2:4294967296^k<=4294967296^K:=CE (by omega) h
 grind [sg]
def Rq{c:O}{a b:Y}{Z:FF}(ha:a.natAbs<Z)(hb:b.natAbs<Z):(W c a b).natAbs<Z:=by
 grind
def afW{g:O}{l:V Y}{y:Y}(hy: -9223372036854775808<=y/\y<=9223372036854775807)(m:Z)(hl:l.length<=2+m):(aA (iZ g l y).natAbs).length<=2+(m+1):=by
 have h2:(aA y.natAbs).length<=2:=cJ;refine cJ ?_;unfold iZ;exact Rq (I! _ _ _ _) (Rq (I! _ _ _ _) (I! _ _ _ _))
def af4{l:V Y}{v x:Y}(h:x∈l.set i v):x∈l\/x=v:=(BX h)
def aad{l:V Y}(h:∀b∈l,b.natAbs<2^(64+4*m)):(l.getD 0 0).natAbs<2^(64+4*m):=by
 grind
def amu{y:Y}(hy: -9223372036854775808<=y/\y<=9223372036854775807)(m:Z):y.natAbs<2^(64+4*(m+1)) :=
 tF (show y.natAbs<2^64 by omega)
def lD{c:Prop}[Decidable c]{a b:ab}(h1:i? m a)(h2:i? m b):i? m (if c then a else b):=by
 grind
theorem ahT(h:i? m s)(p:Y){y:Y}(d: -9223372036854775808<=y/\y<=9223372036854775807):i? (m+1) (nY s p y):=by
 have f:=h.len;have hp:=h.parts;have c:=h.base;have a:HO (64+4*(m+1)) s:=⟨lL h.sm.ca,lL h.sm.cb,lL h.sm.cm,lL h.sm.x,lL h.sm.y,lL h.sm.ord,λb c=>lL (h.sm.base b c)⟩;have e:(I y 5).natAbs<=4:=by
  grind
 unfold nY;refine lD ⟨aM _,afW d m f,by show s.parts.length<=_;omega,by show s.base.length<=_;omega,a.ca,a.cb,a.cm,a.x,a.y,a.ord,a.base⟩ ?_;refine lD ⟨h.wd,by show s.ai.length<=_;omega,by show s.parts.length<=_;omega,by show s.base.length<=_;omega,a.ca,a.cb,a.cm,a.x,a.y,a.ord,a.base⟩ ?_;refine lD ⟨h.wd,by show s.ai.length<=_;omega,by show(s.parts++[y]).length<=_;rw[A9,CA];omega,by show s.base.length<=_;omega,a.ca,a.cb,a.cm,a.x,a.y,a.ord,a.base⟩ ?_;refine lD ⟨h.wd,by show s.ai.length<=_;omega,by show(s.parts.set 0 _).length<=_;rw[AV];omega,by show s.base.length<=_;omega,a.ca,a.cb,a.cm,a.x,a.y,a.ord,a.base⟩ ?_;refine lD ⟨h.wd,by show s.ai.length<=_;omega,by show(s.parts.take _).length<=_;rw[BF];omega,by show s.base.length<=_;omega,a.ca,a.cb,a.cm,a.x,a.y,a.ord,a.base⟩ ?_;refine lD ⟨h.wd,by show s.ai.length<=_;omega,by show s.parts.length<=_;omega,by show(s.base++[y]).length<=_;rw[A9,CA];omega,a.ca,a.cb,a.cm,a.x,a.y,a.ord,λb c=>(AU.1 c).elim (a.base b) (λc=>by rw[AJ.1 c];exact amu d m)⟩ ?_;refine lD ⟨h.wd,by show s.ai.length<=_;omega,by show s.parts.length<=_;omega,by show(s.base.set 0 _).length<=_;rw[AV];omega,a.ca,a.cb,a.cm,a.x,a.y,a.ord,λb c=>(af4 c).elim (a.base b) (λc=>by rw[c];exact zP (aad h.sm.base) d)⟩ ?_;refine lD ⟨h.wd,by show s.ai.length<=_;omega,by show s.parts.length<=_;omega,by show s.base.length<=_;omega,zP h.sm.ca d,a.cb,a.cm,a.x,a.y,a.ord,a.base⟩ ?_;refine lD ⟨h.wd,by show s.ai.length<=_;omega,by show s.parts.length<=_;omega,by show s.base.length<=_;omega,a.ca,zP h.sm.cb d,a.cm,a.x,a.y,a.ord,a.base⟩ ?_;refine lD ⟨h.wd,by show s.ai.length<=_;omega,by show s.parts.length<=_;omega,by show s.base.length<=_;omega,a.ca,a.cb,a.cm,zP h.sm.x d,a.y,a.ord,a.base⟩ ?_;refine lD ⟨h.wd,by show s.ai.length<=_;omega,by show s.parts.length<=_;omega,by show s.base.length<=_;omega,a.ca,a.cb,a.cm,a.x,by show(-s.y).natAbs<_;rw[Int.natAbs_neg];exact a.y,a.ord,a.base⟩ ?_;refine lD ⟨h.wd,by show s.ai.length<=_;omega,by show s.parts.length<=_;omega,by show s.base.length<=_;omega,a.ca,a.cb,a.cm,a.x,a.y,a.ord,a.base⟩ ?_;refine lD ⟨h.wd,by show s.ai.length<=_;omega,by show s.parts.length<=_;omega,by show s.base.length<=_;omega,a.ca,a.cb,a.cm,a.x,a.y,mul_two h.sm.ord e,a.base⟩ ?_;refine lD ⟨h.wd,by show s.ai.length<=_;omega,by show s.parts.length<=_;omega,by show s.base.length<=_;omega,a.ca,a.cb,a.cm,a.x,a.y,zP h.sm.ord d,a.base⟩ ?_;exact⟨h.wd.append (Wd.one (by omega)),by show(s.ai++[0]).length<=_;rw[A9,CA];omega,by show s.parts.length<=_;omega,by show s.base.length<=_;omega,a.ca,a.cb,a.cm,a.x,a.y,a.ord,a.base⟩
theorem alO(h:i? m s):i? (m+1) s :=
 ⟨h.wd,by have:=h.len;omega,by have:=h.parts;omega,by have:=h.base;omega,lL h.sm.ca,lL h.sm.cb,lL h.sm.cm,lL h.sm.x,lL h.sm.y,lL h.sm.ord,λb a=>lL (h.sm.base b a)⟩
def Jv{L:V ab}(h:∀s∈L,i? m s)(a p:Y){y:Y}(hy: -9223372036854775808<=y/\y<=9223372036854775807):∀s∈gK L a p y,i? (m+1) s:=by
 grind [gK,alO,DJ,DK,BX,BA,List.eq_nil_of_length_eq_zero,ahT,AG,AI,BQ]
def aa5(L:V ab)(a p y:Y):(gK L a p y).length<=L.length:=by
 grind [gK,A9,BF,C0,AV]
structure jk (N:Nat) (s:ab):Prop where
 lv:i? 0 s
 cm:s.cm=0\/s.cm=N
def Ey{n:Z}(h:n<18446744073709551616:=by omega):(aA n).length<=2+0:=cJ
def LO(k:Y)(g:O)(m p b:V Y)(a:∀x∈b,x.natAbs<18446744073709551616):HO 64 ⟨k,g,m,p,b,0,0,0,0,0,E7,0⟩:=by
 have h:(0:Y).natAbs<2^64:=by decide
 exact⟨h,h,h,h,h,h,a⟩
theorem JP(N:Z){z:Y}(h:0<=z)(h2:z<18446744073709551616):jk N (bX z) :=
 ⟨⟨aM _,Ey,Z9 _,Z9 _,LO _ _ _ _ _ λ_ h=>M h AX⟩,.inl rfl⟩
theorem ahN(n:Z)(q:Y):((gO n q:Z):Y).natAbs<18446744073709551616:=by
 grind [AQ,Qa,Fa,fY]
def RZ(a:1<=m:=by omega)(c:m<1099511627776:=by omega):(aL m).length<=40:=by
 have h:=lY a;rw[<-fJ]at h;have h3:=qP (aL m) λx b=>by
  rw[fJ]at b;obtain⟨p,rfl,a,_⟩:=(fP a).mem x b;have:=a.lt;omega
 have:=qg (n:=m) (by omega) c;omega
def Tk(N n:Z)(hn:2<=n)(ej:n<1099511627776)(pr:V ab->Y->V ab)(M:V ab):jk N (uX n (gx pr M (aL (n-1))) ((aL (n-1)).map λq=>(gO n q:Y))):=by
 have hl:=RZ (m:=n-1);refine⟨⟨aM _,Ey,?_,?_,LO _ _ _ _ _ λx hx=>?_⟩,.inl rfl⟩
 .show(gx pr M (aL (n-1))).length<=_;rw[Ci];omega
 .show(List.map _ (aL (n-1))).length<=_
  grind
 grind [ahN]
def L3(N:Z)(pr:V ab->Y->V ab)(x:Y):Prop:=∀L:V ab,(∀s∈L,jk N s)->∀s∈pr L x,jk N s
def Ew(N:Z)(pr:V ab->Y->V ab):∀(q:V Y) (L:V ab),(∀x∈q,L3 N pr x)->(∀s∈L,jk N s)->∀s∈pT pr L q,jk N s
 |[],_,_,a=>a
 |x::r,L,h,a=>Ew N pr r (pr L x) (λy b=>h y (AF _ b)) (h x (AD ..) L a)
theorem sP{N:Z}{L:V ab}{b:ab}(c:∀s∈L,jk N s)(h:jk N b):∀s∈L++[b],jk N s:=λs a =>
 (AU.1 a).elim (c s) λa=>by rw[AJ.1 a];exact h
def Cr{n:Z}(h:1<=n){x:Y}(a:x∈aL n):2<=x/\x<=n:=by
 rw[fJ]at a;obtain⟨p,rfl,c,b,_⟩:=(fP h).mem x a;have:=c.lt;have:=A2 (by omega) b;omega
def Co(N:Z):∀(f:Z) (z:Y),2<=z->z<1099511627776->L3 N (eK f) z
 |0,z,h,h2,L,a=>sP a (JP N (by omega) (by omega))
 |f+1,z,h,h2,L,a=>by
  unfold eK;split
  .grind [sP,JP]
  .unfold ke;exact sP (Ew N _ _ L (λx b=>Co N f x (Cr (show 1<=z.toNat-1 by omega) b).1 (by have:=(Cr (show 1<=z.toNat-1 by omega) b).2;omega)) a) (Tk N _ (by omega) (by omega) _ _)
def Ha{N:Z}:∀s∈([]:V ab),jk N s:=λ_ h=>M h AX
def afr(N f n:Z)(b:2<=n:=by omega)(ej:n<1099511627776:=by omega):∀s∈m6 f [] n,jk N s:=by
 rw[Cm];unfold ke;exact sP (Ew N _ _ [] (λx a=>by have:=Cr (by omega) a;exact Co N f x (by omega) (by omega)) Ha) (Tk N n b ej _ _)
def afs(N f n b:Z)(hn:2<=n:=by omega)(ej:n<1099511627770:=by omega):∀s∈qB f [] n b,jk N s:=by
 rw[I1];unfold qq;have hl:=RZ (m:=n+1);refine sP (by rw[nX];exact Ew N _ _ [] (λx a=>by have:=Cr (by omega) a;exact Co N f x (by omega) (by omega)) Ha) ⟨⟨aM _,Ey,?_,by show 2<=990;omega,LO _ _ _ _ _ λx a=>?_⟩,.inl rfl⟩
 .show(er f [] (aL (n+1))).length<=_;rw[yM,Ci];omega
 .simp only[B0,AX,or_false]at a;rcases a with rfl|rfl
  .unfold fx;rw[AQ];rcases BA (n-1)with e|e
   .omega
   .have:=AG (mw n b (jA f [] (aL (n+1))) (er f [] (aL (n+1)))) e;omega
  .unfold fy;rw[AQ];have:=AG (1+mw n b (jA f [] (aL (n+1))) (er f [] (aL (n+1)))/7) (show 0<n by omega);omega
def ahY{n:Z}(c:aw n)(f:7<=n)(h2:n<1512)(d:Z):∀s∈ka [] n d,jk n s:=by
 rw[I?];generalize m? [] n d=K;have R:=Eb c f (by omega) K;have hle:jQ n K<=1+2*n:=by unfold jQ;rw[rY];exact JE c _ _ n
 have aoM:=R.HJ;have hq:=R.q.lt;have e:iI [] n K=([]++[bX (xU n K)])++[lR n 0 (q8 n K) (tT n K) (ee n K) (dx n K) (jQ n K)]:=rfl;rw[e];have ha:=R.a;have hb:=R.b;have hx:=R.x;have hy:=R.y;refine sP (sP Ha (JP n (by omega) (by omega))) ⟨⟨aM _,Ey,by show 1<=87;omega,Z9 _,?_,?_,?_,?_,?_,?_,λ_ h=>M h AX⟩,.inr rfl⟩
 all_goals (show(Int.ofNat _).natAbs<2^64;rw[Int.ofNat_eq_natCast,AQ])
 all_goals omega
def Tj(a n f:Z):∀s∈lP a n f,jk (ed a n) s:=by
 unfold lP;split
 .rename_i h;have e:ed a n=fS (n%65000):=by unfold ed;rw[T h]
  have c:=AG n (show 0<65000 by omega);have k:=sR (m:=n%65000) (q:=65003) (by omega) (by omega) E? (by unfold fk;omega);have:=k.hi;have k5:=k.pr.lt;rw[e,pO];exact Co _ 0 _ (by omega) (by omega) [] Ha
 .split
  .rename_i b h;have e:ed a n=fS (3+n%67108864):=by unfold ed;rw[G b,T h]
   have c:=AG n (show 0<67108864 by omega);obtain⟨q,q1,_,k⟩:=sS (m:=3+n%67108864);rw[e];have i:=k.hi;have g:=k.lo;exact afr _ 10 _
  .split
   .rename_i b d h;have e:ed a n=fS (5+n%1048576):=by unfold ed;rw[G b,G d,T h]
    have c:=AG n (show 0<1048576 by omega);obtain⟨q,_,q1,k⟩:=sS (m:=5+n%1048576);rw[e];have i:=k.hi;have g:=k.lo;exact afs _ 4 _ f
   .rename_i b d h;have e:ed a n=fS (7+n%1500):=by unfold ed;rw[G b,G d,G h]
    have c:=AG n (show 0<1500 by omega);have j:gX 1511=FD:=zS (oG (by omega) (by omega) (by decide +kernel)) (by decide);have k:=sR (m:=7+n%1500) (q:=1511) (by omega) (by omega) j (by unfold fk;omega);rw[e];have i:=k.hi;have g:=k.lo;exact ahY k.pr (by omega) (by omega) f
def afQ(n:Z)(f:Z->MV)(x y:Y):(cw n f/\my (aE n f)=x/\fw (aE n f)=y/\X)=aI (aK [zW] aC) E4 [.sl 18 n f] (BJ (.ret (.st [.int .i64 x,.int .i64 y]))):=by kernel_rfl
def xC:aG
 |[.sl 18 n f]=>E8 (E8 (cw n f),.ret (.st [.int .i64 (my (aE n f)),.int .i64 (fw (aE n f))]))
 |_=>E9
def ZW:bC E4 xC:=by
 intro ms p r h a;unfold xC at h;split at h
 .rename_i n f;cases h;have b:cw n f:=a;refine⟨aK [zW] aC,?_⟩;rw[<-afQ n f (my (aE n f)) (fw (aE n f))];exact⟨b,rfl,rfl,⟨⟩⟩
 .simp at h
def YY:ah AA:=⟨12,xC,λargs w=>Tryz.call12 args w,aO bQ Tryz.func12 xC ZW⟩
def kH(l:V (V ab))(i:Z):MV:= .sl 18 (l.getD i []).length (aF (l.getD i []) 200)
def ri(y:Y):Prop:= -9223372036854775808<=y/\y<=9223372036854775807
def ji(y:Y):Prop:=0<=y/\y<=255
def xb{L:V ab}(h:∀s∈L,i? m s)(b:m<=3)(hl:L.length<=200):e8 L:=⟨by omega,λs a=>ahU (h s a) b⟩
def Ev{L:V ab}(h:∀s∈L,i? m s)(d:m<=2)(e:L.length<=200){s p y:Y}(a:ji s)(c:ji p)(b:ri y):qw L.length (aF L 200) s p y :=
 ⟨oE (xb h (by omega) e),by rw[j8];exact λs a=>alN (h s a) d,a,c.1,b⟩
structure HV (a n r:Int):Prop where
 a:0<=a/\a<=255
 n:0<=n/\n<=4294967295
 r:0<=r/\r<=65535
def alR(a n r:Z):∀s∈lP a n r,i? 0 s:=λs b=>(Tj a n r s b).lv
def JN{L:V ab}(h:L.length<=200)(s p y:Y):(gK L s p y).length<=200:=A1 (aa5 L s p y) h
def qZ(z:Y):Prop:=∃p:Z,z=p/\aw p
def Nd{a:Z}(h:1<=a*b):1<=b:=by
 rcases BA b with e|e
 .rw[e,CV]at h;omega
 .exact e
def Nv{q:Z}(a:2<=q):∀(f m:Z),m<=f->1<=m->∃k c,m=q^k*c/\¬q ∣ c
 |0,m,h,d=>by omega
 |f+1,m,h,d=>by
  by_cases b:q ∣ m
  .obtain⟨t,rfl⟩:=b;have g:=Nd d;have:=DN t a;obtain⟨k,c,e,i⟩:=Nv a f t (by omega) g;exact⟨k+1,c,by rw[CK,B1,<-e],i⟩
  .exact⟨0,m,by rw[EO,Nat.one_mul],b⟩
def agB(a:2<=q)(b:1<=m):∃k c,m=q^k*c/\¬q ∣ c/\kR (m:Y) q=((q^k:Z):Y):=by
 obtain⟨k,c,rfl,d⟩:=Nv a m m (Z0 _) b;exact⟨k,c,rfl,d,w9 a d (Nd b) k⟩
def X6(a:aw p)(b:aw q)(h:p≠q):BH p q=1:=a.nh λd=>(b.dv p d).elim (λe=>by have:=a.lt;omega) h
def I3{m K:Z}(t:1<=m):∀(l:V Y) (o:Z) (F:Y),m7 m l o=E8 F->l.Nodup->
  (∀x∈l,∃q:Z,x=q/\aw q/\BH o q=1/\∀k c,m=q^(k+1)*c->q^(k+1) ∣ K)->o ∣ K->∃f:Z,F=f/\f ∣ K
 |[],o,F,h,_,_,a=>⟨o,by cases h;rfl,a⟩
 |x::r,o,F,h,s,u,a=>by
  obtain⟨q,rfl,j,w,v⟩:=u x (AD ..);obtain⟨k,c,e,_,ev⟩:=agB j.lt t
  replace h:(if (m:Y)%(q:Y)=0 then m7 m r (o*kR m q)else E9)=E8 F:=h
  split at h
  .rw[ev,<-BS]at h;have g:q^k ∣ K:=by
    cases k with
    |zero=>exact C5 _
    |succ k=>exact v k c e
   refine I3 t r _ F h (D3.1 s).2 (λy i=>?_) (B9 (EZ k w) a g);obtain⟨p,rfl,n,d,b⟩:=u y (AF _ i);exact⟨p,rfl,n,E0 d (Nat.Coprime.pow_left k (X6 j n λe=>(D3.1 s).1 (by rw[e];exact i))),b⟩
  .cases h
def PS{n:Y}:∀ {c a:V Y},yU n c a=FD->c.length=a.length->∀x∈a,∃b,1<b/\gcd (fY b ((n-1)/x).natAbs n-1) n=1/\fY (fY b ((n-1)/x).natAbs n) x.natAbs n=1
 |_, [],_,_,x,hx=>by simp at hx
 |[],_::_,_,h,_,_=>by simp at h
 |b::c,q::a,h,d,x,hx=>by
  unfold yU at h;simp only[Z3,decide_eq_true_eq]at h;rcases B0.1 hx with rfl|hx
  .exact⟨b,h.1.1,h.2.1.1,h.2.1.2⟩
  .exact PS h.2.2 (by simpa using d) x hx
def Pp{a:Y}{n:Z}(h:gcd a n=1)(hp:1<p)(c:p ∣ n)(d:(p:Y) ∣ a):D:=by
 have b:(p:Y) ∣ ((gcd a n:Z):Y):=Int.dvd_coe_gcd d (A7.2 c);rw[h]at b;have:=A2 (by omega) (A7.1 b);omega
def Zj{n c:Z}{b:Y}(j:aw p)(d:p ∣ n)(o:n%2=1)(hn:2<n)(h:aw q)(hb:1<b)(e:n-1=q^(k+1)*c)(l:gcd (fY b (((n:Y)-1)/q).natAbs n-1) n=1)(u:fY (fY b (((n:Y)-1)/q).natAbs n) (q:Y).natAbs n=1):q^(k+1) ∣ p-1:=by
 obtain⟨a,rfl⟩:∃a:Z,b=a:=⟨b.toNat,by omega⟩;have f:=j.lt;have q2:=h.lt;have ex:(((n:Y)-1)/q).natAbs=q^k*c:=by
  rw[show(n:Y)-1=((n-1:Z):Y) by omega,e,<-C3,AQ,CK,B1,BM _ (by omega)]
 have cast:∀i:Z,fY (a:Y) i n=((a^i%n:Z):Y):=λi=>by simp[fY]
 rw[RA,AQ,ex,show q^k*c*q=q^(k+1)*c by rw[EP];grind,cast]at u;rw[ex,cast]at l;have g:a^(q^(k+1)*c)%p=1%p:=by
  have s:a^(q^(k+1)*c)%n=1:=by omega
  rw[<-CN _ d,s]
 have op:p%2=1:=by
  obtain⟨t,rfl⟩:=d;rcases C9 p with z|z
  .rw[Nat.mul_mod,z,EM]at o;omega
  .exact z
 have r:a%p≠0:=λz=>by
  rw[DM,z,Nat.zero_pow (by rw[<-e];omega),BG f]at g;simp at g
 refine P5 h g (by rw[Q3 j op r,BG f]) λz=>?_;refine Pp l f d ?_;have m:a^(q^k*c)%n%p=1:=by rw[CN _ d,z,BG f]
 generalize a^(q^k*c)%n=x at m;have:=D9 x p;refine⟨((x/p:Z):Y),?_⟩;rw[<-BS];omega
def Md{n f:Z}(c:1<n)(h:∀p,aw p->p ∣ n->f<=p)(hf:n<f*f):aw n:=by
 refine AM λw=>?_;obtain⟨p,b,a,hle⟩:=rI c w;have:=BO (h p b a) (h p b a);omega
def RQ{n:Y}(h:jS n 2=FD):∃N:Z,n=N/\2<N/\N%2=1:=by
 simp only[jS,decide_eq_true_eq]at h;exact⟨n.toNat,by omega,by omega,by omega⟩
def afq{n:Y}{base q:V Y}{v:O}(h:uW n base v q=FD)(w:∀x∈q,qZ x)(C:q.Nodup):qZ n:=by
 unfold uW at h;simp only[Z3]at h;obtain⟨g,_,h⟩:=h;obtain⟨N,rfl,E,g⟩:=RQ g;split at h
 .cases h
 .rename_i F t;simp only[Z3,decide_eq_true_eq]at h;obtain⟨hf,z,y⟩:=h;refine⟨N,rfl,?_⟩;rw[show(N:Y)-1=((N-1:Z):Y) by omega]at t;have key:∀p,aw p->p ∣ N->∃f:Z,F=f/\f ∣ p-1:=λp d a =>
   I3 (by omega) q 1 F t C (λx o=>by
    obtain⟨r,rfl,s⟩:=w x o;obtain⟨b,D,A,B⟩:=PS y z _ o;exact⟨r,rfl,s,D2 _,λk c e=>Zj d a g E s D e A B⟩) (C5 _)
  obtain⟨u,i,m⟩:=oC N N (Z0 _) (by omega);obtain⟨f,rfl,_⟩:=key u i m;have l:N<f*f:=by omega
  refine Md (by omega) (λp d a=>?_) l;obtain⟨f',e,j⟩:=key p d a;have e:f=f':=by omega
  have:=A2 (by have:=d.lt;omega) j;omega
def uU(p q:Y)(d:Z):∀i:Z,aN p q (i+d)*aN p q (i+1)-aN p q (i+d+1)*aN p q i=q^i*aN p q d
 |0=>by
  rw[AZ];show aN p q d*1-aN p q (d+1)*0=q^0*aN p q d;rw[DH];omega
 |i+1=>by
  have ih:=uU p q d i;have b:aN p q (i+1+1)=p*aN p q (i+1)-q*aN p q i:=rfl;have a:aN p q (i+1+d+1)=p*aN p q (i+d+1)-q*aN p q (i+d):=by rw[show i+1+d+1=i+d+2 by omega];rfl
  rw[show i+1+d=i+d+1 by omega]at a⊢;rw[b,a,B8]
  grind
def I2(d:aw p){a b:Y}(h:(p:Y) ∣ a*b):(p:Y) ∣ a\/(p:Y) ∣ b:=by
 have c:=Int.natAbs_dvd_natAbs.2 h;rw[DC,AQ]at c;exact(d.mul c).imp CQ.2 CQ.2
def zm{p:Z}(b:aw p){a:Y}:∀ {k:Z},(p:Y) ∣ a^k->(p:Y) ∣ a
 |0,h=>by
  rw[DH]at h;have:=CM (by omega) h;have:=b.lt;omega
 |k+1,h=>by
  rw[B8]at h;exact(I2 b h).elim (zm b) id
def abB(c:aw p){a b:Y}(e:¬(p:Y) ∣ b){d:Z}(g:(p:Y) ∣ aN a b i)(f:(p:Y) ∣ aN a b (i+d)):(p:Y) ∣ aN a b d:=by
 have h:(p:Y) ∣ b^i*aN a b d:=by
  rw[<-uU];exact DP (BK f (CW ..)) (BK g (C4 ..))
 exact(I2 c h).elim (λz=>M (zm c z) e) id
def ZL(t:aw p){a b:Y}(K:¬(p:Y) ∣ b):∃w,1<=w/\w<=p+1/\(p:Y) ∣ aN a b w:=by
 refine AM λB=>?_;have l:∀k,1<=k->k<=p+1->¬(p:Y) ∣ aN a b k:=λk g c G=>B ⟨k,g,c,G⟩;have p2:=t.lt
 have inv:∀k,1<=k->k<=p+1->∃r:Z,r<p/\(p:Y) ∣ aN a b (k+1)-r*aN a b k:=λk g c=>by
  have J:gcd (aN a b k) p=1:=by
   have:=t.nh (a:=(aN a b k).natAbs) λd=>l k g c (CQ.2 d);rw[gcd,AQ,ER];exact this
  obtain⟨_,_,u,hu⟩:=H4 (show(0:Y)<p by omega) J;refine⟨(aN a b (k+1)*bS (aN a b k) p%p).toNat,?_,?_⟩
  .have:=Int.emod_lt_of_pos (aN a b (k+1)*bS (aN a b k) p) (show(0:Y)<p by omega);omega
  .have L:=Int.emod_nonneg (aN a b (k+1)*bS (aN a b k) p) (show(p:Y)≠0 by omega);rw[Int.toNat_of_nonneg L,ET];exact⟨aN a b (k+1)*bS (aN a b k) p/p*aN a b k-aN a b (k+1)*u,by grind⟩
 have apy:∃i d,1<=i/\1<=d/\i+d<=p+1/\∃r:Z,(p:Y) ∣ aN a b (i+1)-r*aN a b i/\(p:Y) ∣ aN a b (i+d+1)-r*aN a b (i+d):=by
  have j:∀k,∃r:Z,1<=k->k<=p+1->r<p/\(p:Y) ∣ aN a b (k+1)-r*aN a b k:=λk=>by
   by_cases h:1<=k/\k<=p+1
   .obtain⟨r,g,c⟩:=inv k h.1 h.2;exact⟨r,λ_ _=>⟨g,c⟩⟩
   .exact⟨0,λg c=>M ⟨g,c⟩ h⟩
  refine AM λE=>?_;have m:∀x∈ES 1 (p+1),∀y∈ES 1 (p+1),BN (j x)=BN (j y)->x=y:=λx q y o e=>by
   rw[DW]at q o;have D:=A8 (j x) q.1 (by omega);have v:=A8 (j y) o.1 (by omega);rw[<-e]at v;refine AM λC=>?_;rcases CO C with de|de
   .exact E ⟨x,y-x,q.1,by omega,by omega,_,D.2,by rw[show x+(y-x)=y by omega];exact v.2⟩
   .exact E ⟨y,x-y,o.1,by omega,by omega,_,v.2,by rw[show y+(x-y)=x by omega];exact D.2⟩
  have I:=sQ (f:=λk=>BN (j k)) _ (List.nodup_range' (s:=1) (n:=p+1)) m;have A:=u9 _ (DS p) I (λz H=>by
   obtain⟨k,F,rfl⟩:=DE.1 H;rw[DW]at F;exact CD.2 (A8 (j k) F.1 (by omega)).1) (by simp)
  have:=A.length_eq;simp at this
 obtain⟨i,d,g,c,G,r,⟨x,q⟩,y,o⟩:=apy;have h:(p:Y) ∣ b^i*aN a b d:=by
  rw[<-uU];exact⟨aN a b (i+d)*x-y*aN a b i,by grind⟩
 rcases I2 t h with z|z
 .exact K (zm t z)
 .exact l d c (by omega) z
def QJ{p:Z}(d:aw p){a b:Y}(e:¬(p:Y) ∣ b){w:Z}(c:(p:Y) ∣ aN a b w):∀(k r:Z),(p:Y) ∣ aN a b (w*k+r)->(p:Y) ∣ aN a b r
 |0,r,h=>by rw[CV,AZ]at h;exact h
 |k+1,r,h=>QJ d e c k r (abB d e c (by rw[show w+(w*k+r)=w*(k+1)+r by rw[EQ];omega];exact h))
def QK{p:Z}(d:aw p){a b:Y}{w:Z}(c:(p:Y) ∣ aN a b w):∀k:Z,(p:Y) ∣ aN a b (w*k)
 |0=>⟨0,by show(0:Y)=_;omega⟩
 |k+1=>by
  rcases BA w with e|e
  .rw[e,EM];exact⟨0,by show(0:Y)=_;omega⟩
  .rw[show w*(k+1)=w*k+(w-1)+1 by rw[EQ];omega,(Cl a b (w*k) (w-1)).1,show w-1+1=w by omega];refine DP (BK c (C4 ..)) (BK (BK (QK d c k) (CW ..)) (C4 ..))
def abC(j:aw p){a b:Y}(r:¬(p:Y) ∣ b):∃w,1<=w/\w<=p+1/\∀m,(p:Y) ∣ aN a b m↔w ∣ m:=by
 have ⟨w0,y,h2,x⟩:=ZL (a:=a) j r;have n:∀f w,w<=f->1<=w->(p:Y) ∣ aN a b w->∃v,1<=v/\v<=w/\(p:Y) ∣ aN a b v/\∀u,1<=u->u<v->¬(p:Y) ∣ aN a b u:=λf=>by
  induction f with
  |zero=>intro w h h';omega
  |succ f t =>
   intro w h h' l;by_cases q:∃u,1<=u/\u<w/\(p:Y) ∣ aN a b u
   .obtain⟨u,i,o,g⟩:=q;obtain⟨v,d,v2,c⟩:=t u (by omega) i g;exact⟨v,d,by omega,c⟩
   .exact⟨w,h',Z0 _,l,λu i o g=>q ⟨u,i,o,g⟩⟩
 obtain⟨v,d,v2,c,s⟩:=n w0 w0 (Z0 _) y x;refine⟨v,d,by omega,λm=>⟨λh=>?_,λ⟨k,e⟩=>e ▸ QK j c k⟩⟩;refine AM λl=>?_;have hr:m%v≠0:=λz=>l (AR z);have:=AG m (show 0<v by omega);refine s (m%v) (by omega) this (QJ j r c (m/v) (m%v) (by rw[D9];exact h))
def P7{n a b:Y}:∀ {c:V Y},xP n a b c=FD->∀x∈c,gcd (qQ a b ((n+1)/x).natAbs n) n=1
 |[],_,x,hx=>by simp at hx
 |q::c,h,x,hx=>by
  unfold xP at h;simp only[Z3,decide_eq_true_eq]at h;rcases B0.1 hx with rfl|hx
  .exact h.1
  .exact P7 h.2 x hx
def Iz{p:Z}{a b:Y}(c:(p:Y) ∣ b):∀k:Z,(p:Y) ∣ aN a b (k+1)-a^k
 |0=>⟨0,by rw[DH];show(1:Y)-1=_;omega⟩
 |k+1=>by
  obtain⟨x,hx⟩:=Iz (a:=a) c k;obtain⟨y,hy⟩:=c;show(p:Y) ∣ a*aN a b (k+1)-b*aN a b k-a^(k+1);exact⟨a*x-y*aN a b k,by rw[B8];grind⟩
def agz{n:FG}{base q:FE FG}{Z:Bool}(h:vA n base Z q=FD)(S:∀x∈q,qZ x)(hd:q.Nodup):qZ n:=by
 unfold vA at h;simp only[Z3]at h;obtain⟨T,_,h⟩:=h;obtain⟨N,rfl,h2,T⟩:=RQ T;split at h
 .cases h
 .rename_i F C;simp only[Z3,decide_eq_true_eq]at h;obtain⟨B,s⟩:=h;unfold s? at s;split at s
  .rename_i a b;simp only[Z3,decide_eq_true_eq]at s;obtain⟨_,_,_,P,hL⟩:=s;rw[uv,show((N:FG)+1).natAbs=N+1 by omega]at P;have A:(N:FG) ∣ aN a b (N+1):=Int.dvd_of_emod_eq_zero P;have i:∀(r p:FF),(r:FG)∈q->aw p->p ∣ N->¬(p:FG) ∣ aN a b ((N+1)/r):=λr p o m d L=>by
    have U:=P7 hL _ o;rw[show(((N:FG)+1)/(r:FG)).natAbs=(N+1)/r by rw[show(N:FG)+1=((N+1:FF):FG) by omega,<-C3,AQ],uv]at U;refine Pp U m.lt d ?_;rw[ET];exact DP L (BK (A7.2 d) (CW ..))
   refine⟨N,rfl,?_⟩;rw[show(N:FG)+1=((N+1:FF):FG) by omega]at C;have M:=H6 C;have key:∀p,aw p->p ∣ N->∃f:FF,F=f/\f<=p+1:=λp m d=>by
    have tp:=m.lt;have j:(p:FG) ∣ aN a b (N+1):=BK (A7.2 d) A;by_cases E:(p:FG) ∣ b
    ·
     cases q with
     |nil =>
      cases C;exact⟨1,rfl,by omega⟩
     |cons x l =>
      exfalso;obtain⟨r,rfl,o⟩:=S x (AD ..);obtain⟨W,l7⟩:=Iz (a:=a) E N;have ha:(p:FG) ∣ a:=zm m (k:=N) (by obtain⟨y,hy⟩:=j;exact⟨y-W,by grind⟩);have H:r ∣ N+1:=by
       have:=M r (AD ..);exact AR (by omega)
      obtain⟨t,D⟩:=H;have X:=o.lt;have e1:(N+1)/r=t:=by rw[D,BM _ (by omega)]
      have t1:t≠0:=λz=>by rw[z,CV]at D;omega
      have t2:t≠1:=λz=>by
       rw[z,EY]at D;rcases o.dv 2 (AR (by omega))with w|w
       .omega
       .omega
      refine i r p (AD ..) m d ?_;rw[e1];obtain⟨V,u⟩:=Iz (a:=a) E (t-1);rw[show t-1+1=t by omega]at u;obtain⟨y,hy⟩:=ha;have e2:a^(t-1)=a*a^(t-2):=by rw[show t-1=t-2+1 by omega,B8,Int.mul_comm]
      exact⟨V+y*a^(t-2),by rw[e2]at u;grind⟩
    .obtain⟨w,w1,w2,R⟩:=abC (a:=a) m E;have G:=(R _).1 j;obtain⟨f,v,J⟩:=I3 (K:=w) (by omega) q 1 F C hd (λx Q=>by
      obtain⟨r,rfl,o⟩:=S x Q;refine⟨r,rfl,o,D2 _,λk c e=>?_⟩;have X:=o.lt;refine AM λhk=>?_;have:=part o k w (by rw[<-e];exact G) hk;refine i r p Q m d ((R _).2 ?_);rw[e,CK,B1,BM _ (by omega)];exact this) (C5 _)
     have:=A2 (by omega) J;exact⟨f,v,by omega⟩
   obtain⟨Y,I,O⟩:=oC N N (Z0 _) (by omega);obtain⟨f,rfl,_⟩:=key Y I O;have v:1<=f:=by
    rcases BA f with e|e
    .rw[e]at B;have B:(N:FG)<1:=B;omega
    .exact e
   refine Md (f:=f-1) (by omega) (λp m d=>?_) (by
    obtain⟨g,rfl⟩:∃g,f=g+1:=⟨f-1,by omega⟩;rw[show((g+1:FF):FG)-1=(g:FG) by omega,<-BS]at B;show N<g*g;omega)
   obtain⟨f',e,arc⟩:=key p m d;omega
  .cases s
def Od(b:V Y):∀(l a q:V Y),cD b l a=E8 q->a.Nodup->(∀x∈a,x∈b)->q.Nodup/\∀x∈q,x∈b
 |[],a,q,h,f,d=>by cases h;exact⟨f,d⟩
 |i::r,a,q,h,f,d=>by
  unfold cD at h;cases c:J (0<=i)&&(J (i<b.length)&&!(a.elem (b.getD i.toNat 0)))with
  |false=>rw[c]at h;cases h
  |true =>
   rw[c]at h;simp only[Z3,decide_eq_true_eq,CT,List.elem_eq_mem,decide_eq_false_iff_not]at c;refine Od b r _ q h ?_ λx hx=>?_
   .rw[List.nodup_append];refine⟨f,by simp,λx hx y g=>?_⟩;rw[AJ.1 g];exact λe=>c.2.2 (e ▸ hx)
   .rcases AU.1 hx with hx|hx
    .exact d x hx
    .rw[AJ.1 hx,AB,AI (by omega)];exact BQ _
def af7{n:Y}{a:O}(h:tS n b q a=FD):qZ n:=by
 unfold tS at h;simp only[Z3,decide_eq_true_eq]at h;obtain⟨h1,_,_,_,h⟩:=h;unfold ep at h;split at h
 .exact⟨n.toNat,by omega,UJ h (by unfold fk;omega)⟩
 .cases h
def aeJ{n:Y}{bl:Z}{a b m x y o:Y}{i:O}{q:V Y}(h:yF n bl a b m x y o i q=FD):m=n/\3<n:=by
 unfold yF at h;split at h
 .simp only[Z3,decide_eq_true_eq]at h;exact⟨h.2.2.2.2.1,h.2.1⟩
 .cases h
def abJ{d:V Y}(h:cE d s=FD)(i:∀x∈d,qZ x)(o:s.cm=0\/qZ s.cm):qZ s.n:=by
 unfold cE at h;simp only[Z3]at h;obtain⟨_,_,h⟩:=h;split at h
 .cases h
 .rename_i q l;obtain⟨j,m⟩:=Od d _ _ q l List.nodup_nil λx f=>by simp at f
  have b:∀x∈q,qZ x:=λx f=>i x (m x f);unfold vz at h;cases a:s.kind==1 with
  |true=>rw[a]at h;exact af7 h
  |false =>
   cases c:s.kind==2 with
   |true=>rw[a,c]at h;exact afq h b j
   |false =>
    cases g:s.kind==3 with
    |true=>rw[a,c,g]at h;exact agz h b j
    |false =>
     cases k:s.kind==4 with
     |true =>
      rw[a,c,g,k]at h;obtain⟨e,h5⟩:=aeJ h;rcases o with z|z
      .omega
      .rw[<-e];exact z
     |false=>rw[a,c,g,k]at h;cases h
def OY:∀(L:V ab) (b:V Y),eB b L->(∀x∈b,qZ x)->(∀s∈L,s.cm=0\/qZ s.cm)->∀s∈L,qZ s.n
 |[],_,_,_,_,s,hs=>by simp at hs
 |t::r,b,h,a,d,s,hs=>by
  have c:=abJ h.1 a (d t (AD ..));rcases B0.1 hs with rfl|hs
  .exact c
  .refine OY r _ h.2 (λx hx=>?_) (λz e=>d z (AF _ e)) s hs;rcases AU.1 hx with hx|hx
   .exact a x hx
   .rw[AJ.1 hx];exact c
def aeC{L:V ab}(h:fw L=0)(b:∀s∈L,s.cm=0\/qZ s.cm):∀s∈L,qZ s.n:=by
 refine OY L [] ((H! L [] 0).1 ?_) (λx a=>by simp at a) b;unfold fw at h;split at h
 .simp at h
 .assumption
def aij{c:Prop}[Decidable c]{a b:ab}{m:Y}(e:a.cm=m)(d:b.cm=m):(if c then a else b).cm=m:=by
 split
 .exact e
 .exact d
def aet(s:ab)(p y:Y):(nY s p y).cm=s.cm:=by
 unfold nY
 iterate 14 (refine aij rfl ?_)
 rfl
def I9{L:V ab}(h:∀s∈L,s.cm=0\/qZ s.cm)(a p y:Y):∀s∈gK L a p y,s.cm=0\/qZ s.cm:=by
 intro s hs;unfold gK at hs;split at hs
 .exact(AU.1 hs).elim (λhs=>h s (DJ hs)) (λhs=>h s (DK hs))
 .rcases BX hs with hs|hs
  .exact h s hs
  .rw[hs,aet,AB];cases b:L[a.toNat%L.length]? with
   |none=>exact .inl rfl
   |some t=>exact h t (List.mem_of_getElem? b)
def afo(a n:Z):aw (ed a n):=by
 unfold ed;split
 .have b:=AG n (show 0<65000 by omega);exact(sR (m:=n%65000) (q:=65003) (by omega) (by omega) E? (by unfold fk;omega)).pr
 .split
  .have b:=AG n (show 0<67108864 by omega);obtain⟨q,_,_,k⟩:=sS (m:=3+n%67108864);exact k.pr
  .split
   .have b:=AG n (show 0<1048576 by omega);obtain⟨q,_,_,k⟩:=sS (m:=5+n%1048576);exact k.pr
   .have b:=AG n (show 0<1500 by omega);obtain⟨q,_,_,k⟩:=sS (m:=7+n%1500);exact k.pr
def alQ(a n r:Z):∀s∈lP a n r,s.cm=0\/qZ s.cm:=λs b=>(Tj a n r s b).cm.imp id λe=>⟨_,e,afo a n⟩
def Tz:aG
 |[.st [.bool g,.ws l]]=>E8 (E8 (dj g l),.ret (.tup [.bool (ep (eE g l)),.int .i64 (hD (eE g l))]))
 |_=>E9
def aiz:ah AA:=al1.conv Tz λms p r h a hf=>by
 unfold Tz at h;split at h
 .rename_i g l;simp only[Z1,Z2]at h;obtain⟨rfl,rfl⟩:=h;exact⟨[.aa (eE g l) 200],_,⟨qS a,⟨⟩⟩,rfl,⟨⟩⟩
 .simp at h
def aii{z:Y}(h:qZ z):¬(hD z=0/\ep z=E7):=by
 obtain⟨p,rfl,c⟩:=h
 rintro⟨a,b⟩
 unfold hD at a;split at a
 .simp at a
 .rw[Q6 (by rw[Z8];exact c)]at b;cases b
def akZ(l:V (V ab)):Z->MS->o bt
 |7,e=>E8 (.inv Z (λi=>i<=l.length) (λi=>⟨73, [(7,.bool FD),(8,kH l 0),(9,.sl 1 l.length (kH l)),(10,.int .i64 i)],e.bx,0⟩) (λi=>l.length-i))
 |11,e=>match bD 10 e.tm with
  |.int _ i=>E8 (.inv Z (λk=>k<=(l.getD i.toNat []).length) (λk=>⟨73, [(7,.bool FD),(8,kH l 0),(9,.sl 1 l.length (kH l)),(10,.int .i64 i),(11,.int .i64 k)],e.bx,0⟩) (λk=>(l.getD i.toNat []).length-k))
  |_=>E9
 |_,_=>E9
def KT(l:V (V ab)):Env AA:=⟨[aio,adw,alY,YY,aiz], [],39,akZ l,(fun|999994=> [0]|_=> []),λ_ _=>E9⟩
def akV(a n r g h f s2 c b:Y)(l:V (V ab))(T:O)(s:_)(A:s=(lP (C a) (C n) (C r)))(e:_)(z:e=λ(i:Z)=>(E l (C (i:Y)) []))(d:_)(x:d=(E l 0 []))(k:_)(w:k=(aF d 200))(q:_)(v:q=λ(i:Z) (ae:Z)=>(E (e i) (C (ae:Y)) aB))(o:_)(u:o=(B s))(m:_)(t:m=(aF s 200))(p:_)(y:p=(gK (aE o m) g h f)):(((0<=a/\a<=255)/\(0<=n/\n<=4294967295)/\0<=r/\r<=65535)/\qw o m g h f/\qw o m s2 c b/\qw o m g h f/\qw (B p) (aF p 200) s2 c b/\(∃i,i<=B l/\(FD=FD/\(18=18/\B s =B d/\ak o m k)/\(1=1/\4=B l/\ak 4 (aU [MV.sl 18 o m,MV.sl 18 (B p) (aF p 200),MV.sl 18 (B (gK (aE o m) s2 c b)) (aF (gK (aE o m) s2 c b) 200),MV.sl 18 (B (gK (aE (B p) (aF p 200)) s2 c b)) (aF (gK (aE (B p) (aF p 200)) s2 c b) 200)]) (kH l))/\0=(i:Y)/\X)/\(a=a/\n=n/\r=r/\X)/\(g=g/\h=h/\f=f/\X)/\(s2=s2/\c=c/\b=b/\X)/\X)/\∀(i:Z),i<=B l->bif J ((i:Y)<(B l:Y))then (0<=(i:Y)/\(i:Y)<(B l:Y))/\cw (B (e i)) (aF (e i) 200)/\bif fw (aE (B (e i)) (aF (e i) 200)) != 0 then ∃j,j<=B l/\((FD=FD/\(18=18/\B d =B d/\ak (B d) k k)/\(1=1/\B l=B l/\ak (B l) (kH l) (kH l))/\F FA ((i:Y)+1)=(j:Y)/\X)/\(a=a/\n=n/\r=r/\X)/\(g=g/\h=h/\f=f/\X)/\(s2=s2/\c=c/\b=b/\X)/\X)/\B l-j<B l-i else (∃ae,ae<=B (e i)/\(FD=FD/\(18=18/\B d =B d/\ak (B d) k k)/\(1=1/\B l=B l/\ak (B l) (kH l) (kH l))/\(i:Y)=(i:Y)/\0=(ae:Y)/\X)/\(a=a/\n=n/\r=r/\X)/\(g=g/\h=h/\f=f/\X)/\(s2=s2/\c=c/\b=b/\X)/\X)/\∀(ae:Z),ae<=B (e i) ->(0<=(i:Y)/\(i:Y)<(B l:Y))/\bif J ((ae:Y)<(B (e i) :Y))then (0<=(i:Y)/\(i:Y)<(B l:Y))/\(0<=(ae:Y)/\(ae:Y)<(B (e i) :Y))/\dj (ab.neg (q i ae)) (ab.ai (q i ae))/\bif hD (eE (ab.neg (q i ae)) (ab.ai (q i ae)))==0 then bif !ep (eE (ab.neg (q i ae)) (ab.ai (q i ae)))then E7=T else ∃j,j<=B (e i)/\((FD=FD/\(18=18/\B d =B d/\ak (B d) k k)/\(1=1/\B l=B l/\ak (B l) (kH l) (kH l))/\(i:Y)=(i:Y)/\F FA ((ae:Y)+1)=(j:Y)/\X)/\(a=a/\n=n/\r=r/\X)/\(g=g/\h=h/\f=f/\X)/\(s2=s2/\c=c/\b=b/\X)/\X)/\B (e i)-j<B (e i)-ae else ∃j,j<=B (e i)/\((FD=FD/\(18=18/\B d =B d/\ak (B d) k k)/\(1=1/\B l=B l/\ak (B l) (kH l) (kH l))/\(i:Y)=(i:Y)/\F FA ((ae:Y)+1)=(j:Y)/\X)/\(a=a/\n=n/\r=r/\X)/\(g=g/\h=h/\f=f/\X)/\(s2=s2/\c=c/\b=b/\X)/\X)/\B (e i)-j<B (e i)-ae else ∃j,j<=B l/\((FD=FD/\(18=18/\B d =B d/\ak (B d) k k)/\(1=1/\B l=B l/\ak (B l) (kH l) (kH l))/\F FA ((i:Y)+1)=(j:Y)/\X)/\(a=a/\n=n/\r=r/\X)/\(g=g/\h=h/\f=f/\X)/\(s2=s2/\c=c/\b=b/\X)/\X)/\B l-j<B l-i else FD=T)=aI (KT l) EE [.st [.int .u8 a,.int .u32 n,.int .u16 r],zM g h f,zM s2 c b] (BJ (.ret (.bool T))):=by subst A z x w v u t y;kernel_rfl
def Hg(a n r d f c s2 e b:Y):V (V ab) :=
 [lP a.toNat n.toNat r.toNat,gK (lP a.toNat n.toNat r.toNat) d f c,gK (lP a.toNat n.toNat r.toNat) s2 e b,gK (gK (lP a.toNat n.toNat r.toNat) d f c) s2 e b]
def akX{a n r d e f s2 b c:Y}(x:HV a n r)(G:ji d)(F:ji e)(A:ri f)(E:ji s2)(D:ji b)(t:ri c) :
  aI (KT (Hg a n r d e f s2 b c)) EE [.st [.int .u8 a,.int .u32 n,.int .u16 r],zM d e f,zM s2 b c] (BJ (.ret (.bool FD))):=by
 rw[<-akV a n r d e f s2 b c (Hg a n r d e f s2 b c) FD _ rfl _ rfl _ rfl _ rfl _ rfl _ rfl _ rfl _ rfl];have q:Hg a n r d e f s2 b c=[lP a.toNat n.toNat r.toNat,gK (lP a.toNat n.toNat r.toNat) d e f,gK (lP a.toNat n.toNat r.toNat) s2 b c,gK (gK (lP a.toNat n.toNat r.toNat) d e f) s2 b c]:=rfl;generalize Hg a n r d e f s2 b c=l at *;have h:=(ahW a.toNat n.toNat r.toNat).len;have g:=alR a.toNat n.toNat r.toNat;have B:=alQ a.toNat n.toNat r.toNat;generalize lP a.toNat n.toNat r.toNat=L0 at *;have u:=Jv g d e A;have I:=Jv g s2 b t;have w:=JN h d e f;have K:=JN h s2 b c;have H:=I9 B d e f;have V:=I9 B s2 b c;rw[j8];generalize gK L0 d e f=L1 at *;generalize gK L0 s2 b c=aqn at *;rw[j8];have v2:=Jv u s2 b t;have M:=JN w s2 b c;have W:=I9 H s2 b c;generalize gK L1 s2 b c=aqm at *;have Q:l.getD 0 []=L0:=by rw[q];rfl
 have o:l.length=4:=by rw[q];rfl
 have ok:∀i,i<4->e8 (l.getD i [])/\∀s∈l.getD i [],s.cm=0\/qZ s.cm:=by
  intro i p;rw[q]
  match i,p with
  |0,_=>exact⟨xb g (by omega) h,B⟩
  |1,_=>exact⟨xb u (by omega) w,H⟩
  |2,_=>exact⟨xb I (by omega) K,V⟩
  |3,_=>exact⟨xb v2 (by omega) M,W⟩
 have ids:(a=a/\n=n/\r=r/\X)/\(d=d/\e=e/\f=f/\X)/\(s2=s2/\b=b/\c=c/\X)/\X:=⟨⟨rfl,rfl,rfl,⟨⟩⟩,⟨rfl,rfl,rfl,⟨⟩⟩,⟨rfl,rfl,rfl,⟨⟩⟩,⟨⟩⟩;refine⟨⟨x.a,x.n,x.r⟩,Ev g (by omega) h G F A,Ev g (by omega) h E D t,Ev g (by omega) h G F A,Ev u (by omega) w E D t,⟨0,Z9 _,⟨rfl,?_,⟨rfl,o.symm,DG λi p=>?_⟩,rfl,⟨⟩⟩,ids⟩,λi p=>?_⟩
 .rw[Q];exact⟨rfl,rfl,AE⟩
 .rw[q]
  match i,p with
  |0,_=>exact⟨rfl,rfl,AE⟩
  |1,_=>exact⟨rfl,rfl,AE⟩
  |2,_=>exact⟨rfl,rfl,AE⟩
  |3,_=>exact⟨rfl,rfl,AE⟩
 .rw[Z8,j8];refine aJ Z4 (λq1=>?_) (λ_=>rfl);obtain⟨y,P⟩:=ok i (by omega);generalize l.getD i []=L at *;have hl:=y.len;have v:(0:Y)<=(i:Y)/\(i:Y)<(l.length:Y):=⟨by omega,q1⟩;have S:FH FA ((i:Y)+1)=((i+1:Z):Y):=by rw[aV (by omega) (by omega)];omega
  rw[S];refine⟨v,oE y,aJ bne_iff_ne (λ_=>⟨i+1,by omega,⟨⟨rfl,⟨rfl,rfl,AE⟩,⟨rfl,rfl,AE⟩,rfl,⟨⟩⟩,ids⟩,by omega⟩) (λz=>?_)⟩;have C:fw L=0:=by omega
  refine⟨⟨0,Z9 _,⟨rfl,⟨rfl,rfl,AE⟩,⟨rfl,rfl,AE⟩,rfl,rfl,⟨⟩⟩,ids⟩,λk hk=>⟨v,aJ Z4 (λJ=>?_) (λ_=>⟨i+1,by omega,⟨⟨rfl,⟨rfl,rfl,AE⟩,⟨rfl,rfl,AE⟩,rfl,⟨⟩⟩,ids⟩,by omega⟩)⟩⟩;have R:FH FA ((k:Y)+1)=((k+1:Z):Y):=by rw[aV (by omega) (by omega)];omega
  rw[R,Z8];have N:qZ (eE (L.getD k aB).neg (L.getD k aB).ai):=by
   have j:k<L.length:=by omega
   have m:L.getD k aB∈L:=by rw[AB,AI j];exact BQ j
   exact aeC C P _ m
  have O:=aii N;refine⟨v,⟨by omega,J⟩,IC y (Pk C).2,aJ beq_iff_eq (λU=>aJ (by simp) (λT=>FK ⟨U,T⟩ O) λ_=>?_) λ_=>?_⟩
  all_goals exact⟨k+1,by omega,⟨⟨rfl,⟨rfl,rfl,AE⟩,⟨rfl,rfl,AE⟩,rfl,rfl,⟨⟩⟩,ids⟩,by omega⟩
def Gi:aG
 |[.st [.int .u8 a,.int .u32 n,.int .u16 r],.st [.int .u8 d,.int .u8 f,.int .i64 c],.st [.int .u8 s2,.int .u8 e,.int .i64 b]]=>E8 (E8 (HV a n r/\(ji d/\ji f/\ri c)/\ji s2/\ji e/\ri b),.ret (.bool FD))
 |_=>E9
set_option maxRecDepth 100000 in
def amQ:bC EE Gi:=by
 intro ms p r h g;unfold Gi at h;split at h
 .rename_i a n r d f c s2 e b;cases h;obtain⟨i,⟨q,o,m⟩,l,k,j⟩:HV a n r/\(ji d/\ji f/\ri c)/\ji s2/\ji e/\ri b:=g;exact⟨KT _,akX i q o m l k j⟩
 .simp at h
def al3:ah AA:=⟨4,Gi,λargs w=>Tryz.call4 args w,aO bQ Tryz.func4 Gi amQ⟩
section
open Go Go.ChangeShapes Go.WideShapes Go.ChangeAt Go.RowKit
def Yz:Tryz.prog.cellsOf 23=1:=by kernel_rfl
def Yx:Tryz.prog.cellsOf 2=1:=by kernel_rfl
def XL:Tryz.prog.cellsOf 25=3:=by kernel_rfl
def Yw:Tryz.prog.cellsOf 27=3:=by kernel_rfl
def Kq{n:Y}(h:(C7 .u8 n).wf=FD):0<=n/\n<=255:=by simpa [EB,CR,CS,B7,CI]using h
def ajY{n:Y}(h:(C7 .u32 n).wf=FD):0<=n/\n<=4294967295:=by simpa [EB,CR,CS,B7,CI]using h
section
variable {H:Type} {enc:TypeId×Value->H} {w:World} {sp:Nat->Bool} {held:Bool} {v:Value} {d:DataW H} {ps:List MemPlace}
def abT(h:EU enc AA w 0 sp held 25 v d ps) :
  ∃a n r,cf (BU ph) w (.st [.int .u8 a,.int .u32 n,.int .u16 r]) v/\(0<=a/\a<=255)/\(0<=n/\n<=4294967295)/\0<=r/\r<=65535:=by
 obtain⟨fuel,h⟩:=h;obtain⟨q,f',e⟩:=Mw Tryz.underlying25 h;rw[XL]at q
 match s:v.cells.toList,q with
 |[a,b,c],_ =>
  rw[s]at e;obtain⟨y0,i⟩:=e _ (AD ..);obtain⟨y1,g⟩:=e _ (AF _ (AD ..));obtain⟨y2,f⟩:=e _ (AF _ (AF _ (AD ..)));dsimp only at i g f;rw[IN]at i;rw[YA]at g;rw[Yz]at f;obtain⟨p,z,w0⟩:=trod_int B2 i;obtain⟨o,y,u⟩:=trod_int Tryz.underlying22 g;obtain⟨m,x,t⟩:=trod_int Tryz.underlying23 f;have l:[a]=[.int .u8 p]:=z;have k:[b]=[.int .u32 o]:=y;have j:[c]=[.int .u16 m]:=x;simp only[CP,and_true]at l k j;subst l k j;exact⟨p,o,m,(eM rfl).2 ⟨_,NW s,_,_,rfl,rfl,_,_,rfl,rfl,_,_,rfl,rfl,rfl⟩,Kq w0,ajY u,ajX t⟩
def RC(h:EU enc AA w 0 sp held 27 v d ps) :
  ∃a n r,cf (BU ph) w (.st [.int .u8 a,.int .u8 n,.int .i64 r]) v/\(0<=a/\a<=255)/\(0<=n/\n<=255)/\-9223372036854775808<=r/\r<=9223372036854775807:=by
 obtain⟨fuel,h⟩:=h;obtain⟨q,f',e⟩:=Mw Tryz.underlying27 h;rw[Yw]at q
 match s:v.cells.toList,q with
 |[a,b,c],_ =>
  rw[s]at e;obtain⟨y0,i⟩:=e _ (AD ..);obtain⟨y1,g⟩:=e _ (AF _ (AD ..));obtain⟨y2,f⟩:=e _ (AF _ (AF _ (AD ..)));dsimp only at i g f;rw[IN]at i g;rw[Yx]at f;obtain⟨p,z,w0⟩:=trod_int B2 i;obtain⟨o,y,u⟩:=trod_int B2 g;obtain⟨m,x,t⟩:=trod_int Tryz.underlying2 f;have l:[a]=[.int .u8 p]:=z;have k:[b]=[.int .u8 o]:=y;have j:[c]=[.int .i64 m]:=x;simp only[CP,and_true]at l k j;subst l k j;exact⟨p,o,m,(eM rfl).2 ⟨_,NW s,_,_,rfl,rfl,_,_,rfl,rfl,_,_,rfl,rfl,rfl⟩,Kq w0,Kq u,aid t⟩
end
end
end
end Go.Proofs.YtkejceafemeifaaGreatDoor
