/-
  Arguments of the laws of chapter 07: pairs of numbers of 16 bits.
-/
import Derived.Test.YtkejceafemeifaaGreatDoorJ5
import Derived.Test.YtkejceafemeifaaGreatDoorJ2
import Derived.Test.YtkejceafemeifaaGreatDoorRows
import Derived.Test.YtkejceafemeifaaGreatDoorJ3
import Derived.Test.YtkejceafemeifaaGreatDoorCards
import Derived.Test.YtkejceafemeifaaGreatDoorTie
import Derived.Test.YtkejceafemeifaaGreatDoorJ4
import Derived.ProofKit
import Derived.OpenShut
import Derived.JoinedCond
import Derived.LaidMore
import Derived.LaidLaws
import Derived.LaidHandle
import Derived.ChangeVars
import Derived.Stop.Joined
import Derived.ChangeSame
import Derived.MakeChecks
import Derived.OrdersHeld

namespace Go.Proofs.YtkejceafemeifaaGreatDoor
open Go Go.RowKit
open Go.IntKind (wrap i64 i32 i16 i8 u64 u32 u16 u8)
open Int (toNat natAbs)
open List (length take drop getD set replicate)
open BitVec (ofInt)
open Int (gcd tmod tdiv fdiv)
open List renaming mem_cons_self->AA,mem_cons_of_mem->AC,mem_singleton->AM,getElem?_eq_getElem->AR,not_mem_nil->AT,getD_eq_getElem?_getD->A0,mem_append->A2,mem_of_elem_eq_true->A5,mem_append_right->BE,mem_range->BL,all_eq_true->BN,mem_append_left->BO,mem_cons->B1,range->B8,mem_map->B9,getElem?_map->CQ,mapM_cons->C9,mem_range'_1->DJ,mem_flatMap->DO,length_take->DP,getElem_mem->DR,any_eq_true->DS,nodup_cons->DW,nil_append->DX,mem_filter->DY,length_nil->DZ,range'->EF
open Nat renaming testBit->AB,dvd_of_mod_eq_zero->AF,eq_of_beq_eq_true->AH,mod_lt->AI,lt_or_ge->AJ,mod_eq_of_lt->AK,eq_zero_or_pos->AN,le_of_dvd->AS,testBit_and->AU,mod_mod_of_dvd->AW,mul_le_mul->AX,mul_div_cancel_left->AY,beq->AZ,two_pow_pos->A3,dvd_trans->A6,testBit_two_pow->A7,gcd->A8,pow_zero->BA,pow_succ->BB,mul_assoc->BD,pow_le_pow_right->BG,mul_le_mul_left->BH,div_add_mod->BJ,lt_of_lt_of_le->BK,dvd_mul_right->BM,pow_mod->BQ,pow_add->BR,testBit_xor->BS,mod_two_eq_zero_or_one->BW,lt_or_gt_of_ne->BX,blt_eq->BY,mul_one->B0,mod_eq_zero_of_dvd->CA,pow_mul->CG,log2->CH,pow_succ'->CM,zero_mul->CT,zero_add->CU,mul_zero->CV,mul_comm->CW,le_trans->CX,blt->CY,one_mul->C3,one_dvd->C4,mul_mod->C5,not_lt_zero->C6,mul_succ->DB,mul_pos->DD,mul_le_mul_right->DE,lt_of_le_of_lt->DI,gcd_dvd_right->DN,gcd_one_left->DT,gcd_dvd_left->DU,dvd_mul_left->DV,testBit_or->D4,zero_pow->EB,le_of_lt->EC,gcd_comm->ED,add_zero->EE,mul_add->EL,beq_eq->EN
open Go.Proofs.Tryz renaming prog->AD,underlying23->CP,underlying5->DL,underlying4->DM,f10->D2,f8->D9
open Classical renaming byContradiction->AE,choose_spec->B4,choose->CK
open Option renaming bind_eq_some_iff->AG,map_eq_some_iff->AL,bind_eq_bind->CF,pure_def->C0,map_some->C1,map_none->DH
open Int renaming natAbs_natCast->AO,natCast_mul->AV,pow_succ->A4,natCast_dvd_natCast->A9,dvd_trans->BF,le_of_dvd->BP,pow_zero->BT,pow_mul->B2,dvd_of_emod_eq_zero->B6,dvd_mul_left->B7,natCast_pow->CD,ofNat_dvd_left->CO,dvd_mul_right->CZ,dvd_sub->DF,natCast_emod->D0,natCast_ediv->D1,natAbs_mul->D6,sub_self->EG,sub_emod->EH,emod_def->EI,sub_neg->EM
open Go.DataW renaming trod->AP,TrodAll->CI,Whole->EA,Trod->EJ
open _root_.Array renaming getD->AQ,getElem?_eq_some_iff->BU,length_toList->DC,ext'->EK
open Go.Region renaming ready->A1,binds->CL,wanted->C7,noSelect->DG
open Bool renaming or_eq_true->BI,true_and->B3,not_eq_true'->DK,xor_false->D3,false_or->D7
open Go.Act renaming put->BV,eval->DA
open Option.some renaming inj->BZ
open LeFun renaming refl->B5
open Go.IntKind renaming signed->CB,bits->CJ,min->CR,max->CS
open Nat.Coprime renaming mul_dvd_of_dvd_of_dvd->CC,pow_right->EO,mul_left->EP,dvd_of_dvd_mul_left->EQ,coprime_dvd_left->ER
open Go.World renaming cell?->CE
open Go.Value renaming okWide->CN,cells->D8
open Go renaming mem_ready->C2
open Go.Lit renaming int->C8,wf->D5
open _root_ renaming Nat->Z,Int->U,List->V,if_neg->F,Bool->O,absurd->W,if_pos->N,Array->T,False->r,True->Y,Option->EW,cond->EY,Nat->E2,Int->E3,absurd->E4
open Go renaming Value->R,World->M,TypeId->X,Program->EX,Oper->E0,World->E1
open Go.IntKind renaming wrap->J,u64->EZ,i64->E7
open List renaming length->u
open Int renaming toNat->z,tmod->A
open Decidable renaming decide->B
open Bool renaming true->ES,false->ET
open Option renaming some->EU,none->EV
noncomputable section
theorem aUH{N:Z}(b:Pri N):aK N=[(N:U)]:=by
 have g:=b.lt;have P:=fJ (show 1<=N by omega);rw[<-fC]at P;have a:∀x∈aK N,x=(N:U):=λx f=>by
  obtain⟨p,rfl,q1,d,_⟩:=P.mem x f;rw[q1.eq_of_dvd b d]
 have c:=P.all N b (Nat.dvd_refl N)
 match hl:aK N,c,a,P.pw with
 |[],c,_,_=>simp at c
 |[x],_,a,_=>rw[a x (AA ..)]
 |x::y::r,_,a,e =>
  have g:=a x (AA ..);have h2:=a y (AC _ (AA ..));have:=(List.pairwise_cons.1 e).1 y (AA ..);omega
theorem aTp{p a b N:Z}(h:aOn p a b N=ES):¬p ∣ 4*(a*(a*a))+27*(b*b)/\Pri N/\N<1681/\grB N p=ES:=by
 unfold aOn at h;simp only[Z3,DK,BY]at h;obtain⟨d,j,c,i,g⟩:=h;refine⟨λf=>?_,nI j c i,c,g⟩;have e:Nat.mod (4*(a*(a*a))+27*(b*b)) p=0:=CA f;rw[e]at d;simp at d
theorem aQA{n:Z}(f:Pri n)(g:7<=n)(i:n<1512):∃k,n-1<=k/\k<n+100/\aDJ n k=ES:=by
 rcases aTu n i g with h|⟨d,_,d2,d3,d4⟩
 .rw[DS]at h;obtain⟨q,c,h⟩:=h;simp only[Z3,BY]at h;obtain⟨⟨b,a⟩,j⟩:=h;have b:=AH b;have a:=Nat.le_of_ble_eq_true a;have:=aX2 q c;rw[b]at this;exact⟨q.2,a,j,this⟩
 .rcases f.dv d (AF d3)with e|e<;>omega
theorem aQL(A M X Y:U):cD A M (.pt X Y ET) 1= .pt X Y ET:=by
 rw[t7 (by decide),show 1/2=0 from rfl,qM];rfl
theorem aS1{n k:Z}(d:Pri n)(p:7<=n)(s:n<=2000)(o:Pri (jE n k))(j:wM n k=(jE n k:U))(c:pE (p9 n k) (sX n k) n=ES)(l:grB (jE n k) n=ES)(L:V Stp) :
  cA (nums (L++[bV (wM n k)])) (kZ n L.length (p9 n k) (sX n k) (cxX n k) (yN n k) (jE n k))=ES:=by
 have R:=aH4 d p s k;have h1:=o.lt;have h:(nums (L++[bV (wM n k)])).length=L.length+1:=by simp[nums]
 have b:(nums (L++[bV (wM n k)])).getD L.length 0=(jE n k:U):=by
  have:(bV (wM n k)).n=(jE n k:U):=by rw[j];exact aVt (by omega)
  simp[nums,A0,this]
 have e:b9 (nums (L++[bV (wM n k)])) [(L.length:U)] []=EU [(jE n k:U)]:=by
  rw[oN,Z8,b,h,Y0 (show(0:U)<=L.length by omega),Y0 (show(L.length:U)<((L.length+1:Z):U) by omega)];rfl
 unfold cA;rw[aN6,show(kZ n L.length (p9 n k) (sX n k) (cxX n k) (yN n k) (jE n k)).can=ES from yH n,Y0 (show(1:U)<n by omega),B3,B3];show(match b9 (nums (L++[bV (wM n k)])) [(L.length:U)] []with|none=>ET|some q=>wZ (kZ n L.length (p9 n k) (sX n k) (cxX n k) (yN n k) (jE n k)).n 0 (p9 n k) (sX n k) n (cxX n k) (yN n k) (jE n k) ET q)=ES;rw[e,aN6];dsimp only;have a:=R.on;have g:bE (p9 n k) (sX n k) n ((jE n k:U)/(jE n k:U)) (cxX n k) (yN n k) ET=⟨cxX n k,yN n k,ET,0,0⟩:=by
  rw[Int.ediv_self (by omega)];unfold bE;rw[a,Z6,Y1 (show ¬(1:U)<0 by omega),Z5,show(1:U).natAbs=1 from rfl,aQL];rfl
 have f:bE (p9 n k) (sX n k) n (jE n k:U) (cxX n k) (yN n k) ET=⟨0,0,ES,0,0⟩:=by
  unfold bE;have i:=aS0 (t:= .pt (cxX n k) (yN n k) ET) d (by omega) R.cv c a;rw[<-qY]at i;rw[a,Z6,Y1 (show ¬(jE n k:U)<0 by omega),Z5,AO];show(cD (p9 n k) n (.pt (cxX n k) (yN n k) ET) (jE n k)).rs=_;rw[show jE n k=aST (p9 n k) (sX n k) n from rfl,i];rfl
 have r:gcd n 6=1:=by
  rw[Int.gcd_comm];exact aCu d λm=>by
   have:=BP (by decide) m;have:n=7\/n<7:=by omega
   omega
 unfold pE at c;unfold wZ;dsimp only;rw[g];dsimp only;rw[f,a,l,of_decide_eq_true c,r,Y0 (show(3:U)<n by omega),Y0 (show(0:U)<jE n k by omega),Int.emod_self,Y0 (rfl:(n:U)=n)];rfl
theorem aJV{n:Z}(b:Pri n)(g:7<=n)(m:n<1512)(L:V Stp):∃k,n-1<=k/\k<1099511627776/\oT L n k=ES:=by
 obtain⟨k,j,k2,a⟩:=aQA b g m;unfold aDJ at a;rw[aXx _ _ (by omega),<-qY]at a;have a:aOn n (p9 n k) (sX n k) (jE n k)=ES:=a;obtain⟨o,i,g3,h⟩:=aTp a;have c:pE (p9 n k) (sX n k) n=ES:=Y0 (aCu b λf=>o (by
  have e:(4*((p9 n k:U)*((p9 n k:U)*p9 n k))+27*((sX n k:U)*sX n k))=((4*(p9 n k*(p9 n k*p9 n k))+27*(sX n k*sX n k):Z):U):=by simp[Int.natCast_add,AV]
  rw[e]at f;exact A9.1 f))
 have d:wM n k=(jE n k:U):=by unfold wM;rw[aUH i];rfl
 refine⟨k,j,by omega,?_⟩;have l:=aS1 b g (by omega) i d c h L;unfold oT;rw[c,l,d,h];rfl
structure MadeOk (R:List Stp) (p:Int):Prop where
 right:dL [] R
 ok:okT R
 fine:∀s∈R,s.can=true/\2<=s.n
 last:(R.getD (R.length-1) aD).n=p
 pos:1<=R.length
 len:R.length<=200
theorem MadeOk.chk{R:V Stp}{p:U}(h:MadeOk R p):sW [] R 0=EV:=(aAT R [] 0).2 h.right
theorem MadeOk.chkE{R:V Stp}{p:U}(h:MadeOk R p):chkE R=0:=by
 unfold Go.Proofs.YtkejceafemeifaaGreatDoor.chkE;rw[h.chk];dsimp only;have:R.length.beq 0=ET:=by
  cases a:R.length.beq 0 with
  |true=>have:=AH a;have:=h.pos;omega
  |false=>rfl
 rw[this];rfl
theorem MadeOk.proves{R:V Stp}{p:U}(h:MadeOk R p):v6 R p=ES:=by
 unfold v6;rw[h.chkE,h.last,Y0 (rfl:(0:U)=0),Y0 (rfl:p=p)];rfl
theorem MadeOk.okl{R:V Stp}{p:U}(h:MadeOk R p):okL R.length (aG R 200):=rO h.ok
theorem aEh{n:Z}(a:n≠0)(h:n<1099511627776):CH n<40:=(Nat.log2_lt a).2 h
theorem aOD{R:V Stp}{w:Z}{z:U}(P:ProvOk [] R w z)(hw:w<40)(c:dL [] R):MadeOk R z:=by
 have d:=P.hi;have b:=P.lo;rw[DZ]at d b;exact⟨c,⟨by omega,P.ok λs a=>W a AT⟩,P.fine λs a=>W a AT,P.last,by omega,by omega⟩
theorem aQK{f:Z}{z:U}(a:f<=20)(h:Fits f z)(hz:z<1099511627776):MadeOk (jA f [] z) z:=by
 rw[oP];have:=h.two;exact aOD (oQ f [] z a h) (aEh (by omega) (by omega)) (pG f [] z a h trivial)
theorem aTK{f n:Z}(g:Pri n)(i:3<=n)(d:n<1099511627776)(e:n<65536*2^(f+1))(a:f<=20):MadeOk (mE f [] n) n:=by
 rw[aCC];have h:=iY g (by omega);have c:=vK (f:=f) (n:=n) (by omega) h e;exact aOD (aKC [] i d h (λx b L=>oQ f L x a (c x b)) (Nat.le_max_right 2 (CH n)) (Nat.le_max_left 2 (CH n))) (by have:=aEh (n:=n) (by omega) d;omega) (aEo g i d a c (λx b L j=>pG f L x a (c x b) j) trivial)
theorem bBE(n k:Z)(I:V U):(fG n k I).n=n:=aGm n I []
theorem aQJ{f n:Z}(e:Pri n)(i:5<=n)(o:n<4194304)(a:n+1<65536*2^(f+1))(c:f<=20)(j:Z):MadeOk (pF f [] n j) n:=by
 have ho:=iY e (by omega);have h:=aA4 (f:=f) (show 2<=n+1 by omega) (by omega) a;have A:=aGB e i a c [];have E:=aGC e i o A j;have k:=lC (show 1<=n+1 by omega);rw[<-fC]at k;have hlen:=pT (aK (n+1)) λx d=>(h x d).two;have h40:=aEh (n:=n+1) (by omega) (by omega);have g:=A.hi;rw[DZ]at g;have hA:=A.len;rw[aEv];unfold aEu;have l:dL [] (iP f [] (aK (n+1))):=by
  rw[nA];exact wV _ [] (λx d L m=>pG f L x c (h x d) m) trivial
 refine⟨lE l E.yes,⟨by simp;omega,λs hs=>?_⟩,λs hs=>?_,by rw[nP];exact bBE n _ _,by simp,by simp;omega⟩
 .rcases A2.1 hs with hs|hs
  .exact A.ok (λs hs=>W hs AT) s hs
  .rw[AM.1 hs];refine⟨aO _,?_,?_,by show 2<=1000;omega⟩
   .have:=bP (n:=n) (b:=64) (by omega);show(aA n).length<=6;omega
   .show(ixH f [] (aK (n+1))).length<=90;omega
 .rcases A2.1 hs with hs|hs
  .exact A.fine (λs hs=>W hs AT) s hs
  .rw[AM.1 hs,bBE];exact⟨yH n,by omega⟩
theorem aKb(n v:Z):∀k,((B8 k).filter λy=>y*y%n==v).length=j7 n v k
 |0=>rfl
 |k+1=>by
  have:=aKb n v k;rw[List.range_succ,List.filter_append,List.length_append,this];show _=j7 n v k+(if k*k%n=v then 1 else 0);by_cases e:k*k%n=v
  .simp[e]
  .simp[e]
theorem aXy{p:Z}(c:Pri p)(v:Z):j7 p v p<=2:=by
 have d:=c.lt;rw[<-aKb];have:=aAX (eK c) (k:=1) (λb=>by have:=BP (by decide) b;omega) 2 [-(v:U),0] (((B8 p).filter λy=>y*y%p==v).map λy:Z=>(y:U)) rfl (by
  rw[List.pairwise_map];refine List.Pairwise.imp_of_mem (R:=λx y=>x<y) (λ{x y} hx a hxy b=>?_) (List.Pairwise.filter _ List.pairwise_lt_range);have a:=BL.1 (DY.1 a).1;obtain⟨z,hz⟩:=b;have d:(y:U)-x=p*(-z):=by rw[Int.mul_neg];omega
  have h2:=BP (show 0<(y:U)-x by omega) ⟨-z,d⟩;omega) (λr f=>by
  obtain⟨y,a,rfl⟩:=B9.1 f;have e:y*y%p=v:=by simpa using (DY.1 a).2
  show(p:U) ∣ -(v:U)+y*(0+y*1);have g: -(v:U)+y*(0+y*1)=(y:U)*y-((y*y%p:Z):U):=by rw[e];grind
  rw[g,D0,AV];exact vV _ _)
 simpa using this
theorem aI5{p:Z}(c:Pri p)(a b:Z):∀k,pZ a b p k<=1+2*k
 |0=>Z0 1
 |k+1=>by
  have h1:=aI5 c a b k;have h2:=aXy c (rV a b p k);unfold pZ;omega
theorem aTJ{n:Z}(c:Pri n)(d:7<=n)(i:n<1512)(b:Z):MadeOk (aB4 [] n b) n:=by
 obtain⟨g,y1,y2,f⟩:=aJV c d i [];have hfm:b%n<n:=AI _ (by omega);have a:=aAB (oT [] n) 1125899906842624 (b%n) g (by omega) (by omega) f;rw[<-aN5]at a;rw[aHu];generalize aHt [] n b=K at *;have R:=aH4 c d (by omega) K;have hq:=R.q.lt;have hle:jE n K<=1+2*n:=by unfold jE;rw[qY];exact aI5 c _ _ n
 have hqle:=R.qle;unfold oT at a;simp only[Z3]at a;have h:=aE4 [] R.q (z:=wM n K) (by omega);have e:g9 [] n K=([]++[bV (wM n K)])++[kZ n 0 (p9 n K) (sX n K) (cxX n K) (yN n K) (jE n K)]:=rfl;rw[e];refine⟨lE (lE trivial h) a.2.2,⟨by simp,λs hs=>?_⟩,λs hs=>?_,by rw[nP];exact aN6 n 0 _ _ _ _ _,by simp,by simp⟩
 .rcases A2.1 hs with hs|hs
  .rw[DX,AM]at hs;rw[hs];exact aKP (by omega) (by omega)
  .rw[AM.1 hs];exact aN7 (by omega)
 .rcases A2.1 hs with hs|hs
  .rw[DX,AM]at hs;rw[hs];exact aI6 (by omega)
  .rw[AM.1 hs,aN6];exact⟨yH n,by omega⟩
theorem aGr:∀(f n q:Z),n<=q->q<n+f->gW q=ES->gW (mZ f n)=ES/\mZ f n<=q
 |0,n,q,c,h2,_=>by omega
 |f+1,n,q,c,h2,a=>by
  unfold mZ;cases b:gW n with
  |true=>exact⟨b,c⟩
  |false =>
   have:q≠n:=λe=>by rw[e,b]at a;exact W a (by decide)
   exact aGr f (n+1) q (by omega) (by omega) a
section
theorem nS{α β:Type}{f g:α->EW β}:∀(l:V α) (c:V β),l.mapM f=EU c->(∀a x,f a=EU x->x∈c->g a=EU x)->l.mapM g=EU c
 |[],c,h,_=>h
 |a::l,c,h,e=>by
  simp only[C9,CF,C0,AG,Z1]at h⊢;obtain⟨x,m,d,k,rfl⟩:=h;exact⟨x,e a x m (AA ..),d,nS l d k λb y j i=>e b y j (AC _ i),rfl⟩
theorem aEn{α β:Type}{f g:α->EW β}:∀(l:V α) (c:V β),l.mapM f=EU c->(∀a∈l,∀x,f a=EU x->x∈c->g a=EU x)->l.mapM g=EU c
 |[],c,h,_=>h
 |a::l,c,h,e=>by
  simp only[C9,CF,C0,AG,Z1]at h⊢;obtain⟨x,n,d,m,rfl⟩:=h;exact⟨x,e a (AA ..) x n (AA ..),d,aEn l d m λb k y i j=>e b (AC _ k) y i (AC _ j),rfl⟩
theorem aP9{w w':M}(e:∀b,b<w.heap.size->w'.heap[b]? =w.heap[b]?){a:Addr}{v:R}(h:w.cell? a=EU v):w'.cell? a=EU v:=by
 have c:a.block<w.heap.size:=by
  unfold CE at h
  grind
 unfold CE at h⊢;rw[e _ c];exact h
theorem aLS{w w':M}(e:∀b,b<w.heap.size->w'.heap[b]? =w.heap[b]?){base:Z}{a:Addr}{n:Z}{c:V R}(h:w.cells? base a n=EU c):w'.cells? base a n=EU c:=by
 unfold World.cells? at h⊢
 grind [nS,aP9]
section
variable {H:Type} {enc:TypeId×Value->H} {P:Program} {w w':World}
def aLv(P:EX)(L:V Z)(t:Z):O:=match P.underlying t with
 |some (.pointer e)=>L.elem e
 |some (.slice e)=>L.elem e&&(0).blt (P.cellsOf e)
 |some (.struct a)=>a.toList.all λf=>L.elem f.type
 |some (.array _ e)=>L.elem e
 |some (.interface _)=>ET
 |some (.map _ e)=>L.elem e
 |_=>ES
theorem aGT{L:V Z}(D:L.all (aLv P L)=ES)(e:∀b,b<w.heap.size->w'.heap[b]? =w.heap[b]?)(j:Z->O)(d:O) :
  ∀(fuel:Z) (t:X) (v:V R) (x:DataW H×V MemPlace),t∈L->AP enc P w 0 (λ_=>ES) d fuel t v=EU x->(∀p∈x.2,j p.block=ES)->AP enc P w' 0 j d fuel t v=EU x
 |0,_,_,_,_,h,_=>by simp[AP]at h
 |fuel+1,t,v,x,J,h,k=>by
  have I:=aGT D e j d fuel;have c:=BN.1 D t J;unfold aLv at c;unfold AP at h⊢;have F:∀(a:Addr) (n:Z) (u:X) (y:DataW H×V MemPlace),u∈L->(w.cells? 0 a n).bind (AP enc P w 0 (λ_=>ES) d fuel u)=EU y->(∀p∈y.2,j p.block=ES)->(w'.cells? 0 a n).bind (AP enc P w' 0 j d fuel u)=EU y:=by
   intro a n u y g l K;obtain⟨B,m,s⟩:=AG.1 l;exact AG.2 ⟨B,aLS e m,I u B y g s K⟩
  split at h
  case h_21=>simp at h
  case h_6 =>
   rename_i g;rw[g]at c;obtain⟨y,m,rfl⟩:=AL.1 h;exact AL.2 ⟨y,F _ _ _ _ (A5 c) m λp o=>k p (BE _ o),rfl⟩
  case h_8 =>
   rename_i G a len cap g;rw[g]at c;simp only[Z3,BY]at c;have A:=A5 c.1;dsimp only at h⊢;split at h
   .rename_i r;rw[N r];obtain⟨elems,m,h⟩:=AG.1 h;obtain⟨rest,s,rfl⟩:=AL.1 h;rw[N rfl]at s;have z:=c.2;have q1:∀y∈elems,∀p∈y.2,j p.block=ES:=λy l p o=>k p (BE _ (DO.2 ⟨y,BO _ l,o⟩));have q2:∀y∈rest,∀p∈y.2,j p.block=ES:=λy l p o=>k p (BE _ (DO.2 ⟨y,BE _ l,o⟩));refine AG.2 ⟨elems,nS _ _ m λi y M l=>F _ _ _ _ A M (q1 y l),AL.2 ⟨rest,?_,rfl⟩⟩;by_cases E:rest=[]
    .subst E;have:cap-len=0:=by
      rcases AN (cap-len)with h|h
      .exact h
      .obtain⟨n,hn⟩:=Nat.exists_eq_succ_of_ne_zero (Nat.pos_iff_ne_zero.1 h)
       simp_all [List.range_succ_eq_map,AG]
     grind
    .have q:0<(elems.length+rest.length)*P.cellsOf G:=DD (by have:=List.length_pos_iff.2 E;omega) z;have:j a.block=ES:=k (.cell a.block (a.off+0)) (BO _ (B9.2 ⟨0,BL.2 q,rfl⟩))
     grind [nS]
   .simp at h
  case h_9 =>
   rename_i fs g;rw[g]at c;split at h
   .grind [AL,aEn,A5,BN]
   .simp at h
  case h_10 =>
   rename_i n G g;rw[g]at c;split at h
   .grind [AL,nS,A5]
   .simp at h
  case h_12 =>
   rename_i g;rw[g]at c;simp at c
  case h_14 =>
   rename_i b g;rw[g]at c;split at h
   .rename_i es clock C;rw[e b (BU.1 C).1,C];dsimp only;split at h
    .rename_i r;rw[N r];obtain⟨entries,m,h⟩:=AG.1 h;have hpl:∀y∈entries,∀p∈y.2,j p.block=ES:=by
      grind
     refine AG.2 ⟨entries,nS _ _ m λf y hf l=>?_,h⟩
     grind [AG,AL,A5]
    .simp at h
   .simp at h
  all_goals
   exact h
theorem aAD{L:V Z}(m:L.all (aLv P L)=ES)(e:∀b,b<w.heap.size->w'.heap[b]? =w.heap[b]?)(g:Z->O) :
  ∀(a:V X) (f:V R) (j:V (DataW H)) (i:V MemPlace),(∀t∈a,t∈L)->CI enc P w 0 (λ_=>ES) ES a f j i->(∀p∈i,g p.block=ES)->CI enc P w' 0 g ES a f j i
 |[], [], [],_,_,h,_=>h
 |t::a,v::f,d::j,i,l,h,c=>by
  obtain⟨p,q,⟨fuel,r⟩,o,rfl⟩:=h;exact⟨p,q,⟨fuel,aGT m e g ES fuel t _ _ (l t (AA ..)) r λp k=>c p (BO _ k)⟩,aAD m e g a f j q (λu n=>l u (AC _ n)) o λp k=>c p (BE _ k),rfl⟩
 |[],_::_,_,_,_,h,_=>h.elim
 |[], [],_::_,_,_,h,_=>h.elim
 |_::_, [],_,_,_,h,_=>h.elim
 |_::_,_::_, [],_,_,h,_=>h.elim
end
end
section
abbrev noS:Z->Prop:=λ_=>r
section
variable {H:Type} {enc:TypeId×Value->H} {P:Program} {w:World} {sp:Nat->Bool} {held:Bool}
theorem aEm{α β:Type}{f:α->EW β}:∀(l:V α) (c:V β),l.mapM f=EU c->∀a∈l,∃x,f a=EU x
 |[],_,_,a,ha=>by simp at ha
 |b::l,c,h,a,ha=>by
  simp only[C9,CF,C0,AG,Z1]at h;obtain⟨x,g,d,e,rfl⟩:=h;rcases B1.1 ha with rfl|ha
  .exact⟨x,g⟩
  .exact aEm l d e a ha
theorem aLx{t:X}{a:T Field}{fuel:Z}{b:V R}{x:DataW H×V MemPlace}(d:P.underlying t=EU (.struct a))(h:AP enc P w 0 sp held fuel t b=EU x) :
  b.length=P.cellsOf t/\∃fuel',∀f∈a.toList,∃y,AP enc P w 0 sp held fuel' f.type ((b.drop f.offset).take (P.cellsOf f.type))=EU y:=by
 cases fuel with
 |zero=>simp[AP]at h
 |succ fuel =>
  unfold AP at h;rw[d]at h;split at h
  all_goals first|(rename_i j;simp at j;done)|skip
  .rename_i fs' c;simp only[Z1,TypeDesc.struct.injEq]at c;subst c;split at h
   .rename_i g;obtain⟨xs,i,rfl⟩:=AL.1 h;exact⟨g,fuel,aEm _ _ i⟩
   .simp at h
  .rename ∀(fs_1:T Field),EU (TypeDesc.struct a)=EU (TypeDesc.struct fs_1)->r=>e
   exact(e a rfl).elim
theorem trod_array{t e:X}{n:Z}{fuel:Z}{a:V R}{x:DataW H×V MemPlace}(c:P.underlying t=EU (.array n e))(h:AP enc P w 0 sp held fuel t a=EU x) :
  a.length=P.cellsOf t/\∃fuel',∀i,i<n->∃y,AP enc P w 0 sp held fuel' e ((a.drop (i*P.cellsOf e)).take (P.cellsOf e))=EU y:=by
 cases fuel with
 |zero=>simp[AP]at h
 |succ fuel =>
  unfold AP at h;rw[c]at h;split at h
  all_goals first|(rename_i l;simp at l;done)|skip
  .rename_i n' e' b;simp only[Z1,TypeDesc.array.injEq]at b;obtain⟨rfl,rfl⟩:=b;split at h
   .rename_i g;obtain⟨xs,j,rfl⟩:=AL.1 h;exact⟨g,fuel,λi d=>aEm _ _ j i (BL.2 d)⟩
   .simp at h
  .rename ∀(k:Z) (e_1:X),EU (TypeDesc.array n e)=EU (TypeDesc.array k e_1)->r=>f
   exact(f n e rfl).elim
theorem trod_int{t:X}{k:IntKind}{fuel:Z}{c:V R}{x:DataW H×V MemPlace}(d:P.underlying t=EU (.int k))(h:AP enc P w 0 sp held fuel t c=EU x) :
  ∃n,c=[.int k n]/\(C8 k n).wf=ES:=by
 cases fuel with
 |zero=>simp[AP]at h
 |succ fuel =>
  unfold AP at h;rw[d]at h;split at h
  all_goals first|(rename_i e;simp at e;done)|skip
  .rename_i k0 k' n a;simp only[Z1,TypeDesc.int.injEq]at a;subst a;split at h
   .rename_i b;exact⟨n,by rw[b.1],b.2⟩
   .simp at h
  .simp at h
end
end
section
open Go Go.ChangeShapes Go.WideShapes Go.ChangeAt Go.RowKit
theorem own:ownKnob Tryz.prog.godebug=EV:=by kernel_rfl
theorem aFE{v:R}{a b:R}{r:V R}(h:v.cells.toList=a::b::r):v= .agg (a::b::r).toArray:=by
 cases v<;>first|(simp[D8]at h;done)|skip
 rename_i c;have:c=(a::b::r).toArray:=by apply EK;simpa [D8]using h
 rw[this]
theorem aQb:Tryz.prog.cellsOf 22=1:=by kernel_rfl
theorem aQa:Tryz.prog.cellsOf 3=1:=by kernel_rfl
section
variable {H:Type} {enc:TypeId×Value->H} {w:World} {sp:Nat->Bool} {held:Bool}
theorem aMZ{n:U}(h:(C8 .u16 n).wf=ES):0<=n/\n<=65535:=by simpa [D5,CR,CS,CB,CJ]using h
theorem aQ5{P:EX}{f:Func}{s:ChangeSpec}{apart fresh e again:O}{W W':M}{args:T R}{v:R}{l gs:V (DataW H)}{before pa pv:V MemPlace}(n:EA enc P f.params.toList s.vars apart W args.toList l gs before)(i:∀(b:Z) (sp:Z->O) (A:O),CI enc P W' b sp A f.resultTypes.toList (v.resultList f.resultTypes.size) (s.fn H (l++gs)).results [])(d:∀sp:Z->O,(∀p∈before,sp p.block=ES)->CI enc P W' 0 sp ES f.params.toList args.toList (s.fn H (l++gs)).args pa)(c:∀sp:Z->O,(∀p∈before,sp p.block=ES)->DataW.TrodVars enc P W' sp s.vars (s.fn H (l++gs)).vars pv)(h:before=pa++pv)(z:W.keptBut W' (·∈before))(q:∀a:Addr,a.block<W.heap.size->W'.frozen? a=W.frozen? a)(o:∀(j:Z) (t:X) (r:R),f.resultTypes[j]? =EU t->(v.resultList f.resultTypes.size)[j]? =EU r->CN P W' .any 0 t r) :
  s.post enc P f apart fresh e again W args v W':=by
 have m:∀p∈before,p.block<W.heap.size:=n.lt;have k:∀p∈before,(λb=>decide (b<W.heap.size)) p.block=ES:=λp g=>by simpa using m p g
 refine⟨l,gs,before, [],pa,pv,n,i _ _ _,d _ k,c _ k,World.keptBut_mono (λp g=>⟨g,?_⟩) z,λ_=>?_⟩
 .rw[h,A2]at g;exact Or.inr g
 .obtain⟨_,_,_,_,_,x,y⟩:=n;refine⟨o,_,_,([]++pa)++pv,⟨[]++pa,pv,trodAll_append (d _ (λ_ _=>rfl)) (i _ _ _),c _ (λ_ _=>rfl),rfl,?_,?_⟩,?_⟩
  .intro b off g;have u:MemPlace.cell b off∈before:=by rw[h];simpa using g
   rw[q ⟨b,off,EV⟩ (m _ u)];exact x b off u
  .intro B;have:=y B;rw[h]at this
   simpa using this
  .intro p g _;rw[h]
   simpa using g
set_option maxRecDepth 100000 in
theorem aQG{j:Func}{s:ChangeSpec}(ctr:Ctr AD)(b:s.vars=[])(d:j.resultTypes=#[4]){L:V Z}(B:L.all (aLv AD L)=ES)(o:∀t∈j.params.toList,t∈L){apart fresh c again:O}{W:M}{args:T R}{m gs:V (DataW H)}{before:V MemPlace}(u:EA enc AD j.params.toList s.vars apart W args.toList m gs before)(C:GW noS W)(g:∃i p,ctr.spec i=EU (p,.ret (.bool ES))/\p.holds/\RepAll (Ctx.args noS) W i args.toList)(a:s.fn H (m++gs)={ results:=[.lit (.bool ES)],args:=m }) :
  Calls AD ctr.f args W λe W'=>∃v,e= .returned v/\s.post enc AD j apart fresh c again W args v W':=by
 obtain⟨i,p,G,F,E⟩:=g;refine(ctr.ok noS W i args p _ G F (λ_ h=>h.elim) C E).mono λe W' ⟨l,k⟩=>?_;obtain⟨v,rfl,z⟩:∃v,e= .returned v/\Rep (Ctx.res noS) W' (.bool ES) v:=by
  cases e with
  |returned v=>exact⟨v,rfl,k⟩
  |panicked _=>exact k.elim
  |outgrown=>exact k.elim
 have hv:v= .bool ES:=gP z;subst hv;refine⟨_,rfl,?_⟩;have r:=u;obtain⟨p,q,D,x,rfl,_,_⟩:=u;rw[b]at x;obtain⟨rfl,rfl⟩:gs=[]/\q=[]:=trodVars_none x;refine aQ5 (pa:=p) (pv:=[]) r (λ_ _ _=>?_) (λsp n=>?_) (λ_ _=>?_) rfl (l.kept _) l.frz ?_
 .rw[a,d];exact trodAll_cons_mk (shut_bool DM _) trodAll_mk0
 .rw[a];exact aAD B l.block sp _ _ _ _ o D λp A=>n p (BO _ A)
 .rw[a,b];rfl
 .have y:CN AD W' .any 0 4 (.bool ES):=okWide_bool_mk DM ES;exact ok_one d rfl y
end
end
section
open Go Go.ChangeShapes Go.WideShapes Go.ChangeAt Go.RowKit
theorem aJN:Tryz.prog.cellsOf 5=1:=by kernel_rfl
theorem aKp{W:M}{name:String}{g:Z}{k:IntKind}{tA tE:X}{l:V U}{r:T R}{fuel:Z}{p:V MemPlace}(E:Tryz.prog.underlying tA=EU (.array l.length tE))(A:Tryz.prog.underlying tE=EU (.int k))(w:Tryz.prog.cellsOf tE=1)(G:Tryz.prog.globalNamed name=EU g)(hv:W.var? AD name=EU r)(d:AP (λ_=>()) AD W 0 (λ_=>ES) ET fuel tA r.toList=EU ((.agg (l.map λn=>.lit (.int k n)):DataW Unit),p))(H:0<l.length) :
  g<W.heap.size/\seg W g 0 (l.map (Value.int k)):=by
 obtain⟨D,m1,rfl,a,o,F,b⟩:=DataW.trod_array E d;rw[w]at b;simp only[Z2]at a;have d:=a.1;rw[DataW.agg.injEq]at d;have key:∀i,i<l.length->W.cell? ⟨g,i,EV⟩=EU (.int k (l.getD i 0)):=by
  intro i u;have B:=b i u;obtain⟨x,m⟩:∃x,D[i]? =EU x:=⟨_,AR (by omega)⟩;rw[m]at B;obtain⟨j,C,I,_⟩:=DataW.trod_int A B;have s:x.1= .lit (.int k (l.getD i 0)):=by
   have c:(l.map λn=>(DataW.lit (C8 k n):DataW Unit))[i]? =EU x.1:=by
    rw[d,CQ,m];rfl
   rw[CQ,AR u]at c;simp only[C1,Z1]at c;rw[<-c,A0,AR u];rfl
  rw[I]at s;simp only[DataW.lit.injEq,Lit.int.injEq,true_and]at s;subst s;have:=World.var?_cell G hv i;rw[this];rw[B0]at C;have c:(r.toList.drop i)[0]? =EU (.int k (l.getD i 0)):=by
   have:((r.toList.drop i).take 1)[0]? =EU (.int k (l.getD i 0)):=by rw[C];rfl
   rw[List.getElem?_take]at this
   simpa using this
  rw[List.getElem?_drop]at c
  simpa using c
 clear b hv F o d a;have z:=key 0 H;obtain⟨arr,ty,f,y⟩:∃arr ty f,W.heap[g]? =EU (.cells arr ty f):=by
  unfold CE at z;split at z
  .rename_i arr ty f e;exact⟨arr,ty,f,e⟩
  .simp at z
 have w:∀(i:Z) v,W.cell? ⟨g,i,EV⟩=EU v->arr[i]? =EU v:=λi v h=>by
  unfold CE at h;rw[show W.heap[(⟨g,i,EV⟩:Addr).block]? =_ from y]at h;exact h
 refine⟨(BU.1 y).1,arr,ty,f,y,λj v hv=>?_⟩;rw[CU];rw[CQ]at hv;have t:j<l.length:=by
  rcases AJ j l.length with q|q
  .exact q
  .rw[List.getElem?_eq_none q]at hv;simp at hv
 have:=w _ _ (key j t);rw[this];rw[AR t]at hv;rw[A0,AR t];exact hv
abbrev aKo : List (String × DataW Unit) := [("math/bits.deBruijn64tab", Rows.laid_math_bits_deBruijn64tab), ("algorist/modular.signs", Rows.laid_algorist_modular_signs)]
theorem bHt : Tryz.prog.globalNamed "math/bits.deBruijn64tab" = some 0 := by kernel_rfl
theorem bHI:(Tryz.prog.globals[0]?).map (·.type)=EU 184:=by kernel_rfl
theorem aQE:(Rows.laid_math_bits_deBruijn64tab:DataW Unit)= .agg ((jJ 0).map λn=>.lit (.int .u8 n)):=rfl
theorem bHs : Tryz.prog.globalNamed "algorist/modular.signs" = some 3 := by kernel_rfl
theorem bHH:(Tryz.prog.globals[3]?).map (·.type)=EU 206:=by kernel_rfl
theorem aTz:(Rows.laid_algorist_modular_signs:DataW Unit)= .agg ((jJ 3).map λn=>.lit (.int .i64 n)):=rfl
theorem aTo{g:Z}(h:gOn g=ES):g=0\/g=3:=by
 simp[gOn]at h;omega
theorem aKe{W:M}(h:laidMetH AD aKo W):GW noS W:=by
 rw[MakeChecks.laidMetH_plain _ _ _ (by kernel_rfl)]at h;obtain⟨ps,⟨g0,t0,cs0,f0,p0,q0,d,m,j,f,⟨g1,t1,cs1,f1,p1,q1,c,k,i,e,_,_⟩,_⟩,_,_⟩:=h;obtain rfl:=BZ (bHt.symm.trans d);obtain rfl:=BZ (bHI.symm.trans m);obtain rfl:=BZ (bHs.symm.trans c);obtain rfl:=BZ (bHH.symm.trans k);rw[aQE]at f;rw[aTz]at e;have a:=aKp (l:=jJ 0) Tryz.underlying184 DL aJN d j f (by decide);have b:=aKp (l:=jJ 3) Tryz.underlying206 Tryz.underlying3 aQa c i e (by decide);intro g n;rcases aTo n with rfl|rfl
 .exact⟨id,a⟩
 .exact⟨id,b⟩
theorem aS7(os:Os)(args:T R):laidMetH AD aKo ((World.doorLaid AD 400 os).forCall (λ_ _=>0) ⟨#[],args, []⟩).memory :=
 laidMetH_of_parts3 (fuel:=8) (laidMet_of_run' 8 (by kernel_rfl) (by kernel_rfl)) (by kernel_rfl) (by kernel_rfl)
theorem bGk{P:EX}{W:M}{base:Z}{args:T R}{b:T X}(a:∀(j:Z) t v,b[j]? =EU t->args[j]? =EU v->CN P W .any base t v){j:Z}{t:X}{v:R}(d:b[j]? =EU t)(c:args[j]? =EU v):CN P W .any base t v:=a j t v d c
theorem bCK{n:U}(h:(C8 .i64 n).wf=ES): -9223372036854775808<=n/\n<=9223372036854775807:=by simpa [D5,CR,CS,CB,CJ]using h
end
def pS:V Z:=[2,3,5,7,11,13,17,19,23,29,31,37,41,43,47,53,59,61,67,71,73,79,83,89]
def P41:Z:=304250263527210
def P89:Z:=23768741896345550770650537601358310
def N26:Z:=67108880
def aO4:V Z->Z
 |[]=>1
 |p::r=>p*aO4 r
theorem yL{m:Z}:∀l:V Z,(∀b∈l,A8 m b=1)->A8 m (aO4 l)=1
 |[],_=>Nat.gcd_one_right m
 |p::r,h=>Nat.Coprime.mul_right (h p (AA ..)) (yL r λb a=>h b (AC _ a))
theorem aT7:aO4 bD=P41:=by decide +kernel
theorem aT8:aO4 pS=P89:=by decide +kernel
theorem bC8:∀q∈pS,1<q/\∀d,d<q+1->q%d=0->d=1\/d=q:=by decide +kernel
theorem aEs{q:Z}(h:q∈pS):Pri q:=by
 obtain⟨c,b⟩:=bC8 q h;exact⟨c,λd a=>b d (by have:=AS (by omega) a;omega) (CA a)⟩
theorem bBy:∀b∈bD,b∈pS:=by decide +kernel
theorem aDZ:∀b∈bD,2<=b/\b<=41:=by decide +kernel
theorem aRg:∀p,p<43->1<p->∃b∈bD,p%b=0:=by decide +kernel
theorem aMT:∀p,p<90->1<p->∃b∈pS,p%b=0:=by decide +kernel
def bBK(n e:Z):Z:=((2^(e/8192)%n)^64%n)^128%n*2^(e%8192)%n
theorem bEg(n x y c d:Z):((2^x%n)^c%n)^d%n*2^y%n=2^(x*c*d+y)%n:=by
 rw[<-BQ,<-CG,<-BQ,<-CG,Nat.mod_mul_mod,<-BR,BD]
theorem bFY(e:Z):e/8192*64*128+e%8192=e:=by omega
theorem aVA(n e:Z):bBK n e=2^e%n:=by
 have h:=bEg n (e/8192) (e%8192) 64 128;rw[bFY]at h;exact h
def okC(n m:Z):O:=!(AZ (A8 m P41) 1) ||(!(AZ (bBK n (n-1)) 1) || !(gW n))
def pR(f:Z->O):Z->Z->O
 |0,a=>f a
 |k+1,a=>pR f k a&&pR f k (a+2^k)
theorem fN(f:Z->O):∀(k a i:Z),pR f k a=ES->a<=i->i<a+2^k->f i=ES
 |0,a,i,h,h1,b=>by
  obtain rfl:i=a:=by rw[BA]at b;omega
  exact h
 |k+1,a,i,h,h1,b=>by
  rw[pR,Z3]at h;rw[BB]at b;rcases AJ i (a+2^k)with q|q
  .exact fN f k a i h.1 h1 q
  .exact fN f k _ i h.2 q (by omega)
def aTs(p x:Z):V Z->O
 |[]=>ET
 |a::r=>(AZ (a^(p-1)%p) 1&&!(AZ (a^x%p) 1)) ||aTs p x r
def bCZ:Z->Z->Z->Z
 |0,_,_=>0
 |f+1,r,q=>EY (AZ (r%q) 0) (bCZ f (r/q) q+1) 0
def aXR:V Z->Z->V (Z×Z)
 |[],r=>EY (AZ r 1) [] [(r,0)]
 |q::t,r=>EY (AZ (r%q) 0) ((q,bCZ 13 r q-1)::aXR t (r/q^bCZ 13 r q)) (aXR t r)
def bEe(q:Z):O:=pS.elem q ||(CY 89 q&&(CY q 8100&&AZ (A8 q P89) 1))
def okF(p:Z):V (Z×Z)->Z->O
 |[],D=>AZ D (p-1)
 |(q,e)::t,D=>bEe q&&(AZ (A8 D (q^(e+1))) 1&&(AZ ((p-1)%q^(e+1)) 0&&(aTs p ((p-1)/q) bD&&okF p t (D*q^(e+1)))))
def okK(p k:Z):O:=!(CY (p*(1+(k+1)*(p-1))) N26) ||okC (p*(1+(k+1)*(p-1))) (1+(k+1)*(p-1))
def bCg(p:Z):O :=
 EY (AZ (A8 p P41) 1) (EY (CY 89 p&&!(AZ (A8 p P89) 1)) ES (okF p (aXR pS (p-1)) 1&&pR (okK p) (CH (N26/(p*(p-1)))+1) 0)) ES
def wG(i:Z):O:=bCg (43+2*i)
theorem bFM:pR wG 1 0=ES:=by decide +kernel
theorem bFN:pR wG 1 2=ES:=by decide +kernel
theorem bFO:pR wG 2 4=ES:=by decide +kernel
theorem bFP:pR wG 2 8=ES:=by decide +kernel
theorem bCh:pR wG 2 12=ES:=by decide +kernel
theorem bCi:pR wG 3 16=ES:=by decide +kernel
theorem bCj:pR wG 3 24=ES:=by decide +kernel
theorem bCk:pR wG 4 32=ES:=by decide +kernel
theorem bCl:pR wG 4 48=ES:=by decide +kernel
theorem bCm:pR wG 6 64=ES:=by decide +kernel
theorem aXr:pR wG 7 128=ES:=by decide +kernel
theorem aXs:pR wG 8 256=ES:=by decide +kernel
theorem aXt:pR wG 9 512=ES:=by decide +kernel
theorem aSR:pR wG 10 1024=ES:=by decide +kernel
theorem aSS:pR wG 11 2048=ES:=by decide +kernel
theorem aXu{i:Z}(h:i<4096):bCg (43+2*i)=ES:=by
 show wG i=ES;rcases AJ i 2 with q|q
 .exact fN _ 1 0 i bFM (by omega) q
 rcases AJ i 4 with q|q
 .exact fN _ 1 2 i bFN (by omega) q
 rcases AJ i 8 with q|q
 .exact fN _ 2 4 i bFO (by omega) q
 rcases AJ i 12 with q|q
 .exact fN _ 2 8 i bFP (by omega) q
 rcases AJ i 16 with q|q
 .exact fN _ 2 12 i bCh (by omega) q
 rcases AJ i 24 with q|q
 .exact fN _ 3 16 i bCi (by omega) q
 rcases AJ i 32 with q|q
 .exact fN _ 3 24 i bCj (by omega) q
 rcases AJ i 48 with q|q
 .exact fN _ 4 32 i bCk (by omega) q
 rcases AJ i 64 with q|q
 .exact fN _ 4 48 i bCl (by omega) q
 rcases AJ i 128 with q|q
 .exact fN _ 6 64 i bCm (by omega) q
 rcases AJ i 256 with q|q
 .exact fN _ 7 128 i aXr (by omega) q
 rcases AJ i 512 with q|q
 .exact fN _ 8 256 i aXs (by omega) q
 rcases AJ i 1024 with q|q
 .exact fN _ 9 512 i aXt (by omega) q
 rcases AJ i 2048 with q|q
 .exact fN _ 10 1024 i aSR (by omega) q
 exact fN _ 11 2048 i aSS (by omega) h
theorem aZw{q:Z}(h:bEe q=ES):Pri q:=by
 unfold bEe at h;rcases BI _ _ ▸ h with h|h
 .exact aEs (List.elem_iff.1 h)
 .rw[Z3,Z3,BY,BY]at h;obtain⟨h1,h2,e⟩:=h;have e:=AH e;refine AE λi=>?_;obtain⟨p,g,j,hle⟩:=qK (by omega) i;have d:p<90:=by
   rcases AJ p 90 with w|w
   .exact w
   .have:=AX w w;omega
  obtain⟨b,k,c⟩:=aMT p d g.lt;have a:b ∣ q:=A6 (AF c) j;have f:b ∣ P89:=by
   rw[<-aT8];clear a c
   revert b
   decide +kernel
  have:=Nat.dvd_gcd a f;rw[e]at this;have:=(aEs k).lt;have:=AS (by omega) ‹b ∣ 1›;omega
theorem aOo{p x:Z}:∀l:V Z,aTs p x l=ES->∃a∈l,a^(p-1)%p=1/\a^x%p≠1
 |[],h=>by simp[aTs]at h
 |a::r,h=>by
  rw[aTs]at h;rcases BI _ _ ▸ h with h|h
  .rw[Z3]at h;refine⟨a,AA ..,AH h.1,λw=>?_⟩;have c:=h.2;rw[w]at c;exact W c (by decide)
  .obtain⟨b,d,h⟩:=aOo r h;exact⟨b,AC _ d,h⟩
theorem aT0{p K:Z}(m:1<p)(o:∀a∈bD,a^K%p=1):∀(l:V (Z×Z)) (D:Z),okF p l D=ES->D ∣ K->p-1 ∣ K
 |[],D,h,d=>by rw[<-AH h];exact d
 |(q,e)::t,D,h,d=>by
  rw[okF,Z3,Z3,Z3,Z3]at h;obtain⟨w,f,v,u,s⟩:=h;have k:=aZw w;have f:A8 D (q^(e+1))=1:=AH f;obtain⟨c,n⟩:=AF (AH v);obtain⟨a,r,j,i⟩:=aOo _ u;have g:0<q:=by have:=k.lt;omega
  have x:(p-1)/q=q^e*c:=by
   rw[n,CM,BD];exact AY _ g
  have b:1%p=1:=AK m;have:=aKR (a:=a) (c:=c) (K:=K) k (by rw[<-n,b];exact j) (by rw[b];exact o a r) (by rw[<-x,b];exact i);exact aT0 m o t _ s (CC f d this)
theorem bGO{n:Z}(h:gW n=ES)(G:n<N26):Pri n:=by
 rcases aX5 h with w|w
 .exact aEs (bBy n w)
 refine AE λz=>?_;obtain⟨p,j,k,l⟩:=qK w.lt z;have hN:N26=67108880:=rfl;have hp43:43<=p:=by
  rcases AJ p 43 with q|q
  .obtain⟨b,e,C⟩:=aRg p q j.lt;exact W (A6 (AF C) k) (w.nd b e)
  .exact q
 have hodd:p%2=1:=by
  rcases BW p with q|q
  .exact W (A6 (AF q) k) (w.nd 2 (by decide))
  .exact q
 have hp8:p<8193:=by
  rcases AJ p 8193 with q|q
  .exact q
  .have:=AX q q;omega
 have d:=aXu (i:=(p-43)/2) (by omega);rw[show 43+2*((p-43)/2)=p by omega]at d;have s:∀b∈bD,A8 p b=1:=λb e=>j.cop λq=>by
  have:=AS (by have:=aDZ b e;omega) q;have:=aDZ b e;omega
 have D:A8 p P41=1:=by rw[<-aT7];exact yL _ s
 unfold bCg at d;rw[D]at d;have r:(CY 89 p&&!(AZ (A8 p P89) 1))=ET:=by
  cases e:CY 89 p with
  |false=>rfl
  |true =>
   rw[BY]at e;have:A8 p P89=1:=by
    rw[<-aT8];refine yL _ λb c=>j.cop λq=>?_;have F:=AS (by have:=(aEs c).lt;omega) q;have E:∀b∈pS,b<=89:=by decide +kernel
    have:=E b c;omega
   rw[this];rfl
 rw[r]at d;have d:(okF p (aXR pS (p-1)) 1&&pR (okK p) (CH (N26/(p*(p-1)))+1) 0)=ES:=d;rw[Z3]at d;obtain⟨I,J⟩:=d;have hpn:p<=n:=AS (by have:=w.lt;omega) k;have g:∀a∈bD,a^(n-1)%n=1:=λa v=>by
  have:=aDZ a v;exact wU (by omega) (by have:(2:Z)^128=340282366920938463463374607431768211456:=rfl;omega) (w.st a v) (by rw[AK (by omega)];omega)
 have o:=aT0 j.lt (λa v=>by rw[<-AW _ k,g a v];exact AK j.lt) _ 1 I (C4 _);obtain⟨m,u⟩:=k;have hmp:p<=m:=by
  rw[u]at l;exact Nat.le_of_mul_le_mul_left l (by omega)
 have B:p-1 ∣ m-1:=by
  have L:n-1=(p-1)*m+(m-1):=by
   obtain⟨p',rfl⟩:∃p',p=p'+1:=⟨p-1,by omega⟩;obtain⟨m',rfl⟩:∃m',m=m'+1:=⟨m-1,by omega⟩;rw[u];show(p'+1)*(m'+1)-1=p'*(m'+1)+m';have:(p'+1)*(m'+1)=p'*(m'+1)+m'+1:=by grind
   omega
  rw[L]at o;exact(Nat.dvd_add_right (BM (p-1) m)).1 o
 obtain⟨t,x⟩:=B;have ht1:t≠0:=λq=>by rw[q,CV]at x;omega
 have A:m=1+(t-1+1)*(p-1):=by
  rw[CW,show t-1+1=t by omega,<-x];omega
 have y:0<p*(p-1):=DD (by omega) (by omega);have H:t-1<0+2^(CH (N26/(p*(p-1)))+1):=by
  have F:t*(p*(p-1))<=N26:=by
   have:t*(p*(p-1))=p*((p-1)*t):=by grind
   rw[this,<-x];have:p*(m-1)<=p*m:=BH _ (by omega);omega
  have E:t<=N26/(p*(p-1)):=(Nat.le_div_iff_mul_le y).2 F;have h3:=Nat.lt_log2_self (n:=N26/(p*(p-1)));omega
 have f:=fN _ _ 0 (t-1) J (Z9 _) H;unfold okK at f;rw[<-A,<-u]at f;have e:CY n N26=ES:=by rw[BY];exact G
 rw[e]at f;have f:okC n m=ES:=f;unfold okC at f;have K:A8 m P41=1:=by
  rw[<-aT7];refine yL _ λb c=>?_;rw[ED];exact(aEs (bBy b c)).cop λq=>w.nd b c (by rw[u];exact A6 q (DV ..))
 rw[K,aVA,g 2 (by decide),h]at f;exact Bool.noConfusion (show ET=ES from f)
def bC4:V Z:=[13,13,19,1,17,23,19,23,1,1,17,1,7,13,13,1,7,43,31,19,13,37,1,13,19,7,19,17,13,31,7,7,1,7,29,17,1,1,7,7,37,1,17,13,1,7,17,1,13,67,7,7,1,13,7,1,41,7,1,7,1,19,13,13,1,13,1,29,7,23,13,7,7,17,23,17,13,17,17,19,1,23,7,1,23,13,1,17,7,1,17,61,17,1,17,23,7,41,19,47,47,7,1,1,1,31,17,29,19,23,1,19,19,7,1,47,17,23,1,23,29,19,1,1,17,17,59,7,1,1,7,7,1,7,7,23,1,13,1,1,37,13,1,7,17,19,1,7,1,41,17,23,1,29,7,1,1,13,29,7,19,17,89,19,13,1,29,17,7,19,13,13,1,19,13,23,41,1,7,13,7,17,23,17,13,1,23,19,1,73,17,7,1,7,17,1,13,1,13,83,37,29,13,49,13,37,19,7,1,17,31,7,19,17,7,61,13,13,7,1,19,7,7,29,31,13,19,29,7,49,13,47,61,7,1,71,23,1,7,7,1,13,29,1,13,7,43,37,17,7,1,17,13,19,1,13,7,1,47,7,13,1,1,13,7,23,19,7,1,13,41,29,19,13,1,1,1,37,19,1,19,1,7,43,7,1,29,13,7,13,7,13,7,29,13,17,1,7,49,19,1,31,13,7,13,1,7,41,13,1,1,17,7,23,29,17,29,13,7,1,19,17,13,61,29,1,1,1,17,7,1,1,31,1,1,1,7,17,7,71,1,17,29,7,1,7,19,1,1,17,41,31,41,1,17,29,1,23,19,1,17,7,47,1,19,1,13,1,17,1,13,7,1,1,19,7,23,13,13,7,43,19,1,7,17,47,1,41,29,7,7,19,13,1,7,13,29,31,41,7,13,19,29,23,17,17,17,31,19,13,37,1,17,7,19,61,17,13,1,13,7,29,13,17,1,7,1,53,29,29,37,13,43,13,37,7,89,13,29,7,13,31,7,7,13,1,7,1,7,17,29,17,13,19,1,7,13,13,7,13,1,13,53,41,1,1,1,7,19,17,17,1,7,23,7,13,61,7,1,13,49,7,13,7,13,7,17,1,29,37,7,17,1,23,1,1,1,67,13,23,1,7,19,47,41,43,1,17,1,19,23,19,1,1,7,53,7,53,19,1,7,13,1,1,31,7,7,29,31,13,31,1,7,31,1,1,1,49,17,47,13,13,1,43,1,17,13,1,19,1,7,7,53,13,1,29,41,1,7,13,13,13,1,23,23,29,19,13,19,7,1,31,43,13,47,41,13,7,1,17,13,7,13,7,7,1,43,1,23,29,49,19,7,1,19,7,7,19,1,17,1,1,7,7,19,7,23,17,17,13,49,13,1,7,31,31,31,19,1,29,7,7,23,17,13,43,7,1,43,1,19,1,23,1,7,1,31,13,1,7,23,7,7,13,17,13,13,7,71,7,17,7,1,1,19,1,1,1,17,1,29,19,7,7,23,17,13,19,19,1,17,13,23,1,7,7,17]
def aXq:Z->V Z->O
 |_, []=>ES
 |b,d::r=>Nat.ble d 100&&(gW (b+d)&&aXq (b+99000) r)
theorem aJQ:∀(l:V Z) (b i:Z),aXq b l=ES->i<l.length->∃d,d<=100/\gW (b+99000*i+d)=ES
 |[],_,i,_,h=>W h (C6 i)
 |d::r,b,i,h,a=>by
  unfold aXq at h;simp only[Z3,Nat.ble_eq]at h
  match i,a with
  |0,_=>exact⟨d,h.1,h.2.1⟩
  |i+1,a =>
   obtain⟨e,f,c⟩:=aJQ r (b+99000) i h.2.2 (by simp at a;omega);exact⟨e,f,by rw[show b+99000*(i+1)+e=b+99000+99000*i+e by omega];exact c⟩
theorem aYq:aXq 99000 bC4=ES:=by decide +kernel
theorem aTY:bC4.length=677:=by decide +kernel
theorem bEA:gW 67108879=ES:=by decide +kernel
theorem aHU:gW 65003=ES:=by decide +kernel
structure NxtOk (m u:Nat):Prop where
 pn:gW (fK m)=true
 pr:Pri (fK m)
 lo:m<=fK m
 hi:fK m<=u
theorem rM{m q:Z}(h:m<=q)(f:q<m+100000)(d:gW q=ES)(e:q<N26):NxtOk m q:=by
 obtain⟨a,b⟩:=aGr 100000 m q h f d;have c:=aEq 100000 m;rw[<-aOR]at a b c;exact⟨a,bGO a (DI b e),c,b⟩
theorem rN{m:Z}(h:m<67108867):∃q,q<=67108879/\q<m+100000/\NxtOk m q:=by
 by_cases hm:67023000<=m
 .exact⟨67108879,Z0 _,by omega,rM (by omega) (by omega) bEA (by unfold N26;omega)⟩
 .obtain⟨d,h1,a⟩:=aJQ bC4 99000 (m/99000) aYq (by rw[aTY];omega);exact⟨99000+99000*(m/99000)+d,by omega,by omega,rM (by omega) (by omega) a (by unfold N26;omega)⟩
def mdE:Env AD:=aS8 [aSC] [.pt (aXj 0),.pt (bFH 10),.pt (bCe 4),.pt bFG] (fun|999994=> [0]|_=> []) aC (λ_ _=>EV)
theorem aVU(a n i:U)(k:Z)(g:Z->MV)(b:_)(q:b=(J EZ n))(h:_)(p:h=(fK (z (J EZ (3+A b 67108864))):U))(f:_)(o:f=(fK (z (J EZ (5+A b 1048576))):U))(e:_)(m:e=(fK (z (J EZ (7+A b 1500))):U))(c:_)(l:c=(z (J EZ i)))(d:_)(j:d=(fK (z (A b 65000)):U)):(((4:U)=0->r)/\bif A a 4==0 then ((65000:U)=0->r)/\(0<=A b 65000/\A b 65000<1099511627776/\gW (fK (z (A b 65000)))=ES)/\provP 0 0 (λx=>MV.any) d/\u (jA 0 (aE 0 λx=>MV.any) d)<=u (jA 0 (aE 0 λx=>MV.any) d)/\18=18/\u (jA 0 (aE 0 λx=>MV.any) d)=k/\LeFun (u (jA 0 (aE 0 λx=>MV.any) d)) (aG (jA 0 (aE 0 λx=>MV.any) d) 200) g else bif A a 4==1 then ((67108864:U)=0->r)/\(0<=J EZ (3+A b 67108864)/\J EZ (3+A b 67108864)<1099511627776/\gW (fK (z (J EZ (3+A b 67108864))))=ES)/\minP 10 0 (λx=>MV.any) h/\u (mE 10 (aE 0 λx=>MV.any) (z h))<=u (mE 10 (aE 0 λx=>MV.any) (z h))/\18=18/\u (mE 10 (aE 0 λx=>MV.any) (z h))=k/\LeFun (u (mE 10 (aE 0 λx=>MV.any) (z h))) (aG (mE 10 (aE 0 λx=>MV.any) (z h)) 200) g else bif A a 4==2 then ((1048576:U)=0->r)/\(0<=J EZ (5+A b 1048576)/\J EZ (5+A b 1048576)<1099511627776/\gW (fK (z (J EZ (5+A b 1048576))))=ES)/\plsP 4 0 (λx=>MV.any) f (J EZ i)/\u (pF 4 (aE 0 λx=>MV.any) (z f) c)<=u (pF 4 (aE 0 λx=>MV.any) (z f) c)/\18=18/\u (pF 4 (aE 0 λx=>MV.any) (z f) c)=k/\LeFun (u (pF 4 (aE 0 λx=>MV.any) (z f) c)) (aG (pF 4 (aE 0 λx=>MV.any) (z f) c) 200) g else ((1500:U)=0->r)/\(0<=J EZ (7+A b 1500)/\J EZ (7+A b 1500)<1099511627776/\gW (fK (z (J EZ (7+A b 1500))))=ES)/\curP 0 (λx=>MV.any) e (J EZ i)/\u (aB4 (aE 0 λx=>MV.any) (z e) c)<=u (aB4 (aE 0 λx=>MV.any) (z e) c)/\18=18/\u (aB4 (aE 0 λx=>MV.any) (z e) c)=k/\LeFun (u (aB4 (aE 0 λx=>MV.any) (z e) c)) (aG (aB4 (aE 0 λx=>MV.any) (z e) c) 200) g)=aJ mdE D2 [.st [.int .u8 a,.int .u32 n,.int .u16 i]] (MRes.sat (.ret (.sl 18 k g))):=by subst q p o m l j;kernel_rfl
def mdN(a n:Z):Z:=fK (if a%4=0 then n%65000 else if a%4=1 then 3+n%67108864 else if a%4=2 then 5+n%1048576 else 7+n%1500)
def mdL(a n b:Z):V Stp:=if a%4=0 then jA 0 [] (mdN a n:Z)else if a%4=1 then mE 10 [] (mdN a n)else if a%4=2 then pF 4 [] (mdN a n) b else aB4 [] (mdN a n) b
theorem aTN(a n g:Z):MadeOk (mdL a n g) (mdN a n:Z):=by
 unfold mdL;split
 .rename_i h;have e:mdN a n=fK (n%65000):=by unfold mdN;rw[N h]
  have c:=AI n (show 0<65000 by omega);have k:=rM (m:=n%65000) (q:=65003) (by omega) (by omega) aHU (by unfold N26;omega);rw[e];have:=k.hi;have k5:=k.pr.lt;exact aQK (f:=0) (by omega) ⟨by rw[Z8];exact k.pr,by omega,by omega⟩ (by omega)
 .split
  .rename_i b h;have e:mdN a n=fK (3+n%67108864):=by unfold mdN;rw[F b,N h]
   have c:=AI n (show 0<67108864 by omega);obtain⟨q,q1,_,k⟩:=rN (m:=3+n%67108864) (by omega);rw[e];have j:=k.hi;have i:=k.lo;exact aTK (f:=10) k.pr (by omega) (by omega) (by omega) (by omega)
  .split
   .rename_i b d h;have e:mdN a n=fK (5+n%1048576):=by unfold mdN;rw[F b,F d,N h]
    have c:=AI n (show 0<1048576 by omega);obtain⟨q,_,q1,k⟩:=rN (m:=5+n%1048576) (by omega);rw[e];have j:=k.hi;have i:=k.lo;exact aQJ (f:=4) k.pr (by omega) (by omega) (by omega) (by omega) g
   .rename_i b d h;have e:mdN a n=fK (7+n%1500):=by unfold mdN;rw[F b,F d,F h]
    have c:=AI n (show 0<1500 by omega);have l:gW 1511=ES:=y7 (nI (by omega) (by omega) (by decide +kernel)) (by decide);have k:=rM (m:=7+n%1500) (q:=1511) (by omega) (by omega) l (by unfold N26;omega);rw[e];have j:=k.hi;have i:=k.lo;exact aTJ k.pr (by omega) (by omega) g
theorem aYn:okL 0 (λ_=>.any):=⟨Z9 _,λj b=>W b (C6 j),λ_ a=>W a AT⟩
theorem bGf:fineL (aE 0 λ_=>.any) 0:=⟨λj a=>W a (C6 j)⟩
theorem aTI(a n c:Z)(ha:a<256)(hn:n<4294967296)(hf:c<65536):∃E:Env AD,aJ E D2 [.st [.int .u8 a,.int .u32 n,.int .u16 c]] (MRes.sat (.ret (.sl 18 (mdL a n c).length (aG (mdL a n c) 200)))):=by
 refine⟨mdE,?_⟩;rw[<-aVU a n c (mdL a n c).length (aG (mdL a n c) 200) _ rfl _ rfl _ rfl _ rfl _ rfl _ rfl];have u:aE 0 (λ_=>.any)=[]:=rfl;have s:A (a:U) 4=((a%4:Z):U):=kV a 4;have f:∀m:Z,A (n:U) (m:U)=((n%m:Z):U):=λm=>kV n m;rw[u,s,wJ (show(n:Z)<18446744073709551616 by omega),wJ (show c<18446744073709551616 by omega),show A (n:U) 65000=((n%65000:Z):U) from f 65000,show A (n:U) 67108864=((n%67108864:Z):U) from f 67108864,
  show A (n:U) 1048576=((n%1048576:Z):U) from f 1048576,show A (n:U) 1500=((n%1500:Z):U) from f 1500]
 have wr:∀m:Z,m<18446744073709551616->J EZ (m:U)=(m:U):=λm h=>wJ h;have r:J EZ (3+((n%67108864:Z):U))=((3+n%67108864:Z):U):=wr (3+n%67108864) (by omega);have p:J EZ (5+((n%1048576:Z):U))=((5+n%1048576:Z):U):=wr (5+n%1048576) (by omega);have o:J EZ (7+((n%1500:Z):U))=((7+n%1500:Z):U):=wr (7+n%1500) (by omega);rw[r,p,o];have m0:=AI n (show 0<65000 by omega);have m1:=AI n (show 0<67108864 by omega);have m2:=AI n (show 0<1048576 by omega);have m3:=AI n (show 0<1500 by omega);refine⟨by omega,aH beq_iff_eq (λz=>?_) (λz=>aH beq_iff_eq (λl=>?_) (λl=>aH beq_iff_eq (λj=>?_) (λj=>?_)))⟩
 .have h:a%4=0:=by omega
  have k:=rM (m:=n%65000) (q:=65003) (by omega) (by omega) aHU (by unfold N26;omega);have g:=k.hi;have k5:=k.pr.lt;unfold mdL mdN;rw[N h,N h];have d:=aEh (n:=fK (n%65000)) (by omega) (by omega);exact⟨by omega,⟨by omega,by omega,by rw[Z8];exact k.pn⟩,⟨⟨by rw[Z8,Z8];exact k.pr,by rw[Z8];omega,by rw[Z8];omega⟩,by omega,aYn,by rw[Z8,Z8];omega⟩,by rw[Z8];exact Z0 _,rfl,by rw[Z8],by rw[Z8];exact B5⟩
 .have b:¬a%4=0:=by omega
  have h:a%4=1:=by omega
  obtain⟨q,q1,_,k⟩:=rN (m:=3+n%67108864) (by omega);have g:=k.hi;have i:=k.lo;unfold mdL mdN;rw[F b,N h,F b,N h];simp only[Z8];have d:=aEh (n:=fK (3+n%67108864)) (by omega) (by omega);exact⟨by omega,⟨by omega,by omega,k.pn⟩,⟨by rw[Z8];exact k.pr,by omega,by omega,by rw[Z8];omega,by omega,aYn,by rw[Z8];omega⟩,Z0 _,⟨⟩,⟨⟩,B5⟩
 .have b:¬a%4=0:=by omega
  have e:¬a%4=1:=by omega
  have h:a%4=2:=by omega
  obtain⟨q,_,q1,k⟩:=rN (m:=5+n%1048576) (by omega);have g:=k.hi;have i:=k.lo;unfold mdL mdN;rw[F b,F e,N h,F b,F e,N h];simp only[Z8];have d:=aEh (n:=fK (5+n%1048576)+1) (by omega) (by omega);exact⟨by omega,⟨by omega,by omega,k.pn⟩,⟨by rw[Z8];exact k.pr,by omega,by omega,by rw[Z8];omega,by omega,by omega,by omega,aYn,bGf,by rw[Z8];omega⟩,Z0 _,⟨⟩,⟨⟩,B5⟩
 .have b:¬a%4=0:=by omega
  have e:¬a%4=1:=by omega
  have h:¬a%4=2:=by omega
  have t:gW 1511=ES:=y7 (nI (by omega) (by omega) (by decide +kernel)) (by decide);have k:=rM (m:=7+n%1500) (q:=1511) (by omega) (by omega) t (by unfold N26;omega);have g:=k.hi;have i:=k.lo;unfold mdL mdN;rw[F b,F e,F h,F b,F e,F h];simp only[Z8];exact⟨by omega,⟨by omega,by omega,k.pn⟩,⟨by rw[Z8];exact k.pr,by omega,by omega,by omega,by omega,aYn,bGf,by omega,by rw[Z8];exact aJV k.pr (by omega) (by omega) []⟩,Z0 _,⟨⟩,⟨⟩,B5⟩
def aCQ:aF
 |[.st [.int .u8 a,.int .u32 n,.int .u16 fr]]=>EU (EU ((0<=a/\a<=255)/\(0<=n/\n<=4294967295)/\0<=fr/\fr<=65535),.ret (.sl 18 (mdL a.toNat n.toNat fr.toNat).length (aG (mdL a.toNat n.toNat fr.toNat) 200)))
 |_=>EV
theorem aYE:bC D2 aCQ:=by
 intro ms p r h c;unfold aCQ at h;split at h
 .rename_i a n b;cases h;obtain⟨⟨h0,h1⟩,⟨h2,h3⟩,h4,h5⟩:(0<=a/\a<=255)/\(0<=n/\n<=4294967295)/\0<=b/\b<=65535:=c;have:=aTI a.toNat n.toNat b.toNat (by omega) (by omega) (by omega)
  grind
 .simp at h
def aXb:Ctr AD:=⟨10,aCQ,λargs w=>Tryz.call10 args w,aN bR Tryz.func10 aCQ aYE⟩
def aBE(id:Z):Code->EW (T E0)
 |.region i ops _=>EY (i.beq id) (EU ops) EV
 |.seq a b=>(match aBE id a with
  |some x=>EU x
  |none=>aBE id b)
 |.cond _ a b=>(match aBE id a with
  |some x=>EU x
  |none=>aBE id b)
 |.block _ c=>aBE id c
 |.loop c=>aBE id c
 |.scope c=>aBE id c
 |_=>EV
def bEr(L:V Stp)(pv a:Z->R):Z->MV:=λi =>
 .st [.int .i64 (L.getD i aD).kind,.st [.bool (L.getD i aD).neg,.ws (L.getD i aD).mag],.val (pv i),.val (a i),.st [.big (L.getD i aD).ca 200,.big (L.getD i aD).cb 200,.big (L.getD i aD).cm 200],.st [.big (L.getD i aD).x 200,.big (L.getD i aD).y 200,.bool (L.getD i aD).inf],.big (L.getD i aD).ord 200]
theorem fa{α:Type}{p:α->Prop}{x:α}{l:V α}(b:p x)(a:∀y∈l,p y):∀y∈x::l,p y:=List.forall_mem_cons.2 ⟨b,a⟩
theorem f0{α:Type}{p:α->Prop}:∀y∈([]:V α),p y:=λ_ h=>W h AT
theorem aPP{c:Ctx}{w:M}{a:Act}:∀(tm:V (Z×MV)),(∀p∈tm,Rep c w p.2 (a.tmps.getD p.1 undef))->∀t,Rep c w (bG t tm) (a.tmps.getD t undef)
 |[],_,_=>⟨⟩
 |(u,m)::r,h,t=>by
  have h1:=h (u,m) AA;have h2:=aPP r (λp b=>h p (AC _ b)) t
  grind [bG,EN]
theorem St.re{S0:Z->Prop}{w0:Base}{s:MS}{c:Ctx}{a:Act}{w:M}(h:St S0 w0 s c a w)(tm':V (Z×MV))(bx':V Box)(d:Mem S0 w0 bx' c w)(b:∀p∈tm',Rep c w p.2 (a.tmps.getD p.1 undef)) :
  St S0 w0 ⟨s.n,tm',bx',s.np⟩ c a w:=⟨d,aPP tm' b,h.size,h.defers,h.np⟩
def Ctx.b1(S:Z->Prop)(b:Z)(z:Sz):Ctx:=⟨λq=>S q\/q=b,λq=>q=b,λi=>i=0,λ_=>b,λ_=>z⟩
def Base.b1(w:M)(b:Z)(z:Sz)(a:V Deferred):Base:=⟨w,λq=>q=b,λi q z'=>i=0/\q=b/\z'=z,a⟩
theorem ExtB.refl1(w:M)(b:Z)(z:Sz)(a:V Deferred):ExtB (Base.b1 w b z a) w:=⟨rfl,rfl,Z0 _,λ_ _ _=>rfl,λ_ _=>rfl,rfl,Z0 _⟩
theorem St.one'{S0:Z->Prop}{w0:Base}{s:MS}{c:Ctx}{a:Act}{w:M}(h:St S0 w0 s c a w){b wd n:Z}{F F':Z->MV}{z:Sz}(x:aR s.bx 0=EU ⟨ET,.rows wd n F⟩)(o:c.live 0)(r:c.β 0=b)(v:c.sz 0=z)(S1:Z->Prop)(t:∀q,S1 q->c.S q/\q≠b)(G:(∀q,(Ctx.b1 S1 b z).S q->c.S q)->∀arr ty,w.heap[b]? =EU (.cells arr ty (0,0))->iD c w (.rows wd n F) arr->iD (Ctx.b1 S1 b z) w (.rows wd n F') arr)(tm':V (Z×MV))(C:∀p∈tm',Rep (Ctx.b1 S1 b z) w p.2 (a.tmps.getD p.1 undef)) :
  St S1 (Base.b1 w b z w0.df) ⟨s.n,tm', [⟨ET,.rows wd n F'⟩],1⟩ (Ctx.b1 S1 b z) a w:=by
 have k:=h.mem;have u:c.S b:=k.WS b ((k.hW b).2 ⟨0,_,o,x,rfl,r⟩);have l:∀q,(Ctx.b1 S1 b z).S q->c.S q:=λq hq=>by
  rcases hq with hq|hq
  all_goals simp_all
 refine⟨⟨ExtB.refl1 w b z _,λq hq=>⟨k.Slt q (t q hq).1,(t q hq).2⟩,⟨k.gw.sub λq hq=>(t q hq).1,λg E e=>(k.gw g E).1 (by rw[show g=b from e];exact u)⟩,λq=>Iff.rfl,λq=>⟨λhq=>⟨0,_,rfl,rfl,rfl,hq.symm⟩,λ⟨i,y,_,_,_,e⟩=>e.symm⟩,λi j f D _=>by rw[show i=0 from f,show j=0 from D],λi f=>⟨.inr rfl,by rw[<-r];exact(k.fresh 0 o).2.1,by rw[show i=0 from f];exact Nat.zero_lt_one⟩,λi y f d=>?_,λi q z' ⟨J,I,H⟩=>⟨J,I.symm,H.symm⟩⟩,aPP tm' C,h.size,h.defers,λi q z' e=>?_⟩
 .have f:i=0:=f;subst f;have d:EU (⟨ET,.rows wd n F'⟩:Box)=EU y:=d;simp only[Z1]at d;subst d;obtain⟨arr,ty,q1,B,m,A⟩:=k.box 0 _ o x;rw[r]at q1;exact⟨arr,ty,q1,by rw[B,v];rfl,by have m:(c.sz 0).wd=wd:=m;rw[v]at m;exact m,G l arr ty q1 A⟩
 .obtain⟨e,_⟩:=e
  grind [qP,rQ]
theorem St.one{S0:Z->Prop}{w0:Base}{s:MS}{c:Ctx}{a:Act}{w:M}(h:St S0 w0 s c a w){b wd n:Z}{F F':Z->MV}{z:Sz}(y:aR s.bx 0=EU ⟨ET,.rows wd n F⟩)(t:c.live 0)(u:c.β 0=b)(m:c.sz 0=z)(S1:Z->Prop)(v:∀q,S1 q->c.S q/\q≠b)(x:∀i,i<n->∀d,RepC (Ctx.b1 S1 b z).elem w (F i) d->RepC (Ctx.b1 S1 b z).elem w (F' i) d)(tm':V (Z×MV))(o:∀p∈tm',Rep (Ctx.b1 S1 b z) w p.2 (a.tmps.getD p.1 undef)) :
  St S1 (Base.b1 w b z w0.df) ⟨s.n,tm', [⟨ET,.rows wd n F'⟩],1⟩ (Ctx.b1 S1 b z) a w :=
 h.one' y t u m S1 v (λe arr ty _ l i f=>by
  obtain⟨d,k,j,g⟩:=l i f;exact⟨d,k,x i f d (RepC.keep (⟨λq _ r=>e q r,λ_ _ h=>h,λ_ h=>h.elim,λ_ _ _=>rfl,λ_ _ _=>rfl⟩:Keeps c.elem (Ctx.b1 S1 b z).elem w w) _ _ j),g⟩) tm' o
def nY(v:R)(q:Z):Prop:=∃len cap,v= .slice (EU ⟨q,0,EV⟩) len cap
def OwnV(c:Ctx)(w:M)(wd len:Z)(f:Z->MV)(v:R):Prop :=
 ∃a cap,v= .slice a len cap/\len<=cap/\((∃q arr ty,a=EU ⟨q,0,EV⟩/\w.heap[q]? =EU (.cells arr ty (0,0))/\arr.size=cap*wd/\iD c w (.rows wd len f) arr)\/(a=EV/\len=0/\cap=0))
theorem OwnV.lt{c:Ctx}{w:M}{wd len:Z}{f:Z->MV}{v:R}{q:Z}(h:OwnV c w wd len f v)(b:nY v q):q<w.heap.size:=by
 obtain⟨a,cap,rfl,_,h⟩:=h;obtain⟨l2,c2,e⟩:=b
 grind
theorem OwnV.keep{c c':Ctx}{w w':M}(k:Keeps c.elem c'.elem w w'){wd len:Z}{f:Z->MV}{v:R}(h:OwnV c w wd len f v)(j:∀q,nY v q->w'.heap[q]? =w.heap[q]?):OwnV c' w' wd len f v:=by
 obtain⟨a,cap,rfl,l,h⟩:=h;refine⟨a,cap,rfl,l,h.imp (λ⟨q,arr,ty,b,p,o,n⟩=>⟨q,arr,ty,b,by rw[j q ⟨len,cap,by rw[b]⟩];exact p,o,λi m=>?_⟩) id⟩;obtain⟨r,g,e,d⟩:=n i m;exact⟨r,g,RepC.keep k _ _ e,d⟩
structure NestR (w0:Nat) (S:Nat->Prop) (b:Nat) (z:Sz) (L:List Stp) (pv bv:Nat->Value) (mP mB:Nat) (w:World):Prop where
 ownP:∀j,j<mP->OwnV (Ctx.b1 S b z) w 1 (L.getD j aD).parts.length (bI (L.getD j aD).parts) (pv j)
 ownB:∀j,j<mB->OwnV (Ctx.b1 S b z) w 2 (L.getD j aD).base.length (iL (L.getD j aD).base 200) (bv j)
 restP:∀j,mP<=j->j<L.length->RepC (Ctx.b1 S b z) w (.sl 1 (L.getD j aD).parts.length (bI (L.getD j aD).parts)) [pv j]
 restB:∀j,mB<=j->j<L.length->RepC (Ctx.b1 S b z) w (.sl 2 (L.getD j aD).base.length (iL (L.getD j aD).base 200)) [bv j]
 inP:∀j q,j<mP->nY (pv j) q->S q/\w0<=q
 inB:∀j q,j<mB->nY (bv j) q->S q/\w0<=q
 dP:∀j k q,j<k->k<mP->nY (pv j) q->¬nY (pv k) q
 dB:∀j k q,j<k->k<mB->nY (bv j) q->¬nY (bv k) q
 dX:∀j k q,j<mP->k<mB->nY (pv j) q->¬nY (bv k) q
 S0:∀q,S q->q<w.heap.size/\q≠b
theorem NestR.frame{w0:Z}{S:Z->Prop}{b:Z}{z:Sz}{L:V Stp}{pv p:Z->R}{mP mB:Z}{w w':M}{s:V Deferred}(h:NestR w0 S b z L pv p mP mB w)(e:ExtB (Base.b1 w b z s) w')(S2:Z->Prop)(o:∀q,S q->S2 q)(m:∀q,S2 q->S q\/w.heap.size<=q)(l:∀q,S2 q->q<w'.heap.size/\q≠b):NestR w0 S2 b z L pv p mP mB w':=by
 have k:Keeps (Ctx.b1 S b z) (Ctx.b1 S2 b z) w w':=⟨λq a f=>f.imp (λf=>(m q f).elim id λh=>by omega) id,λ_ _ h=>h,λi r=>⟨r,rfl,rfl⟩,λq a f=>e.block q a λe=>f (.inr e),λq a f=>e.block q a f⟩;have n:∀q,S q->w'.heap[q]? =w.heap[q]? :=λq a=>e.block q (h.S0 q a).1 (h.S0 q a).2;exact⟨λj g=>(h.ownP j g).keep k.elem λq a=>n q (h.inP j q g a).1,λj g=>(h.ownB j g).keep k.elem λq a=>n q (h.inB j q g a).1,λj d c=>(h.restP j d c).keep k,λj d c=>(h.restB j d c).keep k,
  λj q d c=>⟨o q (h.inP j q d c).1,(h.inP j q d c).2⟩,λj q d c=>⟨o q (h.inB j q d c).1,(h.inB j q d c).2⟩,h.dP,h.dB,h.dX,l⟩
def cpT(n i:Z):V (Z×MV):=[(3,.bs 0 0 n),(4,.int .i64 i)]
def cpX(L:V Stp)(pv a:Z->R):Box:=⟨ET,.rows 18 L.length (bEr L pv a)⟩
def cpS(L:V Stp)(pv a:Z->R)(i:Z):MS:=⟨37,cpT L.length i, [cpX L pv a],1⟩
def aVE(f:Z->R)(i:Z)(v:R):Z->R:=λq=>EY (q.beq i) v (f q)
theorem bFD{c:Ctx}{w:M}{S:Z->Prop}{b n:Z}{z:Sz}{v:R}(g:c.β 0=b)(e:c.sz 0=z)(h:Rep c w (.bs 0 0 n) v):Rep (Ctx.b1 S b z) w (.bs 0 0 n) v:=by
 obtain⟨a,cap,rfl,f,h⟩:=kS h;refine bA rfl (by simp) rfl ⟨a,cap,rfl,f,h.imp (λ⟨i,h2,d⟩=>⟨?_,rfl,?_⟩) id⟩
 .rw[i,g];rfl
 .rw[e]at d;exact d
theorem NestR.addP{w0:Z}{S:Z->Prop}{b:Z}{z:Sz}{L:V Stp}{pv e:Z->R}{i m:Z}{v:R}{w:M}(N:NestR w0 S b z L pv e i m w)(_hi:i<L.length)(O:OwnV (Ctx.b1 S b z) w 1 (L.getD i aD).parts.length (bI (L.getD i aD).parts) v)(hin:∀q,nY v q->S q/\w0<=q)(h1:∀j q,j<i->nY (pv j) q->¬nY v q)(h2:∀j q,j<m->nY (e j) q->¬nY v q):NestR w0 S b z L (aVE pv i v) e (i+1) m w:=by
 have e1:aVE pv i v i=v:=by unfold aVE;simp
 have d:∀j,j≠i->aVE pv i v j=pv j:=λj c=>by
  unfold aVE;rw[show j.beq i=ET from Bool.eq_false_iff.2 λh=>c (by simpa using h)];rfl
 refine⟨λj c=>?_,N.ownB,λj h3 g=>by rw[d j (by omega)];exact N.restP j (by omega) g,N.restB,λj q c a=>?_,N.inB,λj k q c f a=>?_,N.dB,λj k q c f a=>?_,N.S0⟩
 .by_cases h:j=i
  .simp_all
  .rw[d j h];exact N.ownP j (by omega)
 .by_cases h:j=i
  .simp_all
  .rw[d j h]at a;exact N.inP j q (by omega) a
 .rw[d j (by omega)]at a;by_cases h:k=i
  .grind
  .rw[d k h];exact N.dP j k q c (by omega) a
 .by_cases h:j=i
  .grind
  .rw[d j h]at a;exact N.dX j k q (by omega) f a
structure CpI (S:Nat->Prop) (w0:World) (b:Nat) (z:Sz) (L:List Stp) (pv bv:Nat->Value) (m i:Nat) (S1:Nat->Prop) (a:Act) (w:World):Prop where
 nest:NestR w0.heap.size S1 b z L pv bv m m w
 st:St S1 (Base.b1 w b z []) (cpS L pv bv i) (Ctx.b1 S1 b z) a w
 ext:Ext w0 w
 hb:w0.heap.size<=b
 sub:∀q,S q->S1 q
 sup:∀q,S1 q->S q\/w0.heap.size<=q
theorem Ext.b1{w0 w w':M}{b:Z}{z:Sz}{d:V Deferred}(h:Ext w0 w)(hb:w0.heap.size<=b)(k:ExtB (Base.b1 w b z d) w'):Ext w0 w' :=
 ⟨k.os.trans h.os,k.output.trans h.output,CX h.size k.size,λi c=>(k.block i (BK c h.size) λe=>by have e:i=b:=e;omega).trans (h.block i c),λx a=>(k.frz x (BK a h.size)).trans (h.frz x a),k.tape.trans h.tape,CX h.dr k.dr⟩
theorem CpI.next{S:Z->Prop}{w0:M}{b:Z}{z:Sz}{L:V Stp}{pv f:Z->R}{m i i':Z}{S1:Z->Prop}{a a':Act}{w w':M}{c:Ctx}{tm:V (Z×MV)}(I:CpI S w0 b z L pv f m i S1 a w)(h:St S1 (Base.b1 w b z []) ⟨37,tm, [cpX L pv f],1⟩ c a' w')(n:bG 3 tm= .bs 0 0 L.length)(l:bG 4 tm= .int .i64 i'):CpI S w0 b z L pv f m i' S1 a' w':=by
 have e:=h.mem.pin 0 b z ⟨rfl,rfl,rfl⟩;have g:∀q,S1 q->c.S q/\q≠b:=λq d=>⟨(h.mem.hS q).2 (.inl d),(I.nest.S0 q d).2⟩;have k:Rep c w' (.bs 0 0 L.length) (a'.tmps.getD 3 undef):=n ▸ h.tm 3;have j:Rep c w' (.int .i64 i') (a'.tmps.getD 4 undef):=l ▸ h.tm 4;exact⟨I.nest.frame h.mem.ext S1 (λq d=>d) (λq d=>.inl d) λq d=>⟨h.mem.Slt q (g q d).1,(g q d).2⟩,
  h.one (F':=bEr L pv f) rfl e.1 e.2.1 e.2.2 S1 g (λ_ _ _ h=>h) (cpT L.length i') (fa (bFD e.2.1 e.2.2 k) (fa (by rw[dQ j];exact cZ _ _) f0)),I.ext.b1 I.hb h.mem.ext,I.hb,I.sub,I.sup⟩
def Ctr.or{P:EX}(a b:Ctr P)(h:b.f=a.f):Ctr P where
 f:=a.f
 spec:=λc=>match a.spec c with
  |some x=>EU x
  |none=>b.spec c
 call:=a.call
 ok:=by
  intro S w c args p r d;cases e:a.spec c with
  |some x =>
   rw[e]at d;exact a.ok S w c args p r (by rw[e];exact d)
  |none =>
   rw[e]at d;rw[<-h];exact b.ok S w c args p r d
def zM(a b y:U):MV:= .st [.int .u8 a,.int .u8 b,.int .i64 y]
def chX(L:V Stp)(pv c:Z->R)(s:Stp)(a b y:U):V Box:=[⟨ET,.one (zM a b y)⟩,cpX L pv c,⟨ET,.arr .i64 s.parts⟩,⟨ET,.rows 2 s.base.length (iL s.base 200)⟩]
def sM(s:Stp):MV:= .st [.int .i64 s.kind,.st [.bool s.neg,.ws s.mag],.bs 2 0 s.parts.length,.bs 3 0 s.base.length,.st [.big s.ca 200,.big s.cb 200,.big s.cm 200],.st [.big s.x 200,.big s.y 200,.bool s.inf],.big s.ord 200]
def chS(s:Stp)(L:V Stp)(pv c:Z->R)(i:Z)(a b y p:U):MS:=⟨190, [(3,.bp 0 0),(5,.bs 1 0 L.length),(6,.int .i64 i),(7,.bp 4 0),(26,.int .u8 p)],
 chX L pv c s a b y++[⟨ET,.one (sM s)⟩],2⟩
theorem St.fresh{S1:Z->Prop}{w:M}{bx:V Box}{β:Z->Z}{e:Z->Sz}{live:Z->Prop}{n np:Z}{tm:V (Z×MV)}{a:Act}(k:∀i,live i->i<bx.length/\β i<w.heap.size/\¬S1 (β i))(inj:∀i j,live i->live j->β i=β j->i=j)(v:∀q,S1 q->q<w.heap.size)(t:GW (λq=>S1 q\/∃i,live i/\β i=q) w)(d:∀i b,live i->aR bx i=EU b->BoxRep (cW S1 bx live β e) w i b)(r:∀p∈tm,Rep (cW S1 bx live β e) w p.2 (a.tmps.getD p.1 undef))(s:a.tmps.size=n)(pin:Z->Z->Sz->Prop)(c:∀i b z,pin i b z->live i/\β i=b/\e i=z/\qP np i=ES) :
  St S1 ⟨w,λq=>∃i,live i/\β i=q,pin,a.defers⟩ ⟨n,tm,bx,np⟩ (cW S1 bx live β e) a w :=
 ⟨⟨⟨rfl,rfl,Z0 _,λ_ _ _=>rfl,λ_ _=>rfl,rfl,Z0 _⟩,λq f=>⟨v q f,λ⟨i,o,m⟩=>(k i o).2.2 (m ▸ f)⟩,⟨t.sub λq f=>.inl f,λg u ⟨i,o,m⟩=>(t g u).1 (.inr ⟨i,o,m⟩)⟩,λ_=>Iff.rfl,λ_=>Iff.rfl,inj,λi l=>⟨.inr ⟨i,l,rfl⟩,(k i l).2.1,(k i l).1⟩,d,λi b z h=>⟨(c i b z h).1,(c i b z h).2.1,(c i b z h).2.2.1⟩⟩,
  aPP tm r,s,rfl,λi b z h=>(c i b z h).2.2.2⟩
structure FieldsOk (s:Stp) (C A O:MV) (P:List Int) (lp lb lb':Nat) (G:Nat->MV):Prop where
 hC:eV 0 C (.st [.big s.ca 200,.big s.cb 200,.big s.cm 200])
 hA:eV 0 A (.st [.big s.x 200,.big s.y 200,.bool s.inf])
 hO:eV 0 O (.big s.ord 200)
 hP:P.take lp=s.parts
 hp:lp=s.parts.length
 hb:lb=s.base.length
 hle:lb<=lb'
 hB:LeFun lb G (iL s.base 200)
structure smallS (W:Nat) (s:Stp):Prop where
 ca:s.ca.natAbs<2^W
 cb:s.cb.natAbs<2^W
 cm:s.cm.natAbs<2^W
 x:s.x.natAbs<2^W
 y:s.y.natAbs<2^W
 ord:s.ord.natAbs<2^W
 base:∀b∈s.base,b.natAbs<2^W
theorem fieldsOf{s:Stp}{C A O:MV}{P:V U}{a lb lb':Z}{G:Z->MV}(g:eV 0 C (.st [.big s.ca 200,.big s.cb 200,.big s.cm 200]))(i:eV 0 A (.st [.big s.x 200,.big s.y 200,.bool s.inf]))(f:eV 0 O (.big s.ord 200))(e:P.take a=s.parts)(c:a=s.parts.length)(d:lb=s.base.length)(b:lb<=lb')(h:LeFun lb G (iL s.base 200)):FieldsOk s C A O P a lb lb' G:=⟨g,i,f,e,c,d,b,h⟩
section
section
variable {P:Program} {ops:Array Oper} {Q:Exit->Act->World->Prop} {S:World->Prop} {t:Nat}
def sL(P:EX)(ops:T E0)(Q:Exit->Act->M->Prop)(S:M->Prop)(t:Z):Z->T O->Act->M->Prop
 |0,listed,a,w=>A1 .any ops listed=[]/\Q .normal a w
 |fuel+1,listed,a,w=>(A1 .any ops listed=[]->Q .normal a w)/\
  ∀i∈A1 .any ops listed,wpOp P ops Q i (λa' w'=>(i≠t->S w')/\sL P ops Q S t fuel (listed.setIfInBounds i ES) a' w') a w
theorem aFc:∀(fuel:Z) (listed:T O) (a:Act) (w:M),sL P ops Q S t fuel listed a w->wpAny P .any ops Q fuel listed a w
 |0,_,_,_,h=>h
 |fuel+1,_,_,_,h=>⟨h.1,λi b=>wpOp_mono (λa' w' h'=>aFc fuel _ a' w' h'.2) (h.2 i b)⟩
theorem aJe{i:Z}{u:E0}{v:Value}(G:ops[i]? =EU u)(p:∀(j:Z) (o:E0) B b,ops[j]? =EU o->o.op≠ .select B b)(X:∀c a w,Q (.panic c) (a.put u.dst v) w->Q (.panic c) a w)(T:∀listed:Array Bool,listed.getD i ES=ET->t ∉ A1 .any ops listed)(hit:i≠t) :
  ∀(fuel:Z) (listed:Array Bool) (a:Act) (w:E1),
   (∀j r,ops[j]? =EU r->j≠i->listed.getD j ES=ET->(∀e∈r.after,CL .any e=ES->e.on≠i)->u.apart ops r=ES)->
   i∈A1 .any ops listed->YieldsIf P ops S u v a->S w->
   sL P ops Q S t fuel (listed.setIfInBounds i ES) (a.put u.dst v) w->sL P ops Q S t (fuel+1) listed a w:=by
 intro fuel
 induction fuel with
 |zero =>
  intro listed a w _ l F A H;refine⟨λh=>(by rw[h]at l;cases l),λj z=>?_⟩;by_cases d:j=i
  .subst d;exact F.wpOp G A ⟨λ_=>A,H⟩
  .have:=ready_mono z d;rw[H.1]at this;cases this
 |succ fuel R =>
  intro listed a w f l F A H;refine⟨λh=>(by rw[h]at l;cases l),λj z=>?_⟩;by_cases d:j=i
  .subst d;exact F.wpOp G A ⟨λ_=>A,H⟩
  .have O:=H.2 j (ready_mono z d);obtain⟨q,r,x,E⟩:=C2.1 z;have C:j≠t:=λe=>T listed (C2.1 l).1 (e ▸ z);have D:∀e∈r.after,CL .any e=ES->e.on≠i:=λe V W heq=>by
    have O:=E e V W;have h0:=(C2.1 l).1
    grind
   have Y:=wpOp_putIf x (f j r x d q D) (λB b=>p i u B b G) (λB b=>p j r B b x) X F O;have g:∀k ok,ops[k]? =EU ok->k≠i->(listed.setIfInBounds j ES).getD k ES=ET->
     (∀e∈ok.after,CL .any e=ES->e.on≠i)->u.apart ops ok=ES:=λk ok U M hun J=>by
    refine f k ok U M ?_ J;by_cases N:j=k
    .subst N;exact q
    .simp_all
   refine wpOp_mono (λa' w' I=>⟨λ_=>I.2.1 C,R (listed.setIfInBounds j ES) a' w' g (ready_mono l (Ne.symm d)) I.1 (I.2.1 C) ?_⟩) Y
   grind [Array.setIfInBounds_comm]
theorem gR{i:Z}{b:E0}{v:R}{fuel:Z}{listed:T O}{a:Act}{w:M}(e:ops[i]? =EU b)(j:DG ops=ES)(l:Region.free .any ops listed i=ES)(k:(A1 .any ops listed).contains i=ES)(p:∀c a w,Q (.panic c) (a.put b.dst v) w->Q (.panic c) a w)(g:∀listed:T O,listed.getD i ES=ET->t ∉ A1 .any ops listed)(d:i≠t)(f:YieldsIf P ops S b v a)(o:S w)(h:sL P ops Q S t fuel (listed.setIfInBounds i ES) (a.put b.dst v) w):sL P ops Q S t (fuel+1) listed a w :=
 aJe e (Region.noSelect_spec j) p g d fuel listed a w (Region.free_spec e l) (by simpa using k) f o h
theorem aFb{rs:V Z}{fuel:Z}{listed:T O}{a:Act}{w:M}(c:A1 .any ops listed=rs)(b:rs≠ [])(h:∀i∈rs,wpOp P ops Q i (λa' w'=>(i≠t->S w')/\sL P ops Q S t fuel (listed.setIfInBounds i ES) a' w') a w):sL P ops Q S t (fuel+1) listed a w :=
 ⟨λd=>W (c ▸ d) b,c ▸ h⟩
theorem aLE{listed:T O}{a:Act}{w:M}(b:A1 .any ops listed=[])(h:Q .normal a w):∀fuel,sL P ops Q S t fuel listed a w
 |0=>⟨b,h⟩
 |_+1=>⟨λ_=>h,by rw[b];simp⟩
theorem mK{i:Z}(he:(match ops[t]? with|some o=>o.after.toList.any λe=>CL .any e&&e.on.beq i|none=>ES)=ES)(listed:T O)(hl:listed.getD i ES=ET):t ∉ A1 .any ops listed:=λa=>by
 obtain⟨_,o2,h2,hall⟩:=C2.1 a
 grind [DS,EN]
end
def bEn(f:Func)(id:Z):T E0:=match f.body with
 |some c=>(match aBE id c with
  |some x=>x
  |none=>#[])
 |none=>#[]
section
variable (s:Stp) (L:List Stp) (pv bv:Nat->Value) (n i:Nat) (st pt y:Int) (m:Value) (K:MS->Prop)
end
def wl(a b c d:O)(n:O):T O:=#[ES,ES,ES,a,ES,ES,ES,b,c,d,n,n,ET]
set_option maxRecDepth 100000 in
end
def dO:T E0:=bEn Tryz.f11 7
def dum : Oper := ⟨none, .move (.tmp 0), 0, "", #[], none⟩
def dOp(k:Z):E0:=(aR dO.toList k).getD dum
theorem aBB:DG dO=ES:=by kernel_rfl
theorem bCr:dO.size=10:=by kernel_rfl
structure isOp (k:Nat) (d:Nat) (op:Op):Prop where
 at_:dO[k]? =some (dOp k)
 dst:(dOp k).dst=some d
 op_:(dOp k).op=op
 gd:(dOp k).guard=none
theorem d0:isOp 0 27 (.move (.tmp 5)):=⟨by kernel_rfl,by kernel_rfl,by kernel_rfl,by kernel_rfl⟩
theorem d1:isOp 1 28 (.move (.tmp 6)):=⟨by kernel_rfl,by kernel_rfl,by kernel_rfl,by kernel_rfl⟩
theorem d2:isOp 2 29 (.move (.tmp 6)):=⟨by kernel_rfl,by kernel_rfl,by kernel_rfl,by kernel_rfl⟩
theorem d3:isOp 3 30 (.slice 29 (.tmp 27) EV (EU (.tmp 28)) (EU (.tmp 29))):=⟨by kernel_rfl,by kernel_rfl,by kernel_rfl,by kernel_rfl⟩
theorem d4:isOp 4 31 (.move (.tmp 5)):=⟨by kernel_rfl,by kernel_rfl,by kernel_rfl,by kernel_rfl⟩
theorem d5:isOp 5 32 (.move (.tmp 6)):=⟨by kernel_rfl,by kernel_rfl,by kernel_rfl,by kernel_rfl⟩
theorem d6:isOp 6 33 (.binOp .add 3 (.tmp 32) (.const (.int .i64 1)) 3):=⟨by kernel_rfl,by kernel_rfl,by kernel_rfl,by kernel_rfl⟩
theorem d7:isOp 7 34 (.slice 29 (.tmp 31) (EU (.tmp 33)) EV EV):=⟨by kernel_rfl,by kernel_rfl,by kernel_rfl,by kernel_rfl⟩
theorem d8:isOp 8 35 (.call ⟨.builtin .append,#[.tmp 30,.tmp 34],#[29,29]⟩):=⟨by kernel_rfl,by kernel_rfl,by kernel_rfl,by kernel_rfl⟩
theorem d9:isOp 9 4 (.assign (.tmp 35)):=⟨by kernel_rfl,by kernel_rfl,by kernel_rfl,by kernel_rfl⟩
theorem aLF{S:M->Prop}{k d:Z}{op:Op}(h:isOp k d op){a:Act}{v:R}(b:∀w,(execOp a.eval (dOp k)).run AD w= .ok (.value v) w):YieldsIf AD dO S (dOp k) v a:= .inl ⟨by simp[C7,h.gd],λw _=>b w⟩
theorem aFg{k d:Z}{x:Operand}(h:isOp k d (.move x))(a:Act)(w:M):(execOp a.eval (dOp k)).run AD w= .ok (.value (a.eval x)) w:=by
 simp only[execOp,h.op_];simp
theorem aPV{k d:Z}{t:X}{x:Operand}{c e b:EW Operand}(h:isOp k d (.slice t x c e b)){a:Act}{w:M}{v:R}(f:(Instr.sliceAt t (a.eval x) (c.map a.eval) (e.map a.eval) (b.map a.eval)).run AD w= .ok v w):(execOp a.eval (dOp k)).run AD w= .ok (.value v) w:=by
 simp only[execOp,h.op_];simp[f]
theorem bG2{a:Act}{w:M}{n:U}(b:a.tmps.getD 32 undef= .int .i64 n):(execOp a.eval (dOp 6)).run AD w= .ok (.value (.int .i64 (i64.wrap (n+1)))) w:=by
 have e:a.eval (.tmp 32)= .int .i64 n:=b;have g:a.eval (.const (.int .i64 1))= .int .i64 1:=rfl;obtain⟨z,d,f⟩:=aJ4 (P:=AD) (op:= .add) (t:=3) (x:= .int .i64 n) (y:= .int .i64 1) (p:=none) (m:= .int .i64 (i64.wrap (n+1))) rfl trivial (c:=Ctx.args λ_=>r) (w:=w) (cZ _ _) (cZ _ _);rw[dQ f]at d;simp only[execOp,d6.op_,e,g];rfl
theorem pP:Tryz.prog.underlying 29=EU (.slice 47):=by kernel_rfl
theorem bHM{a:Act}{w:M}{b n cap i:Z}(g:a.tmps.getD 27 undef= .slice (EU ⟨b,0,EV⟩) n cap)(f:a.tmps.getD 28 undef= .int .i64 i)(e:a.tmps.getD 29 undef= .int .i64 i)(hi:i<=cap):(execOp a.eval (dOp 3)).run AD w= .ok (.value (.slice (EU ⟨b,0,EV⟩) i i)) w:=by
 refine aPV d3 ?_;have k:a.eval (.tmp 27)= .slice (EU ⟨b,0,EV⟩) n cap:=g;have j:a.eval (.tmp 28)= .int .i64 i:=f;have h:a.eval (.tmp 29)= .int .i64 i:=e;have c:Tryz.prog.underlying 29=EU (.slice (Tryz.prog.elem 29)):=by rw[k6 pP];exact pP
 obtain⟨agg,size,d⟩:∃agg size,dS AD (Tryz.prog.elem 29)=EU (agg,size):=⟨ES,18,by rw[k6 pP];kernel_rfl⟩;simp only[k,j,h,C1,DH];rw[run_sliceAt_slice (P:=AD) w 29 _ _ _ _ c,run_slice_hm (P:=AD) w 29 _ n cap c .i64 .i64 i i (by omega) (by omega) (by omega),bH d];simp[Result.andThen,sliced,Addr.add]
theorem bHN{a:Act}{w:M}{b n cap i:Z}(f:a.tmps.getD 31 undef= .slice (EU ⟨b,0,EV⟩) n cap)(e:a.tmps.getD 33 undef= .int .i64 ((i+1:Z):U))(hi:i<n)(hc:n<=cap):(execOp a.eval (dOp 7)).run AD w= .ok (.value (.slice (EU ⟨b,if cap=i+1 then 0 else (i+1)*18,EV⟩) (n-(i+1)) (cap-(i+1)))) w:=by
 refine aPV d7 ?_;have h:a.eval (.tmp 31)= .slice (EU ⟨b,0,EV⟩) n cap:=f;have g:a.eval (.tmp 33)= .int .i64 ((i+1:Z):U):=e;have c:Tryz.prog.underlying 29=EU (.slice (Tryz.prog.elem 29)):=by rw[k6 pP];exact pP
 have d:dS AD (Tryz.prog.elem 29)=EU (ES,18):=by rw[k6 pP];kernel_rfl
 simp only[h,g,C1,DH];rw[run_sliceAt_slice (P:=AD) w 29 _ _ _ _ c,run_slice_l (P:=AD) w 29 _ n cap c .i64 _ (by omega) (by omega),bH d,Z8];simp only[Result.andThen,sliced];split<;>simp[Addr.add]
theorem aZK{n i j:Z}(hi:i<n)(hj:j<n-1):(if j<i then j else j+1)<n:=by split<;>omega
theorem aK3{a:Act}{t:Z}{v:R}(h:t<a.tmps.size):(a.put (EU t) v).tmps.getD t undef=v:=by
 simp[BV,Array.getD_eq_getD_getElem?,h]
theorem aVh{a:Act}{t:Z}{v:R}:(a.put (EU t) v).tmps.size=a.tmps.size:=by simp[BV]
def bFj(c:Ctx)(L:V Stp)(pv d:Z->R)(i:Z)(w w':M)(v:R):Prop :=
 ∃b cap,v= .slice b (L.length-1) cap/\L.length-1<=cap/\(0<L.length-1->∃b',b=EU ⟨b',0,EV⟩/\(b'=c.β 1\/w.heap.size<=b')/\
  ∀j,j<L.length-1->∃a,RepC c.elem w (bEr L pv d (if j<i then j else j+1)) a/\a.length=18/\seg w' b' (j*18) a)
theorem bFT{a:Act}{w:M}{b n cap i:Z}{arr:T R}{ty:X}(r:a.tmps.getD 30 undef= .slice (EU ⟨b,0,EV⟩) i i)(E:a.tmps.getD 34 undef= .slice (EU ⟨b,if cap=i+1 then 0 else (i+1)*18,EV⟩) (n-(i+1)) (cap-(i+1)))(hi:i<n)(hc:n<=cap)(hn:n<=1000000)(D:w.heap[b]? =EU (.cells arr ty (0,0)))(y:arr.size=cap*18) :
  ∃v w',(execOp a.eval (dOp 8)).run AD w= .ok (.value v) w'/\Ext w w'/\∃B cap',v= .slice B (n-1) cap'/\n-1<=cap'/\(0<n-1->∃b',B=EU ⟨b',0,EV⟩/\(b'=b\/w.heap.size<=b')/\
   ∀j e,j<n-1->e.length=18->(∀(k:Z) u,e[k]? =EU u->arr[(if j<i then j else j+1)*18+k]? =EU u)->seg w' b' (j*18) e):=by
 have A:a.eval (.tmp 30)= .slice (EU ⟨b,0,EV⟩) i i:=r;have p:a.eval (.tmp 34)= .slice (EU ⟨b,if cap=i+1 then 0 else (i+1)*18,EV⟩) (n-(i+1)) (cap-(i+1)):=E;obtain⟨c,f,g,x,q⟩:∃c,Tryz.prog.info? 47=EU c/\c.size=18/\c.bytes<=1000/\∃z,c.zero=EU z:=by
  have:(Tryz.prog.info? 47).map (λt=>(t.size,t.bytes,t.zero.isSome))=EU (18,288,ES):=by kernel_rfl
  cases h:Tryz.prog.info? 47 with
  |none=>rw[h]at this;simp at this
  |some c =>
   grind [Z1,Z2,Option.isSome_iff_exists]
 obtain⟨z,q⟩:=q;by_cases d:n-(i+1)=0
 .refine⟨.slice (EU ⟨b,0,EV⟩) i i,w,?_,Ext.refl w,EU ⟨b,0,EV⟩,i,by rw[show n-1=i by omega],by omega,λ_=>⟨b,rfl,.inl rfl,λj e C _ s=>⟨arr,ty,_,D,λk u o=>?_⟩⟩⟩
  .simp only[execOp,d8.op_];rw[d]at p;simp[resolve,invoke,builtin,A,p,mU (P:=AD) w 29 (dOp 8).type 47 c pP f _ _ i i _ (Z0 i)]
  grind
 .have m:¬cap=i+1:=by omega
  rw[F m]at p;have hcell:∀j u,arr[j]? =EU u->w.cell? ⟨b,j,EV⟩=EU u:=λj u o=>by
   unfold CE
   simp_all
  have l:=run_append_grow (P:=AD) w 29 (dOp 8).type 47 c z pP f q ⟨b,0,EV⟩ i i (arr.toList.take (i*18)) (by rw[g,DP,DC,y];have:i*18<=cap*18:=DE _ (by omega);omega)
   (λj u o=>by
    grind [gB])
   ⟨b,(i+1)*18,EV⟩ (n-(i+1)) (cap-(i+1)) ((arr.toList.drop ((i+1)*18)).take ((n-(i+1))*18)) (by rw[g,DP,List.length_drop,DC,y];omega)
   (λj u o=>by
    grind [gB,AX]) (by omega) (by omega) (growslice_fits (by omega) (by
    have r:i+(n-(i+1))<=1000000:=by omega
    have:=AX r x;omega))
  have hgc:=grownCap_ge w (i+(n-(i+1))) i 47;refine⟨_,_,by
   simp only[execOp,d8.op_];simp[resolve,invoke,builtin,A,p,l];exact⟨rfl,rfl⟩,(Ext.drew w).trans (Ext.alloc w.drew _ _),EU ⟨w.heap.size,0,EV⟩,_,by rw[show n-1=i+(n-(i+1)) by omega],by omega,λ_=>⟨w.heap.size,rfl,.inr (Z0 _),λj e C hcl s=>⟨_,_,_,cU w.drew _ _,λk u o=>?_⟩⟩⟩
  grind
set_option maxRecDepth 100000 in
set_option maxHeartbeats 4000000 in
theorem r7{S2:E2->Prop}{B:Base}{s:Stp}{L:List Stp}{pv bv:E2->Value}{i:E2}{f pt y p:E3}{c:Ctx}{a:Act}{w:E1}{Q:Exit->Act->E1->Prop}{ops:Array E0}(ho:ops.toList=dO.toList)(g:∀ch a d v w,Q (.panic ch) (BV a d v) w->Q (.panic ch) a w)(h:St S2 B (chS s L pv bv i f pt y p) c a w)(J:i<L.length)(H:L.length<=1000000)(hQ:∀a' w' v,a'.tmps.getD 4 undef=v->a'.defers=a.defers->Ext w w'->bFj c L pv bv i w w' v->Q .normal a' w'):(Code.region 7 ops ES).wp AD Q a w:=by
 obtain rfl:ops=dO:=EK ho;obtain⟨a0,cap,Z,z,X⟩:=kS (show Rep c w (.bs 1 0 L.length) (a.tmps.getD 5 undef) from h.tm 5);obtain⟨T,l1,hz⟩:a0=EU ⟨c.β 1,0,EV⟩/\c.live 1/\0+cap*(c.sz 1).wd=(c.sz 1).n:=X.elim id λh=>E4 h.2.1 (by omega);subst T;have Y:=dQ (show Rep c w (.int .i64 i) (a.tmps.getD 6 undef) from h.tm 6);obtain⟨arr,ty,q1,q2,W,q4⟩:=h.mem.box 1 _ l1 rfl;have hs:arr.size=cap*18:=by
  have W:(c.sz 1).wd=18:=W
  simp_all
 have e:Ext w { w with drawn:=w.drawn+1 }:=⟨rfl,rfl,Z0 _,λ_ _=>rfl,λ_ _=>rfl,rfl,Z9 _⟩;have hh:({ w with drawn:=w.drawn+1 }:E1).heap[c.β 1]? =EU (.cells arr ty (0,0)):=q1;obtain⟨O,P⟩:=h.mem.grow e;have C:=h.keepTm P O rfl rfl rfl;refine wp_region_any bR (aFc (S:=λ_=>True) (t:=9) _ _ _ _ ?_);rw[bCr];have N:({ w with drawn:=w.drawn+1 }:E1).heap.size=w.heap.size:=rfl;generalize ({ w with drawn:=w.drawn+1 }:E1)=b at *;have V:∀v:Value,v.oneCell'=ES->Rep c b (.val v) v:=λv hv=>bA rfl (by simp) rfl ⟨rfl,hv⟩;have x:=C.re [(5,.val (.slice (EU ⟨c.β 1,0,EV⟩) L.length cap)),(6,.val (.int .i64 i))] _ C.mem (fa (by rw[Z];exact V _ rfl) (fa (by rw[Y];exact V _ rfl) f0));have R:=h.defers;clear C h Z Y X;have ew:i64.wrap ((i:E3)+1)=((i+1:E2):E3):=by rw[aT (by omega) (by omega)];omega
 have E5:=(dV (show Rep c b (.val (.slice (EU ⟨c.β 1,0,EV⟩) L.length cap)) (AQ _ 5 undef) from x.tm 5)).1;have E6:=(dV (show Rep c b (.val (.int .i64 i)) (AQ _ 6 undef) from x.tm 6)).1;refine gR (i:=0) d0.at_ aBB (by kernel_rfl) (by kernel_rfl) (λ_ _ _ h=>g _ _ _ _ _ h) (mK (by kernel_rfl)) (by decide) (aLF d0 (v:= .slice (EU ⟨c.β 1,0,EV⟩) L.length cap) λw=>(aFg d0 _ w).trans (by rw[show DA _ (.tmp 5)=_ from E5])) ⟨⟩ ?_;rw[d0.dst];have f:=x.putO (t:=some 27) rfl (V (.slice (EU ⟨c.β 1,0,EV⟩) L.length cap) rfl);clear x
 revert f
 generalize BV _ (EU 27) _=a0;intro u;clear E5 E6;have E5:=(dV (show Rep c b (.val (.slice (EU ⟨c.β 1,0,EV⟩) L.length cap)) (AQ _ 5 undef) from u.tm 5)).1;have E6:=(dV (show Rep c b (.val (.int .i64 i)) (AQ _ 6 undef) from u.tm 6)).1;refine gR (i:=1) d1.at_ aBB (by kernel_rfl) (by kernel_rfl) (λ_ _ _ h=>g _ _ _ _ _ h) (mK (by kernel_rfl)) (by decide) (aLF d1 (v:= .int .i64 i) λw=>(aFg d1 _ w).trans (by rw[show DA _ (.tmp 6)=_ from E6])) ⟨⟩ ?_;rw[d1.dst];have f:=u.putO (t:=some 28) rfl (V (.int .i64 i) rfl);clear u
 revert f
 generalize BV _ (EU 28) _=a1;intro r;clear E5 E6;have E5:=(dV (show Rep c b (.val (.slice (EU ⟨c.β 1,0,EV⟩) L.length cap)) (AQ _ 5 undef) from r.tm 5)).1;have E6:=(dV (show Rep c b (.val (.int .i64 i)) (AQ _ 6 undef) from r.tm 6)).1;refine gR (i:=2) d2.at_ aBB (by kernel_rfl) (by kernel_rfl) (λ_ _ _ h=>g _ _ _ _ _ h) (mK (by kernel_rfl)) (by decide) (aLF d2 (v:= .int .i64 i) λw=>(aFg d2 _ w).trans (by rw[show DA _ (.tmp 6)=_ from E6])) ⟨⟩ ?_;rw[d2.dst];have f:=r.putO (t:=some 29) rfl (V (.int .i64 i) rfl);clear r
 revert f
 generalize BV _ (EU 29) _=a2;intro k;clear E5 E6;have E27:=(dV (show Rep c b (.val (.slice (EU ⟨c.β 1,0,EV⟩) L.length cap)) (AQ _ 27 undef) from k.tm 27)).1;have E28:=(dV (show Rep c b (.val (.int .i64 i)) (AQ _ 28 undef) from k.tm 28)).1;have E29:=(dV (show Rep c b (.val (.int .i64 i)) (AQ _ 29 undef) from k.tm 29)).1;refine gR (i:=3) d3.at_ aBB (by kernel_rfl) (by kernel_rfl) (λ_ _ _ h=>g _ _ _ _ _ h) (mK (by kernel_rfl)) (by decide) (aLF d3 (v:= .slice (EU ⟨c.β 1,0,EV⟩) i i) λw=>bHM E27 E28 E29 (by omega)) ⟨⟩ ?_;rw[d3.dst];have f:=k.putO (t:=some 30) rfl (V (.slice (EU ⟨c.β 1,0,EV⟩) i i) rfl);clear k
 revert f
 generalize BV _ (EU 30) _=a3;intro q;clear E27 E28 E29;have E5:=(dV (show Rep c b (.val (.slice (EU ⟨c.β 1,0,EV⟩) L.length cap)) (AQ _ 5 undef) from q.tm 5)).1;have E6:=(dV (show Rep c b (.val (.int .i64 i)) (AQ _ 6 undef) from q.tm 6)).1;refine gR (i:=4) d4.at_ aBB (by kernel_rfl) (by kernel_rfl) (λ_ _ _ h=>g _ _ _ _ _ h) (mK (by kernel_rfl)) (by decide) (aLF d4 (v:= .slice (EU ⟨c.β 1,0,EV⟩) L.length cap) λw=>(aFg d4 _ w).trans (by rw[show DA _ (.tmp 5)=_ from E5])) ⟨⟩ ?_;rw[d4.dst];have f:=q.putO (t:=some 31) rfl (V (.slice (EU ⟨c.β 1,0,EV⟩) L.length cap) rfl);clear q
 revert f
 generalize BV _ (EU 31) _=a4;intro o;clear E5 E6;have E5:=(dV (show Rep c b (.val (.slice (EU ⟨c.β 1,0,EV⟩) L.length cap)) (AQ _ 5 undef) from o.tm 5)).1;have E6:=(dV (show Rep c b (.val (.int .i64 i)) (AQ _ 6 undef) from o.tm 6)).1;refine gR (i:=5) d5.at_ aBB (by kernel_rfl) (by kernel_rfl) (λ_ _ _ h=>g _ _ _ _ _ h) (mK (by kernel_rfl)) (by decide) (aLF d5 (v:= .int .i64 i) λw=>(aFg d5 _ w).trans (by rw[show DA _ (.tmp 6)=_ from E6])) ⟨⟩ ?_;rw[d5.dst];have f:=o.putO (t:=some 32) rfl (V (.int .i64 i) rfl);clear o
 revert f
 generalize BV _ (EU 32) _=a5;intro A;clear E5 E6;have E32:=(dV (show Rep c b (.val (.int .i64 i)) (AQ _ 32 undef) from A.tm 32)).1;refine gR (i:=6) d6.at_ aBB (by kernel_rfl) (by kernel_rfl) (λ_ _ _ h=>g _ _ _ _ _ h) (mK (by kernel_rfl)) (by decide) (aLF d6 (v:= .int .i64 ((i+1:E2):E3)) λw=>(bG2 (n:=i) E32).trans (by rw[ew])) ⟨⟩ ?_;rw[d6.dst];have f:=A.putO (t:=some 33) rfl (V (.int .i64 ((i+1:E2):E3)) rfl);clear A
 revert f
 generalize BV _ (EU 33) _=a6;intro m;clear E32;have E31:=(dV (show Rep c b (.val (.slice (EU ⟨c.β 1,0,EV⟩) L.length cap)) (AQ _ 31 undef) from m.tm 31)).1;have E33:=(dV (show Rep c b (.val (.int .i64 ((i+1:E2):E3))) (AQ _ 33 undef) from m.tm 33)).1;refine gR (i:=7) d7.at_ aBB (by kernel_rfl) (by kernel_rfl) (λ_ _ _ h=>g _ _ _ _ _ h) (mK (by kernel_rfl)) (by decide) (aLF d7 (v:= .slice (EU ⟨c.β 1,if cap=i+1 then 0 else (i+1)*18,EV⟩) (L.length-(i+1)) (cap-(i+1))) λw=>bHN E31 E33 J z) ⟨⟩ ?_;rw[d7.dst];have f:=m.putO (t:=some 34) rfl (V (.slice (EU ⟨c.β 1,if cap=i+1 then 0 else (i+1)*18,EV⟩) (L.length-(i+1)) (cap-(i+1))) rfl);clear m
 revert f
 generalize BV _ (EU 34) _=a7;intro l;clear E31 E33;have E30:=(dV (show Rep c b (.val (.slice (EU ⟨c.β 1,0,EV⟩) i i)) (AQ _ 30 undef) from l.tm 30)).1;have E34:=(dV (show Rep c b (.val (.slice (EU ⟨c.β 1,if cap=i+1 then 0 else (i+1)*18,EV⟩) (L.length-(i+1)) (cap-(i+1)))) (AQ _ 34 undef) from l.tm 34)).1;obtain⟨v,D,G,I,hv⟩:=bFT (w:=b) E30 E34 J z H hh hs;refine aFb (rs:=[8]) (by kernel_rfl) (by simp) λj E=>?_;obtain rfl:j=8:=by simpa using E
 have M:∀(K:Act->E1->Prop) a,(execOp a.eval (dOp 8)).run AD b= .ok (.value v) D->K (a.put (EU 35) v) D->wpOp AD dO Q 8 K a b:=λK a hr hK=>by
  unfold wpOp;rw[d8.at_];dsimp only;rw[if_pos (by simp[C7,d8.gd])];refine .inl ?_;unfold Oper.wp;rw[hr,Oper.upon_value,d8.dst];exact hK
 refine M _ _ G ⟨λ_=>⟨⟩,?_⟩;refine aFb (rs:=[9]) (by kernel_rfl) (by simp) λj E=>?_;obtain rfl:j=9:=by simpa using E
 unfold wpOp;rw[d9.at_];dsimp only;rw[if_pos (by simp[C7,d9.gd])];refine .inl ?_;unfold Oper.wp;rw[show ∀ ρ,(execOp ρ (dOp 9)).run AD D= .ok (.value (ρ (.tmp 35))) D from fun ρ=>by simp only[execOp,d9.op_];simp,Oper.upon_value,d9.dst];refine⟨λh=>E4 rfl h,aLE (by kernel_rfl) ?_ 0⟩;have F:a7.tmps.size=190:=l.size;have U:(a7.put (EU 35) v).tmps.getD 35 undef=v:=aK3 (by rw[F];decide);have g4:((a7.put (EU 35) v).put (EU 4) ((a7.put (EU 35) v).eval (.tmp 35))).tmps.getD 4 undef=v:=(aK3 (by rw[aVh,F];decide)).trans U;obtain⟨a1,c1,e1,e2,e3⟩:=hv;refine hQ _ D v g4 ?_ (e.trans I) ⟨a1,c1,e1,e2,λh0=>?_⟩
 .show a7.defers=a.defers;rw[l.defers,R]
 .obtain⟨b',f1,f2,f3⟩:=e3 h0;have e0:b.heap.size=w.heap.size:=N;refine⟨b',f1,by rw[<-e0];exact f2,λj E=>?_⟩;obtain⟨cs,r1,r2,r3⟩:=q4 _ (aZK J E)
  grind
section
def yB:R->Z
 |.slice (EU a) _ _=>a.block
 |_=>0
theorem zF{v:R}{q:Z}(h:nY v q):yB v=q:=by
 obtain⟨_,_,rfl⟩:=h;rfl
theorem aOU{c:Ctx}{S X:Z->Prop}{d w':M}{wd len:Z}{f:Z->MV}{v:R}(h:OwnV c d wd len f v)(n:∀q,q<d.heap.size->¬X q->w'.heap[q]? =d.heap[q]?)(B:∀q,X q->c.S q)(C:∀q,S q->c.S q)(hv:∀q,nY v q->¬X q/\¬S q) :
  RepC (Ctx.res S) w' (.sl wd len f) [v]:=by
 obtain⟨a,cap,rfl,z,h⟩:=h;refine⟨a,cap,rfl,z,λh0=>?_⟩;rcases h with ⟨q,arr,ty,p,o,e3,D⟩|⟨_,e,_⟩
 .have g:=hv q ⟨len,cap,by rw[p]⟩;have m:q<d.heap.size:=(BU.1 o).1;refine⟨q,0,p,g.2,λj A=>?_⟩;obtain⟨E,t,s,r⟩:=D j A;exact⟨E,t,RepC.keep (⟨λq _ l=>C q l,λ_ _ h=>h,λ_ h=>h.elim,λq g l=>n q g λx=>l (B q x),λ_ _ h=>(h trivial).elim⟩:Keeps c.elem (Ctx.res S).elem d w') _ _ s,arr,ty,_,by rw[n q m g.1];exact o,λk u y=>by rw[CU];exact r k u y⟩
 .omega
theorem ExtB.ext{b:Base}{w0 w':M}(a:Ext w0 b.w)(h:ExtB b w')(e:∀q,b.X q->w0.heap.size<=q):Ext w0 w' :=
 ⟨h.os.trans a.os,h.output.trans a.output,CX a.size h.size,λk d=>(h.block k (BK d a.size) λc=>by have:=e k c;omega).trans (a.block k d),λx c=>(h.frz x (BK c a.size)).trans (a.frz x c),h.tape.trans a.tape,CX a.dr h.dr⟩
structure ChgI (S:Nat->Prop) (w0 w1:World) (zb:Nat) (L:List Stp) (i b cap:Nat) (S1:Nat->Prop) (pv bv:Nat->Value) (w:World):Prop where
 ext:Ext w0 w
 sz:w0.heap.size<=w1.heap.size
 zlt:zb<w1.heap.size/\w0.heap.size<=zb
 zS:S1 zb
 sub:∀q,S q->S1 q
 Slt:∀q,S q->q<w0.heap.size
 hb:w1.heap.size<=b
 bl:b<w.heap.size
 wl:w1.heap.size<=w.heap.size
 nest:NestR w1.heap.size S1 b ⟨cap*18,18⟩ L pv bv L.length L.length w
 hi:i<L.length
def aLT(pv bv:Z->R)(i k:Z):Prop:=k=0\/k=1\/(k=2/\∃q,nY (pv i) q)\/(k=3/\∃q,nY (bv i) q)
def chβ(zb b:Z)(pv bv:Z->R)(i k:Z):Z:=if k=0 then zb else if k=1 then b else if k=2 then yB (pv i)else yB (bv i)
def aSO(zb b:Z)(pv bv:Z->R)(i q:Z):Prop:=∃k,aLT pv bv i k/\chβ zb b pv bv i k=q
theorem aAS{zb b:Z}{pv bv:Z->R}{i q:Z}(h:aSO zb b pv bv i q):q=zb\/q=b\/nY (pv i) q\/nY (bv i) q:=by
 obtain⟨k,d,a⟩:=h;rcases d with rfl|rfl|⟨rfl,p,c⟩|⟨rfl,p,c⟩
 .exact .inl a.symm
 .exact .inr (.inl a.symm)
 .have e:yB (pv i)=q:=a;rw[zF c]at e
  simp_all
 .have e:yB (bv i)=q:=a;rw[zF c]at e
  simp_all
section
variable {S:Nat->Prop} {w0 w1:World} {zb:Nat} {L:List Stp} {i b cap:Nat} {S1:Nat->Prop} {pv bv:Nat->Value} {w:World}
theorem ChgI.X1(I:ChgI S w0 w1 zb L i b cap S1 pv bv w){q:Z}(h:aSO zb b pv bv i q):w0.heap.size<=q/\(S1 q\/q=b)/\q<w.heap.size:=by
 have a:=I.zlt;have hb:=I.hb;have hs:=I.sz;have hw:=I.wl;rcases aAS h with rfl|rfl|h|h
 .exact⟨a.2,.inl I.zS,by omega⟩
 .exact⟨by omega,.inr rfl,I.bl⟩
 .have:=I.nest.inP i q I.hi h;exact⟨by omega,.inl this.1,(I.nest.S0 q this.1).1⟩
 .have:=I.nest.inB i q I.hi h;exact⟨by omega,.inl this.1,(I.nest.S0 q this.1).1⟩
theorem ChgI.inj(I:ChgI S w0 w1 zb L i b cap S1 pv bv w):∀j k,aLT pv bv i j->aLT pv bv i k->chβ zb b pv bv i j=chβ zb b pv bv i k->j=k:=by
 have z1:=I.zlt;have hb:=I.hb;have f:∀q,nY (pv i) q->yB (pv i)=q/\w1.heap.size<=q/\q≠b:=λq c=>by
  have:=I.nest.inP i q I.hi c;exact⟨zF c,this.2,(I.nest.S0 q this.1).2⟩
 have g:∀q,nY (bv i) q->yB (bv i)=q/\w1.heap.size<=q/\q≠b:=λq c=>by
  have:=I.nest.inB i q I.hi c;exact⟨zF c,this.2,(I.nest.S0 q this.1).2⟩
 have t:chβ zb b pv bv i 0=zb:=rfl;have s:chβ zb b pv bv i 1=b:=rfl;have r:chβ zb b pv bv i 2=yB (pv i):=rfl;have o:chβ zb b pv bv i 3=yB (bv i):=rfl;intro j k l h e;rcases l with rfl|rfl|⟨rfl,p,d⟩|⟨rfl,p,d⟩<;>rcases h with rfl|rfl|⟨rfl,p',a⟩|⟨rfl,p',a⟩<;>simp only[t,s,r,o]at e<;>first|rfl|(exfalso)
 .omega
 .grind
 .grind
 .omega
 .grind
 .grind
 .grind
 .grind
 .have n:=f _ d;have m:=g _ a;exact I.nest.dX i i p I.hi I.hi d (by rw[show p=p' by omega];exact a)
 .grind
 .grind
 .have n:=g _ d;have m:=f _ a;exact I.nest.dX i i p' I.hi I.hi a (by rw[show p'=p by omega];exact d)
theorem ChgI.rest(I:ChgI S w0 w1 zb L i b cap S1 pv bv w){w':M}(k:∀q,q<w.heap.size->¬aSO zb b pv bv i q->w'.heap[q]? =w.heap[q]?):∀j,j<L.length->j≠i->
  RepC (Ctx.res S) w' (.sl 1 (L.getD j aD).parts.length (bI (L.getD j aD).parts)) [pv j]/\RepC (Ctx.res S) w' (.sl 2 (L.getD j aD).base.length (iL (L.getD j aD).base 200)) [bv j]:=λj c f=>by
 have z1:=I.zlt;have hs:=I.sz;have e:∀q,w1.heap.size<=q->¬S q:=λq a h=>by have:=I.Slt q h;omega
 refine⟨aOU (X:=aSO zb b pv bv i) (I.nest.ownP j c) k (λq a=>(I.X1 a).2.1) (λq a=>.inl (I.sub q a)) λq a=>?_,aOU (X:=aSO zb b pv bv i) (I.nest.ownB j c) k (λq a=>(I.X1 a).2.1) (λq a=>.inl (I.sub q a)) λq a=>?_⟩
 .have d:=I.nest.inP j q c a;refine⟨λg=>?_,e q d.2⟩;rcases aAS g with rfl|rfl|h|h
  .omega
  .exact(I.nest.S0 _ d.1).2 rfl
  .rcases BX f with h2|h2
   .exact I.nest.dP j i q h2 I.hi a h
   .exact I.nest.dP i j q h2 c h a
  .exact I.nest.dX j i q c I.hi a h
 .have d:=I.nest.inB j q c a;refine⟨λg=>?_,e q d.2⟩;rcases aAS g with rfl|rfl|h|h
  .omega
  .exact(I.nest.S0 _ d.1).2 rfl
  .exact I.nest.dX i j q I.hi c h a
  .rcases BX f with h2|h2
   .exact I.nest.dB j i q h2 I.hi a h
   .exact I.nest.dB i j q h2 c h a
end
end



structure lvS (m:Nat) (s:Stp):Prop where
 wd:Wd s.mag
 len:s.mag.length<=2+m
 parts:s.parts.length<=87+m
 base:s.base.length<=990+m
 sm:smallS (64+4*m) s
theorem bCV{m:Z}{s:Stp}(h:lvS m s)(hm:m<=3):okS s:=⟨h.wd,by have:=h.len;omega,by have:=h.parts;omega,by have:=h.base;omega⟩
theorem mul_two{c y:U}{m:Z}(hc:c.natAbs<2^(64+4*m))(a:y.natAbs<=4):(c*y).natAbs<2^(64+4*(m+1)):=by
 have e:2^(64+4*(m+1))=2^(64+4*m)*16:=by rw[show 64+4*(m+1)=(64+4*m)+4 by omega,BR]
 rw[e,D6];have h1:=BH c.natAbs a;omega
structure mkS (N:Nat) (s:Stp):Prop where
 lv:lvS 0 s
 cm:s.cm=0\/s.cm=N
theorem aHN{n:Z}(h:n<18446744073709551616):(aA n).length<=2+0:=dD (by omega)
theorem sm0(k:U)(g:O)(m p b:V U)(a:∀x∈b,x.natAbs<18446744073709551616):smallS 64 ⟨k,g,m,p,b,0,0,0,0,0,ET,0⟩:=by
 have h:(0:U).natAbs<2^64:=by decide
 exact⟨h,h,h,h,h,h,a⟩
theorem aMu(N:Z){z:U}(h:0<=z)(h2:z<18446744073709551616):mkS N (bV z) :=
 ⟨⟨aO _,aHN (by omega),Z9 _,Z9 _,sm0 _ _ _ _ _ λ_ h=>W h AT⟩,.inl rfl⟩
theorem bBZ(n:Z)(q:U):((gC n q:Z):U).natAbs<18446744073709551616:=by
 grind [AO,aNw,aI3,fQ]
theorem aO3{m:Z}(a:1<=m)(c:m<1099511627776):(aK m).length<=40:=by
 have h:=lC a;rw[<-fC]at h;have h3:=pT (aK m) λx b=>by
  rw[fC]at b;obtain⟨p,rfl,a,_⟩:=(fJ a).mem x b;have:=a.lt;omega
 have:=aEh (n:=m) (by omega) c;omega
theorem aTR(N n:Z)(hn:2<=n)(hn2:n<1099511627776)(pr:V Stp->U->V Stp)(M:V Stp):mkS N (t5 n (ixG pr M (aK (n-1))) ((aK (n-1)).map λq=>(gC n q:U))):=by
 have hl:=aO3 (m:=n-1) (by omega) (by omega);refine⟨⟨aO _,aHN (by omega),?_,?_,sm0 _ _ _ _ _ λx hx=>?_⟩,.inl rfl⟩
 .show(ixG pr M (aK (n-1))).length<=_;rw[aCy];omega
 .show(List.map _ (aK (n-1))).length<=_
  grind
 grind [bBZ]
def MkP(N:Z)(pr:V Stp->U->V Stp)(x:U):Prop:=∀L:V Stp,(∀s∈L,mkS N s)->∀s∈pr L x,mkS N s
theorem aHM(N:Z)(pr:V Stp->U->V Stp):∀(q:V U) (L:V Stp),(∀x∈q,MkP N pr x)->(∀s∈L,mkS N s)->∀s∈oS pr L q,mkS N s
 |[],_,_,a=>a
 |x::r,L,h,a=>aHM N pr r (pr L x) (λy b=>h y (AC _ b)) (h x (AA ..) L a)
theorem rK{N:Z}{L:V Stp}{b:Stp}(c:∀s∈L,mkS N s)(h:mkS N b):∀s∈L++[b],mkS N s:=λs a =>
 (A2.1 a).elim (c s) λa=>by rw[AM.1 a];exact h
theorem aCG{n:Z}(h:1<=n){x:U}(a:x∈aK n):2<=x/\x<=n:=by
 rw[fC]at a;obtain⟨p,rfl,c,b,_⟩:=(fJ h).mem x a;have:=c.lt;have:=AS (by omega) b;omega
theorem aCD(N:Z):∀(f:Z) (z:U),2<=z->z<1099511627776->MkP N (eA f) z
 |0,z,h,h2,L,a=>rK a (aMu N (by omega) (by omega))
 |f+1,z,h,h2,L,a=>by
  unfold eA;split
  .grind [rK,aMu]
  .unfold aCa;exact rK (aHM N _ _ L (λx b=>aCD N f x (aCG (show 1<=z.toNat-1 by omega) b).1 (by have:=(aCG (show 1<=z.toNat-1 by omega) b).2;omega)) a) (aTR N _ (by omega) (by omega) _ _)
theorem aYm{N:Z}:∀s∈([]:V Stp),mkS N s:=λ_ h=>W h AT
theorem aYi(N f n:Z)(b:2<=n)(hn2:n<1099511627776):∀s∈mE f [] n,mkS N s:=by
 rw[aCC];unfold aCa;exact rK (aHM N _ _ [] (λx a=>by have:=aCG (by omega) a;exact aCD N f x (by omega) (by omega)) aYm) (aTR N n b hn2 _ _)
theorem aYj(N f n b:Z)(hn:2<=n)(hn2:n<1099511627770):∀s∈pF f [] n b,mkS N s:=by
 rw[aEv];unfold aEu;have hl:=aO3 (m:=n+1) (by omega) (by omega);refine rK (by rw[nA];exact aHM N _ _ [] (λx a=>by have:=aCG (by omega) a;exact aCD N f x (by omega) (by omega)) aYm) ⟨⟨aO _,aHN (by omega),?_,by show 2<=990;omega,sm0 _ _ _ _ _ λx a=>?_⟩,.inl rfl⟩
 .show(ixH f [] (aK (n+1))).length<=_;rw[xF,aCy];omega
 .simp only[B1,AT,or_false]at a;rcases a with rfl|rfl
  .unfold plP;rw[AO];rcases AN (n-1)with e|e
   .omega
   .have:=AI (zV n b (iP f [] (aK (n+1))) (ixH f [] (aK (n+1)))) e;omega
  .unfold plQ;rw[AO];have:=AI (1+zV n b (iP f [] (aK (n+1))) (ixH f [] (aK (n+1)))/7) (show 0<n by omega);omega
theorem bCY{n:Z}(c:Pri n)(f:7<=n)(h2:n<1512)(d:Z):∀s∈aB4 [] n d,mkS n s:=by
 rw[aHu];generalize aHt [] n d=K;have R:=aH4 c f (by omega) K;have hle:jE n K<=1+2*n:=by unfold jE;rw[qY];exact aI5 c _ _ n
 have hqle:=R.qle;have hq:=R.q.lt;have e:g9 [] n K=([]++[bV (wM n K)])++[kZ n 0 (p9 n K) (sX n K) (cxX n K) (yN n K) (jE n K)]:=rfl;rw[e];have ha:=R.a;have hb:=R.b;have hx:=R.x;have hy:=R.y;refine rK (rK aYm (aMu n (by omega) (by omega))) ⟨⟨aO _,aHN (by omega),by show 1<=87;omega,Z9 _,?_,?_,?_,?_,?_,?_,λ_ h=>W h AT⟩,.inr rfl⟩
 all_goals (show(Int.ofNat _).natAbs<2^64;rw[Int.ofNat_eq_natCast,AO])
 all_goals omega
theorem aTM(a n f:Z):∀s∈mdL a n f,mkS (mdN a n) s:=by
 unfold mdL;split
 .rename_i h;have e:mdN a n=fK (n%65000):=by unfold mdN;rw[N h]
  have c:=AI n (show 0<65000 by omega);have k:=rM (m:=n%65000) (q:=65003) (by omega) (by omega) aHU (by unfold N26;omega);have:=k.hi;have k5:=k.pr.lt;rw[e,oP];exact aCD _ 0 _ (by omega) (by omega) [] aYm
 .split
  .rename_i b h;have e:mdN a n=fK (3+n%67108864):=by unfold mdN;rw[F b,N h]
   have c:=AI n (show 0<67108864 by omega);obtain⟨q,q1,_,k⟩:=rN (m:=3+n%67108864) (by omega);rw[e];have i:=k.hi;have g:=k.lo;exact aYi _ 10 _ (by omega) (by omega)
  .split
   .rename_i b d h;have e:mdN a n=fK (5+n%1048576):=by unfold mdN;rw[F b,F d,N h]
    have c:=AI n (show 0<1048576 by omega);obtain⟨q,_,q1,k⟩:=rN (m:=5+n%1048576) (by omega);rw[e];have i:=k.hi;have g:=k.lo;exact aYj _ 4 _ f (by omega) (by omega)
   .rename_i b d h;have e:mdN a n=fK (7+n%1500):=by unfold mdN;rw[F b,F d,F h]
    have c:=AI n (show 0<1500 by omega);have j:gW 1511=ES:=y7 (nI (by omega) (by omega) (by decide +kernel)) (by decide);have k:=rM (m:=7+n%1500) (q:=1511) (by omega) (by omega) j (by unfold N26;omega);rw[e];have i:=k.hi;have g:=k.lo;exact bCY k.pr (by omega) (by omega) f

theorem bHu{m:Z}{L:V Stp}(h:∀s∈L,lvS m s)(b:m<=3)(hl:L.length<=200):okT L:=⟨by omega,λs a=>bCV (h s a) b⟩
structure MdIn (a n r:Int):Prop where
 a:0<=a/\a<=255
 n:0<=n/\n<=4294967295
 r:0<=r/\r<=65535
theorem bGc(a n r:Z):∀s∈mdL a n r,lvS 0 s:=λs b=>(aTM a n r s b).lv
def sY(z:U):Prop:=∃p:Z,z=p/\Pri p
theorem aEy{a b:Z}(h:1<=a*b):1<=b:=by
 rcases AN b with e|e
 .rw[e,CV]at h;omega
 .exact e
theorem aF0{q:Z}(a:2<=q):∀(f m:Z),m<=f->1<=m->∃k c,m=q^k*c/\¬q ∣ c
 |0,m,h,d=>by omega
 |f+1,m,h,d=>by
  by_cases b:q ∣ m
  .obtain⟨t,rfl⟩:=b;have g:=aEy d;have:=DE t a;obtain⟨k,c,e,i⟩:=aF0 a f t (by omega) g;exact⟨k+1,c,by rw[CM,BD,<-e],i⟩
  .exact⟨0,m,by rw[BA,C3],b⟩
theorem aZv{q m:Z}(a:2<=q)(b:1<=m):∃k c,m=q^k*c/\¬q ∣ c/\j8 (m:U) q=((q^k:Z):U):=by
 obtain⟨k,c,rfl,d⟩:=aF0 a m m (Z0 _) b;exact⟨k,c,rfl,d,vZ a d (aEy b) k⟩
theorem aME{p q:Z}(a:Pri p)(b:Pri q)(h:p≠q):A8 p q=1:=a.cop λd=>(b.dv p d).elim (λe=>by have:=a.lt;omega) h
theorem aEE{m K:Z}(t:1<=m):∀(l:V U) (o:Z) (F:U),mH m l o=EU F->l.Nodup->
  (∀x∈l,∃q:Z,x=q/\Pri q/\A8 o q=1/\∀k c,m=q^(k+1)*c->q^(k+1) ∣ K)->o ∣ K->∃f:Z,F=f/\f ∣ K
 |[],o,F,h,_,_,a=>⟨o,by cases h;rfl,a⟩
 |x::r,o,F,h,s,u,a=>by
  obtain⟨q,rfl,j,w,v⟩:=u x (AA ..);obtain⟨k,c,e,_,ev⟩:=aZv j.lt t
  replace h:(if (m:U)%(q:U)=0 then mH m r (o*j8 m q)else EV)=EU F:=h
  split at h
  .rw[ev,<-AV]at h;have g:q^k ∣ K:=by
    cases k with
    |zero=>exact C4 _
    |succ k=>exact v k c e
   refine aEE t r _ F h (DW.1 s).2 (λy i=>?_) (CC (EO k w) a g);obtain⟨p,rfl,n,d,b⟩:=u y (AC _ i);exact⟨p,rfl,n,EP d (Nat.Coprime.pow_left k (aME j n λe=>(DW.1 s).1 (by rw[e];exact i))),b⟩
  .cases h
theorem aKE{n:U}:∀ {c a:V U},xN n c a=ES->c.length=a.length->∀x∈a,∃b,1<b/\gcd (fQ b ((n-1)/x).natAbs n-1) n=1/\fQ (fQ b ((n-1)/x).natAbs n) x.natAbs n=1
 |_, [],_,_,x,hx=>by simp at hx
 |[],_::_,_,h,_,_=>by simp at h
 |b::c,q::a,h,d,x,hx=>by
  unfold xN at h;simp only[Z3,decide_eq_true_eq]at h;rcases B1.1 hx with rfl|hx
  .exact⟨b,h.1.1,h.2.1.1,h.2.1.2⟩
  .exact aKE h.2.2 (by simpa using d) x hx
theorem aJW{a:U}{n p:Z}(h:gcd a n=1)(hp:1<p)(c:p ∣ n)(d:(p:U) ∣ a):r:=by
 have b:(p:U) ∣ ((gcd a n:Z):U):=Int.dvd_coe_gcd d (A9.2 c);rw[h]at b;have:=AS (by omega) (A9.1 b);omega
theorem aQ4{n p q k c:Z}{b:U}(j:Pri p)(d:p ∣ n)(o:n%2=1)(hn:2<n)(h:Pri q)(hb:1<b)(e:n-1=q^(k+1)*c)(l:gcd (fQ b (((n:U)-1)/q).natAbs n-1) n=1)(u:fQ (fQ b (((n:U)-1)/q).natAbs n) (q:U).natAbs n=1):q^(k+1) ∣ p-1:=by
 obtain⟨a,rfl⟩:∃a:Z,b=a:=⟨b.toNat,by omega⟩;have f:=j.lt;have q2:=h.lt;have ex:(((n:U)-1)/q).natAbs=q^k*c:=by
  rw[show(n:U)-1=((n-1:Z):U) by omega,e,<-D1,AO,CM,BD,AY _ (by omega)]
 have cast:∀i:Z,fQ (a:U) i n=((a^i%n:Z):U):=λi=>by simp[fQ]
 rw[aO8,AO,ex,show q^k*c*q=q^(k+1)*c by rw[BB];grind,cast]at u;rw[ex,cast]at l;have g:a^(q^(k+1)*c)%p=1%p:=by
  have s:a^(q^(k+1)*c)%n=1:=by omega
  rw[<-AW _ d,s]
 have op:p%2=1:=by
  obtain⟨t,rfl⟩:=d;rcases BW p with z|z
  .rw[C5,z,CT]at o;omega
  .exact z
 have r:a%p≠0:=λz=>by
  rw[BQ,z,EB (by rw[<-e];omega),AK f]at g;simp at g
 refine aKR h g (by rw[aHC j op r,AK f]) λz=>?_;refine aJW l f d ?_;have m:a^(q^k*c)%n%p=1:=by rw[AW _ d,z,AK f]
 generalize a^(q^k*c)%n=x at m;have:=BJ x p;refine⟨((x/p:Z):U),?_⟩;rw[<-AV];omega
theorem aAa{n f:Z}(c:1<n)(h:∀p,Pri p->p ∣ n->f<=p)(hf:n<f*f):Pri n:=by
 refine AE λw=>?_;obtain⟨p,b,a,hle⟩:=qK c w;have:=AX (h p b a) (h p b a);omega
theorem aOS{n:U}(h:fY n 2=ES):∃N:Z,n=N/\2<N/\N%2=1:=by
 simp only[fY,decide_eq_true_eq]at h;exact⟨n.toNat,by omega,by omega,by omega⟩
theorem aYh{n:U}{base q:V U}{v:O}(h:tZ n base v q=ES)(w:∀x∈q,sY x)(C:q.Nodup):sY n:=by
 unfold tZ at h;simp only[Z3]at h;obtain⟨g,_,h⟩:=h;obtain⟨N,rfl,E,g⟩:=aOS g;split at h
 .cases h
 .rename_i F t;simp only[Z3,decide_eq_true_eq]at h;obtain⟨hf,z,y⟩:=h;refine⟨N,rfl,?_⟩;rw[show(N:U)-1=((N-1:Z):U) by omega]at t;have key:∀p,Pri p->p ∣ N->∃f:Z,F=f/\f ∣ p-1:=λp d a =>
   aEE (by omega) q 1 F t C (λx o=>by
    obtain⟨r,rfl,s⟩:=w x o;obtain⟨b,D,A,B⟩:=aKE y z _ o;exact⟨r,rfl,s,DT _,λk c e=>aQ4 d a g E s D e A B⟩) (C4 _)
  obtain⟨u,i,m⟩:=kJ N N (Z0 _) (by omega);obtain⟨f,rfl,_⟩:=key u i m;have l:N<f*f:=by omega
  refine aAa (by omega) (λp d a=>?_) l;obtain⟨f',e,j⟩:=key p d a;have e:f=f':=by omega
  have:=AS (by have:=d.lt;omega) j;omega
theorem tX(p q:U)(d:Z):∀i:Z,aL p q (i+d)*aL p q (i+1)-aL p q (i+d+1)*aL p q i=q^i*aL p q d
 |0=>by
  rw[CU];show aL p q d*1-aL p q (d+1)*0=q^0*aL p q d;rw[BT];omega
 |i+1=>by
  have ih:=tX p q d i;have b:aL p q (i+1+1)=p*aL p q (i+1)-q*aL p q i:=rfl;have a:aL p q (i+1+d+1)=p*aL p q (i+d+1)-q*aL p q (i+d):=by rw[show i+1+d+1=i+d+2 by omega];rfl
  rw[show i+1+d=i+d+1 by omega]at a⊢;rw[b,a,A4]
  grind
theorem aEB{p:Z}(d:Pri p){a b:U}(h:(p:U) ∣ a*b):(p:U) ∣ a\/(p:U) ∣ b:=by
 have c:=Int.natAbs_dvd_natAbs.2 h;rw[D6,AO]at c;exact(d.mul c).imp CO.2 CO.2
theorem zZ{p:Z}(b:Pri p){a:U}:∀ {k:Z},(p:U) ∣ a^k->(p:U) ∣ a
 |0,h=>by
  rw[BT]at h;have:=BP (by omega) h;have:=b.lt;omega
 |k+1,h=>by
  rw[A4]at h;exact(aEB b h).elim (zZ b) id
theorem aTE{p:Z}(c:Pri p){a b:U}(e:¬(p:U) ∣ b){i d:Z}(g:(p:U) ∣ aL a b i)(f:(p:U) ∣ aL a b (i+d)):(p:U) ∣ aL a b d:=by
 have h:(p:U) ∣ b^i*aL a b d:=by
  rw[<-tX];exact DF (BF f (CZ ..)) (BF g (B7 ..))
 exact(aEB c h).elim (λz=>W (zZ c z) e) id
theorem aQI{p:Z}(t:Pri p){a b:U}(K:¬(p:U) ∣ b):∃w,1<=w/\w<=p+1/\(p:U) ∣ aL a b w:=by
 refine AE λB=>?_;have l:∀k,1<=k->k<=p+1->¬(p:U) ∣ aL a b k:=λk g c G=>B ⟨k,g,c,G⟩;have p2:=t.lt
 have inv:∀k,1<=k->k<=p+1->∃r:Z,r<p/\(p:U) ∣ aL a b (k+1)-r*aL a b k:=λk g c=>by
  have J:gcd (aL a b k) p=1:=by
   have:=t.cop (a:=(aL a b k).natAbs) λd=>l k g c (CO.2 d);rw[gcd,AO,ED];exact this
  obtain⟨_,_,u,hu⟩:=aBe (show(0:U)<p by omega) J;refine⟨(aL a b (k+1)*bQ (aL a b k) p%p).toNat,?_,?_⟩
  .have:=Int.emod_lt_of_pos (aL a b (k+1)*bQ (aL a b k) p) (show(0:U)<p by omega);omega
  .have L:=Int.emod_nonneg (aL a b (k+1)*bQ (aL a b k) p) (show(p:U)≠0 by omega);rw[Int.toNat_of_nonneg L,EI];exact⟨aL a b (k+1)*bQ (aL a b k) p/p*aL a b k-aL a b (k+1)*u,by grind⟩
 have pig:∃i d,1<=i/\1<=d/\i+d<=p+1/\∃r:Z,(p:U) ∣ aL a b (i+1)-r*aL a b i/\(p:U) ∣ aL a b (i+d+1)-r*aL a b (i+d):=by
  have j:∀k,∃r:Z,1<=k->k<=p+1->r<p/\(p:U) ∣ aL a b (k+1)-r*aL a b k:=λk=>by
   by_cases h:1<=k/\k<=p+1
   .obtain⟨r,g,c⟩:=inv k h.1 h.2;exact⟨r,λ_ _=>⟨g,c⟩⟩
   .exact⟨0,λg c=>W ⟨g,c⟩ h⟩
  refine AE λE=>?_;have m:∀x∈EF 1 (p+1),∀y∈EF 1 (p+1),CK (j x)=CK (j y)->x=y:=λx q y o e=>by
   rw[DJ]at q o;have D:=B4 (j x) q.1 (by omega);have v:=B4 (j y) o.1 (by omega);rw[<-e]at v;refine AE λC=>?_;rcases BX C with hlt|hlt
   .exact E ⟨x,y-x,q.1,by omega,by omega,_,D.2,by rw[show x+(y-x)=y by omega];exact v.2⟩
   .exact E ⟨y,x-y,o.1,by omega,by omega,_,v.2,by rw[show y+(x-y)=x by omega];exact D.2⟩
  have I:=rL (f:=λk=>CK (j k)) _ (List.nodup_range' (s:=1) (n:=p+1)) m;have A:=uD _ (B8 p) I (λz H=>by
   obtain⟨k,F,rfl⟩:=B9.1 H;rw[DJ]at F;exact BL.2 (B4 (j k) F.1 (by omega)).1) (by simp)
  have:=A.length_eq;simp at this
 obtain⟨i,d,g,c,G,r,⟨x,q⟩,y,o⟩:=pig;have h:(p:U) ∣ b^i*aL a b d:=by
  rw[<-tX];exact⟨aL a b (i+d)*x-y*aL a b i,by grind⟩
 rcases aEB t h with z|z
 .exact K (zZ t z)
 .exact l d c (by omega) z
theorem aOA{p:Z}(d:Pri p){a b:U}(e:¬(p:U) ∣ b){w:Z}(c:(p:U) ∣ aL a b w):∀(k r:Z),(p:U) ∣ aL a b (w*k+r)->(p:U) ∣ aL a b r
 |0,r,h=>by rw[CV,CU]at h;exact h
 |k+1,r,h=>aOA d e c k r (aTE d e c (by rw[show w+(w*k+r)=w*(k+1)+r by rw[DB];omega];exact h))
theorem aOB{p:Z}(d:Pri p){a b:U}{w:Z}(c:(p:U) ∣ aL a b w):∀k:Z,(p:U) ∣ aL a b (w*k)
 |0=>⟨0,by show(0:U)=_;omega⟩
 |k+1=>by
  rcases AN w with e|e
  .rw[e,CT];exact⟨0,by show(0:U)=_;omega⟩
  .rw[show w*(k+1)=w*k+(w-1)+1 by rw[DB];omega,(aCB a b (w*k) (w-1)).1,show w-1+1=w by omega];refine DF (BF c (B7 ..)) (BF (BF (aOB d c k) (CZ ..)) (B7 ..))
theorem aTF{p:Z}(j:Pri p){a b:U}(r:¬(p:U) ∣ b):∃w,1<=w/\w<=p+1/\∀m,(p:U) ∣ aL a b m↔w ∣ m:=by
 have ⟨w0,y,h2,x⟩:=aQI (a:=a) j r;have n:∀f w,w<=f->1<=w->(p:U) ∣ aL a b w->∃v,1<=v/\v<=w/\(p:U) ∣ aL a b v/\∀u,1<=u->u<v->¬(p:U) ∣ aL a b u:=λf=>by
  induction f with
  |zero=>intro w h h';omega
  |succ f t =>
   intro w h h' l;by_cases q:∃u,1<=u/\u<w/\(p:U) ∣ aL a b u
   .obtain⟨u,i,o,g⟩:=q;obtain⟨v,d,v2,c⟩:=t u (by omega) i g;exact⟨v,d,by omega,c⟩
   .exact⟨w,h',Z0 _,l,λu i o g=>q ⟨u,i,o,g⟩⟩
 obtain⟨v,d,v2,c,s⟩:=n w0 w0 (Z0 _) y x;refine⟨v,d,by omega,λm=>⟨λh=>?_,λ⟨k,e⟩=>e ▸ aOB j c k⟩⟩;refine AE λl=>?_;have hr:m%v≠0:=λz=>l (AF z);have:=AI m (show 0<v by omega);refine s (m%v) (by omega) this (aOA j r c (m/v) (m%v) (by rw[BJ];exact h))
theorem aKV{n a b:U}:∀ {c:V U},wH n a b c=ES->∀x∈c,gcd (pU a b ((n+1)/x).natAbs n) n=1
 |[],_,x,hx=>by simp at hx
 |q::c,h,x,hx=>by
  unfold wH at h;simp only[Z3,decide_eq_true_eq]at h;rcases B1.1 hx with rfl|hx
  .exact h.1
  .exact aKV h.2 x hx
theorem aEl{p:Z}{a b:U}(c:(p:U) ∣ b):∀k:Z,(p:U) ∣ aL a b (k+1)-a^k
 |0=>⟨0,by rw[BT];show(1:U)-1=_;omega⟩
 |k+1=>by
  obtain⟨x,hx⟩:=aEl (a:=a) c k;obtain⟨y,hy⟩:=c;show(p:U) ∣ a*aL a b (k+1)-b*aL a b k-a^(k+1);exact⟨a*x-y*aL a b k,by rw[A4];grind⟩
theorem aZt{n:E3}{base q:List E3}{Z:Bool}(h:uE n base Z q=ES)(S:∀x∈q,sY x)(hd:q.Nodup):sY n:=by
 unfold uE at h;simp only[Z3]at h;obtain⟨T,_,h⟩:=h;obtain⟨N,rfl,h2,T⟩:=aOS T;split at h
 .cases h
 .rename_i F C;simp only[Z3,decide_eq_true_eq]at h;obtain⟨B,s⟩:=h;unfold aQ2 at s;split at s
  .rename_i a b;simp only[Z3,decide_eq_true_eq]at s;obtain⟨_,_,_,P,hL⟩:=s;rw[zN,show((N:E3)+1).natAbs=N+1 by omega]at P;have A:(N:E3) ∣ aL a b (N+1):=B6 P;have i:∀(r p:E2),(r:E3)∈q->Pri p->p ∣ N->¬(p:E3) ∣ aL a b ((N+1)/r):=λr p o m d L=>by
    have U:=aKV hL _ o;rw[show(((N:E3)+1)/(r:E3)).natAbs=(N+1)/r by rw[show(N:E3)+1=((N+1:E2):E3) by omega,<-D1,AO],zN]at U;refine aJW U m.lt d ?_;rw[EI];exact DF L (BF (A9.2 d) (CZ ..))
   refine⟨N,rfl,?_⟩;rw[show(N:E3)+1=((N+1:E2):E3) by omega]at C;have M:=aBh C;have key:∀p,Pri p->p ∣ N->∃f:E2,F=f/\f<=p+1:=λp m d=>by
    have hp2:=m.lt;have j:(p:E3) ∣ aL a b (N+1):=BF (A9.2 d) A;by_cases E:(p:E3) ∣ b
    ·
     cases q with
     |nil =>
      cases C;exact⟨1,rfl,by omega⟩
     |cons x l =>
      exfalso;obtain⟨r,rfl,o⟩:=S x (AA ..);obtain⟨W,hx1⟩:=aEl (a:=a) E N;have ha:(p:E3) ∣ a:=zZ m (k:=N) (by obtain⟨y,hy⟩:=j;exact⟨y-W,by grind⟩);have H:r ∣ N+1:=by
       have:=M r (AA ..);exact AF (by omega)
      obtain⟨t,D⟩:=H;have X:=o.lt;have e1:(N+1)/r=t:=by rw[D,AY _ (by omega)]
      have t1:t≠0:=λz=>by rw[z,CV]at D;omega
      have t2:t≠1:=λz=>by
       rw[z,B0]at D;rcases o.dv 2 (AF (by omega))with w|w
       .omega
       .omega
      refine i r p (AA ..) m d ?_;rw[e1];obtain⟨V,u⟩:=aEl (a:=a) E (t-1);rw[show t-1+1=t by omega]at u;obtain⟨y,hy⟩:=ha;have e2:a^(t-1)=a*a^(t-2):=by rw[show t-1=t-2+1 by omega,A4,Int.mul_comm]
      exact⟨V+y*a^(t-2),by rw[e2]at u;grind⟩
    .obtain⟨w,w1,w2,R⟩:=aTF (a:=a) m E;have G:=(R _).1 j;obtain⟨f,v,J⟩:=aEE (K:=w) (by omega) q 1 F C hd (λx Q=>by
      obtain⟨r,rfl,o⟩:=S x Q;refine⟨r,rfl,o,DT _,λk c e=>?_⟩;have X:=o.lt;refine AE λhk=>?_;have:=part o k w (by rw[<-e];exact G) hk;refine i r p Q m d ((R _).2 ?_);rw[e,CM,BD,AY _ (by omega)];exact this) (C4 _)
     have:=AS (by omega) J;exact⟨f,v,by omega⟩
   obtain⟨Y,I,O⟩:=kJ N N (Z0 _) (by omega);obtain⟨f,rfl,_⟩:=key Y I O;have v:1<=f:=by
    rcases AN f with e|e
    .rw[e]at B;have B:(N:E3)<1:=B;omega
    .exact e
   refine aAa (f:=f-1) (by omega) (λp m d=>?_) (by
    obtain⟨g,rfl⟩:∃g,f=g+1:=⟨f-1,by omega⟩;rw[show((g+1:E2):E3)-1=(g:E3) by omega,<-AV]at B;show N<g*g;omega)
   obtain⟨f',e,hfd⟩:=key p m d;omega
  .cases s
theorem aGx(b:V U):∀(l a q:V U),b9 b l a=EU q->a.Nodup->(∀x∈a,x∈b)->q.Nodup/\∀x∈q,x∈b
 |[],a,q,h,f,d=>by cases h;exact⟨f,d⟩
 |i::r,a,q,h,f,d=>by
  unfold b9 at h;cases c:B (0<=i)&&(B (i<b.length)&&!(a.elem (b.getD i.toNat 0)))with
  |false=>rw[c]at h;cases h
  |true =>
   rw[c]at h;simp only[Z3,decide_eq_true_eq,DK,List.elem_eq_mem,decide_eq_false_iff_not]at c;refine aGx b r _ q h ?_ λx hx=>?_
   .rw[List.nodup_append];refine⟨f,by simp,λx hx y g=>?_⟩;rw[AM.1 g];exact λe=>c.2.2 (e ▸ hx)
   .rcases A2.1 hx with hx|hx
    .exact d x hx
    .rw[AM.1 hx,A0,AR (by omega)];exact DR _
theorem aZO{n:U}{b q:Z}{a:O}(h:sG n b q a=ES):sY n:=by
 unfold sG at h;simp only[Z3,decide_eq_true_eq]at h;obtain⟨h1,_,_,_,h⟩:=h;unfold isB at h;split at h
 .exact⟨n.toNat,by omega,bGO h (by unfold N26;omega)⟩
 .cases h
theorem aXD{n:U}{bl:Z}{a b m x y o:U}{i:O}{q:V U}(h:wZ n bl a b m x y o i q=ES):m=n/\3<n:=by
 unfold wZ at h;split at h
 .simp only[Z3,decide_eq_true_eq]at h;exact⟨h.2.2.2.2.1,h.2.1⟩
 .cases h
theorem aVm{d:V U}{s:Stp}(h:cA d s=ES)(i:∀x∈d,sY x)(o:s.cm=0\/sY s.cm):sY s.n:=by
 unfold cA at h;simp only[Z3]at h;obtain⟨_,_,h⟩:=h;split at h
 .cases h
 .rename_i q l;obtain⟨j,m⟩:=aGx d _ _ q l List.nodup_nil λx f=>by simp at f
  have b:∀x∈q,sY x:=λx f=>i x (m x f);unfold aKn at h;cases a:s.kind==1 with
  |true=>rw[a]at h;exact aZO h
  |false =>
   cases c:s.kind==2 with
   |true=>rw[a,c]at h;exact aYh h b j
   |false =>
    cases g:s.kind==3 with
    |true=>rw[a,c,g]at h;exact aZt h b j
    |false =>
     cases k:s.kind==4 with
     |true =>
      rw[a,c,g,k]at h;obtain⟨e,h5⟩:=aXD h;rcases o with z|z
      .omega
      .rw[<-e];exact z
     |false=>rw[a,c,g,k]at h;cases h
theorem aKx:∀(L:V Stp) (b:V U),dL b L->(∀x∈b,sY x)->(∀s∈L,s.cm=0\/sY s.cm)->∀s∈L,sY s.n
 |[],_,_,_,_,s,hs=>by simp at hs
 |t::r,b,h,a,d,s,hs=>by
  have c:=aVm h.1 a (d t (AA ..));rcases B1.1 hs with rfl|hs
  .exact c
  .refine aKx r _ h.2 (λx hx=>?_) (λz e=>d z (AC _ e)) s hs;rcases A2.1 hx with hx|hx
   .exact a x hx
   .rw[AM.1 hx];exact c
theorem aXv{L:V Stp}(h:chkE L=0)(b:∀s∈L,s.cm=0\/sY s.cm):∀s∈L,sY s.n:=by
 refine aKx L [] ((aAT L [] 0).1 ?_) (λx a=>by simp at a) b;unfold chkE at h;split at h
 .simp at h
 .assumption
theorem aYf(a n:Z):Pri (mdN a n):=by
 unfold mdN;split
 .have b:=AI n (show 0<65000 by omega);exact(rM (m:=n%65000) (q:=65003) (by omega) (by omega) aHU (by unfold N26;omega)).pr
 .split
  .have b:=AI n (show 0<67108864 by omega);obtain⟨q,_,_,k⟩:=rN (m:=3+n%67108864) (by omega);exact k.pr
  .split
   .have b:=AI n (show 0<1048576 by omega);obtain⟨q,_,_,k⟩:=rN (m:=5+n%1048576) (by omega);exact k.pr
   .have b:=AI n (show 0<1500 by omega);obtain⟨q,_,_,k⟩:=rN (m:=7+n%1500) (by omega);exact k.pr
theorem bGb(a n r:Z):∀s∈mdL a n r,s.cm=0\/sY s.cm:=λs b=>(aTM a n r s b).cm.imp id λe=>⟨_,e,aYf a n⟩
def aK7:Z->Z->Z->Z
 |0,_,x=>x
 |j+1,k,x=>aK7 j (2*k) (x+2^k*x)
theorem aAe:∀(j k x i:Z),x<2^k->i<k*2^j->AB (aK7 j k x) i=AB x (i%k)
 |0,k,x,i,c,a=>by
  rw[BA,B0]at a;rw[AK a];rfl
 |j+1,k,x,i,c,a=>by
  have hk:0<k:=by
   rcases AN k with e|e
   .rw[e,CT]at a;omega
   .exact e
  have d:x+2^k*x<2^(2*k):=by
   have e:2^(2*k)=2^k*2^k:=by rw[<-BR];congr 1;omega
   have:=BH (2^k) c;rw[DB]at this;omega
  have f:i<2*k*2^j:=by rw[BB]at a;grind
  have hm:i%(2*k)<2*k:=AI _ (by omega);have b:i%(2*k)%k=i%k:=AW i ⟨2,by omega⟩;show AB (aK7 j (2*k) (x+2^k*x)) i=_;rw[aAe j (2*k) _ i d f,Nat.add_comm,Nat.testBit_two_pow_mul_add _ c];split
  .rename_i h;rw[<-b,AK h]
  .rename_i h;rw[<-b];generalize i%(2*k)=y at *;rw[Nat.mod_eq_sub_mod (show k<=y by omega),AK (show y-k<k by omega)]
def aKT(f:Z->O):Z->Z
 |0=>0
 |n+1=>aKT f n |||cond (f n) (2^n) 0
theorem aOV(f:Z->O):∀n i,AB (aKT f n) i=(B (i<n)&&f i)
 |0,i=>by simp[aKT]
 |n+1,i=>by
  rw[aKT,D4,aOV f n i];by_cases h:i=n
  .subst h;cases hf:f i<;>simp
  .have e:AB (EY (f n) (2^n) 0) i=ET:=by
    cases f n
    .simp
    .show AB (2^n) i=ET;rw[A7];exact Y1 λw=>h w.symm
   rw[e,Bool.or_false]
   congr 1
   exact decide_eq_decide.2 (by omega)
theorem aUu(f:Z->O):∀n,aKT f n<2^n
 |0=>by simp[aKT]
 |n+1=>by
  rw[aKT];have h:=aUu f n;have e:2^(n+1)=2^n*2:=BB ..;refine Nat.or_lt_two_pow (by omega) ?_;cases f n
  .exact A3 _
  .show 2^n<2^(n+1);have:=A3 n;omega
def aEU:V Z->Z->O
 |[],S=>AZ (S &&&(S-1)) 0
 |N::l,S=>AZ (S &&&(S-1)) 0 ||(aEU l (S &&&N)&&aEU l (S ^^^ (S &&&N)))
theorem aLB{S p q:Z}(h:p<q)(d:AB S p=ES)(a:AB S q=ES):S &&&(S-1)≠0:=by
 intro e;have b:AB (S &&&(S-1)) q=ES:=by
  rw[AU,a,B3];rw[Nat.testBit_eq_decide_div_mod_eq]at a⊢;have h1:1<=S%2^q:=by
   have:AB (S%2^q) p=ES:=by rw[Nat.testBit_mod_two_pow];simp[h,d]
   rcases AN (S%2^q)with z|z
   .rw[z]at this;simp at this
   .exact z
  have hl:=AI S (A3 q);have e1:=BJ S (2^q);have f:(S-1)/2^q=S/2^q:=by
   generalize S%2^q=r at *;generalize S/2^q=c at *;rw[show S-1=2^q*c+(r-1) by omega,Nat.mul_add_div (A3 q),Nat.div_eq_of_lt (show r-1<2^q by omega),EE]
  rw[f];exact a
 rw[e]at b;simp at b
theorem aON{S p q:Z}(a:p≠q)(c:AB S p=ES)(b:AB S q=ES)(h:AZ (S &&&(S-1)) 0=ES):r:=by
 have h:=AH h;rcases BX a with z|z
 .exact aLB z c b h
 .exact aLB z b c h
theorem aMO:∀(l:V Z) (S p q:Z),aEU l S=ES->AB S p=ES->AB S q=ES->p≠q->∃N∈l,AB N p≠AB N q
 |[],S,p,q,h,c,b,a=>(aON a c b h).elim
 |N::l,S,p,q,h,c,b,a=>by
  by_cases e:AB N p=AB N q
  .rw[aEU,BI]at h;rcases h with h|h
   .exact(aON a c b h).elim
   .rw[Z3]at h;cases d:AB N p with
    |true =>
     obtain⟨M,g,f⟩:=aMO l _ p q h.1 (by rw[AU,c,d];rfl) (by rw[AU,b,<-e,d];rfl) a;exact⟨M,AC _ g,f⟩
    |false =>
     obtain⟨M,g,f⟩:=aMO l _ p q h.2 (by rw[BS,AU,c,d];rfl) (by rw[BS,AU,b,<-e,d];rfl) a;exact⟨M,AC _ g,f⟩
  .exact⟨N,AA ..,e⟩
def bGR(b r:Z):O:=decide (rsg b r*jac (r%b) b= -1)
def aOE(b:Z):Z:=aK7 14 (4*b) (aKT (bGR b) (4*b))
theorem aTL{b p:Z}(a:b%2=1)(h3:3<=b)(c:p%2=1)(h:p<131074):AB (aOE b) p=B (nN p b= -1):=by
 have d:p%(4*b)<4*b:=AI _ (by omega);have g:p%(4*b)%4=p%4:=AW p ⟨b,rfl⟩;have f:p%(4*b)%b=p%b:=AW p ⟨4,by omega⟩;have e:rsg b (p%(4*b))=rsg b p:=by unfold rsg;rw[g]
 rw[aOE,aAe 14 (4*b) _ p (aUu _ _) (by omega),aOV,Y0 d,B3,bGR,e,f,aOs _ _ a,aFV c a];have:nN b ((p%b:Z):U)=nN b p:=by rw[D0,yJ]
 rw[this]
def eM(e:Z):Z:=aK7 (17-e) (2^(e+1)) (2^(1+2^e))
theorem bCv{p e:Z}(h:p<131074)(he:e<=17)(b:1<=e)(a:p%2^(e+1)=1+2^e):AB (eM e) p=ES:=by
 have e1:2^(e+1)*2^(17-e)=262144:=by rw[<-BR,show e+1+(17-e)=18 by omega]
 have e2:2^1<=2^e:=BG (by omega) b;have e3:2^(e+1)=2^e*2:=BB ..;rw[eM,aAe _ _ _ _ (Nat.pow_lt_pow_right (by omega) (by omega)) (by omega),a,A7];simp
def jSv(r:Z):Z:=17-CH r
def clr(S r:Z):Z:=S ^^^ (S &&&(aK7 (jSv r) r 1 ^^^ 2^r))
def aMS:V Z->Z->Z
 |[],S=>S
 |r::l,S=>aMS l (clr S r)
theorem aXw{S r p:Z}(a:Pri p)(hr:1<r)(hj:131074<=r*2^jSv r)(h:p<131074):AB (clr S r) p=AB S p:=by
 have b:AB (aK7 (jSv r) r 1 ^^^ 2^r) p=ET:=by
  rw[BS,aAe _ _ _ _ (Nat.one_lt_two_pow (by omega)) (by omega),A7];by_cases e:r=p
  .subst e;rw[Nat.mod_self];simp
  .have c:p%r≠0:=λz=>(a.dv r (AF z)).elim (by omega) e;rw[Y1 e,D3];have:AB (2^0) (p%r)=B (0=p%r):=A7;rw[BA]at this;rw[this];exact Y1 (Ne.symm c)
 rw[clr,BS,AU,b,Bool.and_false,D3]
theorem aGN{p:Z}(c:Pri p)(h:p<131074):∀(l:V Z) (S:Z),(l.all λr=>decide (1<r)&&B (131074<=r*2^jSv r))=ES->AB S p=ES->AB (aMS l S) p=ES
 |[],S,_,b=>b
 |r::l,S,a,b=>by
  simp only[List.all_cons,Z3,decide_eq_true_eq]at a;exact aGN c h l _ a.2 (by rw[aXw c a.1.1 a.1.2 h];exact b)
def bFR(n:Z):Z:=2^n-1
theorem aXE(n p:Z):AB (bFR n) p=B (p<n):=Nat.testBit_two_pow_sub_one n p
def bGh(n:Z):V Z:=(B8 n).map λi=>2*i+3
def sv:Z:=aMS (bGh 180) ((aK7 17 2 2 &&&bFR 131074) ^^^ 2)
theorem aYp:((bGh 180).all λr=>decide (1<r)&&B (131074<=r*2^jSv r))=ES:=by decide +kernel
theorem aMW{p:Z}(a:Pri p)(d:p%2=1)(h:p<131074):AB sv p=ES:=by
 refine aGN a h _ _ aYp ?_;have h2:=a.lt;have c:AB (2^1) p=B (1=p):=A7;have b:AB (2^1) (p%2)=B (1=p%2):=A7;rw[Nat.pow_one]at c b;rw[BS,AU,aAe 17 2 2 p (by omega) (by omega),aXE,c,b,Y0 h,d,Y1 (show ¬ 1=p by omega)];rfl
def sI:V Z:=[3,5,7,11,13,17,19,23,29,31,37,41,43,47,53,59,61,67,71,73,79]
def aM8:V Z:=sI.map aOE
theorem bGZ:((B8 17).all λi=>aEU aM8 (sv &&&eM (i+1)))=ES:=by decide +kernel
theorem bCu:AZ ((aM8.foldl (λa N=>a |||N) 0) &&&sv) sv=ES:=by decide +kernel
theorem mG{p y:U}(h:p ∣ y-1):∀k:Z,p ∣ y^k-1
 |0=>⟨0,by rw[BT];omega⟩
 |k+1=>by
  obtain⟨a,c⟩:=h;obtain⟨b,hb⟩:=mG ⟨a,c⟩ k;exact⟨b*y+a,by rw[A4];grind⟩
theorem mF{p y:U}(h:p ∣ y+1)(k:Z):p ∣ y^(2*k)-1/\p ∣ y^(2*k+1)+1:=by
 have e:p ∣ y^2-1:=by
  obtain⟨a,d⟩:=h;exact⟨a*(y-1),by rw[A4,A4,BT];grind⟩
 have c:=mG e k;rw[<-B2]at c;refine⟨c,?_⟩;obtain⟨a,d⟩:=h;obtain⟨b,hb⟩:=c;exact⟨b*y+a,by rw[A4];grind⟩
theorem bBJ{m b:Z}(h1:2<m)(h2:m<2^128)(a:aW m b=ES)(g:b%m≠0) :
  ∃d,d%2=1/\(b^d%m=1\/∃j,(b^d)^2^j%m=m-1):=by
 have T:=aE6 (n:=m-1) (by omega) (by omega);unfold aW at a;have c:AZ (b%m) 0=ET:=by
  cases f:AZ (b%m) 0 with
  |true=>exact W (AH f) g
  |false=>rfl
 rw[c,Z5,aEw 128 1 (b%m) _ m (by omega) (DI (Nat.div_le_self ..) (by omega)),C3,<-BQ]at a;refine⟨_,T.o,?_⟩;rcases BI _ _ ▸ a with q|q
 .exact .inl (AH q)
 .obtain⟨j,_,e⟩:=aD7 _ _ m (AI _ (by omega)) q;exact .inr ⟨j,(BQ ..).trans e⟩
theorem aN2(p:Z)(b:p%2=1)(a:U)(h:nN p a≠0):nN p a=1\/nN p a= -1:=by
 have:=aEc a p;rw[vQ a b]at this;omega
theorem aCq{p:Z}(a:Pri p)(ho:p%2=1)(h:(p:U) ∣ 2):r:=by
 have:=BP (by omega) h;have:=a.lt;omega
theorem uA{d:Z}(h:d%2=1):d=2*(d/2)+1:=by omega
theorem aVs{m p b d:Z}(c:Pri p)(e:p%2=1)(a:p ∣ m)(hm:1<m)(j:d%2=1)(h:b^d%m=1):nN p b≠ -1:=by
 intro k;have o:(p:U) ∣ (b:U)^d-1:=by
  have n:=BJ (b^d) m;rw[h]at n;obtain⟨t,rfl⟩:=a;refine⟨((t*(b^d/(p*t)):Z):U),?_⟩;rw[<-CD,<-AV,<-BD];omega
 have i:=mG o (p/2);rw[<-B2,CW,B2]at i;have f:=aJ0 (eK c) e (b:U);rw[k]at f;have l:(p:U) ∣ (b:U)^(p/2)+1:=by
  have:=Int.emod_emod_of_dvd;exact B6 (by have:=EH ((b:U)^(p/2)) (-1) p;rw[f,EG]at this;simpa using this)
 have g:=(mF l (d/2)).2;rw[<-uA j]at g;obtain⟨x,hx⟩:=i;obtain⟨y,hy⟩:=g;exact aCq c e ⟨y-x,by grind⟩
theorem aPM{m p b d j:Z}(c:Pri p)(f:p%2=1)(h2:p<2^128)(A:p ∣ m)(hm:1<m)(H:d%2=1)(h:(b^d)^2^j%m=m-1):j<tz (p-1)/\(nN p b= -1↔j+1=tz (p-1)):=by
 have p1:=c.lt;have s:(p:U) ∣ (b:U)^(d*2^j)+1:=by
  have e:=BJ ((b^d)^2^j) m;rw[h,<-CG]at e;obtain⟨t,rfl⟩:=A;refine⟨((t*(b^(d*2^j)/(p*t)+1):Z):U),?_⟩;rw[<-CD,<-AV,<-BD,EL,B0];omega
 have k:¬(p:U) ∣ (b:U):=λw=>by
  have z:(p:U) ∣ (b:U)^(d*2^j):=by
   have:d*2^j=d*2^j-1+1:=by have:=DD (show 0<d by omega) (A3 j);omega
   rw[this,A4];exact BF w (B7 ..)
  have:=BP (by omega) ((Int.dvd_add_right z).1 s);omega
 have l:nN p b≠0:=λw=>(cT.1 w) (fI (eK c) k);have T:=aE6 (n:=p-1) (by omega) (by omega);obtain⟨u,r⟩:=AF T.m;have To:=T.o;generalize tz (p-1)=e at *;have i:u%2=1:=by rw[r,AY _ (A3 e)]at To;exact To
 have e1:1<=e:=by
  rcases AN e with z|z
  .rw[z,BA,C3]at r;omega
  .exact z
 have B:p/2=u*2^(e-1):=by
  have:2^e=2^(e-1)*2:=by rw[<-BB];congr 1;omega
  rw[this]at r;have h3:p=2*(u*2^(e-1))+1:=by grind
  omega
 have G:=aJ0 (eK c) f (b:U);have g:(p:U) ∣ (b:U)^(p/2)-nN p b:=by
  refine B6 ?_;rw[EH,G,EG,Int.zero_emod]
 have F:(p:U) ∣ (b:U)^(d*(u*2^(e-1)))-nN p b:=by
  rw[CW,<-B,B2];rcases aN2 p f b l with z|z
  .rw[z]at g⊢;exact mG g d
  .rw[z]at g⊢;have:=(mF (show(p:U) ∣ (b:U)^(p/2)+1 by rw[EM]at g;exact g) (d/2)).2;rw[<-uA H]at this;rw[EM];exact this
 have C:j<e:=by
  refine AE λw=>?_;have I:(p:U) ∣ (b:U)^(p-1)-1:=aHB (eK c) f k;have v:=mG I (d*2^(j-e));have a:=(mF s (u/2)).2;rw[<-uA i]at a;rw[<-B2]at v a;have L:(p-1)*(d*2^(j-e))=d*2^j*u:=by
   rw[r,show 2^j=2^e*2^(j-e) by rw[<-BR];congr 1;omega]
   grind
  rw[L]at v;obtain⟨x,q⟩:=v;obtain⟨y,D⟩:=a;exact aCq c f ⟨y-x,by grind⟩
 refine⟨C,?_⟩;have K:d*(u*2^(e-1))=d*2^j*(u*2^(e-1-j)):=by
  rw[show 2^(e-1)=2^j*2^(e-1-j) by rw[<-BR];congr 1;omega]
  grind
 rw[K,B2]at F;obtain⟨x,q⟩:=F;by_cases E:j+1=e
 .refine⟨λ_=>E,λ_=>?_⟩;rw[show e-1-j=0 by omega,BA,B0]at q;have a:=(mF s (u/2)).2;rw[<-uA i]at a;obtain⟨y,D⟩:=a;rcases aN2 p f b l with z|z
  .rw[z]at q;exact(aCq c f ⟨y-x,by grind⟩).elim
  .exact z
 .refine⟨λz=>?_,λz=>W z E⟩;have J:u*2^(e-1-j)=2*(u*2^(e-2-j)):=by
   rw[show 2^(e-1-j)=2^(e-2-j)*2 by rw[<-BB];congr 1;omega]
   grind
  have a:=(mF s (u*2^(e-2-j))).1;rw[<-J]at a;obtain⟨y,D⟩:=a;rw[z]at q;exact(aCq c f ⟨x-y,by grind⟩).elim
theorem aZV{m p q:E2}(h1:2<m)(h2:m<2^128)(O:∀b∈sI,aW m b=ES/\b%m≠0)(E:Pri p)(D:Pri q)(op:p%2=1)(s:q%2=1)(i:p ∣ m)(g:q ∣ m)(G:p<131074)(F:q<131074)(X:p≠q):False:=by
 have bit:∀r,r%2=1->r<131074->∀b∈sI,AB (aOE b) r=decide (nN r b= -1):=λr v C b f=>by
  have J:b%2=1/\3<=b:=(show ∀b∈sI,b%2=1/\3<=b by decide) b f;exact aTL J.1 J.2 v C
 have lem:∀r t:E2,Pri r->Pri t->r%2=1->t%2=1->r ∣ m->t ∣ m->r<131074->t<131074->¬tz (t-1)<tz (r-1):=λr t v ht or ot I V C lt hlt=>by
  have k:=aMW v or C;have L:=AH bCu;have:AB (aM8.foldl (λa N=>a |||N) 0) r=ES:=by
   rw[<-L,AU,Z3]at k;exact k.1
  have B:∀(l:List E2) (a:E2),AB (l.foldl (λa N=>a |||N) a) r=ES->AB a r=ES\/∃N∈l,AB N r=ES:=λl=>by
   induction l with
   |nil=>intro a h;exact .inl h
   |cons N l ih =>
    intro a h;rcases ih _ h with h|⟨M,hM,h⟩
    .rw[D4,BI]at h;rcases h with h|h
     .exact .inl h
     .exact .inr ⟨N,AA ..,h⟩
    .exact .inr ⟨M,AC _ hM,h⟩
  rcases B _ _ this with h|⟨N,R,h⟩
  .simp at h
  .obtain⟨b,f,rfl⟩:=B9.1 R;rw[bit r or C b f]at h;have hc:=of_decide_eq_true h;obtain⟨d,c,A⟩:=bBJ h1 h2 (O b f).1 (O b f).2;rcases A with P|⟨j,H⟩
   .exact aVs v or I (by omega) c P hc
   .have x:=aPM v or (by omega) I (by omega) c H;have y:=aPM ht ot (by omega) V (by omega) c H;have:=x.2.1 hc;omega
 have Z:tz (p-1)=tz (q-1):=by
  have a:=lem p q E D op s i g G F;have b:=lem q p D E s op g i F G;omega
 have cls:∀r,Pri r->r%2=1->r<131074->1<=tz (r-1)/\tz (r-1)<=17/\AB (eM (tz (r-1))) r=ES:=λr v or C=>by
  have r1:=v.lt;have T:=aE6 (n:=r-1) (by omega) (by omega);obtain⟨u,Q⟩:=AF T.m;have To:=T.o;generalize tz (r-1)=e at *;have U:u%2=1:=by rw[Q,AY _ (A3 e)]at To;exact To
  have S:1<=e:=by
   rcases AN e with z|z
   .rw[z,BA,C3]at Q;omega
   .exact z
  have K:e<=17:=by
   refine AE λw=>?_;have a:=BG (show 0<2 by omega) (show 18<=e by omega);have b:=AX a (show 1<=u by omega);rw[<-Q]at b;omega
  refine⟨S,K,bCv C K S ?_⟩;have e3:2^(e+1)=2^e*2:=BB ..;have p0:=A3 e;have p2:2^1<=2^e:=BG (by omega) S;have W:r=2^(e+1)*(u/2)+(1+2^e):=by
   rw[e3];have:=uA U;have e5:2^e*u=2^e*2*(u/2)+2^e:=by
    conv=>lhs;rw[this]
    rw[EL,B0,BD]
   omega
  rw[W,Nat.mul_add_mod,AK (by omega)]
 obtain⟨c1,c2,c3⟩:=cls p E op G;obtain⟨_,_,c4⟩:=cls q D s F;rw[<-Z]at c4;have Y:=BN.1 bGZ (tz (p-1)-1) (BL.2 (by omega));rw[show tz (p-1)-1+1=tz (p-1) by omega]at Y;obtain⟨N,R,c⟩:=aMO _ _ p q Y (by rw[AU,aMW E op G,c3];rfl) (by rw[AU,aMW D s F,c4];rfl) X;obtain⟨b,f,rfl⟩:=B9.1 R;rw[bit p op G b f,bit q s F b f]at c;refine c (decide_eq_decide.2 ?_);obtain⟨d,c,A⟩:=bBJ h1 h2 (O b f).1 (O b f).2;rcases A with P|⟨j,H⟩
 .exact⟨λw=>E4 w (aVs E op i (by omega) c P),λw=>E4 w (aVs D s g (by omega) c P)⟩
 .rw[(aPM E op (by omega) i (by omega) c H).2,(aPM D s (by omega) g (by omega) c H).2,Z]
def pw9(x e P:Z):Z:=(x^(e/256)%P)^256%P*(x^(e%256)%P)%P
theorem aUQ(x e P:Z):pw9 x e P=x^e%P:=by
 have h:x^e=(x^(e/256))^256*x^(e%256):=by
  rw[<-CG,<-BR]
  congr 1
  omega
 rw[pw9,h,<-BQ,<-C5]
def bE8(p:Z):O:=cond (AZ (pw9 2 (p-1) (p*p)) 1) (!(AZ (pw9 3 (p-1) (p*p)) 1)) ES
def aWM:Z->Z->O
 |0,a=>bE8 (2*a+3)
 |k+1,a=>aWM k a&&aWM k (a+2^k)
theorem aJd:∀(k a:Z),aWM k a=ES->∀i,i<2^k->bE8 (2*(a+i)+3)=ES
 |0,a,h,i,hi=>by
  rw[BA]at hi;rw[show i=0 by omega];exact h
 |k+1,a,h,i,hi=>by
  rw[aWM,Z3]at h;rw[BB]at hi;by_cases b:i<2^k
  .exact aJd k a h.1 i b
  .have:=aJd k _ h.2 (i-2^k) (by omega);rw[show a+2^k+(i-2^k)=a+i by omega]at this;exact this
theorem bG0:aWM 16 0=ES:=by decide +kernel
theorem bA1{p:Z}(ho:p%2=1)(h3:3<=p)(hl:p<131074)(b:2^(p-1)%(p*p)=1)(a:3^(p-1)%(p*p)=1):r:=by
 have h:=aJd 16 0 bG0 ((p-3)/2) (by omega);rw[show 2*(0+(p-3)/2)+3=p by omega,bE8,aUQ,aUQ,b,a]at h;simp at h
theorem aO1(y:U):∀n:Z,∃c:U,y^n-1-n*(y-1)=(y-1)*(y-1)*c
 |0=>⟨0,by rw[BT];simp⟩
 |n+1=>by
  obtain⟨c,hc⟩:=aO1 y n;refine⟨y*c+n,?_⟩;rw[A4,show((n+1:Z):U)=n+1 by omega]
  grind
theorem bEw{p:Z}{y:U}(h:(p:U) ∣ y-1):((p*p:Z):U) ∣ y^p-1:=by
 obtain⟨k,a⟩:=h;obtain⟨c,b⟩:=aO1 y p;rw[a]at b;rw[AV];exact⟨k+k*k*c,by grind⟩
theorem bGd{P a:Z}(hP:1<P):a%P=1↔(P:U) ∣ (a:U)-1:=by
 constructor
 .intro h;have:=BJ a P;exact⟨((a/P:Z):U),by rw[<-AV];omega⟩
 .rintro⟨t,ht⟩
  have h1:(a:U)%P=1:=by
   rw[show(a:U)=1+P*t by omega,Int.add_mul_emod_self_left];exact Int.emod_eq_of_lt (by omega) (by omega)
  omega
theorem aPI{m p b:Z}(x:2<m)(w:m<2^128)(k:aW m b=ES)(r:b%m≠0)(f:Pri p)(l:p%2=1)(a:p*p ∣ m):b^(p-1)%(p*p)=1:=by
 have d:=f.lt;have g:1<p*p:=by have:=AX d d;omega
 have i:=wU x w k r;have s:b^(m-1)%(p*p)=1%(p*p):=by rw[<-AW _ a,i]
 have c:b^(m-1)%p=1:=by
  rw[<-AW _ (A6 (BM p p) a),i,AK d]
 have h:b%p≠0:=λz=>by
  rw[BQ,z,EB (by omega)]at c;simp at c
 have v:=aHC f l h;have u:b^(p*(p-1))%(p*p)=1%(p*p):=by
  rw[AK g,CW p (p-1),CG];have:=bEw ((bGd d).1 v);rw[<-CD]at this;exact(bGd g).2 this
 have n:=aO0 _ _ s u;have q:A8 (m-1) p=1:=by
  have d1:A8 (m-1) p ∣ m-1:=DU ..;rcases f.dv _ (DN (m-1) p)with e|e
  .exact e
  .rw[e]at d1;have:p ∣ m:=A6 (BM p p) a;have:=(Nat.dvd_sub this d1);rw[show m-(m-1)=1 by omega]at this;have:=AS (by omega) this;omega
 have o:A8 (m-1) (p*(p-1)) ∣ p-1:=EQ (ER (DU ..) q) (DN ..);obtain⟨t,j⟩:=o;have:=aHY n t 0;rw[EE,<-j,BA,AK g]at this;exact this
theorem bGY:((2::sI).all λb=>(B8 80).all λd=>decide (d<3) ||decide (b<d*3) ||decide (b%d≠0))=ES:=by decide +kernel
theorem aSV{x y:Z}(C:x%2=1)(B:y%2=1)(v:3<=x)(o:3<=y)(u:x<131074)(s:y<131074):∃b∈2::sI,aW (x*y) b=ET:=by
 refine AE λm=>?_;have m9:=AX v o;have mh:=AX (EC u) (EC s);have l:∀b∈2::sI,aW (x*y) b=ES/\b%(x*y)≠0:=λb g=>by
  refine⟨?_,λz=>?_⟩
  .cases h:aW (x*y) b with
   |true=>rfl
   |false=>exact W ⟨b,g,h⟩ m
  .have n:0<b/\b<80:=(show ∀b∈2::sI,0<b/\b<80 by decide) b g;have j:=AF z;have hle:=AS n.1 j;have hx3:=BH x o;have h:=BN.1 (BN.1 bGY b g) x (BL.2 (by omega));simp only[BI,decide_eq_true_eq]at h;have:=CA (A6 (BM x y) j);omega
 have c:x*y<2^128:=by
  have:(2:Z)^128=340282366920938463463374607431768211456:=rfl;omega
 obtain⟨p,k,f⟩:=kJ x x (Z0 _) (by omega);obtain⟨q,D,d⟩:=kJ y y (Z0 _) (by omega);have lp:=AS (by omega) f;have lq:=AS (by omega) d;have odd_of:∀ {r z:Z},r ∣ z->z%2=1->r%2=1:=λ{r z} h A=>by
  obtain⟨t,rfl⟩:=h;rcases BW r with e|e
  .rw[C5,e,CT]at A;omega
  .exact e
 have op:=odd_of f C;have w:=odd_of d B;by_cases e:p=q
 .subst e;have i:p*p ∣ x*y:=Nat.mul_dvd_mul f d;have a:=l 2 (AA ..);have b:=l 3 (by decide);have:=k.lt;exact bA1 op (by omega) (by omega) (aPI (by omega) c a.1 a.2 k op i) (aPI (by omega) c b.1 b.2 k op i)
 .exact aZV (by omega) c (λb g=>l b (AC _ g)) k D op w (A6 f (BM ..)) (A6 d (DV ..)) (by omega) (by omega) e
theorem aGZ:∀(k b n:Z),0<b->uY k b n=0->∀i,i<k->aW n (b+i)=ES
 |0,_,_,_,_,i,hi=>by omega
 |k+1,b,n,hb,h,i,hi=>by
  rw[uY]at h;cases a:aW n b with
  |false=>rw[a]at h;simp at h;omega
  |true =>
   rw[a,Z6]at h;cases i with
   |zero=>exact a
   |succ i =>
    have:=aGZ k (b+1) n (by omega) h i (by omega);rw[show b+(i+1)=b+1+i by omega];exact this
theorem aGY:∀(k b n:Z),uY k b n≠0->aW n (uY k b n)=ET/\b<=uY k b n/\uY k b n<b+k
 |0,_,_,h=>W rfl h
 |k+1,b,n,h=>by
  rw[uY]at h⊢;cases e:aW n b with
  |false=>exact⟨e,Z0 _,by show b<_;omega⟩
  |true =>
   rw[e,Z6]at h;obtain⟨a,c,d⟩:=aGY k (b+1) n h;exact⟨a,by show b<=uY k (b+1) n;omega,by show uY k (b+1) n<_;omega⟩
theorem aUJ{x y:Z}(k:x%2=1)(j:y%2=1)(i:3<=x)(f:3<=y)(g:x<131074)(e:y<131074):aBu (x*y)≠0/\aW (x*y) (aBu (x*y))=ET/\2<=aBu (x*y)/\aBu (x*y)<=200:=by
 have d:aBu (x*y)≠0:=λz=>by
  obtain⟨b,l,h⟩:=aSV k j i f g e;have b80:2<=b/\b<80:=(show ∀b∈2::sI,2<=b/\b<80 by decide) b l;have:=aGZ 199 2 _ (by omega) z (b-2) (by omega);rw[show 2+(b-2)=b by omega,h]at this;cases this
 obtain⟨a,b,c⟩:=aGY 199 2 _ d;exact⟨d,a,b,by show uY 199 2 (x*y)<=200;omega⟩
theorem aZC{g:O}{l:V U}{W:Z}(h:okN g l)(a:(cV g l).natAbs<2^W):eV 0 (.st [.bool g,.ws l]) (.big (cV g l) W):=by
 obtain⟨c,b⟩:=aFT (s:=⟨0,g,l, [], [],0,0,0,0,0,ET,0⟩) h.wd h.can;exact⟨c,b,a⟩
def aLh:aF
 |[.st [.bool g,.ws l],.int .i64 b]=>EU (EU (okN g l/\(cV g l).natAbs<2^128/\-9223372036854775808<=b/\b<=9223372036854775807),.ret (.bool (oU (cV g l) b)))
 |_=>EV
def aSx:Ctr AD:=aHi.conv aLh λms p r h a hf=>by
 unfold aLh at h;split at h
 .rename_i g l b;simp only[Z1,Z2]at h;obtain⟨rfl,rfl⟩:=h;obtain⟨e,d,c⟩:okN g l/\(cV g l).natAbs<2^128/\-9223372036854775808<=b/\b<=9223372036854775807:=a;exact⟨[.big (cV g l) 128,.int .i64 b],_,⟨aZC e d,rfl,⟨⟩⟩,rfl,Z0 _,c⟩
 .simp at h
def aSw:Ctr AD:=Ctr.or aSx aHi rfl
theorem aN8{z b:U}(h:sY z)(h2:z<340282366920938463463374607431768211456):oU z b=ET:=by
 obtain⟨p,rfl,c⟩:=h;have p1:=c.lt;unfold oU;by_cases a:(2:U)<p
 .have e:p%2=1:=iY c (by omega);rw[Y0 a,Y1 (show ¬(p:U)%2=0 by omega),B3,D7];unfold aCc uV;by_cases d:1<=b
  .rw[N ⟨a,by omega,d⟩,N ⟨a,by omega,d⟩,Z8,aE1 c e (by have:(2:Z)^128=340282366920938463463374607431768211456:=rfl;omega)];simp
  .rw[F (λw=>d w.2.2)];simp
 .rw[Y1 a,Bool.false_and]
theorem aS3{z b:U}(h:2<z)(a:z%2=0):oU z b=ES:=by
 unfold oU;rw[Y0 h,Y0 a];rfl
theorem aS4{z:U}(h:z%2=1):oU z 0=ET:=by
 unfold oU;rw[Y1 (show ¬z%2=0 by omega),D7];unfold aCc;rw[F (λw=>by omega)];simp
theorem aXF{x y:U}(hx:0<=x/\x<=65535)(hy:0<=y/\y<=65535)(h:¬x+y=0) :
  aFw ((3+2*x)*(3+2*y))=0/\2<=aAH ((3+2*x)*(3+2*y))/\aAH ((3+2*x)*(3+2*y))<=200/\oU ((3+2*x)*(3+2*y)) (aAH ((3+2*x)*(3+2*y)))=ES:=by
 obtain⟨a,rfl⟩:∃a:Z,x=a:=⟨x.toNat,by omega⟩;obtain⟨b,rfl⟩:∃b:Z,y=b:=⟨y.toNat,by omega⟩;obtain⟨f,d,w3,w4⟩:=aUJ (x:=3+2*a) (y:=3+2*b) (by omega) (by omega) (by omega) (by omega) (by omega) (by omega);have e:(3+2*(a:U))*(3+2*(b:U))=(((3+2*a)*(3+2*b):Z):U):=by
  rw[AV,show((3+2*a:Z):U)=3+2*(a:U) by omega,show((3+2*b:Z):U)=3+2*(b:U) by omega]
 have ho:((3+2*a)*(3+2*b))%2=1:=by rw[C5,show(3+2*a)%2=1 by omega,show(3+2*b)%2=1 by omega]
 have h9:9<(3+2*a)*(3+2*b):=by
  rcases AN a with z|z
  .have:=BH (3+2*a) (show 5<=3+2*b by omega);omega
  .have:=AX (show 5<=3+2*a by omega) (show 3<=3+2*b by omega);omega
 rw[e];generalize (3+2*a)*(3+2*b)=m at *;have c:fY (m:U) 9=ES:=Y0 ⟨by omega,by omega⟩;have eT:aAH (m:U)=(aBu m:U):=by unfold aAH;rw[N c,Z8]
 have eE:aFw (m:U)=0:=by unfold aFw;rw[N c,Z8,F f]
 refine⟨eE,by omega,by omega,?_⟩;rw[eT];unfold oU aCc uV;rw[N ⟨by omega,by omega,by omega⟩,N ⟨by omega,by omega,by omega⟩,Z8,Z8,d,Y0 (show(2:U)<m by omega)];simp
def bFm(L:V Stp)(b:U):Z->MS->EW LoopAnn
 |6,e=>EU (.inv Z (λi=>i<=L.length) (λi=>⟨91, [(1,.int .i64 b),(5,.bp 1 0),(7,.bool ES),(8,.sl 18 L.length (aG L 200)),(9,.int .i64 i)],e.bx,0⟩) (λi=>L.length-i))
 |_,_=>EV
def bFa(L:V Stp)(b:U):Env AD:=⟨[bB4,aXb,aSw,cF,eI,bCf], [],39,bFm L b,(fun|999994=> [0]|_=> []),λ_ _=>EV⟩
theorem bE6(a n r b c d:U)(L:V Stp)(T:O)(f:_)(o:f=(J E7 (3+J E7 (2*J E7 c))*J E7 (3+J E7 (2*J E7 d))))(e:_)(m:e=λ(i:Z)=>(getD L (z (i:U)) aD))(g:_)(l:g=λ(i:Z)=>(cV (Stp.neg (e i)) (Stp.mag (e i))))(h:_)(k:h=(mdL (z a) (z n) (z r))):(((0<=a/\a<=255)/\(0<=n/\n<=4294967295)/\0<=r/\r<=65535)/\(∃i,i<=u L/\(b=b/\0=0/\ES=ES/\(18=18/\u h =u L/\LeFun (u h) (aG h 200) (aG L 200))/\0=(i:U)/\Y)/\(a=a/\n=n/\r=r/\Y)/\(c=c/\d=d/\Y)/\Y)/\∀(i:Z),i<=u L->bif B ((i:U)<(u L:U))then (0<=(i:U)/\(i:U)<(u L:U))/\(okN (Stp.neg (e i)) (Stp.mag (e i))/\natAbs (g i) <2^128/\(-9223372036854775808)<=b/\b<=9223372036854775807)/\bif oU (g i) b then ET=T else (0<=(i:U)/\(i:U)<(u L:U))/\(okN (Stp.neg (e i)) (Stp.mag (e i))/\natAbs (g i) <2^128/\(-9223372036854775808:U)<=2/\(2:U)<=9223372036854775807)/\bif oU (g i) 2 then ET=T else ∃j,j<=u L/\((b=b/\0=0/\ES=ES/\(18=18/\u L=u L/\LeFun (u L) (aG L 200) (aG L 200))/\J E7 ((i:U)+1)=(j:U)/\Y)/\(a=a/\n=n/\r=r/\Y)/\(c=c/\d=d/\Y)/\Y)/\u L-j<u L-i else ((0:U)<=0/\(0:U)<(↑(2:Z):U))/\fP (J E7 (3+J E7 (2*J E7 c)))/\((0:U)<=1/\(1:U)<(↑(2:Z):U))/\fP (J E7 (3+J E7 (2*J E7 d)))/\(64<=1000000/\64<=1000000)/\((0:U)<=0/\(0:U)<(↑(2:Z):U))/\fP (J E7 (4+J E7 (2*J E7 c)))/\(64<=128/\(-9223372036854775808)<=b/\b<=9223372036854775807)/\bif !oU (J E7 (4+J E7 (2*J E7 c))) b then ET=T else (64+64<=128/\(-9223372036854775808:U)<=0/\(0:U)<=9223372036854775807)/\bif oU f 0 then ET=T else ((0:U)<=0/\(0:U)<(↑(2:Z):U))/\((0:U)<=1/\(1:U)<(↑(2:Z):U))/\bif J E7 (J E7 c+J E7 d)==0 then ES=T else 64+64<=128/\bif aFw f ==0 then (64+64<=128/\(-9223372036854775808)<=aAH f/\aAH f <=9223372036854775807)/\oU f (aAH f)=T else ET=T)=aJ (bFa L b) D9 [.st [.int .u8 a,.int .u32 n,.int .u16 r],.int .i64 b,.st [.int .u16 c,.int .u16 d]] (MRes.sat (.ret (.bool T))):=by subst o m l k;kernel_rfl
theorem aQ9{s:Stp}(h:lvS 0 s):(cV s.neg s.mag).natAbs<2^64:=by
 have h1:=fR h.wd;have h0:=aY h.wd;have h2:(4294967296:U)^s.mag.length<=4294967296^2:=by
  have:=BG (show 0<4294967296 by omega) h.len;have e1:((4294967296^s.mag.length:Z):U)=4294967296^s.mag.length:=CD ..;have e2:((4294967296^(2+0):Z):U)=4294967296^2:=by rfl
  omega
 have h3:(4294967296:U)^2=18446744073709551616:=rfl;have h4:(2:Z)^64=18446744073709551616:=rfl;unfold cV
 grind
set_option maxRecDepth 100000 in
theorem bFb{a n r b c d:U}(j:MdIn a n r)(D: -9223372036854775808<=b/\b<=9223372036854775807)(G:0<=c/\c<=65535)(F:0<=d/\d<=65535) :
  aJ (bFa (mdL a.toNat n.toNat r.toNat) b) D9 [.st [.int .u8 a,.int .u32 n,.int .u16 r],.int .i64 b,.st [.int .u16 c,.int .u16 d]] (MRes.sat (.ret (.bool ES))):=by
 rw[<-bE6 a n r b c d (mdL a.toNat n.toNat r.toNat) ES _ rfl _ rfl _ rfl _ rfl];have B:=(aTN a.toNat n.toNat r.toNat).len;have l:=bGc a.toNat n.toNat r.toNat;have I:=bGb a.toNat n.toNat r.toNat;have q:=(aTN a.toNat n.toNat r.toNat).chkE;generalize mdL a.toNat n.toNat r.toNat=L at *;have E:=bHu l (by omega) B;have w0:J E7 c=c:=aT (by omega) (by omega);have A:J E7 d=d:=aT (by omega) (by omega);have y:J E7 (2*c)=2*c:=aT (by omega) (by omega);have x:J E7 (2*d)=2*d:=aT (by omega) (by omega);have v:J E7 (3+2*c)=3+2*c:=aT (by omega) (by omega);have u:J E7 (3+2*d)=3+2*d:=aT (by omega) (by omega);have t:J E7 (4+2*c)=4+2*c:=aT (by omega) (by omega);have s:J E7 (c+d)=c+d:=aT (by omega) (by omega);rw[w0,A,y,x,v,u,t,s];have ids:(a=a/\n=n/\r=r/\Y)/\(c=c/\d=d/\Y)/\Y:=⟨⟨rfl,rfl,rfl,⟨⟩⟩,⟨rfl,rfl,⟨⟩⟩,⟨⟩⟩;refine⟨⟨j.a,j.n,j.r⟩,⟨0,Z9 _,⟨rfl,rfl,rfl,⟨rfl,rfl,B5⟩,rfl,⟨⟩⟩,ids⟩,λi hi=>?_⟩;rw[Z8];refine aH Z4 (λq1=>?_) (λ_=>?_)
 .have e:i<L.length:=by omega
  have m:(0:U)<=(i:U)/\(i:U)<(L.length:U):=⟨by omega,q1⟩;have f:L.getD i aD∈L:=by rw[A0,AR e];exact DR e
  have p:sY (cV (L.getD i aD).neg (L.getD i aD).mag):=aXv q I _ f;have k:=aQ9 (l _ f);have h:=aD1 E (aJR q).2 e e;generalize cV (L.getD i aD).neg (L.getD i aD).mag=z at *;have o:z<340282366920938463463374607431768211456:=by
   have h4:(2:Z)^64=18446744073709551616:=rfl;omega
  have g:z.natAbs<2^128:=BK k (BG (by omega) (by omega));have H:J E7 ((i:U)+1)=((i+1:Z):U):=by rw[aT (by omega) (by omega)];omega
  rw[aN8 p o,aN8 p o,Z5,Z5];exact⟨m,⟨h,g,D⟩,m,⟨h,g,by omega,by omega⟩,i+1,by omega,⟨⟨rfl,rfl,rfl,⟨rfl,rfl,B5⟩,H,⟨⟩⟩,ids⟩,by omega⟩
 .have C:((3+2*c)*(3+2*d))%2=1:=by rw[Int.mul_emod,show(3+2*c)%2=1 by omega,show(3+2*d)%2=1 by omega];rfl
  rw[aS3 (z:=4+2*c) (by omega) (by omega),aS4 C,Bool.not_true,Z5,Z5];refine⟨by omega,by omega,by omega,by omega,by omega,by omega,by omega,by omega,by omega,by omega,by omega,aH beq_iff_eq (λ_=>rfl) λz=>⟨by omega,?_⟩⟩;obtain⟨d1,d2,d3,d4⟩:=aXF G F z;exact aH beq_iff_eq (λ_=>⟨by omega,d4⟩) λw=>W d1 w
def aPw:aF
 |[.st [.int .u8 a,.int .u32 n,.int .u16 r],.int .i64 b,.st [.int .u16 c,.int .u16 y1]]=>EU (EU (MdIn a n r/\(-9223372036854775808<=b/\b<=9223372036854775807)/\(0<=c/\c<=65535)/\0<=y1/\y1<=65535),.ret (.bool ES))
 |_=>EV
set_option maxRecDepth 100000 in
theorem bGL:bC D9 aPw:=by
 intro ms p r h c;unfold aPw at h;split at h
 .rename_i a n r b y0 y1;cases h;obtain⟨d,e,g,f⟩:=c;exact⟨bFa _ _,bFb d e g f⟩
 .simp at h
def bFK:Ctr AD:=⟨8,aPw,λargs w=>Tryz.call8 args w,aN bR Tryz.func8 aPw bGL⟩
section
open Go Go.ChangeShapes Go.WideShapes Go.ChangeAt Go.RowKit
theorem aFU:Tryz.prog.cellsOf 23=1:=by kernel_rfl
theorem aLR:Tryz.prog.cellsOf 25=3:=by kernel_rfl
theorem bGV{n:U}(h:(C8 .u8 n).wf=ES):0<=n/\n<=255:=by simpa [D5,CR,CS,CB,CJ]using h
theorem bEC{n:U}(h:(C8 .u32 n).wf=ES):0<=n/\n<=4294967295:=by simpa [D5,CR,CS,CB,CJ]using h
section
variable {H:Type} {enc:TypeId×Value->H} {w:World} {sp:Nat->Bool} {held:Bool} {v:Value} {d:DataW H} {ps:List MemPlace}
theorem aU2(h:EJ enc AD w 0 sp held 25 v d ps) :
  ∃a n r,Rep1 (Ctx.args noS) w (.st [.int .u8 a,.int .u32 n,.int .u16 r]) v/\(0<=a/\a<=255)/\(0<=n/\n<=4294967295)/\0<=r/\r<=65535:=by
 obtain⟨fuel,h⟩:=h;obtain⟨q,f',e⟩:=aLx Tryz.underlying25 h;rw[aLR]at q
 match s:v.cells.toList,q with
 |[a,b,c],_ =>
  rw[s]at e;obtain⟨y0,i⟩:=e _ (AA ..);obtain⟨y1,g⟩:=e _ (AC _ (AA ..));obtain⟨y2,f⟩:=e _ (AC _ (AC _ (AA ..)));dsimp only at i g f;rw[aJN]at i;rw[aQb]at g;rw[aFU]at f;obtain⟨p,z,w0⟩:=trod_int DL i;obtain⟨o,y,u⟩:=trod_int Tryz.underlying22 g;obtain⟨m,x,t⟩:=trod_int CP f;have l:[a]=[.int .u8 p]:=z;have k:[b]=[.int .u32 o]:=y;have j:[c]=[.int .u16 m]:=x;simp only[List.cons.injEq,and_true]at l k j;subst l k j;exact⟨p,o,m,(eB rfl).2 ⟨_,aFE s,_,_,rfl,rfl,_,_,rfl,rfl,_,_,rfl,rfl,rfl⟩,bGV w0,bEC u,aMZ t⟩
end
end
section
open Go Go.ChangeShapes Go.WideShapes Go.ChangeAt Go.RowKit
theorem aHq:Tryz.prog.cellsOf 73=2:=by kernel_rfl
theorem aMJ{H:Type}{enc:X×R->H}{w:M}{p:Z->O}{c:O}{v:R}{d:DataW H}{q:V MemPlace}(h:EJ enc AD w 0 p c 73 v d q) :
  ∃f e,Rep1 (Ctx.args noS) w (.st [.int .u16 f,.int .u16 e]) v/\(0<=f/\f<=65535)/\(0<=e/\e<=65535):=by
 obtain⟨fuel,h⟩:=h;obtain⟨m,f',g⟩:=trod_array Tryz.underlying73 h;rw[aHq]at m
 match n:v.cells.toList,m with
 |[a,b],_ =>
  rw[n,aFU]at g;obtain⟨y0,s⟩:=g 0 (by decide);obtain⟨y1,r⟩:=g 1 (by decide);obtain⟨l,u,w0⟩:=trod_int CP s;obtain⟨k,t,o⟩:=trod_int CP r;have j:[a]=[.int .u16 l]:=u;have i:[b]=[.int .u16 k]:=t;simp only[List.cons.injEq,and_true]at j i;subst j i;exact⟨l,k,(eB rfl).2 ⟨_,aFE n,_,_,rfl,rfl,_,_,rfl,rfl,rfl⟩,aMZ w0,aMZ o⟩
end
end
end Go.Proofs.YtkejceafemeifaaGreatDoor
