/-
  Arguments of the laws of chapter 07: descriptions of proofs, and changes.
-/
import Derived.Test.YtkejceafemeifaaGreatDoorT5
import Derived.Test.YtkejceafemeifaaGreatDoorT2
import Derived.Test.YtkejceafemeifaaGreatDoorRows
import Derived.Test.YtkejceafemeifaaGreatDoorT3
import Derived.Test.YtkejceafemeifaaGreatDoorCards
import Derived.Test.YtkejceafemeifaaGreatDoorTie
import Derived.Test.YtkejceafemeifaaGreatDoorT4
import Derived.ProofKit
import Derived.OpenShut
import Derived.JoinedCond
import Derived.LaidMore
import Derived.LaidLaws
import Derived.LaidHandle
import Derived.ChangeVars
import Derived.Stop.Joined
import Derived.ChangeSame
import Derived.MakeChecks
import Derived.OrdersHeld

namespace Go.Proofs.YtkejceafemeifaaGreatDoor
open Go Go.RowKit
open Go.IntKind (wrap i64 i32 i16 i8 u64 u32 u16 u8)
open Int (toNat natAbs)
open List (length take drop getD set replicate)
open BitVec (ofInt)
open Int (gcd tmod tdiv fdiv)
open List renaming getD_eq_getElem?_getD->AA,getElem?_eq_getElem->AC,mem_cons_self->AF,length_take->AG,mem_cons_of_mem->AH,length_map->AJ,take_append_drop->AP,length_append->AS,getElem?_append_right->AT,not_mem_nil->AX,mem_of_elem_eq_true->A0,mem_singleton->A2,mem_append->A5,mem_append_right->A6,length_set->A9,mem_append_left->BH,length_cons->BL,nil_append->BM,append_nil->BN,mem_cons->BX,getElem?_drop->B2,take_succ_eq_append_getElem->B5,getElem?_map->B6,length_drop->CB,length_nil->CF,mem_range->CJ,mapM_cons->CK,getElem?_append_left->CL,drop_eq_getElem_cons->CM,mem_map->CQ,set_append_right->CT,getElem?_take->CV,append_assoc->CY,take_length->C2,mem_flatMap->C3,getElem_mem->C4,drop_length->C5,cons_append->C6,any_eq_true->C7,all_eq_true->C8,mem_filter->C9,map_append->DA,range->DP
open Go.Proofs.Tryz renaming prog->AB,underlying5->C0,underlying4->C1,f29->DC,f10->DD,f7->DG,f12->DS
open News renaming len->AD
open Option renaming bind_eq_some_iff->AE,map_eq_some_iff->AK,getD_some->A8,bind_eq_bind->BR,pure_def->B9,map_some->CA,map_none->CX
open Nat renaming lt_or_ge->AI,not_lt_zero->AL,lt_of_lt_of_le->AM,eq_of_beq_eq_true->AQ,blt->AR,le_trans->AV,beq->A1,zero_add->A3,dvd_of_mod_eq_zero->A4,mod_lt->BA,blt_eq->BB,gcd->BD,sub_self->BJ,le_of_dvd->BK,min_eq_left->BP,mul_le_mul->BS,mul_le_mul_left->BW,dvd_trans->B1,lt_or_gt_of_ne->B4,log2->B7,mod_eq_of_lt->CE,zero_lt_one->CG,mod_eq_zero_of_dvd->CR,add_zero->CS,mul_assoc->DH,pow_mul->DK,pow_mod->DL,pow_add->DM,mul_pos->DN,mul_one->DO,beq_eq->DR
open Go.DataW renaming trod->AN,TrodAll->BU,Whole->DI
open _root_.Array renaming getD->AO,getElem?_eq_some_iff->AY,length_toList->CU,ext'->DJ
open Go.Value renaming slice->AU,okWide->B3,cells->DF
open Option.some renaming inj->AW
open Go.Region renaming ready->AZ,binds->B0,wanted->CI,noSelect->CW
open MV renaming ment->A7
open Go.Act renaming put->BE,eval->BT
open LeFun renaming refl->BF
open RepC renaming clean->BG,keep->BI
open Go.IntKind renaming signed->BO,bits->BY,min->CN,max->CO
open Go.World renaming cell?->BQ
open Ctx renaming res->BV,args->B8
open Bool renaming true_and->BZ,eq_false_iff->CZ,or_eq_true->DB
open Go renaming mem_ready->CC
open Classical renaming byContradiction->CD
open Int renaming natCast_mul->CH,le_of_dvd->CP,mul_nonneg->DE
open _root_ renaming Nat->Z,Int->U,List->V,False->C,if_neg->W,True->o,Array->J,Bool->N,absurd->M,if_pos->O,Option->DX,cond->DY,Nat->D1,List->D2,Array->D5,False->D7,absurd->D8,Int->EA,if_pos->EB
open List renaming length->r
open Go renaming Value->R,World->Y,TypeId->T,Oper->A,Program->E,Value->D3,World->D4,Oper->D6
open Int renaming toNat->u,tmod->D
open Go.IntKind renaming wrap->X,u64->DZ,i64->D0,wrap->D9
open Decidable renaming decide->B
open Bool renaming true->DT,false->DU
open Option renaming some->DV,none->DW
noncomputable section
theorem aU1{N:Z}(b:Pri N):aL N=[(N:U)]:=by
 have g:=b.lt;have P:=gW (show 1<=N by omega);rw[<-gI]at P;have a:∀x∈aL N,x=(N:U):=λx f=>by
  obtain⟨p,rfl,q1,d,_⟩:=P.mem x f;rw[q1.eq_of_dvd b d]
 have c:=P.all N b (Nat.dvd_refl N)
 match hl:aL N,c,a,P.pw with
 |[],c,_,_=>simp at c
 |[x],_,a,_=>rw[a x (AF ..)]
 |x::y::r,_,a,e =>
  have g:=a x (AF ..);have h2:=a y (AH _ (AF ..));have:=(List.pairwise_cons.1 e).1 y (AF ..);omega
theorem aTF{p a b N:Z}(h:aOz p a b N=DT):¬p ∣ 4*(a*(a*a))+27*(b*b)/\Pri N/\N<1681/\grB N p=DT:=by
 unfold aOz at h;simp only[Z3,Bool.not_eq_true',BB]at h;obtain⟨d,j,c,i,g⟩:=h;refine⟨λf=>?_,sU j c i,c,g⟩;have e:Nat.mod (4*(a*(a*a))+27*(b*b)) p=0:=CR f;rw[e]at d;simp at d
theorem aQJ{n:Z}(f:Pri n)(g:7<=n)(i:n<1512):∃k,n-1<=k/\k<n+100/\aD6 n k=DT:=by
 rcases aTK n i g with h|⟨d,_,d2,d3,d4⟩
 .rw[C7]at h;obtain⟨q,c,h⟩:=h;simp only[Z3,BB]at h;obtain⟨⟨b,a⟩,j⟩:=h;have b:=AQ b;have a:=Nat.le_of_ble_eq_true a;have:=aYn q c;rw[b]at this;exact⟨q.2,a,j,this⟩
 .rcases f.dv d (A4 d3)with e|e<;>omega
theorem aQT(A M X Y:U):cM A M (.pt X Y DU) 1= .pt X Y DU:=by
 rw[uV (by decide),show 1/2=0 from rfl,rL];rfl
theorem aTi{n k:Z}(d:Pri n)(p:7<=n)(s:n<=2000)(o:Pri (j7 n k))(j:xW n k=(j7 n k:U))(c:qB (rV n k) (uF n k) n=DT)(l:grB (j7 n k) n=DT)(L:V Stp) :
  bW (nums (L++[b8 (xW n k)])) (nH n L.length (rV n k) (uF n k) (cxX n k) (cyY n k) (j7 n k))=DT:=by
 have R:=aMU d p s k;have h1:=o.lt;have h:(nums (L++[b8 (xW n k)])).length=L.length+1:=by simp[nums]
 have b:(nums (L++[b8 (xW n k)])).getD L.length 0=(j7 n k:U):=by
  have:(b8 (xW n k)).n=(j7 n k:U):=by rw[j];exact aVN (by omega)
  simp[nums,AA,this]
 have e:bZ (nums (L++[b8 (xW n k)])) [(L.length:U)] []=DV [(j7 n k:U)]:=by
  rw[pK,Z8,b,h,Y0 (show(0:U)<=L.length by omega),Y0 (show(L.length:U)<((L.length+1:Z):U) by omega)];rfl
 unfold bW;rw[aOg,show(nH n L.length (rV n k) (uF n k) (cxX n k) (cyY n k) (j7 n k)).can=DT from zG n,Y0 (show(1:U)<n by omega),BZ,BZ];show(match bZ (nums (L++[b8 (xW n k)])) [(L.length:U)] []with|none=>DU|some q=>aBl (nH n L.length (rV n k) (uF n k) (cxX n k) (cyY n k) (j7 n k)).n 0 (rV n k) (uF n k) n (cxX n k) (cyY n k) (j7 n k) DU q)=DT;rw[e,aOg];dsimp only;have a:=R.on;have g:bI (rV n k) (uF n k) n ((j7 n k:U)/(j7 n k:U)) (cxX n k) (cyY n k) DU=⟨cxX n k,cyY n k,DU,0,0⟩:=by
  rw[Int.ediv_self (by omega)];unfold bI;rw[a,Z6,Y1 (show ¬(1:U)<0 by omega),Z5,show(1:U).natAbs=1 from rfl,aQT];rfl
 have f:bI (rV n k) (uF n k) n (j7 n k:U) (cxX n k) (cyY n k) DU=⟨0,0,DT,0,0⟩:=by
  unfold bI;have i:=aTh (t:= .pt (cxX n k) (cyY n k) DU) d (by omega) R.cv c a;rw[<-vV]at i;rw[a,Z6,Y1 (show ¬(j7 n k:U)<0 by omega),Z5,Int.natAbs_natCast];show(cM (rV n k) n (.pt (cxX n k) (cyY n k) DU) (j7 n k)).rs=_;rw[show j7 n k=aTb (rV n k) (uF n k) n from rfl,i];rfl
 have r:gcd n 6=1:=by
  rw[Int.gcd_comm];exact aCW d λm=>by
   have:=CP (by decide) m;have:n=7\/n<7:=by omega
   omega
 unfold qB at c;unfold aBl;dsimp only;rw[g];dsimp only;rw[f,a,l,of_decide_eq_true c,r,Y0 (show(3:U)<n by omega),Y0 (show(0:U)<j7 n k by omega),Int.emod_self,Y0 (rfl:(n:U)=n)];rfl
theorem aJ2{n:Z}(b:Pri n)(g:7<=n)(m:n<1512)(L:V Stp):∃k,n-1<=k/\k<1099511627776/\pR L n k=DT:=by
 obtain⟨k,j,k2,a⟩:=aQJ b g m;unfold aD6 at a;rw[aXS _ _ (by omega),<-vV]at a;have a:aOz n (rV n k) (uF n k) (j7 n k)=DT:=a;obtain⟨o,i,g3,h⟩:=aTF a;have c:qB (rV n k) (uF n k) n=DT:=Y0 (aCW b λf=>o (by
  have e:(4*((rV n k:U)*((rV n k:U)*rV n k))+27*((uF n k:U)*uF n k))=((4*(rV n k*(rV n k*rV n k))+27*(uF n k*uF n k):Z):U):=by simp[Int.natCast_add,CH]
  rw[e]at f;exact Int.natCast_dvd_natCast.1 f))
 have d:xW n k=(j7 n k:U):=by unfold xW;rw[aU1 i];rfl
 refine⟨k,j,by omega,?_⟩;have l:=aTi b g (by omega) i d c h L;unfold pR;rw[c,l,d,h];rfl
structure MadeOk (R:List Stp) (p:Int):Prop where
 right:cI [] R
 ok:okT R
 fine:∀s∈R,s.can=true/\2<=s.n
 last:(R.getD (R.length-1) aB).n=p
 pos:1<=R.length
 len:R.length<=200
theorem MadeOk.chk{R:V Stp}{p:U}(h:MadeOk R p):oX [] R 0=DW:=(aBj R [] 0).2 h.right
theorem MadeOk.chkE{R:V Stp}{p:U}(h:MadeOk R p):chkE R=0:=by
 unfold Go.Proofs.YtkejceafemeifaaGreatDoor.chkE;rw[h.chk];dsimp only;have:R.length.beq 0=DU:=by
  cases a:R.length.beq 0 with
  |true=>have:=AQ a;have:=h.pos;omega
  |false=>rfl
 rw[this];rfl
theorem MadeOk.proves{R:V Stp}{p:U}(h:MadeOk R p):wN R p=DT:=by
 unfold wN;rw[h.chkE,h.last,Y0 (rfl:(0:U)=0),Y0 (rfl:p=p)];rfl
theorem MadeOk.okl{R:V Stp}{p:U}(h:MadeOk R p):okL R.length (aF R 200):=sR h.ok
theorem aGu{n:Z}(a:n≠0)(h:n<1099511627776):B7 n<40:=(Nat.log2_lt a).2 h
theorem aOP{R:V Stp}{w:Z}{z:U}(P:ProvOk [] R w z)(hw:w<40)(c:cI [] R):MadeOk R z:=by
 have d:=P.hi;have b:=P.lo;rw[CF]at d b;exact⟨c,⟨by omega,P.ok λs a=>M a AX⟩,P.fine λs a=>M a AX,P.last,by omega,by omega⟩
theorem aQS{f:Z}{z:U}(a:f<=20)(h:Fits f z)(hz:z<1099511627776):MadeOk (jP f [] z) z:=by
 rw[rR];have:=h.two;exact aOP (pN f [] z a h) (aGu (by omega) (by omega)) (qC f [] z a h trivial)
theorem aTZ{f n:Z}(g:Pri n)(i:3<=n)(d:n<1099511627776)(e:n<65536*2^(f+1))(a:f<=20):MadeOk (nJ f [] n) n:=by
 rw[aHR];have h:=kC g (by omega);have c:=v6 (f:=f) (n:=n) (by omega) h e;exact aOP (aKK [] i d h (λx b L=>pN f L x a (c x b)) (Nat.le_max_right 2 (B7 n)) (Nat.le_max_left 2 (B7 n))) (by have:=aGu (n:=n) (by omega) d;omega) (aEJ g i d a c (λx b L j=>qC f L x a (c x b) j) trivial)
theorem bB8(n k:Z)(I:V U):(fS n k I).n=n:=aGz n I []
theorem aQR{f n:Z}(e:Pri n)(i:5<=n)(o:n<4194304)(a:n+1<65536*2^(f+1))(c:f<=20)(j:Z):MadeOk (rO f [] n j) n:=by
 have ho:=kC e (by omega);have h:=aBu (f:=f) (show 2<=n+1 by omega) (by omega) a;have A:=aGO e i a c [];have E:=aGP e i o A j;have k:=oP (show 1<=n+1 by omega);rw[<-gI]at k;have hlen:=sQ (aL (n+1)) λx d=>(h x d).two;have h40:=aGu (n:=n+1) (by omega) (by omega);have g:=A.hi;rw[CF]at g;have hA:=A.len;rw[aK2];unfold aGN;have l:cI [] (jV f [] (aL (n+1))):=by
  rw[pU];exact xS _ [] (λx d L m=>qC f L x c (h x d) m) trivial
 refine⟨l5 l E.yes,⟨by simp;omega,λs hs=>?_⟩,λs hs=>?_,by rw[oL];exact bB8 n _ _,by simp,by simp;omega⟩
 .rcases A5.1 hs with hs|hs
  .exact A.ok (λs hs=>M hs AX) s hs
  .rw[A2.1 hs];refine⟨aQ _,?_,?_,by show 2<=1000;omega⟩
   .have:=bS (n:=n) (b:=64) (by omega);show(aA n).length<=6;omega
   .show(ixH f [] (aL (n+1))).length<=90;omega
 .rcases A5.1 hs with hs|hs
  .exact A.fine (λs hs=>M hs AX) s hs
  .rw[A2.1 hs,bB8];exact⟨zG n,by omega⟩
theorem aKh(n v:Z):∀k,((DP k).filter λy=>y*y%n==v).length=kU n v k
 |0=>rfl
 |k+1=>by
  have:=aKh n v k;rw[List.range_succ,List.filter_append,AS,this];show _=kU n v k+(if k*k%n=v then 1 else 0);by_cases e:k*k%n=v
  .simp[e]
  .simp[e]
theorem aXT{p:Z}(c:Pri p)(v:Z):kU p v p<=2:=by
 have d:=c.lt;rw[<-aKh];have:=aBn (jA c) (k:=1) (λb=>by have:=CP (by decide) b;omega) 2 [-(v:U),0] (((DP p).filter λy=>y*y%p==v).map λy:Z=>(y:U)) rfl (by
  rw[List.pairwise_map];refine List.Pairwise.imp_of_mem (R:=λx y=>x<y) (λ{x y} hx a hxy b=>?_) (List.Pairwise.filter _ List.pairwise_lt_range);have a:=CJ.1 (C9.1 a).1;obtain⟨z,hz⟩:=b;have d:(y:U)-x=p*(-z):=by rw[Int.mul_neg];omega
  have h2:=CP (show 0<(y:U)-x by omega) ⟨-z,d⟩;omega) (λr f=>by
  obtain⟨y,a,rfl⟩:=CQ.1 f;have e:y*y%p=v:=by simpa using (C9.1 a).2
  show(p:U) ∣ -(v:U)+y*(0+y*1);have g: -(v:U)+y*(0+y*1)=(y:U)*y-((y*y%p:Z):U):=by rw[e];grind
  rw[g,Int.natCast_emod,CH];exact wI _ _)
 simpa using this
theorem aPP{p:Z}(c:Pri p)(a b:Z):∀k,qU a b p k<=1+2*k
 |0=>Z0 1
 |k+1=>by
  have h1:=aPP c a b k;have h2:=aXT c (sZ a b p k);unfold qU;omega
theorem aTY{n:Z}(c:Pri n)(d:7<=n)(i:n<1512)(b:Z):MadeOk (aEa [] n b) n:=by
 obtain⟨g,y1,y2,f⟩:=aJ2 c d i [];have hfm:b%n<n:=BA _ (by omega);have a:=aAZ (pR [] n) 1125899906842624 (b%n) g (by omega) (by omega) f;rw[<-aOe]at a;rw[aOf];generalize aJ1 [] n b=K at *;have R:=aMU c d (by omega) K;have hq:=R.q.lt;have hle:j7 n K<=1+2*n:=by unfold j7;rw[vV];exact aPP c _ _ n
 have hqle:=R.qle;unfold pR at a;simp only[Z3]at a;have h:=aFk [] R.q (z:=xW n K) (by omega);have e:iU [] n K=([]++[b8 (xW n K)])++[nH n 0 (rV n K) (uF n K) (cxX n K) (cyY n K) (j7 n K)]:=rfl;rw[e];refine⟨l5 (l5 trivial h) a.2.2,⟨by simp,λs hs=>?_⟩,λs hs=>?_,by rw[oL];exact aOg n 0 _ _ _ _ _,by simp,by simp⟩
 .rcases A5.1 hs with hs|hs
  .rw[BM,A2]at hs;rw[hs];exact aKW (by omega) (by omega)
  .rw[A2.1 hs];exact aOh (by omega)
 .rcases A5.1 hs with hs|hs
  .rw[BM,A2]at hs;rw[hs];exact aJc (by omega)
  .rw[A2.1 hs,aOg];exact⟨zG n,by omega⟩
theorem aGF:∀(f n q:Z),n<=q->q<n+f->iI q=DT->iI (nR f n)=DT/\nR f n<=q
 |0,n,q,c,h2,_=>by omega
 |f+1,n,q,c,h2,a=>by
  unfold nR;cases b:iI n with
  |true=>exact⟨b,c⟩
  |false =>
   have:q≠n:=λe=>by rw[e,b]at a;exact M a (by decide)
   exact aGF f (n+1) q (by omega) (by omega) a
section
theorem oO{α β:Type}{f g:α->DX β}:∀(l:V α) (c:V β),l.mapM f=DV c->(∀a x,f a=DV x->x∈c->g a=DV x)->l.mapM g=DV c
 |[],c,h,_=>h
 |a::l,c,h,e=>by
  simp only[CK,BR,B9,AE,Z1]at h⊢;obtain⟨x,m,d,k,rfl⟩:=h;exact⟨x,e a x m (AF ..),d,oO l d k λb y j i=>e b y j (AH _ i),rfl⟩
theorem aEI{α β:Type}{f g:α->DX β}:∀(l:V α) (c:V β),l.mapM f=DV c->(∀a∈l,∀x,f a=DV x->x∈c->g a=DV x)->l.mapM g=DV c
 |[],c,h,_=>h
 |a::l,c,h,e=>by
  simp only[CK,BR,B9,AE,Z1]at h⊢;obtain⟨x,n,d,m,rfl⟩:=h;exact⟨x,e a (AF ..) x n (AF ..),d,aEI l d m λb k y i j=>e b (AH _ k) y i (AH _ j),rfl⟩
theorem aQf{w w':Y}(e:∀b,b<w.heap.size->w'.heap[b]? =w.heap[b]?){a:Addr}{v:R}(h:w.cell? a=DV v):w'.cell? a=DV v:=by
 have c:a.block<w.heap.size:=by
  unfold BQ at h
  grind
 unfold BQ at h⊢;rw[e _ c];exact h
theorem aL0{w w':Y}(e:∀b,b<w.heap.size->w'.heap[b]? =w.heap[b]?){base:Z}{a:Addr}{n:Z}{c:V R}(h:w.cells? base a n=DV c):w'.cells? base a n=DV c:=by
 unfold World.cells? at h⊢
 grind [oO,aQf]
section
variable {H:Type} {enc:TypeId×Value->H} {P:Program} {w w':World}
def aLB(P:E)(L:V Z)(t:Z):N:=match P.underlying t with
 |some (.pointer e)=>L.elem e
 |some (.slice e)=>L.elem e&&(0).blt (P.cellsOf e)
 |some (.struct a)=>a.toList.all λf=>L.elem f.type
 |some (.array _ e)=>L.elem e
 |some (.interface _)=>DU
 |some (.map _ e)=>L.elem e
 |_=>DT
theorem aG6{L:V Z}(D:L.all (aLB P L)=DT)(e:∀b,b<w.heap.size->w'.heap[b]? =w.heap[b]?)(j:Z->N)(d:N) :
  ∀(fuel:Z) (t:T) (v:V R) (x:DataW H×V MemPlace),t∈L->AN enc P w 0 (λ_=>DT) d fuel t v=DV x->(∀p∈x.2,j p.block=DT)->AN enc P w' 0 j d fuel t v=DV x
 |0,_,_,_,_,h,_=>by simp[AN]at h
 |fuel+1,t,v,x,J,h,k=>by
  have I:=aG6 D e j d fuel;have c:=C8.1 D t J;unfold aLB at c;unfold AN at h⊢;have F:∀(a:Addr) (n:Z) (u:T) (y:DataW H×V MemPlace),u∈L->(w.cells? 0 a n).bind (AN enc P w 0 (λ_=>DT) d fuel u)=DV y->(∀p∈y.2,j p.block=DT)->(w'.cells? 0 a n).bind (AN enc P w' 0 j d fuel u)=DV y:=by
   intro a n u y g l K;obtain⟨B,m,s⟩:=AE.1 l;exact AE.2 ⟨B,aL0 e m,I u B y g s K⟩
  split at h
  case h_21=>simp at h
  case h_6 =>
   rename_i g;rw[g]at c;obtain⟨y,m,rfl⟩:=AK.1 h;exact AK.2 ⟨y,F _ _ _ _ (A0 c) m λp o=>k p (A6 _ o),rfl⟩
  case h_8 =>
   rename_i G a len cap g;rw[g]at c;simp only[Z3,BB]at c;have A:=A0 c.1;dsimp only at h⊢;split at h
   .rename_i r;rw[O r];obtain⟨elems,m,h⟩:=AE.1 h;obtain⟨rest,s,rfl⟩:=AK.1 h;rw[O rfl]at s;have z:=c.2;have q1:∀y∈elems,∀p∈y.2,j p.block=DT:=λy l p o=>k p (A6 _ (C3.2 ⟨y,BH _ l,o⟩));have q2:∀y∈rest,∀p∈y.2,j p.block=DT:=λy l p o=>k p (A6 _ (C3.2 ⟨y,A6 _ l,o⟩));refine AE.2 ⟨elems,oO _ _ m λi y M l=>F _ _ _ _ A M (q1 y l),AK.2 ⟨rest,?_,rfl⟩⟩;by_cases E:rest=[]
    .subst E;have:cap-len=0:=by
      rcases Nat.eq_zero_or_pos (cap-len)with h|h
      .exact h
      .obtain⟨n,hn⟩:=Nat.exists_eq_succ_of_ne_zero (Nat.pos_iff_ne_zero.1 h)
       simp_all [List.range_succ_eq_map,AE]
     grind
    .have q:0<(elems.length+rest.length)*P.cellsOf G:=DN (by have:=List.length_pos_iff.2 E;omega) z;have:j a.block=DT:=k (.cell a.block (a.off+0)) (BH _ (CQ.2 ⟨0,CJ.2 q,rfl⟩))
     grind [oO]
   .simp at h
  case h_9 =>
   rename_i fs g;rw[g]at c;split at h
   .grind [AK,aEI,A0,C8]
   .simp at h
  case h_10 =>
   rename_i n G g;rw[g]at c;split at h
   .grind [AK,oO,A0]
   .simp at h
  case h_12 =>
   rename_i g;rw[g]at c;simp at c
  case h_14 =>
   rename_i b g;rw[g]at c;split at h
   .rename_i es clock C;rw[e b (AY.1 C).1,C];dsimp only;split at h
    .rename_i r;rw[O r];obtain⟨entries,m,h⟩:=AE.1 h;have hpl:∀y∈entries,∀p∈y.2,j p.block=DT:=by
      grind
     refine AE.2 ⟨entries,oO _ _ m λf y hf l=>?_,h⟩
     grind [AE,AK,A0]
    .simp at h
   .simp at h
  all_goals
   exact h
theorem aA1{L:V Z}(m:L.all (aLB P L)=DT)(e:∀b,b<w.heap.size->w'.heap[b]? =w.heap[b]?)(g:Z->N) :
  ∀(a:V T) (f:V R) (j:V (DataW H)) (i:V MemPlace),(∀t∈a,t∈L)->BU enc P w 0 (λ_=>DT) DT a f j i->(∀p∈i,g p.block=DT)->BU enc P w' 0 g DT a f j i
 |[], [], [],_,_,h,_=>h
 |t::a,v::f,d::j,i,l,h,c=>by
  obtain⟨p,q,⟨fuel,r⟩,o,rfl⟩:=h;exact⟨p,q,⟨fuel,aG6 m e g DT fuel t _ _ (l t (AF ..)) r λp k=>c p (BH _ k)⟩,aA1 m e g a f j q (λu n=>l u (AH _ n)) o λp k=>c p (A6 _ k),rfl⟩
 |[],_::_,_,_,_,h,_=>h.elim
 |[], [],_::_,_,_,h,_=>h.elim
 |_::_, [],_,_,_,h,_=>h.elim
 |_::_,_::_, [],_,_,h,_=>h.elim
end
end
section
abbrev noS:Z->Prop:=λ_=>C
section
variable {H:Type} {enc:TypeId×Value->H} {P:Program} {w:World} {sp:Nat->Bool} {held:Bool}
theorem aEH{α β:Type}{f:α->DX β}:∀(l:V α) (c:V β),l.mapM f=DV c->∀a∈l,∃x,f a=DV x
 |[],_,_,a,ha=>by simp at ha
 |b::l,c,h,a,ha=>by
  simp only[CK,BR,B9,AE,Z1]at h;obtain⟨x,g,d,e,rfl⟩:=h;rcases BX.1 ha with rfl|ha
  .exact⟨x,g⟩
  .exact aEH l d e a ha
theorem aLF{t:T}{a:J Field}{fuel:Z}{b:V R}{x:DataW H×V MemPlace}(d:P.underlying t=DV (.struct a))(h:AN enc P w 0 sp held fuel t b=DV x) :
  b.length=P.cellsOf t/\∃fuel',∀f∈a.toList,∃y,AN enc P w 0 sp held fuel' f.type ((b.drop f.offset).take (P.cellsOf f.type))=DV y:=by
 cases fuel with
 |zero=>simp[AN]at h
 |succ fuel =>
  unfold AN at h;rw[d]at h;split at h
  all_goals first|(rename_i j;simp at j;done)|skip
  .rename_i fs' c;simp only[Z1,TypeDesc.struct.injEq]at c;subst c;split at h
   .rename_i g;obtain⟨xs,i,rfl⟩:=AK.1 h;exact⟨g,fuel,aEH _ _ i⟩
   .simp at h
  .rename ∀(fs_1:J Field),DV (TypeDesc.struct a)=DV (TypeDesc.struct fs_1)->C=>e
   exact(e a rfl).elim
theorem trod_array{t e:T}{n:Z}{fuel:Z}{a:V R}{x:DataW H×V MemPlace}(c:P.underlying t=DV (.array n e))(h:AN enc P w 0 sp held fuel t a=DV x) :
  a.length=P.cellsOf t/\∃fuel',∀i,i<n->∃y,AN enc P w 0 sp held fuel' e ((a.drop (i*P.cellsOf e)).take (P.cellsOf e))=DV y:=by
 cases fuel with
 |zero=>simp[AN]at h
 |succ fuel =>
  unfold AN at h;rw[c]at h;split at h
  all_goals first|(rename_i l;simp at l;done)|skip
  .rename_i n' e' b;simp only[Z1,TypeDesc.array.injEq]at b;obtain⟨rfl,rfl⟩:=b;split at h
   .rename_i g;obtain⟨xs,j,rfl⟩:=AK.1 h;exact⟨g,fuel,λi d=>aEH _ _ j i (CJ.2 d)⟩
   .simp at h
  .rename ∀(k:Z) (e_1:T),DV (TypeDesc.array n e)=DV (TypeDesc.array k e_1)->C=>f
   exact(f n e rfl).elim
theorem trod_int{t:T}{k:IntKind}{fuel:Z}{c:V R}{x:DataW H×V MemPlace}(d:P.underlying t=DV (.int k))(h:AN enc P w 0 sp held fuel t c=DV x) :
  ∃n,c=[.int k n]/\(Lit.int k n).wf=DT:=by
 cases fuel with
 |zero=>simp[AN]at h
 |succ fuel =>
  unfold AN at h;rw[d]at h;split at h
  all_goals first|(rename_i e;simp at e;done)|skip
  .rename_i k0 k' n a;simp only[Z1,TypeDesc.int.injEq]at a;subst a;split at h
   .rename_i b;exact⟨n,by rw[b.1],b.2⟩
   .simp at h
  .simp at h
end
end
section
open Go Go.ChangeShapes Go.WideShapes Go.ChangeAt Go.RowKit
theorem own:ownKnob Tryz.prog.godebug=DW:=by kernel_rfl
theorem aP3{v:R}{a b:R}{r:V R}(h:v.cells.toList=a::b::r):v= .agg (a::b::r).toArray:=by
 cases v<;>first|(simp[DF]at h;done)|skip
 rename_i c;have:c=(a::b::r).toArray:=by apply DJ;simpa [DF]using h
 rw[this]
theorem aQi:Tryz.prog.cellsOf 22=1:=by kernel_rfl
theorem aQg:Tryz.prog.cellsOf 3=1:=by kernel_rfl
section
variable {H:Type} {enc:TypeId×Value->H} {w:World} {sp:Nat->Bool} {held:Bool}
theorem aVW{n:U}(h:(Lit.int .u16 n).wf=DT):0<=n/\n<=65535:=by simpa [Lit.wf,CN,CO,BO,BY]using h
theorem aRc{P:E}{f:Func}{s:ChangeSpec}{apart fresh e again:N}{W W':Y}{args:J R}{v:R}{l gs:V (DataW H)}{before pa pv:V MemPlace}(n:DI enc P f.params.toList s.vars apart W args.toList l gs before)(i:∀(b:Z) (sp:Z->N) (A:N),BU enc P W' b sp A f.resultTypes.toList (v.resultList f.resultTypes.size) (s.fn H (l++gs)).results [])(d:∀sp:Z->N,(∀p∈before,sp p.block=DT)->BU enc P W' 0 sp DT f.params.toList args.toList (s.fn H (l++gs)).args pa)(c:∀sp:Z->N,(∀p∈before,sp p.block=DT)->DataW.TrodVars enc P W' sp s.vars (s.fn H (l++gs)).vars pv)(h:before=pa++pv)(z:W.keptBut W' (·∈before))(q:∀a:Addr,a.block<W.heap.size->W'.frozen? a=W.frozen? a)(o:∀(j:Z) (t:T) (r:R),f.resultTypes[j]? =DV t->(v.resultList f.resultTypes.size)[j]? =DV r->B3 P W' .any 0 t r) :
  s.post enc P f apart fresh e again W args v W':=by
 have m:∀p∈before,p.block<W.heap.size:=n.lt;have k:∀p∈before,(λb=>decide (b<W.heap.size)) p.block=DT:=λp g=>by simpa using m p g
 refine⟨l,gs,before, [],pa,pv,n,i _ _ _,d _ k,c _ k,World.keptBut_mono (λp g=>⟨g,?_⟩) z,λ_=>?_⟩
 .rw[h,A5]at g;exact Or.inr g
 .obtain⟨_,_,_,_,_,x,y⟩:=n;refine⟨o,_,_,([]++pa)++pv,⟨[]++pa,pv,trodAll_append (d _ (λ_ _=>rfl)) (i _ _ _),c _ (λ_ _=>rfl),rfl,?_,?_⟩,?_⟩
  .intro b off g;have u:MemPlace.cell b off∈before:=by rw[h];simpa using g
   rw[q ⟨b,off,DW⟩ (m _ u)];exact x b off u
  .intro B;have:=y B;rw[h]at this
   simpa using this
  .intro p g _;rw[h]
   simpa using g
set_option maxRecDepth 100000 in
theorem aQP{j:Func}{s:ChangeSpec}(ctr:Ctr AB)(b:s.vars=[])(d:j.resultTypes=#[4]){L:V Z}(B:L.all (aLB AB L)=DT)(o:∀t∈j.params.toList,t∈L){apart fresh c again:N}{W:Y}{args:J R}{m gs:V (DataW H)}{before:V MemPlace}(u:DI enc AB j.params.toList s.vars apart W args.toList m gs before)(C:GW noS W)(g:∃i p,ctr.spec i=DV (p,.ret (.bool DT))/\p.holds/\RepAll (B8 noS) W i args.toList)(a:s.fn H (m++gs)={ results:=[.lit (.bool DT)],args:=m }) :
  Calls AB ctr.f args W λe W'=>∃v,e= .returned v/\s.post enc AB j apart fresh c again W args v W':=by
 obtain⟨i,p,G,F,E⟩:=g;refine(ctr.ok noS W i args p _ G F (λ_ h=>h.elim) C E).mono λe W' ⟨l,k⟩=>?_;obtain⟨v,rfl,z⟩:∃v,e= .returned v/\Rep (BV noS) W' (.bool DT) v:=by
  cases e with
  |returned v=>exact⟨v,rfl,k⟩
  |panicked _=>exact k.elim
  |outgrown=>exact k.elim
 have hv:v= .bool DT:=fI z;subst hv;refine⟨_,rfl,?_⟩;have r:=u;obtain⟨p,q,D,x,rfl,_,_⟩:=u;rw[b]at x;obtain⟨rfl,rfl⟩:gs=[]/\q=[]:=trodVars_none x;refine aRc (pa:=p) (pv:=[]) r (λ_ _ _=>?_) (λsp n=>?_) (λ_ _=>?_) rfl (l.kept _) l.frz ?_
 .rw[a,d];exact trodAll_cons_mk (shut_bool C1 _) trodAll_mk0
 .rw[a];exact aA1 B l.block sp _ _ _ _ o D λp A=>n p (BH _ A)
 .rw[a,b];rfl
 .have y:B3 AB W' .any 0 4 (.bool DT):=okWide_bool_mk C1 DT;exact ok_one d rfl y
end
end
section
open Go Go.ChangeShapes Go.WideShapes Go.ChangeAt Go.RowKit
theorem aJT:Tryz.prog.cellsOf 5=1:=by kernel_rfl
theorem aKx{W:Y}{name:String}{g:Z}{k:IntKind}{tA tE:T}{l:V U}{r:J R}{fuel:Z}{p:V MemPlace}(E:Tryz.prog.underlying tA=DV (.array l.length tE))(A:Tryz.prog.underlying tE=DV (.int k))(w:Tryz.prog.cellsOf tE=1)(G:Tryz.prog.globalNamed name=DV g)(hv:W.var? AB name=DV r)(d:AN (λ_=>()) AB W 0 (λ_=>DT) DU fuel tA r.toList=DV ((.agg (l.map λn=>.lit (.int k n)):DataW Unit),p))(H:0<l.length) :
  g<W.heap.size/\seg W g 0 (l.map (Value.int k)):=by
 obtain⟨D,m1,rfl,a,o,F,b⟩:=DataW.trod_array E d;rw[w]at b;simp only[Z2]at a;have d:=a.1;rw[DataW.agg.injEq]at d;have key:∀i,i<l.length->W.cell? ⟨g,i,DW⟩=DV (.int k (l.getD i 0)):=by
  intro i u;have B:=b i u;obtain⟨x,m⟩:∃x,D[i]? =DV x:=⟨_,AC (by omega)⟩;rw[m]at B;obtain⟨j,C,I,_⟩:=DataW.trod_int A B;have s:x.1= .lit (.int k (l.getD i 0)):=by
   have c:(l.map λn=>(DataW.lit (Lit.int k n):DataW Unit))[i]? =DV x.1:=by
    rw[d,B6,m];rfl
   rw[B6,AC u]at c;simp only[CA,Z1]at c;rw[<-c,AA,AC u];rfl
  rw[I]at s;simp only[DataW.lit.injEq,Lit.int.injEq,true_and]at s;subst s;have:=World.var?_cell G hv i;rw[this];rw[DO]at C;have c:(r.toList.drop i)[0]? =DV (.int k (l.getD i 0)):=by
   have:((r.toList.drop i).take 1)[0]? =DV (.int k (l.getD i 0)):=by rw[C];rfl
   rw[CV]at this
   simpa using this
  rw[B2]at c
  simpa using c
 clear b hv F o d a;have z:=key 0 H;obtain⟨arr,ty,f,y⟩:∃arr ty f,W.heap[g]? =DV (.cells arr ty f):=by
  unfold BQ at z;split at z
  .rename_i arr ty f e;exact⟨arr,ty,f,e⟩
  .simp at z
 have w:∀(i:Z) v,W.cell? ⟨g,i,DW⟩=DV v->arr[i]? =DV v:=λi v h=>by
  unfold BQ at h;rw[show W.heap[(⟨g,i,DW⟩:Addr).block]? =_ from y]at h;exact h
 refine⟨(AY.1 y).1,arr,ty,f,y,λj v hv=>?_⟩;rw[A3];rw[B6]at hv;have t:j<l.length:=by
  rcases AI j l.length with q|q
  .exact q
  .rw[List.getElem?_eq_none q]at hv;simp at hv
 have:=w _ _ (key j t);rw[this];rw[AC t]at hv;rw[AA,AC t];exact hv
abbrev aKw : List (String × DataW Unit) := [("math/bits.deBruijn64tab", Rows.laid_math_bits_deBruijn64tab), ("algorist/modular.signs", Rows.laid_algorist_modular_signs)]
theorem bIj : Tryz.prog.globalNamed "math/bits.deBruijn64tab" = some 0 := by kernel_rfl
theorem bIB:(Tryz.prog.globals[0]?).map (·.type)=DV 184:=by kernel_rfl
theorem aQN:(Rows.laid_math_bits_deBruijn64tab:DataW Unit)= .agg ((jY 0).map λn=>.lit (.int .u8 n)):=rfl
theorem bIi : Tryz.prog.globalNamed "algorist/modular.signs" = some 3 := by kernel_rfl
theorem bIA:(Tryz.prog.globals[3]?).map (·.type)=DV 206:=by kernel_rfl
theorem aTP:(Rows.laid_algorist_modular_signs:DataW Unit)= .agg ((jY 3).map λn=>.lit (.int .i64 n)):=rfl
theorem aTE{g:Z}(h:gOn g=DT):g=0\/g=3:=by
 simp[gOn]at h;omega
theorem aKl{W:Y}(h:laidMetH AB aKw W):GW noS W:=by
 rw[MakeChecks.laidMetH_plain _ _ _ (by kernel_rfl)]at h;obtain⟨ps,⟨g0,t0,cs0,f0,p0,q0,d,m,j,f,⟨g1,t1,cs1,f1,p1,q1,c,k,i,e,_,_⟩,_⟩,_,_⟩:=h;obtain rfl:=AW (bIj.symm.trans d);obtain rfl:=AW (bIB.symm.trans m);obtain rfl:=AW (bIi.symm.trans c);obtain rfl:=AW (bIA.symm.trans k);rw[aQN]at f;rw[aTP]at e;have a:=aKx (l:=jY 0) Tryz.underlying184 C0 aJT d j f (by decide);have b:=aKx (l:=jY 3) Tryz.underlying206 Tryz.underlying3 aQg c i e (by decide);intro g n;rcases aTE n with rfl|rfl
 .exact⟨id,a⟩
 .exact⟨id,b⟩
theorem aTm(os:Os)(args:J R):laidMetH AB aKw ((World.doorLaid AB 400 os).forCall (λ_ _=>0) ⟨#[],args, []⟩).memory :=
 laidMetH_of_parts3 (fuel:=8) (laidMet_of_run' 8 (by kernel_rfl) (by kernel_rfl)) (by kernel_rfl) (by kernel_rfl)
theorem bG6{P:E}{W:Y}{base:Z}{args:J R}{b:J T}(a:∀(j:Z) t v,b[j]? =DV t->args[j]? =DV v->B3 P W .any base t v){j:Z}{t:T}{v:R}(d:b[j]? =DV t)(c:args[j]? =DV v):B3 P W .any base t v:=a j t v d c
end
def pS:V Z:=[2,3,5,7,11,13,17,19,23,29,31,37,41,43,47,53,59,61,67,71,73,79,83,89]
def P41:Z:=304250263527210
def P89:Z:=23768741896345550770650537601358310
def N26:Z:=67108880
def aO9:V Z->Z
 |[]=>1
 |p::r=>p*aO9 r
theorem zJ{m:Z}:∀l:V Z,(∀b∈l,BD m b=1)->BD m (aO9 l)=1
 |[],_=>Nat.gcd_one_right m
 |p::r,h=>Nat.Coprime.mul_right (h p (AF ..)) (zJ r λb a=>h b (AH _ a))
theorem aUk:aO9 bH=P41:=by decide +kernel
theorem aUm:aO9 pS=P89:=by decide +kernel
theorem bDA:∀q∈pS,1<q/\∀d,d<q+1->q%d=0->d=1\/d=q:=by decide +kernel
theorem aEN{q:Z}(h:q∈pS):Pri q:=by
 obtain⟨c,b⟩:=bDA q h;exact⟨c,λd a=>b d (by have:=BK (by omega) a;omega) (CR a)⟩
theorem bB1:∀b∈bH,b∈pS:=by decide +kernel
theorem aEo:∀b∈bH,2<=b/\b<=41:=by decide +kernel
theorem aRr:∀p,p<43->1<p->∃b∈bH,p%b=0:=by decide +kernel
theorem aM2:∀p,p<90->1<p->∃b∈pS,p%b=0:=by decide +kernel
def bCf(n e:Z):Z:=((2^(e/8192)%n)^64%n)^128%n*2^(e%8192)%n
theorem bEQ(n x y c d:Z):((2^x%n)^c%n)^d%n*2^y%n=2^(x*c*d+y)%n:=by
 rw[<-DL,<-DK,<-DL,<-DK,Nat.mod_mul_mod,<-DM,DH]
theorem bGN(e:Z):e/8192*64*128+e%8192=e:=by omega
theorem aVU(n e:Z):bCf n e=2^e%n:=by
 have h:=bEQ n (e/8192) (e%8192) 64 128;rw[bGN]at h;exact h
def okC(n m:Z):N:=!(A1 (BD m P41) 1) ||(!(A1 (bCf n (n-1)) 1) || !(iI n))
def qN(f:Z->N):Z->Z->N
 |0,a=>f a
 |k+1,a=>qN f k a&&qN f k (a+2^k)
theorem fW(f:Z->N):∀(k a i:Z),qN f k a=DT->a<=i->i<a+2^k->f i=DT
 |0,a,i,h,h1,b=>by
  obtain rfl:i=a:=by rw[Nat.pow_zero]at b;omega
  exact h
 |k+1,a,i,h,h1,b=>by
  rw[qN,Z3]at h;rw[Nat.pow_succ]at b;rcases AI i (a+2^k)with q|q
  .exact fW f k a i h.1 h1 q
  .exact fW f k _ i h.2 q (by omega)
def aTI(p x:Z):V Z->N
 |[]=>DU
 |a::r=>(A1 (a^(p-1)%p) 1&&!(A1 (a^x%p) 1)) ||aTI p x r
def bDo:Z->Z->Z->Z
 |0,_,_=>0
 |f+1,r,q=>DY (A1 (r%q) 0) (bDo f (r/q) q+1) 0
def aYb:V Z->Z->V (Z×Z)
 |[],r=>DY (A1 r 1) [] [(r,0)]
 |q::t,r=>DY (A1 (r%q) 0) ((q,bDo 13 r q-1)::aYb t (r/q^bDo 13 r q)) (aYb t r)
def bEO(q:Z):N:=pS.elem q ||(AR 89 q&&(AR q 8100&&A1 (BD q P89) 1))
def okF(p:Z):V (Z×Z)->Z->N
 |[],D=>A1 D (p-1)
 |(q,e)::t,D=>bEO q&&(A1 (BD D (q^(e+1))) 1&&(A1 ((p-1)%q^(e+1)) 0&&(aTI p ((p-1)/q) bH&&okF p t (D*q^(e+1)))))
def okK(p k:Z):N:=!(AR (p*(1+(k+1)*(p-1))) N26) ||okC (p*(1+(k+1)*(p-1))) (1+(k+1)*(p-1))
def bCJ(p:Z):N :=
 DY (A1 (BD p P41) 1) (DY (AR 89 p&&!(A1 (BD p P89) 1)) DT (okF p (aYb pS (p-1)) 1&&qN (okK p) (B7 (N26/(p*(p-1)))+1) 0)) DT
def xC(i:Z):N:=bCJ (43+2*i)
theorem bGy:qN xC 1 0=DT:=by decide +kernel
theorem bGz:qN xC 1 2=DT:=by decide +kernel
theorem bGA:qN xC 2 4=DT:=by decide +kernel
theorem bGB:qN xC 2 8=DT:=by decide +kernel
theorem bCK:qN xC 2 12=DT:=by decide +kernel
theorem bCL:qN xC 3 16=DT:=by decide +kernel
theorem bCM:qN xC 3 24=DT:=by decide +kernel
theorem bCN:qN xC 4 32=DT:=by decide +kernel
theorem bCO:qN xC 4 48=DT:=by decide +kernel
theorem bCP:qN xC 6 64=DT:=by decide +kernel
theorem aXN:qN xC 7 128=DT:=by decide +kernel
theorem aXO:qN xC 8 256=DT:=by decide +kernel
theorem aXP:qN xC 9 512=DT:=by decide +kernel
theorem aS7:qN xC 10 1024=DT:=by decide +kernel
theorem aS8:qN xC 11 2048=DT:=by decide +kernel
theorem aXQ{i:Z}(h:i<4096):bCJ (43+2*i)=DT:=by
 show xC i=DT;rcases AI i 2 with q|q
 .exact fW _ 1 0 i bGy (by omega) q
 rcases AI i 4 with q|q
 .exact fW _ 1 2 i bGz (by omega) q
 rcases AI i 8 with q|q
 .exact fW _ 2 4 i bGA (by omega) q
 rcases AI i 12 with q|q
 .exact fW _ 2 8 i bGB (by omega) q
 rcases AI i 16 with q|q
 .exact fW _ 2 12 i bCK (by omega) q
 rcases AI i 24 with q|q
 .exact fW _ 3 16 i bCL (by omega) q
 rcases AI i 32 with q|q
 .exact fW _ 3 24 i bCM (by omega) q
 rcases AI i 48 with q|q
 .exact fW _ 4 32 i bCN (by omega) q
 rcases AI i 64 with q|q
 .exact fW _ 4 48 i bCO (by omega) q
 rcases AI i 128 with q|q
 .exact fW _ 6 64 i bCP (by omega) q
 rcases AI i 256 with q|q
 .exact fW _ 7 128 i aXN (by omega) q
 rcases AI i 512 with q|q
 .exact fW _ 8 256 i aXO (by omega) q
 rcases AI i 1024 with q|q
 .exact fW _ 9 512 i aXP (by omega) q
 rcases AI i 2048 with q|q
 .exact fW _ 10 1024 i aS7 (by omega) q
 exact fW _ 11 2048 i aS8 (by omega) h
theorem aZO{q:Z}(h:bEO q=DT):Pri q:=by
 unfold bEO at h;rcases DB _ _ ▸ h with h|h
 .exact aEN (List.elem_iff.1 h)
 .rw[Z3,Z3,BB,BB]at h;obtain⟨h1,h2,e⟩:=h;have e:=AQ e;refine CD λi=>?_;obtain⟨p,g,j,hle⟩:=wF (by omega) i;have d:p<90:=by
   rcases AI p 90 with w|w
   .exact w
   .have:=BS w w;omega
  obtain⟨b,k,c⟩:=aM2 p d g.lt;have a:b ∣ q:=B1 (A4 c) j;have f:b ∣ P89:=by
   rw[<-aUm];clear a c
   revert b
   decide +kernel
  have:=Nat.dvd_gcd a f;rw[e]at this;have:=(aEN k).lt;have:=BK (by omega) ‹b ∣ 1›;omega
theorem aOA{p x:Z}:∀l:V Z,aTI p x l=DT->∃a∈l,a^(p-1)%p=1/\a^x%p≠1
 |[],h=>by simp[aTI]at h
 |a::r,h=>by
  rw[aTI]at h;rcases DB _ _ ▸ h with h|h
  .rw[Z3]at h;refine⟨a,AF ..,AQ h.1,λw=>?_⟩;have c:=h.2;rw[w]at c;exact M c (by decide)
  .obtain⟨b,d,h⟩:=aOA r h;exact⟨b,AH _ d,h⟩
theorem aUc{p K:Z}(m:1<p)(o:∀a∈bH,a^K%p=1):∀(l:V (Z×Z)) (D:Z),okF p l D=DT->D ∣ K->p-1 ∣ K
 |[],D,h,d=>by rw[<-AQ h];exact d
 |(q,e)::t,D,h,d=>by
  rw[okF,Z3,Z3,Z3,Z3]at h;obtain⟨w,f,v,u,s⟩:=h;have k:=aZO w;have f:BD D (q^(e+1))=1:=AQ f;obtain⟨c,n⟩:=A4 (AQ v);obtain⟨a,r,j,i⟩:=aOA _ u;have g:0<q:=by have:=k.lt;omega
  have x:(p-1)/q=q^e*c:=by
   rw[n,Nat.pow_succ',DH];exact Nat.mul_div_cancel_left _ g
  have b:1%p=1:=CE m;have:=aUj (a:=a) (c:=c) (K:=K) k (by rw[<-n,b];exact j) (by rw[b];exact o a r) (by rw[<-x,b];exact i);exact aUc m o t _ s (Nat.Coprime.mul_dvd_of_dvd_of_dvd f d this)
theorem bHz{n:Z}(h:iI n=DT)(G:n<N26):Pri n:=by
 rcases aYq h with w|w
 .exact aEN (bB1 n w)
 refine CD λz=>?_;obtain⟨p,j,k,l⟩:=wF w.lt z;have hN:N26=67108880:=rfl;have hp43:43<=p:=by
  rcases AI p 43 with q|q
  .obtain⟨b,e,C⟩:=aRr p q j.lt;exact M (B1 (A4 C) k) (w.nd b e)
  .exact q
 have hodd:p%2=1:=by
  rcases Nat.mod_two_eq_zero_or_one p with q|q
  .exact M (B1 (A4 q) k) (w.nd 2 (by decide))
  .exact q
 have hp8:p<8193:=by
  rcases AI p 8193 with q|q
  .exact q
  .have:=BS q q;omega
 have d:=aXQ (i:=(p-43)/2) (by omega);rw[show 43+2*((p-43)/2)=p by omega]at d;have s:∀b∈bH,BD p b=1:=λb e=>j.cop λq=>by
  have:=BK (by have:=aEo b e;omega) q;have:=aEo b e;omega
 have D:BD p P41=1:=by rw[<-aUk];exact zJ _ s
 unfold bCJ at d;rw[D]at d;have r:(AR 89 p&&!(A1 (BD p P89) 1))=DU:=by
  cases e:AR 89 p with
  |false=>rfl
  |true =>
   rw[BB]at e;have:BD p P89=1:=by
    rw[<-aUm];refine zJ _ λb c=>j.cop λq=>?_;have F:=BK (by have:=(aEN c).lt;omega) q;have E:∀b∈pS,b<=89:=by decide +kernel
    have:=E b c;omega
   rw[this];rfl
 rw[r]at d;have d:(okF p (aYb pS (p-1)) 1&&qN (okK p) (B7 (N26/(p*(p-1)))+1) 0)=DT:=d;rw[Z3]at d;obtain⟨I,J⟩:=d;have hpn:p<=n:=BK (by have:=w.lt;omega) k;have g:∀a∈bH,a^(n-1)%n=1:=λa v=>by
  have:=aEo a v;exact aFO (by omega) (by have:(2:Z)^128=340282366920938463463374607431768211456:=rfl;omega) (w.st a v) (by rw[CE (by omega)];omega)
 have o:=aUc j.lt (λa v=>by rw[<-Nat.mod_mod_of_dvd _ k,g a v];exact CE j.lt) _ 1 I (Nat.one_dvd _);obtain⟨m,u⟩:=k;have hmp:p<=m:=by
  rw[u]at l;exact Nat.le_of_mul_le_mul_left l (by omega)
 have B:p-1 ∣ m-1:=by
  have L:n-1=(p-1)*m+(m-1):=by
   obtain⟨p',rfl⟩:∃p',p=p'+1:=⟨p-1,by omega⟩;obtain⟨m',rfl⟩:∃m',m=m'+1:=⟨m-1,by omega⟩;rw[u];show(p'+1)*(m'+1)-1=p'*(m'+1)+m';have:(p'+1)*(m'+1)=p'*(m'+1)+m'+1:=by grind
   omega
  rw[L]at o;exact(Nat.dvd_add_right (Nat.dvd_mul_right (p-1) m)).1 o
 obtain⟨t,x⟩:=B;have ht1:t≠0:=λq=>by rw[q,Nat.mul_zero]at x;omega
 have A:m=1+(t-1+1)*(p-1):=by
  rw[Nat.mul_comm,show t-1+1=t by omega,<-x];omega
 have y:0<p*(p-1):=DN (by omega) (by omega);have H:t-1<0+2^(B7 (N26/(p*(p-1)))+1):=by
  have F:t*(p*(p-1))<=N26:=by
   have:t*(p*(p-1))=p*((p-1)*t):=by grind
   rw[this,<-x];have:p*(m-1)<=p*m:=BW _ (by omega);omega
  have E:t<=N26/(p*(p-1)):=(Nat.le_div_iff_mul_le y).2 F;have h3:=Nat.lt_log2_self (n:=N26/(p*(p-1)));omega
 have f:=fW _ _ 0 (t-1) J (Z9 _) H;unfold okK at f;rw[<-A,<-u]at f;have e:AR n N26=DT:=by rw[BB];exact G
 rw[e]at f;have f:okC n m=DT:=f;unfold okC at f;have K:BD m P41=1:=by
  rw[<-aUk];refine zJ _ λb c=>?_;rw[Nat.gcd_comm];exact(aEN (bB1 b c)).cop λq=>w.nd b c (by rw[u];exact B1 q (Nat.dvd_mul_left ..))
 rw[K,aVU,g 2 (by decide),h]at f;exact Bool.noConfusion (show DU=DT from f)
def bDt:V Z:=[13,13,19,1,17,23,19,23,1,1,17,1,7,13,13,1,7,43,31,19,13,37,1,13,19,7,19,17,13,31,7,7,1,7,29,17,1,1,7,7,37,1,17,13,1,7,17,1,13,67,7,7,1,13,7,1,41,7,1,7,1,19,13,13,1,13,1,29,7,23,13,7,7,17,23,17,13,17,17,19,1,23,7,1,23,13,1,17,7,1,17,61,17,1,17,23,7,41,19,47,47,7,1,1,1,31,17,29,19,23,1,19,19,7,1,47,17,23,1,23,29,19,1,1,17,17,59,7,1,1,7,7,1,7,7,23,1,13,1,1,37,13,1,7,17,19,1,7,1,41,17,23,1,29,7,1,1,13,29,7,19,17,89,19,13,1,29,17,7,19,13,13,1,19,13,23,41,1,7,13,7,17,23,17,13,1,23,19,1,73,17,7,1,7,17,1,13,1,13,83,37,29,13,49,13,37,19,7,1,17,31,7,19,17,7,61,13,13,7,1,19,7,7,29,31,13,19,29,7,49,13,47,61,7,1,71,23,1,7,7,1,13,29,1,13,7,43,37,17,7,1,17,13,19,1,13,7,1,47,7,13,1,1,13,7,23,19,7,1,13,41,29,19,13,1,1,1,37,19,1,19,1,7,43,7,1,29,13,7,13,7,13,7,29,13,17,1,7,49,19,1,31,13,7,13,1,7,41,13,1,1,17,7,23,29,17,29,13,7,1,19,17,13,61,29,1,1,1,17,7,1,1,31,1,1,1,7,17,7,71,1,17,29,7,1,7,19,1,1,17,41,31,41,1,17,29,1,23,19,1,17,7,47,1,19,1,13,1,17,1,13,7,1,1,19,7,23,13,13,7,43,19,1,7,17,47,1,41,29,7,7,19,13,1,7,13,29,31,41,7,13,19,29,23,17,17,17,31,19,13,37,1,17,7,19,61,17,13,1,13,7,29,13,17,1,7,1,53,29,29,37,13,43,13,37,7,89,13,29,7,13,31,7,7,13,1,7,1,7,17,29,17,13,19,1,7,13,13,7,13,1,13,53,41,1,1,1,7,19,17,17,1,7,23,7,13,61,7,1,13,49,7,13,7,13,7,17,1,29,37,7,17,1,23,1,1,1,67,13,23,1,7,19,47,41,43,1,17,1,19,23,19,1,1,7,53,7,53,19,1,7,13,1,1,31,7,7,29,31,13,31,1,7,31,1,1,1,49,17,47,13,13,1,43,1,17,13,1,19,1,7,7,53,13,1,29,41,1,7,13,13,13,1,23,23,29,19,13,19,7,1,31,43,13,47,41,13,7,1,17,13,7,13,7,7,1,43,1,23,29,49,19,7,1,19,7,7,19,1,17,1,1,7,7,19,7,23,17,17,13,49,13,1,7,31,31,31,19,1,29,7,7,23,17,13,43,7,1,43,1,19,1,23,1,7,1,31,13,1,7,23,7,7,13,17,13,13,7,71,7,17,7,1,1,19,1,1,1,17,1,29,19,7,7,23,17,13,19,19,1,17,13,23,1,7,7,17]
def aXM:Z->V Z->N
 |_, []=>DT
 |b,d::r=>Nat.ble d 100&&(iI (b+d)&&aXM (b+99000) r)
theorem aJX:∀(l:V Z) (b i:Z),aXM b l=DT->i<l.length->∃d,d<=100/\iI (b+99000*i+d)=DT
 |[],_,i,_,h=>M h (AL i)
 |d::r,b,i,h,a=>by
  unfold aXM at h;simp only[Z3,Nat.ble_eq]at h
  match i,a with
  |0,_=>exact⟨d,h.1,h.2.1⟩
  |i+1,a =>
   obtain⟨e,f,c⟩:=aJX r (b+99000) i h.2.2 (by simp at a;omega);exact⟨e,f,by rw[show b+99000*(i+1)+e=b+99000+99000*i+e by omega];exact c⟩
theorem aYI:aXM 99000 bDt=DT:=by decide +kernel
theorem aUa:bDt.length=677:=by decide +kernel
theorem bE8:iI 67108879=DT:=by decide +kernel
theorem aUl:iI 65003=DT:=by decide +kernel
structure NxtOk (m u:Nat):Prop where
 pn:iI (gF m)=true
 pr:Pri (gF m)
 lo:m<=gF m
 hi:gF m<=u
theorem aBH{m q:Z}(h:m<=q)(f:q<m+100000)(d:iI q=DT)(e:q<N26):NxtOk m q:=by
 obtain⟨a,b⟩:=aGF 100000 m q h f d;have c:=aEL 100000 m;rw[<-aO1]at a b c;exact⟨a,bHz a (Nat.lt_of_le_of_lt b e),c,b⟩
theorem aHX{m:Z}(h:m<67108867):∃q,q<=67108879/\q<m+100000/\NxtOk m q:=by
 by_cases hm:67023000<=m
 .exact⟨67108879,Z0 _,by omega,aBH (by omega) (by omega) bE8 (by unfold N26;omega)⟩
 .obtain⟨d,h1,a⟩:=aJX bDt 99000 (m/99000) aYI (by rw[aUa];omega);exact⟨99000+99000*(m/99000)+d,by omega,by omega,aBH (by omega) (by omega) a (by unfold N26;omega)⟩
def mdE:Env AB:=aTn [aSS] [.pt (aXF 0),.pt (bGt 10),.pt (bCI 4),.pt bGs] (fun|999994=> [0]|_=> []) aC (λ_ _=>DW)
theorem aWe(a n i:U)(k:Z)(g:Z->MV)(b:_)(q:b=(X DZ n))(h:_)(p:h=(gF (u (X DZ (3+D b 67108864))):U))(f:_)(o:f=(gF (u (X DZ (5+D b 1048576))):U))(e:_)(m:e=(gF (u (X DZ (7+D b 1500))):U))(c:_)(l:c=(u (X DZ i)))(d:_)(j:d=(gF (u (D b 65000)):U)):(((4:U)=0->C)/\bif D a 4==0 then ((65000:U)=0->C)/\(0<=D b 65000/\D b 65000<1099511627776/\iI (gF (u (D b 65000)))=DT)/\provP 0 0 (λx=>MV.any) d/\r (jP 0 (aE 0 λx=>MV.any) d)<=r (jP 0 (aE 0 λx=>MV.any) d)/\18=18/\r (jP 0 (aE 0 λx=>MV.any) d)=k/\LeFun (r (jP 0 (aE 0 λx=>MV.any) d)) (aF (jP 0 (aE 0 λx=>MV.any) d) 200) g else bif D a 4==1 then ((67108864:U)=0->C)/\(0<=X DZ (3+D b 67108864)/\X DZ (3+D b 67108864)<1099511627776/\iI (gF (u (X DZ (3+D b 67108864))))=DT)/\minP 10 0 (λx=>MV.any) h/\r (nJ 10 (aE 0 λx=>MV.any) (u h))<=r (nJ 10 (aE 0 λx=>MV.any) (u h))/\18=18/\r (nJ 10 (aE 0 λx=>MV.any) (u h))=k/\LeFun (r (nJ 10 (aE 0 λx=>MV.any) (u h))) (aF (nJ 10 (aE 0 λx=>MV.any) (u h)) 200) g else bif D a 4==2 then ((1048576:U)=0->C)/\(0<=X DZ (5+D b 1048576)/\X DZ (5+D b 1048576)<1099511627776/\iI (gF (u (X DZ (5+D b 1048576))))=DT)/\plsP 4 0 (λx=>MV.any) f (X DZ i)/\r (rO 4 (aE 0 λx=>MV.any) (u f) c)<=r (rO 4 (aE 0 λx=>MV.any) (u f) c)/\18=18/\r (rO 4 (aE 0 λx=>MV.any) (u f) c)=k/\LeFun (r (rO 4 (aE 0 λx=>MV.any) (u f) c)) (aF (rO 4 (aE 0 λx=>MV.any) (u f) c) 200) g else ((1500:U)=0->C)/\(0<=X DZ (7+D b 1500)/\X DZ (7+D b 1500)<1099511627776/\iI (gF (u (X DZ (7+D b 1500))))=DT)/\curP 0 (λx=>MV.any) e (X DZ i)/\r (aEa (aE 0 λx=>MV.any) (u e) c)<=r (aEa (aE 0 λx=>MV.any) (u e) c)/\18=18/\r (aEa (aE 0 λx=>MV.any) (u e) c)=k/\LeFun (r (aEa (aE 0 λx=>MV.any) (u e) c)) (aF (aEa (aE 0 λx=>MV.any) (u e) c) 200) g)=aJ mdE DD [.st [.int .u8 a,.int .u32 n,.int .u16 i]] (MRes.sat (.ret (.sl 18 k g))):=by subst q p o m l j;kernel_rfl
def mdN(a n:Z):Z:=gF (if a%4=0 then n%65000 else if a%4=1 then 3+n%67108864 else if a%4=2 then 5+n%1048576 else 7+n%1500)
def mdL(a n b:Z):V Stp:=if a%4=0 then jP 0 [] (mdN a n:Z)else if a%4=1 then nJ 10 [] (mdN a n)else if a%4=2 then rO 4 [] (mdN a n) b else aEa [] (mdN a n) b
theorem aT0(a n g:Z):MadeOk (mdL a n g) (mdN a n:Z):=by
 unfold mdL;split
 .rename_i h;have e:mdN a n=gF (n%65000):=by unfold mdN;rw[O h]
  have c:=BA n (show 0<65000 by omega);have k:=aBH (m:=n%65000) (q:=65003) (by omega) (by omega) aUl (by unfold N26;omega);rw[e];have:=k.hi;have k5:=k.pr.lt;exact aQS (f:=0) (by omega) ⟨by rw[Z8];exact k.pr,by omega,by omega⟩ (by omega)
 .split
  .rename_i b h;have e:mdN a n=gF (3+n%67108864):=by unfold mdN;rw[W b,O h]
   have c:=BA n (show 0<67108864 by omega);obtain⟨q,q1,_,k⟩:=aHX (m:=3+n%67108864) (by omega);rw[e];have j:=k.hi;have i:=k.lo;exact aTZ (f:=10) k.pr (by omega) (by omega) (by omega) (by omega)
  .split
   .rename_i b d h;have e:mdN a n=gF (5+n%1048576):=by unfold mdN;rw[W b,W d,O h]
    have c:=BA n (show 0<1048576 by omega);obtain⟨q,_,q1,k⟩:=aHX (m:=5+n%1048576) (by omega);rw[e];have j:=k.hi;have i:=k.lo;exact aQR (f:=4) k.pr (by omega) (by omega) (by omega) (by omega) g
   .rename_i b d h;have e:mdN a n=gF (7+n%1500):=by unfold mdN;rw[W b,W d,W h]
    have c:=BA n (show 0<1500 by omega);have l:iI 1511=DT:=aEx (sU (by omega) (by omega) (by decide +kernel)) (by decide);have k:=aBH (m:=7+n%1500) (q:=1511) (by omega) (by omega) l (by unfold N26;omega);rw[e];have j:=k.hi;have i:=k.lo;exact aTY k.pr (by omega) (by omega) g
theorem aYH:okL 0 (λ_=>.any):=⟨Z9 _,λj b=>M b (AL j),λ_ a=>M a AX⟩
theorem bG2:fineL (aE 0 λ_=>.any) 0:=⟨λj a=>M a (AL j)⟩
theorem aTX(a n c:Z)(ha:a<256)(hn:n<4294967296)(hf:c<65536):∃E:Env AB,aJ E DD [.st [.int .u8 a,.int .u32 n,.int .u16 c]] (MRes.sat (.ret (.sl 18 (mdL a n c).length (aF (mdL a n c) 200)))):=by
 refine⟨mdE,?_⟩;rw[<-aWe a n c (mdL a n c).length (aF (mdL a n c) 200) _ rfl _ rfl _ rfl _ rfl _ rfl _ rfl];have u:aE 0 (λ_=>.any)=[]:=rfl;have s:D (a:U) 4=((a%4:Z):U):=lM a 4;have f:∀m:Z,D (n:U) (m:U)=((n%m:Z):U):=λm=>lM n m;rw[u,s,xF (show(n:Z)<18446744073709551616 by omega),xF (show c<18446744073709551616 by omega),show D (n:U) 65000=((n%65000:Z):U) from f 65000,show D (n:U) 67108864=((n%67108864:Z):U) from f 67108864,
  show D (n:U) 1048576=((n%1048576:Z):U) from f 1048576,show D (n:U) 1500=((n%1500:Z):U) from f 1500]
 have wr:∀m:Z,m<18446744073709551616->X DZ (m:U)=(m:U):=λm h=>xF h;have r:X DZ (3+((n%67108864:Z):U))=((3+n%67108864:Z):U):=wr (3+n%67108864) (by omega);have p:X DZ (5+((n%1048576:Z):U))=((5+n%1048576:Z):U):=wr (5+n%1048576) (by omega);have o:X DZ (7+((n%1500:Z):U))=((7+n%1500:Z):U):=wr (7+n%1500) (by omega);rw[r,p,o];have m0:=BA n (show 0<65000 by omega);have m1:=BA n (show 0<67108864 by omega);have m2:=BA n (show 0<1048576 by omega);have m3:=BA n (show 0<1500 by omega);refine⟨by omega,aI beq_iff_eq (λz=>?_) (λz=>aI beq_iff_eq (λl=>?_) (λl=>aI beq_iff_eq (λj=>?_) (λj=>?_)))⟩
 .have h:a%4=0:=by omega
  have k:=aBH (m:=n%65000) (q:=65003) (by omega) (by omega) aUl (by unfold N26;omega);have g:=k.hi;have k5:=k.pr.lt;unfold mdL mdN;rw[O h,O h];have d:=aGu (n:=gF (n%65000)) (by omega) (by omega);exact⟨by omega,⟨by omega,by omega,by rw[Z8];exact k.pn⟩,⟨⟨by rw[Z8,Z8];exact k.pr,by rw[Z8];omega,by rw[Z8];omega⟩,by omega,aYH,by rw[Z8,Z8];omega⟩,by rw[Z8];exact Z0 _,rfl,by rw[Z8],by rw[Z8];exact BF⟩
 .have b:¬a%4=0:=by omega
  have h:a%4=1:=by omega
  obtain⟨q,q1,_,k⟩:=aHX (m:=3+n%67108864) (by omega);have g:=k.hi;have i:=k.lo;unfold mdL mdN;rw[W b,O h,W b,O h];simp only[Z8];have d:=aGu (n:=gF (3+n%67108864)) (by omega) (by omega);exact⟨by omega,⟨by omega,by omega,k.pn⟩,⟨by rw[Z8];exact k.pr,by omega,by omega,by rw[Z8];omega,by omega,aYH,by rw[Z8];omega⟩,Z0 _,⟨⟩,⟨⟩,BF⟩
 .have b:¬a%4=0:=by omega
  have e:¬a%4=1:=by omega
  have h:a%4=2:=by omega
  obtain⟨q,_,q1,k⟩:=aHX (m:=5+n%1048576) (by omega);have g:=k.hi;have i:=k.lo;unfold mdL mdN;rw[W b,W e,O h,W b,W e,O h];simp only[Z8];have d:=aGu (n:=gF (5+n%1048576)+1) (by omega) (by omega);exact⟨by omega,⟨by omega,by omega,k.pn⟩,⟨by rw[Z8];exact k.pr,by omega,by omega,by rw[Z8];omega,by omega,by omega,by omega,aYH,bG2,by rw[Z8];omega⟩,Z0 _,⟨⟩,⟨⟩,BF⟩
 .have b:¬a%4=0:=by omega
  have e:¬a%4=1:=by omega
  have h:¬a%4=2:=by omega
  have t:iI 1511=DT:=aEx (sU (by omega) (by omega) (by decide +kernel)) (by decide);have k:=aBH (m:=7+n%1500) (q:=1511) (by omega) (by omega) t (by unfold N26;omega);have g:=k.hi;have i:=k.lo;unfold mdL mdN;rw[W b,W e,W h,W b,W e,W h];simp only[Z8];exact⟨by omega,⟨by omega,by omega,k.pn⟩,⟨by rw[Z8];exact k.pr,by omega,by omega,by omega,by omega,aYH,bG2,by omega,by rw[Z8];exact aJ2 k.pr (by omega) (by omega) []⟩,Z0 _,⟨⟩,⟨⟩,BF⟩
def aDe:aG
 |[.st [.int .u8 a,.int .u32 n,.int .u16 fr]]=>DV (DV ((0<=a/\a<=255)/\(0<=n/\n<=4294967295)/\0<=fr/\fr<=65535),.ret (.sl 18 (mdL a.toNat n.toNat fr.toNat).length (aF (mdL a.toNat n.toNat fr.toNat) 200)))
 |_=>DW
theorem aYX:bE DD aDe:=by
 intro ms p r h c;unfold aDe at h;split at h
 .rename_i a n b;cases h;obtain⟨⟨h0,h1⟩,⟨h2,h3⟩,h4,h5⟩:(0<=a/\a<=255)/\(0<=n/\n<=4294967295)/\0<=b/\b<=65535:=c;have:=aTX a.toNat n.toNat b.toNat (by omega) (by omega) (by omega)
  grind
 .simp at h
def aXw:Ctr AB:=⟨10,aDe,λargs w=>Tryz.call10 args w,aM bT Tryz.func10 aDe aYX⟩
def zZ(id:Z):Code->DX (J A)
 |.region i ops _=>DY (i.beq id) (DV ops) DW
 |.seq a b=>(match zZ id a with
  |some x=>DV x
  |none=>zZ id b)
 |.cond _ a b=>(match zZ id a with
  |some x=>DV x
  |none=>zZ id b)
 |.block _ c=>zZ id c
 |.loop c=>zZ id c
 |.scope c=>zZ id c
 |_=>DW
def aVm(f:Func)(id:Z):V A:=match f.body with
 |some c=>(match zZ id c with
  |some x=>x.toList
  |none=> [])
 |none=> []
def kN(L:V Stp)(pv a:Z->R):Z->MV:=λi =>
 .st [.int .i64 (L.getD i aB).kind,.st [.bool (L.getD i aB).neg,.ws (L.getD i aB).mag],.val (pv i),.val (a i),.st [.big (L.getD i aB).ca 200,.big (L.getD i aB).cb 200,.big (L.getD i aB).cm 200],.st [.big (L.getD i aB).x 200,.big (L.getD i aB).y 200,.bool (L.getD i aB).inf],.big (L.getD i aB).ord 200]
theorem fP{P:E}{ops:J A}{Q:Exit->Act->Y->Prop}{b:V A}:∀(c:V A) (a:Act) (w:Y),wpList P ops (λe a' w'=>match e with|.normal=>wpList P ops Q b a' w'|e=>Q e a' w') c a w->wpList P ops Q (c++b) a w
 |[],_,_,h=>h
 |o::l,a,w,h=>by
  rw[C6];unfold wpList at h⊢;split
  .rename_i f;rw[O f]at h;exact h.imp (λh=>aA3 (λg d=>fP l g d) (λh=>h) (λ_ _ _ h=>h) _ h) λh=>⟨h.1,h.2⟩
  simp_all [fP]
theorem fa{α:Type}{p:α->Prop}{x:α}{l:V α}(b:p x)(a:∀y∈l,p y):∀y∈x::l,p y:=List.forall_mem_cons.2 ⟨b,a⟩
theorem f0{α:Type}{p:α->Prop}:∀y∈([]:V α),p y:=λ_ h=>M h AX
theorem aLE{c:Ctx}{w:Y}{a:Act}:∀(tm:V (Z×MV)),(∀p∈tm,Rep c w p.2 (a.tmps.getD p.1 undef))->∀t,Rep c w (aW t tm) (a.tmps.getD t undef)
 |[],_,_=>⟨⟩
 |(u,m)::r,h,t=>by
  have h1:=h (u,m) AF;have h2:=aLE r (λp b=>h p (AH _ b)) t
  grind [aW,DR]
theorem St.re{S0:Z->Prop}{w0:Base}{s:MS}{c:Ctx}{a:Act}{w:Y}(h:St S0 w0 s c a w)(tm':V (Z×MV))(bx':V Box)(d:Mem S0 w0 bx' c w)(b:∀p∈tm',Rep c w p.2 (a.tmps.getD p.1 undef)) :
  St S0 w0 ⟨s.n,tm',bx',s.np⟩ c a w:=⟨d,aLE tm' b,h.size,h.defers,h.np⟩
def Ctx.b1(S:Z->Prop)(b:Z)(z:Sz):Ctx:=⟨λq=>S q\/q=b,λq=>q=b,λi=>i=0,λ_=>b,λ_=>z⟩
def Base.b1(w:Y)(b:Z)(z:Sz)(a:V Deferred):Base:=⟨w,λq=>q=b,λi q z'=>i=0/\q=b/\z'=z,a⟩
theorem ExtB.refl1(w:Y)(b:Z)(z:Sz)(a:V Deferred):ExtB (Base.b1 w b z a) w:=⟨rfl,rfl,Z0 _,λ_ _ _=>rfl,λ_ _=>rfl,rfl,Z0 _⟩
theorem St.one'{S0:Z->Prop}{w0:Base}{s:MS}{c:Ctx}{a:Act}{w:Y}(h:St S0 w0 s c a w){b wd n:Z}{F F':Z->MV}{z:Sz}(x:aR s.bx 0=DV ⟨DU,.rows wd n F⟩)(o:c.live 0)(r:c.β 0=b)(v:c.sz 0=z)(S1:Z->Prop)(t:∀q,S1 q->c.S q/\q≠b)(G:(∀q,(Ctx.b1 S1 b z).S q->c.S q)->∀arr ty,w.heap[b]? =DV (.cells arr ty (0,0))->gY c w (.rows wd n F) arr->gY (Ctx.b1 S1 b z) w (.rows wd n F') arr)(tm':V (Z×MV))(C:∀p∈tm',Rep (Ctx.b1 S1 b z) w p.2 (a.tmps.getD p.1 undef)) :
  St S1 (Base.b1 w b z w0.df) ⟨s.n,tm', [⟨DU,.rows wd n F'⟩],1⟩ (Ctx.b1 S1 b z) a w:=by
 have k:=h.mem;have u:c.S b:=k.WS b ((k.hW b).2 ⟨0,_,o,x,rfl,r⟩);have l:∀q,(Ctx.b1 S1 b z).S q->c.S q:=λq hq=>by
  rcases hq with hq|hq
  all_goals simp_all
 refine⟨⟨ExtB.refl1 w b z _,λq hq=>⟨k.Slt q (t q hq).1,(t q hq).2⟩,⟨k.gw.sub λq hq=>(t q hq).1,λg E e=>(k.gw g E).1 (by rw[show g=b from e];exact u)⟩,λq=>Iff.rfl,λq=>⟨λhq=>⟨0,_,rfl,rfl,rfl,hq.symm⟩,λ⟨i,y,_,_,_,e⟩=>e.symm⟩,λi j f D _=>by rw[show i=0 from f,show j=0 from D],λi f=>⟨.inr rfl,by rw[<-r];exact(k.fresh 0 o).2.1,by rw[show i=0 from f];exact CG⟩,λi y f d=>?_,λi q z' ⟨J,I,H⟩=>⟨J,I.symm,H.symm⟩⟩,aLE tm' C,h.size,h.defers,λi q z' e=>?_⟩
 .have f:i=0:=f;subst f;have d:DV (⟨DU,.rows wd n F'⟩:Box)=DV y:=d;simp only[Z1]at d;subst d;obtain⟨arr,ty,q1,B,m,A⟩:=k.box 0 _ o x;rw[r]at q1;exact⟨arr,ty,q1,by rw[B,v];rfl,by have m:(c.sz 0).wd=wd:=m;rw[v]at m;exact m,G l arr ty q1 A⟩
 .obtain⟨e,_⟩:=e
  grind [qQ,oE]
theorem St.one{S0:Z->Prop}{w0:Base}{s:MS}{c:Ctx}{a:Act}{w:Y}(h:St S0 w0 s c a w){b wd n:Z}{F F':Z->MV}{z:Sz}(y:aR s.bx 0=DV ⟨DU,.rows wd n F⟩)(t:c.live 0)(u:c.β 0=b)(m:c.sz 0=z)(S1:Z->Prop)(v:∀q,S1 q->c.S q/\q≠b)(x:∀i,i<n->∀d,RepC (Ctx.b1 S1 b z).elem w (F i) d->RepC (Ctx.b1 S1 b z).elem w (F' i) d)(tm':V (Z×MV))(o:∀p∈tm',Rep (Ctx.b1 S1 b z) w p.2 (a.tmps.getD p.1 undef)) :
  St S1 (Base.b1 w b z w0.df) ⟨s.n,tm', [⟨DU,.rows wd n F'⟩],1⟩ (Ctx.b1 S1 b z) a w :=
 h.one' y t u m S1 v (λe arr ty _ l i f=>by
  obtain⟨d,k,j,g⟩:=l i f;exact⟨d,k,x i f d (BI (⟨λq _ r=>e q r,λ_ _ h=>h,λ_ h=>h.elim,λ_ _ _=>rfl,λ_ _ _=>rfl⟩:Keeps c.elem (Ctx.b1 S1 b z).elem w w) _ _ j),g⟩) tm' o
theorem Mem.old{S1:Z->Prop}{f w:Y}{b:Z}{z:Sz}{n:V Deferred}{bx:V Box}{c:Ctx}(h:Mem S1 (Base.b1 f b z n) bx c w):Keeps (Ctx.b1 S1 b z) c f w:=by
 have g:∀q,q<f.heap.size->c.W q->q=b:=λq a j=>by
  obtain⟨i,b0,m,_,_,e⟩:=(h.hW q).1 j;rcases(h.fresh i m).1 with k|k
  .have k:f.heap.size<=c.β i:=k;omega
  .rw[<-e];exact k
 refine⟨λq a d=>?_,g,λi l=>?_,λq a d=>h.ext.block q a λe=>d (.inr e),λq a d=>h.ext.block q a d⟩
 .rcases(h.hS q).1 d with k|k
  .exact .inl k
  .exact .inr (g q a k)
 .exact h.pin i b z ⟨l,rfl,rfl⟩
def cS(v:R)(q:Z):Prop:=∃len cap,v= .slice (DV ⟨q,0,DW⟩) len cap
def OwnV(c:Ctx)(w:Y)(wd len:Z)(f:Z->MV)(v:R):Prop :=
 ∃a cap,v= .slice a len cap/\len<=cap/\((∃q arr ty,a=DV ⟨q,0,DW⟩/\w.heap[q]? =DV (.cells arr ty (0,0))/\arr.size=cap*wd/\gY c w (.rows wd len f) arr)\/(a=DW/\len=0/\cap=0))
theorem OwnV.lt{c:Ctx}{w:Y}{wd len:Z}{f:Z->MV}{v:R}{q:Z}(h:OwnV c w wd len f v)(b:cS v q):q<w.heap.size:=by
 obtain⟨a,cap,rfl,_,h⟩:=h;obtain⟨l2,c2,e⟩:=b
 grind
theorem OwnV.keep{c c':Ctx}{w w':Y}(k:Keeps c.elem c'.elem w w'){wd len:Z}{f:Z->MV}{v:R}(h:OwnV c w wd len f v)(j:∀q,cS v q->w'.heap[q]? =w.heap[q]?):OwnV c' w' wd len f v:=by
 obtain⟨a,cap,rfl,l,h⟩:=h;refine⟨a,cap,rfl,l,h.imp (λ⟨q,arr,ty,b,p,o,n⟩=>⟨q,arr,ty,b,by rw[j q ⟨len,cap,by rw[b]⟩];exact p,o,λi m=>?_⟩) id⟩;obtain⟨r,g,e,d⟩:=n i m;exact⟨r,g,BI k _ _ e,d⟩
theorem aGK{c:Ctx}{w:Y}{i len wd:Z}{f:Z->MV}{v:R}(h:RepC c w (.bs i 0 len) [v])(o:c.live i->BoxRep c w i ⟨DU,.rows wd len f⟩):OwnV c w wd len f v/\∀q,cS v q->c.live i/\q=c.β i:=by
 obtain⟨a,cap,e,j,h⟩:=h;simp only[List.cons.injEq,and_true]at e;subst e;rcases h with ⟨g,b,n⟩|⟨g,r,p⟩
 .obtain⟨arr,ty,q1,l,d,k⟩:=o b;have d:(c.sz i).wd=wd:=d;refine⟨⟨a,cap,rfl,j,.inl ⟨_,arr,ty,g,q1,by rw[l,<-n,d,A3],k⟩⟩,λq ⟨m,s,e⟩=>⟨b,?_⟩⟩
  grind
 .refine⟨⟨a,cap,rfl,j,.inr ⟨g,r,p⟩⟩,λq ⟨m,s,e⟩=>?_⟩
  simp_all
structure NestR (w0:Nat) (S:Nat->Prop) (b:Nat) (z:Sz) (L:List Stp) (pv bv:Nat->Value) (mP mB:Nat) (w:World):Prop where
 ownP:∀j,j<mP->OwnV (Ctx.b1 S b z) w 1 (L.getD j aB).parts.length (bJ (L.getD j aB).parts) (pv j)
 ownB:∀j,j<mB->OwnV (Ctx.b1 S b z) w 2 (L.getD j aB).base.length (iL (L.getD j aB).base 200) (bv j)
 restP:∀j,mP<=j->j<L.length->RepC (Ctx.b1 S b z) w (.sl 1 (L.getD j aB).parts.length (bJ (L.getD j aB).parts)) [pv j]
 restB:∀j,mB<=j->j<L.length->RepC (Ctx.b1 S b z) w (.sl 2 (L.getD j aB).base.length (iL (L.getD j aB).base 200)) [bv j]
 inP:∀j q,j<mP->cS (pv j) q->S q/\w0<=q
 inB:∀j q,j<mB->cS (bv j) q->S q/\w0<=q
 dP:∀j k q,j<k->k<mP->cS (pv j) q->¬cS (pv k) q
 dB:∀j k q,j<k->k<mB->cS (bv j) q->¬cS (bv k) q
 dX:∀j k q,j<mP->k<mB->cS (pv j) q->¬cS (bv k) q
 S0:∀q,S q->q<w.heap.size/\q≠b
theorem NestR.frame{w0:Z}{S:Z->Prop}{b:Z}{z:Sz}{L:V Stp}{pv p:Z->R}{mP mB:Z}{w w':Y}{s:V Deferred}(h:NestR w0 S b z L pv p mP mB w)(e:ExtB (Base.b1 w b z s) w')(S2:Z->Prop)(o:∀q,S q->S2 q)(m:∀q,S2 q->S q\/w.heap.size<=q)(l:∀q,S2 q->q<w'.heap.size/\q≠b):NestR w0 S2 b z L pv p mP mB w':=by
 have k:Keeps (Ctx.b1 S b z) (Ctx.b1 S2 b z) w w':=⟨λq a f=>f.imp (λf=>(m q f).elim id λh=>by omega) id,λ_ _ h=>h,λi r=>⟨r,rfl,rfl⟩,λq a f=>e.block q a λe=>f (.inr e),λq a f=>e.block q a f⟩;have n:∀q,S q->w'.heap[q]? =w.heap[q]? :=λq a=>e.block q (h.S0 q a).1 (h.S0 q a).2;exact⟨λj g=>(h.ownP j g).keep k.elem λq a=>n q (h.inP j q g a).1,λj g=>(h.ownB j g).keep k.elem λq a=>n q (h.inB j q g a).1,λj d c=>(h.restP j d c).keep k,λj d c=>(h.restB j d c).keep k,
  λj q d c=>⟨o q (h.inP j q d c).1,(h.inP j q d c).2⟩,λj q d c=>⟨o q (h.inB j q d c).1,(h.inB j q d c).2⟩,h.dP,h.dB,h.dX,l⟩
def cpT(n i:Z):V (Z×MV):=[(3,.bs 0 0 n),(4,.int .i64 i)]
def cpU(n i:Z):V (Z×MV):=[(3,.bs 0 0 n),(4,.int .i64 i),(14,.bs 0 0 n),(15,.int .i64 i)]
def cpW(n i:Z):V (Z×MV):=[(3,.bs 0 0 n),(4,.int .i64 i),(25,.bs 0 0 n),(26,.int .i64 i)]
def lP(L:V Stp)(pv a:Z->R):Box:=⟨DU,.rows 18 L.length (kN L pv a)⟩
def cpS(L:V Stp)(pv a:Z->R)(i:Z):MS:=⟨37,cpT L.length i, [lP L pv a],1⟩
def cpO(id:Z):V A:=aVm DC id
theorem bFo(L:V Stp)(pv a:Z->R)(i:Z)(K:MS->Prop):(((0:U)<=(↑i:U)/\(↑i:U)<(↑(r L):U))/\u (↑i:U)<r L/\K { n:=nat_lit 37,tm:=[((21:Z),MV.val (pv (u (↑i:U)))),((20:Z),MV.br (0:Z) (u (↑i:U)) ((0:Z)+3)),((19:Z),MV.br (0:Z) (u (↑i:U)) (0:Z)),((18:Z),MV.int D0 (↑i:U)),((17:Z),MV.bs (0:Z) (0:Z) (r L)),((16:Z),MV.bs (1:Z) (0:Z) (0:Z)),((15:Z),MV.int D0 (↑i:U)),((14:Z),MV.bs (0:Z) (0:Z) (r L)),((3:Z),MV.bs (0:Z) (0:Z) (r L)),((4:Z),MV.int D0 (↑i:U))],bx:=[lP L pv a,{ fz:=false,c:=BC.arr D0 [] }],np:=nat_lit 1 })=eG (aK [] aC) (cpO 5) (λ_=>C) ((cpO 5).take 8) (cpS L pv a i) K:=by kernel_rfl
theorem bFp(L:V Stp)(pv a:Z->R)(i len:Z)(g:Z->MV)(K:MS->Prop):(((0:Z)<=0/\((0:Z)+AD (News.rows (1:Z) len g))*8<=140737488355328)/\K { n:=nat_lit 37,tm:=[((22:Z),MV.bs (1:Z) (0:Z) ((0:Z)+AD (News.rows (1:Z) len g))),((16:Z),bif A7 (1:Z) (MV.bs (1:Z) (0:Z) (0:Z))then MV.any else MV.bs (1:Z) (0:Z) (0:Z)),((21:Z),bif A7 (1:Z) (MV.sl (1:Z) len g)then MV.any else MV.sl (1:Z) len g),((3:Z),bif A7 (1:Z) (MV.bs (0:Z) (0:Z) (r L))then MV.any else MV.bs (0:Z) (0:Z) (r L)),((4:Z),bif A7 (1:Z) (MV.int D0 (↑i:U))then MV.any else MV.int D0 (↑i:U)),((14:Z),bif A7 (1:Z) (MV.bs (0:Z) (0:Z) (r L))then MV.any else MV.bs (0:Z) (0:Z) (r L)),((15:Z),bif A7 (1:Z) (MV.int D0 (↑i:U))then MV.any else MV.int D0 (↑i:U))],bx:=[bif A1 (0:Z) (1:Z)then lP L pv a else lP L pv a,{ fz:=false,c:=BC.rows (1:Z) ((0:Z)+len) λq=>bif AR q (0:Z)then MV.any else g (q-0) }],np:=nat_lit 1 })=eG (aK [] aC) (cpO 5) (λ_=>C) (((cpO 5).drop 8).take 1) ⟨37,(16,.bs 1 0 0)::(21,.sl 1 len g)::cpU L.length i, [lP L pv a,⟨DU,.rows 1 0 (λ_=>.any)⟩],1⟩ K:=by kernel_rfl
theorem bFq(L:V Stp)(pv d:Z->R)(i:Z)(v:R)(K:MS->Prop)(b:_)(e:b=(u (↑i:U)))(a:_)(f:a=(getD L b aB)):(((0:U)<=(↑i:U)/\(↑i:U)<(↑(r L):U))/\u (↑i:U)<r L/\K {n:=nat_lit 37,tm:=((24:Z),MV.br (0:Z) b ((0:Z)+3))::((23:Z),MV.br (0:Z) b (0:Z))::((22:Z),MV.val v)::cpU (r L) i,bx:=[{fz:=false,c:=BC.rows (18:Z) (r L) λj=>bif A1 j b then MV.st [MV.int D0 (Stp.kind a),MV.st [MV.bool (Stp.neg a),MV.ws (Stp.mag a)],MV.val v,MV.val (d b),MV.st [MV.big (Stp.ca a) (200:Z),MV.big (Stp.cb a) (200:Z),MV.big (Stp.cm a) (200:Z)],MV.st [MV.big (Stp.x a) (200:Z),MV.big (Stp.y a) (200:Z),MV.bool (Stp.inf a)],MV.big (Stp.ord a) (200:Z)]else kN L pv d j}],np:=nat_lit 1})=eG (aK [] aC) (cpO 5) (λ_=>C) (((cpO 5).drop 8).drop 1) ⟨37,(22,.val v)::cpU L.length i, [lP L pv d],1⟩ K:=by subst e f;kernel_rfl
theorem bFr(L:V Stp)(pv a:Z->R)(i:Z)(K:MS->Prop):(((0:U)<=(↑i:U)/\(↑i:U)<(↑(r L):U))/\u (↑i:U)<r L/\K { n:=nat_lit 37,tm:=[((32:Z),MV.val (a (u (↑i:U)))),((31:Z),MV.br (0:Z) (u (↑i:U)) ((0:Z)+4)),((30:Z),MV.br (0:Z) (u (↑i:U)) (0:Z)),((29:Z),MV.int D0 (↑i:U)),((28:Z),MV.bs (0:Z) (0:Z) (r L)),((27:Z),MV.bs (1:Z) (0:Z) (0:Z)),((26:Z),MV.int D0 (↑i:U)),((25:Z),MV.bs (0:Z) (0:Z) (r L)),((3:Z),MV.bs (0:Z) (0:Z) (r L)),((4:Z),MV.int D0 (↑i:U))],bx:=[lP L pv a,{ fz:=false,c:=BC.rows (2:Z) (0:Z) (aN []) }],np:=nat_lit 1 })=eG (aK [] aC) (cpO 6) (λ_=>C) ((cpO 6).take 8) (cpS L pv a i) K:=by kernel_rfl
theorem bFs(L:V Stp)(pv a:Z->R)(i len:Z)(g:Z->MV)(K:MS->Prop):(((0:Z)<=0/\((0:Z)+AD (News.rows (2:Z) len g))*32<=140737488355328)/\K { n:=nat_lit 37,tm:=[((33:Z),MV.bs (1:Z) (0:Z) ((0:Z)+AD (News.rows (2:Z) len g))),((27:Z),bif A7 (1:Z) (MV.bs (1:Z) (0:Z) (0:Z))then MV.any else MV.bs (1:Z) (0:Z) (0:Z)),((32:Z),bif A7 (1:Z) (MV.sl (2:Z) len g)then MV.any else MV.sl (2:Z) len g),((3:Z),bif A7 (1:Z) (MV.bs (0:Z) (0:Z) (r L))then MV.any else MV.bs (0:Z) (0:Z) (r L)),((4:Z),bif A7 (1:Z) (MV.int D0 (↑i:U))then MV.any else MV.int D0 (↑i:U)),((25:Z),bif A7 (1:Z) (MV.bs (0:Z) (0:Z) (r L))then MV.any else MV.bs (0:Z) (0:Z) (r L)),((26:Z),bif A7 (1:Z) (MV.int D0 (↑i:U))then MV.any else MV.int D0 (↑i:U))],bx:=[bif A1 (0:Z) (1:Z)then lP L pv a else lP L pv a,{ fz:=false,c:=BC.rows (2:Z) ((0:Z)+len) λq=>bif AR q (0:Z)then MV.any else g (q-0) }],np:=nat_lit 1 })=eG (aK [] aC) (cpO 6) (λ_=>C) (((cpO 6).drop 8).take 1) ⟨37,(27,.bs 1 0 0)::(32,.sl 2 len g)::cpW L.length i, [lP L pv a,⟨DU,.rows 2 0 (λ_=>.any)⟩],1⟩ K:=by kernel_rfl
theorem bFt(L:V Stp)(pv f:Z->R)(i:Z)(v:R)(K:MS->Prop)(b:_)(d:b=(u (↑i:U)))(a:_)(e:a=(getD L b aB)):(((0:U)<=(↑i:U)/\(↑i:U)<(↑(r L):U))/\u (↑i:U)<r L/\K {n:=nat_lit 37,tm:=((35:Z),MV.br (0:Z) b ((0:Z)+4))::((34:Z),MV.br (0:Z) b (0:Z))::((33:Z),MV.val v)::cpW (r L) i,bx:=[{fz:=false,c:=BC.rows (18:Z) (r L) λj=>bif A1 j b then MV.st [MV.int D0 (Stp.kind a),MV.st [MV.bool (Stp.neg a),MV.ws (Stp.mag a)],MV.val (pv b),MV.val v,MV.st [MV.big (Stp.ca a) (200:Z),MV.big (Stp.cb a) (200:Z),MV.big (Stp.cm a) (200:Z)],MV.st [MV.big (Stp.x a) (200:Z),MV.big (Stp.y a) (200:Z),MV.bool (Stp.inf a)],MV.big (Stp.ord a) (200:Z)]else kN L pv f j}],np:=nat_lit 1})=eG (aK [] aC) (cpO 6) (λ_=>C) (((cpO 6).drop 8).drop 1) ⟨37,(33,.val v)::cpW L.length i, [lP L pv f],1⟩ K:=by subst d e;kernel_rfl
def oI(f:Z->R)(i:Z)(v:R):Z->R:=λq=>DY (q.beq i) v (f q)
theorem ExtB.b1_trans{f e d:Y}{b:Z}{z:Sz}{c:V Deferred}(h:ExtB (Base.b1 f b z c) e)(k:ExtB (Base.b1 e b z c) d):ExtB (Base.b1 f b z c) d :=
 ⟨k.os.trans h.os,k.output.trans h.output,AV h.size k.size,λi g a=>(k.block i (AM g h.size) a).trans (h.block i g a),λx a=>(k.frz x (AM a h.size)).trans (h.frz x a),k.tape.trans h.tape,AV h.dr k.dr⟩
theorem xI{c:Ctx}{w:Y}{S:Z->Prop}{b n:Z}{z:Sz}{v:R}(g:c.β 0=b)(e:c.sz 0=z)(h:Rep c w (.bs 0 0 n) v):Rep (Ctx.b1 S b z) w (.bs 0 0 n) v:=by
 obtain⟨a,cap,rfl,f,h⟩:=iQ h;refine aU rfl (by simp) rfl ⟨a,cap,rfl,f,h.imp (λ⟨i,h2,d⟩=>⟨?_,rfl,?_⟩) id⟩
 .rw[i,g];rfl
 .rw[e]at d;exact d
theorem NestR.addP{w0:Z}{S:Z->Prop}{b:Z}{z:Sz}{L:V Stp}{pv e:Z->R}{i m:Z}{v:R}{w:Y}(N:NestR w0 S b z L pv e i m w)(_hi:i<L.length)(O:OwnV (Ctx.b1 S b z) w 1 (L.getD i aB).parts.length (bJ (L.getD i aB).parts) v)(hin:∀q,cS v q->S q/\w0<=q)(h1:∀j q,j<i->cS (pv j) q->¬cS v q)(h2:∀j q,j<m->cS (e j) q->¬cS v q):NestR w0 S b z L (oI pv i v) e (i+1) m w:=by
 have e1:oI pv i v i=v:=by unfold oI;simp
 have d:∀j,j≠i->oI pv i v j=pv j:=λj c=>by
  unfold oI;rw[show j.beq i=DU from CZ.2 λh=>c (by simpa using h)];rfl
 refine⟨λj c=>?_,N.ownB,λj h3 g=>by rw[d j (by omega)];exact N.restP j (by omega) g,N.restB,λj q c a=>?_,N.inB,λj k q c f a=>?_,N.dB,λj k q c f a=>?_,N.S0⟩
 .by_cases h:j=i
  .simp_all
  .rw[d j h];exact N.ownP j (by omega)
 .by_cases h:j=i
  .simp_all
  .rw[d j h]at a;exact N.inP j q (by omega) a
 .rw[d j (by omega)]at a;by_cases h:k=i
  .grind
  .rw[d k h];exact N.dP j k q c (by omega) a
 .by_cases h:j=i
  .grind
  .rw[d j h]at a;exact N.dX j k q (by omega) f a
theorem NestR.addB{w0:Z}{S:Z->Prop}{b:Z}{z:Sz}{L:V Stp}{pv e:Z->R}{i m:Z}{v:R}{w:Y}(N:NestR w0 S b z L pv e m i w)(_hi:i<L.length)(O:OwnV (Ctx.b1 S b z) w 2 (L.getD i aB).base.length (iL (L.getD i aB).base 200) v)(hin:∀q,cS v q->S q/\w0<=q)(h1:∀j q,j<m->cS (pv j) q->¬cS v q)(h2:∀j q,j<i->cS (e j) q->¬cS v q):NestR w0 S b z L pv (oI e i v) m (i+1) w:=by
 have e1:oI e i v i=v:=by unfold oI;simp
 have d:∀j,j≠i->oI e i v j=e j:=λj c=>by
  unfold oI;rw[show j.beq i=DU from CZ.2 λh=>c (by simpa using h)];rfl
 refine⟨N.ownP,λj c=>?_,N.restP,λj h3 g=>by rw[d j (by omega)];exact N.restB j (by omega) g,N.inP,λj q c a=>?_,N.dP,λj k q c f a=>?_,λj k q c f a=>?_,N.S0⟩
 .by_cases h:j=i
  .simp_all
  .rw[d j h];exact N.ownB j (by omega)
 .by_cases h:j=i
  .simp_all
  .rw[d j h]at a;exact N.inB j q (by omega) a
 .rw[d j (by omega)]at a;by_cases h:k=i
  .grind
  .rw[d k h];exact N.dB j k q c (by omega) a
 .by_cases h:k=i
  .grind
  .rw[d k h];exact N.dX j k q c (by omega) a
theorem bGE{L:V Stp}{pv b:Z->R}{i:Z}{v:R}{c:Ctx}{w:Y}:∀j,j<L.length->∀a,RepC c w (DY (j.beq i) (.st [.int .i64 (L.getD i aB).kind,.st [.bool (L.getD i aB).neg,.ws (L.getD i aB).mag],.val v,.val (b i),.st [.big (L.getD i aB).ca 200,.big (L.getD i aB).cb 200,.big (L.getD i aB).cm 200],.st [.big (L.getD i aB).x 200,.big (L.getD i aB).y 200,.bool (L.getD i aB).inf],.big (L.getD i aB).ord 200]) (kN L pv b j)) a->RepC c w (kN L (oI pv i v) b j) a:=λj _ a h=>by
 unfold kN oI;cases d:j.beq i with
 |true =>
  simp_all
 |false =>
  rw[d,Z5]at h;exact h
set_option maxRecDepth 100000 in
theorem bIe{w0:D1}{S1:D1->Prop}{b:D1}{z:Sz}{L:D2 Stp}{pv m:D1->D3}{i:D1}{a:Act}{w:D4}{G:D2 Deferred}{Q:Exit->Act->D4->Prop}{ops:D5 D6}(U:ops.toList=cpO 5)(N:NestR w0 S1 b z L pv m i i w)(F:i<L.length)(hw0:w0<=w.heap.size)(T:(0+(L.getD i aB).parts.length)*8<=140737488355328)(h:St S1 (Base.b1 w b z G) (cpS L pv m i) (Ctx.b1 S1 b z) a w)(hQ:∀v S2 a' w',NestR w0 S2 b z L (oI pv i v) m (i+1) i w'->St S2 (Base.b1 w' b z G) (cpS L (oI pv i v) m i) (Ctx.b1 S2 b z) a' w'->ExtB (Base.b1 w b z G) w'->(∀q,S1 q->S2 q)->(∀q,S2 q->S1 q\/w.heap.size<=q)->Q .normal a' w'):wpList AB ops Q ops.toList a w:=by
 rw[show ops.toList=(cpO 5).take 8++(cpO 5).drop 8 by rw[AP,U]];refine fP _ a w ?_;refine cH (E:=aK [] aC) (Kp:=λ_=>D7) (K:=λs=>∀c' a' w',St S1 (Base.b1 w b z G) s c' a' w'->wpList _ ops Q ((cpO 5).drop 8) a' w') (λ_ _ _ _ h=>h.elim) _ (cpS L pv m i) _ a w ?_ h (λs' c' a' w' q n _=>q c' a' w' n);rw[U,<-bFo];refine⟨by omega,by rw[Z8];exact F,λc1 X V p=>?_⟩;rw[Z8]at p;have hk:=p.mem.old;have Z:=dF (show Rep c1 V (.val (pv i)) (X.tmps.getD 21 undef) from p.tm 21);have Y:=(N.restP i (Z0 _) F).keep hk;have h2:=p.re ((16,.bs 1 0 0)::(21,.sl 1 (L.getD i aB).parts.length (bJ (L.getD i aB).parts))::cpU L.length i) [lP L pv m,⟨DU,.rows 1 0 λ_=>.any⟩]
  (p.mem.setc (i:=1) (bc:= .arr .i64 []) (bc':= .rows 1 0 λ_=>.any) rfl rfl (λarr _ _ i F=>D8 F (AL i)))
  (fa (p.tm 16) (fa (aU rfl (by simp) rfl (by rw[Z.1];exact Y)) (fa (p.tm 3) (fa (p.tm 4) (fa (p.tm 14) (fa (p.tm 15) f0))))))
 rw[show(cpO 5).drop 8=((cpO 5).drop 8).take 1++((cpO 5).drop 8).drop 1 from (AP 1 _).symm];refine fP _ X V ?_;refine cH (E:=aK [] aC) (Kp:=λ_=>D7) (K:=λs=>∀c' a' w',St S1 (Base.b1 w b z G) s c' a' w'->wpList _ ops Q (((cpO 5).drop 8).drop 1) a' w') (λ_ _ _ _ h=>h.elim) _ _ _ X V ?_ h2 (λs' c' a' w' q n _=>q c' a' w' n);rw[U];refine cast (bFp L pv m i _ (bJ (L.getD i aB).parts) _) ⟨⟨Z9 _,T⟩,λu A l f=>?_⟩;have g:=f.mem.pin 0 b z ⟨rfl,rfl,rfl⟩;generalize hv:A.tmps.getD 22 undef=v;have R:RepC u l (.bs 1 0 (0+(L.getD i aB).parts.length)) [v]:=hv ▸ b6 (show Rep u l (.bs 1 0 (0+(L.getD i aB).parts.length)) (A.tmps.getD 22 undef) from f.tm 22) rfl (by simp) rfl;obtain⟨O,D⟩:=aGK R (λH=>f.mem.box 1 _ H rfl);rw[A3]at O R;have d:∀q,cS v q->w.heap.size<=q/\u.S q/\q≠b:=λq c=>by
  obtain⟨H,e⟩:=D q c;have J:q≠b:=λe2=>D8 (f.mem.inj 1 0 H g.1 (by rw[g.2.1,<-e,e2])) (by decide);refine⟨?_,f.mem.WS q ((f.mem.hW q).2 ⟨1,_,H,rfl,rfl,e.symm⟩),J⟩;rcases(f.mem.fresh 1 H).1 with k|k
  .rw[e];exact k
  .exact D8 (e.trans k) J
 have o:∀q,S1 q\/cS v q->u.S q/\q≠b:=λq c=>c.elim (λc=>⟨(f.mem.hS q).2 (.inl c),(N.S0 q c).2⟩) λc=>(d q c).2;have P:∀t,Rep u l (.bs 0 0 L.length) (A.tmps.getD t undef)->Rep (Ctx.b1 (λq=>S1 q\/cS v q) b z) l (.bs 0 0 L.length) (A.tmps.getD t undef):=λt W=>xI g.2.1 g.2.2 W;have M:∀t,Rep u l (.int .i64 i) (A.tmps.getD t undef)->Rep (Ctx.b1 (λq=>S1 q\/cS v q) b z) l (.int .i64 i) (A.tmps.getD t undef):=λt W=>by rw[cL W];exact cG _ _
 have hc1:v.oneCell'=DT:=by
  obtain⟨x,y,e,_⟩:=O;rw[e];rfl
 have h4:=f.one (F':=kN L pv m) rfl g.1 g.2.1 g.2.2 (λq=>S1 q\/cS v q) o (λ_ _ _ h=>h) ((22,.val v)::cpU L.length i)
  (fa (aU rfl (by simp) rfl ⟨by rw[hv],hc1⟩) (fa (P 3 (f.tm 3)) (fa (M 4 (f.tm 4)) (fa (P 14 (f.tm 14)) (fa (M 15 (f.tm 15)) f0)))))
 have hlt:∀q,S1 q\/cS v q->q<l.heap.size/\q≠b:=λq c=>⟨f.mem.Slt q (o q c).1,(o q c).2⟩;have N1:=N.frame f.mem.ext (λq=>S1 q\/cS v q) (λq c=>.inl c) (λq c=>c.imp id λc=>(d q c).1) hlt;have N2:NestR w0 (λq=>S1 q\/cS v q) b z L (oI pv i v) m (i+1) i l:=N1.addP F (O.keep (⟨λq _ c=>(show(S1 q\/cS v q)\/q=b from c).elim (λc=>(o q c).1) λc=>f.mem.WS q ((f.mem.hW q).2 ⟨0,_,g.1,rfl,rfl,by rw[g.2.1];exact c.symm⟩),λ_ _ h=>h,λ_ h=>h.elim,λ_ _ _=>rfl,λ_ _ _=>rfl⟩:Keeps u.elem (Ctx.b1 (λq=>S1 q\/cS v q) b z).elem l l) λ_ _=>rfl)
  (λq c=>⟨.inr c,AV hw0 (d q c).1⟩) (λj q I c B=>by have:=(N.S0 q (N.inP j q I c).1).1;have:=(d q B).1;omega) (λj q I c B=>by have:=(N.S0 q (N.inB j q I c).1).1;have:=(d q B).1;omega)
 refine cH (E:=aK [] aC) (Kp:=λ_=>D7) (K:=λs=>∀c' a' w',St (λq=>S1 q\/cS v q) (Base.b1 l b z G) s c' a' w'->Q .normal a' w') (λ_ _ _ _ h=>h.elim) _ _ _ A l ?_ h4 (λs' c' a' w' q n _=>q c' a' w' n);rw[U];refine cast (bFq L pv m i v _ _ rfl _ rfl) ⟨by omega,by rw[Z8];exact F,λc3 a3 w3 r=>?_⟩;rw[Z8]at r;have g:=r.mem.pin 0 b z ⟨rfl,rfl,rfl⟩;have C:∀q,S1 q\/cS v q->c3.S q/\q≠b:=λq c=>⟨(r.mem.hS q).2 (.inl c),(o q c).2⟩;have h6:=r.one (F':=kN L (oI pv i v) m) rfl g.1 g.2.1 g.2.2 (λq=>S1 q\/cS v q) C (λj I cs h=>bGE j I cs h) (cpT L.length i)
  (fa (xI g.2.1 g.2.2 (r.tm 3)) (fa (by rw[cL (r.tm 4)];exact cG _ _) f0))
 exact hQ v _ a3 w3 (N2.frame r.mem.ext _ (λq c=>c) (λq c=>.inl c) λq c=>⟨r.mem.Slt q (C q c).1,(C q c).2⟩) h6 (f.mem.ext.b1_trans r.mem.ext) (λq c=>.inl c) (λq c=>c.imp id λc=>(d q c).1)
theorem bGF{L:V Stp}{pv b:Z->R}{i:Z}{v:R}{c:Ctx}{w:Y}:∀j,j<L.length->∀a,RepC c w (DY (j.beq i) (.st [.int .i64 (L.getD i aB).kind,.st [.bool (L.getD i aB).neg,.ws (L.getD i aB).mag],.val (pv i),.val v,.st [.big (L.getD i aB).ca 200,.big (L.getD i aB).cb 200,.big (L.getD i aB).cm 200],.st [.big (L.getD i aB).x 200,.big (L.getD i aB).y 200,.bool (L.getD i aB).inf],.big (L.getD i aB).ord 200]) (kN L pv b j)) a->RepC c w (kN L pv (oI b i v) j) a:=λj _ a h=>by
 unfold kN oI;cases d:j.beq i with
 |true =>
  simp_all
 |false =>
  rw[d,Z5]at h;exact h
set_option maxRecDepth 100000 in
theorem bIf{w0:D1}{S1:D1->Prop}{b:D1}{z:Sz}{L:D2 Stp}{pv m:D1->D3}{i:D1}{a:Act}{w:D4}{G:D2 Deferred}{Q:Exit->Act->D4->Prop}{ops:D5 D6}(U:ops.toList=cpO 6)(N:NestR w0 S1 b z L pv m (i+1) i w)(F:i<L.length)(hw0:w0<=w.heap.size)(T:(0+(L.getD i aB).base.length)*32<=140737488355328)(h:St S1 (Base.b1 w b z G) (cpS L pv m i) (Ctx.b1 S1 b z) a w)(hQ:∀v S2 a' w',NestR w0 S2 b z L pv (oI m i v) (i+1) (i+1) w'->St S2 (Base.b1 w' b z G) (cpS L pv (oI m i v) i) (Ctx.b1 S2 b z) a' w'->ExtB (Base.b1 w b z G) w'->(∀q,S1 q->S2 q)->(∀q,S2 q->S1 q\/w.heap.size<=q)->Q .normal a' w'):wpList AB ops Q ops.toList a w:=by
 rw[show ops.toList=(cpO 6).take 8++(cpO 6).drop 8 by rw[AP,U]];refine fP _ a w ?_;refine cH (E:=aK [] aC) (Kp:=λ_=>D7) (K:=λs=>∀c' a' w',St S1 (Base.b1 w b z G) s c' a' w'->wpList _ ops Q ((cpO 6).drop 8) a' w') (λ_ _ _ _ h=>h.elim) _ (cpS L pv m i) _ a w ?_ h (λs' c' a' w' q n _=>q c' a' w' n);rw[U,<-bFr];refine⟨by omega,by rw[Z8];exact F,λc1 X V p=>?_⟩;rw[Z8]at p;have hk:=p.mem.old;have Z:=dF (show Rep c1 V (.val (m i)) (X.tmps.getD 32 undef) from p.tm 32);have Y:=(N.restB i (Z0 _) F).keep hk;have h2:=p.re ((27,.bs 1 0 0)::(32,.sl 2 (L.getD i aB).base.length (iL (L.getD i aB).base 200))::cpW L.length i) [lP L pv m,⟨DU,.rows 2 0 λ_=>.any⟩]
  (p.mem.setc (i:=1) (bc:= .rows 2 0 (aN [])) (bc':= .rows 2 0 λ_=>.any) rfl rfl (λarr _ _ i F=>D8 F (AL i)))
  (fa (p.tm 27) (fa (aU rfl (by simp) rfl (by rw[Z.1];exact Y)) (fa (p.tm 3) (fa (p.tm 4) (fa (p.tm 25) (fa (p.tm 26) f0))))))
 rw[show(cpO 6).drop 8=((cpO 6).drop 8).take 1++((cpO 6).drop 8).drop 1 from (AP 1 _).symm];refine fP _ X V ?_;refine cH (E:=aK [] aC) (Kp:=λ_=>D7) (K:=λs=>∀c' a' w',St S1 (Base.b1 w b z G) s c' a' w'->wpList _ ops Q (((cpO 6).drop 8).drop 1) a' w') (λ_ _ _ _ h=>h.elim) _ _ _ X V ?_ h2 (λs' c' a' w' q n _=>q c' a' w' n);rw[U];refine cast (bFs L pv m i _ (iL (L.getD i aB).base 200) _) ⟨⟨Z9 _,T⟩,λu A l f=>?_⟩;have g:=f.mem.pin 0 b z ⟨rfl,rfl,rfl⟩;generalize hv:A.tmps.getD 33 undef=v;have R:RepC u l (.bs 1 0 (0+(L.getD i aB).base.length)) [v]:=hv ▸ b6 (show Rep u l (.bs 1 0 (0+(L.getD i aB).base.length)) (A.tmps.getD 33 undef) from f.tm 33) rfl (by simp) rfl;obtain⟨O,D⟩:=aGK R (λH=>f.mem.box 1 _ H rfl);rw[A3]at O R;have d:∀q,cS v q->w.heap.size<=q/\u.S q/\q≠b:=λq c=>by
  obtain⟨H,e⟩:=D q c;have J:q≠b:=λe2=>D8 (f.mem.inj 1 0 H g.1 (by rw[g.2.1,<-e,e2])) (by decide);refine⟨?_,f.mem.WS q ((f.mem.hW q).2 ⟨1,_,H,rfl,rfl,e.symm⟩),J⟩;rcases(f.mem.fresh 1 H).1 with k|k
  .rw[e];exact k
  .exact D8 (e.trans k) J
 have o:∀q,S1 q\/cS v q->u.S q/\q≠b:=λq c=>c.elim (λc=>⟨(f.mem.hS q).2 (.inl c),(N.S0 q c).2⟩) λc=>(d q c).2;have P:∀t,Rep u l (.bs 0 0 L.length) (A.tmps.getD t undef)->Rep (Ctx.b1 (λq=>S1 q\/cS v q) b z) l (.bs 0 0 L.length) (A.tmps.getD t undef):=λt W=>xI g.2.1 g.2.2 W;have M:∀t,Rep u l (.int .i64 i) (A.tmps.getD t undef)->Rep (Ctx.b1 (λq=>S1 q\/cS v q) b z) l (.int .i64 i) (A.tmps.getD t undef):=λt W=>by rw[cL W];exact cG _ _
 have hc1:v.oneCell'=DT:=by
  obtain⟨x,y,e,_⟩:=O;rw[e];rfl
 have h4:=f.one (F':=kN L pv m) rfl g.1 g.2.1 g.2.2 (λq=>S1 q\/cS v q) o (λ_ _ _ h=>h) ((33,.val v)::cpW L.length i)
  (fa (aU rfl (by simp) rfl ⟨by rw[hv],hc1⟩) (fa (P 3 (f.tm 3)) (fa (M 4 (f.tm 4)) (fa (P 25 (f.tm 25)) (fa (M 26 (f.tm 26)) f0)))))
 have hlt:∀q,S1 q\/cS v q->q<l.heap.size/\q≠b:=λq c=>⟨f.mem.Slt q (o q c).1,(o q c).2⟩;have N1:=N.frame f.mem.ext (λq=>S1 q\/cS v q) (λq c=>.inl c) (λq c=>c.imp id λc=>(d q c).1) hlt;have N2:NestR w0 (λq=>S1 q\/cS v q) b z L pv (oI m i v) (i+1) (i+1) l:=N1.addB F (O.keep (⟨λq _ c=>(show(S1 q\/cS v q)\/q=b from c).elim (λc=>(o q c).1) λc=>f.mem.WS q ((f.mem.hW q).2 ⟨0,_,g.1,rfl,rfl,by rw[g.2.1];exact c.symm⟩),λ_ _ h=>h,λ_ h=>h.elim,λ_ _ _=>rfl,λ_ _ _=>rfl⟩:Keeps u.elem (Ctx.b1 (λq=>S1 q\/cS v q) b z).elem l l) λ_ _=>rfl)
  (λq c=>⟨.inr c,AV hw0 (d q c).1⟩) (λj q I c B=>by have:=(N.S0 q (N.inP j q I c).1).1;have:=(d q B).1;omega) (λj q I c B=>by have:=(N.S0 q (N.inB j q I c).1).1;have:=(d q B).1;omega)
 refine cH (E:=aK [] aC) (Kp:=λ_=>D7) (K:=λs=>∀c' a' w',St (λq=>S1 q\/cS v q) (Base.b1 l b z G) s c' a' w'->Q .normal a' w') (λ_ _ _ _ h=>h.elim) _ _ _ A l ?_ h4 (λs' c' a' w' q n _=>q c' a' w' n);rw[U];refine cast (bFt L pv m i v _ _ rfl _ rfl) ⟨by omega,by rw[Z8];exact F,λc3 a3 w3 r=>?_⟩;rw[Z8]at r;have g:=r.mem.pin 0 b z ⟨rfl,rfl,rfl⟩;have C:∀q,S1 q\/cS v q->c3.S q/\q≠b:=λq c=>⟨(r.mem.hS q).2 (.inl c),(o q c).2⟩;have h6:=r.one (F':=kN L pv (oI m i v)) rfl g.1 g.2.1 g.2.2 (λq=>S1 q\/cS v q) C (λj I cs h=>bGF j I cs h) (cpT L.length i)
  (fa (xI g.2.1 g.2.2 (r.tm 3)) (fa (by rw[cL (r.tm 4)];exact cG _ _) f0))
 exact hQ v _ a3 w3 (N2.frame r.mem.ext _ (λq c=>c) (λq c=>.inl c) λq c=>⟨r.mem.Slt q (C q c).1,(C q c).2⟩) h6 (f.mem.ext.b1_trans r.mem.ext) (λq c=>.inl c) (λq c=>c.imp id λc=>(d q c).1)
noncomputable def cpC:Code:=qO DC
def aD7:Code->Code
 |.loop c=>c
 |c=>c
def aCS:Code->Code
 |.block _ c=>c
 |c=>c
noncomputable def cpL:Code:=aD7 (aCS (aZ (bR (aZ (aZ cpC)))))
theorem bFi(n:Z)(f:Z->MV)(K:Ex->MS->Prop):K .normal ⟨37, [(2,.val (.slice DW 0 0)),(0,.sl 18 n f)], [],0⟩=bG (aK [] aC) (λ_=>C) (bR cpC) ⟨37,dT 0 [.sl 18 n f], [],0⟩ K:=by kernel_rfl
theorem bFj(n:Z)(f:Z->MV)(K:Ex->MS->Prop):(((0:Z)<=0/\((0:Z)+AD (News.rows (18:Z) n f))*288<=140737488355328)/\K Ex.normal { n:=nat_lit 37,tm:=[((3:Z),MV.bs (0:Z) (0:Z) ((0:Z)+AD (News.rows (18:Z) n f))),((7:Z),MV.bs (0:Z) (0:Z) ((0:Z)+AD (News.rows (18:Z) n f))),((6:Z),bif A7 (0:Z) (MV.sl (18:Z) n f)then MV.any else MV.sl (18:Z) n f),((5:Z),bif A7 (0:Z) (MV.bs (0:Z) (0:Z) (0:Z))then MV.any else MV.bs (0:Z) (0:Z) (0:Z)),((2:Z),bif A7 (0:Z) (MV.val (AU DW (0:Z) (0:Z)))then MV.any else MV.val (AU DW (0:Z) (0:Z))),((0:Z),bif A7 (0:Z) (MV.sl (18:Z) n f)then MV.any else MV.sl (18:Z) n f)],bx:=[{ fz:=false,c:=BC.rows (18:Z) ((0:Z)+n) λq=>bif AR q (0:Z)then aN [] q else f (q-0) }],np:=nat_lit 0 })=bG (aK [] aC) (λ_=>C) (bR (aZ cpC)) ⟨37, [(2,.val (.slice DW 0 0)),(0,.sl 18 n f)], [],0⟩ K:=by kernel_rfl
theorem bFk(n:Z)(f:Z->MV)(K:Ex->MS->Prop):K .normal ⟨37, [(4,.int .i64 0),(3,.bs 0 0 n)], [⟨DU,.rows 18 n f⟩],0⟩=bG (aK [] aC) (λ_=>C) (bR (bR (aZ (aZ cpC)))) ⟨37, [(3,.bs 0 0 n)], [⟨DU,.rows 18 n f⟩],0⟩ K:=by kernel_rfl
theorem bFl(L:V Stp)(pv a:Z->R)(i:Z)(K:Ex->MS->Prop):(bif B ((↑i:U)<(↑(r L):U))then K Ex.normal { n:=nat_lit 37,tm:=[((11:Z),MV.bool DT),((11:Z),MV.bool (B ((↑i:U)<(↑(r L):U)))),((10:Z),MV.int D0 (↑(r L):U)),((9:Z),MV.bs (0:Z) (0:Z) (r L)),((8:Z),MV.int D0 (↑i:U)),((3:Z),MV.bs (0:Z) (0:Z) (r L)),((4:Z),MV.int D0 (↑i:U))],bx:=[lP L pv a],np:=nat_lit 1 } else K (Ex.exit (0:Z)) { n:=nat_lit 37,tm:=[((11:Z),MV.bool DU),((11:Z),MV.bool (B ((↑i:U)<(↑(r L):U)))),((10:Z),MV.int D0 (↑(r L):U)),((9:Z),MV.bs (0:Z) (0:Z) (r L)),((8:Z),MV.int D0 (↑i:U)),((3:Z),MV.bs (0:Z) (0:Z) (r L)),((4:Z),MV.int D0 (↑i:U))],bx:=[lP L pv a],np:=nat_lit 1 })=bG (aK [] aC) (λ_=>C) (bR cpL) (cpS L pv a i) K:=by kernel_rfl
theorem bFm(L:V Stp)(pv a:Z->R)(i:Z)(K:Ex->MS->Prop):K .normal ⟨37, [(4,.int .i64 (i64.wrap (i+1))),(13,.int .i64 (i64.wrap (i+1))),(12,.int .i64 i),(3,.bs 0 0 L.length),(4,.int .i64 i)], [lP L pv a],1⟩=bG (aK [] aC) (λ_=>C) (aZ (aZ cpL)) (cpS L pv a i) K:=by kernel_rfl
theorem bFn(L:V Stp)(pv a:Z->R)(i:Z)(K:Ex->MS->Prop):K .ret ⟨37, [(2,.bs 0 0 L.length),(36,.bs 0 0 L.length),(3,.bs 0 0 L.length),(4,.int .i64 i)], [lP L pv a],1⟩=bG (aK [] aC) (λ_=>C) (aZ (aZ (aZ cpC))) (cpS L pv a i) K:=by kernel_rfl
def kQ(S:Z->Prop)(B:Base)(Q:Exit->Act->Y->Prop)(e:Ex)(s:MS):Prop:=∀c a w,St S B s c a w->Q e.out a w
theorem aFs{S:Z->Prop}{B:Base}{Q:Exit->Act->Y->Prop}{E:Env AB}{x:Code}{s:MS}{c:Ctx}{a:Act}{w:Y}(h:bG E (λ_=>C) x s (kQ S B Q))(b:St S B s c a w):x.wp AB Q a w :=
 bD bT x s _ c a w Q h b (λ_ _ c' a' w' q h=>q c' a' w' h) (λ_ _ _ _ h=>h.elim)
structure CpI (S:Nat->Prop) (w0:World) (b:Nat) (z:Sz) (L:List Stp) (pv bv:Nat->Value) (m i:Nat) (S1:Nat->Prop) (a:Act) (w:World):Prop where
 nest:NestR w0.heap.size S1 b z L pv bv m m w
 st:St S1 (Base.b1 w b z []) (cpS L pv bv i) (Ctx.b1 S1 b z) a w
 ext:Ext w0 w
 hb:w0.heap.size<=b
 sub:∀q,S q->S1 q
 sup:∀q,S1 q->S q\/w0.heap.size<=q
theorem Ext.b1{w0 w w':Y}{b:Z}{z:Sz}{d:V Deferred}(h:Ext w0 w)(hb:w0.heap.size<=b)(k:ExtB (Base.b1 w b z d) w'):Ext w0 w' :=
 ⟨k.os.trans h.os,k.output.trans h.output,AV h.size k.size,λi c=>(k.block i (AM c h.size) λe=>by have e:i=b:=e;omega).trans (h.block i c),λx a=>(k.frz x (AM a h.size)).trans (h.frz x a),k.tape.trans h.tape,AV h.dr k.dr⟩
theorem CpI.next{S:Z->Prop}{w0:Y}{b:Z}{z:Sz}{L:V Stp}{pv f:Z->R}{m i i':Z}{S1:Z->Prop}{a a':Act}{w w':Y}{c:Ctx}{tm:V (Z×MV)}(I:CpI S w0 b z L pv f m i S1 a w)(h:St S1 (Base.b1 w b z []) ⟨37,tm, [lP L pv f],1⟩ c a' w')(n:aW 3 tm= .bs 0 0 L.length)(l:aW 4 tm= .int .i64 i'):CpI S w0 b z L pv f m i' S1 a' w':=by
 have e:=h.mem.pin 0 b z ⟨rfl,rfl,rfl⟩;have g:∀q,S1 q->c.S q/\q≠b:=λq d=>⟨(h.mem.hS q).2 (.inl d),(I.nest.S0 q d).2⟩;have k:Rep c w' (.bs 0 0 L.length) (a'.tmps.getD 3 undef):=n ▸ h.tm 3;have j:Rep c w' (.int .i64 i') (a'.tmps.getD 4 undef):=l ▸ h.tm 4;exact⟨I.nest.frame h.mem.ext S1 (λq d=>d) (λq d=>.inl d) λq d=>⟨h.mem.Slt q (g q d).1,(g q d).2⟩,
  h.one (F':=kN L pv f) rfl e.1 e.2.1 e.2.2 S1 g (λ_ _ _ h=>h) (cpT L.length i') (fa (xI e.2.1 e.2.2 k) (fa (by rw[cL j];exact cG _ _) f0)),I.ext.b1 I.hb h.mem.ext,I.hb,I.sub,I.sup⟩
structure Copied (S:Nat->Prop) (w:World) (L:List Stp) (e:Ending) (w':World) (b cap:Nat) (S1:Nat->Prop) (pv bv:Nat->Value):Prop where
 res:e= .returned (.slice (some ⟨b,0,none⟩) L.length cap)
 hcap:L.length<=cap
 ext:Ext w w'
 hb:w.heap.size<=b
 nest:NestR w.heap.size S1 b ⟨cap*18,18⟩ L pv bv L.length L.length w'
 sub:∀q,S q->S1 q
 sup:∀q,S1 q->S q\/w.heap.size<=q
 box:BoxRep (Ctx.b1 S1 b ⟨cap*18,18⟩) w' 0 (lP L pv bv)
theorem aRm{c:Ctx}{w:Y}{L:V Stp}{j:Z}{f:V R}(h:RepC c w (aF L 200 j) f):∃p b,RepC c w (kN L (λ_=>p) (λ_=>b) j) f/\RepC c w (.sl 1 (L.getD j aB).parts.length (bJ (L.getD j aB).parts)) [p]/\RepC c w (.sl 2 (L.getD j aB).base.length (iL (L.getD j aB).base 200)) [b]:=by
 obtain⟨l,y1,rfl,r,k,y2,rfl,q,i,y3,rfl,e,g,y4,rfl,d,o⟩:=h;have t:∃v,i=[v]/\v.oneCell'=DT:=by
  obtain⟨a,cap,rfl,_⟩:=e;exact⟨_,rfl,rfl⟩
 have s:∃v,g=[v]/\v.oneCell'=DT:=by
  obtain⟨a,cap,rfl,_⟩:=d;exact⟨_,rfl,rfl⟩
 obtain⟨p,rfl,m⟩:=t;obtain⟨b,rfl,n⟩:=s;exact⟨p,b,⟨l,_,rfl,r,k,_,rfl,q, [p],_,rfl,⟨rfl,m⟩, [b],_,rfl,⟨rfl,n⟩,o⟩,e,d⟩
theorem aRn{c:Ctx}{w:Y}{L:V Stp}{arr:J R}(h:gY c w (.rows 18 L.length (aF L 200)) arr):∃pv g:Z->R,gY c w (.rows 18 L.length (kN L pv g)) arr/\
  ∀j,j<L.length->RepC c.elem w (.sl 1 (L.getD j aB).parts.length (bJ (L.getD j aB).parts)) [pv j]/\RepC c.elem w (.sl 2 (L.getD j aB).base.length (iL (L.getD j aB).base 200)) [g j]:=by
 have H:∀j:Z,∃y:R×R,j<L.length->(∃d,d.length=18/\RepC c.elem w (kN L (λ_=>y.1) (λ_=>y.2) j) d/\∀(k:Z) v,d[k]? =DV v->arr[j*18+k]? =DV v)/\
   RepC c.elem w (.sl 1 (L.getD j aB).parts.length (bJ (L.getD j aB).parts)) [y.1]/\RepC c.elem w (.sl 2 (L.getD j aB).base.length (iL (L.getD j aB).base 200)) [y.2]:=λj=>by
  by_cases a:j<L.length
  .obtain⟨d,o,n,m⟩:=h j a;obtain⟨p,b,l,s2,i⟩:=aRm n;exact⟨(p,b),λ_=>⟨⟨d,o,l,m⟩,s2,i⟩⟩
  .exact⟨(.nilFunc,.nilFunc),λh=>M h a⟩
 obtain⟨f,e⟩:=Classical.axiomOfChoice H;exact⟨λj=>(f j).1,λj=>(f j).2,λj a=>(e j a).1,λj a=>(e j a).2⟩
theorem bCS(a:Act)(w:Y):(results DC a.tmps).run AB w= .ok (a.tmps.getD 2 undef) w:=by
 simp[results,Tryz.results29]
set_option maxRecDepth 100000 in
theorem aQk{S:D1->Prop}{w:D4}{L:D2 Stp}{args:D5 D3}(V:okT L)(h0:0<L.length)(hS:∀b,S b->b<w.heap.size)(hG:GW S w)(ha:RepAll (B8 S) w [.sl 18 L.length (aF L 200)] args.toList) :
  Calls AB 29 args w λe w'=>∃b cap S1 pv f,Copied S w L e w' b cap S1 pv f:=by
 have u:=St.start (n:=37) hS hG ha (by simp);have hlen:=V.len;refine calls_of_wp Tryz.func29 rfl ?_;refine wp_seq (aFs (x:=bR cpC) (cast (bFi _ _ _) λc1 a1 w1 X=>?_) u);refine wp_seq (aFs (x:=bR (aZ cpC)) (cast (bFj _ _ _) ⟨⟨Z9 _,by show(0+L.length)*288<=_;omega⟩,λc2 a2 w2 A=>?_⟩) X);refine wp_seq (wp_seq (aFs (x:=bR (bR (aZ (aZ cpC)))) (cast (bFk L.length (aF L 200) _) λa J r d=>?_) (A.re [(3,.bs 0 0 L.length)] [⟨DU,.rows 18 L.length (aF L 200)⟩] (A.mem.setc (i:=0) (bc':= .rows 18 L.length (aF L 200)) rfl rfl λarr _ h i hi=>h i (by omega)) (fa (by have:=A.tm 3;rw[show aW 3 _=MV.bs 0 0 (0+L.length) from rfl,A3]at this;exact this) f0))));have Q:Rep a r (.bs 0 0 L.length) (J.tmps.getD 3 undef):=d.tm 3;obtain⟨a0,cap,e3,hcap,hd⟩:=iQ Q;obtain⟨s,hn⟩:a.live 0/\0+cap*(a.sz 0).wd=(a.sz 0).n:=hd.elim (λh=>h.2) λh=>D8 h.2.1 (by omega);obtain⟨arr,ty,q1,q2,C,q4⟩:=d.mem.box 0 _ s rfl;obtain⟨pv,f,R,E⟩:=aRn q4;have T:a.sz 0=⟨cap*18,18⟩:=by
  have C:(a.sz 0).wd=18:=C;rw[C]at hn;generalize a.sz 0=z at *;obtain⟨n,wd⟩:=z
  simp_all
 have N:a.S (a.β 0):=d.mem.WS _ ((d.mem.hW _).2 ⟨0,_,s,rfl,rfl,rfl⟩);have l:∀q,S q->a.S q/\q≠a.β 0:=λq c=>⟨(d.mem.hS q).2 (.inl c),λe=>d.mem.notS0 s (e ▸ c)⟩;have D:Keeps a.elem (Ctx.b1 S (a.β 0) ⟨cap*18,18⟩).elem r r:=⟨λq _ c=>(show S q\/q=a.β 0 from c).elim (λc=>(l q c).1) λe=>by rw[e];exact N,λ_ _ h=>h,λ_ h=>h.elim,λ_ _ _=>rfl,λ_ _ _=>rfl⟩;have W:=d.one' (F':=kN L pv f) rfl s rfl T S l (λ_ arr' ty' e _ j t=>by
  rw[q1]at e;simp only[Z1,Obj.cells.injEq]at e;obtain⟨cs,r1,r2,r3⟩:=R j t
  grind [BI,cpT,xI,cL,Rep,cG]) (cpT L.length 0) (fa (xI rfl T Q) (fa (by rw[cL (show Rep a r (.int .i64 0) (J.tmps.getD 4 undef) from d.tm 4)];exact cG _ _) f0))
 have hb:w.heap.size<=a.β 0:=(d.mem.fresh 0 s).1.elim id λh=>h.elim;have I0:CpI S w (a.β 0) ⟨cap*18,18⟩ L pv f 0 0 S J r:=⟨⟨λj h=>D8 h (AL j),λj h=>D8 h (AL j),λj _ t=>aAC (BI D _ _ (E j t).1),λj _ t=>aAC (BI D _ _ (E j t).2),λj _ h=>D8 h (AL j),λj _ h=>D8 h (AL j),
  λj k q _ h=>D8 h (AL k),λj k q _ h=>D8 h (AL k),λj k q h=>D8 h (AL j),λq c=>⟨d.mem.Slt q (l q c).1,(l q c).2⟩⟩,W,d.mem.ext.plain,hb,λq c=>c,λq c=>.inl c⟩
 generalize a.β 0=b at *;clear W R E D X A d;refine wp_block (wp_loop_ghost (λm a' w'=>∃i S1 pv f,m=L.length-i/\i<=L.length/\CpI S w b ⟨cap*18,18⟩ L pv f i i S1 a' w') L.length ⟨0,S,pv,f,rfl,Z9 _,I0⟩ ?_)
 rintro m a4 w4 ⟨i,S1,pv,f,rfl,hi,I⟩
 refine wp_seq (aFs (x:=bR cpL) (cast (bFl _ _ _ _ _) (aI Z4 (λhlt=>λc5 a5 P G=>?_) (λhge=>λc5 a5 P G=>?_))) I.st)
 .have I5:=I.next G rfl rfl;have g:i<L.length:=by omega
  have okj:=V.at i g;refine wp_seq (wp_block (wp_seq (wp_region_list ?_)));refine bIe (by kernel_rfl) I5.nest g I5.ext.size (by have:=okj.parts;omega) I5.st (λv S2 H y N6 p B s1 s2=>?_);refine wp_region_list ?_;refine bIf (by kernel_rfl) N6 g (AV I5.ext.size B.size) (by have:=okj.base;omega) p (λv2 S3 a7 Y N7 h7 e7 s3 s4=>?_);have O:=B.b1_trans e7;have I7:CpI S w b ⟨cap*18,18⟩ L (oI pv i v) (oI f i v2) (i+1) i S3 a7 Y:=⟨N7,h7,I5.ext.b1 I5.hb O,I5.hb,λq c=>s3 q (s1 q (I5.sub q c)),λq c=>by
   have:=I5.ext.size;have:=B.size;rcases s4 q c with h|h
   .rcases s2 q h with h|h
    .exact I5.sup q h
    omega
   .have F:P.heap.size<=y.heap.size:=B.size;omega⟩
  refine aFs (x:=aZ (aZ cpL)) (cast (bFm _ _ _ _ _) λc8 a8 w8 F=>?_) I7.st;have e4:D9 D0 ((i:EA)+1)=((i+1:D1):EA):=by rw[aT (by omega) (by omega)];omega
  rw[e4]at F;exact⟨L.length-(i+1),by omega,i+1,S3,_,_,rfl,g,I7.next F rfl rfl⟩
 .have I5:=I.next G rfl rfl;have K:i=L.length:=by omega
  subst K;refine aFs (x:=aZ (aZ (aZ cpC))) (cast (bFn _ _ _ _ _) λc6 H y p=>?_) I5.st;have Z:Rep c6 y (.bs 0 0 L.length) (H.tmps.getD 2 undef):=p.tm 2;have U:=p.mem.pin 0 b _ ⟨rfl,rfl,rfl⟩;have I6:=I5.next p rfl rfl;obtain⟨a1,cap1,e1,M,hd1⟩:=iQ Z;rcases hd1 with ⟨hd1,_,o⟩|hd1
  .rw[U.2.1]at hd1;rw[U.2.2]at o;have o:0+cap1*18=cap*18:=o;obtain rfl:cap1=cap:=by omega
   exact⟨p.defers,_,bCS H y,b,cap1,S1,pv,f,by rw[e1,hd1],M,I6.ext,I6.hb,I6.nest,I6.sub,I6.sup,I6.st.mem.box 0 _ rfl rfl⟩
  omega
def Ctr.or{P:E}(a b:Ctr P)(h:b.f=a.f):Ctr P where
 f:=a.f
 spec:=λc=>match a.spec c with
  |some x=>DV x
  |none=>b.spec c
 call:=a.call
 ok:=by
  intro S w c args p r d;cases e:a.spec c with
  |some x =>
   rw[e]at d;exact a.ok S w c args p r (by rw[e];exact d)
  |none =>
   rw[e]at d;rw[<-h];exact b.ok S w c args p r d
def zM(a pt y:U):MV:= .st [.int .u8 a,.int .u8 pt,.int .i64 y]
def chX(L:V Stp)(pv b:Z->R)(s:Stp)(a pt y:U):V Box:=[⟨DU,.one (zM a pt y)⟩,lP L pv b,⟨DU,.arr .i64 s.parts⟩,⟨DU,.rows 2 s.base.length (iL s.base 200)⟩]
def sM(s:Stp):MV:= .st [.int .i64 s.kind,.st [.bool s.neg,.ws s.mag],.bs 2 0 s.parts.length,.bs 3 0 s.base.length,.st [.big s.ca 200,.big s.cb 200,.big s.cm 200],.st [.big s.x 200,.big s.y 200,.bool s.inf],.big s.ord 200]
def chS(s:Stp)(L:V Stp)(pv b:Z->R)(i:Z)(a pt y p:U):MS:=⟨190, [(3,.bp 0 0),(5,.bs 1 0 L.length),(6,.int .i64 i),(7,.bp 4 0),(26,.int .u8 p)],
 chX L pv b s a pt y++[⟨DU,.one (sM s)⟩],2⟩
theorem St.fresh{S1:Z->Prop}{w:Y}{bx:V Box}{β:Z->Z}{sz:Z->Sz}{live:Z->Prop}{n np:Z}{tm:V (Z×MV)}{a:Act}(f:∀i,live i->i<bx.length/\β i<w.heap.size/\¬S1 (β i))(inj:∀i j,live i->live j->β i=β j->i=j)(u:∀q,S1 q->q<w.heap.size)(s:GW (λq=>S1 q\/∃i,live i/\β i=q) w)(d:∀i b,live i->aR bx i=DV b->BoxRep (cJ S1 bx live β sz) w i b)(o:∀p∈tm,Rep (cJ S1 bx live β sz) w p.2 (a.tmps.getD p.1 undef))(r:a.tmps.size=n)(pin:Z->Z->Sz->Prop)(c:∀i b z,pin i b z->live i/\β i=b/\sz i=z/\qQ np i=DT) :
  St S1 ⟨w,λq=>∃i,live i/\β i=q,pin,a.defers⟩ ⟨n,tm,bx,np⟩ (cJ S1 bx live β sz) a w :=
 ⟨⟨⟨rfl,rfl,Z0 _,λ_ _ _=>rfl,λ_ _=>rfl,rfl,Z0 _⟩,λq e=>⟨u q e,λ⟨i,m,l⟩=>(f i m).2.2 (l ▸ e)⟩,⟨s.sub λq e=>.inl e,λg t ⟨i,m,l⟩=>(s g t).1 (.inr ⟨i,m,l⟩)⟩,λ_=>Iff.rfl,λ_=>Iff.rfl,inj,λi k=>⟨.inr ⟨i,k,rfl⟩,(f i k).2.1,(f i k).1⟩,d,λi b z h=>⟨(c i b z h).1,(c i b z h).2.1,(c i b z h).2.2.1⟩⟩,
  aLE tm o,r,rfl,λi b z h=>(c i b z h).2.2.2⟩
structure FieldsOk (s:Stp) (C A O:MV) (P:List Int) (lp lb lb':Nat) (G:Nat->MV):Prop where
 hC:fN 0 C (.st [.big s.ca 200,.big s.cb 200,.big s.cm 200])
 hA:fN 0 A (.st [.big s.x 200,.big s.y 200,.bool s.inf])
 hO:fN 0 O (.big s.ord 200)
 hP:P.take lp=s.parts
 hp:lp=s.parts.length
 hb:lb=s.base.length
 hle:lb<=lb'
 hB:LeFun lb G (iL s.base 200)
theorem fieldsOf{s:Stp}{C A O:MV}{P:V U}{a lb lb':Z}{G:Z->MV}(g:fN 0 C (.st [.big s.ca 200,.big s.cb 200,.big s.cm 200]))(i:fN 0 A (.st [.big s.x 200,.big s.y 200,.bool s.inf]))(f:fN 0 O (.big s.ord 200))(e:P.take a=s.parts)(c:a=s.parts.length)(d:lb=s.base.length)(b:lb<=lb')(h:LeFun lb G (iL s.base 200)):FieldsOk s C A O P a lb lb' G:=⟨g,i,f,e,c,d,b,h⟩
section
section
variable {P:Program} {ops:Array Oper} {Q:Exit->Act->World->Prop} {S:World->Prop} {t:Nat}
def tK(P:E)(ops:J A)(Q:Exit->Act->Y->Prop)(S:Y->Prop)(t:Z):Z->J N->Act->Y->Prop
 |0,listed,a,w=>AZ .any ops listed=[]/\Q .normal a w
 |fuel+1,listed,a,w=>(AZ .any ops listed=[]->Q .normal a w)/\
  ∀i∈AZ .any ops listed,wpOp P ops Q i (λa' w'=>(i≠t->S w')/\tK P ops Q S t fuel (listed.setIfInBounds i DT) a' w') a w
theorem aFq:∀(fuel:Z) (listed:J N) (a:Act) (w:Y),tK P ops Q S t fuel listed a w->wpAny P .any ops Q fuel listed a w
 |0,_,_,_,h=>h
 |fuel+1,_,_,_,h=>⟨h.1,λi b=>wpOp_mono (λa' w' h'=>aFq fuel _ a' w' h'.2) (h.2 i b)⟩
theorem aJj{i:Z}{u:D6}{v:D3}(G:ops[i]? =DV u)(p:∀(j:Z) (o:D6) B b,ops[j]? =DV o->o.op≠ .select B b)(X:∀c a w,Q (.panic c) (a.put u.dst v) w->Q (.panic c) a w)(T:∀listed:D5 Bool,listed.getD i DT=DU->t ∉ AZ .any ops listed)(hit:i≠t) :
  ∀(fuel:Z) (listed:D5 Bool) (a:Act) (w:D4),
   (∀j r,ops[j]? =DV r->j≠i->listed.getD j DT=DU->(∀e∈r.after,B0 .any e=DT->e.on≠i)->u.apart ops r=DT)->
   i∈AZ .any ops listed->YieldsIf P ops S u v a->S w->
   tK P ops Q S t fuel (listed.setIfInBounds i DT) (a.put u.dst v) w->tK P ops Q S t (fuel+1) listed a w:=by
 intro fuel
 induction fuel with
 |zero =>
  intro listed a w _ l F A H;refine⟨λh=>(by rw[h]at l;cases l),λj z=>?_⟩;by_cases d:j=i
  .subst d;exact F.wpOp G A ⟨λ_=>A,H⟩
  .have:=ready_mono z d;rw[H.1]at this;cases this
 |succ fuel R =>
  intro listed a w f l F A H;refine⟨λh=>(by rw[h]at l;cases l),λj z=>?_⟩;by_cases d:j=i
  .subst d;exact F.wpOp G A ⟨λ_=>A,H⟩
  .have O:=H.2 j (ready_mono z d);obtain⟨q,r,x,E⟩:=CC.1 z;have C:j≠t:=λe=>T listed (CC.1 l).1 (e ▸ z);have D:∀e∈r.after,B0 .any e=DT->e.on≠i:=λe V W heq=>by
    have O:=E e V W;have h0:=(CC.1 l).1
    grind
   have Y:=wpOp_putIf x (f j r x d q D) (λB b=>p i u B b G) (λB b=>p j r B b x) X F O;have g:∀k ok,ops[k]? =DV ok->k≠i->(listed.setIfInBounds j DT).getD k DT=DU->
     (∀e∈ok.after,B0 .any e=DT->e.on≠i)->u.apart ops ok=DT:=λk ok U M hun J=>by
    refine f k ok U M ?_ J;by_cases N:j=k
    .subst N;exact q
    .simp_all
   refine wpOp_mono (λa' w' I=>⟨λ_=>I.2.1 C,R (listed.setIfInBounds j DT) a' w' g (ready_mono l (Ne.symm d)) I.1 (I.2.1 C) ?_⟩) Y
   grind [Array.setIfInBounds_comm]
theorem hH{i:Z}{b:A}{v:R}{fuel:Z}{listed:J N}{a:Act}{w:Y}(e:ops[i]? =DV b)(j:CW ops=DT)(l:Region.free .any ops listed i=DT)(k:(AZ .any ops listed).contains i=DT)(p:∀c a w,Q (.panic c) (a.put b.dst v) w->Q (.panic c) a w)(g:∀listed:J N,listed.getD i DT=DU->t ∉ AZ .any ops listed)(d:i≠t)(f:YieldsIf P ops S b v a)(o:S w)(h:tK P ops Q S t fuel (listed.setIfInBounds i DT) (a.put b.dst v) w):tK P ops Q S t (fuel+1) listed a w :=
 aJj e (Region.noSelect_spec j) p g d fuel listed a w (Region.free_spec e l) (by simpa using k) f o h
theorem aFp{rs:V Z}{fuel:Z}{listed:J N}{a:Act}{w:Y}(c:AZ .any ops listed=rs)(b:rs≠ [])(h:∀i∈rs,wpOp P ops Q i (λa' w'=>(i≠t->S w')/\tK P ops Q S t fuel (listed.setIfInBounds i DT) a' w') a w):tK P ops Q S t (fuel+1) listed a w :=
 ⟨λd=>M (c ▸ d) b,c ▸ h⟩
theorem aLL{listed:J N}{a:Act}{w:Y}(b:AZ .any ops listed=[])(h:Q .normal a w):∀fuel,tK P ops Q S t fuel listed a w
 |0=>⟨b,h⟩
 |_+1=>⟨λ_=>h,by rw[b];simp⟩
theorem m9{i:Z}(he:(match ops[t]? with|some o=>o.after.toList.any λe=>B0 .any e&&e.on.beq i|none=>DT)=DT)(listed:J N)(hl:listed.getD i DT=DU):t ∉ AZ .any ops listed:=λa=>by
 obtain⟨_,o2,h2,hall⟩:=CC.1 a
 grind [C7,DR]
end
def bEX(f:Func)(id:Z):J A:=match f.body with
 |some c=>(match zZ id c with
  |some x=>x
  |none=>#[])
 |none=>#[]
def sW(s:Stp)(m:R):MV:= .st [.int .i64 s.kind,.st [.bool s.neg,.val m],.bs 2 0 s.parts.length,.bs 3 0 s.base.length,.st [.big s.ca 200,.big s.cb 200,.big s.cm 200],.st [.big s.x 200,.big s.y 200,.bool s.inf],.big s.ord 200]
def wX(s:Stp)(L:V Stp)(pv bv:Z->R)(st pt y:U)(m:R):V Box:=chX L pv bv s st pt y++[⟨DU,.one (sW s m)⟩]
def wS(T:V (Z×MV))(s:Stp)(L:V Stp)(pv bv:Z->R)(st pt y:U)(m:R)(X:V Box):MS:=⟨190,T,wX s L pv bv st pt y m++X,5⟩
section
variable (s:Stp) (L:List Stp) (pv bv:Nat->Value) (n i:Nat) (st pt y:Int) (m:Value) (K:MS->Prop)
end
def wl(a b c d:N)(n:N):J N:=#[DT,DT,DT,a,DT,DT,DT,b,c,d,n,n,DU]
set_option maxRecDepth 100000 in
end
def dO:J A:=bEX Tryz.f11 7
def dum : Oper := ⟨none, .move (.tmp 0), 0, "", #[], none⟩
def dOp(k:Z):A:=(aR dO.toList k).getD dum
theorem aB4:CW dO=DT:=by kernel_rfl
theorem bCV:dO.size=10:=by kernel_rfl
structure isOp (k:Nat) (d:Nat) (op:Op):Prop where
 at_:dO[k]? =some (dOp k)
 dst:(dOp k).dst=some d
 op_:(dOp k).op=op
 gd:(dOp k).guard=none
theorem d0:isOp 0 27 (.move (.tmp 5)):=⟨by kernel_rfl,by kernel_rfl,by kernel_rfl,by kernel_rfl⟩
theorem d1:isOp 1 28 (.move (.tmp 6)):=⟨by kernel_rfl,by kernel_rfl,by kernel_rfl,by kernel_rfl⟩
theorem d2:isOp 2 29 (.move (.tmp 6)):=⟨by kernel_rfl,by kernel_rfl,by kernel_rfl,by kernel_rfl⟩
theorem d3:isOp 3 30 (.slice 29 (.tmp 27) DW (DV (.tmp 28)) (DV (.tmp 29))):=⟨by kernel_rfl,by kernel_rfl,by kernel_rfl,by kernel_rfl⟩
theorem d4:isOp 4 31 (.move (.tmp 5)):=⟨by kernel_rfl,by kernel_rfl,by kernel_rfl,by kernel_rfl⟩
theorem d5:isOp 5 32 (.move (.tmp 6)):=⟨by kernel_rfl,by kernel_rfl,by kernel_rfl,by kernel_rfl⟩
theorem d6:isOp 6 33 (.binOp .add 3 (.tmp 32) (.const (.int .i64 1)) 3):=⟨by kernel_rfl,by kernel_rfl,by kernel_rfl,by kernel_rfl⟩
theorem d7:isOp 7 34 (.slice 29 (.tmp 31) (DV (.tmp 33)) DW DW):=⟨by kernel_rfl,by kernel_rfl,by kernel_rfl,by kernel_rfl⟩
theorem d8:isOp 8 35 (.call ⟨.builtin .append,#[.tmp 30,.tmp 34],#[29,29]⟩):=⟨by kernel_rfl,by kernel_rfl,by kernel_rfl,by kernel_rfl⟩
theorem d9:isOp 9 4 (.assign (.tmp 35)):=⟨by kernel_rfl,by kernel_rfl,by kernel_rfl,by kernel_rfl⟩
theorem aLM{S:Y->Prop}{k d:Z}{op:Op}(h:isOp k d op){a:Act}{v:R}(b:∀w,(execOp a.eval (dOp k)).run AB w= .ok (.value v) w):YieldsIf AB dO S (dOp k) v a:= .inl ⟨by simp[CI,h.gd],λw _=>b w⟩
theorem aFw{k d:Z}{x:Operand}(h:isOp k d (.move x))(a:Act)(w:Y):(execOp a.eval (dOp k)).run AB w= .ok (.value (a.eval x)) w:=by
 simp only[execOp,h.op_];simp
theorem aPY{k d:Z}{t:T}{x:Operand}{c e b:DX Operand}(h:isOp k d (.slice t x c e b)){a:Act}{w:Y}{v:R}(f:(Instr.sliceAt t (a.eval x) (c.map a.eval) (e.map a.eval) (b.map a.eval)).run AB w= .ok v w):(execOp a.eval (dOp k)).run AB w= .ok (.value v) w:=by
 simp only[execOp,h.op_];simp[f]
theorem bHO{a:Act}{w:Y}{n:U}(b:a.tmps.getD 32 undef= .int .i64 n):(execOp a.eval (dOp 6)).run AB w= .ok (.value (.int .i64 (i64.wrap (n+1)))) w:=by
 have e:a.eval (.tmp 32)= .int .i64 n:=b;have g:a.eval (.const (.int .i64 1))= .int .i64 1:=rfl;obtain⟨z,d,f⟩:=aKa (P:=AB) (op:= .add) (t:=3) (x:= .int .i64 n) (y:= .int .i64 1) (p:=none) (m:= .int .i64 (i64.wrap (n+1))) rfl trivial (c:=B8 λ_=>C) (w:=w) (cG _ _) (cG _ _);rw[cL f]at d;simp only[execOp,d6.op_,e,g];rfl
theorem qK:Tryz.prog.underlying 29=DV (.slice 47):=by kernel_rfl
theorem bIF{a:Act}{w:Y}{b n cap i:Z}(g:a.tmps.getD 27 undef= .slice (DV ⟨b,0,DW⟩) n cap)(f:a.tmps.getD 28 undef= .int .i64 i)(e:a.tmps.getD 29 undef= .int .i64 i)(hi:i<=cap):(execOp a.eval (dOp 3)).run AB w= .ok (.value (.slice (DV ⟨b,0,DW⟩) i i)) w:=by
 refine aPY d3 ?_;have k:a.eval (.tmp 27)= .slice (DV ⟨b,0,DW⟩) n cap:=g;have j:a.eval (.tmp 28)= .int .i64 i:=f;have h:a.eval (.tmp 29)= .int .i64 i:=e;have c:Tryz.prog.underlying 29=DV (.slice (Tryz.prog.elem 29)):=by rw[lS qK];exact qK
 obtain⟨agg,size,d⟩:∃agg size,eE AB (Tryz.prog.elem 29)=DV (agg,size):=⟨DT,18,by rw[lS qK];kernel_rfl⟩;simp only[k,j,h,CA,CX];rw[run_sliceAt_slice (P:=AB) w 29 _ _ _ _ c,run_slice_hm (P:=AB) w 29 _ n cap c .i64 .i64 i i (by omega) (by omega) (by omega),bL d];simp[Result.andThen,sliced,Addr.add]
theorem bIG{a:Act}{w:Y}{b n cap i:Z}(f:a.tmps.getD 31 undef= .slice (DV ⟨b,0,DW⟩) n cap)(e:a.tmps.getD 33 undef= .int .i64 ((i+1:Z):U))(hi:i<n)(hc:n<=cap):(execOp a.eval (dOp 7)).run AB w= .ok (.value (.slice (DV ⟨b,if cap=i+1 then 0 else (i+1)*18,DW⟩) (n-(i+1)) (cap-(i+1)))) w:=by
 refine aPY d7 ?_;have h:a.eval (.tmp 31)= .slice (DV ⟨b,0,DW⟩) n cap:=f;have g:a.eval (.tmp 33)= .int .i64 ((i+1:Z):U):=e;have c:Tryz.prog.underlying 29=DV (.slice (Tryz.prog.elem 29)):=by rw[lS qK];exact qK
 have d:eE AB (Tryz.prog.elem 29)=DV (DT,18):=by rw[lS qK];kernel_rfl
 simp only[h,g,CA,CX];rw[run_sliceAt_slice (P:=AB) w 29 _ _ _ _ c,run_slice_l (P:=AB) w 29 _ n cap c .i64 _ (by omega) (by omega),bL d,Z8];simp only[Result.andThen,sliced];split<;>simp[Addr.add]
theorem aZ8{n i j:Z}(hi:i<n)(hj:j<n-1):(if j<i then j else j+1)<n:=by split<;>omega
theorem aAy{a:Act}{t:Z}{v:R}(h:t<a.tmps.size):(a.put (DV t) v).tmps.getD t undef=v:=by
 simp[BE,Array.getD_eq_getD_getElem?,h]
theorem aVE{a:Act}{t:Z}{v:R}:(a.put (DV t) v).tmps.size=a.tmps.size:=by simp[BE]
def bF6(c:Ctx)(L:V Stp)(pv d:Z->R)(i:Z)(w w':Y)(v:R):Prop :=
 ∃b cap,v= .slice b (L.length-1) cap/\L.length-1<=cap/\(0<L.length-1->∃b',b=DV ⟨b',0,DW⟩/\(b'=c.β 1\/w.heap.size<=b')/\
  ∀j,j<L.length-1->∃a,RepC c.elem w (kN L pv d (if j<i then j else j+1)) a/\a.length=18/\seg w' b' (j*18) a)
theorem bGI{a:Act}{w:Y}{b n cap i:Z}{arr:J R}{ty:T}(r:a.tmps.getD 30 undef= .slice (DV ⟨b,0,DW⟩) i i)(E:a.tmps.getD 34 undef= .slice (DV ⟨b,if cap=i+1 then 0 else (i+1)*18,DW⟩) (n-(i+1)) (cap-(i+1)))(hi:i<n)(hc:n<=cap)(hn:n<=1000000)(D:w.heap[b]? =DV (.cells arr ty (0,0)))(y:arr.size=cap*18) :
  ∃v w',(execOp a.eval (dOp 8)).run AB w= .ok (.value v) w'/\Ext w w'/\∃B cap',v= .slice B (n-1) cap'/\n-1<=cap'/\(0<n-1->∃b',B=DV ⟨b',0,DW⟩/\(b'=b\/w.heap.size<=b')/\
   ∀j e,j<n-1->e.length=18->(∀(k:Z) u,e[k]? =DV u->arr[(if j<i then j else j+1)*18+k]? =DV u)->seg w' b' (j*18) e):=by
 have A:a.eval (.tmp 30)= .slice (DV ⟨b,0,DW⟩) i i:=r;have p:a.eval (.tmp 34)= .slice (DV ⟨b,if cap=i+1 then 0 else (i+1)*18,DW⟩) (n-(i+1)) (cap-(i+1)):=E;obtain⟨c,f,g,x,q⟩:∃c,Tryz.prog.info? 47=DV c/\c.size=18/\c.bytes<=1000/\∃z,c.zero=DV z:=by
  have:(Tryz.prog.info? 47).map (λt=>(t.size,t.bytes,t.zero.isSome))=DV (18,288,DT):=by kernel_rfl
  cases h:Tryz.prog.info? 47 with
  |none=>rw[h]at this;simp at this
  |some c =>
   grind [Z1,Z2,Option.isSome_iff_exists]
 obtain⟨z,q⟩:=q;by_cases d:n-(i+1)=0
 .refine⟨.slice (DV ⟨b,0,DW⟩) i i,w,?_,Ext.refl w,DV ⟨b,0,DW⟩,i,by rw[show n-1=i by omega],by omega,λ_=>⟨b,rfl,.inl rfl,λj e C _ s=>⟨arr,ty,_,D,λk u o=>?_⟩⟩⟩
  .simp only[execOp,d8.op_];rw[d]at p;simp[resolve,invoke,builtin,A,p,nM (P:=AB) w 29 (dOp 8).type 47 c qK f _ _ i i _ (Z0 i)]
  grind
 .have m:¬cap=i+1:=by omega
  rw[W m]at p;have hcell:∀j u,arr[j]? =DV u->w.cell? ⟨b,j,DW⟩=DV u:=λj u o=>by
   unfold BQ
   simp_all
  have l:=run_append_grow (P:=AB) w 29 (dOp 8).type 47 c z qK f q ⟨b,0,DW⟩ i i (arr.toList.take (i*18)) (by rw[g,AG,CU,y];have:i*18<=cap*18:=Nat.mul_le_mul_right _ (by omega);omega)
   (λj u o=>by
    grind [gJ])
   ⟨b,(i+1)*18,DW⟩ (n-(i+1)) (cap-(i+1)) ((arr.toList.drop ((i+1)*18)).take ((n-(i+1))*18)) (by rw[g,AG,CB,CU,y];omega)
   (λj u o=>by
    grind [gJ,BS]) (by omega) (by omega) (growslice_fits (by omega) (by
    have r:i+(n-(i+1))<=1000000:=by omega
    have:=BS r x;omega))
  have hgc:=grownCap_ge w (i+(n-(i+1))) i 47;refine⟨_,_,by
   simp only[execOp,d8.op_];simp[resolve,invoke,builtin,A,p,l];exact⟨rfl,rfl⟩,(Ext.drew w).trans (Ext.alloc w.drew _ _),DV ⟨w.heap.size,0,DW⟩,_,by rw[show n-1=i+(n-(i+1)) by omega],by omega,λ_=>⟨w.heap.size,rfl,.inr (Z0 _),λj e C hcl s=>⟨_,_,_,dE w.drew _ _,λk u o=>?_⟩⟩⟩
  grind
set_option maxRecDepth 100000 in
set_option maxHeartbeats 4000000 in
theorem r7{S2:D1->Prop}{B:Base}{s:Stp}{L:D2 Stp}{pv bv:D1->D3}{i:D1}{f pt y p:EA}{c:Ctx}{a:Act}{w:D4}{Q:Exit->Act->D4->Prop}{ops:D5 D6}(ho:ops.toList=dO.toList)(g:∀ch a d v w,Q (.panic ch) (BE a d v) w->Q (.panic ch) a w)(h:St S2 B (chS s L pv bv i f pt y p) c a w)(J:i<L.length)(H:L.length<=1000000)(hQ:∀a' w' v,a'.tmps.getD 4 undef=v->a'.defers=a.defers->Ext w w'->bF6 c L pv bv i w w' v->Q .normal a' w'):(Code.region 7 ops DT).wp AB Q a w:=by
 obtain rfl:ops=dO:=DJ ho;obtain⟨a0,cap,Z,z,X⟩:=iQ (show Rep c w (.bs 1 0 L.length) (a.tmps.getD 5 undef) from h.tm 5);obtain⟨T,l1,hz⟩:a0=DV ⟨c.β 1,0,DW⟩/\c.live 1/\0+cap*(c.sz 1).wd=(c.sz 1).n:=X.elim id λh=>D8 h.2.1 (by omega);subst T;have Y:=cL (show Rep c w (.int .i64 i) (a.tmps.getD 6 undef) from h.tm 6);obtain⟨arr,ty,q1,q2,W,q4⟩:=h.mem.box 1 _ l1 rfl;have hs:arr.size=cap*18:=by
  have W:(c.sz 1).wd=18:=W
  simp_all
 have e:Ext w { w with drawn:=w.drawn+1 }:=⟨rfl,rfl,Z0 _,λ_ _=>rfl,λ_ _=>rfl,rfl,Z9 _⟩;have hh:({ w with drawn:=w.drawn+1 }:D4).heap[c.β 1]? =DV (.cells arr ty (0,0)):=q1;obtain⟨O,P⟩:=h.mem.grow e;have C:=h.keepTm P O rfl rfl rfl;refine wp_region_any bT (aFq (S:=λ_=>True) (t:=9) _ _ _ _ ?_);rw[bCV];have N:({ w with drawn:=w.drawn+1 }:D4).heap.size=w.heap.size:=rfl;generalize ({ w with drawn:=w.drawn+1 }:D4)=b at *;have V:∀v:D3,v.oneCell'=DT->Rep c b (.val v) v:=λv hv=>aU rfl (by simp) rfl ⟨rfl,hv⟩;have x:=C.re [(5,.val (.slice (DV ⟨c.β 1,0,DW⟩) L.length cap)),(6,.val (.int .i64 i))] _ C.mem (fa (by rw[Z];exact V _ rfl) (fa (by rw[Y];exact V _ rfl) f0));have R:=h.defers;clear C h Z Y X;have ew:i64.wrap ((i:EA)+1)=((i+1:D1):EA):=by rw[aT (by omega) (by omega)];omega
 have E5:=(dF (show Rep c b (.val (.slice (DV ⟨c.β 1,0,DW⟩) L.length cap)) (AO _ 5 undef) from x.tm 5)).1;have E6:=(dF (show Rep c b (.val (.int .i64 i)) (AO _ 6 undef) from x.tm 6)).1;refine hH (i:=0) d0.at_ aB4 (by kernel_rfl) (by kernel_rfl) (λ_ _ _ h=>g _ _ _ _ _ h) (m9 (by kernel_rfl)) (by decide) (aLM d0 (v:= .slice (DV ⟨c.β 1,0,DW⟩) L.length cap) λw=>(aFw d0 _ w).trans (by rw[show BT _ (.tmp 5)=_ from E5])) ⟨⟩ ?_;rw[d0.dst];have f:=x.putO (t:=some 27) rfl (V (.slice (DV ⟨c.β 1,0,DW⟩) L.length cap) rfl);clear x
 revert f
 generalize BE _ (DV 27) _=a0;intro u;clear E5 E6;have E5:=(dF (show Rep c b (.val (.slice (DV ⟨c.β 1,0,DW⟩) L.length cap)) (AO _ 5 undef) from u.tm 5)).1;have E6:=(dF (show Rep c b (.val (.int .i64 i)) (AO _ 6 undef) from u.tm 6)).1;refine hH (i:=1) d1.at_ aB4 (by kernel_rfl) (by kernel_rfl) (λ_ _ _ h=>g _ _ _ _ _ h) (m9 (by kernel_rfl)) (by decide) (aLM d1 (v:= .int .i64 i) λw=>(aFw d1 _ w).trans (by rw[show BT _ (.tmp 6)=_ from E6])) ⟨⟩ ?_;rw[d1.dst];have f:=u.putO (t:=some 28) rfl (V (.int .i64 i) rfl);clear u
 revert f
 generalize BE _ (DV 28) _=a1;intro r;clear E5 E6;have E5:=(dF (show Rep c b (.val (.slice (DV ⟨c.β 1,0,DW⟩) L.length cap)) (AO _ 5 undef) from r.tm 5)).1;have E6:=(dF (show Rep c b (.val (.int .i64 i)) (AO _ 6 undef) from r.tm 6)).1;refine hH (i:=2) d2.at_ aB4 (by kernel_rfl) (by kernel_rfl) (λ_ _ _ h=>g _ _ _ _ _ h) (m9 (by kernel_rfl)) (by decide) (aLM d2 (v:= .int .i64 i) λw=>(aFw d2 _ w).trans (by rw[show BT _ (.tmp 6)=_ from E6])) ⟨⟩ ?_;rw[d2.dst];have f:=r.putO (t:=some 29) rfl (V (.int .i64 i) rfl);clear r
 revert f
 generalize BE _ (DV 29) _=a2;intro k;clear E5 E6;have E27:=(dF (show Rep c b (.val (.slice (DV ⟨c.β 1,0,DW⟩) L.length cap)) (AO _ 27 undef) from k.tm 27)).1;have E28:=(dF (show Rep c b (.val (.int .i64 i)) (AO _ 28 undef) from k.tm 28)).1;have E29:=(dF (show Rep c b (.val (.int .i64 i)) (AO _ 29 undef) from k.tm 29)).1;refine hH (i:=3) d3.at_ aB4 (by kernel_rfl) (by kernel_rfl) (λ_ _ _ h=>g _ _ _ _ _ h) (m9 (by kernel_rfl)) (by decide) (aLM d3 (v:= .slice (DV ⟨c.β 1,0,DW⟩) i i) λw=>bIF E27 E28 E29 (by omega)) ⟨⟩ ?_;rw[d3.dst];have f:=k.putO (t:=some 30) rfl (V (.slice (DV ⟨c.β 1,0,DW⟩) i i) rfl);clear k
 revert f
 generalize BE _ (DV 30) _=a3;intro q;clear E27 E28 E29;have E5:=(dF (show Rep c b (.val (.slice (DV ⟨c.β 1,0,DW⟩) L.length cap)) (AO _ 5 undef) from q.tm 5)).1;have E6:=(dF (show Rep c b (.val (.int .i64 i)) (AO _ 6 undef) from q.tm 6)).1;refine hH (i:=4) d4.at_ aB4 (by kernel_rfl) (by kernel_rfl) (λ_ _ _ h=>g _ _ _ _ _ h) (m9 (by kernel_rfl)) (by decide) (aLM d4 (v:= .slice (DV ⟨c.β 1,0,DW⟩) L.length cap) λw=>(aFw d4 _ w).trans (by rw[show BT _ (.tmp 5)=_ from E5])) ⟨⟩ ?_;rw[d4.dst];have f:=q.putO (t:=some 31) rfl (V (.slice (DV ⟨c.β 1,0,DW⟩) L.length cap) rfl);clear q
 revert f
 generalize BE _ (DV 31) _=a4;intro o;clear E5 E6;have E5:=(dF (show Rep c b (.val (.slice (DV ⟨c.β 1,0,DW⟩) L.length cap)) (AO _ 5 undef) from o.tm 5)).1;have E6:=(dF (show Rep c b (.val (.int .i64 i)) (AO _ 6 undef) from o.tm 6)).1;refine hH (i:=5) d5.at_ aB4 (by kernel_rfl) (by kernel_rfl) (λ_ _ _ h=>g _ _ _ _ _ h) (m9 (by kernel_rfl)) (by decide) (aLM d5 (v:= .int .i64 i) λw=>(aFw d5 _ w).trans (by rw[show BT _ (.tmp 6)=_ from E6])) ⟨⟩ ?_;rw[d5.dst];have f:=o.putO (t:=some 32) rfl (V (.int .i64 i) rfl);clear o
 revert f
 generalize BE _ (DV 32) _=a5;intro A;clear E5 E6;have E32:=(dF (show Rep c b (.val (.int .i64 i)) (AO _ 32 undef) from A.tm 32)).1;refine hH (i:=6) d6.at_ aB4 (by kernel_rfl) (by kernel_rfl) (λ_ _ _ h=>g _ _ _ _ _ h) (m9 (by kernel_rfl)) (by decide) (aLM d6 (v:= .int .i64 ((i+1:D1):EA)) λw=>(bHO (n:=i) E32).trans (by rw[ew])) ⟨⟩ ?_;rw[d6.dst];have f:=A.putO (t:=some 33) rfl (V (.int .i64 ((i+1:D1):EA)) rfl);clear A
 revert f
 generalize BE _ (DV 33) _=a6;intro m;clear E32;have E31:=(dF (show Rep c b (.val (.slice (DV ⟨c.β 1,0,DW⟩) L.length cap)) (AO _ 31 undef) from m.tm 31)).1;have E33:=(dF (show Rep c b (.val (.int .i64 ((i+1:D1):EA))) (AO _ 33 undef) from m.tm 33)).1;refine hH (i:=7) d7.at_ aB4 (by kernel_rfl) (by kernel_rfl) (λ_ _ _ h=>g _ _ _ _ _ h) (m9 (by kernel_rfl)) (by decide) (aLM d7 (v:= .slice (DV ⟨c.β 1,if cap=i+1 then 0 else (i+1)*18,DW⟩) (L.length-(i+1)) (cap-(i+1))) λw=>bIG E31 E33 J z) ⟨⟩ ?_;rw[d7.dst];have f:=m.putO (t:=some 34) rfl (V (.slice (DV ⟨c.β 1,if cap=i+1 then 0 else (i+1)*18,DW⟩) (L.length-(i+1)) (cap-(i+1))) rfl);clear m
 revert f
 generalize BE _ (DV 34) _=a7;intro l;clear E31 E33;have E30:=(dF (show Rep c b (.val (.slice (DV ⟨c.β 1,0,DW⟩) i i)) (AO _ 30 undef) from l.tm 30)).1;have E34:=(dF (show Rep c b (.val (.slice (DV ⟨c.β 1,if cap=i+1 then 0 else (i+1)*18,DW⟩) (L.length-(i+1)) (cap-(i+1)))) (AO _ 34 undef) from l.tm 34)).1;obtain⟨v,D,G,I,hv⟩:=bGI (w:=b) E30 E34 J z H hh hs;refine aFp (rs:=[8]) (by kernel_rfl) (by simp) λj E=>?_;obtain rfl:j=8:=by simpa using E
 have M:∀(K:Act->D4->Prop) a,(execOp a.eval (dOp 8)).run AB b= .ok (.value v) D->K (a.put (DV 35) v) D->wpOp AB dO Q 8 K a b:=λK a hr hK=>by
  unfold wpOp;rw[d8.at_];dsimp only;rw[EB (by simp[CI,d8.gd])];refine .inl ?_;unfold Oper.wp;rw[hr,Oper.upon_value,d8.dst];exact hK
 refine M _ _ G ⟨λ_=>⟨⟩,?_⟩;refine aFp (rs:=[9]) (by kernel_rfl) (by simp) λj E=>?_;obtain rfl:j=9:=by simpa using E
 unfold wpOp;rw[d9.at_];dsimp only;rw[EB (by simp[CI,d9.gd])];refine .inl ?_;unfold Oper.wp;rw[show ∀ ρ,(execOp ρ (dOp 9)).run AB D= .ok (.value (ρ (.tmp 35))) D from fun ρ=>by simp only[execOp,d9.op_];simp,Oper.upon_value,d9.dst];refine⟨λh=>D8 rfl h,aLL (by kernel_rfl) ?_ 0⟩;have F:a7.tmps.size=190:=l.size;have U:(a7.put (DV 35) v).tmps.getD 35 undef=v:=aAy (by rw[F];decide);have g4:((a7.put (DV 35) v).put (DV 4) ((a7.put (DV 35) v).eval (.tmp 35))).tmps.getD 4 undef=v:=(aAy (by rw[aVE,F];decide)).trans U;obtain⟨a1,c1,e1,e2,e3⟩:=hv;refine hQ _ D v g4 ?_ (e.trans I) ⟨a1,c1,e1,e2,λh0=>?_⟩
 .show a7.defers=a.defers;rw[l.defers,R]
 .obtain⟨b',f1,f2,f3⟩:=e3 h0;have e0:b.heap.size=w.heap.size:=N;refine⟨b',f1,by rw[<-e0];exact f2,λj E=>?_⟩;obtain⟨cs,r1,r2,r3⟩:=q4 _ (aZ8 J E)
  grind
section
def oU:R->Z
 |.slice (DV a) _ _=>a.block
 |_=>0
def aJR:R->Z
 |.slice _ _ c=>c
 |_=>0
theorem iJ{v:R}{q:Z}(h:cS v q):oU v=q:=by
 obtain⟨_,_,rfl⟩:=h;rfl
theorem aC4{c:Ctx}{S X:Z->Prop}{d w':Y}{wd len:Z}{f:Z->MV}{v:R}(h:OwnV c d wd len f v)(n:∀q,q<d.heap.size->¬X q->w'.heap[q]? =d.heap[q]?)(B:∀q,X q->c.S q)(C:∀q,S q->c.S q)(hv:∀q,cS v q->¬X q/\¬S q) :
  RepC (BV S) w' (.sl wd len f) [v]:=by
 obtain⟨a,cap,rfl,z,h⟩:=h;refine⟨a,cap,rfl,z,λh0=>?_⟩;rcases h with ⟨q,arr,ty,p,o,e3,D⟩|⟨_,e,_⟩
 .have g:=hv q ⟨len,cap,by rw[p]⟩;have m:q<d.heap.size:=(AY.1 o).1;refine⟨q,0,p,g.2,λj A=>?_⟩;obtain⟨E,t,s,r⟩:=D j A;exact⟨E,t,BI (⟨λq _ l=>C q l,λ_ _ h=>h,λ_ h=>h.elim,λq g l=>n q g λx=>l (B q x),λ_ _ h=>(h trivial).elim⟩:Keeps c.elem (BV S).elem d w') _ _ s,arr,ty,_,by rw[n q m g.1];exact o,λk u y=>by rw[A3];exact r k u y⟩
 .omega
theorem ExtB.ext{b:Base}{w0 w':Y}(a:Ext w0 b.w)(h:ExtB b w')(e:∀q,b.X q->w0.heap.size<=q):Ext w0 w' :=
 ⟨h.os.trans a.os,h.output.trans a.output,AV a.size h.size,λk d=>(h.block k (AM d a.size) λc=>by have:=e k c;omega).trans (a.block k d),λx c=>(h.frz x (AM c a.size)).trans (a.frz x c),h.tape.trans a.tape,AV a.dr h.dr⟩
structure ChgI (S:Nat->Prop) (w0 w1:World) (zb:Nat) (L:List Stp) (i b cap:Nat) (S1:Nat->Prop) (pv bv:Nat->Value) (w:World):Prop where
 ext:Ext w0 w
 sz:w0.heap.size<=w1.heap.size
 zlt:zb<w1.heap.size/\w0.heap.size<=zb
 zS:S1 zb
 sub:∀q,S q->S1 q
 Slt:∀q,S q->q<w0.heap.size
 hb:w1.heap.size<=b
 bl:b<w.heap.size
 wl:w1.heap.size<=w.heap.size
 nest:NestR w1.heap.size S1 b ⟨cap*18,18⟩ L pv bv L.length L.length w
 hi:i<L.length
def aL1(pv bv:Z->R)(i k:Z):Prop:=k=0\/k=1\/(k=2/\∃q,cS (pv i) q)\/(k=3/\∃q,cS (bv i) q)
def chβ(zb b:Z)(pv bv:Z->R)(i k:Z):Z:=if k=0 then zb else if k=1 then b else if k=2 then oU (pv i)else oU (bv i)
def aS4(zb b:Z)(pv bv:Z->R)(i q:Z):Prop:=∃k,aL1 pv bv i k/\chβ zb b pv bv i k=q
theorem aBh{zb b:Z}{pv bv:Z->R}{i q:Z}(h:aS4 zb b pv bv i q):q=zb\/q=b\/cS (pv i) q\/cS (bv i) q:=by
 obtain⟨k,d,a⟩:=h;rcases d with rfl|rfl|⟨rfl,p,c⟩|⟨rfl,p,c⟩
 .exact .inl a.symm
 .exact .inr (.inl a.symm)
 .have e:oU (pv i)=q:=a;rw[iJ c]at e
  simp_all
 .have e:oU (bv i)=q:=a;rw[iJ c]at e
  simp_all
section
variable {S:Nat->Prop} {w0 w1:World} {zb:Nat} {L:List Stp} {i b cap:Nat} {S1:Nat->Prop} {pv bv:Nat->Value} {w:World}
theorem ChgI.X1(I:ChgI S w0 w1 zb L i b cap S1 pv bv w){q:Z}(h:aS4 zb b pv bv i q):w0.heap.size<=q/\(S1 q\/q=b)/\q<w.heap.size:=by
 have a:=I.zlt;have hb:=I.hb;have hs:=I.sz;have hw:=I.wl;rcases aBh h with rfl|rfl|h|h
 .exact⟨a.2,.inl I.zS,by omega⟩
 .exact⟨by omega,.inr rfl,I.bl⟩
 .have:=I.nest.inP i q I.hi h;exact⟨by omega,.inl this.1,(I.nest.S0 q this.1).1⟩
 .have:=I.nest.inB i q I.hi h;exact⟨by omega,.inl this.1,(I.nest.S0 q this.1).1⟩
theorem ChgI.inj(I:ChgI S w0 w1 zb L i b cap S1 pv bv w):∀j k,aL1 pv bv i j->aL1 pv bv i k->chβ zb b pv bv i j=chβ zb b pv bv i k->j=k:=by
 have z1:=I.zlt;have hb:=I.hb;have f:∀q,cS (pv i) q->oU (pv i)=q/\w1.heap.size<=q/\q≠b:=λq c=>by
  have:=I.nest.inP i q I.hi c;exact⟨iJ c,this.2,(I.nest.S0 q this.1).2⟩
 have g:∀q,cS (bv i) q->oU (bv i)=q/\w1.heap.size<=q/\q≠b:=λq c=>by
  have:=I.nest.inB i q I.hi c;exact⟨iJ c,this.2,(I.nest.S0 q this.1).2⟩
 have t:chβ zb b pv bv i 0=zb:=rfl;have s:chβ zb b pv bv i 1=b:=rfl;have r:chβ zb b pv bv i 2=oU (pv i):=rfl;have o:chβ zb b pv bv i 3=oU (bv i):=rfl;intro j k l h e;rcases l with rfl|rfl|⟨rfl,p,d⟩|⟨rfl,p,d⟩<;>rcases h with rfl|rfl|⟨rfl,p',a⟩|⟨rfl,p',a⟩<;>simp only[t,s,r,o]at e<;>first|rfl|(exfalso)
 .omega
 .grind
 .grind
 .omega
 .grind
 .grind
 .grind
 .grind
 .have n:=f _ d;have m:=g _ a;exact I.nest.dX i i p I.hi I.hi d (by rw[show p=p' by omega];exact a)
 .grind
 .grind
 .have n:=g _ d;have m:=f _ a;exact I.nest.dX i i p' I.hi I.hi a (by rw[show p'=p by omega];exact d)
theorem ChgI.rest(I:ChgI S w0 w1 zb L i b cap S1 pv bv w){w':Y}(k:∀q,q<w.heap.size->¬aS4 zb b pv bv i q->w'.heap[q]? =w.heap[q]?):∀j,j<L.length->j≠i->
  RepC (BV S) w' (.sl 1 (L.getD j aB).parts.length (bJ (L.getD j aB).parts)) [pv j]/\RepC (BV S) w' (.sl 2 (L.getD j aB).base.length (iL (L.getD j aB).base 200)) [bv j]:=λj c f=>by
 have z1:=I.zlt;have hs:=I.sz;have e:∀q,w1.heap.size<=q->¬S q:=λq a h=>by have:=I.Slt q h;omega
 refine⟨aC4 (X:=aS4 zb b pv bv i) (I.nest.ownP j c) k (λq a=>(I.X1 a).2.1) (λq a=>.inl (I.sub q a)) λq a=>?_,aC4 (X:=aS4 zb b pv bv i) (I.nest.ownB j c) k (λq a=>(I.X1 a).2.1) (λq a=>.inl (I.sub q a)) λq a=>?_⟩
 .have d:=I.nest.inP j q c a;refine⟨λg=>?_,e q d.2⟩;rcases aBh g with rfl|rfl|h|h
  .omega
  .exact(I.nest.S0 _ d.1).2 rfl
  .rcases B4 f with h2|h2
   .exact I.nest.dP j i q h2 I.hi a h
   .exact I.nest.dP i j q h2 c h a
  .exact I.nest.dX j i q c I.hi a h
 .have d:=I.nest.inB j q c a;refine⟨λg=>?_,e q d.2⟩;rcases aBh g with rfl|rfl|h|h
  .omega
  .exact(I.nest.S0 _ d.1).2 rfl
  .exact I.nest.dX i j q I.hi c h a
  .rcases B4 f with h2|h2
   .exact I.nest.dB j i q h2 I.hi a h
   .exact I.nest.dB i j q h2 c h a
theorem bDy{c:Ctx}{wd len:Z}{f:Z->MV}{v:R}{q:Z}(h:OwnV c w wd len f v)(g:cS v q):∃arr ty,w.heap[q]? =DV (.cells arr ty (0,0))/\arr.size=aJR v*wd/\gY c w (.rows wd len f) arr:=by
 obtain⟨a,cp,rfl,_,h⟩:=h;obtain⟨l2,c2,e⟩:=g;simp only[Value.slice.injEq]at e;rcases h with ⟨q',arr,ty,d,l,k,j⟩|⟨d,_⟩
 .rw[d]at e;simp only[Z1,Addr.mk.injEq]at e;obtain⟨⟨rfl,_⟩,_⟩:=e;exact⟨arr,ty,l,k,j⟩
 simp_all
end
end

theorem bDz{c:Ctx}{w w':Y}{v:R}{len wd k:Z}{f:Z->MV}{m:Ctx}(O:OwnV m w wd len f v)(g:∀q,cS v q->c.live k/\c.β k=q/\c.sz k=⟨aJR v*wd,wd⟩):RepC c w' (.bs k 0 len) [v]:=by
 obtain⟨a,b,rfl,e,h⟩:=O;refine⟨a,b,rfl,e,h.imp (λ⟨q,arr,ty,d,e2,e3,e4⟩=>?_) id⟩;obtain⟨l,j,i⟩:=g q ⟨len,b,by rw[d]⟩;refine⟨by rw[d,j],l,?_⟩;rw[i];show 0+b*wd=b*wd;omega

theorem mul_two{c y:U}{m:Z}(hc:c.natAbs<2^(64+4*m))(a:y.natAbs<=4):(c*y).natAbs<2^(64+4*(m+1)):=by
 have e:2^(64+4*(m+1))=2^(64+4*m)*16:=by rw[show 64+4*(m+1)=(64+4*m)+4 by omega,DM]
 rw[e,Int.natAbs_mul];have h1:=BW c.natAbs a;omega

theorem bAl(n:Z)(f:Z->MV)(x y:U):(okL n f/\oW (aE n f)=x/\chkE (aE n f)=y/\o)=aJ (aK [y9] aC) DS [.sl 18 n f] (MRes.sat (.ret (.st [.int .i64 x,.int .i64 y]))):=by kernel_rfl
def wQ:aG
 |[.sl 18 n f]=>DV (DV (okL n f),.ret (.st [.int .i64 (oW (aE n f)),.int .i64 (chkE (aE n f))]))
 |_=>DW
theorem aQ3:bE DS wQ:=by
 intro ms p r h a;unfold wQ at h;split at h
 .rename_i n f;cases h;have b:okL n f:=a;refine⟨aK [y9] aC,?_⟩;rw[<-bAl n f (oW (aE n f)) (chkE (aE n f))];exact⟨b,rfl,rfl,⟨⟩⟩
 .simp at h
def aF3:Ctr AB:=⟨12,wQ,λargs w=>Tryz.call12 args w,aM bT Tryz.func12 wQ aQ3⟩
structure MdIn (a n r:Int):Prop where
 a:0<=a/\a<=255
 n:0<=n/\n<=4294967295
 r:0<=r/\r<=65535
def shS(k:U)(s:Stp):Stp:={ s with parts:=s.parts.map λx=>x+k }
theorem aCg(pre a:V U):∀(l q r:V U),bZ a l q=DV r->bZ (pre++a) (l.map λx=>x+pre.length) q=DV r
 |[],_,_,h=>h
 |i::t,q,r,h=>by
  unfold bZ at h;cases b:(B (0<=i)&&(B (i<a.length)&&!(q.elem (a.getD i.toNat 0))))with
  |false=>rw[b]at h;cases h
  |true =>
   rw[b,Z6]at h;simp only[Z3,decide_eq_true_eq]at b;obtain⟨h1,h2,c⟩:=b;have e:(pre++a).getD (i+pre.length).toNat 0=a.getD i.toNat 0:=by
    rw[show(i+(pre.length:U)).toNat=pre.length+i.toNat by omega,AA,AA,AT (by omega),Nat.add_sub_cancel_left]
   rw[List.map_cons];unfold bZ;rw[e,Y0 (show 0<=i+(pre.length:U) by omega),Y0 (show i+(pre.length:U)<((pre++a).length:U) by rw[AS];omega),c,BZ,BZ,Z6];exact aCg pre a t _ r h
theorem aKZ{b:V U}:∀ {l q r:V U},bZ b l q=DV r->∀x∈l,0<=x/\x<b.length
 |[],_,_,_,x,hx=>M hx AX
 |i::t,q,r,h,x,hx=>by
  unfold bZ at h;cases a:(B (0<=i)&&(B (i<b.length)&&!(q.elem (b.getD i.toNat 0))))with
  |false=>rw[a]at h;cases h
  |true =>
   rw[a,Z6]at h;simp only[Z3,decide_eq_true_eq]at a;rcases BX.1 hx with rfl|hx
   .exact⟨a.1,a.2.1⟩
   .exact aKZ h x hx
theorem aBQ{a:V U}{s:Stp}(h:bW a s=DT):∃q,bZ a s.parts []=DV q:=by
 unfold bW at h;cases b:bZ a s.parts []with
 |none=>rw[b]at h;simp at h
 |some q=>exact⟨q,rfl⟩
theorem aM6(pre:V U){a:V U}{s:Stp}(h:bW a s=DT):bW (pre++a) (shS pre.length s)=DT:=by
 obtain⟨q,b⟩:=aBQ h;have c:bZ (pre++a) (shS pre.length s).parts []=DV q:=aCg pre a s.parts [] q b;unfold bW at h⊢;rw[b]at h;rw[c];exact h
theorem aCo(pre:V U):∀(L:V Stp) (a:V U),cI a L->cI (pre++a) (L.map (shS pre.length))
 |[],_,_=>trivial
 |s::r,a,h=>⟨aM6 pre h.1,by
  have:=aCo pre r (a++[s.n]) h.2;rw[<-CY]at this;exact this⟩
theorem aLh:∀(L:V Stp) (a:V U),cI a L->∀s∈L,∀x∈s.parts,0<=x/\x<(a.length+L.length:Z)
 |[],_,_,s,hs=>M hs AX
 |t::r,a,h,s,hs=>by
  intro x b;rcases BX.1 hs with rfl|hs
  .obtain⟨q,c⟩:=aBQ h.1;have:=aKZ c x b;rw[BL];omega
  .have:=aLh r (a++[t.n]) h.2 s hs x b;rw[AS,List.length_singleton]at this;rw[BL];omega
theorem aGW{L:V Stp}(h:cI [] L)(h1:1<=L.length):chkE L=0:=by
 unfold chkE;rw[(aBj L [] 0).2 h];dsimp only;cases a:L.length.beq 0 with
 |true=>have:=AQ a;omega
 |false=>rfl
theorem aMT{L:V Stp}(h:cI [] L)(i:Z):cI [] (L.take i):=by
 rw[<-AP i L]at h;exact((wP _ _ []).1 h).1
theorem aJW:∀(L T:V Stp) (a:V U) (i:Z),cI a L->oX a (L++T) i=oX (a++nums L) T (i+L.length)
 |[],T,a,i,_=>by show oX a T i=oX (a++[]) T (i+0);rw[BN];rfl
 |s::r,T,a,i,h=>by
  rw[C6,aBi,h.1,Z6,aJW r T _ _ h.2,CY,BL,show i+1+r.length=i+(r.length+1) by omega];rfl
theorem aXR{L T:V Stp}{s:Stp}(h:cI [] L)(a:bW (nums L) s=DU):chkE (L++s::T)=70/\oW (L++s::T)=L.length:=by
 have e:oX [] (L++s::T) 0=DV L.length:=by
  rw[aJW L _ [] 0 h,BM,aBi,a,Z5,A3]
 unfold chkE oW;rw[e];exact⟨rfl,rfl⟩
def aBc(n:U):Stp:=⟨1,DU,aA n.natAbs, [], [],0,0,0,0,0,DU,0⟩
theorem bGl{n:U}(h:0<=n):(aBc n).n=n:=by
 show(if DU=DT then _ else wv (aA n.natAbs))=n;rw[W (by decide),iK];omega
theorem aP8{x y:U}(hx:2<=x)(hy:2<=y)(h:V U):bW h (aBc (x*y))=DU:=by
 have i:0<=x*y:=DE (by omega) (by omega);cases c:bW h (aBc (x*y))with
 |false=>rfl
 |true =>
  exfalso;obtain⟨q,j⟩:=aBQ c;have l:aKv (aBc (x*y)) q=DT:=by
   unfold bW at c;rw[j]at c;simp only[Z3]at c;exact c.2.2
  have d:aRt (aBc (x*y)) q=DT:=l;unfold aRt tU at d;rw[bGl i]at d;simp only[Z3,decide_eq_true_eq]at d;have f:=d.2.2.2.2;unfold isB at f;rw[O ⟨i,by omega⟩]at f;obtain⟨a,rfl⟩:∃a:Z,x=a:=⟨x.toNat,by omega⟩;obtain⟨b,rfl⟩:∃b:Z,y=b:=⟨y.toNat,by omega⟩;have e:((a:U)*b).toNat=a*b:=by rw[<-CH,Z8]
  have g:a*b<65536:=by omega
  rw[e]at f;have k:=bHz f (Nat.lt_trans g (by decide));rcases k.dv a ⟨b,rfl⟩with z|z
  .omega
  .have:=BW a (show 2<=b by omega);omega
theorem aS9{A B:V Stp}(b:cI [] A)(a:cI [] B)(h1:1<=A.length):chkE (A++B.map (shS A.length))=0:=by
 refine aGW ((wP _ _ []).2 ⟨b,?_⟩) (by rw[AS];omega);have:=aCo (nums A) B [] a;rw[BN,show(nums A).length=A.length by simp[nums]]at this;rw[BM];exact this
section
def aMO(pv:Z->R)(i k:Z):Prop:=k=0\/(k=1/\∃q,cS (pv i) q)
def ptβ(b:Z)(pv:Z->R)(i k:Z):Z:=if k=0 then b else oU (pv i)
def ptz(z:Sz)(pv:Z->R)(i k:Z):Sz:=if k=0 then z else ⟨aJR (pv i)*1,1⟩
def ptX(b:Z)(pv:Z->R)(i q:Z):Prop:=∃k,aMO pv i k/\ptβ b pv i k=q
def ptS(pv:Z->R)(i:Z)(S1:Z->Prop)(q:Z):Prop:=S1 q/\¬cS (pv i) q
def ptB(L:V Stp)(pv bv:Z->R)(P:V U):V Box:=[lP L pv bv,⟨DU,.arr .i64 P⟩]
def ptC(S1:Z->Prop)(b:Z)(z:Sz)(L:V Stp)(pv bv:Z->R)(i:Z)(P:V U):Ctx:=cJ (ptS pv i S1) (ptB L pv bv P) (aMO pv i) (ptβ b pv i) (ptz z pv i)
def pO(w:Y)(b:Z)(z:Sz)(pv:Z->R)(i:Z)(df:V Deferred):Base:=⟨w,ptX b pv i,λk q z'=>aMO pv i k/\ptβ b pv i k=q/\ptz z pv i k=z',df⟩
def aA5(s:Stp)(P:V U):Stp:={ s with parts:=P }
section
variable {w0:Nat} {S1:Nat->Prop} {b:Nat} {z:Sz} {L:List Stp} {pv bv:Nat->Value} {i:Nat} {w:World} {df:List Deferred}
theorem wO{q:Z}(h:ptX b pv i q):q=b\/cS (pv i) q:=by
 obtain⟨k,d,c⟩:=h;rcases d with rfl|⟨rfl,p,a⟩
 .exact .inl c.symm
 .have e:oU (pv i)=q:=c;rw[iJ a]at e;exact .inr (e ▸ a)
theorem aU7(N:NestR w0 S1 b z L pv bv L.length L.length w)(a:i<L.length){q:Z}(h:ptX b pv i q):S1 q\/q=b:=(wO h).elim .inr λh=>.inl (N.inP i q a h).1
theorem aVa(N:NestR w0 S1 b z L pv bv L.length L.length w)(c:i<L.length){P:V U}:∀q,(ptC S1 b z L pv bv i P).S q->S1 q\/q=b:=λq a=>by
 rcases a with a|⟨k,_,e,_,_,d⟩
 .exact .inl a.1
 .exact aU7 N c ⟨k,e,d⟩
theorem aZU(N:NestR w0 S1 b z L pv bv L.length L.length w)(s:i<L.length){n:Z}{B tm:V (Z×MV)}{a:Act}(f:b<w.heap.size)(h:St S1 (Base.b1 w b z df) ⟨n,B, [lP L pv bv],1⟩ (Ctx.b1 S1 b z) a w)(C:∀p∈tm,Rep (ptC S1 b z L pv bv i (L.getD i aB).parts) w p.2 (a.tmps.getD p.1 undef)) :
  St (ptS pv i S1) (pO w b z pv i df) ⟨n,tm,ptB L pv bv (L.getD i aB).parts,2⟩ (ptC S1 b z L pv bv i (L.getD i aB).parts) a w:=by
 have I:a.defers=df:=h.defers;subst I;refine St.fresh (λk g=>?_) (λj k o g e=>?_) (λq d=>(N.S0 q d.1).1) (h.mem.gw.sub λq d=>?_) (λk F g f=>?_) C h.size _ (λk q z' l=>⟨l.1,l.2.1,l.2.2,?_⟩)
 .rcases g with rfl|⟨rfl,q,d⟩
  .exact⟨by show 0<2;omega,f,λy=>(N.S0 b y.1).2 rfl⟩
  .have e:ptβ b pv i 1=q:=iJ d;rw[e];exact⟨by show 1<2;omega,(N.S0 q (N.inP i q s d).1).1,λy=>y.2 d⟩
 .have t:∀q,cS (pv i) q->oU (pv i)≠b:=λq d=>by rw[iJ d];exact(N.S0 q (N.inP i q s d).1).2
  rcases o with rfl|⟨rfl,p,l⟩<;>rcases g with rfl|⟨rfl,p',D⟩
  .rfl
  .exact M (show oU (pv i)=b from e.symm) (t _ D)
  .exact M (show oU (pv i)=b from e) (t _ l)
  .rfl
 .rcases d with d|⟨k,K,J⟩
  .exact .inl d.1
  .exact aU7 N s ⟨k,K,J⟩
 .rcases g with rfl|⟨rfl,q,d⟩
  .have f:DV (lP L pv bv)=DV F:=f;obtain rfl:=AW f;obtain⟨arr,ty,q1,x,v,G⟩:=h.mem.box 0 _ rfl rfl;refine⟨arr,ty,q1,x,v,λj o=>?_⟩;obtain⟨A,E,m,u⟩:=G j o;exact⟨A,E,BG (c:=(Ctx.b1 S1 b z).elem) (c':=(cJ _ _ _ _ _).elem) (r:=false) (aVa N s) (λe=>by simp at e) (kN L pv bv j) _ rfl m,u⟩
  .have f:DV (⟨DU,.arr .i64 (L.getD i aB).parts⟩:Box)=DV F:=f;obtain rfl:=AW f;obtain⟨arr,ty,q1,x,v⟩:=bDy (N.ownP i s) d;refine⟨arr,ty,?_,x,rfl,λj n H=>?_⟩
   .show w.heap[oU (pv i)]? =_;rw[iJ d];exact q1
   .have o:j<(L.getD i aB).parts.length:=(List.getElem?_eq_some_iff.1 H).1;obtain⟨A,E,m,u⟩:=v j o;have m:A=[.int .i64 ((L.getD i aB).parts.getD j 0)]:=m;have:=u 0 _ (by rw[m];rfl)
    simp_all
 .have g:k<2:=by rcases l.1 with rfl|⟨rfl,_⟩<;>decide
  exact oE (by decide) g
theorem aU9{g:Y}{s:MS}{c:Ctx}{a:Act}{w':Y}{S2:Z->Prop}(h:St S2 (pO g b z pv i df) s c a w'){n:Ctx}{len:Z}{f:Z->MV}(O:OwnV n w 1 len f (pv i)){t:Z}(j:Rep c w' (.val (pv i)) (a.tmps.getD t undef)):Rep c w' (.bs 1 0 len) (a.tmps.getD t undef):=by
 have e:=(dF j).1;rw[e];refine aU rfl (by simp) rfl (bDz O λq d=>?_);obtain⟨m,l,k⟩:=h.mem.pin 1 _ _ ⟨.inr ⟨rfl,q,d⟩,rfl,rfl⟩;exact⟨m,by rw[l];exact iJ d,k⟩
theorem aMZ{s:Stp}{j:Z}(hi:i<L.length):(L.set i s).getD j aB=if j=i then s else L.getD j aB:=by
 grind
theorem aVt(c:i<L.length)(P:V U):kN (L.set i (aA5 (L.getD i aB) P)) pv bv=kN L pv bv:=by
 funext j
 unfold kN;rw[aMZ c];by_cases a:j=i
 .subst a;rw[O rfl];rfl
 .rw[W a]
theorem aXW(a:i<L.length)(P:V U):lP (L.set i (aA5 (L.getD i aB) P)) pv bv=lP L pv bv:=by
 unfold lP;rw[aVt a,A9]
theorem aZV(N:NestR w0 S1 b z L pv bv L.length L.length w)(s:i<L.length)(hb:b<w.heap.size){n:Z}{tm tm':D2 (Z×MV)}{c:Ctx}{a:Act}{w':D4}{P:D2 EA}(T:P.length=(L.getD i aB).parts.length)(h:St (ptS pv i S1) (pO w b z pv i df) ⟨n,tm,ptB L pv bv P,2⟩ c a w')(M:∀p∈tm',Rep (Ctx.b1 S1 b z) w' p.2 (a.tmps.getD p.1 undef)) :
  NestR w0 S1 b z (L.set i (aA5 (L.getD i aB) P)) pv bv (L.set i (aA5 (L.getD i aB) P)).length (L.set i (aA5 (L.getD i aB) P)).length w'/\
  St S1 (Base.b1 w' b z df) ⟨n,tm', [lP (L.set i (aA5 (L.getD i aB) P)) pv bv],1⟩ (Ctx.b1 S1 b z) a w':=by
 have l:=h.mem;have F:w.heap.size<=w'.heap.size:=l.ext.size;have t:=l.pin 0 b z ⟨.inl rfl,rfl,rfl⟩;have D:∀q,q<w.heap.size->¬(q=b\/cS (pv i) q)->w'.heap[q]? =w.heap[q]? :=λq d f=>l.ext.block q d λE=>f (wO E);have k:Keeps (Ctx.b1 S1 b z).elem (Ctx.b1 S1 b z).elem w w':=⟨λq _ d=>d,λ_ _ h=>h,λ_ h=>h.elim,λq d Q=>D q d λf=>Q (f.elim .inr λf=>.inl (N.inP i q s f).1),λ_ _ h=>(h trivial).elim⟩;have G:∀q,S1 q->c.S q/\q≠b:=λq d=>by
  refine⟨?_,(N.S0 q d).2⟩;by_cases x:cS (pv i) q
  .obtain⟨B,A,H⟩:=l.pin 1 _ _ ⟨.inr ⟨rfl,q,x⟩,rfl,rfl⟩;have e:c.β 1=q:=A.trans (iJ x);rw[<-e];exact l.WS _ ((l.hW _).2 ⟨1,_,B,rfl,rfl,rfl⟩)
  .exact(l.hS q).2 (.inl ⟨d,x⟩)
 refine⟨?_,?_⟩
 .rw[A9];refine⟨λj o=>?_,λj o=>?_,λj V h2=>D8 h2 (by rw[A9];omega),λj V h2=>D8 h2 (by rw[A9];omega),N.inP,N.inB,N.dP,N.dB,N.dX,λq d=>⟨AM (N.S0 q d).1 F,(N.S0 q d).2⟩⟩
  .rw[aMZ s];by_cases g:j=i
   .subst g;rw[EB rfl];have O:=N.ownP j s;obtain⟨K,cap,e,x,U⟩:=O;refine⟨K,cap,?_,?_,?_⟩
    .show pv j= .slice K P.length cap;rw[T];exact e
    .show P.length<=cap;omega
    rcases U with ⟨q,arr,ty,y,Y,J,e4⟩|⟨y,Y,J⟩
    .have d:cS (pv j) q:=⟨_,cap,by rw[e,y]⟩;obtain⟨B,A,H⟩:=l.pin 1 _ _ ⟨.inr ⟨rfl,q,d⟩,rfl,rfl⟩;obtain⟨arr',ty',I,X,f3,W⟩:=l.box 1 _ B rfl;rw[A,show ptβ b pv j 1=q from iJ d]at I;have R:aJR (pv j)=cap:=by rw[e];rfl
     refine .inl ⟨q,arr',ty',y,I,?_,λm C=>?_⟩
     .rw[X,H];show aJR (pv j)*1=cap*1;rw[R]
     .have C:m<P.length:=C;refine⟨[.int .i64 (P.getD m 0)],rfl,rfl,λr v hv=>?_⟩
      match r,hv with
      |0,hv =>
       simp only[List.getElem?_cons_zero,Z1]at hv;rw[<-hv,DO,CS];refine W m _ ?_;rw[AA,AC C];rfl
      |r+1,hv=>simp at hv
    .exact .inr ⟨y,by show P.length=0;omega,J⟩
   .rw[if_neg g];refine(N.ownP j o).keep k λq d=>?_;have u:=N.inP j q o d;refine D q (N.S0 q u.1).1 λf=>f.elim (N.S0 q u.1).2 λf=>?_;rcases B4 g with h2|h2
    .exact N.dP j i q h2 s d f
    .exact N.dP i j q h2 o f d
  .rw[aMZ s];have O:OwnV (Ctx.b1 S1 b z) w' 2 (L.getD j aB).base.length (iL (L.getD j aB).base 200) (bv j):=(N.ownB j o).keep k λq d=>by
    have u:=N.inB j q o d;exact D q (N.S0 q u.1).1 λf=>f.elim (N.S0 q u.1).2 λf=>N.dX i j q s o f d
   by_cases g:j=i
   .subst g;rw[EB rfl];exact O
   .rw[if_neg g];exact O
 .rw[aXW s];exact h.one (F':=kN L pv bv) rfl t.1 t.2.1 t.2.2 S1 G (λ_ _ _ h=>h) tm' M
end
end
section
noncomputable def ppC:Code:=qO DG
noncomputable def bEG:Code:=aZ ppC
noncomputable def bEH:Code:=aZ bEG
noncomputable def bEI:Code:=aZ bEH
noncomputable def bIs:Code:=aZ bEI
noncomputable def bEJ:Code:=aZ bIs
noncomputable def bEK:Code:=aZ bEJ
noncomputable def aUW:Code:=aZ bEK
noncomputable def bEL:Code:=aZ aUW
noncomputable def ppL:Code:=aD7 (aCS (aZ (bR aUW)))
noncomputable def ppM:Code:=aCS (bR (aZ ppL))
noncomputable def ppI:Code:=aD7 (aCS (aZ ppM))
def ppO(id:Z):V A:=aVm DG id
def dM(a n r:U):MV:= .st [.int .u8 a,.int .u32 n,.int .u16 r]
def aK5(a1 n1 r1 a2 n2 r2:U):V Box:=[⟨DU,.one (dM a1 n1 r1)⟩,⟨DU,.one (dM a2 n2 r2)⟩]
section
variable (a1 n1 r1 a2 n2 r2 w:Int) (K:Ex->MS->Prop)
def aRd:Env AB:=aK [bCy,aXw] aC
theorem bFG(a1 n1 r1 a2 n2 r2 w:U)(K:Ex->MS->Prop):(K Ex.normal { n:=nat_lit 112,tm:=[((6:Z),MV.bool DU),((4:Z),MV.bp (1:Z) (0:Z)),((3:Z),MV.bp (0:Z) (0:Z)),((0:Z),dM a1 n1 r1),((0:Z)+1,dM a2 n2 r2),((0:Z)+1+1,MV.int u16 w)],bx:=[{ fz:=false,c:=BC.one (MV.st [MV.int u8 a1,MV.int u32 n1,MV.int u16 r1]) },{ fz:=false,c:=BC.one (MV.st [MV.int u8 a2,MV.int u32 n2,MV.int u16 r2]) }],np:=nat_lit 0 }/\o)=bG aRd (λ_=>C) (bR ppC) ⟨112,dT 0 [dM a1 n1 r1,dM a2 n2 r2,.int .u16 w], [],0⟩ (λe s=>K e s/\o):=by kernel_rfl
def aCC(w:U):V (Z×MV):=[(2,.int .u16 w),(3,.bp 0 0),(4,.bp 1 0),(6,.bool DU)]
theorem bFH(a1 n1 r1 a2 n2 r2 w:U)(K:Ex->MS->Prop):(K Ex.normal { n:=nat_lit 112,tm:=[((7:Z),MV.bool DT),((17:Z),MV.bool DT),((2:Z),MV.int u16 w),((3:Z),MV.bp (0:Z) (0:Z)),((4:Z),MV.bp (1:Z) (0:Z)),((6:Z),MV.bool DU)],bx:=[{ fz:=false,c:=BC.one (dM a1 n1 r1) },{ fz:=false,c:=BC.one (dM a2 n2 r2) }],np:=nat_lit 0 }/\o)=bG aRd (λ_=>C) (bR bEG) ⟨112,aCC w,aK5 a1 n1 r1 a2 n2 r2,0⟩ (λe s=>K e s/\o):=by kernel_rfl
theorem bFI(a1 n1 r1 a2 n2 r2 w:U)(K:Ex->MS->Prop):(K Ex.normal { n:=nat_lit 112,tm:=((19:Z),MV.bool DU)::((19:Z),MV.bool !true)::((18:Z),MV.bool DT)::((7:Z),MV.bool DT)::aCC w,bx:=[{ fz:=false,c:=BC.one (dM a1 n1 r1) },{ fz:=false,c:=BC.one (dM a2 n2 r2) }],np:=nat_lit 0 }/\o)=bG aRd (λ_=>C) (bR bEH) ⟨112,(7,.bool DT)::aCC w,aK5 a1 n1 r1 a2 n2 r2,0⟩ (λe s=>K e s/\o):=by kernel_rfl
theorem bFJ(a1 n1 r1 a2 n2 r2 w:U)(K:Ex->MS->Prop)(a:_)(b:a=(mdL (u a1) (u n1) (u r1))):((((0:U)<=a1/\a1<=255)/\((0:U)<=n1/\n1<=4294967295)/\(0:U)<=r1/\r1<=65535)/\K Ex.normal {n:=nat_lit 112,tm:=((8:Z),MV.sl (18:Z) (r a) (aF a (200:Z)))::((21:Z),MV.sl (18:Z) (r a) (aF a (200:Z)))::((20:Z),MV.st [MV.int u8 a1,MV.int u32 n1,MV.int u16 r1])::((7:Z),MV.bool DT)::aCC w,bx:=[{fz:=false,c:=BC.one (dM a1 n1 r1)},{fz:=false,c:=BC.one (dM a2 n2 r2)}],np:=nat_lit 0}/\o)=bG aRd (λ_=>C) (bR bEI) ⟨112,(7,.bool DT)::aCC w,aK5 a1 n1 r1 a2 n2 r2,0⟩ (λe s=>K e s/\o):=by subst b;kernel_rfl
theorem bFK(a1 n1 r1 a2 n2 r2 w:U)(nA:Z)(fA:Z->MV)(K:MS->Prop):((((0:U)<=a2/\a2<=255)/\((0:U)<=n2/\n2<=4294967295)/\(0:U)<=r2/\r2<=65535)/\K { n:=nat_lit 112,tm:=((23:Z),MV.sl (18:Z) (r (mdL (u a2) (u n2) (u r2))) (aF (mdL (u a2) (u n2) (u r2)) (200:Z)))::((22:Z),MV.st [MV.int u8 a2,MV.int u32 n2,MV.int u16 r2])::((8:Z),MV.sl (18:Z) nA fA)::((7:Z),MV.bool DT)::aCC w,bx:=[{ fz:=false,c:=BC.one (dM a1 n1 r1) },{ fz:=false,c:=BC.one (dM a2 n2 r2) }],np:=nat_lit 0 }/\o)=eG aRd (ppO 5) (λ_=>C) ((ppO 5).take 2) ⟨112,(8,.sl 18 nA fA)::(7,.bool DT)::aCC w,aK5 a1 n1 r1 a2 n2 r2,0⟩ (λs=>K s/\o):=by kernel_rfl
end
def ppU(nA:Z)(fA:Z->MV)(n:Z):V (Z×MV):=[(7,.bool DT),(8,.sl 18 nA fA),(9,.bs 0 0 n)]
def bH4(A:V Stp)(n:Z)(w:U):Z->MS->DX LoopAnn
 |7,e=>DV (.inv Z (λi=>1<=i/\i<=A.length+1) (λi=>⟨112, [(7,.bool DT),(8,.sl 18 A.length (aF A 200)),(9,.bs 0 0 n),(2,.int .u16 w),(10,.int .i64 i)],e.bx,e.np⟩) (λi=>A.length+1-i))
 |_,_=>DW
def bIr(A:V Stp)(n:Z)(w:U):Env AB:=aK [aF3] (bH4 A n w)
theorem bFL(A L:V Stp)(pv c:Z->R)(w:U)(K:Ex->MS->Prop)(b:_)(g:b=(aF A (200:Z)))(a:_)(f:a=(r A))(d:_)(e:d=λ(i:Z)=>(aE (u (↑i:U)) b)):((∃i,((1:Z)<=i/\i<=r A+1)/\(DT=DT/\((18:Z)=18/\r A=r A/\LeFun a b b)/\((0:Z)=0/\r L=r L)/\w=w/\(1:U)=(↑i:U)/\o)/\(r L=r L/\LeFun (r L) (kN L pv c) (kN L pv c))/\o)/\∀(i:Z),(1:Z)<=i/\i<=r A+1->bif B ((↑i:U)<=(↑ a :U))then ((0:U)<=(↑i:U)/\(↑i:U)<=(↑ a :U))/\okL (u (↑i:U)) b/\bif chkE (d i) != 0 then K Ex.ret {n:=nat_lit 112,tm:=[((6:Z),MV.bool DU),((36:Z),MV.bool DT),((36:Z),MV.bool (chkE (d i) != 0)),((35:Z),MV.int D0 (chkE (d i))),((34:Z),MV.st [MV.int D0 (oW (d i)),MV.int D0 (chkE (d i))]),((33:Z),MV.sl (18:Z) (u (↑i:U)) b),((32:Z),MV.int D0 (↑i:U)),((31:Z),MV.sl (18:Z) a b),((28:Z),MV.bool DT),((28:Z),MV.bool (B ((↑i:U)<=(↑ a :U)))),((27:Z),MV.int D0 (↑ a :U)),((26:Z),MV.sl (18:Z) a b),((25:Z),MV.int D0 (↑i:U)),((7:Z),MV.bool DT),((8:Z),MV.sl (18:Z) a b),((9:Z),MV.bs (0:Z) (0:Z) (r L)),((2:Z),MV.int u16 w),((10:Z),MV.int D0 (↑i:U))],bx:=[lP L pv c],np:=nat_lit 1} else ∃j,((1:Z)<=j/\j<=r A+1)/\((DT=DT/\((18:Z)=18/\r A=r A/\LeFun a b b)/\((0:Z)=0/\r L=r L)/\w=w/\X D0 ((↑i:U)+1)=(↑j:U)/\o)/\(r L=r L/\LeFun (r L) (kN L pv c) (kN L pv c))/\o)/\r A+1-j<r A+1-i else K Ex.normal {n:=nat_lit 112,tm:=[((28:Z),MV.bool DU),((28:Z),MV.bool (B ((↑i:U)<=(↑ a :U)))),((27:Z),MV.int D0 (↑ a :U)),((26:Z),MV.sl (18:Z) a b),((25:Z),MV.int D0 (↑i:U)),((7:Z),MV.bool DT),((8:Z),MV.sl (18:Z) a b),((9:Z),MV.bs (0:Z) (0:Z) (r L)),((2:Z),MV.int u16 w),((10:Z),MV.int D0 (↑i:U))],bx:=[lP L pv c],np:=nat_lit 1})=bG (bIr A L.length w) (λ_=>C) (bR bEJ) ⟨112,(2,.int .u16 w)::ppU A.length (aF A 200) L.length, [lP L pv c],1⟩ K:=by subst g f e;kernel_rfl
theorem bA2(A L:V Stp)(pv m:Z->R)(w:U)(K:Ex->MS->Prop)(b:_)(k:b=(X u16 (tdiv w (200:U))))(a:_)(j:a=(D w (200:U)))(g:_)(l:g=(X D0 ((2:U)+X D0 a)*X D0 ((2:U)+X D0 b)))(f:_)(i:f=(X D0 ((2:U)+X D0 a)))(d:_)(h:d=(X D0 ((2:U)+X D0 b))):(((200:U)=0->C)/\fY f/\((200:U)=0->C)/\fY d/\((64:Z)<=1000000/\(64:Z)<=1000000)/\K Ex.normal {n:=nat_lit 112,tm:=((11:Z),MV.bp (1:Z) (0:Z))::((48:Z),MV.st [MV.int D0 (1:U),MV.big g ((64:Z)+64),MV.val (AU DW (0:Z) (0:Z)),MV.val (AU DW (0:Z) (0:Z)),MV.st [MV.big (0:U) (0:Z),MV.big (0:U) (0:Z),MV.big (0:U) (0:Z)],MV.st [MV.big (0:U) (0:Z),MV.big (0:U) (0:Z),MV.bool DU],MV.big (0:U) (0:Z)])::((47:Z),MV.big g ((64:Z)+64))::((46:Z),MV.big d (64:Z))::((45:Z),MV.int D0 d)::((44:Z),MV.int D0 (X D0 b))::((43:Z),MV.int u16 b)::((42:Z),MV.int u16 w)::((41:Z),MV.big f (64:Z))::((40:Z),MV.int D0 f)::((39:Z),MV.int D0 (X D0 a))::((38:Z),MV.int u16 a)::((37:Z),MV.int u16 w)::((2:Z),MV.int u16 w)::ppU (r A) (aF A (200:Z)) (r L),bx:=[lP L pv m,{fz:=false,c:=BC.one (MV.st [MV.int D0 (1:U),MV.big g ((64:Z)+64),MV.val (AU DW (0:Z) (0:Z)),MV.val (AU DW (0:Z) (0:Z)),MV.st [MV.big (0:U) (0:Z),MV.big (0:U) (0:Z),MV.big (0:U) (0:Z)],MV.st [MV.big (0:U) (0:Z),MV.big (0:U) (0:Z),MV.bool DU],MV.big (0:U) (0:Z)])}],np:=nat_lit 1}/\o)=bG (aK [cO,eV] aC) (λ_=>C) (bR bEK) ⟨112,(2,.int .u16 w)::ppU A.length (aF A 200) L.length, [lP L pv m],1⟩ (λe s=>K e s/\o):=by subst k j l i h;kernel_rfl
def ppV(a:R)(nA:Z)(fA:Z->MV)(n:Z):V (Z×MV):=(11,.val a)::ppU nA fA n
theorem bA3(L:V Stp)(pv b:Z->R)(a:R)(nA:Z)(fA:Z->MV)(K:Ex->MS->Prop):(K Ex.normal { n:=nat_lit 112,tm:=((12:Z),MV.int D0 (0:U))::((11:Z),MV.val a)::ppU nA fA (r L),bx:=[lP L pv b],np:=nat_lit 1 }/\o)=bG (aK [] aC) (λ_=>C) (bR (bR aUW)) ⟨112,ppV a nA fA L.length, [lP L pv b],1⟩ (λe s=>K e s/\o):=by kernel_rfl
theorem bA4(L:V Stp)(pv b:Z->R)(a:R)(nA:Z)(fA:Z->MV)(i:Z)(K:Ex->MS->Prop):(bif B ((↑i:U)<(↑(r L):U))then K Ex.normal { n:=nat_lit 112,tm:=((52:Z),MV.bool DT)::((52:Z),MV.bool (B ((↑i:U)<(↑(r L):U))))::((51:Z),MV.int D0 (↑(r L):U))::((50:Z),MV.bs (0:Z) (0:Z) (r L))::((49:Z),MV.int D0 (↑i:U))::((12:Z),MV.int D0 (↑i:U))::ppV a nA fA (r L),bx:=[lP L pv b],np:=nat_lit 1 }/\o else K (Ex.exit (2:Z)) { n:=nat_lit 112,tm:=((52:Z),MV.bool DU)::((52:Z),MV.bool (B ((↑i:U)<(↑(r L):U))))::((51:Z),MV.int D0 (↑(r L):U))::((50:Z),MV.bs (0:Z) (0:Z) (r L))::((49:Z),MV.int D0 (↑i:U))::((12:Z),MV.int D0 (↑i:U))::ppV a nA fA (r L),bx:=[lP L pv b],np:=nat_lit 1 }/\o)=bG (aK [] aC) (λ_=>C) (bR ppL) ⟨112,(12,.int .i64 i)::ppV a nA fA L.length, [lP L pv b],1⟩ (λe s=>K e s/\o):=by kernel_rfl
theorem bA6(L:V Stp)(pv b:Z->R)(a:R)(nA:Z)(fA:Z->MV)(i:Z)(K:Ex->MS->Prop):(K Ex.normal { n:=nat_lit 112,tm:=((13:Z),MV.int D0 (0:U))::((12:Z),MV.int D0 (↑i:U))::ppV a nA fA (r L),bx:=[lP L pv b],np:=nat_lit 1 }/\o)=bG (aK [] aC) (λ_=>C) (bR ppM) ⟨112,(12,.int .i64 i)::ppV a nA fA L.length, [lP L pv b],1⟩ (λe s=>K e s/\o):=by kernel_rfl
theorem bA5(L:V Stp)(pv b:Z->R)(a:R)(nA:Z)(fA:Z->MV)(i:Z)(K:Ex->MS->Prop):(K Ex.normal { n:=nat_lit 112,tm:=((12:Z),MV.int D0 (X D0 ((↑i:U)+1)))::((54:Z),MV.int D0 (X D0 ((↑i:U)+1)))::((53:Z),MV.int D0 (↑i:U))::((12:Z),MV.int D0 (↑i:U))::ppV a nA fA (r L),bx:=[lP L pv b],np:=nat_lit 1 }/\o)=bG (aK [] aC) (λ_=>C) (aZ (aZ ppL)) ⟨112,(12,.int .i64 i)::ppV a nA fA L.length, [lP L pv b],1⟩ (λe s=>K e s/\o):=by kernel_rfl
def ppW(a:R)(nA:Z)(fA:Z->MV)(n i k:Z):V (Z×MV):=(13,.int .i64 k)::(12,.int .i64 i)::ppV a nA fA n
theorem bA7(L:V Stp)(pv b:Z->R)(a:R)(nA:Z)(fA:Z->MV)(i k:Z)(P:V U)(K:MS->Prop):(((0:U)<=(↑i:U)/\(↑i:U)<(↑(r L):U))/\u (↑i:U)<r L/\K { n:=nat_lit 112,tm:=((60:Z),MV.val (pv (u (↑i:U))))::((59:Z),MV.br (0:Z) (u (↑i:U)) ((0:Z)+3))::((58:Z),MV.br (0:Z) (u (↑i:U)) (0:Z))::((57:Z),MV.int D0 (↑i:U))::((56:Z),MV.bs (0:Z) (0:Z) (r L))::((55:Z),MV.int D0 (↑k:U))::((13:Z),MV.int D0 (↑k:U))::((12:Z),MV.int D0 (↑i:U))::ppV a nA fA (r L),bx:=[lP L pv b,{ fz:=false,c:=BC.arr D0 P }],np:=nat_lit 2 }/\o)=eG (aK [] aC) (ppO 16) (λ_=>C) ((ppO 16).take 6) ⟨112,ppW a nA fA L.length i k,ptB L pv b P,2⟩ (λs=>K s/\o):=by kernel_rfl
theorem aWv(L:V Stp)(pv b:Z->R)(a:R)(nA:Z)(fA:Z->MV)(i k len:Z)(P:V U)(K:MS->Prop):(K { n:=nat_lit 112,tm:=((62:Z),MV.bool (B ((↑k:U)<(↑len:U))))::((61:Z),MV.int D0 (↑len:U))::((55:Z),MV.int D0 (↑k:U))::((60:Z),MV.bs (1:Z) (0:Z) len)::ppW a nA fA (r L) i k,bx:=[lP L pv b,{ fz:=false,c:=BC.arr D0 P }],np:=nat_lit 2 }/\o)=eG (aK [] aC) (ppO 16) (λ_=>C) ((ppO 16).drop 6) ⟨112,(55,.int .i64 k)::(60,.bs 1 0 len)::ppW a nA fA L.length i k,ptB L pv b P,2⟩ (λs=>K s/\o):=by kernel_rfl
theorem bA9(L:V Stp)(pv b:Z->R)(a:R)(nA:Z)(fA:Z->MV)(i k:Z)(P:V U)(K:MS->Prop):(((0:U)<=(↑i:U)/\(↑i:U)<(↑(r L):U))/\u (↑i:U)<r L/\K { n:=nat_lit 112,tm:=((69:Z),MV.val (pv (u (↑i:U))))::((68:Z),MV.br (0:Z) (u (↑i:U)) ((0:Z)+3))::((67:Z),MV.br (0:Z) (u (↑i:U)) (0:Z))::((66:Z),MV.int D0 (↑i:U))::((65:Z),MV.bs (0:Z) (0:Z) (r L))::((13:Z),MV.int D0 (↑k:U))::((12:Z),MV.int D0 (↑i:U))::ppV a nA fA (r L),bx:=[lP L pv b,{ fz:=false,c:=BC.arr D0 P }],np:=nat_lit 2 }/\o)=eG (aK [] aC) (ppO 18) (λ_=>C) ((ppO 18).take 5) ⟨112,ppW a nA fA L.length i k,ptB L pv b P,2⟩ (λs=>K s/\o):=by kernel_rfl
theorem aWw(L:V Stp)(pv e:Z->R)(d:R)(nA:Z)(fA:Z->MV)(i k len:Z)(P:V U)(K:MS->Prop)(a:_)(b:a=(X D0 (getD P ((0:Z)+u (↑k:U)) (0:U)+(↑nA:U)))):(((0:U)<=(↑k:U)/\(↑k:U)<(↑len:U))/\(0:Z)+u (↑k:U)<r P/\((0:U)<=(↑k:U)/\(↑k:U)<(↑len:U))/\(0:Z)+u (↑k:U)<r P/\K {n:=nat_lit 112,tm:=((76:Z),MV.bp (1:Z) ((0:Z)+u (↑k:U)))::((75:Z),MV.int D0 a)::((74:Z),MV.int D0 (↑nA:U))::((73:Z),MV.sl (18:Z) nA fA)::((72:Z),MV.int D0 (getD P ((0:Z)+u (↑k:U)) (0:U)))::((71:Z),MV.bp (1:Z) ((0:Z)+u (↑k:U)))::((70:Z),MV.int D0 (↑k:U))::((69:Z),MV.bs (1:Z) (0:Z) len)::ppW d nA fA (r L) i k,bx:=[lP L pv e,{fz:=false,c:=BC.arr D0 (set P ((0:Z)+u (↑k:U)) a)}],np:=nat_lit 2}/\o)=eG (aK [] aC) (ppO 18) (λ_=>C) ((ppO 18).drop 5) ⟨112,(69,.bs 1 0 len)::ppW d nA fA L.length i k,ptB L pv e P,2⟩ (λs=>K s/\o):=by subst b;kernel_rfl
theorem bA8(L:V Stp)(pv b:Z->R)(a:R)(nA:Z)(fA:Z->MV)(i k:Z)(P:V U)(K:Ex->MS->Prop):(K Ex.normal { n:=nat_lit 112,tm:=((13:Z),MV.int D0 (X D0 ((↑k:U)+1)))::((64:Z),MV.int D0 (X D0 ((↑k:U)+1)))::((63:Z),MV.int D0 (↑k:U))::((13:Z),MV.int D0 (↑k:U))::((12:Z),MV.int D0 (↑i:U))::ppV a nA fA (r L),bx:=[lP L pv b,{ fz:=false,c:=BC.arr D0 P }],np:=nat_lit 2 }/\o)=bG (aK [] aC) (λ_=>C) (aZ (aZ ppI)) ⟨112,ppW a nA fA L.length i k,ptB L pv b P,2⟩ (λe s=>K e s/\o):=by kernel_rfl
def xB(z:U):MV:= .st [.int .i64 1,.big z 128,.val (.slice DW 0 0),.val (.slice DW 0 0),.st [.big 0 0,.big 0 0,.big 0 0],.st [.big 0 0,.big 0 0,.bool DU],.big 0 0]
def fzQ:Z->V Z
 |999999=> [0]
 |_=> []
def bHB:Env AB:=⟨[aF3], [],39,aC,fzQ,λ_ _=>DW⟩
def bEF(nA nB:Z)(fA fB:Z->MV):V (Z×MV):=[(7,.bool DT),(8,.sl 18 nA fA),(9,.sl 18 nB fB),(11,.bp 0 0)]
def ppK(T:N)(e:Ex)(s:MS):Prop:=match e with
 |.ret=>(match aW 6 s.tm with
  |.bool b=>b=T
  |_=>C)
 |_=>C
theorem bFM(nA nB:Z)(fA fB:Z->MV)(z:U)(T:N)(d:_)(j:d=(News.rows (18:Z) (1:Z) (aN [MV.st [MV.int D0 (1:U),MV.big z (128:Z),MV.val (AU DW (0:Z) (0:Z)),MV.val (AU DW (0:Z) (0:Z)),MV.st [MV.big (0:U) (0:Z),MV.big (0:U) (0:Z),MV.big (0:U) (0:Z)],MV.st [MV.big (0:U) (0:Z),MV.big (0:U) (0:Z),MV.bool DU],MV.big (0:U) (0:Z)]])))(a:_)(i:a=(News.rows (18:Z) nA fA))(c:_)(h:c=(News.rows (18:Z) nB fB))(b:_)(g:b=(AD a +AD d))(e:_)(f:e=(AD a +AD d +AD c)):(((0:Z)<=0/\((0:Z)+AD a)*288<=140737488355328)/\((0:Z)+AD a <=0+nA/\((0:Z)+AD a +AD c)*288<=140737488355328)/\((0:Z)<AD a/\AD a *288<=140737488355328)/\(AD a <=nA/\b *288<=140737488355328)/\(AD a +AD d <=AD a +1/\e *288<=140737488355328)/\(AD a +AD d +AD c <=AD a +AD d +nB/\okL e λq=>bif AR q b then bif AR q (AD a)then fA q else aN [MV.st [MV.int D0 (1:U),MV.big z (128:Z),MV.val (AU DW (0:Z) (0:Z)),MV.val (AU DW (0:Z) (0:Z)),MV.st [MV.big (0:U) (0:Z),MV.big (0:U) (0:Z),MV.big (0:U) (0:Z)],MV.st [MV.big (0:U) (0:Z),MV.big (0:U) (0:Z),MV.bool DU],MV.big (0:U) (0:Z)]] (q-AD a)else fB (q - b))/\((0:Z)+AD a +AD c <=0+AD a +nB/\okL ((0:Z)+AD a +AD c) λq=>bif AR q ((0:Z)+AD a)then bif AR q (0:Z)then aN [] q else fA (q-0)else fB (q-((0:Z)+AD a)))/\bif chkE (aE ((0:Z)+AD a +AD c) λq=>bif AR q ((0:Z)+AD a)then bif AR q (0:Z)then aN [] q else fA (q-0)else fB (q-((0:Z)+AD a)))==0 then bif chkE (aE e λq=>bif AR q b then bif AR q (AD a)then fA q else aN [MV.st [MV.int D0 (1:U),MV.big z (128:Z),MV.val (AU DW (0:Z) (0:Z)),MV.val (AU DW (0:Z) (0:Z)),MV.st [MV.big (0:U) (0:Z),MV.big (0:U) (0:Z),MV.big (0:U) (0:Z)],MV.st [MV.big (0:U) (0:Z),MV.big (0:U) (0:Z),MV.bool DU],MV.big (0:U) (0:Z)]] (q-AD a)else fB (q - b))==70 then (oW (aE e λq=>bif AR q b then bif AR q (AD a)then fA q else aN [MV.st [MV.int D0 (1:U),MV.big z (128:Z),MV.val (AU DW (0:Z) (0:Z)),MV.val (AU DW (0:Z) (0:Z)),MV.st [MV.big (0:U) (0:Z),MV.big (0:U) (0:Z),MV.big (0:U) (0:Z)],MV.st [MV.big (0:U) (0:Z),MV.big (0:U) (0:Z),MV.bool DU],MV.big (0:U) (0:Z)]] (q-AD a)else fB (q - b))==(↑nA:U))=T else DU=T else DU=T)=bG bHB (λ_=>C) bEL ⟨112,bEF nA nB fA fB, [⟨DU,.one (xB z)⟩],0⟩ (ppK T):=by subst j i h g f;kernel_rfl
end
section
def prt(m:Z)(l:V U)(k:Z):V U:=(l.take k).map (λx=>x+(m:U))++l.drop k
theorem aZR(m:Z)(l:V U)(k:Z):(prt m l k).length=l.length:=by
 unfold prt;rw[AS,AJ,AG,CB];omega
theorem aPc{m:Z}{l:V U}{k:Z}(h:k<l.length):(prt m l k).getD k 0=l.getD k 0:=by
 unfold prt;rw[AA,AA,AT (by rw[AJ,AG];omega),AJ,AG,BP (by omega),BJ,B2,CS]
theorem aZS{m:Z}{l:V U}{k:Z}(h:k<l.length):(prt m l k).set k (l.getD k 0+m)=prt m l (k+1):=by
 unfold prt;have e:l.drop k=l.getD k 0::l.drop (k+1):=by
  rw[AA,AC h,A8];exact CM h
 have d:l.take (k+1)=l.take k++[l.getD k 0]:=by
  rw[AA,AC h,A8];exact B5 h
 rw[e,d,DA,CT _ _ (by rw[AJ,AG];omega),AJ,AG,BP (by omega),BJ];simp
theorem aZQ(m:Z)(l:V U):prt m l l.length=l.map λx=>x+(m:U):=by
 unfold prt;rw[C2,C5,BN]
def lst(m:Z)(L:V Stp)(i:Z):V Stp:=(L.take i).map (shS m)++L.drop i
theorem aYB(m:Z)(L:V Stp)(i:Z):(lst m L i).length=L.length:=by
 unfold lst;rw[AS,AJ,AG,CB];omega
theorem aOM{m:Z}{L:V Stp}{i:Z}(h:i<L.length):(lst m L i).getD i aB=L.getD i aB:=by
 unfold lst;rw[AA,AA,AT (by rw[AJ,AG];omega),AJ,AG,BP (by omega),BJ,B2,CS]
theorem aYC{m:Z}{L:V Stp}{i:Z}(h:i<L.length):(lst m L i).set i (aA5 ((lst m L i).getD i aB) (((lst m L i).getD i aB).parts.map λx=>x+(m:U)))=lst m L (i+1):=by
 rw[aOM h];unfold lst;have e:L.drop i=L.getD i aB::L.drop (i+1):=by
  rw[AA,AC h,A8];exact CM h
 have d:L.take (i+1)=L.take i++[L.getD i aB]:=by
  rw[AA,AC h,A8];exact B5 h
 rw[e,d,DA,CT _ _ (by rw[AJ,AG];omega),AJ,AG,BP (by omega),BJ];simp[shS,aA5]
theorem aYA(m:Z)(L:V Stp):lst m L L.length=L.map (shS m):=by
 unfold lst;rw[C2,C5,BN]
theorem aU3(m:Z)(l:V U):prt m l 0=l:=by simp[prt]
theorem aTT(m:Z)(L:V Stp):lst m L 0=L:=by simp[lst]
theorem qX{S:Z->Prop}{B:Base}{Q:Exit->Act->Y->Prop}{E:Env AB}{x:Code}{s:MS}{c:Ctx}{a:Act}{w:Y}(h:bG E (λ_=>C) x s (λe s=>kQ S B Q e s/\o))(d:St S B s c a w):x.wp AB Q a w :=
 bD bT x s _ c a w Q h d (λ_ _ c' a' w' q h=>q.1 c' a' w' h) (λ_ _ _ _ h=>h.elim)
theorem aFt{S:Z->Prop}{B:Base}{Q:Exit->Act->Y->Prop}{E:Env AB}{ops:J A}{l:V A}{s:MS}{c:Ctx}{a:Act}{w:Y}(h:eG E ops.toList (λ_=>C) l s (λs=>(∀c a w,St S B s c a w->Q .normal a w)/\o))(d:St S B s c a w):wpList AB ops Q l a w :=
 cH (λ_ _ _ _ h=>h.elim) l s _ c a w h d (λ_ c' a' w' q h _=>q.1 c' a' w' h)
section
variable {w0:Nat} {S1:Nat->Prop} {b:Nat} {z:Sz} {L:List Stp} {pv bv:Nat->Value} {i k:Nat} {w w':World} {df:List Deferred} {vd:Value} {nA:Nat} {fA:Nat->MV} {P:List Int} {c:Ctx} {a:Act} {Q:Exit->Act->World->Prop} {ops:Array Oper}
theorem aMM{S:Z->Prop}{B:Base}{bx:V Box}{tm:V (Z×MV)}{np:Z}(h:St S B ⟨112,tm,bx,np⟩ c a w')(d:aW 13 tm= .int .i64 k)(e:aW 12 tm= .int .i64 i)(f:aW 11 tm= .val vd)(l:aW 7 tm= .bool DT)(j:aW 8 tm= .sl 18 nA fA)(g:aW 9 tm= .bs 0 0 L.length) :
  St S B ⟨112,ppW vd nA fA L.length i k,bx,np⟩ c a w' :=
 h.re _ _ h.mem (fa (d ▸ h.tm 13) (fa (e ▸ h.tm 12) (fa (f ▸ h.tm 11) (fa (l ▸ h.tm 7) (fa (j ▸ h.tm 8) (fa (g ▸ h.tm 9) f0))))))
set_option maxRecDepth 100000 in
theorem bHD(e:ops.toList=ppO 16)(N:NestR w0 S1 b z L pv bv L.length L.length w)(g:i<L.length)(h:St (ptS pv i S1) (pO w b z pv i df) ⟨112,ppW vd nA fA L.length i k,ptB L pv bv P,2⟩ c a w')(m:∀c' a' w'',St (ptS pv i S1) (pO w b z pv i df) ⟨112,ppW vd nA fA L.length i k,ptB L pv bv P,2⟩ c' a' w''->a'.tmps.getD 62 undef= .bool (B ((k:U)<((L.getD i aB).parts.length:U)))->Q .normal a' w''):wpList AB ops Q ops.toList a w':=by
 rw[show ops.toList=(ppO 16).take 6++(ppO 16).drop 6 by rw[AP,e]];refine fP _ a w' (aFt (E:=aK [] aC) ?_ h);rw[e];refine cast (bA7 L pv bv vd nA fA i k P _) ⟨by omega,by rw[Z8];exact g,λc1 a1 w1 d=>?_,⟨⟩⟩;rw[Z8]at d;have f:=aU9 d (N.ownP i g) (d.tm 60);have n:=d.re ((55,.int .i64 k)::(60,.bs 1 0 (L.getD i aB).parts.length)::ppW vd nA fA L.length i k) _ d.mem
  (fa (d.tm 55) (fa f (fa (d.tm 13) (fa (d.tm 12) (fa (d.tm 11) (fa (d.tm 7) (fa (d.tm 8) (fa (d.tm 9) f0))))))))
 refine aFt (E:=aK [] aC) ?_ n;rw[e];refine cast (aWv L pv bv vd nA fA i k _ P _) ⟨λo p l j=>?_,⟨⟩⟩;exact m o p l (aMM j rfl rfl rfl rfl rfl rfl) (fI (j.tm 62))
set_option maxRecDepth 100000 in
theorem bHE(e:ops.toList=ppO 18)(N:NestR w0 S1 b z L pv bv L.length L.length w)(g:i<L.length)(hk:k<(L.getD i aB).parts.length)(hP:P.length=(L.getD i aB).parts.length)(hx:0<=P.getD k 0/\P.getD k 0<=1000000)(hA:nA<=1000000)(h:St (ptS pv i S1) (pO w b z pv i df) ⟨112,ppW vd nA fA L.length i k,ptB L pv bv P,2⟩ c a w')(m:∀c' a' w'',St (ptS pv i S1) (pO w b z pv i df) ⟨112,ppW vd nA fA L.length i k,ptB L pv bv (P.set k (P.getD k 0+nA)),2⟩ c' a' w''->Q .normal a' w''):wpList AB ops Q ops.toList a w':=by
 rw[show ops.toList=(ppO 18).take 5++(ppO 18).drop 5 by rw[AP,e]];refine fP _ a w' (aFt (E:=aK [] aC) ?_ h);rw[e];refine cast (bA9 L pv bv vd nA fA i k P _) ⟨by omega,by rw[Z8];exact g,λc1 a1 w1 d=>?_,⟨⟩⟩;rw[Z8]at d;have f:=aU9 d (N.ownP i g) (d.tm 69);have n:=d.re ((69,.bs 1 0 (L.getD i aB).parts.length)::ppW vd nA fA L.length i k) _ d.mem
  (fa f (fa (d.tm 13) (fa (d.tm 12) (fa (d.tm 11) (fa (d.tm 7) (fa (d.tm 8) (fa (d.tm 9) f0)))))))
 have p:0+u (k:U)=k:=by omega
 have o:X D0 (P.getD k 0+(nA:U))=P.getD k 0+nA:=aT (by omega) (by omega);refine aFt (E:=aK [] aC) ?_ n;rw[e];refine cast (aWw L pv bv vd nA fA i k _ P _ _ rfl) ⟨by omega,by omega,by omega,by omega,λq r l j=>?_,⟨⟩⟩;rw[p,o]at j;exact m q r l (aMM j rfl rfl rfl rfl rfl rfl)
theorem jO{S:Z->Prop}{B:Base}{bx:V Box}{tm:V (Z×MV)}{np:Z}{c':Ctx}(h:St S B ⟨112,tm,bx,np⟩ c a w')(n:∀q,c'.S q->c.S q){t:Z}(m:MV)(j:aW t tm=m)(g:m.isAgg=DU)(f:m≠ .any)(d:m.isTup=DU)(l:m.clean DU=DT):Rep c' w' m (a.tmps.getD t undef) :=
 aU g f d (BG (r:=false) n (λe=>by simp at e) m _ l (b6 (j ▸ h.tm t) g f d))
set_option maxRecDepth 100000 in
theorem aUX(N:NestR w0 S1 b z L pv bv L.length L.length w)(o:i<L.length)(y:b<w.heap.size)(I:nA<=1000000)(F:∀x∈(L.getD i aB).parts,0<=x/\x<=1000000)(hpl:(L.getD i aB).parts.length<=1000000)(h:St S1 (Base.b1 w b z df) ⟨112,(13,.int .i64 0)::(12,.int .i64 i)::ppV vd nA fA L.length, [lP L pv bv],1⟩ (Ctx.b1 S1 b z) a w)(H:∀L',L'=L.set i (aA5 (L.getD i aB) ((L.getD i aB).parts.map λx=>x+(nA:U)))->∀a' w',NestR w0 S1 b z L' pv bv L'.length L'.length w'->St S1 (Base.b1 w' b z df) ⟨112,(12,.int .i64 i)::ppV vd nA fA L'.length, [lP L' pv bv],1⟩ (Ctx.b1 S1 b z) a' w'->ExtB (pO w b z pv i df) w'->Q .normal a' w'):(aZ ppM).wp AB Q a w:=by
 have l:=aVa (P:=(L.getD i aB).parts) N o;have K:=aZU N o y h (tm:=ppW vd nA fA L.length i 0)
  (fa (jO h l (.int .i64 (0:Z)) rfl rfl (by simp) rfl rfl) (fa (jO h l (.int .i64 i) rfl rfl (by simp) rfl rfl) (fa (jO h l (.val vd) rfl rfl (by simp) rfl rfl) (fa (jO h l (.bool DT) rfl rfl (by simp) rfl rfl) (fa (jO h l (.sl 18 nA fA) rfl rfl (by simp) rfl rfl) (fa (by
   obtain⟨T,cap,e,n,G⟩:=iQ (show Rep (Ctx.b1 S1 b z) w (.bs 0 0 L.length) (a.tmps.getD 9 undef) from h.tm 9);rw[e];exact aU rfl (by simp) rfl ⟨T,cap,rfl,n,G.imp (λh=>⟨h.1,.inl rfl,h.2.2⟩) id⟩) f0))))))
 have p:∀k,k<(L.getD i aB).parts.length->0<=(L.getD i aB).parts.getD k 0/\(L.getD i aB).parts.getD k 0<=1000000:=λk s=>by
  rw[AA,AC s,A8];exact F _ (C4 s)
 refine wp_block (wp_loop_ghost (λm a' w'=>∃k c',m=(L.getD i aB).parts.length-k/\k<=(L.getD i aB).parts.length/\St (ptS pv i S1) (pO w b z pv i df) ⟨112,ppW vd nA fA L.length i k,ptB L pv bv (prt nA (L.getD i aB).parts k),2⟩ c' a' w') (L.getD i aB).parts.length ⟨0,_,rfl,Z9 _,by rw[aU3];exact K⟩ ?_)
 rintro m a4 w4 ⟨k,c4,rfl,s,J⟩
 refine wp_seq (wp_seq (wp_region_list (bHD (by kernel_rfl) N o J λB R C d v=>?_)));refine wp_cond (t:=decide ((k:U)<((L.getD i aB).parts.length:U))) v ?_;by_cases f:k<(L.getD i aB).parts.length
 .rw[EB (Y0 (by omega))];refine wp_skip ?_;refine wp_seq (wp_block (wp_region_list (bHE (by kernel_rfl) N o f (aZR _ _ _) (by rw[aPc f];exact p k f) I d λc6 a6 w6 r=>?_)));rw[aPc f,aZS f]at r;refine qX (x:=aZ (aZ ppI)) (cast (bA8 L pv bv vd nA fA i k _ _) ⟨λO a7 w7 A=>?_,⟨⟩⟩) r;have M:X D0 ((k:U)+1)=((k+1:Z):U):=by rw[aT (by omega) (by omega)];omega
  rw[M]at A;exact⟨(L.getD i aB).parts.length-(k+1),by omega,k+1,O,rfl,f,aMM A rfl rfl rfl rfl rfl rfl⟩
 .rw[W (λe=>f (by have:=of_decide_eq_true e;omega))];refine wp_exit ?_;have u:k=(L.getD i aB).parts.length:=by omega
  subst u;rw[aZQ]at d;have g:=d.mem.pin 0 b z ⟨.inl rfl,rfl,rfl⟩;have j:∀q,(Ctx.b1 S1 b z).S q->B.S q:=λq hq=>by
   rcases hq with hq|hq
   .by_cases n:cS (pv i) q
    .obtain⟨E,D,p3⟩:=d.mem.pin 1 _ _ ⟨.inr ⟨rfl,q,n⟩,rfl,rfl⟩;have e:B.β 1=q:=D.trans (iJ n);rw[<-e];exact d.mem.WS _ ((d.mem.hW _).2 ⟨1,_,E,rfl,rfl,rfl⟩)
    .exact(d.mem.hS q).2 (.inl ⟨hq,n⟩)
   .rw[hq,<-g.2.1];exact d.mem.WS _ ((d.mem.hW _).2 ⟨0,_,g.1,rfl,rfl,rfl⟩)
  obtain⟨N6,r⟩:=aZV (tm':=(12,.int .i64 i)::ppV vd nA fA L.length) N o y (by rw[AJ]) d
   (fa (jO d j (.int .i64 i) rfl rfl (by simp) rfl rfl) (fa (jO d j (.val vd) rfl rfl (by simp) rfl rfl) (fa (jO d j (.bool DT) rfl rfl (by simp) rfl rfl) (fa (jO d j (.sl 18 nA fA) rfl rfl (by simp) rfl rfl) (fa (xI g.2.1 g.2.2 (d.tm 9)) f0)))))
  exact H _ rfl R C N6 (by rw[A9];exact r) d.mem.ext
end
end
section
section
variable {w0:Nat} {S1:Nat->Prop} {b:Nat} {z:Sz} {L:List Stp} {pv bv:Nat->Value} {i k:Nat} {w w':World} {df:List Deferred} {vd:Value} {nA:Nat} {fA:Nat->MV} {P:List Int} {c:Ctx} {a:Act} {Q:Exit->Act->World->Prop}
theorem Keeps.tr{g f p:Ctx}{l j o:Y}(h:Keeps g f l j)(k:Keeps f p j o)(hs:l.heap.size<=j.heap.size)(A:∀q,f.S q->g.S q)(y:∀q,f.W q->g.W q):Keeps g p l o :=
 ⟨λq d m=>h.S q d (k.S q (by omega) m),λq d m=>h.W q d (k.W q (by omega) m),λi x=>by
  obtain⟨v,u,t⟩:=h.live i x;obtain⟨q1,s,r⟩:=k.live i v;exact⟨q1,s.trans u,r.trans t⟩,λq d e=>(k.heapS q (by omega) λn=>e (A q n)).trans (h.heapS q d e),λq d e=>(k.heapW q (by omega) λn=>e (y q n)).trans (h.heapW q d e)⟩
def bK(S1:Z->Prop)(b:Z)(z:Sz)(w w':Y):Prop:=w.heap.size<=w'.heap.size/\Keeps (Ctx.b1 S1 b z).elem (Ctx.b1 S1 b z).elem w w'
theorem bK.refl:bK S1 b z w w:=⟨Z0 _,λ_ _ h=>h,λ_ _ h=>h,λ_ h=>h.elim,λ_ _ _=>rfl,λ_ _ _=>rfl⟩
theorem bK.tr{f e d:Y}(h:bK S1 b z f e)(k:bK S1 b z e d):bK S1 b z f d:=⟨AV h.1 k.1,h.2.tr k.2 h.1 (λ_ h=>h) λ_ h=>h⟩
theorem bK.b1(e:ExtB (Base.b1 w b z df) w'):bK S1 b z w w':=⟨e.size,λ_ _ h=>h,λ_ _ h=>h,λ_ h=>h.elim,λq f d=>e.block q f λe=>d (.inr e),λ_ _ h=>(h trivial).elim⟩
theorem bK.pt(N:NestR w0 S1 b z L pv bv L.length L.length w)(j:i<L.length)(e:ExtB (pO w b z pv i df) w'):bK S1 b z w w':=⟨e.size,λ_ _ h=>h,λ_ _ h=>h,λ_ h=>h.elim,λq g f=>e.block q g λd=>f (aU7 N j d).symm.symm,λ_ _ h=>(h trivial).elim⟩
theorem xP{tm:V (Z×MV)}{rest:V Box}(h:St S1 (Base.b1 w b z df) ⟨112,tm,lP L pv bv::rest,1⟩ c a w'):(∀q,(Ctx.b1 S1 b z).S q->c.S q)/\c.live 0/\c.β 0=b/\c.sz 0=z:=by
 have d:=h.mem.pin 0 b z ⟨rfl,rfl,rfl⟩;refine⟨λq hq=>?_,d⟩;rcases hq with hq|hq
 .exact(h.mem.hS q).2 (.inl hq)
 .rw[hq,<-d.2.1];exact h.mem.WS _ ((h.mem.hW _).2 ⟨0,_,d.1,rfl,rfl,rfl⟩)
theorem aRe(N:NestR w0 S1 b z L pv bv L.length L.length w){tm tm':V (Z×MV)}(h:St S1 (Base.b1 w b z df) ⟨112,tm, [lP L pv bv],1⟩ c a w')(g:∀p∈tm',Rep (Ctx.b1 S1 b z) w' p.2 (a.tmps.getD p.1 undef)) :
  NestR w0 S1 b z L pv bv L.length L.length w'/\St S1 (Base.b1 w' b z df) ⟨112,tm', [lP L pv bv],1⟩ (Ctx.b1 S1 b z) a w':=by
 obtain⟨f,e⟩:=xP h;exact⟨N.frame h.mem.ext S1 (λq d=>d) (λq d=>.inl d) λq d=>⟨h.mem.Slt q (f q (.inl d)),(N.S0 q d).2⟩,
  h.one (F':=kN L pv bv) rfl e.1 e.2.1 e.2.2 S1 (λq d=>⟨f q (.inl d),(N.S0 q d).2⟩) (λ_ _ _ h=>h) tm' g⟩
theorem aUV{tm:V (Z×MV)}{rest:V Box}(h:St S1 (Base.b1 w b z df) ⟨112,tm,lP L pv bv::rest,1⟩ c a w')(j:aW 7 tm= .bool DT)(g:aW 8 tm= .sl 18 nA fA)(f:aW 9 tm= .bs 0 0 L.length) :
  ∀p∈ppU nA fA L.length,Rep (Ctx.b1 S1 b z) w' p.2 (a.tmps.getD p.1 undef):=by
 obtain⟨e,d⟩:=xP h;exact fa (jO h e (.bool DT) j rfl (by simp) rfl rfl) (fa (jO h e (.sl 18 nA fA) g rfl (by simp) rfl rfl) (fa (xI d.2.1 d.2.2 (f ▸ h.tm 9)) f0))
theorem aET{tm:V (Z×MV)}{rest:V Box}(h:St S1 (Base.b1 w b z df) ⟨112,tm,lP L pv bv::rest,1⟩ c a w')(d:aW 11 tm= .val vd)(g:aW 7 tm= .bool DT)(f:aW 8 tm= .sl 18 nA fA)(e:aW 9 tm= .bs 0 0 L.length) :
  ∀p∈ppV vd nA fA L.length,Rep (Ctx.b1 S1 b z) w' p.2 (a.tmps.getD p.1 undef) :=
 fa (jO h (xP h).1 (.val vd) d rfl (by simp) rfl rfl) (aUV h g f e)
theorem bIa{tm:V (Z×MV)}{n:Z}(h:St S1 (Base.b1 w b z df) ⟨n,tm, [lP L pv bv],1⟩ (Ctx.b1 S1 b z) a w'):b<w'.heap.size:=by
 obtain⟨arr,ty,q1,_⟩:=h.mem.box 0 _ rfl rfl;exact(AY.1 q1).1
structure PpK (wS:World) (S1:Nat->Prop) (b:Nat) (z:Sz) (d:Nat) (w w':World):Prop where
 ext:Ext wS w'
 kp:bK S1 b z w w'
 hd:w'.heap[d]? =w.heap[d]?
set_option maxRecDepth 100000 in
theorem aUY{wS:D4}{d:D1}(N:NestR w0 S1 b z L pv bv L.length L.length w)(hl:L.length<=1000000)(R:nA<=1000000)(v:∀s∈L,s.parts.length<=1000000/\∀x∈s.parts,0<=x/\x<=1000000)(I:d<w.heap.size)(g:d≠b)(H:∀j q,j<L.length->cS (pv j) q->q≠d)(F:wS.heap.size<=w0)(n:wS.heap.size<=b)(B:Ext wS w)(h:St S1 (Base.b1 w b z df) ⟨112,(12,.int .i64 0)::ppV vd nA fA L.length, [lP L pv bv],1⟩ (Ctx.b1 S1 b z) a w)(O:∀L',L'=L.map (shS nA)->∀a' w',NestR w0 S1 b z L' pv bv L'.length L'.length w'->St S1 (Base.b1 w' b z df) ⟨112,ppV vd nA fA L'.length, [lP L' pv bv],1⟩ (Ctx.b1 S1 b z) a' w'->PpK wS S1 b z d w w'->Q .normal a' w'):(aZ (bR aUW)).wp AB Q a w:=by
 refine wp_block (wp_loop_ghost (λm a' w'=>∃i L',m=L.length-i/\i<=L.length/\L'=lst nA L i/\NestR w0 S1 b z L' pv bv L'.length L'.length w'/\St S1 (Base.b1 w' b z df) ⟨112,(12,.int .i64 i)::ppV vd nA fA L'.length, [lP L' pv bv],1⟩ (Ctx.b1 S1 b z) a' w'/\PpK wS S1 b z d w w') L.length ⟨0,L,rfl,Z9 _,(aTT _ _).symm,N,h,B,.refl,rfl⟩ ?_)
 rintro m a4 u ⟨i,L',rfl,hi,eL,N4,T,K4⟩
 have hlen:L'.length=L.length:=by rw[eL,aYB]
 refine wp_seq (qX (x:=bR ppL) (cast (bA4 L' pv bv vd nA fA i _) (aI Z4 (λhlt=>⟨λc5 M o f=>?_,⟨⟩⟩) (λhge=>⟨λc5 M o f=>?_,⟨⟩⟩))) T)
 .have r:i<L'.length:=by omega
  obtain⟨N5,E⟩:=aRe (tm':=(12,.int .i64 i)::ppV vd nA fA L'.length) N4 f (fa (jO f (xP f).1 (.int .i64 i) rfl rfl (by simp) rfl rfl) (aET f rfl rfl rfl rfl));refine wp_seq (wp_block (wp_seq (qX (x:=bR ppM) (cast (bA6 L' pv bv vd nA fA i _) ⟨λc6 a6 t l=>?_,⟨⟩⟩) E)));obtain⟨N6,J⟩:=aRe (tm':=(13,.int .i64 0)::(12,.int .i64 i)::ppV vd nA fA L'.length) N5 l (fa (jO l (xP l).1 (.int .i64 0) rfl rfl (by simp) rfl rfl) (fa (jO l (xP l).1 (.int .i64 i) rfl rfl (by simp) rfl rfl) (aET l rfl rfl rfl rfl)));have A:L'.getD i aB=L.getD i aB:=by rw[eL,aOM (by omega)]
  have y:=v (L.getD i aB) (by rw[AA,AC (show i<L.length by omega)];exact C4 _);refine aUX N6 r (bIa J) R (by rw[A];exact y.2) (by rw[A];exact y.1) J λL2 K a7 D N7 S C=>?_;have hlen2:L2.length=L'.length:=by rw[K,A9]
  refine qX (x:=aZ (aZ ppL)) (cast (bA5 L2 pv bv vd nA fA i _) ⟨λc8 a8 w8 p=>?_,⟨⟩⟩) S;have Z:D9 D0 ((i:EA)+1)=((i+1:D1):EA):=by rw[aT (by omega) (by omega)];omega
  rw[Z]at p;obtain⟨N8,U⟩:=aRe (tm':=(12,.int .i64 (i+1:D1))::ppV vd nA fA L2.length) N7 p (fa (jO p (xP p).1 (.int .i64 (i+1:D1)) rfl rfl (by simp) rfl rfl) (aET p rfl rfl rfl rfl));have s45:u.heap.size<=o.heap.size:=f.mem.ext.size;have s56:o.heap.size<=t.heap.size:=l.mem.ext.size;have s67:t.heap.size<=D.heap.size:=C.size;have d4:d<u.heap.size:=AM I K4.kp.1;refine⟨L.length-(i+1),by omega,i+1,L2,rfl,by omega,?_,N8,U,((((K4.ext.b1 n f.mem.ext).b1 n l.mem.ext) |> λe=>ExtB.ext (b:=pO t b z pv i df) e C λq hq=>?_)).b1 n p.mem.ext,((((K4.kp.tr (.b1 f.mem.ext)).tr (.b1 l.mem.ext)).tr (.pt N6 r C)).tr (.b1 p.mem.ext)),?_⟩
  .rw[K,eL,<-aYC (by omega)]
  .rcases wO hq with hq|hq
   .omega
   .exact AV F (N6.inP i q r hq).2
  .have V:w8.heap[d]? =D.heap[d]? :=p.mem.ext.block d (show d<D.heap.size by omega) g;have W:D.heap[d]? =t.heap[d]? :=C.block d (show d<t.heap.size by omega) λv=>(wO v).elim g λv=>H i d (by omega) v rfl;have X:t.heap[d]? =o.heap[d]? :=l.mem.ext.block d (show d<o.heap.size by omega) g;have Y:o.heap[d]? =u.heap[d]? :=f.mem.ext.block d d4 g;exact V.trans (W.trans (X.trans (Y.trans K4.hd)))
 .obtain⟨N5,E⟩:=aRe (tm':=ppV vd nA fA L'.length) N4 f (aET f rfl rfl rfl rfl);have G:i=L.length:=by omega
  have d4:d<u.heap.size:=AM I K4.kp.1;exact O L' (by rw[eL,G,aYA]) M o N5 E ⟨K4.ext.b1 n f.mem.ext,K4.kp.tr (.b1 f.mem.ext),(show o.heap[d]? =u.heap[d]? from f.mem.ext.block d d4 g).trans K4.hd⟩
end
end
theorem St.mk1{S1:Z->Prop}{b n:Z}{z:Sz}{c:Box}{tm:V (Z×MV)}{a:Act}{w:Y}(u:c.fz=DU)(v:b<w.heap.size)(x:∀q,S1 q->q<w.heap.size/\q≠b)(m:GW (λq=>S1 q\/q=b) w)(l:BoxRep (Ctx.b1 S1 b z) w 0 c)(r:∀p∈tm,Rep (Ctx.b1 S1 b z) w p.2 (a.tmps.getD p.1 undef))(k:a.tmps.size=n):St S1 (Base.b1 w b z a.defers) ⟨n,tm, [c],1⟩ (Ctx.b1 S1 b z) a w:=by
 refine⟨⟨ExtB.refl1 w b z _,x,⟨m.sub λq h=>.inl h,λg t e=>(m g t).1 (.inr e)⟩,λq=>Iff.rfl,λq=>⟨λh=>⟨0,_,rfl,rfl,u,h.symm⟩,λ⟨i,o,_,_,_,e⟩=>e.symm⟩,λi j d s _=>by rw[show i=0 from d,show j=0 from s],λi d=>⟨.inr rfl,v,by rw[show i=0 from d];exact CG⟩,λi o d f=>?_,λi q z' ⟨B,A,y⟩=>⟨B,A.symm,y.symm⟩⟩,aLE tm r,k,rfl,λi q z' e=>?_⟩
 .have d:i=0:=d;subst d;have f:DV c=DV o:=f;obtain rfl:=AW f;exact l
 .obtain⟨e,_⟩:=e
  grind [qQ,oE]
set_option maxRecDepth 100000 in
theorem bIt{S:Z->Prop}{B:Base}{c:Ctx}{a:Act}{w:Y}{ops:D5 D6}{Q:Exit->Act->Y->Prop}{H z y t q p wr:U}{nA:Z}{fA:Z->MV}(L:ops.toList=ppO 5)(A:MdIn t q p)(h:St S B ⟨112,(8,.sl 18 nA fA)::(7,.bool DT)::aCC wr,aK5 H z y t q p,0⟩ c a w){M:V Stp}(P:M=mdL t.toNat q.toNat p.toNat)(R:okT M)(T:0<M.length)(O:∀N o K,St S B ⟨112, [(8,.sl 18 nA fA),(7,.bool DT),(2,.int .u16 wr)],aK5 H z y t q p,0⟩ N o K->∀l b cap S1 pv G,Copied N.S K M (.returned (.slice (DV ⟨b,0,DW⟩) M.length cap)) l b cap S1 pv G->∀g:Act,g.tmps.getD 9 undef= .slice (DV ⟨b,0,DW⟩) M.length cap->g.tmps.getD 8 undef=o.tmps.getD 8 undef->
   g.tmps.getD 7 undef=o.tmps.getD 7 undef->g.tmps.getD 2 undef=o.tmps.getD 2 undef->g.defers=o.defers->g.tmps.size=112->Q .normal g l):wpList AB ops Q ops.toList a w:=by
 rw[show ops.toList=(ppO 5).take 2++(ppO 5).drop 2 by rw[AP,L]];refine fP _ a w (aFt (E:=aRd) ?_ h);rw[L];refine cast (bFK H z y t q p wr nA fA _) ⟨⟨A.a,A.n,A.r⟩,λF k l i=>?_,⟨⟩⟩;rw[<-P]at i;have d:k.tmps.size=112:=i.size;have I:Rep1 F l (.sl 18 M.length (aF M 200)) (k.tmps.getD 23 undef):=(bF rfl).1 (show Rep F l (.sl 18 M.length (aF M 200)) (k.tmps.getD 23 undef) from i.tm 23);have j:=i.mem;refine tM rfl (f:=29) (args:=#[k.tmps.getD 23 undef]) (by simp[execOp,resolve,Deferred.ofValue,invoke,BT,Tryz.call29])
  (aQk R T (λb D=>j.Slt b D) j.gw ⟨_, [],rfl,Rep1.clean (r:=false) (λb D=>D) (λe=>by simp at e) rfl I,rfl⟩) (λv x s=>?_) (λch x s=>?_) (λx s=>?_)
 case refine_2=>obtain⟨_,_,_,_,_,C⟩:=s;have:=C.res;simp at this
 case refine_3=>obtain⟨_,_,_,_,_,C⟩:=s;have:=C.res;simp at this
 obtain⟨b,cap,S1,pv,G,C⟩:=s;obtain rfl:v= .slice (DV ⟨b,0,DW⟩) M.length cap:=by simpa using C.res
 have J:(k.put (DV 24) (.slice (DV ⟨b,0,DW⟩) M.length cap)).tmps.getD 24 undef= .slice (DV ⟨b,0,DW⟩) M.length cap:=aAy (by rw[d];decide);refine pQ rfl (v:= .slice (DV ⟨b,0,DW⟩) M.length cap) (by simp only[execOp,show BT _ (.tmp 24)=_ from J];simp) λg m=>?_;have u:g.tmps.size=112:=by rw[m];simp[BE,d]
 refine wpList_nil ?_;exact O F k l (i.re _ _ j (fa (i.tm 8) (fa (i.tm 7) (fa (i.tm 2) f0)))) x b cap S1 pv G C g (by rw[m];exact aAy (by simp[BE,d])) (by rw[m,lJ _ (by simp),lJ _ (by simp)]) (by rw[m,lJ _ (by simp),lJ _ (by simp)]) (by rw[m,lJ _ (by simp),lJ _ (by simp)]) (by rw[m];rfl) u
theorem aFh{n:Z}{f:Z->MV}{X:V Stp}(a:X.length=n)(h:∀i,i<n->m7 (f i)=X.getD i aB):aE n f=X:=by
 refine List.ext_getElem (by rw[dG,a]) λi h1 b=>?_;have e:=h i (by omega);rw[AA,AC b,A8]at e;rw[<-e];simp[aE]
theorem aLD{A:V Stp}{i:Z}(hi:i<=A.length):aE i (aF A 200)=A.take i:=by
 refine aFh (by rw[AG];omega) λj a=>?_;show m7 (m8 _ _)=_;rw[tC,AA,AA,CV,O a]
def aQq(A B:V Stp):Z->MV:=λq=>bif AR q (0+A.length)then (bif AR q 0 then aN [] q else aF A 200 (q-0))else aF B 200 (q-(0+A.length))
theorem aNH{a b:Z}(h:a<b):AR a b=DT:=by simpa [BB]using h
theorem aNG{a b:Z}(h:¬a<b):AR a b=DU:=by
 cases c:AR a b with
 |false=>rfl
 |true=>exact M (by simpa [BB]using c) h
theorem aOk(A B:V Stp){q:Z}(hq:q<A.length+B.length):aQq A B q=m8 ((A++B).getD q aB) 200:=by
 unfold aQq;rw[A3];by_cases h:q<A.length
 .rw[aNH h,Z6,aNG (AL q),Z5,Nat.sub_zero,AA,CL h];show m8 (A.getD q aB) 200=_;rw[AA]
 .rw[aNG h,Z5,AA,AT (by omega)];show m8 (B.getD _ aB) 200=_;rw[AA]
def aL5(A B:V Stp)(z:U):Z->MV:=λq=>bif AR q (A.length+1)then (bif AR q A.length then aF A 200 q else aN [xB z] (q-A.length))else aF B 200 (q-(A.length+1))
theorem aOl(A B:V Stp)(z:U)(q:Z):aL5 A B z q=if q=A.length then xB z else m8 ((A++aBc z::B).getD q aB) 200:=by
 unfold aL5;by_cases h:q<A.length
 .rw[aNH (show q<A.length+1 by omega),Z6,aNH h,Z6,W (by omega),AA,CL h];show m8 (A.getD q aB) 200=_;rw[AA]
 .by_cases a:q=A.length
  .subst a;rw[aNH (Nat.lt_succ_self _),Z6,aNG (Nat.lt_irrefl _),Z5,BJ,O rfl];rfl
  .rw[aNG (show ¬q<A.length+1 by omega),Z5,W a,AA,AT (by omega),show q-A.length=(q-(A.length+1))+1 by omega,List.getElem?_cons_succ];show m8 (B.getD _ aB) 200=_;rw[AA]
theorem aSm{z:U}(b:z.natAbs<2^160):isOk (xB z):=by
 have a:(0:Z)<=200:=by omega
 exact jZ a a a a a a sN lV b (Z9 _) (Z9 _)
theorem aSl{z:U}(hz:0<=z):m7 (xB z)=aBc z:=by
 show(⟨1,B (z<0),aA z.natAbs, [], [],0,0,0,0,0,DU,0⟩:Stp)=_;rw[Y1 (by omega)];rfl
theorem aYM{A B:V Stp}(d:okT A)(c:okT B)(b:A.length+B.length<=1000000):okT (A++B):=⟨by rw[AS];exact b,λs a=>(A5.1 a).elim (d.ok s) (c.ok s)⟩
theorem bDu{B:V Stp}(a:okT B)(k:U):okT (B.map (shS k)):=⟨by rw[AJ];exact a.len,λs c=>by
 obtain⟨x,b,rfl⟩:=CQ.1 c;have h:=a.ok x b;exact⟨h.wd,h.len,by show(x.parts.map _).length<=90;rw[AJ];exact h.parts,h.base⟩⟩
theorem bGP{A B:V Stp}(d:okT A)(c:okT B)(b:A.length+B.length<=1000000):okL (0+A.length+B.length) (aQq A B)/\aE (0+A.length+B.length) (aQq A B)=A++B:=by
 have e:aE (0+A.length+B.length) (aQq A B)=A++B:=aFh (by rw[AS];omega) λi hi=>by rw[aOk A B (by omega),tC]
 refine⟨⟨by omega,λj hj=>by rw[aOk A B (by omega)];exact p8 _ 200,λs a=>?_⟩,e⟩;rw[e]at a;exact(aYM d c b).ok s a
theorem bGQ{A B:V Stp}{z:U}(g:okT A)(f:okT B)(hl:A.length+B.length<=999999)(c:0<=z)(a:z.natAbs<2^160):okL (A.length+1+B.length) (aL5 A B z)/\aE (A.length+1+B.length) (aL5 A B z)=A++aBc z::B:=by
 have d:okS (aBc z):=by have:=(aSm a).ok;rw[aSl c]at this;exact this
 have e:aE (A.length+1+B.length) (aL5 A B z)=A++aBc z::B:=aFh (by rw[AS,BL];omega) λi hi=>by
  rw[aOl];by_cases h:i=A.length
  .rw[O h,aSl c,h,AA,AT (Z0 _),BJ];rfl
  .rw[W h,tC]
 refine⟨⟨by omega,λj hj=>?_,λs b=>?_⟩,e⟩
 .rw[aOl];by_cases h:j=A.length
  .rw[O h];exact(aSm a).stp
  .rw[W h];exact p8 _ 200
 .rw[e]at b;rcases A5.1 b with h|h
  .exact g.ok s h
  .rcases BX.1 h with rfl|h
   .exact d
   .exact f.ok s h
set_option maxRecDepth 100000 in
theorem bEM{A B:V Stp}{z:U}(b:okT A)(a:okT B)(e:A.length+B.length<=999999)(f:1<=A.length)(g:0<=z)(d:z.natAbs<2^160)(l:chkE (A++B)=0)(c:chkE (A++aBc z::B)=70/\oW (A++aBc z::B)=A.length) :
  bG bHB (λ_=>C) bEL ⟨112,bEF A.length B.length (aF A 200) (aF B 200), [⟨DU,.one (xB z)⟩],0⟩ (ppK DT):=by
 obtain⟨k,j⟩:=bGP b a (by omega);obtain⟨i,h⟩:=bGQ b a e g d;refine cast (bFM A.length B.length (aF A 200) (aF B 200) z DT _ rfl _ rfl _ rfl _ rfl _ rfl) ⟨⟨Z0 _,?_⟩,⟨Z0 _,?_⟩,⟨f,?_⟩,⟨Z0 _,?_⟩,⟨Z0 _,?_⟩,⟨Z0 _,i⟩,⟨Z0 _,k⟩,?_⟩
 .show(0+A.length)*288<=_;omega
 .show(0+A.length+B.length)*288<=_;omega
 .show A.length*288<=_;omega
 .show(A.length+1)*288<=_;omega
 .show(A.length+1+B.length)*288<=_;omega
 .show(bif chkE (aE (0+A.length+B.length) (aQq A B))==0 then bif chkE (aE (A.length+1+B.length) (aL5 A B z))==70 then (oW (aE (A.length+1+B.length) (aL5 A B z))==(A.length:U))=DT else DU=DT else DU=DT);rw[j,h,l,c.1,c.2];exact beq_self_eq_true _
theorem bEN(a:Act)(w:Y):(results DG a.tmps).run AB w= .ok (a.tmps.getD 6 undef) w:=by
 simp[results,Tryz.results7]
theorem aZ9{c c':Ctx}{w w':Y}(k:Keeps c.elem c'.elem w w'){wd n:Z}{f:Z->MV}{v:R}(h:Rep c w (.sl wd n f) v):Rep c' w' (.sl wd n f) v :=
 aU rfl (by simp) rfl (aAC (BI k _ _ (BG (r:=false) (c':=c.elem) (λ_ h=>h) (λe=>by simp at e) _ _ rfl (b6 h rfl (by simp) rfl))))
set_option maxRecDepth 100000 in
set_option maxHeartbeats 1000000 in
theorem aUJ{S:D1->Prop}{w:D4}{P M t O K p wr:EA}{args:D5 D3}(hm1:MdIn P M t)(hm2:MdIn O K p)(hw:0<=wr/\wr<=65535)(hS:∀b,S b->b<w.heap.size)(hG:GW S w)(ha:RepAll (B8 S) w [dM P M t,dM O K p,.int .u16 wr] args.toList):Calls AB 7 args w λe w'=>Ext w w'/\(MRes.ret (.bool DT)).holds (BV S) w' e:=by
 have Y:=St.start (n:=112) hS hG ha (by simp);refine calls_of_wp Tryz.func7 rfl ?_;refine wp_seq (qX (x:=bR ppC) (cast (bFG P M t O K p wr _) ⟨λc1 x1 w1 N=>?_,⟨⟩⟩) Y);refine wp_seq (qX (x:=bR bEG) (cast (bFH P M t O K p wr _) ⟨λc2 x2 w2 F=>?_,⟨⟩⟩) (N.re (aCC wr) (aK5 P M t O K p) N.mem (fa (N.tm 2) (fa (N.tm 3) (fa (N.tm 4) (fa (N.tm 6) f0))))));refine wp_seq (qX (x:=bR bEH) (cast (bFI P M t O K p wr _) ⟨λc3 x3 w3 R=>?_,⟨⟩⟩) (F.re ((7,.bool DT)::aCC wr) _ F.mem (fa (F.tm 7) (fa (F.tm 2) (fa (F.tm 3) (fa (F.tm 4) (fa (F.tm 6) f0)))))));refine wp_seq (qX (x:=bR bEI) (cast (bFJ P M t O K p wr _ _ rfl) ⟨⟨hm1.a,hm1.n,hm1.r⟩,λc4 x4 w4 Q=>?_,⟨⟩⟩) (R.re ((7,.bool DT)::aCC wr) _ R.mem (fa (R.tm 7) (fa (R.tm 2) (fa (R.tm 3) (fa (R.tm 4) (fa (R.tm 6) f0)))))));have MA:=aT0 P.toNat M.toNat t.toNat;have MB:=aT0 O.toNat K.toNat p.toNat;generalize hAe:mdL P.toNat M.toNat t.toNat=A at *;generalize hBe:mdL O.toNat K.toNat p.toNat=B at MB;have lA:=MA.len;have lB:=MB.len;have pA:=MA.pos;have pB:=MB.pos;refine wp_seq (wp_region_list (bIt (by kernel_rfl) hm2 (Q.re ((8,.sl 18 A.length (aF A 200))::(7,.bool DT)::aCC wr) (aK5 P M t O K p) Q.mem (fa (Q.tm 8) (fa (Q.tm 7) (fa (Q.tm 2) (fa (Q.tm 3) (fa (Q.tm 4) (fa (Q.tm 6) f0))))))) hBe.symm MB.ok (by omega) λc5 x5 w5 h5 w6 b cap S1 pv bv C x6 G g8 g7 g2 gd gs=>?_));clear N F R Q Y ha hAe hBe;have hd5:x5.defers=[]:=h5.defers;have hE5:Ext w w5:=h5.mem.ext.plain;have hE6:Ext w w6:=hE5.trans C.ext;have s05:=hE5.size;have hb5:=C.hb;have hblt:b<w6.heap.size:=by
  obtain⟨arr,ty,q1,_⟩:=C.box;exact(AY.1 q1).1
 have hG6:GW (λq=>S1 q\/q=b) w6:=λg hg=>by
  obtain⟨q1,q2,arr,ty,fr,q3,q4⟩:=h5.mem.gw g hg;have:=C.ext.size;exact⟨λh=>h.elim (λh=>(C.sup g h).elim q1 λh=>by omega) λh=>by omega,by omega,arr,ty,fr,by rw[C.ext.block g q2];exact q3,q4⟩
 have kk:Keeps c5.elem (Ctx.b1 S1 b ⟨cap*18,18⟩).elem w5 w6:=⟨λq hq E=>(show S1 q\/q=b from E).elim (λE=>(C.sup q E).elim id λh=>by omega) λe=>by omega,λ_ _ h=>h,λ_ h=>h.elim,λq hq _=>C.ext.block q hq,λ_ _ h=>(h trivial).elim⟩;have N0:=C.nest;have h6:=St.mk1 (n:=112) (tm:=(2,.int .u16 wr)::ppU A.length (aF A 200) B.length) rfl hblt N0.S0 hG6 C.box
  (fa (by show Rep _ _ _ (x6.tmps.getD 2 undef);rw[g2,cL (show Rep c5 w5 (.int .u16 wr) (x5.tmps.getD 2 undef) from h5.tm 2)];exact cG _ _) (fa (by show Rep _ _ _ (x6.tmps.getD 7 undef);rw[g7,fI (show Rep c5 w5 (.bool DT) (x5.tmps.getD 7 undef) from h5.tm 7)];exact eJ _) (fa (by show Rep _ _ _ (x6.tmps.getD 8 undef);rw[g8];exact aZ9 kk (h5.tm 8)) (fa (by
   show Rep _ _ _ (x6.tmps.getD 9 undef);rw[G];exact aU rfl (by simp) rfl ⟨_,cap,rfl,C.hcap,.inl ⟨rfl,rfl,by show 0+cap*18=cap*18;omega⟩⟩) f0)))) gs
 rw[gd,hd5]at h6;have W:∀q,S q->S1 q:=λq hq=>C.sub q ((h5.mem.hS q).2 (.inl hq));have hw0:w.heap.size<=w5.heap.size:=s05;have h56:=C.ext.size;clear C kk G g8 g7 g2;generalize (⟨cap*18,18⟩:Sz)=z at *
 refine wp_seq (aFs (x:=bR bEJ) (cast (bFL A B pv bv wr _ _ rfl _ rfl _ rfl) ⟨⟨1,⟨Z0 _,by omega⟩,⟨rfl,⟨rfl,rfl,BF⟩,⟨rfl,rfl⟩,rfl,rfl,⟨⟩⟩,⟨rfl,BF⟩,⟨⟩⟩,λi hi=>aI Z4 (λq1=>?_) λq1=>λc7 x7 w7 h7=>?_⟩) h6)
 .have e4:D9 D0 ((i:EA)+1)=((i+1:D1):EA):=by rw[aT (by omega) (by omega)];omega
  have hi2:i<=A.length:=by omega
  rw[Z8,aLD hi2,aGW (aMT MA.right i) (by rw[AG];omega),e4];refine⟨⟨by omega,q1⟩,⟨by omega,λj _=>p8 _ 200,λs E=>?_⟩,?_⟩
  .rw[aLD hi2]at E;exact MA.ok.ok s (List.mem_of_mem_take E)
  .exact⟨i+1,by omega,⟨⟨rfl,⟨rfl,rfl,BF⟩,⟨rfl,rfl⟩,rfl,rfl,⟨⟩⟩,⟨rfl,BF⟩,⟨⟩⟩,by omega⟩
 have hE7:Ext w w7:=hE6.b1 (by omega) h7.mem.ext;obtain⟨N7,g7⟩:=aRe (tm':=(2,.int .u16 wr)::ppU A.length (aF A 200) B.length) N0 h7 (fa (jO h7 (xP h7).1 (.int .u16 wr) rfl rfl (by simp) rfl rfl) (aUV h7 rfl rfl rfl));have s67:w6.heap.size<=w7.heap.size:=h7.mem.ext.size
 have e1:D9 D0 (2+D9 D0 (tmod wr 200))=2+wr%200:=by
  have u2:D9 D0 (wr%200)=wr%200:=aT (by omega) (by omega);rw[Int.tmod_eq_emod_of_nonneg hw.1,u2,aT (by omega) (by omega)]
 have e2:D9 D0 (2+D9 D0 (D9 u16 (tdiv wr 200)))=2+wr/200:=by
  have u:D9 u16 (wr/200)=wr/200:=by
   have:D9 u16 (wr/200)=(wr/200)%65536:=by simp[D9,BY,BO]
   rw[this];omega
  have u2:D9 D0 (wr/200)=wr/200:=aT (by omega) (by omega);rw[Int.tdiv_eq_ediv_of_nonneg hw.1,u,u2,aT (by omega) (by omega)]
 refine wp_seq (qX (x:=bR bEK) (cast (bA2 A B pv bv wr _ _ rfl _ rfl _ rfl _ rfl _ rfl) ⟨by omega,by rw[e1];omega,by omega,by rw[e2];omega,by omega,λf x8 w8 l=>?_,⟨⟩⟩) g7);rw[e1,e2]at l;have hz2:2<=2+wr%200/\2+wr%200<=201:=by omega
 have hz3:2<=2+wr/200/\2+wr/200<=400:=by omega
 have hbad:∀ns,bW ns (aBc ((2+wr%200)*(2+wr/200)))=DU:=λns=>aP8 hz2.1 hz3.1 ns;have hzz:0<=(2+wr%200)*(2+wr/200)/\((2+wr%200)*(2+wr/200)).natAbs<2^160:=by
  have N:0<=(2+wr%200)*(2+wr/200):=DE (by omega) (by omega);have F:(2+wr%200)*(2+wr/200)<=201*400:=Int.mul_le_mul hz2.2 hz3.2 (by omega) (by omega);have R:(2:D1)^160=1461501637330902918203684832716283019655932542976:=rfl;omega
 generalize (2+wr%200)*(2+wr/200)=J at *;obtain⟨l1,e11⟩:=kL (show Rep f w8 (.bp 1 0) (x8.tmps.getD 11 undef) from l.tm 11);obtain⟨hnS,hl0,hβ0,hz0⟩:=xP l;have hdlt:f.β 1<w8.heap.size:=(l.mem.fresh 1 l1).2.1;have H:f.β 1≠b:=λe=>D8 (l.mem.inj 1 0 l1 hl0 (e.trans hβ0.symm)) (by decide);have hd7:w7.heap.size<=f.β 1:=(l.mem.fresh 1 l1).1.elim id λh=>D8 h H;have hdS:f.S (f.β 1):=l.mem.WS _ ((l.mem.hW _).2 ⟨1,_,l1,rfl,rfl,rfl⟩);obtain⟨arr,ty,q1,q2,q3,cs,q4,q5⟩:=l.mem.box 1 _ l1 rfl;have I:∀q,S1 q\/q=f.β 1->f.S q/\q≠b:=λq hq=>hq.elim (λhq=>⟨hnS q (.inl hq),(N7.S0 q hq).2⟩) λhq=>by rw[hq];exact⟨hdS,H⟩
 have N8:=N7.frame l.mem.ext (λq=>S1 q\/q=f.β 1) (λq hq=>.inl hq) (λq hq=>hq.imp id λhq=>by rw[hq];exact hd7) (λq hq=>⟨l.mem.Slt q (I q hq).1,(I q hq).2⟩);have V:∀q,(Ctx.b1 (λq=>S1 q\/q=f.β 1) b z).S q->f.S q:=λq hq=>hq.elim (λhq=>(I q hq).1) λhq=>by rw[hq];exact hnS b (.inr rfl)
 have q6:RepC (Ctx.b1 (λq=>S1 q\/q=f.β 1) b z).elem w8 (xB J) cs:=BG (r:=false) V (λe=>by simp at e) (xB J) _ rfl q4;have h9:=l.one (b:=b) (F':=kN B pv bv) rfl hl0 hβ0 hz0 (λq=>S1 q\/q=f.β 1) I (λ_ _ _ h=>h) (ppV (.pointer (DV ⟨f.β 1,0,DW⟩)) A.length (aF A 200) B.length)
  (fa (by rw[e11];exact aU rfl (by simp) rfl ⟨rfl,rfl⟩) (fa (jO l V (.bool DT) rfl rfl (by simp) rfl rfl) (fa (jO l V (.sl 18 A.length (aF A 200)) rfl rfl (by simp) rfl rfl) (fa (xI hβ0 hz0 (l.tm 9)) f0))))
 have hE8:Ext w w8:=hE7.b1 (by omega) l.mem.ext;have hdv:∀j q,j<B.length->cS (pv j) q->q≠f.β 1:=λj q D hq=>by
  have:=(N7.S0 q (N7.inP j q D hq).1).1;omega
 have hdw:w.heap.size<=f.β 1:=by omega
 generalize hdd:f.β 1=d at *;generalize hsd:f.sz 1=zd at *;clear h6 h7 l g7 N0 hnS I V q4 hdS
 refine wp_seq (wp_seq (qX (x:=bR (bR aUW)) (cast (bA3 B pv bv (.pointer (DV ⟨d,0,DW⟩)) A.length (aF A 200) _) ⟨λc9 x9 w9 G=>?_,⟨⟩⟩) h9));obtain⟨N9,f9⟩:=aRe (tm':=(12,.int .i64 0)::ppV (.pointer (DV ⟨d,0,DW⟩)) A.length (aF A 200) B.length) N8 G (fa (jO G (xP G).1 (.int .i64 0) rfl rfl (by simp) rfl rfl) (aET G rfl rfl rfl rfl));have hE9:Ext w w9:=hE8.b1 (by omega) G.mem.ext;have s89:w8.heap.size<=w9.heap.size:=G.mem.ext.size;have d9:w9.heap[d]? =w8.heap[d]? :=G.mem.ext.block d hdlt H;have k9:bK (λq=>S1 q\/q=d) b z w8 w9:= .b1 G.mem.ext;have hpl:∀s∈B,s.parts.length<=1000000/\∀x∈s.parts,0<=x/\x<=1000000:=λs E=>by
  have N:=(MB.ok.ok s E).parts;refine⟨by omega,λx hx=>?_⟩;have:=aLh B [] MB.right s E x hx;rw[CF]at this;omega
 refine aUY N9 (by omega) (by omega) hpl (by omega) H hdv (wS:=w) hw0 (by omega) hE9 f9 λL' eL o U N10 m K10=>?_;have hlen:L'.length=B.length:=by rw[eL,AJ]
 have k10:=k9.tr K10.kp;have d10:=K10.hd.trans d9;have sK:=k10.1
 have hC1:chkE (A++L')=0:=by rw[eL];exact aS9 MA.right MB.right pA
 have hC2:=aXR (L:=A) (T:=L') MA.right (hbad (nums A));have hokL:okT L':=by rw[eL];exact bDu MB.ok _
 have y:∀q,(cJ S [⟨DU,.one (xB J)⟩] (λk=>k=0) (λ_=>d) (λ_=>zd)).S q->(Ctx.b1 (λq=>S1 q\/q=d) b z).S q:=λq hq=>by
  rcases hq with hq|⟨k,_,_,_,_,e⟩
  .exact .inl (.inl (W q hq))
  .exact .inl (.inr e.symm)
 have e11':o.tmps.getD 11 undef= .pointer (DV ⟨d,0,DW⟩):=(dF (show Rep _ U (.val (.pointer (DV ⟨d,0,DW⟩))) (o.tmps.getD 11 undef) from m.tm 11)).1;have hst:=St.fresh (S1:=S) (w:=U) (bx:=[⟨DU,.one (xB J)⟩]) (β:=λ_=>d) (sz:=λ_=>zd) (live:=λk=>k=0) (n:=112) (np:=0) (tm:=bEF A.length L'.length (aF A 200) (aF L' 200)) (a:=o)
  (λk hk=>⟨by rw[hk];exact CG,by omega,λE=>by have:=hS d E;omega⟩) (λi j hi D _=>by rw[hi,D]) (λq hq=>AM (hS q hq) (by omega))
  (m.mem.gw.sub λq hq=>hq.elim (λhq=>.inl (.inl (W q hq))) λ⟨_,_,e⟩=>.inl (.inr e.symm))
  (λk bb hk hb=>by
   subst hk;have hb:DV (⟨DU,.one (xB J)⟩:Box)=DV bb:=hb;obtain rfl:=AW hb;refine⟨arr,ty,d10.trans q1,q2,q3,cs,?_,q5⟩;exact BG (r:=false) (c:=(Ctx.b1 (λq=>S1 q\/q=d) b z).elem) y (λe=>by simp at e) (xB J) _ rfl (BI k10.2 _ _ q6))
  (fa (jO m y (.bool DT) rfl rfl (by simp) rfl rfl) (fa (jO m y (.sl 18 A.length (aF A 200)) rfl rfl (by simp) rfl rfl) (fa (by
   obtain⟨a0,cap1,e9,hl9,hd9⟩:=iQ (show Rep (Ctx.b1 (λq=>S1 q\/q=d) b z) U (.bs 0 0 L'.length) (o.tmps.getD 9 undef) from m.tm 9);show Rep _ _ _ (o.tmps.getD 9 undef);rw[e9];refine aU rfl (by simp) rfl ⟨a0,cap1,rfl,hl9,λhpos=>?_⟩;rcases hd9 with ⟨hd9,_⟩|hd9
   .obtain⟨arr9,ty9,p1,p2,p3,p4⟩:=m.mem.box 0 _ rfl rfl;refine⟨b,0,hd9,λhx=>?_,λj D=>?_⟩
    .rcases hx with hx|⟨k,_,_,_,_,e⟩
     .have:=hS b hx;omega
     .exact H e
    obtain⟨cs9,t1,t2,t3⟩:=p4 j D;refine⟨cs9,t1,?_,arr9,ty9,_,p1,λk v hv=>by rw[A3];exact t3 k v hv⟩;have t2:=BG (c:=(Ctx.b1 (λq=>S1 q\/q=d) b z).elem) (c':=(cJ S [⟨DU,.one (xB J)⟩] (λk=>k=0) (λ_=>d) (λ_=>zd)).elem) (r:=false) y (λe=>by simp at e) (kN L' pv bv j) _ rfl t2;have Z:∀q,(cJ S [⟨DU,.one (xB J)⟩] (λk=>k=0) (λ_=>d) (λ_=>zd)).S q->(BV λq=>S q\/q=d).S q:=λq hq=>by
     rcases hq with hq|⟨k,_,_,_,_,e⟩
     .exact .inl hq
     .exact .inr e.symm
    have hin:∀q,(∃j,j<L'.length/\(cS (pv j) q\/cS (bv j) q))->¬D7/\¬(S q\/q=d):=λq ⟨j,D,hq⟩=>by
     have N:(S1 q\/q=d)/\w5.heap.size<=q:=hq.elim (N10.inP j q D) (N10.inB j q D);have F:q≠d:=by
      rcases hq with hq|hq
      .exact hdv j q (by omega) hq
      .intro e;have:=(N7.S0 q (N7.inB j q (by omega) hq).1).1;omega
     exact⟨id,λh=>h.elim (λh=>by have:=hS q h;omega) F⟩
    have t:=aC4 (S:=λq=>S q\/q=d) (X:=λ_=>D7) (N10.ownP j D) (λ_ _ _=>rfl) (λ_ h=>h.elim) (λq hq=>.inl (hq.imp (W q) id)) λq hq=>hin q ⟨j,D,.inl hq⟩;have p:=aC4 (S:=λq=>S q\/q=d) (X:=λ_=>D7) (N10.ownB j D) (λ_ _ _=>rfl) (λ_ h=>h.elim) (λq hq=>.inl (hq.imp (W q) id)) λq hq=>hin q ⟨j,D,.inr hq⟩;have t:=BG (r:=false) (c':=(cJ S [⟨DU,.one (xB J)⟩] (λk=>k=0) (λ_=>d) (λ_=>zd)).elem) Z (λe=>by simp at e) (.sl 1 (L'.getD j aB).parts.length (bJ (L'.getD j aB).parts)) _ rfl t;have p:=BG (r:=false) (c':=(cJ S [⟨DU,.one (xB J)⟩] (λk=>k=0) (λ_=>d) (λ_=>zd)).elem) Z (λe=>by simp at e) (.sl 2 (L'.getD j aB).base.length (iL (L'.getD j aB).base 200)) _ rfl p;obtain⟨y1,z1,rfl,s1,y2,z2,rfl,s2,y3,z3,rfl,s3,y4,z4,rfl,s4,s5⟩:=t2;obtain⟨rfl,_⟩:y3=[pv j]/\_:=s3;obtain⟨rfl,_⟩:y4=[bv j]/\_:=s4;exact⟨y1,_,rfl,s1,y2,_,rfl,s2,_,_,rfl,t,_,_,rfl,p,s5⟩
   .omega) (fa (by
   show Rep _ _ _ (o.tmps.getD 11 undef);rw[e11'];exact aU rfl (by simp) rfl ⟨rfl,rfl⟩) f0)))) m.size (λ_ _ _=>D7) (λ_ _ _ h=>h.elim)
 refine bD bT bEL _ (ppK DT) _ o U _ (bEM MA.ok hokL (by omega) pA hzz.1 hzz.2 hC1 hC2) hst (λe s c' a' w' q h=>?_) (λ_ _ _ _ h=>h.elim);have q2:e= .ret/\aW 6 s.tm= .bool DT:=by
  unfold ppK at q;split at q
  .split at q
   .rename_i e2;rw[e2,q];exact⟨rfl,rfl⟩
   .exact q.elim
  .exact q.elim
 obtain⟨rfl,q3⟩:=q2;refine⟨h.defers.trans m.defers,_,bEN a' w',ExtB.ext K10.ext h.mem.ext λq ⟨_,_,e⟩=>by omega,?_⟩;have:=h.tm 6;rw[q3]at this;rw[fI this];exact eJ _
def aVy:aG
 |[.st [.int .u8 d,.int .u32 b,.int .u16 r1],.st [.int .u8 c,.int .u32 a,.int .u16 r2],.int .u16 wr]=>DV (DV (MdIn d b r1/\MdIn c a r2/\0<=wr/\wr<=65535),.ret (.bool DT))
 |_=>DW
theorem aUH(S:Z->Prop)(w:Y)(c:V MV)(args:J R)(p:OProp)(r:MRes)(a:aVy c=DV (p,r))(d:p.holds)(g:∀b,S b->b<w.heap.size)(h:GW S w)(f:RepAll (B8 S) w c args.toList):Calls AB 7 args w λe w'=>Ext w w'/\r.holds (BV S) w' e:=by
 unfold aVy at a;split at a
 .simp only[Z1,Z2]at a;obtain⟨rfl,rfl⟩:=a;obtain⟨k,j,i⟩:=d;exact aUJ k j i g h f
 .simp at a
def bGv:Ctr AB:=⟨7,aVy,λargs w=>Tryz.call7 args w,aUH⟩
section
open Go Go.ChangeShapes Go.WideShapes Go.ChangeAt Go.RowKit
theorem aQh:Tryz.prog.cellsOf 23=1:=by kernel_rfl
theorem aLZ:Tryz.prog.cellsOf 25=3:=by kernel_rfl
theorem bHK{n:U}(h:(Lit.int .u8 n).wf=DT):0<=n/\n<=255:=by simpa [Lit.wf,CN,CO,BO,BY]using h
theorem bFa{n:U}(h:(Lit.int .u32 n).wf=DT):0<=n/\n<=4294967295:=by simpa [Lit.wf,CN,CO,BO,BY]using h
section
variable {H:Type} {enc:TypeId×Value->H} {w:World} {sp:Nat->Bool} {held:Bool} {v:Value} {d:DataW H} {ps:List MemPlace}
theorem aLd(h:DataW.Trod enc AB w 0 sp held 25 v d ps) :
  ∃a n r,Rep1 (B8 noS) w (.st [.int .u8 a,.int .u32 n,.int .u16 r]) v/\(0<=a/\a<=255)/\(0<=n/\n<=4294967295)/\0<=r/\r<=65535:=by
 obtain⟨fuel,h⟩:=h;obtain⟨q,f',e⟩:=aLF Tryz.underlying25 h;rw[aLZ]at q
 match s:v.cells.toList,q with
 |[a,b,c],_ =>
  rw[s]at e;obtain⟨y0,i⟩:=e _ (AF ..);obtain⟨y1,g⟩:=e _ (AH _ (AF ..));obtain⟨y2,f⟩:=e _ (AH _ (AH _ (AF ..)));dsimp only at i g f;rw[aJT]at i;rw[aQi]at g;rw[aQh]at f;obtain⟨p,z,w0⟩:=trod_int C0 i;obtain⟨o,y,u⟩:=trod_int Tryz.underlying22 g;obtain⟨m,x,t⟩:=trod_int Tryz.underlying23 f;have l:[a]=[.int .u8 p]:=z;have k:[b]=[.int .u32 o]:=y;have j:[c]=[.int .u16 m]:=x;simp only[List.cons.injEq,and_true]at l k j;subst l k j;exact⟨p,o,m,(fH rfl).2 ⟨_,aP3 s,_,_,rfl,rfl,_,_,rfl,rfl,_,_,rfl,rfl,rfl⟩,bHK w0,bFa u,aVW t⟩
end
end
end
end Go.Proofs.YtkejceafemeifaaGreatDoor
