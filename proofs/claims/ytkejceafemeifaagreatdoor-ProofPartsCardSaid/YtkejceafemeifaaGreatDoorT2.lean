/-
  Plain facts for the division of sizes: what the loops keep.
-/
import Derived.Test.YtkejceafemeifaaGreatDoorT1
import Derived.Test.YtkejceafemeifaaGreatDoorProg
import Derived.Deep.LoopGhost
import Derived.Scope

namespace Go.Proofs.YtkejceafemeifaaGreatDoor
open Go Go.RowKit
open Go.IntKind (wrap i64 i32 i16 i8 u64 u32 u16 u8)
open Int (toNat natAbs)
open List (length take drop getD set replicate)
open BitVec (ofInt)
open Int (gcd tmod tdiv fdiv)
open Go.IntKind renaming bits->AA,signed->BW,max->DM
open _root_.Array renaming getD_eq_getD_getElem?->AB,replicate->AK,getElem?_setIfInBounds->AU,size_setIfInBounds->AZ,getElem?_toList->BN,getElem?_append->BO,getElem?_eq_some_iff->BQ,mapM_eq_mapM_toList->BS,length_toList->BT,ext'->B9,getElem?_replicate->CC,mem_def->C1
open Go.Region renaming wanted->AC,ready->AG,binds->BR
open Go.Op renaming operands->AD
open Go.Proofs.Tryz renaming prog->AE,f199->EU,f182->EV,f180->EW,f179->EX,f178->EY,f177->EZ,f161->E0,f156->E1,f155->E2,f154->E3,f153->E4,f150->E5,f129->E6,f128->E7,f127->E8,f125->E9,f124->FA,f123->FB,f121->FC,f114->FD,f90->FG,f89->FH,f88->FI,f87->FJ,f86->FK,f78->FL,f73->FM,f58->FN,f57->FO
open Int renaming fdiv_eq_ediv_of_nonneg->AF,pow_succ->AN,mul_le_mul_of_nonneg_right->AR,mul_ediv_add_emod->AS,lt_or_le->AX,mul_nonneg->A2,ediv_nonneg->A4,mul_comm->A5,emod_lt_of_pos->BB,mul_add->BF,eq_ofNat_of_zero_le->BI,emod_eq_of_lt->BP,emod_nonneg->BU,pow_pos->BX,le_refl->BY,ediv_eq_zero_of_lt->B2,mul_assoc->B5,sub_mul->CE,pow_add->CF,mul_one->CG,mul_zero->CO,add_zero->CP,natCast_pow->CS,ediv_lt_of_lt_mul->CU,add_mul_ediv_left->CV,one_mul->CZ,mul_le_mul->C0,add_mul->DC,ediv_ediv_of_nonneg->DN,le_ediv_iff_mul_le->DU,ediv_lt_iff_lt_mul->DV,add_comm->DW,sub_add_cancel->D4,pow_nonneg->EK,natAbs_mul->EL,zero_mul->EP,zero_add->EQ
open MRes renaming sat->AH,holds->DG
open List renaming take_of_length_le->AI,mem_cons_of_mem->AP,getD_eq_getElem?_getD->AV,length_take->AY,mem_cons->A0,take_length->A6,length_cons->A7,drop_zero->A8,eq_nil_iff_forall_not_mem->BH,drop_eq_nil_of_le->BZ,length_pos_iff->B8,mem_cons_self->CA,getElem?_append_left->CB,getElem?_eq_getElem->CD,length_eq_one_iff->CJ,drop_of_length_le->CK,nodup_cons->CN,getElem?_eq_none->CR,drop_drop->CW,range->C2,length_append->C3,mem_map->C6,eq_nil_of_length_eq_zero->DA,map_cons->DH,elem_eq_true_of_mem->DI,getElem?_cons_succ->DL,take_append_drop->DT,take_set_of_le->D0,take_add_one->D3,drop_length->D7,all_eq_true->D8,nil_append->EB,mem_filter->EC,mem_append->ED,take_zero->EH,mem_range->EI
open Nat renaming beq_eq->AJ,lt_or_ge->AM,pow_le_pow_right->A1,lt_of_lt_of_le->A9,blt_eq->BA,min_eq_left->BD,zero_add->BE,pow_succ->BL,beq->BM,eq_of_beq_eq_true->B4,strongRecOn->B7,sub_zero->CM,le_of_ble_eq_true->CT,pow_add->CY,le_trans->C7,testBit_succ->C9,pow_mul->DB,two_pow_pos->DD,mul_assoc->DK,ne_of_beq_eq_false->DP,mul_comm->DR,dvd_of_mod_eq_zero->DS,pow_mod->DX,mul_mod->DY,mul_le_mul_right->DZ,mod_lt->D1,eq_zero_or_pos->D2,lt_trichotomy->D6,mod_eq_of_lt->D9,lt_succ_self->EA,testBit_and->EG,testBit_or->EJ,pow_zero->EM,add_zero->EN,add_comm->EO,pow_pos->ER,mul_one->ES,mod_mod->ET,ble_eq->FF
open Bool renaming cond_decide->AL,not_eq_true'->AW,cond_eq_ite->CH,or_eq_true->CQ,or_eq_false_iff->CX
open Ctx renaming res->AO,args->AQ
open Go.Call renaming operands->AT
open Go.Oper renaming upon_value->A3,wp->BG,upon_enter->CL,upon->DJ,upon_skip->EF,asks->FE
open BitVec renaming toNat_ofInt->BJ,toNat->BK,msb_eq_decide->DO,toNat_or->D5
open Iff renaming rfl->BV
open RepC renaming keep->B3,len->DE,one->EE
open MV renaming ment->B6,clean->FP,scal->FQ
open _root_.ByteArray renaming size->CI
open Go.Deferred renaming ofValue->C4
open List.cons renaming injEq->C5
open Go.Ending renaming returned->C8
open Rep1 renaming clean->DF
open _root_ renaming Int->Z,Nat->V,List->X,Array->N,True->I,Bool->S,Option->g,False->z,cond->k,if_neg->A,absurd->FU,Nat->FW,List->FY,if_neg->F1,if_pos->F2,cond->F3,Option->F4,Array->F6,False->F7
open List renaming length->B,replicate->G,getD->L,take->R,drop->y,drop->GD
open Int renaming toNat->C,natAbs->o,tdiv->GE,tmod->GF
open Go.IntKind renaming wrap->D,u64->GA,i64->GB,u32->GC
open Decidable renaming decide->H
open Go renaming World->T,Oper->W,Program->O,Value->J,Program->FV,World->FX,Value->FZ,TypeId->F5,Func->F8,FuncId->F9
open BitVec renaming ofInt->M
open Bool renaming true->FR,false->Aa
open Option renaming some->FT,none->F0
noncomputable section
theorem aRo{c c':Ctx}{w w':T}{m:MV}{v:J}(a:m.scal=FR)(h:Rep c w m v):Rep c' w' m v:=by
 cases m<;>first|(simp[FQ]at a;done)|skip
 .exact(fI h) ▸ eJ _
 .exact(cL h) ▸ cG _ _
theorem aLq{c c':Ctx}{w:T}:∀(b:X MV) (a:X J),rX b=FR->Pair c w b a->RepAll c' w b a
 |[],a,_,h=>by
  cases a with
  |nil=>rfl
  |cons _ _=>exact h.elim
 |m::b,a,d,h=>by
  simp only[rX,Z3]at d;cases a with
  |nil=>exact h.elim
  |cons v a =>
   obtain⟨g,f⟩:=h;have e:m.isTup=Aa:=by cases m<;>first|rfl|(simp[FQ]at d)
   exact⟨v,a,rfl,(bF e).1 (aRo d.1 g),aLq b a d.2 f⟩
theorem Mem.more0{S0:V->Prop}{d:Base}{bx:X Box}{c:Ctx}{w:T}(h:Mem S0 d bx c w)(g:X Box):Mem S0 d (bx++g) c w:=by
 have e:∀i,c.live i->aR (bx++g) i=aR bx i:=λi a=>by
  have:=(h.fresh i a).2.2
  grind [bY,CB]
 refine⟨h.ext,h.S0lt,h.gl,h.hS,λb=>(h.hW b).trans ⟨?_,?_⟩,h.inj,λi a=>?_,λi b a f=>h.box i b a (by rw[<-e i a];exact f),h.pin⟩
 .grind
 .grind
 .obtain⟨q1,q2,q3⟩:=h.fresh i a
  grind
def nW(c:Ctx)(i j:V):Ctx :=
 ⟨c.S,λb=>b=c.β i\/(c.live j/\b=c.β j),λq=>q=0\/(q=1/\c.live j),λq=>if q=0 then c.β i else c.β j,λq=>if q=0 then c.sz i else c.sz j⟩
theorem aSt{c:Ctx}{w:T}{i j n:V}{b:X J}(h:RepC c w (.bs j 0 n) b):RepC (nW c i j) w (.bs 1 0 n) b:=by
 obtain⟨a,cap,f,e,d⟩:=h;exact⟨a,cap,f,e,d.imp (λ⟨l,k,g⟩=>⟨l,.inr ⟨rfl,k⟩,g⟩) id⟩
theorem aU8{S0:V->Prop}{w0:Base}{w:T}{bx:X Box}{c:Ctx}(f:Mem S0 w0 bx c w){i j n len wd:V}{g:V->MV}(t:aR bx i=FT ⟨Aa,.one (.st [.bs j 0 n])⟩)(s:aR bx j=FT ⟨Aa,.rows wd len g⟩)(A:n<=len)(k:j≠i)(d:c.live i):Given (nW c i j).W (nW c i j) w [.one (.st [.bs 1 0 n]),.rows wd n g]:=by
 have hWi:c.W (c.β i):=(f.hW _).2 ⟨i,_,d,t,rfl,rfl⟩;have hWj:c.live j->c.W (c.β j):=λB=>(f.hW _).2 ⟨j,_,B,s,rfl,rfl⟩;refine⟨f.Slt,λb C=>f.WS b ?_,λb=>⟨?_,?_⟩,λ_=>BV,?_,?_,?_⟩
 .rcases C with rfl|⟨a,rfl⟩
  all_goals simp_all
 .rintro(rfl|⟨a,rfl⟩)
  .exact⟨0,.inl rfl,rfl⟩
  .exact⟨1,.inr ⟨rfl,a⟩,rfl⟩
 .rintro⟨q,rfl|⟨rfl,a⟩,rfl⟩
  .exact .inl rfl
  .exact .inr ⟨a,rfl⟩
 .rintro q r (rfl|⟨rfl,a⟩) (rfl|⟨rfl,D⟩) e
  .rfl
  .exact FU (f.inj i j d D e) (Ne.symm k)
  .exact FU (f.inj j i a d e) k
  .rfl
 .rintro q (rfl|⟨rfl,a⟩)
  all_goals simp
 .rintro q bc (rfl|⟨rfl,a⟩) h
  .simp only[aR,Z1]at h;subst h;obtain⟨arr,ty,p,o,m,E,l,u⟩:=f.box i _ d t;refine⟨arr,ty,p,o,m,E,?_,u⟩;obtain⟨x,y,e,z,v⟩:=l;exact⟨x,y,e,aSt z,v⟩
  .simp only[aR,Z1]at h;subst h;obtain⟨arr,ty,p,o,m,l⟩:=f.box j _ a s;exact⟨arr,ty,p,o,m,λq h=>l q (A9 h A)⟩
theorem aZT{P:FV}{S0:FW->Prop}{w0:Base}{w:FX}{bx:FY Box}{c:Ctx}(o:Mem S0 w0 bx c w){i j n len:FW}{g:FW->MV}{k:PCtr P}(hi:aR bx i=FT ⟨Aa,.one (.st [.bs j 0 n])⟩)(hj:aR bx j=FT ⟨Aa,.rows k.wd len g⟩)(hn:n<=len)(Q:j≠i)(M:c.live i)(hpin:∀b z,¬w0.pin j b z)(hfree:nD j 0 (aV bx i ⟨Aa,.one (.st [.any])⟩)=FR){ms:FY MV}{p:OProp}{n':FW}{g':FW->MV}{m:MV}(hs:k.spec ms n g=FT (p,n',g',m))(hp:p.holds)(Y:m.clean Aa=FR)(hms:rX ms=FR){vs:FY FZ}(hv:Pair c w ms vs) :
  Calls P k.f (Value.pointer (FT ⟨c.β i,0,F0⟩)::vs).toArray w λe w'=>∃v c',e= .returned v/\Mem S0 w0 (aV (aV bx i ⟨Aa,.one (.st [.bs j 0 n'])⟩) j ⟨Aa,.rows k.wd n' g'⟩) c' w'/\
   (∀m v,m.ment j=Aa->Rep c w m v->Rep c' w' m v)/\Rep c' w' m v:=by
 have hG:=aU8 o hi hj hn Q M;have hWi:c.W (c.β i):=(o.hW _).2 ⟨i,_,M,hi,rfl,rfl⟩;have hWj:c.live j->c.W (c.β j):=λy=>(o.hW _).2 ⟨j,_,y,hj,rfl,rfl⟩;have hall:RepAll (nW c i j) w (.bp 0 0::ms) (Value.pointer (FT ⟨c.β i,0,F0⟩)::vs) :=
  ⟨_,_,rfl,(bC rfl (by simp)).2 ⟨.inl rfl,rfl⟩,aLq ms vs hms hv⟩
 refine(k.ok (nW c i j).W (nW c i j) w n n' g g' ms _ p m hs hp Y hG (.inl rfl) o.gw (by simpa using hall)).mono ?_
 rintro e w' ⟨v,arr0,ty0,a,cap,he,J,s,h0,hs0,ha0,hcap,hor⟩
 have hli':=(o.fresh i M).2.2;have T:=jU hj;have hni:∀B0 B1,aR (aV (aV bx i B0) j B1) i=FT B0:=λB0 B1=>by rw[bV,F1 (λq=>Q q.1),bV,F2 ⟨rfl,hli'⟩]
 have Z:∀B0 B1,aR (aV (aV bx i B0) j B1) j=FT B1:=λB0 B1=>by rw[bV,F2 ⟨rfl,by rw[cC];exact T⟩]
 have H:∀B0 B1 q,q≠i->q≠j->aR (aV (aV bx i B0) j B1) q=aR bx q:=λB0 B1 q h1 F=>by
  grind [bV]
 have N:∀B0 B1,(aV (aV bx i B0) j B1).length=bx.length:=λB0 B1=>by rw[cC,cC]
 generalize G:aV (aV bx i ⟨Aa,.one (.st [.bs j 0 n'])⟩) j ⟨Aa,.rows k.wd n' g'⟩=C;have hni:=G ▸ hni ⟨Aa,.one (.st [.bs j 0 n'])⟩ ⟨Aa,.rows k.wd n' g'⟩;have Z:=G ▸ Z ⟨Aa,.one (.st [.bs j 0 n'])⟩ ⟨Aa,.rows k.wd n' g'⟩;have H:=G ▸ H ⟨Aa,.one (.st [.bs j 0 n'])⟩ ⟨Aa,.rows k.wd n' g'⟩;have N:=G ▸ N ⟨Aa,.one (.st [.bs j 0 n'])⟩ ⟨Aa,.rows k.wd n' g'⟩
 let b1:FW:=match a with|some ad=>ad.block|none=>0
 let live':FW->Prop:=λq=>if q=j then a≠F0 else c.live q
 let β':FW->FW:=λq=>if q=j then b1 else c.β q
 let sz':FW->Sz:=λq=>if q=j then ⟨cap*k.wd,k.wd⟩else c.sz q
 have lv_ne:∀q,q≠j->(live' q↔c.live q):=λq h=>by simp only[live',F1 h]
 have lv_j:live' j↔a≠F0:=by simp only[live',F2]
 have be_ne:∀q,q≠j->β' q=c.β q:=λq h=>F1 h;have be_j:β' j=b1:=if_pos rfl;have sz_ne:∀q,q≠j->sz' q=c.sz q:=λq h=>F1 h;have sz_j:sz' j=⟨cap*k.wd,k.wd⟩:=if_pos rfl;have hB:a≠F0->∃arr ty,a=FT ⟨b1,0,F0⟩/\((c.live j/\b1=c.β j)\/w.heap.size<=b1)/\w'.heap[b1]? =FT (.cells arr ty (0,0))/\arr.size=cap*k.wd/\
    gY (AQ λx=>(c.S x/\(c.live j->x≠c.β j))\/x=b1) w' (.rows k.wd n' g') arr:=by
  intro Q;rcases hor with ⟨rfl,_⟩|⟨b,arr,ty,rfl,h1,F,h3,h4⟩
  .exact FU rfl Q
  .refine⟨arr,ty,rfl,?_,F,h3,?_⟩
   .rcases h1 with ⟨q1|⟨_,q1⟩,I⟩|h1
    .cases q1
    .exact .inl ⟨q1,I⟩
    .exact .inr h1
   .intro q A;obtain⟨O,V,U,r3⟩:=h4 q A;refine⟨O,V,?_,r3⟩;refine B3 (⟨λx _ B=>?_,λ_ _ h=>h,λ_ h=>h.elim,λ_ _ _=>rfl,λ_ _ _=>rfl⟩:Keeps (AQ λx=>((nW c i j).S x/\((nW c i j).live 1->x≠(nW c i j).β 1))\/x=b).elem (AQ λx=>(c.S x/\(c.live j->x≠c.β j))\/x=b).elem w' w') _ _ U;rcases B with ⟨x1,x2⟩|x1
    .refine .inl ⟨x1,λy=>?_⟩;rcases y with y|⟨_,y⟩
     .cases y
     .exact x2 y
    .exact .inr x1
 have hWn:∀x,Wof C live' β' x->(c.W x/\(c.live j->x=c.β j->x=b1/\a≠F0))\/w.heap.size<=x:=by
  rintro x ⟨q,R,q1,I,X,rfl⟩
  by_cases d:q=j
  .grind
  .rw[be_ne q d];have D:=(lv_ne q d).1 q1;refine .inl ⟨?_,λy e=>FU (o.inj q j D y e) d⟩;by_cases t:q=i
   .subst t;exact hWi
   .rw[H q t d]at I;exact(o.hW _).2 ⟨q,R,D,I,X,rfl⟩
 have hXW:∀b,(nW c i j).W b->c.W b:=by
  rintro b (rfl|⟨h1,rfl⟩)
  all_goals simp_all
 have kk:Keeps (c.but j) (cJ S0 C live' β' sz') w w':=by
  refine⟨λb E hS=>?_,λb E hW=>?_,λq A=>⟨(lv_ne q A.2).2 A.1,be_ne q A.2,sz_ne q A.2⟩,λb E hS=>s.block b E λB=>hS (o.WS b (hXW b B)),λb E hW=>s.block b E λB=>hW (hXW b B)⟩
  .rcases hS with hS|hS
   .exact(o.hS b).2 (.inl hS)
   .rcases hWn b hS with h1|h1
    .exact o.WS b h1.1
    .omega
  .rcases hWn b hW with h1|h1
   .exact h1.1
   .omega
 have hsub:∀x,(cJ S0 C live' β' sz').S x->(((nW c i j).S x/\((nW c i j).live 1->x≠(nW c i j).β 1))\/a=FT ⟨x,0,F0⟩):=by
  have left:∀x,c.S x->(c.live j->x≠c.β j)->((nW c i j).S x/\((nW c i j).live 1->x≠(nW c i j).β 1)):=λx h1 F=>⟨h1,λy=>by
   rcases y with y|⟨_,y⟩
   .cases y
   .exact F y⟩
  rintro x (B|⟨q,R,q1,I,X,rfl⟩)
  .refine .inl (left x ((o.hS x).2 (.inl B)) λy e=>?_);obtain⟨z1,z2⟩:=o.S0lt x B;rcases(o.fresh j y).1 with z|z
   all_goals grind
  .by_cases d:q=j
   .simp_all
   .rw[be_ne q d];have D:=(lv_ne q d).1 q1;refine .inl (left _ ?_ λy e=>d (o.inj q j D y e));by_cases t:q=i
    .subst t;exact o.WS _ hWi
    .rw[H q t d]at I;exact o.WS _ ((o.hW _).2 ⟨q,R,D,I,X,rfl⟩)
 have hnt:m.isTup=Aa:=by cases m<;>first|rfl|(simp[FP]at Y)
 have hres:Rep (cJ S0 C live' β' sz') w' m v:=(bF hnt).2 (DF hsub (λe=>by simp at e) Y ((bF hnt).1 J));refine⟨v,cJ S0 C live' β' sz',he,⟨?_,o.S0lt,o.gl,λ_=>BV,λ_=>BV,?_,?_,?_,?_⟩,λm v hm J=>(Rep.but hm J).keep kk,hres⟩
 .refine⟨s.os.trans o.ext.os,s.output.trans o.ext.output,C7 o.ext.size s.size,λb E B=>?_,λq A=>(s.frz q (A9 A o.ext.size)).trans (o.ext.frz q A),s.tape.trans o.ext.tape,C7 o.ext.dr s.dr⟩;refine(s.block b (A9 E o.ext.size) λhX=>?_).trans (o.ext.block b E B);have hf:∃q,c.live q/\c.β q=b:=by
   rcases hX with rfl|⟨h1,rfl⟩
   all_goals grind
  obtain⟨q,q1,rfl⟩:=hf;rcases(o.fresh q q1).1 with h1|h1
  all_goals grind
 .intro q r A J e;have e:β' q=β' r:=e;have aux:∀q,q≠j->live' q->live' j->β' q≠β' j:=λq d A hj e=>by
   rw[be_ne q d,be_j]at e;have D:=(lv_ne q d).1 A;obtain⟨_,_,_,h1,_⟩:=hB (lv_j.1 hj);rcases h1 with ⟨h1,F⟩|h1
   .exact d (o.inj q j D h1 (e.trans F))
   .have:=(o.fresh q D).2.1;omega
  by_cases d:q=j<;>by_cases K:r=j
  .rw[d,K]
  .subst d;exact FU e.symm (aux r K J A)
  .subst K;exact FU e (aux q d A J)
  .rw[be_ne q d,be_ne r K]at e;exact o.inj q r ((lv_ne q d).1 A) ((lv_ne r K).1 J) e
 .intro q A;show w0.new (β' q)/\β' q<w'.heap.size/\q<C.length;rw[N];by_cases d:q=j
  .subst d;obtain⟨arr,ty,_,h1,F,_⟩:=hB (lv_j.1 A);rw[be_j];refine⟨?_,(BQ.1 F).1,T⟩;rcases h1 with ⟨h1,F⟩|h1
   .rw[F];exact(o.fresh q h1).1
   .exact .inl (C7 o.ext.size h1)
  .rw[be_ne q d];have:=o.fresh q ((lv_ne q d).1 A);exact⟨this.1,A9 this.2.1 s.size,this.2.2⟩
 .intro q R A E;by_cases d:q=j
  .subst d;rw[Z,Z1]at E;subst E;obtain⟨arr,ty,_,h1,F,h3,h4⟩:=hB (lv_j.1 A);refine⟨arr,ty,by show w'.heap[β' q]? =_;rw[be_j];exact F,by show _=(sz' q).n;rw[sz_j];exact h3,by show(sz' q).wd=_;rw[sz_j];rfl,λr J=>?_⟩;obtain⟨O,V,U,r3⟩:=h4 r J;refine⟨O,V,B3 (⟨λx _ B=>?_,λ_ _ h=>h,λ_ h=>h.elim,λ_ _ _=>rfl,λ_ _ _=>rfl⟩:Keeps (AQ λx=>(c.S x/\(c.live q->x≠c.β q))\/x=b1).elem (cJ S0 C live' β' sz').elem w' w') _ _ U,r3⟩;have B:S0 x\/Wof C live' β' x:=B;rcases B with B|⟨q',R,y1,y2,y3,rfl⟩
   .exact .inl ⟨(o.hS x).2 (.inl B),λy e=>o.notS0 y (e ▸ B)⟩
   .by_cases L:q'=q
    .subst L;exact .inr be_j
    .have D:=(lv_ne q' L).1 y1;rw[be_ne q' L];refine .inl ⟨o.WS _ ?_,λy e=>L (o.inj q' q D y e)⟩;by_cases t:q'=i
     .subst t;exact hWi
     .rw[H q' t L]at y2;exact(o.hW _).2 ⟨q',R,D,y2,y3,rfl⟩
  .by_cases t:q=i
   .subst t;rw[hni,Z1]at E;subst E;obtain⟨_,_,_,_,z3,_⟩:=o.box q _ M hi;refine⟨arr0,ty0,by show w'.heap[β' q]? =_;rw[be_ne q d];exact h0,by show _=(sz' q).n;rw[sz_ne q d];exact hs0,by show(sz' q).wd=_;rw[sz_ne q d];exact z3, [.slice a n' cap],⟨[.slice a n' cap], [],rfl,⟨a,cap,rfl,hcap,?_⟩,rfl⟩,λr u hu=>?_⟩
    .rcases hor with ⟨h1,F,h3⟩|⟨b,_,_,h1,_⟩
     .simp_all
     .refine .inl ⟨?_,?_,?_⟩
      .show a=FT ⟨β' j,0,F0⟩
       simp_all
      .exact lv_j.2 (by rw[h1];simp)
      .show 0+cap*(sz' j).wd=(sz' j).n
       simp_all
    .match r,hu with
     |0,hu =>
      simp_all
     |r+1,hu=>simp at hu
   .rw[H q t d]at E;have D:=(lv_ne q d).1 A;obtain⟨arr,ty,q1,I,X,q4⟩:=o.box q R D E;have hh:w'.heap[c.β q]? =w.heap[c.β q]? :=s.block _ (o.fresh q D).2.1 λhX=>by
     rcases hX with h1|⟨h1,F⟩
     .exact t (o.inj q i D M h1)
     .exact d (o.inj q j D h1 F)
    refine⟨arr,ty,by show w'.heap[β' q]? =_;rw[be_ne q d,hh];exact q1,by show _=(sz' q).n;rw[sz_ne q d];exact I,by show(sz' q).wd=_;rw[sz_ne q d];exact X,?_⟩;obtain⟨fz,bc⟩:=R;cases bc with
    |one m =>
     obtain⟨O,V,U⟩:=q4;have hfr:=t7 _ 0 hfree q _ (by rw[bV,F1 (λx=>t x.1.symm)];exact E) (by omega) m rfl;exact⟨O,B3 kk m O (RepC.but m O hfr V),U⟩
    |arr k l=>exact q4
    |rows wd len f =>
     intro r J;obtain⟨O,V,U,r3⟩:=q4 r J;exact⟨O,V,B3 kk.elem _ _ (show RepC (c.but j).elem w (f r) O from U),r3⟩
 .intro q b z hp;obtain⟨q1,I,X⟩:=o.pin q b z hp;have d:q≠j:=λe=>by subst e;exact hpin b z hp
  exact⟨(lv_ne q d).2 q1,(be_ne q d).trans I,(sz_ne q d).trans X⟩
theorem aM4{y z:MV}(h:aVI y=FT z):y= .st [z]:=by
 unfold aVI at h
 grind
theorem aX8{P:FV}{s s2:MS}{k:PCtr P}{l:FY MV}{p:OProp}{m:MV}(h:aQE s k l= .upd p s2 m)(hp:p.holds){S0:FW->Prop}{w0:Base}{w:FX}{c:Ctx}(hM:Mem S0 w0 s.bx c w)(Q:∀i b z,w0.pin i b z->qQ s.np i=FR){H:FY FZ}(hv:Pair c w l H) :
  Calls P k.f H.toArray w λe w'=>∃b v c',e= .returned v/\Mem S0 w0 s2.bx c' w'/\(∀m v,m.ment b=Aa->Rep c w m v->Rep c' w' m v)/\s2.tm=sP b s.tm/\s2.n=s.n/\s2.np=s.np/\Rep c' w' m v:=by
 unfold aQE at h;split at h
 .simp at h
 rename_i x Z;split at h
 rotate_left
 .simp at h
 rename_i i off;split at h
 rotate_left
 .simp at h
 rename_i b I;obtain⟨fz,bc⟩:=b;split at h
 rotate_left
 .simp at h
 rename_i y A;have A:bc= .one y:=A;subst A;split at h
 rotate_left
 .simp at h
 rename_i z J;have J:=aM4 J;subst J;split at h
 rotate_left
 .simp at h
 rename_i r d;split at h
 rotate_left
 .simp at h
 rename_i p' n' g' m' hs;cases K:(off.beq 0&&!fz&&!(r.j.beq i)&&!(qQ s.np r.j)&&nD r.j 0 (aV r.bx i ⟨Aa,.one (.st [.any])⟩)&&m'.clean Aa&&rX Z&&(1).ble k.wd)with
 |false =>
  simp_all
 |true =>
  have h:F3 (off.beq 0&&!fz&&!(r.j.beq i)&&!(qQ s.np r.j)&&nD r.j 0 (aV r.bx i ⟨Aa,.one (.st [.any])⟩)&&m'.clean Aa&&rX Z&&(1).ble k.wd) (Act1.upd (nS r.q p') ⟨s.n,sP r.j s.tm,aV (aV r.bx i ⟨Aa,.one (.st [.bs r.j 0 n'])⟩) r.j ⟨Aa,.rows k.wd n' g'⟩,s.np⟩ m') .stuck= .upd p s2 m:=h;rw[K,Z6,Act1.upd.injEq]at h;obtain⟨rfl,rfl,rfl⟩:=h;simp only[Z3,AW,AJ]at K;obtain⟨⟨⟨⟨⟨⟨⟨rfl,rfl⟩,E⟩,N⟩,u⟩,M⟩,T⟩,_⟩:=K;have D:r.j≠i:=λe=>by rw[e]at E;simp at E
  obtain⟨hq,O⟩:=oand2_holds.1 hp;have G:∀b z,¬w0.pin r.j b z:=λb z hk=>by have:=Q r.j b z hk;rw[N]at this;cases this
  cases H with
  |nil=>exact hv.elim
  |cons v0 H =>
  obtain⟨L,hv⟩:=hv;obtain⟨V,rfl⟩:=kL L
  have key:∃len,Mem S0 w0 (aV r.bx i ⟨Aa,.one (.st [.bs r.j 0 r.n])⟩) c w/\aR r.bx r.j=FT ⟨Aa,.rows k.wd len r.g⟩/\r.n<=len/\i<r.bx.length:=by
   unfold bCb at d;split at d
   .rename_i j off' n;split at d
    rotate_left
    .simp at d
    rename_i b X;obtain⟨fz,bc⟩:=b;split at d
    rotate_left
    .simp at d
    rename_i wd' len g t;have t:bc= .rows wd' len g:=t;subst t;cases o:(off'.beq 0&&wd'.beq k.wd&&!fz)with
    |false =>
     simp_all
    |true =>
     have d:F3 (off'.beq 0&&wd'.beq k.wd&&!fz) (FT (⟨j,s.bx,n,g,FT (n<=len)⟩:PtRow)) F0=FT r:=d;rw[o,Z6,Z1]at d;subst d;simp only[Z3,AW,AJ]at o;obtain⟨⟨rfl,rfl⟩,rfl⟩:=o;refine⟨len,?_,X,hq,jU I⟩;exact hM.setc (bc:= .one (.st [.bs j 0 n])) I rfl (λ_ _ h=>h)
   .rename_i v;split at d
    rotate_left
    .simp at d
    rename_i a n cap;split at d
    rotate_left
    .simp at d
    cases o:(n.beq 0&&cap.beq 0)with
    |false=>rw[o]at d;simp at d
    |true =>
     rw[o,Z6,Z1]at d;subst d;simp only[Z3,AJ]at o;obtain⟨rfl,rfl⟩:=o;have U:=jU I;have S:aR (s.bx++[⟨Aa,.rows k.wd 0 λ_=>.any⟩]) i=FT ⟨Aa,.one (.st [.val (.slice F0 0 0)])⟩:=by rw[bY,CB U,<-bY];exact I
     refine⟨0,?_,by show aR (s.bx++[_]) s.bx.length=_;simp[bY],Z0 _,by rw[C3];omega⟩;refine(hM.more0 [⟨Aa,.rows k.wd 0 λ_=>.any⟩]).setc S rfl λarr _ F=>?_;obtain⟨cs,q1,q2⟩:=F;refine⟨cs,?_,q2⟩;obtain⟨x,y,rfl,hx,A⟩:=q1;obtain⟨rfl,_⟩:=hx;exact⟨_,y,rfl,⟨F0,0,rfl,Z0 _,.inr ⟨rfl,rfl,rfl⟩⟩,A⟩
   .simp at d
  obtain⟨len,Y,hj,hn,W⟩:=key;have R:aR (aV r.bx i ⟨Aa,.one (.st [.bs r.j 0 r.n])⟩) r.j=FT ⟨Aa,.rows k.wd len r.g⟩:=by rw[bV,F1 (λx=>D x.1.symm)];exact hj
  have C:∀B:Box,aV (aV r.bx i ⟨Aa,.one (.st [.bs r.j 0 r.n])⟩) i B=aV r.bx i B:=λB=>by
   refine List.ext_getElem? λq=>?_;simp only[<-bY,bV,cC];split<;>rfl
  have:=aZT Y (i:=i) (by rw[bV,F2 ⟨rfl,W⟩]) R hn D V G (by rw[C];exact u) hs O M T hv;rw[C]at this;refine this.mono ?_
  grind
theorem aX6{P:FV}{s s2:MS}{k:RCtr P}{l:FY MV}{p:OProp}{m:MV}(h:pY s (.fr k) l= .upd p s2 m)(U:p.holds){S0:FW->Prop}{w0:Base}{w:FX}{c:Ctx}(o:Mem S0 w0 s.bx c w){C:FY FZ}(hv:Pair c w l C) :
  Calls P k.f C.toArray w λe w'=>∃v c',e= .returned v/\Mem S0 w0 s2.bx c' w'/\Keeps c c' w w'/\s2.tm=s.tm/\s2.n=s.n/\s2.np=s.np/\Rep c' w' m v:=by
 simp only[pY]at h;split at h
 .rename_i K q fz H;split at h
  .rename_i p' wd n g G;split at h
   .simp only[Act1.upd.injEq]at h;obtain⟨rfl,rfl,rfl⟩:=h;obtain⟨T,I⟩:=oand2_holds.1 U;have B:=oS (S':=c.S) (λb d=>d) o.box (λi b D d V=>o.frozen i b D d V) _ ⟨K,q, []⟩ H T (by simp) C hv;refine(k.ok c.S w K C.toArray p' wd n g G I (λb d=>o.Slt b d) o.gw (by simpa using B)).mono ?_
    rintro e w' ⟨y,b,arr,ty,cap,rfl,d,a,F,z,j⟩
    have A:b<w'.heap.size:=(BQ.1 a).1;have t:¬c.live s.bx.length:=λD=>by have:=(o.fresh _ D).2.2;omega
    have u:=o.adopt y b d ⟨Aa,.rows wd n g⟩ (λi=>c.live i\/i=s.bx.length) (λi=>if i=s.bx.length then b else c.β i) (λi=>if i=s.bx.length then ⟨cap*wd,wd⟩else c.sz i) (λi=>BV)
     (λi E=>F1 (λe:i=s.bx.length=>t (e ▸ E))) (λi E=>F1 (λe:i=s.bx.length=>t (e ▸ E))) (F2 rfl) A (λc' k W q1 O J=>by
      refine⟨arr,ty,by rw[O];simpa using a,by rw[J];simpa using F,by rw[J];simp[BC.wd],λr R=>?_⟩;obtain⟨X,N,M,L⟩:=j r R;exact⟨X,N,B3 (⟨λx _ Q=>W x Q,λ_ _ h=>h,λ_ h=>h.elim,λ_ _ _=>rfl,λ_ _ _=>rfl⟩:Keeps (AQ λx=>c.S x\/x=b).elem c'.elem w' w') _ _ M,L⟩)
    refine⟨_,_,rfl,u.1,u.2,rfl,rfl,rfl,?_⟩;refine(bF rfl).2 ((bC rfl (by simp)).2 ⟨FT ⟨b,0,F0⟩,cap,rfl,z,.inl ⟨?_,.inr rfl,?_⟩⟩)
    .show _=FT (⟨if s.bx.length=s.bx.length then b else c.β s.bx.length,0,F0⟩:Addr);rw[F2 rfl]
    .show 0+cap*(if s.bx.length=s.bx.length then (⟨cap*wd,wd⟩:Sz)else c.sz s.bx.length).wd=(if s.bx.length=s.bx.length then (⟨cap*wd,wd⟩:Sz)else c.sz s.bx.length).n;rw[F2 rfl];simp
   .simp at h
  .simp at h
 .simp at h
theorem evRes_holds{kr d:MV->Prop}{c:Ctx}{w:T}{e:Ending}:∀(r:MRes),nQ kr d r->r.holds c w e->
  (∃m v,e= .returned v/\Rep c w m v/\kr m)\/(∃m v,e= .panicked [{ v,recovered:=false }]/\Rep1 c w m v/\d m)
 |.ret m,h,a=>by
  cases e<;>simp only[DG]at a
  exact .inl ⟨m,_,rfl,a,h⟩
 |.pan m,h,a=>by
  cases e<;>simp only[DG]at a
  obtain⟨v,rfl,f⟩:=a;exact .inr ⟨m,v,rfl,f,h⟩
 |.br b x y,h,a=>by
  simp only[nQ,Br]at h;have a:k b (x.holds c w e) (y.holds c w e):=by cases e<;>exact a
  cases b with
  |true=>exact evRes_holds x h a
  |false=>exact evRes_holds y h a
theorem aVo{S S':V->Prop}{w:T}{m:MV}{v:J}(h:Rep1 (AO S') w m v)(a:∀b,S b->S' b):Rep1 (AO S) w m v :=
 h.keep (⟨λb _=>a b,λ_ _ _=>trivial,λ_ h=>h.elim,λ_ _ _=>rfl,λ_ _ _=>rfl⟩:Keeps (AO S') (AO S) w w)
theorem aEp{P:O}{f:V}:∀ {l:X (Mu P)} {k:Mu P},uJ f l=FT k->k.f=f
 |[],_,h=>by simp[uJ]at h
 |x::l,k,h=>by
  simp only[uJ]at h;cases a:x.f.beq f with
  |true=>rw[a]at h;simp at h;subst h;simpa using a
  |false=>rw[a]at h;exact aEp (l:=l) h
theorem St.keepTm{S0:V->Prop}{w0:Base}{w w':T}{s s':MS}{c c':Ctx}{a:Act}(h:St S0 w0 s c a w)(k:Keeps c c' w w')(f:Mem S0 w0 s'.bx c' w')(d:s'.tm=s.tm)(e:s'.n=s.n)(b:s'.np=s.np):St S0 w0 s' c' a w' :=
 ⟨f,λt=>by rw[d];exact(h.tm t).keep k,by rw[e];exact h.size,h.defers,by rw[b];exact h.np⟩
theorem aMm{s:MS}{x:MV}{m:MV}(h:jG s x= .pan m){S0:V->Prop}{w0:Base}{w:T}{c:Ctx}(f:Mem S0 w0 s.bx c w){v:J}(D:Rep c w x v) :
  (∃t u,v= .iface t u)/\Rep1 (AO S0) w m v:=by
 unfold jG at h;split at h
 .rename_i t a;split at h
  .rename_i m' fz o;cases j:(m'.clean Aa&&m'.plain)with
   |false=>rw[j]at h;simp at h
   |true =>
    rw[j,Z6,Act1.pan.injEq]at h;subst h;simp only[Z3]at j;obtain⟨q,g⟩:=j;obtain⟨I,u,B,n,A⟩:=b6 D rfl (by simp) rfl;simp only[C5,and_true]at B;subst B;refine⟨⟨t,u,rfl⟩,?_⟩;have p:Rep1 c w a u:=by
     by_cases z:a= .any
     .subst z;trivial
     .cases l:a.isAgg with
      |true=>rw[fH l];rw[l]at A;exact⟨I.toArray,by simpa using A,by simpa using n⟩
      |false =>
       rw[bC l z];have hnt:∀y,a≠ .tup y:=by intro y e;subst e;exact n.elim
       have hlen:=DE _ _ n
       grind [eZ,CJ]
    obtain⟨C,_⟩:=s8 (S':=S0) (λb d=>(f.hS b).2 (.inl d)) f.box (λi b k d F E=>f.frozen i b k d F ((f.hS _).2 (.inl E))) a ⟨m',F0,fz⟩ o trivial
     (λi _ k H=>f.notS0 k H) u p
    have s2:Rep1 (AO S0) w m' u:=DF (c:=AQ S0) (c':=AO S0) (r:=false) (λb d=>d) (λe=>by simp at e) q C;have G:m'.isTup=Aa:=by cases m'<;>first|rfl|(simp[MV.plain]at g)
    obtain⟨q1,q2⟩:=lZ ((bF G).2 s2) g;refine(bC rfl (by simp)).2 ⟨u.cells.toList,u,rfl,q1,?_⟩
    grind [tS]
  all_goals simp_all
 .simp at h
theorem bE3{P:FV}{E:Env P}{Kp:MV->Prop}{s:MS}{o:Oper}{F:MS->Prop}(H:match lC E s o.op with
   |.val p m=>nK p <|F (s.putO o.dst m)
   |.new p b mk=>nK p <|F (({ s with bx:=s.bx++[b] }:MS).putO o.dst (mk s.bx.length))
   |.res p r fz=>nK p <|nQ (λm=>F ((s.frz fz).putO o.dst m)) Kp r
   |.upd p s' m=>nK p <|F (s'.putO o.dst m)
   |.pan m=>Kp m
   |.stuck=>jM o.op s){S0:FW->Prop}{w0:Base}{w:FX}{c:Ctx}{a:Act}(g:St S0 w0 s c a w)(V:oY o.dst s.n=FR){K:Act->FX->Prop}{Q:Exit->Act->FX->Prop}(W:∀s' c' a' w',F s'->St S0 w0 s' c' a' w'->s'.n=s.n->K a' w')(hP:∀m v w' a',Kp m->PanB w0 w'->Rep1 (AO S0) w' m v->a'.defers=w0.df->Q (.panic [{ v,recovered:=false }]) a' w') :
  o.wp P a w K Q:=by
 have HE:tO c w s a o.op.operands.toList:=mM λt _=>g.tm t;have put_n:∀(s':MS) (m:MV),(s'.putO o.dst m).n=s'.n:=λs' m=>by cases o.dst<;>rfl
 split at H
 .rename_i p m X;obtain⟨N,H⟩:=oand_holds.1 H;obtain⟨v,j,I⟩:=aHz X N HE g.mem.box g.mem.WS g.mem.gw (λi b hl R hf=>g.mem.frozen i b hl R hf);unfold BG;rw[j,A3];exact W _ c _ _ H (g.putO V I) (put_n _ _)
 .rename_i p b mk X;obtain⟨N,H⟩:=oand_holds.1 H;obtain⟨r,hex,arr,ty,v,j,_,hnew⟩:=aOp X N HE;unfold BG;rw[hex,cZ j,A3]
  let n:=s.bx.length
  have hnl:¬c.live n:=λhl=>by have:=(g.mem.fresh _ hl).2.2;omega
  have hal:=g.mem.alloc arr ty b (λi=>c.live i\/i=n) (λi=>if i=n then w.heap.size else c.β i) (λi=>if i=n then ⟨arr.size,b.c.wd⟩else c.sz i) (λi=>BV)
   (λi hi=>F1 (λe:i=n=>hnl (e ▸ hi))) (λi hi=>F1 (λe:i=n=>hnl (e ▸ hi))) (F2 rfl)
   (λc' k e1 e2 e3=>(hnew c' n k (by rw[e1];exact .inr rfl) (by rw[e2];exact F2 rfl) (by rw[e3];exact F2 rfl)).2)
  have hrep:=(hnew _ n hal.2 (.inr rfl) (F2 rfl) (F2 rfl)).1;have l:St S0 w0 { s with bx:=s.bx++[b] } _ a _:=g.keepTm (s':={ s with bx:=s.bx++[b] }) hal.2 hal.1 rfl rfl rfl;exact W _ _ _ _ H (l.putO V hrep) (put_n _ _)
 .rename_i p r fz X;obtain⟨N,H⟩:=oand_holds.1 H;obtain⟨dst,type,pos,after,guard,f,args,tys,rfl,C⟩:=zR X;obtain⟨D,J,hz⟩:=g.mem.frz fz;have hM:=g.mem;have hf:=HE f (by simp[AD,AT]);have h:=aAu (c:=c) (w:=w) (s:=s) (a:=a) args.toList (λx hx=>HE x (by simp[AD,AT];exact .inr (C1.2 hx)));obtain⟨f',caps,hfv,T,M⟩:=aGe C N hf h hM.box
   (S':=(cJ S0 (iS fz s.bx) c.live c.β c.sz).S) (λi b hl R hf hs=>hM.frozen i b hl R hf (J.S _ (D.Slt _ hs) hs)) (λb R=>J.S b (D.Slt b R) R) hz (λb R=>D.Slt b R) hM.gw
  have eargs:(args.toList.map a.eval).toArray=args.map a.eval:=by apply B9;simp
  rw[eargs]at T M;have j:(execOp a.eval ⟨dst,.call ⟨.value f,args,tys⟩,type,pos,after,guard⟩).run P w= .ok (.enter f' (args.map a.eval++caps)) w:=by
   simp[execOp,resolve,C4,hfv,invoke,T]
  unfold BG;rw[j,CL];refine M.mono λe w' ⟨hext,hh⟩=>?_;obtain⟨hm2,hk2⟩:=D.grow hext;rcases evRes_holds r H hh with ⟨m,v,rfl,I,hF'⟩|⟨m,v,rfl,I,hK⟩
  .have l:St S0 w0 (s.frz fz) _ a w':=(g.keepTm (s':=s.frz fz) J D rfl rfl rfl).keepTm (s':=s.frz fz) hk2 hm2 rfl rfl rfl;exact W _ _ _ _ hF' (l.putO V (aAB I (λb R=>R))) (put_n _ _)
  .exact hP m v w' a hK hm2.panB (aVo I (λb R=>.inl R)) g.defers
 .rename_i p s2 m X;obtain⟨N,H⟩:=oand_holds.1 H;rcases aMa X with ⟨dst,type,pos,after,guard,t,x,y,rfl,hst⟩|⟨dst,type,pos,after,guard,args,tys,rfl,B⟩|⟨dst,type,pos,after,guard,args,tys,rfl,G⟩|⟨dst,type,pos,after,guard,f,args,tys,k,rfl,O,C⟩
  .obtain⟨w',j,D,J,L,z,q,rfl⟩:=aEm hst N g.mem (HE x (by simp[AD])) (HE y (by simp[AD]));unfold BG;have e:(execOp a.eval ⟨dst,.store t x y,type,pos,after,guard⟩).run P w= .ok .skip w':=by
    simp[execOp,j]
   rw[e,EF];have l:St S0 w0 s2 c a w':=g.keepTm (s':=s2) J D L z q;refine W _ _ _ _ H (l.putO (m:= .any) (v:=undef) ?_ trivial) ((put_n _ _).trans z);rw[z];exact V
  .unfold eW at B;split at B
   .rename_i d x h;split at B
    .rename_i t t' U;split at B
     .rename_i e hu;split at B
      .rename_i agg size hty;cases Z:size.beq 1 with
       |false=>rw[Z]at B;simp at B
       |true =>
        rw[Z,Z6]at B;simp only[AJ]at Z;subst Z;obtain⟨_,i,_,hi,hisz,_⟩:=tH hty;have ea:args=#[d,x]:=B9 h;have et:tys=#[t,t']:=B9 U;subst ea;subst et;obtain⟨v,w',j,D,J,L,z,q,I⟩:=aQx (t:=t) (t':=t') (ty0:=type) B N hu (by rw[hi];simp[hisz]) g.mem (HE d (by simp[AD,AT])) (HE x (by simp[AD,AT]));unfold BG;have e:(execOp a.eval ⟨dst,.call ⟨.builtin .copy,#[d,x],#[t,t']⟩,type,pos,after,guard⟩).run P w= .ok (.value v) w':=by
         simp[execOp,resolve,invoke,builtin,j]
        rw[e,A3];have l:St S0 w0 s2 c a w':=g.keepTm (s':=s2) J D L z q;refine W _ _ _ _ H (l.putO ?_ I) ((put_n _ _).trans z);rw[z];exact V
      .simp at B
     .simp at B
    .simp at B
   .simp at B
  .unfold jF at G;split at G
   .rename_i d x h;split at G
    .rename_i t t' U;cases Y:t.beq t' with
     |false=>rw[Y]at G;simp at G
     |true =>
      rw[Y,Z6]at G;simp only[AJ]at Y;subst Y;have ea:args=#[d,x]:=B9 h;have et:tys=#[t,t]:=B9 U;subst ea;subst et;obtain⟨b,v,w',c',j,D,J,L,z,q,I⟩:=aJ9 (t:=t) (ty0:=type) G N (g.mem.forgetV (s.ev d)) (by rw[(sI s (s.ev d)).2.2];exact g.np) (HE d (by simp[AD,AT])) (HE x (by simp[AD,AT]));rw[(sI s (s.ev d)).1]at L;rw[(sI s (s.ev d)).2.1]at z;rw[(sI s (s.ev d)).2.2]at q;unfold BG;have e:(execOp a.eval ⟨dst,.call ⟨.builtin .append,#[d,x],#[t,t]⟩,type,pos,after,guard⟩).run P w= .ok (.value v) w':=by
       simp[execOp,resolve,invoke,builtin,j]
      rw[e,A3];have l:St S0 w0 s2 c' a w':=⟨D,λu=>by
       rw[L,aBB];cases hq:(aW u s.tm).ment b with
       |true=>trivial
       |false=>exact J _ _ hq (g.tm u),by rw[z];exact g.size,g.defers,by rw[q];exact g.np⟩
      refine W _ _ _ _ H (l.putO ?_ I) ((put_n _ _).trans z);rw[z];exact V
    .simp at G
   .simp at G
  .have h:=aAu (c:=c) (w:=w) (s:=s) (a:=a) args.toList (λx hx=>HE x (by simp[AD,AT];exact .inr (C1.2 hx)));have hf:=HE f (by simp[AD,AT]);unfold aCc at O;split at O
   .rename_i f0 caps hfe;rw[hfe]at hf;split at O
    .obtain⟨cs,h1,h2,h3⟩:=b6 hf rfl (by simp) rfl;simp only[C5,and_true]at h1;have h2:cs=[]:=h2;subst h2;have A:=aEp O;have eargs:(args.toList.map a.eval).toArray=args.map a.eval:=by apply B9;simp
     have T:=k.call (args.map a.eval) w;rw[A]at T;have j:(execOp a.eval ⟨dst,.call ⟨.value f,args,tys⟩,type,pos,after,guard⟩).run P w= .ok (.enter f0 (args.map a.eval)) w:=by
      simp[execOp,resolve,C4,h1,invoke,T]
     unfold BG;rw[j,CL];cases k with
     |wr k =>
      have A:k.f=f0:=A;have M:=aYa C N g.mem h;rw[eargs,A]at M;refine M.mono ?_
      rintro e w' ⟨rfl,D,J,L,z,q,rfl⟩
      have l:St S0 w0 s2 c a w':=g.keepTm (s':=s2) J D L z q;refine W _ _ _ _ H (l.putO (m:= .tup []) ?_ ⟨_,rfl,rfl⟩) ((put_n _ _).trans z);rw[z];exact V
     |nw k =>
      have A:k.f=f0:=A;have M:=aX7 C N g.mem h;rw[eargs,A]at M;refine M.mono ?_
      rintro e w' ⟨v,c',rfl,D,J,L,z,q,I⟩
      have l:St S0 w0 s2 c' a w':=g.keepTm (s':=s2) J D L z q;refine W _ _ _ _ H (l.putO ?_ I) ((put_n _ _).trans z);rw[z];exact V
     |fr k =>
      have A:k.f=f0:=A;have M:=aX6 C N g.mem h;rw[eargs,A]at M;refine M.mono ?_
      rintro e w' ⟨v,c',rfl,D,J,L,z,q,I⟩
      have l:St S0 w0 s2 c' a w':=g.keepTm (s':=s2) J D L z q;refine W _ _ _ _ H (l.putO ?_ I) ((put_n _ _).trans z);rw[z];exact V
     |pt k =>
      have A:k.f=f0:=A;have M:=aX8 (show aQE s k (args.toList.map s.ev)= .upd p s2 m from C) N g.mem g.np h;rw[eargs,A]at M;refine M.mono ?_
      rintro e w' ⟨b,v,c',rfl,D,J,L,z,q,I⟩
      have l:St S0 w0 s2 c' a w':=⟨D,λu=>by
       rw[L,aBB];cases hq:(aW u s.tm).ment b with
       |true=>trivial
       |false=>exact J _ _ hq (g.tm u),by rw[z];exact g.size,g.defers,by rw[q];exact g.np⟩
      refine W _ _ _ _ H (l.putO ?_ I) ((put_n _ _).trans z);rw[z];exact V
    .simp at O
   .simp at O
 .rename_i m X;obtain⟨dst,type,pos,after,guard,x,rfl,hpn⟩:=aFC X;obtain⟨⟨t,u,hv⟩,I⟩:=aMm hpn g.mem (HE x (by simp[AD]));unfold BG;have e:(execOp a.eval ⟨dst,.panic x,type,pos,after,guard⟩).run P w= .halt (.panic (a.eval x)) w:=by
   simp[execOp,hv,Instr.panic]
  rw[e,Oper.upon_panic];exact hP m _ w a H g.mem.panB I g.defers
 .exact H.elim
theorem aPg{P:O}{E:Env P}{Kp:MV->Prop}{s:MS}{o:W}{F:MS->Prop}(H:match aMc E s o.op with
   |.val p m=>nK p <|F (s.putO o.dst m)
   |.new p b z=>nK p <|F (({ s with bx:=s.bx++[b] }:MS).putO o.dst (z s.bx.length))
   |.res p r fz=>nK p <|nQ (λm=>F ((s.frz fz).putO o.dst m)) Kp r
   |.upd p s' m=>nK p <|F (s'.putO o.dst m)
   |.pan m=>Kp m
   |.stuck=>jM o.op s){S0:V->Prop}{w0:Base}{w:T}{c:Ctx}{a:Act}(d:St S0 w0 s c a w)(x:oY o.dst s.n=FR){K:Act->T->Prop}{Q:Exit->Act->T->Prop}(y:∀s' c' a' w',F s'->St S0 w0 s' c' a' w'->s'.n=s.n->K a' w')(G:∀m v w' a',Kp m->PanB w0 w'->Rep1 (AO S0) w' m v->a'.defers=w0.df->Q (.panic [{ v,recovered:=false }]) a' w') :
  o.wp P a w K Q:=by
 cases h:F3 (aMD (E.fzs 999994)) (aX4 P s o.op) F0 with
 |none =>
  have e:aMc E s o.op=lC E s o.op:=by unfold aMc;rw[h]
  rw[e]at H;exact bE3 H d x y G
 |some q =>
  obtain⟨p,m⟩:=q;have e:aMc E s o.op= .res p (.ret m) []:=by unfold aMc;rw[h]
  rw[e]at H;obtain⟨B,H⟩:=oand_holds.1 H;have h:aX4 P s o.op=FT (p,m):=by
   grind
  have HE:tO c w s a o.op.operands.toList:=mM λt _=>d.tm t;obtain⟨v,w',f,g,A⟩:=aX5 h B (λb j=>d.mem.Slt b j) d.mem.box (λi b C j D=>d.mem.frozen i b C j D) HE;obtain⟨l,u⟩:=d.mem.grow g;unfold BG;rw[f,A3];have k:St S0 w0 s c a w':=d.keepTm (s':=s) u l rfl rfl rfl;exact y _ _ _ _ H (k.putO x A) (by cases o.dst<;>rfl)
theorem aJd{c:Ctx}{w:T}{a:Act}{d:V}{b:S}(h:Rep c w (.bool b) (a.tmps.getD d undef)):a.tmps[d]? =FT (.bool b):=by
 have:=fI h;rw[AB]at this;cases e:a.tmps[d]? with
 |none=>rw[e]at this;simp[undef]at this
 |some v=>rw[e]at this;simpa using this
theorem tI{ops:N W}{o f:W}{j d:V}{want b:S}{c:Ctx}{w:T}{a:Act}(g:o.guard=FT (j,want))(e:aR ops.toList j=FT f)(h:f.dst=FT d)(i:Rep c w (.bool b) (a.tmps.getD d undef)):AC o (yielded ops a.tmps)=(b==want):=by
 rw[bY]at e;have e:ops[j]? =FT f:=by simpa using e
 simp[AC,g,yielded,e,h,aJd i]
theorem aJe{a:Act}{d:V}{c:Ctx}{w:T}(h:Rep c w (.tup []) (a.tmps.getD d undef)):∀b,a.tmps[d]?≠FT (.bool b):=by
 intro b e;obtain⟨vs,h1,_⟩:=h
 simp_all
theorem aCw{ops:N W}{o b:W}{j d:V}{want:S}{c:Ctx}{w:T}{a:Act}(g:o.guard=FT (j,want))(e:aR ops.toList j=FT b)(hd:b.dst=FT d)(h:Rep c w (.tup []) (a.tmps.getD d undef)):AC o (yielded ops a.tmps)=Aa:=by
 rw[bY]at e;have e:ops[j]? =FT b:=by simpa using e
 have hn:=aJe h;have f:yielded ops a.tmps j=F0:=by
  unfold yielded
  simp_all
 simp[AC,g,f]
theorem cH{P:O}{E:Env P}{Kp:MV->Prop}{ops:N W}{S0:V->Prop}{w0:Base}{Q:Exit->Act->T->Prop}(y:∀m v w' a',Kp m->PanB w0 w'->Rep1 (AO S0) w' m v->a'.defers=w0.df->Q (.panic [{ v,recovered:=false }]) a' w') :
  ∀(l:X W) (s:MS) (K:MS->Prop) (c:Ctx) (a:Act) (w:T),eG E ops.toList Kp l s K->St S0 w0 s c a w->
  (∀s' c' a' w',K s'->St S0 w0 s' c' a' w'->s'.n=s.n->Q .normal a' w')->wpList P ops Q l a w
 |[],s,K,c,a,w,h,e,z=>z s c a w h e rfl
 |o::l,s,K,c,a,w,h,e,z=>by
  simp only[eG]at h;cases g:oY o.dst s.n with
  |false=>rw[g]at h;exact h.elim
  |true =>
   rw[g,Z6]at h;unfold wpList;split at h
   .rename_i B;rw[F2 (by simp[AC,B])];refine .inl (aPg h e g (λs' c' a' w' H C D=>cH y l s' K c' a' w' H C λs2 t u i q1 q k=>z s2 t u i q1 q (k.trans D)) y)
   .rename_i j want B;split at h
    .rename_i oj I;split at h
     .rename_i d J;split at h
      .rename_i b G;have f:=e.tm d;rw[G]at f;have A:=tI (o:=o) B I J f;have key:(b=want/\(match aMc E (s.put d (.bool want)) o.op with
         |.val p m=>nK p <|eG E ops.toList Kp l ((s.put d (.bool want)).putO o.dst m) K
         |.new p b L=>nK p <|eG E ops.toList Kp l (({ s.put d (.bool want)with bx:=(s.put d (.bool want)).bx++[b] }:MS).putO o.dst (L (s.put d (.bool want)).bx.length)) K
         |.res p r fz=>nK p <|nQ (λm=>eG E ops.toList Kp l (((s.put d (.bool want)).frz fz).putO o.dst m) K) Kp r
         |.upd p s' m=>nK p <|eG E ops.toList Kp l (s'.putO o.dst m) K
         |.pan m=>Kp m
         |.stuck=>jM o.op (s.put d (.bool want))))\/(b=(!want)/\eG E ops.toList Kp l ((s.put d (.bool (!want))).putO o.dst (.tup [])) K):=by
        unfold v7 Br at h;cases b<;>cases want<;>first|exact .inl ⟨rfl,h⟩|exact .inr ⟨rfl,h⟩
       rcases key with ⟨rfl,F⟩|⟨rfl,F⟩
       .rw[A,F2 (by simp)];have x:St S0 w0 (s.put d (.bool b)) c a w:=e.again f;refine .inl (aPg F x g (λs' c' a' w' H C D=>cH y l s' K c' a' w' H C λs2 t u i q1 q k=>z s2 t u i q1 q (k.trans D)) y)
       .rw[A,F1 (by cases want<;>simp)];have x:St S0 w0 (s.put d (.bool (!want))) c a w:=e.again f;exact cH y l _ K c _ w F (x.putO (m:= .tup []) (v:=undef) g ⟨#[],rfl,rfl⟩) λs2 t u i q1 q k=>z s2 t u i q1 q (k.trans (by cases o.dst<;>rfl))
      .rename_i G;have f:=e.tm d;rw[G]at f;have A:=aCw (o:=o) B I J f;rw[A,F1 (by simp)];exact cH y l _ K c _ w h (e.putO (m:= .tup []) (v:=undef) g ⟨#[],rfl,rfl⟩) λs2 t u i q1 q k=>z s2 t u i q1 q (k.trans (by cases o.dst<;>rfl))
      .exact h.elim
     .exact h.elim
    .exact h.elim
theorem rZ(acc:X V):∀(l:X Edge) (b:V),(mU acc l).testBit b=FR->∃e∈l,BR .any e=FR/\(b=e.on\/∃m,aR acc e.on=FT m/\m.testBit b=FR)
 |[],b,h=>by simp[mU]at h
 |e::r,b,h=>by
  simp only[mU]at h;cases a:BR .any e with
  |false =>
   simp_all [rZ]
  |true =>
   rw[a,Z6]at h;simp only[EJ,CQ]at h;rcases h with (h|h)|h
   .grind
   .grind
   simp_all [rZ]
theorem kB{α:Type}(l r:X α)(i:V)(h:i<l.length):aR (l++r) i=aR l i:=by simp only[bY];rw[CB h]
theorem aBZ:∀(l:X W) (acc:X V) (i:V),i<acc.length->aR (jQ acc l) i=aR acc i
 |[],_,_,_=>rfl
 |o::l,acc,i,h=>by
  simp only[jQ];rw[aBZ l _ i (by simp;omega),kB _ _ _ h]
theorem aJC:∀(l:X W) (acc:X V) (i:V) (o:W) (m:V),aR l i=FT o->aR (jQ acc l) (acc.length+i)=FT m->(∀e∈o.after.toList,BR .any e=FR->e.on<acc.length+i)->
  ∀b,m.testBit b=FR->∃e∈o.after.toList,BR .any e=FR/\(b=e.on\/∃m',aR (jQ acc l) e.on=FT m'/\m'.testBit b=FR)
 |[],acc,i,o,m,h,_,_,_,_=>by simp[aR]at h
 |x::l,acc,0,o,m,h,hm,he,b,hb=>by
  grind [aR,Z1,jQ,aBZ,mU,bY,rZ,kB]
 |x::l,acc,i+1,o,m,h,hm,he,b,hb=>by
  simp only[jQ]at hm⊢;have h:aR l i=FT o:=h;have a:acc.length+(i+1)=(acc++[mU acc x.after.toList]).length+i:=by simp;omega
  rw[a]at hm he;exact aJC l _ i o m h hm he b hb
theorem kX:∀(l:X W) (k:V),j5 k l=FR->∀(i:V) (o:W),aR l i=FT o->∀e∈o.after.toList,BR .any e=FR->e.on<k+i
 |[],_,_,i,o,h,_,_,_=>by simp[aR]at h
 |x::l,k,b,i,o,h,e,c,a=>by
  simp only[j5,Z3]at b;obtain⟨h1,d⟩:=b;cases i with
  |zero =>
   grind [aR,Z1,D8,Bool.not_true,BA]
  |succ i =>
   have:=kX l (k+1) d i o h e c a;omega
theorem aSs{i n:V}(h:i<n):i.blt n=FR:=by rw[BA];exact h
theorem aP9{i n:V}(h:n<=i):i.blt n=Aa:=by
 grind [BA]
theorem qH(L:X W)(n:V):∀(l:X W) (a:X V) (i:V),s9 L n i a l=FR->∀(j:V) (o:W),aR l j=FT o->∃m,aR a j=FT m/\
  (i+j<n->aLy L n (i+j) m o 0 L=FR)/\(n<=i+j->pD (i+j) m=FR)
 |[],_,_,_,j,o,h=>by simp[aR]at h
 |x::l, [],_,b,j,o,h=>by simp[s9]at b
 |x::l,m::a,i,b,j,o,h=>by
  simp only[s9,Z3]at b;obtain⟨h1,e⟩:=b;cases j with
  |zero =>
   grind [aR,Z1,aSs,aP9]
  |succ j =>
   obtain⟨m',q1,d,c⟩:=qH L n l a (i+1) e j o h;exact⟨m',q1,λhlt=>by have:=d (by omega);rwa [show i+1+j=i+(j+1) by omega]at this,λhge=>by have:=c (by omega);rwa [show i+1+j=i+(j+1) by omega]at this⟩
theorem p7{i m:V}(h:pD i m=FR):∀j,j<i->m.testBit j=FR:=by
 intro j hj;simp only[pD,AJ]at h;have:(m &&&(2^i-1)).testBit j=(2^i-1).testBit j:=by rw[h]
 grind
theorem tB{L:X W}{n i m:V}{o:W}:∀(l:X W) (j:V),aLy L n i m o j l=FR->∀(k:V) (p:W) (d:V),aR l k=FT p->p.dst=FT d->
  (j+k<n->j+k≠i->o.dst≠FT d/\(d∈Oper.looks L o->j+k<i/\m.testBit (j+k)=FR))/\(j+k=i->d ∉ Oper.looks L o)
 |[],_,_,k,p,d,h,_=>by simp[aR]at h
 |x::l,j,c,k,p,d,h,e=>by
  simp only[aLy,Z3]at c;obtain⟨q,g⟩:=c;cases k with
  |succ k =>
   have:=tB l (j+1) g k p d h e
   grind
  |zero =>
   simp only[aR,Z1]at h;subst h;rw[e]at q;simp only[EN];constructor
   .intro b a;have hc:(j.blt n&&!(j.beq i))=FR:=by
     simp only[Z3,BA,b,AW,true_and];cases f:j.beq i with
     |false=>rfl
     |true=>exact FU (by simpa using f) a
    grind [AW,BA,Oper.looks,DI]
   grind [Nat.beq_refl,AW,Oper.looks,DI]
structure Down (ops:Array Oper) (listed:Array Bool):Prop where
 size:listed.size=ops.size
 down:∀i o,ops[i]? =some o->listed.getD i false=true->∀e∈o.after.toList,BR .any e=true->listed.getD e.on false=true
theorem mem_ready{ops:N W}{listed:N S}{i:V}:i∈AG .any ops listed↔i<ops.size/\listed.getD i FR=Aa/\∃o,ops[i]? =FT o/\∀e∈o.after.toList,BR .any e=FR->listed.getD e.on Aa=FR:=by
 simp only[AG,EC,EI,Z3,AW];constructor
 .rintro⟨a,c,b⟩
  refine⟨a,c,ops[i],by simp[a],λe he hb=>?_⟩;simp only[Array.getElem?_eq_getElem a,Option.map_some,Option.getD_some,<-Array.all_toList,D8]at b
  grind
 grind
theorem bX{listed:N S}{i:V}(h:i<listed.size):listed.getD i FR=listed.getD i Aa:=by simp[h]
theorem Down.put{ops:N W}{listed:N S}(h:Down ops listed){i:V}(b:i∈AG .any ops listed):Down ops (listed.setIfInBounds i FR):=by
 obtain⟨h1,h2,o,h3,h4⟩:=mem_ready.1 b;have mono:∀j,listed.getD j Aa=FR->(listed.setIfInBounds i FR).getD j Aa=FR:=by
  intro j a;simp only[AB,AU]at a⊢
  grind
 refine⟨by simp[h.size],λj o' a hl e c d=>?_⟩;by_cases hij:i=j
 .simp_all
 .refine mono _ (h.down j o' a ?_ e c d)
  simp_all
theorem Down.mask{ops:N W}{listed:N S}(h:Down ops listed)(c:j5 0 ops.toList=FR):∀(i:V) (o:W) (m:V),aR ops.toList i=FT o->aR (jQ [] ops.toList) i=FT m->
  (∀e∈o.after.toList,BR .any e=FR->listed.getD e.on Aa=FR)->∀b,m.testBit b=FR->listed.getD b Aa=FR:=by
 intro i
 induction i using Nat.strongRecOn with
 |_ i ih =>
  intro o m g q p b r;have f:=kX ops.toList 0 c i o g;obtain⟨e,k,j,u⟩:=aJC ops.toList [] i o m g (by simpa using q) (by simpa using f) b r;rcases u with rfl|⟨m',t,s⟩
  .exact p e k j
  .have n:e.on<i:=by have:=f e k j;omega
   have a:=p e k j;have d:e.on<ops.size:=by
    have:=jU g;simp at this;omega
   have l:aR ops.toList e.on=FT ops[e.on]:=by rw[bY];simp[d]
   exact ih e.on n ops[e.on] m' l t (h.down e.on _ (by simp[d]) a) b s
theorem aFr{P:O}{ops:N W}{Q:Exit->Act->T->Prop}{o:W}{rest:X W}{a:Act}{w:T}{i:V}(b:ops[i]? =FT o)(h:wpList P ops Q (o::rest) a w):wpOp P ops Q i (wpList P ops Q rest) a w:=by
 unfold wpOp;simp only[b];exact h
theorem aPO{P:O}{ops:N W}{Q:Exit->Act->T->Prop}(c:j5 0 ops.toList=FR)(n:V)(d:∀i o,aR ops.toList i=FT o->n<=i->∃m,aR (jQ [] ops.toList) i=FT m/\pD i m=FR) :
  ∀(l:X W) (k:V) (listed:N S) (a:Act) (w:T),(∀j,aR l j=aR ops.toList (k+j))->k+l.length=ops.size->n<=k->Down ops listed->(∀j,listed.getD j Aa=H (j<k))->
  wpList P ops Q l a w->wpAny P .any ops Q l.length listed a w
 |[],k,listed,a,w,u,v,hn,g,b,h=>by
  refine⟨?_,h⟩;apply BH.2
  grind [mem_ready,bX]
 |o::l,k,listed,a,w,u,v,hn,g,b,h=>by
  have f:k<ops.size:=by simp at v;omega
  have t:aR ops.toList k=FT o:=by have:=u 0;simp[aR]at this;exact this.symm
  have p:ops[k]? =FT o:=by rw[bY]at t;simpa using t
  have only:∀i∈AG .any ops listed,i=k:=by
   intro i r;obtain⟨F,y,s,E,D⟩:=mem_ready.1 r;rw[bX (by rw[g.size];exact F),b]at y;have hge:k<=i:=by simpa using y
   rcases AM k i with x|hle
   .exfalso;have q:aR ops.toList i=FT s:=by rw[bY];simpa using E
    obtain⟨m,z,A⟩:=d i s q (by omega);have:=g.mask c i s m q z D k (p7 A k x)
    simp_all
   .omega
  have isr:k∈AG .any ops listed:=by
   refine mem_ready.2 ⟨f,?_,o,p,λe B C=>?_⟩
   .rw[bX (by rw[g.size];exact f),b];simp
   .have:=kX ops.toList 0 c k o t e B C
    simp_all
  refine⟨λG=>by rw[G]at isr;simp at isr,λi r=>?_⟩;have:=only i r;subst this;refine wpOp_mono (λa' w' h'=>?_) (aFr p h);refine aPO c n d l (i+1) _ a' w' (λj=>by have:=u (j+1);simp only[aR]at this;rw[this];congr 1;omega) (by simp at v;omega) (by omega) (g.put r) (λj=>?_) h';simp only[AB,AU];by_cases e:i=j
  .subst e;simp[g.size,f]
  grind [AB]
def wrN(L:X W)(n j t:V):Prop:=j<n/\∃o,aR L j=FT o/\o.dst=FT t
def bB2(L:X W)(o:W)(s:MS):Prop:=o.guard=F0\/∃j want a d,o.guard=FT (j,want)/\aR L j=FT a/\a.dst=FT d/\aW d s.tm= .bool want
def bGU(L:X W)(o:W)(s:MS):Prop:=∃j want a d,o.guard=FT (j,want)/\aR L j=FT a/\a.dst=FT d/\(aW d s.tm= .bool (!want)\/aW d s.tm= .tup [])
def Sep(b:X V)(q:Pend)(j:V)(l:X MV):Prop:=(∃a,aR b q.k=FT a/\a.testBit j=FR)\/eA q.i l=Aa
structure Fin' where
 sF:MS
 dead:Option (Nat×MV)
 pd:List Pend
def aDV{P:O}(E:Env P)(F:Fin')(k a:V)(o:W)(s:MS)(R:MV->Prop):Prop :=
 match aFB E s o.op with
 |.val p m=>p.holds/\(∀q∈F.pd,q.k≠k)/\R m
 |.new p b d=>p.holds/\(∀q∈F.pd,q.k≠k)/\aR F.sF.bx s.bx.length=FT b/\a=s.bx.length+1/\R (d s.bx.length)
 |.res p r fz=>fz=[]/\p.holds/\(∀q∈F.pd,q.k≠k)/\nQ R (λm=>F.dead=FT (k,m)) r
 |.upd p s' _=>p.holds/\(∀p x,F.dead=FT (p,x)->p≠k)/\o.dst=F0/\∃i b,rT s o.op=FT i/\aR s'.bx i=FT b/\⟨k,i,b.c⟩∈F.pd/\∀q∈F.pd,q.k=k->q=⟨k,i,b.c⟩
 |_=>z
def AtR(L:X W)(n:V)(F:Fin')(k:V)(o:W)(m:MV):Prop :=
 (∀p x,F.dead=FT (p,x)->p≠k)/\∀d,o.dst=FT d->(∀j,k<j->¬wrN L n j d)->aW d F.sF.tm=m
def At{P:O}(E:Env P)(L:X W)(b:X V)(n:V)(F:Fin')(k:V)(o:W)(s s':MS):Prop :=
 (∃p m c,F.dead=FT (p,m)/\p<k/\aR b k=FT c/\c.testBit p=FR)\/
 (oY o.dst s.n=FR/\∃a:MS,(∀t,aW t a.tm=aW t s.tm)/\a.bx=s.bx/\a.n=s.n/\
  ((bGU L o a/\(∀q∈F.pd,q.k≠k)/\AtR L n F k o (.tup []))\/(bB2 L o a/\(∀q∈F.pd,q.k≠k->Sep b q k (uY a o.op))/\aDV E F k s'.bx.length o a (AtR L n F k o))))
structure Cert {P:Program} (E:Env P) (L:List Oper) (ms:List Nat) (Kp:MV->Prop) (n:Nat) (dead:Option (Nat×MV)) (pd:List Pend) (seen:List (Nat×List MV)) (k:Nat) (s:MS) (K:MS->Prop) (F:Fin') (σ:Nat->MS):Prop where
 fin:F.dead=none->K { F.sF with bx:=aCk F.pd F.sF.bx }
 pan:∀p m,F.dead=some (p,m)->Kp m/\p<n
 more:∀x,dead=some x->F.dead=some x
 from_:∀p m,F.dead=some (p,m)->dead=some (p,m)\/k<=p
 first:σ k=s
 last:σ n=F.sF
 num:∀j,k<=j->j<=n->(σ j).n=F.sF.n/\(σ j).np=F.sF.np
 bx:∀j,k<=j->j<=n->∀i b,aR (σ j).bx i=some b->aR F.sF.bx i=some b
 len:∀j,k<=j->j<n->(σ j).bx.length<=(σ (j+1)).bx.length
 lk:∀j,k<=j->j<=n->∀t,(∀i,j<=i->¬wrN L n i t)->aW t F.sF.tm=aW t (σ j).tm
 at_:∀j o,k<=j->j<n->aR L j=some o->At E L ms n F j o (σ j) (σ (j+1))
 pmore:∀q,q∈pd->q∈F.pd
 pfrom:∀q,q∈F.pd->q∈pd\/(k<=q.k/\q.k<n)
 pnod:(F.pd.map Pend.i).Nodup
 pseen:∀q∈F.pd,k<=q.k->∀e∈seen,Sep ms q e.1 e.2
 pbox:∀q∈F.pd,∃c,aR F.sF.bx q.i=some ⟨false,c⟩
theorem aCe:∀ {a:X Pend} {l:X MV},aEM a l=FR->∀q∈a,eA q.i l=Aa
 |[],_,_=>λq hq=>by simp at hq
 |x::r,l,h=>λq hq=>by
  simp only[aEM,Z3,AW]at h;rcases A0.1 hq with rfl|hq
  .exact h.1
  .exact aCe h.2 q hq
theorem aCs{i a:V}:∀ {l:X (V×X MV)},aFa i a l=FR->∀e∈l,a.testBit e.1=FR\/eA i e.2=Aa
 |[],_=>λe he=>by simp at he
 |x::r,h=>λe he=>by
  simp only[aFa,Z3,CQ,AW]at h;rcases A0.1 he with rfl|he
  .exact h.1
  .exact aCs h.2 e he
theorem kO{P:FV}{E:Env P}{L:X W}{z:X V}{Kp:MV->Prop}{n k:V}{dead dead2:F4 (V×MV)}{B a:X Pend}{seen seen2:X (V×X MV)}{s s2:MS}{o:W}{K:MS->Prop}(O:aR L k=FT o)(A:k<n)(hn:s2.n=s.n/\s2.np=s.np)(hbx:∀i b,aR s.bx i=FT b->aR s2.bx i=FT b)(hlen:s.bx.length<=s2.bx.length)(w:∀t,o.dst≠FT t->aW t s2.tm=aW t s.tm)(y:∀x,dead=FT x->dead2=FT x)(g:∀p m,dead2=FT (p,m)->dead=FT (p,m)\/k<=p)(I:∀q,q∈B->q∈a)(hpd2:∀q,q∈a->q∈B\/(q.k=k/\∀e∈seen,Sep z q e.1 e.2))(hpk:∀q∈B,q.k<k)(v:∀e,e∈seen->e∈seen2)(IH:∃F σ,Cert E L z Kp n dead2 a seen2 (k+1) s2 K F σ)(J:∀F,(∀x,dead2=FT x->F.dead=FT x)->(∀p m,F.dead=FT (p,m)->dead2=FT (p,m)\/k+1<=p)->(∀i b,aR s2.bx i=FT b->aR F.sF.bx i=FT b)->(∀d,(∀j,k<j->¬wrN L n j d)->aW d F.sF.tm=aW d s2.tm)->
   (∀q,q∈a->q∈F.pd)->(∀q,q∈F.pd->q∈a\/k+1<=q.k)->(∀q∈F.pd,k+1<=q.k->∀e∈seen2,Sep z q e.1 e.2)->At E L z n F k o s s2) :
  ∃F σ,Cert E L z Kp n dead B seen k s K F σ:=by
 obtain⟨F,σ,C⟩:=IH;have r:∀j,k<j->(if j<=k then s else σ j)=σ j:=λj hj=>F1 (by omega);have H:(if k<=k then s else σ k)=s:=if_pos (Z0 _);have M:(if k+1<=k then s else σ (k+1))=s2:=by rw[F1 (by omega)];exact C.first
 refine⟨F,λj=>if j<=k then s else σ j,?_⟩;have c:=C.lk (k+1) (Z0 _) (by omega);rw[C.first]at c;have u:=C.bx (k+1) (Z0 _) (by omega);rw[C.first]at u;have hn2:=C.num (k+1) (Z0 _) (by omega);rw[C.first]at hn2;refine⟨C.fin,C.pan,λx S=>C.more x (y x S),λp m e=>(C.from_ p m e).elim (g p m) (λh=>.inr (by omega)),H,by rw[r n A];exact C.last,λj D f=>?_,λj D f=>?_,λj D f=>?_,λj D f=>?_,λj R D f G=>?_,
  λq l=>C.pmore q (I q l),λq l=>?_,C.pnod,λq l hkq e T=>?_,C.pbox⟩
 .rcases AM k j with h|h
  .simp only[r j h];exact C.num j h f
  simp_all
 .rcases AM k j with h|h
  .simp only[r j h];exact C.bx j h f
  simp_all
 .rcases AM k j with h|h
  .simp only[r j h,r (j+1) (by omega)];exact C.len j h f
  grind
 .rcases AM k j with h|h
  .simp only[r j h];exact C.lk j h f
  .have:j=k:=by omega
   subst this;simp only[H];intro t N;rw[c t λi Q=>N i (by omega)];exact w t λe=>N j (Z0 _) ⟨A,o,O,e⟩
 .rcases AM k j with h|h
  .simp only[r j h,r (j+1) (by omega)];exact C.at_ j R h f G
  .have:j=k:=by omega
   subst this;rw[O,Z1]at G;subst G;simp only[H,M];exact J F C.more C.from_ u (λd U=>c d λi Q=>U i Q) C.pmore (λq l=>(C.pfrom q l).imp id (λh=>h.1)) C.pseen
 .rcases C.pfrom q l with h|h
  all_goals grind
 .rcases C.pfrom q l with h|h
  .grind
  .exact C.pseen q l h.1 e (v e T)
theorem oN(s:MS)(t:g V)(m:MV)(u:V)(h:t≠FT u):aW u (s.putO t m).tm=aW u s.tm:=by
 cases t with
 |none=>rfl
 |some t=>simp only[MS.putO,uQ];rw[A (λe=>h (by rw[e]))]
theorem iZ(s:MS)(t:V)(m:MV):aW t (s.putO (FT t) m).tm=m:=by simp only[MS.putO,uQ,if_true]
theorem gC(s:MS)(t:g V)(m:MV):(s.putO t m).bx=s.bx:=by cases t<;>rfl
theorem aEX{s a:MS}{t:g V}{m:MV}(e:s.n=a.n/\s.np=a.np):(s.putO t m).n=a.n/\(s.putO t m).np=a.np:=by cases t<;>exact e
theorem aEE(s:MS)(d:V)(m:MV)(h:aW d s.tm=m)(t:V):aW t (s.put d m).tm=aW t s.tm:=by
 grind [uQ]
theorem aBs{kr a:MV->Prop}:∀(r:MRes),nQ kr a r->∃x:MRes,(∀ {kr' kp':MV->Prop},nQ kr' kp' x->nQ kr' kp' r)/\((∃m,x= .ret m/\kr m)\/(∃m,x= .pan m/\a m))
 |.ret m,h=>⟨.ret m,id,.inl ⟨m,rfl,h⟩⟩
 |.pan m,h=>⟨.pan m,id,.inr ⟨m,rfl,h⟩⟩
 |.br b x y,h=>by
  simp only[nQ,Br]at h;cases b with
  |false =>
   simp_all [aBs,nQ,Br]
  |true =>
   simp_all [aBs,nQ,Br]
theorem iD{P:FV}{E:Env P}{L:FY Oper}{Q:FY FW}{Kp:MV->Prop}{n:FW}{K:MS->Prop} :
  ∀(rest:FY Oper) (dead:F4 (FW×MV)) (l:FY Pend) (seen:FY (FW×FY MV)) (k:FW) (s:MS),rB E L Q Kp K rest dead l seen k s->k+rest.length=n->(∀i,i<rest.length->aR rest i=aR L (k+i))->(∀p m,dead=FT (p,m)->p<k)->
  (∀q∈l,q.k<k)->(l.map Pend.i).Nodup->(∀q∈l,∃c,aR s.bx q.i=FT ⟨Aa,c⟩)->
  ∃F σ,Cert E L Q Kp n dead l seen k s K F σ
 |[],dead,l,seen,k,s,h,hk,hl,hd,z,C,S=>by
  simp at hk;subst hk;simp only[rB]at h;refine⟨⟨s,dead,l⟩,λ_=>s,⟨λe=>?_,λp m e=>?_,λx B=>B,λp m e=>.inl e,rfl,rfl,λ_ _ _=>⟨rfl,rfl⟩,λ_ _ _ _ _ h=>h,λ_ _ _=>Z0 _,λ_ _ _ _ _=>rfl,λj o h1 h2 _=>by omega,
   λq hq=>hq,λq hq=>.inl hq,C,λq hq hkq=>by have:=z q hq;omega,S⟩⟩
  all_goals simp_all
 |o::rest,dead,l,seen,k,s,h,hk,hl,hd,z,C,S=>by
  simp only[A7]at hk;have M:k<n:=by omega
  have I:aR L k=FT o:=by have:=hl 0 (by simp);simp only[aR,EN]at this;exact this.symm
  have J:∀i,i<rest.length->aR rest i=aR L (k+1+i):=λi hi=>by
   have:=hl (i+1) (by simp;omega)
   grind [aR]
  have nd:∀ {deadF:F4 (FW×MV)},(∀p m,deadF=FT (p,m)->dead=FT (p,m)\/k+1<=p)->∀p x,deadF=FT (p,x)->p≠k:=by
   grind
  have npk:∀ {pdF:FY Pend},(∀q,q∈pdF->q∈l\/k+1<=q.k)->∀q∈pdF,q.k≠k:=by
   grind
  have A:∀q∈l,q.k<k+1:=λq hq=>by have:=z q hq;omega
  have run:∀g:MS,(∀t,aW t g.tm=aW t s.tm)->g.bx=s.bx->g.n=s.n/\g.np=s.np->oY o.dst s.n=FR->bB2 L o g->
    aEU E Q dead l seen k o g (λd p q s'=>rB E L Q Kp K rest d p q (k+1) s')->∃F σ,Cert E L Q Kp n dead l seen k s K F σ:=by
   intro g e1 N Z f W H;unfold aEU at H;cases T:aEM l (uY g o.op)with
   |false=>rw[T]at H;exact H.elim
   |true =>
   rw[T,Z6]at H;have T:=aCe T;have R:∀q∈l,∃c,aR g.bx q.i=FT ⟨Aa,c⟩:=λq hq=>by rw[N];exact S q hq
   have sepF:∀ {F:Fin'} {pd2:FY Pend},(∀q,q∈F.pd->q∈pd2\/k+1<=q.k)->(∀q∈pd2,q∈l\/q.k=k)->(∀q∈F.pd,k+1<=q.k->∀e∈(k,uY g o.op)::seen,Sep Q q e.1 e.2)->∀q∈F.pd,q.k≠k->Sep Q q k (uY g o.op):=by
    intro F pd2 h1 h2 h3 q hq hne;rcases h1 q hq with h|h
    .rcases h2 q h with h|h
     .exact .inr (T q h)
     .exact FU h hne
    simp_all
   split at H
   .rename_i p m u;obtain⟨hp,H⟩:=oand_holds.1 H;refine kO I M (aEX Z) (λi b w=>by rw[gC,N];exact w) (by rw[gC,N];exact Z0 _) (λt ht=>(oN _ _ _ _ ht).trans (e1 t)) (λx B=>B) (λp m e=>.inl e)
     (λq hq=>hq) (λq hq=>.inl hq) z (λe u=>AP _ u)
     (iD rest dead l _ (k+1) _ H (by omega) J (λp m e=>by have:=hd p m e;omega) A C (λq hq=>by rw[gC];exact R q hq)) (λF _ a _ v hm G V=>.inr ⟨f,g,e1,N,Z.1,.inr ⟨W,sepF G (λq hq=>.inl hq) V,?_⟩⟩)
    unfold aDV;rw[u];refine⟨hp,npk G,nd a,λd U hw=>?_⟩;rw[v d hw,U,iZ]
   .rename_i p b mk u;obtain⟨hp,H⟩:=oand_holds.1 H;refine kO (s2:=({ g with bx:=g.bx++[b] }:MS).putO o.dst (mk g.bx.length)) I M (aEX Z) (λi b' w=>by
      grind [gC,aR,kB,jU,oN]) (by rw[gC];simp[N]) (λt ht=>(oN _ _ _ _ ht).trans (e1 t)) (λx B=>B) (λp m e=>.inl e)
     (λq hq=>hq) (λq hq=>.inl hq) z (λe u=>AP _ u)
     (iD rest dead l _ (k+1) _ H (by omega) J (λp m e=>by have:=hd p m e;omega) A C (λq hq=>by
      grind [gC,kB,jU])) (λF _ a hbx v hm G V=>.inr ⟨f,g,e1,N,Z.1,.inr ⟨W,sepF G (λq hq=>.inl hq) V,?_⟩⟩)
    unfold aDV;rw[u];refine⟨hp,npk G,hbx _ _ ?_,by rw[gC];simp,nd a,λd U hw=>?_⟩
    all_goals grind [gC,bY,iZ]
   .rename_i p r fz u;split at H
    .obtain⟨hp,H⟩:=oand_holds.1 H;obtain⟨x,hway,B⟩:=aBs r H;rcases B with ⟨m,rfl,H⟩|⟨m,rfl,H⟩
     .refine kO I M (aEX Z) (λi b w=>by rw[gC,N];exact w) (by rw[gC,N];exact Z0 _) (λt ht=>(oN _ _ _ _ ht).trans (e1 t)) (λx B=>B) (λp m e=>.inl e)
       (λq hq=>hq) (λq hq=>.inl hq) z (λe u=>AP _ u)
       (iD rest dead l _ (k+1) _ H (by omega) J (λp m e=>by have:=hd p m e;omega) A C (λq hq=>by rw[gC];exact R q hq)) (λF _ a _ v hm G V=>.inr ⟨f,g,e1,N,Z.1,.inr ⟨W,sepF G (λq hq=>.inl hq) V,?_⟩⟩)
      unfold aDV;rw[u];refine⟨rfl,hp,npk G,hway ⟨nd a,?_⟩⟩
      grind [iZ]
     .cases dead with
      |some _=>exact H.elim
      |none =>
       refine kO (s2:=g) (dead2:=some (k,m)) I M Z (λi b w=>by rw[N];exact w) (by rw[N];exact Z0 _) (λt _=>e1 t) (λx B=>by simp at B) (λp m' e=>by simp at e;exact .inr (by omega))
        (λq hq=>hq) (λq hq=>.inl hq) z (λe u=>AP _ u)
        (iD rest (FT (k,m)) l _ (k+1) g H (by omega) J (λp m' e=>by simp at e;omega) A C R) (λF D _ _ v hm G V=>.inr ⟨f,g,e1,N,Z.1,.inr ⟨W,sepF G (λq hq=>.inl hq) V,?_⟩⟩)
       unfold aDV;rw[u];exact⟨rfl,hp,npk G,hway (D _ rfl)⟩
    .exact H.elim
   .rename_i p s' m u;split at H
    .split at H
     .rename_i hod;split at H
      .rename_i i hi;split at H
       .rename_i b w;split at H
        .rename_i mk hmk;cases X:aFa i mk seen with
         |false=>rw[X]at H;exact H.elim
         |true =>
          rw[X,Z6]at H;have X:=aCs X;obtain⟨hp,H⟩:=oand_holds.1 H;obtain⟨dst,type,pos,after,guard,t,x,y,rfl,O⟩:∃dst type pos after guard t x y,o=⟨dst,.store t x y,type,pos,after,guard⟩/\eN P g t (g.ev x) (g.ev y)= .upd p s' m:=by
           obtain⟨dst,op,type,pos,after,guard⟩:=o;cases op with
           |store t x y=>exact⟨dst,type,pos,after,guard,t,x,y,rfl,(aJ7 u:lC E g (.store t x y)= .upd p s' m)⟩
           |_=>simp[rT]at hi
          have hib:∃off,g.ev x= .bp i off:=by
           grind [rT,Z1]
          obtain⟨off,B⟩:=hib;have hmi:∀q∈l,q.i≠i:=λq hq e=>by
           have:=T q hq;simp[uY,AD,eA,B,B6,e]at this
          have hbox:∃c,aR g.bx i=FT ⟨Aa,c⟩:=by
           rw[B]at O;unfold eN at O;split at O
           .simp only at O;split at O
            .rename_i b0 hb0;obtain⟨fz,bc⟩:=b0
             grind
            .simp at O
           .simp at O
          have hsp:∀e∈seen,Sep Q ⟨k,i,b.c⟩ e.1 e.2:=λe u=>by
           rcases X e u with h|h
           .exact .inl ⟨mk,hmk,h⟩
           .exact .inr h
          refine kO (s2:=g) (dead2:=none) I M Z (λi b w=>by rw[N];exact w) (by rw[N];exact Z0 _) (λt _=>e1 t) (λx B=>B) (λp m e=>.inl e)
           (λq hq=>AP _ hq) (λq hq=>by
            grind) z (λe u=>AP _ u)
           (iD rest F0 _ _ (k+1) g H (by omega) J (λp m e=>by simp at e) (λq hq=>by
            grind) (by
             rw[DH,CN];refine⟨λhm=>?_,C⟩;obtain⟨q,hq,e⟩:=C6.1 hm;exact hmi q hq e) (λq hq=>by
            rcases A0.1 hq with rfl|hq
            .exact hbox
            .exact R q hq)) (λF D a _ v hm G V=>.inr ⟨f,g,e1,N,Z.1,.inr ⟨W,sepF G (λq hq=>by
            rcases A0.1 hq with rfl|hq
            .exact .inr rfl
            .exact .inl hq) V,?_⟩⟩)
          grind [aDV,CA]
        .exact H.elim
       .exact H.elim
      .exact H.elim
     .exact H.elim
    .exact H.elim
   .exact H.elim
  have go:aO8 E L Q dead l seen k o s (λd p q s'=>rB E L Q Kp K rest d p q (k+1) s')->∃F σ,Cert E L Q Kp n dead l seen k s K F σ:=by
   intro h;unfold aO8 at h;cases f:oY o.dst s.n with
   |false=>rw[f]at h;exact h.elim
   |true =>
    rw[f,Z6]at h;split at h
    .rename_i W;exact run s (λ_=>rfl) rfl ⟨rfl,rfl⟩ f (.inl W) h
    .rename_i j want W;split at h
     .rename_i oj hj;split at h
      .rename_i d hdj;split at h
       .rename_i b w;have key:(b=want/\aEU E Q dead l seen k o (s.put d (.bool want)) (λd p q s'=>rB E L Q Kp K rest d p q (k+1) s'))\/(b=(!want)/\rB E L Q Kp K rest dead l seen (k+1) ((s.put d (.bool (!want))).putO o.dst (.tup []))):=by
         unfold v7 Br at h
         grind
        rcases key with ⟨rfl,hh⟩|⟨rfl,hh⟩
        .have v:=aEE s d (.bool b) w;exact run (s.put d (.bool b)) v rfl ⟨rfl,rfl⟩ f (.inr ⟨j,b,oj,d,W,hj,hdj,(v d).trans w⟩) hh
        .have v:=aEE s d (.bool (!want)) w;refine kO (s2:=(s.put d (.bool (!want))).putO o.dst (.tup [])) I M (aEX ⟨rfl,rfl⟩) (λi b w=>by rw[gC];exact w) (by rw[gC];exact Z0 _) (λt ht=>(oN _ _ _ _ ht).trans (v t)) (λx B=>B) (λp m e=>.inl e)
          (λq hq=>hq) (λq hq=>.inl hq) z (λe u=>u)
          (iD rest dead l seen (k+1) _ hh (by omega) J (λp m e=>by have:=hd p m e;omega) A C (λq hq=>by rw[gC];exact S q hq))
          (λF _ a _ Y hm G V=>.inr ⟨f,s.put d (.bool (!want)),v,rfl,rfl,.inl ⟨⟨j,want,oj,d,W,hj,hdj,.inl ((v d).trans w)⟩,npk G,nd a,λd' U hw=>?_⟩⟩)
         rw[Y d' hw,U,iZ]
       .rename_i w;refine kO (s2:=s.putO o.dst (.tup [])) I M (aEX ⟨rfl,rfl⟩) (λi b w=>by rw[gC];exact w) (by rw[gC];exact Z0 _) (λt ht=>oN _ _ _ _ ht) (λx B=>B) (λp m e=>.inl e)
         (λq hq=>hq) (λq hq=>.inl hq) z (λe u=>u)
         (iD rest dead l seen (k+1) _ h (by omega) J (λp m e=>by have:=hd p m e;omega) A C (λq hq=>by rw[gC];exact S q hq))
         (λF _ a _ Y hm G V=>.inr ⟨f,s,λ_=>rfl,rfl,rfl,.inl ⟨⟨j,want,oj,d,W,hj,hdj,.inr w⟩,npk G,nd a,λd' U hw=>?_⟩⟩)
        rw[Y d' hw,U,iZ]
       .exact h.elim
      .exact h.elim
     .exact h.elim
  cases dead with
  |none=>simp only[rB]at h;exact go h
  |some pm =>
   obtain⟨p,m⟩:=pm;simp only[rB]at h;split at h
   .rename_i mk hmk;cases w:mk.testBit p with
    |false=>rw[w,Z5]at h;exact go h
    |true =>
     rw[w,Z6]at h;exact kO (s2:=s) (dead2:=some (p,m)) I M ⟨rfl,rfl⟩ (λ_ _ h=>h) (Z0 _) (λ_ _=>rfl) (λx B=>B) (λp m e=>.inl e)
      (λq hq=>hq) (λq hq=>.inl hq) z (λe u=>u)
      (iD rest (FT (p,m)) l seen (k+1) s h (by omega) J (λp' m' e=>by have:=hd p' m' e;omega) A C S) (λF D _ _ _ _ _ _=>.inl ⟨p,m,mk,D _ rfl,hd p m rfl,hmk,w⟩)
   .exact h.elim
section
theorem Mem.extend{S0:V->Prop}{w0:Base}{w:T}{bx bx':X Box}{c:Ctx}(h:Mem S0 w0 bx c w)(j:∀i b,aR bx i=FT b->aR bx' i=FT b)(hl:bx.length<=bx'.length):Mem S0 w0 bx' c w:=by
 have up:∀i a,c.live i->aR bx' i=FT a->aR bx i=FT a:=by
  intro i a d g;have hlt:=(h.fresh i d).2.2
  grind [aR,bY]
 exact⟨h.ext,h.S0lt,h.gl,h.hS,λb=>(h.hW b).trans ⟨λ⟨i,a,q1,f,e⟩=>⟨i,a,q1,j _ _ f,e⟩,λ⟨i,a,q1,f,e⟩=>⟨i,a,q1,up i a q1 f,e⟩⟩,h.inj,
  λi d=>by have:=h.fresh i d;exact⟨this.1,this.2.1,by omega⟩,λi b d g=>h.box i b d (up i b d g),h.pin⟩
def left(ops:N W)(listed:N S):V:=((C2 ops.size).filter λi=>!listed.getD i FR).length
theorem aB6(f g:V->S)(i:V)(d:f i=FR)(b:∀j,g j=(f j&&H (j≠i))):∀(l:X V),l.Nodup->i∈l->(l.filter g).length+1=(l.filter f).length
 |[],_,h=>by simp at h
 |x::l,a,h=>by
  simp only[CN]at a;by_cases e:x=i
  .subst e;have c:g x=Aa:=by rw[b];simp
   have:l.filter g=l.filter f:=by
    apply List.filter_congr
    intro y k;rw[b];have:y≠x:=λe=>a.1 (e ▸ k);simp[this]
   simp[d,c,this]
  .have m:i∈l:=by simpa [Ne.symm e]using h
   have ih:=aB6 f g i d b l a.2 m
   grind
theorem aTS{ops:N W}{listed:N S}{i:V}(hsz:listed.size=ops.size)(a:i∈AG .any ops listed):left ops (listed.setIfInBounds i FR)+1=left ops listed:=by
 obtain⟨c,b,_⟩:=mem_ready.1 a;refine aB6 (λj=>!listed.getD j FR) (λj=>!(listed.setIfInBounds i FR).getD j FR) i (by simp only[b];rfl) (λj=>?_) _ List.nodup_range (by simp[c]);simp only[AB,AU]
 grind
theorem aCa{ops:N W}{listed:N S}{n:V}(hsz:listed.size=ops.size)(h:∀j,listed.getD j Aa=H (j<n)):left ops listed=ops.size-n:=by
 have e:∀m,m<=ops.size->((C2 m).filter λi=>!listed.getD i FR).length=m-n:=by
  intro m
  induction m with
  |zero=>simp
  |succ m ih =>
   grind [List.range_succ,C3,bX]
 exact e _ (Z0 _)
def Agr(s:MS)(bx':X Box)(m:MV):Prop:=∀i b,m.ment i=FR->aR s.bx i=FT b->aR bx' i=FT b
theorem aPH{s:MS}{bx':X Box}(e:∀i b,b.fz=FR->aR s.bx i=FT b->aR bx' i=FT b):∀(a l:X MV),s.shut a=FT l->MS.shut { s with bx:=bx' } a=FT l
 |[],l,h=>h
 |m::a,l,h=>by
  unfold MS.shut at h⊢;split at h
  .rename_i j off;cases f:off.beq 0 with
   |false=>rw[f]at h;simp at h
   |true =>
    rw[f,Z6]at h;dsimp only;rw[Z6];split at h
    .rename_i x g;rw[e j _ rfl g];cases c:x.clean FR with
     |false=>rw[c]at h;simp at h
     |true =>
      rw[c,Z6]at h;dsimp only;rw[c,Z6];split at h
      .rename_i l' d;rw[aPH e a l' d];exact h
      .simp at h
    .simp at h
  .simp at h
mutual
theorem aPG{s:MS}{bx':X Box}(hz:∀i b,b.fz=FR->aR s.bx i=FT b->aR bx' i=FT b):∀(m:MV) (sh:Shown),Agr s bx' m->s.show m=FT sh->MS.show { s with bx:=bx' } m=FT sh
 |.bp i off,sh,ha,h=>by
  simp only[MS.show]at h⊢;cases hc:off.beq 0 with
  |false=>rw[hc]at h;simp at h
  |true =>
   rw[hc,Z6]at h;rw[Z6];split at h
   .rename_i fz m hb;rw[ha i _ (by simp[B6]) hb]
    grind [aPH]
   .simp at h
 |.bs i off len,sh,ha,h=>by
  simp only[MS.show]at h⊢;split at h
  .rename_i fz k l hb;rw[ha i _ (by simp[B6]) hb];exact h
  .rename_i fz wd n f hb;rw[ha i _ (by simp[B6]) hb];exact h
  .simp at h
 |.fn f caps,sh,ha,h=>by
  simp only[MS.show]at h⊢;split at h
  .rename_i l p z hs;rw[aAY hz caps _ (λi b hm=>ha i b (by simpa only[B6]using hm)) hs];exact h
  .simp at h
 |.any,sh,ha,h=>by simpa only[MS.show]using h
 |.junk _,sh,ha,h=>by simpa only[MS.show]using h
 |.bool _,sh,ha,h=>by simpa only[MS.show]using h
 |.int _ _,sh,ha,h=>by simpa only[MS.show]using h
 |.val _,sh,ha,h=>by simpa only[MS.show]using h
 |.big _ _,sh,ha,h=>by simpa only[MS.show]using h
 |.ws _,sh,ha,h=>by simpa only[MS.show]using h
 |.sl _ _ _,sh,ha,h=>by simpa only[MS.show]using h
 |.st ms,sh,ha,h=>by
  simp only[MS.show]at h⊢;cases hc:nG FR ms with
  |true=>rw[hc]at h;exact h
  |false =>
   rw[hc,Z5]at h;rw[Z5];split at h
   .rename_i l p z hs;rw[aAY hz ms _ (λi b hm=>ha i b (by simpa only[B6]using hm)) hs];exact h
   .simp at h
 |.ref _,sh,ha,h=>by simpa only[MS.show]using h
 |.br _ _ _,sh,ha,h=>by simpa only[MS.show]using h
 |.tup _,sh,ha,h=>by simpa only[MS.show]using h
 |.iface _ _,sh,ha,h=>by simpa only[MS.show]using h
 |.emp,sh,ha,h=>by simpa only[MS.show]using h
theorem aAY{s:MS}{bx':X Box}(hz:∀i b,b.fz=FR->aR s.bx i=FT b->aR bx' i=FT b):∀(ms:X MV) (sh:Showns),(∀i b,eA i ms=FR->aR s.bx i=FT b->aR bx' i=FT b)->s.shows ms=FT sh->MS.shows { s with bx:=bx' } ms=FT sh
 |[],sh,ha,h=>by simpa only[MS.shows]using h
 |m::ms,sh,ha,h=>by
  simp only[MS.shows]at h⊢;split at h
  .rename_i x p y l q z h1 h2;rw[aPG hz m _ (λi b hm=>ha i b (by simp[eA,hm])) h1,aAY hz ms _ (λi b hm=>ha i b (by simp[eA,hm])) h2];exact h
  .simp at h
end
theorem aQz{s:MS}{bx':X Box}{agg:S}{size:V}{x:MV}{p:OProp}{m:MV}(c:Agr s bx' x)(h:iC s agg size x= .val p m):iC { s with bx:=bx' } agg size x= .val p m:=by
 cases x
 case bp i off =>
  simp only[iC]at h⊢;split at h
  .rename_i b a;rw[c i _ (by simp[B6]) a];exact h
  .simp at h
 case br i idx off =>
  simp only[iC]at h⊢;split at h
  .rename_i b a;rw[c i _ (by simp[B6]) a];exact h
  .simp at h
 all_goals exact h
theorem o7{P:O}{s:MS}{bx':X Box}{t:F5}{x y:MV}{p:OProp}{m:MV}(c:Agr s bx' x)(h:dK P s t x y= .val p m):dK P { s with bx:=bx' } t x y= .val p m:=by
 cases x
 case bs i off len =>
  cases a:aR s.bx i with
  |some b =>
   have hb':=c i b (by simp[B6]) a
   simp_all [dK]
  |none =>
   unfold dK at h⊢;simp only[a]at h
   (repeat' split at h)<;>simp_all
 all_goals exact h
theorem aTx{P:O}{s:MS}{bx':X Box}{t:F5}{x:MV}{a c:g MV}{p:OProp}{m:MV}(f:Agr s bx' x)(h:tQ P s t x a c= .val p m):tQ P { s with bx:=bx' } t x a c= .val p m:=by
 rcases iX P s t x a c with e|⟨rfl,rfl,e⟩
 .grind [iX,mK]
 .rw[e]at h;have e3:zW P { s with bx:=bx' } t x= .val p m:=by
   unfold zW at h⊢;split at h
   .rename_i i off;simp only at h⊢;cases d:aR s.bx i with
    |none =>
     rw[d]at h
     grind
    |some b =>
     have:=f i b (by simp[B6]) d
     simp_all
   .simp at h
  grind [tQ,mK]
theorem aMh{P:O}{s:MS}{bx':X Box}{src dst:F5}{x:MV}{p:OProp}{m:MV}(d:Agr s bx' x)(h:gG P s src dst x= .val p m):gG P { s with bx:=bx' } src dst x= .val p m:=by
 rcases zT P src dst x with e|⟨p',m',e⟩
 .have a:mG P s src dst x= .val p m:=by
   unfold gG at h;rw[e]at h;exact h
  have f:mG P { s with bx:=bx' } src dst x= .val p m:=by
   cases x
   case bs i off len =>
    unfold mG at a⊢;simp only at a⊢;cases c:aR s.bx i with
    |none =>
     grind
    |some b =>
     have:=d i b (by simp[B6]) c
     simp_all
   all_goals exact a
  unfold gG;rw[e];exact f
 grind [gG]
theorem wH{s:MS}{o:Op}{bx':X Box}(d:∀i b,eA i (uY s o)=FR->aR s.bx i=FT b->aR bx' i=FT b){x:Operand}(a:x∈o.operands.toList):Agr s bx' (s.ev x):=by
 intro i b hm c;refine d i b ?_ c;have:∀(l:X MV),s.ev x∈l->eA i l=FR:=by
  intro l
  induction l with
  |nil=>intro h;simp at h
  |cons y r ih =>
   grind [eA]
 exact this _ (C6.2 ⟨x,a,rfl⟩)
theorem aMb{P:O}{E:Env P}{s:MS}{o:Op}{bx':X Box}{p:OProp}{m:MV}(d:∀i b,eA i (uY s o)=FR->aR s.bx i=FT b->aR bx' i=FT b)(h:lC E s o= .val p m):lC E { s with bx:=bx' } o= .val p m:=by
 have a:=λ(x:Operand) (q:x∈o.operands.toList)=>wH d q;cases o
 case load t x =>
  simp only[lC]at h⊢;split at h
  .rename_i agg size ht;exact aQz (a x (by simp[AD])) h
  .simp at h
 case indexAddr t x y =>
  simp only[lC]at h⊢;cases x
  case global g=>exact h
  case tmp u=>exact o7 (x:=s.ev (.tmp u)) (a (.tmp u) (by simp[AD])) h
  case const v=>exact o7 (x:=s.ev (.const v)) (a (.const v) (by simp[AD])) h
  case func f=>exact o7 (x:=s.ev (.func f)) (a (.func f) (by simp[AD])) h
 case store t x y =>
  simp only[lC]at h;unfold eN at h;simp only[CH]at h
  (repeat' split at h)<;>simp at h
 case call c =>
  obtain⟨callee,args,tys⟩:=c;cases callee
  case value f =>
   simp only[lC]at h;split at h
   .exact(oC mV h rfl).elim
   .unfold iB at h
    grind
  case builtin b =>
   cases b
   case copy =>
    simp only[lC]at h;unfold eW sC at h;simp only[CH]at h
    (repeat' split at h)<;>simp at h
   case append =>
    simp only[lC]at h;unfold jF oZ at h;simp only[CH]at h
    (repeat' split at h)<;>simp at h
   all_goals exact h
  all_goals exact h
 case panic x =>
  simp only[lC]at h;unfold jG at h;simp only[CH]at h
  (repeat' split at h)<;>simp at h
 case makeFunc j first caps=>cases j<;>exact h
 case slice t x lo hi e =>
  cases e with
  |some _=>exact h
  |none=>exact aTx (wH d (by simp[AD])) h
 case convert src dst x=>exact aMh (wH d (by simp[AD])) h
 all_goals exact h
theorem aLr{s:MS}{bx':X Box}(g:∀i b,b.fz=FR->aR s.bx i=FT b->aR bx' i=FT b):∀parts:X (V×MV),(∀i b,eA i (parts.map (·.2))=FR->aR s.bx i=FT b->aR bx' i=FT b)->((s.sealP parts).2.all λq=>q.2.clean Aa&&!q.2.isTup)=FR->MS.sealP { s with bx:=bx' } parts=s.sealP parts
 |[],_,_=>rfl
 |q::r,j,f=>by
  simp only[MS.sealP,List.all_cons,Z3]at f⊢;rw[aLr g r (λi b d=>j i b (by simp[eA,d])) f.2];have e:MS.sealM { s with bx:=bx' } q.2=s.sealM q.2:=by
   have a:=f.1.1;unfold MS.sealM at a⊢;cases c:q.2.clean Aa with
   |true=>rfl
   |false =>
    rw[c,Z5]at a;rw[Z5,Z5];cases h:s.show q.2 with
    |none=>rw[h]at a;rw[c]at a;simp at a
    |some sh=>rw[aPG g q.2 sh (λi b d=>j i b (by simp[eA,d])) h]
  rw[e]
theorem aX3{ints:S}{P:O}{s:MS}{bx':X Box}(c:∀i b,b.fz=FR->aR s.bx i=FT b->aR bx' i=FT b){o:Op}(g:∀i b,eA i (uY s o)=FR->aR s.bx i=FT b->aR bx' i=FT b){p:OProp}{m:MV}(h:aJ8 ints P s o=FT (p,m)) :
  aJ8 ints P { s with bx:=bx' } o=FT (p,m):=by
 have k:ev0 P { s with bx:=bx' } o=ev0 P s o:=rfl;unfold aJ8 at h⊢;rw[k];cases a:ev0 P s o with
 |some r=>rw[a]at h;exact h
 |none =>
  rw[a]at h;dsimp only at h⊢;split at h
  .rename_i t len parts;have j:(parts.toList.map λ(i,x)=>(i,MS.ev { s with bx:=bx' } x))=parts.toList.map λ(i,x)=>(i,s.ev x):=rfl;rw[j];split at h
   .simp_all
   .rename_i d;rw[d];dsimp only;unfold aCV at h⊢;cases f:((s.sealP (parts.toList.map λ(i,x)=>(i,s.ev x))).2.all λq=>q.2.clean Aa&&!q.2.isTup)with
    |false =>
     grind [vX]
    |true =>
     rw[aLr c _ (λi b hm=>g i b (by
      have e:uY s (.buildSlice t len parts)=(parts.toList.map λ(i,x)=>(i,s.ev x)).map (·.2):=by
       simp[uY,AD]
      simp_all)) f]
     exact h
  .simp at h
theorem aQt{P:O}{E:Env P}{s:MS}{bx':X Box}{f:MV}{args:X MV}{p:OProp}{r:MRes}{fz:X V}(g:∀i b,b.fz=FR->aR s.bx i=FT b->aR bx' i=FT b)(k:Agr s bx' f)(l:∀i b,eA i args=FR->aR s.bx i=FT b->aR bx' i=FT b)(h:iB E s f args= .res p r fz):iB E { s with bx:=bx' } f args= .res p r fz:=by
 cases f
 case fn f caps =>
  simp only[iB]at h⊢;split at h
  .rename_i c hc;split at h
   .rename_i ms q fz2 j;have d:∀(i:V) (a b:X MV),eA i (a++b)=(eA i a ||eA i b):=by
     intro i a b
     induction a with
     |nil=>simp[eA]
     |cons x r ih=>simp[eA,ih,Bool.or_assoc]
    rw[aAY g (args++caps) _ (λi b hm e=>by
     rw[d]at hm;rcases(CQ ..).mp hm with hm|hm
     .exact l i b hm e
     .exact k i b (by simpa only[B6]using hm) e) j]
    exact h
   .simp at h
  .simp at h
 all_goals simp[iB]at h
theorem aGx{i:V}:∀ {l:X MV},eA i l=Aa->∀m∈l,m.ment i=Aa
 |[],_=>λm hm=>by simp at hm
 |x::r,h=>λm hm=>by
  simp only[eA,CX]at h;rcases A0.1 hm with rfl|hm
  .exact h.1
  .exact aGx h.2 m hm
def kT(listed:N S):X Pend->X Box->X Box
 |[],bx=>bx
 |q::r,bx=>kT listed r (if listed.getD q.k Aa=FR then aV bx q.i ⟨Aa,q.c⟩else bx)
theorem tX(listed:N S):∀(a:X Pend) (bx:X Box),(kT listed a bx).length=bx.length
 |[],_=>rfl
 |q::r,bx=>by
  simp only[kT];rw[tX listed r];split
  .rw[cC]
  .rfl
theorem iV(listed:N S)(i:V):∀(a:X Pend) (bx:X Box),(∀q∈a,listed.getD q.k Aa=FR->q.i≠i)->aR (kT listed a bx) i=aR bx i
 |[],_,_=>rfl
 |q::r,bx,h=>by
  simp only[kT];rw[iV listed i r _ (λq b=>h q (AP _ b))]
  grind [bV,CA]
theorem y7(listed:N S)(i:V)(c:BC)(k:V)(b:listed.getD k Aa=FR):∀(a:X Pend) (bx:X Box),(a.map Pend.i).Nodup->⟨k,i,c⟩∈a->i<bx.length->aR (kT listed a bx) i=FT ⟨Aa,c⟩
 |[],_,_,h,_=>by simp at h
 |q::r,bx,hn,h,hlt=>by
  simp only[kT];rw[DH,CN]at hn;rcases A0.1 h with rfl|h
  .grind [iV,bV]
  .refine y7 listed i c k b r _ hn.2 h ?_
   grind [cC]
theorem aO0{α:Type}:∀ {a b:X α},a.length=b.length->(∀i,aR a i=aR b i)->a=b
 |[], [],_,_=>rfl
 |[],_::_,h,_=>by simp at h
 |_::_, [],h,_=>by simp at h
 |x::a,y::b,d,h=>by
  have c:=h 0;simp only[aR,Z1]at c;rw[c,aO0 (a:=a) (b:=b) (by simpa using d) (λi=>by have:=h (i+1);simpa only[aR]using this)]
theorem aLT(listed:N S)(i:V)(a:X Pend)(bx:X Box)(hn:(a.map Pend.i).Nodup):(∃q∈a,listed.getD q.k Aa=FR/\q.i=i/\(i<bx.length->aR (kT listed a bx) i=FT ⟨Aa,q.c⟩))\/((∀q∈a,listed.getD q.k Aa=FR->q.i≠i)/\aR (kT listed a bx) i=aR bx i):=by
 by_cases h:∃q∈a,listed.getD q.k Aa=FR/\q.i=i
 .obtain⟨q,e,d,b⟩:=h;refine .inl ⟨q,e,d,b,λhlt=>?_⟩;obtain⟨k,i',c⟩:=q
  grind [y7]
 grind [iV]
theorem aDZ(listed:N S):∀(a:X Pend) (bx:X Box),(∀q∈a,listed.getD q.k Aa=FR)->kT listed a bx=aCk a bx
 |[],_,_=>rfl
 |q::r,bx,h=>by
  simp_all [kT,aCk,aDZ]
theorem aFX(listed:N S):∀(a:X Pend) (bx:X Box),(∀q∈a,listed.getD q.k Aa=Aa)->kT listed a bx=bx
 |[],_,_=>rfl
 |q::r,bx,h=>by
  simp_all [kT,aFX]
theorem aGH:∀ {l:X Pend},(l.map Pend.i).Nodup->∀ {q r:Pend},q∈l->r∈l->q.i=r.i->q=r
 |[],_,_,_,h,_,_=>by simp at h
 |x::l,hn,q,r,b,a,e=>by
  rw[DH,CN]at hn;rcases A0.1 b with hq1|hq1<;>rcases A0.1 a with hr1|hr1
  .rw[hq1,hr1]
  .grind
  .simp_all
  .exact aGH hn.2 hq1 hr1 e
theorem aMq{P:O}{s s2:MS}{t:F5}{i off:V}{x:MV}{p:OProp}{m:MV}{bx':X Box}(h:eN P s t (.bp i off) x= .upd p s2 m)(hb:aR bx' i=aR s.bx i) :
  ∃c',s2.bx=aV s.bx i ⟨Aa,c'⟩/\eN P { s with bx:=bx' } t (.bp i off) x= .upd p { s with bx:=aV bx' i ⟨Aa,c'⟩ } m:=by
 unfold eN at h⊢;split at h
 .grind
 .simp at h
structure Pre (S0:Nat->Prop) (w0:Base) (L:List Oper) (n:Nat) (s:MS) (F:Fin') (σ:Nat->MS) (listed:Array Bool) (c:Ctx) (a:Act) (w:World):Prop where
 mem:Mem S0 w0 (kT listed F.pd F.sF.bx) c w
 tm:∀t,(∀k o,k<n->aR L k=some o->listed.getD k false=false->o.dst≠some t)->Rep c w (aW t F.sF.tm) (a.tmps.getD t undef)
 size:a.tmps.size=F.sF.n
 defers:a.defers=w0.df
 np:∀i b z,w0.pin i b z->qQ F.sF.np i=true
 live:∀i,c.live i->i<s.bx.length\/∃k,k<n/\listed.getD k false=true/\(σ k).bx.length=i/\(σ (k+1)).bx.length=i+1
 dead:∀p m,F.dead=some (p,m)->listed.getD p false=false
 suf:∀k,n<=k->listed.getD k false=false
 pl:∀q∈F.pd,listed.getD q.k false=true->c.live q.i
theorem dH{listed:N S}{i j:V}(hi:i<listed.size):(listed.setIfInBounds i FR).getD j Aa=(H (i=j) ||listed.getD j Aa):=by
 simp only[AB,AU]
 grind
section
variable {P:Program} {E:Env P} {ops:Array Oper} {Kp:MV->Prop} {S0:Nat->Prop} {w0:Base} {Q:Exit->Act->World->Prop} {n:Nat} {s:MS} {F:Fin'} {σ:Nat->MS} {K:MS->Prop}
theorem aBg(C:Cert E ops.toList (jQ [] ops.toList) Kp n F0 [] [] 0 s K F σ):∀i j,i<=j->j<=n->(σ i).bx.length<=(σ j).bx.length:=by
 intro i j hij hj
 induction j with
 |zero =>
  simp_all
 |succ j a =>
  rcases AM i (j+1)with h|h
  .exact C7 (a (by omega) (by omega)) (C.len j (by omega) (by omega))
  grind
theorem aU0(hP:∀m v w' a',Kp m->PanB w0 w'->Rep1 (AO S0) w' m v->a'.defers=w0.df->Q (.panic [{ v,recovered:=false }]) a' w')(hssa:s9 ops.toList n 0 (jQ [] ops.toList) ops.toList=FR)(hback:j5 0 ops.toList=FR)(C:Cert E ops.toList (jQ [] ops.toList) Kp n F0 [] [] 0 s K F σ){listed:F6 Bool}{c:Ctx}{a:Act}{w:FX}(hd:Down ops listed)(h:Pre S0 w0 ops.toList n s F σ listed c a w){i:FW}(hi:i∈AG .any ops listed)(hin:i<n){Kn:Act->FX->Prop}(hK:∀c' a' w',Pre S0 w0 ops.toList n s F σ (listed.setIfInBounds i FR) c' a' w'->Kn a' w') :
  wpOp P ops Q i Kn a w:=by
 obtain⟨h1,h2,o,hoi,hedges⟩:=mem_ready.1 hi;have hsz:=hd.size;have W:listed.getD i Aa=Aa:=by rw[<-bX (by omega)];exact h2
 have hLi:aR ops.toList i=FT o:=by rw[bY];simpa using hoi
 obtain⟨mk,hmk,T,_⟩:=qH ops.toList n ops.toList _ 0 hssa i o hLi;rw[BE]at T;have T:=T hin;have hmask:=hd.mask hback i o mk hLi hmk hedges
 have looks_ok:∀t,t∈Oper.looks ops.toList o->(∀k o',k<n->aR ops.toList k=FT o'->listed.getD k Aa=Aa->o'.dst≠FT t)/\(∀j,i<=j->¬wrN ops.toList n j t):=by
  intro t G;constructor
  .intro k o' hk hok hlk g;have:=tB ops.toList 0 T k o' t hok g
   simp_all
  .rintro j hij ⟨hjn,o',hoj,g⟩
   have:=tB ops.toList 0 T j o' t hoj g
   grind
 have own:∀t,o.dst=FT t->(∀j,i<j->¬wrN ops.toList n j t)/\∀k o',k<n->k≠i->aR ops.toList k=FT o'->o'.dst≠FT t:=by
  intro t G;have key:∀k o',k<n->k≠i->aR ops.toList k=FT o'->o'.dst≠FT t:=by
   intro k o' hk u hok g;have:=tB ops.toList 0 T k o' t hok g
   simp_all
  exact⟨λj hj ⟨hjn,o',hoj,g⟩=>key j o' hjn (by omega) hoj g,key⟩
 have next0:∀(c':Ctx) (a':Act) (w':FX),Mem S0 w0 (kT (listed.setIfInBounds i FR) F.pd F.sF.bx) c' w'->Keeps c c' w w'->
   (∀t,o.dst≠FT t->a'.tmps.getD t undef=a.tmps.getD t undef)->(∀t,o.dst=FT t->Rep c' w' (aW t F.sF.tm) (a'.tmps.getD t undef))->a'.tmps.size=F.sF.n->a'.defers=w0.df->
   (∀i',c'.live i'->c.live i'\/((σ i).bx.length=i'/\(σ (i+1)).bx.length=i'+1))->(∀p m,F.dead=FT (p,m)->p≠i)->(∀q∈F.pd,q.k=i->c'.live q.i)->Kn a' w':=by
  intro c' a' w' hm hk ht1 ht2 hsz' hdf M hdd hpl;refine hK c' a' w' ⟨hm,λt G=>?_,hsz',hdf,h.np,λi' z=>?_,λp m e=>?_,λk X=>?_,λq J L=>?_⟩
  .by_cases e:o.dst=FT t
   .exact ht2 t e
   .rw[ht1 t e];refine(h.tm t λk o' q1 q2 q3=>?_).keep hk
    grind [Z1,dH]
  .rcases M i' z with q|⟨q1,q2⟩
   .rcases h.live i' q with q|⟨k,r1,r2,r3⟩
    all_goals grind [dH]
   grind [dH]
  .rw[dH (by omega),h.dead p m e]
   grind
  .rw[dH (by omega),h.suf k X]
   grind
  .rw[dH (by omega)]at L;by_cases e:q.k=i
   .exact hpl q J e
   .have:listed.getD q.k Aa=FR:=by simpa [Ne.symm e]using L
    exact(hk.live _ (h.pl q J this)).1
 have same:(∀q∈F.pd,q.k≠i)->kT (listed.setIfInBounds i FR) F.pd F.sF.bx=kT listed F.pd F.sF.bx:=by
  intro u;have:∀(pd:FY Pend) (bx:FY Box),(∀q∈pd,q.k≠i)->kT (listed.setIfInBounds i FR) pd bx=kT listed pd bx:=by
   intro pd
   induction pd with
   |nil=>intro bx _;rfl
   |cons q r ih =>
    grind [kT,dH,CA,AP]
  exact this _ _ u
 have next:∀(c':Ctx) (w':FX) (v:FZ),(∀q∈F.pd,q.k≠i)->Mem S0 w0 (kT listed F.pd F.sF.bx) c' w'->Keeps c c' w w'->(∀t,o.dst=FT t->Rep c' w' (aW t F.sF.tm) v)->oY o.dst F.sF.n=FR->
   (∀i',c'.live i'->c.live i'\/((σ i).bx.length=i'/\(σ (i+1)).bx.length=i'+1))->(∀p m,F.dead=FT (p,m)->p≠i)->Kn (a.put o.dst v) w':=by
  intro c' w' v u hm hk hv g M hdd;refine next0 c' _ w' (by rw[same u];exact hm) hk (λt e=>?_) (λt e=>?_) ?_ ?_ M hdd (λq J e=>FU e (u q J))
  .cases V:o.dst with
   |none=>rfl
   |some d =>
    have H:d<a.tmps.size:=by
     rw[h.size];rw[V]at g;simpa [oY,BA]using g
    grind [rF]
  .rw[e];have H:t<a.tmps.size:=by
    rw[h.size];rw[e]at g;simpa [oY,BA]using g
   grind [rF]
  .cases o.dst with
   |none=>exact h.size
   |some d=>simp only[Act.put,AZ];exact h.size
  .cases o.dst<;>exact h.defers
 unfold wpOp;simp only[hoi];rcases C.at_ i o (by omega) hin hLi with ⟨p,m,mk',q1,q2,q3,q4⟩|⟨g,I,e1,e2,e3,hcase⟩
 ·
  exfalso;rw[hmk,Z1]at q3;subst q3;have:=hmask p q4;rw[h.dead p m q1]at this;simp at this
 .have hn1:(σ i).n=F.sF.n:=(C.num i (by omega) (by omega)).1;have D:oY o.dst F.sF.n=FR:=by rw[<-hn1];exact g
  have hlook:∀t,t∈Oper.looks ops.toList o->Rep c w (aW t I.tm) (a.tmps.getD t undef):=by
   intro t G;obtain⟨q1,q2⟩:=looks_ok t G;rw[e1 t,<-C.lk i (by omega) (by omega) t q2];exact h.tm t q1
  have hgd:∀j want oj d,o.guard=FT (j,want)->aR ops.toList j=FT oj->oj.dst=FT d->d∈Oper.looks ops.toList o:=by
   grind [Oper.looks]
  rcases hcase with ⟨⟨j,want,oj,d,g1,g2,g3,g4⟩,u,hR⟩|⟨hg,hsep,A⟩
  ·
   have B:=hlook d (hgd j want oj d g1 g2 g3);have hwf:AC o (yielded ops a.tmps)=Aa:=by
    grind [tI,aCw]
   rw[hwf,F1 (by simp)];exact next c w undef u h.mem (h.mem.grow (Ext.refl w)).2 (λt G=>by rw[hR.2 t G (own t G).1];exact⟨#[],rfl,rfl⟩) D (λi' z=>.inl z) hR.1
  .have hw:AC o (yielded ops a.tmps)=FR:=by
    rcases hg with hg|⟨j,want,oj,d,g1,g2,g3,g4⟩
    .simp[AC,hg]
    grind [tI]
   rw[F2 hw];refine .inl ?_;have HE:tO c w I a o.op.operands.toList:=mM λt G=>hlook t (by
    grind [Oper.looks])
   have R:(∀q∈F.pd,q.k≠i)->∀i' b,eA i' (uY I o.op)=FR->aR I.bx i'=FT b->aR (kT listed F.pd F.sF.bx) i'=FT b:=by
    intro u i' b hm B;have h1:=C.bx i (by omega) (by omega) i' b (by rw[<-e2];exact B);rw[iV listed i' F.pd F.sF.bx (λq J L e=>?_)]
    .exact h1
    .rcases hsep q J (u q J)with ⟨mk2,r1,r2⟩|r
     .have hqn:q.k<n:=((C.pfrom q J).elim (λh=>by simp at h) id).2;obtain⟨oq, hoq⟩ : ∃oq, ops[q.k]? = FT oq := ⟨ops[q.k]'(by
       grind),by simp⟩
      have:=hd.mask hback q.k oq mk2 (by rw[bY];simpa using hoq) r1 (hd.down q.k oq hoq L) i r2
      simp_all
     grind
   have hfz:∀i' b,b.fz=FR->aR I.bx i'=FT b->aR (kT listed F.pd F.sF.bx) i'=FT b:=by
    intro i' b hf B;have h1:=C.bx i (by omega) (by omega) i' b (by rw[<-e2];exact B);rw[iV listed i' F.pd F.sF.bx (λq J L e=>?_)]
    .exact h1
    .obtain⟨c',hc'⟩:=C.pbox q J
     grind
   let s2:MS:={ I with bx:=kT listed F.pd F.sF.bx }
   unfold aDV at A;split at A
   .rename_i p m he;obtain⟨hp,u,hR⟩:=A;obtain⟨v,hr,hv⟩:=aHz (aMb (R u) (aTr he)) hp (s:=s2) HE h.mem.box h.mem.WS h.mem.gw (λi b L B hf=>h.mem.frozen i b L B hf);unfold BG;rw[hr,A3];exact next c w v u h.mem (h.mem.grow (Ext.refl w)).2 (λt G=>by rw[hR.2 t G (own t G).1];exact hv) D (λi' z=>.inl z) hR.1
   .rename_i p b mkf he;obtain⟨hp,u,B,hlen,hR⟩:=A;obtain⟨w1,hx1,hs1,arr,ty,v,U,hnew⟩:=aL6 he hp HE;obtain⟨hm1,hk1⟩:=h.mem.grow hx1;unfold BG;rw[U,A3];rw[e2]at B hlen hR
    let id:=(σ i).bx.length
    have W:¬c.live id:=by
     intro L;rcases h.live id L with q|⟨k,r1,r2,r3,r4⟩
     .have:=aBg C 0 i (by omega) (by omega);rw[C.first]at this;omega
     .rcases D6 k i with H|he|hgt
      all_goals grind [aBg]
    have hb':aR (kT listed F.pd F.sF.bx) id=FT b:=by
     rw[iV listed id F.pd F.sF.bx (λq J L e=>W (e ▸ h.pl q J L))];exact B
    have hal:=hm1.allocAt arr ty id b hb' W (λi'=>c.live i'\/i'=id) (λi'=>if i'=id then w.heap.size else c.β i') (λi'=>if i'=id then ⟨arr.size,b.c.wd⟩else c.sz i') (λi'=>BV)
     (λi' z=>F1 (λe:i'=id=>W (e ▸ z))) (λi' z=>F1 (λe:i'=id=>W (e ▸ z))) ((F2 rfl).trans hs1.symm)
     (λc' k q1 q2 q3=>(hnew c' id (hk1.trans' hx1.size k) (by rw[q1];exact .inr rfl) (by rw[q2];exact F2 rfl) (by rw[q3];exact F2 rfl)).2)
    have hrep:=(hnew _ id (hk1.trans' hx1.size hal.2) (.inr rfl) (F2 rfl) (F2 rfl)).1;refine next _ _ v u hal.1 (hk1.trans' hx1.size hal.2) (λt G=>by rw[hR.2 t G (own t G).1];exact hrep) D (λi' z=>?_) hR.1;rcases z with q|q
    all_goals grind
   .rename_i p r fz he;obtain⟨rfl,hp,u,hres⟩:=A;rcases aTq he with he|⟨m0,rfl,he0⟩
    rotate_left
    .obtain⟨v,w',U,Z,hr⟩:=aOo (aX3 (s:=I) hfz (R u) he0) hp (s:=s2) (λb B=>h.mem.Slt b B) h.mem.box (λi b L B hf=>h.mem.frozen i b L B hf) HE;obtain⟨hm2,X⟩:=h.mem.grow Z;have Y:AtR ops.toList n F i o m0:=hres;unfold BG;rw[U,A3];exact next c w' v u hm2 X (λt G=>by rw[Y.2 t G (own t G).1];exact hr) D (λi' z=>.inl z) Y.1
    obtain⟨dst,type,pos,after,guard,f,args,tys,rfl,N⟩:=zR he;have hf:=HE f (by simp[AD,AT]);have hargs:=aAu (c:=c) (w:=w) (s:=I) (a:=a) args.toList (λx hx=>HE x (by simp[AD,AT];exact .inr (C1.2 hx)));have N:=aQt (bx':=kT listed F.pd F.sF.bx) hfz (wH (R u) (x:=f) (by simp[AD,AT])) (λi' b hm B=>R u i' b (by
     have:∀(l:FY MV),(∀m∈args.toList.map I.ev,m∈l)->eA i' l=FR:=by
      intro l hsub
      false_or_by_contra
      rename_i hno;have hno:=aGx (by simpa using hno:eA i' l=Aa);have:∀(l2:FY MV),(∀m∈l2,m∈l)->eA i' l2=Aa:=by
       intro l2
       induction l2 with
       |nil=>intro _;rfl
       |cons x r ih =>
        grind [eA,CA,AP]
      grind
     exact this _ λm hm=>by
      obtain⟨x,hx,rfl⟩:=C6.1 hm;exact C6.2 ⟨x,by simp[AD,AT];exact .inr (C1.2 hx),rfl⟩) B) N
    obtain⟨f',caps,hfv,hcf,hC⟩:=aGe (s:=s2) N hp hf hargs h.mem.box (S':=c.S) (λi' b L B hf=>h.mem.frozen i' b L B hf) (λb B=>B) (by simp) (λb B=>h.mem.Slt b B) h.mem.gw;have eargs:(args.toList.map a.eval).toArray=args.map a.eval:=by apply B9;simp
    rw[eargs]at hcf hC;have U:(execOp a.eval ⟨dst,.call ⟨.value f,args,tys⟩,type,pos,after,guard⟩).run P w= .ok (.enter f' (args.map a.eval++caps)) w:=by
     simp[execOp,resolve,C4,hfv,invoke,hcf]
    unfold BG;rw[U,CL];refine hC.mono λe w' ⟨Z,hh⟩=>?_;obtain⟨hm2,X⟩:=h.mem.grow Z;rcases evRes_holds r hres hh with ⟨m,v,rfl,hr,Y⟩|⟨m,v,rfl,hr,hKd⟩
    .exact next c w' v u hm2 X (λt G=>by rw[Y.2 t G (own t G).1];exact aAB hr (λb B=>B)) D (λi' z=>.inl z) Y.1
    .exact hP m v w' a (C.pan i m hKd).1 hm2.panB (aVo hr (λb B=>(h.mem.hS b).2 (.inl B))) h.defers
   .rename_i p s' m he;obtain⟨hp,hdd,V,O,b,hib,hnb,hmem,huniq⟩:=A;obtain⟨dst,type,pos,after,guard,t,x,y,rfl,hst⟩:∃dst type pos after guard t x y,o=⟨dst,.store t x y,type,pos,after,guard⟩/\eN P I t (I.ev x) (I.ev y)= .upd p s' m:=by
     obtain⟨dst,op,type,pos,after,guard⟩:=o;cases op with
     |store t x y=>exact⟨dst,type,pos,after,guard,t,x,y,rfl,(aJ7 he:lC E I (.store t x y)= .upd p s' m)⟩
     |_=>simp[rT]at hib
    have hx:∃off,I.ev x= .bp O off:=by
     grind [rT,Z1]
    obtain⟨off,hx⟩:=hx;have hRx:=HE x (by simp[AD]);have hRy:=HE y (by simp[AD]);rw[hx]at hst hRx;have hlv:c.live O:=hRx.1;have hnk:∀q∈F.pd,listed.getD q.k Aa=FR->q.i≠O:=by
     intro q J L e
     have e2:q=⟨i,O,b.c⟩:=aGH C.pnod J hmem e
     grind
    have hnth:aR (kT listed F.pd F.sF.bx) O=aR I.bx O:=by
     rw[iV listed O F.pd F.sF.bx hnk];obtain⟨bb,hbb⟩:∃bb,aR I.bx O=FT bb:=by
      grind [eN]
     rw[hbb];exact C.bx i (by omega) (by omega) O bb (by rw[<-e2];exact hbb)
    obtain⟨c',hs',hst2⟩:=aMq (bx':=kT listed F.pd F.sF.bx) hst hnth;obtain⟨w',A,hm,hk,_,_,_,_⟩:=aEm hst2 hp h.mem hRx hRy;have hb':b=⟨Aa,c'⟩:=by
     grind [bV,aR,jU]
    subst hb';unfold BG;have e:(execOp a.eval ⟨dst,.store t x y,type,pos,after,guard⟩).run P w= .ok .skip w':=by
     simp[execOp,A]
    rw[e,EF];have V:dst=F0:=V;subst V;refine next0 c a w' ?_ hk (λ_ _=>rfl) (λt e=>by simp at e) h.size h.defers (λi' z=>.inl z) hdd (λq J e=>by rw[huniq q J e];exact hlv);have heq:kT (listed.setIfInBounds i FR) F.pd F.sF.bx=aV (kT listed F.pd F.sF.bx) O ⟨Aa,c'⟩:=by
     refine aO0 (by rw[tX,cC,tX]) λi'=>?_;rw[bV];by_cases ei:O=i'
     .subst ei;have H:O<F.sF.bx.length:=by
       have:=(h.mem.fresh O hlv).2.2
       rwa [tX]at this
      rw[F2 ⟨rfl,by rw[tX];exact H⟩];exact y7 _ O c' i (by rw[dH (by omega)];simp) F.pd F.sF.bx C.pnod hmem H
     .rw[F1 (λq=>ei q.1)];rcases aLT listed i' F.pd F.sF.bx C.pnod with ⟨q,r1,r2,r3,r4⟩|⟨r1,r2⟩
      .obtain⟨cc,hcc⟩:=C.pbox q r1;have H:i'<F.sF.bx.length:=by rw[<-r3];exact jU hcc
       rw[r4 H];obtain⟨qk,qi,qc⟩:=q;simp only at r3 r2;subst r3;exact y7 _ qi qc qk (by rw[dH (by omega),r2];simp) F.pd F.sF.bx C.pnod r1 H
      grind [iV,dH]
    rw[heq];exact hm
   .exact A.elim
theorem aRS(hP:∀m v w' a',Kp m->PanB w0 w'->Rep1 (AO S0) w' m v->a'.defers=w0.df->Q (.panic [{ v,recovered:=false }]) a' w')(A:s9 ops.toList n 0 (jQ [] ops.toList) ops.toList=FR)(d:j5 0 ops.toList=FR)(hn:n<=ops.size)(C:Cert E ops.toList (jQ [] ops.toList) Kp n F0 [] [] 0 s K F σ)(B:F.dead=F0->∀c a w,St S0 w0 { F.sF with bx:=aCk F.pd F.sF.bx } c a w->wpList P ops Q (ops.toList.drop n) a w) :
  ∀(fuel:FW) (listed:F6 Bool) (c:Ctx) (a:Act) (w:FX),left ops listed=fuel->Down ops listed->Pre S0 w0 ops.toList n s F σ listed c a w->wpAny P .any ops Q fuel listed a w:=by
 intro fuel
 induction fuel with
 |zero =>
  intro listed c a w G p h;have b:∀j,j<ops.size->listed.getD j Aa=FR:=by
   intro j hj;cases R:listed.getD j Aa with
   |true=>rfl
   |false =>
    exfalso;have hmem:j∈(C2 ops.size).filter λi=>!listed.getD i FR:=by
     simp only[EC,EI,hj,true_and];rw[bX (by rw[p.size];exact hj),R];rfl
    grind [left,List.length_eq_zero_iff]
  have hns:n=ops.size:=by
   rcases AM n ops.size with H|hge
   .have:=h.suf n (Z0 _)
    simp_all
   .omega
  have f:F.dead=F0:=by
   cases g:F.dead with
   |none=>rfl
   |some pm =>
    have:=h.dead pm.1 pm.2 g;rw[b _ (by have:=(C.pan pm.1 pm.2 g).2;omega)]at this;simp at this
  have D:St S0 w0 { F.sF with bx:=aCk F.pd F.sF.bx } c a w:=⟨by rw[<-aDZ listed F.pd F.sF.bx (λq O=>b q.k (by have:=((C.pfrom q O).elim (λh=>by simp at h) id).2;omega))];exact h.mem,λt=>h.tm t λk o q1 _ z=>by rw[b k (by omega)]at z;simp at z,h.size,h.defers,h.np⟩;have:=B f c a w D;rw[CK (by simp;omega)]at this;refine⟨?_,this⟩;apply BH.2
  grind [mem_ready,bX]
 |succ fuel Z =>
  intro listed c a w G p h;by_cases b:∀j,j<n->listed.getD j Aa=FR
  ·
   have l:∀j,listed.getD j Aa=decide (j<n):=by
    intro j;rcases AM j n with hj|hj
    .simp_all
    .rw[h.suf j hj];simp;omega
   have f:F.dead=F0:=by
    cases g:F.dead with
    |none=>rfl
    |some pm =>
     have:=h.dead pm.1 pm.2 g;rw[b _ (C.pan pm.1 pm.2 g).2]at this;simp at this
   have D:St S0 w0 { F.sF with bx:=aCk F.pd F.sF.bx } c a w:=⟨by rw[<-aDZ listed F.pd F.sF.bx (λq O=>b q.k ((C.pfrom q O).elim (λh=>by simp at h) id).2)];exact h.mem,λt=>h.tm t λk o q1 _ z=>by rw[b k q1]at z;simp at z,h.size,h.defers,h.np⟩;have hL:=aCa p.size l;have L:(ops.toList.drop n).length=fuel+1:=by simp;omega
   have:=aPO d n (λi o ho hge=>by
     grind [qH,bY]) (ops.toList.drop n) n listed a w (λj=>by simp only[bY,List.getElem?_drop]) (by simp;omega) (Z0 _) p l (B f c a w D)
   rwa [L]at this
  ·
   obtain⟨u,X⟩:∃u,u<n/\listed.getD u Aa=Aa:=by
    simp_all
   refine⟨λh0=>?_,λi M=>?_⟩
   .exfalso
    have least:∀m u,u<=m->u<n->listed.getD u Aa=Aa->∃x,x<n/\listed.getD x Aa=Aa/\∀y,y<x->listed.getD y Aa=FR:=by
     intro m
     induction m with
     |zero=>intro u Y S N;exact⟨u,S,N,λy W=>by omega⟩
     |succ m ihm =>
      intro u Y S N;by_cases W:∃y,y<u/\listed.getD y Aa=Aa
      .obtain⟨y,hy1,T⟩:=W;exact ihm y (by omega) (by omega) T
      grind
    obtain⟨x,hx1,U,hx3⟩:=least u u (Z0 _) X.1 X.2;have r:x<ops.size:=by omega
    have:x∈AG .any ops listed:=by
     refine mem_ready.2 ⟨r,by rw[bX (by rw[p.size];exact r)];exact U,ops[x],by simp[r],λe he R=>?_⟩;have:=kX ops.toList 0 d x ops[x] (by rw[bY];simp[r]) e he R
     simp_all
    simp_all
   .have V:i<n:=by
     obtain⟨Y,S,o,N,h4⟩:=mem_ready.1 M;rcases AM i n with H|hge
     .exact H
     .exfalso;have I:aR ops.toList i=FT o:=by rw[bY];simpa using N
      obtain⟨m,q1,_,z⟩:=qH ops.toList n ops.toList _ 0 A i o I;rw[BE]at z;have:=p.mask d i o m I q1 h4 u (p7 (z hge) u (by omega))
      simp_all
    have hput:=aTS p.size M;exact aU0 hP A d C p h M V λc' a' w' J=>Z _ c' a' w' (by omega) (p.put M) J
end
theorem aFe:∀(l:X V) (i:V),lL i l<=i+l.length
 |[],i=>by simp[lL]
 |m::r,i=>by
  have ih:=aFe r (i+1)
  grind [lL,A7,pD]
theorem tZ:∀(l:X W) (acc:X V),(jQ acc l).length=acc.length+l.length
 |[],acc=>by simp[jQ]
 |o::l,acc=>by simp only[jQ,tZ l,C3,A7,List.length_nil];omega
def aBY(P:O)(ops:N W)(draw:S)(Q:Exit->Act->T->Prop)(a:Act)(w:T):Prop :=
 match draw with
 |false=>wpList P ops Q ops.toList a w
 |true=>wpAny P .any ops Q ops.size (AK ops.size Aa) a { w with drawn:=w.drawn+1 }
theorem aBX{P:O}(b:P.follows .mixedOrders=FR){ops:N W}{draw:S}{id:V}{Q:Exit->Act->T->Prop}{a:Act}{w:T}(h:aBY P ops draw Q a w):(Code.region id ops draw).wp P Q a w:=by
 cases draw with
 |false=>exact wp_region_list h
 |true=>exact wp_region_any b h
theorem aMn{P:FV}{E:Env P}{Kp:MV->Prop}{ops:F6 W}{S0:V->Prop}{w0:Base}{Q:Exit->Act->T->Prop}(R:∀m v w' a',Kp m->PanB w0 w'->Rep1 (AO S0) w' m v->a'.defers=w0.df->Q (.panic [{ v,recovered:=false }]) a' w'){s:MS}{K1:MS->Prop}{c:Ctx}{a:Act}{w:T}{n:V}(hn:lL 0 (jQ [] ops.toList)=n)(J:s9 ops.toList n 0 (jQ [] ops.toList) ops.toList=FR/\j5 0 ops.toList=FR)(h:rB E ops.toList (jQ [] ops.toList) Kp K1 (ops.toList.take n) F0 [] [] 0 s)(y:St S0 w0 s c a w)(S:∀A c' a' w',K1 A->St S0 w0 A c' a' w'->A.n=s.n->wpList P ops Q (ops.toList.drop n) a' w'):aBY P ops FR Q a w:=by
 have H:n<=ops.size:=by
  grind [aFe,jQ,tZ]
 obtain⟨F,σ,C⟩:=iD (n:=n) (ops.toList.take n) F0 [] [] 0 s h (by simp;omega) (λi I=>by
  grind [AY,bY]) (λp m e=>by simp at e) (λq B=>by simp at B) (by simp) (λq B=>by simp at B)
 show wpAny P .any ops Q ops.size (AK ops.size Aa) a { w with drawn:=w.drawn+1 };have d:St S0 w0 s c a { w with drawn:=w.drawn+1 }:=by
  have e:Ext w { w with drawn:=w.drawn+1 }:=⟨rfl,rfl,Z0 _,λ_ _=>rfl,λ_ _=>rfl,rfl,Z9 _⟩;obtain⟨N,O⟩:=y.mem.grow e;exact y.keepTm O N rfl rfl rfl
 have u:=C.lk 0 (Z0 _) (Z9 _);rw[C.first]at u;have x:=C.bx 0 (Z0 _) (Z9 _);rw[C.first]at x;have g:=C.num 0 (Z0 _) (Z9 _);rw[C.first]at g;have l:=aBg C 0 n (Z9 _) (Z0 _);rw[C.first,C.last]at l;have f:∀j,(AK ops.size Aa).getD j Aa=Aa:=by
  intro j;simp only[AB,CC];split<;>rfl
 refine aRS R J.1 J.2 H C (λr c' a' w' G=>?_) ops.size _ c a _ ?_ ⟨by simp,λi o _ D=>?_⟩ ⟨by rw[aFX _ F.pd F.sF.bx (λq _=>f q.k)];exact d.mem.extend x l,λt ht=>?_,d.size.trans g.1,d.defers,λi b z M=>by rw[<-g.2];exact d.np i b z M,λi I=>.inl (d.mem.fresh i I).2.2,λp m _=>f p,λk _=>f k,λq _ D=>by rw[f]at D;simp at D⟩
 .exact S _ c' a' w' (C.fin r) G g.1.symm
 .have:left ops (AK ops.size Aa)=ops.size-0:=aCa (by simp) (λj=>by rw[f j];simp)
  simpa using this
 .simp_all
 .rw[u t λi _ L=>by
   obtain⟨h1,o,h2,h3⟩:=L
   grind]
  exact d.tm t
theorem mJ{P:O}{E:Env P}{Kp:MV->Prop}{ops:N W}{draw:S}{S0:V->Prop}{w0:Base}{Q:Exit->Act->T->Prop}(e:∀m v w' a',Kp m->PanB w0 w'->Rep1 (AO S0) w' m v->a'.defers=w0.df->Q (.panic [{ v,recovered:=false }]) a' w'){s:MS}{K:MS->Prop}{c:Ctx}{a:Act}{w:T}(h:mW E ops.toList draw s K Kp)(b:St S0 w0 s c a w)(f:∀s' c' a' w',K s'->St S0 w0 s' c' a' w'->s'.n=s.n->Q .normal a' w'):aBY P ops draw Q a w:=by
 cases draw with
 |false =>
  simp only[mW]at h;exact cH e ops.toList s K c a w h b f
 |true =>
  simp only[mW]at h;generalize hn:lL 0 (jQ [] ops.toList)=n at h;cases d:(s9 ops.toList n 0 (jQ [] ops.toList) ops.toList&&j5 0 ops.toList)with
  |false=>rw[d]at h;exact h.elim
  |true =>
   grind [aMn,cH]
theorem aEl{P:O}(b:P.follows .mixedOrders=FR){E:Env P}{Kp:MV->Prop}{ops:N W}{draw:S}{id:V}{S0:V->Prop}{w0:Base}{Q:Exit->Act->T->Prop}(e:∀m v w' a',Kp m->PanB w0 w'->Rep1 (AO S0) w' m v->a'.defers=w0.df->Q (.panic [{ v,recovered:=false }]) a' w'){s:MS}{K:MS->Prop}{c:Ctx}{a:Act}{w:T}(h:mW E ops.toList draw s K Kp)(d:St S0 w0 s c a w)(f:∀s' c' a' w',K s'->St S0 w0 s' c' a' w'->s'.n=s.n->Q .normal a' w'):(Code.region id ops draw).wp P Q a w :=
 aBX b (mJ e h d f)
end
section
section
variable {P:Program} {Q Q':Exit->Act->World->Prop}
theorem aVb(a:Act){d t:V}(h:t≠d)(v u:J):(a.put (FT d) v).put (FT t) u=(a.put (FT t) u).put (FT d) v:=by
 have e:(a.tmps.setIfInBounds d v).setIfInBounds t u=(a.tmps.setIfInBounds t u).setIfInBounds d v:=by
  grind [AZ]
 show({ tmps:=(a.tmps.setIfInBounds d v).setIfInBounds t u,defers:=a.defers }:Act)=⟨(a.tmps.setIfInBounds t u).setIfInBounds d v,a.defers⟩;rw[e]
theorem oQ(a:Act){d:V}{t:g V}(h:t≠FT d)(v u:J):(a.put (FT d) v).put t u=(a.put t u).put (FT d) v:=by
 cases t with
 |none=>rfl
 |some t=>exact aVb a (λe=>h (by rw[e])) v u
theorem lJ(a:Act){t:g V}{u:V}(h:t≠FT u)(v:J):(a.put t v).tmps.getD u undef=a.tmps.getD u undef:=by
 cases t with
 |none=>rfl
 |some t =>
  simp only[Act.put,AB,AU]
  simp_all
theorem aVc(a:Act){t:g V}{u:V}(h:t≠FT u)(v:J):(a.put t v).tmps[u]? =a.tmps[u]? :=by
 cases t with
 |none=>rfl
 |some t =>
  simp only[Act.put,AU]
  simp_all
theorem aRw{o:W}{a:Act}{d:V}{v:J}{K:Act->T->Prop}(b:o.dst≠FT d)(l:LetsOut Q'->LetsOut Q)(g:∀ch w,Q' (.panic ch) (a.put (FT d) v) w->Q (.panic ch) a w) :
  ∀r,o.upon P (a.put (FT d) v) K Q' r->o.upon P a (λi k=>(∃z,i.tmps=(a.put o.dst z).tmps)/\K (i.put (FT d) v) k) Q r:=by
 intro r h;cases r with
 |ok n w' =>
  cases n<;>simp only[DJ]at h⊢
  case value x=>exact⟨⟨x,rfl⟩,by rw[<-oQ a b];exact h⟩
  case skip=>exact⟨⟨undef,rfl⟩,by rw[<-oQ a b];exact h⟩
  case defer x =>
   refine⟨⟨undef,by cases o.dst<;>rfl⟩,?_⟩;rw[<-oQ ({ a with defers:=x::a.defers }:Act) b v undef];exact h
  case enter f args =>
   refine Calls.mono h λe w'' c=>?_;cases e with
   |returned x =>
    grind [oQ]
   |panicked ch=>exact g ch w'' c
   |outgrown=>exact l c
  grind [oQ]
 |halt x w' =>
  cases x<;>simp only[DJ]at h⊢
  exact g _ _ h
theorem aA3{o:W}{a:Act}{K K':Act->T->Prop}(c:∀a w,K' a w->K a w)(i:LetsOut Q'->LetsOut Q)(g:∀ch a w,Q' (.panic ch) a w->Q (.panic ch) a w) :
  ∀r,o.upon P a K' Q' r->o.upon P a K Q r:=by
 intro r h;cases r with
 |ok n w' =>
  cases n<;>simp only[DJ]at h⊢
  case value x=>exact c _ _ h
  case skip=>exact c _ _ h
  case defer x=>exact c _ _ h
  case enter f args =>
   refine Calls.mono h λe w'' b=>?_;cases e with
   |returned x=>exact c _ _ b
   |panicked ch=>exact g ch _ w'' b
   |outgrown=>exact i b
  case row r args=>exact Rows.mono h λx w'' b=>c _ _ b
 |halt x w' =>
  cases x<;>simp only[DJ]at h⊢
  exact g _ _ _ h
end
theorem yZ(j:V):∀(x:V) (l:X W),(nY j x l).length=l.length
 |_, []=>by cases ‹V›<;>rfl
 |0,o::r=>rfl
 |x+1,o::r=>by simp only[nY,A7,yZ j x r]
theorem aDX(j:V):∀(x i:V) (l:X W),i≠x->(nY j x l)[i]? =l[i]?
 |x,i, [],h=>by cases x<;>rfl
 |0,i,o::r,h=>by
  cases i with
  |zero=>exact FU rfl h
  |succ i=>rfl
 |x+1,i,o::r,h=>by
  cases i with
  |zero=>rfl
  |succ i=>simp only[nY,DL];exact aDX j x i r (by omega)
theorem aDW(j:V):∀(x:V) (l:X W) (o:W),l[x]? =FT o->(nY j x l)[x]? =FT ⟨o.dst,o.op,o.type,o.pos,o.after.push ⟨j,.data⟩,o.guard⟩
 |x, [],o,h=>by simp at h
 |0,a::r,o,h=>by
  simp only[List.getElem?_cons_zero,Z1]at h;subst h;rfl
 |x+1,a::r,o,h=>by
  simp_all [DL,nY,aDW]
structure Late (ops:Array Oper) (j x:Nat) (oj ox:Oper) (u d:Nat):Prop where
 lt:j<x
 back:j5 0 ops.toList=true
 full:uL (x+1) 0 (jQ [] ops.toList)=true
 hj:ops[j]? =some oj
 hx:ops[x]? =some ox
 fullx:∃m,aR (jQ [] ops.toList) x=some m/\pD x (m |||2^j)=true
 mv:oj.op= .move (.tmp u)
 bi:∃c b,ox.op= .call c/\c.callee= .builtin b
 dst:oj.dst=some d
 ne:ox.dst≠some d
 nl:d ∉ Oper.looks ops.toList ox
 nx:∀t,ox.dst=some t->t ∉ Oper.looks ops.toList oj
theorem aOZ{ops:N W}{i:V}{o:W}(h:aR ops.toList i=FT o):ops[i]? =FT o:=by
 rw[bY]at h
 simpa using h
theorem aB9{ops:N W}{j x:V}(h:aEA j x ops.toList=FR):∃oj ox u d,Late ops j x oj ox u d:=by
 unfold aEA at h;simp only[Z3]at h;obtain⟨⟨⟨r,q⟩,p⟩,b⟩:=h;split at b
 .rename_i oj ox m q1 e c;simp only[Z3]at b;obtain⟨⟨⟨k,i⟩,g⟩,a⟩:=b;split at a
  .rename_i d o;simp only[Z3,AW,beq_eq_false_iff_ne]at a;obtain⟨⟨f,n2⟩,n3⟩:=a;obtain⟨u,l⟩:∃u,oj.op= .move (.tmp u):=by
    unfold aOC at i
    grind
   refine⟨oj,ox,u,d,by simpa [BA]using r,q,p,aOZ q1,aOZ e,⟨m,c,k⟩,l,?_,o,f,λn=>?_,λt ht n=>?_⟩
   .unfold aGm at g
    grind
   all_goals simp_all
  .simp at a
 .simp at b
section
variable {P:Program} {ops:Array Oper} {Q Q':Exit->Act->World->Prop} {j x:Nat} {oj ox:Oper} {u d:Nat}
def cP(j x:V)(ops:N W):N W:=(nY j x ops.toList).toArray
theorem lW:(cP j x ops).size=ops.size:=by simp[cP,yZ]
theorem wE{i:V}(h:i≠x):(cP j x ops)[i]? =ops[i]? :=by
 grind [aDX,cP]
theorem wD{o:W}(h:ops[x]? =FT o):(cP j x ops)[x]? =FT ⟨o.dst,o.op,o.type,o.pos,o.after.push ⟨j,.data⟩,o.guard⟩:=by
 grind [aDW,cP]
theorem aMz(hx:ops[x]? =FT ox)(T:N J)(k:V):yielded (cP j x ops) T k=yielded ops T k:=by
 unfold yielded
 grind [wD,wE]
theorem p9(hx:ops[x]? =FT ox)(o:W)(T:N J):AC o (yielded (cP j x ops) T)=AC o (yielded ops T):=by
 unfold AC
 grind [aMz]
theorem aFo{o:W}{a:Act}{t:g V}{v:J}(h:∀y,t=FT y->y ∉ Oper.looks ops.toList o):AC o (yielded ops (a.put t v).tmps)=AC o (yielded ops a.tmps):=by
 unfold AC;cases hg:o.guard with
 |none=>rfl
 |some q =>
  obtain⟨k,want⟩:=q;have:yielded ops (a.put t v).tmps k=yielded ops a.tmps k:=by
   unfold yielded;cases hk:ops[k]? with
   |none=>rfl
   |some ok =>
    cases b:ok.dst with
    |none=>simp[b]
    |some y =>
     grind [aR,bY,Oper.looks,aVc]
  simp only[this]
theorem aHT{o:W}{a:Act}{w:T}{K:Act->T->Prop}(b:o.op= .move (.tmp u)):o.wp P a w K Q=K (a.put o.dst (a.tmps.getD u undef)) w:=by
 unfold BG execOp;rw[b];rfl
theorem aGB{o:W}{a:Act}{w:T}(b:o.op= .move (.tmp u)):¬o.asks P a w:=by
 unfold FE execOp;rw[b]
 rintro⟨h,_⟩
 exact FU (show noRoomEvent∈(#[]:N Event) from h) (by simp)
theorem aGp(h:Late ops j x oj ox u d){a:Act}{v:J}:execOp (a.put (FT d) v).eval ox=execOp a.eval ox:=by
 obtain⟨c,b,g,i⟩:=h.bi;have f:c.args.map (a.put (FT d) v).eval=c.args.map a.eval:=by
  apply Array.map_congr_left
  intro y k;cases y with
  |tmp t =>
   refine lJ a (λe=>?_) v;have e:d=t:=by simpa using e
   subst e;apply h.nl
   simp only[Oper.looks,ED,List.mem_filterMap];refine .inl ⟨.tmp d,?_,rfl⟩;rw[g];simp[AD,AT,i,k]
  |_=>rfl
 unfold execOp;rw[g];simp only[resolve,i,f]
theorem aQO(h:Late ops j x oj ox u d){K' K:Act->T->Prop}{a:Act}{w:T}(m:∀a w,K' a w->K a w)(l:LetsOut Q'->LetsOut Q)(q:∀ch a d v w,Q' (.panic ch) (Act.put a d v) w->Q (.panic ch) a w)(H:wpOp P (cP j x ops) Q' j (λb c=>wpOp P (cP j x ops) Q' x K' b c) a w):wpOp P ops Q x (λb c=>wpOp P ops Q j K b c) a w:=by
 have i:j≠x:=by have:=h.lt;omega
 have H1:∃v,(v=if AC oj (yielded ops a.tmps)=FR then a.tmps.getD u undef else undef)/\wpOp P (cP j x ops) Q' x K' (a.put (FT d) v) w:=by
  generalize hG:(λb c=>wpOp P (cP j x ops) Q' x K' b c)=G at H;unfold wpOp at H;simp only[wE i,h.hj]at H;rw[p9 h.hx]at H;split at H
  .rename_i f;rcases H with H|H
   .rw[aHT h.mv,h.dst]at H
    simp_all
   .exact FU H.1 (aGB h.mv)
  .rename_i f;rw[h.dst]at H
   simp_all
 obtain⟨v,hv,H⟩:=H1;have key:∀(z:J) (b:Act) (c:T),b.tmps=(a.put ox.dst z).tmps->K' (b.put (FT d) v) c->wpOp P ops Q j K b c:=by
  intro z b c k g;unfold wpOp;simp only[h.hj];have t:AC oj (yielded ops b.tmps)=AC oj (yielded ops a.tmps):=by rw[k];exact aFo h.nx
  have s:b.tmps.getD u undef=a.tmps.getD u undef:=by
   rw[k];refine lJ a (λe=>h.nx u e ?_) z;simp[Oper.looks,h.mv,AD]
  rw[t];by_cases f:AC oj (yielded ops a.tmps)=FR
  .rw[F2 f]at hv⊢;left;rw[aHT h.mv,h.dst,s,<-hv];exact m _ _ g
  .rw[A f]at hv⊢;rw[h.dst,<-hv];exact m _ _ g
 unfold wpOp at H⊢;simp only[wD h.hx]at H;simp only[h.hx];rw[p9 h.hx]at H;have r:AC (⟨ox.dst,ox.op,ox.type,ox.pos,ox.after.push ⟨j,.data⟩,ox.guard⟩:W) (yielded ops (a.put (FT d) v).tmps)=AC ox (yielded ops a.tmps) :=
  aFo (o:=ox) (λy p=>by cases p;exact h.nl)
 rw[r]at H;by_cases f:AC ox (yielded ops a.tmps)=FR
 .rw[F2 f]at H⊢;rcases H with H|⟨H,H3⟩
  .left;have H':ox.upon P (a.put (FT d) v) K' Q' ((execOp (a.put (FT d) v).eval ox).run P w):=H;rw[aGp h]at H';have H2:ox.wp P a w (λb c=>(∃z,b.tmps=(a.put ox.dst z).tmps)/\K' (b.put (FT d) v) c) Q:=aRw h.ne l (λch w=>q ch a _ v w) _ H';exact Oper.wp_mono (λb c ⟨⟨z,n⟩,g⟩=>key z b c n g) H2
  .right;have H':ox.asks P (a.put (FT d) v) w:=H;unfold FE at H'⊢;rw[aGp h]at H';exact⟨H',l H3⟩
 .rw[A f]at H⊢;refine key undef (a.put ox.dst undef) w rfl ?_;rw[<-oQ a h.ne];exact H
theorem aGr(b:ops[x]? =FT ox){K' K:Act->T->Prop}{a:Act}{w:T}{i:V}(h:∀a w,K' a w->K a w)(c:LetsOut Q'->LetsOut Q)(g:∀ch a w,Q' (.panic ch) a w->Q (.panic ch) a w)(H:wpOp P (cP j x ops) Q' i K' a w):wpOp P ops Q i K a w:=by
 have one:∀o:W,(if AC o (yielded ops a.tmps)=FR then o.wp P a w K' Q'\/(o.asks P a w/\LetsOut Q')else K' (a.put o.dst undef) w)->(if AC o (yielded ops a.tmps)=FR then o.wp P a w K Q\/(o.asks P a w/\LetsOut Q)else K (a.put o.dst undef) w):=by
  intro o H;by_cases f:AC o (yielded ops a.tmps)=FR
  .rw[F2 f]at H⊢;exact H.imp (λH=>aA3 h c g _ H) λH=>⟨H.1,c H.2⟩
  simp_all
 unfold wpOp at H⊢;by_cases e:i=x
 .subst e;simp only[wD b]at H;simp only[b];rw[p9 b]at H;exact one ox H
 .grind [wE,p9]
theorem aKz(hx:ops[x]? =FT ox){listed:N S}{i:V}(a:i∈AG .any (cP j x ops) listed):i∈AG .any ops listed:=by
 obtain⟨b,h2,o,h3,h4⟩:=mem_ready.1 a;rw[lW]at b;by_cases e:i=x
 .simp_all [wD,mem_ready]
 grind [wE,mem_ready]
theorem aGq(h:Late ops j x oj ox u d){listed:N S}(g:Down ops listed){i:V}(s:i∈AG .any ops listed):i∈AG .any (cP j x ops) listed\/(i=x/\listed.getD j Aa=Aa/\j∈AG .any (cP j x ops) listed/\(∀k,k<x->k≠j->listed.getD k Aa=FR)):=by
 obtain⟨y,w,o,n,v⟩:=mem_ready.1 s;have c:j≠x:=by have:=h.lt;omega
 by_cases e:i=x
 .subst e;rw[h.hx,Z1]at n;subst n;cases r:listed.getD j Aa with
  |true =>
   refine .inl (mem_ready.2 ⟨by rw[lW];exact y,w,_,wD h.hx,λe f l=>?_⟩)
   grind
  |false =>
   obtain⟨m,p,t⟩:=h.fullx;have a:∀k,k<i->k≠j->listed.getD k Aa=FR:=by
    intro k q b;have:=p7 t k q;rw[EJ,Nat.testBit_two_pow_of_ne (Ne.symm b),Bool.or_false]at this;exact g.mask h.back i ox m (by rw[bY];simpa using h.hx) p v k this
   refine .inr ⟨rfl,rfl,mem_ready.2 ⟨by rw[lW];have:=h.lt;omega,?_,oj,by rw[wE c];exact h.hj,λe f l=>?_⟩,a⟩
   .rw[bX (by rw[g.size];have:=h.lt;omega)];exact r
   .have hlt:=kX ops.toList 0 h.back j oj (by rw[bY];simpa using h.hj) e f l;have:=h.lt
    grind
 grind [mem_ready,lW,wE]
theorem xM{n:V}:∀ {l:X V} {i:V},uL n i l=FR->∀k m,aR l k=FT m->n<=i+k->pD (i+k) m=FR
 |[],i,_,k,m,a,_=>by simp[aR]at a
 |x::r,i,h,k,m,a,hn=>by
  simp only[uL,Z3,CQ]at h;cases k with
  |zero =>
   grind [aR,Z1,BA]
  |succ k =>
   simp only[aR]at a;have:=xM h.2 k m a (by omega)
   grind
theorem aLt(l:N S)(i k:V):(l.setIfInBounds i FR).setIfInBounds k FR=(l.setIfInBounds k FR).setIfInBounds i FR:=by
 grind
theorem aKy(h:Late ops j x oj ox u d)(L:∀a w,Q' .normal a w->Q .normal a w)(M:LetsOut Q'->LetsOut Q)(S:∀ch a w,Q' (.panic ch) a w->Q (.panic ch) a w)(D:∀ch a d v w,Q' (.panic ch) (Act.put a d v) w->Q (.panic ch) a w) :
  ∀(fuel:V) (listed:F6 Bool) (a:Act) (w:T),Down ops listed->wpAny P .any (cP j x ops) Q' fuel listed a w->wpAny P .any ops Q fuel listed a w:=by
 have hjx:j≠x:=by have:=h.lt;omega
 intro fuel
 induction fuel using Nat.strongRecOn with
 |_ fuel E =>
 intro listed a w c H;have nil:AG .any (cP j x ops) listed=[]->AG .any ops listed=[]:=by
  intro y;apply BH.2
  intro i b;rcases aGq h c b with q|⟨_,_,q,_⟩
  all_goals simp_all
 have nil2:AG .any ops listed=[]->AG .any (cP j x ops) listed=[]:=by
  intro y;apply BH.2
  intro i b;have:=aKz h.hx b
  simp_all
 cases fuel with
 |zero=>exact⟨nil H.1,L _ _ H.2⟩
 |succ fuel =>
  refine⟨λy=>L _ _ (H.1 (nil2 y)),λi b=>?_⟩;rcases aGq h c b with q|⟨rfl,hjl,p,hall⟩
  .exact aGr h.hx (λn l=>E fuel (EA _) _ n l (c.put b)) M S (H.2 i q)
  .have H1:=H.2 j p;have hjr':=aKz h.hx p;have A:i∈AG .any (cP j i ops) (listed.setIfInBounds j FR):=by
    obtain⟨t,z,o,s,N⟩:=mem_ready.1 b;rw[h.hx,Z1]at s;subst s;have hjs:j<listed.size:=by rw[c.size];have:=h.lt;omega
    refine mem_ready.2 ⟨by rw[lW];exact t,?_,_,wD h.hx,λe he J=>?_⟩
    all_goals grind [bX,AZ,dH]
   cases fuel with
   |zero =>
    exfalso;have H1:=aGr (Q:=Q') (K:=λ_ _=>F7) h.hx (λn l g=>by
     have:=g.1
     simp_all) id (λ_ _ _ q=>q) H1
    unfold wpOp at H1;simp only[h.hj]at H1;by_cases R:AC oj (yielded ops a.tmps)=FR
    .rw[F2 R,aHT h.mv]at H1;rcases H1 with q|q
     .exact q
     .exact aGB h.mv q.1
    simp_all
   |succ f =>
    have H2:=aQO (Q:=Q) (K:=wpAny P .any ops Q f ((listed.setIfInBounds j FR).setIfInBounds i FR)) h (λn l g=>E f (by omega) _ n l (by rw[aLt];refine(c.put b).put (mem_ready.2 ?_);exact(by
     grind [mem_ready,dH,bX,AZ])) g) M D (wpOp_mono (λn l g=>g.2 i A) H1)
    refine wpOp_mono (λn l g=>⟨λy=>?_,λk G=>?_⟩) H2
    .exfalso;have:j∈AG .any ops (listed.setIfInBounds i FR):=by
      grind [mem_ready,dH,bX,AZ]
     simp_all
    .have hk':=G;obtain⟨t,z,o,s,N⟩:=mem_ready.1 G;have C:i<listed.size:=by obtain⟨O,_⟩:=mem_ready.1 b;rw[c.size];exact O
     rw[bX (by rw[AZ,c.size];exact t),dH C]at z;have B:k=j:=by
      false_or_by_contra
      rename_i hne;rcases D6 k i with q|q|q
      .simp_all
      .subst q;simp at z
      .have r:k<(jQ [] ops.toList).length:=by rw[tZ];simpa using t
       obtain⟨m,F⟩:∃m,aR (jQ [] ops.toList) k=FT m:=⟨_,by rw[bY];exact CD r⟩;have I:=xM h.full k m F (by omega);rw[BE]at I;have J:=p7 I j (by have:=h.lt;omega);have:=(c.put b).mask h.back k o m (by rw[bY];simpa using s) F N j J
       grind [dH]
     subst B;rw[aLt];exact g
end
def rN(Q:Exit->Act->T->Prop):Exit->Act->T->Prop
 |.panic ch,a,w=>∀a',a'.defers=a.defers->Q (.panic ch) a' w
 |e,a,w=>Q e a w
theorem aCz{P:O}(b:P.follows .mixedOrders=FR){E:Env P}{Kp:MV->Prop}{lt:X V}{ops:N W}{draw:S}{id:V}{S0:V->Prop}{w0:Base}{Q:Exit->Act->T->Prop}(k:∀m v w' a',Kp m->PanB w0 w'->Rep1 (AO S0) w' m v->a'.defers=w0.df->Q (.panic [{ v,recovered:=false }]) a' w'){s:MS}{K:MS->Prop}{c:Ctx}{a:Act}{w:T}(h:lT E lt ops.toList draw s K Kp)(e:St S0 w0 s c a w)(l:∀s' c' a' w',K s'->St S0 w0 s' c' a' w'->s'.n=s.n->Q .normal a' w'):(Code.region id ops draw).wp P Q a w:=by
 unfold lT at h;split at h
 .exact aEl b k h e l
 .rename_i j hj;simp only at h;generalize hx:lL 0 (jQ [] ops.toList)-1=x at h;cases g:(draw&&aEA j x ops.toList)with
  |false=>rw[g]at h;exact h.elim
  |true =>
   rw[g,Z6]at h;simp only[Z3]at g;obtain⟨rfl,f⟩:=g;obtain⟨oj,ox,u,d,f⟩:=aB9 f;have z:mW E (cP j x ops).toList FR s K Kp:=h;have H:=mJ (Q:=rN Q) (λm v w' a' q1 y t r A p=>k m v w' A q1 y t (p.trans r)) z e l;refine aBX b ?_;show wpAny P .any ops Q ops.size (AK ops.size Aa) a { w with drawn:=w.drawn+1 };have H:wpAny P .any (cP j x ops) (rN Q) (cP j x ops).size (AK (cP j x ops).size Aa) a { w with drawn:=w.drawn+1 }:=H;rw[lW]at H;refine aKy (Q:=Q) (Q':=rN Q) f (λ_ _ q=>q) (λ⟨a,w,q⟩=>⟨a,w,q⟩) (λch a w q=>q a rfl) (λch a d v w q=>q a (by cases d<;>rfl)) _ _ _ _ ⟨by simp,λi o _ f=>?_⟩ H;have:(AK ops.size Aa).getD i Aa=Aa:=by
    simp only[AB,CC];split<;>rfl
   simp_all
end
structure Cuts (nb:Nat) (c c':Ctx):Prop where
 S:∀b,c'.S b->c.S b
 W:∀b,c'.W b->c.W b
 live:∀i,i<nb->c.live i->c'.live i/\c'.β i=c.β i/\c'.sz i=c.sz i
theorem Cuts.elem{nb:V}{c c':Ctx}(h:Cuts nb c c'):Cuts 0 c.elem c'.elem:=⟨h.S,λ_ h=>h,λi hi=>by omega⟩
theorem aNi(c:Ctx)(w:T):WordsR c w [] (.slice F0 0 0):=⟨F0,0,rfl,Z0 _,λh=>FU h (by simp)⟩
theorem bN:aA 0=[]:=by rw[aA];simp
theorem dV{c:Ctx}{w:T}{m:MV}{a:X J}(h:RepC c w m a)(hw:m.width=1):∃v,a=[v]/\v.oneCell'=FR:=by
 have hl:=DE _ _ h
 grind [CJ,EE]
theorem aKC{nb:V}:∀(m m':MV),fN nb m m'->m'.isAgg=m.isAgg:=by
 intro m m' h;cases m<;>cases m'<;>first|rfl|(simp only[fN]at h)
mutual
theorem oB{w:T}:∀(m m':MV) (nb:V) (c c':Ctx) (vs:X J),Cuts nb c c'->fN nb m m'->RepC c w m vs->RepC c' w m' vs
 |.bool a,m',nb,c,c',vs,k,h,r=>by
  cases m'<;>simp only[fN]at h<;>first|(exact dV r rfl)|skip
  subst h;exact r
 |.int kk a,m',nb,c,c',vs,k,h,r=>by
  cases m'<;>simp only[fN]at h<;>first|(exact dV r rfl)|skip
  rename_i k' b;cases hk:H (kk=k')with
  |false=>rw[hk]at h;exact h.elim
  |true =>
   rw[hk,Z6]at h;simp only[decide_eq_true_eq]at hk;subst hk;subst h;exact r
 |.val v,m',nb,c,c',vs,k,h,r=>by
  cases m'<;>simp only[fN]at h<;>first|(exact dV r rfl)|skip
  .subst h;exact r
  .obtain⟨rfl,rfl⟩:=h;obtain⟨rfl,_⟩:=r;exact⟨_,rfl,aNi _ _⟩
  .obtain⟨rfl,rfl⟩:=h;obtain⟨rfl,_⟩:=r;exact⟨F0,0,rfl,Z0 _,λh=>by omega⟩
  .obtain⟨rfl,rfl,rfl⟩:=h;obtain⟨rfl,_⟩:=r;exact⟨F0,0,rfl,Z0 _,.inr ⟨rfl,rfl,rfl⟩⟩
 |.big z n,m',nb,c,c',vs,k,h,r=>by
  cases m'<;>simp only[fN]at h
  .rename_i kk;cases hk:kk.beq 2 with
   |false=>rw[hk]at h;exact h.elim
   |true =>
    simp only[AJ]at hk;subst hk;exact⟨DE _ _ r,EE _ _ r⟩
  .obtain⟨rfl,hn⟩:=h;obtain⟨s,h1,h2,h3⟩:=r;refine⟨s,h1,?_,h3.mono k.S⟩
   grind [A9,A1]
 |.ws l,m',nb,c,c',vs,k,h,r=>by
  cases m'<;>simp only[fN]at h<;>first|(exact dV r rfl)|skip
  subst h;obtain⟨s,h1,h2⟩:=r;exact⟨s,h1,h2.mono k.S⟩
 |.sl wd len f,m',nb,c,c',vs,k,h,r=>by
  cases m'<;>simp only[fN]at h<;>first|(exact dV r rfl)|skip
  rename_i wd' len' f';obtain⟨rfl,rfl,h⟩:=h;obtain⟨a,cap,h1,h2,h3⟩:=r;refine⟨a,cap,h1,h2,λhl=>?_⟩;obtain⟨b,off,h4,h5,h6⟩:=h3 hl;refine⟨b,off,h4,λh=>h5 (k.S b h),λi hi=>?_⟩;obtain⟨cs,h7,h8,h9⟩:=h6 i hi;exact⟨cs,h7,h.h i hi _ _ _ (B3 (⟨λb _=>k.S b,λ_ _ _=>trivial,λ_ h=>h.elim,λ_ _ _=>rfl,λ_ _ _=>rfl⟩:Keeps c.elem c'.elem w w) (f i) cs h8),h9⟩
 |.st a,m',nb,c,c',vs,k,h,r=>by
  cases m'<;>simp only[fN]at h
  .rename_i kk;cases hk:kk.beq (qV a)with
   |false=>rw[hk]at h;exact h.elim
   |true =>
    simp only[AJ]at hk;subst hk;exact⟨DE _ _ r,EE _ _ r⟩
  .rename_i z n;unfold bB5 at h;split at h
   .rename_i b l;obtain⟨rfl,rfl,h3⟩:=h;obtain⟨x,y,rfl,hx,x2,y2,rfl,hx2,hy2⟩:=r;have hx:x=[.bool (H (z<0))]:=hx;have hy2:y2=[]:=hy2;subst hx;subst hy2;obtain⟨s,rfl,hs⟩:=hx2;exact⟨s,rfl,h3,hs.mono k.S⟩
   .rename_i b v;obtain⟨rfl,rfl,rfl⟩:=h;obtain⟨x,y,rfl,hx,x2,y2,rfl,hx2,hy2⟩:=r;have hx:x=[.bool Aa]:=hx;have hy2:y2=[]:=hy2;subst hx;subst hy2;obtain⟨rfl,_⟩:=hx2;exact⟨.slice F0 0 0,rfl,DD n,aHb _ _⟩
   .exact h.elim
  .exact aEC a _ nb c c' vs k h r
 |.ref m,m',nb,c,c',vs,k,h,r=>by
  cases m'<;>simp only[fN]at h<;>first|(exact dV r rfl)|skip
  obtain⟨b,off,cs,h1,h2,h3,h4⟩:=r;exact⟨b,off,cs,h1,λh=>h2 (k.W b h),oB m _ nb c c' cs k h h3,h4⟩
 |.bp i off,m',nb,c,c',vs,k,h,r=>by
  cases m'<;>simp only[fN]at h<;>first|(exact dV r rfl)|skip
  rename_i i' off';cases hk:(i.beq i'&&i.blt nb)with
  |false=>rw[hk]at h;exact h.elim
  |true =>
   rw[hk,Z6]at h;simp only[Z3,AJ,BA]at hk;obtain⟨rfl,hlt⟩:=hk;subst h;obtain⟨h1,h2⟩:=r;obtain⟨a,b,_⟩:=k.live i hlt h1;exact⟨a,by rw[b];exact h2⟩
 |.bs i off len,m',nb,c,c',vs,k,h,r=>by
  cases m'<;>simp only[fN]at h<;>first|(exact dV r rfl)|skip
  case sl =>
   obtain⟨rfl,rfl⟩:=h;obtain⟨a,cap,h1,h2,_⟩:=r;exact⟨a,cap,h1,h2,λh=>by omega⟩
  rename_i i' off' len';cases hk:(i.beq i'&&i.blt nb)with
  |false=>rw[hk]at h;exact h.elim
  |true =>
   rw[hk,Z6]at h;simp only[Z3,AJ,BA]at hk;obtain⟨rfl,hlt⟩:=hk;obtain⟨rfl,rfl⟩:=h;obtain⟨a,cap,h1,h2,h3⟩:=r;refine⟨a,cap,h1,h2,h3.imp (λ⟨h4,h5,h6⟩=>?_) id⟩;obtain⟨x,y,z⟩:=k.live i hlt h5
   simp_all
 |.fn f a,m',nb,c,c',vs,k,h,r=>by
  cases m'<;>simp only[fN]at h<;>first|(exact dV r rfl)|skip
  rename_i f' b;cases hk:f.beq f' with
  |false=>rw[hk]at h;exact h.elim
  |true =>
   rw[hk,Z6]at h;simp only[AJ]at hk;subst hk;obtain⟨cs,h1,h2,h3⟩:=r;exact⟨cs,h1,aEC a b nb c c' cs k h h2,aOI a b nb h h3⟩
 |.iface t m,m',nb,c,c',vs,k,h,r=>by
  cases m'<;>simp only[fN]at h<;>first|(exact dV r rfl)|skip
  rename_i t' m2;cases hk:(t.beq t'&&(m.isAgg==m2.isAgg))with
  |false=>rw[hk]at h;exact h.elim
  |true =>
   rw[hk,Z6]at h;simp only[Z3,AJ,beq_iff_eq]at hk;obtain⟨rfl,hg⟩:=hk;obtain⟨cs,u,h1,h2,h3⟩:=r;exact⟨cs,u,h1,oB m m2 nb c c' cs k h h2,by rw[<-hg];exact h3⟩
 |.emp,m',nb,c,c',vs,k,h,r=>by
  cases m'<;>simp only[fN]at h<;>first|(exact dV r rfl)|skip
  .subst h;obtain⟨a,rfl⟩:=r;exact⟨_,rfl,a,0,rfl,Z0 _,λh=>FU h (by simp)⟩
  .exact r
 |.any,m',nb,c,c',vs,k,h,r=>by
  cases m'<;>simp only[fN]at h
  exact r
 |.junk n,m',nb,c,c',vs,k,h,r=>by
  cases m'<;>simp only[fN]at h
  rename_i kk;cases hk:kk.beq n with
  |false=>rw[hk]at h;exact h.elim
  |true =>
   simp only[AJ]at hk;subst hk;exact r
 |.br i idx off,m',nb,c,c',vs,k,h,r=>by
  cases m'<;>simp only[fN]at h<;>first|(exact dV r rfl)|skip
  rename_i i' idx' off';cases hk:(i.beq i'&&i.blt nb)with
  |false=>rw[hk]at h;exact h.elim
  |true =>
   rw[hk,Z6]at h;simp only[Z3,AJ,BA]at hk;obtain⟨rfl,hlt⟩:=hk;obtain⟨rfl,rfl⟩:=h;obtain⟨h1,h2⟩:=r;obtain⟨a,b,d⟩:=k.live i hlt h1;exact⟨a,by rw[b,d];exact h2⟩
 |.tup _,m',nb,c,c',vs,k,h,r=>by simp only[fN]at h
theorem aEC{w:T}:∀(a b:X MV) (nb:V) (c c':Ctx) (vs:X J),Cuts nb c c'->aAi nb a b->RepCs c w a vs->RepCs c' w b vs
 |[],b,nb,c,c',vs,k,h,r=>by
  cases b<;>simp only[aAi]at h
  exact r
 |x::a,b,nb,c,c',vs,k,h,r=>by
  cases b<;>simp only[aAi]at h
  obtain⟨h1,h2⟩:=h;obtain⟨u,v,rfl,hu,hv⟩:=r;exact⟨u,v,rfl,oB x _ nb c c' u k h1 hu,aEC a _ nb c c' v k h2 hv⟩
theorem aOI:∀(a b:X MV) (nb:V),aAi nb a b->(∀m∈a,m.isAgg=Aa)->∀m∈b,m.isAgg=Aa
 |[],b,nb,h,hg=>by
  cases b<;>simp only[aAi]at h
  simp
 |x::a,b,nb,h,hg=>by
  cases b<;>simp only[aAi]at h
  obtain⟨h1,h2⟩:=h;intro m hm;rcases A0.1 hm with rfl|hm
  .rw[aKC x _ h1];exact hg x (by simp)
  .exact aOI a _ nb h2 (λy hy=>hg y (by simp[hy])) m hm
end
theorem aMA{nb:V}{m m':MV}(h:fN nb m m'):m.isTup=Aa/\m'.isTup=Aa:=by
 cases m<;>cases m'<;>first|exact⟨rfl,rfl⟩|(simp only[fN]at h)
theorem aHL{w:T}{m m':MV}{nb:V}{c c':Ctx}{v:J}(k:Cuts nb c c')(h:fN nb m m')(r:Rep1 c w m v):Rep1 c' w m' v:=by
 by_cases a:m'= .any
 .subst a;trivial
 .have hg:=aKC m m' h;by_cases hn:m= .any
  .grind [fN]
  .cases hm:m.isAgg with
   |true =>
    grind [fH,oB]
   |false =>
    grind [bC,oB]
theorem rI{w:T}{nb:V}{c c':Ctx}(k:Cuts nb c c'):∀(a b:X MV) (d:X J),lO.leVs nb a b->RepAll c w a d->RepAll c' w b d
 |[],b,d,h,r=>by cases b<;>simp only[lO.leVs]at h;exact r
 |x::a,b,d,h,r=>by
  cases b with
  |nil=>simp only[lO.leVs]at h
  |cons y b =>
   simp only[lO.leVs]at h;obtain⟨h1,g⟩:=h;obtain⟨v,u,rfl,hv,f⟩:=r;refine⟨v,u,rfl,?_,rI k a b u g f⟩;by_cases e:y= .any
   .subst e;trivial
   grind [aHL]
theorem yE{w:T}{m m':MV}{nb:V}{c c':Ctx}{v:J}(k:Cuts nb c c')(h:lO nb m m')(r:Rep c w m v):Rep c' w m' v:=by
 unfold lO at h;split at h
 .trivial
 .rename_i b;split at h
  .rename_i a;obtain⟨d,f,e⟩:=r;exact⟨d,f,rI k a b _ h e⟩
  .exact h.elim
 grind [aMA,bF,aHL]
theorem LeFun.of_le{len:V}{f f':V->MV}(h:∀i,i<len->fN 0 (f i) (f' i)):LeFun len f f' :=
 ⟨λi a c _ b r=>oB (f i) (f' i) 0 c c b ⟨λ_ h=>h,λ_ h=>h,λi a=>by omega⟩ (h i a) r⟩
theorem aTR{w:T}{nb:V}{c c':Ctx}(k:Cuts nb c c'){x y:BC}{arr:N J}(h:aBA nb x y)(r:gY c w x arr):gY c' w y arr:=by
 cases x with
 |one m =>
  cases y with
  |one m' =>
   obtain⟨d,q,p⟩:=r;exact⟨d,oB m m' nb c c' d k h q,p⟩
  |arr k l=>exact h.elim
  |rows _ _ _=>exact h.elim
 |arr n l =>
  cases y with
  |one m'=>exact h.elim
  |arr k' l' =>
   simp only[aBA]at h;cases a:H (n=k')with
   |false=>rw[a]at h;exact h.elim
   |true =>
    rw[a,Z6]at h;simp only[decide_eq_true_eq]at a;subst a;subst h;exact r
  |rows _ _ _=>exact h.elim
 |rows wd len f =>
  cases y with
  |one m'=>exact h.elim
  |arr k l=>exact h.elim
  |rows wd' len' f' =>
   simp only[aBA]at h;cases a:wd.beq wd' with
   |false=>rw[a]at h;exact h.elim
   |true =>
    rw[a,Z6]at h;simp only[AJ]at a;obtain⟨rfl,o⟩:=h;subst a;intro i e;obtain⟨d,q1,j,g⟩:=r i e;exact⟨d,q1,o.h i e _ _ _ (B3 (⟨λb _=>k.S b,λ_ _ _=>trivial,λ_ h=>h.elim,λ_ _ _=>rfl,λ_ _ _=>rfl⟩:Keeps c.elem c'.elem w w) (f i) d j),g⟩
theorem aOG{nb:V}{x y:BC}(h:aBA nb x y):y.wd=x.wd:=by
 cases x<;>cases y<;>first|rfl|exact h.elim|skip
 rename_i wd len f wd' len' f';simp only[aBA]at h;cases a:wd.beq wd' with
 |false=>rw[a]at h;exact h.elim
 |true=>simp only[AJ]at a;exact a.symm
theorem aKA{nb:V}:∀(l l':X Box),aYw nb l l'->∀i b',aR l' i=FT b'->i<l.length->∃b,aR l i=FT b/\b.fz=b'.fz/\aBA nb b.c b'.c
 |l, [],_=>λi b h=>by simp[aR]at h
 |[],_::_,h=>λi b _ d=>by simp at d
 |x::l,y::l',h=>by
  simp only[aYw]at h;cases a:(x.fz==y.fz)with
  |false=>rw[a]at h;exact h.elim
  |true =>
   rw[a,Z6]at h;obtain⟨j,g⟩:=h;have f:=aKA l l' g;intro i b' e d;cases i with
   |zero=>simp only[aR,Z1]at e;subst e;exact⟨x,rfl,by simpa using a,j⟩
   |succ i=>exact f i b' e (by simpa using d)
theorem aGs{nb:V}{s:MS}:∀(l:X (V×MV)),bDj nb s l->∀t,lO nb (aW t s.tm) (aW t l)
 |[],_,t=>by simp only[aW];unfold lO;trivial
 |(u,m)::l,h,t=>by
  obtain⟨c,b⟩:=h;simp only[aW];cases a:u.beq t with
  |true=>simp only[AJ]at a;subst a;exact c
  |false=>exact aGs l b t
theorem St.le{S0:V->Prop}{w0:Base}{w:T}{s t:MS}{c:Ctx}{a:Act}(h:St S0 w0 s c a w)(d:yD s t):∃c',St S0 w0 t c' a w:=by
 unfold yD at d;cases e:(s.n.beq t.n&&s.np.beq t.np&&(t.np%1048576).ble t.bx.length)with
 |false=>rw[e]at d;exact d.elim
 |true =>
  rw[e,Z6]at d;simp only[Z3,AJ,FF]at e;obtain⟨⟨E,r⟩,hnb⟩:=e;obtain⟨H,G⟩:=d;have l:=aKA _ _ G;have f:∀i b',c.live i->aR t.bx i=FT b'->∃b,aR s.bx i=FT b/\b.fz=b'.fz/\aBA t.bx.length b.c b'.c:=λi b' m q=>l i b' q (h.mem.fresh i m).2.2
  let live':V->Prop:=λi=>c.live i/\i<t.bx.length
  have B:∀b,Wof t.bx live' c.β b->c.W b:=by
   rintro b ⟨i,I,q1,p,o,D⟩
   obtain⟨b1,v,y,_⟩:=f i I q1.1 p;exact(h.mem.hW b).2 ⟨i,b1,q1.1,v,by rw[y];exact o,D⟩
  have k:Cuts t.bx.length c (cJ S0 t.bx live' c.β c.sz) :=
   ⟨λb q=>(h.mem.hS b).2 (q.imp id (B b)),B,λi g m=>⟨⟨m,g⟩,rfl,rfl⟩⟩
  refine⟨cJ S0 t.bx live' c.β c.sz,⟨h.mem.ext,h.mem.S0lt,h.mem.gl,λb=>BV,λb=>BV,λi j g F=>h.mem.inj i j g.1 F.1,λi g=>⟨(h.mem.fresh i g.1).1,(h.mem.fresh i g.1).2.1,g.2⟩,?_,λi b z A=>by obtain⟨q1,p,o⟩:=h.mem.pin i b z A;have:=aZJ (h.np i b z A);exact⟨⟨q1,by rw[r]at this;omega⟩,p,o⟩⟩,λu=>yE k (aGs _ H u) (h.tm u),E ▸ h.size,h.defers,r ▸ h.np⟩;intro i b m q;obtain⟨b1,v,y,x⟩:=f i b m.1 q;obtain⟨arr,ty,q1,p,C,o⟩:=h.mem.box i b1 m.1 v;exact⟨arr,ty,q1,p,by rw[aOG x];exact C,aTR k x o⟩
def Ex.out:Ex->Exit
 |.normal=>.normal
 |.exit id=>.exit id
 |.ret=>.ret
theorem St.frzs{S0:V->Prop}{w0:Base}{w:T}{s:MS}{c:Ctx}{a:Act}(h:St S0 w0 s c a w)(fz:X V):St S0 w0 (s.frz fz) (cJ S0 (iS fz s.bx) c.live c.β c.sz) a w:=by
 obtain⟨b,d,_⟩:=h.mem.frz fz;exact h.keepTm (s':=s.frz fz) d b rfl rfl rfl
theorem aEn{P:O}{S0:V->Prop}{w0:Base}{c:Code}{F:MS->(Ex->MS->Prop)->Prop}{Q:Exit->Act->T->Prop}{K:Ex->MS->Prop}(o:∀(s:MS) (K':Ex->MS->Prop) (b:Ctx) (a:Act) (w:T) (Q':Exit->Act->T->Prop),F s K'->St S0 w0 s b a w->
   (∀e s' c' a' w',K' e s'->St S0 w0 s' c' a' w'->Q' e.out a' w')->(∀ch a' w',Q (.panic ch) a' w'->Q' (.panic ch) a' w')->c.wp P Q' a w)(j:∀e s' c' a' w',e≠ .normal->K e s'->St S0 w0 s' c' a' w'->Q e.out a' w'){n:V}{s:MS}{b:Ctx}{a:Act}{w:T}(h:rD F n s K)(l:St S0 w0 s b a w):(Code.loop c).wp P Q a w:=by
 refine wp_loop_ghost (λm a' w'=>∃s' c',rD F m s' K/\St S0 w0 s' c' a' w') n ⟨s,b,h,l⟩ ?_
 rintro m a' w' ⟨s',c',k,p⟩
 cases m with
 |zero=>exact k.elim
 |succ m =>
  refine o s' _ c' a' w' _ k p (λe s2 g i d q1 f=>?_) (λch i d q=>q);cases e with
  |normal=>exact⟨m,EA m,s2,g,q1,f⟩
  |exit id=>exact j (.exit id) s2 g i d (by simp) q1 f
  |ret=>exact j .ret s2 g i d (by simp) q1 f
theorem bD{P:FV}(g:P.follows .mixedOrders=FR){E:Env P}{Kp:MV->Prop}{S0:FW->Prop}{w0:Base} :
  ∀(c:Code) (s:MS) (K:Ex->MS->Prop) (n:Ctx) (a:Act) (w:FX) (Q:Exit->Act->FX->Prop),bG E Kp c s K->St S0 w0 s n a w->
  (∀e s' c' a' w',K e s'->St S0 w0 s' c' a' w'->Q e.out a' w')->
  (∀m v w' a',Kp m->PanB w0 w'->Rep1 (AO S0) w' m v->a'.defers=w0.df->Q (.panic [{ v,recovered:=false }]) a' w')->c.wp P Q a w
 |.skip,s,K,n,a,w,Q,h,k,f,o=>wp_skip (f .normal s n a w h k)
 |.label l,s,K,n,a,w,Q,h,k,f,o=>wp_label (f .normal s n a w h k)
 |.region id ops draw,s,K,n,a,w,Q,h,k,f,o=>aCz g o (by simpa only[bG]using h) (k.frzs _) (λs' c' a' w' q1 d _=>f .normal s' c' a' w' q1 d)
 |.seq x y,s,K,n,a,w,Q,h,k,f,o=>by
  simp only[bG]at h;generalize E.cut (cW y) s=A at h;unfold aOv at h;split at h
  .refine wp_seq (bD g x s _ n a w _ h k (λe s' c' a' w' q1 d=>?_) (λm v w' a' q1 d q p=>o m v w' a' q1 d q p));cases e with
   |normal=>exact bD g y s' K c' a' w' Q q1 d f o
   |exit id=>exact f (.exit id) s' c' a' w' q1 d
   |ret=>exact f .ret s' c' a' w' q1 d
  .obtain⟨Z,Y⟩:=h;refine wp_seq (bD g x s _ n a w _ Z k (λe s' c' a' w' q1 d=>?_) (λm v w' a' q1 d q p=>o m v w' a' q1 d q p));cases e with
   |normal =>
    obtain⟨j,r,z⟩:=q1;obtain⟨H,B⟩:=d.le z;exact bD g y _ K H a' w' Q (Y j r) B f o
   |exit id=>exact f (.exit id) s' c' a' w' q1 d
   |ret=>exact f .ret s' c' a' w' q1 d
 |.cond cc x y,s,K,n,a,w,Q,h,k,f,o=>by
  simp only[bG]at h;split at h
  .rename_i t;split at h
   .rename_i b X;have G:=k.tm t;rw[X]at G;have S:a.eval (.tmp t)= .bool b:=fI G;unfold Br at h;cases b with
    |true =>
     rw[Z6]at h;exact wp_cond S (bD g x _ K n a w Q h (k.again G) f o)
    |false =>
     rw[Z5]at h;exact wp_cond S (bD g y _ K n a w Q h (k.again G) f o)
   .exact h.elim
  .exact h.elim
 |.block id x,s,K,n,a,w,Q,h,k,f,o=>by
  simp only[bG]at h;refine wp_block (bD g x s _ n a w _ h k (λe s' c' a' w' q1 d=>?_) (λm v w' a' q1 d q p=>o m v w' a' q1 d q p));cases e with
  |normal=>exact f .normal s' c' a' w' q1 d
  |exit j =>
   simp only[Ex.out,Exit.inBlock];cases r:j.beq id with
   |true =>
    simp only[AJ]at r;rw[F2 r];have q1:F3 (j.beq id) (K .normal s') (K (.exit j) s'):=q1;rw[show j.beq id=FR by simpa using r,Z6]at q1;exact f .normal s' c' a' w' q1 d
   |false =>
    have N:¬j=id:=by intro e;subst e;simp at r
    rw[F1 N];have q1:F3 (j.beq id) (K .normal s') (K (.exit j) s'):=q1;rw[r,Z5]at q1;exact f (.exit j) s' c' a' w' q1 d
  |ret=>exact f .ret s' c' a' w' q1 d
 |.loop x,s,K,n,a,w,Q,h,k,f,o=>by
  simp only[bG]at h;generalize hann:E.ann (cW x) s=A at h;unfold aHC at h;split at h
  .exact h.elim
  .exact aEn (Q:=Q) (K:=K) (λs' K' c' a' w' Q' h' L R M=>bD g x s' K' c' a' w' Q' h' L R (λm v C D q1 d q p=>M _ _ _ (o m v C D q1 d q p)))
    (λe s' c' a' w' _ q1 d=>f e s' c' a' w' q1 d) h k
  .rename_i ι I T μ;obtain⟨⟨V,hi0,F⟩,u⟩:=h;refine wp_loop_ghost (λm a' w'=>∃i c',I i/\μ i=m/\St S0 w0 (T i) c' a' w') (μ V) (by
    obtain⟨c',hc'⟩:=k.le F
    grind) ?_
   rintro m a' w' ⟨i,c',W,rfl,J⟩
   refine bD g x (T i) _ c' a' w' _ (u i W) J (λe s2 U D C q1 d=>?_) (λm v C D q1 d q p=>o m v C D q1 d q p);cases e with
   |normal =>
    obtain⟨j,r,z,O⟩:=q1;obtain⟨H,B⟩:=d.le z;exact⟨μ j,O,j,H,r,rfl,B⟩
   |exit id=>exact f (.exit id) s2 U D C q1 d
   |ret=>exact f .ret s2 U D C q1 d
 |.exit id,s,K,n,a,w,Q,h,k,f,o=>wp_exit (f (.exit id) s n a w h k)
 |.ret,s,K,n,a,w,Q,h,k,f,o=>wp_ret (f .ret s n a w h k)
 |.rangeFunc _ _ _ _,s,K,n,a,w,Q,h,k,f,o=>by simp only[bG]at h;exact h.elim
 |.scope x,s,K,n,a,w,Q,h,k,f,o=>wp_scope_straight (bD g x s K n a w _ (by simpa only[bG]using h) k (λe s' c' a' w' q1 d=>by
   cases e with
   |normal=>exact f .normal s' c' a' w' q1 d
   |exit id=>exact f (.exit id) s' c' a' w' q1 d
   |ret=>exact f .ret s' c' a' w' q1 d) (λm v w' a' q1 d q p=>o m v w' a' q1 d q p))
 |.goto _,s,K,n,a,w,Q,h,k,f,o=>by simp only[bG]at h;exact h.elim
 |.refuse _,s,K,n,a,w,Q,h,k,f,o=>by simp only[bG]at h;exact h.elim
theorem aLv{S0:V->Prop}{w0:Base}{w:T}{s:MS}{c:Ctx}{a:Act}(h:St S0 w0 s c a w){m:MV}{d:Shown}(j:s.show m=FT d)(q:d.p.holds)(u:d.m.clean Aa=FR){v:J}(o:Rep c w m v):Rep1 (AO S0) w d.m v:=by
 have g:=h.mem;obtain⟨l,_⟩:=s8 (S':=S0) (λb f=>(g.hS b).2 (.inl f)) g.box (λi b k f t n=>g.frozen i b k f t ((g.hS _).2 (.inl n))) m d j q
  (λi _ k x=>g.notS0 k x) v ((bF (aFb j)).1 o)
 exact DF (c:=AQ S0) (c':=AO S0) (r:=false) (λb f=>f) (λe=>by simp at e) u l
theorem aKb{P:O}{s:MS}{t:F5}{agg:S}{size:V}(e:eE P t=FT (agg,size)){x:MV}{p:OProp}{m:MV}(h:iC s agg size x= .val p m)(g:p.holds){c:Ctx}{w:T}{v:J}(b:Rep c w x v)(i:kV c w s.bx):∃a u,v= .pointer (FT a)/\(loadVar t a).run P w= .ok u w/\Rep c w m u:=by
 have hv:∃a,v= .pointer (FT a):=by
  have h':=h;unfold iC at h';split at h'
  .obtain⟨_,rfl⟩:=kL b;exact⟨_,rfl⟩
  .grind [aAD]
  .obtain⟨_,rfl⟩:=aE2 b;exact⟨_,rfl⟩
  .simp at h'
 obtain⟨a,rfl⟩:=hv;obtain⟨u,d,f⟩:=aGf e h g b i;refine⟨a,u,rfl,?_,f⟩
 simpa [Instr.loadAt,Instr.sureAddr]using d
def aIb(tmps:N J):ResultVar->Sem J
 |.tmp t=>pure (tmps.getD t undef)
 |.cell b t=>do loadVar t (<-asAddr (tmps.getD b undef))
theorem kM(b:F8)(tmps:N J):results b tmps=(do let a <-b.results.mapM (aIb tmps);pure (if h:a.size=1 then a[0]else .tuple a)):=by
 rfl
theorem aKd{P:O}{S0:V->Prop}{w0:Base}{w:T}{s:MS}{c:Ctx}{a:Act}(h:St S0 w0 s c a w){r:ResultVar}{p:OProp}{m:MV}(d:zV P s r=FT (p,m))(i:p.holds) :
  ∃v,(aIb a.tmps r).run P w= .ok v w/\Rep1 (AO S0) w m v:=by
 cases r with
 |tmp t =>
  simp only[zV]at d;split at d
  .rename_i m' p' fz f;cases e:m'.clean Aa with
   |false=>rw[e]at d;simp at d
   |true =>
    rw[e]at d;simp only[Z6,Z1,Z2]at d;obtain⟨rfl,rfl⟩:=d;exact⟨_,rfl,aLv h f i e (h.tm t)⟩
  .simp at d
 |cell b t =>
  simp only[zV]at d;split at d
  .rename_i agg size k;split at d
   .rename_i p1 m1 o;split at d
    .rename_i m' q fz f;cases e:m'.clean Aa with
     |false=>rw[e]at d;simp at d
     |true =>
      rw[e]at d;simp only[Z6,Z1,Z2]at d;obtain⟨rfl,rfl⟩:=d;obtain⟨g,n⟩:=oand2_holds.1 i;obtain⟨ad,u,hv,j,l⟩:=aKb k o g (h.tm b) h.mem.box;refine⟨u,?_,aLv h f n e l⟩;simp[aIb,hv,asAddr,j]
    .simp at d
   .simp at d
  .simp at d
theorem sE{P:O}{S0:V->Prop}{w0:Base}{w:T}{s:MS}{c:Ctx}{a:Act}(h:St S0 w0 s c a w):∀(l:X ResultVar) (p:OProp) (e:X MV),jH P s l=FT (p,e)->p.holds->
  ∃d,(l.mapM (aIb a.tmps)).run P w= .ok d w/\RepAll (AO S0) w e d
 |[],p,e,b,i=>by
  simp only[jH,Z1,Z2]at b;obtain⟨rfl,rfl⟩:=b;exact⟨[],rfl,rfl⟩
 |r::l,p,e,b,i=>by
  simp only[jH]at b;split at b
  .rename_i p1 m q ms' o n;simp only[Z1,Z2]at b;obtain⟨rfl,rfl⟩:=b;obtain⟨g,k⟩:=oand2_holds.1 i;obtain⟨v,hv,j⟩:=aKd h o g;obtain⟨d,hvs,f⟩:=sE h l q ms' n k;refine⟨v::d,?_,v,d,rfl,j,f⟩
   simp_all
  .simp at b
theorem sS{c:Ctx}{w:T}{b:X MV}{a:X J}(h:RepAll c w b a):Rep c w (uX b) (if e:a.toArray.size=1 then a.toArray[0]else .tuple a.toArray):=by
 match b,a,h with
 |[],a,h =>
  have h:a=[]:=h;subst h;exact⟨#[],rfl,rfl⟩
 |[m],a,h =>
  obtain⟨v,r,rfl,f,d⟩:=h;have d:r=[]:=d;subst d;exact u6 f
 |m::m2::b,a,h =>
  have e:=h;obtain⟨v,r,rfl,f,v2,r2,rfl,h3,h4⟩:=h;rw[dif_neg (by simp)];exact⟨_,rfl,by simpa using e⟩
theorem aI1{S0:V->Prop}{w:T}{m:MV}{v:J}:∀(r:MRes),r.sat (.ret m)->Rep (AO S0) w m v->r.holds (AO S0) w (.returned v)
 |.ret m',h,a=>yE (nb:=0) ⟨λ_ h=>h,λ_ h=>h,λi hi=>by omega⟩ h a
 |.pan _,h,_=>h.elim
 |.br b x y,h,a=>by
  simp only[AH,Br]at h;simp only[DG];cases b with
  |true=>exact aI1 x h a
  |false=>exact aI1 y h a
theorem aI0{S0:V->Prop}{w:T}{m:MV}{v:J}:∀(r:MRes),r.sat (.pan m)->Rep1 (AO S0) w m v->r.holds (AO S0) w (.panicked [{ v,recovered:=false }])
 |.ret _,h,_=>h.elim
 |.pan m',h,a=>by
  refine⟨v,rfl,?_⟩;have h:lO 0 m m':=h;unfold lO at h;split at h
  .trivial
  .split at h
   .have:RepC (AO S0) w (.tup _) [v]:=(bC rfl (by simp)).1 a;exact this.elim
   .exact h.elim
  .exact aHL (nb:=0) ⟨λ_ h=>h,λ_ h=>h,λi hi=>by omega⟩ h a
 |.br b x y,h,a=>by
  simp only[AH,Br]at h;simp only[DG];cases b with
  |true=>exact aI0 x h a
  |false=>exact aI0 y h a
theorem iN{c:Ctx}{w:T}:∀(a:X MV) (b:X J) (k:V),RepAll c w a b->∀t,(t<k->aW t (dT k a)= .any)/\(k<=t->Rep c w (aW t (dT k a)) (b.getD (t-k) undef))
 |[],b,k,h,t=>⟨λ_=>rfl,λ_=>trivial⟩
 |m::a,b,k,h,t=>by
  obtain⟨v,r,rfl,h1,d⟩:=h;obtain⟨ih1,ih2⟩:=iN a r (k+1) d t
  grind [dT,aW,AJ,u6]
theorem iO{c:Ctx}{w:T}:∀(b:X MV) (a:X J),RepAll c w b a->a.length=b.length
 |[],a,h=>by have h:a=[]:=h;simp[h]
 |m::b,a,h=>by
  obtain⟨v,r,rfl,_,d⟩:=h;simp[iO b r d]
theorem aM{P:O}(u:P.follows .mixedOrders=FR){f:F9}{n:F8}(J:P.funcs[f]? =FT n)(spec:aG)(o:∀g p r,spec g=FT (p,r)->p.holds->∃E:Env P,aJ E n g r.sat)(S:V->Prop)(w:T)(g:X MV)(args:N FZ)(p:OProp)(r:MRes)(G:spec g=FT (p,r))(z:p.holds)(L:∀b,S b->b<w.heap.size)(M:GW S w)(F:RepAll (AQ S) w g args.toList):Calls P f args w λe w'=>Ext w w'/\r.holds (AO S) w' e:=by
 obtain⟨E,h⟩:=o g p r G z;unfold aJ at h;split at h
 .rename_i c q;cases A:g.length.ble n.ntmps with
  |false=>rw[A]at h;exact h.elim
  |true =>
   rw[A,Z6]at h;have hle:g.length<=n.ntmps:=CT A;have x:=iO _ _ F;simp only[BT]at x;refine calls_of_wp J q (bD (S0:=S) (w0:=⟨w,λ_=>F7,λ_ _ _=>F7, []⟩) u c _ _ (cJ S [] (λ_=>F7) (λ_=>0) (λ_=>⟨0,0⟩)) _ w _ h ⟨⟨⟨rfl,rfl,Z0 _,λ_ _ _=>rfl,λ_ _=>rfl,rfl,Z0 _⟩,λb q=>⟨L b q,id⟩,⟨M,λ_ _ h=>h⟩,λb=>BV,λb=>BV,λi j k=>k.elim,λi k=>k.elim,λi b k=>k.elim,λ_ _ _ h=>h.elim⟩,λt=>?_,?_,rfl,λ_ _ _ h=>h.elim⟩ (λe s' c' a' w' a d=>?_) (λm v w' a' a y H K=>?_))
   .have I:Keeps (AQ S) (cJ S [] (λ_=>F7) (λ_=>0) (λ_=>⟨0,0⟩)) w w :=
     ⟨λb _ q=>q.elim id (λ⟨i,_,k,_⟩=>k.elim),λb _ ⟨i,_,k,_⟩=>k.elim,λ_ h=>h.elim,λ_ _ _=>rfl,λ_ _ _=>rfl⟩
    have:=((iN g args.toList 0 F t).2 (Z9 _)).keep I;rw[CM]at this;have e:(args++AK (n.ntmps-args.size) undef).getD t undef=args.toList.getD t undef:=by
     simp only[AB,BO,AV,BN]
     grind
    rw[e];exact this
   .simp;omega
   .have fin:(match jH P s' n.results.toList with|some (p,l)=>nK p <|r.sat (.ret (uX l))|none=>aJp s')->∃v,(results n a'.tmps).run P w'= .ok v w'/\r.holds (AO S) w' (.returned v):=by
     intro a;split at a
     .rename_i p l s;obtain⟨z,a⟩:=oand_holds.1 a;obtain⟨vs,hvs,D⟩:=sE d _ p l s z;refine⟨_,?_,aI1 r a (sS D)⟩
      simp_all [kM,BS]
     .exact a.elim
    cases e with
    |normal =>
     obtain⟨v,C,B⟩:=fin a;exact⟨d.defers,v,C,d.mem.ext.plain,B⟩
    |ret =>
     obtain⟨v,C,B⟩:=fin a;exact⟨d.defers,v,C,d.mem.ext.plain,B⟩
    |exit id=>exact a.elim
   .exact⟨K,y.ext.plain,aI0 r a H⟩
 .exact h.elim
theorem uP{nb:V}:∀(l:X Box) (l':X BC),aC1 nb l l'->∀(i:V) bc,aR l' i=FT bc->∃b,aR l i=FT b/\b.fz=Aa/\1<=bc.wd/\aBA nb b.c bc
 |l, [],_,i,bc,h=>by simp[aR]at h
 |[],_::_,h,_,_,_=>h.elim
 |b::r,c::l,h,i,bc,hi=>by
  obtain⟨d,f⟩:=h;cases a:(b.fz ||c.wd.beq 0)with
  |true=>rw[a]at d;exact d.elim
  |false =>
   rw[a,Z5]at d;simp only[CX]at a;cases i with
   |zero =>
    simp only[aR,Z1]at hi;subst hi;refine⟨b,rfl,a.1,?_,d⟩;have:=a.2;rcases D2 c.wd with e|e
    .simp_all
    .exact e
   |succ i=>exact uP r l f i bc hi
theorem aKB{nb:V}{c c':Ctx}{w:T}(q:∀b,c.S b->c'.S b){x y:BC}{arr:N J}(o:1<=y.wd)(h:aBA nb x y)(r:gY c' w x arr):gY c w y arr:=by
 cases x with
 |one m=>cases y<;>first|(simp[BC.wd]at o;done)|exact h.elim
 |arr n l =>
  cases y with
  |one m'=>exact h.elim
  |rows _ _ _=>exact h.elim
  |arr k' l' =>
   simp only[aBA]at h;cases a:H (n=k')with
   |false=>rw[a]at h;exact h.elim
   |true =>
    rw[a,Z6]at h;simp only[decide_eq_true_eq]at a;subst a;subst h;exact r
 |rows wd len f =>
  cases y with
  |one m'=>exact h.elim
  |arr k l=>exact h.elim
  |rows wd' len' f' =>
   simp only[aBA]at h;cases a:wd.beq wd' with
   |false=>rw[a]at h;exact h.elim
   |true =>
    rw[a,Z6]at h;simp only[AJ]at a;obtain⟨rfl,p⟩:=h;subst a;intro i d;obtain⟨e,q1,j,g⟩:=r i d;exact⟨e,q1,p.h i d _ _ _ (B3 (⟨λb _=>q b,λ_ _ _=>trivial,λ_ h=>h.elim,λ_ _ _=>rfl,λ_ _ _=>rfl⟩:Keeps c'.elem c.elem w w) (f i) e j),g⟩
theorem aTB{P:FV}(I:P.follows .mixedOrders=FR){f:F9}{A:F8}(hf:P.funcs[f]? =FT A)(spec:FY MV->FY BC->F4 (OProp×FY BC))(B:∀D bcs p bcs',spec D bcs=FT (p,bcs')->p.holds->bcs'.length=bcs.length/\∃E:Env P,aGg E A D bcs bcs'):MOk P f spec:=by
 intro X c w bcs bcs' D args p L M d G V;obtain⟨q,E,h⟩:=B D bcs p bcs' L M;unfold aGg at h;split at h
 .rename_i cd n;cases K:(D.length.ble A.ntmps&&A.results.toList.length.beq 0&&bcs.length.blt 1048576)with
  |false=>rw[K]at h;exact h.elim
  |true =>
   rw[K,Z6]at h;simp only[Z3,FF,AJ,BA]at K;obtain⟨⟨hle,s⟩,C⟩:=K;have s:A.results=#[]:=by
    simp_all
   have J:=iO _ _ V;simp only[BT]at J;have H:∀i,aR (bcs.map (λb=>(⟨Aa,b⟩:Box))) i=(aR bcs i).map (λb=>⟨Aa,b⟩):=λi=>by simp only[bY,List.getElem?_map]
   have o : ∀i, c.live i -> ∃bc, aR bcs i = FT bc := λi l => ⟨bcs[i]'(d.ind i l), by rw[bY]; simp[d.ind i l]⟩
   let w0:Base:=⟨w,X,λi b z=>c.live i/\c.β i=b/\c.sz i=z, []⟩
   refine calls_of_wp hf n (bD (S0:=λb=>c.S b/\¬c.W b) (w0:=w0) I cd _ _ c _ w _ h ⟨⟨⟨rfl,rfl,Z0 _,λ_ _ _=>rfl,λ_ _=>rfl,rfl,Z0 _⟩,λb n=>⟨d.lt b n.1,λy=>n.2 ((d.X b).1 y)⟩,⟨G.sub λb n=>n.1,λg hg y=>(G g hg).1 (d.WS _ ((d.X _).1 y))⟩,λb=>?_,λb=>?_,d.inj,λi l=>?_,λi b l n=>?_,λ_ _ _ h=>h⟩,λt=>?_,?_,rfl,λi b z M=>oE C (d.ind i M.1)⟩ (λe s' c' a' w' r a=>?_) (λm v w' a' r hext hr hd=>r.elim))
   .constructor
    .grind
    .rintro(L|hw)
     .exact L.1
     .exact d.WS b hw
   .rw[d.hW b]
    grind
   .obtain⟨bc,k⟩:=o i l;obtain⟨arr,ty,q1,_⟩:=d.box i bc l k;exact⟨.inr ((d.X _).2 ((d.hW _).2 ⟨i,l,rfl⟩)),(BQ.1 q1).1,by rw[List.length_map];exact d.ind i l⟩
   .rw[H]at n;obtain⟨bc,k⟩:=o i l;rw[k]at n;simp only[Option.map_some,Z1]at n;subst n;exact d.box i bc l k
   .have:=(iN D args.toList 0 V t).2 (Z9 _);rw[CM]at this;have e:(args++AK (A.ntmps-args.size) undef).getD t undef=args.toList.getD t undef:=by
     simp only[AB,BO,AV,BN]
     grind
    rw[e];exact this
   .simp;omega
   .have u:aC1 bcs.length s'.bx bcs'->a'.defers=[]/\∃v,(results A a'.tmps).run P w'= .ok v w'/\(C8 v= .returned (.tuple #[])/\ExtB ⟨w,X,λ_ _ _=>F7, []⟩ w'/\bcs'.length=bcs.length/\∀i bc,c.live i->aR bcs' i=FT bc->BoxRep c w' i ⟨Aa,bc⟩):=by
     intro r;have y:=uP _ _ r;refine⟨a.defers,.tuple #[],?_,rfl,⟨a.mem.ext.os,a.mem.ext.output,a.mem.ext.size,a.mem.ext.block,a.mem.ext.frz,a.mem.ext.tape,a.mem.ext.dr⟩,q,λi bc l k=>?_⟩
     .rw[kM,s];simp
     .obtain⟨b,q1,q2,q3,U⟩:=y i bc k;obtain⟨p1,p2,p3⟩:=a.mem.pin i (c.β i) (c.sz i) ⟨l,rfl,rfl⟩;obtain⟨arr,ty,T,R,Q,r4⟩:=a.mem.box i b p1 q1;rw[p2]at T;rw[p3]at R Q;refine⟨arr,ty,T,R,by rw[Q,<-aOG U],aKB (λx y=>?_) q3 U r4⟩;by_cases hw:c.W x
      .obtain⟨j,F,O⟩:=(d.hW x).1 hw;have N:j<bcs'.length:=by rw[q];exact d.ind j F
       obtain⟨b2,t1,t2,_⟩:=uP _ _ r j bcs'[j] (by rw[bY];simp[N]);obtain⟨Z,Y,_⟩:=a.mem.pin j (c.β j) (c.sz j) ⟨F,rfl,rfl⟩;exact(a.mem.hS x).2 (.inr ((a.mem.hW x).2 ⟨j,b2,Z,t1,t2,Y.trans O⟩))
      .exact(a.mem.hS x).2 (.inl ⟨y,hw⟩)
    cases e with
    |normal=>exact u r
    |ret=>exact u r
    |exit id=>exact r.elim
 .exact h.elim
theorem aTv{P:FV}(y:P.follows .mixedOrders=FR){f:F9}{s:F8}(V:P.funcs[f]? =FT s)(spec:FY MV->F4 (OProp×FY Z))(u:∀o p l,spec o=FT (p,l)->p.holds->∃E:Env P,aOw E s o l)(S:FW->Prop)(w:FX)(o:FY MV)(args:F6 FZ)(p:OProp)(l:FY Z)(R:spec o=FT (p,l))(T:p.holds)(W:∀b,S b->b<w.heap.size)(K:GW S w)(O:RepAll (AQ S) w o args.toList):Calls P f args w λe w'=>Ext w w'/\∃b arr ty cap,e= .returned (.slice (FT ⟨b,0,F0⟩) l.length cap)/\w.heap.size<=b/\
   w'.heap[b]? =FT (.cells arr ty (0,0))/\arr.size=cap/\l.length<=cap/\∀(j:FW) n,l[j]? =FT n->arr[j]? =FT (.int .u32 n):=by
 obtain⟨E,h⟩:=u o p l R T;unfold aOw at h;split at h
 .rename_i c r;cases C:o.length.ble s.ntmps with
  |false=>rw[C]at h;exact h.elim
  |true =>
   rw[C,Z6]at h;have hle:o.length<=s.ntmps:=CT C;have z:=iO _ _ O;simp only[BT]at z;refine calls_of_wp V r (bD (S0:=S) (w0:=⟨w,λ_=>F7,λ_ _ _=>F7, []⟩) y c _ _ (cJ S [] (λ_=>F7) (λ_=>0) (λ_=>⟨0,0⟩)) _ w _ h ⟨⟨⟨rfl,rfl,Z0 _,λ_ _ _=>rfl,λ_ _=>rfl,rfl,Z0 _⟩,λb r=>⟨W b r,id⟩,⟨K,λ_ _ h=>h⟩,λb=>BV,λb=>BV,λi j q=>q.elim,λi q=>q.elim,λi b q=>q.elim,λ_ _ _ h=>h.elim⟩,λt=>?_,?_,rfl,λ_ _ _ h=>h.elim⟩ (λe s' c' a' w' d g=>?_) (λm v w' a' d _ _ _=>d.elim))
   .have U:Keeps (AQ S) (cJ S [] (λ_=>F7) (λ_=>0) (λ_=>⟨0,0⟩)) w w :=
     ⟨λb _ r=>r.elim id (λ⟨i,_,q,_⟩=>q.elim),λb _ ⟨i,_,q,_⟩=>q.elim,λ_ h=>h.elim,λ_ _ _=>rfl,λ_ _ _=>rfl⟩
    have:=((iN o args.toList 0 O t).2 (Z9 _)).keep U;rw[CM]at this;have e:(args++AK (s.ntmps-args.size) undef).getD t undef=args.toList.getD t undef:=by
     simp only[AB,BO,AV,BN]
     grind
    rw[e];exact this
   .simp;omega
   .have fin:(match s.results.toList with|[.tmp t]=>aMK s' l (aW t s'.tm)|_=>F7)->∃v,(results s a'.tmps).run P w'= .ok v w'/\(Ext w w'/\∃b arr ty cap,C8 v= .returned (.slice (FT ⟨b,0,F0⟩) l.length cap)/\w.heap.size<=b/\
      w'.heap[b]? =FT (.cells arr ty (0,0))/\arr.size=cap/\l.length<=cap/\∀(j:FW) n,l[j]? =FT n->arr[j]? =FT (.int .u32 n)):=by
     intro d;split at d
     .rename_i t hres;have N:=g.tm t;unfold aMK at d;split at d
      .rename_i i off len H;rw[H]at N;split at d
       .rename_i b r;split at d
        .rename_i k l' J;cases A:(!b.fz&&decide (k= .u32))with
         |false=>rw[A]at d;exact d.elim
         |true =>
          rw[A,Z6]at d;obtain⟨rfl,G,hpos,htk⟩:=d;simp only[Z3,decide_eq_true_eq]at A;obtain⟨_,rfl⟩:=A;obtain⟨a,cap,x,B,Y⟩:=b6 N rfl (by simp) rfl;simp only[C5,and_true]at x;rcases Y with ⟨rfl,D,X⟩|⟨_,D,_⟩
          .obtain⟨arr,ty,q1,Q,M,L⟩:=g.mem.box i b D r;rw[J]at M L;have F:(c'.sz i).wd=1:=M;rw[F]at X;have I:=(g.mem.fresh i D).1;refine⟨a'.tmps.getD t undef,?_,g.mem.ext.plain,c'.β i,arr,ty,cap,by rw[x,G],I.elim id (λh=>h.elim),q1,by rw[Q];omega,by omega,λj n hj=>?_⟩
           .simp_all [kM,BS,aIb]
           .refine L j n ?_
            grind
          .omega
        .exact d.elim
       .exact d.elim
      .exact d.elim
     .exact d.elim
    cases e with
    |normal =>
     obtain⟨v,x,B⟩:=fin d;exact⟨g.defers,v,x,B⟩
    |ret =>
     obtain⟨v,x,B⟩:=fin d;exact⟨g.defers,v,x,B⟩
    |exit id=>exact d.elim
 .exact h.elim
theorem uK{P:O}(d:P.follows .mixedOrders=FR){f:F9}{g:F8}(t:P.funcs[f]? =FT g)(spec:aG)(c:∀a p r,spec a=FT (p,r)->p.holds->∃ms',lO.leVs 0 a ms'/\∃E:Env P,aJ E g ms' r.sat)(S:V->Prop)(w:T)(a:X MV)(args:N J)(p:OProp)(r:MRes)(q:spec a=FT (p,r))(s:p.holds)(v:∀b,S b->b<w.heap.size)(n:GW S w)(u:RepAll (AQ S) w a args.toList):Calls P f args w λe w'=>Ext w w'/\r.holds (AO S) w' e:=by
 obtain⟨ms',l,E,x⟩:=c a p r q s;have k:Cuts 0 (AQ S) (AQ S):=⟨λ_ h=>h,λ_ h=>h,λi hi=>by omega⟩;exact aM d t (λm=>FT (FT (∃E:Env P,aJ E g m r.sat),r)) (λm p2 r2 o j=>by
  simp only[Z1,Z2]at o;obtain⟨rfl,rfl⟩:=o;exact j) S w ms' args _ r rfl ⟨E,x⟩ v n (rI k a ms' _ l u)
theorem aU6{P:O}{S0:V->Prop}{w0:Base}{w:T}{s:MS}{c:Ctx}{a:Act}(h:St S0 w0 s c a w)(l:X ResultVar)(p:OProp)(j:X MV)(d:aU5 s l=FT (p,j))(k:p.holds) :
  ∃g,(l.mapM (aIb a.tmps)).run P w= .ok g w/\RepAll (AQ c.S) w j g:=by
 unfold aU5 at d;split at d
 .rename_i t;split at d
  .rename_i ms' q z f;split at d
   .simp only[Z1,Z2]at d;obtain⟨rfl,rfl⟩:=d;refine⟨[a.tmps.getD t undef],by simp[aIb],?_⟩;exact oS (S':=c.S) (λb e=>e) h.mem.box (λi b m e n=>h.mem.frozen i b m e n) _ ⟨_,_, []⟩ f k (by simp) _ ⟨h.tm t,trivial⟩
   .simp at d
  .simp at d
 .simp at d
theorem bC0{P:FV}(hmix:P.follows .mixedOrders=FR){f:F9}{J:F8}(hf:P.funcs[f]? =FT J){wd:FW}(spec:FY MV->FW->(FW->MV)->F4 (OProp×FW×(FW->MV)×MV))(N:∀I n g p n' g' m,spec I n g=FT (p,n',g',m)->p.holds->∃E:Env P,nP E J wd I n g n' g' m):POk P f wd spec:=by
 intro X c w n n' g g' I args p m hs Q T k hl0 Y ha;obtain⟨E,h⟩:=N I n g p n' g' m hs Q;unfold nP at h;split at h
 rotate_left
 .exact h.elim
 rename_i cd B;cases hl:(I.length+1).ble J.ntmps with
 |false=>rw[hl]at h;exact h.elim
 |true =>
 rw[hl,Z6]at h;have hle:I.length+1<=J.ntmps:=CT hl;have hlen:=iO _ _ ha;simp only[BT,A7]at hlen
 let w0:Base:=⟨w,X,λi b z=>i=0/\b=c.β 0/\z=c.sz 0, []⟩
 have u:∀i,c.live i->∃bc,aR [BC.one (.st [.bs 1 0 n]),BC.rows wd n g] i=FT bc:=λi j=>by
  have:=k.ind i j
  match i,this with
  |0,_=>exact⟨_,rfl⟩
  |1,_=>exact⟨_,rfl⟩
 have hnth:∀i bc,aR [BC.one (.st [.bs 1 0 n]),BC.rows wd n g] i=FT bc->aR [(⟨Aa,.one (.st [.bs 1 0 n])⟩:Box),⟨Aa,.rows wd n g⟩] i=FT ⟨Aa,bc⟩:=λi bc h=>by
  match i,h with
  |0,h=>simp only[aR,Z1]at h⊢;rw[h]
  |1,h=>simp only[aR,Z1]at h⊢;rw[h]
  |i+2,h=>simp[aR]at h
 refine calls_of_wp hf B (bD (S0:=λb=>c.S b/\¬c.W b) (w0:=w0) hmix cd _ _ c _ w _ h ⟨⟨⟨rfl,rfl,Z0 _,λ_ _ _=>rfl,λ_ _=>rfl,rfl,Z0 _⟩,λb B=>⟨k.lt b B.1,λO=>B.2 ((k.X b).1 O)⟩,⟨Y.sub λb B=>B.1,λg hg O=>(Y g hg).1 (k.WS _ ((k.X _).1 O))⟩,λb=>?_,λb=>?_,k.inj,λi j=>?_,λi b j B=>?_,λi b z Q=>by obtain⟨rfl,rfl,rfl⟩:=Q;exact⟨hl0,rfl,rfl⟩⟩,λt=>?_,?_,rfl,λi b z Q=>by obtain⟨rfl,_⟩:=Q;exact oE (np:=1) (by decide) (by decide)⟩ (λe s' c' a' w' A d=>?_) (λm v w' a' A hext hr hd=>A.elim))
 .constructor
  .grind
  .rintro(hs|hw)
   .exact hs.1
   .exact k.WS b hw
 .rw[k.hW b]
  grind
 .obtain⟨bc,D⟩:=u i j;obtain⟨arr,ty,q1,_⟩:=k.box i bc j D;exact⟨.inr ((k.X _).2 ((k.hW _).2 ⟨i,j,rfl⟩)),(BQ.1 q1).1,k.ind i j⟩
 .obtain⟨bc,D⟩:=u i j;rw[hnth i bc D,Z1]at B;subst B;exact k.box i bc j D
 .have:=(iN (.bp 0 0::I) args.toList 0 ha t).2 (Z9 _);rw[CM]at this;have e:(args++AK (J.ntmps-args.size) undef).getD t undef=args.toList.getD t undef:=by
   simp only[AB,BO,AV,BN]
   grind
  rw[e];exact this
 .simp;omega
 .have H:aU4 J s' wd n' g' m->a'.defers=[]/\∃v,(results J a'.tmps).run P w'= .ok v w'/\(∃v2 arr0 ty0 a cap,C8 v= .returned v2/\Rep (AQ λx=>(c.S x/\(c.live 1->x≠c.β 1))\/a=FT ⟨x,0,F0⟩) w' m v2/\ExtB ⟨w,X,λ_ _ _=>F7, []⟩ w'/\
   w'.heap[c.β 0]? =FT (.cells arr0 ty0 (0,0))/\arr0.size=(c.sz 0).n/\arr0[0]? =FT (.slice a n' cap)/\n'<=cap/\
   ((a=F0/\n'=0/\cap=0)\/∃b arr ty,a=FT ⟨b,0,F0⟩/\((c.live 1/\b=c.β 1)\/w.heap.size<=b)/\w'.heap[b]? =FT (.cells arr ty (0,0))/\arr.size=cap*wd/\
    gY (AQ λx=>(c.S x/\(c.live 1->x≠c.β 1))\/x=b) w' (.rows wd n' g') arr)):=by
   intro A;unfold aU4 at A;split at A
   rotate_left
   .exact A.elim
   rename_i pr l hres;obtain⟨hpr,G,q,hm⟩:=oand_holds.1 A;obtain⟨vs,hvs,hrs⟩:=aU6 (P:=P) d _ pr l hres hpr;obtain⟨p1,p2,p3⟩:=d.mem.pin 0 (c.β 0) (c.sz 0) ⟨rfl,rfl,rfl⟩;split at G
   rotate_left
   .exact G.elim
   rename_i b0 M;split at G
   rotate_left
   .exact G.elim
   rename_i x O;cases C:b0.fz with
   |true=>rw[C]at G;exact G.elim
   |false =>
   rw[C,Z5]at G;split at q
   rotate_left
   .exact q.elim
   rename_i b1 L;split at q
   rotate_left
   .exact q.elim
   rename_i R n1 g1 hx1;cases o:(b1.fz || !(R.beq wd))with
   |true=>rw[o]at q;exact q.elim
   |false =>
   rw[o,Z5]at q;simp only[CX,Bool.not_eq_false',AJ]at o;obtain⟨o,rfl⟩:=o;obtain⟨hn1,hg1⟩:=q;obtain⟨arr0,ty0,r1,r2,r3,r4⟩:=d.mem.box 0 b0 p1 M;rw[p2]at r1;rw[p3]at r2;rw[O]at r4;obtain⟨cs,r4,r5⟩:=r4;have kc:Cuts s'.bx.length c' c':=⟨λ_ h=>h,λ_ h=>h,λi _ h=>⟨h,rfl,rfl⟩⟩;obtain⟨xa,ya,rfl,⟨a,cap,rfl,hcap,U⟩,K⟩:=oB x _ _ c' c' cs kc G r4;have K:ya=[]:=K;subst K;have V:m.isTup=Aa:=by cases m<;>first|rfl|(simp[FP]at T)
   have Z:∀y,((c.S y/\(c.live 1->y≠c.β 1))\/a=FT ⟨y,0,F0⟩)->c'.S y:=by
    rintro y (⟨y1,y2⟩|y1)
    .by_cases hw:c.W y
     .obtain⟨i,j,e⟩:=(k.hW _).1 hw;have s:=k.ind i j
      match i,s,j,e with
      |0,_,_,e=>exact(d.mem.hS y).2 (.inr ((d.mem.hW y).2 ⟨0,b0,p1,M,C,p2.trans e⟩))
      |1,_,j,e=>exact FU e.symm (y2 j)
     .exact(d.mem.hS y).2 (.inl ⟨y1,hw⟩)
    .rcases U with ⟨q,F,h3⟩|⟨q,F,h3⟩
     .rw[q]at y1;simp only[Z1,Addr.mk.injEq]at y1;exact(d.mem.hS y).2 (.inr ((d.mem.hW y).2 ⟨1,b1,F,L,o,y1.1⟩))
     simp_all
   have hrm:=yE (⟨λ_ h=>h,λ_ h=>h,λi j=>by omega⟩:Cuts 0 (AQ c'.S) (AQ c'.S)) hm (sS hrs);have hrm2:Rep (AQ λx=>(c.S x/\(c.live 1->x≠c.β 1))\/a=FT ⟨x,0,F0⟩) w' m _:=(bF V).2 (DF (c:=AQ c'.S) Z (λe=>by simp at e) T ((bF V).1 hrm));refine⟨d.defers,_,by rw[kM,BS];simp only[Sem.run_bind,Sem.run_map,hvs,Result.andThen,Sem.run_pure],_,arr0,ty0,a,cap,rfl,hrm2,⟨d.mem.ext.os,d.mem.ext.output,d.mem.ext.size,d.mem.ext.block,d.mem.ext.frz,d.mem.ext.tape,d.mem.ext.dr⟩,r1,r2,r5 0 _ rfl,hcap,?_⟩;rcases U with ⟨q,F,h3⟩|⟨q,F,h3⟩
   .obtain⟨arr,ty,q1,q2,q3,q4⟩:=d.mem.box 1 b1 F L;have hf:=d.mem.fresh 1 F;rw[hx1]at q3 q4;have q3:(c'.sz 1).wd=R:=q3;refine .inr ⟨c'.β 1,arr,ty,q,?_,q1,by rw[q2,<-h3,BE,q3],λr hr=>?_⟩
    .rcases hf.1 with hf|hf
     .exact .inr hf
     .obtain⟨i,j,e⟩:=(k.hW _).1 ((k.X _).1 hf);have s:=k.ind i j
      match i,s,j,e with
      |0,_,_,e=>exact FU (d.mem.inj 0 1 p1 F (p2.trans e)) (by decide)
      |1,_,j,e=>exact .inl ⟨j,e.symm⟩
    .obtain⟨cs2,t1,t2,t3⟩:=q4 r (A9 hr hn1);refine⟨cs2,t1,B3 (⟨λy _ hy=>?_,λ_ _ h=>h,λ_ h=>h.elim,λ_ _ _=>rfl,λ_ _ _=>rfl⟩:Keeps c'.elem (AQ λx=>(c.S x/\(c.live 1->x≠c.β 1))\/x=c'.β 1).elem w' w') _ _ (hg1.h r hr _ _ _ t2),t3⟩;rcases hy with ⟨y1,y2⟩|y1
     .by_cases hw:c.W y
      .obtain⟨i,j,e⟩:=(k.hW _).1 hw;have s:=k.ind i j
       match i,s,j,e with
       |0,_,_,e=>exact(d.mem.hS y).2 (.inr ((d.mem.hW y).2 ⟨0,b0,p1,M,C,p2.trans e⟩))
       |1,_,j,e=>exact FU e.symm (y2 j)
      .exact(d.mem.hS y).2 (.inl ⟨y1,hw⟩)
     .exact(d.mem.hS y).2 (.inr ((d.mem.hW y).2 ⟨1,b1,F,L,o,y1.symm⟩))
   .simp_all
  cases e with
  |normal=>exact H A
  |ret=>exact H A
  |exit id=>exact A.elim
mutual
def MV.facts:MV->Prop
 |.big z n=>z.natAbs<2^n
 |.st ms=>fL ms
 |.ref m=>m.facts
 |.fn _ caps=>fL caps
 |_=>I
def fL:X MV->Prop
 |[]=>I
 |m::ms=>m.facts/\fL ms
end
mutual
theorem RepC.facts{c:Ctx}{w:T}:∀(m:MV) (vs:X J),RepC c w m vs->m.facts
 |.big z n,vs,h=>by obtain⟨s,_,h2,_⟩:=h;exact h2
 |.st ms,vs,h=>by simp only[MV.facts];exact RepCs.facts ms vs h
 |.ref m,vs,h=>by obtain⟨b,off,cs,_,_,h3,_⟩:=h;simp only[MV.facts];exact RepC.facts m cs h3
 |.fn f caps,vs,h=>by obtain⟨cs,_,h2,_⟩:=h;simp only[MV.facts];exact RepCs.facts caps cs h2
 |.any,_,_=>trivial
 |.junk _,_,_=>trivial
 |.bool _,_,_=>trivial
 |.int _ _,_,_=>trivial
 |.val _,_,_=>trivial
 |.ws _,_,_=>trivial
 |.sl _ _ _,_,_=>trivial
 |.bp _ _,_,_=>trivial
 |.br _ _ _,_,_=>trivial
 |.bs _ _ _,_,_=>trivial
 |.tup _,_,_=>trivial
 |.iface _ _,_,_=>trivial
 |.emp,_,_=>trivial
theorem RepCs.facts{c:Ctx}{w:T}:∀(ms:X MV) (vs:X J),RepCs c w ms vs->fL ms
 |[],_,_=>trivial
 |m::ms,vs,h=>by
  obtain⟨x,y,_,h2,h3⟩:=h;exact⟨RepC.facts m x h2,RepCs.facts ms y h3⟩
end
theorem RepAll.facts{c:Ctx}{w:T}:∀(a:X MV) (d:X J),RepAll c w a d->fL a
 |[],_,_=>trivial
 |m::a,d,h=>by
  obtain⟨v,r,_,b,g⟩:=h;refine⟨?_,RepAll.facts a r g⟩;by_cases e:m= .any
  .subst e;trivial
  .cases f:m.isAgg with
   |true=>rw[fH f]at b;obtain⟨cs,_,q⟩:=b;exact RepC.facts m _ q
   |false=>rw[bC f e]at b;exact RepC.facts m _ b
theorem aO{P:O}(d:P.follows .mixedOrders=FR){f:F9}{g:F8}(n:P.funcs[f]? =FT g)(spec:aG)(c:∀a p r,spec a=FT (p,r)->p.holds->fL a->∃E:Env P,aJ E g a r.sat)(S:V->Prop)(w:T)(a:X MV)(args:N J)(p:OProp)(r:MRes)(k:spec a=FT (p,r))(l:p.holds)(o:∀b,S b->b<w.heap.size)(q:GW S w)(i:RepAll (AQ S) w a args.toList):Calls P f args w λe w'=>Ext w w'/\r.holds (AO S) w' e :=
 aM d n (λm=>FT (FT (∃E:Env P,aJ E g m r.sat),r)) (λm p2 r2 j h=>by
  simp only[Z1,Z2]at j;obtain⟨rfl,rfl⟩:=j;exact h) S w a args _ r rfl (c a p r k l (RepAll.facts a _ i)) o q i
abbrev bBL(w:T):Base:=⟨w,λ_=>z,λ_ _ _=>z, []⟩
theorem St.start{S:V->Prop}{w:T}{d:X MV}{args:N J}{n:V}(l:∀b,S b->b<w.heap.size)(m:GW S w)(g:RepAll (AQ S) w d args.toList)(hle:d.length<=n) :
  St S (bBL w) ⟨n,dT 0 d, [],0⟩ (cJ S [] (λ_=>z) (λ_=>0) (λ_=>⟨0,0⟩)) { tmps:=args++AK (n-args.size) undef,defers:=[] } w:=by
 have c:=iO _ _ g;simp only[BT]at c;refine⟨⟨⟨rfl,rfl,Z0 _,λ_ _ _=>rfl,λ_ _=>rfl,rfl,Z0 _⟩,λb f=>⟨l b f,id⟩,⟨m,λ_ _ h=>h⟩,λb=>BV,λb=>BV,λi j a=>a.elim,λi a=>a.elim,λi b a=>a.elim,λ_ _ _ h=>h.elim⟩,λt=>?_,?_,rfl,λ_ _ _ h=>h.elim⟩
 .have k:Keeps (AQ S) (cJ S [] (λ_=>z) (λ_=>0) (λ_=>⟨0,0⟩)) w w :=
   ⟨λb _ f=>f.elim id (λ⟨i,_,a,_⟩=>a.elim),λb _ ⟨i,_,a,_⟩=>a.elim,λ_ h=>h.elim,λ_ _ _=>rfl,λ_ _ _=>rfl⟩
  have:=((iN d args.toList 0 g t).2 (Z9 _)).keep k;rw[CM]at this;have e:(args++AK (n-args.size) undef).getD t undef=args.toList.getD t undef:=by
   simp only[AB,BO,AV,BN];split
   .rfl
   .rename_i hge;rw[CC,Array.getElem?_eq_none (by omega:args.size<=t)];split<;>rfl
  rw[e];exact this
 .simp;omega
theorem Mem.rebase{S0:V->Prop}{w0:Base}{w:T}{bx:FY Box}{c:Ctx}(h:Mem S0 w0 bx c w)(pin:V->V->Sz->Prop)(d:FY Deferred)(a:∀i b z,pin i b z->c.live i/\c.β i=b/\c.sz i=z) :
  Mem S0 ⟨w0.w,w0.X,pin,d⟩ bx c w :=
 ⟨⟨h.ext.os,h.ext.output,h.ext.size,h.ext.block,h.ext.frz,h.ext.tape,h.ext.dr⟩,h.S0lt,h.gl,h.hS,h.hW,h.inj,h.fresh,h.box,a⟩
theorem St.defer{S0:V->Prop}{w0:Base}{w:T}{s:MS}{c:Ctx}{a:Act}(h:St S0 w0 s c a w)(b:FY Deferred):St S0 ⟨w0.w,w0.X,w0.pin,b⟩ s c { a with defers:=b } w :=
 ⟨h.mem.rebase w0.pin b h.mem.pin,h.tm,h.size,rfl,h.np⟩
theorem pQ{P:O}{ops:N W}{Q:Exit->Act->T->Prop}{o:W}{rest:X W}{a:Act}{w:T}{v:J}(c:o.guard=F0)(b:(execOp a.eval o).run P w= .ok (.value v) w)(h:∀a',a'=a.put o.dst v->wpList P ops Q rest a' w):wpList P ops Q (o::rest) a w:=by
 unfold wpList;rw[F2 (by simp[AC,c])];refine .inl ?_;unfold BG;rw[b,A3];exact h _ rfl
theorem eT{P:O}{E:Env P}{ops:N W}{S0:V->Prop}{w0:Base}{Q:Exit->Act->T->Prop}{o:W}{rest:X W}{a:Act}{w:T}{s:MS}{c:Ctx}{p:OProp}{m:MV}(l:o.guard=F0)(r:lC E s o.op= .val p m)(j:p.holds)(d:St S0 w0 s c a w)(u:oY o.dst s.n=FR)(h:∀a',St S0 w0 (s.putO o.dst m) c a' w->wpList P ops Q rest a' w):wpList P ops Q (o::rest) a w:=by
 have HE:tO c w s a o.op.operands.toList:=mM λt _=>d.tm t;obtain⟨v,f,g⟩:=aHz r j HE d.mem.box d.mem.WS d.mem.gw (λi b k x q=>d.mem.frozen i b k x q);exact pQ l f λa' e=>h a' (e ▸ d.putO u g)
theorem aA6{P:O}{ops:N W}{Q:Exit->Act->T->Prop}{o:W}{rest:X W}{a:Act}{w:T}{d:Deferred}(c:o.guard=F0)(e:o.dst=F0)(b:(execOp a.eval o).run P w= .ok (.defer d) w)(h:wpList P ops Q rest { a with defers:=d::a.defers } w):wpList P ops Q (o::rest) a w:=by
 unfold wpList;rw[F2 (by simp[AC,c])];refine .inl ?_;unfold BG;rw[b,Oper.upon_defer,e];exact h
theorem tM{P:O}{ops:N W}{Q:Exit->Act->T->Prop}{o:W}{rest:X W}{a:Act}{w:T}{f:F9}{args:N J}{R:Ending->T->Prop}(i:o.guard=F0)(b:(execOp a.eval o).run P w= .ok (.enter f args) w)(j:Calls P f args w R)(c:∀v w',R (.returned v) w'->wpList P ops Q rest (a.put o.dst v) w')(d:∀chain w',R (.panicked chain) w'->Q (.panic chain) a w')(g:∀w',¬R .outgrown w'):wpList P ops Q (o::rest) a w:=by
 unfold wpList;rw[F2 (by simp[AC,i])];refine .inl ?_;unfold BG;rw[b,CL];refine j.mono λe w' h=>?_;cases e with
 |returned v=>exact c v w' h
 |panicked chain=>exact d chain w' h
 |outgrown=>exact(g w' h).elim
theorem ExtB.free{b:Base}{w':T}(h:ExtB b w')(c:∀k,¬b.X k):Ext b.w w':=⟨h.os,h.output,h.size,λk a=>h.block k a (c k),h.frz,h.tape,h.dr⟩
theorem St.results{P:O}{S0:V->Prop}{w0:Base}{w:T}{s:MS}{c:Ctx}{a:Act}(h:St S0 w0 s c a w){e:F8}{l:X MV}(f:jH P s e.results.toList=FT (F0,l)) :
  ∃v,(results e a.tmps).run P w= .ok v w/\Rep (AO S0) w (uX l) v:=by
 obtain⟨vs,b,d⟩:=sE h _ F0 l f trivial;refine⟨_,?_,sS d⟩;rw[kM,BS];simp only[Sem.run_bind,Sem.run_map,b,Result.andThen,Sem.run_pure]
theorem aGV{c:Ctx}{w:T}:∀(d:X MV) (i:X J),RepCs c w d i->(∀m∈d,m.isAgg=Aa)->RepAll c w d i
 |[],i,h,_=>h
 |m::d,i,h,n=>by
  obtain⟨a,b,rfl,j,p⟩:=h;have g:=n m (by simp);have f:=DE _ _ j;have k:∀d,m≠ .tup d:=by intro d e;subst e;exact j.elim
  rw[eZ g k]at f;obtain⟨v,rfl⟩:=CJ.1 f;refine⟨v,b,rfl,?_,aGV d b p λm o=>n m (by simp[o])⟩;by_cases l:m= .any
  .subst l;trivial
  .exact(bC g l).2 j
def wv:X Z->Z
 |[]=>0
 |x::r=>x+4294967296*wv r
def Wd(l:X Z):Prop:=∀x∈l,0<=x/\x<4294967296
theorem Wd.tail{x:Z}{l:X Z}(h:Wd (x::l)):Wd l:=λy a=>h y (by simp[a])
theorem Wd.head{x:Z}{l:X Z}(h:Wd (x::l)):0<=x/\x<4294967296:=h x (by simp)
theorem Wd.cons{x:Z}{l:X Z}(h:0<=x/\x<4294967296)(b:Wd l):Wd (x::l):=λy a=>by
 rcases A0.1 a with e|e
 .subst e;exact h
 .exact b y e
theorem Wd.nil:Wd []:=λ_ h=>by simp at h
theorem Wd.append{a b:X Z}(h:Wd a)(k:Wd b):Wd (a++b):=λx c=>(ED.1 c).elim (h x) (k x)
theorem Wd.take{l:X Z}(h:Wd l)(n:V):Wd (l.take n):=λx a=>h x (List.mem_of_mem_take a)
theorem Wd.drop{l:X Z}(h:Wd l)(n:V):Wd (l.drop n):=λx a=>h x (List.mem_of_mem_drop a)
theorem Wd.set{l:X Z}(h:Wd l)(n:V){x:Z}(b:0<=x/\x<4294967296):Wd (l.set n x):=λy a=>by
 rcases List.mem_or_eq_of_mem_set a with e|e
 .exact h y e
 .subst e;exact b
theorem Wd.replicate(n:V):Wd (G n 0):=λx hx=>by
 simp_all
theorem Wd.getD{l:X Z}(h:Wd l)(n:V):0<=l.getD n 0/\l.getD n 0<4294967296:=by
 rcases AM n l.length with hl|hl
 .rw[show l.getD n 0=l[n] by simp[hl]];exact h _ (List.getElem_mem _)
 simp_all
theorem bB:∀ {l:X Z},Wd l->0<=wv l
 |[],_=>BY _
 |x::r,h=>by
  have:=bB h.tail;have:=h.head;simp only[wv];omega
theorem gD:∀ {l:X Z},Wd l->wv l<4294967296^l.length
 |[],_=>by simp[wv]
 |x::r,h=>by
  have:=gD h.tail;have:=h.head
  grind [wv,A7,AN]
theorem eU:∀(a b:X Z),wv (a++b)=wv a+4294967296^a.length*wv b
 |[],b=>by simp[wv]
 |x::r,b=>by
  simp only[List.cons_append,wv,eU r b,A7,AN]
  grind
theorem gE(n:V):wv (G n 0)=0:=by
 induction n with
 |zero=>rfl
 |succ n ih=>simp[List.replicate_succ,wv,ih]
theorem gS{n:V}(h:n≠0):aA n=((n%4294967296:V):Z)::aA (n/4294967296):=by
 rw[aA];simp[h]
theorem aQ(n:V):Wd (aA n):=by
 induction n using Nat.strongRecOn with
 |ind n ih =>
  grind [bN,Wd.nil,gS,Wd.cons]
theorem iK(n:V):wv (aA n)=n:=by
 induction n using Nat.strongRecOn with
 |ind n ih =>
  grind [bN,gS,wv]
theorem cA{n:V}:aA n=[]↔n=0:=by
 grind [gS,bN]
theorem aAm:∀ {l:X Z},Wd l->(∀h:l≠ [],l.getLast h≠0)->aA (wv l).toNat=l
 |[],_,_=>by simp[wv,bN]
 |x::r,h,hl=>by
  have h0:=bB h.tail;have h1:=h.head;have ih:aA (wv r).toNat=r:=aAm h.tail (λhr=>by
   grind)
  grind [wv,bB,bN,gS]
theorem aED(n:V)(h:aA n≠ []):(aA n).getLast h≠0:=by
 induction n using Nat.strongRecOn with
 |ind n ih =>
  grind [cA,aA,gS,bN,List.getLast_cons]
theorem jK(k:V):(4294967296:V)^k=2^(32*k):=by rw[DB]
theorem eI{n k:V}(h:n<4294967296^k):(aA n).length<=k:=by
 induction k generalizing n with
 |zero =>
  grind [bN]
 |succ k ih =>
  grind [bN,gS,A7,Nat.div_lt_iff_lt_mul,BL]
theorem mZ(n:V):n<4294967296^(aA n).length:=by
 have h:=gD (aQ n)
 grind [iK,aA,CS]
theorem bS{n b:V}(h:n<2^b):(aA n).length<=b/32+1:=by
 refine eI (A9 h ?_);rw[jK];exact A1 (by omega) (by omega)
def Cn(l:X Z):Prop:=aA (wv l).toNat=l
theorem Cn.wd{l:X Z}(h:Cn l):Wd l:=by unfold Cn at h;rw[<-h];exact aQ _
theorem aJY(n:V):Cn (aA n):=by unfold Cn;rw[iK];simp
theorem Cn.pos{l:X Z}(h:Cn l):0<=wv l:=bB h.wd
def bl(n:V):V:=if n=0 then 0 else Nat.log2 n+1
theorem bCw{n k:V}(h:2^k<=n)(h2:n<2^(k+1)):bl n=k+1:=by
 grind [DD,bl,Nat.log2_eq_iff]
theorem kY(n:V):n<2^bl n:=by
 grind [bl,Nat.lt_log2_self]
theorem xH{n:V}(h:n≠0):2^(bl n-1)<=n:=by
 grind [bl,Nat.log2_self_le]
theorem bGn{n k:V}(h:n<2^k)(h2:k≠0->2^(k-1)<=n):bl n=k:=by
 rcases D2 k with e|e
 .subst e;have:n=0:=by simpa using h
  subst this;rfl
 grind [bCw]
theorem aD1{n k:V}(h:n≠0)(r:V)(hr:r<2^k):bl (n*2^k+r)=bl n+k:=by
 have b:=kY n;have a:=xH h;have h0:bl n≠0:=by unfold bl;rw[A h];omega
 refine bGn ?_ λ_=>?_
 .rw[CY];have:(n+1)*2^k<=2^bl n*2^k:=DZ _ b
  grind
 .rw[show bl n+k-1=(bl n-1)+k by omega,CY];have:2^(bl n-1)*2^k<=n*2^k:=DZ _ a;omega
theorem rY:bl 0=0:=rfl
theorem dN{n k:V}(h:n<2^k):bl n<=k:=by
 by_cases e:n=0
 .subst e;rw[rY];omega
 .have:=xH e;have h2:2^(bl n-1)<2^k:=by omega
  grind [Nat.pow_lt_pow_iff_right]
theorem nC(l:X Z)(k:V)(h:k<l.length):wv l=wv (l.take k)+4294967296^k*(l.getD k 0+4294967296*wv (l.drop (k+1))):=by
 have e:l=l.take k++(l.getD k 0::l.drop (k+1)):=by
  simp_all
 have a:=eU (l.take k) (l.getD k 0::l.drop (k+1));rw[<-e]at a;rw[a,AY,BD (by omega)];rfl
theorem Cn.top{l:X Z}(h:Cn l)(a:l≠ []):4294967296^(l.length-1)<=wv l:=by
 have hp:0<l.length:=B8.2 a;have b:=nC l (l.length-1) (by omega);have c:l.drop (l.length-1+1)=[]:=BZ (by omega);rw[c]at b;have h2:l.getD (l.length-1) 0≠0:=by
  have:=aED (wv l).toNat (by unfold Cn at h;rw[h];exact a)
  grind [B8,CD,Cn]
 have h3:=h.wd.getD (l.length-1);have h4:=bB (h.wd.take (l.length-1));have d:(0:Z)<=4294967296^(l.length-1):=EK (by omega);simp only[wv]at b;have h6:(4294967296:Z)^(l.length-1)*1<=4294967296^(l.length-1)*(l.getD (l.length-1) 0+4294967296*0):=Z7 (by omega) d;omega
theorem lN{a b:X Z}(d:Wd a)(c:Cn b)(h:a.length<b.length):wv a<wv b:=by
 have h1:=gD d;have h2:=c.top (by intro e;subst e;simp at h);have h3:(4294967296:Z)^a.length<=4294967296^(b.length-1):=by
  have:=A1 (show 0<4294967296 by omega) (show a.length<=b.length-1 by omega)
  grind
 omega
theorem aVP{l:X Z}{i:V}(v:Z)(h:i<l.length):(l.set i v).take (i+1)=l.take i++[v]:=by
 grind [D3,D0]
theorem iG{l:X Z}{i:V}(v:Z):(l.set i v).drop (i+1)=l.drop (i+1):=by
 rw[List.drop_set_of_lt (by omega)]
theorem bP(l:X Z)(k:V):wv (l.take (k+1))=wv (l.take k)+4294967296^k*l.getD k 0:=by
 grind [AM,D3,eU,AY,BD,wv,AI,CR]
theorem jC{l:X Z}{i:V}(v:Z)(h:i<l.length):wv ((l.set i v).take (i+1))=wv (l.take i)+4294967296^i*v:=by
 grind [aVP,eU,AY,BD,wv]
theorem cY{l:X Z}{k:V}(h:l.length<=k):wv (l.take k)=wv l:=by rw[AI h]
theorem gB{l m:X Z}{k:V}(h:l.drop k=m.drop k)(j:V)(hj:k<=j):l.getD j 0=m.getD j 0:=by
 have:(l.drop k)[j-k]? =(m.drop k)[j-k]? :=by rw[h]
 grind
theorem fK{l m:X Z}{k:V}(h:l.drop k=m.drop k):l.drop (k+1)=m.drop (k+1):=by
 have:(l.drop k).drop 1=(m.drop k).drop 1:=by rw[h]
 simpa [CW]using this
theorem kF(P t:Z):P*t=P*(t%4294967296)+P*4294967296*(t/4294967296):=by
 grind
theorem aQL{c:Prop}[Decidable c]{p q r p' q' r' s:Prop}(h1:c->p/\q/\r)(h2:¬c->p'/\q'/\r')(hs:s):if c then p/\q/\r/\s else p'/\q'/\r'/\s:=by
 simp_all
abbrev aD(a b:Z)(n m:V):Prop:=a=b/\(n<=m\/o a<(2:V)^m)
abbrev fY(z:Z):Prop:=(-9223372036854775808:Z)<=z/\z<=(9223372036854775807:Z)
section
theorem aI{b:S}{p x y:Prop}(hb:b=FR↔p)(h1:p->x)(h2:¬p->y):k b x y:=by
 grind
theorem aGb{b:S}{x y:Prop}(d:b=Aa)(h:y):k b x y:=by subst d;exact h
theorem aOd{b:S}{x y:Prop}(d:b=FR)(h:x):k b x y:=by subst d;exact h
theorem aJD{a b:Z}(h:a≠b):(a==b)=Aa:=by simp[h]
theorem bBM(a:Z):(a==a)=FR:=by simp
theorem aQb(x:V)(h:x<18446744073709551616):(M 64 (x:Z)).toNat=x:=by
 simp_all
theorem j4{x:Z}(h:0<=x)(k:x<=18446744073709551615):D GA x=x:=IntWalk.u64_in x ⟨h,k⟩
theorem aDY(x:V)(h:x<18446744073709551616)(k:V)(d:k<=64):D GA ((M (AA GA) (x:Z) &&&M (AA GA) ((2:Z)^k-1)).toNat:Z)=((x%2^k:V):Z):=by
 have e:(M (AA GA) (x:Z) &&&M (AA GA) ((2:Z)^k-1)).toNat=x%2^k:=by
  rw[BitVec.toNat_and];have e1:(M (AA GA) (x:Z)).toNat=x:=aQb x h;have hp:(2:V)^k<=2^64:=A1 (by omega) d;have hq:0<(2:V)^k:=ER (by omega);have f:(2:Z)^k-1=((2^k-1:V):Z):=by
   grind
  have e2:(M (AA GA) ((2:Z)^k-1)).toNat=2^k-1:=by
   rw[f];refine aQb _ ?_;omega
  simp_all
 rw[e];have:x%2^k<=x:=Nat.mod_le _ _;exact j4 (by omega) (by omega)
theorem aP5(x:V)(h:x<18446744073709551616):D GA ((M (AA GA) (x:Z) &&&M (AA GA) 1).toNat:Z)=((x%2:V):Z):=aDY x h 1 (by omega)
theorem aP4(x:V)(h:x<18446744073709551616):D GA ((M (AA GA) (x:Z) &&&M (AA GA) 4294967295).toNat:Z)=((x%4294967296:V):Z):=aDY x h 32 (by omega)
def tzF:V->V->V
 |0,_=>0
 |f+1,n=>k (BM (n%2) 0) (tzF f (n/2)+1) 0
def tz(n:V):V:=tzF 128 n
structure TzOk (f n s:Nat):Prop where
 m:n%2^s=0
 o:n/2^s%2=1
 l:s<f
theorem yV:∀(f n:V),0<n->n<2^f->TzOk f n (tzF f n)
 |0,n,h,k=>by simp at k;omega
 |f+1,n,h,k=>by
  rw[tzF];cases d:BM (n%2) 0 with
  |true =>
   rw[Z6];have i:n%2=0:=B4 d;have g:=yV f (n/2) (by omega) (by rw[BL]at k;omega);refine⟨?_,?_,by have:=g.l;omega⟩
   .obtain⟨c,d⟩:=DS g.m;have e:n=2^(tzF f (n/2)+1)*c:=by rw[BL,Nat.mul_right_comm,<-d];omega
    exact Nat.mod_eq_zero_of_dvd ⟨c,e⟩
   .rw[BL,DR,<-Nat.div_div_eq_div_mul];exact g.o
  |false =>
   rw[Z5];have i:n%2≠0:=DP d;exact⟨by simp[Nat.mod_one],by simp;omega,by omega⟩
theorem aPT{n:V}(h:0<n)(k:n<2^128):TzOk 128 n (tz n):=yV 128 n h k
theorem aJg{f g n s t:V}(h:TzOk f n s)(k:TzOk g n t):s=t:=by
 have key:∀ {f g n s t:V},TzOk f n s->TzOk g n t->¬s<t:=by
  intro f g n s t h k hlt;obtain⟨c,d⟩:=DS k.m;have e:n/2^s=2^(t-s)*c:=by
   rw[d,show t=s+(t-s) by omega,CY,DK,Nat.mul_div_cancel_left _ (ER (by omega))]
   congr 2;omega
  have:=h.o;rw[e,show t-s=(t-s-1)+1 by omega,BL,DR (2^_) 2,DK,Nat.mul_mod_right]at this;omega
 grind
theorem aNE:∀(f x:V),0<x->x<2^f->x &&&(2^f-x)=2^tzF f x
 |0,x,h,k=>by simp at k;omega
 |f+1,x,h,k=>by
  rw[tzF];have hp:(2:V)^(f+1)=2*2^f:=by rw[BL];omega
  refine Nat.eq_of_testBit_eq λi=>?_;cases d:BM (x%2) 0 with
  |true =>
   rw[Z6];have j:x%2=0:=B4 d;have g:=aNE f (x/2) (by omega) (by omega);cases i with
   |zero =>
    simp_all
   |succ i =>
    have e:(2^(f+1)-x)/2=2^f-x/2:=by omega
    rw[EG,C9,C9,e,<-EG,g,C9,BL,Nat.mul_div_cancel _ (by omega)]
  |false =>
   rw[Z5];have j:x%2=1:=by have:=DP d;omega
   cases i with
   |zero =>
    grind
   |succ i =>
    have e:(2^(f+1)-x)/2=2^f-(x/2+1):=by omega
    grind
theorem bBZ{Y a b q r U c:Z}(d:Y=a*4294967296+b)(e:q*a+r=U)(t:q*b<=4294967296*r+c):q*Y<=U*4294967296+c:=by
 have h1:q*Y=q*a*4294967296+q*b:=by rw[d,BF,<-B5]
 omega
theorem bGL{Y a b q r U c:Z}(d:Y=a*4294967296+b)(e:q*a+r=U)(t:4294967296*r+c<q*b):U*4294967296+c<q*Y:=by
 have h1:q*Y=q*a*4294967296+q*b:=by rw[d,BF,<-B5]
 omega
structure DQ where
 q:Int
 r:Int
structure DqI (a U c Y:Int) (i:DQ):Prop where
 e:i.q*a+i.r=U
 r0:0<=i.r
 r1:i.r<4294967296
 q:(U*4294967296+c)/Y<=i.q
structure DqH (Y a b U c:Int):Prop where
 eY:Y=a*4294967296+b
 a0:2147483648<=a
 a1:a<4294967296
 b0:0<=b
 b1:b<4294967296
 u0:0<=U
 u1:U<Y
 c0:0<=c
 c1:c<4294967296
theorem gT{q b:Z}(q0:0<=q)(q1:q<4294967296)(d:0<=b)(b1:b<4294967296):0<=q*b/\q*b<=18446744065119617025:=by
 refine⟨A2 q0 d,?_⟩;have:=C0 (show q<=4294967295 by omega) (show b<=4294967295 by omega) d (by omega);omega
namespace DqH
variable {Y a b U c:Int}
theorem Ypos(H:DqH Y a b U c):0<Y:=by have:=H.eY;have:=H.a0;have:=H.b0;omega
theorem ge(H:DqH Y a b U c){k:Z}(h:k*Y<=U*4294967296+c):k<=(U*4294967296+c)/Y:=(DU H.Ypos).2 h
theorem lt(H:DqH Y a b U c){k:Z}(h:U*4294967296+c<k*Y):(U*4294967296+c)/Y<k:=(DV H.Ypos).2 h
theorem q0(H:DqH Y a b U c):0<=(U*4294967296+c)/Y:=A4 (by have:=H.u0;have:=H.c0;omega) (by have:=H.Ypos;omega)
theorem q1(H:DqH Y a b U c):(U*4294967296+c)/Y<4294967296:=by
 refine H.lt ?_;have:=H.u1;have:=H.c1;omega
theorem start(H:DqH Y a b U c):DqI a U c Y ⟨U/a,U%a⟩:=by
 have ha:=H.a0;have d:=BU U (show a≠0 by omega);have hl:=BB U (show 0<a by omega);have e:=AS U a;have hc:=H.a1;refine⟨by rw[A5];exact e,d,by show U%a<_;omega,?_⟩;have:(U*4294967296+c)/Y<U/a+1:=by
  refine H.lt ?_;have f:(U/a+1)*Y=(a*(U/a)+a)*4294967296+(U/a+1)*b:=by
   rw[H.eY,BF,<-B5,DC _ _ a,A5 (U/a) a,CZ]
  have h2:0<=(U/a+1)*b:=A2 (by have:=A4 H.u0 (show 0<=a by omega);omega) H.b0;rw[f];generalize (U/a+1)*b=z at *;generalize a*(U/a)=x at *;have:=H.c1;omega
 grind
theorem start_lt(H:DqH Y a b U c):0<=U/a/\U/a<18446744073709551616:=by
 have ha:=H.a0;refine⟨A4 H.u0 (by omega),?_⟩;refine(DV (by omega)).2 ?_;have:=H.u1;have:=H.eY;have:=H.b1;have:=H.a1;omega
theorem qle(H:DqH Y a b U c){i:DQ}(I:DqI a U c Y i):0<=i.q/\i.q<18446744073709551616:=by
 have h0:=H.q0;have h1:=I.q;refine⟨by omega,?_⟩;have ha:=H.a0;have he:=I.e;have hr:=I.r0;have d:i.q*a<=U:=by omega
 have h3:i.q<=U/a:=(DU (by omega)).2 d;have:=H.start_lt;omega
theorem down(H:DqH Y a b U c){i:DQ}(I:DqI a U c Y i)(hq:(U*4294967296+c)/Y<i.q) :
  (4294967296<=i.r+a->i.q-1=(U*4294967296+c)/Y)/\(i.r+a<4294967296->DqI a U c Y ⟨i.q-1,i.r+a⟩):=by
 have he:=I.e;have hr:=I.r0;have ha:=H.a0;have f:(i.q-1)*a+(i.r+a)=U:=by rw[CE,CZ];omega
 refine⟨λh=>?_,λh=>⟨f,by show 0<=i.r+a;omega,h,by show _<=i.q-1;omega⟩⟩;have hn:=H.qle I;have h0:=H.q0;have d:i.q-1<4294967296:=by
  false_or_by_contra
  rename_i hno;have h1:4294967296*a<=(i.q-1)*a:=AR (by omega) (by omega);have:=H.u1;have:=H.eY;have:=H.b1;omega
 have hb:=gT (show 0<=i.q-1 by omega) d H.b0 H.b1;have:=H.ge (bBZ (c:=c) H.eY f (by have:=H.c0;omega));omega
end DqH
def pmF:V->V->V->V->V->V
 |0,x,_,_,_=>x
 |f+1,x,y,d,n=>k (BM d 0) x (pmF f (k (BM (d%2) 1) (x*y%n) x) (y*y%n) (d/2) n)
theorem aH4{x y d n:V}:(k (BM (d%2) 1) (x*y%n) x)*(y*y%n)^(d/2)%n=x*y^d%n:=by
 have f:y^d=(y*y)^(d/2)*y^(d%2):=by
  rw[<-Nat.pow_two,<-DB,<-CY]
  congr 1;omega
 rcases Nat.mod_two_eq_zero_or_one d with h|h
 .simp_all [BM,EM,ES,DY,DX]
 .have e:BM (d%2) 1=FR:=by rw[h];rfl
  rw[e,Z6,f,h,Nat.pow_one,DY,DX,ET,ET,<-DX,<-DY,DK,DR y]
theorem aH3:∀(f x y d n:V),x<n->d<2^f->pmF f x y d n=x*y^d%n
 |0,x,y,d,n,hx,e=>by
  simp_all [pmF,D9]
 |f+1,x,y,d,n,hx,e=>by
  rw[pmF];cases hc:BM d 0 with
  |true =>
   simp_all [B4,EM,ES,D9]
  |false =>
   rw[Z5,aH3 f _ _ _ _ ?_ (by rw[BL]at e;omega),aH4];cases BM (d%2) 1
   .exact hx
   .exact D1 _ (by omega)
def sL:V->V->V->S
 |0,_,_=>Aa
 |k+1,x,n=>BM x (n-1) ||sL k (x*x%n) n
def cF(n b:V):S :=
 k (BM (b%n) 0) FR (BM (pmF 128 1 (b%n) ((n-1)/2^tz (n-1)) n) 1 ||sL (tz (n-1)) (pmF 128 1 (b%n) ((n-1)/2^tz (n-1)) n) n)
theorem tG{n b:V}(h:b%n=0):cF n b=FR:=by
 unfold cF;rw[h];rfl
def bH:X V:=[2,3,5,7,11,13,17,19,23,29,31,37,41]
def tW(n:V):X V->S
 |[]=>FR
 |p::r=>cF n p&&tW n r
def sO(n:V):X V->S
 |[]=>Nat.blt 1 n&&tW n bH
 |p::r=>k (BM (n%p) 0) (BM n p) (sO n r)
def iI(n:V):S:=sO n bH
theorem aH7{n p:V}{r:X V}(h:n%p=0):sO n (p::r)=BM n p:=by rw[sO,h];rfl
theorem aK6{n p:V}{r:X V}(h:n%p≠0):sO n (p::r)=sO n r:=by
 grind [BM,B4,sO]
def pT(n:V):X V->V->Z
 |[],_=> -1
 |p::r,i=>k (cF n p) (pT n r (i+1)) (i:Z)
theorem aKn(n:V):∀(l:X V) (i:V),H (pT n l i≥0)=!tW n l
 |[],i=>rfl
 |p::r,i=>by
  rw[pT,tW];cases cF n p with
  |true=>rw[Z6,Bool.true_and];exact aKn n r (i+1)
  |false=>rw[Z5,Bool.false_and];exact Y0 (by omega)
end
theorem bT:Tryz.prog.follows .mixedOrders=FR:=by kernel_rfl
def aK(Γ:X (Ctr AE))(ann:V->MS->g LoopAnn):Env AE:=⟨Γ, [],39,ann,λ_=> [],λ_ _=>F0⟩
def bE(b:F8)(s:aG):Prop:=∀a p r,s a=FT (p,r)->p.holds->∃E:Env AE,aJ E b a r.sat
def aC:V->MS->g LoopAnn:=λ_ _=>F0
def vI:aG
 |[.ws l]=>FT (FT (Wd l/\l.length<=1099511627776),.ret (.ws (aA (wv l).toNat)))
 |_=>F0
def bCl(l:X Z):V->MS->g LoopAnn
 |1,_=>FT (.inv V (λk=>k<=l.length/\wv (l.take k)=wv l) (λk=>⟨21, [(0,.ws (l.take k))], [],0⟩) id)
 |_,_=>F0
theorem bBr(l:X Z)(a:_)(b:a=λ(i:V)=>(B (R i l):Z)):((∃i,(i<=B l/\wv (R i l)=wv l)/\(l=R i l/\I)/\I)/\∀(i:V),i<=B l/\wv (R i l)=wv l->bif H ((a i) >0)then (0<=D GB ((a i)-1)/\D GB ((a i)-1)< (a i))/\bif L (R i l) (C (D GB ((a i)-1))) 0==0 then (0<=D GB ((a i)-1)/\D GB ((a i)-1)<= (a i))/\∃j,(j<=B l/\wv (R j l)=wv l)/\((R (C (D GB ((a i)-1))) (R i l)=R j l/\I)/\I)/\id j<id i else R i l=aA (C (wv l))else R i l=aA (C (wv l)))=aJ (aK [] (bCl l)) E6 [.ws l] (AH (.ret (.ws (aA (wv l).toNat)))):=by subst b;kernel_rfl
theorem aT{x:Z}(h: -9223372036854775808<=x)(k:x<=9223372036854775807):i64.wrap x=x:=IntWalk.i64_in x ⟨h,k⟩
theorem aG5{l:X Z}{i:V}(h:i<l.length):l.take (i+1)=l.take i++[l.getD i 0]:=by
 simp_all
theorem bEA:bE E6 vI:=by
 intro ms p r h c;unfold vI at h;split at h
 .rename_i l;cases h;obtain⟨b,hlen⟩:=c;refine⟨_,cast (bBr l _ rfl) ⟨⟨l.length,⟨Z0 _,by rw[A6]⟩,⟨by rw[A6],trivial⟩,trivial⟩,λi ⟨f,hv⟩=>?_⟩⟩;have d:(l.take i).length=i:=by simp[f]
  have hlim:i=0\/(l.take i).getLast?≠FT 0->l.take i=aA (wv l).toNat:=by
   intro h;rw[<-hv];refine(aAm (b.take i) λhne e=>?_).symm
   grind
  rw[d,AL];split
  .rename_i h0;have a:i-1<l.length:=by omega
   have k:i64.wrap ((i:Z)-1)=i-1:=aT (by omega) (by omega);have j:((i:Z)-1).toNat=i-1:=by omega
   rw[k,j];have hs:l.take i=l.take (i-1)++[l.getD (i-1) 0]:=by
    have:=aG5 a
    grind
   have g:(l.take i).getD (i-1) 0=l.getD (i-1) 0:=by
    grind
   rw[g];refine⟨by omega,?_⟩;cases hz:(l.getD (i-1) 0==0)with
   |true =>
    grind [eU,wv]
   |false =>
    grind
  simp_all
 .simp at h
def kD:Ctr AE:=⟨129,vI,λargs w=>Tryz.call129 args w,aM bT Tryz.func129 vI bEA⟩
theorem l7(x:Z):u32.wrap x=x%4294967296:=by simp[D,AA,BW]
theorem l8(x:Z):u64.wrap x=x%18446744073709551616:=by simp[D,AA,BW]
theorem u8w(x:Z):u8.wrap x=x%256:=by simp[D,AA,BW]
def aC7:aG
 |[.int .u32 x,.int .u32 y,.int .u32 c]=>FT (FT (0<=x/\x<4294967296/\0<=y/\y<4294967296/\0<=c/\c<=1),.ret (.tup [.int .u32 ((x+y+c)%4294967296),.int .u32 ((x+y+c)/4294967296)]))
 |_=>F0
theorem aV3(x y c:Z):((0:Z)<=32/\D GC (D GA (D GA (D GA x+D GA y)+D GA c))=(x+y+c)%4294967296/\D GC (fdiv (D GA (D GA (D GA x+D GA y)+D GA c)) ((2:Z)^min (C 32) (AA GA)))=(x+y+c)/4294967296/\I)=aJ (aK [] aC) E2 [.int .u32 x,.int .u32 y,.int .u32 c] (AH (.ret (.tup [.int .u32 ((x+y+c)%4294967296),.int .u32 ((x+y+c)/4294967296)]))):=by kernel_rfl
def aDO:aG
 |[.int .u32 x,.int .u32 y,.int .u32 c]=>FT (FT (0<=x/\x<4294967296/\0<=y/\y<4294967296/\0<=c/\c<=1),.ret (.tup [.int .u32 ((x-y-c)%4294967296),.int .u32 (if x<y+c then 1 else 0)]))
 |_=>F0
theorem p32:((2:Z)^min (C 32) (AA GA))=4294967296:=by decide +kernel
theorem p31:((2:Z)^min (C 31) (AA GC))=2147483648:=by decide +kernel
theorem aYQ:bE E2 aC7:=by
 intro ms p r h a;unfold aC7 at h;split at h
 .rename_i x y c;cases h;obtain⟨h1,h2,h3,h4,h5,h6⟩:=a;refine⟨aK [] aC,?_⟩;rw[<-aV3 x y c];rw[p32,AF _ (by omega)];simp only[l7,l8]
  grind
 .simp at h
def aHn:Ctr AE:=⟨155,aC7,λargs w=>Tryz.call155 args w,aM bT Tryz.func155 aC7 aYQ⟩
theorem aSp(z:BitVec (AA GC)):((z.toNat:Z)%4294967296).fdiv 2147483648=if z.msb then 1 else 0:=by
 rw[AF _ (by omega),DO];have:z.toNat<4294967296:=z.isLt;show _=if H (2147483648<=z.toNat)=FR then _ else _
 grind
theorem aT8(z:BitVec (AA GC)):M (AA GC) ((z.toNat:Z)%4294967296)=z:=by
 apply BitVec.eq_of_toNat_eq
 have:z.toNat<4294967296:=z.isLt;rw[BJ];show((z.toNat:Z)%4294967296%4294967296).toNat=z.toNat;omega
theorem aT9{x:Z}(h:0<=x)(k:x<4294967296):((M 32 x).toNat:Z)=x:=by
 rw[BJ];omega
theorem aW0(x y c:Z):((0:Z)<=31/\D GC (D GC (x-y)-c)=(x-y-c)%4294967296/\(fdiv (D GC (BK (M (AA GC) (D GC (BK (M (AA GC) (D GC (BK (M (AA GC) (if BW GC=FR then (-1:Z)else DM GC) ^^^ M (AA GC) x):Z)) &&&M (AA GC) y):Z)) |||ofInt (AA GC) (D GC (BK (M (AA GC) (D GC (BK (M (AA GC) (if BW GC=FR then (-1:Z)else DM GC) ^^^ M (AA GC) (D GC (BK (M (AA GC) x ^^^ M (AA GC) y):Z))):Z)) &&&M (AA GC) (D GC (D GC (x-y)-c))):Z))):Z)) ((2:Z)^min (C 31) (AA GC))=if x<y+c then (1:Z)else (0:Z))/\I)=aJ (aK [] aC) E1 [.int .u32 x,.int .u32 y,.int .u32 c] (AH (.ret (.tup [.int .u32 ((x-y-c)%4294967296),.int .u32 (if x<y+c then 1 else 0)]))):=by kernel_rfl
theorem aZF:bE E1 aDO:=by
 intro ms p r h b;unfold aDO at h;split at h
 .rename_i x y c;cases h;obtain⟨h1,h2,h3,h4,h5,h6⟩:=b;refine⟨_,cast (aW0 x y c) ?_⟩;rw[p31,
   show(if BW GC=FR then (-1:Z)else DM GC)=4294967295 from rfl]
  simp only[l7,aT8];refine⟨by omega,by omega,?_,trivial⟩;rw[aSp];simp only[BitVec.msb_or,BitVec.msb_and,BitVec.msb_xor];have m:∀t:Z,0<=t->t<4294967296->(M (AA GC) t).msb=H (2147483648<=t):=λt q1 a=>by
   rw[DO];have:=aT9 q1 a;show H (2147483648<=(M 32 t).toNat)=_
   grind
  grind
 .simp at h
def aHu:Ctr AE:=⟨156,aDO,λargs w=>Tryz.call156 args w,aM bT Tryz.func156 aDO aZF⟩
def aX(a b:Z):Z:=if a<b then-1 else if a=b then 0 else 1
def aIv:aG
 |[.int .i64 _]=>FT (F0,.ret (.bool Aa))
 |_=>F0
def aIw:aG
 |[.int .u32 _]=>FT (F0,.ret (.bool Aa))
 |_=>F0
theorem bAI(x:Z):((x != x)=Aa)=aJ (aK [] aC) E8 [.int .i64 x] (AH (.ret (.bool Aa))):=by kernel_rfl
theorem bAJ(x:Z):((x != x)=Aa)=aJ (aK [] aC) E0 [.int .u32 x] (AH (.ret (.bool Aa))):=by kernel_rfl
theorem bD0:bE E8 aIv:=by
 intro ms p r h hp;unfold aIv at h;split at h
 .rename_i x;cases h;exact⟨_,cast (bAI x) (by simp)⟩
 .simp at h
theorem bD1:bE E0 aIw:=by
 intro ms p r h hp;unfold aIw at h;split at h
 .rename_i x;cases h;exact⟨_,cast (bAJ x) (by simp)⟩
 .simp at h
def bCA:Ctr AE:=⟨127,aIv,λargs w=>Tryz.call127 args w,aM bT Tryz.func127 aIv bD0⟩
def bCB:Ctr AE:=⟨161,aIw,λargs w=>Tryz.call161 args w,aM bT Tryz.func161 aIw bD1⟩
def aIf:aG
 |[.int .i64 a,.int .i64 b]=>FT (F0,.ret (.int .i64 (aX a b)))
 |_=>F0
def aIg:aG
 |[.int .u32 a,.int .u32 b]=>FT (F0,.ret (.int .i64 (aX a b)))
 |_=>F0
theorem bAm(a b:Z):(bif H (a<b)then (-1)=aX a b else bif H (a>b)then 1=aX a b else 0=aX a b)=aJ (aK [bCA] aC) FK [.int .i64 a,.int .i64 b] (AH (.ret (.int .i64 (aX a b)))):=by kernel_rfl
theorem bAn(a b:Z):(bif H (a<b)then (-1)=aX a b else bif H (a>b)then 1=aX a b else 0=aX a b)=aJ (aK [bCB] aC) E7 [.int .u32 a,.int .u32 b] (AH (.ret (.int .i64 (aX a b)))):=by kernel_rfl
theorem bDD:bE FK aIf:=by
 intro ms p r h hp;unfold aIf at h;split at h
 .rename_i a b;cases h;refine⟨_,cast (bAm a b) ?_⟩;unfold aX
  grind
 .simp at h
theorem bDE:bE E7 aIg:=by
 intro ms p r h hp;unfold aIg at h;split at h
 .rename_i a b;cases h;refine⟨_,cast (bAn a b) ?_⟩;unfold aX
  grind
 .simp at h
def aHo:Ctr AE:=⟨86,aIf,λargs w=>Tryz.call86 args w,aM bT Tryz.func86 aIf bDD⟩
def aSv:Ctr AE:=⟨128,aIg,λargs w=>Tryz.call128 args w,aM bT Tryz.func128 aIg bDE⟩
def two(a b:Z)(j:V):MV:= .int .i64 (if j=0 then a else b)
theorem bHM(a b:Z):(((0:Z)<=0/\(0:Z)<(↑(2:V):Z))/\bif (if C 0=0 then a else b) != 0 then (if C 0=0 then a else b)=if a=0 then b else a else (0<=D GB ((0:Z)+1)/\D GB ((0:Z)+1)<(↑(2:V):Z))/\bif (if C (D GB ((0:Z)+1))=0 then a else b) != 0 then (if C (D GB ((0:Z)+1))=0 then a else b)=if a=0 then b else a else 0=if a=0 then b else a)=aJ (aK [] (fun|3,_=>FT (.unroll 3)|_,_=>F0)) FH [.sl 1 2 (two a b)] (AH (.ret (.int .i64 (if a=0 then b else a)))):=by kernel_rfl
def aZ6:aG
 |[.sl 1 2 f]=>(match f 0,f 1 with
  |.int .i64 a,.int .i64 b=>FT (F0,.ret (.int .i64 (if a=0 then b else a)))
  |_,_=>F0)
 |_=>F0
theorem bIo:∀c p r,aZ6 c=FT (p,r)->p.holds->∃ms',lO.leVs 0 c ms'/\∃E:Env AE,aJ E FH ms' r.sat:=by
 intro c p r h hp;unfold aZ6 at h;split at h
 .rename_i f;split at h
  .rename_i a b h0 h1;cases h;refine⟨[.sl 1 2 (two a b)],⟨⟨rfl,rfl,LeFun.of_le λi hi=>?_⟩,trivial⟩,aK [] (fun|3,_=>FT (.unroll 3)|_,_=>F0),?_⟩
   .grind [two,fN]
   .rw[<-bHM a b];have e:i64.wrap ((0:Z)+1)=1:=by decide +kernel
    simp_all
  .simp at h
 .simp at h
def bGu:Ctr AE:=⟨89,aZ6,λargs w=>Tryz.call89 args w,uK bT Tryz.func89 aZ6 bIo⟩
def aDb:aG
 |[.int .u32 x]=>FT (FT (0<=x/\x<4294967296),.ret (.int .i64 (bl x.toNat)))
 |_=>F0
def cK:ByteArray:=⟨((C2 256).map λn=>UInt8.ofNat (bl n)).toArray⟩
theorem aGt:cK.size=256:=by decide +kernel
theorem aHM{i:V}(h:i<256):gK cK i=bl i:=by
 have b:i<2^8:=h;have hb:bl i<=8:=dN b;have a:i<((C2 256).map λn=>UInt8.ofNat (bl n)).length:=by simpa using h
 unfold gK cK;simp only[AV,CD a,Option.getD_some,List.getElem_map,List.getElem_range,UInt8.toNat_ofNat'];omega
theorem aWb(x:Z)(a:_)(f:a=(fdiv x ((2:Z)^min (C 16) (AA GC))))(c:_)(e:c=(fdiv a ((2:Z)^min (C 8) (AA GC))))(b:_)(d:b=(fdiv x ((2:Z)^min (C 8) (AA GC)))):(bif H (x≥65536)then (0:Z)<=16/\bif H (fdiv x ((2:Z)^min (C 16) (AA GC))≥256)then (0:Z)<=8/\(0<=D u8 c/\D u8 c <(CI cK:Z))/\D GB (D GB ((16:Z)+8)+D GB (gK cK (C (D u8 c))))=(bl (C x):Z)else (0<=D u8 a/\D u8 a <(CI cK:Z))/\D GB (16+D GB (gK cK (C (D u8 a))))=(bl (C x):Z)else bif H (x≥256)then (0:Z)<=8/\(0<=D u8 b/\D u8 b <(CI cK:Z))/\D GB (D GB ((0:Z)+8)+D GB (gK cK (C (D u8 b))))=(bl (C x):Z)else (0<=D u8 x/\D u8 x<(CI cK:Z))/\D GB (0+D GB (gK cK (C (D u8 x))))=(bl (C x):Z))=aJ (aK [] aC) EV [.int .u32 x] (AH (.ret (.int .i64 (bl x.toNat)))):=by subst f e d;kernel_rfl
theorem bIm:((2:Z)^min (C 16) (AA GC))=65536:=by decide +kernel
theorem p8u:((2:Z)^min (C 8) (AA GC))=256:=by decide +kernel
theorem w24:i64.wrap ((16:Z)+8)=24:=by decide +kernel
theorem w8:i64.wrap ((0:Z)+8)=8:=by decide +kernel
theorem bl8{n:V}(h:n<256):bl n<=8:=dN (show n<2^8 by omega)
theorem bCv{n:V}(h:n<4294967296):bl n<=32:=dN (show n<2^32 by omega)
theorem aAk{x:Z}{z k:V}(hz:z<256)(h0:z≠0)(hk:k<=24)(h:∃r,x.toNat=z*2^k+r/\r<2^k):i64.wrap ((k:Z)+i64.wrap (gK cK z))=(bl x.toNat:Z):=by
 grind [aD1,aHM,bl8,bl,aT]
theorem aYU:bE EV aDb:=by
 intro ms p r h a;unfold aDb at h;split at h
 .rename_i x;cases h;obtain⟨h1,h2⟩:=a;refine⟨aK [] aC,?_⟩;rw[<-aWb x _ rfl _ rfl _ rfl,bIm,p8u,aGt,w24,w8];simp only[u8w,AF _ (show(0:Z)<=65536 by omega),AF _ (show(0:Z)<=256 by omega),AL];split
  .refine⟨by omega,?_⟩;split
   .refine⟨by omega,by omega,?_⟩;exact aAk (z:=(x/65536/256%256).toNat) (k:=24) (by omega) (by omega) (by omega) ⟨(x%16777216).toNat,by omega,by omega⟩
   .refine⟨by omega,?_⟩;exact aAk (z:=(x/65536%256).toNat) (k:=16) (by omega) (by omega) (by omega) ⟨(x%65536).toNat,by omega,by omega⟩
  .split
   .refine⟨by omega,by omega,?_⟩;exact aAk (z:=(x/256%256).toNat) (k:=8) (by omega) (by omega) (by omega) ⟨(x%256).toNat,by omega,by omega⟩
   .refine⟨by omega,?_⟩;by_cases e:x=0
    .subst e;rfl
    .exact aAk (z:=(x%256).toNat) (k:=0) (by omega) (by omega) (by omega) ⟨0,by omega,by omega⟩
 .simp at h
def aCK:Ctr AE:=⟨182,aDb,λargs w=>Tryz.call182 args w,aM bT Tryz.func182 aDb aYU⟩
theorem bAx(x:Z):((0<=x/\x<4294967296)/\D GB (32-(bl (C x):Z))=32-(bl (C x):Z))=aJ (aK [aCK] aC) EY [.int .u32 x] (AH (.ret (.int .i64 (32-bl x.toNat)))):=by kernel_rfl
def aIl:aG
 |[.int .u32 x]=>FT (FT (0<=x/\x<4294967296),.ret (.int .i64 (32-bl x.toNat)))
 |_=>F0
theorem bDP:bE EY aIl:=by
 intro ms p r h a;unfold aIl at h;split at h
 .rename_i x;cases h;have a:0<=x/\x<4294967296:=a;refine⟨aK [aCK] aC,?_⟩;rw[<-bAx x]
  grind [bCv,aT]
 .simp at h
def bCz:Ctr AE:=⟨178,aIl,λargs w=>Tryz.call178 args w,aM bT Tryz.func178 aIl bDP⟩
theorem fZ{a b:Z}:aX a b=0↔a=b:=by unfold aX;split<;>(try split)<;>omega
theorem wB{a b:Z}(h:a<b):aX a b= -1:=by unfold aX;rw[F2 h]
theorem wA{a b:Z}(h:b<a):aX a b=1:=by unfold aX;rw[A (by omega),A (by omega)]
theorem wC{a:Z}:aX a a=0:=fZ.2 rfl
theorem xA{a b:X Z}{k:V}(g:Wd a)(f:Wd b)(d:k<a.length)(c:k<b.length)(e:a.drop (k+1)=b.drop (k+1))(h:a.getD k 0<b.getD k 0):wv a<wv b:=by
 rw[nC a k d,nC b k c,e];have j:=gD (g.take k);have h2:=bB (f.take k);rw[AY,BD (by omega)]at j;have i:(0:Z)<=4294967296^k:=EK (by omega);generalize hP:(4294967296:Z)^k=P at *;generalize wv (b.drop (k+1))=t;have h6:P*(a.getD k 0+4294967296*t+1)<=P*(b.getD k 0+4294967296*t):=Z7 (by omega) i
 grind
def vG:aG
 |[.ws a,.ws b]=>FT (FT (Cn a/\Cn b/\a.length<=1099511627776/\b.length<=1099511627776),.ret (.int .i64 (aX (wv a) (wv b))))
 |_=>F0
def aR5(a b:X Z):V->MS->g LoopAnn
 |5,_=>FT (.inv V (λk=>k<=a.length/\a.drop k=b.drop k) (λk=>⟨35, [(0,.ws a),(1,.ws b),(6,.int .i64 ((k:Z)-1))], [],0⟩) id)
 |_,_=>F0
theorem bAK(a b:X Z):(bif aX (B a:Z) (B b:Z) != 0 then aX (B a:Z) (B b:Z)=aX (wv a) (wv b)else (∃i,(i<=B a/\y i a=y i b)/\(a=a/\b=b/\D GB ((B a:Z)-1)=(i:Z)-1/\I)/\I)/\∀(i:V),i<=B a/\y i a=y i b->bif H ((i:Z)-1≥0)then (0<=(i:Z)-1/\(i:Z)-1<(B a:Z))/\(0<=(i:Z)-1/\(i:Z)-1<(B b:Z))/\bif aX (L a (C ((i:Z)-1)) 0) (L b (C ((i:Z)-1)) 0) != 0 then aX (L a (C ((i:Z)-1)) 0) (L b (C ((i:Z)-1)) 0)=aX (wv a) (wv b)else ∃j,(j<=B a/\y j a=y j b)/\((a=a/\b=b/\D GB ((i:Z)-1-1)=(j:Z)-1/\I)/\I)/\id j<id i else 0=aX (wv a) (wv b))=aJ (aK [aHo,aSv] (aR5 a b)) FI [.ws a,.ws b] (AH (.ret (.int .i64 (aX (wv a) (wv b))))):=by kernel_rfl
def aDj:aG
 |[.ws a]=>FT (FT (Cn a/\a.length<=1099511627776),.ret (.int .i64 (bl (wv a).toNat)))
 |_=>F0
theorem bD2:bE FI vG:=by
 intro ms p r h m;unfold vG at h;split at h
 .rename_i a b;cases h;obtain⟨j,g,la,lb⟩:=m;refine⟨aK [aHo,aSv] (aR5 a b),?_⟩;rw[<-bAK a b];cases l:(aX (a.length:Z) (b.length:Z) != 0)with
  |true =>
   rw[Z6];have c:(a.length:Z)≠b.length:=λe=>by rw[e,wC]at l;simp at l
   rcases AM a.length b.length with h|h
   .rw[wB (by omega),wB (lN j.wd g h)]
   .rw[wA (by omega),wA (lN g.wd j (by omega))]
  |false =>
   rw[Z5];have k:a.length=b.length:=by
    grind [aX,fZ]
   refine⟨⟨a.length,⟨Z0 _,by rw[D7,k,D7]⟩,⟨rfl,rfl,aT (by omega) (by omega),trivial⟩,trivial⟩,λi ⟨hi,n⟩=>?_⟩;rw[AL];split
   .rename_i h0;have o:((i:Z)-1).toNat=i-1:=by omega
    rw[o];refine⟨by omega,by omega,?_⟩;have d:a.drop (i-1+1)=b.drop (i-1+1):=by rw[show i-1+1=i by omega];exact n
    cases f:(aX (a.getD (i-1) 0) (b.getD (i-1) 0) != 0)with
    |true =>
     rw[Z6];have c:a.getD (i-1) 0≠b.getD (i-1) 0:=λe=>by rw[e,wC]at f;simp at f
     rcases Int.lt_or_gt_of_ne c with h|h
     .rw[wB h,wB (xA j.wd g.wd (by omega) (by omega) d h)]
     .rw[wA h,wA (xA g.wd j.wd (by omega) (by omega) d.symm h)]
    |false =>
     grind [fZ,List.drop_eq_getElem_cons,aT]
   .have:i=0:=by omega
    grind [wC]
 .simp at h
def aD3:Ctr AE:=⟨88,vG,λargs w=>Tryz.call88 args w,aM bT Tryz.func88 vG bD2⟩
theorem aWj(a:X Z)(b:_)(c:b=(B a:Z)):(bif b ==0 then 0=(bl (C (wv a)):Z)else (0<=D GB (b-1)/\D GB (b-1)< b)/\(0<=L a (C (D GB (b-1))) 0/\L a (C (D GB (b-1))) 0<4294967296)/\D GB (D GB (32*D GB (b-1))+(bl (C (L a (C (D GB (b-1))) 0)):Z))=(bl (C (wv a)):Z))=aJ (aK [aCK] aC) E3 [.ws a] (AH (.ret (.int .i64 (bl (wv a).toNat)))):=by subst c;kernel_rfl
theorem aD2{a:X Z}(h:Cn a)(b:a≠ []):bl (wv a).toNat=32*(a.length-1)+bl (a.getD (a.length-1) 0).toNat:=by
 have hp:0<a.length:=B8.2 b;have c:=nC a (a.length-1) (by omega);rw[BZ (by omega)]at c;simp only[wv,CO,CP]at c;have d:=gD (h.wd.take (a.length-1));have h3:=bB (h.wd.take (a.length-1));rw[AY,BD (by omega)]at d;have h4:=h.wd.getD (a.length-1);have i:a.getD (a.length-1) 0≠0:=by
  intro e;have:=h.top b
  grind
 have e:(4294967296:Z)^(a.length-1)=((2^(32*(a.length-1)):V):Z):=by
  rw[DB];simp[CS]
 rw[e]at c d;obtain⟨q,g⟩:∃q:V,a.getD (a.length-1) 0=q:=⟨(a.getD (a.length-1) 0).toNat,by omega⟩;obtain⟨s,f⟩:∃s:V,wv (a.take (a.length-1))=s:=⟨(wv (a.take (a.length-1))).toNat,by omega⟩;rw[g]at i⊢;rw[g,f]at c;rw[f]at d;have e2:(wv a).toNat=q*2^(32*(a.length-1))+s:=by
  grind
 grind [aD1]
theorem aY2:bE E3 aDj:=by
 intro ms p r h c;unfold aDj at h;split at h
 .rename_i a;cases h;obtain⟨d,la⟩:=c;refine⟨aK [aCK] aC,?_⟩;rw[<-aWj a _ rfl];by_cases b:a=[]
  .subst b;rfl
  .have c:0<a.length:=B8.2 b;have hc:((a.length:Z)==0)=Aa:=by simpa using b
   have e1:i64.wrap ((a.length:Z)-1)=a.length-1:=aT (by omega) (by omega);have e2:((a.length:Z)-1).toNat=a.length-1:=by omega
   have h4:=d.wd.getD (a.length-1)
   grind [bCv,aD2,aT]
 .simp at h
def aNS:Ctr AE:=⟨154,aDj,λargs w=>Tryz.call154 args w,aM bT Tryz.func154 aDj aY2⟩
def aIu:aG
 |[.ws a,.ws b]=>FT (FT (Wd a/\Wd b/\a.length<=1000000000/\b.length<=1000000000),.ret (.ws (aA (wv a+wv b).toNat)))
 |_=>F0
structure AddS where
 x:List Int
 y:List Int
 i:Nat
 out:List Int
 c:Int
structure AddI (a b:List Int) (s:AddS):Prop where
 xy:(s.x=a/\s.y=b)\/(s.x=b/\s.y=a)
 le:s.y.length<=s.x.length
 hi:s.i<=s.x.length+1
 len:s.out.length=s.x.length+1
 wd:Wd s.out
 c0:0<=s.c/\s.c<=1
 sum:wv (s.out.take s.i)+4294967296^s.i*s.c=wv (s.x.take s.i)+wv (s.y.take s.i)
 rest:s.out.drop s.i=(s.x++[0]).drop s.i
def aR4(a b:X Z):V->MS->g LoopAnn
 |7,_=>FT (.inv AddS (AddI a b) (λs=>⟨52, [(0,.ws s.x),(1,.ws s.y),(5,.bs 0 0 (s.x.length+1)),(6,.int .u32 s.c),(24,.int .i64 (s.x.length+1)),(25,.int .i64 s.i)], [⟨Aa,.arr .u32 s.out⟩],0⟩) (λs=>s.x.length+1-s.i))
 |_,_=>F0
theorem bAH(a b:X Z)(d:_)(A:d=λ(i:AddS)=>(AddS.i i:Z))(f:_)(w:f=λ(i:AddS)=>(B (AddS.x i)+1))(e:_)(t:e=λ(i:AddS)=>(AddS.out i))(o:_)(z:o=λ(i:AddS)=>(L (e i) (0+C (d i)) 0+L (AddS.y i) (C (d i)) 0+AddS.c i))(g:_)(s:g=λ(i:AddS)=>(B (AddS.x i):Z))(n:_)(r:n=λ(i:AddS)=>(L (e i) (0+C (d i)) 0+0+AddS.c i))(m:_)(q:m=(B a:Z))(h:_)(u:h=(D GB (m +1)))(l:_)(p:l=(B b:Z))(k:_)(v:k=(D GB (l +1))):(bif H (m < l)then (0<=D GB (l +1)/\D GB (l +1)=D GB (l +1)/\(↑(4:V):Z)*D GB (l +1)<=140737488355328)/\0+C k <=B (G (C k) (0:Z))/\(∃i,AddI a b i/\(b=AddS.x i/\a=AddS.y i/\(0=0/\C k =B (AddS.x i)+1)/\0=AddS.c i/\(C k :Z)= (g i) +1/\0= (d i)/\I)/\R 0 (G (C k) (0:Z))++R (C k) b++GD (0+min (B b) (C k)) (G (C k) (0:Z))=AddS.out i/\I)/\∀(i:AddS),AddI a b i->bif H ((d i) < (g i) +1)then bif H ((d i) <(B (AddS.y i):Z))then (0<= (d i)/\(d i) <(B (AddS.y i):Z))/\(0<= (d i)/\(d i) <(↑ (f i) :Z))/\0+C (d i) <B (e i)/\(0<=L (e i) (0+C (d i)) 0/\L (e i) (0+C (d i)) 0<4294967296/\0<=L (AddS.y i) (C (d i)) 0/\L (AddS.y i) (C (d i)) 0<4294967296/\0<=AddS.c i/\AddS.c i<=1)/\(0<= (d i)/\(d i) <(↑ (f i) :Z))/\0+C (d i) <B (e i)/\∃j,AddI a b j/\((AddS.x i=AddS.x j/\AddS.y i=AddS.y j/\(0=0/\B (AddS.x i)+1=B (AddS.x j)+1)/\(o i) /4294967296=AddS.c j/\(g i) +1=(B (AddS.x j):Z)+1/\D GB ((d i) +1)=(AddS.i j:Z)/\I)/\set (e i) (0+C (d i)) ((o i) %4294967296)=AddS.out j/\I)/\B (AddS.x j)+1-AddS.i j<B (AddS.x i)+1-AddS.i i else (0<= (d i)/\(d i) <(↑ (f i) :Z))/\0+C (d i) <B (e i)/\(0<=L (e i) (0+C (d i)) 0/\L (e i) (0+C (d i)) 0<4294967296/\(0:Z)<=0/\(0:Z)<4294967296/\0<=AddS.c i/\AddS.c i<=1)/\(0<= (d i)/\(d i) <(↑ (f i) :Z))/\0+C (d i) <B (e i)/\∃j,AddI a b j/\((AddS.x i=AddS.x j/\AddS.y i=AddS.y j/\(0=0/\B (AddS.x i)+1=B (AddS.x j)+1)/\(n i) /4294967296=AddS.c j/\(g i) +1=(B (AddS.x j):Z)+1/\D GB ((d i) +1)=(AddS.i j:Z)/\I)/\set (e i) (0+C (d i)) ((n i) %4294967296)=AddS.out j/\I)/\B (AddS.x j)+1-AddS.i j<B (AddS.x i)+1-AddS.i i else (0+ (f i) <=B (e i)/\(∀(x:Z),x∈R (f i) (GD 0 (e i))->0<=x/\x<4294967296)/\B (R (f i) (GD 0 (e i)))<=1099511627776)/\aA (C (wv (R (f i) (GD 0 (e i)))))=aA (C (wv a+wv b))else (0<=D GB (m +1)/\D GB (m +1)=D GB (m +1)/\(↑(4:V):Z)*D GB (m +1)<=140737488355328)/\0+C h <=B (G (C h) (0:Z))/\(∃i,AddI a b i/\(a=AddS.x i/\b=AddS.y i/\(0=0/\C h =B (AddS.x i)+1)/\0=AddS.c i/\(C h :Z)= (g i) +1/\0= (d i)/\I)/\R 0 (G (C h) (0:Z))++R (C h) a++GD (0+min (B a) (C h)) (G (C h) (0:Z))=AddS.out i/\I)/\∀(i:AddS),AddI a b i->bif H ((d i) < (g i) +1)then bif H ((d i) <(B (AddS.y i):Z))then (0<= (d i)/\(d i) <(B (AddS.y i):Z))/\(0<= (d i)/\(d i) <(↑ (f i) :Z))/\0+C (d i) <B (e i)/\(0<=L (e i) (0+C (d i)) 0/\L (e i) (0+C (d i)) 0<4294967296/\0<=L (AddS.y i) (C (d i)) 0/\L (AddS.y i) (C (d i)) 0<4294967296/\0<=AddS.c i/\AddS.c i<=1)/\(0<= (d i)/\(d i) <(↑ (f i) :Z))/\0+C (d i) <B (e i)/\∃j,AddI a b j/\((AddS.x i=AddS.x j/\AddS.y i=AddS.y j/\(0=0/\B (AddS.x i)+1=B (AddS.x j)+1)/\(o i) /4294967296=AddS.c j/\(g i) +1=(B (AddS.x j):Z)+1/\D GB ((d i) +1)=(AddS.i j:Z)/\I)/\set (e i) (0+C (d i)) ((o i) %4294967296)=AddS.out j/\I)/\B (AddS.x j)+1-AddS.i j<B (AddS.x i)+1-AddS.i i else (0<= (d i)/\(d i) <(↑ (f i) :Z))/\0+C (d i) <B (e i)/\(0<=L (e i) (0+C (d i)) 0/\L (e i) (0+C (d i)) 0<4294967296/\(0:Z)<=0/\(0:Z)<4294967296/\0<=AddS.c i/\AddS.c i<=1)/\(0<= (d i)/\(d i) <(↑ (f i) :Z))/\0+C (d i) <B (e i)/\∃j,AddI a b j/\((AddS.x i=AddS.x j/\AddS.y i=AddS.y j/\(0=0/\B (AddS.x i)+1=B (AddS.x j)+1)/\(n i) /4294967296=AddS.c j/\(g i) +1=(B (AddS.x j):Z)+1/\D GB ((d i) +1)=(AddS.i j:Z)/\I)/\set (e i) (0+C (d i)) ((n i) %4294967296)=AddS.out j/\I)/\B (AddS.x j)+1-AddS.i j<B (AddS.x i)+1-AddS.i i else (0+ (f i) <=B (e i)/\(∀(x:Z),x∈R (f i) (GD 0 (e i))->0<=x/\x<4294967296)/\B (R (f i) (GD 0 (e i)))<=1099511627776)/\aA (C (wv (R (f i) (GD 0 (e i)))))=aA (C (wv a+wv b)))=aJ (aK [aHn,kD] (aR4 a b)) FA [.ws a,.ws b] (AH (.ret (.ws (aA (wv a+wv b).toNat)))):=by subst A w t z s r q u p v;kernel_rfl
theorem AddI.step{a b:X Z}{s:AddS}(h:AddI a b s)(ha:Wd a)(hb:Wd b)(hi:s.i<s.x.length+1)(y:Z)(f:y=s.y.getD s.i 0) :
  AddI a b ⟨s.x,s.y,s.i+1,s.out.set s.i ((s.out.getD s.i 0+y+s.c)%4294967296),(s.out.getD s.i 0+y+s.c)/4294967296⟩:=by
 have d:Wd s.y:=by rcases h.xy with ⟨_,e⟩|⟨_,e⟩<;>rw[e]<;>assumption
 have h1:=h.wd.getD s.i;have k:=d.getD s.i;have h3:=h.c0;rw[<-f]at k;have g:s.out.getD s.i 0=s.x.getD s.i 0:=by
  rw[gB h.rest s.i (Z0 _)]
  grind
 have j:s.i<s.out.length:=by rw[h.len];omega
 refine⟨h.xy,h.le,by show s.i+1<=s.x.length+1;omega,by simp[h.len],h.wd.set _ (by omega),by show 0<=(s.out.getD s.i 0+y+s.c)/4294967296/\(s.out.getD s.i 0+y+s.c)/4294967296<=1;omega,?_,?_⟩
 .show wv ((s.out.set s.i ((s.out.getD s.i 0+y+s.c)%4294967296)).take (s.i+1))+4294967296^(s.i+1)*((s.out.getD s.i 0+y+s.c)/4294967296)=wv (s.x.take (s.i+1))+wv (s.y.take (s.i+1));rw[jC _ j,bP,bP,<-f,<-g,AN];have:=kF (4294967296^s.i) (s.out.getD s.i 0+y+s.c);have h4:=h.sum
  grind
 .show(s.out.set s.i _).drop (s.i+1)=(s.x++[0]).drop (s.i+1);rw[iG];exact fK h.rest
theorem AddI.init{a b x y:X Z}(h:(x=a/\y=b)\/(x=b/\y=a))(e:y.length<=x.length)(d:Wd x):AddI a b ⟨x,y,0,x++[0],0⟩ :=
 ⟨h,e,by show 0<=_;omega,by simp,d.append (λz c=>by simp at c;subst c;omega),⟨BY _,by show(0:Z)<=1;omega⟩,by simp[wv],rfl⟩
theorem b7(k:V):(0:Z)<4294967296^k:=BX (by omega)
theorem uZ{j k:V}(h:j<=k):(4294967296:Z)^j<=4294967296^k:=by
 have:=A1 (show 0<4294967296 by omega) h
 grind
theorem AddI.fin{a b:X Z}{s:AddS}(h:AddI a b s)(ha:Wd a)(hb:Wd b)(hi:¬s.i<s.x.length+1):wv s.out=wv a+wv b:=by
 have e:s.i=s.x.length+1:=by have:=h.hi;omega
 have g:=h.sum;rw[e,cY (by rw[h.len];omega),cY (by omega),cY (by have:=h.le;omega)]at g;have f:Wd s.x:=by rcases h.xy with ⟨e,_⟩|⟨e,_⟩<;>rw[e]<;>assumption
 have d:Wd s.y:=by rcases h.xy with ⟨_,e⟩|⟨_,e⟩<;>rw[e]<;>assumption
 have h2:=gD f;have h3:=gD d;have h4:=uZ h.le;have h5:=bB h.wd;have h6:=b7 s.x.length;have h7:=h.c0;have hs:wv s.x+wv s.y=wv a+wv b:=by rcases h.xy with ⟨k,j⟩|⟨k,j⟩<;>rw[k,j]<;>omega
 have l:s.c=0:=by
  grind
 rw[l]at g;omega
theorem bDZ:bE FA aIu:=by
 intro ms p r h o;unfold aIu at h;split at h
 .rename_i a b;cases h;obtain⟨f,d,n,lb⟩:=o;refine⟨aK [aHn,kD] (aR4 a b),?_⟩;rw[<-bAH a b _ rfl _ rfl _ rfl _ rfl _ rfl _ rfl _ rfl _ rfl _ rfl _ rfl];have m:∀l:X Z,l.length<=1000000000->i64.wrap ((l.length:Z)+1)=l.length+1:=λl hl=>aT (by omega) (by omega);have t:∀l:X Z,((l.length:Z)+1).toNat=l.length+1:=λl=>by omega
  have u:∀l:X Z,l.take (l.length+1)=l:=λl=>AI (by omega);have v:∀l:X Z,(G (l.length+1) (0:Z)).drop (min l.length (l.length+1))=[0]:=λl=>by
   simp_all
  simp only[AL,m a n,m b lb,t,BE,EH,EB,A8,u,v,Z8];refine aQL (λh=>?_) (λh=>?_) (λs c=>?_)
  .refine⟨by and_intros<;>first|exact⟨⟩|omega,by simp,⟨b,a,0,b++[0],0⟩,AddI.init (.inr ⟨rfl,rfl⟩) (by omega) d,?_⟩
   simp_all
  .refine⟨by and_intros<;>first|exact⟨⟩|omega,by simp,⟨a,b,0,a++[0],0⟩,AddI.init (.inl ⟨rfl,rfl⟩) (by omega) f,?_⟩
   simp_all
  .have hxl:s.x.length<=1000000000:=by rcases c.xy with ⟨e,_⟩|⟨e,_⟩<;>rw[e]<;>assumption
   have g:Wd s.y:=by rcases c.xy with ⟨_,e⟩|⟨_,e⟩<;>rw[e]<;>assumption
   have h1:=c.wd.getD s.i;have h2:=g.getD s.i;have h3:=c.c0;have h4:=c.len;split
   .rename_i j;have k:s.i<s.x.length+1:=by omega
    have z:i64.wrap ((s.i:Z)+1)=((s.i+1:V):Z):=by rw[aT (by omega) (by omega)];omega
    rw[z];split
    .refine⟨by omega,by omega,by omega,by omega,by omega,by omega,_,c.step f d k (s.y.getD s.i 0) rfl,by and_intros<;>first|exact⟨⟩|rfl,?_⟩
     grind
    .refine⟨by omega,by omega,by omega,by omega,by omega,_,c.step f d k 0 ?_,by and_intros<;>first|exact⟨⟩|rfl,?_⟩
     all_goals grind
   .rename_i j;have q:=c.fin f d (by omega);have w:s.out.take (s.x.length+1)=s.out:=AI (by omega);rw[w,q];exact⟨⟨by omega,c.wd,by omega⟩,rfl⟩
 .simp at h
def aSG:Ctr AE:=⟨124,aIu,λargs w=>Tryz.call124 args w,aM bT Tryz.func124 aIu bDZ⟩
def aIB:aG
 |[.ws a,.ws b]=>FT (FT (Wd a/\Wd b/\wv b<=wv a/\b.length<=a.length/\a.length<=1000000000),.ret (.ws (aA (wv a-wv b).toNat)))
 |_=>F0
structure SubI (a b:List Int) (s:AddS):Prop where
 hi:s.i<=a.length
 len:s.out.length=a.length
 wd:Wd s.out
 c0:0<=s.c/\s.c<=1
 sum:wv (s.out.take s.i)-4294967296^s.i*s.c=wv (a.take s.i)-wv (b.take s.i)
 rest:s.out.drop s.i=a.drop s.i
def aR9(a b:X Z):V->MS->g LoopAnn
 |5,_=>FT (.inv AddS (SubI a b) (λs=>⟨44, [(0,.ws a),(1,.ws b),(5,.bs 0 0 a.length),(6,.int .u32 s.c),(16,.int .i64 a.length),(17,.int .i64 s.i)], [⟨Aa,.arr .u32 s.out⟩],0⟩) (λs=>a.length-s.i))
 |_,_=>F0
theorem bAP(a b:X Z)(e:_)(m:e=(B a:Z))(d:_)(l:d=λ(i:AddS)=>(AddS.i i:Z))(f:_)(k:f=λ(i:AddS)=>(AddS.out i))(g:_)(h:g=(G (C e) (0:Z))):((0<= e/\e = e/\(↑(4:V):Z)* e <=140737488355328)/\0+C e <=B g/\(∃i,SubI a b i/\(a=a/\b=b/\(0=0/\C e =B a)/\0=AddS.c i/\(C e :Z)= e/\0= (d i)/\I)/\R 0 g ++R (C e) a++y (0+min (B a) (C e)) g =AddS.out i/\I)/\∀(i:AddS),SubI a b i->bif H ((d i) < e)then bif H ((d i) <(B b:Z))then (0<= (d i)/\(d i) <(B b:Z))/\(0<= (d i)/\(d i) < e)/\0+C (d i) <B (f i)/\(0<=L (f i) (0+C (d i)) 0/\L (f i) (0+C (d i)) 0<4294967296/\0<=L b (C (d i)) 0/\L b (C (d i)) 0<4294967296/\0<=AddS.c i/\AddS.c i<=1)/\(0<= (d i)/\(d i) < e)/\0+C (d i) <B (f i)/\∃j,SubI a b j/\((a=a/\b=b/\(0=0/\B a=B a)/\(if L (f i) (0+C (d i)) 0<L b (C (d i)) 0+AddS.c i then (1:Z)else (0:Z))=AddS.c j/\e = e/\D GB ((d i) +1)=(AddS.i j:Z)/\I)/\set (f i) (0+C (d i)) ((L (f i) (0+C (d i)) 0-L b (C (d i)) 0-AddS.c i)%4294967296)=AddS.out j/\I)/\B a-AddS.i j<B a-AddS.i i else (0<= (d i)/\(d i) < e)/\0+C (d i) <B (f i)/\(0<=L (f i) (0+C (d i)) 0/\L (f i) (0+C (d i)) 0<4294967296/\(0:Z)<=0/\(0:Z)<4294967296/\0<=AddS.c i/\AddS.c i<=1)/\(0<= (d i)/\(d i) < e)/\0+C (d i) <B (f i)/\∃j,SubI a b j/\((a=a/\b=b/\(0=0/\B a=B a)/\(if L (f i) (0+C (d i)) 0<0+AddS.c i then (1:Z)else (0:Z))=AddS.c j/\e = e/\D GB ((d i) +1)=(AddS.i j:Z)/\I)/\set (f i) (0+C (d i)) ((L (f i) (0+C (d i)) 0-0-AddS.c i)%4294967296)=AddS.out j/\I)/\B a-AddS.i j<B a-AddS.i i else (0+B a<=B (f i)/\(∀(x:Z),x∈R (B a) (y 0 (f i))->0<=x/\x<4294967296)/\B (R (B a) (y 0 (f i)))<=1099511627776)/\aA (C (wv (R (B a) (y 0 (f i)))))=aA (C (wv a-wv b)))=aJ (aK [aHu,kD] (aR9 a b)) E9 [.ws a,.ws b] (AH (.ret (.ws (aA (wv a-wv b).toNat)))):=by subst m l k h;kernel_rfl
theorem SubI.step{a b:X Z}{s:AddS}(h:SubI a b s)(g:Wd b)(hi:s.i<a.length)(y:Z)(d:y=b.getD s.i 0) :
  SubI a b ⟨s.x,s.y,s.i+1,s.out.set s.i ((s.out.getD s.i 0-y-s.c)%4294967296),if s.out.getD s.i 0<y+s.c then 1 else 0⟩:=by
 have h1:=h.wd.getD s.i;have j:=g.getD s.i;have h3:=h.c0;rw[<-d]at j;have e:s.out.getD s.i 0=a.getD s.i 0:=gB h.rest s.i (Z0 _);have f:s.i<s.out.length:=by rw[h.len];omega
 refine⟨by show s.i+1<=a.length;omega,by simp[h.len],h.wd.set _ (by omega),by show 0<=(if s.out.getD s.i 0<y+s.c then (1:Z)else 0)/\(if s.out.getD s.i 0<y+s.c then (1:Z)else 0)<=1;split<;>omega,?_,?_⟩
 .show wv ((s.out.set s.i ((s.out.getD s.i 0-y-s.c)%4294967296)).take (s.i+1))-4294967296^(s.i+1)*(if s.out.getD s.i 0<y+s.c then 1 else 0)=wv (a.take (s.i+1))-wv (b.take (s.i+1));rw[jC _ f,bP,bP,<-d,<-e,AN];have:=kF (4294967296^s.i) (s.out.getD s.i 0-y-s.c);have h4:=h.sum;have h5:(s.out.getD s.i 0-y-s.c)/4294967296= -(if s.out.getD s.i 0<y+s.c then 1 else 0):=by split<;>omega
  grind
 .show(s.out.set s.i _).drop (s.i+1)=a.drop (s.i+1);rw[iG];exact fK h.rest
theorem SubI.fin{a b:X Z}{s:AddS}(h:SubI a b s)(hle:wv b<=wv a)(hl:b.length<=a.length)(hi:¬s.i<a.length):wv s.out=wv a-wv b:=by
 have e:s.i=a.length:=by have:=h.hi;omega
 have d:=h.sum;rw[e,cY (by rw[h.len];omega),cY (by omega),cY (by omega)]at d;have g:=gD h.wd;rw[h.len]at g;have h6:=b7 a.length;have h7:=h.c0;have f:s.c=0:=by
  grind
 rw[f]at d;omega
theorem bD7:bE E9 aIB:=by
 intro ms p r h j;unfold aIB at h;split at h
 .rename_i a b;cases h;obtain⟨m,d,f,k,la⟩:=j;refine⟨aK [aHu,kD] (aR9 a b),?_⟩;rw[<-bAP a b _ rfl _ rfl _ rfl _ rfl];have n:(G a.length (0:Z)).drop (min a.length a.length)=[]:=by simp
  simp only[AL,BE,EH,EB,A8,n,Z8,A6,List.append_nil];refine⟨by and_intros<;>first|exact⟨⟩|omega,by simp,⟨⟨a,b,0,a,0⟩,⟨by show 0<=_;omega,rfl,m,⟨BY _,by show(0:Z)<=1;omega⟩,by simp[wv],rfl⟩,?_⟩,λs c=>?_⟩
  .simp_all
  .have h1:=c.wd.getD s.i;have h2:=d.getD s.i;have h3:=c.c0;have h4:=c.len;split
   .rename_i e;have g:s.i<a.length:=by omega
    have q:i64.wrap ((s.i:Z)+1)=((s.i+1:V):Z):=by rw[aT (by omega) (by omega)];omega
    rw[q];split
    .refine⟨by omega,by omega,by omega,by omega,by omega,by omega,_,c.step d g (b.getD s.i 0) rfl,by and_intros<;>first|exact⟨⟩|rfl,?_⟩
     grind
    .refine⟨by omega,by omega,by omega,by omega,by omega,_,c.step d g 0 ?_,by and_intros<;>first|exact⟨⟩|rfl,?_⟩
     all_goals grind
   .rename_i e;have l:=c.fin f k (by omega);have o:s.out.take a.length=s.out:=AI (by omega);rw[o,l];exact⟨⟨by omega,c.wd,by omega⟩,rfl⟩
 .simp at h
def aSJ:Ctr AE:=⟨125,aIB,λargs w=>Tryz.call125 args w,aM bT Tryz.func125 aIB bD7⟩
def aIy:aG
 |[.ws a,.ws b]=>FT (FT (Wd a/\Wd b/\a.length<=1000000000/\b.length<=1000000000),.ret (.ws (aA (wv a*wv b).toNat)))
 |_=>F0
structure MulS where
 i:Nat
 k:Nat
 out:List Int
 c:Int
structure MulO (a b:List Int) (s:MulS):Prop where
 hi:s.i<=a.length
 len:s.out.length=a.length+b.length
 wd:Wd s.out
 sum:wv s.out=wv (a.take s.i)*wv b
 rest:∀j,s.i+b.length<=j->s.out.getD j 0=0
structure MulN (a b:List Int) (s:MulS):Prop where
 hi:s.i<a.length
 hk:s.k<=b.length
 len:s.out.length=a.length+b.length
 wd:Wd s.out
 c0:0<=s.c/\s.c<4294967296
 sum:wv s.out+4294967296^(s.i+s.k)*s.c=wv (a.take s.i)*wv b+4294967296^s.i*(a.getD s.i 0*wv (b.take s.k))
 rest:∀j,s.i+b.length<=j->s.out.getD j 0=0
def aR6(a b:X Z):V->MS->g LoopAnn
 |3,_=>FT (.inv MulS (MulO a b) (λs=>⟨68, [(1,.ws b),(5,.bs 0 0 (a.length+b.length)),(18,.ws a),(19,.int .i64 a.length),(20,.int .i64 s.i)], [⟨Aa,.arr .u32 s.out⟩],0⟩) (λs=>a.length-s.i))
 |7,d=>FT (.inv MulS (λs=>MulN a b s/\.int .i64 (s.i:Z)=aW 20 d.tm) (λs=>⟨68, [(1,.ws b),(5,.bs 0 0 (a.length+b.length)),(6,.int .i64 s.i),(7,.int .u32 (a.getD s.i 0)),(8,.int .u64 s.c),(18,.ws a),(19,.int .i64 a.length),(20,.int .i64 s.i),(25,.ws b),(26,.int .i64 b.length),(27,.int .i64 s.k)], [⟨Aa,.arr .u32 s.out⟩],0⟩) (λs=>b.length-s.k))
 |_,_=>F0
theorem bAM(a b:X Z)(f:_)(q:f=(B a:Z))(e:_)(p:e=(B b:Z))(d:_)(o:d=λ(i_1:MulS)=>(MulS.i i_1:Z))(h:_)(n:h=(B a+B b))(g:_)(m:g=λ(i_1:MulS)=>(MulS.k i_1:Z))(l:_)(r:l=λ(i_1:MulS)=>(D GA (D GA (D GA (D GA (L a (MulS.i i_1) 0)*D GA (L b (C (g i_1)) 0))+D GA (L (MulS.out i_1) (0+C (D GB ((d i_1) + (g i_1)))) 0))+MulS.c i_1))):((0<=D GB (f + e)/\D GB (f + e)=D GB (f + e)/\(↑(4:V):Z)*D GB (f + e)<=140737488355328)/\(∃i,MulO a b i/\(b=b/\(0=0/\C (D GB (f + e))=B a+B b)/\a=a/\f = f/\0=(MulS.i i:Z)/\I)/\G (C (D GB (f + e))) (0:Z)=MulS.out i/\I)/\∀(i:MulS),MulO a b i->bif H ((MulS.i i:Z)< f)then (0<=(MulS.i i:Z)/\(MulS.i i:Z)< f)/\(∃i_1,(MulN a b i_1/\MV.int GB (d i_1) =MV.int GB (MulS.i i:Z))/\(b=b/\(0=0/\B a+B b=B a+B b)/\(MulS.i i:Z)= (d i_1)/\L a (C (MulS.i i:Z)) 0=L a (MulS.i i_1) 0/\0=MulS.c i_1/\a=a/\f = f/\(MulS.i i:Z)= (d i_1)/\b=b/\e = e/\0= (g i_1)/\I)/\MulS.out i=MulS.out i_1/\I)/\∀(i_1:MulS),MulN a b i_1/\MV.int GB (d i_1) =MV.int GB (MulS.i i:Z)->bif H ((g i_1) < e)then (0<= (g i_1)/\(g i_1) < e)/\(0<=D GB ((d i_1) + (g i_1))/\D GB ((d i_1) + (g i_1))<(↑ h :Z))/\0+C (D GB ((d i_1) + (g i_1)))<B (MulS.out i_1)/\(0:Z)<=32/\(0<=D GB ((d i_1) + (g i_1))/\D GB ((d i_1) + (g i_1))<(↑ h :Z))/\0+C (D GB ((d i_1) + (g i_1)))<B (MulS.out i_1)/\∃j,(MulN a b j/\MV.int GB (MulS.i j:Z)=MV.int GB (MulS.i i:Z))/\((b=b/\(0=0/\B a+B b=B a+B b)/\(d i_1) =(MulS.i j:Z)/\L a (MulS.i i_1) 0=L a (MulS.i j) 0/\fdiv (l i_1) ((2:Z)^min (C 32) (AA GA))=MulS.c j/\a=a/\f = f/\(d i_1) =(MulS.i j:Z)/\b=b/\e = e/\D GB ((g i_1) +1)=(MulS.k j:Z)/\I)/\set (MulS.out i_1) (0+C (D GB ((d i_1) + (g i_1)))) (D GC (l i_1))=MulS.out j/\I)/\B b-MulS.k j<B b-MulS.k i_1 else (0<=D GB ((d i_1) + e)/\D GB ((d i_1) + e)<(↑ h :Z))/\0+C (D GB ((d i_1) + e))<B (MulS.out i_1)/\∃j,MulO a b j/\((b=b/\(0=0/\B a+B b=B a+B b)/\a=a/\f = f/\D GB ((d i_1) +1)=(MulS.i j:Z)/\I)/\set (MulS.out i_1) (0+C (D GB ((d i_1) + e))) (D GC (MulS.c i_1))=MulS.out j/\I)/\B a-MulS.i j<B a-MulS.i i else (0+ h <=B (MulS.out i)/\(∀(x:Z),x∈R h (y 0 (MulS.out i))->0<=x/\x<4294967296)/\B (R h (y 0 (MulS.out i)))<=1099511627776)/\aA (C (wv (R h (y 0 (MulS.out i)))))=aA (C (wv a*wv b)))=aJ (aK [kD] (aR6 a b)) E4 [.ws a,.ws b] (AH (.ret (.ws (aA (wv a*wv b).toNat)))):=by subst q p o n m r;kernel_rfl
theorem aFv(l:X Z)(i:V)(v:Z)(h:i<l.length):wv (l.set i v)=wv l+4294967296^i*(v-l.getD i 0):=by
 have h1:=nC (l.set i v) i (by simpa using h)
 grind [nC,iG,D0]
theorem mX{l:X Z}{i j:V}(v:Z)(h:i≠j):(l.set i v).getD j 0=l.getD j 0:=by
 simp_all
theorem MulN.step{a b:X Z}{s:MulS}(h:MulN a b s)(n:Wd a)(m:Wd b)(hk:s.k<b.length)(t:Z)(ht:t=a.getD s.i 0*b.getD s.k 0+s.out.getD (s.i+s.k) 0+s.c) :
  (0<=a.getD s.i 0*b.getD s.k 0/\a.getD s.i 0*b.getD s.k 0<=18446744065119617025)/\0<=t/\t<18446744073709551616/\MulN a b ⟨s.i,s.k+1,s.out.set (s.i+s.k) (t%4294967296),t/4294967296⟩:=by
 have h1:=h.wd.getD (s.i+s.k);have o:=n.getD s.i;have f:=m.getD s.k;have h4:=h.c0;have l:=h.hi;have e:0<=a.getD s.i 0*b.getD s.k 0:=A2 o.1 f.1;have hp1:a.getD s.i 0*b.getD s.k 0<=4294967295*4294967295:=C0 (by omega) (by omega) f.1 (by omega);have g:s.i+s.k<s.out.length:=by rw[h.len];omega
 refine⟨⟨e,by omega⟩,by omega,by omega,l,by show s.k+1<=b.length;omega,by simp[h.len],h.wd.set _ (by omega),by show 0<=t/4294967296/\t/4294967296<4294967296;omega,?_,λj d=>?_⟩
 .show wv (s.out.set (s.i+s.k) (t%4294967296))+4294967296^(s.i+(s.k+1))*(t/4294967296)=wv (a.take s.i)*wv b+4294967296^s.i*(a.getD s.i 0*wv (b.take (s.k+1)));rw[aFv _ _ _ g,bP,show s.i+(s.k+1)=s.i+s.k+1 by omega,AN];have h5:=kF (4294967296^(s.i+s.k)) t;have h6:=h.sum
  grind
 .show(s.out.set (s.i+s.k) (t%4294967296)).getD j 0=0;have d:s.i+b.length<=j:=d;rw[mX _ (by omega)];exact h.rest j d
theorem MulN.done{a b:X Z}{s:MulS}(h:MulN a b s)(hk:¬s.k<b.length):MulO a b ⟨s.i+1,0,s.out.set (s.i+b.length) s.c,0⟩:=by
 have e:s.k=b.length:=by have:=h.hk;omega
 have hi:=h.hi;have f:s.i+b.length<s.out.length:=by rw[h.len];omega
 refine⟨by show s.i+1<=a.length;omega,by simp[h.len],h.wd.set _ h.c0,?_,λj d=>?_⟩
 .show wv (s.out.set (s.i+b.length) s.c)=wv (a.take (s.i+1))*wv b;rw[aFv _ _ _ f,h.rest _ (Z0 _),bP];have h6:=h.sum
  grind
 .show(s.out.set (s.i+b.length) s.c).getD j 0=0;have d:s.i+1+b.length<=j:=d;rw[mX _ (by omega)];exact h.rest j (by omega)
theorem bIk{x y o c:Z}(b:0<=x/\x<4294967296)(a:0<=y/\y<4294967296)(_ho:0<=o/\o<4294967296)(_hp:0<=x*y/\x*y<=18446744065119617025)(h0:0<=x*y+o+c)(h1:x*y+o+c<18446744073709551616) :
  u64.wrap (u64.wrap (u64.wrap (u64.wrap x*u64.wrap y)+u64.wrap o)+c)=x*y+o+c:=by
 simp only[l8];have e:x%18446744073709551616=x:=BP b.1 (by omega);have d:y%18446744073709551616=y:=BP a.1 (by omega);rw[e,d];generalize x*y=q at *;omega
theorem bD4:bE E4 aIy:=by
 intro ms p r h m;unfold aIy at h;split at h
 .rename_i a b;cases h;obtain⟨v,u,la,lb⟩:=m;refine⟨aK [kD] (aR6 a b),?_⟩;rw[<-bAM a b _ rfl _ rfl _ rfl _ rfl _ rfl _ rfl];have A:i64.wrap ((a.length:Z)+b.length)=((a.length+b.length:V):Z):=by rw[aT (by omega) (by omega)];omega
  simp only[AL,A,BE,Z8,A8,p32];refine⟨by and_intros<;>first|exact⟨⟩|omega,⟨⟨0,0,G (a.length+b.length) 0,0⟩,⟨by show 0<=_;omega,by simp,Wd.replicate _,by show wv (G _ 0)=_;rw[gE];simp[wv],λj _=>?_⟩,by and_intros<;>first|exact⟨⟩|rfl⟩,λs d=>?_⟩
  .grind
  .split
   .rename_i o;have x:s.i<a.length:=by omega
    refine⟨by omega,⟨⟨s.i,0,s.out,0⟩,⟨⟨x,by show 0<=_;omega,d.len,d.wd,⟨BY _,by show(0:Z)<4294967296;omega⟩,?_,d.rest⟩,rfl⟩,by and_intros<;>first|exact⟨⟩|rfl⟩,λt ⟨l,g⟩=>?_⟩
    .show wv s.out+4294967296^(s.i+0)*0=wv (a.take s.i)*wv b+4294967296^s.i*(a.getD s.i 0*wv (b.take 0));rw[d.sum];simp[wv]
    .have g:(t.i:Z)=s.i:=by simpa using g
     have g:t.i=s.i:=by omega
     have hk:=l.hk;have w:=l.len;have B:i64.wrap ((t.i:Z)+t.k)=((t.i+t.k:V):Z):=by rw[aT (by omega) (by omega)];omega
     have C:i64.wrap ((t.i:Z)+b.length)=((t.i+b.length:V):Z):=by rw[aT (by omega) (by omega)];omega
     have E:i64.wrap ((t.k:Z)+1)=((t.k+1:V):Z):=by rw[aT (by omega) (by omega)];omega
     have n:i64.wrap ((t.i:Z)+1)=((t.i+1:V):Z):=by rw[aT (by omega) (by omega)];omega
     simp only[B,C,E,n,Z8];split
     .rename_i q;obtain⟨m,z,y,hst⟩:=l.step v u (by omega) _ rfl;rw[bIk (v.getD _) (u.getD _) (l.wd.getD _) m z y]
      grind [AF,l7]
     .rename_i q;have hc:=l.c0;have D:u32.wrap t.c=t.c:=by rw[l7];omega
      rw[D];refine⟨by omega,by omega,_,l.done (by omega),by and_intros<;>first|exact⟨⟩|rfl,?_⟩
      grind
   .rename_i o;have e:s.i=a.length:=by have:=d.hi;omega
    have f:=d.sum;have w:=d.len;have n:s.out.take (a.length+b.length)=s.out:=AI (by omega);rw[e,A6]at f;rw[n,f];exact⟨⟨by omega,d.wd,by omega⟩,rfl⟩
 .simp at h
def aSI:Ctr AE:=⟨153,aIy,λargs w=>Tryz.call153 args w,aM bT Tryz.func153 aIy bD4⟩
theorem aUi{A y k:V}(h:A%2^k=0)(hy:y<2^k):A |||y=A+y:=by
 have e:A=(A/2^k) <<< k:=by
  grind [Nat.shiftLeft_eq,Nat.div_add_mod]
 grind [Nat.shiftLeft_add_eq_or_of_lt]
theorem aQ2{A y:Z}(k:V)(hA:0<=A)(hA2:A<18446744073709551616)(b:A.toNat%2^k=0)(hy:0<=y)(a:y.toNat<2^k)(hk:A+y<18446744073709551616) :
  u64.wrap (↑(M (AA GA) A |||ofInt (AA GA) y).toNat)=A+y:=by
 rw[l8,D5];have d:(M (AA GA) A).toNat=A.toNat:=by
  rw[BJ];show(A%18446744073709551616).toNat=_;omega
 have c:(M (AA GA) y).toNat=y.toNat:=by
  rw[BJ];show(y%18446744073709551616).toNat=_;omega
 rw[d,c,aUi b a];omega
theorem bG8{A y:Z}(k:V)(hA:0<=A)(hA2:A<4294967296)(b:A.toNat%2^k=0)(hy:0<=y)(a:y.toNat<2^k)(hk:A+y<4294967296) :
  u32.wrap (↑(M (AA GC) y |||ofInt (AA GC) A).toNat)=A+y:=by
 rw[l7,D5];have d:(M (AA GC) A).toNat=A.toNat:=by
  rw[BJ];show(A%4294967296).toNat=_;omega
 have c:(M (AA GC) y).toNat=y.toNat:=by
  rw[BJ];show(y%4294967296).toNat=_;omega
 rw[d,c,Nat.or_comm,aUi b a];omega
def aC8:aG
 |[.int .u32 h,.int .u32 l,.int .u32 y]=>FT (FT (0<=h/\h<y/\y<4294967296/\0<=l/\l<4294967296),.ret (.tup [.int .u32 ((h*4294967296+l)/y),.int .u32 ((h*4294967296+l)%y)]))
 |_=>F0
theorem aV4(h l y:Z)(a:_)(b:a=(D GA (BK (M (AA GA) (D GA (D GA h*2^min (C 32) (AA GA))) |||ofInt (AA GA) (D GA l)):Z))):(bif y != 0 then bif H (y<=h)then z else (0:Z)<=32/\(D GA y=0->z)/\(D GA y=0->z)/\D GC (D GA (GE a (D GA y)))=(h*4294967296+l)/y/\D GC (GF a (D GA y))=(h*4294967296+l)%y/\I else (0:Z)<=32/\(D GA y=0->z)/\(D GA y=0->z)/\D GC (D GA (GE a (D GA y)))=(h*4294967296+l)/y/\D GC (GF a (D GA y))=(h*4294967296+l)%y/\I)=aJ (aK [] aC) EU [.int .u32 h,.int .u32 l,.int .u32 y] (AH (.ret (.tup [.int .u32 ((h*4294967296+l)/y),.int .u32 ((h*4294967296+l)%y)]))):=by subst b;kernel_rfl
theorem bGK{h l y:Z}(h0:0<=h)(h1:h<y)(l0:0<=l)(l1:l<4294967296):0<=(h*4294967296+l)/y/\(h*4294967296+l)/y<4294967296:=by
 refine⟨A4 (by omega) (by omega),CU (by omega) ?_⟩;omega
theorem aYR:bE EU aC8:=by
 intro ms p r a d;unfold aC8 at a;split at a
 .rename_i h l y;simp only[Z1,Z2]at a;obtain⟨rfl,rfl⟩:=a;obtain⟨f,e,h2,b,c⟩:=d;refine⟨aK [] aC,?_⟩;rw[<-aV4 h l y _ rfl,p32];have eh:u64.wrap h=h:=by rw[l8];omega
  have el:u64.wrap l=l:=by rw[l8];omega
  have ey:u64.wrap y=y:=by rw[l8];omega
  have em:u64.wrap (h*4294967296)=h*4294967296:=by rw[l8];omega
  have eo:u64.wrap (↑(M (AA GA) (h*4294967296) |||ofInt (AA GA) l).toNat)=h*4294967296+l :=
   aQ2 32 (by omega) (by omega) (by omega) b (by omega) (by omega)
  have hd:=bGK f e b c;have hm:=BU (h*4294967296+l) (show y≠0 by omega);have hm2:=BB (h*4294967296+l) (show 0<y by omega)
  grind [Int.tdiv_eq_ediv_of_nonneg,Int.tmod_eq_emod_of_nonneg,l8,l7]
 .simp at a
def aNK:Ctr AE:=⟨199,aC8,λargs w=>Tryz.call199 args w,aM bT Tryz.func199 aC8 aYR⟩
def aDk:aG
 |[.ws a,.int .u32 d]=>FT (FT (Wd a/\0<d/\d<4294967296/\a.length<=1000000000),.ret (.tup [.ws (aA (wv a/d).toNat),.int .u32 (wv a%d)]))
 |_=>F0
structure DwS where
 k:Nat
 out:List Int
 c:Int
structure DwI (a:List Int) (d:Int) (s:DwS):Prop where
 hk:s.k<=a.length
 len:s.out.length=a.length
 wd:Wd s.out
 c0:0<=s.c/\s.c<d
 sum:wv (s.out.drop s.k)*d+s.c=wv (a.drop s.k)
def aNm(a:X Z)(d:Z):V->MS->g LoopAnn
 |4,_=>FT (.inv DwS (DwI a d) (λs=>⟨35, [(0,.ws a),(1,.int .u32 d),(6,.bs 0 0 a.length),(7,.int .u32 s.c),(8,.int .i64 ((s.k:Z)-1))], [⟨Aa,.arr .u32 s.out⟩],0⟩) (λs=>s.k))
 |_,_=>F0
theorem aWk(a:X Z)(d:Z)(e:_)(g:e=(B a:Z))(b:_)(f:b=λ(i:DwS)=>(DwS.k i:Z)):((0<= e/\e = e/\(↑(4:V):Z)* e <=140737488355328)/\(∃i,DwI a d i/\(a=a/\d=d/\(0=0/\C e =B a)/\0=DwS.c i/\D GB (e-1)= (b i)-1/\I)/\G (C e) (0:Z)=DwS.out i/\I)/\∀(i:DwS),DwI a d i->bif H ((b i)-1≥0)then (0<= (b i)-1/\(b i)-1< e)/\(0<=DwS.c i/\DwS.c i<d/\d<4294967296/\0<=L a (C ((b i)-1)) 0/\L a (C ((b i)-1)) 0<4294967296)/\(0<= (b i)-1/\(b i)-1< e)/\0+C ((b i)-1)<B (DwS.out i)/\∃j,DwI a d j/\((a=a/\d=d/\(0=0/\B a=B a)/\(DwS.c i*4294967296+L a (C ((b i)-1)) 0)%d=DwS.c j/\D GB ((b i)-1-1)=(DwS.k j:Z)-1/\I)/\set (DwS.out i) (0+C ((b i)-1)) ((DwS.c i*4294967296+L a (C ((b i)-1)) 0)/d)=DwS.out j/\I)/\DwS.k j<DwS.k i else (0+B a<=B (DwS.out i)/\(∀(x:Z),x∈R (B a) (y 0 (DwS.out i))->0<=x/\x<4294967296)/\B (R (B a) (y 0 (DwS.out i)))<=1099511627776)/\aA (C (wv (R (B a) (y 0 (DwS.out i)))))=aA (C (wv a/d))/\DwS.c i=wv a%d/\I)=aJ (aK [aNK,kD] (aNm a d)) EZ [.ws a,.int .u32 d] (AH (.ret (.tup [.ws (aA (wv a/d).toNat),.int .u32 (wv a%d)]))):=by subst g f;kernel_rfl
theorem rA{l:X Z}{k:V}(h:k<l.length):l.drop k=l.getD k 0::l.drop (k+1):=by
 simp_all
theorem DwI.step{a:X Z}{d:Z}{s:DwS}(h:DwI a d s)(g:Wd a)(_hd:d<4294967296)(hk:0<s.k) :
  DwI a d ⟨s.k-1,s.out.set (s.k-1) ((s.c*4294967296+a.getD (s.k-1) 0)/d),(s.c*4294967296+a.getD (s.k-1) 0)%d⟩:=by
 have e:=g.getD (s.k-1);have b:=h.c0;have f:=bGK b.1 b.2 e.1 e.2;have hkk:=h.hk;have hl:=h.len;refine⟨by show s.k-1<=a.length;omega,by simp[h.len],h.wd.set _ f,⟨BU _ (by omega),BB _ (by omega)⟩,?_⟩;show wv ((s.out.set (s.k-1) ((s.c*4294967296+a.getD (s.k-1) 0)/d)).drop (s.k-1))*d+(s.c*4294967296+a.getD (s.k-1) 0)%d=wv (a.drop (s.k-1));rw[rA (l:=s.out.set _ _) (by simp;omega),rA (l:=a) (by omega),iG,show s.k-1+1=s.k by omega];rw[show(s.out.set (s.k-1) ((s.c*4294967296+a.getD (s.k-1) 0)/d)).getD (s.k-1) 0=(s.c*4294967296+a.getD (s.k-1) 0)/d by simp[show s.k-1<s.out.length by omega]];simp only[wv];have h3:=h.sum;have h4:=AS (s.c*4294967296+a.getD (s.k-1) 0) d;generalize wv (s.out.drop s.k)=t at *;generalize wv (a.drop s.k)=u at *;generalize (s.c*4294967296+a.getD (s.k-1) 0)/d=q at *;rw[DC,B5,A5 q d];generalize t*d=td at *;generalize d*q=dq at *;omega
theorem aY3:bE EZ aDk:=by
 intro ms p r h o;unfold aDk at h;split at h
 .rename_i a d;cases h;obtain⟨l,j,q,la⟩:=o;refine⟨aK [aNK,kD] (aNm a d),?_⟩;rw[<-aWk a d _ rfl _ rfl];have t:i64.wrap ((a.length:Z)-1)=(a.length:Z)-1:=aT (by omega) (by omega);simp only[AL,t,BE,Z8,A8];refine⟨by and_intros<;>first|exact⟨⟩|omega,⟨⟨a.length,G a.length 0,0⟩,⟨Z0 _,by simp,Wd.replicate _,⟨BY _,j⟩,by simp[wv]⟩,by and_intros<;>first|exact⟨⟩|rfl⟩,λs f=>?_⟩;have hk:=f.hk;have hl:=f.len;split
  .rename_i i;have u:((s.k:Z)-1).toNat=s.k-1:=by omega
   have w:i64.wrap ((s.k:Z)-1-1)=((s.k-1:V):Z)-1:=by rw[aT (by omega) (by omega)];omega
   have g:=f.c0;have hx:=l.getD (s.k-1);rw[u,w];refine⟨by omega,by and_intros<;>omega,by omega,by omega,_,f.step l q (by omega),by and_intros<;>first|exact⟨⟩|rfl,?_⟩
   grind
  .rename_i i;have e:s.k=0:=by omega
   have b:=f.sum;have g:=f.c0;rw[e,A8,A8]at b;have v:s.out.take a.length=s.out:=AI (by omega);have n:wv a/d=wv s.out:=by
    rw[<-b,DW,Int.add_mul_ediv_right _ _ (by omega),B2 g.1 g.2,EQ]
   have m:wv a%d=s.c:=by
    rw[<-b,DW,Int.add_mul_emod_self_right,BP g.1 g.2]
   rw[v,n,m];exact⟨⟨by omega,f.wd,by omega⟩,by and_intros<;>first|exact⟨⟩|rfl⟩
 .simp at h
def aXy:Ctr AE:=⟨177,aDk,λargs w=>Tryz.call177 args w,aM bT Tryz.func177 aDk aY3⟩
def aIA:aG
 |[.ws a,.int .i64 n]=>FT (FT (Wd a/\0<=n/\n<32/\a.length<=1000000000),.ret (.ws (aA (wv a/2^n.toNat).toNat)))
 |_=>F0
structure ShrI (a:List Int) (n:Nat) (s:DwS):Prop where
 hk:s.k<=a.length
 len:s.out.length=a.length
 wd:Wd s.out
 sum:wv (s.out.take s.k)=wv a/2^n%4294967296^s.k
def aR8(a:X Z)(n:V):V->MS->g LoopAnn
 |3,_=>FT (.inv DwS (ShrI a n) (λs=>⟨45, [(0,.ws a),(1,.int .i64 n),(5,.bs 0 0 a.length),(12,.int .i64 a.length),(13,.int .i64 s.k)], [⟨Aa,.arr .u32 s.out⟩],0⟩) (λs=>a.length-s.k))
 |_,_=>F0
theorem bAO(a:X Z)(n:V)(c:_)(e:c=(B a:Z))(b:_)(d:b=λ(i:DwS)=>(DwS.k i:Z)):((0<= c/\c = c/\(↑(4:V):Z)* c <=140737488355328)/\(∃i,ShrI a n i/\(a=a/\(n:Z)=(n:Z)/\(0=0/\C c =B a)/\(C c :Z)= c/\0= (b i)/\I)/\G (C c) (0:Z)=DwS.out i/\I)/\∀(i:DwS),ShrI a n i->bif H ((b i) < c)then (0<= (b i)/\(b i) < c)/\bif H (D GB ((b i) +1)< c)then (0<=D GB ((b i) +1)/\D GB ((b i) +1)< c)/\(0:Z)<=32/\0<=(n:Z)/\(0<= (b i)/\(b i) < c)/\0+C (b i) <B (DwS.out i)/\∃j,ShrI a n j/\((a=a/\(n:Z)=(n:Z)/\(0=0/\B a=B a)/\c = c/\D GB ((b i) +1)=(DwS.k j:Z)/\I)/\set (DwS.out i) (0+C (b i)) (D GC (fdiv (D GA (BK (M (AA GA) (D GA (L a (C (b i)) 0)) |||ofInt (AA GA) (D GA (D GA (L a (C (D GB ((b i) +1))) 0)*2^min (C 32) (AA GA)))):Z)) ((2:Z)^min (C (n:Z)) (AA GA))))=DwS.out j/\I)/\B a-DwS.k j<B a-DwS.k i else 0<=(n:Z)/\(0<= (b i)/\(b i) < c)/\0+C (b i) <B (DwS.out i)/\∃j,ShrI a n j/\((a=a/\(n:Z)=(n:Z)/\(0=0/\B a=B a)/\c = c/\D GB ((b i) +1)=(DwS.k j:Z)/\I)/\set (DwS.out i) (0+C (b i)) (D GC (fdiv (D GA (L a (C (b i)) 0)) ((2:Z)^min (C (n:Z)) (AA GA))))=DwS.out j/\I)/\B a-DwS.k j<B a-DwS.k i else (0+B a<=B (DwS.out i)/\(∀(x:Z),x∈R (B a) (y 0 (DwS.out i))->0<=x/\x<4294967296)/\B (R (B a) (y 0 (DwS.out i)))<=1099511627776)/\aA (C (wv (R (B a) (y 0 (DwS.out i)))))=aA (C (wv a/2^n)))=aJ (aK [kD] (aR8 a n)) EW [.ws a,.int .i64 n] (AH (.ret (.ws (aA (wv a/2^n).toNat)))):=by subst e d;kernel_rfl
theorem aQp{Y P:Z}(c:0<=Y)(d:0<P):Y%(P*4294967296)=Y%P+P*(Y/P%4294967296):=by
 obtain⟨y,rfl⟩:=BI c;obtain⟨q,rfl⟩:=BI (Int.le_of_lt d);have:=Nat.mod_mul (x:=y) (a:=q) (b:=4294967296)
 grind
theorem bFY{a:X Z}(b:Wd a)(k:V):wv a/4294967296^k=wv (a.drop k):=by
 rcases AM k a.length with h|h
 .have e:=eU (a.take k) (a.drop k);rw[DT,AY,BD (by omega)]at e;have c:=gD (b.take k);rw[AY,BD (by omega)]at c;have d:=bB (b.take k);rw[e,CV _ _ (by have:=b7 k;omega),B2 d c,EQ]
 .rw[BZ h];have c:=gD b;have d:=uZ h;exact B2 (bB b) (by omega)
theorem fM{a:X Z}(k:V):wv (a.drop k)=a.getD k 0+4294967296*wv (a.drop (k+1)):=by
 grind [AM,rA,BZ,CR,wv]
theorem aRp{a:X Z}(b:Wd a)(n k:V)(hn:n<32):wv a/2^n/4294967296^k%4294967296=(a.getD k 0+4294967296*a.getD (k+1) 0)/2^n%4294967296:=by
 have hp:(0:Z)<2^n:=BX (by omega);have hW:=b7 k;rw[DN (by omega),A5,<-DN (by omega),bFY b,fM k,fM (k+1)];have e:(4294967296:Z)*4294967296=2^n*(4294967296*2^(32-n)):=by
  have:(2:Z)^n*2^(32-n)=4294967296:=by rw[<-CF,show n+(32-n)=32 by omega];rfl
  grind
 have c:a.getD k 0+4294967296*(a.getD (k+1) 0+4294967296*wv (a.drop (k+1+1)))=(a.getD k 0+4294967296*a.getD (k+1) 0)+2^n*(4294967296*(2^(32-n)*wv (a.drop (k+1+1)))):=by
  grind
 rw[c,CV _ _ (by omega),Int.add_mul_emod_self_left]
theorem ShrI.step{a:X Z}{n:V}{s:DwS}(h:ShrI a n s)(e:Wd a)(f:n<32)(hk:s.k<a.length)(x:Z)(d:x=(a.getD s.k 0+4294967296*a.getD (s.k+1) 0)/2^n%4294967296) :
  ShrI a n ⟨s.k+1,s.out.set s.k x,s.c⟩:=by
 have hl:=h.len;have b:0<=x/\x<4294967296:=by rw[d];exact⟨BU _ (by omega),BB _ (by omega)⟩
 refine⟨by show s.k+1<=a.length;omega,by simp[h.len],h.wd.set _ b,?_⟩;show wv ((s.out.set s.k x).take (s.k+1))=wv a/2^n%4294967296^(s.k+1);have hp:(0:Z)<2^n:=BX (by omega);rw[jC _ (by omega),h.sum,AN,aQp (A4 (bB e) (by omega)) (b7 _),aRp e n s.k f,d]
theorem bHy{n:V}(hn:n<32):((2:Z)^min n (AA GA))=2^n:=by
 have:min n (AA GA)=n:=by show min n 64=n;omega
 rw[this]
theorem bD6:bE EW aIA:=by
 intro ms p r h o;unfold aIA at h;split at h
 .rename_i a n0;cases h;obtain⟨c,hn0,f,la⟩:=o;obtain⟨n,rfl⟩:=BI hn0;have f:n<32:=by omega
  refine⟨aK [kD] (aR8 a n),?_⟩;rw[show((n:Z)).toNat=n from rfl,<-bAO a n _ rfl _ rfl];have hpp:(0:Z)<2^n:=BX (by omega);simp only[AL,bHy f,p32,BE,Z8,A8];refine⟨by and_intros<;>first|exact⟨⟩|omega,⟨⟨0,G a.length 0,0⟩,⟨by show 0<=_;omega,by simp,Wd.replicate _,by simp[wv,Int.emod_one]⟩,by and_intros<;>first|exact⟨⟩|rfl⟩,λs d=>?_⟩;have hk:=d.hk;have hl:=d.len;split
  .rename_i j;have v:i64.wrap ((s.k:Z)+1)=((s.k+1:V):Z):=by rw[aT (by omega) (by omega)];omega
   have g:=c.getD s.k;have q:=c.getD (s.k+1);rw[v,Z8];have i:∀z:Z,0<=z/\z<4294967296->u64.wrap z=z:=λz hz=>by rw[l8];omega
   have u:u64.wrap (a.getD (s.k+1) 0*4294967296)=4294967296*a.getD (s.k+1) 0:=by rw[l8];omega
   have t:u64.wrap (↑(M (AA GA) (a.getD s.k 0) |||ofInt (AA GA) (4294967296*a.getD (s.k+1) 0)).toNat)=4294967296*a.getD (s.k+1) 0+a.getD s.k 0:=by
    rw[BitVec.or_comm];exact aQ2 32 (by omega) (by omega) (by omega) g.1 (by omega) (by omega)
   refine⟨by omega,?_⟩;split
   .rw[i _ g,i _ q,u,t,AF _ (by omega),l7,DW (4294967296*_)];refine⟨by omega,by omega,by omega,by omega,by omega,_,d.step c f (by omega) _ rfl,by and_intros<;>first|exact⟨⟩|rfl,?_⟩
    grind
   .rename_i hge;rw[i _ g,AF _ (by omega),l7];refine⟨by omega,by omega,by omega,_,d.step c f (by omega) _ ?_,by and_intros<;>first|exact⟨⟩|rfl,?_⟩
    .have:a.getD (s.k+1) 0=0:=by simp[CR (show a.length<=s.k+1 by omega)]
     simp_all
    grind
  .rename_i j;have e:s.k=a.length:=by omega
   have b:=d.sum;have l:s.out.take a.length=s.out:=AI (by omega);have m:wv a/2^n%4294967296^a.length=wv a/2^n:=by
    refine BP (A4 (bB c) (by omega)) (Int.lt_of_le_of_lt (Int.ediv_le_self _ (bB c)) (gD c))
   rw[e,l,m]at b;rw[l,b];exact⟨⟨by omega,d.wd,by omega⟩,rfl⟩
 .simp at h
def bCD:Ctr AE:=⟨180,aIA,λargs w=>Tryz.call180 args w,aM bT Tryz.func180 aIA bD6⟩
def aIz:aG
 |[.ws a,.int .i64 n]=>FT (FT (Wd a/\0<=n/\n<=1000000000/\a.length<=1000000000),.ret (.ws (aA (wv a*2^n.toNat).toNat)))
 |_=>F0
structure ShlI (a:List Int) (n:Nat) (s:DwS):Prop where
 hk:s.k<=a.length
 len:s.out.length=a.length+n/32+1
 wd:Wd s.out
 sum:wv s.out=wv (a.take s.k)*2^n
 top:s.out.getD (s.k+n/32) 0<2^(n%32)
 rest:∀j,s.k+n/32<j->s.out.getD j 0=0
def aR7(a:X Z)(n:V):V->MS->g LoopAnn
 |3,_=>FT (.inv DwS (ShlI a n) (λs=>⟨52, [(1,.int .i64 n),(5,.bs 0 0 (a.length+n/32+1)),(16,.ws a),(17,.int .i64 a.length),(18,.int .i64 s.k)], [⟨Aa,.arr .u32 s.out⟩],0⟩) (λs=>a.length-s.k))
 |_,_=>F0
theorem bAN(a:X Z)(n:V)(e:_)(v:e=(GE (n:Z) 32))(b:_)(t:b=λ(i:DwS)=>(DwS.k i:Z))(d:_)(s:d=(B a+n/32+1))(c:_)(r:c=(B a:Z))(f:_)(u:f=(D GB (c +D GB e)+1))(l:_)(q:l=λ(i:DwS)=>(D GA (D GA (L a (C (b i)) 0)*2^min (C (GF (n:Z) 32)) (AA GA))))(h:_)(p:h=λ(i:DwS)=>(D GB ((b i) +D GB e)+1))(g:_)(o:g=λ(i:DwS)=>(D GB ((b i) +D GB e)))(m:_)(w:m=λ(i:DwS)=>(set (DwS.out i) (0+C (g i)) (D GC (BK (M (AA GC) (L (DwS.out i) (0+C (g i)) 0) |||ofInt (AA GC) (D GC (l i))):Z)))):(((32:Z)=0->z)/\(0<=D GB f/\D GB f =D GB f/\(↑(4:V):Z)*D GB f <=140737488355328)/\(∃i,ShlI a n i/\((n:Z)=(n:Z)/\(0=0/\C (D GB f)=B a+n/32+1)/\a=a/\c = c/\0= (b i)/\I)/\G (C (D GB (D GB (c +D GB (GE (n:Z) (32:Z)))+1))) (0:Z)=DwS.out i/\I)/\∀(i:DwS),ShlI a n i->bif H ((b i) < c)then (0<= (b i)/\(b i) < c)/\((32:Z)=0->z)/\0<=GF (n:Z) 32/\((32:Z)=0->z)/\(0<=D GB ((b i) +D GB e)/\D GB ((b i) +D GB e)<(↑ d :Z))/\0+C (g i) <B (DwS.out i)/\(0<=D GB ((b i) +D GB e)/\D GB ((b i) +D GB e)<(↑ d :Z))/\0+C (g i) <B (DwS.out i)/\((32:Z)=0->z)/\(0:Z)<=32/\(0<=D GB (h i)/\D GB (h i) <(↑ d :Z))/\0+C (D GB (h i))<B (m i)/\∃j,ShlI a n j/\(((n:Z)=(n:Z)/\(0=0/\B a+n/32+1=B a+n/32+1)/\a=a/\c = c/\D GB ((b i) +1)=(DwS.k j:Z)/\I)/\set (m i) (0+C (D GB (h i))) (D GC (fdiv (l i) ((2:Z)^min (C 32) (AA GA))))=DwS.out j/\I)/\B a-DwS.k j<B a-DwS.k i else (0+ d <=B (DwS.out i)/\(∀(x:Z),x∈R d (y 0 (DwS.out i))->0<=x/\x<4294967296)/\B (R d (y 0 (DwS.out i)))<=1099511627776)/\aA (C (wv (R d (y 0 (DwS.out i)))))=aA (C (wv a*2^n)))=aJ (aK [kD] (aR7 a n)) EX [.ws a,.int .i64 n] (AH (.ret (.ws (aA (wv a*2^n).toNat)))):=by subst v t s r u q p o w;kernel_rfl
structure ShlW (x o:Int) (c:Nat):Prop where
 a0:0<=x*2^c%4294967296
 a1:x*2^c%4294967296+o<4294967296
 dv:(x*2^c%4294967296).toNat%2^c=0
 t0:0<=x*2^c
 t1:x*2^c<18446744073709551616
 q0:0<=x*2^c/4294967296
 q1:x*2^c/4294967296<2^c
 q2:x*2^c/4294967296<4294967296
theorem aAX{x o:Z}{c:V}(hc:c<32)(h:0<=x/\x<4294967296)(ho:0<=o/\o<2^c):ShlW x o c:=by
 have i:(0:Z)<2^c:=BX (by omega);have l:(0:Z)<2^(32-c):=BX (by omega);have a:(2:Z)^c*2^(32-c)=4294967296:=by rw[<-CF,show c+(32-c)=32 by omega];rfl
 have b:(2:Z)^c<=4294967296:=by
  have:=Z7 (show(1:Z)<=2^(32-c) by omega) (show(0:Z)<=2^c by omega);omega
 have e:x*2^c%4294967296=2^c*(x%2^(32-c)):=by rw[<-a,A5 x,Int.mul_emod_mul_of_pos _ _ i]
 have g:=BU x (show(2:Z)^(32-c)≠0 by omega);have r1:=BB x l;have j:(2:Z)^c*(x%2^(32-c)+1)<=2^c*2^(32-c):=Z7 (by omega) (by omega);rw[BF]at j;have f:0<=x*2^c:=A2 h.1 (by omega);have t1:x*2^c<=4294967295*4294967296:=C0 (by omega) b (by omega) (by omega);have d:x*2^c<2^c*4294967296:=by rw[A5];exact Int.mul_lt_mul_of_pos_left h.2 i
 refine⟨by rw[e];exact A2 (by omega) g,by rw[e];omega,?_,f,by omega,A4 f (by omega),CU (by omega) d,by have:=CU (show(0:Z)<4294967296 by omega) d;omega⟩;rw[e];obtain⟨r,k⟩:=BI g;rw[k];have:((2:Z)^c*(r:Z)).toNat=2^c*r:=by
  rfl
 simp_all
theorem ShlI.low{a:X Z}{n:V}{s:DwS}(h:ShlI a n s):0<=s.out.getD (s.k+n/32) 0/\s.out.getD (s.k+n/32) 0<2^(n%32):=⟨(h.wd.getD _).1,h.top⟩
theorem ShlI.step{a:X Z}{n:V}{s:DwS}(h:ShlI a n s)(f:Wd a)(hk:s.k<a.length) :
  ShlI a n ⟨s.k+1,(s.out.set (s.k+n/32) (a.getD s.k 0*2^(n%32)%4294967296+s.out.getD (s.k+n/32) 0)).set (s.k+n/32+1) (a.getD s.k 0*2^(n%32)/4294967296),s.c⟩:=by
 have W:=aAX (D1 n (by omega)) (f.getD s.k) h.low;have hl:=h.len;have hlow:=h.low;have b:∀v:Z,(s.out.set (s.k+n/32) v).getD (s.k+n/32+1) 0=0:=λv=>by rw[mX _ (by omega)];exact h.rest _ (by omega)
 refine⟨by show s.k+1<=a.length;omega,by simp[h.len],(h.wd.set _ ⟨by have:=W.a0;omega,W.a1⟩).set _ ⟨W.q0,W.q2⟩,?_,?_,λj d=>?_⟩
 .show wv ((s.out.set (s.k+n/32) (a.getD s.k 0*2^(n%32)%4294967296+s.out.getD (s.k+n/32) 0)).set (s.k+n/32+1) (a.getD s.k 0*2^(n%32)/4294967296))=wv (a.take (s.k+1))*2^n;rw[aFv _ _ _ (by simp;omega),b,aFv _ _ _ (by omega),h.sum,bP,DC];have h5:=kF (4294967296^(s.k+n/32)) (a.getD s.k 0*2^(n%32));have h6:(4294967296:Z)^s.k*a.getD s.k 0*2^n=4294967296^(s.k+n/32)*(a.getD s.k 0*2^(n%32)):=by
   have e:(2:Z)^n=4294967296^(n/32)*2^(n%32):=by
    rw[show(4294967296:Z)=2^32 from rfl,<-Int.pow_mul,<-CF];congr 1;omega
   grind
  grind
 .show((s.out.set (s.k+n/32) _).set (s.k+n/32+1) (a.getD s.k 0*2^(n%32)/4294967296)).getD (s.k+1+n/32) 0<2^(n%32);rw[show s.k+1+n/32=s.k+n/32+1 by omega];have:∀(l:X Z) (i:V) (v:Z),i<l.length->(l.set i v).getD i 0=v:=λl i v h=>by simp[h]
  rw[this _ _ _ (by simp;omega)];exact W.q1
 .show((s.out.set (s.k+n/32) _).set (s.k+n/32+1) _).getD j 0=0;have d:s.k+1+n/32<j:=d;rw[mX _ (by omega),mX _ (by omega)];exact h.rest j (by omega)
theorem bB9{c:V}(a:c<32):((2:Z)^min c (AA GA))=2^c:=bHy a
theorem bD5:bE EX aIz:=by
 intro ms p r h o;unfold aIz at h;split at h
 .rename_i a n0;cases h;obtain⟨f,hn0,q,la⟩:=o;obtain⟨n,rfl⟩:=BI hn0;have q:n<=1000000000:=by omega
  have m:n%32<32:=D1 n (by omega);refine⟨aK [kD] (aR7 a n),?_⟩;rw[show((n:Z)).toNat=n from rfl,<-bAN a n _ rfl _ rfl _ rfl _ rfl _ rfl _ rfl _ rfl _ rfl _ rfl];have w:i64.wrap (GE (n:Z) 32)=((n/32:V):Z):=by
   grind [GE,aT]
  have u:GF (n:Z) 32=((n%32:V):Z):=rfl;have x:i64.wrap ((a.length:Z)+((n/32:V):Z))=((a.length+n/32:V):Z):=by rw[aT (by omega) (by omega)];omega
  have l:i64.wrap (((a.length+n/32:V):Z)+1)=((a.length+n/32+1:V):Z):=by rw[aT (by omega) (by omega)];omega
  simp only[AL,w,u,x,l,p32,BE,Z8,A8,bB9 m];refine⟨λe=>by omega,by and_intros<;>first|exact⟨⟩|omega,⟨⟨0,G (a.length+n/32+1) 0,0⟩,⟨by show 0<=_;omega,by simp,Wd.replicate _,by show wv (G _ 0)=_;rw[gE];simp[wv],?_,λj _=>?_⟩,by and_intros<;>first|exact⟨⟩|rfl⟩,λs c=>?_⟩
  .show(G _ (0:Z)).getD _ 0<2^(n%32);have:(G (a.length+n/32+1) (0:Z)).getD (0+n/32) 0=0:=by simp[List.getElem?_replicate];split<;>rfl
   rw[this];exact BX (by omega)
  .grind
  .have hk:=c.hk;have hl:=c.len;split
   .rename_i i;have W:=aAX m (f.getD s.k) c.low;have d:=c.low;have z:i64.wrap ((s.k:Z)+1)=((s.k+1:V):Z):=by rw[aT (by omega) (by omega)];omega
    have g:i64.wrap ((s.k:Z)+((n/32:V):Z))=((s.k+n/32:V):Z):=by rw[aT (by omega) (by omega)];omega
    have y:i64.wrap (((s.k+n/32:V):Z)+1)=((s.k+n/32+1:V):Z):=by rw[aT (by omega) (by omega)];omega
    have ex:u64.wrap (a.getD s.k 0)=a.getD s.k 0:=by rw[l8];have:=f.getD s.k;omega
    have t:u64.wrap (a.getD s.k 0*2^(n%32))=a.getD s.k 0*2^(n%32):=by rw[l8];exact BP W.t0 W.t1
    have eq:u32.wrap (a.getD s.k 0*2^(n%32)/4294967296)=a.getD s.k 0*2^(n%32)/4294967296:=by rw[l7];exact BP W.q0 W.q2
    have v:u32.wrap (↑(M (AA GC) (s.out.getD (s.k+n/32) 0) |||ofInt (AA GC) (a.getD s.k 0*2^(n%32)%4294967296)).toNat)=a.getD s.k 0*2^(n%32)%4294967296+s.out.getD (s.k+n/32) 0:=by
     refine bG8 (n%32) W.a0 (by have:=W.a1;omega) W.dv d.1 ?_ W.a1
     simp_all
    simp only[z,g,y,ex,t,Z8,AF _ (show(0:Z)<=4294967296 by omega),eq,l7 (a.getD s.k 0*2^(n%32)),v,List.length_set];refine⟨by omega,λe=>by omega,by omega,λe=>by omega,by omega,by omega,by omega,by omega,λe=>by omega,by omega,by omega,by omega,_,c.step f (by omega),by and_intros<;>first|exact⟨⟩|rfl,?_⟩
    grind
   .rename_i i;have e:s.k=a.length:=by omega
    have b:=c.sum;have g:s.out.take (a.length+n/32+1)=s.out:=AI (by omega);rw[e,A6]at b;rw[g,b];exact⟨⟨by omega,c.wd,by omega⟩,rfl⟩
 .simp at h
def bCC:Ctr AE:=⟨179,aIz,λargs w=>Tryz.call179 args w,aM bT Tryz.func179 aIz bD5⟩
def sg(b:S)(z:Z):Z:=cond b (-z) z
def dL(z:Z):Z:=if z=0 then 0 else if z<0 then-1 else 1
def eD(b:F8)(s:aG):Prop:=∀a p r,s a=FT (p,r)->p.holds->fL a->∃E:Env AE,aJ E b a r.sat
def aLm:aG
 |[.bool b,.ws l]=>FT (FT (Wd l/\l.length<=1000000000),.ret (.big (sg b (wv l)) (32*l.length)))
 |_=>F0
theorem bHL(b:S)(l:X Z):(((∀(x:Z),x∈l->0<=x/\x<4294967296)/\B l<=1099511627776)/\bif (B (aA (C (wv l))):Z)==0 then 0=sg b (wv l)/\(0<=32*B l\/o 0<2^(32*B l))else b=H (sg b (wv l)<0)/\aA (C (wv l))=aA (o (sg b (wv l)))/\o (sg b (wv l))<2^(32*B l))=aJ (aK [kD] aC) FG [.bool b,.ws l] (AH (.ret (.big (sg b (wv l)) (32*l.length)))):=by kernel_rfl
theorem wG{l:X Z}(a:Wd l):(wv l).natAbs<2^(32*l.length):=by
 have h1:=gD a;have h2:=bB a;have e:((2^(32*l.length):V):Z)=(4294967296:Z)^l.length:=by rw[DB];simp[CS]
 omega
theorem wK(b:S)(z:Z):(sg b z).natAbs=z.natAbs:=by cases b<;>simp[sg]
theorem bIn:bE FG aLm:=by
 intro ms p r h f;unfold aLm at h;split at h
 .rename_i b l;cases h;obtain⟨a,hl⟩:=f;refine⟨aK [kD] aC,?_⟩;rw[<-bHL b l];have h0:=bB a;have hlen:=eI (n:=(wv l).toNat) (k:=l.length) (by
   have h1:=gD a;have e:((4294967296^l.length:V):Z)=(4294967296:Z)^l.length:=by simp[CS]
   omega)
  refine⟨⟨a,by omega⟩,?_⟩;by_cases d:wv l=0
  .rw[d];have:((((aA (0:Z).toNat).length:V):Z)==0)=FR:=by rw[show(0:Z).toNat=0 from rfl,bN];rfl
   rw[this,Z6];exact⟨by cases b<;>rfl,.inl (Z9 _)⟩
  .have c:(aA (wv l).toNat).length≠0:=λe=>by
    have:=cA.1 (DA e);omega
   have:((((aA (wv l).toNat).length:V):Z)==0)=Aa:=by simpa using c
   rw[this,Z5,wK];refine⟨?_,by rw[show(wv l).natAbs=(wv l).toNat by omega],wG a⟩;cases b
   .exact(Y1 (show ¬wv l<0 by omega)).symm
   .exact(Y0 (show-wv l<0 by omega)).symm
 .simp at h
def aCx:Ctr AE:=⟨90,aLm,λargs w=>Tryz.call90 args w,aM bT Tryz.func90 aLm bIn⟩
theorem cU{z:Z}{n:V}(h:z.natAbs<2^n)(hn:n<=2000001):(aA z.natAbs).length<=100000:=by
 have:=bS h;omega
theorem yX(n:V):wv (aA n)=n:=iK n
theorem aVC(z:Z):sg (H (z<0)) (z.natAbs:Z)=z:=by
 unfold sg;by_cases h:z<0<;>simp[h]<;>omega
theorem aPC(z:Z):sg (!decide (z<0)) (z.natAbs:Z)= -z:=by
 unfold sg;by_cases h:z<0<;>simp[h]<;>omega
def vH:aG
 |[.big z _]=>FT (F0,.ret (.int .i64 (dL z)))
 |_=>F0
theorem bBq(z:Z)(n:V):(bif (B (aA (o z)):Z)==0 then 0=dL z else bif H (z<0)then (-1)=dL z else 1=dL z)=aJ (aK [] aC) FJ [.big z n] (AH (.ret (.int .i64 (dL z)))):=by kernel_rfl
theorem bEz:bE FJ vH:=by
 intro ms p r h hp;unfold vH at h;split at h
 .rename_i z n;cases h;refine⟨aK [] aC,?_⟩;rw[<-bBq z n];by_cases b:z=0
  .subst b;have:((((aA (0:Z).natAbs).length:V):Z)==0)=FR:=by rw[show(0:Z).natAbs=0 from rfl,bN];rfl
   rw[this];rfl
  .have a:(aA z.natAbs).length≠0:=λe=>by
    have:=cA.1 (DA e);omega
   have:((((aA z.natAbs).length:V):Z)==0)=Aa:=by simpa using a
   rw[this,Z5,AL];unfold dL;rw[A b];split<;>rfl
 .simp at h
def dC:Ctr AE:=⟨87,vH,λargs w=>Tryz.call87 args w,aM bT Tryz.func87 vH bEz⟩
def qS:aG
 |[.big z n]=>FT (FT (n<=1000000),.ret (.int .i64 (bl z.natAbs)))
 |_=>F0
theorem bAk(z:Z)(n:V):((aA (C (wv (aA (o z))))=aA (o z)/\B (aA (o z))<=1099511627776)/\(bl (C (wv (aA (o z)))):Z)=(bl (o z):Z))=aJ (aK [aNS] aC) FB [.big z n] (AH (.ret (.int .i64 (bl z.natAbs)))):=by kernel_rfl
theorem bDC:eD FB qS:=by
 intro ms p r h b c;unfold qS at h;split at h
 .rename_i z n;cases h;have hn:n<=1000000:=b;have a:z.natAbs<2^n:=c.1;refine⟨aK [aNS] aC,?_⟩;rw[<-bAk z n,yX,Z8];have:=cU a (by omega);exact⟨⟨rfl,by omega⟩,rfl⟩
 .simp at h
def t8:Ctr AE:=⟨123,qS,λargs w=>Tryz.call123 args w,aO bT Tryz.func123 qS bDC⟩
def aCr:aG
 |[.big z n]=>FT (FT (n<=1000000),.ret (.big (-z) n))
 |_=>F0
theorem bFB(z:Z)(n:V):(((∀(x:Z),x∈aA (o z)->0<=x/\x<4294967296)/\B (aA (o z))<=1000000000)/\sg (!decide (z<0)) (wv (aA (o z)))= -z/\(32*B (aA (o z))<=n\/o (sg (!decide (z<0)) (wv (aA (o z))))<2^n))=aJ (aK [aCx] aC) FD [.big z n] (AH (.ret (.big (-z) n))):=by kernel_rfl
theorem bHi:eD FD aCr:=by
 intro ms p r h b c;unfold aCr at h;split at h
 .rename_i z n;cases h;have hn:n<=1000000:=b;have a:z.natAbs<2^n:=c.1;refine⟨aK [aCx] aC,?_⟩;rw[<-bFB z n,yX,aPC];have:=cU a (by omega);exact⟨⟨aQ _,by omega⟩,rfl,.inr (by rw[Int.natAbs_neg];exact a)⟩
 .simp at h
def aB2:Ctr AE:=⟨114,aCr,λargs w=>Tryz.call114 args w,aO bT Tryz.func114 aCr bHi⟩
def aCp:aG
 |[.big z n]=>FT (FT (n<=1000000),.ret (.big z.natAbs n))
 |_=>F0
theorem bFd(z:Z)(n:V):(((∀(x:Z),x∈aA (o z)->0<=x/\x<4294967296)/\B (aA (o z))<=1000000000)/\sg Aa (wv (aA (o z)))=(o z:Z)/\(32*B (aA (o z))<=n\/o (sg Aa (wv (aA (o z))))<2^n))=aJ (aK [aCx] aC) E5 [.big z n] (AH (.ret (.big z.natAbs n))):=by kernel_rfl
theorem bG9:eD E5 aCp:=by
 intro ms p r h b c;unfold aCp at h;split at h
 .rename_i z n;cases h;have hn:n<=1000000:=b;have a:z.natAbs<2^n:=c.1;refine⟨aK [aCx] aC,?_⟩;rw[<-bFd z n,yX];have:=cU a (by omega);exact⟨⟨aQ _,by omega⟩,rfl,.inr (by rw[wK,Int.natAbs_natCast];exact a)⟩
 .simp at h
def aB1:Ctr AE:=⟨150,aCp,λargs w=>Tryz.call150 args w,aO bT Tryz.func150 aCp bG9⟩
def aCq:aG
 |[.big a n,.big b m]=>FT (FT (n<=1000000/\m<=1000000),.ret (.big (a*b) (n+m)))
 |_=>F0
theorem bFA(a b:Z)(n m:V)(c:_)(d:c=(C (wv (aA (o a))*wv (aA (o b))))):(((∀(x:Z),x∈aA (o a)->0<=x/\x<4294967296)/\(∀(x:Z),x∈aA (o b)->0<=x/\x<4294967296)/\B (aA (o a))<=1000000000/\B (aA (o b))<=1000000000)/\((∀(x:Z),x∈aA c ->0<=x/\x<4294967296)/\B (aA c)<=1000000000)/\sg (!decide (a<0)==H (b<0)) (wv (aA c))=a*b/\(32*B (aA c)<=n+m\/o (sg (!decide (a<0)==H (b<0)) (wv (aA c)))<2^(n+m)))=aJ (aK [aCx,aSI] aC) FC [.big a n,.big b m] (AH (.ret (.big (a*b) (n+m)))):=by subst d;kernel_rfl
theorem bHh:eD FC aCq:=by
 intro ms p r h i d;unfold aCq at h;split at h
 .rename_i a n b m;cases h;obtain⟨hn,hm⟩:=i;have f:a.natAbs<2^n:=d.1;have j:b.natAbs<2^m:=d.2.1;refine⟨aK [aCx,aSI] aC,?_⟩;have c:(a*b).natAbs<2^(n+m):=by
   rw[EL,CY];exact Nat.mul_lt_mul_of_lt_of_le f (by omega) (DD m)
  have e:((a.natAbs:Z)*(b.natAbs:Z)).toNat=(a*b).natAbs:=by rw[EL,<-Int.natCast_mul,Z8]
  rw[<-bFA a b n m _ rfl,yX,yX,e,yX];have l1:=cU f (by omega);have l2:=cU j (by omega);have l3:=cU c (by omega);have g:sg (!(H (a<0)==H (b<0))) ((a*b).natAbs:Z)=a*b:=by
   rcases AX a 0 with h1|h1<;>rcases AX b 0 with h2|h2
   .rw[show H (a<0)=FR from Y0 h1,show H (b<0)=FR from Y0 h2];show((a*b).natAbs:Z)=a*b;have:=Int.mul_nonneg_of_nonpos_of_nonpos (show a<=0 by omega) (show b<=0 by omega);omega
   .rw[show H (a<0)=FR from Y0 h1,show H (b<0)=Aa from Y1 (by omega)];show-((a*b).natAbs:Z)=a*b;have:=Int.mul_nonpos_of_nonpos_of_nonneg (show a<=0 by omega) h2;omega
   .rw[show H (a<0)=Aa from Y1 (by omega),show H (b<0)=FR from Y0 h2];show-((a*b).natAbs:Z)=a*b;have:=Int.mul_nonpos_of_nonneg_of_nonpos h1 (show b<=0 by omega);omega
   .rw[show H (a<0)=Aa from Y1 (by omega),show H (b<0)=Aa from Y1 (by omega)];show((a*b).natAbs:Z)=a*b;have:=A2 h1 h2;omega
  exact⟨⟨aQ _,aQ _,by omega,by omega⟩,⟨aQ _,by omega⟩,g,.inr (by rw[g];exact c)⟩
 .simp at h
def jN:Ctr AE:=⟨121,aCq,λargs w=>Tryz.call121 args w,aO bT Tryz.func121 aCq bHh⟩
def vA:aG
 |[.big a n,.big b m]=>FT (FT (n<=1000000/\m<=1000000),.ret (.big (a+b) (max n m+1)))
 |_=>F0
theorem bAo(a b:Z)(n m:V)(d:_)(l:d=(aA (o a)))(c:_)(k:c=(aA (o b)))(g:_)(j:g=(C (wv d +wv c)))(f:_)(i:f=(C (wv c-wv d)))(e:_)(h:e=(C (wv d-wv c))):(bif H (a<0)==H (b<0)then ((∀(x:Z),x∈aA (o a)->0<=x/\x<4294967296)/\(∀(x:Z),x∈aA (o b)->0<=x/\x<4294967296)/\B d <=1000000000/\B c <=1000000000)/\((∀(x:Z),x∈aA g ->0<=x/\x<4294967296)/\B (aA g)<=1000000000)/\sg (H (a<0)) (wv (aA g))=a+b/\(32*B (aA g)<=max n m+1\/o (sg (H (a<0)) (wv (aA g)))<2^(max n m+1))else (aA (C (wv d))=aA (o a)/\aA (C (wv c))=aA (o b)/\B d <=1099511627776/\B c <=1099511627776)/\bif H (aX (wv d) (wv c)<0)then ((∀(x:Z),x∈aA (o b)->0<=x/\x<4294967296)/\(∀(x:Z),x∈aA (o a)->0<=x/\x<4294967296)/\wv d <=wv c/\B d <=B c/\B c <=1000000000)/\((∀(x:Z),x∈aA f ->0<=x/\x<4294967296)/\B (aA f)<=1000000000)/\sg (H (b<0)) (wv (aA f))=a+b/\(32*B (aA f)<=max n m+1\/o (sg (H (b<0)) (wv (aA f)))<2^(max n m+1))else ((∀(x:Z),x∈aA (o a)->0<=x/\x<4294967296)/\(∀(x:Z),x∈aA (o b)->0<=x/\x<4294967296)/\wv c <=wv d/\B c <=B d/\B d <=1000000000)/\((∀(x:Z),x∈aA e ->0<=x/\x<4294967296)/\B (aA e)<=1000000000)/\sg (H (a<0)) (wv (aA e))=a+b/\(32*B (aA e)<=max n m+1\/o (sg (H (a<0)) (wv (aA e)))<2^(max n m+1)))=aJ (aK [aCx,aSG,aSJ,aD3] aC) FL [.big a n,.big b m] (AH (.ret (.big (a+b) (max n m+1)))):=by subst l k j i h;kernel_rfl
theorem bDF:eD FL vA:=by
 intro ms p r h j i;unfold vA at h;split at h
 .rename_i a n b m;cases h;obtain⟨hn,hm⟩:=j;have q:a.natAbs<2^n:=i.1;have o:b.natAbs<2^m:=i.2.1;refine⟨aK [aCx,aSG,aSJ,aD3] aC,?_⟩;have h1:2^n<=2^max n m:=A1 (by omega) (by omega);have h2:2^m<=2^max n m:=A1 (by omega) (by omega);have h3:2^(max n m+1)=2^max n m*2:=BL ..;have hM:max n m+1<=2000001:=by omega
  have e:(a+b).natAbs<2^(max n m+1):=by omega
  have g:(a.natAbs+b.natAbs)<2^(max n m+1):=by omega
  have l1:=cU q (by omega);have l2:=cU o (by omega);have lim:∀k:V,k<2^(max n m+1)->(aA k).length<=1000000000:=λk l=>by have:=bS l;omega
  have mono:∀x y:V,x<=y->(aA x).length<=(aA y).length:=λx y f=>eI (Nat.lt_of_le_of_lt f (mZ y));have s:((a.natAbs:Z)+(b.natAbs:Z)).toNat=a.natAbs+b.natAbs:=by omega
  rw[<-bAo a b n m _ rfl _ rfl _ rfl _ rfl _ rfl,yX,yX,s,yX];generalize hX:((b.natAbs:Z)-(a.natAbs:Z)).toNat=X;generalize hY:((a.natAbs:Z)-(b.natAbs:Z)).toNat=Y;rw[yX,yX,Z8,Z8];rcases AX a 0 with q1|q1<;>rcases AX b 0 with q2|q2
  .rw[show H (a<0)=FR from Y0 q1,show H (b<0)=FR from Y0 q2];have d:sg FR ((a.natAbs+b.natAbs:V):Z)=a+b:=by show-(((a.natAbs+b.natAbs:V):Z))=_;omega
   exact⟨⟨aQ _,aQ _,by omega,by omega⟩,⟨aQ _,lim _ g⟩,d,.inr (by rw[d];exact e)⟩
  .rw[show H (a<0)=FR from Y0 q1,show H (b<0)=Aa from Y1 (by omega)];refine⟨⟨rfl,rfl,by omega,by omega⟩,?_⟩;rw[AL];split
   .rename_i c;have c:a.natAbs<b.natAbs:=by unfold aX at c;split at c<;>(try split at c)<;>omega
    have d:sg Aa (X:Z)=a+b:=by show(X:Z)=_;omega
    exact⟨⟨aQ _,aQ _,by omega,mono _ _ (by omega),by omega⟩,⟨aQ _,lim _ (by omega)⟩,d,.inr (by rw[d];exact e)⟩
   .rename_i c;have c:b.natAbs<=a.natAbs:=by unfold aX at c;split at c<;>(try split at c)<;>omega
    have d:sg FR (Y:Z)=a+b:=by show-(Y:Z)=_;omega
    exact⟨⟨aQ _,aQ _,by omega,mono _ _ (by omega),by omega⟩,⟨aQ _,lim _ (by omega)⟩,d,.inr (by rw[d];exact e)⟩
  .rw[show H (a<0)=Aa from Y1 (by omega),show H (b<0)=FR from Y0 q2];refine⟨⟨rfl,rfl,by omega,by omega⟩,?_⟩;rw[AL];split
   .rename_i c;have c:a.natAbs<b.natAbs:=by unfold aX at c;split at c<;>(try split at c)<;>omega
    have d:sg FR (X:Z)=a+b:=by show-(X:Z)=_;omega
    exact⟨⟨aQ _,aQ _,by omega,mono _ _ (by omega),by omega⟩,⟨aQ _,lim _ (by omega)⟩,d,.inr (by rw[d];exact e)⟩
   .rename_i c;have c:b.natAbs<=a.natAbs:=by unfold aX at c;split at c<;>(try split at c)<;>omega
    have d:sg Aa (Y:Z)=a+b:=by show(Y:Z)=_;omega
    exact⟨⟨aQ _,aQ _,by omega,mono _ _ (by omega),by omega⟩,⟨aQ _,lim _ (by omega)⟩,d,.inr (by rw[d];exact e)⟩
  .rw[show H (a<0)=Aa from Y1 (by omega),show H (b<0)=Aa from Y1 (by omega)];have d:sg Aa ((a.natAbs+b.natAbs:V):Z)=a+b:=by show(((a.natAbs+b.natAbs:V):Z))=_;omega
   exact⟨⟨aQ _,aQ _,by omega,by omega⟩,⟨aQ _,lim _ g⟩,d,.inr (by rw[d];exact e)⟩
 .simp at h
def jR:Ctr AE:=⟨78,vA,λargs w=>Tryz.call78 args w,aO bT Tryz.func78 vA bDF⟩
def vE:aG
 |[.big a n,.big b m]=>FT (FT (n<=1000000/\m<=1000000),.ret (.big (a-b) (max n m+1)))
 |_=>F0
theorem bAt(a b:Z)(n m:V):(m<=1000000/\(n<=1000000/\m<=1000000)/\a+ -b=a-b/\(max n m+1<=max n m+1\/o (a+ -b)<2^(max n m+1)))=aJ (aK [jR,aB2] aC) FM [.big a n,.big b m] (AH (.ret (.big (a-b) (max n m+1)))):=by kernel_rfl
def vC:aG
 |[.big a n,.big b m]=>FT (FT (n<=1000000/\m<=1000000),.ret (.int .i64 (aX a b)))
 |_=>F0
theorem bAq(a b:Z)(n m:V):(bif !decide (a<0)==H (b<0)then aX (dL a) (dL b)=aX a b else (aA (C (wv (aA (o a))))=aA (o a)/\aA (C (wv (aA (o b))))=aA (o b)/\B (aA (o a))<=1099511627776/\B (aA (o b))<=1099511627776)/\0+2<=B [dL a,(1:Z)]/\D GB (aX (wv (aA (o a))) (wv (aA (o b)))*if L [dL a,(1:Z)] (0+0) 0=0 then L [dL a,(1:Z)] (0+1) 0 else L [dL a,(1:Z)] (0+0) 0)=aX a b)=aJ (aK [dC,aHo,aD3,bGu] aC) FO [.big a n,.big b m] (AH (.ret (.int .i64 (aX a b)))):=by kernel_rfl
def nX:aG
 |[.int .i64 z]=>FT (FT (-9223372036854775808<=z/\z<=9223372036854775807),.ret (.big z 64))
 |_=>F0
theorem bFv(z:Z)(b:_)(c:b=(D GA (pH z (D GB (0-z)))))(a:_)(d:a=(y 0 [D GC b,D GC (fdiv b ((2:Z)^min (C 32) (AA GA)))])):((0:Z)<=32/\(0+2<=B [D GC b,D GC (fdiv b ((2:Z)^min (C 32) (AA GA)))]/\(∀(x:Z),x∈R 2 a ->0<=x/\x<4294967296)/\B (R 2 a)<=1000000000)/\sg (H (z<0)) (wv (R 2 a))=z/\(32*B (R 2 a)<=64\/o (sg (H (z<0)) (wv (R 2 a)))<2^64))=aJ (aK [aCx] aC) FN [.int .i64 z] (AH (.ret (.big z 64))):=by subst c d;kernel_rfl
theorem bDK:bE FM vE:=by
 intro ms p r h d;unfold vE at h;split at h
 .rename_i a n b m;cases h;obtain⟨e,c⟩:=d;refine⟨aK [jR,aB2] aC,?_⟩;rw[<-bAt a b n m];exact⟨c,⟨e,c⟩,by omega,.inl (Z0 _)⟩
 .simp at h
def jS:Ctr AE:=⟨73,vE,λargs w=>Tryz.call73 args w,aM bT Tryz.func73 vE bDK⟩
theorem bDH:eD FO vC:=by
 intro ms p r h f c;unfold vC at h;split at h
 .rename_i a n b m;cases h;obtain⟨hn,hm⟩:=f;have i:a.natAbs<2^n:=c.1;have g:b.natAbs<2^m:=c.2.1;have l1:=cU i (by omega);have l2:=cU g (by omega);refine⟨aK [dC,aHo,aD3,bGu] aC,?_⟩;rw[<-bAq a b n m,yX,yX,Z8,Z8];have fin:(a<0↔b<0)->(aA a.natAbs=aA a.natAbs/\aA b.natAbs=aA b.natAbs/\(aA a.natAbs).length<=1099511627776/\(aA b.natAbs).length<=1099511627776)/\
    0+2<=[dL a,(1:Z)].length/\i64.wrap (aX (a.natAbs:Z) (b.natAbs:Z)*if [dL a,(1:Z)].getD (0+0) 0=0 then [dL a,(1:Z)].getD (0+1) 0 else [dL a,(1:Z)].getD (0+0) 0)=aX a b:=by
   intro d;refine⟨⟨rfl,rfl,by omega,by omega⟩,by simp,?_⟩;show i64.wrap (aX (a.natAbs:Z) (b.natAbs:Z)*if dL a=0 then 1 else dL a)=aX a b;have e:aX (a.natAbs:Z) (b.natAbs:Z)*(if dL a=0 then 1 else dL a)=aX a b:=by
    unfold dL aX
    (repeat' split)<;>omega
   rw[e,aT (by unfold aX;(repeat' split)<;>omega) (by unfold aX;(repeat' split)<;>omega)]
  have dif:¬(a<0↔b<0)->aX (dL a) (dL b)=aX a b:=by
   intro d;unfold dL aX
   (repeat' split)<;>omega
  rcases AX a 0 with q1|q1<;>rcases AX b 0 with q2|q2
  .rw[show H (a<0)=FR from Y0 q1,show H (b<0)=FR from Y0 q2];exact fin (by omega)
  .rw[show H (a<0)=FR from Y0 q1,show H (b<0)=Aa from Y1 (by omega)];exact dif (by omega)
  .rw[show H (a<0)=Aa from Y1 (by omega),show H (b<0)=FR from Y0 q2];exact dif (by omega)
  .rw[show H (a<0)=Aa from Y1 (by omega),show H (b<0)=Aa from Y1 (by omega)];exact fin (by omega)
 .simp at h
def eF:Ctr AE:=⟨57,vC,λargs w=>Tryz.call57 args w,aO bT Tryz.func57 vC bDH⟩
theorem bHd:bE FN nX:=by
 intro ms p r h c;unfold nX at h;split at h
 .rename_i z;cases h;obtain⟨h1,h2⟩:=c;refine⟨aK [aCx] aC,?_⟩;have f:u64.wrap (pH z (i64.wrap ((0:Z)-z)))=z.natAbs:=by
   by_cases e:z= -9223372036854775808
   .subst e;decide +kernel
   .rw[aT (by omega) (by omega),l8];unfold pH;split<;>omega
  rw[<-bFv z _ rfl _ rfl,f,p32,AF _ (by omega),l7,l7];have d:(R 2 (y 0 [(z.natAbs:Z)%4294967296,(z.natAbs:Z)/4294967296%4294967296]))=[(z.natAbs:Z)%4294967296,(z.natAbs:Z)/4294967296%4294967296]:=rfl;rw[d];have b:wv [(z.natAbs:Z)%4294967296,(z.natAbs:Z)/4294967296%4294967296]=z.natAbs:=by simp only[wv];omega
  rw[b,aVC];refine⟨by omega,⟨by simp,λx a=>?_,by simp⟩,rfl,.inl (by simp)⟩;simp only[A0,List.not_mem_nil,or_false]at a;rcases a with rfl|rfl<;>omega
 .simp at h
def gZ:Ctr AE:=⟨58,nX,λargs w=>Tryz.call58 args w,aM bT Tryz.func58 nX bHd⟩
structure KN (T V P lo u0 u1 u2 vl v1 v2:Int):Prop where
 hT:T=lo+P*(u2+4294967296*u1+4294967296*(4294967296*u0))
 hV:V=vl+P*(v2+4294967296*v1)
 hP:0<P
 hlo:0<=lo/\lo<P
 hvl:0<=vl/\vl<P
 h0:0<=u0/\u0<=v1
 h1:0<=u1/\u1<4294967296
 h2:0<=u2/\u2<4294967296
 hv1:2147483648<=v1/\v1<4294967296
 hv2:0<=v2/\v2<4294967296
 hTV:T<4294967296*V
theorem KN.vpos{T V P f e d c b a v2:Z}(h:KN T V P f e d c b a v2):P*4294967296<=V:=by
 have h1:=h.hvl;have h2:=h.hv1;have h3:=h.hv2;have hP:=h.hP;have h4:P*4294967296<=P*(v2+4294967296*a):=Z7 (by omega) (by omega);rw[h.hV];omega
theorem KN.dec{T V P i f d c b a v2:Z}(h:KN T V P i f d c b a v2){g r:Z}(j:0<=g)(he:g*a+r=f*4294967296+d)(hc:r*4294967296+c<g*v2):T<g*V:=by
 have l:=h.hvl;have h2:=h.hlo;have hP:=h.hP;have h4:0<=g*b:=A2 j l.1;have e:g*V=g*b+P*(g*v2+4294967296*(g*a)):=by rw[h.hV];grind
 have k:P*(c+4294967296*d+4294967296*(4294967296*f)+1)<=P*(g*v2+4294967296*(g*a)):=Z7 (by omega) (by omega);rw[BF P _ 1]at k;rw[e,h.hT];omega
theorem KN.big{T V P f e d c a b v2:Z}(h:KN T V P f e d c a b v2){g:Z}(i:4294967296<=g):T<g*V:=by
 have h1:=h.vpos;have hP:=h.hP;have h2:=h.hTV;have h3:4294967296*V<=g*V:=AR i (by omega);omega
theorem KN.fin{T V P i f d c a b v2:Z}(h:KN T V P i f d c a b v2){g r:Z}(hg:0<=g)(hg2:g<4294967296)(he:g*b+r=f*4294967296+d)(hc:g*v2<=r*4294967296+c):g*V<T+V:=by
 have j:=h.hvl;have h2:=h.hlo;have hP:=h.hP;have hv:=h.vpos;have h4:g*a<=4294967295*a:=AR (by omega) j.1;have h6:4294967295*a<P*4294967296:=by omega
 have e:g*V=g*a+P*(g*v2+4294967296*(g*b)):=by rw[h.hV];grind
 have h5:P*(g*v2+4294967296*(g*b))<=P*(c+4294967296*d+4294967296*(4294967296*f)):=Z7 (by omega) (by omega);rw[e,h.hT];omega
theorem KN.guess{T V P i c b f d a v2:Z}(h:KN T V P i c b f d a v2):T<((c*4294967296+b)/a+1)*V:=by
 have hv1:=h.hv1;have hP:=h.hP;have l:=h.hvl;have h2:=h.hlo;have k:=h.hv2;have hm:=AS (c*4294967296+b) a;have hr:=BB (c*4294967296+b) (show 0<a by omega);have hq:0<=(c*4294967296+b)/a:=A4 (by have:=h.h0;have:=h.h1;omega) (by omega);generalize (c*4294967296+b)/a=g at *;generalize (c*4294967296+b)%a=r at *;have e:(g+1)*V=(g+1)*d+P*((g+1)*v2+4294967296*(a*g+a)):=by rw[h.hV];grind
 have h4:0<=(g+1)*d:=A2 (by omega) l.1;have h6:0<=(g+1)*v2:=A2 (by omega) k.1;have hu2:=h.h2;have j:P*(f+4294967296*b+4294967296*(4294967296*c)+1)<=P*((g+1)*v2+4294967296*(a*g+a)):=Z7 (by omega) (by omega);rw[BF P _ 1]at j;rw[e,h.hT];omega
structure KV (v:List Int):Prop where
 wd:Wd v
 len:2<=v.length
 top:2147483648<=v.getD (v.length-1) 0
theorem mL{P a b:Z}(hP:0<P)(h:P*a<P*b):a<b:=by
 simp_all
theorem KV.split{v:X Z}(h:KV v):wv v=wv (v.take (v.length-2))+4294967296^(v.length-2)*(v.getD (v.length-2) 0+4294967296*v.getD (v.length-1) 0):=by
 have hl:=h.len
 grind [bP,A6,AN]
theorem cB(l:X Z)(k:V):wv l=wv (l.take k)+4294967296^k*wv (l.drop k):=by
 grind [AM,eU,DT,AY,BD,AI,CK,wv]
theorem dU{l:X Z}(h:Wd l)(k:V):0<=wv (l.take k)/\wv (l.take k)<4294967296^k:=by
 have h1:=gD (h.take k);have h2:=bB (h.take k);have h3:=uZ (List.length_take_le k l);omega
theorem aMv(l:X Z)(j i:V):(l.drop j).getD i 0=l.getD (j+i) 0:=by
 simp
theorem KV.nums{v u:FY Z}(h:KV v)(b:Wd u)(j:FW)(n:wv (u.drop j)<4294967296*wv v) :
  KN (wv (u.drop j)) (wv v) (4294967296^(v.length-2)) (wv ((u.drop j).take (v.length-2))) (u.getD (j+v.length) 0) (u.getD (j+v.length-1) 0) (u.getD (j+v.length-2) 0)
   (wv (v.take (v.length-2))) (v.getD (v.length-1) 0) (v.getD (v.length-2) 0)/\wv (u.drop (j+v.length+1))=0:=by
 have hl:=h.len;have o:Wd (u.drop j):=b.drop j;have d0:=cB (u.drop j) (v.length-2);have d1:=fM (a:=u.drop j) (v.length-2);have d2:=fM (a:=u.drop j) (v.length-2+1);have d3:=fM (a:=u.drop j) (v.length-2+1+1);rw[aMv]at d1 d2 d3;rw[show v.length-2+1+1=v.length by omega]at d2 d3;rw[show v.length-2+1=v.length-1 by omega]at d1 d2;rw[CW,CW]at d1 d2 d3;rw[CW]at d0;have i:=h.split;have d:=b7 (v.length-2);have l:=dU o (v.length-2);have k:=dU h.wd (v.length-2);have hv1:=h.wd.getD (v.length-1);have c:=h.wd.getD (v.length-2);have w0:=b.getD (j+v.length);have g:=b.getD (j+(v.length-1));have f:=b.getD (j+(v.length-2));have n1:=bB (b.drop (j+v.length));have n2:=bB (b.drop (j+(v.length+1)));rw[show j+v.length-1=j+(v.length-1) by omega,show j+v.length-2=j+(v.length-2) by omega,show j+v.length+1=j+(v.length+1) by omega];have top:=h.top;generalize hTT:wv (u.drop j)=T at *;generalize hVV:wv v=V at *;generalize wv (v.take (v.length-2))=vl at *;generalize wv ((u.drop j).take (v.length-2))=lo at *;generalize (4294967296:Z)^(v.length-2)=P at *;generalize v.getD (v.length-1) 0=v1 at *;generalize v.getD (v.length-2) 0=v2 at *;generalize u.getD (j+v.length) 0=u0 at *;generalize u.getD (j+(v.length-1)) 0=u1 at *;generalize u.getD (j+(v.length-2)) 0=u2 at *;generalize wv (u.drop (j+v.length))=X at *;generalize wv (u.drop (j+(v.length-1)))=X1 at *;generalize wv (u.drop (j+(v.length-2)))=X2 at *;generalize wv (u.drop (j+(v.length+1)))=Y at *
 have hX:X<=v1:=by
  have m:P*(4294967296*(4294967296*X))<P*(4294967296*(4294967296*(v1+1))):=by
   have k2:P*(4294967296*(4294967296*X))<=T:=by
    rw[d0,d1,d2];have:P*(4294967296*(4294967296*X))<=P*(u2+4294967296*(u1+4294967296*X)):=Z7 (by omega) (by omega);omega
   have k3:4294967296*V<=P*(4294967296*(4294967296*(v1+1))):=by
    have k4:P*(4294967296*(v2+1+4294967296*v1))<=P*(4294967296*(4294967296*(v1+1))):=Z7 (by omega) (by omega)
    grind
   omega
  have:=mL d m;omega
 have e:Y=0:=by omega
 refine⟨⟨?_,i,d,l,k,by omega,g,f,by omega,c,n⟩,e⟩;rw[d0,d1,d2,d3,e]
 grind
section
structure DivS where
 k:Nat
 u:List Int
 q:List Int
structure GuS where
 g:Int
 r:Int
structure MsS where
 i:Nat
 u:List Int
 c:Int
 b:Int
structure KO (A:Int) (la:Nat) (v:List Int) (s:DivS):Prop where
 lu:s.u.length=la+1
 lq:s.q.length=la+1-v.length
 wu:Wd s.u
 wq:Wd s.q
 hk:s.k+v.length<=la+1
 sum:A=wv (s.q.drop s.k)*4294967296^s.k*wv v+wv s.u
 lt:wv s.u<4294967296^s.k*wv v
structure KR (la:Nat) (v u:List Int) (j:Nat):Prop where
 lu:u.length=la+1
 wu:Wd u
 hj:j+v.length<=la
 lt:wv (u.drop j)<4294967296*wv v
theorem KO.round{A:Z}{la:V}{v:X Z}{s:DivS}(h:KO A la v s){j:V}(b:s.k=j+1):KR la v s.u j:=by
 refine⟨h.lu,h.wu,by have:=h.hk;omega,?_⟩;have h1:=cB s.u j;have h2:=dU h.wu j;have c:=h.lt;rw[b,AN]at c;have a:=b7 j;refine mL a ?_;rw[<-B5];omega
structure KG (v u:List Int) (j:Nat) (s:GuS):Prop where
 g0:0<=s.g
 r0:0<=s.r/\s.r<4294967296
 eq:s.g*v.getD (v.length-1) 0+s.r=u.getD (j+v.length) 0*4294967296+u.getD (j+v.length-1) 0
 ge:wv (u.drop j)<(s.g+1)*wv v
structure KP (v u:List Int) (j:Nat) (g:Int):Prop where
 g0:0<=g/\g<4294967296
 ge:wv (u.drop j)<(g+1)*wv v
 le:g*wv v<wv (u.drop j)+wv v
section
variable {la:Nat} {v u:List Int} {j:Nat}
theorem KG.init(hv:KV v)(h:KR la v u j){f:Z}(b:f=u.getD (j+v.length) 0*4294967296+u.getD (j+v.length-1) 0) :
  KG v u j ⟨f/v.getD (v.length-1) 0,f%v.getD (v.length-1) 0⟩:=by
 have a:=(hv.nums h.wu j h.lt).1;have h1:=a.hv1;have h2:=a.h0;have h3:=a.h1;subst b;refine⟨A4 (by omega) (by omega),⟨BU _ (by omega),by have:=BB (u.getD (j+v.length) 0*4294967296+u.getD (j+v.length-1) 0) (show 0<v.getD (v.length-1) 0 by omega);show _%_<_;omega⟩,?_,a.guess⟩;show _/_*_+_%_=_;rw[A5];exact AS _ _
theorem KG.bounds(hv:KV v)(h:KR la v u j){s:GuS}(b:KG v u j s):s.g<=4294967297/\(0<=u.getD (j+v.length) 0/\u.getD (j+v.length) 0<4294967296)/\(0<=u.getD (j+v.length-1) 0/\u.getD (j+v.length-1) 0<4294967296)/\(0<=u.getD (j+v.length-2) 0/\u.getD (j+v.length-2) 0<4294967296)
 /\(2147483648<=v.getD (v.length-1) 0/\v.getD (v.length-1) 0<4294967296)/\(0<=v.getD (v.length-2) 0/\v.getD (v.length-2) 0<4294967296):=by
 have a:=(hv.nums h.wu j h.lt).1;have d:=a.hv1;have h2:=a.h0;have c:=a.h1;refine⟨?_,by omega,c,a.h2,d,a.hv2⟩;have he:=b.eq;have hr:=b.r0;have hg:=b.g0;rcases AX 4294967297 s.g with q|q
 .have:4294967298*v.getD (v.length-1) 0<=s.g*v.getD (v.length-1) 0:=AR (by omega) (by omega);omega
 .exact q
theorem KG.down(hv:KV v)(h:KR la v u j){s:GuS}(a:KG v u j s)(hc:4294967295<s.g\/s.r*4294967296+u.getD (j+v.length-2) 0<s.g*v.getD (v.length-2) 0):wv (u.drop j)<s.g*wv v/\1<=s.g:=by
 have b:=(hv.nums h.wu j h.lt).1;have d:=a.g0;have c:wv (u.drop j)<s.g*wv v:=by
  rcases hc with hc|hc
  .exact b.big (by omega)
  .exact b.dec d a.eq hc
 refine⟨c,?_⟩;rcases AX 0 s.g with q|q
 .omega
 .have:s.g=0:=by omega
  rw[this,EP]at c;have:=bB (h.wu.drop j);omega
theorem KG.step(hv:KV v)(h:KR la v u j){s:GuS}(a:KG v u j s)(c:4294967295<s.g\/s.r*4294967296+u.getD (j+v.length-2) 0<s.g*v.getD (v.length-2) 0)(hr:¬ 4294967295<s.r+v.getD (v.length-1) 0):KG v u j ⟨s.g-1,s.r+v.getD (v.length-1) 0⟩:=by
 have b:=a.down hv h c;have hb:=a.bounds hv h;have hr0:=a.r0;refine⟨by show 0<=s.g-1;omega,by show 0<=s.r+_/\s.r+_<_;omega,?_,?_⟩
 .show(s.g-1)*_+(s.r+_)=_;have:=a.eq;rw[CE];omega
 .show _<(s.g-1+1)*_;rw[D4];exact b.1
theorem KG.stop(hv:KV v)(h:KR la v u j){s:GuS}(a:KG v u j s)(e:4294967295<s.g\/s.r*4294967296+u.getD (j+v.length-2) 0<s.g*v.getD (v.length-2) 0)(hr:4294967295<s.r+v.getD (v.length-1) 0):KP v u j (s.g-1):=by
 have b:=(hv.nums h.wu j h.lt).1;have d:=a.down hv h e;have f:=a.bounds hv h;have he:=a.eq;have h0:=b.h0;have c:s.g-1<4294967296:=by
  rcases AX (s.g-1) 4294967296 with q|q
  .exact q
  .have:4294967296*v.getD (v.length-1) 0<=(s.g-1)*v.getD (v.length-1) 0:=AR q (by omega);rw[CE]at this;omega
 refine⟨by omega,by rw[D4];exact d.1,?_⟩;refine b.fin (r:=s.r+v.getD (v.length-1) 0) (by omega) c (by rw[CE];omega) ?_;have:(s.g-1)*v.getD (v.length-2) 0<=4294967295*v.getD (v.length-2) 0:=AR (by omega) f.2.2.2.2.2.1;omega
theorem KG.done(hv:KV v)(h:KR la v u j){s:GuS}(a:KG v u j s)(h1:¬ 4294967295<s.g)(h2:¬s.r*4294967296+u.getD (j+v.length-2) 0<s.g*v.getD (v.length-2) 0):KP v u j s.g :=
 ⟨⟨a.g0,by omega⟩,a.ge,(hv.nums h.wu j h.lt).1.fin a.g0 (by omega) a.eq (by omega)⟩
structure KM (v u:List Int) (j:Nat) (g:Int) (s:MsS):Prop where
 hi:s.i<=v.length
 len:s.u.length=u.length
 wd:Wd s.u
 c0:0<=s.c/\s.c<4294967296
 b0:0<=s.b/\s.b<=1
 rest:s.u.drop (j+s.i)=u.drop (j+s.i)
 sum:wv (s.u.take (j+s.i))-4294967296^(j+s.i)*(s.c+s.b)=wv (u.take (j+s.i))-4294967296^j*(g*wv (v.take s.i))
theorem KM.init(a:Wd u)(g:Z):KM v u j g ⟨0,u,0,0⟩ :=
 ⟨Z9 _,rfl,a,⟨BY _,by show(0:Z)<4294967296;omega⟩,⟨BY _,by show(0:Z)<=1;omega⟩,rfl,by simp[wv]⟩
theorem aT4{g x c:Z}(b:0<=g/\g<4294967296)(a:0<=x/\x<4294967296)(hc:0<=c/\c<4294967296):0<=g*x/\g*x<18446744065119617026/\0<=g*x+c/\g*x+c<18446744069414584321:=by
 have h1:=A2 b.1 a.1;have h2:g*x<=4294967295*4294967295:=C0 (by omega) (by omega) a.1 (by omega);omega
theorem KM.step(hv:Wd v){g:Z}(l:0<=g/\g<4294967296){s:MsS}(a:KM v u j g s)(hi:s.i<v.length)(hl:j+v.length<u.length){t:Z}(ht:t=g*v.getD s.i 0+s.c) :
  KM v u j g ⟨s.i+1,s.u.set (s.i+j) ((s.u.getD (s.i+j) 0-t%4294967296-s.b)%4294967296),t/4294967296,if s.u.getD (s.i+j) 0<t%4294967296+s.b then 1 else 0⟩:=by
 have h:=hv.getD s.i;have hm:=aT4 l h a.c0;have h1:=a.wd.getD (j+s.i);have hb:=a.b0;have hc:=a.c0;have f:=a.len;have k:s.u.getD (j+s.i) 0=u.getD (j+s.i) 0:=gB a.rest _ (Z0 _);rw[EO s.i j];refine⟨by show s.i+1<=_;omega,by simp[f],a.wd.set _ (by omega),?_,?_,?_,?_⟩
 .show 0<=t/4294967296/\t/4294967296<_;omega
 .show 0<=(if _ then (1:Z)else 0)/\(if _ then (1:Z)else 0)<=1;split<;>omega
 .show(s.u.set (j+s.i) _).drop (j+s.i+1)=u.drop (j+s.i+1);rw[iG];exact fK a.rest
 .show wv ((s.u.set (j+s.i) _).take (j+s.i+1))-4294967296^(j+s.i+1)*(t/4294967296+if _ then 1 else 0)=wv (u.take (j+s.i+1))-4294967296^j*(g*wv (v.take (s.i+1)));rw[jC _ (by omega),bP,bP,<-k,AN];have h4:=a.sum;have h5:s.u.getD (j+s.i) 0-t=(s.u.getD (j+s.i) 0-t%4294967296-s.b)%4294967296+s.b-4294967296*(t/4294967296+if s.u.getD (j+s.i) 0<t%4294967296+s.b then 1 else 0):=by
   split<;>omega
  have m:(4294967296:Z)^(j+s.i)=4294967296^j*4294967296^s.i:=CF ..;generalize (s.u.getD (j+s.i) 0-t%4294967296-s.b)%4294967296=d at *;generalize (t/4294967296+if s.u.getD (j+s.i) 0<t%4294967296+s.b then 1 else 0)=e at *;generalize s.u.getD (j+s.i) 0=o at *;generalize v.getD s.i 0=x at *;generalize wv (s.u.take (j+s.i))=a1 at *;generalize wv (u.take (j+s.i))=a2 at *;generalize wv (v.take s.i)=a3 at *;generalize (4294967296:Z)^(j+s.i)=P at *;generalize (4294967296:Z)^j=Q at *;generalize (4294967296:Z)^s.i=R at *;subst m
  grind
structure KS (v u:List Int) (j:Nat) (g:Int) (s:MsS):Prop where
 len:s.u.length=u.length
 wd:Wd s.u
 b0:0<=s.b/\s.b<=1
 high:s.u.drop (j+v.length+1)=u.drop (j+v.length+1)
 sum:wv s.u=wv u-4294967296^j*(g*wv v)+4294967296^(j+v.length+1)*s.b
theorem KM.top{g:Z}{s:MsS}(a:KM v u j g s)(n:s.i=v.length)(hl:j+v.length<u.length){x:Z}(h:x=s.u.getD (j+v.length) 0) :
  KS v u j g ⟨0,s.u.set (j+v.length) ((x-s.c%4294967296-s.b)%4294967296),0,if x<s.c%4294967296+s.b then 1 else 0⟩:=by
 have p:=a.wd.getD (j+v.length);rw[<-h]at p;have hb:=a.b0;have hc:=a.c0;have d:=a.len;have l:=a.sum;have f:=a.rest;rw[n]at l f;rw[A6]at l;have m:s.u.getD (j+v.length) 0=u.getD (j+v.length) 0:=gB f _ (Z0 _);refine⟨by simp[d],a.wd.set _ (by omega),?_,by show(s.u.set (j+v.length) _).drop (j+v.length+1)=_;rw[iG];exact fK f,?_⟩
 .show 0<=(if _ then (1:Z)else 0)/\(if _ then (1:Z)else 0)<=1;split<;>omega
 .show wv (s.u.set (j+v.length) _)=_-_+_*(if _ then 1 else 0);rw[cB (s.u.set (j+v.length) _) (j+v.length+1),jC _ (by omega),iG,fK f,AN];have k:=cB u (j+v.length+1);rw[bP,AN,<-m,<-h]at k;have o:(x-s.c%4294967296-s.b)%4294967296=x-(s.c+s.b)+4294967296*(if x<s.c%4294967296+s.b then 1 else 0):=by
   split<;>omega
  rw[o,k];generalize (if x<s.c%4294967296+s.b then (1:Z)else 0)=e at *;generalize wv (s.u.take (j+v.length))=a1 at *;generalize wv (u.take (j+v.length))=a2 at *;generalize wv (u.drop (j+v.length+1))=a4 at *;generalize wv v=V at *;generalize (4294967296:Z)^(j+v.length)=P at *;generalize (4294967296:Z)^j=Q at *
  grind
structure KE (A:Int) (la:Nat) (v q:List Int) (j:Nat) (s:MsS):Prop where
 hj:j+v.length<=la
 lq:q.length=la+1-v.length
 wq:Wd q
 lu:s.u.length=la+1
 wu:Wd s.u
 c0:0<=s.c/\s.c<4294967296
 sum:A=wv (q.drop (j+1))*4294967296^(j+1)*wv v+4294967296^j*(s.c*wv v)+wv s.u
 lt:wv s.u<4294967296^j*wv v
theorem KS.good{A:Z}{s:DivS}(h:KO A la v s)(e:s.k=j+1){g:Z}(d:KP v s.u j g){t:MsS}(c:KS v s.u j g t)(l:t.b=0):KE A la v s.q j ⟨0,t.u,g,0⟩:=by
 have i:=h.round e;have f:=h.sum;have a:=c.sum;rw[l,CO,CP]at a;rw[e]at f;refine⟨i.hj,h.lq,h.wq,by show t.u.length=_;rw[c.len,h.lu],c.wd,d.g0,?_,?_⟩
 .show A=_+_*(g*_)+wv t.u;rw[a];omega
 .show wv t.u<_;have n:=cB s.u j;have h2:=dU h.wu j;have hP:=b7 j;have hge:=d.ge;rw[a,n];have m:(4294967296:Z)^j*(wv (s.u.drop j)+1)<=4294967296^j*((g+1)*wv v):=Z7 (by omega) (by omega);rw[DC,CZ,BF,BF]at m;omega
theorem KS.bad{s:MsS}{g:Z}(hv:KV v)(h:KR la v u j)(f:KP v u j g)(a:KS v u j g s)(hb:0<s.b):s.b=1/\1<=g/\wv (u.drop j)<g*wv v:=by
 have hb0:=a.b0;have c:s.b=1:=by omega
 have d:=a.sum;rw[c,CG]at d;have h1:=cB u j;have h2:=dU h.wu j;have hP:=b7 j;have hlt:=gD a.wd;have i:=hv.nums h.wu j h.lt
 have e:wv (u.drop j)<g*wv v:=by
  rcases AX (wv (u.drop j)) (g*wv v)with q|q
  .exact q
  .have h3:(4294967296:Z)^j*(g*wv v)<=4294967296^j*wv (u.drop j):=Z7 q (by omega);have k:=cB s.u (j+v.length+1);have h5:=dU a.wd (j+v.length+1);rw[a.high,i.2,CO,CP]at k;omega
 refine⟨c,?_,e⟩;rcases AX 0 g with q|q
 .omega
 .have:g=0:=by have:=f.g0;omega
  rw[this,EP]at e;have:=bB (h.wu.drop j);omega
structure KA (v u:List Int) (j:Nat) (s:MsS):Prop where
 hi:s.i<=v.length
 len:s.u.length=u.length
 wd:Wd s.u
 c0:0<=s.c/\s.c<=1
 rest:s.u.drop (j+s.i)=u.drop (j+s.i)
 sum:wv (s.u.take (j+s.i))+4294967296^(j+s.i)*s.c=wv (u.take (j+s.i))+4294967296^j*wv (v.take s.i)
theorem KA.init(a:Wd u):KA v u j ⟨0,u,0,0⟩ :=
 ⟨Z9 _,rfl,a,⟨BY _,by show(0:Z)<=1;omega⟩,rfl,by simp[wv]⟩
theorem KA.step(hv:Wd v){s:MsS}(a:KA v u j s)(hi:s.i<v.length)(hl:j+v.length<u.length)(b:Z) :
  KA v u j ⟨s.i+1,s.u.set (s.i+j) ((s.u.getD (s.i+j) 0+v.getD s.i 0+s.c)%4294967296),(s.u.getD (s.i+j) 0+v.getD s.i 0+s.c)/4294967296,b⟩:=by
 have hx:=hv.getD s.i;have h1:=a.wd.getD (j+s.i);have hc:=a.c0;have f:=a.len;have g:s.u.getD (j+s.i) 0=u.getD (j+s.i) 0:=gB a.rest _ (Z0 _);rw[EO s.i j];refine⟨by show s.i+1<=_;omega,by simp[f],a.wd.set _ (by omega),by show 0<=_/4294967296/\_/4294967296<=(1:Z);omega,?_,?_⟩
 .show(s.u.set (j+s.i) _).drop (j+s.i+1)=u.drop (j+s.i+1);rw[iG];exact fK a.rest
 .show wv ((s.u.set (j+s.i) _).take (j+s.i+1))+4294967296^(j+s.i+1)*(_/4294967296)=wv (u.take (j+s.i+1))+4294967296^j*wv (v.take (s.i+1));rw[jC _ (by omega),bP,bP,<-g,AN];have h4:=a.sum;have h5:=AS (s.u.getD (j+s.i) 0+v.getD s.i 0+s.c) 4294967296;have h:(4294967296:Z)^(j+s.i)=4294967296^j*4294967296^s.i:=CF ..;generalize (s.u.getD (j+s.i) 0+v.getD s.i 0+s.c)%4294967296=d at *;generalize (s.u.getD (j+s.i) 0+v.getD s.i 0+s.c)/4294967296=e at *;generalize s.u.getD (j+s.i) 0=o at *;generalize v.getD s.i 0=x at *;generalize wv (s.u.take (j+s.i))=a1 at *;generalize wv (u.take (j+s.i))=a2 at *;generalize wv (v.take s.i)=a3 at *;generalize (4294967296:Z)^(j+s.i)=P at *;generalize (4294967296:Z)^j=Q at *;generalize (4294967296:Z)^s.i=R at *;subst h
  grind
theorem KS.back{A:Z}(hv:KV v){s:DivS}(h:KO A la v s)(F:s.k=j+1){g:Z}(B:KP v s.u j g){t:MsS}(z:KS v s.u j g t)(N:0<t.b){r:MsS}(m:KA v t.u j r)(M:r.i=v.length){x:Z}(J:x=(r.u.getD (j+v.length) 0+r.c)%4294967296):KE A la v s.q j ⟨0,r.u.set (j+v.length) x,g-1,0⟩:=by
 have d:=h.round F;have w:=z.sum;obtain⟨E,hg1,hlt⟩:=z.bad hv d B N;rw[E,CG]at w;have K:=h.sum;rw[F]at K;have hc:=m.c0;have h1:=m.wd.getD (j+v.length);have hg:=B.g0;have n:=m.sum;have a:=m.rest;rw[M]at n a;rw[A6]at n;have y:r.u.length=la+1:=by rw[m.len,z.len,h.lu]
 have hjl:=d.hj;have L:r.u.getD (j+v.length) 0=t.u.getD (j+v.length) 0:=gB a _ (Z0 _)
 have p:∃e:Z,0<=e/\e<=1/\wv (r.u.set (j+v.length) x)+4294967296^(j+v.length+1)*e=wv t.u+4294967296^j*wv v:=by
  refine⟨(r.u.getD (j+v.length) 0+r.c)/4294967296,by omega,by omega,?_⟩;rw[cB (r.u.set (j+v.length) x) (j+v.length+1),jC _ (by omega),iG,fK a,AN];have H:=cB t.u (j+v.length+1);rw[bP,AN,<-L]at H;have O:=AS (r.u.getD (j+v.length) 0+r.c) 4294967296;rw[<-J]at O;rw[H];generalize (r.u.getD (j+v.length) 0+r.c)/4294967296=e at *;generalize r.u.getD (j+v.length) 0=o at *;generalize wv (r.u.take (j+v.length))=a1 at *;generalize wv (t.u.take (j+v.length))=a2 at *;generalize wv (t.u.drop (j+v.length+1))=a4 at *;generalize wv v=V at *;generalize (4294967296:Z)^(j+v.length)=P at *;generalize (4294967296:Z)^j=Q at *
  grind
 have l:Wd (r.u.set (j+v.length) x):=m.wd.set _ (by omega);obtain⟨e,he0,he1,G⟩:=p;have h3:=cB s.u j;have h4:=dU h.wu j;have hP:=b7 j
 have hle:=B.le;have b1:(4294967296:Z)^j*(g*wv v+1)<=4294967296^j*(wv (s.u.drop j)+wv v):=Z7 (by omega) (by omega);have R:(4294967296:Z)^j*(wv (s.u.drop j)+1)<=4294967296^j*(g*wv v):=Z7 (by omega) (by omega);rw[BF,BF,CG]at b1;rw[BF,CG]at R;have hvn:=gD hv.wd;have C:(4294967296:Z)^j*wv v<=4294967296^j*4294967296^v.length:=Z7 (by omega) (by omega);rw[<-CF]at C;have hQ:(4294967296:Z)^(j+v.length+1)=4294967296^(j+v.length)*4294967296:=AN ..;have hQ0:=b7 (j+v.length);have hn0:=bB l;have hnx:wv (r.u.set (j+v.length) x)<4294967296^(j+v.length+1):=by
  have I:=cB (r.u.set (j+v.length) x) (j+v.length+1);rw[iG,fK a,z.high,(hv.nums h.wu j d.lt).2,CO,CP]at I;have k2:=dU l (j+v.length+1);omega
 have D:e=1:=by
  rcases(show e=0\/e=1 by omega)with q|q
  .rw[q,CO,CP]at G;omega
  .exact q
 rw[D,CG]at G;have f:wv (r.u.set (j+v.length) x)=wv s.u-4294967296^j*(g*wv v)+4294967296^j*wv v:=by omega
 refine⟨d.hj,h.lq,h.wq,by simp[y],l,by show 0<=g-1/\g-1<_;omega,?_,?_⟩
 .show A=_+_*((g-1)*_)+wv (r.u.set (j+v.length) x);rw[f,CE,Int.mul_sub,CZ];omega
 .show wv (r.u.set (j+v.length) x)<_;rw[f];omega
theorem KE.next{A:Z}{q:X Z}{s:MsS}(h:KE A la v q j s):KO A la v ⟨j,s.u,q.set j s.c⟩:=by
 have h1:=h.hj;have d:=h.lq;refine⟨h.lu,by simp[d],h.wu,h.wq.set _ h.c0,by show j+v.length<=la+1;omega,?_,h.lt⟩;show A=wv ((q.set j s.c).drop j)*_*_+wv s.u;rw[rA (by simp;omega),iG,show(q.set j s.c).getD j 0=s.c by simp[show j<q.length by omega]];have b:=h.sum;rw[AN]at b;simp only[wv];generalize wv (q.drop (j+1))=a at *;generalize (4294967296:Z)^j=P at *
 grind
theorem KO.start{A:Z}{u:X Z}(hl:v.length<=la)(c:Wd u)(b:u.length=la+1)(d:A=wv u)(a:wv u<4294967296^(la+1-v.length)*wv v) :
  KO A la v ⟨la+1-v.length,u,G (la+1-v.length) 0⟩ :=
 ⟨b,by simp,c,Wd.replicate _,by show la+1-v.length+v.length<=la+1;omega,by
  show A=wv ((G (la+1-v.length) 0).drop (la+1-v.length))*_*_+wv u;rw[CK (by simp)];simp[wv,d],a⟩
theorem KO.fin{a b c:Z}{s:DivS}(hv:KV v)(h:KO (a*2^c.toNat) la v s)(t:s.k=0)(hb:0<b)(m:wv v=b*2^c.toNat):wv s.q=a/b/\wv s.u/2^c.toNat=a%b/\wv (s.u.take v.length)=wv s.u:=by
 have o:=h.sum;have d:=h.lt;have h3:=bB h.wu;rw[t]at o d;simp only[A8,Int.pow_zero,CG,CZ]at o d;have n:(0:Z)<2^c.toNat:=BX (by omega);have i:wv s.u=(a-wv s.q*b)*2^c.toNat:=by rw[CE,B5,<-m];omega
 have g:0<=a-wv s.q*b:=by
  rcases AX (a-wv s.q*b) 0 with q|q
  .have:=Int.mul_lt_mul_of_pos_right q n;omega
  .exact q
 have f:a-wv s.q*b<b:=by
  refine mL n ?_;rw[A5,<-i,A5,<-m];exact d
 have l:wv s.q=a/b:=by
  have:=AS a b;have e:a=(a-wv s.q*b)+b*wv s.q:=by rw[A5 b];omega
  rw[e,CV _ _ (by omega),B2 g f];omega
 refine⟨l,?_,?_⟩
 .rw[i,Int.mul_ediv_cancel _ (by omega)];have:=AS a b;rw[A5,<-l]at this;omega
 .have p:=cB s.u v.length;have k2:=bB (h.wu.drop v.length);have k3:=bB (h.wu.take v.length);have hpos:=b7 v.length;have r:wv (s.u.drop v.length)=0:=by
   rcases AX 0 (wv (s.u.drop v.length))with q|q
   .have k4:(4294967296:Z)^v.length*1<=4294967296^v.length*wv (s.u.drop v.length):=Z7 (by omega) (by omega);have hvl:=gD hv.wd;omega
   .omega
  rw[r]at p;omega
end
end
end
end Go.Proofs.YtkejceafemeifaaGreatDoor
